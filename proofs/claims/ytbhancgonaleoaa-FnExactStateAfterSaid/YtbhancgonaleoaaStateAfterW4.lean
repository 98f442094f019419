/- Walks: each Go function returns what its Lean function says. By program. -/
import Derived.Test.YtbhancgonaleoaaStateAfterFa
import Derived.Test.YtbhancgonaleoaaStateAfterW3
set_option linter.unusedVariables false
set_option maxRecDepth 100000
set_option maxHeartbeats 1000000
namespace Go.VK
open Go.RowKit
open Go.Proofs
attribute [local irreducible] CW RW RA CV Y Yw Yc Ys RetOf
attribute [local irreducible] F_laws_szGateS F_laws_szCircuit F_spec_l1In F_spec_l4Gate F_spec_l4Good F_spec_l2C_matrix F_spec_l1All F_spec_l1Good F_spec_l2C_ring F_spec_l1Root F_spec_l1Even F_spec_l1Half F_spec_l2Low F_spec_l1Add F_spec_l2C_add F_spec_l1Mul F_spec_l2C_mul F_spec_l2C_times F_spec_l1Turn F_spec_l2Power F_spec_l6Bit F_spec_l1Neg F_spec_l2Neg F_spec_l6One F_spec_l6Cell F_spec_l6Gate F_spec_l2C_run F_spec_l3Column F_spec_l3Unit F_spec_StateAfter F_laws_toGate F_laws_toGateS F_laws_toCircuit F_impl_within F_slices_IndexFunc_impl_Gate_impl_Gate F_slices_ContainsFunc_impl_Gate_impl_Gate F_impl_isTwo F_impl_IsValidGate F_impl_IsValidCircuit_1 F_impl_IsValidCircuit F_impl_isDim F_impl_matrixOf F_impl_whole F_impl_IdentityMatrix_1 F_impl_IdentityMatrix F_slices_IndexFunc_impl_Dyadic_impl_Dyadic F_slices_ContainsFunc_impl_Dyadic_impl_Dyadic F_impl_isCoef F_impl_IsValidRing F_impl_isEven F_impl_IsValidDyadic F_impl_IsValidMatrix_1 F_impl_IsValidMatrix F_impl_Matrix_at F_impl_ColumnOf_1 F_impl_ColumnOf F_impl_MulOmega F_impl_phase F_impl_bitOf F_impl_flipped F_impl_comesFrom F_impl_small F_impl_entry F_impl_GateMatrix_1 F_impl_GateMatrix F_impl_ringIf F_impl_MulRing F_impl_DivRootTwo F_impl_DyadicOf F_impl_MulDyadic F_impl_MulRootTwo F_impl_raised F_impl_combined F_impl_AddRing F_impl_AddDyadic F_impl_MulMatrix_1 F_impl_MulMatrix F_impl_applied F_impl_StateAfter F_laws_eqRing F_laws_eqDyadic F_laws_eqDyadicS F_laws_eqMatrix F_laws_eqGate F_laws_eqGateS F_laws_eqCircuit F_laws_markGateS F_laws_markCircuit F_laws_markDyadicS F_laws_markMatrix F_laws_heldDyadicS F_laws_heldMatrix F_laws_FnExactStateAfter
theorem c_impl_DyadicOf (num : TRing) (exp : Int)  (w0 : World)  (hS : ST w0 [] w0 [] []) {r_ : TDyadic} {r_1 : Bool} (hF : F_impl_DyadicOf num exp = some (r_, r_1)) :
    CV Try.prog 158 #[.agg #[.int .i64 num.A, .int .i64 num.B, .int .i64 num.C, .int .i64 num.D], .int .i64 exp] w0 (fun v w' => v = .tuple #[.agg #[.int .i64 r_.Num.A, .int .i64 r_.Num.B, .int .i64 r_.Num.C, .int .i64 r_.Num.D, .int .i64 r_.Exp], .bool r_1] ∧ ST w0 [] w' [] []) := by
  unfold F_impl_DyadicOf at hF
  refine cv_of_cw 31 Try.func158 rfl Try.ntmps158 rfl ?_
  refine cw_seq ?_
  refine cw_region ?_
  refine ss 2 rfl rfl (Ys_box (T := 114) (v := .agg #[.int .i64 num.A, .int .i64 num.B, .int .i64 num.C, .int .i64 num.D]) (cs := [.int .i64 num.A, .int .i64 num.B, .int .i64 num.C, .int .i64 num.D]) (m := 4) hS rfl rfl rfl rfl) ?_
  rintro _ w_ ⟨b, rfl, hS1⟩
  refine ss 4 rfl rfl (Ys_alloc (T := 116) (cs := [.int .i64 0, .int .i64 0, .int .i64 0, .int .i64 0, .int .i64 0]) (m := 5) hS1 k_zero_116 rfl rfl rfl) ?_
  rintro _ w_1 ⟨b1, rfl, hS2⟩
  have hS2 : ST w0 [] _ [⟨some ⟨b, 0, none⟩, 114, [.int .i64 num.A, .int .i64 num.B, .int .i64 num.C, .int .i64 num.D], 4⟩, ⟨some ⟨b1, 0, none⟩, 116, [.int .i64 0, .int .i64 0, .int .i64 0, .int .i64 0, .int .i64 0], 5⟩] [] := hS2
  refine sq 5 rfl rfl (Y_assign (v := .bool false) rfl rfl) ?_
  refine rw_nil ?_
  refine cw_seq ?_
  refine cw_seq ?_
  refine cw_region ?_
  refine sq 6 rfl rfl (Y_loadA (B := some ⟨b, 0, none⟩) (i := 0) (cs := [.int .i64 num.A, .int .i64 num.B, .int .i64 num.C, .int .i64 num.D]) (vs := [.int .i64 num.A, .int .i64 num.B, .int .i64 num.C, .int .i64 num.D]) k_ag_114 k_sz_114_4 rfl rfl (hS2.cf (i := 0) rfl) rfl rfl) ?_
  obtain ⟨r_2, hc, hF⟩ := bind_inv hF
  refine sc 7 rfl rfl (Yc_func (g := 154) (vs := [.agg #[.int .i64 num.A, .int .i64 num.B, .int .i64 num.C, .int .i64 num.D]]) k_call_154 rfl (mc rfl mn) (c_impl_IsValidRing num _  (hS2.inn0 [] rfl) hc)) ?_
  rintro _ w_2 ⟨rfl, hd⟩
  have hS3 := hS2.out00 hd
  have hS3 : ST w0 [] _ [⟨some ⟨b, 0, none⟩, 114, [.int .i64 num.A, .int .i64 num.B, .int .i64 num.C, .int .i64 num.D], 4⟩, ⟨some ⟨b1, 0, none⟩, 116, [.int .i64 0, .int .i64 0, .int .i64 0, .int .i64 0, .int .i64 0], 5⟩] [] := hS3
  refine sq 8 rfl rfl (Y_not (p := r_2) rfl rfl) ?_
  refine sq 9 rfl rfl (Y_move (v := .bool (!r_2)) rfl rfl) ?_
  refine sgq 10 (B := (!(!r_2))) (v := .int .i64 exp) rfl rfl (wt_f (gd_of (t := 9) (by kernel_rfl) rfl)) (fun hg => (Y_move (v := .int .i64 exp) rfl rfl)) ?_
  obtain ⟨r_3, hc1, hF⟩ := bind_inv hF
  refine sgc 11 (B := (!(!r_2))) (v := .bool r_3) (F := hS3.fn) rfl rfl (wt_f (gd_of (t := 9) (by kernel_rfl) rfl)) hS3 (fun hg1 => (Yc_func (g := 36) (vs := [.int .i64 exp, .int .i64 0, .int .i64 60]) k_call_36 rfl (mc (gv_of (B := (!(!r_2))) (v := .int .i64 exp) hg1) (mc rfl (mc rfl mn))) (CV.mono (c_impl_within exp 0 60 _  (hS3.inn0 [] rfl) (gb_inv hc1 hg1)) (by rintro _ _ ⟨rfl, h⟩; exact ⟨rfl, hS3.out00 h⟩)))) ?_
  rintro w_3 hS4
  have hS4 : ST _ _ w_3 _ _ := hS4
  refine sgq 12 (B := (!(!r_2))) (v := .bool (!r_3)) rfl rfl (wt_f (gd_of (t := 9) (by kernel_rfl) rfl)) (fun hg2 => (Y_not (p := r_3) rfl (gv_of (B := (!(!r_2))) (v := .bool r_3) hg2))) ?_
  refine sq 13 rfl rfl (Y_or (b := (!r_2)) (z := (!r_3)) rfl rfl rfl rfl) ?_
  refine rw_nil ?_
  refine cw_cond (b := ((!r_2) || (!r_3))) rfl (fun hb => ?_) (fun hb => ?_)
  · skip
    have hF1 := ct hF hb
    refine cw_seq ?_
    refine cw_region ?_
    refine sq 14 rfl rfl (Y_buildS (zs := [.int .i64 0, .int .i64 0, .int .i64 0, .int .i64 0, .int .i64 0]) (vs := []) (cs := [.int .i64 0, .int .i64 0, .int .i64 0, .int .i64 0, .int .i64 0]) k_pl_116 k_zero_116 rfl mpn rfl) ?_
    refine ss0 rfl rfl (Ys_store (i := 1) (s := 5) (B := some ⟨b1, 0, none⟩) (T' := 116) (v := .agg #[.int .i64 0, .int .i64 0, .int .i64 0, .int .i64 0, .int .i64 0]) (vs := [.int .i64 0, .int .i64 0, .int .i64 0, .int .i64 0, .int .i64 0]) (k := 0) (cs' := [.int .i64 0, .int .i64 0, .int .i64 0, .int .i64 0, .int .i64 0]) hS4 k_sz_116_5 rfl rfl rfl rfl rfl rfl rfl (Nat.le_of_ble_eq_true rfl) rfl rfl) ?_
    rintro _ w_4 ⟨rfl, hS5⟩
    have hS5 : ST w0 [] _ [⟨some ⟨b, 0, none⟩, 114, [.int .i64 num.A, .int .i64 num.B, .int .i64 num.C, .int .i64 num.D], 4⟩, ⟨some ⟨b1, 0, none⟩, 116, [.int .i64 0, .int .i64 0, .int .i64 0, .int .i64 0, .int .i64 0], 5⟩] [] := hS5
    refine sq 5 rfl rfl (Y_assign (v := .bool false) rfl rfl) ?_
    refine rw_nil ?_
    refine cw_ret ?_
    obtain ⟨rfl, rfl⟩ := pr2 (some_inj hF1)
    exact ret2 Try.results158 (v1 := .agg #[.int .i64 0, .int .i64 0, .int .i64 0, .int .i64 0, .int .i64 0]) (resAt_cellA (B := some ⟨b1, 0, none⟩) (i := 0) (cs := [.int .i64 0, .int .i64 0, .int .i64 0, .int .i64 0, .int .i64 0]) (vs := [.int .i64 0, .int .i64 0, .int .i64 0, .int .i64 0, .int .i64 0]) rfl k_ag_116 k_sz_116_5 (hS5.cf (i := 1) rfl) rfl rfl) (v2 := .bool false) (resAt_tmp rfl) ⟨rfl, (ST.subR (R' := []) (hS5.sel [] rfl rfl) (fun _ h => by cases h))⟩
  · skip
    have hF2 := cf' hF hb
    refine cw_skip ?_
    refine cw_seq ?_
    obtain ⟨z, hz, hF3⟩ := bind_inv hF2
    refine cw_block ?_
    refine cw_loop (fun k f w => ∃ (exp1 : Int) (A : Int) (B : Int) (C : Int) (D : Int), FF f [(1, .int .i64 exp1), (2, pt (some ⟨b, 0, none⟩) 0), (4, pt (some ⟨b1, 0, none⟩) 0)] ∧ ST w0 [] w [⟨some ⟨b, 0, none⟩, 114, [.int .i64 A, .int .i64 B, .int .i64 C, .int .i64 D], 4⟩, ⟨some ⟨b1, 0, none⟩, 116, [.int .i64 0, .int .i64 0, .int .i64 0, .int .i64 0, .int .i64 0], 5⟩] [] ∧ whX F_impl_DyadicOf_l1 k (exp1, A, B, C, D) = some z) fuel ⟨exp, num.A, num.B, num.C, num.D, (FF.cons rfl (FF.cons rfl (FF.cons rfl FF.nil))), (hS4.sel [0, 1] rfl rfl), hz⟩ ?_
    rintro k_ f w ⟨exp1, A, B, C, D, hf, hS6, hL⟩
    obtain ⟨k_1, y, rfl, hb1, hL1⟩ := whX_go hL
    unfold F_impl_DyadicOf_l1 at hb1
    refine cw_seq ?_
    refine cw_seq ?_
    refine cw_region ?_
    refine sq 15 rfl rfl (Y_move (v := .int .i64 exp1) rfl (hf.get 1 0 rfl)) ?_
    refine sq 16 rfl rfl (Y_gt (k := .i64) (a := exp1) (b := 0) rfl rfl rfl) ?_
    refine sq 17 rfl rfl (Y_move (v := .bool (decide (0 < exp1))) rfl rfl) ?_
    refine sgq 18 (B := (decide (0 < exp1))) (v := .agg #[.int .i64 A, .int .i64 B, .int .i64 C, .int .i64 D]) rfl rfl (wt_t (gd_of (t := 17) (by kernel_rfl) rfl)) (fun hg3 => (Y_loadA (B := some ⟨b, 0, none⟩) (i := 0) (cs := [.int .i64 A, .int .i64 B, .int .i64 C, .int .i64 D]) (vs := [.int .i64 A, .int .i64 B, .int .i64 C, .int .i64 D]) k_ag_114 k_sz_114_4 rfl (hf.get 2 1 rfl) (hS6.cf (i := 0) rfl) rfl rfl)) ?_
    obtain ⟨r_4, hc2, hb1⟩ := bind_inv hb1
    refine sgc 19 (B := (decide (0 < exp1))) (v := .bool r_4) (F := hS6.fn) rfl rfl (wt_t (gd_of (t := 17) (by kernel_rfl) rfl)) hS6 (fun hg4 => (Yc_func (g := 155) (vs := [.agg #[.int .i64 A, .int .i64 B, .int .i64 C, .int .i64 D]]) k_call_155 rfl (mc (gv_of (B := (decide (0 < exp1))) (v := .agg #[.int .i64 A, .int .i64 B, .int .i64 C, .int .i64 D]) hg4) mn) (CV.mono (c_impl_isEven (TRing.mk A B C D) _  (hS6.inn0 [] rfl) (gb_inv hc2 hg4)) (by rintro _ _ ⟨rfl, h⟩; exact ⟨rfl, hS6.out00 h⟩)))) ?_
    rintro w_5 hS7
    have hS7 : ST _ _ w_5 _ _ := hS7
    refine sq 20 rfl rfl (Y_and (b := (decide (0 < exp1))) (z := r_4) rfl rfl rfl rfl) ?_
    refine rw_nil ?_
    refine cw_cond (b := ((decide (0 < exp1)) && r_4)) rfl (fun hb2 => ?_) (fun hb2 => ?_)
    · skip
      have hF4 := ct hb1 hb2
      refine cw_skip ?_
      refine cw_block ?_
      refine cw_seq ?_
      refine cw_region ?_
      refine sq 22 rfl rfl (Y_loadA (B := some ⟨b, 0, none⟩) (i := 0) (cs := [.int .i64 A, .int .i64 B, .int .i64 C, .int .i64 D]) (vs := [.int .i64 A, .int .i64 B, .int .i64 C, .int .i64 D]) k_ag_114 k_sz_114_4 rfl (hf.get 2 1 rfl) (hS7.cf (i := 0) rfl) rfl rfl) ?_
      obtain ⟨⟨r_5, r_6⟩, hc3, hF4⟩ := bind_inv hF4
      refine sc 23 rfl rfl (Yc_func (g := 174) (vs := [.agg #[.int .i64 A, .int .i64 B, .int .i64 C, .int .i64 D]]) k_call_174 rfl (mc rfl mn) (c_impl_DivRootTwo (TRing.mk A B C D) _  (hS7.inn0 [] rfl) hc3)) ?_
      rintro _ w_6 ⟨rfl, hd1⟩
      have hS8 := hS7.out00 hd1
      have hS8 : ST w0 [] _ [⟨some ⟨b, 0, none⟩, 114, [.int .i64 A, .int .i64 B, .int .i64 C, .int .i64 D], 4⟩, ⟨some ⟨b1, 0, none⟩, 116, [.int .i64 0, .int .i64 0, .int .i64 0, .int .i64 0, .int .i64 0], 5⟩] [] := hS8
      refine sq 21 rfl rfl (Y_move (v := .tuple #[.agg #[.int .i64 r_5.A, .int .i64 r_5.B, .int .i64 r_5.C, .int .i64 r_5.D], .bool r_6]) rfl rfl) ?_
      refine sq 24 rfl rfl (Y_extract (v := .agg #[.int .i64 r_5.A, .int .i64 r_5.B, .int .i64 r_5.C, .int .i64 r_5.D]) rfl rfl rfl) ?_
      refine sq 25 rfl rfl (Y_extract (v := .bool r_6) rfl rfl rfl) ?_
      refine ss0 rfl rfl (Ys_store (i := 0) (s := 4) (B := some ⟨b, 0, none⟩) (T' := 114) (v := .agg #[.int .i64 r_5.A, .int .i64 r_5.B, .int .i64 r_5.C, .int .i64 r_5.D]) (vs := [.int .i64 r_5.A, .int .i64 r_5.B, .int .i64 r_5.C, .int .i64 r_5.D]) (k := 0) (cs' := [.int .i64 r_5.A, .int .i64 r_5.B, .int .i64 r_5.C, .int .i64 r_5.D]) hS8 k_sz_114_4 rfl (hf.get 2 1 rfl) rfl rfl rfl rfl rfl (Nat.le_of_ble_eq_true rfl) rfl rfl) ?_
      rintro _ w_7 ⟨rfl, hS9⟩
      have hS9 : ST w0 [] _ [⟨some ⟨b, 0, none⟩, 114, [.int .i64 r_5.A, .int .i64 r_5.B, .int .i64 r_5.C, .int .i64 r_5.D], 4⟩, ⟨some ⟨b1, 0, none⟩, 116, [.int .i64 0, .int .i64 0, .int .i64 0, .int .i64 0, .int .i64 0], 5⟩] [] := hS9
      refine rw_nil ?_
      refine cw_region ?_
      refine sq 26 rfl rfl (Y_move (v := .int .i64 exp1) rfl (hf.get 1 0 rfl)) ?_
      refine sq 27 rfl rfl (Y_sub (k := .i64) (a := exp1) (b := 1) rfl rfl rfl) ?_
      refine sq 1 rfl rfl (Y_assign (v := .int .i64 (IntKind.i64.wrap (exp1 - 1))) rfl rfl) ?_
      refine rw_nil ?_
      obtain rfl := some_inj hF4
      exact ⟨k_1, Nat.lt_succ_self _, (IntKind.i64.wrap (exp1 - 1)), r_5.A, r_5.B, r_5.C, r_5.D, (FF.cons rfl (FF.cons (hf.get 2 1 rfl) (FF.cons (hf.get 4 2 rfl) FF.nil))), (hS9.sel [0, 1] rfl rfl), hL1⟩
    · skip
      have hF5 := cf' hb1 hb2
      refine cw_exit rfl ?_
      obtain rfl := some_inj hF5
      obtain rfl := some_inj hL1
      refine cw_seq ?_
      refine cw_region ?_
      refine sq 28 rfl rfl (Y_loadA (B := some ⟨b, 0, none⟩) (i := 0) (cs := [.int .i64 A, .int .i64 B, .int .i64 C, .int .i64 D]) (vs := [.int .i64 A, .int .i64 B, .int .i64 C, .int .i64 D]) k_ag_114 k_sz_114_4 rfl (hf.get 2 1 rfl) (hS7.cf (i := 0) rfl) rfl rfl) ?_
      refine sq 29 rfl rfl (Y_move (v := .int .i64 exp1) rfl (hf.get 1 0 rfl)) ?_
      refine sq 30 rfl rfl (Y_buildS (zs := [.int .i64 0, .int .i64 0, .int .i64 0, .int .i64 0, .int .i64 0]) (vs := [(0, .agg #[.int .i64 A, .int .i64 B, .int .i64 C, .int .i64 D]), (1, .int .i64 exp1)]) (cs := [.int .i64 A, .int .i64 B, .int .i64 C, .int .i64 D, .int .i64 exp1]) k_pl_116 k_zero_116 rfl (mpc rfl (mpc rfl mpn)) rfl) ?_
      refine ss0 rfl rfl (Ys_store (i := 1) (s := 5) (B := some ⟨b1, 0, none⟩) (T' := 116) (v := .agg #[.int .i64 A, .int .i64 B, .int .i64 C, .int .i64 D, .int .i64 exp1]) (vs := [.int .i64 A, .int .i64 B, .int .i64 C, .int .i64 D, .int .i64 exp1]) (k := 0) (cs' := [.int .i64 A, .int .i64 B, .int .i64 C, .int .i64 D, .int .i64 exp1]) hS7 k_sz_116_5 rfl (hf.get 4 2 rfl) rfl rfl rfl rfl rfl (Nat.le_of_ble_eq_true rfl) rfl rfl) ?_
      rintro _ w_8 ⟨rfl, hS10⟩
      have hS10 : ST w0 [] _ [⟨some ⟨b, 0, none⟩, 114, [.int .i64 A, .int .i64 B, .int .i64 C, .int .i64 D], 4⟩, ⟨some ⟨b1, 0, none⟩, 116, [.int .i64 A, .int .i64 B, .int .i64 C, .int .i64 D, .int .i64 exp1], 5⟩] [] := hS10
      refine sq 5 rfl rfl (Y_assign (v := .bool true) rfl rfl) ?_
      refine rw_nil ?_
      refine cw_ret ?_
      obtain ⟨rfl, rfl⟩ := pr2 (some_inj hF3)
      exact ret2 Try.results158 (v1 := .agg #[.int .i64 A, .int .i64 B, .int .i64 C, .int .i64 D, .int .i64 exp1]) (resAt_cellA (B := some ⟨b1, 0, none⟩) (i := 0) (cs := [.int .i64 A, .int .i64 B, .int .i64 C, .int .i64 D, .int .i64 exp1]) (vs := [.int .i64 A, .int .i64 B, .int .i64 C, .int .i64 D, .int .i64 exp1]) (hf.get 4 2 rfl) k_ag_116 k_sz_116_5 (hS10.cf (i := 1) rfl) rfl rfl) (v2 := .bool true) (resAt_tmp rfl) ⟨rfl, (ST.subR (R' := []) (hS10.sel [] rfl rfl) (fun _ h => by cases h))⟩

theorem c_impl_MulDyadic (x : TDyadic) (y : TDyadic)  (w0 : World)  (hS : ST w0 [] w0 [] []) {r_ : TDyadic} {r_1 : Bool} (hF : F_impl_MulDyadic x y = some (r_, r_1)) :
    CV Try.prog 134 #[.agg #[.int .i64 x.Num.A, .int .i64 x.Num.B, .int .i64 x.Num.C, .int .i64 x.Num.D, .int .i64 x.Exp], .agg #[.int .i64 y.Num.A, .int .i64 y.Num.B, .int .i64 y.Num.C, .int .i64 y.Num.D, .int .i64 y.Exp]] w0 (fun v w' => v = .tuple #[.agg #[.int .i64 r_.Num.A, .int .i64 r_.Num.B, .int .i64 r_.Num.C, .int .i64 r_.Num.D, .int .i64 r_.Exp], .bool r_1] ∧ ST w0 [] w' [] []) := by
  unfold F_impl_MulDyadic at hF
  refine cv_of_cw 38 Try.func134 rfl Try.ntmps134 rfl ?_
  refine cw_seq ?_
  refine cw_region ?_
  refine ss 2 rfl rfl (Ys_box (T := 116) (v := .agg #[.int .i64 x.Num.A, .int .i64 x.Num.B, .int .i64 x.Num.C, .int .i64 x.Num.D, .int .i64 x.Exp]) (cs := [.int .i64 x.Num.A, .int .i64 x.Num.B, .int .i64 x.Num.C, .int .i64 x.Num.D, .int .i64 x.Exp]) (m := 5) hS rfl rfl rfl rfl) ?_
  rintro _ w_ ⟨b, rfl, hS1⟩
  refine ss 3 rfl rfl (Ys_box (T := 116) (v := .agg #[.int .i64 y.Num.A, .int .i64 y.Num.B, .int .i64 y.Num.C, .int .i64 y.Num.D, .int .i64 y.Exp]) (cs := [.int .i64 y.Num.A, .int .i64 y.Num.B, .int .i64 y.Num.C, .int .i64 y.Num.D, .int .i64 y.Exp]) (m := 5) hS1 rfl rfl rfl rfl) ?_
  rintro _ w_1 ⟨b1, rfl, hS2⟩
  have hS2 : ST w0 [] _ [⟨some ⟨b, 0, none⟩, 116, [.int .i64 x.Num.A, .int .i64 x.Num.B, .int .i64 x.Num.C, .int .i64 x.Num.D, .int .i64 x.Exp], 5⟩, ⟨some ⟨b1, 0, none⟩, 116, [.int .i64 y.Num.A, .int .i64 y.Num.B, .int .i64 y.Num.C, .int .i64 y.Num.D, .int .i64 y.Exp], 5⟩] [] := hS2
  refine ss 4 rfl rfl (Ys_alloc (T := 116) (cs := [.int .i64 0, .int .i64 0, .int .i64 0, .int .i64 0, .int .i64 0]) (m := 5) hS2 k_zero_116 rfl rfl rfl) ?_
  rintro _ w_2 ⟨b2, rfl, hS3⟩
  have hS3 : ST w0 [] _ [⟨some ⟨b, 0, none⟩, 116, [.int .i64 x.Num.A, .int .i64 x.Num.B, .int .i64 x.Num.C, .int .i64 x.Num.D, .int .i64 x.Exp], 5⟩, ⟨some ⟨b1, 0, none⟩, 116, [.int .i64 y.Num.A, .int .i64 y.Num.B, .int .i64 y.Num.C, .int .i64 y.Num.D, .int .i64 y.Exp], 5⟩, ⟨some ⟨b2, 0, none⟩, 116, [.int .i64 0, .int .i64 0, .int .i64 0, .int .i64 0, .int .i64 0], 5⟩] [] := hS3
  refine sq 5 rfl rfl (Y_assign (v := .bool false) rfl rfl) ?_
  refine rw_nil ?_
  refine cw_seq ?_
  refine cw_region ?_
  refine sq 9 rfl rfl (Y_fieldAddr (B := some ⟨b, 0, none⟩) (i := 0) (s := 3) k_fd_116_0_0_114 k_sz_114_4 rfl rfl) ?_
  refine sq 10 rfl rfl (Y_loadA (B := some ⟨b, 0, none⟩) (i := 0) (cs := [.int .i64 x.Num.A, .int .i64 x.Num.B, .int .i64 x.Num.C, .int .i64 x.Num.D, .int .i64 x.Exp]) (vs := [.int .i64 x.Num.A, .int .i64 x.Num.B, .int .i64 x.Num.C, .int .i64 x.Num.D]) k_ag_114 k_sz_114_4 rfl rfl (hS3.cf (i := 0) rfl) rfl rfl) ?_
  refine sq 11 rfl rfl (Y_fieldAddr (B := some ⟨b1, 0, none⟩) (i := 0) (s := 3) k_fd_116_0_0_114 k_sz_114_4 rfl rfl) ?_
  refine sq 12 rfl rfl (Y_loadA (B := some ⟨b1, 0, none⟩) (i := 0) (cs := [.int .i64 y.Num.A, .int .i64 y.Num.B, .int .i64 y.Num.C, .int .i64 y.Num.D, .int .i64 y.Exp]) (vs := [.int .i64 y.Num.A, .int .i64 y.Num.B, .int .i64 y.Num.C, .int .i64 y.Num.D]) k_ag_114 k_sz_114_4 rfl rfl (hS3.cf (i := 1) rfl) rfl rfl) ?_
  obtain ⟨⟨r_2, r_3⟩, hc, hF⟩ := bind_inv hF
  refine sc 13 rfl rfl (Yc_func (g := 157) (vs := [.agg #[.int .i64 x.Num.A, .int .i64 x.Num.B, .int .i64 x.Num.C, .int .i64 x.Num.D], .agg #[.int .i64 y.Num.A, .int .i64 y.Num.B, .int .i64 y.Num.C, .int .i64 y.Num.D]]) k_call_157 rfl (mc rfl (mc rfl mn)) (c_impl_MulRing x.Num y.Num _  (hS3.inn0 [] rfl) hc)) ?_
  rintro _ w_3 ⟨rfl, hd⟩
  have hS4 := hS3.out00 hd
  have hS4 : ST w0 [] _ [⟨some ⟨b, 0, none⟩, 116, [.int .i64 x.Num.A, .int .i64 x.Num.B, .int .i64 x.Num.C, .int .i64 x.Num.D, .int .i64 x.Exp], 5⟩, ⟨some ⟨b1, 0, none⟩, 116, [.int .i64 y.Num.A, .int .i64 y.Num.B, .int .i64 y.Num.C, .int .i64 y.Num.D, .int .i64 y.Exp], 5⟩, ⟨some ⟨b2, 0, none⟩, 116, [.int .i64 0, .int .i64 0, .int .i64 0, .int .i64 0, .int .i64 0], 5⟩] [] := hS4
  refine sq 8 rfl rfl (Y_move (v := .tuple #[.agg #[.int .i64 r_2.A, .int .i64 r_2.B, .int .i64 r_2.C, .int .i64 r_2.D], .bool r_3]) rfl rfl) ?_
  refine sq 14 rfl rfl (Y_extract (v := .agg #[.int .i64 r_2.A, .int .i64 r_2.B, .int .i64 r_2.C, .int .i64 r_2.D]) rfl rfl rfl) ?_
  refine sq 15 rfl rfl (Y_extract (v := .bool r_3) rfl rfl rfl) ?_
  refine ss 6 rfl rfl (Ys_alloc (T := 114) (cs := [.int .i64 0, .int .i64 0, .int .i64 0, .int .i64 0]) (m := 4) hS4 k_zero_114 rfl rfl rfl) ?_
  rintro _ w_4 ⟨b3, rfl, hS5⟩
  have hS5 : ST w0 [] _ [⟨some ⟨b, 0, none⟩, 116, [.int .i64 x.Num.A, .int .i64 x.Num.B, .int .i64 x.Num.C, .int .i64 x.Num.D, .int .i64 x.Exp], 5⟩, ⟨some ⟨b1, 0, none⟩, 116, [.int .i64 y.Num.A, .int .i64 y.Num.B, .int .i64 y.Num.C, .int .i64 y.Num.D, .int .i64 y.Exp], 5⟩, ⟨some ⟨b2, 0, none⟩, 116, [.int .i64 0, .int .i64 0, .int .i64 0, .int .i64 0, .int .i64 0], 5⟩, ⟨some ⟨b3, 0, none⟩, 114, [.int .i64 0, .int .i64 0, .int .i64 0, .int .i64 0], 4⟩] [] := hS5
  refine ss0 rfl rfl (Ys_store (i := 3) (s := 4) (B := some ⟨b3, 0, none⟩) (T' := 114) (v := .agg #[.int .i64 r_2.A, .int .i64 r_2.B, .int .i64 r_2.C, .int .i64 r_2.D]) (vs := [.int .i64 r_2.A, .int .i64 r_2.B, .int .i64 r_2.C, .int .i64 r_2.D]) (k := 0) (cs' := [.int .i64 r_2.A, .int .i64 r_2.B, .int .i64 r_2.C, .int .i64 r_2.D]) hS5 k_sz_114_4 rfl rfl rfl rfl rfl rfl rfl (Nat.le_of_ble_eq_true rfl) rfl rfl) ?_
  rintro _ w_5 ⟨rfl, hS6⟩
  have hS6 : ST w0 [] _ [⟨some ⟨b, 0, none⟩, 116, [.int .i64 x.Num.A, .int .i64 x.Num.B, .int .i64 x.Num.C, .int .i64 x.Num.D, .int .i64 x.Exp], 5⟩, ⟨some ⟨b1, 0, none⟩, 116, [.int .i64 y.Num.A, .int .i64 y.Num.B, .int .i64 y.Num.C, .int .i64 y.Num.D, .int .i64 y.Exp], 5⟩, ⟨some ⟨b2, 0, none⟩, 116, [.int .i64 0, .int .i64 0, .int .i64 0, .int .i64 0, .int .i64 0], 5⟩, ⟨some ⟨b3, 0, none⟩, 114, [.int .i64 r_2.A, .int .i64 r_2.B, .int .i64 r_2.C, .int .i64 r_2.D], 4⟩] [] := hS6
  refine sq 7 rfl rfl (Y_assign (v := .bool r_3) rfl rfl) ?_
  refine rw_nil ?_
  refine cw_seq ?_
  refine cw_seq ?_
  refine cw_region ?_
  refine sq 16 rfl rfl (Y_loadA (B := some ⟨b, 0, none⟩) (i := 0) (cs := [.int .i64 x.Num.A, .int .i64 x.Num.B, .int .i64 x.Num.C, .int .i64 x.Num.D, .int .i64 x.Exp]) (vs := [.int .i64 x.Num.A, .int .i64 x.Num.B, .int .i64 x.Num.C, .int .i64 x.Num.D, .int .i64 x.Exp]) k_ag_116 k_sz_116_5 rfl rfl (hS6.cf (i := 0) rfl) rfl rfl) ?_
  obtain ⟨r_4, hc1, hF⟩ := bind_inv hF
  refine sc 17 rfl rfl (Yc_func (g := 125) (vs := [.agg #[.int .i64 x.Num.A, .int .i64 x.Num.B, .int .i64 x.Num.C, .int .i64 x.Num.D, .int .i64 x.Exp]]) k_call_125 rfl (mc rfl mn) (c_impl_IsValidDyadic x _  (hS6.inn0 [] rfl) hc1)) ?_
  rintro _ w_6 ⟨rfl, hd1⟩
  have hS7 := hS6.out00 hd1
  have hS7 : ST w0 [] _ [⟨some ⟨b, 0, none⟩, 116, [.int .i64 x.Num.A, .int .i64 x.Num.B, .int .i64 x.Num.C, .int .i64 x.Num.D, .int .i64 x.Exp], 5⟩, ⟨some ⟨b1, 0, none⟩, 116, [.int .i64 y.Num.A, .int .i64 y.Num.B, .int .i64 y.Num.C, .int .i64 y.Num.D, .int .i64 y.Exp], 5⟩, ⟨some ⟨b2, 0, none⟩, 116, [.int .i64 0, .int .i64 0, .int .i64 0, .int .i64 0, .int .i64 0], 5⟩, ⟨some ⟨b3, 0, none⟩, 114, [.int .i64 r_2.A, .int .i64 r_2.B, .int .i64 r_2.C, .int .i64 r_2.D], 4⟩] [] := hS7
  refine sq 18 rfl rfl (Y_not (p := r_4) rfl rfl) ?_
  refine sq 19 rfl rfl (Y_move (v := .bool (!r_4)) rfl rfl) ?_
  refine sgq 20 (B := (!(!r_4))) (v := .agg #[.int .i64 y.Num.A, .int .i64 y.Num.B, .int .i64 y.Num.C, .int .i64 y.Num.D, .int .i64 y.Exp]) rfl rfl (wt_f (gd_of (t := 19) (by kernel_rfl) rfl)) (fun hg => (Y_loadA (B := some ⟨b1, 0, none⟩) (i := 0) (cs := [.int .i64 y.Num.A, .int .i64 y.Num.B, .int .i64 y.Num.C, .int .i64 y.Num.D, .int .i64 y.Exp]) (vs := [.int .i64 y.Num.A, .int .i64 y.Num.B, .int .i64 y.Num.C, .int .i64 y.Num.D, .int .i64 y.Exp]) k_ag_116 k_sz_116_5 rfl rfl (hS7.cf (i := 1) rfl) rfl rfl)) ?_
  obtain ⟨r_5, hc2, hF⟩ := bind_inv hF
  refine sgc 21 (B := (!(!r_4))) (v := .bool r_5) (F := hS7.fn) rfl rfl (wt_f (gd_of (t := 19) (by kernel_rfl) rfl)) hS7 (fun hg1 => (Yc_func (g := 125) (vs := [.agg #[.int .i64 y.Num.A, .int .i64 y.Num.B, .int .i64 y.Num.C, .int .i64 y.Num.D, .int .i64 y.Exp]]) k_call_125 rfl (mc (gv_of (B := (!(!r_4))) (v := .agg #[.int .i64 y.Num.A, .int .i64 y.Num.B, .int .i64 y.Num.C, .int .i64 y.Num.D, .int .i64 y.Exp]) hg1) mn) (CV.mono (c_impl_IsValidDyadic y _  (hS7.inn0 [] rfl) (gb_inv hc2 hg1)) (by rintro _ _ ⟨rfl, h⟩; exact ⟨rfl, hS7.out00 h⟩)))) ?_
  rintro w_7 hS8
  have hS8 : ST _ _ w_7 _ _ := hS8
  refine sgq 22 (B := (!(!r_4))) (v := .bool (!r_5)) rfl rfl (wt_f (gd_of (t := 19) (by kernel_rfl) rfl)) (fun hg2 => (Y_not (p := r_5) rfl (gv_of (B := (!(!r_4))) (v := .bool r_5) hg2))) ?_
  refine sq 23 rfl rfl (Y_or (b := (!r_4)) (z := (!r_5)) rfl rfl rfl rfl) ?_
  refine sq 24 rfl rfl (Y_move (v := .bool ((!r_4) || (!r_5))) rfl rfl) ?_
  refine sgq 25 (B := (!((!r_4) || (!r_5)))) (v := .bool r_3) rfl rfl (wt_f (gd_of (t := 24) (by kernel_rfl) rfl)) (fun hg3 => (Y_move (v := .bool r_3) rfl rfl)) ?_
  refine sgq 26 (B := (!((!r_4) || (!r_5)))) (v := .bool (!r_3)) rfl rfl (wt_f (gd_of (t := 24) (by kernel_rfl) rfl)) (fun hg4 => (Y_not (p := r_3) rfl (gv_of (B := (!((!r_4) || (!r_5)))) (v := .bool r_3) hg4))) ?_
  refine sq 27 rfl rfl (Y_or (b := ((!r_4) || (!r_5))) (z := (!r_3)) rfl rfl rfl rfl) ?_
  refine rw_nil ?_
  refine cw_cond (b := (((!r_4) || (!r_5)) || (!r_3))) rfl (fun hb => ?_) (fun hb => ?_)
  · skip
    have hF1 := ct hF hb
    refine cw_seq ?_
    refine cw_region ?_
    refine sq 28 rfl rfl (Y_buildS (zs := [.int .i64 0, .int .i64 0, .int .i64 0, .int .i64 0, .int .i64 0]) (vs := []) (cs := [.int .i64 0, .int .i64 0, .int .i64 0, .int .i64 0, .int .i64 0]) k_pl_116 k_zero_116 rfl mpn rfl) ?_
    refine ss0 rfl rfl (Ys_store (i := 2) (s := 5) (B := some ⟨b2, 0, none⟩) (T' := 116) (v := .agg #[.int .i64 0, .int .i64 0, .int .i64 0, .int .i64 0, .int .i64 0]) (vs := [.int .i64 0, .int .i64 0, .int .i64 0, .int .i64 0, .int .i64 0]) (k := 0) (cs' := [.int .i64 0, .int .i64 0, .int .i64 0, .int .i64 0, .int .i64 0]) hS8 k_sz_116_5 rfl rfl rfl rfl rfl rfl rfl (Nat.le_of_ble_eq_true rfl) rfl rfl) ?_
    rintro _ w_8 ⟨rfl, hS9⟩
    have hS9 : ST w0 [] _ [⟨some ⟨b, 0, none⟩, 116, [.int .i64 x.Num.A, .int .i64 x.Num.B, .int .i64 x.Num.C, .int .i64 x.Num.D, .int .i64 x.Exp], 5⟩, ⟨some ⟨b1, 0, none⟩, 116, [.int .i64 y.Num.A, .int .i64 y.Num.B, .int .i64 y.Num.C, .int .i64 y.Num.D, .int .i64 y.Exp], 5⟩, ⟨some ⟨b2, 0, none⟩, 116, [.int .i64 0, .int .i64 0, .int .i64 0, .int .i64 0, .int .i64 0], 5⟩, ⟨some ⟨b3, 0, none⟩, 114, [.int .i64 r_2.A, .int .i64 r_2.B, .int .i64 r_2.C, .int .i64 r_2.D], 4⟩] [] := hS9
    refine sq 5 rfl rfl (Y_assign (v := .bool false) rfl rfl) ?_
    refine rw_nil ?_
    refine cw_ret ?_
    obtain ⟨rfl, rfl⟩ := pr2 (some_inj hF1)
    exact ret2 Try.results134 (v1 := .agg #[.int .i64 0, .int .i64 0, .int .i64 0, .int .i64 0, .int .i64 0]) (resAt_cellA (B := some ⟨b2, 0, none⟩) (i := 0) (cs := [.int .i64 0, .int .i64 0, .int .i64 0, .int .i64 0, .int .i64 0]) (vs := [.int .i64 0, .int .i64 0, .int .i64 0, .int .i64 0, .int .i64 0]) rfl k_ag_116 k_sz_116_5 (hS9.cf (i := 2) rfl) rfl rfl) (v2 := .bool false) (resAt_tmp rfl) ⟨rfl, (ST.subR (R' := []) (hS9.sel [] rfl rfl) (fun _ h => by cases h))⟩
  · skip
    have hF2 := cf' hF hb
    refine cw_skip ?_
    refine cw_seq ?_
    refine cw_region ?_
    refine sq 29 rfl rfl (Y_loadA (B := some ⟨b3, 0, none⟩) (i := 0) (cs := [.int .i64 r_2.A, .int .i64 r_2.B, .int .i64 r_2.C, .int .i64 r_2.D]) (vs := [.int .i64 r_2.A, .int .i64 r_2.B, .int .i64 r_2.C, .int .i64 r_2.D]) k_ag_114 k_sz_114_4 rfl rfl (hS8.cf (i := 3) rfl) rfl rfl) ?_
    refine sq 30 rfl rfl (Y_fieldAddr (B := some ⟨b, 0, none⟩) (i := 0) (s := 0) k_fd_116_1_4_3 k_sz_3_1 rfl rfl) ?_
    refine sq 31 rfl rfl (Y_load1 (B := some ⟨b, 0, none⟩) (i := 4) (cs := [.int .i64 x.Num.A, .int .i64 x.Num.B, .int .i64 x.Num.C, .int .i64 x.Num.D, .int .i64 x.Exp]) (v := .int .i64 x.Exp) k_sc_3 rfl rfl (hS8.cf (i := 0) rfl) rfl) ?_
    refine sq 32 rfl rfl (Y_fieldAddr (B := some ⟨b1, 0, none⟩) (i := 0) (s := 0) k_fd_116_1_4_3 k_sz_3_1 rfl rfl) ?_
    refine sq 33 rfl rfl (Y_load1 (B := some ⟨b1, 0, none⟩) (i := 4) (cs := [.int .i64 y.Num.A, .int .i64 y.Num.B, .int .i64 y.Num.C, .int .i64 y.Num.D, .int .i64 y.Exp]) (v := .int .i64 y.Exp) k_sc_3 rfl rfl (hS8.cf (i := 1) rfl) rfl) ?_
    refine sq 34 rfl rfl (Y_add (k := .i64) (a := x.Exp) (b := y.Exp) rfl rfl rfl) ?_
    obtain ⟨⟨r_6, r_7⟩, hc3, hF2⟩ := bind_inv hF2
    refine sc 35 rfl rfl (Yc_func (g := 158) (vs := [.agg #[.int .i64 r_2.A, .int .i64 r_2.B, .int .i64 r_2.C, .int .i64 r_2.D], .int .i64 (IntKind.i64.wrap (x.Exp + y.Exp))]) k_call_158 rfl (mc rfl (mc rfl mn)) (c_impl_DyadicOf r_2 (IntKind.i64.wrap (x.Exp + y.Exp)) _  (hS8.inn0 [] rfl) hc3)) ?_
    rintro _ w_9 ⟨rfl, hd2⟩
    have hS10 := hS8.out00 hd2
    have hS10 : ST w0 [] _ [⟨some ⟨b, 0, none⟩, 116, [.int .i64 x.Num.A, .int .i64 x.Num.B, .int .i64 x.Num.C, .int .i64 x.Num.D, .int .i64 x.Exp], 5⟩, ⟨some ⟨b1, 0, none⟩, 116, [.int .i64 y.Num.A, .int .i64 y.Num.B, .int .i64 y.Num.C, .int .i64 y.Num.D, .int .i64 y.Exp], 5⟩, ⟨some ⟨b2, 0, none⟩, 116, [.int .i64 0, .int .i64 0, .int .i64 0, .int .i64 0, .int .i64 0], 5⟩, ⟨some ⟨b3, 0, none⟩, 114, [.int .i64 r_2.A, .int .i64 r_2.B, .int .i64 r_2.C, .int .i64 r_2.D], 4⟩] [] := hS10
    refine sq 36 rfl rfl (Y_extract (v := .agg #[.int .i64 r_6.Num.A, .int .i64 r_6.Num.B, .int .i64 r_6.Num.C, .int .i64 r_6.Num.D, .int .i64 r_6.Exp]) rfl rfl rfl) ?_
    refine sq 37 rfl rfl (Y_extract (v := .bool r_7) rfl rfl rfl) ?_
    refine ss0 rfl rfl (Ys_store (i := 2) (s := 5) (B := some ⟨b2, 0, none⟩) (T' := 116) (v := .agg #[.int .i64 r_6.Num.A, .int .i64 r_6.Num.B, .int .i64 r_6.Num.C, .int .i64 r_6.Num.D, .int .i64 r_6.Exp]) (vs := [.int .i64 r_6.Num.A, .int .i64 r_6.Num.B, .int .i64 r_6.Num.C, .int .i64 r_6.Num.D, .int .i64 r_6.Exp]) (k := 0) (cs' := [.int .i64 r_6.Num.A, .int .i64 r_6.Num.B, .int .i64 r_6.Num.C, .int .i64 r_6.Num.D, .int .i64 r_6.Exp]) hS10 k_sz_116_5 rfl rfl rfl rfl rfl rfl rfl (Nat.le_of_ble_eq_true rfl) rfl rfl) ?_
    rintro _ w_10 ⟨rfl, hS11⟩
    have hS11 : ST w0 [] _ [⟨some ⟨b, 0, none⟩, 116, [.int .i64 x.Num.A, .int .i64 x.Num.B, .int .i64 x.Num.C, .int .i64 x.Num.D, .int .i64 x.Exp], 5⟩, ⟨some ⟨b1, 0, none⟩, 116, [.int .i64 y.Num.A, .int .i64 y.Num.B, .int .i64 y.Num.C, .int .i64 y.Num.D, .int .i64 y.Exp], 5⟩, ⟨some ⟨b2, 0, none⟩, 116, [.int .i64 r_6.Num.A, .int .i64 r_6.Num.B, .int .i64 r_6.Num.C, .int .i64 r_6.Num.D, .int .i64 r_6.Exp], 5⟩, ⟨some ⟨b3, 0, none⟩, 114, [.int .i64 r_2.A, .int .i64 r_2.B, .int .i64 r_2.C, .int .i64 r_2.D], 4⟩] [] := hS11
    refine sq 5 rfl rfl (Y_assign (v := .bool r_7) rfl rfl) ?_
    refine rw_nil ?_
    refine cw_ret ?_
    obtain ⟨rfl, rfl⟩ := pr2 (some_inj hF2)
    exact ret2 Try.results134 (v1 := .agg #[.int .i64 r_6.Num.A, .int .i64 r_6.Num.B, .int .i64 r_6.Num.C, .int .i64 r_6.Num.D, .int .i64 r_6.Exp]) (resAt_cellA (B := some ⟨b2, 0, none⟩) (i := 0) (cs := [.int .i64 r_6.Num.A, .int .i64 r_6.Num.B, .int .i64 r_6.Num.C, .int .i64 r_6.Num.D, .int .i64 r_6.Exp]) (vs := [.int .i64 r_6.Num.A, .int .i64 r_6.Num.B, .int .i64 r_6.Num.C, .int .i64 r_6.Num.D, .int .i64 r_6.Exp]) rfl k_ag_116 k_sz_116_5 (hS11.cf (i := 2) rfl) rfl rfl) (v2 := .bool r_7) (resAt_tmp rfl) ⟨rfl, (ST.subR (R' := []) (hS11.sel [] rfl rfl) (fun _ h => by cases h))⟩

theorem c_impl_MulRootTwo (x : TRing)  (w0 : World)  (hS : ST w0 [] w0 [] []) {r_ : TRing} {r_1 : Bool} (hF : F_impl_MulRootTwo x = some (r_, r_1)) :
    CV Try.prog 188 #[.agg #[.int .i64 x.A, .int .i64 x.B, .int .i64 x.C, .int .i64 x.D]] w0 (fun v w' => v = .tuple #[.agg #[.int .i64 r_.A, .int .i64 r_.B, .int .i64 r_.C, .int .i64 r_.D], .bool r_1] ∧ ST w0 [] w' [] []) := by
  unfold F_impl_MulRootTwo at hF
  refine cv_of_cw 30 Try.func188 rfl Try.ntmps188 rfl ?_
  refine cw_seq ?_
  refine cw_region ?_
  refine ss 1 rfl rfl (Ys_box (T := 114) (v := .agg #[.int .i64 x.A, .int .i64 x.B, .int .i64 x.C, .int .i64 x.D]) (cs := [.int .i64 x.A, .int .i64 x.B, .int .i64 x.C, .int .i64 x.D]) (m := 4) hS rfl rfl rfl rfl) ?_
  rintro _ w_ ⟨b, rfl, hS1⟩
  refine ss 2 rfl rfl (Ys_alloc (T := 114) (cs := [.int .i64 0, .int .i64 0, .int .i64 0, .int .i64 0]) (m := 4) hS1 k_zero_114 rfl rfl rfl) ?_
  rintro _ w_1 ⟨b1, rfl, hS2⟩
  have hS2 : ST w0 [] _ [⟨some ⟨b, 0, none⟩, 114, [.int .i64 x.A, .int .i64 x.B, .int .i64 x.C, .int .i64 x.D], 4⟩, ⟨some ⟨b1, 0, none⟩, 114, [.int .i64 0, .int .i64 0, .int .i64 0, .int .i64 0], 4⟩] [] := hS2
  refine sq 3 rfl rfl (Y_assign (v := .bool false) rfl rfl) ?_
  refine rw_nil ?_
  refine cw_seq ?_
  refine cw_region ?_
  refine sq 4 rfl rfl (Y_fieldAddr (B := some ⟨b, 0, none⟩) (i := 0) (s := 0) k_fd_114_1_1_3 k_sz_3_1 rfl rfl) ?_
  refine sq 5 rfl rfl (Y_load1 (B := some ⟨b, 0, none⟩) (i := 1) (cs := [.int .i64 x.A, .int .i64 x.B, .int .i64 x.C, .int .i64 x.D]) (v := .int .i64 x.B) k_sc_3 rfl rfl (hS2.cf (i := 0) rfl) rfl) ?_
  refine sq 6 rfl rfl (Y_fieldAddr (B := some ⟨b, 0, none⟩) (i := 0) (s := 0) k_fd_114_3_3_3 k_sz_3_1 rfl rfl) ?_
  refine sq 7 rfl rfl (Y_load1 (B := some ⟨b, 0, none⟩) (i := 3) (cs := [.int .i64 x.A, .int .i64 x.B, .int .i64 x.C, .int .i64 x.D]) (v := .int .i64 x.D) k_sc_3 rfl rfl (hS2.cf (i := 0) rfl) rfl) ?_
  refine sq 8 rfl rfl (Y_sub (k := .i64) (a := x.B) (b := x.D) rfl rfl rfl) ?_
  refine sq 9 rfl rfl (Y_fieldAddr (B := some ⟨b, 0, none⟩) (i := 0) (s := 0) k_fd_114_0_0_3 k_sz_3_1 rfl rfl) ?_
  refine sq 10 rfl rfl (Y_load1 (B := some ⟨b, 0, none⟩) (i := 0) (cs := [.int .i64 x.A, .int .i64 x.B, .int .i64 x.C, .int .i64 x.D]) (v := .int .i64 x.A) k_sc_3 rfl rfl (hS2.cf (i := 0) rfl) rfl) ?_
  refine sq 11 rfl rfl (Y_fieldAddr (B := some ⟨b, 0, none⟩) (i := 0) (s := 0) k_fd_114_2_2_3 k_sz_3_1 rfl rfl) ?_
  refine sq 12 rfl rfl (Y_load1 (B := some ⟨b, 0, none⟩) (i := 2) (cs := [.int .i64 x.A, .int .i64 x.B, .int .i64 x.C, .int .i64 x.D]) (v := .int .i64 x.C) k_sc_3 rfl rfl (hS2.cf (i := 0) rfl) rfl) ?_
  refine sq 13 rfl rfl (Y_add (k := .i64) (a := x.A) (b := x.C) rfl rfl rfl) ?_
  refine sq 14 rfl rfl (Y_fieldAddr (B := some ⟨b, 0, none⟩) (i := 0) (s := 0) k_fd_114_1_1_3 k_sz_3_1 rfl rfl) ?_
  refine sq 15 rfl rfl (Y_load1 (B := some ⟨b, 0, none⟩) (i := 1) (cs := [.int .i64 x.A, .int .i64 x.B, .int .i64 x.C, .int .i64 x.D]) (v := .int .i64 x.B) k_sc_3 rfl rfl (hS2.cf (i := 0) rfl) rfl) ?_
  refine sq 16 rfl rfl (Y_fieldAddr (B := some ⟨b, 0, none⟩) (i := 0) (s := 0) k_fd_114_3_3_3 k_sz_3_1 rfl rfl) ?_
  refine sq 17 rfl rfl (Y_load1 (B := some ⟨b, 0, none⟩) (i := 3) (cs := [.int .i64 x.A, .int .i64 x.B, .int .i64 x.C, .int .i64 x.D]) (v := .int .i64 x.D) k_sc_3 rfl rfl (hS2.cf (i := 0) rfl) rfl) ?_
  refine sq 18 rfl rfl (Y_add (k := .i64) (a := x.B) (b := x.D) rfl rfl rfl) ?_
  refine sq 19 rfl rfl (Y_fieldAddr (B := some ⟨b, 0, none⟩) (i := 0) (s := 0) k_fd_114_2_2_3 k_sz_3_1 rfl rfl) ?_
  refine sq 20 rfl rfl (Y_load1 (B := some ⟨b, 0, none⟩) (i := 2) (cs := [.int .i64 x.A, .int .i64 x.B, .int .i64 x.C, .int .i64 x.D]) (v := .int .i64 x.C) k_sc_3 rfl rfl (hS2.cf (i := 0) rfl) rfl) ?_
  refine sq 21 rfl rfl (Y_fieldAddr (B := some ⟨b, 0, none⟩) (i := 0) (s := 0) k_fd_114_0_0_3 k_sz_3_1 rfl rfl) ?_
  refine sq 22 rfl rfl (Y_load1 (B := some ⟨b, 0, none⟩) (i := 0) (cs := [.int .i64 x.A, .int .i64 x.B, .int .i64 x.C, .int .i64 x.D]) (v := .int .i64 x.A) k_sc_3 rfl rfl (hS2.cf (i := 0) rfl) rfl) ?_
  refine sq 23 rfl rfl (Y_sub (k := .i64) (a := x.C) (b := x.A) rfl rfl rfl) ?_
  refine sq 24 rfl rfl (Y_buildS (zs := [.int .i64 0, .int .i64 0, .int .i64 0, .int .i64 0]) (vs := [(0, .int .i64 (IntKind.i64.wrap (x.B - x.D))), (1, .int .i64 (IntKind.i64.wrap (x.A + x.C))), (2, .int .i64 (IntKind.i64.wrap (x.B + x.D))), (3, .int .i64 (IntKind.i64.wrap (x.C - x.A)))]) (cs := [.int .i64 (IntKind.i64.wrap (x.B - x.D)), .int .i64 (IntKind.i64.wrap (x.A + x.C)), .int .i64 (IntKind.i64.wrap (x.B + x.D)), .int .i64 (IntKind.i64.wrap (x.C - x.A))]) k_pl_114 k_zero_114 rfl (mpc rfl (mpc rfl (mpc rfl (mpc rfl mpn)))) rfl) ?_
  refine sq 25 rfl rfl (Y_loadA (B := some ⟨b, 0, none⟩) (i := 0) (cs := [.int .i64 x.A, .int .i64 x.B, .int .i64 x.C, .int .i64 x.D]) (vs := [.int .i64 x.A, .int .i64 x.B, .int .i64 x.C, .int .i64 x.D]) k_ag_114 k_sz_114_4 rfl rfl (hS2.cf (i := 0) rfl) rfl rfl) ?_
  refine ss 26 rfl rfl (Ys_bslice (s := 4) (len := 1) (vs := [(0, .agg #[.int .i64 x.A, .int .i64 x.B, .int .i64 x.C, .int .i64 x.D])]) (cs := [.int .i64 x.A, .int .i64 x.B, .int .i64 x.C, .int .i64 x.D]) (zs := [.int .i64 0, .int .i64 0, .int .i64 0, .int .i64 0]) (m := 4) hS2 k_sl_191_114 k_sz_114_4 k_zc_114 rfl (mpc rfl mpn) rfl rfl rfl (by kernel_rfl) (by kernel_rfl) rfl) ?_
  rintro _ w_2 ⟨b2, rfl, hS3⟩
  have hS3 : ST w0 [] _ [⟨some ⟨b, 0, none⟩, 114, [.int .i64 x.A, .int .i64 x.B, .int .i64 x.C, .int .i64 x.D], 4⟩, ⟨some ⟨b1, 0, none⟩, 114, [.int .i64 0, .int .i64 0, .int .i64 0, .int .i64 0], 4⟩, ⟨some ⟨b2, 0, none⟩, 114, ([x].flatMap enc_Ring), 1 * 4⟩] [] := hS3
  obtain ⟨⟨r_2, r_3⟩, hc, hF⟩ := bind_inv hF
  refine sc 27 rfl rfl (Yc_func (g := 173) (vs := [.agg #[.int .i64 (IntKind.i64.wrap (x.B - x.D)), .int .i64 (IntKind.i64.wrap (x.A + x.C)), .int .i64 (IntKind.i64.wrap (x.B + x.D)), .int .i64 (IntKind.i64.wrap (x.C - x.A))], .slice (some ⟨b2, 0, none⟩) 1 1]) k_call_173 rfl (mc rfl (mc rfl mn)) (c_impl_ringIf (TRing.mk (IntKind.i64.wrap (x.B - x.D)) (IntKind.i64.wrap (x.A + x.C)) (IntKind.i64.wrap (x.B + x.D)) (IntKind.i64.wrap (x.C - x.A))) [x] (some ⟨b2, 0, none⟩) 1 1 _ rfl (hS3.inn [false, false, true] rfl [] rfl) hc)) ?_
  rintro _ w_3 ⟨rfl, hd⟩
  have hS4 := hS3.out [false, false, true] rfl hd
  have hS4 : ST w0 [] _ [⟨some ⟨b, 0, none⟩, 114, [.int .i64 x.A, .int .i64 x.B, .int .i64 x.C, .int .i64 x.D], 4⟩, ⟨some ⟨b1, 0, none⟩, 114, [.int .i64 0, .int .i64 0, .int .i64 0, .int .i64 0], 4⟩] [] := hS4
  refine sq 28 rfl rfl (Y_extract (v := .agg #[.int .i64 r_2.A, .int .i64 r_2.B, .int .i64 r_2.C, .int .i64 r_2.D]) rfl rfl rfl) ?_
  refine sq 29 rfl rfl (Y_extract (v := .bool r_3) rfl rfl rfl) ?_
  refine ss0 rfl rfl (Ys_store (i := 1) (s := 4) (B := some ⟨b1, 0, none⟩) (T' := 114) (v := .agg #[.int .i64 r_2.A, .int .i64 r_2.B, .int .i64 r_2.C, .int .i64 r_2.D]) (vs := [.int .i64 r_2.A, .int .i64 r_2.B, .int .i64 r_2.C, .int .i64 r_2.D]) (k := 0) (cs' := [.int .i64 r_2.A, .int .i64 r_2.B, .int .i64 r_2.C, .int .i64 r_2.D]) hS4 k_sz_114_4 rfl rfl rfl rfl rfl rfl rfl (Nat.le_of_ble_eq_true rfl) rfl rfl) ?_
  rintro _ w_4 ⟨rfl, hS5⟩
  have hS5 : ST w0 [] _ [⟨some ⟨b, 0, none⟩, 114, [.int .i64 x.A, .int .i64 x.B, .int .i64 x.C, .int .i64 x.D], 4⟩, ⟨some ⟨b1, 0, none⟩, 114, [.int .i64 r_2.A, .int .i64 r_2.B, .int .i64 r_2.C, .int .i64 r_2.D], 4⟩] [] := hS5
  refine sq 3 rfl rfl (Y_assign (v := .bool r_3) rfl rfl) ?_
  refine rw_nil ?_
  refine cw_ret ?_
  obtain ⟨rfl, rfl⟩ := pr2 (some_inj hF)
  exact ret2 Try.results188 (v1 := .agg #[.int .i64 r_2.A, .int .i64 r_2.B, .int .i64 r_2.C, .int .i64 r_2.D]) (resAt_cellA (B := some ⟨b1, 0, none⟩) (i := 0) (cs := [.int .i64 r_2.A, .int .i64 r_2.B, .int .i64 r_2.C, .int .i64 r_2.D]) (vs := [.int .i64 r_2.A, .int .i64 r_2.B, .int .i64 r_2.C, .int .i64 r_2.D]) rfl k_ag_114 k_sz_114_4 (hS5.cf (i := 1) rfl) rfl rfl) (v2 := .bool r_3) (resAt_tmp rfl) ⟨rfl, (ST.subR (R' := []) (hS5.sel [] rfl rfl) (fun _ h => by cases h))⟩

theorem c_impl_raised (x : TDyadic) (exp : Int)  (w0 : World)  (hS : ST w0 [] w0 [] []) {r_ : TRing} {r_1 : Bool} (hF : F_impl_raised x exp = some (r_, r_1)) :
    CV Try.prog 175 #[.agg #[.int .i64 x.Num.A, .int .i64 x.Num.B, .int .i64 x.Num.C, .int .i64 x.Num.D, .int .i64 x.Exp], .int .i64 exp] w0 (fun v w' => v = .tuple #[.agg #[.int .i64 r_.A, .int .i64 r_.B, .int .i64 r_.C, .int .i64 r_.D], .bool r_1] ∧ ST w0 [] w' [] []) := by
  unfold F_impl_raised at hF
  refine cv_of_cw 28 Try.func175 rfl Try.ntmps175 rfl ?_
  refine cw_seq ?_
  refine cw_region ?_
  refine ss 2 rfl rfl (Ys_box (T := 116) (v := .agg #[.int .i64 x.Num.A, .int .i64 x.Num.B, .int .i64 x.Num.C, .int .i64 x.Num.D, .int .i64 x.Exp]) (cs := [.int .i64 x.Num.A, .int .i64 x.Num.B, .int .i64 x.Num.C, .int .i64 x.Num.D, .int .i64 x.Exp]) (m := 5) hS rfl rfl rfl rfl) ?_
  rintro _ w_ ⟨b, rfl, hS1⟩
  refine ss 4 rfl rfl (Ys_alloc (T := 114) (cs := [.int .i64 0, .int .i64 0, .int .i64 0, .int .i64 0]) (m := 4) hS1 k_zero_114 rfl rfl rfl) ?_
  rintro _ w_1 ⟨b1, rfl, hS2⟩
  have hS2 : ST w0 [] _ [⟨some ⟨b, 0, none⟩, 116, [.int .i64 x.Num.A, .int .i64 x.Num.B, .int .i64 x.Num.C, .int .i64 x.Num.D, .int .i64 x.Exp], 5⟩, ⟨some ⟨b1, 0, none⟩, 114, [.int .i64 0, .int .i64 0, .int .i64 0, .int .i64 0], 4⟩] [] := hS2
  refine sq 5 rfl rfl (Y_assign (v := .bool false) rfl rfl) ?_
  refine rw_nil ?_
  refine cw_seq ?_
  refine cw_region ?_
  refine sq 9 rfl rfl (Y_fieldAddr (B := some ⟨b, 0, none⟩) (i := 0) (s := 3) k_fd_116_0_0_114 k_sz_114_4 rfl rfl) ?_
  refine sq 10 rfl rfl (Y_loadA (B := some ⟨b, 0, none⟩) (i := 0) (cs := [.int .i64 x.Num.A, .int .i64 x.Num.B, .int .i64 x.Num.C, .int .i64 x.Num.D, .int .i64 x.Exp]) (vs := [.int .i64 x.Num.A, .int .i64 x.Num.B, .int .i64 x.Num.C, .int .i64 x.Num.D]) k_ag_114 k_sz_114_4 rfl rfl (hS2.cf (i := 0) rfl) rfl rfl) ?_
  refine ss 6 rfl rfl (Ys_alloc (T := 114) (cs := [.int .i64 0, .int .i64 0, .int .i64 0, .int .i64 0]) (m := 4) hS2 k_zero_114 rfl rfl rfl) ?_
  rintro _ w_2 ⟨b2, rfl, hS3⟩
  have hS3 : ST w0 [] _ [⟨some ⟨b, 0, none⟩, 116, [.int .i64 x.Num.A, .int .i64 x.Num.B, .int .i64 x.Num.C, .int .i64 x.Num.D, .int .i64 x.Exp], 5⟩, ⟨some ⟨b1, 0, none⟩, 114, [.int .i64 0, .int .i64 0, .int .i64 0, .int .i64 0], 4⟩, ⟨some ⟨b2, 0, none⟩, 114, [.int .i64 0, .int .i64 0, .int .i64 0, .int .i64 0], 4⟩] [] := hS3
  refine ss0 rfl rfl (Ys_store (i := 2) (s := 4) (B := some ⟨b2, 0, none⟩) (T' := 114) (v := .agg #[.int .i64 x.Num.A, .int .i64 x.Num.B, .int .i64 x.Num.C, .int .i64 x.Num.D]) (vs := [.int .i64 x.Num.A, .int .i64 x.Num.B, .int .i64 x.Num.C, .int .i64 x.Num.D]) (k := 0) (cs' := [.int .i64 x.Num.A, .int .i64 x.Num.B, .int .i64 x.Num.C, .int .i64 x.Num.D]) hS3 k_sz_114_4 rfl rfl rfl rfl rfl rfl rfl (Nat.le_of_ble_eq_true rfl) rfl rfl) ?_
  rintro _ w_3 ⟨rfl, hS4⟩
  have hS4 : ST w0 [] _ [⟨some ⟨b, 0, none⟩, 116, [.int .i64 x.Num.A, .int .i64 x.Num.B, .int .i64 x.Num.C, .int .i64 x.Num.D, .int .i64 x.Exp], 5⟩, ⟨some ⟨b1, 0, none⟩, 114, [.int .i64 0, .int .i64 0, .int .i64 0, .int .i64 0], 4⟩, ⟨some ⟨b2, 0, none⟩, 114, [.int .i64 x.Num.A, .int .i64 x.Num.B, .int .i64 x.Num.C, .int .i64 x.Num.D], 4⟩] [] := hS4
  refine sq 7 rfl rfl (Y_assign (v := .bool true) rfl rfl) ?_
  refine rw_nil ?_
  refine cw_seq ?_
  refine cw_seq ?_
  refine cw_region ?_
  refine sq 11 rfl rfl (Y_fieldAddr (B := some ⟨b, 0, none⟩) (i := 0) (s := 0) k_fd_116_1_4_3 k_sz_3_1 rfl rfl) ?_
  refine sq 12 rfl rfl (Y_load1 (B := some ⟨b, 0, none⟩) (i := 4) (cs := [.int .i64 x.Num.A, .int .i64 x.Num.B, .int .i64 x.Num.C, .int .i64 x.Num.D, .int .i64 x.Exp]) (v := .int .i64 x.Exp) k_sc_3 rfl rfl (hS4.cf (i := 0) rfl) rfl) ?_
  refine sq 8 rfl rfl (Y_assign (v := .int .i64 x.Exp) rfl rfl) ?_
  refine rw_nil ?_
  obtain ⟨z, hz, hF1⟩ := bind_inv hF
  refine cw_block ?_
  refine cw_loop (fun k f w => ∃ (A : Int) (B : Int) (C : Int) (D : Int) (ok : Bool) (k_ : Int), FF f [(1, .int .i64 exp), (4, pt (some ⟨b1, 0, none⟩) 0), (6, pt (some ⟨b2, 0, none⟩) 0), (7, .bool ok), (8, .int .i64 k_)] ∧ ST w0 [] w [⟨some ⟨b1, 0, none⟩, 114, [.int .i64 0, .int .i64 0, .int .i64 0, .int .i64 0], 4⟩, ⟨some ⟨b2, 0, none⟩, 114, [.int .i64 A, .int .i64 B, .int .i64 C, .int .i64 D], 4⟩] [] ∧ whX (F_impl_raised_l1 exp) k (A, B, C, D, ok, k_) = some z) fuel ⟨x.Num.A, x.Num.B, x.Num.C, x.Num.D, true, x.Exp, (FF.cons rfl (FF.cons rfl (FF.cons rfl (FF.cons rfl (FF.cons rfl FF.nil))))), (hS4.sel [1, 2] rfl rfl), hz⟩ ?_
  rintro k_1 f w ⟨A, B, C, D, ok, k_, hf, hS5, hL⟩
  obtain ⟨k_2, y, rfl, hb, hL1⟩ := whX_go hL
  unfold F_impl_raised_l1 at hb
  refine cw_seq ?_
  refine cw_seq ?_
  refine cw_region ?_
  refine sq 13 rfl rfl (Y_move (v := .int .i64 k_) rfl (hf.get 8 4 rfl)) ?_
  refine sq 14 rfl rfl (Y_move (v := .int .i64 exp) rfl (hf.get 1 0 rfl)) ?_
  refine sq 15 rfl rfl (Y_lt (k := .i64) (a := k_) (b := exp) rfl rfl rfl) ?_
  refine sq 16 rfl rfl (Y_move (v := .bool (decide (k_ < exp))) rfl rfl) ?_
  refine sgq 17 (B := (decide (k_ < exp))) (v := .bool ok) rfl rfl (wt_t (gd_of (t := 16) (by kernel_rfl) rfl)) (fun hg => (Y_move (v := .bool ok) rfl (hf.get 7 3 rfl))) ?_
  refine sq 18 rfl rfl (Y_and (b := (decide (k_ < exp))) (z := ok) rfl rfl rfl rfl) ?_
  refine rw_nil ?_
  refine cw_cond (b := ((decide (k_ < exp)) && ok)) rfl (fun hb1 => ?_) (fun hb1 => ?_)
  · skip
    have hF2 := ct hb hb1
    refine cw_skip ?_
    refine cw_seq ?_
    refine cw_block ?_
    refine cw_region ?_
    refine sq 22 rfl rfl (Y_loadA (B := some ⟨b2, 0, none⟩) (i := 0) (cs := [.int .i64 A, .int .i64 B, .int .i64 C, .int .i64 D]) (vs := [.int .i64 A, .int .i64 B, .int .i64 C, .int .i64 D]) k_ag_114 k_sz_114_4 rfl (hf.get 6 2 rfl) (hS5.cf (i := 1) rfl) rfl rfl) ?_
    obtain ⟨⟨r_2, r_3⟩, hc, hF2⟩ := bind_inv hF2
    refine sc 23 rfl rfl (Yc_func (g := 188) (vs := [.agg #[.int .i64 A, .int .i64 B, .int .i64 C, .int .i64 D]]) k_call_188 rfl (mc rfl mn) (c_impl_MulRootTwo (TRing.mk A B C D) _  (hS5.inn0 [] rfl) hc)) ?_
    rintro _ w_4 ⟨rfl, hd⟩
    have hS6 := hS5.out00 hd
    have hS6 : ST w0 [] _ [⟨some ⟨b1, 0, none⟩, 114, [.int .i64 0, .int .i64 0, .int .i64 0, .int .i64 0], 4⟩, ⟨some ⟨b2, 0, none⟩, 114, [.int .i64 A, .int .i64 B, .int .i64 C, .int .i64 D], 4⟩] [] := hS6
    refine sq 21 rfl rfl (Y_move (v := .tuple #[.agg #[.int .i64 r_2.A, .int .i64 r_2.B, .int .i64 r_2.C, .int .i64 r_2.D], .bool r_3]) rfl rfl) ?_
    refine sq 24 rfl rfl (Y_extract (v := .agg #[.int .i64 r_2.A, .int .i64 r_2.B, .int .i64 r_2.C, .int .i64 r_2.D]) rfl rfl rfl) ?_
    refine sq 25 rfl rfl (Y_extract (v := .bool r_3) rfl rfl rfl) ?_
    refine ss0 rfl rfl (Ys_store (i := 1) (s := 4) (B := some ⟨b2, 0, none⟩) (T' := 114) (v := .agg #[.int .i64 r_2.A, .int .i64 r_2.B, .int .i64 r_2.C, .int .i64 r_2.D]) (vs := [.int .i64 r_2.A, .int .i64 r_2.B, .int .i64 r_2.C, .int .i64 r_2.D]) (k := 0) (cs' := [.int .i64 r_2.A, .int .i64 r_2.B, .int .i64 r_2.C, .int .i64 r_2.D]) hS6 k_sz_114_4 rfl (hf.get 6 2 rfl) rfl rfl rfl rfl rfl (Nat.le_of_ble_eq_true rfl) rfl rfl) ?_
    rintro _ w_5 ⟨rfl, hS7⟩
    have hS7 : ST w0 [] _ [⟨some ⟨b1, 0, none⟩, 114, [.int .i64 0, .int .i64 0, .int .i64 0, .int .i64 0], 4⟩, ⟨some ⟨b2, 0, none⟩, 114, [.int .i64 r_2.A, .int .i64 r_2.B, .int .i64 r_2.C, .int .i64 r_2.D], 4⟩] [] := hS7
    refine sq 7 rfl rfl (Y_assign (v := .bool r_3) rfl rfl) ?_
    refine rw_nil ?_
    refine cw_region ?_
    refine sq 19 rfl rfl (Y_move (v := .int .i64 k_) rfl (hf.get 8 4 rfl)) ?_
    refine sq 20 rfl rfl (Y_add (k := .i64) (a := k_) (b := 1) rfl rfl rfl) ?_
    refine sq 8 rfl rfl (Y_assign (v := .int .i64 (IntKind.i64.wrap (k_ + 1))) rfl rfl) ?_
    refine rw_nil ?_
    obtain rfl := some_inj hF2
    exact ⟨k_2, Nat.lt_succ_self _, r_2.A, r_2.B, r_2.C, r_2.D, r_3, (IntKind.i64.wrap (k_ + 1)), (FF.cons (hf.get 1 0 rfl) (FF.cons (hf.get 4 1 rfl) (FF.cons (hf.get 6 2 rfl) (FF.cons rfl (FF.cons rfl FF.nil))))), (hS7.sel [0, 1] rfl rfl), hL1⟩
  · skip
    have hF3 := cf' hb hb1
    refine cw_exit rfl ?_
    obtain rfl := some_inj hF3
    obtain rfl := some_inj hL1
    refine cw_seq ?_
    refine cw_region ?_
    refine sq 26 rfl rfl (Y_loadA (B := some ⟨b2, 0, none⟩) (i := 0) (cs := [.int .i64 A, .int .i64 B, .int .i64 C, .int .i64 D]) (vs := [.int .i64 A, .int .i64 B, .int .i64 C, .int .i64 D]) k_ag_114 k_sz_114_4 rfl (hf.get 6 2 rfl) (hS5.cf (i := 1) rfl) rfl rfl) ?_
    refine sq 27 rfl rfl (Y_move (v := .bool ok) rfl (hf.get 7 3 rfl)) ?_
    refine ss0 rfl rfl (Ys_store (i := 0) (s := 4) (B := some ⟨b1, 0, none⟩) (T' := 114) (v := .agg #[.int .i64 A, .int .i64 B, .int .i64 C, .int .i64 D]) (vs := [.int .i64 A, .int .i64 B, .int .i64 C, .int .i64 D]) (k := 0) (cs' := [.int .i64 A, .int .i64 B, .int .i64 C, .int .i64 D]) hS5 k_sz_114_4 rfl (hf.get 4 1 rfl) rfl rfl rfl rfl rfl (Nat.le_of_ble_eq_true rfl) rfl rfl) ?_
    rintro _ w_6 ⟨rfl, hS8⟩
    have hS8 : ST w0 [] _ [⟨some ⟨b1, 0, none⟩, 114, [.int .i64 A, .int .i64 B, .int .i64 C, .int .i64 D], 4⟩, ⟨some ⟨b2, 0, none⟩, 114, [.int .i64 A, .int .i64 B, .int .i64 C, .int .i64 D], 4⟩] [] := hS8
    refine sq 5 rfl rfl (Y_assign (v := .bool ok) rfl rfl) ?_
    refine rw_nil ?_
    refine cw_ret ?_
    obtain ⟨rfl, rfl⟩ := pr2 (some_inj hF1)
    exact ret2 Try.results175 (v1 := .agg #[.int .i64 A, .int .i64 B, .int .i64 C, .int .i64 D]) (resAt_cellA (B := some ⟨b1, 0, none⟩) (i := 0) (cs := [.int .i64 A, .int .i64 B, .int .i64 C, .int .i64 D]) (vs := [.int .i64 A, .int .i64 B, .int .i64 C, .int .i64 D]) (hf.get 4 1 rfl) k_ag_114 k_sz_114_4 (hS8.cf (i := 0) rfl) rfl rfl) (v2 := .bool ok) (resAt_tmp rfl) ⟨rfl, (ST.subR (R' := []) (hS8.sel [] rfl rfl) (fun _ h => by cases h))⟩

theorem c_impl_combined (x : TDyadic) (y : TDyadic) (operation : TRing → TRing → Option (TRing × Bool)) (kf : Nat) (caps : Array Value) (Rf : List Ro) (w0 : World) (hk : callB Try.prog kf = true) (hp : ∀ (w : World), ST w [] w [] Rf → ∀ (x1 : TRing) (x2 : TRing) (y2 : TRing) (y3 : Bool), operation x1 x2 = some (y2, y3) → CV Try.prog kf ((.agg #[.int .i64 x1.A, .int .i64 x1.B, .int .i64 x1.C, .int .i64 x1.D]) :: (.agg #[.int .i64 x2.A, .int .i64 x2.B, .int .i64 x2.C, .int .i64 x2.D]) :: caps.toList).toArray w (fun v w' => v = .tuple #[.agg #[.int .i64 y2.A, .int .i64 y2.B, .int .i64 y2.C, .int .i64 y2.D], .bool y3] ∧ ST w [] w' [] [])) (hS : ST w0 [] w0 [] (Rf)) {r_ : TDyadic} {r_1 : Bool} (hF : F_impl_combined x y operation = some (r_, r_1)) :
    CV Try.prog 159 #[.agg #[.int .i64 x.Num.A, .int .i64 x.Num.B, .int .i64 x.Num.C, .int .i64 x.Num.D, .int .i64 x.Exp], .agg #[.int .i64 y.Num.A, .int .i64 y.Num.B, .int .i64 y.Num.C, .int .i64 y.Num.D, .int .i64 y.Exp], .func (.func kf) #[] caps] w0 (fun v w' => v = .tuple #[.agg #[.int .i64 r_.Num.A, .int .i64 r_.Num.B, .int .i64 r_.Num.C, .int .i64 r_.Num.D, .int .i64 r_.Exp], .bool r_1] ∧ ST w0 [] w' [] []) := by
  unfold F_impl_combined at hF
  refine cv_of_cw 64 Try.func159 rfl Try.ntmps159 rfl ?_
  refine cw_seq ?_
  refine cw_region ?_
  refine ss 3 rfl rfl (Ys_box (T := 116) (v := .agg #[.int .i64 x.Num.A, .int .i64 x.Num.B, .int .i64 x.Num.C, .int .i64 x.Num.D, .int .i64 x.Exp]) (cs := [.int .i64 x.Num.A, .int .i64 x.Num.B, .int .i64 x.Num.C, .int .i64 x.Num.D, .int .i64 x.Exp]) (m := 5) hS rfl rfl rfl rfl) ?_
  rintro _ w_ ⟨b, rfl, hS1⟩
  refine ss 4 rfl rfl (Ys_box (T := 116) (v := .agg #[.int .i64 y.Num.A, .int .i64 y.Num.B, .int .i64 y.Num.C, .int .i64 y.Num.D, .int .i64 y.Exp]) (cs := [.int .i64 y.Num.A, .int .i64 y.Num.B, .int .i64 y.Num.C, .int .i64 y.Num.D, .int .i64 y.Exp]) (m := 5) hS1 rfl rfl rfl rfl) ?_
  rintro _ w_1 ⟨b1, rfl, hS2⟩
  have hS2 : ST w0 [] _ [⟨some ⟨b, 0, none⟩, 116, [.int .i64 x.Num.A, .int .i64 x.Num.B, .int .i64 x.Num.C, .int .i64 x.Num.D, .int .i64 x.Exp], 5⟩, ⟨some ⟨b1, 0, none⟩, 116, [.int .i64 y.Num.A, .int .i64 y.Num.B, .int .i64 y.Num.C, .int .i64 y.Num.D, .int .i64 y.Exp], 5⟩] (Rf) := hS2
  refine ss 6 rfl rfl (Ys_alloc (T := 116) (cs := [.int .i64 0, .int .i64 0, .int .i64 0, .int .i64 0, .int .i64 0]) (m := 5) hS2 k_zero_116 rfl rfl rfl) ?_
  rintro _ w_2 ⟨b2, rfl, hS3⟩
  have hS3 : ST w0 [] _ [⟨some ⟨b, 0, none⟩, 116, [.int .i64 x.Num.A, .int .i64 x.Num.B, .int .i64 x.Num.C, .int .i64 x.Num.D, .int .i64 x.Exp], 5⟩, ⟨some ⟨b1, 0, none⟩, 116, [.int .i64 y.Num.A, .int .i64 y.Num.B, .int .i64 y.Num.C, .int .i64 y.Num.D, .int .i64 y.Exp], 5⟩, ⟨some ⟨b2, 0, none⟩, 116, [.int .i64 0, .int .i64 0, .int .i64 0, .int .i64 0, .int .i64 0], 5⟩] (Rf) := hS3
  refine sq 7 rfl rfl (Y_assign (v := .bool false) rfl rfl) ?_
  refine rw_nil ?_
  refine cw_seq ?_
  refine cw_seq ?_
  refine cw_region ?_
  refine sq 15 rfl rfl (Y_loadA (B := some ⟨b, 0, none⟩) (i := 0) (cs := [.int .i64 x.Num.A, .int .i64 x.Num.B, .int .i64 x.Num.C, .int .i64 x.Num.D, .int .i64 x.Exp]) (vs := [.int .i64 x.Num.A, .int .i64 x.Num.B, .int .i64 x.Num.C, .int .i64 x.Num.D, .int .i64 x.Exp]) k_ag_116 k_sz_116_5 rfl rfl (hS3.cf (i := 0) rfl) rfl rfl) ?_
  obtain ⟨r_2, hc, hF⟩ := bind_inv hF
  refine sc 16 rfl rfl (Yc_func (g := 125) (vs := [.agg #[.int .i64 x.Num.A, .int .i64 x.Num.B, .int .i64 x.Num.C, .int .i64 x.Num.D, .int .i64 x.Exp]]) k_call_125 rfl (mc rfl mn) (c_impl_IsValidDyadic x _  (hS3.inn0 [] rfl) hc)) ?_
  rintro _ w_3 ⟨rfl, hd⟩
  have hS4 := hS3.out00 hd
  have hS4 : ST w0 [] _ [⟨some ⟨b, 0, none⟩, 116, [.int .i64 x.Num.A, .int .i64 x.Num.B, .int .i64 x.Num.C, .int .i64 x.Num.D, .int .i64 x.Exp], 5⟩, ⟨some ⟨b1, 0, none⟩, 116, [.int .i64 y.Num.A, .int .i64 y.Num.B, .int .i64 y.Num.C, .int .i64 y.Num.D, .int .i64 y.Exp], 5⟩, ⟨some ⟨b2, 0, none⟩, 116, [.int .i64 0, .int .i64 0, .int .i64 0, .int .i64 0, .int .i64 0], 5⟩] (Rf) := hS4
  refine sq 17 rfl rfl (Y_not (p := r_2) rfl rfl) ?_
  refine sq 18 rfl rfl (Y_move (v := .bool (!r_2)) rfl rfl) ?_
  refine sgq 19 (B := (!(!r_2))) (v := .agg #[.int .i64 y.Num.A, .int .i64 y.Num.B, .int .i64 y.Num.C, .int .i64 y.Num.D, .int .i64 y.Exp]) rfl rfl (wt_f (gd_of (t := 18) (by kernel_rfl) rfl)) (fun hg => (Y_loadA (B := some ⟨b1, 0, none⟩) (i := 0) (cs := [.int .i64 y.Num.A, .int .i64 y.Num.B, .int .i64 y.Num.C, .int .i64 y.Num.D, .int .i64 y.Exp]) (vs := [.int .i64 y.Num.A, .int .i64 y.Num.B, .int .i64 y.Num.C, .int .i64 y.Num.D, .int .i64 y.Exp]) k_ag_116 k_sz_116_5 rfl rfl (hS4.cf (i := 1) rfl) rfl rfl)) ?_
  obtain ⟨r_3, hc1, hF⟩ := bind_inv hF
  refine sgc 20 (B := (!(!r_2))) (v := .bool r_3) (F := hS4.fn) rfl rfl (wt_f (gd_of (t := 18) (by kernel_rfl) rfl)) hS4 (fun hg1 => (Yc_func (g := 125) (vs := [.agg #[.int .i64 y.Num.A, .int .i64 y.Num.B, .int .i64 y.Num.C, .int .i64 y.Num.D, .int .i64 y.Exp]]) k_call_125 rfl (mc (gv_of (B := (!(!r_2))) (v := .agg #[.int .i64 y.Num.A, .int .i64 y.Num.B, .int .i64 y.Num.C, .int .i64 y.Num.D, .int .i64 y.Exp]) hg1) mn) (CV.mono (c_impl_IsValidDyadic y _  (hS4.inn0 [] rfl) (gb_inv hc1 hg1)) (by rintro _ _ ⟨rfl, h⟩; exact ⟨rfl, hS4.out00 h⟩)))) ?_
  rintro w_4 hS5
  have hS5 : ST _ _ w_4 _ _ := hS5
  refine sgq 21 (B := (!(!r_2))) (v := .bool (!r_3)) rfl rfl (wt_f (gd_of (t := 18) (by kernel_rfl) rfl)) (fun hg2 => (Y_not (p := r_3) rfl (gv_of (B := (!(!r_2))) (v := .bool r_3) hg2))) ?_
  refine sq 22 rfl rfl (Y_or (b := (!r_2)) (z := (!r_3)) rfl rfl rfl rfl) ?_
  refine rw_nil ?_
  refine cw_cond (b := ((!r_2) || (!r_3))) rfl (fun hb => ?_) (fun hb => ?_)
  · skip
    have hF1 := ct hF hb
    refine cw_seq ?_
    refine cw_region ?_
    refine sq 23 rfl rfl (Y_buildS (zs := [.int .i64 0, .int .i64 0, .int .i64 0, .int .i64 0, .int .i64 0]) (vs := []) (cs := [.int .i64 0, .int .i64 0, .int .i64 0, .int .i64 0, .int .i64 0]) k_pl_116 k_zero_116 rfl mpn rfl) ?_
    refine ss0 rfl rfl (Ys_store (i := 2) (s := 5) (B := some ⟨b2, 0, none⟩) (T' := 116) (v := .agg #[.int .i64 0, .int .i64 0, .int .i64 0, .int .i64 0, .int .i64 0]) (vs := [.int .i64 0, .int .i64 0, .int .i64 0, .int .i64 0, .int .i64 0]) (k := 0) (cs' := [.int .i64 0, .int .i64 0, .int .i64 0, .int .i64 0, .int .i64 0]) hS5 k_sz_116_5 rfl rfl rfl rfl rfl rfl rfl (Nat.le_of_ble_eq_true rfl) rfl rfl) ?_
    rintro _ w_5 ⟨rfl, hS6⟩
    have hS6 : ST w0 [] _ [⟨some ⟨b, 0, none⟩, 116, [.int .i64 x.Num.A, .int .i64 x.Num.B, .int .i64 x.Num.C, .int .i64 x.Num.D, .int .i64 x.Exp], 5⟩, ⟨some ⟨b1, 0, none⟩, 116, [.int .i64 y.Num.A, .int .i64 y.Num.B, .int .i64 y.Num.C, .int .i64 y.Num.D, .int .i64 y.Exp], 5⟩, ⟨some ⟨b2, 0, none⟩, 116, [.int .i64 0, .int .i64 0, .int .i64 0, .int .i64 0, .int .i64 0], 5⟩] (Rf) := hS6
    refine sq 7 rfl rfl (Y_assign (v := .bool false) rfl rfl) ?_
    refine rw_nil ?_
    refine cw_ret ?_
    obtain ⟨rfl, rfl⟩ := pr2 (some_inj hF1)
    exact ret2 Try.results159 (v1 := .agg #[.int .i64 0, .int .i64 0, .int .i64 0, .int .i64 0, .int .i64 0]) (resAt_cellA (B := some ⟨b2, 0, none⟩) (i := 0) (cs := [.int .i64 0, .int .i64 0, .int .i64 0, .int .i64 0, .int .i64 0]) (vs := [.int .i64 0, .int .i64 0, .int .i64 0, .int .i64 0, .int .i64 0]) rfl k_ag_116 k_sz_116_5 (hS6.cf (i := 2) rfl) rfl rfl) (v2 := .bool false) (resAt_tmp rfl) ⟨rfl, (ST.subR (R' := []) (hS6.sel [] rfl rfl) (fun _ h => by cases h))⟩
  · skip
    have hF2 := cf' hF hb
    refine cw_skip ?_
    refine cw_seq ?_
    refine cw_region ?_
    refine sq 24 rfl rfl (Y_fieldAddr (B := some ⟨b, 0, none⟩) (i := 0) (s := 0) k_fd_116_1_4_3 k_sz_3_1 rfl rfl) ?_
    refine sq 25 rfl rfl (Y_load1 (B := some ⟨b, 0, none⟩) (i := 4) (cs := [.int .i64 x.Num.A, .int .i64 x.Num.B, .int .i64 x.Num.C, .int .i64 x.Num.D, .int .i64 x.Exp]) (v := .int .i64 x.Exp) k_sc_3 rfl rfl (hS5.cf (i := 0) rfl) rfl) ?_
    refine sq 26 rfl rfl (Y_fieldAddr (B := some ⟨b1, 0, none⟩) (i := 0) (s := 0) k_fd_116_1_4_3 k_sz_3_1 rfl rfl) ?_
    refine sq 27 rfl rfl (Y_load1 (B := some ⟨b1, 0, none⟩) (i := 4) (cs := [.int .i64 y.Num.A, .int .i64 y.Num.B, .int .i64 y.Num.C, .int .i64 y.Num.D, .int .i64 y.Exp]) (v := .int .i64 y.Exp) k_sc_3 rfl rfl (hS5.cf (i := 1) rfl) rfl) ?_
    refine sq 28 rfl rfl (Y_max2 (k := .i64) (a := x.Exp) (b := y.Exp) rfl rfl rfl) ?_
    refine sq 8 rfl rfl (Y_assign (v := .int .i64 (if x.Exp < y.Exp then y.Exp else x.Exp)) rfl rfl) ?_
    refine rw_nil ?_
    refine cw_seq ?_
    refine cw_region ?_
    refine sq 30 rfl rfl (Y_loadA (B := some ⟨b, 0, none⟩) (i := 0) (cs := [.int .i64 x.Num.A, .int .i64 x.Num.B, .int .i64 x.Num.C, .int .i64 x.Num.D, .int .i64 x.Exp]) (vs := [.int .i64 x.Num.A, .int .i64 x.Num.B, .int .i64 x.Num.C, .int .i64 x.Num.D, .int .i64 x.Exp]) k_ag_116 k_sz_116_5 rfl rfl (hS5.cf (i := 0) rfl) rfl rfl) ?_
    refine sq 31 rfl rfl (Y_move (v := .int .i64 (if x.Exp < y.Exp then y.Exp else x.Exp)) rfl rfl) ?_
    obtain ⟨⟨r_4, r_5⟩, hc2, hF2⟩ := bind_inv hF2
    refine sc 32 rfl rfl (Yc_func (g := 175) (vs := [.agg #[.int .i64 x.Num.A, .int .i64 x.Num.B, .int .i64 x.Num.C, .int .i64 x.Num.D, .int .i64 x.Exp], .int .i64 (if x.Exp < y.Exp then y.Exp else x.Exp)]) k_call_175 rfl (mc rfl (mc rfl mn)) (c_impl_raised x (if x.Exp < y.Exp then y.Exp else x.Exp) _  (hS5.inn0 [] rfl) hc2)) ?_
    rintro _ w_6 ⟨rfl, hd1⟩
    have hS7 := hS5.out00 hd1
    have hS7 : ST w0 [] _ [⟨some ⟨b, 0, none⟩, 116, [.int .i64 x.Num.A, .int .i64 x.Num.B, .int .i64 x.Num.C, .int .i64 x.Num.D, .int .i64 x.Exp], 5⟩, ⟨some ⟨b1, 0, none⟩, 116, [.int .i64 y.Num.A, .int .i64 y.Num.B, .int .i64 y.Num.C, .int .i64 y.Num.D, .int .i64 y.Exp], 5⟩, ⟨some ⟨b2, 0, none⟩, 116, [.int .i64 0, .int .i64 0, .int .i64 0, .int .i64 0, .int .i64 0], 5⟩] (Rf) := hS7
    refine sq 29 rfl rfl (Y_move (v := .tuple #[.agg #[.int .i64 r_4.A, .int .i64 r_4.B, .int .i64 r_4.C, .int .i64 r_4.D], .bool r_5]) rfl rfl) ?_
    refine sq 33 rfl rfl (Y_extract (v := .agg #[.int .i64 r_4.A, .int .i64 r_4.B, .int .i64 r_4.C, .int .i64 r_4.D]) rfl rfl rfl) ?_
    refine sq 34 rfl rfl (Y_extract (v := .bool r_5) rfl rfl rfl) ?_
    refine ss 9 rfl rfl (Ys_alloc (T := 114) (cs := [.int .i64 0, .int .i64 0, .int .i64 0, .int .i64 0]) (m := 4) hS7 k_zero_114 rfl rfl rfl) ?_
    rintro _ w_7 ⟨b3, rfl, hS8⟩
    have hS8 : ST w0 [] _ [⟨some ⟨b, 0, none⟩, 116, [.int .i64 x.Num.A, .int .i64 x.Num.B, .int .i64 x.Num.C, .int .i64 x.Num.D, .int .i64 x.Exp], 5⟩, ⟨some ⟨b1, 0, none⟩, 116, [.int .i64 y.Num.A, .int .i64 y.Num.B, .int .i64 y.Num.C, .int .i64 y.Num.D, .int .i64 y.Exp], 5⟩, ⟨some ⟨b2, 0, none⟩, 116, [.int .i64 0, .int .i64 0, .int .i64 0, .int .i64 0, .int .i64 0], 5⟩, ⟨some ⟨b3, 0, none⟩, 114, [.int .i64 0, .int .i64 0, .int .i64 0, .int .i64 0], 4⟩] (Rf) := hS8
    refine ss0 rfl rfl (Ys_store (i := 3) (s := 4) (B := some ⟨b3, 0, none⟩) (T' := 114) (v := .agg #[.int .i64 r_4.A, .int .i64 r_4.B, .int .i64 r_4.C, .int .i64 r_4.D]) (vs := [.int .i64 r_4.A, .int .i64 r_4.B, .int .i64 r_4.C, .int .i64 r_4.D]) (k := 0) (cs' := [.int .i64 r_4.A, .int .i64 r_4.B, .int .i64 r_4.C, .int .i64 r_4.D]) hS8 k_sz_114_4 rfl rfl rfl rfl rfl rfl rfl (Nat.le_of_ble_eq_true rfl) rfl rfl) ?_
    rintro _ w_8 ⟨rfl, hS9⟩
    have hS9 : ST w0 [] _ [⟨some ⟨b, 0, none⟩, 116, [.int .i64 x.Num.A, .int .i64 x.Num.B, .int .i64 x.Num.C, .int .i64 x.Num.D, .int .i64 x.Exp], 5⟩, ⟨some ⟨b1, 0, none⟩, 116, [.int .i64 y.Num.A, .int .i64 y.Num.B, .int .i64 y.Num.C, .int .i64 y.Num.D, .int .i64 y.Exp], 5⟩, ⟨some ⟨b2, 0, none⟩, 116, [.int .i64 0, .int .i64 0, .int .i64 0, .int .i64 0, .int .i64 0], 5⟩, ⟨some ⟨b3, 0, none⟩, 114, [.int .i64 r_4.A, .int .i64 r_4.B, .int .i64 r_4.C, .int .i64 r_4.D], 4⟩] (Rf) := hS9
    refine sq 10 rfl rfl (Y_assign (v := .bool r_5) rfl rfl) ?_
    refine rw_nil ?_
    refine cw_seq ?_
    refine cw_region ?_
    refine sq 36 rfl rfl (Y_loadA (B := some ⟨b1, 0, none⟩) (i := 0) (cs := [.int .i64 y.Num.A, .int .i64 y.Num.B, .int .i64 y.Num.C, .int .i64 y.Num.D, .int .i64 y.Exp]) (vs := [.int .i64 y.Num.A, .int .i64 y.Num.B, .int .i64 y.Num.C, .int .i64 y.Num.D, .int .i64 y.Exp]) k_ag_116 k_sz_116_5 rfl rfl (hS9.cf (i := 1) rfl) rfl rfl) ?_
    refine sq 37 rfl rfl (Y_move (v := .int .i64 (if x.Exp < y.Exp then y.Exp else x.Exp)) rfl rfl) ?_
    obtain ⟨⟨r_6, r_7⟩, hc3, hF2⟩ := bind_inv hF2
    refine sc 38 rfl rfl (Yc_func (g := 175) (vs := [.agg #[.int .i64 y.Num.A, .int .i64 y.Num.B, .int .i64 y.Num.C, .int .i64 y.Num.D, .int .i64 y.Exp], .int .i64 (if x.Exp < y.Exp then y.Exp else x.Exp)]) k_call_175 rfl (mc rfl (mc rfl mn)) (c_impl_raised y (if x.Exp < y.Exp then y.Exp else x.Exp) _  (hS9.inn0 [] rfl) hc3)) ?_
    rintro _ w_9 ⟨rfl, hd2⟩
    have hS10 := hS9.out00 hd2
    have hS10 : ST w0 [] _ [⟨some ⟨b, 0, none⟩, 116, [.int .i64 x.Num.A, .int .i64 x.Num.B, .int .i64 x.Num.C, .int .i64 x.Num.D, .int .i64 x.Exp], 5⟩, ⟨some ⟨b1, 0, none⟩, 116, [.int .i64 y.Num.A, .int .i64 y.Num.B, .int .i64 y.Num.C, .int .i64 y.Num.D, .int .i64 y.Exp], 5⟩, ⟨some ⟨b2, 0, none⟩, 116, [.int .i64 0, .int .i64 0, .int .i64 0, .int .i64 0, .int .i64 0], 5⟩, ⟨some ⟨b3, 0, none⟩, 114, [.int .i64 r_4.A, .int .i64 r_4.B, .int .i64 r_4.C, .int .i64 r_4.D], 4⟩] (Rf) := hS10
    refine sq 35 rfl rfl (Y_move (v := .tuple #[.agg #[.int .i64 r_6.A, .int .i64 r_6.B, .int .i64 r_6.C, .int .i64 r_6.D], .bool r_7]) rfl rfl) ?_
    refine sq 39 rfl rfl (Y_extract (v := .agg #[.int .i64 r_6.A, .int .i64 r_6.B, .int .i64 r_6.C, .int .i64 r_6.D]) rfl rfl rfl) ?_
    refine sq 40 rfl rfl (Y_extract (v := .bool r_7) rfl rfl rfl) ?_
    refine ss 11 rfl rfl (Ys_alloc (T := 114) (cs := [.int .i64 0, .int .i64 0, .int .i64 0, .int .i64 0]) (m := 4) hS10 k_zero_114 rfl rfl rfl) ?_
    rintro _ w_10 ⟨b4, rfl, hS11⟩
    have hS11 : ST w0 [] _ [⟨some ⟨b, 0, none⟩, 116, [.int .i64 x.Num.A, .int .i64 x.Num.B, .int .i64 x.Num.C, .int .i64 x.Num.D, .int .i64 x.Exp], 5⟩, ⟨some ⟨b1, 0, none⟩, 116, [.int .i64 y.Num.A, .int .i64 y.Num.B, .int .i64 y.Num.C, .int .i64 y.Num.D, .int .i64 y.Exp], 5⟩, ⟨some ⟨b2, 0, none⟩, 116, [.int .i64 0, .int .i64 0, .int .i64 0, .int .i64 0, .int .i64 0], 5⟩, ⟨some ⟨b3, 0, none⟩, 114, [.int .i64 r_4.A, .int .i64 r_4.B, .int .i64 r_4.C, .int .i64 r_4.D], 4⟩, ⟨some ⟨b4, 0, none⟩, 114, [.int .i64 0, .int .i64 0, .int .i64 0, .int .i64 0], 4⟩] (Rf) := hS11
    refine ss0 rfl rfl (Ys_store (i := 4) (s := 4) (B := some ⟨b4, 0, none⟩) (T' := 114) (v := .agg #[.int .i64 r_6.A, .int .i64 r_6.B, .int .i64 r_6.C, .int .i64 r_6.D]) (vs := [.int .i64 r_6.A, .int .i64 r_6.B, .int .i64 r_6.C, .int .i64 r_6.D]) (k := 0) (cs' := [.int .i64 r_6.A, .int .i64 r_6.B, .int .i64 r_6.C, .int .i64 r_6.D]) hS11 k_sz_114_4 rfl rfl rfl rfl rfl rfl rfl (Nat.le_of_ble_eq_true rfl) rfl rfl) ?_
    rintro _ w_11 ⟨rfl, hS12⟩
    have hS12 : ST w0 [] _ [⟨some ⟨b, 0, none⟩, 116, [.int .i64 x.Num.A, .int .i64 x.Num.B, .int .i64 x.Num.C, .int .i64 x.Num.D, .int .i64 x.Exp], 5⟩, ⟨some ⟨b1, 0, none⟩, 116, [.int .i64 y.Num.A, .int .i64 y.Num.B, .int .i64 y.Num.C, .int .i64 y.Num.D, .int .i64 y.Exp], 5⟩, ⟨some ⟨b2, 0, none⟩, 116, [.int .i64 0, .int .i64 0, .int .i64 0, .int .i64 0, .int .i64 0], 5⟩, ⟨some ⟨b3, 0, none⟩, 114, [.int .i64 r_4.A, .int .i64 r_4.B, .int .i64 r_4.C, .int .i64 r_4.D], 4⟩, ⟨some ⟨b4, 0, none⟩, 114, [.int .i64 r_6.A, .int .i64 r_6.B, .int .i64 r_6.C, .int .i64 r_6.D], 4⟩] (Rf) := hS12
    refine sq 12 rfl rfl (Y_assign (v := .bool r_7) rfl rfl) ?_
    refine rw_nil ?_
    refine cw_seq ?_
    refine cw_region ?_
    refine sq 42 rfl rfl (Y_move (v := .func (.func kf) #[] caps) rfl rfl) ?_
    refine sq 43 rfl rfl (Y_loadA (B := some ⟨b3, 0, none⟩) (i := 0) (cs := [.int .i64 r_4.A, .int .i64 r_4.B, .int .i64 r_4.C, .int .i64 r_4.D]) (vs := [.int .i64 r_4.A, .int .i64 r_4.B, .int .i64 r_4.C, .int .i64 r_4.D]) k_ag_114 k_sz_114_4 rfl rfl (hS12.cf (i := 3) rfl) rfl rfl) ?_
    refine sq 44 rfl rfl (Y_loadA (B := some ⟨b4, 0, none⟩) (i := 0) (cs := [.int .i64 r_6.A, .int .i64 r_6.B, .int .i64 r_6.C, .int .i64 r_6.D]) (vs := [.int .i64 r_6.A, .int .i64 r_6.B, .int .i64 r_6.C, .int .i64 r_6.D]) k_ag_114 k_sz_114_4 rfl rfl (hS12.cf (i := 4) rfl) rfl rfl) ?_
    obtain ⟨⟨r_8, r_9⟩, hc4, hF2⟩ := bind_inv hF2
    refine sc 45 rfl rfl (Yc_clos (g := kf) (vs := (.agg #[.int .i64 r_4.A, .int .i64 r_4.B, .int .i64 r_4.C, .int .i64 r_4.D]) :: (.agg #[.int .i64 r_6.A, .int .i64 r_6.B, .int .i64 r_6.C, .int .i64 r_6.D]) :: caps.toList) hk rfl rfl (clo_args (mc rfl (mc rfl mn))) (hp _ (hS12.innS (fun _ h => List.mem_of_mem_drop (i := 0) h)) r_4 r_6 r_8 r_9 hc4)) ?_
    rintro _ w_12 ⟨rfl, hd3⟩
    have hS13 := hS12.out00 hd3
    have hS13 : ST w0 [] _ [⟨some ⟨b, 0, none⟩, 116, [.int .i64 x.Num.A, .int .i64 x.Num.B, .int .i64 x.Num.C, .int .i64 x.Num.D, .int .i64 x.Exp], 5⟩, ⟨some ⟨b1, 0, none⟩, 116, [.int .i64 y.Num.A, .int .i64 y.Num.B, .int .i64 y.Num.C, .int .i64 y.Num.D, .int .i64 y.Exp], 5⟩, ⟨some ⟨b2, 0, none⟩, 116, [.int .i64 0, .int .i64 0, .int .i64 0, .int .i64 0, .int .i64 0], 5⟩, ⟨some ⟨b3, 0, none⟩, 114, [.int .i64 r_4.A, .int .i64 r_4.B, .int .i64 r_4.C, .int .i64 r_4.D], 4⟩, ⟨some ⟨b4, 0, none⟩, 114, [.int .i64 r_6.A, .int .i64 r_6.B, .int .i64 r_6.C, .int .i64 r_6.D], 4⟩] (Rf) := hS13
    refine sq 41 rfl rfl (Y_move (v := .tuple #[.agg #[.int .i64 r_8.A, .int .i64 r_8.B, .int .i64 r_8.C, .int .i64 r_8.D], .bool r_9]) rfl rfl) ?_
    refine sq 46 rfl rfl (Y_extract (v := .agg #[.int .i64 r_8.A, .int .i64 r_8.B, .int .i64 r_8.C, .int .i64 r_8.D]) rfl rfl rfl) ?_
    refine sq 47 rfl rfl (Y_extract (v := .bool r_9) rfl rfl rfl) ?_
    refine ss 13 rfl rfl (Ys_alloc (T := 114) (cs := [.int .i64 0, .int .i64 0, .int .i64 0, .int .i64 0]) (m := 4) hS13 k_zero_114 rfl rfl rfl) ?_
    rintro _ w_13 ⟨b5, rfl, hS14⟩
    have hS14 : ST w0 [] _ [⟨some ⟨b, 0, none⟩, 116, [.int .i64 x.Num.A, .int .i64 x.Num.B, .int .i64 x.Num.C, .int .i64 x.Num.D, .int .i64 x.Exp], 5⟩, ⟨some ⟨b1, 0, none⟩, 116, [.int .i64 y.Num.A, .int .i64 y.Num.B, .int .i64 y.Num.C, .int .i64 y.Num.D, .int .i64 y.Exp], 5⟩, ⟨some ⟨b2, 0, none⟩, 116, [.int .i64 0, .int .i64 0, .int .i64 0, .int .i64 0, .int .i64 0], 5⟩, ⟨some ⟨b3, 0, none⟩, 114, [.int .i64 r_4.A, .int .i64 r_4.B, .int .i64 r_4.C, .int .i64 r_4.D], 4⟩, ⟨some ⟨b4, 0, none⟩, 114, [.int .i64 r_6.A, .int .i64 r_6.B, .int .i64 r_6.C, .int .i64 r_6.D], 4⟩, ⟨some ⟨b5, 0, none⟩, 114, [.int .i64 0, .int .i64 0, .int .i64 0, .int .i64 0], 4⟩] (Rf) := hS14
    refine ss0 rfl rfl (Ys_store (i := 5) (s := 4) (B := some ⟨b5, 0, none⟩) (T' := 114) (v := .agg #[.int .i64 r_8.A, .int .i64 r_8.B, .int .i64 r_8.C, .int .i64 r_8.D]) (vs := [.int .i64 r_8.A, .int .i64 r_8.B, .int .i64 r_8.C, .int .i64 r_8.D]) (k := 0) (cs' := [.int .i64 r_8.A, .int .i64 r_8.B, .int .i64 r_8.C, .int .i64 r_8.D]) hS14 k_sz_114_4 rfl rfl rfl rfl rfl rfl rfl (Nat.le_of_ble_eq_true rfl) rfl rfl) ?_
    rintro _ w_14 ⟨rfl, hS15⟩
    have hS15 : ST w0 [] _ [⟨some ⟨b, 0, none⟩, 116, [.int .i64 x.Num.A, .int .i64 x.Num.B, .int .i64 x.Num.C, .int .i64 x.Num.D, .int .i64 x.Exp], 5⟩, ⟨some ⟨b1, 0, none⟩, 116, [.int .i64 y.Num.A, .int .i64 y.Num.B, .int .i64 y.Num.C, .int .i64 y.Num.D, .int .i64 y.Exp], 5⟩, ⟨some ⟨b2, 0, none⟩, 116, [.int .i64 0, .int .i64 0, .int .i64 0, .int .i64 0, .int .i64 0], 5⟩, ⟨some ⟨b3, 0, none⟩, 114, [.int .i64 r_4.A, .int .i64 r_4.B, .int .i64 r_4.C, .int .i64 r_4.D], 4⟩, ⟨some ⟨b4, 0, none⟩, 114, [.int .i64 r_6.A, .int .i64 r_6.B, .int .i64 r_6.C, .int .i64 r_6.D], 4⟩, ⟨some ⟨b5, 0, none⟩, 114, [.int .i64 r_8.A, .int .i64 r_8.B, .int .i64 r_8.C, .int .i64 r_8.D], 4⟩] (Rf) := hS15
    refine sq 14 rfl rfl (Y_assign (v := .bool r_9) rfl rfl) ?_
    refine rw_nil ?_
    refine cw_seq ?_
    refine cw_seq ?_
    refine cw_region ?_
    refine sq 48 rfl rfl (Y_move (v := .bool r_5) rfl rfl) ?_
    refine sq 49 rfl rfl (Y_not (p := r_5) rfl rfl) ?_
    refine sq 50 rfl rfl (Y_move (v := .bool (!r_5)) rfl rfl) ?_
    refine sgq 51 (B := (!(!r_5))) (v := .bool r_7) rfl rfl (wt_f (gd_of (t := 50) (by kernel_rfl) rfl)) (fun hg3 => (Y_move (v := .bool r_7) rfl rfl)) ?_
    refine sgq 52 (B := (!(!r_5))) (v := .bool (!r_7)) rfl rfl (wt_f (gd_of (t := 50) (by kernel_rfl) rfl)) (fun hg4 => (Y_not (p := r_7) rfl (gv_of (B := (!(!r_5))) (v := .bool r_7) hg4))) ?_
    refine sq 53 rfl rfl (Y_or (b := (!r_5)) (z := (!r_7)) rfl rfl rfl rfl) ?_
    refine sq 54 rfl rfl (Y_move (v := .bool ((!r_5) || (!r_7))) rfl rfl) ?_
    refine sgq 55 (B := (!((!r_5) || (!r_7)))) (v := .bool r_9) rfl rfl (wt_f (gd_of (t := 54) (by kernel_rfl) rfl)) (fun hg5 => (Y_move (v := .bool r_9) rfl rfl)) ?_
    refine sgq 56 (B := (!((!r_5) || (!r_7)))) (v := .bool (!r_9)) rfl rfl (wt_f (gd_of (t := 54) (by kernel_rfl) rfl)) (fun hg6 => (Y_not (p := r_9) rfl (gv_of (B := (!((!r_5) || (!r_7)))) (v := .bool r_9) hg6))) ?_
    refine sq 57 rfl rfl (Y_or (b := ((!r_5) || (!r_7))) (z := (!r_9)) rfl rfl rfl rfl) ?_
    refine rw_nil ?_
    refine cw_cond (b := (((!r_5) || (!r_7)) || (!r_9))) rfl (fun hb1 => ?_) (fun hb1 => ?_)
    · skip
      have hF3 := ct hF2 hb1
      refine cw_seq ?_
      refine cw_region ?_
      refine sq 58 rfl rfl (Y_buildS (zs := [.int .i64 0, .int .i64 0, .int .i64 0, .int .i64 0, .int .i64 0]) (vs := []) (cs := [.int .i64 0, .int .i64 0, .int .i64 0, .int .i64 0, .int .i64 0]) k_pl_116 k_zero_116 rfl mpn rfl) ?_
      refine ss0 rfl rfl (Ys_store (i := 2) (s := 5) (B := some ⟨b2, 0, none⟩) (T' := 116) (v := .agg #[.int .i64 0, .int .i64 0, .int .i64 0, .int .i64 0, .int .i64 0]) (vs := [.int .i64 0, .int .i64 0, .int .i64 0, .int .i64 0, .int .i64 0]) (k := 0) (cs' := [.int .i64 0, .int .i64 0, .int .i64 0, .int .i64 0, .int .i64 0]) hS15 k_sz_116_5 rfl rfl rfl rfl rfl rfl rfl (Nat.le_of_ble_eq_true rfl) rfl rfl) ?_
      rintro _ w_15 ⟨rfl, hS16⟩
      have hS16 : ST w0 [] _ [⟨some ⟨b, 0, none⟩, 116, [.int .i64 x.Num.A, .int .i64 x.Num.B, .int .i64 x.Num.C, .int .i64 x.Num.D, .int .i64 x.Exp], 5⟩, ⟨some ⟨b1, 0, none⟩, 116, [.int .i64 y.Num.A, .int .i64 y.Num.B, .int .i64 y.Num.C, .int .i64 y.Num.D, .int .i64 y.Exp], 5⟩, ⟨some ⟨b2, 0, none⟩, 116, [.int .i64 0, .int .i64 0, .int .i64 0, .int .i64 0, .int .i64 0], 5⟩, ⟨some ⟨b3, 0, none⟩, 114, [.int .i64 r_4.A, .int .i64 r_4.B, .int .i64 r_4.C, .int .i64 r_4.D], 4⟩, ⟨some ⟨b4, 0, none⟩, 114, [.int .i64 r_6.A, .int .i64 r_6.B, .int .i64 r_6.C, .int .i64 r_6.D], 4⟩, ⟨some ⟨b5, 0, none⟩, 114, [.int .i64 r_8.A, .int .i64 r_8.B, .int .i64 r_8.C, .int .i64 r_8.D], 4⟩] (Rf) := hS16
      refine sq 7 rfl rfl (Y_assign (v := .bool false) rfl rfl) ?_
      refine rw_nil ?_
      refine cw_ret ?_
      obtain ⟨rfl, rfl⟩ := pr2 (some_inj hF3)
      exact ret2 Try.results159 (v1 := .agg #[.int .i64 0, .int .i64 0, .int .i64 0, .int .i64 0, .int .i64 0]) (resAt_cellA (B := some ⟨b2, 0, none⟩) (i := 0) (cs := [.int .i64 0, .int .i64 0, .int .i64 0, .int .i64 0, .int .i64 0]) (vs := [.int .i64 0, .int .i64 0, .int .i64 0, .int .i64 0, .int .i64 0]) rfl k_ag_116 k_sz_116_5 (hS16.cf (i := 2) rfl) rfl rfl) (v2 := .bool false) (resAt_tmp rfl) ⟨rfl, (ST.subR (R' := []) (hS16.sel [] rfl rfl) (fun _ h => by cases h))⟩
    · skip
      have hF4 := cf' hF2 hb1
      refine cw_skip ?_
      refine cw_seq ?_
      refine cw_region ?_
      refine sq 59 rfl rfl (Y_loadA (B := some ⟨b5, 0, none⟩) (i := 0) (cs := [.int .i64 r_8.A, .int .i64 r_8.B, .int .i64 r_8.C, .int .i64 r_8.D]) (vs := [.int .i64 r_8.A, .int .i64 r_8.B, .int .i64 r_8.C, .int .i64 r_8.D]) k_ag_114 k_sz_114_4 rfl rfl (hS15.cf (i := 5) rfl) rfl rfl) ?_
      refine sq 60 rfl rfl (Y_move (v := .int .i64 (if x.Exp < y.Exp then y.Exp else x.Exp)) rfl rfl) ?_
      obtain ⟨⟨r_10, r_11⟩, hc5, hF4⟩ := bind_inv hF4
      refine sc 61 rfl rfl (Yc_func (g := 158) (vs := [.agg #[.int .i64 r_8.A, .int .i64 r_8.B, .int .i64 r_8.C, .int .i64 r_8.D], .int .i64 (if x.Exp < y.Exp then y.Exp else x.Exp)]) k_call_158 rfl (mc rfl (mc rfl mn)) (c_impl_DyadicOf r_8 (if x.Exp < y.Exp then y.Exp else x.Exp) _  (hS15.inn0 [] rfl) hc5)) ?_
      rintro _ w_16 ⟨rfl, hd4⟩
      have hS17 := hS15.out00 hd4
      have hS17 : ST w0 [] _ [⟨some ⟨b, 0, none⟩, 116, [.int .i64 x.Num.A, .int .i64 x.Num.B, .int .i64 x.Num.C, .int .i64 x.Num.D, .int .i64 x.Exp], 5⟩, ⟨some ⟨b1, 0, none⟩, 116, [.int .i64 y.Num.A, .int .i64 y.Num.B, .int .i64 y.Num.C, .int .i64 y.Num.D, .int .i64 y.Exp], 5⟩, ⟨some ⟨b2, 0, none⟩, 116, [.int .i64 0, .int .i64 0, .int .i64 0, .int .i64 0, .int .i64 0], 5⟩, ⟨some ⟨b3, 0, none⟩, 114, [.int .i64 r_4.A, .int .i64 r_4.B, .int .i64 r_4.C, .int .i64 r_4.D], 4⟩, ⟨some ⟨b4, 0, none⟩, 114, [.int .i64 r_6.A, .int .i64 r_6.B, .int .i64 r_6.C, .int .i64 r_6.D], 4⟩, ⟨some ⟨b5, 0, none⟩, 114, [.int .i64 r_8.A, .int .i64 r_8.B, .int .i64 r_8.C, .int .i64 r_8.D], 4⟩] (Rf) := hS17
      refine sq 62 rfl rfl (Y_extract (v := .agg #[.int .i64 r_10.Num.A, .int .i64 r_10.Num.B, .int .i64 r_10.Num.C, .int .i64 r_10.Num.D, .int .i64 r_10.Exp]) rfl rfl rfl) ?_
      refine sq 63 rfl rfl (Y_extract (v := .bool r_11) rfl rfl rfl) ?_
      refine ss0 rfl rfl (Ys_store (i := 2) (s := 5) (B := some ⟨b2, 0, none⟩) (T' := 116) (v := .agg #[.int .i64 r_10.Num.A, .int .i64 r_10.Num.B, .int .i64 r_10.Num.C, .int .i64 r_10.Num.D, .int .i64 r_10.Exp]) (vs := [.int .i64 r_10.Num.A, .int .i64 r_10.Num.B, .int .i64 r_10.Num.C, .int .i64 r_10.Num.D, .int .i64 r_10.Exp]) (k := 0) (cs' := [.int .i64 r_10.Num.A, .int .i64 r_10.Num.B, .int .i64 r_10.Num.C, .int .i64 r_10.Num.D, .int .i64 r_10.Exp]) hS17 k_sz_116_5 rfl rfl rfl rfl rfl rfl rfl (Nat.le_of_ble_eq_true rfl) rfl rfl) ?_
      rintro _ w_17 ⟨rfl, hS18⟩
      have hS18 : ST w0 [] _ [⟨some ⟨b, 0, none⟩, 116, [.int .i64 x.Num.A, .int .i64 x.Num.B, .int .i64 x.Num.C, .int .i64 x.Num.D, .int .i64 x.Exp], 5⟩, ⟨some ⟨b1, 0, none⟩, 116, [.int .i64 y.Num.A, .int .i64 y.Num.B, .int .i64 y.Num.C, .int .i64 y.Num.D, .int .i64 y.Exp], 5⟩, ⟨some ⟨b2, 0, none⟩, 116, [.int .i64 r_10.Num.A, .int .i64 r_10.Num.B, .int .i64 r_10.Num.C, .int .i64 r_10.Num.D, .int .i64 r_10.Exp], 5⟩, ⟨some ⟨b3, 0, none⟩, 114, [.int .i64 r_4.A, .int .i64 r_4.B, .int .i64 r_4.C, .int .i64 r_4.D], 4⟩, ⟨some ⟨b4, 0, none⟩, 114, [.int .i64 r_6.A, .int .i64 r_6.B, .int .i64 r_6.C, .int .i64 r_6.D], 4⟩, ⟨some ⟨b5, 0, none⟩, 114, [.int .i64 r_8.A, .int .i64 r_8.B, .int .i64 r_8.C, .int .i64 r_8.D], 4⟩] (Rf) := hS18
      refine sq 7 rfl rfl (Y_assign (v := .bool r_11) rfl rfl) ?_
      refine rw_nil ?_
      refine cw_ret ?_
      obtain ⟨rfl, rfl⟩ := pr2 (some_inj hF4)
      exact ret2 Try.results159 (v1 := .agg #[.int .i64 r_10.Num.A, .int .i64 r_10.Num.B, .int .i64 r_10.Num.C, .int .i64 r_10.Num.D, .int .i64 r_10.Exp]) (resAt_cellA (B := some ⟨b2, 0, none⟩) (i := 0) (cs := [.int .i64 r_10.Num.A, .int .i64 r_10.Num.B, .int .i64 r_10.Num.C, .int .i64 r_10.Num.D, .int .i64 r_10.Exp]) (vs := [.int .i64 r_10.Num.A, .int .i64 r_10.Num.B, .int .i64 r_10.Num.C, .int .i64 r_10.Num.D, .int .i64 r_10.Exp]) rfl k_ag_116 k_sz_116_5 (hS18.cf (i := 2) rfl) rfl rfl) (v2 := .bool r_11) (resAt_tmp rfl) ⟨rfl, (ST.subR (R' := []) (hS18.sel [] rfl rfl) (fun _ h => by cases h))⟩

theorem c_impl_AddRing (x : TRing) (y : TRing)  (w0 : World)  (hS : ST w0 [] w0 [] []) {r_ : TRing} {r_1 : Bool} (hF : F_impl_AddRing x y = some (r_, r_1)) :
    CV Try.prog 160 #[.agg #[.int .i64 x.A, .int .i64 x.B, .int .i64 x.C, .int .i64 x.D], .agg #[.int .i64 y.A, .int .i64 y.B, .int .i64 y.C, .int .i64 y.D]] w0 (fun v w' => v = .tuple #[.agg #[.int .i64 r_.A, .int .i64 r_.B, .int .i64 r_.C, .int .i64 r_.D], .bool r_1] ∧ ST w0 [] w' [] []) := by
  unfold F_impl_AddRing at hF
  refine cv_of_cw 33 Try.func160 rfl Try.ntmps160 rfl ?_
  refine cw_seq ?_
  refine cw_region ?_
  refine ss 2 rfl rfl (Ys_box (T := 114) (v := .agg #[.int .i64 x.A, .int .i64 x.B, .int .i64 x.C, .int .i64 x.D]) (cs := [.int .i64 x.A, .int .i64 x.B, .int .i64 x.C, .int .i64 x.D]) (m := 4) hS rfl rfl rfl rfl) ?_
  rintro _ w_ ⟨b, rfl, hS1⟩
  refine ss 3 rfl rfl (Ys_box (T := 114) (v := .agg #[.int .i64 y.A, .int .i64 y.B, .int .i64 y.C, .int .i64 y.D]) (cs := [.int .i64 y.A, .int .i64 y.B, .int .i64 y.C, .int .i64 y.D]) (m := 4) hS1 rfl rfl rfl rfl) ?_
  rintro _ w_1 ⟨b1, rfl, hS2⟩
  have hS2 : ST w0 [] _ [⟨some ⟨b, 0, none⟩, 114, [.int .i64 x.A, .int .i64 x.B, .int .i64 x.C, .int .i64 x.D], 4⟩, ⟨some ⟨b1, 0, none⟩, 114, [.int .i64 y.A, .int .i64 y.B, .int .i64 y.C, .int .i64 y.D], 4⟩] [] := hS2
  refine ss 4 rfl rfl (Ys_alloc (T := 114) (cs := [.int .i64 0, .int .i64 0, .int .i64 0, .int .i64 0]) (m := 4) hS2 k_zero_114 rfl rfl rfl) ?_
  rintro _ w_2 ⟨b2, rfl, hS3⟩
  have hS3 : ST w0 [] _ [⟨some ⟨b, 0, none⟩, 114, [.int .i64 x.A, .int .i64 x.B, .int .i64 x.C, .int .i64 x.D], 4⟩, ⟨some ⟨b1, 0, none⟩, 114, [.int .i64 y.A, .int .i64 y.B, .int .i64 y.C, .int .i64 y.D], 4⟩, ⟨some ⟨b2, 0, none⟩, 114, [.int .i64 0, .int .i64 0, .int .i64 0, .int .i64 0], 4⟩] [] := hS3
  refine sq 5 rfl rfl (Y_assign (v := .bool false) rfl rfl) ?_
  refine rw_nil ?_
  refine cw_seq ?_
  refine cw_region ?_
  refine sq 6 rfl rfl (Y_fieldAddr (B := some ⟨b, 0, none⟩) (i := 0) (s := 0) k_fd_114_0_0_3 k_sz_3_1 rfl rfl) ?_
  refine sq 7 rfl rfl (Y_load1 (B := some ⟨b, 0, none⟩) (i := 0) (cs := [.int .i64 x.A, .int .i64 x.B, .int .i64 x.C, .int .i64 x.D]) (v := .int .i64 x.A) k_sc_3 rfl rfl (hS3.cf (i := 0) rfl) rfl) ?_
  refine sq 8 rfl rfl (Y_fieldAddr (B := some ⟨b1, 0, none⟩) (i := 0) (s := 0) k_fd_114_0_0_3 k_sz_3_1 rfl rfl) ?_
  refine sq 9 rfl rfl (Y_load1 (B := some ⟨b1, 0, none⟩) (i := 0) (cs := [.int .i64 y.A, .int .i64 y.B, .int .i64 y.C, .int .i64 y.D]) (v := .int .i64 y.A) k_sc_3 rfl rfl (hS3.cf (i := 1) rfl) rfl) ?_
  refine sq 10 rfl rfl (Y_add (k := .i64) (a := x.A) (b := y.A) rfl rfl rfl) ?_
  refine sq 11 rfl rfl (Y_fieldAddr (B := some ⟨b, 0, none⟩) (i := 0) (s := 0) k_fd_114_1_1_3 k_sz_3_1 rfl rfl) ?_
  refine sq 12 rfl rfl (Y_load1 (B := some ⟨b, 0, none⟩) (i := 1) (cs := [.int .i64 x.A, .int .i64 x.B, .int .i64 x.C, .int .i64 x.D]) (v := .int .i64 x.B) k_sc_3 rfl rfl (hS3.cf (i := 0) rfl) rfl) ?_
  refine sq 13 rfl rfl (Y_fieldAddr (B := some ⟨b1, 0, none⟩) (i := 0) (s := 0) k_fd_114_1_1_3 k_sz_3_1 rfl rfl) ?_
  refine sq 14 rfl rfl (Y_load1 (B := some ⟨b1, 0, none⟩) (i := 1) (cs := [.int .i64 y.A, .int .i64 y.B, .int .i64 y.C, .int .i64 y.D]) (v := .int .i64 y.B) k_sc_3 rfl rfl (hS3.cf (i := 1) rfl) rfl) ?_
  refine sq 15 rfl rfl (Y_add (k := .i64) (a := x.B) (b := y.B) rfl rfl rfl) ?_
  refine sq 16 rfl rfl (Y_fieldAddr (B := some ⟨b, 0, none⟩) (i := 0) (s := 0) k_fd_114_2_2_3 k_sz_3_1 rfl rfl) ?_
  refine sq 17 rfl rfl (Y_load1 (B := some ⟨b, 0, none⟩) (i := 2) (cs := [.int .i64 x.A, .int .i64 x.B, .int .i64 x.C, .int .i64 x.D]) (v := .int .i64 x.C) k_sc_3 rfl rfl (hS3.cf (i := 0) rfl) rfl) ?_
  refine sq 18 rfl rfl (Y_fieldAddr (B := some ⟨b1, 0, none⟩) (i := 0) (s := 0) k_fd_114_2_2_3 k_sz_3_1 rfl rfl) ?_
  refine sq 19 rfl rfl (Y_load1 (B := some ⟨b1, 0, none⟩) (i := 2) (cs := [.int .i64 y.A, .int .i64 y.B, .int .i64 y.C, .int .i64 y.D]) (v := .int .i64 y.C) k_sc_3 rfl rfl (hS3.cf (i := 1) rfl) rfl) ?_
  refine sq 20 rfl rfl (Y_add (k := .i64) (a := x.C) (b := y.C) rfl rfl rfl) ?_
  refine sq 21 rfl rfl (Y_fieldAddr (B := some ⟨b, 0, none⟩) (i := 0) (s := 0) k_fd_114_3_3_3 k_sz_3_1 rfl rfl) ?_
  refine sq 22 rfl rfl (Y_load1 (B := some ⟨b, 0, none⟩) (i := 3) (cs := [.int .i64 x.A, .int .i64 x.B, .int .i64 x.C, .int .i64 x.D]) (v := .int .i64 x.D) k_sc_3 rfl rfl (hS3.cf (i := 0) rfl) rfl) ?_
  refine sq 23 rfl rfl (Y_fieldAddr (B := some ⟨b1, 0, none⟩) (i := 0) (s := 0) k_fd_114_3_3_3 k_sz_3_1 rfl rfl) ?_
  refine sq 24 rfl rfl (Y_load1 (B := some ⟨b1, 0, none⟩) (i := 3) (cs := [.int .i64 y.A, .int .i64 y.B, .int .i64 y.C, .int .i64 y.D]) (v := .int .i64 y.D) k_sc_3 rfl rfl (hS3.cf (i := 1) rfl) rfl) ?_
  refine sq 25 rfl rfl (Y_add (k := .i64) (a := x.D) (b := y.D) rfl rfl rfl) ?_
  refine sq 26 rfl rfl (Y_buildS (zs := [.int .i64 0, .int .i64 0, .int .i64 0, .int .i64 0]) (vs := [(0, .int .i64 (IntKind.i64.wrap (x.A + y.A))), (1, .int .i64 (IntKind.i64.wrap (x.B + y.B))), (2, .int .i64 (IntKind.i64.wrap (x.C + y.C))), (3, .int .i64 (IntKind.i64.wrap (x.D + y.D)))]) (cs := [.int .i64 (IntKind.i64.wrap (x.A + y.A)), .int .i64 (IntKind.i64.wrap (x.B + y.B)), .int .i64 (IntKind.i64.wrap (x.C + y.C)), .int .i64 (IntKind.i64.wrap (x.D + y.D))]) k_pl_114 k_zero_114 rfl (mpc rfl (mpc rfl (mpc rfl (mpc rfl mpn)))) rfl) ?_
  refine sq 27 rfl rfl (Y_loadA (B := some ⟨b, 0, none⟩) (i := 0) (cs := [.int .i64 x.A, .int .i64 x.B, .int .i64 x.C, .int .i64 x.D]) (vs := [.int .i64 x.A, .int .i64 x.B, .int .i64 x.C, .int .i64 x.D]) k_ag_114 k_sz_114_4 rfl rfl (hS3.cf (i := 0) rfl) rfl rfl) ?_
  refine sq 28 rfl rfl (Y_loadA (B := some ⟨b1, 0, none⟩) (i := 0) (cs := [.int .i64 y.A, .int .i64 y.B, .int .i64 y.C, .int .i64 y.D]) (vs := [.int .i64 y.A, .int .i64 y.B, .int .i64 y.C, .int .i64 y.D]) k_ag_114 k_sz_114_4 rfl rfl (hS3.cf (i := 1) rfl) rfl rfl) ?_
  refine ss 29 rfl rfl (Ys_bslice (s := 4) (len := 2) (vs := [(0, .agg #[.int .i64 x.A, .int .i64 x.B, .int .i64 x.C, .int .i64 x.D]), (1, .agg #[.int .i64 y.A, .int .i64 y.B, .int .i64 y.C, .int .i64 y.D])]) (cs := [.int .i64 x.A, .int .i64 x.B, .int .i64 x.C, .int .i64 x.D, .int .i64 y.A, .int .i64 y.B, .int .i64 y.C, .int .i64 y.D]) (zs := [.int .i64 0, .int .i64 0, .int .i64 0, .int .i64 0, .int .i64 0, .int .i64 0, .int .i64 0, .int .i64 0]) (m := 8) hS3 k_sl_191_114 k_sz_114_4 k_zc_114 rfl (mpc rfl (mpc rfl mpn)) rfl rfl rfl (by kernel_rfl) (by kernel_rfl) rfl) ?_
  rintro _ w_3 ⟨b3, rfl, hS4⟩
  have hS4 : ST w0 [] _ [⟨some ⟨b, 0, none⟩, 114, [.int .i64 x.A, .int .i64 x.B, .int .i64 x.C, .int .i64 x.D], 4⟩, ⟨some ⟨b1, 0, none⟩, 114, [.int .i64 y.A, .int .i64 y.B, .int .i64 y.C, .int .i64 y.D], 4⟩, ⟨some ⟨b2, 0, none⟩, 114, [.int .i64 0, .int .i64 0, .int .i64 0, .int .i64 0], 4⟩, ⟨some ⟨b3, 0, none⟩, 114, ([x, y].flatMap enc_Ring), 2 * 4⟩] [] := hS4
  obtain ⟨⟨r_2, r_3⟩, hc, hF⟩ := bind_inv hF
  refine sc 30 rfl rfl (Yc_func (g := 173) (vs := [.agg #[.int .i64 (IntKind.i64.wrap (x.A + y.A)), .int .i64 (IntKind.i64.wrap (x.B + y.B)), .int .i64 (IntKind.i64.wrap (x.C + y.C)), .int .i64 (IntKind.i64.wrap (x.D + y.D))], .slice (some ⟨b3, 0, none⟩) 2 2]) k_call_173 rfl (mc rfl (mc rfl mn)) (c_impl_ringIf (TRing.mk (IntKind.i64.wrap (x.A + y.A)) (IntKind.i64.wrap (x.B + y.B)) (IntKind.i64.wrap (x.C + y.C)) (IntKind.i64.wrap (x.D + y.D))) [x, y] (some ⟨b3, 0, none⟩) 2 2 _ rfl (hS4.inn [false, false, false, true] rfl [] rfl) hc)) ?_
  rintro _ w_4 ⟨rfl, hd⟩
  have hS5 := hS4.out [false, false, false, true] rfl hd
  have hS5 : ST w0 [] _ [⟨some ⟨b, 0, none⟩, 114, [.int .i64 x.A, .int .i64 x.B, .int .i64 x.C, .int .i64 x.D], 4⟩, ⟨some ⟨b1, 0, none⟩, 114, [.int .i64 y.A, .int .i64 y.B, .int .i64 y.C, .int .i64 y.D], 4⟩, ⟨some ⟨b2, 0, none⟩, 114, [.int .i64 0, .int .i64 0, .int .i64 0, .int .i64 0], 4⟩] [] := hS5
  refine sq 31 rfl rfl (Y_extract (v := .agg #[.int .i64 r_2.A, .int .i64 r_2.B, .int .i64 r_2.C, .int .i64 r_2.D]) rfl rfl rfl) ?_
  refine sq 32 rfl rfl (Y_extract (v := .bool r_3) rfl rfl rfl) ?_
  refine ss0 rfl rfl (Ys_store (i := 2) (s := 4) (B := some ⟨b2, 0, none⟩) (T' := 114) (v := .agg #[.int .i64 r_2.A, .int .i64 r_2.B, .int .i64 r_2.C, .int .i64 r_2.D]) (vs := [.int .i64 r_2.A, .int .i64 r_2.B, .int .i64 r_2.C, .int .i64 r_2.D]) (k := 0) (cs' := [.int .i64 r_2.A, .int .i64 r_2.B, .int .i64 r_2.C, .int .i64 r_2.D]) hS5 k_sz_114_4 rfl rfl rfl rfl rfl rfl rfl (Nat.le_of_ble_eq_true rfl) rfl rfl) ?_
  rintro _ w_5 ⟨rfl, hS6⟩
  have hS6 : ST w0 [] _ [⟨some ⟨b, 0, none⟩, 114, [.int .i64 x.A, .int .i64 x.B, .int .i64 x.C, .int .i64 x.D], 4⟩, ⟨some ⟨b1, 0, none⟩, 114, [.int .i64 y.A, .int .i64 y.B, .int .i64 y.C, .int .i64 y.D], 4⟩, ⟨some ⟨b2, 0, none⟩, 114, [.int .i64 r_2.A, .int .i64 r_2.B, .int .i64 r_2.C, .int .i64 r_2.D], 4⟩] [] := hS6
  refine sq 5 rfl rfl (Y_assign (v := .bool r_3) rfl rfl) ?_
  refine rw_nil ?_
  refine cw_ret ?_
  obtain ⟨rfl, rfl⟩ := pr2 (some_inj hF)
  exact ret2 Try.results160 (v1 := .agg #[.int .i64 r_2.A, .int .i64 r_2.B, .int .i64 r_2.C, .int .i64 r_2.D]) (resAt_cellA (B := some ⟨b2, 0, none⟩) (i := 0) (cs := [.int .i64 r_2.A, .int .i64 r_2.B, .int .i64 r_2.C, .int .i64 r_2.D]) (vs := [.int .i64 r_2.A, .int .i64 r_2.B, .int .i64 r_2.C, .int .i64 r_2.D]) rfl k_ag_114 k_sz_114_4 (hS6.cf (i := 2) rfl) rfl rfl) (v2 := .bool r_3) (resAt_tmp rfl) ⟨rfl, (ST.subR (R' := []) (hS6.sel [] rfl rfl) (fun _ h => by cases h))⟩

theorem c_impl_AddDyadic (x : TDyadic) (y : TDyadic)  (w0 : World)  (hS : ST w0 [] w0 [] []) {r_ : TDyadic} {r_1 : Bool} (hF : F_impl_AddDyadic x y = some (r_, r_1)) :
    CV Try.prog 135 #[.agg #[.int .i64 x.Num.A, .int .i64 x.Num.B, .int .i64 x.Num.C, .int .i64 x.Num.D, .int .i64 x.Exp], .agg #[.int .i64 y.Num.A, .int .i64 y.Num.B, .int .i64 y.Num.C, .int .i64 y.Num.D, .int .i64 y.Exp]] w0 (fun v w' => v = .tuple #[.agg #[.int .i64 r_.Num.A, .int .i64 r_.Num.B, .int .i64 r_.Num.C, .int .i64 r_.Num.D, .int .i64 r_.Exp], .bool r_1] ∧ ST w0 [] w' [] []) := by
  unfold F_impl_AddDyadic at hF
  refine cv_of_cw 11 Try.func135 rfl Try.ntmps135 rfl ?_
  refine cw_seq ?_
  refine cw_region ?_
  refine ss 2 rfl rfl (Ys_box (T := 116) (v := .agg #[.int .i64 x.Num.A, .int .i64 x.Num.B, .int .i64 x.Num.C, .int .i64 x.Num.D, .int .i64 x.Exp]) (cs := [.int .i64 x.Num.A, .int .i64 x.Num.B, .int .i64 x.Num.C, .int .i64 x.Num.D, .int .i64 x.Exp]) (m := 5) hS rfl rfl rfl rfl) ?_
  rintro _ w_ ⟨b, rfl, hS1⟩
  refine ss 3 rfl rfl (Ys_box (T := 116) (v := .agg #[.int .i64 y.Num.A, .int .i64 y.Num.B, .int .i64 y.Num.C, .int .i64 y.Num.D, .int .i64 y.Exp]) (cs := [.int .i64 y.Num.A, .int .i64 y.Num.B, .int .i64 y.Num.C, .int .i64 y.Num.D, .int .i64 y.Exp]) (m := 5) hS1 rfl rfl rfl rfl) ?_
  rintro _ w_1 ⟨b1, rfl, hS2⟩
  have hS2 : ST w0 [] _ [⟨some ⟨b, 0, none⟩, 116, [.int .i64 x.Num.A, .int .i64 x.Num.B, .int .i64 x.Num.C, .int .i64 x.Num.D, .int .i64 x.Exp], 5⟩, ⟨some ⟨b1, 0, none⟩, 116, [.int .i64 y.Num.A, .int .i64 y.Num.B, .int .i64 y.Num.C, .int .i64 y.Num.D, .int .i64 y.Exp], 5⟩] [] := hS2
  refine ss 4 rfl rfl (Ys_alloc (T := 116) (cs := [.int .i64 0, .int .i64 0, .int .i64 0, .int .i64 0, .int .i64 0]) (m := 5) hS2 k_zero_116 rfl rfl rfl) ?_
  rintro _ w_2 ⟨b2, rfl, hS3⟩
  have hS3 : ST w0 [] _ [⟨some ⟨b, 0, none⟩, 116, [.int .i64 x.Num.A, .int .i64 x.Num.B, .int .i64 x.Num.C, .int .i64 x.Num.D, .int .i64 x.Exp], 5⟩, ⟨some ⟨b1, 0, none⟩, 116, [.int .i64 y.Num.A, .int .i64 y.Num.B, .int .i64 y.Num.C, .int .i64 y.Num.D, .int .i64 y.Exp], 5⟩, ⟨some ⟨b2, 0, none⟩, 116, [.int .i64 0, .int .i64 0, .int .i64 0, .int .i64 0, .int .i64 0], 5⟩] [] := hS3
  refine sq 5 rfl rfl (Y_assign (v := .bool false) rfl rfl) ?_
  refine rw_nil ?_
  refine cw_seq ?_
  refine cw_region ?_
  refine sq 6 rfl rfl (Y_loadA (B := some ⟨b, 0, none⟩) (i := 0) (cs := [.int .i64 x.Num.A, .int .i64 x.Num.B, .int .i64 x.Num.C, .int .i64 x.Num.D, .int .i64 x.Exp]) (vs := [.int .i64 x.Num.A, .int .i64 x.Num.B, .int .i64 x.Num.C, .int .i64 x.Num.D, .int .i64 x.Exp]) k_ag_116 k_sz_116_5 rfl rfl (hS3.cf (i := 0) rfl) rfl rfl) ?_
  refine sq 7 rfl rfl (Y_loadA (B := some ⟨b1, 0, none⟩) (i := 0) (cs := [.int .i64 y.Num.A, .int .i64 y.Num.B, .int .i64 y.Num.C, .int .i64 y.Num.D, .int .i64 y.Exp]) (vs := [.int .i64 y.Num.A, .int .i64 y.Num.B, .int .i64 y.Num.C, .int .i64 y.Num.D, .int .i64 y.Exp]) k_ag_116 k_sz_116_5 rfl rfl (hS3.cf (i := 1) rfl) rfl rfl) ?_
  obtain ⟨⟨r_2, r_3⟩, hc, hF⟩ := bind_inv hF
  refine sc 8 rfl rfl (Yc_func (g := 159) (vs := [.agg #[.int .i64 x.Num.A, .int .i64 x.Num.B, .int .i64 x.Num.C, .int .i64 x.Num.D, .int .i64 x.Exp], .agg #[.int .i64 y.Num.A, .int .i64 y.Num.B, .int .i64 y.Num.C, .int .i64 y.Num.D, .int .i64 y.Exp], .func (.func 160) #[] #[]]) k_call_159 rfl (mc rfl (mc rfl (mc rfl mn))) (c_impl_combined x y F_impl_AddRing 160 (#[]) [] _ k_call_160 (fun w hw x_0 x_1 y_0 y_1 h_ => c_impl_AddRing x_0 x_1  w  hw h_) (hS3.inn0 [] rfl) hc)) ?_
  rintro _ w_3 ⟨rfl, hd⟩
  have hS4 := hS3.out00 hd
  have hS4 : ST w0 [] _ [⟨some ⟨b, 0, none⟩, 116, [.int .i64 x.Num.A, .int .i64 x.Num.B, .int .i64 x.Num.C, .int .i64 x.Num.D, .int .i64 x.Exp], 5⟩, ⟨some ⟨b1, 0, none⟩, 116, [.int .i64 y.Num.A, .int .i64 y.Num.B, .int .i64 y.Num.C, .int .i64 y.Num.D, .int .i64 y.Exp], 5⟩, ⟨some ⟨b2, 0, none⟩, 116, [.int .i64 0, .int .i64 0, .int .i64 0, .int .i64 0, .int .i64 0], 5⟩] [] := hS4
  refine sq 9 rfl rfl (Y_extract (v := .agg #[.int .i64 r_2.Num.A, .int .i64 r_2.Num.B, .int .i64 r_2.Num.C, .int .i64 r_2.Num.D, .int .i64 r_2.Exp]) rfl rfl rfl) ?_
  refine sq 10 rfl rfl (Y_extract (v := .bool r_3) rfl rfl rfl) ?_
  refine ss0 rfl rfl (Ys_store (i := 2) (s := 5) (B := some ⟨b2, 0, none⟩) (T' := 116) (v := .agg #[.int .i64 r_2.Num.A, .int .i64 r_2.Num.B, .int .i64 r_2.Num.C, .int .i64 r_2.Num.D, .int .i64 r_2.Exp]) (vs := [.int .i64 r_2.Num.A, .int .i64 r_2.Num.B, .int .i64 r_2.Num.C, .int .i64 r_2.Num.D, .int .i64 r_2.Exp]) (k := 0) (cs' := [.int .i64 r_2.Num.A, .int .i64 r_2.Num.B, .int .i64 r_2.Num.C, .int .i64 r_2.Num.D, .int .i64 r_2.Exp]) hS4 k_sz_116_5 rfl rfl rfl rfl rfl rfl rfl (Nat.le_of_ble_eq_true rfl) rfl rfl) ?_
  rintro _ w_4 ⟨rfl, hS5⟩
  have hS5 : ST w0 [] _ [⟨some ⟨b, 0, none⟩, 116, [.int .i64 x.Num.A, .int .i64 x.Num.B, .int .i64 x.Num.C, .int .i64 x.Num.D, .int .i64 x.Exp], 5⟩, ⟨some ⟨b1, 0, none⟩, 116, [.int .i64 y.Num.A, .int .i64 y.Num.B, .int .i64 y.Num.C, .int .i64 y.Num.D, .int .i64 y.Exp], 5⟩, ⟨some ⟨b2, 0, none⟩, 116, [.int .i64 r_2.Num.A, .int .i64 r_2.Num.B, .int .i64 r_2.Num.C, .int .i64 r_2.Num.D, .int .i64 r_2.Exp], 5⟩] [] := hS5
  refine sq 5 rfl rfl (Y_assign (v := .bool r_3) rfl rfl) ?_
  refine rw_nil ?_
  refine cw_ret ?_
  obtain ⟨rfl, rfl⟩ := pr2 (some_inj hF)
  exact ret2 Try.results135 (v1 := .agg #[.int .i64 r_2.Num.A, .int .i64 r_2.Num.B, .int .i64 r_2.Num.C, .int .i64 r_2.Num.D, .int .i64 r_2.Exp]) (resAt_cellA (B := some ⟨b2, 0, none⟩) (i := 0) (cs := [.int .i64 r_2.Num.A, .int .i64 r_2.Num.B, .int .i64 r_2.Num.C, .int .i64 r_2.Num.D, .int .i64 r_2.Exp]) (vs := [.int .i64 r_2.Num.A, .int .i64 r_2.Num.B, .int .i64 r_2.Num.C, .int .i64 r_2.Num.D, .int .i64 r_2.Exp]) rfl k_ag_116 k_sz_116_5 (hS5.cf (i := 2) rfl) rfl rfl) (v2 := .bool r_3) (resAt_tmp rfl) ⟨rfl, (ST.subR (R' := []) (hS5.sel [] rfl rfl) (fun _ h => by cases h))⟩

theorem c_impl_MulMatrix_1 (i : Int) (j : Int) (p : TMatrix) (p1 : TMatrix) (B : Option Addr) (B1 : Option Addr) (c n : Nat) (B2 : Option Addr) (B3 : Option Addr) (c1 n1 : Nat) (w0 : World) (hn : p.Cells.length = n) (hn1 : p1.Cells.length = n1) (hS : ST w0 [] w0 [] [⟨B, [.int .i64 p.Rows, .int .i64 p.Cols, .slice B1 n c]⟩, ⟨B1, (p.Cells.flatMap enc_Dyadic)⟩, ⟨B2, [.int .i64 p1.Rows, .int .i64 p1.Cols, .slice B3 n1 c1]⟩, ⟨B3, (p1.Cells.flatMap enc_Dyadic)⟩]) {r_ : TDyadic} {r_1 : Bool} (hF : F_impl_MulMatrix_1 i j p p1 = some (r_, r_1)) :
    CV Try.prog 133 #[.int .i64 i, .int .i64 j, pt B 0, pt B2 0] w0 (fun v w' => v = .tuple #[.agg #[.int .i64 r_.Num.A, .int .i64 r_.Num.B, .int .i64 r_.Num.C, .int .i64 r_.Num.D, .int .i64 r_.Exp], .bool r_1] ∧ ST w0 [] w' [] []) := by
  subst hn
  subst hn1
  unfold F_impl_MulMatrix_1 at hF
  refine cv_of_cw 48 Try.func133 rfl Try.ntmps133 rfl ?_
  refine cw_seq ?_
  refine cw_region ?_
  refine ss 6 rfl rfl (Ys_alloc (T := 116) (cs := [.int .i64 0, .int .i64 0, .int .i64 0, .int .i64 0, .int .i64 0]) (m := 5) hS k_zero_116 rfl rfl rfl) ?_
  rintro _ w_ ⟨b, rfl, hS1⟩
  refine sq 7 rfl rfl (Y_assign (v := .bool false) rfl rfl) ?_
  refine rw_nil ?_
  refine cw_seq ?_
  refine cw_region ?_
  refine sq 14 rfl rfl (Y_buildS (zs := [.int .i64 0, .int .i64 0, .int .i64 0, .int .i64 0, .int .i64 0]) (vs := []) (cs := [.int .i64 0, .int .i64 0, .int .i64 0, .int .i64 0, .int .i64 0]) k_pl_116 k_zero_116 rfl mpn rfl) ?_
  refine ss 8 rfl rfl (Ys_alloc (T := 116) (cs := [.int .i64 0, .int .i64 0, .int .i64 0, .int .i64 0, .int .i64 0]) (m := 5) hS1 k_zero_116 rfl rfl rfl) ?_
  rintro _ w_1 ⟨b1, rfl, hS2⟩
  have hS2 : ST w0 [] _ [⟨some ⟨b, 0, none⟩, 116, [.int .i64 0, .int .i64 0, .int .i64 0, .int .i64 0, .int .i64 0], 5⟩, ⟨some ⟨b1, 0, none⟩, 116, [.int .i64 0, .int .i64 0, .int .i64 0, .int .i64 0, .int .i64 0], 5⟩] [⟨B, [.int .i64 p.Rows, .int .i64 p.Cols, .slice B1 p.Cells.length c]⟩, ⟨B1, (p.Cells.flatMap enc_Dyadic)⟩, ⟨B2, [.int .i64 p1.Rows, .int .i64 p1.Cols, .slice B3 p1.Cells.length c1]⟩, ⟨B3, (p1.Cells.flatMap enc_Dyadic)⟩] := hS2
  refine ss0 rfl rfl (Ys_store (i := 1) (s := 5) (B := some ⟨b1, 0, none⟩) (T' := 116) (v := .agg #[.int .i64 0, .int .i64 0, .int .i64 0, .int .i64 0, .int .i64 0]) (vs := [.int .i64 0, .int .i64 0, .int .i64 0, .int .i64 0, .int .i64 0]) (k := 0) (cs' := [.int .i64 0, .int .i64 0, .int .i64 0, .int .i64 0, .int .i64 0]) hS2 k_sz_116_5 rfl rfl rfl rfl rfl rfl rfl (Nat.le_of_ble_eq_true rfl) rfl rfl) ?_
  rintro _ w_2 ⟨rfl, hS3⟩
  have hS3 : ST w0 [] _ [⟨some ⟨b, 0, none⟩, 116, [.int .i64 0, .int .i64 0, .int .i64 0, .int .i64 0, .int .i64 0], 5⟩, ⟨some ⟨b1, 0, none⟩, 116, [.int .i64 0, .int .i64 0, .int .i64 0, .int .i64 0, .int .i64 0], 5⟩] [⟨B, [.int .i64 p.Rows, .int .i64 p.Cols, .slice B1 p.Cells.length c]⟩, ⟨B1, (p.Cells.flatMap enc_Dyadic)⟩, ⟨B2, [.int .i64 p1.Rows, .int .i64 p1.Cols, .slice B3 p1.Cells.length c1]⟩, ⟨B3, (p1.Cells.flatMap enc_Dyadic)⟩] := hS3
  refine rw_nil ?_
  refine cw_seq ?_
  refine cw_seq ?_
  refine cw_region ?_
  refine sq 15 rfl rfl (Y_fieldAddr (B := B) (i := 0) (s := 0) k_fd_28_1_1_3 k_sz_3_1 rfl rfl) ?_
  refine sq 16 rfl rfl (Y_load1 (B := B) (i := 1) (cs := [.int .i64 p.Rows, .int .i64 p.Cols, .slice B1 p.Cells.length c]) (v := .int .i64 p.Cols) k_sc_3 rfl rfl (hS3.rf (i := 0) rfl) rfl) ?_
  refine sq 17 rfl rfl (Y_move (v := .int .i64 0) rfl rfl) ?_
  refine rw_nil ?_
  obtain ⟨hN, hF⟩ := chk_inv hF
  obtain ⟨z, hz, hF1⟩ := bind_inv hF
  refine cw_block ?_
  refine cw_loop (fun k f w => ∃ (i1 : Nat) (A : Int) (B4 : Int) (C : Int) (D : Int) (Exp : Int), FF f [(0, .int .i64 i), (1, .int .i64 j), (2, pt B 0), (3, pt B2 0), (6, pt (some ⟨b, 0, none⟩) 0), (8, pt (some ⟨b1, 0, none⟩) 0), (16, .int .i64 p.Cols), (17, .int .i64 (i1 : Int))] ∧ ST w0 [] w [⟨some ⟨b, 0, none⟩, 116, [.int .i64 0, .int .i64 0, .int .i64 0, .int .i64 0, .int .i64 0], 5⟩, ⟨some ⟨b1, 0, none⟩, 116, [.int .i64 A, .int .i64 B4, .int .i64 C, .int .i64 D, .int .i64 Exp], 5⟩] [⟨B, [.int .i64 p.Rows, .int .i64 p.Cols, .slice B1 p.Cells.length c]⟩, ⟨B1, (p.Cells.flatMap enc_Dyadic)⟩, ⟨B2, [.int .i64 p1.Rows, .int .i64 p1.Cols, .slice B3 p1.Cells.length c1]⟩, ⟨B3, (p1.Cells.flatMap enc_Dyadic)⟩] ∧ i1 + k = p.Cols.toNat ∧ forX (F_impl_MulMatrix_1_l1 p i p1 j) k i1 (A, B4, C, D, Exp) = some z) p.Cols.toNat ⟨0, 0, 0, 0, 0, 0, (FF.cons rfl (FF.cons rfl (FF.cons rfl (FF.cons rfl (FF.cons rfl (FF.cons rfl (FF.cons rfl (FF.cons rfl FF.nil)))))))), (hS3.sel [0, 1] rfl rfl), Nat.zero_add _, hz⟩ ?_
  rintro k_ f w ⟨i1, A, B4, C, D, Exp, hf, hS4, hik, hL⟩
  refine cw_seq ?_
  refine cw_region ?_
  refine sq 18 rfl rfl (Y_lt (k := .i64) (a := (i1 : Int)) (b := p.Cols) rfl (hf.get 17 7 rfl) (hf.get 16 6 rfl)) ?_
  refine rw_nil ?_
  refine cw_seq ?_
  refine cw_cond (b := (decide ((i1 : Int) < p.Cols))) rfl (fun hlt => ?_) (fun hlt => ?_)
  · skip
    have hlt1 : i1 < p.Cols.toNat := by have h := of_decide_eq_true hlt; omega
    obtain ⟨k_1, rfl⟩ : ∃ k2, k_ = k2 + 1 := ⟨k_ - 1, by omega⟩
    obtain ⟨y, hb, hL1⟩ := forX_go hL
    unfold F_impl_MulMatrix_1_l1 at hb
    refine cw_skip ?_
    refine cw_seq ?_
    refine cw_block ?_
    refine cw_seq ?_
    refine cw_region ?_
    refine sq 19 rfl rfl (Y_move (v := .int .i64 (i1 : Int)) rfl (hf.get 17 7 rfl)) ?_
    refine sq 9 rfl rfl (Y_assign (v := .int .i64 (i1 : Int)) rfl rfl) ?_
    refine rw_nil ?_
    refine cw_seq ?_
    obtain ⟨r_2, hc, hb⟩ := bind_inv hb
    obtain ⟨r_3, hc1, hb⟩ := bind_inv hb
    obtain ⟨⟨r_4, r_5⟩, hc2, hb⟩ := bind_inv hb
    refine cw_mid (fun f w => ∃ (B5 : Option Addr), FF f [(0, .int .i64 i), (1, .int .i64 j), (2, pt B 0), (3, pt B2 0), (6, pt (some ⟨b, 0, none⟩) 0), (8, pt (some ⟨b1, 0, none⟩) 0), (10, pt B5 0), (11, .bool r_5), (16, .int .i64 p.Cols), (17, .int .i64 (i1 : Int))] ∧ ST w0 [] w [⟨some ⟨b, 0, none⟩, 116, [.int .i64 0, .int .i64 0, .int .i64 0, .int .i64 0, .int .i64 0], 5⟩, ⟨some ⟨b1, 0, none⟩, 116, [.int .i64 A, .int .i64 B4, .int .i64 C, .int .i64 D, .int .i64 Exp], 5⟩, ⟨B5, 116, [.int .i64 r_4.Num.A, .int .i64 r_4.Num.B, .int .i64 r_4.Num.C, .int .i64 r_4.Num.D, .int .i64 r_4.Exp], 5⟩] [⟨B, [.int .i64 p.Rows, .int .i64 p.Cols, .slice B1 p.Cells.length c]⟩, ⟨B1, (p.Cells.flatMap enc_Dyadic)⟩, ⟨B2, [.int .i64 p1.Rows, .int .i64 p1.Cols, .slice B3 p1.Cells.length c1]⟩, ⟨B3, (p1.Cells.flatMap enc_Dyadic)⟩]) ?_ ?_
    · skip
      refine ra_start (ST.sel hS4 [0, 1] rfl rfl).fn (by kernel_rfl) ?_
      have hS9 := hS4.drew
      refine ra_q 0 21 (v := .agg #[.int .i64 p.Rows, .int .i64 p.Cols, .slice B1 p.Cells.length c]) rfl rfl rfl (by kernel_rfl) (by kernel_rfl) (by kernel_rfl) (ST.sel hS9 [0, 1] rfl rfl) (fun w' hw' => (Y_loadA (B := B) (i := 0) (cs := [.int .i64 p.Rows, .int .i64 p.Cols, .slice B1 p.Cells.length c]) (vs := [.int .i64 p.Rows, .int .i64 p.Cols, .slice B1 p.Cells.length c]) k_ag_28 k_sz_28_3 rfl (hf.get 2 2 rfl) (ST.rf hw' (i := 0) rfl) rfl rfl)) ?_
      refine ra_q 1 22 (v := .int .i64 i) rfl rfl rfl (by kernel_rfl) (by kernel_rfl) (by kernel_rfl) (ST.sel hS9 [0, 1] rfl rfl) (fun w' hw' => (Y_move (v := .int .i64 i) rfl (hf.get 0 0 rfl))) ?_
      refine ra_q 2 23 (v := .int .i64 (i1 : Int)) rfl rfl rfl (by kernel_rfl) (by kernel_rfl) (by kernel_rfl) (ST.sel hS9 [0, 1] rfl rfl) (fun w' hw' => (Y_move (v := .int .i64 (i1 : Int)) rfl rfl)) ?_
      refine ra_q 4 25 (v := .agg #[.int .i64 p1.Rows, .int .i64 p1.Cols, .slice B3 p1.Cells.length c1]) rfl rfl rfl (by kernel_rfl) (by kernel_rfl) (by kernel_rfl) (ST.sel hS9 [0, 1] rfl rfl) (fun w' hw' => (Y_loadA (B := B2) (i := 0) (cs := [.int .i64 p1.Rows, .int .i64 p1.Cols, .slice B3 p1.Cells.length c1]) (vs := [.int .i64 p1.Rows, .int .i64 p1.Cols, .slice B3 p1.Cells.length c1]) k_ag_28 k_sz_28_3 rfl (hf.get 3 3 rfl) (ST.rf hw' (i := 2) rfl) rfl rfl)) ?_
      refine ra_q 5 26 (v := .int .i64 (i1 : Int)) rfl rfl rfl (by kernel_rfl) (by kernel_rfl) (by kernel_rfl) (ST.sel hS9 [0, 1] rfl rfl) (fun w' hw' => (Y_move (v := .int .i64 (i1 : Int)) rfl rfl)) ?_
      refine ra_q 6 27 (v := .int .i64 j) rfl rfl rfl (by kernel_rfl) (by kernel_rfl) (by kernel_rfl) (ST.sel hS9 [0, 1] rfl rfl) (fun w' hw' => (Y_move (v := .int .i64 j) rfl (hf.get 1 1 rfl))) ?_
      refine ra_all (rs := [3, 12]) (by kernel_rfl) rfl ?_
      refine ra_c 24 (i := 3) rfl rfl rfl (Yc_func (g := 87) (vs := [.agg #[.int .i64 p.Rows, .int .i64 p.Cols, .slice B1 p.Cells.length c], .int .i64 i, .int .i64 (i1 : Int)]) k_call_87 rfl (mc rfl (mc rfl (mc rfl mn))) (c_impl_Matrix_at p i (i1 : Int) B1 c p.Cells.length _ rfl (hS9.inn0 [(true, 1)] rfl) hc)) ?_ ?_
      · rintro _ w_3 ⟨rfl, hd⟩
        have hS10 := hS9.out00 hd
        have hS10 : ST w0 [] _ [⟨some ⟨b, 0, none⟩, 116, [.int .i64 0, .int .i64 0, .int .i64 0, .int .i64 0, .int .i64 0], 5⟩, ⟨some ⟨b1, 0, none⟩, 116, [.int .i64 A, .int .i64 B4, .int .i64 C, .int .i64 D, .int .i64 Exp], 5⟩] [⟨B, [.int .i64 p.Rows, .int .i64 p.Cols, .slice B1 p.Cells.length c]⟩, ⟨B1, (p.Cells.flatMap enc_Dyadic)⟩, ⟨B2, [.int .i64 p1.Rows, .int .i64 p1.Cols, .slice B3 p1.Cells.length c1]⟩, ⟨B3, (p1.Cells.flatMap enc_Dyadic)⟩] := hS10
        refine ⟨(ST.sel hS10 [0, 1] rfl rfl), ?_⟩
        refine ra_all (rs := [7, 12]) (by kernel_rfl) rfl ?_
        refine ra_c 28 (i := 7) rfl rfl rfl (Yc_func (g := 87) (vs := [.agg #[.int .i64 p1.Rows, .int .i64 p1.Cols, .slice B3 p1.Cells.length c1], .int .i64 (i1 : Int), .int .i64 j]) k_call_87 rfl (mc rfl (mc rfl (mc rfl mn))) (c_impl_Matrix_at p1 (i1 : Int) j B3 c1 p1.Cells.length _ rfl (hS10.inn0 [(true, 3)] rfl) hc1)) ?_ ?_
        · rintro _ w_4 ⟨rfl, hd1⟩
          have hS11 := hS10.out00 hd1
          have hS11 : ST w0 [] _ [⟨some ⟨b, 0, none⟩, 116, [.int .i64 0, .int .i64 0, .int .i64 0, .int .i64 0, .int .i64 0], 5⟩, ⟨some ⟨b1, 0, none⟩, 116, [.int .i64 A, .int .i64 B4, .int .i64 C, .int .i64 D, .int .i64 Exp], 5⟩] [⟨B, [.int .i64 p.Rows, .int .i64 p.Cols, .slice B1 p.Cells.length c]⟩, ⟨B1, (p.Cells.flatMap enc_Dyadic)⟩, ⟨B2, [.int .i64 p1.Rows, .int .i64 p1.Cols, .slice B3 p1.Cells.length c1]⟩, ⟨B3, (p1.Cells.flatMap enc_Dyadic)⟩] := hS11
          refine ⟨(ST.sel hS11 [0, 1] rfl rfl), ?_⟩
          refine ra_all (rs := [8, 12]) (by kernel_rfl) rfl ?_
          refine ra_c 29 (i := 8) rfl rfl rfl (Yc_func (g := 134) (vs := [.agg #[.int .i64 r_2.Num.A, .int .i64 r_2.Num.B, .int .i64 r_2.Num.C, .int .i64 r_2.Num.D, .int .i64 r_2.Exp], .agg #[.int .i64 r_3.Num.A, .int .i64 r_3.Num.B, .int .i64 r_3.Num.C, .int .i64 r_3.Num.D, .int .i64 r_3.Exp]]) k_call_134 rfl (mc rfl (mc rfl mn)) (c_impl_MulDyadic r_2 r_3 _  (hS11.inn0 [] rfl) hc2)) ?_ ?_
          · rintro _ w_5 ⟨rfl, hd2⟩
            have hS12 := hS11.out00 hd2
            have hS12 : ST w0 [] _ [⟨some ⟨b, 0, none⟩, 116, [.int .i64 0, .int .i64 0, .int .i64 0, .int .i64 0, .int .i64 0], 5⟩, ⟨some ⟨b1, 0, none⟩, 116, [.int .i64 A, .int .i64 B4, .int .i64 C, .int .i64 D, .int .i64 Exp], 5⟩] [⟨B, [.int .i64 p.Rows, .int .i64 p.Cols, .slice B1 p.Cells.length c]⟩, ⟨B1, (p.Cells.flatMap enc_Dyadic)⟩, ⟨B2, [.int .i64 p1.Rows, .int .i64 p1.Cols, .slice B3 p1.Cells.length c1]⟩, ⟨B3, (p1.Cells.flatMap enc_Dyadic)⟩] := hS12
            refine ⟨(ST.sel hS12 [0, 1] rfl rfl), ?_⟩
            refine ra_q 9 20 (v := .tuple #[.agg #[.int .i64 r_4.Num.A, .int .i64 r_4.Num.B, .int .i64 r_4.Num.C, .int .i64 r_4.Num.D, .int .i64 r_4.Exp], .bool r_5]) rfl rfl rfl (by kernel_rfl) (by kernel_rfl) (by kernel_rfl) (ST.sel hS12 [0, 1] rfl rfl) (fun w' hw' => (Y_move (v := .tuple #[.agg #[.int .i64 r_4.Num.A, .int .i64 r_4.Num.B, .int .i64 r_4.Num.C, .int .i64 r_4.Num.D, .int .i64 r_4.Exp], .bool r_5]) rfl rfl)) ?_
            refine ra_q 10 30 (v := .agg #[.int .i64 r_4.Num.A, .int .i64 r_4.Num.B, .int .i64 r_4.Num.C, .int .i64 r_4.Num.D, .int .i64 r_4.Exp]) rfl rfl rfl (by kernel_rfl) (by kernel_rfl) (by kernel_rfl) (ST.sel hS12 [0, 1] rfl rfl) (fun w' hw' => (Y_extract (v := .agg #[.int .i64 r_4.Num.A, .int .i64 r_4.Num.B, .int .i64 r_4.Num.C, .int .i64 r_4.Num.D, .int .i64 r_4.Exp]) rfl rfl rfl)) ?_
            refine ra_q 11 31 (v := .bool r_5) rfl rfl rfl (by kernel_rfl) (by kernel_rfl) (by kernel_rfl) (ST.sel hS12 [0, 1] rfl rfl) (fun w' hw' => (Y_extract (v := .bool r_5) rfl rfl rfl)) ?_
            refine ra_all (rs := [12]) (by kernel_rfl) rfl ?_
            refine ra_s 10 (i := 12) rfl rfl rfl (Ys_alloc (T := 116) (cs := [.int .i64 0, .int .i64 0, .int .i64 0, .int .i64 0, .int .i64 0]) (m := 5) hS12 k_zero_116 rfl rfl rfl) ?_ ?_
            · rintro _ w_6 ⟨b2, rfl, hS13⟩
              have hS13 : ST w0 [] _ [⟨some ⟨b, 0, none⟩, 116, [.int .i64 0, .int .i64 0, .int .i64 0, .int .i64 0, .int .i64 0], 5⟩, ⟨some ⟨b1, 0, none⟩, 116, [.int .i64 A, .int .i64 B4, .int .i64 C, .int .i64 D, .int .i64 Exp], 5⟩, ⟨some ⟨b2, 0, none⟩, 116, [.int .i64 0, .int .i64 0, .int .i64 0, .int .i64 0, .int .i64 0], 5⟩] [⟨B, [.int .i64 p.Rows, .int .i64 p.Cols, .slice B1 p.Cells.length c]⟩, ⟨B1, (p.Cells.flatMap enc_Dyadic)⟩, ⟨B2, [.int .i64 p1.Rows, .int .i64 p1.Cols, .slice B3 p1.Cells.length c1]⟩, ⟨B3, (p1.Cells.flatMap enc_Dyadic)⟩] := hS13
              refine ⟨(ST.sel hS13 [0, 1] rfl rfl), ?_⟩
              refine ra_all (rs := [13]) (by kernel_rfl) rfl ?_
              refine ra_s0 (i := 13) rfl rfl rfl (Ys_store (i := 2) (s := 5) (B := some ⟨b2, 0, none⟩) (T' := 116) (v := .agg #[.int .i64 r_4.Num.A, .int .i64 r_4.Num.B, .int .i64 r_4.Num.C, .int .i64 r_4.Num.D, .int .i64 r_4.Exp]) (vs := [.int .i64 r_4.Num.A, .int .i64 r_4.Num.B, .int .i64 r_4.Num.C, .int .i64 r_4.Num.D, .int .i64 r_4.Exp]) (k := 0) (cs' := [.int .i64 r_4.Num.A, .int .i64 r_4.Num.B, .int .i64 r_4.Num.C, .int .i64 r_4.Num.D, .int .i64 r_4.Exp]) hS13 k_sz_116_5 rfl rfl rfl rfl rfl rfl rfl (Nat.le_of_ble_eq_true rfl) rfl rfl) ?_ ?_
              · rintro _ w_7 ⟨rfl, hS14⟩
                have hS14 : ST w0 [] _ [⟨some ⟨b, 0, none⟩, 116, [.int .i64 0, .int .i64 0, .int .i64 0, .int .i64 0, .int .i64 0], 5⟩, ⟨some ⟨b1, 0, none⟩, 116, [.int .i64 A, .int .i64 B4, .int .i64 C, .int .i64 D, .int .i64 Exp], 5⟩, ⟨some ⟨b2, 0, none⟩, 116, [.int .i64 r_4.Num.A, .int .i64 r_4.Num.B, .int .i64 r_4.Num.C, .int .i64 r_4.Num.D, .int .i64 r_4.Exp], 5⟩] [⟨B, [.int .i64 p.Rows, .int .i64 p.Cols, .slice B1 p.Cells.length c]⟩, ⟨B1, (p.Cells.flatMap enc_Dyadic)⟩, ⟨B2, [.int .i64 p1.Rows, .int .i64 p1.Cols, .slice B3 p1.Cells.length c1]⟩, ⟨B3, (p1.Cells.flatMap enc_Dyadic)⟩] := hS14
                refine ⟨(ST.sel hS14 [0, 1] rfl rfl), ?_⟩
                refine ra_q 14 11 (v := .bool r_5) rfl rfl rfl (by kernel_rfl) (by kernel_rfl) (by kernel_rfl) (ST.sel hS14 [0, 1] rfl rfl) (fun w' hw' => (Y_assign (v := .bool r_5) rfl rfl)) ?_
                refine ra_done (by kernel_rfl) ?_
                exact ⟨some ⟨b2, 0, none⟩, (FF.cons (hf.get 0 0 rfl) (FF.cons (hf.get 1 1 rfl) (FF.cons (hf.get 2 2 rfl) (FF.cons (hf.get 3 3 rfl) (FF.cons (hf.get 6 4 rfl) (FF.cons (hf.get 8 5 rfl) (FF.cons rfl (FF.cons rfl (FF.cons (hf.get 16 6 rfl) (FF.cons (hf.get 17 7 rfl) FF.nil)))))))))), (hS14.sel [0, 1, 2] rfl rfl)⟩
              exact allR_nil
            exact allR_nil
          refine ra_s 10 (i := 12) rfl rfl rfl (Ys_alloc (T := 116) (cs := [.int .i64 0, .int .i64 0, .int .i64 0, .int .i64 0, .int .i64 0]) (m := 5) hS11 k_zero_116 rfl rfl rfl) ?_ ?_
          · rintro _ w_8 ⟨b2, rfl, hS15⟩
            have hS15 : ST w0 [] _ [⟨some ⟨b, 0, none⟩, 116, [.int .i64 0, .int .i64 0, .int .i64 0, .int .i64 0, .int .i64 0], 5⟩, ⟨some ⟨b1, 0, none⟩, 116, [.int .i64 A, .int .i64 B4, .int .i64 C, .int .i64 D, .int .i64 Exp], 5⟩, ⟨some ⟨b2, 0, none⟩, 116, [.int .i64 0, .int .i64 0, .int .i64 0, .int .i64 0, .int .i64 0], 5⟩] [⟨B, [.int .i64 p.Rows, .int .i64 p.Cols, .slice B1 p.Cells.length c]⟩, ⟨B1, (p.Cells.flatMap enc_Dyadic)⟩, ⟨B2, [.int .i64 p1.Rows, .int .i64 p1.Cols, .slice B3 p1.Cells.length c1]⟩, ⟨B3, (p1.Cells.flatMap enc_Dyadic)⟩] := hS15
            refine ⟨(ST.sel hS15 [0, 1] rfl rfl), ?_⟩
            refine ra_all (rs := [8]) (by kernel_rfl) rfl ?_
            refine ra_c 29 (i := 8) rfl rfl rfl (Yc_func (g := 134) (vs := [.agg #[.int .i64 r_2.Num.A, .int .i64 r_2.Num.B, .int .i64 r_2.Num.C, .int .i64 r_2.Num.D, .int .i64 r_2.Exp], .agg #[.int .i64 r_3.Num.A, .int .i64 r_3.Num.B, .int .i64 r_3.Num.C, .int .i64 r_3.Num.D, .int .i64 r_3.Exp]]) k_call_134 rfl (mc rfl (mc rfl mn)) (c_impl_MulDyadic r_2 r_3 _  (hS15.inn0 [] rfl) hc2)) ?_ ?_
            · rintro _ w_9 ⟨rfl, hd3⟩
              have hS16 := hS15.out00 hd3
              have hS16 : ST w0 [] _ [⟨some ⟨b, 0, none⟩, 116, [.int .i64 0, .int .i64 0, .int .i64 0, .int .i64 0, .int .i64 0], 5⟩, ⟨some ⟨b1, 0, none⟩, 116, [.int .i64 A, .int .i64 B4, .int .i64 C, .int .i64 D, .int .i64 Exp], 5⟩, ⟨some ⟨b2, 0, none⟩, 116, [.int .i64 0, .int .i64 0, .int .i64 0, .int .i64 0, .int .i64 0], 5⟩] [⟨B, [.int .i64 p.Rows, .int .i64 p.Cols, .slice B1 p.Cells.length c]⟩, ⟨B1, (p.Cells.flatMap enc_Dyadic)⟩, ⟨B2, [.int .i64 p1.Rows, .int .i64 p1.Cols, .slice B3 p1.Cells.length c1]⟩, ⟨B3, (p1.Cells.flatMap enc_Dyadic)⟩] := hS16
              refine ⟨(ST.sel hS16 [0, 1] rfl rfl), ?_⟩
              refine ra_q 9 20 (v := .tuple #[.agg #[.int .i64 r_4.Num.A, .int .i64 r_4.Num.B, .int .i64 r_4.Num.C, .int .i64 r_4.Num.D, .int .i64 r_4.Exp], .bool r_5]) rfl rfl rfl (by kernel_rfl) (by kernel_rfl) (by kernel_rfl) (ST.sel hS16 [0, 1] rfl rfl) (fun w' hw' => (Y_move (v := .tuple #[.agg #[.int .i64 r_4.Num.A, .int .i64 r_4.Num.B, .int .i64 r_4.Num.C, .int .i64 r_4.Num.D, .int .i64 r_4.Exp], .bool r_5]) rfl rfl)) ?_
              refine ra_q 10 30 (v := .agg #[.int .i64 r_4.Num.A, .int .i64 r_4.Num.B, .int .i64 r_4.Num.C, .int .i64 r_4.Num.D, .int .i64 r_4.Exp]) rfl rfl rfl (by kernel_rfl) (by kernel_rfl) (by kernel_rfl) (ST.sel hS16 [0, 1] rfl rfl) (fun w' hw' => (Y_extract (v := .agg #[.int .i64 r_4.Num.A, .int .i64 r_4.Num.B, .int .i64 r_4.Num.C, .int .i64 r_4.Num.D, .int .i64 r_4.Exp]) rfl rfl rfl)) ?_
              refine ra_q 11 31 (v := .bool r_5) rfl rfl rfl (by kernel_rfl) (by kernel_rfl) (by kernel_rfl) (ST.sel hS16 [0, 1] rfl rfl) (fun w' hw' => (Y_extract (v := .bool r_5) rfl rfl rfl)) ?_
              refine ra_all (rs := [13]) (by kernel_rfl) rfl ?_
              refine ra_s0 (i := 13) rfl rfl rfl (Ys_store (i := 2) (s := 5) (B := some ⟨b2, 0, none⟩) (T' := 116) (v := .agg #[.int .i64 r_4.Num.A, .int .i64 r_4.Num.B, .int .i64 r_4.Num.C, .int .i64 r_4.Num.D, .int .i64 r_4.Exp]) (vs := [.int .i64 r_4.Num.A, .int .i64 r_4.Num.B, .int .i64 r_4.Num.C, .int .i64 r_4.Num.D, .int .i64 r_4.Exp]) (k := 0) (cs' := [.int .i64 r_4.Num.A, .int .i64 r_4.Num.B, .int .i64 r_4.Num.C, .int .i64 r_4.Num.D, .int .i64 r_4.Exp]) hS16 k_sz_116_5 rfl rfl rfl rfl rfl rfl rfl (Nat.le_of_ble_eq_true rfl) rfl rfl) ?_ ?_
              · rintro _ w_10 ⟨rfl, hS17⟩
                have hS17 : ST w0 [] _ [⟨some ⟨b, 0, none⟩, 116, [.int .i64 0, .int .i64 0, .int .i64 0, .int .i64 0, .int .i64 0], 5⟩, ⟨some ⟨b1, 0, none⟩, 116, [.int .i64 A, .int .i64 B4, .int .i64 C, .int .i64 D, .int .i64 Exp], 5⟩, ⟨some ⟨b2, 0, none⟩, 116, [.int .i64 r_4.Num.A, .int .i64 r_4.Num.B, .int .i64 r_4.Num.C, .int .i64 r_4.Num.D, .int .i64 r_4.Exp], 5⟩] [⟨B, [.int .i64 p.Rows, .int .i64 p.Cols, .slice B1 p.Cells.length c]⟩, ⟨B1, (p.Cells.flatMap enc_Dyadic)⟩, ⟨B2, [.int .i64 p1.Rows, .int .i64 p1.Cols, .slice B3 p1.Cells.length c1]⟩, ⟨B3, (p1.Cells.flatMap enc_Dyadic)⟩] := hS17
                refine ⟨(ST.sel hS17 [0, 1] rfl rfl), ?_⟩
                refine ra_q 14 11 (v := .bool r_5) rfl rfl rfl (by kernel_rfl) (by kernel_rfl) (by kernel_rfl) (ST.sel hS17 [0, 1] rfl rfl) (fun w' hw' => (Y_assign (v := .bool r_5) rfl rfl)) ?_
                refine ra_done (by kernel_rfl) ?_
                exact ⟨some ⟨b2, 0, none⟩, (FF.cons (hf.get 0 0 rfl) (FF.cons (hf.get 1 1 rfl) (FF.cons (hf.get 2 2 rfl) (FF.cons (hf.get 3 3 rfl) (FF.cons (hf.get 6 4 rfl) (FF.cons (hf.get 8 5 rfl) (FF.cons rfl (FF.cons rfl (FF.cons (hf.get 16 6 rfl) (FF.cons (hf.get 17 7 rfl) FF.nil)))))))))), (hS17.sel [0, 1, 2] rfl rfl)⟩
              exact allR_nil
            exact allR_nil
          exact allR_nil
        refine ra_s 10 (i := 12) rfl rfl rfl (Ys_alloc (T := 116) (cs := [.int .i64 0, .int .i64 0, .int .i64 0, .int .i64 0, .int .i64 0]) (m := 5) hS10 k_zero_116 rfl rfl rfl) ?_ ?_
        · rintro _ w_11 ⟨b2, rfl, hS18⟩
          have hS18 : ST w0 [] _ [⟨some ⟨b, 0, none⟩, 116, [.int .i64 0, .int .i64 0, .int .i64 0, .int .i64 0, .int .i64 0], 5⟩, ⟨some ⟨b1, 0, none⟩, 116, [.int .i64 A, .int .i64 B4, .int .i64 C, .int .i64 D, .int .i64 Exp], 5⟩, ⟨some ⟨b2, 0, none⟩, 116, [.int .i64 0, .int .i64 0, .int .i64 0, .int .i64 0, .int .i64 0], 5⟩] [⟨B, [.int .i64 p.Rows, .int .i64 p.Cols, .slice B1 p.Cells.length c]⟩, ⟨B1, (p.Cells.flatMap enc_Dyadic)⟩, ⟨B2, [.int .i64 p1.Rows, .int .i64 p1.Cols, .slice B3 p1.Cells.length c1]⟩, ⟨B3, (p1.Cells.flatMap enc_Dyadic)⟩] := hS18
          refine ⟨(ST.sel hS18 [0, 1] rfl rfl), ?_⟩
          refine ra_all (rs := [7]) (by kernel_rfl) rfl ?_
          refine ra_c 28 (i := 7) rfl rfl rfl (Yc_func (g := 87) (vs := [.agg #[.int .i64 p1.Rows, .int .i64 p1.Cols, .slice B3 p1.Cells.length c1], .int .i64 (i1 : Int), .int .i64 j]) k_call_87 rfl (mc rfl (mc rfl (mc rfl mn))) (c_impl_Matrix_at p1 (i1 : Int) j B3 c1 p1.Cells.length _ rfl (hS18.inn0 [(true, 3)] rfl) hc1)) ?_ ?_
          · rintro _ w_12 ⟨rfl, hd4⟩
            have hS19 := hS18.out00 hd4
            have hS19 : ST w0 [] _ [⟨some ⟨b, 0, none⟩, 116, [.int .i64 0, .int .i64 0, .int .i64 0, .int .i64 0, .int .i64 0], 5⟩, ⟨some ⟨b1, 0, none⟩, 116, [.int .i64 A, .int .i64 B4, .int .i64 C, .int .i64 D, .int .i64 Exp], 5⟩, ⟨some ⟨b2, 0, none⟩, 116, [.int .i64 0, .int .i64 0, .int .i64 0, .int .i64 0, .int .i64 0], 5⟩] [⟨B, [.int .i64 p.Rows, .int .i64 p.Cols, .slice B1 p.Cells.length c]⟩, ⟨B1, (p.Cells.flatMap enc_Dyadic)⟩, ⟨B2, [.int .i64 p1.Rows, .int .i64 p1.Cols, .slice B3 p1.Cells.length c1]⟩, ⟨B3, (p1.Cells.flatMap enc_Dyadic)⟩] := hS19
            refine ⟨(ST.sel hS19 [0, 1] rfl rfl), ?_⟩
            refine ra_all (rs := [8]) (by kernel_rfl) rfl ?_
            refine ra_c 29 (i := 8) rfl rfl rfl (Yc_func (g := 134) (vs := [.agg #[.int .i64 r_2.Num.A, .int .i64 r_2.Num.B, .int .i64 r_2.Num.C, .int .i64 r_2.Num.D, .int .i64 r_2.Exp], .agg #[.int .i64 r_3.Num.A, .int .i64 r_3.Num.B, .int .i64 r_3.Num.C, .int .i64 r_3.Num.D, .int .i64 r_3.Exp]]) k_call_134 rfl (mc rfl (mc rfl mn)) (c_impl_MulDyadic r_2 r_3 _  (hS19.inn0 [] rfl) hc2)) ?_ ?_
            · rintro _ w_13 ⟨rfl, hd5⟩
              have hS20 := hS19.out00 hd5
              have hS20 : ST w0 [] _ [⟨some ⟨b, 0, none⟩, 116, [.int .i64 0, .int .i64 0, .int .i64 0, .int .i64 0, .int .i64 0], 5⟩, ⟨some ⟨b1, 0, none⟩, 116, [.int .i64 A, .int .i64 B4, .int .i64 C, .int .i64 D, .int .i64 Exp], 5⟩, ⟨some ⟨b2, 0, none⟩, 116, [.int .i64 0, .int .i64 0, .int .i64 0, .int .i64 0, .int .i64 0], 5⟩] [⟨B, [.int .i64 p.Rows, .int .i64 p.Cols, .slice B1 p.Cells.length c]⟩, ⟨B1, (p.Cells.flatMap enc_Dyadic)⟩, ⟨B2, [.int .i64 p1.Rows, .int .i64 p1.Cols, .slice B3 p1.Cells.length c1]⟩, ⟨B3, (p1.Cells.flatMap enc_Dyadic)⟩] := hS20
              refine ⟨(ST.sel hS20 [0, 1] rfl rfl), ?_⟩
              refine ra_q 9 20 (v := .tuple #[.agg #[.int .i64 r_4.Num.A, .int .i64 r_4.Num.B, .int .i64 r_4.Num.C, .int .i64 r_4.Num.D, .int .i64 r_4.Exp], .bool r_5]) rfl rfl rfl (by kernel_rfl) (by kernel_rfl) (by kernel_rfl) (ST.sel hS20 [0, 1] rfl rfl) (fun w' hw' => (Y_move (v := .tuple #[.agg #[.int .i64 r_4.Num.A, .int .i64 r_4.Num.B, .int .i64 r_4.Num.C, .int .i64 r_4.Num.D, .int .i64 r_4.Exp], .bool r_5]) rfl rfl)) ?_
              refine ra_q 10 30 (v := .agg #[.int .i64 r_4.Num.A, .int .i64 r_4.Num.B, .int .i64 r_4.Num.C, .int .i64 r_4.Num.D, .int .i64 r_4.Exp]) rfl rfl rfl (by kernel_rfl) (by kernel_rfl) (by kernel_rfl) (ST.sel hS20 [0, 1] rfl rfl) (fun w' hw' => (Y_extract (v := .agg #[.int .i64 r_4.Num.A, .int .i64 r_4.Num.B, .int .i64 r_4.Num.C, .int .i64 r_4.Num.D, .int .i64 r_4.Exp]) rfl rfl rfl)) ?_
              refine ra_q 11 31 (v := .bool r_5) rfl rfl rfl (by kernel_rfl) (by kernel_rfl) (by kernel_rfl) (ST.sel hS20 [0, 1] rfl rfl) (fun w' hw' => (Y_extract (v := .bool r_5) rfl rfl rfl)) ?_
              refine ra_all (rs := [13]) (by kernel_rfl) rfl ?_
              refine ra_s0 (i := 13) rfl rfl rfl (Ys_store (i := 2) (s := 5) (B := some ⟨b2, 0, none⟩) (T' := 116) (v := .agg #[.int .i64 r_4.Num.A, .int .i64 r_4.Num.B, .int .i64 r_4.Num.C, .int .i64 r_4.Num.D, .int .i64 r_4.Exp]) (vs := [.int .i64 r_4.Num.A, .int .i64 r_4.Num.B, .int .i64 r_4.Num.C, .int .i64 r_4.Num.D, .int .i64 r_4.Exp]) (k := 0) (cs' := [.int .i64 r_4.Num.A, .int .i64 r_4.Num.B, .int .i64 r_4.Num.C, .int .i64 r_4.Num.D, .int .i64 r_4.Exp]) hS20 k_sz_116_5 rfl rfl rfl rfl rfl rfl rfl (Nat.le_of_ble_eq_true rfl) rfl rfl) ?_ ?_
              · rintro _ w_14 ⟨rfl, hS21⟩
                have hS21 : ST w0 [] _ [⟨some ⟨b, 0, none⟩, 116, [.int .i64 0, .int .i64 0, .int .i64 0, .int .i64 0, .int .i64 0], 5⟩, ⟨some ⟨b1, 0, none⟩, 116, [.int .i64 A, .int .i64 B4, .int .i64 C, .int .i64 D, .int .i64 Exp], 5⟩, ⟨some ⟨b2, 0, none⟩, 116, [.int .i64 r_4.Num.A, .int .i64 r_4.Num.B, .int .i64 r_4.Num.C, .int .i64 r_4.Num.D, .int .i64 r_4.Exp], 5⟩] [⟨B, [.int .i64 p.Rows, .int .i64 p.Cols, .slice B1 p.Cells.length c]⟩, ⟨B1, (p.Cells.flatMap enc_Dyadic)⟩, ⟨B2, [.int .i64 p1.Rows, .int .i64 p1.Cols, .slice B3 p1.Cells.length c1]⟩, ⟨B3, (p1.Cells.flatMap enc_Dyadic)⟩] := hS21
                refine ⟨(ST.sel hS21 [0, 1] rfl rfl), ?_⟩
                refine ra_q 14 11 (v := .bool r_5) rfl rfl rfl (by kernel_rfl) (by kernel_rfl) (by kernel_rfl) (ST.sel hS21 [0, 1] rfl rfl) (fun w' hw' => (Y_assign (v := .bool r_5) rfl rfl)) ?_
                refine ra_done (by kernel_rfl) ?_
                exact ⟨some ⟨b2, 0, none⟩, (FF.cons (hf.get 0 0 rfl) (FF.cons (hf.get 1 1 rfl) (FF.cons (hf.get 2 2 rfl) (FF.cons (hf.get 3 3 rfl) (FF.cons (hf.get 6 4 rfl) (FF.cons (hf.get 8 5 rfl) (FF.cons rfl (FF.cons rfl (FF.cons (hf.get 16 6 rfl) (FF.cons (hf.get 17 7 rfl) FF.nil)))))))))), (hS21.sel [0, 1, 2] rfl rfl)⟩
              exact allR_nil
            exact allR_nil
          exact allR_nil
        exact allR_nil
      refine ra_s 10 (i := 12) rfl rfl rfl (Ys_alloc (T := 116) (cs := [.int .i64 0, .int .i64 0, .int .i64 0, .int .i64 0, .int .i64 0]) (m := 5) hS9 k_zero_116 rfl rfl rfl) ?_ ?_
      · rintro _ w_15 ⟨b2, rfl, hS22⟩
        have hS22 : ST w0 [] _ [⟨some ⟨b, 0, none⟩, 116, [.int .i64 0, .int .i64 0, .int .i64 0, .int .i64 0, .int .i64 0], 5⟩, ⟨some ⟨b1, 0, none⟩, 116, [.int .i64 A, .int .i64 B4, .int .i64 C, .int .i64 D, .int .i64 Exp], 5⟩, ⟨some ⟨b2, 0, none⟩, 116, [.int .i64 0, .int .i64 0, .int .i64 0, .int .i64 0, .int .i64 0], 5⟩] [⟨B, [.int .i64 p.Rows, .int .i64 p.Cols, .slice B1 p.Cells.length c]⟩, ⟨B1, (p.Cells.flatMap enc_Dyadic)⟩, ⟨B2, [.int .i64 p1.Rows, .int .i64 p1.Cols, .slice B3 p1.Cells.length c1]⟩, ⟨B3, (p1.Cells.flatMap enc_Dyadic)⟩] := hS22
        refine ⟨(ST.sel hS22 [0, 1] rfl rfl), ?_⟩
        refine ra_all (rs := [3]) (by kernel_rfl) rfl ?_
        refine ra_c 24 (i := 3) rfl rfl rfl (Yc_func (g := 87) (vs := [.agg #[.int .i64 p.Rows, .int .i64 p.Cols, .slice B1 p.Cells.length c], .int .i64 i, .int .i64 (i1 : Int)]) k_call_87 rfl (mc rfl (mc rfl (mc rfl mn))) (c_impl_Matrix_at p i (i1 : Int) B1 c p.Cells.length _ rfl (hS22.inn0 [(true, 1)] rfl) hc)) ?_ ?_
        · rintro _ w_16 ⟨rfl, hd6⟩
          have hS23 := hS22.out00 hd6
          have hS23 : ST w0 [] _ [⟨some ⟨b, 0, none⟩, 116, [.int .i64 0, .int .i64 0, .int .i64 0, .int .i64 0, .int .i64 0], 5⟩, ⟨some ⟨b1, 0, none⟩, 116, [.int .i64 A, .int .i64 B4, .int .i64 C, .int .i64 D, .int .i64 Exp], 5⟩, ⟨some ⟨b2, 0, none⟩, 116, [.int .i64 0, .int .i64 0, .int .i64 0, .int .i64 0, .int .i64 0], 5⟩] [⟨B, [.int .i64 p.Rows, .int .i64 p.Cols, .slice B1 p.Cells.length c]⟩, ⟨B1, (p.Cells.flatMap enc_Dyadic)⟩, ⟨B2, [.int .i64 p1.Rows, .int .i64 p1.Cols, .slice B3 p1.Cells.length c1]⟩, ⟨B3, (p1.Cells.flatMap enc_Dyadic)⟩] := hS23
          refine ⟨(ST.sel hS23 [0, 1] rfl rfl), ?_⟩
          refine ra_all (rs := [7]) (by kernel_rfl) rfl ?_
          refine ra_c 28 (i := 7) rfl rfl rfl (Yc_func (g := 87) (vs := [.agg #[.int .i64 p1.Rows, .int .i64 p1.Cols, .slice B3 p1.Cells.length c1], .int .i64 (i1 : Int), .int .i64 j]) k_call_87 rfl (mc rfl (mc rfl (mc rfl mn))) (c_impl_Matrix_at p1 (i1 : Int) j B3 c1 p1.Cells.length _ rfl (hS23.inn0 [(true, 3)] rfl) hc1)) ?_ ?_
          · rintro _ w_17 ⟨rfl, hd7⟩
            have hS24 := hS23.out00 hd7
            have hS24 : ST w0 [] _ [⟨some ⟨b, 0, none⟩, 116, [.int .i64 0, .int .i64 0, .int .i64 0, .int .i64 0, .int .i64 0], 5⟩, ⟨some ⟨b1, 0, none⟩, 116, [.int .i64 A, .int .i64 B4, .int .i64 C, .int .i64 D, .int .i64 Exp], 5⟩, ⟨some ⟨b2, 0, none⟩, 116, [.int .i64 0, .int .i64 0, .int .i64 0, .int .i64 0, .int .i64 0], 5⟩] [⟨B, [.int .i64 p.Rows, .int .i64 p.Cols, .slice B1 p.Cells.length c]⟩, ⟨B1, (p.Cells.flatMap enc_Dyadic)⟩, ⟨B2, [.int .i64 p1.Rows, .int .i64 p1.Cols, .slice B3 p1.Cells.length c1]⟩, ⟨B3, (p1.Cells.flatMap enc_Dyadic)⟩] := hS24
            refine ⟨(ST.sel hS24 [0, 1] rfl rfl), ?_⟩
            refine ra_all (rs := [8]) (by kernel_rfl) rfl ?_
            refine ra_c 29 (i := 8) rfl rfl rfl (Yc_func (g := 134) (vs := [.agg #[.int .i64 r_2.Num.A, .int .i64 r_2.Num.B, .int .i64 r_2.Num.C, .int .i64 r_2.Num.D, .int .i64 r_2.Exp], .agg #[.int .i64 r_3.Num.A, .int .i64 r_3.Num.B, .int .i64 r_3.Num.C, .int .i64 r_3.Num.D, .int .i64 r_3.Exp]]) k_call_134 rfl (mc rfl (mc rfl mn)) (c_impl_MulDyadic r_2 r_3 _  (hS24.inn0 [] rfl) hc2)) ?_ ?_
            · rintro _ w_18 ⟨rfl, hd8⟩
              have hS25 := hS24.out00 hd8
              have hS25 : ST w0 [] _ [⟨some ⟨b, 0, none⟩, 116, [.int .i64 0, .int .i64 0, .int .i64 0, .int .i64 0, .int .i64 0], 5⟩, ⟨some ⟨b1, 0, none⟩, 116, [.int .i64 A, .int .i64 B4, .int .i64 C, .int .i64 D, .int .i64 Exp], 5⟩, ⟨some ⟨b2, 0, none⟩, 116, [.int .i64 0, .int .i64 0, .int .i64 0, .int .i64 0, .int .i64 0], 5⟩] [⟨B, [.int .i64 p.Rows, .int .i64 p.Cols, .slice B1 p.Cells.length c]⟩, ⟨B1, (p.Cells.flatMap enc_Dyadic)⟩, ⟨B2, [.int .i64 p1.Rows, .int .i64 p1.Cols, .slice B3 p1.Cells.length c1]⟩, ⟨B3, (p1.Cells.flatMap enc_Dyadic)⟩] := hS25
              refine ⟨(ST.sel hS25 [0, 1] rfl rfl), ?_⟩
              refine ra_q 9 20 (v := .tuple #[.agg #[.int .i64 r_4.Num.A, .int .i64 r_4.Num.B, .int .i64 r_4.Num.C, .int .i64 r_4.Num.D, .int .i64 r_4.Exp], .bool r_5]) rfl rfl rfl (by kernel_rfl) (by kernel_rfl) (by kernel_rfl) (ST.sel hS25 [0, 1] rfl rfl) (fun w' hw' => (Y_move (v := .tuple #[.agg #[.int .i64 r_4.Num.A, .int .i64 r_4.Num.B, .int .i64 r_4.Num.C, .int .i64 r_4.Num.D, .int .i64 r_4.Exp], .bool r_5]) rfl rfl)) ?_
              refine ra_q 10 30 (v := .agg #[.int .i64 r_4.Num.A, .int .i64 r_4.Num.B, .int .i64 r_4.Num.C, .int .i64 r_4.Num.D, .int .i64 r_4.Exp]) rfl rfl rfl (by kernel_rfl) (by kernel_rfl) (by kernel_rfl) (ST.sel hS25 [0, 1] rfl rfl) (fun w' hw' => (Y_extract (v := .agg #[.int .i64 r_4.Num.A, .int .i64 r_4.Num.B, .int .i64 r_4.Num.C, .int .i64 r_4.Num.D, .int .i64 r_4.Exp]) rfl rfl rfl)) ?_
              refine ra_q 11 31 (v := .bool r_5) rfl rfl rfl (by kernel_rfl) (by kernel_rfl) (by kernel_rfl) (ST.sel hS25 [0, 1] rfl rfl) (fun w' hw' => (Y_extract (v := .bool r_5) rfl rfl rfl)) ?_
              refine ra_all (rs := [13]) (by kernel_rfl) rfl ?_
              refine ra_s0 (i := 13) rfl rfl rfl (Ys_store (i := 2) (s := 5) (B := some ⟨b2, 0, none⟩) (T' := 116) (v := .agg #[.int .i64 r_4.Num.A, .int .i64 r_4.Num.B, .int .i64 r_4.Num.C, .int .i64 r_4.Num.D, .int .i64 r_4.Exp]) (vs := [.int .i64 r_4.Num.A, .int .i64 r_4.Num.B, .int .i64 r_4.Num.C, .int .i64 r_4.Num.D, .int .i64 r_4.Exp]) (k := 0) (cs' := [.int .i64 r_4.Num.A, .int .i64 r_4.Num.B, .int .i64 r_4.Num.C, .int .i64 r_4.Num.D, .int .i64 r_4.Exp]) hS25 k_sz_116_5 rfl rfl rfl rfl rfl rfl rfl (Nat.le_of_ble_eq_true rfl) rfl rfl) ?_ ?_
              · rintro _ w_19 ⟨rfl, hS26⟩
                have hS26 : ST w0 [] _ [⟨some ⟨b, 0, none⟩, 116, [.int .i64 0, .int .i64 0, .int .i64 0, .int .i64 0, .int .i64 0], 5⟩, ⟨some ⟨b1, 0, none⟩, 116, [.int .i64 A, .int .i64 B4, .int .i64 C, .int .i64 D, .int .i64 Exp], 5⟩, ⟨some ⟨b2, 0, none⟩, 116, [.int .i64 r_4.Num.A, .int .i64 r_4.Num.B, .int .i64 r_4.Num.C, .int .i64 r_4.Num.D, .int .i64 r_4.Exp], 5⟩] [⟨B, [.int .i64 p.Rows, .int .i64 p.Cols, .slice B1 p.Cells.length c]⟩, ⟨B1, (p.Cells.flatMap enc_Dyadic)⟩, ⟨B2, [.int .i64 p1.Rows, .int .i64 p1.Cols, .slice B3 p1.Cells.length c1]⟩, ⟨B3, (p1.Cells.flatMap enc_Dyadic)⟩] := hS26
                refine ⟨(ST.sel hS26 [0, 1] rfl rfl), ?_⟩
                refine ra_q 14 11 (v := .bool r_5) rfl rfl rfl (by kernel_rfl) (by kernel_rfl) (by kernel_rfl) (ST.sel hS26 [0, 1] rfl rfl) (fun w' hw' => (Y_assign (v := .bool r_5) rfl rfl)) ?_
                refine ra_done (by kernel_rfl) ?_
                exact ⟨some ⟨b2, 0, none⟩, (FF.cons (hf.get 0 0 rfl) (FF.cons (hf.get 1 1 rfl) (FF.cons (hf.get 2 2 rfl) (FF.cons (hf.get 3 3 rfl) (FF.cons (hf.get 6 4 rfl) (FF.cons (hf.get 8 5 rfl) (FF.cons rfl (FF.cons rfl (FF.cons (hf.get 16 6 rfl) (FF.cons (hf.get 17 7 rfl) FF.nil)))))))))), (hS26.sel [0, 1, 2] rfl rfl)⟩
              exact allR_nil
            exact allR_nil
          exact allR_nil
        exact allR_nil
      exact allR_nil
    rintro f w ⟨B5, hf1, hS8⟩
    refine cw_seq ?_
    refine cw_region ?_
    refine sq 33 rfl rfl (Y_loadA (B := some ⟨b1, 0, none⟩) (i := 0) (cs := [.int .i64 A, .int .i64 B4, .int .i64 C, .int .i64 D, .int .i64 Exp]) (vs := [.int .i64 A, .int .i64 B4, .int .i64 C, .int .i64 D, .int .i64 Exp]) k_ag_116 k_sz_116_5 rfl (hf1.get 8 5 rfl) (hS8.cf (i := 1) rfl) rfl rfl) ?_
    refine sq 34 rfl rfl (Y_loadA (B := B5) (i := 0) (cs := [.int .i64 r_4.Num.A, .int .i64 r_4.Num.B, .int .i64 r_4.Num.C, .int .i64 r_4.Num.D, .int .i64 r_4.Exp]) (vs := [.int .i64 r_4.Num.A, .int .i64 r_4.Num.B, .int .i64 r_4.Num.C, .int .i64 r_4.Num.D, .int .i64 r_4.Exp]) k_ag_116 k_sz_116_5 rfl (hf1.get 10 6 rfl) (hS8.cf (i := 2) rfl) rfl rfl) ?_
    obtain ⟨⟨r_6, r_7⟩, hc3, hb⟩ := bind_inv hb
    refine sc 35 rfl rfl (Yc_func (g := 135) (vs := [.agg #[.int .i64 A, .int .i64 B4, .int .i64 C, .int .i64 D, .int .i64 Exp], .agg #[.int .i64 r_4.Num.A, .int .i64 r_4.Num.B, .int .i64 r_4.Num.C, .int .i64 r_4.Num.D, .int .i64 r_4.Exp]]) k_call_135 rfl (mc rfl (mc rfl mn)) (c_impl_AddDyadic (TDyadic.mk (TRing.mk A B4 C D) Exp) r_4 _  (hS8.inn0 [] rfl) hc3)) ?_
    rintro _ w_20 ⟨rfl, hd9⟩
    have hS27 := hS8.out00 hd9
    have hS27 : ST w0 [] _ [⟨some ⟨b, 0, none⟩, 116, [.int .i64 0, .int .i64 0, .int .i64 0, .int .i64 0, .int .i64 0], 5⟩, ⟨some ⟨b1, 0, none⟩, 116, [.int .i64 A, .int .i64 B4, .int .i64 C, .int .i64 D, .int .i64 Exp], 5⟩, ⟨B5, 116, [.int .i64 r_4.Num.A, .int .i64 r_4.Num.B, .int .i64 r_4.Num.C, .int .i64 r_4.Num.D, .int .i64 r_4.Exp], 5⟩] [⟨B, [.int .i64 p.Rows, .int .i64 p.Cols, .slice B1 p.Cells.length c]⟩, ⟨B1, (p.Cells.flatMap enc_Dyadic)⟩, ⟨B2, [.int .i64 p1.Rows, .int .i64 p1.Cols, .slice B3 p1.Cells.length c1]⟩, ⟨B3, (p1.Cells.flatMap enc_Dyadic)⟩] := hS27
    refine sq 32 rfl rfl (Y_move (v := .tuple #[.agg #[.int .i64 r_6.Num.A, .int .i64 r_6.Num.B, .int .i64 r_6.Num.C, .int .i64 r_6.Num.D, .int .i64 r_6.Exp], .bool r_7]) rfl rfl) ?_
    refine sq 36 rfl rfl (Y_extract (v := .agg #[.int .i64 r_6.Num.A, .int .i64 r_6.Num.B, .int .i64 r_6.Num.C, .int .i64 r_6.Num.D, .int .i64 r_6.Exp]) rfl rfl rfl) ?_
    refine sq 37 rfl rfl (Y_extract (v := .bool r_7) rfl rfl rfl) ?_
    refine ss 12 rfl rfl (Ys_alloc (T := 116) (cs := [.int .i64 0, .int .i64 0, .int .i64 0, .int .i64 0, .int .i64 0]) (m := 5) hS27 k_zero_116 rfl rfl rfl) ?_
    rintro _ w_21 ⟨b3, rfl, hS28⟩
    have hS28 : ST w0 [] _ [⟨some ⟨b, 0, none⟩, 116, [.int .i64 0, .int .i64 0, .int .i64 0, .int .i64 0, .int .i64 0], 5⟩, ⟨some ⟨b1, 0, none⟩, 116, [.int .i64 A, .int .i64 B4, .int .i64 C, .int .i64 D, .int .i64 Exp], 5⟩, ⟨B5, 116, [.int .i64 r_4.Num.A, .int .i64 r_4.Num.B, .int .i64 r_4.Num.C, .int .i64 r_4.Num.D, .int .i64 r_4.Exp], 5⟩, ⟨some ⟨b3, 0, none⟩, 116, [.int .i64 0, .int .i64 0, .int .i64 0, .int .i64 0, .int .i64 0], 5⟩] [⟨B, [.int .i64 p.Rows, .int .i64 p.Cols, .slice B1 p.Cells.length c]⟩, ⟨B1, (p.Cells.flatMap enc_Dyadic)⟩, ⟨B2, [.int .i64 p1.Rows, .int .i64 p1.Cols, .slice B3 p1.Cells.length c1]⟩, ⟨B3, (p1.Cells.flatMap enc_Dyadic)⟩] := hS28
    refine ss0 rfl rfl (Ys_store (i := 3) (s := 5) (B := some ⟨b3, 0, none⟩) (T' := 116) (v := .agg #[.int .i64 r_6.Num.A, .int .i64 r_6.Num.B, .int .i64 r_6.Num.C, .int .i64 r_6.Num.D, .int .i64 r_6.Exp]) (vs := [.int .i64 r_6.Num.A, .int .i64 r_6.Num.B, .int .i64 r_6.Num.C, .int .i64 r_6.Num.D, .int .i64 r_6.Exp]) (k := 0) (cs' := [.int .i64 r_6.Num.A, .int .i64 r_6.Num.B, .int .i64 r_6.Num.C, .int .i64 r_6.Num.D, .int .i64 r_6.Exp]) hS28 k_sz_116_5 rfl rfl rfl rfl rfl rfl rfl (Nat.le_of_ble_eq_true rfl) rfl rfl) ?_
    rintro _ w_22 ⟨rfl, hS29⟩
    have hS29 : ST w0 [] _ [⟨some ⟨b, 0, none⟩, 116, [.int .i64 0, .int .i64 0, .int .i64 0, .int .i64 0, .int .i64 0], 5⟩, ⟨some ⟨b1, 0, none⟩, 116, [.int .i64 A, .int .i64 B4, .int .i64 C, .int .i64 D, .int .i64 Exp], 5⟩, ⟨B5, 116, [.int .i64 r_4.Num.A, .int .i64 r_4.Num.B, .int .i64 r_4.Num.C, .int .i64 r_4.Num.D, .int .i64 r_4.Exp], 5⟩, ⟨some ⟨b3, 0, none⟩, 116, [.int .i64 r_6.Num.A, .int .i64 r_6.Num.B, .int .i64 r_6.Num.C, .int .i64 r_6.Num.D, .int .i64 r_6.Exp], 5⟩] [⟨B, [.int .i64 p.Rows, .int .i64 p.Cols, .slice B1 p.Cells.length c]⟩, ⟨B1, (p.Cells.flatMap enc_Dyadic)⟩, ⟨B2, [.int .i64 p1.Rows, .int .i64 p1.Cols, .slice B3 p1.Cells.length c1]⟩, ⟨B3, (p1.Cells.flatMap enc_Dyadic)⟩] := hS29
    refine sq 13 rfl rfl (Y_assign (v := .bool r_7) rfl rfl) ?_
    refine rw_nil ?_
    refine cw_seq ?_
    refine cw_seq ?_
    refine cw_region ?_
    refine sq 38 rfl rfl (Y_move (v := .bool r_5) rfl (hf1.get 11 7 rfl)) ?_
    refine sq 39 rfl rfl (Y_not (p := r_5) rfl rfl) ?_
    refine sq 40 rfl rfl (Y_move (v := .bool (!r_5)) rfl rfl) ?_
    refine sgq 41 (B := (!(!r_5))) (v := .bool r_7) rfl rfl (wt_f (gd_of (t := 40) (by kernel_rfl) rfl)) (fun hg => (Y_move (v := .bool r_7) rfl rfl)) ?_
    refine sgq 42 (B := (!(!r_5))) (v := .bool (!r_7)) rfl rfl (wt_f (gd_of (t := 40) (by kernel_rfl) rfl)) (fun hg1 => (Y_not (p := r_7) rfl (gv_of (B := (!(!r_5))) (v := .bool r_7) hg1))) ?_
    refine sq 43 rfl rfl (Y_or (b := (!r_5)) (z := (!r_7)) rfl rfl rfl rfl) ?_
    refine rw_nil ?_
    refine cw_cond (b := ((!r_5) || (!r_7))) rfl (fun hb1 => ?_) (fun hb1 => ?_)
    · skip
      have hF2 := ct hb hb1
      refine cw_seq ?_
      refine cw_region ?_
      refine sq 44 rfl rfl (Y_buildS (zs := [.int .i64 0, .int .i64 0, .int .i64 0, .int .i64 0, .int .i64 0]) (vs := []) (cs := [.int .i64 0, .int .i64 0, .int .i64 0, .int .i64 0, .int .i64 0]) k_pl_116 k_zero_116 rfl mpn rfl) ?_
      refine ss0 rfl rfl (Ys_store (i := 0) (s := 5) (B := some ⟨b, 0, none⟩) (T' := 116) (v := .agg #[.int .i64 0, .int .i64 0, .int .i64 0, .int .i64 0, .int .i64 0]) (vs := [.int .i64 0, .int .i64 0, .int .i64 0, .int .i64 0, .int .i64 0]) (k := 0) (cs' := [.int .i64 0, .int .i64 0, .int .i64 0, .int .i64 0, .int .i64 0]) hS29 k_sz_116_5 rfl (hf1.get 6 4 rfl) rfl rfl rfl rfl rfl (Nat.le_of_ble_eq_true rfl) rfl rfl) ?_
      rintro _ w_23 ⟨rfl, hS30⟩
      have hS30 : ST w0 [] _ [⟨some ⟨b, 0, none⟩, 116, [.int .i64 0, .int .i64 0, .int .i64 0, .int .i64 0, .int .i64 0], 5⟩, ⟨some ⟨b1, 0, none⟩, 116, [.int .i64 A, .int .i64 B4, .int .i64 C, .int .i64 D, .int .i64 Exp], 5⟩, ⟨B5, 116, [.int .i64 r_4.Num.A, .int .i64 r_4.Num.B, .int .i64 r_4.Num.C, .int .i64 r_4.Num.D, .int .i64 r_4.Exp], 5⟩, ⟨some ⟨b3, 0, none⟩, 116, [.int .i64 r_6.Num.A, .int .i64 r_6.Num.B, .int .i64 r_6.Num.C, .int .i64 r_6.Num.D, .int .i64 r_6.Exp], 5⟩] [⟨B, [.int .i64 p.Rows, .int .i64 p.Cols, .slice B1 p.Cells.length c]⟩, ⟨B1, (p.Cells.flatMap enc_Dyadic)⟩, ⟨B2, [.int .i64 p1.Rows, .int .i64 p1.Cols, .slice B3 p1.Cells.length c1]⟩, ⟨B3, (p1.Cells.flatMap enc_Dyadic)⟩] := hS30
      refine sq 7 rfl rfl (Y_assign (v := .bool false) rfl rfl) ?_
      refine rw_nil ?_
      refine cw_ret ?_
      obtain rfl := some_inj hF2
      obtain rfl := some_inj hL1
      obtain ⟨rfl, rfl⟩ := pr2 (some_inj hF1)
      exact ret2 Try.results133 (v1 := .agg #[.int .i64 0, .int .i64 0, .int .i64 0, .int .i64 0, .int .i64 0]) (resAt_cellA (B := some ⟨b, 0, none⟩) (i := 0) (cs := [.int .i64 0, .int .i64 0, .int .i64 0, .int .i64 0, .int .i64 0]) (vs := [.int .i64 0, .int .i64 0, .int .i64 0, .int .i64 0, .int .i64 0]) (hf1.get 6 4 rfl) k_ag_116 k_sz_116_5 (hS30.cf (i := 0) rfl) rfl rfl) (v2 := .bool false) (resAt_tmp rfl) ⟨rfl, (ST.subR (R' := []) (hS30.sel [] rfl rfl) (fun _ h => by cases h))⟩
    · skip
      have hF3 := cf' hb hb1
      refine cw_skip ?_
      refine cw_region ?_
      refine sq 45 rfl rfl (Y_loadA (B := some ⟨b3, 0, none⟩) (i := 0) (cs := [.int .i64 r_6.Num.A, .int .i64 r_6.Num.B, .int .i64 r_6.Num.C, .int .i64 r_6.Num.D, .int .i64 r_6.Exp]) (vs := [.int .i64 r_6.Num.A, .int .i64 r_6.Num.B, .int .i64 r_6.Num.C, .int .i64 r_6.Num.D, .int .i64 r_6.Exp]) k_ag_116 k_sz_116_5 rfl rfl (hS29.cf (i := 3) rfl) rfl rfl) ?_
      refine ss0 rfl rfl (Ys_store (i := 1) (s := 5) (B := some ⟨b1, 0, none⟩) (T' := 116) (v := .agg #[.int .i64 r_6.Num.A, .int .i64 r_6.Num.B, .int .i64 r_6.Num.C, .int .i64 r_6.Num.D, .int .i64 r_6.Exp]) (vs := [.int .i64 r_6.Num.A, .int .i64 r_6.Num.B, .int .i64 r_6.Num.C, .int .i64 r_6.Num.D, .int .i64 r_6.Exp]) (k := 0) (cs' := [.int .i64 r_6.Num.A, .int .i64 r_6.Num.B, .int .i64 r_6.Num.C, .int .i64 r_6.Num.D, .int .i64 r_6.Exp]) hS29 k_sz_116_5 rfl (hf1.get 8 5 rfl) rfl rfl rfl rfl rfl (Nat.le_of_ble_eq_true rfl) rfl rfl) ?_
      rintro _ w_24 ⟨rfl, hS31⟩
      have hS31 : ST w0 [] _ [⟨some ⟨b, 0, none⟩, 116, [.int .i64 0, .int .i64 0, .int .i64 0, .int .i64 0, .int .i64 0], 5⟩, ⟨some ⟨b1, 0, none⟩, 116, [.int .i64 r_6.Num.A, .int .i64 r_6.Num.B, .int .i64 r_6.Num.C, .int .i64 r_6.Num.D, .int .i64 r_6.Exp], 5⟩, ⟨B5, 116, [.int .i64 r_4.Num.A, .int .i64 r_4.Num.B, .int .i64 r_4.Num.C, .int .i64 r_4.Num.D, .int .i64 r_4.Exp], 5⟩, ⟨some ⟨b3, 0, none⟩, 116, [.int .i64 r_6.Num.A, .int .i64 r_6.Num.B, .int .i64 r_6.Num.C, .int .i64 r_6.Num.D, .int .i64 r_6.Exp], 5⟩] [⟨B, [.int .i64 p.Rows, .int .i64 p.Cols, .slice B1 p.Cells.length c]⟩, ⟨B1, (p.Cells.flatMap enc_Dyadic)⟩, ⟨B2, [.int .i64 p1.Rows, .int .i64 p1.Cols, .slice B3 p1.Cells.length c1]⟩, ⟨B3, (p1.Cells.flatMap enc_Dyadic)⟩] := hS31
      refine rw_nil ?_
      refine cw_region ?_
      refine sq 46 rfl rfl (Y_add (k := .i64) (a := (i1 : Int)) (b := 1) rfl (hf1.get 17 9 rfl) rfl) ?_
      refine sq 17 rfl rfl (Y_move (v := .int .i64 (IntKind.i64.wrap ((i1 : Int) + 1))) rfl rfl) ?_
      refine rw_nil ?_
      obtain rfl := some_inj hF3
      exact ⟨k_1, Nat.lt_succ_self _, i1 + 1, r_6.Num.A, r_6.Num.B, r_6.Num.C, r_6.Num.D, r_6.Exp, (FF.cons (hf1.get 0 0 rfl) (FF.cons (hf1.get 1 1 rfl) (FF.cons (hf1.get 2 2 rfl) (FF.cons (hf1.get 3 3 rfl) (FF.cons (hf1.get 6 4 rfl) (FF.cons (hf1.get 8 5 rfl) (FF.cons (hf1.get 16 8 rfl) (FF.cons (congrArg (Value.int .i64) (wr_succ hlt1 hN)) FF.nil)))))))), (hS31.sel [0, 1] rfl rfl), (by omega), hL1⟩
  · skip
    obtain rfl : k_ = 0 := by have h := of_decide_eq_false hlt; omega
    refine cw_exit rfl ?_
    obtain rfl := some_inj hL
    refine cw_seq ?_
    refine cw_region ?_
    refine sq 47 rfl rfl (Y_loadA (B := some ⟨b1, 0, none⟩) (i := 0) (cs := [.int .i64 A, .int .i64 B4, .int .i64 C, .int .i64 D, .int .i64 Exp]) (vs := [.int .i64 A, .int .i64 B4, .int .i64 C, .int .i64 D, .int .i64 Exp]) k_ag_116 k_sz_116_5 rfl (hf.get 8 5 rfl) (hS4.cf (i := 1) rfl) rfl rfl) ?_
    refine ss0 rfl rfl (Ys_store (i := 0) (s := 5) (B := some ⟨b, 0, none⟩) (T' := 116) (v := .agg #[.int .i64 A, .int .i64 B4, .int .i64 C, .int .i64 D, .int .i64 Exp]) (vs := [.int .i64 A, .int .i64 B4, .int .i64 C, .int .i64 D, .int .i64 Exp]) (k := 0) (cs' := [.int .i64 A, .int .i64 B4, .int .i64 C, .int .i64 D, .int .i64 Exp]) hS4 k_sz_116_5 rfl (hf.get 6 4 rfl) rfl rfl rfl rfl rfl (Nat.le_of_ble_eq_true rfl) rfl rfl) ?_
    rintro _ w_25 ⟨rfl, hS32⟩
    have hS32 : ST w0 [] _ [⟨some ⟨b, 0, none⟩, 116, [.int .i64 A, .int .i64 B4, .int .i64 C, .int .i64 D, .int .i64 Exp], 5⟩, ⟨some ⟨b1, 0, none⟩, 116, [.int .i64 A, .int .i64 B4, .int .i64 C, .int .i64 D, .int .i64 Exp], 5⟩] [⟨B, [.int .i64 p.Rows, .int .i64 p.Cols, .slice B1 p.Cells.length c]⟩, ⟨B1, (p.Cells.flatMap enc_Dyadic)⟩, ⟨B2, [.int .i64 p1.Rows, .int .i64 p1.Cols, .slice B3 p1.Cells.length c1]⟩, ⟨B3, (p1.Cells.flatMap enc_Dyadic)⟩] := hS32
    refine sq 7 rfl rfl (Y_assign (v := .bool true) rfl rfl) ?_
    refine rw_nil ?_
    refine cw_ret ?_
    obtain ⟨rfl, rfl⟩ := pr2 (some_inj hF1)
    exact ret2 Try.results133 (v1 := .agg #[.int .i64 A, .int .i64 B4, .int .i64 C, .int .i64 D, .int .i64 Exp]) (resAt_cellA (B := some ⟨b, 0, none⟩) (i := 0) (cs := [.int .i64 A, .int .i64 B4, .int .i64 C, .int .i64 D, .int .i64 Exp]) (vs := [.int .i64 A, .int .i64 B4, .int .i64 C, .int .i64 D, .int .i64 Exp]) (hf.get 6 4 rfl) k_ag_116 k_sz_116_5 (hS32.cf (i := 0) rfl) rfl rfl) (v2 := .bool true) (resAt_tmp rfl) ⟨rfl, (ST.subR (R' := []) (hS32.sel [] rfl rfl) (fun _ h => by cases h))⟩

theorem c_impl_MulMatrix (a : TMatrix) (b : TMatrix) (B : Option Addr) (c n : Nat) (B1 : Option Addr) (c1 n1 : Nat) (w0 : World) (hn : a.Cells.length = n) (hn1 : b.Cells.length = n1) (hS : ST w0 [] w0 [] [⟨B, (a.Cells.flatMap enc_Dyadic)⟩, ⟨B1, (b.Cells.flatMap enc_Dyadic)⟩]) {r_ : TMatrix} {r_1 : Bool} (hF : F_impl_MulMatrix a b = some (r_, r_1)) :
    CV Try.prog 89 #[.agg #[.int .i64 a.Rows, .int .i64 a.Cols, .slice B n c], .agg #[.int .i64 b.Rows, .int .i64 b.Cols, .slice B1 n1 c1]] w0 (fun v w' => ∃ (B2 : Option Addr) (c2 : Nat), v = .tuple #[.agg #[.int .i64 r_.Rows, .int .i64 r_.Cols, .slice B2 r_.Cells.length c2], .bool r_1] ∧ ST w0 [] w' [⟨B2, 116, (r_.Cells.flatMap enc_Dyadic), c2 * 5⟩] []) := by
  subst hn
  subst hn1
  unfold F_impl_MulMatrix at hF
  refine cv_of_cw 30 Try.func89 rfl Try.ntmps89 rfl ?_
  refine cw_seq ?_
  refine cw_region ?_
  refine ss 2 rfl rfl (Ys_box (T := 28) (v := .agg #[.int .i64 a.Rows, .int .i64 a.Cols, .slice B a.Cells.length c]) (cs := [.int .i64 a.Rows, .int .i64 a.Cols, .slice B a.Cells.length c]) (m := 3) hS rfl rfl rfl rfl) ?_
  rintro _ w_ ⟨b1, rfl, hS1⟩
  refine ss 3 rfl rfl (Ys_box (T := 28) (v := .agg #[.int .i64 b.Rows, .int .i64 b.Cols, .slice B1 b.Cells.length c1]) (cs := [.int .i64 b.Rows, .int .i64 b.Cols, .slice B1 b.Cells.length c1]) (m := 3) hS1 rfl rfl rfl rfl) ?_
  rintro _ w_1 ⟨b2, rfl, hS2⟩
  have hS2 : ST w0 [] _ [⟨some ⟨b1, 0, none⟩, 28, [.int .i64 a.Rows, .int .i64 a.Cols, .slice B a.Cells.length c], 3⟩, ⟨some ⟨b2, 0, none⟩, 28, [.int .i64 b.Rows, .int .i64 b.Cols, .slice B1 b.Cells.length c1], 3⟩] [⟨B, (a.Cells.flatMap enc_Dyadic)⟩, ⟨B1, (b.Cells.flatMap enc_Dyadic)⟩] := hS2
  refine ss 4 rfl rfl (Ys_alloc (T := 28) (cs := [.int .i64 0, .int .i64 0, .slice none 0 0]) (m := 3) hS2 k_zero_28 rfl rfl rfl) ?_
  rintro _ w_2 ⟨b3, rfl, hS3⟩
  have hS3 : ST w0 [] _ [⟨some ⟨b1, 0, none⟩, 28, [.int .i64 a.Rows, .int .i64 a.Cols, .slice B a.Cells.length c], 3⟩, ⟨some ⟨b2, 0, none⟩, 28, [.int .i64 b.Rows, .int .i64 b.Cols, .slice B1 b.Cells.length c1], 3⟩, ⟨some ⟨b3, 0, none⟩, 28, [.int .i64 0, .int .i64 0, .slice none 0 0], 3⟩] [⟨B, (a.Cells.flatMap enc_Dyadic)⟩, ⟨B1, (b.Cells.flatMap enc_Dyadic)⟩] := hS3
  refine sq 5 rfl rfl (Y_assign (v := .bool false) rfl rfl) ?_
  refine rw_nil ?_
  refine cw_seq ?_
  refine cw_seq ?_
  refine cw_region ?_
  refine sq 6 rfl rfl (Y_loadA (B := some ⟨b1, 0, none⟩) (i := 0) (cs := [.int .i64 a.Rows, .int .i64 a.Cols, .slice B a.Cells.length c]) (vs := [.int .i64 a.Rows, .int .i64 a.Cols, .slice B a.Cells.length c]) k_ag_28 k_sz_28_3 rfl rfl (hS3.cf (i := 0) rfl) rfl rfl) ?_
  obtain ⟨r_2, hc, hF⟩ := bind_inv hF
  refine sc 7 rfl rfl (Yc_func (g := 85) (vs := [.agg #[.int .i64 a.Rows, .int .i64 a.Cols, .slice B a.Cells.length c]]) k_call_85 rfl (mc rfl mn) (c_impl_IsValidMatrix a B c a.Cells.length _ rfl (hS3.inn0 [(true, 0)] rfl) hc)) ?_
  rintro _ w_3 ⟨rfl, hd⟩
  have hS4 := hS3.out00 hd
  have hS4 : ST w0 [] _ [⟨some ⟨b1, 0, none⟩, 28, [.int .i64 a.Rows, .int .i64 a.Cols, .slice B a.Cells.length c], 3⟩, ⟨some ⟨b2, 0, none⟩, 28, [.int .i64 b.Rows, .int .i64 b.Cols, .slice B1 b.Cells.length c1], 3⟩, ⟨some ⟨b3, 0, none⟩, 28, [.int .i64 0, .int .i64 0, .slice none 0 0], 3⟩] [⟨B, (a.Cells.flatMap enc_Dyadic)⟩, ⟨B1, (b.Cells.flatMap enc_Dyadic)⟩] := hS4
  refine sq 8 rfl rfl (Y_not (p := r_2) rfl rfl) ?_
  refine sq 9 rfl rfl (Y_move (v := .bool (!r_2)) rfl rfl) ?_
  refine sgq 10 (B := (!(!r_2))) (v := .agg #[.int .i64 b.Rows, .int .i64 b.Cols, .slice B1 b.Cells.length c1]) rfl rfl (wt_f (gd_of (t := 9) (by kernel_rfl) rfl)) (fun hg => (Y_loadA (B := some ⟨b2, 0, none⟩) (i := 0) (cs := [.int .i64 b.Rows, .int .i64 b.Cols, .slice B1 b.Cells.length c1]) (vs := [.int .i64 b.Rows, .int .i64 b.Cols, .slice B1 b.Cells.length c1]) k_ag_28 k_sz_28_3 rfl rfl (hS4.cf (i := 1) rfl) rfl rfl)) ?_
  obtain ⟨r_3, hc1, hF⟩ := bind_inv hF
  refine sgc 11 (B := (!(!r_2))) (v := .bool r_3) (F := hS4.fn) rfl rfl (wt_f (gd_of (t := 9) (by kernel_rfl) rfl)) hS4 (fun hg1 => (Yc_func (g := 85) (vs := [.agg #[.int .i64 b.Rows, .int .i64 b.Cols, .slice B1 b.Cells.length c1]]) k_call_85 rfl (mc (gv_of (B := (!(!r_2))) (v := .agg #[.int .i64 b.Rows, .int .i64 b.Cols, .slice B1 b.Cells.length c1]) hg1) mn) (CV.mono (c_impl_IsValidMatrix b B1 c1 b.Cells.length _ rfl (hS4.inn0 [(true, 1)] rfl) (gb_inv hc1 hg1)) (by rintro _ _ ⟨rfl, h⟩; exact ⟨rfl, hS4.out00 h⟩)))) ?_
  rintro w_4 hS5
  have hS5 : ST _ _ w_4 _ _ := hS5
  refine sgq 12 (B := (!(!r_2))) (v := .bool (!r_3)) rfl rfl (wt_f (gd_of (t := 9) (by kernel_rfl) rfl)) (fun hg2 => (Y_not (p := r_3) rfl (gv_of (B := (!(!r_2))) (v := .bool r_3) hg2))) ?_
  refine sq 13 rfl rfl (Y_or (b := (!r_2)) (z := (!r_3)) rfl rfl rfl rfl) ?_
  refine sq 14 rfl rfl (Y_move (v := .bool ((!r_2) || (!r_3))) rfl rfl) ?_
  refine sgq 15 (B := (!((!r_2) || (!r_3)))) (v := pt (some ⟨b1, 0, none⟩) 1) rfl rfl (wt_f (gd_of (t := 14) (by kernel_rfl) rfl)) (fun hg3 => (Y_fieldAddr (B := some ⟨b1, 0, none⟩) (i := 0) (s := 0) k_fd_28_1_1_3 k_sz_3_1 rfl rfl)) ?_
  refine sgq 16 (B := (!((!r_2) || (!r_3)))) (v := .int .i64 a.Cols) rfl rfl (wt_f (gd_of (t := 14) (by kernel_rfl) rfl)) (fun hg4 => (Y_load1 (B := some ⟨b1, 0, none⟩) (i := 1) (cs := [.int .i64 a.Rows, .int .i64 a.Cols, .slice B a.Cells.length c]) (v := .int .i64 a.Cols) k_sc_3 rfl (gv_of (B := (!((!r_2) || (!r_3)))) (v := pt (some ⟨b1, 0, none⟩) 1) hg4) (hS5.cf (i := 0) rfl) rfl)) ?_
  refine sgq 17 (B := (!((!r_2) || (!r_3)))) (v := pt (some ⟨b2, 0, none⟩) 0) rfl rfl (wt_f (gd_of (t := 14) (by kernel_rfl) rfl)) (fun hg5 => (Y_fieldAddr (B := some ⟨b2, 0, none⟩) (i := 0) (s := 0) k_fd_28_0_0_3 k_sz_3_1 rfl rfl)) ?_
  refine sgq 18 (B := (!((!r_2) || (!r_3)))) (v := .int .i64 b.Rows) rfl rfl (wt_f (gd_of (t := 14) (by kernel_rfl) rfl)) (fun hg6 => (Y_load1 (B := some ⟨b2, 0, none⟩) (i := 0) (cs := [.int .i64 b.Rows, .int .i64 b.Cols, .slice B1 b.Cells.length c1]) (v := .int .i64 b.Rows) k_sc_3 rfl (gv_of (B := (!((!r_2) || (!r_3)))) (v := pt (some ⟨b2, 0, none⟩) 0) hg6) (hS5.cf (i := 1) rfl) rfl)) ?_
  refine sgq 19 (B := (!((!r_2) || (!r_3)))) (v := .bool (a.Cols != b.Rows)) rfl rfl (wt_f (gd_of (t := 14) (by kernel_rfl) rfl)) (fun hg7 => (Y_ne (k := .i64) (a := a.Cols) (b := b.Rows) rfl (gv_of (B := (!((!r_2) || (!r_3)))) (v := .int .i64 a.Cols) hg7) (gv_of (B := (!((!r_2) || (!r_3)))) (v := .int .i64 b.Rows) hg7))) ?_
  refine sq 20 rfl rfl (Y_or (b := ((!r_2) || (!r_3))) (z := (a.Cols != b.Rows)) rfl rfl rfl rfl) ?_
  refine rw_nil ?_
  refine cw_cond (b := (((!r_2) || (!r_3)) || (a.Cols != b.Rows))) rfl (fun hb => ?_) (fun hb => ?_)
  · skip
    have hF1 := ct hF hb
    refine cw_seq ?_
    refine cw_region ?_
    refine sq 21 rfl rfl (Y_buildS (zs := [.int .i64 0, .int .i64 0, .slice none 0 0]) (vs := []) (cs := [.int .i64 0, .int .i64 0, .slice none 0 0]) k_pl_28 k_zero_28 rfl mpn rfl) ?_
    refine ss0 rfl rfl (Ys_store (i := 2) (s := 3) (B := some ⟨b3, 0, none⟩) (T' := 28) (v := .agg #[.int .i64 0, .int .i64 0, .slice none 0 0]) (vs := [.int .i64 0, .int .i64 0, .slice none 0 0]) (k := 0) (cs' := [.int .i64 0, .int .i64 0, .slice none 0 0]) hS5 k_sz_28_3 rfl rfl rfl rfl rfl rfl rfl (Nat.le_of_ble_eq_true rfl) rfl rfl) ?_
    rintro _ w_5 ⟨rfl, hS6⟩
    have hS6 : ST w0 [] _ [⟨some ⟨b1, 0, none⟩, 28, [.int .i64 a.Rows, .int .i64 a.Cols, .slice B a.Cells.length c], 3⟩, ⟨some ⟨b2, 0, none⟩, 28, [.int .i64 b.Rows, .int .i64 b.Cols, .slice B1 b.Cells.length c1], 3⟩, ⟨some ⟨b3, 0, none⟩, 28, [.int .i64 0, .int .i64 0, .slice none 0 0], 3⟩] [⟨B, (a.Cells.flatMap enc_Dyadic)⟩, ⟨B1, (b.Cells.flatMap enc_Dyadic)⟩] := hS6
    refine sq 5 rfl rfl (Y_assign (v := .bool false) rfl rfl) ?_
    refine rw_nil ?_
    refine cw_ret ?_
    have hS7 := hS6.addNil 116
    obtain ⟨rfl, rfl⟩ := pr2 (some_inj hF1)
    exact ret2 Try.results89 (v1 := .agg #[.int .i64 0, .int .i64 0, .slice none 0 0]) (resAt_cellA (B := some ⟨b3, 0, none⟩) (i := 0) (cs := [.int .i64 0, .int .i64 0, .slice none 0 0]) (vs := [.int .i64 0, .int .i64 0, .slice none 0 0]) rfl k_ag_28 k_sz_28_3 (hS7.cf (i := 2) rfl) rfl rfl) (v2 := .bool false) (resAt_tmp rfl) ⟨none, 0, rfl, (ST.subR (R' := []) (hS7.sel [3] rfl rfl) (fun _ h => by cases h))⟩
  · skip
    have hF2 := cf' hF hb
    refine cw_skip ?_
    refine cw_seq ?_
    refine cw_region ?_
    refine sq 22 rfl rfl (Y_fieldAddr (B := some ⟨b1, 0, none⟩) (i := 0) (s := 0) k_fd_28_0_0_3 k_sz_3_1 rfl rfl) ?_
    refine sq 23 rfl rfl (Y_load1 (B := some ⟨b1, 0, none⟩) (i := 0) (cs := [.int .i64 a.Rows, .int .i64 a.Cols, .slice B a.Cells.length c]) (v := .int .i64 a.Rows) k_sc_3 rfl rfl (hS5.cf (i := 0) rfl) rfl) ?_
    refine sq 24 rfl rfl (Y_fieldAddr (B := some ⟨b2, 0, none⟩) (i := 0) (s := 0) k_fd_28_1_1_3 k_sz_3_1 rfl rfl) ?_
    refine sq 25 rfl rfl (Y_load1 (B := some ⟨b2, 0, none⟩) (i := 1) (cs := [.int .i64 b.Rows, .int .i64 b.Cols, .slice B1 b.Cells.length c1]) (v := .int .i64 b.Cols) k_sc_3 rfl rfl (hS5.cf (i := 1) rfl) rfl) ?_
    refine sq 26 rfl rfl (Y_makeFunc (cs := [pt (some ⟨b1, 0, none⟩) 0, pt (some ⟨b2, 0, none⟩) 0]) rfl rfl (mc rfl (mc rfl mn))) ?_
    obtain ⟨⟨r_4, r_5⟩, hc2, hF2⟩ := bind_inv hF2
    refine sc 27 rfl rfl (Yc_func (g := 82) (vs := [.int .i64 a.Rows, .int .i64 b.Cols, .func (.func 133) #[] #[pt (some ⟨b1, 0, none⟩) 0, pt (some ⟨b2, 0, none⟩) 0]]) k_call_82 rfl (mc rfl (mc rfl (mc rfl mn))) (c_impl_matrixOf a.Rows b.Cols (fun x_0 x_1 => F_impl_MulMatrix_1 x_0 x_1 a b) 133 (#[pt (some ⟨b1, 0, none⟩) 0, pt (some ⟨b2, 0, none⟩) 0]) [⟨some ⟨b1, 0, none⟩, [.int .i64 a.Rows, .int .i64 a.Cols, .slice B a.Cells.length c]⟩, ⟨B, (a.Cells.flatMap enc_Dyadic)⟩, ⟨some ⟨b2, 0, none⟩, [.int .i64 b.Rows, .int .i64 b.Cols, .slice B1 b.Cells.length c1]⟩, ⟨B1, (b.Cells.flatMap enc_Dyadic)⟩] _ k_call_133 (fun w hw x_0 x_1 y_0 y_1 h_ => c_impl_MulMatrix_1 x_0 x_1 a b (some ⟨b1, 0, none⟩) B c a.Cells.length (some ⟨b2, 0, none⟩) B1 c1 b.Cells.length w rfl rfl hw h_) (hS5.inn0 [(false, 0), (true, 0), (false, 1), (true, 1)] rfl) hc2)) ?_
    rintro _ w_6 ⟨B3, c3, rfl, hd1⟩
    have hS8 := hS5.out0 hd1
    have hS8 : ST w0 [] _ [⟨some ⟨b1, 0, none⟩, 28, [.int .i64 a.Rows, .int .i64 a.Cols, .slice B a.Cells.length c], 3⟩, ⟨some ⟨b2, 0, none⟩, 28, [.int .i64 b.Rows, .int .i64 b.Cols, .slice B1 b.Cells.length c1], 3⟩, ⟨some ⟨b3, 0, none⟩, 28, [.int .i64 0, .int .i64 0, .slice none 0 0], 3⟩, ⟨B3, 116, (r_4.Cells.flatMap enc_Dyadic), c3 * 5⟩] [⟨B, (a.Cells.flatMap enc_Dyadic)⟩, ⟨B1, (b.Cells.flatMap enc_Dyadic)⟩] := hS8
    refine sq 28 rfl rfl (Y_extract (v := .agg #[.int .i64 r_4.Rows, .int .i64 r_4.Cols, .slice B3 r_4.Cells.length c3]) rfl rfl rfl) ?_
    refine sq 29 rfl rfl (Y_extract (v := .bool r_5) rfl rfl rfl) ?_
    refine ss0 rfl rfl (Ys_store (i := 2) (s := 3) (B := some ⟨b3, 0, none⟩) (T' := 28) (v := .agg #[.int .i64 r_4.Rows, .int .i64 r_4.Cols, .slice B3 r_4.Cells.length c3]) (vs := [.int .i64 r_4.Rows, .int .i64 r_4.Cols, .slice B3 r_4.Cells.length c3]) (k := 0) (cs' := [.int .i64 r_4.Rows, .int .i64 r_4.Cols, .slice B3 r_4.Cells.length c3]) hS8 k_sz_28_3 rfl rfl rfl rfl rfl rfl rfl (Nat.le_of_ble_eq_true rfl) rfl rfl) ?_
    rintro _ w_7 ⟨rfl, hS9⟩
    have hS9 : ST w0 [] _ [⟨some ⟨b1, 0, none⟩, 28, [.int .i64 a.Rows, .int .i64 a.Cols, .slice B a.Cells.length c], 3⟩, ⟨some ⟨b2, 0, none⟩, 28, [.int .i64 b.Rows, .int .i64 b.Cols, .slice B1 b.Cells.length c1], 3⟩, ⟨some ⟨b3, 0, none⟩, 28, [.int .i64 r_4.Rows, .int .i64 r_4.Cols, .slice B3 r_4.Cells.length c3], 3⟩, ⟨B3, 116, (r_4.Cells.flatMap enc_Dyadic), c3 * 5⟩] [⟨B, (a.Cells.flatMap enc_Dyadic)⟩, ⟨B1, (b.Cells.flatMap enc_Dyadic)⟩] := hS9
    refine sq 5 rfl rfl (Y_assign (v := .bool r_5) rfl rfl) ?_
    refine rw_nil ?_
    refine cw_ret ?_
    obtain ⟨rfl, rfl⟩ := pr2 (some_inj hF2)
    exact ret2 Try.results89 (v1 := .agg #[.int .i64 r_4.Rows, .int .i64 r_4.Cols, .slice B3 r_4.Cells.length c3]) (resAt_cellA (B := some ⟨b3, 0, none⟩) (i := 0) (cs := [.int .i64 r_4.Rows, .int .i64 r_4.Cols, .slice B3 r_4.Cells.length c3]) (vs := [.int .i64 r_4.Rows, .int .i64 r_4.Cols, .slice B3 r_4.Cells.length c3]) rfl k_ag_28 k_sz_28_3 (hS9.cf (i := 2) rfl) rfl rfl) (v2 := .bool r_5) (resAt_tmp rfl) ⟨B3, c3, rfl, (ST.subR (R' := []) (hS9.sel [3] rfl rfl) (fun _ h => by cases h))⟩

theorem c_impl_applied (c : TCircuit) (m : TMatrix) (ok : Bool) (B : Option Addr) (c1 n : Nat) (B1 : Option Addr) (c2 n1 : Nat) (w0 : World) (hn : c.Gates.length = n) (hn1 : m.Cells.length = n1) (hS : ST w0 (bl [⟨B1, 116, (m.Cells.flatMap enc_Dyadic), c2 * 5⟩]) w0 [⟨B1, 116, (m.Cells.flatMap enc_Dyadic), c2 * 5⟩] [⟨B, (c.Gates.flatMap enc_Gate)⟩]) {r_ : TMatrix} {r_1 : Bool} (hF : F_impl_applied c m ok = some (r_, r_1)) :
    CV Try.prog 39 #[.agg #[.int .i64 c.Qubits, .slice B n c1], .agg #[.int .i64 m.Rows, .int .i64 m.Cols, .slice B1 n1 c2], .bool ok] w0 (fun v w' => ∃ (B2 : Option Addr) (c3 : Nat), v = .tuple #[.agg #[.int .i64 r_.Rows, .int .i64 r_.Cols, .slice B2 r_.Cells.length c3], .bool r_1] ∧ ST w0 (bl [⟨B1, 116, (m.Cells.flatMap enc_Dyadic), c2 * 5⟩]) w' [⟨B2, 116, (r_.Cells.flatMap enc_Dyadic), c3 * 5⟩] []) := by
  subst hn
  subst hn1
  unfold F_impl_applied at hF
  refine cv_of_cw 40 Try.func39 rfl Try.ntmps39 rfl ?_
  refine cw_seq ?_
  refine cw_region ?_
  refine ss 3 rfl rfl (Ys_box (T := 33) (v := .agg #[.int .i64 c.Qubits, .slice B c.Gates.length c1]) (cs := [.int .i64 c.Qubits, .slice B c.Gates.length c1]) (m := 2) hS rfl rfl rfl rfl) ?_
  rintro _ w_ ⟨b, rfl, hS1⟩
  have hS1 : ST w0 (bl [⟨B1, 116, (m.Cells.flatMap enc_Dyadic), c2 * 5⟩]) _ [⟨B1, 116, (m.Cells.flatMap enc_Dyadic), c2 * 5⟩, ⟨some ⟨b, 0, none⟩, 33, [.int .i64 c.Qubits, .slice B c.Gates.length c1], 2⟩] [⟨B, (c.Gates.flatMap enc_Gate)⟩] := hS1
  refine ss 4 rfl rfl (Ys_box (T := 28) (v := .agg #[.int .i64 m.Rows, .int .i64 m.Cols, .slice B1 m.Cells.length c2]) (cs := [.int .i64 m.Rows, .int .i64 m.Cols, .slice B1 m.Cells.length c2]) (m := 3) hS1 rfl rfl rfl rfl) ?_
  rintro _ w_1 ⟨b1, rfl, hS2⟩
  have hS2 : ST w0 (bl [⟨B1, 116, (m.Cells.flatMap enc_Dyadic), c2 * 5⟩]) _ [⟨B1, 116, (m.Cells.flatMap enc_Dyadic), c2 * 5⟩, ⟨some ⟨b, 0, none⟩, 33, [.int .i64 c.Qubits, .slice B c.Gates.length c1], 2⟩, ⟨some ⟨b1, 0, none⟩, 28, [.int .i64 m.Rows, .int .i64 m.Cols, .slice B1 m.Cells.length c2], 3⟩] [⟨B, (c.Gates.flatMap enc_Gate)⟩] := hS2
  refine ss 6 rfl rfl (Ys_alloc (T := 28) (cs := [.int .i64 0, .int .i64 0, .slice none 0 0]) (m := 3) hS2 k_zero_28 rfl rfl rfl) ?_
  rintro _ w_2 ⟨b2, rfl, hS3⟩
  have hS3 : ST w0 (bl [⟨B1, 116, (m.Cells.flatMap enc_Dyadic), c2 * 5⟩]) _ [⟨B1, 116, (m.Cells.flatMap enc_Dyadic), c2 * 5⟩, ⟨some ⟨b, 0, none⟩, 33, [.int .i64 c.Qubits, .slice B c.Gates.length c1], 2⟩, ⟨some ⟨b1, 0, none⟩, 28, [.int .i64 m.Rows, .int .i64 m.Cols, .slice B1 m.Cells.length c2], 3⟩, ⟨some ⟨b2, 0, none⟩, 28, [.int .i64 0, .int .i64 0, .slice none 0 0], 3⟩] [⟨B, (c.Gates.flatMap enc_Gate)⟩] := hS3
  refine sq 7 rfl rfl (Y_assign (v := .bool false) rfl rfl) ?_
  refine rw_nil ?_
  refine cw_seq ?_
  refine cw_seq ?_
  refine cw_region ?_
  refine sq 8 rfl rfl (Y_assign (v := .int .i64 0) rfl rfl) ?_
  refine rw_nil ?_
  obtain ⟨z, hz, hF1⟩ := bind_inv hF
  refine cw_block ?_
  refine cw_loop (fun k f w => ∃ (ok1 : Bool) (Rows : Int) (Cols : Int) (Cells : List TDyadic) (i : Int) (B3 : Option Addr) (c4 : Nat), FF f [(2, .bool ok1), (3, pt (some ⟨b, 0, none⟩) 0), (4, pt (some ⟨b1, 0, none⟩) 0), (6, pt (some ⟨b2, 0, none⟩) 0), (8, .int .i64 i)] ∧ ST w0 (bl [⟨B1, 116, (m.Cells.flatMap enc_Dyadic), c2 * 5⟩]) w [⟨some ⟨b, 0, none⟩, 33, [.int .i64 c.Qubits, .slice B c.Gates.length c1], 2⟩, ⟨some ⟨b1, 0, none⟩, 28, [.int .i64 Rows, .int .i64 Cols, .slice B3 Cells.length c4], 3⟩, ⟨B3, 116, (Cells.flatMap enc_Dyadic), c4 * 5⟩, ⟨some ⟨b2, 0, none⟩, 28, [.int .i64 0, .int .i64 0, .slice none 0 0], 3⟩] [⟨B, (c.Gates.flatMap enc_Gate)⟩] ∧ whX (F_impl_applied_l1 c) k (ok1, Rows, Cols, Cells, i) = some z) fuel ⟨ok, m.Rows, m.Cols, m.Cells, 0, B1, c2, (FF.cons rfl (FF.cons rfl (FF.cons rfl (FF.cons rfl (FF.cons rfl FF.nil))))), (hS3.sel [1, 2, 0, 3] rfl rfl), hz⟩ ?_
  rintro k_ f w ⟨ok1, Rows, Cols, Cells, i, B3, c4, hf, hS4, hL⟩
  obtain ⟨k_1, y, rfl, hb, hL1⟩ := whX_go hL
  unfold F_impl_applied_l1 at hb
  refine cw_seq ?_
  refine cw_seq ?_
  refine cw_region ?_
  refine sq 11 rfl rfl (Y_move (v := .int .i64 i) rfl (hf.get 8 4 rfl)) ?_
  refine sq 12 rfl rfl (Y_fieldAddr (B := some ⟨b, 0, none⟩) (i := 0) (s := 0) k_fd_33_1_1_31 k_sz_31_1 rfl (hf.get 3 1 rfl)) ?_
  refine sq 13 rfl rfl (Y_load1 (B := some ⟨b, 0, none⟩) (i := 1) (cs := [.int .i64 c.Qubits, .slice B c.Gates.length c1]) (v := .slice B c.Gates.length c1) k_sc_31 rfl rfl (hS4.cf (i := 0) rfl) rfl) ?_
  refine sq 14 rfl rfl (Y_len (B := B) (m := c.Gates.length) (c := c1) k_sl_31_109 rfl rfl) ?_
  refine sq 15 rfl rfl (Y_lt (k := .i64) (a := i) (b := (c.Gates.length : Int)) rfl rfl rfl) ?_
  refine sq 16 rfl rfl (Y_move (v := .bool (decide (i < (c.Gates.length : Int)))) rfl rfl) ?_
  refine sgq 17 (B := (decide (i < (c.Gates.length : Int)))) (v := .bool ok1) rfl rfl (wt_t (gd_of (t := 16) (by kernel_rfl) rfl)) (fun hg => (Y_move (v := .bool ok1) rfl (hf.get 2 0 rfl))) ?_
  refine sq 18 rfl rfl (Y_and (b := (decide (i < (c.Gates.length : Int)))) (z := ok1) rfl rfl rfl rfl) ?_
  refine rw_nil ?_
  refine cw_cond (b := ((decide (i < (c.Gates.length : Int))) && ok1)) rfl (fun hb1 => ?_) (fun hb1 => ?_)
  · skip
    have hF2 := ct hb hb1
    refine cw_skip ?_
    refine cw_seq ?_
    refine cw_block ?_
    refine cw_seq ?_
    obtain ⟨x, hx, hF2⟩ := bind_inv hF2
    obtain ⟨⟨r_2, r_3⟩, hc, hF2⟩ := bind_inv hF2
    refine cw_mid (fun f w => ∃ (B5 : Option Addr) (B6 : Option Addr) (c6 : Nat), FF f [(3, pt (some ⟨b, 0, none⟩) 0), (4, pt (some ⟨b1, 0, none⟩) 0), (6, pt (some ⟨b2, 0, none⟩) 0), (8, .int .i64 i), (9, pt B5 0)] ∧ ST w0 (bl [⟨B1, 116, (m.Cells.flatMap enc_Dyadic), c2 * 5⟩]) w [⟨some ⟨b, 0, none⟩, 33, [.int .i64 c.Qubits, .slice B c.Gates.length c1], 2⟩, ⟨some ⟨b1, 0, none⟩, 28, [.int .i64 Rows, .int .i64 Cols, .slice B3 Cells.length c4], 3⟩, ⟨B3, 116, (Cells.flatMap enc_Dyadic), c4 * 5⟩, ⟨some ⟨b2, 0, none⟩, 28, [.int .i64 0, .int .i64 0, .slice none 0 0], 3⟩, ⟨B5, 28, [.int .i64 r_2.Rows, .int .i64 r_2.Cols, .slice B6 r_2.Cells.length c6], 3⟩, ⟨B6, 116, (r_2.Cells.flatMap enc_Dyadic), c6 * 5⟩] [⟨B, (c.Gates.flatMap enc_Gate)⟩]) ?_ ?_
    · skip
      refine ra_start (ST.sel hS4 [0, 1, 2, 3] rfl rfl).fn (by kernel_rfl) ?_
      have hS7 := hS4.drew
      refine ra_q 0 22 (v := pt (some ⟨b, 0, none⟩) 0) rfl rfl rfl (by kernel_rfl) (by kernel_rfl) (by kernel_rfl) (ST.sel hS7 [0, 1, 2, 3] rfl rfl) (fun w' hw' => (Y_fieldAddr (B := some ⟨b, 0, none⟩) (i := 0) (s := 0) k_fd_33_0_0_3 k_sz_3_1 rfl (hf.get 3 1 rfl))) ?_
      refine ra_q 1 23 (v := .int .i64 c.Qubits) rfl rfl rfl (by kernel_rfl) (by kernel_rfl) (by kernel_rfl) (ST.sel hS7 [0, 1, 2, 3] rfl rfl) (fun w' hw' => (Y_load1 (B := some ⟨b, 0, none⟩) (i := 0) (cs := [.int .i64 c.Qubits, .slice B c.Gates.length c1]) (v := .int .i64 c.Qubits) k_sc_3 rfl rfl (ST.cf hw' (i := 0) rfl) rfl)) ?_
      refine ra_q 2 24 (v := pt (some ⟨b, 0, none⟩) 1) rfl rfl rfl (by kernel_rfl) (by kernel_rfl) (by kernel_rfl) (ST.sel hS7 [0, 1, 2, 3] rfl rfl) (fun w' hw' => (Y_fieldAddr (B := some ⟨b, 0, none⟩) (i := 0) (s := 0) k_fd_33_1_1_31 k_sz_31_1 rfl (hf.get 3 1 rfl))) ?_
      refine ra_q 3 25 (v := .slice B c.Gates.length c1) rfl rfl rfl (by kernel_rfl) (by kernel_rfl) (by kernel_rfl) (ST.sel hS7 [0, 1, 2, 3] rfl rfl) (fun w' hw' => (Y_load1 (B := some ⟨b, 0, none⟩) (i := 1) (cs := [.int .i64 c.Qubits, .slice B c.Gates.length c1]) (v := .slice B c.Gates.length c1) k_sc_31 rfl rfl (ST.cf hw' (i := 0) rfl) rfl)) ?_
      refine ra_q 4 26 (v := .int .i64 i) rfl rfl rfl (by kernel_rfl) (by kernel_rfl) (by kernel_rfl) (ST.sel hS7 [0, 1, 2, 3] rfl rfl) (fun w' hw' => (Y_move (v := .int .i64 i) rfl (hf.get 8 4 rfl))) ?_
      refine ra_q 5 27 (v := pt B (i.toNat * 3)) rfl rfl rfl (by kernel_rfl) (by kernel_rfl) (by kernel_rfl) (ST.sel hS7 [0, 1, 2, 3] rfl rfl) (fun w' hw' => (Y_index (B := B) (m := c.Gates.length) (c := c1) (k := .i64) (i := i) k_sl_31_109 k_sz_109_3 rfl rfl rfl (gi_isSome enc_Gate_len rfl (ST.rf hw' (i := 0) rfl) hx) (getI_nn hx) (getI_ltI hx rfl))) ?_
      refine ra_q 6 28 (v := .agg #[.int .i64 x.Kind, .int .i64 x.A, .int .i64 x.B]) rfl rfl rfl (by kernel_rfl) (by kernel_rfl) (by kernel_rfl) (ST.sel hS7 [0, 1, 2, 3] rfl rfl) (fun w' hw' => (Y_loadA (B := B) (i := i.toNat * 3) (cs := (c.Gates.flatMap enc_Gate)) (vs := [.int .i64 x.Kind, .int .i64 x.A, .int .i64 x.B]) k_ag_109 k_sz_109_3 rfl rfl (ST.rf hw' (i := 0) rfl) (enc_Gate_len x) (gi_seg enc_Gate_len hx))) ?_
      refine ra_all (rs := [7, 11]) (by kernel_rfl) rfl ?_
      refine ra_c 29 (i := 7) rfl rfl rfl (Yc_func (g := 88) (vs := [.int .i64 c.Qubits, .agg #[.int .i64 x.Kind, .int .i64 x.A, .int .i64 x.B]]) k_call_88 rfl (mc rfl (mc rfl mn)) (c_impl_GateMatrix c.Qubits x _  (hS7.inn0 [] rfl) hc)) ?_ ?_
      · rintro _ w_3 ⟨B4, c5, rfl, hd⟩
        have hS8 := hS7.out0 hd
        have hS8 : ST w0 (bl [⟨B1, 116, (m.Cells.flatMap enc_Dyadic), c2 * 5⟩]) _ [⟨some ⟨b, 0, none⟩, 33, [.int .i64 c.Qubits, .slice B c.Gates.length c1], 2⟩, ⟨some ⟨b1, 0, none⟩, 28, [.int .i64 Rows, .int .i64 Cols, .slice B3 Cells.length c4], 3⟩, ⟨B3, 116, (Cells.flatMap enc_Dyadic), c4 * 5⟩, ⟨some ⟨b2, 0, none⟩, 28, [.int .i64 0, .int .i64 0, .slice none 0 0], 3⟩, ⟨B4, 116, (r_2.Cells.flatMap enc_Dyadic), c5 * 5⟩] [⟨B, (c.Gates.flatMap enc_Gate)⟩] := hS8
        refine ⟨(ST.sel hS8 [0, 1, 2, 3] rfl rfl), ?_⟩
        refine ra_q 8 21 (v := .tuple #[.agg #[.int .i64 r_2.Rows, .int .i64 r_2.Cols, .slice B4 r_2.Cells.length c5], .bool r_3]) rfl rfl rfl (by kernel_rfl) (by kernel_rfl) (by kernel_rfl) (ST.sel hS8 [0, 1, 2, 3] rfl rfl) (fun w' hw' => (Y_move (v := .tuple #[.agg #[.int .i64 r_2.Rows, .int .i64 r_2.Cols, .slice B4 r_2.Cells.length c5], .bool r_3]) rfl rfl)) ?_
        refine ra_q 9 30 (v := .agg #[.int .i64 r_2.Rows, .int .i64 r_2.Cols, .slice B4 r_2.Cells.length c5]) rfl rfl rfl (by kernel_rfl) (by kernel_rfl) (by kernel_rfl) (ST.sel hS8 [0, 1, 2, 3] rfl rfl) (fun w' hw' => (Y_extract (v := .agg #[.int .i64 r_2.Rows, .int .i64 r_2.Cols, .slice B4 r_2.Cells.length c5]) rfl rfl rfl)) ?_
        refine ra_q 10 31 (v := .bool r_3) rfl rfl rfl (by kernel_rfl) (by kernel_rfl) (by kernel_rfl) (ST.sel hS8 [0, 1, 2, 3] rfl rfl) (fun w' hw' => (Y_extract (v := .bool r_3) rfl rfl rfl)) ?_
        refine ra_all (rs := [11]) (by kernel_rfl) rfl ?_
        refine ra_s 9 (i := 11) rfl rfl rfl (Ys_alloc (T := 28) (cs := [.int .i64 0, .int .i64 0, .slice none 0 0]) (m := 3) hS8 k_zero_28 rfl rfl rfl) ?_ ?_
        · rintro _ w_4 ⟨b3, rfl, hS9⟩
          have hS9 : ST w0 (bl [⟨B1, 116, (m.Cells.flatMap enc_Dyadic), c2 * 5⟩]) _ [⟨some ⟨b, 0, none⟩, 33, [.int .i64 c.Qubits, .slice B c.Gates.length c1], 2⟩, ⟨some ⟨b1, 0, none⟩, 28, [.int .i64 Rows, .int .i64 Cols, .slice B3 Cells.length c4], 3⟩, ⟨B3, 116, (Cells.flatMap enc_Dyadic), c4 * 5⟩, ⟨some ⟨b2, 0, none⟩, 28, [.int .i64 0, .int .i64 0, .slice none 0 0], 3⟩, ⟨B4, 116, (r_2.Cells.flatMap enc_Dyadic), c5 * 5⟩, ⟨some ⟨b3, 0, none⟩, 28, [.int .i64 0, .int .i64 0, .slice none 0 0], 3⟩] [⟨B, (c.Gates.flatMap enc_Gate)⟩] := hS9
          refine ⟨(ST.sel hS9 [0, 1, 2, 3] rfl rfl), ?_⟩
          refine ra_all (rs := [12]) (by kernel_rfl) rfl ?_
          refine ra_s0 (i := 12) rfl rfl rfl (Ys_store (i := 5) (s := 3) (B := some ⟨b3, 0, none⟩) (T' := 28) (v := .agg #[.int .i64 r_2.Rows, .int .i64 r_2.Cols, .slice B4 r_2.Cells.length c5]) (vs := [.int .i64 r_2.Rows, .int .i64 r_2.Cols, .slice B4 r_2.Cells.length c5]) (k := 0) (cs' := [.int .i64 r_2.Rows, .int .i64 r_2.Cols, .slice B4 r_2.Cells.length c5]) hS9 k_sz_28_3 rfl rfl rfl rfl rfl rfl rfl (Nat.le_of_ble_eq_true rfl) rfl rfl) ?_ ?_
          · rintro _ w_5 ⟨rfl, hS10⟩
            have hS10 : ST w0 (bl [⟨B1, 116, (m.Cells.flatMap enc_Dyadic), c2 * 5⟩]) _ [⟨some ⟨b, 0, none⟩, 33, [.int .i64 c.Qubits, .slice B c.Gates.length c1], 2⟩, ⟨some ⟨b1, 0, none⟩, 28, [.int .i64 Rows, .int .i64 Cols, .slice B3 Cells.length c4], 3⟩, ⟨B3, 116, (Cells.flatMap enc_Dyadic), c4 * 5⟩, ⟨some ⟨b2, 0, none⟩, 28, [.int .i64 0, .int .i64 0, .slice none 0 0], 3⟩, ⟨B4, 116, (r_2.Cells.flatMap enc_Dyadic), c5 * 5⟩, ⟨some ⟨b3, 0, none⟩, 28, [.int .i64 r_2.Rows, .int .i64 r_2.Cols, .slice B4 r_2.Cells.length c5], 3⟩] [⟨B, (c.Gates.flatMap enc_Gate)⟩] := hS10
            refine ⟨(ST.sel hS10 [0, 1, 2, 3] rfl rfl), ?_⟩
            refine ra_q 13 10 (v := .bool r_3) rfl rfl rfl (by kernel_rfl) (by kernel_rfl) (by kernel_rfl) (ST.sel hS10 [0, 1, 2, 3] rfl rfl) (fun w' hw' => (Y_assign (v := .bool r_3) rfl rfl)) ?_
            refine ra_done (by kernel_rfl) ?_
            exact ⟨some ⟨b3, 0, none⟩, B4, c5, (FF.cons (hf.get 3 1 rfl) (FF.cons (hf.get 4 2 rfl) (FF.cons (hf.get 6 3 rfl) (FF.cons (hf.get 8 4 rfl) (FF.cons rfl FF.nil))))), (hS10.sel [0, 1, 2, 3, 5, 4] rfl rfl)⟩
          exact allR_nil
        exact allR_nil
      refine ra_s 9 (i := 11) rfl rfl rfl (Ys_alloc (T := 28) (cs := [.int .i64 0, .int .i64 0, .slice none 0 0]) (m := 3) hS7 k_zero_28 rfl rfl rfl) ?_ ?_
      · rintro _ w_6 ⟨b3, rfl, hS11⟩
        have hS11 : ST w0 (bl [⟨B1, 116, (m.Cells.flatMap enc_Dyadic), c2 * 5⟩]) _ [⟨some ⟨b, 0, none⟩, 33, [.int .i64 c.Qubits, .slice B c.Gates.length c1], 2⟩, ⟨some ⟨b1, 0, none⟩, 28, [.int .i64 Rows, .int .i64 Cols, .slice B3 Cells.length c4], 3⟩, ⟨B3, 116, (Cells.flatMap enc_Dyadic), c4 * 5⟩, ⟨some ⟨b2, 0, none⟩, 28, [.int .i64 0, .int .i64 0, .slice none 0 0], 3⟩, ⟨some ⟨b3, 0, none⟩, 28, [.int .i64 0, .int .i64 0, .slice none 0 0], 3⟩] [⟨B, (c.Gates.flatMap enc_Gate)⟩] := hS11
        refine ⟨(ST.sel hS11 [0, 1, 2, 3] rfl rfl), ?_⟩
        refine ra_all (rs := [7]) (by kernel_rfl) rfl ?_
        refine ra_c 29 (i := 7) rfl rfl rfl (Yc_func (g := 88) (vs := [.int .i64 c.Qubits, .agg #[.int .i64 x.Kind, .int .i64 x.A, .int .i64 x.B]]) k_call_88 rfl (mc rfl (mc rfl mn)) (c_impl_GateMatrix c.Qubits x _  (hS11.inn0 [] rfl) hc)) ?_ ?_
        · rintro _ w_7 ⟨B4, c5, rfl, hd1⟩
          have hS12 := hS11.out0 hd1
          have hS12 : ST w0 (bl [⟨B1, 116, (m.Cells.flatMap enc_Dyadic), c2 * 5⟩]) _ [⟨some ⟨b, 0, none⟩, 33, [.int .i64 c.Qubits, .slice B c.Gates.length c1], 2⟩, ⟨some ⟨b1, 0, none⟩, 28, [.int .i64 Rows, .int .i64 Cols, .slice B3 Cells.length c4], 3⟩, ⟨B3, 116, (Cells.flatMap enc_Dyadic), c4 * 5⟩, ⟨some ⟨b2, 0, none⟩, 28, [.int .i64 0, .int .i64 0, .slice none 0 0], 3⟩, ⟨some ⟨b3, 0, none⟩, 28, [.int .i64 0, .int .i64 0, .slice none 0 0], 3⟩, ⟨B4, 116, (r_2.Cells.flatMap enc_Dyadic), c5 * 5⟩] [⟨B, (c.Gates.flatMap enc_Gate)⟩] := hS12
          refine ⟨(ST.sel hS12 [0, 1, 2, 3] rfl rfl), ?_⟩
          refine ra_q 8 21 (v := .tuple #[.agg #[.int .i64 r_2.Rows, .int .i64 r_2.Cols, .slice B4 r_2.Cells.length c5], .bool r_3]) rfl rfl rfl (by kernel_rfl) (by kernel_rfl) (by kernel_rfl) (ST.sel hS12 [0, 1, 2, 3] rfl rfl) (fun w' hw' => (Y_move (v := .tuple #[.agg #[.int .i64 r_2.Rows, .int .i64 r_2.Cols, .slice B4 r_2.Cells.length c5], .bool r_3]) rfl rfl)) ?_
          refine ra_q 9 30 (v := .agg #[.int .i64 r_2.Rows, .int .i64 r_2.Cols, .slice B4 r_2.Cells.length c5]) rfl rfl rfl (by kernel_rfl) (by kernel_rfl) (by kernel_rfl) (ST.sel hS12 [0, 1, 2, 3] rfl rfl) (fun w' hw' => (Y_extract (v := .agg #[.int .i64 r_2.Rows, .int .i64 r_2.Cols, .slice B4 r_2.Cells.length c5]) rfl rfl rfl)) ?_
          refine ra_q 10 31 (v := .bool r_3) rfl rfl rfl (by kernel_rfl) (by kernel_rfl) (by kernel_rfl) (ST.sel hS12 [0, 1, 2, 3] rfl rfl) (fun w' hw' => (Y_extract (v := .bool r_3) rfl rfl rfl)) ?_
          refine ra_all (rs := [12]) (by kernel_rfl) rfl ?_
          refine ra_s0 (i := 12) rfl rfl rfl (Ys_store (i := 4) (s := 3) (B := some ⟨b3, 0, none⟩) (T' := 28) (v := .agg #[.int .i64 r_2.Rows, .int .i64 r_2.Cols, .slice B4 r_2.Cells.length c5]) (vs := [.int .i64 r_2.Rows, .int .i64 r_2.Cols, .slice B4 r_2.Cells.length c5]) (k := 0) (cs' := [.int .i64 r_2.Rows, .int .i64 r_2.Cols, .slice B4 r_2.Cells.length c5]) hS12 k_sz_28_3 rfl rfl rfl rfl rfl rfl rfl (Nat.le_of_ble_eq_true rfl) rfl rfl) ?_ ?_
          · rintro _ w_8 ⟨rfl, hS13⟩
            have hS13 : ST w0 (bl [⟨B1, 116, (m.Cells.flatMap enc_Dyadic), c2 * 5⟩]) _ [⟨some ⟨b, 0, none⟩, 33, [.int .i64 c.Qubits, .slice B c.Gates.length c1], 2⟩, ⟨some ⟨b1, 0, none⟩, 28, [.int .i64 Rows, .int .i64 Cols, .slice B3 Cells.length c4], 3⟩, ⟨B3, 116, (Cells.flatMap enc_Dyadic), c4 * 5⟩, ⟨some ⟨b2, 0, none⟩, 28, [.int .i64 0, .int .i64 0, .slice none 0 0], 3⟩, ⟨some ⟨b3, 0, none⟩, 28, [.int .i64 r_2.Rows, .int .i64 r_2.Cols, .slice B4 r_2.Cells.length c5], 3⟩, ⟨B4, 116, (r_2.Cells.flatMap enc_Dyadic), c5 * 5⟩] [⟨B, (c.Gates.flatMap enc_Gate)⟩] := hS13
            refine ⟨(ST.sel hS13 [0, 1, 2, 3] rfl rfl), ?_⟩
            refine ra_q 13 10 (v := .bool r_3) rfl rfl rfl (by kernel_rfl) (by kernel_rfl) (by kernel_rfl) (ST.sel hS13 [0, 1, 2, 3] rfl rfl) (fun w' hw' => (Y_assign (v := .bool r_3) rfl rfl)) ?_
            refine ra_done (by kernel_rfl) ?_
            exact ⟨some ⟨b3, 0, none⟩, B4, c5, (FF.cons (hf.get 3 1 rfl) (FF.cons (hf.get 4 2 rfl) (FF.cons (hf.get 6 3 rfl) (FF.cons (hf.get 8 4 rfl) (FF.cons rfl FF.nil))))), (hS13.sel [0, 1, 2, 3, 4, 5] rfl rfl)⟩
          exact allR_nil
        exact allR_nil
      exact allR_nil
    rintro f w ⟨B5, B6, c6, hf1, hS6⟩
    refine cw_region ?_
    refine sq 33 rfl rfl (Y_loadA (B := B5) (i := 0) (cs := [.int .i64 r_2.Rows, .int .i64 r_2.Cols, .slice B6 r_2.Cells.length c6]) (vs := [.int .i64 r_2.Rows, .int .i64 r_2.Cols, .slice B6 r_2.Cells.length c6]) k_ag_28 k_sz_28_3 rfl (hf1.get 9 4 rfl) (hS6.cf (i := 4) rfl) rfl rfl) ?_
    refine sq 34 rfl rfl (Y_loadA (B := some ⟨b1, 0, none⟩) (i := 0) (cs := [.int .i64 Rows, .int .i64 Cols, .slice B3 Cells.length c4]) (vs := [.int .i64 Rows, .int .i64 Cols, .slice B3 Cells.length c4]) k_ag_28 k_sz_28_3 rfl (hf1.get 4 1 rfl) (hS6.cf (i := 1) rfl) rfl rfl) ?_
    obtain ⟨⟨r_4, r_5⟩, hc1, hF2⟩ := bind_inv hF2
    refine sc 35 rfl rfl (Yc_func (g := 89) (vs := [.agg #[.int .i64 r_2.Rows, .int .i64 r_2.Cols, .slice B6 r_2.Cells.length c6], .agg #[.int .i64 Rows, .int .i64 Cols, .slice B3 Cells.length c4]]) k_call_89 rfl (mc rfl (mc rfl mn)) (c_impl_MulMatrix r_2 (TMatrix.mk Rows Cols Cells) B6 c6 r_2.Cells.length B3 c4 Cells.length _ rfl rfl (hS6.inn0 [(false, 5), (false, 2)] rfl) hc1)) ?_
    rintro _ w_9 ⟨B7, c7, rfl, hd2⟩
    have hS14 := hS6.out0 hd2
    have hS14 : ST w0 (bl [⟨B1, 116, (m.Cells.flatMap enc_Dyadic), c2 * 5⟩]) _ [⟨some ⟨b, 0, none⟩, 33, [.int .i64 c.Qubits, .slice B c.Gates.length c1], 2⟩, ⟨some ⟨b1, 0, none⟩, 28, [.int .i64 Rows, .int .i64 Cols, .slice B3 Cells.length c4], 3⟩, ⟨B3, 116, (Cells.flatMap enc_Dyadic), c4 * 5⟩, ⟨some ⟨b2, 0, none⟩, 28, [.int .i64 0, .int .i64 0, .slice none 0 0], 3⟩, ⟨B5, 28, [.int .i64 r_2.Rows, .int .i64 r_2.Cols, .slice B6 r_2.Cells.length c6], 3⟩, ⟨B6, 116, (r_2.Cells.flatMap enc_Dyadic), c6 * 5⟩, ⟨B7, 116, (r_4.Cells.flatMap enc_Dyadic), c7 * 5⟩] [⟨B, (c.Gates.flatMap enc_Gate)⟩] := hS14
    refine sq 32 rfl rfl (Y_move (v := .tuple #[.agg #[.int .i64 r_4.Rows, .int .i64 r_4.Cols, .slice B7 r_4.Cells.length c7], .bool r_5]) rfl rfl) ?_
    refine sq 36 rfl rfl (Y_extract (v := .agg #[.int .i64 r_4.Rows, .int .i64 r_4.Cols, .slice B7 r_4.Cells.length c7]) rfl rfl rfl) ?_
    refine sq 37 rfl rfl (Y_extract (v := .bool r_5) rfl rfl rfl) ?_
    refine ss0 rfl rfl (Ys_store (i := 1) (s := 3) (B := some ⟨b1, 0, none⟩) (T' := 28) (v := .agg #[.int .i64 r_4.Rows, .int .i64 r_4.Cols, .slice B7 r_4.Cells.length c7]) (vs := [.int .i64 r_4.Rows, .int .i64 r_4.Cols, .slice B7 r_4.Cells.length c7]) (k := 0) (cs' := [.int .i64 r_4.Rows, .int .i64 r_4.Cols, .slice B7 r_4.Cells.length c7]) hS14 k_sz_28_3 rfl (hf1.get 4 1 rfl) rfl rfl rfl rfl rfl (Nat.le_of_ble_eq_true rfl) rfl rfl) ?_
    rintro _ w_10 ⟨rfl, hS15⟩
    have hS15 : ST w0 (bl [⟨B1, 116, (m.Cells.flatMap enc_Dyadic), c2 * 5⟩]) _ [⟨some ⟨b, 0, none⟩, 33, [.int .i64 c.Qubits, .slice B c.Gates.length c1], 2⟩, ⟨some ⟨b1, 0, none⟩, 28, [.int .i64 r_4.Rows, .int .i64 r_4.Cols, .slice B7 r_4.Cells.length c7], 3⟩, ⟨B3, 116, (Cells.flatMap enc_Dyadic), c4 * 5⟩, ⟨some ⟨b2, 0, none⟩, 28, [.int .i64 0, .int .i64 0, .slice none 0 0], 3⟩, ⟨B5, 28, [.int .i64 r_2.Rows, .int .i64 r_2.Cols, .slice B6 r_2.Cells.length c6], 3⟩, ⟨B6, 116, (r_2.Cells.flatMap enc_Dyadic), c6 * 5⟩, ⟨B7, 116, (r_4.Cells.flatMap enc_Dyadic), c7 * 5⟩] [⟨B, (c.Gates.flatMap enc_Gate)⟩] := hS15
    refine sq 2 rfl rfl (Y_assign (v := .bool r_5) rfl rfl) ?_
    refine rw_nil ?_
    refine cw_region ?_
    refine sq 19 rfl rfl (Y_move (v := .int .i64 i) rfl (hf1.get 8 3 rfl)) ?_
    refine sq 20 rfl rfl (Y_add (k := .i64) (a := i) (b := 1) rfl rfl rfl) ?_
    refine sq 8 rfl rfl (Y_assign (v := .int .i64 (IntKind.i64.wrap (i + 1))) rfl rfl) ?_
    refine rw_nil ?_
    obtain rfl := some_inj hF2
    exact ⟨k_1, Nat.lt_succ_self _, r_5, r_4.Rows, r_4.Cols, r_4.Cells, (IntKind.i64.wrap (i + 1)), B7, c7, (FF.cons rfl (FF.cons (hf1.get 3 0 rfl) (FF.cons (hf1.get 4 1 rfl) (FF.cons (hf1.get 6 2 rfl) (FF.cons rfl FF.nil))))), (hS15.sel [0, 1, 6, 3] rfl rfl), hL1⟩
  · skip
    have hF3 := cf' hb hb1
    refine cw_exit rfl ?_
    obtain rfl := some_inj hF3
    obtain rfl := some_inj hL1
    refine cw_seq ?_
    refine cw_region ?_
    refine sq 38 rfl rfl (Y_loadA (B := some ⟨b1, 0, none⟩) (i := 0) (cs := [.int .i64 Rows, .int .i64 Cols, .slice B3 Cells.length c4]) (vs := [.int .i64 Rows, .int .i64 Cols, .slice B3 Cells.length c4]) k_ag_28 k_sz_28_3 rfl (hf.get 4 2 rfl) (hS4.cf (i := 1) rfl) rfl rfl) ?_
    refine sq 39 rfl rfl (Y_move (v := .bool ok1) rfl (hf.get 2 0 rfl)) ?_
    refine ss0 rfl rfl (Ys_store (i := 3) (s := 3) (B := some ⟨b2, 0, none⟩) (T' := 28) (v := .agg #[.int .i64 Rows, .int .i64 Cols, .slice B3 Cells.length c4]) (vs := [.int .i64 Rows, .int .i64 Cols, .slice B3 Cells.length c4]) (k := 0) (cs' := [.int .i64 Rows, .int .i64 Cols, .slice B3 Cells.length c4]) hS4 k_sz_28_3 rfl (hf.get 6 3 rfl) rfl rfl rfl rfl rfl (Nat.le_of_ble_eq_true rfl) rfl rfl) ?_
    rintro _ w_11 ⟨rfl, hS16⟩
    have hS16 : ST w0 (bl [⟨B1, 116, (m.Cells.flatMap enc_Dyadic), c2 * 5⟩]) _ [⟨some ⟨b, 0, none⟩, 33, [.int .i64 c.Qubits, .slice B c.Gates.length c1], 2⟩, ⟨some ⟨b1, 0, none⟩, 28, [.int .i64 Rows, .int .i64 Cols, .slice B3 Cells.length c4], 3⟩, ⟨B3, 116, (Cells.flatMap enc_Dyadic), c4 * 5⟩, ⟨some ⟨b2, 0, none⟩, 28, [.int .i64 Rows, .int .i64 Cols, .slice B3 Cells.length c4], 3⟩] [⟨B, (c.Gates.flatMap enc_Gate)⟩] := hS16
    refine sq 7 rfl rfl (Y_assign (v := .bool ok1) rfl rfl) ?_
    refine rw_nil ?_
    refine cw_ret ?_
    obtain ⟨rfl, rfl⟩ := pr2 (some_inj hF1)
    exact ret2 Try.results39 (v1 := .agg #[.int .i64 Rows, .int .i64 Cols, .slice B3 Cells.length c4]) (resAt_cellA (B := some ⟨b2, 0, none⟩) (i := 0) (cs := [.int .i64 Rows, .int .i64 Cols, .slice B3 Cells.length c4]) (vs := [.int .i64 Rows, .int .i64 Cols, .slice B3 Cells.length c4]) (hf.get 6 3 rfl) k_ag_28 k_sz_28_3 (hS16.cf (i := 3) rfl) rfl rfl) (v2 := .bool ok1) (resAt_tmp rfl) ⟨B3, c4, rfl, (ST.subR (R' := []) (hS16.sel [2] rfl rfl) (fun _ h => by cases h))⟩

theorem c_impl_StateAfter (c : TCircuit) (start : Int) (B : Option Addr) (c1 n : Nat) (w0 : World) (hn : c.Gates.length = n) (hS : ST w0 [] w0 [] [⟨B, (c.Gates.flatMap enc_Gate)⟩]) {r_ : TMatrix} {r_1 : Bool} (hF : F_impl_StateAfter c start = some (r_, r_1)) :
    CV Try.prog 10 #[.agg #[.int .i64 c.Qubits, .slice B n c1], .int .i64 start] w0 (fun v w' => ∃ (B1 : Option Addr) (c2 : Nat), v = .tuple #[.agg #[.int .i64 r_.Rows, .int .i64 r_.Cols, .slice B1 r_.Cells.length c2], .bool r_1] ∧ ST w0 [] w' [⟨B1, 116, (r_.Cells.flatMap enc_Dyadic), c2 * 5⟩] []) := by
  subst hn
  unfold F_impl_StateAfter at hF
  refine cv_of_cw 42 Try.func10 rfl Try.ntmps10 rfl ?_
  refine cw_seq ?_
  refine cw_region ?_
  refine ss 2 rfl rfl (Ys_box (T := 33) (v := .agg #[.int .i64 c.Qubits, .slice B c.Gates.length c1]) (cs := [.int .i64 c.Qubits, .slice B c.Gates.length c1]) (m := 2) hS rfl rfl rfl rfl) ?_
  rintro _ w_ ⟨b, rfl, hS1⟩
  refine ss 4 rfl rfl (Ys_alloc (T := 28) (cs := [.int .i64 0, .int .i64 0, .slice none 0 0]) (m := 3) hS1 k_zero_28 rfl rfl rfl) ?_
  rintro _ w_1 ⟨b1, rfl, hS2⟩
  have hS2 : ST w0 [] _ [⟨some ⟨b, 0, none⟩, 33, [.int .i64 c.Qubits, .slice B c.Gates.length c1], 2⟩, ⟨some ⟨b1, 0, none⟩, 28, [.int .i64 0, .int .i64 0, .slice none 0 0], 3⟩] [⟨B, (c.Gates.flatMap enc_Gate)⟩] := hS2
  refine sq 5 rfl rfl (Y_assign (v := .bool false) rfl rfl) ?_
  refine rw_nil ?_
  refine cw_seq ?_
  refine cw_seq ?_
  refine cw_region ?_
  refine sq 10 rfl rfl (Y_loadA (B := some ⟨b, 0, none⟩) (i := 0) (cs := [.int .i64 c.Qubits, .slice B c.Gates.length c1]) (vs := [.int .i64 c.Qubits, .slice B c.Gates.length c1]) k_ag_33 k_sz_33_2 rfl rfl (hS2.cf (i := 0) rfl) rfl rfl) ?_
  obtain ⟨r_2, hc, hF⟩ := bind_inv hF
  refine sc 11 rfl rfl (Yc_func (g := 35) (vs := [.agg #[.int .i64 c.Qubits, .slice B c.Gates.length c1]]) k_call_35 rfl (mc rfl mn) (c_impl_IsValidCircuit c B c1 c.Gates.length _ rfl (hS2.inn0 [(true, 0)] rfl) hc)) ?_
  rintro _ w_2 ⟨rfl, hd⟩
  have hS3 := hS2.out00 hd
  have hS3 : ST w0 [] _ [⟨some ⟨b, 0, none⟩, 33, [.int .i64 c.Qubits, .slice B c.Gates.length c1], 2⟩, ⟨some ⟨b1, 0, none⟩, 28, [.int .i64 0, .int .i64 0, .slice none 0 0], 3⟩] [⟨B, (c.Gates.flatMap enc_Gate)⟩] := hS3
  refine sq 12 rfl rfl (Y_not (p := r_2) rfl rfl) ?_
  refine sq 13 rfl rfl (Y_move (v := .bool (!r_2)) rfl rfl) ?_
  refine sgq 14 (B := (!(!r_2))) (v := .int .i64 start) rfl rfl (wt_f (gd_of (t := 13) (by kernel_rfl) rfl)) (fun hg => (Y_move (v := .int .i64 start) rfl rfl)) ?_
  refine sgq 15 (B := (!(!r_2))) (v := pt (some ⟨b, 0, none⟩) 0) rfl rfl (wt_f (gd_of (t := 13) (by kernel_rfl) rfl)) (fun hg1 => (Y_fieldAddr (B := some ⟨b, 0, none⟩) (i := 0) (s := 0) k_fd_33_0_0_3 k_sz_3_1 rfl rfl)) ?_
  refine sgq 16 (B := (!(!r_2))) (v := .int .i64 c.Qubits) rfl rfl (wt_f (gd_of (t := 13) (by kernel_rfl) rfl)) (fun hg2 => (Y_load1 (B := some ⟨b, 0, none⟩) (i := 0) (cs := [.int .i64 c.Qubits, .slice B c.Gates.length c1]) (v := .int .i64 c.Qubits) k_sc_3 rfl (gv_of (B := (!(!r_2))) (v := pt (some ⟨b, 0, none⟩) 0) hg2) (hS3.cf (i := 0) rfl) rfl)) ?_
  obtain ⟨hsh, hF⟩ := chk_inv hF
  refine sgq 17 (B := (!(!r_2))) (v := .int .i64 (shlK .i64 1 c.Qubits)) rfl rfl (wt_f (gd_of (t := 13) (by kernel_rfl) rfl)) (fun hg3 => (Y_shl (k := .i64) (a := 1) (k' := .i64) (b := c.Qubits) rfl rfl (gv_of (B := (!(!r_2))) (v := .int .i64 c.Qubits) hg3) (hsh hg3))) ?_
  refine sgq 18 (B := (!(!r_2))) (v := .int .i64 (IntKind.i64.wrap ((shlK .i64 1 c.Qubits) - 1))) rfl rfl (wt_f (gd_of (t := 13) (by kernel_rfl) rfl)) (fun hg4 => (Y_sub (k := .i64) (a := (shlK .i64 1 c.Qubits)) (b := 1) rfl (gv_of (B := (!(!r_2))) (v := .int .i64 (shlK .i64 1 c.Qubits)) hg4) rfl)) ?_
  obtain ⟨r_3, hc1, hF⟩ := bind_inv hF
  refine sgc 19 (B := (!(!r_2))) (v := .bool r_3) (F := hS3.fn) rfl rfl (wt_f (gd_of (t := 13) (by kernel_rfl) rfl)) hS3 (fun hg5 => (Yc_func (g := 36) (vs := [.int .i64 start, .int .i64 0, .int .i64 (IntKind.i64.wrap ((shlK .i64 1 c.Qubits) - 1))]) k_call_36 rfl (mc (gv_of (B := (!(!r_2))) (v := .int .i64 start) hg5) (mc rfl (mc (gv_of (B := (!(!r_2))) (v := .int .i64 (IntKind.i64.wrap ((shlK .i64 1 c.Qubits) - 1))) hg5) mn))) (CV.mono (c_impl_within start 0 (IntKind.i64.wrap ((shlK .i64 1 c.Qubits) - 1)) _  (hS3.inn0 [] rfl) (gb_inv hc1 hg5)) (by rintro _ _ ⟨rfl, h⟩; exact ⟨rfl, hS3.out00 h⟩)))) ?_
  rintro w_3 hS4
  have hS4 : ST _ _ w_3 _ _ := hS4
  refine sgq 20 (B := (!(!r_2))) (v := .bool (!r_3)) rfl rfl (wt_f (gd_of (t := 13) (by kernel_rfl) rfl)) (fun hg6 => (Y_not (p := r_3) rfl (gv_of (B := (!(!r_2))) (v := .bool r_3) hg6))) ?_
  refine sq 21 rfl rfl (Y_or (b := (!r_2)) (z := (!r_3)) rfl rfl rfl rfl) ?_
  refine rw_nil ?_
  refine cw_cond (b := ((!r_2) || (!r_3))) rfl (fun hb => ?_) (fun hb => ?_)
  · skip
    have hF1 := ct hF hb
    refine cw_seq ?_
    refine cw_region ?_
    refine sq 22 rfl rfl (Y_buildS (zs := [.int .i64 0, .int .i64 0, .slice none 0 0]) (vs := []) (cs := [.int .i64 0, .int .i64 0, .slice none 0 0]) k_pl_28 k_zero_28 rfl mpn rfl) ?_
    refine ss0 rfl rfl (Ys_store (i := 1) (s := 3) (B := some ⟨b1, 0, none⟩) (T' := 28) (v := .agg #[.int .i64 0, .int .i64 0, .slice none 0 0]) (vs := [.int .i64 0, .int .i64 0, .slice none 0 0]) (k := 0) (cs' := [.int .i64 0, .int .i64 0, .slice none 0 0]) hS4 k_sz_28_3 rfl rfl rfl rfl rfl rfl rfl (Nat.le_of_ble_eq_true rfl) rfl rfl) ?_
    rintro _ w_4 ⟨rfl, hS5⟩
    have hS5 : ST w0 [] _ [⟨some ⟨b, 0, none⟩, 33, [.int .i64 c.Qubits, .slice B c.Gates.length c1], 2⟩, ⟨some ⟨b1, 0, none⟩, 28, [.int .i64 0, .int .i64 0, .slice none 0 0], 3⟩] [⟨B, (c.Gates.flatMap enc_Gate)⟩] := hS5
    refine sq 5 rfl rfl (Y_assign (v := .bool false) rfl rfl) ?_
    refine rw_nil ?_
    refine cw_ret ?_
    have hS6 := hS5.addNil 116
    obtain ⟨rfl, rfl⟩ := pr2 (some_inj hF1)
    exact ret2 Try.results10 (v1 := .agg #[.int .i64 0, .int .i64 0, .slice none 0 0]) (resAt_cellA (B := some ⟨b1, 0, none⟩) (i := 0) (cs := [.int .i64 0, .int .i64 0, .slice none 0 0]) (vs := [.int .i64 0, .int .i64 0, .slice none 0 0]) rfl k_ag_28 k_sz_28_3 (hS6.cf (i := 1) rfl) rfl rfl) (v2 := .bool false) (resAt_tmp rfl) ⟨none, 0, rfl, (ST.subR (R' := []) (hS6.sel [2] rfl rfl) (fun _ h => by cases h))⟩
  · skip
    have hF2 := cf' hF hb
    refine cw_skip ?_
    refine cw_seq ?_
    refine cw_region ?_
    refine sq 24 rfl rfl (Y_fieldAddr (B := some ⟨b, 0, none⟩) (i := 0) (s := 0) k_fd_33_0_0_3 k_sz_3_1 rfl rfl) ?_
    refine sq 25 rfl rfl (Y_load1 (B := some ⟨b, 0, none⟩) (i := 0) (cs := [.int .i64 c.Qubits, .slice B c.Gates.length c1]) (v := .int .i64 c.Qubits) k_sc_3 rfl rfl (hS4.cf (i := 0) rfl) rfl) ?_
    obtain ⟨hsh1, hF2⟩ := chk_inv hF2
    refine sq 26 rfl rfl (Y_shl (k := .i64) (a := 1) (k' := .i64) (b := c.Qubits) rfl rfl rfl hsh1) ?_
    obtain ⟨⟨r_4, r_5⟩, hc2, hF2⟩ := bind_inv hF2
    refine sc 27 rfl rfl (Yc_func (g := 37) (vs := [.int .i64 (shlK .i64 1 c.Qubits)]) k_call_37 rfl (mc rfl mn) (c_impl_IdentityMatrix (shlK .i64 1 c.Qubits) _  (hS4.inn0 [] rfl) hc2)) ?_
    rintro _ w_5 ⟨B2, c3, rfl, hd1⟩
    have hS7 := hS4.out0 hd1
    have hS7 : ST w0 [] _ [⟨some ⟨b, 0, none⟩, 33, [.int .i64 c.Qubits, .slice B c.Gates.length c1], 2⟩, ⟨some ⟨b1, 0, none⟩, 28, [.int .i64 0, .int .i64 0, .slice none 0 0], 3⟩, ⟨B2, 116, (r_4.Cells.flatMap enc_Dyadic), c3 * 5⟩] [⟨B, (c.Gates.flatMap enc_Gate)⟩] := hS7
    refine sq 23 rfl rfl (Y_move (v := .tuple #[.agg #[.int .i64 r_4.Rows, .int .i64 r_4.Cols, .slice B2 r_4.Cells.length c3], .bool r_5]) rfl rfl) ?_
    refine sq 28 rfl rfl (Y_extract (v := .agg #[.int .i64 r_4.Rows, .int .i64 r_4.Cols, .slice B2 r_4.Cells.length c3]) rfl rfl rfl) ?_
    refine sq 29 rfl rfl (Y_extract (v := .bool r_5) rfl rfl rfl) ?_
    refine ss 6 rfl rfl (Ys_alloc (T := 28) (cs := [.int .i64 0, .int .i64 0, .slice none 0 0]) (m := 3) hS7 k_zero_28 rfl rfl rfl) ?_
    rintro _ w_6 ⟨b2, rfl, hS8⟩
    have hS8 : ST w0 [] _ [⟨some ⟨b, 0, none⟩, 33, [.int .i64 c.Qubits, .slice B c.Gates.length c1], 2⟩, ⟨some ⟨b1, 0, none⟩, 28, [.int .i64 0, .int .i64 0, .slice none 0 0], 3⟩, ⟨B2, 116, (r_4.Cells.flatMap enc_Dyadic), c3 * 5⟩, ⟨some ⟨b2, 0, none⟩, 28, [.int .i64 0, .int .i64 0, .slice none 0 0], 3⟩] [⟨B, (c.Gates.flatMap enc_Gate)⟩] := hS8
    refine ss0 rfl rfl (Ys_store (i := 3) (s := 3) (B := some ⟨b2, 0, none⟩) (T' := 28) (v := .agg #[.int .i64 r_4.Rows, .int .i64 r_4.Cols, .slice B2 r_4.Cells.length c3]) (vs := [.int .i64 r_4.Rows, .int .i64 r_4.Cols, .slice B2 r_4.Cells.length c3]) (k := 0) (cs' := [.int .i64 r_4.Rows, .int .i64 r_4.Cols, .slice B2 r_4.Cells.length c3]) hS8 k_sz_28_3 rfl rfl rfl rfl rfl rfl rfl (Nat.le_of_ble_eq_true rfl) rfl rfl) ?_
    rintro _ w_7 ⟨rfl, hS9⟩
    have hS9 : ST w0 [] _ [⟨some ⟨b, 0, none⟩, 33, [.int .i64 c.Qubits, .slice B c.Gates.length c1], 2⟩, ⟨some ⟨b1, 0, none⟩, 28, [.int .i64 0, .int .i64 0, .slice none 0 0], 3⟩, ⟨B2, 116, (r_4.Cells.flatMap enc_Dyadic), c3 * 5⟩, ⟨some ⟨b2, 0, none⟩, 28, [.int .i64 r_4.Rows, .int .i64 r_4.Cols, .slice B2 r_4.Cells.length c3], 3⟩] [⟨B, (c.Gates.flatMap enc_Gate)⟩] := hS9
    refine sq 7 rfl rfl (Y_assign (v := .bool r_5) rfl rfl) ?_
    refine rw_nil ?_
    refine cw_seq ?_
    refine cw_region ?_
    refine sq 31 rfl rfl (Y_loadA (B := some ⟨b2, 0, none⟩) (i := 0) (cs := [.int .i64 r_4.Rows, .int .i64 r_4.Cols, .slice B2 r_4.Cells.length c3]) (vs := [.int .i64 r_4.Rows, .int .i64 r_4.Cols, .slice B2 r_4.Cells.length c3]) k_ag_28 k_sz_28_3 rfl rfl (hS9.cf (i := 3) rfl) rfl rfl) ?_
    refine sq 32 rfl rfl (Y_move (v := .int .i64 start) rfl rfl) ?_
    obtain ⟨⟨r_6, r_7⟩, hc3, hF2⟩ := bind_inv hF2
    refine sc 33 rfl rfl (Yc_func (g := 38) (vs := [.agg #[.int .i64 r_4.Rows, .int .i64 r_4.Cols, .slice B2 r_4.Cells.length c3], .int .i64 start]) k_call_38 rfl (mc rfl (mc rfl mn)) (c_impl_ColumnOf r_4 start B2 c3 r_4.Cells.length _ rfl (hS9.inn0 [(false, 2)] rfl) hc3)) ?_
    rintro _ w_8 ⟨B3, c4, rfl, hd2⟩
    have hS10 := hS9.out0 hd2
    have hS10 : ST w0 [] _ [⟨some ⟨b, 0, none⟩, 33, [.int .i64 c.Qubits, .slice B c.Gates.length c1], 2⟩, ⟨some ⟨b1, 0, none⟩, 28, [.int .i64 0, .int .i64 0, .slice none 0 0], 3⟩, ⟨B2, 116, (r_4.Cells.flatMap enc_Dyadic), c3 * 5⟩, ⟨some ⟨b2, 0, none⟩, 28, [.int .i64 r_4.Rows, .int .i64 r_4.Cols, .slice B2 r_4.Cells.length c3], 3⟩, ⟨B3, 116, (r_6.Cells.flatMap enc_Dyadic), c4 * 5⟩] [⟨B, (c.Gates.flatMap enc_Gate)⟩] := hS10
    refine sq 30 rfl rfl (Y_move (v := .tuple #[.agg #[.int .i64 r_6.Rows, .int .i64 r_6.Cols, .slice B3 r_6.Cells.length c4], .bool r_7]) rfl rfl) ?_
    refine sq 34 rfl rfl (Y_extract (v := .agg #[.int .i64 r_6.Rows, .int .i64 r_6.Cols, .slice B3 r_6.Cells.length c4]) rfl rfl rfl) ?_
    refine sq 35 rfl rfl (Y_extract (v := .bool r_7) rfl rfl rfl) ?_
    refine ss 8 rfl rfl (Ys_alloc (T := 28) (cs := [.int .i64 0, .int .i64 0, .slice none 0 0]) (m := 3) hS10 k_zero_28 rfl rfl rfl) ?_
    rintro _ w_9 ⟨b3, rfl, hS11⟩
    have hS11 : ST w0 [] _ [⟨some ⟨b, 0, none⟩, 33, [.int .i64 c.Qubits, .slice B c.Gates.length c1], 2⟩, ⟨some ⟨b1, 0, none⟩, 28, [.int .i64 0, .int .i64 0, .slice none 0 0], 3⟩, ⟨B2, 116, (r_4.Cells.flatMap enc_Dyadic), c3 * 5⟩, ⟨some ⟨b2, 0, none⟩, 28, [.int .i64 r_4.Rows, .int .i64 r_4.Cols, .slice B2 r_4.Cells.length c3], 3⟩, ⟨B3, 116, (r_6.Cells.flatMap enc_Dyadic), c4 * 5⟩, ⟨some ⟨b3, 0, none⟩, 28, [.int .i64 0, .int .i64 0, .slice none 0 0], 3⟩] [⟨B, (c.Gates.flatMap enc_Gate)⟩] := hS11
    refine ss0 rfl rfl (Ys_store (i := 5) (s := 3) (B := some ⟨b3, 0, none⟩) (T' := 28) (v := .agg #[.int .i64 r_6.Rows, .int .i64 r_6.Cols, .slice B3 r_6.Cells.length c4]) (vs := [.int .i64 r_6.Rows, .int .i64 r_6.Cols, .slice B3 r_6.Cells.length c4]) (k := 0) (cs' := [.int .i64 r_6.Rows, .int .i64 r_6.Cols, .slice B3 r_6.Cells.length c4]) hS11 k_sz_28_3 rfl rfl rfl rfl rfl rfl rfl (Nat.le_of_ble_eq_true rfl) rfl rfl) ?_
    rintro _ w_10 ⟨rfl, hS12⟩
    have hS12 : ST w0 [] _ [⟨some ⟨b, 0, none⟩, 33, [.int .i64 c.Qubits, .slice B c.Gates.length c1], 2⟩, ⟨some ⟨b1, 0, none⟩, 28, [.int .i64 0, .int .i64 0, .slice none 0 0], 3⟩, ⟨B2, 116, (r_4.Cells.flatMap enc_Dyadic), c3 * 5⟩, ⟨some ⟨b2, 0, none⟩, 28, [.int .i64 r_4.Rows, .int .i64 r_4.Cols, .slice B2 r_4.Cells.length c3], 3⟩, ⟨B3, 116, (r_6.Cells.flatMap enc_Dyadic), c4 * 5⟩, ⟨some ⟨b3, 0, none⟩, 28, [.int .i64 r_6.Rows, .int .i64 r_6.Cols, .slice B3 r_6.Cells.length c4], 3⟩] [⟨B, (c.Gates.flatMap enc_Gate)⟩] := hS12
    refine sq 9 rfl rfl (Y_assign (v := .bool r_7) rfl rfl) ?_
    refine rw_nil ?_
    refine cw_seq ?_
    refine cw_region ?_
    refine sq 36 rfl rfl (Y_loadA (B := some ⟨b, 0, none⟩) (i := 0) (cs := [.int .i64 c.Qubits, .slice B c.Gates.length c1]) (vs := [.int .i64 c.Qubits, .slice B c.Gates.length c1]) k_ag_33 k_sz_33_2 rfl rfl (hS12.cf (i := 0) rfl) rfl rfl) ?_
    refine sq 37 rfl rfl (Y_loadA (B := some ⟨b3, 0, none⟩) (i := 0) (cs := [.int .i64 r_6.Rows, .int .i64 r_6.Cols, .slice B3 r_6.Cells.length c4]) (vs := [.int .i64 r_6.Rows, .int .i64 r_6.Cols, .slice B3 r_6.Cells.length c4]) k_ag_28 k_sz_28_3 rfl rfl (hS12.cf (i := 5) rfl) rfl rfl) ?_
    refine sq 38 rfl rfl (Y_move (v := .bool r_7) rfl rfl) ?_
    obtain ⟨⟨r_8, r_9⟩, hc4, hF2⟩ := bind_inv hF2
    refine sc 39 rfl rfl (Yc_func (g := 39) (vs := [.agg #[.int .i64 c.Qubits, .slice B c.Gates.length c1], .agg #[.int .i64 r_6.Rows, .int .i64 r_6.Cols, .slice B3 r_6.Cells.length c4], .bool r_7]) k_call_39 rfl (mc rfl (mc rfl (mc rfl mn))) (c_impl_applied c r_6 r_7 B c1 c.Gates.length B3 c4 r_6.Cells.length _ rfl rfl (hS12.inn [false, false, false, false, true, false] rfl [(true, 0)] rfl) hc4)) ?_
    rintro _ w_11 ⟨B4, c5, rfl, hd3⟩
    have hS13 := hS12.out [false, false, false, false, true, false] rfl hd3
    have hS13 : ST w0 [] _ [⟨some ⟨b, 0, none⟩, 33, [.int .i64 c.Qubits, .slice B c.Gates.length c1], 2⟩, ⟨some ⟨b1, 0, none⟩, 28, [.int .i64 0, .int .i64 0, .slice none 0 0], 3⟩, ⟨B2, 116, (r_4.Cells.flatMap enc_Dyadic), c3 * 5⟩, ⟨some ⟨b2, 0, none⟩, 28, [.int .i64 r_4.Rows, .int .i64 r_4.Cols, .slice B2 r_4.Cells.length c3], 3⟩, ⟨some ⟨b3, 0, none⟩, 28, [.int .i64 r_6.Rows, .int .i64 r_6.Cols, .slice B3 r_6.Cells.length c4], 3⟩, ⟨B4, 116, (r_8.Cells.flatMap enc_Dyadic), c5 * 5⟩] [⟨B, (c.Gates.flatMap enc_Gate)⟩] := hS13
    refine sq 40 rfl rfl (Y_extract (v := .agg #[.int .i64 r_8.Rows, .int .i64 r_8.Cols, .slice B4 r_8.Cells.length c5]) rfl rfl rfl) ?_
    refine sq 41 rfl rfl (Y_extract (v := .bool r_9) rfl rfl rfl) ?_
    refine ss0 rfl rfl (Ys_store (i := 1) (s := 3) (B := some ⟨b1, 0, none⟩) (T' := 28) (v := .agg #[.int .i64 r_8.Rows, .int .i64 r_8.Cols, .slice B4 r_8.Cells.length c5]) (vs := [.int .i64 r_8.Rows, .int .i64 r_8.Cols, .slice B4 r_8.Cells.length c5]) (k := 0) (cs' := [.int .i64 r_8.Rows, .int .i64 r_8.Cols, .slice B4 r_8.Cells.length c5]) hS13 k_sz_28_3 rfl rfl rfl rfl rfl rfl rfl (Nat.le_of_ble_eq_true rfl) rfl rfl) ?_
    rintro _ w_12 ⟨rfl, hS14⟩
    have hS14 : ST w0 [] _ [⟨some ⟨b, 0, none⟩, 33, [.int .i64 c.Qubits, .slice B c.Gates.length c1], 2⟩, ⟨some ⟨b1, 0, none⟩, 28, [.int .i64 r_8.Rows, .int .i64 r_8.Cols, .slice B4 r_8.Cells.length c5], 3⟩, ⟨B2, 116, (r_4.Cells.flatMap enc_Dyadic), c3 * 5⟩, ⟨some ⟨b2, 0, none⟩, 28, [.int .i64 r_4.Rows, .int .i64 r_4.Cols, .slice B2 r_4.Cells.length c3], 3⟩, ⟨some ⟨b3, 0, none⟩, 28, [.int .i64 r_6.Rows, .int .i64 r_6.Cols, .slice B3 r_6.Cells.length c4], 3⟩, ⟨B4, 116, (r_8.Cells.flatMap enc_Dyadic), c5 * 5⟩] [⟨B, (c.Gates.flatMap enc_Gate)⟩] := hS14
    refine sq 5 rfl rfl (Y_assign (v := .bool r_9) rfl rfl) ?_
    refine rw_nil ?_
    refine cw_ret ?_
    obtain ⟨rfl, rfl⟩ := pr2 (some_inj hF2)
    exact ret2 Try.results10 (v1 := .agg #[.int .i64 r_8.Rows, .int .i64 r_8.Cols, .slice B4 r_8.Cells.length c5]) (resAt_cellA (B := some ⟨b1, 0, none⟩) (i := 0) (cs := [.int .i64 r_8.Rows, .int .i64 r_8.Cols, .slice B4 r_8.Cells.length c5]) (vs := [.int .i64 r_8.Rows, .int .i64 r_8.Cols, .slice B4 r_8.Cells.length c5]) rfl k_ag_28 k_sz_28_3 (hS14.cf (i := 1) rfl) rfl rfl) (v2 := .bool r_9) (resAt_tmp rfl) ⟨B4, c5, rfl, (ST.subR (R' := []) (hS14.sel [5] rfl rfl) (fun _ h => by cases h))⟩

theorem c_laws_eqRing (a : TRing) (b : TRing)  (w0 : World)  (hS : ST w0 [] w0 [] []) {r_ : Bool} (hF : F_laws_eqRing a b = some r_) :
    CV Try.prog 136 #[.agg #[.int .i64 a.A, .int .i64 a.B, .int .i64 a.C, .int .i64 a.D], .agg #[.int .i64 b.A, .int .i64 b.B, .int .i64 b.C, .int .i64 b.D]] w0 (fun v w' => v = .bool r_ ∧ ST w0 [] w' [] []) := by
  unfold F_laws_eqRing at hF
  refine cv_of_cw 25 Try.func136 rfl Try.ntmps136 rfl ?_
  refine cw_seq ?_
  refine cw_region ?_
  refine ss 2 rfl rfl (Ys_box (T := 114) (v := .agg #[.int .i64 a.A, .int .i64 a.B, .int .i64 a.C, .int .i64 a.D]) (cs := [.int .i64 a.A, .int .i64 a.B, .int .i64 a.C, .int .i64 a.D]) (m := 4) hS rfl rfl rfl rfl) ?_
  rintro _ w_ ⟨b1, rfl, hS1⟩
  refine ss 3 rfl rfl (Ys_box (T := 114) (v := .agg #[.int .i64 b.A, .int .i64 b.B, .int .i64 b.C, .int .i64 b.D]) (cs := [.int .i64 b.A, .int .i64 b.B, .int .i64 b.C, .int .i64 b.D]) (m := 4) hS1 rfl rfl rfl rfl) ?_
  rintro _ w_1 ⟨b2, rfl, hS2⟩
  have hS2 : ST w0 [] _ [⟨some ⟨b1, 0, none⟩, 114, [.int .i64 a.A, .int .i64 a.B, .int .i64 a.C, .int .i64 a.D], 4⟩, ⟨some ⟨b2, 0, none⟩, 114, [.int .i64 b.A, .int .i64 b.B, .int .i64 b.C, .int .i64 b.D], 4⟩] [] := hS2
  refine sq 4 rfl rfl (Y_assign (v := .bool false) rfl rfl) ?_
  refine rw_nil ?_
  refine cw_seq ?_
  refine cw_seq ?_
  refine cw_region ?_
  refine sq 5 rfl rfl (Y_fieldAddr (B := some ⟨b1, 0, none⟩) (i := 0) (s := 0) k_fd_114_0_0_3 k_sz_3_1 rfl rfl) ?_
  refine sq 6 rfl rfl (Y_load1 (B := some ⟨b1, 0, none⟩) (i := 0) (cs := [.int .i64 a.A, .int .i64 a.B, .int .i64 a.C, .int .i64 a.D]) (v := .int .i64 a.A) k_sc_3 rfl rfl (hS2.cf (i := 0) rfl) rfl) ?_
  refine sq 7 rfl rfl (Y_fieldAddr (B := some ⟨b2, 0, none⟩) (i := 0) (s := 0) k_fd_114_0_0_3 k_sz_3_1 rfl rfl) ?_
  refine sq 8 rfl rfl (Y_load1 (B := some ⟨b2, 0, none⟩) (i := 0) (cs := [.int .i64 b.A, .int .i64 b.B, .int .i64 b.C, .int .i64 b.D]) (v := .int .i64 b.A) k_sc_3 rfl rfl (hS2.cf (i := 1) rfl) rfl) ?_
  refine sq 9 rfl rfl (Y_ne (k := .i64) (a := a.A) (b := b.A) rfl rfl rfl) ?_
  refine rw_nil ?_
  refine cw_cond (b := (a.A != b.A)) rfl (fun hb => ?_) (fun hb => ?_)
  · skip
    have hF1 := ct hF hb
    refine cw_seq ?_
    refine cw_region ?_
    refine sq 4 rfl rfl (Y_assign (v := .bool false) rfl rfl) ?_
    refine rw_nil ?_
    refine cw_ret ?_
    obtain rfl := some_inj hF1
    exact ret1 Try.results136 (v1 := .bool false) (resAt_tmp rfl) ⟨rfl, (ST.subR (R' := []) (hS2.sel [] rfl rfl) (fun _ h => by cases h))⟩
  · skip
    have hF2 := cf' hF hb
    refine cw_skip ?_
    refine cw_seq ?_
    refine cw_seq ?_
    refine cw_region ?_
    refine sq 10 rfl rfl (Y_fieldAddr (B := some ⟨b1, 0, none⟩) (i := 0) (s := 0) k_fd_114_1_1_3 k_sz_3_1 rfl rfl) ?_
    refine sq 11 rfl rfl (Y_load1 (B := some ⟨b1, 0, none⟩) (i := 1) (cs := [.int .i64 a.A, .int .i64 a.B, .int .i64 a.C, .int .i64 a.D]) (v := .int .i64 a.B) k_sc_3 rfl rfl (hS2.cf (i := 0) rfl) rfl) ?_
    refine sq 12 rfl rfl (Y_fieldAddr (B := some ⟨b2, 0, none⟩) (i := 0) (s := 0) k_fd_114_1_1_3 k_sz_3_1 rfl rfl) ?_
    refine sq 13 rfl rfl (Y_load1 (B := some ⟨b2, 0, none⟩) (i := 1) (cs := [.int .i64 b.A, .int .i64 b.B, .int .i64 b.C, .int .i64 b.D]) (v := .int .i64 b.B) k_sc_3 rfl rfl (hS2.cf (i := 1) rfl) rfl) ?_
    refine sq 14 rfl rfl (Y_ne (k := .i64) (a := a.B) (b := b.B) rfl rfl rfl) ?_
    refine rw_nil ?_
    refine cw_cond (b := (a.B != b.B)) rfl (fun hb1 => ?_) (fun hb1 => ?_)
    · skip
      have hF3 := ct hF2 hb1
      refine cw_seq ?_
      refine cw_region ?_
      refine sq 4 rfl rfl (Y_assign (v := .bool false) rfl rfl) ?_
      refine rw_nil ?_
      refine cw_ret ?_
      obtain rfl := some_inj hF3
      exact ret1 Try.results136 (v1 := .bool false) (resAt_tmp rfl) ⟨rfl, (ST.subR (R' := []) (hS2.sel [] rfl rfl) (fun _ h => by cases h))⟩
    · skip
      have hF4 := cf' hF2 hb1
      refine cw_skip ?_
      refine cw_seq ?_
      refine cw_seq ?_
      refine cw_region ?_
      refine sq 15 rfl rfl (Y_fieldAddr (B := some ⟨b1, 0, none⟩) (i := 0) (s := 0) k_fd_114_2_2_3 k_sz_3_1 rfl rfl) ?_
      refine sq 16 rfl rfl (Y_load1 (B := some ⟨b1, 0, none⟩) (i := 2) (cs := [.int .i64 a.A, .int .i64 a.B, .int .i64 a.C, .int .i64 a.D]) (v := .int .i64 a.C) k_sc_3 rfl rfl (hS2.cf (i := 0) rfl) rfl) ?_
      refine sq 17 rfl rfl (Y_fieldAddr (B := some ⟨b2, 0, none⟩) (i := 0) (s := 0) k_fd_114_2_2_3 k_sz_3_1 rfl rfl) ?_
      refine sq 18 rfl rfl (Y_load1 (B := some ⟨b2, 0, none⟩) (i := 2) (cs := [.int .i64 b.A, .int .i64 b.B, .int .i64 b.C, .int .i64 b.D]) (v := .int .i64 b.C) k_sc_3 rfl rfl (hS2.cf (i := 1) rfl) rfl) ?_
      refine sq 19 rfl rfl (Y_ne (k := .i64) (a := a.C) (b := b.C) rfl rfl rfl) ?_
      refine rw_nil ?_
      refine cw_cond (b := (a.C != b.C)) rfl (fun hb2 => ?_) (fun hb2 => ?_)
      · skip
        have hF5 := ct hF4 hb2
        refine cw_seq ?_
        refine cw_region ?_
        refine sq 4 rfl rfl (Y_assign (v := .bool false) rfl rfl) ?_
        refine rw_nil ?_
        refine cw_ret ?_
        obtain rfl := some_inj hF5
        exact ret1 Try.results136 (v1 := .bool false) (resAt_tmp rfl) ⟨rfl, (ST.subR (R' := []) (hS2.sel [] rfl rfl) (fun _ h => by cases h))⟩
      · skip
        have hF6 := cf' hF4 hb2
        refine cw_skip ?_
        refine cw_seq ?_
        refine cw_seq ?_
        refine cw_region ?_
        refine sq 20 rfl rfl (Y_fieldAddr (B := some ⟨b1, 0, none⟩) (i := 0) (s := 0) k_fd_114_3_3_3 k_sz_3_1 rfl rfl) ?_
        refine sq 21 rfl rfl (Y_load1 (B := some ⟨b1, 0, none⟩) (i := 3) (cs := [.int .i64 a.A, .int .i64 a.B, .int .i64 a.C, .int .i64 a.D]) (v := .int .i64 a.D) k_sc_3 rfl rfl (hS2.cf (i := 0) rfl) rfl) ?_
        refine sq 22 rfl rfl (Y_fieldAddr (B := some ⟨b2, 0, none⟩) (i := 0) (s := 0) k_fd_114_3_3_3 k_sz_3_1 rfl rfl) ?_
        refine sq 23 rfl rfl (Y_load1 (B := some ⟨b2, 0, none⟩) (i := 3) (cs := [.int .i64 b.A, .int .i64 b.B, .int .i64 b.C, .int .i64 b.D]) (v := .int .i64 b.D) k_sc_3 rfl rfl (hS2.cf (i := 1) rfl) rfl) ?_
        refine sq 24 rfl rfl (Y_ne (k := .i64) (a := a.D) (b := b.D) rfl rfl rfl) ?_
        refine rw_nil ?_
        refine cw_cond (b := (a.D != b.D)) rfl (fun hb3 => ?_) (fun hb3 => ?_)
        · skip
          have hF7 := ct hF6 hb3
          refine cw_seq ?_
          refine cw_region ?_
          refine sq 4 rfl rfl (Y_assign (v := .bool false) rfl rfl) ?_
          refine rw_nil ?_
          refine cw_ret ?_
          obtain rfl := some_inj hF7
          exact ret1 Try.results136 (v1 := .bool false) (resAt_tmp rfl) ⟨rfl, (ST.subR (R' := []) (hS2.sel [] rfl rfl) (fun _ h => by cases h))⟩
        · skip
          have hF8 := cf' hF6 hb3
          refine cw_skip ?_
          refine cw_seq ?_
          refine cw_region ?_
          refine sq 4 rfl rfl (Y_assign (v := .bool true) rfl rfl) ?_
          refine rw_nil ?_
          refine cw_ret ?_
          obtain rfl := some_inj hF8
          exact ret1 Try.results136 (v1 := .bool true) (resAt_tmp rfl) ⟨rfl, (ST.subR (R' := []) (hS2.sel [] rfl rfl) (fun _ h => by cases h))⟩

theorem c_laws_eqDyadic (a : TDyadic) (b : TDyadic)  (w0 : World)  (hS : ST w0 [] w0 [] []) {r_ : Bool} (hF : F_laws_eqDyadic a b = some r_) :
    CV Try.prog 90 #[.agg #[.int .i64 a.Num.A, .int .i64 a.Num.B, .int .i64 a.Num.C, .int .i64 a.Num.D, .int .i64 a.Exp], .agg #[.int .i64 b.Num.A, .int .i64 b.Num.B, .int .i64 b.Num.C, .int .i64 b.Num.D, .int .i64 b.Exp]] w0 (fun v w' => v = .bool r_ ∧ ST w0 [] w' [] []) := by
  unfold F_laws_eqDyadic at hF
  refine cv_of_cw 16 Try.func90 rfl Try.ntmps90 rfl ?_
  refine cw_seq ?_
  refine cw_region ?_
  refine ss 2 rfl rfl (Ys_box (T := 116) (v := .agg #[.int .i64 a.Num.A, .int .i64 a.Num.B, .int .i64 a.Num.C, .int .i64 a.Num.D, .int .i64 a.Exp]) (cs := [.int .i64 a.Num.A, .int .i64 a.Num.B, .int .i64 a.Num.C, .int .i64 a.Num.D, .int .i64 a.Exp]) (m := 5) hS rfl rfl rfl rfl) ?_
  rintro _ w_ ⟨b1, rfl, hS1⟩
  refine ss 3 rfl rfl (Ys_box (T := 116) (v := .agg #[.int .i64 b.Num.A, .int .i64 b.Num.B, .int .i64 b.Num.C, .int .i64 b.Num.D, .int .i64 b.Exp]) (cs := [.int .i64 b.Num.A, .int .i64 b.Num.B, .int .i64 b.Num.C, .int .i64 b.Num.D, .int .i64 b.Exp]) (m := 5) hS1 rfl rfl rfl rfl) ?_
  rintro _ w_1 ⟨b2, rfl, hS2⟩
  have hS2 : ST w0 [] _ [⟨some ⟨b1, 0, none⟩, 116, [.int .i64 a.Num.A, .int .i64 a.Num.B, .int .i64 a.Num.C, .int .i64 a.Num.D, .int .i64 a.Exp], 5⟩, ⟨some ⟨b2, 0, none⟩, 116, [.int .i64 b.Num.A, .int .i64 b.Num.B, .int .i64 b.Num.C, .int .i64 b.Num.D, .int .i64 b.Exp], 5⟩] [] := hS2
  refine sq 4 rfl rfl (Y_assign (v := .bool false) rfl rfl) ?_
  refine rw_nil ?_
  refine cw_seq ?_
  refine cw_seq ?_
  refine cw_region ?_
  refine sq 5 rfl rfl (Y_fieldAddr (B := some ⟨b1, 0, none⟩) (i := 0) (s := 3) k_fd_116_0_0_114 k_sz_114_4 rfl rfl) ?_
  refine sq 6 rfl rfl (Y_loadA (B := some ⟨b1, 0, none⟩) (i := 0) (cs := [.int .i64 a.Num.A, .int .i64 a.Num.B, .int .i64 a.Num.C, .int .i64 a.Num.D, .int .i64 a.Exp]) (vs := [.int .i64 a.Num.A, .int .i64 a.Num.B, .int .i64 a.Num.C, .int .i64 a.Num.D]) k_ag_114 k_sz_114_4 rfl rfl (hS2.cf (i := 0) rfl) rfl rfl) ?_
  refine sq 7 rfl rfl (Y_fieldAddr (B := some ⟨b2, 0, none⟩) (i := 0) (s := 3) k_fd_116_0_0_114 k_sz_114_4 rfl rfl) ?_
  refine sq 8 rfl rfl (Y_loadA (B := some ⟨b2, 0, none⟩) (i := 0) (cs := [.int .i64 b.Num.A, .int .i64 b.Num.B, .int .i64 b.Num.C, .int .i64 b.Num.D, .int .i64 b.Exp]) (vs := [.int .i64 b.Num.A, .int .i64 b.Num.B, .int .i64 b.Num.C, .int .i64 b.Num.D]) k_ag_114 k_sz_114_4 rfl rfl (hS2.cf (i := 1) rfl) rfl rfl) ?_
  obtain ⟨r_1, hc, hF⟩ := bind_inv hF
  refine sc 9 rfl rfl (Yc_func (g := 136) (vs := [.agg #[.int .i64 a.Num.A, .int .i64 a.Num.B, .int .i64 a.Num.C, .int .i64 a.Num.D], .agg #[.int .i64 b.Num.A, .int .i64 b.Num.B, .int .i64 b.Num.C, .int .i64 b.Num.D]]) k_call_136 rfl (mc rfl (mc rfl mn)) (c_laws_eqRing a.Num b.Num _  (hS2.inn0 [] rfl) hc)) ?_
  rintro _ w_2 ⟨rfl, hd⟩
  have hS3 := hS2.out00 hd
  have hS3 : ST w0 [] _ [⟨some ⟨b1, 0, none⟩, 116, [.int .i64 a.Num.A, .int .i64 a.Num.B, .int .i64 a.Num.C, .int .i64 a.Num.D, .int .i64 a.Exp], 5⟩, ⟨some ⟨b2, 0, none⟩, 116, [.int .i64 b.Num.A, .int .i64 b.Num.B, .int .i64 b.Num.C, .int .i64 b.Num.D, .int .i64 b.Exp], 5⟩] [] := hS3
  refine sq 10 rfl rfl (Y_not (p := r_1) rfl rfl) ?_
  refine rw_nil ?_
  refine cw_cond (b := (!r_1)) rfl (fun hb => ?_) (fun hb => ?_)
  · skip
    have hF1 := ct hF hb
    refine cw_seq ?_
    refine cw_region ?_
    refine sq 4 rfl rfl (Y_assign (v := .bool false) rfl rfl) ?_
    refine rw_nil ?_
    refine cw_ret ?_
    obtain rfl := some_inj hF1
    exact ret1 Try.results90 (v1 := .bool false) (resAt_tmp rfl) ⟨rfl, (ST.subR (R' := []) (hS3.sel [] rfl rfl) (fun _ h => by cases h))⟩
  · skip
    have hF2 := cf' hF hb
    refine cw_skip ?_
    refine cw_seq ?_
    refine cw_seq ?_
    refine cw_region ?_
    refine sq 11 rfl rfl (Y_fieldAddr (B := some ⟨b1, 0, none⟩) (i := 0) (s := 0) k_fd_116_1_4_3 k_sz_3_1 rfl rfl) ?_
    refine sq 12 rfl rfl (Y_load1 (B := some ⟨b1, 0, none⟩) (i := 4) (cs := [.int .i64 a.Num.A, .int .i64 a.Num.B, .int .i64 a.Num.C, .int .i64 a.Num.D, .int .i64 a.Exp]) (v := .int .i64 a.Exp) k_sc_3 rfl rfl (hS3.cf (i := 0) rfl) rfl) ?_
    refine sq 13 rfl rfl (Y_fieldAddr (B := some ⟨b2, 0, none⟩) (i := 0) (s := 0) k_fd_116_1_4_3 k_sz_3_1 rfl rfl) ?_
    refine sq 14 rfl rfl (Y_load1 (B := some ⟨b2, 0, none⟩) (i := 4) (cs := [.int .i64 b.Num.A, .int .i64 b.Num.B, .int .i64 b.Num.C, .int .i64 b.Num.D, .int .i64 b.Exp]) (v := .int .i64 b.Exp) k_sc_3 rfl rfl (hS3.cf (i := 1) rfl) rfl) ?_
    refine sq 15 rfl rfl (Y_ne (k := .i64) (a := a.Exp) (b := b.Exp) rfl rfl rfl) ?_
    refine rw_nil ?_
    refine cw_cond (b := (a.Exp != b.Exp)) rfl (fun hb1 => ?_) (fun hb1 => ?_)
    · skip
      have hF3 := ct hF2 hb1
      refine cw_seq ?_
      refine cw_region ?_
      refine sq 4 rfl rfl (Y_assign (v := .bool false) rfl rfl) ?_
      refine rw_nil ?_
      refine cw_ret ?_
      obtain rfl := some_inj hF3
      exact ret1 Try.results90 (v1 := .bool false) (resAt_tmp rfl) ⟨rfl, (ST.subR (R' := []) (hS3.sel [] rfl rfl) (fun _ h => by cases h))⟩
    · skip
      have hF4 := cf' hF2 hb1
      refine cw_skip ?_
      refine cw_seq ?_
      refine cw_region ?_
      refine sq 4 rfl rfl (Y_assign (v := .bool true) rfl rfl) ?_
      refine rw_nil ?_
      refine cw_ret ?_
      obtain rfl := some_inj hF4
      exact ret1 Try.results90 (v1 := .bool true) (resAt_tmp rfl) ⟨rfl, (ST.subR (R' := []) (hS3.sel [] rfl rfl) (fun _ h => by cases h))⟩

theorem c_laws_eqDyadicS (a : List TDyadic) (b : List TDyadic) (B : Option Addr) (c n : Nat) (B1 : Option Addr) (c1 n1 : Nat) (w0 : World) (hn : a.length = n) (hn1 : b.length = n1) (hS : ST w0 [] w0 [] [⟨B, (a.flatMap enc_Dyadic)⟩, ⟨B1, (b.flatMap enc_Dyadic)⟩]) {r_ : Bool} (hF : F_laws_eqDyadicS a b = some r_) :
    CV Try.prog 40 #[.slice B n c, .slice B1 n1 c1] w0 (fun v w' => v = .bool r_ ∧ ST w0 [] w' [] []) := by
  subst hn
  subst hn1
  unfold F_laws_eqDyadicS at hF
  refine cv_of_cw 27 Try.func40 rfl Try.ntmps40 rfl ?_
  refine cw_seq ?_
  refine cw_region ?_
  refine sq 4 rfl rfl (Y_assign (v := .bool false) rfl rfl) ?_
  refine rw_nil ?_
  refine cw_seq ?_
  refine cw_seq ?_
  refine cw_region ?_
  refine sq 6 rfl rfl (Y_move (v := .slice B a.length c) rfl rfl) ?_
  refine sq 7 rfl rfl (Y_len (B := B) (m := a.length) (c := c) k_sl_26_116 rfl rfl) ?_
  refine sq 8 rfl rfl (Y_move (v := .slice B1 b.length c1) rfl rfl) ?_
  refine sq 9 rfl rfl (Y_len (B := B1) (m := b.length) (c := c1) k_sl_26_116 rfl rfl) ?_
  refine sq 10 rfl rfl (Y_ne (k := .i64) (a := (a.length : Int)) (b := (b.length : Int)) rfl rfl rfl) ?_
  refine rw_nil ?_
  refine cw_cond (b := ((a.length : Int) != (b.length : Int))) rfl (fun hb => ?_) (fun hb => ?_)
  · skip
    have hF1 := ct hF hb
    refine cw_seq ?_
    refine cw_region ?_
    refine sq 4 rfl rfl (Y_assign (v := .bool false) rfl rfl) ?_
    refine rw_nil ?_
    refine cw_ret ?_
    obtain rfl := some_inj hF1
    exact ret1 Try.results40 (v1 := .bool false) (resAt_tmp rfl) ⟨rfl, (ST.subR (R' := []) (hS.sel [] rfl rfl) (fun _ h => by cases h))⟩
  · skip
    have hF2 := cf' hF hb
    refine cw_skip ?_
    refine cw_seq ?_
    refine cw_seq ?_
    refine cw_region ?_
    refine sq 5 rfl rfl (Y_assign (v := .int .i64 0) rfl rfl) ?_
    refine rw_nil ?_
    obtain ⟨hN, hF2⟩ := chk_inv hF2
    obtain ⟨z, hz, hF3⟩ := bind_inv hF2
    refine cw_block ?_
    refine cw_loop (fun k f w => ∃ (i1 : Nat), FF f [(0, .slice B a.length c), (1, .slice B1 b.length c1), (5, .int .i64 (i1 : Int))] ∧ ST w0 [] w [] [⟨B, (a.flatMap enc_Dyadic)⟩, ⟨B1, (b.flatMap enc_Dyadic)⟩] ∧ i1 + k = a.length ∧ forX (F_laws_eqDyadicS_l1 a b) k i1 () = some z) a.length ⟨0, (FF.cons rfl (FF.cons rfl (FF.cons rfl FF.nil))), (hS.sel [] rfl rfl), Nat.zero_add _, hz⟩ ?_
    rintro k_ f w ⟨i1, hf, hS1, hik, hL⟩
    refine cw_seq ?_
    refine cw_seq ?_
    refine cw_region ?_
    refine sq 11 rfl rfl (Y_move (v := .int .i64 (i1 : Int)) rfl (hf.get 5 2 rfl)) ?_
    refine sq 12 rfl rfl (Y_move (v := .slice B a.length c) rfl (hf.get 0 0 rfl)) ?_
    refine sq 13 rfl rfl (Y_len (B := B) (m := a.length) (c := c) k_sl_26_116 rfl rfl) ?_
    refine sq 14 rfl rfl (Y_lt (k := .i64) (a := (i1 : Int)) (b := (a.length : Int)) rfl rfl rfl) ?_
    refine rw_nil ?_
    refine cw_cond (b := (decide ((i1 : Int) < (a.length : Int)))) rfl (fun hlt => ?_) (fun hlt => ?_)
    · skip
      have hlt1 : i1 < a.length := by have h := of_decide_eq_true hlt; omega
      obtain ⟨k_1, rfl⟩ : ∃ k2, k_ = k2 + 1 := ⟨k_ - 1, by omega⟩
      obtain ⟨y, hb1, hL1⟩ := forX_go hL
      unfold F_laws_eqDyadicS_l1 at hb1
      refine cw_skip ?_
      refine cw_seq ?_
      refine cw_block ?_
      refine cw_seq ?_
      obtain ⟨x, hx, hb1⟩ := bind_inv hb1
      obtain ⟨x1, hx1, hb1⟩ := bind_inv hb1
      obtain ⟨r_1, hc, hb1⟩ := bind_inv hb1
      refine ra_start (ST.sel hS1 [] rfl rfl).fn (by kernel_rfl) ?_
      have hS3 := hS1.drew
      refine ra_q 0 17 (v := .slice B a.length c) rfl rfl rfl (by kernel_rfl) (by kernel_rfl) (by kernel_rfl) (ST.sel hS3 [] rfl rfl) (fun w' hw' => (Y_move (v := .slice B a.length c) rfl (hf.get 0 0 rfl))) ?_
      refine ra_q 1 18 (v := .int .i64 (i1 : Int)) rfl rfl rfl (by kernel_rfl) (by kernel_rfl) (by kernel_rfl) (ST.sel hS3 [] rfl rfl) (fun w' hw' => (Y_move (v := .int .i64 (i1 : Int)) rfl (hf.get 5 2 rfl))) ?_
      refine ra_q 2 19 (v := pt B ((i1 : Int).toNat * 5)) rfl rfl rfl (by kernel_rfl) (by kernel_rfl) (by kernel_rfl) (ST.sel hS3 [] rfl rfl) (fun w' hw' => (Y_index (B := B) (m := a.length) (c := c) (k := .i64) (i := (i1 : Int)) k_sl_26_116 k_sz_116_5 rfl rfl rfl (gi_isSome enc_Dyadic_len rfl (ST.rf hw' (i := 0) rfl) hx) (getI_nn hx) (getI_ltI hx rfl))) ?_
      refine ra_q 3 20 (v := .agg #[.int .i64 x.Num.A, .int .i64 x.Num.B, .int .i64 x.Num.C, .int .i64 x.Num.D, .int .i64 x.Exp]) rfl rfl rfl (by kernel_rfl) (by kernel_rfl) (by kernel_rfl) (ST.sel hS3 [] rfl rfl) (fun w' hw' => (Y_loadA (B := B) (i := (i1 : Int).toNat * 5) (cs := (a.flatMap enc_Dyadic)) (vs := [.int .i64 x.Num.A, .int .i64 x.Num.B, .int .i64 x.Num.C, .int .i64 x.Num.D, .int .i64 x.Exp]) k_ag_116 k_sz_116_5 rfl rfl (ST.rf hw' (i := 0) rfl) (enc_Dyadic_len x) (gi_seg enc_Dyadic_len hx))) ?_
      refine ra_q 4 21 (v := .slice B1 b.length c1) rfl rfl rfl (by kernel_rfl) (by kernel_rfl) (by kernel_rfl) (ST.sel hS3 [] rfl rfl) (fun w' hw' => (Y_move (v := .slice B1 b.length c1) rfl (hf.get 1 1 rfl))) ?_
      refine ra_q 5 22 (v := .int .i64 (i1 : Int)) rfl rfl rfl (by kernel_rfl) (by kernel_rfl) (by kernel_rfl) (ST.sel hS3 [] rfl rfl) (fun w' hw' => (Y_move (v := .int .i64 (i1 : Int)) rfl (hf.get 5 2 rfl))) ?_
      refine ra_q 6 23 (v := pt B1 ((i1 : Int).toNat * 5)) rfl rfl rfl (by kernel_rfl) (by kernel_rfl) (by kernel_rfl) (ST.sel hS3 [] rfl rfl) (fun w' hw' => (Y_index (B := B1) (m := b.length) (c := c1) (k := .i64) (i := (i1 : Int)) k_sl_26_116 k_sz_116_5 rfl rfl rfl (gi_isSome enc_Dyadic_len rfl (ST.rf hw' (i := 1) rfl) hx1) (getI_nn hx1) (getI_ltI hx1 rfl))) ?_
      refine ra_q 7 24 (v := .agg #[.int .i64 x1.Num.A, .int .i64 x1.Num.B, .int .i64 x1.Num.C, .int .i64 x1.Num.D, .int .i64 x1.Exp]) rfl rfl rfl (by kernel_rfl) (by kernel_rfl) (by kernel_rfl) (ST.sel hS3 [] rfl rfl) (fun w' hw' => (Y_loadA (B := B1) (i := (i1 : Int).toNat * 5) (cs := (b.flatMap enc_Dyadic)) (vs := [.int .i64 x1.Num.A, .int .i64 x1.Num.B, .int .i64 x1.Num.C, .int .i64 x1.Num.D, .int .i64 x1.Exp]) k_ag_116 k_sz_116_5 rfl rfl (ST.rf hw' (i := 1) rfl) (enc_Dyadic_len x1) (gi_seg enc_Dyadic_len hx1))) ?_
      refine ra_all (rs := [8]) (by kernel_rfl) rfl ?_
      refine ra_c 25 (i := 8) rfl rfl rfl (Yc_func (g := 90) (vs := [.agg #[.int .i64 x.Num.A, .int .i64 x.Num.B, .int .i64 x.Num.C, .int .i64 x.Num.D, .int .i64 x.Exp], .agg #[.int .i64 x1.Num.A, .int .i64 x1.Num.B, .int .i64 x1.Num.C, .int .i64 x1.Num.D, .int .i64 x1.Exp]]) k_call_90 rfl (mc rfl (mc rfl mn)) (c_laws_eqDyadic x x1 _  (hS3.inn0 [] rfl) hc)) ?_ ?_
      · rintro _ w_ ⟨rfl, hd⟩
        have hS4 := hS3.out00 hd
        refine ⟨(ST.sel hS4 [] rfl rfl), ?_⟩
        refine ra_q 9 26 (v := .bool (!r_1)) rfl rfl rfl (by kernel_rfl) (by kernel_rfl) (by kernel_rfl) (ST.sel hS4 [] rfl rfl) (fun w' hw' => (Y_not (p := r_1) rfl rfl)) ?_
        refine ra_done (by kernel_rfl) ?_
        refine cw_cond (b := (!r_1)) rfl (fun hb2 => ?_) (fun hb2 => ?_)
        · skip
          have hF4 := ct hb1 hb2
          refine cw_seq ?_
          refine cw_region ?_
          refine sq 4 rfl rfl (Y_assign (v := .bool false) rfl rfl) ?_
          refine rw_nil ?_
          refine cw_ret ?_
          obtain rfl := some_inj hF4
          obtain rfl := some_inj hL1
          obtain rfl := some_inj hF3
          exact ret1 Try.results40 (v1 := .bool false) (resAt_tmp rfl) ⟨rfl, (ST.subR (R' := []) (hS4.sel [] rfl rfl) (fun _ h => by cases h))⟩
        · skip
          have hF5 := cf' hb1 hb2
          refine cw_skip ?_
          refine cw_region ?_
          refine sq 15 rfl rfl (Y_move (v := .int .i64 (i1 : Int)) rfl (hf.get 5 2 rfl)) ?_
          refine sq 16 rfl rfl (Y_add (k := .i64) (a := (i1 : Int)) (b := 1) rfl rfl rfl) ?_
          refine sq 5 rfl rfl (Y_assign (v := .int .i64 (IntKind.i64.wrap ((i1 : Int) + 1))) rfl rfl) ?_
          refine rw_nil ?_
          obtain rfl := some_inj hF5
          exact ⟨k_1, Nat.lt_succ_self _, i1 + 1, (FF.cons (hf.get 0 0 rfl) (FF.cons (hf.get 1 1 rfl) (FF.cons (congrArg (Value.int .i64) (wr_succ hlt1 hN)) FF.nil))), (hS4.sel [] rfl rfl), (by omega), hL1⟩
      exact allR_nil
    · skip
      obtain rfl : k_ = 0 := by have h := of_decide_eq_false hlt; omega
      refine cw_exit rfl ?_
      obtain rfl := some_inj hL
      refine cw_seq ?_
      refine cw_region ?_
      refine sq 4 rfl rfl (Y_assign (v := .bool true) rfl rfl) ?_
      refine rw_nil ?_
      refine cw_ret ?_
      obtain rfl := some_inj hF3
      exact ret1 Try.results40 (v1 := .bool true) (resAt_tmp rfl) ⟨rfl, (ST.subR (R' := []) (hS1.sel [] rfl rfl) (fun _ h => by cases h))⟩

theorem c_laws_eqMatrix (a : TMatrix) (b : TMatrix) (B : Option Addr) (c n : Nat) (B1 : Option Addr) (c1 n1 : Nat) (w0 : World) (hn : a.Cells.length = n) (hn1 : b.Cells.length = n1) (hS : ST w0 [] w0 [] [⟨B, (a.Cells.flatMap enc_Dyadic)⟩, ⟨B1, (b.Cells.flatMap enc_Dyadic)⟩]) {r_ : Bool} (hF : F_laws_eqMatrix a b = some r_) :
    CV Try.prog 11 #[.agg #[.int .i64 a.Rows, .int .i64 a.Cols, .slice B n c], .agg #[.int .i64 b.Rows, .int .i64 b.Cols, .slice B1 n1 c1]] w0 (fun v w' => v = .bool r_ ∧ ST w0 [] w' [] []) := by
  subst hn
  subst hn1
  unfold F_laws_eqMatrix at hF
  refine cv_of_cw 21 Try.func11 rfl Try.ntmps11 rfl ?_
  refine cw_seq ?_
  refine cw_region ?_
  refine ss 2 rfl rfl (Ys_box (T := 28) (v := .agg #[.int .i64 a.Rows, .int .i64 a.Cols, .slice B a.Cells.length c]) (cs := [.int .i64 a.Rows, .int .i64 a.Cols, .slice B a.Cells.length c]) (m := 3) hS rfl rfl rfl rfl) ?_
  rintro _ w_ ⟨b1, rfl, hS1⟩
  refine ss 3 rfl rfl (Ys_box (T := 28) (v := .agg #[.int .i64 b.Rows, .int .i64 b.Cols, .slice B1 b.Cells.length c1]) (cs := [.int .i64 b.Rows, .int .i64 b.Cols, .slice B1 b.Cells.length c1]) (m := 3) hS1 rfl rfl rfl rfl) ?_
  rintro _ w_1 ⟨b2, rfl, hS2⟩
  have hS2 : ST w0 [] _ [⟨some ⟨b1, 0, none⟩, 28, [.int .i64 a.Rows, .int .i64 a.Cols, .slice B a.Cells.length c], 3⟩, ⟨some ⟨b2, 0, none⟩, 28, [.int .i64 b.Rows, .int .i64 b.Cols, .slice B1 b.Cells.length c1], 3⟩] [⟨B, (a.Cells.flatMap enc_Dyadic)⟩, ⟨B1, (b.Cells.flatMap enc_Dyadic)⟩] := hS2
  refine sq 4 rfl rfl (Y_assign (v := .bool false) rfl rfl) ?_
  refine rw_nil ?_
  refine cw_seq ?_
  refine cw_seq ?_
  refine cw_region ?_
  refine sq 5 rfl rfl (Y_fieldAddr (B := some ⟨b1, 0, none⟩) (i := 0) (s := 0) k_fd_28_0_0_3 k_sz_3_1 rfl rfl) ?_
  refine sq 6 rfl rfl (Y_load1 (B := some ⟨b1, 0, none⟩) (i := 0) (cs := [.int .i64 a.Rows, .int .i64 a.Cols, .slice B a.Cells.length c]) (v := .int .i64 a.Rows) k_sc_3 rfl rfl (hS2.cf (i := 0) rfl) rfl) ?_
  refine sq 7 rfl rfl (Y_fieldAddr (B := some ⟨b2, 0, none⟩) (i := 0) (s := 0) k_fd_28_0_0_3 k_sz_3_1 rfl rfl) ?_
  refine sq 8 rfl rfl (Y_load1 (B := some ⟨b2, 0, none⟩) (i := 0) (cs := [.int .i64 b.Rows, .int .i64 b.Cols, .slice B1 b.Cells.length c1]) (v := .int .i64 b.Rows) k_sc_3 rfl rfl (hS2.cf (i := 1) rfl) rfl) ?_
  refine sq 9 rfl rfl (Y_ne (k := .i64) (a := a.Rows) (b := b.Rows) rfl rfl rfl) ?_
  refine rw_nil ?_
  refine cw_cond (b := (a.Rows != b.Rows)) rfl (fun hb => ?_) (fun hb => ?_)
  · skip
    have hF1 := ct hF hb
    refine cw_seq ?_
    refine cw_region ?_
    refine sq 4 rfl rfl (Y_assign (v := .bool false) rfl rfl) ?_
    refine rw_nil ?_
    refine cw_ret ?_
    obtain rfl := some_inj hF1
    exact ret1 Try.results11 (v1 := .bool false) (resAt_tmp rfl) ⟨rfl, (ST.subR (R' := []) (hS2.sel [] rfl rfl) (fun _ h => by cases h))⟩
  · skip
    have hF2 := cf' hF hb
    refine cw_skip ?_
    refine cw_seq ?_
    refine cw_seq ?_
    refine cw_region ?_
    refine sq 10 rfl rfl (Y_fieldAddr (B := some ⟨b1, 0, none⟩) (i := 0) (s := 0) k_fd_28_1_1_3 k_sz_3_1 rfl rfl) ?_
    refine sq 11 rfl rfl (Y_load1 (B := some ⟨b1, 0, none⟩) (i := 1) (cs := [.int .i64 a.Rows, .int .i64 a.Cols, .slice B a.Cells.length c]) (v := .int .i64 a.Cols) k_sc_3 rfl rfl (hS2.cf (i := 0) rfl) rfl) ?_
    refine sq 12 rfl rfl (Y_fieldAddr (B := some ⟨b2, 0, none⟩) (i := 0) (s := 0) k_fd_28_1_1_3 k_sz_3_1 rfl rfl) ?_
    refine sq 13 rfl rfl (Y_load1 (B := some ⟨b2, 0, none⟩) (i := 1) (cs := [.int .i64 b.Rows, .int .i64 b.Cols, .slice B1 b.Cells.length c1]) (v := .int .i64 b.Cols) k_sc_3 rfl rfl (hS2.cf (i := 1) rfl) rfl) ?_
    refine sq 14 rfl rfl (Y_ne (k := .i64) (a := a.Cols) (b := b.Cols) rfl rfl rfl) ?_
    refine rw_nil ?_
    refine cw_cond (b := (a.Cols != b.Cols)) rfl (fun hb1 => ?_) (fun hb1 => ?_)
    · skip
      have hF3 := ct hF2 hb1
      refine cw_seq ?_
      refine cw_region ?_
      refine sq 4 rfl rfl (Y_assign (v := .bool false) rfl rfl) ?_
      refine rw_nil ?_
      refine cw_ret ?_
      obtain rfl := some_inj hF3
      exact ret1 Try.results11 (v1 := .bool false) (resAt_tmp rfl) ⟨rfl, (ST.subR (R' := []) (hS2.sel [] rfl rfl) (fun _ h => by cases h))⟩
    · skip
      have hF4 := cf' hF2 hb1
      refine cw_skip ?_
      refine cw_seq ?_
      refine cw_seq ?_
      refine cw_region ?_
      refine sq 15 rfl rfl (Y_fieldAddr (B := some ⟨b1, 0, none⟩) (i := 0) (s := 0) k_fd_28_2_2_26 k_sz_26_1 rfl rfl) ?_
      refine sq 16 rfl rfl (Y_load1 (B := some ⟨b1, 0, none⟩) (i := 2) (cs := [.int .i64 a.Rows, .int .i64 a.Cols, .slice B a.Cells.length c]) (v := .slice B a.Cells.length c) k_sc_26 rfl rfl (hS2.cf (i := 0) rfl) rfl) ?_
      refine sq 17 rfl rfl (Y_fieldAddr (B := some ⟨b2, 0, none⟩) (i := 0) (s := 0) k_fd_28_2_2_26 k_sz_26_1 rfl rfl) ?_
      refine sq 18 rfl rfl (Y_load1 (B := some ⟨b2, 0, none⟩) (i := 2) (cs := [.int .i64 b.Rows, .int .i64 b.Cols, .slice B1 b.Cells.length c1]) (v := .slice B1 b.Cells.length c1) k_sc_26 rfl rfl (hS2.cf (i := 1) rfl) rfl) ?_
      obtain ⟨r_1, hc, hF4⟩ := bind_inv hF4
      refine sc 19 rfl rfl (Yc_func (g := 40) (vs := [.slice B a.Cells.length c, .slice B1 b.Cells.length c1]) k_call_40 rfl (mc rfl (mc rfl mn)) (c_laws_eqDyadicS a.Cells b.Cells B c a.Cells.length B1 c1 b.Cells.length _ rfl rfl (hS2.inn0 [(true, 0), (true, 1)] rfl) hc)) ?_
      rintro _ w_2 ⟨rfl, hd⟩
      have hS3 := hS2.out00 hd
      have hS3 : ST w0 [] _ [⟨some ⟨b1, 0, none⟩, 28, [.int .i64 a.Rows, .int .i64 a.Cols, .slice B a.Cells.length c], 3⟩, ⟨some ⟨b2, 0, none⟩, 28, [.int .i64 b.Rows, .int .i64 b.Cols, .slice B1 b.Cells.length c1], 3⟩] [⟨B, (a.Cells.flatMap enc_Dyadic)⟩, ⟨B1, (b.Cells.flatMap enc_Dyadic)⟩] := hS3
      refine sq 20 rfl rfl (Y_not (p := r_1) rfl rfl) ?_
      refine rw_nil ?_
      refine cw_cond (b := (!r_1)) rfl (fun hb2 => ?_) (fun hb2 => ?_)
      · skip
        have hF5 := ct hF4 hb2
        refine cw_seq ?_
        refine cw_region ?_
        refine sq 4 rfl rfl (Y_assign (v := .bool false) rfl rfl) ?_
        refine rw_nil ?_
        refine cw_ret ?_
        obtain rfl := some_inj hF5
        exact ret1 Try.results11 (v1 := .bool false) (resAt_tmp rfl) ⟨rfl, (ST.subR (R' := []) (hS3.sel [] rfl rfl) (fun _ h => by cases h))⟩
      · skip
        have hF6 := cf' hF4 hb2
        refine cw_skip ?_
        refine cw_seq ?_
        refine cw_region ?_
        refine sq 4 rfl rfl (Y_assign (v := .bool true) rfl rfl) ?_
        refine rw_nil ?_
        refine cw_ret ?_
        obtain rfl := some_inj hF6
        exact ret1 Try.results11 (v1 := .bool true) (resAt_tmp rfl) ⟨rfl, (ST.subR (R' := []) (hS3.sel [] rfl rfl) (fun _ h => by cases h))⟩

theorem c_laws_eqGate (a : TGate) (b : TGate)  (w0 : World)  (hS : ST w0 [] w0 [] []) {r_ : Bool} (hF : F_laws_eqGate a b = some r_) :
    CV Try.prog 91 #[.agg #[.int .i64 a.Kind, .int .i64 a.A, .int .i64 a.B], .agg #[.int .i64 b.Kind, .int .i64 b.A, .int .i64 b.B]] w0 (fun v w' => v = .bool r_ ∧ ST w0 [] w' [] []) := by
  unfold F_laws_eqGate at hF
  refine cv_of_cw 20 Try.func91 rfl Try.ntmps91 rfl ?_
  refine cw_seq ?_
  refine cw_region ?_
  refine ss 2 rfl rfl (Ys_box (T := 109) (v := .agg #[.int .i64 a.Kind, .int .i64 a.A, .int .i64 a.B]) (cs := [.int .i64 a.Kind, .int .i64 a.A, .int .i64 a.B]) (m := 3) hS rfl rfl rfl rfl) ?_
  rintro _ w_ ⟨b1, rfl, hS1⟩
  refine ss 3 rfl rfl (Ys_box (T := 109) (v := .agg #[.int .i64 b.Kind, .int .i64 b.A, .int .i64 b.B]) (cs := [.int .i64 b.Kind, .int .i64 b.A, .int .i64 b.B]) (m := 3) hS1 rfl rfl rfl rfl) ?_
  rintro _ w_1 ⟨b2, rfl, hS2⟩
  have hS2 : ST w0 [] _ [⟨some ⟨b1, 0, none⟩, 109, [.int .i64 a.Kind, .int .i64 a.A, .int .i64 a.B], 3⟩, ⟨some ⟨b2, 0, none⟩, 109, [.int .i64 b.Kind, .int .i64 b.A, .int .i64 b.B], 3⟩] [] := hS2
  refine sq 4 rfl rfl (Y_assign (v := .bool false) rfl rfl) ?_
  refine rw_nil ?_
  refine cw_seq ?_
  refine cw_seq ?_
  refine cw_region ?_
  refine sq 5 rfl rfl (Y_fieldAddr (B := some ⟨b1, 0, none⟩) (i := 0) (s := 0) k_fd_109_0_0_3 k_sz_3_1 rfl rfl) ?_
  refine sq 6 rfl rfl (Y_load1 (B := some ⟨b1, 0, none⟩) (i := 0) (cs := [.int .i64 a.Kind, .int .i64 a.A, .int .i64 a.B]) (v := .int .i64 a.Kind) k_sc_3 rfl rfl (hS2.cf (i := 0) rfl) rfl) ?_
  refine sq 7 rfl rfl (Y_fieldAddr (B := some ⟨b2, 0, none⟩) (i := 0) (s := 0) k_fd_109_0_0_3 k_sz_3_1 rfl rfl) ?_
  refine sq 8 rfl rfl (Y_load1 (B := some ⟨b2, 0, none⟩) (i := 0) (cs := [.int .i64 b.Kind, .int .i64 b.A, .int .i64 b.B]) (v := .int .i64 b.Kind) k_sc_3 rfl rfl (hS2.cf (i := 1) rfl) rfl) ?_
  refine sq 9 rfl rfl (Y_ne (k := .i64) (a := a.Kind) (b := b.Kind) rfl rfl rfl) ?_
  refine rw_nil ?_
  refine cw_cond (b := (a.Kind != b.Kind)) rfl (fun hb => ?_) (fun hb => ?_)
  · skip
    have hF1 := ct hF hb
    refine cw_seq ?_
    refine cw_region ?_
    refine sq 4 rfl rfl (Y_assign (v := .bool false) rfl rfl) ?_
    refine rw_nil ?_
    refine cw_ret ?_
    obtain rfl := some_inj hF1
    exact ret1 Try.results91 (v1 := .bool false) (resAt_tmp rfl) ⟨rfl, (ST.subR (R' := []) (hS2.sel [] rfl rfl) (fun _ h => by cases h))⟩
  · skip
    have hF2 := cf' hF hb
    refine cw_skip ?_
    refine cw_seq ?_
    refine cw_seq ?_
    refine cw_region ?_
    refine sq 10 rfl rfl (Y_fieldAddr (B := some ⟨b1, 0, none⟩) (i := 0) (s := 0) k_fd_109_1_1_3 k_sz_3_1 rfl rfl) ?_
    refine sq 11 rfl rfl (Y_load1 (B := some ⟨b1, 0, none⟩) (i := 1) (cs := [.int .i64 a.Kind, .int .i64 a.A, .int .i64 a.B]) (v := .int .i64 a.A) k_sc_3 rfl rfl (hS2.cf (i := 0) rfl) rfl) ?_
    refine sq 12 rfl rfl (Y_fieldAddr (B := some ⟨b2, 0, none⟩) (i := 0) (s := 0) k_fd_109_1_1_3 k_sz_3_1 rfl rfl) ?_
    refine sq 13 rfl rfl (Y_load1 (B := some ⟨b2, 0, none⟩) (i := 1) (cs := [.int .i64 b.Kind, .int .i64 b.A, .int .i64 b.B]) (v := .int .i64 b.A) k_sc_3 rfl rfl (hS2.cf (i := 1) rfl) rfl) ?_
    refine sq 14 rfl rfl (Y_ne (k := .i64) (a := a.A) (b := b.A) rfl rfl rfl) ?_
    refine rw_nil ?_
    refine cw_cond (b := (a.A != b.A)) rfl (fun hb1 => ?_) (fun hb1 => ?_)
    · skip
      have hF3 := ct hF2 hb1
      refine cw_seq ?_
      refine cw_region ?_
      refine sq 4 rfl rfl (Y_assign (v := .bool false) rfl rfl) ?_
      refine rw_nil ?_
      refine cw_ret ?_
      obtain rfl := some_inj hF3
      exact ret1 Try.results91 (v1 := .bool false) (resAt_tmp rfl) ⟨rfl, (ST.subR (R' := []) (hS2.sel [] rfl rfl) (fun _ h => by cases h))⟩
    · skip
      have hF4 := cf' hF2 hb1
      refine cw_skip ?_
      refine cw_seq ?_
      refine cw_seq ?_
      refine cw_region ?_
      refine sq 15 rfl rfl (Y_fieldAddr (B := some ⟨b1, 0, none⟩) (i := 0) (s := 0) k_fd_109_2_2_3 k_sz_3_1 rfl rfl) ?_
      refine sq 16 rfl rfl (Y_load1 (B := some ⟨b1, 0, none⟩) (i := 2) (cs := [.int .i64 a.Kind, .int .i64 a.A, .int .i64 a.B]) (v := .int .i64 a.B) k_sc_3 rfl rfl (hS2.cf (i := 0) rfl) rfl) ?_
      refine sq 17 rfl rfl (Y_fieldAddr (B := some ⟨b2, 0, none⟩) (i := 0) (s := 0) k_fd_109_2_2_3 k_sz_3_1 rfl rfl) ?_
      refine sq 18 rfl rfl (Y_load1 (B := some ⟨b2, 0, none⟩) (i := 2) (cs := [.int .i64 b.Kind, .int .i64 b.A, .int .i64 b.B]) (v := .int .i64 b.B) k_sc_3 rfl rfl (hS2.cf (i := 1) rfl) rfl) ?_
      refine sq 19 rfl rfl (Y_ne (k := .i64) (a := a.B) (b := b.B) rfl rfl rfl) ?_
      refine rw_nil ?_
      refine cw_cond (b := (a.B != b.B)) rfl (fun hb2 => ?_) (fun hb2 => ?_)
      · skip
        have hF5 := ct hF4 hb2
        refine cw_seq ?_
        refine cw_region ?_
        refine sq 4 rfl rfl (Y_assign (v := .bool false) rfl rfl) ?_
        refine rw_nil ?_
        refine cw_ret ?_
        obtain rfl := some_inj hF5
        exact ret1 Try.results91 (v1 := .bool false) (resAt_tmp rfl) ⟨rfl, (ST.subR (R' := []) (hS2.sel [] rfl rfl) (fun _ h => by cases h))⟩
      · skip
        have hF6 := cf' hF4 hb2
        refine cw_skip ?_
        refine cw_seq ?_
        refine cw_region ?_
        refine sq 4 rfl rfl (Y_assign (v := .bool true) rfl rfl) ?_
        refine rw_nil ?_
        refine cw_ret ?_
        obtain rfl := some_inj hF6
        exact ret1 Try.results91 (v1 := .bool true) (resAt_tmp rfl) ⟨rfl, (ST.subR (R' := []) (hS2.sel [] rfl rfl) (fun _ h => by cases h))⟩

theorem c_laws_eqGateS (a : List TGate) (b : List TGate) (B : Option Addr) (c n : Nat) (B1 : Option Addr) (c1 n1 : Nat) (w0 : World) (hn : a.length = n) (hn1 : b.length = n1) (hS : ST w0 [] w0 [] [⟨B, (a.flatMap enc_Gate)⟩, ⟨B1, (b.flatMap enc_Gate)⟩]) {r_ : Bool} (hF : F_laws_eqGateS a b = some r_) :
    CV Try.prog 41 #[.slice B n c, .slice B1 n1 c1] w0 (fun v w' => v = .bool r_ ∧ ST w0 [] w' [] []) := by
  subst hn
  subst hn1
  unfold F_laws_eqGateS at hF
  refine cv_of_cw 27 Try.func41 rfl Try.ntmps41 rfl ?_
  refine cw_seq ?_
  refine cw_region ?_
  refine sq 4 rfl rfl (Y_assign (v := .bool false) rfl rfl) ?_
  refine rw_nil ?_
  refine cw_seq ?_
  refine cw_seq ?_
  refine cw_region ?_
  refine sq 6 rfl rfl (Y_move (v := .slice B a.length c) rfl rfl) ?_
  refine sq 7 rfl rfl (Y_len (B := B) (m := a.length) (c := c) k_sl_31_109 rfl rfl) ?_
  refine sq 8 rfl rfl (Y_move (v := .slice B1 b.length c1) rfl rfl) ?_
  refine sq 9 rfl rfl (Y_len (B := B1) (m := b.length) (c := c1) k_sl_31_109 rfl rfl) ?_
  refine sq 10 rfl rfl (Y_ne (k := .i64) (a := (a.length : Int)) (b := (b.length : Int)) rfl rfl rfl) ?_
  refine rw_nil ?_
  refine cw_cond (b := ((a.length : Int) != (b.length : Int))) rfl (fun hb => ?_) (fun hb => ?_)
  · skip
    have hF1 := ct hF hb
    refine cw_seq ?_
    refine cw_region ?_
    refine sq 4 rfl rfl (Y_assign (v := .bool false) rfl rfl) ?_
    refine rw_nil ?_
    refine cw_ret ?_
    obtain rfl := some_inj hF1
    exact ret1 Try.results41 (v1 := .bool false) (resAt_tmp rfl) ⟨rfl, (ST.subR (R' := []) (hS.sel [] rfl rfl) (fun _ h => by cases h))⟩
  · skip
    have hF2 := cf' hF hb
    refine cw_skip ?_
    refine cw_seq ?_
    refine cw_seq ?_
    refine cw_region ?_
    refine sq 5 rfl rfl (Y_assign (v := .int .i64 0) rfl rfl) ?_
    refine rw_nil ?_
    obtain ⟨hN, hF2⟩ := chk_inv hF2
    obtain ⟨z, hz, hF3⟩ := bind_inv hF2
    refine cw_block ?_
    refine cw_loop (fun k f w => ∃ (i1 : Nat), FF f [(0, .slice B a.length c), (1, .slice B1 b.length c1), (5, .int .i64 (i1 : Int))] ∧ ST w0 [] w [] [⟨B, (a.flatMap enc_Gate)⟩, ⟨B1, (b.flatMap enc_Gate)⟩] ∧ i1 + k = a.length ∧ forX (F_laws_eqGateS_l1 a b) k i1 () = some z) a.length ⟨0, (FF.cons rfl (FF.cons rfl (FF.cons rfl FF.nil))), (hS.sel [] rfl rfl), Nat.zero_add _, hz⟩ ?_
    rintro k_ f w ⟨i1, hf, hS1, hik, hL⟩
    refine cw_seq ?_
    refine cw_seq ?_
    refine cw_region ?_
    refine sq 11 rfl rfl (Y_move (v := .int .i64 (i1 : Int)) rfl (hf.get 5 2 rfl)) ?_
    refine sq 12 rfl rfl (Y_move (v := .slice B a.length c) rfl (hf.get 0 0 rfl)) ?_
    refine sq 13 rfl rfl (Y_len (B := B) (m := a.length) (c := c) k_sl_31_109 rfl rfl) ?_
    refine sq 14 rfl rfl (Y_lt (k := .i64) (a := (i1 : Int)) (b := (a.length : Int)) rfl rfl rfl) ?_
    refine rw_nil ?_
    refine cw_cond (b := (decide ((i1 : Int) < (a.length : Int)))) rfl (fun hlt => ?_) (fun hlt => ?_)
    · skip
      have hlt1 : i1 < a.length := by have h := of_decide_eq_true hlt; omega
      obtain ⟨k_1, rfl⟩ : ∃ k2, k_ = k2 + 1 := ⟨k_ - 1, by omega⟩
      obtain ⟨y, hb1, hL1⟩ := forX_go hL
      unfold F_laws_eqGateS_l1 at hb1
      refine cw_skip ?_
      refine cw_seq ?_
      refine cw_block ?_
      refine cw_seq ?_
      obtain ⟨x, hx, hb1⟩ := bind_inv hb1
      obtain ⟨x1, hx1, hb1⟩ := bind_inv hb1
      obtain ⟨r_1, hc, hb1⟩ := bind_inv hb1
      refine ra_start (ST.sel hS1 [] rfl rfl).fn (by kernel_rfl) ?_
      have hS3 := hS1.drew
      refine ra_q 0 17 (v := .slice B a.length c) rfl rfl rfl (by kernel_rfl) (by kernel_rfl) (by kernel_rfl) (ST.sel hS3 [] rfl rfl) (fun w' hw' => (Y_move (v := .slice B a.length c) rfl (hf.get 0 0 rfl))) ?_
      refine ra_q 1 18 (v := .int .i64 (i1 : Int)) rfl rfl rfl (by kernel_rfl) (by kernel_rfl) (by kernel_rfl) (ST.sel hS3 [] rfl rfl) (fun w' hw' => (Y_move (v := .int .i64 (i1 : Int)) rfl (hf.get 5 2 rfl))) ?_
      refine ra_q 2 19 (v := pt B ((i1 : Int).toNat * 3)) rfl rfl rfl (by kernel_rfl) (by kernel_rfl) (by kernel_rfl) (ST.sel hS3 [] rfl rfl) (fun w' hw' => (Y_index (B := B) (m := a.length) (c := c) (k := .i64) (i := (i1 : Int)) k_sl_31_109 k_sz_109_3 rfl rfl rfl (gi_isSome enc_Gate_len rfl (ST.rf hw' (i := 0) rfl) hx) (getI_nn hx) (getI_ltI hx rfl))) ?_
      refine ra_q 3 20 (v := .agg #[.int .i64 x.Kind, .int .i64 x.A, .int .i64 x.B]) rfl rfl rfl (by kernel_rfl) (by kernel_rfl) (by kernel_rfl) (ST.sel hS3 [] rfl rfl) (fun w' hw' => (Y_loadA (B := B) (i := (i1 : Int).toNat * 3) (cs := (a.flatMap enc_Gate)) (vs := [.int .i64 x.Kind, .int .i64 x.A, .int .i64 x.B]) k_ag_109 k_sz_109_3 rfl rfl (ST.rf hw' (i := 0) rfl) (enc_Gate_len x) (gi_seg enc_Gate_len hx))) ?_
      refine ra_q 4 21 (v := .slice B1 b.length c1) rfl rfl rfl (by kernel_rfl) (by kernel_rfl) (by kernel_rfl) (ST.sel hS3 [] rfl rfl) (fun w' hw' => (Y_move (v := .slice B1 b.length c1) rfl (hf.get 1 1 rfl))) ?_
      refine ra_q 5 22 (v := .int .i64 (i1 : Int)) rfl rfl rfl (by kernel_rfl) (by kernel_rfl) (by kernel_rfl) (ST.sel hS3 [] rfl rfl) (fun w' hw' => (Y_move (v := .int .i64 (i1 : Int)) rfl (hf.get 5 2 rfl))) ?_
      refine ra_q 6 23 (v := pt B1 ((i1 : Int).toNat * 3)) rfl rfl rfl (by kernel_rfl) (by kernel_rfl) (by kernel_rfl) (ST.sel hS3 [] rfl rfl) (fun w' hw' => (Y_index (B := B1) (m := b.length) (c := c1) (k := .i64) (i := (i1 : Int)) k_sl_31_109 k_sz_109_3 rfl rfl rfl (gi_isSome enc_Gate_len rfl (ST.rf hw' (i := 1) rfl) hx1) (getI_nn hx1) (getI_ltI hx1 rfl))) ?_
      refine ra_q 7 24 (v := .agg #[.int .i64 x1.Kind, .int .i64 x1.A, .int .i64 x1.B]) rfl rfl rfl (by kernel_rfl) (by kernel_rfl) (by kernel_rfl) (ST.sel hS3 [] rfl rfl) (fun w' hw' => (Y_loadA (B := B1) (i := (i1 : Int).toNat * 3) (cs := (b.flatMap enc_Gate)) (vs := [.int .i64 x1.Kind, .int .i64 x1.A, .int .i64 x1.B]) k_ag_109 k_sz_109_3 rfl rfl (ST.rf hw' (i := 1) rfl) (enc_Gate_len x1) (gi_seg enc_Gate_len hx1))) ?_
      refine ra_all (rs := [8]) (by kernel_rfl) rfl ?_
      refine ra_c 25 (i := 8) rfl rfl rfl (Yc_func (g := 91) (vs := [.agg #[.int .i64 x.Kind, .int .i64 x.A, .int .i64 x.B], .agg #[.int .i64 x1.Kind, .int .i64 x1.A, .int .i64 x1.B]]) k_call_91 rfl (mc rfl (mc rfl mn)) (c_laws_eqGate x x1 _  (hS3.inn0 [] rfl) hc)) ?_ ?_
      · rintro _ w_ ⟨rfl, hd⟩
        have hS4 := hS3.out00 hd
        refine ⟨(ST.sel hS4 [] rfl rfl), ?_⟩
        refine ra_q 9 26 (v := .bool (!r_1)) rfl rfl rfl (by kernel_rfl) (by kernel_rfl) (by kernel_rfl) (ST.sel hS4 [] rfl rfl) (fun w' hw' => (Y_not (p := r_1) rfl rfl)) ?_
        refine ra_done (by kernel_rfl) ?_
        refine cw_cond (b := (!r_1)) rfl (fun hb2 => ?_) (fun hb2 => ?_)
        · skip
          have hF4 := ct hb1 hb2
          refine cw_seq ?_
          refine cw_region ?_
          refine sq 4 rfl rfl (Y_assign (v := .bool false) rfl rfl) ?_
          refine rw_nil ?_
          refine cw_ret ?_
          obtain rfl := some_inj hF4
          obtain rfl := some_inj hL1
          obtain rfl := some_inj hF3
          exact ret1 Try.results41 (v1 := .bool false) (resAt_tmp rfl) ⟨rfl, (ST.subR (R' := []) (hS4.sel [] rfl rfl) (fun _ h => by cases h))⟩
        · skip
          have hF5 := cf' hb1 hb2
          refine cw_skip ?_
          refine cw_region ?_
          refine sq 15 rfl rfl (Y_move (v := .int .i64 (i1 : Int)) rfl (hf.get 5 2 rfl)) ?_
          refine sq 16 rfl rfl (Y_add (k := .i64) (a := (i1 : Int)) (b := 1) rfl rfl rfl) ?_
          refine sq 5 rfl rfl (Y_assign (v := .int .i64 (IntKind.i64.wrap ((i1 : Int) + 1))) rfl rfl) ?_
          refine rw_nil ?_
          obtain rfl := some_inj hF5
          exact ⟨k_1, Nat.lt_succ_self _, i1 + 1, (FF.cons (hf.get 0 0 rfl) (FF.cons (hf.get 1 1 rfl) (FF.cons (congrArg (Value.int .i64) (wr_succ hlt1 hN)) FF.nil))), (hS4.sel [] rfl rfl), (by omega), hL1⟩
      exact allR_nil
    · skip
      obtain rfl : k_ = 0 := by have h := of_decide_eq_false hlt; omega
      refine cw_exit rfl ?_
      obtain rfl := some_inj hL
      refine cw_seq ?_
      refine cw_region ?_
      refine sq 4 rfl rfl (Y_assign (v := .bool true) rfl rfl) ?_
      refine rw_nil ?_
      refine cw_ret ?_
      obtain rfl := some_inj hF3
      exact ret1 Try.results41 (v1 := .bool true) (resAt_tmp rfl) ⟨rfl, (ST.subR (R' := []) (hS1.sel [] rfl rfl) (fun _ h => by cases h))⟩

theorem c_laws_eqCircuit (a : TCircuit) (b : TCircuit) (B : Option Addr) (c n : Nat) (B1 : Option Addr) (c1 n1 : Nat) (w0 : World) (hn : a.Gates.length = n) (hn1 : b.Gates.length = n1) (hS : ST w0 [] w0 [] [⟨B, (a.Gates.flatMap enc_Gate)⟩, ⟨B1, (b.Gates.flatMap enc_Gate)⟩]) {r_ : Bool} (hF : F_laws_eqCircuit a b = some r_) :
    CV Try.prog 12 #[.agg #[.int .i64 a.Qubits, .slice B n c], .agg #[.int .i64 b.Qubits, .slice B1 n1 c1]] w0 (fun v w' => v = .bool r_ ∧ ST w0 [] w' [] []) := by
  subst hn
  subst hn1
  unfold F_laws_eqCircuit at hF
  refine cv_of_cw 16 Try.func12 rfl Try.ntmps12 rfl ?_
  refine cw_seq ?_
  refine cw_region ?_
  refine ss 2 rfl rfl (Ys_box (T := 33) (v := .agg #[.int .i64 a.Qubits, .slice B a.Gates.length c]) (cs := [.int .i64 a.Qubits, .slice B a.Gates.length c]) (m := 2) hS rfl rfl rfl rfl) ?_
  rintro _ w_ ⟨b1, rfl, hS1⟩
  refine ss 3 rfl rfl (Ys_box (T := 33) (v := .agg #[.int .i64 b.Qubits, .slice B1 b.Gates.length c1]) (cs := [.int .i64 b.Qubits, .slice B1 b.Gates.length c1]) (m := 2) hS1 rfl rfl rfl rfl) ?_
  rintro _ w_1 ⟨b2, rfl, hS2⟩
  have hS2 : ST w0 [] _ [⟨some ⟨b1, 0, none⟩, 33, [.int .i64 a.Qubits, .slice B a.Gates.length c], 2⟩, ⟨some ⟨b2, 0, none⟩, 33, [.int .i64 b.Qubits, .slice B1 b.Gates.length c1], 2⟩] [⟨B, (a.Gates.flatMap enc_Gate)⟩, ⟨B1, (b.Gates.flatMap enc_Gate)⟩] := hS2
  refine sq 4 rfl rfl (Y_assign (v := .bool false) rfl rfl) ?_
  refine rw_nil ?_
  refine cw_seq ?_
  refine cw_seq ?_
  refine cw_region ?_
  refine sq 5 rfl rfl (Y_fieldAddr (B := some ⟨b1, 0, none⟩) (i := 0) (s := 0) k_fd_33_0_0_3 k_sz_3_1 rfl rfl) ?_
  refine sq 6 rfl rfl (Y_load1 (B := some ⟨b1, 0, none⟩) (i := 0) (cs := [.int .i64 a.Qubits, .slice B a.Gates.length c]) (v := .int .i64 a.Qubits) k_sc_3 rfl rfl (hS2.cf (i := 0) rfl) rfl) ?_
  refine sq 7 rfl rfl (Y_fieldAddr (B := some ⟨b2, 0, none⟩) (i := 0) (s := 0) k_fd_33_0_0_3 k_sz_3_1 rfl rfl) ?_
  refine sq 8 rfl rfl (Y_load1 (B := some ⟨b2, 0, none⟩) (i := 0) (cs := [.int .i64 b.Qubits, .slice B1 b.Gates.length c1]) (v := .int .i64 b.Qubits) k_sc_3 rfl rfl (hS2.cf (i := 1) rfl) rfl) ?_
  refine sq 9 rfl rfl (Y_ne (k := .i64) (a := a.Qubits) (b := b.Qubits) rfl rfl rfl) ?_
  refine rw_nil ?_
  refine cw_cond (b := (a.Qubits != b.Qubits)) rfl (fun hb => ?_) (fun hb => ?_)
  · skip
    have hF1 := ct hF hb
    refine cw_seq ?_
    refine cw_region ?_
    refine sq 4 rfl rfl (Y_assign (v := .bool false) rfl rfl) ?_
    refine rw_nil ?_
    refine cw_ret ?_
    obtain rfl := some_inj hF1
    exact ret1 Try.results12 (v1 := .bool false) (resAt_tmp rfl) ⟨rfl, (ST.subR (R' := []) (hS2.sel [] rfl rfl) (fun _ h => by cases h))⟩
  · skip
    have hF2 := cf' hF hb
    refine cw_skip ?_
    refine cw_seq ?_
    refine cw_seq ?_
    refine cw_region ?_
    refine sq 10 rfl rfl (Y_fieldAddr (B := some ⟨b1, 0, none⟩) (i := 0) (s := 0) k_fd_33_1_1_31 k_sz_31_1 rfl rfl) ?_
    refine sq 11 rfl rfl (Y_load1 (B := some ⟨b1, 0, none⟩) (i := 1) (cs := [.int .i64 a.Qubits, .slice B a.Gates.length c]) (v := .slice B a.Gates.length c) k_sc_31 rfl rfl (hS2.cf (i := 0) rfl) rfl) ?_
    refine sq 12 rfl rfl (Y_fieldAddr (B := some ⟨b2, 0, none⟩) (i := 0) (s := 0) k_fd_33_1_1_31 k_sz_31_1 rfl rfl) ?_
    refine sq 13 rfl rfl (Y_load1 (B := some ⟨b2, 0, none⟩) (i := 1) (cs := [.int .i64 b.Qubits, .slice B1 b.Gates.length c1]) (v := .slice B1 b.Gates.length c1) k_sc_31 rfl rfl (hS2.cf (i := 1) rfl) rfl) ?_
    obtain ⟨r_1, hc, hF2⟩ := bind_inv hF2
    refine sc 14 rfl rfl (Yc_func (g := 41) (vs := [.slice B a.Gates.length c, .slice B1 b.Gates.length c1]) k_call_41 rfl (mc rfl (mc rfl mn)) (c_laws_eqGateS a.Gates b.Gates B c a.Gates.length B1 c1 b.Gates.length _ rfl rfl (hS2.inn0 [(true, 0), (true, 1)] rfl) hc)) ?_
    rintro _ w_2 ⟨rfl, hd⟩
    have hS3 := hS2.out00 hd
    have hS3 : ST w0 [] _ [⟨some ⟨b1, 0, none⟩, 33, [.int .i64 a.Qubits, .slice B a.Gates.length c], 2⟩, ⟨some ⟨b2, 0, none⟩, 33, [.int .i64 b.Qubits, .slice B1 b.Gates.length c1], 2⟩] [⟨B, (a.Gates.flatMap enc_Gate)⟩, ⟨B1, (b.Gates.flatMap enc_Gate)⟩] := hS3
    refine sq 15 rfl rfl (Y_not (p := r_1) rfl rfl) ?_
    refine rw_nil ?_
    refine cw_cond (b := (!r_1)) rfl (fun hb1 => ?_) (fun hb1 => ?_)
    · skip
      have hF3 := ct hF2 hb1
      refine cw_seq ?_
      refine cw_region ?_
      refine sq 4 rfl rfl (Y_assign (v := .bool false) rfl rfl) ?_
      refine rw_nil ?_
      refine cw_ret ?_
      obtain rfl := some_inj hF3
      exact ret1 Try.results12 (v1 := .bool false) (resAt_tmp rfl) ⟨rfl, (ST.subR (R' := []) (hS3.sel [] rfl rfl) (fun _ h => by cases h))⟩
    · skip
      have hF4 := cf' hF2 hb1
      refine cw_skip ?_
      refine cw_seq ?_
      refine cw_region ?_
      refine sq 4 rfl rfl (Y_assign (v := .bool true) rfl rfl) ?_
      refine rw_nil ?_
      refine cw_ret ?_
      obtain rfl := some_inj hF4
      exact ret1 Try.results12 (v1 := .bool true) (resAt_tmp rfl) ⟨rfl, (ST.subR (R' := []) (hS3.sel [] rfl rfl) (fun _ h => by cases h))⟩
end Go.VK
