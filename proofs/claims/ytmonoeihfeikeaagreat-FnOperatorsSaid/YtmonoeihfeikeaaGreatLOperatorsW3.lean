/- Walks: each Go function returns what its Lean function says. By program. -/
import Derived.Test.YtmonoeihfeikeaaGreatLOperatorsFa
import Derived.Test.YtmonoeihfeikeaaGreatLOperatorsShelf
import Derived.Test.YtmonoeihfeikeaaGreatLibQ
import Derived.Test.YtmonoeihfeikeaaGreatLOperatorsW2
set_option linter.unusedVariables false
set_option maxRecDepth 100000
set_option maxHeartbeats 4000000
namespace Go.VK
open Go.RowKit
open Go.Proofs
open Go.IntKind
attribute [local irreducible] CW RW RA CV Y Yw Yc Ys RetOf
attribute [local irreducible] F_laws_big F_spec_l1Cur_next F_spec_l1Cur_pick F_spec_l1Cur_among F_spec_l1In F_spec_l1Cur_gate F_spec_l1Cur_built F_spec_l1Cur_circuit F_spec_l1Cur_anyCircuit F_spec_DrawIsValidCircuit F_spec_DrawOperatorOf F_impl_within F_slices_IndexFunc_impl_Gate_impl_Gate F_slices_ContainsFunc_impl_Gate_impl_Gate F_impl_isTwo F_impl_IsValidGate F_impl_IsValidCircuit_1 F_impl_IsValidCircuit F_impl_isDim F_impl_matrixOf F_impl_whole F_impl_IdentityMatrix_1 F_impl_IdentityMatrix F_impl_isCoef F_impl_IsValidRing F_impl_MulOmega F_impl_phase F_impl_bitOf F_impl_flipped F_impl_comesFrom F_impl_small F_impl_entry F_impl_GateMatrix_1 F_impl_GateMatrix F_slices_IndexFunc_impl_Dyadic_impl_Dyadic F_slices_ContainsFunc_impl_Dyadic_impl_Dyadic F_impl_isEven F_impl_IsValidDyadic F_impl_IsValidMatrix_1 F_impl_IsValidMatrix F_impl_Matrix_at F_impl_ringIf F_impl_MulRing F_impl_DivRootTwo F_impl_DyadicOf F_impl_MulDyadic F_impl_MulRootTwo F_impl_raised F_impl_combined F_impl_AddRing F_impl_AddDyadic F_impl_MulMatrix_1 F_impl_MulMatrix F_impl_applied F_impl_OperatorOf F_spec_l4Gate F_spec_l4Good F_spec_l2C_matrix F_spec_l1All F_spec_l1Good F_spec_l2C_ring F_spec_l1Root F_spec_l1Even F_spec_l1Half F_spec_l2Low F_spec_l1Add F_spec_l2C_add F_spec_l1Mul F_spec_l2C_mul F_spec_l2C_times F_spec_l1Turn F_spec_l2Power F_spec_l6Bit F_spec_l1Neg F_spec_l2Neg F_spec_l6One F_spec_l6Cell F_spec_l6Gate F_spec_l2C_run F_spec_l3Unit F_spec_OperatorOf F_spec_EqualMatrices F_spec_l1Has F_spec_l3Dim F_spec_l2Good F_spec_l3Good F_spec_l1Conj F_spec_l2Conj F_spec_l3Adj F_spec_IsUnitary F_impl_InverseGate F_impl_circuitIf F_impl_Inverse F_slices_Concat_impl_Gate_impl_Gate F_impl_Concat F_impl_ScaleMatrix_1 F_impl_ScaleMatrix F_slices_Equal_impl_Dyadic_impl_Dyadic F_impl_EqualMatrices F_impl_EqualUpToPhase F_impl_IsPhase F_spec_MulMatrix F_laws_FnOperators
theorem c_spec_l2Power (k_ : Int)  (w0 : World)  (hS : ST w0 [] w0 [] []) {r_ : TDyadic} (hF : F_spec_l2Power k_ = some r_) :
  CV Tryz.prog 82 #[vi k_] w0 (fun v w' => v = (gD_ r_) ∧ ST w0 [] w' [] []) := by
 unfold F_spec_l2Power at hF
 refine cv_of_cw 7 Tryz.func82 rfl Tryz.ntmps82 rfl ?_
 refine cw_seq (cw_region ?_)
 refine sS 2 (Ys_alloc (T := 63) (cs := kZ_) (m := 5) hS k_zero_63 rfl rfl rfl) ?_
 rintro _ w_ ⟨b, rfl, hS1⟩
 refine rw_nil (cw_seq (cw_region ?_))
 refine sQ 3 (Y_buildS (zs := [vi 0, vi 0, vi 0, vi 0]) (vs := [(0, vi 1)]) (cs := [vi 1, vi 0, vi 0, vi 0]) k_pl_61 k_zero_61 rfl (mpc rfl mpn) rfl) ?_
 refine sQ 4 (Y_move (v := vi k_) rfl rfl) ?_
 obtain ⟨r_1, hc, hF⟩ := bind_inv hF
 refine sc 5 rfl rfl (Yc_func (g := 128) (vs := [.agg #[vi 1, vi 0, vi 0, vi 0], vi k_]) k_call_128 rfl (mc rfl (mc rfl mn)) (c_spec_l1Turn (TRing.mk 1 0 0 0) k_ _  (hS1.inn0 [] rfl) hc)) ?_
 rintro _ w_1 ⟨rfl, hd⟩
 have hS2 := hS1.out00 hd
 refine sQ 6 (Y_buildS (zs := kZ_) (vs := [(0, gR_ r_1)]) (cs := [vi r_1.A, vi r_1.B, vi r_1.C, vi r_1.D, vi 0]) k_pl_63 k_zero_63 rfl (mpc rfl mpn) rfl) ?_
 refine s0 (Ys_store (i := 0) (s := 5) (B := aD b) (T' := 63) (v := .agg #[vi r_1.A, vi r_1.B, vi r_1.C, vi r_1.D, vi 0]) (vs := [vi r_1.A, vi r_1.B, vi r_1.C, vi r_1.D, vi 0]) (k := 0) (cs' := [vi r_1.A, vi r_1.B, vi r_1.C, vi r_1.D, vi 0]) hS2 k_sz_63_5 rfl rfl rfl rfl rfl rfl rfl (lB rfl) rfl rfl) ?_
 rintro _ w_2 ⟨rfl, hS3⟩
 refine rw_nil (cw_ret ?_)
 obtain rfl := some_inj hF
 exact ret1 Tryz.results82 (v1 := .agg #[vi r_1.A, vi r_1.B, vi r_1.C, vi r_1.D, vi 0]) (resAt_cellA (B := aD b) (i := 0) (cs := [vi r_1.A, vi r_1.B, vi r_1.C, vi r_1.D, vi 0]) (vs := [vi r_1.A, vi r_1.B, vi r_1.C, vi r_1.D, vi 0]) rfl k_ag_63 k_sz_63_5 (hS3.cf (i := 0) rfl) rfl rfl) ⟨rfl, (hS3.sN [])⟩

theorem c_spec_l6Bit (n : Int) (k_ : Int) (q : Int)  (w0 : World)  (hS : ST w0 [] w0 [] []) {r_ : Int} (hF : F_spec_l6Bit n k_ q = some r_) :
  CV Tryz.prog 164 #[vi n, vi k_, vi q] w0 (fun v w' => v = vi r_ ∧ ST w0 [] w' [] []) := by
 unfold F_spec_l6Bit at hF
 refine cv_of_cw 15 Tryz.func164 rfl Tryz.ntmps164 rfl ?_
 refine cw_seq (cw_region ?_)
 refine sQ 6 (Y_assign (v := vi 0) rfl rfl) (rw_nil (cw_seq (cw_region ?_)))
 refine sQ 7 (Y_move (v := vi k_) rfl rfl) ?_
 refine sQ 8 (Y_move (v := vi n) rfl rfl) ?_
 refine sQ 9 (Y_sub (k := .i64) (a := n) (b := 1) rfl rfl rfl) ?_
 refine sQ 10 (Y_move (v := vi q) rfl rfl) ?_
 refine sQ 11 (Y_sub (k := .i64) (a := (i64.wrap (n - 1))) (b := q) rfl rfl rfl) ?_
 refine sQ 12 (Y_conv (k := .i64) (a := (i64.wrap ((i64.wrap (n - 1)) - q))) (T := 3) (T' := 53) k_us_3 k_int_53_u64 rfl rfl) ?_
 obtain ⟨hsh, hF⟩ := chk_inv hF
 refine sQ 13 (Y_shr (k := .i64) (a := k_) (k' := .u64) (b := (IntKind.u64.wrap (i64.wrap ((i64.wrap (n - 1)) - q)))) rfl rfl rfl hsh) ?_
 refine sQ 14 (Y_band (k := .i64) (a := (shrK .i64 k_ (IntKind.u64.wrap (i64.wrap ((i64.wrap (n - 1)) - q))))) (b := 1) rfl rfl rfl) ?_
 refine sQ 6 (Y_assign (v := vi (bits .and .i64 (shrK .i64 k_ (IntKind.u64.wrap (i64.wrap ((i64.wrap (n - 1)) - q)))) 1)) rfl rfl) (rw_nil (cw_ret ?_))
 obtain rfl := some_inj hF
 exact ret1 Tryz.results164 (v1 := vi (bits .and .i64 (shrK .i64 k_ (IntKind.u64.wrap (i64.wrap ((i64.wrap (n - 1)) - q)))) 1)) (resAt_tmp rfl) ⟨rfl, (hS.sN [])⟩

theorem c_spec_l1Neg (x : TRing)  (w0 : World)  (hS : ST w0 [] w0 [] []) {r_ : TRing} (hF : F_spec_l1Neg x = some r_) :
  CV Tryz.prog 193 #[gR_ x] w0 (fun v w' => v = (gR_ r_) ∧ ST w0 [] w' [] []) := by
 unfold F_spec_l1Neg at hF
 refine cv_of_cw 16 Tryz.func193 rfl Tryz.ntmps193 rfl ?_
 refine cw_seq (cw_region ?_)
 refine sS 1 (Ys_box (T := 61) (v := gR_ x) (cs := kR_ x) (m := 4) hS rfl rfl rfl rfl) ?_
 rintro _ w_ ⟨b, rfl, hS1⟩
 refine sS 2 (Ys_alloc (T := 61) (cs := [vi 0, vi 0, vi 0, vi 0]) (m := 4) hS1 k_zero_61 rfl rfl rfl) ?_
 rintro _ w_1 ⟨b1, rfl, hS2⟩
 refine rw_nil (cw_seq (cw_region ?_))
 refine sQ 3 (Y_fieldAddr (B := aD b) (i := 0) (s := 0) k_fd_61_0_0_3 k_sz_3_1 rfl rfl) ?_
 refine sQ 4 (Y_load1 (B := aD b) (i := 0) (cs := kR_ x) (v := vi x.A) k_sc_3 rfl rfl (hS2.cf (i := 0) rfl) rfl) ?_
 refine sQ 5 (Y_neg (k := .i64) (a := x.A) rfl rfl) ?_
 refine sQ 6 (Y_fieldAddr (B := aD b) (i := 0) (s := 0) k_fd_61_1_1_3 k_sz_3_1 rfl rfl) ?_
 refine sQ 7 (Y_load1 (B := aD b) (i := 1) (cs := kR_ x) (v := vi x.B) k_sc_3 rfl rfl (hS2.cf (i := 0) rfl) rfl) ?_
 refine sQ 8 (Y_neg (k := .i64) (a := x.B) rfl rfl) ?_
 refine sQ 9 (Y_fieldAddr (B := aD b) (i := 0) (s := 0) k_fd_61_2_2_3 k_sz_3_1 rfl rfl) ?_
 refine sQ 10 (Y_load1 (B := aD b) (i := 2) (cs := kR_ x) (v := vi x.C) k_sc_3 rfl rfl (hS2.cf (i := 0) rfl) rfl) ?_
 refine sQ 11 (Y_neg (k := .i64) (a := x.C) rfl rfl) ?_
 refine sQ 12 (Y_fieldAddr (B := aD b) (i := 0) (s := 0) k_fd_61_3_3_3 k_sz_3_1 rfl rfl) ?_
 refine sQ 13 (Y_load1 (B := aD b) (i := 3) (cs := kR_ x) (v := vi x.D) k_sc_3 rfl rfl (hS2.cf (i := 0) rfl) rfl) ?_
 refine sQ 14 (Y_neg (k := .i64) (a := x.D) rfl rfl) ?_
 refine sQ 15 (Y_buildS (zs := [vi 0, vi 0, vi 0, vi 0]) (vs := [(0, vi (i64.wrap (-x.A))), (1, vi (i64.wrap (-x.B))), (2, vi (i64.wrap (-x.C))), (3, vi (i64.wrap (-x.D)))]) (cs := [vi (i64.wrap (-x.A)), vi (i64.wrap (-x.B)), vi (i64.wrap (-x.C)), vi (i64.wrap (-x.D))]) k_pl_61 k_zero_61 rfl (mpc rfl (mpc rfl (mpc rfl (mpc rfl mpn)))) rfl) ?_
 refine s0 (Ys_store (i := 1) (s := 4) (B := aD b1) (T' := 61) (v := .agg #[vi (i64.wrap (-x.A)), vi (i64.wrap (-x.B)), vi (i64.wrap (-x.C)), vi (i64.wrap (-x.D))]) (vs := [vi (i64.wrap (-x.A)), vi (i64.wrap (-x.B)), vi (i64.wrap (-x.C)), vi (i64.wrap (-x.D))]) (k := 0) (cs' := [vi (i64.wrap (-x.A)), vi (i64.wrap (-x.B)), vi (i64.wrap (-x.C)), vi (i64.wrap (-x.D))]) hS2 k_sz_61_4 rfl rfl rfl rfl rfl rfl rfl (lB rfl) rfl rfl) ?_
 rintro _ w_2 ⟨rfl, hS3⟩
 refine rw_nil (cw_ret ?_)
 obtain rfl := some_inj hF
 exact ret1 Tryz.results193 (v1 := .agg #[vi (i64.wrap (-x.A)), vi (i64.wrap (-x.B)), vi (i64.wrap (-x.C)), vi (i64.wrap (-x.D))]) (resAt_cellA (B := aD b1) (i := 0) (cs := [vi (i64.wrap (-x.A)), vi (i64.wrap (-x.B)), vi (i64.wrap (-x.C)), vi (i64.wrap (-x.D))]) (vs := [vi (i64.wrap (-x.A)), vi (i64.wrap (-x.B)), vi (i64.wrap (-x.C)), vi (i64.wrap (-x.D))]) rfl k_ag_61 k_sz_61_4 (hS3.cf (i := 1) rfl) rfl rfl) ⟨rfl, (hS3.sN [])⟩

theorem c_spec_l2Neg (x : TDyadic)  (w0 : World)  (hS : ST w0 [] w0 [] []) {r_ : TDyadic} (hF : F_spec_l2Neg x = some r_) :
  CV Tryz.prog 182 #[gD_ x] w0 (fun v w' => v = (gD_ r_) ∧ ST w0 [] w' [] []) := by
 unfold F_spec_l2Neg at hF
 refine cv_of_cw 9 Tryz.func182 rfl Tryz.ntmps182 rfl ?_
 refine cw_seq (cw_region ?_)
 refine sS 1 (Ys_box (T := 63) (v := gD_ x) (cs := kD_ x) (m := 5) hS rfl rfl rfl rfl) ?_
 rintro _ w_ ⟨b, rfl, hS1⟩
 refine sS 2 (Ys_alloc (T := 63) (cs := kZ_) (m := 5) hS1 k_zero_63 rfl rfl rfl) ?_
 rintro _ w_1 ⟨b1, rfl, hS2⟩
 refine rw_nil (cw_seq ?_)
 obtain ⟨r_1, hc, hF⟩ := bind_inv hF
 refine ra_start (hS2.se [0]).fn (by kernel_rfl) ?_
 have hS4 := hS2.drew
 refine rq 0 3 (v := pt (aD b) 0) rfl (hS4.se [0]) (fun w' hw' => (Y_fieldAddr (B := aD b) (i := 0) (s := 3) k_fd_63_0_0_61 k_sz_61_4 rfl rfl)) ?_
 refine rq 1 4 (v := gR_ x.Num) rfl (hS4.se [0]) (fun w' hw' => (Y_loadA (B := aD b) (i := 0) (cs := kD_ x) (vs := kR_ x.Num) k_ag_61 k_sz_61_4 rfl rfl (ST.cf hw' (i := 0) rfl) rfl rfl)) ?_
 refine rq 3 6 (v := pt (aD b) 4) rfl (hS4.se [0]) (fun w' hw' => (Y_fieldAddr (B := aD b) (i := 0) (s := 0) k_fd_63_1_4_3 k_sz_3_1 rfl rfl)) ?_
 refine rq 4 7 (v := vi x.Exp) rfl (hS4.se [0]) (fun w' hw' => (Y_load1 (B := aD b) (i := 4) (cs := kD_ x) (v := vi x.Exp) k_sc_3 rfl rfl (ST.cf hw' (i := 0) rfl) rfl)) ?_
 refine rA [2] ?_
 refine ra_c 5 (i := 2) rfl rfl rfl (Yc_func (g := 193) (vs := [gR_ x.Num]) k_call_193 rfl (mc rfl mn) (c_spec_l1Neg x.Num _  (hS4.inn0 [] rfl) hc)) ?_ ?_
 ·rintro _ w_2 ⟨rfl, hd⟩
  have hS5 := hS4.out00 hd
  refine ⟨(hS5.se [0]), ?_⟩
  refine rq 5 8 (v := .agg #[vi r_1.A, vi r_1.B, vi r_1.C, vi r_1.D, vi x.Exp]) rfl (hS5.se [0]) (fun w' hw' => (Y_buildS (zs := kZ_) (vs := [(0, gR_ r_1), (1, vi x.Exp)]) (cs := [vi r_1.A, vi r_1.B, vi r_1.C, vi r_1.D, vi x.Exp]) k_pl_63 k_zero_63 rfl (mpc rfl (mpc rfl mpn)) rfl)) ?_
  refine rA [6] ?_
  refine ra_s0 (i := 6) rfl rfl rfl (Ys_store (i := 1) (s := 5) (B := aD b1) (T' := 63) (v := .agg #[vi r_1.A, vi r_1.B, vi r_1.C, vi r_1.D, vi x.Exp]) (vs := [vi r_1.A, vi r_1.B, vi r_1.C, vi r_1.D, vi x.Exp]) (k := 0) (cs' := [vi r_1.A, vi r_1.B, vi r_1.C, vi r_1.D, vi x.Exp]) hS5 k_sz_63_5 rfl rfl rfl rfl rfl rfl rfl (lB rfl) rfl rfl) ?_ ?_
  ·rintro _ w_3 ⟨rfl, hS6⟩
   refine ⟨(hS6.se [0]), ?_⟩
   refine ra_done (by kernel_rfl) ?_
   refine cw_ret ?_
   obtain rfl := some_inj hF
   exact ret1 Tryz.results182 (v1 := .agg #[vi r_1.A, vi r_1.B, vi r_1.C, vi r_1.D, vi x.Exp]) (resAt_cellA (B := aD b1) (i := 0) (cs := [vi r_1.A, vi r_1.B, vi r_1.C, vi r_1.D, vi x.Exp]) (vs := [vi r_1.A, vi r_1.B, vi r_1.C, vi r_1.D, vi x.Exp]) rfl k_ag_63 k_sz_63_5 (hS6.cf (i := 1) rfl) rfl rfl) ⟨rfl, (hS6.sN [])⟩
  exact allR_nil
 exact allR_nil

theorem c_spec_l6One (kind : Int)  (w0 : World)  (hS : ST w0 [] w0 [] []) {r_ : List TDyadic} (hF : F_spec_l6One kind = some r_) :
  CV Tryz.prog 165 #[vi kind] w0 (fun v w' => ∃ (B : Option Addr) (c : Nat), v = .slice B r_.length c ∧ ST w0 [] w' [⟨B, 63, (r_.flatMap eN0), c * 5⟩] []) := by
 unfold F_spec_l6One at hF
 refine cv_of_cw 43 Tryz.func165 rfl Tryz.ntmps165 rfl ?_
 refine cw_seq (cw_region ?_)
 refine sQ 2 (Y_assign (v := .slice none 0 0) rfl rfl) (rw_nil (cw_seq (cw_region ?_)))
 obtain ⟨r_1, hc, hF⟩ := bind_inv hF
 refine sc 6 rfl rfl (Yc_func (g := 82) (vs := [vi 0]) k_call_82 rfl (mc rfl mn) (c_spec_l2Power 0 _  (hS.inn0 [] rfl) hc)) ?_
 rintro _ w_ ⟨rfl, hd⟩
 have hS1 := hS.out00 hd
 refine sQ 7 (Y_buildS (zs := kZ_) (vs := []) (cs := kZ_) k_pl_63 k_zero_63 rfl mpn rfl) ?_
 refine sS 3 (Ys_alloc (T := 63) (cs := kZ_) (m := 5) hS1 k_zero_63 rfl rfl rfl) ?_
 rintro _ w_1 ⟨b, rfl, hS2⟩
 refine sS 4 (Ys_alloc (T := 63) (cs := kZ_) (m := 5) hS2 k_zero_63 rfl rfl rfl) ?_
 rintro _ w_2 ⟨b1, rfl, hS3⟩
 refine s0 (Ys_store (i := 0) (s := 5) (B := aD b) (T' := 63) (v := gD_ r_1) (vs := kD_ r_1) (k := 0) (cs' := kD_ r_1) hS3 k_sz_63_5 rfl rfl rfl rfl rfl rfl rfl (lB rfl) rfl rfl) ?_
 rintro _ w_3 ⟨rfl, hS4⟩
 refine s0 (Ys_store (i := 1) (s := 5) (B := aD b1) (T' := 63) (v := gZ_) (vs := kZ_) (k := 0) (cs' := kZ_) hS4 k_sz_63_5 rfl rfl rfl rfl rfl rfl rfl (lB rfl) rfl rfl) ?_
 rintro _ w_4 ⟨rfl, hS5⟩
 refine rw_nil (cw_seq (cw_region ?_))
 refine sQ 8 (Y_buildS (zs := [vi 0, vi 0, vi 0, vi 0]) (vs := [(0, vi 1)]) (cs := [vi 1, vi 0, vi 0, vi 0]) k_pl_61 k_zero_61 rfl (mpc rfl mpn) rfl) ?_
 refine sQ 9 (Y_buildS (zs := kZ_) (vs := [(0, .agg #[vi 1, vi 0, vi 0, vi 0]), (1, vi 1)]) (cs := [vi 1, vi 0, vi 0, vi 0, vi 1]) k_pl_63 k_zero_63 rfl (mpc rfl (mpc rfl mpn)) rfl) ?_
 refine sS 5 (Ys_alloc (T := 63) (cs := kZ_) (m := 5) hS5 k_zero_63 rfl rfl rfl) ?_
 rintro _ w_5 ⟨b2, rfl, hS6⟩
 refine s0 (Ys_store (i := 2) (s := 5) (B := aD b2) (T' := 63) (v := .agg #[vi 1, vi 0, vi 0, vi 0, vi 1]) (vs := [vi 1, vi 0, vi 0, vi 0, vi 1]) (k := 0) (cs' := [vi 1, vi 0, vi 0, vi 0, vi 1]) hS6 k_sz_63_5 rfl rfl rfl rfl rfl rfl rfl (lB rfl) rfl rfl) ?_
 rintro _ w_6 ⟨rfl, hS7⟩
 refine rw_nil (cw_seq (cw_seq (cw_region ?_)))
 refine sQ 10 (Y_move (v := vi kind) rfl rfl) (rw_nil (cw_block (cw_seq (cw_region ?_))))
 refine sQ 12 (Y_eq (k := .i64) (a := kind) (b := 1) rfl rfl rfl) ?_
 refine sQ 11 (Y_assign (v := .bool (kind == 1)) rfl rfl) (rw_nil ?_)
 refine cw_cond (b := (kind == 1)) rfl (fun hb => ?_) (fun hb => ?_)
 ·skip
  have hF1 := ct hF hb
  refine cw_seq ?_
  obtain ⟨r_2, hc1, hF1⟩ := bind_inv hF1
  refine ra_start (hS7.se [0, 1, 2]).fn (by kernel_rfl) ?_
  have hS9 := hS7.drew
  refine rq 0 13 (v := .agg #[vi 1, vi 0, vi 0, vi 0, vi 1]) rfl (hS9.se [0, 1, 2]) (fun w' hw' => (Y_loadA (B := aD b2) (i := 0) (cs := [vi 1, vi 0, vi 0, vi 0, vi 1]) (vs := [vi 1, vi 0, vi 0, vi 0, vi 1]) k_ag_63 k_sz_63_5 rfl rfl (ST.cf hw' (i := 2) rfl) rfl rfl)) ?_
  refine rq 1 14 (v := .agg #[vi 1, vi 0, vi 0, vi 0, vi 1]) rfl (hS9.se [0, 1, 2]) (fun w' hw' => (Y_loadA (B := aD b2) (i := 0) (cs := [vi 1, vi 0, vi 0, vi 0, vi 1]) (vs := [vi 1, vi 0, vi 0, vi 0, vi 1]) k_ag_63 k_sz_63_5 rfl rfl (ST.cf hw' (i := 2) rfl) rfl rfl)) ?_
  refine rq 2 15 (v := .agg #[vi 1, vi 0, vi 0, vi 0, vi 1]) rfl (hS9.se [0, 1, 2]) (fun w' hw' => (Y_loadA (B := aD b2) (i := 0) (cs := [vi 1, vi 0, vi 0, vi 0, vi 1]) (vs := [vi 1, vi 0, vi 0, vi 0, vi 1]) k_ag_63 k_sz_63_5 rfl rfl (ST.cf hw' (i := 2) rfl) rfl rfl)) ?_
  refine rq 3 16 (v := .agg #[vi 1, vi 0, vi 0, vi 0, vi 1]) rfl (hS9.se [0, 1, 2]) (fun w' hw' => (Y_loadA (B := aD b2) (i := 0) (cs := [vi 1, vi 0, vi 0, vi 0, vi 1]) (vs := [vi 1, vi 0, vi 0, vi 0, vi 1]) k_ag_63 k_sz_63_5 rfl rfl (ST.cf hw' (i := 2) rfl) rfl rfl)) ?_
  refine rA [4] ?_
  refine ra_c 17 (i := 4) rfl rfl rfl (Yc_func (g := 182) (vs := [.agg #[vi 1, vi 0, vi 0, vi 0, vi 1]]) k_call_182 rfl (mc rfl mn) (c_spec_l2Neg (TDyadic.mk (TRing.mk 1 0 0 0) 1) _  (hS9.inn0 [] rfl) hc1)) ?_ ?_
  ·rintro _ w_7 ⟨rfl, hd1⟩
   have hS10 := hS9.out00 hd1
   refine ⟨(hS10.se [0, 1, 2]), ?_⟩
   refine rA [5] ?_
   refine ra_s 18 (i := 5) rfl rfl rfl (Ys_bslice (s := 5) (len := 4) (vs := [(0, .agg #[vi 1, vi 0, vi 0, vi 0, vi 1]), (1, .agg #[vi 1, vi 0, vi 0, vi 0, vi 1]), (2, .agg #[vi 1, vi 0, vi 0, vi 0, vi 1]), (3, gD_ r_2)]) (cs := [vi 1, vi 0, vi 0, vi 0, vi 1, vi 1, vi 0, vi 0, vi 0, vi 1, vi 1, vi 0, vi 0, vi 0, vi 1, vi r_2.Num.A, vi r_2.Num.B, vi r_2.Num.C, vi r_2.Num.D, vi r_2.Exp]) (zs := [vi 0, vi 0, vi 0, vi 0, vi 0, vi 0, vi 0, vi 0, vi 0, vi 0, vi 0, vi 0, vi 0, vi 0, vi 0, vi 0, vi 0, vi 0, vi 0, vi 0]) (m := 20) hS10 k_sl_28_63 k_sz_63_5 k_zc_63 rfl (mpc rfl (mpc rfl (mpc rfl (mpc rfl mpn)))) rfl rfl rfl (by kernel_rfl) (by kernel_rfl) rfl) ?_ ?_
   ·rintro _ w_8 ⟨b3, rfl, hS11⟩
    refine ⟨(hS11.se [0, 1, 2]), ?_⟩
    refine rq 6 2 (v := .slice (aD b3) 4 4) rfl (hS11.se [0, 1, 2]) (fun w' hw' => (Y_assign (v := .slice (aD b3) 4 4) rfl rfl)) ?_
    refine ra_done (by kernel_rfl) ?_
    refine cw_ret ?_
    obtain rfl := some_inj hF1
    exact ret1 Tryz.results165 (v1 := .slice (aD b3) 4 4) (resAt_tmp rfl) ⟨aD b3, 4, rfl, (hS11.sN [3])⟩
   exact allR_nil
  exact allR_nil
 ·skip
  have hF2 := cf' hF hb
  refine cw_seq (cw_region ?_)
  refine sQ 20 (Y_eq (k := .i64) (a := kind) (b := 2) rfl rfl rfl) ?_
  refine sQ 19 (Y_assign (v := .bool (kind == 2)) rfl rfl) (rw_nil ?_)
  refine cw_cond (b := (kind == 2)) rfl (fun hb1 => ?_) (fun hb1 => ?_)
  ·skip
   have hF3 := ct hF2 hb1
   refine cw_seq (cw_region ?_)
   refine sQ 21 (Y_loadA (B := aD b1) (i := 0) (cs := kZ_) (vs := kZ_) k_ag_63 k_sz_63_5 rfl rfl (hS7.cf (i := 1) rfl) rfl rfl) ?_
   refine sQ 22 (Y_loadA (B := aD b) (i := 0) (cs := kD_ r_1) (vs := kD_ r_1) k_ag_63 k_sz_63_5 rfl rfl (hS7.cf (i := 0) rfl) rfl rfl) ?_
   refine sQ 23 (Y_loadA (B := aD b) (i := 0) (cs := kD_ r_1) (vs := kD_ r_1) k_ag_63 k_sz_63_5 rfl rfl (hS7.cf (i := 0) rfl) rfl rfl) ?_
   refine sQ 24 (Y_loadA (B := aD b1) (i := 0) (cs := kZ_) (vs := kZ_) k_ag_63 k_sz_63_5 rfl rfl (hS7.cf (i := 1) rfl) rfl rfl) ?_
   refine sS 25 (Ys_bslice (s := 5) (len := 4) (vs := [(0, gZ_), (1, gD_ r_1), (2, gD_ r_1), (3, gZ_)]) (cs := [vi 0, vi 0, vi 0, vi 0, vi 0, vi r_1.Num.A, vi r_1.Num.B, vi r_1.Num.C, vi r_1.Num.D, vi r_1.Exp, vi r_1.Num.A, vi r_1.Num.B, vi r_1.Num.C, vi r_1.Num.D, vi r_1.Exp, vi 0, vi 0, vi 0, vi 0, vi 0]) (zs := [vi 0, vi 0, vi 0, vi 0, vi 0, vi 0, vi 0, vi 0, vi 0, vi 0, vi 0, vi 0, vi 0, vi 0, vi 0, vi 0, vi 0, vi 0, vi 0, vi 0]) (m := 20) hS7 k_sl_28_63 k_sz_63_5 k_zc_63 rfl (mpc rfl (mpc rfl (mpc rfl (mpc rfl mpn)))) rfl rfl rfl (by kernel_rfl) (by kernel_rfl) rfl) ?_
   rintro _ w_9 ⟨b4, rfl, hS12⟩
   refine sQ 2 (Y_assign (v := .slice (aD b4) 4 4) rfl rfl) (rw_nil (cw_ret ?_))
   obtain rfl := some_inj hF3
   exact ret1 Tryz.results165 (v1 := .slice (aD b4) 4 4) (resAt_tmp rfl) ⟨aD b4, 4, rfl, (hS12.sN [3])⟩
  ·skip
   have hF4 := cf' hF2 hb1
   refine cw_seq (cw_region ?_)
   refine sQ 27 (Y_eq (k := .i64) (a := kind) (b := 3) rfl rfl rfl) ?_
   refine sQ 26 (Y_assign (v := .bool (kind == 3)) rfl rfl) (rw_nil ?_)
   refine cw_cond (b := (kind == 3)) rfl (fun hb2 => ?_) (fun hb2 => ?_)
   ·skip
    have hF5 := ct hF4 hb2
    refine cw_seq ?_
    obtain ⟨r_3, hc2, hF5⟩ := bind_inv hF5
    obtain ⟨r_4, hc3, hF5⟩ := bind_inv hF5
    refine ra_start (hS7.se [0, 1, 2]).fn (by kernel_rfl) ?_
    have hS15 := hS7.drew
    refine rq 0 28 (v := gZ_) rfl (hS15.se [0, 1, 2]) (fun w' hw' => (Y_loadA (B := aD b1) (i := 0) (cs := kZ_) (vs := kZ_) k_ag_63 k_sz_63_5 rfl rfl (ST.cf hw' (i := 1) rfl) rfl rfl)) ?_
    refine rq 3 31 (v := gZ_) rfl (hS15.se [0, 1, 2]) (fun w' hw' => (Y_loadA (B := aD b1) (i := 0) (cs := kZ_) (vs := kZ_) k_ag_63 k_sz_63_5 rfl rfl (ST.cf hw' (i := 1) rfl) rfl rfl)) ?_
    refine rA [1] ?_
    refine ra_c 29 (i := 1) rfl rfl rfl (Yc_func (g := 82) (vs := [vi 6]) k_call_82 rfl (mc rfl mn) (c_spec_l2Power 6 _  (hS15.inn0 [] rfl) hc2)) ?_ ?_
    ·rintro _ w_10 ⟨rfl, hd2⟩
     have hS16 := hS15.out00 hd2
     refine ⟨(hS16.se [0, 1, 2]), ?_⟩
     refine rA [2] ?_
     refine ra_c 30 (i := 2) rfl rfl rfl (Yc_func (g := 82) (vs := [vi 2]) k_call_82 rfl (mc rfl mn) (c_spec_l2Power 2 _  (hS16.inn0 [] rfl) hc3)) ?_ ?_
     ·rintro _ w_11 ⟨rfl, hd3⟩
      have hS17 := hS16.out00 hd3
      refine ⟨(hS17.se [0, 1, 2]), ?_⟩
      refine rA [4] ?_
      refine ra_s 32 (i := 4) rfl rfl rfl (Ys_bslice (s := 5) (len := 4) (vs := [(0, gZ_), (1, gD_ r_3), (2, gD_ r_4), (3, gZ_)]) (cs := [vi 0, vi 0, vi 0, vi 0, vi 0, vi r_3.Num.A, vi r_3.Num.B, vi r_3.Num.C, vi r_3.Num.D, vi r_3.Exp, vi r_4.Num.A, vi r_4.Num.B, vi r_4.Num.C, vi r_4.Num.D, vi r_4.Exp, vi 0, vi 0, vi 0, vi 0, vi 0]) (zs := [vi 0, vi 0, vi 0, vi 0, vi 0, vi 0, vi 0, vi 0, vi 0, vi 0, vi 0, vi 0, vi 0, vi 0, vi 0, vi 0, vi 0, vi 0, vi 0, vi 0]) (m := 20) hS17 k_sl_28_63 k_sz_63_5 k_zc_63 rfl (mpc rfl (mpc rfl (mpc rfl (mpc rfl mpn)))) rfl rfl rfl (by kernel_rfl) (by kernel_rfl) rfl) ?_ ?_
      ·rintro _ w_12 ⟨b5, rfl, hS18⟩
       refine ⟨(hS18.se [0, 1, 2]), ?_⟩
       refine rq 5 2 (v := .slice (aD b5) 4 4) rfl (hS18.se [0, 1, 2]) (fun w' hw' => (Y_assign (v := .slice (aD b5) 4 4) rfl rfl)) ?_
       refine ra_done (by kernel_rfl) ?_
       refine cw_ret ?_
       obtain rfl := some_inj hF5
       exact ret1 Tryz.results165 (v1 := .slice (aD b5) 4 4) (resAt_tmp rfl) ⟨aD b5, 4, rfl, (hS18.sN [3])⟩
      exact allR_nil
     exact allR_nil
    exact allR_nil
   ·skip
    have hF6 := cf' hF4 hb2
    refine cw_skip (cw_seq ?_)
    obtain ⟨x, hx, hF6⟩ := bind_inv hF6
    obtain ⟨r_5, hc4, hF6⟩ := bind_inv hF6
    refine ra_start (hS7.se [0, 1, 2]).fn (by kernel_rfl) ?_
    have hS20 := hS7.drew
    refine rq 0 33 (v := gD_ r_1) rfl (hS20.se [0, 1, 2]) (fun w' hw' => (Y_loadA (B := aD b) (i := 0) (cs := kD_ r_1) (vs := kD_ r_1) k_ag_63 k_sz_63_5 rfl rfl (ST.cf hw' (i := 0) rfl) rfl rfl)) ?_
    refine rq 1 34 (v := gZ_) rfl (hS20.se [0, 1, 2]) (fun w' hw' => (Y_loadA (B := aD b1) (i := 0) (cs := kZ_) (vs := kZ_) k_ag_63 k_sz_63_5 rfl rfl (ST.cf hw' (i := 1) rfl) rfl rfl)) ?_
    refine rq 2 35 (v := gZ_) rfl (hS20.se [0, 1, 2]) (fun w' hw' => (Y_loadA (B := aD b1) (i := 0) (cs := kZ_) (vs := kZ_) k_ag_63 k_sz_63_5 rfl rfl (ST.cf hw' (i := 1) rfl) rfl rfl)) ?_
    refine rq 4 37 (v := vi kind) rfl (hS20.se [0, 1, 2]) (fun w' hw' => (Y_move (v := vi kind) rfl rfl)) ?_
    refine rq 5 38 (v := vi (i64.wrap (kind - 4))) rfl (hS20.se [0, 1, 2]) (fun w' hw' => (Y_sub (k := .i64) (a := kind) (b := 4) rfl rfl rfl)) ?_
    refine rA [3] ?_
    refine ra_s 36 (i := 3) rfl rfl rfl (Ys_bslice (s := 1) (len := 5) (vs := [(0, vi 4), (1, vi 2), (2, vi 6), (3, vi 1), (4, vi 7)]) (cs := [vi 4, vi 2, vi 6, vi 1, vi 7]) (zs := kZ_) (m := 5) hS20 k_sl_43_3 k_sz_3_1 k_zc_3 rfl (mpc rfl (mpc rfl (mpc rfl (mpc rfl (mpc rfl mpn))))) rfl rfl rfl (by kernel_rfl) (by kernel_rfl) rfl) ?_ ?_
    ·rintro _ w_13 ⟨b6, rfl, hS21⟩
     refine ⟨(hS21.se [0, 1, 2]), ?_⟩
     refine rA [6] ?_
     refine ra_y 39 (i := 6) (v := pt (aD b6) ((i64.wrap (kind - 4)).toNat * 1)) rfl rfl rfl (Y_index (B := aD b6) (m := 5) (c := 5) (k := .i64) (i := (i64.wrap (kind - 4))) k_sl_43_3 k_sz_3_1 rfl rfl rfl (gi_isSome encI_len rfl (hS21.cf (i := 3) rfl) hx) (getI_nn hx) (getI_ltI hx rfl)) (hS21.se [0, 1, 2]) ?_ ?_
     ·skip
      refine rA [7] ?_
      refine ra_y 40 (i := 7) (v := vi x) rfl rfl rfl (Y_load1 (B := aD b6) (i := (i64.wrap (kind - 4)).toNat * 1) (cs := ([4, 2, 6, 1, 7].flatMap encI)) (v := vi x) k_sc_3 rfl rfl (hS21.cf (i := 3) rfl) (gi_at0 encI_len hx rfl)) (hS21.se [0, 1, 2]) ?_ ?_
      ·skip
       refine rA [8] ?_
       refine ra_c 41 (i := 8) rfl rfl rfl (Yc_func (g := 82) (vs := [vi x]) k_call_82 rfl (mc rfl mn) (c_spec_l2Power x _  (hS21.inn0 [] rfl) hc4)) ?_ ?_
       ·rintro _ w_14 ⟨rfl, hd4⟩
        have hS22 := hS21.out00 hd4
        refine ⟨(hS22.se [0, 1, 2]), ?_⟩
        refine rA [9] ?_
        refine ra_s 42 (i := 9) rfl rfl rfl (Ys_bslice (s := 5) (len := 4) (vs := [(0, gD_ r_1), (1, gZ_), (2, gZ_), (3, gD_ r_5)]) (cs := [vi r_1.Num.A, vi r_1.Num.B, vi r_1.Num.C, vi r_1.Num.D, vi r_1.Exp, vi 0, vi 0, vi 0, vi 0, vi 0, vi 0, vi 0, vi 0, vi 0, vi 0, vi r_5.Num.A, vi r_5.Num.B, vi r_5.Num.C, vi r_5.Num.D, vi r_5.Exp]) (zs := [vi 0, vi 0, vi 0, vi 0, vi 0, vi 0, vi 0, vi 0, vi 0, vi 0, vi 0, vi 0, vi 0, vi 0, vi 0, vi 0, vi 0, vi 0, vi 0, vi 0]) (m := 20) hS22 k_sl_28_63 k_sz_63_5 k_zc_63 rfl (mpc rfl (mpc rfl (mpc rfl (mpc rfl mpn)))) rfl rfl rfl (by kernel_rfl) (by kernel_rfl) rfl) ?_ ?_
        ·rintro _ w_15 ⟨b7, rfl, hS23⟩
         refine ⟨(hS23.se [0, 1, 2]), ?_⟩
         refine rq 10 2 (v := .slice (aD b7) 4 4) rfl (hS23.se [0, 1, 2]) (fun w' hw' => (Y_assign (v := .slice (aD b7) 4 4) rfl rfl)) ?_
         refine ra_done (by kernel_rfl) ?_
         refine cw_ret ?_
         obtain rfl := some_inj hF6
         exact ret1 Tryz.results165 (v1 := .slice (aD b7) 4 4) (resAt_tmp rfl) ⟨aD b7, 4, rfl, (hS23.sN [4])⟩
        exact allR_nil
       exact allR_nil
      exact allR_nil
     exact allR_nil
    exact allR_nil

theorem c_spec_l6Cell (n : Int) (g : TGate) (row : Int) (col : Int)  (w0 : World)  (hS : ST w0 [] w0 [] []) {r_ : TDyadic} (hF : F_spec_l6Cell n g row col = some r_) :
  CV Tryz.prog 127 #[vi n, .agg #[vi g.Kind, vi g.A, vi g.B], vi row, vi col] w0 (fun v w' => v = (gD_ r_) ∧ ST w0 [] w' [] []) := by
 unfold F_spec_l6Cell at hF
 refine cv_of_cw 119 Tryz.func127 rfl Tryz.ntmps127 rfl ?_
 refine cw_seq (cw_region ?_)
 refine sS 5 (Ys_box (T := 67) (v := .agg #[vi g.Kind, vi g.A, vi g.B]) (cs := [vi g.Kind, vi g.A, vi g.B]) (m := 3) hS rfl rfl rfl rfl) ?_
 rintro _ w_ ⟨b, rfl, hS1⟩
 refine sS 8 (Ys_alloc (T := 63) (cs := kZ_) (m := 5) hS1 k_zero_63 rfl rfl rfl) ?_
 rintro _ w_1 ⟨b1, rfl, hS2⟩
 refine rw_nil (cw_seq (cw_region ?_))
 obtain ⟨r_1, hc, hF⟩ := bind_inv hF
 refine sc 12 rfl rfl (Yc_func (g := 82) (vs := [vi 0]) k_call_82 rfl (mc rfl mn) (c_spec_l2Power 0 _  (hS2.inn0 [] rfl) hc)) ?_
 rintro _ w_2 ⟨rfl, hd⟩
 have hS3 := hS2.out00 hd
 refine sQ 13 (Y_buildS (zs := kZ_) (vs := []) (cs := kZ_) k_pl_63 k_zero_63 rfl mpn rfl) ?_
 refine sS 9 (Ys_alloc (T := 63) (cs := kZ_) (m := 5) hS3 k_zero_63 rfl rfl rfl) ?_
 rintro _ w_3 ⟨b2, rfl, hS4⟩
 refine sS 10 (Ys_alloc (T := 63) (cs := kZ_) (m := 5) hS4 k_zero_63 rfl rfl rfl) ?_
 rintro _ w_4 ⟨b3, rfl, hS5⟩
 refine s0 (Ys_store (i := 2) (s := 5) (B := aD b2) (T' := 63) (v := gD_ r_1) (vs := kD_ r_1) (k := 0) (cs' := kD_ r_1) hS5 k_sz_63_5 rfl rfl rfl rfl rfl rfl rfl (lB rfl) rfl rfl) ?_
 rintro _ w_5 ⟨rfl, hS6⟩
 refine s0 (Ys_store (i := 3) (s := 5) (B := aD b3) (T' := 63) (v := gZ_) (vs := kZ_) (k := 0) (cs' := kZ_) hS6 k_sz_63_5 rfl rfl rfl rfl rfl rfl rfl (lB rfl) rfl rfl) ?_
 rintro _ w_6 ⟨rfl, hS7⟩
 refine rw_nil (cw_seq (cw_region ?_))
 refine sQ 14 (Y_move (v := vi col) rfl rfl) ?_
 refine sQ 11 (Y_assign (v := vi col) rfl rfl) (rw_nil (cw_seq ?_))
 obtain ⟨z, hz, hF1⟩ := bind_inv hF
 refine cw_mid (fun f w => ∃ (A : Int) (B : Int) (C : Int) (D : Int) (Exp : Int) (to_ : Int), .inl (A, B, C, D, Exp, to_) = z ∧ FF f [(2, vi row), (8, pt (aD b1) 0), (9, pt (aD b2) 0), (10, pt (aD b3) 0), (11, vi to_)] ∧ ST w0 [] w [⟨aD b1, 63, kZ_, 5⟩, ⟨aD b2, 63, [vi A, vi B, vi C, vi D, vi Exp], 5⟩, ⟨aD b3, 63, kZ_, 5⟩] []) ?_ ?_
 ·skip
  refine cw_seq (cw_region ?_)
  refine sQ 15 (Y_fieldAddr (B := aD b) (i := 0) (s := 0) k_fd_67_0_0_3 k_sz_3_1 rfl rfl) ?_
  refine sQ 16 (Y_load1 (B := aD b) (i := 0) (cs := [vi g.Kind, vi g.A, vi g.B]) (v := vi g.Kind) k_sc_3 rfl rfl (hS7.cf (i := 0) rfl) rfl) (rw_nil (cw_block (cw_seq (cw_region ?_))))
  refine sQ 48 (Y_eq (k := .i64) (a := g.Kind) (b := 12) rfl rfl rfl) ?_
  refine sQ 47 (Y_assign (v := .bool (g.Kind == 12)) rfl rfl) (rw_nil ?_)
  refine cw_cond (b := (g.Kind == 12)) rfl (fun hb => ?_) (fun hb => ?_)
  ·skip
   have hF2 := ct hz hb
   refine cw_region ?_
   obtain ⟨r_2, hc1, hF2⟩ := bind_inv hF2
   refine sc 49 rfl rfl (Yc_func (g := 82) (vs := [vi 1]) k_call_82 rfl (mc rfl mn) (c_spec_l2Power 1 _  (hS7.inn0 [] rfl) hc1)) ?_
   rintro _ w_7 ⟨rfl, hd1⟩
   have hS9 := hS7.out00 hd1
   refine s0 (Ys_store (i := 2) (s := 5) (B := aD b2) (T' := 63) (v := gD_ r_2) (vs := kD_ r_2) (k := 0) (cs' := kD_ r_2) hS9 k_sz_63_5 rfl rfl rfl rfl rfl rfl rfl (lB rfl) rfl rfl) ?_
   rintro _ w_8 ⟨rfl, hS10⟩
   refine rw_nil ?_
   exact ⟨r_2.Num.A, r_2.Num.B, r_2.Num.C, r_2.Num.D, r_2.Exp, col, (some_inj hF2), (FF.cons rfl (FF.cons rfl (FF.cons rfl (FF.cons rfl (FF.cons rfl FF.nil))))), (hS10.sel [1, 2, 3] rfl rfl)⟩
  ·skip
   have hF3 := cf' hz hb
   refine cw_seq (cw_region ?_)
   refine sQ 51 (Y_eq (k := .i64) (a := g.Kind) (b := 9) rfl rfl rfl) ?_
   refine sQ 50 (Y_assign (v := .bool (g.Kind == 9)) rfl rfl) (rw_nil ?_)
   refine cw_cond (b := (g.Kind == 9)) rfl (fun hb1 => ?_) (fun hb1 => ?_)
   ·skip
    have hF4 := ct hF3 hb1
    refine cw_seq (cw_region ?_)
    refine sQ 52 (Y_move (v := vi n) rfl rfl) ?_
    refine sQ 53 (Y_move (v := vi col) rfl rfl) ?_
    refine sQ 54 (Y_fieldAddr (B := aD b) (i := 0) (s := 0) k_fd_67_1_1_3 k_sz_3_1 rfl rfl) ?_
    refine sQ 55 (Y_load1 (B := aD b) (i := 1) (cs := [vi g.Kind, vi g.A, vi g.B]) (v := vi g.A) k_sc_3 rfl rfl (hS7.cf (i := 0) rfl) rfl) ?_
    obtain ⟨r_3, hc2, hF4⟩ := bind_inv hF4
    refine sc 56 rfl rfl (Yc_func (g := 164) (vs := [vi n, vi col, vi g.A]) k_call_164 rfl (mc rfl (mc rfl (mc rfl mn))) (c_spec_l6Bit n col g.A _  (hS7.inn0 [] rfl) hc2)) ?_
    rintro _ w_9 ⟨rfl, hd2⟩
    have hS11 := hS7.out00 hd2
    refine sQ 57 (Y_eq (k := .i64) (a := r_3) (b := 1) rfl rfl rfl) (rw_nil ?_)
    refine cw_cond (b := (r_3 == 1)) rfl (fun hb2 => ?_) (fun hb2 => ?_)
    ·skip
     have hF5 := ct hF4 hb2
     refine cw_region ?_
     refine sQ 58 (Y_move (v := vi col) rfl rfl) ?_
     refine sQ 59 (Y_move (v := vi n) rfl rfl) ?_
     refine sQ 60 (Y_sub (k := .i64) (a := n) (b := 1) rfl rfl rfl) ?_
     refine sQ 61 (Y_fieldAddr (B := aD b) (i := 0) (s := 0) k_fd_67_2_2_3 k_sz_3_1 rfl rfl) ?_
     refine sQ 62 (Y_load1 (B := aD b) (i := 2) (cs := [vi g.Kind, vi g.A, vi g.B]) (v := vi g.B) k_sc_3 rfl rfl (hS11.cf (i := 0) rfl) rfl) ?_
     refine sQ 63 (Y_sub (k := .i64) (a := (i64.wrap (n - 1))) (b := g.B) rfl rfl rfl) ?_
     refine sQ 64 (Y_conv (k := .i64) (a := (i64.wrap ((i64.wrap (n - 1)) - g.B))) (T := 3) (T' := 53) k_us_3 k_int_53_u64 rfl rfl) ?_
     obtain ⟨hsh, hF5⟩ := chk_inv hF5
     refine sQ 65 (Y_shl (k := .i64) (a := 1) (k' := .u64) (b := (IntKind.u64.wrap (i64.wrap ((i64.wrap (n - 1)) - g.B)))) rfl rfl rfl hsh) ?_
     refine sQ 66 (Y_bxor (k := .i64) (a := col) (b := (shlK .i64 1 (IntKind.u64.wrap (i64.wrap ((i64.wrap (n - 1)) - g.B))))) rfl rfl rfl) ?_
     refine sQ 11 (Y_assign (v := vi (bits .xor .i64 col (shlK .i64 1 (IntKind.u64.wrap (i64.wrap ((i64.wrap (n - 1)) - g.B)))))) rfl rfl) (rw_nil ?_)
     exact ⟨r_1.Num.A, r_1.Num.B, r_1.Num.C, r_1.Num.D, r_1.Exp, (bits .xor .i64 col (shlK .i64 1 (IntKind.u64.wrap (i64.wrap ((i64.wrap (n - 1)) - g.B))))), (some_inj hF5), (FF.cons rfl (FF.cons rfl (FF.cons rfl (FF.cons rfl (FF.cons rfl FF.nil))))), (hS11.sel [1, 2, 3] rfl rfl)⟩
    ·skip
     have hF6 := cf' hF4 hb2
     refine cw_skip ?_
     exact ⟨r_1.Num.A, r_1.Num.B, r_1.Num.C, r_1.Num.D, r_1.Exp, col, (some_inj hF6), (FF.cons rfl (FF.cons rfl (FF.cons rfl (FF.cons rfl (FF.cons rfl FF.nil))))), (hS11.sel [1, 2, 3] rfl rfl)⟩
   ·skip
    have hF7 := cf' hF3 hb1
    refine cw_seq (cw_region ?_)
    refine sQ 68 (Y_eq (k := .i64) (a := g.Kind) (b := 10) rfl rfl rfl) ?_
    refine sQ 67 (Y_assign (v := .bool (g.Kind == 10)) rfl rfl) (rw_nil ?_)
    refine cw_cond (b := (g.Kind == 10)) rfl (fun hb3 => ?_) (fun hb3 => ?_)
    ·skip
     have hF8 := ct hF7 hb3
     refine cw_seq (cw_region ?_)
     refine sQ 69 (Y_move (v := vi n) rfl rfl) ?_
     refine sQ 70 (Y_move (v := vi col) rfl rfl) ?_
     refine sQ 71 (Y_fieldAddr (B := aD b) (i := 0) (s := 0) k_fd_67_1_1_3 k_sz_3_1 rfl rfl) ?_
     refine sQ 72 (Y_load1 (B := aD b) (i := 1) (cs := [vi g.Kind, vi g.A, vi g.B]) (v := vi g.A) k_sc_3 rfl rfl (hS7.cf (i := 0) rfl) rfl) ?_
     obtain ⟨r_4, hc3, hF8⟩ := bind_inv hF8
     refine sc 73 rfl rfl (Yc_func (g := 164) (vs := [vi n, vi col, vi g.A]) k_call_164 rfl (mc rfl (mc rfl (mc rfl mn))) (c_spec_l6Bit n col g.A _  (hS7.inn0 [] rfl) hc3)) ?_
     rintro _ w_10 ⟨rfl, hd3⟩
     have hS12 := hS7.out00 hd3
     refine sQ 74 (Y_eq (k := .i64) (a := r_4) (b := 1) rfl rfl rfl) ?_
     refine sQ 75 (Y_move (v := .bool (r_4 == 1)) rfl rfl) ?_
     refine sgq 76 (B := (r_4 == 1)) (v := vi n) rfl rfl (uT_ 75) (fun hg => (Y_move (v := vi n) rfl rfl)) ?_
     refine sgq 77 (B := (r_4 == 1)) (v := vi col) rfl rfl (uT_ 75) (fun hg1 => (Y_move (v := vi col) rfl rfl)) ?_
     refine sgq 78 (B := (r_4 == 1)) (v := pt (aD b) 2) rfl rfl (uT_ 75) (fun hg2 => (Y_fieldAddr (B := aD b) (i := 0) (s := 0) k_fd_67_2_2_3 k_sz_3_1 rfl rfl)) ?_
     refine sgq 79 (B := (r_4 == 1)) (v := vi g.B) rfl rfl (uT_ 75) (fun hg3 => (Y_load1 (B := aD b) (i := 2) (cs := [vi g.Kind, vi g.A, vi g.B]) (v := vi g.B) k_sc_3 rfl (gv_of (v := pt (aD b) 2) hg3) (hS12.cf (i := 0) rfl) rfl)) ?_
     obtain ⟨r_5, hc4, hF8⟩ := bind_inv hF8
     refine sgc 80 (B := (r_4 == 1)) (v := vi r_5) (F := hS12.fn) rfl rfl (uT_ 75) hS12 (fun hg4 => (Yc_func (g := 164) (vs := [vi n, vi col, vi g.B]) k_call_164 rfl (mc (gv_of (v := vi n) hg4) (mc (gv_of (v := vi col) hg4) (mc (gv_of (v := vi g.B) hg4) mn))) (CV.mono (c_spec_l6Bit n col g.B _  (hS12.inn0 [] rfl) (gb_inv hc4 hg4)) (by rintro _ _ ⟨rfl, h⟩; exact ⟨rfl, hS12.out00 h⟩)))) ?_
     rintro w_11 hS13
     refine sgq 81 (B := (r_4 == 1)) (v := .bool (r_5 == 1)) rfl rfl (uT_ 75) (fun hg5 => (Y_eq (k := .i64) (a := r_5) (b := 1) rfl (gv_of (v := vi r_5) hg5) rfl)) ?_
     refine sQ 82 (Y_and (b := (r_4 == 1)) (z := (r_5 == 1)) rfl rfl rfl rfl) (rw_nil ?_)
     refine cw_cond (b := ((r_4 == 1) && (r_5 == 1))) rfl (fun hb4 => ?_) (fun hb4 => ?_)
     ·skip
      have hF9 := ct hF8 hb4
      refine cw_region ?_
      obtain ⟨r_6, hc5, hF9⟩ := bind_inv hF9
      refine sc 83 rfl rfl (Yc_func (g := 82) (vs := [vi 4]) k_call_82 rfl (mc rfl mn) (c_spec_l2Power 4 _  (hS13.inn0 [] rfl) hc5)) ?_
      rintro _ w_12 ⟨rfl, hd4⟩
      have hS14 := hS13.out00 hd4
      refine s0 (Ys_store (i := 2) (s := 5) (B := aD b2) (T' := 63) (v := gD_ r_6) (vs := kD_ r_6) (k := 0) (cs' := kD_ r_6) hS14 k_sz_63_5 rfl rfl rfl rfl rfl rfl rfl (lB rfl) rfl rfl) ?_
      rintro _ w_13 ⟨rfl, hS15⟩
      refine rw_nil ?_
      exact ⟨r_6.Num.A, r_6.Num.B, r_6.Num.C, r_6.Num.D, r_6.Exp, col, (some_inj hF9), (FF.cons rfl (FF.cons rfl (FF.cons rfl (FF.cons rfl (FF.cons rfl FF.nil))))), (hS15.sel [1, 2, 3] rfl rfl)⟩
     ·skip
      have hF10 := cf' hF8 hb4
      refine cw_skip ?_
      exact ⟨r_1.Num.A, r_1.Num.B, r_1.Num.C, r_1.Num.D, r_1.Exp, col, (some_inj hF10), (FF.cons rfl (FF.cons rfl (FF.cons rfl (FF.cons rfl (FF.cons rfl FF.nil))))), (hS13.sel [1, 2, 3] rfl rfl)⟩
    ·skip
     have hF11 := cf' hF7 hb3
     refine cw_seq (cw_region ?_)
     refine sQ 85 (Y_eq (k := .i64) (a := g.Kind) (b := 11) rfl rfl rfl) ?_
     refine sQ 84 (Y_assign (v := .bool (g.Kind == 11)) rfl rfl) (rw_nil ?_)
     refine cw_cond (b := (g.Kind == 11)) rfl (fun hb5 => ?_) (fun hb5 => ?_)
     ·skip
      have hF12 := ct hF11 hb5
      refine cw_seq ?_
      obtain ⟨r_7, hc6, hF12⟩ := bind_inv hF12
      obtain ⟨r_8, hc7, hF12⟩ := bind_inv hF12
      refine ra_start (hS7.se [0, 1, 2, 3]).fn (by kernel_rfl) ?_
      have hS18 := hS7.drew
      refine rq 0 86 (v := vi n) rfl (hS18.se [0, 1, 2, 3]) (fun w' hw' => (Y_move (v := vi n) rfl rfl)) ?_
      refine rq 1 87 (v := vi col) rfl (hS18.se [0, 1, 2, 3]) (fun w' hw' => (Y_move (v := vi col) rfl rfl)) ?_
      refine rq 2 88 (v := pt (aD b) 1) rfl (hS18.se [0, 1, 2, 3]) (fun w' hw' => (Y_fieldAddr (B := aD b) (i := 0) (s := 0) k_fd_67_1_1_3 k_sz_3_1 rfl rfl)) ?_
      refine rq 3 89 (v := vi g.A) rfl (hS18.se [0, 1, 2, 3]) (fun w' hw' => (Y_load1 (B := aD b) (i := 1) (cs := [vi g.Kind, vi g.A, vi g.B]) (v := vi g.A) k_sc_3 rfl rfl (ST.cf hw' (i := 0) rfl) rfl)) ?_
      refine rq 5 91 (v := vi n) rfl (hS18.se [0, 1, 2, 3]) (fun w' hw' => (Y_move (v := vi n) rfl rfl)) ?_
      refine rq 6 92 (v := vi col) rfl (hS18.se [0, 1, 2, 3]) (fun w' hw' => (Y_move (v := vi col) rfl rfl)) ?_
      refine rq 7 93 (v := pt (aD b) 2) rfl (hS18.se [0, 1, 2, 3]) (fun w' hw' => (Y_fieldAddr (B := aD b) (i := 0) (s := 0) k_fd_67_2_2_3 k_sz_3_1 rfl rfl)) ?_
      refine rq 8 94 (v := vi g.B) rfl (hS18.se [0, 1, 2, 3]) (fun w' hw' => (Y_load1 (B := aD b) (i := 2) (cs := [vi g.Kind, vi g.A, vi g.B]) (v := vi g.B) k_sc_3 rfl rfl (ST.cf hw' (i := 0) rfl) rfl)) ?_
      refine rA [4] ?_
      refine ra_c 90 (i := 4) rfl rfl rfl (Yc_func (g := 164) (vs := [vi n, vi col, vi g.A]) k_call_164 rfl (mc rfl (mc rfl (mc rfl mn))) (c_spec_l6Bit n col g.A _  (hS18.inn0 [] rfl) hc6)) ?_ ?_
      ·rintro _ w_14 ⟨rfl, hd5⟩
       have hS19 := hS18.out00 hd5
       refine ⟨(hS19.se [0, 1, 2, 3]), ?_⟩
       refine rA [9] ?_
       refine ra_c 95 (i := 9) rfl rfl rfl (Yc_func (g := 164) (vs := [vi n, vi col, vi g.B]) k_call_164 rfl (mc rfl (mc rfl (mc rfl mn))) (c_spec_l6Bit n col g.B _  (hS19.inn0 [] rfl) hc7)) ?_ ?_
       ·rintro _ w_15 ⟨rfl, hd6⟩
        have hS20 := hS19.out00 hd6
        refine ⟨(hS20.se [0, 1, 2, 3]), ?_⟩
        refine rq 10 96 (v := .bool (r_7 != r_8)) rfl (hS20.se [0, 1, 2, 3]) (fun w' hw' => (Y_ne (k := .i64) (a := r_7) (b := r_8) rfl rfl rfl)) ?_
        refine ra_done (by kernel_rfl) ?_
        refine cw_cond (b := (r_7 != r_8)) rfl (fun hb6 => ?_) (fun hb6 => ?_)
        ·skip
         have hF13 := ct hF12 hb6
         refine cw_region ?_
         refine sQ 97 (Y_move (v := vi col) rfl rfl) ?_
         refine sQ 98 (Y_move (v := vi n) rfl rfl) ?_
         refine sQ 99 (Y_sub (k := .i64) (a := n) (b := 1) rfl rfl rfl) ?_
         refine sQ 100 (Y_fieldAddr (B := aD b) (i := 0) (s := 0) k_fd_67_1_1_3 k_sz_3_1 rfl rfl) ?_
         refine sQ 101 (Y_load1 (B := aD b) (i := 1) (cs := [vi g.Kind, vi g.A, vi g.B]) (v := vi g.A) k_sc_3 rfl rfl (hS20.cf (i := 0) rfl) rfl) ?_
         refine sQ 102 (Y_sub (k := .i64) (a := (i64.wrap (n - 1))) (b := g.A) rfl rfl rfl) ?_
         refine sQ 103 (Y_conv (k := .i64) (a := (i64.wrap ((i64.wrap (n - 1)) - g.A))) (T := 3) (T' := 53) k_us_3 k_int_53_u64 rfl rfl) ?_
         obtain ⟨hsh1, hF13⟩ := chk_inv hF13
         refine sQ 104 (Y_shl (k := .i64) (a := 1) (k' := .u64) (b := (IntKind.u64.wrap (i64.wrap ((i64.wrap (n - 1)) - g.A)))) rfl rfl rfl hsh1) ?_
         refine sQ 105 (Y_bxor (k := .i64) (a := col) (b := (shlK .i64 1 (IntKind.u64.wrap (i64.wrap ((i64.wrap (n - 1)) - g.A))))) rfl rfl rfl) ?_
         refine sQ 106 (Y_move (v := vi n) rfl rfl) ?_
         refine sQ 107 (Y_sub (k := .i64) (a := n) (b := 1) rfl rfl rfl) ?_
         refine sQ 108 (Y_fieldAddr (B := aD b) (i := 0) (s := 0) k_fd_67_2_2_3 k_sz_3_1 rfl rfl) ?_
         refine sQ 109 (Y_load1 (B := aD b) (i := 2) (cs := [vi g.Kind, vi g.A, vi g.B]) (v := vi g.B) k_sc_3 rfl rfl (hS20.cf (i := 0) rfl) rfl) ?_
         refine sQ 110 (Y_sub (k := .i64) (a := (i64.wrap (n - 1))) (b := g.B) rfl rfl rfl) ?_
         refine sQ 111 (Y_conv (k := .i64) (a := (i64.wrap ((i64.wrap (n - 1)) - g.B))) (T := 3) (T' := 53) k_us_3 k_int_53_u64 rfl rfl) ?_
         obtain ⟨hsh2, hF13⟩ := chk_inv hF13
         refine sQ 112 (Y_shl (k := .i64) (a := 1) (k' := .u64) (b := (IntKind.u64.wrap (i64.wrap ((i64.wrap (n - 1)) - g.B)))) rfl rfl rfl hsh2) ?_
         refine sQ 113 (Y_bxor (k := .i64) (a := (bits .xor .i64 col (shlK .i64 1 (IntKind.u64.wrap (i64.wrap ((i64.wrap (n - 1)) - g.A)))))) (b := (shlK .i64 1 (IntKind.u64.wrap (i64.wrap ((i64.wrap (n - 1)) - g.B))))) rfl rfl rfl) ?_
         refine sQ 11 (Y_assign (v := vi (bits .xor .i64 (bits .xor .i64 col (shlK .i64 1 (IntKind.u64.wrap (i64.wrap ((i64.wrap (n - 1)) - g.A))))) (shlK .i64 1 (IntKind.u64.wrap (i64.wrap ((i64.wrap (n - 1)) - g.B)))))) rfl rfl) (rw_nil ?_)
         exact ⟨r_1.Num.A, r_1.Num.B, r_1.Num.C, r_1.Num.D, r_1.Exp, (bits .xor .i64 (bits .xor .i64 col (shlK .i64 1 (IntKind.u64.wrap (i64.wrap ((i64.wrap (n - 1)) - g.A))))) (shlK .i64 1 (IntKind.u64.wrap (i64.wrap ((i64.wrap (n - 1)) - g.B))))), (some_inj hF13), (FF.cons rfl (FF.cons rfl (FF.cons rfl (FF.cons rfl (FF.cons rfl FF.nil))))), (hS20.sel [1, 2, 3] rfl rfl)⟩
        ·skip
         have hF14 := cf' hF12 hb6
         refine cw_skip ?_
         exact ⟨r_1.Num.A, r_1.Num.B, r_1.Num.C, r_1.Num.D, r_1.Exp, col, (some_inj hF14), (FF.cons rfl (FF.cons rfl (FF.cons rfl (FF.cons rfl (FF.cons rfl FF.nil))))), (hS20.sel [1, 2, 3] rfl rfl)⟩
       exact allR_nil
      exact allR_nil
     ·skip
      have hF15 := cf' hF11 hb5
      refine cw_seq (cw_seq (cw_region ?_))
      refine sQ 17 (Y_move (v := vi row) rfl rfl) ?_
      refine sQ 18 (Y_move (v := vi col) rfl rfl) ?_
      refine sQ 19 (Y_bxor (k := .i64) (a := row) (b := col) rfl rfl rfl) ?_
      refine sQ 20 (Y_move (v := vi n) rfl rfl) ?_
      refine sQ 21 (Y_sub (k := .i64) (a := n) (b := 1) rfl rfl rfl) ?_
      refine sQ 22 (Y_fieldAddr (B := aD b) (i := 0) (s := 0) k_fd_67_1_1_3 k_sz_3_1 rfl rfl) ?_
      refine sQ 23 (Y_load1 (B := aD b) (i := 1) (cs := [vi g.Kind, vi g.A, vi g.B]) (v := vi g.A) k_sc_3 rfl rfl (hS7.cf (i := 0) rfl) rfl) ?_
      refine sQ 24 (Y_sub (k := .i64) (a := (i64.wrap (n - 1))) (b := g.A) rfl rfl rfl) ?_
      refine sQ 25 (Y_conv (k := .i64) (a := (i64.wrap ((i64.wrap (n - 1)) - g.A))) (T := 3) (T' := 53) k_us_3 k_int_53_u64 rfl rfl) ?_
      obtain ⟨hsh3, hF15⟩ := chk_inv hF15
      refine sQ 26 (Y_shl (k := .i64) (a := 1) (k' := .u64) (b := (IntKind.u64.wrap (i64.wrap ((i64.wrap (n - 1)) - g.A)))) rfl rfl rfl hsh3) ?_
      refine sQ 27 (Y_bandNot (k := .i64) (a := (bits .xor .i64 row col)) (b := (shlK .i64 1 (IntKind.u64.wrap (i64.wrap ((i64.wrap (n - 1)) - g.A))))) rfl rfl rfl) ?_
      refine sQ 28 (Y_ne (k := .i64) (a := (bits .andNot .i64 (bits .xor .i64 row col) (shlK .i64 1 (IntKind.u64.wrap (i64.wrap ((i64.wrap (n - 1)) - g.A)))))) (b := 0) rfl rfl rfl) (rw_nil ?_)
      refine cw_cond (b := ((bits .andNot .i64 (bits .xor .i64 row col) (shlK .i64 1 (IntKind.u64.wrap (i64.wrap ((i64.wrap (n - 1)) - g.A))))) != 0)) rfl (fun hb7 => ?_) (fun hb7 => ?_)
      ·skip
       have hF16 := ct hF15 hb7
       refine cw_seq (cw_region ?_)
       refine sQ 29 (Y_loadA (B := aD b3) (i := 0) (cs := kZ_) (vs := kZ_) k_ag_63 k_sz_63_5 rfl rfl (hS7.cf (i := 3) rfl) rfl rfl) ?_
       refine s0 (Ys_store (i := 1) (s := 5) (B := aD b1) (T' := 63) (v := gZ_) (vs := kZ_) (k := 0) (cs' := kZ_) hS7 k_sz_63_5 rfl rfl rfl rfl rfl rfl rfl (lB rfl) rfl rfl) ?_
       rintro _ w_16 ⟨rfl, hS21⟩
       refine rw_nil (cw_ret ?_)
       obtain rfl := some_inj hF16
       obtain rfl := some_inj hF1
       exact ret1 Tryz.results127 (v1 := gZ_) (resAt_cellA (B := aD b1) (i := 0) (cs := kZ_) (vs := kZ_) rfl k_ag_63 k_sz_63_5 (hS21.cf (i := 1) rfl) rfl rfl) ⟨rfl, (hS21.sN [])⟩
      ·skip
       have hF17 := cf' hF15 hb7
       refine cw_skip (cw_seq ?_)
       obtain ⟨r_9, hc8, hF17⟩ := bind_inv hF17
       obtain ⟨r_10, hc9, hF17⟩ := bind_inv hF17
       obtain ⟨r_11, hc10, hF17⟩ := bind_inv hF17
       obtain ⟨x, hx, hF17⟩ := bind_inv hF17
       refine ra_start (hS7.se [0, 2, 3]).fn (by kernel_rfl) ?_
       have hS25 := hS7.drew
       refine rq 0 30 (v := pt (aD b) 0) rfl (hS25.se [0, 2, 3]) (fun w' hw' => (Y_fieldAddr (B := aD b) (i := 0) (s := 0) k_fd_67_0_0_3 k_sz_3_1 rfl rfl)) ?_
       refine rq 1 31 (v := vi g.Kind) rfl (hS25.se [0, 2, 3]) (fun w' hw' => (Y_load1 (B := aD b) (i := 0) (cs := [vi g.Kind, vi g.A, vi g.B]) (v := vi g.Kind) k_sc_3 rfl rfl (ST.cf hw' (i := 0) rfl) rfl)) ?_
       refine rq 3 33 (v := vi n) rfl (hS25.se [0, 2, 3]) (fun w' hw' => (Y_move (v := vi n) rfl rfl)) ?_
       refine rq 4 34 (v := vi row) rfl (hS25.se [0, 2, 3]) (fun w' hw' => (Y_move (v := vi row) rfl rfl)) ?_
       refine rq 5 35 (v := pt (aD b) 1) rfl (hS25.se [0, 2, 3]) (fun w' hw' => (Y_fieldAddr (B := aD b) (i := 0) (s := 0) k_fd_67_1_1_3 k_sz_3_1 rfl rfl)) ?_
       refine rq 6 36 (v := vi g.A) rfl (hS25.se [0, 2, 3]) (fun w' hw' => (Y_load1 (B := aD b) (i := 1) (cs := [vi g.Kind, vi g.A, vi g.B]) (v := vi g.A) k_sc_3 rfl rfl (ST.cf hw' (i := 0) rfl) rfl)) ?_
       refine rq 9 39 (v := vi n) rfl (hS25.se [0, 2, 3]) (fun w' hw' => (Y_move (v := vi n) rfl rfl)) ?_
       refine rq 10 40 (v := vi col) rfl (hS25.se [0, 2, 3]) (fun w' hw' => (Y_move (v := vi col) rfl rfl)) ?_
       refine rq 11 41 (v := pt (aD b) 1) rfl (hS25.se [0, 2, 3]) (fun w' hw' => (Y_fieldAddr (B := aD b) (i := 0) (s := 0) k_fd_67_1_1_3 k_sz_3_1 rfl rfl)) ?_
       refine rq 12 42 (v := vi g.A) rfl (hS25.se [0, 2, 3]) (fun w' hw' => (Y_load1 (B := aD b) (i := 1) (cs := [vi g.Kind, vi g.A, vi g.B]) (v := vi g.A) k_sc_3 rfl rfl (ST.cf hw' (i := 0) rfl) rfl)) ?_
       refine rA [2] ?_
       refine ra_c 32 (i := 2) rfl rfl rfl (Yc_func (g := 165) (vs := [vi g.Kind]) k_call_165 rfl (mc rfl mn) (c_spec_l6One g.Kind _  (hS25.inn0 [] rfl) hc8)) ?_ ?_
       ·rintro _ w_17 ⟨B1, c, rfl, hd7⟩
        have hS26 := hS25.out0 hd7
        refine ⟨(hS26.se [0, 2, 3]), ?_⟩
        refine rA [7] ?_
        refine ra_c 37 (i := 7) rfl rfl rfl (Yc_func (g := 164) (vs := [vi n, vi row, vi g.A]) k_call_164 rfl (mc rfl (mc rfl (mc rfl mn))) (c_spec_l6Bit n row g.A _  (hS26.inn0 [] rfl) hc9)) ?_ ?_
        ·rintro _ w_18 ⟨rfl, hd8⟩
         have hS27 := hS26.out00 hd8
         refine ⟨(hS27.se [0, 2, 3]), ?_⟩
         refine rq 8 38 (v := vi (i64.wrap (2 * r_10))) rfl (hS27.se [0, 2, 3]) (fun w' hw' => (Y_mul (k := .i64) (a := 2) (b := r_10) rfl rfl rfl)) ?_
         refine rA [13] ?_
         refine ra_c 43 (i := 13) rfl rfl rfl (Yc_func (g := 164) (vs := [vi n, vi col, vi g.A]) k_call_164 rfl (mc rfl (mc rfl (mc rfl mn))) (c_spec_l6Bit n col g.A _  (hS27.inn0 [] rfl) hc10)) ?_ ?_
         ·rintro _ w_19 ⟨rfl, hd9⟩
          have hS28 := hS27.out00 hd9
          refine ⟨(hS28.se [0, 2, 3]), ?_⟩
          refine rq 14 44 (v := vi (i64.wrap ((i64.wrap (2 * r_10)) + r_11))) rfl (hS28.se [0, 2, 3]) (fun w' hw' => (Y_add (k := .i64) (a := (i64.wrap (2 * r_10))) (b := r_11) rfl rfl rfl)) ?_
          refine rA [15] ?_
          refine ra_y 45 (i := 15) (v := pt B1 ((i64.wrap ((i64.wrap (2 * r_10)) + r_11)).toNat * 5)) rfl rfl rfl (Y_index (B := B1) (m := r_9.length) (c := c) (k := .i64) (i := (i64.wrap ((i64.wrap (2 * r_10)) + r_11))) k_sl_28_63 k_sz_63_5 rfl rfl rfl (gi_isSome enc_Dyadic_len rfl (hS28.cf (i := 4) rfl) hx) (getI_nn hx) (getI_ltI hx rfl)) (hS28.se [0, 2, 3]) ?_ ?_
          ·skip
           refine rA [16] ?_
           refine ra_y 46 (i := 16) (v := gD_ x) rfl rfl rfl (Y_loadA (B := B1) (i := (i64.wrap ((i64.wrap (2 * r_10)) + r_11)).toNat * 5) (cs := (r_9.flatMap eN0)) (vs := kD_ x) k_ag_63 k_sz_63_5 rfl rfl (hS28.cf (i := 4) rfl) (enc_Dyadic_len x) (gi_seg enc_Dyadic_len hx)) (hS28.se [0, 2, 3]) ?_ ?_
           ·skip
            refine rA [17] ?_
            refine ra_s0 (i := 17) rfl rfl rfl (Ys_store (i := 1) (s := 5) (B := aD b1) (T' := 63) (v := gD_ x) (vs := kD_ x) (k := 0) (cs' := kD_ x) hS28 k_sz_63_5 rfl rfl rfl rfl rfl rfl rfl (lB rfl) rfl rfl) ?_ ?_
            ·rintro _ w_20 ⟨rfl, hS29⟩
             refine ⟨(hS29.se [0, 2, 3]), ?_⟩
             refine ra_done (by kernel_rfl) ?_
             refine cw_ret ?_
             obtain rfl := some_inj hF17
             obtain rfl := some_inj hF1
             exact ret1 Tryz.results127 (v1 := gD_ x) (resAt_cellA (B := aD b1) (i := 0) (cs := kD_ x) (vs := kD_ x) rfl k_ag_63 k_sz_63_5 (hS29.cf (i := 1) rfl) rfl rfl) ⟨rfl, (hS29.sN [])⟩
            exact allR_nil
           exact allR_nil
          exact allR_nil
         exact allR_nil
        exact allR_nil
       exact allR_nil
 rintro f w ⟨A, B, C, D, Exp, to_, rfl, hf, hS8⟩
 refine cw_seq (cw_seq (cw_region ?_))
 refine sQ 114 (Y_move (v := vi row) rfl (hf.get 2 0 rfl)) ?_
 refine sQ 115 (Y_move (v := vi to_) rfl (hf.get 11 4 rfl)) ?_
 refine sQ 116 (Y_eq (k := .i64) (a := row) (b := to_) rfl rfl rfl) (rw_nil ?_)
 refine cw_cond (b := (row == to_)) rfl (fun hb8 => ?_) (fun hb8 => ?_)
 ·skip
  have hF18 := ct hF1 hb8
  refine cw_seq (cw_region ?_)
  refine sQ 117 (Y_loadA (B := aD b2) (i := 0) (cs := [vi A, vi B, vi C, vi D, vi Exp]) (vs := [vi A, vi B, vi C, vi D, vi Exp]) k_ag_63 k_sz_63_5 rfl (hf.get 9 2 rfl) (hS8.cf (i := 1) rfl) rfl rfl) ?_
  refine s0 (Ys_store (i := 0) (s := 5) (B := aD b1) (T' := 63) (v := .agg #[vi A, vi B, vi C, vi D, vi Exp]) (vs := [vi A, vi B, vi C, vi D, vi Exp]) (k := 0) (cs' := [vi A, vi B, vi C, vi D, vi Exp]) hS8 k_sz_63_5 rfl (hf.get 8 1 rfl) rfl rfl rfl rfl rfl (lB rfl) rfl rfl) ?_
  rintro _ w_21 ⟨rfl, hS30⟩
  refine rw_nil (cw_ret ?_)
  obtain rfl := some_inj hF18
  exact ret1 Tryz.results127 (v1 := .agg #[vi A, vi B, vi C, vi D, vi Exp]) (resAt_cellA (B := aD b1) (i := 0) (cs := [vi A, vi B, vi C, vi D, vi Exp]) (vs := [vi A, vi B, vi C, vi D, vi Exp]) (hf.get 8 1 rfl) k_ag_63 k_sz_63_5 (hS30.cf (i := 0) rfl) rfl rfl) ⟨rfl, (hS30.sN [])⟩
 ·skip
  have hF19 := cf' hF1 hb8
  refine cw_skip (cw_seq (cw_region ?_))
  refine sQ 118 (Y_loadA (B := aD b3) (i := 0) (cs := kZ_) (vs := kZ_) k_ag_63 k_sz_63_5 rfl (hf.get 10 3 rfl) (hS8.cf (i := 2) rfl) rfl rfl) ?_
  refine s0 (Ys_store (i := 0) (s := 5) (B := aD b1) (T' := 63) (v := gZ_) (vs := kZ_) (k := 0) (cs' := kZ_) hS8 k_sz_63_5 rfl (hf.get 8 1 rfl) rfl rfl rfl rfl rfl (lB rfl) rfl rfl) ?_
  rintro _ w_22 ⟨rfl, hS31⟩
  refine rw_nil (cw_ret ?_)
  obtain rfl := some_inj hF19
  exact ret1 Tryz.results127 (v1 := gZ_) (resAt_cellA (B := aD b1) (i := 0) (cs := kZ_) (vs := kZ_) (hf.get 8 1 rfl) k_ag_63 k_sz_63_5 (hS31.cf (i := 0) rfl) rfl rfl) ⟨rfl, (hS31.sN [])⟩

theorem c_spec_l6Gate (n : Int) (g : TGate)  (w0 : World)  (hS : ST w0 [] w0 [] []) {r_ : TMatrix} (hF : F_spec_l6Gate n g = some r_) :
  CV Tryz.prog 81 #[vi n, .agg #[vi g.Kind, vi g.A, vi g.B]] w0 (fun v w' => ∃ (B : Option Addr) (c : Nat), v = (gM_ r_ B c) ∧ ST w0 [] w' [⟨B, 63, (r_.Cells.flatMap eN0), c * 5⟩] []) := by
 unfold F_spec_l6Gate at hF
 refine cv_of_cw 36 Tryz.func81 rfl Tryz.ntmps81 rfl ?_
 refine cw_seq (cw_region ?_)
 refine sS 3 (Ys_box (T := 67) (v := .agg #[vi g.Kind, vi g.A, vi g.B]) (cs := [vi g.Kind, vi g.A, vi g.B]) (m := 3) hS rfl rfl rfl rfl) ?_
 rintro _ w_ ⟨b, rfl, hS1⟩
 refine sS 4 (Ys_alloc (T := 30) (cs := kN_) (m := 3) hS1 k_zero_30 rfl rfl rfl) ?_
 rintro _ w_1 ⟨b1, rfl, hS2⟩
 refine rw_nil (cw_seq (cw_region ?_))
 refine sQ 9 (Y_move (v := vi n) rfl rfl) ?_
 refine sQ 10 (Y_conv (k := .i64) (a := n) (T := 3) (T' := 53) k_us_3 k_int_53_u64 rfl rfl) ?_
 obtain ⟨hsh, hF⟩ := chk_inv hF
 refine sQ 11 (Y_shl (k := .i64) (a := 1) (k' := .u64) (b := (IntKind.u64.wrap n)) rfl rfl rfl hsh) ?_
 refine sQ 5 (Y_assign (v := vi (shlK .i64 1 (IntKind.u64.wrap n))) rfl rfl) (rw_nil (cw_seq (cw_region ?_)))
 refine sQ 12 (Y_move (v := vi (shlK .i64 1 (IntKind.u64.wrap n))) rfl rfl) ?_
 refine sQ 13 (Y_move (v := vi (shlK .i64 1 (IntKind.u64.wrap n))) rfl rfl) ?_
 refine sQ 14 (Y_buildS (zs := kN_) (vs := [(0, vi (shlK .i64 1 (IntKind.u64.wrap n))), (1, vi (shlK .i64 1 (IntKind.u64.wrap n)))]) (cs := [vi (shlK .i64 1 (IntKind.u64.wrap n)), vi (shlK .i64 1 (IntKind.u64.wrap n)), .slice none 0 0]) k_pl_30 k_zero_30 rfl (mpc rfl (mpc rfl mpn)) rfl) ?_
 refine sS 6 (Ys_alloc (T := 30) (cs := kN_) (m := 3) hS2 k_zero_30 rfl rfl rfl) ?_
 rintro _ w_2 ⟨b2, rfl, hS3⟩
 refine s0 (Ys_store (i := 2) (s := 3) (B := aD b2) (T' := 30) (v := .agg #[vi (shlK .i64 1 (IntKind.u64.wrap n)), vi (shlK .i64 1 (IntKind.u64.wrap n)), .slice none 0 0]) (vs := [vi (shlK .i64 1 (IntKind.u64.wrap n)), vi (shlK .i64 1 (IntKind.u64.wrap n)), .slice none 0 0]) (k := 0) (cs' := [vi (shlK .i64 1 (IntKind.u64.wrap n)), vi (shlK .i64 1 (IntKind.u64.wrap n)), .slice none 0 0]) hS3 k_sz_30_3 rfl rfl rfl rfl rfl rfl rfl (lB rfl) rfl rfl) ?_
 rintro _ w_3 ⟨rfl, hS4⟩
 refine rw_nil (cw_seq (cw_seq (cw_region ?_)))
 refine sQ 7 (Y_assign (v := vi 0) rfl rfl) (rw_nil ?_)
 obtain ⟨hN, hF⟩ := chk_inv hF
 obtain ⟨z, hz, hF1⟩ := bind_inv hF
 have hS6 := hS4.addNil 63
 refine cw_block ?_
 refine cw_loop (fun k f w => ∃ (i1 : Nat) (Cells : List TDyadic) (B1 : Option Addr) (c1 : Nat), FF f [(0, vi n), (3, pt (aD b) 0), (4, pt (aD b1) 0), (5, vi (shlK .i64 1 (IntKind.u64.wrap n))), (6, pt (aD b2) 0), (7, vi (i1 : Int))] ∧ ST w0 [] w [⟨aD b, 67, [vi g.Kind, vi g.A, vi g.B], 3⟩, ⟨aD b1, 30, kN_, 3⟩, ⟨aD b2, 30, [vi (shlK .i64 1 (IntKind.u64.wrap n)), vi (shlK .i64 1 (IntKind.u64.wrap n)), .slice B1 Cells.length c1], 3⟩, ⟨B1, 63, (Cells.flatMap eN0), c1 * 5⟩] [] ∧ i1 + k = (shlK .i64 1 (IntKind.u64.wrap n)).toNat ∧ forN (F_spec_l6Gate_l1 n g) k i1 Cells = some z) ((shlK .i64 1 (IntKind.u64.wrap n)).toNat) ⟨0, [], none, 0, (FF.cons rfl (FF.cons rfl (FF.cons rfl (FF.cons rfl (FF.cons rfl (FF.cons rfl FF.nil)))))), (hS6.sel [0, 1, 2, 3] rfl rfl), Nat.zero_add _, hz⟩ ?_
 rintro k_ f w ⟨i1, Cells, B1, c1, hf, hS5, hik, hL⟩
 refine cw_seq (cw_seq (cw_region ?_))
 refine sQ 15 (Y_move (v := vi (i1 : Int)) rfl (hf.get 7 5 rfl)) ?_
 refine sQ 16 (Y_move (v := vi (shlK .i64 1 (IntKind.u64.wrap n))) rfl (hf.get 5 3 rfl)) ?_
 refine sQ 17 (Y_lt (k := .i64) (a := (i1 : Int)) (b := (shlK .i64 1 (IntKind.u64.wrap n))) rfl rfl rfl) (rw_nil ?_)
 refine cw_cond (b := (decide ((i1 : Int) < (shlK .i64 1 (IntKind.u64.wrap n))))) rfl (fun hlt => ?_) (fun hlt => ?_)
 ·skip
  have hlt1 : i1 < (shlK .i64 1 (IntKind.u64.wrap n)).toNat := by have h := of_decide_eq_true hlt; omega
  obtain ⟨k_1, rfl⟩ : ∃ k2, k_ = k2 + 1 := ⟨k_ - 1, by omega⟩
  obtain ⟨y, hb, hL1⟩ := forN_go hL
  unfold F_spec_l6Gate_l1 at hb
  refine cw_skip (cw_seq (cw_block (cw_seq (cw_region ?_))))
  refine sQ 8 (Y_assign (v := vi 0) rfl rfl) (rw_nil ?_)
  obtain ⟨hN1, hb⟩ := chk_inv hb
  obtain ⟨z1, hz1, hF2⟩ := bind_inv hb
  refine cw_block ?_
  refine cw_loop (fun k f w => ∃ (j : Nat) (Cells1 : List TDyadic) (B2 : Option Addr) (c2 : Nat), FF f [(0, vi n), (3, pt (aD b) 0), (4, pt (aD b1) 0), (5, vi (shlK .i64 1 (IntKind.u64.wrap n))), (6, pt (aD b2) 0), (7, vi (i1 : Int)), (8, vi (j : Int))] ∧ ST w0 [] w [⟨aD b, 67, [vi g.Kind, vi g.A, vi g.B], 3⟩, ⟨aD b1, 30, kN_, 3⟩, ⟨aD b2, 30, [vi (shlK .i64 1 (IntKind.u64.wrap n)), vi (shlK .i64 1 (IntKind.u64.wrap n)), .slice B2 Cells1.length c2], 3⟩, ⟨B2, 63, (Cells1.flatMap eN0), c2 * 5⟩] [] ∧ j + k = (shlK .i64 1 (IntKind.u64.wrap n)).toNat ∧ forN (F_spec_l6Gate_l2 n g i1) k j Cells1 = some z1) ((shlK .i64 1 (IntKind.u64.wrap n)).toNat) ⟨0, Cells, B1, c1, (FF.cons (hf.get 0 0 rfl) (FF.cons (hf.get 3 1 rfl) (FF.cons (hf.get 4 2 rfl) (FF.cons (hf.get 5 3 rfl) (FF.cons (hf.get 6 4 rfl) (FF.cons (hf.get 7 5 rfl) (FF.cons rfl FF.nil))))))), (hS5.sel [0, 1, 2, 3] rfl rfl), Nat.zero_add _, hz1⟩ ?_
  rintro k_2 f w ⟨j, Cells1, B2, c2, hf1, hS7, hik1, hL2⟩
  refine cw_seq (cw_seq (cw_region ?_))
  refine sQ 20 (Y_move (v := vi (j : Int)) rfl (hf1.get 8 6 rfl)) ?_
  refine sQ 21 (Y_move (v := vi (shlK .i64 1 (IntKind.u64.wrap n))) rfl (hf1.get 5 3 rfl)) ?_
  refine sQ 22 (Y_lt (k := .i64) (a := (j : Int)) (b := (shlK .i64 1 (IntKind.u64.wrap n))) rfl rfl rfl) (rw_nil ?_)
  refine cw_cond (b := (decide ((j : Int) < (shlK .i64 1 (IntKind.u64.wrap n))))) rfl (fun hlt2 => ?_) (fun hlt2 => ?_)
  ·skip
   have hlt3 : j < (shlK .i64 1 (IntKind.u64.wrap n)).toNat := by have h := of_decide_eq_true hlt2; omega
   obtain ⟨k_3, rfl⟩ : ∃ k2, k_2 = k2 + 1 := ⟨k_2 - 1, by omega⟩
   obtain ⟨y1, hb1, hL3⟩ := forN_go hL2
   unfold F_spec_l6Gate_l2 at hb1
   refine cw_skip (cw_seq (cw_block ?_))
   obtain ⟨r_1, hc, hb1⟩ := bind_inv hb1
   obtain ⟨hap, hb1⟩ := chk_inv hb1
   refine cw_mid (fun f w => ∃ (B4 : Option Addr) (c4 : Nat), FF f [(0, vi n), (3, pt (aD b) 0), (4, pt (aD b1) 0), (5, vi (shlK .i64 1 (IntKind.u64.wrap n))), (6, pt (aD b2) 0), (7, vi (i1 : Int)), (8, vi (j : Int))] ∧ ST w0 [] w [⟨aD b, 67, [vi g.Kind, vi g.A, vi g.B], 3⟩, ⟨aD b1, 30, kN_, 3⟩, ⟨aD b2, 30, [vi (shlK .i64 1 (IntKind.u64.wrap n)), vi (shlK .i64 1 (IntKind.u64.wrap n)), .slice B4 ((Cells1 ++ [r_1]).length) c4], 3⟩, ⟨B4, 63, ((Cells1 ++ [r_1]).flatMap eN0), c4 * 5⟩] []) ?_ ?_
   ·skip
    refine ra_start (hS7.se [0, 1]).fn (by kernel_rfl) ?_
    have hS10 := hS7.drew
    refine rq 0 25 (v := pt (aD b2) 2) rfl (hS10.se [0, 1]) (fun w' hw' => (Y_fieldAddr (B := aD b2) (i := 0) (s := 0) k_fd_30_2_2_28 k_sz_28_1 rfl (hf1.get 6 4 rfl))) ?_
    refine rq 2 27 (v := vi n) rfl (hS10.se [0, 1]) (fun w' hw' => (Y_move (v := vi n) rfl (hf1.get 0 0 rfl))) ?_
    refine rq 3 28 (v := .agg #[vi g.Kind, vi g.A, vi g.B]) rfl (hS10.se [0, 1]) (fun w' hw' => (Y_loadA (B := aD b) (i := 0) (cs := [vi g.Kind, vi g.A, vi g.B]) (vs := [vi g.Kind, vi g.A, vi g.B]) k_ag_67 k_sz_67_3 rfl (hf1.get 3 1 rfl) (ST.cf hw' (i := 0) rfl) rfl rfl)) ?_
    refine rq 4 29 (v := vi (i1 : Int)) rfl (hS10.se [0, 1]) (fun w' hw' => (Y_move (v := vi (i1 : Int)) rfl (hf1.get 7 5 rfl))) ?_
    refine rq 5 30 (v := vi (j : Int)) rfl (hS10.se [0, 1]) (fun w' hw' => (Y_move (v := vi (j : Int)) rfl (hf1.get 8 6 rfl))) ?_
    refine rA [1, 6] ?_
    refine ra_y 26 (i := 1) (v := .slice B2 Cells1.length c2) rfl rfl rfl (Y_load1 (B := aD b2) (i := 2) (cs := [vi (shlK .i64 1 (IntKind.u64.wrap n)), vi (shlK .i64 1 (IntKind.u64.wrap n)), .slice B2 Cells1.length c2]) (v := .slice B2 Cells1.length c2) k_sc_28 rfl rfl (hS10.cf (i := 2) rfl) rfl) (hS10.se [0, 1]) ?_ ?_
    ·skip
     refine rA [6] ?_
     refine ra_c 31 (i := 6) rfl rfl rfl (Yc_func (g := 127) (vs := [vi n, .agg #[vi g.Kind, vi g.A, vi g.B], vi (i1 : Int), vi (j : Int)]) k_call_127 rfl (mc rfl (mc rfl (mc rfl (mc rfl mn)))) (c_spec_l6Cell n g (i1 : Int) (j : Int) _  (hS10.inn0 [] rfl) hc)) ?_ ?_
     ·rintro _ w_4 ⟨rfl, hd⟩
      have hS11 := hS10.out00 hd
      refine ⟨(hS11.se [0, 1]), ?_⟩
      refine rA [7] ?_
      refine ra_s 32 (i := 7) rfl rfl rfl (Ys_bslice (s := 5) (len := 1) (vs := [(0, gD_ r_1)]) (cs := kD_ r_1) (zs := kZ_) (m := 5) hS11 k_sl_28_63 k_sz_63_5 k_zc_63 rfl (mpc rfl mpn) rfl rfl rfl (by kernel_rfl) (by kernel_rfl) rfl) ?_ ?_
      ·rintro _ w_5 ⟨b3, rfl, hS12⟩
       refine ⟨(hS12.se [0, 1]), ?_⟩
       refine rA [8] ?_
       refine ra_s 33 (i := 8) rfl rfl rfl (Ys_append (s := 5) (by' := 40) (i := 3) (nn := Cells1.length) (c := c2) (k := 1) (len := (Cells1 ++ [r_1]).length) (B := B2) (xs := ([r_1].flatMap eN0)) (cs' := ((Cells1 ++ [r_1]).flatMap eN0)) hS12 k_sl_28_63 k_sz_63_5 k_by_63_40 k_zero_63 rfl (by decide) rfl rfl rfl rfl (fm_lenn (l := Cells1) enc_Dyadic_len rfl) rfl (hS12.cf (i := 4) rfl) (fm_lenn (l := [r_1]) enc_Dyadic_len rfl) (fm_one' (enc := eN0) enc_Dyadic_one [r_1]) (by have := hap; omega) (by have := hap; simp only [maxLen]; omega) (fm_app _ _) (app_len (l := Cells1) (l' := [r_1]) rfl rfl)) ?_ ?_
       ·rintro _ w_6 ⟨B3, c3, rfl, hS13⟩
        refine ⟨(hS13.se [0, 1]), ?_⟩
        refine rq 9 34 (v := pt (aD b2) 2) rfl (hS13.se [0, 1]) (fun w' hw' => (Y_fieldAddr (B := aD b2) (i := 0) (s := 0) k_fd_30_2_2_28 k_sz_28_1 rfl (hf1.get 6 4 rfl))) ?_
        refine rA [10] ?_
        refine ra_s0 (i := 10) rfl rfl rfl (Ys_store (i := 2) (s := 1) (B := aD b2) (T' := 30) (v := .slice B3 ((Cells1 ++ [r_1]).length) c3) (vs := [.slice B3 ((Cells1 ++ [r_1]).length) c3]) (k := 2) (cs' := [vi (shlK .i64 1 (IntKind.u64.wrap n)), vi (shlK .i64 1 (IntKind.u64.wrap n)), .slice B3 ((Cells1 ++ [r_1]).length) c3]) hS13 k_sz_28_1 rfl rfl rfl rfl rfl rfl rfl (lB rfl) rfl rfl) ?_ ?_
        ·rintro _ w_7 ⟨rfl, hS14⟩
         refine ⟨(hS14.se [0, 1]), ?_⟩
         refine ra_done (by kernel_rfl) ?_
         exact ⟨B3, c3, (FF.cons (hf1.get 0 0 rfl) (FF.cons (hf1.get 3 1 rfl) (FF.cons (hf1.get 4 2 rfl) (FF.cons (hf1.get 5 3 rfl) (FF.cons (hf1.get 6 4 rfl) (FF.cons (hf1.get 7 5 rfl) (FF.cons (hf1.get 8 6 rfl) FF.nil))))))), (hS14.sel [0, 1, 2, 3] rfl rfl)⟩
        exact allR_nil
       exact allR_nil
      exact allR_nil
     exact allR_nil
    refine ra_c 31 (i := 6) rfl rfl rfl (Yc_func (g := 127) (vs := [vi n, .agg #[vi g.Kind, vi g.A, vi g.B], vi (i1 : Int), vi (j : Int)]) k_call_127 rfl (mc rfl (mc rfl (mc rfl (mc rfl mn)))) (c_spec_l6Cell n g (i1 : Int) (j : Int) _  (hS10.inn0 [] rfl) hc)) ?_ ?_
    ·rintro _ w_8 ⟨rfl, hd1⟩
     have hS15 := hS10.out00 hd1
     refine ⟨(hS15.se [0, 1]), ?_⟩
     refine rA [1, 7] ?_
     refine ra_y 26 (i := 1) (v := .slice B2 Cells1.length c2) rfl rfl rfl (Y_load1 (B := aD b2) (i := 2) (cs := [vi (shlK .i64 1 (IntKind.u64.wrap n)), vi (shlK .i64 1 (IntKind.u64.wrap n)), .slice B2 Cells1.length c2]) (v := .slice B2 Cells1.length c2) k_sc_28 rfl rfl (hS15.cf (i := 2) rfl) rfl) (hS15.se [0, 1]) ?_ ?_
     ·skip
      refine rA [7] ?_
      refine ra_s 32 (i := 7) rfl rfl rfl (Ys_bslice (s := 5) (len := 1) (vs := [(0, gD_ r_1)]) (cs := kD_ r_1) (zs := kZ_) (m := 5) hS15 k_sl_28_63 k_sz_63_5 k_zc_63 rfl (mpc rfl mpn) rfl rfl rfl (by kernel_rfl) (by kernel_rfl) rfl) ?_ ?_
      ·rintro _ w_9 ⟨b3, rfl, hS16⟩
       refine ⟨(hS16.se [0, 1]), ?_⟩
       refine rA [8] ?_
       refine ra_s 33 (i := 8) rfl rfl rfl (Ys_append (s := 5) (by' := 40) (i := 3) (nn := Cells1.length) (c := c2) (k := 1) (len := (Cells1 ++ [r_1]).length) (B := B2) (xs := ([r_1].flatMap eN0)) (cs' := ((Cells1 ++ [r_1]).flatMap eN0)) hS16 k_sl_28_63 k_sz_63_5 k_by_63_40 k_zero_63 rfl (by decide) rfl rfl rfl rfl (fm_lenn (l := Cells1) enc_Dyadic_len rfl) rfl (hS16.cf (i := 4) rfl) (fm_lenn (l := [r_1]) enc_Dyadic_len rfl) (fm_one' (enc := eN0) enc_Dyadic_one [r_1]) (by have := hap; omega) (by have := hap; simp only [maxLen]; omega) (fm_app _ _) (app_len (l := Cells1) (l' := [r_1]) rfl rfl)) ?_ ?_
       ·rintro _ w_10 ⟨B3, c3, rfl, hS17⟩
        refine ⟨(hS17.se [0, 1]), ?_⟩
        refine rq 9 34 (v := pt (aD b2) 2) rfl (hS17.se [0, 1]) (fun w' hw' => (Y_fieldAddr (B := aD b2) (i := 0) (s := 0) k_fd_30_2_2_28 k_sz_28_1 rfl (hf1.get 6 4 rfl))) ?_
        refine rA [10] ?_
        refine ra_s0 (i := 10) rfl rfl rfl (Ys_store (i := 2) (s := 1) (B := aD b2) (T' := 30) (v := .slice B3 ((Cells1 ++ [r_1]).length) c3) (vs := [.slice B3 ((Cells1 ++ [r_1]).length) c3]) (k := 2) (cs' := [vi (shlK .i64 1 (IntKind.u64.wrap n)), vi (shlK .i64 1 (IntKind.u64.wrap n)), .slice B3 ((Cells1 ++ [r_1]).length) c3]) hS17 k_sz_28_1 rfl rfl rfl rfl rfl rfl rfl (lB rfl) rfl rfl) ?_ ?_
        ·rintro _ w_11 ⟨rfl, hS18⟩
         refine ⟨(hS18.se [0, 1]), ?_⟩
         refine ra_done (by kernel_rfl) ?_
         exact ⟨B3, c3, (FF.cons (hf1.get 0 0 rfl) (FF.cons (hf1.get 3 1 rfl) (FF.cons (hf1.get 4 2 rfl) (FF.cons (hf1.get 5 3 rfl) (FF.cons (hf1.get 6 4 rfl) (FF.cons (hf1.get 7 5 rfl) (FF.cons (hf1.get 8 6 rfl) FF.nil))))))), (hS18.sel [0, 1, 2, 3] rfl rfl)⟩
        exact allR_nil
       exact allR_nil
      exact allR_nil
     refine ra_s 32 (i := 7) rfl rfl rfl (Ys_bslice (s := 5) (len := 1) (vs := [(0, gD_ r_1)]) (cs := kD_ r_1) (zs := kZ_) (m := 5) hS15 k_sl_28_63 k_sz_63_5 k_zc_63 rfl (mpc rfl mpn) rfl rfl rfl (by kernel_rfl) (by kernel_rfl) rfl) ?_ ?_
     ·rintro _ w_12 ⟨b3, rfl, hS19⟩
      refine ⟨(hS19.se [0, 1]), ?_⟩
      refine rA [1] ?_
      refine ra_y 26 (i := 1) (v := .slice B2 Cells1.length c2) rfl rfl rfl (Y_load1 (B := aD b2) (i := 2) (cs := [vi (shlK .i64 1 (IntKind.u64.wrap n)), vi (shlK .i64 1 (IntKind.u64.wrap n)), .slice B2 Cells1.length c2]) (v := .slice B2 Cells1.length c2) k_sc_28 rfl rfl (hS19.cf (i := 2) rfl) rfl) (hS19.se [0, 1]) ?_ ?_
      ·skip
       refine rA [8] ?_
       refine ra_s 33 (i := 8) rfl rfl rfl (Ys_append (s := 5) (by' := 40) (i := 3) (nn := Cells1.length) (c := c2) (k := 1) (len := (Cells1 ++ [r_1]).length) (B := B2) (xs := ([r_1].flatMap eN0)) (cs' := ((Cells1 ++ [r_1]).flatMap eN0)) hS19 k_sl_28_63 k_sz_63_5 k_by_63_40 k_zero_63 rfl (by decide) rfl rfl rfl rfl (fm_lenn (l := Cells1) enc_Dyadic_len rfl) rfl (hS19.cf (i := 4) rfl) (fm_lenn (l := [r_1]) enc_Dyadic_len rfl) (fm_one' (enc := eN0) enc_Dyadic_one [r_1]) (by have := hap; omega) (by have := hap; simp only [maxLen]; omega) (fm_app _ _) (app_len (l := Cells1) (l' := [r_1]) rfl rfl)) ?_ ?_
       ·rintro _ w_13 ⟨B3, c3, rfl, hS20⟩
        refine ⟨(hS20.se [0, 1]), ?_⟩
        refine rq 9 34 (v := pt (aD b2) 2) rfl (hS20.se [0, 1]) (fun w' hw' => (Y_fieldAddr (B := aD b2) (i := 0) (s := 0) k_fd_30_2_2_28 k_sz_28_1 rfl (hf1.get 6 4 rfl))) ?_
        refine rA [10] ?_
        refine ra_s0 (i := 10) rfl rfl rfl (Ys_store (i := 2) (s := 1) (B := aD b2) (T' := 30) (v := .slice B3 ((Cells1 ++ [r_1]).length) c3) (vs := [.slice B3 ((Cells1 ++ [r_1]).length) c3]) (k := 2) (cs' := [vi (shlK .i64 1 (IntKind.u64.wrap n)), vi (shlK .i64 1 (IntKind.u64.wrap n)), .slice B3 ((Cells1 ++ [r_1]).length) c3]) hS20 k_sz_28_1 rfl rfl rfl rfl rfl rfl rfl (lB rfl) rfl rfl) ?_ ?_
        ·rintro _ w_14 ⟨rfl, hS21⟩
         refine ⟨(hS21.se [0, 1]), ?_⟩
         refine ra_done (by kernel_rfl) ?_
         exact ⟨B3, c3, (FF.cons (hf1.get 0 0 rfl) (FF.cons (hf1.get 3 1 rfl) (FF.cons (hf1.get 4 2 rfl) (FF.cons (hf1.get 5 3 rfl) (FF.cons (hf1.get 6 4 rfl) (FF.cons (hf1.get 7 5 rfl) (FF.cons (hf1.get 8 6 rfl) FF.nil))))))), (hS21.sel [0, 1, 2, 3] rfl rfl)⟩
        exact allR_nil
       exact allR_nil
      exact allR_nil
     exact allR_nil
    exact allR_nil
   rintro f w ⟨B4, c4, hf2, hS9⟩
   refine cw_region ?_
   refine sQ 23 (Y_move (v := vi (j : Int)) rfl (hf2.get 8 6 rfl)) ?_
   refine sQ 24 (Y_add (k := .i64) (a := (j : Int)) (b := 1) rfl rfl rfl) ?_
   refine sQ 8 (Y_assign (v := vi (i64.wrap ((j : Int) + 1))) rfl rfl) (rw_nil ?_)
   obtain rfl := some_inj hb1
   exact ⟨k_3, Nat.lt_succ_self _, j + 1, (Cells1 ++ [r_1]), B4, c4, (FF.cons (hf2.get 0 0 rfl) (FF.cons (hf2.get 3 1 rfl) (FF.cons (hf2.get 4 2 rfl) (FF.cons (hf2.get 5 3 rfl) (FF.cons (hf2.get 6 4 rfl) (FF.cons (hf2.get 7 5 rfl) (FF.cons (congrArg (Value.int .i64) (wr_succ hlt3 hN1)) FF.nil))))))), (hS9.sel [0, 1, 2, 3] rfl rfl), (by omega), hL3⟩
  ·skip
   obtain rfl : k_2 = 0 := by have h := of_decide_eq_false hlt2; omega
   refine cw_exit rfl ?_
   obtain rfl := some_inj hL2
   refine cw_region ?_
   refine sQ 18 (Y_move (v := vi (i1 : Int)) rfl (hf1.get 7 5 rfl)) ?_
   refine sQ 19 (Y_add (k := .i64) (a := (i1 : Int)) (b := 1) rfl rfl rfl) ?_
   refine sQ 7 (Y_assign (v := vi (i64.wrap ((i1 : Int) + 1))) rfl rfl) (rw_nil ?_)
   obtain rfl := some_inj hF2
   exact ⟨k_1, Nat.lt_succ_self _, i1 + 1, Cells1, B2, c2, (FF.cons (hf1.get 0 0 rfl) (FF.cons (hf1.get 3 1 rfl) (FF.cons (hf1.get 4 2 rfl) (FF.cons (hf1.get 5 3 rfl) (FF.cons (hf1.get 6 4 rfl) (FF.cons (congrArg (Value.int .i64) (wr_succ hlt1 hN)) FF.nil)))))), (hS7.sel [0, 1, 2, 3] rfl rfl), (by omega), hL1⟩
 ·skip
  obtain rfl : k_ = 0 := by have h := of_decide_eq_false hlt; omega
  refine cw_exit rfl ?_
  obtain rfl := some_inj hL
  refine cw_seq (cw_region ?_)
  refine sQ 35 (Y_loadA (B := aD b2) (i := 0) (cs := [vi (shlK .i64 1 (IntKind.u64.wrap n)), vi (shlK .i64 1 (IntKind.u64.wrap n)), .slice B1 Cells.length c1]) (vs := [vi (shlK .i64 1 (IntKind.u64.wrap n)), vi (shlK .i64 1 (IntKind.u64.wrap n)), .slice B1 Cells.length c1]) k_ag_30 k_sz_30_3 rfl (hf.get 6 4 rfl) (hS5.cf (i := 2) rfl) rfl rfl) ?_
  refine s0 (Ys_store (i := 1) (s := 3) (B := aD b1) (T' := 30) (v := .agg #[vi (shlK .i64 1 (IntKind.u64.wrap n)), vi (shlK .i64 1 (IntKind.u64.wrap n)), .slice B1 Cells.length c1]) (vs := [vi (shlK .i64 1 (IntKind.u64.wrap n)), vi (shlK .i64 1 (IntKind.u64.wrap n)), .slice B1 Cells.length c1]) (k := 0) (cs' := [vi (shlK .i64 1 (IntKind.u64.wrap n)), vi (shlK .i64 1 (IntKind.u64.wrap n)), .slice B1 Cells.length c1]) hS5 k_sz_30_3 rfl (hf.get 4 2 rfl) rfl rfl rfl rfl rfl (lB rfl) rfl rfl) ?_
  rintro _ w_15 ⟨rfl, hS22⟩
  refine rw_nil (cw_ret ?_)
  obtain rfl := some_inj hF1
  exact ret1 Tryz.results81 (v1 := .agg #[vi (shlK .i64 1 (IntKind.u64.wrap n)), vi (shlK .i64 1 (IntKind.u64.wrap n)), .slice B1 Cells.length c1]) (resAt_cellA (B := aD b1) (i := 0) (cs := [vi (shlK .i64 1 (IntKind.u64.wrap n)), vi (shlK .i64 1 (IntKind.u64.wrap n)), .slice B1 Cells.length c1]) (vs := [vi (shlK .i64 1 (IntKind.u64.wrap n)), vi (shlK .i64 1 (IntKind.u64.wrap n)), .slice B1 Cells.length c1]) (hf.get 4 2 rfl) k_ag_30 k_sz_30_3 (hS22.cf (i := 1) rfl) rfl rfl) ⟨B1, c1, rfl, (hS22.sN [3])⟩

theorem c_spec_l2C_run (c : Tl2C) (x : TCircuit) (m : TMatrix) (B : Option Addr) (B1 : Option Addr) (c1 n : Nat) (B2 : Option Addr) (c2 n1 : Nat) (w0 : World) (hn : x.Gates.length = n) (hn1 : m.Cells.length = n1) (hS : ST w0 (bl [⟨B, 75, [.bool c.bad], 1⟩, ⟨B2, 63, (m.Cells.flatMap eN0), c2 * 5⟩]) w0 [⟨B, 75, [.bool c.bad], 1⟩, ⟨B2, 63, (m.Cells.flatMap eN0), c2 * 5⟩] [⟨B1, (x.Gates.flatMap eN1)⟩]) {r_ : TMatrix} {m1 : Tl2C} (hF : F_spec_l2C_run c x m = some (r_, m1)) :
  CV Tryz.prog 36 #[pt B 0, .agg #[vi x.Qubits, .slice B1 n c1], .agg #[vi m.Rows, vi m.Cols, .slice B2 n1 c2]] w0 (fun v w' => ∃ (B3 : Option Addr) (c3 : Nat), v = (gM_ r_ B3 c3) ∧ ST w0 (bl [⟨B, 75, [.bool c.bad], 1⟩, ⟨B2, 63, (m.Cells.flatMap eN0), c2 * 5⟩]) w' [⟨B, 75, [.bool m1.bad], 1⟩, ⟨B3, 63, (r_.Cells.flatMap eN0), c3 * 5⟩] []) := by
 subst hn
 subst hn1
 unfold F_spec_l2C_run at hF
 refine cv_of_cw 30 Tryz.func36 rfl Tryz.ntmps36 rfl ?_
 refine cw_seq (cw_region ?_)
 refine sS 4 (Ys_box (T := 26) (v := .agg #[vi x.Qubits, .slice B1 x.Gates.length c1]) (cs := [vi x.Qubits, .slice B1 x.Gates.length c1]) (m := 2) hS rfl rfl rfl rfl) ?_
 rintro _ w_ ⟨b, rfl, hS1⟩
 refine sS 5 (Ys_box (T := 30) (v := gM_ m B2 c2) (cs := kM_ m B2 c2) (m := 3) hS1 rfl rfl rfl rfl) ?_
 rintro _ w_1 ⟨b1, rfl, hS2⟩
 refine sS 6 (Ys_alloc (T := 30) (cs := kN_) (m := 3) hS2 k_zero_30 rfl rfl rfl) ?_
 rintro _ w_2 ⟨b2, rfl, hS3⟩
 refine rw_nil (cw_seq (cw_seq (cw_region ?_)))
 refine sQ 9 (Y_fieldAddr (B := aD b) (i := 0) (s := 0) k_fd_26_1_1_24 k_sz_24_1 rfl rfl) ?_
 refine sQ 10 (Y_load1 (B := aD b) (i := 1) (cs := [vi x.Qubits, .slice B1 x.Gates.length c1]) (v := .slice B1 x.Gates.length c1) k_sc_24 rfl rfl (hS3.cf (i := 2) rfl) rfl) ?_
 refine sQ 11 (Y_len (B := B1) (m := x.Gates.length) (c := c1) k_sl_24_67 rfl rfl) ?_
 refine sQ 12 (Y_move (v := vi 0) rfl rfl) (rw_nil ?_)
 obtain ⟨hN, hF⟩ := chk_inv hF
 obtain ⟨z, hz, hF1⟩ := bind_inv hF
 refine cw_block ?_
 refine cw_loop (fun k f w => ∃ (i : Nat) (bad : Bool) (Rows : Int) (Cols : Int) (Cells : List TDyadic) (B4 : Option Addr) (c4 : Nat), FF f [(0, pt B 0), (4, pt (aD b) 0), (5, pt (aD b1) 0), (6, pt (aD b2) 0), (10, .slice B1 x.Gates.length c1), (11, vi (x.Gates.length : Int)), (12, vi (i : Int))] ∧ ST w0 (bl [⟨B, 75, [.bool c.bad], 1⟩, ⟨B2, 63, (m.Cells.flatMap eN0), c2 * 5⟩]) w [⟨B, 75, [.bool bad], 1⟩, ⟨aD b, 26, [vi x.Qubits, .slice B1 x.Gates.length c1], 2⟩, ⟨aD b1, 30, [vi Rows, vi Cols, .slice B4 Cells.length c4], 3⟩, ⟨B4, 63, (Cells.flatMap eN0), c4 * 5⟩, ⟨aD b2, 30, kN_, 3⟩] [⟨B1, (x.Gates.flatMap eN1)⟩] ∧ i + k = x.Gates.length ∧ forN (F_spec_l2C_run_l1 x) k i (bad, Rows, Cols, Cells) = some z) x.Gates.length ⟨0, c.bad, m.Rows, m.Cols, m.Cells, B2, c2, (FF.cons rfl (FF.cons rfl (FF.cons rfl (FF.cons rfl (FF.cons rfl (FF.cons rfl (FF.cons rfl FF.nil))))))), (hS3.sel [0, 2, 3, 1, 4] rfl rfl), Nat.zero_add _, hz⟩ ?_
 rintro k_ f w ⟨i, bad, Rows, Cols, Cells, B4, c4, hf, hS4, hik, hL⟩
 refine cw_seq (cw_region ?_)
 refine sQ 13 (Y_lt (k := .i64) (a := (i : Int)) (b := (x.Gates.length : Int)) rfl (hf.get 12 6 rfl) (hf.get 11 5 rfl)) (rw_nil (cw_seq ?_))
 refine cw_cond (b := (decide ((i : Int) < (x.Gates.length : Int)))) rfl (fun hlt => ?_) (fun hlt => ?_)
 ·skip
  have hlt1 : i < x.Gates.length := by have h := of_decide_eq_true hlt; omega
  obtain ⟨k_1, rfl⟩ : ∃ k2, k_ = k2 + 1 := ⟨k_ - 1, by omega⟩
  obtain ⟨y, hb, hL1⟩ := forN_go hL
  unfold F_spec_l2C_run_l1 at hb
  refine cw_skip (cw_seq ?_)
  obtain ⟨z1, hz1, hF2⟩ := bind_inv hb
  refine cw_mid (fun f w => ∃ (bad1 : Bool) (Rows1 : Int) (Cols1 : Int) (Cells1 : List TDyadic) (B5 : Option Addr) (c5 : Nat), (bad1, Rows1, Cols1, Cells1) = z1 ∧ FF f [(0, pt B 0), (4, pt (aD b) 0), (5, pt (aD b1) 0), (6, pt (aD b2) 0), (10, .slice B1 x.Gates.length c1), (11, vi (x.Gates.length : Int)), (12, vi (i : Int))] ∧ ST w0 (bl [⟨B, 75, [.bool c.bad], 1⟩, ⟨B2, 63, (m.Cells.flatMap eN0), c2 * 5⟩]) w [⟨B, 75, [.bool bad1], 1⟩, ⟨aD b, 26, [vi x.Qubits, .slice B1 x.Gates.length c1], 2⟩, ⟨aD b1, 30, [vi Rows1, vi Cols1, .slice B5 Cells1.length c5], 3⟩, ⟨B5, 63, (Cells1.flatMap eN0), c5 * 5⟩, ⟨aD b2, 30, kN_, 3⟩] [⟨B1, (x.Gates.flatMap eN1)⟩]) ?_ ?_
  ·skip
   refine cw_block (cw_seq (cw_region ?_))
   obtain ⟨x1, hx, hz1⟩ := bind_inv hz1
   refine sQ 14 (Y_index (B := B1) (m := x.Gates.length) (c := c1) (k := .i64) (i := (i : Int)) k_sl_24_67 k_sz_67_3 rfl (hf.get 10 4 rfl) (hf.get 12 6 rfl) (gi_isSome enc_Gate_len rfl (hS4.rf (i := 0) rfl) hx) (getI_nn hx) (getI_ltI hx rfl)) ?_
   refine sQ 15 (Y_loadA (B := B1) (i := (i : Int).toNat * 3) (cs := (x.Gates.flatMap eN1)) (vs := [vi x1.Kind, vi x1.A, vi x1.B]) k_ag_67 k_sz_67_3 rfl rfl (hS4.rf (i := 0) rfl) (enc_Gate_len x1) (gi_seg enc_Gate_len hx)) ?_
   refine sS 8 (Ys_alloc (T := 67) (cs := [vi 0, vi 0, vi 0]) (m := 3) hS4 k_zero_67 rfl rfl rfl) ?_
   rintro _ w_3 ⟨b3, rfl, hS6⟩
   refine s0 (Ys_store (i := 5) (s := 3) (B := aD b3) (T' := 67) (v := .agg #[vi x1.Kind, vi x1.A, vi x1.B]) (vs := [vi x1.Kind, vi x1.A, vi x1.B]) (k := 0) (cs' := [vi x1.Kind, vi x1.A, vi x1.B]) hS6 k_sz_67_3 rfl rfl rfl rfl rfl rfl rfl (lB rfl) rfl rfl) ?_
   rintro _ w_4 ⟨rfl, hS7⟩
   refine rw_nil (cw_seq (cw_region ?_))
   refine sQ 16 (Y_move (v := pt B 0) rfl (hf.get 0 0 rfl)) ?_
   refine sQ 17 (Y_nilCheck (B := B) (i := 0) rfl rfl) ?_
   refine sQ 18 (Y_fieldAddr (B := B) (i := 0) (s := 0) k_fd_75_0_0_4 k_sz_4_1 rfl rfl) ?_
   refine sQ 19 (Y_load1 (B := B) (i := 0) (cs := [.bool bad]) (v := .bool bad) k_sc_4 rfl rfl (hS7.cf (i := 0) rfl) rfl) ?_
   refine sQ 20 (Y_not (p := bad) rfl rfl) (rw_nil ?_)
   refine cw_cond (b := (!bad)) rfl (fun hb1 => ?_) (fun hb1 => ?_)
   ·skip
    have hF3 := ct hz1 hb1
    obtain ⟨r_1, hc, hF3⟩ := bind_inv hF3
    obtain ⟨⟨r_2, m2⟩, hc1, hF3⟩ := bind_inv hF3
    refine cw_mid (fun f w => ∃ (B8 : Option Addr) (c8 : Nat), FF f [(0, pt B 0), (4, pt (aD b) 0), (5, pt (aD b1) 0), (6, pt (aD b2) 0), (10, .slice B1 x.Gates.length c1), (11, vi (x.Gates.length : Int)), (12, vi (i : Int))] ∧ ST w0 (bl [⟨B, 75, [.bool c.bad], 1⟩, ⟨B2, 63, (m.Cells.flatMap eN0), c2 * 5⟩]) w [⟨B, 75, [.bool m2.bad], 1⟩, ⟨aD b, 26, [vi x.Qubits, .slice B1 x.Gates.length c1], 2⟩, ⟨aD b1, 30, kM_ r_2 B8 c8, 3⟩, ⟨B8, 63, (r_2.Cells.flatMap eN0), c8 * 5⟩, ⟨aD b2, 30, kN_, 3⟩] [⟨B1, (x.Gates.flatMap eN1)⟩]) ?_ ?_
    ·skip
     refine ra_start (hS7.se [1, 3, 4, 5]).fn (by kernel_rfl) ?_
     have hS11 := hS7.drew
     refine rq 0 21 (v := pt B 0) rfl (hS11.se [1, 3, 4, 5]) (fun w' hw' => (Y_move (v := pt B 0) rfl (hf.get 0 0 rfl))) ?_
     refine rq 1 22 (v := pt (aD b) 0) rfl (hS11.se [1, 3, 4, 5]) (fun w' hw' => (Y_fieldAddr (B := aD b) (i := 0) (s := 0) k_fd_26_0_0_3 k_sz_3_1 rfl (hf.get 4 1 rfl))) ?_
     refine rq 2 23 (v := vi x.Qubits) rfl (hS11.se [1, 3, 4, 5]) (fun w' hw' => (Y_load1 (B := aD b) (i := 0) (cs := [vi x.Qubits, .slice B1 x.Gates.length c1]) (v := vi x.Qubits) k_sc_3 rfl rfl (ST.cf hw' (i := 0) rfl) rfl)) ?_
     refine rq 3 24 (v := .agg #[vi x1.Kind, vi x1.A, vi x1.B]) rfl (hS11.se [1, 3, 4, 5]) (fun w' hw' => (Y_loadA (B := aD b3) (i := 0) (cs := [vi x1.Kind, vi x1.A, vi x1.B]) (vs := [vi x1.Kind, vi x1.A, vi x1.B]) k_ag_67 k_sz_67_3 rfl rfl (ST.cf hw' (i := 3) rfl) rfl rfl)) ?_
     refine rA [4, 5] ?_
     refine ra_c 25 (i := 4) rfl rfl rfl (Yc_func (g := 81) (vs := [vi x.Qubits, .agg #[vi x1.Kind, vi x1.A, vi x1.B]]) k_call_81 rfl (mc rfl (mc rfl mn)) (c_spec_l6Gate x.Qubits x1 _  (hS11.inn0 [] rfl) hc)) ?_ ?_
     ·rintro _ w_5 ⟨B6, c6, rfl, hd⟩
      have hS12 := hS11.out0 hd
      refine ⟨(hS12.se [1, 3, 4, 5]), ?_⟩
      refine rA [5] ?_
      refine ra_y 26 (i := 5) (v := .agg #[vi Rows, vi Cols, .slice B4 Cells.length c4]) rfl rfl rfl (Y_loadA (B := aD b1) (i := 0) (cs := [vi Rows, vi Cols, .slice B4 Cells.length c4]) (vs := [vi Rows, vi Cols, .slice B4 Cells.length c4]) k_ag_30 k_sz_30_3 rfl (hf.get 5 2 rfl) (hS12.cf (i := 2) rfl) rfl rfl) (hS12.se [1, 3, 4, 5]) ?_ ?_
      ·skip
       refine rA [6] ?_
       refine ra_c 27 (i := 6) rfl rfl rfl (Yc_func (g := 39) (vs := [pt B 0, gM_ r_1 B6 c6, .agg #[vi Rows, vi Cols, .slice B4 Cells.length c4]]) k_call_39 rfl (mc rfl (mc rfl (mc rfl mn))) (c_spec_l2C_times (Tl2C.mk bad) r_1 (TMatrix.mk Rows Cols Cells) B B6 c6 r_1.Cells.length B4 c4 Cells.length _ rfl rfl (hS12.inn [true, false, false, false, false, false, false] rfl [(false, 5), (false, 2)] rfl) hc1)) ?_ ?_
       ·rintro _ w_6 ⟨B7, c7, rfl, hd1⟩
        have hS13 := hS12.out [true, false, false, false, false, false, false] rfl hd1
        refine ⟨(hS13.se [0, 2, 3, 4]), ?_⟩
        refine rA [7] ?_
        refine ra_s0 (i := 7) rfl rfl rfl (Ys_store (i := 1) (s := 3) (B := aD b1) (T' := 30) (v := gM_ r_2 B7 c7) (vs := kM_ r_2 B7 c7) (k := 0) (cs' := kM_ r_2 B7 c7) hS13 k_sz_30_3 rfl (hf.get 5 2 rfl) rfl rfl rfl rfl rfl (lB rfl) rfl rfl) ?_ ?_
        ·rintro _ w_7 ⟨rfl, hS14⟩
         refine ⟨(hS14.se [0, 2, 3, 4]), ?_⟩
         refine ra_done (by kernel_rfl) ?_
         exact ⟨B7, c7, (FF.cons (hf.get 0 0 rfl) (FF.cons (hf.get 4 1 rfl) (FF.cons (hf.get 5 2 rfl) (FF.cons (hf.get 6 3 rfl) (FF.cons (hf.get 10 4 rfl) (FF.cons (hf.get 11 5 rfl) (FF.cons (hf.get 12 6 rfl) FF.nil))))))), (hS14.sel [6, 0, 1, 7, 3] rfl rfl)⟩
        exact allR_nil
       exact allR_nil
      exact allR_nil
     refine ra_y 26 (i := 5) (v := .agg #[vi Rows, vi Cols, .slice B4 Cells.length c4]) rfl rfl rfl (Y_loadA (B := aD b1) (i := 0) (cs := [vi Rows, vi Cols, .slice B4 Cells.length c4]) (vs := [vi Rows, vi Cols, .slice B4 Cells.length c4]) k_ag_30 k_sz_30_3 rfl (hf.get 5 2 rfl) (hS11.cf (i := 2) rfl) rfl rfl) (hS11.se [1, 3, 4, 5]) ?_ ?_
     ·skip
      refine rA [4] ?_
      refine ra_c 25 (i := 4) rfl rfl rfl (Yc_func (g := 81) (vs := [vi x.Qubits, .agg #[vi x1.Kind, vi x1.A, vi x1.B]]) k_call_81 rfl (mc rfl (mc rfl mn)) (c_spec_l6Gate x.Qubits x1 _  (hS11.inn0 [] rfl) hc)) ?_ ?_
      ·rintro _ w_8 ⟨B6, c6, rfl, hd2⟩
       have hS15 := hS11.out0 hd2
       refine ⟨(hS15.se [1, 3, 4, 5]), ?_⟩
       refine rA [6] ?_
       refine ra_c 27 (i := 6) rfl rfl rfl (Yc_func (g := 39) (vs := [pt B 0, gM_ r_1 B6 c6, .agg #[vi Rows, vi Cols, .slice B4 Cells.length c4]]) k_call_39 rfl (mc rfl (mc rfl (mc rfl mn))) (c_spec_l2C_times (Tl2C.mk bad) r_1 (TMatrix.mk Rows Cols Cells) B B6 c6 r_1.Cells.length B4 c4 Cells.length _ rfl rfl (hS15.inn [true, false, false, false, false, false, false] rfl [(false, 5), (false, 2)] rfl) hc1)) ?_ ?_
       ·rintro _ w_9 ⟨B7, c7, rfl, hd3⟩
        have hS16 := hS15.out [true, false, false, false, false, false, false] rfl hd3
        refine ⟨(hS16.se [0, 2, 3, 4]), ?_⟩
        refine rA [7] ?_
        refine ra_s0 (i := 7) rfl rfl rfl (Ys_store (i := 1) (s := 3) (B := aD b1) (T' := 30) (v := gM_ r_2 B7 c7) (vs := kM_ r_2 B7 c7) (k := 0) (cs' := kM_ r_2 B7 c7) hS16 k_sz_30_3 rfl (hf.get 5 2 rfl) rfl rfl rfl rfl rfl (lB rfl) rfl rfl) ?_ ?_
        ·rintro _ w_10 ⟨rfl, hS17⟩
         refine ⟨(hS17.se [0, 2, 3, 4]), ?_⟩
         refine ra_done (by kernel_rfl) ?_
         exact ⟨B7, c7, (FF.cons (hf.get 0 0 rfl) (FF.cons (hf.get 4 1 rfl) (FF.cons (hf.get 5 2 rfl) (FF.cons (hf.get 6 3 rfl) (FF.cons (hf.get 10 4 rfl) (FF.cons (hf.get 11 5 rfl) (FF.cons (hf.get 12 6 rfl) FF.nil))))))), (hS17.sel [6, 0, 1, 7, 3] rfl rfl)⟩
        exact allR_nil
       exact allR_nil
      exact allR_nil
     exact allR_nil
    rintro f w ⟨B8, c8, hf2, hS10⟩
    exact ⟨m2.bad, r_2.Rows, r_2.Cols, r_2.Cells, B8, c8, (some_inj hF3), (FF.cons (hf2.get 0 0 rfl) (FF.cons (hf2.get 4 1 rfl) (FF.cons (hf2.get 5 2 rfl) (FF.cons (hf2.get 6 3 rfl) (FF.cons (hf2.get 10 4 rfl) (FF.cons (hf2.get 11 5 rfl) (FF.cons (hf2.get 12 6 rfl) FF.nil))))))), (hS10.sel [0, 1, 2, 3, 4] rfl rfl)⟩
   ·skip
    have hF4 := cf' hz1 hb1
    refine cw_skip ?_
    exact ⟨bad, Rows, Cols, Cells, B4, c4, (some_inj hF4), (FF.cons (hf.get 0 0 rfl) (FF.cons (hf.get 4 1 rfl) (FF.cons (hf.get 5 2 rfl) (FF.cons (hf.get 6 3 rfl) (FF.cons (hf.get 10 4 rfl) (FF.cons (hf.get 11 5 rfl) (FF.cons (hf.get 12 6 rfl) FF.nil))))))), (hS7.sel [0, 1, 2, 3, 4] rfl rfl)⟩
  rintro f w ⟨bad1, Rows1, Cols1, Cells1, B5, c5, rfl, hf1, hS5⟩
  refine cw_region ?_
  refine sQ 28 (Y_add (k := .i64) (a := (i : Int)) (b := 1) rfl (hf1.get 12 6 rfl) rfl) ?_
  refine sQ 12 (Y_move (v := vi (i64.wrap ((i : Int) + 1))) rfl rfl) (rw_nil ?_)
  obtain rfl := some_inj hF2
  exact ⟨k_1, Nat.lt_succ_self _, i + 1, bad1, Rows1, Cols1, Cells1, B5, c5, (FF.cons (hf1.get 0 0 rfl) (FF.cons (hf1.get 4 1 rfl) (FF.cons (hf1.get 5 2 rfl) (FF.cons (hf1.get 6 3 rfl) (FF.cons (hf1.get 10 4 rfl) (FF.cons (hf1.get 11 5 rfl) (FF.cons (congrArg (Value.int .i64) (wr_succ hlt1 hN)) FF.nil))))))), (hS5.sel [0, 1, 2, 3, 4] rfl rfl), (by omega), hL1⟩
 ·skip
  obtain rfl : k_ = 0 := by have h := of_decide_eq_false hlt; omega
  refine cw_exit rfl ?_
  obtain rfl := some_inj hL
  refine cw_seq (cw_region ?_)
  refine sQ 29 (Y_loadA (B := aD b1) (i := 0) (cs := [vi Rows, vi Cols, .slice B4 Cells.length c4]) (vs := [vi Rows, vi Cols, .slice B4 Cells.length c4]) k_ag_30 k_sz_30_3 rfl (hf.get 5 2 rfl) (hS4.cf (i := 2) rfl) rfl rfl) ?_
  refine s0 (Ys_store (i := 4) (s := 3) (B := aD b2) (T' := 30) (v := .agg #[vi Rows, vi Cols, .slice B4 Cells.length c4]) (vs := [vi Rows, vi Cols, .slice B4 Cells.length c4]) (k := 0) (cs' := [vi Rows, vi Cols, .slice B4 Cells.length c4]) hS4 k_sz_30_3 rfl (hf.get 6 3 rfl) rfl rfl rfl rfl rfl (lB rfl) rfl rfl) ?_
  rintro _ w_11 ⟨rfl, hS18⟩
  refine rw_nil (cw_ret ?_)
  obtain ⟨rfl, rfl⟩ := pr2 (some_inj hF1)
  exact ret1 Tryz.results36 (v1 := .agg #[vi Rows, vi Cols, .slice B4 Cells.length c4]) (resAt_cellA (B := aD b2) (i := 0) (cs := [vi Rows, vi Cols, .slice B4 Cells.length c4]) (vs := [vi Rows, vi Cols, .slice B4 Cells.length c4]) (hf.get 6 3 rfl) k_ag_30 k_sz_30_3 (hS18.cf (i := 4) rfl) rfl rfl) ⟨B4, c4, rfl, (hS18.sN [0, 3])⟩

theorem c_spec_l3Unit (n : Int)  (w0 : World)  (hS : ST w0 [] w0 [] []) {r_ : TMatrix} (hF : F_spec_l3Unit n = some r_) :
  CV Tryz.prog 37 #[vi n] w0 (fun v w' => ∃ (B : Option Addr) (c : Nat), v = (gM_ r_ B c) ∧ ST w0 [] w' [⟨B, 63, (r_.Cells.flatMap eN0), c * 5⟩] []) := by
 unfold F_spec_l3Unit at hF
 refine cv_of_cw 27 Tryz.func37 rfl Tryz.ntmps37 rfl ?_
 refine cw_seq (cw_region ?_)
 refine sS 2 (Ys_alloc (T := 30) (cs := kN_) (m := 3) hS k_zero_30 rfl rfl rfl) ?_
 rintro _ w_ ⟨b, rfl, hS1⟩
 refine rw_nil (cw_seq (cw_region ?_))
 refine sQ 5 (Y_move (v := vi n) rfl rfl) ?_
 refine sQ 6 (Y_move (v := vi n) rfl rfl) ?_
 refine sQ 7 (Y_move (v := vi n) rfl rfl) ?_
 refine sQ 8 (Y_move (v := vi n) rfl rfl) ?_
 refine sQ 9 (Y_mul (k := .i64) (a := n) (b := n) rfl rfl rfl) ?_
 obtain ⟨hmk, hF⟩ := chk_inv hF
 refine sS 10 (Ys_make (s := 5) (by' := 40) (nn := (i64.wrap (n * n)).toNat) (a := (i64.wrap (n * n))) (b := (i64.wrap (n * n))) (cs := ((List.replicate ((i64.wrap (n * n)).toNat) (TDyadic.mk (TRing.mk 0 0 0 0) 0)).flatMap eN0)) hS1 k_sl_28_63 k_sz_63_5 k_by_63_40 k_zero_63 rfl rfl rfl rfl hmk.1 rfl (by have := hmk; omega) (by have := hmk; omega) (by omega) (fm_rep (enc := eN0) (d := (TDyadic.mk (TRing.mk 0 0 0 0) 0)) rfl _)) ?_
 rintro _ w_1 ⟨b1, rfl, hS2⟩
 refine sQ 11 (Y_buildS (zs := kN_) (vs := [(0, vi n), (1, vi n), (2, .slice (aD b1) ((i64.wrap (n * n)).toNat) ((i64.wrap (n * n)).toNat))]) (cs := [vi n, vi n, .slice (aD b1) ((i64.wrap (n * n)).toNat) ((i64.wrap (n * n)).toNat)]) k_pl_30 k_zero_30 rfl (mpc rfl (mpc rfl (mpc rfl mpn))) rfl) ?_
 refine sS 3 (Ys_alloc (T := 30) (cs := kN_) (m := 3) hS2 k_zero_30 rfl rfl rfl) ?_
 rintro _ w_2 ⟨b2, rfl, hS3⟩
 refine s0 (Ys_store (i := 2) (s := 3) (B := aD b2) (T' := 30) (v := .agg #[vi n, vi n, .slice (aD b1) ((i64.wrap (n * n)).toNat) ((i64.wrap (n * n)).toNat)]) (vs := [vi n, vi n, .slice (aD b1) ((i64.wrap (n * n)).toNat) ((i64.wrap (n * n)).toNat)]) (k := 0) (cs' := [vi n, vi n, .slice (aD b1) ((i64.wrap (n * n)).toNat) ((i64.wrap (n * n)).toNat)]) hS3 k_sz_30_3 rfl rfl rfl rfl rfl rfl rfl (lB rfl) rfl rfl) ?_
 rintro _ w_3 ⟨rfl, hS4⟩
 refine rw_nil (cw_seq (cw_seq (cw_region ?_)))
 refine sQ 4 (Y_assign (v := vi 0) rfl rfl) (rw_nil ?_)
 obtain ⟨hN, hF⟩ := chk_inv hF
 obtain ⟨z, hz, hF1⟩ := bind_inv hF
 refine cw_block ?_
 refine cw_loop (fun k f w => ∃ (i1 : Nat) (Cells : List TDyadic), FF f [(0, vi n), (2, pt (aD b) 0), (3, pt (aD b2) 0), (4, vi (i1 : Int))] ∧ Cells.length = (i64.wrap (n * n)).toNat ∧ ST w0 [] w [⟨aD b, 30, kN_, 3⟩, ⟨aD b2, 30, [vi n, vi n, .slice (aD b1) ((i64.wrap (n * n)).toNat) ((i64.wrap (n * n)).toNat)], 3⟩, ⟨aD b1, 63, (Cells.flatMap eN0), ((i64.wrap (n * n)).toNat) * 5⟩] [] ∧ i1 + k = n.toNat ∧ forN (F_spec_l3Unit_l1 n) k i1 Cells = some z) n.toNat ⟨0, (List.replicate ((i64.wrap (n * n)).toNat) (TDyadic.mk (TRing.mk 0 0 0 0) 0)), (FF.cons rfl (FF.cons rfl (FF.cons rfl (FF.cons rfl FF.nil)))), List.length_replicate, (hS4.sel [0, 2, 1] rfl rfl), Nat.zero_add _, hz⟩ ?_
 rintro k_ f w ⟨i1, Cells, hf, hl, hS5, hik, hL⟩
 refine cw_seq (cw_seq (cw_region ?_))
 refine sQ 12 (Y_move (v := vi (i1 : Int)) rfl (hf.get 4 3 rfl)) ?_
 refine sQ 13 (Y_move (v := vi n) rfl (hf.get 0 0 rfl)) ?_
 refine sQ 14 (Y_lt (k := .i64) (a := (i1 : Int)) (b := n) rfl rfl rfl) (rw_nil ?_)
 refine cw_cond (b := (decide ((i1 : Int) < n))) rfl (fun hlt => ?_) (fun hlt => ?_)
 ·skip
  have hlt1 : i1 < n.toNat := by have h := of_decide_eq_true hlt; omega
  obtain ⟨k_1, rfl⟩ : ∃ k2, k_ = k2 + 1 := ⟨k_ - 1, by omega⟩
  obtain ⟨y, hb, hL1⟩ := forN_go hL
  unfold F_spec_l3Unit_l1 at hb
  refine cw_skip (cw_seq (cw_block ?_))
  obtain ⟨r_1, hc, hb⟩ := bind_inv hb
  obtain ⟨x, hx, hb⟩ := bind_inv hb
  refine ra_start (hS5.se [0, 1]).fn (by kernel_rfl) ?_
  have hS7 := hS5.drew
  refine rq 0 17 (v := pt (aD b2) 2) rfl (hS7.se [0, 1]) (fun w' hw' => (Y_fieldAddr (B := aD b2) (i := 0) (s := 0) k_fd_30_2_2_28 k_sz_28_1 rfl (hf.get 3 2 rfl))) ?_
  refine rq 1 18 (v := .slice (aD b1) ((i64.wrap (n * n)).toNat) ((i64.wrap (n * n)).toNat)) rfl (hS7.se [0, 1]) (fun w' hw' => (Y_load1 (B := aD b2) (i := 2) (cs := [vi n, vi n, .slice (aD b1) ((i64.wrap (n * n)).toNat) ((i64.wrap (n * n)).toNat)]) (v := .slice (aD b1) ((i64.wrap (n * n)).toNat) ((i64.wrap (n * n)).toNat)) k_sc_28 rfl rfl (ST.cf hw' (i := 1) rfl) rfl)) ?_
  refine rq 2 19 (v := vi (i1 : Int)) rfl (hS7.se [0, 1]) (fun w' hw' => (Y_move (v := vi (i1 : Int)) rfl (hf.get 4 3 rfl))) ?_
  refine rq 3 20 (v := vi n) rfl (hS7.se [0, 1]) (fun w' hw' => (Y_move (v := vi n) rfl (hf.get 0 0 rfl))) ?_
  refine rq 4 21 (v := vi (i64.wrap ((i1 : Int) * n))) rfl (hS7.se [0, 1]) (fun w' hw' => (Y_mul (k := .i64) (a := (i1 : Int)) (b := n) rfl rfl rfl)) ?_
  refine rq 5 22 (v := vi (i1 : Int)) rfl (hS7.se [0, 1]) (fun w' hw' => (Y_move (v := vi (i1 : Int)) rfl (hf.get 4 3 rfl))) ?_
  refine rq 6 23 (v := vi (i64.wrap ((i64.wrap ((i1 : Int) * n)) + (i1 : Int)))) rfl (hS7.se [0, 1]) (fun w' hw' => (Y_add (k := .i64) (a := (i64.wrap ((i1 : Int) * n))) (b := (i1 : Int)) rfl rfl rfl)) ?_
  refine rA [7] ?_
  refine ra_c 24 (i := 7) rfl rfl rfl (Yc_func (g := 82) (vs := [vi 0]) k_call_82 rfl (mc rfl mn) (c_spec_l2Power 0 _  (hS7.inn0 [] rfl) hc)) ?_ ?_
  ·rintro _ w_4 ⟨rfl, hd⟩
   have hS8 := hS7.out00 hd
   refine ⟨(hS8.se [0, 1]), ?_⟩
   refine rA [8] ?_
   refine ra_y 25 (i := 8) (v := pt (aD b1) ((i64.wrap ((i64.wrap ((i1 : Int) * n)) + (i1 : Int))).toNat * 5)) rfl rfl rfl (Y_index (B := aD b1) (m := (i64.wrap (n * n)).toNat) (c := (i64.wrap (n * n)).toNat) (k := .i64) (i := (i64.wrap ((i64.wrap ((i1 : Int) * n)) + (i1 : Int)))) k_sl_28_63 k_sz_63_5 rfl rfl rfl (gi_isSome enc_Dyadic_len rfl (hS8.cf (i := 2) rfl) hx) (getI_nn hx) (getI_ltI hx hl)) (hS8.se [0, 1]) ?_ ?_
   ·skip
    refine rA [9] ?_
    refine ra_s0 (i := 9) rfl rfl rfl (Ys_store (i := 2) (s := 5) (B := aD b1) (T' := 63) (v := gD_ r_1) (vs := kD_ r_1) (k := (i64.wrap ((i64.wrap ((i1 : Int) * n)) + (i1 : Int))).toNat * 5) (cs' := ((Cells.set (i64.wrap ((i64.wrap ((i1 : Int) * n)) + (i1 : Int))).toNat r_1).flatMap eN0)) hS8 k_sz_63_5 rfl rfl rfl rfl rfl rfl rfl (gi_fit0 enc_Dyadic_len hx) (gi_set enc_Dyadic_len hx r_1 rfl) rfl) ?_ ?_
    ·rintro _ w_5 ⟨rfl, hS9⟩
     refine ⟨(hS9.se [0, 1]), ?_⟩
     refine ra_done (by kernel_rfl) ?_
     refine cw_region ?_
     refine sQ 15 (Y_move (v := vi (i1 : Int)) rfl (hf.get 4 3 rfl)) ?_
     refine sQ 16 (Y_add (k := .i64) (a := (i1 : Int)) (b := 1) rfl rfl rfl) ?_
     refine sQ 4 (Y_assign (v := vi (i64.wrap ((i1 : Int) + 1))) rfl rfl) (rw_nil ?_)
     obtain rfl := some_inj hb
     exact ⟨k_1, Nat.lt_succ_self _, i1 + 1, (Cells.set (i64.wrap ((i64.wrap ((i1 : Int) * n)) + (i1 : Int))).toNat r_1), (FF.cons (hf.get 0 0 rfl) (FF.cons (hf.get 2 1 rfl) (FF.cons (hf.get 3 2 rfl) (FF.cons (congrArg (Value.int .i64) (wr_succ hlt1 hN)) FF.nil)))), (set_len _ _ _ hl), (hS9.sel [0, 1, 2] rfl rfl), (by omega), hL1⟩
    exact allR_nil
   exact allR_nil
  exact allR_nil
 ·skip
  obtain rfl : k_ = 0 := by have h := of_decide_eq_false hlt; omega
  refine cw_exit rfl ?_
  obtain rfl := some_inj hL
  refine cw_seq (cw_region ?_)
  refine sQ 26 (Y_loadA (B := aD b2) (i := 0) (cs := [vi n, vi n, .slice (aD b1) ((i64.wrap (n * n)).toNat) ((i64.wrap (n * n)).toNat)]) (vs := [vi n, vi n, .slice (aD b1) ((i64.wrap (n * n)).toNat) ((i64.wrap (n * n)).toNat)]) k_ag_30 k_sz_30_3 rfl (hf.get 3 2 rfl) (hS5.cf (i := 1) rfl) rfl rfl) ?_
  refine s0 (Ys_store (i := 0) (s := 3) (B := aD b) (T' := 30) (v := .agg #[vi n, vi n, .slice (aD b1) ((i64.wrap (n * n)).toNat) ((i64.wrap (n * n)).toNat)]) (vs := [vi n, vi n, .slice (aD b1) ((i64.wrap (n * n)).toNat) ((i64.wrap (n * n)).toNat)]) (k := 0) (cs' := [vi n, vi n, .slice (aD b1) ((i64.wrap (n * n)).toNat) ((i64.wrap (n * n)).toNat)]) hS5 k_sz_30_3 rfl (hf.get 2 1 rfl) rfl rfl rfl rfl rfl (lB rfl) rfl rfl) ?_
  rintro _ w_6 ⟨rfl, hS10⟩
  refine rw_nil (cw_ret ?_)
  obtain rfl := some_inj hF1
  exact ret1 Tryz.results37 (v1 := .agg #[vi n, vi n, .slice (aD b1) ((i64.wrap (n * n)).toNat) ((i64.wrap (n * n)).toNat)]) (resAt_cellA (B := aD b) (i := 0) (cs := [vi n, vi n, .slice (aD b1) ((i64.wrap (n * n)).toNat) ((i64.wrap (n * n)).toNat)]) (vs := [vi n, vi n, .slice (aD b1) ((i64.wrap (n * n)).toNat) ((i64.wrap (n * n)).toNat)]) (hf.get 2 1 rfl) k_ag_30 k_sz_30_3 (hS10.cf (i := 0) rfl) rfl rfl) ⟨aD b1, (i64.wrap (n * n)).toNat, (by simp [hl]), (hS10.sN [2])⟩

theorem c_spec_OperatorOf (c : TCircuit) (B : Option Addr) (c1 n : Nat) (w0 : World) (hn : c.Gates.length = n) (hS : ST w0 [] w0 [] [⟨B, (c.Gates.flatMap eN1)⟩]) {r_ : TMatrix} {r_1 : Bool} (hF : F_spec_OperatorOf c = some (r_, r_1)) :
  CV Tryz.prog 9 #[.agg #[vi c.Qubits, .slice B n c1]] w0 (fun v w' => ∃ (B1 : Option Addr) (c2 : Nat), v = .tuple #[gM_ r_ B1 c2, .bool r_1] ∧ ST w0 [] w' [⟨B1, 63, (r_.Cells.flatMap eN0), c2 * 5⟩] []) := by
 subst hn
 unfold F_spec_OperatorOf at hF
 refine cv_of_cw 23 Tryz.func9 rfl Tryz.ntmps9 rfl ?_
 refine cw_seq (cw_region ?_)
 refine sS 1 (Ys_box (T := 26) (v := .agg #[vi c.Qubits, .slice B c.Gates.length c1]) (cs := [vi c.Qubits, .slice B c.Gates.length c1]) (m := 2) hS rfl rfl rfl rfl) ?_
 rintro _ w_ ⟨b, rfl, hS1⟩
 refine sS 2 (Ys_alloc (T := 30) (cs := kN_) (m := 3) hS1 k_zero_30 rfl rfl rfl) ?_
 rintro _ w_1 ⟨b1, rfl, hS2⟩
 refine sQ 3 (Y_assign (v := .bool false) rfl rfl) (rw_nil (cw_seq (cw_seq (cw_region ?_))))
 refine sQ 5 (Y_loadA (B := aD b) (i := 0) (cs := [vi c.Qubits, .slice B c.Gates.length c1]) (vs := [vi c.Qubits, .slice B c.Gates.length c1]) k_ag_26 k_sz_26_2 rfl rfl (hS2.cf (i := 0) rfl) rfl rfl) ?_
 obtain ⟨r_2, hc, hF⟩ := bind_inv hF
 refine sc 6 rfl rfl (Yc_func (g := 34) (vs := [.agg #[vi c.Qubits, .slice B c.Gates.length c1]]) k_call_34 rfl (mc rfl mn) (c_spec_l4Good c B c1 c.Gates.length _ rfl (hS2.inn0 [(true, 0)] rfl) hc)) ?_
 rintro _ w_2 ⟨rfl, hd⟩
 have hS3 := hS2.out00 hd
 refine sQ 7 (Y_not (p := r_2) rfl rfl) (rw_nil ?_)
 refine cw_cond (b := (!r_2)) rfl (fun hb => ?_) (fun hb => ?_)
 ·skip
  have hF1 := ct hF hb
  refine cw_seq (cw_region ?_)
  refine sQ 8 (Y_buildS (zs := kN_) (vs := []) (cs := kN_) k_pl_30 k_zero_30 rfl mpn rfl) ?_
  refine s0 (Ys_store (i := 1) (s := 3) (B := aD b1) (T' := 30) (v := gN_) (vs := kN_) (k := 0) (cs' := kN_) hS3 k_sz_30_3 rfl rfl rfl rfl rfl rfl rfl (lB rfl) rfl rfl) ?_
  rintro _ w_3 ⟨rfl, hS4⟩
  refine sQ 3 (Y_assign (v := .bool false) rfl rfl) (rw_nil (cw_ret ?_))
  have hS5 := hS4.addNil 63
  obtain ⟨rfl, rfl⟩ := pr2 (some_inj hF1)
  exact ret2 Tryz.results9 (v1 := gN_) (resAt_cellA (B := aD b1) (i := 0) (cs := kN_) (vs := kN_) rfl k_ag_30 k_sz_30_3 (hS5.cf (i := 1) rfl) rfl rfl) (v2 := .bool false) (resAt_tmp rfl) ⟨none, 0, rfl, (hS5.sN [2])⟩
 ·skip
  have hF2 := cf' hF hb
  refine cw_skip (cw_seq (cw_region ?_))
  refine sQ 9 (Y_buildS (zs := [.bool false]) (vs := []) (cs := [.bool false]) k_pl_75 k_zero_75 rfl mpn rfl) ?_
  refine sS 10 (Ys_box (T := 75) (v := .agg #[.bool false]) (cs := [.bool false]) (m := 1) hS3 rfl rfl rfl rfl) ?_
  rintro _ w_4 ⟨b2, rfl, hS6⟩
  refine sQ 4 (Y_assign (v := pt (aD b2) 0) rfl rfl) (rw_nil (cw_seq ?_))
  obtain ⟨hsh, hF2⟩ := chk_inv hF2
  obtain ⟨r_3, hc1, hF2⟩ := bind_inv hF2
  obtain ⟨⟨r_4, m⟩, hc2, hF2⟩ := bind_inv hF2
  obtain ⟨⟨r_5, r_6⟩, hc3, hF2⟩ := bind_inv hF2
  refine ra_start (hS6.se [0]).fn (by kernel_rfl) ?_
  have hS10 := hS6.drew
  refine rq 0 11 (v := pt (aD b2) 0) rfl (hS10.se [0]) (fun w' hw' => (Y_move (v := pt (aD b2) 0) rfl rfl)) ?_
  refine rq 1 12 (v := pt (aD b2) 0) rfl (hS10.se [0]) (fun w' hw' => (Y_move (v := pt (aD b2) 0) rfl rfl)) ?_
  refine rq 2 13 (v := .agg #[vi c.Qubits, .slice B c.Gates.length c1]) rfl (hS10.se [0]) (fun w' hw' => (Y_loadA (B := aD b) (i := 0) (cs := [vi c.Qubits, .slice B c.Gates.length c1]) (vs := [vi c.Qubits, .slice B c.Gates.length c1]) k_ag_26 k_sz_26_2 rfl rfl (ST.cf hw' (i := 0) rfl) rfl rfl)) ?_
  refine rq 3 14 (v := pt (aD b) 0) rfl (hS10.se [0]) (fun w' hw' => (Y_fieldAddr (B := aD b) (i := 0) (s := 0) k_fd_26_0_0_3 k_sz_3_1 rfl rfl)) ?_
  refine rq 4 15 (v := vi c.Qubits) rfl (hS10.se [0]) (fun w' hw' => (Y_load1 (B := aD b) (i := 0) (cs := [vi c.Qubits, .slice B c.Gates.length c1]) (v := vi c.Qubits) k_sc_3 rfl rfl (ST.cf hw' (i := 0) rfl) rfl)) ?_
  refine rq 5 16 (v := .int .u64 (IntKind.u64.wrap c.Qubits)) rfl (hS10.se [0]) (fun w' hw' => (Y_conv (k := .i64) (a := c.Qubits) (T := 3) (T' := 53) k_us_3 k_int_53_u64 rfl rfl)) ?_
  refine rq 6 17 (v := vi (shlK .i64 1 (IntKind.u64.wrap c.Qubits))) rfl (hS10.se [0]) (fun w' hw' => (Y_shl (k := .i64) (a := 1) (k' := .u64) (b := (IntKind.u64.wrap c.Qubits)) rfl rfl rfl hsh)) ?_
  refine rA [7] ?_
  refine ra_c 18 (i := 7) rfl rfl rfl (Yc_func (g := 37) (vs := [vi (shlK .i64 1 (IntKind.u64.wrap c.Qubits))]) k_call_37 rfl (mc rfl mn) (c_spec_l3Unit (shlK .i64 1 (IntKind.u64.wrap c.Qubits)) _  (hS10.inn0 [] rfl) hc1)) ?_ ?_
  ·rintro _ w_5 ⟨B2, c3, rfl, hd1⟩
   have hS11 := hS10.out0 hd1
   refine ⟨(hS11.se [0]), ?_⟩
   refine rA [8] ?_
   refine ra_c 19 (i := 8) rfl rfl rfl (Yc_func (g := 36) (vs := [pt (aD b2) 0, .agg #[vi c.Qubits, .slice B c.Gates.length c1], gM_ r_3 B2 c3]) k_call_36 rfl (mc rfl (mc rfl (mc rfl mn))) (c_spec_l2C_run (Tl2C.mk false) c r_3 (aD b2) B c1 c.Gates.length B2 c3 r_3.Cells.length _ rfl rfl (hS11.inn [false, false, true, true] rfl [(true, 0)] rfl) hc2)) ?_ ?_
   ·rintro _ w_6 ⟨B3, c4, rfl, hd2⟩
    have hS12 := hS11.out [false, false, true, true] rfl hd2
    refine ⟨(hS12.se [0]), ?_⟩
    refine rA [9] ?_
    refine ra_c 20 (i := 9) rfl rfl rfl (Yc_func (g := 35) (vs := [pt (aD b2) 0, gM_ r_4 B3 c4]) k_call_35 rfl (mc rfl (mc rfl mn)) (c_spec_l2C_matrix m r_4 (aD b2) B3 c4 r_4.Cells.length _ rfl (hS12.inn [false, false, false, true] rfl [(false, 2)] rfl) hc3)) ?_ ?_
    ·rintro _ w_7 ⟨B4, c5, rfl, hd3⟩
     have hS13 := hS12.out [false, false, false, true] rfl hd3
     refine ⟨(hS13.se [0]), ?_⟩
     refine rq 10 21 (v := gM_ r_5 B4 c5) rfl (hS13.se [0]) (fun w' hw' => (Y_extract (v := gM_ r_5 B4 c5) rfl rfl rfl)) ?_
     refine rq 11 22 (v := .bool r_6) rfl (hS13.se [0]) (fun w' hw' => (Y_extract (v := .bool r_6) rfl rfl rfl)) ?_
     refine rA [12] ?_
     refine ra_s0 (i := 12) rfl rfl rfl (Ys_store (i := 1) (s := 3) (B := aD b1) (T' := 30) (v := gM_ r_5 B4 c5) (vs := kM_ r_5 B4 c5) (k := 0) (cs' := kM_ r_5 B4 c5) hS13 k_sz_30_3 rfl rfl rfl rfl rfl rfl rfl (lB rfl) rfl rfl) ?_ ?_
     ·rintro _ w_8 ⟨rfl, hS14⟩
      refine ⟨(hS14.se [0]), ?_⟩
      refine rq 13 3 (v := .bool r_6) rfl (hS14.se [0]) (fun w' hw' => (Y_assign (v := .bool r_6) rfl rfl)) ?_
      refine ra_done (by kernel_rfl) ?_
      refine cw_ret ?_
      obtain ⟨rfl, rfl⟩ := pr2 (some_inj hF2)
      exact ret2 Tryz.results9 (v1 := gM_ r_5 B4 c5) (resAt_cellA (B := aD b1) (i := 0) (cs := kM_ r_5 B4 c5) (vs := kM_ r_5 B4 c5) rfl k_ag_30 k_sz_30_3 (hS14.cf (i := 1) rfl) rfl rfl) (v2 := .bool r_6) (resAt_tmp rfl) ⟨B4, c5, rfl, (hS14.sN [3])⟩
     exact allR_nil
    exact allR_nil
   exact allR_nil
  exact allR_nil

theorem c_spec_EqualMatrices (a : TMatrix) (b : TMatrix) (B : Option Addr) (c n : Nat) (B1 : Option Addr) (c1 n1 : Nat) (w0 : World) (hn : a.Cells.length = n) (hn1 : b.Cells.length = n1) (hS : ST w0 [] w0 [] [⟨B, (a.Cells.flatMap eN0)⟩, ⟨B1, (b.Cells.flatMap eN0)⟩]) {r_ : Bool} (hF : F_spec_EqualMatrices a b = some r_) :
  CV Tryz.prog 10 #[.agg #[vi a.Rows, vi a.Cols, .slice B n c], .agg #[vi b.Rows, vi b.Cols, .slice B1 n1 c1]] w0 (fun v w' => v = .bool r_ ∧ ST w0 [] w' [] []) := by
 subst hn
 subst hn1
 unfold F_spec_EqualMatrices at hF
 refine cv_of_cw 45 Tryz.func10 rfl Tryz.ntmps10 rfl ?_
 refine cw_seq (cw_region ?_)
 refine sS 2 (Ys_box (T := 30) (v := gM_ a B c) (cs := kM_ a B c) (m := 3) hS rfl rfl rfl rfl) ?_
 rintro _ w_ ⟨b1, rfl, hS1⟩
 refine sS 3 (Ys_box (T := 30) (v := gM_ b B1 c1) (cs := kM_ b B1 c1) (m := 3) hS1 rfl rfl rfl rfl) ?_
 rintro _ w_1 ⟨b2, rfl, hS2⟩
 refine sQ 4 (Y_assign (v := .bool false) rfl rfl) (rw_nil (cw_seq (cw_seq (cw_region ?_))))
 refine sQ 6 (Y_fieldAddr (B := aD b1) (i := 0) (s := 0) k_fd_30_0_0_3 k_sz_3_1 rfl rfl) ?_
 refine sQ 7 (Y_load1 (B := aD b1) (i := 0) (cs := kM_ a B c) (v := vi a.Rows) k_sc_3 rfl rfl (hS2.cf (i := 0) rfl) rfl) ?_
 refine sQ 8 (Y_fieldAddr (B := aD b2) (i := 0) (s := 0) k_fd_30_0_0_3 k_sz_3_1 rfl rfl) ?_
 refine sQ 9 (Y_load1 (B := aD b2) (i := 0) (cs := kM_ b B1 c1) (v := vi b.Rows) k_sc_3 rfl rfl (hS2.cf (i := 1) rfl) rfl) ?_
 refine sQ 10 (Y_ne (k := .i64) (a := a.Rows) (b := b.Rows) rfl rfl rfl) ?_
 refine sQ 11 (Y_move (v := .bool (a.Rows != b.Rows)) rfl rfl) ?_
 refine sgq 12 (B := (!(a.Rows != b.Rows))) (v := pt (aD b1) 1) rfl rfl (uF_ 11) (fun hg => (Y_fieldAddr (B := aD b1) (i := 0) (s := 0) k_fd_30_1_1_3 k_sz_3_1 rfl rfl)) ?_
 refine sgq 13 (B := (!(a.Rows != b.Rows))) (v := vi a.Cols) rfl rfl (uF_ 11) (fun hg1 => (Y_load1 (B := aD b1) (i := 1) (cs := kM_ a B c) (v := vi a.Cols) k_sc_3 rfl (gv_of (v := pt (aD b1) 1) hg1) (hS2.cf (i := 0) rfl) rfl)) ?_
 refine sgq 14 (B := (!(a.Rows != b.Rows))) (v := pt (aD b2) 1) rfl rfl (uF_ 11) (fun hg2 => (Y_fieldAddr (B := aD b2) (i := 0) (s := 0) k_fd_30_1_1_3 k_sz_3_1 rfl rfl)) ?_
 refine sgq 15 (B := (!(a.Rows != b.Rows))) (v := vi b.Cols) rfl rfl (uF_ 11) (fun hg3 => (Y_load1 (B := aD b2) (i := 1) (cs := kM_ b B1 c1) (v := vi b.Cols) k_sc_3 rfl (gv_of (v := pt (aD b2) 1) hg3) (hS2.cf (i := 1) rfl) rfl)) ?_
 refine sgq 16 (B := (!(a.Rows != b.Rows))) (v := .bool (a.Cols != b.Cols)) rfl rfl (uF_ 11) (fun hg4 => (Y_ne (k := .i64) (a := a.Cols) (b := b.Cols) rfl (gv_of (v := vi a.Cols) hg4) (gv_of (v := vi b.Cols) hg4))) ?_
 refine sQ 17 (Y_or (b := (a.Rows != b.Rows)) (z := (a.Cols != b.Cols)) rfl rfl rfl rfl) ?_
 refine sQ 18 (Y_move (v := .bool ((a.Rows != b.Rows) || (a.Cols != b.Cols))) rfl rfl) ?_
 refine sgq 19 (B := (!((a.Rows != b.Rows) || (a.Cols != b.Cols)))) (v := pt (aD b1) 2) rfl rfl (uF_ 18) (fun hg5 => (Y_fieldAddr (B := aD b1) (i := 0) (s := 0) k_fd_30_2_2_28 k_sz_28_1 rfl rfl)) ?_
 refine sgq 20 (B := (!((a.Rows != b.Rows) || (a.Cols != b.Cols)))) (v := .slice B a.Cells.length c) rfl rfl (uF_ 18) (fun hg6 => (Y_load1 (B := aD b1) (i := 2) (cs := kM_ a B c) (v := .slice B a.Cells.length c) k_sc_28 rfl (gv_of (v := pt (aD b1) 2) hg6) (hS2.cf (i := 0) rfl) rfl)) ?_
 refine sgq 21 (B := (!((a.Rows != b.Rows) || (a.Cols != b.Cols)))) (v := vi (a.Cells.length : Int)) rfl rfl (uF_ 18) (fun hg7 => (Y_len (B := B) (m := a.Cells.length) (c := c) k_sl_28_63 rfl (gv_of (v := .slice B a.Cells.length c) hg7))) ?_
 refine sgq 22 (B := (!((a.Rows != b.Rows) || (a.Cols != b.Cols)))) (v := pt (aD b2) 2) rfl rfl (uF_ 18) (fun hg8 => (Y_fieldAddr (B := aD b2) (i := 0) (s := 0) k_fd_30_2_2_28 k_sz_28_1 rfl rfl)) ?_
 refine sgq 23 (B := (!((a.Rows != b.Rows) || (a.Cols != b.Cols)))) (v := .slice B1 b.Cells.length c1) rfl rfl (uF_ 18) (fun hg9 => (Y_load1 (B := aD b2) (i := 2) (cs := kM_ b B1 c1) (v := .slice B1 b.Cells.length c1) k_sc_28 rfl (gv_of (v := pt (aD b2) 2) hg9) (hS2.cf (i := 1) rfl) rfl)) ?_
 refine sgq 24 (B := (!((a.Rows != b.Rows) || (a.Cols != b.Cols)))) (v := vi (b.Cells.length : Int)) rfl rfl (uF_ 18) (fun hg10 => (Y_len (B := B1) (m := b.Cells.length) (c := c1) k_sl_28_63 rfl (gv_of (v := .slice B1 b.Cells.length c1) hg10))) ?_
 refine sgq 25 (B := (!((a.Rows != b.Rows) || (a.Cols != b.Cols)))) (v := .bool ((a.Cells.length : Int) != (b.Cells.length : Int))) rfl rfl (uF_ 18) (fun hg11 => (Y_ne (k := .i64) (a := (a.Cells.length : Int)) (b := (b.Cells.length : Int)) rfl (gv_of (v := vi (a.Cells.length : Int)) hg11) (gv_of (v := vi (b.Cells.length : Int)) hg11))) ?_
 refine sQ 26 (Y_or (b := ((a.Rows != b.Rows) || (a.Cols != b.Cols))) (z := ((a.Cells.length : Int) != (b.Cells.length : Int))) rfl rfl rfl rfl) (rw_nil ?_)
 refine cw_cond (b := (((a.Rows != b.Rows) || (a.Cols != b.Cols)) || ((a.Cells.length : Int) != (b.Cells.length : Int)))) rfl (fun hb => ?_) (fun hb => ?_)
 ·skip
  have hF1 := ct hF hb
  refine cw_seq (cw_region ?_)
  refine sQ 4 (Y_assign (v := .bool false) rfl rfl) (rw_nil (cw_ret ?_))
  obtain rfl := some_inj hF1
  exact ret1 Tryz.results10 (v1 := .bool false) (resAt_tmp rfl) ⟨rfl, (hS2.sN [])⟩
 ·skip
  have hF2 := cf' hF hb
  refine cw_skip (cw_seq (cw_seq (cw_region ?_)))
  refine sQ 27 (Y_fieldAddr (B := aD b1) (i := 0) (s := 0) k_fd_30_2_2_28 k_sz_28_1 rfl rfl) ?_
  refine sQ 28 (Y_load1 (B := aD b1) (i := 2) (cs := kM_ a B c) (v := .slice B a.Cells.length c) k_sc_28 rfl rfl (hS2.cf (i := 0) rfl) rfl) ?_
  refine sQ 29 (Y_len (B := B) (m := a.Cells.length) (c := c) k_sl_28_63 rfl rfl) ?_
  refine sQ 30 (Y_move (v := vi 0) rfl rfl) (rw_nil ?_)
  obtain ⟨hN, hF2⟩ := chk_inv hF2
  obtain ⟨z, hz, hF3⟩ := bind_inv hF2
  refine cw_block ?_
  refine cw_loop (fun k f w => ∃ (i : Nat), FF f [(2, pt (aD b1) 0), (3, pt (aD b2) 0), (29, vi (a.Cells.length : Int)), (30, vi (i : Int))] ∧ ST w0 [] w [⟨aD b1, 30, kM_ a B c, 3⟩, ⟨aD b2, 30, kM_ b B1 c1, 3⟩] [⟨B, (a.Cells.flatMap eN0)⟩, ⟨B1, (b.Cells.flatMap eN0)⟩] ∧ i + k = a.Cells.length ∧ forX (F_spec_EqualMatrices_l1 a b) k i () = some z) a.Cells.length ⟨0, (FF.cons rfl (FF.cons rfl (FF.cons rfl (FF.cons rfl FF.nil)))), (hS2.sel [0, 1] rfl rfl), Nat.zero_add _, hz⟩ ?_
  rintro k_ f w ⟨i, hf, hS3, hik, hL⟩
  refine cw_seq (cw_region ?_)
  refine sQ 31 (Y_lt (k := .i64) (a := (i : Int)) (b := (a.Cells.length : Int)) rfl (hf.get 30 3 rfl) (hf.get 29 2 rfl)) (rw_nil (cw_seq ?_))
  refine cw_cond (b := (decide ((i : Int) < (a.Cells.length : Int)))) rfl (fun hlt => ?_) (fun hlt => ?_)
  ·skip
   have hlt1 : i < a.Cells.length := by have h := of_decide_eq_true hlt; omega
   obtain ⟨k_1, rfl⟩ : ∃ k2, k_ = k2 + 1 := ⟨k_ - 1, by omega⟩
   obtain ⟨y, hb1, hL1⟩ := forX_go hL
   unfold F_spec_EqualMatrices_l1 at hb1
   refine cw_skip (cw_seq (cw_block (cw_seq (cw_region ?_))))
   refine sQ 32 (Y_move (v := vi (i : Int)) rfl (hf.get 30 3 rfl)) ?_
   refine sQ 5 (Y_assign (v := vi (i : Int)) rfl rfl) (rw_nil (cw_seq ?_))
   obtain ⟨x, hx, hb1⟩ := bind_inv hb1
   obtain ⟨x1, hx1, hb1⟩ := bind_inv hb1
   refine ra_start (hS3.se [0, 1]).fn (by kernel_rfl) ?_
   have hS4 := hS3.drew
   refine rq 0 33 (v := pt (aD b1) 2) rfl (hS4.se [0, 1]) (fun w' hw' => (Y_fieldAddr (B := aD b1) (i := 0) (s := 0) k_fd_30_2_2_28 k_sz_28_1 rfl (hf.get 2 0 rfl))) ?_
   refine rq 1 34 (v := .slice B a.Cells.length c) rfl (hS4.se [0, 1]) (fun w' hw' => (Y_load1 (B := aD b1) (i := 2) (cs := kM_ a B c) (v := .slice B a.Cells.length c) k_sc_28 rfl rfl (ST.cf hw' (i := 0) rfl) rfl)) ?_
   refine rq 2 35 (v := vi (i : Int)) rfl (hS4.se [0, 1]) (fun w' hw' => (Y_move (v := vi (i : Int)) rfl rfl)) ?_
   refine rq 3 36 (v := pt B ((i : Int).toNat * 5)) rfl (hS4.se [0, 1]) (fun w' hw' => (Y_index (B := B) (m := a.Cells.length) (c := c) (k := .i64) (i := (i : Int)) k_sl_28_63 k_sz_63_5 rfl rfl rfl (gi_isSome enc_Dyadic_len rfl (ST.rf hw' (i := 0) rfl) hx) (getI_nn hx) (getI_ltI hx rfl))) ?_
   refine rq 4 37 (v := gD_ x) rfl (hS4.se [0, 1]) (fun w' hw' => (Y_loadA (B := B) (i := (i : Int).toNat * 5) (cs := (a.Cells.flatMap eN0)) (vs := kD_ x) k_ag_63 k_sz_63_5 rfl rfl (ST.rf hw' (i := 0) rfl) (enc_Dyadic_len x) (gi_seg enc_Dyadic_len hx))) ?_
   refine rq 5 38 (v := pt (aD b2) 2) rfl (hS4.se [0, 1]) (fun w' hw' => (Y_fieldAddr (B := aD b2) (i := 0) (s := 0) k_fd_30_2_2_28 k_sz_28_1 rfl (hf.get 3 1 rfl))) ?_
   refine rq 6 39 (v := .slice B1 b.Cells.length c1) rfl (hS4.se [0, 1]) (fun w' hw' => (Y_load1 (B := aD b2) (i := 2) (cs := kM_ b B1 c1) (v := .slice B1 b.Cells.length c1) k_sc_28 rfl rfl (ST.cf hw' (i := 1) rfl) rfl)) ?_
   refine rq 7 40 (v := vi (i : Int)) rfl (hS4.se [0, 1]) (fun w' hw' => (Y_move (v := vi (i : Int)) rfl rfl)) ?_
   refine rq 8 41 (v := pt B1 ((i : Int).toNat * 5)) rfl (hS4.se [0, 1]) (fun w' hw' => (Y_index (B := B1) (m := b.Cells.length) (c := c1) (k := .i64) (i := (i : Int)) k_sl_28_63 k_sz_63_5 rfl rfl rfl (gi_isSome enc_Dyadic_len rfl (ST.rf hw' (i := 1) rfl) hx1) (getI_nn hx1) (getI_ltI hx1 rfl))) ?_
   refine rq 9 42 (v := gD_ x1) rfl (hS4.se [0, 1]) (fun w' hw' => (Y_loadA (B := B1) (i := (i : Int).toNat * 5) (cs := (b.Cells.flatMap eN0)) (vs := kD_ x1) k_ag_63 k_sz_63_5 rfl rfl (ST.rf hw' (i := 1) rfl) (enc_Dyadic_len x1) (gi_seg enc_Dyadic_len hx1))) ?_
   refine ra_q 10 43 (v := .bool (!(((x.Num.A == x1.Num.A) && ((x.Num.B == x1.Num.B) && ((x.Num.C == x1.Num.C) && ((x.Num.D == x1.Num.D) && true)))) && ((x.Exp == x1.Exp) && true)))) rfl rfl rfl (by kernel_rfl) (by kernel_rfl) (by kernel_rfl) (hS4.se [0, 1]) (fun w' hw' => (Y_neA (xs := #[vi x.Num.A, vi x.Num.B, vi x.Num.C, vi x.Num.D, vi x.Exp]) (ys := #[vi x1.Num.A, vi x1.Num.B, vi x1.Num.C, vi x1.Num.D, vi x1.Exp]) (b := (((x.Num.A == x1.Num.A) && ((x.Num.B == x1.Num.B) && ((x.Num.C == x1.Num.C) && ((x.Num.D == x1.Num.D) && true)))) && ((x.Exp == x1.Exp) && true))) k_eg_63 rfl rfl rfl (eqr_struct (xs := kD_ x) (ys := kD_ x1) k_st_63 k_ho_63 (pts_ag (us := kR_ x.Num) (vs := kR_ x1.Num) k_ag_61 k_sz_61_4 rfl rfl (eqr_struct (xs := kR_ x.Num) (ys := kR_ x1.Num) k_st_61 k_ho_61 (pts_sc k_sc_3 rfl rfl (eqr_int k_int_3_i64) (pts_sc k_sc_3 rfl rfl (eqr_int k_int_3_i64) (pts_sc k_sc_3 rfl rfl (eqr_int k_int_3_i64) (pts_sc k_sc_3 rfl rfl (eqr_int k_int_3_i64) pts_nil))))) (pts_sc k_sc_3 rfl rfl (eqr_int k_int_3_i64) pts_nil))))) ?_
   refine ra_done (by kernel_rfl) ?_
   refine cw_cond (b := (!(((x.Num.A == x1.Num.A) && ((x.Num.B == x1.Num.B) && ((x.Num.C == x1.Num.C) && ((x.Num.D == x1.Num.D) && true)))) && ((x.Exp == x1.Exp) && true)))) rfl (fun hb2 => ?_) (fun hb2 => ?_)
   ·skip
    have hF4 := ct hb1 hb2
    refine cw_seq (cw_region ?_)
    refine sQ 4 (Y_assign (v := .bool false) rfl rfl) (rw_nil (cw_ret ?_))
    obtain rfl := some_inj hF4
    obtain rfl := some_inj hL1
    obtain rfl := some_inj hF3
    exact ret1 Tryz.results10 (v1 := .bool false) (resAt_tmp rfl) ⟨rfl, (hS4.sN [])⟩
   ·skip
    have hF5 := cf' hb1 hb2
    refine cw_skip (cw_region ?_)
    refine sQ 44 (Y_add (k := .i64) (a := (i : Int)) (b := 1) rfl (hf.get 30 3 rfl) rfl) ?_
    refine sQ 30 (Y_move (v := vi (i64.wrap ((i : Int) + 1))) rfl rfl) (rw_nil ?_)
    obtain rfl := some_inj hF5
    exact ⟨k_1, Nat.lt_succ_self _, i + 1, (FF.cons (hf.get 2 0 rfl) (FF.cons (hf.get 3 1 rfl) (FF.cons (hf.get 29 2 rfl) (FF.cons (congrArg (Value.int .i64) (wr_succ hlt1 hN)) FF.nil)))), (hS4.sel [0, 1] rfl rfl), (by omega), hL1⟩
  ·skip
   obtain rfl : k_ = 0 := by have h := of_decide_eq_false hlt; omega
   refine cw_exit rfl ?_
   obtain rfl := some_inj hL
   refine cw_seq (cw_region ?_)
   refine sQ 4 (Y_assign (v := .bool true) rfl rfl) (rw_nil (cw_ret ?_))
   obtain rfl := some_inj hF3
   exact ret1 Tryz.results10 (v1 := .bool true) (resAt_tmp rfl) ⟨rfl, (hS3.sN [])⟩

theorem c_spec_l1Has (l : List Int) (n1 : Int) (B : Option Addr) (c n : Nat) (w0 : World) (hn : l.length = n) (hS : ST w0 [] w0 [] [⟨B, (l.flatMap encI)⟩]) {r_ : Bool} (hF : F_spec_l1Has l n1 = some r_) :
  CV Tryz.prog 129 #[.slice B n c, vi n1] w0 (fun v w' => v = .bool r_ ∧ ST w0 [] w' [] []) := by
 subst hn
 unfold F_spec_l1Has at hF
 refine cv_of_cw 17 Tryz.func129 rfl Tryz.ntmps129 rfl ?_
 refine cw_seq (cw_region ?_)
 refine sQ 4 (Y_assign (v := .bool false) rfl rfl) (rw_nil (cw_seq (cw_seq (cw_region ?_))))
 refine sQ 7 (Y_move (v := .slice B l.length c) rfl rfl) ?_
 refine sQ 8 (Y_len (B := B) (m := l.length) (c := c) k_sl_43_3 rfl rfl) ?_
 refine sQ 9 (Y_move (v := vi 0) rfl rfl) (rw_nil ?_)
 obtain ⟨hN, hF⟩ := chk_inv hF
 obtain ⟨z, hz, hF1⟩ := bind_inv hF
 refine cw_block ?_
 refine cw_loop (fun k f w => ∃ (i : Nat), FF f [(1, vi n1), (7, .slice B l.length c), (8, vi (l.length : Int)), (9, vi (i : Int))] ∧ ST w0 [] w [] [⟨B, (l.flatMap encI)⟩] ∧ i + k = l.length ∧ forX (F_spec_l1Has_l1 l n1) k i () = some z) l.length ⟨0, (FF.cons rfl (FF.cons rfl (FF.cons rfl (FF.cons rfl FF.nil)))), (hS.sel [] rfl rfl), Nat.zero_add _, hz⟩ ?_
 rintro k_ f w ⟨i, hf, hS1, hik, hL⟩
 refine cw_seq (cw_region ?_)
 refine sQ 10 (Y_lt (k := .i64) (a := (i : Int)) (b := (l.length : Int)) rfl (hf.get 9 3 rfl) (hf.get 8 2 rfl)) (rw_nil (cw_seq ?_))
 refine cw_cond (b := (decide ((i : Int) < (l.length : Int)))) rfl (fun hlt => ?_) (fun hlt => ?_)
 ·skip
  have hlt1 : i < l.length := by have h := of_decide_eq_true hlt; omega
  obtain ⟨k_1, rfl⟩ : ∃ k2, k_ = k2 + 1 := ⟨k_ - 1, by omega⟩
  obtain ⟨y, hb, hL1⟩ := forX_go hL
  unfold F_spec_l1Has_l1 at hb
  refine cw_skip (cw_seq (cw_block (cw_seq (cw_region ?_))))
  obtain ⟨x, hx, hb⟩ := bind_inv hb
  refine sQ 11 (Y_index (B := B) (m := l.length) (c := c) (k := .i64) (i := (i : Int)) k_sl_43_3 k_sz_3_1 rfl (hf.get 7 1 rfl) (hf.get 9 3 rfl) (gi_isSome encI_len rfl (hS1.rf (i := 0) rfl) hx) (getI_nn hx) (getI_ltI hx rfl)) ?_
  refine sQ 12 (Y_load1 (B := B) (i := (i : Int).toNat * 1) (cs := (l.flatMap encI)) (v := vi x) k_sc_3 rfl rfl (hS1.rf (i := 0) rfl) (gi_at0 encI_len hx rfl)) ?_
  refine sQ 6 (Y_assign (v := vi x) rfl rfl) (rw_nil (cw_seq (cw_region ?_)))
  refine sQ 13 (Y_move (v := vi x) rfl rfl) ?_
  refine sQ 14 (Y_move (v := vi n1) rfl (hf.get 1 0 rfl)) ?_
  refine sQ 15 (Y_eq (k := .i64) (a := x) (b := n1) rfl rfl rfl) (rw_nil ?_)
  refine cw_cond (b := (x == n1)) rfl (fun hb1 => ?_) (fun hb1 => ?_)
  ·skip
   have hF2 := ct hb hb1
   refine cw_seq (cw_region ?_)
   refine sQ 4 (Y_assign (v := .bool true) rfl rfl) (rw_nil (cw_ret ?_))
   obtain rfl := some_inj hF2
   obtain rfl := some_inj hL1
   obtain rfl := some_inj hF1
   exact ret1 Tryz.results129 (v1 := .bool true) (resAt_tmp rfl) ⟨rfl, (hS1.sN [])⟩
  ·skip
   have hF3 := cf' hb hb1
   refine cw_skip (cw_region ?_)
   refine sQ 16 (Y_add (k := .i64) (a := (i : Int)) (b := 1) rfl (hf.get 9 3 rfl) rfl) ?_
   refine sQ 9 (Y_move (v := vi (i64.wrap ((i : Int) + 1))) rfl rfl) (rw_nil ?_)
   obtain rfl := some_inj hF3
   exact ⟨k_1, Nat.lt_succ_self _, i + 1, (FF.cons (hf.get 1 0 rfl) (FF.cons (hf.get 7 1 rfl) (FF.cons (hf.get 8 2 rfl) (FF.cons (congrArg (Value.int .i64) (wr_succ hlt1 hN)) FF.nil)))), (hS1.sel [] rfl rfl), (by omega), hL1⟩
 ·skip
  obtain rfl : k_ = 0 := by have h := of_decide_eq_false hlt; omega
  refine cw_exit rfl ?_
  obtain rfl := some_inj hL
  refine cw_seq (cw_region ?_)
  refine sQ 4 (Y_assign (v := .bool false) rfl rfl) (rw_nil (cw_ret ?_))
  obtain rfl := some_inj hF1
  exact ret1 Tryz.results129 (v1 := .bool false) (resAt_tmp rfl) ⟨rfl, (hS1.sN [])⟩

theorem c_spec_l3Dim (n : Int)  (w0 : World)  (hS : ST w0 [] w0 [] []) {r_ : Bool} (hF : F_spec_l3Dim n = some r_) :
  CV Tryz.prog 83 #[vi n] w0 (fun v w' => v = .bool r_ ∧ ST w0 [] w' [] []) := by
 unfold F_spec_l3Dim at hF
 refine cv_of_cw 6 Tryz.func83 rfl Tryz.ntmps83 rfl ?_
 refine cw_seq (cw_region ?_)
 refine sQ 2 (Y_assign (v := .bool false) rfl rfl) (rw_nil (cw_seq (cw_region ?_)))
 refine sS 3 (Ys_bslice (s := 1) (len := 6) (vs := [(0, vi 1), (1, vi 2), (2, vi 4), (3, vi 8), (4, vi 16), (5, vi 32)]) (cs := [vi 1, vi 2, vi 4, vi 8, vi 16, vi 32]) (zs := [vi 0, vi 0, vi 0, vi 0, vi 0, vi 0]) (m := 6) hS k_sl_43_3 k_sz_3_1 k_zc_3 rfl (mpc rfl (mpc rfl (mpc rfl (mpc rfl (mpc rfl (mpc rfl mpn)))))) rfl rfl rfl (by kernel_rfl) (by kernel_rfl) rfl) ?_
 rintro _ w_ ⟨b, rfl, hS1⟩
 refine sQ 4 (Y_move (v := vi n) rfl rfl) ?_
 obtain ⟨r_1, hc, hF⟩ := bind_inv hF
 refine sc 5 rfl rfl (Yc_func (g := 129) (vs := [.slice (aD b) 6 6, vi n]) k_call_129 rfl (mc rfl (mc rfl mn)) (c_spec_l1Has [1, 2, 4, 8, 16, 32] n (aD b) 6 6 _ rfl (hS1.inn0 [(false, 0)] rfl) hc)) ?_
 rintro _ w_1 ⟨rfl, hd⟩
 have hS2 := hS1.out00 hd
 refine sQ 2 (Y_assign (v := .bool r_1) rfl rfl) (rw_nil (cw_ret ?_))
 obtain rfl := some_inj hF
 exact ret1 Tryz.results83 (v1 := .bool r_1) (resAt_tmp rfl) ⟨rfl, (hS2.sN [])⟩

theorem c_spec_l2Good (x : TDyadic)  (w0 : World)  (hS : ST w0 [] w0 [] []) {r_ : Bool} (hF : F_spec_l2Good x = some r_) :
  CV Tryz.prog 84 #[gD_ x] w0 (fun v w' => v = .bool r_ ∧ ST w0 [] w' [] []) := by
 unfold F_spec_l2Good at hF
 refine cv_of_cw 22 Tryz.func84 rfl Tryz.ntmps84 rfl ?_
 refine cw_seq (cw_region ?_)
 refine sS 1 (Ys_box (T := 63) (v := gD_ x) (cs := kD_ x) (m := 5) hS rfl rfl rfl rfl) ?_
 rintro _ w_ ⟨b, rfl, hS1⟩
 refine sQ 2 (Y_assign (v := .bool false) rfl rfl) (rw_nil (cw_seq (cw_region ?_)))
 refine sQ 3 (Y_fieldAddr (B := aD b) (i := 0) (s := 3) k_fd_63_0_0_61 k_sz_61_4 rfl rfl) ?_
 refine sQ 4 (Y_loadA (B := aD b) (i := 0) (cs := kD_ x) (vs := kR_ x.Num) k_ag_61 k_sz_61_4 rfl rfl (hS1.cf (i := 0) rfl) rfl rfl) ?_
 obtain ⟨r_1, hc, hF⟩ := bind_inv hF
 refine sc 5 rfl rfl (Yc_func (g := 130) (vs := [gR_ x.Num]) k_call_130 rfl (mc rfl mn) (c_spec_l1Good x.Num _  (hS1.inn0 [] rfl) hc)) ?_
 rintro _ w_1 ⟨rfl, hd⟩
 have hS2 := hS1.out00 hd
 refine sQ 6 (Y_move (v := .bool r_1) rfl rfl) ?_
 refine sgq 7 (B := r_1) (v := pt (aD b) 4) rfl rfl (uT_ 6) (fun hg => (Y_fieldAddr (B := aD b) (i := 0) (s := 0) k_fd_63_1_4_3 k_sz_3_1 rfl rfl)) ?_
 refine sgq 8 (B := r_1) (v := vi x.Exp) rfl rfl (uT_ 6) (fun hg1 => (Y_load1 (B := aD b) (i := 4) (cs := kD_ x) (v := vi x.Exp) k_sc_3 rfl (gv_of (v := pt (aD b) 4) hg1) (hS2.cf (i := 0) rfl) rfl)) ?_
 obtain ⟨r_2, hc1, hF⟩ := bind_inv hF
 refine sgc 9 (B := r_1) (v := .bool r_2) (F := hS2.fn) rfl rfl (uT_ 6) hS2 (fun hg2 => (Yc_func (g := 69) (vs := [vi x.Exp, vi 0, vi 60]) k_call_69 rfl (mc (gv_of (v := vi x.Exp) hg2) (mc rfl (mc rfl mn))) (CV.mono (c_spec_l1In x.Exp 0 60 _  (hS2.inn0 [] rfl) (gb_inv hc1 hg2)) (by rintro _ _ ⟨rfl, h⟩; exact ⟨rfl, hS2.out00 h⟩)))) ?_
 rintro w_2 hS3
 refine sQ 10 (Y_and (b := r_1) (z := r_2) rfl rfl rfl rfl) ?_
 refine sQ 11 (Y_move (v := .bool (r_1 && r_2)) rfl rfl) ?_
 refine sgq 12 (B := (r_1 && r_2)) (v := pt (aD b) 4) rfl rfl (uT_ 11) (fun hg3 => (Y_fieldAddr (B := aD b) (i := 0) (s := 0) k_fd_63_1_4_3 k_sz_3_1 rfl rfl)) ?_
 refine sgq 13 (B := (r_1 && r_2)) (v := vi x.Exp) rfl rfl (uT_ 11) (fun hg4 => (Y_load1 (B := aD b) (i := 4) (cs := kD_ x) (v := vi x.Exp) k_sc_3 rfl (gv_of (v := pt (aD b) 4) hg4) (hS3.cf (i := 0) rfl) rfl)) ?_
 refine sgq 14 (B := (r_1 && r_2)) (v := .bool (x.Exp == 0)) rfl rfl (uT_ 11) (fun hg5 => (Y_eq (k := .i64) (a := x.Exp) (b := 0) rfl (gv_of (v := vi x.Exp) hg5) rfl)) ?_
 refine sgq 15 (B := (r_1 && r_2)) (v := .bool (x.Exp == 0)) rfl rfl (uT_ 11) (fun hg6 => (Y_move (v := .bool (x.Exp == 0)) rfl (gv_of (v := .bool (x.Exp == 0)) hg6))) ?_
 refine sgq 16 (B := ((r_1 && r_2) && (!(x.Exp == 0)))) (v := pt (aD b) 0) rfl rfl (wt_gf (gd_of (t := 15) (by kernel_rfl) rfl)) (fun hg7 => (Y_fieldAddr (B := aD b) (i := 0) (s := 3) k_fd_63_0_0_61 k_sz_61_4 rfl rfl)) ?_
 refine sgq 17 (B := ((r_1 && r_2) && (!(x.Exp == 0)))) (v := gR_ x.Num) rfl rfl (wt_gf (gd_of (t := 15) (by kernel_rfl) rfl)) (fun hg8 => (Y_loadA (B := aD b) (i := 0) (cs := kD_ x) (vs := kR_ x.Num) k_ag_61 k_sz_61_4 rfl (gv_of (v := pt (aD b) 0) hg8) (hS3.cf (i := 0) rfl) rfl rfl)) ?_
 obtain ⟨r_3, hc2, hF⟩ := bind_inv hF
 refine sgc 18 (B := ((r_1 && r_2) && (!(x.Exp == 0)))) (v := .bool r_3) (F := hS3.fn) rfl rfl (wt_gf (gd_of (t := 15) (by kernel_rfl) rfl)) hS3 (fun hg9 => (Yc_func (g := 131) (vs := [gR_ x.Num]) k_call_131 rfl (mc (gv_of (v := gR_ x.Num) hg9) mn) (CV.mono (c_spec_l1Even x.Num _  (hS3.inn0 [] rfl) (gb_inv hc2 hg9)) (by rintro _ _ ⟨rfl, h⟩; exact ⟨rfl, hS3.out00 h⟩)))) ?_
 rintro w_3 hS4
 refine sgq 19 (B := ((r_1 && r_2) && (!(x.Exp == 0)))) (v := .bool (!r_3)) rfl rfl (wt_gf (gd_of (t := 15) (by kernel_rfl) rfl)) (fun hg10 => (Y_not (p := r_3) rfl (gv_of (v := .bool r_3) hg10))) ?_
 refine sgq 20 (B := (r_1 && r_2)) (v := .bool ((x.Exp == 0) || (!r_3))) rfl rfl (uT_ 11) (fun hg11 => (Y_or (b := (x.Exp == 0)) (z := (!r_3)) rfl (gv_of (v := .bool (x.Exp == 0)) hg11) rfl (gv_and (B := (r_1 && r_2)) (C := (!(x.Exp == 0))) (v := .bool (!r_3)) hg11))) ?_
 refine sQ 21 (Y_and (b := (r_1 && r_2)) (z := ((x.Exp == 0) || (!r_3))) rfl rfl rfl rfl) ?_
 refine sQ 2 (Y_assign (v := .bool ((r_1 && r_2) && ((x.Exp == 0) || (!r_3)))) rfl rfl) (rw_nil (cw_ret ?_))
 obtain rfl := some_inj hF
 exact ret1 Tryz.results84 (v1 := .bool ((r_1 && r_2) && ((x.Exp == 0) || (!r_3)))) (resAt_tmp rfl) ⟨rfl, (hS4.sN [])⟩

theorem c_spec_l3Good (m : TMatrix) (B : Option Addr) (c n : Nat) (w0 : World) (hn : m.Cells.length = n) (hS : ST w0 [] w0 [] [⟨B, (m.Cells.flatMap eN0)⟩]) {r_ : Bool} (hF : F_spec_l3Good m = some r_) :
  CV Tryz.prog 38 #[.agg #[vi m.Rows, vi m.Cols, .slice B n c]] w0 (fun v w' => v = .bool r_ ∧ ST w0 [] w' [] []) := by
 subst hn
 unfold F_spec_l3Good at hF
 refine cv_of_cw 37 Tryz.func38 rfl Tryz.ntmps38 rfl ?_
 refine cw_seq (cw_region ?_)
 refine sS 1 (Ys_box (T := 30) (v := gM_ m B c) (cs := kM_ m B c) (m := 3) hS rfl rfl rfl rfl) ?_
 rintro _ w_ ⟨b, rfl, hS1⟩
 refine sQ 2 (Y_assign (v := .bool false) rfl rfl) (rw_nil (cw_seq (cw_seq (cw_region ?_))))
 refine sQ 5 (Y_fieldAddr (B := aD b) (i := 0) (s := 0) k_fd_30_0_0_3 k_sz_3_1 rfl rfl) ?_
 refine sQ 6 (Y_load1 (B := aD b) (i := 0) (cs := kM_ m B c) (v := vi m.Rows) k_sc_3 rfl rfl (hS1.cf (i := 0) rfl) rfl) ?_
 obtain ⟨r_1, hc, hF⟩ := bind_inv hF
 refine sc 7 rfl rfl (Yc_func (g := 83) (vs := [vi m.Rows]) k_call_83 rfl (mc rfl mn) (c_spec_l3Dim m.Rows _  (hS1.inn0 [] rfl) hc)) ?_
 rintro _ w_1 ⟨rfl, hd⟩
 have hS2 := hS1.out00 hd
 refine sQ 8 (Y_not (p := r_1) rfl rfl) ?_
 refine sQ 9 (Y_move (v := .bool (!r_1)) rfl rfl) ?_
 refine sgq 10 (B := (!(!r_1))) (v := pt (aD b) 1) rfl rfl (uF_ 9) (fun hg => (Y_fieldAddr (B := aD b) (i := 0) (s := 0) k_fd_30_1_1_3 k_sz_3_1 rfl rfl)) ?_
 refine sgq 11 (B := (!(!r_1))) (v := vi m.Cols) rfl rfl (uF_ 9) (fun hg1 => (Y_load1 (B := aD b) (i := 1) (cs := kM_ m B c) (v := vi m.Cols) k_sc_3 rfl (gv_of (v := pt (aD b) 1) hg1) (hS2.cf (i := 0) rfl) rfl)) ?_
 obtain ⟨r_2, hc1, hF⟩ := bind_inv hF
 refine sgc 12 (B := (!(!r_1))) (v := .bool r_2) (F := hS2.fn) rfl rfl (uF_ 9) hS2 (fun hg2 => (Yc_func (g := 83) (vs := [vi m.Cols]) k_call_83 rfl (mc (gv_of (v := vi m.Cols) hg2) mn) (CV.mono (c_spec_l3Dim m.Cols _  (hS2.inn0 [] rfl) (gb_inv hc1 hg2)) (by rintro _ _ ⟨rfl, h⟩; exact ⟨rfl, hS2.out00 h⟩)))) ?_
 rintro w_2 hS3
 refine sgq 13 (B := (!(!r_1))) (v := .bool (!r_2)) rfl rfl (uF_ 9) (fun hg3 => (Y_not (p := r_2) rfl (gv_of (v := .bool r_2) hg3))) ?_
 refine sQ 14 (Y_or (b := (!r_1)) (z := (!r_2)) rfl rfl rfl rfl) ?_
 refine sQ 15 (Y_move (v := .bool ((!r_1) || (!r_2))) rfl rfl) ?_
 refine sgq 16 (B := (!((!r_1) || (!r_2)))) (v := pt (aD b) 2) rfl rfl (uF_ 15) (fun hg4 => (Y_fieldAddr (B := aD b) (i := 0) (s := 0) k_fd_30_2_2_28 k_sz_28_1 rfl rfl)) ?_
 refine sgq 17 (B := (!((!r_1) || (!r_2)))) (v := .slice B m.Cells.length c) rfl rfl (uF_ 15) (fun hg5 => (Y_load1 (B := aD b) (i := 2) (cs := kM_ m B c) (v := .slice B m.Cells.length c) k_sc_28 rfl (gv_of (v := pt (aD b) 2) hg5) (hS3.cf (i := 0) rfl) rfl)) ?_
 refine sgq 18 (B := (!((!r_1) || (!r_2)))) (v := vi (m.Cells.length : Int)) rfl rfl (uF_ 15) (fun hg6 => (Y_len (B := B) (m := m.Cells.length) (c := c) k_sl_28_63 rfl (gv_of (v := .slice B m.Cells.length c) hg6))) ?_
 refine sgq 19 (B := (!((!r_1) || (!r_2)))) (v := pt (aD b) 0) rfl rfl (uF_ 15) (fun hg7 => (Y_fieldAddr (B := aD b) (i := 0) (s := 0) k_fd_30_0_0_3 k_sz_3_1 rfl rfl)) ?_
 refine sgq 20 (B := (!((!r_1) || (!r_2)))) (v := vi m.Rows) rfl rfl (uF_ 15) (fun hg8 => (Y_load1 (B := aD b) (i := 0) (cs := kM_ m B c) (v := vi m.Rows) k_sc_3 rfl (gv_of (v := pt (aD b) 0) hg8) (hS3.cf (i := 0) rfl) rfl)) ?_
 refine sgq 21 (B := (!((!r_1) || (!r_2)))) (v := pt (aD b) 1) rfl rfl (uF_ 15) (fun hg9 => (Y_fieldAddr (B := aD b) (i := 0) (s := 0) k_fd_30_1_1_3 k_sz_3_1 rfl rfl)) ?_
 refine sgq 22 (B := (!((!r_1) || (!r_2)))) (v := vi m.Cols) rfl rfl (uF_ 15) (fun hg10 => (Y_load1 (B := aD b) (i := 1) (cs := kM_ m B c) (v := vi m.Cols) k_sc_3 rfl (gv_of (v := pt (aD b) 1) hg10) (hS3.cf (i := 0) rfl) rfl)) ?_
 refine sgq 23 (B := (!((!r_1) || (!r_2)))) (v := vi (i64.wrap (m.Rows * m.Cols))) rfl rfl (uF_ 15) (fun hg11 => (Y_mul (k := .i64) (a := m.Rows) (b := m.Cols) rfl (gv_of (v := vi m.Rows) hg11) (gv_of (v := vi m.Cols) hg11))) ?_
 refine sgq 24 (B := (!((!r_1) || (!r_2)))) (v := .bool ((m.Cells.length : Int) != (i64.wrap (m.Rows * m.Cols)))) rfl rfl (uF_ 15) (fun hg12 => (Y_ne (k := .i64) (a := (m.Cells.length : Int)) (b := (i64.wrap (m.Rows * m.Cols))) rfl (gv_of (v := vi (m.Cells.length : Int)) hg12) (gv_of (v := vi (i64.wrap (m.Rows * m.Cols))) hg12))) ?_
 refine sQ 25 (Y_or (b := ((!r_1) || (!r_2))) (z := ((m.Cells.length : Int) != (i64.wrap (m.Rows * m.Cols)))) rfl rfl rfl rfl) (rw_nil ?_)
 refine cw_cond (b := (((!r_1) || (!r_2)) || ((m.Cells.length : Int) != (i64.wrap (m.Rows * m.Cols))))) rfl (fun hb => ?_) (fun hb => ?_)
 ·skip
  have hF1 := ct hF hb
  refine cw_seq (cw_region ?_)
  refine sQ 2 (Y_assign (v := .bool false) rfl rfl) (rw_nil (cw_ret ?_))
  obtain rfl := some_inj hF1
  exact ret1 Tryz.results38 (v1 := .bool false) (resAt_tmp rfl) ⟨rfl, (hS3.sN [])⟩
 ·skip
  have hF2 := cf' hF hb
  refine cw_skip (cw_seq (cw_seq (cw_region ?_)))
  refine sQ 26 (Y_fieldAddr (B := aD b) (i := 0) (s := 0) k_fd_30_2_2_28 k_sz_28_1 rfl rfl) ?_
  refine sQ 27 (Y_load1 (B := aD b) (i := 2) (cs := kM_ m B c) (v := .slice B m.Cells.length c) k_sc_28 rfl rfl (hS3.cf (i := 0) rfl) rfl) ?_
  refine sQ 28 (Y_len (B := B) (m := m.Cells.length) (c := c) k_sl_28_63 rfl rfl) ?_
  refine sQ 29 (Y_move (v := vi 0) rfl rfl) (rw_nil ?_)
  obtain ⟨hN, hF2⟩ := chk_inv hF2
  obtain ⟨z, hz, hF3⟩ := bind_inv hF2
  refine cw_block ?_
  refine cw_loop (fun k f w => ∃ (i : Nat), FF f [(27, .slice B m.Cells.length c), (28, vi (m.Cells.length : Int)), (29, vi (i : Int))] ∧ ST w0 [] w [] [⟨B, (m.Cells.flatMap eN0)⟩] ∧ i + k = m.Cells.length ∧ forX (F_spec_l3Good_l1 m) k i () = some z) m.Cells.length ⟨0, (FF.cons rfl (FF.cons rfl (FF.cons rfl FF.nil))), (hS3.sel [] rfl rfl), Nat.zero_add _, hz⟩ ?_
  rintro k_ f w ⟨i, hf, hS4, hik, hL⟩
  refine cw_seq (cw_region ?_)
  refine sQ 30 (Y_lt (k := .i64) (a := (i : Int)) (b := (m.Cells.length : Int)) rfl (hf.get 29 2 rfl) (hf.get 28 1 rfl)) (rw_nil (cw_seq ?_))
  refine cw_cond (b := (decide ((i : Int) < (m.Cells.length : Int)))) rfl (fun hlt => ?_) (fun hlt => ?_)
  ·skip
   have hlt1 : i < m.Cells.length := by have h := of_decide_eq_true hlt; omega
   obtain ⟨k_1, rfl⟩ : ∃ k2, k_ = k2 + 1 := ⟨k_ - 1, by omega⟩
   obtain ⟨y, hb1, hL1⟩ := forX_go hL
   unfold F_spec_l3Good_l1 at hb1
   refine cw_skip (cw_seq (cw_block (cw_seq (cw_region ?_))))
   obtain ⟨x, hx, hb1⟩ := bind_inv hb1
   refine sQ 31 (Y_index (B := B) (m := m.Cells.length) (c := c) (k := .i64) (i := (i : Int)) k_sl_28_63 k_sz_63_5 rfl (hf.get 27 0 rfl) (hf.get 29 2 rfl) (gi_isSome enc_Dyadic_len rfl (hS4.rf (i := 0) rfl) hx) (getI_nn hx) (getI_ltI hx rfl)) ?_
   refine sQ 32 (Y_loadA (B := B) (i := (i : Int).toNat * 5) (cs := (m.Cells.flatMap eN0)) (vs := kD_ x) k_ag_63 k_sz_63_5 rfl rfl (hS4.rf (i := 0) rfl) (enc_Dyadic_len x) (gi_seg enc_Dyadic_len hx)) ?_
   refine sS 4 (Ys_alloc (T := 63) (cs := kZ_) (m := 5) hS4 k_zero_63 rfl rfl rfl) ?_
   rintro _ w_3 ⟨b1, rfl, hS5⟩
   refine s0 (Ys_store (i := 0) (s := 5) (B := aD b1) (T' := 63) (v := gD_ x) (vs := kD_ x) (k := 0) (cs' := kD_ x) hS5 k_sz_63_5 rfl rfl rfl rfl rfl rfl rfl (lB rfl) rfl rfl) ?_
   rintro _ w_4 ⟨rfl, hS6⟩
   refine rw_nil (cw_seq (cw_region ?_))
   refine sQ 33 (Y_loadA (B := aD b1) (i := 0) (cs := kD_ x) (vs := kD_ x) k_ag_63 k_sz_63_5 rfl rfl (hS6.cf (i := 0) rfl) rfl rfl) ?_
   obtain ⟨r_3, hc2, hb1⟩ := bind_inv hb1
   refine sc 34 rfl rfl (Yc_func (g := 84) (vs := [gD_ x]) k_call_84 rfl (mc rfl mn) (c_spec_l2Good x _  (hS6.inn0 [] rfl) hc2)) ?_
   rintro _ w_5 ⟨rfl, hd1⟩
   have hS7 := hS6.out00 hd1
   refine sQ 35 (Y_not (p := r_3) rfl rfl) (rw_nil ?_)
   refine cw_cond (b := (!r_3)) rfl (fun hb2 => ?_) (fun hb2 => ?_)
   ·skip
    have hF4 := ct hb1 hb2
    refine cw_seq (cw_region ?_)
    refine sQ 2 (Y_assign (v := .bool false) rfl rfl) (rw_nil (cw_ret ?_))
    obtain rfl := some_inj hF4
    obtain rfl := some_inj hL1
    obtain rfl := some_inj hF3
    exact ret1 Tryz.results38 (v1 := .bool false) (resAt_tmp rfl) ⟨rfl, (hS7.sN [])⟩
   ·skip
    have hF5 := cf' hb1 hb2
    refine cw_skip (cw_region ?_)
    refine sQ 36 (Y_add (k := .i64) (a := (i : Int)) (b := 1) rfl (hf.get 29 2 rfl) rfl) ?_
    refine sQ 29 (Y_move (v := vi (i64.wrap ((i : Int) + 1))) rfl rfl) (rw_nil ?_)
    obtain rfl := some_inj hF5
    exact ⟨k_1, Nat.lt_succ_self _, i + 1, (FF.cons (hf.get 27 0 rfl) (FF.cons (hf.get 28 1 rfl) (FF.cons (congrArg (Value.int .i64) (wr_succ hlt1 hN)) FF.nil))), (hS7.sel [] rfl rfl), (by omega), hL1⟩
  ·skip
   obtain rfl : k_ = 0 := by have h := of_decide_eq_false hlt; omega
   refine cw_exit rfl ?_
   obtain rfl := some_inj hL
   refine cw_seq (cw_region ?_)
   refine sQ 2 (Y_assign (v := .bool true) rfl rfl) (rw_nil (cw_ret ?_))
   obtain rfl := some_inj hF3
   exact ret1 Tryz.results38 (v1 := .bool true) (resAt_tmp rfl) ⟨rfl, (hS4.sN [])⟩

theorem c_spec_l1Conj (x : TRing)  (w0 : World)  (hS : ST w0 [] w0 [] []) {r_ : TRing} (hF : F_spec_l1Conj x = some r_) :
  CV Tryz.prog 137 #[gR_ x] w0 (fun v w' => v = (gR_ r_) ∧ ST w0 [] w' [] []) := by
 unfold F_spec_l1Conj at hF
 refine cv_of_cw 15 Tryz.func137 rfl Tryz.ntmps137 rfl ?_
 refine cw_seq (cw_region ?_)
 refine sS 1 (Ys_box (T := 61) (v := gR_ x) (cs := kR_ x) (m := 4) hS rfl rfl rfl rfl) ?_
 rintro _ w_ ⟨b, rfl, hS1⟩
 refine sS 2 (Ys_alloc (T := 61) (cs := [vi 0, vi 0, vi 0, vi 0]) (m := 4) hS1 k_zero_61 rfl rfl rfl) ?_
 rintro _ w_1 ⟨b1, rfl, hS2⟩
 refine rw_nil (cw_seq (cw_region ?_))
 refine sQ 3 (Y_fieldAddr (B := aD b) (i := 0) (s := 0) k_fd_61_0_0_3 k_sz_3_1 rfl rfl) ?_
 refine sQ 4 (Y_load1 (B := aD b) (i := 0) (cs := kR_ x) (v := vi x.A) k_sc_3 rfl rfl (hS2.cf (i := 0) rfl) rfl) ?_
 refine sQ 5 (Y_fieldAddr (B := aD b) (i := 0) (s := 0) k_fd_61_3_3_3 k_sz_3_1 rfl rfl) ?_
 refine sQ 6 (Y_load1 (B := aD b) (i := 3) (cs := kR_ x) (v := vi x.D) k_sc_3 rfl rfl (hS2.cf (i := 0) rfl) rfl) ?_
 refine sQ 7 (Y_neg (k := .i64) (a := x.D) rfl rfl) ?_
 refine sQ 8 (Y_fieldAddr (B := aD b) (i := 0) (s := 0) k_fd_61_2_2_3 k_sz_3_1 rfl rfl) ?_
 refine sQ 9 (Y_load1 (B := aD b) (i := 2) (cs := kR_ x) (v := vi x.C) k_sc_3 rfl rfl (hS2.cf (i := 0) rfl) rfl) ?_
 refine sQ 10 (Y_neg (k := .i64) (a := x.C) rfl rfl) ?_
 refine sQ 11 (Y_fieldAddr (B := aD b) (i := 0) (s := 0) k_fd_61_1_1_3 k_sz_3_1 rfl rfl) ?_
 refine sQ 12 (Y_load1 (B := aD b) (i := 1) (cs := kR_ x) (v := vi x.B) k_sc_3 rfl rfl (hS2.cf (i := 0) rfl) rfl) ?_
 refine sQ 13 (Y_neg (k := .i64) (a := x.B) rfl rfl) ?_
 refine sQ 14 (Y_buildS (zs := [vi 0, vi 0, vi 0, vi 0]) (vs := [(0, vi x.A), (1, vi (i64.wrap (-x.D))), (2, vi (i64.wrap (-x.C))), (3, vi (i64.wrap (-x.B)))]) (cs := [vi x.A, vi (i64.wrap (-x.D)), vi (i64.wrap (-x.C)), vi (i64.wrap (-x.B))]) k_pl_61 k_zero_61 rfl (mpc rfl (mpc rfl (mpc rfl (mpc rfl mpn)))) rfl) ?_
 refine s0 (Ys_store (i := 1) (s := 4) (B := aD b1) (T' := 61) (v := .agg #[vi x.A, vi (i64.wrap (-x.D)), vi (i64.wrap (-x.C)), vi (i64.wrap (-x.B))]) (vs := [vi x.A, vi (i64.wrap (-x.D)), vi (i64.wrap (-x.C)), vi (i64.wrap (-x.B))]) (k := 0) (cs' := [vi x.A, vi (i64.wrap (-x.D)), vi (i64.wrap (-x.C)), vi (i64.wrap (-x.B))]) hS2 k_sz_61_4 rfl rfl rfl rfl rfl rfl rfl (lB rfl) rfl rfl) ?_
 rintro _ w_2 ⟨rfl, hS3⟩
 refine rw_nil (cw_ret ?_)
 obtain rfl := some_inj hF
 exact ret1 Tryz.results137 (v1 := .agg #[vi x.A, vi (i64.wrap (-x.D)), vi (i64.wrap (-x.C)), vi (i64.wrap (-x.B))]) (resAt_cellA (B := aD b1) (i := 0) (cs := [vi x.A, vi (i64.wrap (-x.D)), vi (i64.wrap (-x.C)), vi (i64.wrap (-x.B))]) (vs := [vi x.A, vi (i64.wrap (-x.D)), vi (i64.wrap (-x.C)), vi (i64.wrap (-x.B))]) rfl k_ag_61 k_sz_61_4 (hS3.cf (i := 1) rfl) rfl rfl) ⟨rfl, (hS3.sN [])⟩

theorem c_spec_l2Conj (x : TDyadic)  (w0 : World)  (hS : ST w0 [] w0 [] []) {r_ : TDyadic} (hF : F_spec_l2Conj x = some r_) :
  CV Tryz.prog 87 #[gD_ x] w0 (fun v w' => v = (gD_ r_) ∧ ST w0 [] w' [] []) := by
 unfold F_spec_l2Conj at hF
 refine cv_of_cw 9 Tryz.func87 rfl Tryz.ntmps87 rfl ?_
 refine cw_seq (cw_region ?_)
 refine sS 1 (Ys_box (T := 63) (v := gD_ x) (cs := kD_ x) (m := 5) hS rfl rfl rfl rfl) ?_
 rintro _ w_ ⟨b, rfl, hS1⟩
 refine sS 2 (Ys_alloc (T := 63) (cs := kZ_) (m := 5) hS1 k_zero_63 rfl rfl rfl) ?_
 rintro _ w_1 ⟨b1, rfl, hS2⟩
 refine rw_nil (cw_seq ?_)
 obtain ⟨r_1, hc, hF⟩ := bind_inv hF
 refine ra_start (hS2.se [0]).fn (by kernel_rfl) ?_
 have hS4 := hS2.drew
 refine rq 0 3 (v := pt (aD b) 0) rfl (hS4.se [0]) (fun w' hw' => (Y_fieldAddr (B := aD b) (i := 0) (s := 3) k_fd_63_0_0_61 k_sz_61_4 rfl rfl)) ?_
 refine rq 1 4 (v := gR_ x.Num) rfl (hS4.se [0]) (fun w' hw' => (Y_loadA (B := aD b) (i := 0) (cs := kD_ x) (vs := kR_ x.Num) k_ag_61 k_sz_61_4 rfl rfl (ST.cf hw' (i := 0) rfl) rfl rfl)) ?_
 refine rq 3 6 (v := pt (aD b) 4) rfl (hS4.se [0]) (fun w' hw' => (Y_fieldAddr (B := aD b) (i := 0) (s := 0) k_fd_63_1_4_3 k_sz_3_1 rfl rfl)) ?_
 refine rq 4 7 (v := vi x.Exp) rfl (hS4.se [0]) (fun w' hw' => (Y_load1 (B := aD b) (i := 4) (cs := kD_ x) (v := vi x.Exp) k_sc_3 rfl rfl (ST.cf hw' (i := 0) rfl) rfl)) ?_
 refine rA [2] ?_
 refine ra_c 5 (i := 2) rfl rfl rfl (Yc_func (g := 137) (vs := [gR_ x.Num]) k_call_137 rfl (mc rfl mn) (c_spec_l1Conj x.Num _  (hS4.inn0 [] rfl) hc)) ?_ ?_
 ·rintro _ w_2 ⟨rfl, hd⟩
  have hS5 := hS4.out00 hd
  refine ⟨(hS5.se [0]), ?_⟩
  refine rq 5 8 (v := .agg #[vi r_1.A, vi r_1.B, vi r_1.C, vi r_1.D, vi x.Exp]) rfl (hS5.se [0]) (fun w' hw' => (Y_buildS (zs := kZ_) (vs := [(0, gR_ r_1), (1, vi x.Exp)]) (cs := [vi r_1.A, vi r_1.B, vi r_1.C, vi r_1.D, vi x.Exp]) k_pl_63 k_zero_63 rfl (mpc rfl (mpc rfl mpn)) rfl)) ?_
  refine rA [6] ?_
  refine ra_s0 (i := 6) rfl rfl rfl (Ys_store (i := 1) (s := 5) (B := aD b1) (T' := 63) (v := .agg #[vi r_1.A, vi r_1.B, vi r_1.C, vi r_1.D, vi x.Exp]) (vs := [vi r_1.A, vi r_1.B, vi r_1.C, vi r_1.D, vi x.Exp]) (k := 0) (cs' := [vi r_1.A, vi r_1.B, vi r_1.C, vi r_1.D, vi x.Exp]) hS5 k_sz_63_5 rfl rfl rfl rfl rfl rfl rfl (lB rfl) rfl rfl) ?_ ?_
  ·rintro _ w_3 ⟨rfl, hS6⟩
   refine ⟨(hS6.se [0]), ?_⟩
   refine ra_done (by kernel_rfl) ?_
   refine cw_ret ?_
   obtain rfl := some_inj hF
   exact ret1 Tryz.results87 (v1 := .agg #[vi r_1.A, vi r_1.B, vi r_1.C, vi r_1.D, vi x.Exp]) (resAt_cellA (B := aD b1) (i := 0) (cs := [vi r_1.A, vi r_1.B, vi r_1.C, vi r_1.D, vi x.Exp]) (vs := [vi r_1.A, vi r_1.B, vi r_1.C, vi r_1.D, vi x.Exp]) rfl k_ag_63 k_sz_63_5 (hS6.cf (i := 1) rfl) rfl rfl) ⟨rfl, (hS6.sN [])⟩
  exact allR_nil
 exact allR_nil

theorem c_spec_l3Adj (m : TMatrix) (B : Option Addr) (c n : Nat) (w0 : World) (hn : m.Cells.length = n) (hS : ST w0 [] w0 [] [⟨B, (m.Cells.flatMap eN0)⟩]) {r_ : TMatrix} (hF : F_spec_l3Adj m = some r_) :
  CV Tryz.prog 40 #[.agg #[vi m.Rows, vi m.Cols, .slice B n c]] w0 (fun v w' => ∃ (B1 : Option Addr) (c1 : Nat), v = (gM_ r_ B1 c1) ∧ ST w0 [] w' [⟨B1, 63, (r_.Cells.flatMap eN0), c1 * 5⟩] []) := by
 subst hn
 unfold F_spec_l3Adj at hF
 refine cv_of_cw 40 Tryz.func40 rfl Tryz.ntmps40 rfl ?_
 refine cw_seq (cw_region ?_)
 refine sS 1 (Ys_box (T := 30) (v := gM_ m B c) (cs := kM_ m B c) (m := 3) hS rfl rfl rfl rfl) ?_
 rintro _ w_ ⟨b, rfl, hS1⟩
 refine sS 2 (Ys_alloc (T := 30) (cs := kN_) (m := 3) hS1 k_zero_30 rfl rfl rfl) ?_
 rintro _ w_1 ⟨b1, rfl, hS2⟩
 refine rw_nil (cw_seq (cw_region ?_))
 refine sQ 6 (Y_fieldAddr (B := aD b) (i := 0) (s := 0) k_fd_30_1_1_3 k_sz_3_1 rfl rfl) ?_
 refine sQ 7 (Y_load1 (B := aD b) (i := 1) (cs := kM_ m B c) (v := vi m.Cols) k_sc_3 rfl rfl (hS2.cf (i := 0) rfl) rfl) ?_
 refine sQ 8 (Y_fieldAddr (B := aD b) (i := 0) (s := 0) k_fd_30_0_0_3 k_sz_3_1 rfl rfl) ?_
 refine sQ 9 (Y_load1 (B := aD b) (i := 0) (cs := kM_ m B c) (v := vi m.Rows) k_sc_3 rfl rfl (hS2.cf (i := 0) rfl) rfl) ?_
 refine sQ 10 (Y_buildS (zs := kN_) (vs := [(0, vi m.Cols), (1, vi m.Rows)]) (cs := [vi m.Cols, vi m.Rows, .slice none 0 0]) k_pl_30 k_zero_30 rfl (mpc rfl (mpc rfl mpn)) rfl) ?_
 refine sS 3 (Ys_alloc (T := 30) (cs := kN_) (m := 3) hS2 k_zero_30 rfl rfl rfl) ?_
 rintro _ w_2 ⟨b2, rfl, hS3⟩
 refine s0 (Ys_store (i := 2) (s := 3) (B := aD b2) (T' := 30) (v := .agg #[vi m.Cols, vi m.Rows, .slice none 0 0]) (vs := [vi m.Cols, vi m.Rows, .slice none 0 0]) (k := 0) (cs' := [vi m.Cols, vi m.Rows, .slice none 0 0]) hS3 k_sz_30_3 rfl rfl rfl rfl rfl rfl rfl (lB rfl) rfl rfl) ?_
 rintro _ w_3 ⟨rfl, hS4⟩
 refine rw_nil (cw_seq (cw_seq (cw_region ?_)))
 refine sQ 4 (Y_assign (v := vi 0) rfl rfl) (rw_nil ?_)
 obtain ⟨hN, hF⟩ := chk_inv hF
 obtain ⟨z, hz, hF1⟩ := bind_inv hF
 have hS6 := hS4.addNil 63
 refine cw_block ?_
 refine cw_loop (fun k f w => ∃ (j : Nat) (Cells : List TDyadic) (B2 : Option Addr) (c2 : Nat), FF f [(1, pt (aD b) 0), (2, pt (aD b1) 0), (3, pt (aD b2) 0), (4, vi (j : Int))] ∧ ST w0 [] w [⟨aD b, 30, kM_ m B c, 3⟩, ⟨aD b1, 30, kN_, 3⟩, ⟨aD b2, 30, [vi m.Cols, vi m.Rows, .slice B2 Cells.length c2], 3⟩, ⟨B2, 63, (Cells.flatMap eN0), c2 * 5⟩] [⟨B, (m.Cells.flatMap eN0)⟩] ∧ j + k = m.Cols.toNat ∧ forN (F_spec_l3Adj_l1 m) k j Cells = some z) m.Cols.toNat ⟨0, [], none, 0, (FF.cons rfl (FF.cons rfl (FF.cons rfl (FF.cons rfl FF.nil)))), (hS6.sel [0, 1, 2, 3] rfl rfl), Nat.zero_add _, hz⟩ ?_
 rintro k_ f w ⟨j, Cells, B2, c2, hf, hS5, hik, hL⟩
 refine cw_seq (cw_seq (cw_region ?_))
 refine sQ 11 (Y_move (v := vi (j : Int)) rfl (hf.get 4 3 rfl)) ?_
 refine sQ 12 (Y_fieldAddr (B := aD b) (i := 0) (s := 0) k_fd_30_1_1_3 k_sz_3_1 rfl (hf.get 1 0 rfl)) ?_
 refine sQ 13 (Y_load1 (B := aD b) (i := 1) (cs := kM_ m B c) (v := vi m.Cols) k_sc_3 rfl rfl (hS5.cf (i := 0) rfl) rfl) ?_
 refine sQ 14 (Y_lt (k := .i64) (a := (j : Int)) (b := m.Cols) rfl rfl rfl) (rw_nil ?_)
 refine cw_cond (b := (decide ((j : Int) < m.Cols))) rfl (fun hlt => ?_) (fun hlt => ?_)
 ·skip
  have hlt1 : j < m.Cols.toNat := by have h := of_decide_eq_true hlt; omega
  obtain ⟨k_1, rfl⟩ : ∃ k2, k_ = k2 + 1 := ⟨k_ - 1, by omega⟩
  obtain ⟨y, hb, hL1⟩ := forN_go hL
  unfold F_spec_l3Adj_l1 at hb
  refine cw_skip (cw_seq (cw_block (cw_seq (cw_region ?_))))
  refine sQ 5 (Y_assign (v := vi 0) rfl rfl) (rw_nil ?_)
  obtain ⟨hN1, hb⟩ := chk_inv hb
  obtain ⟨z1, hz1, hF2⟩ := bind_inv hb
  refine cw_block ?_
  refine cw_loop (fun k f w => ∃ (i2 : Nat) (Cells1 : List TDyadic) (B3 : Option Addr) (c3 : Nat), FF f [(1, pt (aD b) 0), (2, pt (aD b1) 0), (3, pt (aD b2) 0), (4, vi (j : Int)), (5, vi (i2 : Int))] ∧ ST w0 [] w [⟨aD b, 30, kM_ m B c, 3⟩, ⟨aD b1, 30, kN_, 3⟩, ⟨aD b2, 30, [vi m.Cols, vi m.Rows, .slice B3 Cells1.length c3], 3⟩, ⟨B3, 63, (Cells1.flatMap eN0), c3 * 5⟩] [⟨B, (m.Cells.flatMap eN0)⟩] ∧ i2 + k = m.Rows.toNat ∧ forN (F_spec_l3Adj_l2 m Cells j) k i2 Cells1 = some z1) m.Rows.toNat ⟨0, Cells, B2, c2, (FF.cons (hf.get 1 0 rfl) (FF.cons (hf.get 2 1 rfl) (FF.cons (hf.get 3 2 rfl) (FF.cons (hf.get 4 3 rfl) (FF.cons rfl FF.nil))))), (hS5.sel [0, 1, 2, 3] rfl rfl), Nat.zero_add _, hz1⟩ ?_
  rintro k_2 f w ⟨i2, Cells1, B3, c3, hf1, hS7, hik1, hL2⟩
  refine cw_seq (cw_seq (cw_region ?_))
  refine sQ 17 (Y_move (v := vi (i2 : Int)) rfl (hf1.get 5 4 rfl)) ?_
  refine sQ 18 (Y_fieldAddr (B := aD b) (i := 0) (s := 0) k_fd_30_0_0_3 k_sz_3_1 rfl (hf1.get 1 0 rfl)) ?_
  refine sQ 19 (Y_load1 (B := aD b) (i := 0) (cs := kM_ m B c) (v := vi m.Rows) k_sc_3 rfl rfl (hS7.cf (i := 0) rfl) rfl) ?_
  refine sQ 20 (Y_lt (k := .i64) (a := (i2 : Int)) (b := m.Rows) rfl rfl rfl) (rw_nil ?_)
  refine cw_cond (b := (decide ((i2 : Int) < m.Rows))) rfl (fun hlt2 => ?_) (fun hlt2 => ?_)
  ·skip
   have hlt3 : i2 < m.Rows.toNat := by have h := of_decide_eq_true hlt2; omega
   obtain ⟨k_3, rfl⟩ : ∃ k2, k_2 = k2 + 1 := ⟨k_2 - 1, by omega⟩
   obtain ⟨y1, hb1, hL3⟩ := forN_go hL2
   unfold F_spec_l3Adj_l2 at hb1
   refine cw_skip (cw_seq (cw_block ?_))
   obtain ⟨x, hx, hb1⟩ := bind_inv hb1
   obtain ⟨r_1, hc, hb1⟩ := bind_inv hb1
   obtain ⟨hap, hb1⟩ := chk_inv hb1
   refine cw_mid (fun f w => ∃ (B5 : Option Addr) (c5 : Nat), FF f [(1, pt (aD b) 0), (2, pt (aD b1) 0), (3, pt (aD b2) 0), (4, vi (j : Int)), (5, vi (i2 : Int))] ∧ ST w0 [] w [⟨aD b, 30, kM_ m B c, 3⟩, ⟨aD b1, 30, kN_, 3⟩, ⟨aD b2, 30, [vi m.Cols, vi m.Rows, .slice B5 ((Cells1 ++ [r_1]).length) c5], 3⟩, ⟨B5, 63, ((Cells1 ++ [r_1]).flatMap eN0), c5 * 5⟩] [⟨B, (m.Cells.flatMap eN0)⟩]) ?_ ?_
   ·skip
    refine ra_start (hS7.se [0, 1]).fn (by kernel_rfl) ?_
    have hS10 := hS7.drew
    refine rq 0 23 (v := pt (aD b2) 2) rfl (hS10.se [0, 1]) (fun w' hw' => (Y_fieldAddr (B := aD b2) (i := 0) (s := 0) k_fd_30_2_2_28 k_sz_28_1 rfl (hf1.get 3 2 rfl))) ?_
    refine rq 2 25 (v := pt (aD b) 2) rfl (hS10.se [0, 1]) (fun w' hw' => (Y_fieldAddr (B := aD b) (i := 0) (s := 0) k_fd_30_2_2_28 k_sz_28_1 rfl (hf1.get 1 0 rfl))) ?_
    refine rq 3 26 (v := .slice B m.Cells.length c) rfl (hS10.se [0, 1]) (fun w' hw' => (Y_load1 (B := aD b) (i := 2) (cs := kM_ m B c) (v := .slice B m.Cells.length c) k_sc_28 rfl rfl (ST.cf hw' (i := 0) rfl) rfl)) ?_
    refine rq 4 27 (v := vi (i2 : Int)) rfl (hS10.se [0, 1]) (fun w' hw' => (Y_move (v := vi (i2 : Int)) rfl (hf1.get 5 4 rfl))) ?_
    refine rq 5 28 (v := pt (aD b) 1) rfl (hS10.se [0, 1]) (fun w' hw' => (Y_fieldAddr (B := aD b) (i := 0) (s := 0) k_fd_30_1_1_3 k_sz_3_1 rfl (hf1.get 1 0 rfl))) ?_
    refine rq 6 29 (v := vi m.Cols) rfl (hS10.se [0, 1]) (fun w' hw' => (Y_load1 (B := aD b) (i := 1) (cs := kM_ m B c) (v := vi m.Cols) k_sc_3 rfl rfl (ST.cf hw' (i := 0) rfl) rfl)) ?_
    refine rq 7 30 (v := vi (i64.wrap ((i2 : Int) * m.Cols))) rfl (hS10.se [0, 1]) (fun w' hw' => (Y_mul (k := .i64) (a := (i2 : Int)) (b := m.Cols) rfl rfl rfl)) ?_
    refine rq 8 31 (v := vi (j : Int)) rfl (hS10.se [0, 1]) (fun w' hw' => (Y_move (v := vi (j : Int)) rfl (hf1.get 4 3 rfl))) ?_
    refine rq 9 32 (v := vi (i64.wrap ((i64.wrap ((i2 : Int) * m.Cols)) + (j : Int)))) rfl (hS10.se [0, 1]) (fun w' hw' => (Y_add (k := .i64) (a := (i64.wrap ((i2 : Int) * m.Cols))) (b := (j : Int)) rfl rfl rfl)) ?_
    refine rq 10 33 (v := pt B ((i64.wrap ((i64.wrap ((i2 : Int) * m.Cols)) + (j : Int))).toNat * 5)) rfl (hS10.se [0, 1]) (fun w' hw' => (Y_index (B := B) (m := m.Cells.length) (c := c) (k := .i64) (i := (i64.wrap ((i64.wrap ((i2 : Int) * m.Cols)) + (j : Int)))) k_sl_28_63 k_sz_63_5 rfl rfl rfl (gi_isSome enc_Dyadic_len rfl (ST.rf hw' (i := 0) rfl) hx) (getI_nn hx) (getI_ltI hx rfl))) ?_
    refine rq 11 34 (v := gD_ x) rfl (hS10.se [0, 1]) (fun w' hw' => (Y_loadA (B := B) (i := (i64.wrap ((i64.wrap ((i2 : Int) * m.Cols)) + (j : Int))).toNat * 5) (cs := (m.Cells.flatMap eN0)) (vs := kD_ x) k_ag_63 k_sz_63_5 rfl rfl (ST.rf hw' (i := 0) rfl) (enc_Dyadic_len x) (gi_seg enc_Dyadic_len hx))) ?_
    refine rA [1, 12] ?_
    refine ra_y 24 (i := 1) (v := .slice B3 Cells1.length c3) rfl rfl rfl (Y_load1 (B := aD b2) (i := 2) (cs := [vi m.Cols, vi m.Rows, .slice B3 Cells1.length c3]) (v := .slice B3 Cells1.length c3) k_sc_28 rfl rfl (hS10.cf (i := 2) rfl) rfl) (hS10.se [0, 1]) ?_ ?_
    ·skip
     refine rA [12] ?_
     refine ra_c 35 (i := 12) rfl rfl rfl (Yc_func (g := 87) (vs := [gD_ x]) k_call_87 rfl (mc rfl mn) (c_spec_l2Conj x _  (hS10.inn0 [] rfl) hc)) ?_ ?_
     ·rintro _ w_4 ⟨rfl, hd⟩
      have hS11 := hS10.out00 hd
      refine ⟨(hS11.se [0, 1]), ?_⟩
      refine rA [13] ?_
      refine ra_s 36 (i := 13) rfl rfl rfl (Ys_bslice (s := 5) (len := 1) (vs := [(0, gD_ r_1)]) (cs := kD_ r_1) (zs := kZ_) (m := 5) hS11 k_sl_28_63 k_sz_63_5 k_zc_63 rfl (mpc rfl mpn) rfl rfl rfl (by kernel_rfl) (by kernel_rfl) rfl) ?_ ?_
      ·rintro _ w_5 ⟨b3, rfl, hS12⟩
       refine ⟨(hS12.se [0, 1]), ?_⟩
       refine rA [14] ?_
       refine ra_s 37 (i := 14) rfl rfl rfl (Ys_append (s := 5) (by' := 40) (i := 3) (nn := Cells1.length) (c := c3) (k := 1) (len := (Cells1 ++ [r_1]).length) (B := B3) (xs := ([r_1].flatMap eN0)) (cs' := ((Cells1 ++ [r_1]).flatMap eN0)) hS12 k_sl_28_63 k_sz_63_5 k_by_63_40 k_zero_63 rfl (by decide) rfl rfl rfl rfl (fm_lenn (l := Cells1) enc_Dyadic_len rfl) rfl (hS12.cf (i := 4) rfl) (fm_lenn (l := [r_1]) enc_Dyadic_len rfl) (fm_one' (enc := eN0) enc_Dyadic_one [r_1]) (by have := hap; omega) (by have := hap; simp only [maxLen]; omega) (fm_app _ _) (app_len (l := Cells1) (l' := [r_1]) rfl rfl)) ?_ ?_
       ·rintro _ w_6 ⟨B4, c4, rfl, hS13⟩
        refine ⟨(hS13.se [0, 1]), ?_⟩
        refine rq 15 38 (v := pt (aD b2) 2) rfl (hS13.se [0, 1]) (fun w' hw' => (Y_fieldAddr (B := aD b2) (i := 0) (s := 0) k_fd_30_2_2_28 k_sz_28_1 rfl (hf1.get 3 2 rfl))) ?_
        refine rA [16] ?_
        refine ra_s0 (i := 16) rfl rfl rfl (Ys_store (i := 2) (s := 1) (B := aD b2) (T' := 30) (v := .slice B4 ((Cells1 ++ [r_1]).length) c4) (vs := [.slice B4 ((Cells1 ++ [r_1]).length) c4]) (k := 2) (cs' := [vi m.Cols, vi m.Rows, .slice B4 ((Cells1 ++ [r_1]).length) c4]) hS13 k_sz_28_1 rfl rfl rfl rfl rfl rfl rfl (lB rfl) rfl rfl) ?_ ?_
        ·rintro _ w_7 ⟨rfl, hS14⟩
         refine ⟨(hS14.se [0, 1]), ?_⟩
         refine ra_done (by kernel_rfl) ?_
         exact ⟨B4, c4, (FF.cons (hf1.get 1 0 rfl) (FF.cons (hf1.get 2 1 rfl) (FF.cons (hf1.get 3 2 rfl) (FF.cons (hf1.get 4 3 rfl) (FF.cons (hf1.get 5 4 rfl) FF.nil))))), (hS14.sel [0, 1, 2, 3] rfl rfl)⟩
        exact allR_nil
       exact allR_nil
      exact allR_nil
     exact allR_nil
    refine ra_c 35 (i := 12) rfl rfl rfl (Yc_func (g := 87) (vs := [gD_ x]) k_call_87 rfl (mc rfl mn) (c_spec_l2Conj x _  (hS10.inn0 [] rfl) hc)) ?_ ?_
    ·rintro _ w_8 ⟨rfl, hd1⟩
     have hS15 := hS10.out00 hd1
     refine ⟨(hS15.se [0, 1]), ?_⟩
     refine rA [1, 13] ?_
     refine ra_y 24 (i := 1) (v := .slice B3 Cells1.length c3) rfl rfl rfl (Y_load1 (B := aD b2) (i := 2) (cs := [vi m.Cols, vi m.Rows, .slice B3 Cells1.length c3]) (v := .slice B3 Cells1.length c3) k_sc_28 rfl rfl (hS15.cf (i := 2) rfl) rfl) (hS15.se [0, 1]) ?_ ?_
     ·skip
      refine rA [13] ?_
      refine ra_s 36 (i := 13) rfl rfl rfl (Ys_bslice (s := 5) (len := 1) (vs := [(0, gD_ r_1)]) (cs := kD_ r_1) (zs := kZ_) (m := 5) hS15 k_sl_28_63 k_sz_63_5 k_zc_63 rfl (mpc rfl mpn) rfl rfl rfl (by kernel_rfl) (by kernel_rfl) rfl) ?_ ?_
      ·rintro _ w_9 ⟨b3, rfl, hS16⟩
       refine ⟨(hS16.se [0, 1]), ?_⟩
       refine rA [14] ?_
       refine ra_s 37 (i := 14) rfl rfl rfl (Ys_append (s := 5) (by' := 40) (i := 3) (nn := Cells1.length) (c := c3) (k := 1) (len := (Cells1 ++ [r_1]).length) (B := B3) (xs := ([r_1].flatMap eN0)) (cs' := ((Cells1 ++ [r_1]).flatMap eN0)) hS16 k_sl_28_63 k_sz_63_5 k_by_63_40 k_zero_63 rfl (by decide) rfl rfl rfl rfl (fm_lenn (l := Cells1) enc_Dyadic_len rfl) rfl (hS16.cf (i := 4) rfl) (fm_lenn (l := [r_1]) enc_Dyadic_len rfl) (fm_one' (enc := eN0) enc_Dyadic_one [r_1]) (by have := hap; omega) (by have := hap; simp only [maxLen]; omega) (fm_app _ _) (app_len (l := Cells1) (l' := [r_1]) rfl rfl)) ?_ ?_
       ·rintro _ w_10 ⟨B4, c4, rfl, hS17⟩
        refine ⟨(hS17.se [0, 1]), ?_⟩
        refine rq 15 38 (v := pt (aD b2) 2) rfl (hS17.se [0, 1]) (fun w' hw' => (Y_fieldAddr (B := aD b2) (i := 0) (s := 0) k_fd_30_2_2_28 k_sz_28_1 rfl (hf1.get 3 2 rfl))) ?_
        refine rA [16] ?_
        refine ra_s0 (i := 16) rfl rfl rfl (Ys_store (i := 2) (s := 1) (B := aD b2) (T' := 30) (v := .slice B4 ((Cells1 ++ [r_1]).length) c4) (vs := [.slice B4 ((Cells1 ++ [r_1]).length) c4]) (k := 2) (cs' := [vi m.Cols, vi m.Rows, .slice B4 ((Cells1 ++ [r_1]).length) c4]) hS17 k_sz_28_1 rfl rfl rfl rfl rfl rfl rfl (lB rfl) rfl rfl) ?_ ?_
        ·rintro _ w_11 ⟨rfl, hS18⟩
         refine ⟨(hS18.se [0, 1]), ?_⟩
         refine ra_done (by kernel_rfl) ?_
         exact ⟨B4, c4, (FF.cons (hf1.get 1 0 rfl) (FF.cons (hf1.get 2 1 rfl) (FF.cons (hf1.get 3 2 rfl) (FF.cons (hf1.get 4 3 rfl) (FF.cons (hf1.get 5 4 rfl) FF.nil))))), (hS18.sel [0, 1, 2, 3] rfl rfl)⟩
        exact allR_nil
       exact allR_nil
      exact allR_nil
     refine ra_s 36 (i := 13) rfl rfl rfl (Ys_bslice (s := 5) (len := 1) (vs := [(0, gD_ r_1)]) (cs := kD_ r_1) (zs := kZ_) (m := 5) hS15 k_sl_28_63 k_sz_63_5 k_zc_63 rfl (mpc rfl mpn) rfl rfl rfl (by kernel_rfl) (by kernel_rfl) rfl) ?_ ?_
     ·rintro _ w_12 ⟨b3, rfl, hS19⟩
      refine ⟨(hS19.se [0, 1]), ?_⟩
      refine rA [1] ?_
      refine ra_y 24 (i := 1) (v := .slice B3 Cells1.length c3) rfl rfl rfl (Y_load1 (B := aD b2) (i := 2) (cs := [vi m.Cols, vi m.Rows, .slice B3 Cells1.length c3]) (v := .slice B3 Cells1.length c3) k_sc_28 rfl rfl (hS19.cf (i := 2) rfl) rfl) (hS19.se [0, 1]) ?_ ?_
      ·skip
       refine rA [14] ?_
       refine ra_s 37 (i := 14) rfl rfl rfl (Ys_append (s := 5) (by' := 40) (i := 3) (nn := Cells1.length) (c := c3) (k := 1) (len := (Cells1 ++ [r_1]).length) (B := B3) (xs := ([r_1].flatMap eN0)) (cs' := ((Cells1 ++ [r_1]).flatMap eN0)) hS19 k_sl_28_63 k_sz_63_5 k_by_63_40 k_zero_63 rfl (by decide) rfl rfl rfl rfl (fm_lenn (l := Cells1) enc_Dyadic_len rfl) rfl (hS19.cf (i := 4) rfl) (fm_lenn (l := [r_1]) enc_Dyadic_len rfl) (fm_one' (enc := eN0) enc_Dyadic_one [r_1]) (by have := hap; omega) (by have := hap; simp only [maxLen]; omega) (fm_app _ _) (app_len (l := Cells1) (l' := [r_1]) rfl rfl)) ?_ ?_
       ·rintro _ w_13 ⟨B4, c4, rfl, hS20⟩
        refine ⟨(hS20.se [0, 1]), ?_⟩
        refine rq 15 38 (v := pt (aD b2) 2) rfl (hS20.se [0, 1]) (fun w' hw' => (Y_fieldAddr (B := aD b2) (i := 0) (s := 0) k_fd_30_2_2_28 k_sz_28_1 rfl (hf1.get 3 2 rfl))) ?_
        refine rA [16] ?_
        refine ra_s0 (i := 16) rfl rfl rfl (Ys_store (i := 2) (s := 1) (B := aD b2) (T' := 30) (v := .slice B4 ((Cells1 ++ [r_1]).length) c4) (vs := [.slice B4 ((Cells1 ++ [r_1]).length) c4]) (k := 2) (cs' := [vi m.Cols, vi m.Rows, .slice B4 ((Cells1 ++ [r_1]).length) c4]) hS20 k_sz_28_1 rfl rfl rfl rfl rfl rfl rfl (lB rfl) rfl rfl) ?_ ?_
        ·rintro _ w_14 ⟨rfl, hS21⟩
         refine ⟨(hS21.se [0, 1]), ?_⟩
         refine ra_done (by kernel_rfl) ?_
         exact ⟨B4, c4, (FF.cons (hf1.get 1 0 rfl) (FF.cons (hf1.get 2 1 rfl) (FF.cons (hf1.get 3 2 rfl) (FF.cons (hf1.get 4 3 rfl) (FF.cons (hf1.get 5 4 rfl) FF.nil))))), (hS21.sel [0, 1, 2, 3] rfl rfl)⟩
        exact allR_nil
       exact allR_nil
      exact allR_nil
     exact allR_nil
    exact allR_nil
   rintro f w ⟨B5, c5, hf2, hS9⟩
   refine cw_region ?_
   refine sQ 21 (Y_move (v := vi (i2 : Int)) rfl (hf2.get 5 4 rfl)) ?_
   refine sQ 22 (Y_add (k := .i64) (a := (i2 : Int)) (b := 1) rfl rfl rfl) ?_
   refine sQ 5 (Y_assign (v := vi (i64.wrap ((i2 : Int) + 1))) rfl rfl) (rw_nil ?_)
   obtain rfl := some_inj hb1
   exact ⟨k_3, Nat.lt_succ_self _, i2 + 1, (Cells1 ++ [r_1]), B5, c5, (FF.cons (hf2.get 1 0 rfl) (FF.cons (hf2.get 2 1 rfl) (FF.cons (hf2.get 3 2 rfl) (FF.cons (hf2.get 4 3 rfl) (FF.cons (congrArg (Value.int .i64) (wr_succ hlt3 hN1)) FF.nil))))), (hS9.sel [0, 1, 2, 3] rfl rfl), (by omega), hL3⟩
  ·skip
   obtain rfl : k_2 = 0 := by have h := of_decide_eq_false hlt2; omega
   refine cw_exit rfl ?_
   obtain rfl := some_inj hL2
   refine cw_region ?_
   refine sQ 15 (Y_move (v := vi (j : Int)) rfl (hf1.get 4 3 rfl)) ?_
   refine sQ 16 (Y_add (k := .i64) (a := (j : Int)) (b := 1) rfl rfl rfl) ?_
   refine sQ 4 (Y_assign (v := vi (i64.wrap ((j : Int) + 1))) rfl rfl) (rw_nil ?_)
   obtain rfl := some_inj hF2
   exact ⟨k_1, Nat.lt_succ_self _, j + 1, Cells1, B3, c3, (FF.cons (hf1.get 1 0 rfl) (FF.cons (hf1.get 2 1 rfl) (FF.cons (hf1.get 3 2 rfl) (FF.cons (congrArg (Value.int .i64) (wr_succ hlt1 hN)) FF.nil)))), (hS7.sel [0, 1, 2, 3] rfl rfl), (by omega), hL1⟩
 ·skip
  obtain rfl : k_ = 0 := by have h := of_decide_eq_false hlt; omega
  refine cw_exit rfl ?_
  obtain rfl := some_inj hL
  refine cw_seq (cw_region ?_)
  refine sQ 39 (Y_loadA (B := aD b2) (i := 0) (cs := [vi m.Cols, vi m.Rows, .slice B2 Cells.length c2]) (vs := [vi m.Cols, vi m.Rows, .slice B2 Cells.length c2]) k_ag_30 k_sz_30_3 rfl (hf.get 3 2 rfl) (hS5.cf (i := 2) rfl) rfl rfl) ?_
  refine s0 (Ys_store (i := 1) (s := 3) (B := aD b1) (T' := 30) (v := .agg #[vi m.Cols, vi m.Rows, .slice B2 Cells.length c2]) (vs := [vi m.Cols, vi m.Rows, .slice B2 Cells.length c2]) (k := 0) (cs' := [vi m.Cols, vi m.Rows, .slice B2 Cells.length c2]) hS5 k_sz_30_3 rfl (hf.get 2 1 rfl) rfl rfl rfl rfl rfl (lB rfl) rfl rfl) ?_
  rintro _ w_15 ⟨rfl, hS22⟩
  refine rw_nil (cw_ret ?_)
  obtain rfl := some_inj hF1
  exact ret1 Tryz.results40 (v1 := .agg #[vi m.Cols, vi m.Rows, .slice B2 Cells.length c2]) (resAt_cellA (B := aD b1) (i := 0) (cs := [vi m.Cols, vi m.Rows, .slice B2 Cells.length c2]) (vs := [vi m.Cols, vi m.Rows, .slice B2 Cells.length c2]) (hf.get 2 1 rfl) k_ag_30 k_sz_30_3 (hS22.cf (i := 1) rfl) rfl rfl) ⟨B2, c2, rfl, (hS22.sN [3])⟩

theorem c_spec_IsUnitary (m : TMatrix) (B : Option Addr) (c n : Nat) (w0 : World) (hn : m.Cells.length = n) (hS : ST w0 [] w0 [] [⟨B, (m.Cells.flatMap eN0)⟩]) {r_ : Bool} {r_1 : Bool} (hF : F_spec_IsUnitary m = some (r_, r_1)) :
  CV Tryz.prog 11 #[.agg #[vi m.Rows, vi m.Cols, .slice B n c]] w0 (fun v w' => v = .tuple #[.bool r_, .bool r_1] ∧ ST w0 [] w' [] []) := by
 subst hn
 unfold F_spec_IsUnitary at hF
 refine cv_of_cw 32 Tryz.func11 rfl Tryz.ntmps11 rfl ?_
 refine cw_seq (cw_region ?_)
 refine sS 1 (Ys_box (T := 30) (v := gM_ m B c) (cs := kM_ m B c) (m := 3) hS rfl rfl rfl rfl) ?_
 rintro _ w_ ⟨b, rfl, hS1⟩
 refine sQ 2 (Y_assign (v := .bool false) rfl rfl) ?_
 refine sQ 3 (Y_assign (v := .bool false) rfl rfl) (rw_nil (cw_seq (cw_seq (cw_region ?_))))
 refine sQ 6 (Y_loadA (B := aD b) (i := 0) (cs := kM_ m B c) (vs := kM_ m B c) k_ag_30 k_sz_30_3 rfl rfl (hS1.cf (i := 0) rfl) rfl rfl) ?_
 obtain ⟨r_2, hc, hF⟩ := bind_inv hF
 refine sc 7 rfl rfl (Yc_func (g := 38) (vs := [gM_ m B c]) k_call_38 rfl (mc rfl mn) (c_spec_l3Good m B c m.Cells.length _ rfl (hS1.inn0 [(true, 0)] rfl) hc)) ?_
 rintro _ w_1 ⟨rfl, hd⟩
 have hS2 := hS1.out00 hd
 refine sQ 8 (Y_not (p := r_2) rfl rfl) ?_
 refine sQ 9 (Y_move (v := .bool (!r_2)) rfl rfl) ?_
 refine sgq 10 (B := (!(!r_2))) (v := pt (aD b) 0) rfl rfl (uF_ 9) (fun hg => (Y_fieldAddr (B := aD b) (i := 0) (s := 0) k_fd_30_0_0_3 k_sz_3_1 rfl rfl)) ?_
 refine sgq 11 (B := (!(!r_2))) (v := vi m.Rows) rfl rfl (uF_ 9) (fun hg1 => (Y_load1 (B := aD b) (i := 0) (cs := kM_ m B c) (v := vi m.Rows) k_sc_3 rfl (gv_of (v := pt (aD b) 0) hg1) (hS2.cf (i := 0) rfl) rfl)) ?_
 refine sgq 12 (B := (!(!r_2))) (v := pt (aD b) 1) rfl rfl (uF_ 9) (fun hg2 => (Y_fieldAddr (B := aD b) (i := 0) (s := 0) k_fd_30_1_1_3 k_sz_3_1 rfl rfl)) ?_
 refine sgq 13 (B := (!(!r_2))) (v := vi m.Cols) rfl rfl (uF_ 9) (fun hg3 => (Y_load1 (B := aD b) (i := 1) (cs := kM_ m B c) (v := vi m.Cols) k_sc_3 rfl (gv_of (v := pt (aD b) 1) hg3) (hS2.cf (i := 0) rfl) rfl)) ?_
 refine sgq 14 (B := (!(!r_2))) (v := .bool (m.Rows != m.Cols)) rfl rfl (uF_ 9) (fun hg4 => (Y_ne (k := .i64) (a := m.Rows) (b := m.Cols) rfl (gv_of (v := vi m.Rows) hg4) (gv_of (v := vi m.Cols) hg4))) ?_
 refine sQ 15 (Y_or (b := (!r_2)) (z := (m.Rows != m.Cols)) rfl rfl rfl rfl) (rw_nil ?_)
 refine cw_cond (b := ((!r_2) || (m.Rows != m.Cols))) rfl (fun hb => ?_) (fun hb => ?_)
 ·skip
  have hF1 := ct hF hb
  refine cw_seq (cw_region ?_)
  refine sQ 2 (Y_assign (v := .bool false) rfl rfl) ?_
  refine sQ 3 (Y_assign (v := .bool false) rfl rfl) (rw_nil (cw_ret ?_))
  obtain ⟨rfl, rfl⟩ := pr2 (some_inj hF1)
  exact ret2 Tryz.results11 (v1 := .bool false) (resAt_tmp rfl) (v2 := .bool false) (resAt_tmp rfl) ⟨rfl, (hS2.sN [])⟩
 ·skip
  have hF2 := cf' hF hb
  refine cw_skip (cw_seq (cw_region ?_))
  refine sQ 16 (Y_buildS (zs := [.bool false]) (vs := []) (cs := [.bool false]) k_pl_75 k_zero_75 rfl mpn rfl) ?_
  refine sS 17 (Ys_box (T := 75) (v := .agg #[.bool false]) (cs := [.bool false]) (m := 1) hS2 rfl rfl rfl rfl) ?_
  rintro _ w_2 ⟨b1, rfl, hS3⟩
  refine sQ 4 (Y_assign (v := pt (aD b1) 0) rfl rfl) (rw_nil (cw_seq ?_))
  obtain ⟨r_3, hc1, hF2⟩ := bind_inv hF2
  obtain ⟨⟨r_4, m1⟩, hc2, hF2⟩ := bind_inv hF2
  refine cw_mid (fun f w => ∃ (B3 : Option Addr) (B4 : Option Addr) (c3 : Nat), FF f [(1, pt (aD b) 0), (4, pt (aD b1) 0), (5, pt B3 0)] ∧ ST w0 [] w [⟨aD b, 30, kM_ m B c, 3⟩, ⟨aD b1, 75, [.bool m1.bad], 1⟩, ⟨B3, 30, kM_ r_4 B4 c3, 3⟩, ⟨B4, 63, (r_4.Cells.flatMap eN0), c3 * 5⟩] [⟨B, (m.Cells.flatMap eN0)⟩]) ?_ ?_
  ·skip
   refine ra_start (hS3.se [0]).fn (by kernel_rfl) ?_
   have hS7 := hS3.drew
   refine rq 0 18 (v := pt (aD b1) 0) rfl (hS7.se [0]) (fun w' hw' => (Y_move (v := pt (aD b1) 0) rfl rfl)) ?_
   refine rq 1 19 (v := gM_ m B c) rfl (hS7.se [0]) (fun w' hw' => (Y_loadA (B := aD b) (i := 0) (cs := kM_ m B c) (vs := kM_ m B c) k_ag_30 k_sz_30_3 rfl rfl (ST.cf hw' (i := 0) rfl) rfl rfl)) ?_
   refine rq 2 20 (v := gM_ m B c) rfl (hS7.se [0]) (fun w' hw' => (Y_loadA (B := aD b) (i := 0) (cs := kM_ m B c) (vs := kM_ m B c) k_ag_30 k_sz_30_3 rfl rfl (ST.cf hw' (i := 0) rfl) rfl rfl)) ?_
   refine rA [3, 5] ?_
   refine ra_c 21 (i := 3) rfl rfl rfl (Yc_func (g := 40) (vs := [gM_ m B c]) k_call_40 rfl (mc rfl mn) (c_spec_l3Adj m B c m.Cells.length _ rfl (hS7.inn0 [(true, 0)] rfl) hc1)) ?_ ?_
   ·rintro _ w_3 ⟨B1, c1, rfl, hd1⟩
    have hS8 := hS7.out0 hd1
    refine ⟨(hS8.se [0]), ?_⟩
    refine rA [4, 5] ?_
    refine ra_c 22 (i := 4) rfl rfl rfl (Yc_func (g := 39) (vs := [pt (aD b1) 0, gM_ m B c, gM_ r_3 B1 c1]) k_call_39 rfl (mc rfl (mc rfl (mc rfl mn))) (c_spec_l2C_times (Tl2C.mk false) m r_3 (aD b1) B c m.Cells.length B1 c1 r_3.Cells.length _ rfl rfl (hS8.inn [false, true, false] rfl [(true, 0), (false, 1)] rfl) hc2)) ?_ ?_
    ·rintro _ w_4 ⟨B2, c2, rfl, hd2⟩
     have hS9 := hS8.out [false, true, false] rfl hd2
     refine ⟨(hS9.se [0]), ?_⟩
     refine rA [5] ?_
     refine ra_s 5 (i := 5) rfl rfl rfl (Ys_alloc (T := 30) (cs := kN_) (m := 3) hS9 k_zero_30 rfl rfl rfl) ?_ ?_
     ·rintro _ w_5 ⟨b2, rfl, hS10⟩
      refine ⟨(hS10.se [0]), ?_⟩
      refine rA [6] ?_
      refine ra_s0 (i := 6) rfl rfl rfl (Ys_store (i := 4) (s := 3) (B := aD b2) (T' := 30) (v := gM_ r_4 B2 c2) (vs := kM_ r_4 B2 c2) (k := 0) (cs' := kM_ r_4 B2 c2) hS10 k_sz_30_3 rfl rfl rfl rfl rfl rfl rfl (lB rfl) rfl rfl) ?_ ?_
      ·rintro _ w_6 ⟨rfl, hS11⟩
       refine ⟨(hS11.se [0]), ?_⟩
       refine ra_done (by kernel_rfl) ?_
       exact ⟨aD b2, B2, c2, (FF.cons rfl (FF.cons rfl (FF.cons rfl FF.nil))), (hS11.sel [0, 2, 4, 3] rfl rfl)⟩
      exact allR_nil
     exact allR_nil
    refine ra_s 5 (i := 5) rfl rfl rfl (Ys_alloc (T := 30) (cs := kN_) (m := 3) hS8 k_zero_30 rfl rfl rfl) ?_ ?_
    ·rintro _ w_7 ⟨b2, rfl, hS12⟩
     refine ⟨(hS12.se [0]), ?_⟩
     refine rA [4] ?_
     refine ra_c 22 (i := 4) rfl rfl rfl (Yc_func (g := 39) (vs := [pt (aD b1) 0, gM_ m B c, gM_ r_3 B1 c1]) k_call_39 rfl (mc rfl (mc rfl (mc rfl mn))) (c_spec_l2C_times (Tl2C.mk false) m r_3 (aD b1) B c m.Cells.length B1 c1 r_3.Cells.length _ rfl rfl (hS12.inn [false, true, false, false] rfl [(true, 0), (false, 1)] rfl) hc2)) ?_ ?_
     ·rintro _ w_8 ⟨B2, c2, rfl, hd3⟩
      have hS13 := hS12.out [false, true, false, false] rfl hd3
      refine ⟨(hS13.se [0]), ?_⟩
      refine rA [6] ?_
      refine ra_s0 (i := 6) rfl rfl rfl (Ys_store (i := 2) (s := 3) (B := aD b2) (T' := 30) (v := gM_ r_4 B2 c2) (vs := kM_ r_4 B2 c2) (k := 0) (cs' := kM_ r_4 B2 c2) hS13 k_sz_30_3 rfl rfl rfl rfl rfl rfl rfl (lB rfl) rfl rfl) ?_ ?_
      ·rintro _ w_9 ⟨rfl, hS14⟩
       refine ⟨(hS14.se [0]), ?_⟩
       refine ra_done (by kernel_rfl) ?_
       exact ⟨aD b2, B2, c2, (FF.cons rfl (FF.cons rfl (FF.cons rfl FF.nil))), (hS14.sel [0, 3, 2, 4] rfl rfl)⟩
      exact allR_nil
     exact allR_nil
    exact allR_nil
   refine ra_s 5 (i := 5) rfl rfl rfl (Ys_alloc (T := 30) (cs := kN_) (m := 3) hS7 k_zero_30 rfl rfl rfl) ?_ ?_
   ·rintro _ w_10 ⟨b2, rfl, hS15⟩
    refine ⟨(hS15.se [0]), ?_⟩
    refine rA [3] ?_
    refine ra_c 21 (i := 3) rfl rfl rfl (Yc_func (g := 40) (vs := [gM_ m B c]) k_call_40 rfl (mc rfl mn) (c_spec_l3Adj m B c m.Cells.length _ rfl (hS15.inn0 [(true, 0)] rfl) hc1)) ?_ ?_
    ·rintro _ w_11 ⟨B1, c1, rfl, hd4⟩
     have hS16 := hS15.out0 hd4
     refine ⟨(hS16.se [0]), ?_⟩
     refine rA [4] ?_
     refine ra_c 22 (i := 4) rfl rfl rfl (Yc_func (g := 39) (vs := [pt (aD b1) 0, gM_ m B c, gM_ r_3 B1 c1]) k_call_39 rfl (mc rfl (mc rfl (mc rfl mn))) (c_spec_l2C_times (Tl2C.mk false) m r_3 (aD b1) B c m.Cells.length B1 c1 r_3.Cells.length _ rfl rfl (hS16.inn [false, true, false, false] rfl [(true, 0), (false, 2)] rfl) hc2)) ?_ ?_
     ·rintro _ w_12 ⟨B2, c2, rfl, hd5⟩
      have hS17 := hS16.out [false, true, false, false] rfl hd5
      refine ⟨(hS17.se [0]), ?_⟩
      refine rA [6] ?_
      refine ra_s0 (i := 6) rfl rfl rfl (Ys_store (i := 1) (s := 3) (B := aD b2) (T' := 30) (v := gM_ r_4 B2 c2) (vs := kM_ r_4 B2 c2) (k := 0) (cs' := kM_ r_4 B2 c2) hS17 k_sz_30_3 rfl rfl rfl rfl rfl rfl rfl (lB rfl) rfl rfl) ?_ ?_
      ·rintro _ w_13 ⟨rfl, hS18⟩
       refine ⟨(hS18.se [0]), ?_⟩
       refine ra_done (by kernel_rfl) ?_
       exact ⟨aD b2, B2, c2, (FF.cons rfl (FF.cons rfl (FF.cons rfl FF.nil))), (hS18.sel [0, 3, 1, 4] rfl rfl)⟩
      exact allR_nil
     exact allR_nil
    exact allR_nil
   exact allR_nil
  rintro f w ⟨B3, B4, c3, hf, hS6⟩
  refine cw_seq (cw_seq (cw_region ?_))
  refine sQ 23 (Y_move (v := pt (aD b1) 0) rfl (hf.get 4 1 rfl)) ?_
  refine sQ 24 (Y_nilCheck (B := aD b1) (i := 0) rfl rfl) ?_
  refine sQ 25 (Y_fieldAddr (B := aD b1) (i := 0) (s := 0) k_fd_75_0_0_4 k_sz_4_1 rfl rfl) ?_
  refine sQ 26 (Y_load1 (B := aD b1) (i := 0) (cs := [.bool m1.bad]) (v := .bool m1.bad) k_sc_4 rfl rfl (hS6.cf (i := 1) rfl) rfl) (rw_nil ?_)
  refine cw_cond (b := m1.bad) rfl (fun hb1 => ?_) (fun hb1 => ?_)
  ·skip
   have hF3 := ct hF2 hb1
   refine cw_seq (cw_region ?_)
   refine sQ 2 (Y_assign (v := .bool false) rfl rfl) ?_
   refine sQ 3 (Y_assign (v := .bool false) rfl rfl) (rw_nil (cw_ret ?_))
   obtain ⟨rfl, rfl⟩ := pr2 (some_inj hF3)
   exact ret2 Tryz.results11 (v1 := .bool false) (resAt_tmp rfl) (v2 := .bool false) (resAt_tmp rfl) ⟨rfl, (hS6.sN [])⟩
  ·skip
   have hF4 := cf' hF2 hb1
   refine cw_skip (cw_seq ?_)
   obtain ⟨r_5, hc3, hF4⟩ := bind_inv hF4
   obtain ⟨r_6, hc4, hF4⟩ := bind_inv hF4
   refine ra_start (hS6.se [0, 1, 2, 3]).fn (by kernel_rfl) ?_
   have hS21 := hS6.drew
   refine rq 0 27 (v := gM_ r_4 B4 c3) rfl (hS21.se [0, 1, 2, 3]) (fun w' hw' => (Y_loadA (B := B3) (i := 0) (cs := kM_ r_4 B4 c3) (vs := kM_ r_4 B4 c3) k_ag_30 k_sz_30_3 rfl (hf.get 5 2 rfl) (ST.cf hw' (i := 2) rfl) rfl rfl)) ?_
   refine rq 1 28 (v := pt (aD b) 0) rfl (hS21.se [0, 1, 2, 3]) (fun w' hw' => (Y_fieldAddr (B := aD b) (i := 0) (s := 0) k_fd_30_0_0_3 k_sz_3_1 rfl (hf.get 1 0 rfl))) ?_
   refine rq 2 29 (v := vi m.Rows) rfl (hS21.se [0, 1, 2, 3]) (fun w' hw' => (Y_load1 (B := aD b) (i := 0) (cs := kM_ m B c) (v := vi m.Rows) k_sc_3 rfl rfl (ST.cf hw' (i := 0) rfl) rfl)) ?_
   refine rA [3] ?_
   refine ra_c 30 (i := 3) rfl rfl rfl (Yc_func (g := 37) (vs := [vi m.Rows]) k_call_37 rfl (mc rfl mn) (c_spec_l3Unit m.Rows _  (hS21.inn0 [] rfl) hc3)) ?_ ?_
   ·rintro _ w_14 ⟨B5, c4, rfl, hd6⟩
    have hS22 := hS21.out0 hd6
    refine ⟨(hS22.se [0, 1, 2, 3]), ?_⟩
    refine rA [4] ?_
    refine ra_c 31 (i := 4) rfl rfl rfl (Yc_func (g := 10) (vs := [gM_ r_4 B4 c3, gM_ r_5 B5 c4]) k_call_10 rfl (mc rfl (mc rfl mn)) (c_spec_EqualMatrices r_4 r_5 B4 c3 r_4.Cells.length B5 c4 r_5.Cells.length _ rfl rfl (hS22.inn0 [(false, 3), (false, 4)] rfl) hc4)) ?_ ?_
    ·rintro _ w_15 ⟨rfl, hd7⟩
     have hS23 := hS22.out00 hd7
     refine ⟨(hS23.se [0, 1, 2, 3]), ?_⟩
     refine rq 5 2 (v := .bool r_6) rfl (hS23.se [0, 1, 2, 3]) (fun w' hw' => (Y_assign (v := .bool r_6) rfl rfl)) ?_
     refine rq 6 3 (v := .bool true) rfl (hS23.se [0, 1, 2, 3]) (fun w' hw' => (Y_assign (v := .bool true) rfl rfl)) ?_
     refine ra_done (by kernel_rfl) ?_
     refine cw_ret ?_
     obtain ⟨rfl, rfl⟩ := pr2 (some_inj hF4)
     exact ret2 Tryz.results11 (v1 := .bool r_6) (resAt_tmp rfl) (v2 := .bool true) (resAt_tmp rfl) ⟨rfl, (hS23.sN [])⟩
    exact allR_nil
   exact allR_nil

theorem c_impl_InverseGate (g : TGate)  (w0 : World)  (hS : ST w0 [] w0 [] []) {r_ : TGate} {r_1 : Int} {r_2 : Bool} (hF : F_impl_InverseGate g = some (r_, r_1, r_2)) :
  CV Tryz.prog 41 #[.agg #[vi g.Kind, vi g.A, vi g.B]] w0 (fun v w' => v = .tuple #[.agg #[vi r_.Kind, vi r_.A, vi r_.B], vi r_1, .bool r_2] ∧ ST w0 [] w' [] []) := by
 unfold F_impl_InverseGate at hF
 refine cv_of_cw 27 Tryz.func41 rfl Tryz.ntmps41 rfl ?_
 refine cw_seq (cw_region ?_)
 refine sS 1 (Ys_box (T := 67) (v := .agg #[vi g.Kind, vi g.A, vi g.B]) (cs := [vi g.Kind, vi g.A, vi g.B]) (m := 3) hS rfl rfl rfl rfl) ?_
 rintro _ w_ ⟨b, rfl, hS1⟩
 refine sS 2 (Ys_alloc (T := 67) (cs := [vi 0, vi 0, vi 0]) (m := 3) hS1 k_zero_67 rfl rfl rfl) ?_
 rintro _ w_1 ⟨b1, rfl, hS2⟩
 refine sQ 3 (Y_assign (v := vi 0) rfl rfl) ?_
 refine sQ 4 (Y_assign (v := .bool false) rfl rfl) (rw_nil (cw_seq (cw_seq (cw_region ?_))))
 refine sQ 5 (Y_loadA (B := aD b) (i := 0) (cs := [vi g.Kind, vi g.A, vi g.B]) (vs := [vi g.Kind, vi g.A, vi g.B]) k_ag_67 k_sz_67_3 rfl rfl (hS2.cf (i := 0) rfl) rfl rfl) ?_
 obtain ⟨r_3, hc, hF⟩ := bind_inv hF
 refine sc 6 rfl rfl (Yc_func (g := 72) (vs := [vi 5, .agg #[vi g.Kind, vi g.A, vi g.B]]) k_call_72 rfl (mc rfl (mc rfl mn)) (c_impl_IsValidGate 5 g _  (hS2.inn0 [] rfl) hc)) ?_
 rintro _ w_2 ⟨rfl, hd⟩
 have hS3 := hS2.out00 hd
 refine sQ 7 (Y_not (p := r_3) rfl rfl) (rw_nil ?_)
 refine cw_cond (b := (!r_3)) rfl (fun hb => ?_) (fun hb => ?_)
 ·skip
  have hF1 := ct hF hb
  refine cw_seq (cw_region ?_)
  refine sQ 8 (Y_buildS (zs := [vi 0, vi 0, vi 0]) (vs := []) (cs := [vi 0, vi 0, vi 0]) k_pl_67 k_zero_67 rfl mpn rfl) ?_
  refine s0 (Ys_store (i := 1) (s := 3) (B := aD b1) (T' := 67) (v := .agg #[vi 0, vi 0, vi 0]) (vs := [vi 0, vi 0, vi 0]) (k := 0) (cs' := [vi 0, vi 0, vi 0]) hS3 k_sz_67_3 rfl rfl rfl rfl rfl rfl rfl (lB rfl) rfl rfl) ?_
  rintro _ w_3 ⟨rfl, hS4⟩
  refine sQ 3 (Y_assign (v := vi 0) rfl rfl) ?_
  refine sQ 4 (Y_assign (v := .bool false) rfl rfl) (rw_nil (cw_ret ?_))
  obtain ⟨rfl, rfl, rfl⟩ := pr3 (some_inj hF1)
  exact ret3 Tryz.results41 (v1 := .agg #[vi 0, vi 0, vi 0]) (resAt_cellA (B := aD b1) (i := 0) (cs := [vi 0, vi 0, vi 0]) (vs := [vi 0, vi 0, vi 0]) rfl k_ag_67 k_sz_67_3 (hS4.cf (i := 1) rfl) rfl rfl) (v2 := vi 0) (resAt_tmp rfl) (v3 := .bool false) (resAt_tmp rfl) ⟨rfl, (hS4.sN [])⟩
 ·skip
  have hF2 := cf' hF hb
  refine cw_skip (cw_seq ?_)
  obtain ⟨z, hz, hF3⟩ := bind_inv hF2
  refine cw_mid (fun f w => ∃ (Kind : Int), .inl Kind = z ∧ FF f [(1, pt (aD b) 0), (2, pt (aD b1) 0)] ∧ ST w0 [] w [⟨aD b, 67, [vi Kind, vi g.A, vi g.B], 3⟩, ⟨aD b1, 67, [vi 0, vi 0, vi 0], 3⟩] []) ?_ ?_
  ·skip
   refine cw_seq (cw_region ?_)
   refine sQ 9 (Y_fieldAddr (B := aD b) (i := 0) (s := 0) k_fd_67_0_0_3 k_sz_3_1 rfl rfl) ?_
   refine sQ 10 (Y_load1 (B := aD b) (i := 0) (cs := [vi g.Kind, vi g.A, vi g.B]) (v := vi g.Kind) k_sc_3 rfl rfl (hS3.cf (i := 0) rfl) rfl) (rw_nil (cw_block (cw_seq (cw_region ?_))))
   refine sQ 12 (Y_eq (k := .i64) (a := g.Kind) (b := 5) rfl rfl rfl) ?_
   refine sQ 11 (Y_assign (v := .bool (g.Kind == 5)) rfl rfl) (rw_nil ?_)
   refine cw_cond (b := (g.Kind == 5)) rfl (fun hb1 => ?_) (fun hb1 => ?_)
   ·skip
    have hF4 := ct hz hb1
    refine cw_region ?_
    refine sQ 13 (Y_fieldAddr (B := aD b) (i := 0) (s := 0) k_fd_67_0_0_3 k_sz_3_1 rfl rfl) ?_
    refine s0 (Ys_store (i := 0) (s := 1) (B := aD b) (T' := 67) (v := vi 6) (vs := [vi 6]) (k := 0) (cs' := [vi 6, vi g.A, vi g.B]) hS3 k_sz_3_1 rfl rfl rfl rfl rfl rfl rfl (lB rfl) rfl rfl) ?_
    rintro _ w_4 ⟨rfl, hS6⟩
    refine rw_nil ?_
    exact ⟨6, (some_inj hF4), (FF.cons rfl (FF.cons rfl FF.nil)), (hS6.sel [0, 1] rfl rfl)⟩
   ·skip
    have hF5 := cf' hz hb1
    refine cw_seq (cw_region ?_)
    refine sQ 15 (Y_eq (k := .i64) (a := g.Kind) (b := 6) rfl rfl rfl) ?_
    refine sQ 14 (Y_assign (v := .bool (g.Kind == 6)) rfl rfl) (rw_nil ?_)
    refine cw_cond (b := (g.Kind == 6)) rfl (fun hb2 => ?_) (fun hb2 => ?_)
    ·skip
     have hF6 := ct hF5 hb2
     refine cw_region ?_
     refine sQ 16 (Y_fieldAddr (B := aD b) (i := 0) (s := 0) k_fd_67_0_0_3 k_sz_3_1 rfl rfl) ?_
     refine s0 (Ys_store (i := 0) (s := 1) (B := aD b) (T' := 67) (v := vi 5) (vs := [vi 5]) (k := 0) (cs' := [vi 5, vi g.A, vi g.B]) hS3 k_sz_3_1 rfl rfl rfl rfl rfl rfl rfl (lB rfl) rfl rfl) ?_
     rintro _ w_5 ⟨rfl, hS7⟩
     refine rw_nil ?_
     exact ⟨5, (some_inj hF6), (FF.cons rfl (FF.cons rfl FF.nil)), (hS7.sel [0, 1] rfl rfl)⟩
    ·skip
     have hF7 := cf' hF5 hb2
     refine cw_seq (cw_region ?_)
     refine sQ 18 (Y_eq (k := .i64) (a := g.Kind) (b := 7) rfl rfl rfl) ?_
     refine sQ 17 (Y_assign (v := .bool (g.Kind == 7)) rfl rfl) (rw_nil ?_)
     refine cw_cond (b := (g.Kind == 7)) rfl (fun hb3 => ?_) (fun hb3 => ?_)
     ·skip
      have hF8 := ct hF7 hb3
      refine cw_region ?_
      refine sQ 19 (Y_fieldAddr (B := aD b) (i := 0) (s := 0) k_fd_67_0_0_3 k_sz_3_1 rfl rfl) ?_
      refine s0 (Ys_store (i := 0) (s := 1) (B := aD b) (T' := 67) (v := vi 8) (vs := [vi 8]) (k := 0) (cs' := [vi 8, vi g.A, vi g.B]) hS3 k_sz_3_1 rfl rfl rfl rfl rfl rfl rfl (lB rfl) rfl rfl) ?_
      rintro _ w_6 ⟨rfl, hS8⟩
      refine rw_nil ?_
      exact ⟨8, (some_inj hF8), (FF.cons rfl (FF.cons rfl FF.nil)), (hS8.sel [0, 1] rfl rfl)⟩
     ·skip
      have hF9 := cf' hF7 hb3
      refine cw_seq (cw_region ?_)
      refine sQ 21 (Y_eq (k := .i64) (a := g.Kind) (b := 8) rfl rfl rfl) ?_
      refine sQ 20 (Y_assign (v := .bool (g.Kind == 8)) rfl rfl) (rw_nil ?_)
      refine cw_cond (b := (g.Kind == 8)) rfl (fun hb4 => ?_) (fun hb4 => ?_)
      ·skip
       have hF10 := ct hF9 hb4
       refine cw_region ?_
       refine sQ 22 (Y_fieldAddr (B := aD b) (i := 0) (s := 0) k_fd_67_0_0_3 k_sz_3_1 rfl rfl) ?_
       refine s0 (Ys_store (i := 0) (s := 1) (B := aD b) (T' := 67) (v := vi 7) (vs := [vi 7]) (k := 0) (cs' := [vi 7, vi g.A, vi g.B]) hS3 k_sz_3_1 rfl rfl rfl rfl rfl rfl rfl (lB rfl) rfl rfl) ?_
       rintro _ w_7 ⟨rfl, hS9⟩
       refine rw_nil ?_
       exact ⟨7, (some_inj hF10), (FF.cons rfl (FF.cons rfl FF.nil)), (hS9.sel [0, 1] rfl rfl)⟩
      ·skip
       have hF11 := cf' hF9 hb4
       refine cw_seq (cw_region ?_)
       refine sQ 24 (Y_eq (k := .i64) (a := g.Kind) (b := 12) rfl rfl rfl) ?_
       refine sQ 23 (Y_assign (v := .bool (g.Kind == 12)) rfl rfl) (rw_nil ?_)
       refine cw_cond (b := (g.Kind == 12)) rfl (fun hb5 => ?_) (fun hb5 => ?_)
       ·skip
        have hF12 := ct hF11 hb5
        refine cw_seq (cw_region ?_)
        refine sQ 25 (Y_loadA (B := aD b) (i := 0) (cs := [vi g.Kind, vi g.A, vi g.B]) (vs := [vi g.Kind, vi g.A, vi g.B]) k_ag_67 k_sz_67_3 rfl rfl (hS3.cf (i := 0) rfl) rfl rfl) ?_
        refine s0 (Ys_store (i := 1) (s := 3) (B := aD b1) (T' := 67) (v := .agg #[vi g.Kind, vi g.A, vi g.B]) (vs := [vi g.Kind, vi g.A, vi g.B]) (k := 0) (cs' := [vi g.Kind, vi g.A, vi g.B]) hS3 k_sz_67_3 rfl rfl rfl rfl rfl rfl rfl (lB rfl) rfl rfl) ?_
        rintro _ w_8 ⟨rfl, hS10⟩
        refine sQ 3 (Y_assign (v := vi 7) rfl rfl) ?_
        refine sQ 4 (Y_assign (v := .bool true) rfl rfl) (rw_nil (cw_ret ?_))
        obtain rfl := some_inj hF12
        obtain ⟨rfl, rfl, rfl⟩ := pr3 (some_inj hF3)
        exact ret3 Tryz.results41 (v1 := .agg #[vi g.Kind, vi g.A, vi g.B]) (resAt_cellA (B := aD b1) (i := 0) (cs := [vi g.Kind, vi g.A, vi g.B]) (vs := [vi g.Kind, vi g.A, vi g.B]) rfl k_ag_67 k_sz_67_3 (hS10.cf (i := 1) rfl) rfl rfl) (v2 := vi 7) (resAt_tmp rfl) (v3 := .bool true) (resAt_tmp rfl) ⟨rfl, (hS10.sN [])⟩
       ·skip
        have hF13 := cf' hF11 hb5
        refine cw_skip ?_
        exact ⟨g.Kind, (some_inj hF13), (FF.cons rfl (FF.cons rfl FF.nil)), (hS3.sel [0, 1] rfl rfl)⟩
  rintro f w ⟨Kind, rfl, hf, hS5⟩
  refine cw_seq (cw_region ?_)
  refine sQ 26 (Y_loadA (B := aD b) (i := 0) (cs := [vi Kind, vi g.A, vi g.B]) (vs := [vi Kind, vi g.A, vi g.B]) k_ag_67 k_sz_67_3 rfl (hf.get 1 0 rfl) (hS5.cf (i := 0) rfl) rfl rfl) ?_
  refine s0 (Ys_store (i := 1) (s := 3) (B := aD b1) (T' := 67) (v := .agg #[vi Kind, vi g.A, vi g.B]) (vs := [vi Kind, vi g.A, vi g.B]) (k := 0) (cs' := [vi Kind, vi g.A, vi g.B]) hS5 k_sz_67_3 rfl (hf.get 2 1 rfl) rfl rfl rfl rfl rfl (lB rfl) rfl rfl) ?_
  rintro _ w_9 ⟨rfl, hS11⟩
  refine sQ 3 (Y_assign (v := vi 1) rfl rfl) ?_
  refine sQ 4 (Y_assign (v := .bool true) rfl rfl) (rw_nil (cw_ret ?_))
  obtain ⟨rfl, rfl, rfl⟩ := pr3 (some_inj hF3)
  exact ret3 Tryz.results41 (v1 := .agg #[vi Kind, vi g.A, vi g.B]) (resAt_cellA (B := aD b1) (i := 0) (cs := [vi Kind, vi g.A, vi g.B]) (vs := [vi Kind, vi g.A, vi g.B]) (hf.get 2 1 rfl) k_ag_67 k_sz_67_3 (hS11.cf (i := 1) rfl) rfl rfl) (v2 := vi 1) (resAt_tmp rfl) (v3 := .bool true) (resAt_tmp rfl) ⟨rfl, (hS11.sN [])⟩

theorem c_impl_circuitIf (n : Int) (gates : List TGate) (B : Option Addr) (c n1 : Nat) (w0 : World) (hn : gates.length = n1) (hS : ST w0 [] w0 [] [⟨B, (gates.flatMap eN1)⟩]) {r_ : TCircuit} {r_1 : Bool} (hF : F_impl_circuitIf n gates = some (r_, r_1)) :
  CV Tryz.prog 42 #[vi n, .slice B n1 c] w0 (fun v w' => ∃ (B1 : Option Addr) (c1 : Nat), v = .tuple #[.agg #[vi r_.Qubits, .slice B1 r_.Gates.length c1], .bool r_1] ∧ ST w0 [] w' [⟨B1, 67, (r_.Gates.flatMap eN1), c1 * 3⟩] []) := by
 subst hn
 unfold F_impl_circuitIf at hF
 refine cv_of_cw 17 Tryz.func42 rfl Tryz.ntmps42 rfl ?_
 refine cw_seq (cw_region ?_)
 refine sS 4 (Ys_alloc (T := 26) (cs := [vi 0, .slice none 0 0]) (m := 2) hS k_zero_26 rfl rfl rfl) ?_
 rintro _ w_ ⟨b, rfl, hS1⟩
 refine sQ 5 (Y_assign (v := .bool false) rfl rfl) (rw_nil (cw_seq (cw_region ?_)))
 refine sQ 7 (Y_move (v := vi n) rfl rfl) ?_
 refine sS 8 (Ys_bslice0 (s := 3) (e := 67) hS1 k_sl_24_67 k_sz_67_3 rfl) ?_
 rintro _ w_1 ⟨b1, rfl, hS2⟩
 refine sQ 9 (Y_move (v := .slice B gates.length c) rfl rfl) ?_
 obtain ⟨hap, hF⟩ := chk_inv hF
 refine sS 10 (Ys_append (s := 3) (by' := 24) (i := 1) (nn := 0) (c := 0) (k := gates.length) (len := gates.length) (B := aD b1) (xs := (gates.flatMap eN1)) (cs' := (gates.flatMap eN1)) hS2 k_sl_24_67 k_sz_67_3 k_by_67_24 k_zero_67 rfl (by decide) rfl rfl rfl rfl (fm_lenn (l := []) enc_Gate_len rfl) rfl (hS2.rf (i := 0) rfl) (fm_lenn (l := gates) enc_Gate_len rfl) (fm_one' (enc := eN1) enc_Gate_one gates) (by have := hap; omega) (by have := hap; simp only [maxLen]; omega) rfl (app_len0 (l := gates) rfl)) ?_
 rintro _ w_2 ⟨B2, c2, rfl, hS3⟩
 refine sQ 11 (Y_buildS (zs := [vi 0, .slice none 0 0]) (vs := [(0, vi n), (1, .slice B2 gates.length c2)]) (cs := [vi n, .slice B2 gates.length c2]) k_pl_26 k_zero_26 rfl (mpc rfl (mpc rfl mpn)) rfl) ?_
 refine sS 6 (Ys_alloc (T := 26) (cs := [vi 0, .slice none 0 0]) (m := 2) hS3 k_zero_26 rfl rfl rfl) ?_
 rintro _ w_3 ⟨b2, rfl, hS4⟩
 refine s0 (Ys_store (i := 2) (s := 2) (B := aD b2) (T' := 26) (v := .agg #[vi n, .slice B2 gates.length c2]) (vs := [vi n, .slice B2 gates.length c2]) (k := 0) (cs' := [vi n, .slice B2 gates.length c2]) hS4 k_sz_26_2 rfl rfl rfl rfl rfl rfl rfl (lB rfl) rfl rfl) ?_
 rintro _ w_4 ⟨rfl, hS5⟩
 refine rw_nil (cw_seq (cw_seq (cw_region ?_)))
 refine sQ 12 (Y_loadA (B := aD b2) (i := 0) (cs := [vi n, .slice B2 gates.length c2]) (vs := [vi n, .slice B2 gates.length c2]) k_ag_26 k_sz_26_2 rfl rfl (hS5.cf (i := 2) rfl) rfl rfl) ?_
 obtain ⟨r_2, hc, hF⟩ := bind_inv hF
 refine sc 13 rfl rfl (Yc_func (g := 31) (vs := [.agg #[vi n, .slice B2 gates.length c2]]) k_call_31 rfl (mc rfl mn) (c_impl_IsValidCircuit (TCircuit.mk n gates) B2 c2 gates.length _ rfl (hS5.inn0 [(false, 1)] rfl) hc)) ?_
 rintro _ w_5 ⟨rfl, hd⟩
 have hS6 := hS5.out00 hd
 refine sQ 14 (Y_not (p := r_2) rfl rfl) (rw_nil ?_)
 refine cw_cond (b := (!r_2)) rfl (fun hb => ?_) (fun hb => ?_)
 ·skip
  have hF1 := ct hF hb
  refine cw_seq (cw_region ?_)
  refine sQ 15 (Y_buildS (zs := [vi 0, .slice none 0 0]) (vs := []) (cs := [vi 0, .slice none 0 0]) k_pl_26 k_zero_26 rfl mpn rfl) ?_
  refine s0 (Ys_store (i := 0) (s := 2) (B := aD b) (T' := 26) (v := .agg #[vi 0, .slice none 0 0]) (vs := [vi 0, .slice none 0 0]) (k := 0) (cs' := [vi 0, .slice none 0 0]) hS6 k_sz_26_2 rfl rfl rfl rfl rfl rfl rfl (lB rfl) rfl rfl) ?_
  rintro _ w_6 ⟨rfl, hS7⟩
  refine sQ 5 (Y_assign (v := .bool false) rfl rfl) (rw_nil (cw_ret ?_))
  have hS8 := hS7.addNil 67
  obtain ⟨rfl, rfl⟩ := pr2 (some_inj hF1)
  exact ret2 Tryz.results42 (v1 := .agg #[vi 0, .slice none 0 0]) (resAt_cellA (B := aD b) (i := 0) (cs := [vi 0, .slice none 0 0]) (vs := [vi 0, .slice none 0 0]) rfl k_ag_26 k_sz_26_2 (hS8.cf (i := 0) rfl) rfl rfl) (v2 := .bool false) (resAt_tmp rfl) ⟨none, 0, rfl, (hS8.sN [3])⟩
 ·skip
  have hF2 := cf' hF hb
  refine cw_skip (cw_seq (cw_region ?_))
  refine sQ 16 (Y_loadA (B := aD b2) (i := 0) (cs := [vi n, .slice B2 gates.length c2]) (vs := [vi n, .slice B2 gates.length c2]) k_ag_26 k_sz_26_2 rfl rfl (hS6.cf (i := 2) rfl) rfl rfl) ?_
  refine s0 (Ys_store (i := 0) (s := 2) (B := aD b) (T' := 26) (v := .agg #[vi n, .slice B2 gates.length c2]) (vs := [vi n, .slice B2 gates.length c2]) (k := 0) (cs' := [vi n, .slice B2 gates.length c2]) hS6 k_sz_26_2 rfl rfl rfl rfl rfl rfl rfl (lB rfl) rfl rfl) ?_
  rintro _ w_7 ⟨rfl, hS9⟩
  refine sQ 5 (Y_assign (v := .bool true) rfl rfl) (rw_nil (cw_ret ?_))
  obtain ⟨rfl, rfl⟩ := pr2 (some_inj hF2)
  exact ret2 Tryz.results42 (v1 := .agg #[vi n, .slice B2 gates.length c2]) (resAt_cellA (B := aD b) (i := 0) (cs := [vi n, .slice B2 gates.length c2]) (vs := [vi n, .slice B2 gates.length c2]) rfl k_ag_26 k_sz_26_2 (hS9.cf (i := 0) rfl) rfl rfl) (v2 := .bool true) (resAt_tmp rfl) ⟨B2, c2, rfl, (hS9.sN [1])⟩

theorem c_impl_Inverse (c : TCircuit) (B : Option Addr) (c1 n : Nat) (w0 : World) (hn : c.Gates.length = n) (hS : ST w0 [] w0 [] [⟨B, (c.Gates.flatMap eN1)⟩]) {r_ : TCircuit} {r_1 : Bool} (hF : F_impl_Inverse c = some (r_, r_1)) :
  CV Tryz.prog 12 #[.agg #[vi c.Qubits, .slice B n c1]] w0 (fun v w' => ∃ (B1 : Option Addr) (c2 : Nat), v = .tuple #[.agg #[vi r_.Qubits, .slice B1 r_.Gates.length c2], .bool r_1] ∧ ST w0 [] w' [⟨B1, 67, (r_.Gates.flatMap eN1), c2 * 3⟩] []) := by
 subst hn
 unfold F_impl_Inverse at hF
 refine cv_of_cw 46 Tryz.func12 rfl Tryz.ntmps12 rfl ?_
 refine cw_seq (cw_region ?_)
 refine sS 1 (Ys_box (T := 26) (v := .agg #[vi c.Qubits, .slice B c.Gates.length c1]) (cs := [vi c.Qubits, .slice B c.Gates.length c1]) (m := 2) hS rfl rfl rfl rfl) ?_
 rintro _ w_ ⟨b, rfl, hS1⟩
 refine sS 2 (Ys_alloc (T := 26) (cs := [vi 0, .slice none 0 0]) (m := 2) hS1 k_zero_26 rfl rfl rfl) ?_
 rintro _ w_1 ⟨b1, rfl, hS2⟩
 refine sQ 3 (Y_assign (v := .bool false) rfl rfl) (rw_nil (cw_seq (cw_seq (cw_region ?_))))
 refine sQ 9 (Y_loadA (B := aD b) (i := 0) (cs := [vi c.Qubits, .slice B c.Gates.length c1]) (vs := [vi c.Qubits, .slice B c.Gates.length c1]) k_ag_26 k_sz_26_2 rfl rfl (hS2.cf (i := 0) rfl) rfl rfl) ?_
 obtain ⟨r_2, hc, hF⟩ := bind_inv hF
 refine sc 10 rfl rfl (Yc_func (g := 31) (vs := [.agg #[vi c.Qubits, .slice B c.Gates.length c1]]) k_call_31 rfl (mc rfl mn) (c_impl_IsValidCircuit c B c1 c.Gates.length _ rfl (hS2.inn0 [(true, 0)] rfl) hc)) ?_
 rintro _ w_2 ⟨rfl, hd⟩
 have hS3 := hS2.out00 hd
 refine sQ 11 (Y_not (p := r_2) rfl rfl) (rw_nil ?_)
 refine cw_cond (b := (!r_2)) rfl (fun hb => ?_) (fun hb => ?_)
 ·skip
  have hF1 := ct hF hb
  refine cw_seq (cw_region ?_)
  refine sQ 12 (Y_buildS (zs := [vi 0, .slice none 0 0]) (vs := []) (cs := [vi 0, .slice none 0 0]) k_pl_26 k_zero_26 rfl mpn rfl) ?_
  refine s0 (Ys_store (i := 1) (s := 2) (B := aD b1) (T' := 26) (v := .agg #[vi 0, .slice none 0 0]) (vs := [vi 0, .slice none 0 0]) (k := 0) (cs' := [vi 0, .slice none 0 0]) hS3 k_sz_26_2 rfl rfl rfl rfl rfl rfl rfl (lB rfl) rfl rfl) ?_
  rintro _ w_3 ⟨rfl, hS4⟩
  refine sQ 3 (Y_assign (v := .bool false) rfl rfl) (rw_nil (cw_ret ?_))
  have hS5 := hS4.addNil 67
  obtain ⟨rfl, rfl⟩ := pr2 (some_inj hF1)
  exact ret2 Tryz.results12 (v1 := .agg #[vi 0, .slice none 0 0]) (resAt_cellA (B := aD b1) (i := 0) (cs := [vi 0, .slice none 0 0]) (vs := [vi 0, .slice none 0 0]) rfl k_ag_26 k_sz_26_2 (hS5.cf (i := 1) rfl) rfl rfl) (v2 := .bool false) (resAt_tmp rfl) ⟨none, 0, rfl, (hS5.sN [2])⟩
 ·skip
  have hF2 := cf' hF hb
  refine cw_skip (cw_seq (cw_region ?_))
  refine sS 13 (Ys_bslice0 (s := 3) (e := 67) hS3 k_sl_24_67 k_sz_67_3 rfl) ?_
  rintro _ w_4 ⟨b2, rfl, hS6⟩
  refine sQ 4 (Y_assign (v := .slice (aD b2) 0 0) rfl rfl) (rw_nil (cw_seq (cw_seq (cw_region ?_))))
  refine sQ 14 (Y_fieldAddr (B := aD b) (i := 0) (s := 0) k_fd_26_1_1_24 k_sz_24_1 rfl rfl) ?_
  refine sQ 15 (Y_load1 (B := aD b) (i := 1) (cs := [vi c.Qubits, .slice B c.Gates.length c1]) (v := .slice B c.Gates.length c1) k_sc_24 rfl rfl (hS6.cf (i := 0) rfl) rfl) ?_
  refine sQ 16 (Y_len (B := B) (m := c.Gates.length) (c := c1) k_sl_24_67 rfl rfl) ?_
  refine sQ 17 (Y_sub (k := .i64) (a := (c.Gates.length : Int)) (b := 1) rfl rfl rfl) ?_
  refine sQ 5 (Y_assign (v := vi (i64.wrap ((c.Gates.length : Int) - 1))) rfl rfl) (rw_nil ?_)
  obtain ⟨z, hz, hF3⟩ := bind_inv hF2
  refine cw_block ?_
  refine cw_loop (fun k f w => ∃ (out : List TGate) (i : Int) (B2 : Option Addr) (c3 : Nat), FF f [(1, pt (aD b) 0), (2, pt (aD b1) 0), (4, .slice B2 out.length c3), (5, vi i)] ∧ ST w0 [] w [⟨aD b, 26, [vi c.Qubits, .slice B c.Gates.length c1], 2⟩, ⟨aD b1, 26, [vi 0, .slice none 0 0], 2⟩, ⟨B2, 67, (out.flatMap eN1), c3 * 3⟩] [⟨B, (c.Gates.flatMap eN1)⟩] ∧ whX (F_impl_Inverse_l1 c) k (out, i) = some z) fuel ⟨[], (i64.wrap ((c.Gates.length : Int) - 1)), aD b2, 0, (FF.cons rfl (FF.cons rfl (FF.cons rfl (FF.cons rfl FF.nil)))), (hS6.sel [0, 1, 2] rfl rfl), hz⟩ ?_
  rintro k_ f w ⟨out, i, B2, c3, hf, hS7, hL⟩
  obtain ⟨k_1, y, rfl, hb1, hL1⟩ := whX_go hL
  unfold F_impl_Inverse_l1 at hb1
  refine cw_seq (cw_seq (cw_region ?_))
  refine sQ 18 (Y_move (v := vi i) rfl (hf.get 5 3 rfl)) ?_
  refine sQ 19 (Y_ge (k := .i64) (a := i) (b := 0) rfl rfl rfl) (rw_nil ?_)
  refine cw_cond (b := (decide (0 ≤ i))) rfl (fun hb2 => ?_) (fun hb2 => ?_)
  ·skip
   have hF4 := ct hb1 hb2
   refine cw_skip (cw_seq (cw_block (cw_seq (cw_region ?_))))
   refine sQ 23 (Y_fieldAddr (B := aD b) (i := 0) (s := 0) k_fd_26_1_1_24 k_sz_24_1 rfl (hf.get 1 0 rfl)) ?_
   refine sQ 24 (Y_load1 (B := aD b) (i := 1) (cs := [vi c.Qubits, .slice B c.Gates.length c1]) (v := .slice B c.Gates.length c1) k_sc_24 rfl rfl (hS7.cf (i := 0) rfl) rfl) ?_
   refine sQ 25 (Y_move (v := vi i) rfl (hf.get 5 3 rfl)) ?_
   obtain ⟨x, hx, hF4⟩ := bind_inv hF4
   refine sQ 26 (Y_index (B := B) (m := c.Gates.length) (c := c1) (k := .i64) (i := i) k_sl_24_67 k_sz_67_3 rfl rfl rfl (gi_isSome enc_Gate_len rfl (hS7.rf (i := 0) rfl) hx) (getI_nn hx) (getI_ltI hx rfl)) ?_
   refine sQ 27 (Y_loadA (B := B) (i := i.toNat * 3) (cs := (c.Gates.flatMap eN1)) (vs := [vi x.Kind, vi x.A, vi x.B]) k_ag_67 k_sz_67_3 rfl rfl (hS7.rf (i := 0) rfl) (enc_Gate_len x) (gi_seg enc_Gate_len hx)) ?_
   obtain ⟨⟨r_3, r_4, r_5⟩, hc1, hF4⟩ := bind_inv hF4
   refine sc 28 rfl rfl (Yc_func (g := 41) (vs := [.agg #[vi x.Kind, vi x.A, vi x.B]]) k_call_41 rfl (mc rfl mn) (c_impl_InverseGate x _  (hS7.inn0 [] rfl) hc1)) ?_
   rintro _ w_5 ⟨rfl, hd1⟩
   have hS8 := hS7.out00 hd1
   refine sQ 22 (Y_move (v := .tuple #[.agg #[vi r_3.Kind, vi r_3.A, vi r_3.B], vi r_4, .bool r_5]) rfl rfl) ?_
   refine sQ 29 (Y_extract (v := .agg #[vi r_3.Kind, vi r_3.A, vi r_3.B]) rfl rfl rfl) ?_
   refine sQ 30 (Y_extract (v := vi r_4) rfl rfl rfl) ?_
   refine sQ 31 (Y_extract (v := .bool r_5) rfl rfl rfl) ?_
   refine sS 6 (Ys_alloc (T := 67) (cs := [vi 0, vi 0, vi 0]) (m := 3) hS8 k_zero_67 rfl rfl rfl) ?_
   rintro _ w_6 ⟨b3, rfl, hS9⟩
   refine s0 (Ys_store (i := 3) (s := 3) (B := aD b3) (T' := 67) (v := .agg #[vi r_3.Kind, vi r_3.A, vi r_3.B]) (vs := [vi r_3.Kind, vi r_3.A, vi r_3.B]) (k := 0) (cs' := [vi r_3.Kind, vi r_3.A, vi r_3.B]) hS9 k_sz_67_3 rfl rfl rfl rfl rfl rfl rfl (lB rfl) rfl rfl) ?_
   rintro _ w_7 ⟨rfl, hS10⟩
   refine sQ 7 (Y_assign (v := vi r_4) rfl rfl) ?_
   refine sQ 8 (Y_assign (v := .bool r_5) rfl rfl) (rw_nil (cw_seq (cw_region ?_)))
   refine sQ 32 (Y_move (v := vi r_4) rfl rfl) ?_
   refine sQ 33 (Y_move (v := vi 0) rfl rfl) (rw_nil ?_)
   obtain ⟨hN, hF4⟩ := chk_inv hF4
   obtain ⟨z1, hz1, hF5⟩ := bind_inv hF4
   refine cw_block ?_
   refine cw_loop (fun k f w => ∃ (i1 : Nat) (out1 : List TGate) (B3 : Option Addr) (c4 : Nat), FF f [(1, pt (aD b) 0), (2, pt (aD b1) 0), (4, .slice B3 out1.length c4), (5, vi i), (6, pt (aD b3) 0), (32, vi r_4), (33, vi (i1 : Int))] ∧ ST w0 [] w [⟨aD b, 26, [vi c.Qubits, .slice B c.Gates.length c1], 2⟩, ⟨aD b1, 26, [vi 0, .slice none 0 0], 2⟩, ⟨B3, 67, (out1.flatMap eN1), c4 * 3⟩, ⟨aD b3, 67, [vi r_3.Kind, vi r_3.A, vi r_3.B], 3⟩] [⟨B, (c.Gates.flatMap eN1)⟩] ∧ i1 + k = r_4.toNat ∧ forN (F_impl_Inverse_l2 r_3) k i1 out1 = some z1) r_4.toNat ⟨0, out, B2, c3, (FF.cons (hf.get 1 0 rfl) (FF.cons (hf.get 2 1 rfl) (FF.cons (hf.get 4 2 rfl) (FF.cons (hf.get 5 3 rfl) (FF.cons rfl (FF.cons rfl (FF.cons rfl FF.nil))))))), (hS10.sel [0, 1, 2, 3] rfl rfl), Nat.zero_add _, hz1⟩ ?_
   rintro k_2 f w ⟨i1, out1, B3, c4, hf1, hS11, hik1, hL2⟩
   refine cw_seq (cw_region ?_)
   refine sQ 34 (Y_lt (k := .i64) (a := (i1 : Int)) (b := r_4) rfl (hf1.get 33 6 rfl) (hf1.get 32 5 rfl)) (rw_nil (cw_seq ?_))
   refine cw_cond (b := (decide ((i1 : Int) < r_4))) rfl (fun hlt => ?_) (fun hlt => ?_)
   ·skip
    have hlt1 : i1 < r_4.toNat := by have h := of_decide_eq_true hlt; omega
    obtain ⟨k_3, rfl⟩ : ∃ k2, k_2 = k2 + 1 := ⟨k_2 - 1, by omega⟩
    obtain ⟨y1, hb3, hL3⟩ := forN_go hL2
    unfold F_impl_Inverse_l2 at hb3
    refine cw_skip (cw_seq (cw_block (cw_region ?_)))
    refine sQ 35 (Y_move (v := .slice B3 out1.length c4) rfl (hf1.get 4 2 rfl)) ?_
    refine sQ 36 (Y_loadA (B := aD b3) (i := 0) (cs := [vi r_3.Kind, vi r_3.A, vi r_3.B]) (vs := [vi r_3.Kind, vi r_3.A, vi r_3.B]) k_ag_67 k_sz_67_3 rfl (hf1.get 6 4 rfl) (hS11.cf (i := 3) rfl) rfl rfl) ?_
    refine sS 37 (Ys_bslice (s := 3) (len := 1) (vs := [(0, .agg #[vi r_3.Kind, vi r_3.A, vi r_3.B])]) (cs := [vi r_3.Kind, vi r_3.A, vi r_3.B]) (zs := [vi 0, vi 0, vi 0]) (m := 3) hS11 k_sl_24_67 k_sz_67_3 k_zc_67 rfl (mpc rfl mpn) rfl rfl rfl (by kernel_rfl) (by kernel_rfl) rfl) ?_
    rintro _ w_8 ⟨b4, rfl, hS12⟩
    obtain ⟨hap, hb3⟩ := chk_inv hb3
    refine sS 38 (Ys_append (s := 3) (by' := 24) (i := 2) (nn := out1.length) (c := c4) (k := 1) (len := (out1 ++ [r_3]).length) (B := B3) (xs := ([r_3].flatMap eN1)) (cs' := ((out1 ++ [r_3]).flatMap eN1)) hS12 k_sl_24_67 k_sz_67_3 k_by_67_24 k_zero_67 rfl (by decide) rfl rfl rfl rfl (fm_lenn (l := out1) enc_Gate_len rfl) rfl (hS12.cf (i := 4) rfl) (fm_lenn (l := [r_3]) enc_Gate_len rfl) (fm_one' (enc := eN1) enc_Gate_one [r_3]) (by have := hap; omega) (by have := hap; simp only [maxLen]; omega) (fm_app _ _) (app_len (l := out1) (l' := [r_3]) rfl rfl)) ?_
    rintro _ w_9 ⟨B4, c5, rfl, hS13⟩
    refine sQ 4 (Y_assign (v := .slice B4 ((out1 ++ [r_3]).length) c5) rfl rfl) (rw_nil (cw_region ?_))
    refine sQ 39 (Y_add (k := .i64) (a := (i1 : Int)) (b := 1) rfl (hf1.get 33 6 rfl) rfl) ?_
    refine sQ 33 (Y_move (v := vi (i64.wrap ((i1 : Int) + 1))) rfl rfl) (rw_nil ?_)
    obtain rfl := some_inj hb3
    exact ⟨k_3, Nat.lt_succ_self _, i1 + 1, (out1 ++ [r_3]), B4, c5, (FF.cons (hf1.get 1 0 rfl) (FF.cons (hf1.get 2 1 rfl) (FF.cons rfl (FF.cons (hf1.get 5 3 rfl) (FF.cons (hf1.get 6 4 rfl) (FF.cons (hf1.get 32 5 rfl) (FF.cons (congrArg (Value.int .i64) (wr_succ hlt1 hN)) FF.nil))))))), (hS13.sel [0, 1, 2, 3] rfl rfl), (by omega), hL3⟩
   ·skip
    obtain rfl : k_2 = 0 := by have h := of_decide_eq_false hlt; omega
    refine cw_exit rfl ?_
    obtain rfl := some_inj hL2
    refine cw_region ?_
    refine sQ 20 (Y_move (v := vi i) rfl (hf1.get 5 3 rfl)) ?_
    refine sQ 21 (Y_sub (k := .i64) (a := i) (b := 1) rfl rfl rfl) ?_
    refine sQ 5 (Y_assign (v := vi (i64.wrap (i - 1))) rfl rfl) (rw_nil ?_)
    obtain rfl := some_inj hF5
    exact ⟨k_1, Nat.lt_succ_self _, out1, (i64.wrap (i - 1)), B3, c4, (FF.cons (hf1.get 1 0 rfl) (FF.cons (hf1.get 2 1 rfl) (FF.cons (hf1.get 4 2 rfl) (FF.cons rfl FF.nil)))), (hS11.sel [0, 1, 2] rfl rfl), hL1⟩
  ·skip
   have hF6 := cf' hb1 hb2
   refine cw_exit rfl ?_
   obtain rfl := some_inj hF6
   obtain rfl := some_inj hL1
   refine cw_seq (cw_region ?_)
   refine sQ 40 (Y_fieldAddr (B := aD b) (i := 0) (s := 0) k_fd_26_0_0_3 k_sz_3_1 rfl (hf.get 1 0 rfl)) ?_
   refine sQ 41 (Y_load1 (B := aD b) (i := 0) (cs := [vi c.Qubits, .slice B c.Gates.length c1]) (v := vi c.Qubits) k_sc_3 rfl rfl (hS7.cf (i := 0) rfl) rfl) ?_
   refine sQ 42 (Y_move (v := .slice B2 out.length c3) rfl (hf.get 4 2 rfl)) ?_
   obtain ⟨⟨r_6, r_7⟩, hc2, hF3⟩ := bind_inv hF3
   refine sc 43 rfl rfl (Yc_func (g := 42) (vs := [vi c.Qubits, .slice B2 out.length c3]) k_call_42 rfl (mc rfl (mc rfl mn)) (c_impl_circuitIf c.Qubits out B2 c3 out.length _ rfl (hS7.inn0 [(false, 2)] rfl) hc2)) ?_
   rintro _ w_10 ⟨B5, c6, rfl, hd2⟩
   have hS14 := hS7.out0 hd2
   refine sQ 44 (Y_extract (v := .agg #[vi r_6.Qubits, .slice B5 r_6.Gates.length c6]) rfl rfl rfl) ?_
   refine sQ 45 (Y_extract (v := .bool r_7) rfl rfl rfl) ?_
   refine s0 (Ys_store (i := 1) (s := 2) (B := aD b1) (T' := 26) (v := .agg #[vi r_6.Qubits, .slice B5 r_6.Gates.length c6]) (vs := [vi r_6.Qubits, .slice B5 r_6.Gates.length c6]) (k := 0) (cs' := [vi r_6.Qubits, .slice B5 r_6.Gates.length c6]) hS14 k_sz_26_2 rfl (hf.get 2 1 rfl) rfl rfl rfl rfl rfl (lB rfl) rfl rfl) ?_
   rintro _ w_11 ⟨rfl, hS15⟩
   refine sQ 3 (Y_assign (v := .bool r_7) rfl rfl) (rw_nil (cw_ret ?_))
   obtain ⟨rfl, rfl⟩ := pr2 (some_inj hF3)
   exact ret2 Tryz.results12 (v1 := .agg #[vi r_6.Qubits, .slice B5 r_6.Gates.length c6]) (resAt_cellA (B := aD b1) (i := 0) (cs := [vi r_6.Qubits, .slice B5 r_6.Gates.length c6]) (vs := [vi r_6.Qubits, .slice B5 r_6.Gates.length c6]) (hf.get 2 1 rfl) k_ag_26 k_sz_26_2 (hS15.cf (i := 1) rfl) rfl rfl) (v2 := .bool r_7) (resAt_tmp rfl) ⟨B5, c6, rfl, (hS15.sN [3])⟩

theorem c_slices_Concat_impl_Gate_impl_Gate (slices : List (List TGate)) (B : Option Addr) (c n : Nat) (D : List (Hd × (List TGate))) (w0 : World) (hn : slices.length = n) (hD : D.map Prod.snd = slices) (hS : ST w0 [] w0 [] (⟨B, (D.flatMap encD_SGate)⟩ :: ((D.flatMap rowD_SGate) ++ []))) {r_ : List TGate} (hF : F_slices_Concat_impl_Gate_impl_Gate slices = some r_) :
  CV Tryz.prog 43 #[.slice B n c] w0 (fun v w' => ∃ (B1 : Option Addr) (c1 : Nat), v = .slice B1 r_.length c1 ∧ ST w0 [] w' [⟨B1, 67, (r_.flatMap eN1), c1 * 3⟩] []) := by
 subst hn
 unfold F_slices_Concat_impl_Gate_impl_Gate at hF
 refine cv_of_cw 36 Tryz.func43 rfl Tryz.ntmps43 rfl ?_
 refine cw_seq (cw_region ?_)
 refine sQ 2 (Y_assign (v := .slice none 0 0) rfl rfl) (rw_nil (cw_seq (cw_region ?_)))
 refine sQ 3 (Y_assign (v := vi 0) rfl rfl) (rw_nil (cw_seq (cw_seq (cw_region ?_))))
 refine sQ 9 (Y_move (v := .slice B slices.length c) rfl rfl) ?_
 refine sQ 10 (Y_len (B := B) (m := slices.length) (c := c) k_sl_125_24 rfl rfl) ?_
 refine sQ 11 (Y_move (v := vi 0) rfl rfl) (rw_nil ?_)
 obtain ⟨hN, hF⟩ := chk_inv hF
 obtain ⟨z, hz, hF1⟩ := bind_inv hF
 refine cw_block ?_
 refine cw_loop (fun k f w => ∃ (i : Nat) (size : Int), FF f [(0, .slice B slices.length c), (3, vi size), (9, .slice B slices.length c), (10, vi (slices.length : Int)), (11, vi (i : Int))] ∧ ST w0 [] w [] (⟨B, (D.flatMap encD_SGate)⟩ :: ((D.flatMap rowD_SGate) ++ [])) ∧ i + k = slices.length ∧ forN (F_slices_Concat_impl_Gate_impl_Gate_l1 slices) k i size = some z) slices.length ⟨0, 0, (FF.cons rfl (FF.cons rfl (FF.cons rfl (FF.cons rfl (FF.cons rfl FF.nil))))), (hS.sel [] rfl rfl), Nat.zero_add _, hz⟩ ?_
 rintro k_ f w ⟨i, size, hf, hS1, hik, hL⟩
 refine cw_seq (cw_region ?_)
 refine sQ 12 (Y_lt (k := .i64) (a := (i : Int)) (b := (slices.length : Int)) rfl (hf.get 11 4 rfl) (hf.get 10 3 rfl)) (rw_nil (cw_seq ?_))
 refine cw_cond (b := (decide ((i : Int) < (slices.length : Int)))) rfl (fun hlt => ?_) (fun hlt => ?_)
 ·skip
  have hlt1 : i < slices.length := by have h := of_decide_eq_true hlt; omega
  obtain ⟨k_1, rfl⟩ : ∃ k2, k_ = k2 + 1 := ⟨k_ - 1, by omega⟩
  obtain ⟨y, hb, hL1⟩ := forN_go hL
  unfold F_slices_Concat_impl_Gate_impl_Gate_l1 at hb
  refine cw_skip (cw_seq (cw_block (cw_seq (cw_region ?_))))
  obtain ⟨x, hx, hb⟩ := bind_inv hb
  obtain ⟨⟨B2, c2⟩, hp⟩ := getI_snd hD hx
  refine sQ 13 (Y_index (B := B) (m := slices.length) (c := c) (k := .i64) (i := (i : Int)) k_sl_125_24 k_sz_24_1 rfl (hf.get 9 2 rfl) (hf.get 11 4 rfl) (gi_isSome encD_SGate_len rfl (hS1.rf (i := 0) rfl) hp) (getI_nn hp) (getI_ltI hp (dl_len hD))) ?_
  have hm : (⟨B2, (x.flatMap eN1)⟩ : Ro) ∈ ((⟨B, (D.flatMap encD_SGate)⟩ :: ((D.flatMap rowD_SGate) ++ [])) : List Ro) := app_mem (fun r_ (h : r_ ∈ ((D.flatMap rowD_SGate) : List Ro)) => mOd (i := 1) (show r_ ∈ ((((D.flatMap rowD_SGate) ++ [])) : List Ro) from mAl _ h)) (row_mem (rw_ := rowD_SGate) hp _ (mem_at (i := 0) rfl))
  have hS2 : ST w0 [] _ [] (⟨B2, (x.flatMap eN1)⟩ :: ⟨B, (D.flatMap encD_SGate)⟩ :: ((D.flatMap rowD_SGate) ++ [])) := ST.subR hS1 (subc hm (fun _ h => h))
  refine sQ 14 (Y_load1 (B := B) (i := (i : Int).toNat * 1) (cs := (D.flatMap encD_SGate)) (v := .slice B2 x.length c2) k_sc_24 rfl rfl (hS2.rf (i := 1) rfl) (gi_at0 encD_SGate_len hp rfl)) ?_
  refine sQ 5 (Y_assign (v := .slice B2 x.length c2) rfl rfl) (rw_nil (cw_seq (cw_region ?_)))
  refine sQ 15 (Y_move (v := vi size) rfl (hf.get 3 1 rfl)) ?_
  refine sQ 16 (Y_move (v := .slice B2 x.length c2) rfl rfl) ?_
  refine sQ 17 (Y_len (B := B2) (m := x.length) (c := c2) k_sl_24_67 rfl rfl) ?_
  refine sQ 18 (Y_add (k := .i64) (a := size) (b := (x.length : Int)) rfl rfl rfl) ?_
  refine sQ 3 (Y_assign (v := vi (i64.wrap (size + (x.length : Int)))) rfl rfl) (rw_nil (cw_seq (cw_region ?_)))
  refine sQ 19 (Y_move (v := vi (i64.wrap (size + (x.length : Int)))) rfl rfl) ?_
  refine sQ 20 (Y_lt (k := .i64) (a := (i64.wrap (size + (x.length : Int)))) (b := 0) rfl rfl rfl) (rw_nil ?_)
  refine cw_cond (b := (decide ((i64.wrap (size + (x.length : Int))) < 0))) rfl (fun hb1 => ?_) (fun hb1 => ?_)
  ·skip
   have hF2 := ct hb hb1
   cases hF2
  ·skip
   have hF3 := cf' hb hb1
   refine cw_skip (cw_region ?_)
   refine sQ 22 (Y_add (k := .i64) (a := (i : Int)) (b := 1) rfl (hf.get 11 4 rfl) rfl) ?_
   refine sQ 11 (Y_move (v := vi (i64.wrap ((i : Int) + 1))) rfl rfl) (rw_nil ?_)
   obtain rfl := some_inj hF3
   have hS3 : ST w0 [] _ [] (⟨B, (D.flatMap encD_SGate)⟩ :: ((D.flatMap rowD_SGate) ++ [])) := ST.subR hS2 (subc (mem_at (i := 1) rfl) (suba (fun r_ (h : r_ ∈ ((D.flatMap rowD_SGate) : List Ro)) => mOd (i := 2) (show r_ ∈ ((((D.flatMap rowD_SGate) ++ [])) : List Ro) from mAl _ h)) (fun _ h => by cases h)))
   exact ⟨k_1, Nat.lt_succ_self _, i + 1, (i64.wrap (size + (x.length : Int))), (FF.cons (hf.get 0 0 rfl) (FF.cons rfl (FF.cons (hf.get 9 2 rfl) (FF.cons (hf.get 10 3 rfl) (FF.cons (congrArg (Value.int .i64) (wr_succ hlt1 hN)) FF.nil))))), (hS3.sel [] rfl rfl), (by omega), hL1⟩
 ·skip
  obtain rfl : k_ = 0 := by have h := of_decide_eq_false hlt; omega
  refine cw_exit rfl ?_
  obtain rfl := some_inj hL
  refine cw_seq (cw_region ?_)
  refine sQ 23 (Y_move (v := vi size) rfl (hf.get 3 1 rfl)) ?_
  obtain ⟨hmk, hF1⟩ := chk_inv hF1
  refine sc 24 rfl rfl (Yc_func (g := 88) (vs := [.slice none 0 0, vi size]) k_call_88 rfl (mc rfl (mc rfl mn)) (grow_c Tryz.grow88 88 67 rfl rfl size k_sz_67_3 k_by_67_24 k_zero_67 rfl (by decide) (by decide) hmk hS1)) ?_
  rintro _ w_ ⟨B3, c3, rfl, hd⟩
  refine sQ 6 (Y_assign (v := .slice B3 0 c3) rfl rfl) (rw_nil (cw_seq (cw_seq (cw_region ?_))))
  refine sQ 25 (Y_move (v := .slice B slices.length c) rfl (hf.get 0 0 rfl)) ?_
  refine sQ 26 (Y_len (B := B) (m := slices.length) (c := c) k_sl_125_24 rfl rfl) ?_
  refine sQ 27 (Y_move (v := vi 0) rfl rfl) (rw_nil ?_)
  obtain ⟨hN1, hF1⟩ := chk_inv hF1
  obtain ⟨z1, hz1, hF4⟩ := bind_inv hF1
  refine cw_block ?_
  refine cw_loop (fun k f w => ∃ (i1 : Nat) (newslice : List TGate) (B4 : Option Addr) (c4 : Nat), FF f [(6, .slice B4 newslice.length c4), (25, .slice B slices.length c), (26, vi (slices.length : Int)), (27, vi (i1 : Int))] ∧ ST w0 [] w [⟨B4, 67, (newslice.flatMap eN1), c4 * 3⟩] (⟨B, (D.flatMap encD_SGate)⟩ :: ((D.flatMap rowD_SGate) ++ [])) ∧ i1 + k = slices.length ∧ forN (F_slices_Concat_impl_Gate_impl_Gate_l2 slices) k i1 newslice = some z1) slices.length ⟨0, ([] : List TGate), B3, c3, (FF.cons rfl (FF.cons rfl (FF.cons rfl (FF.cons rfl FF.nil)))), (hd.sel [0] rfl rfl), Nat.zero_add _, hz1⟩ ?_
  rintro k_2 f w ⟨i1, newslice, B4, c4, hf1, hS4, hik1, hL2⟩
  refine cw_seq (cw_region ?_)
  refine sQ 28 (Y_lt (k := .i64) (a := (i1 : Int)) (b := (slices.length : Int)) rfl (hf1.get 27 3 rfl) (hf1.get 26 2 rfl)) (rw_nil (cw_seq ?_))
  refine cw_cond (b := (decide ((i1 : Int) < (slices.length : Int)))) rfl (fun hlt2 => ?_) (fun hlt2 => ?_)
  ·skip
   have hlt3 : i1 < slices.length := by have h := of_decide_eq_true hlt2; omega
   obtain ⟨k_3, rfl⟩ : ∃ k2, k_2 = k2 + 1 := ⟨k_2 - 1, by omega⟩
   obtain ⟨y1, hb2, hL3⟩ := forN_go hL2
   unfold F_slices_Concat_impl_Gate_impl_Gate_l2 at hb2
   refine cw_skip (cw_seq (cw_block (cw_seq (cw_region ?_))))
   obtain ⟨x1, hx1, hb2⟩ := bind_inv hb2
   obtain ⟨⟨B5, c5⟩, hp1⟩ := getI_snd hD hx1
   refine sQ 29 (Y_index (B := B) (m := slices.length) (c := c) (k := .i64) (i := (i1 : Int)) k_sl_125_24 k_sz_24_1 rfl (hf1.get 25 1 rfl) (hf1.get 27 3 rfl) (gi_isSome encD_SGate_len rfl (hS4.rf (i := 0) rfl) hp1) (getI_nn hp1) (getI_ltI hp1 (dl_len hD))) ?_
   have hm1 : (⟨B5, (x1.flatMap eN1)⟩ : Ro) ∈ ((⟨B, (D.flatMap encD_SGate)⟩ :: ((D.flatMap rowD_SGate) ++ [])) : List Ro) := app_mem (fun r_ (h : r_ ∈ ((D.flatMap rowD_SGate) : List Ro)) => mOd (i := 1) (show r_ ∈ ((((D.flatMap rowD_SGate) ++ [])) : List Ro) from mAl _ h)) (row_mem (rw_ := rowD_SGate) hp1 _ (mem_at (i := 0) rfl))
   have hS5 : ST w0 [] _ [⟨B4, 67, (newslice.flatMap eN1), c4 * 3⟩] (⟨B5, (x1.flatMap eN1)⟩ :: ⟨B, (D.flatMap encD_SGate)⟩ :: ((D.flatMap rowD_SGate) ++ [])) := ST.subR hS4 (subc hm1 (fun _ h => h))
   refine sQ 30 (Y_load1 (B := B) (i := (i1 : Int).toNat * 1) (cs := (D.flatMap encD_SGate)) (v := .slice B5 x1.length c5) k_sc_24 rfl rfl (hS5.rf (i := 1) rfl) (gi_at0 encD_SGate_len hp1 rfl)) ?_
   refine sQ 8 (Y_assign (v := .slice B5 x1.length c5) rfl rfl) (rw_nil (cw_region ?_))
   refine sQ 31 (Y_move (v := .slice B4 newslice.length c4) rfl (hf1.get 6 0 rfl)) ?_
   refine sQ 32 (Y_move (v := .slice B5 x1.length c5) rfl rfl) ?_
   obtain ⟨hap, hb2⟩ := chk_inv hb2
   refine sS 33 (Ys_append (s := 3) (by' := 24) (i := 0) (nn := newslice.length) (c := c4) (k := x1.length) (len := (newslice ++ x1).length) (B := B4) (xs := (x1.flatMap eN1)) (cs' := ((newslice ++ x1).flatMap eN1)) hS5 k_sl_24_67 k_sz_67_3 k_by_67_24 k_zero_67 rfl (by decide) rfl rfl rfl rfl (fm_lenn (l := newslice) enc_Gate_len rfl) rfl (hS5.rf (i := 0) rfl) (fm_lenn (l := x1) enc_Gate_len rfl) (fm_one' (enc := eN1) enc_Gate_one x1) (by have := hap; omega) (by have := hap; simp only [maxLen]; omega) (fm_app _ _) (app_len (l := newslice) (l' := x1) rfl rfl)) ?_
   rintro _ w_1 ⟨B6, c6, rfl, hS6⟩
   refine sQ 6 (Y_assign (v := .slice B6 ((newslice ++ x1).length) c6) rfl rfl) (rw_nil (cw_region ?_))
   refine sQ 34 (Y_add (k := .i64) (a := (i1 : Int)) (b := 1) rfl (hf1.get 27 3 rfl) rfl) ?_
   refine sQ 27 (Y_move (v := vi (i64.wrap ((i1 : Int) + 1))) rfl rfl) (rw_nil ?_)
   obtain rfl := some_inj hb2
   have hS7 : ST w0 [] _ [⟨B6, 67, ((newslice ++ x1).flatMap eN1), c6 * 3⟩] (⟨B, (D.flatMap encD_SGate)⟩ :: ((D.flatMap rowD_SGate) ++ [])) := ST.subR hS6 (subc (mem_at (i := 1) rfl) (suba (fun r_ (h : r_ ∈ ((D.flatMap rowD_SGate) : List Ro)) => mOd (i := 2) (show r_ ∈ ((((D.flatMap rowD_SGate) ++ [])) : List Ro) from mAl _ h)) (fun _ h => by cases h)))
   exact ⟨k_3, Nat.lt_succ_self _, i1 + 1, (newslice ++ x1), B6, c6, (FF.cons rfl (FF.cons (hf1.get 25 1 rfl) (FF.cons (hf1.get 26 2 rfl) (FF.cons (congrArg (Value.int .i64) (wr_succ hlt3 hN1)) FF.nil)))), (hS7.sel [0] rfl rfl), (by omega), hL3⟩
  ·skip
   obtain rfl : k_2 = 0 := by have h := of_decide_eq_false hlt2; omega
   refine cw_exit rfl ?_
   obtain rfl := some_inj hL2
   refine cw_seq (cw_region ?_)
   refine sQ 35 (Y_move (v := .slice B4 newslice.length c4) rfl (hf1.get 6 0 rfl)) ?_
   refine sQ 2 (Y_assign (v := .slice B4 newslice.length c4) rfl rfl) (rw_nil (cw_ret ?_))
   obtain rfl := some_inj hF4
   exact ret1 Tryz.results43 (v1 := .slice B4 newslice.length c4) (resAt_tmp rfl) ⟨B4, c4, rfl, (hS4.sN [0])⟩

theorem c_impl_Concat (a : TCircuit) (b : TCircuit) (B : Option Addr) (c n : Nat) (B1 : Option Addr) (c1 n1 : Nat) (w0 : World) (hn : a.Gates.length = n) (hn1 : b.Gates.length = n1) (hS : ST w0 [] w0 [] [⟨B, (a.Gates.flatMap eN1)⟩, ⟨B1, (b.Gates.flatMap eN1)⟩]) {r_ : TCircuit} {r_1 : Bool} (hF : F_impl_Concat a b = some (r_, r_1)) :
  CV Tryz.prog 13 #[.agg #[vi a.Qubits, .slice B n c], .agg #[vi b.Qubits, .slice B1 n1 c1]] w0 (fun v w' => ∃ (B2 : Option Addr) (c2 : Nat), v = .tuple #[.agg #[vi r_.Qubits, .slice B2 r_.Gates.length c2], .bool r_1] ∧ ST w0 [] w' [⟨B2, 67, (r_.Gates.flatMap eN1), c2 * 3⟩] []) := by
 subst hn
 subst hn1
 unfold F_impl_Concat at hF
 refine cv_of_cw 33 Tryz.func13 rfl Tryz.ntmps13 rfl ?_
 refine cw_seq (cw_region ?_)
 refine sS 2 (Ys_box (T := 26) (v := .agg #[vi a.Qubits, .slice B a.Gates.length c]) (cs := [vi a.Qubits, .slice B a.Gates.length c]) (m := 2) hS rfl rfl rfl rfl) ?_
 rintro _ w_ ⟨b1, rfl, hS1⟩
 refine sS 3 (Ys_box (T := 26) (v := .agg #[vi b.Qubits, .slice B1 b.Gates.length c1]) (cs := [vi b.Qubits, .slice B1 b.Gates.length c1]) (m := 2) hS1 rfl rfl rfl rfl) ?_
 rintro _ w_1 ⟨b2, rfl, hS2⟩
 refine sS 4 (Ys_alloc (T := 26) (cs := [vi 0, .slice none 0 0]) (m := 2) hS2 k_zero_26 rfl rfl rfl) ?_
 rintro _ w_2 ⟨b3, rfl, hS3⟩
 refine sQ 5 (Y_assign (v := .bool false) rfl rfl) (rw_nil (cw_seq (cw_seq (cw_region ?_))))
 refine sQ 6 (Y_loadA (B := aD b1) (i := 0) (cs := [vi a.Qubits, .slice B a.Gates.length c]) (vs := [vi a.Qubits, .slice B a.Gates.length c]) k_ag_26 k_sz_26_2 rfl rfl (hS3.cf (i := 0) rfl) rfl rfl) ?_
 obtain ⟨r_2, hc, hF⟩ := bind_inv hF
 refine sc 7 rfl rfl (Yc_func (g := 31) (vs := [.agg #[vi a.Qubits, .slice B a.Gates.length c]]) k_call_31 rfl (mc rfl mn) (c_impl_IsValidCircuit a B c a.Gates.length _ rfl (hS3.inn0 [(true, 0)] rfl) hc)) ?_
 rintro _ w_3 ⟨rfl, hd⟩
 have hS4 := hS3.out00 hd
 refine sQ 8 (Y_not (p := r_2) rfl rfl) ?_
 refine sQ 9 (Y_move (v := .bool (!r_2)) rfl rfl) ?_
 refine sgq 10 (B := (!(!r_2))) (v := .agg #[vi b.Qubits, .slice B1 b.Gates.length c1]) rfl rfl (uF_ 9) (fun hg => (Y_loadA (B := aD b2) (i := 0) (cs := [vi b.Qubits, .slice B1 b.Gates.length c1]) (vs := [vi b.Qubits, .slice B1 b.Gates.length c1]) k_ag_26 k_sz_26_2 rfl rfl (hS4.cf (i := 1) rfl) rfl rfl)) ?_
 obtain ⟨r_3, hc1, hF⟩ := bind_inv hF
 refine sgc 11 (B := (!(!r_2))) (v := .bool r_3) (F := hS4.fn) rfl rfl (uF_ 9) hS4 (fun hg1 => (Yc_func (g := 31) (vs := [.agg #[vi b.Qubits, .slice B1 b.Gates.length c1]]) k_call_31 rfl (mc (gv_of (v := .agg #[vi b.Qubits, .slice B1 b.Gates.length c1]) hg1) mn) (CV.mono (c_impl_IsValidCircuit b B1 c1 b.Gates.length _ rfl (hS4.inn0 [(true, 1)] rfl) (gb_inv hc1 hg1)) (by rintro _ _ ⟨rfl, h⟩; exact ⟨rfl, hS4.out00 h⟩)))) ?_
 rintro w_4 hS5
 refine sgq 12 (B := (!(!r_2))) (v := .bool (!r_3)) rfl rfl (uF_ 9) (fun hg2 => (Y_not (p := r_3) rfl (gv_of (v := .bool r_3) hg2))) ?_
 refine sQ 13 (Y_or (b := (!r_2)) (z := (!r_3)) rfl rfl rfl rfl) ?_
 refine sQ 14 (Y_move (v := .bool ((!r_2) || (!r_3))) rfl rfl) ?_
 refine sgq 15 (B := (!((!r_2) || (!r_3)))) (v := pt (aD b1) 0) rfl rfl (uF_ 14) (fun hg3 => (Y_fieldAddr (B := aD b1) (i := 0) (s := 0) k_fd_26_0_0_3 k_sz_3_1 rfl rfl)) ?_
 refine sgq 16 (B := (!((!r_2) || (!r_3)))) (v := vi a.Qubits) rfl rfl (uF_ 14) (fun hg4 => (Y_load1 (B := aD b1) (i := 0) (cs := [vi a.Qubits, .slice B a.Gates.length c]) (v := vi a.Qubits) k_sc_3 rfl (gv_of (v := pt (aD b1) 0) hg4) (hS5.cf (i := 0) rfl) rfl)) ?_
 refine sgq 17 (B := (!((!r_2) || (!r_3)))) (v := pt (aD b2) 0) rfl rfl (uF_ 14) (fun hg5 => (Y_fieldAddr (B := aD b2) (i := 0) (s := 0) k_fd_26_0_0_3 k_sz_3_1 rfl rfl)) ?_
 refine sgq 18 (B := (!((!r_2) || (!r_3)))) (v := vi b.Qubits) rfl rfl (uF_ 14) (fun hg6 => (Y_load1 (B := aD b2) (i := 0) (cs := [vi b.Qubits, .slice B1 b.Gates.length c1]) (v := vi b.Qubits) k_sc_3 rfl (gv_of (v := pt (aD b2) 0) hg6) (hS5.cf (i := 1) rfl) rfl)) ?_
 refine sgq 19 (B := (!((!r_2) || (!r_3)))) (v := .bool (a.Qubits != b.Qubits)) rfl rfl (uF_ 14) (fun hg7 => (Y_ne (k := .i64) (a := a.Qubits) (b := b.Qubits) rfl (gv_of (v := vi a.Qubits) hg7) (gv_of (v := vi b.Qubits) hg7))) ?_
 refine sQ 20 (Y_or (b := ((!r_2) || (!r_3))) (z := (a.Qubits != b.Qubits)) rfl rfl rfl rfl) (rw_nil ?_)
 refine cw_cond (b := (((!r_2) || (!r_3)) || (a.Qubits != b.Qubits))) rfl (fun hb => ?_) (fun hb => ?_)
 ·skip
  have hF1 := ct hF hb
  refine cw_seq (cw_region ?_)
  refine sQ 21 (Y_buildS (zs := [vi 0, .slice none 0 0]) (vs := []) (cs := [vi 0, .slice none 0 0]) k_pl_26 k_zero_26 rfl mpn rfl) ?_
  refine s0 (Ys_store (i := 2) (s := 2) (B := aD b3) (T' := 26) (v := .agg #[vi 0, .slice none 0 0]) (vs := [vi 0, .slice none 0 0]) (k := 0) (cs' := [vi 0, .slice none 0 0]) hS5 k_sz_26_2 rfl rfl rfl rfl rfl rfl rfl (lB rfl) rfl rfl) ?_
  rintro _ w_5 ⟨rfl, hS6⟩
  refine sQ 5 (Y_assign (v := .bool false) rfl rfl) (rw_nil (cw_ret ?_))
  have hS7 := hS6.addNil 67
  obtain ⟨rfl, rfl⟩ := pr2 (some_inj hF1)
  exact ret2 Tryz.results13 (v1 := .agg #[vi 0, .slice none 0 0]) (resAt_cellA (B := aD b3) (i := 0) (cs := [vi 0, .slice none 0 0]) (vs := [vi 0, .slice none 0 0]) rfl k_ag_26 k_sz_26_2 (hS7.cf (i := 2) rfl) rfl rfl) (v2 := .bool false) (resAt_tmp rfl) ⟨none, 0, rfl, (hS7.sN [3])⟩
 ·skip
  have hF2 := cf' hF hb
  refine cw_skip (cw_seq ?_)
  obtain ⟨r_4, hc2, hF2⟩ := bind_inv hF2
  obtain ⟨⟨r_5, r_6⟩, hc3, hF2⟩ := bind_inv hF2
  refine ra_start (hS5.se [0, 1]).fn (by kernel_rfl) ?_
  have hS11 := hS5.drew
  refine rq 0 22 (v := pt (aD b1) 0) rfl (hS11.se [0, 1]) (fun w' hw' => (Y_fieldAddr (B := aD b1) (i := 0) (s := 0) k_fd_26_0_0_3 k_sz_3_1 rfl rfl)) ?_
  refine rq 1 23 (v := vi a.Qubits) rfl (hS11.se [0, 1]) (fun w' hw' => (Y_load1 (B := aD b1) (i := 0) (cs := [vi a.Qubits, .slice B a.Gates.length c]) (v := vi a.Qubits) k_sc_3 rfl rfl (ST.cf hw' (i := 0) rfl) rfl)) ?_
  refine rq 2 24 (v := pt (aD b1) 1) rfl (hS11.se [0, 1]) (fun w' hw' => (Y_fieldAddr (B := aD b1) (i := 0) (s := 0) k_fd_26_1_1_24 k_sz_24_1 rfl rfl)) ?_
  refine rq 3 25 (v := .slice B a.Gates.length c) rfl (hS11.se [0, 1]) (fun w' hw' => (Y_load1 (B := aD b1) (i := 1) (cs := [vi a.Qubits, .slice B a.Gates.length c]) (v := .slice B a.Gates.length c) k_sc_24 rfl rfl (ST.cf hw' (i := 0) rfl) rfl)) ?_
  refine rq 4 26 (v := pt (aD b2) 1) rfl (hS11.se [0, 1]) (fun w' hw' => (Y_fieldAddr (B := aD b2) (i := 0) (s := 0) k_fd_26_1_1_24 k_sz_24_1 rfl rfl)) ?_
  refine rq 5 27 (v := .slice B1 b.Gates.length c1) rfl (hS11.se [0, 1]) (fun w' hw' => (Y_load1 (B := aD b2) (i := 1) (cs := [vi b.Qubits, .slice B1 b.Gates.length c1]) (v := .slice B1 b.Gates.length c1) k_sc_24 rfl rfl (ST.cf hw' (i := 1) rfl) rfl)) ?_
  refine rA [6] ?_
  refine ra_s 28 (i := 6) rfl rfl rfl (Ys_bslice (s := 1) (len := 2) (vs := [(0, .slice B a.Gates.length c), (1, .slice B1 b.Gates.length c1)]) (cs := [.slice B a.Gates.length c, .slice B1 b.Gates.length c1]) (zs := [.slice none 0 0, .slice none 0 0]) (m := 2) hS11 k_sl_125_24 k_sz_24_1 k_zc_24 rfl (mpc rfl (mpc rfl mpn)) rfl rfl rfl (by kernel_rfl) (by kernel_rfl) rfl) ?_ ?_
  ·rintro _ w_6 ⟨b4, rfl, hS12⟩
   have hm1 : ∀ r ∈ (([((B, c), a.Gates), ((B1, c1), b.Gates)] : List (Hd × (List TGate))).flatMap rowD_SGate), r ∈ ([⟨B, (a.Gates.flatMap eN1)⟩, ⟨B1, (b.Gates.flatMap eN1)⟩] : List Ro) := (fsub_cons (subc (mem_at (i := 0) rfl) (fun _ h => by cases h)) (fsub_cons (subc (mem_at (i := 1) rfl) (fun _ h => by cases h)) fsub_nil))
   have ho1 : Org w0 [] [⟨B, (a.Gates.flatMap eN1)⟩, ⟨B1, (b.Gates.flatMap eN1)⟩] (([((B, c), a.Gates), ((B1, c1), b.Gates)] : List (Hd × (List TGate))).flatMap rowD_SGate) := (forg_cons (org_cons (org_mem (i := 0) rfl) org_nil) (forg_cons (org_cons (org_mem (i := 1) rfl) org_nil) forg_nil))
   have hS13 : ST w0 [] _ [⟨aD b1, 26, [vi a.Qubits, .slice B a.Gates.length c], 2⟩, ⟨aD b2, 26, [vi b.Qubits, .slice B1 b.Gates.length c1], 2⟩, ⟨aD b3, 26, [vi 0, .slice none 0 0], 2⟩, ⟨aD b4, 24, (([((B, c), a.Gates), ((B1, c1), b.Gates)] : List (Hd × (List TGate))).flatMap encD_SGate), 2 * 1⟩] (⟨B, (a.Gates.flatMap eN1)⟩ :: ⟨B1, (b.Gates.flatMap eN1)⟩ :: ((([((B, c), a.Gates), ((B1, c1), b.Gates)] : List (Hd × (List TGate))).flatMap rowD_SGate) ++ [])) := ST.subR hS12 (subc (mem_at (i := 0) rfl) (subc (mem_at (i := 1) rfl) (suba hm1 (fun _ h => by cases h))))
   refine ⟨(ST.subR (hS13.se [0, 1]) (R' := [⟨B, (a.Gates.flatMap eN1)⟩, ⟨B1, (b.Gates.flatMap eN1)⟩]) (subc (mem_at (i := 0) rfl) (subc (mem_at (i := 1) rfl) (fun _ h => by cases h)))), ?_⟩
   refine rA [7] ?_
   refine ra_c 29 (i := 7) rfl rfl rfl (Yc_func (g := 43) (vs := [.slice (aD b4) 2 2]) k_call_43 rfl (mc rfl mn) (c_slices_Concat_impl_Gate_impl_Gate ([a.Gates, b.Gates] : List (List TGate)) (aD b4) 2 2 ([((B, c), a.Gates), ((B1, c1), b.Gates)] : List (Hd × (List TGate))) _ (dl_fl (show List.map Prod.snd ([((B, c), a.Gates), ((B1, c1), b.Gates)] : List (Hd × (List TGate))) = ([a.Gates, b.Gates] : List (List TGate)) from rfl) rfl) (show List.map Prod.snd ([((B, c), a.Gates), ((B1, c1), b.Gates)] : List (Hd × (List TGate))) = ([a.Gates, b.Gates] : List (List TGate)) from rfl) (hS13.innR0 (srcO (i := 3) rfl (srcG (fun r_ (h : r_ ∈ ((([((B, c), a.Gates), ((B1, c1), b.Gates)] : List (Hd × (List TGate))).flatMap rowD_SGate) : List Ro)) => mOd (i := 2) (show r_ ∈ ((((([((B, c), a.Gates), ((B1, c1), b.Gates)] : List (Hd × (List TGate))).flatMap rowD_SGate) ++ [])) : List Ro) from mAl _ h)) (fun _ h => by cases h)))) hc2)) ?_ ?_
   ·rintro _ w_7 ⟨B3, c3, rfl, hd1⟩
    have hS14 := hS13.out0 hd1
    refine ⟨(ST.subR (hS14.se [0, 1]) (R' := [⟨B, (a.Gates.flatMap eN1)⟩, ⟨B1, (b.Gates.flatMap eN1)⟩]) (subc (mem_at (i := 0) rfl) (subc (mem_at (i := 1) rfl) (fun _ h => by cases h)))), ?_⟩
    refine rA [8] ?_
    refine ra_c 30 (i := 8) rfl rfl rfl (Yc_func (g := 42) (vs := [vi a.Qubits, .slice B3 r_4.length c3]) k_call_42 rfl (mc rfl (mc rfl mn)) (c_impl_circuitIf a.Qubits r_4 B3 c3 r_4.length _ rfl (hS14.inn0 [(false, 4)] rfl) hc3)) ?_ ?_
    ·rintro _ w_8 ⟨B4, c4, rfl, hd2⟩
     have hS15 := hS14.out0 hd2
     refine ⟨(ST.subR (hS15.se [0, 1]) (R' := [⟨B, (a.Gates.flatMap eN1)⟩, ⟨B1, (b.Gates.flatMap eN1)⟩]) (subc (mem_at (i := 0) rfl) (subc (mem_at (i := 1) rfl) (fun _ h => by cases h)))), ?_⟩
     refine rq 9 31 (v := .agg #[vi r_5.Qubits, .slice B4 r_5.Gates.length c4]) rfl (ST.subR (hS15.se [0, 1]) (R' := [⟨B, (a.Gates.flatMap eN1)⟩, ⟨B1, (b.Gates.flatMap eN1)⟩]) (subc (mem_at (i := 0) rfl) (subc (mem_at (i := 1) rfl) (fun _ h => by cases h)))) (fun w' hw' => (Y_extract (v := .agg #[vi r_5.Qubits, .slice B4 r_5.Gates.length c4]) rfl rfl rfl)) ?_
     refine rq 10 32 (v := .bool r_6) rfl (ST.subR (hS15.se [0, 1]) (R' := [⟨B, (a.Gates.flatMap eN1)⟩, ⟨B1, (b.Gates.flatMap eN1)⟩]) (subc (mem_at (i := 0) rfl) (subc (mem_at (i := 1) rfl) (fun _ h => by cases h)))) (fun w' hw' => (Y_extract (v := .bool r_6) rfl rfl rfl)) ?_
     refine rA [11] ?_
     refine ra_s0 (i := 11) rfl rfl rfl (Ys_store (i := 2) (s := 2) (B := aD b3) (T' := 26) (v := .agg #[vi r_5.Qubits, .slice B4 r_5.Gates.length c4]) (vs := [vi r_5.Qubits, .slice B4 r_5.Gates.length c4]) (k := 0) (cs' := [vi r_5.Qubits, .slice B4 r_5.Gates.length c4]) hS15 k_sz_26_2 rfl rfl rfl rfl rfl rfl rfl (lB rfl) rfl rfl) ?_ ?_
     ·rintro _ w_9 ⟨rfl, hS16⟩
      refine ⟨(ST.subR (hS16.se [0, 1]) (R' := [⟨B, (a.Gates.flatMap eN1)⟩, ⟨B1, (b.Gates.flatMap eN1)⟩]) (subc (mem_at (i := 0) rfl) (subc (mem_at (i := 1) rfl) (fun _ h => by cases h)))), ?_⟩
      refine rq 12 5 (v := .bool r_6) rfl (ST.subR (hS16.se [0, 1]) (R' := [⟨B, (a.Gates.flatMap eN1)⟩, ⟨B1, (b.Gates.flatMap eN1)⟩]) (subc (mem_at (i := 0) rfl) (subc (mem_at (i := 1) rfl) (fun _ h => by cases h)))) (fun w' hw' => (Y_assign (v := .bool r_6) rfl rfl)) ?_
      refine ra_done (by kernel_rfl) ?_
      refine cw_ret ?_
      obtain ⟨rfl, rfl⟩ := pr2 (some_inj hF2)
      exact ret2 Tryz.results13 (v1 := .agg #[vi r_5.Qubits, .slice B4 r_5.Gates.length c4]) (resAt_cellA (B := aD b3) (i := 0) (cs := [vi r_5.Qubits, .slice B4 r_5.Gates.length c4]) (vs := [vi r_5.Qubits, .slice B4 r_5.Gates.length c4]) rfl k_ag_26 k_sz_26_2 (hS16.cf (i := 2) rfl) rfl rfl) (v2 := .bool r_6) (resAt_tmp rfl) ⟨B4, c4, rfl, (hS16.sN [5])⟩
     exact allR_nil
    exact allR_nil
   exact allR_nil
  exact allR_nil

theorem c_impl_ScaleMatrix_1 (i : Int) (j : Int) (p : TMatrix) (p1 : TDyadic) (B : Option Addr) (B1 : Option Addr) (c n : Nat) (B2 : Option Addr) (w0 : World) (hn : p.Cells.length = n) (hS : ST w0 [] w0 [] [⟨B, [vi p.Rows, vi p.Cols, .slice B1 n c]⟩, ⟨B1, (p.Cells.flatMap eN0)⟩, ⟨B2, kD_ p1⟩]) {r_ : TDyadic} {r_1 : Bool} (hF : F_impl_ScaleMatrix_1 i j p p1 = some (r_, r_1)) :
  CV Tryz.prog 141 #[vi i, vi j, pt B 0, pt B2 0] w0 (fun v w' => v = .tuple #[gD_ r_, .bool r_1] ∧ ST w0 [] w' [] []) := by
 subst hn
 unfold F_impl_ScaleMatrix_1 at hF
 refine cv_of_cw 16 Tryz.func141 rfl Tryz.ntmps141 rfl ?_
 refine cw_seq (cw_region ?_)
 refine sS 6 (Ys_alloc (T := 63) (cs := kZ_) (m := 5) hS k_zero_63 rfl rfl rfl) ?_
 rintro _ w_ ⟨b, rfl, hS1⟩
 refine sQ 7 (Y_assign (v := .bool false) rfl rfl) (rw_nil (cw_seq ?_))
 obtain ⟨r_2, hc, hF⟩ := bind_inv hF
 obtain ⟨⟨r_3, r_4⟩, hc1, hF⟩ := bind_inv hF
 refine ra_start (hS1.se []).fn (by kernel_rfl) ?_
 have hS4 := hS1.drew
 refine rq 0 8 (v := gM_ p B1 c) rfl (hS4.se []) (fun w' hw' => (Y_loadA (B := B) (i := 0) (cs := kM_ p B1 c) (vs := kM_ p B1 c) k_ag_30 k_sz_30_3 rfl rfl (ST.rf hw' (i := 0) rfl) rfl rfl)) ?_
 refine rq 1 9 (v := vi i) rfl (hS4.se []) (fun w' hw' => (Y_move (v := vi i) rfl rfl)) ?_
 refine rq 2 10 (v := vi j) rfl (hS4.se []) (fun w' hw' => (Y_move (v := vi j) rfl rfl)) ?_
 refine rq 4 12 (v := gD_ p1) rfl (hS4.se []) (fun w' hw' => (Y_loadA (B := B2) (i := 0) (cs := kD_ p1) (vs := kD_ p1) k_ag_63 k_sz_63_5 rfl rfl (ST.rf hw' (i := 2) rfl) rfl rfl)) ?_
 refine rA [3] ?_
 refine ra_c 11 (i := 3) rfl rfl rfl (Yc_func (g := 105) (vs := [gM_ p B1 c, vi i, vi j]) k_call_105 rfl (mc rfl (mc rfl (mc rfl mn))) (c_impl_Matrix_at p i j B1 c p.Cells.length _ rfl (hS4.inn0 [(true, 1)] rfl) hc)) ?_ ?_
 ·rintro _ w_1 ⟨rfl, hd⟩
  have hS5 := hS4.out00 hd
  refine ⟨(hS5.se []), ?_⟩
  refine rA [5] ?_
  refine ra_c 13 (i := 5) rfl rfl rfl (Yc_func (g := 125) (vs := [gD_ r_2, gD_ p1]) k_call_125 rfl (mc rfl (mc rfl mn)) (c_impl_MulDyadic r_2 p1 _  (hS5.inn0 [] rfl) hc1)) ?_ ?_
  ·rintro _ w_2 ⟨rfl, hd1⟩
   have hS6 := hS5.out00 hd1
   refine ⟨(hS6.se []), ?_⟩
   refine rq 6 14 (v := gD_ r_3) rfl (hS6.se []) (fun w' hw' => (Y_extract (v := gD_ r_3) rfl rfl rfl)) ?_
   refine rq 7 15 (v := .bool r_4) rfl (hS6.se []) (fun w' hw' => (Y_extract (v := .bool r_4) rfl rfl rfl)) ?_
   refine rA [8] ?_
   refine ra_s0 (i := 8) rfl rfl rfl (Ys_store (i := 0) (s := 5) (B := aD b) (T' := 63) (v := gD_ r_3) (vs := kD_ r_3) (k := 0) (cs' := kD_ r_3) hS6 k_sz_63_5 rfl rfl rfl rfl rfl rfl rfl (lB rfl) rfl rfl) ?_ ?_
   ·rintro _ w_3 ⟨rfl, hS7⟩
    refine ⟨(hS7.se []), ?_⟩
    refine rq 9 7 (v := .bool r_4) rfl (hS7.se []) (fun w' hw' => (Y_assign (v := .bool r_4) rfl rfl)) ?_
    refine ra_done (by kernel_rfl) ?_
    refine cw_ret ?_
    obtain ⟨rfl, rfl⟩ := pr2 (some_inj hF)
    exact ret2 Tryz.results141 (v1 := gD_ r_3) (resAt_cellA (B := aD b) (i := 0) (cs := kD_ r_3) (vs := kD_ r_3) rfl k_ag_63 k_sz_63_5 (hS7.cf (i := 0) rfl) rfl rfl) (v2 := .bool r_4) (resAt_tmp rfl) ⟨rfl, (hS7.sN [])⟩
   exact allR_nil
  exact allR_nil
 exact allR_nil

theorem c_impl_ScaleMatrix (m : TMatrix) (x : TDyadic) (B : Option Addr) (c n : Nat) (w0 : World) (hn : m.Cells.length = n) (hS : ST w0 [] w0 [] [⟨B, (m.Cells.flatMap eN0)⟩]) {r_ : TMatrix} {r_1 : Bool} (hF : F_impl_ScaleMatrix m x = some (r_, r_1)) :
  CV Tryz.prog 90 #[.agg #[vi m.Rows, vi m.Cols, .slice B n c], gD_ x] w0 (fun v w' => ∃ (B1 : Option Addr) (c1 : Nat), v = .tuple #[gM_ r_ B1 c1, .bool r_1] ∧ ST w0 [] w' [⟨B1, 63, (r_.Cells.flatMap eN0), c1 * 5⟩] []) := by
 subst hn
 unfold F_impl_ScaleMatrix at hF
 refine cv_of_cw 23 Tryz.func90 rfl Tryz.ntmps90 rfl ?_
 refine cw_seq (cw_region ?_)
 refine sS 2 (Ys_box (T := 30) (v := gM_ m B c) (cs := kM_ m B c) (m := 3) hS rfl rfl rfl rfl) ?_
 rintro _ w_ ⟨b, rfl, hS1⟩
 refine sS 3 (Ys_box (T := 63) (v := gD_ x) (cs := kD_ x) (m := 5) hS1 rfl rfl rfl rfl) ?_
 rintro _ w_1 ⟨b1, rfl, hS2⟩
 refine sS 4 (Ys_alloc (T := 30) (cs := kN_) (m := 3) hS2 k_zero_30 rfl rfl rfl) ?_
 rintro _ w_2 ⟨b2, rfl, hS3⟩
 refine sQ 5 (Y_assign (v := .bool false) rfl rfl) (rw_nil (cw_seq (cw_seq (cw_region ?_))))
 refine sQ 6 (Y_loadA (B := aD b) (i := 0) (cs := kM_ m B c) (vs := kM_ m B c) k_ag_30 k_sz_30_3 rfl rfl (hS3.cf (i := 0) rfl) rfl rfl) ?_
 obtain ⟨r_2, hc, hF⟩ := bind_inv hF
 refine sc 7 rfl rfl (Yc_func (g := 89) (vs := [gM_ m B c]) k_call_89 rfl (mc rfl mn) (c_impl_IsValidMatrix m B c m.Cells.length _ rfl (hS3.inn0 [(true, 0)] rfl) hc)) ?_
 rintro _ w_3 ⟨rfl, hd⟩
 have hS4 := hS3.out00 hd
 refine sQ 8 (Y_not (p := r_2) rfl rfl) ?_
 refine sQ 9 (Y_move (v := .bool (!r_2)) rfl rfl) ?_
 refine sgq 10 (B := (!(!r_2))) (v := gD_ x) rfl rfl (uF_ 9) (fun hg => (Y_loadA (B := aD b1) (i := 0) (cs := kD_ x) (vs := kD_ x) k_ag_63 k_sz_63_5 rfl rfl (hS4.cf (i := 1) rfl) rfl rfl)) ?_
 obtain ⟨r_3, hc1, hF⟩ := bind_inv hF
 refine sgc 11 (B := (!(!r_2))) (v := .bool r_3) (F := hS4.fn) rfl rfl (uF_ 9) hS4 (fun hg1 => (Yc_func (g := 140) (vs := [gD_ x]) k_call_140 rfl (mc (gv_of (v := gD_ x) hg1) mn) (CV.mono (c_impl_IsValidDyadic x _  (hS4.inn0 [] rfl) (gb_inv hc1 hg1)) (by rintro _ _ ⟨rfl, h⟩; exact ⟨rfl, hS4.out00 h⟩)))) ?_
 rintro w_4 hS5
 refine sgq 12 (B := (!(!r_2))) (v := .bool (!r_3)) rfl rfl (uF_ 9) (fun hg2 => (Y_not (p := r_3) rfl (gv_of (v := .bool r_3) hg2))) ?_
 refine sQ 13 (Y_or (b := (!r_2)) (z := (!r_3)) rfl rfl rfl rfl) (rw_nil ?_)
 refine cw_cond (b := ((!r_2) || (!r_3))) rfl (fun hb => ?_) (fun hb => ?_)
 ·skip
  have hF1 := ct hF hb
  refine cw_seq (cw_region ?_)
  refine sQ 14 (Y_buildS (zs := kN_) (vs := []) (cs := kN_) k_pl_30 k_zero_30 rfl mpn rfl) ?_
  refine s0 (Ys_store (i := 2) (s := 3) (B := aD b2) (T' := 30) (v := gN_) (vs := kN_) (k := 0) (cs' := kN_) hS5 k_sz_30_3 rfl rfl rfl rfl rfl rfl rfl (lB rfl) rfl rfl) ?_
  rintro _ w_5 ⟨rfl, hS6⟩
  refine sQ 5 (Y_assign (v := .bool false) rfl rfl) (rw_nil (cw_ret ?_))
  have hS7 := hS6.addNil 63
  obtain ⟨rfl, rfl⟩ := pr2 (some_inj hF1)
  exact ret2 Tryz.results90 (v1 := gN_) (resAt_cellA (B := aD b2) (i := 0) (cs := kN_) (vs := kN_) rfl k_ag_30 k_sz_30_3 (hS7.cf (i := 2) rfl) rfl rfl) (v2 := .bool false) (resAt_tmp rfl) ⟨none, 0, rfl, (hS7.sN [3])⟩
 ·skip
  have hF2 := cf' hF hb
  refine cw_skip (cw_seq (cw_region ?_))
  refine sQ 15 (Y_fieldAddr (B := aD b) (i := 0) (s := 0) k_fd_30_0_0_3 k_sz_3_1 rfl rfl) ?_
  refine sQ 16 (Y_load1 (B := aD b) (i := 0) (cs := kM_ m B c) (v := vi m.Rows) k_sc_3 rfl rfl (hS5.cf (i := 0) rfl) rfl) ?_
  refine sQ 17 (Y_fieldAddr (B := aD b) (i := 0) (s := 0) k_fd_30_1_1_3 k_sz_3_1 rfl rfl) ?_
  refine sQ 18 (Y_load1 (B := aD b) (i := 1) (cs := kM_ m B c) (v := vi m.Cols) k_sc_3 rfl rfl (hS5.cf (i := 0) rfl) rfl) ?_
  refine sQ 19 (Y_makeFunc (cs := [pt (aD b) 0, pt (aD b1) 0]) rfl rfl (mc rfl (mc rfl mn))) ?_
  obtain ⟨⟨r_4, r_5⟩, hc2, hF2⟩ := bind_inv hF2
  refine sc 20 rfl rfl (Yc_func (g := 76) (vs := [vi m.Rows, vi m.Cols, .func (.func 141) #[] #[pt (aD b) 0, pt (aD b1) 0]]) k_call_76 rfl (mc rfl (mc rfl (mc rfl mn))) (c_impl_matrixOf m.Rows m.Cols (fun x_0 x_1 => F_impl_ScaleMatrix_1 x_0 x_1 m x) 141 (#[pt (aD b) 0, pt (aD b1) 0]) [⟨aD b, kM_ m B c⟩, ⟨B, (m.Cells.flatMap eN0)⟩, ⟨aD b1, kD_ x⟩] _ k_call_141 (fun w hw x_0 x_1 y_0 y_1 h_ => c_impl_ScaleMatrix_1 x_0 x_1 m x (aD b) B c m.Cells.length (aD b1) w rfl hw h_) (hS5.inn0 [(false, 0), (true, 0), (false, 1)] rfl) hc2)) ?_
  rintro _ w_6 ⟨B2, c2, rfl, hd1⟩
  have hS8 := hS5.out0 hd1
  refine sQ 21 (Y_extract (v := gM_ r_4 B2 c2) rfl rfl rfl) ?_
  refine sQ 22 (Y_extract (v := .bool r_5) rfl rfl rfl) ?_
  refine s0 (Ys_store (i := 2) (s := 3) (B := aD b2) (T' := 30) (v := gM_ r_4 B2 c2) (vs := kM_ r_4 B2 c2) (k := 0) (cs' := kM_ r_4 B2 c2) hS8 k_sz_30_3 rfl rfl rfl rfl rfl rfl rfl (lB rfl) rfl rfl) ?_
  rintro _ w_7 ⟨rfl, hS9⟩
  refine sQ 5 (Y_assign (v := .bool r_5) rfl rfl) (rw_nil (cw_ret ?_))
  obtain ⟨rfl, rfl⟩ := pr2 (some_inj hF2)
  exact ret2 Tryz.results90 (v1 := gM_ r_4 B2 c2) (resAt_cellA (B := aD b2) (i := 0) (cs := kM_ r_4 B2 c2) (vs := kM_ r_4 B2 c2) rfl k_ag_30 k_sz_30_3 (hS9.cf (i := 2) rfl) rfl rfl) (v2 := .bool r_5) (resAt_tmp rfl) ⟨B2, c2, rfl, (hS9.sN [3])⟩

theorem c_slices_Equal_impl_Dyadic_impl_Dyadic (s1 : List TDyadic) (s2 : List TDyadic) (B : Option Addr) (c n : Nat) (B1 : Option Addr) (c1 n1 : Nat) (w0 : World) (hn : s1.length = n) (hn1 : s2.length = n1) (hS : ST w0 [] w0 [] [⟨B, (s1.flatMap eN0)⟩, ⟨B1, (s2.flatMap eN0)⟩]) {r_ : Bool} (hF : F_slices_Equal_impl_Dyadic_impl_Dyadic s1 s2 = some r_) :
  CV Tryz.prog 142 #[.slice B n c, .slice B1 n1 c1] w0 (fun v w' => v = .bool r_ ∧ ST w0 [] w' [] []) := by
 subst hn
 subst hn1
 unfold F_slices_Equal_impl_Dyadic_impl_Dyadic at hF
 refine cv_of_cw 26 Tryz.func142 rfl Tryz.ntmps142 rfl ?_
 refine cw_seq (cw_region ?_)
 refine sQ 4 (Y_assign (v := .bool false) rfl rfl) (rw_nil (cw_seq (cw_seq (cw_region ?_))))
 refine sQ 6 (Y_move (v := .slice B s1.length c) rfl rfl) ?_
 refine sQ 7 (Y_len (B := B) (m := s1.length) (c := c) k_sl_28_63 rfl rfl) ?_
 refine sQ 8 (Y_move (v := .slice B1 s2.length c1) rfl rfl) ?_
 refine sQ 9 (Y_len (B := B1) (m := s2.length) (c := c1) k_sl_28_63 rfl rfl) ?_
 refine sQ 10 (Y_ne (k := .i64) (a := (s1.length : Int)) (b := (s2.length : Int)) rfl rfl rfl) (rw_nil ?_)
 refine cw_cond (b := ((s1.length : Int) != (s2.length : Int))) rfl (fun hb => ?_) (fun hb => ?_)
 ·skip
  have hF1 := ct hF hb
  refine cw_seq (cw_region ?_)
  refine sQ 4 (Y_assign (v := .bool false) rfl rfl) (rw_nil (cw_ret ?_))
  obtain rfl := some_inj hF1
  exact ret1 Tryz.results142 (v1 := .bool false) (resAt_tmp rfl) ⟨rfl, (hS.sN [])⟩
 ·skip
  have hF2 := cf' hF hb
  refine cw_skip (cw_seq (cw_seq (cw_region ?_)))
  refine sQ 11 (Y_move (v := .slice B s1.length c) rfl rfl) ?_
  refine sQ 12 (Y_len (B := B) (m := s1.length) (c := c) k_sl_28_63 rfl rfl) ?_
  refine sQ 13 (Y_move (v := vi 0) rfl rfl) (rw_nil ?_)
  obtain ⟨hN, hF2⟩ := chk_inv hF2
  obtain ⟨z, hz, hF3⟩ := bind_inv hF2
  refine cw_block ?_
  refine cw_loop (fun k f w => ∃ (i : Nat), FF f [(0, .slice B s1.length c), (1, .slice B1 s2.length c1), (12, vi (s1.length : Int)), (13, vi (i : Int))] ∧ ST w0 [] w [] [⟨B, (s1.flatMap eN0)⟩, ⟨B1, (s2.flatMap eN0)⟩] ∧ i + k = s1.length ∧ forX (F_slices_Equal_impl_Dyadic_impl_Dyadic_l1 s1 s2) k i () = some z) s1.length ⟨0, (FF.cons rfl (FF.cons rfl (FF.cons rfl (FF.cons rfl FF.nil)))), (hS.sel [] rfl rfl), Nat.zero_add _, hz⟩ ?_
  rintro k_ f w ⟨i, hf, hS1, hik, hL⟩
  refine cw_seq (cw_region ?_)
  refine sQ 14 (Y_lt (k := .i64) (a := (i : Int)) (b := (s1.length : Int)) rfl (hf.get 13 3 rfl) (hf.get 12 2 rfl)) (rw_nil (cw_seq ?_))
  refine cw_cond (b := (decide ((i : Int) < (s1.length : Int)))) rfl (fun hlt => ?_) (fun hlt => ?_)
  ·skip
   have hlt1 : i < s1.length := by have h := of_decide_eq_true hlt; omega
   obtain ⟨k_1, rfl⟩ : ∃ k2, k_ = k2 + 1 := ⟨k_ - 1, by omega⟩
   obtain ⟨y, hb1, hL1⟩ := forX_go hL
   unfold F_slices_Equal_impl_Dyadic_impl_Dyadic_l1 at hb1
   refine cw_skip (cw_seq (cw_block (cw_seq (cw_region ?_))))
   refine sQ 15 (Y_move (v := vi (i : Int)) rfl (hf.get 13 3 rfl)) ?_
   refine sQ 5 (Y_assign (v := vi (i : Int)) rfl rfl) (rw_nil (cw_seq ?_))
   obtain ⟨x, hx, hb1⟩ := bind_inv hb1
   obtain ⟨x1, hx1, hb1⟩ := bind_inv hb1
   refine ra_start (hS1.se []).fn (by kernel_rfl) ?_
   have hS2 := hS1.drew
   refine rq 0 16 (v := .slice B s1.length c) rfl (hS2.se []) (fun w' hw' => (Y_move (v := .slice B s1.length c) rfl (hf.get 0 0 rfl))) ?_
   refine rq 1 17 (v := vi (i : Int)) rfl (hS2.se []) (fun w' hw' => (Y_move (v := vi (i : Int)) rfl rfl)) ?_
   refine rq 2 18 (v := pt B ((i : Int).toNat * 5)) rfl (hS2.se []) (fun w' hw' => (Y_index (B := B) (m := s1.length) (c := c) (k := .i64) (i := (i : Int)) k_sl_28_63 k_sz_63_5 rfl rfl rfl (gi_isSome enc_Dyadic_len rfl (ST.rf hw' (i := 0) rfl) hx) (getI_nn hx) (getI_ltI hx rfl))) ?_
   refine rq 3 19 (v := gD_ x) rfl (hS2.se []) (fun w' hw' => (Y_loadA (B := B) (i := (i : Int).toNat * 5) (cs := (s1.flatMap eN0)) (vs := kD_ x) k_ag_63 k_sz_63_5 rfl rfl (ST.rf hw' (i := 0) rfl) (enc_Dyadic_len x) (gi_seg enc_Dyadic_len hx))) ?_
   refine rq 4 20 (v := .slice B1 s2.length c1) rfl (hS2.se []) (fun w' hw' => (Y_move (v := .slice B1 s2.length c1) rfl (hf.get 1 1 rfl))) ?_
   refine rq 5 21 (v := vi (i : Int)) rfl (hS2.se []) (fun w' hw' => (Y_move (v := vi (i : Int)) rfl rfl)) ?_
   refine rq 6 22 (v := pt B1 ((i : Int).toNat * 5)) rfl (hS2.se []) (fun w' hw' => (Y_index (B := B1) (m := s2.length) (c := c1) (k := .i64) (i := (i : Int)) k_sl_28_63 k_sz_63_5 rfl rfl rfl (gi_isSome enc_Dyadic_len rfl (ST.rf hw' (i := 1) rfl) hx1) (getI_nn hx1) (getI_ltI hx1 rfl))) ?_
   refine rq 7 23 (v := gD_ x1) rfl (hS2.se []) (fun w' hw' => (Y_loadA (B := B1) (i := (i : Int).toNat * 5) (cs := (s2.flatMap eN0)) (vs := kD_ x1) k_ag_63 k_sz_63_5 rfl rfl (ST.rf hw' (i := 1) rfl) (enc_Dyadic_len x1) (gi_seg enc_Dyadic_len hx1))) ?_
   refine ra_q 8 24 (v := .bool (!(((x.Num.A == x1.Num.A) && ((x.Num.B == x1.Num.B) && ((x.Num.C == x1.Num.C) && ((x.Num.D == x1.Num.D) && true)))) && ((x.Exp == x1.Exp) && true)))) rfl rfl rfl (by kernel_rfl) (by kernel_rfl) (by kernel_rfl) (hS2.se []) (fun w' hw' => (Y_neA (xs := #[vi x.Num.A, vi x.Num.B, vi x.Num.C, vi x.Num.D, vi x.Exp]) (ys := #[vi x1.Num.A, vi x1.Num.B, vi x1.Num.C, vi x1.Num.D, vi x1.Exp]) (b := (((x.Num.A == x1.Num.A) && ((x.Num.B == x1.Num.B) && ((x.Num.C == x1.Num.C) && ((x.Num.D == x1.Num.D) && true)))) && ((x.Exp == x1.Exp) && true))) k_eg_63 rfl rfl rfl (eqr_struct (xs := kD_ x) (ys := kD_ x1) k_st_63 k_ho_63 (pts_ag (us := kR_ x.Num) (vs := kR_ x1.Num) k_ag_61 k_sz_61_4 rfl rfl (eqr_struct (xs := kR_ x.Num) (ys := kR_ x1.Num) k_st_61 k_ho_61 (pts_sc k_sc_3 rfl rfl (eqr_int k_int_3_i64) (pts_sc k_sc_3 rfl rfl (eqr_int k_int_3_i64) (pts_sc k_sc_3 rfl rfl (eqr_int k_int_3_i64) (pts_sc k_sc_3 rfl rfl (eqr_int k_int_3_i64) pts_nil))))) (pts_sc k_sc_3 rfl rfl (eqr_int k_int_3_i64) pts_nil))))) ?_
   refine ra_done (by kernel_rfl) ?_
   refine cw_cond (b := (!(((x.Num.A == x1.Num.A) && ((x.Num.B == x1.Num.B) && ((x.Num.C == x1.Num.C) && ((x.Num.D == x1.Num.D) && true)))) && ((x.Exp == x1.Exp) && true)))) rfl (fun hb2 => ?_) (fun hb2 => ?_)
   ·skip
    have hF4 := ct hb1 hb2
    refine cw_seq (cw_region ?_)
    refine sQ 4 (Y_assign (v := .bool false) rfl rfl) (rw_nil (cw_ret ?_))
    obtain rfl := some_inj hF4
    obtain rfl := some_inj hL1
    obtain rfl := some_inj hF3
    exact ret1 Tryz.results142 (v1 := .bool false) (resAt_tmp rfl) ⟨rfl, (hS2.sN [])⟩
   ·skip
    have hF5 := cf' hb1 hb2
    refine cw_skip (cw_region ?_)
    refine sQ 25 (Y_add (k := .i64) (a := (i : Int)) (b := 1) rfl (hf.get 13 3 rfl) rfl) ?_
    refine sQ 13 (Y_move (v := vi (i64.wrap ((i : Int) + 1))) rfl rfl) (rw_nil ?_)
    obtain rfl := some_inj hF5
    exact ⟨k_1, Nat.lt_succ_self _, i + 1, (FF.cons (hf.get 0 0 rfl) (FF.cons (hf.get 1 1 rfl) (FF.cons (hf.get 12 2 rfl) (FF.cons (congrArg (Value.int .i64) (wr_succ hlt1 hN)) FF.nil)))), (hS2.sel [] rfl rfl), (by omega), hL1⟩
  ·skip
   obtain rfl : k_ = 0 := by have h := of_decide_eq_false hlt; omega
   refine cw_exit rfl ?_
   obtain rfl := some_inj hL
   refine cw_seq (cw_region ?_)
   refine sQ 4 (Y_assign (v := .bool true) rfl rfl) (rw_nil (cw_ret ?_))
   obtain rfl := some_inj hF3
   exact ret1 Tryz.results142 (v1 := .bool true) (resAt_tmp rfl) ⟨rfl, (hS1.sN [])⟩

theorem c_impl_EqualMatrices (a : TMatrix) (b : TMatrix) (B : Option Addr) (c n : Nat) (B1 : Option Addr) (c1 n1 : Nat) (w0 : World) (hn : a.Cells.length = n) (hn1 : b.Cells.length = n1) (hS : ST w0 [] w0 [] [⟨B, (a.Cells.flatMap eN0)⟩, ⟨B1, (b.Cells.flatMap eN0)⟩]) {r_ : Bool} (hF : F_impl_EqualMatrices a b = some r_) :
  CV Tryz.prog 91 #[.agg #[vi a.Rows, vi a.Cols, .slice B n c], .agg #[vi b.Rows, vi b.Cols, .slice B1 n1 c1]] w0 (fun v w' => v = .bool r_ ∧ ST w0 [] w' [] []) := by
 subst hn
 subst hn1
 unfold F_impl_EqualMatrices at hF
 refine cv_of_cw 24 Tryz.func91 rfl Tryz.ntmps91 rfl ?_
 refine cw_seq (cw_region ?_)
 refine sS 2 (Ys_box (T := 30) (v := gM_ a B c) (cs := kM_ a B c) (m := 3) hS rfl rfl rfl rfl) ?_
 rintro _ w_ ⟨b1, rfl, hS1⟩
 refine sS 3 (Ys_box (T := 30) (v := gM_ b B1 c1) (cs := kM_ b B1 c1) (m := 3) hS1 rfl rfl rfl rfl) ?_
 rintro _ w_1 ⟨b2, rfl, hS2⟩
 refine sQ 4 (Y_assign (v := .bool false) rfl rfl) (rw_nil (cw_seq (cw_region ?_)))
 refine sQ 5 (Y_fieldAddr (B := aD b1) (i := 0) (s := 0) k_fd_30_0_0_3 k_sz_3_1 rfl rfl) ?_
 refine sQ 6 (Y_load1 (B := aD b1) (i := 0) (cs := kM_ a B c) (v := vi a.Rows) k_sc_3 rfl rfl (hS2.cf (i := 0) rfl) rfl) ?_
 refine sQ 7 (Y_fieldAddr (B := aD b2) (i := 0) (s := 0) k_fd_30_0_0_3 k_sz_3_1 rfl rfl) ?_
 refine sQ 8 (Y_load1 (B := aD b2) (i := 0) (cs := kM_ b B1 c1) (v := vi b.Rows) k_sc_3 rfl rfl (hS2.cf (i := 1) rfl) rfl) ?_
 refine sQ 9 (Y_eq (k := .i64) (a := a.Rows) (b := b.Rows) rfl rfl rfl) ?_
 refine sQ 10 (Y_move (v := .bool (a.Rows == b.Rows)) rfl rfl) ?_
 refine sgq 11 (B := (a.Rows == b.Rows)) (v := pt (aD b1) 1) rfl rfl (uT_ 10) (fun hg => (Y_fieldAddr (B := aD b1) (i := 0) (s := 0) k_fd_30_1_1_3 k_sz_3_1 rfl rfl)) ?_
 refine sgq 12 (B := (a.Rows == b.Rows)) (v := vi a.Cols) rfl rfl (uT_ 10) (fun hg1 => (Y_load1 (B := aD b1) (i := 1) (cs := kM_ a B c) (v := vi a.Cols) k_sc_3 rfl (gv_of (v := pt (aD b1) 1) hg1) (hS2.cf (i := 0) rfl) rfl)) ?_
 refine sgq 13 (B := (a.Rows == b.Rows)) (v := pt (aD b2) 1) rfl rfl (uT_ 10) (fun hg2 => (Y_fieldAddr (B := aD b2) (i := 0) (s := 0) k_fd_30_1_1_3 k_sz_3_1 rfl rfl)) ?_
 refine sgq 14 (B := (a.Rows == b.Rows)) (v := vi b.Cols) rfl rfl (uT_ 10) (fun hg3 => (Y_load1 (B := aD b2) (i := 1) (cs := kM_ b B1 c1) (v := vi b.Cols) k_sc_3 rfl (gv_of (v := pt (aD b2) 1) hg3) (hS2.cf (i := 1) rfl) rfl)) ?_
 refine sgq 15 (B := (a.Rows == b.Rows)) (v := .bool (a.Cols == b.Cols)) rfl rfl (uT_ 10) (fun hg4 => (Y_eq (k := .i64) (a := a.Cols) (b := b.Cols) rfl (gv_of (v := vi a.Cols) hg4) (gv_of (v := vi b.Cols) hg4))) ?_
 refine sQ 16 (Y_and (b := (a.Rows == b.Rows)) (z := (a.Cols == b.Cols)) rfl rfl rfl rfl) ?_
 refine sQ 17 (Y_move (v := .bool ((a.Rows == b.Rows) && (a.Cols == b.Cols))) rfl rfl) ?_
 refine sgq 18 (B := ((a.Rows == b.Rows) && (a.Cols == b.Cols))) (v := pt (aD b1) 2) rfl rfl (uT_ 17) (fun hg5 => (Y_fieldAddr (B := aD b1) (i := 0) (s := 0) k_fd_30_2_2_28 k_sz_28_1 rfl rfl)) ?_
 refine sgq 19 (B := ((a.Rows == b.Rows) && (a.Cols == b.Cols))) (v := .slice B a.Cells.length c) rfl rfl (uT_ 17) (fun hg6 => (Y_load1 (B := aD b1) (i := 2) (cs := kM_ a B c) (v := .slice B a.Cells.length c) k_sc_28 rfl (gv_of (v := pt (aD b1) 2) hg6) (hS2.cf (i := 0) rfl) rfl)) ?_
 refine sgq 20 (B := ((a.Rows == b.Rows) && (a.Cols == b.Cols))) (v := pt (aD b2) 2) rfl rfl (uT_ 17) (fun hg7 => (Y_fieldAddr (B := aD b2) (i := 0) (s := 0) k_fd_30_2_2_28 k_sz_28_1 rfl rfl)) ?_
 refine sgq 21 (B := ((a.Rows == b.Rows) && (a.Cols == b.Cols))) (v := .slice B1 b.Cells.length c1) rfl rfl (uT_ 17) (fun hg8 => (Y_load1 (B := aD b2) (i := 2) (cs := kM_ b B1 c1) (v := .slice B1 b.Cells.length c1) k_sc_28 rfl (gv_of (v := pt (aD b2) 2) hg8) (hS2.cf (i := 1) rfl) rfl)) ?_
 obtain ⟨r_1, hc, hF⟩ := bind_inv hF
 refine sgc 22 (B := ((a.Rows == b.Rows) && (a.Cols == b.Cols))) (v := .bool r_1) (F := hS2.fn) rfl rfl (uT_ 17) hS2 (fun hg9 => (Yc_func (g := 142) (vs := [.slice B a.Cells.length c, .slice B1 b.Cells.length c1]) k_call_142 rfl (mc (gv_of (v := .slice B a.Cells.length c) hg9) (mc (gv_of (v := .slice B1 b.Cells.length c1) hg9) mn)) (CV.mono (c_slices_Equal_impl_Dyadic_impl_Dyadic a.Cells b.Cells B c a.Cells.length B1 c1 b.Cells.length _ rfl rfl (hS2.inn0 [(true, 0), (true, 1)] rfl) (gb_inv hc hg9)) (by rintro _ _ ⟨rfl, h⟩; exact ⟨rfl, hS2.out00 h⟩)))) ?_
 rintro w_2 hS3
 refine sQ 23 (Y_and (b := ((a.Rows == b.Rows) && (a.Cols == b.Cols))) (z := r_1) rfl rfl rfl rfl) ?_
 refine sQ 4 (Y_assign (v := .bool (((a.Rows == b.Rows) && (a.Cols == b.Cols)) && r_1)) rfl rfl) (rw_nil (cw_ret ?_))
 obtain rfl := some_inj hF
 exact ret1 Tryz.results91 (v1 := .bool (((a.Rows == b.Rows) && (a.Cols == b.Cols)) && r_1)) (resAt_tmp rfl) ⟨rfl, (hS3.sN [])⟩
end Go.VK
