/- Walks: each Go function returns what its Lean function says. By program. -/
import Derived.Test.YtchihdcajdocgaaGreatLWeightsFa
import Derived.Test.YtchihdcajdocgaaGreatLWeightsW2
set_option linter.unusedVariables false
set_option maxRecDepth 100000
set_option maxHeartbeats 4000000
namespace Go.VK
open Go.RowKit
open Go.Proofs
open Go.IntKind
attribute [local irreducible] CW RW RA CV Y Yw Yc Ys RetOf
attribute [local irreducible] F_laws_big F_spec_l1In F_spec_l4Gate F_spec_l4Good F_spec_l2C_matrix F_spec_l1All F_spec_l1Good F_spec_l2C_ring F_spec_l1Root F_spec_l1Even F_spec_l1Half F_spec_l2Low F_spec_l1Add F_spec_l2C_add F_spec_l1Mul F_spec_l2C_mul F_spec_l2C_times F_spec_l1Turn F_spec_l2Power F_spec_l6Bit F_spec_l1Neg F_spec_l2Neg F_spec_l6One F_spec_l6Cell F_spec_l6Gate F_spec_l2C_run F_spec_l3Unit F_spec_OperatorOf F_spec_EqualMatrices F_spec_l1Cur_next F_spec_l1Cur_pick F_spec_l1Cur_among F_spec_l1Cur_gate F_spec_l1Cur_built F_spec_l1Cur_circuit F_spec_l1Cur_anyCircuit F_spec_l1Most F_spec_l1Least F_spec_DrawStateAfter F_impl_within F_slices_IndexFunc_impl_Gate_impl_Gate F_slices_ContainsFunc_impl_Gate_impl_Gate F_impl_isTwo F_impl_IsValidGate F_impl_IsValidCircuit_1 F_impl_IsValidCircuit F_impl_isDim F_impl_matrixOf F_impl_whole F_impl_IdentityMatrix_1 F_impl_IdentityMatrix F_impl_isCoef F_impl_IsValidRing F_impl_MulOmega F_impl_phase F_impl_bitOf F_impl_flipped F_impl_comesFrom F_impl_small F_impl_entry F_impl_GateMatrix_1 F_impl_GateMatrix F_slices_IndexFunc_impl_Dyadic_impl_Dyadic F_slices_ContainsFunc_impl_Dyadic_impl_Dyadic F_impl_isEven F_impl_IsValidDyadic F_impl_IsValidMatrix_1 F_impl_IsValidMatrix F_impl_Matrix_at F_impl_ringIf F_impl_MulRing F_impl_DivRootTwo F_impl_DyadicOf F_impl_MulDyadic F_impl_MulRootTwo F_impl_raised F_impl_combined F_impl_AddRing F_impl_AddDyadic F_impl_MulMatrix_1 F_impl_MulMatrix F_impl_applied F_impl_ColumnOf_1 F_impl_ColumnOf F_impl_StateAfter F_spec_l3Column F_spec_StateAfter F_impl_Conjugate F_impl_ConjDyadic F_impl_NormSquare F_impl_OutcomeWeight F_spec_l2Good F_spec_l2C_out F_spec_AddDyadic F_spec_l1Has F_spec_l3Dim F_spec_l3Good F_spec_ColumnOf F_spec_l1Cur_one F_spec_l1Cur_ring F_spec_l1Cur_dyadic F_spec_l1Cur_matrix F_spec_l1Cur_coef F_spec_l1Cur_anyRing F_spec_l1Cur_anyDyadic F_spec_l1Cur_anyMatrix F_spec_l1Cur_turned F_spec_DrawEqualUpToPhase F_impl_ScaleMatrix_1 F_impl_ScaleMatrix F_slices_Equal_impl_Dyadic_impl_Dyadic F_impl_EqualMatrices F_impl_EqualUpToPhase F_spec_MulOmega F_spec_ScaleMatrix F_spec_l6Turned F_spec_l6Phase F_spec_EqualUpToPhase F_laws_FnWeights
theorem c_impl_ringIf (out : TRing) (args : List TRing) (B : Option Addr) (c n : Nat) (w0 : World) (hn : args.length = n) (hS : ST w0 (bl [⟨B, 52, (args.flatMap enc_Ring), c * 4⟩]) w0 [⟨B, 52, (args.flatMap enc_Ring), c * 4⟩] []) {r_ : TRing} {r_1 : Bool} (hF : F_impl_ringIf out args = some (r_, r_1)) :
  CV Tryz.prog 245 #[gR_ out, .slice B n c] w0 (fun v w' => v = .tuple #[gR_ r_, .bool r_1] ∧ ST w0 (bl [⟨B, 52, (args.flatMap enc_Ring), c * 4⟩]) w' [] []) := by
 subst hn
 unfold F_impl_ringIf at hF
 refine cv_of_cw 23 Tryz.func245 rfl Tryz.ntmps245 rfl ?_
 refine cw_seq (cw_region ?_)
 refine sS 2 (Ys_box (T := 52) (v := gR_ out) (cs := kR_ out) (m := 4) hS rfl rfl rfl rfl) ?_
 rintro _ w_ ⟨b, rfl, hS1⟩
 refine sS 4 (Ys_alloc (T := 52) (cs := [vi 0, vi 0, vi 0, vi 0]) (m := 4) hS1 k_zero_52 rfl rfl rfl) ?_
 rintro _ w_1 ⟨b1, rfl, hS2⟩
 refine sQ 5 (Y_assign (v := .bool false) rfl rfl) (rw_nil (cw_seq (cw_seq (cw_region ?_))))
 refine sQ 8 (Y_move (v := .slice B args.length c) rfl rfl) ?_
 refine sQ 9 (Y_loadA (B := aD b) (i := 0) (cs := kR_ out) (vs := kR_ out) k_ag_52 k_sz_52_4 rfl rfl (hS2.cf (i := 1) rfl) rfl rfl) ?_
 refine sS 10 (Ys_bslice (s := 4) (len := 1) (vs := [(0, gR_ out)]) (cs := kR_ out) (zs := [vi 0, vi 0, vi 0, vi 0]) (m := 4) hS2 k_sl_234_52 k_sz_52_4 k_zc_52 rfl (mpc rfl mpn) rfl rfl rfl (by kernel_rfl) (by kernel_rfl) rfl) ?_
 rintro _ w_2 ⟨b2, rfl, hS3⟩
 obtain ⟨hap, hF⟩ := chk_inv hF
 refine sS 11 (Ys_append (s := 4) (by' := 32) (i := 0) (nn := args.length) (c := c) (k := 1) (len := (args ++ [out]).length) (B := B) (xs := ([out].flatMap enc_Ring)) (cs' := ((args ++ [out]).flatMap enc_Ring)) hS3 k_sl_234_52 k_sz_52_4 k_by_52_32 k_zero_52 rfl (by decide) rfl rfl rfl rfl (fm_lenn (l := args) enc_Ring_len rfl) rfl (hS3.cf (i := 3) rfl) (fm_lenn (l := [out]) enc_Ring_len rfl) (fm_one' (enc := enc_Ring) enc_Ring_one [out]) (by have := hap; omega) (by have := hap; simp only [maxLen]; omega) (fm_app _ _) (app_len (l := args) (l' := [out]) rfl rfl)) ?_
 rintro _ w_3 ⟨B1, c1, rfl, hS4⟩
 refine sQ 12 (Y_len (B := B1) (m := (args ++ [out]).length) (c := c1) k_sl_234_52 rfl rfl) ?_
 refine sQ 13 (Y_move (v := vi 0) rfl rfl) (rw_nil ?_)
 obtain ⟨hN, hF⟩ := chk_inv hF
 obtain ⟨z, hz, hF1⟩ := bind_inv hF
 refine cw_block ?_
 refine cw_loop (fun k f w => ∃ (i : Nat), FF f [(2, pt (aD b) 0), (4, pt (aD b1) 0), (11, .slice B1 ((args ++ [out]).length) c1), (12, vi ((args ++ [out]).length : Int)), (13, vi (i : Int))] ∧ ST w0 (bl [⟨B, 52, (args.flatMap enc_Ring), c * 4⟩]) w [⟨aD b, 52, kR_ out, 4⟩, ⟨aD b1, 52, [vi 0, vi 0, vi 0, vi 0], 4⟩, ⟨B1, 52, ((args ++ [out]).flatMap enc_Ring), c1 * 4⟩] [] ∧ i + k = (args ++ [out]).length ∧ forX (F_impl_ringIf_l1 args out) k i () = some z) ((args ++ [out]).length) ⟨0, (FF.cons rfl (FF.cons rfl (FF.cons rfl (FF.cons rfl (FF.cons rfl FF.nil))))), (hS4.sel [1, 2, 0] rfl rfl), Nat.zero_add _, hz⟩ ?_
 rintro k_ f w ⟨i, hf, hS5, hik, hL⟩
 refine cw_seq (cw_region ?_)
 refine sQ 14 (Y_lt (k := .i64) (a := (i : Int)) (b := ((args ++ [out]).length : Int)) rfl (hf.get 13 4 rfl) (hf.get 12 3 rfl)) (rw_nil (cw_seq ?_))
 refine cw_cond (b := (decide ((i : Int) < ((args ++ [out]).length : Int)))) rfl (fun hlt => ?_) (fun hlt => ?_)
 ·skip
  have hlt1 : i < (args ++ [out]).length := by have h := of_decide_eq_true hlt; omega
  obtain ⟨k_1, rfl⟩ : ∃ k2, k_ = k2 + 1 := ⟨k_ - 1, by omega⟩
  obtain ⟨y, hb, hL1⟩ := forX_go hL
  unfold F_impl_ringIf_l1 at hb
  refine cw_skip (cw_seq (cw_block (cw_seq (cw_region ?_))))
  obtain ⟨x, hx, hb⟩ := bind_inv hb
  refine sQ 15 (Y_index (B := B1) (m := (args ++ [out]).length) (c := c1) (k := .i64) (i := (i : Int)) k_sl_234_52 k_sz_52_4 rfl (hf.get 11 2 rfl) (hf.get 13 4 rfl) (gi_isSome enc_Ring_len rfl (hS5.cf (i := 2) rfl) hx) (getI_nn hx) (getI_ltI hx rfl)) ?_
  refine sQ 16 (Y_loadA (B := B1) (i := (i : Int).toNat * 4) (cs := ((args ++ [out]).flatMap enc_Ring)) (vs := kR_ x) k_ag_52 k_sz_52_4 rfl rfl (hS5.cf (i := 2) rfl) (enc_Ring_len x) (gi_seg enc_Ring_len hx)) ?_
  refine sS 7 (Ys_alloc (T := 52) (cs := [vi 0, vi 0, vi 0, vi 0]) (m := 4) hS5 k_zero_52 rfl rfl rfl) ?_
  rintro _ w_4 ⟨b3, rfl, hS6⟩
  refine s0 (Ys_store (i := 3) (s := 4) (B := aD b3) (T' := 52) (v := gR_ x) (vs := kR_ x) (k := 0) (cs' := kR_ x) hS6 k_sz_52_4 rfl rfl rfl rfl rfl rfl rfl (lB rfl) rfl rfl) ?_
  rintro _ w_5 ⟨rfl, hS7⟩
  refine rw_nil (cw_seq (cw_region ?_))
  refine sQ 17 (Y_loadA (B := aD b3) (i := 0) (cs := kR_ x) (vs := kR_ x) k_ag_52 k_sz_52_4 rfl rfl (hS7.cf (i := 3) rfl) rfl rfl) ?_
  obtain ⟨r_2, hc, hb⟩ := bind_inv hb
  refine sc 18 rfl rfl (Yc_func (g := 225) (vs := [gR_ x]) k_call_225 rfl (mc rfl mn) (c_impl_IsValidRing x _  (hS7.inn0 [] rfl) hc)) ?_
  rintro _ w_6 ⟨rfl, hd⟩
  have hS8 := hS7.out00 hd
  refine sQ 19 (Y_not (p := r_2) rfl rfl) (rw_nil ?_)
  refine cw_cond (b := (!r_2)) rfl (fun hb1 => ?_) (fun hb1 => ?_)
  ·skip
   have hF2 := ct hb hb1
   refine cw_seq (cw_region ?_)
   refine sQ 20 (Y_buildS (zs := [vi 0, vi 0, vi 0, vi 0]) (vs := []) (cs := [vi 0, vi 0, vi 0, vi 0]) k_pl_52 k_zero_52 rfl mpn rfl) ?_
   refine s0 (Ys_store (i := 1) (s := 4) (B := aD b1) (T' := 52) (v := .agg #[vi 0, vi 0, vi 0, vi 0]) (vs := [vi 0, vi 0, vi 0, vi 0]) (k := 0) (cs' := [vi 0, vi 0, vi 0, vi 0]) hS8 k_sz_52_4 rfl (hf.get 4 1 rfl) rfl rfl rfl rfl rfl (lB rfl) rfl rfl) ?_
   rintro _ w_7 ⟨rfl, hS9⟩
   refine sQ 5 (Y_assign (v := .bool false) rfl rfl) (rw_nil (cw_ret ?_))
   obtain rfl := some_inj hF2
   obtain rfl := some_inj hL1
   obtain ⟨rfl, rfl⟩ := pr2 (some_inj hF1)
   exact ret2 Tryz.results245 (v1 := .agg #[vi 0, vi 0, vi 0, vi 0]) (resAt_cellA (B := aD b1) (i := 0) (cs := [vi 0, vi 0, vi 0, vi 0]) (vs := [vi 0, vi 0, vi 0, vi 0]) (hf.get 4 1 rfl) k_ag_52 k_sz_52_4 (hS9.cf (i := 1) rfl) rfl rfl) (v2 := .bool false) (resAt_tmp rfl) ⟨rfl, (hS9.sN [])⟩
  ·skip
   have hF3 := cf' hb hb1
   refine cw_skip (cw_region ?_)
   refine sQ 21 (Y_add (k := .i64) (a := (i : Int)) (b := 1) rfl (hf.get 13 4 rfl) rfl) ?_
   refine sQ 13 (Y_move (v := vi (i64.wrap ((i : Int) + 1))) rfl rfl) (rw_nil ?_)
   obtain rfl := some_inj hF3
   exact ⟨k_1, Nat.lt_succ_self _, i + 1, (FF.cons (hf.get 2 0 rfl) (FF.cons (hf.get 4 1 rfl) (FF.cons (hf.get 11 2 rfl) (FF.cons (hf.get 12 3 rfl) (FF.cons (congrArg (Value.int .i64) (wr_succ hlt1 hN)) FF.nil))))), (hS8.sel [0, 1, 2] rfl rfl), (by omega), hL1⟩
 ·skip
  obtain rfl : k_ = 0 := by have h := of_decide_eq_false hlt; omega
  refine cw_exit rfl ?_
  obtain rfl := some_inj hL
  refine cw_seq (cw_region ?_)
  refine sQ 22 (Y_loadA (B := aD b) (i := 0) (cs := kR_ out) (vs := kR_ out) k_ag_52 k_sz_52_4 rfl (hf.get 2 0 rfl) (hS5.cf (i := 0) rfl) rfl rfl) ?_
  refine s0 (Ys_store (i := 1) (s := 4) (B := aD b1) (T' := 52) (v := gR_ out) (vs := kR_ out) (k := 0) (cs' := kR_ out) hS5 k_sz_52_4 rfl (hf.get 4 1 rfl) rfl rfl rfl rfl rfl (lB rfl) rfl rfl) ?_
  rintro _ w_8 ⟨rfl, hS10⟩
  refine sQ 5 (Y_assign (v := .bool true) rfl rfl) (rw_nil (cw_ret ?_))
  obtain ⟨rfl, rfl⟩ := pr2 (some_inj hF1)
  exact ret2 Tryz.results245 (v1 := gR_ out) (resAt_cellA (B := aD b1) (i := 0) (cs := kR_ out) (vs := kR_ out) (hf.get 4 1 rfl) k_ag_52 k_sz_52_4 (hS10.cf (i := 1) rfl) rfl rfl) (v2 := .bool true) (resAt_tmp rfl) ⟨rfl, (hS10.sN [])⟩

theorem c_impl_MulRing (x : TRing) (y : TRing)  (w0 : World)  (hS : ST w0 [] w0 [] []) {r_ : TRing} {r_1 : Bool} (hF : F_impl_MulRing x y = some (r_, r_1)) :
  CV Tryz.prog 218 #[gR_ x, gR_ y] w0 (fun v w' => v = .tuple #[gR_ r_, .bool r_1] ∧ ST w0 [] w' [] []) := by
 unfold F_impl_MulRing at hF
 refine cv_of_cw 105 Tryz.func218 rfl Tryz.ntmps218 rfl ?_
 refine cw_seq (cw_region ?_)
 refine sS 2 (Ys_box (T := 52) (v := gR_ x) (cs := kR_ x) (m := 4) hS rfl rfl rfl rfl) ?_
 rintro _ w_ ⟨b, rfl, hS1⟩
 refine sS 3 (Ys_box (T := 52) (v := gR_ y) (cs := kR_ y) (m := 4) hS1 rfl rfl rfl rfl) ?_
 rintro _ w_1 ⟨b1, rfl, hS2⟩
 refine sS 4 (Ys_alloc (T := 52) (cs := [vi 0, vi 0, vi 0, vi 0]) (m := 4) hS2 k_zero_52 rfl rfl rfl) ?_
 rintro _ w_2 ⟨b2, rfl, hS3⟩
 refine sQ 5 (Y_assign (v := .bool false) rfl rfl) (rw_nil (cw_seq (cw_region ?_)))
 refine sQ 6 (Y_fieldAddr (B := aD b) (i := 0) (s := 0) k_fd_52_0_0_3 k_sz_3_1 rfl rfl) ?_
 refine sQ 7 (Y_load1 (B := aD b) (i := 0) (cs := kR_ x) (v := vi x.A) k_sc_3 rfl rfl (hS3.cf (i := 0) rfl) rfl) ?_
 refine sQ 8 (Y_fieldAddr (B := aD b1) (i := 0) (s := 0) k_fd_52_0_0_3 k_sz_3_1 rfl rfl) ?_
 refine sQ 9 (Y_load1 (B := aD b1) (i := 0) (cs := kR_ y) (v := vi y.A) k_sc_3 rfl rfl (hS3.cf (i := 1) rfl) rfl) ?_
 refine sQ 10 (Y_mul (k := .i64) (a := x.A) (b := y.A) rfl rfl rfl) ?_
 refine sQ 11 (Y_fieldAddr (B := aD b) (i := 0) (s := 0) k_fd_52_1_1_3 k_sz_3_1 rfl rfl) ?_
 refine sQ 12 (Y_load1 (B := aD b) (i := 1) (cs := kR_ x) (v := vi x.B) k_sc_3 rfl rfl (hS3.cf (i := 0) rfl) rfl) ?_
 refine sQ 13 (Y_fieldAddr (B := aD b1) (i := 0) (s := 0) k_fd_52_3_3_3 k_sz_3_1 rfl rfl) ?_
 refine sQ 14 (Y_load1 (B := aD b1) (i := 3) (cs := kR_ y) (v := vi y.D) k_sc_3 rfl rfl (hS3.cf (i := 1) rfl) rfl) ?_
 refine sQ 15 (Y_mul (k := .i64) (a := x.B) (b := y.D) rfl rfl rfl) ?_
 refine sQ 16 (Y_sub (k := .i64) (a := (i64.wrap (x.A * y.A))) (b := (i64.wrap (x.B * y.D))) rfl rfl rfl) ?_
 refine sQ 17 (Y_fieldAddr (B := aD b) (i := 0) (s := 0) k_fd_52_2_2_3 k_sz_3_1 rfl rfl) ?_
 refine sQ 18 (Y_load1 (B := aD b) (i := 2) (cs := kR_ x) (v := vi x.C) k_sc_3 rfl rfl (hS3.cf (i := 0) rfl) rfl) ?_
 refine sQ 19 (Y_fieldAddr (B := aD b1) (i := 0) (s := 0) k_fd_52_2_2_3 k_sz_3_1 rfl rfl) ?_
 refine sQ 20 (Y_load1 (B := aD b1) (i := 2) (cs := kR_ y) (v := vi y.C) k_sc_3 rfl rfl (hS3.cf (i := 1) rfl) rfl) ?_
 refine sQ 21 (Y_mul (k := .i64) (a := x.C) (b := y.C) rfl rfl rfl) ?_
 refine sQ 22 (Y_sub (k := .i64) (a := (i64.wrap ((i64.wrap (x.A * y.A)) - (i64.wrap (x.B * y.D))))) (b := (i64.wrap (x.C * y.C))) rfl rfl rfl) ?_
 refine sQ 23 (Y_fieldAddr (B := aD b) (i := 0) (s := 0) k_fd_52_3_3_3 k_sz_3_1 rfl rfl) ?_
 refine sQ 24 (Y_load1 (B := aD b) (i := 3) (cs := kR_ x) (v := vi x.D) k_sc_3 rfl rfl (hS3.cf (i := 0) rfl) rfl) ?_
 refine sQ 25 (Y_fieldAddr (B := aD b1) (i := 0) (s := 0) k_fd_52_1_1_3 k_sz_3_1 rfl rfl) ?_
 refine sQ 26 (Y_load1 (B := aD b1) (i := 1) (cs := kR_ y) (v := vi y.B) k_sc_3 rfl rfl (hS3.cf (i := 1) rfl) rfl) ?_
 refine sQ 27 (Y_mul (k := .i64) (a := x.D) (b := y.B) rfl rfl rfl) ?_
 refine sQ 28 (Y_sub (k := .i64) (a := (i64.wrap ((i64.wrap ((i64.wrap (x.A * y.A)) - (i64.wrap (x.B * y.D)))) - (i64.wrap (x.C * y.C))))) (b := (i64.wrap (x.D * y.B))) rfl rfl rfl) ?_
 refine sQ 29 (Y_fieldAddr (B := aD b) (i := 0) (s := 0) k_fd_52_0_0_3 k_sz_3_1 rfl rfl) ?_
 refine sQ 30 (Y_load1 (B := aD b) (i := 0) (cs := kR_ x) (v := vi x.A) k_sc_3 rfl rfl (hS3.cf (i := 0) rfl) rfl) ?_
 refine sQ 31 (Y_fieldAddr (B := aD b1) (i := 0) (s := 0) k_fd_52_1_1_3 k_sz_3_1 rfl rfl) ?_
 refine sQ 32 (Y_load1 (B := aD b1) (i := 1) (cs := kR_ y) (v := vi y.B) k_sc_3 rfl rfl (hS3.cf (i := 1) rfl) rfl) ?_
 refine sQ 33 (Y_mul (k := .i64) (a := x.A) (b := y.B) rfl rfl rfl) ?_
 refine sQ 34 (Y_fieldAddr (B := aD b) (i := 0) (s := 0) k_fd_52_1_1_3 k_sz_3_1 rfl rfl) ?_
 refine sQ 35 (Y_load1 (B := aD b) (i := 1) (cs := kR_ x) (v := vi x.B) k_sc_3 rfl rfl (hS3.cf (i := 0) rfl) rfl) ?_
 refine sQ 36 (Y_fieldAddr (B := aD b1) (i := 0) (s := 0) k_fd_52_0_0_3 k_sz_3_1 rfl rfl) ?_
 refine sQ 37 (Y_load1 (B := aD b1) (i := 0) (cs := kR_ y) (v := vi y.A) k_sc_3 rfl rfl (hS3.cf (i := 1) rfl) rfl) ?_
 refine sQ 38 (Y_mul (k := .i64) (a := x.B) (b := y.A) rfl rfl rfl) ?_
 refine sQ 39 (Y_add (k := .i64) (a := (i64.wrap (x.A * y.B))) (b := (i64.wrap (x.B * y.A))) rfl rfl rfl) ?_
 refine sQ 40 (Y_fieldAddr (B := aD b) (i := 0) (s := 0) k_fd_52_2_2_3 k_sz_3_1 rfl rfl) ?_
 refine sQ 41 (Y_load1 (B := aD b) (i := 2) (cs := kR_ x) (v := vi x.C) k_sc_3 rfl rfl (hS3.cf (i := 0) rfl) rfl) ?_
 refine sQ 42 (Y_fieldAddr (B := aD b1) (i := 0) (s := 0) k_fd_52_3_3_3 k_sz_3_1 rfl rfl) ?_
 refine sQ 43 (Y_load1 (B := aD b1) (i := 3) (cs := kR_ y) (v := vi y.D) k_sc_3 rfl rfl (hS3.cf (i := 1) rfl) rfl) ?_
 refine sQ 44 (Y_mul (k := .i64) (a := x.C) (b := y.D) rfl rfl rfl) ?_
 refine sQ 45 (Y_sub (k := .i64) (a := (i64.wrap ((i64.wrap (x.A * y.B)) + (i64.wrap (x.B * y.A))))) (b := (i64.wrap (x.C * y.D))) rfl rfl rfl) ?_
 refine sQ 46 (Y_fieldAddr (B := aD b) (i := 0) (s := 0) k_fd_52_3_3_3 k_sz_3_1 rfl rfl) ?_
 refine sQ 47 (Y_load1 (B := aD b) (i := 3) (cs := kR_ x) (v := vi x.D) k_sc_3 rfl rfl (hS3.cf (i := 0) rfl) rfl) ?_
 refine sQ 48 (Y_fieldAddr (B := aD b1) (i := 0) (s := 0) k_fd_52_2_2_3 k_sz_3_1 rfl rfl) ?_
 refine sQ 49 (Y_load1 (B := aD b1) (i := 2) (cs := kR_ y) (v := vi y.C) k_sc_3 rfl rfl (hS3.cf (i := 1) rfl) rfl) ?_
 refine sQ 50 (Y_mul (k := .i64) (a := x.D) (b := y.C) rfl rfl rfl) ?_
 refine sQ 51 (Y_sub (k := .i64) (a := (i64.wrap ((i64.wrap ((i64.wrap (x.A * y.B)) + (i64.wrap (x.B * y.A)))) - (i64.wrap (x.C * y.D))))) (b := (i64.wrap (x.D * y.C))) rfl rfl rfl) ?_
 refine sQ 52 (Y_fieldAddr (B := aD b) (i := 0) (s := 0) k_fd_52_0_0_3 k_sz_3_1 rfl rfl) ?_
 refine sQ 53 (Y_load1 (B := aD b) (i := 0) (cs := kR_ x) (v := vi x.A) k_sc_3 rfl rfl (hS3.cf (i := 0) rfl) rfl) ?_
 refine sQ 54 (Y_fieldAddr (B := aD b1) (i := 0) (s := 0) k_fd_52_2_2_3 k_sz_3_1 rfl rfl) ?_
 refine sQ 55 (Y_load1 (B := aD b1) (i := 2) (cs := kR_ y) (v := vi y.C) k_sc_3 rfl rfl (hS3.cf (i := 1) rfl) rfl) ?_
 refine sQ 56 (Y_mul (k := .i64) (a := x.A) (b := y.C) rfl rfl rfl) ?_
 refine sQ 57 (Y_fieldAddr (B := aD b) (i := 0) (s := 0) k_fd_52_1_1_3 k_sz_3_1 rfl rfl) ?_
 refine sQ 58 (Y_load1 (B := aD b) (i := 1) (cs := kR_ x) (v := vi x.B) k_sc_3 rfl rfl (hS3.cf (i := 0) rfl) rfl) ?_
 refine sQ 59 (Y_fieldAddr (B := aD b1) (i := 0) (s := 0) k_fd_52_1_1_3 k_sz_3_1 rfl rfl) ?_
 refine sQ 60 (Y_load1 (B := aD b1) (i := 1) (cs := kR_ y) (v := vi y.B) k_sc_3 rfl rfl (hS3.cf (i := 1) rfl) rfl) ?_
 refine sQ 61 (Y_mul (k := .i64) (a := x.B) (b := y.B) rfl rfl rfl) ?_
 refine sQ 62 (Y_add (k := .i64) (a := (i64.wrap (x.A * y.C))) (b := (i64.wrap (x.B * y.B))) rfl rfl rfl) ?_
 refine sQ 63 (Y_fieldAddr (B := aD b) (i := 0) (s := 0) k_fd_52_2_2_3 k_sz_3_1 rfl rfl) ?_
 refine sQ 64 (Y_load1 (B := aD b) (i := 2) (cs := kR_ x) (v := vi x.C) k_sc_3 rfl rfl (hS3.cf (i := 0) rfl) rfl) ?_
 refine sQ 65 (Y_fieldAddr (B := aD b1) (i := 0) (s := 0) k_fd_52_0_0_3 k_sz_3_1 rfl rfl) ?_
 refine sQ 66 (Y_load1 (B := aD b1) (i := 0) (cs := kR_ y) (v := vi y.A) k_sc_3 rfl rfl (hS3.cf (i := 1) rfl) rfl) ?_
 refine sQ 67 (Y_mul (k := .i64) (a := x.C) (b := y.A) rfl rfl rfl) ?_
 refine sQ 68 (Y_add (k := .i64) (a := (i64.wrap ((i64.wrap (x.A * y.C)) + (i64.wrap (x.B * y.B))))) (b := (i64.wrap (x.C * y.A))) rfl rfl rfl) ?_
 refine sQ 69 (Y_fieldAddr (B := aD b) (i := 0) (s := 0) k_fd_52_3_3_3 k_sz_3_1 rfl rfl) ?_
 refine sQ 70 (Y_load1 (B := aD b) (i := 3) (cs := kR_ x) (v := vi x.D) k_sc_3 rfl rfl (hS3.cf (i := 0) rfl) rfl) ?_
 refine sQ 71 (Y_fieldAddr (B := aD b1) (i := 0) (s := 0) k_fd_52_3_3_3 k_sz_3_1 rfl rfl) ?_
 refine sQ 72 (Y_load1 (B := aD b1) (i := 3) (cs := kR_ y) (v := vi y.D) k_sc_3 rfl rfl (hS3.cf (i := 1) rfl) rfl) ?_
 refine sQ 73 (Y_mul (k := .i64) (a := x.D) (b := y.D) rfl rfl rfl) ?_
 refine sQ 74 (Y_sub (k := .i64) (a := (i64.wrap ((i64.wrap ((i64.wrap (x.A * y.C)) + (i64.wrap (x.B * y.B)))) + (i64.wrap (x.C * y.A))))) (b := (i64.wrap (x.D * y.D))) rfl rfl rfl) ?_
 refine sQ 75 (Y_fieldAddr (B := aD b) (i := 0) (s := 0) k_fd_52_0_0_3 k_sz_3_1 rfl rfl) ?_
 refine sQ 76 (Y_load1 (B := aD b) (i := 0) (cs := kR_ x) (v := vi x.A) k_sc_3 rfl rfl (hS3.cf (i := 0) rfl) rfl) ?_
 refine sQ 77 (Y_fieldAddr (B := aD b1) (i := 0) (s := 0) k_fd_52_3_3_3 k_sz_3_1 rfl rfl) ?_
 refine sQ 78 (Y_load1 (B := aD b1) (i := 3) (cs := kR_ y) (v := vi y.D) k_sc_3 rfl rfl (hS3.cf (i := 1) rfl) rfl) ?_
 refine sQ 79 (Y_mul (k := .i64) (a := x.A) (b := y.D) rfl rfl rfl) ?_
 refine sQ 80 (Y_fieldAddr (B := aD b) (i := 0) (s := 0) k_fd_52_1_1_3 k_sz_3_1 rfl rfl) ?_
 refine sQ 81 (Y_load1 (B := aD b) (i := 1) (cs := kR_ x) (v := vi x.B) k_sc_3 rfl rfl (hS3.cf (i := 0) rfl) rfl) ?_
 refine sQ 82 (Y_fieldAddr (B := aD b1) (i := 0) (s := 0) k_fd_52_2_2_3 k_sz_3_1 rfl rfl) ?_
 refine sQ 83 (Y_load1 (B := aD b1) (i := 2) (cs := kR_ y) (v := vi y.C) k_sc_3 rfl rfl (hS3.cf (i := 1) rfl) rfl) ?_
 refine sQ 84 (Y_mul (k := .i64) (a := x.B) (b := y.C) rfl rfl rfl) ?_
 refine sQ 85 (Y_add (k := .i64) (a := (i64.wrap (x.A * y.D))) (b := (i64.wrap (x.B * y.C))) rfl rfl rfl) ?_
 refine sQ 86 (Y_fieldAddr (B := aD b) (i := 0) (s := 0) k_fd_52_2_2_3 k_sz_3_1 rfl rfl) ?_
 refine sQ 87 (Y_load1 (B := aD b) (i := 2) (cs := kR_ x) (v := vi x.C) k_sc_3 rfl rfl (hS3.cf (i := 0) rfl) rfl) ?_
 refine sQ 88 (Y_fieldAddr (B := aD b1) (i := 0) (s := 0) k_fd_52_1_1_3 k_sz_3_1 rfl rfl) ?_
 refine sQ 89 (Y_load1 (B := aD b1) (i := 1) (cs := kR_ y) (v := vi y.B) k_sc_3 rfl rfl (hS3.cf (i := 1) rfl) rfl) ?_
 refine sQ 90 (Y_mul (k := .i64) (a := x.C) (b := y.B) rfl rfl rfl) ?_
 refine sQ 91 (Y_add (k := .i64) (a := (i64.wrap ((i64.wrap (x.A * y.D)) + (i64.wrap (x.B * y.C))))) (b := (i64.wrap (x.C * y.B))) rfl rfl rfl) ?_
 refine sQ 92 (Y_fieldAddr (B := aD b) (i := 0) (s := 0) k_fd_52_3_3_3 k_sz_3_1 rfl rfl) ?_
 refine sQ 93 (Y_load1 (B := aD b) (i := 3) (cs := kR_ x) (v := vi x.D) k_sc_3 rfl rfl (hS3.cf (i := 0) rfl) rfl) ?_
 refine sQ 94 (Y_fieldAddr (B := aD b1) (i := 0) (s := 0) k_fd_52_0_0_3 k_sz_3_1 rfl rfl) ?_
 refine sQ 95 (Y_load1 (B := aD b1) (i := 0) (cs := kR_ y) (v := vi y.A) k_sc_3 rfl rfl (hS3.cf (i := 1) rfl) rfl) ?_
 refine sQ 96 (Y_mul (k := .i64) (a := x.D) (b := y.A) rfl rfl rfl) ?_
 refine sQ 97 (Y_add (k := .i64) (a := (i64.wrap ((i64.wrap ((i64.wrap (x.A * y.D)) + (i64.wrap (x.B * y.C)))) + (i64.wrap (x.C * y.B))))) (b := (i64.wrap (x.D * y.A))) rfl rfl rfl) ?_
 refine sQ 98 (Y_buildS (zs := [vi 0, vi 0, vi 0, vi 0]) (vs := [(0, vi (i64.wrap ((i64.wrap ((i64.wrap ((i64.wrap (x.A * y.A)) - (i64.wrap (x.B * y.D)))) - (i64.wrap (x.C * y.C)))) - (i64.wrap (x.D * y.B))))), (1, vi (i64.wrap ((i64.wrap ((i64.wrap ((i64.wrap (x.A * y.B)) + (i64.wrap (x.B * y.A)))) - (i64.wrap (x.C * y.D)))) - (i64.wrap (x.D * y.C))))), (2, vi (i64.wrap ((i64.wrap ((i64.wrap ((i64.wrap (x.A * y.C)) + (i64.wrap (x.B * y.B)))) + (i64.wrap (x.C * y.A)))) - (i64.wrap (x.D * y.D))))), (3, vi (i64.wrap ((i64.wrap ((i64.wrap ((i64.wrap (x.A * y.D)) + (i64.wrap (x.B * y.C)))) + (i64.wrap (x.C * y.B)))) + (i64.wrap (x.D * y.A)))))]) (cs := [vi (i64.wrap ((i64.wrap ((i64.wrap ((i64.wrap (x.A * y.A)) - (i64.wrap (x.B * y.D)))) - (i64.wrap (x.C * y.C)))) - (i64.wrap (x.D * y.B)))), vi (i64.wrap ((i64.wrap ((i64.wrap ((i64.wrap (x.A * y.B)) + (i64.wrap (x.B * y.A)))) - (i64.wrap (x.C * y.D)))) - (i64.wrap (x.D * y.C)))), vi (i64.wrap ((i64.wrap ((i64.wrap ((i64.wrap (x.A * y.C)) + (i64.wrap (x.B * y.B)))) + (i64.wrap (x.C * y.A)))) - (i64.wrap (x.D * y.D)))), vi (i64.wrap ((i64.wrap ((i64.wrap ((i64.wrap (x.A * y.D)) + (i64.wrap (x.B * y.C)))) + (i64.wrap (x.C * y.B)))) + (i64.wrap (x.D * y.A))))]) k_pl_52 k_zero_52 rfl (mpc rfl (mpc rfl (mpc rfl (mpc rfl mpn)))) rfl) ?_
 refine sQ 99 (Y_loadA (B := aD b) (i := 0) (cs := kR_ x) (vs := kR_ x) k_ag_52 k_sz_52_4 rfl rfl (hS3.cf (i := 0) rfl) rfl rfl) ?_
 refine sQ 100 (Y_loadA (B := aD b1) (i := 0) (cs := kR_ y) (vs := kR_ y) k_ag_52 k_sz_52_4 rfl rfl (hS3.cf (i := 1) rfl) rfl rfl) ?_
 refine sS 101 (Ys_bslice (s := 4) (len := 2) (vs := [(0, gR_ x), (1, gR_ y)]) (cs := [vi x.A, vi x.B, vi x.C, vi x.D, vi y.A, vi y.B, vi y.C, vi y.D]) (zs := [vi 0, vi 0, vi 0, vi 0, vi 0, vi 0, vi 0, vi 0]) (m := 8) hS3 k_sl_234_52 k_sz_52_4 k_zc_52 rfl (mpc rfl (mpc rfl mpn)) rfl rfl rfl (by kernel_rfl) (by kernel_rfl) rfl) ?_
 rintro _ w_3 ⟨b3, rfl, hS4⟩
 obtain ⟨⟨r_2, r_3⟩, hc, hF⟩ := bind_inv hF
 refine sc 102 rfl rfl (Yc_func (g := 245) (vs := [.agg #[vi (i64.wrap ((i64.wrap ((i64.wrap ((i64.wrap (x.A * y.A)) - (i64.wrap (x.B * y.D)))) - (i64.wrap (x.C * y.C)))) - (i64.wrap (x.D * y.B)))), vi (i64.wrap ((i64.wrap ((i64.wrap ((i64.wrap (x.A * y.B)) + (i64.wrap (x.B * y.A)))) - (i64.wrap (x.C * y.D)))) - (i64.wrap (x.D * y.C)))), vi (i64.wrap ((i64.wrap ((i64.wrap ((i64.wrap (x.A * y.C)) + (i64.wrap (x.B * y.B)))) + (i64.wrap (x.C * y.A)))) - (i64.wrap (x.D * y.D)))), vi (i64.wrap ((i64.wrap ((i64.wrap ((i64.wrap (x.A * y.D)) + (i64.wrap (x.B * y.C)))) + (i64.wrap (x.C * y.B)))) + (i64.wrap (x.D * y.A))))], .slice (aD b3) 2 2]) k_call_245 rfl (mc rfl (mc rfl mn)) (c_impl_ringIf (TRing.mk (i64.wrap ((i64.wrap ((i64.wrap ((i64.wrap (x.A * y.A)) - (i64.wrap (x.B * y.D)))) - (i64.wrap (x.C * y.C)))) - (i64.wrap (x.D * y.B)))) (i64.wrap ((i64.wrap ((i64.wrap ((i64.wrap (x.A * y.B)) + (i64.wrap (x.B * y.A)))) - (i64.wrap (x.C * y.D)))) - (i64.wrap (x.D * y.C)))) (i64.wrap ((i64.wrap ((i64.wrap ((i64.wrap (x.A * y.C)) + (i64.wrap (x.B * y.B)))) + (i64.wrap (x.C * y.A)))) - (i64.wrap (x.D * y.D)))) (i64.wrap ((i64.wrap ((i64.wrap ((i64.wrap (x.A * y.D)) + (i64.wrap (x.B * y.C)))) + (i64.wrap (x.C * y.B)))) + (i64.wrap (x.D * y.A))))) [x, y] (aD b3) 2 2 _ rfl (hS4.inn [false, false, false, true] rfl [] rfl) hc)) ?_
 rintro _ w_4 ⟨rfl, hd⟩
 have hS5 := hS4.out [false, false, false, true] rfl hd
 refine sQ 103 (Y_extract (v := gR_ r_2) rfl rfl rfl) ?_
 refine sQ 104 (Y_extract (v := .bool r_3) rfl rfl rfl) ?_
 refine s0 (Ys_store (i := 2) (s := 4) (B := aD b2) (T' := 52) (v := gR_ r_2) (vs := kR_ r_2) (k := 0) (cs' := kR_ r_2) hS5 k_sz_52_4 rfl rfl rfl rfl rfl rfl rfl (lB rfl) rfl rfl) ?_
 rintro _ w_5 ⟨rfl, hS6⟩
 refine sQ 5 (Y_assign (v := .bool r_3) rfl rfl) (rw_nil (cw_ret ?_))
 obtain ⟨rfl, rfl⟩ := pr2 (some_inj hF)
 exact ret2 Tryz.results218 (v1 := gR_ r_2) (resAt_cellA (B := aD b2) (i := 0) (cs := kR_ r_2) (vs := kR_ r_2) rfl k_ag_52 k_sz_52_4 (hS6.cf (i := 2) rfl) rfl rfl) (v2 := .bool r_3) (resAt_tmp rfl) ⟨rfl, (hS6.sN [])⟩

theorem c_impl_DivRootTwo (x : TRing)  (w0 : World)  (hS : ST w0 [] w0 [] []) {r_ : TRing} {r_1 : Bool} (hF : F_impl_DivRootTwo x = some (r_, r_1)) :
  CV Tryz.prog 246 #[gR_ x] w0 (fun v w' => v = .tuple #[gR_ r_, .bool r_1] ∧ ST w0 [] w' [] []) := by
 unfold F_impl_DivRootTwo at hF
 refine cv_of_cw 43 Tryz.func246 rfl Tryz.ntmps246 rfl ?_
 refine cw_seq (cw_region ?_)
 refine sS 1 (Ys_box (T := 52) (v := gR_ x) (cs := kR_ x) (m := 4) hS rfl rfl rfl rfl) ?_
 rintro _ w_ ⟨b, rfl, hS1⟩
 refine sS 2 (Ys_alloc (T := 52) (cs := [vi 0, vi 0, vi 0, vi 0]) (m := 4) hS1 k_zero_52 rfl rfl rfl) ?_
 rintro _ w_1 ⟨b1, rfl, hS2⟩
 refine sQ 3 (Y_assign (v := .bool false) rfl rfl) (rw_nil (cw_seq (cw_seq (cw_region ?_))))
 refine sQ 4 (Y_loadA (B := aD b) (i := 0) (cs := kR_ x) (vs := kR_ x) k_ag_52 k_sz_52_4 rfl rfl (hS2.cf (i := 0) rfl) rfl rfl) ?_
 obtain ⟨r_2, hc, hF⟩ := bind_inv hF
 refine sc 5 rfl rfl (Yc_func (g := 225) (vs := [gR_ x]) k_call_225 rfl (mc rfl mn) (c_impl_IsValidRing x _  (hS2.inn0 [] rfl) hc)) ?_
 rintro _ w_2 ⟨rfl, hd⟩
 have hS3 := hS2.out00 hd
 refine sQ 6 (Y_not (p := r_2) rfl rfl) ?_
 refine sQ 7 (Y_move (v := .bool (!r_2)) rfl rfl) ?_
 refine sgq 8 (B := (!(!r_2))) (v := gR_ x) rfl rfl (uF_ 7) (fun hg => (Y_loadA (B := aD b) (i := 0) (cs := kR_ x) (vs := kR_ x) k_ag_52 k_sz_52_4 rfl rfl (hS3.cf (i := 0) rfl) rfl rfl)) ?_
 obtain ⟨r_3, hc1, hF⟩ := bind_inv hF
 refine sgc 9 (B := (!(!r_2))) (v := .bool r_3) (F := hS3.fn) rfl rfl (uF_ 7) hS3 (fun hg1 => (Yc_func (g := 226) (vs := [gR_ x]) k_call_226 rfl (mc (gv_of (v := gR_ x) hg1) mn) (CV.mono (c_impl_isEven x _  (hS3.inn0 [] rfl) (gb_inv hc1 hg1)) (by rintro _ _ ⟨rfl, h⟩; exact ⟨rfl, hS3.out00 h⟩)))) ?_
 rintro w_3 hS4
 refine sgq 10 (B := (!(!r_2))) (v := .bool (!r_3)) rfl rfl (uF_ 7) (fun hg2 => (Y_not (p := r_3) rfl (gv_of (v := .bool r_3) hg2))) ?_
 refine sQ 11 (Y_or (b := (!r_2)) (z := (!r_3)) rfl rfl rfl rfl) (rw_nil ?_)
 refine cw_cond (b := ((!r_2) || (!r_3))) rfl (fun hb => ?_) (fun hb => ?_)
 ·skip
  have hF1 := ct hF hb
  refine cw_seq (cw_region ?_)
  refine sQ 12 (Y_buildS (zs := [vi 0, vi 0, vi 0, vi 0]) (vs := []) (cs := [vi 0, vi 0, vi 0, vi 0]) k_pl_52 k_zero_52 rfl mpn rfl) ?_
  refine s0 (Ys_store (i := 1) (s := 4) (B := aD b1) (T' := 52) (v := .agg #[vi 0, vi 0, vi 0, vi 0]) (vs := [vi 0, vi 0, vi 0, vi 0]) (k := 0) (cs' := [vi 0, vi 0, vi 0, vi 0]) hS4 k_sz_52_4 rfl rfl rfl rfl rfl rfl rfl (lB rfl) rfl rfl) ?_
  rintro _ w_4 ⟨rfl, hS5⟩
  refine sQ 3 (Y_assign (v := .bool false) rfl rfl) (rw_nil (cw_ret ?_))
  obtain ⟨rfl, rfl⟩ := pr2 (some_inj hF1)
  exact ret2 Tryz.results246 (v1 := .agg #[vi 0, vi 0, vi 0, vi 0]) (resAt_cellA (B := aD b1) (i := 0) (cs := [vi 0, vi 0, vi 0, vi 0]) (vs := [vi 0, vi 0, vi 0, vi 0]) rfl k_ag_52 k_sz_52_4 (hS5.cf (i := 1) rfl) rfl rfl) (v2 := .bool false) (resAt_tmp rfl) ⟨rfl, (hS5.sN [])⟩
 ·skip
  have hF2 := cf' hF hb
  refine cw_skip (cw_seq (cw_region ?_))
  refine sQ 13 (Y_fieldAddr (B := aD b) (i := 0) (s := 0) k_fd_52_1_1_3 k_sz_3_1 rfl rfl) ?_
  refine sQ 14 (Y_load1 (B := aD b) (i := 1) (cs := kR_ x) (v := vi x.B) k_sc_3 rfl rfl (hS4.cf (i := 0) rfl) rfl) ?_
  refine sQ 15 (Y_fieldAddr (B := aD b) (i := 0) (s := 0) k_fd_52_3_3_3 k_sz_3_1 rfl rfl) ?_
  refine sQ 16 (Y_load1 (B := aD b) (i := 3) (cs := kR_ x) (v := vi x.D) k_sc_3 rfl rfl (hS4.cf (i := 0) rfl) rfl) ?_
  refine sQ 17 (Y_sub (k := .i64) (a := x.B) (b := x.D) rfl rfl rfl) ?_
  refine sQ 18 (Y_quo (k := .i64) (a := (i64.wrap (x.B - x.D))) (b := 2) rfl rfl rfl (by decide)) ?_
  refine sQ 19 (Y_fieldAddr (B := aD b) (i := 0) (s := 0) k_fd_52_0_0_3 k_sz_3_1 rfl rfl) ?_
  refine sQ 20 (Y_load1 (B := aD b) (i := 0) (cs := kR_ x) (v := vi x.A) k_sc_3 rfl rfl (hS4.cf (i := 0) rfl) rfl) ?_
  refine sQ 21 (Y_fieldAddr (B := aD b) (i := 0) (s := 0) k_fd_52_2_2_3 k_sz_3_1 rfl rfl) ?_
  refine sQ 22 (Y_load1 (B := aD b) (i := 2) (cs := kR_ x) (v := vi x.C) k_sc_3 rfl rfl (hS4.cf (i := 0) rfl) rfl) ?_
  refine sQ 23 (Y_add (k := .i64) (a := x.A) (b := x.C) rfl rfl rfl) ?_
  refine sQ 24 (Y_quo (k := .i64) (a := (i64.wrap (x.A + x.C))) (b := 2) rfl rfl rfl (by decide)) ?_
  refine sQ 25 (Y_fieldAddr (B := aD b) (i := 0) (s := 0) k_fd_52_1_1_3 k_sz_3_1 rfl rfl) ?_
  refine sQ 26 (Y_load1 (B := aD b) (i := 1) (cs := kR_ x) (v := vi x.B) k_sc_3 rfl rfl (hS4.cf (i := 0) rfl) rfl) ?_
  refine sQ 27 (Y_fieldAddr (B := aD b) (i := 0) (s := 0) k_fd_52_3_3_3 k_sz_3_1 rfl rfl) ?_
  refine sQ 28 (Y_load1 (B := aD b) (i := 3) (cs := kR_ x) (v := vi x.D) k_sc_3 rfl rfl (hS4.cf (i := 0) rfl) rfl) ?_
  refine sQ 29 (Y_add (k := .i64) (a := x.B) (b := x.D) rfl rfl rfl) ?_
  refine sQ 30 (Y_quo (k := .i64) (a := (i64.wrap (x.B + x.D))) (b := 2) rfl rfl rfl (by decide)) ?_
  refine sQ 31 (Y_fieldAddr (B := aD b) (i := 0) (s := 0) k_fd_52_2_2_3 k_sz_3_1 rfl rfl) ?_
  refine sQ 32 (Y_load1 (B := aD b) (i := 2) (cs := kR_ x) (v := vi x.C) k_sc_3 rfl rfl (hS4.cf (i := 0) rfl) rfl) ?_
  refine sQ 33 (Y_fieldAddr (B := aD b) (i := 0) (s := 0) k_fd_52_0_0_3 k_sz_3_1 rfl rfl) ?_
  refine sQ 34 (Y_load1 (B := aD b) (i := 0) (cs := kR_ x) (v := vi x.A) k_sc_3 rfl rfl (hS4.cf (i := 0) rfl) rfl) ?_
  refine sQ 35 (Y_sub (k := .i64) (a := x.C) (b := x.A) rfl rfl rfl) ?_
  refine sQ 36 (Y_quo (k := .i64) (a := (i64.wrap (x.C - x.A))) (b := 2) rfl rfl rfl (by decide)) ?_
  refine sQ 37 (Y_buildS (zs := [vi 0, vi 0, vi 0, vi 0]) (vs := [(0, vi (i64.wrap (Int.tdiv (i64.wrap (x.B - x.D)) 2))), (1, vi (i64.wrap (Int.tdiv (i64.wrap (x.A + x.C)) 2))), (2, vi (i64.wrap (Int.tdiv (i64.wrap (x.B + x.D)) 2))), (3, vi (i64.wrap (Int.tdiv (i64.wrap (x.C - x.A)) 2)))]) (cs := [vi (i64.wrap (Int.tdiv (i64.wrap (x.B - x.D)) 2)), vi (i64.wrap (Int.tdiv (i64.wrap (x.A + x.C)) 2)), vi (i64.wrap (Int.tdiv (i64.wrap (x.B + x.D)) 2)), vi (i64.wrap (Int.tdiv (i64.wrap (x.C - x.A)) 2))]) k_pl_52 k_zero_52 rfl (mpc rfl (mpc rfl (mpc rfl (mpc rfl mpn)))) rfl) ?_
  refine sQ 38 (Y_loadA (B := aD b) (i := 0) (cs := kR_ x) (vs := kR_ x) k_ag_52 k_sz_52_4 rfl rfl (hS4.cf (i := 0) rfl) rfl rfl) ?_
  refine sS 39 (Ys_bslice (s := 4) (len := 1) (vs := [(0, gR_ x)]) (cs := kR_ x) (zs := [vi 0, vi 0, vi 0, vi 0]) (m := 4) hS4 k_sl_234_52 k_sz_52_4 k_zc_52 rfl (mpc rfl mpn) rfl rfl rfl (by kernel_rfl) (by kernel_rfl) rfl) ?_
  rintro _ w_5 ⟨b2, rfl, hS6⟩
  obtain ⟨⟨r_4, r_5⟩, hc2, hF2⟩ := bind_inv hF2
  refine sc 40 rfl rfl (Yc_func (g := 245) (vs := [.agg #[vi (i64.wrap (Int.tdiv (i64.wrap (x.B - x.D)) 2)), vi (i64.wrap (Int.tdiv (i64.wrap (x.A + x.C)) 2)), vi (i64.wrap (Int.tdiv (i64.wrap (x.B + x.D)) 2)), vi (i64.wrap (Int.tdiv (i64.wrap (x.C - x.A)) 2))], .slice (aD b2) 1 1]) k_call_245 rfl (mc rfl (mc rfl mn)) (c_impl_ringIf (TRing.mk (i64.wrap (Int.tdiv (i64.wrap (x.B - x.D)) 2)) (i64.wrap (Int.tdiv (i64.wrap (x.A + x.C)) 2)) (i64.wrap (Int.tdiv (i64.wrap (x.B + x.D)) 2)) (i64.wrap (Int.tdiv (i64.wrap (x.C - x.A)) 2))) [x] (aD b2) 1 1 _ rfl (hS6.inn [false, false, true] rfl [] rfl) hc2)) ?_
  rintro _ w_6 ⟨rfl, hd1⟩
  have hS7 := hS6.out [false, false, true] rfl hd1
  refine sQ 41 (Y_extract (v := gR_ r_4) rfl rfl rfl) ?_
  refine sQ 42 (Y_extract (v := .bool r_5) rfl rfl rfl) ?_
  refine s0 (Ys_store (i := 1) (s := 4) (B := aD b1) (T' := 52) (v := gR_ r_4) (vs := kR_ r_4) (k := 0) (cs' := kR_ r_4) hS7 k_sz_52_4 rfl rfl rfl rfl rfl rfl rfl (lB rfl) rfl rfl) ?_
  rintro _ w_7 ⟨rfl, hS8⟩
  refine sQ 3 (Y_assign (v := .bool r_5) rfl rfl) (rw_nil (cw_ret ?_))
  obtain ⟨rfl, rfl⟩ := pr2 (some_inj hF2)
  exact ret2 Tryz.results246 (v1 := gR_ r_4) (resAt_cellA (B := aD b1) (i := 0) (cs := kR_ r_4) (vs := kR_ r_4) rfl k_ag_52 k_sz_52_4 (hS8.cf (i := 1) rfl) rfl rfl) (v2 := .bool r_5) (resAt_tmp rfl) ⟨rfl, (hS8.sN [])⟩

theorem c_impl_DyadicOf (num : TRing) (exp : Int)  (w0 : World)  (hS : ST w0 [] w0 [] []) {r_ : TDyadic} {r_1 : Bool} (hF : F_impl_DyadicOf num exp = some (r_, r_1)) :
  CV Tryz.prog 219 #[gR_ num, vi exp] w0 (fun v w' => v = .tuple #[gD_ r_, .bool r_1] ∧ ST w0 [] w' [] []) := by
 unfold F_impl_DyadicOf at hF
 refine cv_of_cw 31 Tryz.func219 rfl Tryz.ntmps219 rfl ?_
 refine cw_seq (cw_region ?_)
 refine sS 2 (Ys_box (T := 52) (v := gR_ num) (cs := kR_ num) (m := 4) hS rfl rfl rfl rfl) ?_
 rintro _ w_ ⟨b, rfl, hS1⟩
 refine sS 4 (Ys_alloc (T := 54) (cs := kZ_) (m := 5) hS1 k_zero_54 rfl rfl rfl) ?_
 rintro _ w_1 ⟨b1, rfl, hS2⟩
 refine sQ 5 (Y_assign (v := .bool false) rfl rfl) (rw_nil (cw_seq (cw_seq (cw_region ?_))))
 refine sQ 6 (Y_loadA (B := aD b) (i := 0) (cs := kR_ num) (vs := kR_ num) k_ag_52 k_sz_52_4 rfl rfl (hS2.cf (i := 0) rfl) rfl rfl) ?_
 obtain ⟨r_2, hc, hF⟩ := bind_inv hF
 refine sc 7 rfl rfl (Yc_func (g := 225) (vs := [gR_ num]) k_call_225 rfl (mc rfl mn) (c_impl_IsValidRing num _  (hS2.inn0 [] rfl) hc)) ?_
 rintro _ w_2 ⟨rfl, hd⟩
 have hS3 := hS2.out00 hd
 refine sQ 8 (Y_not (p := r_2) rfl rfl) ?_
 refine sQ 9 (Y_move (v := .bool (!r_2)) rfl rfl) ?_
 refine sgq 10 (B := (!(!r_2))) (v := vi exp) rfl rfl (uF_ 9) (fun hg => (Y_move (v := vi exp) rfl rfl)) ?_
 obtain ⟨r_3, hc1, hF⟩ := bind_inv hF
 refine sgc 11 (B := (!(!r_2))) (v := .bool r_3) (F := hS3.fn) rfl rfl (uF_ 9) hS3 (fun hg1 => (Yc_func (g := 74) (vs := [vi exp, vi 0, vi 60]) k_call_74 rfl (mc (gv_of (v := vi exp) hg1) (mc rfl (mc rfl mn))) (CV.mono (c_impl_within exp 0 60 _  (hS3.inn0 [] rfl) (gb_inv hc1 hg1)) (by rintro _ _ ⟨rfl, h⟩; exact ⟨rfl, hS3.out00 h⟩)))) ?_
 rintro w_3 hS4
 refine sgq 12 (B := (!(!r_2))) (v := .bool (!r_3)) rfl rfl (uF_ 9) (fun hg2 => (Y_not (p := r_3) rfl (gv_of (v := .bool r_3) hg2))) ?_
 refine sQ 13 (Y_or (b := (!r_2)) (z := (!r_3)) rfl rfl rfl rfl) (rw_nil ?_)
 refine cw_cond (b := ((!r_2) || (!r_3))) rfl (fun hb => ?_) (fun hb => ?_)
 ·skip
  have hF1 := ct hF hb
  refine cw_seq (cw_region ?_)
  refine sQ 14 (Y_buildS (zs := kZ_) (vs := []) (cs := kZ_) k_pl_54 k_zero_54 rfl mpn rfl) ?_
  refine s0 (Ys_store (i := 1) (s := 5) (B := aD b1) (T' := 54) (v := gZ_) (vs := kZ_) (k := 0) (cs' := kZ_) hS4 k_sz_54_5 rfl rfl rfl rfl rfl rfl rfl (lB rfl) rfl rfl) ?_
  rintro _ w_4 ⟨rfl, hS5⟩
  refine sQ 5 (Y_assign (v := .bool false) rfl rfl) (rw_nil (cw_ret ?_))
  obtain ⟨rfl, rfl⟩ := pr2 (some_inj hF1)
  exact ret2 Tryz.results219 (v1 := gZ_) (resAt_cellA (B := aD b1) (i := 0) (cs := kZ_) (vs := kZ_) rfl k_ag_54 k_sz_54_5 (hS5.cf (i := 1) rfl) rfl rfl) (v2 := .bool false) (resAt_tmp rfl) ⟨rfl, (hS5.sN [])⟩
 ·skip
  have hF2 := cf' hF hb
  refine cw_skip (cw_seq ?_)
  obtain ⟨z, hz, hF3⟩ := bind_inv hF2
  refine cw_block ?_
  refine cw_loop (fun k f w => ∃ (exp1 : Int) (A : Int) (B : Int) (C : Int) (D : Int), FF f [(1, vi exp1), (2, pt (aD b) 0), (4, pt (aD b1) 0)] ∧ ST w0 [] w [⟨aD b, 52, [vi A, vi B, vi C, vi D], 4⟩, ⟨aD b1, 54, kZ_, 5⟩] [] ∧ whX F_impl_DyadicOf_l1 k (exp1, A, B, C, D) = some z) fuel ⟨exp, num.A, num.B, num.C, num.D, (FF.cons rfl (FF.cons rfl (FF.cons rfl FF.nil))), (hS4.sel [0, 1] rfl rfl), hz⟩ ?_
  rintro k_ f w ⟨exp1, A, B, C, D, hf, hS6, hL⟩
  obtain ⟨k_1, y, rfl, hb1, hL1⟩ := whX_go hL
  unfold F_impl_DyadicOf_l1 at hb1
  refine cw_seq (cw_seq (cw_region ?_))
  refine sQ 15 (Y_move (v := vi exp1) rfl (hf.get 1 0 rfl)) ?_
  refine sQ 16 (Y_gt (k := .i64) (a := exp1) (b := 0) rfl rfl rfl) ?_
  refine sQ 17 (Y_move (v := .bool (decide (0 < exp1))) rfl rfl) ?_
  refine sgq 18 (B := (decide (0 < exp1))) (v := .agg #[vi A, vi B, vi C, vi D]) rfl rfl (uT_ 17) (fun hg3 => (Y_loadA (B := aD b) (i := 0) (cs := [vi A, vi B, vi C, vi D]) (vs := [vi A, vi B, vi C, vi D]) k_ag_52 k_sz_52_4 rfl (hf.get 2 1 rfl) (hS6.cf (i := 0) rfl) rfl rfl)) ?_
  obtain ⟨r_4, hc2, hb1⟩ := bind_inv hb1
  refine sgc 19 (B := (decide (0 < exp1))) (v := .bool r_4) (F := hS6.fn) rfl rfl (uT_ 17) hS6 (fun hg4 => (Yc_func (g := 226) (vs := [.agg #[vi A, vi B, vi C, vi D]]) k_call_226 rfl (mc (gv_of (v := .agg #[vi A, vi B, vi C, vi D]) hg4) mn) (CV.mono (c_impl_isEven (TRing.mk A B C D) _  (hS6.inn0 [] rfl) (gb_inv hc2 hg4)) (by rintro _ _ ⟨rfl, h⟩; exact ⟨rfl, hS6.out00 h⟩)))) ?_
  rintro w_5 hS7
  refine sQ 20 (Y_and (b := (decide (0 < exp1))) (z := r_4) rfl rfl rfl rfl) (rw_nil ?_)
  refine cw_cond (b := ((decide (0 < exp1)) && r_4)) rfl (fun hb2 => ?_) (fun hb2 => ?_)
  ·skip
   have hF4 := ct hb1 hb2
   refine cw_skip (cw_block (cw_seq (cw_region ?_)))
   refine sQ 22 (Y_loadA (B := aD b) (i := 0) (cs := [vi A, vi B, vi C, vi D]) (vs := [vi A, vi B, vi C, vi D]) k_ag_52 k_sz_52_4 rfl (hf.get 2 1 rfl) (hS7.cf (i := 0) rfl) rfl rfl) ?_
   obtain ⟨⟨r_5, r_6⟩, hc3, hF4⟩ := bind_inv hF4
   refine sc 23 rfl rfl (Yc_func (g := 246) (vs := [.agg #[vi A, vi B, vi C, vi D]]) k_call_246 rfl (mc rfl mn) (c_impl_DivRootTwo (TRing.mk A B C D) _  (hS7.inn0 [] rfl) hc3)) ?_
   rintro _ w_6 ⟨rfl, hd1⟩
   have hS8 := hS7.out00 hd1
   refine sQ 21 (Y_move (v := .tuple #[gR_ r_5, .bool r_6]) rfl rfl) ?_
   refine sQ 24 (Y_extract (v := gR_ r_5) rfl rfl rfl) ?_
   refine sQ 25 (Y_extract (v := .bool r_6) rfl rfl rfl) ?_
   refine s0 (Ys_store (i := 0) (s := 4) (B := aD b) (T' := 52) (v := gR_ r_5) (vs := kR_ r_5) (k := 0) (cs' := kR_ r_5) hS8 k_sz_52_4 rfl (hf.get 2 1 rfl) rfl rfl rfl rfl rfl (lB rfl) rfl rfl) ?_
   rintro _ w_7 ⟨rfl, hS9⟩
   refine rw_nil (cw_region ?_)
   refine sQ 26 (Y_move (v := vi exp1) rfl (hf.get 1 0 rfl)) ?_
   refine sQ 27 (Y_sub (k := .i64) (a := exp1) (b := 1) rfl rfl rfl) ?_
   refine sQ 1 (Y_assign (v := vi (i64.wrap (exp1 - 1))) rfl rfl) (rw_nil ?_)
   obtain rfl := some_inj hF4
   exact ⟨k_1, Nat.lt_succ_self _, (i64.wrap (exp1 - 1)), r_5.A, r_5.B, r_5.C, r_5.D, (FF.cons rfl (FF.cons (hf.get 2 1 rfl) (FF.cons (hf.get 4 2 rfl) FF.nil))), (hS9.sel [0, 1] rfl rfl), hL1⟩
  ·skip
   have hF5 := cf' hb1 hb2
   refine cw_exit rfl ?_
   obtain rfl := some_inj hF5
   obtain rfl := some_inj hL1
   refine cw_seq (cw_region ?_)
   refine sQ 28 (Y_loadA (B := aD b) (i := 0) (cs := [vi A, vi B, vi C, vi D]) (vs := [vi A, vi B, vi C, vi D]) k_ag_52 k_sz_52_4 rfl (hf.get 2 1 rfl) (hS7.cf (i := 0) rfl) rfl rfl) ?_
   refine sQ 29 (Y_move (v := vi exp1) rfl (hf.get 1 0 rfl)) ?_
   refine sQ 30 (Y_buildS (zs := kZ_) (vs := [(0, .agg #[vi A, vi B, vi C, vi D]), (1, vi exp1)]) (cs := [vi A, vi B, vi C, vi D, vi exp1]) k_pl_54 k_zero_54 rfl (mpc rfl (mpc rfl mpn)) rfl) ?_
   refine s0 (Ys_store (i := 1) (s := 5) (B := aD b1) (T' := 54) (v := .agg #[vi A, vi B, vi C, vi D, vi exp1]) (vs := [vi A, vi B, vi C, vi D, vi exp1]) (k := 0) (cs' := [vi A, vi B, vi C, vi D, vi exp1]) hS7 k_sz_54_5 rfl (hf.get 4 2 rfl) rfl rfl rfl rfl rfl (lB rfl) rfl rfl) ?_
   rintro _ w_8 ⟨rfl, hS10⟩
   refine sQ 5 (Y_assign (v := .bool true) rfl rfl) (rw_nil (cw_ret ?_))
   obtain ⟨rfl, rfl⟩ := pr2 (some_inj hF3)
   exact ret2 Tryz.results219 (v1 := .agg #[vi A, vi B, vi C, vi D, vi exp1]) (resAt_cellA (B := aD b1) (i := 0) (cs := [vi A, vi B, vi C, vi D, vi exp1]) (vs := [vi A, vi B, vi C, vi D, vi exp1]) (hf.get 4 2 rfl) k_ag_54 k_sz_54_5 (hS10.cf (i := 1) rfl) rfl rfl) (v2 := .bool true) (resAt_tmp rfl) ⟨rfl, (hS10.sN [])⟩

theorem c_impl_MulDyadic (x : TDyadic) (y : TDyadic)  (w0 : World)  (hS : ST w0 [] w0 [] []) {r_ : TDyadic} {r_1 : Bool} (hF : F_impl_MulDyadic x y = some (r_, r_1)) :
  CV Tryz.prog 158 #[gD_ x, gD_ y] w0 (fun v w' => v = .tuple #[gD_ r_, .bool r_1] ∧ ST w0 [] w' [] []) := by
 unfold F_impl_MulDyadic at hF
 refine cv_of_cw 38 Tryz.func158 rfl Tryz.ntmps158 rfl ?_
 refine cw_seq (cw_region ?_)
 refine sS 2 (Ys_box (T := 54) (v := gD_ x) (cs := kD_ x) (m := 5) hS rfl rfl rfl rfl) ?_
 rintro _ w_ ⟨b, rfl, hS1⟩
 refine sS 3 (Ys_box (T := 54) (v := gD_ y) (cs := kD_ y) (m := 5) hS1 rfl rfl rfl rfl) ?_
 rintro _ w_1 ⟨b1, rfl, hS2⟩
 refine sS 4 (Ys_alloc (T := 54) (cs := kZ_) (m := 5) hS2 k_zero_54 rfl rfl rfl) ?_
 rintro _ w_2 ⟨b2, rfl, hS3⟩
 refine sQ 5 (Y_assign (v := .bool false) rfl rfl) (rw_nil (cw_seq (cw_region ?_)))
 refine sQ 9 (Y_fieldAddr (B := aD b) (i := 0) (s := 3) k_fd_54_0_0_52 k_sz_52_4 rfl rfl) ?_
 refine sQ 10 (Y_loadA (B := aD b) (i := 0) (cs := kD_ x) (vs := kR_ x.Num) k_ag_52 k_sz_52_4 rfl rfl (hS3.cf (i := 0) rfl) rfl rfl) ?_
 refine sQ 11 (Y_fieldAddr (B := aD b1) (i := 0) (s := 3) k_fd_54_0_0_52 k_sz_52_4 rfl rfl) ?_
 refine sQ 12 (Y_loadA (B := aD b1) (i := 0) (cs := kD_ y) (vs := kR_ y.Num) k_ag_52 k_sz_52_4 rfl rfl (hS3.cf (i := 1) rfl) rfl rfl) ?_
 obtain ⟨⟨r_2, r_3⟩, hc, hF⟩ := bind_inv hF
 refine sc 13 rfl rfl (Yc_func (g := 218) (vs := [gR_ x.Num, gR_ y.Num]) k_call_218 rfl (mc rfl (mc rfl mn)) (c_impl_MulRing x.Num y.Num _  (hS3.inn0 [] rfl) hc)) ?_
 rintro _ w_3 ⟨rfl, hd⟩
 have hS4 := hS3.out00 hd
 refine sQ 8 (Y_move (v := .tuple #[gR_ r_2, .bool r_3]) rfl rfl) ?_
 refine sQ 14 (Y_extract (v := gR_ r_2) rfl rfl rfl) ?_
 refine sQ 15 (Y_extract (v := .bool r_3) rfl rfl rfl) ?_
 refine sS 6 (Ys_alloc (T := 52) (cs := [vi 0, vi 0, vi 0, vi 0]) (m := 4) hS4 k_zero_52 rfl rfl rfl) ?_
 rintro _ w_4 ⟨b3, rfl, hS5⟩
 refine s0 (Ys_store (i := 3) (s := 4) (B := aD b3) (T' := 52) (v := gR_ r_2) (vs := kR_ r_2) (k := 0) (cs' := kR_ r_2) hS5 k_sz_52_4 rfl rfl rfl rfl rfl rfl rfl (lB rfl) rfl rfl) ?_
 rintro _ w_5 ⟨rfl, hS6⟩
 refine sQ 7 (Y_assign (v := .bool r_3) rfl rfl) (rw_nil (cw_seq (cw_seq (cw_region ?_))))
 refine sQ 16 (Y_loadA (B := aD b) (i := 0) (cs := kD_ x) (vs := kD_ x) k_ag_54 k_sz_54_5 rfl rfl (hS6.cf (i := 0) rfl) rfl rfl) ?_
 obtain ⟨r_4, hc1, hF⟩ := bind_inv hF
 refine sc 17 rfl rfl (Yc_func (g := 169) (vs := [gD_ x]) k_call_169 rfl (mc rfl mn) (c_impl_IsValidDyadic x _  (hS6.inn0 [] rfl) hc1)) ?_
 rintro _ w_6 ⟨rfl, hd1⟩
 have hS7 := hS6.out00 hd1
 refine sQ 18 (Y_not (p := r_4) rfl rfl) ?_
 refine sQ 19 (Y_move (v := .bool (!r_4)) rfl rfl) ?_
 refine sgq 20 (B := (!(!r_4))) (v := gD_ y) rfl rfl (uF_ 19) (fun hg => (Y_loadA (B := aD b1) (i := 0) (cs := kD_ y) (vs := kD_ y) k_ag_54 k_sz_54_5 rfl rfl (hS7.cf (i := 1) rfl) rfl rfl)) ?_
 obtain ⟨r_5, hc2, hF⟩ := bind_inv hF
 refine sgc 21 (B := (!(!r_4))) (v := .bool r_5) (F := hS7.fn) rfl rfl (uF_ 19) hS7 (fun hg1 => (Yc_func (g := 169) (vs := [gD_ y]) k_call_169 rfl (mc (gv_of (v := gD_ y) hg1) mn) (CV.mono (c_impl_IsValidDyadic y _  (hS7.inn0 [] rfl) (gb_inv hc2 hg1)) (by rintro _ _ ⟨rfl, h⟩; exact ⟨rfl, hS7.out00 h⟩)))) ?_
 rintro w_7 hS8
 refine sgq 22 (B := (!(!r_4))) (v := .bool (!r_5)) rfl rfl (uF_ 19) (fun hg2 => (Y_not (p := r_5) rfl (gv_of (v := .bool r_5) hg2))) ?_
 refine sQ 23 (Y_or (b := (!r_4)) (z := (!r_5)) rfl rfl rfl rfl) ?_
 refine sQ 24 (Y_move (v := .bool ((!r_4) || (!r_5))) rfl rfl) ?_
 refine sgq 25 (B := (!((!r_4) || (!r_5)))) (v := .bool r_3) rfl rfl (uF_ 24) (fun hg3 => (Y_move (v := .bool r_3) rfl rfl)) ?_
 refine sgq 26 (B := (!((!r_4) || (!r_5)))) (v := .bool (!r_3)) rfl rfl (uF_ 24) (fun hg4 => (Y_not (p := r_3) rfl (gv_of (v := .bool r_3) hg4))) ?_
 refine sQ 27 (Y_or (b := ((!r_4) || (!r_5))) (z := (!r_3)) rfl rfl rfl rfl) (rw_nil ?_)
 refine cw_cond (b := (((!r_4) || (!r_5)) || (!r_3))) rfl (fun hb => ?_) (fun hb => ?_)
 ·skip
  have hF1 := ct hF hb
  refine cw_seq (cw_region ?_)
  refine sQ 28 (Y_buildS (zs := kZ_) (vs := []) (cs := kZ_) k_pl_54 k_zero_54 rfl mpn rfl) ?_
  refine s0 (Ys_store (i := 2) (s := 5) (B := aD b2) (T' := 54) (v := gZ_) (vs := kZ_) (k := 0) (cs' := kZ_) hS8 k_sz_54_5 rfl rfl rfl rfl rfl rfl rfl (lB rfl) rfl rfl) ?_
  rintro _ w_8 ⟨rfl, hS9⟩
  refine sQ 5 (Y_assign (v := .bool false) rfl rfl) (rw_nil (cw_ret ?_))
  obtain ⟨rfl, rfl⟩ := pr2 (some_inj hF1)
  exact ret2 Tryz.results158 (v1 := gZ_) (resAt_cellA (B := aD b2) (i := 0) (cs := kZ_) (vs := kZ_) rfl k_ag_54 k_sz_54_5 (hS9.cf (i := 2) rfl) rfl rfl) (v2 := .bool false) (resAt_tmp rfl) ⟨rfl, (hS9.sN [])⟩
 ·skip
  have hF2 := cf' hF hb
  refine cw_skip (cw_seq (cw_region ?_))
  refine sQ 29 (Y_loadA (B := aD b3) (i := 0) (cs := kR_ r_2) (vs := kR_ r_2) k_ag_52 k_sz_52_4 rfl rfl (hS8.cf (i := 3) rfl) rfl rfl) ?_
  refine sQ 30 (Y_fieldAddr (B := aD b) (i := 0) (s := 0) k_fd_54_1_4_3 k_sz_3_1 rfl rfl) ?_
  refine sQ 31 (Y_load1 (B := aD b) (i := 4) (cs := kD_ x) (v := vi x.Exp) k_sc_3 rfl rfl (hS8.cf (i := 0) rfl) rfl) ?_
  refine sQ 32 (Y_fieldAddr (B := aD b1) (i := 0) (s := 0) k_fd_54_1_4_3 k_sz_3_1 rfl rfl) ?_
  refine sQ 33 (Y_load1 (B := aD b1) (i := 4) (cs := kD_ y) (v := vi y.Exp) k_sc_3 rfl rfl (hS8.cf (i := 1) rfl) rfl) ?_
  refine sQ 34 (Y_add (k := .i64) (a := x.Exp) (b := y.Exp) rfl rfl rfl) ?_
  obtain ⟨⟨r_6, r_7⟩, hc3, hF2⟩ := bind_inv hF2
  refine sc 35 rfl rfl (Yc_func (g := 219) (vs := [gR_ r_2, vi (i64.wrap (x.Exp + y.Exp))]) k_call_219 rfl (mc rfl (mc rfl mn)) (c_impl_DyadicOf r_2 (i64.wrap (x.Exp + y.Exp)) _  (hS8.inn0 [] rfl) hc3)) ?_
  rintro _ w_9 ⟨rfl, hd2⟩
  have hS10 := hS8.out00 hd2
  refine sQ 36 (Y_extract (v := gD_ r_6) rfl rfl rfl) ?_
  refine sQ 37 (Y_extract (v := .bool r_7) rfl rfl rfl) ?_
  refine s0 (Ys_store (i := 2) (s := 5) (B := aD b2) (T' := 54) (v := gD_ r_6) (vs := kD_ r_6) (k := 0) (cs' := kD_ r_6) hS10 k_sz_54_5 rfl rfl rfl rfl rfl rfl rfl (lB rfl) rfl rfl) ?_
  rintro _ w_10 ⟨rfl, hS11⟩
  refine sQ 5 (Y_assign (v := .bool r_7) rfl rfl) (rw_nil (cw_ret ?_))
  obtain ⟨rfl, rfl⟩ := pr2 (some_inj hF2)
  exact ret2 Tryz.results158 (v1 := gD_ r_6) (resAt_cellA (B := aD b2) (i := 0) (cs := kD_ r_6) (vs := kD_ r_6) rfl k_ag_54 k_sz_54_5 (hS11.cf (i := 2) rfl) rfl rfl) (v2 := .bool r_7) (resAt_tmp rfl) ⟨rfl, (hS11.sN [])⟩

theorem c_impl_MulRootTwo (x : TRing)  (w0 : World)  (hS : ST w0 [] w0 [] []) {r_ : TRing} {r_1 : Bool} (hF : F_impl_MulRootTwo x = some (r_, r_1)) :
  CV Tryz.prog 272 #[gR_ x] w0 (fun v w' => v = .tuple #[gR_ r_, .bool r_1] ∧ ST w0 [] w' [] []) := by
 unfold F_impl_MulRootTwo at hF
 refine cv_of_cw 30 Tryz.func272 rfl Tryz.ntmps272 rfl ?_
 refine cw_seq (cw_region ?_)
 refine sS 1 (Ys_box (T := 52) (v := gR_ x) (cs := kR_ x) (m := 4) hS rfl rfl rfl rfl) ?_
 rintro _ w_ ⟨b, rfl, hS1⟩
 refine sS 2 (Ys_alloc (T := 52) (cs := [vi 0, vi 0, vi 0, vi 0]) (m := 4) hS1 k_zero_52 rfl rfl rfl) ?_
 rintro _ w_1 ⟨b1, rfl, hS2⟩
 refine sQ 3 (Y_assign (v := .bool false) rfl rfl) (rw_nil (cw_seq (cw_region ?_)))
 refine sQ 4 (Y_fieldAddr (B := aD b) (i := 0) (s := 0) k_fd_52_1_1_3 k_sz_3_1 rfl rfl) ?_
 refine sQ 5 (Y_load1 (B := aD b) (i := 1) (cs := kR_ x) (v := vi x.B) k_sc_3 rfl rfl (hS2.cf (i := 0) rfl) rfl) ?_
 refine sQ 6 (Y_fieldAddr (B := aD b) (i := 0) (s := 0) k_fd_52_3_3_3 k_sz_3_1 rfl rfl) ?_
 refine sQ 7 (Y_load1 (B := aD b) (i := 3) (cs := kR_ x) (v := vi x.D) k_sc_3 rfl rfl (hS2.cf (i := 0) rfl) rfl) ?_
 refine sQ 8 (Y_sub (k := .i64) (a := x.B) (b := x.D) rfl rfl rfl) ?_
 refine sQ 9 (Y_fieldAddr (B := aD b) (i := 0) (s := 0) k_fd_52_0_0_3 k_sz_3_1 rfl rfl) ?_
 refine sQ 10 (Y_load1 (B := aD b) (i := 0) (cs := kR_ x) (v := vi x.A) k_sc_3 rfl rfl (hS2.cf (i := 0) rfl) rfl) ?_
 refine sQ 11 (Y_fieldAddr (B := aD b) (i := 0) (s := 0) k_fd_52_2_2_3 k_sz_3_1 rfl rfl) ?_
 refine sQ 12 (Y_load1 (B := aD b) (i := 2) (cs := kR_ x) (v := vi x.C) k_sc_3 rfl rfl (hS2.cf (i := 0) rfl) rfl) ?_
 refine sQ 13 (Y_add (k := .i64) (a := x.A) (b := x.C) rfl rfl rfl) ?_
 refine sQ 14 (Y_fieldAddr (B := aD b) (i := 0) (s := 0) k_fd_52_1_1_3 k_sz_3_1 rfl rfl) ?_
 refine sQ 15 (Y_load1 (B := aD b) (i := 1) (cs := kR_ x) (v := vi x.B) k_sc_3 rfl rfl (hS2.cf (i := 0) rfl) rfl) ?_
 refine sQ 16 (Y_fieldAddr (B := aD b) (i := 0) (s := 0) k_fd_52_3_3_3 k_sz_3_1 rfl rfl) ?_
 refine sQ 17 (Y_load1 (B := aD b) (i := 3) (cs := kR_ x) (v := vi x.D) k_sc_3 rfl rfl (hS2.cf (i := 0) rfl) rfl) ?_
 refine sQ 18 (Y_add (k := .i64) (a := x.B) (b := x.D) rfl rfl rfl) ?_
 refine sQ 19 (Y_fieldAddr (B := aD b) (i := 0) (s := 0) k_fd_52_2_2_3 k_sz_3_1 rfl rfl) ?_
 refine sQ 20 (Y_load1 (B := aD b) (i := 2) (cs := kR_ x) (v := vi x.C) k_sc_3 rfl rfl (hS2.cf (i := 0) rfl) rfl) ?_
 refine sQ 21 (Y_fieldAddr (B := aD b) (i := 0) (s := 0) k_fd_52_0_0_3 k_sz_3_1 rfl rfl) ?_
 refine sQ 22 (Y_load1 (B := aD b) (i := 0) (cs := kR_ x) (v := vi x.A) k_sc_3 rfl rfl (hS2.cf (i := 0) rfl) rfl) ?_
 refine sQ 23 (Y_sub (k := .i64) (a := x.C) (b := x.A) rfl rfl rfl) ?_
 refine sQ 24 (Y_buildS (zs := [vi 0, vi 0, vi 0, vi 0]) (vs := [(0, vi (i64.wrap (x.B - x.D))), (1, vi (i64.wrap (x.A + x.C))), (2, vi (i64.wrap (x.B + x.D))), (3, vi (i64.wrap (x.C - x.A)))]) (cs := [vi (i64.wrap (x.B - x.D)), vi (i64.wrap (x.A + x.C)), vi (i64.wrap (x.B + x.D)), vi (i64.wrap (x.C - x.A))]) k_pl_52 k_zero_52 rfl (mpc rfl (mpc rfl (mpc rfl (mpc rfl mpn)))) rfl) ?_
 refine sQ 25 (Y_loadA (B := aD b) (i := 0) (cs := kR_ x) (vs := kR_ x) k_ag_52 k_sz_52_4 rfl rfl (hS2.cf (i := 0) rfl) rfl rfl) ?_
 refine sS 26 (Ys_bslice (s := 4) (len := 1) (vs := [(0, gR_ x)]) (cs := kR_ x) (zs := [vi 0, vi 0, vi 0, vi 0]) (m := 4) hS2 k_sl_234_52 k_sz_52_4 k_zc_52 rfl (mpc rfl mpn) rfl rfl rfl (by kernel_rfl) (by kernel_rfl) rfl) ?_
 rintro _ w_2 ⟨b2, rfl, hS3⟩
 obtain ⟨⟨r_2, r_3⟩, hc, hF⟩ := bind_inv hF
 refine sc 27 rfl rfl (Yc_func (g := 245) (vs := [.agg #[vi (i64.wrap (x.B - x.D)), vi (i64.wrap (x.A + x.C)), vi (i64.wrap (x.B + x.D)), vi (i64.wrap (x.C - x.A))], .slice (aD b2) 1 1]) k_call_245 rfl (mc rfl (mc rfl mn)) (c_impl_ringIf (TRing.mk (i64.wrap (x.B - x.D)) (i64.wrap (x.A + x.C)) (i64.wrap (x.B + x.D)) (i64.wrap (x.C - x.A))) [x] (aD b2) 1 1 _ rfl (hS3.inn [false, false, true] rfl [] rfl) hc)) ?_
 rintro _ w_3 ⟨rfl, hd⟩
 have hS4 := hS3.out [false, false, true] rfl hd
 refine sQ 28 (Y_extract (v := gR_ r_2) rfl rfl rfl) ?_
 refine sQ 29 (Y_extract (v := .bool r_3) rfl rfl rfl) ?_
 refine s0 (Ys_store (i := 1) (s := 4) (B := aD b1) (T' := 52) (v := gR_ r_2) (vs := kR_ r_2) (k := 0) (cs' := kR_ r_2) hS4 k_sz_52_4 rfl rfl rfl rfl rfl rfl rfl (lB rfl) rfl rfl) ?_
 rintro _ w_4 ⟨rfl, hS5⟩
 refine sQ 3 (Y_assign (v := .bool r_3) rfl rfl) (rw_nil (cw_ret ?_))
 obtain ⟨rfl, rfl⟩ := pr2 (some_inj hF)
 exact ret2 Tryz.results272 (v1 := gR_ r_2) (resAt_cellA (B := aD b1) (i := 0) (cs := kR_ r_2) (vs := kR_ r_2) rfl k_ag_52 k_sz_52_4 (hS5.cf (i := 1) rfl) rfl rfl) (v2 := .bool r_3) (resAt_tmp rfl) ⟨rfl, (hS5.sN [])⟩

theorem c_impl_raised (x : TDyadic) (exp : Int)  (w0 : World)  (hS : ST w0 [] w0 [] []) {r_ : TRing} {r_1 : Bool} (hF : F_impl_raised x exp = some (r_, r_1)) :
  CV Tryz.prog 263 #[gD_ x, vi exp] w0 (fun v w' => v = .tuple #[gR_ r_, .bool r_1] ∧ ST w0 [] w' [] []) := by
 unfold F_impl_raised at hF
 refine cv_of_cw 28 Tryz.func263 rfl Tryz.ntmps263 rfl ?_
 refine cw_seq (cw_region ?_)
 refine sS 2 (Ys_box (T := 54) (v := gD_ x) (cs := kD_ x) (m := 5) hS rfl rfl rfl rfl) ?_
 rintro _ w_ ⟨b, rfl, hS1⟩
 refine sS 4 (Ys_alloc (T := 52) (cs := [vi 0, vi 0, vi 0, vi 0]) (m := 4) hS1 k_zero_52 rfl rfl rfl) ?_
 rintro _ w_1 ⟨b1, rfl, hS2⟩
 refine sQ 5 (Y_assign (v := .bool false) rfl rfl) (rw_nil (cw_seq (cw_region ?_)))
 refine sQ 9 (Y_fieldAddr (B := aD b) (i := 0) (s := 3) k_fd_54_0_0_52 k_sz_52_4 rfl rfl) ?_
 refine sQ 10 (Y_loadA (B := aD b) (i := 0) (cs := kD_ x) (vs := kR_ x.Num) k_ag_52 k_sz_52_4 rfl rfl (hS2.cf (i := 0) rfl) rfl rfl) ?_
 refine sS 6 (Ys_alloc (T := 52) (cs := [vi 0, vi 0, vi 0, vi 0]) (m := 4) hS2 k_zero_52 rfl rfl rfl) ?_
 rintro _ w_2 ⟨b2, rfl, hS3⟩
 refine s0 (Ys_store (i := 2) (s := 4) (B := aD b2) (T' := 52) (v := gR_ x.Num) (vs := kR_ x.Num) (k := 0) (cs' := kR_ x.Num) hS3 k_sz_52_4 rfl rfl rfl rfl rfl rfl rfl (lB rfl) rfl rfl) ?_
 rintro _ w_3 ⟨rfl, hS4⟩
 refine sQ 7 (Y_assign (v := .bool true) rfl rfl) (rw_nil (cw_seq (cw_seq (cw_region ?_))))
 refine sQ 11 (Y_fieldAddr (B := aD b) (i := 0) (s := 0) k_fd_54_1_4_3 k_sz_3_1 rfl rfl) ?_
 refine sQ 12 (Y_load1 (B := aD b) (i := 4) (cs := kD_ x) (v := vi x.Exp) k_sc_3 rfl rfl (hS4.cf (i := 0) rfl) rfl) ?_
 refine sQ 8 (Y_assign (v := vi x.Exp) rfl rfl) (rw_nil ?_)
 obtain ⟨z, hz, hF1⟩ := bind_inv hF
 refine cw_block ?_
 refine cw_loop (fun k f w => ∃ (A : Int) (B : Int) (C : Int) (D : Int) (ok : Bool) (k_ : Int), FF f [(1, vi exp), (4, pt (aD b1) 0), (6, pt (aD b2) 0), (7, .bool ok), (8, vi k_)] ∧ ST w0 [] w [⟨aD b1, 52, [vi 0, vi 0, vi 0, vi 0], 4⟩, ⟨aD b2, 52, [vi A, vi B, vi C, vi D], 4⟩] [] ∧ whX (F_impl_raised_l1 exp) k (A, B, C, D, ok, k_) = some z) fuel ⟨x.Num.A, x.Num.B, x.Num.C, x.Num.D, true, x.Exp, (FF.cons rfl (FF.cons rfl (FF.cons rfl (FF.cons rfl (FF.cons rfl FF.nil))))), (hS4.sel [1, 2] rfl rfl), hz⟩ ?_
 rintro k_1 f w ⟨A, B, C, D, ok, k_, hf, hS5, hL⟩
 obtain ⟨k_2, y, rfl, hb, hL1⟩ := whX_go hL
 unfold F_impl_raised_l1 at hb
 refine cw_seq (cw_seq (cw_region ?_))
 refine sQ 13 (Y_move (v := vi k_) rfl (hf.get 8 4 rfl)) ?_
 refine sQ 14 (Y_move (v := vi exp) rfl (hf.get 1 0 rfl)) ?_
 refine sQ 15 (Y_lt (k := .i64) (a := k_) (b := exp) rfl rfl rfl) ?_
 refine sQ 16 (Y_move (v := .bool (decide (k_ < exp))) rfl rfl) ?_
 refine sgq 17 (B := (decide (k_ < exp))) (v := .bool ok) rfl rfl (uT_ 16) (fun hg => (Y_move (v := .bool ok) rfl (hf.get 7 3 rfl))) ?_
 refine sQ 18 (Y_and (b := (decide (k_ < exp))) (z := ok) rfl rfl rfl rfl) (rw_nil ?_)
 refine cw_cond (b := ((decide (k_ < exp)) && ok)) rfl (fun hb1 => ?_) (fun hb1 => ?_)
 ·skip
  have hF2 := ct hb hb1
  refine cw_skip (cw_seq (cw_block (cw_region ?_)))
  refine sQ 22 (Y_loadA (B := aD b2) (i := 0) (cs := [vi A, vi B, vi C, vi D]) (vs := [vi A, vi B, vi C, vi D]) k_ag_52 k_sz_52_4 rfl (hf.get 6 2 rfl) (hS5.cf (i := 1) rfl) rfl rfl) ?_
  obtain ⟨⟨r_2, r_3⟩, hc, hF2⟩ := bind_inv hF2
  refine sc 23 rfl rfl (Yc_func (g := 272) (vs := [.agg #[vi A, vi B, vi C, vi D]]) k_call_272 rfl (mc rfl mn) (c_impl_MulRootTwo (TRing.mk A B C D) _  (hS5.inn0 [] rfl) hc)) ?_
  rintro _ w_4 ⟨rfl, hd⟩
  have hS6 := hS5.out00 hd
  refine sQ 21 (Y_move (v := .tuple #[gR_ r_2, .bool r_3]) rfl rfl) ?_
  refine sQ 24 (Y_extract (v := gR_ r_2) rfl rfl rfl) ?_
  refine sQ 25 (Y_extract (v := .bool r_3) rfl rfl rfl) ?_
  refine s0 (Ys_store (i := 1) (s := 4) (B := aD b2) (T' := 52) (v := gR_ r_2) (vs := kR_ r_2) (k := 0) (cs' := kR_ r_2) hS6 k_sz_52_4 rfl (hf.get 6 2 rfl) rfl rfl rfl rfl rfl (lB rfl) rfl rfl) ?_
  rintro _ w_5 ⟨rfl, hS7⟩
  refine sQ 7 (Y_assign (v := .bool r_3) rfl rfl) (rw_nil (cw_region ?_))
  refine sQ 19 (Y_move (v := vi k_) rfl (hf.get 8 4 rfl)) ?_
  refine sQ 20 (Y_add (k := .i64) (a := k_) (b := 1) rfl rfl rfl) ?_
  refine sQ 8 (Y_assign (v := vi (i64.wrap (k_ + 1))) rfl rfl) (rw_nil ?_)
  obtain rfl := some_inj hF2
  exact ⟨k_2, Nat.lt_succ_self _, r_2.A, r_2.B, r_2.C, r_2.D, r_3, (i64.wrap (k_ + 1)), (FF.cons (hf.get 1 0 rfl) (FF.cons (hf.get 4 1 rfl) (FF.cons (hf.get 6 2 rfl) (FF.cons rfl (FF.cons rfl FF.nil))))), (hS7.sel [0, 1] rfl rfl), hL1⟩
 ·skip
  have hF3 := cf' hb hb1
  refine cw_exit rfl ?_
  obtain rfl := some_inj hF3
  obtain rfl := some_inj hL1
  refine cw_seq (cw_region ?_)
  refine sQ 26 (Y_loadA (B := aD b2) (i := 0) (cs := [vi A, vi B, vi C, vi D]) (vs := [vi A, vi B, vi C, vi D]) k_ag_52 k_sz_52_4 rfl (hf.get 6 2 rfl) (hS5.cf (i := 1) rfl) rfl rfl) ?_
  refine sQ 27 (Y_move (v := .bool ok) rfl (hf.get 7 3 rfl)) ?_
  refine s0 (Ys_store (i := 0) (s := 4) (B := aD b1) (T' := 52) (v := .agg #[vi A, vi B, vi C, vi D]) (vs := [vi A, vi B, vi C, vi D]) (k := 0) (cs' := [vi A, vi B, vi C, vi D]) hS5 k_sz_52_4 rfl (hf.get 4 1 rfl) rfl rfl rfl rfl rfl (lB rfl) rfl rfl) ?_
  rintro _ w_6 ⟨rfl, hS8⟩
  refine sQ 5 (Y_assign (v := .bool ok) rfl rfl) (rw_nil (cw_ret ?_))
  obtain ⟨rfl, rfl⟩ := pr2 (some_inj hF1)
  exact ret2 Tryz.results263 (v1 := .agg #[vi A, vi B, vi C, vi D]) (resAt_cellA (B := aD b1) (i := 0) (cs := [vi A, vi B, vi C, vi D]) (vs := [vi A, vi B, vi C, vi D]) (hf.get 4 1 rfl) k_ag_52 k_sz_52_4 (hS8.cf (i := 0) rfl) rfl rfl) (v2 := .bool ok) (resAt_tmp rfl) ⟨rfl, (hS8.sN [])⟩

theorem c_impl_combined (x : TDyadic) (y : TDyadic) (operation : TRing → TRing → Option (TRing × Bool)) (kf : Nat) (caps : Array Value) (Rf : List Ro) (w0 : World) (hk : callB Tryz.prog kf = true) (hp : ∀ (w : World), ST w [] w [] Rf → ∀ (x1 : TRing) (x2 : TRing) (y2 : TRing) (y3 : Bool), operation x1 x2 = some (y2, y3) → CV Tryz.prog kf ((gR_ x1) :: (gR_ x2) :: caps.toList).toArray w (fun v w' => v = .tuple #[gR_ y2, .bool y3] ∧ ST w [] w' [] [])) (hS : ST w0 [] w0 [] (Rf)) {r_ : TDyadic} {r_1 : Bool} (hF : F_impl_combined x y operation = some (r_, r_1)) :
  CV Tryz.prog 243 #[gD_ x, gD_ y, .func (.func kf) #[] caps] w0 (fun v w' => v = .tuple #[gD_ r_, .bool r_1] ∧ ST w0 [] w' [] []) := by
 unfold F_impl_combined at hF
 refine cv_of_cw 64 Tryz.func243 rfl Tryz.ntmps243 rfl ?_
 refine cw_seq (cw_region ?_)
 refine sS 3 (Ys_box (T := 54) (v := gD_ x) (cs := kD_ x) (m := 5) hS rfl rfl rfl rfl) ?_
 rintro _ w_ ⟨b, rfl, hS1⟩
 refine sS 4 (Ys_box (T := 54) (v := gD_ y) (cs := kD_ y) (m := 5) hS1 rfl rfl rfl rfl) ?_
 rintro _ w_1 ⟨b1, rfl, hS2⟩
 refine sS 6 (Ys_alloc (T := 54) (cs := kZ_) (m := 5) hS2 k_zero_54 rfl rfl rfl) ?_
 rintro _ w_2 ⟨b2, rfl, hS3⟩
 refine sQ 7 (Y_assign (v := .bool false) rfl rfl) (rw_nil (cw_seq (cw_seq (cw_region ?_))))
 refine sQ 15 (Y_loadA (B := aD b) (i := 0) (cs := kD_ x) (vs := kD_ x) k_ag_54 k_sz_54_5 rfl rfl (hS3.cf (i := 0) rfl) rfl rfl) ?_
 obtain ⟨r_2, hc, hF⟩ := bind_inv hF
 refine sc 16 rfl rfl (Yc_func (g := 169) (vs := [gD_ x]) k_call_169 rfl (mc rfl mn) (c_impl_IsValidDyadic x _  (hS3.inn0 [] rfl) hc)) ?_
 rintro _ w_3 ⟨rfl, hd⟩
 have hS4 := hS3.out00 hd
 refine sQ 17 (Y_not (p := r_2) rfl rfl) ?_
 refine sQ 18 (Y_move (v := .bool (!r_2)) rfl rfl) ?_
 refine sgq 19 (B := (!(!r_2))) (v := gD_ y) rfl rfl (uF_ 18) (fun hg => (Y_loadA (B := aD b1) (i := 0) (cs := kD_ y) (vs := kD_ y) k_ag_54 k_sz_54_5 rfl rfl (hS4.cf (i := 1) rfl) rfl rfl)) ?_
 obtain ⟨r_3, hc1, hF⟩ := bind_inv hF
 refine sgc 20 (B := (!(!r_2))) (v := .bool r_3) (F := hS4.fn) rfl rfl (uF_ 18) hS4 (fun hg1 => (Yc_func (g := 169) (vs := [gD_ y]) k_call_169 rfl (mc (gv_of (v := gD_ y) hg1) mn) (CV.mono (c_impl_IsValidDyadic y _  (hS4.inn0 [] rfl) (gb_inv hc1 hg1)) (by rintro _ _ ⟨rfl, h⟩; exact ⟨rfl, hS4.out00 h⟩)))) ?_
 rintro w_4 hS5
 refine sgq 21 (B := (!(!r_2))) (v := .bool (!r_3)) rfl rfl (uF_ 18) (fun hg2 => (Y_not (p := r_3) rfl (gv_of (v := .bool r_3) hg2))) ?_
 refine sQ 22 (Y_or (b := (!r_2)) (z := (!r_3)) rfl rfl rfl rfl) (rw_nil ?_)
 refine cw_cond (b := ((!r_2) || (!r_3))) rfl (fun hb => ?_) (fun hb => ?_)
 ·skip
  have hF1 := ct hF hb
  refine cw_seq (cw_region ?_)
  refine sQ 23 (Y_buildS (zs := kZ_) (vs := []) (cs := kZ_) k_pl_54 k_zero_54 rfl mpn rfl) ?_
  refine s0 (Ys_store (i := 2) (s := 5) (B := aD b2) (T' := 54) (v := gZ_) (vs := kZ_) (k := 0) (cs' := kZ_) hS5 k_sz_54_5 rfl rfl rfl rfl rfl rfl rfl (lB rfl) rfl rfl) ?_
  rintro _ w_5 ⟨rfl, hS6⟩
  refine sQ 7 (Y_assign (v := .bool false) rfl rfl) (rw_nil (cw_ret ?_))
  obtain ⟨rfl, rfl⟩ := pr2 (some_inj hF1)
  exact ret2 Tryz.results243 (v1 := gZ_) (resAt_cellA (B := aD b2) (i := 0) (cs := kZ_) (vs := kZ_) rfl k_ag_54 k_sz_54_5 (hS6.cf (i := 2) rfl) rfl rfl) (v2 := .bool false) (resAt_tmp rfl) ⟨rfl, (hS6.sN [])⟩
 ·skip
  have hF2 := cf' hF hb
  refine cw_skip (cw_seq (cw_region ?_))
  refine sQ 24 (Y_fieldAddr (B := aD b) (i := 0) (s := 0) k_fd_54_1_4_3 k_sz_3_1 rfl rfl) ?_
  refine sQ 25 (Y_load1 (B := aD b) (i := 4) (cs := kD_ x) (v := vi x.Exp) k_sc_3 rfl rfl (hS5.cf (i := 0) rfl) rfl) ?_
  refine sQ 26 (Y_fieldAddr (B := aD b1) (i := 0) (s := 0) k_fd_54_1_4_3 k_sz_3_1 rfl rfl) ?_
  refine sQ 27 (Y_load1 (B := aD b1) (i := 4) (cs := kD_ y) (v := vi y.Exp) k_sc_3 rfl rfl (hS5.cf (i := 1) rfl) rfl) ?_
  refine sQ 28 (Y_max2 (k := .i64) (a := x.Exp) (b := y.Exp) rfl rfl rfl) ?_
  refine sQ 8 (Y_assign (v := vi (if x.Exp < y.Exp then y.Exp else x.Exp)) rfl rfl) (rw_nil (cw_seq (cw_region ?_)))
  refine sQ 30 (Y_loadA (B := aD b) (i := 0) (cs := kD_ x) (vs := kD_ x) k_ag_54 k_sz_54_5 rfl rfl (hS5.cf (i := 0) rfl) rfl rfl) ?_
  refine sQ 31 (Y_move (v := vi (if x.Exp < y.Exp then y.Exp else x.Exp)) rfl rfl) ?_
  obtain ⟨⟨r_4, r_5⟩, hc2, hF2⟩ := bind_inv hF2
  refine sc 32 rfl rfl (Yc_func (g := 263) (vs := [gD_ x, vi (if x.Exp < y.Exp then y.Exp else x.Exp)]) k_call_263 rfl (mc rfl (mc rfl mn)) (c_impl_raised x (if x.Exp < y.Exp then y.Exp else x.Exp) _  (hS5.inn0 [] rfl) hc2)) ?_
  rintro _ w_6 ⟨rfl, hd1⟩
  have hS7 := hS5.out00 hd1
  refine sQ 29 (Y_move (v := .tuple #[gR_ r_4, .bool r_5]) rfl rfl) ?_
  refine sQ 33 (Y_extract (v := gR_ r_4) rfl rfl rfl) ?_
  refine sQ 34 (Y_extract (v := .bool r_5) rfl rfl rfl) ?_
  refine sS 9 (Ys_alloc (T := 52) (cs := [vi 0, vi 0, vi 0, vi 0]) (m := 4) hS7 k_zero_52 rfl rfl rfl) ?_
  rintro _ w_7 ⟨b3, rfl, hS8⟩
  refine s0 (Ys_store (i := 3) (s := 4) (B := aD b3) (T' := 52) (v := gR_ r_4) (vs := kR_ r_4) (k := 0) (cs' := kR_ r_4) hS8 k_sz_52_4 rfl rfl rfl rfl rfl rfl rfl (lB rfl) rfl rfl) ?_
  rintro _ w_8 ⟨rfl, hS9⟩
  refine sQ 10 (Y_assign (v := .bool r_5) rfl rfl) (rw_nil (cw_seq (cw_region ?_)))
  refine sQ 36 (Y_loadA (B := aD b1) (i := 0) (cs := kD_ y) (vs := kD_ y) k_ag_54 k_sz_54_5 rfl rfl (hS9.cf (i := 1) rfl) rfl rfl) ?_
  refine sQ 37 (Y_move (v := vi (if x.Exp < y.Exp then y.Exp else x.Exp)) rfl rfl) ?_
  obtain ⟨⟨r_6, r_7⟩, hc3, hF2⟩ := bind_inv hF2
  refine sc 38 rfl rfl (Yc_func (g := 263) (vs := [gD_ y, vi (if x.Exp < y.Exp then y.Exp else x.Exp)]) k_call_263 rfl (mc rfl (mc rfl mn)) (c_impl_raised y (if x.Exp < y.Exp then y.Exp else x.Exp) _  (hS9.inn0 [] rfl) hc3)) ?_
  rintro _ w_9 ⟨rfl, hd2⟩
  have hS10 := hS9.out00 hd2
  refine sQ 35 (Y_move (v := .tuple #[gR_ r_6, .bool r_7]) rfl rfl) ?_
  refine sQ 39 (Y_extract (v := gR_ r_6) rfl rfl rfl) ?_
  refine sQ 40 (Y_extract (v := .bool r_7) rfl rfl rfl) ?_
  refine sS 11 (Ys_alloc (T := 52) (cs := [vi 0, vi 0, vi 0, vi 0]) (m := 4) hS10 k_zero_52 rfl rfl rfl) ?_
  rintro _ w_10 ⟨b4, rfl, hS11⟩
  refine s0 (Ys_store (i := 4) (s := 4) (B := aD b4) (T' := 52) (v := gR_ r_6) (vs := kR_ r_6) (k := 0) (cs' := kR_ r_6) hS11 k_sz_52_4 rfl rfl rfl rfl rfl rfl rfl (lB rfl) rfl rfl) ?_
  rintro _ w_11 ⟨rfl, hS12⟩
  refine sQ 12 (Y_assign (v := .bool r_7) rfl rfl) (rw_nil (cw_seq (cw_region ?_)))
  refine sQ 42 (Y_move (v := .func (.func kf) #[] caps) rfl rfl) ?_
  refine sQ 43 (Y_loadA (B := aD b3) (i := 0) (cs := kR_ r_4) (vs := kR_ r_4) k_ag_52 k_sz_52_4 rfl rfl (hS12.cf (i := 3) rfl) rfl rfl) ?_
  refine sQ 44 (Y_loadA (B := aD b4) (i := 0) (cs := kR_ r_6) (vs := kR_ r_6) k_ag_52 k_sz_52_4 rfl rfl (hS12.cf (i := 4) rfl) rfl rfl) ?_
  obtain ⟨⟨r_8, r_9⟩, hc4, hF2⟩ := bind_inv hF2
  refine sc 45 rfl rfl (Yc_clos (g := kf) (vs := (gR_ r_4) :: (gR_ r_6) :: caps.toList) hk rfl rfl (clo_args (mc rfl (mc rfl mn))) (hp _ (hS12.innS (fun _ h => mOd (i := 0) h)) r_4 r_6 r_8 r_9 hc4)) ?_
  rintro _ w_12 ⟨rfl, hd3⟩
  have hS13 := hS12.out00 hd3
  refine sQ 41 (Y_move (v := .tuple #[gR_ r_8, .bool r_9]) rfl rfl) ?_
  refine sQ 46 (Y_extract (v := gR_ r_8) rfl rfl rfl) ?_
  refine sQ 47 (Y_extract (v := .bool r_9) rfl rfl rfl) ?_
  refine sS 13 (Ys_alloc (T := 52) (cs := [vi 0, vi 0, vi 0, vi 0]) (m := 4) hS13 k_zero_52 rfl rfl rfl) ?_
  rintro _ w_13 ⟨b5, rfl, hS14⟩
  refine s0 (Ys_store (i := 5) (s := 4) (B := aD b5) (T' := 52) (v := gR_ r_8) (vs := kR_ r_8) (k := 0) (cs' := kR_ r_8) hS14 k_sz_52_4 rfl rfl rfl rfl rfl rfl rfl (lB rfl) rfl rfl) ?_
  rintro _ w_14 ⟨rfl, hS15⟩
  refine sQ 14 (Y_assign (v := .bool r_9) rfl rfl) (rw_nil (cw_seq (cw_seq (cw_region ?_))))
  refine sQ 48 (Y_move (v := .bool r_5) rfl rfl) ?_
  refine sQ 49 (Y_not (p := r_5) rfl rfl) ?_
  refine sQ 50 (Y_move (v := .bool (!r_5)) rfl rfl) ?_
  refine sgq 51 (B := (!(!r_5))) (v := .bool r_7) rfl rfl (uF_ 50) (fun hg3 => (Y_move (v := .bool r_7) rfl rfl)) ?_
  refine sgq 52 (B := (!(!r_5))) (v := .bool (!r_7)) rfl rfl (uF_ 50) (fun hg4 => (Y_not (p := r_7) rfl (gv_of (v := .bool r_7) hg4))) ?_
  refine sQ 53 (Y_or (b := (!r_5)) (z := (!r_7)) rfl rfl rfl rfl) ?_
  refine sQ 54 (Y_move (v := .bool ((!r_5) || (!r_7))) rfl rfl) ?_
  refine sgq 55 (B := (!((!r_5) || (!r_7)))) (v := .bool r_9) rfl rfl (uF_ 54) (fun hg5 => (Y_move (v := .bool r_9) rfl rfl)) ?_
  refine sgq 56 (B := (!((!r_5) || (!r_7)))) (v := .bool (!r_9)) rfl rfl (uF_ 54) (fun hg6 => (Y_not (p := r_9) rfl (gv_of (v := .bool r_9) hg6))) ?_
  refine sQ 57 (Y_or (b := ((!r_5) || (!r_7))) (z := (!r_9)) rfl rfl rfl rfl) (rw_nil ?_)
  refine cw_cond (b := (((!r_5) || (!r_7)) || (!r_9))) rfl (fun hb1 => ?_) (fun hb1 => ?_)
  ·skip
   have hF3 := ct hF2 hb1
   refine cw_seq (cw_region ?_)
   refine sQ 58 (Y_buildS (zs := kZ_) (vs := []) (cs := kZ_) k_pl_54 k_zero_54 rfl mpn rfl) ?_
   refine s0 (Ys_store (i := 2) (s := 5) (B := aD b2) (T' := 54) (v := gZ_) (vs := kZ_) (k := 0) (cs' := kZ_) hS15 k_sz_54_5 rfl rfl rfl rfl rfl rfl rfl (lB rfl) rfl rfl) ?_
   rintro _ w_15 ⟨rfl, hS16⟩
   refine sQ 7 (Y_assign (v := .bool false) rfl rfl) (rw_nil (cw_ret ?_))
   obtain ⟨rfl, rfl⟩ := pr2 (some_inj hF3)
   exact ret2 Tryz.results243 (v1 := gZ_) (resAt_cellA (B := aD b2) (i := 0) (cs := kZ_) (vs := kZ_) rfl k_ag_54 k_sz_54_5 (hS16.cf (i := 2) rfl) rfl rfl) (v2 := .bool false) (resAt_tmp rfl) ⟨rfl, (hS16.sN [])⟩
  ·skip
   have hF4 := cf' hF2 hb1
   refine cw_skip (cw_seq (cw_region ?_))
   refine sQ 59 (Y_loadA (B := aD b5) (i := 0) (cs := kR_ r_8) (vs := kR_ r_8) k_ag_52 k_sz_52_4 rfl rfl (hS15.cf (i := 5) rfl) rfl rfl) ?_
   refine sQ 60 (Y_move (v := vi (if x.Exp < y.Exp then y.Exp else x.Exp)) rfl rfl) ?_
   obtain ⟨⟨r_10, r_11⟩, hc5, hF4⟩ := bind_inv hF4
   refine sc 61 rfl rfl (Yc_func (g := 219) (vs := [gR_ r_8, vi (if x.Exp < y.Exp then y.Exp else x.Exp)]) k_call_219 rfl (mc rfl (mc rfl mn)) (c_impl_DyadicOf r_8 (if x.Exp < y.Exp then y.Exp else x.Exp) _  (hS15.inn0 [] rfl) hc5)) ?_
   rintro _ w_16 ⟨rfl, hd4⟩
   have hS17 := hS15.out00 hd4
   refine sQ 62 (Y_extract (v := gD_ r_10) rfl rfl rfl) ?_
   refine sQ 63 (Y_extract (v := .bool r_11) rfl rfl rfl) ?_
   refine s0 (Ys_store (i := 2) (s := 5) (B := aD b2) (T' := 54) (v := gD_ r_10) (vs := kD_ r_10) (k := 0) (cs' := kD_ r_10) hS17 k_sz_54_5 rfl rfl rfl rfl rfl rfl rfl (lB rfl) rfl rfl) ?_
   rintro _ w_17 ⟨rfl, hS18⟩
   refine sQ 7 (Y_assign (v := .bool r_11) rfl rfl) (rw_nil (cw_ret ?_))
   obtain ⟨rfl, rfl⟩ := pr2 (some_inj hF4)
   exact ret2 Tryz.results243 (v1 := gD_ r_10) (resAt_cellA (B := aD b2) (i := 0) (cs := kD_ r_10) (vs := kD_ r_10) rfl k_ag_54 k_sz_54_5 (hS18.cf (i := 2) rfl) rfl rfl) (v2 := .bool r_11) (resAt_tmp rfl) ⟨rfl, (hS18.sN [])⟩

theorem c_impl_AddRing (x : TRing) (y : TRing)  (w0 : World)  (hS : ST w0 [] w0 [] []) {r_ : TRing} {r_1 : Bool} (hF : F_impl_AddRing x y = some (r_, r_1)) :
  CV Tryz.prog 244 #[gR_ x, gR_ y] w0 (fun v w' => v = .tuple #[gR_ r_, .bool r_1] ∧ ST w0 [] w' [] []) := by
 unfold F_impl_AddRing at hF
 refine cv_of_cw 33 Tryz.func244 rfl Tryz.ntmps244 rfl ?_
 refine cw_seq (cw_region ?_)
 refine sS 2 (Ys_box (T := 52) (v := gR_ x) (cs := kR_ x) (m := 4) hS rfl rfl rfl rfl) ?_
 rintro _ w_ ⟨b, rfl, hS1⟩
 refine sS 3 (Ys_box (T := 52) (v := gR_ y) (cs := kR_ y) (m := 4) hS1 rfl rfl rfl rfl) ?_
 rintro _ w_1 ⟨b1, rfl, hS2⟩
 refine sS 4 (Ys_alloc (T := 52) (cs := [vi 0, vi 0, vi 0, vi 0]) (m := 4) hS2 k_zero_52 rfl rfl rfl) ?_
 rintro _ w_2 ⟨b2, rfl, hS3⟩
 refine sQ 5 (Y_assign (v := .bool false) rfl rfl) (rw_nil (cw_seq (cw_region ?_)))
 refine sQ 6 (Y_fieldAddr (B := aD b) (i := 0) (s := 0) k_fd_52_0_0_3 k_sz_3_1 rfl rfl) ?_
 refine sQ 7 (Y_load1 (B := aD b) (i := 0) (cs := kR_ x) (v := vi x.A) k_sc_3 rfl rfl (hS3.cf (i := 0) rfl) rfl) ?_
 refine sQ 8 (Y_fieldAddr (B := aD b1) (i := 0) (s := 0) k_fd_52_0_0_3 k_sz_3_1 rfl rfl) ?_
 refine sQ 9 (Y_load1 (B := aD b1) (i := 0) (cs := kR_ y) (v := vi y.A) k_sc_3 rfl rfl (hS3.cf (i := 1) rfl) rfl) ?_
 refine sQ 10 (Y_add (k := .i64) (a := x.A) (b := y.A) rfl rfl rfl) ?_
 refine sQ 11 (Y_fieldAddr (B := aD b) (i := 0) (s := 0) k_fd_52_1_1_3 k_sz_3_1 rfl rfl) ?_
 refine sQ 12 (Y_load1 (B := aD b) (i := 1) (cs := kR_ x) (v := vi x.B) k_sc_3 rfl rfl (hS3.cf (i := 0) rfl) rfl) ?_
 refine sQ 13 (Y_fieldAddr (B := aD b1) (i := 0) (s := 0) k_fd_52_1_1_3 k_sz_3_1 rfl rfl) ?_
 refine sQ 14 (Y_load1 (B := aD b1) (i := 1) (cs := kR_ y) (v := vi y.B) k_sc_3 rfl rfl (hS3.cf (i := 1) rfl) rfl) ?_
 refine sQ 15 (Y_add (k := .i64) (a := x.B) (b := y.B) rfl rfl rfl) ?_
 refine sQ 16 (Y_fieldAddr (B := aD b) (i := 0) (s := 0) k_fd_52_2_2_3 k_sz_3_1 rfl rfl) ?_
 refine sQ 17 (Y_load1 (B := aD b) (i := 2) (cs := kR_ x) (v := vi x.C) k_sc_3 rfl rfl (hS3.cf (i := 0) rfl) rfl) ?_
 refine sQ 18 (Y_fieldAddr (B := aD b1) (i := 0) (s := 0) k_fd_52_2_2_3 k_sz_3_1 rfl rfl) ?_
 refine sQ 19 (Y_load1 (B := aD b1) (i := 2) (cs := kR_ y) (v := vi y.C) k_sc_3 rfl rfl (hS3.cf (i := 1) rfl) rfl) ?_
 refine sQ 20 (Y_add (k := .i64) (a := x.C) (b := y.C) rfl rfl rfl) ?_
 refine sQ 21 (Y_fieldAddr (B := aD b) (i := 0) (s := 0) k_fd_52_3_3_3 k_sz_3_1 rfl rfl) ?_
 refine sQ 22 (Y_load1 (B := aD b) (i := 3) (cs := kR_ x) (v := vi x.D) k_sc_3 rfl rfl (hS3.cf (i := 0) rfl) rfl) ?_
 refine sQ 23 (Y_fieldAddr (B := aD b1) (i := 0) (s := 0) k_fd_52_3_3_3 k_sz_3_1 rfl rfl) ?_
 refine sQ 24 (Y_load1 (B := aD b1) (i := 3) (cs := kR_ y) (v := vi y.D) k_sc_3 rfl rfl (hS3.cf (i := 1) rfl) rfl) ?_
 refine sQ 25 (Y_add (k := .i64) (a := x.D) (b := y.D) rfl rfl rfl) ?_
 refine sQ 26 (Y_buildS (zs := [vi 0, vi 0, vi 0, vi 0]) (vs := [(0, vi (i64.wrap (x.A + y.A))), (1, vi (i64.wrap (x.B + y.B))), (2, vi (i64.wrap (x.C + y.C))), (3, vi (i64.wrap (x.D + y.D)))]) (cs := [vi (i64.wrap (x.A + y.A)), vi (i64.wrap (x.B + y.B)), vi (i64.wrap (x.C + y.C)), vi (i64.wrap (x.D + y.D))]) k_pl_52 k_zero_52 rfl (mpc rfl (mpc rfl (mpc rfl (mpc rfl mpn)))) rfl) ?_
 refine sQ 27 (Y_loadA (B := aD b) (i := 0) (cs := kR_ x) (vs := kR_ x) k_ag_52 k_sz_52_4 rfl rfl (hS3.cf (i := 0) rfl) rfl rfl) ?_
 refine sQ 28 (Y_loadA (B := aD b1) (i := 0) (cs := kR_ y) (vs := kR_ y) k_ag_52 k_sz_52_4 rfl rfl (hS3.cf (i := 1) rfl) rfl rfl) ?_
 refine sS 29 (Ys_bslice (s := 4) (len := 2) (vs := [(0, gR_ x), (1, gR_ y)]) (cs := [vi x.A, vi x.B, vi x.C, vi x.D, vi y.A, vi y.B, vi y.C, vi y.D]) (zs := [vi 0, vi 0, vi 0, vi 0, vi 0, vi 0, vi 0, vi 0]) (m := 8) hS3 k_sl_234_52 k_sz_52_4 k_zc_52 rfl (mpc rfl (mpc rfl mpn)) rfl rfl rfl (by kernel_rfl) (by kernel_rfl) rfl) ?_
 rintro _ w_3 ⟨b3, rfl, hS4⟩
 obtain ⟨⟨r_2, r_3⟩, hc, hF⟩ := bind_inv hF
 refine sc 30 rfl rfl (Yc_func (g := 245) (vs := [.agg #[vi (i64.wrap (x.A + y.A)), vi (i64.wrap (x.B + y.B)), vi (i64.wrap (x.C + y.C)), vi (i64.wrap (x.D + y.D))], .slice (aD b3) 2 2]) k_call_245 rfl (mc rfl (mc rfl mn)) (c_impl_ringIf (TRing.mk (i64.wrap (x.A + y.A)) (i64.wrap (x.B + y.B)) (i64.wrap (x.C + y.C)) (i64.wrap (x.D + y.D))) [x, y] (aD b3) 2 2 _ rfl (hS4.inn [false, false, false, true] rfl [] rfl) hc)) ?_
 rintro _ w_4 ⟨rfl, hd⟩
 have hS5 := hS4.out [false, false, false, true] rfl hd
 refine sQ 31 (Y_extract (v := gR_ r_2) rfl rfl rfl) ?_
 refine sQ 32 (Y_extract (v := .bool r_3) rfl rfl rfl) ?_
 refine s0 (Ys_store (i := 2) (s := 4) (B := aD b2) (T' := 52) (v := gR_ r_2) (vs := kR_ r_2) (k := 0) (cs' := kR_ r_2) hS5 k_sz_52_4 rfl rfl rfl rfl rfl rfl rfl (lB rfl) rfl rfl) ?_
 rintro _ w_5 ⟨rfl, hS6⟩
 refine sQ 5 (Y_assign (v := .bool r_3) rfl rfl) (rw_nil (cw_ret ?_))
 obtain ⟨rfl, rfl⟩ := pr2 (some_inj hF)
 exact ret2 Tryz.results244 (v1 := gR_ r_2) (resAt_cellA (B := aD b2) (i := 0) (cs := kR_ r_2) (vs := kR_ r_2) rfl k_ag_52 k_sz_52_4 (hS6.cf (i := 2) rfl) rfl rfl) (v2 := .bool r_3) (resAt_tmp rfl) ⟨rfl, (hS6.sN [])⟩

theorem c_impl_AddDyadic (x : TDyadic) (y : TDyadic)  (w0 : World)  (hS : ST w0 [] w0 [] []) {r_ : TDyadic} {r_1 : Bool} (hF : F_impl_AddDyadic x y = some (r_, r_1)) :
  CV Tryz.prog 215 #[gD_ x, gD_ y] w0 (fun v w' => v = .tuple #[gD_ r_, .bool r_1] ∧ ST w0 [] w' [] []) := by
 unfold F_impl_AddDyadic at hF
 refine cv_of_cw 11 Tryz.func215 rfl Tryz.ntmps215 rfl ?_
 refine cw_seq (cw_region ?_)
 refine sS 2 (Ys_box (T := 54) (v := gD_ x) (cs := kD_ x) (m := 5) hS rfl rfl rfl rfl) ?_
 rintro _ w_ ⟨b, rfl, hS1⟩
 refine sS 3 (Ys_box (T := 54) (v := gD_ y) (cs := kD_ y) (m := 5) hS1 rfl rfl rfl rfl) ?_
 rintro _ w_1 ⟨b1, rfl, hS2⟩
 refine sS 4 (Ys_alloc (T := 54) (cs := kZ_) (m := 5) hS2 k_zero_54 rfl rfl rfl) ?_
 rintro _ w_2 ⟨b2, rfl, hS3⟩
 refine sQ 5 (Y_assign (v := .bool false) rfl rfl) (rw_nil (cw_seq (cw_region ?_)))
 refine sQ 6 (Y_loadA (B := aD b) (i := 0) (cs := kD_ x) (vs := kD_ x) k_ag_54 k_sz_54_5 rfl rfl (hS3.cf (i := 0) rfl) rfl rfl) ?_
 refine sQ 7 (Y_loadA (B := aD b1) (i := 0) (cs := kD_ y) (vs := kD_ y) k_ag_54 k_sz_54_5 rfl rfl (hS3.cf (i := 1) rfl) rfl rfl) ?_
 obtain ⟨⟨r_2, r_3⟩, hc, hF⟩ := bind_inv hF
 refine sc 8 rfl rfl (Yc_func (g := 243) (vs := [gD_ x, gD_ y, .func (.func 244) #[] #[]]) k_call_243 rfl (mc rfl (mc rfl (mc rfl mn))) (c_impl_combined x y F_impl_AddRing 244 (#[]) [] _ k_call_244 (fun w hw x_0 x_1 y_0 y_1 h_ => c_impl_AddRing x_0 x_1  w  hw h_) (hS3.inn0 [] rfl) hc)) ?_
 rintro _ w_3 ⟨rfl, hd⟩
 have hS4 := hS3.out00 hd
 refine sQ 9 (Y_extract (v := gD_ r_2) rfl rfl rfl) ?_
 refine sQ 10 (Y_extract (v := .bool r_3) rfl rfl rfl) ?_
 refine s0 (Ys_store (i := 2) (s := 5) (B := aD b2) (T' := 54) (v := gD_ r_2) (vs := kD_ r_2) (k := 0) (cs' := kD_ r_2) hS4 k_sz_54_5 rfl rfl rfl rfl rfl rfl rfl (lB rfl) rfl rfl) ?_
 rintro _ w_4 ⟨rfl, hS5⟩
 refine sQ 5 (Y_assign (v := .bool r_3) rfl rfl) (rw_nil (cw_ret ?_))
 obtain ⟨rfl, rfl⟩ := pr2 (some_inj hF)
 exact ret2 Tryz.results215 (v1 := gD_ r_2) (resAt_cellA (B := aD b2) (i := 0) (cs := kD_ r_2) (vs := kD_ r_2) rfl k_ag_54 k_sz_54_5 (hS5.cf (i := 2) rfl) rfl rfl) (v2 := .bool r_3) (resAt_tmp rfl) ⟨rfl, (hS5.sN [])⟩

theorem c_impl_MulMatrix_1 (i : Int) (j : Int) (p : TMatrix) (p1 : TMatrix) (B : Option Addr) (B1 : Option Addr) (c n : Nat) (B2 : Option Addr) (B3 : Option Addr) (c1 n1 : Nat) (w0 : World) (hn : p.Cells.length = n) (hn1 : p1.Cells.length = n1) (hS : ST w0 [] w0 [] [⟨B, [vi p.Rows, vi p.Cols, .slice B1 n c]⟩, ⟨B1, (p.Cells.flatMap eN0)⟩, ⟨B2, [vi p1.Rows, vi p1.Cols, .slice B3 n1 c1]⟩, ⟨B3, (p1.Cells.flatMap eN0)⟩]) {r_ : TDyadic} {r_1 : Bool} (hF : F_impl_MulMatrix_1 i j p p1 = some (r_, r_1)) :
  CV Tryz.prog 214 #[vi i, vi j, pt B 0, pt B2 0] w0 (fun v w' => v = .tuple #[gD_ r_, .bool r_1] ∧ ST w0 [] w' [] []) := by
 subst hn
 subst hn1
 unfold F_impl_MulMatrix_1 at hF
 refine cv_of_cw 48 Tryz.func214 rfl Tryz.ntmps214 rfl ?_
 refine cw_seq (cw_region ?_)
 refine sS 6 (Ys_alloc (T := 54) (cs := kZ_) (m := 5) hS k_zero_54 rfl rfl rfl) ?_
 rintro _ w_ ⟨b, rfl, hS1⟩
 refine sQ 7 (Y_assign (v := .bool false) rfl rfl) (rw_nil (cw_seq (cw_region ?_)))
 refine sQ 14 (Y_buildS (zs := kZ_) (vs := []) (cs := kZ_) k_pl_54 k_zero_54 rfl mpn rfl) ?_
 refine sS 8 (Ys_alloc (T := 54) (cs := kZ_) (m := 5) hS1 k_zero_54 rfl rfl rfl) ?_
 rintro _ w_1 ⟨b1, rfl, hS2⟩
 refine s0 (Ys_store (i := 1) (s := 5) (B := aD b1) (T' := 54) (v := gZ_) (vs := kZ_) (k := 0) (cs' := kZ_) hS2 k_sz_54_5 rfl rfl rfl rfl rfl rfl rfl (lB rfl) rfl rfl) ?_
 rintro _ w_2 ⟨rfl, hS3⟩
 refine rw_nil (cw_seq (cw_seq (cw_region ?_)))
 refine sQ 15 (Y_fieldAddr (B := B) (i := 0) (s := 0) k_fd_37_1_1_3 k_sz_3_1 rfl rfl) ?_
 refine sQ 16 (Y_load1 (B := B) (i := 1) (cs := kM_ p B1 c) (v := vi p.Cols) k_sc_3 rfl rfl (hS3.rf (i := 0) rfl) rfl) ?_
 refine sQ 17 (Y_move (v := vi 0) rfl rfl) (rw_nil ?_)
 obtain ⟨hN, hF⟩ := chk_inv hF
 obtain ⟨z, hz, hF1⟩ := bind_inv hF
 refine cw_block ?_
 refine cw_loop (fun k f w => ∃ (i1 : Nat) (A : Int) (B4 : Int) (C : Int) (D : Int) (Exp : Int), FF f [(0, vi i), (1, vi j), (2, pt B 0), (3, pt B2 0), (6, pt (aD b) 0), (8, pt (aD b1) 0), (16, vi p.Cols), (17, vi (i1 : Int))] ∧ ST w0 [] w [⟨aD b, 54, kZ_, 5⟩, ⟨aD b1, 54, [vi A, vi B4, vi C, vi D, vi Exp], 5⟩] [⟨B, kM_ p B1 c⟩, ⟨B1, (p.Cells.flatMap eN0)⟩, ⟨B2, kM_ p1 B3 c1⟩, ⟨B3, (p1.Cells.flatMap eN0)⟩] ∧ i1 + k = p.Cols.toNat ∧ forX (F_impl_MulMatrix_1_l1 p i p1 j) k i1 (A, B4, C, D, Exp) = some z) p.Cols.toNat ⟨0, 0, 0, 0, 0, 0, (FF.cons rfl (FF.cons rfl (FF.cons rfl (FF.cons rfl (FF.cons rfl (FF.cons rfl (FF.cons rfl (FF.cons rfl FF.nil)))))))), (hS3.sel [0, 1] rfl rfl), Nat.zero_add _, hz⟩ ?_
 rintro k_ f w ⟨i1, A, B4, C, D, Exp, hf, hS4, hik, hL⟩
 refine cw_seq (cw_region ?_)
 refine sQ 18 (Y_lt (k := .i64) (a := (i1 : Int)) (b := p.Cols) rfl (hf.get 17 7 rfl) (hf.get 16 6 rfl)) (rw_nil (cw_seq ?_))
 refine cw_cond (b := (decide ((i1 : Int) < p.Cols))) rfl (fun hlt => ?_) (fun hlt => ?_)
 ·skip
  have hlt1 : i1 < p.Cols.toNat := by have h := of_decide_eq_true hlt; omega
  obtain ⟨k_1, rfl⟩ : ∃ k2, k_ = k2 + 1 := ⟨k_ - 1, by omega⟩
  obtain ⟨y, hb, hL1⟩ := forX_go hL
  unfold F_impl_MulMatrix_1_l1 at hb
  refine cw_skip (cw_seq (cw_block (cw_seq (cw_region ?_))))
  refine sQ 19 (Y_move (v := vi (i1 : Int)) rfl (hf.get 17 7 rfl)) ?_
  refine sQ 9 (Y_assign (v := vi (i1 : Int)) rfl rfl) (rw_nil (cw_seq ?_))
  obtain ⟨r_2, hc, hb⟩ := bind_inv hb
  obtain ⟨r_3, hc1, hb⟩ := bind_inv hb
  obtain ⟨⟨r_4, r_5⟩, hc2, hb⟩ := bind_inv hb
  refine cw_mid (fun f w => ∃ (B5 : Option Addr), FF f [(0, vi i), (1, vi j), (2, pt B 0), (3, pt B2 0), (6, pt (aD b) 0), (8, pt (aD b1) 0), (10, pt B5 0), (11, .bool r_5), (16, vi p.Cols), (17, vi (i1 : Int))] ∧ ST w0 [] w [⟨aD b, 54, kZ_, 5⟩, ⟨aD b1, 54, [vi A, vi B4, vi C, vi D, vi Exp], 5⟩, ⟨B5, 54, kD_ r_4, 5⟩] [⟨B, kM_ p B1 c⟩, ⟨B1, (p.Cells.flatMap eN0)⟩, ⟨B2, kM_ p1 B3 c1⟩, ⟨B3, (p1.Cells.flatMap eN0)⟩]) ?_ ?_
  ·skip
   refine ra_start (hS4.se [0, 1]).fn (by kernel_rfl) ?_
   have hS9 := hS4.drew
   refine rq 0 21 (v := gM_ p B1 c) rfl (hS9.se [0, 1]) (fun w' hw' => (Y_loadA (B := B) (i := 0) (cs := kM_ p B1 c) (vs := kM_ p B1 c) k_ag_37 k_sz_37_3 rfl (hf.get 2 2 rfl) (ST.rf hw' (i := 0) rfl) rfl rfl)) ?_
   refine rq 1 22 (v := vi i) rfl (hS9.se [0, 1]) (fun w' hw' => (Y_move (v := vi i) rfl (hf.get 0 0 rfl))) ?_
   refine rq 2 23 (v := vi (i1 : Int)) rfl (hS9.se [0, 1]) (fun w' hw' => (Y_move (v := vi (i1 : Int)) rfl rfl)) ?_
   refine rq 4 25 (v := gM_ p1 B3 c1) rfl (hS9.se [0, 1]) (fun w' hw' => (Y_loadA (B := B2) (i := 0) (cs := kM_ p1 B3 c1) (vs := kM_ p1 B3 c1) k_ag_37 k_sz_37_3 rfl (hf.get 3 3 rfl) (ST.rf hw' (i := 2) rfl) rfl rfl)) ?_
   refine rq 5 26 (v := vi (i1 : Int)) rfl (hS9.se [0, 1]) (fun w' hw' => (Y_move (v := vi (i1 : Int)) rfl rfl)) ?_
   refine rq 6 27 (v := vi j) rfl (hS9.se [0, 1]) (fun w' hw' => (Y_move (v := vi j) rfl (hf.get 1 1 rfl))) ?_
   refine rA [3, 12] ?_
   refine ra_c 24 (i := 3) rfl rfl rfl (Yc_func (g := 156) (vs := [gM_ p B1 c, vi i, vi (i1 : Int)]) k_call_156 rfl (mc rfl (mc rfl (mc rfl mn))) (c_impl_Matrix_at p i (i1 : Int) B1 c p.Cells.length _ rfl (hS9.inn0 [(true, 1)] rfl) hc)) ?_ ?_
   ·rintro _ w_3 ⟨rfl, hd⟩
    have hS10 := hS9.out00 hd
    refine ⟨(hS10.se [0, 1]), ?_⟩
    refine rA [7, 12] ?_
    refine ra_c 28 (i := 7) rfl rfl rfl (Yc_func (g := 156) (vs := [gM_ p1 B3 c1, vi (i1 : Int), vi j]) k_call_156 rfl (mc rfl (mc rfl (mc rfl mn))) (c_impl_Matrix_at p1 (i1 : Int) j B3 c1 p1.Cells.length _ rfl (hS10.inn0 [(true, 3)] rfl) hc1)) ?_ ?_
    ·rintro _ w_4 ⟨rfl, hd1⟩
     have hS11 := hS10.out00 hd1
     refine ⟨(hS11.se [0, 1]), ?_⟩
     refine rA [8, 12] ?_
     refine ra_c 29 (i := 8) rfl rfl rfl (Yc_func (g := 158) (vs := [gD_ r_2, gD_ r_3]) k_call_158 rfl (mc rfl (mc rfl mn)) (c_impl_MulDyadic r_2 r_3 _  (hS11.inn0 [] rfl) hc2)) ?_ ?_
     ·rintro _ w_5 ⟨rfl, hd2⟩
      have hS12 := hS11.out00 hd2
      refine ⟨(hS12.se [0, 1]), ?_⟩
      refine rq 9 20 (v := .tuple #[gD_ r_4, .bool r_5]) rfl (hS12.se [0, 1]) (fun w' hw' => (Y_move (v := .tuple #[gD_ r_4, .bool r_5]) rfl rfl)) ?_
      refine rq 10 30 (v := gD_ r_4) rfl (hS12.se [0, 1]) (fun w' hw' => (Y_extract (v := gD_ r_4) rfl rfl rfl)) ?_
      refine rq 11 31 (v := .bool r_5) rfl (hS12.se [0, 1]) (fun w' hw' => (Y_extract (v := .bool r_5) rfl rfl rfl)) ?_
      refine rA [12] ?_
      refine ra_s 10 (i := 12) rfl rfl rfl (Ys_alloc (T := 54) (cs := kZ_) (m := 5) hS12 k_zero_54 rfl rfl rfl) ?_ ?_
      ·rintro _ w_6 ⟨b2, rfl, hS13⟩
       refine ⟨(hS13.se [0, 1]), ?_⟩
       refine rA [13] ?_
       refine ra_s0 (i := 13) rfl rfl rfl (Ys_store (i := 2) (s := 5) (B := aD b2) (T' := 54) (v := gD_ r_4) (vs := kD_ r_4) (k := 0) (cs' := kD_ r_4) hS13 k_sz_54_5 rfl rfl rfl rfl rfl rfl rfl (lB rfl) rfl rfl) ?_ ?_
       ·rintro _ w_7 ⟨rfl, hS14⟩
        refine ⟨(hS14.se [0, 1]), ?_⟩
        refine rq 14 11 (v := .bool r_5) rfl (hS14.se [0, 1]) (fun w' hw' => (Y_assign (v := .bool r_5) rfl rfl)) ?_
        refine ra_done (by kernel_rfl) ?_
        exact ⟨aD b2, (FF.cons (hf.get 0 0 rfl) (FF.cons (hf.get 1 1 rfl) (FF.cons (hf.get 2 2 rfl) (FF.cons (hf.get 3 3 rfl) (FF.cons (hf.get 6 4 rfl) (FF.cons (hf.get 8 5 rfl) (FF.cons rfl (FF.cons rfl (FF.cons (hf.get 16 6 rfl) (FF.cons (hf.get 17 7 rfl) FF.nil)))))))))), (hS14.sel [0, 1, 2] rfl rfl)⟩
       exact allR_nil
      exact allR_nil
     refine ra_s 10 (i := 12) rfl rfl rfl (Ys_alloc (T := 54) (cs := kZ_) (m := 5) hS11 k_zero_54 rfl rfl rfl) ?_ ?_
     ·rintro _ w_8 ⟨b2, rfl, hS15⟩
      refine ⟨(hS15.se [0, 1]), ?_⟩
      refine rA [8] ?_
      refine ra_c 29 (i := 8) rfl rfl rfl (Yc_func (g := 158) (vs := [gD_ r_2, gD_ r_3]) k_call_158 rfl (mc rfl (mc rfl mn)) (c_impl_MulDyadic r_2 r_3 _  (hS15.inn0 [] rfl) hc2)) ?_ ?_
      ·rintro _ w_9 ⟨rfl, hd3⟩
       have hS16 := hS15.out00 hd3
       refine ⟨(hS16.se [0, 1]), ?_⟩
       refine rq 9 20 (v := .tuple #[gD_ r_4, .bool r_5]) rfl (hS16.se [0, 1]) (fun w' hw' => (Y_move (v := .tuple #[gD_ r_4, .bool r_5]) rfl rfl)) ?_
       refine rq 10 30 (v := gD_ r_4) rfl (hS16.se [0, 1]) (fun w' hw' => (Y_extract (v := gD_ r_4) rfl rfl rfl)) ?_
       refine rq 11 31 (v := .bool r_5) rfl (hS16.se [0, 1]) (fun w' hw' => (Y_extract (v := .bool r_5) rfl rfl rfl)) ?_
       refine rA [13] ?_
       refine ra_s0 (i := 13) rfl rfl rfl (Ys_store (i := 2) (s := 5) (B := aD b2) (T' := 54) (v := gD_ r_4) (vs := kD_ r_4) (k := 0) (cs' := kD_ r_4) hS16 k_sz_54_5 rfl rfl rfl rfl rfl rfl rfl (lB rfl) rfl rfl) ?_ ?_
       ·rintro _ w_10 ⟨rfl, hS17⟩
        refine ⟨(hS17.se [0, 1]), ?_⟩
        refine rq 14 11 (v := .bool r_5) rfl (hS17.se [0, 1]) (fun w' hw' => (Y_assign (v := .bool r_5) rfl rfl)) ?_
        refine ra_done (by kernel_rfl) ?_
        exact ⟨aD b2, (FF.cons (hf.get 0 0 rfl) (FF.cons (hf.get 1 1 rfl) (FF.cons (hf.get 2 2 rfl) (FF.cons (hf.get 3 3 rfl) (FF.cons (hf.get 6 4 rfl) (FF.cons (hf.get 8 5 rfl) (FF.cons rfl (FF.cons rfl (FF.cons (hf.get 16 6 rfl) (FF.cons (hf.get 17 7 rfl) FF.nil)))))))))), (hS17.sel [0, 1, 2] rfl rfl)⟩
       exact allR_nil
      exact allR_nil
     exact allR_nil
    refine ra_s 10 (i := 12) rfl rfl rfl (Ys_alloc (T := 54) (cs := kZ_) (m := 5) hS10 k_zero_54 rfl rfl rfl) ?_ ?_
    ·rintro _ w_11 ⟨b2, rfl, hS18⟩
     refine ⟨(hS18.se [0, 1]), ?_⟩
     refine rA [7] ?_
     refine ra_c 28 (i := 7) rfl rfl rfl (Yc_func (g := 156) (vs := [gM_ p1 B3 c1, vi (i1 : Int), vi j]) k_call_156 rfl (mc rfl (mc rfl (mc rfl mn))) (c_impl_Matrix_at p1 (i1 : Int) j B3 c1 p1.Cells.length _ rfl (hS18.inn0 [(true, 3)] rfl) hc1)) ?_ ?_
     ·rintro _ w_12 ⟨rfl, hd4⟩
      have hS19 := hS18.out00 hd4
      refine ⟨(hS19.se [0, 1]), ?_⟩
      refine rA [8] ?_
      refine ra_c 29 (i := 8) rfl rfl rfl (Yc_func (g := 158) (vs := [gD_ r_2, gD_ r_3]) k_call_158 rfl (mc rfl (mc rfl mn)) (c_impl_MulDyadic r_2 r_3 _  (hS19.inn0 [] rfl) hc2)) ?_ ?_
      ·rintro _ w_13 ⟨rfl, hd5⟩
       have hS20 := hS19.out00 hd5
       refine ⟨(hS20.se [0, 1]), ?_⟩
       refine rq 9 20 (v := .tuple #[gD_ r_4, .bool r_5]) rfl (hS20.se [0, 1]) (fun w' hw' => (Y_move (v := .tuple #[gD_ r_4, .bool r_5]) rfl rfl)) ?_
       refine rq 10 30 (v := gD_ r_4) rfl (hS20.se [0, 1]) (fun w' hw' => (Y_extract (v := gD_ r_4) rfl rfl rfl)) ?_
       refine rq 11 31 (v := .bool r_5) rfl (hS20.se [0, 1]) (fun w' hw' => (Y_extract (v := .bool r_5) rfl rfl rfl)) ?_
       refine rA [13] ?_
       refine ra_s0 (i := 13) rfl rfl rfl (Ys_store (i := 2) (s := 5) (B := aD b2) (T' := 54) (v := gD_ r_4) (vs := kD_ r_4) (k := 0) (cs' := kD_ r_4) hS20 k_sz_54_5 rfl rfl rfl rfl rfl rfl rfl (lB rfl) rfl rfl) ?_ ?_
       ·rintro _ w_14 ⟨rfl, hS21⟩
        refine ⟨(hS21.se [0, 1]), ?_⟩
        refine rq 14 11 (v := .bool r_5) rfl (hS21.se [0, 1]) (fun w' hw' => (Y_assign (v := .bool r_5) rfl rfl)) ?_
        refine ra_done (by kernel_rfl) ?_
        exact ⟨aD b2, (FF.cons (hf.get 0 0 rfl) (FF.cons (hf.get 1 1 rfl) (FF.cons (hf.get 2 2 rfl) (FF.cons (hf.get 3 3 rfl) (FF.cons (hf.get 6 4 rfl) (FF.cons (hf.get 8 5 rfl) (FF.cons rfl (FF.cons rfl (FF.cons (hf.get 16 6 rfl) (FF.cons (hf.get 17 7 rfl) FF.nil)))))))))), (hS21.sel [0, 1, 2] rfl rfl)⟩
       exact allR_nil
      exact allR_nil
     exact allR_nil
    exact allR_nil
   refine ra_s 10 (i := 12) rfl rfl rfl (Ys_alloc (T := 54) (cs := kZ_) (m := 5) hS9 k_zero_54 rfl rfl rfl) ?_ ?_
   ·rintro _ w_15 ⟨b2, rfl, hS22⟩
    refine ⟨(hS22.se [0, 1]), ?_⟩
    refine rA [3] ?_
    refine ra_c 24 (i := 3) rfl rfl rfl (Yc_func (g := 156) (vs := [gM_ p B1 c, vi i, vi (i1 : Int)]) k_call_156 rfl (mc rfl (mc rfl (mc rfl mn))) (c_impl_Matrix_at p i (i1 : Int) B1 c p.Cells.length _ rfl (hS22.inn0 [(true, 1)] rfl) hc)) ?_ ?_
    ·rintro _ w_16 ⟨rfl, hd6⟩
     have hS23 := hS22.out00 hd6
     refine ⟨(hS23.se [0, 1]), ?_⟩
     refine rA [7] ?_
     refine ra_c 28 (i := 7) rfl rfl rfl (Yc_func (g := 156) (vs := [gM_ p1 B3 c1, vi (i1 : Int), vi j]) k_call_156 rfl (mc rfl (mc rfl (mc rfl mn))) (c_impl_Matrix_at p1 (i1 : Int) j B3 c1 p1.Cells.length _ rfl (hS23.inn0 [(true, 3)] rfl) hc1)) ?_ ?_
     ·rintro _ w_17 ⟨rfl, hd7⟩
      have hS24 := hS23.out00 hd7
      refine ⟨(hS24.se [0, 1]), ?_⟩
      refine rA [8] ?_
      refine ra_c 29 (i := 8) rfl rfl rfl (Yc_func (g := 158) (vs := [gD_ r_2, gD_ r_3]) k_call_158 rfl (mc rfl (mc rfl mn)) (c_impl_MulDyadic r_2 r_3 _  (hS24.inn0 [] rfl) hc2)) ?_ ?_
      ·rintro _ w_18 ⟨rfl, hd8⟩
       have hS25 := hS24.out00 hd8
       refine ⟨(hS25.se [0, 1]), ?_⟩
       refine rq 9 20 (v := .tuple #[gD_ r_4, .bool r_5]) rfl (hS25.se [0, 1]) (fun w' hw' => (Y_move (v := .tuple #[gD_ r_4, .bool r_5]) rfl rfl)) ?_
       refine rq 10 30 (v := gD_ r_4) rfl (hS25.se [0, 1]) (fun w' hw' => (Y_extract (v := gD_ r_4) rfl rfl rfl)) ?_
       refine rq 11 31 (v := .bool r_5) rfl (hS25.se [0, 1]) (fun w' hw' => (Y_extract (v := .bool r_5) rfl rfl rfl)) ?_
       refine rA [13] ?_
       refine ra_s0 (i := 13) rfl rfl rfl (Ys_store (i := 2) (s := 5) (B := aD b2) (T' := 54) (v := gD_ r_4) (vs := kD_ r_4) (k := 0) (cs' := kD_ r_4) hS25 k_sz_54_5 rfl rfl rfl rfl rfl rfl rfl (lB rfl) rfl rfl) ?_ ?_
       ·rintro _ w_19 ⟨rfl, hS26⟩
        refine ⟨(hS26.se [0, 1]), ?_⟩
        refine rq 14 11 (v := .bool r_5) rfl (hS26.se [0, 1]) (fun w' hw' => (Y_assign (v := .bool r_5) rfl rfl)) ?_
        refine ra_done (by kernel_rfl) ?_
        exact ⟨aD b2, (FF.cons (hf.get 0 0 rfl) (FF.cons (hf.get 1 1 rfl) (FF.cons (hf.get 2 2 rfl) (FF.cons (hf.get 3 3 rfl) (FF.cons (hf.get 6 4 rfl) (FF.cons (hf.get 8 5 rfl) (FF.cons rfl (FF.cons rfl (FF.cons (hf.get 16 6 rfl) (FF.cons (hf.get 17 7 rfl) FF.nil)))))))))), (hS26.sel [0, 1, 2] rfl rfl)⟩
       exact allR_nil
      exact allR_nil
     exact allR_nil
    exact allR_nil
   exact allR_nil
  rintro f w ⟨B5, hf1, hS8⟩
  refine cw_seq (cw_region ?_)
  refine sQ 33 (Y_loadA (B := aD b1) (i := 0) (cs := [vi A, vi B4, vi C, vi D, vi Exp]) (vs := [vi A, vi B4, vi C, vi D, vi Exp]) k_ag_54 k_sz_54_5 rfl (hf1.get 8 5 rfl) (hS8.cf (i := 1) rfl) rfl rfl) ?_
  refine sQ 34 (Y_loadA (B := B5) (i := 0) (cs := kD_ r_4) (vs := kD_ r_4) k_ag_54 k_sz_54_5 rfl (hf1.get 10 6 rfl) (hS8.cf (i := 2) rfl) rfl rfl) ?_
  obtain ⟨⟨r_6, r_7⟩, hc3, hb⟩ := bind_inv hb
  refine sc 35 rfl rfl (Yc_func (g := 215) (vs := [.agg #[vi A, vi B4, vi C, vi D, vi Exp], gD_ r_4]) k_call_215 rfl (mc rfl (mc rfl mn)) (c_impl_AddDyadic (TDyadic.mk (TRing.mk A B4 C D) Exp) r_4 _  (hS8.inn0 [] rfl) hc3)) ?_
  rintro _ w_20 ⟨rfl, hd9⟩
  have hS27 := hS8.out00 hd9
  refine sQ 32 (Y_move (v := .tuple #[gD_ r_6, .bool r_7]) rfl rfl) ?_
  refine sQ 36 (Y_extract (v := gD_ r_6) rfl rfl rfl) ?_
  refine sQ 37 (Y_extract (v := .bool r_7) rfl rfl rfl) ?_
  refine sS 12 (Ys_alloc (T := 54) (cs := kZ_) (m := 5) hS27 k_zero_54 rfl rfl rfl) ?_
  rintro _ w_21 ⟨b3, rfl, hS28⟩
  refine s0 (Ys_store (i := 3) (s := 5) (B := aD b3) (T' := 54) (v := gD_ r_6) (vs := kD_ r_6) (k := 0) (cs' := kD_ r_6) hS28 k_sz_54_5 rfl rfl rfl rfl rfl rfl rfl (lB rfl) rfl rfl) ?_
  rintro _ w_22 ⟨rfl, hS29⟩
  refine sQ 13 (Y_assign (v := .bool r_7) rfl rfl) (rw_nil (cw_seq (cw_seq (cw_region ?_))))
  refine sQ 38 (Y_move (v := .bool r_5) rfl (hf1.get 11 7 rfl)) ?_
  refine sQ 39 (Y_not (p := r_5) rfl rfl) ?_
  refine sQ 40 (Y_move (v := .bool (!r_5)) rfl rfl) ?_
  refine sgq 41 (B := (!(!r_5))) (v := .bool r_7) rfl rfl (uF_ 40) (fun hg => (Y_move (v := .bool r_7) rfl rfl)) ?_
  refine sgq 42 (B := (!(!r_5))) (v := .bool (!r_7)) rfl rfl (uF_ 40) (fun hg1 => (Y_not (p := r_7) rfl (gv_of (v := .bool r_7) hg1))) ?_
  refine sQ 43 (Y_or (b := (!r_5)) (z := (!r_7)) rfl rfl rfl rfl) (rw_nil ?_)
  refine cw_cond (b := ((!r_5) || (!r_7))) rfl (fun hb1 => ?_) (fun hb1 => ?_)
  ·skip
   have hF2 := ct hb hb1
   refine cw_seq (cw_region ?_)
   refine sQ 44 (Y_buildS (zs := kZ_) (vs := []) (cs := kZ_) k_pl_54 k_zero_54 rfl mpn rfl) ?_
   refine s0 (Ys_store (i := 0) (s := 5) (B := aD b) (T' := 54) (v := gZ_) (vs := kZ_) (k := 0) (cs' := kZ_) hS29 k_sz_54_5 rfl (hf1.get 6 4 rfl) rfl rfl rfl rfl rfl (lB rfl) rfl rfl) ?_
   rintro _ w_23 ⟨rfl, hS30⟩
   refine sQ 7 (Y_assign (v := .bool false) rfl rfl) (rw_nil (cw_ret ?_))
   obtain rfl := some_inj hF2
   obtain rfl := some_inj hL1
   obtain ⟨rfl, rfl⟩ := pr2 (some_inj hF1)
   exact ret2 Tryz.results214 (v1 := gZ_) (resAt_cellA (B := aD b) (i := 0) (cs := kZ_) (vs := kZ_) (hf1.get 6 4 rfl) k_ag_54 k_sz_54_5 (hS30.cf (i := 0) rfl) rfl rfl) (v2 := .bool false) (resAt_tmp rfl) ⟨rfl, (hS30.sN [])⟩
  ·skip
   have hF3 := cf' hb hb1
   refine cw_skip (cw_region ?_)
   refine sQ 45 (Y_loadA (B := aD b3) (i := 0) (cs := kD_ r_6) (vs := kD_ r_6) k_ag_54 k_sz_54_5 rfl rfl (hS29.cf (i := 3) rfl) rfl rfl) ?_
   refine s0 (Ys_store (i := 1) (s := 5) (B := aD b1) (T' := 54) (v := gD_ r_6) (vs := kD_ r_6) (k := 0) (cs' := kD_ r_6) hS29 k_sz_54_5 rfl (hf1.get 8 5 rfl) rfl rfl rfl rfl rfl (lB rfl) rfl rfl) ?_
   rintro _ w_24 ⟨rfl, hS31⟩
   refine rw_nil (cw_region ?_)
   refine sQ 46 (Y_add (k := .i64) (a := (i1 : Int)) (b := 1) rfl (hf1.get 17 9 rfl) rfl) ?_
   refine sQ 17 (Y_move (v := vi (i64.wrap ((i1 : Int) + 1))) rfl rfl) (rw_nil ?_)
   obtain rfl := some_inj hF3
   exact ⟨k_1, Nat.lt_succ_self _, i1 + 1, r_6.Num.A, r_6.Num.B, r_6.Num.C, r_6.Num.D, r_6.Exp, (FF.cons (hf1.get 0 0 rfl) (FF.cons (hf1.get 1 1 rfl) (FF.cons (hf1.get 2 2 rfl) (FF.cons (hf1.get 3 3 rfl) (FF.cons (hf1.get 6 4 rfl) (FF.cons (hf1.get 8 5 rfl) (FF.cons (hf1.get 16 8 rfl) (FF.cons (congrArg (Value.int .i64) (wr_succ hlt1 hN)) FF.nil)))))))), (hS31.sel [0, 1] rfl rfl), (by omega), hL1⟩
 ·skip
  obtain rfl : k_ = 0 := by have h := of_decide_eq_false hlt; omega
  refine cw_exit rfl ?_
  obtain rfl := some_inj hL
  refine cw_seq (cw_region ?_)
  refine sQ 47 (Y_loadA (B := aD b1) (i := 0) (cs := [vi A, vi B4, vi C, vi D, vi Exp]) (vs := [vi A, vi B4, vi C, vi D, vi Exp]) k_ag_54 k_sz_54_5 rfl (hf.get 8 5 rfl) (hS4.cf (i := 1) rfl) rfl rfl) ?_
  refine s0 (Ys_store (i := 0) (s := 5) (B := aD b) (T' := 54) (v := .agg #[vi A, vi B4, vi C, vi D, vi Exp]) (vs := [vi A, vi B4, vi C, vi D, vi Exp]) (k := 0) (cs' := [vi A, vi B4, vi C, vi D, vi Exp]) hS4 k_sz_54_5 rfl (hf.get 6 4 rfl) rfl rfl rfl rfl rfl (lB rfl) rfl rfl) ?_
  rintro _ w_25 ⟨rfl, hS32⟩
  refine sQ 7 (Y_assign (v := .bool true) rfl rfl) (rw_nil (cw_ret ?_))
  obtain ⟨rfl, rfl⟩ := pr2 (some_inj hF1)
  exact ret2 Tryz.results214 (v1 := .agg #[vi A, vi B4, vi C, vi D, vi Exp]) (resAt_cellA (B := aD b) (i := 0) (cs := [vi A, vi B4, vi C, vi D, vi Exp]) (vs := [vi A, vi B4, vi C, vi D, vi Exp]) (hf.get 6 4 rfl) k_ag_54 k_sz_54_5 (hS32.cf (i := 0) rfl) rfl rfl) (v2 := .bool true) (resAt_tmp rfl) ⟨rfl, (hS32.sN [])⟩

theorem c_impl_MulMatrix (a : TMatrix) (b : TMatrix) (B : Option Addr) (c n : Nat) (B1 : Option Addr) (c1 n1 : Nat) (w0 : World) (hn : a.Cells.length = n) (hn1 : b.Cells.length = n1) (hS : ST w0 [] w0 [] [⟨B, (a.Cells.flatMap eN0)⟩, ⟨B1, (b.Cells.flatMap eN0)⟩]) {r_ : TMatrix} {r_1 : Bool} (hF : F_impl_MulMatrix a b = some (r_, r_1)) :
  CV Tryz.prog 147 #[.agg #[vi a.Rows, vi a.Cols, .slice B n c], .agg #[vi b.Rows, vi b.Cols, .slice B1 n1 c1]] w0 (fun v w' => ∃ (B2 : Option Addr) (c2 : Nat), v = .tuple #[gM_ r_ B2 c2, .bool r_1] ∧ ST w0 [] w' [⟨B2, 54, (r_.Cells.flatMap eN0), c2 * 5⟩] []) := by
 subst hn
 subst hn1
 unfold F_impl_MulMatrix at hF
 refine cv_of_cw 30 Tryz.func147 rfl Tryz.ntmps147 rfl ?_
 refine cw_seq (cw_region ?_)
 refine sS 2 (Ys_box (T := 37) (v := gM_ a B c) (cs := kM_ a B c) (m := 3) hS rfl rfl rfl rfl) ?_
 rintro _ w_ ⟨b1, rfl, hS1⟩
 refine sS 3 (Ys_box (T := 37) (v := gM_ b B1 c1) (cs := kM_ b B1 c1) (m := 3) hS1 rfl rfl rfl rfl) ?_
 rintro _ w_1 ⟨b2, rfl, hS2⟩
 refine sS 4 (Ys_alloc (T := 37) (cs := kN_) (m := 3) hS2 k_zero_37 rfl rfl rfl) ?_
 rintro _ w_2 ⟨b3, rfl, hS3⟩
 refine sQ 5 (Y_assign (v := .bool false) rfl rfl) (rw_nil (cw_seq (cw_seq (cw_region ?_))))
 refine sQ 6 (Y_loadA (B := aD b1) (i := 0) (cs := kM_ a B c) (vs := kM_ a B c) k_ag_37 k_sz_37_3 rfl rfl (hS3.cf (i := 0) rfl) rfl rfl) ?_
 obtain ⟨r_2, hc, hF⟩ := bind_inv hF
 refine sc 7 rfl rfl (Yc_func (g := 82) (vs := [gM_ a B c]) k_call_82 rfl (mc rfl mn) (c_impl_IsValidMatrix a B c a.Cells.length _ rfl (hS3.inn0 [(true, 0)] rfl) hc)) ?_
 rintro _ w_3 ⟨rfl, hd⟩
 have hS4 := hS3.out00 hd
 refine sQ 8 (Y_not (p := r_2) rfl rfl) ?_
 refine sQ 9 (Y_move (v := .bool (!r_2)) rfl rfl) ?_
 refine sgq 10 (B := (!(!r_2))) (v := gM_ b B1 c1) rfl rfl (uF_ 9) (fun hg => (Y_loadA (B := aD b2) (i := 0) (cs := kM_ b B1 c1) (vs := kM_ b B1 c1) k_ag_37 k_sz_37_3 rfl rfl (hS4.cf (i := 1) rfl) rfl rfl)) ?_
 obtain ⟨r_3, hc1, hF⟩ := bind_inv hF
 refine sgc 11 (B := (!(!r_2))) (v := .bool r_3) (F := hS4.fn) rfl rfl (uF_ 9) hS4 (fun hg1 => (Yc_func (g := 82) (vs := [gM_ b B1 c1]) k_call_82 rfl (mc (gv_of (v := gM_ b B1 c1) hg1) mn) (CV.mono (c_impl_IsValidMatrix b B1 c1 b.Cells.length _ rfl (hS4.inn0 [(true, 1)] rfl) (gb_inv hc1 hg1)) (by rintro _ _ ⟨rfl, h⟩; exact ⟨rfl, hS4.out00 h⟩)))) ?_
 rintro w_4 hS5
 refine sgq 12 (B := (!(!r_2))) (v := .bool (!r_3)) rfl rfl (uF_ 9) (fun hg2 => (Y_not (p := r_3) rfl (gv_of (v := .bool r_3) hg2))) ?_
 refine sQ 13 (Y_or (b := (!r_2)) (z := (!r_3)) rfl rfl rfl rfl) ?_
 refine sQ 14 (Y_move (v := .bool ((!r_2) || (!r_3))) rfl rfl) ?_
 refine sgq 15 (B := (!((!r_2) || (!r_3)))) (v := pt (aD b1) 1) rfl rfl (uF_ 14) (fun hg3 => (Y_fieldAddr (B := aD b1) (i := 0) (s := 0) k_fd_37_1_1_3 k_sz_3_1 rfl rfl)) ?_
 refine sgq 16 (B := (!((!r_2) || (!r_3)))) (v := vi a.Cols) rfl rfl (uF_ 14) (fun hg4 => (Y_load1 (B := aD b1) (i := 1) (cs := kM_ a B c) (v := vi a.Cols) k_sc_3 rfl (gv_of (v := pt (aD b1) 1) hg4) (hS5.cf (i := 0) rfl) rfl)) ?_
 refine sgq 17 (B := (!((!r_2) || (!r_3)))) (v := pt (aD b2) 0) rfl rfl (uF_ 14) (fun hg5 => (Y_fieldAddr (B := aD b2) (i := 0) (s := 0) k_fd_37_0_0_3 k_sz_3_1 rfl rfl)) ?_
 refine sgq 18 (B := (!((!r_2) || (!r_3)))) (v := vi b.Rows) rfl rfl (uF_ 14) (fun hg6 => (Y_load1 (B := aD b2) (i := 0) (cs := kM_ b B1 c1) (v := vi b.Rows) k_sc_3 rfl (gv_of (v := pt (aD b2) 0) hg6) (hS5.cf (i := 1) rfl) rfl)) ?_
 refine sgq 19 (B := (!((!r_2) || (!r_3)))) (v := .bool (a.Cols != b.Rows)) rfl rfl (uF_ 14) (fun hg7 => (Y_ne (k := .i64) (a := a.Cols) (b := b.Rows) rfl (gv_of (v := vi a.Cols) hg7) (gv_of (v := vi b.Rows) hg7))) ?_
 refine sQ 20 (Y_or (b := ((!r_2) || (!r_3))) (z := (a.Cols != b.Rows)) rfl rfl rfl rfl) (rw_nil ?_)
 refine cw_cond (b := (((!r_2) || (!r_3)) || (a.Cols != b.Rows))) rfl (fun hb => ?_) (fun hb => ?_)
 ·skip
  have hF1 := ct hF hb
  refine cw_seq (cw_region ?_)
  refine sQ 21 (Y_buildS (zs := kN_) (vs := []) (cs := kN_) k_pl_37 k_zero_37 rfl mpn rfl) ?_
  refine s0 (Ys_store (i := 2) (s := 3) (B := aD b3) (T' := 37) (v := gN_) (vs := kN_) (k := 0) (cs' := kN_) hS5 k_sz_37_3 rfl rfl rfl rfl rfl rfl rfl (lB rfl) rfl rfl) ?_
  rintro _ w_5 ⟨rfl, hS6⟩
  refine sQ 5 (Y_assign (v := .bool false) rfl rfl) (rw_nil (cw_ret ?_))
  have hS7 := hS6.addNil 54
  obtain ⟨rfl, rfl⟩ := pr2 (some_inj hF1)
  exact ret2 Tryz.results147 (v1 := gN_) (resAt_cellA (B := aD b3) (i := 0) (cs := kN_) (vs := kN_) rfl k_ag_37 k_sz_37_3 (hS7.cf (i := 2) rfl) rfl rfl) (v2 := .bool false) (resAt_tmp rfl) ⟨none, 0, rfl, (hS7.sN [3])⟩
 ·skip
  have hF2 := cf' hF hb
  refine cw_skip (cw_seq (cw_region ?_))
  refine sQ 22 (Y_fieldAddr (B := aD b1) (i := 0) (s := 0) k_fd_37_0_0_3 k_sz_3_1 rfl rfl) ?_
  refine sQ 23 (Y_load1 (B := aD b1) (i := 0) (cs := kM_ a B c) (v := vi a.Rows) k_sc_3 rfl rfl (hS5.cf (i := 0) rfl) rfl) ?_
  refine sQ 24 (Y_fieldAddr (B := aD b2) (i := 0) (s := 0) k_fd_37_1_1_3 k_sz_3_1 rfl rfl) ?_
  refine sQ 25 (Y_load1 (B := aD b2) (i := 1) (cs := kM_ b B1 c1) (v := vi b.Cols) k_sc_3 rfl rfl (hS5.cf (i := 1) rfl) rfl) ?_
  refine sQ 26 (Y_makeFunc (cs := [pt (aD b1) 0, pt (aD b2) 0]) rfl rfl (mc rfl (mc rfl mn))) ?_
  obtain ⟨⟨r_4, r_5⟩, hc2, hF2⟩ := bind_inv hF2
  refine sc 27 rfl rfl (Yc_func (g := 143) (vs := [vi a.Rows, vi b.Cols, .func (.func 214) #[] #[pt (aD b1) 0, pt (aD b2) 0]]) k_call_143 rfl (mc rfl (mc rfl (mc rfl mn))) (c_impl_matrixOf a.Rows b.Cols (fun x_0 x_1 => F_impl_MulMatrix_1 x_0 x_1 a b) 214 (#[pt (aD b1) 0, pt (aD b2) 0]) [⟨aD b1, kM_ a B c⟩, ⟨B, (a.Cells.flatMap eN0)⟩, ⟨aD b2, kM_ b B1 c1⟩, ⟨B1, (b.Cells.flatMap eN0)⟩] _ k_call_214 (fun w hw x_0 x_1 y_0 y_1 h_ => c_impl_MulMatrix_1 x_0 x_1 a b (aD b1) B c a.Cells.length (aD b2) B1 c1 b.Cells.length w rfl rfl hw h_) (hS5.inn0 [(false, 0), (true, 0), (false, 1), (true, 1)] rfl) hc2)) ?_
  rintro _ w_6 ⟨B3, c3, rfl, hd1⟩
  have hS8 := hS5.out0 hd1
  refine sQ 28 (Y_extract (v := gM_ r_4 B3 c3) rfl rfl rfl) ?_
  refine sQ 29 (Y_extract (v := .bool r_5) rfl rfl rfl) ?_
  refine s0 (Ys_store (i := 2) (s := 3) (B := aD b3) (T' := 37) (v := gM_ r_4 B3 c3) (vs := kM_ r_4 B3 c3) (k := 0) (cs' := kM_ r_4 B3 c3) hS8 k_sz_37_3 rfl rfl rfl rfl rfl rfl rfl (lB rfl) rfl rfl) ?_
  rintro _ w_7 ⟨rfl, hS9⟩
  refine sQ 5 (Y_assign (v := .bool r_5) rfl rfl) (rw_nil (cw_ret ?_))
  obtain ⟨rfl, rfl⟩ := pr2 (some_inj hF2)
  exact ret2 Tryz.results147 (v1 := gM_ r_4 B3 c3) (resAt_cellA (B := aD b3) (i := 0) (cs := kM_ r_4 B3 c3) (vs := kM_ r_4 B3 c3) rfl k_ag_37 k_sz_37_3 (hS9.cf (i := 2) rfl) rfl rfl) (v2 := .bool r_5) (resAt_tmp rfl) ⟨B3, c3, rfl, (hS9.sN [3])⟩

theorem c_impl_applied (c : TCircuit) (m : TMatrix) (ok : Bool) (B : Option Addr) (c1 n : Nat) (B1 : Option Addr) (c2 n1 : Nat) (w0 : World) (hn : c.Gates.length = n) (hn1 : m.Cells.length = n1) (hS : ST w0 (bl [⟨B1, 54, (m.Cells.flatMap eN0), c2 * 5⟩]) w0 [⟨B1, 54, (m.Cells.flatMap eN0), c2 * 5⟩] [⟨B, (c.Gates.flatMap enc_Gate)⟩]) {r_ : TMatrix} {r_1 : Bool} (hF : F_impl_applied c m ok = some (r_, r_1)) :
  CV Tryz.prog 59 #[.agg #[vi c.Qubits, .slice B n c1], .agg #[vi m.Rows, vi m.Cols, .slice B1 n1 c2], .bool ok] w0 (fun v w' => ∃ (B2 : Option Addr) (c3 : Nat), v = .tuple #[gM_ r_ B2 c3, .bool r_1] ∧ ST w0 (bl [⟨B1, 54, (m.Cells.flatMap eN0), c2 * 5⟩]) w' [⟨B2, 54, (r_.Cells.flatMap eN0), c3 * 5⟩] []) := by
 subst hn
 subst hn1
 unfold F_impl_applied at hF
 refine cv_of_cw 40 Tryz.func59 rfl Tryz.ntmps59 rfl ?_
 refine cw_seq (cw_region ?_)
 refine sS 3 (Ys_box (T := 33) (v := .agg #[vi c.Qubits, .slice B c.Gates.length c1]) (cs := [vi c.Qubits, .slice B c.Gates.length c1]) (m := 2) hS rfl rfl rfl rfl) ?_
 rintro _ w_ ⟨b, rfl, hS1⟩
 refine sS 4 (Ys_box (T := 37) (v := gM_ m B1 c2) (cs := kM_ m B1 c2) (m := 3) hS1 rfl rfl rfl rfl) ?_
 rintro _ w_1 ⟨b1, rfl, hS2⟩
 refine sS 6 (Ys_alloc (T := 37) (cs := kN_) (m := 3) hS2 k_zero_37 rfl rfl rfl) ?_
 rintro _ w_2 ⟨b2, rfl, hS3⟩
 refine sQ 7 (Y_assign (v := .bool false) rfl rfl) (rw_nil (cw_seq (cw_seq (cw_region ?_))))
 refine sQ 8 (Y_assign (v := vi 0) rfl rfl) (rw_nil ?_)
 obtain ⟨z, hz, hF1⟩ := bind_inv hF
 refine cw_block ?_
 refine cw_loop (fun k f w => ∃ (ok1 : Bool) (Rows : Int) (Cols : Int) (Cells : List TDyadic) (i : Int) (B3 : Option Addr) (c4 : Nat), FF f [(2, .bool ok1), (3, pt (aD b) 0), (4, pt (aD b1) 0), (6, pt (aD b2) 0), (8, vi i)] ∧ ST w0 (bl [⟨B1, 54, (m.Cells.flatMap eN0), c2 * 5⟩]) w [⟨aD b, 33, [vi c.Qubits, .slice B c.Gates.length c1], 2⟩, ⟨aD b1, 37, [vi Rows, vi Cols, .slice B3 Cells.length c4], 3⟩, ⟨B3, 54, (Cells.flatMap eN0), c4 * 5⟩, ⟨aD b2, 37, kN_, 3⟩] [⟨B, (c.Gates.flatMap enc_Gate)⟩] ∧ whX (F_impl_applied_l1 c) k (ok1, Rows, Cols, Cells, i) = some z) fuel ⟨ok, m.Rows, m.Cols, m.Cells, 0, B1, c2, (FF.cons rfl (FF.cons rfl (FF.cons rfl (FF.cons rfl (FF.cons rfl FF.nil))))), (hS3.sel [1, 2, 0, 3] rfl rfl), hz⟩ ?_
 rintro k_ f w ⟨ok1, Rows, Cols, Cells, i, B3, c4, hf, hS4, hL⟩
 obtain ⟨k_1, y, rfl, hb, hL1⟩ := whX_go hL
 unfold F_impl_applied_l1 at hb
 refine cw_seq (cw_seq (cw_region ?_))
 refine sQ 11 (Y_move (v := vi i) rfl (hf.get 8 4 rfl)) ?_
 refine sQ 12 (Y_fieldAddr (B := aD b) (i := 0) (s := 0) k_fd_33_1_1_31 k_sz_31_1 rfl (hf.get 3 1 rfl)) ?_
 refine sQ 13 (Y_load1 (B := aD b) (i := 1) (cs := [vi c.Qubits, .slice B c.Gates.length c1]) (v := .slice B c.Gates.length c1) k_sc_31 rfl rfl (hS4.cf (i := 0) rfl) rfl) ?_
 refine sQ 14 (Y_len (B := B) (m := c.Gates.length) (c := c1) k_sl_31_26 rfl rfl) ?_
 refine sQ 15 (Y_lt (k := .i64) (a := i) (b := (c.Gates.length : Int)) rfl rfl rfl) ?_
 refine sQ 16 (Y_move (v := .bool (decide (i < (c.Gates.length : Int)))) rfl rfl) ?_
 refine sgq 17 (B := (decide (i < (c.Gates.length : Int)))) (v := .bool ok1) rfl rfl (uT_ 16) (fun hg => (Y_move (v := .bool ok1) rfl (hf.get 2 0 rfl))) ?_
 refine sQ 18 (Y_and (b := (decide (i < (c.Gates.length : Int)))) (z := ok1) rfl rfl rfl rfl) (rw_nil ?_)
 refine cw_cond (b := ((decide (i < (c.Gates.length : Int))) && ok1)) rfl (fun hb1 => ?_) (fun hb1 => ?_)
 ·skip
  have hF2 := ct hb hb1
  refine cw_skip (cw_seq (cw_block (cw_seq ?_)))
  obtain ⟨x, hx, hF2⟩ := bind_inv hF2
  obtain ⟨⟨r_2, r_3⟩, hc, hF2⟩ := bind_inv hF2
  refine cw_mid (fun f w => ∃ (B5 : Option Addr) (B6 : Option Addr) (c6 : Nat), FF f [(3, pt (aD b) 0), (4, pt (aD b1) 0), (6, pt (aD b2) 0), (8, vi i), (9, pt B5 0)] ∧ ST w0 (bl [⟨B1, 54, (m.Cells.flatMap eN0), c2 * 5⟩]) w [⟨aD b, 33, [vi c.Qubits, .slice B c.Gates.length c1], 2⟩, ⟨aD b1, 37, [vi Rows, vi Cols, .slice B3 Cells.length c4], 3⟩, ⟨B3, 54, (Cells.flatMap eN0), c4 * 5⟩, ⟨aD b2, 37, kN_, 3⟩, ⟨B5, 37, kM_ r_2 B6 c6, 3⟩, ⟨B6, 54, (r_2.Cells.flatMap eN0), c6 * 5⟩] [⟨B, (c.Gates.flatMap enc_Gate)⟩]) ?_ ?_
  ·skip
   refine ra_start (hS4.se [0, 1, 2, 3]).fn (by kernel_rfl) ?_
   have hS7 := hS4.drew
   refine rq 0 22 (v := pt (aD b) 0) rfl (hS7.se [0, 1, 2, 3]) (fun w' hw' => (Y_fieldAddr (B := aD b) (i := 0) (s := 0) k_fd_33_0_0_3 k_sz_3_1 rfl (hf.get 3 1 rfl))) ?_
   refine rq 1 23 (v := vi c.Qubits) rfl (hS7.se [0, 1, 2, 3]) (fun w' hw' => (Y_load1 (B := aD b) (i := 0) (cs := [vi c.Qubits, .slice B c.Gates.length c1]) (v := vi c.Qubits) k_sc_3 rfl rfl (ST.cf hw' (i := 0) rfl) rfl)) ?_
   refine rq 2 24 (v := pt (aD b) 1) rfl (hS7.se [0, 1, 2, 3]) (fun w' hw' => (Y_fieldAddr (B := aD b) (i := 0) (s := 0) k_fd_33_1_1_31 k_sz_31_1 rfl (hf.get 3 1 rfl))) ?_
   refine rq 3 25 (v := .slice B c.Gates.length c1) rfl (hS7.se [0, 1, 2, 3]) (fun w' hw' => (Y_load1 (B := aD b) (i := 1) (cs := [vi c.Qubits, .slice B c.Gates.length c1]) (v := .slice B c.Gates.length c1) k_sc_31 rfl rfl (ST.cf hw' (i := 0) rfl) rfl)) ?_
   refine rq 4 26 (v := vi i) rfl (hS7.se [0, 1, 2, 3]) (fun w' hw' => (Y_move (v := vi i) rfl (hf.get 8 4 rfl))) ?_
   refine rq 5 27 (v := pt B (i.toNat * 3)) rfl (hS7.se [0, 1, 2, 3]) (fun w' hw' => (Y_index (B := B) (m := c.Gates.length) (c := c1) (k := .i64) (i := i) k_sl_31_26 k_sz_26_3 rfl rfl rfl (gi_isSome enc_Gate_len rfl (ST.rf hw' (i := 0) rfl) hx) (getI_nn hx) (getI_ltI hx rfl))) ?_
   refine rq 6 28 (v := .agg #[vi x.Kind, vi x.A, vi x.B]) rfl (hS7.se [0, 1, 2, 3]) (fun w' hw' => (Y_loadA (B := B) (i := i.toNat * 3) (cs := (c.Gates.flatMap enc_Gate)) (vs := [vi x.Kind, vi x.A, vi x.B]) k_ag_26 k_sz_26_3 rfl rfl (ST.rf hw' (i := 0) rfl) (enc_Gate_len x) (gi_seg enc_Gate_len hx))) ?_
   refine rA [7, 11] ?_
   refine ra_c 29 (i := 7) rfl rfl rfl (Yc_func (g := 146) (vs := [vi c.Qubits, .agg #[vi x.Kind, vi x.A, vi x.B]]) k_call_146 rfl (mc rfl (mc rfl mn)) (c_impl_GateMatrix c.Qubits x _  (hS7.inn0 [] rfl) hc)) ?_ ?_
   ·rintro _ w_3 ⟨B4, c5, rfl, hd⟩
    have hS8 := hS7.out0 hd
    refine ⟨(hS8.se [0, 1, 2, 3]), ?_⟩
    refine rq 8 21 (v := .tuple #[gM_ r_2 B4 c5, .bool r_3]) rfl (hS8.se [0, 1, 2, 3]) (fun w' hw' => (Y_move (v := .tuple #[gM_ r_2 B4 c5, .bool r_3]) rfl rfl)) ?_
    refine rq 9 30 (v := gM_ r_2 B4 c5) rfl (hS8.se [0, 1, 2, 3]) (fun w' hw' => (Y_extract (v := gM_ r_2 B4 c5) rfl rfl rfl)) ?_
    refine rq 10 31 (v := .bool r_3) rfl (hS8.se [0, 1, 2, 3]) (fun w' hw' => (Y_extract (v := .bool r_3) rfl rfl rfl)) ?_
    refine rA [11] ?_
    refine ra_s 9 (i := 11) rfl rfl rfl (Ys_alloc (T := 37) (cs := kN_) (m := 3) hS8 k_zero_37 rfl rfl rfl) ?_ ?_
    ·rintro _ w_4 ⟨b3, rfl, hS9⟩
     refine ⟨(hS9.se [0, 1, 2, 3]), ?_⟩
     refine rA [12] ?_
     refine ra_s0 (i := 12) rfl rfl rfl (Ys_store (i := 5) (s := 3) (B := aD b3) (T' := 37) (v := gM_ r_2 B4 c5) (vs := kM_ r_2 B4 c5) (k := 0) (cs' := kM_ r_2 B4 c5) hS9 k_sz_37_3 rfl rfl rfl rfl rfl rfl rfl (lB rfl) rfl rfl) ?_ ?_
     ·rintro _ w_5 ⟨rfl, hS10⟩
      refine ⟨(hS10.se [0, 1, 2, 3]), ?_⟩
      refine rq 13 10 (v := .bool r_3) rfl (hS10.se [0, 1, 2, 3]) (fun w' hw' => (Y_assign (v := .bool r_3) rfl rfl)) ?_
      refine ra_done (by kernel_rfl) ?_
      exact ⟨aD b3, B4, c5, (FF.cons (hf.get 3 1 rfl) (FF.cons (hf.get 4 2 rfl) (FF.cons (hf.get 6 3 rfl) (FF.cons (hf.get 8 4 rfl) (FF.cons rfl FF.nil))))), (hS10.sel [0, 1, 2, 3, 5, 4] rfl rfl)⟩
     exact allR_nil
    exact allR_nil
   refine ra_s 9 (i := 11) rfl rfl rfl (Ys_alloc (T := 37) (cs := kN_) (m := 3) hS7 k_zero_37 rfl rfl rfl) ?_ ?_
   ·rintro _ w_6 ⟨b3, rfl, hS11⟩
    refine ⟨(hS11.se [0, 1, 2, 3]), ?_⟩
    refine rA [7] ?_
    refine ra_c 29 (i := 7) rfl rfl rfl (Yc_func (g := 146) (vs := [vi c.Qubits, .agg #[vi x.Kind, vi x.A, vi x.B]]) k_call_146 rfl (mc rfl (mc rfl mn)) (c_impl_GateMatrix c.Qubits x _  (hS11.inn0 [] rfl) hc)) ?_ ?_
    ·rintro _ w_7 ⟨B4, c5, rfl, hd1⟩
     have hS12 := hS11.out0 hd1
     refine ⟨(hS12.se [0, 1, 2, 3]), ?_⟩
     refine rq 8 21 (v := .tuple #[gM_ r_2 B4 c5, .bool r_3]) rfl (hS12.se [0, 1, 2, 3]) (fun w' hw' => (Y_move (v := .tuple #[gM_ r_2 B4 c5, .bool r_3]) rfl rfl)) ?_
     refine rq 9 30 (v := gM_ r_2 B4 c5) rfl (hS12.se [0, 1, 2, 3]) (fun w' hw' => (Y_extract (v := gM_ r_2 B4 c5) rfl rfl rfl)) ?_
     refine rq 10 31 (v := .bool r_3) rfl (hS12.se [0, 1, 2, 3]) (fun w' hw' => (Y_extract (v := .bool r_3) rfl rfl rfl)) ?_
     refine rA [12] ?_
     refine ra_s0 (i := 12) rfl rfl rfl (Ys_store (i := 4) (s := 3) (B := aD b3) (T' := 37) (v := gM_ r_2 B4 c5) (vs := kM_ r_2 B4 c5) (k := 0) (cs' := kM_ r_2 B4 c5) hS12 k_sz_37_3 rfl rfl rfl rfl rfl rfl rfl (lB rfl) rfl rfl) ?_ ?_
     ·rintro _ w_8 ⟨rfl, hS13⟩
      refine ⟨(hS13.se [0, 1, 2, 3]), ?_⟩
      refine rq 13 10 (v := .bool r_3) rfl (hS13.se [0, 1, 2, 3]) (fun w' hw' => (Y_assign (v := .bool r_3) rfl rfl)) ?_
      refine ra_done (by kernel_rfl) ?_
      exact ⟨aD b3, B4, c5, (FF.cons (hf.get 3 1 rfl) (FF.cons (hf.get 4 2 rfl) (FF.cons (hf.get 6 3 rfl) (FF.cons (hf.get 8 4 rfl) (FF.cons rfl FF.nil))))), (hS13.sel [0, 1, 2, 3, 4, 5] rfl rfl)⟩
     exact allR_nil
    exact allR_nil
   exact allR_nil
  rintro f w ⟨B5, B6, c6, hf1, hS6⟩
  refine cw_region ?_
  refine sQ 33 (Y_loadA (B := B5) (i := 0) (cs := kM_ r_2 B6 c6) (vs := kM_ r_2 B6 c6) k_ag_37 k_sz_37_3 rfl (hf1.get 9 4 rfl) (hS6.cf (i := 4) rfl) rfl rfl) ?_
  refine sQ 34 (Y_loadA (B := aD b1) (i := 0) (cs := [vi Rows, vi Cols, .slice B3 Cells.length c4]) (vs := [vi Rows, vi Cols, .slice B3 Cells.length c4]) k_ag_37 k_sz_37_3 rfl (hf1.get 4 1 rfl) (hS6.cf (i := 1) rfl) rfl rfl) ?_
  obtain ⟨⟨r_4, r_5⟩, hc1, hF2⟩ := bind_inv hF2
  refine sc 35 rfl rfl (Yc_func (g := 147) (vs := [gM_ r_2 B6 c6, .agg #[vi Rows, vi Cols, .slice B3 Cells.length c4]]) k_call_147 rfl (mc rfl (mc rfl mn)) (c_impl_MulMatrix r_2 (TMatrix.mk Rows Cols Cells) B6 c6 r_2.Cells.length B3 c4 Cells.length _ rfl rfl (hS6.inn0 [(false, 5), (false, 2)] rfl) hc1)) ?_
  rintro _ w_9 ⟨B7, c7, rfl, hd2⟩
  have hS14 := hS6.out0 hd2
  refine sQ 32 (Y_move (v := .tuple #[gM_ r_4 B7 c7, .bool r_5]) rfl rfl) ?_
  refine sQ 36 (Y_extract (v := gM_ r_4 B7 c7) rfl rfl rfl) ?_
  refine sQ 37 (Y_extract (v := .bool r_5) rfl rfl rfl) ?_
  refine s0 (Ys_store (i := 1) (s := 3) (B := aD b1) (T' := 37) (v := gM_ r_4 B7 c7) (vs := kM_ r_4 B7 c7) (k := 0) (cs' := kM_ r_4 B7 c7) hS14 k_sz_37_3 rfl (hf1.get 4 1 rfl) rfl rfl rfl rfl rfl (lB rfl) rfl rfl) ?_
  rintro _ w_10 ⟨rfl, hS15⟩
  refine sQ 2 (Y_assign (v := .bool r_5) rfl rfl) (rw_nil (cw_region ?_))
  refine sQ 19 (Y_move (v := vi i) rfl (hf1.get 8 3 rfl)) ?_
  refine sQ 20 (Y_add (k := .i64) (a := i) (b := 1) rfl rfl rfl) ?_
  refine sQ 8 (Y_assign (v := vi (i64.wrap (i + 1))) rfl rfl) (rw_nil ?_)
  obtain rfl := some_inj hF2
  exact ⟨k_1, Nat.lt_succ_self _, r_5, r_4.Rows, r_4.Cols, r_4.Cells, (i64.wrap (i + 1)), B7, c7, (FF.cons rfl (FF.cons (hf1.get 3 0 rfl) (FF.cons (hf1.get 4 1 rfl) (FF.cons (hf1.get 6 2 rfl) (FF.cons rfl FF.nil))))), (hS15.sel [0, 1, 6, 3] rfl rfl), hL1⟩
 ·skip
  have hF3 := cf' hb hb1
  refine cw_exit rfl ?_
  obtain rfl := some_inj hF3
  obtain rfl := some_inj hL1
  refine cw_seq (cw_region ?_)
  refine sQ 38 (Y_loadA (B := aD b1) (i := 0) (cs := [vi Rows, vi Cols, .slice B3 Cells.length c4]) (vs := [vi Rows, vi Cols, .slice B3 Cells.length c4]) k_ag_37 k_sz_37_3 rfl (hf.get 4 2 rfl) (hS4.cf (i := 1) rfl) rfl rfl) ?_
  refine sQ 39 (Y_move (v := .bool ok1) rfl (hf.get 2 0 rfl)) ?_
  refine s0 (Ys_store (i := 3) (s := 3) (B := aD b2) (T' := 37) (v := .agg #[vi Rows, vi Cols, .slice B3 Cells.length c4]) (vs := [vi Rows, vi Cols, .slice B3 Cells.length c4]) (k := 0) (cs' := [vi Rows, vi Cols, .slice B3 Cells.length c4]) hS4 k_sz_37_3 rfl (hf.get 6 3 rfl) rfl rfl rfl rfl rfl (lB rfl) rfl rfl) ?_
  rintro _ w_11 ⟨rfl, hS16⟩
  refine sQ 7 (Y_assign (v := .bool ok1) rfl rfl) (rw_nil (cw_ret ?_))
  obtain ⟨rfl, rfl⟩ := pr2 (some_inj hF1)
  exact ret2 Tryz.results59 (v1 := .agg #[vi Rows, vi Cols, .slice B3 Cells.length c4]) (resAt_cellA (B := aD b2) (i := 0) (cs := [vi Rows, vi Cols, .slice B3 Cells.length c4]) (vs := [vi Rows, vi Cols, .slice B3 Cells.length c4]) (hf.get 6 3 rfl) k_ag_37 k_sz_37_3 (hS16.cf (i := 3) rfl) rfl rfl) (v2 := .bool ok1) (resAt_tmp rfl) ⟨B3, c4, rfl, (hS16.sN [2])⟩

theorem c_impl_ColumnOf_1 (i : Int) (j : Int) (p : TMatrix) (p1 : Int) (B : Option Addr) (B1 : Option Addr) (c n : Nat) (B2 : Option Addr) (w0 : World) (hn : p.Cells.length = n) (hS : ST w0 [] w0 [] [⟨B, [vi p.Rows, vi p.Cols, .slice B1 n c]⟩, ⟨B1, (p.Cells.flatMap eN0)⟩, ⟨B2, [vi p1]⟩]) {r_ : TDyadic} {r_1 : Bool} (hF : F_impl_ColumnOf_1 i j p p1 = some (r_, r_1)) :
  CV Tryz.prog 155 #[vi i, vi j, pt B 0, pt B2 0] w0 (fun v w' => v = .tuple #[gD_ r_, .bool r_1] ∧ ST w0 [] w' [] []) := by
 subst hn
 unfold F_impl_ColumnOf_1 at hF
 refine cv_of_cw 12 Tryz.func155 rfl Tryz.ntmps155 rfl ?_
 refine cw_seq (cw_region ?_)
 refine sS 6 (Ys_alloc (T := 54) (cs := kZ_) (m := 5) hS k_zero_54 rfl rfl rfl) ?_
 rintro _ w_ ⟨b, rfl, hS1⟩
 refine sQ 7 (Y_assign (v := .bool false) rfl rfl) (rw_nil (cw_seq (cw_region ?_)))
 refine sQ 8 (Y_loadA (B := B) (i := 0) (cs := kM_ p B1 c) (vs := kM_ p B1 c) k_ag_37 k_sz_37_3 rfl rfl (hS1.rf (i := 0) rfl) rfl rfl) ?_
 refine sQ 9 (Y_move (v := vi i) rfl rfl) ?_
 refine sQ 10 (Y_load1 (B := B2) (i := 0) (cs := [vi p1]) (v := vi p1) k_sc_3 rfl rfl (hS1.rf (i := 2) rfl) rfl) ?_
 obtain ⟨r_2, hc, hF⟩ := bind_inv hF
 refine sc 11 rfl rfl (Yc_func (g := 156) (vs := [gM_ p B1 c, vi i, vi p1]) k_call_156 rfl (mc rfl (mc rfl (mc rfl mn))) (c_impl_Matrix_at p i p1 B1 c p.Cells.length _ rfl (hS1.inn0 [(true, 1)] rfl) hc)) ?_
 rintro _ w_1 ⟨rfl, hd⟩
 have hS2 := hS1.out00 hd
 refine s0 (Ys_store (i := 0) (s := 5) (B := aD b) (T' := 54) (v := gD_ r_2) (vs := kD_ r_2) (k := 0) (cs' := kD_ r_2) hS2 k_sz_54_5 rfl rfl rfl rfl rfl rfl rfl (lB rfl) rfl rfl) ?_
 rintro _ w_2 ⟨rfl, hS3⟩
 refine sQ 7 (Y_assign (v := .bool true) rfl rfl) (rw_nil (cw_ret ?_))
 obtain ⟨rfl, rfl⟩ := pr2 (some_inj hF)
 exact ret2 Tryz.results155 (v1 := gD_ r_2) (resAt_cellA (B := aD b) (i := 0) (cs := kD_ r_2) (vs := kD_ r_2) rfl k_ag_54 k_sz_54_5 (hS3.cf (i := 0) rfl) rfl rfl) (v2 := .bool true) (resAt_tmp rfl) ⟨rfl, (hS3.sN [])⟩

theorem c_impl_ColumnOf (m : TMatrix) (k_ : Int) (B : Option Addr) (c n : Nat) (w0 : World) (hn : m.Cells.length = n) (hS : ST w0 [] w0 [] [⟨B, (m.Cells.flatMap eN0)⟩]) {r_ : TMatrix} {r_1 : Bool} (hF : F_impl_ColumnOf m k_ = some (r_, r_1)) :
  CV Tryz.prog 75 #[.agg #[vi m.Rows, vi m.Cols, .slice B n c], vi k_] w0 (fun v w' => ∃ (B1 : Option Addr) (c1 : Nat), v = .tuple #[gM_ r_ B1 c1, .bool r_1] ∧ ST w0 [] w' [⟨B1, 54, (r_.Cells.flatMap eN0), c1 * 5⟩] []) := by
 subst hn
 unfold F_impl_ColumnOf at hF
 refine cv_of_cw 24 Tryz.func75 rfl Tryz.ntmps75 rfl ?_
 refine cw_seq (cw_region ?_)
 refine sS 2 (Ys_box (T := 37) (v := gM_ m B c) (cs := kM_ m B c) (m := 3) hS rfl rfl rfl rfl) ?_
 rintro _ w_ ⟨b, rfl, hS1⟩
 refine sS 3 (Ys_box (T := 3) (v := vi k_) (cs := [vi k_]) (m := 1) hS1 rfl rfl rfl rfl) ?_
 rintro _ w_1 ⟨b1, rfl, hS2⟩
 refine sS 4 (Ys_alloc (T := 37) (cs := kN_) (m := 3) hS2 k_zero_37 rfl rfl rfl) ?_
 rintro _ w_2 ⟨b2, rfl, hS3⟩
 refine sQ 5 (Y_assign (v := .bool false) rfl rfl) (rw_nil (cw_seq (cw_seq (cw_region ?_))))
 refine sQ 6 (Y_loadA (B := aD b) (i := 0) (cs := kM_ m B c) (vs := kM_ m B c) k_ag_37 k_sz_37_3 rfl rfl (hS3.cf (i := 0) rfl) rfl rfl) ?_
 obtain ⟨r_2, hc, hF⟩ := bind_inv hF
 refine sc 7 rfl rfl (Yc_func (g := 82) (vs := [gM_ m B c]) k_call_82 rfl (mc rfl mn) (c_impl_IsValidMatrix m B c m.Cells.length _ rfl (hS3.inn0 [(true, 0)] rfl) hc)) ?_
 rintro _ w_3 ⟨rfl, hd⟩
 have hS4 := hS3.out00 hd
 refine sQ 8 (Y_not (p := r_2) rfl rfl) ?_
 refine sQ 9 (Y_move (v := .bool (!r_2)) rfl rfl) ?_
 refine sgq 10 (B := (!(!r_2))) (v := vi k_) rfl rfl (uF_ 9) (fun hg => (Y_load1 (B := aD b1) (i := 0) (cs := [vi k_]) (v := vi k_) k_sc_3 rfl rfl (hS4.cf (i := 1) rfl) rfl)) ?_
 refine sgq 11 (B := (!(!r_2))) (v := pt (aD b) 1) rfl rfl (uF_ 9) (fun hg1 => (Y_fieldAddr (B := aD b) (i := 0) (s := 0) k_fd_37_1_1_3 k_sz_3_1 rfl rfl)) ?_
 refine sgq 12 (B := (!(!r_2))) (v := vi m.Cols) rfl rfl (uF_ 9) (fun hg2 => (Y_load1 (B := aD b) (i := 1) (cs := kM_ m B c) (v := vi m.Cols) k_sc_3 rfl (gv_of (v := pt (aD b) 1) hg2) (hS4.cf (i := 0) rfl) rfl)) ?_
 refine sgq 13 (B := (!(!r_2))) (v := vi (i64.wrap (m.Cols - 1))) rfl rfl (uF_ 9) (fun hg3 => (Y_sub (k := .i64) (a := m.Cols) (b := 1) rfl (gv_of (v := vi m.Cols) hg3) rfl)) ?_
 obtain ⟨r_3, hc1, hF⟩ := bind_inv hF
 refine sgc 14 (B := (!(!r_2))) (v := .bool r_3) (F := hS4.fn) rfl rfl (uF_ 9) hS4 (fun hg4 => (Yc_func (g := 74) (vs := [vi k_, vi 0, vi (i64.wrap (m.Cols - 1))]) k_call_74 rfl (mc (gv_of (v := vi k_) hg4) (mc rfl (mc (gv_of (v := vi (i64.wrap (m.Cols - 1))) hg4) mn))) (CV.mono (c_impl_within k_ 0 (i64.wrap (m.Cols - 1)) _  (hS4.inn0 [] rfl) (gb_inv hc1 hg4)) (by rintro _ _ ⟨rfl, h⟩; exact ⟨rfl, hS4.out00 h⟩)))) ?_
 rintro w_4 hS5
 refine sgq 15 (B := (!(!r_2))) (v := .bool (!r_3)) rfl rfl (uF_ 9) (fun hg5 => (Y_not (p := r_3) rfl (gv_of (v := .bool r_3) hg5))) ?_
 refine sQ 16 (Y_or (b := (!r_2)) (z := (!r_3)) rfl rfl rfl rfl) (rw_nil ?_)
 refine cw_cond (b := ((!r_2) || (!r_3))) rfl (fun hb => ?_) (fun hb => ?_)
 ·skip
  have hF1 := ct hF hb
  refine cw_seq (cw_region ?_)
  refine sQ 17 (Y_buildS (zs := kN_) (vs := []) (cs := kN_) k_pl_37 k_zero_37 rfl mpn rfl) ?_
  refine s0 (Ys_store (i := 2) (s := 3) (B := aD b2) (T' := 37) (v := gN_) (vs := kN_) (k := 0) (cs' := kN_) hS5 k_sz_37_3 rfl rfl rfl rfl rfl rfl rfl (lB rfl) rfl rfl) ?_
  rintro _ w_5 ⟨rfl, hS6⟩
  refine sQ 5 (Y_assign (v := .bool false) rfl rfl) (rw_nil (cw_ret ?_))
  have hS7 := hS6.addNil 54
  obtain ⟨rfl, rfl⟩ := pr2 (some_inj hF1)
  exact ret2 Tryz.results75 (v1 := gN_) (resAt_cellA (B := aD b2) (i := 0) (cs := kN_) (vs := kN_) rfl k_ag_37 k_sz_37_3 (hS7.cf (i := 2) rfl) rfl rfl) (v2 := .bool false) (resAt_tmp rfl) ⟨none, 0, rfl, (hS7.sN [3])⟩
 ·skip
  have hF2 := cf' hF hb
  refine cw_skip (cw_seq (cw_region ?_))
  refine sQ 18 (Y_fieldAddr (B := aD b) (i := 0) (s := 0) k_fd_37_0_0_3 k_sz_3_1 rfl rfl) ?_
  refine sQ 19 (Y_load1 (B := aD b) (i := 0) (cs := kM_ m B c) (v := vi m.Rows) k_sc_3 rfl rfl (hS5.cf (i := 0) rfl) rfl) ?_
  refine sQ 20 (Y_makeFunc (cs := [pt (aD b) 0, pt (aD b1) 0]) rfl rfl (mc rfl (mc rfl mn))) ?_
  obtain ⟨⟨r_4, r_5⟩, hc2, hF2⟩ := bind_inv hF2
  refine sc 21 rfl rfl (Yc_func (g := 143) (vs := [vi m.Rows, vi 1, .func (.func 155) #[] #[pt (aD b) 0, pt (aD b1) 0]]) k_call_143 rfl (mc rfl (mc rfl (mc rfl mn))) (c_impl_matrixOf m.Rows 1 (fun x_0 x_1 => F_impl_ColumnOf_1 x_0 x_1 m k_) 155 (#[pt (aD b) 0, pt (aD b1) 0]) [⟨aD b, kM_ m B c⟩, ⟨B, (m.Cells.flatMap eN0)⟩, ⟨aD b1, [vi k_]⟩] _ k_call_155 (fun w hw x_0 x_1 y_0 y_1 h_ => c_impl_ColumnOf_1 x_0 x_1 m k_ (aD b) B c m.Cells.length (aD b1) w rfl hw h_) (hS5.inn0 [(false, 0), (true, 0), (false, 1)] rfl) hc2)) ?_
  rintro _ w_6 ⟨B2, c2, rfl, hd1⟩
  have hS8 := hS5.out0 hd1
  refine sQ 22 (Y_extract (v := gM_ r_4 B2 c2) rfl rfl rfl) ?_
  refine sQ 23 (Y_extract (v := .bool r_5) rfl rfl rfl) ?_
  refine s0 (Ys_store (i := 2) (s := 3) (B := aD b2) (T' := 37) (v := gM_ r_4 B2 c2) (vs := kM_ r_4 B2 c2) (k := 0) (cs' := kM_ r_4 B2 c2) hS8 k_sz_37_3 rfl rfl rfl rfl rfl rfl rfl (lB rfl) rfl rfl) ?_
  rintro _ w_7 ⟨rfl, hS9⟩
  refine sQ 5 (Y_assign (v := .bool r_5) rfl rfl) (rw_nil (cw_ret ?_))
  obtain ⟨rfl, rfl⟩ := pr2 (some_inj hF2)
  exact ret2 Tryz.results75 (v1 := gM_ r_4 B2 c2) (resAt_cellA (B := aD b2) (i := 0) (cs := kM_ r_4 B2 c2) (vs := kM_ r_4 B2 c2) rfl k_ag_37 k_sz_37_3 (hS9.cf (i := 2) rfl) rfl rfl) (v2 := .bool r_5) (resAt_tmp rfl) ⟨B2, c2, rfl, (hS9.sN [3])⟩

theorem c_impl_StateAfter (c : TCircuit) (start : Int) (B : Option Addr) (c1 n : Nat) (w0 : World) (hn : c.Gates.length = n) (hS : ST w0 [] w0 [] [⟨B, (c.Gates.flatMap enc_Gate)⟩]) {r_ : TMatrix} {r_1 : Bool} (hF : F_impl_StateAfter c start = some (r_, r_1)) :
  CV Tryz.prog 22 #[.agg #[vi c.Qubits, .slice B n c1], vi start] w0 (fun v w' => ∃ (B1 : Option Addr) (c2 : Nat), v = .tuple #[gM_ r_ B1 c2, .bool r_1] ∧ ST w0 [] w' [⟨B1, 54, (r_.Cells.flatMap eN0), c2 * 5⟩] []) := by
 subst hn
 unfold F_impl_StateAfter at hF
 refine cv_of_cw 42 Tryz.func22 rfl Tryz.ntmps22 rfl ?_
 refine cw_seq (cw_region ?_)
 refine sS 2 (Ys_box (T := 33) (v := .agg #[vi c.Qubits, .slice B c.Gates.length c1]) (cs := [vi c.Qubits, .slice B c.Gates.length c1]) (m := 2) hS rfl rfl rfl rfl) ?_
 rintro _ w_ ⟨b, rfl, hS1⟩
 refine sS 4 (Ys_alloc (T := 37) (cs := kN_) (m := 3) hS1 k_zero_37 rfl rfl rfl) ?_
 rintro _ w_1 ⟨b1, rfl, hS2⟩
 refine sQ 5 (Y_assign (v := .bool false) rfl rfl) (rw_nil (cw_seq (cw_seq (cw_region ?_))))
 refine sQ 10 (Y_loadA (B := aD b) (i := 0) (cs := [vi c.Qubits, .slice B c.Gates.length c1]) (vs := [vi c.Qubits, .slice B c.Gates.length c1]) k_ag_33 k_sz_33_2 rfl rfl (hS2.cf (i := 0) rfl) rfl rfl) ?_
 obtain ⟨r_2, hc, hF⟩ := bind_inv hF
 refine sc 11 rfl rfl (Yc_func (g := 57) (vs := [.agg #[vi c.Qubits, .slice B c.Gates.length c1]]) k_call_57 rfl (mc rfl mn) (c_impl_IsValidCircuit c B c1 c.Gates.length _ rfl (hS2.inn0 [(true, 0)] rfl) hc)) ?_
 rintro _ w_2 ⟨rfl, hd⟩
 have hS3 := hS2.out00 hd
 refine sQ 12 (Y_not (p := r_2) rfl rfl) ?_
 refine sQ 13 (Y_move (v := .bool (!r_2)) rfl rfl) ?_
 refine sgq 14 (B := (!(!r_2))) (v := vi start) rfl rfl (uF_ 13) (fun hg => (Y_move (v := vi start) rfl rfl)) ?_
 refine sgq 15 (B := (!(!r_2))) (v := pt (aD b) 0) rfl rfl (uF_ 13) (fun hg1 => (Y_fieldAddr (B := aD b) (i := 0) (s := 0) k_fd_33_0_0_3 k_sz_3_1 rfl rfl)) ?_
 refine sgq 16 (B := (!(!r_2))) (v := vi c.Qubits) rfl rfl (uF_ 13) (fun hg2 => (Y_load1 (B := aD b) (i := 0) (cs := [vi c.Qubits, .slice B c.Gates.length c1]) (v := vi c.Qubits) k_sc_3 rfl (gv_of (v := pt (aD b) 0) hg2) (hS3.cf (i := 0) rfl) rfl)) ?_
 obtain ⟨hsh, hF⟩ := chk_inv hF
 refine sgq 17 (B := (!(!r_2))) (v := vi (shlK .i64 1 c.Qubits)) rfl rfl (uF_ 13) (fun hg3 => (Y_shl (k := .i64) (a := 1) (k' := .i64) (b := c.Qubits) rfl rfl (gv_of (v := vi c.Qubits) hg3) (hsh hg3))) ?_
 refine sgq 18 (B := (!(!r_2))) (v := vi (i64.wrap ((shlK .i64 1 c.Qubits) - 1))) rfl rfl (uF_ 13) (fun hg4 => (Y_sub (k := .i64) (a := (shlK .i64 1 c.Qubits)) (b := 1) rfl (gv_of (v := vi (shlK .i64 1 c.Qubits)) hg4) rfl)) ?_
 obtain ⟨r_3, hc1, hF⟩ := bind_inv hF
 refine sgc 19 (B := (!(!r_2))) (v := .bool r_3) (F := hS3.fn) rfl rfl (uF_ 13) hS3 (fun hg5 => (Yc_func (g := 74) (vs := [vi start, vi 0, vi (i64.wrap ((shlK .i64 1 c.Qubits) - 1))]) k_call_74 rfl (mc (gv_of (v := vi start) hg5) (mc rfl (mc (gv_of (v := vi (i64.wrap ((shlK .i64 1 c.Qubits) - 1))) hg5) mn))) (CV.mono (c_impl_within start 0 (i64.wrap ((shlK .i64 1 c.Qubits) - 1)) _  (hS3.inn0 [] rfl) (gb_inv hc1 hg5)) (by rintro _ _ ⟨rfl, h⟩; exact ⟨rfl, hS3.out00 h⟩)))) ?_
 rintro w_3 hS4
 refine sgq 20 (B := (!(!r_2))) (v := .bool (!r_3)) rfl rfl (uF_ 13) (fun hg6 => (Y_not (p := r_3) rfl (gv_of (v := .bool r_3) hg6))) ?_
 refine sQ 21 (Y_or (b := (!r_2)) (z := (!r_3)) rfl rfl rfl rfl) (rw_nil ?_)
 refine cw_cond (b := ((!r_2) || (!r_3))) rfl (fun hb => ?_) (fun hb => ?_)
 ·skip
  have hF1 := ct hF hb
  refine cw_seq (cw_region ?_)
  refine sQ 22 (Y_buildS (zs := kN_) (vs := []) (cs := kN_) k_pl_37 k_zero_37 rfl mpn rfl) ?_
  refine s0 (Ys_store (i := 1) (s := 3) (B := aD b1) (T' := 37) (v := gN_) (vs := kN_) (k := 0) (cs' := kN_) hS4 k_sz_37_3 rfl rfl rfl rfl rfl rfl rfl (lB rfl) rfl rfl) ?_
  rintro _ w_4 ⟨rfl, hS5⟩
  refine sQ 5 (Y_assign (v := .bool false) rfl rfl) (rw_nil (cw_ret ?_))
  have hS6 := hS5.addNil 54
  obtain ⟨rfl, rfl⟩ := pr2 (some_inj hF1)
  exact ret2 Tryz.results22 (v1 := gN_) (resAt_cellA (B := aD b1) (i := 0) (cs := kN_) (vs := kN_) rfl k_ag_37 k_sz_37_3 (hS6.cf (i := 1) rfl) rfl rfl) (v2 := .bool false) (resAt_tmp rfl) ⟨none, 0, rfl, (hS6.sN [2])⟩
 ·skip
  have hF2 := cf' hF hb
  refine cw_skip (cw_seq (cw_region ?_))
  refine sQ 24 (Y_fieldAddr (B := aD b) (i := 0) (s := 0) k_fd_33_0_0_3 k_sz_3_1 rfl rfl) ?_
  refine sQ 25 (Y_load1 (B := aD b) (i := 0) (cs := [vi c.Qubits, .slice B c.Gates.length c1]) (v := vi c.Qubits) k_sc_3 rfl rfl (hS4.cf (i := 0) rfl) rfl) ?_
  obtain ⟨hsh1, hF2⟩ := chk_inv hF2
  refine sQ 26 (Y_shl (k := .i64) (a := 1) (k' := .i64) (b := c.Qubits) rfl rfl rfl hsh1) ?_
  obtain ⟨⟨r_4, r_5⟩, hc2, hF2⟩ := bind_inv hF2
  refine sc 27 rfl rfl (Yc_func (g := 58) (vs := [vi (shlK .i64 1 c.Qubits)]) k_call_58 rfl (mc rfl mn) (c_impl_IdentityMatrix (shlK .i64 1 c.Qubits) _  (hS4.inn0 [] rfl) hc2)) ?_
  rintro _ w_5 ⟨B2, c3, rfl, hd1⟩
  have hS7 := hS4.out0 hd1
  refine sQ 23 (Y_move (v := .tuple #[gM_ r_4 B2 c3, .bool r_5]) rfl rfl) ?_
  refine sQ 28 (Y_extract (v := gM_ r_4 B2 c3) rfl rfl rfl) ?_
  refine sQ 29 (Y_extract (v := .bool r_5) rfl rfl rfl) ?_
  refine sS 6 (Ys_alloc (T := 37) (cs := kN_) (m := 3) hS7 k_zero_37 rfl rfl rfl) ?_
  rintro _ w_6 ⟨b2, rfl, hS8⟩
  refine s0 (Ys_store (i := 3) (s := 3) (B := aD b2) (T' := 37) (v := gM_ r_4 B2 c3) (vs := kM_ r_4 B2 c3) (k := 0) (cs' := kM_ r_4 B2 c3) hS8 k_sz_37_3 rfl rfl rfl rfl rfl rfl rfl (lB rfl) rfl rfl) ?_
  rintro _ w_7 ⟨rfl, hS9⟩
  refine sQ 7 (Y_assign (v := .bool r_5) rfl rfl) (rw_nil (cw_seq (cw_region ?_)))
  refine sQ 31 (Y_loadA (B := aD b2) (i := 0) (cs := kM_ r_4 B2 c3) (vs := kM_ r_4 B2 c3) k_ag_37 k_sz_37_3 rfl rfl (hS9.cf (i := 3) rfl) rfl rfl) ?_
  refine sQ 32 (Y_move (v := vi start) rfl rfl) ?_
  obtain ⟨⟨r_6, r_7⟩, hc3, hF2⟩ := bind_inv hF2
  refine sc 33 rfl rfl (Yc_func (g := 75) (vs := [gM_ r_4 B2 c3, vi start]) k_call_75 rfl (mc rfl (mc rfl mn)) (c_impl_ColumnOf r_4 start B2 c3 r_4.Cells.length _ rfl (hS9.inn0 [(false, 2)] rfl) hc3)) ?_
  rintro _ w_8 ⟨B3, c4, rfl, hd2⟩
  have hS10 := hS9.out0 hd2
  refine sQ 30 (Y_move (v := .tuple #[gM_ r_6 B3 c4, .bool r_7]) rfl rfl) ?_
  refine sQ 34 (Y_extract (v := gM_ r_6 B3 c4) rfl rfl rfl) ?_
  refine sQ 35 (Y_extract (v := .bool r_7) rfl rfl rfl) ?_
  refine sS 8 (Ys_alloc (T := 37) (cs := kN_) (m := 3) hS10 k_zero_37 rfl rfl rfl) ?_
  rintro _ w_9 ⟨b3, rfl, hS11⟩
  refine s0 (Ys_store (i := 5) (s := 3) (B := aD b3) (T' := 37) (v := gM_ r_6 B3 c4) (vs := kM_ r_6 B3 c4) (k := 0) (cs' := kM_ r_6 B3 c4) hS11 k_sz_37_3 rfl rfl rfl rfl rfl rfl rfl (lB rfl) rfl rfl) ?_
  rintro _ w_10 ⟨rfl, hS12⟩
  refine sQ 9 (Y_assign (v := .bool r_7) rfl rfl) (rw_nil (cw_seq (cw_region ?_)))
  refine sQ 36 (Y_loadA (B := aD b) (i := 0) (cs := [vi c.Qubits, .slice B c.Gates.length c1]) (vs := [vi c.Qubits, .slice B c.Gates.length c1]) k_ag_33 k_sz_33_2 rfl rfl (hS12.cf (i := 0) rfl) rfl rfl) ?_
  refine sQ 37 (Y_loadA (B := aD b3) (i := 0) (cs := kM_ r_6 B3 c4) (vs := kM_ r_6 B3 c4) k_ag_37 k_sz_37_3 rfl rfl (hS12.cf (i := 5) rfl) rfl rfl) ?_
  refine sQ 38 (Y_move (v := .bool r_7) rfl rfl) ?_
  obtain ⟨⟨r_8, r_9⟩, hc4, hF2⟩ := bind_inv hF2
  refine sc 39 rfl rfl (Yc_func (g := 59) (vs := [.agg #[vi c.Qubits, .slice B c.Gates.length c1], gM_ r_6 B3 c4, .bool r_7]) k_call_59 rfl (mc rfl (mc rfl (mc rfl mn))) (c_impl_applied c r_6 r_7 B c1 c.Gates.length B3 c4 r_6.Cells.length _ rfl rfl (hS12.inn [false, false, false, false, true, false] rfl [(true, 0)] rfl) hc4)) ?_
  rintro _ w_11 ⟨B4, c5, rfl, hd3⟩
  have hS13 := hS12.out [false, false, false, false, true, false] rfl hd3
  refine sQ 40 (Y_extract (v := gM_ r_8 B4 c5) rfl rfl rfl) ?_
  refine sQ 41 (Y_extract (v := .bool r_9) rfl rfl rfl) ?_
  refine s0 (Ys_store (i := 1) (s := 3) (B := aD b1) (T' := 37) (v := gM_ r_8 B4 c5) (vs := kM_ r_8 B4 c5) (k := 0) (cs' := kM_ r_8 B4 c5) hS13 k_sz_37_3 rfl rfl rfl rfl rfl rfl rfl (lB rfl) rfl rfl) ?_
  rintro _ w_12 ⟨rfl, hS14⟩
  refine sQ 5 (Y_assign (v := .bool r_9) rfl rfl) (rw_nil (cw_ret ?_))
  obtain ⟨rfl, rfl⟩ := pr2 (some_inj hF2)
  exact ret2 Tryz.results22 (v1 := gM_ r_8 B4 c5) (resAt_cellA (B := aD b1) (i := 0) (cs := kM_ r_8 B4 c5) (vs := kM_ r_8 B4 c5) rfl k_ag_37 k_sz_37_3 (hS14.cf (i := 1) rfl) rfl rfl) (v2 := .bool r_9) (resAt_tmp rfl) ⟨B4, c5, rfl, (hS14.sN [5])⟩

theorem c_spec_l3Column (m : TMatrix) (k_ : Int) (B : Option Addr) (c n : Nat) (w0 : World) (hn : m.Cells.length = n) (hS : ST w0 [] w0 [] [⟨B, (m.Cells.flatMap eN0)⟩]) {r_ : TMatrix} (hF : F_spec_l3Column m k_ = some r_) :
  CV Tryz.prog 76 #[.agg #[vi m.Rows, vi m.Cols, .slice B n c], vi k_] w0 (fun v w' => ∃ (B1 : Option Addr) (c1 : Nat), v = (gM_ r_ B1 c1) ∧ ST w0 [] w' [⟨B1, 54, (r_.Cells.flatMap eN0), c1 * 5⟩] []) := by
 subst hn
 unfold F_spec_l3Column at hF
 refine cv_of_cw 32 Tryz.func76 rfl Tryz.ntmps76 rfl ?_
 refine cw_seq (cw_region ?_)
 refine sS 2 (Ys_box (T := 37) (v := gM_ m B c) (cs := kM_ m B c) (m := 3) hS rfl rfl rfl rfl) ?_
 rintro _ w_ ⟨b, rfl, hS1⟩
 refine sS 4 (Ys_alloc (T := 37) (cs := kN_) (m := 3) hS1 k_zero_37 rfl rfl rfl) ?_
 rintro _ w_1 ⟨b1, rfl, hS2⟩
 refine rw_nil (cw_seq (cw_region ?_))
 refine sQ 7 (Y_fieldAddr (B := aD b) (i := 0) (s := 0) k_fd_37_0_0_3 k_sz_3_1 rfl rfl) ?_
 refine sQ 8 (Y_load1 (B := aD b) (i := 0) (cs := kM_ m B c) (v := vi m.Rows) k_sc_3 rfl rfl (hS2.cf (i := 0) rfl) rfl) ?_
 refine sQ 9 (Y_buildS (zs := kN_) (vs := [(0, vi m.Rows), (1, vi 1)]) (cs := [vi m.Rows, vi 1, .slice none 0 0]) k_pl_37 k_zero_37 rfl (mpc rfl (mpc rfl mpn)) rfl) ?_
 refine sS 5 (Ys_alloc (T := 37) (cs := kN_) (m := 3) hS2 k_zero_37 rfl rfl rfl) ?_
 rintro _ w_2 ⟨b2, rfl, hS3⟩
 refine s0 (Ys_store (i := 2) (s := 3) (B := aD b2) (T' := 37) (v := .agg #[vi m.Rows, vi 1, .slice none 0 0]) (vs := [vi m.Rows, vi 1, .slice none 0 0]) (k := 0) (cs' := [vi m.Rows, vi 1, .slice none 0 0]) hS3 k_sz_37_3 rfl rfl rfl rfl rfl rfl rfl (lB rfl) rfl rfl) ?_
 rintro _ w_3 ⟨rfl, hS4⟩
 refine rw_nil (cw_seq (cw_seq (cw_region ?_)))
 refine sQ 6 (Y_assign (v := vi 0) rfl rfl) (rw_nil ?_)
 obtain ⟨hN, hF⟩ := chk_inv hF
 obtain ⟨z, hz, hF1⟩ := bind_inv hF
 have hS6 := hS4.addNil 54
 refine cw_block ?_
 refine cw_loop (fun k f w => ∃ (i1 : Nat) (Cells : List TDyadic) (B2 : Option Addr) (c2 : Nat), FF f [(1, vi k_), (2, pt (aD b) 0), (4, pt (aD b1) 0), (5, pt (aD b2) 0), (6, vi (i1 : Int))] ∧ ST w0 [] w [⟨aD b, 37, kM_ m B c, 3⟩, ⟨aD b1, 37, kN_, 3⟩, ⟨aD b2, 37, [vi m.Rows, vi 1, .slice B2 Cells.length c2], 3⟩, ⟨B2, 54, (Cells.flatMap eN0), c2 * 5⟩] [⟨B, (m.Cells.flatMap eN0)⟩] ∧ i1 + k = m.Rows.toNat ∧ forN (F_spec_l3Column_l1 m k_) k i1 Cells = some z) m.Rows.toNat ⟨0, [], none, 0, (FF.cons rfl (FF.cons rfl (FF.cons rfl (FF.cons rfl (FF.cons rfl FF.nil))))), (hS6.sel [0, 1, 2, 3] rfl rfl), Nat.zero_add _, hz⟩ ?_
 rintro k_1 f w ⟨i1, Cells, B2, c2, hf, hS5, hik, hL⟩
 refine cw_seq (cw_seq (cw_region ?_))
 refine sQ 10 (Y_move (v := vi (i1 : Int)) rfl (hf.get 6 4 rfl)) ?_
 refine sQ 11 (Y_fieldAddr (B := aD b) (i := 0) (s := 0) k_fd_37_0_0_3 k_sz_3_1 rfl (hf.get 2 1 rfl)) ?_
 refine sQ 12 (Y_load1 (B := aD b) (i := 0) (cs := kM_ m B c) (v := vi m.Rows) k_sc_3 rfl rfl (hS5.cf (i := 0) rfl) rfl) ?_
 refine sQ 13 (Y_lt (k := .i64) (a := (i1 : Int)) (b := m.Rows) rfl rfl rfl) (rw_nil ?_)
 refine cw_cond (b := (decide ((i1 : Int) < m.Rows))) rfl (fun hlt => ?_) (fun hlt => ?_)
 ·skip
  have hlt1 : i1 < m.Rows.toNat := by have h := of_decide_eq_true hlt; omega
  obtain ⟨k_2, rfl⟩ : ∃ k2, k_1 = k2 + 1 := ⟨k_1 - 1, by omega⟩
  obtain ⟨y, hb, hL1⟩ := forN_go hL
  unfold F_spec_l3Column_l1 at hb
  refine cw_skip (cw_seq (cw_block ?_))
  obtain ⟨x, hx, hb⟩ := bind_inv hb
  obtain ⟨hap, hb⟩ := chk_inv hb
  refine cw_mid (fun f w => ∃ (B4 : Option Addr) (c4 : Nat), FF f [(1, vi k_), (2, pt (aD b) 0), (4, pt (aD b1) 0), (5, pt (aD b2) 0), (6, vi (i1 : Int))] ∧ ST w0 [] w [⟨aD b, 37, kM_ m B c, 3⟩, ⟨aD b1, 37, kN_, 3⟩, ⟨aD b2, 37, [vi m.Rows, vi 1, .slice B4 ((Cells ++ [x]).length) c4], 3⟩, ⟨B4, 54, ((Cells ++ [x]).flatMap eN0), c4 * 5⟩] [⟨B, (m.Cells.flatMap eN0)⟩]) ?_ ?_
  ·skip
   refine ra_start (hS5.se [0, 1]).fn (by kernel_rfl) ?_
   have hS8 := hS5.drew
   refine rq 0 16 (v := pt (aD b2) 2) rfl (hS8.se [0, 1]) (fun w' hw' => (Y_fieldAddr (B := aD b2) (i := 0) (s := 0) k_fd_37_2_2_35 k_sz_35_1 rfl (hf.get 5 3 rfl))) ?_
   refine rq 2 18 (v := pt (aD b) 2) rfl (hS8.se [0, 1]) (fun w' hw' => (Y_fieldAddr (B := aD b) (i := 0) (s := 0) k_fd_37_2_2_35 k_sz_35_1 rfl (hf.get 2 1 rfl))) ?_
   refine rq 3 19 (v := .slice B m.Cells.length c) rfl (hS8.se [0, 1]) (fun w' hw' => (Y_load1 (B := aD b) (i := 2) (cs := kM_ m B c) (v := .slice B m.Cells.length c) k_sc_35 rfl rfl (ST.cf hw' (i := 0) rfl) rfl)) ?_
   refine rq 4 20 (v := vi (i1 : Int)) rfl (hS8.se [0, 1]) (fun w' hw' => (Y_move (v := vi (i1 : Int)) rfl (hf.get 6 4 rfl))) ?_
   refine rq 5 21 (v := pt (aD b) 1) rfl (hS8.se [0, 1]) (fun w' hw' => (Y_fieldAddr (B := aD b) (i := 0) (s := 0) k_fd_37_1_1_3 k_sz_3_1 rfl (hf.get 2 1 rfl))) ?_
   refine rq 6 22 (v := vi m.Cols) rfl (hS8.se [0, 1]) (fun w' hw' => (Y_load1 (B := aD b) (i := 1) (cs := kM_ m B c) (v := vi m.Cols) k_sc_3 rfl rfl (ST.cf hw' (i := 0) rfl) rfl)) ?_
   refine rq 7 23 (v := vi (i64.wrap ((i1 : Int) * m.Cols))) rfl (hS8.se [0, 1]) (fun w' hw' => (Y_mul (k := .i64) (a := (i1 : Int)) (b := m.Cols) rfl rfl rfl)) ?_
   refine rq 8 24 (v := vi k_) rfl (hS8.se [0, 1]) (fun w' hw' => (Y_move (v := vi k_) rfl (hf.get 1 0 rfl))) ?_
   refine rq 9 25 (v := vi (i64.wrap ((i64.wrap ((i1 : Int) * m.Cols)) + k_))) rfl (hS8.se [0, 1]) (fun w' hw' => (Y_add (k := .i64) (a := (i64.wrap ((i1 : Int) * m.Cols))) (b := k_) rfl rfl rfl)) ?_
   refine rq 10 26 (v := pt B ((i64.wrap ((i64.wrap ((i1 : Int) * m.Cols)) + k_)).toNat * 5)) rfl (hS8.se [0, 1]) (fun w' hw' => (Y_index (B := B) (m := m.Cells.length) (c := c) (k := .i64) (i := (i64.wrap ((i64.wrap ((i1 : Int) * m.Cols)) + k_))) k_sl_35_54 k_sz_54_5 rfl rfl rfl (gi_isSome eN1 rfl (ST.rf hw' (i := 0) rfl) hx) (getI_nn hx) (getI_ltI hx rfl))) ?_
   refine rq 11 27 (v := gD_ x) rfl (hS8.se [0, 1]) (fun w' hw' => (Y_loadA (B := B) (i := (i64.wrap ((i64.wrap ((i1 : Int) * m.Cols)) + k_)).toNat * 5) (cs := (m.Cells.flatMap eN0)) (vs := kD_ x) k_ag_54 k_sz_54_5 rfl rfl (ST.rf hw' (i := 0) rfl) (eN1 x) (gi_seg eN1 hx))) ?_
   refine rA [1, 12] ?_
   refine ra_y 17 (i := 1) (v := .slice B2 Cells.length c2) rfl rfl rfl (Y_load1 (B := aD b2) (i := 2) (cs := [vi m.Rows, vi 1, .slice B2 Cells.length c2]) (v := .slice B2 Cells.length c2) k_sc_35 rfl rfl (hS8.cf (i := 2) rfl) rfl) (hS8.se [0, 1]) ?_ ?_
   ·skip
    refine rA [12] ?_
    refine ra_s 28 (i := 12) rfl rfl rfl (Ys_bslice (s := 5) (len := 1) (vs := [(0, gD_ x)]) (cs := kD_ x) (zs := kZ_) (m := 5) hS8 k_sl_35_54 k_sz_54_5 k_zc_54 rfl (mpc rfl mpn) rfl rfl rfl (by kernel_rfl) (by kernel_rfl) rfl) ?_ ?_
    ·rintro _ w_4 ⟨b3, rfl, hS9⟩
     refine ⟨(hS9.se [0, 1]), ?_⟩
     refine rA [13] ?_
     refine ra_s 29 (i := 13) rfl rfl rfl (Ys_append (s := 5) (by' := 40) (i := 3) (nn := Cells.length) (c := c2) (k := 1) (len := (Cells ++ [x]).length) (B := B2) (xs := ([x].flatMap eN0)) (cs' := ((Cells ++ [x]).flatMap eN0)) hS9 k_sl_35_54 k_sz_54_5 k_by_54_40 k_zero_54 rfl (by decide) rfl rfl rfl rfl (fm_lenn (l := Cells) eN1 rfl) rfl (hS9.cf (i := 4) rfl) (fm_lenn (l := [x]) eN1 rfl) (fm_one' (enc := eN0) enc_Dyadic_one [x]) (by have := hap; omega) (by have := hap; simp only [maxLen]; omega) (fm_app _ _) (app_len (l := Cells) (l' := [x]) rfl rfl)) ?_ ?_
     ·rintro _ w_5 ⟨B3, c3, rfl, hS10⟩
      refine ⟨(hS10.se [0, 1]), ?_⟩
      refine rq 14 30 (v := pt (aD b2) 2) rfl (hS10.se [0, 1]) (fun w' hw' => (Y_fieldAddr (B := aD b2) (i := 0) (s := 0) k_fd_37_2_2_35 k_sz_35_1 rfl (hf.get 5 3 rfl))) ?_
      refine rA [15] ?_
      refine ra_s0 (i := 15) rfl rfl rfl (Ys_store (i := 2) (s := 1) (B := aD b2) (T' := 37) (v := .slice B3 ((Cells ++ [x]).length) c3) (vs := [.slice B3 ((Cells ++ [x]).length) c3]) (k := 2) (cs' := [vi m.Rows, vi 1, .slice B3 ((Cells ++ [x]).length) c3]) hS10 k_sz_35_1 rfl rfl rfl rfl rfl rfl rfl (lB rfl) rfl rfl) ?_ ?_
      ·rintro _ w_6 ⟨rfl, hS11⟩
       refine ⟨(hS11.se [0, 1]), ?_⟩
       refine ra_done (by kernel_rfl) ?_
       exact ⟨B3, c3, (FF.cons (hf.get 1 0 rfl) (FF.cons (hf.get 2 1 rfl) (FF.cons (hf.get 4 2 rfl) (FF.cons (hf.get 5 3 rfl) (FF.cons (hf.get 6 4 rfl) FF.nil))))), (hS11.sel [0, 1, 2, 3] rfl rfl)⟩
      exact allR_nil
     exact allR_nil
    exact allR_nil
   refine ra_s 28 (i := 12) rfl rfl rfl (Ys_bslice (s := 5) (len := 1) (vs := [(0, gD_ x)]) (cs := kD_ x) (zs := kZ_) (m := 5) hS8 k_sl_35_54 k_sz_54_5 k_zc_54 rfl (mpc rfl mpn) rfl rfl rfl (by kernel_rfl) (by kernel_rfl) rfl) ?_ ?_
   ·rintro _ w_7 ⟨b3, rfl, hS12⟩
    refine ⟨(hS12.se [0, 1]), ?_⟩
    refine rA [1] ?_
    refine ra_y 17 (i := 1) (v := .slice B2 Cells.length c2) rfl rfl rfl (Y_load1 (B := aD b2) (i := 2) (cs := [vi m.Rows, vi 1, .slice B2 Cells.length c2]) (v := .slice B2 Cells.length c2) k_sc_35 rfl rfl (hS12.cf (i := 2) rfl) rfl) (hS12.se [0, 1]) ?_ ?_
    ·skip
     refine rA [13] ?_
     refine ra_s 29 (i := 13) rfl rfl rfl (Ys_append (s := 5) (by' := 40) (i := 3) (nn := Cells.length) (c := c2) (k := 1) (len := (Cells ++ [x]).length) (B := B2) (xs := ([x].flatMap eN0)) (cs' := ((Cells ++ [x]).flatMap eN0)) hS12 k_sl_35_54 k_sz_54_5 k_by_54_40 k_zero_54 rfl (by decide) rfl rfl rfl rfl (fm_lenn (l := Cells) eN1 rfl) rfl (hS12.cf (i := 4) rfl) (fm_lenn (l := [x]) eN1 rfl) (fm_one' (enc := eN0) enc_Dyadic_one [x]) (by have := hap; omega) (by have := hap; simp only [maxLen]; omega) (fm_app _ _) (app_len (l := Cells) (l' := [x]) rfl rfl)) ?_ ?_
     ·rintro _ w_8 ⟨B3, c3, rfl, hS13⟩
      refine ⟨(hS13.se [0, 1]), ?_⟩
      refine rq 14 30 (v := pt (aD b2) 2) rfl (hS13.se [0, 1]) (fun w' hw' => (Y_fieldAddr (B := aD b2) (i := 0) (s := 0) k_fd_37_2_2_35 k_sz_35_1 rfl (hf.get 5 3 rfl))) ?_
      refine rA [15] ?_
      refine ra_s0 (i := 15) rfl rfl rfl (Ys_store (i := 2) (s := 1) (B := aD b2) (T' := 37) (v := .slice B3 ((Cells ++ [x]).length) c3) (vs := [.slice B3 ((Cells ++ [x]).length) c3]) (k := 2) (cs' := [vi m.Rows, vi 1, .slice B3 ((Cells ++ [x]).length) c3]) hS13 k_sz_35_1 rfl rfl rfl rfl rfl rfl rfl (lB rfl) rfl rfl) ?_ ?_
      ·rintro _ w_9 ⟨rfl, hS14⟩
       refine ⟨(hS14.se [0, 1]), ?_⟩
       refine ra_done (by kernel_rfl) ?_
       exact ⟨B3, c3, (FF.cons (hf.get 1 0 rfl) (FF.cons (hf.get 2 1 rfl) (FF.cons (hf.get 4 2 rfl) (FF.cons (hf.get 5 3 rfl) (FF.cons (hf.get 6 4 rfl) FF.nil))))), (hS14.sel [0, 1, 2, 3] rfl rfl)⟩
      exact allR_nil
     exact allR_nil
    exact allR_nil
   exact allR_nil
  rintro f w ⟨B4, c4, hf1, hS7⟩
  refine cw_region ?_
  refine sQ 14 (Y_move (v := vi (i1 : Int)) rfl (hf1.get 6 4 rfl)) ?_
  refine sQ 15 (Y_add (k := .i64) (a := (i1 : Int)) (b := 1) rfl rfl rfl) ?_
  refine sQ 6 (Y_assign (v := vi (i64.wrap ((i1 : Int) + 1))) rfl rfl) (rw_nil ?_)
  obtain rfl := some_inj hb
  exact ⟨k_2, Nat.lt_succ_self _, i1 + 1, (Cells ++ [x]), B4, c4, (FF.cons (hf1.get 1 0 rfl) (FF.cons (hf1.get 2 1 rfl) (FF.cons (hf1.get 4 2 rfl) (FF.cons (hf1.get 5 3 rfl) (FF.cons (congrArg (Value.int .i64) (wr_succ hlt1 hN)) FF.nil))))), (hS7.sel [0, 1, 2, 3] rfl rfl), (by omega), hL1⟩
 ·skip
  obtain rfl : k_1 = 0 := by have h := of_decide_eq_false hlt; omega
  refine cw_exit rfl ?_
  obtain rfl := some_inj hL
  refine cw_seq (cw_region ?_)
  refine sQ 31 (Y_loadA (B := aD b2) (i := 0) (cs := [vi m.Rows, vi 1, .slice B2 Cells.length c2]) (vs := [vi m.Rows, vi 1, .slice B2 Cells.length c2]) k_ag_37 k_sz_37_3 rfl (hf.get 5 3 rfl) (hS5.cf (i := 2) rfl) rfl rfl) ?_
  refine s0 (Ys_store (i := 1) (s := 3) (B := aD b1) (T' := 37) (v := .agg #[vi m.Rows, vi 1, .slice B2 Cells.length c2]) (vs := [vi m.Rows, vi 1, .slice B2 Cells.length c2]) (k := 0) (cs' := [vi m.Rows, vi 1, .slice B2 Cells.length c2]) hS5 k_sz_37_3 rfl (hf.get 4 2 rfl) rfl rfl rfl rfl rfl (lB rfl) rfl rfl) ?_
  rintro _ w_10 ⟨rfl, hS15⟩
  refine rw_nil (cw_ret ?_)
  obtain rfl := some_inj hF1
  exact ret1 Tryz.results76 (v1 := .agg #[vi m.Rows, vi 1, .slice B2 Cells.length c2]) (resAt_cellA (B := aD b1) (i := 0) (cs := [vi m.Rows, vi 1, .slice B2 Cells.length c2]) (vs := [vi m.Rows, vi 1, .slice B2 Cells.length c2]) (hf.get 4 2 rfl) k_ag_37 k_sz_37_3 (hS15.cf (i := 1) rfl) rfl rfl) ⟨B2, c2, rfl, (hS15.sN [3])⟩

theorem c_spec_StateAfter (c : TCircuit) (start : Int) (B : Option Addr) (c1 n : Nat) (w0 : World) (hn : c.Gates.length = n) (hS : ST w0 [] w0 [] [⟨B, (c.Gates.flatMap enc_Gate)⟩]) {r_ : TMatrix} {r_1 : Bool} (hF : F_spec_StateAfter c start = some (r_, r_1)) :
  CV Tryz.prog 23 #[.agg #[vi c.Qubits, .slice B n c1], vi start] w0 (fun v w' => ∃ (B1 : Option Addr) (c2 : Nat), v = .tuple #[gM_ r_ B1 c2, .bool r_1] ∧ ST w0 [] w' [⟨B1, 54, (r_.Cells.flatMap eN0), c2 * 5⟩] []) := by
 subst hn
 unfold F_spec_StateAfter at hF
 refine cv_of_cw 37 Tryz.func23 rfl Tryz.ntmps23 rfl ?_
 refine cw_seq (cw_region ?_)
 refine sS 2 (Ys_box (T := 33) (v := .agg #[vi c.Qubits, .slice B c.Gates.length c1]) (cs := [vi c.Qubits, .slice B c.Gates.length c1]) (m := 2) hS rfl rfl rfl rfl) ?_
 rintro _ w_ ⟨b, rfl, hS1⟩
 refine sS 4 (Ys_alloc (T := 37) (cs := kN_) (m := 3) hS1 k_zero_37 rfl rfl rfl) ?_
 rintro _ w_1 ⟨b1, rfl, hS2⟩
 refine sQ 5 (Y_assign (v := .bool false) rfl rfl) (rw_nil (cw_seq (cw_seq (cw_region ?_))))
 refine sQ 7 (Y_loadA (B := aD b) (i := 0) (cs := [vi c.Qubits, .slice B c.Gates.length c1]) (vs := [vi c.Qubits, .slice B c.Gates.length c1]) k_ag_33 k_sz_33_2 rfl rfl (hS2.cf (i := 0) rfl) rfl rfl) ?_
 obtain ⟨r_2, hc, hF⟩ := bind_inv hF
 refine sc 8 rfl rfl (Yc_func (g := 60) (vs := [.agg #[vi c.Qubits, .slice B c.Gates.length c1]]) k_call_60 rfl (mc rfl mn) (c_spec_l4Good c B c1 c.Gates.length _ rfl (hS2.inn0 [(true, 0)] rfl) hc)) ?_
 rintro _ w_2 ⟨rfl, hd⟩
 have hS3 := hS2.out00 hd
 refine sQ 9 (Y_not (p := r_2) rfl rfl) ?_
 refine sQ 10 (Y_move (v := .bool (!r_2)) rfl rfl) ?_
 refine sgq 11 (B := (!(!r_2))) (v := vi start) rfl rfl (uF_ 10) (fun hg => (Y_move (v := vi start) rfl rfl)) ?_
 refine sgq 12 (B := (!(!r_2))) (v := pt (aD b) 0) rfl rfl (uF_ 10) (fun hg1 => (Y_fieldAddr (B := aD b) (i := 0) (s := 0) k_fd_33_0_0_3 k_sz_3_1 rfl rfl)) ?_
 refine sgq 13 (B := (!(!r_2))) (v := vi c.Qubits) rfl rfl (uF_ 10) (fun hg2 => (Y_load1 (B := aD b) (i := 0) (cs := [vi c.Qubits, .slice B c.Gates.length c1]) (v := vi c.Qubits) k_sc_3 rfl (gv_of (v := pt (aD b) 0) hg2) (hS3.cf (i := 0) rfl) rfl)) ?_
 refine sgq 14 (B := (!(!r_2))) (v := .int .u64 (IntKind.u64.wrap c.Qubits)) rfl rfl (uF_ 10) (fun hg3 => (Y_conv (k := .i64) (a := c.Qubits) (T := 3) (T' := 76) k_us_3 k_int_76_u64 rfl (gv_of (v := vi c.Qubits) hg3))) ?_
 obtain ⟨hsh, hF⟩ := chk_inv hF
 refine sgq 15 (B := (!(!r_2))) (v := vi (shlK .i64 1 (IntKind.u64.wrap c.Qubits))) rfl rfl (uF_ 10) (fun hg4 => (Y_shl (k := .i64) (a := 1) (k' := .u64) (b := (IntKind.u64.wrap c.Qubits)) rfl rfl (gv_of (v := .int .u64 (IntKind.u64.wrap c.Qubits)) hg4) (hsh hg4))) ?_
 refine sgq 16 (B := (!(!r_2))) (v := vi (i64.wrap ((shlK .i64 1 (IntKind.u64.wrap c.Qubits)) - 1))) rfl rfl (uF_ 10) (fun hg5 => (Y_sub (k := .i64) (a := (shlK .i64 1 (IntKind.u64.wrap c.Qubits))) (b := 1) rfl (gv_of (v := vi (shlK .i64 1 (IntKind.u64.wrap c.Qubits))) hg5) rfl)) ?_
 obtain ⟨r_3, hc1, hF⟩ := bind_inv hF
 refine sgc 17 (B := (!(!r_2))) (v := .bool r_3) (F := hS3.fn) rfl rfl (uF_ 10) hS3 (fun hg6 => (Yc_func (g := 51) (vs := [vi start, vi 0, vi (i64.wrap ((shlK .i64 1 (IntKind.u64.wrap c.Qubits)) - 1))]) k_call_51 rfl (mc (gv_of (v := vi start) hg6) (mc rfl (mc (gv_of (v := vi (i64.wrap ((shlK .i64 1 (IntKind.u64.wrap c.Qubits)) - 1))) hg6) mn))) (CV.mono (c_spec_l1In start 0 (i64.wrap ((shlK .i64 1 (IntKind.u64.wrap c.Qubits)) - 1)) _  (hS3.inn0 [] rfl) (gb_inv hc1 hg6)) (by rintro _ _ ⟨rfl, h⟩; exact ⟨rfl, hS3.out00 h⟩)))) ?_
 rintro w_3 hS4
 refine sgq 18 (B := (!(!r_2))) (v := .bool (!r_3)) rfl rfl (uF_ 10) (fun hg7 => (Y_not (p := r_3) rfl (gv_of (v := .bool r_3) hg7))) ?_
 refine sQ 19 (Y_or (b := (!r_2)) (z := (!r_3)) rfl rfl rfl rfl) (rw_nil ?_)
 refine cw_cond (b := ((!r_2) || (!r_3))) rfl (fun hb => ?_) (fun hb => ?_)
 ·skip
  have hF1 := ct hF hb
  refine cw_seq (cw_region ?_)
  refine sQ 20 (Y_buildS (zs := kN_) (vs := []) (cs := kN_) k_pl_37 k_zero_37 rfl mpn rfl) ?_
  refine s0 (Ys_store (i := 1) (s := 3) (B := aD b1) (T' := 37) (v := gN_) (vs := kN_) (k := 0) (cs' := kN_) hS4 k_sz_37_3 rfl rfl rfl rfl rfl rfl rfl (lB rfl) rfl rfl) ?_
  rintro _ w_4 ⟨rfl, hS5⟩
  refine sQ 5 (Y_assign (v := .bool false) rfl rfl) (rw_nil (cw_ret ?_))
  have hS6 := hS5.addNil 54
  obtain ⟨rfl, rfl⟩ := pr2 (some_inj hF1)
  exact ret2 Tryz.results23 (v1 := gN_) (resAt_cellA (B := aD b1) (i := 0) (cs := kN_) (vs := kN_) rfl k_ag_37 k_sz_37_3 (hS6.cf (i := 1) rfl) rfl rfl) (v2 := .bool false) (resAt_tmp rfl) ⟨none, 0, rfl, (hS6.sN [2])⟩
 ·skip
  have hF2 := cf' hF hb
  refine cw_skip (cw_seq (cw_region ?_))
  refine sQ 21 (Y_buildS (zs := [.bool false]) (vs := []) (cs := [.bool false]) k_pl_98 k_zero_98 rfl mpn rfl) ?_
  refine sS 22 (Ys_box (T := 98) (v := .agg #[.bool false]) (cs := [.bool false]) (m := 1) hS4 rfl rfl rfl rfl) ?_
  rintro _ w_5 ⟨b2, rfl, hS7⟩
  refine sQ 6 (Y_assign (v := pt (aD b2) 0) rfl rfl) (rw_nil (cw_seq ?_))
  obtain ⟨hsh1, hF2⟩ := chk_inv hF2
  obtain ⟨r_4, hc2, hF2⟩ := bind_inv hF2
  obtain ⟨r_5, hc3, hF2⟩ := bind_inv hF2
  obtain ⟨⟨r_6, m⟩, hc4, hF2⟩ := bind_inv hF2
  obtain ⟨⟨r_7, r_8⟩, hc5, hF2⟩ := bind_inv hF2
  refine ra_start (hS7.se [0]).fn (by kernel_rfl) ?_
  have hS12 := hS7.drew
  refine rq 0 23 (v := pt (aD b2) 0) rfl (hS12.se [0]) (fun w' hw' => (Y_move (v := pt (aD b2) 0) rfl rfl)) ?_
  refine rq 1 24 (v := pt (aD b2) 0) rfl (hS12.se [0]) (fun w' hw' => (Y_move (v := pt (aD b2) 0) rfl rfl)) ?_
  refine rq 2 25 (v := .agg #[vi c.Qubits, .slice B c.Gates.length c1]) rfl (hS12.se [0]) (fun w' hw' => (Y_loadA (B := aD b) (i := 0) (cs := [vi c.Qubits, .slice B c.Gates.length c1]) (vs := [vi c.Qubits, .slice B c.Gates.length c1]) k_ag_33 k_sz_33_2 rfl rfl (ST.cf hw' (i := 0) rfl) rfl rfl)) ?_
  refine rq 3 26 (v := pt (aD b) 0) rfl (hS12.se [0]) (fun w' hw' => (Y_fieldAddr (B := aD b) (i := 0) (s := 0) k_fd_33_0_0_3 k_sz_3_1 rfl rfl)) ?_
  refine rq 4 27 (v := vi c.Qubits) rfl (hS12.se [0]) (fun w' hw' => (Y_load1 (B := aD b) (i := 0) (cs := [vi c.Qubits, .slice B c.Gates.length c1]) (v := vi c.Qubits) k_sc_3 rfl rfl (ST.cf hw' (i := 0) rfl) rfl)) ?_
  refine rq 5 28 (v := .int .u64 (IntKind.u64.wrap c.Qubits)) rfl (hS12.se [0]) (fun w' hw' => (Y_conv (k := .i64) (a := c.Qubits) (T := 3) (T' := 76) k_us_3 k_int_76_u64 rfl rfl)) ?_
  refine rq 6 29 (v := vi (shlK .i64 1 (IntKind.u64.wrap c.Qubits))) rfl (hS12.se [0]) (fun w' hw' => (Y_shl (k := .i64) (a := 1) (k' := .u64) (b := (IntKind.u64.wrap c.Qubits)) rfl rfl rfl hsh1)) ?_
  refine rq 8 31 (v := vi start) rfl (hS12.se [0]) (fun w' hw' => (Y_move (v := vi start) rfl rfl)) ?_
  refine rA [7] ?_
  refine ra_c 30 (i := 7) rfl rfl rfl (Yc_func (g := 63) (vs := [vi (shlK .i64 1 (IntKind.u64.wrap c.Qubits))]) k_call_63 rfl (mc rfl mn) (c_spec_l3Unit (shlK .i64 1 (IntKind.u64.wrap c.Qubits)) _  (hS12.inn0 [] rfl) hc2)) ?_ ?_
  ·rintro _ w_6 ⟨B2, c3, rfl, hd1⟩
   have hS13 := hS12.out0 hd1
   refine ⟨(hS13.se [0]), ?_⟩
   refine rA [9] ?_
   refine ra_c 32 (i := 9) rfl rfl rfl (Yc_func (g := 76) (vs := [gM_ r_4 B2 c3, vi start]) k_call_76 rfl (mc rfl (mc rfl mn)) (c_spec_l3Column r_4 start B2 c3 r_4.Cells.length _ rfl (hS13.inn0 [(false, 3)] rfl) hc3)) ?_ ?_
   ·rintro _ w_7 ⟨B3, c4, rfl, hd2⟩
    have hS14 := hS13.out0 hd2
    refine ⟨(hS14.se [0]), ?_⟩
    refine rA [10] ?_
    refine ra_c 33 (i := 10) rfl rfl rfl (Yc_func (g := 62) (vs := [pt (aD b2) 0, .agg #[vi c.Qubits, .slice B c.Gates.length c1], gM_ r_5 B3 c4]) k_call_62 rfl (mc rfl (mc rfl (mc rfl mn))) (c_spec_l2C_run (Tl2C.mk false) c r_5 (aD b2) B c1 c.Gates.length B3 c4 r_5.Cells.length _ rfl rfl (hS14.inn [false, false, true, false, true] rfl [(true, 0)] rfl) hc4)) ?_ ?_
    ·rintro _ w_8 ⟨B4, c5, rfl, hd3⟩
     have hS15 := hS14.out [false, false, true, false, true] rfl hd3
     refine ⟨(hS15.se [0]), ?_⟩
     refine rA [11] ?_
     refine ra_c 34 (i := 11) rfl rfl rfl (Yc_func (g := 61) (vs := [pt (aD b2) 0, gM_ r_6 B4 c5]) k_call_61 rfl (mc rfl (mc rfl mn)) (c_spec_l2C_matrix m r_6 (aD b2) B4 c5 r_6.Cells.length _ rfl (hS15.inn [false, false, false, false, true] rfl [(false, 3)] rfl) hc5)) ?_ ?_
     ·rintro _ w_9 ⟨B5, c6, rfl, hd4⟩
      have hS16 := hS15.out [false, false, false, false, true] rfl hd4
      refine ⟨(hS16.se [0]), ?_⟩
      refine rq 12 35 (v := gM_ r_7 B5 c6) rfl (hS16.se [0]) (fun w' hw' => (Y_extract (v := gM_ r_7 B5 c6) rfl rfl rfl)) ?_
      refine rq 13 36 (v := .bool r_8) rfl (hS16.se [0]) (fun w' hw' => (Y_extract (v := .bool r_8) rfl rfl rfl)) ?_
      refine rA [14] ?_
      refine ra_s0 (i := 14) rfl rfl rfl (Ys_store (i := 1) (s := 3) (B := aD b1) (T' := 37) (v := gM_ r_7 B5 c6) (vs := kM_ r_7 B5 c6) (k := 0) (cs' := kM_ r_7 B5 c6) hS16 k_sz_37_3 rfl rfl rfl rfl rfl rfl rfl (lB rfl) rfl rfl) ?_ ?_
      ·rintro _ w_10 ⟨rfl, hS17⟩
       refine ⟨(hS17.se [0]), ?_⟩
       refine rq 15 5 (v := .bool r_8) rfl (hS17.se [0]) (fun w' hw' => (Y_assign (v := .bool r_8) rfl rfl)) ?_
       refine ra_done (by kernel_rfl) ?_
       refine cw_ret ?_
       obtain ⟨rfl, rfl⟩ := pr2 (some_inj hF2)
       exact ret2 Tryz.results23 (v1 := gM_ r_7 B5 c6) (resAt_cellA (B := aD b1) (i := 0) (cs := kM_ r_7 B5 c6) (vs := kM_ r_7 B5 c6) rfl k_ag_37 k_sz_37_3 (hS17.cf (i := 1) rfl) rfl rfl) (v2 := .bool r_8) (resAt_tmp rfl) ⟨B5, c6, rfl, (hS17.sN [4])⟩
      exact allR_nil
     exact allR_nil
    exact allR_nil
   exact allR_nil
  exact allR_nil

theorem c_impl_Conjugate (x : TRing)  (w0 : World)  (hS : ST w0 [] w0 [] []) {r_ : TRing} {r_1 : Bool} (hF : F_impl_Conjugate x = some (r_, r_1)) :
  CV Tryz.prog 217 #[gR_ x] w0 (fun v w' => v = .tuple #[gR_ r_, .bool r_1] ∧ ST w0 [] w' [] []) := by
 unfold F_impl_Conjugate at hF
 refine cv_of_cw 21 Tryz.func217 rfl Tryz.ntmps217 rfl ?_
 refine cw_seq (cw_region ?_)
 refine sS 1 (Ys_box (T := 52) (v := gR_ x) (cs := kR_ x) (m := 4) hS rfl rfl rfl rfl) ?_
 rintro _ w_ ⟨b, rfl, hS1⟩
 refine sS 2 (Ys_alloc (T := 52) (cs := [vi 0, vi 0, vi 0, vi 0]) (m := 4) hS1 k_zero_52 rfl rfl rfl) ?_
 rintro _ w_1 ⟨b1, rfl, hS2⟩
 refine sQ 3 (Y_assign (v := .bool false) rfl rfl) (rw_nil (cw_seq (cw_region ?_)))
 refine sQ 4 (Y_fieldAddr (B := aD b) (i := 0) (s := 0) k_fd_52_0_0_3 k_sz_3_1 rfl rfl) ?_
 refine sQ 5 (Y_load1 (B := aD b) (i := 0) (cs := kR_ x) (v := vi x.A) k_sc_3 rfl rfl (hS2.cf (i := 0) rfl) rfl) ?_
 refine sQ 6 (Y_fieldAddr (B := aD b) (i := 0) (s := 0) k_fd_52_3_3_3 k_sz_3_1 rfl rfl) ?_
 refine sQ 7 (Y_load1 (B := aD b) (i := 3) (cs := kR_ x) (v := vi x.D) k_sc_3 rfl rfl (hS2.cf (i := 0) rfl) rfl) ?_
 refine sQ 8 (Y_neg (k := .i64) (a := x.D) rfl rfl) ?_
 refine sQ 9 (Y_fieldAddr (B := aD b) (i := 0) (s := 0) k_fd_52_2_2_3 k_sz_3_1 rfl rfl) ?_
 refine sQ 10 (Y_load1 (B := aD b) (i := 2) (cs := kR_ x) (v := vi x.C) k_sc_3 rfl rfl (hS2.cf (i := 0) rfl) rfl) ?_
 refine sQ 11 (Y_neg (k := .i64) (a := x.C) rfl rfl) ?_
 refine sQ 12 (Y_fieldAddr (B := aD b) (i := 0) (s := 0) k_fd_52_1_1_3 k_sz_3_1 rfl rfl) ?_
 refine sQ 13 (Y_load1 (B := aD b) (i := 1) (cs := kR_ x) (v := vi x.B) k_sc_3 rfl rfl (hS2.cf (i := 0) rfl) rfl) ?_
 refine sQ 14 (Y_neg (k := .i64) (a := x.B) rfl rfl) ?_
 refine sQ 15 (Y_buildS (zs := [vi 0, vi 0, vi 0, vi 0]) (vs := [(0, vi x.A), (1, vi (i64.wrap (-x.D))), (2, vi (i64.wrap (-x.C))), (3, vi (i64.wrap (-x.B)))]) (cs := [vi x.A, vi (i64.wrap (-x.D)), vi (i64.wrap (-x.C)), vi (i64.wrap (-x.B))]) k_pl_52 k_zero_52 rfl (mpc rfl (mpc rfl (mpc rfl (mpc rfl mpn)))) rfl) ?_
 refine sQ 16 (Y_loadA (B := aD b) (i := 0) (cs := kR_ x) (vs := kR_ x) k_ag_52 k_sz_52_4 rfl rfl (hS2.cf (i := 0) rfl) rfl rfl) ?_
 refine sS 17 (Ys_bslice (s := 4) (len := 1) (vs := [(0, gR_ x)]) (cs := kR_ x) (zs := [vi 0, vi 0, vi 0, vi 0]) (m := 4) hS2 k_sl_234_52 k_sz_52_4 k_zc_52 rfl (mpc rfl mpn) rfl rfl rfl (by kernel_rfl) (by kernel_rfl) rfl) ?_
 rintro _ w_2 ⟨b2, rfl, hS3⟩
 obtain ⟨⟨r_2, r_3⟩, hc, hF⟩ := bind_inv hF
 refine sc 18 rfl rfl (Yc_func (g := 245) (vs := [.agg #[vi x.A, vi (i64.wrap (-x.D)), vi (i64.wrap (-x.C)), vi (i64.wrap (-x.B))], .slice (aD b2) 1 1]) k_call_245 rfl (mc rfl (mc rfl mn)) (c_impl_ringIf (TRing.mk x.A (i64.wrap (-x.D)) (i64.wrap (-x.C)) (i64.wrap (-x.B))) [x] (aD b2) 1 1 _ rfl (hS3.inn [false, false, true] rfl [] rfl) hc)) ?_
 rintro _ w_3 ⟨rfl, hd⟩
 have hS4 := hS3.out [false, false, true] rfl hd
 refine sQ 19 (Y_extract (v := gR_ r_2) rfl rfl rfl) ?_
 refine sQ 20 (Y_extract (v := .bool r_3) rfl rfl rfl) ?_
 refine s0 (Ys_store (i := 1) (s := 4) (B := aD b1) (T' := 52) (v := gR_ r_2) (vs := kR_ r_2) (k := 0) (cs' := kR_ r_2) hS4 k_sz_52_4 rfl rfl rfl rfl rfl rfl rfl (lB rfl) rfl rfl) ?_
 rintro _ w_4 ⟨rfl, hS5⟩
 refine sQ 3 (Y_assign (v := .bool r_3) rfl rfl) (rw_nil (cw_ret ?_))
 obtain ⟨rfl, rfl⟩ := pr2 (some_inj hF)
 exact ret2 Tryz.results217 (v1 := gR_ r_2) (resAt_cellA (B := aD b1) (i := 0) (cs := kR_ r_2) (vs := kR_ r_2) rfl k_ag_52 k_sz_52_4 (hS5.cf (i := 1) rfl) rfl rfl) (v2 := .bool r_3) (resAt_tmp rfl) ⟨rfl, (hS5.sN [])⟩

theorem c_impl_ConjDyadic (x : TDyadic)  (w0 : World)  (hS : ST w0 [] w0 [] []) {r_ : TDyadic} {r_1 : Bool} (hF : F_impl_ConjDyadic x = some (r_, r_1)) :
  CV Tryz.prog 157 #[gD_ x] w0 (fun v w' => v = .tuple #[gD_ r_, .bool r_1] ∧ ST w0 [] w' [] []) := by
 unfold F_impl_ConjDyadic at hF
 refine cv_of_cw 20 Tryz.func157 rfl Tryz.ntmps157 rfl ?_
 refine cw_seq (cw_region ?_)
 refine sS 1 (Ys_box (T := 54) (v := gD_ x) (cs := kD_ x) (m := 5) hS rfl rfl rfl rfl) ?_
 rintro _ w_ ⟨b, rfl, hS1⟩
 refine sS 2 (Ys_alloc (T := 54) (cs := kZ_) (m := 5) hS1 k_zero_54 rfl rfl rfl) ?_
 rintro _ w_1 ⟨b1, rfl, hS2⟩
 refine sQ 3 (Y_assign (v := .bool false) rfl rfl) (rw_nil (cw_seq (cw_seq (cw_region ?_))))
 refine sQ 6 (Y_loadA (B := aD b) (i := 0) (cs := kD_ x) (vs := kD_ x) k_ag_54 k_sz_54_5 rfl rfl (hS2.cf (i := 0) rfl) rfl rfl) ?_
 obtain ⟨r_2, hc, hF⟩ := bind_inv hF
 refine sc 7 rfl rfl (Yc_func (g := 169) (vs := [gD_ x]) k_call_169 rfl (mc rfl mn) (c_impl_IsValidDyadic x _  (hS2.inn0 [] rfl) hc)) ?_
 rintro _ w_2 ⟨rfl, hd⟩
 have hS3 := hS2.out00 hd
 refine sQ 8 (Y_not (p := r_2) rfl rfl) (rw_nil ?_)
 refine cw_cond (b := (!r_2)) rfl (fun hb => ?_) (fun hb => ?_)
 ·skip
  have hF1 := ct hF hb
  refine cw_seq (cw_region ?_)
  refine sQ 9 (Y_buildS (zs := kZ_) (vs := []) (cs := kZ_) k_pl_54 k_zero_54 rfl mpn rfl) ?_
  refine s0 (Ys_store (i := 1) (s := 5) (B := aD b1) (T' := 54) (v := gZ_) (vs := kZ_) (k := 0) (cs' := kZ_) hS3 k_sz_54_5 rfl rfl rfl rfl rfl rfl rfl (lB rfl) rfl rfl) ?_
  rintro _ w_3 ⟨rfl, hS4⟩
  refine sQ 3 (Y_assign (v := .bool false) rfl rfl) (rw_nil (cw_ret ?_))
  obtain ⟨rfl, rfl⟩ := pr2 (some_inj hF1)
  exact ret2 Tryz.results157 (v1 := gZ_) (resAt_cellA (B := aD b1) (i := 0) (cs := kZ_) (vs := kZ_) rfl k_ag_54 k_sz_54_5 (hS4.cf (i := 1) rfl) rfl rfl) (v2 := .bool false) (resAt_tmp rfl) ⟨rfl, (hS4.sN [])⟩
 ·skip
  have hF2 := cf' hF hb
  refine cw_skip (cw_seq (cw_region ?_))
  refine sQ 11 (Y_fieldAddr (B := aD b) (i := 0) (s := 3) k_fd_54_0_0_52 k_sz_52_4 rfl rfl) ?_
  refine sQ 12 (Y_loadA (B := aD b) (i := 0) (cs := kD_ x) (vs := kR_ x.Num) k_ag_52 k_sz_52_4 rfl rfl (hS3.cf (i := 0) rfl) rfl rfl) ?_
  obtain ⟨⟨r_3, r_4⟩, hc1, hF2⟩ := bind_inv hF2
  refine sc 13 rfl rfl (Yc_func (g := 217) (vs := [gR_ x.Num]) k_call_217 rfl (mc rfl mn) (c_impl_Conjugate x.Num _  (hS3.inn0 [] rfl) hc1)) ?_
  rintro _ w_4 ⟨rfl, hd1⟩
  have hS5 := hS3.out00 hd1
  refine sQ 10 (Y_move (v := .tuple #[gR_ r_3, .bool r_4]) rfl rfl) ?_
  refine sQ 14 (Y_extract (v := gR_ r_3) rfl rfl rfl) ?_
  refine sQ 15 (Y_extract (v := .bool r_4) rfl rfl rfl) ?_
  refine sS 4 (Ys_alloc (T := 52) (cs := [vi 0, vi 0, vi 0, vi 0]) (m := 4) hS5 k_zero_52 rfl rfl rfl) ?_
  rintro _ w_5 ⟨b2, rfl, hS6⟩
  refine s0 (Ys_store (i := 2) (s := 4) (B := aD b2) (T' := 52) (v := gR_ r_3) (vs := kR_ r_3) (k := 0) (cs' := kR_ r_3) hS6 k_sz_52_4 rfl rfl rfl rfl rfl rfl rfl (lB rfl) rfl rfl) ?_
  rintro _ w_6 ⟨rfl, hS7⟩
  refine sQ 5 (Y_assign (v := .bool r_4) rfl rfl) (rw_nil (cw_seq (cw_region ?_)))
  refine sQ 16 (Y_loadA (B := aD b2) (i := 0) (cs := kR_ r_3) (vs := kR_ r_3) k_ag_52 k_sz_52_4 rfl rfl (hS7.cf (i := 2) rfl) rfl rfl) ?_
  refine sQ 17 (Y_fieldAddr (B := aD b) (i := 0) (s := 0) k_fd_54_1_4_3 k_sz_3_1 rfl rfl) ?_
  refine sQ 18 (Y_load1 (B := aD b) (i := 4) (cs := kD_ x) (v := vi x.Exp) k_sc_3 rfl rfl (hS7.cf (i := 0) rfl) rfl) ?_
  refine sQ 19 (Y_buildS (zs := kZ_) (vs := [(0, gR_ r_3), (1, vi x.Exp)]) (cs := [vi r_3.A, vi r_3.B, vi r_3.C, vi r_3.D, vi x.Exp]) k_pl_54 k_zero_54 rfl (mpc rfl (mpc rfl mpn)) rfl) ?_
  refine s0 (Ys_store (i := 1) (s := 5) (B := aD b1) (T' := 54) (v := .agg #[vi r_3.A, vi r_3.B, vi r_3.C, vi r_3.D, vi x.Exp]) (vs := [vi r_3.A, vi r_3.B, vi r_3.C, vi r_3.D, vi x.Exp]) (k := 0) (cs' := [vi r_3.A, vi r_3.B, vi r_3.C, vi r_3.D, vi x.Exp]) hS7 k_sz_54_5 rfl rfl rfl rfl rfl rfl rfl (lB rfl) rfl rfl) ?_
  rintro _ w_7 ⟨rfl, hS8⟩
  refine sQ 3 (Y_assign (v := .bool true) rfl rfl) (rw_nil (cw_ret ?_))
  obtain ⟨rfl, rfl⟩ := pr2 (some_inj hF2)
  exact ret2 Tryz.results157 (v1 := .agg #[vi r_3.A, vi r_3.B, vi r_3.C, vi r_3.D, vi x.Exp]) (resAt_cellA (B := aD b1) (i := 0) (cs := [vi r_3.A, vi r_3.B, vi r_3.C, vi r_3.D, vi x.Exp]) (vs := [vi r_3.A, vi r_3.B, vi r_3.C, vi r_3.D, vi x.Exp]) rfl k_ag_54 k_sz_54_5 (hS8.cf (i := 1) rfl) rfl rfl) (v2 := .bool true) (resAt_tmp rfl) ⟨rfl, (hS8.sN [])⟩

theorem c_impl_NormSquare (x : TDyadic)  (w0 : World)  (hS : ST w0 [] w0 [] []) {r_ : TDyadic} {r_1 : Bool} (hF : F_impl_NormSquare x = some (r_, r_1)) :
  CV Tryz.prog 77 #[gD_ x] w0 (fun v w' => v = .tuple #[gD_ r_, .bool r_1] ∧ ST w0 [] w' [] []) := by
 unfold F_impl_NormSquare at hF
 refine cv_of_cw 19 Tryz.func77 rfl Tryz.ntmps77 rfl ?_
 refine cw_seq (cw_region ?_)
 refine sS 1 (Ys_box (T := 54) (v := gD_ x) (cs := kD_ x) (m := 5) hS rfl rfl rfl rfl) ?_
 rintro _ w_ ⟨b, rfl, hS1⟩
 refine sS 2 (Ys_alloc (T := 54) (cs := kZ_) (m := 5) hS1 k_zero_54 rfl rfl rfl) ?_
 rintro _ w_1 ⟨b1, rfl, hS2⟩
 refine sQ 3 (Y_assign (v := .bool false) rfl rfl) (rw_nil (cw_seq (cw_region ?_)))
 refine sQ 7 (Y_loadA (B := aD b) (i := 0) (cs := kD_ x) (vs := kD_ x) k_ag_54 k_sz_54_5 rfl rfl (hS2.cf (i := 0) rfl) rfl rfl) ?_
 obtain ⟨⟨r_2, r_3⟩, hc, hF⟩ := bind_inv hF
 refine sc 8 rfl rfl (Yc_func (g := 157) (vs := [gD_ x]) k_call_157 rfl (mc rfl mn) (c_impl_ConjDyadic x _  (hS2.inn0 [] rfl) hc)) ?_
 rintro _ w_2 ⟨rfl, hd⟩
 have hS3 := hS2.out00 hd
 refine sQ 6 (Y_move (v := .tuple #[gD_ r_2, .bool r_3]) rfl rfl) ?_
 refine sQ 9 (Y_extract (v := gD_ r_2) rfl rfl rfl) ?_
 refine sQ 10 (Y_extract (v := .bool r_3) rfl rfl rfl) ?_
 refine sS 4 (Ys_alloc (T := 54) (cs := kZ_) (m := 5) hS3 k_zero_54 rfl rfl rfl) ?_
 rintro _ w_3 ⟨b2, rfl, hS4⟩
 refine s0 (Ys_store (i := 2) (s := 5) (B := aD b2) (T' := 54) (v := gD_ r_2) (vs := kD_ r_2) (k := 0) (cs' := kD_ r_2) hS4 k_sz_54_5 rfl rfl rfl rfl rfl rfl rfl (lB rfl) rfl rfl) ?_
 rintro _ w_4 ⟨rfl, hS5⟩
 refine sQ 5 (Y_assign (v := .bool r_3) rfl rfl) (rw_nil (cw_seq (cw_seq (cw_region ?_))))
 refine sQ 11 (Y_move (v := .bool r_3) rfl rfl) ?_
 refine sQ 12 (Y_not (p := r_3) rfl rfl) (rw_nil ?_)
 refine cw_cond (b := (!r_3)) rfl (fun hb => ?_) (fun hb => ?_)
 ·skip
  have hF1 := ct hF hb
  refine cw_seq (cw_region ?_)
  refine sQ 13 (Y_buildS (zs := kZ_) (vs := []) (cs := kZ_) k_pl_54 k_zero_54 rfl mpn rfl) ?_
  refine s0 (Ys_store (i := 1) (s := 5) (B := aD b1) (T' := 54) (v := gZ_) (vs := kZ_) (k := 0) (cs' := kZ_) hS5 k_sz_54_5 rfl rfl rfl rfl rfl rfl rfl (lB rfl) rfl rfl) ?_
  rintro _ w_5 ⟨rfl, hS6⟩
  refine sQ 3 (Y_assign (v := .bool false) rfl rfl) (rw_nil (cw_ret ?_))
  obtain ⟨rfl, rfl⟩ := pr2 (some_inj hF1)
  exact ret2 Tryz.results77 (v1 := gZ_) (resAt_cellA (B := aD b1) (i := 0) (cs := kZ_) (vs := kZ_) rfl k_ag_54 k_sz_54_5 (hS6.cf (i := 1) rfl) rfl rfl) (v2 := .bool false) (resAt_tmp rfl) ⟨rfl, (hS6.sN [])⟩
 ·skip
  have hF2 := cf' hF hb
  refine cw_skip (cw_seq (cw_region ?_))
  refine sQ 14 (Y_loadA (B := aD b) (i := 0) (cs := kD_ x) (vs := kD_ x) k_ag_54 k_sz_54_5 rfl rfl (hS5.cf (i := 0) rfl) rfl rfl) ?_
  refine sQ 15 (Y_loadA (B := aD b2) (i := 0) (cs := kD_ r_2) (vs := kD_ r_2) k_ag_54 k_sz_54_5 rfl rfl (hS5.cf (i := 2) rfl) rfl rfl) ?_
  obtain ⟨⟨r_4, r_5⟩, hc1, hF2⟩ := bind_inv hF2
  refine sc 16 rfl rfl (Yc_func (g := 158) (vs := [gD_ x, gD_ r_2]) k_call_158 rfl (mc rfl (mc rfl mn)) (c_impl_MulDyadic x r_2 _  (hS5.inn0 [] rfl) hc1)) ?_
  rintro _ w_6 ⟨rfl, hd1⟩
  have hS7 := hS5.out00 hd1
  refine sQ 17 (Y_extract (v := gD_ r_4) rfl rfl rfl) ?_
  refine sQ 18 (Y_extract (v := .bool r_5) rfl rfl rfl) ?_
  refine s0 (Ys_store (i := 1) (s := 5) (B := aD b1) (T' := 54) (v := gD_ r_4) (vs := kD_ r_4) (k := 0) (cs' := kD_ r_4) hS7 k_sz_54_5 rfl rfl rfl rfl rfl rfl rfl (lB rfl) rfl rfl) ?_
  rintro _ w_7 ⟨rfl, hS8⟩
  refine sQ 3 (Y_assign (v := .bool r_5) rfl rfl) (rw_nil (cw_ret ?_))
  obtain ⟨rfl, rfl⟩ := pr2 (some_inj hF2)
  exact ret2 Tryz.results77 (v1 := gD_ r_4) (resAt_cellA (B := aD b1) (i := 0) (cs := kD_ r_4) (vs := kD_ r_4) rfl k_ag_54 k_sz_54_5 (hS8.cf (i := 1) rfl) rfl rfl) (v2 := .bool r_5) (resAt_tmp rfl) ⟨rfl, (hS8.sN [])⟩

theorem c_impl_OutcomeWeight (c : TCircuit) (start : Int) (end_ : Int) (B : Option Addr) (c1 n : Nat) (w0 : World) (hn : c.Gates.length = n) (hS : ST w0 [] w0 [] [⟨B, (c.Gates.flatMap enc_Gate)⟩]) {r_ : TDyadic} {r_1 : Bool} (hF : F_impl_OutcomeWeight c start end_ = some (r_, r_1)) :
  CV Tryz.prog 24 #[.agg #[vi c.Qubits, .slice B n c1], vi start, vi end_] w0 (fun v w' => v = .tuple #[gD_ r_, .bool r_1] ∧ ST w0 [] w' [] []) := by
 subst hn
 unfold F_impl_OutcomeWeight at hF
 refine cv_of_cw 35 Tryz.func24 rfl Tryz.ntmps24 rfl ?_
 refine cw_seq (cw_region ?_)
 refine sS 3 (Ys_box (T := 33) (v := .agg #[vi c.Qubits, .slice B c.Gates.length c1]) (cs := [vi c.Qubits, .slice B c.Gates.length c1]) (m := 2) hS rfl rfl rfl rfl) ?_
 rintro _ w_ ⟨b, rfl, hS1⟩
 refine sS 6 (Ys_alloc (T := 54) (cs := kZ_) (m := 5) hS1 k_zero_54 rfl rfl rfl) ?_
 rintro _ w_1 ⟨b1, rfl, hS2⟩
 refine sQ 7 (Y_assign (v := .bool false) rfl rfl) (rw_nil (cw_seq (cw_region ?_)))
 refine sQ 11 (Y_loadA (B := aD b) (i := 0) (cs := [vi c.Qubits, .slice B c.Gates.length c1]) (vs := [vi c.Qubits, .slice B c.Gates.length c1]) k_ag_33 k_sz_33_2 rfl rfl (hS2.cf (i := 0) rfl) rfl rfl) ?_
 refine sQ 12 (Y_move (v := vi start) rfl rfl) ?_
 obtain ⟨⟨r_2, r_3⟩, hc, hF⟩ := bind_inv hF
 refine sc 13 rfl rfl (Yc_func (g := 22) (vs := [.agg #[vi c.Qubits, .slice B c.Gates.length c1], vi start]) k_call_22 rfl (mc rfl (mc rfl mn)) (c_impl_StateAfter c start B c1 c.Gates.length _ rfl (hS2.inn0 [(true, 0)] rfl) hc)) ?_
 rintro _ w_2 ⟨B1, c2, rfl, hd⟩
 have hS3 := hS2.out0 hd
 refine sQ 10 (Y_move (v := .tuple #[gM_ r_2 B1 c2, .bool r_3]) rfl rfl) ?_
 refine sQ 14 (Y_extract (v := gM_ r_2 B1 c2) rfl rfl rfl) ?_
 refine sQ 15 (Y_extract (v := .bool r_3) rfl rfl rfl) ?_
 refine sS 8 (Ys_alloc (T := 37) (cs := kN_) (m := 3) hS3 k_zero_37 rfl rfl rfl) ?_
 rintro _ w_3 ⟨b2, rfl, hS4⟩
 refine s0 (Ys_store (i := 3) (s := 3) (B := aD b2) (T' := 37) (v := gM_ r_2 B1 c2) (vs := kM_ r_2 B1 c2) (k := 0) (cs' := kM_ r_2 B1 c2) hS4 k_sz_37_3 rfl rfl rfl rfl rfl rfl rfl (lB rfl) rfl rfl) ?_
 rintro _ w_4 ⟨rfl, hS5⟩
 refine sQ 9 (Y_assign (v := .bool r_3) rfl rfl) (rw_nil (cw_seq (cw_seq (cw_region ?_))))
 refine sQ 16 (Y_move (v := .bool r_3) rfl rfl) ?_
 refine sQ 17 (Y_not (p := r_3) rfl rfl) ?_
 refine sQ 18 (Y_move (v := .bool (!r_3)) rfl rfl) ?_
 refine sgq 19 (B := (!(!r_3))) (v := vi end_) rfl rfl (uF_ 18) (fun hg => (Y_move (v := vi end_) rfl rfl)) ?_
 refine sgq 20 (B := (!(!r_3))) (v := pt (aD b2) 0) rfl rfl (uF_ 18) (fun hg1 => (Y_fieldAddr (B := aD b2) (i := 0) (s := 0) k_fd_37_0_0_3 k_sz_3_1 rfl rfl)) ?_
 refine sgq 21 (B := (!(!r_3))) (v := vi r_2.Rows) rfl rfl (uF_ 18) (fun hg2 => (Y_load1 (B := aD b2) (i := 0) (cs := kM_ r_2 B1 c2) (v := vi r_2.Rows) k_sc_3 rfl (gv_of (v := pt (aD b2) 0) hg2) (hS5.cf (i := 3) rfl) rfl)) ?_
 refine sgq 22 (B := (!(!r_3))) (v := vi (i64.wrap (r_2.Rows - 1))) rfl rfl (uF_ 18) (fun hg3 => (Y_sub (k := .i64) (a := r_2.Rows) (b := 1) rfl (gv_of (v := vi r_2.Rows) hg3) rfl)) ?_
 obtain ⟨r_4, hc1, hF⟩ := bind_inv hF
 refine sgc 23 (B := (!(!r_3))) (v := .bool r_4) (F := hS5.fn) rfl rfl (uF_ 18) hS5 (fun hg4 => (Yc_func (g := 74) (vs := [vi end_, vi 0, vi (i64.wrap (r_2.Rows - 1))]) k_call_74 rfl (mc (gv_of (v := vi end_) hg4) (mc rfl (mc (gv_of (v := vi (i64.wrap (r_2.Rows - 1))) hg4) mn))) (CV.mono (c_impl_within end_ 0 (i64.wrap (r_2.Rows - 1)) _  (hS5.inn0 [] rfl) (gb_inv hc1 hg4)) (by rintro _ _ ⟨rfl, h⟩; exact ⟨rfl, hS5.out00 h⟩)))) ?_
 rintro w_5 hS6
 refine sgq 24 (B := (!(!r_3))) (v := .bool (!r_4)) rfl rfl (uF_ 18) (fun hg5 => (Y_not (p := r_4) rfl (gv_of (v := .bool r_4) hg5))) ?_
 refine sQ 25 (Y_or (b := (!r_3)) (z := (!r_4)) rfl rfl rfl rfl) (rw_nil ?_)
 refine cw_cond (b := ((!r_3) || (!r_4))) rfl (fun hb => ?_) (fun hb => ?_)
 ·skip
  have hF1 := ct hF hb
  refine cw_seq (cw_region ?_)
  refine sQ 26 (Y_buildS (zs := kZ_) (vs := []) (cs := kZ_) k_pl_54 k_zero_54 rfl mpn rfl) ?_
  refine s0 (Ys_store (i := 1) (s := 5) (B := aD b1) (T' := 54) (v := gZ_) (vs := kZ_) (k := 0) (cs' := kZ_) hS6 k_sz_54_5 rfl rfl rfl rfl rfl rfl rfl (lB rfl) rfl rfl) ?_
  rintro _ w_6 ⟨rfl, hS7⟩
  refine sQ 7 (Y_assign (v := .bool false) rfl rfl) (rw_nil (cw_ret ?_))
  obtain ⟨rfl, rfl⟩ := pr2 (some_inj hF1)
  exact ret2 Tryz.results24 (v1 := gZ_) (resAt_cellA (B := aD b1) (i := 0) (cs := kZ_) (vs := kZ_) rfl k_ag_54 k_sz_54_5 (hS7.cf (i := 1) rfl) rfl rfl) (v2 := .bool false) (resAt_tmp rfl) ⟨rfl, (hS7.sN [])⟩
 ·skip
  have hF2 := cf' hF hb
  refine cw_skip (cw_seq (cw_region ?_))
  refine sQ 27 (Y_fieldAddr (B := aD b2) (i := 0) (s := 0) k_fd_37_2_2_35 k_sz_35_1 rfl rfl) ?_
  refine sQ 28 (Y_load1 (B := aD b2) (i := 2) (cs := kM_ r_2 B1 c2) (v := .slice B1 r_2.Cells.length c2) k_sc_35 rfl rfl (hS6.cf (i := 3) rfl) rfl) ?_
  refine sQ 29 (Y_move (v := vi end_) rfl rfl) ?_
  obtain ⟨x, hx, hF2⟩ := bind_inv hF2
  refine sQ 30 (Y_index (B := B1) (m := r_2.Cells.length) (c := c2) (k := .i64) (i := end_) k_sl_35_54 k_sz_54_5 rfl rfl rfl (gi_isSome eN1 rfl (hS6.cf (i := 2) rfl) hx) (getI_nn hx) (getI_ltI hx rfl)) ?_
  refine sQ 31 (Y_loadA (B := B1) (i := end_.toNat * 5) (cs := (r_2.Cells.flatMap eN0)) (vs := kD_ x) k_ag_54 k_sz_54_5 rfl rfl (hS6.cf (i := 2) rfl) (eN1 x) (gi_seg eN1 hx)) ?_
  obtain ⟨⟨r_5, r_6⟩, hc2, hF2⟩ := bind_inv hF2
  refine sc 32 rfl rfl (Yc_func (g := 77) (vs := [gD_ x]) k_call_77 rfl (mc rfl mn) (c_impl_NormSquare x _  (hS6.inn0 [] rfl) hc2)) ?_
  rintro _ w_7 ⟨rfl, hd1⟩
  have hS8 := hS6.out00 hd1
  refine sQ 33 (Y_extract (v := gD_ r_5) rfl rfl rfl) ?_
  refine sQ 34 (Y_extract (v := .bool r_6) rfl rfl rfl) ?_
  refine s0 (Ys_store (i := 1) (s := 5) (B := aD b1) (T' := 54) (v := gD_ r_5) (vs := kD_ r_5) (k := 0) (cs' := kD_ r_5) hS8 k_sz_54_5 rfl rfl rfl rfl rfl rfl rfl (lB rfl) rfl rfl) ?_
  rintro _ w_8 ⟨rfl, hS9⟩
  refine sQ 7 (Y_assign (v := .bool r_6) rfl rfl) (rw_nil (cw_ret ?_))
  obtain ⟨rfl, rfl⟩ := pr2 (some_inj hF2)
  exact ret2 Tryz.results24 (v1 := gD_ r_5) (resAt_cellA (B := aD b1) (i := 0) (cs := kD_ r_5) (vs := kD_ r_5) rfl k_ag_54 k_sz_54_5 (hS9.cf (i := 1) rfl) rfl rfl) (v2 := .bool r_6) (resAt_tmp rfl) ⟨rfl, (hS9.sN [])⟩

theorem c_spec_l2Good (x : TDyadic)  (w0 : World)  (hS : ST w0 [] w0 [] []) {r_ : Bool} (hF : F_spec_l2Good x = some r_) :
  CV Tryz.prog 78 #[gD_ x] w0 (fun v w' => v = .bool r_ ∧ ST w0 [] w' [] []) := by
 unfold F_spec_l2Good at hF
 refine cv_of_cw 22 Tryz.func78 rfl Tryz.ntmps78 rfl ?_
 refine cw_seq (cw_region ?_)
 refine sS 1 (Ys_box (T := 54) (v := gD_ x) (cs := kD_ x) (m := 5) hS rfl rfl rfl rfl) ?_
 rintro _ w_ ⟨b, rfl, hS1⟩
 refine sQ 2 (Y_assign (v := .bool false) rfl rfl) (rw_nil (cw_seq (cw_region ?_)))
 refine sQ 3 (Y_fieldAddr (B := aD b) (i := 0) (s := 3) k_fd_54_0_0_52 k_sz_52_4 rfl rfl) ?_
 refine sQ 4 (Y_loadA (B := aD b) (i := 0) (cs := kD_ x) (vs := kR_ x.Num) k_ag_52 k_sz_52_4 rfl rfl (hS1.cf (i := 0) rfl) rfl rfl) ?_
 obtain ⟨r_1, hc, hF⟩ := bind_inv hF
 refine sc 5 rfl rfl (Yc_func (g := 86) (vs := [gR_ x.Num]) k_call_86 rfl (mc rfl mn) (c_spec_l1Good x.Num _  (hS1.inn0 [] rfl) hc)) ?_
 rintro _ w_1 ⟨rfl, hd⟩
 have hS2 := hS1.out00 hd
 refine sQ 6 (Y_move (v := .bool r_1) rfl rfl) ?_
 refine sgq 7 (B := r_1) (v := pt (aD b) 4) rfl rfl (uT_ 6) (fun hg => (Y_fieldAddr (B := aD b) (i := 0) (s := 0) k_fd_54_1_4_3 k_sz_3_1 rfl rfl)) ?_
 refine sgq 8 (B := r_1) (v := vi x.Exp) rfl rfl (uT_ 6) (fun hg1 => (Y_load1 (B := aD b) (i := 4) (cs := kD_ x) (v := vi x.Exp) k_sc_3 rfl (gv_of (v := pt (aD b) 4) hg1) (hS2.cf (i := 0) rfl) rfl)) ?_
 obtain ⟨r_2, hc1, hF⟩ := bind_inv hF
 refine sgc 9 (B := r_1) (v := .bool r_2) (F := hS2.fn) rfl rfl (uT_ 6) hS2 (fun hg2 => (Yc_func (g := 51) (vs := [vi x.Exp, vi 0, vi 60]) k_call_51 rfl (mc (gv_of (v := vi x.Exp) hg2) (mc rfl (mc rfl mn))) (CV.mono (c_spec_l1In x.Exp 0 60 _  (hS2.inn0 [] rfl) (gb_inv hc1 hg2)) (by rintro _ _ ⟨rfl, h⟩; exact ⟨rfl, hS2.out00 h⟩)))) ?_
 rintro w_2 hS3
 refine sQ 10 (Y_and (b := r_1) (z := r_2) rfl rfl rfl rfl) ?_
 refine sQ 11 (Y_move (v := .bool (r_1 && r_2)) rfl rfl) ?_
 refine sgq 12 (B := (r_1 && r_2)) (v := pt (aD b) 4) rfl rfl (uT_ 11) (fun hg3 => (Y_fieldAddr (B := aD b) (i := 0) (s := 0) k_fd_54_1_4_3 k_sz_3_1 rfl rfl)) ?_
 refine sgq 13 (B := (r_1 && r_2)) (v := vi x.Exp) rfl rfl (uT_ 11) (fun hg4 => (Y_load1 (B := aD b) (i := 4) (cs := kD_ x) (v := vi x.Exp) k_sc_3 rfl (gv_of (v := pt (aD b) 4) hg4) (hS3.cf (i := 0) rfl) rfl)) ?_
 refine sgq 14 (B := (r_1 && r_2)) (v := .bool (x.Exp == 0)) rfl rfl (uT_ 11) (fun hg5 => (Y_eq (k := .i64) (a := x.Exp) (b := 0) rfl (gv_of (v := vi x.Exp) hg5) rfl)) ?_
 refine sgq 15 (B := (r_1 && r_2)) (v := .bool (x.Exp == 0)) rfl rfl (uT_ 11) (fun hg6 => (Y_move (v := .bool (x.Exp == 0)) rfl (gv_of (v := .bool (x.Exp == 0)) hg6))) ?_
 refine sgq 16 (B := ((r_1 && r_2) && (!(x.Exp == 0)))) (v := pt (aD b) 0) rfl rfl (wt_gf (gd_of (t := 15) (by kernel_rfl) rfl)) (fun hg7 => (Y_fieldAddr (B := aD b) (i := 0) (s := 3) k_fd_54_0_0_52 k_sz_52_4 rfl rfl)) ?_
 refine sgq 17 (B := ((r_1 && r_2) && (!(x.Exp == 0)))) (v := gR_ x.Num) rfl rfl (wt_gf (gd_of (t := 15) (by kernel_rfl) rfl)) (fun hg8 => (Y_loadA (B := aD b) (i := 0) (cs := kD_ x) (vs := kR_ x.Num) k_ag_52 k_sz_52_4 rfl (gv_of (v := pt (aD b) 0) hg8) (hS3.cf (i := 0) rfl) rfl rfl)) ?_
 obtain ⟨r_3, hc2, hF⟩ := bind_inv hF
 refine sgc 18 (B := ((r_1 && r_2) && (!(x.Exp == 0)))) (v := .bool r_3) (F := hS3.fn) rfl rfl (wt_gf (gd_of (t := 15) (by kernel_rfl) rfl)) hS3 (fun hg9 => (Yc_func (g := 159) (vs := [gR_ x.Num]) k_call_159 rfl (mc (gv_of (v := gR_ x.Num) hg9) mn) (CV.mono (c_spec_l1Even x.Num _  (hS3.inn0 [] rfl) (gb_inv hc2 hg9)) (by rintro _ _ ⟨rfl, h⟩; exact ⟨rfl, hS3.out00 h⟩)))) ?_
 rintro w_3 hS4
 refine sgq 19 (B := ((r_1 && r_2) && (!(x.Exp == 0)))) (v := .bool (!r_3)) rfl rfl (wt_gf (gd_of (t := 15) (by kernel_rfl) rfl)) (fun hg10 => (Y_not (p := r_3) rfl (gv_of (v := .bool r_3) hg10))) ?_
 refine sgq 20 (B := (r_1 && r_2)) (v := .bool ((x.Exp == 0) || (!r_3))) rfl rfl (uT_ 11) (fun hg11 => (Y_or (b := (x.Exp == 0)) (z := (!r_3)) rfl (gv_of (v := .bool (x.Exp == 0)) hg11) rfl (gv_and (B := (r_1 && r_2)) (C := (!(x.Exp == 0))) (v := .bool (!r_3)) hg11))) ?_
 refine sQ 21 (Y_and (b := (r_1 && r_2)) (z := ((x.Exp == 0) || (!r_3))) rfl rfl rfl rfl) ?_
 refine sQ 2 (Y_assign (v := .bool ((r_1 && r_2) && ((x.Exp == 0) || (!r_3)))) rfl rfl) (rw_nil (cw_ret ?_))
 obtain rfl := some_inj hF
 exact ret1 Tryz.results78 (v1 := .bool ((r_1 && r_2) && ((x.Exp == 0) || (!r_3)))) (resAt_tmp rfl) ⟨rfl, (hS4.sN [])⟩

theorem c_spec_l2C_out (c : Tl2C) (x : TDyadic) (B : Option Addr) (w0 : World)  (hS : ST w0 [] w0 [] [⟨B, [.bool c.bad]⟩]) {r_ : TDyadic} {r_1 : Bool} (hF : F_spec_l2C_out c x = some (r_, r_1)) :
  CV Tryz.prog 79 #[pt B 0, gD_ x] w0 (fun v w' => v = .tuple #[gD_ r_, .bool r_1] ∧ ST w0 [] w' [] []) := by
 unfold F_spec_l2C_out at hF
 refine cv_of_cw 12 Tryz.func79 rfl Tryz.ntmps79 rfl ?_
 refine cw_seq (cw_region ?_)
 refine sS 3 (Ys_box (T := 54) (v := gD_ x) (cs := kD_ x) (m := 5) hS rfl rfl rfl rfl) ?_
 rintro _ w_ ⟨b, rfl, hS1⟩
 refine sS 4 (Ys_alloc (T := 54) (cs := kZ_) (m := 5) hS1 k_zero_54 rfl rfl rfl) ?_
 rintro _ w_1 ⟨b1, rfl, hS2⟩
 refine sQ 5 (Y_assign (v := .bool false) rfl rfl) (rw_nil (cw_seq (cw_seq (cw_region ?_))))
 refine sQ 6 (Y_move (v := pt B 0) rfl rfl) ?_
 refine sQ 7 (Y_nilCheck (B := B) (i := 0) rfl rfl) ?_
 refine sQ 8 (Y_fieldAddr (B := B) (i := 0) (s := 0) k_fd_98_0_0_4 k_sz_4_1 rfl rfl) ?_
 refine sQ 9 (Y_load1 (B := B) (i := 0) (cs := [.bool c.bad]) (v := .bool c.bad) k_sc_4 rfl rfl (hS2.rf (i := 0) rfl) rfl) (rw_nil ?_)
 refine cw_cond (b := c.bad) rfl (fun hb => ?_) (fun hb => ?_)
 ·skip
  have hF1 := ct hF hb
  refine cw_seq (cw_region ?_)
  refine sQ 10 (Y_buildS (zs := kZ_) (vs := []) (cs := kZ_) k_pl_54 k_zero_54 rfl mpn rfl) ?_
  refine s0 (Ys_store (i := 1) (s := 5) (B := aD b1) (T' := 54) (v := gZ_) (vs := kZ_) (k := 0) (cs' := kZ_) hS2 k_sz_54_5 rfl rfl rfl rfl rfl rfl rfl (lB rfl) rfl rfl) ?_
  rintro _ w_2 ⟨rfl, hS3⟩
  refine sQ 5 (Y_assign (v := .bool false) rfl rfl) (rw_nil (cw_ret ?_))
  obtain ⟨rfl, rfl⟩ := pr2 (some_inj hF1)
  exact ret2 Tryz.results79 (v1 := gZ_) (resAt_cellA (B := aD b1) (i := 0) (cs := kZ_) (vs := kZ_) rfl k_ag_54 k_sz_54_5 (hS3.cf (i := 1) rfl) rfl rfl) (v2 := .bool false) (resAt_tmp rfl) ⟨rfl, (hS3.sN [])⟩
 ·skip
  have hF2 := cf' hF hb
  refine cw_skip (cw_seq (cw_region ?_))
  refine sQ 11 (Y_loadA (B := aD b) (i := 0) (cs := kD_ x) (vs := kD_ x) k_ag_54 k_sz_54_5 rfl rfl (hS2.cf (i := 0) rfl) rfl rfl) ?_
  refine s0 (Ys_store (i := 1) (s := 5) (B := aD b1) (T' := 54) (v := gD_ x) (vs := kD_ x) (k := 0) (cs' := kD_ x) hS2 k_sz_54_5 rfl rfl rfl rfl rfl rfl rfl (lB rfl) rfl rfl) ?_
  rintro _ w_3 ⟨rfl, hS4⟩
  refine sQ 5 (Y_assign (v := .bool true) rfl rfl) (rw_nil (cw_ret ?_))
  obtain ⟨rfl, rfl⟩ := pr2 (some_inj hF2)
  exact ret2 Tryz.results79 (v1 := gD_ x) (resAt_cellA (B := aD b1) (i := 0) (cs := kD_ x) (vs := kD_ x) rfl k_ag_54 k_sz_54_5 (hS4.cf (i := 1) rfl) rfl rfl) (v2 := .bool true) (resAt_tmp rfl) ⟨rfl, (hS4.sN [])⟩

theorem c_spec_AddDyadic (x : TDyadic) (y : TDyadic)  (w0 : World)  (hS : ST w0 [] w0 [] []) {r_ : TDyadic} {r_1 : Bool} (hF : F_spec_AddDyadic x y = some (r_, r_1)) :
  CV Tryz.prog 25 #[gD_ x, gD_ y] w0 (fun v w' => v = .tuple #[gD_ r_, .bool r_1] ∧ ST w0 [] w' [] []) := by
 unfold F_spec_AddDyadic at hF
 refine cv_of_cw 26 Tryz.func25 rfl Tryz.ntmps25 rfl ?_
 refine cw_seq (cw_region ?_)
 refine sS 2 (Ys_box (T := 54) (v := gD_ x) (cs := kD_ x) (m := 5) hS rfl rfl rfl rfl) ?_
 rintro _ w_ ⟨b, rfl, hS1⟩
 refine sS 3 (Ys_box (T := 54) (v := gD_ y) (cs := kD_ y) (m := 5) hS1 rfl rfl rfl rfl) ?_
 rintro _ w_1 ⟨b1, rfl, hS2⟩
 refine sS 4 (Ys_alloc (T := 54) (cs := kZ_) (m := 5) hS2 k_zero_54 rfl rfl rfl) ?_
 rintro _ w_2 ⟨b2, rfl, hS3⟩
 refine sQ 5 (Y_assign (v := .bool false) rfl rfl) (rw_nil (cw_seq (cw_seq (cw_region ?_))))
 refine sQ 7 (Y_loadA (B := aD b) (i := 0) (cs := kD_ x) (vs := kD_ x) k_ag_54 k_sz_54_5 rfl rfl (hS3.cf (i := 0) rfl) rfl rfl) ?_
 obtain ⟨r_2, hc, hF⟩ := bind_inv hF
 refine sc 8 rfl rfl (Yc_func (g := 78) (vs := [gD_ x]) k_call_78 rfl (mc rfl mn) (c_spec_l2Good x _  (hS3.inn0 [] rfl) hc)) ?_
 rintro _ w_3 ⟨rfl, hd⟩
 have hS4 := hS3.out00 hd
 refine sQ 9 (Y_not (p := r_2) rfl rfl) ?_
 refine sQ 10 (Y_move (v := .bool (!r_2)) rfl rfl) ?_
 refine sgq 11 (B := (!(!r_2))) (v := gD_ y) rfl rfl (uF_ 10) (fun hg => (Y_loadA (B := aD b1) (i := 0) (cs := kD_ y) (vs := kD_ y) k_ag_54 k_sz_54_5 rfl rfl (hS4.cf (i := 1) rfl) rfl rfl)) ?_
 obtain ⟨r_3, hc1, hF⟩ := bind_inv hF
 refine sgc 12 (B := (!(!r_2))) (v := .bool r_3) (F := hS4.fn) rfl rfl (uF_ 10) hS4 (fun hg1 => (Yc_func (g := 78) (vs := [gD_ y]) k_call_78 rfl (mc (gv_of (v := gD_ y) hg1) mn) (CV.mono (c_spec_l2Good y _  (hS4.inn0 [] rfl) (gb_inv hc1 hg1)) (by rintro _ _ ⟨rfl, h⟩; exact ⟨rfl, hS4.out00 h⟩)))) ?_
 rintro w_4 hS5
 refine sgq 13 (B := (!(!r_2))) (v := .bool (!r_3)) rfl rfl (uF_ 10) (fun hg2 => (Y_not (p := r_3) rfl (gv_of (v := .bool r_3) hg2))) ?_
 refine sQ 14 (Y_or (b := (!r_2)) (z := (!r_3)) rfl rfl rfl rfl) (rw_nil ?_)
 refine cw_cond (b := ((!r_2) || (!r_3))) rfl (fun hb => ?_) (fun hb => ?_)
 ·skip
  have hF1 := ct hF hb
  refine cw_seq (cw_region ?_)
  refine sQ 15 (Y_buildS (zs := kZ_) (vs := []) (cs := kZ_) k_pl_54 k_zero_54 rfl mpn rfl) ?_
  refine s0 (Ys_store (i := 2) (s := 5) (B := aD b2) (T' := 54) (v := gZ_) (vs := kZ_) (k := 0) (cs' := kZ_) hS5 k_sz_54_5 rfl rfl rfl rfl rfl rfl rfl (lB rfl) rfl rfl) ?_
  rintro _ w_5 ⟨rfl, hS6⟩
  refine sQ 5 (Y_assign (v := .bool false) rfl rfl) (rw_nil (cw_ret ?_))
  obtain ⟨rfl, rfl⟩ := pr2 (some_inj hF1)
  exact ret2 Tryz.results25 (v1 := gZ_) (resAt_cellA (B := aD b2) (i := 0) (cs := kZ_) (vs := kZ_) rfl k_ag_54 k_sz_54_5 (hS6.cf (i := 2) rfl) rfl rfl) (v2 := .bool false) (resAt_tmp rfl) ⟨rfl, (hS6.sN [])⟩
 ·skip
  have hF2 := cf' hF hb
  refine cw_skip (cw_seq (cw_region ?_))
  refine sQ 16 (Y_buildS (zs := [.bool false]) (vs := []) (cs := [.bool false]) k_pl_98 k_zero_98 rfl mpn rfl) ?_
  refine sS 17 (Ys_box (T := 98) (v := .agg #[.bool false]) (cs := [.bool false]) (m := 1) hS5 rfl rfl rfl rfl) ?_
  rintro _ w_6 ⟨b3, rfl, hS7⟩
  refine sQ 6 (Y_assign (v := pt (aD b3) 0) rfl rfl) (rw_nil (cw_seq (cw_region ?_)))
  refine sQ 18 (Y_move (v := pt (aD b3) 0) rfl rfl) ?_
  refine sQ 19 (Y_move (v := pt (aD b3) 0) rfl rfl) ?_
  refine sQ 20 (Y_loadA (B := aD b) (i := 0) (cs := kD_ x) (vs := kD_ x) k_ag_54 k_sz_54_5 rfl rfl (hS7.cf (i := 0) rfl) rfl rfl) ?_
  refine sQ 21 (Y_loadA (B := aD b1) (i := 0) (cs := kD_ y) (vs := kD_ y) k_ag_54 k_sz_54_5 rfl rfl (hS7.cf (i := 1) rfl) rfl rfl) ?_
  obtain ⟨⟨r_4, m⟩, hc2, hF2⟩ := bind_inv hF2
  refine sc 22 rfl rfl (Yc_func (g := 80) (vs := [pt (aD b3) 0, gD_ x, gD_ y]) k_call_80 rfl (mc rfl (mc rfl (mc rfl mn))) (c_spec_l2C_add (Tl2C.mk false) x y (aD b3) _  (hS7.inn [false, false, false, true] rfl [] rfl) hc2)) ?_
  rintro _ w_7 ⟨rfl, hd1⟩
  have hS8 := hS7.out [false, false, false, true] rfl hd1
  obtain ⟨⟨r_5, r_6⟩, hc3, hF2⟩ := bind_inv hF2
  refine sc 23 rfl rfl (Yc_func (g := 79) (vs := [pt (aD b3) 0, gD_ r_4]) k_call_79 rfl (mc rfl (mc rfl mn)) (c_spec_l2C_out m r_4 (aD b3) _  (hS8.inn0 [(false, 3)] rfl) hc3)) ?_
  rintro _ w_8 ⟨rfl, hd2⟩
  have hS9 := hS8.out00 hd2
  refine sQ 24 (Y_extract (v := gD_ r_5) rfl rfl rfl) ?_
  refine sQ 25 (Y_extract (v := .bool r_6) rfl rfl rfl) ?_
  refine s0 (Ys_store (i := 2) (s := 5) (B := aD b2) (T' := 54) (v := gD_ r_5) (vs := kD_ r_5) (k := 0) (cs' := kD_ r_5) hS9 k_sz_54_5 rfl rfl rfl rfl rfl rfl rfl (lB rfl) rfl rfl) ?_
  rintro _ w_9 ⟨rfl, hS10⟩
  refine sQ 5 (Y_assign (v := .bool r_6) rfl rfl) (rw_nil (cw_ret ?_))
  obtain ⟨rfl, rfl⟩ := pr2 (some_inj hF2)
  exact ret2 Tryz.results25 (v1 := gD_ r_5) (resAt_cellA (B := aD b2) (i := 0) (cs := kD_ r_5) (vs := kD_ r_5) rfl k_ag_54 k_sz_54_5 (hS10.cf (i := 2) rfl) rfl rfl) (v2 := .bool r_6) (resAt_tmp rfl) ⟨rfl, (hS10.sN [])⟩

theorem c_spec_l1Has (l : List Int) (n1 : Int) (B : Option Addr) (c n : Nat) (w0 : World) (hn : l.length = n) (hS : ST w0 [] w0 [] [⟨B, (l.flatMap encI)⟩]) {r_ : Bool} (hF : F_spec_l1Has l n1 = some r_) :
  CV Tryz.prog 124 #[.slice B n c, vi n1] w0 (fun v w' => v = .bool r_ ∧ ST w0 [] w' [] []) := by
 subst hn
 unfold F_spec_l1Has at hF
 refine cv_of_cw 17 Tryz.func124 rfl Tryz.ntmps124 rfl ?_
 refine cw_seq (cw_region ?_)
 refine sQ 4 (Y_assign (v := .bool false) rfl rfl) (rw_nil (cw_seq (cw_seq (cw_region ?_))))
 refine sQ 7 (Y_move (v := .slice B l.length c) rfl rfl) ?_
 refine sQ 8 (Y_len (B := B) (m := l.length) (c := c) k_sl_66_3 rfl rfl) ?_
 refine sQ 9 (Y_move (v := vi 0) rfl rfl) (rw_nil ?_)
 obtain ⟨hN, hF⟩ := chk_inv hF
 obtain ⟨z, hz, hF1⟩ := bind_inv hF
 refine cw_block ?_
 refine cw_loop (fun k f w => ∃ (i : Nat), FF f [(1, vi n1), (7, .slice B l.length c), (8, vi (l.length : Int)), (9, vi (i : Int))] ∧ ST w0 [] w [] [⟨B, (l.flatMap encI)⟩] ∧ i + k = l.length ∧ forX (F_spec_l1Has_l1 l n1) k i () = some z) l.length ⟨0, (FF.cons rfl (FF.cons rfl (FF.cons rfl (FF.cons rfl FF.nil)))), (hS.sel [] rfl rfl), Nat.zero_add _, hz⟩ ?_
 rintro k_ f w ⟨i, hf, hS1, hik, hL⟩
 refine cw_seq (cw_region ?_)
 refine sQ 10 (Y_lt (k := .i64) (a := (i : Int)) (b := (l.length : Int)) rfl (hf.get 9 3 rfl) (hf.get 8 2 rfl)) (rw_nil (cw_seq ?_))
 refine cw_cond (b := (decide ((i : Int) < (l.length : Int)))) rfl (fun hlt => ?_) (fun hlt => ?_)
 ·skip
  have hlt1 : i < l.length := by have h := of_decide_eq_true hlt; omega
  obtain ⟨k_1, rfl⟩ : ∃ k2, k_ = k2 + 1 := ⟨k_ - 1, by omega⟩
  obtain ⟨y, hb, hL1⟩ := forX_go hL
  unfold F_spec_l1Has_l1 at hb
  refine cw_skip (cw_seq (cw_block (cw_seq (cw_region ?_))))
  obtain ⟨x, hx, hb⟩ := bind_inv hb
  refine sQ 11 (Y_index (B := B) (m := l.length) (c := c) (k := .i64) (i := (i : Int)) k_sl_66_3 k_sz_3_1 rfl (hf.get 7 1 rfl) (hf.get 9 3 rfl) (gi_isSome encI_len rfl (hS1.rf (i := 0) rfl) hx) (getI_nn hx) (getI_ltI hx rfl)) ?_
  refine sQ 12 (Y_load1 (B := B) (i := (i : Int).toNat * 1) (cs := (l.flatMap encI)) (v := vi x) k_sc_3 rfl rfl (hS1.rf (i := 0) rfl) (gi_at0 encI_len hx rfl)) ?_
  refine sQ 6 (Y_assign (v := vi x) rfl rfl) (rw_nil (cw_seq (cw_region ?_)))
  refine sQ 13 (Y_move (v := vi x) rfl rfl) ?_
  refine sQ 14 (Y_move (v := vi n1) rfl (hf.get 1 0 rfl)) ?_
  refine sQ 15 (Y_eq (k := .i64) (a := x) (b := n1) rfl rfl rfl) (rw_nil ?_)
  refine cw_cond (b := (x == n1)) rfl (fun hb1 => ?_) (fun hb1 => ?_)
  ·skip
   have hF2 := ct hb hb1
   refine cw_seq (cw_region ?_)
   refine sQ 4 (Y_assign (v := .bool true) rfl rfl) (rw_nil (cw_ret ?_))
   obtain rfl := some_inj hF2
   obtain rfl := some_inj hL1
   obtain rfl := some_inj hF1
   exact ret1 Tryz.results124 (v1 := .bool true) (resAt_tmp rfl) ⟨rfl, (hS1.sN [])⟩
  ·skip
   have hF3 := cf' hb hb1
   refine cw_skip (cw_region ?_)
   refine sQ 16 (Y_add (k := .i64) (a := (i : Int)) (b := 1) rfl (hf.get 9 3 rfl) rfl) ?_
   refine sQ 9 (Y_move (v := vi (i64.wrap ((i : Int) + 1))) rfl rfl) (rw_nil ?_)
   obtain rfl := some_inj hF3
   exact ⟨k_1, Nat.lt_succ_self _, i + 1, (FF.cons (hf.get 1 0 rfl) (FF.cons (hf.get 7 1 rfl) (FF.cons (hf.get 8 2 rfl) (FF.cons (congrArg (Value.int .i64) (wr_succ hlt1 hN)) FF.nil)))), (hS1.sel [] rfl rfl), (by omega), hL1⟩
 ·skip
  obtain rfl : k_ = 0 := by have h := of_decide_eq_false hlt; omega
  refine cw_exit rfl ?_
  obtain rfl := some_inj hL
  refine cw_seq (cw_region ?_)
  refine sQ 4 (Y_assign (v := .bool false) rfl rfl) (rw_nil (cw_ret ?_))
  obtain rfl := some_inj hF1
  exact ret1 Tryz.results124 (v1 := .bool false) (resAt_tmp rfl) ⟨rfl, (hS1.sN [])⟩

theorem c_spec_l3Dim (n : Int)  (w0 : World)  (hS : ST w0 [] w0 [] []) {r_ : Bool} (hF : F_spec_l3Dim n = some r_) :
  CV Tryz.prog 149 #[vi n] w0 (fun v w' => v = .bool r_ ∧ ST w0 [] w' [] []) := by
 unfold F_spec_l3Dim at hF
 refine cv_of_cw 6 Tryz.func149 rfl Tryz.ntmps149 rfl ?_
 refine cw_seq (cw_region ?_)
 refine sQ 2 (Y_assign (v := .bool false) rfl rfl) (rw_nil (cw_seq (cw_region ?_)))
 refine sS 3 (Ys_bslice (s := 1) (len := 6) (vs := [(0, vi 1), (1, vi 2), (2, vi 4), (3, vi 8), (4, vi 16), (5, vi 32)]) (cs := [vi 1, vi 2, vi 4, vi 8, vi 16, vi 32]) (zs := [vi 0, vi 0, vi 0, vi 0, vi 0, vi 0]) (m := 6) hS k_sl_66_3 k_sz_3_1 k_zc_3 rfl (mpc rfl (mpc rfl (mpc rfl (mpc rfl (mpc rfl (mpc rfl mpn)))))) rfl rfl rfl (by kernel_rfl) (by kernel_rfl) rfl) ?_
 rintro _ w_ ⟨b, rfl, hS1⟩
 refine sQ 4 (Y_move (v := vi n) rfl rfl) ?_
 obtain ⟨r_1, hc, hF⟩ := bind_inv hF
 refine sc 5 rfl rfl (Yc_func (g := 124) (vs := [.slice (aD b) 6 6, vi n]) k_call_124 rfl (mc rfl (mc rfl mn)) (c_spec_l1Has [1, 2, 4, 8, 16, 32] n (aD b) 6 6 _ rfl (hS1.inn0 [(false, 0)] rfl) hc)) ?_
 rintro _ w_1 ⟨rfl, hd⟩
 have hS2 := hS1.out00 hd
 refine sQ 2 (Y_assign (v := .bool r_1) rfl rfl) (rw_nil (cw_ret ?_))
 obtain rfl := some_inj hF
 exact ret1 Tryz.results149 (v1 := .bool r_1) (resAt_tmp rfl) ⟨rfl, (hS2.sN [])⟩

theorem c_spec_l3Good (m : TMatrix) (B : Option Addr) (c n : Nat) (w0 : World) (hn : m.Cells.length = n) (hS : ST w0 [] w0 [] [⟨B, (m.Cells.flatMap eN0)⟩]) {r_ : Bool} (hF : F_spec_l3Good m = some r_) :
  CV Tryz.prog 64 #[.agg #[vi m.Rows, vi m.Cols, .slice B n c]] w0 (fun v w' => v = .bool r_ ∧ ST w0 [] w' [] []) := by
 subst hn
 unfold F_spec_l3Good at hF
 refine cv_of_cw 37 Tryz.func64 rfl Tryz.ntmps64 rfl ?_
 refine cw_seq (cw_region ?_)
 refine sS 1 (Ys_box (T := 37) (v := gM_ m B c) (cs := kM_ m B c) (m := 3) hS rfl rfl rfl rfl) ?_
 rintro _ w_ ⟨b, rfl, hS1⟩
 refine sQ 2 (Y_assign (v := .bool false) rfl rfl) (rw_nil (cw_seq (cw_seq (cw_region ?_))))
 refine sQ 5 (Y_fieldAddr (B := aD b) (i := 0) (s := 0) k_fd_37_0_0_3 k_sz_3_1 rfl rfl) ?_
 refine sQ 6 (Y_load1 (B := aD b) (i := 0) (cs := kM_ m B c) (v := vi m.Rows) k_sc_3 rfl rfl (hS1.cf (i := 0) rfl) rfl) ?_
 obtain ⟨r_1, hc, hF⟩ := bind_inv hF
 refine sc 7 rfl rfl (Yc_func (g := 149) (vs := [vi m.Rows]) k_call_149 rfl (mc rfl mn) (c_spec_l3Dim m.Rows _  (hS1.inn0 [] rfl) hc)) ?_
 rintro _ w_1 ⟨rfl, hd⟩
 have hS2 := hS1.out00 hd
 refine sQ 8 (Y_not (p := r_1) rfl rfl) ?_
 refine sQ 9 (Y_move (v := .bool (!r_1)) rfl rfl) ?_
 refine sgq 10 (B := (!(!r_1))) (v := pt (aD b) 1) rfl rfl (uF_ 9) (fun hg => (Y_fieldAddr (B := aD b) (i := 0) (s := 0) k_fd_37_1_1_3 k_sz_3_1 rfl rfl)) ?_
 refine sgq 11 (B := (!(!r_1))) (v := vi m.Cols) rfl rfl (uF_ 9) (fun hg1 => (Y_load1 (B := aD b) (i := 1) (cs := kM_ m B c) (v := vi m.Cols) k_sc_3 rfl (gv_of (v := pt (aD b) 1) hg1) (hS2.cf (i := 0) rfl) rfl)) ?_
 obtain ⟨r_2, hc1, hF⟩ := bind_inv hF
 refine sgc 12 (B := (!(!r_1))) (v := .bool r_2) (F := hS2.fn) rfl rfl (uF_ 9) hS2 (fun hg2 => (Yc_func (g := 149) (vs := [vi m.Cols]) k_call_149 rfl (mc (gv_of (v := vi m.Cols) hg2) mn) (CV.mono (c_spec_l3Dim m.Cols _  (hS2.inn0 [] rfl) (gb_inv hc1 hg2)) (by rintro _ _ ⟨rfl, h⟩; exact ⟨rfl, hS2.out00 h⟩)))) ?_
 rintro w_2 hS3
 refine sgq 13 (B := (!(!r_1))) (v := .bool (!r_2)) rfl rfl (uF_ 9) (fun hg3 => (Y_not (p := r_2) rfl (gv_of (v := .bool r_2) hg3))) ?_
 refine sQ 14 (Y_or (b := (!r_1)) (z := (!r_2)) rfl rfl rfl rfl) ?_
 refine sQ 15 (Y_move (v := .bool ((!r_1) || (!r_2))) rfl rfl) ?_
 refine sgq 16 (B := (!((!r_1) || (!r_2)))) (v := pt (aD b) 2) rfl rfl (uF_ 15) (fun hg4 => (Y_fieldAddr (B := aD b) (i := 0) (s := 0) k_fd_37_2_2_35 k_sz_35_1 rfl rfl)) ?_
 refine sgq 17 (B := (!((!r_1) || (!r_2)))) (v := .slice B m.Cells.length c) rfl rfl (uF_ 15) (fun hg5 => (Y_load1 (B := aD b) (i := 2) (cs := kM_ m B c) (v := .slice B m.Cells.length c) k_sc_35 rfl (gv_of (v := pt (aD b) 2) hg5) (hS3.cf (i := 0) rfl) rfl)) ?_
 refine sgq 18 (B := (!((!r_1) || (!r_2)))) (v := vi (m.Cells.length : Int)) rfl rfl (uF_ 15) (fun hg6 => (Y_len (B := B) (m := m.Cells.length) (c := c) k_sl_35_54 rfl (gv_of (v := .slice B m.Cells.length c) hg6))) ?_
 refine sgq 19 (B := (!((!r_1) || (!r_2)))) (v := pt (aD b) 0) rfl rfl (uF_ 15) (fun hg7 => (Y_fieldAddr (B := aD b) (i := 0) (s := 0) k_fd_37_0_0_3 k_sz_3_1 rfl rfl)) ?_
 refine sgq 20 (B := (!((!r_1) || (!r_2)))) (v := vi m.Rows) rfl rfl (uF_ 15) (fun hg8 => (Y_load1 (B := aD b) (i := 0) (cs := kM_ m B c) (v := vi m.Rows) k_sc_3 rfl (gv_of (v := pt (aD b) 0) hg8) (hS3.cf (i := 0) rfl) rfl)) ?_
 refine sgq 21 (B := (!((!r_1) || (!r_2)))) (v := pt (aD b) 1) rfl rfl (uF_ 15) (fun hg9 => (Y_fieldAddr (B := aD b) (i := 0) (s := 0) k_fd_37_1_1_3 k_sz_3_1 rfl rfl)) ?_
 refine sgq 22 (B := (!((!r_1) || (!r_2)))) (v := vi m.Cols) rfl rfl (uF_ 15) (fun hg10 => (Y_load1 (B := aD b) (i := 1) (cs := kM_ m B c) (v := vi m.Cols) k_sc_3 rfl (gv_of (v := pt (aD b) 1) hg10) (hS3.cf (i := 0) rfl) rfl)) ?_
 refine sgq 23 (B := (!((!r_1) || (!r_2)))) (v := vi (i64.wrap (m.Rows * m.Cols))) rfl rfl (uF_ 15) (fun hg11 => (Y_mul (k := .i64) (a := m.Rows) (b := m.Cols) rfl (gv_of (v := vi m.Rows) hg11) (gv_of (v := vi m.Cols) hg11))) ?_
 refine sgq 24 (B := (!((!r_1) || (!r_2)))) (v := .bool ((m.Cells.length : Int) != (i64.wrap (m.Rows * m.Cols)))) rfl rfl (uF_ 15) (fun hg12 => (Y_ne (k := .i64) (a := (m.Cells.length : Int)) (b := (i64.wrap (m.Rows * m.Cols))) rfl (gv_of (v := vi (m.Cells.length : Int)) hg12) (gv_of (v := vi (i64.wrap (m.Rows * m.Cols))) hg12))) ?_
 refine sQ 25 (Y_or (b := ((!r_1) || (!r_2))) (z := ((m.Cells.length : Int) != (i64.wrap (m.Rows * m.Cols)))) rfl rfl rfl rfl) (rw_nil ?_)
 refine cw_cond (b := (((!r_1) || (!r_2)) || ((m.Cells.length : Int) != (i64.wrap (m.Rows * m.Cols))))) rfl (fun hb => ?_) (fun hb => ?_)
 ·skip
  have hF1 := ct hF hb
  refine cw_seq (cw_region ?_)
  refine sQ 2 (Y_assign (v := .bool false) rfl rfl) (rw_nil (cw_ret ?_))
  obtain rfl := some_inj hF1
  exact ret1 Tryz.results64 (v1 := .bool false) (resAt_tmp rfl) ⟨rfl, (hS3.sN [])⟩
 ·skip
  have hF2 := cf' hF hb
  refine cw_skip (cw_seq (cw_seq (cw_region ?_)))
  refine sQ 26 (Y_fieldAddr (B := aD b) (i := 0) (s := 0) k_fd_37_2_2_35 k_sz_35_1 rfl rfl) ?_
  refine sQ 27 (Y_load1 (B := aD b) (i := 2) (cs := kM_ m B c) (v := .slice B m.Cells.length c) k_sc_35 rfl rfl (hS3.cf (i := 0) rfl) rfl) ?_
  refine sQ 28 (Y_len (B := B) (m := m.Cells.length) (c := c) k_sl_35_54 rfl rfl) ?_
  refine sQ 29 (Y_move (v := vi 0) rfl rfl) (rw_nil ?_)
  obtain ⟨hN, hF2⟩ := chk_inv hF2
  obtain ⟨z, hz, hF3⟩ := bind_inv hF2
  refine cw_block ?_
  refine cw_loop (fun k f w => ∃ (i : Nat), FF f [(27, .slice B m.Cells.length c), (28, vi (m.Cells.length : Int)), (29, vi (i : Int))] ∧ ST w0 [] w [] [⟨B, (m.Cells.flatMap eN0)⟩] ∧ i + k = m.Cells.length ∧ forX (F_spec_l3Good_l1 m) k i () = some z) m.Cells.length ⟨0, (FF.cons rfl (FF.cons rfl (FF.cons rfl FF.nil))), (hS3.sel [] rfl rfl), Nat.zero_add _, hz⟩ ?_
  rintro k_ f w ⟨i, hf, hS4, hik, hL⟩
  refine cw_seq (cw_region ?_)
  refine sQ 30 (Y_lt (k := .i64) (a := (i : Int)) (b := (m.Cells.length : Int)) rfl (hf.get 29 2 rfl) (hf.get 28 1 rfl)) (rw_nil (cw_seq ?_))
  refine cw_cond (b := (decide ((i : Int) < (m.Cells.length : Int)))) rfl (fun hlt => ?_) (fun hlt => ?_)
  ·skip
   have hlt1 : i < m.Cells.length := by have h := of_decide_eq_true hlt; omega
   obtain ⟨k_1, rfl⟩ : ∃ k2, k_ = k2 + 1 := ⟨k_ - 1, by omega⟩
   obtain ⟨y, hb1, hL1⟩ := forX_go hL
   unfold F_spec_l3Good_l1 at hb1
   refine cw_skip (cw_seq (cw_block (cw_seq (cw_region ?_))))
   obtain ⟨x, hx, hb1⟩ := bind_inv hb1
   refine sQ 31 (Y_index (B := B) (m := m.Cells.length) (c := c) (k := .i64) (i := (i : Int)) k_sl_35_54 k_sz_54_5 rfl (hf.get 27 0 rfl) (hf.get 29 2 rfl) (gi_isSome eN1 rfl (hS4.rf (i := 0) rfl) hx) (getI_nn hx) (getI_ltI hx rfl)) ?_
   refine sQ 32 (Y_loadA (B := B) (i := (i : Int).toNat * 5) (cs := (m.Cells.flatMap eN0)) (vs := kD_ x) k_ag_54 k_sz_54_5 rfl rfl (hS4.rf (i := 0) rfl) (eN1 x) (gi_seg eN1 hx)) ?_
   refine sS 4 (Ys_alloc (T := 54) (cs := kZ_) (m := 5) hS4 k_zero_54 rfl rfl rfl) ?_
   rintro _ w_3 ⟨b1, rfl, hS5⟩
   refine s0 (Ys_store (i := 0) (s := 5) (B := aD b1) (T' := 54) (v := gD_ x) (vs := kD_ x) (k := 0) (cs' := kD_ x) hS5 k_sz_54_5 rfl rfl rfl rfl rfl rfl rfl (lB rfl) rfl rfl) ?_
   rintro _ w_4 ⟨rfl, hS6⟩
   refine rw_nil (cw_seq (cw_region ?_))
   refine sQ 33 (Y_loadA (B := aD b1) (i := 0) (cs := kD_ x) (vs := kD_ x) k_ag_54 k_sz_54_5 rfl rfl (hS6.cf (i := 0) rfl) rfl rfl) ?_
   obtain ⟨r_3, hc2, hb1⟩ := bind_inv hb1
   refine sc 34 rfl rfl (Yc_func (g := 78) (vs := [gD_ x]) k_call_78 rfl (mc rfl mn) (c_spec_l2Good x _  (hS6.inn0 [] rfl) hc2)) ?_
   rintro _ w_5 ⟨rfl, hd1⟩
   have hS7 := hS6.out00 hd1
   refine sQ 35 (Y_not (p := r_3) rfl rfl) (rw_nil ?_)
   refine cw_cond (b := (!r_3)) rfl (fun hb2 => ?_) (fun hb2 => ?_)
   ·skip
    have hF4 := ct hb1 hb2
    refine cw_seq (cw_region ?_)
    refine sQ 2 (Y_assign (v := .bool false) rfl rfl) (rw_nil (cw_ret ?_))
    obtain rfl := some_inj hF4
    obtain rfl := some_inj hL1
    obtain rfl := some_inj hF3
    exact ret1 Tryz.results64 (v1 := .bool false) (resAt_tmp rfl) ⟨rfl, (hS7.sN [])⟩
   ·skip
    have hF5 := cf' hb1 hb2
    refine cw_skip (cw_region ?_)
    refine sQ 36 (Y_add (k := .i64) (a := (i : Int)) (b := 1) rfl (hf.get 29 2 rfl) rfl) ?_
    refine sQ 29 (Y_move (v := vi (i64.wrap ((i : Int) + 1))) rfl rfl) (rw_nil ?_)
    obtain rfl := some_inj hF5
    exact ⟨k_1, Nat.lt_succ_self _, i + 1, (FF.cons (hf.get 27 0 rfl) (FF.cons (hf.get 28 1 rfl) (FF.cons (congrArg (Value.int .i64) (wr_succ hlt1 hN)) FF.nil))), (hS7.sel [] rfl rfl), (by omega), hL1⟩
  ·skip
   obtain rfl : k_ = 0 := by have h := of_decide_eq_false hlt; omega
   refine cw_exit rfl ?_
   obtain rfl := some_inj hL
   refine cw_seq (cw_region ?_)
   refine sQ 2 (Y_assign (v := .bool true) rfl rfl) (rw_nil (cw_ret ?_))
   obtain rfl := some_inj hF3
   exact ret1 Tryz.results64 (v1 := .bool true) (resAt_tmp rfl) ⟨rfl, (hS4.sN [])⟩

theorem c_spec_ColumnOf (m : TMatrix) (k_ : Int) (B : Option Addr) (c n : Nat) (w0 : World) (hn : m.Cells.length = n) (hS : ST w0 [] w0 [] [⟨B, (m.Cells.flatMap eN0)⟩]) {r_ : TMatrix} {r_1 : Bool} (hF : F_spec_ColumnOf m k_ = some (r_, r_1)) :
  CV Tryz.prog 26 #[.agg #[vi m.Rows, vi m.Cols, .slice B n c], vi k_] w0 (fun v w' => ∃ (B1 : Option Addr) (c1 : Nat), v = .tuple #[gM_ r_ B1 c1, .bool r_1] ∧ ST w0 [] w' [⟨B1, 54, (r_.Cells.flatMap eN0), c1 * 5⟩] []) := by
 subst hn
 unfold F_spec_ColumnOf at hF
 refine cv_of_cw 21 Tryz.func26 rfl Tryz.ntmps26 rfl ?_
 refine cw_seq (cw_region ?_)
 refine sS 2 (Ys_box (T := 37) (v := gM_ m B c) (cs := kM_ m B c) (m := 3) hS rfl rfl rfl rfl) ?_
 rintro _ w_ ⟨b, rfl, hS1⟩
 refine sS 4 (Ys_alloc (T := 37) (cs := kN_) (m := 3) hS1 k_zero_37 rfl rfl rfl) ?_
 rintro _ w_1 ⟨b1, rfl, hS2⟩
 refine sQ 5 (Y_assign (v := .bool false) rfl rfl) (rw_nil (cw_seq (cw_seq (cw_region ?_))))
 refine sQ 6 (Y_loadA (B := aD b) (i := 0) (cs := kM_ m B c) (vs := kM_ m B c) k_ag_37 k_sz_37_3 rfl rfl (hS2.cf (i := 0) rfl) rfl rfl) ?_
 obtain ⟨r_2, hc, hF⟩ := bind_inv hF
 refine sc 7 rfl rfl (Yc_func (g := 64) (vs := [gM_ m B c]) k_call_64 rfl (mc rfl mn) (c_spec_l3Good m B c m.Cells.length _ rfl (hS2.inn0 [(true, 0)] rfl) hc)) ?_
 rintro _ w_2 ⟨rfl, hd⟩
 have hS3 := hS2.out00 hd
 refine sQ 8 (Y_not (p := r_2) rfl rfl) ?_
 refine sQ 9 (Y_move (v := .bool (!r_2)) rfl rfl) ?_
 refine sgq 10 (B := (!(!r_2))) (v := vi k_) rfl rfl (uF_ 9) (fun hg => (Y_move (v := vi k_) rfl rfl)) ?_
 refine sgq 11 (B := (!(!r_2))) (v := pt (aD b) 1) rfl rfl (uF_ 9) (fun hg1 => (Y_fieldAddr (B := aD b) (i := 0) (s := 0) k_fd_37_1_1_3 k_sz_3_1 rfl rfl)) ?_
 refine sgq 12 (B := (!(!r_2))) (v := vi m.Cols) rfl rfl (uF_ 9) (fun hg2 => (Y_load1 (B := aD b) (i := 1) (cs := kM_ m B c) (v := vi m.Cols) k_sc_3 rfl (gv_of (v := pt (aD b) 1) hg2) (hS3.cf (i := 0) rfl) rfl)) ?_
 refine sgq 13 (B := (!(!r_2))) (v := vi (i64.wrap (m.Cols - 1))) rfl rfl (uF_ 9) (fun hg3 => (Y_sub (k := .i64) (a := m.Cols) (b := 1) rfl (gv_of (v := vi m.Cols) hg3) rfl)) ?_
 obtain ⟨r_3, hc1, hF⟩ := bind_inv hF
 refine sgc 14 (B := (!(!r_2))) (v := .bool r_3) (F := hS3.fn) rfl rfl (uF_ 9) hS3 (fun hg4 => (Yc_func (g := 51) (vs := [vi k_, vi 0, vi (i64.wrap (m.Cols - 1))]) k_call_51 rfl (mc (gv_of (v := vi k_) hg4) (mc rfl (mc (gv_of (v := vi (i64.wrap (m.Cols - 1))) hg4) mn))) (CV.mono (c_spec_l1In k_ 0 (i64.wrap (m.Cols - 1)) _  (hS3.inn0 [] rfl) (gb_inv hc1 hg4)) (by rintro _ _ ⟨rfl, h⟩; exact ⟨rfl, hS3.out00 h⟩)))) ?_
 rintro w_3 hS4
 refine sgq 15 (B := (!(!r_2))) (v := .bool (!r_3)) rfl rfl (uF_ 9) (fun hg5 => (Y_not (p := r_3) rfl (gv_of (v := .bool r_3) hg5))) ?_
 refine sQ 16 (Y_or (b := (!r_2)) (z := (!r_3)) rfl rfl rfl rfl) (rw_nil ?_)
 refine cw_cond (b := ((!r_2) || (!r_3))) rfl (fun hb => ?_) (fun hb => ?_)
 ·skip
  have hF1 := ct hF hb
  refine cw_seq (cw_region ?_)
  refine sQ 17 (Y_buildS (zs := kN_) (vs := []) (cs := kN_) k_pl_37 k_zero_37 rfl mpn rfl) ?_
  refine s0 (Ys_store (i := 1) (s := 3) (B := aD b1) (T' := 37) (v := gN_) (vs := kN_) (k := 0) (cs' := kN_) hS4 k_sz_37_3 rfl rfl rfl rfl rfl rfl rfl (lB rfl) rfl rfl) ?_
  rintro _ w_4 ⟨rfl, hS5⟩
  refine sQ 5 (Y_assign (v := .bool false) rfl rfl) (rw_nil (cw_ret ?_))
  have hS6 := hS5.addNil 54
  obtain ⟨rfl, rfl⟩ := pr2 (some_inj hF1)
  exact ret2 Tryz.results26 (v1 := gN_) (resAt_cellA (B := aD b1) (i := 0) (cs := kN_) (vs := kN_) rfl k_ag_37 k_sz_37_3 (hS6.cf (i := 1) rfl) rfl rfl) (v2 := .bool false) (resAt_tmp rfl) ⟨none, 0, rfl, (hS6.sN [2])⟩
 ·skip
  have hF2 := cf' hF hb
  refine cw_skip (cw_seq (cw_region ?_))
  refine sQ 18 (Y_loadA (B := aD b) (i := 0) (cs := kM_ m B c) (vs := kM_ m B c) k_ag_37 k_sz_37_3 rfl rfl (hS4.cf (i := 0) rfl) rfl rfl) ?_
  refine sQ 19 (Y_move (v := vi k_) rfl rfl) ?_
  obtain ⟨r_4, hc2, hF2⟩ := bind_inv hF2
  refine sc 20 rfl rfl (Yc_func (g := 76) (vs := [gM_ m B c, vi k_]) k_call_76 rfl (mc rfl (mc rfl mn)) (c_spec_l3Column m k_ B c m.Cells.length _ rfl (hS4.inn0 [(true, 0)] rfl) hc2)) ?_
  rintro _ w_5 ⟨B2, c2, rfl, hd1⟩
  have hS7 := hS4.out0 hd1
  refine s0 (Ys_store (i := 1) (s := 3) (B := aD b1) (T' := 37) (v := gM_ r_4 B2 c2) (vs := kM_ r_4 B2 c2) (k := 0) (cs' := kM_ r_4 B2 c2) hS7 k_sz_37_3 rfl rfl rfl rfl rfl rfl rfl (lB rfl) rfl rfl) ?_
  rintro _ w_6 ⟨rfl, hS8⟩
  refine sQ 5 (Y_assign (v := .bool true) rfl rfl) (rw_nil (cw_ret ?_))
  obtain ⟨rfl, rfl⟩ := pr2 (some_inj hF2)
  exact ret2 Tryz.results26 (v1 := gM_ r_4 B2 c2) (resAt_cellA (B := aD b1) (i := 0) (cs := kM_ r_4 B2 c2) (vs := kM_ r_4 B2 c2) rfl k_ag_37 k_sz_37_3 (hS8.cf (i := 1) rfl) rfl rfl) (v2 := .bool true) (resAt_tmp rfl) ⟨B2, c2, rfl, (hS8.sN [2])⟩

theorem c_spec_l1Cur_one (c : Tl1Cur) (n1 : Int) (B : Option Addr) (B1 : Option Addr) (c1 n : Nat) (w0 : World) (hn : c.code.length = n) (hS : ST w0 (bl [⟨B, 112, [.slice B1 n c1, vi c.at_, .int .u64 c.seed], 3⟩]) w0 [⟨B, 112, [.slice B1 n c1, vi c.at_, .int .u64 c.seed], 3⟩] [⟨B1, (c.code.flatMap enc_u8)⟩]) {r_ : Bool} {m : Tl1Cur} (hF : F_spec_l1Cur_one c n1 = some (r_, m)) :
  CV Tryz.prog 90 #[pt B 0, vi n1] w0 (fun v w' => v = .bool r_ ∧ ST w0 (bl [⟨B, 112, [.slice B1 n c1, vi c.at_, .int .u64 c.seed], 3⟩]) w' [⟨B, 112, [.slice B1 n c1, vi m.at_, .int .u64 m.seed], 3⟩] []) := by
 subst hn
 unfold F_spec_l1Cur_one at hF
 refine cv_of_cw 9 Tryz.func90 rfl Tryz.ntmps90 rfl ?_
 refine cw_seq (cw_region ?_)
 refine sQ 4 (Y_assign (v := .bool false) rfl rfl) (rw_nil (cw_seq (cw_region ?_)))
 refine sQ 5 (Y_move (v := pt B 0) rfl rfl) ?_
 refine sQ 6 (Y_move (v := vi n1) rfl rfl) ?_
 obtain ⟨⟨r_1, m1⟩, hc, hF⟩ := bind_inv hF
 refine sc 7 rfl rfl (Yc_func (g := 71) (vs := [pt B 0, vi n1]) k_call_71 rfl (mc rfl (mc rfl mn)) (c_spec_l1Cur_pick c n1 B B1 c1 c.code.length _ rfl (hS.inn [true] rfl [(true, 0)] rfl) hc)) ?_
 rintro _ w_ ⟨rfl, hd⟩
 have hS1 := hS.out [true] rfl hd
 refine sQ 8 (Y_eq (k := .i64) (a := r_1) (b := 0) rfl rfl rfl) ?_
 refine sQ 4 (Y_assign (v := .bool (r_1 == 0)) rfl rfl) (rw_nil (cw_ret ?_))
 obtain ⟨rfl, rfl⟩ := pr2 (some_inj hF)
 exact ret1 Tryz.results90 (v1 := .bool (r_1 == 0)) (resAt_tmp rfl) ⟨rfl, (hS1.sN [0])⟩

theorem c_spec_l1Cur_ring (c : Tl1Cur) (B : Option Addr) (B1 : Option Addr) (c1 n : Nat) (w0 : World) (hn : c.code.length = n) (hS : ST w0 (bl [⟨B, 112, [.slice B1 n c1, vi c.at_, .int .u64 c.seed], 3⟩]) w0 [⟨B, 112, [.slice B1 n c1, vi c.at_, .int .u64 c.seed], 3⟩] [⟨B1, (c.code.flatMap enc_u8)⟩]) {r_ : TRing} {m : Tl1Cur} (hF : F_spec_l1Cur_ring c = some (r_, m)) :
  CV Tryz.prog 223 #[pt B 0] w0 (fun v w' => v = (gR_ r_) ∧ ST w0 (bl [⟨B, 112, [.slice B1 n c1, vi c.at_, .int .u64 c.seed], 3⟩]) w' [⟨B, 112, [.slice B1 n c1, vi m.at_, .int .u64 m.seed], 3⟩] []) := by
 subst hn
 unfold F_spec_l1Cur_ring at hF
 refine cv_of_cw 16 Tryz.func223 rfl Tryz.ntmps223 rfl ?_
 refine cw_seq (cw_region ?_)
 refine sS 2 (Ys_alloc (T := 52) (cs := [vi 0, vi 0, vi 0, vi 0]) (m := 4) hS k_zero_52 rfl rfl rfl) ?_
 rintro _ w_ ⟨b, rfl, hS1⟩
 refine rw_nil (cw_seq (cw_region ?_))
 refine sQ 3 (Y_move (v := pt B 0) rfl rfl) ?_
 obtain ⟨⟨r_1, m1⟩, hc, hF⟩ := bind_inv hF
 refine sc 4 rfl rfl (Yc_func (g := 71) (vs := [pt B 0, vi 9]) k_call_71 rfl (mc rfl (mc rfl mn)) (c_spec_l1Cur_pick c 9 B B1 c1 c.code.length _ rfl (hS1.inn [true, false] rfl [(true, 0)] rfl) hc)) ?_
 rintro _ w_1 ⟨rfl, hd⟩
 have hS2 := hS1.out [true, false] rfl hd
 refine sQ 5 (Y_sub (k := .i64) (a := r_1) (b := 4) rfl rfl rfl) ?_
 refine sQ 6 (Y_move (v := pt B 0) rfl rfl) ?_
 obtain ⟨⟨r_2, m2⟩, hc1, hF⟩ := bind_inv hF
 refine sc 7 rfl rfl (Yc_func (g := 71) (vs := [pt B 0, vi 9]) k_call_71 rfl (mc rfl (mc rfl mn)) (c_spec_l1Cur_pick (Tl1Cur.mk c.code m1.at_ m1.seed) 9 B B1 c1 c.code.length _ rfl (hS2.inn [false, true] rfl [(true, 0)] rfl) hc1)) ?_
 rintro _ w_2 ⟨rfl, hd1⟩
 have hS3 := hS2.out [false, true] rfl hd1
 refine sQ 8 (Y_sub (k := .i64) (a := r_2) (b := 4) rfl rfl rfl) ?_
 refine sQ 9 (Y_move (v := pt B 0) rfl rfl) ?_
 obtain ⟨⟨r_3, m3⟩, hc2, hF⟩ := bind_inv hF
 refine sc 10 rfl rfl (Yc_func (g := 71) (vs := [pt B 0, vi 9]) k_call_71 rfl (mc rfl (mc rfl mn)) (c_spec_l1Cur_pick (Tl1Cur.mk c.code m2.at_ m2.seed) 9 B B1 c1 c.code.length _ rfl (hS3.inn [false, true] rfl [(true, 0)] rfl) hc2)) ?_
 rintro _ w_3 ⟨rfl, hd2⟩
 have hS4 := hS3.out [false, true] rfl hd2
 refine sQ 11 (Y_sub (k := .i64) (a := r_3) (b := 4) rfl rfl rfl) ?_
 refine sQ 12 (Y_move (v := pt B 0) rfl rfl) ?_
 obtain ⟨⟨r_4, m4⟩, hc3, hF⟩ := bind_inv hF
 refine sc 13 rfl rfl (Yc_func (g := 71) (vs := [pt B 0, vi 9]) k_call_71 rfl (mc rfl (mc rfl mn)) (c_spec_l1Cur_pick (Tl1Cur.mk c.code m3.at_ m3.seed) 9 B B1 c1 c.code.length _ rfl (hS4.inn [false, true] rfl [(true, 0)] rfl) hc3)) ?_
 rintro _ w_4 ⟨rfl, hd3⟩
 have hS5 := hS4.out [false, true] rfl hd3
 refine sQ 14 (Y_sub (k := .i64) (a := r_4) (b := 4) rfl rfl rfl) ?_
 refine sQ 15 (Y_buildS (zs := [vi 0, vi 0, vi 0, vi 0]) (vs := [(0, vi (i64.wrap (r_1 - 4))), (1, vi (i64.wrap (r_2 - 4))), (2, vi (i64.wrap (r_3 - 4))), (3, vi (i64.wrap (r_4 - 4)))]) (cs := [vi (i64.wrap (r_1 - 4)), vi (i64.wrap (r_2 - 4)), vi (i64.wrap (r_3 - 4)), vi (i64.wrap (r_4 - 4))]) k_pl_52 k_zero_52 rfl (mpc rfl (mpc rfl (mpc rfl (mpc rfl mpn)))) rfl) ?_
 refine s0 (Ys_store (i := 0) (s := 4) (B := aD b) (T' := 52) (v := .agg #[vi (i64.wrap (r_1 - 4)), vi (i64.wrap (r_2 - 4)), vi (i64.wrap (r_3 - 4)), vi (i64.wrap (r_4 - 4))]) (vs := [vi (i64.wrap (r_1 - 4)), vi (i64.wrap (r_2 - 4)), vi (i64.wrap (r_3 - 4)), vi (i64.wrap (r_4 - 4))]) (k := 0) (cs' := [vi (i64.wrap (r_1 - 4)), vi (i64.wrap (r_2 - 4)), vi (i64.wrap (r_3 - 4)), vi (i64.wrap (r_4 - 4))]) hS5 k_sz_52_4 rfl rfl rfl rfl rfl rfl rfl (lB rfl) rfl rfl) ?_
 rintro _ w_5 ⟨rfl, hS6⟩
 refine rw_nil (cw_ret ?_)
 obtain ⟨rfl, rfl⟩ := pr2 (some_inj hF)
 exact ret1 Tryz.results223 (v1 := .agg #[vi (i64.wrap (r_1 - 4)), vi (i64.wrap (r_2 - 4)), vi (i64.wrap (r_3 - 4)), vi (i64.wrap (r_4 - 4))]) (resAt_cellA (B := aD b) (i := 0) (cs := [vi (i64.wrap (r_1 - 4)), vi (i64.wrap (r_2 - 4)), vi (i64.wrap (r_3 - 4)), vi (i64.wrap (r_4 - 4))]) (vs := [vi (i64.wrap (r_1 - 4)), vi (i64.wrap (r_2 - 4)), vi (i64.wrap (r_3 - 4)), vi (i64.wrap (r_4 - 4))]) rfl k_ag_52 k_sz_52_4 (hS6.cf (i := 0) rfl) rfl rfl) ⟨rfl, (hS6.sN [1])⟩

theorem c_spec_l1Cur_dyadic (c : Tl1Cur) (B : Option Addr) (B1 : Option Addr) (c1 n : Nat) (w0 : World) (hn : c.code.length = n) (hS : ST w0 (bl [⟨B, 112, [.slice B1 n c1, vi c.at_, .int .u64 c.seed], 3⟩]) w0 [⟨B, 112, [.slice B1 n c1, vi c.at_, .int .u64 c.seed], 3⟩] [⟨B1, (c.code.flatMap enc_u8)⟩]) {r_ : TDyadic} {m : Tl1Cur} (hF : F_spec_l1Cur_dyadic c = some (r_, m)) :
  CV Tryz.prog 165 #[pt B 0] w0 (fun v w' => v = (gD_ r_) ∧ ST w0 (bl [⟨B, 112, [.slice B1 n c1, vi c.at_, .int .u64 c.seed], 3⟩]) w' [⟨B, 112, [.slice B1 n c1, vi m.at_, .int .u64 m.seed], 3⟩] []) := by
 subst hn
 unfold F_spec_l1Cur_dyadic at hF
 refine cv_of_cw 8 Tryz.func165 rfl Tryz.ntmps165 rfl ?_
 refine cw_seq (cw_region ?_)
 refine sS 2 (Ys_alloc (T := 54) (cs := kZ_) (m := 5) hS k_zero_54 rfl rfl rfl) ?_
 rintro _ w_ ⟨b, rfl, hS1⟩
 refine rw_nil (cw_seq (cw_region ?_))
 refine sQ 3 (Y_move (v := pt B 0) rfl rfl) ?_
 obtain ⟨⟨r_1, m1⟩, hc, hF⟩ := bind_inv hF
 refine sc 4 rfl rfl (Yc_func (g := 223) (vs := [pt B 0]) k_call_223 rfl (mc rfl mn) (c_spec_l1Cur_ring c B B1 c1 c.code.length _ rfl (hS1.inn [true, false] rfl [(true, 0)] rfl) hc)) ?_
 rintro _ w_1 ⟨rfl, hd⟩
 have hS2 := hS1.out [true, false] rfl hd
 refine sQ 5 (Y_move (v := pt B 0) rfl rfl) ?_
 obtain ⟨⟨r_2, m2⟩, hc1, hF⟩ := bind_inv hF
 refine sc 6 rfl rfl (Yc_func (g := 71) (vs := [pt B 0, vi 5]) k_call_71 rfl (mc rfl (mc rfl mn)) (c_spec_l1Cur_pick (Tl1Cur.mk c.code m1.at_ m1.seed) 5 B B1 c1 c.code.length _ rfl (hS2.inn [false, true] rfl [(true, 0)] rfl) hc1)) ?_
 rintro _ w_2 ⟨rfl, hd1⟩
 have hS3 := hS2.out [false, true] rfl hd1
 obtain ⟨r_3, hc2, hF⟩ := bind_inv hF
 refine sc 7 rfl rfl (Yc_func (g := 162) (vs := [gR_ r_1, vi r_2]) k_call_162 rfl (mc rfl (mc rfl mn)) (c_spec_l2Low r_1 r_2 _  (hS3.inn0 [] rfl) hc2)) ?_
 rintro _ w_3 ⟨rfl, hd2⟩
 have hS4 := hS3.out00 hd2
 refine s0 (Ys_store (i := 0) (s := 5) (B := aD b) (T' := 54) (v := gD_ r_3) (vs := kD_ r_3) (k := 0) (cs' := kD_ r_3) hS4 k_sz_54_5 rfl rfl rfl rfl rfl rfl rfl (lB rfl) rfl rfl) ?_
 rintro _ w_4 ⟨rfl, hS5⟩
 refine rw_nil (cw_ret ?_)
 obtain ⟨rfl, rfl⟩ := pr2 (some_inj hF)
 exact ret1 Tryz.results165 (v1 := gD_ r_3) (resAt_cellA (B := aD b) (i := 0) (cs := kD_ r_3) (vs := kD_ r_3) rfl k_ag_54 k_sz_54_5 (hS5.cf (i := 0) rfl) rfl rfl) ⟨rfl, (hS5.sN [1])⟩

theorem c_spec_l1Cur_matrix (c : Tl1Cur) (rows : Int) (cols : Int) (B : Option Addr) (B1 : Option Addr) (c1 n : Nat) (w0 : World) (hn : c.code.length = n) (hS : ST w0 (bl [⟨B, 112, [.slice B1 n c1, vi c.at_, .int .u64 c.seed], 3⟩]) w0 [⟨B, 112, [.slice B1 n c1, vi c.at_, .int .u64 c.seed], 3⟩] [⟨B1, (c.code.flatMap enc_u8)⟩]) {r_ : TMatrix} {m : Tl1Cur} (hF : F_spec_l1Cur_matrix c rows cols = some (r_, m)) :
  CV Tryz.prog 221 #[pt B 0, vi rows, vi cols] w0 (fun v w' => ∃ (B2 : Option Addr) (c2 : Nat), v = (gM_ r_ B2 c2) ∧ ST w0 (bl [⟨B, 112, [.slice B1 n c1, vi c.at_, .int .u64 c.seed], 3⟩]) w' [⟨B, 112, [.slice B1 n c1, vi m.at_, .int .u64 m.seed], 3⟩, ⟨B2, 54, (r_.Cells.flatMap eN0), c2 * 5⟩] []) := by
 subst hn
 unfold F_spec_l1Cur_matrix at hF
 refine cv_of_cw 27 Tryz.func221 rfl Tryz.ntmps221 rfl ?_
 refine cw_seq (cw_region ?_)
 refine sS 6 (Ys_alloc (T := 37) (cs := kN_) (m := 3) hS k_zero_37 rfl rfl rfl) ?_
 rintro _ w_ ⟨b, rfl, hS1⟩
 refine rw_nil (cw_seq (cw_region ?_))
 refine sQ 9 (Y_move (v := vi rows) rfl rfl) ?_
 refine sQ 10 (Y_move (v := vi cols) rfl rfl) ?_
 refine sQ 11 (Y_buildS (zs := kN_) (vs := [(0, vi rows), (1, vi cols)]) (cs := [vi rows, vi cols, .slice none 0 0]) k_pl_37 k_zero_37 rfl (mpc rfl (mpc rfl mpn)) rfl) ?_
 refine sS 7 (Ys_alloc (T := 37) (cs := kN_) (m := 3) hS1 k_zero_37 rfl rfl rfl) ?_
 rintro _ w_1 ⟨b1, rfl, hS2⟩
 refine s0 (Ys_store (i := 2) (s := 3) (B := aD b1) (T' := 37) (v := .agg #[vi rows, vi cols, .slice none 0 0]) (vs := [vi rows, vi cols, .slice none 0 0]) (k := 0) (cs' := [vi rows, vi cols, .slice none 0 0]) hS2 k_sz_37_3 rfl rfl rfl rfl rfl rfl rfl (lB rfl) rfl rfl) ?_
 rintro _ w_2 ⟨rfl, hS3⟩
 refine rw_nil (cw_seq (cw_seq (cw_region ?_)))
 refine sQ 8 (Y_assign (v := vi 0) rfl rfl) (rw_nil ?_)
 obtain ⟨hN, hF⟩ := chk_inv hF
 obtain ⟨z, hz, hF1⟩ := bind_inv hF
 have hS5 := hS3.addNil 54
 refine cw_block ?_
 refine cw_loop (fun k f w => ∃ (k_ : Nat) (at_ : Int) (seed : Int) (Cells : List TDyadic) (B3 : Option Addr) (c3 : Nat), FF f [(0, pt B 0), (1, vi rows), (2, vi cols), (6, pt (aD b) 0), (7, pt (aD b1) 0), (8, vi (k_ : Int))] ∧ ST w0 (bl [⟨B, 112, [.slice B1 c.code.length c1, vi c.at_, .int .u64 c.seed], 3⟩]) w [⟨B, 112, [.slice B1 c.code.length c1, vi at_, .int .u64 seed], 3⟩, ⟨aD b, 37, kN_, 3⟩, ⟨aD b1, 37, [vi rows, vi cols, .slice B3 Cells.length c3], 3⟩, ⟨B3, 54, (Cells.flatMap eN0), c3 * 5⟩] [⟨B1, (c.code.flatMap enc_u8)⟩] ∧ k_ + k = (i64.wrap (rows * cols)).toNat ∧ forN (F_spec_l1Cur_matrix_l1 c) k k_ (at_, seed, Cells) = some z) ((i64.wrap (rows * cols)).toNat) ⟨0, c.at_, c.seed, [], none, 0, (FF.cons rfl (FF.cons rfl (FF.cons rfl (FF.cons rfl (FF.cons rfl (FF.cons rfl FF.nil)))))), (hS5.sel [0, 1, 2, 3] rfl rfl), Nat.zero_add _, hz⟩ ?_
 rintro k_1 f w ⟨k_, at_, seed, Cells, B3, c3, hf, hS4, hik, hL⟩
 refine cw_seq (cw_seq (cw_region ?_))
 refine sQ 12 (Y_move (v := vi (k_ : Int)) rfl (hf.get 8 5 rfl)) ?_
 refine sQ 13 (Y_move (v := vi rows) rfl (hf.get 1 1 rfl)) ?_
 refine sQ 14 (Y_move (v := vi cols) rfl (hf.get 2 2 rfl)) ?_
 refine sQ 15 (Y_mul (k := .i64) (a := rows) (b := cols) rfl rfl rfl) ?_
 refine sQ 16 (Y_lt (k := .i64) (a := (k_ : Int)) (b := (i64.wrap (rows * cols))) rfl rfl rfl) (rw_nil ?_)
 refine cw_cond (b := (decide ((k_ : Int) < (i64.wrap (rows * cols))))) rfl (fun hlt => ?_) (fun hlt => ?_)
 ·skip
  have hlt1 : k_ < (i64.wrap (rows * cols)).toNat := by have h := of_decide_eq_true hlt; omega
  obtain ⟨k_2, rfl⟩ : ∃ k2, k_1 = k2 + 1 := ⟨k_1 - 1, by omega⟩
  obtain ⟨y, hb, hL1⟩ := forN_go hL
  unfold F_spec_l1Cur_matrix_l1 at hb
  refine cw_skip (cw_seq (cw_block ?_))
  obtain ⟨⟨r_1, m1⟩, hc, hb⟩ := bind_inv hb
  obtain ⟨hap, hb⟩ := chk_inv hb
  refine cw_mid (fun f w => ∃ (B5 : Option Addr) (c5 : Nat), FF f [(0, pt B 0), (1, vi rows), (2, vi cols), (6, pt (aD b) 0), (7, pt (aD b1) 0), (8, vi (k_ : Int))] ∧ ST w0 (bl [⟨B, 112, [.slice B1 c.code.length c1, vi c.at_, .int .u64 c.seed], 3⟩]) w [⟨B, 112, [.slice B1 c.code.length c1, vi m1.at_, .int .u64 m1.seed], 3⟩, ⟨aD b, 37, kN_, 3⟩, ⟨aD b1, 37, [vi rows, vi cols, .slice B5 ((Cells ++ [r_1]).length) c5], 3⟩, ⟨B5, 54, ((Cells ++ [r_1]).flatMap eN0), c5 * 5⟩] [⟨B1, (c.code.flatMap enc_u8)⟩]) ?_ ?_
  ·skip
   refine ra_start (hS4.se [1]).fn (by kernel_rfl) ?_
   have hS8 := hS4.drew
   refine rq 0 19 (v := pt (aD b1) 2) rfl (hS8.se [1]) (fun w' hw' => (Y_fieldAddr (B := aD b1) (i := 0) (s := 0) k_fd_37_2_2_35 k_sz_35_1 rfl (hf.get 7 4 rfl))) ?_
   refine rq 2 21 (v := pt B 0) rfl (hS8.se [1]) (fun w' hw' => (Y_move (v := pt B 0) rfl (hf.get 0 0 rfl))) ?_
   refine rA [1, 3] ?_
   refine ra_y 20 (i := 1) (v := .slice B3 Cells.length c3) rfl rfl rfl (Y_load1 (B := aD b1) (i := 2) (cs := [vi rows, vi cols, .slice B3 Cells.length c3]) (v := .slice B3 Cells.length c3) k_sc_35 rfl rfl (hS8.cf (i := 2) rfl) rfl) (hS8.se [1]) ?_ ?_
   ·skip
    refine rA [3] ?_
    refine ra_c 22 (i := 3) rfl rfl rfl (Yc_func (g := 165) (vs := [pt B 0]) k_call_165 rfl (mc rfl mn) (c_spec_l1Cur_dyadic (Tl1Cur.mk c.code at_ seed) B B1 c1 c.code.length _ rfl (hS8.inn [true, false, false, false] rfl [(true, 0)] rfl) hc)) ?_ ?_
    ·rintro _ w_3 ⟨rfl, hd⟩
     have hS9 := hS8.out [true, false, false, false] rfl hd
     refine ⟨(hS9.se [0]), ?_⟩
     refine rA [4] ?_
     refine ra_s 23 (i := 4) rfl rfl rfl (Ys_bslice (s := 5) (len := 1) (vs := [(0, gD_ r_1)]) (cs := kD_ r_1) (zs := kZ_) (m := 5) hS9 k_sl_35_54 k_sz_54_5 k_zc_54 rfl (mpc rfl mpn) rfl rfl rfl (by kernel_rfl) (by kernel_rfl) rfl) ?_ ?_
     ·rintro _ w_4 ⟨b2, rfl, hS10⟩
      refine ⟨(hS10.se [0]), ?_⟩
      refine rA [5] ?_
      refine ra_s 24 (i := 5) rfl rfl rfl (Ys_append (s := 5) (by' := 40) (i := 2) (nn := Cells.length) (c := c3) (k := 1) (len := (Cells ++ [r_1]).length) (B := B3) (xs := ([r_1].flatMap eN0)) (cs' := ((Cells ++ [r_1]).flatMap eN0)) hS10 k_sl_35_54 k_sz_54_5 k_by_54_40 k_zero_54 rfl (by decide) rfl rfl rfl rfl (fm_lenn (l := Cells) eN1 rfl) rfl (hS10.cf (i := 4) rfl) (fm_lenn (l := [r_1]) eN1 rfl) (fm_one' (enc := eN0) enc_Dyadic_one [r_1]) (by have := hap; omega) (by have := hap; simp only [maxLen]; omega) (fm_app _ _) (app_len (l := Cells) (l' := [r_1]) rfl rfl)) ?_ ?_
      ·rintro _ w_5 ⟨B4, c4, rfl, hS11⟩
       refine ⟨(hS11.se [0]), ?_⟩
       refine rq 6 25 (v := pt (aD b1) 2) rfl (hS11.se [0]) (fun w' hw' => (Y_fieldAddr (B := aD b1) (i := 0) (s := 0) k_fd_37_2_2_35 k_sz_35_1 rfl (hf.get 7 4 rfl))) ?_
       refine rA [7] ?_
       refine ra_s0 (i := 7) rfl rfl rfl (Ys_store (i := 1) (s := 1) (B := aD b1) (T' := 37) (v := .slice B4 ((Cells ++ [r_1]).length) c4) (vs := [.slice B4 ((Cells ++ [r_1]).length) c4]) (k := 2) (cs' := [vi rows, vi cols, .slice B4 ((Cells ++ [r_1]).length) c4]) hS11 k_sz_35_1 rfl rfl rfl rfl rfl rfl rfl (lB rfl) rfl rfl) ?_ ?_
       ·rintro _ w_6 ⟨rfl, hS12⟩
        refine ⟨(hS12.se [0]), ?_⟩
        refine ra_done (by kernel_rfl) ?_
        exact ⟨B4, c4, (FF.cons (hf.get 0 0 rfl) (FF.cons (hf.get 1 1 rfl) (FF.cons (hf.get 2 2 rfl) (FF.cons (hf.get 6 3 rfl) (FF.cons (hf.get 7 4 rfl) (FF.cons (hf.get 8 5 rfl) FF.nil)))))), (hS12.sel [3, 0, 1, 2] rfl rfl)⟩
       exact allR_nil
      exact allR_nil
     exact allR_nil
    exact allR_nil
   refine ra_c 22 (i := 3) rfl rfl rfl (Yc_func (g := 165) (vs := [pt B 0]) k_call_165 rfl (mc rfl mn) (c_spec_l1Cur_dyadic (Tl1Cur.mk c.code at_ seed) B B1 c1 c.code.length _ rfl (hS8.inn [true, false, false, false] rfl [(true, 0)] rfl) hc)) ?_ ?_
   ·rintro _ w_7 ⟨rfl, hd1⟩
    have hS13 := hS8.out [true, false, false, false] rfl hd1
    refine ⟨(hS13.se [0]), ?_⟩
    refine rA [1, 4] ?_
    refine ra_y 20 (i := 1) (v := .slice B3 Cells.length c3) rfl rfl rfl (Y_load1 (B := aD b1) (i := 2) (cs := [vi rows, vi cols, .slice B3 Cells.length c3]) (v := .slice B3 Cells.length c3) k_sc_35 rfl rfl (hS13.cf (i := 1) rfl) rfl) (hS13.se [0]) ?_ ?_
    ·skip
     refine rA [4] ?_
     refine ra_s 23 (i := 4) rfl rfl rfl (Ys_bslice (s := 5) (len := 1) (vs := [(0, gD_ r_1)]) (cs := kD_ r_1) (zs := kZ_) (m := 5) hS13 k_sl_35_54 k_sz_54_5 k_zc_54 rfl (mpc rfl mpn) rfl rfl rfl (by kernel_rfl) (by kernel_rfl) rfl) ?_ ?_
     ·rintro _ w_8 ⟨b2, rfl, hS14⟩
      refine ⟨(hS14.se [0]), ?_⟩
      refine rA [5] ?_
      refine ra_s 24 (i := 5) rfl rfl rfl (Ys_append (s := 5) (by' := 40) (i := 2) (nn := Cells.length) (c := c3) (k := 1) (len := (Cells ++ [r_1]).length) (B := B3) (xs := ([r_1].flatMap eN0)) (cs' := ((Cells ++ [r_1]).flatMap eN0)) hS14 k_sl_35_54 k_sz_54_5 k_by_54_40 k_zero_54 rfl (by decide) rfl rfl rfl rfl (fm_lenn (l := Cells) eN1 rfl) rfl (hS14.cf (i := 4) rfl) (fm_lenn (l := [r_1]) eN1 rfl) (fm_one' (enc := eN0) enc_Dyadic_one [r_1]) (by have := hap; omega) (by have := hap; simp only [maxLen]; omega) (fm_app _ _) (app_len (l := Cells) (l' := [r_1]) rfl rfl)) ?_ ?_
      ·rintro _ w_9 ⟨B4, c4, rfl, hS15⟩
       refine ⟨(hS15.se [0]), ?_⟩
       refine rq 6 25 (v := pt (aD b1) 2) rfl (hS15.se [0]) (fun w' hw' => (Y_fieldAddr (B := aD b1) (i := 0) (s := 0) k_fd_37_2_2_35 k_sz_35_1 rfl (hf.get 7 4 rfl))) ?_
       refine rA [7] ?_
       refine ra_s0 (i := 7) rfl rfl rfl (Ys_store (i := 1) (s := 1) (B := aD b1) (T' := 37) (v := .slice B4 ((Cells ++ [r_1]).length) c4) (vs := [.slice B4 ((Cells ++ [r_1]).length) c4]) (k := 2) (cs' := [vi rows, vi cols, .slice B4 ((Cells ++ [r_1]).length) c4]) hS15 k_sz_35_1 rfl rfl rfl rfl rfl rfl rfl (lB rfl) rfl rfl) ?_ ?_
       ·rintro _ w_10 ⟨rfl, hS16⟩
        refine ⟨(hS16.se [0]), ?_⟩
        refine ra_done (by kernel_rfl) ?_
        exact ⟨B4, c4, (FF.cons (hf.get 0 0 rfl) (FF.cons (hf.get 1 1 rfl) (FF.cons (hf.get 2 2 rfl) (FF.cons (hf.get 6 3 rfl) (FF.cons (hf.get 7 4 rfl) (FF.cons (hf.get 8 5 rfl) FF.nil)))))), (hS16.sel [3, 0, 1, 2] rfl rfl)⟩
       exact allR_nil
      exact allR_nil
     exact allR_nil
    refine ra_s 23 (i := 4) rfl rfl rfl (Ys_bslice (s := 5) (len := 1) (vs := [(0, gD_ r_1)]) (cs := kD_ r_1) (zs := kZ_) (m := 5) hS13 k_sl_35_54 k_sz_54_5 k_zc_54 rfl (mpc rfl mpn) rfl rfl rfl (by kernel_rfl) (by kernel_rfl) rfl) ?_ ?_
    ·rintro _ w_11 ⟨b2, rfl, hS17⟩
     refine ⟨(hS17.se [0]), ?_⟩
     refine rA [1] ?_
     refine ra_y 20 (i := 1) (v := .slice B3 Cells.length c3) rfl rfl rfl (Y_load1 (B := aD b1) (i := 2) (cs := [vi rows, vi cols, .slice B3 Cells.length c3]) (v := .slice B3 Cells.length c3) k_sc_35 rfl rfl (hS17.cf (i := 1) rfl) rfl) (hS17.se [0]) ?_ ?_
     ·skip
      refine rA [5] ?_
      refine ra_s 24 (i := 5) rfl rfl rfl (Ys_append (s := 5) (by' := 40) (i := 2) (nn := Cells.length) (c := c3) (k := 1) (len := (Cells ++ [r_1]).length) (B := B3) (xs := ([r_1].flatMap eN0)) (cs' := ((Cells ++ [r_1]).flatMap eN0)) hS17 k_sl_35_54 k_sz_54_5 k_by_54_40 k_zero_54 rfl (by decide) rfl rfl rfl rfl (fm_lenn (l := Cells) eN1 rfl) rfl (hS17.cf (i := 4) rfl) (fm_lenn (l := [r_1]) eN1 rfl) (fm_one' (enc := eN0) enc_Dyadic_one [r_1]) (by have := hap; omega) (by have := hap; simp only [maxLen]; omega) (fm_app _ _) (app_len (l := Cells) (l' := [r_1]) rfl rfl)) ?_ ?_
      ·rintro _ w_12 ⟨B4, c4, rfl, hS18⟩
       refine ⟨(hS18.se [0]), ?_⟩
       refine rq 6 25 (v := pt (aD b1) 2) rfl (hS18.se [0]) (fun w' hw' => (Y_fieldAddr (B := aD b1) (i := 0) (s := 0) k_fd_37_2_2_35 k_sz_35_1 rfl (hf.get 7 4 rfl))) ?_
       refine rA [7] ?_
       refine ra_s0 (i := 7) rfl rfl rfl (Ys_store (i := 1) (s := 1) (B := aD b1) (T' := 37) (v := .slice B4 ((Cells ++ [r_1]).length) c4) (vs := [.slice B4 ((Cells ++ [r_1]).length) c4]) (k := 2) (cs' := [vi rows, vi cols, .slice B4 ((Cells ++ [r_1]).length) c4]) hS18 k_sz_35_1 rfl rfl rfl rfl rfl rfl rfl (lB rfl) rfl rfl) ?_ ?_
       ·rintro _ w_13 ⟨rfl, hS19⟩
        refine ⟨(hS19.se [0]), ?_⟩
        refine ra_done (by kernel_rfl) ?_
        exact ⟨B4, c4, (FF.cons (hf.get 0 0 rfl) (FF.cons (hf.get 1 1 rfl) (FF.cons (hf.get 2 2 rfl) (FF.cons (hf.get 6 3 rfl) (FF.cons (hf.get 7 4 rfl) (FF.cons (hf.get 8 5 rfl) FF.nil)))))), (hS19.sel [3, 0, 1, 2] rfl rfl)⟩
       exact allR_nil
      exact allR_nil
     exact allR_nil
    exact allR_nil
   exact allR_nil
  rintro f w ⟨B5, c5, hf1, hS7⟩
  refine cw_region ?_
  refine sQ 17 (Y_move (v := vi (k_ : Int)) rfl (hf1.get 8 5 rfl)) ?_
  refine sQ 18 (Y_add (k := .i64) (a := (k_ : Int)) (b := 1) rfl rfl rfl) ?_
  refine sQ 8 (Y_assign (v := vi (i64.wrap ((k_ : Int) + 1))) rfl rfl) (rw_nil ?_)
  obtain rfl := some_inj hb
  exact ⟨k_2, Nat.lt_succ_self _, k_ + 1, m1.at_, m1.seed, (Cells ++ [r_1]), B5, c5, (FF.cons (hf1.get 0 0 rfl) (FF.cons (hf1.get 1 1 rfl) (FF.cons (hf1.get 2 2 rfl) (FF.cons (hf1.get 6 3 rfl) (FF.cons (hf1.get 7 4 rfl) (FF.cons (congrArg (Value.int .i64) (wr_succ hlt1 hN)) FF.nil)))))), (hS7.sel [0, 1, 2, 3] rfl rfl), (by omega), hL1⟩
 ·skip
  obtain rfl : k_1 = 0 := by have h := of_decide_eq_false hlt; omega
  refine cw_exit rfl ?_
  obtain rfl := some_inj hL
  refine cw_seq (cw_region ?_)
  refine sQ 26 (Y_loadA (B := aD b1) (i := 0) (cs := [vi rows, vi cols, .slice B3 Cells.length c3]) (vs := [vi rows, vi cols, .slice B3 Cells.length c3]) k_ag_37 k_sz_37_3 rfl (hf.get 7 4 rfl) (hS4.cf (i := 2) rfl) rfl rfl) ?_
  refine s0 (Ys_store (i := 1) (s := 3) (B := aD b) (T' := 37) (v := .agg #[vi rows, vi cols, .slice B3 Cells.length c3]) (vs := [vi rows, vi cols, .slice B3 Cells.length c3]) (k := 0) (cs' := [vi rows, vi cols, .slice B3 Cells.length c3]) hS4 k_sz_37_3 rfl (hf.get 6 3 rfl) rfl rfl rfl rfl rfl (lB rfl) rfl rfl) ?_
  rintro _ w_14 ⟨rfl, hS20⟩
  refine rw_nil (cw_ret ?_)
  obtain ⟨rfl, rfl⟩ := pr2 (some_inj hF1)
  exact ret1 Tryz.results221 (v1 := .agg #[vi rows, vi cols, .slice B3 Cells.length c3]) (resAt_cellA (B := aD b) (i := 0) (cs := [vi rows, vi cols, .slice B3 Cells.length c3]) (vs := [vi rows, vi cols, .slice B3 Cells.length c3]) (hf.get 6 3 rfl) k_ag_37 k_sz_37_3 (hS20.cf (i := 1) rfl) rfl rfl) ⟨B3, c3, rfl, (hS20.sN [0, 3])⟩

theorem c_spec_l1Cur_coef (c : Tl1Cur) (B : Option Addr) (B1 : Option Addr) (c1 n : Nat) (w0 : World) (hn : c.code.length = n) (hS : ST w0 (bl [⟨B, 112, [.slice B1 n c1, vi c.at_, .int .u64 c.seed], 3⟩]) w0 [⟨B, 112, [.slice B1 n c1, vi c.at_, .int .u64 c.seed], 3⟩] [⟨B1, (c.code.flatMap enc_u8)⟩]) {r_ : Int} {m : Tl1Cur} (hF : F_spec_l1Cur_coef c = some (r_, m)) :
  CV Tryz.prog 264 #[pt B 0] w0 (fun v w' => v = vi r_ ∧ ST w0 (bl [⟨B, 112, [.slice B1 n c1, vi c.at_, .int .u64 c.seed], 3⟩]) w' [⟨B, 112, [.slice B1 n c1, vi m.at_, .int .u64 m.seed], 3⟩] []) := by
 subst hn
 unfold F_spec_l1Cur_coef at hF
 refine cv_of_cw 24 Tryz.func264 rfl Tryz.ntmps264 rfl ?_
 refine cw_seq (cw_region ?_)
 refine sQ 2 (Y_assign (v := vi 0) rfl rfl) (rw_nil (cw_seq (cw_seq (cw_region ?_))))
 refine sQ 3 (Y_move (v := pt B 0) rfl rfl) ?_
 obtain ⟨⟨r_1, m1⟩, hc, hF⟩ := bind_inv hF
 refine sc 4 rfl rfl (Yc_func (g := 71) (vs := [pt B 0, vi 24]) k_call_71 rfl (mc rfl (mc rfl mn)) (c_spec_l1Cur_pick c 24 B B1 c1 c.code.length _ rfl (hS.inn [true] rfl [(true, 0)] rfl) hc)) ?_
 rintro _ w_ ⟨rfl, hd⟩
 have hS1 := hS.out [true] rfl hd
 refine rw_nil (cw_block (cw_seq (cw_region ?_)))
 refine sQ 6 (Y_eq (k := .i64) (a := r_1) (b := 0) rfl rfl rfl) ?_
 refine sQ 5 (Y_assign (v := .bool (r_1 == 0)) rfl rfl) (rw_nil ?_)
 refine cw_cond (b := (r_1 == 0)) rfl (fun hb => ?_) (fun hb => ?_)
 ·skip
  have hF1 := ct hF hb
  refine cw_seq (cw_region ?_)
  refine sQ 7 (Y_move (v := pt B 0) rfl rfl) ?_
  refine sS 8 (Ys_bslice (s := 1) (len := 4) (vs := [(0, vi 1000000000), (1, vi (-1000000000)), (2, vi 1000000001), (3, vi (-1000000001))]) (cs := [vi 1000000000, vi (-1000000000), vi 1000000001, vi (-1000000001)]) (zs := [vi 0, vi 0, vi 0, vi 0]) (m := 4) hS1 k_sl_66_3 k_sz_3_1 k_zc_3 rfl (mpc rfl (mpc rfl (mpc rfl (mpc rfl mpn)))) rfl rfl rfl (by kernel_rfl) (by kernel_rfl) rfl) ?_
  rintro _ w_1 ⟨b, rfl, hS2⟩
  obtain ⟨⟨r_2, m2⟩, hc1, hF1⟩ := bind_inv hF1
  refine sc 9 rfl rfl (Yc_func (g := 153) (vs := [pt B 0, .slice (aD b) 4 4]) k_call_153 rfl (mc rfl (mc rfl mn)) (c_spec_l1Cur_among (Tl1Cur.mk c.code m1.at_ m1.seed) [1000000000, (-1000000000), 1000000001, (-1000000001)] B B1 c1 c.code.length (aD b) 4 4 _ rfl rfl (hS2.inn [true, false] rfl [(true, 0), (false, 0)] rfl) hc1)) ?_
  rintro _ w_2 ⟨rfl, hd1⟩
  have hS3 := hS2.out [true, false] rfl hd1
  refine sQ 2 (Y_assign (v := vi r_2) rfl rfl) (rw_nil (cw_ret ?_))
  obtain ⟨rfl, rfl⟩ := pr2 (some_inj hF1)
  exact ret1 Tryz.results264 (v1 := vi r_2) (resAt_tmp rfl) ⟨rfl, (hS3.sN [1])⟩
 ·skip
  have hF2 := cf' hF hb
  refine cw_seq (cw_region ?_)
  refine sQ 11 (Y_eq (k := .i64) (a := r_1) (b := 1) rfl rfl rfl) ?_
  refine sQ 10 (Y_assign (v := .bool (r_1 == 1)) rfl rfl) (rw_nil ?_)
  refine cw_cond (b := (r_1 == 1)) rfl (fun hb1 => ?_) (fun hb1 => ?_)
  ·skip
   have hF3 := ct hF2 hb1
   refine cw_seq (cw_region ?_)
   refine sQ 12 (Y_move (v := pt B 0) rfl rfl) ?_
   obtain ⟨⟨r_3, m3⟩, hc2, hF3⟩ := bind_inv hF3
   refine sc 13 rfl rfl (Yc_func (g := 71) (vs := [pt B 0, vi 60000]) k_call_71 rfl (mc rfl (mc rfl mn)) (c_spec_l1Cur_pick (Tl1Cur.mk c.code m1.at_ m1.seed) 60000 B B1 c1 c.code.length _ rfl (hS1.inn [true] rfl [(true, 0)] rfl) hc2)) ?_
   rintro _ w_3 ⟨rfl, hd2⟩
   have hS4 := hS1.out [true] rfl hd2
   refine sQ 14 (Y_mul (k := .i64) (a := r_3) (b := 1000) rfl rfl rfl) ?_
   refine sQ 2 (Y_assign (v := vi (i64.wrap (r_3 * 1000))) rfl rfl) (rw_nil (cw_ret ?_))
   obtain ⟨rfl, rfl⟩ := pr2 (some_inj hF3)
   exact ret1 Tryz.results264 (v1 := vi (i64.wrap (r_3 * 1000))) (resAt_tmp rfl) ⟨rfl, (hS4.sN [0])⟩
  ·skip
   have hF4 := cf' hF2 hb1
   refine cw_seq ?_
   obtain ⟨z, hz, hF5⟩ := bind_inv hF4
   refine cw_mid (fun f w => ∃ (t : Bool), t = z ∧ FF f [(0, pt B 0), (15, .bool t)] ∧ ST w0 (bl [⟨B, 112, [.slice B1 c.code.length c1, vi c.at_, .int .u64 c.seed], 3⟩]) w [⟨B, 112, [.slice B1 c.code.length c1, vi m1.at_, .int .u64 m1.seed], 3⟩] [⟨B1, (c.code.flatMap enc_u8)⟩]) ?_ ?_
   ·skip
    refine cw_seq (cw_region ?_)
    refine sQ 16 (Y_eq (k := .i64) (a := r_1) (b := 2) rfl rfl rfl) ?_
    refine sQ 15 (Y_assign (v := .bool (r_1 == 2)) rfl rfl) (rw_nil ?_)
    refine cw_cond (b := (r_1 == 2)) rfl (fun hb2 => ?_) (fun hb2 => ?_)
    ·skip
     have hF6 := ct hz hb2
     refine cw_skip ?_
     exact ⟨(r_1 == 2), (some_inj hF6), (FF.cons rfl (FF.cons rfl FF.nil)), (hS1.sel [0] rfl rfl)⟩
    ·skip
     have hF7 := cf' hz hb2
     refine cw_region ?_
     refine sQ 17 (Y_eq (k := .i64) (a := r_1) (b := 3) rfl rfl rfl) ?_
     refine sQ 15 (Y_assign (v := .bool (r_1 == 3)) rfl rfl) (rw_nil ?_)
     exact ⟨(r_1 == 3), (some_inj hF7), (FF.cons rfl (FF.cons rfl FF.nil)), (hS1.sel [0] rfl rfl)⟩
   rintro f w ⟨t, rfl, hf, hS5⟩
   refine cw_cond (b := t) (hf.get 15 1 rfl) (fun hb3 => ?_) (fun hb3 => ?_)
   ·skip
    have hF8 := ct hF5 hb3
    refine cw_seq (cw_region ?_)
    refine sQ 18 (Y_move (v := pt B 0) rfl (hf.get 0 0 rfl)) ?_
    obtain ⟨⟨r_4, m4⟩, hc3, hF8⟩ := bind_inv hF8
    refine sc 19 rfl rfl (Yc_func (g := 71) (vs := [pt B 0, vi 2000]) k_call_71 rfl (mc rfl (mc rfl mn)) (c_spec_l1Cur_pick (Tl1Cur.mk c.code m1.at_ m1.seed) 2000 B B1 c1 c.code.length _ rfl (hS5.inn [true] rfl [(true, 0)] rfl) hc3)) ?_
    rintro _ w_4 ⟨rfl, hd3⟩
    have hS6 := hS5.out [true] rfl hd3
    refine sQ 20 (Y_sub (k := .i64) (a := r_4) (b := 1000) rfl rfl rfl) ?_
    refine sQ 2 (Y_assign (v := vi (i64.wrap (r_4 - 1000))) rfl rfl) (rw_nil (cw_ret ?_))
    obtain ⟨rfl, rfl⟩ := pr2 (some_inj hF8)
    exact ret1 Tryz.results264 (v1 := vi (i64.wrap (r_4 - 1000))) (resAt_tmp rfl) ⟨rfl, (hS6.sN [0])⟩
   ·skip
    have hF9 := cf' hF5 hb3
    refine cw_skip (cw_seq (cw_region ?_))
    refine sQ 21 (Y_move (v := pt B 0) rfl (hf.get 0 0 rfl)) ?_
    obtain ⟨⟨r_5, m5⟩, hc4, hF9⟩ := bind_inv hF9
    refine sc 22 rfl rfl (Yc_func (g := 71) (vs := [pt B 0, vi 9]) k_call_71 rfl (mc rfl (mc rfl mn)) (c_spec_l1Cur_pick (Tl1Cur.mk c.code m1.at_ m1.seed) 9 B B1 c1 c.code.length _ rfl (hS5.inn [true] rfl [(true, 0)] rfl) hc4)) ?_
    rintro _ w_5 ⟨rfl, hd4⟩
    have hS7 := hS5.out [true] rfl hd4
    refine sQ 23 (Y_sub (k := .i64) (a := r_5) (b := 4) rfl rfl rfl) ?_
    refine sQ 2 (Y_assign (v := vi (i64.wrap (r_5 - 4))) rfl rfl) (rw_nil (cw_ret ?_))
    obtain ⟨rfl, rfl⟩ := pr2 (some_inj hF9)
    exact ret1 Tryz.results264 (v1 := vi (i64.wrap (r_5 - 4))) (resAt_tmp rfl) ⟨rfl, (hS7.sN [0])⟩

theorem c_spec_l1Cur_anyRing (c : Tl1Cur) (B : Option Addr) (B1 : Option Addr) (c1 n : Nat) (w0 : World) (hn : c.code.length = n) (hS : ST w0 (bl [⟨B, 112, [.slice B1 n c1, vi c.at_, .int .u64 c.seed], 3⟩]) w0 [⟨B, 112, [.slice B1 n c1, vi c.at_, .int .u64 c.seed], 3⟩] [⟨B1, (c.code.flatMap enc_u8)⟩]) {r_ : TRing} {m : Tl1Cur} (hF : F_spec_l1Cur_anyRing c = some (r_, m)) :
  CV Tryz.prog 247 #[pt B 0] w0 (fun v w' => v = (gR_ r_) ∧ ST w0 (bl [⟨B, 112, [.slice B1 n c1, vi c.at_, .int .u64 c.seed], 3⟩]) w' [⟨B, 112, [.slice B1 n c1, vi m.at_, .int .u64 m.seed], 3⟩] []) := by
 subst hn
 unfold F_spec_l1Cur_anyRing at hF
 refine cv_of_cw 16 Tryz.func247 rfl Tryz.ntmps247 rfl ?_
 refine cw_seq (cw_region ?_)
 refine sS 2 (Ys_alloc (T := 52) (cs := [vi 0, vi 0, vi 0, vi 0]) (m := 4) hS k_zero_52 rfl rfl rfl) ?_
 rintro _ w_ ⟨b, rfl, hS1⟩
 refine rw_nil (cw_seq (cw_seq (cw_region ?_)))
 refine sQ 3 (Y_move (v := pt B 0) rfl rfl) ?_
 obtain ⟨⟨r_1, m1⟩, hc, hF⟩ := bind_inv hF
 refine sc 4 rfl rfl (Yc_func (g := 90) (vs := [pt B 0, vi 3]) k_call_90 rfl (mc rfl (mc rfl mn)) (c_spec_l1Cur_one c 3 B B1 c1 c.code.length _ rfl (hS1.inn [true, false] rfl [(true, 0)] rfl) hc)) ?_
 rintro _ w_1 ⟨rfl, hd⟩
 have hS2 := hS1.out [true, false] rfl hd
 refine rw_nil ?_
 refine cw_cond (b := r_1) rfl (fun hb => ?_) (fun hb => ?_)
 ·skip
  have hF1 := ct hF hb
  refine cw_seq (cw_region ?_)
  refine sQ 5 (Y_move (v := pt B 0) rfl rfl) ?_
  obtain ⟨⟨r_2, m2⟩, hc1, hF1⟩ := bind_inv hF1
  refine sc 6 rfl rfl (Yc_func (g := 264) (vs := [pt B 0]) k_call_264 rfl (mc rfl mn) (c_spec_l1Cur_coef (Tl1Cur.mk c.code m1.at_ m1.seed) B B1 c1 c.code.length _ rfl (hS2.inn [false, true] rfl [(true, 0)] rfl) hc1)) ?_
  rintro _ w_2 ⟨rfl, hd1⟩
  have hS3 := hS2.out [false, true] rfl hd1
  refine sQ 7 (Y_move (v := pt B 0) rfl rfl) ?_
  obtain ⟨⟨r_3, m3⟩, hc2, hF1⟩ := bind_inv hF1
  refine sc 8 rfl rfl (Yc_func (g := 264) (vs := [pt B 0]) k_call_264 rfl (mc rfl mn) (c_spec_l1Cur_coef (Tl1Cur.mk c.code m2.at_ m2.seed) B B1 c1 c.code.length _ rfl (hS3.inn [false, true] rfl [(true, 0)] rfl) hc2)) ?_
  rintro _ w_3 ⟨rfl, hd2⟩
  have hS4 := hS3.out [false, true] rfl hd2
  refine sQ 9 (Y_move (v := pt B 0) rfl rfl) ?_
  obtain ⟨⟨r_4, m4⟩, hc3, hF1⟩ := bind_inv hF1
  refine sc 10 rfl rfl (Yc_func (g := 264) (vs := [pt B 0]) k_call_264 rfl (mc rfl mn) (c_spec_l1Cur_coef (Tl1Cur.mk c.code m3.at_ m3.seed) B B1 c1 c.code.length _ rfl (hS4.inn [false, true] rfl [(true, 0)] rfl) hc3)) ?_
  rintro _ w_4 ⟨rfl, hd3⟩
  have hS5 := hS4.out [false, true] rfl hd3
  refine sQ 11 (Y_move (v := pt B 0) rfl rfl) ?_
  obtain ⟨⟨r_5, m5⟩, hc4, hF1⟩ := bind_inv hF1
  refine sc 12 rfl rfl (Yc_func (g := 264) (vs := [pt B 0]) k_call_264 rfl (mc rfl mn) (c_spec_l1Cur_coef (Tl1Cur.mk c.code m4.at_ m4.seed) B B1 c1 c.code.length _ rfl (hS5.inn [false, true] rfl [(true, 0)] rfl) hc4)) ?_
  rintro _ w_5 ⟨rfl, hd4⟩
  have hS6 := hS5.out [false, true] rfl hd4
  refine sQ 13 (Y_buildS (zs := [vi 0, vi 0, vi 0, vi 0]) (vs := [(0, vi r_2), (1, vi r_3), (2, vi r_4), (3, vi r_5)]) (cs := [vi r_2, vi r_3, vi r_4, vi r_5]) k_pl_52 k_zero_52 rfl (mpc rfl (mpc rfl (mpc rfl (mpc rfl mpn)))) rfl) ?_
  refine s0 (Ys_store (i := 0) (s := 4) (B := aD b) (T' := 52) (v := .agg #[vi r_2, vi r_3, vi r_4, vi r_5]) (vs := [vi r_2, vi r_3, vi r_4, vi r_5]) (k := 0) (cs' := [vi r_2, vi r_3, vi r_4, vi r_5]) hS6 k_sz_52_4 rfl rfl rfl rfl rfl rfl rfl (lB rfl) rfl rfl) ?_
  rintro _ w_6 ⟨rfl, hS7⟩
  refine rw_nil (cw_ret ?_)
  obtain ⟨rfl, rfl⟩ := pr2 (some_inj hF1)
  exact ret1 Tryz.results247 (v1 := .agg #[vi r_2, vi r_3, vi r_4, vi r_5]) (resAt_cellA (B := aD b) (i := 0) (cs := [vi r_2, vi r_3, vi r_4, vi r_5]) (vs := [vi r_2, vi r_3, vi r_4, vi r_5]) rfl k_ag_52 k_sz_52_4 (hS7.cf (i := 0) rfl) rfl rfl) ⟨rfl, (hS7.sN [1])⟩
 ·skip
  have hF2 := cf' hF hb
  refine cw_skip (cw_seq (cw_region ?_))
  refine sQ 14 (Y_move (v := pt B 0) rfl rfl) ?_
  obtain ⟨⟨r_6, m6⟩, hc5, hF2⟩ := bind_inv hF2
  refine sc 15 rfl rfl (Yc_func (g := 223) (vs := [pt B 0]) k_call_223 rfl (mc rfl mn) (c_spec_l1Cur_ring (Tl1Cur.mk c.code m1.at_ m1.seed) B B1 c1 c.code.length _ rfl (hS2.inn [false, true] rfl [(true, 0)] rfl) hc5)) ?_
  rintro _ w_7 ⟨rfl, hd5⟩
  have hS8 := hS2.out [false, true] rfl hd5
  refine s0 (Ys_store (i := 0) (s := 4) (B := aD b) (T' := 52) (v := gR_ r_6) (vs := kR_ r_6) (k := 0) (cs' := kR_ r_6) hS8 k_sz_52_4 rfl rfl rfl rfl rfl rfl rfl (lB rfl) rfl rfl) ?_
  rintro _ w_8 ⟨rfl, hS9⟩
  refine rw_nil (cw_ret ?_)
  obtain ⟨rfl, rfl⟩ := pr2 (some_inj hF2)
  exact ret1 Tryz.results247 (v1 := gR_ r_6) (resAt_cellA (B := aD b) (i := 0) (cs := kR_ r_6) (vs := kR_ r_6) rfl k_ag_52 k_sz_52_4 (hS9.cf (i := 0) rfl) rfl rfl) ⟨rfl, (hS9.sN [1])⟩
end Go.VK
