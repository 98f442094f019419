/- Walks: each Go function returns what its Lean function says. By program. -/
import Derived.Test.YtchihdcajdocgaaGreatLWeightsFa
import Derived.Test.YtchihdcajdocgaaGreatLWeightsW3
set_option linter.unusedVariables false
set_option maxRecDepth 100000
set_option maxHeartbeats 4000000
namespace Go.VK
open Go.RowKit
open Go.Proofs
open Go.IntKind
attribute [local irreducible] CW RW RA CV Y Yw Yc Ys RetOf
attribute [local irreducible] F_laws_big F_spec_l1In F_spec_l4Gate F_spec_l4Good F_spec_l2C_matrix F_spec_l1All F_spec_l1Good F_spec_l2C_ring F_spec_l1Root F_spec_l1Even F_spec_l1Half F_spec_l2Low F_spec_l1Add F_spec_l2C_add F_spec_l1Mul F_spec_l2C_mul F_spec_l2C_times F_spec_l1Turn F_spec_l2Power F_spec_l6Bit F_spec_l1Neg F_spec_l2Neg F_spec_l6One F_spec_l6Cell F_spec_l6Gate F_spec_l2C_run F_spec_l3Unit F_spec_OperatorOf F_spec_EqualMatrices F_spec_l1Cur_next F_spec_l1Cur_pick F_spec_l1Cur_among F_spec_l1Cur_gate F_spec_l1Cur_built F_spec_l1Cur_circuit F_spec_l1Cur_anyCircuit F_spec_l1Most F_spec_l1Least F_spec_DrawStateAfter F_impl_within F_slices_IndexFunc_impl_Gate_impl_Gate F_slices_ContainsFunc_impl_Gate_impl_Gate F_impl_isTwo F_impl_IsValidGate F_impl_IsValidCircuit_1 F_impl_IsValidCircuit F_impl_isDim F_impl_matrixOf F_impl_whole F_impl_IdentityMatrix_1 F_impl_IdentityMatrix F_impl_isCoef F_impl_IsValidRing F_impl_MulOmega F_impl_phase F_impl_bitOf F_impl_flipped F_impl_comesFrom F_impl_small F_impl_entry F_impl_GateMatrix_1 F_impl_GateMatrix F_slices_IndexFunc_impl_Dyadic_impl_Dyadic F_slices_ContainsFunc_impl_Dyadic_impl_Dyadic F_impl_isEven F_impl_IsValidDyadic F_impl_IsValidMatrix_1 F_impl_IsValidMatrix F_impl_Matrix_at F_impl_ringIf F_impl_MulRing F_impl_DivRootTwo F_impl_DyadicOf F_impl_MulDyadic F_impl_MulRootTwo F_impl_raised F_impl_combined F_impl_AddRing F_impl_AddDyadic F_impl_MulMatrix_1 F_impl_MulMatrix F_impl_applied F_impl_ColumnOf_1 F_impl_ColumnOf F_impl_StateAfter F_spec_l3Column F_spec_StateAfter F_impl_Conjugate F_impl_ConjDyadic F_impl_NormSquare F_impl_OutcomeWeight F_spec_l2Good F_spec_l2C_out F_spec_AddDyadic F_spec_l1Has F_spec_l3Dim F_spec_l3Good F_spec_ColumnOf F_spec_l1Cur_one F_spec_l1Cur_ring F_spec_l1Cur_dyadic F_spec_l1Cur_matrix F_spec_l1Cur_coef F_spec_l1Cur_anyRing F_spec_l1Cur_anyDyadic F_spec_l1Cur_anyMatrix F_spec_l1Cur_turned F_spec_DrawEqualUpToPhase F_impl_ScaleMatrix_1 F_impl_ScaleMatrix F_slices_Equal_impl_Dyadic_impl_Dyadic F_impl_EqualMatrices F_impl_EqualUpToPhase F_spec_MulOmega F_spec_ScaleMatrix F_spec_l6Turned F_spec_l6Phase F_spec_EqualUpToPhase F_laws_FnWeights
theorem c_spec_l1Cur_anyDyadic (c : Tl1Cur) (B : Option Addr) (B1 : Option Addr) (c1 n : Nat) (w0 : World) (hn : c.code.length = n) (hS : ST w0 (bl [⟨B, 112, [.slice B1 n c1, vi c.at_, .int .u64 c.seed], 3⟩]) w0 [⟨B, 112, [.slice B1 n c1, vi c.at_, .int .u64 c.seed], 3⟩] [⟨B1, (c.code.flatMap enc_u8)⟩]) {r_ : TDyadic} {m : Tl1Cur} (hF : F_spec_l1Cur_anyDyadic c = some (r_, m)) :
  CV Tryz.prog 222 #[pt B 0] w0 (fun v w' => v = (gD_ r_) ∧ ST w0 (bl [⟨B, 112, [.slice B1 n c1, vi c.at_, .int .u64 c.seed], 3⟩]) w' [⟨B, 112, [.slice B1 n c1, vi m.at_, .int .u64 m.seed], 3⟩] []) := by
 subst hn
 unfold F_spec_l1Cur_anyDyadic at hF
 refine cv_of_cw 32 Tryz.func222 rfl Tryz.ntmps222 rfl ?_
 refine cw_seq (cw_region ?_)
 refine sS 2 (Ys_alloc (T := 54) (cs := kZ_) (m := 5) hS k_zero_54 rfl rfl rfl) ?_
 rintro _ w_ ⟨b, rfl, hS1⟩
 refine rw_nil (cw_seq ?_)
 obtain ⟨z, hz, hF1⟩ := bind_inv hF
 refine cw_mid (fun f w => ∃ (at_ : Int) (seed : Int), .inl (at_, seed) = z ∧ FF f [(0, pt B 0), (2, pt (aD b) 0)] ∧ ST w0 (bl [⟨B, 112, [.slice B1 c.code.length c1, vi c.at_, .int .u64 c.seed], 3⟩]) w [⟨B, 112, [.slice B1 c.code.length c1, vi at_, .int .u64 seed], 3⟩, ⟨aD b, 54, kZ_, 5⟩] [⟨B1, (c.code.flatMap enc_u8)⟩]) ?_ ?_
 ·skip
  refine cw_seq (cw_region ?_)
  refine sQ 4 (Y_move (v := pt B 0) rfl rfl) ?_
  obtain ⟨⟨r_1, m1⟩, hc, hz⟩ := bind_inv hz
  refine sc 5 rfl rfl (Yc_func (g := 71) (vs := [pt B 0, vi 14]) k_call_71 rfl (mc rfl (mc rfl mn)) (c_spec_l1Cur_pick c 14 B B1 c1 c.code.length _ rfl (hS1.inn [true, false] rfl [(true, 0)] rfl) hc)) ?_
  rintro _ w_1 ⟨rfl, hd⟩
  have hS3 := hS1.out [true, false] rfl hd
  refine rw_nil (cw_block (cw_seq (cw_region ?_)))
  refine sQ 7 (Y_eq (k := .i64) (a := r_1) (b := 0) rfl rfl rfl) ?_
  refine sQ 6 (Y_assign (v := .bool (r_1 == 0)) rfl rfl) (rw_nil ?_)
  refine cw_cond (b := (r_1 == 0)) rfl (fun hb => ?_) (fun hb => ?_)
  ·skip
   have hF2 := ct hz hb
   refine cw_seq (cw_region ?_)
   refine sQ 8 (Y_move (v := pt B 0) rfl rfl) ?_
   obtain ⟨⟨r_2, m2⟩, hc1, hF2⟩ := bind_inv hF2
   refine sc 9 rfl rfl (Yc_func (g := 223) (vs := [pt B 0]) k_call_223 rfl (mc rfl mn) (c_spec_l1Cur_ring (Tl1Cur.mk c.code m1.at_ m1.seed) B B1 c1 c.code.length _ rfl (hS3.inn [false, true] rfl [(true, 0)] rfl) hc1)) ?_
   rintro _ w_2 ⟨rfl, hd1⟩
   have hS4 := hS3.out [false, true] rfl hd1
   refine sQ 10 (Y_move (v := pt B 0) rfl rfl) ?_
   refine sS 11 (Ys_bslice (s := 1) (len := 5) (vs := [(0, vi 1), (1, vi 2), (2, vi 60), (3, vi 61), (4, vi (-1))]) (cs := [vi 1, vi 2, vi 60, vi 61, vi (-1)]) (zs := kZ_) (m := 5) hS4 k_sl_66_3 k_sz_3_1 k_zc_3 rfl (mpc rfl (mpc rfl (mpc rfl (mpc rfl (mpc rfl mpn))))) rfl rfl rfl (by kernel_rfl) (by kernel_rfl) rfl) ?_
   rintro _ w_3 ⟨b1, rfl, hS5⟩
   obtain ⟨⟨r_3, m3⟩, hc2, hF2⟩ := bind_inv hF2
   refine sc 12 rfl rfl (Yc_func (g := 153) (vs := [pt B 0, .slice (aD b1) 5 5]) k_call_153 rfl (mc rfl (mc rfl mn)) (c_spec_l1Cur_among (Tl1Cur.mk c.code m2.at_ m2.seed) [1, 2, 60, 61, (-1)] B B1 c1 c.code.length (aD b1) 5 5 _ rfl rfl (hS5.inn [false, true, false] rfl [(true, 0), (false, 1)] rfl) hc2)) ?_
   rintro _ w_4 ⟨rfl, hd2⟩
   have hS6 := hS5.out [false, true, false] rfl hd2
   refine sQ 13 (Y_buildS (zs := kZ_) (vs := [(0, gR_ r_2), (1, vi r_3)]) (cs := [vi r_2.A, vi r_2.B, vi r_2.C, vi r_2.D, vi r_3]) k_pl_54 k_zero_54 rfl (mpc rfl (mpc rfl mpn)) rfl) ?_
   refine s0 (Ys_store (i := 0) (s := 5) (B := aD b) (T' := 54) (v := .agg #[vi r_2.A, vi r_2.B, vi r_2.C, vi r_2.D, vi r_3]) (vs := [vi r_2.A, vi r_2.B, vi r_2.C, vi r_2.D, vi r_3]) (k := 0) (cs' := [vi r_2.A, vi r_2.B, vi r_2.C, vi r_2.D, vi r_3]) hS6 k_sz_54_5 rfl rfl rfl rfl rfl rfl rfl (lB rfl) rfl rfl) ?_
   rintro _ w_5 ⟨rfl, hS7⟩
   refine rw_nil (cw_ret ?_)
   obtain rfl := some_inj hF2
   obtain ⟨rfl, rfl⟩ := pr2 (some_inj hF1)
   exact ret1 Tryz.results222 (v1 := .agg #[vi r_2.A, vi r_2.B, vi r_2.C, vi r_2.D, vi r_3]) (resAt_cellA (B := aD b) (i := 0) (cs := [vi r_2.A, vi r_2.B, vi r_2.C, vi r_2.D, vi r_3]) (vs := [vi r_2.A, vi r_2.B, vi r_2.C, vi r_2.D, vi r_3]) rfl k_ag_54 k_sz_54_5 (hS7.cf (i := 0) rfl) rfl rfl) ⟨rfl, (hS7.sN [2])⟩
  ·skip
   have hF3 := cf' hz hb
   refine cw_seq (cw_region ?_)
   refine sQ 15 (Y_eq (k := .i64) (a := r_1) (b := 1) rfl rfl rfl) ?_
   refine sQ 14 (Y_assign (v := .bool (r_1 == 1)) rfl rfl) (rw_nil ?_)
   refine cw_cond (b := (r_1 == 1)) rfl (fun hb1 => ?_) (fun hb1 => ?_)
   ·skip
    have hF4 := ct hF3 hb1
    refine cw_seq (cw_region ?_)
    refine sQ 16 (Y_move (v := pt B 0) rfl rfl) ?_
    obtain ⟨⟨r_4, m4⟩, hc3, hF4⟩ := bind_inv hF4
    refine sc 17 rfl rfl (Yc_func (g := 247) (vs := [pt B 0]) k_call_247 rfl (mc rfl mn) (c_spec_l1Cur_anyRing (Tl1Cur.mk c.code m1.at_ m1.seed) B B1 c1 c.code.length _ rfl (hS3.inn [false, true] rfl [(true, 0)] rfl) hc3)) ?_
    rintro _ w_6 ⟨rfl, hd3⟩
    have hS8 := hS3.out [false, true] rfl hd3
    refine sS 3 (Ys_alloc (T := 52) (cs := [vi 0, vi 0, vi 0, vi 0]) (m := 4) hS8 k_zero_52 rfl rfl rfl) ?_
    rintro _ w_7 ⟨b2, rfl, hS9⟩
    refine s0 (Ys_store (i := 2) (s := 4) (B := aD b2) (T' := 52) (v := gR_ r_4) (vs := kR_ r_4) (k := 0) (cs' := kR_ r_4) hS9 k_sz_52_4 rfl rfl rfl rfl rfl rfl rfl (lB rfl) rfl rfl) ?_
    rintro _ w_8 ⟨rfl, hS10⟩
    refine rw_nil (cw_seq (cw_region ?_))
    refine sQ 18 (Y_loadA (B := aD b2) (i := 0) (cs := kR_ r_4) (vs := kR_ r_4) k_ag_52 k_sz_52_4 rfl rfl (hS10.cf (i := 2) rfl) rfl rfl) ?_
    obtain ⟨r_5, hc4, hF4⟩ := bind_inv hF4
    refine sc 19 rfl rfl (Yc_func (g := 86) (vs := [gR_ r_4]) k_call_86 rfl (mc rfl mn) (c_spec_l1Good r_4 _  (hS10.inn0 [] rfl) hc4)) ?_
    rintro _ w_9 ⟨rfl, hd4⟩
    have hS11 := hS10.out00 hd4
    refine rw_nil ?_
    refine cw_cond (b := r_5) rfl (fun hb2 => ?_) (fun hb2 => ?_)
    ·skip
     have hF5 := ct hF4 hb2
     refine cw_seq ?_
     obtain ⟨⟨r_6, m5⟩, hc5, hF5⟩ := bind_inv hF5
     obtain ⟨r_7, hc6, hF5⟩ := bind_inv hF5
     refine ra_start (hS11.se [2]).fn (by kernel_rfl) ?_
     have hS14 := hS11.drew
     refine rq 0 20 (v := gR_ r_4) rfl (hS14.se [2]) (fun w' hw' => (Y_loadA (B := aD b2) (i := 0) (cs := kR_ r_4) (vs := kR_ r_4) k_ag_52 k_sz_52_4 rfl rfl (ST.cf hw' (i := 0) rfl) rfl rfl)) ?_
     refine rq 1 21 (v := pt B 0) rfl (hS14.se [2]) (fun w' hw' => (Y_move (v := pt B 0) rfl rfl)) ?_
     refine rA [2] ?_
     refine ra_s 22 (i := 2) rfl rfl rfl (Ys_bslice (s := 1) (len := 4) (vs := [(0, vi 0), (1, vi 3), (2, vi 59), (3, vi 60)]) (cs := [vi 0, vi 3, vi 59, vi 60]) (zs := [vi 0, vi 0, vi 0, vi 0]) (m := 4) hS14 k_sl_66_3 k_sz_3_1 k_zc_3 rfl (mpc rfl (mpc rfl (mpc rfl (mpc rfl mpn)))) rfl rfl rfl (by kernel_rfl) (by kernel_rfl) rfl) ?_ ?_
     ·rintro _ w_10 ⟨b3, rfl, hS15⟩
      refine ⟨(hS15.se [2]), ?_⟩
      refine rA [3] ?_
      refine ra_c 23 (i := 3) rfl rfl rfl (Yc_func (g := 153) (vs := [pt B 0, .slice (aD b3) 4 4]) k_call_153 rfl (mc rfl (mc rfl mn)) (c_spec_l1Cur_among (Tl1Cur.mk c.code m4.at_ m4.seed) [0, 3, 59, 60] B B1 c1 c.code.length (aD b3) 4 4 _ rfl rfl (hS15.inn [false, true, false, false] rfl [(true, 0), (false, 2)] rfl) hc5)) ?_ ?_
      ·rintro _ w_11 ⟨rfl, hd5⟩
       have hS16 := hS15.out [false, true, false, false] rfl hd5
       refine ⟨(hS16.se [1]), ?_⟩
       refine rA [4] ?_
       refine ra_c 24 (i := 4) rfl rfl rfl (Yc_func (g := 162) (vs := [gR_ r_4, vi r_6]) k_call_162 rfl (mc rfl (mc rfl mn)) (c_spec_l2Low r_4 r_6 _  (hS16.inn0 [] rfl) hc6)) ?_ ?_
       ·rintro _ w_12 ⟨rfl, hd6⟩
        have hS17 := hS16.out00 hd6
        refine ⟨(hS17.se [1]), ?_⟩
        refine rA [5] ?_
        refine ra_s0 (i := 5) rfl rfl rfl (Ys_store (i := 0) (s := 5) (B := aD b) (T' := 54) (v := gD_ r_7) (vs := kD_ r_7) (k := 0) (cs' := kD_ r_7) hS17 k_sz_54_5 rfl rfl rfl rfl rfl rfl rfl (lB rfl) rfl rfl) ?_ ?_
        ·rintro _ w_13 ⟨rfl, hS18⟩
         refine ⟨(hS18.se [1]), ?_⟩
         refine ra_done (by kernel_rfl) ?_
         refine cw_ret ?_
         obtain rfl := some_inj hF5
         obtain ⟨rfl, rfl⟩ := pr2 (some_inj hF1)
         exact ret1 Tryz.results222 (v1 := gD_ r_7) (resAt_cellA (B := aD b) (i := 0) (cs := kD_ r_7) (vs := kD_ r_7) rfl k_ag_54 k_sz_54_5 (hS18.cf (i := 0) rfl) rfl rfl) ⟨rfl, (hS18.sN [3])⟩
        exact allR_nil
       exact allR_nil
      exact allR_nil
     exact allR_nil
    ·skip
     have hF6 := cf' hF4 hb2
     refine cw_skip ?_
     exact ⟨m4.at_, m4.seed, (some_inj hF6), (FF.cons rfl (FF.cons rfl FF.nil)), (hS11.sel [1, 0] rfl rfl)⟩
   ·skip
    have hF7 := cf' hF3 hb1
    refine cw_seq (cw_region ?_)
    refine sQ 26 (Y_eq (k := .i64) (a := r_1) (b := 2) rfl rfl rfl) ?_
    refine sQ 25 (Y_assign (v := .bool (r_1 == 2)) rfl rfl) (rw_nil ?_)
    refine cw_cond (b := (r_1 == 2)) rfl (fun hb3 => ?_) (fun hb3 => ?_)
    ·skip
     have hF8 := ct hF7 hb3
     refine cw_seq (cw_region ?_)
     refine sQ 27 (Y_move (v := pt B 0) rfl rfl) ?_
     obtain ⟨⟨r_8, m6⟩, hc7, hF8⟩ := bind_inv hF8
     refine sc 28 rfl rfl (Yc_func (g := 71) (vs := [pt B 0, vi 8]) k_call_71 rfl (mc rfl (mc rfl mn)) (c_spec_l1Cur_pick (Tl1Cur.mk c.code m1.at_ m1.seed) 8 B B1 c1 c.code.length _ rfl (hS3.inn [false, true] rfl [(true, 0)] rfl) hc7)) ?_
     rintro _ w_14 ⟨rfl, hd7⟩
     have hS19 := hS3.out [false, true] rfl hd7
     obtain ⟨r_9, hc8, hF8⟩ := bind_inv hF8
     refine sc 29 rfl rfl (Yc_func (g := 148) (vs := [vi r_8]) k_call_148 rfl (mc rfl mn) (c_spec_l2Power r_8 _  (hS19.inn0 [] rfl) hc8)) ?_
     rintro _ w_15 ⟨rfl, hd8⟩
     have hS20 := hS19.out00 hd8
     refine s0 (Ys_store (i := 0) (s := 5) (B := aD b) (T' := 54) (v := gD_ r_9) (vs := kD_ r_9) (k := 0) (cs' := kD_ r_9) hS20 k_sz_54_5 rfl rfl rfl rfl rfl rfl rfl (lB rfl) rfl rfl) ?_
     rintro _ w_16 ⟨rfl, hS21⟩
     refine rw_nil (cw_ret ?_)
     obtain rfl := some_inj hF8
     obtain ⟨rfl, rfl⟩ := pr2 (some_inj hF1)
     exact ret1 Tryz.results222 (v1 := gD_ r_9) (resAt_cellA (B := aD b) (i := 0) (cs := kD_ r_9) (vs := kD_ r_9) rfl k_ag_54 k_sz_54_5 (hS21.cf (i := 0) rfl) rfl rfl) ⟨rfl, (hS21.sN [1])⟩
    ·skip
     have hF9 := cf' hF7 hb3
     refine cw_skip ?_
     exact ⟨m1.at_, m1.seed, (some_inj hF9), (FF.cons rfl (FF.cons rfl FF.nil)), (hS3.sel [1, 0] rfl rfl)⟩
 rintro f w ⟨at_, seed, rfl, hf, hS2⟩
 refine cw_seq (cw_region ?_)
 refine sQ 30 (Y_move (v := pt B 0) rfl (hf.get 0 0 rfl)) ?_
 obtain ⟨⟨r_10, m7⟩, hc9, hF1⟩ := bind_inv hF1
 refine sc 31 rfl rfl (Yc_func (g := 165) (vs := [pt B 0]) k_call_165 rfl (mc rfl mn) (c_spec_l1Cur_dyadic (Tl1Cur.mk c.code at_ seed) B B1 c1 c.code.length _ rfl (hS2.inn [true, false] rfl [(true, 0)] rfl) hc9)) ?_
 rintro _ w_17 ⟨rfl, hd9⟩
 have hS22 := hS2.out [true, false] rfl hd9
 refine s0 (Ys_store (i := 0) (s := 5) (B := aD b) (T' := 54) (v := gD_ r_10) (vs := kD_ r_10) (k := 0) (cs' := kD_ r_10) hS22 k_sz_54_5 rfl (hf.get 2 1 rfl) rfl rfl rfl rfl rfl (lB rfl) rfl rfl) ?_
 rintro _ w_18 ⟨rfl, hS23⟩
 refine rw_nil (cw_ret ?_)
 obtain ⟨rfl, rfl⟩ := pr2 (some_inj hF1)
 exact ret1 Tryz.results222 (v1 := gD_ r_10) (resAt_cellA (B := aD b) (i := 0) (cs := kD_ r_10) (vs := kD_ r_10) (hf.get 2 1 rfl) k_ag_54 k_sz_54_5 (hS23.cf (i := 0) rfl) rfl rfl) ⟨rfl, (hS23.sN [1])⟩

theorem c_spec_l1Cur_anyMatrix (c : Tl1Cur) (B : Option Addr) (B1 : Option Addr) (c1 n : Nat) (w0 : World) (hn : c.code.length = n) (hS : ST w0 (bl [⟨B, 112, [.slice B1 n c1, vi c.at_, .int .u64 c.seed], 3⟩]) w0 [⟨B, 112, [.slice B1 n c1, vi c.at_, .int .u64 c.seed], 3⟩] [⟨B1, (c.code.flatMap enc_u8)⟩]) {r_ : TMatrix} {m : Tl1Cur} (hF : F_spec_l1Cur_anyMatrix c = some (r_, m)) :
  CV Tryz.prog 164 #[pt B 0] w0 (fun v w' => ∃ (B2 : Option Addr) (c2 : Nat), v = (gM_ r_ B2 c2) ∧ r_.Cells.length ≤ c2 ∧ Org w0 (bl [⟨B, 112, [.slice B1 n c1, vi c.at_, .int .u64 c.seed], 3⟩]) [⟨B1, (c.code.flatMap enc_u8)⟩] [⟨B2, (r_.Cells.flatMap eN0)⟩] ∧ ST w0 (bl [⟨B, 112, [.slice B1 n c1, vi c.at_, .int .u64 c.seed], 3⟩]) w' [⟨B, 112, [.slice B1 n c1, vi m.at_, .int .u64 m.seed], 3⟩] [⟨B2, (r_.Cells.flatMap eN0)⟩]) := by
 subst hn
 unfold F_spec_l1Cur_anyMatrix at hF
 refine cv_of_cw 45 Tryz.func164 rfl Tryz.ntmps164 rfl ?_
 refine cw_seq (cw_region ?_)
 refine sS 2 (Ys_alloc (T := 37) (cs := kN_) (m := 3) hS k_zero_37 rfl rfl rfl) ?_
 rintro _ w_ ⟨b, rfl, hS1⟩
 refine rw_nil (cw_seq (cw_region ?_))
 refine sQ 4 (Y_move (v := pt B 0) rfl rfl) ?_
 refine sQ 5 (Y_move (v := pt B 0) rfl rfl) ?_
 refine sS 6 (Ys_bslice (s := 1) (len := 4) (vs := [(0, vi 1), (1, vi 2), (2, vi 2), (3, vi 4)]) (cs := [vi 1, vi 2, vi 2, vi 4]) (zs := [vi 0, vi 0, vi 0, vi 0]) (m := 4) hS1 k_sl_66_3 k_sz_3_1 k_zc_3 rfl (mpc rfl (mpc rfl (mpc rfl (mpc rfl mpn)))) rfl rfl rfl (by kernel_rfl) (by kernel_rfl) rfl) ?_
 rintro _ w_1 ⟨b1, rfl, hS2⟩
 obtain ⟨⟨r_1, m1⟩, hc, hF⟩ := bind_inv hF
 refine sc 7 rfl rfl (Yc_func (g := 153) (vs := [pt B 0, .slice (aD b1) 4 4]) k_call_153 rfl (mc rfl (mc rfl mn)) (c_spec_l1Cur_among c [1, 2, 2, 4] B B1 c1 c.code.length (aD b1) 4 4 _ rfl rfl (hS2.inn [true, false, false] rfl [(true, 0), (false, 1)] rfl) hc)) ?_
 rintro _ w_2 ⟨rfl, hd⟩
 have hS3 := hS2.out [true, false, false] rfl hd
 refine sQ 8 (Y_move (v := pt B 0) rfl rfl) ?_
 refine sS 9 (Ys_bslice (s := 1) (len := 4) (vs := [(0, vi 1), (1, vi 2), (2, vi 2), (3, vi 4)]) (cs := [vi 1, vi 2, vi 2, vi 4]) (zs := [vi 0, vi 0, vi 0, vi 0]) (m := 4) hS3 k_sl_66_3 k_sz_3_1 k_zc_3 rfl (mpc rfl (mpc rfl (mpc rfl (mpc rfl mpn)))) rfl rfl rfl (by kernel_rfl) (by kernel_rfl) rfl) ?_
 rintro _ w_3 ⟨b2, rfl, hS4⟩
 obtain ⟨⟨r_2, m2⟩, hc1, hF⟩ := bind_inv hF
 refine sc 10 rfl rfl (Yc_func (g := 153) (vs := [pt B 0, .slice (aD b2) 4 4]) k_call_153 rfl (mc rfl (mc rfl mn)) (c_spec_l1Cur_among (Tl1Cur.mk c.code m1.at_ m1.seed) [1, 2, 2, 4] B B1 c1 c.code.length (aD b2) 4 4 _ rfl rfl (hS4.inn [false, false, true, false] rfl [(true, 0), (false, 2)] rfl) hc1)) ?_
 rintro _ w_4 ⟨rfl, hd1⟩
 have hS5 := hS4.out [false, false, true, false] rfl hd1
 obtain ⟨⟨r_3, m3⟩, hc2, hF⟩ := bind_inv hF
 refine sc 11 rfl rfl (Yc_func (g := 221) (vs := [pt B 0, vi r_1, vi r_2]) k_call_221 rfl (mc rfl (mc rfl (mc rfl mn))) (c_spec_l1Cur_matrix (Tl1Cur.mk c.code m2.at_ m2.seed) r_1 r_2 B B1 c1 c.code.length _ rfl (hS5.inn [false, false, false, true] rfl [(true, 0)] rfl) hc2)) ?_
 rintro _ w_5 ⟨B3, c3, rfl, hd2⟩
 have hS6 := hS5.out [false, false, false, true] rfl hd2
 refine sS 3 (Ys_alloc (T := 37) (cs := kN_) (m := 3) hS6 k_zero_37 rfl rfl rfl) ?_
 rintro _ w_6 ⟨b3, rfl, hS7⟩
 refine s0 (Ys_store (i := 5) (s := 3) (B := aD b3) (T' := 37) (v := gM_ r_3 B3 c3) (vs := kM_ r_3 B3 c3) (k := 0) (cs' := kM_ r_3 B3 c3) hS7 k_sz_37_3 rfl rfl rfl rfl rfl rfl rfl (lB rfl) rfl rfl) ?_
 rintro _ w_7 ⟨rfl, hS8⟩
 refine rw_nil (cw_seq ?_)
 obtain ⟨z, hz, hF1⟩ := bind_inv hF
 refine cw_mid (fun f w => ∃ (at_ : Int) (seed : Int) (Rows : Int) (Cols : Int) (Cells : List TDyadic) (B4 : Option Addr) (c4 : Nat), (at_, seed, Rows, Cols, Cells) = z ∧ FF f [(2, pt (aD b) 0), (3, pt (aD b3) 0)] ∧ Org w0 (bl [⟨B, 112, [.slice B1 c.code.length c1, vi c.at_, .int .u64 c.seed], 3⟩]) [⟨B1, (c.code.flatMap enc_u8)⟩] [⟨B4, (Cells.flatMap eN0)⟩] ∧ Cells.length ≤ c4 ∧ ST w0 (bl [⟨B, 112, [.slice B1 c.code.length c1, vi c.at_, .int .u64 c.seed], 3⟩]) w [⟨B, 112, [.slice B1 c.code.length c1, vi at_, .int .u64 seed], 3⟩, ⟨aD b, 37, kN_, 3⟩, ⟨aD b3, 37, [vi Rows, vi Cols, .slice B4 Cells.length c4], 3⟩] [⟨B4, (Cells.flatMap eN0)⟩, ⟨B1, (c.code.flatMap enc_u8)⟩]) ?_ ?_
 ·skip
  refine cw_seq (cw_region ?_)
  refine sQ 12 (Y_move (v := pt B 0) rfl rfl) ?_
  obtain ⟨⟨r_4, m4⟩, hc3, hz⟩ := bind_inv hz
  refine sc 13 rfl rfl (Yc_func (g := 71) (vs := [pt B 0, vi 12]) k_call_71 rfl (mc rfl (mc rfl mn)) (c_spec_l1Cur_pick (Tl1Cur.mk c.code m3.at_ m3.seed) 12 B B1 c1 c.code.length _ rfl (hS8.inn [false, false, false, true, false, false] rfl [(true, 0)] rfl) hc3)) ?_
  rintro _ w_8 ⟨rfl, hd3⟩
  have hS10 := hS8.out [false, false, false, true, false, false] rfl hd3
  refine rw_nil (cw_block (cw_seq (cw_region ?_)))
  refine sQ 15 (Y_eq (k := .i64) (a := r_4) (b := 0) rfl rfl rfl) ?_
  refine sQ 14 (Y_assign (v := .bool (r_4 == 0)) rfl rfl) (rw_nil ?_)
  refine cw_cond (b := (r_4 == 0)) rfl (fun hb => ?_) (fun hb => ?_)
  ·skip
   have hF2 := ct hz hb
   refine cw_region ?_
   refine sQ 16 (Y_move (v := pt B 0) rfl rfl) ?_
   refine sS 17 (Ys_bslice (s := 1) (len := 5) (vs := [(0, vi 0), (1, vi 3), (2, vi 64), (3, vi (-1)), (4, vi 1)]) (cs := [vi 0, vi 3, vi 64, vi (-1), vi 1]) (zs := kZ_) (m := 5) hS10 k_sl_66_3 k_sz_3_1 k_zc_3 rfl (mpc rfl (mpc rfl (mpc rfl (mpc rfl (mpc rfl mpn))))) rfl rfl rfl (by kernel_rfl) (by kernel_rfl) rfl) ?_
   rintro _ w_9 ⟨b4, rfl, hS11⟩
   obtain ⟨⟨r_5, m5⟩, hc4, hF2⟩ := bind_inv hF2
   refine sc 18 rfl rfl (Yc_func (g := 153) (vs := [pt B 0, .slice (aD b4) 5 5]) k_call_153 rfl (mc rfl (mc rfl mn)) (c_spec_l1Cur_among (Tl1Cur.mk c.code m4.at_ m4.seed) [0, 3, 64, (-1), 1] B B1 c1 c.code.length (aD b4) 5 5 _ rfl rfl (hS11.inn [false, false, false, false, false, true, false] rfl [(true, 0), (false, 5)] rfl) hc4)) ?_
   rintro _ w_10 ⟨rfl, hd4⟩
   have hS12 := hS11.out [false, false, false, false, false, true, false] rfl hd4
   refine sQ 19 (Y_fieldAddr (B := aD b3) (i := 0) (s := 0) k_fd_37_0_0_3 k_sz_3_1 rfl rfl) ?_
   refine s0 (Ys_store (i := 4) (s := 1) (B := aD b3) (T' := 37) (v := vi r_5) (vs := [vi r_5]) (k := 0) (cs' := [vi r_5, vi r_3.Cols, .slice B3 r_3.Cells.length c3]) hS12 k_sz_3_1 rfl rfl rfl rfl rfl rfl rfl (lB rfl) rfl rfl) ?_
   rintro _ w_11 ⟨rfl, hS13⟩
   refine rw_nil ?_
   have ho1 : Org w0 (bl [⟨B, 112, [.slice B1 c.code.length c1, vi c.at_, .int .u64 c.seed], 3⟩]) [⟨B1, (c.code.flatMap enc_u8)⟩] [⟨B3, (r_3.Cells.flatMap eN0)⟩] := ST.orgOwn hS13 (i := 3) rfl
   have hcap : r_3.Cells.length ≤ c3 := (hS13.lencap (i := 3) rfl (fm_lenn (l := r_3.Cells) eN1 rfl) rfl rfl)
   have hS14 : ST w0 (bl [⟨B, 112, [.slice B1 c.code.length c1, vi c.at_, .int .u64 c.seed], 3⟩]) _ [⟨aD b, 37, kN_, 3⟩, ⟨aD b1, 3, ([1, 2, 2, 4].flatMap encI), 4 * 1⟩, ⟨aD b2, 3, ([1, 2, 2, 4].flatMap encI), 4 * 1⟩, ⟨aD b3, 37, [vi r_5, vi r_3.Cols, .slice B3 r_3.Cells.length c3], 3⟩, ⟨aD b4, 3, ([0, 3, 64, (-1), 1].flatMap encI), 5 * 1⟩, ⟨B, 112, [.slice B1 c.code.length c1, vi m5.at_, .int .u64 m5.seed], 3⟩] [⟨B3, (r_3.Cells.flatMap eN0)⟩, ⟨B1, (c.code.flatMap enc_u8)⟩] := hS13.freeze (i := 3) rfl
   exact ⟨m5.at_, m5.seed, r_5, r_3.Cols, r_3.Cells, B3, c3, (some_inj hF2), (FF.cons rfl (FF.cons rfl FF.nil)), ho1, (len_le rfl hcap), (hS14.sel [5, 0, 3] rfl rfl)⟩
  ·skip
   have hF3 := cf' hz hb
   refine cw_seq (cw_region ?_)
   refine sQ 21 (Y_eq (k := .i64) (a := r_4) (b := 1) rfl rfl rfl) ?_
   refine sQ 20 (Y_assign (v := .bool (r_4 == 1)) rfl rfl) (rw_nil ?_)
   refine cw_cond (b := (r_4 == 1)) rfl (fun hb1 => ?_) (fun hb1 => ?_)
   ·skip
    have hF4 := ct hF3 hb1
    obtain ⟨⟨r_6, m6⟩, hc5, hF4⟩ := bind_inv hF4
    obtain ⟨⟨r_7, m7⟩, hc6, hF4⟩ := bind_inv hF4
    obtain ⟨x, hx, hF4⟩ := bind_inv hF4
    refine ra_start (hS10.se [0, 1, 2, 4]).fn (by kernel_rfl) ?_
    have hS17 := hS10.drew
    refine rq 0 22 (v := pt (aD b3) 2) rfl (hS17.se [0, 1, 2, 4]) (fun w' hw' => (Y_fieldAddr (B := aD b3) (i := 0) (s := 0) k_fd_37_2_2_35 k_sz_35_1 rfl rfl)) ?_
    refine rq 1 23 (v := .slice B3 r_3.Cells.length c3) rfl (hS17.se [0, 1, 2, 4]) (fun w' hw' => (Y_load1 (B := aD b3) (i := 2) (cs := kM_ r_3 B3 c3) (v := .slice B3 r_3.Cells.length c3) k_sc_35 rfl rfl (ST.cf hw' (i := 3) rfl) rfl)) ?_
    refine rq 2 24 (v := pt B 0) rfl (hS17.se [0, 1, 2, 4]) (fun w' hw' => (Y_move (v := pt B 0) rfl rfl)) ?_
    refine rq 3 25 (v := pt (aD b3) 2) rfl (hS17.se [0, 1, 2, 4]) (fun w' hw' => (Y_fieldAddr (B := aD b3) (i := 0) (s := 0) k_fd_37_2_2_35 k_sz_35_1 rfl rfl)) ?_
    refine rq 4 26 (v := .slice B3 r_3.Cells.length c3) rfl (hS17.se [0, 1, 2, 4]) (fun w' hw' => (Y_load1 (B := aD b3) (i := 2) (cs := kM_ r_3 B3 c3) (v := .slice B3 r_3.Cells.length c3) k_sc_35 rfl rfl (ST.cf hw' (i := 3) rfl) rfl)) ?_
    refine rq 5 27 (v := vi (r_3.Cells.length : Int)) rfl (hS17.se [0, 1, 2, 4]) (fun w' hw' => (Y_len (B := B3) (m := r_3.Cells.length) (c := c3) k_sl_35_54 rfl rfl)) ?_
    refine rq 7 29 (v := pt B 0) rfl (hS17.se [0, 1, 2, 4]) (fun w' hw' => (Y_move (v := pt B 0) rfl rfl)) ?_
    refine rA [6] ?_
    refine ra_c 28 (i := 6) rfl rfl rfl (Yc_func (g := 71) (vs := [pt B 0, vi (r_3.Cells.length : Int)]) k_call_71 rfl (mc rfl (mc rfl mn)) (c_spec_l1Cur_pick (Tl1Cur.mk c.code m4.at_ m4.seed) (r_3.Cells.length : Int) B B1 c1 c.code.length _ rfl (hS17.inn [false, false, false, false, false, true] rfl [(true, 0)] rfl) hc5)) ?_ ?_
    ·rintro _ w_12 ⟨rfl, hd5⟩
     have hS18 := hS17.out [false, false, false, false, false, true] rfl hd5
     refine ⟨(hS18.se [0, 1, 2, 4]), ?_⟩
     refine rA [8] ?_
     refine ra_c 30 (i := 8) rfl rfl rfl (Yc_func (g := 222) (vs := [pt B 0]) k_call_222 rfl (mc rfl mn) (c_spec_l1Cur_anyDyadic (Tl1Cur.mk c.code m6.at_ m6.seed) B B1 c1 c.code.length _ rfl (hS18.inn [false, false, false, false, false, true] rfl [(true, 0)] rfl) hc6)) ?_ ?_
     ·rintro _ w_13 ⟨rfl, hd6⟩
      have hS19 := hS18.out [false, false, false, false, false, true] rfl hd6
      refine ⟨(hS19.se [0, 1, 2, 4]), ?_⟩
      refine rA [9] ?_
      refine ra_y 31 (i := 9) (v := pt B3 (r_6.toNat * 5)) rfl rfl rfl (Y_index (B := B3) (m := r_3.Cells.length) (c := c3) (k := .i64) (i := r_6) k_sl_35_54 k_sz_54_5 rfl rfl rfl (gi_isSome eN1 rfl (hS19.cf (i := 3) rfl) hx) (getI_nn hx) (getI_ltI hx rfl)) (hS19.se [0, 1, 2, 4]) ?_ ?_
      ·skip
       refine rA [10] ?_
       refine ra_s0 (i := 10) rfl rfl rfl (Ys_store (i := 3) (s := 5) (B := B3) (T' := 54) (v := gD_ r_7) (vs := kD_ r_7) (k := r_6.toNat * 5) (cs' := ((r_3.Cells.set r_6.toNat r_7).flatMap eN0)) hS19 k_sz_54_5 rfl rfl rfl rfl rfl rfl rfl (gi_fit0 eN1 hx) (gi_set eN1 hx r_7 rfl) rfl) ?_ ?_
       ·rintro _ w_14 ⟨rfl, hS20⟩
        refine ⟨(hS20.se [0, 1, 2, 4]), ?_⟩
        refine ra_done (by kernel_rfl) ?_
        have ho2 : Org w0 (bl [⟨B, 112, [.slice B1 c.code.length c1, vi c.at_, .int .u64 c.seed], 3⟩]) [⟨B1, (c.code.flatMap enc_u8)⟩] [⟨B3, ((r_3.Cells.set r_6.toNat r_7).flatMap eN0)⟩] := ST.orgOwn hS20 (i := 3) rfl
        have hcap1 : r_3.Cells.length ≤ c3 := (hS20.lencap (i := 3) rfl (fm_lenn (l := (r_3.Cells.set r_6.toNat r_7)) eN1 (set_len _ _ _ rfl)) rfl rfl)
        have hS21 : ST w0 (bl [⟨B, 112, [.slice B1 c.code.length c1, vi c.at_, .int .u64 c.seed], 3⟩]) _ [⟨aD b, 37, kN_, 3⟩, ⟨aD b1, 3, ([1, 2, 2, 4].flatMap encI), 4 * 1⟩, ⟨aD b2, 3, ([1, 2, 2, 4].flatMap encI), 4 * 1⟩, ⟨aD b3, 37, kM_ r_3 B3 c3, 3⟩, ⟨B, 112, [.slice B1 c.code.length c1, vi m7.at_, .int .u64 m7.seed], 3⟩] [⟨B3, ((r_3.Cells.set r_6.toNat r_7).flatMap eN0)⟩, ⟨B1, (c.code.flatMap enc_u8)⟩] := hS20.freeze (i := 3) rfl
        exact ⟨m7.at_, m7.seed, r_3.Rows, r_3.Cols, (r_3.Cells.set r_6.toNat r_7), B3, c3, (some_inj hF4), (FF.cons rfl (FF.cons rfl FF.nil)), ho2, (len_le (set_len _ _ _ rfl) hcap1), (by rw [((set_len _ _ _ rfl) : (r_3.Cells.set r_6.toNat r_7).length = r_3.Cells.length)]; exact hS21.sel [4, 0, 3] rfl rfl)⟩
       exact allR_nil
      exact allR_nil
     exact allR_nil
    exact allR_nil
   ·skip
    have hF5 := cf' hF3 hb1
    refine cw_seq (cw_region ?_)
    refine sQ 33 (Y_eq (k := .i64) (a := r_4) (b := 2) rfl rfl rfl) ?_
    refine sQ 32 (Y_assign (v := .bool (r_4 == 2)) rfl rfl) (rw_nil ?_)
    refine cw_cond (b := (r_4 == 2)) rfl (fun hb2 => ?_) (fun hb2 => ?_)
    ·skip
     have hF6 := ct hF5 hb2
     refine cw_region ?_
     refine sQ 34 (Y_fieldAddr (B := aD b3) (i := 0) (s := 0) k_fd_37_2_2_35 k_sz_35_1 rfl rfl) ?_
     refine sQ 35 (Y_load1 (B := aD b3) (i := 2) (cs := kM_ r_3 B3 c3) (v := .slice B3 r_3.Cells.length c3) k_sc_35 rfl rfl (hS10.cf (i := 4) rfl) rfl) ?_
     obtain ⟨hsl, hF6⟩ := chk_inv hF6
     have hcap2 : r_3.Cells.length ≤ c3 := (hS10.lencap (i := 3) rfl (fm_lenn (l := r_3.Cells) eN1 rfl) rfl rfl)
     have ho4 : Org w0 (bl [⟨B, 112, [.slice B1 c.code.length c1, vi c.at_, .int .u64 c.seed], 3⟩]) [⟨B1, (c.code.flatMap enc_u8)⟩] [⟨B3, (r_3.Cells.flatMap eN0)⟩] := ST.orgOwn hS10 (i := 3) rfl
     have hcap3 : r_3.Cells.length ≤ c3 := (hS10.lencap (i := 3) rfl (fm_lenn (l := r_3.Cells) eN1 rfl) rfl rfl)
     have hS22 : ST w0 (bl [⟨B, 112, [.slice B1 c.code.length c1, vi c.at_, .int .u64 c.seed], 3⟩]) _ [⟨aD b, 37, kN_, 3⟩, ⟨aD b1, 3, ([1, 2, 2, 4].flatMap encI), 4 * 1⟩, ⟨aD b2, 3, ([1, 2, 2, 4].flatMap encI), 4 * 1⟩, ⟨aD b3, 37, kM_ r_3 B3 c3, 3⟩, ⟨B, 112, [.slice B1 c.code.length c1, vi m4.at_, .int .u64 m4.seed], 3⟩] [⟨B3, (r_3.Cells.flatMap eN0)⟩, ⟨B1, (c.code.flatMap enc_u8)⟩] := hS10.freeze (i := 3) rfl
     have hv : (List.drop 1 r_3.Cells).length = (r_3.Cells.length - 1) := (drop_len rfl)
     have hq1 : (r_3.Cells.length - 1) ≤ (c3 - 1) := by omega
     have ho3 : Org w0 (bl [⟨B, 112, [.slice B1 c.code.length c1, vi c.at_, .int .u64 c.seed], 3⟩]) [⟨B1, (c.code.flatMap enc_u8)⟩] [⟨(sv B3 1 c3 5), ((List.drop 1 r_3.Cells).flatMap eN0)⟩] := org_view eN1 (q := c3) ho4 rfl (take_all rfl _)
     have hS23 : ST w0 (bl [⟨B, 112, [.slice B1 c.code.length c1, vi c.at_, .int .u64 c.seed], 3⟩]) _ [⟨aD b, 37, kN_, 3⟩, ⟨aD b1, 3, ([1, 2, 2, 4].flatMap encI), 4 * 1⟩, ⟨aD b2, 3, ([1, 2, 2, 4].flatMap encI), 4 * 1⟩, ⟨aD b3, 37, kM_ r_3 B3 c3, 3⟩, ⟨B, 112, [.slice B1 c.code.length c1, vi m4.at_, .int .u64 m4.seed], 3⟩] [⟨(sv B3 1 c3 5), ((List.drop 1 r_3.Cells).flatMap eN0)⟩, ⟨B3, (r_3.Cells.flatMap eN0)⟩, ⟨B1, (c.code.flatMap enc_u8)⟩] := ST.view eN1 hS22 (i := 0) rfl (lo := 1) (h := r_3.Cells.length) (q := c3) (by omega) (by omega) rfl (take_all rfl _)
     refine sQ 36 (Y_slice1 (B := B3) (m := r_3.Cells.length) (c := c3) (l := 1) (h := r_3.Cells.length) (s := 5) k_sl_35_54 k_sz_54_5 rfl rfl rfl (bnd_some rfl rfl) (by omega) (by omega)) ?_
     refine sQ 37 (Y_fieldAddr (B := aD b3) (i := 0) (s := 0) k_fd_37_2_2_35 k_sz_35_1 rfl rfl) ?_
     refine s0 (Ys_store (i := 3) (s := 1) (B := aD b3) (T' := 37) (v := .slice (sv B3 1 c3 5) (r_3.Cells.length - 1) (c3 - 1)) (vs := [.slice (sv B3 1 c3 5) (r_3.Cells.length - 1) (c3 - 1)]) (k := 2) (cs' := [vi r_3.Rows, vi r_3.Cols, .slice (sv B3 1 c3 5) (r_3.Cells.length - 1) (c3 - 1)]) hS23 k_sz_35_1 rfl rfl rfl rfl rfl rfl rfl (lB rfl) rfl rfl) ?_
     rintro _ w_15 ⟨rfl, hS24⟩
     refine rw_nil ?_
     have hS25 : ST w0 (bl [⟨B, 112, [.slice B1 c.code.length c1, vi c.at_, .int .u64 c.seed], 3⟩]) _ [⟨aD b, 37, kN_, 3⟩, ⟨aD b1, 3, ([1, 2, 2, 4].flatMap encI), 4 * 1⟩, ⟨aD b2, 3, ([1, 2, 2, 4].flatMap encI), 4 * 1⟩, ⟨aD b3, 37, [vi r_3.Rows, vi r_3.Cols, .slice (sv B3 1 c3 5) (r_3.Cells.length - 1) (c3 - 1)], 3⟩, ⟨B, 112, [.slice B1 c.code.length c1, vi m4.at_, .int .u64 m4.seed], 3⟩] [⟨(sv B3 1 c3 5), ((List.drop 1 r_3.Cells).flatMap eN0)⟩, ⟨B1, (c.code.flatMap enc_u8)⟩] := ST.subR hS24 (subc (mem_at (i := 0) rfl) (subc (mem_at (i := 2) rfl) (fun _ h => by cases h)))
     exact ⟨m4.at_, m4.seed, r_3.Rows, r_3.Cols, (List.drop 1 r_3.Cells), (sv B3 1 c3 5), (c3 - 1), (some_inj hF6), (FF.cons rfl (FF.cons rfl FF.nil)), ho3, (len_le hv hq1), (by rw [(hv : (List.drop 1 r_3.Cells).length = (r_3.Cells.length - 1))]; exact hS25.sel [4, 0, 3] rfl rfl)⟩
    ·skip
     have hF7 := cf' hF5 hb2
     refine cw_seq (cw_region ?_)
     refine sQ 39 (Y_eq (k := .i64) (a := r_4) (b := 3) rfl rfl rfl) ?_
     refine sQ 38 (Y_assign (v := .bool (r_4 == 3)) rfl rfl) (rw_nil ?_)
     refine cw_cond (b := (r_4 == 3)) rfl (fun hb3 => ?_) (fun hb3 => ?_)
     ·skip
      have hF8 := ct hF7 hb3
      refine cw_region ?_
      refine sQ 40 (Y_move (v := pt B 0) rfl rfl) ?_
      refine sS 41 (Ys_bslice (s := 1) (len := 3) (vs := [(0, vi 1), (1, vi 2), (2, vi 4)]) (cs := [vi 1, vi 2, vi 4]) (zs := [vi 0, vi 0, vi 0]) (m := 3) hS10 k_sl_66_3 k_sz_3_1 k_zc_3 rfl (mpc rfl (mpc rfl (mpc rfl mpn))) rfl rfl rfl (by kernel_rfl) (by kernel_rfl) rfl) ?_
      rintro _ w_16 ⟨b5, rfl, hS26⟩
      obtain ⟨⟨r_8, m8⟩, hc7, hF8⟩ := bind_inv hF8
      refine sc 42 rfl rfl (Yc_func (g := 153) (vs := [pt B 0, .slice (aD b5) 3 3]) k_call_153 rfl (mc rfl (mc rfl mn)) (c_spec_l1Cur_among (Tl1Cur.mk c.code m4.at_ m4.seed) [1, 2, 4] B B1 c1 c.code.length (aD b5) 3 3 _ rfl rfl (hS26.inn [false, false, false, false, false, true, false] rfl [(true, 0), (false, 5)] rfl) hc7)) ?_
      rintro _ w_17 ⟨rfl, hd7⟩
      have hS27 := hS26.out [false, false, false, false, false, true, false] rfl hd7
      obtain ⟨r_9, hc8, hF8⟩ := bind_inv hF8
      refine sc 43 rfl rfl (Yc_func (g := 63) (vs := [vi r_8]) k_call_63 rfl (mc rfl mn) (c_spec_l3Unit r_8 _  (hS27.inn0 [] rfl) hc8)) ?_
      rintro _ w_18 ⟨B5, c5, rfl, hd8⟩
      have hS28 := hS27.out0 hd8
      refine s0 (Ys_store (i := 4) (s := 3) (B := aD b3) (T' := 37) (v := gM_ r_9 B5 c5) (vs := kM_ r_9 B5 c5) (k := 0) (cs' := kM_ r_9 B5 c5) hS28 k_sz_37_3 rfl rfl rfl rfl rfl rfl rfl (lB rfl) rfl rfl) ?_
      rintro _ w_19 ⟨rfl, hS29⟩
      refine rw_nil ?_
      have ho5 : Org w0 (bl [⟨B, 112, [.slice B1 c.code.length c1, vi c.at_, .int .u64 c.seed], 3⟩]) [⟨B1, (c.code.flatMap enc_u8)⟩] [⟨B5, (r_9.Cells.flatMap eN0)⟩] := ST.orgOwn hS29 (i := 7) rfl
      have hcap4 : r_9.Cells.length ≤ c5 := (hS29.lencap (i := 7) rfl (fm_lenn (l := r_9.Cells) eN1 rfl) rfl rfl)
      have hS30 : ST w0 (bl [⟨B, 112, [.slice B1 c.code.length c1, vi c.at_, .int .u64 c.seed], 3⟩]) _ [⟨aD b, 37, kN_, 3⟩, ⟨aD b1, 3, ([1, 2, 2, 4].flatMap encI), 4 * 1⟩, ⟨aD b2, 3, ([1, 2, 2, 4].flatMap encI), 4 * 1⟩, ⟨B3, 54, (r_3.Cells.flatMap eN0), c3 * 5⟩, ⟨aD b3, 37, kM_ r_9 B5 c5, 3⟩, ⟨aD b5, 3, ([1, 2, 4].flatMap encI), 3 * 1⟩, ⟨B, 112, [.slice B1 c.code.length c1, vi m8.at_, .int .u64 m8.seed], 3⟩] [⟨B5, (r_9.Cells.flatMap eN0)⟩, ⟨B1, (c.code.flatMap enc_u8)⟩] := hS29.freeze (i := 7) rfl
      exact ⟨m8.at_, m8.seed, r_9.Rows, r_9.Cols, r_9.Cells, B5, c5, (some_inj hF8), (FF.cons rfl (FF.cons rfl FF.nil)), ho5, (len_le rfl hcap4), (hS30.sel [6, 0, 4] rfl rfl)⟩
     ·skip
      have hF9 := cf' hF7 hb3
      refine cw_skip ?_
      have ho6 : Org w0 (bl [⟨B, 112, [.slice B1 c.code.length c1, vi c.at_, .int .u64 c.seed], 3⟩]) [⟨B1, (c.code.flatMap enc_u8)⟩] [⟨B3, (r_3.Cells.flatMap eN0)⟩] := ST.orgOwn hS10 (i := 3) rfl
      have hcap5 : r_3.Cells.length ≤ c3 := (hS10.lencap (i := 3) rfl (fm_lenn (l := r_3.Cells) eN1 rfl) rfl rfl)
      have hS31 : ST w0 (bl [⟨B, 112, [.slice B1 c.code.length c1, vi c.at_, .int .u64 c.seed], 3⟩]) _ [⟨aD b, 37, kN_, 3⟩, ⟨aD b1, 3, ([1, 2, 2, 4].flatMap encI), 4 * 1⟩, ⟨aD b2, 3, ([1, 2, 2, 4].flatMap encI), 4 * 1⟩, ⟨aD b3, 37, kM_ r_3 B3 c3, 3⟩, ⟨B, 112, [.slice B1 c.code.length c1, vi m4.at_, .int .u64 m4.seed], 3⟩] [⟨B3, (r_3.Cells.flatMap eN0)⟩, ⟨B1, (c.code.flatMap enc_u8)⟩] := hS10.freeze (i := 3) rfl
      exact ⟨m4.at_, m4.seed, r_3.Rows, r_3.Cols, r_3.Cells, B3, c3, (some_inj hF9), (FF.cons rfl (FF.cons rfl FF.nil)), ho6, (len_le rfl hcap5), (hS31.sel [4, 0, 3] rfl rfl)⟩
 rintro f w ⟨at_, seed, Rows, Cols, Cells, B4, c4, rfl, hf, ho, hq, hS9⟩
 refine cw_seq (cw_region ?_)
 refine sQ 44 (Y_loadA (B := aD b3) (i := 0) (cs := [vi Rows, vi Cols, .slice B4 Cells.length c4]) (vs := [vi Rows, vi Cols, .slice B4 Cells.length c4]) k_ag_37 k_sz_37_3 rfl (hf.get 3 1 rfl) (hS9.cf (i := 2) rfl) rfl rfl) ?_
 refine s0 (Ys_store (i := 1) (s := 3) (B := aD b) (T' := 37) (v := .agg #[vi Rows, vi Cols, .slice B4 Cells.length c4]) (vs := [vi Rows, vi Cols, .slice B4 Cells.length c4]) (k := 0) (cs' := [vi Rows, vi Cols, .slice B4 Cells.length c4]) hS9 k_sz_37_3 rfl (hf.get 2 0 rfl) rfl rfl rfl rfl rfl (lB rfl) rfl rfl) ?_
 rintro _ w_20 ⟨rfl, hS32⟩
 refine rw_nil (cw_ret ?_)
 obtain ⟨rfl, rfl⟩ := pr2 (some_inj hF1)
 exact ret1 Tryz.results164 (v1 := .agg #[vi Rows, vi Cols, .slice B4 Cells.length c4]) (resAt_cellA (B := aD b) (i := 0) (cs := [vi Rows, vi Cols, .slice B4 Cells.length c4]) (vs := [vi Rows, vi Cols, .slice B4 Cells.length c4]) (hf.get 2 0 rfl) k_ag_37 k_sz_37_3 (hS32.cf (i := 1) rfl) rfl rfl) ⟨B4, c4, rfl, (len_le rfl hq), (org_cons ho org_nil), (ST.subR (R' := [⟨B4, (Cells.flatMap eN0)⟩]) (hS32.sel [0] rfl rfl) (subc (mem_at (i := 0) rfl) (fun _ h => by cases h)))⟩

theorem c_spec_l1Cur_turned (c : Tl1Cur) (B : Option Addr) (B1 : Option Addr) (c1 n : Nat) (w0 : World) (hn : c.code.length = n) (hS : ST w0 (bl [⟨B, 112, [.slice B1 n c1, vi c.at_, .int .u64 c.seed], 3⟩]) w0 [⟨B, 112, [.slice B1 n c1, vi c.at_, .int .u64 c.seed], 3⟩] [⟨B1, (c.code.flatMap enc_u8)⟩]) {r_ : TMatrix} {r_1 : TMatrix} {m : Tl1Cur} (hF : F_spec_l1Cur_turned c = some (r_, r_1, m)) :
  CV Tryz.prog 81 #[pt B 0] w0 (fun v w' => ∃ (B2 : Option Addr) (c2 : Nat) (B3 : Option Addr) (c3 : Nat), v = .tuple #[gM_ r_ B2 c2, gM_ r_1 B3 c3] ∧ r_.Cells.length ≤ c2 ∧ Org w0 (bl [⟨B, 112, [.slice B1 n c1, vi c.at_, .int .u64 c.seed], 3⟩]) [⟨B1, (c.code.flatMap enc_u8)⟩] [⟨B2, (r_.Cells.flatMap eN0)⟩] ∧ ST w0 (bl [⟨B, 112, [.slice B1 n c1, vi c.at_, .int .u64 c.seed], 3⟩]) w' [⟨B, 112, [.slice B1 n c1, vi m.at_, .int .u64 m.seed], 3⟩, ⟨B3, 54, (r_1.Cells.flatMap eN0), c3 * 5⟩] [⟨B2, (r_.Cells.flatMap eN0)⟩]) := by
 subst hn
 unfold F_spec_l1Cur_turned at hF
 refine cv_of_cw 61 Tryz.func81 rfl Tryz.ntmps81 rfl ?_
 refine cw_seq (cw_region ?_)
 refine sS 2 (Ys_alloc (T := 37) (cs := kN_) (m := 3) hS k_zero_37 rfl rfl rfl) ?_
 rintro _ w_ ⟨b, rfl, hS1⟩
 refine sS 3 (Ys_alloc (T := 37) (cs := kN_) (m := 3) hS1 k_zero_37 rfl rfl rfl) ?_
 rintro _ w_1 ⟨b1, rfl, hS2⟩
 refine rw_nil (cw_seq (cw_region ?_))
 refine sQ 8 (Y_move (v := pt B 0) rfl rfl) ?_
 obtain ⟨⟨r_2, m1⟩, hc, hF⟩ := bind_inv hF
 refine sc 9 rfl rfl (Yc_func (g := 164) (vs := [pt B 0]) k_call_164 rfl (mc rfl mn) (c_spec_l1Cur_anyMatrix c B B1 c1 c.code.length _ rfl (hS2.inn [true, false, false] rfl [(true, 0)] rfl) hc)) ?_
 rintro _ w_2 ⟨B4, c4, rfl, hq, ho, hd⟩
 have hS3 := ST.outR hS2 [true, false, false] rfl hd ho (subc (mem_at (i := 0) rfl) (fun _ h => by cases h))
 have ho1 : Org w0 (bl [⟨B, 112, [.slice B1 c.code.length c1, vi c.at_, .int .u64 c.seed], 3⟩]) [⟨B1, (c.code.flatMap enc_u8)⟩] [⟨B4, (r_2.Cells.flatMap eN0)⟩] := org_trans hS2 (msk_mem (mask := [true, false, false]) rfl) ho (org_cons (org_mem (i := 0) rfl) org_nil)
 have hS4 : ST w0 (bl [⟨B, 112, [.slice B1 c.code.length c1, vi c.at_, .int .u64 c.seed], 3⟩]) _ [⟨aD b, 37, kN_, 3⟩, ⟨aD b1, 37, kN_, 3⟩, ⟨B, 112, [.slice B1 c.code.length c1, vi m1.at_, .int .u64 m1.seed], 3⟩] [⟨B4, (r_2.Cells.flatMap eN0)⟩, ⟨B1, (c.code.flatMap enc_u8)⟩] := hS3
 refine sS 4 (Ys_alloc (T := 37) (cs := kN_) (m := 3) hS4 k_zero_37 rfl rfl rfl) ?_
 rintro _ w_3 ⟨b2, rfl, hS5⟩
 refine s0 (Ys_store (i := 3) (s := 3) (B := aD b2) (T' := 37) (v := gM_ r_2 B4 c4) (vs := kM_ r_2 B4 c4) (k := 0) (cs' := kM_ r_2 B4 c4) hS5 k_sz_37_3 rfl rfl rfl rfl rfl rfl rfl (lB rfl) rfl rfl) ?_
 rintro _ w_4 ⟨rfl, hS6⟩
 refine rw_nil (cw_seq ?_)
 obtain ⟨hap, hF⟩ := chk_inv hF
 refine cw_mid (fun f w => ∃ (B6 : Option Addr) (B7 : Option Addr) (c6 : Nat), FF f [(0, pt B 0), (2, pt (aD b) 0), (3, pt (aD b1) 0), (4, pt (aD b2) 0), (5, pt B6 0)] ∧ ST w0 (bl [⟨B, 112, [.slice B1 c.code.length c1, vi c.at_, .int .u64 c.seed], 3⟩]) w [⟨B, 112, [.slice B1 c.code.length c1, vi m1.at_, .int .u64 m1.seed], 3⟩, ⟨aD b, 37, kN_, 3⟩, ⟨aD b1, 37, kN_, 3⟩, ⟨aD b2, 37, kM_ r_2 B4 c4, 3⟩, ⟨B6, 37, kM_ r_2 B7 c6, 3⟩, ⟨B7, 54, (r_2.Cells.flatMap eN0), c6 * 5⟩] [⟨B4, (r_2.Cells.flatMap eN0)⟩, ⟨B1, (c.code.flatMap enc_u8)⟩]) ?_ ?_
 ·skip
  refine ra_start (hS6.se [0, 1, 2, 3]).fn (by kernel_rfl) ?_
  have hS8 := hS6.drew
  refine rq 0 10 (v := pt (aD b2) 0) rfl (hS8.se [0, 1, 2, 3]) (fun w' hw' => (Y_fieldAddr (B := aD b2) (i := 0) (s := 0) k_fd_37_0_0_3 k_sz_3_1 rfl rfl)) ?_
  refine rq 1 11 (v := vi r_2.Rows) rfl (hS8.se [0, 1, 2, 3]) (fun w' hw' => (Y_load1 (B := aD b2) (i := 0) (cs := kM_ r_2 B4 c4) (v := vi r_2.Rows) k_sc_3 rfl rfl (ST.cf hw' (i := 3) rfl) rfl)) ?_
  refine rq 2 12 (v := pt (aD b2) 1) rfl (hS8.se [0, 1, 2, 3]) (fun w' hw' => (Y_fieldAddr (B := aD b2) (i := 0) (s := 0) k_fd_37_1_1_3 k_sz_3_1 rfl rfl)) ?_
  refine rq 3 13 (v := vi r_2.Cols) rfl (hS8.se [0, 1, 2, 3]) (fun w' hw' => (Y_load1 (B := aD b2) (i := 1) (cs := kM_ r_2 B4 c4) (v := vi r_2.Cols) k_sc_3 rfl rfl (ST.cf hw' (i := 3) rfl) rfl)) ?_
  refine rq 5 15 (v := pt (aD b2) 2) rfl (hS8.se [0, 1, 2, 3]) (fun w' hw' => (Y_fieldAddr (B := aD b2) (i := 0) (s := 0) k_fd_37_2_2_35 k_sz_35_1 rfl rfl)) ?_
  refine rq 6 16 (v := .slice B4 r_2.Cells.length c4) rfl (hS8.se [0, 1, 2, 3]) (fun w' hw' => (Y_load1 (B := aD b2) (i := 2) (cs := kM_ r_2 B4 c4) (v := .slice B4 r_2.Cells.length c4) k_sc_35 rfl rfl (ST.cf hw' (i := 3) rfl) rfl)) ?_
  refine rA [4, 9] ?_
  refine ra_s 14 (i := 4) rfl rfl rfl (Ys_bslice0 (s := 5) (e := 54) hS8 k_sl_35_54 k_sz_54_5 rfl) ?_ ?_
  ·rintro _ w_5 ⟨b3, rfl, hS9⟩
   refine ⟨(hS9.se [0, 1, 2, 3]), ?_⟩
   refine rA [7, 9] ?_
   refine ra_s 17 (i := 7) rfl rfl rfl (Ys_append (s := 5) (by' := 40) (i := 4) (nn := 0) (c := 0) (k := r_2.Cells.length) (len := r_2.Cells.length) (B := aD b3) (xs := (r_2.Cells.flatMap eN0)) (cs' := (r_2.Cells.flatMap eN0)) hS9 k_sl_35_54 k_sz_54_5 k_by_54_40 k_zero_54 rfl (by decide) rfl rfl rfl rfl (fm_lenn (l := []) eN1 rfl) rfl (hS9.rf (i := 0) rfl) (fm_lenn (l := r_2.Cells) eN1 rfl) (fm_one' (enc := eN0) enc_Dyadic_one r_2.Cells) (by have := hap; omega) (by have := hap; simp only [maxLen]; omega) rfl (app_len0 (l := r_2.Cells) rfl)) ?_ ?_
   ·rintro _ w_6 ⟨B5, c5, rfl, hS10⟩
    refine ⟨(hS10.se [0, 1, 2, 3]), ?_⟩
    refine rq 8 18 (v := gM_ r_2 B5 c5) rfl (hS10.se [0, 1, 2, 3]) (fun w' hw' => (Y_buildS (zs := kN_) (vs := [(0, vi r_2.Rows), (1, vi r_2.Cols), (2, .slice B5 r_2.Cells.length c5)]) (cs := kM_ r_2 B5 c5) k_pl_37 k_zero_37 rfl (mpc rfl (mpc rfl (mpc rfl mpn))) rfl)) ?_
    refine rA [9] ?_
    refine ra_s 5 (i := 9) rfl rfl rfl (Ys_alloc (T := 37) (cs := kN_) (m := 3) hS10 k_zero_37 rfl rfl rfl) ?_ ?_
    ·rintro _ w_7 ⟨b4, rfl, hS11⟩
     refine ⟨(hS11.se [0, 1, 2, 3]), ?_⟩
     refine rA [10] ?_
     refine ra_s0 (i := 10) rfl rfl rfl (Ys_store (i := 5) (s := 3) (B := aD b4) (T' := 37) (v := gM_ r_2 B5 c5) (vs := kM_ r_2 B5 c5) (k := 0) (cs' := kM_ r_2 B5 c5) hS11 k_sz_37_3 rfl rfl rfl rfl rfl rfl rfl (lB rfl) rfl rfl) ?_ ?_
     ·rintro _ w_8 ⟨rfl, hS12⟩
      refine ⟨(hS12.se [0, 1, 2, 3]), ?_⟩
      refine ra_done (by kernel_rfl) ?_
      exact ⟨aD b4, B5, c5, (FF.cons rfl (FF.cons rfl (FF.cons rfl (FF.cons rfl (FF.cons rfl FF.nil))))), (hS12.sel [2, 0, 1, 3, 5, 4] rfl rfl)⟩
     exact allR_nil
    exact allR_nil
   refine ra_s 5 (i := 9) rfl rfl rfl (Ys_alloc (T := 37) (cs := kN_) (m := 3) hS9 k_zero_37 rfl rfl rfl) ?_ ?_
   ·rintro _ w_9 ⟨b4, rfl, hS13⟩
    refine ⟨(hS13.se [0, 1, 2, 3]), ?_⟩
    refine rA [7] ?_
    refine ra_s 17 (i := 7) rfl rfl rfl (Ys_append (s := 5) (by' := 40) (i := 4) (nn := 0) (c := 0) (k := r_2.Cells.length) (len := r_2.Cells.length) (B := aD b3) (xs := (r_2.Cells.flatMap eN0)) (cs' := (r_2.Cells.flatMap eN0)) hS13 k_sl_35_54 k_sz_54_5 k_by_54_40 k_zero_54 rfl (by decide) rfl rfl rfl rfl (fm_lenn (l := []) eN1 rfl) rfl (hS13.rf (i := 0) rfl) (fm_lenn (l := r_2.Cells) eN1 rfl) (fm_one' (enc := eN0) enc_Dyadic_one r_2.Cells) (by have := hap; omega) (by have := hap; simp only [maxLen]; omega) rfl (app_len0 (l := r_2.Cells) rfl)) ?_ ?_
    ·rintro _ w_10 ⟨B5, c5, rfl, hS14⟩
     refine ⟨(hS14.se [0, 1, 2, 3]), ?_⟩
     refine rq 8 18 (v := gM_ r_2 B5 c5) rfl (hS14.se [0, 1, 2, 3]) (fun w' hw' => (Y_buildS (zs := kN_) (vs := [(0, vi r_2.Rows), (1, vi r_2.Cols), (2, .slice B5 r_2.Cells.length c5)]) (cs := kM_ r_2 B5 c5) k_pl_37 k_zero_37 rfl (mpc rfl (mpc rfl (mpc rfl mpn))) rfl)) ?_
     refine rA [10] ?_
     refine ra_s0 (i := 10) rfl rfl rfl (Ys_store (i := 5) (s := 3) (B := aD b4) (T' := 37) (v := gM_ r_2 B5 c5) (vs := kM_ r_2 B5 c5) (k := 0) (cs' := kM_ r_2 B5 c5) hS14 k_sz_37_3 rfl rfl rfl rfl rfl rfl rfl (lB rfl) rfl rfl) ?_ ?_
     ·rintro _ w_11 ⟨rfl, hS15⟩
      refine ⟨(hS15.se [0, 1, 2, 3]), ?_⟩
      refine ra_done (by kernel_rfl) ?_
      exact ⟨aD b4, B5, c5, (FF.cons rfl (FF.cons rfl (FF.cons rfl (FF.cons rfl (FF.cons rfl FF.nil))))), (hS15.sel [2, 0, 1, 3, 5, 4] rfl rfl)⟩
     exact allR_nil
    exact allR_nil
   exact allR_nil
  refine ra_s 5 (i := 9) rfl rfl rfl (Ys_alloc (T := 37) (cs := kN_) (m := 3) hS8 k_zero_37 rfl rfl rfl) ?_ ?_
  ·rintro _ w_12 ⟨b4, rfl, hS16⟩
   refine ⟨(hS16.se [0, 1, 2, 3]), ?_⟩
   refine rA [4] ?_
   refine ra_s 14 (i := 4) rfl rfl rfl (Ys_bslice0 (s := 5) (e := 54) hS16 k_sl_35_54 k_sz_54_5 rfl) ?_ ?_
   ·rintro _ w_13 ⟨b3, rfl, hS17⟩
    refine ⟨(hS17.se [0, 1, 2, 3]), ?_⟩
    refine rA [7] ?_
    refine ra_s 17 (i := 7) rfl rfl rfl (Ys_append (s := 5) (by' := 40) (i := 5) (nn := 0) (c := 0) (k := r_2.Cells.length) (len := r_2.Cells.length) (B := aD b3) (xs := (r_2.Cells.flatMap eN0)) (cs' := (r_2.Cells.flatMap eN0)) hS17 k_sl_35_54 k_sz_54_5 k_by_54_40 k_zero_54 rfl (by decide) rfl rfl rfl rfl (fm_lenn (l := []) eN1 rfl) rfl (hS17.rf (i := 0) rfl) (fm_lenn (l := r_2.Cells) eN1 rfl) (fm_one' (enc := eN0) enc_Dyadic_one r_2.Cells) (by have := hap; omega) (by have := hap; simp only [maxLen]; omega) rfl (app_len0 (l := r_2.Cells) rfl)) ?_ ?_
    ·rintro _ w_14 ⟨B5, c5, rfl, hS18⟩
     refine ⟨(hS18.se [0, 1, 2, 3]), ?_⟩
     refine rq 8 18 (v := gM_ r_2 B5 c5) rfl (hS18.se [0, 1, 2, 3]) (fun w' hw' => (Y_buildS (zs := kN_) (vs := [(0, vi r_2.Rows), (1, vi r_2.Cols), (2, .slice B5 r_2.Cells.length c5)]) (cs := kM_ r_2 B5 c5) k_pl_37 k_zero_37 rfl (mpc rfl (mpc rfl (mpc rfl mpn))) rfl)) ?_
     refine rA [10] ?_
     refine ra_s0 (i := 10) rfl rfl rfl (Ys_store (i := 4) (s := 3) (B := aD b4) (T' := 37) (v := gM_ r_2 B5 c5) (vs := kM_ r_2 B5 c5) (k := 0) (cs' := kM_ r_2 B5 c5) hS18 k_sz_37_3 rfl rfl rfl rfl rfl rfl rfl (lB rfl) rfl rfl) ?_ ?_
     ·rintro _ w_15 ⟨rfl, hS19⟩
      refine ⟨(hS19.se [0, 1, 2, 3]), ?_⟩
      refine ra_done (by kernel_rfl) ?_
      exact ⟨aD b4, B5, c5, (FF.cons rfl (FF.cons rfl (FF.cons rfl (FF.cons rfl (FF.cons rfl FF.nil))))), (hS19.sel [2, 0, 1, 3, 4, 5] rfl rfl)⟩
     exact allR_nil
    exact allR_nil
   exact allR_nil
  exact allR_nil
 rintro f w ⟨B6, B7, c6, hf, hS7⟩
 refine cw_seq (cw_region ?_)
 refine sQ 19 (Y_move (v := pt B 0) rfl (hf.get 0 0 rfl)) ?_
 obtain ⟨⟨r_3, m2⟩, hc1, hF⟩ := bind_inv hF
 refine sc 20 rfl rfl (Yc_func (g := 71) (vs := [pt B 0, vi 8]) k_call_71 rfl (mc rfl (mc rfl mn)) (c_spec_l1Cur_pick (Tl1Cur.mk c.code m1.at_ m1.seed) 8 B B1 c1 c.code.length _ rfl (hS7.inn [true, false, false, false, false, false] rfl [(true, 1)] rfl) hc1)) ?_
 rintro _ w_16 ⟨rfl, hd1⟩
 have hS20 := hS7.out [true, false, false, false, false, false] rfl hd1
 refine sQ 6 (Y_assign (v := vi r_3) rfl rfl) (rw_nil (cw_seq (cw_seq (cw_region ?_))))
 refine sQ 21 (Y_fieldAddr (B := B6) (i := 0) (s := 0) k_fd_37_2_2_35 k_sz_35_1 rfl (hf.get 5 4 rfl)) ?_
 refine sQ 22 (Y_load1 (B := B6) (i := 2) (cs := kM_ r_2 B7 c6) (v := .slice B7 r_2.Cells.length c6) k_sc_35 rfl rfl (hS20.cf (i := 3) rfl) rfl) ?_
 refine sQ 23 (Y_len (B := B7) (m := r_2.Cells.length) (c := c6) k_sl_35_54 rfl rfl) ?_
 refine sQ 24 (Y_move (v := vi 0) rfl rfl) (rw_nil ?_)
 obtain ⟨z, hz, hF1⟩ := bind_inv hF
 refine cw_block ?_
 refine cw_loop (fun k f w => ∃ (Cells : List TDyadic) (t : Int), FF f [(0, pt B 0), (2, pt (aD b) 0), (3, pt (aD b1) 0), (4, pt (aD b2) 0), (5, pt B6 0), (6, vi r_3), (23, vi (r_2.Cells.length : Int)), (24, vi t)] ∧ Cells.length = r_2.Cells.length ∧ ST w0 (bl [⟨B, 112, [.slice B1 c.code.length c1, vi c.at_, .int .u64 c.seed], 3⟩]) w [⟨B, 112, [.slice B1 c.code.length c1, vi m2.at_, .int .u64 m2.seed], 3⟩, ⟨aD b, 37, kN_, 3⟩, ⟨aD b1, 37, kN_, 3⟩, ⟨aD b2, 37, kM_ r_2 B4 c4, 3⟩, ⟨B6, 37, kM_ r_2 B7 c6, 3⟩, ⟨B7, 54, (Cells.flatMap eN0), c6 * 5⟩] [⟨B4, (r_2.Cells.flatMap eN0)⟩, ⟨B1, (c.code.flatMap enc_u8)⟩] ∧ whX (F_spec_l1Cur_turned_l1 r_2 r_3) k (Cells, t) = some z) fuel ⟨r_2.Cells, 0, (FF.cons (hf.get 0 0 rfl) (FF.cons (hf.get 2 1 rfl) (FF.cons (hf.get 3 2 rfl) (FF.cons (hf.get 4 3 rfl) (FF.cons (hf.get 5 4 rfl) (FF.cons rfl (FF.cons rfl (FF.cons rfl FF.nil)))))))), rfl, (hS20.sel [5, 0, 1, 2, 3, 4] rfl rfl), hz⟩ ?_
 rintro k_ f w ⟨Cells, t, hf1, hl, hS21, hL⟩
 obtain ⟨k_1, y, rfl, hb, hL1⟩ := whX_go hL
 unfold F_spec_l1Cur_turned_l1 at hb
 refine cw_seq (cw_region ?_)
 refine sQ 25 (Y_lt (k := .i64) (a := t) (b := (r_2.Cells.length : Int)) rfl (hf1.get 24 7 rfl) (hf1.get 23 6 rfl)) (rw_nil (cw_seq ?_))
 refine cw_cond (b := (decide (t < (r_2.Cells.length : Int)))) rfl (fun hb1 => ?_) (fun hb1 => ?_)
 ·skip
  have hF2 := ct hb hb1
  refine cw_skip (cw_seq (cw_block (cw_seq (cw_region ?_))))
  refine sQ 26 (Y_move (v := vi t) rfl (hf1.get 24 7 rfl)) ?_
  refine sQ 7 (Y_assign (v := vi t) rfl rfl) (rw_nil ?_)
  obtain ⟨x, hx, hF2⟩ := bind_inv hF2
  obtain ⟨r_4, hc2, hF2⟩ := bind_inv hF2
  refine ra_start (hS21.se [0, 1, 2, 3, 4]).fn (by kernel_rfl) ?_
  have hS23 := hS21.drew
  refine rq 0 27 (v := pt B6 2) rfl (hS23.se [0, 1, 2, 3, 4]) (fun w' hw' => (Y_fieldAddr (B := B6) (i := 0) (s := 0) k_fd_37_2_2_35 k_sz_35_1 rfl (hf1.get 5 4 rfl))) ?_
  refine rq 1 28 (v := .slice B7 r_2.Cells.length c6) rfl (hS23.se [0, 1, 2, 3, 4]) (fun w' hw' => (Y_load1 (B := B6) (i := 2) (cs := kM_ r_2 B7 c6) (v := .slice B7 r_2.Cells.length c6) k_sc_35 rfl rfl (ST.cf hw' (i := 4) rfl) rfl)) ?_
  refine rq 2 29 (v := vi t) rfl (hS23.se [0, 1, 2, 3, 4]) (fun w' hw' => (Y_move (v := vi t) rfl rfl)) ?_
  refine rq 3 30 (v := pt B6 2) rfl (hS23.se [0, 1, 2, 3, 4]) (fun w' hw' => (Y_fieldAddr (B := B6) (i := 0) (s := 0) k_fd_37_2_2_35 k_sz_35_1 rfl (hf1.get 5 4 rfl))) ?_
  refine rq 4 31 (v := .slice B7 r_2.Cells.length c6) rfl (hS23.se [0, 1, 2, 3, 4]) (fun w' hw' => (Y_load1 (B := B6) (i := 2) (cs := kM_ r_2 B7 c6) (v := .slice B7 r_2.Cells.length c6) k_sc_35 rfl rfl (ST.cf hw' (i := 4) rfl) rfl)) ?_
  refine rq 5 32 (v := vi t) rfl (hS23.se [0, 1, 2, 3, 4]) (fun w' hw' => (Y_move (v := vi t) rfl rfl)) ?_
  refine rq 9 36 (v := vi r_3) rfl (hS23.se [0, 1, 2, 3, 4]) (fun w' hw' => (Y_move (v := vi r_3) rfl (hf1.get 6 5 rfl))) ?_
  refine rA [6] ?_
  refine ra_y 33 (i := 6) (v := pt B7 (t.toNat * 5)) rfl rfl rfl (Y_index (B := B7) (m := r_2.Cells.length) (c := c6) (k := .i64) (i := t) k_sl_35_54 k_sz_54_5 rfl rfl rfl (gi_isSome eN1 rfl (hS23.cf (i := 5) rfl) hx) (getI_nn hx) (getI_ltI hx hl)) (hS23.se [0, 1, 2, 3, 4]) ?_ ?_
  ·skip
   refine rq 7 34 (v := pt B7 (t.toNat * 5 + 0)) rfl (hS23.se [0, 1, 2, 3, 4]) (fun w' hw' => (Y_fieldAddr (B := B7) (i := t.toNat * 5) (s := 3) k_fd_54_0_0_52 k_sz_52_4 rfl rfl)) ?_
   refine rA [8] ?_
   refine ra_y 35 (i := 8) (v := gR_ x.Num) rfl rfl rfl (Y_loadA (B := B7) (i := t.toNat * 5 + 0) (cs := (Cells.flatMap eN0)) (vs := kR_ x.Num) k_ag_52 k_sz_52_4 rfl rfl (hS23.cf (i := 5) rfl) rfl (gi_segf eN1 hx (s2 := 4) rfl (by decide))) (hS23.se [0, 1, 2, 3, 4]) ?_ ?_
   ·skip
    refine rA [10] ?_
    refine ra_c 37 (i := 10) rfl rfl rfl (Yc_func (g := 87) (vs := [gR_ x.Num, vi r_3]) k_call_87 rfl (mc rfl (mc rfl mn)) (c_spec_l1Turn x.Num r_3 _  (hS23.inn0 [] rfl) hc2)) ?_ ?_
    ·rintro _ w_17 ⟨rfl, hd2⟩
     have hS24 := hS23.out00 hd2
     refine ⟨(hS24.se [0, 1, 2, 3, 4]), ?_⟩
     refine rA [11] ?_
     refine ra_y 38 (i := 11) (v := pt B7 (t.toNat * 5)) rfl rfl rfl (Y_index (B := B7) (m := r_2.Cells.length) (c := c6) (k := .i64) (i := t) k_sl_35_54 k_sz_54_5 rfl rfl rfl (gi_isSome eN1 rfl (hS24.cf (i := 5) rfl) hx) (getI_nn hx) (getI_ltI hx hl)) (hS24.se [0, 1, 2, 3, 4]) ?_ ?_
     ·skip
      refine rq 12 39 (v := pt B7 (t.toNat * 5 + 0)) rfl (hS24.se [0, 1, 2, 3, 4]) (fun w' hw' => (Y_fieldAddr (B := B7) (i := t.toNat * 5) (s := 3) k_fd_54_0_0_52 k_sz_52_4 rfl rfl)) ?_
      refine rA [13] ?_
      refine ra_s0 (i := 13) rfl rfl rfl (Ys_store (i := 5) (s := 4) (B := B7) (T' := 54) (v := gR_ r_4) (vs := kR_ r_4) (k := t.toNat * 5 + 0) (cs' := ((Cells.set t.toNat (TDyadic.mk r_4 x.Exp)).flatMap eN0)) hS24 k_sz_52_4 rfl rfl rfl rfl rfl rfl rfl (gi_fit eN1 hx (j := 0) (k := 4) (by decide)) (gi_setf eN1 hx (TDyadic.mk r_4 x.Exp) rfl (lB rfl)) rfl) ?_ ?_
      ·rintro _ w_18 ⟨rfl, hS25⟩
       refine ⟨(hS25.se [0, 1, 2, 3, 4]), ?_⟩
       refine ra_done (by kernel_rfl) ?_
       refine cw_region ?_
       refine sQ 40 (Y_add (k := .i64) (a := t) (b := 1) rfl (hf1.get 24 7 rfl) rfl) ?_
       refine sQ 24 (Y_move (v := vi (i64.wrap (t + 1))) rfl rfl) (rw_nil ?_)
       obtain rfl := some_inj hF2
       exact ⟨k_1, Nat.lt_succ_self _, (Cells.set t.toNat (TDyadic.mk r_4 x.Exp)), (i64.wrap (t + 1)), (FF.cons (hf1.get 0 0 rfl) (FF.cons (hf1.get 2 1 rfl) (FF.cons (hf1.get 3 2 rfl) (FF.cons (hf1.get 4 3 rfl) (FF.cons (hf1.get 5 4 rfl) (FF.cons (hf1.get 6 5 rfl) (FF.cons (hf1.get 23 6 rfl) (FF.cons rfl FF.nil)))))))), (set_len _ _ _ hl), (hS25.sel [0, 1, 2, 3, 4, 5] rfl rfl), hL1⟩
      exact allR_nil
     exact allR_nil
    exact allR_nil
   exact allR_nil
  exact allR_nil
 ·skip
  have hF3 := cf' hb hb1
  refine cw_exit rfl ?_
  obtain rfl := some_inj hF3
  obtain rfl := some_inj hL1
  refine cw_seq ?_
  obtain ⟨z1, hz1, hF4⟩ := bind_inv hF1
  refine cw_mid (fun f w => ∃ (at_ : Int) (seed : Int) (Cells1 : List TDyadic), (at_, seed, Cells1) = z1 ∧ FF f [(2, pt (aD b) 0), (3, pt (aD b1) 0), (4, pt (aD b2) 0), (5, pt B6 0)] ∧ Cells1.length = r_2.Cells.length ∧ ST w0 (bl [⟨B, 112, [.slice B1 c.code.length c1, vi c.at_, .int .u64 c.seed], 3⟩]) w [⟨B, 112, [.slice B1 c.code.length c1, vi at_, .int .u64 seed], 3⟩, ⟨aD b, 37, kN_, 3⟩, ⟨aD b1, 37, kN_, 3⟩, ⟨aD b2, 37, kM_ r_2 B4 c4, 3⟩, ⟨B6, 37, kM_ r_2 B7 c6, 3⟩, ⟨B7, 54, (Cells1.flatMap eN0), c6 * 5⟩] [⟨B4, (r_2.Cells.flatMap eN0)⟩, ⟨B1, (c.code.flatMap enc_u8)⟩]) ?_ ?_
  ·skip
   refine cw_seq (cw_region ?_)
   refine sQ 41 (Y_move (v := pt B 0) rfl (hf1.get 0 0 rfl)) ?_
   obtain ⟨⟨r_5, m3⟩, hc3, hz1⟩ := bind_inv hz1
   refine sc 42 rfl rfl (Yc_func (g := 90) (vs := [pt B 0, vi 4]) k_call_90 rfl (mc rfl (mc rfl mn)) (c_spec_l1Cur_one (Tl1Cur.mk c.code m2.at_ m2.seed) 4 B B1 c1 c.code.length _ rfl (hS21.inn [true, false, false, false, false, false] rfl [(true, 1)] rfl) hc3)) ?_
   rintro _ w_19 ⟨rfl, hd3⟩
   have hS27 := hS21.out [true, false, false, false, false, false] rfl hd3
   refine sQ 43 (Y_move (v := .bool r_5) rfl rfl) ?_
   refine sgq 44 (B := r_5) (v := pt B6 2) rfl rfl (uT_ 43) (fun hg => (Y_fieldAddr (B := B6) (i := 0) (s := 0) k_fd_37_2_2_35 k_sz_35_1 rfl (hf1.get 5 4 rfl))) ?_
   refine sgq 45 (B := r_5) (v := .slice B7 r_2.Cells.length c6) rfl rfl (uT_ 43) (fun hg1 => (Y_load1 (B := B6) (i := 2) (cs := kM_ r_2 B7 c6) (v := .slice B7 r_2.Cells.length c6) k_sc_35 rfl (gv_of (v := pt B6 2) hg1) (hS27.cf (i := 3) rfl) rfl)) ?_
   refine sgq 46 (B := r_5) (v := vi (r_2.Cells.length : Int)) rfl rfl (uT_ 43) (fun hg2 => (Y_len (B := B7) (m := r_2.Cells.length) (c := c6) k_sl_35_54 rfl (gv_of (v := .slice B7 r_2.Cells.length c6) hg2))) ?_
   refine sgq 47 (B := r_5) (v := .bool (decide (0 < (r_2.Cells.length : Int)))) rfl rfl (uT_ 43) (fun hg3 => (Y_gt (k := .i64) (a := (r_2.Cells.length : Int)) (b := 0) rfl (gv_of (v := vi (r_2.Cells.length : Int)) hg3) rfl)) ?_
   refine sQ 48 (Y_and (b := r_5) (z := (decide (0 < (r_2.Cells.length : Int)))) rfl rfl rfl rfl) (rw_nil ?_)
   refine cw_cond (b := (r_5 && (decide (0 < (r_2.Cells.length : Int))))) rfl (fun hb2 => ?_) (fun hb2 => ?_)
   ·skip
    have hF5 := ct hz1 hb2
    obtain ⟨⟨r_6, m4⟩, hc4, hF5⟩ := bind_inv hF5
    obtain ⟨⟨r_7, m5⟩, hc5, hF5⟩ := bind_inv hF5
    obtain ⟨x1, hx1, hF5⟩ := bind_inv hF5
    refine ra_start (hS27.se [0, 1, 2, 3]).fn (by kernel_rfl) ?_
    have hS30 := hS27.drew
    refine rq 0 49 (v := pt B6 2) rfl (hS30.se [0, 1, 2, 3]) (fun w' hw' => (Y_fieldAddr (B := B6) (i := 0) (s := 0) k_fd_37_2_2_35 k_sz_35_1 rfl (hf1.get 5 4 rfl))) ?_
    refine rq 1 50 (v := .slice B7 r_2.Cells.length c6) rfl (hS30.se [0, 1, 2, 3]) (fun w' hw' => (Y_load1 (B := B6) (i := 2) (cs := kM_ r_2 B7 c6) (v := .slice B7 r_2.Cells.length c6) k_sc_35 rfl rfl (ST.cf hw' (i := 3) rfl) rfl)) ?_
    refine rq 2 51 (v := pt B 0) rfl (hS30.se [0, 1, 2, 3]) (fun w' hw' => (Y_move (v := pt B 0) rfl (hf1.get 0 0 rfl))) ?_
    refine rq 3 52 (v := pt B6 2) rfl (hS30.se [0, 1, 2, 3]) (fun w' hw' => (Y_fieldAddr (B := B6) (i := 0) (s := 0) k_fd_37_2_2_35 k_sz_35_1 rfl (hf1.get 5 4 rfl))) ?_
    refine rq 4 53 (v := .slice B7 r_2.Cells.length c6) rfl (hS30.se [0, 1, 2, 3]) (fun w' hw' => (Y_load1 (B := B6) (i := 2) (cs := kM_ r_2 B7 c6) (v := .slice B7 r_2.Cells.length c6) k_sc_35 rfl rfl (ST.cf hw' (i := 3) rfl) rfl)) ?_
    refine rq 5 54 (v := vi (r_2.Cells.length : Int)) rfl (hS30.se [0, 1, 2, 3]) (fun w' hw' => (Y_len (B := B7) (m := r_2.Cells.length) (c := c6) k_sl_35_54 rfl rfl)) ?_
    refine rq 7 56 (v := pt B 0) rfl (hS30.se [0, 1, 2, 3]) (fun w' hw' => (Y_move (v := pt B 0) rfl (hf1.get 0 0 rfl))) ?_
    refine rA [6] ?_
    refine ra_c 55 (i := 6) rfl rfl rfl (Yc_func (g := 71) (vs := [pt B 0, vi (r_2.Cells.length : Int)]) k_call_71 rfl (mc rfl (mc rfl mn)) (c_spec_l1Cur_pick (Tl1Cur.mk c.code m3.at_ m3.seed) (r_2.Cells.length : Int) B B1 c1 c.code.length _ rfl (hS30.inn [false, false, false, false, false, true] rfl [(true, 1)] rfl) hc4)) ?_ ?_
    ·rintro _ w_20 ⟨rfl, hd4⟩
     have hS31 := hS30.out [false, false, false, false, false, true] rfl hd4
     refine ⟨(hS31.se [0, 1, 2, 3]), ?_⟩
     refine rA [8] ?_
     refine ra_c 57 (i := 8) rfl rfl rfl (Yc_func (g := 165) (vs := [pt B 0]) k_call_165 rfl (mc rfl mn) (c_spec_l1Cur_dyadic (Tl1Cur.mk c.code m4.at_ m4.seed) B B1 c1 c.code.length _ rfl (hS31.inn [false, false, false, false, false, true] rfl [(true, 1)] rfl) hc5)) ?_ ?_
     ·rintro _ w_21 ⟨rfl, hd5⟩
      have hS32 := hS31.out [false, false, false, false, false, true] rfl hd5
      refine ⟨(hS32.se [0, 1, 2, 3]), ?_⟩
      refine rA [9] ?_
      refine ra_y 58 (i := 9) (v := pt B7 (r_6.toNat * 5)) rfl rfl rfl (Y_index (B := B7) (m := r_2.Cells.length) (c := c6) (k := .i64) (i := r_6) k_sl_35_54 k_sz_54_5 rfl rfl rfl (gi_isSome eN1 rfl (hS32.cf (i := 4) rfl) hx1) (getI_nn hx1) (getI_ltI hx1 hl)) (hS32.se [0, 1, 2, 3]) ?_ ?_
      ·skip
       refine rA [10] ?_
       refine ra_s0 (i := 10) rfl rfl rfl (Ys_store (i := 4) (s := 5) (B := B7) (T' := 54) (v := gD_ r_7) (vs := kD_ r_7) (k := r_6.toNat * 5) (cs' := ((Cells.set r_6.toNat r_7).flatMap eN0)) hS32 k_sz_54_5 rfl rfl rfl rfl rfl rfl rfl (gi_fit0 eN1 hx1) (gi_set eN1 hx1 r_7 rfl) rfl) ?_ ?_
       ·rintro _ w_22 ⟨rfl, hS33⟩
        refine ⟨(hS33.se [0, 1, 2, 3]), ?_⟩
        refine ra_done (by kernel_rfl) ?_
        exact ⟨m5.at_, m5.seed, (Cells.set r_6.toNat r_7), (some_inj hF5), (FF.cons (hf1.get 2 1 rfl) (FF.cons (hf1.get 3 2 rfl) (FF.cons (hf1.get 4 3 rfl) (FF.cons (hf1.get 5 4 rfl) FF.nil)))), (set_len _ _ _ hl), (hS33.sel [5, 0, 1, 2, 3, 4] rfl rfl)⟩
       exact allR_nil
      exact allR_nil
     exact allR_nil
    exact allR_nil
   ·skip
    have hF6 := cf' hz1 hb2
    refine cw_skip ?_
    exact ⟨m3.at_, m3.seed, Cells, (some_inj hF6), (FF.cons (hf1.get 2 1 rfl) (FF.cons (hf1.get 3 2 rfl) (FF.cons (hf1.get 4 3 rfl) (FF.cons (hf1.get 5 4 rfl) FF.nil)))), hl, (hS27.sel [5, 0, 1, 2, 3, 4] rfl rfl)⟩
  rintro f w ⟨at_, seed, Cells1, rfl, hf2, hl1, hS26⟩
  refine cw_seq ?_
  refine ra_start (hS26.se [0, 3, 4, 5]).fn (by kernel_rfl) ?_
  have hS34 := hS26.drew
  refine rq 0 59 (v := gM_ r_2 B4 c4) rfl (hS34.se [0, 3, 4, 5]) (fun w' hw' => (Y_loadA (B := aD b2) (i := 0) (cs := kM_ r_2 B4 c4) (vs := kM_ r_2 B4 c4) k_ag_37 k_sz_37_3 rfl (hf2.get 4 2 rfl) (ST.cf hw' (i := 1) rfl) rfl rfl)) ?_
  refine rq 1 60 (v := gM_ r_2 B7 c6) rfl (hS34.se [0, 3, 4, 5]) (fun w' hw' => (Y_loadA (B := B6) (i := 0) (cs := kM_ r_2 B7 c6) (vs := kM_ r_2 B7 c6) k_ag_37 k_sz_37_3 rfl (hf2.get 5 3 rfl) (ST.cf hw' (i := 2) rfl) rfl rfl)) ?_
  refine rA [2] ?_
  refine ra_s0 (i := 2) rfl rfl rfl (Ys_store (i := 1) (s := 3) (B := aD b) (T' := 37) (v := gM_ r_2 B4 c4) (vs := kM_ r_2 B4 c4) (k := 0) (cs' := kM_ r_2 B4 c4) hS34 k_sz_37_3 rfl (hf2.get 2 0 rfl) rfl rfl rfl rfl rfl (lB rfl) rfl rfl) ?_ ?_
  ·rintro _ w_23 ⟨rfl, hS35⟩
   refine ⟨(hS35.se [0, 3, 4, 5]), ?_⟩
   refine rA [3] ?_
   refine ra_s0 (i := 3) rfl rfl rfl (Ys_store (i := 2) (s := 3) (B := aD b1) (T' := 37) (v := gM_ r_2 B7 c6) (vs := kM_ r_2 B7 c6) (k := 0) (cs' := kM_ r_2 B7 c6) hS35 k_sz_37_3 rfl (hf2.get 3 1 rfl) rfl rfl rfl rfl rfl (lB rfl) rfl rfl) ?_ ?_
   ·rintro _ w_24 ⟨rfl, hS36⟩
    refine ⟨(hS36.se [0, 3, 4, 5]), ?_⟩
    refine ra_done (by kernel_rfl) ?_
    refine cw_ret ?_
    obtain ⟨rfl, rfl, rfl⟩ := pr3 (some_inj hF4)
    exact ret2 Tryz.results81 (v1 := gM_ r_2 B4 c4) (resAt_cellA (B := aD b) (i := 0) (cs := kM_ r_2 B4 c4) (vs := kM_ r_2 B4 c4) (hf2.get 2 0 rfl) k_ag_37 k_sz_37_3 (hS36.cf (i := 1) rfl) rfl rfl) (v2 := gM_ r_2 B7 c6) (resAt_cellA (B := aD b1) (i := 0) (cs := kM_ r_2 B7 c6) (vs := kM_ r_2 B7 c6) (hf2.get 3 1 rfl) k_ag_37 k_sz_37_3 (hS36.cf (i := 2) rfl) rfl rfl) ⟨B4, c4, B7, c6, (by simp [hl1]), (len_le rfl hq), (org_cons (org_sub ho1 (subc (mem_at (i := 0) rfl) (fun _ h => by cases h))) org_nil), (ST.subR (R' := [⟨B4, (r_2.Cells.flatMap eN0)⟩]) (hS36.sel [0, 5] rfl rfl) (subc (mem_at (i := 0) rfl) (fun _ h => by cases h)))⟩
   exact allR_nil
  exact allR_nil

theorem c_spec_DrawEqualUpToPhase (code : List Int) (B : Option Addr) (c n : Nat) (w0 : World) (hn : code.length = n) (hS : ST w0 [] w0 [] [⟨B, (code.flatMap enc_u8)⟩]) {r_ : TMatrix} {r_1 : TMatrix} (hF : F_spec_DrawEqualUpToPhase code = some (r_, r_1)) :
  CV Tryz.prog 27 #[.slice B n c] w0 (fun v w' => ∃ (B1 : Option Addr) (c1 : Nat) (B2 : Option Addr) (c2 : Nat), v = .tuple #[gM_ r_ B1 c1, gM_ r_1 B2 c2] ∧ r_.Cells.length ≤ c1 ∧ Org w0 [] [⟨B, (code.flatMap enc_u8)⟩] [⟨B1, (r_.Cells.flatMap eN0)⟩] ∧ ST w0 [] w' [⟨B2, 54, (r_1.Cells.flatMap eN0), c2 * 5⟩] [⟨B1, (r_.Cells.flatMap eN0)⟩]) := by
 subst hn
 unfold F_spec_DrawEqualUpToPhase at hF
 refine cv_of_cw 12 Tryz.func27 rfl Tryz.ntmps27 rfl ?_
 refine cw_seq (cw_region ?_)
 refine sS 2 (Ys_alloc (T := 37) (cs := kN_) (m := 3) hS k_zero_37 rfl rfl rfl) ?_
 rintro _ w_ ⟨b, rfl, hS1⟩
 refine sS 3 (Ys_alloc (T := 37) (cs := kN_) (m := 3) hS1 k_zero_37 rfl rfl rfl) ?_
 rintro _ w_1 ⟨b1, rfl, hS2⟩
 refine rw_nil (cw_seq (cw_region ?_))
 refine sQ 5 (Y_move (v := .slice B code.length c) rfl rfl) ?_
 refine sQ 6 (Y_buildS (zs := [.slice none 0 0, vi 0, .int .u64 0]) (vs := [(0, .slice B code.length c)]) (cs := [.slice B code.length c, vi 0, .int .u64 0]) k_pl_112 k_zero_112 rfl (mpc rfl mpn) rfl) ?_
 refine sS 7 (Ys_box (T := 112) (v := .agg #[.slice B code.length c, vi 0, .int .u64 0]) (cs := [.slice B code.length c, vi 0, .int .u64 0]) (m := 3) hS2 rfl rfl rfl rfl) ?_
 rintro _ w_2 ⟨b2, rfl, hS3⟩
 refine sQ 4 (Y_assign (v := pt (aD b2) 0) rfl rfl) (rw_nil (cw_seq (cw_region ?_)))
 refine sQ 8 (Y_move (v := pt (aD b2) 0) rfl rfl) ?_
 obtain ⟨⟨r_2, r_3, m⟩, hc, hF⟩ := bind_inv hF
 refine sc 9 rfl rfl (Yc_func (g := 81) (vs := [pt (aD b2) 0]) k_call_81 rfl (mc rfl mn) (c_spec_l1Cur_turned (Tl1Cur.mk code 0 0) (aD b2) B c code.length _ rfl (hS3.inn [false, false, true] rfl [(true, 0)] rfl) hc)) ?_
 rintro _ w_3 ⟨B3, c3, B4, c4, rfl, hq, ho, hd⟩
 have hS4 := ST.outR hS3 [false, false, true] rfl hd ho (subc (mem_at (i := 0) rfl) (fun _ h => by cases h))
 have ho1 : Org w0 [] [⟨B, (code.flatMap enc_u8)⟩] [⟨B3, (r_2.Cells.flatMap eN0)⟩] := org_trans hS3 (msk_mem (mask := [false, false, true]) rfl) ho (org_cons (org_mem (i := 0) rfl) org_nil)
 have hS5 : ST w0 [] _ [⟨aD b, 37, kN_, 3⟩, ⟨aD b1, 37, kN_, 3⟩, ⟨aD b2, 112, [.slice B code.length c, vi m.at_, .int .u64 m.seed], 3⟩, ⟨B4, 54, (r_3.Cells.flatMap eN0), c4 * 5⟩] [⟨B3, (r_2.Cells.flatMap eN0)⟩, ⟨B, (code.flatMap enc_u8)⟩] := hS4
 refine sQ 10 (Y_extract (v := gM_ r_2 B3 c3) rfl rfl rfl) ?_
 refine sQ 11 (Y_extract (v := gM_ r_3 B4 c4) rfl rfl rfl) ?_
 refine s0 (Ys_store (i := 0) (s := 3) (B := aD b) (T' := 37) (v := gM_ r_2 B3 c3) (vs := kM_ r_2 B3 c3) (k := 0) (cs' := kM_ r_2 B3 c3) hS5 k_sz_37_3 rfl rfl rfl rfl rfl rfl rfl (lB rfl) rfl rfl) ?_
 rintro _ w_4 ⟨rfl, hS6⟩
 refine s0 (Ys_store (i := 1) (s := 3) (B := aD b1) (T' := 37) (v := gM_ r_3 B4 c4) (vs := kM_ r_3 B4 c4) (k := 0) (cs' := kM_ r_3 B4 c4) hS6 k_sz_37_3 rfl rfl rfl rfl rfl rfl rfl (lB rfl) rfl rfl) ?_
 rintro _ w_5 ⟨rfl, hS7⟩
 refine rw_nil (cw_ret ?_)
 obtain ⟨rfl, rfl⟩ := pr2 (some_inj hF)
 exact ret2 Tryz.results27 (v1 := gM_ r_2 B3 c3) (resAt_cellA (B := aD b) (i := 0) (cs := kM_ r_2 B3 c3) (vs := kM_ r_2 B3 c3) rfl k_ag_37 k_sz_37_3 (hS7.cf (i := 0) rfl) rfl rfl) (v2 := gM_ r_3 B4 c4) (resAt_cellA (B := aD b1) (i := 0) (cs := kM_ r_3 B4 c4) (vs := kM_ r_3 B4 c4) rfl k_ag_37 k_sz_37_3 (hS7.cf (i := 1) rfl) rfl rfl) ⟨B3, c3, B4, c4, rfl, (len_le rfl hq), (org_cons (org_sub ho1 (subc (mem_at (i := 0) rfl) (fun _ h => by cases h))) org_nil), (ST.subR (R' := [⟨B3, (r_2.Cells.flatMap eN0)⟩]) (hS7.sel [3] rfl rfl) (subc (mem_at (i := 0) rfl) (fun _ h => by cases h)))⟩

theorem c_impl_ScaleMatrix_1 (i : Int) (j : Int) (p : TMatrix) (p1 : TDyadic) (B : Option Addr) (B1 : Option Addr) (c n : Nat) (B2 : Option Addr) (w0 : World) (hn : p.Cells.length = n) (hS : ST w0 [] w0 [] [⟨B, [vi p.Rows, vi p.Cols, .slice B1 n c]⟩, ⟨B1, (p.Cells.flatMap eN0)⟩, ⟨B2, kD_ p1⟩]) {r_ : TDyadic} {r_1 : Bool} (hF : F_impl_ScaleMatrix_1 i j p p1 = some (r_, r_1)) :
  CV Tryz.prog 170 #[vi i, vi j, pt B 0, pt B2 0] w0 (fun v w' => v = .tuple #[gD_ r_, .bool r_1] ∧ ST w0 [] w' [] []) := by
 subst hn
 unfold F_impl_ScaleMatrix_1 at hF
 refine cv_of_cw 16 Tryz.func170 rfl Tryz.ntmps170 rfl ?_
 refine cw_seq (cw_region ?_)
 refine sS 6 (Ys_alloc (T := 54) (cs := kZ_) (m := 5) hS k_zero_54 rfl rfl rfl) ?_
 rintro _ w_ ⟨b, rfl, hS1⟩
 refine sQ 7 (Y_assign (v := .bool false) rfl rfl) (rw_nil (cw_seq ?_))
 obtain ⟨r_2, hc, hF⟩ := bind_inv hF
 obtain ⟨⟨r_3, r_4⟩, hc1, hF⟩ := bind_inv hF
 refine ra_start (hS1.se []).fn (by kernel_rfl) ?_
 have hS4 := hS1.drew
 refine rq 0 8 (v := gM_ p B1 c) rfl (hS4.se []) (fun w' hw' => (Y_loadA (B := B) (i := 0) (cs := kM_ p B1 c) (vs := kM_ p B1 c) k_ag_37 k_sz_37_3 rfl rfl (ST.rf hw' (i := 0) rfl) rfl rfl)) ?_
 refine rq 1 9 (v := vi i) rfl (hS4.se []) (fun w' hw' => (Y_move (v := vi i) rfl rfl)) ?_
 refine rq 2 10 (v := vi j) rfl (hS4.se []) (fun w' hw' => (Y_move (v := vi j) rfl rfl)) ?_
 refine rq 4 12 (v := gD_ p1) rfl (hS4.se []) (fun w' hw' => (Y_loadA (B := B2) (i := 0) (cs := kD_ p1) (vs := kD_ p1) k_ag_54 k_sz_54_5 rfl rfl (ST.rf hw' (i := 2) rfl) rfl rfl)) ?_
 refine rA [3] ?_
 refine ra_c 11 (i := 3) rfl rfl rfl (Yc_func (g := 156) (vs := [gM_ p B1 c, vi i, vi j]) k_call_156 rfl (mc rfl (mc rfl (mc rfl mn))) (c_impl_Matrix_at p i j B1 c p.Cells.length _ rfl (hS4.inn0 [(true, 1)] rfl) hc)) ?_ ?_
 ·rintro _ w_1 ⟨rfl, hd⟩
  have hS5 := hS4.out00 hd
  refine ⟨(hS5.se []), ?_⟩
  refine rA [5] ?_
  refine ra_c 13 (i := 5) rfl rfl rfl (Yc_func (g := 158) (vs := [gD_ r_2, gD_ p1]) k_call_158 rfl (mc rfl (mc rfl mn)) (c_impl_MulDyadic r_2 p1 _  (hS5.inn0 [] rfl) hc1)) ?_ ?_
  ·rintro _ w_2 ⟨rfl, hd1⟩
   have hS6 := hS5.out00 hd1
   refine ⟨(hS6.se []), ?_⟩
   refine rq 6 14 (v := gD_ r_3) rfl (hS6.se []) (fun w' hw' => (Y_extract (v := gD_ r_3) rfl rfl rfl)) ?_
   refine rq 7 15 (v := .bool r_4) rfl (hS6.se []) (fun w' hw' => (Y_extract (v := .bool r_4) rfl rfl rfl)) ?_
   refine rA [8] ?_
   refine ra_s0 (i := 8) rfl rfl rfl (Ys_store (i := 0) (s := 5) (B := aD b) (T' := 54) (v := gD_ r_3) (vs := kD_ r_3) (k := 0) (cs' := kD_ r_3) hS6 k_sz_54_5 rfl rfl rfl rfl rfl rfl rfl (lB rfl) rfl rfl) ?_ ?_
   ·rintro _ w_3 ⟨rfl, hS7⟩
    refine ⟨(hS7.se []), ?_⟩
    refine rq 9 7 (v := .bool r_4) rfl (hS7.se []) (fun w' hw' => (Y_assign (v := .bool r_4) rfl rfl)) ?_
    refine ra_done (by kernel_rfl) ?_
    refine cw_ret ?_
    obtain ⟨rfl, rfl⟩ := pr2 (some_inj hF)
    exact ret2 Tryz.results170 (v1 := gD_ r_3) (resAt_cellA (B := aD b) (i := 0) (cs := kD_ r_3) (vs := kD_ r_3) rfl k_ag_54 k_sz_54_5 (hS7.cf (i := 0) rfl) rfl rfl) (v2 := .bool r_4) (resAt_tmp rfl) ⟨rfl, (hS7.sN [])⟩
   exact allR_nil
  exact allR_nil
 exact allR_nil

theorem c_impl_ScaleMatrix (m : TMatrix) (x : TDyadic) (B : Option Addr) (c n : Nat) (w0 : World) (hn : m.Cells.length = n) (hS : ST w0 [] w0 [] [⟨B, (m.Cells.flatMap eN0)⟩]) {r_ : TMatrix} {r_1 : Bool} (hF : F_impl_ScaleMatrix m x = some (r_, r_1)) :
  CV Tryz.prog 83 #[.agg #[vi m.Rows, vi m.Cols, .slice B n c], gD_ x] w0 (fun v w' => ∃ (B1 : Option Addr) (c1 : Nat), v = .tuple #[gM_ r_ B1 c1, .bool r_1] ∧ ST w0 [] w' [⟨B1, 54, (r_.Cells.flatMap eN0), c1 * 5⟩] []) := by
 subst hn
 unfold F_impl_ScaleMatrix at hF
 refine cv_of_cw 23 Tryz.func83 rfl Tryz.ntmps83 rfl ?_
 refine cw_seq (cw_region ?_)
 refine sS 2 (Ys_box (T := 37) (v := gM_ m B c) (cs := kM_ m B c) (m := 3) hS rfl rfl rfl rfl) ?_
 rintro _ w_ ⟨b, rfl, hS1⟩
 refine sS 3 (Ys_box (T := 54) (v := gD_ x) (cs := kD_ x) (m := 5) hS1 rfl rfl rfl rfl) ?_
 rintro _ w_1 ⟨b1, rfl, hS2⟩
 refine sS 4 (Ys_alloc (T := 37) (cs := kN_) (m := 3) hS2 k_zero_37 rfl rfl rfl) ?_
 rintro _ w_2 ⟨b2, rfl, hS3⟩
 refine sQ 5 (Y_assign (v := .bool false) rfl rfl) (rw_nil (cw_seq (cw_seq (cw_region ?_))))
 refine sQ 6 (Y_loadA (B := aD b) (i := 0) (cs := kM_ m B c) (vs := kM_ m B c) k_ag_37 k_sz_37_3 rfl rfl (hS3.cf (i := 0) rfl) rfl rfl) ?_
 obtain ⟨r_2, hc, hF⟩ := bind_inv hF
 refine sc 7 rfl rfl (Yc_func (g := 82) (vs := [gM_ m B c]) k_call_82 rfl (mc rfl mn) (c_impl_IsValidMatrix m B c m.Cells.length _ rfl (hS3.inn0 [(true, 0)] rfl) hc)) ?_
 rintro _ w_3 ⟨rfl, hd⟩
 have hS4 := hS3.out00 hd
 refine sQ 8 (Y_not (p := r_2) rfl rfl) ?_
 refine sQ 9 (Y_move (v := .bool (!r_2)) rfl rfl) ?_
 refine sgq 10 (B := (!(!r_2))) (v := gD_ x) rfl rfl (uF_ 9) (fun hg => (Y_loadA (B := aD b1) (i := 0) (cs := kD_ x) (vs := kD_ x) k_ag_54 k_sz_54_5 rfl rfl (hS4.cf (i := 1) rfl) rfl rfl)) ?_
 obtain ⟨r_3, hc1, hF⟩ := bind_inv hF
 refine sgc 11 (B := (!(!r_2))) (v := .bool r_3) (F := hS4.fn) rfl rfl (uF_ 9) hS4 (fun hg1 => (Yc_func (g := 169) (vs := [gD_ x]) k_call_169 rfl (mc (gv_of (v := gD_ x) hg1) mn) (CV.mono (c_impl_IsValidDyadic x _  (hS4.inn0 [] rfl) (gb_inv hc1 hg1)) (by rintro _ _ ⟨rfl, h⟩; exact ⟨rfl, hS4.out00 h⟩)))) ?_
 rintro w_4 hS5
 refine sgq 12 (B := (!(!r_2))) (v := .bool (!r_3)) rfl rfl (uF_ 9) (fun hg2 => (Y_not (p := r_3) rfl (gv_of (v := .bool r_3) hg2))) ?_
 refine sQ 13 (Y_or (b := (!r_2)) (z := (!r_3)) rfl rfl rfl rfl) (rw_nil ?_)
 refine cw_cond (b := ((!r_2) || (!r_3))) rfl (fun hb => ?_) (fun hb => ?_)
 ·skip
  have hF1 := ct hF hb
  refine cw_seq (cw_region ?_)
  refine sQ 14 (Y_buildS (zs := kN_) (vs := []) (cs := kN_) k_pl_37 k_zero_37 rfl mpn rfl) ?_
  refine s0 (Ys_store (i := 2) (s := 3) (B := aD b2) (T' := 37) (v := gN_) (vs := kN_) (k := 0) (cs' := kN_) hS5 k_sz_37_3 rfl rfl rfl rfl rfl rfl rfl (lB rfl) rfl rfl) ?_
  rintro _ w_5 ⟨rfl, hS6⟩
  refine sQ 5 (Y_assign (v := .bool false) rfl rfl) (rw_nil (cw_ret ?_))
  have hS7 := hS6.addNil 54
  obtain ⟨rfl, rfl⟩ := pr2 (some_inj hF1)
  exact ret2 Tryz.results83 (v1 := gN_) (resAt_cellA (B := aD b2) (i := 0) (cs := kN_) (vs := kN_) rfl k_ag_37 k_sz_37_3 (hS7.cf (i := 2) rfl) rfl rfl) (v2 := .bool false) (resAt_tmp rfl) ⟨none, 0, rfl, (hS7.sN [3])⟩
 ·skip
  have hF2 := cf' hF hb
  refine cw_skip (cw_seq (cw_region ?_))
  refine sQ 15 (Y_fieldAddr (B := aD b) (i := 0) (s := 0) k_fd_37_0_0_3 k_sz_3_1 rfl rfl) ?_
  refine sQ 16 (Y_load1 (B := aD b) (i := 0) (cs := kM_ m B c) (v := vi m.Rows) k_sc_3 rfl rfl (hS5.cf (i := 0) rfl) rfl) ?_
  refine sQ 17 (Y_fieldAddr (B := aD b) (i := 0) (s := 0) k_fd_37_1_1_3 k_sz_3_1 rfl rfl) ?_
  refine sQ 18 (Y_load1 (B := aD b) (i := 1) (cs := kM_ m B c) (v := vi m.Cols) k_sc_3 rfl rfl (hS5.cf (i := 0) rfl) rfl) ?_
  refine sQ 19 (Y_makeFunc (cs := [pt (aD b) 0, pt (aD b1) 0]) rfl rfl (mc rfl (mc rfl mn))) ?_
  obtain ⟨⟨r_4, r_5⟩, hc2, hF2⟩ := bind_inv hF2
  refine sc 20 rfl rfl (Yc_func (g := 143) (vs := [vi m.Rows, vi m.Cols, .func (.func 170) #[] #[pt (aD b) 0, pt (aD b1) 0]]) k_call_143 rfl (mc rfl (mc rfl (mc rfl mn))) (c_impl_matrixOf m.Rows m.Cols (fun x_0 x_1 => F_impl_ScaleMatrix_1 x_0 x_1 m x) 170 (#[pt (aD b) 0, pt (aD b1) 0]) [⟨aD b, kM_ m B c⟩, ⟨B, (m.Cells.flatMap eN0)⟩, ⟨aD b1, kD_ x⟩] _ k_call_170 (fun w hw x_0 x_1 y_0 y_1 h_ => c_impl_ScaleMatrix_1 x_0 x_1 m x (aD b) B c m.Cells.length (aD b1) w rfl hw h_) (hS5.inn0 [(false, 0), (true, 0), (false, 1)] rfl) hc2)) ?_
  rintro _ w_6 ⟨B2, c2, rfl, hd1⟩
  have hS8 := hS5.out0 hd1
  refine sQ 21 (Y_extract (v := gM_ r_4 B2 c2) rfl rfl rfl) ?_
  refine sQ 22 (Y_extract (v := .bool r_5) rfl rfl rfl) ?_
  refine s0 (Ys_store (i := 2) (s := 3) (B := aD b2) (T' := 37) (v := gM_ r_4 B2 c2) (vs := kM_ r_4 B2 c2) (k := 0) (cs' := kM_ r_4 B2 c2) hS8 k_sz_37_3 rfl rfl rfl rfl rfl rfl rfl (lB rfl) rfl rfl) ?_
  rintro _ w_7 ⟨rfl, hS9⟩
  refine sQ 5 (Y_assign (v := .bool r_5) rfl rfl) (rw_nil (cw_ret ?_))
  obtain ⟨rfl, rfl⟩ := pr2 (some_inj hF2)
  exact ret2 Tryz.results83 (v1 := gM_ r_4 B2 c2) (resAt_cellA (B := aD b2) (i := 0) (cs := kM_ r_4 B2 c2) (vs := kM_ r_4 B2 c2) rfl k_ag_37 k_sz_37_3 (hS9.cf (i := 2) rfl) rfl rfl) (v2 := .bool r_5) (resAt_tmp rfl) ⟨B2, c2, rfl, (hS9.sN [3])⟩

theorem c_slices_Equal_impl_Dyadic_impl_Dyadic (s1 : List TDyadic) (s2 : List TDyadic) (B : Option Addr) (c n : Nat) (B1 : Option Addr) (c1 n1 : Nat) (w0 : World) (hn : s1.length = n) (hn1 : s2.length = n1) (hS : ST w0 [] w0 [] [⟨B, (s1.flatMap eN0)⟩, ⟨B1, (s2.flatMap eN0)⟩]) {r_ : Bool} (hF : F_slices_Equal_impl_Dyadic_impl_Dyadic s1 s2 = some r_) :
  CV Tryz.prog 172 #[.slice B n c, .slice B1 n1 c1] w0 (fun v w' => v = .bool r_ ∧ ST w0 [] w' [] []) := by
 subst hn
 subst hn1
 unfold F_slices_Equal_impl_Dyadic_impl_Dyadic at hF
 refine cv_of_cw 26 Tryz.func172 rfl Tryz.ntmps172 rfl ?_
 refine cw_seq (cw_region ?_)
 refine sQ 4 (Y_assign (v := .bool false) rfl rfl) (rw_nil (cw_seq (cw_seq (cw_region ?_))))
 refine sQ 6 (Y_move (v := .slice B s1.length c) rfl rfl) ?_
 refine sQ 7 (Y_len (B := B) (m := s1.length) (c := c) k_sl_35_54 rfl rfl) ?_
 refine sQ 8 (Y_move (v := .slice B1 s2.length c1) rfl rfl) ?_
 refine sQ 9 (Y_len (B := B1) (m := s2.length) (c := c1) k_sl_35_54 rfl rfl) ?_
 refine sQ 10 (Y_ne (k := .i64) (a := (s1.length : Int)) (b := (s2.length : Int)) rfl rfl rfl) (rw_nil ?_)
 refine cw_cond (b := ((s1.length : Int) != (s2.length : Int))) rfl (fun hb => ?_) (fun hb => ?_)
 ·skip
  have hF1 := ct hF hb
  refine cw_seq (cw_region ?_)
  refine sQ 4 (Y_assign (v := .bool false) rfl rfl) (rw_nil (cw_ret ?_))
  obtain rfl := some_inj hF1
  exact ret1 Tryz.results172 (v1 := .bool false) (resAt_tmp rfl) ⟨rfl, (hS.sN [])⟩
 ·skip
  have hF2 := cf' hF hb
  refine cw_skip (cw_seq (cw_seq (cw_region ?_)))
  refine sQ 11 (Y_move (v := .slice B s1.length c) rfl rfl) ?_
  refine sQ 12 (Y_len (B := B) (m := s1.length) (c := c) k_sl_35_54 rfl rfl) ?_
  refine sQ 13 (Y_move (v := vi 0) rfl rfl) (rw_nil ?_)
  obtain ⟨hN, hF2⟩ := chk_inv hF2
  obtain ⟨z, hz, hF3⟩ := bind_inv hF2
  refine cw_block ?_
  refine cw_loop (fun k f w => ∃ (i : Nat), FF f [(0, .slice B s1.length c), (1, .slice B1 s2.length c1), (12, vi (s1.length : Int)), (13, vi (i : Int))] ∧ ST w0 [] w [] [⟨B, (s1.flatMap eN0)⟩, ⟨B1, (s2.flatMap eN0)⟩] ∧ i + k = s1.length ∧ forX (F_slices_Equal_impl_Dyadic_impl_Dyadic_l1 s1 s2) k i () = some z) s1.length ⟨0, (FF.cons rfl (FF.cons rfl (FF.cons rfl (FF.cons rfl FF.nil)))), (hS.sel [] rfl rfl), Nat.zero_add _, hz⟩ ?_
  rintro k_ f w ⟨i, hf, hS1, hik, hL⟩
  refine cw_seq (cw_region ?_)
  refine sQ 14 (Y_lt (k := .i64) (a := (i : Int)) (b := (s1.length : Int)) rfl (hf.get 13 3 rfl) (hf.get 12 2 rfl)) (rw_nil (cw_seq ?_))
  refine cw_cond (b := (decide ((i : Int) < (s1.length : Int)))) rfl (fun hlt => ?_) (fun hlt => ?_)
  ·skip
   have hlt1 : i < s1.length := by have h := of_decide_eq_true hlt; omega
   obtain ⟨k_1, rfl⟩ : ∃ k2, k_ = k2 + 1 := ⟨k_ - 1, by omega⟩
   obtain ⟨y, hb1, hL1⟩ := forX_go hL
   unfold F_slices_Equal_impl_Dyadic_impl_Dyadic_l1 at hb1
   refine cw_skip (cw_seq (cw_block (cw_seq (cw_region ?_))))
   refine sQ 15 (Y_move (v := vi (i : Int)) rfl (hf.get 13 3 rfl)) ?_
   refine sQ 5 (Y_assign (v := vi (i : Int)) rfl rfl) (rw_nil (cw_seq ?_))
   obtain ⟨x, hx, hb1⟩ := bind_inv hb1
   obtain ⟨x1, hx1, hb1⟩ := bind_inv hb1
   refine ra_start (hS1.se []).fn (by kernel_rfl) ?_
   have hS2 := hS1.drew
   refine rq 0 16 (v := .slice B s1.length c) rfl (hS2.se []) (fun w' hw' => (Y_move (v := .slice B s1.length c) rfl (hf.get 0 0 rfl))) ?_
   refine rq 1 17 (v := vi (i : Int)) rfl (hS2.se []) (fun w' hw' => (Y_move (v := vi (i : Int)) rfl rfl)) ?_
   refine rq 2 18 (v := pt B ((i : Int).toNat * 5)) rfl (hS2.se []) (fun w' hw' => (Y_index (B := B) (m := s1.length) (c := c) (k := .i64) (i := (i : Int)) k_sl_35_54 k_sz_54_5 rfl rfl rfl (gi_isSome eN1 rfl (ST.rf hw' (i := 0) rfl) hx) (getI_nn hx) (getI_ltI hx rfl))) ?_
   refine rq 3 19 (v := gD_ x) rfl (hS2.se []) (fun w' hw' => (Y_loadA (B := B) (i := (i : Int).toNat * 5) (cs := (s1.flatMap eN0)) (vs := kD_ x) k_ag_54 k_sz_54_5 rfl rfl (ST.rf hw' (i := 0) rfl) (eN1 x) (gi_seg eN1 hx))) ?_
   refine rq 4 20 (v := .slice B1 s2.length c1) rfl (hS2.se []) (fun w' hw' => (Y_move (v := .slice B1 s2.length c1) rfl (hf.get 1 1 rfl))) ?_
   refine rq 5 21 (v := vi (i : Int)) rfl (hS2.se []) (fun w' hw' => (Y_move (v := vi (i : Int)) rfl rfl)) ?_
   refine rq 6 22 (v := pt B1 ((i : Int).toNat * 5)) rfl (hS2.se []) (fun w' hw' => (Y_index (B := B1) (m := s2.length) (c := c1) (k := .i64) (i := (i : Int)) k_sl_35_54 k_sz_54_5 rfl rfl rfl (gi_isSome eN1 rfl (ST.rf hw' (i := 1) rfl) hx1) (getI_nn hx1) (getI_ltI hx1 rfl))) ?_
   refine rq 7 23 (v := gD_ x1) rfl (hS2.se []) (fun w' hw' => (Y_loadA (B := B1) (i := (i : Int).toNat * 5) (cs := (s2.flatMap eN0)) (vs := kD_ x1) k_ag_54 k_sz_54_5 rfl rfl (ST.rf hw' (i := 1) rfl) (eN1 x1) (gi_seg eN1 hx1))) ?_
   refine ra_q 8 24 (v := .bool (!(((x.Num.A == x1.Num.A) && ((x.Num.B == x1.Num.B) && ((x.Num.C == x1.Num.C) && ((x.Num.D == x1.Num.D) && true)))) && ((x.Exp == x1.Exp) && true)))) rfl rfl rfl (by kernel_rfl) (by kernel_rfl) (by kernel_rfl) (hS2.se []) (fun w' hw' => (Y_neA (xs := #[vi x.Num.A, vi x.Num.B, vi x.Num.C, vi x.Num.D, vi x.Exp]) (ys := #[vi x1.Num.A, vi x1.Num.B, vi x1.Num.C, vi x1.Num.D, vi x1.Exp]) (b := (((x.Num.A == x1.Num.A) && ((x.Num.B == x1.Num.B) && ((x.Num.C == x1.Num.C) && ((x.Num.D == x1.Num.D) && true)))) && ((x.Exp == x1.Exp) && true))) k_eg_54 rfl rfl rfl (eqr_struct (xs := kD_ x) (ys := kD_ x1) k_st_54 k_ho_54 (pts_ag (us := kR_ x.Num) (vs := kR_ x1.Num) k_ag_52 k_sz_52_4 rfl rfl (eqr_struct (xs := kR_ x.Num) (ys := kR_ x1.Num) k_st_52 k_ho_52 (pts_sc k_sc_3 rfl rfl (eqr_int k_int_3_i64) (pts_sc k_sc_3 rfl rfl (eqr_int k_int_3_i64) (pts_sc k_sc_3 rfl rfl (eqr_int k_int_3_i64) (pts_sc k_sc_3 rfl rfl (eqr_int k_int_3_i64) pts_nil))))) (pts_sc k_sc_3 rfl rfl (eqr_int k_int_3_i64) pts_nil))))) ?_
   refine ra_done (by kernel_rfl) ?_
   refine cw_cond (b := (!(((x.Num.A == x1.Num.A) && ((x.Num.B == x1.Num.B) && ((x.Num.C == x1.Num.C) && ((x.Num.D == x1.Num.D) && true)))) && ((x.Exp == x1.Exp) && true)))) rfl (fun hb2 => ?_) (fun hb2 => ?_)
   ·skip
    have hF4 := ct hb1 hb2
    refine cw_seq (cw_region ?_)
    refine sQ 4 (Y_assign (v := .bool false) rfl rfl) (rw_nil (cw_ret ?_))
    obtain rfl := some_inj hF4
    obtain rfl := some_inj hL1
    obtain rfl := some_inj hF3
    exact ret1 Tryz.results172 (v1 := .bool false) (resAt_tmp rfl) ⟨rfl, (hS2.sN [])⟩
   ·skip
    have hF5 := cf' hb1 hb2
    refine cw_skip (cw_region ?_)
    refine sQ 25 (Y_add (k := .i64) (a := (i : Int)) (b := 1) rfl (hf.get 13 3 rfl) rfl) ?_
    refine sQ 13 (Y_move (v := vi (i64.wrap ((i : Int) + 1))) rfl rfl) (rw_nil ?_)
    obtain rfl := some_inj hF5
    exact ⟨k_1, Nat.lt_succ_self _, i + 1, (FF.cons (hf.get 0 0 rfl) (FF.cons (hf.get 1 1 rfl) (FF.cons (hf.get 12 2 rfl) (FF.cons (congrArg (Value.int .i64) (wr_succ hlt1 hN)) FF.nil)))), (hS2.sel [] rfl rfl), (by omega), hL1⟩
  ·skip
   obtain rfl : k_ = 0 := by have h := of_decide_eq_false hlt; omega
   refine cw_exit rfl ?_
   obtain rfl := some_inj hL
   refine cw_seq (cw_region ?_)
   refine sQ 4 (Y_assign (v := .bool true) rfl rfl) (rw_nil (cw_ret ?_))
   obtain rfl := some_inj hF3
   exact ret1 Tryz.results172 (v1 := .bool true) (resAt_tmp rfl) ⟨rfl, (hS1.sN [])⟩

theorem c_impl_EqualMatrices (a : TMatrix) (b : TMatrix) (B : Option Addr) (c n : Nat) (B1 : Option Addr) (c1 n1 : Nat) (w0 : World) (hn : a.Cells.length = n) (hn1 : b.Cells.length = n1) (hS : ST w0 [] w0 [] [⟨B, (a.Cells.flatMap eN0)⟩, ⟨B1, (b.Cells.flatMap eN0)⟩]) {r_ : Bool} (hF : F_impl_EqualMatrices a b = some r_) :
  CV Tryz.prog 85 #[.agg #[vi a.Rows, vi a.Cols, .slice B n c], .agg #[vi b.Rows, vi b.Cols, .slice B1 n1 c1]] w0 (fun v w' => v = .bool r_ ∧ ST w0 [] w' [] []) := by
 subst hn
 subst hn1
 unfold F_impl_EqualMatrices at hF
 refine cv_of_cw 24 Tryz.func85 rfl Tryz.ntmps85 rfl ?_
 refine cw_seq (cw_region ?_)
 refine sS 2 (Ys_box (T := 37) (v := gM_ a B c) (cs := kM_ a B c) (m := 3) hS rfl rfl rfl rfl) ?_
 rintro _ w_ ⟨b1, rfl, hS1⟩
 refine sS 3 (Ys_box (T := 37) (v := gM_ b B1 c1) (cs := kM_ b B1 c1) (m := 3) hS1 rfl rfl rfl rfl) ?_
 rintro _ w_1 ⟨b2, rfl, hS2⟩
 refine sQ 4 (Y_assign (v := .bool false) rfl rfl) (rw_nil (cw_seq (cw_region ?_)))
 refine sQ 5 (Y_fieldAddr (B := aD b1) (i := 0) (s := 0) k_fd_37_0_0_3 k_sz_3_1 rfl rfl) ?_
 refine sQ 6 (Y_load1 (B := aD b1) (i := 0) (cs := kM_ a B c) (v := vi a.Rows) k_sc_3 rfl rfl (hS2.cf (i := 0) rfl) rfl) ?_
 refine sQ 7 (Y_fieldAddr (B := aD b2) (i := 0) (s := 0) k_fd_37_0_0_3 k_sz_3_1 rfl rfl) ?_
 refine sQ 8 (Y_load1 (B := aD b2) (i := 0) (cs := kM_ b B1 c1) (v := vi b.Rows) k_sc_3 rfl rfl (hS2.cf (i := 1) rfl) rfl) ?_
 refine sQ 9 (Y_eq (k := .i64) (a := a.Rows) (b := b.Rows) rfl rfl rfl) ?_
 refine sQ 10 (Y_move (v := .bool (a.Rows == b.Rows)) rfl rfl) ?_
 refine sgq 11 (B := (a.Rows == b.Rows)) (v := pt (aD b1) 1) rfl rfl (uT_ 10) (fun hg => (Y_fieldAddr (B := aD b1) (i := 0) (s := 0) k_fd_37_1_1_3 k_sz_3_1 rfl rfl)) ?_
 refine sgq 12 (B := (a.Rows == b.Rows)) (v := vi a.Cols) rfl rfl (uT_ 10) (fun hg1 => (Y_load1 (B := aD b1) (i := 1) (cs := kM_ a B c) (v := vi a.Cols) k_sc_3 rfl (gv_of (v := pt (aD b1) 1) hg1) (hS2.cf (i := 0) rfl) rfl)) ?_
 refine sgq 13 (B := (a.Rows == b.Rows)) (v := pt (aD b2) 1) rfl rfl (uT_ 10) (fun hg2 => (Y_fieldAddr (B := aD b2) (i := 0) (s := 0) k_fd_37_1_1_3 k_sz_3_1 rfl rfl)) ?_
 refine sgq 14 (B := (a.Rows == b.Rows)) (v := vi b.Cols) rfl rfl (uT_ 10) (fun hg3 => (Y_load1 (B := aD b2) (i := 1) (cs := kM_ b B1 c1) (v := vi b.Cols) k_sc_3 rfl (gv_of (v := pt (aD b2) 1) hg3) (hS2.cf (i := 1) rfl) rfl)) ?_
 refine sgq 15 (B := (a.Rows == b.Rows)) (v := .bool (a.Cols == b.Cols)) rfl rfl (uT_ 10) (fun hg4 => (Y_eq (k := .i64) (a := a.Cols) (b := b.Cols) rfl (gv_of (v := vi a.Cols) hg4) (gv_of (v := vi b.Cols) hg4))) ?_
 refine sQ 16 (Y_and (b := (a.Rows == b.Rows)) (z := (a.Cols == b.Cols)) rfl rfl rfl rfl) ?_
 refine sQ 17 (Y_move (v := .bool ((a.Rows == b.Rows) && (a.Cols == b.Cols))) rfl rfl) ?_
 refine sgq 18 (B := ((a.Rows == b.Rows) && (a.Cols == b.Cols))) (v := pt (aD b1) 2) rfl rfl (uT_ 17) (fun hg5 => (Y_fieldAddr (B := aD b1) (i := 0) (s := 0) k_fd_37_2_2_35 k_sz_35_1 rfl rfl)) ?_
 refine sgq 19 (B := ((a.Rows == b.Rows) && (a.Cols == b.Cols))) (v := .slice B a.Cells.length c) rfl rfl (uT_ 17) (fun hg6 => (Y_load1 (B := aD b1) (i := 2) (cs := kM_ a B c) (v := .slice B a.Cells.length c) k_sc_35 rfl (gv_of (v := pt (aD b1) 2) hg6) (hS2.cf (i := 0) rfl) rfl)) ?_
 refine sgq 20 (B := ((a.Rows == b.Rows) && (a.Cols == b.Cols))) (v := pt (aD b2) 2) rfl rfl (uT_ 17) (fun hg7 => (Y_fieldAddr (B := aD b2) (i := 0) (s := 0) k_fd_37_2_2_35 k_sz_35_1 rfl rfl)) ?_
 refine sgq 21 (B := ((a.Rows == b.Rows) && (a.Cols == b.Cols))) (v := .slice B1 b.Cells.length c1) rfl rfl (uT_ 17) (fun hg8 => (Y_load1 (B := aD b2) (i := 2) (cs := kM_ b B1 c1) (v := .slice B1 b.Cells.length c1) k_sc_35 rfl (gv_of (v := pt (aD b2) 2) hg8) (hS2.cf (i := 1) rfl) rfl)) ?_
 obtain ⟨r_1, hc, hF⟩ := bind_inv hF
 refine sgc 22 (B := ((a.Rows == b.Rows) && (a.Cols == b.Cols))) (v := .bool r_1) (F := hS2.fn) rfl rfl (uT_ 17) hS2 (fun hg9 => (Yc_func (g := 172) (vs := [.slice B a.Cells.length c, .slice B1 b.Cells.length c1]) k_call_172 rfl (mc (gv_of (v := .slice B a.Cells.length c) hg9) (mc (gv_of (v := .slice B1 b.Cells.length c1) hg9) mn)) (CV.mono (c_slices_Equal_impl_Dyadic_impl_Dyadic a.Cells b.Cells B c a.Cells.length B1 c1 b.Cells.length _ rfl rfl (hS2.inn0 [(true, 0), (true, 1)] rfl) (gb_inv hc hg9)) (by rintro _ _ ⟨rfl, h⟩; exact ⟨rfl, hS2.out00 h⟩)))) ?_
 rintro w_2 hS3
 refine sQ 23 (Y_and (b := ((a.Rows == b.Rows) && (a.Cols == b.Cols))) (z := r_1) rfl rfl rfl rfl) ?_
 refine sQ 4 (Y_assign (v := .bool (((a.Rows == b.Rows) && (a.Cols == b.Cols)) && r_1)) rfl rfl) (rw_nil (cw_ret ?_))
 obtain rfl := some_inj hF
 exact ret1 Tryz.results85 (v1 := .bool (((a.Rows == b.Rows) && (a.Cols == b.Cols)) && r_1)) (resAt_tmp rfl) ⟨rfl, (hS3.sN [])⟩

theorem c_impl_EqualUpToPhase (a : TMatrix) (b : TMatrix) (B : Option Addr) (c n : Nat) (B1 : Option Addr) (c1 n1 : Nat) (w0 : World) (hn : a.Cells.length = n) (hn1 : b.Cells.length = n1) (hS : ST w0 [] w0 [] [⟨B, (a.Cells.flatMap eN0)⟩, ⟨B1, (b.Cells.flatMap eN0)⟩]) {r_ : Int} {r_1 : Bool} {r_2 : Bool} (hF : F_impl_EqualUpToPhase a b = some (r_, r_1, r_2)) :
  CV Tryz.prog 28 #[.agg #[vi a.Rows, vi a.Cols, .slice B n c], .agg #[vi b.Rows, vi b.Cols, .slice B1 n1 c1]] w0 (fun v w' => v = .tuple #[vi r_, .bool r_1, .bool r_2] ∧ ST w0 [] w' [] []) := by
 subst hn
 subst hn1
 unfold F_impl_EqualUpToPhase at hF
 refine cv_of_cw 36 Tryz.func28 rfl Tryz.ntmps28 rfl ?_
 refine cw_seq (cw_region ?_)
 refine sS 2 (Ys_box (T := 37) (v := gM_ a B c) (cs := kM_ a B c) (m := 3) hS rfl rfl rfl rfl) ?_
 rintro _ w_ ⟨b1, rfl, hS1⟩
 refine sS 3 (Ys_box (T := 37) (v := gM_ b B1 c1) (cs := kM_ b B1 c1) (m := 3) hS1 rfl rfl rfl rfl) ?_
 rintro _ w_1 ⟨b2, rfl, hS2⟩
 refine sQ 4 (Y_assign (v := vi 0) rfl rfl) ?_
 refine sQ 5 (Y_assign (v := .bool false) rfl rfl) ?_
 refine sQ 6 (Y_assign (v := .bool false) rfl rfl) (rw_nil (cw_seq (cw_seq (cw_region ?_))))
 refine sQ 10 (Y_loadA (B := aD b1) (i := 0) (cs := kM_ a B c) (vs := kM_ a B c) k_ag_37 k_sz_37_3 rfl rfl (hS2.cf (i := 0) rfl) rfl rfl) ?_
 obtain ⟨r_3, hc, hF⟩ := bind_inv hF
 refine sc 11 rfl rfl (Yc_func (g := 82) (vs := [gM_ a B c]) k_call_82 rfl (mc rfl mn) (c_impl_IsValidMatrix a B c a.Cells.length _ rfl (hS2.inn0 [(true, 0)] rfl) hc)) ?_
 rintro _ w_2 ⟨rfl, hd⟩
 have hS3 := hS2.out00 hd
 refine sQ 12 (Y_not (p := r_3) rfl rfl) ?_
 refine sQ 13 (Y_move (v := .bool (!r_3)) rfl rfl) ?_
 refine sgq 14 (B := (!(!r_3))) (v := gM_ b B1 c1) rfl rfl (uF_ 13) (fun hg => (Y_loadA (B := aD b2) (i := 0) (cs := kM_ b B1 c1) (vs := kM_ b B1 c1) k_ag_37 k_sz_37_3 rfl rfl (hS3.cf (i := 1) rfl) rfl rfl)) ?_
 obtain ⟨r_4, hc1, hF⟩ := bind_inv hF
 refine sgc 15 (B := (!(!r_3))) (v := .bool r_4) (F := hS3.fn) rfl rfl (uF_ 13) hS3 (fun hg1 => (Yc_func (g := 82) (vs := [gM_ b B1 c1]) k_call_82 rfl (mc (gv_of (v := gM_ b B1 c1) hg1) mn) (CV.mono (c_impl_IsValidMatrix b B1 c1 b.Cells.length _ rfl (hS3.inn0 [(true, 1)] rfl) (gb_inv hc1 hg1)) (by rintro _ _ ⟨rfl, h⟩; exact ⟨rfl, hS3.out00 h⟩)))) ?_
 rintro w_3 hS4
 refine sgq 16 (B := (!(!r_3))) (v := .bool (!r_4)) rfl rfl (uF_ 13) (fun hg2 => (Y_not (p := r_4) rfl (gv_of (v := .bool r_4) hg2))) ?_
 refine sQ 17 (Y_or (b := (!r_3)) (z := (!r_4)) rfl rfl rfl rfl) (rw_nil ?_)
 refine cw_cond (b := ((!r_3) || (!r_4))) rfl (fun hb => ?_) (fun hb => ?_)
 ·skip
  have hF1 := ct hF hb
  refine cw_seq (cw_region ?_)
  refine sQ 4 (Y_assign (v := vi 0) rfl rfl) ?_
  refine sQ 5 (Y_assign (v := .bool false) rfl rfl) ?_
  refine sQ 6 (Y_assign (v := .bool false) rfl rfl) (rw_nil (cw_ret ?_))
  obtain ⟨rfl, rfl, rfl⟩ := pr3 (some_inj hF1)
  exact ret3 Tryz.results28 (v1 := vi 0) (resAt_tmp rfl) (v2 := .bool false) (resAt_tmp rfl) (v3 := .bool false) (resAt_tmp rfl) ⟨rfl, (hS4.sN [])⟩
 ·skip
  have hF2 := cf' hF hb
  refine cw_skip (cw_seq (cw_seq (cw_region ?_)))
  refine sQ 18 (Y_move (v := vi 0) rfl rfl) (rw_nil ?_)
  obtain ⟨z, hz, hF3⟩ := bind_inv hF2
  refine cw_block ?_
  refine cw_loop (fun k f w => ∃ (i : Nat), FF f [(2, pt (aD b1) 0), (3, pt (aD b2) 0), (18, vi (i : Int))] ∧ ST w0 [] w [⟨aD b1, 37, kM_ a B c, 3⟩, ⟨aD b2, 37, kM_ b B1 c1, 3⟩] [⟨B, (a.Cells.flatMap eN0)⟩, ⟨B1, (b.Cells.flatMap eN0)⟩] ∧ i + k = 8 ∧ forX (F_impl_EqualUpToPhase_l1 b a) k i () = some z) 8 ⟨0, (FF.cons rfl (FF.cons rfl (FF.cons rfl FF.nil))), (hS4.sel [0, 1] rfl rfl), Nat.zero_add _, hz⟩ ?_
  rintro k_ f w ⟨i, hf, hS5, hik, hL⟩
  refine cw_seq (cw_region ?_)
  refine sQ 19 (Y_lt (k := .i64) (a := (i : Int)) (b := 8) rfl (hf.get 18 2 rfl) rfl) (rw_nil (cw_seq ?_))
  refine cw_cond (b := (decide ((i : Int) < 8))) rfl (fun hlt => ?_) (fun hlt => ?_)
  ·skip
   have hlt1 : i < 8 := by have h := of_decide_eq_true hlt; omega
   obtain ⟨k_1, rfl⟩ : ∃ k2, k_ = k2 + 1 := ⟨k_ - 1, by omega⟩
   obtain ⟨y, hb1, hL1⟩ := forX_go hL
   unfold F_impl_EqualUpToPhase_l1 at hb1
   refine cw_skip (cw_seq (cw_block (cw_seq (cw_region ?_))))
   refine sQ 20 (Y_move (v := vi (i : Int)) rfl (hf.get 18 2 rfl)) ?_
   refine sQ 7 (Y_assign (v := vi (i : Int)) rfl rfl) (rw_nil (cw_seq ?_))
   obtain ⟨r_5, hc2, hb1⟩ := bind_inv hb1
   obtain ⟨⟨r_6, r_7⟩, hc3, hb1⟩ := bind_inv hb1
   refine cw_mid (fun f w => ∃ (B3 : Option Addr) (B4 : Option Addr) (c3 : Nat), FF f [(2, pt (aD b1) 0), (3, pt (aD b2) 0), (7, vi (i : Int)), (8, pt B3 0), (9, .bool r_7), (18, vi (i : Int))] ∧ ST w0 [] w [⟨aD b1, 37, kM_ a B c, 3⟩, ⟨aD b2, 37, kM_ b B1 c1, 3⟩, ⟨B3, 37, kM_ r_6 B4 c3, 3⟩, ⟨B4, 54, (r_6.Cells.flatMap eN0), c3 * 5⟩] [⟨B, (a.Cells.flatMap eN0)⟩, ⟨B1, (b.Cells.flatMap eN0)⟩]) ?_ ?_
   ·skip
    refine ra_start (hS5.se [0, 1]).fn (by kernel_rfl) ?_
    have hS9 := hS5.drew
    refine rq 0 22 (v := gM_ b B1 c1) rfl (hS9.se [0, 1]) (fun w' hw' => (Y_loadA (B := aD b2) (i := 0) (cs := kM_ b B1 c1) (vs := kM_ b B1 c1) k_ag_37 k_sz_37_3 rfl (hf.get 3 1 rfl) (ST.cf hw' (i := 1) rfl) rfl rfl)) ?_
    refine rq 1 23 (v := vi (i : Int)) rfl (hS9.se [0, 1]) (fun w' hw' => (Y_move (v := vi (i : Int)) rfl rfl)) ?_
    refine rA [2, 7] ?_
    refine ra_c 24 (i := 2) rfl rfl rfl (Yc_func (g := 84) (vs := [vi (i : Int)]) k_call_84 rfl (mc rfl mn) (c_impl_phase (i : Int) _  (hS9.inn0 [] rfl) hc2)) ?_ ?_
    ·rintro _ w_4 ⟨rfl, hd1⟩
     have hS10 := hS9.out00 hd1
     refine ⟨(hS10.se [0, 1]), ?_⟩
     refine rA [3, 7] ?_
     refine ra_c 25 (i := 3) rfl rfl rfl (Yc_func (g := 83) (vs := [gM_ b B1 c1, gD_ r_5]) k_call_83 rfl (mc rfl (mc rfl mn)) (c_impl_ScaleMatrix b r_5 B1 c1 b.Cells.length _ rfl (hS10.inn0 [(true, 1)] rfl) hc3)) ?_ ?_
     ·rintro _ w_5 ⟨B2, c2, rfl, hd2⟩
      have hS11 := hS10.out0 hd2
      refine ⟨(hS11.se [0, 1]), ?_⟩
      refine rq 4 21 (v := .tuple #[gM_ r_6 B2 c2, .bool r_7]) rfl (hS11.se [0, 1]) (fun w' hw' => (Y_move (v := .tuple #[gM_ r_6 B2 c2, .bool r_7]) rfl rfl)) ?_
      refine rq 5 26 (v := gM_ r_6 B2 c2) rfl (hS11.se [0, 1]) (fun w' hw' => (Y_extract (v := gM_ r_6 B2 c2) rfl rfl rfl)) ?_
      refine rq 6 27 (v := .bool r_7) rfl (hS11.se [0, 1]) (fun w' hw' => (Y_extract (v := .bool r_7) rfl rfl rfl)) ?_
      refine rA [7] ?_
      refine ra_s 8 (i := 7) rfl rfl rfl (Ys_alloc (T := 37) (cs := kN_) (m := 3) hS11 k_zero_37 rfl rfl rfl) ?_ ?_
      ·rintro _ w_6 ⟨b3, rfl, hS12⟩
       refine ⟨(hS12.se [0, 1]), ?_⟩
       refine rA [8] ?_
       refine ra_s0 (i := 8) rfl rfl rfl (Ys_store (i := 3) (s := 3) (B := aD b3) (T' := 37) (v := gM_ r_6 B2 c2) (vs := kM_ r_6 B2 c2) (k := 0) (cs' := kM_ r_6 B2 c2) hS12 k_sz_37_3 rfl rfl rfl rfl rfl rfl rfl (lB rfl) rfl rfl) ?_ ?_
       ·rintro _ w_7 ⟨rfl, hS13⟩
        refine ⟨(hS13.se [0, 1]), ?_⟩
        refine rq 9 9 (v := .bool r_7) rfl (hS13.se [0, 1]) (fun w' hw' => (Y_assign (v := .bool r_7) rfl rfl)) ?_
        refine ra_done (by kernel_rfl) ?_
        exact ⟨aD b3, B2, c2, (FF.cons (hf.get 2 0 rfl) (FF.cons (hf.get 3 1 rfl) (FF.cons rfl (FF.cons rfl (FF.cons rfl (FF.cons (hf.get 18 2 rfl) FF.nil)))))), (hS13.sel [0, 1, 3, 2] rfl rfl)⟩
       exact allR_nil
      exact allR_nil
     refine ra_s 8 (i := 7) rfl rfl rfl (Ys_alloc (T := 37) (cs := kN_) (m := 3) hS10 k_zero_37 rfl rfl rfl) ?_ ?_
     ·rintro _ w_8 ⟨b3, rfl, hS14⟩
      refine ⟨(hS14.se [0, 1]), ?_⟩
      refine rA [3] ?_
      refine ra_c 25 (i := 3) rfl rfl rfl (Yc_func (g := 83) (vs := [gM_ b B1 c1, gD_ r_5]) k_call_83 rfl (mc rfl (mc rfl mn)) (c_impl_ScaleMatrix b r_5 B1 c1 b.Cells.length _ rfl (hS14.inn0 [(true, 1)] rfl) hc3)) ?_ ?_
      ·rintro _ w_9 ⟨B2, c2, rfl, hd3⟩
       have hS15 := hS14.out0 hd3
       refine ⟨(hS15.se [0, 1]), ?_⟩
       refine rq 4 21 (v := .tuple #[gM_ r_6 B2 c2, .bool r_7]) rfl (hS15.se [0, 1]) (fun w' hw' => (Y_move (v := .tuple #[gM_ r_6 B2 c2, .bool r_7]) rfl rfl)) ?_
       refine rq 5 26 (v := gM_ r_6 B2 c2) rfl (hS15.se [0, 1]) (fun w' hw' => (Y_extract (v := gM_ r_6 B2 c2) rfl rfl rfl)) ?_
       refine rq 6 27 (v := .bool r_7) rfl (hS15.se [0, 1]) (fun w' hw' => (Y_extract (v := .bool r_7) rfl rfl rfl)) ?_
       refine rA [8] ?_
       refine ra_s0 (i := 8) rfl rfl rfl (Ys_store (i := 2) (s := 3) (B := aD b3) (T' := 37) (v := gM_ r_6 B2 c2) (vs := kM_ r_6 B2 c2) (k := 0) (cs' := kM_ r_6 B2 c2) hS15 k_sz_37_3 rfl rfl rfl rfl rfl rfl rfl (lB rfl) rfl rfl) ?_ ?_
       ·rintro _ w_10 ⟨rfl, hS16⟩
        refine ⟨(hS16.se [0, 1]), ?_⟩
        refine rq 9 9 (v := .bool r_7) rfl (hS16.se [0, 1]) (fun w' hw' => (Y_assign (v := .bool r_7) rfl rfl)) ?_
        refine ra_done (by kernel_rfl) ?_
        exact ⟨aD b3, B2, c2, (FF.cons (hf.get 2 0 rfl) (FF.cons (hf.get 3 1 rfl) (FF.cons rfl (FF.cons rfl (FF.cons rfl (FF.cons (hf.get 18 2 rfl) FF.nil)))))), (hS16.sel [0, 1, 2, 3] rfl rfl)⟩
       exact allR_nil
      exact allR_nil
     exact allR_nil
    refine ra_s 8 (i := 7) rfl rfl rfl (Ys_alloc (T := 37) (cs := kN_) (m := 3) hS9 k_zero_37 rfl rfl rfl) ?_ ?_
    ·rintro _ w_11 ⟨b3, rfl, hS17⟩
     refine ⟨(hS17.se [0, 1]), ?_⟩
     refine rA [2] ?_
     refine ra_c 24 (i := 2) rfl rfl rfl (Yc_func (g := 84) (vs := [vi (i : Int)]) k_call_84 rfl (mc rfl mn) (c_impl_phase (i : Int) _  (hS17.inn0 [] rfl) hc2)) ?_ ?_
     ·rintro _ w_12 ⟨rfl, hd4⟩
      have hS18 := hS17.out00 hd4
      refine ⟨(hS18.se [0, 1]), ?_⟩
      refine rA [3] ?_
      refine ra_c 25 (i := 3) rfl rfl rfl (Yc_func (g := 83) (vs := [gM_ b B1 c1, gD_ r_5]) k_call_83 rfl (mc rfl (mc rfl mn)) (c_impl_ScaleMatrix b r_5 B1 c1 b.Cells.length _ rfl (hS18.inn0 [(true, 1)] rfl) hc3)) ?_ ?_
      ·rintro _ w_13 ⟨B2, c2, rfl, hd5⟩
       have hS19 := hS18.out0 hd5
       refine ⟨(hS19.se [0, 1]), ?_⟩
       refine rq 4 21 (v := .tuple #[gM_ r_6 B2 c2, .bool r_7]) rfl (hS19.se [0, 1]) (fun w' hw' => (Y_move (v := .tuple #[gM_ r_6 B2 c2, .bool r_7]) rfl rfl)) ?_
       refine rq 5 26 (v := gM_ r_6 B2 c2) rfl (hS19.se [0, 1]) (fun w' hw' => (Y_extract (v := gM_ r_6 B2 c2) rfl rfl rfl)) ?_
       refine rq 6 27 (v := .bool r_7) rfl (hS19.se [0, 1]) (fun w' hw' => (Y_extract (v := .bool r_7) rfl rfl rfl)) ?_
       refine rA [8] ?_
       refine ra_s0 (i := 8) rfl rfl rfl (Ys_store (i := 2) (s := 3) (B := aD b3) (T' := 37) (v := gM_ r_6 B2 c2) (vs := kM_ r_6 B2 c2) (k := 0) (cs' := kM_ r_6 B2 c2) hS19 k_sz_37_3 rfl rfl rfl rfl rfl rfl rfl (lB rfl) rfl rfl) ?_ ?_
       ·rintro _ w_14 ⟨rfl, hS20⟩
        refine ⟨(hS20.se [0, 1]), ?_⟩
        refine rq 9 9 (v := .bool r_7) rfl (hS20.se [0, 1]) (fun w' hw' => (Y_assign (v := .bool r_7) rfl rfl)) ?_
        refine ra_done (by kernel_rfl) ?_
        exact ⟨aD b3, B2, c2, (FF.cons (hf.get 2 0 rfl) (FF.cons (hf.get 3 1 rfl) (FF.cons rfl (FF.cons rfl (FF.cons rfl (FF.cons (hf.get 18 2 rfl) FF.nil)))))), (hS20.sel [0, 1, 2, 3] rfl rfl)⟩
       exact allR_nil
      exact allR_nil
     exact allR_nil
    exact allR_nil
   rintro f w ⟨B3, B4, c3, hf1, hS8⟩
   refine cw_seq (cw_region ?_)
   refine sQ 28 (Y_move (v := .bool r_7) rfl (hf1.get 9 4 rfl)) ?_
   refine sQ 29 (Y_move (v := .bool r_7) rfl rfl) ?_
   refine sgq 30 (B := r_7) (v := gM_ a B c) rfl rfl (uT_ 29) (fun hg3 => (Y_loadA (B := aD b1) (i := 0) (cs := kM_ a B c) (vs := kM_ a B c) k_ag_37 k_sz_37_3 rfl (hf1.get 2 0 rfl) (hS8.cf (i := 0) rfl) rfl rfl)) ?_
   refine sgq 31 (B := r_7) (v := gM_ r_6 B4 c3) rfl rfl (uT_ 29) (fun hg4 => (Y_loadA (B := B3) (i := 0) (cs := kM_ r_6 B4 c3) (vs := kM_ r_6 B4 c3) k_ag_37 k_sz_37_3 rfl (hf1.get 8 3 rfl) (hS8.cf (i := 2) rfl) rfl rfl)) ?_
   obtain ⟨r_8, hc4, hb1⟩ := bind_inv hb1
   refine sgc 32 (B := r_7) (v := .bool r_8) (F := hS8.fn) rfl rfl (uT_ 29) hS8 (fun hg5 => (Yc_func (g := 85) (vs := [gM_ a B c, gM_ r_6 B4 c3]) k_call_85 rfl (mc (gv_of (v := gM_ a B c) hg5) (mc (gv_of (v := gM_ r_6 B4 c3) hg5) mn)) (CV.mono (c_impl_EqualMatrices a r_6 B c a.Cells.length B4 c3 r_6.Cells.length _ rfl rfl (hS8.inn0 [(true, 0), (false, 3)] rfl) (gb_inv hc4 hg5)) (by rintro _ _ ⟨rfl, h⟩; exact ⟨rfl, hS8.out00 h⟩)))) ?_
   rintro w_15 hS21
   refine sQ 33 (Y_and (b := r_7) (z := r_8) rfl rfl rfl rfl) (rw_nil ?_)
   refine cw_cond (b := (r_7 && r_8)) rfl (fun hb2 => ?_) (fun hb2 => ?_)
   ·skip
    have hF4 := ct hb1 hb2
    refine cw_seq (cw_region ?_)
    refine sQ 34 (Y_move (v := vi (i : Int)) rfl (hf1.get 7 2 rfl)) ?_
    refine sQ 4 (Y_assign (v := vi (i : Int)) rfl rfl) ?_
    refine sQ 5 (Y_assign (v := .bool true) rfl rfl) ?_
    refine sQ 6 (Y_assign (v := .bool true) rfl rfl) (rw_nil (cw_ret ?_))
    obtain rfl := some_inj hF4
    obtain rfl := some_inj hL1
    obtain ⟨rfl, rfl, rfl⟩ := pr3 (some_inj hF3)
    exact ret3 Tryz.results28 (v1 := vi (i : Int)) (resAt_tmp rfl) (v2 := .bool true) (resAt_tmp rfl) (v3 := .bool true) (resAt_tmp rfl) ⟨rfl, (hS21.sN [])⟩
   ·skip
    have hF5 := cf' hb1 hb2
    refine cw_skip (cw_region ?_)
    refine sQ 35 (Y_add (k := .i64) (a := (i : Int)) (b := 1) rfl (hf1.get 18 5 rfl) rfl) ?_
    refine sQ 18 (Y_move (v := vi (i64.wrap ((i : Int) + 1))) rfl rfl) (rw_nil ?_)
    obtain rfl := some_inj hF5
    exact ⟨k_1, Nat.lt_succ_self _, i + 1, (FF.cons (hf1.get 2 0 rfl) (FF.cons (hf1.get 3 1 rfl) (FF.cons (congrArg (Value.int .i64) (wr_succ hlt1 (show 8 ≤ 9223372036854775807 by decide))) FF.nil))), (hS21.sel [0, 1] rfl rfl), (by omega), hL1⟩
  ·skip
   obtain rfl : k_ = 0 := by have h := of_decide_eq_false hlt; omega
   refine cw_exit rfl ?_
   obtain rfl := some_inj hL
   refine cw_seq (cw_region ?_)
   refine sQ 4 (Y_assign (v := vi 0) rfl rfl) ?_
   refine sQ 5 (Y_assign (v := .bool false) rfl rfl) ?_
   refine sQ 6 (Y_assign (v := .bool true) rfl rfl) (rw_nil (cw_ret ?_))
   obtain ⟨rfl, rfl, rfl⟩ := pr3 (some_inj hF3)
   exact ret3 Tryz.results28 (v1 := vi 0) (resAt_tmp rfl) (v2 := .bool false) (resAt_tmp rfl) (v3 := .bool true) (resAt_tmp rfl) ⟨rfl, (hS5.sN [])⟩

theorem c_spec_MulOmega (x : TRing) (k_ : Int)  (w0 : World)  (hS : ST w0 [] w0 [] []) {r_ : TRing} {r_1 : Bool} (hF : F_spec_MulOmega x k_ = some (r_, r_1)) :
  CV Tryz.prog 29 #[gR_ x, vi k_] w0 (fun v w' => v = .tuple #[gR_ r_, .bool r_1] ∧ ST w0 [] w' [] []) := by
 unfold F_spec_MulOmega at hF
 refine cv_of_cw 18 Tryz.func29 rfl Tryz.ntmps29 rfl ?_
 refine cw_seq (cw_region ?_)
 refine sS 2 (Ys_box (T := 52) (v := gR_ x) (cs := kR_ x) (m := 4) hS rfl rfl rfl rfl) ?_
 rintro _ w_ ⟨b, rfl, hS1⟩
 refine sS 4 (Ys_alloc (T := 52) (cs := [vi 0, vi 0, vi 0, vi 0]) (m := 4) hS1 k_zero_52 rfl rfl rfl) ?_
 rintro _ w_1 ⟨b1, rfl, hS2⟩
 refine sQ 5 (Y_assign (v := .bool false) rfl rfl) (rw_nil (cw_seq (cw_seq (cw_region ?_))))
 refine sQ 6 (Y_loadA (B := aD b) (i := 0) (cs := kR_ x) (vs := kR_ x) k_ag_52 k_sz_52_4 rfl rfl (hS2.cf (i := 0) rfl) rfl rfl) ?_
 obtain ⟨r_2, hc, hF⟩ := bind_inv hF
 refine sc 7 rfl rfl (Yc_func (g := 86) (vs := [gR_ x]) k_call_86 rfl (mc rfl mn) (c_spec_l1Good x _  (hS2.inn0 [] rfl) hc)) ?_
 rintro _ w_2 ⟨rfl, hd⟩
 have hS3 := hS2.out00 hd
 refine sQ 8 (Y_not (p := r_2) rfl rfl) ?_
 refine sQ 9 (Y_move (v := .bool (!r_2)) rfl rfl) ?_
 refine sgq 10 (B := (!(!r_2))) (v := vi k_) rfl rfl (uF_ 9) (fun hg => (Y_move (v := vi k_) rfl rfl)) ?_
 obtain ⟨r_3, hc1, hF⟩ := bind_inv hF
 refine sgc 11 (B := (!(!r_2))) (v := .bool r_3) (F := hS3.fn) rfl rfl (uF_ 9) hS3 (fun hg1 => (Yc_func (g := 51) (vs := [vi k_, vi (-1000), vi 1000]) k_call_51 rfl (mc (gv_of (v := vi k_) hg1) (mc rfl (mc rfl mn))) (CV.mono (c_spec_l1In k_ (-1000) 1000 _  (hS3.inn0 [] rfl) (gb_inv hc1 hg1)) (by rintro _ _ ⟨rfl, h⟩; exact ⟨rfl, hS3.out00 h⟩)))) ?_
 rintro w_3 hS4
 refine sgq 12 (B := (!(!r_2))) (v := .bool (!r_3)) rfl rfl (uF_ 9) (fun hg2 => (Y_not (p := r_3) rfl (gv_of (v := .bool r_3) hg2))) ?_
 refine sQ 13 (Y_or (b := (!r_2)) (z := (!r_3)) rfl rfl rfl rfl) (rw_nil ?_)
 refine cw_cond (b := ((!r_2) || (!r_3))) rfl (fun hb => ?_) (fun hb => ?_)
 ·skip
  have hF1 := ct hF hb
  refine cw_seq (cw_region ?_)
  refine sQ 14 (Y_buildS (zs := [vi 0, vi 0, vi 0, vi 0]) (vs := []) (cs := [vi 0, vi 0, vi 0, vi 0]) k_pl_52 k_zero_52 rfl mpn rfl) ?_
  refine s0 (Ys_store (i := 1) (s := 4) (B := aD b1) (T' := 52) (v := .agg #[vi 0, vi 0, vi 0, vi 0]) (vs := [vi 0, vi 0, vi 0, vi 0]) (k := 0) (cs' := [vi 0, vi 0, vi 0, vi 0]) hS4 k_sz_52_4 rfl rfl rfl rfl rfl rfl rfl (lB rfl) rfl rfl) ?_
  rintro _ w_4 ⟨rfl, hS5⟩
  refine sQ 5 (Y_assign (v := .bool false) rfl rfl) (rw_nil (cw_ret ?_))
  obtain ⟨rfl, rfl⟩ := pr2 (some_inj hF1)
  exact ret2 Tryz.results29 (v1 := .agg #[vi 0, vi 0, vi 0, vi 0]) (resAt_cellA (B := aD b1) (i := 0) (cs := [vi 0, vi 0, vi 0, vi 0]) (vs := [vi 0, vi 0, vi 0, vi 0]) rfl k_ag_52 k_sz_52_4 (hS5.cf (i := 1) rfl) rfl rfl) (v2 := .bool false) (resAt_tmp rfl) ⟨rfl, (hS5.sN [])⟩
 ·skip
  have hF2 := cf' hF hb
  refine cw_skip (cw_seq (cw_region ?_))
  refine sQ 15 (Y_loadA (B := aD b) (i := 0) (cs := kR_ x) (vs := kR_ x) k_ag_52 k_sz_52_4 rfl rfl (hS4.cf (i := 0) rfl) rfl rfl) ?_
  refine sQ 16 (Y_move (v := vi k_) rfl rfl) ?_
  obtain ⟨r_4, hc2, hF2⟩ := bind_inv hF2
  refine sc 17 rfl rfl (Yc_func (g := 87) (vs := [gR_ x, vi k_]) k_call_87 rfl (mc rfl (mc rfl mn)) (c_spec_l1Turn x k_ _  (hS4.inn0 [] rfl) hc2)) ?_
  rintro _ w_5 ⟨rfl, hd1⟩
  have hS6 := hS4.out00 hd1
  refine s0 (Ys_store (i := 1) (s := 4) (B := aD b1) (T' := 52) (v := gR_ r_4) (vs := kR_ r_4) (k := 0) (cs' := kR_ r_4) hS6 k_sz_52_4 rfl rfl rfl rfl rfl rfl rfl (lB rfl) rfl rfl) ?_
  rintro _ w_6 ⟨rfl, hS7⟩
  refine sQ 5 (Y_assign (v := .bool true) rfl rfl) (rw_nil (cw_ret ?_))
  obtain ⟨rfl, rfl⟩ := pr2 (some_inj hF2)
  exact ret2 Tryz.results29 (v1 := gR_ r_4) (resAt_cellA (B := aD b1) (i := 0) (cs := kR_ r_4) (vs := kR_ r_4) rfl k_ag_52 k_sz_52_4 (hS7.cf (i := 1) rfl) rfl rfl) (v2 := .bool true) (resAt_tmp rfl) ⟨rfl, (hS7.sN [])⟩

theorem c_spec_ScaleMatrix (m : TMatrix) (x : TDyadic) (B : Option Addr) (c n : Nat) (w0 : World) (hn : m.Cells.length = n) (hS : ST w0 [] w0 [] [⟨B, (m.Cells.flatMap eN0)⟩]) {r_ : TMatrix} {r_1 : Bool} (hF : F_spec_ScaleMatrix m x = some (r_, r_1)) :
  CV Tryz.prog 30 #[.agg #[vi m.Rows, vi m.Cols, .slice B n c], gD_ x] w0 (fun v w' => ∃ (B1 : Option Addr) (c1 : Nat), v = .tuple #[gM_ r_ B1 c1, .bool r_1] ∧ ST w0 [] w' [⟨B1, 54, (r_.Cells.flatMap eN0), c1 * 5⟩] []) := by
 subst hn
 unfold F_spec_ScaleMatrix at hF
 refine cv_of_cw 48 Tryz.func30 rfl Tryz.ntmps30 rfl ?_
 refine cw_seq (cw_region ?_)
 refine sS 2 (Ys_box (T := 37) (v := gM_ m B c) (cs := kM_ m B c) (m := 3) hS rfl rfl rfl rfl) ?_
 rintro _ w_ ⟨b, rfl, hS1⟩
 refine sS 3 (Ys_box (T := 54) (v := gD_ x) (cs := kD_ x) (m := 5) hS1 rfl rfl rfl rfl) ?_
 rintro _ w_1 ⟨b1, rfl, hS2⟩
 refine sS 4 (Ys_alloc (T := 37) (cs := kN_) (m := 3) hS2 k_zero_37 rfl rfl rfl) ?_
 rintro _ w_2 ⟨b2, rfl, hS3⟩
 refine sQ 5 (Y_assign (v := .bool false) rfl rfl) (rw_nil (cw_seq (cw_seq (cw_region ?_))))
 refine sQ 10 (Y_loadA (B := aD b) (i := 0) (cs := kM_ m B c) (vs := kM_ m B c) k_ag_37 k_sz_37_3 rfl rfl (hS3.cf (i := 0) rfl) rfl rfl) ?_
 obtain ⟨r_2, hc, hF⟩ := bind_inv hF
 refine sc 11 rfl rfl (Yc_func (g := 64) (vs := [gM_ m B c]) k_call_64 rfl (mc rfl mn) (c_spec_l3Good m B c m.Cells.length _ rfl (hS3.inn0 [(true, 0)] rfl) hc)) ?_
 rintro _ w_3 ⟨rfl, hd⟩
 have hS4 := hS3.out00 hd
 refine sQ 12 (Y_not (p := r_2) rfl rfl) ?_
 refine sQ 13 (Y_move (v := .bool (!r_2)) rfl rfl) ?_
 refine sgq 14 (B := (!(!r_2))) (v := gD_ x) rfl rfl (uF_ 13) (fun hg => (Y_loadA (B := aD b1) (i := 0) (cs := kD_ x) (vs := kD_ x) k_ag_54 k_sz_54_5 rfl rfl (hS4.cf (i := 1) rfl) rfl rfl)) ?_
 obtain ⟨r_3, hc1, hF⟩ := bind_inv hF
 refine sgc 15 (B := (!(!r_2))) (v := .bool r_3) (F := hS4.fn) rfl rfl (uF_ 13) hS4 (fun hg1 => (Yc_func (g := 78) (vs := [gD_ x]) k_call_78 rfl (mc (gv_of (v := gD_ x) hg1) mn) (CV.mono (c_spec_l2Good x _  (hS4.inn0 [] rfl) (gb_inv hc1 hg1)) (by rintro _ _ ⟨rfl, h⟩; exact ⟨rfl, hS4.out00 h⟩)))) ?_
 rintro w_4 hS5
 refine sgq 16 (B := (!(!r_2))) (v := .bool (!r_3)) rfl rfl (uF_ 13) (fun hg2 => (Y_not (p := r_3) rfl (gv_of (v := .bool r_3) hg2))) ?_
 refine sQ 17 (Y_or (b := (!r_2)) (z := (!r_3)) rfl rfl rfl rfl) (rw_nil ?_)
 refine cw_cond (b := ((!r_2) || (!r_3))) rfl (fun hb => ?_) (fun hb => ?_)
 ·skip
  have hF1 := ct hF hb
  refine cw_seq (cw_region ?_)
  refine sQ 18 (Y_buildS (zs := kN_) (vs := []) (cs := kN_) k_pl_37 k_zero_37 rfl mpn rfl) ?_
  refine s0 (Ys_store (i := 2) (s := 3) (B := aD b2) (T' := 37) (v := gN_) (vs := kN_) (k := 0) (cs' := kN_) hS5 k_sz_37_3 rfl rfl rfl rfl rfl rfl rfl (lB rfl) rfl rfl) ?_
  rintro _ w_5 ⟨rfl, hS6⟩
  refine sQ 5 (Y_assign (v := .bool false) rfl rfl) (rw_nil (cw_ret ?_))
  have hS7 := hS6.addNil 54
  obtain ⟨rfl, rfl⟩ := pr2 (some_inj hF1)
  exact ret2 Tryz.results30 (v1 := gN_) (resAt_cellA (B := aD b2) (i := 0) (cs := kN_) (vs := kN_) rfl k_ag_37 k_sz_37_3 (hS7.cf (i := 2) rfl) rfl rfl) (v2 := .bool false) (resAt_tmp rfl) ⟨none, 0, rfl, (hS7.sN [3])⟩
 ·skip
  have hF2 := cf' hF hb
  refine cw_skip (cw_seq (cw_region ?_))
  refine sQ 19 (Y_buildS (zs := [.bool false]) (vs := []) (cs := [.bool false]) k_pl_98 k_zero_98 rfl mpn rfl) ?_
  refine sS 20 (Ys_box (T := 98) (v := .agg #[.bool false]) (cs := [.bool false]) (m := 1) hS5 rfl rfl rfl rfl) ?_
  rintro _ w_6 ⟨b3, rfl, hS8⟩
  refine sQ 6 (Y_assign (v := pt (aD b3) 0) rfl rfl) (rw_nil (cw_seq (cw_region ?_)))
  refine sQ 21 (Y_fieldAddr (B := aD b) (i := 0) (s := 0) k_fd_37_0_0_3 k_sz_3_1 rfl rfl) ?_
  refine sQ 22 (Y_load1 (B := aD b) (i := 0) (cs := kM_ m B c) (v := vi m.Rows) k_sc_3 rfl rfl (hS8.cf (i := 0) rfl) rfl) ?_
  refine sQ 23 (Y_fieldAddr (B := aD b) (i := 0) (s := 0) k_fd_37_1_1_3 k_sz_3_1 rfl rfl) ?_
  refine sQ 24 (Y_load1 (B := aD b) (i := 1) (cs := kM_ m B c) (v := vi m.Cols) k_sc_3 rfl rfl (hS8.cf (i := 0) rfl) rfl) ?_
  refine sQ 25 (Y_buildS (zs := kN_) (vs := [(0, vi m.Rows), (1, vi m.Cols)]) (cs := [vi m.Rows, vi m.Cols, .slice none 0 0]) k_pl_37 k_zero_37 rfl (mpc rfl (mpc rfl mpn)) rfl) ?_
  refine sS 7 (Ys_alloc (T := 37) (cs := kN_) (m := 3) hS8 k_zero_37 rfl rfl rfl) ?_
  rintro _ w_7 ⟨b4, rfl, hS9⟩
  refine s0 (Ys_store (i := 4) (s := 3) (B := aD b4) (T' := 37) (v := .agg #[vi m.Rows, vi m.Cols, .slice none 0 0]) (vs := [vi m.Rows, vi m.Cols, .slice none 0 0]) (k := 0) (cs' := [vi m.Rows, vi m.Cols, .slice none 0 0]) hS9 k_sz_37_3 rfl rfl rfl rfl rfl rfl rfl (lB rfl) rfl rfl) ?_
  rintro _ w_8 ⟨rfl, hS10⟩
  refine rw_nil (cw_seq (cw_seq (cw_region ?_)))
  refine sQ 26 (Y_fieldAddr (B := aD b) (i := 0) (s := 0) k_fd_37_2_2_35 k_sz_35_1 rfl rfl) ?_
  refine sQ 27 (Y_load1 (B := aD b) (i := 2) (cs := kM_ m B c) (v := .slice B m.Cells.length c) k_sc_35 rfl rfl (hS10.cf (i := 0) rfl) rfl) ?_
  refine sQ 28 (Y_len (B := B) (m := m.Cells.length) (c := c) k_sl_35_54 rfl rfl) ?_
  refine sQ 29 (Y_move (v := vi 0) rfl rfl) (rw_nil ?_)
  obtain ⟨z, hz, hF3⟩ := bind_inv hF2
  have hS12 := hS10.addNil 54
  refine cw_block ?_
  refine cw_loop (fun k f w => ∃ (bad : Bool) (Cells : List TDyadic) (t : Int) (B2 : Option Addr) (c2 : Nat), FF f [(3, pt (aD b1) 0), (4, pt (aD b2) 0), (6, pt (aD b3) 0), (7, pt (aD b4) 0), (27, .slice B m.Cells.length c), (28, vi (m.Cells.length : Int)), (29, vi t)] ∧ ST w0 [] w [⟨aD b1, 54, kD_ x, 5⟩, ⟨aD b2, 37, kN_, 3⟩, ⟨aD b3, 98, [.bool bad], 1⟩, ⟨aD b4, 37, [vi m.Rows, vi m.Cols, .slice B2 Cells.length c2], 3⟩, ⟨B2, 54, (Cells.flatMap eN0), c2 * 5⟩] [⟨B, (m.Cells.flatMap eN0)⟩] ∧ whX (F_spec_ScaleMatrix_l1 m x) k (bad, Cells, t) = some z) fuel ⟨false, [], 0, none, 0, (FF.cons rfl (FF.cons rfl (FF.cons rfl (FF.cons rfl (FF.cons rfl (FF.cons rfl (FF.cons rfl FF.nil))))))), (hS12.sel [1, 2, 3, 4, 5] rfl rfl), hz⟩ ?_
  rintro k_ f w ⟨bad, Cells, t, B2, c2, hf, hS11, hL⟩
  obtain ⟨k_1, y, rfl, hb1, hL1⟩ := whX_go hL
  unfold F_spec_ScaleMatrix_l1 at hb1
  refine cw_seq (cw_region ?_)
  refine sQ 30 (Y_lt (k := .i64) (a := t) (b := (m.Cells.length : Int)) rfl (hf.get 29 6 rfl) (hf.get 28 5 rfl)) (rw_nil (cw_seq ?_))
  refine cw_cond (b := (decide (t < (m.Cells.length : Int)))) rfl (fun hb2 => ?_) (fun hb2 => ?_)
  ·skip
   have hF4 := ct hb1 hb2
   refine cw_skip (cw_seq (cw_block (cw_seq (cw_region ?_))))
   obtain ⟨x1, hx, hF4⟩ := bind_inv hF4
   refine sQ 31 (Y_index (B := B) (m := m.Cells.length) (c := c) (k := .i64) (i := t) k_sl_35_54 k_sz_54_5 rfl (hf.get 27 4 rfl) (hf.get 29 6 rfl) (gi_isSome eN1 rfl (hS11.rf (i := 0) rfl) hx) (getI_nn hx) (getI_ltI hx rfl)) ?_
   refine sQ 32 (Y_loadA (B := B) (i := t.toNat * 5) (cs := (m.Cells.flatMap eN0)) (vs := kD_ x1) k_ag_54 k_sz_54_5 rfl rfl (hS11.rf (i := 0) rfl) (eN1 x1) (gi_seg eN1 hx)) ?_
   refine sS 9 (Ys_alloc (T := 54) (cs := kZ_) (m := 5) hS11 k_zero_54 rfl rfl rfl) ?_
   rintro _ w_9 ⟨b5, rfl, hS13⟩
   refine s0 (Ys_store (i := 5) (s := 5) (B := aD b5) (T' := 54) (v := gD_ x1) (vs := kD_ x1) (k := 0) (cs' := kD_ x1) hS13 k_sz_54_5 rfl rfl rfl rfl rfl rfl rfl (lB rfl) rfl rfl) ?_
   rintro _ w_10 ⟨rfl, hS14⟩
   refine rw_nil ?_
   obtain ⟨⟨r_4, m1⟩, hc2, hF4⟩ := bind_inv hF4
   obtain ⟨hap, hF4⟩ := chk_inv hF4
   refine cw_mid (fun f w => ∃ (B4 : Option Addr) (c4 : Nat), FF f [(3, pt (aD b1) 0), (4, pt (aD b2) 0), (6, pt (aD b3) 0), (7, pt (aD b4) 0), (27, .slice B m.Cells.length c), (28, vi (m.Cells.length : Int)), (29, vi t)] ∧ ST w0 [] w [⟨aD b1, 54, kD_ x, 5⟩, ⟨aD b2, 37, kN_, 3⟩, ⟨aD b3, 98, [.bool m1.bad], 1⟩, ⟨aD b4, 37, [vi m.Rows, vi m.Cols, .slice B4 ((Cells ++ [r_4]).length) c4], 3⟩, ⟨B4, 54, ((Cells ++ [r_4]).flatMap eN0), c4 * 5⟩] [⟨B, (m.Cells.flatMap eN0)⟩]) ?_ ?_
   ·skip
    refine ra_start (hS14.se [0, 1, 5]).fn (by kernel_rfl) ?_
    have hS17 := hS14.drew
    refine rq 0 33 (v := pt (aD b4) 2) rfl (hS17.se [0, 1, 5]) (fun w' hw' => (Y_fieldAddr (B := aD b4) (i := 0) (s := 0) k_fd_37_2_2_35 k_sz_35_1 rfl (hf.get 7 3 rfl))) ?_
    refine rq 2 35 (v := pt (aD b3) 0) rfl (hS17.se [0, 1, 5]) (fun w' hw' => (Y_move (v := pt (aD b3) 0) rfl (hf.get 6 2 rfl))) ?_
    refine rq 3 36 (v := gD_ x1) rfl (hS17.se [0, 1, 5]) (fun w' hw' => (Y_loadA (B := aD b5) (i := 0) (cs := kD_ x1) (vs := kD_ x1) k_ag_54 k_sz_54_5 rfl rfl (ST.cf hw' (i := 2) rfl) rfl rfl)) ?_
    refine rq 4 37 (v := gD_ x) rfl (hS17.se [0, 1, 5]) (fun w' hw' => (Y_loadA (B := aD b1) (i := 0) (cs := kD_ x) (vs := kD_ x) k_ag_54 k_sz_54_5 rfl (hf.get 3 0 rfl) (ST.cf hw' (i := 0) rfl) rfl rfl)) ?_
    refine rA [1, 5] ?_
    refine ra_y 34 (i := 1) (v := .slice B2 Cells.length c2) rfl rfl rfl (Y_load1 (B := aD b4) (i := 2) (cs := [vi m.Rows, vi m.Cols, .slice B2 Cells.length c2]) (v := .slice B2 Cells.length c2) k_sc_35 rfl rfl (hS17.cf (i := 3) rfl) rfl) (hS17.se [0, 1, 5]) ?_ ?_
    ·skip
     refine rA [5] ?_
     refine ra_c 38 (i := 5) rfl rfl rfl (Yc_func (g := 88) (vs := [pt (aD b3) 0, gD_ x1, gD_ x]) k_call_88 rfl (mc rfl (mc rfl (mc rfl mn))) (c_spec_l2C_mul (Tl2C.mk bad) x1 x (aD b3) _  (hS17.inn [false, false, true, false, false, false] rfl [] rfl) hc2)) ?_ ?_
     ·rintro _ w_11 ⟨rfl, hd1⟩
      have hS18 := hS17.out [false, false, true, false, false, false] rfl hd1
      refine ⟨(hS18.se [0, 1, 4]), ?_⟩
      refine rA [6] ?_
      refine ra_s 39 (i := 6) rfl rfl rfl (Ys_bslice (s := 5) (len := 1) (vs := [(0, gD_ r_4)]) (cs := kD_ r_4) (zs := kZ_) (m := 5) hS18 k_sl_35_54 k_sz_54_5 k_zc_54 rfl (mpc rfl mpn) rfl rfl rfl (by kernel_rfl) (by kernel_rfl) rfl) ?_ ?_
      ·rintro _ w_12 ⟨b6, rfl, hS19⟩
       refine ⟨(hS19.se [0, 1, 4]), ?_⟩
       refine rA [7] ?_
       refine ra_s 40 (i := 7) rfl rfl rfl (Ys_append (s := 5) (by' := 40) (i := 3) (nn := Cells.length) (c := c2) (k := 1) (len := (Cells ++ [r_4]).length) (B := B2) (xs := ([r_4].flatMap eN0)) (cs' := ((Cells ++ [r_4]).flatMap eN0)) hS19 k_sl_35_54 k_sz_54_5 k_by_54_40 k_zero_54 rfl (by decide) rfl rfl rfl rfl (fm_lenn (l := Cells) eN1 rfl) rfl (hS19.cf (i := 6) rfl) (fm_lenn (l := [r_4]) eN1 rfl) (fm_one' (enc := eN0) enc_Dyadic_one [r_4]) (by have := hap; omega) (by have := hap; simp only [maxLen]; omega) (fm_app _ _) (app_len (l := Cells) (l' := [r_4]) rfl rfl)) ?_ ?_
       ·rintro _ w_13 ⟨B3, c3, rfl, hS20⟩
        refine ⟨(hS20.se [0, 1, 4]), ?_⟩
        refine rq 8 41 (v := pt (aD b4) 2) rfl (hS20.se [0, 1, 4]) (fun w' hw' => (Y_fieldAddr (B := aD b4) (i := 0) (s := 0) k_fd_37_2_2_35 k_sz_35_1 rfl (hf.get 7 3 rfl))) ?_
        refine rA [9] ?_
        refine ra_s0 (i := 9) rfl rfl rfl (Ys_store (i := 2) (s := 1) (B := aD b4) (T' := 37) (v := .slice B3 ((Cells ++ [r_4]).length) c3) (vs := [.slice B3 ((Cells ++ [r_4]).length) c3]) (k := 2) (cs' := [vi m.Rows, vi m.Cols, .slice B3 ((Cells ++ [r_4]).length) c3]) hS20 k_sz_35_1 rfl rfl rfl rfl rfl rfl rfl (lB rfl) rfl rfl) ?_ ?_
        ·rintro _ w_14 ⟨rfl, hS21⟩
         refine ⟨(hS21.se [0, 1, 4]), ?_⟩
         refine ra_done (by kernel_rfl) ?_
         exact ⟨B3, c3, (FF.cons (hf.get 3 0 rfl) (FF.cons (hf.get 4 1 rfl) (FF.cons (hf.get 6 2 rfl) (FF.cons (hf.get 7 3 rfl) (FF.cons (hf.get 27 4 rfl) (FF.cons (hf.get 28 5 rfl) (FF.cons (hf.get 29 6 rfl) FF.nil))))))), (hS21.sel [0, 1, 5, 2, 3] rfl rfl)⟩
        exact allR_nil
       exact allR_nil
      exact allR_nil
     exact allR_nil
    refine ra_c 38 (i := 5) rfl rfl rfl (Yc_func (g := 88) (vs := [pt (aD b3) 0, gD_ x1, gD_ x]) k_call_88 rfl (mc rfl (mc rfl (mc rfl mn))) (c_spec_l2C_mul (Tl2C.mk bad) x1 x (aD b3) _  (hS17.inn [false, false, true, false, false, false] rfl [] rfl) hc2)) ?_ ?_
    ·rintro _ w_15 ⟨rfl, hd2⟩
     have hS22 := hS17.out [false, false, true, false, false, false] rfl hd2
     refine ⟨(hS22.se [0, 1, 4]), ?_⟩
     refine rA [1, 6] ?_
     refine ra_y 34 (i := 1) (v := .slice B2 Cells.length c2) rfl rfl rfl (Y_load1 (B := aD b4) (i := 2) (cs := [vi m.Rows, vi m.Cols, .slice B2 Cells.length c2]) (v := .slice B2 Cells.length c2) k_sc_35 rfl rfl (hS22.cf (i := 2) rfl) rfl) (hS22.se [0, 1, 4]) ?_ ?_
     ·skip
      refine rA [6] ?_
      refine ra_s 39 (i := 6) rfl rfl rfl (Ys_bslice (s := 5) (len := 1) (vs := [(0, gD_ r_4)]) (cs := kD_ r_4) (zs := kZ_) (m := 5) hS22 k_sl_35_54 k_sz_54_5 k_zc_54 rfl (mpc rfl mpn) rfl rfl rfl (by kernel_rfl) (by kernel_rfl) rfl) ?_ ?_
      ·rintro _ w_16 ⟨b6, rfl, hS23⟩
       refine ⟨(hS23.se [0, 1, 4]), ?_⟩
       refine rA [7] ?_
       refine ra_s 40 (i := 7) rfl rfl rfl (Ys_append (s := 5) (by' := 40) (i := 3) (nn := Cells.length) (c := c2) (k := 1) (len := (Cells ++ [r_4]).length) (B := B2) (xs := ([r_4].flatMap eN0)) (cs' := ((Cells ++ [r_4]).flatMap eN0)) hS23 k_sl_35_54 k_sz_54_5 k_by_54_40 k_zero_54 rfl (by decide) rfl rfl rfl rfl (fm_lenn (l := Cells) eN1 rfl) rfl (hS23.cf (i := 6) rfl) (fm_lenn (l := [r_4]) eN1 rfl) (fm_one' (enc := eN0) enc_Dyadic_one [r_4]) (by have := hap; omega) (by have := hap; simp only [maxLen]; omega) (fm_app _ _) (app_len (l := Cells) (l' := [r_4]) rfl rfl)) ?_ ?_
       ·rintro _ w_17 ⟨B3, c3, rfl, hS24⟩
        refine ⟨(hS24.se [0, 1, 4]), ?_⟩
        refine rq 8 41 (v := pt (aD b4) 2) rfl (hS24.se [0, 1, 4]) (fun w' hw' => (Y_fieldAddr (B := aD b4) (i := 0) (s := 0) k_fd_37_2_2_35 k_sz_35_1 rfl (hf.get 7 3 rfl))) ?_
        refine rA [9] ?_
        refine ra_s0 (i := 9) rfl rfl rfl (Ys_store (i := 2) (s := 1) (B := aD b4) (T' := 37) (v := .slice B3 ((Cells ++ [r_4]).length) c3) (vs := [.slice B3 ((Cells ++ [r_4]).length) c3]) (k := 2) (cs' := [vi m.Rows, vi m.Cols, .slice B3 ((Cells ++ [r_4]).length) c3]) hS24 k_sz_35_1 rfl rfl rfl rfl rfl rfl rfl (lB rfl) rfl rfl) ?_ ?_
        ·rintro _ w_18 ⟨rfl, hS25⟩
         refine ⟨(hS25.se [0, 1, 4]), ?_⟩
         refine ra_done (by kernel_rfl) ?_
         exact ⟨B3, c3, (FF.cons (hf.get 3 0 rfl) (FF.cons (hf.get 4 1 rfl) (FF.cons (hf.get 6 2 rfl) (FF.cons (hf.get 7 3 rfl) (FF.cons (hf.get 27 4 rfl) (FF.cons (hf.get 28 5 rfl) (FF.cons (hf.get 29 6 rfl) FF.nil))))))), (hS25.sel [0, 1, 5, 2, 3] rfl rfl)⟩
        exact allR_nil
       exact allR_nil
      exact allR_nil
     refine ra_s 39 (i := 6) rfl rfl rfl (Ys_bslice (s := 5) (len := 1) (vs := [(0, gD_ r_4)]) (cs := kD_ r_4) (zs := kZ_) (m := 5) hS22 k_sl_35_54 k_sz_54_5 k_zc_54 rfl (mpc rfl mpn) rfl rfl rfl (by kernel_rfl) (by kernel_rfl) rfl) ?_ ?_
     ·rintro _ w_19 ⟨b6, rfl, hS26⟩
      refine ⟨(hS26.se [0, 1, 4]), ?_⟩
      refine rA [1] ?_
      refine ra_y 34 (i := 1) (v := .slice B2 Cells.length c2) rfl rfl rfl (Y_load1 (B := aD b4) (i := 2) (cs := [vi m.Rows, vi m.Cols, .slice B2 Cells.length c2]) (v := .slice B2 Cells.length c2) k_sc_35 rfl rfl (hS26.cf (i := 2) rfl) rfl) (hS26.se [0, 1, 4]) ?_ ?_
      ·skip
       refine rA [7] ?_
       refine ra_s 40 (i := 7) rfl rfl rfl (Ys_append (s := 5) (by' := 40) (i := 3) (nn := Cells.length) (c := c2) (k := 1) (len := (Cells ++ [r_4]).length) (B := B2) (xs := ([r_4].flatMap eN0)) (cs' := ((Cells ++ [r_4]).flatMap eN0)) hS26 k_sl_35_54 k_sz_54_5 k_by_54_40 k_zero_54 rfl (by decide) rfl rfl rfl rfl (fm_lenn (l := Cells) eN1 rfl) rfl (hS26.cf (i := 6) rfl) (fm_lenn (l := [r_4]) eN1 rfl) (fm_one' (enc := eN0) enc_Dyadic_one [r_4]) (by have := hap; omega) (by have := hap; simp only [maxLen]; omega) (fm_app _ _) (app_len (l := Cells) (l' := [r_4]) rfl rfl)) ?_ ?_
       ·rintro _ w_20 ⟨B3, c3, rfl, hS27⟩
        refine ⟨(hS27.se [0, 1, 4]), ?_⟩
        refine rq 8 41 (v := pt (aD b4) 2) rfl (hS27.se [0, 1, 4]) (fun w' hw' => (Y_fieldAddr (B := aD b4) (i := 0) (s := 0) k_fd_37_2_2_35 k_sz_35_1 rfl (hf.get 7 3 rfl))) ?_
        refine rA [9] ?_
        refine ra_s0 (i := 9) rfl rfl rfl (Ys_store (i := 2) (s := 1) (B := aD b4) (T' := 37) (v := .slice B3 ((Cells ++ [r_4]).length) c3) (vs := [.slice B3 ((Cells ++ [r_4]).length) c3]) (k := 2) (cs' := [vi m.Rows, vi m.Cols, .slice B3 ((Cells ++ [r_4]).length) c3]) hS27 k_sz_35_1 rfl rfl rfl rfl rfl rfl rfl (lB rfl) rfl rfl) ?_ ?_
        ·rintro _ w_21 ⟨rfl, hS28⟩
         refine ⟨(hS28.se [0, 1, 4]), ?_⟩
         refine ra_done (by kernel_rfl) ?_
         exact ⟨B3, c3, (FF.cons (hf.get 3 0 rfl) (FF.cons (hf.get 4 1 rfl) (FF.cons (hf.get 6 2 rfl) (FF.cons (hf.get 7 3 rfl) (FF.cons (hf.get 27 4 rfl) (FF.cons (hf.get 28 5 rfl) (FF.cons (hf.get 29 6 rfl) FF.nil))))))), (hS28.sel [0, 1, 5, 2, 3] rfl rfl)⟩
        exact allR_nil
       exact allR_nil
      exact allR_nil
     exact allR_nil
    exact allR_nil
   rintro f w ⟨B4, c4, hf1, hS16⟩
   refine cw_region ?_
   refine sQ 42 (Y_add (k := .i64) (a := t) (b := 1) rfl (hf1.get 29 6 rfl) rfl) ?_
   refine sQ 29 (Y_move (v := vi (i64.wrap (t + 1))) rfl rfl) (rw_nil ?_)
   obtain rfl := some_inj hF4
   exact ⟨k_1, Nat.lt_succ_self _, m1.bad, (Cells ++ [r_4]), (i64.wrap (t + 1)), B4, c4, (FF.cons (hf1.get 3 0 rfl) (FF.cons (hf1.get 4 1 rfl) (FF.cons (hf1.get 6 2 rfl) (FF.cons (hf1.get 7 3 rfl) (FF.cons (hf1.get 27 4 rfl) (FF.cons (hf1.get 28 5 rfl) (FF.cons rfl FF.nil))))))), (hS16.sel [0, 1, 2, 3, 4] rfl rfl), hL1⟩
  ·skip
   have hF5 := cf' hb1 hb2
   refine cw_exit rfl ?_
   obtain rfl := some_inj hF5
   obtain rfl := some_inj hL1
   refine cw_seq (cw_region ?_)
   refine sQ 43 (Y_move (v := pt (aD b3) 0) rfl (hf.get 6 2 rfl)) ?_
   refine sQ 44 (Y_loadA (B := aD b4) (i := 0) (cs := [vi m.Rows, vi m.Cols, .slice B2 Cells.length c2]) (vs := [vi m.Rows, vi m.Cols, .slice B2 Cells.length c2]) k_ag_37 k_sz_37_3 rfl (hf.get 7 3 rfl) (hS11.cf (i := 3) rfl) rfl rfl) ?_
   obtain ⟨⟨r_5, r_6⟩, hc3, hF3⟩ := bind_inv hF3
   refine sc 45 rfl rfl (Yc_func (g := 61) (vs := [pt (aD b3) 0, .agg #[vi m.Rows, vi m.Cols, .slice B2 Cells.length c2]]) k_call_61 rfl (mc rfl (mc rfl mn)) (c_spec_l2C_matrix (Tl2C.mk bad) (TMatrix.mk m.Rows m.Cols Cells) (aD b3) B2 c2 Cells.length _ rfl (hS11.inn [false, false, false, false, true] rfl [(false, 2)] rfl) hc3)) ?_
   rintro _ w_22 ⟨B5, c5, rfl, hd3⟩
   have hS29 := hS11.out [false, false, false, false, true] rfl hd3
   refine sQ 46 (Y_extract (v := gM_ r_5 B5 c5) rfl rfl rfl) ?_
   refine sQ 47 (Y_extract (v := .bool r_6) rfl rfl rfl) ?_
   refine s0 (Ys_store (i := 1) (s := 3) (B := aD b2) (T' := 37) (v := gM_ r_5 B5 c5) (vs := kM_ r_5 B5 c5) (k := 0) (cs' := kM_ r_5 B5 c5) hS29 k_sz_37_3 rfl (hf.get 4 1 rfl) rfl rfl rfl rfl rfl (lB rfl) rfl rfl) ?_
   rintro _ w_23 ⟨rfl, hS30⟩
   refine sQ 5 (Y_assign (v := .bool r_6) rfl rfl) (rw_nil (cw_ret ?_))
   obtain ⟨rfl, rfl⟩ := pr2 (some_inj hF3)
   exact ret2 Tryz.results30 (v1 := gM_ r_5 B5 c5) (resAt_cellA (B := aD b2) (i := 0) (cs := kM_ r_5 B5 c5) (vs := kM_ r_5 B5 c5) (hf.get 4 1 rfl) k_ag_37 k_sz_37_3 (hS30.cf (i := 1) rfl) rfl rfl) (v2 := .bool r_6) (resAt_tmp rfl) ⟨B5, c5, rfl, (hS30.sN [4])⟩

theorem c_spec_l6Turned (a : TMatrix) (b : TMatrix) (k_ : Int) (B : Option Addr) (c n : Nat) (B1 : Option Addr) (c1 n1 : Nat) (w0 : World) (hn : a.Cells.length = n) (hn1 : b.Cells.length = n1) (hS : ST w0 [] w0 [] [⟨B, (a.Cells.flatMap eN0)⟩, ⟨B1, (b.Cells.flatMap eN0)⟩]) {r_ : Bool} (hF : F_spec_l6Turned a b k_ = some r_) :
  CV Tryz.prog 175 #[.agg #[vi a.Rows, vi a.Cols, .slice B n c], .agg #[vi b.Rows, vi b.Cols, .slice B1 n1 c1], vi k_] w0 (fun v w' => v = .bool r_ ∧ ST w0 [] w' [] []) := by
 subst hn
 subst hn1
 unfold F_spec_l6Turned at hF
 refine cv_of_cw 42 Tryz.func175 rfl Tryz.ntmps175 rfl ?_
 refine cw_seq (cw_region ?_)
 refine sS 3 (Ys_box (T := 37) (v := gM_ a B c) (cs := kM_ a B c) (m := 3) hS rfl rfl rfl rfl) ?_
 rintro _ w_ ⟨b1, rfl, hS1⟩
 refine sS 4 (Ys_box (T := 37) (v := gM_ b B1 c1) (cs := kM_ b B1 c1) (m := 3) hS1 rfl rfl rfl rfl) ?_
 rintro _ w_1 ⟨b2, rfl, hS2⟩
 refine sQ 6 (Y_assign (v := .bool false) rfl rfl) (rw_nil (cw_seq (cw_seq (cw_region ?_))))
 refine sQ 9 (Y_fieldAddr (B := aD b1) (i := 0) (s := 0) k_fd_37_0_0_3 k_sz_3_1 rfl rfl) ?_
 refine sQ 10 (Y_load1 (B := aD b1) (i := 0) (cs := kM_ a B c) (v := vi a.Rows) k_sc_3 rfl rfl (hS2.cf (i := 0) rfl) rfl) ?_
 refine sQ 11 (Y_fieldAddr (B := aD b2) (i := 0) (s := 0) k_fd_37_0_0_3 k_sz_3_1 rfl rfl) ?_
 refine sQ 12 (Y_load1 (B := aD b2) (i := 0) (cs := kM_ b B1 c1) (v := vi b.Rows) k_sc_3 rfl rfl (hS2.cf (i := 1) rfl) rfl) ?_
 refine sQ 13 (Y_ne (k := .i64) (a := a.Rows) (b := b.Rows) rfl rfl rfl) ?_
 refine sQ 14 (Y_move (v := .bool (a.Rows != b.Rows)) rfl rfl) ?_
 refine sgq 15 (B := (!(a.Rows != b.Rows))) (v := pt (aD b1) 1) rfl rfl (uF_ 14) (fun hg => (Y_fieldAddr (B := aD b1) (i := 0) (s := 0) k_fd_37_1_1_3 k_sz_3_1 rfl rfl)) ?_
 refine sgq 16 (B := (!(a.Rows != b.Rows))) (v := vi a.Cols) rfl rfl (uF_ 14) (fun hg1 => (Y_load1 (B := aD b1) (i := 1) (cs := kM_ a B c) (v := vi a.Cols) k_sc_3 rfl (gv_of (v := pt (aD b1) 1) hg1) (hS2.cf (i := 0) rfl) rfl)) ?_
 refine sgq 17 (B := (!(a.Rows != b.Rows))) (v := pt (aD b2) 1) rfl rfl (uF_ 14) (fun hg2 => (Y_fieldAddr (B := aD b2) (i := 0) (s := 0) k_fd_37_1_1_3 k_sz_3_1 rfl rfl)) ?_
 refine sgq 18 (B := (!(a.Rows != b.Rows))) (v := vi b.Cols) rfl rfl (uF_ 14) (fun hg3 => (Y_load1 (B := aD b2) (i := 1) (cs := kM_ b B1 c1) (v := vi b.Cols) k_sc_3 rfl (gv_of (v := pt (aD b2) 1) hg3) (hS2.cf (i := 1) rfl) rfl)) ?_
 refine sgq 19 (B := (!(a.Rows != b.Rows))) (v := .bool (a.Cols != b.Cols)) rfl rfl (uF_ 14) (fun hg4 => (Y_ne (k := .i64) (a := a.Cols) (b := b.Cols) rfl (gv_of (v := vi a.Cols) hg4) (gv_of (v := vi b.Cols) hg4))) ?_
 refine sQ 20 (Y_or (b := (a.Rows != b.Rows)) (z := (a.Cols != b.Cols)) rfl rfl rfl rfl) (rw_nil ?_)
 refine cw_cond (b := ((a.Rows != b.Rows) || (a.Cols != b.Cols))) rfl (fun hb => ?_) (fun hb => ?_)
 ·skip
  have hF1 := ct hF hb
  refine cw_seq (cw_region ?_)
  refine sQ 6 (Y_assign (v := .bool false) rfl rfl) (rw_nil (cw_ret ?_))
  obtain rfl := some_inj hF1
  exact ret1 Tryz.results175 (v1 := .bool false) (resAt_tmp rfl) ⟨rfl, (hS2.sN [])⟩
 ·skip
  have hF2 := cf' hF hb
  refine cw_skip (cw_seq (cw_seq (cw_region ?_)))
  refine sQ 21 (Y_fieldAddr (B := aD b2) (i := 0) (s := 0) k_fd_37_2_2_35 k_sz_35_1 rfl rfl) ?_
  refine sQ 22 (Y_load1 (B := aD b2) (i := 2) (cs := kM_ b B1 c1) (v := .slice B1 b.Cells.length c1) k_sc_35 rfl rfl (hS2.cf (i := 1) rfl) rfl) ?_
  refine sQ 23 (Y_len (B := B1) (m := b.Cells.length) (c := c1) k_sl_35_54 rfl rfl) ?_
  refine sQ 24 (Y_move (v := vi 0) rfl rfl) (rw_nil ?_)
  obtain ⟨hN, hF2⟩ := chk_inv hF2
  obtain ⟨z, hz, hF3⟩ := bind_inv hF2
  refine cw_block ?_
  refine cw_loop (fun k f w => ∃ (i : Nat), FF f [(2, vi k_), (3, pt (aD b1) 0), (22, .slice B1 b.Cells.length c1), (23, vi (b.Cells.length : Int)), (24, vi (i : Int))] ∧ ST w0 [] w [⟨aD b1, 37, kM_ a B c, 3⟩] [⟨B, (a.Cells.flatMap eN0)⟩, ⟨B1, (b.Cells.flatMap eN0)⟩] ∧ i + k = b.Cells.length ∧ forX (F_spec_l6Turned_l1 b k_ a) k i () = some z) b.Cells.length ⟨0, (FF.cons rfl (FF.cons rfl (FF.cons rfl (FF.cons rfl (FF.cons rfl FF.nil))))), (hS2.sel [0] rfl rfl), Nat.zero_add _, hz⟩ ?_
  rintro k_1 f w ⟨i, hf, hS3, hik, hL⟩
  refine cw_seq (cw_region ?_)
  refine sQ 25 (Y_lt (k := .i64) (a := (i : Int)) (b := (b.Cells.length : Int)) rfl (hf.get 24 4 rfl) (hf.get 23 3 rfl)) (rw_nil (cw_seq ?_))
  refine cw_cond (b := (decide ((i : Int) < (b.Cells.length : Int)))) rfl (fun hlt => ?_) (fun hlt => ?_)
  ·skip
   have hlt1 : i < b.Cells.length := by have h := of_decide_eq_true hlt; omega
   obtain ⟨k_2, rfl⟩ : ∃ k2, k_1 = k2 + 1 := ⟨k_1 - 1, by omega⟩
   obtain ⟨y, hb1, hL1⟩ := forX_go hL
   unfold F_spec_l6Turned_l1 at hb1
   refine cw_skip (cw_seq (cw_block (cw_seq (cw_region ?_))))
   refine sQ 26 (Y_move (v := vi (i : Int)) rfl (hf.get 24 4 rfl)) ?_
   obtain ⟨x, hx, hb1⟩ := bind_inv hb1
   refine sQ 27 (Y_index (B := B1) (m := b.Cells.length) (c := c1) (k := .i64) (i := (i : Int)) k_sl_35_54 k_sz_54_5 rfl (hf.get 22 2 rfl) (hf.get 24 4 rfl) (gi_isSome eN1 rfl (hS3.rf (i := 1) rfl) hx) (getI_nn hx) (getI_ltI hx rfl)) ?_
   refine sQ 28 (Y_loadA (B := B1) (i := (i : Int).toNat * 5) (cs := (b.Cells.flatMap eN0)) (vs := kD_ x) k_ag_54 k_sz_54_5 rfl rfl (hS3.rf (i := 1) rfl) (eN1 x) (gi_seg eN1 hx)) ?_
   refine sS 8 (Ys_alloc (T := 54) (cs := kZ_) (m := 5) hS3 k_zero_54 rfl rfl rfl) ?_
   rintro _ w_2 ⟨b3, rfl, hS4⟩
   refine sQ 7 (Y_assign (v := vi (i : Int)) rfl rfl) ?_
   refine s0 (Ys_store (i := 1) (s := 5) (B := aD b3) (T' := 54) (v := gD_ x) (vs := kD_ x) (k := 0) (cs' := kD_ x) hS4 k_sz_54_5 rfl rfl rfl rfl rfl rfl rfl (lB rfl) rfl rfl) ?_
   rintro _ w_3 ⟨rfl, hS5⟩
   refine rw_nil (cw_seq (cw_region ?_))
   refine sQ 29 (Y_fieldAddr (B := aD b3) (i := 0) (s := 3) k_fd_54_0_0_52 k_sz_52_4 rfl rfl) ?_
   refine sQ 30 (Y_loadA (B := aD b3) (i := 0) (cs := kD_ x) (vs := kR_ x.Num) k_ag_52 k_sz_52_4 rfl rfl (hS5.cf (i := 1) rfl) rfl rfl) ?_
   refine sQ 31 (Y_move (v := vi k_) rfl (hf.get 2 0 rfl)) ?_
   obtain ⟨r_1, hc, hb1⟩ := bind_inv hb1
   refine sc 32 rfl rfl (Yc_func (g := 87) (vs := [gR_ x.Num, vi k_]) k_call_87 rfl (mc rfl (mc rfl mn)) (c_spec_l1Turn x.Num k_ _  (hS5.inn0 [] rfl) hc)) ?_
   rintro _ w_4 ⟨rfl, hd⟩
   have hS6 := hS5.out00 hd
   refine sQ 33 (Y_fieldAddr (B := aD b3) (i := 0) (s := 3) k_fd_54_0_0_52 k_sz_52_4 rfl rfl) ?_
   refine s0 (Ys_store (i := 1) (s := 4) (B := aD b3) (T' := 54) (v := gR_ r_1) (vs := kR_ r_1) (k := 0) (cs' := [vi r_1.A, vi r_1.B, vi r_1.C, vi r_1.D, vi x.Exp]) hS6 k_sz_52_4 rfl rfl rfl rfl rfl rfl rfl (lB rfl) rfl rfl) ?_
   rintro _ w_5 ⟨rfl, hS7⟩
   refine rw_nil (cw_seq ?_)
   obtain ⟨x1, hx1, hb1⟩ := bind_inv hb1
   refine ra_start (hS7.se [0, 1]).fn (by kernel_rfl) ?_
   have hS8 := hS7.drew
   refine rq 0 34 (v := pt (aD b1) 2) rfl (hS8.se [0, 1]) (fun w' hw' => (Y_fieldAddr (B := aD b1) (i := 0) (s := 0) k_fd_37_2_2_35 k_sz_35_1 rfl (hf.get 3 1 rfl))) ?_
   refine rq 1 35 (v := .slice B a.Cells.length c) rfl (hS8.se [0, 1]) (fun w' hw' => (Y_load1 (B := aD b1) (i := 2) (cs := kM_ a B c) (v := .slice B a.Cells.length c) k_sc_35 rfl rfl (ST.cf hw' (i := 0) rfl) rfl)) ?_
   refine rq 2 36 (v := vi (i : Int)) rfl (hS8.se [0, 1]) (fun w' hw' => (Y_move (v := vi (i : Int)) rfl rfl)) ?_
   refine rq 3 37 (v := pt B ((i : Int).toNat * 5)) rfl (hS8.se [0, 1]) (fun w' hw' => (Y_index (B := B) (m := a.Cells.length) (c := c) (k := .i64) (i := (i : Int)) k_sl_35_54 k_sz_54_5 rfl rfl rfl (gi_isSome eN1 rfl (ST.rf hw' (i := 0) rfl) hx1) (getI_nn hx1) (getI_ltI hx1 rfl))) ?_
   refine rq 4 38 (v := gD_ x1) rfl (hS8.se [0, 1]) (fun w' hw' => (Y_loadA (B := B) (i := (i : Int).toNat * 5) (cs := (a.Cells.flatMap eN0)) (vs := kD_ x1) k_ag_54 k_sz_54_5 rfl rfl (ST.rf hw' (i := 0) rfl) (eN1 x1) (gi_seg eN1 hx1))) ?_
   refine rq 5 39 (v := .agg #[vi r_1.A, vi r_1.B, vi r_1.C, vi r_1.D, vi x.Exp]) rfl (hS8.se [0, 1]) (fun w' hw' => (Y_loadA (B := aD b3) (i := 0) (cs := [vi r_1.A, vi r_1.B, vi r_1.C, vi r_1.D, vi x.Exp]) (vs := [vi r_1.A, vi r_1.B, vi r_1.C, vi r_1.D, vi x.Exp]) k_ag_54 k_sz_54_5 rfl rfl (ST.cf hw' (i := 1) rfl) rfl rfl)) ?_
   refine ra_q 6 40 (v := .bool (!(((x1.Num.A == r_1.A) && ((x1.Num.B == r_1.B) && ((x1.Num.C == r_1.C) && ((x1.Num.D == r_1.D) && true)))) && ((x1.Exp == x.Exp) && true)))) rfl rfl rfl (by kernel_rfl) (by kernel_rfl) (by kernel_rfl) (hS8.se [0, 1]) (fun w' hw' => (Y_neA (xs := #[vi x1.Num.A, vi x1.Num.B, vi x1.Num.C, vi x1.Num.D, vi x1.Exp]) (ys := #[vi r_1.A, vi r_1.B, vi r_1.C, vi r_1.D, vi x.Exp]) (b := (((x1.Num.A == r_1.A) && ((x1.Num.B == r_1.B) && ((x1.Num.C == r_1.C) && ((x1.Num.D == r_1.D) && true)))) && ((x1.Exp == x.Exp) && true))) k_eg_54 rfl rfl rfl (eqr_struct (xs := kD_ x1) (ys := [vi r_1.A, vi r_1.B, vi r_1.C, vi r_1.D, vi x.Exp]) k_st_54 k_ho_54 (pts_ag (us := kR_ x1.Num) (vs := kR_ r_1) k_ag_52 k_sz_52_4 rfl rfl (eqr_struct (xs := kR_ x1.Num) (ys := kR_ r_1) k_st_52 k_ho_52 (pts_sc k_sc_3 rfl rfl (eqr_int k_int_3_i64) (pts_sc k_sc_3 rfl rfl (eqr_int k_int_3_i64) (pts_sc k_sc_3 rfl rfl (eqr_int k_int_3_i64) (pts_sc k_sc_3 rfl rfl (eqr_int k_int_3_i64) pts_nil))))) (pts_sc k_sc_3 rfl rfl (eqr_int k_int_3_i64) pts_nil))))) ?_
   refine ra_done (by kernel_rfl) ?_
   refine cw_cond (b := (!(((x1.Num.A == r_1.A) && ((x1.Num.B == r_1.B) && ((x1.Num.C == r_1.C) && ((x1.Num.D == r_1.D) && true)))) && ((x1.Exp == x.Exp) && true)))) rfl (fun hb2 => ?_) (fun hb2 => ?_)
   ·skip
    have hF4 := ct hb1 hb2
    refine cw_seq (cw_region ?_)
    refine sQ 6 (Y_assign (v := .bool false) rfl rfl) (rw_nil (cw_ret ?_))
    obtain rfl := some_inj hF4
    obtain rfl := some_inj hL1
    obtain rfl := some_inj hF3
    exact ret1 Tryz.results175 (v1 := .bool false) (resAt_tmp rfl) ⟨rfl, (hS8.sN [])⟩
   ·skip
    have hF5 := cf' hb1 hb2
    refine cw_skip (cw_region ?_)
    refine sQ 41 (Y_add (k := .i64) (a := (i : Int)) (b := 1) rfl (hf.get 24 4 rfl) rfl) ?_
    refine sQ 24 (Y_move (v := vi (i64.wrap ((i : Int) + 1))) rfl rfl) (rw_nil ?_)
    obtain rfl := some_inj hF5
    exact ⟨k_2, Nat.lt_succ_self _, i + 1, (FF.cons (hf.get 2 0 rfl) (FF.cons (hf.get 3 1 rfl) (FF.cons (hf.get 22 2 rfl) (FF.cons (hf.get 23 3 rfl) (FF.cons (congrArg (Value.int .i64) (wr_succ hlt1 hN)) FF.nil))))), (hS8.sel [0] rfl rfl), (by omega), hL1⟩
  ·skip
   obtain rfl : k_1 = 0 := by have h := of_decide_eq_false hlt; omega
   refine cw_exit rfl ?_
   obtain rfl := some_inj hL
   refine cw_seq (cw_region ?_)
   refine sQ 6 (Y_assign (v := .bool true) rfl rfl) (rw_nil (cw_ret ?_))
   obtain rfl := some_inj hF3
   exact ret1 Tryz.results175 (v1 := .bool true) (resAt_tmp rfl) ⟨rfl, (hS3.sN [])⟩

theorem c_spec_l6Phase (a : TMatrix) (b : TMatrix) (B : Option Addr) (c n : Nat) (B1 : Option Addr) (c1 n1 : Nat) (w0 : World) (hn : a.Cells.length = n) (hn1 : b.Cells.length = n1) (hS : ST w0 [] w0 [] [⟨B, (a.Cells.flatMap eN0)⟩, ⟨B1, (b.Cells.flatMap eN0)⟩]) {r_ : Int} {r_1 : Bool} (hF : F_spec_l6Phase a b = some (r_, r_1)) :
  CV Tryz.prog 89 #[.agg #[vi a.Rows, vi a.Cols, .slice B n c], .agg #[vi b.Rows, vi b.Cols, .slice B1 n1 c1]] w0 (fun v w' => v = .tuple #[vi r_, .bool r_1] ∧ ST w0 [] w' [] []) := by
 subst hn
 subst hn1
 unfold F_spec_l6Phase at hF
 refine cv_of_cw 16 Tryz.func89 rfl Tryz.ntmps89 rfl ?_
 refine cw_seq (cw_region ?_)
 refine sS 2 (Ys_box (T := 37) (v := gM_ a B c) (cs := kM_ a B c) (m := 3) hS rfl rfl rfl rfl) ?_
 rintro _ w_ ⟨b1, rfl, hS1⟩
 refine sS 3 (Ys_box (T := 37) (v := gM_ b B1 c1) (cs := kM_ b B1 c1) (m := 3) hS1 rfl rfl rfl rfl) ?_
 rintro _ w_1 ⟨b2, rfl, hS2⟩
 refine sQ 4 (Y_assign (v := vi 0) rfl rfl) ?_
 refine sQ 5 (Y_assign (v := .bool false) rfl rfl) (rw_nil (cw_seq (cw_seq (cw_region ?_))))
 refine sQ 6 (Y_assign (v := vi 0) rfl rfl) (rw_nil ?_)
 obtain ⟨z, hz, hF1⟩ := bind_inv hF
 refine cw_block ?_
 refine cw_loop (fun k f w => ∃ (k_ : Nat), FF f [(2, pt (aD b1) 0), (3, pt (aD b2) 0), (6, vi (k_ : Int))] ∧ ST w0 [] w [⟨aD b1, 37, kM_ a B c, 3⟩, ⟨aD b2, 37, kM_ b B1 c1, 3⟩] [⟨B, (a.Cells.flatMap eN0)⟩, ⟨B1, (b.Cells.flatMap eN0)⟩] ∧ k_ + k = 8 ∧ forX (F_spec_l6Phase_l1 a b) k k_ () = some z) 8 ⟨0, (FF.cons rfl (FF.cons rfl (FF.cons rfl FF.nil))), (hS2.sel [0, 1] rfl rfl), Nat.zero_add _, hz⟩ ?_
 rintro k_1 f w ⟨k_, hf, hS3, hik, hL⟩
 refine cw_seq (cw_seq (cw_region ?_))
 refine sQ 7 (Y_move (v := vi (k_ : Int)) rfl (hf.get 6 2 rfl)) ?_
 refine sQ 8 (Y_lt (k := .i64) (a := (k_ : Int)) (b := 8) rfl rfl rfl) (rw_nil ?_)
 refine cw_cond (b := (decide ((k_ : Int) < 8))) rfl (fun hlt => ?_) (fun hlt => ?_)
 ·skip
  have hlt1 : k_ < 8 := by have h := of_decide_eq_true hlt; omega
  obtain ⟨k_2, rfl⟩ : ∃ k2, k_1 = k2 + 1 := ⟨k_1 - 1, by omega⟩
  obtain ⟨y, hb, hL1⟩ := forX_go hL
  unfold F_spec_l6Phase_l1 at hb
  refine cw_skip (cw_seq (cw_block (cw_seq (cw_region ?_))))
  refine sQ 11 (Y_loadA (B := aD b1) (i := 0) (cs := kM_ a B c) (vs := kM_ a B c) k_ag_37 k_sz_37_3 rfl (hf.get 2 0 rfl) (hS3.cf (i := 0) rfl) rfl rfl) ?_
  refine sQ 12 (Y_loadA (B := aD b2) (i := 0) (cs := kM_ b B1 c1) (vs := kM_ b B1 c1) k_ag_37 k_sz_37_3 rfl (hf.get 3 1 rfl) (hS3.cf (i := 1) rfl) rfl rfl) ?_
  refine sQ 13 (Y_move (v := vi (k_ : Int)) rfl (hf.get 6 2 rfl)) ?_
  obtain ⟨r_2, hc, hb⟩ := bind_inv hb
  refine sc 14 rfl rfl (Yc_func (g := 175) (vs := [gM_ a B c, gM_ b B1 c1, vi (k_ : Int)]) k_call_175 rfl (mc rfl (mc rfl (mc rfl mn))) (c_spec_l6Turned a b (k_ : Int) B c a.Cells.length B1 c1 b.Cells.length _ rfl rfl (hS3.inn0 [(true, 0), (true, 1)] rfl) hc)) ?_
  rintro _ w_2 ⟨rfl, hd⟩
  have hS4 := hS3.out00 hd
  refine rw_nil ?_
  refine cw_cond (b := r_2) rfl (fun hb1 => ?_) (fun hb1 => ?_)
  ·skip
   have hF2 := ct hb hb1
   refine cw_seq (cw_region ?_)
   refine sQ 15 (Y_move (v := vi (k_ : Int)) rfl (hf.get 6 2 rfl)) ?_
   refine sQ 4 (Y_assign (v := vi (k_ : Int)) rfl rfl) ?_
   refine sQ 5 (Y_assign (v := .bool true) rfl rfl) (rw_nil (cw_ret ?_))
   obtain rfl := some_inj hF2
   obtain rfl := some_inj hL1
   obtain ⟨rfl, rfl⟩ := pr2 (some_inj hF1)
   exact ret2 Tryz.results89 (v1 := vi (k_ : Int)) (resAt_tmp rfl) (v2 := .bool true) (resAt_tmp rfl) ⟨rfl, (hS4.sN [])⟩
  ·skip
   have hF3 := cf' hb hb1
   refine cw_skip (cw_region ?_)
   refine sQ 9 (Y_move (v := vi (k_ : Int)) rfl (hf.get 6 2 rfl)) ?_
   refine sQ 10 (Y_add (k := .i64) (a := (k_ : Int)) (b := 1) rfl rfl rfl) ?_
   refine sQ 6 (Y_assign (v := vi (i64.wrap ((k_ : Int) + 1))) rfl rfl) (rw_nil ?_)
   obtain rfl := some_inj hF3
   exact ⟨k_2, Nat.lt_succ_self _, k_ + 1, (FF.cons (hf.get 2 0 rfl) (FF.cons (hf.get 3 1 rfl) (FF.cons (congrArg (Value.int .i64) (wr_succ hlt1 (show 8 ≤ 9223372036854775807 by decide))) FF.nil))), (hS4.sel [0, 1] rfl rfl), (by omega), hL1⟩
 ·skip
  obtain rfl : k_1 = 0 := by have h := of_decide_eq_false hlt; omega
  refine cw_exit rfl ?_
  obtain rfl := some_inj hL
  refine cw_seq (cw_region ?_)
  refine sQ 4 (Y_assign (v := vi 0) rfl rfl) ?_
  refine sQ 5 (Y_assign (v := .bool false) rfl rfl) (rw_nil (cw_ret ?_))
  obtain ⟨rfl, rfl⟩ := pr2 (some_inj hF1)
  exact ret2 Tryz.results89 (v1 := vi 0) (resAt_tmp rfl) (v2 := .bool false) (resAt_tmp rfl) ⟨rfl, (hS3.sN [])⟩

theorem c_spec_EqualUpToPhase (a : TMatrix) (b : TMatrix) (B : Option Addr) (c n : Nat) (B1 : Option Addr) (c1 n1 : Nat) (w0 : World) (hn : a.Cells.length = n) (hn1 : b.Cells.length = n1) (hS : ST w0 [] w0 [] [⟨B, (a.Cells.flatMap eN0)⟩, ⟨B1, (b.Cells.flatMap eN0)⟩]) {r_ : Int} {r_1 : Bool} {r_2 : Bool} (hF : F_spec_EqualUpToPhase a b = some (r_, r_1, r_2)) :
  CV Tryz.prog 31 #[.agg #[vi a.Rows, vi a.Cols, .slice B n c], .agg #[vi b.Rows, vi b.Cols, .slice B1 n1 c1]] w0 (fun v w' => v = .tuple #[vi r_, .bool r_1, .bool r_2] ∧ ST w0 [] w' [] []) := by
 subst hn
 subst hn1
 unfold F_spec_EqualUpToPhase at hF
 refine cv_of_cw 25 Tryz.func31 rfl Tryz.ntmps31 rfl ?_
 refine cw_seq (cw_region ?_)
 refine sS 2 (Ys_box (T := 37) (v := gM_ a B c) (cs := kM_ a B c) (m := 3) hS rfl rfl rfl rfl) ?_
 rintro _ w_ ⟨b1, rfl, hS1⟩
 refine sS 3 (Ys_box (T := 37) (v := gM_ b B1 c1) (cs := kM_ b B1 c1) (m := 3) hS1 rfl rfl rfl rfl) ?_
 rintro _ w_1 ⟨b2, rfl, hS2⟩
 refine sQ 4 (Y_assign (v := vi 0) rfl rfl) ?_
 refine sQ 5 (Y_assign (v := .bool false) rfl rfl) ?_
 refine sQ 6 (Y_assign (v := .bool false) rfl rfl) (rw_nil (cw_seq (cw_seq (cw_region ?_))))
 refine sQ 9 (Y_loadA (B := aD b1) (i := 0) (cs := kM_ a B c) (vs := kM_ a B c) k_ag_37 k_sz_37_3 rfl rfl (hS2.cf (i := 0) rfl) rfl rfl) ?_
 obtain ⟨r_3, hc, hF⟩ := bind_inv hF
 refine sc 10 rfl rfl (Yc_func (g := 64) (vs := [gM_ a B c]) k_call_64 rfl (mc rfl mn) (c_spec_l3Good a B c a.Cells.length _ rfl (hS2.inn0 [(true, 0)] rfl) hc)) ?_
 rintro _ w_2 ⟨rfl, hd⟩
 have hS3 := hS2.out00 hd
 refine sQ 11 (Y_not (p := r_3) rfl rfl) ?_
 refine sQ 12 (Y_move (v := .bool (!r_3)) rfl rfl) ?_
 refine sgq 13 (B := (!(!r_3))) (v := gM_ b B1 c1) rfl rfl (uF_ 12) (fun hg => (Y_loadA (B := aD b2) (i := 0) (cs := kM_ b B1 c1) (vs := kM_ b B1 c1) k_ag_37 k_sz_37_3 rfl rfl (hS3.cf (i := 1) rfl) rfl rfl)) ?_
 obtain ⟨r_4, hc1, hF⟩ := bind_inv hF
 refine sgc 14 (B := (!(!r_3))) (v := .bool r_4) (F := hS3.fn) rfl rfl (uF_ 12) hS3 (fun hg1 => (Yc_func (g := 64) (vs := [gM_ b B1 c1]) k_call_64 rfl (mc (gv_of (v := gM_ b B1 c1) hg1) mn) (CV.mono (c_spec_l3Good b B1 c1 b.Cells.length _ rfl (hS3.inn0 [(true, 1)] rfl) (gb_inv hc1 hg1)) (by rintro _ _ ⟨rfl, h⟩; exact ⟨rfl, hS3.out00 h⟩)))) ?_
 rintro w_3 hS4
 refine sgq 15 (B := (!(!r_3))) (v := .bool (!r_4)) rfl rfl (uF_ 12) (fun hg2 => (Y_not (p := r_4) rfl (gv_of (v := .bool r_4) hg2))) ?_
 refine sQ 16 (Y_or (b := (!r_3)) (z := (!r_4)) rfl rfl rfl rfl) (rw_nil ?_)
 refine cw_cond (b := ((!r_3) || (!r_4))) rfl (fun hb => ?_) (fun hb => ?_)
 ·skip
  have hF1 := ct hF hb
  refine cw_seq (cw_region ?_)
  refine sQ 4 (Y_assign (v := vi 0) rfl rfl) ?_
  refine sQ 5 (Y_assign (v := .bool false) rfl rfl) ?_
  refine sQ 6 (Y_assign (v := .bool false) rfl rfl) (rw_nil (cw_ret ?_))
  obtain ⟨rfl, rfl, rfl⟩ := pr3 (some_inj hF1)
  exact ret3 Tryz.results31 (v1 := vi 0) (resAt_tmp rfl) (v2 := .bool false) (resAt_tmp rfl) (v3 := .bool false) (resAt_tmp rfl) ⟨rfl, (hS4.sN [])⟩
 ·skip
  have hF2 := cf' hF hb
  refine cw_skip (cw_seq (cw_region ?_))
  refine sQ 18 (Y_loadA (B := aD b1) (i := 0) (cs := kM_ a B c) (vs := kM_ a B c) k_ag_37 k_sz_37_3 rfl rfl (hS4.cf (i := 0) rfl) rfl rfl) ?_
  refine sQ 19 (Y_loadA (B := aD b2) (i := 0) (cs := kM_ b B1 c1) (vs := kM_ b B1 c1) k_ag_37 k_sz_37_3 rfl rfl (hS4.cf (i := 1) rfl) rfl rfl) ?_
  obtain ⟨⟨r_5, r_6⟩, hc2, hF2⟩ := bind_inv hF2
  refine sc 20 rfl rfl (Yc_func (g := 89) (vs := [gM_ a B c, gM_ b B1 c1]) k_call_89 rfl (mc rfl (mc rfl mn)) (c_spec_l6Phase a b B c a.Cells.length B1 c1 b.Cells.length _ rfl rfl (hS4.inn0 [(true, 0), (true, 1)] rfl) hc2)) ?_
  rintro _ w_4 ⟨rfl, hd1⟩
  have hS5 := hS4.out00 hd1
  refine sQ 17 (Y_move (v := .tuple #[vi r_5, .bool r_6]) rfl rfl) ?_
  refine sQ 21 (Y_extract (v := vi r_5) rfl rfl rfl) ?_
  refine sQ 22 (Y_extract (v := .bool r_6) rfl rfl rfl) ?_
  refine sQ 7 (Y_assign (v := vi r_5) rfl rfl) ?_
  refine sQ 8 (Y_assign (v := .bool r_6) rfl rfl) (rw_nil (cw_seq (cw_region ?_)))
  refine sQ 23 (Y_move (v := vi r_5) rfl rfl) ?_
  refine sQ 24 (Y_move (v := .bool r_6) rfl rfl) ?_
  refine sQ 4 (Y_assign (v := vi r_5) rfl rfl) ?_
  refine sQ 5 (Y_assign (v := .bool r_6) rfl rfl) ?_
  refine sQ 6 (Y_assign (v := .bool true) rfl rfl) (rw_nil (cw_ret ?_))
  obtain ⟨rfl, rfl, rfl⟩ := pr3 (some_inj hF2)
  exact ret3 Tryz.results31 (v1 := vi r_5) (resAt_tmp rfl) (v2 := .bool r_6) (resAt_tmp rfl) (v3 := .bool true) (resAt_tmp rfl) ⟨rfl, (hS5.sN [])⟩

theorem c_laws_FnWeights (code : List Int) (more : List Int) (B : Option Addr) (c n : Nat) (B1 : Option Addr) (c1 n1 : Nat) (w0 : World) (hn : code.length = n) (hn1 : more.length = n1) (hS : ST w0 [] w0 [] [⟨B, (code.flatMap enc_u8)⟩, ⟨B1, (more.flatMap enc_u8)⟩]) {r_ : Bool} (hF : F_laws_FnWeights code more = some r_) :
  CV Tryz.prog 5 #[.slice B n c, .slice B1 n1 c1] w0 (fun v w' => v = .bool r_ ∧ ST w0 [] w' [] []) := by
 subst hn
 subst hn1
 unfold F_laws_FnWeights at hF
 refine cv_of_cw 186 Tryz.func5 rfl Tryz.ntmps5 rfl ?_
 refine cw_seq (cw_region ?_)
 refine sQ 4 (Y_assign (v := .bool false) rfl rfl) (rw_nil (cw_seq (cw_seq (cw_region ?_))))
 refine sQ 34 (Y_move (v := .slice B code.length c) rfl rfl) ?_
 refine sQ 35 (Y_move (v := .slice B1 more.length c1) rfl rfl) ?_
 obtain ⟨r_1, hc, hF⟩ := bind_inv hF
 refine sc 36 rfl rfl (Yc_func (g := 11) (vs := [.slice B code.length c, .slice B1 more.length c1]) k_call_11 rfl (mc rfl (mc rfl mn)) (c_laws_big code more B c code.length B1 c1 more.length _ rfl rfl (hS.inn0 [(true, 0), (true, 1)] rfl) hc)) ?_
 rintro _ w_ ⟨rfl, hd⟩
 have hS1 := hS.out00 hd
 refine rw_nil ?_
 refine cw_cond (b := r_1) rfl (fun hb => ?_) (fun hb => ?_)
 ·skip
  have hF1 := ct hF hb
  refine cw_seq (cw_region ?_)
  refine sQ 4 (Y_assign (v := .bool true) rfl rfl) (rw_nil (cw_ret ?_))
  obtain rfl := some_inj hF1
  exact ret1 Tryz.results5 (v1 := .bool true) (resAt_tmp rfl) ⟨rfl, (hS1.sN [])⟩
 ·skip
  have hF2 := cf' hF hb
  refine cw_skip (cw_seq (cw_region ?_))
  refine sQ 38 (Y_move (v := .slice B code.length c) rfl rfl) ?_
  obtain ⟨⟨r_2, r_3⟩, hc1, hF2⟩ := bind_inv hF2
  refine sc 39 rfl rfl (Yc_func (g := 21) (vs := [.slice B code.length c]) k_call_21 rfl (mc rfl mn) (c_spec_DrawStateAfter code B c code.length _ rfl (hS1.inn0 [(true, 0)] rfl) hc1)) ?_
  rintro _ w_1 ⟨B2, c2, rfl, hd1⟩
  have hS2 := hS1.out0 hd1
  refine sQ 37 (Y_move (v := .tuple #[.agg #[vi r_2.Qubits, .slice B2 r_2.Gates.length c2], vi r_3]) rfl rfl) ?_
  refine sQ 40 (Y_extract (v := .agg #[vi r_2.Qubits, .slice B2 r_2.Gates.length c2]) rfl rfl rfl) ?_
  refine sQ 41 (Y_extract (v := vi r_3) rfl rfl rfl) ?_
  refine sS 5 (Ys_alloc (T := 33) (cs := [vi 0, .slice none 0 0]) (m := 2) hS2 k_zero_33 rfl rfl rfl) ?_
  rintro _ w_2 ⟨b, rfl, hS3⟩
  refine s0 (Ys_store (i := 1) (s := 2) (B := aD b) (T' := 33) (v := .agg #[vi r_2.Qubits, .slice B2 r_2.Gates.length c2]) (vs := [vi r_2.Qubits, .slice B2 r_2.Gates.length c2]) (k := 0) (cs' := [vi r_2.Qubits, .slice B2 r_2.Gates.length c2]) hS3 k_sz_33_2 rfl rfl rfl rfl rfl rfl rfl (lB rfl) rfl rfl) ?_
  rintro _ w_3 ⟨rfl, hS4⟩
  refine sQ 6 (Y_assign (v := vi r_3) rfl rfl) (rw_nil (cw_seq (cw_region ?_)))
  refine sQ 43 (Y_loadA (B := aD b) (i := 0) (cs := [vi r_2.Qubits, .slice B2 r_2.Gates.length c2]) (vs := [vi r_2.Qubits, .slice B2 r_2.Gates.length c2]) k_ag_33 k_sz_33_2 rfl rfl (hS4.cf (i := 1) rfl) rfl rfl) ?_
  refine sQ 44 (Y_move (v := vi r_3) rfl rfl) ?_
  obtain ⟨⟨r_4, r_5⟩, hc2, hF2⟩ := bind_inv hF2
  refine sc 45 rfl rfl (Yc_func (g := 22) (vs := [.agg #[vi r_2.Qubits, .slice B2 r_2.Gates.length c2], vi r_3]) k_call_22 rfl (mc rfl (mc rfl mn)) (c_impl_StateAfter r_2 r_3 B2 c2 r_2.Gates.length _ rfl (hS4.inn0 [(false, 0)] rfl) hc2)) ?_
  rintro _ w_4 ⟨B3, c3, rfl, hd2⟩
  have hS5 := hS4.out0 hd2
  refine sQ 42 (Y_move (v := .tuple #[gM_ r_4 B3 c3, .bool r_5]) rfl rfl) ?_
  refine sQ 46 (Y_extract (v := gM_ r_4 B3 c3) rfl rfl rfl) ?_
  refine sQ 47 (Y_extract (v := .bool r_5) rfl rfl rfl) ?_
  refine sS 7 (Ys_alloc (T := 37) (cs := kN_) (m := 3) hS5 k_zero_37 rfl rfl rfl) ?_
  rintro _ w_5 ⟨b1, rfl, hS6⟩
  refine s0 (Ys_store (i := 3) (s := 3) (B := aD b1) (T' := 37) (v := gM_ r_4 B3 c3) (vs := kM_ r_4 B3 c3) (k := 0) (cs' := kM_ r_4 B3 c3) hS6 k_sz_37_3 rfl rfl rfl rfl rfl rfl rfl (lB rfl) rfl rfl) ?_
  rintro _ w_6 ⟨rfl, hS7⟩
  refine sQ 8 (Y_assign (v := .bool r_5) rfl rfl) (rw_nil (cw_seq (cw_region ?_)))
  refine sQ 49 (Y_loadA (B := aD b) (i := 0) (cs := [vi r_2.Qubits, .slice B2 r_2.Gates.length c2]) (vs := [vi r_2.Qubits, .slice B2 r_2.Gates.length c2]) k_ag_33 k_sz_33_2 rfl rfl (hS7.cf (i := 1) rfl) rfl rfl) ?_
  refine sQ 50 (Y_move (v := vi r_3) rfl rfl) ?_
  obtain ⟨⟨r_6, r_7⟩, hc3, hF2⟩ := bind_inv hF2
  refine sc 51 rfl rfl (Yc_func (g := 23) (vs := [.agg #[vi r_2.Qubits, .slice B2 r_2.Gates.length c2], vi r_3]) k_call_23 rfl (mc rfl (mc rfl mn)) (c_spec_StateAfter r_2 r_3 B2 c2 r_2.Gates.length _ rfl (hS7.inn0 [(false, 0)] rfl) hc3)) ?_
  rintro _ w_7 ⟨B4, c4, rfl, hd3⟩
  have hS8 := hS7.out0 hd3
  refine sQ 48 (Y_move (v := .tuple #[gM_ r_6 B4 c4, .bool r_7]) rfl rfl) ?_
  refine sQ 52 (Y_extract (v := gM_ r_6 B4 c4) rfl rfl rfl) ?_
  refine sQ 53 (Y_extract (v := .bool r_7) rfl rfl rfl) ?_
  refine sS 9 (Ys_alloc (T := 37) (cs := kN_) (m := 3) hS8 k_zero_37 rfl rfl rfl) ?_
  rintro _ w_8 ⟨b2, rfl, hS9⟩
  refine s0 (Ys_store (i := 5) (s := 3) (B := aD b2) (T' := 37) (v := gM_ r_6 B4 c4) (vs := kM_ r_6 B4 c4) (k := 0) (cs' := kM_ r_6 B4 c4) hS9 k_sz_37_3 rfl rfl rfl rfl rfl rfl rfl (lB rfl) rfl rfl) ?_
  rintro _ w_9 ⟨rfl, hS10⟩
  refine sQ 10 (Y_assign (v := .bool r_7) rfl rfl) (rw_nil (cw_seq (cw_seq (cw_region ?_))))
  refine sQ 54 (Y_move (v := .bool r_5) rfl rfl) ?_
  refine sQ 55 (Y_move (v := .bool r_7) rfl rfl) ?_
  refine sQ 56 (Y_bne (p := r_5) (q := r_7) k_und_4 rfl rfl rfl) ?_
  refine sQ 57 (Y_move (v := .bool (!(r_5 == r_7))) rfl rfl) ?_
  refine sgq 58 (B := (!(!(r_5 == r_7)))) (v := gM_ r_4 B3 c3) rfl rfl (uF_ 57) (fun hg => (Y_loadA (B := aD b1) (i := 0) (cs := kM_ r_4 B3 c3) (vs := kM_ r_4 B3 c3) k_ag_37 k_sz_37_3 rfl rfl (hS10.cf (i := 3) rfl) rfl rfl)) ?_
  refine sgq 59 (B := (!(!(r_5 == r_7)))) (v := gM_ r_6 B4 c4) rfl rfl (uF_ 57) (fun hg1 => (Y_loadA (B := aD b2) (i := 0) (cs := kM_ r_6 B4 c4) (vs := kM_ r_6 B4 c4) k_ag_37 k_sz_37_3 rfl rfl (hS10.cf (i := 5) rfl) rfl rfl)) ?_
  obtain ⟨r_8, hc4, hF2⟩ := bind_inv hF2
  refine sgc 60 (B := (!(!(r_5 == r_7)))) (v := .bool r_8) (F := hS10.fn) rfl rfl (uF_ 57) hS10 (fun hg2 => (Yc_func (g := 15) (vs := [gM_ r_4 B3 c3, gM_ r_6 B4 c4]) k_call_15 rfl (mc (gv_of (v := gM_ r_4 B3 c3) hg2) (mc (gv_of (v := gM_ r_6 B4 c4) hg2) mn)) (CV.mono (c_spec_EqualMatrices r_4 r_6 B3 c3 r_4.Cells.length B4 c4 r_6.Cells.length _ rfl rfl (hS10.inn0 [(false, 2), (false, 4)] rfl) (gb_inv hc4 hg2)) (by rintro _ _ ⟨rfl, h⟩; exact ⟨rfl, hS10.out00 h⟩)))) ?_
  rintro w_10 hS11
  refine sgq 61 (B := (!(!(r_5 == r_7)))) (v := .bool (!r_8)) rfl rfl (uF_ 57) (fun hg3 => (Y_not (p := r_8) rfl (gv_of (v := .bool r_8) hg3))) ?_
  refine sQ 62 (Y_or (b := (!(r_5 == r_7))) (z := (!r_8)) rfl rfl rfl rfl) (rw_nil ?_)
  refine cw_cond (b := ((!(r_5 == r_7)) || (!r_8))) rfl (fun hb1 => ?_) (fun hb1 => ?_)
  ·skip
   have hF3 := ct hF2 hb1
   refine cw_seq (cw_region ?_)
   refine sQ 4 (Y_assign (v := .bool false) rfl rfl) (rw_nil (cw_ret ?_))
   obtain rfl := some_inj hF3
   exact ret1 Tryz.results5 (v1 := .bool false) (resAt_tmp rfl) ⟨rfl, (hS11.sN [])⟩
  ·skip
   have hF4 := cf' hF2 hb1
   refine cw_skip (cw_seq ?_)
   obtain ⟨z, hz, hF5⟩ := bind_inv hF4
   refine cw_mid (fun f w => .inl () = z ∧ FF f [(1, .slice B1 more.length c1)] ∧ ST w0 [] w [] [⟨B, (code.flatMap enc_u8)⟩, ⟨B1, (more.flatMap enc_u8)⟩]) ?_ ?_
   ·skip
    refine cw_seq (cw_region ?_)
    refine sQ 63 (Y_move (v := .bool r_5) rfl rfl) (rw_nil ?_)
    refine cw_cond (b := r_5) rfl (fun hb2 => ?_) (fun hb2 => ?_)
    ·skip
     have hF6 := ct hz hb2
     refine cw_seq (cw_region ?_)
     refine sQ 64 (Y_buildS (zs := kZ_) (vs := []) (cs := kZ_) k_pl_54 k_zero_54 rfl mpn rfl) ?_
     refine sS 11 (Ys_alloc (T := 54) (cs := kZ_) (m := 5) hS11 k_zero_54 rfl rfl rfl) ?_
     rintro _ w_11 ⟨b3, rfl, hS13⟩
     refine s0 (Ys_store (i := 6) (s := 5) (B := aD b3) (T' := 54) (v := gZ_) (vs := kZ_) (k := 0) (cs' := kZ_) hS13 k_sz_54_5 rfl rfl rfl rfl rfl rfl rfl (lB rfl) rfl rfl) ?_
     rintro _ w_12 ⟨rfl, hS14⟩
     refine rw_nil (cw_seq (cw_region ?_))
     refine sQ 12 (Y_assign (v := .bool true) rfl rfl) (rw_nil (cw_seq (cw_seq (cw_region ?_))))
     refine sQ 13 (Y_assign (v := vi 0) rfl rfl) (rw_nil ?_)
     obtain ⟨hN, hF6⟩ := chk_inv hF6
     obtain ⟨z1, hz1, hF7⟩ := bind_inv hF6
     refine cw_block ?_
     refine cw_loop (fun k f w => ∃ (k_ : Nat) (A : Int) (B5 : Int) (C : Int) (D : Int) (Exp : Int) (good : Bool), FF f [(1, .slice B1 more.length c1), (5, pt (aD b) 0), (6, vi r_3), (9, pt (aD b2) 0), (11, pt (aD b3) 0), (12, .bool good), (13, vi (k_ : Int))] ∧ ST w0 [] w [⟨aD b, 33, [vi r_2.Qubits, .slice B2 r_2.Gates.length c2], 2⟩, ⟨B2, 26, (r_2.Gates.flatMap enc_Gate), c2 * 3⟩, ⟨aD b2, 37, kM_ r_6 B4 c4, 3⟩, ⟨B4, 54, (r_6.Cells.flatMap eN0), c4 * 5⟩, ⟨aD b3, 54, [vi A, vi B5, vi C, vi D, vi Exp], 5⟩] [⟨B, (code.flatMap enc_u8)⟩, ⟨B1, (more.flatMap enc_u8)⟩] ∧ k_ + k = r_6.Rows.toNat ∧ forN (F_laws_FnWeights_l1 r_2 r_3) k k_ (A, B5, C, D, Exp, good) = some z1) r_6.Rows.toNat ⟨0, 0, 0, 0, 0, 0, true, (FF.cons rfl (FF.cons rfl (FF.cons rfl (FF.cons rfl (FF.cons rfl (FF.cons rfl (FF.cons rfl FF.nil))))))), (hS14.sel [1, 0, 5, 4, 6] rfl rfl), Nat.zero_add _, hz1⟩ ?_
     rintro k_1 f w ⟨k_, A, B5, C, D, Exp, good, hf1, hS15, hik, hL⟩
     refine cw_seq (cw_seq (cw_region ?_))
     refine sQ 65 (Y_move (v := vi (k_ : Int)) rfl (hf1.get 13 6 rfl)) ?_
     refine sQ 66 (Y_fieldAddr (B := aD b2) (i := 0) (s := 0) k_fd_37_0_0_3 k_sz_3_1 rfl (hf1.get 9 3 rfl)) ?_
     refine sQ 67 (Y_load1 (B := aD b2) (i := 0) (cs := kM_ r_6 B4 c4) (v := vi r_6.Rows) k_sc_3 rfl rfl (hS15.cf (i := 2) rfl) rfl) ?_
     refine sQ 68 (Y_lt (k := .i64) (a := (k_ : Int)) (b := r_6.Rows) rfl rfl rfl) (rw_nil ?_)
     refine cw_cond (b := (decide ((k_ : Int) < r_6.Rows))) rfl (fun hlt => ?_) (fun hlt => ?_)
     ·skip
      have hlt1 : k_ < r_6.Rows.toNat := by have h := of_decide_eq_true hlt; omega
      obtain ⟨k_2, rfl⟩ : ∃ k2, k_1 = k2 + 1 := ⟨k_1 - 1, by omega⟩
      obtain ⟨y, hb3, hL1⟩ := forN_go hL
      unfold F_laws_FnWeights_l1 at hb3
      refine cw_skip (cw_seq (cw_block (cw_seq (cw_region ?_))))
      refine sQ 72 (Y_loadA (B := aD b) (i := 0) (cs := [vi r_2.Qubits, .slice B2 r_2.Gates.length c2]) (vs := [vi r_2.Qubits, .slice B2 r_2.Gates.length c2]) k_ag_33 k_sz_33_2 rfl (hf1.get 5 1 rfl) (hS15.cf (i := 0) rfl) rfl rfl) ?_
      refine sQ 73 (Y_move (v := vi r_3) rfl (hf1.get 6 2 rfl)) ?_
      refine sQ 74 (Y_move (v := vi (k_ : Int)) rfl (hf1.get 13 6 rfl)) ?_
      obtain ⟨⟨r_9, r_10⟩, hc5, hb3⟩ := bind_inv hb3
      refine sc 75 rfl rfl (Yc_func (g := 24) (vs := [.agg #[vi r_2.Qubits, .slice B2 r_2.Gates.length c2], vi r_3, vi (k_ : Int)]) k_call_24 rfl (mc rfl (mc rfl (mc rfl mn))) (c_impl_OutcomeWeight r_2 r_3 (k_ : Int) B2 c2 r_2.Gates.length _ rfl (hS15.inn0 [(false, 1)] rfl) hc5)) ?_
      rintro _ w_13 ⟨rfl, hd4⟩
      have hS16 := hS15.out00 hd4
      refine sQ 71 (Y_move (v := .tuple #[gD_ r_9, .bool r_10]) rfl rfl) ?_
      refine sQ 76 (Y_extract (v := gD_ r_9) rfl rfl rfl) ?_
      refine sQ 77 (Y_extract (v := .bool r_10) rfl rfl rfl) ?_
      refine sS 14 (Ys_alloc (T := 54) (cs := kZ_) (m := 5) hS16 k_zero_54 rfl rfl rfl) ?_
      rintro _ w_14 ⟨b4, rfl, hS17⟩
      refine s0 (Ys_store (i := 5) (s := 5) (B := aD b4) (T' := 54) (v := gD_ r_9) (vs := kD_ r_9) (k := 0) (cs' := kD_ r_9) hS17 k_sz_54_5 rfl rfl rfl rfl rfl rfl rfl (lB rfl) rfl rfl) ?_
      rintro _ w_15 ⟨rfl, hS18⟩
      refine sQ 15 (Y_assign (v := .bool r_10) rfl rfl) (rw_nil (cw_seq (cw_region ?_)))
      refine sQ 79 (Y_loadA (B := aD b3) (i := 0) (cs := [vi A, vi B5, vi C, vi D, vi Exp]) (vs := [vi A, vi B5, vi C, vi D, vi Exp]) k_ag_54 k_sz_54_5 rfl (hf1.get 11 4 rfl) (hS18.cf (i := 4) rfl) rfl rfl) ?_
      refine sQ 80 (Y_loadA (B := aD b4) (i := 0) (cs := kD_ r_9) (vs := kD_ r_9) k_ag_54 k_sz_54_5 rfl rfl (hS18.cf (i := 5) rfl) rfl rfl) ?_
      obtain ⟨⟨r_11, r_12⟩, hc6, hb3⟩ := bind_inv hb3
      refine sc 81 rfl rfl (Yc_func (g := 25) (vs := [.agg #[vi A, vi B5, vi C, vi D, vi Exp], gD_ r_9]) k_call_25 rfl (mc rfl (mc rfl mn)) (c_spec_AddDyadic (TDyadic.mk (TRing.mk A B5 C D) Exp) r_9 _  (hS18.inn0 [] rfl) hc6)) ?_
      rintro _ w_16 ⟨rfl, hd5⟩
      have hS19 := hS18.out00 hd5
      refine sQ 78 (Y_move (v := .tuple #[gD_ r_11, .bool r_12]) rfl rfl) ?_
      refine sQ 82 (Y_extract (v := gD_ r_11) rfl rfl rfl) ?_
      refine sQ 83 (Y_extract (v := .bool r_12) rfl rfl rfl) ?_
      refine sS 16 (Ys_alloc (T := 54) (cs := kZ_) (m := 5) hS19 k_zero_54 rfl rfl rfl) ?_
      rintro _ w_17 ⟨b5, rfl, hS20⟩
      refine s0 (Ys_store (i := 6) (s := 5) (B := aD b5) (T' := 54) (v := gD_ r_11) (vs := kD_ r_11) (k := 0) (cs' := kD_ r_11) hS20 k_sz_54_5 rfl rfl rfl rfl rfl rfl rfl (lB rfl) rfl rfl) ?_
      rintro _ w_18 ⟨rfl, hS21⟩
      refine sQ 17 (Y_assign (v := .bool r_12) rfl rfl) (rw_nil (cw_seq (cw_region ?_)))
      refine sQ 84 (Y_move (v := .bool good) rfl (hf1.get 12 5 rfl)) ?_
      refine sQ 85 (Y_move (v := .bool good) rfl rfl) ?_
      refine sgq 86 (B := good) (v := .bool r_10) rfl rfl (uT_ 85) (fun hg4 => (Y_move (v := .bool r_10) rfl rfl)) ?_
      refine sQ 87 (Y_and (b := good) (z := r_10) rfl rfl rfl rfl) ?_
      refine sQ 88 (Y_move (v := .bool (good && r_10)) rfl rfl) ?_
      refine sgq 89 (B := (good && r_10)) (v := .bool r_12) rfl rfl (uT_ 88) (fun hg5 => (Y_move (v := .bool r_12) rfl rfl)) ?_
      refine sQ 90 (Y_and (b := (good && r_10)) (z := r_12) rfl rfl rfl rfl) ?_
      refine sQ 12 (Y_assign (v := .bool ((good && r_10) && r_12)) rfl rfl) (rw_nil (cw_region ?_))
      refine sQ 91 (Y_loadA (B := aD b5) (i := 0) (cs := kD_ r_11) (vs := kD_ r_11) k_ag_54 k_sz_54_5 rfl rfl (hS21.cf (i := 6) rfl) rfl rfl) ?_
      refine s0 (Ys_store (i := 4) (s := 5) (B := aD b3) (T' := 54) (v := gD_ r_11) (vs := kD_ r_11) (k := 0) (cs' := kD_ r_11) hS21 k_sz_54_5 rfl (hf1.get 11 4 rfl) rfl rfl rfl rfl rfl (lB rfl) rfl rfl) ?_
      rintro _ w_19 ⟨rfl, hS22⟩
      refine rw_nil (cw_region ?_)
      refine sQ 69 (Y_move (v := vi (k_ : Int)) rfl (hf1.get 13 6 rfl)) ?_
      refine sQ 70 (Y_add (k := .i64) (a := (k_ : Int)) (b := 1) rfl rfl rfl) ?_
      refine sQ 13 (Y_assign (v := vi (i64.wrap ((k_ : Int) + 1))) rfl rfl) (rw_nil ?_)
      obtain rfl := some_inj hb3
      exact ⟨k_2, Nat.lt_succ_self _, k_ + 1, r_11.Num.A, r_11.Num.B, r_11.Num.C, r_11.Num.D, r_11.Exp, ((good && r_10) && r_12), (FF.cons (hf1.get 1 0 rfl) (FF.cons (hf1.get 5 1 rfl) (FF.cons (hf1.get 6 2 rfl) (FF.cons (hf1.get 9 3 rfl) (FF.cons (hf1.get 11 4 rfl) (FF.cons rfl (FF.cons (congrArg (Value.int .i64) (wr_succ hlt1 hN)) FF.nil))))))), (hS22.sel [0, 1, 2, 3, 4] rfl rfl), (by omega), hL1⟩
     ·skip
      obtain rfl : k_1 = 0 := by have h := of_decide_eq_false hlt; omega
      refine cw_exit rfl ?_
      obtain rfl := some_inj hL
      refine cw_seq (cw_seq (cw_region ?_))
      refine sQ 92 (Y_move (v := .bool good) rfl (hf1.get 12 5 rfl)) ?_
      refine sQ 93 (Y_move (v := .bool good) rfl rfl) ?_
      refine sgq 94 (B := good) (v := .agg #[vi A, vi B5, vi C, vi D, vi Exp]) rfl rfl (uT_ 93) (fun hg6 => (Y_loadA (B := aD b3) (i := 0) (cs := [vi A, vi B5, vi C, vi D, vi Exp]) (vs := [vi A, vi B5, vi C, vi D, vi Exp]) k_ag_54 k_sz_54_5 rfl (hf1.get 11 4 rfl) (hS15.cf (i := 4) rfl) rfl rfl)) ?_
      refine sgq 95 (B := good) (v := .agg #[vi 1, vi 0, vi 0, vi 0]) rfl rfl (uT_ 93) (fun hg7 => (Y_buildS (zs := [vi 0, vi 0, vi 0, vi 0]) (vs := [(0, vi 1)]) (cs := [vi 1, vi 0, vi 0, vi 0]) k_pl_52 k_zero_52 rfl (mpc rfl mpn) rfl)) ?_
      refine sgq 96 (B := good) (v := .agg #[vi 1, vi 0, vi 0, vi 0, vi 0]) rfl rfl (uT_ 93) (fun hg8 => (Y_buildS (zs := kZ_) (vs := [(0, .agg #[vi 1, vi 0, vi 0, vi 0])]) (cs := [vi 1, vi 0, vi 0, vi 0, vi 0]) k_pl_54 k_zero_54 rfl (mpc (gv_of (v := .agg #[vi 1, vi 0, vi 0, vi 0]) hg8) mpn) rfl)) ?_
      refine sgq 97 (B := good) (v := .bool (!(((A == 1) && ((B5 == 0) && ((C == 0) && ((D == 0) && true)))) && ((Exp == 0) && true)))) rfl rfl (uT_ 93) (fun hg9 => (Y_neA (xs := #[vi A, vi B5, vi C, vi D, vi Exp]) (ys := #[vi 1, vi 0, vi 0, vi 0, vi 0]) (b := (((A == 1) && ((B5 == 0) && ((C == 0) && ((D == 0) && true)))) && ((Exp == 0) && true))) k_eg_54 rfl (gv_of (v := .agg #[vi A, vi B5, vi C, vi D, vi Exp]) hg9) (gv_of (v := .agg #[vi 1, vi 0, vi 0, vi 0, vi 0]) hg9) (eqr_struct (xs := [vi A, vi B5, vi C, vi D, vi Exp]) (ys := [vi 1, vi 0, vi 0, vi 0, vi 0]) k_st_54 k_ho_54 (pts_ag (us := [vi A, vi B5, vi C, vi D]) (vs := [vi 1, vi 0, vi 0, vi 0]) k_ag_52 k_sz_52_4 rfl rfl (eqr_struct (xs := [vi A, vi B5, vi C, vi D]) (ys := [vi 1, vi 0, vi 0, vi 0]) k_st_52 k_ho_52 (pts_sc k_sc_3 rfl rfl (eqr_int k_int_3_i64) (pts_sc k_sc_3 rfl rfl (eqr_int k_int_3_i64) (pts_sc k_sc_3 rfl rfl (eqr_int k_int_3_i64) (pts_sc k_sc_3 rfl rfl (eqr_int k_int_3_i64) pts_nil))))) (pts_sc k_sc_3 rfl rfl (eqr_int k_int_3_i64) pts_nil))))) ?_
      refine sQ 98 (Y_and (b := good) (z := (!(((A == 1) && ((B5 == 0) && ((C == 0) && ((D == 0) && true)))) && ((Exp == 0) && true)))) rfl rfl rfl rfl) (rw_nil ?_)
      refine cw_cond (b := (good && (!(((A == 1) && ((B5 == 0) && ((C == 0) && ((D == 0) && true)))) && ((Exp == 0) && true))))) rfl (fun hb4 => ?_) (fun hb4 => ?_)
      ·skip
       have hF8 := ct hF7 hb4
       refine cw_seq (cw_region ?_)
       refine sQ 4 (Y_assign (v := .bool false) rfl rfl) (rw_nil (cw_ret ?_))
       obtain rfl := some_inj hF8
       obtain rfl := some_inj hF5
       exact ret1 Tryz.results5 (v1 := .bool false) (resAt_tmp rfl) ⟨rfl, (hS15.sN [])⟩
      ·skip
       have hF9 := cf' hF7 hb4
       refine cw_skip (cw_seq (cw_region ?_))
       refine sQ 100 (Y_loadA (B := aD b) (i := 0) (cs := [vi r_2.Qubits, .slice B2 r_2.Gates.length c2]) (vs := [vi r_2.Qubits, .slice B2 r_2.Gates.length c2]) k_ag_33 k_sz_33_2 rfl (hf1.get 5 1 rfl) (hS15.cf (i := 0) rfl) rfl rfl) ?_
       obtain ⟨⟨r_13, r_14⟩, hc7, hF9⟩ := bind_inv hF9
       refine sc 101 rfl rfl (Yc_func (g := 14) (vs := [.agg #[vi r_2.Qubits, .slice B2 r_2.Gates.length c2]]) k_call_14 rfl (mc rfl mn) (c_spec_OperatorOf r_2 B2 c2 r_2.Gates.length _ rfl (hS15.inn0 [(false, 1)] rfl) hc7)) ?_
       rintro _ w_20 ⟨B6, c5, rfl, hd6⟩
       have hS23 := hS15.out0 hd6
       refine sQ 99 (Y_move (v := .tuple #[gM_ r_13 B6 c5, .bool r_14]) rfl rfl) ?_
       refine sQ 102 (Y_extract (v := gM_ r_13 B6 c5) rfl rfl rfl) ?_
       refine sQ 103 (Y_extract (v := .bool r_14) rfl rfl rfl) ?_
       refine sS 18 (Ys_alloc (T := 37) (cs := kN_) (m := 3) hS23 k_zero_37 rfl rfl rfl) ?_
       rintro _ w_21 ⟨b6, rfl, hS24⟩
       refine s0 (Ys_store (i := 6) (s := 3) (B := aD b6) (T' := 37) (v := gM_ r_13 B6 c5) (vs := kM_ r_13 B6 c5) (k := 0) (cs' := kM_ r_13 B6 c5) hS24 k_sz_37_3 rfl rfl rfl rfl rfl rfl rfl (lB rfl) rfl rfl) ?_
       rintro _ w_22 ⟨rfl, hS25⟩
       refine sQ 19 (Y_assign (v := .bool r_14) rfl rfl) (rw_nil (cw_seq (cw_region ?_)))
       refine sQ 105 (Y_loadA (B := aD b6) (i := 0) (cs := kM_ r_13 B6 c5) (vs := kM_ r_13 B6 c5) k_ag_37 k_sz_37_3 rfl rfl (hS25.cf (i := 6) rfl) rfl rfl) ?_
       refine sQ 106 (Y_move (v := vi r_3) rfl (hf1.get 6 2 rfl)) ?_
       obtain ⟨⟨r_15, r_16⟩, hc8, hF9⟩ := bind_inv hF9
       refine sc 107 rfl rfl (Yc_func (g := 26) (vs := [gM_ r_13 B6 c5, vi r_3]) k_call_26 rfl (mc rfl (mc rfl mn)) (c_spec_ColumnOf r_13 r_3 B6 c5 r_13.Cells.length _ rfl (hS25.inn0 [(false, 5)] rfl) hc8)) ?_
       rintro _ w_23 ⟨B7, c6, rfl, hd7⟩
       have hS26 := hS25.out0 hd7
       refine sQ 104 (Y_move (v := .tuple #[gM_ r_15 B7 c6, .bool r_16]) rfl rfl) ?_
       refine sQ 108 (Y_extract (v := gM_ r_15 B7 c6) rfl rfl rfl) ?_
       refine sQ 109 (Y_extract (v := .bool r_16) rfl rfl rfl) ?_
       refine sS 20 (Ys_alloc (T := 37) (cs := kN_) (m := 3) hS26 k_zero_37 rfl rfl rfl) ?_
       rintro _ w_24 ⟨b7, rfl, hS27⟩
       refine s0 (Ys_store (i := 8) (s := 3) (B := aD b7) (T' := 37) (v := gM_ r_15 B7 c6) (vs := kM_ r_15 B7 c6) (k := 0) (cs' := kM_ r_15 B7 c6) hS27 k_sz_37_3 rfl rfl rfl rfl rfl rfl rfl (lB rfl) rfl rfl) ?_
       rintro _ w_25 ⟨rfl, hS28⟩
       refine sQ 21 (Y_assign (v := .bool r_16) rfl rfl) (rw_nil (cw_seq (cw_region ?_)))
       refine sQ 110 (Y_move (v := .bool r_14) rfl rfl) ?_
       refine sQ 111 (Y_move (v := .bool r_14) rfl rfl) ?_
       refine sgq 112 (B := r_14) (v := .bool r_16) rfl rfl (uT_ 111) (fun hg10 => (Y_move (v := .bool r_16) rfl rfl)) ?_
       refine sQ 113 (Y_and (b := r_14) (z := r_16) rfl rfl rfl rfl) ?_
       refine sQ 114 (Y_move (v := .bool (r_14 && r_16)) rfl rfl) ?_
       refine sgq 115 (B := (r_14 && r_16)) (v := gM_ r_15 B7 c6) rfl rfl (uT_ 114) (fun hg11 => (Y_loadA (B := aD b7) (i := 0) (cs := kM_ r_15 B7 c6) (vs := kM_ r_15 B7 c6) k_ag_37 k_sz_37_3 rfl rfl (hS28.cf (i := 8) rfl) rfl rfl)) ?_
       refine sgq 116 (B := (r_14 && r_16)) (v := gM_ r_6 B4 c4) rfl rfl (uT_ 114) (fun hg12 => (Y_loadA (B := aD b2) (i := 0) (cs := kM_ r_6 B4 c4) (vs := kM_ r_6 B4 c4) k_ag_37 k_sz_37_3 rfl (hf1.get 9 3 rfl) (hS28.cf (i := 2) rfl) rfl rfl)) ?_
       obtain ⟨r_17, hc9, hF9⟩ := bind_inv hF9
       refine sgc 117 (B := (r_14 && r_16)) (v := .bool r_17) (F := hS28.fn) rfl rfl (uT_ 114) hS28 (fun hg13 => (Yc_func (g := 15) (vs := [gM_ r_15 B7 c6, gM_ r_6 B4 c4]) k_call_15 rfl (mc (gv_of (v := gM_ r_15 B7 c6) hg13) (mc (gv_of (v := gM_ r_6 B4 c4) hg13) mn)) (CV.mono (c_spec_EqualMatrices r_15 r_6 B7 c6 r_15.Cells.length B4 c4 r_6.Cells.length _ rfl rfl (hS28.inn0 [(false, 7), (false, 3)] rfl) (gb_inv hc9 hg13)) (by rintro _ _ ⟨rfl, h⟩; exact ⟨rfl, hS28.out00 h⟩)))) ?_
       rintro w_26 hS29
       refine sgq 118 (B := (r_14 && r_16)) (v := .bool (!r_17)) rfl rfl (uT_ 114) (fun hg14 => (Y_not (p := r_17) rfl (gv_of (v := .bool r_17) hg14))) ?_
       refine sQ 119 (Y_and (b := (r_14 && r_16)) (z := (!r_17)) rfl rfl rfl rfl) (rw_nil ?_)
       refine cw_cond (b := ((r_14 && r_16) && (!r_17))) rfl (fun hb5 => ?_) (fun hb5 => ?_)
       ·skip
        have hF10 := ct hF9 hb5
        refine cw_seq (cw_region ?_)
        refine sQ 4 (Y_assign (v := .bool false) rfl rfl) (rw_nil (cw_ret ?_))
        obtain rfl := some_inj hF10
        obtain rfl := some_inj hF5
        exact ret1 Tryz.results5 (v1 := .bool false) (resAt_tmp rfl) ⟨rfl, (hS29.sN [])⟩
       ·skip
        have hF11 := cf' hF9 hb5
        refine cw_skip ?_
        exact ⟨(some_inj hF11), (FF.cons (hf1.get 1 0 rfl) FF.nil), (hS29.sel [] rfl rfl)⟩
    ·skip
     have hF12 := cf' hz hb2
     refine cw_skip ?_
     exact ⟨(some_inj hF12), (FF.cons rfl FF.nil), (hS11.sel [] rfl rfl)⟩
   rintro f w ⟨rfl, hf, hS12⟩
   refine cw_seq (cw_region ?_)
   refine sQ 121 (Y_move (v := .slice B1 more.length c1) rfl (hf.get 1 0 rfl)) ?_
   obtain ⟨⟨r_18, r_19⟩, hc10, hF5⟩ := bind_inv hF5
   refine sc 122 rfl rfl (Yc_func (g := 27) (vs := [.slice B1 more.length c1]) k_call_27 rfl (mc rfl mn) (c_spec_DrawEqualUpToPhase more B1 c1 more.length _ rfl (hS12.inn0 [(true, 1)] rfl) hc10)) ?_
   rintro _ w_27 ⟨B8, c7, B9, c8, rfl, hq, ho, hd8⟩
   have hS30 := ST.outR0 hS12 hd8 ho (subc (mem_at (i := 1) rfl) (fun _ h => by cases h))
   have ho1 : Org w0 [] [⟨B, (code.flatMap enc_u8)⟩, ⟨B1, (more.flatMap enc_u8)⟩] [⟨B8, (r_18.Cells.flatMap eN0)⟩] := org_trans0 hS12 ho (org_cons (org_mem (i := 1) rfl) org_nil)
   have hS31 : ST w0 [] _ [⟨B9, 54, (r_19.Cells.flatMap eN0), c8 * 5⟩] [⟨B8, (r_18.Cells.flatMap eN0)⟩, ⟨B, (code.flatMap enc_u8)⟩, ⟨B1, (more.flatMap enc_u8)⟩] := hS30
   refine sQ 120 (Y_move (v := .tuple #[gM_ r_18 B8 c7, gM_ r_19 B9 c8]) rfl rfl) ?_
   refine sQ 123 (Y_extract (v := gM_ r_18 B8 c7) rfl rfl rfl) ?_
   refine sQ 124 (Y_extract (v := gM_ r_19 B9 c8) rfl rfl rfl) ?_
   refine sS 22 (Ys_alloc (T := 37) (cs := kN_) (m := 3) hS31 k_zero_37 rfl rfl rfl) ?_
   rintro _ w_28 ⟨b8, rfl, hS32⟩
   refine sS 23 (Ys_alloc (T := 37) (cs := kN_) (m := 3) hS32 k_zero_37 rfl rfl rfl) ?_
   rintro _ w_29 ⟨b9, rfl, hS33⟩
   refine s0 (Ys_store (i := 1) (s := 3) (B := aD b8) (T' := 37) (v := gM_ r_18 B8 c7) (vs := kM_ r_18 B8 c7) (k := 0) (cs' := kM_ r_18 B8 c7) hS33 k_sz_37_3 rfl rfl rfl rfl rfl rfl rfl (lB rfl) rfl rfl) ?_
   rintro _ w_30 ⟨rfl, hS34⟩
   refine s0 (Ys_store (i := 2) (s := 3) (B := aD b9) (T' := 37) (v := gM_ r_19 B9 c8) (vs := kM_ r_19 B9 c8) (k := 0) (cs' := kM_ r_19 B9 c8) hS34 k_sz_37_3 rfl rfl rfl rfl rfl rfl rfl (lB rfl) rfl rfl) ?_
   rintro _ w_31 ⟨rfl, hS35⟩
   refine rw_nil (cw_seq (cw_region ?_))
   refine sQ 126 (Y_loadA (B := aD b8) (i := 0) (cs := kM_ r_18 B8 c7) (vs := kM_ r_18 B8 c7) k_ag_37 k_sz_37_3 rfl rfl (hS35.cf (i := 1) rfl) rfl rfl) ?_
   refine sQ 127 (Y_loadA (B := aD b9) (i := 0) (cs := kM_ r_19 B9 c8) (vs := kM_ r_19 B9 c8) k_ag_37 k_sz_37_3 rfl rfl (hS35.cf (i := 2) rfl) rfl rfl) ?_
   obtain ⟨⟨r_20, r_21, r_22⟩, hc11, hF5⟩ := bind_inv hF5
   refine sc 128 rfl rfl (Yc_func (g := 28) (vs := [gM_ r_18 B8 c7, gM_ r_19 B9 c8]) k_call_28 rfl (mc rfl (mc rfl mn)) (c_impl_EqualUpToPhase r_18 r_19 B8 c7 r_18.Cells.length B9 c8 r_19.Cells.length _ rfl rfl (hS35.inn0 [(true, 0), (false, 0)] rfl) hc11)) ?_
   rintro _ w_32 ⟨rfl, hd9⟩
   have hS36 := hS35.out00 hd9
   have hS36 : ST w0 [] _ [⟨B9, 54, (r_19.Cells.flatMap eN0), c8 * 5⟩, ⟨aD b8, 37, kM_ r_18 B8 c7, 3⟩, ⟨aD b9, 37, kM_ r_19 B9 c8, 3⟩] [⟨B8, (r_18.Cells.flatMap eN0)⟩, ⟨B, (code.flatMap enc_u8)⟩, ⟨B1, (more.flatMap enc_u8)⟩] := hS36
   refine sQ 125 (Y_move (v := .tuple #[vi r_20, .bool r_21, .bool r_22]) rfl rfl) ?_
   refine sQ 129 (Y_extract (v := vi r_20) rfl rfl rfl) ?_
   refine sQ 130 (Y_extract (v := .bool r_21) rfl rfl rfl) ?_
   refine sQ 131 (Y_extract (v := .bool r_22) rfl rfl rfl) ?_
   refine sQ 24 (Y_assign (v := vi r_20) rfl rfl) ?_
   refine sQ 25 (Y_assign (v := .bool r_21) rfl rfl) ?_
   refine sQ 26 (Y_assign (v := .bool r_22) rfl rfl) (rw_nil (cw_seq (cw_seq (cw_region ?_))))
   refine sQ 132 (Y_move (v := .bool r_22) rfl rfl) ?_
   refine sQ 133 (Y_move (v := .bool r_22) rfl rfl) ?_
   refine sgq 134 (B := r_22) (v := .bool r_21) rfl rfl (uT_ 133) (fun hg15 => (Y_move (v := .bool r_21) rfl rfl)) ?_
   refine sQ 135 (Y_and (b := r_22) (z := r_21) rfl rfl rfl rfl) (rw_nil ?_)
   refine cw_cond (b := (r_22 && r_21)) rfl (fun hb6 => ?_) (fun hb6 => ?_)
   ·skip
    have hF13 := ct hF5 hb6
    refine cw_seq (cw_region ?_)
    refine sQ 137 (Y_buildS (zs := [vi 0, vi 0, vi 0, vi 0]) (vs := [(0, vi 1)]) (cs := [vi 1, vi 0, vi 0, vi 0]) k_pl_52 k_zero_52 rfl (mpc rfl mpn) rfl) ?_
    refine sQ 138 (Y_move (v := vi r_20) rfl rfl) ?_
    obtain ⟨⟨r_23, r_24⟩, hc12, hF13⟩ := bind_inv hF13
    refine sc 139 rfl rfl (Yc_func (g := 29) (vs := [.agg #[vi 1, vi 0, vi 0, vi 0], vi r_20]) k_call_29 rfl (mc rfl (mc rfl mn)) (c_spec_MulOmega (TRing.mk 1 0 0 0) r_20 _  (hS36.inn0 [] rfl) hc12)) ?_
    rintro _ w_33 ⟨rfl, hd10⟩
    have hS37 := hS36.out00 hd10
    refine sQ 136 (Y_move (v := .tuple #[gR_ r_23, .bool r_24]) rfl rfl) ?_
    refine sQ 140 (Y_extract (v := gR_ r_23) rfl rfl rfl) ?_
    refine sQ 141 (Y_extract (v := .bool r_24) rfl rfl rfl) ?_
    refine sS 27 (Ys_alloc (T := 52) (cs := [vi 0, vi 0, vi 0, vi 0]) (m := 4) hS37 k_zero_52 rfl rfl rfl) ?_
    rintro _ w_34 ⟨b10, rfl, hS38⟩
    refine s0 (Ys_store (i := 3) (s := 4) (B := aD b10) (T' := 52) (v := gR_ r_23) (vs := kR_ r_23) (k := 0) (cs' := kR_ r_23) hS38 k_sz_52_4 rfl rfl rfl rfl rfl rfl rfl (lB rfl) rfl rfl) ?_
    rintro _ w_35 ⟨rfl, hS39⟩
    refine sQ 28 (Y_assign (v := .bool r_24) rfl rfl) (rw_nil (cw_seq (cw_region ?_)))
    refine sQ 143 (Y_loadA (B := aD b9) (i := 0) (cs := kM_ r_19 B9 c8) (vs := kM_ r_19 B9 c8) k_ag_37 k_sz_37_3 rfl rfl (hS39.cf (i := 2) rfl) rfl rfl) ?_
    refine sQ 144 (Y_loadA (B := aD b10) (i := 0) (cs := kR_ r_23) (vs := kR_ r_23) k_ag_52 k_sz_52_4 rfl rfl (hS39.cf (i := 3) rfl) rfl rfl) ?_
    refine sQ 145 (Y_buildS (zs := kZ_) (vs := [(0, gR_ r_23)]) (cs := [vi r_23.A, vi r_23.B, vi r_23.C, vi r_23.D, vi 0]) k_pl_54 k_zero_54 rfl (mpc rfl mpn) rfl) ?_
    obtain ⟨⟨r_25, r_26⟩, hc13, hF13⟩ := bind_inv hF13
    refine sc 146 rfl rfl (Yc_func (g := 30) (vs := [gM_ r_19 B9 c8, .agg #[vi r_23.A, vi r_23.B, vi r_23.C, vi r_23.D, vi 0]]) k_call_30 rfl (mc rfl (mc rfl mn)) (c_spec_ScaleMatrix r_19 (TDyadic.mk r_23 0) B9 c8 r_19.Cells.length _ rfl (hS39.inn0 [(false, 0)] rfl) hc13)) ?_
    rintro _ w_36 ⟨B10, c9, rfl, hd11⟩
    have hS40 := hS39.out0 hd11
    refine sQ 142 (Y_move (v := .tuple #[gM_ r_25 B10 c9, .bool r_26]) rfl rfl) ?_
    refine sQ 147 (Y_extract (v := gM_ r_25 B10 c9) rfl rfl rfl) ?_
    refine sQ 148 (Y_extract (v := .bool r_26) rfl rfl rfl) ?_
    refine sS 29 (Ys_alloc (T := 37) (cs := kN_) (m := 3) hS40 k_zero_37 rfl rfl rfl) ?_
    rintro _ w_37 ⟨b11, rfl, hS41⟩
    refine s0 (Ys_store (i := 5) (s := 3) (B := aD b11) (T' := 37) (v := gM_ r_25 B10 c9) (vs := kM_ r_25 B10 c9) (k := 0) (cs' := kM_ r_25 B10 c9) hS41 k_sz_37_3 rfl rfl rfl rfl rfl rfl rfl (lB rfl) rfl rfl) ?_
    rintro _ w_38 ⟨rfl, hS42⟩
    refine sQ 30 (Y_assign (v := .bool r_26) rfl rfl) (rw_nil (cw_seq (cw_region ?_)))
    refine sQ 149 (Y_move (v := vi r_20) rfl rfl) ?_
    refine sQ 150 (Y_ge (k := .i64) (a := r_20) (b := 0) rfl rfl rfl) ?_
    refine sQ 151 (Y_move (v := .bool (decide (0 ≤ r_20))) rfl rfl) ?_
    refine sgq 152 (B := (decide (0 ≤ r_20))) (v := vi r_20) rfl rfl (uT_ 151) (fun hg16 => (Y_move (v := vi r_20) rfl rfl)) ?_
    refine sgq 153 (B := (decide (0 ≤ r_20))) (v := .bool (decide (r_20 < 8))) rfl rfl (uT_ 151) (fun hg17 => (Y_lt (k := .i64) (a := r_20) (b := 8) rfl (gv_of (v := vi r_20) hg17) rfl)) ?_
    refine sQ 154 (Y_and (b := (decide (0 ≤ r_20))) (z := (decide (r_20 < 8))) rfl rfl rfl rfl) ?_
    refine sQ 155 (Y_move (v := .bool ((decide (0 ≤ r_20)) && (decide (r_20 < 8)))) rfl rfl) ?_
    refine sgq 156 (B := ((decide (0 ≤ r_20)) && (decide (r_20 < 8)))) (v := .bool r_26) rfl rfl (uT_ 155) (fun hg18 => (Y_move (v := .bool r_26) rfl rfl)) ?_
    refine sQ 157 (Y_and (b := ((decide (0 ≤ r_20)) && (decide (r_20 < 8)))) (z := r_26) rfl rfl rfl rfl) ?_
    refine sQ 158 (Y_move (v := .bool (((decide (0 ≤ r_20)) && (decide (r_20 < 8))) && r_26)) rfl rfl) ?_
    refine sgq 159 (B := (((decide (0 ≤ r_20)) && (decide (r_20 < 8))) && r_26)) (v := .bool r_24) rfl rfl (uT_ 158) (fun hg19 => (Y_move (v := .bool r_24) rfl rfl)) ?_
    refine sQ 160 (Y_and (b := (((decide (0 ≤ r_20)) && (decide (r_20 < 8))) && r_26)) (z := r_24) rfl rfl rfl rfl) ?_
    refine sQ 161 (Y_move (v := .bool ((((decide (0 ≤ r_20)) && (decide (r_20 < 8))) && r_26) && r_24)) rfl rfl) ?_
    refine sgq 162 (B := ((((decide (0 ≤ r_20)) && (decide (r_20 < 8))) && r_26) && r_24)) (v := gM_ r_25 B10 c9) rfl rfl (uT_ 161) (fun hg20 => (Y_loadA (B := aD b11) (i := 0) (cs := kM_ r_25 B10 c9) (vs := kM_ r_25 B10 c9) k_ag_37 k_sz_37_3 rfl rfl (hS42.cf (i := 5) rfl) rfl rfl)) ?_
    refine sgq 163 (B := ((((decide (0 ≤ r_20)) && (decide (r_20 < 8))) && r_26) && r_24)) (v := gM_ r_18 B8 c7) rfl rfl (uT_ 161) (fun hg21 => (Y_loadA (B := aD b8) (i := 0) (cs := kM_ r_18 B8 c7) (vs := kM_ r_18 B8 c7) k_ag_37 k_sz_37_3 rfl rfl (hS42.cf (i := 1) rfl) rfl rfl)) ?_
    obtain ⟨r_27, hc14, hF13⟩ := bind_inv hF13
    refine sgc 164 (B := ((((decide (0 ≤ r_20)) && (decide (r_20 < 8))) && r_26) && r_24)) (v := .bool r_27) (F := hS42.fn) rfl rfl (uT_ 161) hS42 (fun hg22 => (Yc_func (g := 15) (vs := [gM_ r_25 B10 c9, gM_ r_18 B8 c7]) k_call_15 rfl (mc (gv_of (v := gM_ r_25 B10 c9) hg22) (mc (gv_of (v := gM_ r_18 B8 c7) hg22) mn)) (CV.mono (c_spec_EqualMatrices r_25 r_18 B10 c9 r_25.Cells.length B8 c7 r_18.Cells.length _ rfl rfl (hS42.inn0 [(false, 4), (true, 0)] rfl) (gb_inv hc14 hg22)) (by rintro _ _ ⟨rfl, h⟩; exact ⟨rfl, hS42.out00 h⟩)))) ?_
    rintro w_39 hS43
    refine sQ 165 (Y_and (b := ((((decide (0 ≤ r_20)) && (decide (r_20 < 8))) && r_26) && r_24)) (z := r_27) rfl rfl rfl rfl) ?_
    refine sQ 4 (Y_assign (v := .bool (((((decide (0 ≤ r_20)) && (decide (r_20 < 8))) && r_26) && r_24) && r_27)) rfl rfl) (rw_nil (cw_ret ?_))
    obtain rfl := some_inj hF13
    exact ret1 Tryz.results5 (v1 := .bool (((((decide (0 ≤ r_20)) && (decide (r_20 < 8))) && r_26) && r_24) && r_27)) (resAt_tmp rfl) ⟨rfl, (hS43.sN [])⟩
   ·skip
    have hF14 := cf' hF5 hb6
    refine cw_skip (cw_seq (cw_region ?_))
    refine sQ 167 (Y_loadA (B := aD b8) (i := 0) (cs := kM_ r_18 B8 c7) (vs := kM_ r_18 B8 c7) k_ag_37 k_sz_37_3 rfl rfl (hS36.cf (i := 1) rfl) rfl rfl) ?_
    refine sQ 168 (Y_loadA (B := aD b9) (i := 0) (cs := kM_ r_19 B9 c8) (vs := kM_ r_19 B9 c8) k_ag_37 k_sz_37_3 rfl rfl (hS36.cf (i := 2) rfl) rfl rfl) ?_
    obtain ⟨⟨r_28, r_29, r_30⟩, hc15, hF14⟩ := bind_inv hF14
    refine sc 169 rfl rfl (Yc_func (g := 31) (vs := [gM_ r_18 B8 c7, gM_ r_19 B9 c8]) k_call_31 rfl (mc rfl (mc rfl mn)) (c_spec_EqualUpToPhase r_18 r_19 B8 c7 r_18.Cells.length B9 c8 r_19.Cells.length _ rfl rfl (hS36.inn0 [(true, 0), (false, 0)] rfl) hc15)) ?_
    rintro _ w_40 ⟨rfl, hd12⟩
    have hS44 := hS36.out00 hd12
    refine sQ 166 (Y_move (v := .tuple #[vi r_28, .bool r_29, .bool r_30]) rfl rfl) ?_
    refine sQ 170 (Y_extract (v := vi r_28) rfl rfl rfl) ?_
    refine sQ 171 (Y_extract (v := .bool r_29) rfl rfl rfl) ?_
    refine sQ 172 (Y_extract (v := .bool r_30) rfl rfl rfl) ?_
    refine sQ 31 (Y_assign (v := vi r_28) rfl rfl) ?_
    refine sQ 32 (Y_assign (v := .bool r_29) rfl rfl) ?_
    refine sQ 33 (Y_assign (v := .bool r_30) rfl rfl) (rw_nil (cw_seq (cw_region ?_)))
    refine sQ 173 (Y_move (v := .bool r_22) rfl rfl) ?_
    refine sQ 174 (Y_move (v := .bool r_30) rfl rfl) ?_
    refine sQ 175 (Y_beq (p := r_22) (q := r_30) k_und_4 rfl rfl rfl) ?_
    refine sQ 176 (Y_move (v := .bool (r_22 == r_30)) rfl rfl) ?_
    refine sgq 177 (B := (r_22 == r_30)) (v := .bool r_21) rfl rfl (uT_ 176) (fun hg23 => (Y_move (v := .bool r_21) rfl rfl)) ?_
    refine sgq 178 (B := (r_22 == r_30)) (v := .bool r_29) rfl rfl (uT_ 176) (fun hg24 => (Y_move (v := .bool r_29) rfl rfl)) ?_
    refine sgq 179 (B := (r_22 == r_30)) (v := .bool (r_21 == r_29)) rfl rfl (uT_ 176) (fun hg25 => (Y_beq (p := r_21) (q := r_29) k_und_4 rfl (gv_of (v := .bool r_21) hg25) (gv_of (v := .bool r_29) hg25))) ?_
    refine sQ 180 (Y_and (b := (r_22 == r_30)) (z := (r_21 == r_29)) rfl rfl rfl rfl) ?_
    refine sQ 181 (Y_move (v := .bool ((r_22 == r_30) && (r_21 == r_29))) rfl rfl) ?_
    refine sgq 182 (B := ((r_22 == r_30) && (r_21 == r_29))) (v := vi r_20) rfl rfl (uT_ 181) (fun hg26 => (Y_move (v := vi r_20) rfl rfl)) ?_
    refine sgq 183 (B := ((r_22 == r_30) && (r_21 == r_29))) (v := vi r_28) rfl rfl (uT_ 181) (fun hg27 => (Y_move (v := vi r_28) rfl rfl)) ?_
    refine sgq 184 (B := ((r_22 == r_30) && (r_21 == r_29))) (v := .bool (r_20 == r_28)) rfl rfl (uT_ 181) (fun hg28 => (Y_eq (k := .i64) (a := r_20) (b := r_28) rfl (gv_of (v := vi r_20) hg28) (gv_of (v := vi r_28) hg28))) ?_
    refine sQ 185 (Y_and (b := ((r_22 == r_30) && (r_21 == r_29))) (z := (r_20 == r_28)) rfl rfl rfl rfl) ?_
    refine sQ 4 (Y_assign (v := .bool (((r_22 == r_30) && (r_21 == r_29)) && (r_20 == r_28))) rfl rfl) (rw_nil (cw_ret ?_))
    obtain rfl := some_inj hF14
    exact ret1 Tryz.results5 (v1 := .bool (((r_22 == r_30) && (r_21 == r_29)) && (r_20 == r_28))) (resAt_tmp rfl) ⟨rfl, (hS44.sN [])⟩
end Go.VK
