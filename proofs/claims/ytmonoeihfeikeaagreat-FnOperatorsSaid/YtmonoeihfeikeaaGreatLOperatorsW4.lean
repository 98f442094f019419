/- Walks: each Go function returns what its Lean function says. By program. -/
import Derived.Test.YtmonoeihfeikeaaGreatLOperatorsFa
import Derived.Test.YtmonoeihfeikeaaGreatLOperatorsShelf
import Derived.Test.YtmonoeihfeikeaaGreatLibQ
import Derived.Test.YtmonoeihfeikeaaGreatLOperatorsW3
set_option linter.unusedVariables false
set_option maxRecDepth 100000
set_option maxHeartbeats 4000000
namespace Go.VK
open Go.RowKit
open Go.Proofs
open Go.IntKind
attribute [local irreducible] CW RW RA CV Y Yw Yc Ys RetOf
attribute [local irreducible] F_laws_big F_spec_l1Cur_next F_spec_l1Cur_pick F_spec_l1Cur_among F_spec_l1In F_spec_l1Cur_gate F_spec_l1Cur_built F_spec_l1Cur_circuit F_spec_l1Cur_anyCircuit F_spec_DrawIsValidCircuit F_spec_DrawOperatorOf F_impl_within F_slices_IndexFunc_impl_Gate_impl_Gate F_slices_ContainsFunc_impl_Gate_impl_Gate F_impl_isTwo F_impl_IsValidGate F_impl_IsValidCircuit_1 F_impl_IsValidCircuit F_impl_isDim F_impl_matrixOf F_impl_whole F_impl_IdentityMatrix_1 F_impl_IdentityMatrix F_impl_isCoef F_impl_IsValidRing F_impl_MulOmega F_impl_phase F_impl_bitOf F_impl_flipped F_impl_comesFrom F_impl_small F_impl_entry F_impl_GateMatrix_1 F_impl_GateMatrix F_slices_IndexFunc_impl_Dyadic_impl_Dyadic F_slices_ContainsFunc_impl_Dyadic_impl_Dyadic F_impl_isEven F_impl_IsValidDyadic F_impl_IsValidMatrix_1 F_impl_IsValidMatrix F_impl_Matrix_at F_impl_ringIf F_impl_MulRing F_impl_DivRootTwo F_impl_DyadicOf F_impl_MulDyadic F_impl_MulRootTwo F_impl_raised F_impl_combined F_impl_AddRing F_impl_AddDyadic F_impl_MulMatrix_1 F_impl_MulMatrix F_impl_applied F_impl_OperatorOf F_spec_l4Gate F_spec_l4Good F_spec_l2C_matrix F_spec_l1All F_spec_l1Good F_spec_l2C_ring F_spec_l1Root F_spec_l1Even F_spec_l1Half F_spec_l2Low F_spec_l1Add F_spec_l2C_add F_spec_l1Mul F_spec_l2C_mul F_spec_l2C_times F_spec_l1Turn F_spec_l2Power F_spec_l6Bit F_spec_l1Neg F_spec_l2Neg F_spec_l6One F_spec_l6Cell F_spec_l6Gate F_spec_l2C_run F_spec_l3Unit F_spec_OperatorOf F_spec_EqualMatrices F_spec_l1Has F_spec_l3Dim F_spec_l2Good F_spec_l3Good F_spec_l1Conj F_spec_l2Conj F_spec_l3Adj F_spec_IsUnitary F_impl_InverseGate F_impl_circuitIf F_impl_Inverse F_slices_Concat_impl_Gate_impl_Gate F_impl_Concat F_impl_ScaleMatrix_1 F_impl_ScaleMatrix F_slices_Equal_impl_Dyadic_impl_Dyadic F_impl_EqualMatrices F_impl_EqualUpToPhase F_impl_IsPhase F_spec_MulMatrix F_laws_FnOperators
theorem c_impl_EqualUpToPhase (a : TMatrix) (b : TMatrix) (B : Option Addr) (c n : Nat) (B1 : Option Addr) (c1 n1 : Nat) (w0 : World) (hn : a.Cells.length = n) (hn1 : b.Cells.length = n1) (hS : ST w0 [] w0 [] [⟨B, (a.Cells.flatMap eN0)⟩, ⟨B1, (b.Cells.flatMap eN0)⟩]) {r_ : Int} {r_1 : Bool} {r_2 : Bool} (hF : F_impl_EqualUpToPhase a b = some (r_, r_1, r_2)) :
  CV Tryz.prog 44 #[.agg #[vi a.Rows, vi a.Cols, .slice B n c], .agg #[vi b.Rows, vi b.Cols, .slice B1 n1 c1]] w0 (fun v w' => v = .tuple #[vi r_, .bool r_1, .bool r_2] ∧ ST w0 [] w' [] []) := by
 subst hn
 subst hn1
 unfold F_impl_EqualUpToPhase at hF
 refine cv_of_cw 36 Tryz.func44 rfl Tryz.ntmps44 rfl ?_
 refine cw_seq (cw_region ?_)
 refine sS 2 (Ys_box (T := 30) (v := gM_ a B c) (cs := kM_ a B c) (m := 3) hS rfl rfl rfl rfl) ?_
 rintro _ w_ ⟨b1, rfl, hS1⟩
 refine sS 3 (Ys_box (T := 30) (v := gM_ b B1 c1) (cs := kM_ b B1 c1) (m := 3) hS1 rfl rfl rfl rfl) ?_
 rintro _ w_1 ⟨b2, rfl, hS2⟩
 refine sQ 4 (Y_assign (v := vi 0) rfl rfl) ?_
 refine sQ 5 (Y_assign (v := .bool false) rfl rfl) ?_
 refine sQ 6 (Y_assign (v := .bool false) rfl rfl) (rw_nil (cw_seq (cw_seq (cw_region ?_))))
 refine sQ 10 (Y_loadA (B := aD b1) (i := 0) (cs := kM_ a B c) (vs := kM_ a B c) k_ag_30 k_sz_30_3 rfl rfl (hS2.cf (i := 0) rfl) rfl rfl) ?_
 obtain ⟨r_3, hc, hF⟩ := bind_inv hF
 refine sc 11 rfl rfl (Yc_func (g := 89) (vs := [gM_ a B c]) k_call_89 rfl (mc rfl mn) (c_impl_IsValidMatrix a B c a.Cells.length _ rfl (hS2.inn0 [(true, 0)] rfl) hc)) ?_
 rintro _ w_2 ⟨rfl, hd⟩
 have hS3 := hS2.out00 hd
 refine sQ 12 (Y_not (p := r_3) rfl rfl) ?_
 refine sQ 13 (Y_move (v := .bool (!r_3)) rfl rfl) ?_
 refine sgq 14 (B := (!(!r_3))) (v := gM_ b B1 c1) rfl rfl (uF_ 13) (fun hg => (Y_loadA (B := aD b2) (i := 0) (cs := kM_ b B1 c1) (vs := kM_ b B1 c1) k_ag_30 k_sz_30_3 rfl rfl (hS3.cf (i := 1) rfl) rfl rfl)) ?_
 obtain ⟨r_4, hc1, hF⟩ := bind_inv hF
 refine sgc 15 (B := (!(!r_3))) (v := .bool r_4) (F := hS3.fn) rfl rfl (uF_ 13) hS3 (fun hg1 => (Yc_func (g := 89) (vs := [gM_ b B1 c1]) k_call_89 rfl (mc (gv_of (v := gM_ b B1 c1) hg1) mn) (CV.mono (c_impl_IsValidMatrix b B1 c1 b.Cells.length _ rfl (hS3.inn0 [(true, 1)] rfl) (gb_inv hc1 hg1)) (by rintro _ _ ⟨rfl, h⟩; exact ⟨rfl, hS3.out00 h⟩)))) ?_
 rintro w_3 hS4
 refine sgq 16 (B := (!(!r_3))) (v := .bool (!r_4)) rfl rfl (uF_ 13) (fun hg2 => (Y_not (p := r_4) rfl (gv_of (v := .bool r_4) hg2))) ?_
 refine sQ 17 (Y_or (b := (!r_3)) (z := (!r_4)) rfl rfl rfl rfl) (rw_nil ?_)
 refine cw_cond (b := ((!r_3) || (!r_4))) rfl (fun hb => ?_) (fun hb => ?_)
 ·skip
  have hF1 := ct hF hb
  refine cw_seq (cw_region ?_)
  refine sQ 4 (Y_assign (v := vi 0) rfl rfl) ?_
  refine sQ 5 (Y_assign (v := .bool false) rfl rfl) ?_
  refine sQ 6 (Y_assign (v := .bool false) rfl rfl) (rw_nil (cw_ret ?_))
  obtain ⟨rfl, rfl, rfl⟩ := pr3 (some_inj hF1)
  exact ret3 Tryz.results44 (v1 := vi 0) (resAt_tmp rfl) (v2 := .bool false) (resAt_tmp rfl) (v3 := .bool false) (resAt_tmp rfl) ⟨rfl, (hS4.sN [])⟩
 ·skip
  have hF2 := cf' hF hb
  refine cw_skip (cw_seq (cw_seq (cw_region ?_)))
  refine sQ 18 (Y_move (v := vi 0) rfl rfl) (rw_nil ?_)
  obtain ⟨z, hz, hF3⟩ := bind_inv hF2
  refine cw_block ?_
  refine cw_loop (fun k f w => ∃ (i : Nat), FF f [(2, pt (aD b1) 0), (3, pt (aD b2) 0), (18, vi (i : Int))] ∧ ST w0 [] w [⟨aD b1, 30, kM_ a B c, 3⟩, ⟨aD b2, 30, kM_ b B1 c1, 3⟩] [⟨B, (a.Cells.flatMap eN0)⟩, ⟨B1, (b.Cells.flatMap eN0)⟩] ∧ i + k = 8 ∧ forX (F_impl_EqualUpToPhase_l1 b a) k i () = some z) 8 ⟨0, (FF.cons rfl (FF.cons rfl (FF.cons rfl FF.nil))), (hS4.sel [0, 1] rfl rfl), Nat.zero_add _, hz⟩ ?_
  rintro k_ f w ⟨i, hf, hS5, hik, hL⟩
  refine cw_seq (cw_region ?_)
  refine sQ 19 (Y_lt (k := .i64) (a := (i : Int)) (b := 8) rfl (hf.get 18 2 rfl) rfl) (rw_nil (cw_seq ?_))
  refine cw_cond (b := (decide ((i : Int) < 8))) rfl (fun hlt => ?_) (fun hlt => ?_)
  ·skip
   have hlt1 : i < 8 := by have h := of_decide_eq_true hlt; omega
   obtain ⟨k_1, rfl⟩ : ∃ k2, k_ = k2 + 1 := ⟨k_ - 1, by omega⟩
   obtain ⟨y, hb1, hL1⟩ := forX_go hL
   unfold F_impl_EqualUpToPhase_l1 at hb1
   refine cw_skip (cw_seq (cw_block (cw_seq (cw_region ?_))))
   refine sQ 20 (Y_move (v := vi (i : Int)) rfl (hf.get 18 2 rfl)) ?_
   refine sQ 7 (Y_assign (v := vi (i : Int)) rfl rfl) (rw_nil (cw_seq ?_))
   obtain ⟨r_5, hc2, hb1⟩ := bind_inv hb1
   obtain ⟨⟨r_6, r_7⟩, hc3, hb1⟩ := bind_inv hb1
   refine cw_mid (fun f w => ∃ (B3 : Option Addr) (B4 : Option Addr) (c3 : Nat), FF f [(2, pt (aD b1) 0), (3, pt (aD b2) 0), (7, vi (i : Int)), (8, pt B3 0), (9, .bool r_7), (18, vi (i : Int))] ∧ ST w0 [] w [⟨aD b1, 30, kM_ a B c, 3⟩, ⟨aD b2, 30, kM_ b B1 c1, 3⟩, ⟨B3, 30, kM_ r_6 B4 c3, 3⟩, ⟨B4, 63, (r_6.Cells.flatMap eN0), c3 * 5⟩] [⟨B, (a.Cells.flatMap eN0)⟩, ⟨B1, (b.Cells.flatMap eN0)⟩]) ?_ ?_
   ·skip
    refine ra_start (hS5.se [0, 1]).fn (by kernel_rfl) ?_
    have hS9 := hS5.drew
    refine rq 0 22 (v := gM_ b B1 c1) rfl (hS9.se [0, 1]) (fun w' hw' => (Y_loadA (B := aD b2) (i := 0) (cs := kM_ b B1 c1) (vs := kM_ b B1 c1) k_ag_30 k_sz_30_3 rfl (hf.get 3 1 rfl) (ST.cf hw' (i := 1) rfl) rfl rfl)) ?_
    refine rq 1 23 (v := vi (i : Int)) rfl (hS9.se [0, 1]) (fun w' hw' => (Y_move (v := vi (i : Int)) rfl rfl)) ?_
    refine rA [2, 7] ?_
    refine ra_c 24 (i := 2) rfl rfl rfl (Yc_func (g := 68) (vs := [vi (i : Int)]) k_call_68 rfl (mc rfl mn) (c_impl_phase (i : Int) _  (hS9.inn0 [] rfl) hc2)) ?_ ?_
    ·rintro _ w_4 ⟨rfl, hd1⟩
     have hS10 := hS9.out00 hd1
     refine ⟨(hS10.se [0, 1]), ?_⟩
     refine rA [3, 7] ?_
     refine ra_c 25 (i := 3) rfl rfl rfl (Yc_func (g := 90) (vs := [gM_ b B1 c1, gD_ r_5]) k_call_90 rfl (mc rfl (mc rfl mn)) (c_impl_ScaleMatrix b r_5 B1 c1 b.Cells.length _ rfl (hS10.inn0 [(true, 1)] rfl) hc3)) ?_ ?_
     ·rintro _ w_5 ⟨B2, c2, rfl, hd2⟩
      have hS11 := hS10.out0 hd2
      refine ⟨(hS11.se [0, 1]), ?_⟩
      refine rq 4 21 (v := .tuple #[gM_ r_6 B2 c2, .bool r_7]) rfl (hS11.se [0, 1]) (fun w' hw' => (Y_move (v := .tuple #[gM_ r_6 B2 c2, .bool r_7]) rfl rfl)) ?_
      refine rq 5 26 (v := gM_ r_6 B2 c2) rfl (hS11.se [0, 1]) (fun w' hw' => (Y_extract (v := gM_ r_6 B2 c2) rfl rfl rfl)) ?_
      refine rq 6 27 (v := .bool r_7) rfl (hS11.se [0, 1]) (fun w' hw' => (Y_extract (v := .bool r_7) rfl rfl rfl)) ?_
      refine rA [7] ?_
      refine ra_s 8 (i := 7) rfl rfl rfl (Ys_alloc (T := 30) (cs := kN_) (m := 3) hS11 k_zero_30 rfl rfl rfl) ?_ ?_
      ·rintro _ w_6 ⟨b3, rfl, hS12⟩
       refine ⟨(hS12.se [0, 1]), ?_⟩
       refine rA [8] ?_
       refine ra_s0 (i := 8) rfl rfl rfl (Ys_store (i := 3) (s := 3) (B := aD b3) (T' := 30) (v := gM_ r_6 B2 c2) (vs := kM_ r_6 B2 c2) (k := 0) (cs' := kM_ r_6 B2 c2) hS12 k_sz_30_3 rfl rfl rfl rfl rfl rfl rfl (lB rfl) rfl rfl) ?_ ?_
       ·rintro _ w_7 ⟨rfl, hS13⟩
        refine ⟨(hS13.se [0, 1]), ?_⟩
        refine rq 9 9 (v := .bool r_7) rfl (hS13.se [0, 1]) (fun w' hw' => (Y_assign (v := .bool r_7) rfl rfl)) ?_
        refine ra_done (by kernel_rfl) ?_
        exact ⟨aD b3, B2, c2, (FF.cons (hf.get 2 0 rfl) (FF.cons (hf.get 3 1 rfl) (FF.cons rfl (FF.cons rfl (FF.cons rfl (FF.cons (hf.get 18 2 rfl) FF.nil)))))), (hS13.sel [0, 1, 3, 2] rfl rfl)⟩
       exact allR_nil
      exact allR_nil
     refine ra_s 8 (i := 7) rfl rfl rfl (Ys_alloc (T := 30) (cs := kN_) (m := 3) hS10 k_zero_30 rfl rfl rfl) ?_ ?_
     ·rintro _ w_8 ⟨b3, rfl, hS14⟩
      refine ⟨(hS14.se [0, 1]), ?_⟩
      refine rA [3] ?_
      refine ra_c 25 (i := 3) rfl rfl rfl (Yc_func (g := 90) (vs := [gM_ b B1 c1, gD_ r_5]) k_call_90 rfl (mc rfl (mc rfl mn)) (c_impl_ScaleMatrix b r_5 B1 c1 b.Cells.length _ rfl (hS14.inn0 [(true, 1)] rfl) hc3)) ?_ ?_
      ·rintro _ w_9 ⟨B2, c2, rfl, hd3⟩
       have hS15 := hS14.out0 hd3
       refine ⟨(hS15.se [0, 1]), ?_⟩
       refine rq 4 21 (v := .tuple #[gM_ r_6 B2 c2, .bool r_7]) rfl (hS15.se [0, 1]) (fun w' hw' => (Y_move (v := .tuple #[gM_ r_6 B2 c2, .bool r_7]) rfl rfl)) ?_
       refine rq 5 26 (v := gM_ r_6 B2 c2) rfl (hS15.se [0, 1]) (fun w' hw' => (Y_extract (v := gM_ r_6 B2 c2) rfl rfl rfl)) ?_
       refine rq 6 27 (v := .bool r_7) rfl (hS15.se [0, 1]) (fun w' hw' => (Y_extract (v := .bool r_7) rfl rfl rfl)) ?_
       refine rA [8] ?_
       refine ra_s0 (i := 8) rfl rfl rfl (Ys_store (i := 2) (s := 3) (B := aD b3) (T' := 30) (v := gM_ r_6 B2 c2) (vs := kM_ r_6 B2 c2) (k := 0) (cs' := kM_ r_6 B2 c2) hS15 k_sz_30_3 rfl rfl rfl rfl rfl rfl rfl (lB rfl) rfl rfl) ?_ ?_
       ·rintro _ w_10 ⟨rfl, hS16⟩
        refine ⟨(hS16.se [0, 1]), ?_⟩
        refine rq 9 9 (v := .bool r_7) rfl (hS16.se [0, 1]) (fun w' hw' => (Y_assign (v := .bool r_7) rfl rfl)) ?_
        refine ra_done (by kernel_rfl) ?_
        exact ⟨aD b3, B2, c2, (FF.cons (hf.get 2 0 rfl) (FF.cons (hf.get 3 1 rfl) (FF.cons rfl (FF.cons rfl (FF.cons rfl (FF.cons (hf.get 18 2 rfl) FF.nil)))))), (hS16.sel [0, 1, 2, 3] rfl rfl)⟩
       exact allR_nil
      exact allR_nil
     exact allR_nil
    refine ra_s 8 (i := 7) rfl rfl rfl (Ys_alloc (T := 30) (cs := kN_) (m := 3) hS9 k_zero_30 rfl rfl rfl) ?_ ?_
    ·rintro _ w_11 ⟨b3, rfl, hS17⟩
     refine ⟨(hS17.se [0, 1]), ?_⟩
     refine rA [2] ?_
     refine ra_c 24 (i := 2) rfl rfl rfl (Yc_func (g := 68) (vs := [vi (i : Int)]) k_call_68 rfl (mc rfl mn) (c_impl_phase (i : Int) _  (hS17.inn0 [] rfl) hc2)) ?_ ?_
     ·rintro _ w_12 ⟨rfl, hd4⟩
      have hS18 := hS17.out00 hd4
      refine ⟨(hS18.se [0, 1]), ?_⟩
      refine rA [3] ?_
      refine ra_c 25 (i := 3) rfl rfl rfl (Yc_func (g := 90) (vs := [gM_ b B1 c1, gD_ r_5]) k_call_90 rfl (mc rfl (mc rfl mn)) (c_impl_ScaleMatrix b r_5 B1 c1 b.Cells.length _ rfl (hS18.inn0 [(true, 1)] rfl) hc3)) ?_ ?_
      ·rintro _ w_13 ⟨B2, c2, rfl, hd5⟩
       have hS19 := hS18.out0 hd5
       refine ⟨(hS19.se [0, 1]), ?_⟩
       refine rq 4 21 (v := .tuple #[gM_ r_6 B2 c2, .bool r_7]) rfl (hS19.se [0, 1]) (fun w' hw' => (Y_move (v := .tuple #[gM_ r_6 B2 c2, .bool r_7]) rfl rfl)) ?_
       refine rq 5 26 (v := gM_ r_6 B2 c2) rfl (hS19.se [0, 1]) (fun w' hw' => (Y_extract (v := gM_ r_6 B2 c2) rfl rfl rfl)) ?_
       refine rq 6 27 (v := .bool r_7) rfl (hS19.se [0, 1]) (fun w' hw' => (Y_extract (v := .bool r_7) rfl rfl rfl)) ?_
       refine rA [8] ?_
       refine ra_s0 (i := 8) rfl rfl rfl (Ys_store (i := 2) (s := 3) (B := aD b3) (T' := 30) (v := gM_ r_6 B2 c2) (vs := kM_ r_6 B2 c2) (k := 0) (cs' := kM_ r_6 B2 c2) hS19 k_sz_30_3 rfl rfl rfl rfl rfl rfl rfl (lB rfl) rfl rfl) ?_ ?_
       ·rintro _ w_14 ⟨rfl, hS20⟩
        refine ⟨(hS20.se [0, 1]), ?_⟩
        refine rq 9 9 (v := .bool r_7) rfl (hS20.se [0, 1]) (fun w' hw' => (Y_assign (v := .bool r_7) rfl rfl)) ?_
        refine ra_done (by kernel_rfl) ?_
        exact ⟨aD b3, B2, c2, (FF.cons (hf.get 2 0 rfl) (FF.cons (hf.get 3 1 rfl) (FF.cons rfl (FF.cons rfl (FF.cons rfl (FF.cons (hf.get 18 2 rfl) FF.nil)))))), (hS20.sel [0, 1, 2, 3] rfl rfl)⟩
       exact allR_nil
      exact allR_nil
     exact allR_nil
    exact allR_nil
   rintro f w ⟨B3, B4, c3, hf1, hS8⟩
   refine cw_seq (cw_region ?_)
   refine sQ 28 (Y_move (v := .bool r_7) rfl (hf1.get 9 4 rfl)) ?_
   refine sQ 29 (Y_move (v := .bool r_7) rfl rfl) ?_
   refine sgq 30 (B := r_7) (v := gM_ a B c) rfl rfl (uT_ 29) (fun hg3 => (Y_loadA (B := aD b1) (i := 0) (cs := kM_ a B c) (vs := kM_ a B c) k_ag_30 k_sz_30_3 rfl (hf1.get 2 0 rfl) (hS8.cf (i := 0) rfl) rfl rfl)) ?_
   refine sgq 31 (B := r_7) (v := gM_ r_6 B4 c3) rfl rfl (uT_ 29) (fun hg4 => (Y_loadA (B := B3) (i := 0) (cs := kM_ r_6 B4 c3) (vs := kM_ r_6 B4 c3) k_ag_30 k_sz_30_3 rfl (hf1.get 8 3 rfl) (hS8.cf (i := 2) rfl) rfl rfl)) ?_
   obtain ⟨r_8, hc4, hb1⟩ := bind_inv hb1
   refine sgc 32 (B := r_7) (v := .bool r_8) (F := hS8.fn) rfl rfl (uT_ 29) hS8 (fun hg5 => (Yc_func (g := 91) (vs := [gM_ a B c, gM_ r_6 B4 c3]) k_call_91 rfl (mc (gv_of (v := gM_ a B c) hg5) (mc (gv_of (v := gM_ r_6 B4 c3) hg5) mn)) (CV.mono (c_impl_EqualMatrices a r_6 B c a.Cells.length B4 c3 r_6.Cells.length _ rfl rfl (hS8.inn0 [(true, 0), (false, 3)] rfl) (gb_inv hc4 hg5)) (by rintro _ _ ⟨rfl, h⟩; exact ⟨rfl, hS8.out00 h⟩)))) ?_
   rintro w_15 hS21
   refine sQ 33 (Y_and (b := r_7) (z := r_8) rfl rfl rfl rfl) (rw_nil ?_)
   refine cw_cond (b := (r_7 && r_8)) rfl (fun hb2 => ?_) (fun hb2 => ?_)
   ·skip
    have hF4 := ct hb1 hb2
    refine cw_seq (cw_region ?_)
    refine sQ 34 (Y_move (v := vi (i : Int)) rfl (hf1.get 7 2 rfl)) ?_
    refine sQ 4 (Y_assign (v := vi (i : Int)) rfl rfl) ?_
    refine sQ 5 (Y_assign (v := .bool true) rfl rfl) ?_
    refine sQ 6 (Y_assign (v := .bool true) rfl rfl) (rw_nil (cw_ret ?_))
    obtain rfl := some_inj hF4
    obtain rfl := some_inj hL1
    obtain ⟨rfl, rfl, rfl⟩ := pr3 (some_inj hF3)
    exact ret3 Tryz.results44 (v1 := vi (i : Int)) (resAt_tmp rfl) (v2 := .bool true) (resAt_tmp rfl) (v3 := .bool true) (resAt_tmp rfl) ⟨rfl, (hS21.sN [])⟩
   ·skip
    have hF5 := cf' hb1 hb2
    refine cw_skip (cw_region ?_)
    refine sQ 35 (Y_add (k := .i64) (a := (i : Int)) (b := 1) rfl (hf1.get 18 5 rfl) rfl) ?_
    refine sQ 18 (Y_move (v := vi (i64.wrap ((i : Int) + 1))) rfl rfl) (rw_nil ?_)
    obtain rfl := some_inj hF5
    exact ⟨k_1, Nat.lt_succ_self _, i + 1, (FF.cons (hf1.get 2 0 rfl) (FF.cons (hf1.get 3 1 rfl) (FF.cons (congrArg (Value.int .i64) (wr_succ hlt1 (show 8 ≤ 9223372036854775807 by decide))) FF.nil))), (hS21.sel [0, 1] rfl rfl), (by omega), hL1⟩
  ·skip
   obtain rfl : k_ = 0 := by have h := of_decide_eq_false hlt; omega
   refine cw_exit rfl ?_
   obtain rfl := some_inj hL
   refine cw_seq (cw_region ?_)
   refine sQ 4 (Y_assign (v := vi 0) rfl rfl) ?_
   refine sQ 5 (Y_assign (v := .bool false) rfl rfl) ?_
   refine sQ 6 (Y_assign (v := .bool true) rfl rfl) (rw_nil (cw_ret ?_))
   obtain ⟨rfl, rfl, rfl⟩ := pr3 (some_inj hF3)
   exact ret3 Tryz.results44 (v1 := vi 0) (resAt_tmp rfl) (v2 := .bool false) (resAt_tmp rfl) (v3 := .bool true) (resAt_tmp rfl) ⟨rfl, (hS5.sN [])⟩

theorem c_impl_IsPhase (c : TCircuit) (B : Option Addr) (c1 n : Nat) (w0 : World) (hn : c.Gates.length = n) (hS : ST w0 [] w0 [] [⟨B, (c.Gates.flatMap eN1)⟩]) {r_ : Int} {r_1 : Bool} {r_2 : Bool} (hF : F_impl_IsPhase c = some (r_, r_1, r_2)) :
  CV Tryz.prog 14 #[.agg #[vi c.Qubits, .slice B n c1]] w0 (fun v w' => v = .tuple #[vi r_, .bool r_1, .bool r_2] ∧ ST w0 [] w' [] []) := by
 subst hn
 unfold F_impl_IsPhase at hF
 refine cv_of_cw 28 Tryz.func14 rfl Tryz.ntmps14 rfl ?_
 refine cw_seq (cw_region ?_)
 refine sS 1 (Ys_box (T := 26) (v := .agg #[vi c.Qubits, .slice B c.Gates.length c1]) (cs := [vi c.Qubits, .slice B c.Gates.length c1]) (m := 2) hS rfl rfl rfl rfl) ?_
 rintro _ w_ ⟨b, rfl, hS1⟩
 refine sQ 2 (Y_assign (v := vi 0) rfl rfl) ?_
 refine sQ 3 (Y_assign (v := .bool false) rfl rfl) ?_
 refine sQ 4 (Y_assign (v := .bool false) rfl rfl) (rw_nil (cw_seq (cw_region ?_)))
 refine sQ 10 (Y_loadA (B := aD b) (i := 0) (cs := [vi c.Qubits, .slice B c.Gates.length c1]) (vs := [vi c.Qubits, .slice B c.Gates.length c1]) k_ag_26 k_sz_26_2 rfl rfl (hS1.cf (i := 0) rfl) rfl rfl) ?_
 obtain ⟨⟨r_3, r_4⟩, hc, hF⟩ := bind_inv hF
 refine sc 11 rfl rfl (Yc_func (g := 8) (vs := [.agg #[vi c.Qubits, .slice B c.Gates.length c1]]) k_call_8 rfl (mc rfl mn) (c_impl_OperatorOf c B c1 c.Gates.length _ rfl (hS1.inn0 [(true, 0)] rfl) hc)) ?_
 rintro _ w_1 ⟨B1, c2, rfl, hd⟩
 have hS2 := hS1.out0 hd
 refine sQ 9 (Y_move (v := .tuple #[gM_ r_3 B1 c2, .bool r_4]) rfl rfl) ?_
 refine sQ 12 (Y_extract (v := gM_ r_3 B1 c2) rfl rfl rfl) ?_
 refine sQ 13 (Y_extract (v := .bool r_4) rfl rfl rfl) ?_
 refine sS 5 (Ys_alloc (T := 30) (cs := kN_) (m := 3) hS2 k_zero_30 rfl rfl rfl) ?_
 rintro _ w_2 ⟨b1, rfl, hS3⟩
 refine s0 (Ys_store (i := 2) (s := 3) (B := aD b1) (T' := 30) (v := gM_ r_3 B1 c2) (vs := kM_ r_3 B1 c2) (k := 0) (cs' := kM_ r_3 B1 c2) hS3 k_sz_30_3 rfl rfl rfl rfl rfl rfl rfl (lB rfl) rfl rfl) ?_
 rintro _ w_3 ⟨rfl, hS4⟩
 refine sQ 6 (Y_assign (v := .bool r_4) rfl rfl) (rw_nil (cw_seq (cw_seq (cw_region ?_))))
 refine sQ 14 (Y_move (v := .bool r_4) rfl rfl) ?_
 refine sQ 15 (Y_not (p := r_4) rfl rfl) (rw_nil ?_)
 refine cw_cond (b := (!r_4)) rfl (fun hb => ?_) (fun hb => ?_)
 ·skip
  have hF1 := ct hF hb
  refine cw_seq (cw_region ?_)
  refine sQ 2 (Y_assign (v := vi 0) rfl rfl) ?_
  refine sQ 3 (Y_assign (v := .bool false) rfl rfl) ?_
  refine sQ 4 (Y_assign (v := .bool false) rfl rfl) (rw_nil (cw_ret ?_))
  obtain ⟨rfl, rfl, rfl⟩ := pr3 (some_inj hF1)
  exact ret3 Tryz.results14 (v1 := vi 0) (resAt_tmp rfl) (v2 := .bool false) (resAt_tmp rfl) (v3 := .bool false) (resAt_tmp rfl) ⟨rfl, (hS4.sN [])⟩
 ·skip
  have hF2 := cf' hF hb
  refine cw_skip (cw_seq (cw_region ?_))
  refine sQ 17 (Y_fieldAddr (B := aD b1) (i := 0) (s := 0) k_fd_30_0_0_3 k_sz_3_1 rfl rfl) ?_
  refine sQ 18 (Y_load1 (B := aD b1) (i := 0) (cs := kM_ r_3 B1 c2) (v := vi r_3.Rows) k_sc_3 rfl rfl (hS4.cf (i := 2) rfl) rfl) ?_
  obtain ⟨⟨r_5, r_6⟩, hc1, hF2⟩ := bind_inv hF2
  refine sc 19 rfl rfl (Yc_func (g := 32) (vs := [vi r_3.Rows]) k_call_32 rfl (mc rfl mn) (c_impl_IdentityMatrix r_3.Rows _  (hS4.inn0 [] rfl) hc1)) ?_
  rintro _ w_4 ⟨B2, c3, rfl, hd1⟩
  have hS5 := hS4.out0 hd1
  refine sQ 16 (Y_move (v := .tuple #[gM_ r_5 B2 c3, .bool r_6]) rfl rfl) ?_
  refine sQ 20 (Y_extract (v := gM_ r_5 B2 c3) rfl rfl rfl) ?_
  refine sQ 21 (Y_extract (v := .bool r_6) rfl rfl rfl) ?_
  refine sS 7 (Ys_alloc (T := 30) (cs := kN_) (m := 3) hS5 k_zero_30 rfl rfl rfl) ?_
  rintro _ w_5 ⟨b2, rfl, hS6⟩
  refine s0 (Ys_store (i := 4) (s := 3) (B := aD b2) (T' := 30) (v := gM_ r_5 B2 c3) (vs := kM_ r_5 B2 c3) (k := 0) (cs' := kM_ r_5 B2 c3) hS6 k_sz_30_3 rfl rfl rfl rfl rfl rfl rfl (lB rfl) rfl rfl) ?_
  rintro _ w_6 ⟨rfl, hS7⟩
  refine sQ 8 (Y_assign (v := .bool r_6) rfl rfl) (rw_nil (cw_seq (cw_region ?_)))
  refine sQ 22 (Y_loadA (B := aD b1) (i := 0) (cs := kM_ r_3 B1 c2) (vs := kM_ r_3 B1 c2) k_ag_30 k_sz_30_3 rfl rfl (hS7.cf (i := 2) rfl) rfl rfl) ?_
  refine sQ 23 (Y_loadA (B := aD b2) (i := 0) (cs := kM_ r_5 B2 c3) (vs := kM_ r_5 B2 c3) k_ag_30 k_sz_30_3 rfl rfl (hS7.cf (i := 4) rfl) rfl rfl) ?_
  obtain ⟨⟨r_7, r_8, r_9⟩, hc2, hF2⟩ := bind_inv hF2
  refine sc 24 rfl rfl (Yc_func (g := 44) (vs := [gM_ r_3 B1 c2, gM_ r_5 B2 c3]) k_call_44 rfl (mc rfl (mc rfl mn)) (c_impl_EqualUpToPhase r_3 r_5 B1 c2 r_3.Cells.length B2 c3 r_5.Cells.length _ rfl rfl (hS7.inn0 [(false, 1), (false, 3)] rfl) hc2)) ?_
  rintro _ w_7 ⟨rfl, hd2⟩
  have hS8 := hS7.out00 hd2
  refine sQ 25 (Y_extract (v := vi r_7) rfl rfl rfl) ?_
  refine sQ 26 (Y_extract (v := .bool r_8) rfl rfl rfl) ?_
  refine sQ 27 (Y_extract (v := .bool r_9) rfl rfl rfl) ?_
  refine sQ 2 (Y_assign (v := vi r_7) rfl rfl) ?_
  refine sQ 3 (Y_assign (v := .bool r_8) rfl rfl) ?_
  refine sQ 4 (Y_assign (v := .bool r_9) rfl rfl) (rw_nil (cw_ret ?_))
  obtain ⟨rfl, rfl, rfl⟩ := pr3 (some_inj hF2)
  exact ret3 Tryz.results14 (v1 := vi r_7) (resAt_tmp rfl) (v2 := .bool r_8) (resAt_tmp rfl) (v3 := .bool r_9) (resAt_tmp rfl) ⟨rfl, (hS8.sN [])⟩

theorem c_spec_MulMatrix (a : TMatrix) (b : TMatrix) (B : Option Addr) (c n : Nat) (B1 : Option Addr) (c1 n1 : Nat) (w0 : World) (hn : a.Cells.length = n) (hn1 : b.Cells.length = n1) (hS : ST w0 [] w0 [] [⟨B, (a.Cells.flatMap eN0)⟩, ⟨B1, (b.Cells.flatMap eN0)⟩]) {r_ : TMatrix} {r_1 : Bool} (hF : F_spec_MulMatrix a b = some (r_, r_1)) :
  CV Tryz.prog 15 #[.agg #[vi a.Rows, vi a.Cols, .slice B n c], .agg #[vi b.Rows, vi b.Cols, .slice B1 n1 c1]] w0 (fun v w' => ∃ (B2 : Option Addr) (c2 : Nat), v = .tuple #[gM_ r_ B2 c2, .bool r_1] ∧ ST w0 [] w' [⟨B2, 63, (r_.Cells.flatMap eN0), c2 * 5⟩] []) := by
 subst hn
 subst hn1
 unfold F_spec_MulMatrix at hF
 refine cv_of_cw 33 Tryz.func15 rfl Tryz.ntmps15 rfl ?_
 refine cw_seq (cw_region ?_)
 refine sS 2 (Ys_box (T := 30) (v := gM_ a B c) (cs := kM_ a B c) (m := 3) hS rfl rfl rfl rfl) ?_
 rintro _ w_ ⟨b1, rfl, hS1⟩
 refine sS 3 (Ys_box (T := 30) (v := gM_ b B1 c1) (cs := kM_ b B1 c1) (m := 3) hS1 rfl rfl rfl rfl) ?_
 rintro _ w_1 ⟨b2, rfl, hS2⟩
 refine sS 4 (Ys_alloc (T := 30) (cs := kN_) (m := 3) hS2 k_zero_30 rfl rfl rfl) ?_
 rintro _ w_2 ⟨b3, rfl, hS3⟩
 refine sQ 5 (Y_assign (v := .bool false) rfl rfl) (rw_nil (cw_seq (cw_seq (cw_region ?_))))
 refine sQ 7 (Y_loadA (B := aD b1) (i := 0) (cs := kM_ a B c) (vs := kM_ a B c) k_ag_30 k_sz_30_3 rfl rfl (hS3.cf (i := 0) rfl) rfl rfl) ?_
 obtain ⟨r_2, hc, hF⟩ := bind_inv hF
 refine sc 8 rfl rfl (Yc_func (g := 38) (vs := [gM_ a B c]) k_call_38 rfl (mc rfl mn) (c_spec_l3Good a B c a.Cells.length _ rfl (hS3.inn0 [(true, 0)] rfl) hc)) ?_
 rintro _ w_3 ⟨rfl, hd⟩
 have hS4 := hS3.out00 hd
 refine sQ 9 (Y_not (p := r_2) rfl rfl) ?_
 refine sQ 10 (Y_move (v := .bool (!r_2)) rfl rfl) ?_
 refine sgq 11 (B := (!(!r_2))) (v := gM_ b B1 c1) rfl rfl (uF_ 10) (fun hg => (Y_loadA (B := aD b2) (i := 0) (cs := kM_ b B1 c1) (vs := kM_ b B1 c1) k_ag_30 k_sz_30_3 rfl rfl (hS4.cf (i := 1) rfl) rfl rfl)) ?_
 obtain ⟨r_3, hc1, hF⟩ := bind_inv hF
 refine sgc 12 (B := (!(!r_2))) (v := .bool r_3) (F := hS4.fn) rfl rfl (uF_ 10) hS4 (fun hg1 => (Yc_func (g := 38) (vs := [gM_ b B1 c1]) k_call_38 rfl (mc (gv_of (v := gM_ b B1 c1) hg1) mn) (CV.mono (c_spec_l3Good b B1 c1 b.Cells.length _ rfl (hS4.inn0 [(true, 1)] rfl) (gb_inv hc1 hg1)) (by rintro _ _ ⟨rfl, h⟩; exact ⟨rfl, hS4.out00 h⟩)))) ?_
 rintro w_4 hS5
 refine sgq 13 (B := (!(!r_2))) (v := .bool (!r_3)) rfl rfl (uF_ 10) (fun hg2 => (Y_not (p := r_3) rfl (gv_of (v := .bool r_3) hg2))) ?_
 refine sQ 14 (Y_or (b := (!r_2)) (z := (!r_3)) rfl rfl rfl rfl) ?_
 refine sQ 15 (Y_move (v := .bool ((!r_2) || (!r_3))) rfl rfl) ?_
 refine sgq 16 (B := (!((!r_2) || (!r_3)))) (v := pt (aD b1) 1) rfl rfl (uF_ 15) (fun hg3 => (Y_fieldAddr (B := aD b1) (i := 0) (s := 0) k_fd_30_1_1_3 k_sz_3_1 rfl rfl)) ?_
 refine sgq 17 (B := (!((!r_2) || (!r_3)))) (v := vi a.Cols) rfl rfl (uF_ 15) (fun hg4 => (Y_load1 (B := aD b1) (i := 1) (cs := kM_ a B c) (v := vi a.Cols) k_sc_3 rfl (gv_of (v := pt (aD b1) 1) hg4) (hS5.cf (i := 0) rfl) rfl)) ?_
 refine sgq 18 (B := (!((!r_2) || (!r_3)))) (v := pt (aD b2) 0) rfl rfl (uF_ 15) (fun hg5 => (Y_fieldAddr (B := aD b2) (i := 0) (s := 0) k_fd_30_0_0_3 k_sz_3_1 rfl rfl)) ?_
 refine sgq 19 (B := (!((!r_2) || (!r_3)))) (v := vi b.Rows) rfl rfl (uF_ 15) (fun hg6 => (Y_load1 (B := aD b2) (i := 0) (cs := kM_ b B1 c1) (v := vi b.Rows) k_sc_3 rfl (gv_of (v := pt (aD b2) 0) hg6) (hS5.cf (i := 1) rfl) rfl)) ?_
 refine sgq 20 (B := (!((!r_2) || (!r_3)))) (v := .bool (a.Cols != b.Rows)) rfl rfl (uF_ 15) (fun hg7 => (Y_ne (k := .i64) (a := a.Cols) (b := b.Rows) rfl (gv_of (v := vi a.Cols) hg7) (gv_of (v := vi b.Rows) hg7))) ?_
 refine sQ 21 (Y_or (b := ((!r_2) || (!r_3))) (z := (a.Cols != b.Rows)) rfl rfl rfl rfl) (rw_nil ?_)
 refine cw_cond (b := (((!r_2) || (!r_3)) || (a.Cols != b.Rows))) rfl (fun hb => ?_) (fun hb => ?_)
 ·skip
  have hF1 := ct hF hb
  refine cw_seq (cw_region ?_)
  refine sQ 22 (Y_buildS (zs := kN_) (vs := []) (cs := kN_) k_pl_30 k_zero_30 rfl mpn rfl) ?_
  refine s0 (Ys_store (i := 2) (s := 3) (B := aD b3) (T' := 30) (v := gN_) (vs := kN_) (k := 0) (cs' := kN_) hS5 k_sz_30_3 rfl rfl rfl rfl rfl rfl rfl (lB rfl) rfl rfl) ?_
  rintro _ w_5 ⟨rfl, hS6⟩
  refine sQ 5 (Y_assign (v := .bool false) rfl rfl) (rw_nil (cw_ret ?_))
  have hS7 := hS6.addNil 63
  obtain ⟨rfl, rfl⟩ := pr2 (some_inj hF1)
  exact ret2 Tryz.results15 (v1 := gN_) (resAt_cellA (B := aD b3) (i := 0) (cs := kN_) (vs := kN_) rfl k_ag_30 k_sz_30_3 (hS7.cf (i := 2) rfl) rfl rfl) (v2 := .bool false) (resAt_tmp rfl) ⟨none, 0, rfl, (hS7.sN [3])⟩
 ·skip
  have hF2 := cf' hF hb
  refine cw_skip (cw_seq (cw_region ?_))
  refine sQ 23 (Y_buildS (zs := [.bool false]) (vs := []) (cs := [.bool false]) k_pl_75 k_zero_75 rfl mpn rfl) ?_
  refine sS 24 (Ys_box (T := 75) (v := .agg #[.bool false]) (cs := [.bool false]) (m := 1) hS5 rfl rfl rfl rfl) ?_
  rintro _ w_6 ⟨b4, rfl, hS8⟩
  refine sQ 6 (Y_assign (v := pt (aD b4) 0) rfl rfl) (rw_nil (cw_seq (cw_region ?_)))
  refine sQ 25 (Y_move (v := pt (aD b4) 0) rfl rfl) ?_
  refine sQ 26 (Y_move (v := pt (aD b4) 0) rfl rfl) ?_
  refine sQ 27 (Y_loadA (B := aD b1) (i := 0) (cs := kM_ a B c) (vs := kM_ a B c) k_ag_30 k_sz_30_3 rfl rfl (hS8.cf (i := 0) rfl) rfl rfl) ?_
  refine sQ 28 (Y_loadA (B := aD b2) (i := 0) (cs := kM_ b B1 c1) (vs := kM_ b B1 c1) k_ag_30 k_sz_30_3 rfl rfl (hS8.cf (i := 1) rfl) rfl rfl) ?_
  obtain ⟨⟨r_4, m⟩, hc2, hF2⟩ := bind_inv hF2
  refine sc 29 rfl rfl (Yc_func (g := 39) (vs := [pt (aD b4) 0, gM_ a B c, gM_ b B1 c1]) k_call_39 rfl (mc rfl (mc rfl (mc rfl mn))) (c_spec_l2C_times (Tl2C.mk false) a b (aD b4) B c a.Cells.length B1 c1 b.Cells.length _ rfl rfl (hS8.inn [false, false, false, true] rfl [(true, 0), (true, 1)] rfl) hc2)) ?_
  rintro _ w_7 ⟨B3, c3, rfl, hd1⟩
  have hS9 := hS8.out [false, false, false, true] rfl hd1
  obtain ⟨⟨r_5, r_6⟩, hc3, hF2⟩ := bind_inv hF2
  refine sc 30 rfl rfl (Yc_func (g := 35) (vs := [pt (aD b4) 0, gM_ r_4 B3 c3]) k_call_35 rfl (mc rfl (mc rfl mn)) (c_spec_l2C_matrix m r_4 (aD b4) B3 c3 r_4.Cells.length _ rfl (hS9.inn [false, false, false, false, true] rfl [(false, 3)] rfl) hc3)) ?_
  rintro _ w_8 ⟨B4, c4, rfl, hd2⟩
  have hS10 := hS9.out [false, false, false, false, true] rfl hd2
  refine sQ 31 (Y_extract (v := gM_ r_5 B4 c4) rfl rfl rfl) ?_
  refine sQ 32 (Y_extract (v := .bool r_6) rfl rfl rfl) ?_
  refine s0 (Ys_store (i := 2) (s := 3) (B := aD b3) (T' := 30) (v := gM_ r_5 B4 c4) (vs := kM_ r_5 B4 c4) (k := 0) (cs' := kM_ r_5 B4 c4) hS10 k_sz_30_3 rfl rfl rfl rfl rfl rfl rfl (lB rfl) rfl rfl) ?_
  rintro _ w_9 ⟨rfl, hS11⟩
  refine sQ 5 (Y_assign (v := .bool r_6) rfl rfl) (rw_nil (cw_ret ?_))
  obtain ⟨rfl, rfl⟩ := pr2 (some_inj hF2)
  exact ret2 Tryz.results15 (v1 := gM_ r_5 B4 c4) (resAt_cellA (B := aD b3) (i := 0) (cs := kM_ r_5 B4 c4) (vs := kM_ r_5 B4 c4) rfl k_ag_30 k_sz_30_3 (hS11.cf (i := 2) rfl) rfl rfl) (v2 := .bool r_6) (resAt_tmp rfl) ⟨B4, c4, rfl, (hS11.sN [4])⟩

theorem c_laws_FnOperators (code : List Int) (more : List Int) (B : Option Addr) (c n : Nat) (B1 : Option Addr) (c1 n1 : Nat) (w0 : World) (hn : code.length = n) (hn1 : more.length = n1) (hS : ST w0 [] w0 [] [⟨B, (code.flatMap enc_u8)⟩, ⟨B1, (more.flatMap enc_u8)⟩]) {r_ : Bool} (hF : F_laws_FnOperators code more = some r_) :
  CV Tryz.prog 3 #[.slice B n c, .slice B1 n1 c1] w0 (fun v w' => v = .bool r_ ∧ ST w0 [] w' [] []) := by
 subst hn
 subst hn1
 unfold F_laws_FnOperators at hF
 refine cv_of_cw 133 Tryz.func3 rfl Tryz.ntmps3 rfl ?_
 refine cw_seq (cw_region ?_)
 refine sQ 4 (Y_assign (v := .bool false) rfl rfl) (rw_nil (cw_seq (cw_seq (cw_region ?_))))
 refine sQ 28 (Y_move (v := .slice B code.length c) rfl rfl) ?_
 refine sQ 29 (Y_move (v := .slice B1 more.length c1) rfl rfl) ?_
 obtain ⟨r_1, hc, hF⟩ := bind_inv hF
 refine sc 30 rfl rfl (Yc_func (g := 6) (vs := [.slice B code.length c, .slice B1 more.length c1]) k_call_6 rfl (mc rfl (mc rfl mn)) (c_laws_big code more B c code.length B1 c1 more.length _ rfl rfl (hS.inn0 [(true, 0), (true, 1)] rfl) hc)) ?_
 rintro _ w_ ⟨rfl, hd⟩
 have hS1 := hS.out00 hd
 refine rw_nil ?_
 refine cw_cond (b := r_1) rfl (fun hb => ?_) (fun hb => ?_)
 ·skip
  have hF1 := ct hF hb
  refine cw_seq (cw_region ?_)
  refine sQ 4 (Y_assign (v := .bool true) rfl rfl) (rw_nil (cw_ret ?_))
  obtain rfl := some_inj hF1
  exact ret1 Tryz.results3 (v1 := .bool true) (resAt_tmp rfl) ⟨rfl, (hS1.sN [])⟩
 ·skip
  have hF2 := cf' hF hb
  refine cw_skip (cw_seq (cw_region ?_))
  refine sQ 31 (Y_move (v := .slice B code.length c) rfl rfl) ?_
  obtain ⟨r_2, hc1, hF2⟩ := bind_inv hF2
  refine sc 32 rfl rfl (Yc_func (g := 7) (vs := [.slice B code.length c]) k_call_7 rfl (mc rfl mn) (c_spec_DrawOperatorOf code B c code.length _ rfl (hS1.inn0 [(true, 0)] rfl) hc1)) ?_
  rintro _ w_1 ⟨B2, c2, rfl, hd1⟩
  have hS2 := hS1.out0 hd1
  refine sS 5 (Ys_alloc (T := 26) (cs := [vi 0, .slice none 0 0]) (m := 2) hS2 k_zero_26 rfl rfl rfl) ?_
  rintro _ w_2 ⟨b, rfl, hS3⟩
  refine s0 (Ys_store (i := 1) (s := 2) (B := aD b) (T' := 26) (v := .agg #[vi r_2.Qubits, .slice B2 r_2.Gates.length c2]) (vs := [vi r_2.Qubits, .slice B2 r_2.Gates.length c2]) (k := 0) (cs' := [vi r_2.Qubits, .slice B2 r_2.Gates.length c2]) hS3 k_sz_26_2 rfl rfl rfl rfl rfl rfl rfl (lB rfl) rfl rfl) ?_
  rintro _ w_3 ⟨rfl, hS4⟩
  refine rw_nil (cw_seq (cw_region ?_))
  refine sQ 34 (Y_loadA (B := aD b) (i := 0) (cs := [vi r_2.Qubits, .slice B2 r_2.Gates.length c2]) (vs := [vi r_2.Qubits, .slice B2 r_2.Gates.length c2]) k_ag_26 k_sz_26_2 rfl rfl (hS4.cf (i := 1) rfl) rfl rfl) ?_
  obtain ⟨⟨r_3, r_4⟩, hc2, hF2⟩ := bind_inv hF2
  refine sc 35 rfl rfl (Yc_func (g := 8) (vs := [.agg #[vi r_2.Qubits, .slice B2 r_2.Gates.length c2]]) k_call_8 rfl (mc rfl mn) (c_impl_OperatorOf r_2 B2 c2 r_2.Gates.length _ rfl (hS4.inn0 [(false, 0)] rfl) hc2)) ?_
  rintro _ w_4 ⟨B3, c3, rfl, hd2⟩
  have hS5 := hS4.out0 hd2
  refine sQ 33 (Y_move (v := .tuple #[gM_ r_3 B3 c3, .bool r_4]) rfl rfl) ?_
  refine sQ 36 (Y_extract (v := gM_ r_3 B3 c3) rfl rfl rfl) ?_
  refine sQ 37 (Y_extract (v := .bool r_4) rfl rfl rfl) ?_
  refine sS 6 (Ys_alloc (T := 30) (cs := kN_) (m := 3) hS5 k_zero_30 rfl rfl rfl) ?_
  rintro _ w_5 ⟨b1, rfl, hS6⟩
  refine s0 (Ys_store (i := 3) (s := 3) (B := aD b1) (T' := 30) (v := gM_ r_3 B3 c3) (vs := kM_ r_3 B3 c3) (k := 0) (cs' := kM_ r_3 B3 c3) hS6 k_sz_30_3 rfl rfl rfl rfl rfl rfl rfl (lB rfl) rfl rfl) ?_
  rintro _ w_6 ⟨rfl, hS7⟩
  refine sQ 7 (Y_assign (v := .bool r_4) rfl rfl) (rw_nil (cw_seq (cw_region ?_)))
  refine sQ 39 (Y_loadA (B := aD b) (i := 0) (cs := [vi r_2.Qubits, .slice B2 r_2.Gates.length c2]) (vs := [vi r_2.Qubits, .slice B2 r_2.Gates.length c2]) k_ag_26 k_sz_26_2 rfl rfl (hS7.cf (i := 1) rfl) rfl rfl) ?_
  obtain ⟨⟨r_5, r_6⟩, hc3, hF2⟩ := bind_inv hF2
  refine sc 40 rfl rfl (Yc_func (g := 9) (vs := [.agg #[vi r_2.Qubits, .slice B2 r_2.Gates.length c2]]) k_call_9 rfl (mc rfl mn) (c_spec_OperatorOf r_2 B2 c2 r_2.Gates.length _ rfl (hS7.inn0 [(false, 0)] rfl) hc3)) ?_
  rintro _ w_7 ⟨B4, c4, rfl, hd3⟩
  have hS8 := hS7.out0 hd3
  refine sQ 38 (Y_move (v := .tuple #[gM_ r_5 B4 c4, .bool r_6]) rfl rfl) ?_
  refine sQ 41 (Y_extract (v := gM_ r_5 B4 c4) rfl rfl rfl) ?_
  refine sQ 42 (Y_extract (v := .bool r_6) rfl rfl rfl) ?_
  refine sS 8 (Ys_alloc (T := 30) (cs := kN_) (m := 3) hS8 k_zero_30 rfl rfl rfl) ?_
  rintro _ w_8 ⟨b2, rfl, hS9⟩
  refine s0 (Ys_store (i := 5) (s := 3) (B := aD b2) (T' := 30) (v := gM_ r_5 B4 c4) (vs := kM_ r_5 B4 c4) (k := 0) (cs' := kM_ r_5 B4 c4) hS9 k_sz_30_3 rfl rfl rfl rfl rfl rfl rfl (lB rfl) rfl rfl) ?_
  rintro _ w_9 ⟨rfl, hS10⟩
  refine sQ 9 (Y_assign (v := .bool r_6) rfl rfl) (rw_nil (cw_seq (cw_seq (cw_region ?_))))
  refine sQ 43 (Y_move (v := .bool r_4) rfl rfl) ?_
  refine sQ 44 (Y_move (v := .bool r_6) rfl rfl) ?_
  refine sQ 45 (Y_bne (p := r_4) (q := r_6) k_und_4 rfl rfl rfl) ?_
  refine sQ 46 (Y_move (v := .bool (!(r_4 == r_6))) rfl rfl) ?_
  refine sgq 47 (B := (!(!(r_4 == r_6)))) (v := gM_ r_3 B3 c3) rfl rfl (uF_ 46) (fun hg => (Y_loadA (B := aD b1) (i := 0) (cs := kM_ r_3 B3 c3) (vs := kM_ r_3 B3 c3) k_ag_30 k_sz_30_3 rfl rfl (hS10.cf (i := 3) rfl) rfl rfl)) ?_
  refine sgq 48 (B := (!(!(r_4 == r_6)))) (v := gM_ r_5 B4 c4) rfl rfl (uF_ 46) (fun hg1 => (Y_loadA (B := aD b2) (i := 0) (cs := kM_ r_5 B4 c4) (vs := kM_ r_5 B4 c4) k_ag_30 k_sz_30_3 rfl rfl (hS10.cf (i := 5) rfl) rfl rfl)) ?_
  obtain ⟨r_7, hc4, hF2⟩ := bind_inv hF2
  refine sgc 49 (B := (!(!(r_4 == r_6)))) (v := .bool r_7) (F := hS10.fn) rfl rfl (uF_ 46) hS10 (fun hg2 => (Yc_func (g := 10) (vs := [gM_ r_3 B3 c3, gM_ r_5 B4 c4]) k_call_10 rfl (mc (gv_of (v := gM_ r_3 B3 c3) hg2) (mc (gv_of (v := gM_ r_5 B4 c4) hg2) mn)) (CV.mono (c_spec_EqualMatrices r_3 r_5 B3 c3 r_3.Cells.length B4 c4 r_5.Cells.length _ rfl rfl (hS10.inn0 [(false, 2), (false, 4)] rfl) (gb_inv hc4 hg2)) (by rintro _ _ ⟨rfl, h⟩; exact ⟨rfl, hS10.out00 h⟩)))) ?_
  rintro w_10 hS11
  refine sgq 50 (B := (!(!(r_4 == r_6)))) (v := .bool (!r_7)) rfl rfl (uF_ 46) (fun hg3 => (Y_not (p := r_7) rfl (gv_of (v := .bool r_7) hg3))) ?_
  refine sQ 51 (Y_or (b := (!(r_4 == r_6))) (z := (!r_7)) rfl rfl rfl rfl) (rw_nil ?_)
  refine cw_cond (b := ((!(r_4 == r_6)) || (!r_7))) rfl (fun hb1 => ?_) (fun hb1 => ?_)
  ·skip
   have hF3 := ct hF2 hb1
   refine cw_seq (cw_region ?_)
   refine sQ 4 (Y_assign (v := .bool false) rfl rfl) (rw_nil (cw_ret ?_))
   obtain rfl := some_inj hF3
   exact ret1 Tryz.results3 (v1 := .bool false) (resAt_tmp rfl) ⟨rfl, (hS11.sN [])⟩
  ·skip
   have hF4 := cf' hF2 hb1
   refine cw_skip (cw_seq (cw_seq (cw_region ?_)))
   refine sQ 52 (Y_move (v := .bool r_4) rfl rfl) ?_
   refine sQ 53 (Y_not (p := r_4) rfl rfl) (rw_nil ?_)
   refine cw_cond (b := (!r_4)) rfl (fun hb2 => ?_) (fun hb2 => ?_)
   ·skip
    have hF5 := ct hF4 hb2
    refine cw_seq (cw_region ?_)
    refine sQ 4 (Y_assign (v := .bool true) rfl rfl) (rw_nil (cw_ret ?_))
    obtain rfl := some_inj hF5
    exact ret1 Tryz.results3 (v1 := .bool true) (resAt_tmp rfl) ⟨rfl, (hS11.sN [])⟩
   ·skip
    have hF6 := cf' hF4 hb2
    refine cw_skip (cw_seq (cw_region ?_))
    refine sQ 55 (Y_loadA (B := aD b2) (i := 0) (cs := kM_ r_5 B4 c4) (vs := kM_ r_5 B4 c4) k_ag_30 k_sz_30_3 rfl rfl (hS11.cf (i := 5) rfl) rfl rfl) ?_
    obtain ⟨⟨r_8, r_9⟩, hc5, hF6⟩ := bind_inv hF6
    refine sc 56 rfl rfl (Yc_func (g := 11) (vs := [gM_ r_5 B4 c4]) k_call_11 rfl (mc rfl mn) (c_spec_IsUnitary r_5 B4 c4 r_5.Cells.length _ rfl (hS11.inn0 [(false, 4)] rfl) hc5)) ?_
    rintro _ w_11 ⟨rfl, hd4⟩
    have hS12 := hS11.out00 hd4
    refine sQ 54 (Y_move (v := .tuple #[.bool r_8, .bool r_9]) rfl rfl) ?_
    refine sQ 57 (Y_extract (v := .bool r_8) rfl rfl rfl) ?_
    refine sQ 58 (Y_extract (v := .bool r_9) rfl rfl rfl) ?_
    refine sQ 10 (Y_assign (v := .bool r_8) rfl rfl) ?_
    refine sQ 11 (Y_assign (v := .bool r_9) rfl rfl) (rw_nil (cw_seq (cw_seq (cw_region ?_))))
    refine sQ 59 (Y_move (v := .bool r_9) rfl rfl) ?_
    refine sQ 60 (Y_move (v := .bool r_9) rfl rfl) ?_
    refine sgq 61 (B := r_9) (v := .bool r_8) rfl rfl (uT_ 60) (fun hg4 => (Y_move (v := .bool r_8) rfl rfl)) ?_
    refine sgq 62 (B := r_9) (v := .bool (!r_8)) rfl rfl (uT_ 60) (fun hg5 => (Y_not (p := r_8) rfl (gv_of (v := .bool r_8) hg5))) ?_
    refine sQ 63 (Y_and (b := r_9) (z := (!r_8)) rfl rfl rfl rfl) (rw_nil ?_)
    refine cw_cond (b := (r_9 && (!r_8))) rfl (fun hb3 => ?_) (fun hb3 => ?_)
    ·skip
     have hF7 := ct hF6 hb3
     refine cw_seq (cw_region ?_)
     refine sQ 4 (Y_assign (v := .bool false) rfl rfl) (rw_nil (cw_ret ?_))
     obtain rfl := some_inj hF7
     exact ret1 Tryz.results3 (v1 := .bool false) (resAt_tmp rfl) ⟨rfl, (hS12.sN [])⟩
    ·skip
     have hF8 := cf' hF6 hb3
     refine cw_skip (cw_seq (cw_region ?_))
     refine sQ 65 (Y_loadA (B := aD b) (i := 0) (cs := [vi r_2.Qubits, .slice B2 r_2.Gates.length c2]) (vs := [vi r_2.Qubits, .slice B2 r_2.Gates.length c2]) k_ag_26 k_sz_26_2 rfl rfl (hS12.cf (i := 1) rfl) rfl rfl) ?_
     obtain ⟨⟨r_10, r_11⟩, hc6, hF8⟩ := bind_inv hF8
     refine sc 66 rfl rfl (Yc_func (g := 12) (vs := [.agg #[vi r_2.Qubits, .slice B2 r_2.Gates.length c2]]) k_call_12 rfl (mc rfl mn) (c_impl_Inverse r_2 B2 c2 r_2.Gates.length _ rfl (hS12.inn0 [(false, 0)] rfl) hc6)) ?_
     rintro _ w_12 ⟨B5, c5, rfl, hd5⟩
     have hS13 := hS12.out0 hd5
     refine sQ 64 (Y_move (v := .tuple #[.agg #[vi r_10.Qubits, .slice B5 r_10.Gates.length c5], .bool r_11]) rfl rfl) ?_
     refine sQ 67 (Y_extract (v := .agg #[vi r_10.Qubits, .slice B5 r_10.Gates.length c5]) rfl rfl rfl) ?_
     refine sQ 68 (Y_extract (v := .bool r_11) rfl rfl rfl) ?_
     refine sS 12 (Ys_alloc (T := 26) (cs := [vi 0, .slice none 0 0]) (m := 2) hS13 k_zero_26 rfl rfl rfl) ?_
     rintro _ w_13 ⟨b3, rfl, hS14⟩
     refine s0 (Ys_store (i := 7) (s := 2) (B := aD b3) (T' := 26) (v := .agg #[vi r_10.Qubits, .slice B5 r_10.Gates.length c5]) (vs := [vi r_10.Qubits, .slice B5 r_10.Gates.length c5]) (k := 0) (cs' := [vi r_10.Qubits, .slice B5 r_10.Gates.length c5]) hS14 k_sz_26_2 rfl rfl rfl rfl rfl rfl rfl (lB rfl) rfl rfl) ?_
     rintro _ w_14 ⟨rfl, hS15⟩
     refine sQ 13 (Y_assign (v := .bool r_11) rfl rfl) (rw_nil (cw_seq (cw_region ?_)))
     refine sQ 70 (Y_loadA (B := aD b) (i := 0) (cs := [vi r_2.Qubits, .slice B2 r_2.Gates.length c2]) (vs := [vi r_2.Qubits, .slice B2 r_2.Gates.length c2]) k_ag_26 k_sz_26_2 rfl rfl (hS15.cf (i := 1) rfl) rfl rfl) ?_
     refine sQ 71 (Y_loadA (B := aD b3) (i := 0) (cs := [vi r_10.Qubits, .slice B5 r_10.Gates.length c5]) (vs := [vi r_10.Qubits, .slice B5 r_10.Gates.length c5]) k_ag_26 k_sz_26_2 rfl rfl (hS15.cf (i := 7) rfl) rfl rfl) ?_
     obtain ⟨⟨r_12, r_13⟩, hc7, hF8⟩ := bind_inv hF8
     refine sc 72 rfl rfl (Yc_func (g := 13) (vs := [.agg #[vi r_2.Qubits, .slice B2 r_2.Gates.length c2], .agg #[vi r_10.Qubits, .slice B5 r_10.Gates.length c5]]) k_call_13 rfl (mc rfl (mc rfl mn)) (c_impl_Concat r_2 r_10 B2 c2 r_2.Gates.length B5 c5 r_10.Gates.length _ rfl rfl (hS15.inn0 [(false, 0), (false, 6)] rfl) hc7)) ?_
     rintro _ w_15 ⟨B6, c6, rfl, hd6⟩
     have hS16 := hS15.out0 hd6
     refine sQ 69 (Y_move (v := .tuple #[.agg #[vi r_12.Qubits, .slice B6 r_12.Gates.length c6], .bool r_13]) rfl rfl) ?_
     refine sQ 73 (Y_extract (v := .agg #[vi r_12.Qubits, .slice B6 r_12.Gates.length c6]) rfl rfl rfl) ?_
     refine sQ 74 (Y_extract (v := .bool r_13) rfl rfl rfl) ?_
     refine sS 14 (Ys_alloc (T := 26) (cs := [vi 0, .slice none 0 0]) (m := 2) hS16 k_zero_26 rfl rfl rfl) ?_
     rintro _ w_16 ⟨b4, rfl, hS17⟩
     refine s0 (Ys_store (i := 9) (s := 2) (B := aD b4) (T' := 26) (v := .agg #[vi r_12.Qubits, .slice B6 r_12.Gates.length c6]) (vs := [vi r_12.Qubits, .slice B6 r_12.Gates.length c6]) (k := 0) (cs' := [vi r_12.Qubits, .slice B6 r_12.Gates.length c6]) hS17 k_sz_26_2 rfl rfl rfl rfl rfl rfl rfl (lB rfl) rfl rfl) ?_
     rintro _ w_17 ⟨rfl, hS18⟩
     refine sQ 15 (Y_assign (v := .bool r_13) rfl rfl) (rw_nil (cw_seq ?_))
     obtain ⟨z, hz, hF9⟩ := bind_inv hF8
     refine cw_mid (fun f w => .inl () = z ∧ FF f [(1, .slice B1 more.length c1), (5, pt (aD b) 0), (8, pt (aD b2) 0)] ∧ ST w0 [] w [⟨aD b, 26, [vi r_2.Qubits, .slice B2 r_2.Gates.length c2], 2⟩, ⟨B2, 67, (r_2.Gates.flatMap eN1), c2 * 3⟩, ⟨aD b2, 30, kM_ r_5 B4 c4, 3⟩, ⟨B4, 63, (r_5.Cells.flatMap eN0), c4 * 5⟩] [⟨B, (code.flatMap enc_u8)⟩, ⟨B1, (more.flatMap enc_u8)⟩]) ?_ ?_
     ·skip
      refine cw_seq (cw_region ?_)
      refine sQ 75 (Y_move (v := .bool r_11) rfl rfl) ?_
      refine sQ 76 (Y_move (v := .bool r_11) rfl rfl) ?_
      refine sgq 77 (B := r_11) (v := .bool r_13) rfl rfl (uT_ 76) (fun hg6 => (Y_move (v := .bool r_13) rfl rfl)) ?_
      refine sQ 78 (Y_and (b := r_11) (z := r_13) rfl rfl rfl rfl) (rw_nil ?_)
      refine cw_cond (b := (r_11 && r_13)) rfl (fun hb4 => ?_) (fun hb4 => ?_)
      ·skip
       have hF10 := ct hz hb4
       refine cw_seq (cw_region ?_)
       refine sQ 80 (Y_loadA (B := aD b4) (i := 0) (cs := [vi r_12.Qubits, .slice B6 r_12.Gates.length c6]) (vs := [vi r_12.Qubits, .slice B6 r_12.Gates.length c6]) k_ag_26 k_sz_26_2 rfl rfl (hS18.cf (i := 9) rfl) rfl rfl) ?_
       obtain ⟨⟨r_14, r_15, r_16⟩, hc8, hF10⟩ := bind_inv hF10
       refine sc 81 rfl rfl (Yc_func (g := 14) (vs := [.agg #[vi r_12.Qubits, .slice B6 r_12.Gates.length c6]]) k_call_14 rfl (mc rfl mn) (c_impl_IsPhase r_12 B6 c6 r_12.Gates.length _ rfl (hS18.inn0 [(false, 8)] rfl) hc8)) ?_
       rintro _ w_18 ⟨rfl, hd7⟩
       have hS20 := hS18.out00 hd7
       refine sQ 79 (Y_move (v := .tuple #[vi r_14, .bool r_15, .bool r_16]) rfl rfl) ?_
       refine sQ 82 (Y_extract (v := vi r_14) rfl rfl rfl) ?_
       refine sQ 83 (Y_extract (v := .bool r_15) rfl rfl rfl) ?_
       refine sQ 84 (Y_extract (v := .bool r_16) rfl rfl rfl) ?_
       refine sQ 16 (Y_assign (v := vi r_14) rfl rfl) ?_
       refine sQ 17 (Y_assign (v := .bool r_15) rfl rfl) ?_
       refine sQ 18 (Y_assign (v := .bool r_16) rfl rfl) (rw_nil (cw_seq (cw_region ?_)))
       refine sQ 85 (Y_move (v := .bool r_16) rfl rfl) ?_
       refine sQ 86 (Y_move (v := .bool r_16) rfl rfl) ?_
       refine sgq 87 (B := r_16) (v := .bool r_15) rfl rfl (uT_ 86) (fun hg7 => (Y_move (v := .bool r_15) rfl rfl)) ?_
       refine sgq 88 (B := r_16) (v := .bool (!r_15)) rfl rfl (uT_ 86) (fun hg8 => (Y_not (p := r_15) rfl (gv_of (v := .bool r_15) hg8))) ?_
       refine sgq 89 (B := r_16) (v := .bool (!r_15)) rfl rfl (uT_ 86) (fun hg9 => (Y_move (v := .bool (!r_15)) rfl (gv_of (v := .bool (!r_15)) hg9))) ?_
       refine sgq 90 (B := (r_16 && (!(!r_15)))) (v := vi r_14) rfl rfl (wt_gf (gd_of (t := 89) (by kernel_rfl) rfl)) (fun hg10 => (Y_move (v := vi r_14) rfl rfl)) ?_
       refine sgq 91 (B := (r_16 && (!(!r_15)))) (v := .bool (r_14 != 0)) rfl rfl (wt_gf (gd_of (t := 89) (by kernel_rfl) rfl)) (fun hg11 => (Y_ne (k := .i64) (a := r_14) (b := 0) rfl (gv_of (v := vi r_14) hg11) rfl)) ?_
       refine sgq 92 (B := r_16) (v := .bool ((!r_15) || (r_14 != 0))) rfl rfl (uT_ 86) (fun hg12 => (Y_or (b := (!r_15)) (z := (r_14 != 0)) rfl (gv_of (v := .bool (!r_15)) hg12) rfl (gv_and (B := r_16) (C := (!(!r_15))) (v := .bool (r_14 != 0)) hg12))) ?_
       refine sQ 93 (Y_and (b := r_16) (z := ((!r_15) || (r_14 != 0))) rfl rfl rfl rfl) (rw_nil ?_)
       refine cw_cond (b := (r_16 && ((!r_15) || (r_14 != 0)))) rfl (fun hb5 => ?_) (fun hb5 => ?_)
       ·skip
        have hF11 := ct hF10 hb5
        refine cw_seq (cw_region ?_)
        refine sQ 4 (Y_assign (v := .bool false) rfl rfl) (rw_nil (cw_ret ?_))
        obtain rfl := some_inj hF11
        obtain rfl := some_inj hF9
        exact ret1 Tryz.results3 (v1 := .bool false) (resAt_tmp rfl) ⟨rfl, (hS20.sN [])⟩
       ·skip
        have hF12 := cf' hF10 hb5
        refine cw_skip ?_
        exact ⟨(some_inj hF12), (FF.cons rfl (FF.cons rfl (FF.cons rfl FF.nil))), (hS20.sel [1, 0, 5, 4] rfl rfl)⟩
      ·skip
       have hF13 := cf' hz hb4
       refine cw_skip ?_
       exact ⟨(some_inj hF13), (FF.cons rfl (FF.cons rfl (FF.cons rfl FF.nil))), (hS18.sel [1, 0, 5, 4] rfl rfl)⟩
     rintro f w ⟨rfl, hf, hS19⟩
     refine cw_seq (cw_region ?_)
     refine sQ 94 (Y_move (v := .slice B1 more.length c1) rfl (hf.get 1 0 rfl)) ?_
     obtain ⟨r_17, hc9, hF9⟩ := bind_inv hF9
     refine sc 95 rfl rfl (Yc_func (g := 7) (vs := [.slice B1 more.length c1]) k_call_7 rfl (mc rfl mn) (c_spec_DrawOperatorOf more B1 c1 more.length _ rfl (hS19.inn0 [(true, 1)] rfl) hc9)) ?_
     rintro _ w_19 ⟨B7, c7, rfl, hd8⟩
     have hS21 := hS19.out0 hd8
     refine sS 19 (Ys_alloc (T := 26) (cs := [vi 0, .slice none 0 0]) (m := 2) hS21 k_zero_26 rfl rfl rfl) ?_
     rintro _ w_20 ⟨b5, rfl, hS22⟩
     refine s0 (Ys_store (i := 5) (s := 2) (B := aD b5) (T' := 26) (v := .agg #[vi r_17.Qubits, .slice B7 r_17.Gates.length c7]) (vs := [vi r_17.Qubits, .slice B7 r_17.Gates.length c7]) (k := 0) (cs' := [vi r_17.Qubits, .slice B7 r_17.Gates.length c7]) hS22 k_sz_26_2 rfl rfl rfl rfl rfl rfl rfl (lB rfl) rfl rfl) ?_
     rintro _ w_21 ⟨rfl, hS23⟩
     refine rw_nil (cw_seq (cw_region ?_))
     refine sQ 97 (Y_loadA (B := aD b5) (i := 0) (cs := [vi r_17.Qubits, .slice B7 r_17.Gates.length c7]) (vs := [vi r_17.Qubits, .slice B7 r_17.Gates.length c7]) k_ag_26 k_sz_26_2 rfl rfl (hS23.cf (i := 5) rfl) rfl rfl) ?_
     obtain ⟨⟨r_18, r_19⟩, hc10, hF9⟩ := bind_inv hF9
     refine sc 98 rfl rfl (Yc_func (g := 9) (vs := [.agg #[vi r_17.Qubits, .slice B7 r_17.Gates.length c7]]) k_call_9 rfl (mc rfl mn) (c_spec_OperatorOf r_17 B7 c7 r_17.Gates.length _ rfl (hS23.inn0 [(false, 4)] rfl) hc10)) ?_
     rintro _ w_22 ⟨B8, c8, rfl, hd9⟩
     have hS24 := hS23.out0 hd9
     refine sQ 96 (Y_move (v := .tuple #[gM_ r_18 B8 c8, .bool r_19]) rfl rfl) ?_
     refine sQ 99 (Y_extract (v := gM_ r_18 B8 c8) rfl rfl rfl) ?_
     refine sQ 100 (Y_extract (v := .bool r_19) rfl rfl rfl) ?_
     refine sS 20 (Ys_alloc (T := 30) (cs := kN_) (m := 3) hS24 k_zero_30 rfl rfl rfl) ?_
     rintro _ w_23 ⟨b6, rfl, hS25⟩
     refine s0 (Ys_store (i := 7) (s := 3) (B := aD b6) (T' := 30) (v := gM_ r_18 B8 c8) (vs := kM_ r_18 B8 c8) (k := 0) (cs' := kM_ r_18 B8 c8) hS25 k_sz_30_3 rfl rfl rfl rfl rfl rfl rfl (lB rfl) rfl rfl) ?_
     rintro _ w_24 ⟨rfl, hS26⟩
     refine sQ 21 (Y_assign (v := .bool r_19) rfl rfl) (rw_nil (cw_seq (cw_region ?_)))
     refine sQ 102 (Y_loadA (B := aD b) (i := 0) (cs := [vi r_2.Qubits, .slice B2 r_2.Gates.length c2]) (vs := [vi r_2.Qubits, .slice B2 r_2.Gates.length c2]) k_ag_26 k_sz_26_2 rfl (hf.get 5 1 rfl) (hS26.cf (i := 0) rfl) rfl rfl) ?_
     refine sQ 103 (Y_loadA (B := aD b5) (i := 0) (cs := [vi r_17.Qubits, .slice B7 r_17.Gates.length c7]) (vs := [vi r_17.Qubits, .slice B7 r_17.Gates.length c7]) k_ag_26 k_sz_26_2 rfl rfl (hS26.cf (i := 5) rfl) rfl rfl) ?_
     obtain ⟨⟨r_20, r_21⟩, hc11, hF9⟩ := bind_inv hF9
     refine sc 104 rfl rfl (Yc_func (g := 13) (vs := [.agg #[vi r_2.Qubits, .slice B2 r_2.Gates.length c2], .agg #[vi r_17.Qubits, .slice B7 r_17.Gates.length c7]]) k_call_13 rfl (mc rfl (mc rfl mn)) (c_impl_Concat r_2 r_17 B2 c2 r_2.Gates.length B7 c7 r_17.Gates.length _ rfl rfl (hS26.inn0 [(false, 1), (false, 4)] rfl) hc11)) ?_
     rintro _ w_25 ⟨B9, c9, rfl, hd10⟩
     have hS27 := hS26.out0 hd10
     refine sQ 101 (Y_move (v := .tuple #[.agg #[vi r_20.Qubits, .slice B9 r_20.Gates.length c9], .bool r_21]) rfl rfl) ?_
     refine sQ 105 (Y_extract (v := .agg #[vi r_20.Qubits, .slice B9 r_20.Gates.length c9]) rfl rfl rfl) ?_
     refine sQ 106 (Y_extract (v := .bool r_21) rfl rfl rfl) ?_
     refine sS 22 (Ys_alloc (T := 26) (cs := [vi 0, .slice none 0 0]) (m := 2) hS27 k_zero_26 rfl rfl rfl) ?_
     rintro _ w_26 ⟨b7, rfl, hS28⟩
     refine s0 (Ys_store (i := 9) (s := 2) (B := aD b7) (T' := 26) (v := .agg #[vi r_20.Qubits, .slice B9 r_20.Gates.length c9]) (vs := [vi r_20.Qubits, .slice B9 r_20.Gates.length c9]) (k := 0) (cs' := [vi r_20.Qubits, .slice B9 r_20.Gates.length c9]) hS28 k_sz_26_2 rfl rfl rfl rfl rfl rfl rfl (lB rfl) rfl rfl) ?_
     rintro _ w_27 ⟨rfl, hS29⟩
     refine sQ 23 (Y_assign (v := .bool r_21) rfl rfl) (rw_nil (cw_seq (cw_seq (cw_region ?_))))
     refine sQ 107 (Y_move (v := .bool r_19) rfl rfl) ?_
     refine sQ 108 (Y_move (v := .bool r_19) rfl rfl) ?_
     refine sgq 109 (B := r_19) (v := .bool r_21) rfl rfl (uT_ 108) (fun hg13 => (Y_move (v := .bool r_21) rfl rfl)) ?_
     refine sQ 110 (Y_and (b := r_19) (z := r_21) rfl rfl rfl rfl) (rw_nil ?_)
     refine cw_cond (b := (r_19 && r_21)) rfl (fun hb6 => ?_) (fun hb6 => ?_)
     ·skip
      have hF14 := ct hF9 hb6
      refine cw_seq (cw_region ?_)
      refine sQ 112 (Y_loadA (B := aD b7) (i := 0) (cs := [vi r_20.Qubits, .slice B9 r_20.Gates.length c9]) (vs := [vi r_20.Qubits, .slice B9 r_20.Gates.length c9]) k_ag_26 k_sz_26_2 rfl rfl (hS29.cf (i := 9) rfl) rfl rfl) ?_
      obtain ⟨⟨r_22, r_23⟩, hc12, hF14⟩ := bind_inv hF14
      refine sc 113 rfl rfl (Yc_func (g := 8) (vs := [.agg #[vi r_20.Qubits, .slice B9 r_20.Gates.length c9]]) k_call_8 rfl (mc rfl mn) (c_impl_OperatorOf r_20 B9 c9 r_20.Gates.length _ rfl (hS29.inn0 [(false, 8)] rfl) hc12)) ?_
      rintro _ w_28 ⟨B10, c10, rfl, hd11⟩
      have hS30 := hS29.out0 hd11
      refine sQ 111 (Y_move (v := .tuple #[gM_ r_22 B10 c10, .bool r_23]) rfl rfl) ?_
      refine sQ 114 (Y_extract (v := gM_ r_22 B10 c10) rfl rfl rfl) ?_
      refine sQ 115 (Y_extract (v := .bool r_23) rfl rfl rfl) ?_
      refine sS 24 (Ys_alloc (T := 30) (cs := kN_) (m := 3) hS30 k_zero_30 rfl rfl rfl) ?_
      rintro _ w_29 ⟨b8, rfl, hS31⟩
      refine s0 (Ys_store (i := 11) (s := 3) (B := aD b8) (T' := 30) (v := gM_ r_22 B10 c10) (vs := kM_ r_22 B10 c10) (k := 0) (cs' := kM_ r_22 B10 c10) hS31 k_sz_30_3 rfl rfl rfl rfl rfl rfl rfl (lB rfl) rfl rfl) ?_
      rintro _ w_30 ⟨rfl, hS32⟩
      refine sQ 25 (Y_assign (v := .bool r_23) rfl rfl) (rw_nil (cw_seq (cw_region ?_)))
      refine sQ 117 (Y_loadA (B := aD b6) (i := 0) (cs := kM_ r_18 B8 c8) (vs := kM_ r_18 B8 c8) k_ag_30 k_sz_30_3 rfl rfl (hS32.cf (i := 7) rfl) rfl rfl) ?_
      refine sQ 118 (Y_loadA (B := aD b2) (i := 0) (cs := kM_ r_5 B4 c4) (vs := kM_ r_5 B4 c4) k_ag_30 k_sz_30_3 rfl (hf.get 8 2 rfl) (hS32.cf (i := 2) rfl) rfl rfl) ?_
      obtain ⟨⟨r_24, r_25⟩, hc13, hF14⟩ := bind_inv hF14
      refine sc 119 rfl rfl (Yc_func (g := 15) (vs := [gM_ r_18 B8 c8, gM_ r_5 B4 c4]) k_call_15 rfl (mc rfl (mc rfl mn)) (c_spec_MulMatrix r_18 r_5 B8 c8 r_18.Cells.length B4 c4 r_5.Cells.length _ rfl rfl (hS32.inn0 [(false, 6), (false, 3)] rfl) hc13)) ?_
      rintro _ w_31 ⟨B11, c11, rfl, hd12⟩
      have hS33 := hS32.out0 hd12
      have hS33 : ST w0 [] _ [⟨aD b, 26, [vi r_2.Qubits, .slice B2 r_2.Gates.length c2], 2⟩, ⟨B2, 67, (r_2.Gates.flatMap eN1), c2 * 3⟩, ⟨aD b2, 30, kM_ r_5 B4 c4, 3⟩, ⟨B4, 63, (r_5.Cells.flatMap eN0), c4 * 5⟩, ⟨B7, 67, (r_17.Gates.flatMap eN1), c7 * 3⟩, ⟨aD b5, 26, [vi r_17.Qubits, .slice B7 r_17.Gates.length c7], 2⟩, ⟨B8, 63, (r_18.Cells.flatMap eN0), c8 * 5⟩, ⟨aD b6, 30, kM_ r_18 B8 c8, 3⟩, ⟨B9, 67, (r_20.Gates.flatMap eN1), c9 * 3⟩, ⟨aD b7, 26, [vi r_20.Qubits, .slice B9 r_20.Gates.length c9], 2⟩, ⟨B10, 63, (r_22.Cells.flatMap eN0), c10 * 5⟩, ⟨aD b8, 30, kM_ r_22 B10 c10, 3⟩, ⟨B11, 63, (r_24.Cells.flatMap eN0), c11 * 5⟩] [⟨B, (code.flatMap enc_u8)⟩, ⟨B1, (more.flatMap enc_u8)⟩] := hS33
      refine sQ 116 (Y_move (v := .tuple #[gM_ r_24 B11 c11, .bool r_25]) rfl rfl) ?_
      refine sQ 120 (Y_extract (v := gM_ r_24 B11 c11) rfl rfl rfl) ?_
      refine sQ 121 (Y_extract (v := .bool r_25) rfl rfl rfl) ?_
      refine sS 26 (Ys_alloc (T := 30) (cs := kN_) (m := 3) hS33 k_zero_30 rfl rfl rfl) ?_
      rintro _ w_32 ⟨b9, rfl, hS34⟩
      refine s0 (Ys_store (i := 13) (s := 3) (B := aD b9) (T' := 30) (v := gM_ r_24 B11 c11) (vs := kM_ r_24 B11 c11) (k := 0) (cs' := kM_ r_24 B11 c11) hS34 k_sz_30_3 rfl rfl rfl rfl rfl rfl rfl (lB rfl) rfl rfl) ?_
      rintro _ w_33 ⟨rfl, hS35⟩
      refine sQ 27 (Y_assign (v := .bool r_25) rfl rfl) (rw_nil (cw_seq (cw_region ?_)))
      refine sQ 122 (Y_move (v := .bool r_23) rfl rfl) ?_
      refine sQ 123 (Y_not (p := r_23) rfl rfl) ?_
      refine sQ 124 (Y_move (v := .bool (!r_23)) rfl rfl) ?_
      refine sgq 125 (B := (!(!r_23))) (v := .bool r_25) rfl rfl (uF_ 124) (fun hg14 => (Y_move (v := .bool r_25) rfl rfl)) ?_
      refine sgq 126 (B := (!(!r_23))) (v := .bool (!r_25)) rfl rfl (uF_ 124) (fun hg15 => (Y_not (p := r_25) rfl (gv_of (v := .bool r_25) hg15))) ?_
      refine sQ 127 (Y_or (b := (!r_23)) (z := (!r_25)) rfl rfl rfl rfl) ?_
      refine sQ 128 (Y_move (v := .bool ((!r_23) || (!r_25))) rfl rfl) ?_
      refine sgq 129 (B := (!((!r_23) || (!r_25)))) (v := gM_ r_22 B10 c10) rfl rfl (uF_ 128) (fun hg16 => (Y_loadA (B := aD b8) (i := 0) (cs := kM_ r_22 B10 c10) (vs := kM_ r_22 B10 c10) k_ag_30 k_sz_30_3 rfl rfl (hS35.cf (i := 11) rfl) rfl rfl)) ?_
      refine sgq 130 (B := (!((!r_23) || (!r_25)))) (v := gM_ r_24 B11 c11) rfl rfl (uF_ 128) (fun hg17 => (Y_loadA (B := aD b9) (i := 0) (cs := kM_ r_24 B11 c11) (vs := kM_ r_24 B11 c11) k_ag_30 k_sz_30_3 rfl rfl (hS35.cf (i := 13) rfl) rfl rfl)) ?_
      obtain ⟨r_26, hc14, hF14⟩ := bind_inv hF14
      refine sgc 131 (B := (!((!r_23) || (!r_25)))) (v := .bool r_26) (F := hS35.fn) rfl rfl (uF_ 128) hS35 (fun hg18 => (Yc_func (g := 10) (vs := [gM_ r_22 B10 c10, gM_ r_24 B11 c11]) k_call_10 rfl (mc (gv_of (v := gM_ r_22 B10 c10) hg18) (mc (gv_of (v := gM_ r_24 B11 c11) hg18) mn)) (CV.mono (c_spec_EqualMatrices r_22 r_24 B10 c10 r_22.Cells.length B11 c11 r_24.Cells.length _ rfl rfl (hS35.inn0 [(false, 10), (false, 12)] rfl) (gb_inv hc14 hg18)) (by rintro _ _ ⟨rfl, h⟩; exact ⟨rfl, hS35.out00 h⟩)))) ?_
      rintro w_34 hS36
      refine sQ 132 (Y_or (b := ((!r_23) || (!r_25))) (z := r_26) rfl rfl rfl rfl) ?_
      refine sQ 4 (Y_assign (v := .bool (((!r_23) || (!r_25)) || r_26)) rfl rfl) (rw_nil (cw_ret ?_))
      obtain rfl := some_inj hF14
      exact ret1 Tryz.results3 (v1 := .bool (((!r_23) || (!r_25)) || r_26)) (resAt_tmp rfl) ⟨rfl, (hS36.sN [])⟩
     ·skip
      have hF15 := cf' hF9 hb6
      refine cw_skip (cw_seq (cw_region ?_))
      refine sQ 4 (Y_assign (v := .bool true) rfl rfl) (rw_nil (cw_ret ?_))
      obtain rfl := some_inj hF15
      exact ret1 Tryz.results3 (v1 := .bool true) (resAt_tmp rfl) ⟨rfl, (hS29.sN [])⟩
end Go.VK
