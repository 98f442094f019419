/- Walks: each Go function returns what its Lean function says. By program. -/
import Derived.Test.YteaclldklaocmaaReduceColumnFa
import Derived.Test.YteaclldklaocmaaReduceColumnW3
set_option linter.unusedVariables false
set_option maxRecDepth 100000
set_option maxHeartbeats 4000000
namespace Go.VK
open Go.RowKit
open Go.Proofs
open Go.IntKind
attribute [local irreducible] CW RW RA CV Y Yw Yc Ys RetOf
attribute [local irreducible] F_laws_szDyadicS F_laws_szMatrix F_spec_l1In F_spec_l1Has F_spec_l3Dim F_spec_l1All F_spec_l1Good F_spec_l1Even F_spec_l2Good F_spec_l3Good F_spec_l11Dim F_spec_l2C_ring F_spec_l1Root F_spec_l1Half F_spec_l2Low F_spec_l1Add F_spec_l2C_add F_spec_l1Mul F_spec_l2C_mul F_spec_l1Conj F_spec_l2Conj F_spec_l1Turn F_spec_l2Power F_spec_l2C_unit F_spec_l1Most F_spec_l3Exp F_spec_l11Scaled F_spec_l11Odd F_spec_l11Type F_spec_l11Pair F_spec_l11Power F_spec_l11Next F_spec_l1Neg F_spec_l2Neg F_spec_l2C_level F_spec_PhaseOf F_spec_l1Least F_spec_l2C_column F_spec_ReduceColumn F_laws_toRing F_laws_toDyadic F_laws_toDyadicS F_laws_toMatrix F_impl_within F_impl_isDim F_slices_IndexFunc_impl_Dyadic_impl_Dyadic F_slices_ContainsFunc_impl_Dyadic_impl_Dyadic F_impl_isCoef F_impl_IsValidRing F_impl_isEven F_impl_IsValidDyadic F_impl_IsValidMatrix_1 F_impl_IsValidMatrix F_impl_isLevelDim F_impl_ringIf F_impl_MulRing F_impl_DivRootTwo F_impl_DyadicOf F_impl_MulDyadic F_impl_Conjugate F_impl_ConjDyadic F_impl_NormSquare F_impl_MulRootTwo F_impl_raised F_impl_combined F_impl_AddRing F_impl_AddDyadic F_impl_whole F_impl_isColumn F_impl_LeastExp F_impl_MulOmega F_impl_phase F_impl_PhaseOf F_impl_finishing F_impl_ResidueType F_impl_nextPair F_impl_parities F_impl_MatchingPower F_impl_lowering F_impl_IsValidTwoLevel F_impl_matrixOf F_impl_small F_impl_levelCell F_impl_TwoLevelMatrix_1 F_impl_TwoLevelMatrix F_impl_Matrix_at F_impl_MulMatrix_1 F_impl_MulMatrix F_impl_ReduceColumn F_laws_eqTwoLevel F_laws_eqTwoLevelS F_laws_eqRing F_laws_eqDyadic F_laws_eqDyadicS F_laws_eqMatrix F_laws_markDyadicS F_laws_markMatrix F_laws_markTwoLevelS F_laws_heldTwoLevelS F_laws_FnExactReduceColumn
theorem c_laws_FnExactReduceColumn (aV : TMatrix) (aFrom : Int) (B : Option Addr) (c n : Nat) (w0 : World) (hn : aV.Cells.length = n) (hS : ST w0 [] w0 [] [⟨B, (aV.Cells.flatMap eN0)⟩]) {r_ : Bool} (hF : F_laws_FnExactReduceColumn aV aFrom = some r_) :
  CV Try.prog 6 #[.agg #[vi aV.Rows, vi aV.Cols, .slice B n c], vi aFrom] w0 (fun v w' => v = .bool r_ ∧ ST w0 [] w' [] []) := by
 subst hn
 unfold F_laws_FnExactReduceColumn at hF
 refine cv_of_cw 101 Try.func6 rfl Try.ntmps6 rfl ?_
 refine cw_seq (cw_region ?_)
 refine sS 2 (Ys_box (T := 68) (v := gM_ aV B c) (cs := kM_ aV B c) (m := 3) hS rfl rfl rfl rfl) ?_
 rintro _ w_ ⟨b, rfl, hS1⟩
 refine sQ 4 (Y_assign (v := .bool false) rfl rfl) (rw_nil (cw_seq (cw_region ?_)))
 refine sQ 5 (Y_assign (v := vi 1048576) rfl rfl) (rw_nil (cw_seq (cw_region ?_)))
 refine sQ 16 (Y_loadA (B := aD b) (i := 0) (cs := kM_ aV B c) (vs := kM_ aV B c) k_ag_68 k_sz_68_3 rfl rfl (hS1.cf (i := 0) rfl) rfl rfl) ?_
 refine sQ 17 (Y_move (v := vi 1048576) rfl rfl) ?_
 obtain ⟨r_1, hc, hF⟩ := bind_inv hF
 refine sc 18 rfl rfl (Yc_func (g := 29) (vs := [gM_ aV B c, vi 1048576]) k_call_29 rfl (mc rfl (mc rfl mn)) (c_laws_szMatrix aV 1048576 B c aV.Cells.length _ rfl (hS1.inn0 [(true, 0)] rfl) hc)) ?_
 rintro _ w_1 ⟨rfl, hd⟩
 have hS2 := hS1.out00 hd
 refine sQ 5 (Y_assign (v := vi r_1) rfl rfl) (rw_nil (cw_seq (cw_seq (cw_region ?_))))
 refine sQ 19 (Y_move (v := vi r_1) rfl rfl) ?_
 refine sQ 20 (Y_lt (k := .i64) (a := r_1) (b := 0) rfl rfl rfl) (rw_nil ?_)
 refine cw_cond (b := (decide (r_1 < 0))) rfl (fun hb => ?_) (fun hb => ?_)
 ·skip
  have hF1 := ct hF hb
  refine cw_seq (cw_region ?_)
  refine sQ 4 (Y_assign (v := .bool true) rfl rfl) (rw_nil (cw_ret ?_))
  obtain rfl := some_inj hF1
  exact ret1 Try.results6 (v1 := .bool true) (resAt_tmp rfl) ⟨rfl, (hS2.sN [])⟩
 ·skip
  have hF2 := cf' hF hb
  refine cw_skip (cw_seq (cw_region ?_))
  refine sQ 22 (Y_loadA (B := aD b) (i := 0) (cs := kM_ aV B c) (vs := kM_ aV B c) k_ag_68 k_sz_68_3 rfl rfl (hS2.cf (i := 0) rfl) rfl rfl) ?_
  obtain ⟨r_2, hc1, hF2⟩ := bind_inv hF2
  refine sc 23 rfl rfl (Yc_func (g := 31) (vs := [gM_ aV B c]) k_call_31 rfl (mc rfl mn) (c_laws_toMatrix aV B c aV.Cells.length _ rfl (hS2.inn0 [(true, 0)] rfl) hc1)) ?_
  rintro _ w_2 ⟨B1, c1, rfl, hd1⟩
  have hS3 := hS2.out0 hd1
  refine sQ 24 (Y_move (v := vi aFrom) rfl rfl) ?_
  obtain ⟨⟨r_3, r_4⟩, hc2, hF2⟩ := bind_inv hF2
  refine sc 25 rfl rfl (Yc_func (g := 30) (vs := [gM_ r_2 B1 c1, vi aFrom]) k_call_30 rfl (mc rfl (mc rfl mn)) (c_spec_ReduceColumn r_2 aFrom B1 c1 r_2.Cells.length _ rfl (hS3.lencap (i := 1) rfl (fm_lenn (l := r_2.Cells) eN1 rfl) rfl rfl) (hS3.inn0 [(false, 1)] rfl) hc2)) ?_
  rintro _ w_3 ⟨B2, c2, rfl, hd2⟩
  have hS4 := hS3.out0 hd2
  refine sQ 21 (Y_move (v := .tuple #[.slice B2 r_3.length c2, .bool r_4]) rfl rfl) ?_
  refine sQ 26 (Y_extract (v := .slice B2 r_3.length c2) rfl rfl rfl) ?_
  refine sQ 27 (Y_extract (v := .bool r_4) rfl rfl rfl) ?_
  refine sQ 6 (Y_assign (v := .slice B2 r_3.length c2) rfl rfl) ?_
  refine sQ 7 (Y_assign (v := .bool r_4) rfl rfl) (rw_nil (cw_seq (cw_region ?_)))
  refine sQ 28 (Y_loadA (B := aD b) (i := 0) (cs := kM_ aV B c) (vs := kM_ aV B c) k_ag_68 k_sz_68_3 rfl rfl (hS4.cf (i := 0) rfl) rfl rfl) ?_
  obtain ⟨r_5, hc3, hF2⟩ := bind_inv hF2
  refine sc 29 rfl rfl (Yc_func (g := 31) (vs := [gM_ aV B c]) k_call_31 rfl (mc rfl mn) (c_laws_toMatrix aV B c aV.Cells.length _ rfl (hS4.inn0 [(true, 0)] rfl) hc3)) ?_
  rintro _ w_4 ⟨B3, c3, rfl, hd3⟩
  have hS5 := hS4.out0 hd3
  refine sS 8 (Ys_alloc (T := 75) (cs := kN_) (m := 3) hS5 k_zero_75 rfl rfl rfl) ?_
  rintro _ w_5 ⟨b1, rfl, hS6⟩
  refine s0 (Ys_store (i := 4) (s := 3) (B := aD b1) (T' := 75) (v := gM_ r_5 B3 c3) (vs := kM_ r_5 B3 c3) (k := 0) (cs' := kM_ r_5 B3 c3) hS6 k_sz_75_3 rfl rfl rfl rfl rfl rfl rfl (lB rfl) rfl rfl) ?_
  rintro _ w_6 ⟨rfl, hS7⟩
  refine rw_nil (cw_seq (cw_region ?_))
  refine sQ 31 (Y_loadA (B := aD b1) (i := 0) (cs := kM_ r_5 B3 c3) (vs := kM_ r_5 B3 c3) k_ag_75 k_sz_75_3 rfl rfl (hS7.cf (i := 4) rfl) rfl rfl) ?_
  refine sQ 32 (Y_move (v := vi aFrom) rfl rfl) ?_
  obtain ⟨⟨r_6, r_7⟩, hc4, hF2⟩ := bind_inv hF2
  refine sc 33 rfl rfl (Yc_func (g := 32) (vs := [gM_ r_5 B3 c3, vi aFrom]) k_call_32 rfl (mc rfl (mc rfl mn)) (c_impl_ReduceColumn r_5 aFrom B3 c3 r_5.Cells.length _ rfl (hS7.lencap (i := 3) rfl (fm_lenn (l := r_5.Cells) eN1 rfl) rfl rfl) (hS7.inn0 [(false, 3)] rfl) hc4)) ?_
  rintro _ w_7 ⟨B4, c4, rfl, hd4⟩
  have hS8 := hS7.out0 hd4
  refine sQ 30 (Y_move (v := .tuple #[.slice B4 r_6.length c4, .bool r_7]) rfl rfl) ?_
  refine sQ 34 (Y_extract (v := .slice B4 r_6.length c4) rfl rfl rfl) ?_
  refine sQ 35 (Y_extract (v := .bool r_7) rfl rfl rfl) ?_
  refine sQ 9 (Y_assign (v := .slice B4 r_6.length c4) rfl rfl) ?_
  refine sQ 10 (Y_assign (v := .bool r_7) rfl rfl) (rw_nil (cw_seq (cw_seq (cw_region ?_))))
  refine sQ 36 (Y_move (v := .slice B4 r_6.length c4) rfl rfl) ?_
  refine sQ 37 (Y_move (v := .slice B2 r_3.length c2) rfl rfl) ?_
  obtain ⟨r_8, hc5, hF2⟩ := bind_inv hF2
  refine sc 38 rfl rfl (Yc_func (g := 33) (vs := [.slice B4 r_6.length c4, .slice B2 r_3.length c2]) k_call_33 rfl (mc rfl (mc rfl mn)) (c_laws_eqTwoLevelS r_6 r_3 B4 c4 r_6.length B2 c2 r_3.length _ rfl rfl (hS8.inn0 [(false, 5), (false, 2)] rfl) hc5)) ?_
  rintro _ w_8 ⟨rfl, hd5⟩
  have hS9 := hS8.out00 hd5
  refine sQ 39 (Y_not (p := r_8) rfl rfl) ?_
  refine sQ 40 (Y_move (v := .bool (!r_8)) rfl rfl) ?_
  refine sgq 41 (B := (!(!r_8))) (v := .bool r_7) rfl rfl (uF_ 40) (fun hg => (Y_move (v := .bool r_7) rfl rfl)) ?_
  refine sgq 42 (B := (!(!r_8))) (v := .bool r_4) rfl rfl (uF_ 40) (fun hg1 => (Y_move (v := .bool r_4) rfl rfl)) ?_
  refine sgq 43 (B := (!(!r_8))) (v := .bool (!(r_7 == r_4))) rfl rfl (uF_ 40) (fun hg2 => (Y_bne (p := r_7) (q := r_4) k_und_4 rfl (gv_of (v := .bool r_7) hg2) (gv_of (v := .bool r_4) hg2))) ?_
  refine sQ 44 (Y_or (b := (!r_8)) (z := (!(r_7 == r_4))) rfl rfl rfl rfl) (rw_nil ?_)
  refine cw_cond (b := ((!r_8) || (!(r_7 == r_4)))) rfl (fun hb1 => ?_) (fun hb1 => ?_)
  ·skip
   have hF3 := ct hF2 hb1
   refine cw_seq (cw_region ?_)
   refine sQ 4 (Y_assign (v := .bool false) rfl rfl) (rw_nil (cw_ret ?_))
   obtain rfl := some_inj hF3
   exact ret1 Try.results6 (v1 := .bool false) (resAt_tmp rfl) ⟨rfl, (hS9.sN [])⟩
  ·skip
   have hF4 := cf' hF2 hb1
   refine cw_skip (cw_seq (cw_seq ?_))
   obtain ⟨r_9, hc6, hF4⟩ := bind_inv hF4
   obtain ⟨r_10, hc7, hF4⟩ := bind_inv hF4
   refine ra_start (hS9.se [0, 1, 2, 3, 4, 5]).fn (by kernel_rfl) ?_
   have hS12 := hS9.drew
   refine rq 0 45 (v := gM_ r_5 B3 c3) rfl (hS12.se [0, 1, 2, 3, 4, 5]) (fun w' hw' => (Y_loadA (B := aD b1) (i := 0) (cs := kM_ r_5 B3 c3) (vs := kM_ r_5 B3 c3) k_ag_75 k_sz_75_3 rfl rfl (ST.cf hw' (i := 4) rfl) rfl rfl)) ?_
   refine rq 1 46 (v := gM_ aV B c) rfl (hS12.se [0, 1, 2, 3, 4, 5]) (fun w' hw' => (Y_loadA (B := aD b) (i := 0) (cs := kM_ aV B c) (vs := kM_ aV B c) k_ag_68 k_sz_68_3 rfl rfl (ST.cf hw' (i := 0) rfl) rfl rfl)) ?_
   refine rA [2] ?_
   refine ra_c 47 (i := 2) rfl rfl rfl (Yc_func (g := 31) (vs := [gM_ aV B c]) k_call_31 rfl (mc rfl mn) (c_laws_toMatrix aV B c aV.Cells.length _ rfl (hS12.inn0 [(true, 0)] rfl) hc6)) ?_ ?_
   ·rintro _ w_9 ⟨B5, c5, rfl, hd6⟩
    have hS13 := hS12.out0 hd6
    refine ⟨(hS13.se [0, 1, 2, 3, 4, 5]), ?_⟩
    refine rA [3] ?_
    refine ra_c 48 (i := 3) rfl rfl rfl (Yc_func (g := 34) (vs := [gM_ r_5 B3 c3, gM_ r_9 B5 c5]) k_call_34 rfl (mc rfl (mc rfl mn)) (c_laws_eqMatrix r_5 r_9 B3 c3 r_5.Cells.length B5 c5 r_9.Cells.length _ rfl rfl (hS13.inn0 [(false, 3), (false, 6)] rfl) hc7)) ?_ ?_
    ·rintro _ w_10 ⟨rfl, hd7⟩
     have hS14 := hS13.out00 hd7
     refine ⟨(hS14.se [0, 1, 2, 3, 4, 5]), ?_⟩
     refine rq 4 49 (v := .bool (!r_10)) rfl (hS14.se [0, 1, 2, 3, 4, 5]) (fun w' hw' => (Y_not (p := r_10) rfl rfl)) ?_
     refine ra_done (by kernel_rfl) ?_
     refine cw_cond (b := (!r_10)) rfl (fun hb2 => ?_) (fun hb2 => ?_)
     ·skip
      have hF5 := ct hF4 hb2
      refine cw_seq (cw_region ?_)
      refine sQ 4 (Y_assign (v := .bool false) rfl rfl) (rw_nil (cw_ret ?_))
      obtain rfl := some_inj hF5
      exact ret1 Try.results6 (v1 := .bool false) (resAt_tmp rfl) ⟨rfl, (hS14.sN [])⟩
     ·skip
      have hF6 := cf' hF4 hb2
      refine cw_skip (cw_seq (cw_region ?_))
      refine sQ 11 (Y_assign (v := vi 1) rfl rfl) (rw_nil (cw_seq (cw_region ?_)))
      refine sQ 50 (Y_loadA (B := aD b1) (i := 0) (cs := kM_ r_5 B3 c3) (vs := kM_ r_5 B3 c3) k_ag_75 k_sz_75_3 rfl rfl (hS14.cf (i := 4) rfl) rfl rfl) ?_
      refine sQ 51 (Y_move (v := vi 1) rfl rfl) ?_
      obtain ⟨⟨r_11, m⟩, hc8, hF6⟩ := bind_inv hF6
      refine sc 52 rfl rfl (Yc_func (g := 35) (vs := [gM_ r_5 B3 c3, vi 1]) k_call_35 rfl (mc rfl (mc rfl mn)) (c_laws_markMatrix r_5 1 B3 c3 r_5.Cells.length _ rfl (hS14.inn [false, false, false, true, false, false, false] rfl [] rfl) hc8)) ?_
      rintro _ w_11 ⟨rfl, hl, hd8⟩
      have hS15 := hS14.out [false, false, false, true, false, false, false] rfl hd8
      refine sQ 11 (Y_assign (v := vi r_11) rfl rfl) (rw_nil (cw_seq (cw_seq (cw_region ?_))))
      refine sQ 53 (Y_move (v := vi r_11) rfl rfl) ?_
      refine sQ 54 (Y_lt (k := .i64) (a := r_11) (b := 0) rfl rfl rfl) ?_
      refine sQ 55 (Y_move (v := .bool (decide (r_11 < 0))) rfl rfl) ?_
      refine sgq 56 (B := (!(decide (r_11 < 0)))) (v := .slice B4 r_6.length c4) rfl rfl (uF_ 55) (fun hg3 => (Y_move (v := .slice B4 r_6.length c4) rfl rfl)) ?_
      refine sgq 57 (B := (!(decide (r_11 < 0)))) (v := .slice B2 r_3.length c2) rfl rfl (uF_ 55) (fun hg4 => (Y_move (v := .slice B2 r_3.length c2) rfl rfl)) ?_
      obtain ⟨r_12, hc9, hF6⟩ := bind_inv hF6
      refine sgc 58 (B := (!(decide (r_11 < 0)))) (v := .bool r_12) (F := hS15.fn) rfl rfl (uF_ 55) hS15 (fun hg5 => (Yc_func (g := 33) (vs := [.slice B4 r_6.length c4, .slice B2 r_3.length c2]) k_call_33 rfl (mc (gv_of (v := .slice B4 r_6.length c4) hg5) (mc (gv_of (v := .slice B2 r_3.length c2) hg5) mn)) (CV.mono (c_laws_eqTwoLevelS r_6 r_3 B4 c4 r_6.length B2 c2 r_3.length _ rfl rfl (hS15.inn0 [(false, 4), (false, 2)] rfl) (gb_inv hc9 hg5)) (by rintro _ _ ⟨rfl, h⟩; exact ⟨rfl, hS15.out00 h⟩)))) ?_
      rintro w_12 hS16
      refine sgq 59 (B := (!(decide (r_11 < 0)))) (v := .bool (!r_12)) rfl rfl (uF_ 55) (fun hg6 => (Y_not (p := r_12) rfl (gv_of (v := .bool r_12) hg6))) ?_
      refine sQ 60 (Y_or (b := (decide (r_11 < 0))) (z := (!r_12)) rfl rfl rfl rfl) ?_
      refine sQ 61 (Y_move (v := .bool ((decide (r_11 < 0)) || (!r_12))) rfl rfl) ?_
      refine sgq 62 (B := (!((decide (r_11 < 0)) || (!r_12)))) (v := .bool r_7) rfl rfl (uF_ 61) (fun hg7 => (Y_move (v := .bool r_7) rfl rfl)) ?_
      refine sgq 63 (B := (!((decide (r_11 < 0)) || (!r_12)))) (v := .bool r_4) rfl rfl (uF_ 61) (fun hg8 => (Y_move (v := .bool r_4) rfl rfl)) ?_
      refine sgq 64 (B := (!((decide (r_11 < 0)) || (!r_12)))) (v := .bool (!(r_7 == r_4))) rfl rfl (uF_ 61) (fun hg9 => (Y_bne (p := r_7) (q := r_4) k_und_4 rfl (gv_of (v := .bool r_7) hg9) (gv_of (v := .bool r_4) hg9))) ?_
      refine sQ 65 (Y_or (b := ((decide (r_11 < 0)) || (!r_12))) (z := (!(r_7 == r_4))) rfl rfl rfl rfl) (rw_nil ?_)
      refine cw_cond (b := (((decide (r_11 < 0)) || (!r_12)) || (!(r_7 == r_4)))) rfl (fun hb3 => ?_) (fun hb3 => ?_)
      ·skip
       have hF7 := ct hF6 hb3
       refine cw_seq (cw_region ?_)
       refine sQ 4 (Y_assign (v := .bool false) rfl rfl) (rw_nil (cw_ret ?_))
       obtain rfl := some_inj hF7
       exact ret1 Try.results6 (v1 := .bool false) (resAt_tmp rfl) ⟨rfl, (hS16.sN [])⟩
      ·skip
       have hF8 := cf' hF6 hb3
       refine cw_skip (cw_seq (cw_region ?_))
       refine sQ 12 (Y_assign (v := vi 1) rfl rfl) (rw_nil (cw_seq (cw_region ?_)))
       refine sQ 66 (Y_move (v := .slice B4 r_6.length c4) rfl rfl) ?_
       refine sQ 67 (Y_move (v := vi 1) rfl rfl) ?_
       obtain ⟨⟨r_13, m1⟩, hc10, hF8⟩ := bind_inv hF8
       refine sc 68 rfl rfl (Yc_func (g := 36) (vs := [.slice B4 r_6.length c4, vi 1]) k_call_36 rfl (mc rfl (mc rfl mn)) (c_laws_markTwoLevelS r_6 1 B4 c4 r_6.length _ rfl (hS16.inn [false, false, false, false, true, false, false] rfl [] rfl) hc10)) ?_
       rintro _ w_13 ⟨rfl, hl1, hd9⟩
       have hS17 := hS16.out [false, false, false, false, true, false, false] rfl hd9
       refine sQ 12 (Y_assign (v := vi r_13) rfl rfl) (rw_nil (cw_seq (cw_region ?_)))
       refine sQ 13 (Y_assign (v := vi 1) rfl rfl) (rw_nil (cw_seq (cw_region ?_)))
       refine sQ 69 (Y_move (v := .slice B4 r_6.length c4) rfl rfl) ?_
       refine sQ 70 (Y_move (v := vi 1) rfl rfl) ?_
       obtain ⟨r_14, hc11, hF8⟩ := bind_inv hF8
       refine sc 71 rfl rfl (Yc_func (g := 37) (vs := [.slice B4 r_6.length c4, vi 1]) k_call_37 rfl (mc rfl (mc rfl mn)) (c_laws_heldTwoLevelS m1 1 B4 c4 r_6.length _ hl1 (hS17.inn0 [(false, 6)] rfl) hc11)) ?_
       rintro _ w_14 ⟨rfl, hd10⟩
       have hS18 := hS17.out00 hd10
       refine sQ 13 (Y_assign (v := vi r_14) rfl rfl) (rw_nil (cw_seq (cw_seq (cw_region ?_))))
       refine sQ 72 (Y_move (v := vi r_14) rfl rfl) ?_
       refine sQ 73 (Y_lt (k := .i64) (a := r_14) (b := 0) rfl rfl rfl) (rw_nil ?_)
       refine cw_cond (b := (decide (r_14 < 0))) rfl (fun hb4 => ?_) (fun hb4 => ?_)
       ·skip
        have hF9 := ct hF8 hb4
        refine cw_seq (cw_region ?_)
        refine sQ 4 (Y_assign (v := .bool false) rfl rfl) (rw_nil (cw_ret ?_))
        obtain rfl := some_inj hF9
        exact ret1 Try.results6 (v1 := .bool false) (resAt_tmp rfl) ⟨rfl, (hS18.sN [])⟩
       ·skip
        have hF10 := cf' hF8 hb4
        refine cw_skip (cw_seq (cw_seq (cw_region ?_)))
        refine sQ 74 (Y_move (v := vi r_14) rfl rfl) ?_
        refine sQ 75 (Y_move (v := vi r_13) rfl rfl) ?_
        refine sQ 76 (Y_ne (k := .i64) (a := r_14) (b := r_13) rfl rfl rfl) (rw_nil ?_)
        refine cw_cond (b := (r_14 != r_13)) rfl (fun hb5 => ?_) (fun hb5 => ?_)
        ·skip
         have hF11 := ct hF10 hb5
         refine cw_seq (cw_region ?_)
         refine sQ 4 (Y_assign (v := .bool false) rfl rfl) (rw_nil (cw_ret ?_))
         obtain rfl := some_inj hF11
         exact ret1 Try.results6 (v1 := .bool false) (resAt_tmp rfl) ⟨rfl, (hS18.sN [])⟩
        ·skip
         have hF12 := cf' hF10 hb5
         refine cw_skip (cw_seq (cw_region ?_))
         refine sQ 78 (Y_loadA (B := aD b) (i := 0) (cs := kM_ aV B c) (vs := kM_ aV B c) k_ag_68 k_sz_68_3 rfl rfl (hS18.cf (i := 0) rfl) rfl rfl) ?_
         obtain ⟨r_15, hc12, hF12⟩ := bind_inv hF12
         refine sc 79 rfl rfl (Yc_func (g := 31) (vs := [gM_ aV B c]) k_call_31 rfl (mc rfl mn) (c_laws_toMatrix aV B c aV.Cells.length _ rfl (hS18.inn0 [(true, 0)] rfl) hc12)) ?_
         rintro _ w_15 ⟨B6, c6, rfl, hd11⟩
         have hS19 := hS18.out0 hd11
         refine sQ 80 (Y_move (v := vi aFrom) rfl rfl) ?_
         obtain ⟨⟨r_16, r_17⟩, hc13, hF12⟩ := bind_inv hF12
         refine sc 81 rfl rfl (Yc_func (g := 32) (vs := [gM_ r_15 B6 c6, vi aFrom]) k_call_32 rfl (mc rfl (mc rfl mn)) (c_impl_ReduceColumn r_15 aFrom B6 c6 r_15.Cells.length _ rfl (hS19.lencap (i := 7) rfl (fm_lenn (l := r_15.Cells) eN1 rfl) rfl rfl) (hS19.inn0 [(false, 7)] rfl) hc13)) ?_
         rintro _ w_16 ⟨B7, c7, rfl, hd12⟩
         have hS20 := hS19.out0 hd12
         refine sQ 77 (Y_move (v := .tuple #[.slice B7 r_16.length c7, .bool r_17]) rfl rfl) ?_
         refine sQ 82 (Y_extract (v := .slice B7 r_16.length c7) rfl rfl rfl) ?_
         refine sQ 83 (Y_extract (v := .bool r_17) rfl rfl rfl) ?_
         refine sQ 14 (Y_assign (v := .slice B7 r_16.length c7) rfl rfl) ?_
         refine sQ 15 (Y_assign (v := .bool r_17) rfl rfl) (rw_nil (cw_seq (cw_seq (cw_region ?_))))
         refine sQ 84 (Y_move (v := .slice B7 r_16.length c7) rfl rfl) ?_
         refine sQ 85 (Y_move (v := .slice B2 r_3.length c2) rfl rfl) ?_
         obtain ⟨r_18, hc14, hF12⟩ := bind_inv hF12
         refine sc 86 rfl rfl (Yc_func (g := 33) (vs := [.slice B7 r_16.length c7, .slice B2 r_3.length c2]) k_call_33 rfl (mc rfl (mc rfl mn)) (c_laws_eqTwoLevelS r_16 r_3 B7 c7 r_16.length B2 c2 r_3.length _ rfl rfl (hS20.inn0 [(false, 8), (false, 2)] rfl) hc14)) ?_
         rintro _ w_17 ⟨rfl, hd13⟩
         have hS21 := hS20.out00 hd13
         refine sQ 87 (Y_not (p := r_18) rfl rfl) ?_
         refine sQ 88 (Y_move (v := .bool (!r_18)) rfl rfl) ?_
         refine sgq 89 (B := (!(!r_18))) (v := .bool r_17) rfl rfl (uF_ 88) (fun hg10 => (Y_move (v := .bool r_17) rfl rfl)) ?_
         refine sgq 90 (B := (!(!r_18))) (v := .bool r_4) rfl rfl (uF_ 88) (fun hg11 => (Y_move (v := .bool r_4) rfl rfl)) ?_
         refine sgq 91 (B := (!(!r_18))) (v := .bool (!(r_17 == r_4))) rfl rfl (uF_ 88) (fun hg12 => (Y_bne (p := r_17) (q := r_4) k_und_4 rfl (gv_of (v := .bool r_17) hg12) (gv_of (v := .bool r_4) hg12))) ?_
         refine sQ 92 (Y_or (b := (!r_18)) (z := (!(r_17 == r_4))) rfl rfl rfl rfl) (rw_nil ?_)
         refine cw_cond (b := ((!r_18) || (!(r_17 == r_4)))) rfl (fun hb6 => ?_) (fun hb6 => ?_)
         ·skip
          have hF13 := ct hF12 hb6
          refine cw_seq (cw_region ?_)
          refine sQ 4 (Y_assign (v := .bool false) rfl rfl) (rw_nil (cw_ret ?_))
          obtain rfl := some_inj hF13
          exact ret1 Try.results6 (v1 := .bool false) (resAt_tmp rfl) ⟨rfl, (hS21.sN [])⟩
         ·skip
          have hF14 := cf' hF12 hb6
          refine cw_skip (cw_seq (cw_region ?_))
          refine sQ 13 (Y_assign (v := vi 1) rfl rfl) (rw_nil (cw_seq (cw_region ?_)))
          refine sQ 93 (Y_move (v := .slice B4 r_6.length c4) rfl rfl) ?_
          refine sQ 94 (Y_move (v := vi 1) rfl rfl) ?_
          obtain ⟨r_19, hc15, hF14⟩ := bind_inv hF14
          refine sc 95 rfl rfl (Yc_func (g := 37) (vs := [.slice B4 r_6.length c4, vi 1]) k_call_37 rfl (mc rfl (mc rfl mn)) (c_laws_heldTwoLevelS m1 1 B4 c4 r_6.length _ hl1 (hS21.inn0 [(false, 6)] rfl) hc15)) ?_
          rintro _ w_18 ⟨rfl, hd14⟩
          have hS22 := hS21.out00 hd14
          refine sQ 13 (Y_assign (v := vi r_19) rfl rfl) (rw_nil (cw_seq (cw_seq (cw_region ?_))))
          refine sQ 96 (Y_move (v := vi r_19) rfl rfl) ?_
          refine sQ 97 (Y_lt (k := .i64) (a := r_19) (b := 0) rfl rfl rfl) (rw_nil ?_)
          refine cw_cond (b := (decide (r_19 < 0))) rfl (fun hb7 => ?_) (fun hb7 => ?_)
          ·skip
           have hF15 := ct hF14 hb7
           refine cw_seq (cw_region ?_)
           refine sQ 4 (Y_assign (v := .bool false) rfl rfl) (rw_nil (cw_ret ?_))
           obtain rfl := some_inj hF15
           exact ret1 Try.results6 (v1 := .bool false) (resAt_tmp rfl) ⟨rfl, (hS22.sN [])⟩
          ·skip
           have hF16 := cf' hF14 hb7
           refine cw_skip (cw_seq (cw_seq (cw_region ?_)))
           refine sQ 98 (Y_move (v := vi r_19) rfl rfl) ?_
           refine sQ 99 (Y_move (v := vi r_13) rfl rfl) ?_
           refine sQ 100 (Y_ne (k := .i64) (a := r_19) (b := r_13) rfl rfl rfl) (rw_nil ?_)
           refine cw_cond (b := (r_19 != r_13)) rfl (fun hb8 => ?_) (fun hb8 => ?_)
           ·skip
            have hF17 := ct hF16 hb8
            refine cw_seq (cw_region ?_)
            refine sQ 4 (Y_assign (v := .bool false) rfl rfl) (rw_nil (cw_ret ?_))
            obtain rfl := some_inj hF17
            exact ret1 Try.results6 (v1 := .bool false) (resAt_tmp rfl) ⟨rfl, (hS22.sN [])⟩
           ·skip
            have hF18 := cf' hF16 hb8
            refine cw_skip (cw_seq (cw_region ?_))
            refine sQ 4 (Y_assign (v := .bool true) rfl rfl) (rw_nil (cw_ret ?_))
            obtain rfl := some_inj hF18
            exact ret1 Try.results6 (v1 := .bool true) (resAt_tmp rfl) ⟨rfl, (hS22.sN [])⟩
    exact allR_nil
   exact allR_nil
end Go.VK
