/- Walks: each Go function returns what its Lean function says. By program. -/
import Derived.Test.YteaclldklaocmaaGreatLTwoLevelFa
import Derived.Test.YteaclldklaocmaaGreatLTwoLevelW3
set_option linter.unusedVariables false
set_option maxRecDepth 100000
set_option maxHeartbeats 4000000
namespace Go.VK
open Go.RowKit
open Go.Proofs
open Go.IntKind
attribute [local irreducible] CW RW RA CV Y Yw Yc Ys RetOf
attribute [local irreducible] F_laws_big F_spec_DrawInverseTwoLevel F_impl_InverseTwoLevel F_spec_l1In F_spec_l11Valid F_spec_IsValidTwoLevel F_impl_TwoLevelMatrix F_impl_MulMatrix F_impl_ComposeTwoLevel F_spec_l3Dim F_spec_l3Unit F_spec_IdentityMatrix F_spec_EqualMatrices F_spec_l1Even F_spec_l1Good F_spec_l2C_level F_spec_l2C_times F_spec_l3Column F_spec_DrawReduceColumn F_impl_isColumn F_impl_LeastExp F_impl_finishing F_impl_lowering F_impl_ReduceColumn F_spec_TwoLevelMatrix F_spec_l2Good F_spec_l3Good F_spec_l2C_matrix F_spec_MulMatrix F_spec_ColumnOf F_laws_FnTwoLevel
theorem c_impl_ReduceColumn (v_ : TMatrix) (from_ : Int) (B : Option Addr) (c n : Nat) (w0 : World) (hn : v_.Cells.length = n) (hq : n ≤ c) (hS : ST w0 [] w0 [] [⟨B, (v_.Cells.flatMap eN0)⟩]) {r_ : List TTwoLevel} {r_1 : Bool} (hF : F_impl_ReduceColumn v_ from_ = some (r_, r_1)) :
  CV Tryz.prog 12 #[.agg #[vi v_.Rows, vi v_.Cols, .slice B n c], vi from_] w0 (fun v w' => ∃ (B1 : Option Addr) (c1 : Nat), v = .tuple #[.slice B1 r_.length c1, .bool r_1] ∧ ST w0 [] w' [⟨B1, 25, (r_.flatMap eN2), c1 * 4⟩] []) := by
 subst hn
 unfold F_impl_ReduceColumn at hF
 refine cv_of_cw 68 Tryz.func12 rfl Tryz.ntmps12 rfl ?_
 refine cq (cr ?_)
 refine sS 2 (yB 34 (gM_ v_ B c) (kM_ v_ B c) 3 hS) ?_
 rintro _ w_ ⟨b, rfl, hS1⟩
 refine sQ 4 (yg (.slice none 0 0)) <| sQ 5 (yg (.bool false)) (rn (cq (cq (cr ?_))))
 refine sQ 17 (yb (aD b) 0 (kM_ v_ B c) K8 K4 (hS1.c 0)) <| sQ 18 (ym (vi from_)) ?_
 obtain ⟨r_2, hc, hF⟩ := bI hF
 refine sc 19 rfl rfl (yC [gM_ v_ B c, vi from_] k_call_32 (c_impl_isColumn v_ from_ B c v_.Cells.length _ rfl (hS1.inn0 [(true, 0)] rfl) hc)) ?_
 rintro _ w_1 ⟨rfl, hd⟩
 have hS2 := hS1.out00 hd
 refine sQ 20 (Y_not (p := r_2) rfl rfl) (rn ?_)
 refine cw_cond (b := (!r_2)) rfl (fun hb => ?_) (fun hb => ?_)
 ·skip
  have hF1 := ct hF hb
  refine cq (cr ?_)
  refine sQ 4 (yg (.slice none 0 0)) <| sQ 5 (yg (.bool false)) (rn (ct_ ?_))
  have hS3 := hS2.addNil 25
  obtain ⟨rfl, rfl⟩ := pr2 (sI hF1)
  exact ret2 Tryz.results12 (v1 := .slice none 0 0) (resAt_tmp rfl) (v2 := .bool false) (resAt_tmp rfl) ⟨none, 0, rfl, (hS3.sN [1])⟩
 ·skip
  have hF2 := cf' hF hb
  refine cw_skip (cq (cr ?_))
  refine sS 21 (Ys_bslice0 (s := 4) (e := 25) hS2 K28 K11 rfl) ?_
  rintro _ w_2 ⟨b1, rfl, hS4⟩
  refine sQ 6 (yg (.slice (aD b1) 0 0)) (rn ?_)
  obtain ⟨z, hz, hF3⟩ := bI hF2
  refine cw_mid (fun f w => False) ?_ ?_
  ·skip
   have hS6 : ST w0 [] _ [⟨aD b, 34, kM_ v_ B c, 3⟩, ⟨aD b1, 25, ([].flatMap eN2), 0 * 4⟩] [⟨B, (v_.Cells.flatMap eN0)⟩, ⟨B, (v_.Cells.flatMap eN0)⟩] := ST.subR hS4 (sk 0 (sk 0 (fun _ h => by cases h)))
   refine cw_block ?_
   refine cw_loop (fun k f w => ∃ (Rows : Int) (Cols : Int) (Cells : List TDyadic) (out : List TTwoLevel) (B2 : Option Addr) (c2 : Nat) (B3 : Option Addr) (c3 : Nat), FF f [(1, vi from_), (2, pt (aD b) 0), (6, .slice B3 out.length c3)] ∧ Org w0 [] [⟨B, (v_.Cells.flatMap eN0)⟩] [⟨B2, (Cells.flatMap eN0)⟩] ∧ Cells.length ≤ c2 ∧ ST w0 [] w [⟨aD b, 34, [vi Rows, vi Cols, .slice B2 Cells.length c2], 3⟩, ⟨B3, 25, (out.flatMap eN2), c3 * 4⟩] [⟨B2, (Cells.flatMap eN0)⟩, ⟨B, (v_.Cells.flatMap eN0)⟩] ∧ whX (F_impl_ReduceColumn_l1 from_) k (Rows, Cols, Cells, out) = some z) fuel ⟨v_.Rows, v_.Cols, v_.Cells, [], B, c, aD b1, 0, (fc rfl (fc rfl (fc rfl fn_))), (org_mem (i := 0) rfl), (len_le rfl hq), (hS6.sel [0, 1] rfl rfl), hz⟩ ?_
   rintro k_ f w ⟨Rows, Cols, Cells, out, B2, c2, B3, c3, hf, ho, hq1, hS5, hL⟩
   obtain ⟨K9, y, rfl, hb1, hL1⟩ := whX_go hL
   unfold F_impl_ReduceColumn_l1 at hb1
   refine cw_block (cq (cr ?_))
   refine sQ 23 (yb (aD b) 0 [vi Rows, vi Cols, .slice B2 Cells.length c2] K8 K4 (hS5.c 0) rfl (hf.g 2 1)) ?_
   obtain ⟨⟨r_3, r_4⟩, hc1, hb1⟩ := bI hb1
   refine sc 24 rfl rfl (yC [.agg #[vi Rows, vi Cols, .slice B2 Cells.length c2]] k_call_33 (c_impl_LeastExp (TMatrix.mk Rows Cols Cells) B2 c2 Cells.length _ rfl (hS5.inn0 [(true, 0)] rfl) hc1)) ?_
   rintro _ w_3 ⟨rfl, hd1⟩
   have hS7 := hS5.out00 hd1
   refine sQ 22 (ym (.tuple #[vi r_3, .bool r_4])) <| sQ 25 (ye (vi r_3)) <| sQ 26 (ye (.bool r_4)) <| sQ 7 (yg (vi r_3)) <| sQ 8 (yg (.bool r_4)) (rn (cq (cq (cr ?_))))
   refine sQ 27 (ym (vi r_3)) <| sQ 28 (yE r_3 0) (rn ?_)
   refine cw_cond (b := (r_3 == 0)) rfl (fun hb2 => ?_) (fun hb2 => ?_)
   ·skip
    have hF4 := ct hb1 hb2
    refine cq (cr ?_)
    refine sQ 30 (yb (aD b) 0 [vi Rows, vi Cols, .slice B2 Cells.length c2] K8 K4 (hS7.c 0) rfl (hf.g 2 1)) <| sQ 31 (ym (vi from_) rfl (hf.g 1 0)) ?_
    obtain ⟨⟨r_5, r_6⟩, hc2, hF4⟩ := bI hF4
    refine sc 32 rfl rfl (yC [.agg #[vi Rows, vi Cols, .slice B2 Cells.length c2], vi from_] k_call_34 (c_impl_finishing (TMatrix.mk Rows Cols Cells) from_ B2 c2 Cells.length _ rfl (hS7.inn0 [(true, 0)] rfl) hc2)) ?_
    rintro _ w_4 ⟨B4, c4, rfl, hd2⟩
    have hS8 := hS7.out0 hd2
    refine sQ 29 (ym (.tuple #[.slice B4 r_5.length c4, .bool r_6])) <| sQ 33 (ye (.slice B4 r_5.length c4)) <| sQ 34 (ye (.bool r_6)) <| sQ 9 (yg (.slice B4 r_5.length c4)) <| sQ 10 (yg (.bool r_6)) (rn (cq (cq (cr ?_))))
    refine sQ 35 (ym (.bool r_6)) <| sQ 36 (Y_not (p := r_6) rfl rfl) (rn ?_)
    refine cw_cond (b := (!r_6)) rfl (fun hb3 => ?_) (fun hb3 => ?_)
    ·skip
     have hF5 := ct hF4 hb3
     refine cq (cr ?_)
     refine sQ 4 (yg (.slice none 0 0)) <| sQ 5 (yg (.bool false)) (rn (ct_ ?_))
     have hS9 := hS8.addNil 25
     obtain rfl := sI hF5
     obtain rfl := sI hL1
     obtain ⟨rfl, rfl⟩ := pr2 (sI hF3)
     exact ret2 Tryz.results12 (v1 := .slice none 0 0) (resAt_tmp rfl) (v2 := .bool false) (resAt_tmp rfl) ⟨none, 0, rfl, (hS9.sN [3])⟩
    ·skip
     have hF6 := cf' hF4 hb3
     refine cw_skip (cq (cr ?_))
     refine sQ 37 (ym (.slice B3 out.length c3) rfl (hf.g 6 2)) <| sQ 38 (ym (.slice B4 r_5.length c4)) ?_
     obtain ⟨hap, hF6⟩ := chk_inv hF6
     refine sS 39 (Ys_append (s := 4) (by' := 32) (i := 1) (nn := out.length) (c := c3) (k := r_5.length) (len := (out ++ r_5).length) (B := B3) (xs := (r_5.flatMap eN2)) (cs' := ((out ++ r_5).flatMap eN2)) hS8 K28 K11 K65 K30 rfl (by decide) rfl rfl rfl rfl (fm_lenn (l := out) enc_TwoLevel_len rfl) rfl (hS8.c 2) (fm_lenn (l := r_5) enc_TwoLevel_len rfl) (fm_one' (enc := eN2) enc_TwoLevel_one r_5) (by have := hap; omega) (by have := hap; simp only [maxLen]; omega) (fm_app _ _) (app_len (l := out) (l' := r_5) rfl rfl)) ?_
     rintro _ w_5 ⟨B5, c5, rfl, hS10⟩
     refine sQ 4 (yg (.slice B5 ((out ++ r_5).length) c5)) <| sQ 5 (yg (.bool true)) (rn (ct_ ?_))
     obtain rfl := sI hF6
     obtain rfl := sI hL1
     obtain ⟨rfl, rfl⟩ := pr2 (sI hF3)
     exact ret2 Tryz.results12 (v1 := .slice B5 ((out ++ r_5).length) c5) (resAt_tmp rfl) (v2 := .bool true) (resAt_tmp rfl) ⟨B5, c5, rfl, (hS10.sN [1])⟩
   ·skip
    have hF7 := cf' hb1 hb2
    refine cw_skip (cq (cr ?_))
    refine sQ 41 (yb (aD b) 0 [vi Rows, vi Cols, .slice B2 Cells.length c2] K8 K4 (hS7.c 0) rfl (hf.g 2 1)) <| sQ 42 (ym (vi r_3)) ?_
    obtain ⟨⟨r_7, r_8⟩, hc3, hF7⟩ := bI hF7
    refine sc 43 rfl rfl (yC [.agg #[vi Rows, vi Cols, .slice B2 Cells.length c2], vi r_3] k_call_35 (c_impl_lowering (TMatrix.mk Rows Cols Cells) r_3 B2 c2 Cells.length _ rfl (hS7.inn0 [(true, 0)] rfl) hc3)) ?_
    rintro _ w_6 ⟨rfl, hd3⟩
    have hS11 := hS7.out00 hd3
    refine sQ 40 (ym (.tuple #[.agg #[vi r_7.Kind, vi r_7.I, vi r_7.J, vi r_7.M_], .bool r_8])) <| sQ 44 (ye (.agg #[vi r_7.Kind, vi r_7.I, vi r_7.J, vi r_7.M_])) <| sQ 45 (ye (.bool r_8)) ?_
    refine sS 11 (yN [vi 0, vi 0, vi 0, vi 0] 4 hS11 K30) ?_
    rintro _ w_7 ⟨b2, rfl, hS12⟩
    refine s0 (yT 2 4 (aD b2) 25 (.agg #[vi r_7.Kind, vi r_7.I, vi r_7.J, vi r_7.M_]) [vi r_7.Kind, vi r_7.I, vi r_7.J, vi r_7.M_] 0 hS12 K11) ?_
    rintro _ w_8 ⟨rfl, hS13⟩
    refine sQ 12 (yg (.bool r_8)) (rn (cq (cq (cr ?_))))
    refine sQ 46 (ym (.bool r_8)) <| sQ 47 (Y_not (p := r_8) rfl rfl) (rn ?_)
    refine cw_cond (b := (!r_8)) rfl (fun hb4 => ?_) (fun hb4 => ?_)
    ·skip
     have hF8 := ct hF7 hb4
     refine cq (cr ?_)
     refine sQ 4 (yg (.slice none 0 0)) <| sQ 5 (yg (.bool false)) (rn (ct_ ?_))
     have hS14 := hS13.addNil 25
     obtain rfl := sI hF8
     obtain rfl := sI hL1
     obtain ⟨rfl, rfl⟩ := pr2 (sI hF3)
     exact ret2 Tryz.results12 (v1 := .slice none 0 0) (resAt_tmp rfl) (v2 := .bool false) (resAt_tmp rfl) ⟨none, 0, rfl, (hS14.sN [3])⟩
    ·skip
     have hF9 := cf' hF7 hb4
     refine cw_skip (cq (cr ?_))
     refine sQ 49 (yd (aD b) 0 0 K34 K0 rfl (hf.g 2 1)) <| sQ 50 (yl (aD b) 0 [vi Rows, vi Cols, .slice B2 Cells.length c2] (vi Rows) K1 (hS13.c 0)) <| sQ 51 (yb (aD b2) 0 [vi r_7.Kind, vi r_7.I, vi r_7.J, vi r_7.M_] K26 K11 (hS13.c 2)) ?_
     obtain ⟨⟨r_9, r_10⟩, hc4, hF9⟩ := bI hF9
     refine sc 52 rfl rfl (yC [vi Rows, .agg #[vi r_7.Kind, vi r_7.I, vi r_7.J, vi r_7.M_]] k_call_22 (c_impl_TwoLevelMatrix Rows r_7 _  (hS13.inn0 [] rfl) hc4)) ?_
     rintro _ w_9 ⟨B6, c6, rfl, hd4⟩
     have hS15 := hS13.out0 hd4
     refine sQ 48 (ym (.tuple #[gM_ r_9 B6 c6, .bool r_10])) <| sQ 53 (ye (gM_ r_9 B6 c6)) <| sQ 54 (ye (.bool r_10)) ?_
     refine sS 13 (yN kN_ 3 hS15 K10) ?_
     rintro _ w_10 ⟨b3, rfl, hS16⟩
     refine s0 (yT 4 3 (aD b3) 34 (gM_ r_9 B6 c6) (kM_ r_9 B6 c6) 0 hS16 K4) ?_
     rintro _ w_11 ⟨rfl, hS17⟩
     refine sQ 14 (yg (.bool r_10)) (rn (cq (cr ?_)))
     refine sQ 56 (yb (aD b3) 0 (kM_ r_9 B6 c6) K8 K4 (hS17.c 4)) <| sQ 57 (yb (aD b) 0 [vi Rows, vi Cols, .slice B2 Cells.length c2] K8 K4 (hS17.c 0) rfl (hf.g 2 1)) ?_
     obtain ⟨⟨r_11, r_12⟩, hc5, hF9⟩ := bI hF9
     refine sc 58 rfl rfl (yC [gM_ r_9 B6 c6, .agg #[vi Rows, vi Cols, .slice B2 Cells.length c2]] k_call_23 (c_impl_MulMatrix r_9 (TMatrix.mk Rows Cols Cells) B6 c6 r_9.Cells.length B2 c2 Cells.length _ rfl rfl (hS17.inn0 [(false, 3), (true, 0)] rfl) hc5)) ?_
     rintro _ w_12 ⟨B7, c7, rfl, hd5⟩
     have hS18 := hS17.out0 hd5
     refine sQ 55 (ym (.tuple #[gM_ r_11 B7 c7, .bool r_12])) <| sQ 59 (ye (gM_ r_11 B7 c7)) <| sQ 60 (ye (.bool r_12)) ?_
     refine sS 15 (yN kN_ 3 hS18 K10) ?_
     rintro _ w_13 ⟨b4, rfl, hS19⟩
     refine s0 (yT 6 3 (aD b4) 34 (gM_ r_11 B7 c7) (kM_ r_11 B7 c7) 0 hS19 K4) ?_
     rintro _ w_14 ⟨rfl, hS20⟩
     refine sQ 16 (yg (.bool r_12)) (rn (cq (cq (cr ?_))))
     refine sQ 61 (ym (.bool r_12)) <| sQ 62 (Y_not (p := r_12) rfl rfl) (rn ?_)
     refine cw_cond (b := (!r_12)) rfl (fun hb5 => ?_) (fun hb5 => ?_)
     ·skip
      have hF10 := ct hF9 hb5
      refine cq (cr ?_)
      refine sQ 4 (yg (.slice none 0 0)) <| sQ 5 (yg (.bool false)) (rn (ct_ ?_))
      have hS21 := hS20.addNil 25
      obtain rfl := sI hF10
      obtain rfl := sI hL1
      obtain ⟨rfl, rfl⟩ := pr2 (sI hF3)
      exact ret2 Tryz.results12 (v1 := .slice none 0 0) (resAt_tmp rfl) (v2 := .bool false) (resAt_tmp rfl) ⟨none, 0, rfl, (hS21.sN [7])⟩
     ·skip
      have hF11 := cf' hF9 hb5
      refine cw_skip ?_
      obtain ⟨hap1, hF11⟩ := chk_inv hF11
      refine ra_start (hS20.se [2, 3, 4, 5, 6]).fn (by kernel_rfl) ?_
      have hS22 := hS20.drew
      refine rq 0 63 (v := gM_ r_11 B7 c7) rfl (hS22.se [2, 3, 4, 5, 6]) (fun w' hw' => (yb (aD b4) 0 (kM_ r_11 B7 c7) K8 K4 (ST.cf hw' (i := 4) rfl))) ?_
      refine rq 1 64 (v := .slice B3 out.length c3) rfl (hS22.se [2, 3, 4, 5, 6]) (fun w' hw' => (ym (.slice B3 out.length c3) rfl (hf.g 6 2))) ?_
      refine rq 2 65 (v := .agg #[vi r_7.Kind, vi r_7.I, vi r_7.J, vi r_7.M_]) rfl (hS22.se [2, 3, 4, 5, 6]) (fun w' hw' => (yb (aD b2) 0 [vi r_7.Kind, vi r_7.I, vi r_7.J, vi r_7.M_] K26 K11 (ST.cf hw' (i := 0) rfl))) ?_
      refine rA [3] ?_
      refine rS 66 3 rfl (Ys_bslice (s := 4) (len := 1) (vs := [(0, .agg #[vi r_7.Kind, vi r_7.I, vi r_7.J, vi r_7.M_])]) (cs := [vi r_7.Kind, vi r_7.I, vi r_7.J, vi r_7.M_]) (zs := [vi 0, vi 0, vi 0, vi 0]) (m := 4) hS22 K28 K11 K52 rfl (mpc rfl mpn) rfl rfl rfl (by kernel_rfl) (by kernel_rfl) rfl) ?_ ?_
      ·rintro _ w_15 ⟨b5, rfl, hS23⟩
       refine ⟨(hS23.se [2, 3, 4, 5, 6]), ?_⟩
       refine rA [4] ?_
       refine rS 67 4 rfl (Ys_append (s := 4) (by' := 32) (i := 1) (nn := out.length) (c := c3) (k := 1) (len := (out ++ [r_7]).length) (B := B3) (xs := ([r_7].flatMap eN2)) (cs' := ((out ++ [r_7]).flatMap eN2)) hS23 K28 K11 K65 K30 rfl (by decide) rfl rfl rfl rfl (fm_lenn (l := out) enc_TwoLevel_len rfl) rfl (hS23.c 7) (fm_lenn (l := [r_7]) enc_TwoLevel_len rfl) (fm_one' (enc := eN2) enc_TwoLevel_one [r_7]) (by have := hap1; omega) (by have := hap1; simp only [maxLen]; omega) (fm_app _ _) (app_len (l := out) (l' := [r_7]) rfl rfl)) ?_ ?_
       ·rintro _ w_16 ⟨B8, c8, rfl, hS24⟩
        refine ⟨(hS24.se [2, 3, 4, 5, 6]), ?_⟩
        refine rA [5] ?_
        refine rZ 5 rfl (yT 0 3 (aD b) 34 (gM_ r_11 B7 c7) (kM_ r_11 B7 c7) 0 hS24 K4 rfl (hf.g 2 1)) ?_ ?_
        ·rintro _ w_17 ⟨rfl, hS25⟩
         refine ⟨(hS25.se [2, 3, 4, 5, 6]), ?_⟩
         refine rq 6 6 (v := .slice B8 ((out ++ [r_7]).length) c8) rfl (hS25.se [2, 3, 4, 5, 6]) (fun w' hw' => (yg (.slice B8 ((out ++ [r_7]).length) c8))) ?_
         refine ra_done (by kernel_rfl) ?_
         obtain rfl := sI hF11
         have ho1 : Org w0 [] [⟨B, (v_.Cells.flatMap eN0)⟩] [⟨B7, (r_11.Cells.flatMap eN0)⟩] := ST.orgOwn hS25 (i := 5) rfl
         have hcap : r_11.Cells.length ≤ c7 := (hS25.lencap (i := 5) rfl (fm_lenn (l := r_11.Cells) eN1 rfl) rfl rfl)
         have hS26 : ST w0 [] _ [⟨aD b, 34, kM_ r_11 B7 c7, 3⟩, ⟨B8, 25, ((out ++ [r_7]).flatMap eN2), c8 * 4⟩, ⟨aD b2, 25, [vi r_7.Kind, vi r_7.I, vi r_7.J, vi r_7.M_], 4⟩, ⟨B6, 51, (r_9.Cells.flatMap eN0), c6 * 5⟩, ⟨aD b3, 34, kM_ r_9 B6 c6, 3⟩, ⟨aD b4, 34, kM_ r_11 B7 c7, 3⟩, ⟨aD b5, 25, ([r_7].flatMap eN2), 1 * 4⟩] [⟨B7, (r_11.Cells.flatMap eN0)⟩, ⟨B2, (Cells.flatMap eN0)⟩, ⟨B, (v_.Cells.flatMap eN0)⟩] := hS25.freeze (i := 5) rfl
         have hS27 : ST w0 [] _ [⟨aD b, 34, kM_ r_11 B7 c7, 3⟩, ⟨B8, 25, ((out ++ [r_7]).flatMap eN2), c8 * 4⟩, ⟨aD b2, 25, [vi r_7.Kind, vi r_7.I, vi r_7.J, vi r_7.M_], 4⟩, ⟨B6, 51, (r_9.Cells.flatMap eN0), c6 * 5⟩, ⟨aD b3, 34, kM_ r_9 B6 c6, 3⟩, ⟨aD b4, 34, kM_ r_11 B7 c7, 3⟩, ⟨aD b5, 25, ([r_7].flatMap eN2), 1 * 4⟩] [⟨B7, (r_11.Cells.flatMap eN0)⟩, ⟨B, (v_.Cells.flatMap eN0)⟩] := ST.subR hS26 (sk 0 (sk 2 (fun _ h => by cases h)))
         exact ⟨K9, Nat.lt_succ_self _, r_11.Rows, r_11.Cols, r_11.Cells, (out ++ [r_7]), B7, c7, B8, c8, (fc (hf.g 1 0) (fc (hf.g 2 1) (fc rfl fn_))), ho1, (len_le rfl hcap), (hS27.sel [0, 1] rfl rfl), hL1⟩
        exact aN
       exact aN
      exact aN
  rintro _ _ h
  exact h.elim

theorem c_spec_TwoLevelMatrix (n : Int) (t : TTwoLevel)  (w0 : World)  (hS : ST w0 [] w0 [] []) {r_ : TMatrix} {r_1 : Bool} (hF : F_spec_TwoLevelMatrix n t = some (r_, r_1)) :
  CV Tryz.prog 13 #[vi n, .agg #[vi t.Kind, vi t.I, vi t.J, vi t.M_]] w0 (fun v w' => ∃ (B : Option Addr) (c : Nat), v = .tuple #[gM_ r_ B c, .bool r_1] ∧ ST w0 [] w' [⟨B, 51, (r_.Cells.flatMap eN0), c * 5⟩] []) := by
 unfold F_spec_TwoLevelMatrix at hF
 refine cv_of_cw 19 Tryz.func13 rfl Tryz.ntmps13 rfl ?_
 refine cq (cr ?_)
 refine sS 3 (yB 25 (.agg #[vi t.Kind, vi t.I, vi t.J, vi t.M_]) [vi t.Kind, vi t.I, vi t.J, vi t.M_] 4 hS) ?_
 rintro _ w_ ⟨b, rfl, hS1⟩
 refine sS 4 (yN kN_ 3 hS1 K10) ?_
 rintro _ w_1 ⟨b1, rfl, hS2⟩
 refine sQ 5 (yg (.bool false)) (rn (cq (cq (cr ?_))))
 refine sQ 7 (ym (vi n)) <| sQ 8 (yb (aD b) 0 [vi t.Kind, vi t.I, vi t.J, vi t.M_] K26 K11 (hS2.c 0)) ?_
 obtain ⟨r_2, hc, hF⟩ := bI hF
 refine sc 9 rfl rfl (yC [vi n, .agg #[vi t.Kind, vi t.I, vi t.J, vi t.M_]] K86 (c_spec_l11Valid n t _  (hS2.inn0 [] rfl) hc)) ?_
 rintro _ w_2 ⟨rfl, hd⟩
 have hS3 := hS2.out00 hd
 refine sQ 10 (Y_not (p := r_2) rfl rfl) (rn ?_)
 refine cw_cond (b := (!r_2)) rfl (fun hb => ?_) (fun hb => ?_)
 ·skip
  have hF1 := ct hF hb
  refine cq (cr ?_)
  refine sQ 11 (Y_buildS (zs := kN_) (vs := []) (cs := kN_) K32 K10 rfl mpn rfl) ?_
  refine s0 (yT 1 3 (aD b1) 34 gN_ kN_ 0 hS3 K4) ?_
  rintro _ w_3 ⟨rfl, hS4⟩
  refine sQ 5 (yg (.bool false)) (rn (ct_ ?_))
  have hS5 := hS4.addNil 51
  obtain ⟨rfl, rfl⟩ := pr2 (sI hF1)
  exact ret2 Tryz.results13 (v1 := gN_) (resAt_cellA (B := aD b1) (i := 0) (cs := kN_) (vs := kN_) rfl K8 K4 (hS5.c 1) rfl rfl) (v2 := .bool false) (resAt_tmp rfl) ⟨none, 0, rfl, (hS5.sN [2])⟩
 ·skip
  have hF2 := cf' hF hb
  refine cw_skip (cq (cr ?_))
  refine sQ 12 (Y_buildS (zs := [.bool false]) (vs := []) (cs := [.bool false]) K96 K97 rfl mpn rfl) ?_
  refine sS 13 (yB 67 (.agg #[.bool false]) [.bool false] 1 hS3) ?_
  rintro _ w_4 ⟨b2, rfl, hS6⟩
  refine sQ 6 (yg (pt (aD b2) 0)) (rn (cq ?_))
  obtain ⟨r_3, hc1, hF2⟩ := bI hF2
  obtain ⟨⟨r_4, m⟩, hc2, hF2⟩ := bI hF2
  refine ra_start (hS6.se [0]).fn (by kernel_rfl) ?_
  have hS9 := hS6.drew
  refine rq 0 14 (v := pt (aD b2) 0) rfl (hS9.se [0]) (fun w' hw' => (ym (pt (aD b2) 0))) ?_
  refine rq 1 15 (v := vi n) rfl (hS9.se [0]) (fun w' hw' => (ym (vi n))) ?_
  refine rq 3 17 (v := .agg #[vi t.Kind, vi t.I, vi t.J, vi t.M_]) rfl (hS9.se [0]) (fun w' hw' => (yb (aD b) 0 [vi t.Kind, vi t.I, vi t.J, vi t.M_] K26 K11 (ST.cf hw' (i := 0) rfl))) ?_
  refine rA [2] ?_
  refine rC 16 2 rfl (yC [vi n] K82 (c_spec_l3Unit n _  (hS9.inn0 [] rfl) hc1)) ?_ ?_
  ·rintro _ w_5 ⟨B1, c1, rfl, hd1⟩
   have hS10 := hS9.out0 hd1
   refine ⟨(hS10.se [0]), ?_⟩
   refine rA [4] ?_
   refine rC 18 4 rfl (yC [pt (aD b2) 0, gM_ r_3 B1 c1, .agg #[vi t.Kind, vi t.I, vi t.J, vi t.M_]] k_call_36 (c_spec_l2C_level (Tl2C.mk false) r_3 t (aD b2) B1 c1 r_3.Cells.length _ rfl (hS10.inn [false, false, true, false] rfl [(false, 2)] rfl) hc2)) ?_ ?_
   ·rintro _ w_6 ⟨B2, c2, rfl, hd2⟩
    have hS11 := hS10.out [false, false, true, false] rfl hd2
    refine ⟨(hS11.se [0]), ?_⟩
    refine rA [5] ?_
    refine rZ 5 rfl (yT 1 3 (aD b1) 34 (gM_ r_4 B2 c2) (kM_ r_4 B2 c2) 0 hS11 K4) ?_ ?_
    ·rintro _ w_7 ⟨rfl, hS12⟩
     refine ⟨(hS12.se [0]), ?_⟩
     refine rq 6 5 (v := .bool true) rfl (hS12.se [0]) (fun w' hw' => (yg (.bool true))) ?_
     refine ra_done (by kernel_rfl) ?_
     refine ct_ ?_
     obtain ⟨rfl, rfl⟩ := pr2 (sI hF2)
     exact ret2 Tryz.results13 (v1 := gM_ r_4 B2 c2) (resAt_cellA (B := aD b1) (i := 0) (cs := kM_ r_4 B2 c2) (vs := kM_ r_4 B2 c2) rfl K8 K4 (hS12.c 1) rfl rfl) (v2 := .bool true) (resAt_tmp rfl) ⟨B2, c2, rfl, (hS12.sN [4])⟩
    exact aN
   exact aN
  exact aN

theorem c_spec_l2Good (x : TDyadic)  (w0 : World)  (hS : ST w0 [] w0 [] []) {r_ : Bool} (hF : F_spec_l2Good x = some r_) :
  CV Tryz.prog 75 #[gD_ x] w0 (fun v w' => v = .bool r_ ∧ ST w0 [] w' [] []) := by
 unfold F_spec_l2Good at hF
 refine cv_of_cw 22 Tryz.func75 rfl Tryz.ntmps75 rfl ?_
 refine cq (cr ?_)
 refine sS 1 (yB 51 (gD_ x) (kD_ x) 5 hS) ?_
 rintro _ w_ ⟨b, rfl, hS1⟩
 refine sQ 2 (yg (.bool false)) (rn (cq (cr ?_)))
 refine sQ 3 (yd (aD b) 0 3 K41 K3) <| sQ 4 (ya (aD b) 0 (kD_ x) (kR_ x.Num) K7 K3 (hS1.c 0)) ?_
 obtain ⟨r_1, hc, hF⟩ := bI hF
 refine sc 5 rfl rfl (yC [gR_ x.Num] K112 (c_spec_l1Good x.Num _  (hS1.inn0 [] rfl) hc)) ?_
 rintro _ w_1 ⟨rfl, hd⟩
 have hS2 := hS1.out00 hd
 refine sQ 6 (ym (.bool r_1)) ?_
 refine sgq 7 (B := r_1) (v := pt (aD b) 4) rfl rfl (uT_ 6) (fun hg => (yd (aD b) 0 0 K33 K0)) ?_
 refine sgq 8 (B := r_1) (v := vi x.Exp) rfl rfl (uT_ 6) (fun hg1 => (yl (aD b) 4 (kD_ x) (vi x.Exp) K1 (hS2.c 0) rfl (gv_of (v := pt (aD b) 4) hg1))) ?_
 obtain ⟨r_2, hc1, hF⟩ := bI hF
 refine sgc 9 (B := r_1) (v := .bool r_2) (F := hS2.fn) rfl rfl (uT_ 6) hS2 (fun hg2 => (yC [vi x.Exp, vi 0, vi 60] K56 (CV.mono (c_spec_l1In x.Exp 0 60 _  (hS2.inn0 [] rfl) (gb_inv hc1 hg2)) (by rintro _ _ ⟨rfl, h⟩; exact ⟨rfl, hS2.out00 h⟩)) rfl (mc (gv_of (v := vi x.Exp) hg2) (mc rfl (mc rfl mn))))) ?_
 rintro w_2 hS3
 refine sQ 10 (Y_and (b := r_1) (z := r_2) rfl rfl rfl rfl) <| sQ 11 (ym (.bool (r_1 && r_2))) ?_
 refine sgq 12 (B := (r_1 && r_2)) (v := pt (aD b) 4) rfl rfl (uT_ 11) (fun hg3 => (yd (aD b) 0 0 K33 K0)) ?_
 refine sgq 13 (B := (r_1 && r_2)) (v := vi x.Exp) rfl rfl (uT_ 11) (fun hg4 => (yl (aD b) 4 (kD_ x) (vi x.Exp) K1 (hS3.c 0) rfl (gv_of (v := pt (aD b) 4) hg4))) ?_
 refine sgq 14 (B := (r_1 && r_2)) (v := .bool (x.Exp == 0)) rfl rfl (uT_ 11) (fun hg5 => (yE x.Exp 0 rfl (gv_of (v := vi x.Exp) hg5))) ?_
 refine sgq 15 (B := (r_1 && r_2)) (v := .bool (x.Exp == 0)) rfl rfl (uT_ 11) (fun hg6 => (ym (.bool (x.Exp == 0)) rfl (gv_of (v := .bool (x.Exp == 0)) hg6))) ?_
 refine sgq 16 (B := ((r_1 && r_2) && (!(x.Exp == 0)))) (v := pt (aD b) 0) rfl rfl (wt_gf (gd_of (t := 15) (by kernel_rfl) rfl)) (fun hg7 => (yd (aD b) 0 3 K41 K3)) ?_
 refine sgq 17 (B := ((r_1 && r_2) && (!(x.Exp == 0)))) (v := gR_ x.Num) rfl rfl (wt_gf (gd_of (t := 15) (by kernel_rfl) rfl)) (fun hg8 => (ya (aD b) 0 (kD_ x) (kR_ x.Num) K7 K3 (hS3.c 0) rfl (gv_of (v := pt (aD b) 0) hg8))) ?_
 obtain ⟨r_3, hc2, hF⟩ := bI hF
 refine sgc 18 (B := ((r_1 && r_2) && (!(x.Exp == 0)))) (v := .bool r_3) (F := hS3.fn) rfl rfl (wt_gf (gd_of (t := 15) (by kernel_rfl) rfl)) hS3 (fun hg9 => (yC [gR_ x.Num] k_call_93 (CV.mono (c_spec_l1Even x.Num _  (hS3.inn0 [] rfl) (gb_inv hc2 hg9)) (by rintro _ _ ⟨rfl, h⟩; exact ⟨rfl, hS3.out00 h⟩)) rfl (mc (gv_of (v := gR_ x.Num) hg9) mn))) ?_
 rintro w_3 hS4
 refine sgq 19 (B := ((r_1 && r_2) && (!(x.Exp == 0)))) (v := .bool (!r_3)) rfl rfl (wt_gf (gd_of (t := 15) (by kernel_rfl) rfl)) (fun hg10 => (Y_not (p := r_3) rfl (gv_of (v := .bool r_3) hg10))) ?_
 refine sgq 20 (B := (r_1 && r_2)) (v := .bool ((x.Exp == 0) || (!r_3))) rfl rfl (uT_ 11) (fun hg11 => (Y_or (b := (x.Exp == 0)) (z := (!r_3)) rfl (gv_of (v := .bool (x.Exp == 0)) hg11) rfl (gv_and (B := (r_1 && r_2)) (C := (!(x.Exp == 0))) (v := .bool (!r_3)) hg11))) ?_
 refine sQ 21 (Y_and (b := (r_1 && r_2)) (z := ((x.Exp == 0) || (!r_3))) rfl rfl rfl rfl) <| sQ 2 (yg (.bool ((r_1 && r_2) && ((x.Exp == 0) || (!r_3))))) (rn (ct_ ?_))
 obtain rfl := sI hF
 exact ret1 Tryz.results75 (v1 := .bool ((r_1 && r_2) && ((x.Exp == 0) || (!r_3)))) (resAt_tmp rfl) ⟨rfl, (hS4.sN [])⟩

theorem c_spec_l3Good (m : TMatrix) (B : Option Addr) (c n : Nat) (w0 : World) (hn : m.Cells.length = n) (hS : ST w0 [] w0 [] [⟨B, (m.Cells.flatMap eN0)⟩]) {r_ : Bool} (hF : F_spec_l3Good m = some r_) :
  CV Tryz.prog 37 #[.agg #[vi m.Rows, vi m.Cols, .slice B n c]] w0 (fun v w' => v = .bool r_ ∧ ST w0 [] w' [] []) := by
 subst hn
 unfold F_spec_l3Good at hF
 refine cv_of_cw 37 Tryz.func37 rfl Tryz.ntmps37 rfl ?_
 refine cq (cr ?_)
 refine sS 1 (yB 34 (gM_ m B c) (kM_ m B c) 3 hS) ?_
 rintro _ w_ ⟨b, rfl, hS1⟩
 refine sQ 2 (yg (.bool false)) (rn (cq (cq (cr ?_))))
 refine sQ 5 (yd (aD b) 0 0 K34 K0) <| sQ 6 (yl (aD b) 0 (kM_ m B c) (vi m.Rows) K1 (hS1.c 0)) ?_
 obtain ⟨r_1, hc, hF⟩ := bI hF
 refine sc 7 rfl rfl (yC [vi m.Rows] K110 (c_spec_l3Dim m.Rows _  (hS1.inn0 [] rfl) hc)) ?_
 rintro _ w_1 ⟨rfl, hd⟩
 have hS2 := hS1.out00 hd
 refine sQ 8 (Y_not (p := r_1) rfl rfl) <| sQ 9 (ym (.bool (!r_1))) ?_
 refine sgq 10 (B := (!(!r_1))) (v := pt (aD b) 1) rfl rfl (uF_ 9) (fun hg => (yd (aD b) 0 0 K29 K0)) ?_
 refine sgq 11 (B := (!(!r_1))) (v := vi m.Cols) rfl rfl (uF_ 9) (fun hg1 => (yl (aD b) 1 (kM_ m B c) (vi m.Cols) K1 (hS2.c 0) rfl (gv_of (v := pt (aD b) 1) hg1))) ?_
 obtain ⟨r_2, hc1, hF⟩ := bI hF
 refine sgc 12 (B := (!(!r_1))) (v := .bool r_2) (F := hS2.fn) rfl rfl (uF_ 9) hS2 (fun hg2 => (yC [vi m.Cols] K110 (CV.mono (c_spec_l3Dim m.Cols _  (hS2.inn0 [] rfl) (gb_inv hc1 hg2)) (by rintro _ _ ⟨rfl, h⟩; exact ⟨rfl, hS2.out00 h⟩)) rfl (mc (gv_of (v := vi m.Cols) hg2) mn))) ?_
 rintro w_2 hS3
 refine sgq 13 (B := (!(!r_1))) (v := .bool (!r_2)) rfl rfl (uF_ 9) (fun hg3 => (Y_not (p := r_2) rfl (gv_of (v := .bool r_2) hg3))) ?_
 refine sQ 14 (Y_or (b := (!r_1)) (z := (!r_2)) rfl rfl rfl rfl) <| sQ 15 (ym (.bool ((!r_1) || (!r_2)))) ?_
 refine sgq 16 (B := (!((!r_1) || (!r_2)))) (v := pt (aD b) 2) rfl rfl (uF_ 15) (fun hg4 => (yd (aD b) 0 0 K15 K13)) ?_
 refine sgq 17 (B := (!((!r_1) || (!r_2)))) (v := .slice B m.Cells.length c) rfl rfl (uF_ 15) (fun hg5 => (yl (aD b) 2 (kM_ m B c) (.slice B m.Cells.length c) K16 (hS3.c 0) rfl (gv_of (v := pt (aD b) 2) hg5))) ?_
 refine sgq 18 (B := (!((!r_1) || (!r_2)))) (v := vi (m.Cells.length : Int)) rfl rfl (uF_ 15) (fun hg6 => (Y_len (B := B) (m := m.Cells.length) (c := c) K12 rfl (gv_of (v := .slice B m.Cells.length c) hg6))) ?_
 refine sgq 19 (B := (!((!r_1) || (!r_2)))) (v := pt (aD b) 0) rfl rfl (uF_ 15) (fun hg7 => (yd (aD b) 0 0 K34 K0)) ?_
 refine sgq 20 (B := (!((!r_1) || (!r_2)))) (v := vi m.Rows) rfl rfl (uF_ 15) (fun hg8 => (yl (aD b) 0 (kM_ m B c) (vi m.Rows) K1 (hS3.c 0) rfl (gv_of (v := pt (aD b) 0) hg8))) ?_
 refine sgq 21 (B := (!((!r_1) || (!r_2)))) (v := pt (aD b) 1) rfl rfl (uF_ 15) (fun hg9 => (yd (aD b) 0 0 K29 K0)) ?_
 refine sgq 22 (B := (!((!r_1) || (!r_2)))) (v := vi m.Cols) rfl rfl (uF_ 15) (fun hg10 => (yl (aD b) 1 (kM_ m B c) (vi m.Cols) K1 (hS3.c 0) rfl (gv_of (v := pt (aD b) 1) hg10))) ?_
 refine sgq 23 (B := (!((!r_1) || (!r_2)))) (v := vi (i64.wrap (m.Rows * m.Cols))) rfl rfl (uF_ 15) (fun hg11 => (yX m.Rows m.Cols rfl (gv_of (v := vi m.Rows) hg11) (gv_of (v := vi m.Cols) hg11))) ?_
 refine sgq 24 (B := (!((!r_1) || (!r_2)))) (v := .bool ((m.Cells.length : Int) != (i64.wrap (m.Rows * m.Cols)))) rfl rfl (uF_ 15) (fun hg12 => (Y_ne (k := .i64) (a := (m.Cells.length : Int)) (b := (i64.wrap (m.Rows * m.Cols))) rfl (gv_of (v := vi (m.Cells.length : Int)) hg12) (gv_of (v := vi (i64.wrap (m.Rows * m.Cols))) hg12))) ?_
 refine sQ 25 (Y_or (b := ((!r_1) || (!r_2))) (z := ((m.Cells.length : Int) != (i64.wrap (m.Rows * m.Cols)))) rfl rfl rfl rfl) (rn ?_)
 refine cw_cond (b := (((!r_1) || (!r_2)) || ((m.Cells.length : Int) != (i64.wrap (m.Rows * m.Cols))))) rfl (fun hb => ?_) (fun hb => ?_)
 ·skip
  have hF1 := ct hF hb
  refine cq (cr ?_)
  refine sQ 2 (yg (.bool false)) (rn (ct_ ?_))
  obtain rfl := sI hF1
  exact ret1 Tryz.results37 (v1 := .bool false) (resAt_tmp rfl) ⟨rfl, (hS3.sN [])⟩
 ·skip
  have hF2 := cf' hF hb
  refine cw_skip (cq (cq (cr ?_)))
  refine sQ 26 (yd (aD b) 0 0 K15 K13) <| sQ 27 (yl (aD b) 2 (kM_ m B c) (.slice B m.Cells.length c) K16 (hS3.c 0)) <| sQ 28 (Y_len (B := B) (m := m.Cells.length) (c := c) K12 rfl rfl) <| sQ 29 (ym (vi 0)) (rn ?_)
  obtain ⟨hN, hF2⟩ := chk_inv hF2
  obtain ⟨z, hz, hF3⟩ := bI hF2
  refine cw_block ?_
  refine cw_loop (fun k f w => ∃ (i : Nat), FF f [(27, .slice B m.Cells.length c), (28, vi (m.Cells.length : Int)), (29, vi (i : Int))] ∧ ST w0 [] w [] [⟨B, (m.Cells.flatMap eN0)⟩] ∧ i + k = m.Cells.length ∧ forX (F_spec_l3Good_l1 m) k i () = some z) m.Cells.length ⟨0, (fc rfl (fc rfl (fc rfl fn_))), (hS3.sel [] rfl rfl), Nat.zero_add _, hz⟩ ?_
  rintro k_ f w ⟨i, hf, hS4, hik, hL⟩
  refine cq (cr ?_)
  refine sQ 30 (yL (i : Int) (m.Cells.length : Int) rfl (hf.g 29 2) (hf.g 28 1)) (rn (cq ?_))
  refine cw_cond (b := (decide ((i : Int) < (m.Cells.length : Int)))) rfl (fun hlt => ?_) (fun hlt => ?_)
  ·skip
   have hlt1 : i < m.Cells.length := by have h := of_decide_eq_true hlt; omega
   obtain ⟨K9, rfl⟩ : ∃ k2, k_ = k2 + 1 := ⟨k_ - 1, by omega⟩
   obtain ⟨y, hb1, hL1⟩ := forX_go hL
   unfold F_spec_l3Good_l1 at hb1
   refine cw_skip (cq (cw_block (cq (cr ?_))))
   obtain ⟨x, hx, hb1⟩ := bI hb1
   refine sQ 31 (Y_index (B := B) (m := m.Cells.length) (c := c) (k := .i64) (i := (i : Int)) K12 K2 rfl (hf.g 27 0) (hf.g 29 2) (gi_isSome eN1 rfl (hS4.rf (i := 0) rfl) hx) (getI_nn hx) (getI_ltI hx rfl)) <| sQ 32 (ya B ((i : Int).toNat * 5) (m.Cells.flatMap eN0) (kD_ x) K5 K2 (hS4.rf (i := 0) rfl) rfl rfl (eN1 x) (gi_seg eN1 hx)) ?_
   refine sS 4 (yN kZ_ 5 hS4 K6) ?_
   rintro _ w_3 ⟨b1, rfl, hS5⟩
   refine s0 (yT 0 5 (aD b1) 51 (gD_ x) (kD_ x) 0 hS5 K2) ?_
   rintro _ w_4 ⟨rfl, hS6⟩
   refine rn (cq (cr ?_))
   refine sQ 33 (yb (aD b1) 0 (kD_ x) K5 K2 (hS6.c 0)) ?_
   obtain ⟨r_3, hc2, hb1⟩ := bI hb1
   refine sc 34 rfl rfl (yC [gD_ x] k_call_75 (c_spec_l2Good x _  (hS6.inn0 [] rfl) hc2)) ?_
   rintro _ w_5 ⟨rfl, hd1⟩
   have hS7 := hS6.out00 hd1
   refine sQ 35 (Y_not (p := r_3) rfl rfl) (rn ?_)
   refine cw_cond (b := (!r_3)) rfl (fun hb2 => ?_) (fun hb2 => ?_)
   ·skip
    have hF4 := ct hb1 hb2
    refine cq (cr ?_)
    refine sQ 2 (yg (.bool false)) (rn (ct_ ?_))
    obtain rfl := sI hF4
    obtain rfl := sI hL1
    obtain rfl := sI hF3
    exact ret1 Tryz.results37 (v1 := .bool false) (resAt_tmp rfl) ⟨rfl, (hS7.sN [])⟩
   ·skip
    have hF5 := cf' hb1 hb2
    refine cw_skip (cr ?_)
    refine sQ 36 (yP (i : Int) 1 rfl (hf.g 29 2)) <| sQ 29 (ym (vi (i64.wrap ((i : Int) + 1)))) (rn ?_)
    obtain rfl := sI hF5
    exact ⟨K9, Nat.lt_succ_self _, i + 1, (fc (hf.g 27 0) (fc (hf.g 28 1) (fc (congrArg (Value.int .i64) (wr_succ hlt1 hN)) fn_))), (hS7.sel [] rfl rfl), (by omega), hL1⟩
  ·skip
   obtain rfl : k_ = 0 := by have h := of_decide_eq_false hlt; omega
   refine cw_exit rfl ?_
   obtain rfl := sI hL
   refine cq (cr ?_)
   refine sQ 2 (yg (.bool true)) (rn (ct_ ?_))
   obtain rfl := sI hF3
   exact ret1 Tryz.results37 (v1 := .bool true) (resAt_tmp rfl) ⟨rfl, (hS4.sN [])⟩

theorem c_spec_l2C_matrix (c : Tl2C) (m : TMatrix) (B : Option Addr) (B1 : Option Addr) (c1 n : Nat) (w0 : World) (hn : m.Cells.length = n) (hS : ST w0 (bl [⟨B1, 51, (m.Cells.flatMap eN0), c1 * 5⟩]) w0 [⟨B1, 51, (m.Cells.flatMap eN0), c1 * 5⟩] [⟨B, [.bool c.bad]⟩]) {r_ : TMatrix} {r_1 : Bool} (hF : F_spec_l2C_matrix c m = some (r_, r_1)) :
  CV Tryz.prog 38 #[pt B 0, .agg #[vi m.Rows, vi m.Cols, .slice B1 n c1]] w0 (fun v w' => ∃ (B2 : Option Addr) (c2 : Nat), v = .tuple #[gM_ r_ B2 c2, .bool r_1] ∧ ST w0 (bl [⟨B1, 51, (m.Cells.flatMap eN0), c1 * 5⟩]) w' [⟨B2, 51, (r_.Cells.flatMap eN0), c2 * 5⟩] []) := by
 subst hn
 unfold F_spec_l2C_matrix at hF
 refine cv_of_cw 12 Tryz.func38 rfl Tryz.ntmps38 rfl ?_
 refine cq (cr ?_)
 refine sS 3 (yB 34 (gM_ m B1 c1) (kM_ m B1 c1) 3 hS) ?_
 rintro _ w_ ⟨b, rfl, hS1⟩
 refine sS 4 (yN kN_ 3 hS1 K10) ?_
 rintro _ w_1 ⟨b1, rfl, hS2⟩
 refine sQ 5 (yg (.bool false)) (rn (cq (cq (cr ?_))))
 refine sQ 6 (ym (pt B 0)) <| sQ 7 (Y_nilCheck (B := B) (i := 0) rfl rfl) <| sQ 8 (yd B 0 0 K77 K57) <| sQ 9 (yl B 0 [.bool c.bad] (.bool c.bad) K98 (hS2.rf (i := 0) rfl)) (rn ?_)
 refine cw_cond (b := c.bad) rfl (fun hb => ?_) (fun hb => ?_)
 ·skip
  have hF1 := ct hF hb
  refine cq (cr ?_)
  refine sQ 10 (Y_buildS (zs := kN_) (vs := []) (cs := kN_) K32 K10 rfl mpn rfl) ?_
  refine s0 (yT 2 3 (aD b1) 34 gN_ kN_ 0 hS2 K4) ?_
  rintro _ w_2 ⟨rfl, hS3⟩
  refine sQ 5 (yg (.bool false)) (rn (ct_ ?_))
  have hS4 := hS3.addNil 51
  obtain ⟨rfl, rfl⟩ := pr2 (sI hF1)
  exact ret2 Tryz.results38 (v1 := gN_) (resAt_cellA (B := aD b1) (i := 0) (cs := kN_) (vs := kN_) rfl K8 K4 (hS4.c 2) rfl rfl) (v2 := .bool false) (resAt_tmp rfl) ⟨none, 0, rfl, (hS4.sN [3])⟩
 ·skip
  have hF2 := cf' hF hb
  refine cw_skip (cq (cr ?_))
  refine sQ 11 (yb (aD b) 0 (kM_ m B1 c1) K8 K4 (hS2.c 1)) ?_
  refine s0 (yT 2 3 (aD b1) 34 (gM_ m B1 c1) (kM_ m B1 c1) 0 hS2 K4) ?_
  rintro _ w_3 ⟨rfl, hS5⟩
  refine sQ 5 (yg (.bool true)) (rn (ct_ ?_))
  obtain ⟨rfl, rfl⟩ := pr2 (sI hF2)
  exact ret2 Tryz.results38 (v1 := gM_ m B1 c1) (resAt_cellA (B := aD b1) (i := 0) (cs := kM_ m B1 c1) (vs := kM_ m B1 c1) rfl K8 K4 (hS5.c 2) rfl rfl) (v2 := .bool true) (resAt_tmp rfl) ⟨B1, c1, rfl, (hS5.sN [0])⟩

theorem c_spec_MulMatrix (a : TMatrix) (b : TMatrix) (B : Option Addr) (c n : Nat) (B1 : Option Addr) (c1 n1 : Nat) (w0 : World) (hn : a.Cells.length = n) (hn1 : b.Cells.length = n1) (hS : ST w0 [] w0 [] [⟨B, (a.Cells.flatMap eN0)⟩, ⟨B1, (b.Cells.flatMap eN0)⟩]) {r_ : TMatrix} {r_1 : Bool} (hF : F_spec_MulMatrix a b = some (r_, r_1)) :
  CV Tryz.prog 14 #[.agg #[vi a.Rows, vi a.Cols, .slice B n c], .agg #[vi b.Rows, vi b.Cols, .slice B1 n1 c1]] w0 (fun v w' => ∃ (B2 : Option Addr) (c2 : Nat), v = .tuple #[gM_ r_ B2 c2, .bool r_1] ∧ ST w0 [] w' [⟨B2, 51, (r_.Cells.flatMap eN0), c2 * 5⟩] []) := by
 subst hn
 subst hn1
 unfold F_spec_MulMatrix at hF
 refine cv_of_cw 33 Tryz.func14 rfl Tryz.ntmps14 rfl ?_
 refine cq (cr ?_)
 refine sS 2 (yB 34 (gM_ a B c) (kM_ a B c) 3 hS) ?_
 rintro _ w_ ⟨b1, rfl, hS1⟩
 refine sS 3 (yB 34 (gM_ b B1 c1) (kM_ b B1 c1) 3 hS1) ?_
 rintro _ w_1 ⟨b2, rfl, hS2⟩
 refine sS 4 (yN kN_ 3 hS2 K10) ?_
 rintro _ w_2 ⟨b3, rfl, hS3⟩
 refine sQ 5 (yg (.bool false)) (rn (cq (cq (cr ?_))))
 refine sQ 7 (yb (aD b1) 0 (kM_ a B c) K8 K4 (hS3.c 0)) ?_
 obtain ⟨r_2, hc, hF⟩ := bI hF
 refine sc 8 rfl rfl (yC [gM_ a B c] K119 (c_spec_l3Good a B c a.Cells.length _ rfl (hS3.inn0 [(true, 0)] rfl) hc)) ?_
 rintro _ w_3 ⟨rfl, hd⟩
 have hS4 := hS3.out00 hd
 refine sQ 9 (Y_not (p := r_2) rfl rfl) <| sQ 10 (ym (.bool (!r_2))) ?_
 refine sgq 11 (B := (!(!r_2))) (v := gM_ b B1 c1) rfl rfl (uF_ 10) (fun hg => (yb (aD b2) 0 (kM_ b B1 c1) K8 K4 (hS4.c 1))) ?_
 obtain ⟨r_3, hc1, hF⟩ := bI hF
 refine sgc 12 (B := (!(!r_2))) (v := .bool r_3) (F := hS4.fn) rfl rfl (uF_ 10) hS4 (fun hg1 => (yC [gM_ b B1 c1] K119 (CV.mono (c_spec_l3Good b B1 c1 b.Cells.length _ rfl (hS4.inn0 [(true, 1)] rfl) (gb_inv hc1 hg1)) (by rintro _ _ ⟨rfl, h⟩; exact ⟨rfl, hS4.out00 h⟩)) rfl (mc (gv_of (v := gM_ b B1 c1) hg1) mn))) ?_
 rintro w_4 hS5
 refine sgq 13 (B := (!(!r_2))) (v := .bool (!r_3)) rfl rfl (uF_ 10) (fun hg2 => (Y_not (p := r_3) rfl (gv_of (v := .bool r_3) hg2))) ?_
 refine sQ 14 (Y_or (b := (!r_2)) (z := (!r_3)) rfl rfl rfl rfl) <| sQ 15 (ym (.bool ((!r_2) || (!r_3)))) ?_
 refine sgq 16 (B := (!((!r_2) || (!r_3)))) (v := pt (aD b1) 1) rfl rfl (uF_ 15) (fun hg3 => (yd (aD b1) 0 0 K29 K0)) ?_
 refine sgq 17 (B := (!((!r_2) || (!r_3)))) (v := vi a.Cols) rfl rfl (uF_ 15) (fun hg4 => (yl (aD b1) 1 (kM_ a B c) (vi a.Cols) K1 (hS5.c 0) rfl (gv_of (v := pt (aD b1) 1) hg4))) ?_
 refine sgq 18 (B := (!((!r_2) || (!r_3)))) (v := pt (aD b2) 0) rfl rfl (uF_ 15) (fun hg5 => (yd (aD b2) 0 0 K34 K0)) ?_
 refine sgq 19 (B := (!((!r_2) || (!r_3)))) (v := vi b.Rows) rfl rfl (uF_ 15) (fun hg6 => (yl (aD b2) 0 (kM_ b B1 c1) (vi b.Rows) K1 (hS5.c 1) rfl (gv_of (v := pt (aD b2) 0) hg6))) ?_
 refine sgq 20 (B := (!((!r_2) || (!r_3)))) (v := .bool (a.Cols != b.Rows)) rfl rfl (uF_ 15) (fun hg7 => (Y_ne (k := .i64) (a := a.Cols) (b := b.Rows) rfl (gv_of (v := vi a.Cols) hg7) (gv_of (v := vi b.Rows) hg7))) ?_
 refine sQ 21 (Y_or (b := ((!r_2) || (!r_3))) (z := (a.Cols != b.Rows)) rfl rfl rfl rfl) (rn ?_)
 refine cw_cond (b := (((!r_2) || (!r_3)) || (a.Cols != b.Rows))) rfl (fun hb => ?_) (fun hb => ?_)
 ·skip
  have hF1 := ct hF hb
  refine cq (cr ?_)
  refine sQ 22 (Y_buildS (zs := kN_) (vs := []) (cs := kN_) K32 K10 rfl mpn rfl) ?_
  refine s0 (yT 2 3 (aD b3) 34 gN_ kN_ 0 hS5 K4) ?_
  rintro _ w_5 ⟨rfl, hS6⟩
  refine sQ 5 (yg (.bool false)) (rn (ct_ ?_))
  have hS7 := hS6.addNil 51
  obtain ⟨rfl, rfl⟩ := pr2 (sI hF1)
  exact ret2 Tryz.results14 (v1 := gN_) (resAt_cellA (B := aD b3) (i := 0) (cs := kN_) (vs := kN_) rfl K8 K4 (hS7.c 2) rfl rfl) (v2 := .bool false) (resAt_tmp rfl) ⟨none, 0, rfl, (hS7.sN [3])⟩
 ·skip
  have hF2 := cf' hF hb
  refine cw_skip (cq (cr ?_))
  refine sQ 23 (Y_buildS (zs := [.bool false]) (vs := []) (cs := [.bool false]) K96 K97 rfl mpn rfl) ?_
  refine sS 24 (yB 67 (.agg #[.bool false]) [.bool false] 1 hS5) ?_
  rintro _ w_6 ⟨b4, rfl, hS8⟩
  refine sQ 6 (yg (pt (aD b4) 0)) (rn (cq (cr ?_)))
  refine sQ 25 (ym (pt (aD b4) 0)) <| sQ 26 (ym (pt (aD b4) 0)) <| sQ 27 (yb (aD b1) 0 (kM_ a B c) K8 K4 (hS8.c 0)) <| sQ 28 (yb (aD b2) 0 (kM_ b B1 c1) K8 K4 (hS8.c 1)) ?_
  obtain ⟨⟨r_4, m⟩, hc2, hF2⟩ := bI hF2
  refine sc 29 rfl rfl (yC [pt (aD b4) 0, gM_ a B c, gM_ b B1 c1] K113 (c_spec_l2C_times (Tl2C.mk false) a b (aD b4) B c a.Cells.length B1 c1 b.Cells.length _ rfl rfl (hS8.inn [false, false, false, true] rfl [(true, 0), (true, 1)] rfl) hc2)) ?_
  rintro _ w_7 ⟨B3, c3, rfl, hd1⟩
  have hS9 := hS8.out [false, false, false, true] rfl hd1
  obtain ⟨⟨r_5, r_6⟩, hc3, hF2⟩ := bI hF2
  refine sc 30 rfl rfl (yC [pt (aD b4) 0, gM_ r_4 B3 c3] k_call_38 (c_spec_l2C_matrix m r_4 (aD b4) B3 c3 r_4.Cells.length _ rfl (hS9.inn [false, false, false, false, true] rfl [(false, 3)] rfl) hc3)) ?_
  rintro _ w_8 ⟨B4, c4, rfl, hd2⟩
  have hS10 := hS9.out [false, false, false, false, true] rfl hd2
  refine sQ 31 (ye (gM_ r_5 B4 c4)) <| sQ 32 (ye (.bool r_6)) ?_
  refine s0 (yT 2 3 (aD b3) 34 (gM_ r_5 B4 c4) (kM_ r_5 B4 c4) 0 hS10 K4) ?_
  rintro _ w_9 ⟨rfl, hS11⟩
  refine sQ 5 (yg (.bool r_6)) (rn (ct_ ?_))
  obtain ⟨rfl, rfl⟩ := pr2 (sI hF2)
  exact ret2 Tryz.results14 (v1 := gM_ r_5 B4 c4) (resAt_cellA (B := aD b3) (i := 0) (cs := kM_ r_5 B4 c4) (vs := kM_ r_5 B4 c4) rfl K8 K4 (hS11.c 2) rfl rfl) (v2 := .bool r_6) (resAt_tmp rfl) ⟨B4, c4, rfl, (hS11.sN [4])⟩

theorem c_spec_ColumnOf (m : TMatrix) (k_ : Int) (B : Option Addr) (c n : Nat) (w0 : World) (hn : m.Cells.length = n) (hS : ST w0 [] w0 [] [⟨B, (m.Cells.flatMap eN0)⟩]) {r_ : TMatrix} {r_1 : Bool} (hF : F_spec_ColumnOf m k_ = some (r_, r_1)) :
  CV Tryz.prog 15 #[.agg #[vi m.Rows, vi m.Cols, .slice B n c], vi k_] w0 (fun v w' => ∃ (B1 : Option Addr) (c1 : Nat), v = .tuple #[gM_ r_ B1 c1, .bool r_1] ∧ ST w0 [] w' [⟨B1, 51, (r_.Cells.flatMap eN0), c1 * 5⟩] []) := by
 subst hn
 unfold F_spec_ColumnOf at hF
 refine cv_of_cw 21 Tryz.func15 rfl Tryz.ntmps15 rfl ?_
 refine cq (cr ?_)
 refine sS 2 (yB 34 (gM_ m B c) (kM_ m B c) 3 hS) ?_
 rintro _ w_ ⟨b, rfl, hS1⟩
 refine sS 4 (yN kN_ 3 hS1 K10) ?_
 rintro _ w_1 ⟨b1, rfl, hS2⟩
 refine sQ 5 (yg (.bool false)) (rn (cq (cq (cr ?_))))
 refine sQ 6 (yb (aD b) 0 (kM_ m B c) K8 K4 (hS2.c 0)) ?_
 obtain ⟨r_2, hc, hF⟩ := bI hF
 refine sc 7 rfl rfl (yC [gM_ m B c] K119 (c_spec_l3Good m B c m.Cells.length _ rfl (hS2.inn0 [(true, 0)] rfl) hc)) ?_
 rintro _ w_2 ⟨rfl, hd⟩
 have hS3 := hS2.out00 hd
 refine sQ 8 (Y_not (p := r_2) rfl rfl) <| sQ 9 (ym (.bool (!r_2))) ?_
 refine sgq 10 (B := (!(!r_2))) (v := vi k_) rfl rfl (uF_ 9) (fun hg => (ym (vi k_))) ?_
 refine sgq 11 (B := (!(!r_2))) (v := pt (aD b) 1) rfl rfl (uF_ 9) (fun hg1 => (yd (aD b) 0 0 K29 K0)) ?_
 refine sgq 12 (B := (!(!r_2))) (v := vi m.Cols) rfl rfl (uF_ 9) (fun hg2 => (yl (aD b) 1 (kM_ m B c) (vi m.Cols) K1 (hS3.c 0) rfl (gv_of (v := pt (aD b) 1) hg2))) ?_
 refine sgq 13 (B := (!(!r_2))) (v := vi (i64.wrap (m.Cols - 1))) rfl rfl (uF_ 9) (fun hg3 => (yM m.Cols 1 rfl (gv_of (v := vi m.Cols) hg3))) ?_
 obtain ⟨r_3, hc1, hF⟩ := bI hF
 refine sgc 14 (B := (!(!r_2))) (v := .bool r_3) (F := hS3.fn) rfl rfl (uF_ 9) hS3 (fun hg4 => (yC [vi k_, vi 0, vi (i64.wrap (m.Cols - 1))] K56 (CV.mono (c_spec_l1In k_ 0 (i64.wrap (m.Cols - 1)) _  (hS3.inn0 [] rfl) (gb_inv hc1 hg4)) (by rintro _ _ ⟨rfl, h⟩; exact ⟨rfl, hS3.out00 h⟩)) rfl (mc (gv_of (v := vi k_) hg4) (mc rfl (mc (gv_of (v := vi (i64.wrap (m.Cols - 1))) hg4) mn))))) ?_
 rintro w_3 hS4
 refine sgq 15 (B := (!(!r_2))) (v := .bool (!r_3)) rfl rfl (uF_ 9) (fun hg5 => (Y_not (p := r_3) rfl (gv_of (v := .bool r_3) hg5))) ?_
 refine sQ 16 (Y_or (b := (!r_2)) (z := (!r_3)) rfl rfl rfl rfl) (rn ?_)
 refine cw_cond (b := ((!r_2) || (!r_3))) rfl (fun hb => ?_) (fun hb => ?_)
 ·skip
  have hF1 := ct hF hb
  refine cq (cr ?_)
  refine sQ 17 (Y_buildS (zs := kN_) (vs := []) (cs := kN_) K32 K10 rfl mpn rfl) ?_
  refine s0 (yT 1 3 (aD b1) 34 gN_ kN_ 0 hS4 K4) ?_
  rintro _ w_4 ⟨rfl, hS5⟩
  refine sQ 5 (yg (.bool false)) (rn (ct_ ?_))
  have hS6 := hS5.addNil 51
  obtain ⟨rfl, rfl⟩ := pr2 (sI hF1)
  exact ret2 Tryz.results15 (v1 := gN_) (resAt_cellA (B := aD b1) (i := 0) (cs := kN_) (vs := kN_) rfl K8 K4 (hS6.c 1) rfl rfl) (v2 := .bool false) (resAt_tmp rfl) ⟨none, 0, rfl, (hS6.sN [2])⟩
 ·skip
  have hF2 := cf' hF hb
  refine cw_skip (cq (cr ?_))
  refine sQ 18 (yb (aD b) 0 (kM_ m B c) K8 K4 (hS4.c 0)) <| sQ 19 (ym (vi k_)) ?_
  obtain ⟨r_4, hc2, hF2⟩ := bI hF2
  refine sc 20 rfl rfl (yC [gM_ m B c, vi k_] K101 (c_spec_l3Column m k_ B c m.Cells.length _ rfl (hS4.inn0 [(true, 0)] rfl) hc2)) ?_
  rintro _ w_5 ⟨B2, c2, rfl, hd1⟩
  have hS7 := hS4.out0 hd1
  refine s0 (yT 1 3 (aD b1) 34 (gM_ r_4 B2 c2) (kM_ r_4 B2 c2) 0 hS7 K4) ?_
  rintro _ w_6 ⟨rfl, hS8⟩
  refine sQ 5 (yg (.bool true)) (rn (ct_ ?_))
  obtain ⟨rfl, rfl⟩ := pr2 (sI hF2)
  exact ret2 Tryz.results15 (v1 := gM_ r_4 B2 c2) (resAt_cellA (B := aD b1) (i := 0) (cs := kM_ r_4 B2 c2) (vs := kM_ r_4 B2 c2) rfl K8 K4 (hS8.c 1) rfl rfl) (v2 := .bool true) (resAt_tmp rfl) ⟨B2, c2, rfl, (hS8.sN [2])⟩

theorem c_laws_FnTwoLevel (code : List Int) (more : List Int) (B : Option Addr) (c n : Nat) (B1 : Option Addr) (c1 n1 : Nat) (w0 : World) (hn : code.length = n) (hn1 : more.length = n1) (hS : ST w0 [] w0 [] [⟨B, (code.flatMap enc_u8)⟩, ⟨B1, (more.flatMap enc_u8)⟩]) {r_ : Bool} (hF : F_laws_FnTwoLevel code more = some r_) :
  CV Tryz.prog 3 #[.slice B n c, .slice B1 n1 c1] w0 (fun v w' => v = .bool r_ ∧ ST w0 [] w' [] []) := by
 subst hn
 subst hn1
 unfold F_laws_FnTwoLevel at hF
 refine cv_of_cw 133 Tryz.func3 rfl Tryz.ntmps3 rfl ?_
 refine cq (cr ?_)
 refine sQ 4 (yg (.bool false)) (rn (cq (cq (cr ?_))))
 refine sQ 28 (ym (.slice B code.length c)) <| sQ 29 (ym (.slice B1 more.length c1)) ?_
 obtain ⟨r_1, hc, hF⟩ := bI hF
 refine sc 30 rfl rfl (yC [.slice B code.length c, .slice B1 more.length c1] k_call_4 (c_laws_big code more B c code.length B1 c1 more.length _ rfl rfl (hS.inn0 [(true, 0), (true, 1)] rfl) hc)) ?_
 rintro _ w_ ⟨rfl, hd⟩
 have hS1 := hS.out00 hd
 refine rn ?_
 refine cw_cond (b := r_1) rfl (fun hb => ?_) (fun hb => ?_)
 ·skip
  have hF1 := ct hF hb
  refine cq (cr ?_)
  refine sQ 4 (yg (.bool true)) (rn (ct_ ?_))
  obtain rfl := sI hF1
  exact ret1 Tryz.results3 (v1 := .bool true) (resAt_tmp rfl) ⟨rfl, (hS1.sN [])⟩
 ·skip
  have hF2 := cf' hF hb
  refine cw_skip (cq (cr ?_))
  refine sQ 32 (ym (.slice B code.length c)) ?_
  obtain ⟨⟨r_2, r_3⟩, hc1, hF2⟩ := bI hF2
  refine sc 33 rfl rfl (yC [.slice B code.length c] k_call_5 (c_spec_DrawInverseTwoLevel code B c code.length _ rfl (hS1.inn0 [(true, 0)] rfl) hc1)) ?_
  rintro _ w_1 ⟨rfl, hd1⟩
  have hS2 := hS1.out00 hd1
  refine sQ 31 (ym (.tuple #[vi r_2, .agg #[vi r_3.Kind, vi r_3.I, vi r_3.J, vi r_3.M_]])) <| sQ 34 (ye (vi r_2)) <| sQ 35 (ye (.agg #[vi r_3.Kind, vi r_3.I, vi r_3.J, vi r_3.M_])) ?_
  refine sS 6 (yN [vi 0, vi 0, vi 0, vi 0] 4 hS2 K30) ?_
  rintro _ w_2 ⟨b, rfl, hS3⟩
  refine sQ 5 (yg (vi r_2)) ?_
  refine s0 (yT 0 4 (aD b) 25 (.agg #[vi r_3.Kind, vi r_3.I, vi r_3.J, vi r_3.M_]) [vi r_3.Kind, vi r_3.I, vi r_3.J, vi r_3.M_] 0 hS3 K11) ?_
  rintro _ w_3 ⟨rfl, hS4⟩
  refine rn (cq (cr ?_))
  refine sQ 37 (ym (vi r_2)) <| sQ 38 (yb (aD b) 0 [vi r_3.Kind, vi r_3.I, vi r_3.J, vi r_3.M_] K26 K11 (hS4.c 0)) ?_
  obtain ⟨⟨r_4, r_5⟩, hc2, hF2⟩ := bI hF2
  refine sc 39 rfl rfl (yC [vi r_2, .agg #[vi r_3.Kind, vi r_3.I, vi r_3.J, vi r_3.M_]] k_call_6 (c_impl_InverseTwoLevel r_2 r_3 _  (hS4.inn0 [] rfl) hc2)) ?_
  rintro _ w_4 ⟨B2, c2, rfl, hd2⟩
  have hS5 := hS4.out0 hd2
  have hS5 : ST w0 [] _ [⟨aD b, 25, [vi r_3.Kind, vi r_3.I, vi r_3.J, vi r_3.M_], 4⟩, ⟨B2, 25, (r_4.flatMap eN2), c2 * 4⟩] [⟨B, (code.flatMap enc_u8)⟩, ⟨B1, (more.flatMap enc_u8)⟩] := hS5
  refine sQ 36 (ym (.tuple #[.slice B2 r_4.length c2, .bool r_5])) <| sQ 40 (ye (.slice B2 r_4.length c2)) <| sQ 41 (ye (.bool r_5)) <| sQ 7 (yg (.slice B2 r_4.length c2)) <| sQ 8 (yg (.bool r_5)) (rn (cq (cq (cr ?_))))
  refine sQ 42 (ym (.bool r_5)) <| sQ 43 (ym (vi r_2)) <| sQ 44 (yb (aD b) 0 [vi r_3.Kind, vi r_3.I, vi r_3.J, vi r_3.M_] K26 K11 (hS5.c 0)) ?_
  obtain ⟨r_6, hc3, hF2⟩ := bI hF2
  refine sc 45 rfl rfl (yC [vi r_2, .agg #[vi r_3.Kind, vi r_3.I, vi r_3.J, vi r_3.M_]] k_call_7 (c_spec_IsValidTwoLevel r_2 r_3 _  (hS5.inn0 [] rfl) hc3)) ?_
  rintro _ w_5 ⟨rfl, hd3⟩
  have hS6 := hS5.out00 hd3
  have hS6 : ST w0 [] _ [⟨aD b, 25, [vi r_3.Kind, vi r_3.I, vi r_3.J, vi r_3.M_], 4⟩, ⟨B2, 25, (r_4.flatMap eN2), c2 * 4⟩] [⟨B, (code.flatMap enc_u8)⟩, ⟨B1, (more.flatMap enc_u8)⟩] := hS6
  refine sQ 46 (Y_bne (p := r_5) (q := r_6) k_und_4 rfl rfl rfl) (rn ?_)
  refine cw_cond (b := (!(r_5 == r_6))) rfl (fun hb1 => ?_) (fun hb1 => ?_)
  ·skip
   have hF3 := ct hF2 hb1
   refine cq (cr ?_)
   refine sQ 4 (yg (.bool false)) (rn (ct_ ?_))
   obtain rfl := sI hF3
   exact ret1 Tryz.results3 (v1 := .bool false) (resAt_tmp rfl) ⟨rfl, (hS6.sN [])⟩
  ·skip
   have hF4 := cf' hF2 hb1
   refine cw_skip (cq ?_)
   obtain ⟨z, hz, hF5⟩ := bI hF4
   refine cw_mid (fun f w => .inl () = z ∧ FF f [(1, .slice B1 more.length c1)] ∧ ST w0 [] w [] [⟨B, (code.flatMap enc_u8)⟩, ⟨B1, (more.flatMap enc_u8)⟩]) ?_ ?_
   ·skip
    refine cq (cr ?_)
    refine sQ 47 (ym (.bool r_5)) (rn ?_)
    refine cw_cond (b := r_5) rfl (fun hb2 => ?_) (fun hb2 => ?_)
    ·skip
     have hF6 := ct hz hb2
     refine cq (cr ?_)
     refine sQ 49 (ym (vi r_2)) <| sQ 50 (yb (aD b) 0 [vi r_3.Kind, vi r_3.I, vi r_3.J, vi r_3.M_] K26 K11 (hS6.c 0)) ?_
     refine sS 51 (Ys_bslice (s := 4) (len := 1) (vs := [(0, .agg #[vi r_3.Kind, vi r_3.I, vi r_3.J, vi r_3.M_])]) (cs := [vi r_3.Kind, vi r_3.I, vi r_3.J, vi r_3.M_]) (zs := [vi 0, vi 0, vi 0, vi 0]) (m := 4) hS6 K28 K11 K52 rfl (mpc rfl mpn) rfl rfl rfl (by kernel_rfl) (by kernel_rfl) rfl) ?_
     rintro _ w_6 ⟨b1, rfl, hS8⟩
     have hS8 : ST w0 [] _ [⟨aD b, 25, [vi r_3.Kind, vi r_3.I, vi r_3.J, vi r_3.M_], 4⟩, ⟨B2, 25, (r_4.flatMap eN2), c2 * 4⟩, ⟨aD b1, 25, ([r_3].flatMap eN2), 1 * 4⟩] [⟨B, (code.flatMap enc_u8)⟩, ⟨B1, (more.flatMap enc_u8)⟩] := hS8
     refine sQ 52 (ym (.slice B2 r_4.length c2)) ?_
     obtain ⟨hap, hF6⟩ := chk_inv hF6
     refine sS 53 (Ys_append (s := 4) (by' := 32) (i := 2) (nn := 1) (c := 1) (k := r_4.length) (len := ([r_3] ++ r_4).length) (B := aD b1) (xs := (r_4.flatMap eN2)) (cs' := (([r_3] ++ r_4).flatMap eN2)) hS8 K28 K11 K65 K30 rfl (by decide) rfl rfl rfl rfl (fm_lenn (l := [r_3]) enc_TwoLevel_len rfl) rfl (hS8.c 1) (fm_lenn (l := r_4) enc_TwoLevel_len rfl) (fm_one' (enc := eN2) enc_TwoLevel_one r_4) (by have := hap; omega) (by have := hap; simp only [maxLen]; omega) (fm_app _ _) (app_len (l := [r_3]) (l' := r_4) rfl rfl)) ?_
     rintro _ w_7 ⟨B3, c3, rfl, hS9⟩
     have hS9 : ST w0 [] _ [⟨aD b, 25, [vi r_3.Kind, vi r_3.I, vi r_3.J, vi r_3.M_], 4⟩, ⟨B2, 25, (r_4.flatMap eN2), c2 * 4⟩, ⟨B3, 25, (([r_3] ++ r_4).flatMap eN2), c3 * 4⟩] [⟨B, (code.flatMap enc_u8)⟩, ⟨B1, (more.flatMap enc_u8)⟩] := hS9
     obtain ⟨⟨r_7, r_8⟩, hc4, hF6⟩ := bI hF6
     refine sc 54 rfl rfl (yC [vi r_2, .slice B3 (([r_3] ++ r_4).length) c3] k_call_8 (c_impl_ComposeTwoLevel r_2 ([r_3] ++ r_4) B3 c3 (([r_3] ++ r_4).length) _ rfl (hS9.inn0 [(false, 2)] rfl) hc4)) ?_
     rintro _ w_8 ⟨B4, c4, rfl, hd4⟩
     have hS10 := hS9.out0 hd4
     have hS10 : ST w0 [] _ [⟨aD b, 25, [vi r_3.Kind, vi r_3.I, vi r_3.J, vi r_3.M_], 4⟩, ⟨B2, 25, (r_4.flatMap eN2), c2 * 4⟩, ⟨B3, 25, (([r_3] ++ r_4).flatMap eN2), c3 * 4⟩, ⟨B4, 51, (r_7.Cells.flatMap eN0), c4 * 5⟩] [⟨B, (code.flatMap enc_u8)⟩, ⟨B1, (more.flatMap enc_u8)⟩] := hS10
     refine sQ 48 (ym (.tuple #[gM_ r_7 B4 c4, .bool r_8])) <| sQ 55 (ye (gM_ r_7 B4 c4)) <| sQ 56 (ye (.bool r_8)) ?_
     refine sS 9 (yN kN_ 3 hS10 K10) ?_
     rintro _ w_9 ⟨b2, rfl, hS11⟩
     have hS11 : ST w0 [] _ [⟨aD b, 25, [vi r_3.Kind, vi r_3.I, vi r_3.J, vi r_3.M_], 4⟩, ⟨B2, 25, (r_4.flatMap eN2), c2 * 4⟩, ⟨B3, 25, (([r_3] ++ r_4).flatMap eN2), c3 * 4⟩, ⟨B4, 51, (r_7.Cells.flatMap eN0), c4 * 5⟩, ⟨aD b2, 34, kN_, 3⟩] [⟨B, (code.flatMap enc_u8)⟩, ⟨B1, (more.flatMap enc_u8)⟩] := hS11
     refine s0 (yT 4 3 (aD b2) 34 (gM_ r_7 B4 c4) (kM_ r_7 B4 c4) 0 hS11 K4) ?_
     rintro _ w_10 ⟨rfl, hS12⟩
     have hS12 : ST w0 [] _ [⟨aD b, 25, [vi r_3.Kind, vi r_3.I, vi r_3.J, vi r_3.M_], 4⟩, ⟨B2, 25, (r_4.flatMap eN2), c2 * 4⟩, ⟨B3, 25, (([r_3] ++ r_4).flatMap eN2), c3 * 4⟩, ⟨B4, 51, (r_7.Cells.flatMap eN0), c4 * 5⟩, ⟨aD b2, 34, kM_ r_7 B4 c4, 3⟩] [⟨B, (code.flatMap enc_u8)⟩, ⟨B1, (more.flatMap enc_u8)⟩] := hS12
     refine sQ 10 (yg (.bool r_8)) (rn (cq (cr ?_)))
     refine sQ 58 (ym (vi r_2)) ?_
     obtain ⟨⟨r_9, r_10⟩, hc5, hF6⟩ := bI hF6
     refine sc 59 rfl rfl (yC [vi r_2] k_call_9 (c_spec_IdentityMatrix r_2 _  (hS12.inn0 [] rfl) hc5)) ?_
     rintro _ w_11 ⟨B5, c5, rfl, hd5⟩
     have hS13 := hS12.out0 hd5
     have hS13 : ST w0 [] _ [⟨aD b, 25, [vi r_3.Kind, vi r_3.I, vi r_3.J, vi r_3.M_], 4⟩, ⟨B2, 25, (r_4.flatMap eN2), c2 * 4⟩, ⟨B3, 25, (([r_3] ++ r_4).flatMap eN2), c3 * 4⟩, ⟨B4, 51, (r_7.Cells.flatMap eN0), c4 * 5⟩, ⟨aD b2, 34, kM_ r_7 B4 c4, 3⟩, ⟨B5, 51, (r_9.Cells.flatMap eN0), c5 * 5⟩] [⟨B, (code.flatMap enc_u8)⟩, ⟨B1, (more.flatMap enc_u8)⟩] := hS13
     refine sQ 57 (ym (.tuple #[gM_ r_9 B5 c5, .bool r_10])) <| sQ 60 (ye (gM_ r_9 B5 c5)) <| sQ 61 (ye (.bool r_10)) ?_
     refine sS 11 (yN kN_ 3 hS13 K10) ?_
     rintro _ w_12 ⟨b3, rfl, hS14⟩
     have hS14 : ST w0 [] _ [⟨aD b, 25, [vi r_3.Kind, vi r_3.I, vi r_3.J, vi r_3.M_], 4⟩, ⟨B2, 25, (r_4.flatMap eN2), c2 * 4⟩, ⟨B3, 25, (([r_3] ++ r_4).flatMap eN2), c3 * 4⟩, ⟨B4, 51, (r_7.Cells.flatMap eN0), c4 * 5⟩, ⟨aD b2, 34, kM_ r_7 B4 c4, 3⟩, ⟨B5, 51, (r_9.Cells.flatMap eN0), c5 * 5⟩, ⟨aD b3, 34, kN_, 3⟩] [⟨B, (code.flatMap enc_u8)⟩, ⟨B1, (more.flatMap enc_u8)⟩] := hS14
     refine s0 (yT 6 3 (aD b3) 34 (gM_ r_9 B5 c5) (kM_ r_9 B5 c5) 0 hS14 K4) ?_
     rintro _ w_13 ⟨rfl, hS15⟩
     have hS15 : ST w0 [] _ [⟨aD b, 25, [vi r_3.Kind, vi r_3.I, vi r_3.J, vi r_3.M_], 4⟩, ⟨B2, 25, (r_4.flatMap eN2), c2 * 4⟩, ⟨B3, 25, (([r_3] ++ r_4).flatMap eN2), c3 * 4⟩, ⟨B4, 51, (r_7.Cells.flatMap eN0), c4 * 5⟩, ⟨aD b2, 34, kM_ r_7 B4 c4, 3⟩, ⟨B5, 51, (r_9.Cells.flatMap eN0), c5 * 5⟩, ⟨aD b3, 34, kM_ r_9 B5 c5, 3⟩] [⟨B, (code.flatMap enc_u8)⟩, ⟨B1, (more.flatMap enc_u8)⟩] := hS15
     refine sQ 12 (yg (.bool r_10)) (rn (cq (cr ?_)))
     refine sQ 62 (ym (.bool r_8)) <| sQ 63 (Y_not (p := r_8) rfl rfl) <| sQ 64 (ym (.bool (!r_8))) ?_
     refine sgq 65 (B := (!(!r_8))) (v := .bool r_10) rfl rfl (uF_ 64) (fun hg => (ym (.bool r_10))) ?_
     refine sgq 66 (B := (!(!r_8))) (v := .bool (!r_10)) rfl rfl (uF_ 64) (fun hg1 => (Y_not (p := r_10) rfl (gv_of (v := .bool r_10) hg1))) ?_
     refine sQ 67 (Y_or (b := (!r_8)) (z := (!r_10)) rfl rfl rfl rfl) <| sQ 68 (ym (.bool ((!r_8) || (!r_10)))) ?_
     refine sgq 69 (B := (!((!r_8) || (!r_10)))) (v := gM_ r_7 B4 c4) rfl rfl (uF_ 68) (fun hg2 => (yb (aD b2) 0 (kM_ r_7 B4 c4) K8 K4 (hS15.c 4))) ?_
     refine sgq 70 (B := (!((!r_8) || (!r_10)))) (v := gM_ r_9 B5 c5) rfl rfl (uF_ 68) (fun hg3 => (yb (aD b3) 0 (kM_ r_9 B5 c5) K8 K4 (hS15.c 6))) ?_
     obtain ⟨r_11, hc6, hF6⟩ := bI hF6
     refine sgc 71 (B := (!((!r_8) || (!r_10)))) (v := .bool r_11) (F := hS15.fn) rfl rfl (uF_ 68) hS15 (fun hg4 => (yC [gM_ r_7 B4 c4, gM_ r_9 B5 c5] k_call_10 (CV.mono (c_spec_EqualMatrices r_7 r_9 B4 c4 r_7.Cells.length B5 c5 r_9.Cells.length _ rfl rfl (hS15.inn0 [(false, 3), (false, 5)] rfl) (gb_inv hc6 hg4)) (by rintro _ _ ⟨rfl, h⟩; exact ⟨rfl, hS15.out00 h⟩)) rfl (mc (gv_of (v := gM_ r_7 B4 c4) hg4) (mc (gv_of (v := gM_ r_9 B5 c5) hg4) mn)))) ?_
     rintro w_14 hS16
     have hS16 : ST _ _ w_14 _ _ := hS16
     refine sgq 72 (B := (!((!r_8) || (!r_10)))) (v := .bool (!r_11)) rfl rfl (uF_ 68) (fun hg5 => (Y_not (p := r_11) rfl (gv_of (v := .bool r_11) hg5))) ?_
     refine sQ 73 (Y_or (b := ((!r_8) || (!r_10))) (z := (!r_11)) rfl rfl rfl rfl) (rn ?_)
     refine cw_cond (b := (((!r_8) || (!r_10)) || (!r_11))) rfl (fun hb3 => ?_) (fun hb3 => ?_)
     ·skip
      have hF7 := ct hF6 hb3
      refine cq (cr ?_)
      refine sQ 4 (yg (.bool false)) (rn (ct_ ?_))
      obtain rfl := sI hF7
      obtain rfl := sI hF5
      exact ret1 Tryz.results3 (v1 := .bool false) (resAt_tmp rfl) ⟨rfl, (hS16.sN [])⟩
     ·skip
      have hF8 := cf' hF6 hb3
      refine cw_skip ?_
      exact ⟨(sI hF8), (fc rfl fn_), (hS16.sel [] rfl rfl)⟩
    ·skip
     have hF9 := cf' hz hb2
     refine cw_skip ?_
     exact ⟨(sI hF9), (fc rfl fn_), (hS6.sel [] rfl rfl)⟩
   rintro f w ⟨rfl, hf, hS7⟩
   refine cq (cr ?_)
   refine sQ 75 (ym (.slice B1 more.length c1) rfl (hf.g 1 0)) ?_
   obtain ⟨⟨r_12, r_13⟩, hc7, hF5⟩ := bI hF5
   refine sc 76 rfl rfl (yC [.slice B1 more.length c1] k_call_11 (c_spec_DrawReduceColumn more B1 c1 more.length _ rfl (hS7.inn0 [(true, 1)] rfl) hc7)) ?_
   rintro _ w_15 ⟨B6, c6, rfl, hq, ho, hd6⟩
   have hS17 := ST.outR00 hS7 hd6 ho (sk 1 (fun _ h => by cases h))
   have ho1 : Org w0 [] [⟨B, (code.flatMap enc_u8)⟩, ⟨B1, (more.flatMap enc_u8)⟩] [⟨B6, (r_12.Cells.flatMap eN0)⟩] := org_trans0 hS7 ho (org_cons (org_mem (i := 1) rfl) org_nil)
   have hS18 : ST w0 [] _ [] [⟨B6, (r_12.Cells.flatMap eN0)⟩, ⟨B, (code.flatMap enc_u8)⟩, ⟨B1, (more.flatMap enc_u8)⟩] := hS17
   refine sQ 74 (ym (.tuple #[gM_ r_12 B6 c6, vi r_13])) <| sQ 77 (ye (gM_ r_12 B6 c6)) <| sQ 78 (ye (vi r_13)) ?_
   refine sS 13 (yN kN_ 3 hS18 K10) ?_
   rintro _ w_16 ⟨b4, rfl, hS19⟩
   refine s0 (yT 0 3 (aD b4) 34 (gM_ r_12 B6 c6) (kM_ r_12 B6 c6) 0 hS19 K4) ?_
   rintro _ w_17 ⟨rfl, hS20⟩
   refine sQ 14 (yg (vi r_13)) (rn (cq (cr ?_)))
   refine sQ 80 (yb (aD b4) 0 (kM_ r_12 B6 c6) K8 K4 (hS20.c 0)) <| sQ 81 (ym (vi r_13)) ?_
   obtain ⟨⟨r_14, r_15⟩, hc8, hF5⟩ := bI hF5
   refine sc 82 rfl rfl (yC [gM_ r_12 B6 c6, vi r_13] k_call_12 (c_impl_ReduceColumn r_12 r_13 B6 c6 r_12.Cells.length _ rfl hq (hS20.inn0 [(true, 0)] rfl) hc8)) ?_
   rintro _ w_18 ⟨B7, c7, rfl, hd7⟩
   have hS21 := hS20.out0 hd7
   have hS21 : ST w0 [] _ [⟨aD b4, 34, kM_ r_12 B6 c6, 3⟩, ⟨B7, 25, (r_14.flatMap eN2), c7 * 4⟩] [⟨B6, (r_12.Cells.flatMap eN0)⟩, ⟨B, (code.flatMap enc_u8)⟩, ⟨B1, (more.flatMap enc_u8)⟩] := hS21
   refine sQ 79 (ym (.tuple #[.slice B7 r_14.length c7, .bool r_15])) <| sQ 83 (ye (.slice B7 r_14.length c7)) <| sQ 84 (ye (.bool r_15)) <| sQ 15 (yg (.slice B7 r_14.length c7)) <| sQ 16 (yg (.bool r_15)) (rn (cq (cq (cr ?_))))
   refine sQ 85 (ym (.bool r_15)) (rn ?_)
   refine cw_cond (b := r_15) rfl (fun hb4 => ?_) (fun hb4 => ?_)
   ·skip
    have hF10 := ct hF5 hb4
    refine cq (cr ?_)
    refine sQ 86 (yb (aD b4) 0 (kM_ r_12 B6 c6) K8 K4 (hS21.c 0)) ?_
    refine sS 17 (yN kN_ 3 hS21 K10) ?_
    rintro _ w_19 ⟨b5, rfl, hS22⟩
    have hS22 : ST w0 [] _ [⟨aD b4, 34, kM_ r_12 B6 c6, 3⟩, ⟨B7, 25, (r_14.flatMap eN2), c7 * 4⟩, ⟨aD b5, 34, kN_, 3⟩] [⟨B6, (r_12.Cells.flatMap eN0)⟩, ⟨B, (code.flatMap enc_u8)⟩, ⟨B1, (more.flatMap enc_u8)⟩] := hS22
    refine s0 (yT 2 3 (aD b5) 34 (gM_ r_12 B6 c6) (kM_ r_12 B6 c6) 0 hS22 K4) ?_
    rintro _ w_20 ⟨rfl, hS23⟩
    have hS23 : ST w0 [] _ [⟨aD b4, 34, kM_ r_12 B6 c6, 3⟩, ⟨B7, 25, (r_14.flatMap eN2), c7 * 4⟩, ⟨aD b5, 34, kM_ r_12 B6 c6, 3⟩] [⟨B6, (r_12.Cells.flatMap eN0)⟩, ⟨B, (code.flatMap enc_u8)⟩, ⟨B1, (more.flatMap enc_u8)⟩] := hS23
    refine rn (cq (cq (cr ?_)))
    refine sQ 87 (ym (.slice B7 r_14.length c7)) <| sQ 88 (Y_len (B := B7) (m := r_14.length) (c := c7) K28 rfl rfl) <| sQ 89 (ym (vi 0)) (rn ?_)
    obtain ⟨hN, hF10⟩ := chk_inv hF10
    obtain ⟨z1, hz1, hF11⟩ := bI hF10
    have hS25 : ST w0 [] _ [⟨aD b4, 34, kM_ r_12 B6 c6, 3⟩, ⟨B7, 25, (r_14.flatMap eN2), c7 * 4⟩, ⟨aD b5, 34, kM_ r_12 B6 c6, 3⟩] [⟨B6, (r_12.Cells.flatMap eN0)⟩, ⟨B6, (r_12.Cells.flatMap eN0)⟩, ⟨B, (code.flatMap enc_u8)⟩, ⟨B1, (more.flatMap enc_u8)⟩] := ST.subR hS23 (sk 0 (sk 0 (sk 1 (sk 2 (fun _ h => by cases h)))))
    refine cw_block ?_
    refine cw_loop (fun k f w => ∃ (i : Nat) (Rows : Int) (Cols : Int) (Cells : List TDyadic) (B8 : Option Addr) (c8 : Nat), FF f [(13, pt (aD b4) 0), (14, vi r_13), (17, pt (aD b5) 0), (87, .slice B7 r_14.length c7), (88, vi (r_14.length : Int)), (89, vi (i : Int))] ∧ Org w0 [] [⟨B, (code.flatMap enc_u8)⟩, ⟨B1, (more.flatMap enc_u8)⟩] [⟨B8, (Cells.flatMap eN0)⟩] ∧ Cells.length ≤ c8 ∧ ST w0 [] w [⟨aD b4, 34, kM_ r_12 B6 c6, 3⟩, ⟨aD b5, 34, [vi Rows, vi Cols, .slice B8 Cells.length c8], 3⟩, ⟨B7, 25, (r_14.flatMap eN2), c7 * 4⟩] [⟨B8, (Cells.flatMap eN0)⟩, ⟨B6, (r_12.Cells.flatMap eN0)⟩, ⟨B, (code.flatMap enc_u8)⟩, ⟨B1, (more.flatMap enc_u8)⟩] ∧ i + k = r_14.length ∧ forX (F_laws_FnTwoLevel_l1 r_14 r_12) k i (Rows, Cols, Cells) = some z1) r_14.length ⟨0, r_12.Rows, r_12.Cols, r_12.Cells, B6, c6, (fc rfl (fc rfl (fc rfl (fc rfl (fc rfl (fc rfl fn_)))))), (org_sub ho1 (sk 0 (fun _ h => by cases h))), (len_le rfl hq), (hS25.sel [0, 2, 1] rfl rfl), Nat.zero_add _, hz1⟩ ?_
    rintro k_ f w ⟨i, Rows, Cols, Cells, B8, c8, hf1, ho2, hq1, hS24, hik, hL⟩
    refine cq (cr ?_)
    refine sQ 90 (yL (i : Int) (r_14.length : Int) rfl (hf1.g 89 5) (hf1.g 88 4)) (rn (cq ?_))
    refine cw_cond (b := (decide ((i : Int) < (r_14.length : Int)))) rfl (fun hlt => ?_) (fun hlt => ?_)
    ·skip
     have hlt1 : i < r_14.length := by have h := of_decide_eq_true hlt; omega
     obtain ⟨K9, rfl⟩ : ∃ k2, k_ = k2 + 1 := ⟨k_ - 1, by omega⟩
     obtain ⟨y, hb5, hL1⟩ := forX_go hL
     unfold F_laws_FnTwoLevel_l1 at hb5
     refine cw_skip (cq (cw_block (cq (cr ?_))))
     obtain ⟨x, hx, hb5⟩ := bI hb5
     refine sQ 91 (Y_index (B := B7) (m := r_14.length) (c := c7) (k := .i64) (i := (i : Int)) K28 K11 rfl (hf1.g 87 3) (hf1.g 89 5) (gi_isSome enc_TwoLevel_len rfl (hS24.c 2) hx) (getI_nn hx) (getI_ltI hx rfl)) <| sQ 92 (ya B7 ((i : Int).toNat * 4) (r_14.flatMap eN2) [vi x.Kind, vi x.I, vi x.J, vi x.M_] K26 K11 (hS24.c 2) rfl rfl (enc_TwoLevel_len x) (gi_seg enc_TwoLevel_len hx)) ?_
     refine sS 19 (yN [vi 0, vi 0, vi 0, vi 0] 4 hS24 K30) ?_
     rintro _ w_21 ⟨b6, rfl, hS26⟩
     have hS26 : ST w0 [] _ [⟨aD b4, 34, kM_ r_12 B6 c6, 3⟩, ⟨aD b5, 34, [vi Rows, vi Cols, .slice B8 Cells.length c8], 3⟩, ⟨B7, 25, (r_14.flatMap eN2), c7 * 4⟩, ⟨aD b6, 25, [vi 0, vi 0, vi 0, vi 0], 4⟩] [⟨B8, (Cells.flatMap eN0)⟩, ⟨B6, (r_12.Cells.flatMap eN0)⟩, ⟨B, (code.flatMap enc_u8)⟩, ⟨B1, (more.flatMap enc_u8)⟩] := hS26
     refine s0 (yT 3 4 (aD b6) 25 (.agg #[vi x.Kind, vi x.I, vi x.J, vi x.M_]) [vi x.Kind, vi x.I, vi x.J, vi x.M_] 0 hS26 K11) ?_
     rintro _ w_22 ⟨rfl, hS27⟩
     have hS27 : ST w0 [] _ [⟨aD b4, 34, kM_ r_12 B6 c6, 3⟩, ⟨aD b5, 34, [vi Rows, vi Cols, .slice B8 Cells.length c8], 3⟩, ⟨B7, 25, (r_14.flatMap eN2), c7 * 4⟩, ⟨aD b6, 25, [vi x.Kind, vi x.I, vi x.J, vi x.M_], 4⟩] [⟨B8, (Cells.flatMap eN0)⟩, ⟨B6, (r_12.Cells.flatMap eN0)⟩, ⟨B, (code.flatMap enc_u8)⟩, ⟨B1, (more.flatMap enc_u8)⟩] := hS27
     refine rn (cq (cr ?_))
     refine sQ 94 (yd (aD b4) 0 0 K34 K0 rfl (hf1.g 13 0)) <| sQ 95 (yl (aD b4) 0 (kM_ r_12 B6 c6) (vi r_12.Rows) K1 (hS27.c 0)) <| sQ 96 (yb (aD b6) 0 [vi x.Kind, vi x.I, vi x.J, vi x.M_] K26 K11 (hS27.c 3)) ?_
     obtain ⟨⟨r_16, r_17⟩, hc9, hb5⟩ := bI hb5
     refine sc 97 rfl rfl (yC [vi r_12.Rows, .agg #[vi x.Kind, vi x.I, vi x.J, vi x.M_]] k_call_13 (c_spec_TwoLevelMatrix r_12.Rows x _  (hS27.inn0 [] rfl) hc9)) ?_
     rintro _ w_23 ⟨B9, c9, rfl, hd8⟩
     have hS28 := hS27.out0 hd8
     have hS28 : ST w0 [] _ [⟨aD b4, 34, kM_ r_12 B6 c6, 3⟩, ⟨aD b5, 34, [vi Rows, vi Cols, .slice B8 Cells.length c8], 3⟩, ⟨B7, 25, (r_14.flatMap eN2), c7 * 4⟩, ⟨aD b6, 25, [vi x.Kind, vi x.I, vi x.J, vi x.M_], 4⟩, ⟨B9, 51, (r_16.Cells.flatMap eN0), c9 * 5⟩] [⟨B8, (Cells.flatMap eN0)⟩, ⟨B6, (r_12.Cells.flatMap eN0)⟩, ⟨B, (code.flatMap enc_u8)⟩, ⟨B1, (more.flatMap enc_u8)⟩] := hS28
     refine sQ 93 (ym (.tuple #[gM_ r_16 B9 c9, .bool r_17])) <| sQ 98 (ye (gM_ r_16 B9 c9)) <| sQ 99 (ye (.bool r_17)) ?_
     refine sS 20 (yN kN_ 3 hS28 K10) ?_
     rintro _ w_24 ⟨b7, rfl, hS29⟩
     have hS29 : ST w0 [] _ [⟨aD b4, 34, kM_ r_12 B6 c6, 3⟩, ⟨aD b5, 34, [vi Rows, vi Cols, .slice B8 Cells.length c8], 3⟩, ⟨B7, 25, (r_14.flatMap eN2), c7 * 4⟩, ⟨aD b6, 25, [vi x.Kind, vi x.I, vi x.J, vi x.M_], 4⟩, ⟨B9, 51, (r_16.Cells.flatMap eN0), c9 * 5⟩, ⟨aD b7, 34, kN_, 3⟩] [⟨B8, (Cells.flatMap eN0)⟩, ⟨B6, (r_12.Cells.flatMap eN0)⟩, ⟨B, (code.flatMap enc_u8)⟩, ⟨B1, (more.flatMap enc_u8)⟩] := hS29
     refine s0 (yT 5 3 (aD b7) 34 (gM_ r_16 B9 c9) (kM_ r_16 B9 c9) 0 hS29 K4) ?_
     rintro _ w_25 ⟨rfl, hS30⟩
     have hS30 : ST w0 [] _ [⟨aD b4, 34, kM_ r_12 B6 c6, 3⟩, ⟨aD b5, 34, [vi Rows, vi Cols, .slice B8 Cells.length c8], 3⟩, ⟨B7, 25, (r_14.flatMap eN2), c7 * 4⟩, ⟨aD b6, 25, [vi x.Kind, vi x.I, vi x.J, vi x.M_], 4⟩, ⟨B9, 51, (r_16.Cells.flatMap eN0), c9 * 5⟩, ⟨aD b7, 34, kM_ r_16 B9 c9, 3⟩] [⟨B8, (Cells.flatMap eN0)⟩, ⟨B6, (r_12.Cells.flatMap eN0)⟩, ⟨B, (code.flatMap enc_u8)⟩, ⟨B1, (more.flatMap enc_u8)⟩] := hS30
     refine sQ 21 (yg (.bool r_17)) (rn (cq (cr ?_)))
     refine sQ 101 (yb (aD b7) 0 (kM_ r_16 B9 c9) K8 K4 (hS30.c 5)) <| sQ 102 (yb (aD b5) 0 [vi Rows, vi Cols, .slice B8 Cells.length c8] K8 K4 (hS30.c 1) rfl (hf1.g 17 2)) ?_
     obtain ⟨⟨r_18, r_19⟩, hc10, hb5⟩ := bI hb5
     refine sc 103 rfl rfl (yC [gM_ r_16 B9 c9, .agg #[vi Rows, vi Cols, .slice B8 Cells.length c8]] k_call_14 (c_spec_MulMatrix r_16 (TMatrix.mk Rows Cols Cells) B9 c9 r_16.Cells.length B8 c8 Cells.length _ rfl rfl (hS30.inn0 [(false, 4), (true, 0)] rfl) hc10)) ?_
     rintro _ w_26 ⟨B10, c10, rfl, hd9⟩
     have hS31 := hS30.out0 hd9
     have hS31 : ST w0 [] _ [⟨aD b4, 34, kM_ r_12 B6 c6, 3⟩, ⟨aD b5, 34, [vi Rows, vi Cols, .slice B8 Cells.length c8], 3⟩, ⟨B7, 25, (r_14.flatMap eN2), c7 * 4⟩, ⟨aD b6, 25, [vi x.Kind, vi x.I, vi x.J, vi x.M_], 4⟩, ⟨B9, 51, (r_16.Cells.flatMap eN0), c9 * 5⟩, ⟨aD b7, 34, kM_ r_16 B9 c9, 3⟩, ⟨B10, 51, (r_18.Cells.flatMap eN0), c10 * 5⟩] [⟨B8, (Cells.flatMap eN0)⟩, ⟨B6, (r_12.Cells.flatMap eN0)⟩, ⟨B, (code.flatMap enc_u8)⟩, ⟨B1, (more.flatMap enc_u8)⟩] := hS31
     refine sQ 100 (ym (.tuple #[gM_ r_18 B10 c10, .bool r_19])) <| sQ 104 (ye (gM_ r_18 B10 c10)) <| sQ 105 (ye (.bool r_19)) ?_
     refine sS 22 (yN kN_ 3 hS31 K10) ?_
     rintro _ w_27 ⟨b8, rfl, hS32⟩
     have hS32 : ST w0 [] _ [⟨aD b4, 34, kM_ r_12 B6 c6, 3⟩, ⟨aD b5, 34, [vi Rows, vi Cols, .slice B8 Cells.length c8], 3⟩, ⟨B7, 25, (r_14.flatMap eN2), c7 * 4⟩, ⟨aD b6, 25, [vi x.Kind, vi x.I, vi x.J, vi x.M_], 4⟩, ⟨B9, 51, (r_16.Cells.flatMap eN0), c9 * 5⟩, ⟨aD b7, 34, kM_ r_16 B9 c9, 3⟩, ⟨B10, 51, (r_18.Cells.flatMap eN0), c10 * 5⟩, ⟨aD b8, 34, kN_, 3⟩] [⟨B8, (Cells.flatMap eN0)⟩, ⟨B6, (r_12.Cells.flatMap eN0)⟩, ⟨B, (code.flatMap enc_u8)⟩, ⟨B1, (more.flatMap enc_u8)⟩] := hS32
     refine s0 (yT 7 3 (aD b8) 34 (gM_ r_18 B10 c10) (kM_ r_18 B10 c10) 0 hS32 K4) ?_
     rintro _ w_28 ⟨rfl, hS33⟩
     have hS33 : ST w0 [] _ [⟨aD b4, 34, kM_ r_12 B6 c6, 3⟩, ⟨aD b5, 34, [vi Rows, vi Cols, .slice B8 Cells.length c8], 3⟩, ⟨B7, 25, (r_14.flatMap eN2), c7 * 4⟩, ⟨aD b6, 25, [vi x.Kind, vi x.I, vi x.J, vi x.M_], 4⟩, ⟨B9, 51, (r_16.Cells.flatMap eN0), c9 * 5⟩, ⟨aD b7, 34, kM_ r_16 B9 c9, 3⟩, ⟨B10, 51, (r_18.Cells.flatMap eN0), c10 * 5⟩, ⟨aD b8, 34, kM_ r_18 B10 c10, 3⟩] [⟨B8, (Cells.flatMap eN0)⟩, ⟨B6, (r_12.Cells.flatMap eN0)⟩, ⟨B, (code.flatMap enc_u8)⟩, ⟨B1, (more.flatMap enc_u8)⟩] := hS33
     refine sQ 23 (yg (.bool r_19)) (rn (cq (cq (cr ?_))))
     refine sQ 106 (ym (.bool r_17)) <| sQ 107 (Y_not (p := r_17) rfl rfl) (rn ?_)
     refine cw_cond (b := (!r_17)) rfl (fun hb6 => ?_) (fun hb6 => ?_)
     ·skip
      have hF12 := ct hb5 hb6
      refine cq (cr ?_)
      refine sQ 4 (yg (.bool false)) (rn (ct_ ?_))
      obtain rfl := sI hF12
      obtain rfl := sI hL1
      obtain rfl := sI hF11
      exact ret1 Tryz.results3 (v1 := .bool false) (resAt_tmp rfl) ⟨rfl, (hS33.sN [])⟩
     ·skip
      have hF13 := cf' hb5 hb6
      refine cw_skip (cq (cq (cr ?_)))
      refine sQ 108 (ym (.bool r_19)) <| sQ 109 (Y_not (p := r_19) rfl rfl) (rn ?_)
      refine cw_cond (b := (!r_19)) rfl (fun hb7 => ?_) (fun hb7 => ?_)
      ·skip
       have hF14 := ct hF13 hb7
       refine cq (cr ?_)
       refine sQ 4 (yg (.bool true)) (rn (ct_ ?_))
       obtain rfl := sI hF14
       obtain rfl := sI hL1
       obtain rfl := sI hF11
       exact ret1 Tryz.results3 (v1 := .bool true) (resAt_tmp rfl) ⟨rfl, (hS33.sN [])⟩
      ·skip
       have hF15 := cf' hF13 hb7
       refine cw_skip (cr ?_)
       refine sQ 110 (yb (aD b8) 0 (kM_ r_18 B10 c10) K8 K4 (hS33.c 7)) ?_
       refine s0 (yT 1 3 (aD b5) 34 (gM_ r_18 B10 c10) (kM_ r_18 B10 c10) 0 hS33 K4 rfl (hf1.g 17 2)) ?_
       rintro _ w_29 ⟨rfl, hS34⟩
       have hS34 : ST w0 [] _ [⟨aD b4, 34, kM_ r_12 B6 c6, 3⟩, ⟨aD b5, 34, kM_ r_18 B10 c10, 3⟩, ⟨B7, 25, (r_14.flatMap eN2), c7 * 4⟩, ⟨aD b6, 25, [vi x.Kind, vi x.I, vi x.J, vi x.M_], 4⟩, ⟨B9, 51, (r_16.Cells.flatMap eN0), c9 * 5⟩, ⟨aD b7, 34, kM_ r_16 B9 c9, 3⟩, ⟨B10, 51, (r_18.Cells.flatMap eN0), c10 * 5⟩, ⟨aD b8, 34, kM_ r_18 B10 c10, 3⟩] [⟨B8, (Cells.flatMap eN0)⟩, ⟨B6, (r_12.Cells.flatMap eN0)⟩, ⟨B, (code.flatMap enc_u8)⟩, ⟨B1, (more.flatMap enc_u8)⟩] := hS34
       refine rn (cr ?_)
       refine sQ 111 (yP (i : Int) 1 rfl (hf1.g 89 5)) <| sQ 89 (ym (vi (i64.wrap ((i : Int) + 1)))) (rn ?_)
       obtain rfl := sI hF15
       have ho3 : Org w0 [] [⟨B, (code.flatMap enc_u8)⟩, ⟨B1, (more.flatMap enc_u8)⟩] [⟨B10, (r_18.Cells.flatMap eN0)⟩] := ST.orgOwn hS34 (i := 6) rfl
       have hcap : r_18.Cells.length ≤ c10 := (hS34.lencap (i := 6) rfl (fm_lenn (l := r_18.Cells) eN1 rfl) rfl rfl)
       have hS35 : ST w0 [] _ [⟨aD b4, 34, kM_ r_12 B6 c6, 3⟩, ⟨aD b5, 34, kM_ r_18 B10 c10, 3⟩, ⟨B7, 25, (r_14.flatMap eN2), c7 * 4⟩, ⟨aD b6, 25, [vi x.Kind, vi x.I, vi x.J, vi x.M_], 4⟩, ⟨B9, 51, (r_16.Cells.flatMap eN0), c9 * 5⟩, ⟨aD b7, 34, kM_ r_16 B9 c9, 3⟩, ⟨aD b8, 34, kM_ r_18 B10 c10, 3⟩] [⟨B10, (r_18.Cells.flatMap eN0)⟩, ⟨B8, (Cells.flatMap eN0)⟩, ⟨B6, (r_12.Cells.flatMap eN0)⟩, ⟨B, (code.flatMap enc_u8)⟩, ⟨B1, (more.flatMap enc_u8)⟩] := hS34.freeze (i := 6) rfl
       have hS36 : ST w0 [] _ [⟨aD b4, 34, kM_ r_12 B6 c6, 3⟩, ⟨aD b5, 34, kM_ r_18 B10 c10, 3⟩, ⟨B7, 25, (r_14.flatMap eN2), c7 * 4⟩, ⟨aD b6, 25, [vi x.Kind, vi x.I, vi x.J, vi x.M_], 4⟩, ⟨B9, 51, (r_16.Cells.flatMap eN0), c9 * 5⟩, ⟨aD b7, 34, kM_ r_16 B9 c9, 3⟩, ⟨aD b8, 34, kM_ r_18 B10 c10, 3⟩] [⟨B10, (r_18.Cells.flatMap eN0)⟩, ⟨B6, (r_12.Cells.flatMap eN0)⟩, ⟨B, (code.flatMap enc_u8)⟩, ⟨B1, (more.flatMap enc_u8)⟩] := ST.subR hS35 (sk 0 (sk 2 (sk 3 (sk 4 (fun _ h => by cases h)))))
       exact ⟨K9, Nat.lt_succ_self _, i + 1, r_18.Rows, r_18.Cols, r_18.Cells, B10, c10, (fc (hf1.g 13 0) (fc (hf1.g 14 1) (fc (hf1.g 17 2) (fc (hf1.g 87 3) (fc (hf1.g 88 4) (fc (congrArg (Value.int .i64) (wr_succ hlt1 hN)) fn_)))))), ho3, (len_le rfl hcap), (hS36.sel [0, 1, 2] rfl rfl), (by omega), hL1⟩
    ·skip
     obtain rfl : k_ = 0 := by have h := of_decide_eq_false hlt; omega
     refine cw_exit rfl ?_
     obtain rfl := sI hL
     refine cq (cr ?_)
     refine sQ 113 (yd (aD b4) 0 0 K34 K0 rfl (hf1.g 13 0)) <| sQ 114 (yl (aD b4) 0 (kM_ r_12 B6 c6) (vi r_12.Rows) K1 (hS24.c 0)) ?_
     obtain ⟨⟨r_20, r_21⟩, hc11, hF11⟩ := bI hF11
     refine sc 115 rfl rfl (yC [vi r_12.Rows] k_call_9 (c_spec_IdentityMatrix r_12.Rows _  (hS24.inn0 [] rfl) hc11)) ?_
     rintro _ w_30 ⟨B11, c11, rfl, hd10⟩
     have hS37 := hS24.out0 hd10
     have hS37 : ST w0 [] _ [⟨aD b4, 34, kM_ r_12 B6 c6, 3⟩, ⟨aD b5, 34, [vi Rows, vi Cols, .slice B8 Cells.length c8], 3⟩, ⟨B7, 25, (r_14.flatMap eN2), c7 * 4⟩, ⟨B11, 51, (r_20.Cells.flatMap eN0), c11 * 5⟩] [⟨B8, (Cells.flatMap eN0)⟩, ⟨B6, (r_12.Cells.flatMap eN0)⟩, ⟨B, (code.flatMap enc_u8)⟩, ⟨B1, (more.flatMap enc_u8)⟩] := hS37
     refine sQ 112 (ym (.tuple #[gM_ r_20 B11 c11, .bool r_21])) <| sQ 116 (ye (gM_ r_20 B11 c11)) <| sQ 117 (ye (.bool r_21)) ?_
     refine sS 24 (yN kN_ 3 hS37 K10) ?_
     rintro _ w_31 ⟨b9, rfl, hS38⟩
     have hS38 : ST w0 [] _ [⟨aD b4, 34, kM_ r_12 B6 c6, 3⟩, ⟨aD b5, 34, [vi Rows, vi Cols, .slice B8 Cells.length c8], 3⟩, ⟨B7, 25, (r_14.flatMap eN2), c7 * 4⟩, ⟨B11, 51, (r_20.Cells.flatMap eN0), c11 * 5⟩, ⟨aD b9, 34, kN_, 3⟩] [⟨B8, (Cells.flatMap eN0)⟩, ⟨B6, (r_12.Cells.flatMap eN0)⟩, ⟨B, (code.flatMap enc_u8)⟩, ⟨B1, (more.flatMap enc_u8)⟩] := hS38
     refine s0 (yT 4 3 (aD b9) 34 (gM_ r_20 B11 c11) (kM_ r_20 B11 c11) 0 hS38 K4) ?_
     rintro _ w_32 ⟨rfl, hS39⟩
     have hS39 : ST w0 [] _ [⟨aD b4, 34, kM_ r_12 B6 c6, 3⟩, ⟨aD b5, 34, [vi Rows, vi Cols, .slice B8 Cells.length c8], 3⟩, ⟨B7, 25, (r_14.flatMap eN2), c7 * 4⟩, ⟨B11, 51, (r_20.Cells.flatMap eN0), c11 * 5⟩, ⟨aD b9, 34, kM_ r_20 B11 c11, 3⟩] [⟨B8, (Cells.flatMap eN0)⟩, ⟨B6, (r_12.Cells.flatMap eN0)⟩, ⟨B, (code.flatMap enc_u8)⟩, ⟨B1, (more.flatMap enc_u8)⟩] := hS39
     refine sQ 25 (yg (.bool r_21)) (rn (cq (cr ?_)))
     refine sQ 119 (yb (aD b9) 0 (kM_ r_20 B11 c11) K8 K4 (hS39.c 4)) <| sQ 120 (ym (vi r_13) rfl (hf1.g 14 1)) ?_
     obtain ⟨⟨r_22, r_23⟩, hc12, hF11⟩ := bI hF11
     refine sc 121 rfl rfl (yC [gM_ r_20 B11 c11, vi r_13] k_call_15 (c_spec_ColumnOf r_20 r_13 B11 c11 r_20.Cells.length _ rfl (hS39.inn0 [(false, 3)] rfl) hc12)) ?_
     rintro _ w_33 ⟨B12, c12, rfl, hd11⟩
     have hS40 := hS39.out0 hd11
     have hS40 : ST w0 [] _ [⟨aD b4, 34, kM_ r_12 B6 c6, 3⟩, ⟨aD b5, 34, [vi Rows, vi Cols, .slice B8 Cells.length c8], 3⟩, ⟨B7, 25, (r_14.flatMap eN2), c7 * 4⟩, ⟨B11, 51, (r_20.Cells.flatMap eN0), c11 * 5⟩, ⟨aD b9, 34, kM_ r_20 B11 c11, 3⟩, ⟨B12, 51, (r_22.Cells.flatMap eN0), c12 * 5⟩] [⟨B8, (Cells.flatMap eN0)⟩, ⟨B6, (r_12.Cells.flatMap eN0)⟩, ⟨B, (code.flatMap enc_u8)⟩, ⟨B1, (more.flatMap enc_u8)⟩] := hS40
     refine sQ 118 (ym (.tuple #[gM_ r_22 B12 c12, .bool r_23])) <| sQ 122 (ye (gM_ r_22 B12 c12)) <| sQ 123 (ye (.bool r_23)) ?_
     refine sS 26 (yN kN_ 3 hS40 K10) ?_
     rintro _ w_34 ⟨b10, rfl, hS41⟩
     have hS41 : ST w0 [] _ [⟨aD b4, 34, kM_ r_12 B6 c6, 3⟩, ⟨aD b5, 34, [vi Rows, vi Cols, .slice B8 Cells.length c8], 3⟩, ⟨B7, 25, (r_14.flatMap eN2), c7 * 4⟩, ⟨B11, 51, (r_20.Cells.flatMap eN0), c11 * 5⟩, ⟨aD b9, 34, kM_ r_20 B11 c11, 3⟩, ⟨B12, 51, (r_22.Cells.flatMap eN0), c12 * 5⟩, ⟨aD b10, 34, kN_, 3⟩] [⟨B8, (Cells.flatMap eN0)⟩, ⟨B6, (r_12.Cells.flatMap eN0)⟩, ⟨B, (code.flatMap enc_u8)⟩, ⟨B1, (more.flatMap enc_u8)⟩] := hS41
     refine s0 (yT 6 3 (aD b10) 34 (gM_ r_22 B12 c12) (kM_ r_22 B12 c12) 0 hS41 K4) ?_
     rintro _ w_35 ⟨rfl, hS42⟩
     have hS42 : ST w0 [] _ [⟨aD b4, 34, kM_ r_12 B6 c6, 3⟩, ⟨aD b5, 34, [vi Rows, vi Cols, .slice B8 Cells.length c8], 3⟩, ⟨B7, 25, (r_14.flatMap eN2), c7 * 4⟩, ⟨B11, 51, (r_20.Cells.flatMap eN0), c11 * 5⟩, ⟨aD b9, 34, kM_ r_20 B11 c11, 3⟩, ⟨B12, 51, (r_22.Cells.flatMap eN0), c12 * 5⟩, ⟨aD b10, 34, kM_ r_22 B12 c12, 3⟩] [⟨B8, (Cells.flatMap eN0)⟩, ⟨B6, (r_12.Cells.flatMap eN0)⟩, ⟨B, (code.flatMap enc_u8)⟩, ⟨B1, (more.flatMap enc_u8)⟩] := hS42
     refine sQ 27 (yg (.bool r_23)) (rn (cq (cr ?_)))
     refine sQ 124 (ym (.bool r_21)) <| sQ 125 (ym (.bool r_21)) ?_
     refine sgq 126 (B := r_21) (v := .bool r_23) rfl rfl (uT_ 125) (fun hg6 => (ym (.bool r_23))) ?_
     refine sQ 127 (Y_and (b := r_21) (z := r_23) rfl rfl rfl rfl) <| sQ 128 (ym (.bool (r_21 && r_23))) ?_
     refine sgq 129 (B := (r_21 && r_23)) (v := .agg #[vi Rows, vi Cols, .slice B8 Cells.length c8]) rfl rfl (uT_ 128) (fun hg7 => (yb (aD b5) 0 [vi Rows, vi Cols, .slice B8 Cells.length c8] K8 K4 (hS42.c 1) rfl (hf1.g 17 2))) ?_
     refine sgq 130 (B := (r_21 && r_23)) (v := gM_ r_22 B12 c12) rfl rfl (uT_ 128) (fun hg8 => (yb (aD b10) 0 (kM_ r_22 B12 c12) K8 K4 (hS42.c 6))) ?_
     obtain ⟨r_24, hc13, hF11⟩ := bI hF11
     refine sgc 131 (B := (r_21 && r_23)) (v := .bool r_24) (F := hS42.fn) rfl rfl (uT_ 128) hS42 (fun hg9 => (yC [.agg #[vi Rows, vi Cols, .slice B8 Cells.length c8], gM_ r_22 B12 c12] k_call_10 (CV.mono (c_spec_EqualMatrices (TMatrix.mk Rows Cols Cells) r_22 B8 c8 Cells.length B12 c12 r_22.Cells.length _ rfl rfl (hS42.inn0 [(true, 0), (false, 5)] rfl) (gb_inv hc13 hg9)) (by rintro _ _ ⟨rfl, h⟩; exact ⟨rfl, hS42.out00 h⟩)) rfl (mc (gv_of (v := .agg #[vi Rows, vi Cols, .slice B8 Cells.length c8]) hg9) (mc (gv_of (v := gM_ r_22 B12 c12) hg9) mn)))) ?_
     rintro w_36 hS43
     have hS43 : ST _ _ w_36 _ _ := hS43
     refine sQ 132 (Y_and (b := (r_21 && r_23)) (z := r_24) rfl rfl rfl rfl) <| sQ 4 (yg (.bool ((r_21 && r_23) && r_24))) (rn (ct_ ?_))
     obtain rfl := sI hF11
     exact ret1 Tryz.results3 (v1 := .bool ((r_21 && r_23) && r_24)) (resAt_tmp rfl) ⟨rfl, (hS43.sN [])⟩
   ·skip
    have hF16 := cf' hF5 hb4
    refine cw_skip (cq (cr ?_))
    refine sQ 4 (yg (.bool true)) (rn (ct_ ?_))
    obtain rfl := sI hF16
    exact ret1 Tryz.results3 (v1 := .bool true) (resAt_tmp rfl) ⟨rfl, (hS21.sN [])⟩
end Go.VK
