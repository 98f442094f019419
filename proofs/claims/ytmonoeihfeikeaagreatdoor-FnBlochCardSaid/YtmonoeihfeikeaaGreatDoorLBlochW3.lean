/- Walks: each Go function returns what its Lean function says. By program. -/
import Derived.Test.YtmonoeihfeikeaaGreatDoorLBlochFa
import Derived.Test.YtmonoeihfeikeaaGreatDoorLBlochW2
set_option linter.unusedVariables false
set_option maxRecDepth 100000
set_option maxHeartbeats 4000000
namespace Go.VK
open Go.RowKit
open Go.Proofs
open Go.IntKind
attribute [local irreducible] CW RW RA CV Y Yw Yc Ys RetOf
attribute [local irreducible] F_spec_l3Unit F_spec_l1In F_spec_l1Good F_spec_l1Even F_spec_l2C_add F_spec_l2C_mul F_spec_l2C_times F_spec_l6One F_slices_ContainsFunc_impl_Dyadic_impl_Dyadic F_impl_IsValidDyadic F_impl_IsValidMatrix F_impl_ringIf F_impl_Matrix_at F_impl_Adjoint F_impl_MulDyadic F_impl_combined F_impl_AddDyadic F_impl_MulMatrix F_impl_whole F_impl_IsOneQubit F_impl_small F_impl_GateMatrix F_impl_TraceOf F_impl_blochCell F_impl_BlochOf F_spec_l1Has F_spec_l3Dim F_spec_l2Good F_spec_l3Good F_spec_l1Conj F_spec_l2Conj F_spec_l3Adj F_spec_EqualMatrices F_spec_IsUnitary F_spec_l9Good F_spec_l9Pauli F_spec_l9Bloch F_spec_BlochOf F_laws_pSameBloch F_spec_l2C_matrix F_spec_MulMatrix F_impl_mulBloch F_impl_isReal F_impl_IsValidBloch_1 F_impl_transposed F_impl_SubRing F_impl_SubDyadic F_impl_minor F_impl_determinant F_impl_IsValidBloch F_impl_MulBloch F_impl_blochExp F_impl_BlochExp F_impl_blochGate
theorem c_impl_TraceOf (m : TMatrix) (B : Option Addr) (c n : Nat) (w0 : World) (hn : m.Cells.length = n) (hS : ST w0 [] w0 [] [⟨B, (m.Cells.flatMap eN0)⟩]) {r_ : TDyadic} {r_1 : Bool} (hF : F_impl_TraceOf m = some (r_, r_1)) :
  CV Tryz.prog 36 #[.agg #[vi m.Rows, vi m.Cols, .slice B n c]] w0 (fun v w' => v = .tuple #[gD_ r_, .bool r_1] ∧ ST w0 [] w' [] []) := by
 subst hn
 unfold F_impl_TraceOf at hF
 refine cv_of_cw 39 Tryz.func36 rfl Tryz.ntmps36 rfl ?_
 refine cq (cr ?_)
 refine sS 1 (yB 26 (gM_ m B c) (kM_ m B c) 3 hS) ?_
 rintro _ w_ ⟨b, rfl, hS1⟩
 refine sS 2 (yN kZ_ 5 hS1 K6) ?_
 rintro _ w_1 ⟨b1, rfl, hS2⟩
 refine sQ 3 (yg (.bool false)) (rn (cq (cq (cr ?_))))
 refine sQ 7 (yb (aD b) 0 (kM_ m B c) K9 K4 (hS2.c 0)) ?_
 obtain ⟨r_2, hc, hF⟩ := bI hF
 refine sc 8 rfl rfl (yC [gM_ m B c] K72 (c_impl_IsValidMatrix m B c m.Cells.length _ rfl (hS2.inn0 [(true, 0)] rfl) hc)) ?_
 rintro _ w_2 ⟨rfl, hd⟩
 have hS3 := hS2.out00 hd
 refine sQ 9 (Y_not (p := r_2) rfl rfl) <| sQ 10 (ym (.bool (!r_2))) ?_
 refine sgq 11 (B := (!(!r_2))) (v := pt (aD b) 0) rfl rfl (uF_ 10) (fun hg => (yd (aD b) 0 0 K28 K2)) ?_
 refine sgq 12 (B := (!(!r_2))) (v := vi m.Rows) rfl rfl (uF_ 10) (fun hg1 => (yl (aD b) 0 (kM_ m B c) (vi m.Rows) K1 (hS3.c 0) rfl (gv_of (v := pt (aD b) 0) hg1))) ?_
 refine sgq 13 (B := (!(!r_2))) (v := pt (aD b) 1) rfl rfl (uF_ 10) (fun hg2 => (yd (aD b) 0 0 K27 K2)) ?_
 refine sgq 14 (B := (!(!r_2))) (v := vi m.Cols) rfl rfl (uF_ 10) (fun hg3 => (yl (aD b) 1 (kM_ m B c) (vi m.Cols) K1 (hS3.c 0) rfl (gv_of (v := pt (aD b) 1) hg3))) ?_
 refine sgq 15 (B := (!(!r_2))) (v := .bool (m.Rows != m.Cols)) rfl rfl (uF_ 10) (fun hg4 => (Y_ne (k := .i64) (a := m.Rows) (b := m.Cols) rfl (gv_of (v := vi m.Rows) hg4) (gv_of (v := vi m.Cols) hg4))) ?_
 refine sQ 16 (Y_or (b := (!r_2)) (z := (m.Rows != m.Cols)) rfl rfl rfl rfl) (rn ?_)
 refine cw_cond (b := ((!r_2) || (m.Rows != m.Cols))) rfl (fun hb => ?_) (fun hb => ?_)
 ·skip
  have hF1 := ct hF hb
  refine cq (cr ?_)
  refine sQ 17 (Y_buildS (zs := kZ_) (vs := []) (cs := kZ_) K18 K6 rfl mpn rfl) ?_
  refine s0 (yT 1 5 (aD b1) 43 gZ_ kZ_ 0 hS3 K0) ?_
  rintro _ w_3 ⟨rfl, hS4⟩
  refine sQ 3 (yg (.bool false)) (rn (ct_ ?_))
  obtain ⟨rfl, rfl⟩ := pr2 (sI hF1)
  exact ret2 Tryz.results36 (v1 := gZ_) (resAt_cellA (B := aD b1) (i := 0) (cs := kZ_) (vs := kZ_) rfl K5 K0 (hS4.c 1) rfl rfl) (v2 := .bool false) (resAt_tmp rfl) ⟨rfl, (hS4.sN [])⟩
 ·skip
  have hF2 := cf' hF hb
  refine cw_skip (cq (cr ?_))
  refine sQ 18 (Y_buildS (zs := kZ_) (vs := []) (cs := kZ_) K18 K6 rfl mpn rfl) ?_
  refine sS 4 (yN kZ_ 5 hS3 K6) ?_
  rintro _ w_4 ⟨b2, rfl, hS5⟩
  refine s0 (yT 2 5 (aD b2) 43 gZ_ kZ_ 0 hS5 K0) ?_
  rintro _ w_5 ⟨rfl, hS6⟩
  refine sQ 5 (yg (.bool true)) (rn (cq (cq (cr ?_))))
  refine sQ 6 (yg (vi 0)) (rn ?_)
  obtain ⟨z, hz, hF3⟩ := bI hF2
  refine cw_block ?_
  refine cw_loop (fun k f w => ∃ (A : Int) (B1 : Int) (C : Int) (D : Int) (Exp : Int) (ok : Bool) (i : Int), FF f [(1, pt (aD b) 0), (2, pt (aD b1) 0), (4, pt (aD b2) 0), (5, .bool ok), (6, vi i)] ∧ ST w0 [] w [⟨aD b, 26, kM_ m B c, 3⟩, ⟨aD b1, 43, kZ_, 5⟩, ⟨aD b2, 43, [vi A, vi B1, vi C, vi D, vi Exp], 5⟩] [⟨B, (m.Cells.flatMap eN0)⟩] ∧ whX (F_impl_TraceOf_l1 m) k (A, B1, C, D, Exp, ok, i) = some z) fuel ⟨0, 0, 0, 0, 0, true, 0, (fc rfl (fc rfl (fc rfl (fc rfl (fc rfl fn_))))), (hS6.sel [0, 1, 2] rfl rfl), hz⟩ ?_
  rintro k_ f w ⟨A, B1, C, D, Exp, ok, i, hf, hS7, hL⟩
  obtain ⟨K11, y, rfl, hb1, hL1⟩ := whX_go hL
  unfold F_impl_TraceOf_l1 at hb1
  refine cq (cq (cr ?_))
  refine sQ 19 (ym (vi i) rfl (hf.g 6 4)) <| sQ 20 (yd (aD b) 0 0 K28 K2 rfl (hf.g 1 0)) <| sQ 21 (yl (aD b) 0 (kM_ m B c) (vi m.Rows) K1 (hS7.c 0)) <| sQ 22 (yL i m.Rows) <| sQ 23 (ym (.bool (decide (i < m.Rows)))) ?_
  refine sgq 24 (B := (decide (i < m.Rows))) (v := .bool ok) rfl rfl (uT_ 23) (fun hg5 => (ym (.bool ok) rfl (hf.g 5 3))) ?_
  refine sQ 25 (Y_and (b := (decide (i < m.Rows))) (z := ok) rfl rfl rfl rfl) (rn ?_)
  refine cw_cond (b := ((decide (i < m.Rows)) && ok)) rfl (fun hb2 => ?_) (fun hb2 => ?_)
  ·skip
   have hF4 := ct hb1 hb2
   refine cw_skip (cq (cw_block ?_))
   obtain ⟨r_3, hc1, hF4⟩ := bI hF4
   obtain ⟨⟨r_4, r_5⟩, hc2, hF4⟩ := bI hF4
   refine cw_mid (fun f w => FF f [(1, pt (aD b) 0), (2, pt (aD b1) 0), (4, pt (aD b2) 0), (5, .bool r_5), (6, vi i)] ∧ ST w0 [] w [⟨aD b, 26, kM_ m B c, 3⟩, ⟨aD b1, 43, kZ_, 5⟩, ⟨aD b2, 43, kD_ r_4, 5⟩] [⟨B, (m.Cells.flatMap eN0)⟩]) ?_ ?_
   ·skip
    refine ra_start (hS7.se [0, 1]).fn (by kernel_rfl) ?_
    have hS11 := hS7.drew
    refine rq 1 30 (v := gM_ m B c) rfl (hS11.se [0, 1]) (fun w' hw' => (yb (aD b) 0 (kM_ m B c) K9 K4 (ST.cf hw' (i := 0) rfl) rfl (hf.g 1 0))) ?_
    refine rq 2 31 (v := vi i) rfl (hS11.se [0, 1]) (fun w' hw' => (ym (vi i) rfl (hf.g 6 4))) ?_
    refine rq 3 32 (v := vi i) rfl (hS11.se [0, 1]) (fun w' hw' => (ym (vi i) rfl (hf.g 6 4))) ?_
    refine rA [0, 4] ?_
    refine ra_y 29 (i := 0) (v := .agg #[vi A, vi B1, vi C, vi D, vi Exp]) rfl rfl rfl (yb (aD b2) 0 [vi A, vi B1, vi C, vi D, vi Exp] K5 K0 (hS11.c 2) rfl (hf.g 4 2)) (hS11.se [0, 1]) ?_ ?_
    ·skip
     refine rA [4] ?_
     refine rC 33 4 rfl (yC [gM_ m B c, vi i, vi i] K59 (c_impl_Matrix_at m i i B c m.Cells.length _ rfl (hS11.inn0 [(true, 0)] rfl) hc1)) ?_ ?_
     ·rintro _ w_6 ⟨rfl, hd1⟩
      have hS12 := hS11.out00 hd1
      refine ⟨(hS12.se [0, 1]), ?_⟩
      refine rA [5] ?_
      refine rC 34 5 rfl (yC [.agg #[vi A, vi B1, vi C, vi D, vi Exp], gD_ r_3] K85 (c_impl_AddDyadic (TDyadic.mk (TRing.mk A B1 C D) Exp) r_3 _  (hS12.inn0 [] rfl) hc2)) ?_ ?_
      ·rintro _ w_7 ⟨rfl, hd2⟩
       have hS13 := hS12.out00 hd2
       refine ⟨(hS13.se [0, 1]), ?_⟩
       refine rq 6 28 (v := .tuple #[gD_ r_4, .bool r_5]) rfl (hS13.se [0, 1]) (fun w' hw' => (ym (.tuple #[gD_ r_4, .bool r_5]))) ?_
       refine rq 7 35 (v := gD_ r_4) rfl (hS13.se [0, 1]) (fun w' hw' => (ye (gD_ r_4))) ?_
       refine rq 8 36 (v := .bool r_5) rfl (hS13.se [0, 1]) (fun w' hw' => (ye (.bool r_5))) ?_
       refine rA [9] ?_
       refine rZ 9 rfl (yT 2 5 (aD b2) 43 (gD_ r_4) (kD_ r_4) 0 hS13 K0 rfl (hf.g 4 2)) ?_ ?_
       ·rintro _ w_8 ⟨rfl, hS14⟩
        refine ⟨(hS14.se [0, 1]), ?_⟩
        refine rq 10 5 (v := .bool r_5) rfl (hS14.se [0, 1]) (fun w' hw' => (yg (.bool r_5))) ?_
        refine ra_done (by kernel_rfl) ?_
        exact ⟨(fc (hf.g 1 0) (fc (hf.g 2 1) (fc (hf.g 4 2) (fc rfl (fc (hf.g 6 4) fn_))))), (hS14.sel [0, 1, 2] rfl rfl)⟩
       exact aN
      exact aN
     exact aN
    refine rC 33 4 rfl (yC [gM_ m B c, vi i, vi i] K59 (c_impl_Matrix_at m i i B c m.Cells.length _ rfl (hS11.inn0 [(true, 0)] rfl) hc1)) ?_ ?_
    ·rintro _ w_9 ⟨rfl, hd3⟩
     have hS15 := hS11.out00 hd3
     refine ⟨(hS15.se [0, 1]), ?_⟩
     refine rA [0] ?_
     refine ra_y 29 (i := 0) (v := .agg #[vi A, vi B1, vi C, vi D, vi Exp]) rfl rfl rfl (yb (aD b2) 0 [vi A, vi B1, vi C, vi D, vi Exp] K5 K0 (hS15.c 2) rfl (hf.g 4 2)) (hS15.se [0, 1]) ?_ ?_
     ·skip
      refine rA [5] ?_
      refine rC 34 5 rfl (yC [.agg #[vi A, vi B1, vi C, vi D, vi Exp], gD_ r_3] K85 (c_impl_AddDyadic (TDyadic.mk (TRing.mk A B1 C D) Exp) r_3 _  (hS15.inn0 [] rfl) hc2)) ?_ ?_
      ·rintro _ w_10 ⟨rfl, hd4⟩
       have hS16 := hS15.out00 hd4
       refine ⟨(hS16.se [0, 1]), ?_⟩
       refine rq 6 28 (v := .tuple #[gD_ r_4, .bool r_5]) rfl (hS16.se [0, 1]) (fun w' hw' => (ym (.tuple #[gD_ r_4, .bool r_5]))) ?_
       refine rq 7 35 (v := gD_ r_4) rfl (hS16.se [0, 1]) (fun w' hw' => (ye (gD_ r_4))) ?_
       refine rq 8 36 (v := .bool r_5) rfl (hS16.se [0, 1]) (fun w' hw' => (ye (.bool r_5))) ?_
       refine rA [9] ?_
       refine rZ 9 rfl (yT 2 5 (aD b2) 43 (gD_ r_4) (kD_ r_4) 0 hS16 K0 rfl (hf.g 4 2)) ?_ ?_
       ·rintro _ w_11 ⟨rfl, hS17⟩
        refine ⟨(hS17.se [0, 1]), ?_⟩
        refine rq 10 5 (v := .bool r_5) rfl (hS17.se [0, 1]) (fun w' hw' => (yg (.bool r_5))) ?_
        refine ra_done (by kernel_rfl) ?_
        exact ⟨(fc (hf.g 1 0) (fc (hf.g 2 1) (fc (hf.g 4 2) (fc rfl (fc (hf.g 6 4) fn_))))), (hS17.sel [0, 1, 2] rfl rfl)⟩
       exact aN
      exact aN
     exact aN
    exact aN
   rintro f w ⟨hf1, hS10⟩
   refine cr ?_
   refine sQ 26 (ym (vi i) rfl (hf1.g 6 4)) <| sQ 27 (yP i 1) <| sQ 6 (yg (vi (i64.wrap (i + 1)))) (rn ?_)
   obtain rfl := sI hF4
   exact ⟨K11, Nat.lt_succ_self _, r_4.Num.A, r_4.Num.B, r_4.Num.C, r_4.Num.D, r_4.Exp, r_5, (i64.wrap (i + 1)), (fc (hf1.g 1 0) (fc (hf1.g 2 1) (fc (hf1.g 4 2) (fc (hf1.g 5 3) (fc rfl fn_))))), (hS10.sel [0, 1, 2] rfl rfl), hL1⟩
  ·skip
   have hF5 := cf' hb1 hb2
   refine cw_exit rfl ?_
   obtain rfl := sI hF5
   obtain rfl := sI hL1
   refine cq (cr ?_)
   refine sQ 37 (yb (aD b2) 0 [vi A, vi B1, vi C, vi D, vi Exp] K5 K0 (hS7.c 2) rfl (hf.g 4 2)) <| sQ 38 (ym (.bool ok) rfl (hf.g 5 3)) ?_
   refine s0 (yT 1 5 (aD b1) 43 (.agg #[vi A, vi B1, vi C, vi D, vi Exp]) [vi A, vi B1, vi C, vi D, vi Exp] 0 hS7 K0 rfl (hf.g 2 1)) ?_
   rintro _ w_12 ⟨rfl, hS18⟩
   refine sQ 3 (yg (.bool ok)) (rn (ct_ ?_))
   obtain ⟨rfl, rfl⟩ := pr2 (sI hF3)
   exact ret2 Tryz.results36 (v1 := .agg #[vi A, vi B1, vi C, vi D, vi Exp]) (resAt_cellA (B := aD b1) (i := 0) (cs := [vi A, vi B1, vi C, vi D, vi Exp]) (vs := [vi A, vi B1, vi C, vi D, vi Exp]) (hf.g 2 1) K5 K0 (hS18.c 1) rfl rfl) (v2 := .bool ok) (resAt_tmp rfl) ⟨rfl, (hS18.sN [])⟩

theorem c_impl_blochCell (m : TMatrix) (bar : TMatrix) (i : Int) (j : Int) (B : Option Addr) (c n : Nat) (B1 : Option Addr) (c1 n1 : Nat) (w0 : World) (hn : m.Cells.length = n) (hn1 : bar.Cells.length = n1) (hS : ST w0 [] w0 [] [⟨B, (m.Cells.flatMap eN0)⟩, ⟨B1, (bar.Cells.flatMap eN0)⟩, ⟨(aD 0), [vi 1, vi 0, vi 0, vi 0, vi 2]⟩]) {r_ : TDyadic} {r_1 : Bool} (hF : F_impl_blochCell m bar i j = some (r_, r_1)) :
  CV Tryz.prog 16 #[.agg #[vi m.Rows, vi m.Cols, .slice B n c], .agg #[vi bar.Rows, vi bar.Cols, .slice B1 n1 c1], vi i, vi j] w0 (fun v w' => v = .tuple #[gD_ r_, .bool r_1] ∧ ST w0 [] w' [] []) := by
 subst hn
 subst hn1
 unfold F_impl_blochCell at hF
 refine cv_of_cw 83 Tryz.func16 rfl Tryz.ntmps16 rfl ?_
 refine cq (cr ?_)
 refine sS 4 (yB 26 (gM_ m B c) (kM_ m B c) 3 hS) ?_
 rintro _ w_ ⟨b, rfl, hS1⟩
 refine sS 5 (yB 26 (gM_ bar B1 c1) (kM_ bar B1 c1) 3 hS1) ?_
 rintro _ w_1 ⟨b1, rfl, hS2⟩
 refine sS 8 (yN kZ_ 5 hS2 K6) ?_
 rintro _ w_2 ⟨b2, rfl, hS3⟩
 refine sQ 9 (yg (.bool false)) (rn (cq (cr ?_)))
 refine sQ 23 (show Y _ _ _ _ _ (.agg (([2, 3, 4] : List Int).flatMap encI).toArray) from Y_buildA (zs := [vi 0, vi 0, vi 0]) (vs := [(0, vi 2), (1, vi 3), (2, vi 4)]) (cs := [vi 2, vi 3, vi 4]) K128 K2 k_zero_70 rfl (mpc rfl (mpc rfl (mpc rfl mpn))) (by kernel_rfl)) ?_
 refine sS 10 (yN ((List.replicate 3 0).flatMap encI) 3 hS3 k_zero_70) ?_
 rintro _ w_3 ⟨b3, rfl, hS4⟩
 refine s0 (yT 3 3 (aD b3) 70 (.agg (([2, 3, 4] : List Int).flatMap encI).toArray) (([2, 3, 4] : List Int).flatMap encI) 0 hS4 k_sz_70_3 rfl rfl rfl rfl (fm_lenn2 encI_len rfl rfl) (fm_one' encI_one _) rfl (fm_fit encI_len (List.length_replicate (n := 3)) rfl) (fm_spl encI_len (List.length_replicate (n := 3)) rfl)) ?_
 rintro _ w_4 ⟨rfl, hS5⟩
 refine rn (cq (cr ?_))
 refine sQ 25 (ym (vi i)) ?_
 obtain ⟨x, hx, hF⟩ := bI hF
 refine sQ 26 (Y_indexArr0 (B := aD b3) (k := .i64) (i := i) K128 K2 rfl rfl rfl (getI_nn hx) (getI_ltI hx rfl)) <| sQ 27 (yl (aD b3) (i.toNat * 1) (([2, 3, 4] : List Int).flatMap encI) (vi x) K1 (hS5.c 3) rfl rfl (gi_at0 encI_len hx rfl)) <| sQ 28 (Y_buildS (zs := [vi 0, vi 0, vi 0]) (vs := [(0, vi x)]) (cs := [vi x, vi 0, vi 0]) K83 K48 rfl (mpc rfl mpn) rfl) ?_
 obtain ⟨⟨r_2, r_3⟩, hc, hF⟩ := bI hF
 refine sc 29 rfl rfl (yC [vi 1, .agg #[vi x, vi 0, vi 0]] K129 (c_impl_GateMatrix 1 (TGate.mk x 0 0) _  (hS5.inn0 [] rfl) hc)) ?_
 rintro _ w_5 ⟨B2, c2, rfl, hd⟩
 have hS6 := hS5.out0 hd
 refine sQ 24 (ym (.tuple #[gM_ r_2 B2 c2, .bool r_3])) <| sQ 30 (ye (gM_ r_2 B2 c2)) <| sQ 31 (ye (.bool r_3)) ?_
 refine sS 11 (yN kN_ 3 hS6 K12) ?_
 rintro _ w_6 ⟨b4, rfl, hS7⟩
 refine s0 (yT 5 3 (aD b4) 26 (gM_ r_2 B2 c2) (kM_ r_2 B2 c2) 0 hS7 K4) ?_
 rintro _ w_7 ⟨rfl, hS8⟩
 refine sQ 12 (yg (.bool r_3)) (rn (cq (cr ?_)))
 refine sQ 33 (ym (vi j)) ?_
 obtain ⟨x1, hx1, hF⟩ := bI hF
 refine sQ 34 (Y_indexArr0 (B := aD b3) (k := .i64) (i := j) K128 K2 rfl rfl rfl (getI_nn hx1) (getI_ltI hx1 rfl)) <| sQ 35 (yl (aD b3) (j.toNat * 1) (([2, 3, 4] : List Int).flatMap encI) (vi x1) K1 (hS8.c 3) rfl rfl (gi_at0 encI_len hx1 rfl)) <| sQ 36 (Y_buildS (zs := [vi 0, vi 0, vi 0]) (vs := [(0, vi x1)]) (cs := [vi x1, vi 0, vi 0]) K83 K48 rfl (mpc rfl mpn) rfl) ?_
 obtain ⟨⟨r_4, r_5⟩, hc1, hF⟩ := bI hF
 refine sc 37 rfl rfl (yC [vi 1, .agg #[vi x1, vi 0, vi 0]] K129 (c_impl_GateMatrix 1 (TGate.mk x1 0 0) _  (hS8.inn0 [] rfl) hc1)) ?_
 rintro _ w_8 ⟨B3, c3, rfl, hd1⟩
 have hS9 := hS8.out0 hd1
 refine sQ 32 (ym (.tuple #[gM_ r_4 B3 c3, .bool r_5])) <| sQ 38 (ye (gM_ r_4 B3 c3)) <| sQ 39 (ye (.bool r_5)) ?_
 refine sS 13 (yN kN_ 3 hS9 K12) ?_
 rintro _ w_9 ⟨b5, rfl, hS10⟩
 refine s0 (yT 7 3 (aD b5) 26 (gM_ r_4 B3 c3) (kM_ r_4 B3 c3) 0 hS10 K4) ?_
 rintro _ w_10 ⟨rfl, hS11⟩
 have hS11 : ST w0 [] _ [⟨aD b, 26, kM_ m B c, 3⟩, ⟨aD b1, 26, kM_ bar B1 c1, 3⟩, ⟨aD b2, 43, kZ_, 5⟩, ⟨aD b3, 70, (([2, 3, 4] : List Int).flatMap encI), 3⟩, ⟨B2, 43, (r_2.Cells.flatMap eN0), c2 * 5⟩, ⟨aD b4, 26, kM_ r_2 B2 c2, 3⟩, ⟨B3, 43, (r_4.Cells.flatMap eN0), c3 * 5⟩, ⟨aD b5, 26, kM_ r_4 B3 c3, 3⟩] [⟨B, (m.Cells.flatMap eN0)⟩, ⟨B1, (bar.Cells.flatMap eN0)⟩, ⟨(aD 0), [vi 1, vi 0, vi 0, vi 0, vi 2]⟩] := hS11
 refine sQ 14 (yg (.bool r_5)) (rn (cq (cr ?_)))
 refine sQ 41 (yb (aD b4) 0 (kM_ r_2 B2 c2) K9 K4 (hS11.c 5)) <| sQ 42 (yb (aD b) 0 (kM_ m B c) K9 K4 (hS11.c 0)) ?_
 obtain ⟨⟨r_6, r_7⟩, hc2, hF⟩ := bI hF
 refine sc 43 rfl rfl (yC [gM_ r_2 B2 c2, gM_ m B c] K107 (c_impl_MulMatrix r_2 m B2 c2 r_2.Cells.length B c m.Cells.length _ rfl rfl (hS11.inn0 [(false, 4), (true, 0)] rfl) hc2)) ?_
 rintro _ w_11 ⟨B4, c4, rfl, hd2⟩
 have hS12 := hS11.out0 hd2
 refine sQ 40 (ym (.tuple #[gM_ r_6 B4 c4, .bool r_7])) <| sQ 44 (ye (gM_ r_6 B4 c4)) <| sQ 45 (ye (.bool r_7)) ?_
 refine sS 15 (yN kN_ 3 hS12 K12) ?_
 rintro _ w_12 ⟨b6, rfl, hS13⟩
 refine s0 (yT 9 3 (aD b6) 26 (gM_ r_6 B4 c4) (kM_ r_6 B4 c4) 0 hS13 K4) ?_
 rintro _ w_13 ⟨rfl, hS14⟩
 refine sQ 16 (yg (.bool r_7)) (rn (cq (cr ?_)))
 refine sQ 47 (yb (aD b6) 0 (kM_ r_6 B4 c4) K9 K4 (hS14.c 9)) <| sQ 48 (yb (aD b5) 0 (kM_ r_4 B3 c3) K9 K4 (hS14.c 7)) ?_
 obtain ⟨⟨r_8, r_9⟩, hc3, hF⟩ := bI hF
 refine sc 49 rfl rfl (yC [gM_ r_6 B4 c4, gM_ r_4 B3 c3] K107 (c_impl_MulMatrix r_6 r_4 B4 c4 r_6.Cells.length B3 c3 r_4.Cells.length _ rfl rfl (hS14.inn0 [(false, 8), (false, 6)] rfl) hc3)) ?_
 rintro _ w_14 ⟨B5, c5, rfl, hd3⟩
 have hS15 := hS14.out0 hd3
 refine sQ 46 (ym (.tuple #[gM_ r_8 B5 c5, .bool r_9])) <| sQ 50 (ye (gM_ r_8 B5 c5)) <| sQ 51 (ye (.bool r_9)) ?_
 refine s0 (yT 9 3 (aD b6) 26 (gM_ r_8 B5 c5) (kM_ r_8 B5 c5) 0 hS15 K4) ?_
 rintro _ w_15 ⟨rfl, hS16⟩
 refine sQ 17 (yg (.bool r_9)) (rn (cq (cr ?_)))
 refine sQ 53 (yb (aD b6) 0 (kM_ r_8 B5 c5) K9 K4 (hS16.c 9)) <| sQ 54 (yb (aD b1) 0 (kM_ bar B1 c1) K9 K4 (hS16.c 1)) ?_
 obtain ⟨⟨r_10, r_11⟩, hc4, hF⟩ := bI hF
 refine sc 55 rfl rfl (yC [gM_ r_8 B5 c5, gM_ bar B1 c1] K107 (c_impl_MulMatrix r_8 bar B5 c5 r_8.Cells.length B1 c1 bar.Cells.length _ rfl rfl (hS16.inn0 [(false, 10), (true, 1)] rfl) hc4)) ?_
 rintro _ w_16 ⟨B6, c6, rfl, hd4⟩
 have hS17 := hS16.out0 hd4
 refine sQ 52 (ym (.tuple #[gM_ r_10 B6 c6, .bool r_11])) <| sQ 56 (ye (gM_ r_10 B6 c6)) <| sQ 57 (ye (.bool r_11)) ?_
 refine s0 (yT 9 3 (aD b6) 26 (gM_ r_10 B6 c6) (kM_ r_10 B6 c6) 0 hS17 K4) ?_
 rintro _ w_17 ⟨rfl, hS18⟩
 refine sQ 18 (yg (.bool r_11)) (rn (cq (cr ?_)))
 refine sQ 59 (yb (aD b6) 0 (kM_ r_10 B6 c6) K9 K4 (hS18.c 9)) ?_
 obtain ⟨⟨r_12, r_13⟩, hc5, hF⟩ := bI hF
 refine sc 60 rfl rfl (yC [gM_ r_10 B6 c6] k_call_36 (c_impl_TraceOf r_10 B6 c6 r_10.Cells.length _ rfl (hS18.inn0 [(false, 11)] rfl) hc5)) ?_
 rintro _ w_18 ⟨rfl, hd5⟩
 have hS19 := hS18.out00 hd5
 refine sQ 58 (ym (.tuple #[gD_ r_12, .bool r_13])) <| sQ 61 (ye (gD_ r_12)) <| sQ 62 (ye (.bool r_13)) ?_
 refine sS 19 (yN kZ_ 5 hS19 K6) ?_
 rintro _ w_19 ⟨b7, rfl, hS20⟩
 refine s0 (yT 12 5 (aD b7) 43 (gD_ r_12) (kD_ r_12) 0 hS20 K0) ?_
 rintro _ w_20 ⟨rfl, hS21⟩
 have hS21 : ST w0 [] _ [⟨aD b, 26, kM_ m B c, 3⟩, ⟨aD b1, 26, kM_ bar B1 c1, 3⟩, ⟨aD b2, 43, kZ_, 5⟩, ⟨aD b3, 70, (([2, 3, 4] : List Int).flatMap encI), 3⟩, ⟨B2, 43, (r_2.Cells.flatMap eN0), c2 * 5⟩, ⟨aD b4, 26, kM_ r_2 B2 c2, 3⟩, ⟨B3, 43, (r_4.Cells.flatMap eN0), c3 * 5⟩, ⟨aD b5, 26, kM_ r_4 B3 c3, 3⟩, ⟨B4, 43, (r_6.Cells.flatMap eN0), c4 * 5⟩, ⟨aD b6, 26, kM_ r_10 B6 c6, 3⟩, ⟨B5, 43, (r_8.Cells.flatMap eN0), c5 * 5⟩, ⟨B6, 43, (r_10.Cells.flatMap eN0), c6 * 5⟩, ⟨aD b7, 43, kD_ r_12, 5⟩] [⟨B, (m.Cells.flatMap eN0)⟩, ⟨B1, (bar.Cells.flatMap eN0)⟩, ⟨(aD 0), [vi 1, vi 0, vi 0, vi 0, vi 2]⟩] := hS21
 refine sQ 20 (yg (.bool r_13)) (rn (cq (cr ?_)))
 refine sQ 64 (yb (aD b7) 0 (kD_ r_12) K5 K0 (hS21.c 12)) <| sQ 65 (yb (aD 0) 0 [vi 1, vi 0, vi 0, vi 0, vi 2] K5 K0 (hS21.rf (i := 2) rfl)) ?_
 obtain ⟨⟨r_14, r_15⟩, hc6, hF⟩ := bI hF
 refine sc 66 rfl rfl (yC [gD_ r_12, .agg #[vi 1, vi 0, vi 0, vi 0, vi 2]] K50 (c_impl_MulDyadic r_12 (TDyadic.mk (TRing.mk 1 0 0 0) 2) _  (hS21.inn0 [] rfl) hc6)) ?_
 rintro _ w_21 ⟨rfl, hd6⟩
 have hS22 := hS21.out00 hd6
 refine sQ 63 (ym (.tuple #[gD_ r_14, .bool r_15])) <| sQ 67 (ye (gD_ r_14)) <| sQ 68 (ye (.bool r_15)) ?_
 refine sS 21 (yN kZ_ 5 hS22 K6) ?_
 rintro _ w_22 ⟨b8, rfl, hS23⟩
 refine s0 (yT 13 5 (aD b8) 43 (gD_ r_14) (kD_ r_14) 0 hS23 K0) ?_
 rintro _ w_23 ⟨rfl, hS24⟩
 refine sQ 22 (yg (.bool r_15)) (rn (cq (cr ?_)))
 refine sQ 69 (yb (aD b8) 0 (kD_ r_14) K5 K0 (hS24.c 13)) <| sQ 70 (ym (.bool r_7)) <| sQ 71 (ym (.bool r_7)) ?_
 refine sgq 72 (B := r_7) (v := .bool r_9) rfl rfl (uT_ 71) (fun hg => (ym (.bool r_9))) ?_
 refine sQ 73 (Y_and (b := r_7) (z := r_9) rfl rfl rfl rfl) <| sQ 74 (ym (.bool (r_7 && r_9))) ?_
 refine sgq 75 (B := (r_7 && r_9)) (v := .bool r_11) rfl rfl (uT_ 74) (fun hg1 => (ym (.bool r_11))) ?_
 refine sQ 76 (Y_and (b := (r_7 && r_9)) (z := r_11) rfl rfl rfl rfl) <| sQ 77 (ym (.bool ((r_7 && r_9) && r_11))) ?_
 refine sgq 78 (B := ((r_7 && r_9) && r_11)) (v := .bool r_13) rfl rfl (uT_ 77) (fun hg2 => (ym (.bool r_13))) ?_
 refine sQ 79 (Y_and (b := ((r_7 && r_9) && r_11)) (z := r_13) rfl rfl rfl rfl) <| sQ 80 (ym (.bool (((r_7 && r_9) && r_11) && r_13))) ?_
 refine sgq 81 (B := (((r_7 && r_9) && r_11) && r_13)) (v := .bool r_15) rfl rfl (uT_ 80) (fun hg3 => (ym (.bool r_15))) ?_
 refine sQ 82 (Y_and (b := (((r_7 && r_9) && r_11) && r_13)) (z := r_15) rfl rfl rfl rfl) ?_
 refine s0 (yT 2 5 (aD b2) 43 (gD_ r_14) (kD_ r_14) 0 hS24 K0) ?_
 rintro _ w_24 ⟨rfl, hS25⟩
 refine sQ 9 (yg (.bool ((((r_7 && r_9) && r_11) && r_13) && r_15))) (rn (ct_ ?_))
 obtain ⟨rfl, rfl⟩ := pr2 (sI hF)
 exact ret2 Tryz.results16 (v1 := gD_ r_14) (resAt_cellA (B := aD b2) (i := 0) (cs := kD_ r_14) (vs := kD_ r_14) rfl K5 K0 (hS25.c 2) rfl rfl) (v2 := .bool ((((r_7 && r_9) && r_11) && r_13) && r_15)) (resAt_tmp rfl) ⟨rfl, (hS25.sN [])⟩

theorem c_impl_BlochOf (m : TMatrix) (B : Option Addr) (c n : Nat) (w0 : World) (hn : m.Cells.length = n) (hS : ST w0 [] w0 [] [⟨B, (m.Cells.flatMap eN0)⟩, ⟨(aD 0), [vi 1, vi 0, vi 0, vi 0, vi 2]⟩]) {r_ : TBloch} {r_1 : Bool} (hF : F_impl_BlochOf m = some (r_, r_1)) :
  CV Tryz.prog 6 #[.agg #[vi m.Rows, vi m.Cols, .slice B n c]] w0 (fun v w' => ∃ (B1 : Option Addr) (c1 : Nat), v = .tuple #[gB_ r_ B1 c1, .bool r_1] ∧ ST w0 [] w' [⟨B1, 43, (r_.Cells.flatMap eN0), c1 * 5⟩] []) := by
 subst hn
 unfold F_impl_BlochOf at hF
 refine cv_of_cw 47 Tryz.func6 rfl Tryz.ntmps6 rfl ?_
 refine cq (cr ?_)
 refine sS 1 (yB 26 (gM_ m B c) (kM_ m B c) 3 hS) ?_
 rintro _ w_ ⟨b, rfl, hS1⟩
 refine sS 2 (yN [.slice none 0 0] 1 hS1 K36) ?_
 rintro _ w_1 ⟨b1, rfl, hS2⟩
 refine sQ 3 (yg (.bool false)) (rn (cq (cq (cr ?_))))
 refine sQ 11 (yb (aD b) 0 (kM_ m B c) K9 K4 (hS2.c 0)) ?_
 obtain ⟨r_2, hc, hF⟩ := bI hF
 refine sc 12 rfl rfl (yC [gM_ m B c] k_call_14 (c_impl_IsOneQubit m B c m.Cells.length _ rfl (hS2.inn0 [(true, 0)] rfl) hc)) ?_
 rintro _ w_2 ⟨rfl, hd⟩
 have hS3 := hS2.out00 hd
 refine sQ 13 (Y_not (p := r_2) rfl rfl) (rn ?_)
 refine cw_cond (b := (!r_2)) rfl (fun hb => ?_) (fun hb => ?_)
 ·skip
  have hF1 := ct hF hb
  refine cq (cr ?_)
  refine sQ 14 (Y_buildS (zs := [.slice none 0 0]) (vs := []) (cs := [.slice none 0 0]) K68 K36 rfl mpn rfl) ?_
  refine s0 (yT 1 1 (aD b1) 29 (.agg #[.slice none 0 0]) [.slice none 0 0] 0 hS3 K16) ?_
  rintro _ w_3 ⟨rfl, hS4⟩
  refine sQ 3 (yg (.bool false)) (rn (ct_ ?_))
  have hS5 := hS4.addNil 43
  obtain ⟨rfl, rfl⟩ := pr2 (sI hF1)
  exact ret2 Tryz.results6 (v1 := .agg #[.slice none 0 0]) (resAt_cellA (B := aD b1) (i := 0) (cs := [.slice none 0 0]) (vs := [.slice none 0 0]) rfl K25 K16 (hS5.c 1) rfl rfl) (v2 := .bool false) (resAt_tmp rfl) ⟨none, 0, rfl, (hS5.sN [2])⟩
 ·skip
  have hF2 := cf' hF hb
  refine cw_skip (cq (cr ?_))
  refine sQ 16 (yb (aD b) 0 (kM_ m B c) K9 K4 (hS3.c 0)) ?_
  obtain ⟨⟨r_3, r_4⟩, hc1, hF2⟩ := bI hF2
  refine sc 17 rfl rfl (yC [gM_ m B c] k_call_15 (c_impl_Adjoint m B c m.Cells.length _ rfl (hS3.inn0 [(true, 0)] rfl) hc1)) ?_
  rintro _ w_4 ⟨B2, c2, rfl, hd1⟩
  have hS6 := hS3.out0 hd1
  refine sQ 15 (ym (.tuple #[gM_ r_3 B2 c2, .bool r_4])) <| sQ 18 (ye (gM_ r_3 B2 c2)) <| sQ 19 (ye (.bool r_4)) ?_
  refine sS 4 (yN kN_ 3 hS6 K12) ?_
  rintro _ w_5 ⟨b2, rfl, hS7⟩
  refine s0 (yT 3 3 (aD b2) 26 (gM_ r_3 B2 c2) (kM_ r_3 B2 c2) 0 hS7 K4) ?_
  rintro _ w_6 ⟨rfl, hS8⟩
  refine sQ 5 (yg (.bool r_4)) (rn (cq (cr ?_)))
  refine sQ 20 (Y_buildS (zs := [.slice none 0 0]) (vs := []) (cs := [.slice none 0 0]) K68 K36 rfl mpn rfl) ?_
  refine sS 6 (yN [.slice none 0 0] 1 hS8 K36) ?_
  rintro _ w_7 ⟨b3, rfl, hS9⟩
  refine s0 (yT 4 1 (aD b3) 29 (.agg #[.slice none 0 0]) [.slice none 0 0] 0 hS9 K16) ?_
  rintro _ w_8 ⟨rfl, hS10⟩
  refine rn (cq (cq (cr ?_)))
  refine sQ 21 (ym (vi 0)) (rn ?_)
  obtain ⟨z, hz, hF3⟩ := bI hF2
  have hS12 := hS10.addNil 43
  refine cw_block ?_
  refine cw_loop (fun k f w => ∃ (i : Nat) (Cells : List TDyadic) (B3 : Option Addr) (c3 : Nat), FF f [(1, pt (aD b) 0), (2, pt (aD b1) 0), (4, pt (aD b2) 0), (6, pt (aD b3) 0), (21, vi (i : Int))] ∧ ST w0 [] w [⟨aD b, 26, kM_ m B c, 3⟩, ⟨aD b1, 29, [.slice none 0 0], 1⟩, ⟨aD b2, 26, kM_ r_3 B2 c2, 3⟩, ⟨B2, 43, (r_3.Cells.flatMap eN0), c2 * 5⟩, ⟨aD b3, 29, [.slice B3 Cells.length c3], 1⟩, ⟨B3, 43, (Cells.flatMap eN0), c3 * 5⟩] [⟨B, (m.Cells.flatMap eN0)⟩, ⟨(aD 0), [vi 1, vi 0, vi 0, vi 0, vi 2]⟩] ∧ i + k = 3 ∧ forX (F_impl_BlochOf_l1 m r_3) k i Cells = some z) 3 ⟨0, [], none, 0, (fc rfl (fc rfl (fc rfl (fc rfl (fc rfl fn_))))), (hS12.sel [0, 1, 3, 2, 4, 5] rfl rfl), Nat.zero_add _, hz⟩ ?_
  rintro k_ f w ⟨i, Cells, B3, c3, hf, hS11, hik, hL⟩
  refine cq (cr ?_)
  refine sQ 22 (yL (i : Int) 3 rfl (hf.g 21 4)) (rn (cq ?_))
  refine cw_cond (b := (decide ((i : Int) < 3))) rfl (fun hlt => ?_) (fun hlt => ?_)
  ·skip
   have hlt1 : i < 3 := by have h := of_decide_eq_true hlt; omega
   obtain ⟨K11, rfl⟩ : ∃ k2, k_ = k2 + 1 := ⟨k_ - 1, by omega⟩
   obtain ⟨y, hb1, hL1⟩ := forX_go hL
   unfold F_impl_BlochOf_l1 at hb1
   refine cw_skip (cq (cw_block (cq (cr ?_))))
   refine sQ 23 (ym (vi (i : Int)) rfl (hf.g 21 4)) <| sQ 7 (yg (vi (i : Int))) (rn (cq (cr ?_)))
   refine sQ 24 (ym (vi 0)) (rn ?_)
   obtain ⟨z1, hz1, hF4⟩ := bI hb1
   refine cw_block ?_
   refine cw_loop (fun k f w => ∃ (i1 : Nat) (Cells1 : List TDyadic) (B4 : Option Addr) (c4 : Nat), FF f [(1, pt (aD b) 0), (2, pt (aD b1) 0), (4, pt (aD b2) 0), (6, pt (aD b3) 0), (7, vi (i : Int)), (21, vi (i : Int)), (24, vi (i1 : Int))] ∧ ST w0 [] w [⟨aD b, 26, kM_ m B c, 3⟩, ⟨aD b1, 29, [.slice none 0 0], 1⟩, ⟨aD b2, 26, kM_ r_3 B2 c2, 3⟩, ⟨B2, 43, (r_3.Cells.flatMap eN0), c2 * 5⟩, ⟨aD b3, 29, [.slice B4 Cells1.length c4], 1⟩, ⟨B4, 43, (Cells1.flatMap eN0), c4 * 5⟩] [⟨B, (m.Cells.flatMap eN0)⟩, ⟨(aD 0), [vi 1, vi 0, vi 0, vi 0, vi 2]⟩] ∧ i1 + k = 3 ∧ forX (F_impl_BlochOf_l2 m r_3 i) k i1 Cells1 = some z1) 3 ⟨0, Cells, B3, c3, (fc (hf.g 1 0) (fc (hf.g 2 1) (fc (hf.g 4 2) (fc (hf.g 6 3) (fc rfl (fc (hf.g 21 4) (fc rfl fn_))))))), (hS11.sel [0, 1, 2, 3, 4, 5] rfl rfl), Nat.zero_add _, hz1⟩ ?_
   rintro K15 f w ⟨i1, Cells1, B4, c4, hf1, hS13, hik1, hL2⟩
   refine cq (cr ?_)
   refine sQ 25 (yL (i1 : Int) 3 rfl (hf1.g 24 6)) (rn (cq ?_))
   refine cw_cond (b := (decide ((i1 : Int) < 3))) rfl (fun hlt2 => ?_) (fun hlt2 => ?_)
   ·skip
    have hlt3 : i1 < 3 := by have h := of_decide_eq_true hlt2; omega
    obtain ⟨K29, rfl⟩ : ∃ k2, K15 = k2 + 1 := ⟨K15 - 1, by omega⟩
    obtain ⟨y1, hb2, hL3⟩ := forX_go hL2
    unfold F_impl_BlochOf_l2 at hb2
    refine cw_skip (cq (cw_block (cq (cr ?_))))
    refine sQ 26 (ym (vi (i1 : Int)) rfl (hf1.g 24 6)) <| sQ 8 (yg (vi (i1 : Int))) (rn (cq (cr ?_)))
    refine sQ 28 (yb (aD b) 0 (kM_ m B c) K9 K4 (hS13.c 0) rfl (hf1.g 1 0)) <| sQ 29 (yb (aD b2) 0 (kM_ r_3 B2 c2) K9 K4 (hS13.c 2) rfl (hf1.g 4 2)) <| sQ 30 (ym (vi (i : Int)) rfl (hf1.g 7 4)) <| sQ 31 (ym (vi (i1 : Int))) ?_
    obtain ⟨⟨r_5, r_6⟩, hc2, hb2⟩ := bI hb2
    refine sc 32 rfl rfl (yC [gM_ m B c, gM_ r_3 B2 c2, vi (i : Int), vi (i1 : Int)] k_call_16 (c_impl_blochCell m r_3 (i : Int) (i1 : Int) B c m.Cells.length B2 c2 r_3.Cells.length _ rfl rfl (hS13.inn0 [(true, 0), (false, 3), (true, 1)] rfl) hc2)) ?_
    rintro _ w_9 ⟨rfl, hd2⟩
    have hS14 := hS13.out00 hd2
    refine sQ 27 (ym (.tuple #[gD_ r_5, .bool r_6])) <| sQ 33 (ye (gD_ r_5)) <| sQ 34 (ye (.bool r_6)) ?_
    refine sS 9 (yN kZ_ 5 hS14 K6) ?_
    rintro _ w_10 ⟨b4, rfl, hS15⟩
    refine s0 (yT 6 5 (aD b4) 43 (gD_ r_5) (kD_ r_5) 0 hS15 K0) ?_
    rintro _ w_11 ⟨rfl, hS16⟩
    refine sQ 10 (yg (.bool r_6)) (rn (cq (cq (cr ?_))))
    refine sQ 35 (ym (.bool r_6)) <| sQ 36 (Y_not (p := r_6) rfl rfl) (rn ?_)
    refine cw_cond (b := (!r_6)) rfl (fun hb3 => ?_) (fun hb3 => ?_)
    ·skip
     have hF5 := ct hb2 hb3
     refine cq (cr ?_)
     refine sQ 37 (Y_buildS (zs := [.slice none 0 0]) (vs := []) (cs := [.slice none 0 0]) K68 K36 rfl mpn rfl) ?_
     refine s0 (yT 1 1 (aD b1) 29 (.agg #[.slice none 0 0]) [.slice none 0 0] 0 hS16 K16 rfl (hf1.g 2 1)) ?_
     rintro _ w_12 ⟨rfl, hS17⟩
     refine sQ 3 (yg (.bool false)) (rn (ct_ ?_))
     have hS18 := hS17.addNil 43
     obtain rfl := sI hF5
     obtain rfl := sI hL3
     obtain rfl := sI hF4
     obtain rfl := sI hL1
     obtain ⟨rfl, rfl⟩ := pr2 (sI hF3)
     exact ret2 Tryz.results6 (v1 := .agg #[.slice none 0 0]) (resAt_cellA (B := aD b1) (i := 0) (cs := [.slice none 0 0]) (vs := [.slice none 0 0]) (hf1.g 2 1) K25 K16 (hS18.c 1) rfl rfl) (v2 := .bool false) (resAt_tmp rfl) ⟨none, 0, rfl, (hS18.sN [7])⟩
    ·skip
     have hF6 := cf' hb2 hb3
     refine cw_skip (cr ?_)
     refine sQ 38 (yd (aD b3) 0 0 K33 K8 rfl (hf1.g 6 3)) <| sQ 39 (yl (aD b3) 0 [.slice B4 Cells1.length c4] (.slice B4 Cells1.length c4) K13 (hS16.c 4)) <| sQ 40 (yb (aD b4) 0 (kD_ r_5) K5 K0 (hS16.c 6)) ?_
     refine sS 41 (Ys_bslice (s := 5) (len := 1) (vs := [(0, gD_ r_5)]) (cs := kD_ r_5) (zs := kZ_) (m := 5) hS16 K7 K0 K31 rfl (mpc rfl mpn) rfl rfl rfl (by kernel_rfl) (by kernel_rfl) rfl) ?_
     rintro _ w_13 ⟨b5, rfl, hS19⟩
     obtain ⟨hap, hF6⟩ := chk_inv hF6
     refine sS 42 (Ys_append (s := 5) (by' := 40) (i := 5) (nn := Cells1.length) (c := c4) (k := 1) (len := (Cells1 ++ [r_5]).length) (B := B4) (xs := ([r_5].flatMap eN0)) (cs' := ((Cells1 ++ [r_5]).flatMap eN0)) hS19 K7 K0 K37 K6 rfl (by decide) rfl rfl rfl rfl (fm_lenn (l := Cells1) eN2 rfl) rfl (hS19.c 7) (fm_lenn (l := [r_5]) eN2 rfl) (fm_one' (enc := eN0) enc_Dyadic_one [r_5]) (by have := hap; omega) (by have := hap; simp only [maxLen]; omega) (fm_app _ _) (app_len (l := Cells1) (l' := [r_5]) rfl rfl)) ?_
     rintro _ w_14 ⟨B5, c5, rfl, hS20⟩
     refine sQ 43 (yd (aD b3) 0 0 K33 K8 rfl (hf1.g 6 3)) ?_
     refine s0 (yT 4 1 (aD b3) 29 (.slice B5 ((Cells1 ++ [r_5]).length) c5) [.slice B5 ((Cells1 ++ [r_5]).length) c5] 0 hS20 K8) ?_
     rintro _ w_15 ⟨rfl, hS21⟩
     refine rn (cr ?_)
     refine sQ 44 (yP (i1 : Int) 1 rfl (hf1.g 24 6)) <| sQ 24 (ym (vi (i64.wrap ((i1 : Int) + 1)))) (rn ?_)
     obtain rfl := sI hF6
     exact ⟨K29, Nat.lt_succ_self _, i1 + 1, (Cells1 ++ [r_5]), B5, c5, (fc (hf1.g 1 0) (fc (hf1.g 2 1) (fc (hf1.g 4 2) (fc (hf1.g 6 3) (fc (hf1.g 7 4) (fc (hf1.g 21 5) (fc (congrArg (Value.int .i64) (wr_succ hlt3 (show 3 ≤ 9223372036854775807 by decide))) fn_))))))), (hS21.sel [0, 1, 2, 3, 4, 5] rfl rfl), (by omega), hL3⟩
   ·skip
    obtain rfl : K15 = 0 := by have h := of_decide_eq_false hlt2; omega
    refine cw_exit rfl ?_
    obtain rfl := sI hL2
    refine cr ?_
    refine sQ 45 (yP (i : Int) 1 rfl (hf1.g 21 5)) <| sQ 21 (ym (vi (i64.wrap ((i : Int) + 1)))) (rn ?_)
    obtain rfl := sI hF4
    exact ⟨K11, Nat.lt_succ_self _, i + 1, Cells1, B4, c4, (fc (hf1.g 1 0) (fc (hf1.g 2 1) (fc (hf1.g 4 2) (fc (hf1.g 6 3) (fc (congrArg (Value.int .i64) (wr_succ hlt1 (show 3 ≤ 9223372036854775807 by decide))) fn_))))), (hS13.sel [0, 1, 2, 3, 4, 5] rfl rfl), (by omega), hL1⟩
  ·skip
   obtain rfl : k_ = 0 := by have h := of_decide_eq_false hlt; omega
   refine cw_exit rfl ?_
   obtain rfl := sI hL
   refine cq (cr ?_)
   refine sQ 46 (yb (aD b3) 0 [.slice B3 Cells.length c3] K25 K16 (hS11.c 4) rfl (hf.g 6 3)) ?_
   refine s0 (yT 1 1 (aD b1) 29 (.agg #[.slice B3 Cells.length c3]) [.slice B3 Cells.length c3] 0 hS11 K16 rfl (hf.g 2 1)) ?_
   rintro _ w_16 ⟨rfl, hS22⟩
   refine sQ 3 (yg (.bool true)) (rn (ct_ ?_))
   obtain ⟨rfl, rfl⟩ := pr2 (sI hF3)
   exact ret2 Tryz.results6 (v1 := .agg #[.slice B3 Cells.length c3]) (resAt_cellA (B := aD b1) (i := 0) (cs := [.slice B3 Cells.length c3]) (vs := [.slice B3 Cells.length c3]) (hf.g 2 1) K25 K16 (hS22.c 1) rfl rfl) (v2 := .bool true) (resAt_tmp rfl) ⟨B3, c3, rfl, (hS22.sN [5])⟩

theorem c_spec_l1Has (l : List Int) (n1 : Int) (B : Option Addr) (c n : Nat) (w0 : World) (hn : l.length = n) (hS : ST w0 [] w0 [] [⟨B, (l.flatMap encI)⟩]) {r_ : Bool} (hF : F_spec_l1Has l n1 = some r_) :
  CV Tryz.prog 87 #[.slice B n c, vi n1] w0 (fun v w' => v = .bool r_ ∧ ST w0 [] w' [] []) := by
 subst hn
 unfold F_spec_l1Has at hF
 refine cv_of_cw 17 Tryz.func87 rfl Tryz.ntmps87 rfl ?_
 refine cq (cr ?_)
 refine sQ 4 (yg (.bool false)) (rn (cq (cq (cr ?_))))
 refine sQ 7 (ym (.slice B l.length c)) <| sQ 8 (Y_len (B := B) (m := l.length) (c := c) K38 rfl rfl) <| sQ 9 (ym (vi 0)) (rn ?_)
 obtain ⟨hN, hF⟩ := chk_inv hF
 obtain ⟨z, hz, hF1⟩ := bI hF
 refine cw_block ?_
 refine cw_loop (fun k f w => ∃ (i : Nat), FF f [(1, vi n1), (7, .slice B l.length c), (8, vi (l.length : Int)), (9, vi (i : Int))] ∧ ST w0 [] w [] [⟨B, (l.flatMap encI)⟩] ∧ i + k = l.length ∧ forX (F_spec_l1Has_l1 l n1) k i () = some z) l.length ⟨0, (fc rfl (fc rfl (fc rfl (fc rfl fn_)))), (hS.sel [] rfl rfl), Nat.zero_add _, hz⟩ ?_
 rintro k_ f w ⟨i, hf, hS1, hik, hL⟩
 refine cq (cr ?_)
 refine sQ 10 (yL (i : Int) (l.length : Int) rfl (hf.g 9 3) (hf.g 8 2)) (rn (cq ?_))
 refine cw_cond (b := (decide ((i : Int) < (l.length : Int)))) rfl (fun hlt => ?_) (fun hlt => ?_)
 ·skip
  have hlt1 : i < l.length := by have h := of_decide_eq_true hlt; omega
  obtain ⟨K11, rfl⟩ : ∃ k2, k_ = k2 + 1 := ⟨k_ - 1, by omega⟩
  obtain ⟨y, hb, hL1⟩ := forX_go hL
  unfold F_spec_l1Has_l1 at hb
  refine cw_skip (cq (cw_block (cq (cr ?_))))
  obtain ⟨x, hx, hb⟩ := bI hb
  refine sQ 11 (Y_index (B := B) (m := l.length) (c := c) (k := .i64) (i := (i : Int)) K38 K2 rfl (hf.g 7 1) (hf.g 9 3) (gi_isSome encI_len rfl (hS1.rf (i := 0) rfl) hx) (getI_nn hx) (getI_ltI hx rfl)) <| sQ 12 (yl B ((i : Int).toNat * 1) (l.flatMap encI) (vi x) K1 (hS1.rf (i := 0) rfl) rfl rfl (gi_at0 encI_len hx rfl)) <| sQ 6 (yg (vi x)) (rn (cq (cr ?_)))
  refine sQ 13 (ym (vi x)) <| sQ 14 (ym (vi n1) rfl (hf.g 1 0)) <| sQ 15 (yE x n1) (rn ?_)
  refine cw_cond (b := (x == n1)) rfl (fun hb1 => ?_) (fun hb1 => ?_)
  ·skip
   have hF2 := ct hb hb1
   refine cq (cr ?_)
   refine sQ 4 (yg (.bool true)) (rn (ct_ ?_))
   obtain rfl := sI hF2
   obtain rfl := sI hL1
   obtain rfl := sI hF1
   exact ret1 Tryz.results87 (v1 := .bool true) (resAt_tmp rfl) ⟨rfl, (hS1.sN [])⟩
  ·skip
   have hF3 := cf' hb hb1
   refine cw_skip (cr ?_)
   refine sQ 16 (yP (i : Int) 1 rfl (hf.g 9 3)) <| sQ 9 (ym (vi (i64.wrap ((i : Int) + 1)))) (rn ?_)
   obtain rfl := sI hF3
   exact ⟨K11, Nat.lt_succ_self _, i + 1, (fc (hf.g 1 0) (fc (hf.g 7 1) (fc (hf.g 8 2) (fc (congrArg (Value.int .i64) (wr_succ hlt1 hN)) fn_)))), (hS1.sel [] rfl rfl), (by omega), hL1⟩
 ·skip
  obtain rfl : k_ = 0 := by have h := of_decide_eq_false hlt; omega
  refine cw_exit rfl ?_
  obtain rfl := sI hL
  refine cq (cr ?_)
  refine sQ 4 (yg (.bool false)) (rn (ct_ ?_))
  obtain rfl := sI hF1
  exact ret1 Tryz.results87 (v1 := .bool false) (resAt_tmp rfl) ⟨rfl, (hS1.sN [])⟩

theorem c_spec_l3Dim (n : Int)  (w0 : World)  (hS : ST w0 [] w0 [] []) {r_ : Bool} (hF : F_spec_l3Dim n = some r_) :
  CV Tryz.prog 43 #[vi n] w0 (fun v w' => v = .bool r_ ∧ ST w0 [] w' [] []) := by
 unfold F_spec_l3Dim at hF
 refine cv_of_cw 6 Tryz.func43 rfl Tryz.ntmps43 rfl ?_
 refine cq (cr ?_)
 refine sQ 2 (yg (.bool false)) (rn (cq (cr ?_)))
 refine sS 3 (Ys_bslice (s := 1) (len := 6) (vs := [(0, vi 1), (1, vi 2), (2, vi 4), (3, vi 8), (4, vi 16), (5, vi 32)]) (cs := [vi 1, vi 2, vi 4, vi 8, vi 16, vi 32]) (zs := [vi 0, vi 0, vi 0, vi 0, vi 0, vi 0]) (m := 6) hS K38 K2 K47 rfl (mpc rfl (mpc rfl (mpc rfl (mpc rfl (mpc rfl (mpc rfl mpn)))))) rfl rfl rfl (by kernel_rfl) (by kernel_rfl) rfl) ?_
 rintro _ w_ ⟨b, rfl, hS1⟩
 refine sQ 4 (ym (vi n)) ?_
 obtain ⟨r_1, hc, hF⟩ := bI hF
 refine sc 5 rfl rfl (yC [.slice (aD b) 6 6, vi n] k_call_87 (c_spec_l1Has [1, 2, 4, 8, 16, 32] n (aD b) 6 6 _ rfl (hS1.inn0 [(false, 0)] rfl) hc)) ?_
 rintro _ w_1 ⟨rfl, hd⟩
 have hS2 := hS1.out00 hd
 refine sQ 2 (yg (.bool r_1)) (rn (ct_ ?_))
 obtain rfl := sI hF
 exact ret1 Tryz.results43 (v1 := .bool r_1) (resAt_tmp rfl) ⟨rfl, (hS2.sN [])⟩

theorem c_spec_l2Good (x : TDyadic)  (w0 : World)  (hS : ST w0 [] w0 [] []) {r_ : Bool} (hF : F_spec_l2Good x = some r_) :
  CV Tryz.prog 44 #[gD_ x] w0 (fun v w' => v = .bool r_ ∧ ST w0 [] w' [] []) := by
 unfold F_spec_l2Good at hF
 refine cv_of_cw 22 Tryz.func44 rfl Tryz.ntmps44 rfl ?_
 refine cq (cr ?_)
 refine sS 1 (yB 43 (gD_ x) (kD_ x) 5 hS) ?_
 rintro _ w_ ⟨b, rfl, hS1⟩
 refine sQ 2 (yg (.bool false)) (rn (cq (cr ?_)))
 refine sQ 3 (yd (aD b) 0 3 K39 K3) <| sQ 4 (ya (aD b) 0 (kD_ x) (kR_ x.Num) K10 K3 (hS1.c 0)) ?_
 obtain ⟨r_1, hc, hF⟩ := bI hF
 refine sc 5 rfl rfl (yC [gR_ x.Num] K113 (c_spec_l1Good x.Num _  (hS1.inn0 [] rfl) hc)) ?_
 rintro _ w_1 ⟨rfl, hd⟩
 have hS2 := hS1.out00 hd
 refine sQ 6 (ym (.bool r_1)) ?_
 refine sgq 7 (B := r_1) (v := pt (aD b) 4) rfl rfl (uT_ 6) (fun hg => (yd (aD b) 0 0 K30 K2)) ?_
 refine sgq 8 (B := r_1) (v := vi x.Exp) rfl rfl (uT_ 6) (fun hg1 => (yl (aD b) 4 (kD_ x) (vi x.Exp) K1 (hS2.c 0) rfl (gv_of (v := pt (aD b) 4) hg1))) ?_
 obtain ⟨r_2, hc1, hF⟩ := bI hF
 refine sgc 9 (B := r_1) (v := .bool r_2) (F := hS2.fn) rfl rfl (uT_ 6) hS2 (fun hg2 => (yC [vi x.Exp, vi 0, vi 60] K112 (CV.mono (c_spec_l1In x.Exp 0 60 _  (hS2.inn0 [] rfl) (gb_inv hc1 hg2)) (by rintro _ _ ⟨rfl, h⟩; exact ⟨rfl, hS2.out00 h⟩)) rfl (mc (gv_of (v := vi x.Exp) hg2) (mc rfl (mc rfl mn))))) ?_
 rintro w_2 hS3
 refine sQ 10 (Y_and (b := r_1) (z := r_2) rfl rfl rfl rfl) <| sQ 11 (ym (.bool (r_1 && r_2))) ?_
 refine sgq 12 (B := (r_1 && r_2)) (v := pt (aD b) 4) rfl rfl (uT_ 11) (fun hg3 => (yd (aD b) 0 0 K30 K2)) ?_
 refine sgq 13 (B := (r_1 && r_2)) (v := vi x.Exp) rfl rfl (uT_ 11) (fun hg4 => (yl (aD b) 4 (kD_ x) (vi x.Exp) K1 (hS3.c 0) rfl (gv_of (v := pt (aD b) 4) hg4))) ?_
 refine sgq 14 (B := (r_1 && r_2)) (v := .bool (x.Exp == 0)) rfl rfl (uT_ 11) (fun hg5 => (yE x.Exp 0 rfl (gv_of (v := vi x.Exp) hg5))) ?_
 refine sgq 15 (B := (r_1 && r_2)) (v := .bool (x.Exp == 0)) rfl rfl (uT_ 11) (fun hg6 => (ym (.bool (x.Exp == 0)) rfl (gv_of (v := .bool (x.Exp == 0)) hg6))) ?_
 refine sgq 16 (B := ((r_1 && r_2) && (!(x.Exp == 0)))) (v := pt (aD b) 0) rfl rfl (wt_gf (gd_of (t := 15) (by kernel_rfl) rfl)) (fun hg7 => (yd (aD b) 0 3 K39 K3)) ?_
 refine sgq 17 (B := ((r_1 && r_2) && (!(x.Exp == 0)))) (v := gR_ x.Num) rfl rfl (wt_gf (gd_of (t := 15) (by kernel_rfl) rfl)) (fun hg8 => (ya (aD b) 0 (kD_ x) (kR_ x.Num) K10 K3 (hS3.c 0) rfl (gv_of (v := pt (aD b) 0) hg8))) ?_
 obtain ⟨r_3, hc2, hF⟩ := bI hF
 refine sgc 18 (B := ((r_1 && r_2) && (!(x.Exp == 0)))) (v := .bool r_3) (F := hS3.fn) rfl rfl (wt_gf (gd_of (t := 15) (by kernel_rfl) rfl)) hS3 (fun hg9 => (yC [gR_ x.Num] k_call_90 (CV.mono (c_spec_l1Even x.Num _  (hS3.inn0 [] rfl) (gb_inv hc2 hg9)) (by rintro _ _ ⟨rfl, h⟩; exact ⟨rfl, hS3.out00 h⟩)) rfl (mc (gv_of (v := gR_ x.Num) hg9) mn))) ?_
 rintro w_3 hS4
 refine sgq 19 (B := ((r_1 && r_2) && (!(x.Exp == 0)))) (v := .bool (!r_3)) rfl rfl (wt_gf (gd_of (t := 15) (by kernel_rfl) rfl)) (fun hg10 => (Y_not (p := r_3) rfl (gv_of (v := .bool r_3) hg10))) ?_
 refine sgq 20 (B := (r_1 && r_2)) (v := .bool ((x.Exp == 0) || (!r_3))) rfl rfl (uT_ 11) (fun hg11 => (Y_or (b := (x.Exp == 0)) (z := (!r_3)) rfl (gv_of (v := .bool (x.Exp == 0)) hg11) rfl (gv_and (B := (r_1 && r_2)) (C := (!(x.Exp == 0))) (v := .bool (!r_3)) hg11))) ?_
 refine sQ 21 (Y_and (b := (r_1 && r_2)) (z := ((x.Exp == 0) || (!r_3))) rfl rfl rfl rfl) <| sQ 2 (yg (.bool ((r_1 && r_2) && ((x.Exp == 0) || (!r_3))))) (rn (ct_ ?_))
 obtain rfl := sI hF
 exact ret1 Tryz.results44 (v1 := .bool ((r_1 && r_2) && ((x.Exp == 0) || (!r_3)))) (resAt_tmp rfl) ⟨rfl, (hS4.sN [])⟩

theorem c_spec_l3Good (m : TMatrix) (B : Option Addr) (c n : Nat) (w0 : World) (hn : m.Cells.length = n) (hS : ST w0 [] w0 [] [⟨B, (m.Cells.flatMap eN0)⟩]) {r_ : Bool} (hF : F_spec_l3Good m = some r_) :
  CV Tryz.prog 19 #[.agg #[vi m.Rows, vi m.Cols, .slice B n c]] w0 (fun v w' => v = .bool r_ ∧ ST w0 [] w' [] []) := by
 subst hn
 unfold F_spec_l3Good at hF
 refine cv_of_cw 37 Tryz.func19 rfl Tryz.ntmps19 rfl ?_
 refine cq (cr ?_)
 refine sS 1 (yB 26 (gM_ m B c) (kM_ m B c) 3 hS) ?_
 rintro _ w_ ⟨b, rfl, hS1⟩
 refine sQ 2 (yg (.bool false)) (rn (cq (cq (cr ?_))))
 refine sQ 5 (yd (aD b) 0 0 K28 K2) <| sQ 6 (yl (aD b) 0 (kM_ m B c) (vi m.Rows) K1 (hS1.c 0)) ?_
 obtain ⟨r_1, hc, hF⟩ := bI hF
 refine sc 7 rfl rfl (yC [vi m.Rows] k_call_43 (c_spec_l3Dim m.Rows _  (hS1.inn0 [] rfl) hc)) ?_
 rintro _ w_1 ⟨rfl, hd⟩
 have hS2 := hS1.out00 hd
 refine sQ 8 (Y_not (p := r_1) rfl rfl) <| sQ 9 (ym (.bool (!r_1))) ?_
 refine sgq 10 (B := (!(!r_1))) (v := pt (aD b) 1) rfl rfl (uF_ 9) (fun hg => (yd (aD b) 0 0 K27 K2)) ?_
 refine sgq 11 (B := (!(!r_1))) (v := vi m.Cols) rfl rfl (uF_ 9) (fun hg1 => (yl (aD b) 1 (kM_ m B c) (vi m.Cols) K1 (hS2.c 0) rfl (gv_of (v := pt (aD b) 1) hg1))) ?_
 obtain ⟨r_2, hc1, hF⟩ := bI hF
 refine sgc 12 (B := (!(!r_1))) (v := .bool r_2) (F := hS2.fn) rfl rfl (uF_ 9) hS2 (fun hg2 => (yC [vi m.Cols] k_call_43 (CV.mono (c_spec_l3Dim m.Cols _  (hS2.inn0 [] rfl) (gb_inv hc1 hg2)) (by rintro _ _ ⟨rfl, h⟩; exact ⟨rfl, hS2.out00 h⟩)) rfl (mc (gv_of (v := vi m.Cols) hg2) mn))) ?_
 rintro w_2 hS3
 refine sgq 13 (B := (!(!r_1))) (v := .bool (!r_2)) rfl rfl (uF_ 9) (fun hg3 => (Y_not (p := r_2) rfl (gv_of (v := .bool r_2) hg3))) ?_
 refine sQ 14 (Y_or (b := (!r_1)) (z := (!r_2)) rfl rfl rfl rfl) <| sQ 15 (ym (.bool ((!r_1) || (!r_2)))) ?_
 refine sgq 16 (B := (!((!r_1) || (!r_2)))) (v := pt (aD b) 2) rfl rfl (uF_ 15) (fun hg4 => (yd (aD b) 0 0 K23 K8)) ?_
 refine sgq 17 (B := (!((!r_1) || (!r_2)))) (v := .slice B m.Cells.length c) rfl rfl (uF_ 15) (fun hg5 => (yl (aD b) 2 (kM_ m B c) (.slice B m.Cells.length c) K13 (hS3.c 0) rfl (gv_of (v := pt (aD b) 2) hg5))) ?_
 refine sgq 18 (B := (!((!r_1) || (!r_2)))) (v := vi (m.Cells.length : Int)) rfl rfl (uF_ 15) (fun hg6 => (Y_len (B := B) (m := m.Cells.length) (c := c) K7 rfl (gv_of (v := .slice B m.Cells.length c) hg6))) ?_
 refine sgq 19 (B := (!((!r_1) || (!r_2)))) (v := pt (aD b) 0) rfl rfl (uF_ 15) (fun hg7 => (yd (aD b) 0 0 K28 K2)) ?_
 refine sgq 20 (B := (!((!r_1) || (!r_2)))) (v := vi m.Rows) rfl rfl (uF_ 15) (fun hg8 => (yl (aD b) 0 (kM_ m B c) (vi m.Rows) K1 (hS3.c 0) rfl (gv_of (v := pt (aD b) 0) hg8))) ?_
 refine sgq 21 (B := (!((!r_1) || (!r_2)))) (v := pt (aD b) 1) rfl rfl (uF_ 15) (fun hg9 => (yd (aD b) 0 0 K27 K2)) ?_
 refine sgq 22 (B := (!((!r_1) || (!r_2)))) (v := vi m.Cols) rfl rfl (uF_ 15) (fun hg10 => (yl (aD b) 1 (kM_ m B c) (vi m.Cols) K1 (hS3.c 0) rfl (gv_of (v := pt (aD b) 1) hg10))) ?_
 refine sgq 23 (B := (!((!r_1) || (!r_2)))) (v := vi (i64.wrap (m.Rows * m.Cols))) rfl rfl (uF_ 15) (fun hg11 => (yX m.Rows m.Cols rfl (gv_of (v := vi m.Rows) hg11) (gv_of (v := vi m.Cols) hg11))) ?_
 refine sgq 24 (B := (!((!r_1) || (!r_2)))) (v := .bool ((m.Cells.length : Int) != (i64.wrap (m.Rows * m.Cols)))) rfl rfl (uF_ 15) (fun hg12 => (Y_ne (k := .i64) (a := (m.Cells.length : Int)) (b := (i64.wrap (m.Rows * m.Cols))) rfl (gv_of (v := vi (m.Cells.length : Int)) hg12) (gv_of (v := vi (i64.wrap (m.Rows * m.Cols))) hg12))) ?_
 refine sQ 25 (Y_or (b := ((!r_1) || (!r_2))) (z := ((m.Cells.length : Int) != (i64.wrap (m.Rows * m.Cols)))) rfl rfl rfl rfl) (rn ?_)
 refine cw_cond (b := (((!r_1) || (!r_2)) || ((m.Cells.length : Int) != (i64.wrap (m.Rows * m.Cols))))) rfl (fun hb => ?_) (fun hb => ?_)
 ·skip
  have hF1 := ct hF hb
  refine cq (cr ?_)
  refine sQ 2 (yg (.bool false)) (rn (ct_ ?_))
  obtain rfl := sI hF1
  exact ret1 Tryz.results19 (v1 := .bool false) (resAt_tmp rfl) ⟨rfl, (hS3.sN [])⟩
 ·skip
  have hF2 := cf' hF hb
  refine cw_skip (cq (cq (cr ?_)))
  refine sQ 26 (yd (aD b) 0 0 K23 K8) <| sQ 27 (yl (aD b) 2 (kM_ m B c) (.slice B m.Cells.length c) K13 (hS3.c 0)) <| sQ 28 (Y_len (B := B) (m := m.Cells.length) (c := c) K7 rfl rfl) <| sQ 29 (ym (vi 0)) (rn ?_)
  obtain ⟨hN, hF2⟩ := chk_inv hF2
  obtain ⟨z, hz, hF3⟩ := bI hF2
  refine cw_block ?_
  refine cw_loop (fun k f w => ∃ (i : Nat), FF f [(27, .slice B m.Cells.length c), (28, vi (m.Cells.length : Int)), (29, vi (i : Int))] ∧ ST w0 [] w [] [⟨B, (m.Cells.flatMap eN0)⟩] ∧ i + k = m.Cells.length ∧ forX (F_spec_l3Good_l1 m) k i () = some z) m.Cells.length ⟨0, (fc rfl (fc rfl (fc rfl fn_))), (hS3.sel [] rfl rfl), Nat.zero_add _, hz⟩ ?_
  rintro k_ f w ⟨i, hf, hS4, hik, hL⟩
  refine cq (cr ?_)
  refine sQ 30 (yL (i : Int) (m.Cells.length : Int) rfl (hf.g 29 2) (hf.g 28 1)) (rn (cq ?_))
  refine cw_cond (b := (decide ((i : Int) < (m.Cells.length : Int)))) rfl (fun hlt => ?_) (fun hlt => ?_)
  ·skip
   have hlt1 : i < m.Cells.length := by have h := of_decide_eq_true hlt; omega
   obtain ⟨K11, rfl⟩ : ∃ k2, k_ = k2 + 1 := ⟨k_ - 1, by omega⟩
   obtain ⟨y, hb1, hL1⟩ := forX_go hL
   unfold F_spec_l3Good_l1 at hb1
   refine cw_skip (cq (cw_block (cq (cr ?_))))
   obtain ⟨x, hx, hb1⟩ := bI hb1
   refine sQ 31 (Y_index (B := B) (m := m.Cells.length) (c := c) (k := .i64) (i := (i : Int)) K7 K0 rfl (hf.g 27 0) (hf.g 29 2) (gi_isSome eN2 rfl (hS4.rf (i := 0) rfl) hx) (getI_nn hx) (getI_ltI hx rfl)) <| sQ 32 (ya B ((i : Int).toNat * 5) (m.Cells.flatMap eN0) (kD_ x) K5 K0 (hS4.rf (i := 0) rfl) rfl rfl (eN2 x) (gi_seg eN2 hx)) ?_
   refine sS 4 (yN kZ_ 5 hS4 K6) ?_
   rintro _ w_3 ⟨b1, rfl, hS5⟩
   refine s0 (yT 0 5 (aD b1) 43 (gD_ x) (kD_ x) 0 hS5 K0) ?_
   rintro _ w_4 ⟨rfl, hS6⟩
   refine rn (cq (cr ?_))
   refine sQ 33 (yb (aD b1) 0 (kD_ x) K5 K0 (hS6.c 0)) ?_
   obtain ⟨r_3, hc2, hb1⟩ := bI hb1
   refine sc 34 rfl rfl (yC [gD_ x] k_call_44 (c_spec_l2Good x _  (hS6.inn0 [] rfl) hc2)) ?_
   rintro _ w_5 ⟨rfl, hd1⟩
   have hS7 := hS6.out00 hd1
   refine sQ 35 (Y_not (p := r_3) rfl rfl) (rn ?_)
   refine cw_cond (b := (!r_3)) rfl (fun hb2 => ?_) (fun hb2 => ?_)
   ·skip
    have hF4 := ct hb1 hb2
    refine cq (cr ?_)
    refine sQ 2 (yg (.bool false)) (rn (ct_ ?_))
    obtain rfl := sI hF4
    obtain rfl := sI hL1
    obtain rfl := sI hF3
    exact ret1 Tryz.results19 (v1 := .bool false) (resAt_tmp rfl) ⟨rfl, (hS7.sN [])⟩
   ·skip
    have hF5 := cf' hb1 hb2
    refine cw_skip (cr ?_)
    refine sQ 36 (yP (i : Int) 1 rfl (hf.g 29 2)) <| sQ 29 (ym (vi (i64.wrap ((i : Int) + 1)))) (rn ?_)
    obtain rfl := sI hF5
    exact ⟨K11, Nat.lt_succ_self _, i + 1, (fc (hf.g 27 0) (fc (hf.g 28 1) (fc (congrArg (Value.int .i64) (wr_succ hlt1 hN)) fn_))), (hS7.sel [] rfl rfl), (by omega), hL1⟩
  ·skip
   obtain rfl : k_ = 0 := by have h := of_decide_eq_false hlt; omega
   refine cw_exit rfl ?_
   obtain rfl := sI hL
   refine cq (cr ?_)
   refine sQ 2 (yg (.bool true)) (rn (ct_ ?_))
   obtain rfl := sI hF3
   exact ret1 Tryz.results19 (v1 := .bool true) (resAt_tmp rfl) ⟨rfl, (hS4.sN [])⟩

theorem c_spec_l1Conj (x : TRing)  (w0 : World)  (hS : ST w0 [] w0 [] []) {r_ : TRing} (hF : F_spec_l1Conj x = some r_) :
  CV Tryz.prog 113 #[gR_ x] w0 (fun v w' => v = (gR_ r_) ∧ ST w0 [] w' [] []) := by
 unfold F_spec_l1Conj at hF
 refine cv_of_cw 15 Tryz.func113 rfl Tryz.ntmps113 rfl ?_
 refine cq (cr ?_)
 refine sS 1 (yB 41 (gR_ x) (kR_ x) 4 hS) ?_
 rintro _ w_ ⟨b, rfl, hS1⟩
 refine sS 2 (yN [vi 0, vi 0, vi 0, vi 0] 4 hS1 K14) ?_
 rintro _ w_1 ⟨b1, rfl, hS2⟩
 refine rn (cq (cr ?_))
 refine sQ 3 (yd (aD b) 0 0 K20 K2) <| sQ 4 (yl (aD b) 0 (kR_ x) (vi x.A) K1 (hS2.c 0)) <| sQ 5 (yd (aD b) 0 0 K19 K2) <| sQ 6 (yl (aD b) 3 (kR_ x) (vi x.D) K1 (hS2.c 0)) <| sQ 7 (Y_neg (k := .i64) (a := x.D) rfl rfl) <| sQ 8 (yd (aD b) 0 0 K22 K2) ?_
 refine sQ 9 (yl (aD b) 2 (kR_ x) (vi x.C) K1 (hS2.c 0)) <| sQ 10 (Y_neg (k := .i64) (a := x.C) rfl rfl) <| sQ 11 (yd (aD b) 0 0 K21 K2) <| sQ 12 (yl (aD b) 1 (kR_ x) (vi x.B) K1 (hS2.c 0)) <| sQ 13 (Y_neg (k := .i64) (a := x.B) rfl rfl) <| sQ 14 (Y_buildS (zs := [vi 0, vi 0, vi 0, vi 0]) (vs := [(0, vi x.A), (1, vi (i64.wrap (-x.D))), (2, vi (i64.wrap (-x.C))), (3, vi (i64.wrap (-x.B)))]) (cs := [vi x.A, vi (i64.wrap (-x.D)), vi (i64.wrap (-x.C)), vi (i64.wrap (-x.B))]) K26 K14 rfl (mpc rfl (mpc rfl (mpc rfl (mpc rfl mpn)))) rfl) ?_
 refine s0 (yT 1 4 (aD b1) 41 (.agg #[vi x.A, vi (i64.wrap (-x.D)), vi (i64.wrap (-x.C)), vi (i64.wrap (-x.B))]) [vi x.A, vi (i64.wrap (-x.D)), vi (i64.wrap (-x.C)), vi (i64.wrap (-x.B))] 0 hS2 K3) ?_
 rintro _ w_2 ⟨rfl, hS3⟩
 refine rn (ct_ ?_)
 obtain rfl := sI hF
 exact ret1 Tryz.results113 (v1 := .agg #[vi x.A, vi (i64.wrap (-x.D)), vi (i64.wrap (-x.C)), vi (i64.wrap (-x.B))]) (resAt_cellA (B := aD b1) (i := 0) (cs := [vi x.A, vi (i64.wrap (-x.D)), vi (i64.wrap (-x.C)), vi (i64.wrap (-x.B))]) (vs := [vi x.A, vi (i64.wrap (-x.D)), vi (i64.wrap (-x.C)), vi (i64.wrap (-x.B))]) rfl K10 K3 (hS3.c 1) rfl rfl) ⟨rfl, (hS3.sN [])⟩

theorem c_spec_l2Conj (x : TDyadic)  (w0 : World)  (hS : ST w0 [] w0 [] []) {r_ : TDyadic} (hF : F_spec_l2Conj x = some r_) :
  CV Tryz.prog 81 #[gD_ x] w0 (fun v w' => v = (gD_ r_) ∧ ST w0 [] w' [] []) := by
 unfold F_spec_l2Conj at hF
 refine cv_of_cw 9 Tryz.func81 rfl Tryz.ntmps81 rfl ?_
 refine cq (cr ?_)
 refine sS 1 (yB 43 (gD_ x) (kD_ x) 5 hS) ?_
 rintro _ w_ ⟨b, rfl, hS1⟩
 refine sS 2 (yN kZ_ 5 hS1 K6) ?_
 rintro _ w_1 ⟨b1, rfl, hS2⟩
 refine rn (cq ?_)
 obtain ⟨r_1, hc, hF⟩ := bI hF
 refine ra_start (hS2.se [0]).fn (by kernel_rfl) ?_
 have hS4 := hS2.drew
 refine rq 0 3 (v := pt (aD b) 0) rfl (hS4.se [0]) (fun w' hw' => (yd (aD b) 0 3 K39 K3)) ?_
 refine rq 1 4 (v := gR_ x.Num) rfl (hS4.se [0]) (fun w' hw' => (ya (aD b) 0 (kD_ x) (kR_ x.Num) K10 K3 (ST.cf hw' (i := 0) rfl))) ?_
 refine rq 3 6 (v := pt (aD b) 4) rfl (hS4.se [0]) (fun w' hw' => (yd (aD b) 0 0 K30 K2)) ?_
 refine rq 4 7 (v := vi x.Exp) rfl (hS4.se [0]) (fun w' hw' => (yl (aD b) 4 (kD_ x) (vi x.Exp) K1 (ST.cf hw' (i := 0) rfl))) ?_
 refine rA [2] ?_
 refine rC 5 2 rfl (yC [gR_ x.Num] k_call_113 (c_spec_l1Conj x.Num _  (hS4.inn0 [] rfl) hc)) ?_ ?_
 ·rintro _ w_2 ⟨rfl, hd⟩
  have hS5 := hS4.out00 hd
  refine ⟨(hS5.se [0]), ?_⟩
  refine rq 5 8 (v := .agg #[vi r_1.A, vi r_1.B, vi r_1.C, vi r_1.D, vi x.Exp]) rfl (hS5.se [0]) (fun w' hw' => (Y_buildS (zs := kZ_) (vs := [(0, gR_ r_1), (1, vi x.Exp)]) (cs := [vi r_1.A, vi r_1.B, vi r_1.C, vi r_1.D, vi x.Exp]) K18 K6 rfl (mpc rfl (mpc rfl mpn)) rfl)) ?_
  refine rA [6] ?_
  refine rZ 6 rfl (yT 1 5 (aD b1) 43 (.agg #[vi r_1.A, vi r_1.B, vi r_1.C, vi r_1.D, vi x.Exp]) [vi r_1.A, vi r_1.B, vi r_1.C, vi r_1.D, vi x.Exp] 0 hS5 K0) ?_ ?_
  ·rintro _ w_3 ⟨rfl, hS6⟩
   refine ⟨(hS6.se [0]), ?_⟩
   refine ra_done (by kernel_rfl) ?_
   refine ct_ ?_
   obtain rfl := sI hF
   exact ret1 Tryz.results81 (v1 := .agg #[vi r_1.A, vi r_1.B, vi r_1.C, vi r_1.D, vi x.Exp]) (resAt_cellA (B := aD b1) (i := 0) (cs := [vi r_1.A, vi r_1.B, vi r_1.C, vi r_1.D, vi x.Exp]) (vs := [vi r_1.A, vi r_1.B, vi r_1.C, vi r_1.D, vi x.Exp]) rfl K5 K0 (hS6.c 1) rfl rfl) ⟨rfl, (hS6.sN [])⟩
  exact aN
 exact aN

theorem c_spec_l3Adj (m : TMatrix) (B : Option Addr) (c n : Nat) (w0 : World) (hn : m.Cells.length = n) (hS : ST w0 [] w0 [] [⟨B, (m.Cells.flatMap eN0)⟩]) {r_ : TMatrix} (hF : F_spec_l3Adj m = some r_) :
  CV Tryz.prog 40 #[.agg #[vi m.Rows, vi m.Cols, .slice B n c]] w0 (fun v w' => ∃ (B1 : Option Addr) (c1 : Nat), v = (gM_ r_ B1 c1) ∧ ST w0 [] w' [⟨B1, 43, (r_.Cells.flatMap eN0), c1 * 5⟩] []) := by
 subst hn
 unfold F_spec_l3Adj at hF
 refine cv_of_cw 40 Tryz.func40 rfl Tryz.ntmps40 rfl ?_
 refine cq (cr ?_)
 refine sS 1 (yB 26 (gM_ m B c) (kM_ m B c) 3 hS) ?_
 rintro _ w_ ⟨b, rfl, hS1⟩
 refine sS 2 (yN kN_ 3 hS1 K12) ?_
 rintro _ w_1 ⟨b1, rfl, hS2⟩
 refine rn (cq (cr ?_))
 refine sQ 6 (yd (aD b) 0 0 K27 K2) <| sQ 7 (yl (aD b) 1 (kM_ m B c) (vi m.Cols) K1 (hS2.c 0)) <| sQ 8 (yd (aD b) 0 0 K28 K2) <| sQ 9 (yl (aD b) 0 (kM_ m B c) (vi m.Rows) K1 (hS2.c 0)) <| sQ 10 (Y_buildS (zs := kN_) (vs := [(0, vi m.Cols), (1, vi m.Rows)]) (cs := [vi m.Cols, vi m.Rows, .slice none 0 0]) K42 K12 rfl (mpc rfl (mpc rfl mpn)) rfl) ?_
 refine sS 3 (yN kN_ 3 hS2 K12) ?_
 rintro _ w_2 ⟨b2, rfl, hS3⟩
 refine s0 (yT 2 3 (aD b2) 26 (.agg #[vi m.Cols, vi m.Rows, .slice none 0 0]) [vi m.Cols, vi m.Rows, .slice none 0 0] 0 hS3 K4) ?_
 rintro _ w_3 ⟨rfl, hS4⟩
 refine rn (cq (cq (cr ?_)))
 refine sQ 4 (yg (vi 0)) (rn ?_)
 obtain ⟨hN, hF⟩ := chk_inv hF
 obtain ⟨z, hz, hF1⟩ := bI hF
 have hS6 := hS4.addNil 43
 refine cw_block ?_
 refine cw_loop (fun k f w => ∃ (j : Nat) (Cells : List TDyadic) (B2 : Option Addr) (c2 : Nat), FF f [(1, pt (aD b) 0), (2, pt (aD b1) 0), (3, pt (aD b2) 0), (4, vi (j : Int))] ∧ ST w0 [] w [⟨aD b, 26, kM_ m B c, 3⟩, ⟨aD b1, 26, kN_, 3⟩, ⟨aD b2, 26, [vi m.Cols, vi m.Rows, .slice B2 Cells.length c2], 3⟩, ⟨B2, 43, (Cells.flatMap eN0), c2 * 5⟩] [⟨B, (m.Cells.flatMap eN0)⟩] ∧ j + k = m.Cols.toNat ∧ forN (F_spec_l3Adj_l1 m) k j Cells = some z) m.Cols.toNat ⟨0, [], none, 0, (fc rfl (fc rfl (fc rfl (fc rfl fn_)))), (hS6.sel [0, 1, 2, 3] rfl rfl), Nat.zero_add _, hz⟩ ?_
 rintro k_ f w ⟨j, Cells, B2, c2, hf, hS5, hik, hL⟩
 refine cq (cq (cr ?_))
 refine sQ 11 (ym (vi (j : Int)) rfl (hf.g 4 3)) <| sQ 12 (yd (aD b) 0 0 K27 K2 rfl (hf.g 1 0)) <| sQ 13 (yl (aD b) 1 (kM_ m B c) (vi m.Cols) K1 (hS5.c 0)) <| sQ 14 (yL (j : Int) m.Cols) (rn ?_)
 refine cw_cond (b := (decide ((j : Int) < m.Cols))) rfl (fun hlt => ?_) (fun hlt => ?_)
 ·skip
  have hlt1 : j < m.Cols.toNat := by have h := of_decide_eq_true hlt; omega
  obtain ⟨K11, rfl⟩ : ∃ k2, k_ = k2 + 1 := ⟨k_ - 1, by omega⟩
  obtain ⟨y, hb, hL1⟩ := forN_go hL
  unfold F_spec_l3Adj_l1 at hb
  refine cw_skip (cq (cw_block (cq (cr ?_))))
  refine sQ 5 (yg (vi 0)) (rn ?_)
  obtain ⟨hN1, hb⟩ := chk_inv hb
  obtain ⟨z1, hz1, hF2⟩ := bI hb
  refine cw_block ?_
  refine cw_loop (fun k f w => ∃ (i2 : Nat) (Cells1 : List TDyadic) (B3 : Option Addr) (c3 : Nat), FF f [(1, pt (aD b) 0), (2, pt (aD b1) 0), (3, pt (aD b2) 0), (4, vi (j : Int)), (5, vi (i2 : Int))] ∧ ST w0 [] w [⟨aD b, 26, kM_ m B c, 3⟩, ⟨aD b1, 26, kN_, 3⟩, ⟨aD b2, 26, [vi m.Cols, vi m.Rows, .slice B3 Cells1.length c3], 3⟩, ⟨B3, 43, (Cells1.flatMap eN0), c3 * 5⟩] [⟨B, (m.Cells.flatMap eN0)⟩] ∧ i2 + k = m.Rows.toNat ∧ forN (F_spec_l3Adj_l2 m Cells j) k i2 Cells1 = some z1) m.Rows.toNat ⟨0, Cells, B2, c2, (fc (hf.g 1 0) (fc (hf.g 2 1) (fc (hf.g 3 2) (fc (hf.g 4 3) (fc rfl fn_))))), (hS5.sel [0, 1, 2, 3] rfl rfl), Nat.zero_add _, hz1⟩ ?_
  rintro K15 f w ⟨i2, Cells1, B3, c3, hf1, hS7, hik1, hL2⟩
  refine cq (cq (cr ?_))
  refine sQ 17 (ym (vi (i2 : Int)) rfl (hf1.g 5 4)) <| sQ 18 (yd (aD b) 0 0 K28 K2 rfl (hf1.g 1 0)) <| sQ 19 (yl (aD b) 0 (kM_ m B c) (vi m.Rows) K1 (hS7.c 0)) <| sQ 20 (yL (i2 : Int) m.Rows) (rn ?_)
  refine cw_cond (b := (decide ((i2 : Int) < m.Rows))) rfl (fun hlt2 => ?_) (fun hlt2 => ?_)
  ·skip
   have hlt3 : i2 < m.Rows.toNat := by have h := of_decide_eq_true hlt2; omega
   obtain ⟨K29, rfl⟩ : ∃ k2, K15 = k2 + 1 := ⟨K15 - 1, by omega⟩
   obtain ⟨y1, hb1, hL3⟩ := forN_go hL2
   unfold F_spec_l3Adj_l2 at hb1
   refine cw_skip (cq (cw_block ?_))
   obtain ⟨x, hx, hb1⟩ := bI hb1
   obtain ⟨r_1, hc, hb1⟩ := bI hb1
   obtain ⟨hap, hb1⟩ := chk_inv hb1
   refine cw_mid (fun f w => ∃ (B5 : Option Addr) (c5 : Nat), FF f [(1, pt (aD b) 0), (2, pt (aD b1) 0), (3, pt (aD b2) 0), (4, vi (j : Int)), (5, vi (i2 : Int))] ∧ ST w0 [] w [⟨aD b, 26, kM_ m B c, 3⟩, ⟨aD b1, 26, kN_, 3⟩, ⟨aD b2, 26, [vi m.Cols, vi m.Rows, .slice B5 ((Cells1 ++ [r_1]).length) c5], 3⟩, ⟨B5, 43, ((Cells1 ++ [r_1]).flatMap eN0), c5 * 5⟩] [⟨B, (m.Cells.flatMap eN0)⟩]) ?_ ?_
   ·skip
    refine ra_start (hS7.se [0, 1]).fn (by kernel_rfl) ?_
    have hS10 := hS7.drew
    refine rq 0 23 (v := pt (aD b2) 2) rfl (hS10.se [0, 1]) (fun w' hw' => (yd (aD b2) 0 0 K23 K8 rfl (hf1.g 3 2))) ?_
    refine rq 2 25 (v := pt (aD b) 2) rfl (hS10.se [0, 1]) (fun w' hw' => (yd (aD b) 0 0 K23 K8 rfl (hf1.g 1 0))) ?_
    refine rq 3 26 (v := .slice B m.Cells.length c) rfl (hS10.se [0, 1]) (fun w' hw' => (yl (aD b) 2 (kM_ m B c) (.slice B m.Cells.length c) K13 (ST.cf hw' (i := 0) rfl))) ?_
    refine rq 4 27 (v := vi (i2 : Int)) rfl (hS10.se [0, 1]) (fun w' hw' => (ym (vi (i2 : Int)) rfl (hf1.g 5 4))) ?_
    refine rq 5 28 (v := pt (aD b) 1) rfl (hS10.se [0, 1]) (fun w' hw' => (yd (aD b) 0 0 K27 K2 rfl (hf1.g 1 0))) ?_
    refine rq 6 29 (v := vi m.Cols) rfl (hS10.se [0, 1]) (fun w' hw' => (yl (aD b) 1 (kM_ m B c) (vi m.Cols) K1 (ST.cf hw' (i := 0) rfl))) ?_
    refine rq 7 30 (v := vi (i64.wrap ((i2 : Int) * m.Cols))) rfl (hS10.se [0, 1]) (fun w' hw' => (yX (i2 : Int) m.Cols)) ?_
    refine rq 8 31 (v := vi (j : Int)) rfl (hS10.se [0, 1]) (fun w' hw' => (ym (vi (j : Int)) rfl (hf1.g 4 3))) ?_
    refine rq 9 32 (v := vi (i64.wrap ((i64.wrap ((i2 : Int) * m.Cols)) + (j : Int)))) rfl (hS10.se [0, 1]) (fun w' hw' => (yP (i64.wrap ((i2 : Int) * m.Cols)) (j : Int))) ?_
    refine rq 10 33 (v := pt B ((i64.wrap ((i64.wrap ((i2 : Int) * m.Cols)) + (j : Int))).toNat * 5)) rfl (hS10.se [0, 1]) (fun w' hw' => (Y_index (B := B) (m := m.Cells.length) (c := c) (k := .i64) (i := (i64.wrap ((i64.wrap ((i2 : Int) * m.Cols)) + (j : Int)))) K7 K0 rfl rfl rfl (gi_isSome eN2 rfl (ST.rf hw' (i := 0) rfl) hx) (getI_nn hx) (getI_ltI hx rfl))) ?_
    refine rq 11 34 (v := gD_ x) rfl (hS10.se [0, 1]) (fun w' hw' => (ya B ((i64.wrap ((i64.wrap ((i2 : Int) * m.Cols)) + (j : Int))).toNat * 5) (m.Cells.flatMap eN0) (kD_ x) K5 K0 (ST.rf hw' (i := 0) rfl) rfl rfl (eN2 x) (gi_seg eN2 hx))) ?_
    refine rA [1, 12] ?_
    refine ra_y 24 (i := 1) (v := .slice B3 Cells1.length c3) rfl rfl rfl (yl (aD b2) 2 [vi m.Cols, vi m.Rows, .slice B3 Cells1.length c3] (.slice B3 Cells1.length c3) K13 (hS10.c 2)) (hS10.se [0, 1]) ?_ ?_
    ·skip
     refine rA [12] ?_
     refine rC 35 12 rfl (yC [gD_ x] k_call_81 (c_spec_l2Conj x _  (hS10.inn0 [] rfl) hc)) ?_ ?_
     ·rintro _ w_4 ⟨rfl, hd⟩
      have hS11 := hS10.out00 hd
      refine ⟨(hS11.se [0, 1]), ?_⟩
      refine rA [13] ?_
      refine rS 36 13 rfl (Ys_bslice (s := 5) (len := 1) (vs := [(0, gD_ r_1)]) (cs := kD_ r_1) (zs := kZ_) (m := 5) hS11 K7 K0 K31 rfl (mpc rfl mpn) rfl rfl rfl (by kernel_rfl) (by kernel_rfl) rfl) ?_ ?_
      ·rintro _ w_5 ⟨b3, rfl, hS12⟩
       refine ⟨(hS12.se [0, 1]), ?_⟩
       refine rA [14] ?_
       refine rS 37 14 rfl (Ys_append (s := 5) (by' := 40) (i := 3) (nn := Cells1.length) (c := c3) (k := 1) (len := (Cells1 ++ [r_1]).length) (B := B3) (xs := ([r_1].flatMap eN0)) (cs' := ((Cells1 ++ [r_1]).flatMap eN0)) hS12 K7 K0 K37 K6 rfl (by decide) rfl rfl rfl rfl (fm_lenn (l := Cells1) eN2 rfl) rfl (hS12.c 4) (fm_lenn (l := [r_1]) eN2 rfl) (fm_one' (enc := eN0) enc_Dyadic_one [r_1]) (by have := hap; omega) (by have := hap; simp only [maxLen]; omega) (fm_app _ _) (app_len (l := Cells1) (l' := [r_1]) rfl rfl)) ?_ ?_
       ·rintro _ w_6 ⟨B4, c4, rfl, hS13⟩
        refine ⟨(hS13.se [0, 1]), ?_⟩
        refine rq 15 38 (v := pt (aD b2) 2) rfl (hS13.se [0, 1]) (fun w' hw' => (yd (aD b2) 0 0 K23 K8 rfl (hf1.g 3 2))) ?_
        refine rA [16] ?_
        refine rZ 16 rfl (yS 2 1 (aD b2) 26 (.slice B4 ((Cells1 ++ [r_1]).length) c4) [.slice B4 ((Cells1 ++ [r_1]).length) c4] 2 [vi m.Cols, vi m.Rows, .slice B4 ((Cells1 ++ [r_1]).length) c4] hS13 K8) ?_ ?_
        ·rintro _ w_7 ⟨rfl, hS14⟩
         refine ⟨(hS14.se [0, 1]), ?_⟩
         refine ra_done (by kernel_rfl) ?_
         exact ⟨B4, c4, (fc (hf1.g 1 0) (fc (hf1.g 2 1) (fc (hf1.g 3 2) (fc (hf1.g 4 3) (fc (hf1.g 5 4) fn_))))), (hS14.sel [0, 1, 2, 3] rfl rfl)⟩
        exact aN
       exact aN
      exact aN
     exact aN
    refine rC 35 12 rfl (yC [gD_ x] k_call_81 (c_spec_l2Conj x _  (hS10.inn0 [] rfl) hc)) ?_ ?_
    ·rintro _ w_8 ⟨rfl, hd1⟩
     have hS15 := hS10.out00 hd1
     refine ⟨(hS15.se [0, 1]), ?_⟩
     refine rA [1, 13] ?_
     refine ra_y 24 (i := 1) (v := .slice B3 Cells1.length c3) rfl rfl rfl (yl (aD b2) 2 [vi m.Cols, vi m.Rows, .slice B3 Cells1.length c3] (.slice B3 Cells1.length c3) K13 (hS15.c 2)) (hS15.se [0, 1]) ?_ ?_
     ·skip
      refine rA [13] ?_
      refine rS 36 13 rfl (Ys_bslice (s := 5) (len := 1) (vs := [(0, gD_ r_1)]) (cs := kD_ r_1) (zs := kZ_) (m := 5) hS15 K7 K0 K31 rfl (mpc rfl mpn) rfl rfl rfl (by kernel_rfl) (by kernel_rfl) rfl) ?_ ?_
      ·rintro _ w_9 ⟨b3, rfl, hS16⟩
       refine ⟨(hS16.se [0, 1]), ?_⟩
       refine rA [14] ?_
       refine rS 37 14 rfl (Ys_append (s := 5) (by' := 40) (i := 3) (nn := Cells1.length) (c := c3) (k := 1) (len := (Cells1 ++ [r_1]).length) (B := B3) (xs := ([r_1].flatMap eN0)) (cs' := ((Cells1 ++ [r_1]).flatMap eN0)) hS16 K7 K0 K37 K6 rfl (by decide) rfl rfl rfl rfl (fm_lenn (l := Cells1) eN2 rfl) rfl (hS16.c 4) (fm_lenn (l := [r_1]) eN2 rfl) (fm_one' (enc := eN0) enc_Dyadic_one [r_1]) (by have := hap; omega) (by have := hap; simp only [maxLen]; omega) (fm_app _ _) (app_len (l := Cells1) (l' := [r_1]) rfl rfl)) ?_ ?_
       ·rintro _ w_10 ⟨B4, c4, rfl, hS17⟩
        refine ⟨(hS17.se [0, 1]), ?_⟩
        refine rq 15 38 (v := pt (aD b2) 2) rfl (hS17.se [0, 1]) (fun w' hw' => (yd (aD b2) 0 0 K23 K8 rfl (hf1.g 3 2))) ?_
        refine rA [16] ?_
        refine rZ 16 rfl (yS 2 1 (aD b2) 26 (.slice B4 ((Cells1 ++ [r_1]).length) c4) [.slice B4 ((Cells1 ++ [r_1]).length) c4] 2 [vi m.Cols, vi m.Rows, .slice B4 ((Cells1 ++ [r_1]).length) c4] hS17 K8) ?_ ?_
        ·rintro _ w_11 ⟨rfl, hS18⟩
         refine ⟨(hS18.se [0, 1]), ?_⟩
         refine ra_done (by kernel_rfl) ?_
         exact ⟨B4, c4, (fc (hf1.g 1 0) (fc (hf1.g 2 1) (fc (hf1.g 3 2) (fc (hf1.g 4 3) (fc (hf1.g 5 4) fn_))))), (hS18.sel [0, 1, 2, 3] rfl rfl)⟩
        exact aN
       exact aN
      exact aN
     refine rS 36 13 rfl (Ys_bslice (s := 5) (len := 1) (vs := [(0, gD_ r_1)]) (cs := kD_ r_1) (zs := kZ_) (m := 5) hS15 K7 K0 K31 rfl (mpc rfl mpn) rfl rfl rfl (by kernel_rfl) (by kernel_rfl) rfl) ?_ ?_
     ·rintro _ w_12 ⟨b3, rfl, hS19⟩
      refine ⟨(hS19.se [0, 1]), ?_⟩
      refine rA [1] ?_
      refine ra_y 24 (i := 1) (v := .slice B3 Cells1.length c3) rfl rfl rfl (yl (aD b2) 2 [vi m.Cols, vi m.Rows, .slice B3 Cells1.length c3] (.slice B3 Cells1.length c3) K13 (hS19.c 2)) (hS19.se [0, 1]) ?_ ?_
      ·skip
       refine rA [14] ?_
       refine rS 37 14 rfl (Ys_append (s := 5) (by' := 40) (i := 3) (nn := Cells1.length) (c := c3) (k := 1) (len := (Cells1 ++ [r_1]).length) (B := B3) (xs := ([r_1].flatMap eN0)) (cs' := ((Cells1 ++ [r_1]).flatMap eN0)) hS19 K7 K0 K37 K6 rfl (by decide) rfl rfl rfl rfl (fm_lenn (l := Cells1) eN2 rfl) rfl (hS19.c 4) (fm_lenn (l := [r_1]) eN2 rfl) (fm_one' (enc := eN0) enc_Dyadic_one [r_1]) (by have := hap; omega) (by have := hap; simp only [maxLen]; omega) (fm_app _ _) (app_len (l := Cells1) (l' := [r_1]) rfl rfl)) ?_ ?_
       ·rintro _ w_13 ⟨B4, c4, rfl, hS20⟩
        refine ⟨(hS20.se [0, 1]), ?_⟩
        refine rq 15 38 (v := pt (aD b2) 2) rfl (hS20.se [0, 1]) (fun w' hw' => (yd (aD b2) 0 0 K23 K8 rfl (hf1.g 3 2))) ?_
        refine rA [16] ?_
        refine rZ 16 rfl (yS 2 1 (aD b2) 26 (.slice B4 ((Cells1 ++ [r_1]).length) c4) [.slice B4 ((Cells1 ++ [r_1]).length) c4] 2 [vi m.Cols, vi m.Rows, .slice B4 ((Cells1 ++ [r_1]).length) c4] hS20 K8) ?_ ?_
        ·rintro _ w_14 ⟨rfl, hS21⟩
         refine ⟨(hS21.se [0, 1]), ?_⟩
         refine ra_done (by kernel_rfl) ?_
         exact ⟨B4, c4, (fc (hf1.g 1 0) (fc (hf1.g 2 1) (fc (hf1.g 3 2) (fc (hf1.g 4 3) (fc (hf1.g 5 4) fn_))))), (hS21.sel [0, 1, 2, 3] rfl rfl)⟩
        exact aN
       exact aN
      exact aN
     exact aN
    exact aN
   rintro f w ⟨B5, c5, hf2, hS9⟩
   refine cr ?_
   refine sQ 21 (ym (vi (i2 : Int)) rfl (hf2.g 5 4)) <| sQ 22 (yP (i2 : Int) 1) <| sQ 5 (yg (vi (i64.wrap ((i2 : Int) + 1)))) (rn ?_)
   obtain rfl := sI hb1
   exact ⟨K29, Nat.lt_succ_self _, i2 + 1, (Cells1 ++ [r_1]), B5, c5, (fc (hf2.g 1 0) (fc (hf2.g 2 1) (fc (hf2.g 3 2) (fc (hf2.g 4 3) (fc (congrArg (Value.int .i64) (wr_succ hlt3 hN1)) fn_))))), (hS9.sel [0, 1, 2, 3] rfl rfl), (by omega), hL3⟩
  ·skip
   obtain rfl : K15 = 0 := by have h := of_decide_eq_false hlt2; omega
   refine cw_exit rfl ?_
   obtain rfl := sI hL2
   refine cr ?_
   refine sQ 15 (ym (vi (j : Int)) rfl (hf1.g 4 3)) <| sQ 16 (yP (j : Int) 1) <| sQ 4 (yg (vi (i64.wrap ((j : Int) + 1)))) (rn ?_)
   obtain rfl := sI hF2
   exact ⟨K11, Nat.lt_succ_self _, j + 1, Cells1, B3, c3, (fc (hf1.g 1 0) (fc (hf1.g 2 1) (fc (hf1.g 3 2) (fc (congrArg (Value.int .i64) (wr_succ hlt1 hN)) fn_)))), (hS7.sel [0, 1, 2, 3] rfl rfl), (by omega), hL1⟩
 ·skip
  obtain rfl : k_ = 0 := by have h := of_decide_eq_false hlt; omega
  refine cw_exit rfl ?_
  obtain rfl := sI hL
  refine cq (cr ?_)
  refine sQ 39 (yb (aD b2) 0 [vi m.Cols, vi m.Rows, .slice B2 Cells.length c2] K9 K4 (hS5.c 2) rfl (hf.g 3 2)) ?_
  refine s0 (yT 1 3 (aD b1) 26 (.agg #[vi m.Cols, vi m.Rows, .slice B2 Cells.length c2]) [vi m.Cols, vi m.Rows, .slice B2 Cells.length c2] 0 hS5 K4 rfl (hf.g 2 1)) ?_
  rintro _ w_15 ⟨rfl, hS22⟩
  refine rn (ct_ ?_)
  obtain rfl := sI hF1
  exact ret1 Tryz.results40 (v1 := .agg #[vi m.Cols, vi m.Rows, .slice B2 Cells.length c2]) (resAt_cellA (B := aD b1) (i := 0) (cs := [vi m.Cols, vi m.Rows, .slice B2 Cells.length c2]) (vs := [vi m.Cols, vi m.Rows, .slice B2 Cells.length c2]) (hf.g 2 1) K9 K4 (hS22.c 1) rfl rfl) ⟨B2, c2, rfl, (hS22.sN [3])⟩

theorem c_spec_EqualMatrices (a : TMatrix) (b : TMatrix) (B : Option Addr) (c n : Nat) (B1 : Option Addr) (c1 n1 : Nat) (w0 : World) (hn : a.Cells.length = n) (hn1 : b.Cells.length = n1) (hS : ST w0 [] w0 [] [⟨B, (a.Cells.flatMap eN0)⟩, ⟨B1, (b.Cells.flatMap eN0)⟩]) {r_ : Bool} (hF : F_spec_EqualMatrices a b = some r_) :
  CV Tryz.prog 78 #[.agg #[vi a.Rows, vi a.Cols, .slice B n c], .agg #[vi b.Rows, vi b.Cols, .slice B1 n1 c1]] w0 (fun v w' => v = .bool r_ ∧ ST w0 [] w' [] []) := by
 subst hn
 subst hn1
 unfold F_spec_EqualMatrices at hF
 refine cv_of_cw 45 Tryz.func78 rfl Tryz.ntmps78 rfl ?_
 refine cq (cr ?_)
 refine sS 2 (yB 26 (gM_ a B c) (kM_ a B c) 3 hS) ?_
 rintro _ w_ ⟨b1, rfl, hS1⟩
 refine sS 3 (yB 26 (gM_ b B1 c1) (kM_ b B1 c1) 3 hS1) ?_
 rintro _ w_1 ⟨b2, rfl, hS2⟩
 refine sQ 4 (yg (.bool false)) (rn (cq (cq (cr ?_))))
 refine sQ 6 (yd (aD b1) 0 0 K28 K2) <| sQ 7 (yl (aD b1) 0 (kM_ a B c) (vi a.Rows) K1 (hS2.c 0)) <| sQ 8 (yd (aD b2) 0 0 K28 K2) <| sQ 9 (yl (aD b2) 0 (kM_ b B1 c1) (vi b.Rows) K1 (hS2.c 1)) <| sQ 10 (Y_ne (k := .i64) (a := a.Rows) (b := b.Rows) rfl rfl rfl) <| sQ 11 (ym (.bool (a.Rows != b.Rows))) ?_
 refine sgq 12 (B := (!(a.Rows != b.Rows))) (v := pt (aD b1) 1) rfl rfl (uF_ 11) (fun hg => (yd (aD b1) 0 0 K27 K2)) ?_
 refine sgq 13 (B := (!(a.Rows != b.Rows))) (v := vi a.Cols) rfl rfl (uF_ 11) (fun hg1 => (yl (aD b1) 1 (kM_ a B c) (vi a.Cols) K1 (hS2.c 0) rfl (gv_of (v := pt (aD b1) 1) hg1))) ?_
 refine sgq 14 (B := (!(a.Rows != b.Rows))) (v := pt (aD b2) 1) rfl rfl (uF_ 11) (fun hg2 => (yd (aD b2) 0 0 K27 K2)) ?_
 refine sgq 15 (B := (!(a.Rows != b.Rows))) (v := vi b.Cols) rfl rfl (uF_ 11) (fun hg3 => (yl (aD b2) 1 (kM_ b B1 c1) (vi b.Cols) K1 (hS2.c 1) rfl (gv_of (v := pt (aD b2) 1) hg3))) ?_
 refine sgq 16 (B := (!(a.Rows != b.Rows))) (v := .bool (a.Cols != b.Cols)) rfl rfl (uF_ 11) (fun hg4 => (Y_ne (k := .i64) (a := a.Cols) (b := b.Cols) rfl (gv_of (v := vi a.Cols) hg4) (gv_of (v := vi b.Cols) hg4))) ?_
 refine sQ 17 (Y_or (b := (a.Rows != b.Rows)) (z := (a.Cols != b.Cols)) rfl rfl rfl rfl) <| sQ 18 (ym (.bool ((a.Rows != b.Rows) || (a.Cols != b.Cols)))) ?_
 refine sgq 19 (B := (!((a.Rows != b.Rows) || (a.Cols != b.Cols)))) (v := pt (aD b1) 2) rfl rfl (uF_ 18) (fun hg5 => (yd (aD b1) 0 0 K23 K8)) ?_
 refine sgq 20 (B := (!((a.Rows != b.Rows) || (a.Cols != b.Cols)))) (v := .slice B a.Cells.length c) rfl rfl (uF_ 18) (fun hg6 => (yl (aD b1) 2 (kM_ a B c) (.slice B a.Cells.length c) K13 (hS2.c 0) rfl (gv_of (v := pt (aD b1) 2) hg6))) ?_
 refine sgq 21 (B := (!((a.Rows != b.Rows) || (a.Cols != b.Cols)))) (v := vi (a.Cells.length : Int)) rfl rfl (uF_ 18) (fun hg7 => (Y_len (B := B) (m := a.Cells.length) (c := c) K7 rfl (gv_of (v := .slice B a.Cells.length c) hg7))) ?_
 refine sgq 22 (B := (!((a.Rows != b.Rows) || (a.Cols != b.Cols)))) (v := pt (aD b2) 2) rfl rfl (uF_ 18) (fun hg8 => (yd (aD b2) 0 0 K23 K8)) ?_
 refine sgq 23 (B := (!((a.Rows != b.Rows) || (a.Cols != b.Cols)))) (v := .slice B1 b.Cells.length c1) rfl rfl (uF_ 18) (fun hg9 => (yl (aD b2) 2 (kM_ b B1 c1) (.slice B1 b.Cells.length c1) K13 (hS2.c 1) rfl (gv_of (v := pt (aD b2) 2) hg9))) ?_
 refine sgq 24 (B := (!((a.Rows != b.Rows) || (a.Cols != b.Cols)))) (v := vi (b.Cells.length : Int)) rfl rfl (uF_ 18) (fun hg10 => (Y_len (B := B1) (m := b.Cells.length) (c := c1) K7 rfl (gv_of (v := .slice B1 b.Cells.length c1) hg10))) ?_
 refine sgq 25 (B := (!((a.Rows != b.Rows) || (a.Cols != b.Cols)))) (v := .bool ((a.Cells.length : Int) != (b.Cells.length : Int))) rfl rfl (uF_ 18) (fun hg11 => (Y_ne (k := .i64) (a := (a.Cells.length : Int)) (b := (b.Cells.length : Int)) rfl (gv_of (v := vi (a.Cells.length : Int)) hg11) (gv_of (v := vi (b.Cells.length : Int)) hg11))) ?_
 refine sQ 26 (Y_or (b := ((a.Rows != b.Rows) || (a.Cols != b.Cols))) (z := ((a.Cells.length : Int) != (b.Cells.length : Int))) rfl rfl rfl rfl) (rn ?_)
 refine cw_cond (b := (((a.Rows != b.Rows) || (a.Cols != b.Cols)) || ((a.Cells.length : Int) != (b.Cells.length : Int)))) rfl (fun hb => ?_) (fun hb => ?_)
 ·skip
  have hF1 := ct hF hb
  refine cq (cr ?_)
  refine sQ 4 (yg (.bool false)) (rn (ct_ ?_))
  obtain rfl := sI hF1
  exact ret1 Tryz.results78 (v1 := .bool false) (resAt_tmp rfl) ⟨rfl, (hS2.sN [])⟩
 ·skip
  have hF2 := cf' hF hb
  refine cw_skip (cq (cq (cr ?_)))
  refine sQ 27 (yd (aD b1) 0 0 K23 K8) <| sQ 28 (yl (aD b1) 2 (kM_ a B c) (.slice B a.Cells.length c) K13 (hS2.c 0)) <| sQ 29 (Y_len (B := B) (m := a.Cells.length) (c := c) K7 rfl rfl) <| sQ 30 (ym (vi 0)) (rn ?_)
  obtain ⟨hN, hF2⟩ := chk_inv hF2
  obtain ⟨z, hz, hF3⟩ := bI hF2
  refine cw_block ?_
  refine cw_loop (fun k f w => ∃ (i : Nat), FF f [(2, pt (aD b1) 0), (3, pt (aD b2) 0), (29, vi (a.Cells.length : Int)), (30, vi (i : Int))] ∧ ST w0 [] w [⟨aD b1, 26, kM_ a B c, 3⟩, ⟨aD b2, 26, kM_ b B1 c1, 3⟩] [⟨B, (a.Cells.flatMap eN0)⟩, ⟨B1, (b.Cells.flatMap eN0)⟩] ∧ i + k = a.Cells.length ∧ forX (F_spec_EqualMatrices_l1 a b) k i () = some z) a.Cells.length ⟨0, (fc rfl (fc rfl (fc rfl (fc rfl fn_)))), (hS2.sel [0, 1] rfl rfl), Nat.zero_add _, hz⟩ ?_
  rintro k_ f w ⟨i, hf, hS3, hik, hL⟩
  refine cq (cr ?_)
  refine sQ 31 (yL (i : Int) (a.Cells.length : Int) rfl (hf.g 30 3) (hf.g 29 2)) (rn (cq ?_))
  refine cw_cond (b := (decide ((i : Int) < (a.Cells.length : Int)))) rfl (fun hlt => ?_) (fun hlt => ?_)
  ·skip
   have hlt1 : i < a.Cells.length := by have h := of_decide_eq_true hlt; omega
   obtain ⟨K11, rfl⟩ : ∃ k2, k_ = k2 + 1 := ⟨k_ - 1, by omega⟩
   obtain ⟨y, hb1, hL1⟩ := forX_go hL
   unfold F_spec_EqualMatrices_l1 at hb1
   refine cw_skip (cq (cw_block (cq (cr ?_))))
   refine sQ 32 (ym (vi (i : Int)) rfl (hf.g 30 3)) <| sQ 5 (yg (vi (i : Int))) (rn (cq ?_))
   obtain ⟨x, hx, hb1⟩ := bI hb1
   obtain ⟨x1, hx1, hb1⟩ := bI hb1
   refine ra_start (hS3.se [0, 1]).fn (by kernel_rfl) ?_
   have hS4 := hS3.drew
   refine rq 0 33 (v := pt (aD b1) 2) rfl (hS4.se [0, 1]) (fun w' hw' => (yd (aD b1) 0 0 K23 K8 rfl (hf.g 2 0))) ?_
   refine rq 1 34 (v := .slice B a.Cells.length c) rfl (hS4.se [0, 1]) (fun w' hw' => (yl (aD b1) 2 (kM_ a B c) (.slice B a.Cells.length c) K13 (ST.cf hw' (i := 0) rfl))) ?_
   refine rq 2 35 (v := vi (i : Int)) rfl (hS4.se [0, 1]) (fun w' hw' => (ym (vi (i : Int)))) ?_
   refine rq 3 36 (v := pt B ((i : Int).toNat * 5)) rfl (hS4.se [0, 1]) (fun w' hw' => (Y_index (B := B) (m := a.Cells.length) (c := c) (k := .i64) (i := (i : Int)) K7 K0 rfl rfl rfl (gi_isSome eN2 rfl (ST.rf hw' (i := 0) rfl) hx) (getI_nn hx) (getI_ltI hx rfl))) ?_
   refine rq 4 37 (v := gD_ x) rfl (hS4.se [0, 1]) (fun w' hw' => (ya B ((i : Int).toNat * 5) (a.Cells.flatMap eN0) (kD_ x) K5 K0 (ST.rf hw' (i := 0) rfl) rfl rfl (eN2 x) (gi_seg eN2 hx))) ?_
   refine rq 5 38 (v := pt (aD b2) 2) rfl (hS4.se [0, 1]) (fun w' hw' => (yd (aD b2) 0 0 K23 K8 rfl (hf.g 3 1))) ?_
   refine rq 6 39 (v := .slice B1 b.Cells.length c1) rfl (hS4.se [0, 1]) (fun w' hw' => (yl (aD b2) 2 (kM_ b B1 c1) (.slice B1 b.Cells.length c1) K13 (ST.cf hw' (i := 1) rfl))) ?_
   refine rq 7 40 (v := vi (i : Int)) rfl (hS4.se [0, 1]) (fun w' hw' => (ym (vi (i : Int)))) ?_
   refine rq 8 41 (v := pt B1 ((i : Int).toNat * 5)) rfl (hS4.se [0, 1]) (fun w' hw' => (Y_index (B := B1) (m := b.Cells.length) (c := c1) (k := .i64) (i := (i : Int)) K7 K0 rfl rfl rfl (gi_isSome eN2 rfl (ST.rf hw' (i := 1) rfl) hx1) (getI_nn hx1) (getI_ltI hx1 rfl))) ?_
   refine rq 9 42 (v := gD_ x1) rfl (hS4.se [0, 1]) (fun w' hw' => (ya B1 ((i : Int).toNat * 5) (b.Cells.flatMap eN0) (kD_ x1) K5 K0 (ST.rf hw' (i := 1) rfl) rfl rfl (eN2 x1) (gi_seg eN2 hx1))) ?_
   refine ra_q 10 43 (v := .bool (!(((x.Num.A == x1.Num.A) && ((x.Num.B == x1.Num.B) && ((x.Num.C == x1.Num.C) && ((x.Num.D == x1.Num.D) && true)))) && ((x.Exp == x1.Exp) && true)))) rfl rfl rfl (by kernel_rfl) (by kernel_rfl) (by kernel_rfl) (hS4.se [0, 1]) (fun w' hw' => (Y_neA (xs := #[vi x.Num.A, vi x.Num.B, vi x.Num.C, vi x.Num.D, vi x.Exp]) (ys := #[vi x1.Num.A, vi x1.Num.B, vi x1.Num.C, vi x1.Num.D, vi x1.Exp]) (b := (((x.Num.A == x1.Num.A) && ((x.Num.B == x1.Num.B) && ((x.Num.C == x1.Num.C) && ((x.Num.D == x1.Num.D) && true)))) && ((x.Exp == x1.Exp) && true))) K86 rfl rfl rfl (eqr_struct (xs := kD_ x) (ys := kD_ x1) K87 K88 (pts_ag (us := kR_ x.Num) (vs := kR_ x1.Num) K10 K3 rfl rfl (eqr_struct (xs := kR_ x.Num) (ys := kR_ x1.Num) K89 K90 (pts_sc K1 rfl rfl (eqr_int K24) (pts_sc K1 rfl rfl (eqr_int K24) (pts_sc K1 rfl rfl (eqr_int K24) (pts_sc K1 rfl rfl (eqr_int K24) pts_nil))))) (pts_sc K1 rfl rfl (eqr_int K24) pts_nil))))) ?_
   refine ra_done (by kernel_rfl) ?_
   refine cw_cond (b := (!(((x.Num.A == x1.Num.A) && ((x.Num.B == x1.Num.B) && ((x.Num.C == x1.Num.C) && ((x.Num.D == x1.Num.D) && true)))) && ((x.Exp == x1.Exp) && true)))) rfl (fun hb2 => ?_) (fun hb2 => ?_)
   ·skip
    have hF4 := ct hb1 hb2
    refine cq (cr ?_)
    refine sQ 4 (yg (.bool false)) (rn (ct_ ?_))
    obtain rfl := sI hF4
    obtain rfl := sI hL1
    obtain rfl := sI hF3
    exact ret1 Tryz.results78 (v1 := .bool false) (resAt_tmp rfl) ⟨rfl, (hS4.sN [])⟩
   ·skip
    have hF5 := cf' hb1 hb2
    refine cw_skip (cr ?_)
    refine sQ 44 (yP (i : Int) 1 rfl (hf.g 30 3)) <| sQ 30 (ym (vi (i64.wrap ((i : Int) + 1)))) (rn ?_)
    obtain rfl := sI hF5
    exact ⟨K11, Nat.lt_succ_self _, i + 1, (fc (hf.g 2 0) (fc (hf.g 3 1) (fc (hf.g 29 2) (fc (congrArg (Value.int .i64) (wr_succ hlt1 hN)) fn_)))), (hS4.sel [0, 1] rfl rfl), (by omega), hL1⟩
  ·skip
   obtain rfl : k_ = 0 := by have h := of_decide_eq_false hlt; omega
   refine cw_exit rfl ?_
   obtain rfl := sI hL
   refine cq (cr ?_)
   refine sQ 4 (yg (.bool true)) (rn (ct_ ?_))
   obtain rfl := sI hF3
   exact ret1 Tryz.results78 (v1 := .bool true) (resAt_tmp rfl) ⟨rfl, (hS3.sN [])⟩

theorem c_spec_IsUnitary (m : TMatrix) (B : Option Addr) (c n : Nat) (w0 : World) (hn : m.Cells.length = n) (hS : ST w0 [] w0 [] [⟨B, (m.Cells.flatMap eN0)⟩]) {r_ : Bool} {r_1 : Bool} (hF : F_spec_IsUnitary m = some (r_, r_1)) :
  CV Tryz.prog 38 #[.agg #[vi m.Rows, vi m.Cols, .slice B n c]] w0 (fun v w' => v = .tuple #[.bool r_, .bool r_1] ∧ ST w0 [] w' [] []) := by
 subst hn
 unfold F_spec_IsUnitary at hF
 refine cv_of_cw 32 Tryz.func38 rfl Tryz.ntmps38 rfl ?_
 refine cq (cr ?_)
 refine sS 1 (yB 26 (gM_ m B c) (kM_ m B c) 3 hS) ?_
 rintro _ w_ ⟨b, rfl, hS1⟩
 refine sQ 2 (yg (.bool false)) <| sQ 3 (yg (.bool false)) (rn (cq (cq (cr ?_))))
 refine sQ 6 (yb (aD b) 0 (kM_ m B c) K9 K4 (hS1.c 0)) ?_
 obtain ⟨r_2, hc, hF⟩ := bI hF
 refine sc 7 rfl rfl (yC [gM_ m B c] K130 (c_spec_l3Good m B c m.Cells.length _ rfl (hS1.inn0 [(true, 0)] rfl) hc)) ?_
 rintro _ w_1 ⟨rfl, hd⟩
 have hS2 := hS1.out00 hd
 refine sQ 8 (Y_not (p := r_2) rfl rfl) <| sQ 9 (ym (.bool (!r_2))) ?_
 refine sgq 10 (B := (!(!r_2))) (v := pt (aD b) 0) rfl rfl (uF_ 9) (fun hg => (yd (aD b) 0 0 K28 K2)) ?_
 refine sgq 11 (B := (!(!r_2))) (v := vi m.Rows) rfl rfl (uF_ 9) (fun hg1 => (yl (aD b) 0 (kM_ m B c) (vi m.Rows) K1 (hS2.c 0) rfl (gv_of (v := pt (aD b) 0) hg1))) ?_
 refine sgq 12 (B := (!(!r_2))) (v := pt (aD b) 1) rfl rfl (uF_ 9) (fun hg2 => (yd (aD b) 0 0 K27 K2)) ?_
 refine sgq 13 (B := (!(!r_2))) (v := vi m.Cols) rfl rfl (uF_ 9) (fun hg3 => (yl (aD b) 1 (kM_ m B c) (vi m.Cols) K1 (hS2.c 0) rfl (gv_of (v := pt (aD b) 1) hg3))) ?_
 refine sgq 14 (B := (!(!r_2))) (v := .bool (m.Rows != m.Cols)) rfl rfl (uF_ 9) (fun hg4 => (Y_ne (k := .i64) (a := m.Rows) (b := m.Cols) rfl (gv_of (v := vi m.Rows) hg4) (gv_of (v := vi m.Cols) hg4))) ?_
 refine sQ 15 (Y_or (b := (!r_2)) (z := (m.Rows != m.Cols)) rfl rfl rfl rfl) (rn ?_)
 refine cw_cond (b := ((!r_2) || (m.Rows != m.Cols))) rfl (fun hb => ?_) (fun hb => ?_)
 ·skip
  have hF1 := ct hF hb
  refine cq (cr ?_)
  refine sQ 2 (yg (.bool false)) <| sQ 3 (yg (.bool false)) (rn (ct_ ?_))
  obtain ⟨rfl, rfl⟩ := pr2 (sI hF1)
  exact ret2 Tryz.results38 (v1 := .bool false) (resAt_tmp rfl) (v2 := .bool false) (resAt_tmp rfl) ⟨rfl, (hS2.sN [])⟩
 ·skip
  have hF2 := cf' hF hb
  refine cw_skip (cq (cr ?_))
  refine sQ 16 (Y_buildS (zs := [.bool false]) (vs := []) (cs := [.bool false]) K99 K100 rfl mpn rfl) ?_
  refine sS 17 (yB 48 (.agg #[.bool false]) [.bool false] 1 hS2) ?_
  rintro _ w_2 ⟨b1, rfl, hS3⟩
  refine sQ 4 (yg (pt (aD b1) 0)) (rn (cq ?_))
  obtain ⟨r_3, hc1, hF2⟩ := bI hF2
  obtain ⟨⟨r_4, m1⟩, hc2, hF2⟩ := bI hF2
  refine cw_mid (fun f w => ∃ (B3 : Option Addr) (B4 : Option Addr) (c3 : Nat), FF f [(1, pt (aD b) 0), (4, pt (aD b1) 0), (5, pt B3 0)] ∧ ST w0 [] w [⟨aD b, 26, kM_ m B c, 3⟩, ⟨aD b1, 48, [.bool m1.bad], 1⟩, ⟨B3, 26, kM_ r_4 B4 c3, 3⟩, ⟨B4, 43, (r_4.Cells.flatMap eN0), c3 * 5⟩] [⟨B, (m.Cells.flatMap eN0)⟩]) ?_ ?_
  ·skip
   refine ra_start (hS3.se [0]).fn (by kernel_rfl) ?_
   have hS7 := hS3.drew
   refine rq 0 18 (v := pt (aD b1) 0) rfl (hS7.se [0]) (fun w' hw' => (ym (pt (aD b1) 0))) ?_
   refine rq 1 19 (v := gM_ m B c) rfl (hS7.se [0]) (fun w' hw' => (yb (aD b) 0 (kM_ m B c) K9 K4 (ST.cf hw' (i := 0) rfl))) ?_
   refine rq 2 20 (v := gM_ m B c) rfl (hS7.se [0]) (fun w' hw' => (yb (aD b) 0 (kM_ m B c) K9 K4 (ST.cf hw' (i := 0) rfl))) ?_
   refine rA [3, 5] ?_
   refine rC 21 3 rfl (yC [gM_ m B c] K60 (c_spec_l3Adj m B c m.Cells.length _ rfl (hS7.inn0 [(true, 0)] rfl) hc1)) ?_ ?_
   ·rintro _ w_3 ⟨B1, c1, rfl, hd1⟩
    have hS8 := hS7.out0 hd1
    refine ⟨(hS8.se [0]), ?_⟩
    refine rA [4, 5] ?_
    refine rC 22 4 rfl (yC [pt (aD b1) 0, gM_ m B c, gM_ r_3 B1 c1] K34 (c_spec_l2C_times (Tl2C.mk false) m r_3 (aD b1) B c m.Cells.length B1 c1 r_3.Cells.length _ rfl rfl (hS8.inn [false, true, false] rfl [(true, 0), (false, 1)] rfl) hc2)) ?_ ?_
    ·rintro _ w_4 ⟨B2, c2, rfl, hd2⟩
     have hS9 := hS8.out [false, true, false] rfl hd2
     refine ⟨(hS9.se [0]), ?_⟩
     refine rA [5] ?_
     refine rS 5 5 rfl (yN kN_ 3 hS9 K12) ?_ ?_
     ·rintro _ w_5 ⟨b2, rfl, hS10⟩
      refine ⟨(hS10.se [0]), ?_⟩
      refine rA [6] ?_
      refine rZ 6 rfl (yT 4 3 (aD b2) 26 (gM_ r_4 B2 c2) (kM_ r_4 B2 c2) 0 hS10 K4) ?_ ?_
      ·rintro _ w_6 ⟨rfl, hS11⟩
       refine ⟨(hS11.se [0]), ?_⟩
       refine ra_done (by kernel_rfl) ?_
       exact ⟨aD b2, B2, c2, (fc rfl (fc rfl (fc rfl fn_))), (hS11.sel [0, 2, 4, 3] rfl rfl)⟩
      exact aN
     exact aN
    refine rS 5 5 rfl (yN kN_ 3 hS8 K12) ?_ ?_
    ·rintro _ w_7 ⟨b2, rfl, hS12⟩
     refine ⟨(hS12.se [0]), ?_⟩
     refine rA [4] ?_
     refine rC 22 4 rfl (yC [pt (aD b1) 0, gM_ m B c, gM_ r_3 B1 c1] K34 (c_spec_l2C_times (Tl2C.mk false) m r_3 (aD b1) B c m.Cells.length B1 c1 r_3.Cells.length _ rfl rfl (hS12.inn [false, true, false, false] rfl [(true, 0), (false, 1)] rfl) hc2)) ?_ ?_
     ·rintro _ w_8 ⟨B2, c2, rfl, hd3⟩
      have hS13 := hS12.out [false, true, false, false] rfl hd3
      refine ⟨(hS13.se [0]), ?_⟩
      refine rA [6] ?_
      refine rZ 6 rfl (yT 2 3 (aD b2) 26 (gM_ r_4 B2 c2) (kM_ r_4 B2 c2) 0 hS13 K4) ?_ ?_
      ·rintro _ w_9 ⟨rfl, hS14⟩
       refine ⟨(hS14.se [0]), ?_⟩
       refine ra_done (by kernel_rfl) ?_
       exact ⟨aD b2, B2, c2, (fc rfl (fc rfl (fc rfl fn_))), (hS14.sel [0, 3, 2, 4] rfl rfl)⟩
      exact aN
     exact aN
    exact aN
   refine rS 5 5 rfl (yN kN_ 3 hS7 K12) ?_ ?_
   ·rintro _ w_10 ⟨b2, rfl, hS15⟩
    refine ⟨(hS15.se [0]), ?_⟩
    refine rA [3] ?_
    refine rC 21 3 rfl (yC [gM_ m B c] K60 (c_spec_l3Adj m B c m.Cells.length _ rfl (hS15.inn0 [(true, 0)] rfl) hc1)) ?_ ?_
    ·rintro _ w_11 ⟨B1, c1, rfl, hd4⟩
     have hS16 := hS15.out0 hd4
     refine ⟨(hS16.se [0]), ?_⟩
     refine rA [4] ?_
     refine rC 22 4 rfl (yC [pt (aD b1) 0, gM_ m B c, gM_ r_3 B1 c1] K34 (c_spec_l2C_times (Tl2C.mk false) m r_3 (aD b1) B c m.Cells.length B1 c1 r_3.Cells.length _ rfl rfl (hS16.inn [false, true, false, false] rfl [(true, 0), (false, 2)] rfl) hc2)) ?_ ?_
     ·rintro _ w_12 ⟨B2, c2, rfl, hd5⟩
      have hS17 := hS16.out [false, true, false, false] rfl hd5
      refine ⟨(hS17.se [0]), ?_⟩
      refine rA [6] ?_
      refine rZ 6 rfl (yT 1 3 (aD b2) 26 (gM_ r_4 B2 c2) (kM_ r_4 B2 c2) 0 hS17 K4) ?_ ?_
      ·rintro _ w_13 ⟨rfl, hS18⟩
       refine ⟨(hS18.se [0]), ?_⟩
       refine ra_done (by kernel_rfl) ?_
       exact ⟨aD b2, B2, c2, (fc rfl (fc rfl (fc rfl fn_))), (hS18.sel [0, 3, 1, 4] rfl rfl)⟩
      exact aN
     exact aN
    exact aN
   exact aN
  rintro f w ⟨B3, B4, c3, hf, hS6⟩
  refine cq (cq (cr ?_))
  refine sQ 23 (ym (pt (aD b1) 0) rfl (hf.g 4 1)) <| sQ 24 (Y_nilCheck (B := aD b1) (i := 0) rfl rfl) <| sQ 25 (yd (aD b1) 0 0 K61 K55) <| sQ 26 (yl (aD b1) 0 [.bool m1.bad] (.bool m1.bad) K79 (hS6.c 1)) (rn ?_)
  refine cw_cond (b := m1.bad) rfl (fun hb1 => ?_) (fun hb1 => ?_)
  ·skip
   have hF3 := ct hF2 hb1
   refine cq (cr ?_)
   refine sQ 2 (yg (.bool false)) <| sQ 3 (yg (.bool false)) (rn (ct_ ?_))
   obtain ⟨rfl, rfl⟩ := pr2 (sI hF3)
   exact ret2 Tryz.results38 (v1 := .bool false) (resAt_tmp rfl) (v2 := .bool false) (resAt_tmp rfl) ⟨rfl, (hS6.sN [])⟩
  ·skip
   have hF4 := cf' hF2 hb1
   refine cw_skip (cq ?_)
   obtain ⟨r_5, hc3, hF4⟩ := bI hF4
   obtain ⟨r_6, hc4, hF4⟩ := bI hF4
   refine ra_start (hS6.se [0, 1, 2, 3]).fn (by kernel_rfl) ?_
   have hS21 := hS6.drew
   refine rq 0 27 (v := gM_ r_4 B4 c3) rfl (hS21.se [0, 1, 2, 3]) (fun w' hw' => (yb B3 0 (kM_ r_4 B4 c3) K9 K4 (ST.cf hw' (i := 2) rfl) rfl (hf.g 5 2))) ?_
   refine rq 1 28 (v := pt (aD b) 0) rfl (hS21.se [0, 1, 2, 3]) (fun w' hw' => (yd (aD b) 0 0 K28 K2 rfl (hf.g 1 0))) ?_
   refine rq 2 29 (v := vi m.Rows) rfl (hS21.se [0, 1, 2, 3]) (fun w' hw' => (yl (aD b) 0 (kM_ m B c) (vi m.Rows) K1 (ST.cf hw' (i := 0) rfl))) ?_
   refine rA [3] ?_
   refine rC 30 3 rfl (yC [vi m.Rows] K115 (c_spec_l3Unit m.Rows _  (hS21.inn0 [] rfl) hc3)) ?_ ?_
   ·rintro _ w_14 ⟨B5, c4, rfl, hd6⟩
    have hS22 := hS21.out0 hd6
    refine ⟨(hS22.se [0, 1, 2, 3]), ?_⟩
    refine rA [4] ?_
    refine rC 31 4 rfl (yC [gM_ r_4 B4 c3, gM_ r_5 B5 c4] k_call_78 (c_spec_EqualMatrices r_4 r_5 B4 c3 r_4.Cells.length B5 c4 r_5.Cells.length _ rfl rfl (hS22.inn0 [(false, 3), (false, 4)] rfl) hc4)) ?_ ?_
    ·rintro _ w_15 ⟨rfl, hd7⟩
     have hS23 := hS22.out00 hd7
     refine ⟨(hS23.se [0, 1, 2, 3]), ?_⟩
     refine rq 5 2 (v := .bool r_6) rfl (hS23.se [0, 1, 2, 3]) (fun w' hw' => (yg (.bool r_6))) ?_
     refine rq 6 3 (v := .bool true) rfl (hS23.se [0, 1, 2, 3]) (fun w' hw' => (yg (.bool true))) ?_
     refine ra_done (by kernel_rfl) ?_
     refine ct_ ?_
     obtain ⟨rfl, rfl⟩ := pr2 (sI hF4)
     exact ret2 Tryz.results38 (v1 := .bool r_6) (resAt_tmp rfl) (v2 := .bool true) (resAt_tmp rfl) ⟨rfl, (hS23.sN [])⟩
    exact aN
   exact aN

theorem c_spec_l9Good (m : TMatrix) (B : Option Addr) (c n : Nat) (w0 : World) (hn : m.Cells.length = n) (hS : ST w0 [] w0 [] [⟨B, (m.Cells.flatMap eN0)⟩]) {r_ : Bool} (hF : F_spec_l9Good m = some r_) :
  CV Tryz.prog 17 #[.agg #[vi m.Rows, vi m.Cols, .slice B n c]] w0 (fun v w' => v = .bool r_ ∧ ST w0 [] w' [] []) := by
 subst hn
 unfold F_spec_l9Good at hF
 refine cv_of_cw 19 Tryz.func17 rfl Tryz.ntmps17 rfl ?_
 refine cq (cr ?_)
 refine sS 1 (yB 26 (gM_ m B c) (kM_ m B c) 3 hS) ?_
 rintro _ w_ ⟨b, rfl, hS1⟩
 refine sQ 2 (yg (.bool false)) (rn (cq (cr ?_)))
 refine sQ 6 (yb (aD b) 0 (kM_ m B c) K9 K4 (hS1.c 0)) ?_
 obtain ⟨⟨r_1, r_2⟩, hc, hF⟩ := bI hF
 refine sc 7 rfl rfl (yC [gM_ m B c] k_call_38 (c_spec_IsUnitary m B c m.Cells.length _ rfl (hS1.inn0 [(true, 0)] rfl) hc)) ?_
 rintro _ w_1 ⟨rfl, hd⟩
 have hS2 := hS1.out00 hd
 refine sQ 5 (ym (.tuple #[.bool r_1, .bool r_2])) <| sQ 8 (ye (.bool r_1)) <| sQ 9 (ye (.bool r_2)) <| sQ 3 (yg (.bool r_1)) <| sQ 4 (yg (.bool r_2)) (rn (cq (cr ?_)))
 refine sQ 10 (ym (.bool r_2)) <| sQ 11 (ym (.bool r_2)) ?_
 refine sgq 12 (B := r_2) (v := .bool r_1) rfl rfl (uT_ 11) (fun hg => (ym (.bool r_1))) ?_
 refine sQ 13 (Y_and (b := r_2) (z := r_1) rfl rfl rfl rfl) <| sQ 14 (ym (.bool (r_2 && r_1))) ?_
 refine sgq 15 (B := (r_2 && r_1)) (v := pt (aD b) 0) rfl rfl (uT_ 14) (fun hg1 => (yd (aD b) 0 0 K28 K2)) ?_
 refine sgq 16 (B := (r_2 && r_1)) (v := vi m.Rows) rfl rfl (uT_ 14) (fun hg2 => (yl (aD b) 0 (kM_ m B c) (vi m.Rows) K1 (hS2.c 0) rfl (gv_of (v := pt (aD b) 0) hg2))) ?_
 refine sgq 17 (B := (r_2 && r_1)) (v := .bool (m.Rows == 2)) rfl rfl (uT_ 14) (fun hg3 => (yE m.Rows 2 rfl (gv_of (v := vi m.Rows) hg3))) ?_
 refine sQ 18 (Y_and (b := (r_2 && r_1)) (z := (m.Rows == 2)) rfl rfl rfl rfl) <| sQ 2 (yg (.bool ((r_2 && r_1) && (m.Rows == 2)))) (rn (ct_ ?_))
 obtain rfl := sI hF
 exact ret1 Tryz.results17 (v1 := .bool ((r_2 && r_1) && (m.Rows == 2))) (resAt_tmp rfl) ⟨rfl, (hS2.sN [])⟩

theorem c_spec_l9Pauli (i : Int)  (w0 : World)  (hS : ST w0 [] w0 [] []) {r_ : TMatrix} (hF : F_spec_l9Pauli i = some r_) :
  CV Tryz.prog 39 #[vi i] w0 (fun v w' => ∃ (B : Option Addr) (c : Nat), v = (gM_ r_ B c) ∧ ST w0 [] w' [⟨B, 43, (r_.Cells.flatMap eN0), c * 5⟩] []) := by
 unfold F_spec_l9Pauli at hF
 refine cv_of_cw 7 Tryz.func39 rfl Tryz.ntmps39 rfl ?_
 refine cq (cr ?_)
 refine sS 2 (yN kN_ 3 hS K12) ?_
 rintro _ w_ ⟨b, rfl, hS1⟩
 refine rn (cq (cr ?_))
 refine sQ 3 (ym (vi i)) <| sQ 4 (yP 2 i) ?_
 obtain ⟨r_1, hc, hF⟩ := bI hF
 refine sc 5 rfl rfl (yC [vi (i64.wrap (2 + i))] k_call_80 (c_spec_l6One (i64.wrap (2 + i)) _  (hS1.inn0 [] rfl) hc)) ?_
 rintro _ w_1 ⟨B1, c1, rfl, hd⟩
 have hS2 := hS1.out0 hd
 refine sQ 6 (Y_buildS (zs := kN_) (vs := [(0, vi 2), (1, vi 2), (2, .slice B1 r_1.length c1)]) (cs := [vi 2, vi 2, .slice B1 r_1.length c1]) K42 K12 rfl (mpc rfl (mpc rfl (mpc rfl mpn))) rfl) ?_
 refine s0 (yT 0 3 (aD b) 26 (.agg #[vi 2, vi 2, .slice B1 r_1.length c1]) [vi 2, vi 2, .slice B1 r_1.length c1] 0 hS2 K4) ?_
 rintro _ w_2 ⟨rfl, hS3⟩
 refine rn (ct_ ?_)
 obtain rfl := sI hF
 exact ret1 Tryz.results39 (v1 := .agg #[vi 2, vi 2, .slice B1 r_1.length c1]) (resAt_cellA (B := aD b) (i := 0) (cs := [vi 2, vi 2, .slice B1 r_1.length c1]) (vs := [vi 2, vi 2, .slice B1 r_1.length c1]) rfl K9 K4 (hS3.c 0) rfl rfl) ⟨B1, c1, rfl, (hS3.sN [1])⟩

theorem c_spec_l9Bloch (m : TMatrix) (B : Option Addr) (c n : Nat) (w0 : World) (hn : m.Cells.length = n) (hS : ST w0 [] w0 [] [⟨B, (m.Cells.flatMap eN0)⟩]) {r_ : TBloch} {r_1 : Bool} (hF : F_spec_l9Bloch m = some (r_, r_1)) :
  CV Tryz.prog 18 #[.agg #[vi m.Rows, vi m.Cols, .slice B n c]] w0 (fun v w' => ∃ (B1 : Option Addr) (c1 : Nat), v = .tuple #[gB_ r_ B1 c1, .bool r_1] ∧ ST w0 [] w' [⟨B1, 43, (r_.Cells.flatMap eN0), c1 * 5⟩] []) := by
 subst hn
 unfold F_spec_l9Bloch at hF
 refine cv_of_cw 59 Tryz.func18 rfl Tryz.ntmps18 rfl ?_
 refine cq (cr ?_)
 refine sS 1 (yB 26 (gM_ m B c) (kM_ m B c) 3 hS) ?_
 rintro _ w_ ⟨b, rfl, hS1⟩
 refine sS 2 (yN [.slice none 0 0] 1 hS1 K36) ?_
 rintro _ w_1 ⟨b1, rfl, hS2⟩
 refine sQ 3 (yg (.bool false)) (rn (cq (cr ?_)))
 refine sQ 10 (Y_buildS (zs := [.bool false]) (vs := []) (cs := [.bool false]) K99 K100 rfl mpn rfl) ?_
 refine sS 11 (yB 48 (.agg #[.bool false]) [.bool false] 1 hS2) ?_
 rintro _ w_2 ⟨b2, rfl, hS3⟩
 refine sQ 4 (yg (pt (aD b2) 0)) (rn (cq (cr ?_)))
 refine sS 5 (yN [.slice none 0 0] 1 hS3 K36) ?_
 rintro _ w_3 ⟨b3, rfl, hS4⟩
 refine rn (cq (cq (cr ?_)))
 refine sQ 6 (yg (vi 0)) (rn ?_)
 obtain ⟨z, hz, hF1⟩ := bI hF
 have hS6 := hS4.addNil 43
 refine cw_block ?_
 refine cw_loop (fun k f w => ∃ (i1 : Nat) (bad : Bool) (Cells : List TDyadic) (B2 : Option Addr) (c2 : Nat), FF f [(1, pt (aD b) 0), (2, pt (aD b1) 0), (4, pt (aD b2) 0), (5, pt (aD b3) 0), (6, vi (i1 : Int))] ∧ ST w0 [] w [⟨aD b, 26, kM_ m B c, 3⟩, ⟨aD b1, 29, [.slice none 0 0], 1⟩, ⟨aD b2, 48, [.bool bad], 1⟩, ⟨aD b3, 29, [.slice B2 Cells.length c2], 1⟩, ⟨B2, 43, (Cells.flatMap eN0), c2 * 5⟩] [⟨B, (m.Cells.flatMap eN0)⟩] ∧ i1 + k = 3 ∧ forN (F_spec_l9Bloch_l1 m) k i1 (bad, Cells) = some z) 3 ⟨0, false, [], none, 0, (fc rfl (fc rfl (fc rfl (fc rfl (fc rfl fn_))))), (hS6.sel [0, 1, 2, 3, 4] rfl rfl), Nat.zero_add _, hz⟩ ?_
 rintro k_ f w ⟨i1, bad, Cells, B2, c2, hf, hS5, hik, hL⟩
 refine cq (cq (cr ?_))
 refine sQ 12 (ym (vi (i1 : Int)) rfl (hf.g 6 4)) <| sQ 13 (yL (i1 : Int) 3) (rn ?_)
 refine cw_cond (b := (decide ((i1 : Int) < 3))) rfl (fun hlt => ?_) (fun hlt => ?_)
 ·skip
  have hlt1 : i1 < 3 := by have h := of_decide_eq_true hlt; omega
  obtain ⟨K11, rfl⟩ : ∃ k2, k_ = k2 + 1 := ⟨k_ - 1, by omega⟩
  obtain ⟨y, hb, hL1⟩ := forN_go hL
  unfold F_spec_l9Bloch_l1 at hb
  refine cw_skip (cq (cw_block (cq (cr ?_))))
  refine sQ 7 (yg (vi 0)) (rn ?_)
  obtain ⟨z1, hz1, hF2⟩ := bI hb
  refine cw_block ?_
  refine cw_loop (fun k f w => ∃ (j : Nat) (bad1 : Bool) (Cells1 : List TDyadic) (B3 : Option Addr) (c3 : Nat), FF f [(1, pt (aD b) 0), (2, pt (aD b1) 0), (4, pt (aD b2) 0), (5, pt (aD b3) 0), (6, vi (i1 : Int)), (7, vi (j : Int))] ∧ ST w0 [] w [⟨aD b, 26, kM_ m B c, 3⟩, ⟨aD b1, 29, [.slice none 0 0], 1⟩, ⟨aD b2, 48, [.bool bad1], 1⟩, ⟨aD b3, 29, [.slice B3 Cells1.length c3], 1⟩, ⟨B3, 43, (Cells1.flatMap eN0), c3 * 5⟩] [⟨B, (m.Cells.flatMap eN0)⟩] ∧ j + k = 3 ∧ forN (F_spec_l9Bloch_l2 i1 m Cells bad) k j (bad1, Cells1) = some z1) 3 ⟨0, bad, Cells, B2, c2, (fc (hf.g 1 0) (fc (hf.g 2 1) (fc (hf.g 4 2) (fc (hf.g 5 3) (fc (hf.g 6 4) (fc rfl fn_)))))), (hS5.sel [0, 1, 2, 3, 4] rfl rfl), Nat.zero_add _, hz1⟩ ?_
  rintro K15 f w ⟨j, bad1, Cells1, B3, c3, hf1, hS7, hik1, hL2⟩
  refine cq (cq (cr ?_))
  refine sQ 16 (ym (vi (j : Int)) rfl (hf1.g 7 5)) <| sQ 17 (yL (j : Int) 3) (rn ?_)
  refine cw_cond (b := (decide ((j : Int) < 3))) rfl (fun hlt2 => ?_) (fun hlt2 => ?_)
  ·skip
   have hlt3 : j < 3 := by have h := of_decide_eq_true hlt2; omega
   obtain ⟨K29, rfl⟩ : ∃ k2, K15 = k2 + 1 := ⟨K15 - 1, by omega⟩
   obtain ⟨y1, hb1, hL3⟩ := forN_go hL2
   unfold F_spec_l9Bloch_l2 at hb1
   refine cw_skip (cq (cw_block (cq ?_)))
   obtain ⟨r_2, hc, hb1⟩ := bI hb1
   obtain ⟨⟨r_3, m1⟩, hc1, hb1⟩ := bI hb1
   obtain ⟨r_4, hc2, hb1⟩ := bI hb1
   obtain ⟨⟨r_5, m2⟩, hc3, hb1⟩ := bI hb1
   obtain ⟨r_6, hc4, hb1⟩ := bI hb1
   obtain ⟨⟨r_7, m3⟩, hc5, hb1⟩ := bI hb1
   refine cw_mid (fun f w => ∃ (B10 : Option Addr) (B11 : Option Addr) (c10 : Nat), FF f [(1, pt (aD b) 0), (2, pt (aD b1) 0), (4, pt (aD b2) 0), (5, pt (aD b3) 0), (6, vi (i1 : Int)), (7, vi (j : Int)), (8, pt B10 0)] ∧ ST w0 [] w [⟨aD b, 26, kM_ m B c, 3⟩, ⟨aD b1, 29, [.slice none 0 0], 1⟩, ⟨aD b2, 48, [.bool m3.bad], 1⟩, ⟨aD b3, 29, [.slice B3 Cells1.length c3], 1⟩, ⟨B3, 43, (Cells1.flatMap eN0), c3 * 5⟩, ⟨B10, 26, kM_ r_7 B11 c10, 3⟩, ⟨B11, 43, (r_7.Cells.flatMap eN0), c10 * 5⟩] [⟨B, (m.Cells.flatMap eN0)⟩]) ?_ ?_
   ·skip
    refine ra_start (hS7.se [0, 1, 3, 4]).fn (by kernel_rfl) ?_
    have hS15 := hS7.drew
    refine rq 0 20 (v := pt (aD b2) 0) rfl (hS15.se [0, 1, 3, 4]) (fun w' hw' => (ym (pt (aD b2) 0) rfl (hf1.g 4 2))) ?_
    refine rq 1 21 (v := pt (aD b2) 0) rfl (hS15.se [0, 1, 3, 4]) (fun w' hw' => (ym (pt (aD b2) 0) rfl (hf1.g 4 2))) ?_
    refine rq 2 22 (v := pt (aD b2) 0) rfl (hS15.se [0, 1, 3, 4]) (fun w' hw' => (ym (pt (aD b2) 0) rfl (hf1.g 4 2))) ?_
    refine rq 3 23 (v := vi (i1 : Int)) rfl (hS15.se [0, 1, 3, 4]) (fun w' hw' => (ym (vi (i1 : Int)) rfl (hf1.g 6 4))) ?_
    refine rq 5 25 (v := gM_ m B c) rfl (hS15.se [0, 1, 3, 4]) (fun w' hw' => (yb (aD b) 0 (kM_ m B c) K9 K4 (ST.cf hw' (i := 0) rfl) rfl (hf1.g 1 0))) ?_
    refine rq 7 27 (v := vi (j : Int)) rfl (hS15.se [0, 1, 3, 4]) (fun w' hw' => (ym (vi (j : Int)) rfl (hf1.g 7 5))) ?_
    refine rq 10 30 (v := gM_ m B c) rfl (hS15.se [0, 1, 3, 4]) (fun w' hw' => (yb (aD b) 0 (kM_ m B c) K9 K4 (ST.cf hw' (i := 0) rfl) rfl (hf1.g 1 0))) ?_
    refine rA [4, 13] ?_
    refine rC 24 4 rfl (yC [vi (i1 : Int)] K76 (c_spec_l9Pauli (i1 : Int) _  (hS15.inn0 [] rfl) hc)) ?_ ?_
    ·rintro _ w_4 ⟨B4, c4, rfl, hd⟩
     have hS16 := hS15.out0 hd
     refine ⟨(hS16.se [0, 1, 3, 4]), ?_⟩
     refine rA [6, 13] ?_
     refine rC 26 6 rfl (yC [pt (aD b2) 0, gM_ r_2 B4 c4, gM_ m B c] K34 (c_spec_l2C_times (Tl2C.mk bad1) r_2 m (aD b2) B4 c4 r_2.Cells.length B c m.Cells.length _ rfl rfl (hS16.inn [false, false, true, false, false, false] rfl [(false, 4), (true, 0)] rfl) hc1)) ?_ ?_
     ·rintro _ w_5 ⟨B5, c5, rfl, hd1⟩
      have hS17 := hS16.out [false, false, true, false, false, false] rfl hd1
      refine ⟨(hS17.se [0, 1, 2, 3]), ?_⟩
      refine rA [8, 13] ?_
      refine rC 28 8 rfl (yC [vi (j : Int)] K76 (c_spec_l9Pauli (j : Int) _  (hS17.inn0 [] rfl) hc2)) ?_ ?_
      ·rintro _ w_6 ⟨B6, c6, rfl, hd2⟩
       have hS18 := hS17.out0 hd2
       refine ⟨(hS18.se [0, 1, 2, 3]), ?_⟩
       refine rA [9, 13] ?_
       refine rC 29 9 rfl (yC [pt (aD b2) 0, gM_ r_3 B5 c5, gM_ r_4 B6 c6] K34 (c_spec_l2C_times m1 r_3 r_4 (aD b2) B5 c5 r_3.Cells.length B6 c6 r_4.Cells.length _ rfl rfl (hS18.inn [false, false, false, false, false, true, false, false] rfl [(false, 5), (false, 6)] rfl) hc3)) ?_ ?_
       ·rintro _ w_7 ⟨B7, c7, rfl, hd3⟩
        have hS19 := hS18.out [false, false, false, false, false, true, false, false] rfl hd3
        refine ⟨(hS19.se [0, 1, 2, 3]), ?_⟩
        refine rA [11, 13] ?_
        refine rC 31 11 rfl (yC [gM_ m B c] K60 (c_spec_l3Adj m B c m.Cells.length _ rfl (hS19.inn0 [(true, 0)] rfl) hc4)) ?_ ?_
        ·rintro _ w_8 ⟨B8, c8, rfl, hd4⟩
         have hS20 := hS19.out0 hd4
         refine ⟨(hS20.se [0, 1, 2, 3]), ?_⟩
         refine rA [12, 13] ?_
         refine rC 32 12 rfl (yC [pt (aD b2) 0, gM_ r_5 B7 c7, gM_ r_6 B8 c8] K34 (c_spec_l2C_times m2 r_5 r_6 (aD b2) B7 c7 r_5.Cells.length B8 c8 r_6.Cells.length _ rfl rfl (hS20.inn [false, false, false, false, false, false, false, true, false, false] rfl [(false, 7), (false, 8)] rfl) hc5)) ?_ ?_
         ·rintro _ w_9 ⟨B9, c9, rfl, hd5⟩
          have hS21 := hS20.out [false, false, false, false, false, false, false, true, false, false] rfl hd5
          refine ⟨(hS21.se [0, 1, 2, 3]), ?_⟩
          refine rA [13] ?_
          refine rS 8 13 rfl (yN kN_ 3 hS21 K12) ?_ ?_
          ·rintro _ w_10 ⟨b4, rfl, hS22⟩
           refine ⟨(hS22.se [0, 1, 2, 3]), ?_⟩
           refine rA [14] ?_
           refine rZ 14 rfl (yT 11 3 (aD b4) 26 (gM_ r_7 B9 c9) (kM_ r_7 B9 c9) 0 hS22 K4) ?_ ?_
           ·rintro _ w_11 ⟨rfl, hS23⟩
            refine ⟨(hS23.se [0, 1, 2, 3]), ?_⟩
            refine ra_done (by kernel_rfl) ?_
            exact ⟨aD b4, B9, c9, (fc (hf1.g 1 0) (fc (hf1.g 2 1) (fc (hf1.g 4 2) (fc (hf1.g 5 3) (fc (hf1.g 6 4) (fc (hf1.g 7 5) (fc rfl fn_))))))), (hS23.sel [0, 1, 9, 2, 3, 11, 10] rfl rfl)⟩
           exact aN
          exact aN
         refine rS 8 13 rfl (yN kN_ 3 hS20 K12) ?_ ?_
         ·rintro _ w_12 ⟨b4, rfl, hS24⟩
          refine ⟨(hS24.se [0, 1, 2, 3]), ?_⟩
          refine rA [12] ?_
          refine rC 32 12 rfl (yC [pt (aD b2) 0, gM_ r_5 B7 c7, gM_ r_6 B8 c8] K34 (c_spec_l2C_times m2 r_5 r_6 (aD b2) B7 c7 r_5.Cells.length B8 c8 r_6.Cells.length _ rfl rfl (hS24.inn [false, false, false, false, false, false, false, true, false, false, false] rfl [(false, 7), (false, 8)] rfl) hc5)) ?_ ?_
          ·rintro _ w_13 ⟨B9, c9, rfl, hd6⟩
           have hS25 := hS24.out [false, false, false, false, false, false, false, true, false, false, false] rfl hd6
           refine ⟨(hS25.se [0, 1, 2, 3]), ?_⟩
           refine rA [14] ?_
           refine rZ 14 rfl (yT 9 3 (aD b4) 26 (gM_ r_7 B9 c9) (kM_ r_7 B9 c9) 0 hS25 K4) ?_ ?_
           ·rintro _ w_14 ⟨rfl, hS26⟩
            refine ⟨(hS26.se [0, 1, 2, 3]), ?_⟩
            refine ra_done (by kernel_rfl) ?_
            exact ⟨aD b4, B9, c9, (fc (hf1.g 1 0) (fc (hf1.g 2 1) (fc (hf1.g 4 2) (fc (hf1.g 5 3) (fc (hf1.g 6 4) (fc (hf1.g 7 5) (fc rfl fn_))))))), (hS26.sel [0, 1, 10, 2, 3, 9, 11] rfl rfl)⟩
           exact aN
          exact aN
         exact aN
        refine rS 8 13 rfl (yN kN_ 3 hS19 K12) ?_ ?_
        ·rintro _ w_15 ⟨b4, rfl, hS27⟩
         refine ⟨(hS27.se [0, 1, 2, 3]), ?_⟩
         refine rA [11] ?_
         refine rC 31 11 rfl (yC [gM_ m B c] K60 (c_spec_l3Adj m B c m.Cells.length _ rfl (hS27.inn0 [(true, 0)] rfl) hc4)) ?_ ?_
         ·rintro _ w_16 ⟨B8, c8, rfl, hd7⟩
          have hS28 := hS27.out0 hd7
          refine ⟨(hS28.se [0, 1, 2, 3]), ?_⟩
          refine rA [12] ?_
          refine rC 32 12 rfl (yC [pt (aD b2) 0, gM_ r_5 B7 c7, gM_ r_6 B8 c8] K34 (c_spec_l2C_times m2 r_5 r_6 (aD b2) B7 c7 r_5.Cells.length B8 c8 r_6.Cells.length _ rfl rfl (hS28.inn [false, false, false, false, false, false, false, true, false, false, false] rfl [(false, 7), (false, 9)] rfl) hc5)) ?_ ?_
          ·rintro _ w_17 ⟨B9, c9, rfl, hd8⟩
           have hS29 := hS28.out [false, false, false, false, false, false, false, true, false, false, false] rfl hd8
           refine ⟨(hS29.se [0, 1, 2, 3]), ?_⟩
           refine rA [14] ?_
           refine rZ 14 rfl (yT 8 3 (aD b4) 26 (gM_ r_7 B9 c9) (kM_ r_7 B9 c9) 0 hS29 K4) ?_ ?_
           ·rintro _ w_18 ⟨rfl, hS30⟩
            refine ⟨(hS30.se [0, 1, 2, 3]), ?_⟩
            refine ra_done (by kernel_rfl) ?_
            exact ⟨aD b4, B9, c9, (fc (hf1.g 1 0) (fc (hf1.g 2 1) (fc (hf1.g 4 2) (fc (hf1.g 5 3) (fc (hf1.g 6 4) (fc (hf1.g 7 5) (fc rfl fn_))))))), (hS30.sel [0, 1, 10, 2, 3, 8, 11] rfl rfl)⟩
           exact aN
          exact aN
         exact aN
        exact aN
       refine rS 8 13 rfl (yN kN_ 3 hS18 K12) ?_ ?_
       ·rintro _ w_19 ⟨b4, rfl, hS31⟩
        refine ⟨(hS31.se [0, 1, 2, 3]), ?_⟩
        refine rA [9] ?_
        refine rC 29 9 rfl (yC [pt (aD b2) 0, gM_ r_3 B5 c5, gM_ r_4 B6 c6] K34 (c_spec_l2C_times m1 r_3 r_4 (aD b2) B5 c5 r_3.Cells.length B6 c6 r_4.Cells.length _ rfl rfl (hS31.inn [false, false, false, false, false, true, false, false, false] rfl [(false, 5), (false, 6)] rfl) hc3)) ?_ ?_
        ·rintro _ w_20 ⟨B7, c7, rfl, hd9⟩
         have hS32 := hS31.out [false, false, false, false, false, true, false, false, false] rfl hd9
         refine ⟨(hS32.se [0, 1, 2, 3]), ?_⟩
         refine rA [11] ?_
         refine rC 31 11 rfl (yC [gM_ m B c] K60 (c_spec_l3Adj m B c m.Cells.length _ rfl (hS32.inn0 [(true, 0)] rfl) hc4)) ?_ ?_
         ·rintro _ w_21 ⟨B8, c8, rfl, hd10⟩
          have hS33 := hS32.out0 hd10
          refine ⟨(hS33.se [0, 1, 2, 3]), ?_⟩
          refine rA [12] ?_
          refine rC 32 12 rfl (yC [pt (aD b2) 0, gM_ r_5 B7 c7, gM_ r_6 B8 c8] K34 (c_spec_l2C_times m2 r_5 r_6 (aD b2) B7 c7 r_5.Cells.length B8 c8 r_6.Cells.length _ rfl rfl (hS33.inn [false, false, false, false, false, false, false, false, true, false, false] rfl [(false, 8), (false, 9)] rfl) hc5)) ?_ ?_
          ·rintro _ w_22 ⟨B9, c9, rfl, hd11⟩
           have hS34 := hS33.out [false, false, false, false, false, false, false, false, true, false, false] rfl hd11
           refine ⟨(hS34.se [0, 1, 2, 3]), ?_⟩
           refine rA [14] ?_
           refine rZ 14 rfl (yT 7 3 (aD b4) 26 (gM_ r_7 B9 c9) (kM_ r_7 B9 c9) 0 hS34 K4) ?_ ?_
           ·rintro _ w_23 ⟨rfl, hS35⟩
            refine ⟨(hS35.se [0, 1, 2, 3]), ?_⟩
            refine ra_done (by kernel_rfl) ?_
            exact ⟨aD b4, B9, c9, (fc (hf1.g 1 0) (fc (hf1.g 2 1) (fc (hf1.g 4 2) (fc (hf1.g 5 3) (fc (hf1.g 6 4) (fc (hf1.g 7 5) (fc rfl fn_))))))), (hS35.sel [0, 1, 10, 2, 3, 7, 11] rfl rfl)⟩
           exact aN
          exact aN
         exact aN
        exact aN
       exact aN
      refine rS 8 13 rfl (yN kN_ 3 hS17 K12) ?_ ?_
      ·rintro _ w_24 ⟨b4, rfl, hS36⟩
       refine ⟨(hS36.se [0, 1, 2, 3]), ?_⟩
       refine rA [8] ?_
       refine rC 28 8 rfl (yC [vi (j : Int)] K76 (c_spec_l9Pauli (j : Int) _  (hS36.inn0 [] rfl) hc2)) ?_ ?_
       ·rintro _ w_25 ⟨B6, c6, rfl, hd12⟩
        have hS37 := hS36.out0 hd12
        refine ⟨(hS37.se [0, 1, 2, 3]), ?_⟩
        refine rA [9] ?_
        refine rC 29 9 rfl (yC [pt (aD b2) 0, gM_ r_3 B5 c5, gM_ r_4 B6 c6] K34 (c_spec_l2C_times m1 r_3 r_4 (aD b2) B5 c5 r_3.Cells.length B6 c6 r_4.Cells.length _ rfl rfl (hS37.inn [false, false, false, false, false, true, false, false, false] rfl [(false, 5), (false, 7)] rfl) hc3)) ?_ ?_
        ·rintro _ w_26 ⟨B7, c7, rfl, hd13⟩
         have hS38 := hS37.out [false, false, false, false, false, true, false, false, false] rfl hd13
         refine ⟨(hS38.se [0, 1, 2, 3]), ?_⟩
         refine rA [11] ?_
         refine rC 31 11 rfl (yC [gM_ m B c] K60 (c_spec_l3Adj m B c m.Cells.length _ rfl (hS38.inn0 [(true, 0)] rfl) hc4)) ?_ ?_
         ·rintro _ w_27 ⟨B8, c8, rfl, hd14⟩
          have hS39 := hS38.out0 hd14
          refine ⟨(hS39.se [0, 1, 2, 3]), ?_⟩
          refine rA [12] ?_
          refine rC 32 12 rfl (yC [pt (aD b2) 0, gM_ r_5 B7 c7, gM_ r_6 B8 c8] K34 (c_spec_l2C_times m2 r_5 r_6 (aD b2) B7 c7 r_5.Cells.length B8 c8 r_6.Cells.length _ rfl rfl (hS39.inn [false, false, false, false, false, false, false, false, true, false, false] rfl [(false, 8), (false, 9)] rfl) hc5)) ?_ ?_
          ·rintro _ w_28 ⟨B9, c9, rfl, hd15⟩
           have hS40 := hS39.out [false, false, false, false, false, false, false, false, true, false, false] rfl hd15
           refine ⟨(hS40.se [0, 1, 2, 3]), ?_⟩
           refine rA [14] ?_
           refine rZ 14 rfl (yT 6 3 (aD b4) 26 (gM_ r_7 B9 c9) (kM_ r_7 B9 c9) 0 hS40 K4) ?_ ?_
           ·rintro _ w_29 ⟨rfl, hS41⟩
            refine ⟨(hS41.se [0, 1, 2, 3]), ?_⟩
            refine ra_done (by kernel_rfl) ?_
            exact ⟨aD b4, B9, c9, (fc (hf1.g 1 0) (fc (hf1.g 2 1) (fc (hf1.g 4 2) (fc (hf1.g 5 3) (fc (hf1.g 6 4) (fc (hf1.g 7 5) (fc rfl fn_))))))), (hS41.sel [0, 1, 10, 2, 3, 6, 11] rfl rfl)⟩
           exact aN
          exact aN
         exact aN
        exact aN
       exact aN
      exact aN
     refine rS 8 13 rfl (yN kN_ 3 hS16 K12) ?_ ?_
     ·rintro _ w_30 ⟨b4, rfl, hS42⟩
      have hS42 : ST w0 [] _ [⟨aD b, 26, kM_ m B c, 3⟩, ⟨aD b1, 29, [.slice none 0 0], 1⟩, ⟨aD b2, 48, [.bool bad1], 1⟩, ⟨aD b3, 29, [.slice B3 Cells1.length c3], 1⟩, ⟨B3, 43, (Cells1.flatMap eN0), c3 * 5⟩, ⟨B4, 43, (r_2.Cells.flatMap eN0), c4 * 5⟩, ⟨aD b4, 26, kN_, 3⟩] [⟨B, (m.Cells.flatMap eN0)⟩] := hS42
      refine ⟨(hS42.se [0, 1, 3, 4]), ?_⟩
      refine rA [6] ?_
      refine rC 26 6 rfl (yC [pt (aD b2) 0, gM_ r_2 B4 c4, gM_ m B c] K34 (c_spec_l2C_times (Tl2C.mk bad1) r_2 m (aD b2) B4 c4 r_2.Cells.length B c m.Cells.length _ rfl rfl (hS42.inn [false, false, true, false, false, false, false] rfl [(false, 4), (true, 0)] rfl) hc1)) ?_ ?_
      ·rintro _ w_31 ⟨B5, c5, rfl, hd16⟩
       have hS43 := hS42.out [false, false, true, false, false, false, false] rfl hd16
       refine ⟨(hS43.se [0, 1, 2, 3]), ?_⟩
       refine rA [8] ?_
       refine rC 28 8 rfl (yC [vi (j : Int)] K76 (c_spec_l9Pauli (j : Int) _  (hS43.inn0 [] rfl) hc2)) ?_ ?_
       ·rintro _ w_32 ⟨B6, c6, rfl, hd17⟩
        have hS44 := hS43.out0 hd17
        refine ⟨(hS44.se [0, 1, 2, 3]), ?_⟩
        refine rA [9] ?_
        refine rC 29 9 rfl (yC [pt (aD b2) 0, gM_ r_3 B5 c5, gM_ r_4 B6 c6] K34 (c_spec_l2C_times m1 r_3 r_4 (aD b2) B5 c5 r_3.Cells.length B6 c6 r_4.Cells.length _ rfl rfl (hS44.inn [false, false, false, false, false, false, true, false, false] rfl [(false, 6), (false, 7)] rfl) hc3)) ?_ ?_
        ·rintro _ w_33 ⟨B7, c7, rfl, hd18⟩
         have hS45 := hS44.out [false, false, false, false, false, false, true, false, false] rfl hd18
         refine ⟨(hS45.se [0, 1, 2, 3]), ?_⟩
         refine rA [11] ?_
         refine rC 31 11 rfl (yC [gM_ m B c] K60 (c_spec_l3Adj m B c m.Cells.length _ rfl (hS45.inn0 [(true, 0)] rfl) hc4)) ?_ ?_
         ·rintro _ w_34 ⟨B8, c8, rfl, hd19⟩
          have hS46 := hS45.out0 hd19
          refine ⟨(hS46.se [0, 1, 2, 3]), ?_⟩
          refine rA [12] ?_
          refine rC 32 12 rfl (yC [pt (aD b2) 0, gM_ r_5 B7 c7, gM_ r_6 B8 c8] K34 (c_spec_l2C_times m2 r_5 r_6 (aD b2) B7 c7 r_5.Cells.length B8 c8 r_6.Cells.length _ rfl rfl (hS46.inn [false, false, false, false, false, false, false, false, true, false, false] rfl [(false, 8), (false, 9)] rfl) hc5)) ?_ ?_
          ·rintro _ w_35 ⟨B9, c9, rfl, hd20⟩
           have hS47 := hS46.out [false, false, false, false, false, false, false, false, true, false, false] rfl hd20
           refine ⟨(hS47.se [0, 1, 2, 3]), ?_⟩
           refine rA [14] ?_
           refine rZ 14 rfl (yT 5 3 (aD b4) 26 (gM_ r_7 B9 c9) (kM_ r_7 B9 c9) 0 hS47 K4) ?_ ?_
           ·rintro _ w_36 ⟨rfl, hS48⟩
            refine ⟨(hS48.se [0, 1, 2, 3]), ?_⟩
            refine ra_done (by kernel_rfl) ?_
            exact ⟨aD b4, B9, c9, (fc (hf1.g 1 0) (fc (hf1.g 2 1) (fc (hf1.g 4 2) (fc (hf1.g 5 3) (fc (hf1.g 6 4) (fc (hf1.g 7 5) (fc rfl fn_))))))), (hS48.sel [0, 1, 10, 2, 3, 5, 11] rfl rfl)⟩
           exact aN
          exact aN
         exact aN
        exact aN
       exact aN
      exact aN
     exact aN
    refine rS 8 13 rfl (yN kN_ 3 hS15 K12) ?_ ?_
    ·rintro _ w_37 ⟨b4, rfl, hS49⟩
     refine ⟨(hS49.se [0, 1, 3, 4]), ?_⟩
     refine rA [4] ?_
     refine rC 24 4 rfl (yC [vi (i1 : Int)] K76 (c_spec_l9Pauli (i1 : Int) _  (hS49.inn0 [] rfl) hc)) ?_ ?_
     ·rintro _ w_38 ⟨B4, c4, rfl, hd21⟩
      have hS50 := hS49.out0 hd21
      refine ⟨(hS50.se [0, 1, 3, 4]), ?_⟩
      refine rA [6] ?_
      refine rC 26 6 rfl (yC [pt (aD b2) 0, gM_ r_2 B4 c4, gM_ m B c] K34 (c_spec_l2C_times (Tl2C.mk bad1) r_2 m (aD b2) B4 c4 r_2.Cells.length B c m.Cells.length _ rfl rfl (hS50.inn [false, false, true, false, false, false, false] rfl [(false, 5), (true, 0)] rfl) hc1)) ?_ ?_
      ·rintro _ w_39 ⟨B5, c5, rfl, hd22⟩
       have hS51 := hS50.out [false, false, true, false, false, false, false] rfl hd22
       refine ⟨(hS51.se [0, 1, 2, 3]), ?_⟩
       refine rA [8] ?_
       refine rC 28 8 rfl (yC [vi (j : Int)] K76 (c_spec_l9Pauli (j : Int) _  (hS51.inn0 [] rfl) hc2)) ?_ ?_
       ·rintro _ w_40 ⟨B6, c6, rfl, hd23⟩
        have hS52 := hS51.out0 hd23
        refine ⟨(hS52.se [0, 1, 2, 3]), ?_⟩
        refine rA [9] ?_
        refine rC 29 9 rfl (yC [pt (aD b2) 0, gM_ r_3 B5 c5, gM_ r_4 B6 c6] K34 (c_spec_l2C_times m1 r_3 r_4 (aD b2) B5 c5 r_3.Cells.length B6 c6 r_4.Cells.length _ rfl rfl (hS52.inn [false, false, false, false, false, false, true, false, false] rfl [(false, 6), (false, 7)] rfl) hc3)) ?_ ?_
        ·rintro _ w_41 ⟨B7, c7, rfl, hd24⟩
         have hS53 := hS52.out [false, false, false, false, false, false, true, false, false] rfl hd24
         refine ⟨(hS53.se [0, 1, 2, 3]), ?_⟩
         refine rA [11] ?_
         refine rC 31 11 rfl (yC [gM_ m B c] K60 (c_spec_l3Adj m B c m.Cells.length _ rfl (hS53.inn0 [(true, 0)] rfl) hc4)) ?_ ?_
         ·rintro _ w_42 ⟨B8, c8, rfl, hd25⟩
          have hS54 := hS53.out0 hd25
          refine ⟨(hS54.se [0, 1, 2, 3]), ?_⟩
          refine rA [12] ?_
          refine rC 32 12 rfl (yC [pt (aD b2) 0, gM_ r_5 B7 c7, gM_ r_6 B8 c8] K34 (c_spec_l2C_times m2 r_5 r_6 (aD b2) B7 c7 r_5.Cells.length B8 c8 r_6.Cells.length _ rfl rfl (hS54.inn [false, false, false, false, false, false, false, false, true, false, false] rfl [(false, 8), (false, 9)] rfl) hc5)) ?_ ?_
          ·rintro _ w_43 ⟨B9, c9, rfl, hd26⟩
           have hS55 := hS54.out [false, false, false, false, false, false, false, false, true, false, false] rfl hd26
           refine ⟨(hS55.se [0, 1, 2, 3]), ?_⟩
           refine rA [14] ?_
           refine rZ 14 rfl (yT 4 3 (aD b4) 26 (gM_ r_7 B9 c9) (kM_ r_7 B9 c9) 0 hS55 K4) ?_ ?_
           ·rintro _ w_44 ⟨rfl, hS56⟩
            refine ⟨(hS56.se [0, 1, 2, 3]), ?_⟩
            refine ra_done (by kernel_rfl) ?_
            exact ⟨aD b4, B9, c9, (fc (hf1.g 1 0) (fc (hf1.g 2 1) (fc (hf1.g 4 2) (fc (hf1.g 5 3) (fc (hf1.g 6 4) (fc (hf1.g 7 5) (fc rfl fn_))))))), (hS56.sel [0, 1, 10, 2, 3, 4, 11] rfl rfl)⟩
           exact aN
          exact aN
         exact aN
        exact aN
       exact aN
      exact aN
     exact aN
    exact aN
   rintro f w ⟨B10, B11, c10, hf2, hS14⟩
   refine cq ?_
   obtain ⟨x, hx, hb1⟩ := bI hb1
   obtain ⟨x1, hx1, hb1⟩ := bI hb1
   obtain ⟨⟨r_8, m4⟩, hc6, hb1⟩ := bI hb1
   refine cw_mid (fun f w => ∃ (B12 : Option Addr), FF f [(1, pt (aD b) 0), (2, pt (aD b1) 0), (4, pt (aD b2) 0), (5, pt (aD b3) 0), (6, vi (i1 : Int)), (7, vi (j : Int)), (9, pt B12 0)] ∧ ST w0 [] w [⟨aD b, 26, kM_ m B c, 3⟩, ⟨aD b1, 29, [.slice none 0 0], 1⟩, ⟨aD b2, 48, [.bool m4.bad], 1⟩, ⟨aD b3, 29, [.slice B3 Cells1.length c3], 1⟩, ⟨B3, 43, (Cells1.flatMap eN0), c3 * 5⟩, ⟨B12, 43, kD_ r_8, 5⟩] [⟨B, (m.Cells.flatMap eN0)⟩]) ?_ ?_
   ·skip
    refine ra_start (hS14.se [0, 1, 3, 4, 5, 6]).fn (by kernel_rfl) ?_
    have hS59 := hS14.drew
    refine rq 0 33 (v := pt (aD b2) 0) rfl (hS59.se [0, 1, 3, 4, 5, 6]) (fun w' hw' => (ym (pt (aD b2) 0) rfl (hf2.g 4 2))) ?_
    refine rq 1 34 (v := pt B10 2) rfl (hS59.se [0, 1, 3, 4, 5, 6]) (fun w' hw' => (yd B10 0 0 K23 K8 rfl (hf2.g 8 6))) ?_
    refine rq 2 35 (v := .slice B11 r_7.Cells.length c10) rfl (hS59.se [0, 1, 3, 4, 5, 6]) (fun w' hw' => (yl B10 2 (kM_ r_7 B11 c10) (.slice B11 r_7.Cells.length c10) K13 (ST.cf hw' (i := 4) rfl))) ?_
    refine rq 3 36 (v := pt B11 ((0 : Int).toNat * 5)) rfl (hS59.se [0, 1, 3, 4, 5, 6]) (fun w' hw' => (Y_index (B := B11) (m := r_7.Cells.length) (c := c10) (k := .i64) (i := 0) K7 K0 rfl rfl rfl (gi_isSome eN2 rfl (ST.cf hw' (i := 5) rfl) hx) (getI_nn hx) (getI_ltI hx rfl))) ?_
    refine rq 4 37 (v := gD_ x) rfl (hS59.se [0, 1, 3, 4, 5, 6]) (fun w' hw' => (ya B11 ((0 : Int).toNat * 5) (r_7.Cells.flatMap eN0) (kD_ x) K5 K0 (ST.cf hw' (i := 5) rfl) rfl rfl (eN2 x) (gi_seg eN2 hx))) ?_
    refine rq 5 38 (v := pt B10 2) rfl (hS59.se [0, 1, 3, 4, 5, 6]) (fun w' hw' => (yd B10 0 0 K23 K8 rfl (hf2.g 8 6))) ?_
    refine rq 6 39 (v := .slice B11 r_7.Cells.length c10) rfl (hS59.se [0, 1, 3, 4, 5, 6]) (fun w' hw' => (yl B10 2 (kM_ r_7 B11 c10) (.slice B11 r_7.Cells.length c10) K13 (ST.cf hw' (i := 4) rfl))) ?_
    refine rq 7 40 (v := pt B11 ((3 : Int).toNat * 5)) rfl (hS59.se [0, 1, 3, 4, 5, 6]) (fun w' hw' => (Y_index (B := B11) (m := r_7.Cells.length) (c := c10) (k := .i64) (i := 3) K7 K0 rfl rfl rfl (gi_isSome eN2 rfl (ST.cf hw' (i := 5) rfl) hx1) (getI_nn hx1) (getI_ltI hx1 rfl))) ?_
    refine rq 8 41 (v := gD_ x1) rfl (hS59.se [0, 1, 3, 4, 5, 6]) (fun w' hw' => (ya B11 ((3 : Int).toNat * 5) (r_7.Cells.flatMap eN0) (kD_ x1) K5 K0 (ST.cf hw' (i := 5) rfl) rfl rfl (eN2 x1) (gi_seg eN2 hx1))) ?_
    refine rA [9, 10] ?_
    refine rC 42 9 rfl (yC [pt (aD b2) 0, gD_ x, gD_ x1] K97 (c_spec_l2C_add m3 x x1 (aD b2) _  (hS59.inn [false, false, true, false, false, false, false] rfl [] rfl) hc6)) ?_ ?_
    ·rintro _ w_45 ⟨rfl, hd27⟩
     have hS60 := hS59.out [false, false, true, false, false, false, false] rfl hd27
     refine ⟨(hS60.se [0, 1, 2, 3, 4, 5]), ?_⟩
     refine rA [10] ?_
     refine rS 9 10 rfl (yN kZ_ 5 hS60 K6) ?_ ?_
     ·rintro _ w_46 ⟨b5, rfl, hS61⟩
      refine ⟨(hS61.se [0, 1, 2, 3, 4, 5]), ?_⟩
      refine rA [11] ?_
      refine rZ 11 rfl (yT 7 5 (aD b5) 43 (gD_ r_8) (kD_ r_8) 0 hS61 K0) ?_ ?_
      ·rintro _ w_47 ⟨rfl, hS62⟩
       refine ⟨(hS62.se [0, 1, 2, 3, 4, 5]), ?_⟩
       refine ra_done (by kernel_rfl) ?_
       exact ⟨aD b5, (fc (hf2.g 1 0) (fc (hf2.g 2 1) (fc (hf2.g 4 2) (fc (hf2.g 5 3) (fc (hf2.g 6 4) (fc (hf2.g 7 5) (fc rfl fn_))))))), (hS62.sel [0, 1, 6, 2, 3, 7] rfl rfl)⟩
      exact aN
     exact aN
    refine rS 9 10 rfl (yN kZ_ 5 hS59 K6) ?_ ?_
    ·rintro _ w_48 ⟨b5, rfl, hS63⟩
     refine ⟨(hS63.se [0, 1, 3, 4, 5, 6]), ?_⟩
     refine rA [9] ?_
     refine rC 42 9 rfl (yC [pt (aD b2) 0, gD_ x, gD_ x1] K97 (c_spec_l2C_add m3 x x1 (aD b2) _  (hS63.inn [false, false, true, false, false, false, false, false] rfl [] rfl) hc6)) ?_ ?_
     ·rintro _ w_49 ⟨rfl, hd28⟩
      have hS64 := hS63.out [false, false, true, false, false, false, false, false] rfl hd28
      refine ⟨(hS64.se [0, 1, 2, 3, 4, 5]), ?_⟩
      refine rA [11] ?_
      refine rZ 11 rfl (yT 6 5 (aD b5) 43 (gD_ r_8) (kD_ r_8) 0 hS64 K0) ?_ ?_
      ·rintro _ w_50 ⟨rfl, hS65⟩
       refine ⟨(hS65.se [0, 1, 2, 3, 4, 5]), ?_⟩
       refine ra_done (by kernel_rfl) ?_
       exact ⟨aD b5, (fc (hf2.g 1 0) (fc (hf2.g 2 1) (fc (hf2.g 4 2) (fc (hf2.g 5 3) (fc (hf2.g 6 4) (fc (hf2.g 7 5) (fc rfl fn_))))))), (hS65.sel [0, 1, 7, 2, 3, 6] rfl rfl)⟩
      exact aN
     exact aN
    exact aN
   rintro f w ⟨B12, hf3, hS58⟩
   obtain ⟨⟨r_9, m5⟩, hc7, hb1⟩ := bI hb1
   obtain ⟨hap, hb1⟩ := chk_inv hb1
   refine cw_mid (fun f w => ∃ (B14 : Option Addr) (c12 : Nat), FF f [(1, pt (aD b) 0), (2, pt (aD b1) 0), (4, pt (aD b2) 0), (5, pt (aD b3) 0), (6, vi (i1 : Int)), (7, vi (j : Int))] ∧ ST w0 [] w [⟨aD b, 26, kM_ m B c, 3⟩, ⟨aD b1, 29, [.slice none 0 0], 1⟩, ⟨aD b2, 48, [.bool m5.bad], 1⟩, ⟨aD b3, 29, [.slice B14 ((Cells1 ++ [r_9]).length) c12], 1⟩, ⟨B14, 43, ((Cells1 ++ [r_9]).flatMap eN0), c12 * 5⟩] [⟨B, (m.Cells.flatMap eN0)⟩]) ?_ ?_
   ·skip
    refine ra_start (hS58.se [0, 1, 5]).fn (by kernel_rfl) ?_
    have hS68 := hS58.drew
    refine rq 0 43 (v := pt (aD b3) 0) rfl (hS68.se [0, 1, 5]) (fun w' hw' => (yd (aD b3) 0 0 K33 K8 rfl (hf3.g 5 3))) ?_
    refine rq 2 45 (v := pt (aD b2) 0) rfl (hS68.se [0, 1, 5]) (fun w' hw' => (ym (pt (aD b2) 0) rfl (hf3.g 4 2))) ?_
    refine rq 3 46 (v := gD_ r_8) rfl (hS68.se [0, 1, 5]) (fun w' hw' => (yb B12 0 (kD_ r_8) K5 K0 (ST.cf hw' (i := 2) rfl) rfl (hf3.g 9 6))) ?_
    refine rq 4 47 (v := .agg #[vi 1, vi 0, vi 0, vi 0]) rfl (hS68.se [0, 1, 5]) (fun w' hw' => (Y_buildS (zs := [vi 0, vi 0, vi 0, vi 0]) (vs := [(0, vi 1)]) (cs := [vi 1, vi 0, vi 0, vi 0]) K26 K14 rfl (mpc rfl mpn) rfl)) ?_
    refine rq 5 48 (v := .agg #[vi 1, vi 0, vi 0, vi 0, vi 2]) rfl (hS68.se [0, 1, 5]) (fun w' hw' => (Y_buildS (zs := kZ_) (vs := [(0, .agg #[vi 1, vi 0, vi 0, vi 0]), (1, vi 2)]) (cs := [vi 1, vi 0, vi 0, vi 0, vi 2]) K18 K6 rfl (mpc rfl (mpc rfl mpn)) rfl)) ?_
    refine rA [1, 6] ?_
    refine ra_y 44 (i := 1) (v := .slice B3 Cells1.length c3) rfl rfl rfl (yl (aD b3) 0 [.slice B3 Cells1.length c3] (.slice B3 Cells1.length c3) K13 (hS68.c 3)) (hS68.se [0, 1, 5]) ?_ ?_
    ·skip
     refine rA [6] ?_
     refine rC 49 6 rfl (yC [pt (aD b2) 0, gD_ r_8, .agg #[vi 1, vi 0, vi 0, vi 0, vi 2]] K96 (c_spec_l2C_mul m4 r_8 (TDyadic.mk (TRing.mk 1 0 0 0) 2) (aD b2) _  (hS68.inn [false, false, true, false, false, false] rfl [] rfl) hc7)) ?_ ?_
     ·rintro _ w_51 ⟨rfl, hd29⟩
      have hS69 := hS68.out [false, false, true, false, false, false] rfl hd29
      refine ⟨(hS69.se [0, 1, 4]), ?_⟩
      refine rA [7] ?_
      refine rS 50 7 rfl (Ys_bslice (s := 5) (len := 1) (vs := [(0, gD_ r_9)]) (cs := kD_ r_9) (zs := kZ_) (m := 5) hS69 K7 K0 K31 rfl (mpc rfl mpn) rfl rfl rfl (by kernel_rfl) (by kernel_rfl) rfl) ?_ ?_
      ·rintro _ w_52 ⟨b6, rfl, hS70⟩
       refine ⟨(hS70.se [0, 1, 4]), ?_⟩
       refine rA [8] ?_
       refine rS 51 8 rfl (Ys_append (s := 5) (by' := 40) (i := 3) (nn := Cells1.length) (c := c3) (k := 1) (len := (Cells1 ++ [r_9]).length) (B := B3) (xs := ([r_9].flatMap eN0)) (cs' := ((Cells1 ++ [r_9]).flatMap eN0)) hS70 K7 K0 K37 K6 rfl (by decide) rfl rfl rfl rfl (fm_lenn (l := Cells1) eN2 rfl) rfl (hS70.c 6) (fm_lenn (l := [r_9]) eN2 rfl) (fm_one' (enc := eN0) enc_Dyadic_one [r_9]) (by have := hap; omega) (by have := hap; simp only [maxLen]; omega) (fm_app _ _) (app_len (l := Cells1) (l' := [r_9]) rfl rfl)) ?_ ?_
       ·rintro _ w_53 ⟨B13, c11, rfl, hS71⟩
        refine ⟨(hS71.se [0, 1, 4]), ?_⟩
        refine rq 9 52 (v := pt (aD b3) 0) rfl (hS71.se [0, 1, 4]) (fun w' hw' => (yd (aD b3) 0 0 K33 K8 rfl (hf3.g 5 3))) ?_
        refine rA [10] ?_
        refine rZ 10 rfl (yT 2 1 (aD b3) 29 (.slice B13 ((Cells1 ++ [r_9]).length) c11) [.slice B13 ((Cells1 ++ [r_9]).length) c11] 0 hS71 K8) ?_ ?_
        ·rintro _ w_54 ⟨rfl, hS72⟩
         refine ⟨(hS72.se [0, 1, 4]), ?_⟩
         refine ra_done (by kernel_rfl) ?_
         exact ⟨B13, c11, (fc (hf3.g 1 0) (fc (hf3.g 2 1) (fc (hf3.g 4 2) (fc (hf3.g 5 3) (fc (hf3.g 6 4) (fc (hf3.g 7 5) fn_)))))), (hS72.sel [0, 1, 5, 2, 3] rfl rfl)⟩
        exact aN
       exact aN
      exact aN
     exact aN
    refine rC 49 6 rfl (yC [pt (aD b2) 0, gD_ r_8, .agg #[vi 1, vi 0, vi 0, vi 0, vi 2]] K96 (c_spec_l2C_mul m4 r_8 (TDyadic.mk (TRing.mk 1 0 0 0) 2) (aD b2) _  (hS68.inn [false, false, true, false, false, false] rfl [] rfl) hc7)) ?_ ?_
    ·rintro _ w_55 ⟨rfl, hd30⟩
     have hS73 := hS68.out [false, false, true, false, false, false] rfl hd30
     refine ⟨(hS73.se [0, 1, 4]), ?_⟩
     refine rA [1, 7] ?_
     refine ra_y 44 (i := 1) (v := .slice B3 Cells1.length c3) rfl rfl rfl (yl (aD b3) 0 [.slice B3 Cells1.length c3] (.slice B3 Cells1.length c3) K13 (hS73.c 2)) (hS73.se [0, 1, 4]) ?_ ?_
     ·skip
      refine rA [7] ?_
      refine rS 50 7 rfl (Ys_bslice (s := 5) (len := 1) (vs := [(0, gD_ r_9)]) (cs := kD_ r_9) (zs := kZ_) (m := 5) hS73 K7 K0 K31 rfl (mpc rfl mpn) rfl rfl rfl (by kernel_rfl) (by kernel_rfl) rfl) ?_ ?_
      ·rintro _ w_56 ⟨b6, rfl, hS74⟩
       refine ⟨(hS74.se [0, 1, 4]), ?_⟩
       refine rA [8] ?_
       refine rS 51 8 rfl (Ys_append (s := 5) (by' := 40) (i := 3) (nn := Cells1.length) (c := c3) (k := 1) (len := (Cells1 ++ [r_9]).length) (B := B3) (xs := ([r_9].flatMap eN0)) (cs' := ((Cells1 ++ [r_9]).flatMap eN0)) hS74 K7 K0 K37 K6 rfl (by decide) rfl rfl rfl rfl (fm_lenn (l := Cells1) eN2 rfl) rfl (hS74.c 6) (fm_lenn (l := [r_9]) eN2 rfl) (fm_one' (enc := eN0) enc_Dyadic_one [r_9]) (by have := hap; omega) (by have := hap; simp only [maxLen]; omega) (fm_app _ _) (app_len (l := Cells1) (l' := [r_9]) rfl rfl)) ?_ ?_
       ·rintro _ w_57 ⟨B13, c11, rfl, hS75⟩
        refine ⟨(hS75.se [0, 1, 4]), ?_⟩
        refine rq 9 52 (v := pt (aD b3) 0) rfl (hS75.se [0, 1, 4]) (fun w' hw' => (yd (aD b3) 0 0 K33 K8 rfl (hf3.g 5 3))) ?_
        refine rA [10] ?_
        refine rZ 10 rfl (yT 2 1 (aD b3) 29 (.slice B13 ((Cells1 ++ [r_9]).length) c11) [.slice B13 ((Cells1 ++ [r_9]).length) c11] 0 hS75 K8) ?_ ?_
        ·rintro _ w_58 ⟨rfl, hS76⟩
         refine ⟨(hS76.se [0, 1, 4]), ?_⟩
         refine ra_done (by kernel_rfl) ?_
         exact ⟨B13, c11, (fc (hf3.g 1 0) (fc (hf3.g 2 1) (fc (hf3.g 4 2) (fc (hf3.g 5 3) (fc (hf3.g 6 4) (fc (hf3.g 7 5) fn_)))))), (hS76.sel [0, 1, 5, 2, 3] rfl rfl)⟩
        exact aN
       exact aN
      exact aN
     refine rS 50 7 rfl (Ys_bslice (s := 5) (len := 1) (vs := [(0, gD_ r_9)]) (cs := kD_ r_9) (zs := kZ_) (m := 5) hS73 K7 K0 K31 rfl (mpc rfl mpn) rfl rfl rfl (by kernel_rfl) (by kernel_rfl) rfl) ?_ ?_
     ·rintro _ w_59 ⟨b6, rfl, hS77⟩
      refine ⟨(hS77.se [0, 1, 4]), ?_⟩
      refine rA [1] ?_
      refine ra_y 44 (i := 1) (v := .slice B3 Cells1.length c3) rfl rfl rfl (yl (aD b3) 0 [.slice B3 Cells1.length c3] (.slice B3 Cells1.length c3) K13 (hS77.c 2)) (hS77.se [0, 1, 4]) ?_ ?_
      ·skip
       refine rA [8] ?_
       refine rS 51 8 rfl (Ys_append (s := 5) (by' := 40) (i := 3) (nn := Cells1.length) (c := c3) (k := 1) (len := (Cells1 ++ [r_9]).length) (B := B3) (xs := ([r_9].flatMap eN0)) (cs' := ((Cells1 ++ [r_9]).flatMap eN0)) hS77 K7 K0 K37 K6 rfl (by decide) rfl rfl rfl rfl (fm_lenn (l := Cells1) eN2 rfl) rfl (hS77.c 6) (fm_lenn (l := [r_9]) eN2 rfl) (fm_one' (enc := eN0) enc_Dyadic_one [r_9]) (by have := hap; omega) (by have := hap; simp only [maxLen]; omega) (fm_app _ _) (app_len (l := Cells1) (l' := [r_9]) rfl rfl)) ?_ ?_
       ·rintro _ w_60 ⟨B13, c11, rfl, hS78⟩
        have hS78 : ST w0 [] _ [⟨aD b, 26, kM_ m B c, 3⟩, ⟨aD b1, 29, [.slice none 0 0], 1⟩, ⟨aD b3, 29, [.slice B3 Cells1.length c3], 1⟩, ⟨B13, 43, ((Cells1 ++ [r_9]).flatMap eN0), c11 * 5⟩, ⟨B12, 43, kD_ r_8, 5⟩, ⟨aD b2, 48, [.bool m5.bad], 1⟩, ⟨aD b6, 43, ([r_9].flatMap eN0), 1 * 5⟩] [⟨B, (m.Cells.flatMap eN0)⟩] := hS78
        refine ⟨(hS78.se [0, 1, 4]), ?_⟩
        refine rq 9 52 (v := pt (aD b3) 0) rfl (hS78.se [0, 1, 4]) (fun w' hw' => (yd (aD b3) 0 0 K33 K8 rfl (hf3.g 5 3))) ?_
        refine rA [10] ?_
        refine rZ 10 rfl (yT 2 1 (aD b3) 29 (.slice B13 ((Cells1 ++ [r_9]).length) c11) [.slice B13 ((Cells1 ++ [r_9]).length) c11] 0 hS78 K8) ?_ ?_
        ·rintro _ w_61 ⟨rfl, hS79⟩
         refine ⟨(hS79.se [0, 1, 4]), ?_⟩
         refine ra_done (by kernel_rfl) ?_
         exact ⟨B13, c11, (fc (hf3.g 1 0) (fc (hf3.g 2 1) (fc (hf3.g 4 2) (fc (hf3.g 5 3) (fc (hf3.g 6 4) (fc (hf3.g 7 5) fn_)))))), (hS79.sel [0, 1, 5, 2, 3] rfl rfl)⟩
        exact aN
       exact aN
      exact aN
     exact aN
    exact aN
   rintro f w ⟨B14, c12, hf4, hS67⟩
   refine cr ?_
   refine sQ 18 (ym (vi (j : Int)) rfl (hf4.g 7 5)) <| sQ 19 (yP (j : Int) 1) <| sQ 7 (yg (vi (i64.wrap ((j : Int) + 1)))) (rn ?_)
   obtain rfl := sI hb1
   exact ⟨K29, Nat.lt_succ_self _, j + 1, m5.bad, (Cells1 ++ [r_9]), B14, c12, (fc (hf4.g 1 0) (fc (hf4.g 2 1) (fc (hf4.g 4 2) (fc (hf4.g 5 3) (fc (hf4.g 6 4) (fc (congrArg (Value.int .i64) (wr_succ hlt3 (show 3 ≤ 9223372036854775807 by decide))) fn_)))))), (hS67.sel [0, 1, 2, 3, 4] rfl rfl), (by omega), hL3⟩
  ·skip
   obtain rfl : K15 = 0 := by have h := of_decide_eq_false hlt2; omega
   refine cw_exit rfl ?_
   obtain rfl := sI hL2
   refine cr ?_
   refine sQ 14 (ym (vi (i1 : Int)) rfl (hf1.g 6 4)) <| sQ 15 (yP (i1 : Int) 1) <| sQ 6 (yg (vi (i64.wrap ((i1 : Int) + 1)))) (rn ?_)
   obtain rfl := sI hF2
   exact ⟨K11, Nat.lt_succ_self _, i1 + 1, bad1, Cells1, B3, c3, (fc (hf1.g 1 0) (fc (hf1.g 2 1) (fc (hf1.g 4 2) (fc (hf1.g 5 3) (fc (congrArg (Value.int .i64) (wr_succ hlt1 (show 3 ≤ 9223372036854775807 by decide))) fn_))))), (hS7.sel [0, 1, 2, 3, 4] rfl rfl), (by omega), hL1⟩
 ·skip
  obtain rfl : k_ = 0 := by have h := of_decide_eq_false hlt; omega
  refine cw_exit rfl ?_
  obtain rfl := sI hL
  refine cq (cq (cr ?_))
  refine sQ 53 (ym (pt (aD b2) 0) rfl (hf.g 4 2)) <| sQ 54 (Y_nilCheck (B := aD b2) (i := 0) rfl rfl) <| sQ 55 (yd (aD b2) 0 0 K61 K55) <| sQ 56 (yl (aD b2) 0 [.bool bad] (.bool bad) K79 (hS5.c 2)) (rn ?_)
  refine cw_cond (b := bad) rfl (fun hb2 => ?_) (fun hb2 => ?_)
  ·skip
   have hF3 := ct hF1 hb2
   refine cq (cr ?_)
   refine sQ 57 (Y_buildS (zs := [.slice none 0 0]) (vs := []) (cs := [.slice none 0 0]) K68 K36 rfl mpn rfl) ?_
   refine s0 (yT 1 1 (aD b1) 29 (.agg #[.slice none 0 0]) [.slice none 0 0] 0 hS5 K16 rfl (hf.g 2 1)) ?_
   rintro _ w_62 ⟨rfl, hS80⟩
   refine sQ 3 (yg (.bool false)) (rn (ct_ ?_))
   have hS81 := hS80.addNil 43
   obtain ⟨rfl, rfl⟩ := pr2 (sI hF3)
   exact ret2 Tryz.results18 (v1 := .agg #[.slice none 0 0]) (resAt_cellA (B := aD b1) (i := 0) (cs := [.slice none 0 0]) (vs := [.slice none 0 0]) (hf.g 2 1) K25 K16 (hS81.c 1) rfl rfl) (v2 := .bool false) (resAt_tmp rfl) ⟨none, 0, rfl, (hS81.sN [5])⟩
  ·skip
   have hF4 := cf' hF1 hb2
   refine cw_skip (cq (cr ?_))
   refine sQ 58 (yb (aD b3) 0 [.slice B2 Cells.length c2] K25 K16 (hS5.c 3) rfl (hf.g 5 3)) ?_
   refine s0 (yT 1 1 (aD b1) 29 (.agg #[.slice B2 Cells.length c2]) [.slice B2 Cells.length c2] 0 hS5 K16 rfl (hf.g 2 1)) ?_
   rintro _ w_63 ⟨rfl, hS82⟩
   refine sQ 3 (yg (.bool true)) (rn (ct_ ?_))
   obtain ⟨rfl, rfl⟩ := pr2 (sI hF4)
   exact ret2 Tryz.results18 (v1 := .agg #[.slice B2 Cells.length c2]) (resAt_cellA (B := aD b1) (i := 0) (cs := [.slice B2 Cells.length c2]) (vs := [.slice B2 Cells.length c2]) (hf.g 2 1) K25 K16 (hS82.c 1) rfl rfl) (v2 := .bool true) (resAt_tmp rfl) ⟨B2, c2, rfl, (hS82.sN [4])⟩

theorem c_spec_BlochOf (m : TMatrix) (B : Option Addr) (c n : Nat) (w0 : World) (hn : m.Cells.length = n) (hS : ST w0 [] w0 [] [⟨B, (m.Cells.flatMap eN0)⟩]) {r_ : TBloch} {r_1 : Bool} (hF : F_spec_BlochOf m = some (r_, r_1)) :
  CV Tryz.prog 7 #[.agg #[vi m.Rows, vi m.Cols, .slice B n c]] w0 (fun v w' => ∃ (B1 : Option Addr) (c1 : Nat), v = .tuple #[gB_ r_ B1 c1, .bool r_1] ∧ ST w0 [] w' [⟨B1, 43, (r_.Cells.flatMap eN0), c1 * 5⟩] []) := by
 subst hn
 unfold F_spec_BlochOf at hF
 refine cv_of_cw 12 Tryz.func7 rfl Tryz.ntmps7 rfl ?_
 refine cq (cr ?_)
 refine sS 1 (yB 26 (gM_ m B c) (kM_ m B c) 3 hS) ?_
 rintro _ w_ ⟨b, rfl, hS1⟩
 refine sS 2 (yN [.slice none 0 0] 1 hS1 K36) ?_
 rintro _ w_1 ⟨b1, rfl, hS2⟩
 refine sQ 3 (yg (.bool false)) (rn (cq (cq (cr ?_))))
 refine sQ 4 (yb (aD b) 0 (kM_ m B c) K9 K4 (hS2.c 0)) ?_
 obtain ⟨r_2, hc, hF⟩ := bI hF
 refine sc 5 rfl rfl (yC [gM_ m B c] k_call_17 (c_spec_l9Good m B c m.Cells.length _ rfl (hS2.inn0 [(true, 0)] rfl) hc)) ?_
 rintro _ w_2 ⟨rfl, hd⟩
 have hS3 := hS2.out00 hd
 refine sQ 6 (Y_not (p := r_2) rfl rfl) (rn ?_)
 refine cw_cond (b := (!r_2)) rfl (fun hb => ?_) (fun hb => ?_)
 ·skip
  have hF1 := ct hF hb
  refine cq (cr ?_)
  refine sQ 7 (Y_buildS (zs := [.slice none 0 0]) (vs := []) (cs := [.slice none 0 0]) K68 K36 rfl mpn rfl) ?_
  refine s0 (yT 1 1 (aD b1) 29 (.agg #[.slice none 0 0]) [.slice none 0 0] 0 hS3 K16) ?_
  rintro _ w_3 ⟨rfl, hS4⟩
  refine sQ 3 (yg (.bool false)) (rn (ct_ ?_))
  have hS5 := hS4.addNil 43
  obtain ⟨rfl, rfl⟩ := pr2 (sI hF1)
  exact ret2 Tryz.results7 (v1 := .agg #[.slice none 0 0]) (resAt_cellA (B := aD b1) (i := 0) (cs := [.slice none 0 0]) (vs := [.slice none 0 0]) rfl K25 K16 (hS5.c 1) rfl rfl) (v2 := .bool false) (resAt_tmp rfl) ⟨none, 0, rfl, (hS5.sN [2])⟩
 ·skip
  have hF2 := cf' hF hb
  refine cw_skip (cq (cr ?_))
  refine sQ 8 (yb (aD b) 0 (kM_ m B c) K9 K4 (hS3.c 0)) ?_
  obtain ⟨⟨r_3, r_4⟩, hc1, hF2⟩ := bI hF2
  refine sc 9 rfl rfl (yC [gM_ m B c] k_call_18 (c_spec_l9Bloch m B c m.Cells.length _ rfl (hS3.inn0 [(true, 0)] rfl) hc1)) ?_
  rintro _ w_4 ⟨B2, c2, rfl, hd1⟩
  have hS6 := hS3.out0 hd1
  refine sQ 10 (ye (gB_ r_3 B2 c2)) <| sQ 11 (ye (.bool r_4)) ?_
  refine s0 (yT 1 1 (aD b1) 29 (gB_ r_3 B2 c2) (kB_ r_3 B2 c2) 0 hS6 K16) ?_
  rintro _ w_5 ⟨rfl, hS7⟩
  refine sQ 3 (yg (.bool r_4)) (rn (ct_ ?_))
  obtain ⟨rfl, rfl⟩ := pr2 (sI hF2)
  exact ret2 Tryz.results7 (v1 := gB_ r_3 B2 c2) (resAt_cellA (B := aD b1) (i := 0) (cs := kB_ r_3 B2 c2) (vs := kB_ r_3 B2 c2) rfl K25 K16 (hS7.c 1) rfl rfl) (v2 := .bool r_4) (resAt_tmp rfl) ⟨B2, c2, rfl, (hS7.sN [2])⟩

theorem c_laws_pSameBloch (a : TBloch) (b : TBloch) (B : Option Addr) (c n : Nat) (B1 : Option Addr) (c1 n1 : Nat) (w0 : World) (hn : a.Cells.length = n) (hn1 : b.Cells.length = n1) (hS : ST w0 [] w0 [] [⟨B, (a.Cells.flatMap eN0)⟩, ⟨B1, (b.Cells.flatMap eN0)⟩]) {r_ : Bool} (hF : F_laws_pSameBloch a b = some r_) :
  CV Tryz.prog 8 #[.agg #[.slice B n c], .agg #[.slice B1 n1 c1]] w0 (fun v w' => v = .bool r_ ∧ ST w0 [] w' [] []) := by
 subst hn
 subst hn1
 unfold F_laws_pSameBloch at hF
 refine cv_of_cw 31 Tryz.func8 rfl Tryz.ntmps8 rfl ?_
 refine cq (cr ?_)
 refine sS 2 (yB 29 (gB_ a B c) (kB_ a B c) 1 hS) ?_
 rintro _ w_ ⟨b1, rfl, hS1⟩
 refine sS 3 (yB 29 (gB_ b B1 c1) (kB_ b B1 c1) 1 hS1) ?_
 rintro _ w_1 ⟨b2, rfl, hS2⟩
 refine sQ 4 (yg (.bool false)) (rn (cq (cq (cr ?_))))
 refine sQ 6 (yd (aD b1) 0 0 K33 K8) <| sQ 7 (yl (aD b1) 0 (kB_ a B c) (.slice B a.Cells.length c) K13 (hS2.c 0)) <| sQ 8 (Y_len (B := B) (m := a.Cells.length) (c := c) K7 rfl rfl) <| sQ 9 (yd (aD b2) 0 0 K33 K8) <| sQ 10 (yl (aD b2) 0 (kB_ b B1 c1) (.slice B1 b.Cells.length c1) K13 (hS2.c 1)) <| sQ 11 (Y_len (B := B1) (m := b.Cells.length) (c := c1) K7 rfl rfl) ?_
 refine sQ 12 (Y_ne (k := .i64) (a := (a.Cells.length : Int)) (b := (b.Cells.length : Int)) rfl rfl rfl) (rn ?_)
 refine cw_cond (b := ((a.Cells.length : Int) != (b.Cells.length : Int))) rfl (fun hb => ?_) (fun hb => ?_)
 ·skip
  have hF1 := ct hF hb
  refine cq (cr ?_)
  refine sQ 4 (yg (.bool false)) (rn (ct_ ?_))
  obtain rfl := sI hF1
  exact ret1 Tryz.results8 (v1 := .bool false) (resAt_tmp rfl) ⟨rfl, (hS2.sN [])⟩
 ·skip
  have hF2 := cf' hF hb
  refine cw_skip (cq (cq (cr ?_)))
  refine sQ 13 (yd (aD b1) 0 0 K33 K8) <| sQ 14 (yl (aD b1) 0 (kB_ a B c) (.slice B a.Cells.length c) K13 (hS2.c 0)) <| sQ 15 (Y_len (B := B) (m := a.Cells.length) (c := c) K7 rfl rfl) <| sQ 16 (ym (vi 0)) (rn ?_)
  obtain ⟨hN, hF2⟩ := chk_inv hF2
  obtain ⟨z, hz, hF3⟩ := bI hF2
  refine cw_block ?_
  refine cw_loop (fun k f w => ∃ (i : Nat), FF f [(2, pt (aD b1) 0), (3, pt (aD b2) 0), (15, vi (a.Cells.length : Int)), (16, vi (i : Int))] ∧ ST w0 [] w [⟨aD b1, 29, kB_ a B c, 1⟩, ⟨aD b2, 29, kB_ b B1 c1, 1⟩] [⟨B, (a.Cells.flatMap eN0)⟩, ⟨B1, (b.Cells.flatMap eN0)⟩] ∧ i + k = a.Cells.length ∧ forX (F_laws_pSameBloch_l1 a b) k i () = some z) a.Cells.length ⟨0, (fc rfl (fc rfl (fc rfl (fc rfl fn_)))), (hS2.sel [0, 1] rfl rfl), Nat.zero_add _, hz⟩ ?_
  rintro k_ f w ⟨i, hf, hS3, hik, hL⟩
  refine cq (cr ?_)
  refine sQ 17 (yL (i : Int) (a.Cells.length : Int) rfl (hf.g 16 3) (hf.g 15 2)) (rn (cq ?_))
  refine cw_cond (b := (decide ((i : Int) < (a.Cells.length : Int)))) rfl (fun hlt => ?_) (fun hlt => ?_)
  ·skip
   have hlt1 : i < a.Cells.length := by have h := of_decide_eq_true hlt; omega
   obtain ⟨K11, rfl⟩ : ∃ k2, k_ = k2 + 1 := ⟨k_ - 1, by omega⟩
   obtain ⟨y, hb1, hL1⟩ := forX_go hL
   unfold F_laws_pSameBloch_l1 at hb1
   refine cw_skip (cq (cw_block (cq (cr ?_))))
   refine sQ 18 (ym (vi (i : Int)) rfl (hf.g 16 3)) <| sQ 5 (yg (vi (i : Int))) (rn (cq ?_))
   obtain ⟨x, hx, hb1⟩ := bI hb1
   obtain ⟨x1, hx1, hb1⟩ := bI hb1
   refine ra_start (hS3.se [0, 1]).fn (by kernel_rfl) ?_
   have hS4 := hS3.drew
   refine rq 0 19 (v := pt (aD b1) 0) rfl (hS4.se [0, 1]) (fun w' hw' => (yd (aD b1) 0 0 K33 K8 rfl (hf.g 2 0))) ?_
   refine rq 1 20 (v := .slice B a.Cells.length c) rfl (hS4.se [0, 1]) (fun w' hw' => (yl (aD b1) 0 (kB_ a B c) (.slice B a.Cells.length c) K13 (ST.cf hw' (i := 0) rfl))) ?_
   refine rq 2 21 (v := vi (i : Int)) rfl (hS4.se [0, 1]) (fun w' hw' => (ym (vi (i : Int)))) ?_
   refine rq 3 22 (v := pt B ((i : Int).toNat * 5)) rfl (hS4.se [0, 1]) (fun w' hw' => (Y_index (B := B) (m := a.Cells.length) (c := c) (k := .i64) (i := (i : Int)) K7 K0 rfl rfl rfl (gi_isSome eN2 rfl (ST.rf hw' (i := 0) rfl) hx) (getI_nn hx) (getI_ltI hx rfl))) ?_
   refine rq 4 23 (v := gD_ x) rfl (hS4.se [0, 1]) (fun w' hw' => (ya B ((i : Int).toNat * 5) (a.Cells.flatMap eN0) (kD_ x) K5 K0 (ST.rf hw' (i := 0) rfl) rfl rfl (eN2 x) (gi_seg eN2 hx))) ?_
   refine rq 5 24 (v := pt (aD b2) 0) rfl (hS4.se [0, 1]) (fun w' hw' => (yd (aD b2) 0 0 K33 K8 rfl (hf.g 3 1))) ?_
   refine rq 6 25 (v := .slice B1 b.Cells.length c1) rfl (hS4.se [0, 1]) (fun w' hw' => (yl (aD b2) 0 (kB_ b B1 c1) (.slice B1 b.Cells.length c1) K13 (ST.cf hw' (i := 1) rfl))) ?_
   refine rq 7 26 (v := vi (i : Int)) rfl (hS4.se [0, 1]) (fun w' hw' => (ym (vi (i : Int)))) ?_
   refine rq 8 27 (v := pt B1 ((i : Int).toNat * 5)) rfl (hS4.se [0, 1]) (fun w' hw' => (Y_index (B := B1) (m := b.Cells.length) (c := c1) (k := .i64) (i := (i : Int)) K7 K0 rfl rfl rfl (gi_isSome eN2 rfl (ST.rf hw' (i := 1) rfl) hx1) (getI_nn hx1) (getI_ltI hx1 rfl))) ?_
   refine rq 9 28 (v := gD_ x1) rfl (hS4.se [0, 1]) (fun w' hw' => (ya B1 ((i : Int).toNat * 5) (b.Cells.flatMap eN0) (kD_ x1) K5 K0 (ST.rf hw' (i := 1) rfl) rfl rfl (eN2 x1) (gi_seg eN2 hx1))) ?_
   refine ra_q 10 29 (v := .bool (!(((x.Num.A == x1.Num.A) && ((x.Num.B == x1.Num.B) && ((x.Num.C == x1.Num.C) && ((x.Num.D == x1.Num.D) && true)))) && ((x.Exp == x1.Exp) && true)))) rfl rfl rfl (by kernel_rfl) (by kernel_rfl) (by kernel_rfl) (hS4.se [0, 1]) (fun w' hw' => (Y_neA (xs := #[vi x.Num.A, vi x.Num.B, vi x.Num.C, vi x.Num.D, vi x.Exp]) (ys := #[vi x1.Num.A, vi x1.Num.B, vi x1.Num.C, vi x1.Num.D, vi x1.Exp]) (b := (((x.Num.A == x1.Num.A) && ((x.Num.B == x1.Num.B) && ((x.Num.C == x1.Num.C) && ((x.Num.D == x1.Num.D) && true)))) && ((x.Exp == x1.Exp) && true))) K86 rfl rfl rfl (eqr_struct (xs := kD_ x) (ys := kD_ x1) K87 K88 (pts_ag (us := kR_ x.Num) (vs := kR_ x1.Num) K10 K3 rfl rfl (eqr_struct (xs := kR_ x.Num) (ys := kR_ x1.Num) K89 K90 (pts_sc K1 rfl rfl (eqr_int K24) (pts_sc K1 rfl rfl (eqr_int K24) (pts_sc K1 rfl rfl (eqr_int K24) (pts_sc K1 rfl rfl (eqr_int K24) pts_nil))))) (pts_sc K1 rfl rfl (eqr_int K24) pts_nil))))) ?_
   refine ra_done (by kernel_rfl) ?_
   refine cw_cond (b := (!(((x.Num.A == x1.Num.A) && ((x.Num.B == x1.Num.B) && ((x.Num.C == x1.Num.C) && ((x.Num.D == x1.Num.D) && true)))) && ((x.Exp == x1.Exp) && true)))) rfl (fun hb2 => ?_) (fun hb2 => ?_)
   ·skip
    have hF4 := ct hb1 hb2
    refine cq (cr ?_)
    refine sQ 4 (yg (.bool false)) (rn (ct_ ?_))
    obtain rfl := sI hF4
    obtain rfl := sI hL1
    obtain rfl := sI hF3
    exact ret1 Tryz.results8 (v1 := .bool false) (resAt_tmp rfl) ⟨rfl, (hS4.sN [])⟩
   ·skip
    have hF5 := cf' hb1 hb2
    refine cw_skip (cr ?_)
    refine sQ 30 (yP (i : Int) 1 rfl (hf.g 16 3)) <| sQ 16 (ym (vi (i64.wrap ((i : Int) + 1)))) (rn ?_)
    obtain rfl := sI hF5
    exact ⟨K11, Nat.lt_succ_self _, i + 1, (fc (hf.g 2 0) (fc (hf.g 3 1) (fc (hf.g 15 2) (fc (congrArg (Value.int .i64) (wr_succ hlt1 hN)) fn_)))), (hS4.sel [0, 1] rfl rfl), (by omega), hL1⟩
  ·skip
   obtain rfl : k_ = 0 := by have h := of_decide_eq_false hlt; omega
   refine cw_exit rfl ?_
   obtain rfl := sI hL
   refine cq (cr ?_)
   refine sQ 4 (yg (.bool true)) (rn (ct_ ?_))
   obtain rfl := sI hF3
   exact ret1 Tryz.results8 (v1 := .bool true) (resAt_tmp rfl) ⟨rfl, (hS3.sN [])⟩

theorem c_spec_l2C_matrix (c : Tl2C) (m : TMatrix) (B : Option Addr) (B1 : Option Addr) (c1 n : Nat) (w0 : World) (hn : m.Cells.length = n) (hS : ST w0 (bl [⟨B1, 43, (m.Cells.flatMap eN0), c1 * 5⟩]) w0 [⟨B1, 43, (m.Cells.flatMap eN0), c1 * 5⟩] [⟨B, [.bool c.bad]⟩]) {r_ : TMatrix} {r_1 : Bool} (hF : F_spec_l2C_matrix c m = some (r_, r_1)) :
  CV Tryz.prog 20 #[pt B 0, .agg #[vi m.Rows, vi m.Cols, .slice B1 n c1]] w0 (fun v w' => ∃ (B2 : Option Addr) (c2 : Nat), v = .tuple #[gM_ r_ B2 c2, .bool r_1] ∧ ST w0 (bl [⟨B1, 43, (m.Cells.flatMap eN0), c1 * 5⟩]) w' [⟨B2, 43, (r_.Cells.flatMap eN0), c2 * 5⟩] []) := by
 subst hn
 unfold F_spec_l2C_matrix at hF
 refine cv_of_cw 12 Tryz.func20 rfl Tryz.ntmps20 rfl ?_
 refine cq (cr ?_)
 refine sS 3 (yB 26 (gM_ m B1 c1) (kM_ m B1 c1) 3 hS) ?_
 rintro _ w_ ⟨b, rfl, hS1⟩
 refine sS 4 (yN kN_ 3 hS1 K12) ?_
 rintro _ w_1 ⟨b1, rfl, hS2⟩
 refine sQ 5 (yg (.bool false)) (rn (cq (cq (cr ?_))))
 refine sQ 6 (ym (pt B 0)) <| sQ 7 (Y_nilCheck (B := B) (i := 0) rfl rfl) <| sQ 8 (yd B 0 0 K61 K55) <| sQ 9 (yl B 0 [.bool c.bad] (.bool c.bad) K79 (hS2.rf (i := 0) rfl)) (rn ?_)
 refine cw_cond (b := c.bad) rfl (fun hb => ?_) (fun hb => ?_)
 ·skip
  have hF1 := ct hF hb
  refine cq (cr ?_)
  refine sQ 10 (Y_buildS (zs := kN_) (vs := []) (cs := kN_) K42 K12 rfl mpn rfl) ?_
  refine s0 (yT 2 3 (aD b1) 26 gN_ kN_ 0 hS2 K4) ?_
  rintro _ w_2 ⟨rfl, hS3⟩
  refine sQ 5 (yg (.bool false)) (rn (ct_ ?_))
  have hS4 := hS3.addNil 43
  obtain ⟨rfl, rfl⟩ := pr2 (sI hF1)
  exact ret2 Tryz.results20 (v1 := gN_) (resAt_cellA (B := aD b1) (i := 0) (cs := kN_) (vs := kN_) rfl K9 K4 (hS4.c 2) rfl rfl) (v2 := .bool false) (resAt_tmp rfl) ⟨none, 0, rfl, (hS4.sN [3])⟩
 ·skip
  have hF2 := cf' hF hb
  refine cw_skip (cq (cr ?_))
  refine sQ 11 (yb (aD b) 0 (kM_ m B1 c1) K9 K4 (hS2.c 1)) ?_
  refine s0 (yT 2 3 (aD b1) 26 (gM_ m B1 c1) (kM_ m B1 c1) 0 hS2 K4) ?_
  rintro _ w_3 ⟨rfl, hS5⟩
  refine sQ 5 (yg (.bool true)) (rn (ct_ ?_))
  obtain ⟨rfl, rfl⟩ := pr2 (sI hF2)
  exact ret2 Tryz.results20 (v1 := gM_ m B1 c1) (resAt_cellA (B := aD b1) (i := 0) (cs := kM_ m B1 c1) (vs := kM_ m B1 c1) rfl K9 K4 (hS5.c 2) rfl rfl) (v2 := .bool true) (resAt_tmp rfl) ⟨B1, c1, rfl, (hS5.sN [0])⟩

theorem c_spec_MulMatrix (a : TMatrix) (b : TMatrix) (B : Option Addr) (c n : Nat) (B1 : Option Addr) (c1 n1 : Nat) (w0 : World) (hn : a.Cells.length = n) (hn1 : b.Cells.length = n1) (hS : ST w0 [] w0 [] [⟨B, (a.Cells.flatMap eN0)⟩, ⟨B1, (b.Cells.flatMap eN0)⟩]) {r_ : TMatrix} {r_1 : Bool} (hF : F_spec_MulMatrix a b = some (r_, r_1)) :
  CV Tryz.prog 9 #[.agg #[vi a.Rows, vi a.Cols, .slice B n c], .agg #[vi b.Rows, vi b.Cols, .slice B1 n1 c1]] w0 (fun v w' => ∃ (B2 : Option Addr) (c2 : Nat), v = .tuple #[gM_ r_ B2 c2, .bool r_1] ∧ ST w0 [] w' [⟨B2, 43, (r_.Cells.flatMap eN0), c2 * 5⟩] []) := by
 subst hn
 subst hn1
 unfold F_spec_MulMatrix at hF
 refine cv_of_cw 33 Tryz.func9 rfl Tryz.ntmps9 rfl ?_
 refine cq (cr ?_)
 refine sS 2 (yB 26 (gM_ a B c) (kM_ a B c) 3 hS) ?_
 rintro _ w_ ⟨b1, rfl, hS1⟩
 refine sS 3 (yB 26 (gM_ b B1 c1) (kM_ b B1 c1) 3 hS1) ?_
 rintro _ w_1 ⟨b2, rfl, hS2⟩
 refine sS 4 (yN kN_ 3 hS2 K12) ?_
 rintro _ w_2 ⟨b3, rfl, hS3⟩
 refine sQ 5 (yg (.bool false)) (rn (cq (cq (cr ?_))))
 refine sQ 7 (yb (aD b1) 0 (kM_ a B c) K9 K4 (hS3.c 0)) ?_
 obtain ⟨r_2, hc, hF⟩ := bI hF
 refine sc 8 rfl rfl (yC [gM_ a B c] K130 (c_spec_l3Good a B c a.Cells.length _ rfl (hS3.inn0 [(true, 0)] rfl) hc)) ?_
 rintro _ w_3 ⟨rfl, hd⟩
 have hS4 := hS3.out00 hd
 refine sQ 9 (Y_not (p := r_2) rfl rfl) <| sQ 10 (ym (.bool (!r_2))) ?_
 refine sgq 11 (B := (!(!r_2))) (v := gM_ b B1 c1) rfl rfl (uF_ 10) (fun hg => (yb (aD b2) 0 (kM_ b B1 c1) K9 K4 (hS4.c 1))) ?_
 obtain ⟨r_3, hc1, hF⟩ := bI hF
 refine sgc 12 (B := (!(!r_2))) (v := .bool r_3) (F := hS4.fn) rfl rfl (uF_ 10) hS4 (fun hg1 => (yC [gM_ b B1 c1] K130 (CV.mono (c_spec_l3Good b B1 c1 b.Cells.length _ rfl (hS4.inn0 [(true, 1)] rfl) (gb_inv hc1 hg1)) (by rintro _ _ ⟨rfl, h⟩; exact ⟨rfl, hS4.out00 h⟩)) rfl (mc (gv_of (v := gM_ b B1 c1) hg1) mn))) ?_
 rintro w_4 hS5
 refine sgq 13 (B := (!(!r_2))) (v := .bool (!r_3)) rfl rfl (uF_ 10) (fun hg2 => (Y_not (p := r_3) rfl (gv_of (v := .bool r_3) hg2))) ?_
 refine sQ 14 (Y_or (b := (!r_2)) (z := (!r_3)) rfl rfl rfl rfl) <| sQ 15 (ym (.bool ((!r_2) || (!r_3)))) ?_
 refine sgq 16 (B := (!((!r_2) || (!r_3)))) (v := pt (aD b1) 1) rfl rfl (uF_ 15) (fun hg3 => (yd (aD b1) 0 0 K27 K2)) ?_
 refine sgq 17 (B := (!((!r_2) || (!r_3)))) (v := vi a.Cols) rfl rfl (uF_ 15) (fun hg4 => (yl (aD b1) 1 (kM_ a B c) (vi a.Cols) K1 (hS5.c 0) rfl (gv_of (v := pt (aD b1) 1) hg4))) ?_
 refine sgq 18 (B := (!((!r_2) || (!r_3)))) (v := pt (aD b2) 0) rfl rfl (uF_ 15) (fun hg5 => (yd (aD b2) 0 0 K28 K2)) ?_
 refine sgq 19 (B := (!((!r_2) || (!r_3)))) (v := vi b.Rows) rfl rfl (uF_ 15) (fun hg6 => (yl (aD b2) 0 (kM_ b B1 c1) (vi b.Rows) K1 (hS5.c 1) rfl (gv_of (v := pt (aD b2) 0) hg6))) ?_
 refine sgq 20 (B := (!((!r_2) || (!r_3)))) (v := .bool (a.Cols != b.Rows)) rfl rfl (uF_ 15) (fun hg7 => (Y_ne (k := .i64) (a := a.Cols) (b := b.Rows) rfl (gv_of (v := vi a.Cols) hg7) (gv_of (v := vi b.Rows) hg7))) ?_
 refine sQ 21 (Y_or (b := ((!r_2) || (!r_3))) (z := (a.Cols != b.Rows)) rfl rfl rfl rfl) (rn ?_)
 refine cw_cond (b := (((!r_2) || (!r_3)) || (a.Cols != b.Rows))) rfl (fun hb => ?_) (fun hb => ?_)
 ·skip
  have hF1 := ct hF hb
  refine cq (cr ?_)
  refine sQ 22 (Y_buildS (zs := kN_) (vs := []) (cs := kN_) K42 K12 rfl mpn rfl) ?_
  refine s0 (yT 2 3 (aD b3) 26 gN_ kN_ 0 hS5 K4) ?_
  rintro _ w_5 ⟨rfl, hS6⟩
  refine sQ 5 (yg (.bool false)) (rn (ct_ ?_))
  have hS7 := hS6.addNil 43
  obtain ⟨rfl, rfl⟩ := pr2 (sI hF1)
  exact ret2 Tryz.results9 (v1 := gN_) (resAt_cellA (B := aD b3) (i := 0) (cs := kN_) (vs := kN_) rfl K9 K4 (hS7.c 2) rfl rfl) (v2 := .bool false) (resAt_tmp rfl) ⟨none, 0, rfl, (hS7.sN [3])⟩
 ·skip
  have hF2 := cf' hF hb
  refine cw_skip (cq (cr ?_))
  refine sQ 23 (Y_buildS (zs := [.bool false]) (vs := []) (cs := [.bool false]) K99 K100 rfl mpn rfl) ?_
  refine sS 24 (yB 48 (.agg #[.bool false]) [.bool false] 1 hS5) ?_
  rintro _ w_6 ⟨b4, rfl, hS8⟩
  refine sQ 6 (yg (pt (aD b4) 0)) (rn (cq (cr ?_)))
  refine sQ 25 (ym (pt (aD b4) 0)) <| sQ 26 (ym (pt (aD b4) 0)) <| sQ 27 (yb (aD b1) 0 (kM_ a B c) K9 K4 (hS8.c 0)) <| sQ 28 (yb (aD b2) 0 (kM_ b B1 c1) K9 K4 (hS8.c 1)) ?_
  obtain ⟨⟨r_4, m⟩, hc2, hF2⟩ := bI hF2
  refine sc 29 rfl rfl (yC [pt (aD b4) 0, gM_ a B c, gM_ b B1 c1] K34 (c_spec_l2C_times (Tl2C.mk false) a b (aD b4) B c a.Cells.length B1 c1 b.Cells.length _ rfl rfl (hS8.inn [false, false, false, true] rfl [(true, 0), (true, 1)] rfl) hc2)) ?_
  rintro _ w_7 ⟨B3, c3, rfl, hd1⟩
  have hS9 := hS8.out [false, false, false, true] rfl hd1
  obtain ⟨⟨r_5, r_6⟩, hc3, hF2⟩ := bI hF2
  refine sc 30 rfl rfl (yC [pt (aD b4) 0, gM_ r_4 B3 c3] k_call_20 (c_spec_l2C_matrix m r_4 (aD b4) B3 c3 r_4.Cells.length _ rfl (hS9.inn [false, false, false, false, true] rfl [(false, 3)] rfl) hc3)) ?_
  rintro _ w_8 ⟨B4, c4, rfl, hd2⟩
  have hS10 := hS9.out [false, false, false, false, true] rfl hd2
  refine sQ 31 (ye (gM_ r_5 B4 c4)) <| sQ 32 (ye (.bool r_6)) ?_
  refine s0 (yT 2 3 (aD b3) 26 (gM_ r_5 B4 c4) (kM_ r_5 B4 c4) 0 hS10 K4) ?_
  rintro _ w_9 ⟨rfl, hS11⟩
  refine sQ 5 (yg (.bool r_6)) (rn (ct_ ?_))
  obtain ⟨rfl, rfl⟩ := pr2 (sI hF2)
  exact ret2 Tryz.results9 (v1 := gM_ r_5 B4 c4) (resAt_cellA (B := aD b3) (i := 0) (cs := kM_ r_5 B4 c4) (vs := kM_ r_5 B4 c4) rfl K9 K4 (hS11.c 2) rfl rfl) (v2 := .bool r_6) (resAt_tmp rfl) ⟨B4, c4, rfl, (hS11.sN [4])⟩

theorem c_impl_mulBloch (a : List TDyadic) (b : List TDyadic) (B : Option Addr) (c n : Nat) (B1 : Option Addr) (c1 n1 : Nat) (w0 : World) (hn : a.length = n) (hn1 : b.length = n1) (hS : ST w0 [] w0 [] [⟨B, (a.flatMap eN0)⟩, ⟨B1, (b.flatMap eN0)⟩]) {r_ : List TDyadic} {r_1 : Bool} (hF : F_impl_mulBloch a b = some (r_, r_1)) :
  CV Tryz.prog 23 #[.slice B n c, .slice B1 n1 c1] w0 (fun v w' => ∃ (B2 : Option Addr) (c2 : Nat), v = .tuple #[.slice B2 r_.length c2, .bool r_1] ∧ ST w0 [] w' [⟨B2, 43, (r_.flatMap eN0), c2 * 5⟩] []) := by
 subst hn
 subst hn1
 unfold F_impl_mulBloch at hF
 refine cv_of_cw 65 Tryz.func23 rfl Tryz.ntmps23 rfl ?_
 refine cq (cr ?_)
 refine sQ 4 (yg (.slice none 0 0)) <| sQ 5 (yg (.bool false)) (rn (cq (cr ?_)))
 refine sS 15 (Ys_bslice0 (s := 5) (e := 43) hS K7 K0 rfl) ?_
 rintro _ w_ ⟨b1, rfl, hS1⟩
 refine sQ 6 (yg (.slice (aD b1) 0 0)) (rn (cq (cq (cr ?_))))
 refine sQ 16 (ym (vi 0)) (rn ?_)
 obtain ⟨z, hz, hF1⟩ := bI hF
 refine cw_block ?_
 refine cw_loop (fun k f w => ∃ (i : Nat) (out : List TDyadic) (B3 : Option Addr) (c3 : Nat), FF f [(0, .slice B a.length c), (1, .slice B1 b.length c1), (6, .slice B3 out.length c3), (16, vi (i : Int))] ∧ ST w0 [] w [⟨B3, 43, (out.flatMap eN0), c3 * 5⟩] [⟨B, (a.flatMap eN0)⟩, ⟨B1, (b.flatMap eN0)⟩] ∧ i + k = 3 ∧ forX (F_impl_mulBloch_l1 a b) k i out = some z) 3 ⟨0, [], aD b1, 0, (fc rfl (fc rfl (fc rfl (fc rfl fn_)))), (hS1.sel [0] rfl rfl), Nat.zero_add _, hz⟩ ?_
 rintro k_ f w ⟨i, out, B3, c3, hf, hS2, hik, hL⟩
 refine cq (cr ?_)
 refine sQ 17 (yL (i : Int) 3 rfl (hf.g 16 3)) (rn (cq ?_))
 refine cw_cond (b := (decide ((i : Int) < 3))) rfl (fun hlt => ?_) (fun hlt => ?_)
 ·skip
  have hlt1 : i < 3 := by have h := of_decide_eq_true hlt; omega
  obtain ⟨K11, rfl⟩ : ∃ k2, k_ = k2 + 1 := ⟨k_ - 1, by omega⟩
  obtain ⟨y, hb, hL1⟩ := forX_go hL
  unfold F_impl_mulBloch_l1 at hb
  refine cw_skip (cq (cw_block (cq (cr ?_))))
  refine sQ 18 (ym (vi (i : Int)) rfl (hf.g 16 3)) <| sQ 7 (yg (vi (i : Int))) (rn (cq (cr ?_)))
  refine sQ 19 (ym (vi 0)) (rn ?_)
  obtain ⟨z1, hz1, hF2⟩ := bI hb
  refine cw_block ?_
  refine cw_loop (fun k f w => ∃ (i1 : Nat) (out1 : List TDyadic) (B4 : Option Addr) (c4 : Nat), FF f [(0, .slice B a.length c), (1, .slice B1 b.length c1), (6, .slice B4 out1.length c4), (7, vi (i : Int)), (16, vi (i : Int)), (19, vi (i1 : Int))] ∧ ST w0 [] w [⟨B4, 43, (out1.flatMap eN0), c4 * 5⟩] [⟨B, (a.flatMap eN0)⟩, ⟨B1, (b.flatMap eN0)⟩] ∧ i1 + k = 3 ∧ forX (F_impl_mulBloch_l2 a i b) k i1 out1 = some z1) 3 ⟨0, out, B3, c3, (fc (hf.g 0 0) (fc (hf.g 1 1) (fc (hf.g 6 2) (fc rfl (fc (hf.g 16 3) (fc rfl fn_)))))), (hS2.sel [0] rfl rfl), Nat.zero_add _, hz1⟩ ?_
  rintro K15 f w ⟨i1, out1, B4, c4, hf1, hS3, hik1, hL2⟩
  refine cq (cr ?_)
  refine sQ 20 (yL (i1 : Int) 3 rfl (hf1.g 19 5)) (rn (cq ?_))
  refine cw_cond (b := (decide ((i1 : Int) < 3))) rfl (fun hlt2 => ?_) (fun hlt2 => ?_)
  ·skip
   have hlt3 : i1 < 3 := by have h := of_decide_eq_true hlt2; omega
   obtain ⟨K29, rfl⟩ : ∃ k2, K15 = k2 + 1 := ⟨K15 - 1, by omega⟩
   obtain ⟨y1, hb1, hL3⟩ := forX_go hL2
   unfold F_impl_mulBloch_l2 at hb1
   refine cw_skip (cq (cw_block (cq (cr ?_))))
   refine sQ 21 (ym (vi (i1 : Int)) rfl (hf1.g 19 5)) <| sQ 8 (yg (vi (i1 : Int))) (rn (cq (cr ?_)))
   refine sQ 22 (Y_buildS (zs := kZ_) (vs := []) (cs := kZ_) K18 K6 rfl mpn rfl) ?_
   refine sS 9 (yN kZ_ 5 hS3 K6) ?_
   rintro _ w_1 ⟨b2, rfl, hS4⟩
   refine s0 (yT 1 5 (aD b2) 43 gZ_ kZ_ 0 hS4 K0) ?_
   rintro _ w_2 ⟨rfl, hS5⟩
   refine rn (cq (cq (cr ?_)))
   refine sQ 23 (ym (vi 0)) (rn ?_)
   obtain ⟨z2, hz2, hF3⟩ := bI hb1
   refine cw_block ?_
   refine cw_loop (fun k f w => ∃ (i2 : Nat) (A : Int) (B5 : Int) (C : Int) (D : Int) (Exp : Int), FF f [(0, .slice B a.length c), (1, .slice B1 b.length c1), (6, .slice B4 out1.length c4), (7, vi (i : Int)), (8, vi (i1 : Int)), (9, pt (aD b2) 0), (16, vi (i : Int)), (19, vi (i1 : Int)), (23, vi (i2 : Int))] ∧ ST w0 [] w [⟨B4, 43, (out1.flatMap eN0), c4 * 5⟩, ⟨aD b2, 43, [vi A, vi B5, vi C, vi D, vi Exp], 5⟩] [⟨B, (a.flatMap eN0)⟩, ⟨B1, (b.flatMap eN0)⟩] ∧ i2 + k = 3 ∧ forX (F_impl_mulBloch_l3 a i b i1) k i2 (A, B5, C, D, Exp) = some z2) 3 ⟨0, 0, 0, 0, 0, 0, (fc (hf1.g 0 0) (fc (hf1.g 1 1) (fc (hf1.g 6 2) (fc (hf1.g 7 3) (fc rfl (fc rfl (fc (hf1.g 16 4) (fc (hf1.g 19 5) (fc rfl fn_))))))))), (hS5.sel [0, 1] rfl rfl), Nat.zero_add _, hz2⟩ ?_
   rintro K17 f w ⟨i2, A, B5, C, D, Exp, hf2, hS6, hik2, hL4⟩
   refine cq (cr ?_)
   refine sQ 24 (yL (i2 : Int) 3 rfl (hf2.g 23 8)) (rn (cq ?_))
   refine cw_cond (b := (decide ((i2 : Int) < 3))) rfl (fun hlt4 => ?_) (fun hlt4 => ?_)
   ·skip
    have hlt5 : i2 < 3 := by have h := of_decide_eq_true hlt4; omega
    obtain ⟨K78, rfl⟩ : ∃ k2, K17 = k2 + 1 := ⟨K17 - 1, by omega⟩
    obtain ⟨y2, hb2, hL5⟩ := forX_go hL4
    unfold F_impl_mulBloch_l3 at hb2
    refine cw_skip (cq (cw_block (cq (cr ?_))))
    refine sQ 25 (ym (vi (i2 : Int)) rfl (hf2.g 23 8)) <| sQ 10 (yg (vi (i2 : Int))) (rn (cq ?_))
    obtain ⟨x, hx, hb2⟩ := bI hb2
    obtain ⟨x1, hx1, hb2⟩ := bI hb2
    obtain ⟨⟨r_2, r_3⟩, hc, hb2⟩ := bI hb2
    refine cw_mid (fun f w => ∃ (B6 : Option Addr), FF f [(0, .slice B a.length c), (1, .slice B1 b.length c1), (6, .slice B4 out1.length c4), (7, vi (i : Int)), (8, vi (i1 : Int)), (9, pt (aD b2) 0), (11, pt B6 0), (12, .bool r_3), (16, vi (i : Int)), (19, vi (i1 : Int)), (23, vi (i2 : Int))] ∧ ST w0 [] w [⟨B4, 43, (out1.flatMap eN0), c4 * 5⟩, ⟨aD b2, 43, [vi A, vi B5, vi C, vi D, vi Exp], 5⟩, ⟨B6, 43, kD_ r_2, 5⟩] [⟨B, (a.flatMap eN0)⟩, ⟨B1, (b.flatMap eN0)⟩]) ?_ ?_
    ·skip
     refine ra_start (hS6.se [0, 1]).fn (by kernel_rfl) ?_
     have hS9 := hS6.drew
     refine rq 0 27 (v := .slice B a.length c) rfl (hS9.se [0, 1]) (fun w' hw' => (ym (.slice B a.length c) rfl (hf2.g 0 0))) ?_
     refine rq 1 28 (v := vi (i : Int)) rfl (hS9.se [0, 1]) (fun w' hw' => (ym (vi (i : Int)) rfl (hf2.g 7 3))) ?_
     refine rq 2 29 (v := vi (i64.wrap (3 * (i : Int)))) rfl (hS9.se [0, 1]) (fun w' hw' => (yX 3 (i : Int))) ?_
     refine rq 3 30 (v := vi (i2 : Int)) rfl (hS9.se [0, 1]) (fun w' hw' => (ym (vi (i2 : Int)))) ?_
     refine rq 4 31 (v := vi (i64.wrap ((i64.wrap (3 * (i : Int))) + (i2 : Int)))) rfl (hS9.se [0, 1]) (fun w' hw' => (yP (i64.wrap (3 * (i : Int))) (i2 : Int))) ?_
     refine rq 5 32 (v := pt B ((i64.wrap ((i64.wrap (3 * (i : Int))) + (i2 : Int))).toNat * 5)) rfl (hS9.se [0, 1]) (fun w' hw' => (Y_index (B := B) (m := a.length) (c := c) (k := .i64) (i := (i64.wrap ((i64.wrap (3 * (i : Int))) + (i2 : Int)))) K7 K0 rfl rfl rfl (gi_isSome eN2 rfl (ST.rf hw' (i := 0) rfl) hx) (getI_nn hx) (getI_ltI hx rfl))) ?_
     refine rq 6 33 (v := gD_ x) rfl (hS9.se [0, 1]) (fun w' hw' => (ya B ((i64.wrap ((i64.wrap (3 * (i : Int))) + (i2 : Int))).toNat * 5) (a.flatMap eN0) (kD_ x) K5 K0 (ST.rf hw' (i := 0) rfl) rfl rfl (eN2 x) (gi_seg eN2 hx))) ?_
     refine rq 7 34 (v := .slice B1 b.length c1) rfl (hS9.se [0, 1]) (fun w' hw' => (ym (.slice B1 b.length c1) rfl (hf2.g 1 1))) ?_
     refine rq 8 35 (v := vi (i2 : Int)) rfl (hS9.se [0, 1]) (fun w' hw' => (ym (vi (i2 : Int)))) ?_
     refine rq 9 36 (v := vi (i64.wrap (3 * (i2 : Int)))) rfl (hS9.se [0, 1]) (fun w' hw' => (yX 3 (i2 : Int))) ?_
     refine rq 10 37 (v := vi (i1 : Int)) rfl (hS9.se [0, 1]) (fun w' hw' => (ym (vi (i1 : Int)) rfl (hf2.g 8 4))) ?_
     refine rq 11 38 (v := vi (i64.wrap ((i64.wrap (3 * (i2 : Int))) + (i1 : Int)))) rfl (hS9.se [0, 1]) (fun w' hw' => (yP (i64.wrap (3 * (i2 : Int))) (i1 : Int))) ?_
     refine rq 12 39 (v := pt B1 ((i64.wrap ((i64.wrap (3 * (i2 : Int))) + (i1 : Int))).toNat * 5)) rfl (hS9.se [0, 1]) (fun w' hw' => (Y_index (B := B1) (m := b.length) (c := c1) (k := .i64) (i := (i64.wrap ((i64.wrap (3 * (i2 : Int))) + (i1 : Int)))) K7 K0 rfl rfl rfl (gi_isSome eN2 rfl (ST.rf hw' (i := 1) rfl) hx1) (getI_nn hx1) (getI_ltI hx1 rfl))) ?_
     refine rq 13 40 (v := gD_ x1) rfl (hS9.se [0, 1]) (fun w' hw' => (ya B1 ((i64.wrap ((i64.wrap (3 * (i2 : Int))) + (i1 : Int))).toNat * 5) (b.flatMap eN0) (kD_ x1) K5 K0 (ST.rf hw' (i := 1) rfl) rfl rfl (eN2 x1) (gi_seg eN2 hx1))) ?_
     refine rA [14, 18] ?_
     refine rC 41 14 rfl (yC [gD_ x, gD_ x1] K50 (c_impl_MulDyadic x x1 _  (hS9.inn0 [] rfl) hc)) ?_ ?_
     ·rintro _ w_3 ⟨rfl, hd⟩
      have hS10 := hS9.out00 hd
      refine ⟨(hS10.se [0, 1]), ?_⟩
      refine rq 15 26 (v := .tuple #[gD_ r_2, .bool r_3]) rfl (hS10.se [0, 1]) (fun w' hw' => (ym (.tuple #[gD_ r_2, .bool r_3]))) ?_
      refine rq 16 42 (v := gD_ r_2) rfl (hS10.se [0, 1]) (fun w' hw' => (ye (gD_ r_2))) ?_
      refine rq 17 43 (v := .bool r_3) rfl (hS10.se [0, 1]) (fun w' hw' => (ye (.bool r_3))) ?_
      refine rA [18] ?_
      refine rS 11 18 rfl (yN kZ_ 5 hS10 K6) ?_ ?_
      ·rintro _ w_4 ⟨b3, rfl, hS11⟩
       refine ⟨(hS11.se [0, 1]), ?_⟩
       refine rA [19] ?_
       refine rZ 19 rfl (yT 2 5 (aD b3) 43 (gD_ r_2) (kD_ r_2) 0 hS11 K0) ?_ ?_
       ·rintro _ w_5 ⟨rfl, hS12⟩
        refine ⟨(hS12.se [0, 1]), ?_⟩
        refine rq 20 12 (v := .bool r_3) rfl (hS12.se [0, 1]) (fun w' hw' => (yg (.bool r_3))) ?_
        refine ra_done (by kernel_rfl) ?_
        exact ⟨aD b3, (fc (hf2.g 0 0) (fc (hf2.g 1 1) (fc (hf2.g 6 2) (fc (hf2.g 7 3) (fc (hf2.g 8 4) (fc (hf2.g 9 5) (fc rfl (fc rfl (fc (hf2.g 16 6) (fc (hf2.g 19 7) (fc (hf2.g 23 8) fn_))))))))))), (hS12.sel [0, 1, 2] rfl rfl)⟩
       exact aN
      exact aN
     refine rS 11 18 rfl (yN kZ_ 5 hS9 K6) ?_ ?_
     ·rintro _ w_6 ⟨b3, rfl, hS13⟩
      refine ⟨(hS13.se [0, 1]), ?_⟩
      refine rA [14] ?_
      refine rC 41 14 rfl (yC [gD_ x, gD_ x1] K50 (c_impl_MulDyadic x x1 _  (hS13.inn0 [] rfl) hc)) ?_ ?_
      ·rintro _ w_7 ⟨rfl, hd1⟩
       have hS14 := hS13.out00 hd1
       refine ⟨(hS14.se [0, 1]), ?_⟩
       refine rq 15 26 (v := .tuple #[gD_ r_2, .bool r_3]) rfl (hS14.se [0, 1]) (fun w' hw' => (ym (.tuple #[gD_ r_2, .bool r_3]))) ?_
       refine rq 16 42 (v := gD_ r_2) rfl (hS14.se [0, 1]) (fun w' hw' => (ye (gD_ r_2))) ?_
       refine rq 17 43 (v := .bool r_3) rfl (hS14.se [0, 1]) (fun w' hw' => (ye (.bool r_3))) ?_
       refine rA [19] ?_
       refine rZ 19 rfl (yT 2 5 (aD b3) 43 (gD_ r_2) (kD_ r_2) 0 hS14 K0) ?_ ?_
       ·rintro _ w_8 ⟨rfl, hS15⟩
        refine ⟨(hS15.se [0, 1]), ?_⟩
        refine rq 20 12 (v := .bool r_3) rfl (hS15.se [0, 1]) (fun w' hw' => (yg (.bool r_3))) ?_
        refine ra_done (by kernel_rfl) ?_
        exact ⟨aD b3, (fc (hf2.g 0 0) (fc (hf2.g 1 1) (fc (hf2.g 6 2) (fc (hf2.g 7 3) (fc (hf2.g 8 4) (fc (hf2.g 9 5) (fc rfl (fc rfl (fc (hf2.g 16 6) (fc (hf2.g 19 7) (fc (hf2.g 23 8) fn_))))))))))), (hS15.sel [0, 1, 2] rfl rfl)⟩
       exact aN
      exact aN
     exact aN
    rintro f w ⟨B6, hf3, hS8⟩
    refine cq (cr ?_)
    refine sQ 45 (yb (aD b2) 0 [vi A, vi B5, vi C, vi D, vi Exp] K5 K0 (hS8.c 1) rfl (hf3.g 9 5)) <| sQ 46 (yb B6 0 (kD_ r_2) K5 K0 (hS8.c 2) rfl (hf3.g 11 6)) ?_
    obtain ⟨⟨r_4, r_5⟩, hc1, hb2⟩ := bI hb2
    refine sc 47 rfl rfl (yC [.agg #[vi A, vi B5, vi C, vi D, vi Exp], gD_ r_2] K85 (c_impl_AddDyadic (TDyadic.mk (TRing.mk A B5 C D) Exp) r_2 _  (hS8.inn0 [] rfl) hc1)) ?_
    rintro _ w_9 ⟨rfl, hd2⟩
    have hS16 := hS8.out00 hd2
    refine sQ 44 (ym (.tuple #[gD_ r_4, .bool r_5])) <| sQ 48 (ye (gD_ r_4)) <| sQ 49 (ye (.bool r_5)) ?_
    refine sS 13 (yN kZ_ 5 hS16 K6) ?_
    rintro _ w_10 ⟨b4, rfl, hS17⟩
    refine s0 (yT 3 5 (aD b4) 43 (gD_ r_4) (kD_ r_4) 0 hS17 K0) ?_
    rintro _ w_11 ⟨rfl, hS18⟩
    refine sQ 14 (yg (.bool r_5)) (rn (cq (cq (cr ?_))))
    refine sQ 50 (ym (.bool r_3) rfl (hf3.g 12 7)) <| sQ 51 (Y_not (p := r_3) rfl rfl) <| sQ 52 (ym (.bool (!r_3))) ?_
    refine sgq 53 (B := (!(!r_3))) (v := .bool r_5) rfl rfl (uF_ 52) (fun hg => (ym (.bool r_5))) ?_
    refine sgq 54 (B := (!(!r_3))) (v := .bool (!r_5)) rfl rfl (uF_ 52) (fun hg1 => (Y_not (p := r_5) rfl (gv_of (v := .bool r_5) hg1))) ?_
    refine sQ 55 (Y_or (b := (!r_3)) (z := (!r_5)) rfl rfl rfl rfl) (rn ?_)
    refine cw_cond (b := ((!r_3) || (!r_5))) rfl (fun hb3 => ?_) (fun hb3 => ?_)
    ·skip
     have hF4 := ct hb2 hb3
     refine cq (cr ?_)
     refine sQ 4 (yg (.slice none 0 0)) <| sQ 5 (yg (.bool false)) (rn (ct_ ?_))
     have hS19 := hS18.addNil 43
     obtain rfl := sI hF4
     obtain rfl := sI hL5
     obtain rfl := sI hF3
     obtain rfl := sI hL3
     obtain rfl := sI hF2
     obtain rfl := sI hL1
     obtain ⟨rfl, rfl⟩ := pr2 (sI hF1)
     exact ret2 Tryz.results23 (v1 := .slice none 0 0) (resAt_tmp rfl) (v2 := .bool false) (resAt_tmp rfl) ⟨none, 0, rfl, (hS19.sN [4])⟩
    ·skip
     have hF5 := cf' hb2 hb3
     refine cw_skip (cr ?_)
     refine sQ 56 (yb (aD b4) 0 (kD_ r_4) K5 K0 (hS18.c 3)) ?_
     refine s0 (yT 1 5 (aD b2) 43 (gD_ r_4) (kD_ r_4) 0 hS18 K0 rfl (hf3.g 9 5)) ?_
     rintro _ w_12 ⟨rfl, hS20⟩
     refine rn (cr ?_)
     refine sQ 57 (yP (i2 : Int) 1 rfl (hf3.g 23 10)) <| sQ 23 (ym (vi (i64.wrap ((i2 : Int) + 1)))) (rn ?_)
     obtain rfl := sI hF5
     exact ⟨K78, Nat.lt_succ_self _, i2 + 1, r_4.Num.A, r_4.Num.B, r_4.Num.C, r_4.Num.D, r_4.Exp, (fc (hf3.g 0 0) (fc (hf3.g 1 1) (fc (hf3.g 6 2) (fc (hf3.g 7 3) (fc (hf3.g 8 4) (fc (hf3.g 9 5) (fc (hf3.g 16 8) (fc (hf3.g 19 9) (fc (congrArg (Value.int .i64) (wr_succ hlt5 (show 3 ≤ 9223372036854775807 by decide))) fn_))))))))), (hS20.sel [0, 1] rfl rfl), (by omega), hL5⟩
   ·skip
    obtain rfl : K17 = 0 := by have h := of_decide_eq_false hlt4; omega
    refine cw_exit rfl ?_
    obtain rfl := sI hL4
    refine cr ?_
    refine sQ 58 (ym (.slice B4 out1.length c4) rfl (hf2.g 6 2)) <| sQ 59 (yb (aD b2) 0 [vi A, vi B5, vi C, vi D, vi Exp] K5 K0 (hS6.c 1) rfl (hf2.g 9 5)) ?_
    refine sS 60 (Ys_bslice (s := 5) (len := 1) (vs := [(0, .agg #[vi A, vi B5, vi C, vi D, vi Exp])]) (cs := [vi A, vi B5, vi C, vi D, vi Exp]) (zs := kZ_) (m := 5) hS6 K7 K0 K31 rfl (mpc rfl mpn) rfl rfl rfl (by kernel_rfl) (by kernel_rfl) rfl) ?_
    rintro _ w_13 ⟨b5, rfl, hS21⟩
    obtain ⟨hap, hF3⟩ := chk_inv hF3
    refine sS 61 (Ys_append (s := 5) (by' := 40) (i := 0) (nn := out1.length) (c := c4) (k := 1) (len := (out1 ++ [(TDyadic.mk (TRing.mk A B5 C D) Exp)]).length) (B := B4) (xs := ([(TDyadic.mk (TRing.mk A B5 C D) Exp)].flatMap eN0)) (cs' := ((out1 ++ [(TDyadic.mk (TRing.mk A B5 C D) Exp)]).flatMap eN0)) hS21 K7 K0 K37 K6 rfl (by decide) rfl rfl rfl rfl (fm_lenn (l := out1) eN2 rfl) rfl (hS21.c 2) (fm_lenn (l := [(TDyadic.mk (TRing.mk A B5 C D) Exp)]) eN2 rfl) (fm_one' (enc := eN0) enc_Dyadic_one [(TDyadic.mk (TRing.mk A B5 C D) Exp)]) (by have := hap; omega) (by have := hap; simp only [maxLen]; omega) (fm_app _ _) (app_len (l := out1) (l' := [(TDyadic.mk (TRing.mk A B5 C D) Exp)]) rfl rfl)) ?_
    rintro _ w_14 ⟨B7, c5, rfl, hS22⟩
    refine sQ 6 (yg (.slice B7 ((out1 ++ [(TDyadic.mk (TRing.mk A B5 C D) Exp)]).length) c5)) (rn (cr ?_))
    refine sQ 62 (yP (i1 : Int) 1 rfl (hf2.g 19 7)) <| sQ 19 (ym (vi (i64.wrap ((i1 : Int) + 1)))) (rn ?_)
    obtain rfl := sI hF3
    exact ⟨K29, Nat.lt_succ_self _, i1 + 1, (out1 ++ [(TDyadic.mk (TRing.mk A B5 C D) Exp)]), B7, c5, (fc (hf2.g 0 0) (fc (hf2.g 1 1) (fc rfl (fc (hf2.g 7 3) (fc (hf2.g 16 6) (fc (congrArg (Value.int .i64) (wr_succ hlt3 (show 3 ≤ 9223372036854775807 by decide))) fn_)))))), (hS22.sel [0] rfl rfl), (by omega), hL3⟩
  ·skip
   obtain rfl : K15 = 0 := by have h := of_decide_eq_false hlt2; omega
   refine cw_exit rfl ?_
   obtain rfl := sI hL2
   refine cr ?_
   refine sQ 63 (yP (i : Int) 1 rfl (hf1.g 16 4)) <| sQ 16 (ym (vi (i64.wrap ((i : Int) + 1)))) (rn ?_)
   obtain rfl := sI hF2
   exact ⟨K11, Nat.lt_succ_self _, i + 1, out1, B4, c4, (fc (hf1.g 0 0) (fc (hf1.g 1 1) (fc (hf1.g 6 2) (fc (congrArg (Value.int .i64) (wr_succ hlt1 (show 3 ≤ 9223372036854775807 by decide))) fn_)))), (hS3.sel [0] rfl rfl), (by omega), hL1⟩
 ·skip
  obtain rfl : k_ = 0 := by have h := of_decide_eq_false hlt; omega
  refine cw_exit rfl ?_
  obtain rfl := sI hL
  refine cq (cr ?_)
  refine sQ 64 (ym (.slice B3 out.length c3) rfl (hf.g 6 2)) <| sQ 4 (yg (.slice B3 out.length c3)) <| sQ 5 (yg (.bool true)) (rn (ct_ ?_))
  obtain ⟨rfl, rfl⟩ := pr2 (sI hF1)
  exact ret2 Tryz.results23 (v1 := .slice B3 out.length c3) (resAt_tmp rfl) (v2 := .bool true) (resAt_tmp rfl) ⟨B3, c3, rfl, (hS2.sN [0])⟩

theorem c_impl_isReal (x : TDyadic)  (w0 : World)  (hS : ST w0 [] w0 [] []) {r_ : Bool} (hF : F_impl_isReal x = some r_) :
  CV Tryz.prog 47 #[gD_ x] w0 (fun v w' => v = .bool r_ ∧ ST w0 [] w' [] []) := by
 unfold F_impl_isReal at hF
 refine cv_of_cw 21 Tryz.func47 rfl Tryz.ntmps47 rfl ?_
 refine cq (cr ?_)
 refine sS 1 (yB 43 (gD_ x) (kD_ x) 5 hS) ?_
 rintro _ w_ ⟨b, rfl, hS1⟩
 refine sQ 2 (yg (.bool false)) (rn (cq (cr ?_)))
 refine sQ 3 (yb (aD b) 0 (kD_ x) K5 K0 (hS1.c 0)) ?_
 obtain ⟨r_1, hc, hF⟩ := bI hF
 refine sc 4 rfl rfl (yC [gD_ x] K66 (c_impl_IsValidDyadic x _  (hS1.inn0 [] rfl) hc)) ?_
 rintro _ w_1 ⟨rfl, hd⟩
 have hS2 := hS1.out00 hd
 refine sQ 5 (ym (.bool r_1)) ?_
 refine sgq 6 (B := r_1) (v := pt (aD b) 0) rfl rfl (uT_ 5) (fun hg => (yd (aD b) 0 3 K39 K3)) ?_
 refine sgq 7 (B := r_1) (v := pt (aD b) 2) rfl rfl (uT_ 5) (fun hg1 => (yd (aD b) 0 0 K22 K2 rfl (gv_of (v := pt (aD b) 0) hg1))) ?_
 refine sgq 8 (B := r_1) (v := vi x.Num.C) rfl rfl (uT_ 5) (fun hg2 => (yl (aD b) 2 (kD_ x) (vi x.Num.C) K1 (hS2.c 0) rfl (gv_of (v := pt (aD b) 2) hg2))) ?_
 refine sgq 9 (B := r_1) (v := .bool (x.Num.C == 0)) rfl rfl (uT_ 5) (fun hg3 => (yE x.Num.C 0 rfl (gv_of (v := vi x.Num.C) hg3))) ?_
 refine sQ 10 (Y_and (b := r_1) (z := (x.Num.C == 0)) rfl rfl rfl rfl) <| sQ 11 (ym (.bool (r_1 && (x.Num.C == 0)))) ?_
 refine sgq 12 (B := (r_1 && (x.Num.C == 0))) (v := pt (aD b) 0) rfl rfl (uT_ 11) (fun hg4 => (yd (aD b) 0 3 K39 K3)) ?_
 refine sgq 13 (B := (r_1 && (x.Num.C == 0))) (v := pt (aD b) 3) rfl rfl (uT_ 11) (fun hg5 => (yd (aD b) 0 0 K19 K2 rfl (gv_of (v := pt (aD b) 0) hg5))) ?_
 refine sgq 14 (B := (r_1 && (x.Num.C == 0))) (v := vi x.Num.D) rfl rfl (uT_ 11) (fun hg6 => (yl (aD b) 3 (kD_ x) (vi x.Num.D) K1 (hS2.c 0) rfl (gv_of (v := pt (aD b) 3) hg6))) ?_
 refine sgq 15 (B := (r_1 && (x.Num.C == 0))) (v := pt (aD b) 0) rfl rfl (uT_ 11) (fun hg7 => (yd (aD b) 0 3 K39 K3)) ?_
 refine sgq 16 (B := (r_1 && (x.Num.C == 0))) (v := pt (aD b) 1) rfl rfl (uT_ 11) (fun hg8 => (yd (aD b) 0 0 K21 K2 rfl (gv_of (v := pt (aD b) 0) hg8))) ?_
 refine sgq 17 (B := (r_1 && (x.Num.C == 0))) (v := vi x.Num.B) rfl rfl (uT_ 11) (fun hg9 => (yl (aD b) 1 (kD_ x) (vi x.Num.B) K1 (hS2.c 0) rfl (gv_of (v := pt (aD b) 1) hg9))) ?_
 refine sgq 18 (B := (r_1 && (x.Num.C == 0))) (v := vi (i64.wrap (-x.Num.B))) rfl rfl (uT_ 11) (fun hg10 => (Y_neg (k := .i64) (a := x.Num.B) rfl (gv_of (v := vi x.Num.B) hg10))) ?_
 refine sgq 19 (B := (r_1 && (x.Num.C == 0))) (v := .bool (x.Num.D == (i64.wrap (-x.Num.B)))) rfl rfl (uT_ 11) (fun hg11 => (yE x.Num.D (i64.wrap (-x.Num.B)) rfl (gv_of (v := vi x.Num.D) hg11) (gv_of (v := vi (i64.wrap (-x.Num.B))) hg11))) ?_
 refine sQ 20 (Y_and (b := (r_1 && (x.Num.C == 0))) (z := (x.Num.D == (i64.wrap (-x.Num.B)))) rfl rfl rfl rfl) <| sQ 2 (yg (.bool ((r_1 && (x.Num.C == 0)) && (x.Num.D == (i64.wrap (-x.Num.B)))))) (rn (ct_ ?_))
 obtain rfl := sI hF
 exact ret1 Tryz.results47 (v1 := .bool ((r_1 && (x.Num.C == 0)) && (x.Num.D == (i64.wrap (-x.Num.B))))) (resAt_tmp rfl) ⟨rfl, (hS2.sN [])⟩

theorem c_impl_IsValidBloch_1 (x : TDyadic)  (w0 : World)  (hS : ST w0 [] w0 [] []) {r_ : Bool} (hF : F_impl_IsValidBloch_1 x = some r_) :
  CV Tryz.prog 46 #[gD_ x] w0 (fun v w' => v = .bool r_ ∧ ST w0 [] w' [] []) := by
 unfold F_impl_IsValidBloch_1 at hF
 refine cv_of_cw 6 Tryz.func46 rfl Tryz.ntmps46 rfl ?_
 refine cq (cr ?_)
 refine sS 1 (yB 43 (gD_ x) (kD_ x) 5 hS) ?_
 rintro _ w_ ⟨b, rfl, hS1⟩
 refine sQ 2 (yg (.bool false)) (rn (cq (cr ?_)))
 refine sQ 3 (yb (aD b) 0 (kD_ x) K5 K0 (hS1.c 0)) ?_
 obtain ⟨r_1, hc, hF⟩ := bI hF
 refine sc 4 rfl rfl (yC [gD_ x] k_call_47 (c_impl_isReal x _  (hS1.inn0 [] rfl) hc)) ?_
 rintro _ w_1 ⟨rfl, hd⟩
 have hS2 := hS1.out00 hd
 refine sQ 5 (Y_not (p := r_1) rfl rfl) <| sQ 2 (yg (.bool (!r_1))) (rn (ct_ ?_))
 obtain rfl := sI hF
 exact ret1 Tryz.results46 (v1 := .bool (!r_1)) (resAt_tmp rfl) ⟨rfl, (hS2.sN [])⟩

theorem c_impl_transposed (a : List TDyadic) (B : Option Addr) (c n : Nat) (w0 : World) (hn : a.length = n) (hS : ST w0 [] w0 [] [⟨B, (a.flatMap eN0)⟩]) {r_ : List TDyadic} (hF : F_impl_transposed a = some r_) :
  CV Tryz.prog 48 #[.slice B n c] w0 (fun v w' => ∃ (B1 : Option Addr) (c1 : Nat), v = .slice B1 r_.length c1 ∧ ST w0 [] w' [⟨B1, 43, (r_.flatMap eN0), c1 * 5⟩] []) := by
 subst hn
 unfold F_impl_transposed at hF
 refine cv_of_cw 26 Tryz.func48 rfl Tryz.ntmps48 rfl ?_
 refine cq (cr ?_)
 refine sQ 2 (yg (.slice none 0 0)) (rn (cq (cr ?_)))
 refine sS 6 (Ys_bslice0 (s := 5) (e := 43) hS K7 K0 rfl) ?_
 rintro _ w_ ⟨b, rfl, hS1⟩
 refine sQ 3 (yg (.slice (aD b) 0 0)) (rn (cq (cq (cr ?_))))
 refine sQ 7 (ym (vi 0)) (rn ?_)
 obtain ⟨z, hz, hF1⟩ := bI hF
 refine cw_block ?_
 refine cw_loop (fun k f w => ∃ (i : Nat) (out : List TDyadic) (B2 : Option Addr) (c2 : Nat), FF f [(0, .slice B a.length c), (3, .slice B2 out.length c2), (7, vi (i : Int))] ∧ ST w0 [] w [⟨B2, 43, (out.flatMap eN0), c2 * 5⟩] [⟨B, (a.flatMap eN0)⟩] ∧ i + k = 3 ∧ forN (F_impl_transposed_l1 a) k i out = some z) 3 ⟨0, [], aD b, 0, (fc rfl (fc rfl (fc rfl fn_))), (hS1.sel [0] rfl rfl), Nat.zero_add _, hz⟩ ?_
 rintro k_ f w ⟨i, out, B2, c2, hf, hS2, hik, hL⟩
 refine cq (cr ?_)
 refine sQ 8 (yL (i : Int) 3 rfl (hf.g 7 2)) (rn (cq ?_))
 refine cw_cond (b := (decide ((i : Int) < 3))) rfl (fun hlt => ?_) (fun hlt => ?_)
 ·skip
  have hlt1 : i < 3 := by have h := of_decide_eq_true hlt; omega
  obtain ⟨K11, rfl⟩ : ∃ k2, k_ = k2 + 1 := ⟨k_ - 1, by omega⟩
  obtain ⟨y, hb, hL1⟩ := forN_go hL
  unfold F_impl_transposed_l1 at hb
  refine cw_skip (cq (cw_block (cq (cr ?_))))
  refine sQ 9 (ym (vi (i : Int)) rfl (hf.g 7 2)) <| sQ 4 (yg (vi (i : Int))) (rn (cq (cr ?_)))
  refine sQ 10 (ym (vi 0)) (rn ?_)
  obtain ⟨z1, hz1, hF2⟩ := bI hb
  refine cw_block ?_
  refine cw_loop (fun k f w => ∃ (i1 : Nat) (out1 : List TDyadic) (B3 : Option Addr) (c3 : Nat), FF f [(0, .slice B a.length c), (3, .slice B3 out1.length c3), (4, vi (i : Int)), (7, vi (i : Int)), (10, vi (i1 : Int))] ∧ ST w0 [] w [⟨B3, 43, (out1.flatMap eN0), c3 * 5⟩] [⟨B, (a.flatMap eN0)⟩] ∧ i1 + k = 3 ∧ forN (F_impl_transposed_l2 a i) k i1 out1 = some z1) 3 ⟨0, out, B2, c2, (fc (hf.g 0 0) (fc (hf.g 3 1) (fc rfl (fc (hf.g 7 2) (fc rfl fn_))))), (hS2.sel [0] rfl rfl), Nat.zero_add _, hz1⟩ ?_
  rintro K15 f w ⟨i1, out1, B3, c3, hf1, hS3, hik1, hL2⟩
  refine cq (cr ?_)
  refine sQ 11 (yL (i1 : Int) 3 rfl (hf1.g 10 4)) (rn (cq ?_))
  refine cw_cond (b := (decide ((i1 : Int) < 3))) rfl (fun hlt2 => ?_) (fun hlt2 => ?_)
  ·skip
   have hlt3 : i1 < 3 := by have h := of_decide_eq_true hlt2; omega
   obtain ⟨K29, rfl⟩ : ∃ k2, K15 = k2 + 1 := ⟨K15 - 1, by omega⟩
   obtain ⟨y1, hb1, hL3⟩ := forN_go hL2
   unfold F_impl_transposed_l2 at hb1
   refine cw_skip (cq (cw_block (cq (cr ?_))))
   refine sQ 12 (ym (vi (i1 : Int)) rfl (hf1.g 10 4)) <| sQ 5 (yg (vi (i1 : Int))) (rn (cr ?_))
   refine sQ 13 (ym (.slice B3 out1.length c3) rfl (hf1.g 3 1)) <| sQ 14 (ym (.slice B a.length c) rfl (hf1.g 0 0)) <| sQ 15 (ym (vi (i1 : Int))) <| sQ 16 (yX 3 (i1 : Int)) <| sQ 17 (ym (vi (i : Int)) rfl (hf1.g 4 2)) <| sQ 18 (yP (i64.wrap (3 * (i1 : Int))) (i : Int)) ?_
   obtain ⟨x, hx, hb1⟩ := bI hb1
   refine sQ 19 (Y_index (B := B) (m := a.length) (c := c) (k := .i64) (i := (i64.wrap ((i64.wrap (3 * (i1 : Int))) + (i : Int)))) K7 K0 rfl rfl rfl (gi_isSome eN2 rfl (hS3.rf (i := 0) rfl) hx) (getI_nn hx) (getI_ltI hx rfl)) <| sQ 20 (ya B ((i64.wrap ((i64.wrap (3 * (i1 : Int))) + (i : Int))).toNat * 5) (a.flatMap eN0) (kD_ x) K5 K0 (hS3.rf (i := 0) rfl) rfl rfl (eN2 x) (gi_seg eN2 hx)) ?_
   refine sS 21 (Ys_bslice (s := 5) (len := 1) (vs := [(0, gD_ x)]) (cs := kD_ x) (zs := kZ_) (m := 5) hS3 K7 K0 K31 rfl (mpc rfl mpn) rfl rfl rfl (by kernel_rfl) (by kernel_rfl) rfl) ?_
   rintro _ w_1 ⟨b1, rfl, hS4⟩
   obtain ⟨hap, hb1⟩ := chk_inv hb1
   refine sS 22 (Ys_append (s := 5) (by' := 40) (i := 0) (nn := out1.length) (c := c3) (k := 1) (len := (out1 ++ [x]).length) (B := B3) (xs := ([x].flatMap eN0)) (cs' := ((out1 ++ [x]).flatMap eN0)) hS4 K7 K0 K37 K6 rfl (by decide) rfl rfl rfl rfl (fm_lenn (l := out1) eN2 rfl) rfl (hS4.c 1) (fm_lenn (l := [x]) eN2 rfl) (fm_one' (enc := eN0) enc_Dyadic_one [x]) (by have := hap; omega) (by have := hap; simp only [maxLen]; omega) (fm_app _ _) (app_len (l := out1) (l' := [x]) rfl rfl)) ?_
   rintro _ w_2 ⟨B4, c4, rfl, hS5⟩
   refine sQ 3 (yg (.slice B4 ((out1 ++ [x]).length) c4)) (rn (cr ?_))
   refine sQ 23 (yP (i1 : Int) 1 rfl (hf1.g 10 4)) <| sQ 10 (ym (vi (i64.wrap ((i1 : Int) + 1)))) (rn ?_)
   obtain rfl := sI hb1
   exact ⟨K29, Nat.lt_succ_self _, i1 + 1, (out1 ++ [x]), B4, c4, (fc (hf1.g 0 0) (fc rfl (fc (hf1.g 4 2) (fc (hf1.g 7 3) (fc (congrArg (Value.int .i64) (wr_succ hlt3 (show 3 ≤ 9223372036854775807 by decide))) fn_))))), (hS5.sel [0] rfl rfl), (by omega), hL3⟩
  ·skip
   obtain rfl : K15 = 0 := by have h := of_decide_eq_false hlt2; omega
   refine cw_exit rfl ?_
   obtain rfl := sI hL2
   refine cr ?_
   refine sQ 24 (yP (i : Int) 1 rfl (hf1.g 7 3)) <| sQ 7 (ym (vi (i64.wrap ((i : Int) + 1)))) (rn ?_)
   obtain rfl := sI hF2
   exact ⟨K11, Nat.lt_succ_self _, i + 1, out1, B3, c3, (fc (hf1.g 0 0) (fc (hf1.g 3 1) (fc (congrArg (Value.int .i64) (wr_succ hlt1 (show 3 ≤ 9223372036854775807 by decide))) fn_))), (hS3.sel [0] rfl rfl), (by omega), hL1⟩
 ·skip
  obtain rfl : k_ = 0 := by have h := of_decide_eq_false hlt; omega
  refine cw_exit rfl ?_
  obtain rfl := sI hL
  refine cq (cr ?_)
  refine sQ 25 (ym (.slice B2 out.length c2) rfl (hf.g 3 1)) <| sQ 2 (yg (.slice B2 out.length c2)) (rn (ct_ ?_))
  obtain rfl := sI hF1
  exact ret1 Tryz.results48 (v1 := .slice B2 out.length c2) (resAt_tmp rfl) ⟨B2, c2, rfl, (hS2.sN [0])⟩

theorem c_impl_SubRing (x : TRing) (y : TRing)  (w0 : World)  (hS : ST w0 [] w0 [] []) {r_ : TRing} {r_1 : Bool} (hF : F_impl_SubRing x y = some (r_, r_1)) :
  CV Tryz.prog 116 #[gR_ x, gR_ y] w0 (fun v w' => v = .tuple #[gR_ r_, .bool r_1] ∧ ST w0 [] w' [] []) := by
 unfold F_impl_SubRing at hF
 refine cv_of_cw 33 Tryz.func116 rfl Tryz.ntmps116 rfl ?_
 refine cq (cr ?_)
 refine sS 2 (yB 41 (gR_ x) (kR_ x) 4 hS) ?_
 rintro _ w_ ⟨b, rfl, hS1⟩
 refine sS 3 (yB 41 (gR_ y) (kR_ y) 4 hS1) ?_
 rintro _ w_1 ⟨b1, rfl, hS2⟩
 refine sS 4 (yN [vi 0, vi 0, vi 0, vi 0] 4 hS2 K14) ?_
 rintro _ w_2 ⟨b2, rfl, hS3⟩
 refine sQ 5 (yg (.bool false)) (rn (cq (cr ?_)))
 refine sQ 6 (yd (aD b) 0 0 K20 K2) <| sQ 7 (yl (aD b) 0 (kR_ x) (vi x.A) K1 (hS3.c 0)) <| sQ 8 (yd (aD b1) 0 0 K20 K2) <| sQ 9 (yl (aD b1) 0 (kR_ y) (vi y.A) K1 (hS3.c 1)) <| sQ 10 (yM x.A y.A) <| sQ 11 (yd (aD b) 0 0 K21 K2) ?_
 refine sQ 12 (yl (aD b) 1 (kR_ x) (vi x.B) K1 (hS3.c 0)) <| sQ 13 (yd (aD b1) 0 0 K21 K2) <| sQ 14 (yl (aD b1) 1 (kR_ y) (vi y.B) K1 (hS3.c 1)) <| sQ 15 (yM x.B y.B) <| sQ 16 (yd (aD b) 0 0 K22 K2) <| sQ 17 (yl (aD b) 2 (kR_ x) (vi x.C) K1 (hS3.c 0)) ?_
 refine sQ 18 (yd (aD b1) 0 0 K22 K2) <| sQ 19 (yl (aD b1) 2 (kR_ y) (vi y.C) K1 (hS3.c 1)) <| sQ 20 (yM x.C y.C) <| sQ 21 (yd (aD b) 0 0 K19 K2) <| sQ 22 (yl (aD b) 3 (kR_ x) (vi x.D) K1 (hS3.c 0)) <| sQ 23 (yd (aD b1) 0 0 K19 K2) ?_
 refine sQ 24 (yl (aD b1) 3 (kR_ y) (vi y.D) K1 (hS3.c 1)) <| sQ 25 (yM x.D y.D) <| sQ 26 (Y_buildS (zs := [vi 0, vi 0, vi 0, vi 0]) (vs := [(0, vi (i64.wrap (x.A - y.A))), (1, vi (i64.wrap (x.B - y.B))), (2, vi (i64.wrap (x.C - y.C))), (3, vi (i64.wrap (x.D - y.D)))]) (cs := [vi (i64.wrap (x.A - y.A)), vi (i64.wrap (x.B - y.B)), vi (i64.wrap (x.C - y.C)), vi (i64.wrap (x.D - y.D))]) K26 K14 rfl (mpc rfl (mpc rfl (mpc rfl (mpc rfl mpn)))) rfl) <| sQ 27 (yb (aD b) 0 (kR_ x) K10 K3 (hS3.c 0)) <| sQ 28 (yb (aD b1) 0 (kR_ y) K10 K3 (hS3.c 1)) ?_
 refine sS 29 (Ys_bslice (s := 4) (len := 2) (vs := [(0, gR_ x), (1, gR_ y)]) (cs := [vi x.A, vi x.B, vi x.C, vi x.D, vi y.A, vi y.B, vi y.C, vi y.D]) (zs := [vi 0, vi 0, vi 0, vi 0, vi 0, vi 0, vi 0, vi 0]) (m := 8) hS3 K53 K3 K67 rfl (mpc rfl (mpc rfl mpn)) rfl rfl rfl (by kernel_rfl) (by kernel_rfl) rfl) ?_
 rintro _ w_3 ⟨b3, rfl, hS4⟩
 obtain ⟨⟨r_2, r_3⟩, hc, hF⟩ := bI hF
 refine sc 30 rfl rfl (yC [.agg #[vi (i64.wrap (x.A - y.A)), vi (i64.wrap (x.B - y.B)), vi (i64.wrap (x.C - y.C)), vi (i64.wrap (x.D - y.D))], .slice (aD b3) 2 2] K71 (c_impl_ringIf (TRing.mk (i64.wrap (x.A - y.A)) (i64.wrap (x.B - y.B)) (i64.wrap (x.C - y.C)) (i64.wrap (x.D - y.D))) [x, y] (aD b3) 2 2 _ rfl (hS4.inn [false, false, false, true] rfl [] rfl) hc)) ?_
 rintro _ w_4 ⟨rfl, hd⟩
 have hS5 := hS4.out [false, false, false, true] rfl hd
 refine sQ 31 (ye (gR_ r_2)) <| sQ 32 (ye (.bool r_3)) ?_
 refine s0 (yT 2 4 (aD b2) 41 (gR_ r_2) (kR_ r_2) 0 hS5 K3) ?_
 rintro _ w_5 ⟨rfl, hS6⟩
 refine sQ 5 (yg (.bool r_3)) (rn (ct_ ?_))
 obtain ⟨rfl, rfl⟩ := pr2 (sI hF)
 exact ret2 Tryz.results116 (v1 := gR_ r_2) (resAt_cellA (B := aD b2) (i := 0) (cs := kR_ r_2) (vs := kR_ r_2) rfl K10 K3 (hS6.c 2) rfl rfl) (v2 := .bool r_3) (resAt_tmp rfl) ⟨rfl, (hS6.sN [])⟩

theorem c_impl_SubDyadic (x : TDyadic) (y : TDyadic)  (w0 : World)  (hS : ST w0 [] w0 [] []) {r_ : TDyadic} {r_1 : Bool} (hF : F_impl_SubDyadic x y = some (r_, r_1)) :
  CV Tryz.prog 93 #[gD_ x, gD_ y] w0 (fun v w' => v = .tuple #[gD_ r_, .bool r_1] ∧ ST w0 [] w' [] []) := by
 unfold F_impl_SubDyadic at hF
 refine cv_of_cw 11 Tryz.func93 rfl Tryz.ntmps93 rfl ?_
 refine cq (cr ?_)
 refine sS 2 (yB 43 (gD_ x) (kD_ x) 5 hS) ?_
 rintro _ w_ ⟨b, rfl, hS1⟩
 refine sS 3 (yB 43 (gD_ y) (kD_ y) 5 hS1) ?_
 rintro _ w_1 ⟨b1, rfl, hS2⟩
 refine sS 4 (yN kZ_ 5 hS2 K6) ?_
 rintro _ w_2 ⟨b2, rfl, hS3⟩
 refine sQ 5 (yg (.bool false)) (rn (cq (cr ?_)))
 refine sQ 6 (yb (aD b) 0 (kD_ x) K5 K0 (hS3.c 0)) <| sQ 7 (yb (aD b1) 0 (kD_ y) K5 K0 (hS3.c 1)) ?_
 obtain ⟨⟨r_2, r_3⟩, hc, hF⟩ := bI hF
 refine sc 8 rfl rfl (yC [gD_ x, gD_ y, .func (.func 116) #[] #[]] k_call_94 (c_impl_combined x y F_impl_SubRing 116 (#[]) [] _ k_call_116 (fun w hw x_0 x_1 y_0 y_1 h_ => c_impl_SubRing x_0 x_1  w  hw h_) (hS3.inn0 [] rfl) hc)) ?_
 rintro _ w_3 ⟨rfl, hd⟩
 have hS4 := hS3.out00 hd
 refine sQ 9 (ye (gD_ r_2)) <| sQ 10 (ye (.bool r_3)) ?_
 refine s0 (yT 2 5 (aD b2) 43 (gD_ r_2) (kD_ r_2) 0 hS4 K0) ?_
 rintro _ w_4 ⟨rfl, hS5⟩
 refine sQ 5 (yg (.bool r_3)) (rn (ct_ ?_))
 obtain ⟨rfl, rfl⟩ := pr2 (sI hF)
 exact ret2 Tryz.results93 (v1 := gD_ r_2) (resAt_cellA (B := aD b2) (i := 0) (cs := kD_ r_2) (vs := kD_ r_2) rfl K5 K0 (hS5.c 2) rfl rfl) (v2 := .bool r_3) (resAt_tmp rfl) ⟨rfl, (hS5.sN [])⟩

theorem c_impl_minor (a : TDyadic) (b : TDyadic) (c : TDyadic) (d : TDyadic)  (w0 : World)  (hS : ST w0 [] w0 [] []) {r_ : TDyadic} {r_1 : Bool} (hF : F_impl_minor a b c d = some (r_, r_1)) :
  CV Tryz.prog 92 #[gD_ a, gD_ b, gD_ c, gD_ d] w0 (fun v w' => v = .tuple #[gD_ r_, .bool r_1] ∧ ST w0 [] w' [] []) := by
 unfold F_impl_minor at hF
 refine cv_of_cw 42 Tryz.func92 rfl Tryz.ntmps92 rfl ?_
 refine cq (cr ?_)
 refine sS 4 (yB 43 (gD_ a) (kD_ a) 5 hS) ?_
 rintro _ w_ ⟨b1, rfl, hS1⟩
 refine sS 5 (yB 43 (gD_ b) (kD_ b) 5 hS1) ?_
 rintro _ w_1 ⟨b2, rfl, hS2⟩
 refine sS 6 (yB 43 (gD_ c) (kD_ c) 5 hS2) ?_
 rintro _ w_2 ⟨b3, rfl, hS3⟩
 refine sS 7 (yB 43 (gD_ d) (kD_ d) 5 hS3) ?_
 rintro _ w_3 ⟨b4, rfl, hS4⟩
 refine sS 8 (yN kZ_ 5 hS4 K6) ?_
 rintro _ w_4 ⟨b5, rfl, hS5⟩
 refine sQ 9 (yg (.bool false)) (rn (cq (cr ?_)))
 refine sQ 17 (yb (aD b1) 0 (kD_ a) K5 K0 (hS5.c 0)) <| sQ 18 (yb (aD b4) 0 (kD_ d) K5 K0 (hS5.c 3)) ?_
 obtain ⟨⟨r_2, r_3⟩, hc, hF⟩ := bI hF
 refine sc 19 rfl rfl (yC [gD_ a, gD_ d] K50 (c_impl_MulDyadic a d _  (hS5.inn0 [] rfl) hc)) ?_
 rintro _ w_5 ⟨rfl, hd⟩
 have hS6 := hS5.out00 hd
 refine sQ 16 (ym (.tuple #[gD_ r_2, .bool r_3])) <| sQ 20 (ye (gD_ r_2)) <| sQ 21 (ye (.bool r_3)) ?_
 refine sS 10 (yN kZ_ 5 hS6 K6) ?_
 rintro _ w_6 ⟨b6, rfl, hS7⟩
 refine s0 (yT 5 5 (aD b6) 43 (gD_ r_2) (kD_ r_2) 0 hS7 K0) ?_
 rintro _ w_7 ⟨rfl, hS8⟩
 refine sQ 11 (yg (.bool r_3)) (rn (cq (cr ?_)))
 refine sQ 23 (yb (aD b2) 0 (kD_ b) K5 K0 (hS8.c 1)) <| sQ 24 (yb (aD b3) 0 (kD_ c) K5 K0 (hS8.c 2)) ?_
 obtain ⟨⟨r_4, r_5⟩, hc1, hF⟩ := bI hF
 refine sc 25 rfl rfl (yC [gD_ b, gD_ c] K50 (c_impl_MulDyadic b c _  (hS8.inn0 [] rfl) hc1)) ?_
 rintro _ w_8 ⟨rfl, hd1⟩
 have hS9 := hS8.out00 hd1
 refine sQ 22 (ym (.tuple #[gD_ r_4, .bool r_5])) <| sQ 26 (ye (gD_ r_4)) <| sQ 27 (ye (.bool r_5)) ?_
 refine sS 12 (yN kZ_ 5 hS9 K6) ?_
 rintro _ w_9 ⟨b7, rfl, hS10⟩
 refine s0 (yT 6 5 (aD b7) 43 (gD_ r_4) (kD_ r_4) 0 hS10 K0) ?_
 rintro _ w_10 ⟨rfl, hS11⟩
 refine sQ 13 (yg (.bool r_5)) (rn (cq (cr ?_)))
 refine sQ 29 (yb (aD b6) 0 (kD_ r_2) K5 K0 (hS11.c 5)) <| sQ 30 (yb (aD b7) 0 (kD_ r_4) K5 K0 (hS11.c 6)) ?_
 obtain ⟨⟨r_6, r_7⟩, hc2, hF⟩ := bI hF
 refine sc 31 rfl rfl (yC [gD_ r_2, gD_ r_4] k_call_93 (c_impl_SubDyadic r_2 r_4 _  (hS11.inn0 [] rfl) hc2)) ?_
 rintro _ w_11 ⟨rfl, hd2⟩
 have hS12 := hS11.out00 hd2
 refine sQ 28 (ym (.tuple #[gD_ r_6, .bool r_7])) <| sQ 32 (ye (gD_ r_6)) <| sQ 33 (ye (.bool r_7)) ?_
 refine sS 14 (yN kZ_ 5 hS12 K6) ?_
 rintro _ w_12 ⟨b8, rfl, hS13⟩
 refine s0 (yT 7 5 (aD b8) 43 (gD_ r_6) (kD_ r_6) 0 hS13 K0) ?_
 rintro _ w_13 ⟨rfl, hS14⟩
 refine sQ 15 (yg (.bool r_7)) (rn (cq (cr ?_)))
 refine sQ 34 (yb (aD b8) 0 (kD_ r_6) K5 K0 (hS14.c 7)) <| sQ 35 (ym (.bool r_3)) <| sQ 36 (ym (.bool r_3)) ?_
 refine sgq 37 (B := r_3) (v := .bool r_5) rfl rfl (uT_ 36) (fun hg => (ym (.bool r_5))) ?_
 refine sQ 38 (Y_and (b := r_3) (z := r_5) rfl rfl rfl rfl) <| sQ 39 (ym (.bool (r_3 && r_5))) ?_
 refine sgq 40 (B := (r_3 && r_5)) (v := .bool r_7) rfl rfl (uT_ 39) (fun hg1 => (ym (.bool r_7))) ?_
 refine sQ 41 (Y_and (b := (r_3 && r_5)) (z := r_7) rfl rfl rfl rfl) ?_
 refine s0 (yT 4 5 (aD b5) 43 (gD_ r_6) (kD_ r_6) 0 hS14 K0) ?_
 rintro _ w_14 ⟨rfl, hS15⟩
 refine sQ 9 (yg (.bool ((r_3 && r_5) && r_7))) (rn (ct_ ?_))
 obtain ⟨rfl, rfl⟩ := pr2 (sI hF)
 exact ret2 Tryz.results92 (v1 := gD_ r_6) (resAt_cellA (B := aD b5) (i := 0) (cs := kD_ r_6) (vs := kD_ r_6) rfl K5 K0 (hS15.c 4) rfl rfl) (v2 := .bool ((r_3 && r_5) && r_7)) (resAt_tmp rfl) ⟨rfl, (hS15.sN [])⟩

theorem c_impl_determinant (a : List TDyadic) (B : Option Addr) (c n : Nat) (w0 : World) (hn : a.length = n) (hS : ST w0 [] w0 [] [⟨B, (a.flatMap eN0)⟩]) {r_ : TDyadic} {r_1 : Bool} (hF : F_impl_determinant a = some (r_, r_1)) :
  CV Tryz.prog 49 #[.slice B n c] w0 (fun v w' => v = .tuple #[gD_ r_, .bool r_1] ∧ ST w0 [] w' [] []) := by
 subst hn
 unfold F_impl_determinant at hF
 refine cv_of_cw 88 Tryz.func49 rfl Tryz.ntmps49 rfl ?_
 refine cq (cr ?_)
 refine sS 2 (yN kZ_ 5 hS K6) ?_
 rintro _ w_ ⟨b, rfl, hS1⟩
 refine sQ 3 (yg (.bool false)) (rn (cq (cr ?_)))
 refine sQ 15 (Y_buildS (zs := kZ_) (vs := []) (cs := kZ_) K18 K6 rfl mpn rfl) ?_
 refine sS 4 (yN kZ_ 5 hS1 K6) ?_
 rintro _ w_1 ⟨b1, rfl, hS2⟩
 refine s0 (yT 1 5 (aD b1) 43 gZ_ kZ_ 0 hS2 K0) ?_
 rintro _ w_2 ⟨rfl, hS3⟩
 refine rn (cq (cq (cr ?_)))
 refine sQ 16 (ym (vi 0)) (rn ?_)
 obtain ⟨z, hz, hF1⟩ := bI hF
 refine cw_block ?_
 refine cw_loop (fun k f w => ∃ (i : Nat) (A : Int) (B1 : Int) (C : Int) (D : Int) (Exp : Int), FF f [(0, .slice B a.length c), (2, pt (aD b) 0), (4, pt (aD b1) 0), (16, vi (i : Int))] ∧ ST w0 [] w [⟨aD b, 43, kZ_, 5⟩, ⟨aD b1, 43, [vi A, vi B1, vi C, vi D, vi Exp], 5⟩] [⟨B, (a.flatMap eN0)⟩] ∧ i + k = 3 ∧ forX (F_impl_determinant_l1 a) k i (A, B1, C, D, Exp) = some z) 3 ⟨0, 0, 0, 0, 0, 0, (fc rfl (fc rfl (fc rfl (fc rfl fn_)))), (hS3.sel [0, 1] rfl rfl), Nat.zero_add _, hz⟩ ?_
 rintro k_ f w ⟨i, A, B1, C, D, Exp, hf, hS4, hik, hL⟩
 refine cq (cr ?_)
 refine sQ 17 (yL (i : Int) 3 rfl (hf.g 16 3)) (rn (cq ?_))
 refine cw_cond (b := (decide ((i : Int) < 3))) rfl (fun hlt => ?_) (fun hlt => ?_)
 ·skip
  have hlt1 : i < 3 := by have h := of_decide_eq_true hlt; omega
  obtain ⟨K11, rfl⟩ : ∃ k2, k_ = k2 + 1 := ⟨k_ - 1, by omega⟩
  obtain ⟨y, hb, hL1⟩ := forX_go hL
  unfold F_impl_determinant_l1 at hb
  refine cw_skip (cq (cw_block (cq (cr ?_))))
  refine sQ 18 (ym (vi (i : Int)) rfl (hf.g 16 3)) <| sQ 5 (yg (vi (i : Int))) (rn (cq (cr ?_)))
  refine sS 19 (Ys_bslice0 (s := 5) (e := 43) hS4 K7 K0 rfl) ?_
  rintro _ w_3 ⟨b2, rfl, hS5⟩
  refine sQ 6 (yg (.slice (aD b2) 0 0)) (rn (cq (cq (cr ?_))))
  refine sQ 20 (ym (vi 0)) (rn ?_)
  obtain ⟨z1, hz1, hF2⟩ := bI hb
  refine cw_block ?_
  refine cw_loop (fun k f w => ∃ (i1 : Nat) (rest_ : List TDyadic) (B2 : Option Addr) (c1 : Nat), FF f [(0, .slice B a.length c), (2, pt (aD b) 0), (4, pt (aD b1) 0), (5, vi (i : Int)), (6, .slice B2 rest_.length c1), (16, vi (i : Int)), (20, vi (i1 : Int))] ∧ ST w0 [] w [⟨aD b, 43, kZ_, 5⟩, ⟨aD b1, 43, [vi A, vi B1, vi C, vi D, vi Exp], 5⟩, ⟨B2, 43, (rest_.flatMap eN0), c1 * 5⟩] [⟨B, (a.flatMap eN0)⟩] ∧ i1 + k = 3 ∧ forN (F_impl_determinant_l2 i a) k i1 rest_ = some z1) 3 ⟨0, [], aD b2, 0, (fc (hf.g 0 0) (fc (hf.g 2 1) (fc (hf.g 4 2) (fc rfl (fc rfl (fc (hf.g 16 3) (fc rfl fn_))))))), (hS5.sel [0, 1, 2] rfl rfl), Nat.zero_add _, hz1⟩ ?_
  rintro K15 f w ⟨i1, rest_, B2, c1, hf1, hS6, hik1, hL2⟩
  refine cq (cr ?_)
  refine sQ 21 (yL (i1 : Int) 3 rfl (hf1.g 20 6)) (rn (cq ?_))
  refine cw_cond (b := (decide ((i1 : Int) < 3))) rfl (fun hlt2 => ?_) (fun hlt2 => ?_)
  ·skip
   have hlt3 : i1 < 3 := by have h := of_decide_eq_true hlt2; omega
   obtain ⟨K29, rfl⟩ : ∃ k2, K15 = k2 + 1 := ⟨K15 - 1, by omega⟩
   obtain ⟨y1, hb1, hL3⟩ := forN_go hL2
   unfold F_impl_determinant_l2 at hb1
   refine cw_skip (cq ?_)
   obtain ⟨z2, hz2, hF3⟩ := bI hb1
   refine cw_mid (fun f w => ∃ (rest_1 : List TDyadic) (B3 : Option Addr) (c2 : Nat), rest_1 = z2 ∧ FF f [(0, .slice B a.length c), (2, pt (aD b) 0), (4, pt (aD b1) 0), (5, vi (i : Int)), (6, .slice B3 rest_1.length c2), (16, vi (i : Int)), (20, vi (i1 : Int))] ∧ ST w0 [] w [⟨aD b, 43, kZ_, 5⟩, ⟨aD b1, 43, [vi A, vi B1, vi C, vi D, vi Exp], 5⟩, ⟨B3, 43, (rest_1.flatMap eN0), c2 * 5⟩] [⟨B, (a.flatMap eN0)⟩]) ?_ ?_
   ·skip
    refine cw_block (cq (cr ?_))
    refine sQ 22 (ym (vi (i1 : Int)) rfl (hf1.g 20 6)) <| sQ 7 (yg (vi (i1 : Int))) (rn (cq (cr ?_)))
    refine sQ 23 (ym (vi (i1 : Int))) <| sQ 24 (ym (vi (i : Int)) rfl (hf1.g 5 3)) <| sQ 25 (Y_ne (k := .i64) (a := (i1 : Int)) (b := (i : Int)) rfl rfl rfl) (rn ?_)
    refine cw_cond (b := ((i1 : Int) != (i : Int))) rfl (fun hb2 => ?_) (fun hb2 => ?_)
    ·skip
     have hF4 := ct hz2 hb2
     obtain ⟨x, hx, hF4⟩ := bI hF4
     obtain ⟨x1, hx1, hF4⟩ := bI hF4
     obtain ⟨hap, hF4⟩ := chk_inv hF4
     refine ra_start (hS6.se [0, 1]).fn (by kernel_rfl) ?_
     have hS8 := hS6.drew
     refine rq 0 26 (v := .slice B2 rest_.length c1) rfl (hS8.se [0, 1]) (fun w' hw' => (ym (.slice B2 rest_.length c1) rfl (hf1.g 6 4))) ?_
     refine rq 1 27 (v := .slice B a.length c) rfl (hS8.se [0, 1]) (fun w' hw' => (ym (.slice B a.length c) rfl (hf1.g 0 0))) ?_
     refine rq 2 28 (v := vi (i1 : Int)) rfl (hS8.se [0, 1]) (fun w' hw' => (ym (vi (i1 : Int)))) ?_
     refine rq 3 29 (v := vi (i64.wrap (3 + (i1 : Int)))) rfl (hS8.se [0, 1]) (fun w' hw' => (yP 3 (i1 : Int))) ?_
     refine rq 4 30 (v := pt B ((i64.wrap (3 + (i1 : Int))).toNat * 5)) rfl (hS8.se [0, 1]) (fun w' hw' => (Y_index (B := B) (m := a.length) (c := c) (k := .i64) (i := (i64.wrap (3 + (i1 : Int)))) K7 K0 rfl rfl rfl (gi_isSome eN2 rfl (ST.rf hw' (i := 0) rfl) hx) (getI_nn hx) (getI_ltI hx rfl))) ?_
     refine rq 5 31 (v := gD_ x) rfl (hS8.se [0, 1]) (fun w' hw' => (ya B ((i64.wrap (3 + (i1 : Int))).toNat * 5) (a.flatMap eN0) (kD_ x) K5 K0 (ST.rf hw' (i := 0) rfl) rfl rfl (eN2 x) (gi_seg eN2 hx))) ?_
     refine rq 6 32 (v := .slice B a.length c) rfl (hS8.se [0, 1]) (fun w' hw' => (ym (.slice B a.length c) rfl (hf1.g 0 0))) ?_
     refine rq 7 33 (v := vi (i1 : Int)) rfl (hS8.se [0, 1]) (fun w' hw' => (ym (vi (i1 : Int)))) ?_
     refine rq 8 34 (v := vi (i64.wrap (6 + (i1 : Int)))) rfl (hS8.se [0, 1]) (fun w' hw' => (yP 6 (i1 : Int))) ?_
     refine rq 9 35 (v := pt B ((i64.wrap (6 + (i1 : Int))).toNat * 5)) rfl (hS8.se [0, 1]) (fun w' hw' => (Y_index (B := B) (m := a.length) (c := c) (k := .i64) (i := (i64.wrap (6 + (i1 : Int)))) K7 K0 rfl rfl rfl (gi_isSome eN2 rfl (ST.rf hw' (i := 0) rfl) hx1) (getI_nn hx1) (getI_ltI hx1 rfl))) ?_
     refine rq 10 36 (v := gD_ x1) rfl (hS8.se [0, 1]) (fun w' hw' => (ya B ((i64.wrap (6 + (i1 : Int))).toNat * 5) (a.flatMap eN0) (kD_ x1) K5 K0 (ST.rf hw' (i := 0) rfl) rfl rfl (eN2 x1) (gi_seg eN2 hx1))) ?_
     refine rA [11] ?_
     refine rS 37 11 rfl (Ys_bslice (s := 5) (len := 2) (vs := [(0, gD_ x), (1, gD_ x1)]) (cs := [vi x.Num.A, vi x.Num.B, vi x.Num.C, vi x.Num.D, vi x.Exp, vi x1.Num.A, vi x1.Num.B, vi x1.Num.C, vi x1.Num.D, vi x1.Exp]) (zs := [vi 0, vi 0, vi 0, vi 0, vi 0, vi 0, vi 0, vi 0, vi 0, vi 0]) (m := 10) hS8 K7 K0 K31 rfl (mpc rfl (mpc rfl mpn)) rfl rfl rfl (by kernel_rfl) (by kernel_rfl) rfl) ?_ ?_
     ·rintro _ w_4 ⟨b3, rfl, hS9⟩
      refine ⟨(hS9.se [0, 1]), ?_⟩
      refine rA [12] ?_
      refine rS 38 12 rfl (Ys_append (s := 5) (by' := 40) (i := 2) (nn := rest_.length) (c := c1) (k := 2) (len := (rest_ ++ [x, x1]).length) (B := B2) (xs := ([x, x1].flatMap eN0)) (cs' := ((rest_ ++ [x, x1]).flatMap eN0)) hS9 K7 K0 K37 K6 rfl (by decide) rfl rfl rfl rfl (fm_lenn (l := rest_) eN2 rfl) rfl (hS9.c 3) (fm_lenn (l := [x, x1]) eN2 rfl) (fm_one' (enc := eN0) enc_Dyadic_one [x, x1]) (by have := hap; omega) (by have := hap; simp only [maxLen]; omega) (fm_app _ _) (app_len (l := rest_) (l' := [x, x1]) rfl rfl)) ?_ ?_
      ·rintro _ w_5 ⟨B4, c3, rfl, hS10⟩
       refine ⟨(hS10.se [0, 1]), ?_⟩
       refine rq 13 6 (v := .slice B4 ((rest_ ++ [x, x1]).length) c3) rfl (hS10.se [0, 1]) (fun w' hw' => (yg (.slice B4 ((rest_ ++ [x, x1]).length) c3))) ?_
       refine ra_done (by kernel_rfl) ?_
       exact ⟨(rest_ ++ [x, x1]), B4, c3, (sI hF4), (fc (hf1.g 0 0) (fc (hf1.g 2 1) (fc (hf1.g 4 2) (fc (hf1.g 5 3) (fc rfl (fc (hf1.g 16 5) (fc (hf1.g 20 6) fn_))))))), (hS10.sel [0, 1, 2] rfl rfl)⟩
      exact aN
     exact aN
    ·skip
     have hF5 := cf' hz2 hb2
     refine cw_skip ?_
     exact ⟨rest_, B2, c1, (sI hF5), (fc (hf1.g 0 0) (fc (hf1.g 2 1) (fc (hf1.g 4 2) (fc (hf1.g 5 3) (fc (hf1.g 6 4) (fc (hf1.g 16 5) (fc (hf1.g 20 6) fn_))))))), (hS6.sel [0, 1, 2] rfl rfl)⟩
   rintro f w ⟨rest_1, B3, c2, rfl, hf2, hS7⟩
   refine cr ?_
   refine sQ 39 (yP (i1 : Int) 1 rfl (hf2.g 20 6)) <| sQ 20 (ym (vi (i64.wrap ((i1 : Int) + 1)))) (rn ?_)
   obtain rfl := sI hF3
   exact ⟨K29, Nat.lt_succ_self _, i1 + 1, rest_1, B3, c2, (fc (hf2.g 0 0) (fc (hf2.g 2 1) (fc (hf2.g 4 2) (fc (hf2.g 5 3) (fc (hf2.g 6 4) (fc (hf2.g 16 5) (fc (congrArg (Value.int .i64) (wr_succ hlt3 (show 3 ≤ 9223372036854775807 by decide))) fn_))))))), (hS7.sel [0, 1, 2] rfl rfl), (by omega), hL3⟩
  ·skip
   obtain rfl : K15 = 0 := by have h := of_decide_eq_false hlt2; omega
   refine cw_exit rfl ?_
   obtain rfl := sI hL2
   refine cq ?_
   obtain ⟨x2, hx2, hF2⟩ := bI hF2
   obtain ⟨x3, hx3, hF2⟩ := bI hF2
   obtain ⟨x4, hx4, hF2⟩ := bI hF2
   obtain ⟨x5, hx5, hF2⟩ := bI hF2
   obtain ⟨⟨r_2, r_3⟩, hc, hF2⟩ := bI hF2
   refine cw_mid (fun f w => ∃ (B5 : Option Addr), FF f [(0, .slice B a.length c), (2, pt (aD b) 0), (4, pt (aD b1) 0), (5, vi (i : Int)), (8, pt B5 0), (9, .bool r_3), (16, vi (i : Int))] ∧ ST w0 [] w [⟨aD b, 43, kZ_, 5⟩, ⟨aD b1, 43, [vi A, vi B1, vi C, vi D, vi Exp], 5⟩, ⟨B5, 43, kD_ r_2, 5⟩] [⟨B, (a.flatMap eN0)⟩]) ?_ ?_
   ·skip
    refine ra_start (hS6.se [0, 1, 2]).fn (by kernel_rfl) ?_
    have hS13 := hS6.drew
    refine rq 0 41 (v := .slice B2 rest_.length c1) rfl (hS13.se [0, 1, 2]) (fun w' hw' => (ym (.slice B2 rest_.length c1) rfl (hf1.g 6 4))) ?_
    refine rq 1 42 (v := pt B2 ((0 : Int).toNat * 5)) rfl (hS13.se [0, 1, 2]) (fun w' hw' => (Y_index (B := B2) (m := rest_.length) (c := c1) (k := .i64) (i := 0) K7 K0 rfl rfl rfl (gi_isSome eN2 rfl (ST.cf hw' (i := 2) rfl) hx2) (getI_nn hx2) (getI_ltI hx2 rfl))) ?_
    refine rq 2 43 (v := gD_ x2) rfl (hS13.se [0, 1, 2]) (fun w' hw' => (ya B2 ((0 : Int).toNat * 5) (rest_.flatMap eN0) (kD_ x2) K5 K0 (ST.cf hw' (i := 2) rfl) rfl rfl (eN2 x2) (gi_seg eN2 hx2))) ?_
    refine rq 3 44 (v := .slice B2 rest_.length c1) rfl (hS13.se [0, 1, 2]) (fun w' hw' => (ym (.slice B2 rest_.length c1) rfl (hf1.g 6 4))) ?_
    refine rq 4 45 (v := pt B2 ((2 : Int).toNat * 5)) rfl (hS13.se [0, 1, 2]) (fun w' hw' => (Y_index (B := B2) (m := rest_.length) (c := c1) (k := .i64) (i := 2) K7 K0 rfl rfl rfl (gi_isSome eN2 rfl (ST.cf hw' (i := 2) rfl) hx3) (getI_nn hx3) (getI_ltI hx3 rfl))) ?_
    refine rq 5 46 (v := gD_ x3) rfl (hS13.se [0, 1, 2]) (fun w' hw' => (ya B2 ((2 : Int).toNat * 5) (rest_.flatMap eN0) (kD_ x3) K5 K0 (ST.cf hw' (i := 2) rfl) rfl rfl (eN2 x3) (gi_seg eN2 hx3))) ?_
    refine rq 6 47 (v := .slice B2 rest_.length c1) rfl (hS13.se [0, 1, 2]) (fun w' hw' => (ym (.slice B2 rest_.length c1) rfl (hf1.g 6 4))) ?_
    refine rq 7 48 (v := pt B2 ((1 : Int).toNat * 5)) rfl (hS13.se [0, 1, 2]) (fun w' hw' => (Y_index (B := B2) (m := rest_.length) (c := c1) (k := .i64) (i := 1) K7 K0 rfl rfl rfl (gi_isSome eN2 rfl (ST.cf hw' (i := 2) rfl) hx4) (getI_nn hx4) (getI_ltI hx4 rfl))) ?_
    refine rq 8 49 (v := gD_ x4) rfl (hS13.se [0, 1, 2]) (fun w' hw' => (ya B2 ((1 : Int).toNat * 5) (rest_.flatMap eN0) (kD_ x4) K5 K0 (ST.cf hw' (i := 2) rfl) rfl rfl (eN2 x4) (gi_seg eN2 hx4))) ?_
    refine rq 9 50 (v := .slice B2 rest_.length c1) rfl (hS13.se [0, 1, 2]) (fun w' hw' => (ym (.slice B2 rest_.length c1) rfl (hf1.g 6 4))) ?_
    refine rq 10 51 (v := pt B2 ((3 : Int).toNat * 5)) rfl (hS13.se [0, 1, 2]) (fun w' hw' => (Y_index (B := B2) (m := rest_.length) (c := c1) (k := .i64) (i := 3) K7 K0 rfl rfl rfl (gi_isSome eN2 rfl (ST.cf hw' (i := 2) rfl) hx5) (getI_nn hx5) (getI_ltI hx5 rfl))) ?_
    refine rq 11 52 (v := gD_ x5) rfl (hS13.se [0, 1, 2]) (fun w' hw' => (ya B2 ((3 : Int).toNat * 5) (rest_.flatMap eN0) (kD_ x5) K5 K0 (ST.cf hw' (i := 2) rfl) rfl rfl (eN2 x5) (gi_seg eN2 hx5))) ?_
    refine rA [12, 16] ?_
    refine rC 53 12 rfl (yC [gD_ x2, gD_ x3, gD_ x4, gD_ x5] k_call_92 (c_impl_minor x2 x3 x4 x5 _  (hS13.inn0 [] rfl) hc)) ?_ ?_
    ·rintro _ w_6 ⟨rfl, hd⟩
     have hS14 := hS13.out00 hd
     refine ⟨(hS14.se [0, 1, 2]), ?_⟩
     refine rq 13 40 (v := .tuple #[gD_ r_2, .bool r_3]) rfl (hS14.se [0, 1, 2]) (fun w' hw' => (ym (.tuple #[gD_ r_2, .bool r_3]))) ?_
     refine rq 14 54 (v := gD_ r_2) rfl (hS14.se [0, 1, 2]) (fun w' hw' => (ye (gD_ r_2))) ?_
     refine rq 15 55 (v := .bool r_3) rfl (hS14.se [0, 1, 2]) (fun w' hw' => (ye (.bool r_3))) ?_
     refine rA [16] ?_
     refine rS 8 16 rfl (yN kZ_ 5 hS14 K6) ?_ ?_
     ·rintro _ w_7 ⟨b4, rfl, hS15⟩
      refine ⟨(hS15.se [0, 1, 2]), ?_⟩
      refine rA [17] ?_
      refine rZ 17 rfl (yT 3 5 (aD b4) 43 (gD_ r_2) (kD_ r_2) 0 hS15 K0) ?_ ?_
      ·rintro _ w_8 ⟨rfl, hS16⟩
       refine ⟨(hS16.se [0, 1, 2]), ?_⟩
       refine rq 18 9 (v := .bool r_3) rfl (hS16.se [0, 1, 2]) (fun w' hw' => (yg (.bool r_3))) ?_
       refine ra_done (by kernel_rfl) ?_
       exact ⟨aD b4, (fc (hf1.g 0 0) (fc (hf1.g 2 1) (fc (hf1.g 4 2) (fc (hf1.g 5 3) (fc rfl (fc rfl (fc (hf1.g 16 5) fn_))))))), (hS16.sel [0, 1, 3] rfl rfl)⟩
      exact aN
     exact aN
    refine rS 8 16 rfl (yN kZ_ 5 hS13 K6) ?_ ?_
    ·rintro _ w_9 ⟨b4, rfl, hS17⟩
     refine ⟨(hS17.se [0, 1, 2]), ?_⟩
     refine rA [12] ?_
     refine rC 53 12 rfl (yC [gD_ x2, gD_ x3, gD_ x4, gD_ x5] k_call_92 (c_impl_minor x2 x3 x4 x5 _  (hS17.inn0 [] rfl) hc)) ?_ ?_
     ·rintro _ w_10 ⟨rfl, hd1⟩
      have hS18 := hS17.out00 hd1
      refine ⟨(hS18.se [0, 1, 2]), ?_⟩
      refine rq 13 40 (v := .tuple #[gD_ r_2, .bool r_3]) rfl (hS18.se [0, 1, 2]) (fun w' hw' => (ym (.tuple #[gD_ r_2, .bool r_3]))) ?_
      refine rq 14 54 (v := gD_ r_2) rfl (hS18.se [0, 1, 2]) (fun w' hw' => (ye (gD_ r_2))) ?_
      refine rq 15 55 (v := .bool r_3) rfl (hS18.se [0, 1, 2]) (fun w' hw' => (ye (.bool r_3))) ?_
      refine rA [17] ?_
      refine rZ 17 rfl (yT 3 5 (aD b4) 43 (gD_ r_2) (kD_ r_2) 0 hS18 K0) ?_ ?_
      ·rintro _ w_11 ⟨rfl, hS19⟩
       refine ⟨(hS19.se [0, 1, 2]), ?_⟩
       refine rq 18 9 (v := .bool r_3) rfl (hS19.se [0, 1, 2]) (fun w' hw' => (yg (.bool r_3))) ?_
       refine ra_done (by kernel_rfl) ?_
       exact ⟨aD b4, (fc (hf1.g 0 0) (fc (hf1.g 2 1) (fc (hf1.g 4 2) (fc (hf1.g 5 3) (fc rfl (fc rfl (fc (hf1.g 16 5) fn_))))))), (hS19.sel [0, 1, 3] rfl rfl)⟩
      exact aN
     exact aN
    exact aN
   rintro f w ⟨B5, hf3, hS12⟩
   refine cq ?_
   obtain ⟨x6, hx6, hF2⟩ := bI hF2
   obtain ⟨⟨r_4, r_5⟩, hc1, hF2⟩ := bI hF2
   refine cw_mid (fun f w => ∃ (B6 : Option Addr), FF f [(0, .slice B a.length c), (2, pt (aD b) 0), (4, pt (aD b1) 0), (5, vi (i : Int)), (9, .bool r_3), (10, pt B6 0), (11, .bool r_5), (16, vi (i : Int))] ∧ ST w0 [] w [⟨aD b, 43, kZ_, 5⟩, ⟨aD b1, 43, [vi A, vi B1, vi C, vi D, vi Exp], 5⟩, ⟨B6, 43, kD_ r_4, 5⟩] [⟨B, (a.flatMap eN0)⟩]) ?_ ?_
   ·skip
    refine ra_start (hS12.se [0, 1, 2]).fn (by kernel_rfl) ?_
    have hS22 := hS12.drew
    refine rq 0 57 (v := .slice B a.length c) rfl (hS22.se [0, 1, 2]) (fun w' hw' => (ym (.slice B a.length c) rfl (hf3.g 0 0))) ?_
    refine rq 1 58 (v := vi (i : Int)) rfl (hS22.se [0, 1, 2]) (fun w' hw' => (ym (vi (i : Int)) rfl (hf3.g 5 3))) ?_
    refine rq 2 59 (v := pt B ((i : Int).toNat * 5)) rfl (hS22.se [0, 1, 2]) (fun w' hw' => (Y_index (B := B) (m := a.length) (c := c) (k := .i64) (i := (i : Int)) K7 K0 rfl rfl rfl (gi_isSome eN2 rfl (ST.rf hw' (i := 0) rfl) hx6) (getI_nn hx6) (getI_ltI hx6 rfl))) ?_
    refine rq 3 60 (v := gD_ x6) rfl (hS22.se [0, 1, 2]) (fun w' hw' => (ya B ((i : Int).toNat * 5) (a.flatMap eN0) (kD_ x6) K5 K0 (ST.rf hw' (i := 0) rfl) rfl rfl (eN2 x6) (gi_seg eN2 hx6))) ?_
    refine rq 4 61 (v := gD_ r_2) rfl (hS22.se [0, 1, 2]) (fun w' hw' => (yb B5 0 (kD_ r_2) K5 K0 (ST.cf hw' (i := 2) rfl) rfl (hf3.g 8 4))) ?_
    refine rA [5, 9] ?_
    refine rC 62 5 rfl (yC [gD_ x6, gD_ r_2] K50 (c_impl_MulDyadic x6 r_2 _  (hS22.inn0 [] rfl) hc1)) ?_ ?_
    ·rintro _ w_12 ⟨rfl, hd2⟩
     have hS23 := hS22.out00 hd2
     refine ⟨(hS23.se [0, 1, 2]), ?_⟩
     refine rq 6 56 (v := .tuple #[gD_ r_4, .bool r_5]) rfl (hS23.se [0, 1, 2]) (fun w' hw' => (ym (.tuple #[gD_ r_4, .bool r_5]))) ?_
     refine rq 7 63 (v := gD_ r_4) rfl (hS23.se [0, 1, 2]) (fun w' hw' => (ye (gD_ r_4))) ?_
     refine rq 8 64 (v := .bool r_5) rfl (hS23.se [0, 1, 2]) (fun w' hw' => (ye (.bool r_5))) ?_
     refine rA [9] ?_
     refine rS 10 9 rfl (yN kZ_ 5 hS23 K6) ?_ ?_
     ·rintro _ w_13 ⟨b5, rfl, hS24⟩
      refine ⟨(hS24.se [0, 1, 2]), ?_⟩
      refine rA [10] ?_
      refine rZ 10 rfl (yT 3 5 (aD b5) 43 (gD_ r_4) (kD_ r_4) 0 hS24 K0) ?_ ?_
      ·rintro _ w_14 ⟨rfl, hS25⟩
       refine ⟨(hS25.se [0, 1, 2]), ?_⟩
       refine rq 11 11 (v := .bool r_5) rfl (hS25.se [0, 1, 2]) (fun w' hw' => (yg (.bool r_5))) ?_
       refine ra_done (by kernel_rfl) ?_
       exact ⟨aD b5, (fc (hf3.g 0 0) (fc (hf3.g 2 1) (fc (hf3.g 4 2) (fc (hf3.g 5 3) (fc (hf3.g 9 5) (fc rfl (fc rfl (fc (hf3.g 16 6) fn_)))))))), (hS25.sel [0, 1, 3] rfl rfl)⟩
      exact aN
     exact aN
    refine rS 10 9 rfl (yN kZ_ 5 hS22 K6) ?_ ?_
    ·rintro _ w_15 ⟨b5, rfl, hS26⟩
     refine ⟨(hS26.se [0, 1, 2]), ?_⟩
     refine rA [5] ?_
     refine rC 62 5 rfl (yC [gD_ x6, gD_ r_2] K50 (c_impl_MulDyadic x6 r_2 _  (hS26.inn0 [] rfl) hc1)) ?_ ?_
     ·rintro _ w_16 ⟨rfl, hd3⟩
      have hS27 := hS26.out00 hd3
      refine ⟨(hS27.se [0, 1, 2]), ?_⟩
      refine rq 6 56 (v := .tuple #[gD_ r_4, .bool r_5]) rfl (hS27.se [0, 1, 2]) (fun w' hw' => (ym (.tuple #[gD_ r_4, .bool r_5]))) ?_
      refine rq 7 63 (v := gD_ r_4) rfl (hS27.se [0, 1, 2]) (fun w' hw' => (ye (gD_ r_4))) ?_
      refine rq 8 64 (v := .bool r_5) rfl (hS27.se [0, 1, 2]) (fun w' hw' => (ye (.bool r_5))) ?_
      refine rA [10] ?_
      refine rZ 10 rfl (yT 3 5 (aD b5) 43 (gD_ r_4) (kD_ r_4) 0 hS27 K0) ?_ ?_
      ·rintro _ w_17 ⟨rfl, hS28⟩
       refine ⟨(hS28.se [0, 1, 2]), ?_⟩
       refine rq 11 11 (v := .bool r_5) rfl (hS28.se [0, 1, 2]) (fun w' hw' => (yg (.bool r_5))) ?_
       refine ra_done (by kernel_rfl) ?_
       exact ⟨aD b5, (fc (hf3.g 0 0) (fc (hf3.g 2 1) (fc (hf3.g 4 2) (fc (hf3.g 5 3) (fc (hf3.g 9 5) (fc rfl (fc rfl (fc (hf3.g 16 6) fn_)))))))), (hS28.sel [0, 1, 3] rfl rfl)⟩
      exact aN
     exact aN
    exact aN
   rintro f w ⟨B6, hf4, hS21⟩
   refine cq (cr ?_)
   refine sQ 12 (yg (.func (.func 52) #[] #[])) (rn (cq (cq (cr ?_))))
   refine sQ 65 (ym (vi (i : Int)) rfl (hf4.g 5 3)) <| sQ 66 (yE (i : Int) 1) (rn ?_)
   refine cw_cond (b := ((i : Int) == 1)) rfl (fun hb3 => ?_) (fun hb3 => ?_)
   ·skip
    have hF6 := ct hF2 hb3
    refine cr ?_
    refine sQ 12 (yg (.func (.func 93) #[] #[])) (rn (cq (cr ?_)))
    refine sQ 68 (ym (.func (.func 93) #[] #[])) <| sQ 69 (yb (aD b1) 0 [vi A, vi B1, vi C, vi D, vi Exp] K5 K0 (hS21.c 1) rfl (hf4.g 4 2)) <| sQ 70 (yb B6 0 (kD_ r_4) K5 K0 (hS21.c 2) rfl (hf4.g 10 5)) ?_
    obtain ⟨⟨r_6, r_7⟩, hc2, hF6⟩ := bI hF6
    refine sc 71 rfl rfl (Yc_clos (g := 93) (vs := [.agg #[vi A, vi B1, vi C, vi D, vi Exp], gD_ r_4]) k_call_93 rfl rfl (clo_args (mc rfl (mc rfl mn))) (c_impl_SubDyadic (TDyadic.mk (TRing.mk A B1 C D) Exp) r_4 _  (hS21.inn0 [] rfl) hc2)) ?_
    rintro _ w_18 ⟨rfl, hd4⟩
    have hS29 := hS21.out00 hd4
    refine sQ 67 (ym (.tuple #[gD_ r_6, .bool r_7])) <| sQ 72 (ye (gD_ r_6)) <| sQ 73 (ye (.bool r_7)) ?_
    refine sS 13 (yN kZ_ 5 hS29 K6) ?_
    rintro _ w_19 ⟨b6, rfl, hS30⟩
    refine s0 (yT 3 5 (aD b6) 43 (gD_ r_6) (kD_ r_6) 0 hS30 K0) ?_
    rintro _ w_20 ⟨rfl, hS31⟩
    refine sQ 14 (yg (.bool r_7)) (rn (cq (cq (cr ?_))))
    refine sQ 74 (ym (.bool r_3) rfl (hf4.g 9 4)) <| sQ 75 (Y_not (p := r_3) rfl rfl) <| sQ 76 (ym (.bool (!r_3))) ?_
    refine sgq 77 (B := (!(!r_3))) (v := .bool r_5) rfl rfl (uF_ 76) (fun hg => (ym (.bool r_5) rfl (hf4.g 11 6))) ?_
    refine sgq 78 (B := (!(!r_3))) (v := .bool (!r_5)) rfl rfl (uF_ 76) (fun hg1 => (Y_not (p := r_5) rfl (gv_of (v := .bool r_5) hg1))) ?_
    refine sQ 79 (Y_or (b := (!r_3)) (z := (!r_5)) rfl rfl rfl rfl) <| sQ 80 (ym (.bool ((!r_3) || (!r_5)))) ?_
    refine sgq 81 (B := (!((!r_3) || (!r_5)))) (v := .bool r_7) rfl rfl (uF_ 80) (fun hg2 => (ym (.bool r_7))) ?_
    refine sgq 82 (B := (!((!r_3) || (!r_5)))) (v := .bool (!r_7)) rfl rfl (uF_ 80) (fun hg3 => (Y_not (p := r_7) rfl (gv_of (v := .bool r_7) hg3))) ?_
    refine sQ 83 (Y_or (b := ((!r_3) || (!r_5))) (z := (!r_7)) rfl rfl rfl rfl) (rn ?_)
    refine cw_cond (b := (((!r_3) || (!r_5)) || (!r_7))) rfl (fun hb4 => ?_) (fun hb4 => ?_)
    ·skip
     have hF7 := ct hF6 hb4
     refine cq (cr ?_)
     refine sQ 84 (Y_buildS (zs := kZ_) (vs := []) (cs := kZ_) K18 K6 rfl mpn rfl) ?_
     refine s0 (yT 0 5 (aD b) 43 gZ_ kZ_ 0 hS31 K0 rfl (hf4.g 2 1)) ?_
     rintro _ w_21 ⟨rfl, hS32⟩
     refine sQ 3 (yg (.bool false)) (rn (ct_ ?_))
     obtain rfl := sI hF7
     obtain rfl := sI hL1
     obtain ⟨rfl, rfl⟩ := pr2 (sI hF1)
     exact ret2 Tryz.results49 (v1 := gZ_) (resAt_cellA (B := aD b) (i := 0) (cs := kZ_) (vs := kZ_) (hf4.g 2 1) K5 K0 (hS32.c 0) rfl rfl) (v2 := .bool false) (resAt_tmp rfl) ⟨rfl, (hS32.sN [])⟩
    ·skip
     have hF8 := cf' hF6 hb4
     refine cw_skip (cr ?_)
     refine sQ 85 (yb (aD b6) 0 (kD_ r_6) K5 K0 (hS31.c 3)) ?_
     refine s0 (yT 1 5 (aD b1) 43 (gD_ r_6) (kD_ r_6) 0 hS31 K0 rfl (hf4.g 4 2)) ?_
     rintro _ w_22 ⟨rfl, hS33⟩
     refine rn (cr ?_)
     refine sQ 86 (yP (i : Int) 1 rfl (hf4.g 16 7)) <| sQ 16 (ym (vi (i64.wrap ((i : Int) + 1)))) (rn ?_)
     obtain rfl := sI hF8
     exact ⟨K11, Nat.lt_succ_self _, i + 1, r_6.Num.A, r_6.Num.B, r_6.Num.C, r_6.Num.D, r_6.Exp, (fc (hf4.g 0 0) (fc (hf4.g 2 1) (fc (hf4.g 4 2) (fc (congrArg (Value.int .i64) (wr_succ hlt1 (show 3 ≤ 9223372036854775807 by decide))) fn_)))), (hS33.sel [0, 1] rfl rfl), (by omega), hL1⟩
   ·skip
    have hF9 := cf' hF2 hb3
    refine cw_skip (cq (cr ?_))
    refine sQ 68 (ym (.func (.func 52) #[] #[])) <| sQ 69 (yb (aD b1) 0 [vi A, vi B1, vi C, vi D, vi Exp] K5 K0 (hS21.c 1) rfl (hf4.g 4 2)) <| sQ 70 (yb B6 0 (kD_ r_4) K5 K0 (hS21.c 2) rfl (hf4.g 10 5)) ?_
    obtain ⟨⟨r_8, r_9⟩, hc3, hF9⟩ := bI hF9
    refine sc 71 rfl rfl (Yc_clos (g := 52) (vs := [.agg #[vi A, vi B1, vi C, vi D, vi Exp], gD_ r_4]) K85 rfl rfl (clo_args (mc rfl (mc rfl mn))) (c_impl_AddDyadic (TDyadic.mk (TRing.mk A B1 C D) Exp) r_4 _  (hS21.inn0 [] rfl) hc3)) ?_
    rintro _ w_23 ⟨rfl, hd5⟩
    have hS34 := hS21.out00 hd5
    refine sQ 67 (ym (.tuple #[gD_ r_8, .bool r_9])) <| sQ 72 (ye (gD_ r_8)) <| sQ 73 (ye (.bool r_9)) ?_
    refine sS 13 (yN kZ_ 5 hS34 K6) ?_
    rintro _ w_24 ⟨b7, rfl, hS35⟩
    refine s0 (yT 3 5 (aD b7) 43 (gD_ r_8) (kD_ r_8) 0 hS35 K0) ?_
    rintro _ w_25 ⟨rfl, hS36⟩
    refine sQ 14 (yg (.bool r_9)) (rn (cq (cq (cr ?_))))
    refine sQ 74 (ym (.bool r_3) rfl (hf4.g 9 4)) <| sQ 75 (Y_not (p := r_3) rfl rfl) <| sQ 76 (ym (.bool (!r_3))) ?_
    refine sgq 77 (B := (!(!r_3))) (v := .bool r_5) rfl rfl (uF_ 76) (fun hg4 => (ym (.bool r_5) rfl (hf4.g 11 6))) ?_
    refine sgq 78 (B := (!(!r_3))) (v := .bool (!r_5)) rfl rfl (uF_ 76) (fun hg5 => (Y_not (p := r_5) rfl (gv_of (v := .bool r_5) hg5))) ?_
    refine sQ 79 (Y_or (b := (!r_3)) (z := (!r_5)) rfl rfl rfl rfl) <| sQ 80 (ym (.bool ((!r_3) || (!r_5)))) ?_
    refine sgq 81 (B := (!((!r_3) || (!r_5)))) (v := .bool r_9) rfl rfl (uF_ 80) (fun hg6 => (ym (.bool r_9))) ?_
    refine sgq 82 (B := (!((!r_3) || (!r_5)))) (v := .bool (!r_9)) rfl rfl (uF_ 80) (fun hg7 => (Y_not (p := r_9) rfl (gv_of (v := .bool r_9) hg7))) ?_
    refine sQ 83 (Y_or (b := ((!r_3) || (!r_5))) (z := (!r_9)) rfl rfl rfl rfl) (rn ?_)
    refine cw_cond (b := (((!r_3) || (!r_5)) || (!r_9))) rfl (fun hb5 => ?_) (fun hb5 => ?_)
    ·skip
     have hF10 := ct hF9 hb5
     refine cq (cr ?_)
     refine sQ 84 (Y_buildS (zs := kZ_) (vs := []) (cs := kZ_) K18 K6 rfl mpn rfl) ?_
     refine s0 (yT 0 5 (aD b) 43 gZ_ kZ_ 0 hS36 K0 rfl (hf4.g 2 1)) ?_
     rintro _ w_26 ⟨rfl, hS37⟩
     refine sQ 3 (yg (.bool false)) (rn (ct_ ?_))
     obtain rfl := sI hF10
     obtain rfl := sI hL1
     obtain ⟨rfl, rfl⟩ := pr2 (sI hF1)
     exact ret2 Tryz.results49 (v1 := gZ_) (resAt_cellA (B := aD b) (i := 0) (cs := kZ_) (vs := kZ_) (hf4.g 2 1) K5 K0 (hS37.c 0) rfl rfl) (v2 := .bool false) (resAt_tmp rfl) ⟨rfl, (hS37.sN [])⟩
    ·skip
     have hF11 := cf' hF9 hb5
     refine cw_skip (cr ?_)
     refine sQ 85 (yb (aD b7) 0 (kD_ r_8) K5 K0 (hS36.c 3)) ?_
     refine s0 (yT 1 5 (aD b1) 43 (gD_ r_8) (kD_ r_8) 0 hS36 K0 rfl (hf4.g 4 2)) ?_
     rintro _ w_27 ⟨rfl, hS38⟩
     refine rn (cr ?_)
     refine sQ 86 (yP (i : Int) 1 rfl (hf4.g 16 7)) <| sQ 16 (ym (vi (i64.wrap ((i : Int) + 1)))) (rn ?_)
     obtain rfl := sI hF11
     exact ⟨K11, Nat.lt_succ_self _, i + 1, r_8.Num.A, r_8.Num.B, r_8.Num.C, r_8.Num.D, r_8.Exp, (fc (hf4.g 0 0) (fc (hf4.g 2 1) (fc (hf4.g 4 2) (fc (congrArg (Value.int .i64) (wr_succ hlt1 (show 3 ≤ 9223372036854775807 by decide))) fn_)))), (hS38.sel [0, 1] rfl rfl), (by omega), hL1⟩
 ·skip
  obtain rfl : k_ = 0 := by have h := of_decide_eq_false hlt; omega
  refine cw_exit rfl ?_
  obtain rfl := sI hL
  refine cq (cr ?_)
  refine sQ 87 (yb (aD b1) 0 [vi A, vi B1, vi C, vi D, vi Exp] K5 K0 (hS4.c 1) rfl (hf.g 4 2)) ?_
  refine s0 (yT 0 5 (aD b) 43 (.agg #[vi A, vi B1, vi C, vi D, vi Exp]) [vi A, vi B1, vi C, vi D, vi Exp] 0 hS4 K0 rfl (hf.g 2 1)) ?_
  rintro _ w_28 ⟨rfl, hS39⟩
  refine sQ 3 (yg (.bool true)) (rn (ct_ ?_))
  obtain ⟨rfl, rfl⟩ := pr2 (sI hF1)
  exact ret2 Tryz.results49 (v1 := .agg #[vi A, vi B1, vi C, vi D, vi Exp]) (resAt_cellA (B := aD b) (i := 0) (cs := [vi A, vi B1, vi C, vi D, vi Exp]) (vs := [vi A, vi B1, vi C, vi D, vi Exp]) (hf.g 2 1) K5 K0 (hS39.c 0) rfl rfl) (v2 := .bool true) (resAt_tmp rfl) ⟨rfl, (hS39.sN [])⟩

theorem c_impl_IsValidBloch (b : TBloch) (B : Option Addr) (c n : Nat) (w0 : World) (hn : b.Cells.length = n) (hS : ST w0 [] w0 [] [⟨B, (b.Cells.flatMap eN0)⟩]) {r_ : Bool} (hF : F_impl_IsValidBloch b = some r_) :
  CV Tryz.prog 22 #[.agg #[.slice B n c]] w0 (fun v w' => v = .bool r_ ∧ ST w0 [] w' [] []) := by
 subst hn
 unfold F_impl_IsValidBloch at hF
 refine cv_of_cw 59 Tryz.func22 rfl Tryz.ntmps22 rfl ?_
 refine cq (cr ?_)
 refine sS 1 (yB 29 (gB_ b B c) (kB_ b B c) 1 hS) ?_
 rintro _ w_ ⟨b1, rfl, hS1⟩
 refine sQ 2 (yg (.bool false)) (rn (cq (cq (cr ?_))))
 refine sQ 9 (yd (aD b1) 0 0 K33 K8) <| sQ 10 (yl (aD b1) 0 (kB_ b B c) (.slice B b.Cells.length c) K13 (hS1.c 0)) <| sQ 11 (Y_len (B := B) (m := b.Cells.length) (c := c) K7 rfl rfl) <| sQ 12 (Y_ne (k := .i64) (a := (b.Cells.length : Int)) (b := 9) rfl rfl rfl) <| sQ 13 (ym (.bool ((b.Cells.length : Int) != 9))) ?_
 refine sgq 14 (B := (!((b.Cells.length : Int) != 9))) (v := pt (aD b1) 0) rfl rfl (uF_ 13) (fun hg => (yd (aD b1) 0 0 K33 K8)) ?_
 refine sgq 15 (B := (!((b.Cells.length : Int) != 9))) (v := .slice B b.Cells.length c) rfl rfl (uF_ 13) (fun hg1 => (yl (aD b1) 0 (kB_ b B c) (.slice B b.Cells.length c) K13 (hS1.c 0) rfl (gv_of (v := pt (aD b1) 0) hg1))) ?_
 obtain ⟨r_1, hc, hF⟩ := bI hF
 refine sgc 16 (B := (!((b.Cells.length : Int) != 9))) (v := .bool r_1) (F := hS1.fn) rfl rfl (uF_ 13) hS1 (fun hg2 => (yC [.slice B b.Cells.length c, .func (.func 46) #[] #[]] k_call_45 (CV.mono (c_slices_ContainsFunc_impl_Dyadic_impl_Dyadic b.Cells F_impl_IsValidBloch_1 B c b.Cells.length 46 (#[]) [] _ rfl k_call_46 (fun w hw x_0 y_0 h_ => c_impl_IsValidBloch_1 x_0  w  hw h_) (hS1.inn0 [(true, 0)] rfl) (gb_inv hc hg2)) (by rintro _ _ ⟨rfl, h⟩; exact ⟨rfl, hS1.out00 h⟩)) rfl (mc (gv_of (v := .slice B b.Cells.length c) hg2) (mc rfl mn)))) ?_
 rintro w_1 hS2
 refine sQ 17 (Y_or (b := ((b.Cells.length : Int) != 9)) (z := r_1) rfl rfl rfl rfl) (rn ?_)
 refine cw_cond (b := (((b.Cells.length : Int) != 9) || r_1)) rfl (fun hb => ?_) (fun hb => ?_)
 ·skip
  have hF1 := ct hF hb
  refine cq (cr ?_)
  refine sQ 2 (yg (.bool false)) (rn (ct_ ?_))
  obtain rfl := sI hF1
  exact ret1 Tryz.results22 (v1 := .bool false) (resAt_tmp rfl) ⟨rfl, (hS2.sN [])⟩
 ·skip
  have hF2 := cf' hF hb
  refine cw_skip (cq ?_)
  obtain ⟨r_2, hc1, hF2⟩ := bI hF2
  obtain ⟨⟨r_3, r_4⟩, hc2, hF2⟩ := bI hF2
  refine ra_start (hS2.se [0]).fn (by kernel_rfl) ?_
  have hS5 := hS2.drew
  refine rq 0 19 (v := pt (aD b1) 0) rfl (hS5.se [0]) (fun w' hw' => (yd (aD b1) 0 0 K33 K8)) ?_
  refine rq 1 20 (v := .slice B b.Cells.length c) rfl (hS5.se [0]) (fun w' hw' => (yl (aD b1) 0 (kB_ b B c) (.slice B b.Cells.length c) K13 (ST.cf hw' (i := 0) rfl))) ?_
  refine rq 2 21 (v := pt (aD b1) 0) rfl (hS5.se [0]) (fun w' hw' => (yd (aD b1) 0 0 K33 K8)) ?_
  refine rq 3 22 (v := .slice B b.Cells.length c) rfl (hS5.se [0]) (fun w' hw' => (yl (aD b1) 0 (kB_ b B c) (.slice B b.Cells.length c) K13 (ST.cf hw' (i := 0) rfl))) ?_
  refine rA [4] ?_
  refine rC 23 4 rfl (yC (kB_ b B c) k_call_48 (c_impl_transposed b.Cells B c b.Cells.length _ rfl (hS5.inn0 [(true, 0)] rfl) hc1)) ?_ ?_
  ·rintro _ w_2 ⟨B1, c1, rfl, hd⟩
   have hS6 := hS5.out0 hd
   refine ⟨(hS6.se [0]), ?_⟩
   refine rA [5] ?_
   refine rC 24 5 rfl (yC [.slice B b.Cells.length c, .slice B1 r_2.length c1] K131 (c_impl_mulBloch b.Cells r_2 B c b.Cells.length B1 c1 r_2.length _ rfl rfl (hS6.inn0 [(true, 0), (false, 1)] rfl) hc2)) ?_ ?_
   ·rintro _ w_3 ⟨B2, c2, rfl, hd1⟩
    have hS7 := hS6.out0 hd1
    refine ⟨(hS7.se [0]), ?_⟩
    refine rq 6 18 (v := .tuple #[.slice B2 r_3.length c2, .bool r_4]) rfl (hS7.se [0]) (fun w' hw' => (ym (.tuple #[.slice B2 r_3.length c2, .bool r_4]))) ?_
    refine rq 7 25 (v := .slice B2 r_3.length c2) rfl (hS7.se [0]) (fun w' hw' => (ye (.slice B2 r_3.length c2))) ?_
    refine rq 8 26 (v := .bool r_4) rfl (hS7.se [0]) (fun w' hw' => (ye (.bool r_4))) ?_
    refine rq 9 3 (v := .slice B2 r_3.length c2) rfl (hS7.se [0]) (fun w' hw' => (yg (.slice B2 r_3.length c2))) ?_
    refine rq 10 4 (v := .bool r_4) rfl (hS7.se [0]) (fun w' hw' => (yg (.bool r_4))) ?_
    refine ra_done (by kernel_rfl) ?_
    refine cq (cr ?_)
    refine sQ 28 (yd (aD b1) 0 0 K33 K8) <| sQ 29 (yl (aD b1) 0 (kB_ b B c) (.slice B b.Cells.length c) K13 (hS7.c 0)) ?_
    obtain ⟨⟨r_5, r_6⟩, hc3, hF2⟩ := bI hF2
    refine sc 30 rfl rfl (yC (kB_ b B c) k_call_49 (c_impl_determinant b.Cells B c b.Cells.length _ rfl (hS7.inn0 [(true, 0)] rfl) hc3)) ?_
    rintro _ w_4 ⟨rfl, hd2⟩
    have hS8 := hS7.out00 hd2
    refine sQ 27 (ym (.tuple #[gD_ r_5, .bool r_6])) <| sQ 31 (ye (gD_ r_5)) <| sQ 32 (ye (.bool r_6)) ?_
    refine sS 5 (yN kZ_ 5 hS8 K6) ?_
    rintro _ w_5 ⟨b2, rfl, hS9⟩
    refine s0 (yT 3 5 (aD b2) 43 (gD_ r_5) (kD_ r_5) 0 hS9 K0) ?_
    rintro _ w_6 ⟨rfl, hS10⟩
    refine sQ 6 (yg (.bool r_6)) (rn (cq (cq ?_)))
    obtain ⟨r_7, hc4, hF2⟩ := bI hF2
    refine ra_start (hS10.se [0, 1, 2, 3]).fn (by kernel_rfl) ?_
    have hS12 := hS10.drew
    refine rq 0 33 (v := .bool r_4) rfl (hS12.se [0, 1, 2, 3]) (fun w' hw' => (ym (.bool r_4))) ?_
    refine rq 1 34 (v := .bool (!r_4)) rfl (hS12.se [0, 1, 2, 3]) (fun w' hw' => (Y_not (p := r_4) rfl rfl)) ?_
    refine rq 2 35 (v := .bool (!r_4)) rfl (hS12.se [0, 1, 2, 3]) (fun w' hw' => (ym (.bool (!r_4)))) ?_
    refine ra_gq 3 36 (B := (!(!r_4))) (v := .bool r_6) rfl rfl rfl (uF_ 35) (by kernel_rfl) (by kernel_rfl) (by kernel_rfl) (hS12.se [0, 1, 2, 3]) (fun hg3 w' hw' => (ym (.bool r_6))) ?_
    refine ra_gq 4 37 (B := (!(!r_4))) (v := .bool (!r_6)) rfl rfl rfl (uF_ 35) (by kernel_rfl) (by kernel_rfl) (by kernel_rfl) (hS12.se [0, 1, 2, 3]) (fun hg4 w' hw' => (Y_not (p := r_6) rfl (gv_of (v := .bool r_6) hg4))) ?_
    refine rq 5 38 (v := .bool ((!r_4) || (!r_6))) rfl (hS12.se [0, 1, 2, 3]) (fun w' hw' => (Y_or (b := (!r_4)) (z := (!r_6)) rfl rfl rfl rfl)) ?_
    refine rq 6 39 (v := .bool ((!r_4) || (!r_6))) rfl (hS12.se [0, 1, 2, 3]) (fun w' hw' => (ym (.bool ((!r_4) || (!r_6))))) ?_
    refine ra_gq 7 40 (B := (!((!r_4) || (!r_6)))) (v := gD_ r_5) rfl rfl rfl (uF_ 39) (by kernel_rfl) (by kernel_rfl) (by kernel_rfl) (hS12.se [0, 1, 2, 3]) (fun hg5 w' hw' => (yb (aD b2) 0 (kD_ r_5) K5 K0 (ST.cf hw' (i := 3) rfl))) ?_
    refine rA [8] ?_
    refine ra_gc 41 (i := 8) (B := (!((!r_4) || (!r_6)))) (v := gD_ r_7) (F := hS12.fn) rfl rfl rfl (uF_ 39) hS12 (fun hg6 => (yC [vi 1] K73 (CV.mono (c_impl_whole 1 _  (hS12.inn0 [] rfl) (gb_inv hc4 hg6)) (by rintro _ _ ⟨rfl, h⟩; exact ⟨rfl, hS12.out00 h⟩)))) ?_ ?_
    ·rintro w_7 hS13
     refine ⟨(hS13.se [0, 1, 2, 3]), ?_⟩
     refine ra_gq 9 42 (B := (!((!r_4) || (!r_6)))) (v := .bool (!(((r_5.Num.A == r_7.Num.A) && ((r_5.Num.B == r_7.Num.B) && ((r_5.Num.C == r_7.Num.C) && ((r_5.Num.D == r_7.Num.D) && true)))) && ((r_5.Exp == r_7.Exp) && true)))) rfl rfl rfl (uF_ 39) (by kernel_rfl) (by kernel_rfl) (by kernel_rfl) (hS13.se [0, 1, 2, 3]) (fun hg7 w' hw' => (Y_neA (xs := #[vi r_5.Num.A, vi r_5.Num.B, vi r_5.Num.C, vi r_5.Num.D, vi r_5.Exp]) (ys := #[vi r_7.Num.A, vi r_7.Num.B, vi r_7.Num.C, vi r_7.Num.D, vi r_7.Exp]) (b := (((r_5.Num.A == r_7.Num.A) && ((r_5.Num.B == r_7.Num.B) && ((r_5.Num.C == r_7.Num.C) && ((r_5.Num.D == r_7.Num.D) && true)))) && ((r_5.Exp == r_7.Exp) && true))) K86 rfl (gv_of (v := gD_ r_5) hg7) (gv_of (v := gD_ r_7) hg7) (eqr_struct (xs := kD_ r_5) (ys := kD_ r_7) K87 K88 (pts_ag (us := kR_ r_5.Num) (vs := kR_ r_7.Num) K10 K3 rfl rfl (eqr_struct (xs := kR_ r_5.Num) (ys := kR_ r_7.Num) K89 K90 (pts_sc K1 rfl rfl (eqr_int K24) (pts_sc K1 rfl rfl (eqr_int K24) (pts_sc K1 rfl rfl (eqr_int K24) (pts_sc K1 rfl rfl (eqr_int K24) pts_nil))))) (pts_sc K1 rfl rfl (eqr_int K24) pts_nil))))) ?_
     refine ra_q 10 43 (v := .bool (((!r_4) || (!r_6)) || (!(((r_5.Num.A == r_7.Num.A) && ((r_5.Num.B == r_7.Num.B) && ((r_5.Num.C == r_7.Num.C) && ((r_5.Num.D == r_7.Num.D) && true)))) && ((r_5.Exp == r_7.Exp) && true))))) rfl rfl rfl (by kernel_rfl) (by kernel_rfl) (by kernel_rfl) (hS13.se [0, 1, 2, 3]) (fun w' hw' => (Y_or (b := ((!r_4) || (!r_6))) (z := (!(((r_5.Num.A == r_7.Num.A) && ((r_5.Num.B == r_7.Num.B) && ((r_5.Num.C == r_7.Num.C) && ((r_5.Num.D == r_7.Num.D) && true)))) && ((r_5.Exp == r_7.Exp) && true)))) rfl rfl rfl rfl)) ?_
     refine ra_done (by kernel_rfl) ?_
     refine cw_cond (b := (((!r_4) || (!r_6)) || (!(((r_5.Num.A == r_7.Num.A) && ((r_5.Num.B == r_7.Num.B) && ((r_5.Num.C == r_7.Num.C) && ((r_5.Num.D == r_7.Num.D) && true)))) && ((r_5.Exp == r_7.Exp) && true))))) rfl (fun hb1 => ?_) (fun hb1 => ?_)
     ·skip
      have hF3 := ct hF2 hb1
      refine cq (cr ?_)
      refine sQ 2 (yg (.bool false)) (rn (ct_ ?_))
      obtain rfl := sI hF3
      exact ret1 Tryz.results22 (v1 := .bool false) (resAt_tmp rfl) ⟨rfl, (hS13.sN [])⟩
     ·skip
      have hF4 := cf' hF2 hb1
      refine cw_skip (cq (cq (cr ?_)))
      refine sQ 44 (ym (.slice B2 r_3.length c2)) <| sQ 45 (Y_len (B := B2) (m := r_3.length) (c := c2) K7 rfl rfl) <| sQ 46 (ym (vi 0)) (rn ?_)
      obtain ⟨hN, hF4⟩ := chk_inv hF4
      obtain ⟨z, hz, hF5⟩ := bI hF4
      refine cw_block ?_
      refine cw_loop (fun k f w => ∃ (i : Nat), FF f [(44, .slice B2 r_3.length c2), (45, vi (r_3.length : Int)), (46, vi (i : Int))] ∧ ST w0 [] w [⟨B2, 43, (r_3.flatMap eN0), c2 * 5⟩] [⟨B, (b.Cells.flatMap eN0)⟩] ∧ i + k = r_3.length ∧ forX (F_impl_IsValidBloch_l1 r_3) k i () = some z) r_3.length ⟨0, (fc rfl (fc rfl (fc rfl fn_))), (hS13.sel [2] rfl rfl), Nat.zero_add _, hz⟩ ?_
      rintro k_ f w ⟨i, hf, hS14, hik, hL⟩
      refine cq (cr ?_)
      refine sQ 47 (yL (i : Int) (r_3.length : Int) rfl (hf.g 46 2) (hf.g 45 1)) (rn (cq ?_))
      refine cw_cond (b := (decide ((i : Int) < (r_3.length : Int)))) rfl (fun hlt => ?_) (fun hlt => ?_)
      ·skip
       have hlt1 : i < r_3.length := by have h := of_decide_eq_true hlt; omega
       obtain ⟨K11, rfl⟩ : ∃ k2, k_ = k2 + 1 := ⟨k_ - 1, by omega⟩
       obtain ⟨y, hb2, hL1⟩ := forX_go hL
       unfold F_impl_IsValidBloch_l1 at hb2
       refine cw_skip (cq (cw_block (cq (cr ?_))))
       refine sQ 48 (ym (vi (i : Int)) rfl (hf.g 46 2)) ?_
       obtain ⟨x, hx, hb2⟩ := bI hb2
       refine sQ 49 (Y_index (B := B2) (m := r_3.length) (c := c2) (k := .i64) (i := (i : Int)) K7 K0 rfl (hf.g 44 0) (hf.g 46 2) (gi_isSome eN2 rfl (hS14.c 0) hx) (getI_nn hx) (getI_ltI hx rfl)) <| sQ 50 (ya B2 ((i : Int).toNat * 5) (r_3.flatMap eN0) (kD_ x) K5 K0 (hS14.c 0) rfl rfl (eN2 x) (gi_seg eN2 hx)) ?_
       refine sS 8 (yN kZ_ 5 hS14 K6) ?_
       rintro _ w_8 ⟨b3, rfl, hS15⟩
       refine sQ 7 (yg (vi (i : Int))) ?_
       refine s0 (yT 1 5 (aD b3) 43 (gD_ x) (kD_ x) 0 hS15 K0) ?_
       rintro _ w_9 ⟨rfl, hS16⟩
       refine rn (cq ?_)
       obtain ⟨r_8, hc5, hb2⟩ := bI hb2
       obtain ⟨r_9, hc6, hb2⟩ := bI hb2
       refine ra_start (hS16.se [0, 1]).fn (by kernel_rfl) ?_
       have hS19 := hS16.drew
       refine rq 0 51 (v := gD_ x) rfl (hS19.se [0, 1]) (fun w' hw' => (yb (aD b3) 0 (kD_ x) K5 K0 (ST.cf hw' (i := 1) rfl))) ?_
       refine rq 1 52 (v := vi (i : Int)) rfl (hS19.se [0, 1]) (fun w' hw' => (ym (vi (i : Int)))) ?_
       refine rq 2 53 (v := vi (Int.tmod (i : Int) 4)) rfl (hS19.se [0, 1]) (fun w' hw' => (Y_rem (k := .i64) (a := (i : Int)) (b := 4) rfl rfl rfl (by decide))) ?_
       refine rq 3 54 (v := .bool ((Int.tmod (i : Int) 4) == 0)) rfl (hS19.se [0, 1]) (fun w' hw' => (yE (Int.tmod (i : Int) 4) 0)) ?_
       refine rA [4] ?_
       refine rC 55 4 rfl (yC [.bool ((Int.tmod (i : Int) 4) == 0)] K127 (c_impl_small ((Int.tmod (i : Int) 4) == 0) _  (hS19.inn0 [] rfl) hc5)) ?_ ?_
       ·rintro _ w_10 ⟨rfl, hd3⟩
        have hS20 := hS19.out00 hd3
        refine ⟨(hS20.se [0, 1]), ?_⟩
        refine rA [5] ?_
        refine rC 56 5 rfl (yC [vi r_8] K73 (c_impl_whole r_8 _  (hS20.inn0 [] rfl) hc6)) ?_ ?_
        ·rintro _ w_11 ⟨rfl, hd4⟩
         have hS21 := hS20.out00 hd4
         refine ⟨(hS21.se [0, 1]), ?_⟩
         refine ra_q 6 57 (v := .bool (!(((x.Num.A == r_9.Num.A) && ((x.Num.B == r_9.Num.B) && ((x.Num.C == r_9.Num.C) && ((x.Num.D == r_9.Num.D) && true)))) && ((x.Exp == r_9.Exp) && true)))) rfl rfl rfl (by kernel_rfl) (by kernel_rfl) (by kernel_rfl) (hS21.se [0, 1]) (fun w' hw' => (Y_neA (xs := #[vi x.Num.A, vi x.Num.B, vi x.Num.C, vi x.Num.D, vi x.Exp]) (ys := #[vi r_9.Num.A, vi r_9.Num.B, vi r_9.Num.C, vi r_9.Num.D, vi r_9.Exp]) (b := (((x.Num.A == r_9.Num.A) && ((x.Num.B == r_9.Num.B) && ((x.Num.C == r_9.Num.C) && ((x.Num.D == r_9.Num.D) && true)))) && ((x.Exp == r_9.Exp) && true))) K86 rfl rfl rfl (eqr_struct (xs := kD_ x) (ys := kD_ r_9) K87 K88 (pts_ag (us := kR_ x.Num) (vs := kR_ r_9.Num) K10 K3 rfl rfl (eqr_struct (xs := kR_ x.Num) (ys := kR_ r_9.Num) K89 K90 (pts_sc K1 rfl rfl (eqr_int K24) (pts_sc K1 rfl rfl (eqr_int K24) (pts_sc K1 rfl rfl (eqr_int K24) (pts_sc K1 rfl rfl (eqr_int K24) pts_nil))))) (pts_sc K1 rfl rfl (eqr_int K24) pts_nil))))) ?_
         refine ra_done (by kernel_rfl) ?_
         refine cw_cond (b := (!(((x.Num.A == r_9.Num.A) && ((x.Num.B == r_9.Num.B) && ((x.Num.C == r_9.Num.C) && ((x.Num.D == r_9.Num.D) && true)))) && ((x.Exp == r_9.Exp) && true)))) rfl (fun hb3 => ?_) (fun hb3 => ?_)
         ·skip
          have hF6 := ct hb2 hb3
          refine cq (cr ?_)
          refine sQ 2 (yg (.bool false)) (rn (ct_ ?_))
          obtain rfl := sI hF6
          obtain rfl := sI hL1
          obtain rfl := sI hF5
          exact ret1 Tryz.results22 (v1 := .bool false) (resAt_tmp rfl) ⟨rfl, (hS21.sN [])⟩
         ·skip
          have hF7 := cf' hb2 hb3
          refine cw_skip (cr ?_)
          refine sQ 58 (yP (i : Int) 1 rfl (hf.g 46 2)) <| sQ 46 (ym (vi (i64.wrap ((i : Int) + 1)))) (rn ?_)
          obtain rfl := sI hF7
          exact ⟨K11, Nat.lt_succ_self _, i + 1, (fc (hf.g 44 0) (fc (hf.g 45 1) (fc (congrArg (Value.int .i64) (wr_succ hlt1 hN)) fn_))), (hS21.sel [0] rfl rfl), (by omega), hL1⟩
        exact aN
       exact aN
      ·skip
       obtain rfl : k_ = 0 := by have h := of_decide_eq_false hlt; omega
       refine cw_exit rfl ?_
       obtain rfl := sI hL
       refine cq (cr ?_)
       refine sQ 2 (yg (.bool true)) (rn (ct_ ?_))
       obtain rfl := sI hF5
       exact ret1 Tryz.results22 (v1 := .bool true) (resAt_tmp rfl) ⟨rfl, (hS14.sN [])⟩
    exact aN
   exact aN
  exact aN

theorem c_impl_MulBloch (a : TBloch) (b : TBloch) (B : Option Addr) (c n : Nat) (B1 : Option Addr) (c1 n1 : Nat) (w0 : World) (hn : a.Cells.length = n) (hn1 : b.Cells.length = n1) (hS : ST w0 [] w0 [] [⟨B, (a.Cells.flatMap eN0)⟩, ⟨B1, (b.Cells.flatMap eN0)⟩]) {r_ : TBloch} {r_1 : Bool} (hF : F_impl_MulBloch a b = some (r_, r_1)) :
  CV Tryz.prog 10 #[.agg #[.slice B n c], .agg #[.slice B1 n1 c1]] w0 (fun v w' => ∃ (B2 : Option Addr) (c2 : Nat), v = .tuple #[gB_ r_ B2 c2, .bool r_1] ∧ ST w0 [] w' [⟨B2, 43, (r_.Cells.flatMap eN0), c2 * 5⟩] []) := by
 subst hn
 subst hn1
 unfold F_impl_MulBloch at hF
 refine cv_of_cw 28 Tryz.func10 rfl Tryz.ntmps10 rfl ?_
 refine cq (cr ?_)
 refine sS 2 (yB 29 (gB_ a B c) (kB_ a B c) 1 hS) ?_
 rintro _ w_ ⟨b1, rfl, hS1⟩
 refine sS 3 (yB 29 (gB_ b B1 c1) (kB_ b B1 c1) 1 hS1) ?_
 rintro _ w_1 ⟨b2, rfl, hS2⟩
 refine sS 4 (yN [.slice none 0 0] 1 hS2 K36) ?_
 rintro _ w_2 ⟨b3, rfl, hS3⟩
 refine sQ 5 (yg (.bool false)) (rn (cq (cq (cr ?_))))
 refine sQ 8 (yb (aD b1) 0 (kB_ a B c) K25 K16 (hS3.c 0)) ?_
 obtain ⟨r_2, hc, hF⟩ := bI hF
 refine sc 9 rfl rfl (yC [gB_ a B c] K110 (c_impl_IsValidBloch a B c a.Cells.length _ rfl (hS3.inn0 [(true, 0)] rfl) hc)) ?_
 rintro _ w_3 ⟨rfl, hd⟩
 have hS4 := hS3.out00 hd
 refine sQ 10 (Y_not (p := r_2) rfl rfl) <| sQ 11 (ym (.bool (!r_2))) ?_
 refine sgq 12 (B := (!(!r_2))) (v := gB_ b B1 c1) rfl rfl (uF_ 11) (fun hg => (yb (aD b2) 0 (kB_ b B1 c1) K25 K16 (hS4.c 1))) ?_
 obtain ⟨r_3, hc1, hF⟩ := bI hF
 refine sgc 13 (B := (!(!r_2))) (v := .bool r_3) (F := hS4.fn) rfl rfl (uF_ 11) hS4 (fun hg1 => (yC [gB_ b B1 c1] K110 (CV.mono (c_impl_IsValidBloch b B1 c1 b.Cells.length _ rfl (hS4.inn0 [(true, 1)] rfl) (gb_inv hc1 hg1)) (by rintro _ _ ⟨rfl, h⟩; exact ⟨rfl, hS4.out00 h⟩)) rfl (mc (gv_of (v := gB_ b B1 c1) hg1) mn))) ?_
 rintro w_4 hS5
 refine sgq 14 (B := (!(!r_2))) (v := .bool (!r_3)) rfl rfl (uF_ 11) (fun hg2 => (Y_not (p := r_3) rfl (gv_of (v := .bool r_3) hg2))) ?_
 refine sQ 15 (Y_or (b := (!r_2)) (z := (!r_3)) rfl rfl rfl rfl) (rn ?_)
 refine cw_cond (b := ((!r_2) || (!r_3))) rfl (fun hb => ?_) (fun hb => ?_)
 ·skip
  have hF1 := ct hF hb
  refine cq (cr ?_)
  refine sQ 16 (Y_buildS (zs := [.slice none 0 0]) (vs := []) (cs := [.slice none 0 0]) K68 K36 rfl mpn rfl) ?_
  refine s0 (yT 2 1 (aD b3) 29 (.agg #[.slice none 0 0]) [.slice none 0 0] 0 hS5 K16) ?_
  rintro _ w_5 ⟨rfl, hS6⟩
  refine sQ 5 (yg (.bool false)) (rn (ct_ ?_))
  have hS7 := hS6.addNil 43
  obtain ⟨rfl, rfl⟩ := pr2 (sI hF1)
  exact ret2 Tryz.results10 (v1 := .agg #[.slice none 0 0]) (resAt_cellA (B := aD b3) (i := 0) (cs := [.slice none 0 0]) (vs := [.slice none 0 0]) rfl K25 K16 (hS7.c 2) rfl rfl) (v2 := .bool false) (resAt_tmp rfl) ⟨none, 0, rfl, (hS7.sN [3])⟩
 ·skip
  have hF2 := cf' hF hb
  refine cw_skip (cq (cr ?_))
  refine sQ 18 (yd (aD b1) 0 0 K33 K8) <| sQ 19 (yl (aD b1) 0 (kB_ a B c) (.slice B a.Cells.length c) K13 (hS5.c 0)) <| sQ 20 (yd (aD b2) 0 0 K33 K8) <| sQ 21 (yl (aD b2) 0 (kB_ b B1 c1) (.slice B1 b.Cells.length c1) K13 (hS5.c 1)) ?_
  obtain ⟨⟨r_4, r_5⟩, hc2, hF2⟩ := bI hF2
  refine sc 22 rfl rfl (yC [.slice B a.Cells.length c, .slice B1 b.Cells.length c1] K131 (c_impl_mulBloch a.Cells b.Cells B c a.Cells.length B1 c1 b.Cells.length _ rfl rfl (hS5.inn0 [(true, 0), (true, 1)] rfl) hc2)) ?_
  rintro _ w_6 ⟨B3, c3, rfl, hd1⟩
  have hS8 := hS5.out0 hd1
  refine sQ 17 (ym (.tuple #[.slice B3 r_4.length c3, .bool r_5])) <| sQ 23 (ye (.slice B3 r_4.length c3)) <| sQ 24 (ye (.bool r_5)) <| sQ 6 (yg (.slice B3 r_4.length c3)) <| sQ 7 (yg (.bool r_5)) (rn (cq (cr ?_)))
  refine sQ 25 (ym (.slice B3 r_4.length c3)) <| sQ 26 (Y_buildS (zs := [.slice none 0 0]) (vs := [(0, .slice B3 r_4.length c3)]) (cs := [.slice B3 r_4.length c3]) K68 K36 rfl (mpc rfl mpn) rfl) <| sQ 27 (ym (.bool r_5)) ?_
  refine s0 (yT 2 1 (aD b3) 29 (.agg #[.slice B3 r_4.length c3]) [.slice B3 r_4.length c3] 0 hS8 K16) ?_
  rintro _ w_7 ⟨rfl, hS9⟩
  refine sQ 5 (yg (.bool r_5)) (rn (ct_ ?_))
  obtain ⟨rfl, rfl⟩ := pr2 (sI hF2)
  exact ret2 Tryz.results10 (v1 := .agg #[.slice B3 r_4.length c3]) (resAt_cellA (B := aD b3) (i := 0) (cs := [.slice B3 r_4.length c3]) (vs := [.slice B3 r_4.length c3]) rfl K25 K16 (hS9.c 2) rfl rfl) (v2 := .bool r_5) (resAt_tmp rfl) ⟨B3, c3, rfl, (hS9.sN [3])⟩

theorem c_impl_blochExp (b : TBloch) (B : Option Addr) (c n : Nat) (w0 : World) (hn : b.Cells.length = n) (hS : ST w0 [] w0 [] [⟨B, (b.Cells.flatMap eN0)⟩]) {r_ : Int} (hF : F_impl_blochExp b = some r_) :
  CV Tryz.prog 24 #[.agg #[.slice B n c]] w0 (fun v w' => v = vi r_ ∧ ST w0 [] w' [] []) := by
 subst hn
 unfold F_impl_blochExp at hF
 refine cv_of_cw 19 Tryz.func24 rfl Tryz.ntmps24 rfl ?_
 refine cq (cr ?_)
 refine sS 1 (yB 29 (gB_ b B c) (kB_ b B c) 1 hS) ?_
 rintro _ w_ ⟨b1, rfl, hS1⟩
 refine sQ 2 (yg (vi 0)) (rn (cq (cr ?_)))
 refine sQ 3 (yg (vi 0)) (rn (cq (cq (cr ?_))))
 refine sQ 6 (yd (aD b1) 0 0 K33 K8) <| sQ 7 (yl (aD b1) 0 (kB_ b B c) (.slice B b.Cells.length c) K13 (hS1.c 0)) <| sQ 8 (Y_len (B := B) (m := b.Cells.length) (c := c) K7 rfl rfl) <| sQ 9 (ym (vi 0)) (rn ?_)
 obtain ⟨hN, hF⟩ := chk_inv hF
 obtain ⟨z, hz, hF1⟩ := bI hF
 refine cw_block ?_
 refine cw_loop (fun k f w => ∃ (i : Nat) (most : Int), FF f [(3, vi most), (7, .slice B b.Cells.length c), (8, vi (b.Cells.length : Int)), (9, vi (i : Int))] ∧ ST w0 [] w [] [⟨B, (b.Cells.flatMap eN0)⟩] ∧ i + k = b.Cells.length ∧ forN (F_impl_blochExp_l1 b) k i most = some z) b.Cells.length ⟨0, 0, (fc rfl (fc rfl (fc rfl (fc rfl fn_)))), (hS1.sel [] rfl rfl), Nat.zero_add _, hz⟩ ?_
 rintro k_ f w ⟨i, most, hf, hS2, hik, hL⟩
 refine cq (cr ?_)
 refine sQ 10 (yL (i : Int) (b.Cells.length : Int) rfl (hf.g 9 3) (hf.g 8 2)) (rn (cq ?_))
 refine cw_cond (b := (decide ((i : Int) < (b.Cells.length : Int)))) rfl (fun hlt => ?_) (fun hlt => ?_)
 ·skip
  have hlt1 : i < b.Cells.length := by have h := of_decide_eq_true hlt; omega
  obtain ⟨K11, rfl⟩ : ∃ k2, k_ = k2 + 1 := ⟨k_ - 1, by omega⟩
  obtain ⟨y, hb, hL1⟩ := forN_go hL
  unfold F_impl_blochExp_l1 at hb
  refine cw_skip (cq (cw_block (cq (cr ?_))))
  obtain ⟨x, hx, hb⟩ := bI hb
  refine sQ 11 (Y_index (B := B) (m := b.Cells.length) (c := c) (k := .i64) (i := (i : Int)) K7 K0 rfl (hf.g 7 1) (hf.g 9 3) (gi_isSome eN2 rfl (hS2.rf (i := 0) rfl) hx) (getI_nn hx) (getI_ltI hx rfl)) <| sQ 12 (ya B ((i : Int).toNat * 5) (b.Cells.flatMap eN0) (kD_ x) K5 K0 (hS2.rf (i := 0) rfl) rfl rfl (eN2 x) (gi_seg eN2 hx)) ?_
  refine sS 5 (yN kZ_ 5 hS2 K6) ?_
  rintro _ w_1 ⟨b2, rfl, hS3⟩
  refine s0 (yT 0 5 (aD b2) 43 (gD_ x) (kD_ x) 0 hS3 K0) ?_
  rintro _ w_2 ⟨rfl, hS4⟩
  refine rn (cr ?_)
  refine sQ 13 (ym (vi most) rfl (hf.g 3 0)) <| sQ 14 (yd (aD b2) 0 0 K30 K2) <| sQ 15 (yl (aD b2) 4 (kD_ x) (vi x.Exp) K1 (hS4.c 0)) <| sQ 16 (Y_max2 (k := .i64) (a := most) (b := x.Exp) rfl rfl rfl) <| sQ 3 (yg (vi (if most < x.Exp then x.Exp else most))) (rn (cr ?_))
  refine sQ 17 (yP (i : Int) 1 rfl (hf.g 9 3)) <| sQ 9 (ym (vi (i64.wrap ((i : Int) + 1)))) (rn ?_)
  obtain rfl := sI hb
  exact ⟨K11, Nat.lt_succ_self _, i + 1, (if most < x.Exp then x.Exp else most), (fc rfl (fc (hf.g 7 1) (fc (hf.g 8 2) (fc (congrArg (Value.int .i64) (wr_succ hlt1 hN)) fn_)))), (hS4.sel [] rfl rfl), (by omega), hL1⟩
 ·skip
  obtain rfl : k_ = 0 := by have h := of_decide_eq_false hlt; omega
  refine cw_exit rfl ?_
  obtain rfl := sI hL
  refine cq (cr ?_)
  refine sQ 18 (ym (vi most) rfl (hf.g 3 0)) <| sQ 2 (yg (vi most)) (rn (ct_ ?_))
  obtain rfl := sI hF1
  exact ret1 Tryz.results24 (v1 := vi most) (resAt_tmp rfl) ⟨rfl, (hS2.sN [])⟩

theorem c_impl_BlochExp (b : TBloch) (B : Option Addr) (c n : Nat) (w0 : World) (hn : b.Cells.length = n) (hS : ST w0 [] w0 [] [⟨B, (b.Cells.flatMap eN0)⟩]) {r_ : Int} {r_1 : Bool} (hF : F_impl_BlochExp b = some (r_, r_1)) :
  CV Tryz.prog 11 #[.agg #[.slice B n c]] w0 (fun v w' => v = .tuple #[vi r_, .bool r_1] ∧ ST w0 [] w' [] []) := by
 subst hn
 unfold F_impl_BlochExp at hF
 refine cv_of_cw 9 Tryz.func11 rfl Tryz.ntmps11 rfl ?_
 refine cq (cr ?_)
 refine sS 1 (yB 29 (gB_ b B c) (kB_ b B c) 1 hS) ?_
 rintro _ w_ ⟨b1, rfl, hS1⟩
 refine sQ 2 (yg (vi 0)) <| sQ 3 (yg (.bool false)) (rn (cq (cq (cr ?_))))
 refine sQ 4 (yb (aD b1) 0 (kB_ b B c) K25 K16 (hS1.c 0)) ?_
 obtain ⟨r_2, hc, hF⟩ := bI hF
 refine sc 5 rfl rfl (yC [gB_ b B c] K110 (c_impl_IsValidBloch b B c b.Cells.length _ rfl (hS1.inn0 [(true, 0)] rfl) hc)) ?_
 rintro _ w_1 ⟨rfl, hd⟩
 have hS2 := hS1.out00 hd
 refine sQ 6 (Y_not (p := r_2) rfl rfl) (rn ?_)
 refine cw_cond (b := (!r_2)) rfl (fun hb => ?_) (fun hb => ?_)
 ·skip
  have hF1 := ct hF hb
  refine cq (cr ?_)
  refine sQ 2 (yg (vi 0)) <| sQ 3 (yg (.bool false)) (rn (ct_ ?_))
  obtain ⟨rfl, rfl⟩ := pr2 (sI hF1)
  exact ret2 Tryz.results11 (v1 := vi 0) (resAt_tmp rfl) (v2 := .bool false) (resAt_tmp rfl) ⟨rfl, (hS2.sN [])⟩
 ·skip
  have hF2 := cf' hF hb
  refine cw_skip (cq (cr ?_))
  refine sQ 7 (yb (aD b1) 0 (kB_ b B c) K25 K16 (hS2.c 0)) ?_
  obtain ⟨r_3, hc1, hF2⟩ := bI hF2
  refine sc 8 rfl rfl (yC [gB_ b B c] k_call_24 (c_impl_blochExp b B c b.Cells.length _ rfl (hS2.inn0 [(true, 0)] rfl) hc1)) ?_
  rintro _ w_2 ⟨rfl, hd1⟩
  have hS3 := hS2.out00 hd1
  refine sQ 2 (yg (vi r_3)) <| sQ 3 (yg (.bool true)) (rn (ct_ ?_))
  obtain ⟨rfl, rfl⟩ := pr2 (sI hF2)
  exact ret2 Tryz.results11 (v1 := vi r_3) (resAt_tmp rfl) (v2 := .bool true) (resAt_tmp rfl) ⟨rfl, (hS3.sN [])⟩

theorem c_impl_blochGate (kind : Int)  (w0 : World)  (hS : ST w0 [] w0 [] [⟨(aD 0), [vi 1, vi 0, vi 0, vi 0, vi 2]⟩]) {r_ : TBloch} (hF : F_impl_blochGate kind = some r_) :
  CV Tryz.prog 53 #[vi kind] w0 (fun v w' => ∃ (B : Option Addr) (c : Nat), v = (gB_ r_ B c) ∧ ST w0 [] w' [⟨B, 43, (r_.Cells.flatMap eN0), c * 5⟩] []) := by
 unfold F_impl_blochGate at hF
 refine cv_of_cw 19 Tryz.func53 rfl Tryz.ntmps53 rfl ?_
 refine cq (cr ?_)
 refine sS 2 (yN [.slice none 0 0] 1 hS K36) ?_
 rintro _ w_ ⟨b, rfl, hS1⟩
 refine rn (cq (cr ?_))
 refine sQ 8 (ym (vi kind)) <| sQ 9 (Y_buildS (zs := [vi 0, vi 0, vi 0]) (vs := [(0, vi kind)]) (cs := [vi kind, vi 0, vi 0]) K83 K48 rfl (mpc rfl mpn) rfl) ?_
 obtain ⟨⟨r_1, r_2⟩, hc, hF⟩ := bI hF
 refine sc 10 rfl rfl (yC [vi 1, .agg #[vi kind, vi 0, vi 0]] K129 (c_impl_GateMatrix 1 (TGate.mk kind 0 0) _  (hS1.inn0 [] rfl) hc)) ?_
 rintro _ w_1 ⟨B1, c1, rfl, hd⟩
 have hS2 := hS1.out0 hd
 refine sQ 7 (ym (.tuple #[gM_ r_1 B1 c1, .bool r_2])) <| sQ 11 (ye (gM_ r_1 B1 c1)) <| sQ 12 (ye (.bool r_2)) ?_
 refine sS 3 (yN kN_ 3 hS2 K12) ?_
 rintro _ w_2 ⟨b1, rfl, hS3⟩
 refine s0 (yT 2 3 (aD b1) 26 (gM_ r_1 B1 c1) (kM_ r_1 B1 c1) 0 hS3 K4) ?_
 rintro _ w_3 ⟨rfl, hS4⟩
 refine sQ 4 (yg (.bool r_2)) (rn (cq (cr ?_)))
 refine sQ 14 (yb (aD b1) 0 (kM_ r_1 B1 c1) K9 K4 (hS4.c 2)) ?_
 obtain ⟨⟨r_3, r_4⟩, hc1, hF⟩ := bI hF
 refine sc 15 rfl rfl (yC [gM_ r_1 B1 c1] K111 (c_impl_BlochOf r_1 B1 c1 r_1.Cells.length _ rfl (hS4.inn0 [(false, 1), (true, 0)] rfl) hc1)) ?_
 rintro _ w_4 ⟨B2, c2, rfl, hd1⟩
 have hS5 := hS4.out0 hd1
 refine sQ 13 (ym (.tuple #[gB_ r_3 B2 c2, .bool r_4])) <| sQ 16 (ye (gB_ r_3 B2 c2)) <| sQ 17 (ye (.bool r_4)) ?_
 refine sS 5 (yN [.slice none 0 0] 1 hS5 K36) ?_
 rintro _ w_5 ⟨b2, rfl, hS6⟩
 refine s0 (yT 4 1 (aD b2) 29 (gB_ r_3 B2 c2) (kB_ r_3 B2 c2) 0 hS6 K16) ?_
 rintro _ w_6 ⟨rfl, hS7⟩
 refine sQ 6 (yg (.bool r_4)) (rn (cq (cr ?_)))
 refine sQ 18 (yb (aD b2) 0 (kB_ r_3 B2 c2) K25 K16 (hS7.c 4)) ?_
 refine s0 (yT 0 1 (aD b) 29 (gB_ r_3 B2 c2) (kB_ r_3 B2 c2) 0 hS7 K16) ?_
 rintro _ w_7 ⟨rfl, hS8⟩
 refine rn (ct_ ?_)
 obtain rfl := sI hF
 exact ret1 Tryz.results53 (v1 := gB_ r_3 B2 c2) (resAt_cellA (B := aD b) (i := 0) (cs := kB_ r_3 B2 c2) (vs := kB_ r_3 B2 c2) rfl K25 K16 (hS8.c 0) rfl rfl) ⟨B2, c2, rfl, (hS8.sN [3])⟩
end Go.VK
