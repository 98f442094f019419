/- Walks: each Go function returns what its Lean function says. By program. -/
import Derived.Test.YtkmncijipedjaaaGreatDoorIsShortestFa
import Derived.Test.YtkmncijipedjaaaGreatDoorIsShortestShelf
import Derived.Test.YtkmncijipedjaaaGreatDoorLibU
import Derived.Test.YtkmncijipedjaaaGreatDoorIsShortestW2
set_option linter.unusedVariables false
set_option maxRecDepth 100000
set_option maxHeartbeats 4000000
namespace Go.VK
open Go.RowKit
open Go.Proofs
open Go.IntKind
attribute [local irreducible] CW RW RA CV Y Yw Yc Ys RetOf
attribute [local irreducible] F_laws_szCircuit F_spec_IsShortest F_laws_toCircuit F_impl_IdentityMatrix F_impl_IsValidCircuit F_impl_IsValidRing F_impl_MulOmega F_impl_phase F_impl_GateMatrix F_slices_IndexFunc_impl_Dyadic_impl_Dyadic F_impl_IsValidDyadic F_impl_IsValidMatrix F_impl_MulMatrix F_impl_OperatorOf F_impl_CanonicalPhase_1 F_impl_compareRings F_impl_ScaleMatrix F_impl_CanonicalPhase F_strings_Join F_strconv_Itoa F_impl_joinInts F_impl_FormatRing F_impl_FormatDyadic F_impl_OperatorKey F_impl_tableGates F_slices_Clone_impl_Gate_impl_Gate F_impl_circuitIf F_impl_ShortestWord F_impl_ShortestLength F_impl_IsShortest F_laws_eqGate F_laws_eqGateS F_laws_eqCircuit F_laws_FnExactIsShortest
theorem c_impl_CanonicalPhase (m : TMatrix) (B : Option Addr) (c n : Nat) (w0 : World) (hn : m.Cells.length = n) (hS : ST w0 [] w0 [] [⟨B, (m.Cells.flatMap eN1)⟩]) {r_ : TMatrix} {r_1 : Int} {r_2 : Bool} (hF : F_impl_CanonicalPhase m = some (r_, r_1, r_2)) :
  CV Tryz.prog 57 #[.agg #[vi m.Rows, vi m.Cols, .slice B n c]] w0 (fun v w' => ∃ (B1 : Option Addr) (c1 : Nat), v = .tuple #[gM_ r_ B1 c1, vi r_1, .bool r_2] ∧ ST w0 [] w' [⟨B1, 91, (r_.Cells.flatMap eN1), c1 * 5⟩] []) := by
 subst hn
 unfold F_impl_CanonicalPhase at hF
 refine cv_of_cw 61 Tryz.func57 rfl Tryz.ntmps57 rfl ?_
 refine cq (cr ?_)
 refine sS 1 (yB 50 (gM_ m B c) (kM_ m B c) 3 hS) ?_
 rintro _ w_ ⟨b, rfl, hS1⟩
 refine sS 2 (yN kN_ 3 hS1 K13) ?_
 rintro _ w_1 ⟨b1, rfl, hS2⟩
 refine sQ 3 (yg (vi 0)) <| sQ 4 (yg (.bool false)) (rn (cq (cr ?_)))
 refine sQ 13 (yd (aD b) 0 0 K28 K24) <| sQ 14 (yl (aD b) 2 (kM_ m B c) (.slice B m.Cells.length c) K34 (hS2.c 0)) ?_
 obtain ⟨r_3, hc, hF⟩ := bI hF
 refine sc 15 rfl rfl (yC [.slice B m.Cells.length c, .func (.func 90) #[] #[]] k_call_89 (c_slices_IndexFunc_impl_Dyadic_impl_Dyadic m.Cells F_impl_CanonicalPhase_1 B c m.Cells.length 90 (#[]) [] _ rfl k_call_90 (fun w hw x_0 y_0 h_ => c_impl_CanonicalPhase_1 x_0  w  hw h_) (hS2.inn0 [(true, 0)] rfl) hc)) ?_
 rintro _ w_2 ⟨rfl, hd⟩
 have hS3 := hS2.out00 hd
 refine sQ 5 (yg (vi r_3)) (rn (cq (cq (cr ?_))))
 refine sQ 16 (yb (aD b) 0 (kM_ m B c) K9 K4 (hS3.c 0)) ?_
 obtain ⟨r_4, hc1, hF⟩ := bI hF
 refine sc 17 rfl rfl (yC [gM_ m B c] K86 (c_impl_IsValidMatrix m B c m.Cells.length _ rfl (hS3.inn0 [(true, 0)] rfl) hc1)) ?_
 rintro _ w_3 ⟨rfl, hd1⟩
 have hS4 := hS3.out00 hd1
 refine sQ 18 (Y_not (p := r_4) rfl rfl) <| sQ 19 (ym (.bool (!r_4))) ?_
 refine sgq 20 (B := (!(!r_4))) (v := vi r_3) rfl rfl (uF_ 19) (fun hg => (ym (vi r_3))) ?_
 refine sgq 21 (B := (!(!r_4))) (v := .bool (decide (r_3 < 0))) rfl rfl (uF_ 19) (fun hg1 => (yL r_3 0 rfl (gv_of (v := vi r_3) hg1))) ?_
 refine sQ 22 (Y_or (b := (!r_4)) (z := (decide (r_3 < 0))) rfl rfl rfl rfl) (rn ?_)
 refine cw_cond (b := ((!r_4) || (decide (r_3 < 0)))) rfl (fun hb => ?_) (fun hb => ?_)
 ·skip
  have hF1 := ct hF hb
  refine cq (cr ?_)
  refine sQ 23 (Y_buildS (zs := kN_) (vs := []) (cs := kN_) K47 K13 rfl mpn rfl) ?_
  refine s0 (yT 1 3 (aD b1) 50 gN_ kN_ 0 hS4 K4) ?_
  rintro _ w_4 ⟨rfl, hS5⟩
  refine sQ 3 (yg (vi 0)) <| sQ 4 (yg (.bool false)) (rn (ct_ ?_))
  have hS6 := hS5.addNil 91
  obtain ⟨rfl, rfl, rfl⟩ := pr3 (sI hF1)
  exact ret3 Tryz.results57 (v1 := gN_) (resAt_cellA (B := aD b1) (i := 0) (cs := kN_) (vs := kN_) rfl K9 K4 (hS6.c 1) rfl rfl) (v2 := vi 0) (resAt_tmp rfl) (v3 := .bool false) (resAt_tmp rfl) ⟨none, 0, rfl, (hS6.sN [2])⟩
 ·skip
  have hF2 := cf' hF hb
  refine cw_skip (cq ?_)
  obtain ⟨x, hx, hF2⟩ := bI hF2
  refine ra_start (hS4.se [0, 1]).fn (by kernel_rfl) ?_
  have hS7 := hS4.drew
  refine rq 0 24 (v := pt (aD b) 2) rfl (hS7.se [0, 1]) (fun w' hw' => (yd (aD b) 0 0 K28 K24)) ?_
  refine rq 1 25 (v := .slice B m.Cells.length c) rfl (hS7.se [0, 1]) (fun w' hw' => (yl (aD b) 2 (kM_ m B c) (.slice B m.Cells.length c) K34 (ST.cf hw' (i := 0) rfl))) ?_
  refine rq 2 26 (v := vi r_3) rfl (hS7.se [0, 1]) (fun w' hw' => (ym (vi r_3))) ?_
  refine rq 3 27 (v := pt B (r_3.toNat * 5)) rfl (hS7.se [0, 1]) (fun w' hw' => (Y_index (B := B) (m := m.Cells.length) (c := c) (k := .i64) (i := r_3) K21 K2 rfl rfl rfl (gi_isSome enc_Dyadic_len rfl (ST.rf hw' (i := 0) rfl) hx) (getI_nn hx) (getI_ltI hx rfl))) ?_
  refine rq 4 28 (v := pt B (r_3.toNat * 5 + 0)) rfl (hS7.se [0, 1]) (fun w' hw' => (yd B (r_3.toNat * 5) 3 K32 K3)) ?_
  refine rq 5 29 (v := gR_ x.Num) rfl (hS7.se [0, 1]) (fun w' hw' => (ya B (r_3.toNat * 5 + 0) (m.Cells.flatMap eN1) (kR_ x.Num) K6 K3 (ST.rf hw' (i := 0) rfl) rfl rfl rfl (gi_segf enc_Dyadic_len hx (s2 := 4) rfl (by decide)))) ?_
  refine rA [6] ?_
  refine rS 7 6 rfl (yN [vi 0, vi 0, vi 0, vi 0] 4 hS7 K12) ?_ ?_
  ·rintro _ w_5 ⟨b2, rfl, hS8⟩
   refine ⟨(hS8.se [0, 1]), ?_⟩
   refine rq 7 6 (v := vi 0) rfl (hS8.se [0, 1]) (fun w' hw' => (yg (vi 0))) ?_
   refine rA [8] ?_
   refine rZ 8 rfl (yT 2 4 (aD b2) 89 (gR_ x.Num) (kR_ x.Num) 0 hS8 K3) ?_ ?_
   ·rintro _ w_6 ⟨rfl, hS9⟩
    refine ⟨(hS9.se [0, 1]), ?_⟩
    refine ra_done (by kernel_rfl) ?_
    refine cq (cq (cr ?_))
    refine sQ 8 (yg (vi 1)) (rn ?_)
    obtain ⟨z, hz, hF3⟩ := bI hF2
    refine cw_block ?_
    refine cw_loop (fun k f w => ∃ (best : Int) (A : Int) (B2 : Int) (C : Int) (D : Int) (k_ : Int), FF f [(1, pt (aD b) 0), (2, pt (aD b1) 0), (5, vi r_3), (6, vi best), (7, pt (aD b2) 0), (8, vi k_)] ∧ ST w0 [] w [⟨aD b, 50, kM_ m B c, 3⟩, ⟨aD b1, 50, kN_, 3⟩, ⟨aD b2, 89, [vi A, vi B2, vi C, vi D], 4⟩] [⟨B, (m.Cells.flatMap eN1)⟩] ∧ whX (F_impl_CanonicalPhase_l1 m r_3) k (best, A, B2, C, D, k_) = some z) fuel ⟨0, x.Num.A, x.Num.B, x.Num.C, x.Num.D, 1, (fc rfl (fc rfl (fc rfl (fc rfl (fc rfl (fc rfl fn_)))))), (hS9.sel [0, 1, 2] rfl rfl), hz⟩ ?_
    rintro K7 f w ⟨best, A, B2, C, D, k_, hf, hS10, hL⟩
    obtain ⟨K23, y, rfl, hb1, hL1⟩ := whX_go hL
    unfold F_impl_CanonicalPhase_l1 at hb1
    refine cq (cq (cr ?_))
    refine sQ 30 (ym (vi k_) rfl (hf.g 8 5)) <| sQ 31 (yL k_ 8) (rn ?_)
    refine cw_cond (b := (decide (k_ < 8))) rfl (fun hb2 => ?_) (fun hb2 => ?_)
    ·skip
     have hF4 := ct hb1 hb2
     refine cw_skip (cq ?_)
     obtain ⟨z1, hz1, hF5⟩ := bI hF4
     refine cw_mid (fun f w => ∃ (best1 : Int) (A1 : Int) (B3 : Int) (C1 : Int) (D1 : Int), (best1, A1, B3, C1, D1) = z1 ∧ FF f [(1, pt (aD b) 0), (2, pt (aD b1) 0), (5, vi r_3), (6, vi best1), (7, pt (aD b2) 0), (8, vi k_)] ∧ ST w0 [] w [⟨aD b, 50, kM_ m B c, 3⟩, ⟨aD b1, 50, kN_, 3⟩, ⟨aD b2, 89, [vi A1, vi B3, vi C1, vi D1], 4⟩] [⟨B, (m.Cells.flatMap eN1)⟩]) ?_ ?_
     ·skip
      refine cw_block (cq (cr ?_))
      refine sQ 35 (yd (aD b) 0 0 K28 K24 rfl (hf.g 1 0)) <| sQ 36 (yl (aD b) 2 (kM_ m B c) (.slice B m.Cells.length c) K34 (hS10.c 0)) <| sQ 37 (ym (vi r_3) rfl (hf.g 5 2)) ?_
      obtain ⟨x1, hx1, hz1⟩ := bI hz1
      refine sQ 38 (Y_index (B := B) (m := m.Cells.length) (c := c) (k := .i64) (i := r_3) K21 K2 rfl rfl rfl (gi_isSome enc_Dyadic_len rfl (hS10.rf (i := 0) rfl) hx1) (getI_nn hx1) (getI_ltI hx1 rfl)) <| sQ 39 (yd B (r_3.toNat * 5) 3 K32 K3) <| sQ 40 (ya B (r_3.toNat * 5 + 0) (m.Cells.flatMap eN1) (kR_ x1.Num) K6 K3 (hS10.rf (i := 0) rfl) rfl rfl rfl (gi_segf enc_Dyadic_len hx1 (s2 := 4) rfl (by decide))) <| sQ 41 (ym (vi k_) rfl (hf.g 8 5)) ?_
      obtain ⟨⟨r_5, r_6⟩, hc2, hz1⟩ := bI hz1
      refine sc 42 rfl rfl (yC [gR_ x1.Num, vi k_] k_call_91 (c_impl_MulOmega x1.Num k_ _  (hS10.inn0 [] rfl) hc2)) ?_
      rintro _ w_7 ⟨rfl, hd2⟩
      have hS12 := hS10.out00 hd2
      refine sQ 34 (ym (.tuple #[gR_ r_5, .bool r_6])) <| sQ 43 (ye (gR_ r_5)) <| sQ 44 (ye (.bool r_6)) ?_
      refine sS 9 (yN [vi 0, vi 0, vi 0, vi 0] 4 hS12 K12) ?_
      rintro _ w_8 ⟨b3, rfl, hS13⟩
      refine s0 (yT 3 4 (aD b3) 89 (gR_ r_5) (kR_ r_5) 0 hS13 K3) ?_
      rintro _ w_9 ⟨rfl, hS14⟩
      refine sQ 10 (yg (.bool r_6)) (rn (cq (cr ?_)))
      refine sQ 45 (yb (aD b3) 0 (kR_ r_5) K6 K3 (hS14.c 3)) <| sQ 46 (yb (aD b2) 0 [vi A, vi B2, vi C, vi D] K6 K3 (hS14.c 2) rfl (hf.g 7 4)) ?_
      obtain ⟨r_7, hc3, hz1⟩ := bI hz1
      refine sc 47 rfl rfl (yC [gR_ r_5, .agg #[vi A, vi B2, vi C, vi D]] k_call_92 (c_impl_compareRings r_5 (TRing.mk A B2 C D) _  (hS14.inn0 [] rfl) hc3)) ?_
      rintro _ w_10 ⟨rfl, hd3⟩
      have hS15 := hS14.out00 hd3
      refine sQ 48 (Y_gt (k := .i64) (a := r_7) (b := 0) rfl rfl rfl) (rn ?_)
      refine cw_cond (b := (decide (0 < r_7))) rfl (fun hb3 => ?_) (fun hb3 => ?_)
      ·skip
       have hF6 := ct hz1 hb3
       refine ra_start (hS15.se [0, 1, 3]).fn (by kernel_rfl) ?_
       have hS16 := hS15.drew
       refine rq 0 49 (v := vi k_) rfl (hS16.se [0, 1, 3]) (fun w' hw' => (ym (vi k_) rfl (hf.g 8 5))) ?_
       refine rq 1 50 (v := gR_ r_5) rfl (hS16.se [0, 1, 3]) (fun w' hw' => (yb (aD b3) 0 (kR_ r_5) K6 K3 (ST.cf hw' (i := 2) rfl))) ?_
       refine rq 2 6 (v := vi k_) rfl (hS16.se [0, 1, 3]) (fun w' hw' => (yg (vi k_))) ?_
       refine rA [3] ?_
       refine rZ 3 rfl (yT 2 4 (aD b2) 89 (gR_ r_5) (kR_ r_5) 0 hS16 K3 rfl (hf.g 7 4)) ?_ ?_
       ·rintro _ w_11 ⟨rfl, hS17⟩
        refine ⟨(hS17.se [0, 1, 3]), ?_⟩
        refine ra_done (by kernel_rfl) ?_
        exact ⟨k_, r_5.A, r_5.B, r_5.C, r_5.D, (sI hF6), (fc (hf.g 1 0) (fc (hf.g 2 1) (fc (hf.g 5 2) (fc rfl (fc (hf.g 7 4) (fc (hf.g 8 5) fn_)))))), (hS17.sel [0, 1, 2] rfl rfl)⟩
       exact aN
      ·skip
       have hF7 := cf' hz1 hb3
       refine cw_skip ?_
       exact ⟨best, A, B2, C, D, (sI hF7), (fc (hf.g 1 0) (fc (hf.g 2 1) (fc (hf.g 5 2) (fc (hf.g 6 3) (fc (hf.g 7 4) (fc (hf.g 8 5) fn_)))))), (hS15.sel [0, 1, 2] rfl rfl)⟩
     rintro f w ⟨best1, A1, B3, C1, D1, rfl, hf1, hS11⟩
     refine cr ?_
     refine sQ 32 (ym (vi k_) rfl (hf1.g 8 5)) <| sQ 33 (yP k_ 1) <| sQ 8 (yg (vi (i64.wrap (k_ + 1)))) (rn ?_)
     obtain rfl := sI hF5
     exact ⟨K23, Nat.lt_succ_self _, best1, A1, B3, C1, D1, (i64.wrap (k_ + 1)), (fc (hf1.g 1 0) (fc (hf1.g 2 1) (fc (hf1.g 5 2) (fc (hf1.g 6 3) (fc (hf1.g 7 4) (fc rfl fn_)))))), (hS11.sel [0, 1, 2] rfl rfl), hL1⟩
    ·skip
     have hF8 := cf' hb1 hb2
     refine cw_exit rfl ?_
     obtain rfl := sI hF8
     obtain rfl := sI hL1
     refine cq ?_
     obtain ⟨r_8, hc4, hF3⟩ := bI hF3
     obtain ⟨⟨r_9, r_10⟩, hc5, hF3⟩ := bI hF3
     refine cw_mid (fun f w => ∃ (B5 : Option Addr) (B6 : Option Addr) (c3 : Nat), FF f [(2, pt (aD b1) 0), (6, vi best), (11, pt B5 0), (12, .bool r_10)] ∧ ST w0 [] w [⟨aD b1, 50, kN_, 3⟩, ⟨B5, 50, kM_ r_9 B6 c3, 3⟩, ⟨B6, 91, (r_9.Cells.flatMap eN1), c3 * 5⟩] [⟨B, (m.Cells.flatMap eN1)⟩]) ?_ ?_
     ·skip
      refine ra_start (hS10.se [0, 1, 2]).fn (by kernel_rfl) ?_
      have hS21 := hS10.drew
      refine rq 0 52 (v := gM_ m B c) rfl (hS21.se [0, 1, 2]) (fun w' hw' => (yb (aD b) 0 (kM_ m B c) K9 K4 (ST.cf hw' (i := 0) rfl) rfl (hf.g 1 0))) ?_
      refine rq 1 53 (v := vi best) rfl (hS21.se [0, 1, 2]) (fun w' hw' => (ym (vi best) rfl (hf.g 6 3))) ?_
      refine rA [2, 7] ?_
      refine rC 54 2 rfl (yC [vi best] K72 (c_impl_phase best _  (hS21.inn0 [] rfl) hc4)) ?_ ?_
      ·rintro _ w_12 ⟨rfl, hd4⟩
       have hS22 := hS21.out00 hd4
       refine ⟨(hS22.se [0, 1, 2]), ?_⟩
       refine rA [3, 7] ?_
       refine rC 55 3 rfl (yC [gM_ m B c, gD_ r_8] K100 (c_impl_ScaleMatrix m r_8 B c m.Cells.length _ rfl (hS22.inn0 [(true, 0)] rfl) hc5)) ?_ ?_
       ·rintro _ w_13 ⟨B4, c2, rfl, hd5⟩
        have hS23 := hS22.out0 hd5
        refine ⟨(hS23.se [0, 1, 2]), ?_⟩
        refine rq 4 51 (v := .tuple #[gM_ r_9 B4 c2, .bool r_10]) rfl (hS23.se [0, 1, 2]) (fun w' hw' => (ym (.tuple #[gM_ r_9 B4 c2, .bool r_10]))) ?_
        refine rq 5 56 (v := gM_ r_9 B4 c2) rfl (hS23.se [0, 1, 2]) (fun w' hw' => (ye (gM_ r_9 B4 c2))) ?_
        refine rq 6 57 (v := .bool r_10) rfl (hS23.se [0, 1, 2]) (fun w' hw' => (ye (.bool r_10))) ?_
        refine rA [7] ?_
        refine rS 11 7 rfl (yN kN_ 3 hS23 K13) ?_ ?_
        ·rintro _ w_14 ⟨b4, rfl, hS24⟩
         refine ⟨(hS24.se [0, 1, 2]), ?_⟩
         refine rA [8] ?_
         refine rZ 8 rfl (yT 4 3 (aD b4) 50 (gM_ r_9 B4 c2) (kM_ r_9 B4 c2) 0 hS24 K4) ?_ ?_
         ·rintro _ w_15 ⟨rfl, hS25⟩
          refine ⟨(hS25.se [0, 1, 2]), ?_⟩
          refine rq 9 12 (v := .bool r_10) rfl (hS25.se [0, 1, 2]) (fun w' hw' => (yg (.bool r_10))) ?_
          refine ra_done (by kernel_rfl) ?_
          exact ⟨aD b4, B4, c2, (fc (hf.g 2 1) (fc (hf.g 6 3) (fc rfl (fc rfl fn_)))), (hS25.sel [1, 4, 3] rfl rfl)⟩
         exact aN
        exact aN
       refine rS 11 7 rfl (yN kN_ 3 hS22 K13) ?_ ?_
       ·rintro _ w_16 ⟨b4, rfl, hS26⟩
        refine ⟨(hS26.se [0, 1, 2]), ?_⟩
        refine rA [3] ?_
        refine rC 55 3 rfl (yC [gM_ m B c, gD_ r_8] K100 (c_impl_ScaleMatrix m r_8 B c m.Cells.length _ rfl (hS26.inn0 [(true, 0)] rfl) hc5)) ?_ ?_
        ·rintro _ w_17 ⟨B4, c2, rfl, hd6⟩
         have hS27 := hS26.out0 hd6
         refine ⟨(hS27.se [0, 1, 2]), ?_⟩
         refine rq 4 51 (v := .tuple #[gM_ r_9 B4 c2, .bool r_10]) rfl (hS27.se [0, 1, 2]) (fun w' hw' => (ym (.tuple #[gM_ r_9 B4 c2, .bool r_10]))) ?_
         refine rq 5 56 (v := gM_ r_9 B4 c2) rfl (hS27.se [0, 1, 2]) (fun w' hw' => (ye (gM_ r_9 B4 c2))) ?_
         refine rq 6 57 (v := .bool r_10) rfl (hS27.se [0, 1, 2]) (fun w' hw' => (ye (.bool r_10))) ?_
         refine rA [8] ?_
         refine rZ 8 rfl (yT 3 3 (aD b4) 50 (gM_ r_9 B4 c2) (kM_ r_9 B4 c2) 0 hS27 K4) ?_ ?_
         ·rintro _ w_18 ⟨rfl, hS28⟩
          refine ⟨(hS28.se [0, 1, 2]), ?_⟩
          refine rq 9 12 (v := .bool r_10) rfl (hS28.se [0, 1, 2]) (fun w' hw' => (yg (.bool r_10))) ?_
          refine ra_done (by kernel_rfl) ?_
          exact ⟨aD b4, B4, c2, (fc (hf.g 2 1) (fc (hf.g 6 3) (fc rfl (fc rfl fn_)))), (hS28.sel [1, 3, 4] rfl rfl)⟩
         exact aN
        exact aN
       exact aN
      refine rS 11 7 rfl (yN kN_ 3 hS21 K13) ?_ ?_
      ·rintro _ w_19 ⟨b4, rfl, hS29⟩
       refine ⟨(hS29.se [0, 1, 2]), ?_⟩
       refine rA [2] ?_
       refine rC 54 2 rfl (yC [vi best] K72 (c_impl_phase best _  (hS29.inn0 [] rfl) hc4)) ?_ ?_
       ·rintro _ w_20 ⟨rfl, hd7⟩
        have hS30 := hS29.out00 hd7
        refine ⟨(hS30.se [0, 1, 2]), ?_⟩
        refine rA [3] ?_
        refine rC 55 3 rfl (yC [gM_ m B c, gD_ r_8] K100 (c_impl_ScaleMatrix m r_8 B c m.Cells.length _ rfl (hS30.inn0 [(true, 0)] rfl) hc5)) ?_ ?_
        ·rintro _ w_21 ⟨B4, c2, rfl, hd8⟩
         have hS31 := hS30.out0 hd8
         refine ⟨(hS31.se [0, 1, 2]), ?_⟩
         refine rq 4 51 (v := .tuple #[gM_ r_9 B4 c2, .bool r_10]) rfl (hS31.se [0, 1, 2]) (fun w' hw' => (ym (.tuple #[gM_ r_9 B4 c2, .bool r_10]))) ?_
         refine rq 5 56 (v := gM_ r_9 B4 c2) rfl (hS31.se [0, 1, 2]) (fun w' hw' => (ye (gM_ r_9 B4 c2))) ?_
         refine rq 6 57 (v := .bool r_10) rfl (hS31.se [0, 1, 2]) (fun w' hw' => (ye (.bool r_10))) ?_
         refine rA [8] ?_
         refine rZ 8 rfl (yT 3 3 (aD b4) 50 (gM_ r_9 B4 c2) (kM_ r_9 B4 c2) 0 hS31 K4) ?_ ?_
         ·rintro _ w_22 ⟨rfl, hS32⟩
          refine ⟨(hS32.se [0, 1, 2]), ?_⟩
          refine rq 9 12 (v := .bool r_10) rfl (hS32.se [0, 1, 2]) (fun w' hw' => (yg (.bool r_10))) ?_
          refine ra_done (by kernel_rfl) ?_
          exact ⟨aD b4, B4, c2, (fc (hf.g 2 1) (fc (hf.g 6 3) (fc rfl (fc rfl fn_)))), (hS32.sel [1, 3, 4] rfl rfl)⟩
         exact aN
        exact aN
       exact aN
      exact aN
     rintro f w ⟨B5, B6, c3, hf2, hS20⟩
     refine cq (cr ?_)
     refine sQ 58 (yb B5 0 (kM_ r_9 B6 c3) K9 K4 (hS20.c 1) rfl (hf2.g 11 2)) <| sQ 59 (ym (vi best) rfl (hf2.g 6 1)) <| sQ 60 (ym (.bool r_10) rfl (hf2.g 12 3)) ?_
     refine s0 (yT 0 3 (aD b1) 50 (gM_ r_9 B6 c3) (kM_ r_9 B6 c3) 0 hS20 K4 rfl (hf2.g 2 0)) ?_
     rintro _ w_23 ⟨rfl, hS33⟩
     refine sQ 3 (yg (vi best)) <| sQ 4 (yg (.bool r_10)) (rn (ct_ ?_))
     obtain ⟨rfl, rfl, rfl⟩ := pr3 (sI hF3)
     exact ret3 Tryz.results57 (v1 := gM_ r_9 B6 c3) (resAt_cellA (B := aD b1) (i := 0) (cs := kM_ r_9 B6 c3) (vs := kM_ r_9 B6 c3) (hf2.g 2 0) K9 K4 (hS33.c 0) rfl rfl) (v2 := vi best) (resAt_tmp rfl) (v3 := .bool r_10) (resAt_tmp rfl) ⟨B6, c3, rfl, (hS33.sN [2])⟩
   exact aN
  exact aN

theorem c_strings_Join (elems : List (List UInt8)) (sep : List UInt8) (B : Option Addr) (c n : Nat) (w0 : World) (hn : elems.length = n) (hS : ST w0 (bl [⟨B, 9, elems.flatMap encS, c * 1⟩]) w0 [⟨B, 9, elems.flatMap encS, c * 1⟩] []) {r : List UInt8} (hF : F_strings_Join elems sep = some r) :
  CV Tryz.prog 59 #[.slice B n c, .string (bstr sep)] w0 (fun v w' => v = .string (bstr r) ∧ elems.length = n ∧ ST w0 (bl [⟨B, 9, elems.flatMap encS, c * 1⟩]) w' [⟨B, 9, elems.flatMap encS, c * 1⟩] []) :=
 join_c (fun bk o c xs sep w h1 h2 h3 h4 h5 => Tryz.strings_Join bk o c xs sep w h1 h2 h3 h4 h5) (fun a c sep w => Tryz.strings_Join_none a c sep w) elems sep B c n w0 hn hS hF

theorem c_strconv_Itoa (x : Int) (w0 : World) (ht1 : Go.Lib.TabIs Tryz.prog w0 "internal/strconv.uint64pow10" .u64 Go.Lib.pow10Tab) (hS : ST w0 [] w0 [] [⟨(aD 1), (gl1.flatMap enc_u64)⟩]) {r : List UInt8} (hF : F_strconv_Itoa x = some r) :
  CV Tryz.prog 96 #[vi x] w0 (fun v w' => v = .string (bstr r) ∧ ST w0 [] w' [] []) :=
 itoa_c (fun n h0 h1 w ht => Tryz.strconv_Itoa n h0 h1 w ht) x w0 ht1 hF

theorem c_impl_joinInts (list : List Int) (between : List UInt8) (B : Option Addr) (c n : Nat) (w0 : World) (hn : list.length = n) (ht1 : Go.Lib.TabIs Tryz.prog w0 "internal/strconv.uint64pow10" .u64 Go.Lib.pow10Tab) (hS : ST w0 [] w0 [] [⟨B, (list.flatMap encI)⟩, ⟨(aD 1), (gl1.flatMap enc_u64)⟩]) {r_ : List UInt8} (hF : F_impl_joinInts list between = some r_) :
  CV Tryz.prog 117 #[.slice B n c, .string (bstr between)] w0 (fun v w' => v = .string (bstr r_) ∧ ST w0 [] w' [] []) := by
 subst hn
 have hgm1 : 1 ∉ [] := List.not_mem_nil
 unfold F_impl_joinInts at hF
 refine cv_of_cw 24 Tryz.func117 rfl Tryz.ntmps117 rfl ?_
 refine cq (cr ?_)
 refine sQ 4 (yg (.string (bstr ([] : List UInt8)))) (rn (cq (cr ?_)))
 refine sS 8 (Ys_bslice0 (s := 1) (e := 9) hS K74 K75 rfl) ?_
 rintro _ w_ ⟨b, rfl, hS1⟩
 refine sQ 5 (yg (.slice (aD b) 0 0)) (rn (cq (cq (cr ?_))))
 refine sQ 9 (ym (.slice B list.length c)) <| sQ 10 (Y_len (B := B) (m := list.length) (c := c) K25 rfl rfl) <| sQ 11 (ym (vi 0)) (rn ?_)
 obtain ⟨hN, hF⟩ := chk_inv hF
 obtain ⟨z, hz, hF1⟩ := bI hF
 refine cw_block ?_
 refine cw_loop (fun k f w => ∃ (i : Nat) (words : List (List UInt8)) (B1 : Option Addr) (c1 : Nat), FF f [(1, .string (bstr between)), (5, .slice B1 words.length c1), (9, .slice B list.length c), (10, vi (list.length : Int)), (11, vi (i : Int))] ∧ ST w0 [] w [⟨B1, 9, (words.flatMap encS), c1 * 1⟩] [⟨B, (list.flatMap encI)⟩, ⟨(aD 1), (gl1.flatMap enc_u64)⟩] ∧ i + k = list.length ∧ forN (F_impl_joinInts_l1 list) k i words = some z) list.length ⟨0, [], aD b, 0, (fc rfl (fc rfl (fc rfl (fc rfl (fc rfl fn_))))), (hS1.sel [0] rfl rfl), Nat.zero_add _, hz⟩ ?_
 rintro k_ f w ⟨i, words, B1, c1, hf, hS2, hik, hL⟩
 refine cq (cr ?_)
 refine sQ 12 (yL (i : Int) (list.length : Int) rfl (hf.g 11 4) (hf.g 10 3)) (rn (cq ?_))
 refine cw_cond (b := (decide ((i : Int) < (list.length : Int)))) rfl (fun hlt => ?_) (fun hlt => ?_)
 ·skip
  have hlt1 : i < list.length := by have h := of_decide_eq_true hlt; omega
  obtain ⟨K7, rfl⟩ : ∃ k2, k_ = k2 + 1 := ⟨k_ - 1, by omega⟩
  obtain ⟨y, hb, hL1⟩ := forN_go hL
  unfold F_impl_joinInts_l1 at hb
  refine cw_skip (cq (cw_block (cq (cr ?_))))
  obtain ⟨x, hx, hb⟩ := bI hb
  refine sQ 13 (Y_index (B := B) (m := list.length) (c := c) (k := .i64) (i := (i : Int)) K25 K1 rfl (hf.g 9 2) (hf.g 11 4) (gi_isSome encI_len rfl (hS2.rf (i := 0) rfl) hx) (getI_nn hx) (getI_ltI hx rfl)) <| sQ 14 (yl B ((i : Int).toNat * 1) (list.flatMap encI) (vi x) K0 (hS2.rf (i := 0) rfl) rfl rfl (gi_at0 encI_len hx rfl)) <| sQ 7 (yg (vi x)) (rn (cr ?_))
  refine sQ 15 (ym (.slice B1 words.length c1) rfl (hf.g 5 1)) <| sQ 16 (ym (vi x)) ?_
  obtain ⟨r_1, hc, hb⟩ := bI hb
  refine sc 17 rfl rfl (yC [vi x] k_call_96 (c_strconv_Itoa x _ (tab_keep hS2 ht1 (by kernel_rfl) hgm1) (hS2.inn0 [(true, 1)] rfl) hc)) ?_
  rintro _ w_1 ⟨rfl, hd⟩
  have hS3 := hS2.out00 hd
  refine sS 18 (Ys_bslice (s := 1) (len := 1) (vs := [(0, .string (bstr r_1))]) (cs := [.string (bstr r_1)]) (zs := [.string (bstr ([] : List UInt8))]) (m := 1) hS3 K74 K75 k_zc_9 rfl (mpc rfl mpn) rfl rfl rfl (by kernel_rfl) (by kernel_rfl) rfl) ?_
  rintro _ w_2 ⟨b1, rfl, hS4⟩
  obtain ⟨hap, hb⟩ := chk_inv hb
  refine sS 19 (Ys_append (s := 1) (by' := 16) (i := 0) (nn := words.length) (c := c1) (k := 1) (len := (words ++ [r_1]).length) (B := B1) (xs := ([r_1].flatMap encS)) (cs' := ((words ++ [r_1]).flatMap encS)) hS4 K74 K75 k_by_9_16 k_zero_9 rfl (by decide) rfl rfl rfl rfl (fm_lenn (l := words) encS_len rfl) rfl (hS4.c 1) (fm_lenn (l := [r_1]) encS_len rfl) (fm_one' (enc := encS) encS_one [r_1]) (by have := hap; omega) (by have := hap; simp only [maxLen]; omega) (fm_app _ _) (app_len (l := words) (l' := [r_1]) rfl rfl)) ?_
  rintro _ w_3 ⟨B2, c2, rfl, hS5⟩
  refine sQ 5 (yg (.slice B2 ((words ++ [r_1]).length) c2)) (rn (cr ?_))
  refine sQ 20 (yP (i : Int) 1 rfl (hf.g 11 4)) <| sQ 11 (ym (vi (i64.wrap ((i : Int) + 1)))) (rn ?_)
  obtain rfl := sI hb
  exact ⟨K7, Nat.lt_succ_self _, i + 1, (words ++ [r_1]), B2, c2, (fc (hf.g 1 0) (fc rfl (fc (hf.g 9 2) (fc (hf.g 10 3) (fc (congrArg (Value.int .i64) (wr_succ hlt1 hN)) fn_))))), (hS5.sel [0] rfl rfl), (by omega), hL1⟩
 ·skip
  obtain rfl : k_ = 0 := by have h := of_decide_eq_false hlt; omega
  refine cw_exit rfl ?_
  obtain rfl := sI hL
  refine cq (cr ?_)
  refine sQ 21 (ym (.slice B1 words.length c1) rfl (hf.g 5 1)) <| sQ 22 (ym (.string (bstr between)) rfl (hf.g 1 0)) ?_
  obtain ⟨r_2, hc1, hF1⟩ := bI hF1
  refine sc 23 rfl rfl (yC [.slice B1 words.length c1, .string (bstr between)] k_call_59 (c_strings_Join words between B1 c1 words.length _ rfl (hS2.inn [true] rfl [] rfl) hc1)) ?_
  rintro _ w_4 ⟨rfl, hl, hd1⟩
  have hS6 := hS2.out [true] rfl hd1
  refine sQ 4 (yg (.string (bstr r_2))) (rn (ct_ ?_))
  obtain rfl := sI hF1
  exact ret1 Tryz.results117 (v1 := .string (bstr r_2)) (resAt_tmp rfl) ⟨rfl, (hS6.sN [])⟩

theorem c_impl_FormatRing (x : TRing)  (w0 : World) (ht1 : Go.Lib.TabIs Tryz.prog w0 "internal/strconv.uint64pow10" .u64 Go.Lib.pow10Tab) (hS : ST w0 [] w0 [] [⟨(aD 1), (gl1.flatMap enc_u64)⟩]) {r_ : List UInt8} {r_1 : Bool} (hF : F_impl_FormatRing x = some (r_, r_1)) :
  CV Tryz.prog 95 #[gR_ x] w0 (fun v w' => v = .tuple #[.string (bstr r_), .bool r_1] ∧ ST w0 [] w' [] []) := by
 have hgm1 : 1 ∉ [] := List.not_mem_nil
 unfold F_impl_FormatRing at hF
 refine cv_of_cw 17 Tryz.func95 rfl Tryz.ntmps95 rfl ?_
 refine cq (cr ?_)
 refine sS 1 (yB 89 (gR_ x) (kR_ x) 4 hS) ?_
 rintro _ w_ ⟨b, rfl, hS1⟩
 refine sQ 2 (yg (.string (bstr ([] : List UInt8)))) <| sQ 3 (yg (.bool false)) (rn (cq (cq (cr ?_))))
 refine sQ 4 (yb (aD b) 0 (kR_ x) K6 K3 (hS1.c 0)) ?_
 obtain ⟨r_2, hc, hF⟩ := bI hF
 refine sc 5 rfl rfl (yC [gR_ x] K69 (c_impl_IsValidRing x _  (hS1.inn0 [] rfl) hc)) ?_
 rintro _ w_1 ⟨rfl, hd⟩
 have hS2 := hS1.out00 hd
 refine sQ 6 (Y_not (p := r_2) rfl rfl) (rn ?_)
 refine cw_cond (b := (!r_2)) rfl (fun hb => ?_) (fun hb => ?_)
 ·skip
  have hF1 := ct hF hb
  refine cq (cr ?_)
  refine sQ 2 (yg (.string (bstr ([] : List UInt8)))) <| sQ 3 (yg (.bool false)) (rn (ct_ ?_))
  obtain ⟨rfl, rfl⟩ := pr2 (sI hF1)
  exact ret2 Tryz.results95 (v1 := .string (bstr ([] : List UInt8))) (resAt_tmp rfl) (v2 := .bool false) (resAt_tmp rfl) ⟨rfl, (hS2.sN [])⟩
 ·skip
  have hF2 := cf' hF hb
  refine cw_skip (cq (cr ?_))
  refine sQ 7 (yd (aD b) 0 0 K14 K1) <| sQ 8 (yl (aD b) 0 (kR_ x) (vi x.A) K0 (hS2.c 0)) <| sQ 9 (yd (aD b) 0 0 K16 K1) <| sQ 10 (yl (aD b) 1 (kR_ x) (vi x.B) K0 (hS2.c 0)) <| sQ 11 (yd (aD b) 0 0 K17 K1) <| sQ 12 (yl (aD b) 2 (kR_ x) (vi x.C) K0 (hS2.c 0)) ?_
  refine sQ 13 (yd (aD b) 0 0 K15 K1) <| sQ 14 (yl (aD b) 3 (kR_ x) (vi x.D) K0 (hS2.c 0)) ?_
  refine sS 15 (Ys_bslice (s := 1) (len := 4) (vs := [(0, vi x.A), (1, vi x.B), (2, vi x.C), (3, vi x.D)]) (cs := kR_ x) (zs := [vi 0, vi 0, vi 0, vi 0]) (m := 4) hS2 K25 K1 K53 rfl (mpc rfl (mpc rfl (mpc rfl (mpc rfl mpn)))) rfl rfl rfl (by kernel_rfl) (by kernel_rfl) rfl) ?_
  rintro _ w_2 ⟨b1, rfl, hS3⟩
  obtain ⟨r_3, hc1, hF2⟩ := bI hF2
  refine sc 16 rfl rfl (yC [.slice (aD b1) 4 4, .string (bstr ([32] : List UInt8))] k_call_117 (c_impl_joinInts [x.A, x.B, x.C, x.D] ([32] : List UInt8) (aD b1) 4 4 _ rfl (tab_keep hS3 ht1 (by kernel_rfl) hgm1) (hS3.inn0 [(false, 1), (true, 0)] rfl) hc1)) ?_
  rintro _ w_3 ⟨rfl, hd1⟩
  have hS4 := hS3.out00 hd1
  refine sQ 2 (yg (.string (bstr r_3))) <| sQ 3 (yg (.bool true)) (rn (ct_ ?_))
  obtain ⟨rfl, rfl⟩ := pr2 (sI hF2)
  exact ret2 Tryz.results95 (v1 := .string (bstr r_3)) (resAt_tmp rfl) (v2 := .bool true) (resAt_tmp rfl) ⟨rfl, (hS4.sN [])⟩

theorem c_impl_FormatDyadic (x : TDyadic)  (w0 : World) (ht1 : Go.Lib.TabIs Tryz.prog w0 "internal/strconv.uint64pow10" .u64 Go.Lib.pow10Tab) (hS : ST w0 [] w0 [] [⟨(aD 1), (gl1.flatMap enc_u64)⟩]) {r_ : List UInt8} {r_1 : Bool} (hF : F_impl_FormatDyadic x = some (r_, r_1)) :
  CV Tryz.prog 58 #[gD_ x] w0 (fun v w' => v = .tuple #[.string (bstr r_), .bool r_1] ∧ ST w0 [] w' [] []) := by
 have hgm1 : 1 ∉ [] := List.not_mem_nil
 unfold F_impl_FormatDyadic at hF
 refine cv_of_cw 21 Tryz.func58 rfl Tryz.ntmps58 rfl ?_
 refine cq (cr ?_)
 refine sS 1 (yB 91 (gD_ x) (kD_ x) 5 hS) ?_
 rintro _ w_ ⟨b, rfl, hS1⟩
 refine sQ 2 (yg (.string (bstr ([] : List UInt8)))) <| sQ 3 (yg (.bool false)) (rn (cq (cq (cr ?_))))
 refine sQ 6 (yb (aD b) 0 (kD_ x) K5 K2 (hS1.c 0)) ?_
 obtain ⟨r_2, hc, hF⟩ := bI hF
 refine sc 7 rfl rfl (yC [gD_ x] K65 (c_impl_IsValidDyadic x _  (hS1.inn0 [] rfl) hc)) ?_
 rintro _ w_1 ⟨rfl, hd⟩
 have hS2 := hS1.out00 hd
 refine sQ 8 (Y_not (p := r_2) rfl rfl) (rn ?_)
 refine cw_cond (b := (!r_2)) rfl (fun hb => ?_) (fun hb => ?_)
 ·skip
  have hF1 := ct hF hb
  refine cq (cr ?_)
  refine sQ 2 (yg (.string (bstr ([] : List UInt8)))) <| sQ 3 (yg (.bool false)) (rn (ct_ ?_))
  obtain ⟨rfl, rfl⟩ := pr2 (sI hF1)
  exact ret2 Tryz.results58 (v1 := .string (bstr ([] : List UInt8))) (resAt_tmp rfl) (v2 := .bool false) (resAt_tmp rfl) ⟨rfl, (hS2.sN [])⟩
 ·skip
  have hF2 := cf' hF hb
  refine cw_skip (cq (cr ?_))
  refine sQ 10 (yd (aD b) 0 3 K32 K3) <| sQ 11 (ya (aD b) 0 (kD_ x) (kR_ x.Num) K6 K3 (hS2.c 0)) ?_
  obtain ⟨⟨r_3, r_4⟩, hc1, hF2⟩ := bI hF2
  refine sc 12 rfl rfl (yC [gR_ x.Num] k_call_95 (c_impl_FormatRing x.Num _ (tab_keep hS2 ht1 (by kernel_rfl) hgm1) (hS2.inn0 [(true, 0)] rfl) hc1)) ?_
  rintro _ w_2 ⟨rfl, hd1⟩
  have hS3 := hS2.out00 hd1
  refine sQ 9 (ym (.tuple #[.string (bstr r_3), .bool r_4])) <| sQ 13 (ye (.string (bstr r_3))) <| sQ 14 (ye (.bool r_4)) <| sQ 4 (yg (.string (bstr r_3))) <| sQ 5 (yg (.bool r_4)) (rn (cq (cr ?_)))
  refine sQ 15 (ym (.string (bstr r_3))) ?_
  obtain ⟨hsa, hF2⟩ := chk_inv hF2
  refine sQ 16 (Y_sadd (a := r_3) (b := ([47] : List UInt8)) rfl rfl rfl hsa) <| sQ 17 (yd (aD b) 0 0 K29 K1) <| sQ 18 (yl (aD b) 4 (kD_ x) (vi x.Exp) K0 (hS3.c 0)) ?_
  obtain ⟨r_5, hc2, hF2⟩ := bI hF2
  refine sc 19 rfl rfl (yC [vi x.Exp] k_call_96 (c_strconv_Itoa x.Exp _ (tab_keep hS3 ht1 (by kernel_rfl) hgm1) (hS3.inn0 [(true, 0)] rfl) hc2)) ?_
  rintro _ w_3 ⟨rfl, hd2⟩
  have hS4 := hS3.out00 hd2
  obtain ⟨hsa1, hF2⟩ := chk_inv hF2
  refine sQ 20 (Y_sadd (a := (r_3 ++ ([47] : List UInt8))) (b := r_5) rfl rfl rfl hsa1) <| sQ 2 (yg (.string (bstr ((r_3 ++ ([47] : List UInt8)) ++ r_5)))) <| sQ 3 (yg (.bool true)) (rn (ct_ ?_))
  obtain ⟨rfl, rfl⟩ := pr2 (sI hF2)
  exact ret2 Tryz.results58 (v1 := .string (bstr ((r_3 ++ ([47] : List UInt8)) ++ r_5))) (resAt_tmp rfl) (v2 := .bool true) (resAt_tmp rfl) ⟨rfl, (hS4.sN [])⟩

theorem c_impl_OperatorKey (m : TMatrix) (B : Option Addr) (c n : Nat) (w0 : World) (hn : m.Cells.length = n) (ht1 : Go.Lib.TabIs Tryz.prog w0 "internal/strconv.uint64pow10" .u64 Go.Lib.pow10Tab) (hS : ST w0 [] w0 [] [⟨B, (m.Cells.flatMap eN1)⟩, ⟨(aD 1), (gl1.flatMap enc_u64)⟩]) {r_ : List UInt8} {r_1 : Bool} (hF : F_impl_OperatorKey m = some (r_, r_1)) :
  CV Tryz.prog 35 #[.agg #[vi m.Rows, vi m.Cols, .slice B n c]] w0 (fun v w' => v = .tuple #[.string (bstr r_), .bool r_1] ∧ ST w0 [] w' [] []) := by
 subst hn
 have hgm1 : 1 ∉ [] := List.not_mem_nil
 unfold F_impl_OperatorKey at hF
 refine cv_of_cw 39 Tryz.func35 rfl Tryz.ntmps35 rfl ?_
 refine cq (cr ?_)
 refine sS 1 (yB 50 (gM_ m B c) (kM_ m B c) 3 hS) ?_
 rintro _ w_ ⟨b, rfl, hS1⟩
 refine sQ 2 (yg (.string (bstr ([] : List UInt8)))) <| sQ 3 (yg (.bool false)) (rn (cq (cr ?_)))
 refine sQ 13 (yb (aD b) 0 (kM_ m B c) K9 K4 (hS1.c 0)) ?_
 obtain ⟨⟨r_2, r_3, r_4⟩, hc, hF⟩ := bI hF
 refine sc 14 rfl rfl (yC [gM_ m B c] k_call_57 (c_impl_CanonicalPhase m B c m.Cells.length _ rfl (hS1.inn0 [(true, 0)] rfl) hc)) ?_
 rintro _ w_1 ⟨B1, c1, rfl, hd⟩
 have hS2 := hS1.out0 hd
 refine sQ 12 (ym (.tuple #[gM_ r_2 B1 c1, vi r_3, .bool r_4])) <| sQ 15 (ye (gM_ r_2 B1 c1)) <| sQ 16 (ye (vi r_3)) <| sQ 17 (ye (.bool r_4)) ?_
 refine sS 4 (yN kN_ 3 hS2 K13) ?_
 rintro _ w_2 ⟨b1, rfl, hS3⟩
 refine s0 (yT 2 3 (aD b1) 50 (gM_ r_2 B1 c1) (kM_ r_2 B1 c1) 0 hS3 K4) ?_
 rintro _ w_3 ⟨rfl, hS4⟩
 refine sQ 5 (yg (vi r_3)) <| sQ 6 (yg (.bool r_4)) (rn (cq (cr ?_)))
 refine sS 18 (Ys_bslice0 (s := 1) (e := 9) hS4 K74 K75 rfl) ?_
 rintro _ w_4 ⟨b2, rfl, hS5⟩
 refine sQ 7 (yg (.slice (aD b2) 0 0)) (rn (cq (cq (cr ?_))))
 refine sQ 19 (yd (aD b1) 0 0 K28 K24) <| sQ 20 (yl (aD b1) 2 (kM_ r_2 B1 c1) (.slice B1 r_2.Cells.length c1) K34 (hS5.c 2)) <| sQ 21 (Y_len (B := B1) (m := r_2.Cells.length) (c := c1) K21 rfl rfl) <| sQ 22 (ym (vi 0)) (rn ?_)
 obtain ⟨hN, hF⟩ := chk_inv hF
 obtain ⟨z, hz, hF1⟩ := bI hF
 refine cw_block ?_
 refine cw_loop (fun k f w => ∃ (i : Nat) (words : List (List UInt8)) (B2 : Option Addr) (c2 : Nat), FF f [(6, .bool r_4), (7, .slice B2 words.length c2), (20, .slice B1 r_2.Cells.length c1), (21, vi (r_2.Cells.length : Int)), (22, vi (i : Int))] ∧ ST w0 [] w [⟨B2, 9, (words.flatMap encS), c2 * 1⟩, ⟨B1, 91, (r_2.Cells.flatMap eN1), c1 * 5⟩] [⟨B, (m.Cells.flatMap eN1)⟩, ⟨(aD 1), (gl1.flatMap enc_u64)⟩] ∧ i + k = r_2.Cells.length ∧ forN (F_impl_OperatorKey_l1 r_2) k i words = some z) r_2.Cells.length ⟨0, [], aD b2, 0, (fc rfl (fc rfl (fc rfl (fc rfl (fc rfl fn_))))), (hS5.sel [3, 1] rfl rfl), Nat.zero_add _, hz⟩ ?_
 rintro k_ f w ⟨i, words, B2, c2, hf, hS6, hik, hL⟩
 refine cq (cr ?_)
 refine sQ 23 (yL (i : Int) (r_2.Cells.length : Int) rfl (hf.g 22 4) (hf.g 21 3)) (rn (cq ?_))
 refine cw_cond (b := (decide ((i : Int) < (r_2.Cells.length : Int)))) rfl (fun hlt => ?_) (fun hlt => ?_)
 ·skip
  have hlt1 : i < r_2.Cells.length := by have h := of_decide_eq_true hlt; omega
  obtain ⟨K7, rfl⟩ : ∃ k2, k_ = k2 + 1 := ⟨k_ - 1, by omega⟩
  obtain ⟨y, hb, hL1⟩ := forN_go hL
  unfold F_impl_OperatorKey_l1 at hb
  refine cw_skip (cq (cw_block (cq (cr ?_))))
  obtain ⟨x, hx, hb⟩ := bI hb
  refine sQ 24 (Y_index (B := B1) (m := r_2.Cells.length) (c := c1) (k := .i64) (i := (i : Int)) K21 K2 rfl (hf.g 20 2) (hf.g 22 4) (gi_isSome enc_Dyadic_len rfl (hS6.c 1) hx) (getI_nn hx) (getI_ltI hx rfl)) <| sQ 25 (ya B1 ((i : Int).toNat * 5) (r_2.Cells.flatMap eN1) (kD_ x) K5 K2 (hS6.c 1) rfl rfl (enc_Dyadic_len x) (gi_seg enc_Dyadic_len hx)) ?_
  refine sS 9 (yN kZ_ 5 hS6 K8) ?_
  rintro _ w_5 ⟨b3, rfl, hS7⟩
  refine s0 (yT 2 5 (aD b3) 91 (gD_ x) (kD_ x) 0 hS7 K2) ?_
  rintro _ w_6 ⟨rfl, hS8⟩
  refine rn (cq (cr ?_))
  refine sQ 27 (yb (aD b3) 0 (kD_ x) K5 K2 (hS8.c 2)) ?_
  obtain ⟨⟨r_5, r_6⟩, hc1, hb⟩ := bI hb
  refine sc 28 rfl rfl (yC [gD_ x] k_call_58 (c_impl_FormatDyadic x _ (tab_keep hS8 ht1 (by kernel_rfl) hgm1) (hS8.inn0 [(true, 1)] rfl) hc1)) ?_
  rintro _ w_7 ⟨rfl, hd1⟩
  have hS9 := hS8.out00 hd1
  refine sQ 26 (ym (.tuple #[.string (bstr r_5), .bool r_6])) <| sQ 29 (ye (.string (bstr r_5))) <| sQ 30 (ye (.bool r_6)) <| sQ 10 (yg (.string (bstr r_5))) <| sQ 11 (yg (.bool r_6)) (rn (cr ?_))
  refine sQ 31 (ym (.slice B2 words.length c2) rfl (hf.g 7 1)) <| sQ 32 (ym (.string (bstr r_5))) ?_
  refine sS 33 (Ys_bslice (s := 1) (len := 1) (vs := [(0, .string (bstr r_5))]) (cs := [.string (bstr r_5)]) (zs := [.string (bstr ([] : List UInt8))]) (m := 1) hS9 K74 K75 k_zc_9 rfl (mpc rfl mpn) rfl rfl rfl (by kernel_rfl) (by kernel_rfl) rfl) ?_
  rintro _ w_8 ⟨b4, rfl, hS10⟩
  obtain ⟨hap, hb⟩ := chk_inv hb
  refine sS 34 (Ys_append (s := 1) (by' := 16) (i := 0) (nn := words.length) (c := c2) (k := 1) (len := (words ++ [r_5]).length) (B := B2) (xs := ([r_5].flatMap encS)) (cs' := ((words ++ [r_5]).flatMap encS)) hS10 K74 K75 k_by_9_16 k_zero_9 rfl (by decide) rfl rfl rfl rfl (fm_lenn (l := words) encS_len rfl) rfl (hS10.c 3) (fm_lenn (l := [r_5]) encS_len rfl) (fm_one' (enc := encS) encS_one [r_5]) (by have := hap; omega) (by have := hap; simp only [maxLen]; omega) (fm_app _ _) (app_len (l := words) (l' := [r_5]) rfl rfl)) ?_
  rintro _ w_9 ⟨B3, c3, rfl, hS11⟩
  refine sQ 7 (yg (.slice B3 ((words ++ [r_5]).length) c3)) (rn (cr ?_))
  refine sQ 35 (yP (i : Int) 1 rfl (hf.g 22 4)) <| sQ 22 (ym (vi (i64.wrap ((i : Int) + 1)))) (rn ?_)
  obtain rfl := sI hb
  exact ⟨K7, Nat.lt_succ_self _, i + 1, (words ++ [r_5]), B3, c3, (fc (hf.g 6 0) (fc rfl (fc (hf.g 20 2) (fc (hf.g 21 3) (fc (congrArg (Value.int .i64) (wr_succ hlt1 hN)) fn_))))), (hS11.sel [0, 1] rfl rfl), (by omega), hL1⟩
 ·skip
  obtain rfl : k_ = 0 := by have h := of_decide_eq_false hlt; omega
  refine cw_exit rfl ?_
  obtain rfl := sI hL
  refine cq (cr ?_)
  refine sQ 36 (ym (.slice B2 words.length c2) rfl (hf.g 7 1)) ?_
  obtain ⟨r_7, hc2, hF1⟩ := bI hF1
  refine sc 37 rfl rfl (yC [.slice B2 words.length c2, .string (bstr ([44] : List UInt8))] k_call_59 (c_strings_Join words ([44] : List UInt8) B2 c2 words.length _ rfl (hS6.inn [true, false] rfl [] rfl) hc2)) ?_
  rintro _ w_10 ⟨rfl, hl, hd2⟩
  have hS12 := hS6.out [true, false] rfl hd2
  refine sQ 38 (ym (.bool r_4) rfl (hf.g 6 0)) <| sQ 2 (yg (.string (bstr r_7))) <| sQ 3 (yg (.bool r_4)) (rn (ct_ ?_))
  obtain ⟨rfl, rfl⟩ := pr2 (sI hF1)
  exact ret2 Tryz.results35 (v1 := .string (bstr r_7)) (resAt_tmp rfl) (v2 := .bool r_4) (resAt_tmp rfl) ⟨rfl, (hS12.sN [])⟩

theorem c_impl_tableGates (n : Int)  (w0 : World)  (hS : ST w0 [] w0 [] []) {r_ : List TGate} (hF : F_impl_tableGates n = some r_) :
  CV Tryz.prog 36 #[vi n] w0 (fun v w' => ∃ (B : Option Addr) (c : Nat), v = .slice B r_.length c ∧ ST w0 [] w' [⟨B, 56, (r_.flatMap eN0), c * 3⟩] []) := by
 unfold F_impl_tableGates at hF
 refine cv_of_cw 34 Tryz.func36 rfl Tryz.ntmps36 rfl ?_
 refine cq (cr ?_)
 refine sQ 2 (yg (.slice none 0 0)) (rn (cq (cr ?_)))
 refine sS 7 (Ys_bslice0 (s := 3) (e := 56) hS K11 K10 rfl) ?_
 rintro _ w_ ⟨b, rfl, hS1⟩
 refine sQ 3 (yg (.slice (aD b) 0 0)) (rn (cq (cq (cr ?_))))
 refine sS 8 (Ys_bslice (s := 1) (len := 3) (vs := [(0, vi 1), (1, vi 5), (2, vi 7)]) (cs := [vi 1, vi 5, vi 7]) (zs := [vi 0, vi 0, vi 0]) (m := 3) hS1 K25 K1 K53 rfl (mpc rfl (mpc rfl (mpc rfl mpn))) rfl rfl rfl (by kernel_rfl) (by kernel_rfl) rfl) ?_
 rintro _ w_1 ⟨b1, rfl, hS2⟩
 refine sQ 9 (Y_len (B := aD b1) (m := 3) (c := 3) K25 rfl rfl) <| sQ 10 (ym (vi 0)) (rn ?_)
 obtain ⟨z, hz, hF1⟩ := bI hF
 refine cw_block ?_
 refine cw_loop (fun k f w => ∃ (i : Nat) (out : List TGate) (B1 : Option Addr) (c1 : Nat), FF f [(0, vi n), (3, .slice B1 out.length c1), (8, .slice (aD b1) 3 3), (9, vi 3), (10, vi (i : Int))] ∧ ST w0 [] w [⟨B1, 56, (out.flatMap eN0), c1 * 3⟩, ⟨aD b1, 3, ([1, 5, 7].flatMap encI), 3 * 1⟩] [] ∧ i + k = 3 ∧ forN (F_impl_tableGates_l1 n) k i out = some z) 3 ⟨0, [], aD b, 0, (fc rfl (fc rfl (fc rfl (fc rfl (fc rfl fn_))))), (hS2.sel [0, 1] rfl rfl), Nat.zero_add _, hz⟩ ?_
 rintro k_ f w ⟨i, out, B1, c1, hf, hS3, hik, hL⟩
 refine cq (cr ?_)
 refine sQ 11 (yL (i : Int) 3 rfl (hf.g 10 4) (hf.g 9 3)) (rn (cq ?_))
 refine cw_cond (b := (decide ((i : Int) < 3))) rfl (fun hlt => ?_) (fun hlt => ?_)
 ·skip
  have hlt1 : i < 3 := by have h := of_decide_eq_true hlt; omega
  obtain ⟨K7, rfl⟩ : ∃ k2, k_ = k2 + 1 := ⟨k_ - 1, by omega⟩
  obtain ⟨y, hb, hL1⟩ := forN_go hL
  unfold F_impl_tableGates_l1 at hb
  refine cw_skip (cq (cw_block (cq (cr ?_))))
  obtain ⟨x, hx, hb⟩ := bI hb
  refine sQ 12 (Y_index (B := aD b1) (m := 3) (c := 3) (k := .i64) (i := (i : Int)) K25 K1 rfl (hf.g 8 2) (hf.g 10 4) (gi_isSome encI_len rfl (hS3.c 1) hx) (getI_nn hx) (getI_ltI hx rfl)) <| sQ 13 (yl (aD b1) ((i : Int).toNat * 1) ([1, 5, 7].flatMap encI) (vi x) K0 (hS3.c 1) rfl rfl (gi_at0 encI_len hx rfl)) <| sQ 5 (yg (vi x)) (rn (cq (cr ?_)))
  refine sQ 14 (ym (vi n) rfl (hf.g 0 0)) <| sQ 15 (ym (vi 0)) (rn ?_)
  obtain ⟨hN, hb⟩ := chk_inv hb
  obtain ⟨z1, hz1, hF2⟩ := bI hb
  refine cw_block ?_
  refine cw_loop (fun k f w => ∃ (i1 : Nat) (out1 : List TGate) (B2 : Option Addr) (c2 : Nat), FF f [(0, vi n), (3, .slice B2 out1.length c2), (5, vi x), (8, .slice (aD b1) 3 3), (9, vi 3), (10, vi (i : Int)), (14, vi n), (15, vi (i1 : Int))] ∧ ST w0 [] w [⟨B2, 56, (out1.flatMap eN0), c2 * 3⟩, ⟨aD b1, 3, ([1, 5, 7].flatMap encI), 3 * 1⟩] [] ∧ i1 + k = n.toNat ∧ forN (F_impl_tableGates_l2 x) k i1 out1 = some z1) n.toNat ⟨0, out, B1, c1, (fc (hf.g 0 0) (fc (hf.g 3 1) (fc rfl (fc (hf.g 8 2) (fc (hf.g 9 3) (fc (hf.g 10 4) (fc rfl (fc rfl fn_)))))))), (hS3.sel [0, 1] rfl rfl), Nat.zero_add _, hz1⟩ ?_
  rintro K23 f w ⟨i1, out1, B2, c2, hf1, hS4, hik1, hL2⟩
  refine cq (cr ?_)
  refine sQ 16 (yL (i1 : Int) n rfl (hf1.g 15 7) (hf1.g 14 6)) (rn (cq ?_))
  refine cw_cond (b := (decide ((i1 : Int) < n))) rfl (fun hlt2 => ?_) (fun hlt2 => ?_)
  ·skip
   have hlt3 : i1 < n.toNat := by have h := of_decide_eq_true hlt2; omega
   obtain ⟨K48, rfl⟩ : ∃ k2, K23 = k2 + 1 := ⟨K23 - 1, by omega⟩
   obtain ⟨y1, hb1, hL3⟩ := forN_go hL2
   unfold F_impl_tableGates_l2 at hb1
   refine cw_skip (cq (cw_block (cq (cr ?_))))
   refine sQ 17 (ym (vi (i1 : Int)) rfl (hf1.g 15 7)) <| sQ 6 (yg (vi (i1 : Int))) (rn (cr ?_))
   refine sQ 18 (ym (.slice B2 out1.length c2) rfl (hf1.g 3 1)) <| sQ 19 (ym (vi x) rfl (hf1.g 5 2)) <| sQ 20 (ym (vi (i1 : Int))) <| sQ 21 (Y_buildS (zs := [vi 0, vi 0, vi 0]) (vs := [(0, vi x), (1, vi (i1 : Int))]) (cs := [vi x, vi (i1 : Int), vi 0]) K45 K20 rfl (mpc rfl (mpc rfl mpn)) rfl) ?_
   refine sS 22 (Ys_bslice (s := 3) (len := 1) (vs := [(0, .agg #[vi x, vi (i1 : Int), vi 0])]) (cs := [vi x, vi (i1 : Int), vi 0]) (zs := [vi 0, vi 0, vi 0]) (m := 3) hS4 K11 K10 K52 rfl (mpc rfl mpn) rfl rfl rfl (by kernel_rfl) (by kernel_rfl) rfl) ?_
   rintro _ w_2 ⟨b2, rfl, hS5⟩
   obtain ⟨hap, hb1⟩ := chk_inv hb1
   refine sS 23 (Ys_append (s := 3) (by' := 24) (i := 0) (nn := out1.length) (c := c2) (k := 1) (len := (out1 ++ [(TGate.mk x (i1 : Int) 0)]).length) (B := B2) (xs := ([(TGate.mk x (i1 : Int) 0)].flatMap eN0)) (cs' := ((out1 ++ [(TGate.mk x (i1 : Int) 0)]).flatMap eN0)) hS5 K11 K10 K46 K20 rfl (by decide) rfl rfl rfl rfl (fm_lenn (l := out1) enc_Gate_len rfl) rfl (hS5.c 2) (fm_lenn (l := [(TGate.mk x (i1 : Int) 0)]) enc_Gate_len rfl) (fm_one' (enc := eN0) enc_Gate_one [(TGate.mk x (i1 : Int) 0)]) (by have := hap; omega) (by have := hap; simp only [maxLen]; omega) (fm_app _ _) (app_len (l := out1) (l' := [(TGate.mk x (i1 : Int) 0)]) rfl rfl)) ?_
   rintro _ w_3 ⟨B3, c3, rfl, hS6⟩
   refine sQ 3 (yg (.slice B3 ((out1 ++ [(TGate.mk x (i1 : Int) 0)]).length) c3)) (rn (cr ?_))
   refine sQ 24 (yP (i1 : Int) 1 rfl (hf1.g 15 7)) <| sQ 15 (ym (vi (i64.wrap ((i1 : Int) + 1)))) (rn ?_)
   obtain rfl := sI hb1
   exact ⟨K48, Nat.lt_succ_self _, i1 + 1, (out1 ++ [(TGate.mk x (i1 : Int) 0)]), B3, c3, (fc (hf1.g 0 0) (fc rfl (fc (hf1.g 5 2) (fc (hf1.g 8 3) (fc (hf1.g 9 4) (fc (hf1.g 10 5) (fc (hf1.g 14 6) (fc (congrArg (Value.int .i64) (wr_succ hlt3 hN)) fn_)))))))), (hS6.sel [0, 1] rfl rfl), (by omega), hL3⟩
  ·skip
   obtain rfl : K23 = 0 := by have h := of_decide_eq_false hlt2; omega
   refine cw_exit rfl ?_
   obtain rfl := sI hL2
   refine cr ?_
   refine sQ 25 (yP (i : Int) 1 rfl (hf1.g 10 5)) <| sQ 10 (ym (vi (i64.wrap ((i : Int) + 1)))) (rn ?_)
   obtain rfl := sI hF2
   exact ⟨K7, Nat.lt_succ_self _, i + 1, out1, B2, c2, (fc (hf1.g 0 0) (fc (hf1.g 3 1) (fc (hf1.g 8 3) (fc (hf1.g 9 4) (fc (congrArg (Value.int .i64) (wr_succ hlt1 (show 3 ≤ 9223372036854775807 by decide))) fn_))))), (hS4.sel [0, 1] rfl rfl), (by omega), hL1⟩
 ·skip
  obtain rfl : k_ = 0 := by have h := of_decide_eq_false hlt; omega
  refine cw_exit rfl ?_
  obtain rfl := sI hL
  refine cq ?_
  obtain ⟨z2, hz2, hF3⟩ := bI hF1
  refine cw_mid (fun f w => ∃ (out2 : List TGate) (B4 : Option Addr) (c4 : Nat), out2 = z2 ∧ FF f [(3, .slice B4 out2.length c4)] ∧ ST w0 [] w [⟨B4, 56, (out2.flatMap eN0), c4 * 3⟩] []) ?_ ?_
  ·skip
   refine cq (cr ?_)
   refine sQ 26 (ym (vi n) rfl (hf.g 0 0)) <| sQ 27 (yE n 2) (rn ?_)
   refine cw_cond (b := (n == 2)) rfl (fun hb2 => ?_) (fun hb2 => ?_)
   ·skip
    have hF4 := ct hz2 hb2
    refine cr ?_
    refine sQ 28 (ym (.slice B1 out.length c1) rfl (hf.g 3 1)) <| sQ 29 (Y_buildS (zs := [vi 0, vi 0, vi 0]) (vs := [(0, vi 9), (1, vi 0), (2, vi 1)]) (cs := [vi 9, vi 0, vi 1]) K45 K20 rfl (mpc rfl (mpc rfl (mpc rfl mpn))) rfl) <| sQ 30 (Y_buildS (zs := [vi 0, vi 0, vi 0]) (vs := [(0, vi 9), (1, vi 1), (2, vi 0)]) (cs := [vi 9, vi 1, vi 0]) K45 K20 rfl (mpc rfl (mpc rfl (mpc rfl mpn))) rfl) ?_
    refine sS 31 (Ys_bslice (s := 3) (len := 2) (vs := [(0, .agg #[vi 9, vi 0, vi 1]), (1, .agg #[vi 9, vi 1, vi 0])]) (cs := [vi 9, vi 0, vi 1, vi 9, vi 1, vi 0]) (zs := [vi 0, vi 0, vi 0, vi 0, vi 0, vi 0]) (m := 6) hS3 K11 K10 K52 rfl (mpc rfl (mpc rfl mpn)) rfl rfl rfl (by kernel_rfl) (by kernel_rfl) rfl) ?_
    rintro _ w_4 ⟨b3, rfl, hS8⟩
    obtain ⟨hap1, hF4⟩ := chk_inv hF4
    refine sS 32 (Ys_append (s := 3) (by' := 24) (i := 0) (nn := out.length) (c := c1) (k := 2) (len := (out ++ [(TGate.mk 9 0 1), (TGate.mk 9 1 0)]).length) (B := B1) (xs := ([(TGate.mk 9 0 1), (TGate.mk 9 1 0)].flatMap eN0)) (cs' := ((out ++ [(TGate.mk 9 0 1), (TGate.mk 9 1 0)]).flatMap eN0)) hS8 K11 K10 K46 K20 rfl (by decide) rfl rfl rfl rfl (fm_lenn (l := out) enc_Gate_len rfl) rfl (hS8.c 2) (fm_lenn (l := [(TGate.mk 9 0 1), (TGate.mk 9 1 0)]) enc_Gate_len rfl) (fm_one' (enc := eN0) enc_Gate_one [(TGate.mk 9 0 1), (TGate.mk 9 1 0)]) (by have := hap1; omega) (by have := hap1; simp only [maxLen]; omega) (fm_app _ _) (app_len (l := out) (l' := [(TGate.mk 9 0 1), (TGate.mk 9 1 0)]) rfl rfl)) ?_
    rintro _ w_5 ⟨B5, c5, rfl, hS9⟩
    refine sQ 3 (yg (.slice B5 ((out ++ [(TGate.mk 9 0 1), (TGate.mk 9 1 0)]).length) c5)) (rn ?_)
    exact ⟨(out ++ [(TGate.mk 9 0 1), (TGate.mk 9 1 0)]), B5, c5, (sI hF4), (fc rfl fn_), (hS9.sel [0] rfl rfl)⟩
   ·skip
    have hF5 := cf' hz2 hb2
    refine cw_skip ?_
    exact ⟨out, B1, c1, (sI hF5), (fc (hf.g 3 1) fn_), (hS3.sel [0] rfl rfl)⟩
  rintro f w ⟨out2, B4, c4, rfl, hf2, hS7⟩
  refine cq (cr ?_)
  refine sQ 33 (ym (.slice B4 out2.length c4) rfl (hf2.g 3 0)) <| sQ 2 (yg (.slice B4 out2.length c4)) (rn (ct_ ?_))
  obtain rfl := sI hF3
  exact ret1 Tryz.results36 (v1 := .slice B4 out2.length c4) (resAt_tmp rfl) ⟨B4, c4, rfl, (hS7.sN [0])⟩

theorem c_slices_Clone_impl_Gate_impl_Gate (s : List TGate) (B : Option Addr) (c n : Nat) (w0 : World) (hn : s.length = n) (hS : ST w0 [] w0 [] [⟨B, (s.flatMap eN0)⟩]) {r_ : List TGate} (hF : F_slices_Clone_impl_Gate_impl_Gate s = some r_) :
  CV Tryz.prog 39 #[.slice B n c] w0 (fun v w' => ∃ (B1 : Option Addr) (c1 : Nat), v = .slice B1 r_.length c1 ∧ ST w0 [] w' [⟨B1, 56, (r_.flatMap eN0), c1 * 3⟩] []) := by
 subst hn
 unfold F_slices_Clone_impl_Gate_impl_Gate at hF
 refine cv_of_cw 8 Tryz.func39 rfl Tryz.ntmps39 rfl ?_
 refine cq (cr ?_)
 refine sQ 2 (yg (.slice none 0 0)) (rn (cq (cq (cr ?_))))
 refine sQ 3 (ym (.slice B s.length c)) <| sQ 4 (Y_nileql (B := B) (m := s.length) (c := c) K11 rfl rfl rfl) (rn ?_)
 refine cw_cond (b := B.isNone) rfl (fun hb => ?_) (fun hb => ?_)
 ·skip
  have hl : s = [] := nil_cont enc_Gate_len (hS.rf (i := 0) rfl) rfl hb
  rw [hl] at hF
  have hF1 : (some ([])) = some r_ := by simpa [chk] using hF
  subst hl
  refine cq (cr ?_)
  refine sQ 2 (yg (.slice none 0 0)) (rn (ct_ ?_))
  have hS1 := hS.addNil 56
  obtain rfl := sI hF1
  exact ret1 Tryz.results39 (v1 := .slice none 0 0) (resAt_tmp rfl) ⟨none, 0, rfl, (hS1.sN [0])⟩
 ·skip
  refine cw_skip (cq (cr ?_))
  refine sS 5 (Ys_bslice0 (s := 3) (e := 56) hS K11 K10 rfl) ?_
  rintro _ w_ ⟨b, rfl, hS2⟩
  refine sQ 6 (ym (.slice B s.length c)) ?_
  obtain ⟨hap, hF⟩ := chk_inv hF
  refine sS 7 (Ys_append (s := 3) (by' := 24) (i := 0) (nn := 0) (c := 0) (k := s.length) (len := s.length) (B := aD b) (xs := (s.flatMap eN0)) (cs' := (s.flatMap eN0)) hS2 K11 K10 K46 K20 rfl (by decide) rfl rfl rfl rfl (fm_lenn (l := []) enc_Gate_len rfl) rfl (hS2.rf (i := 0) rfl) (fm_lenn (l := s) enc_Gate_len rfl) (fm_one' (enc := eN0) enc_Gate_one s) (by have := hap; omega) (by have := hap; simp only [maxLen]; omega) rfl (app_len0 (l := s) rfl)) ?_
  rintro _ w_1 ⟨B2, c2, rfl, hS3⟩
  refine sQ 2 (yg (.slice B2 s.length c2)) (rn (ct_ ?_))
  obtain rfl := sI hF
  exact ret1 Tryz.results39 (v1 := .slice B2 s.length c2) (resAt_tmp rfl) ⟨B2, c2, rfl, (hS3.sN [0])⟩

theorem c_impl_circuitIf (n : Int) (gates : List TGate) (B : Option Addr) (c n1 : Nat) (w0 : World) (hn : gates.length = n1) (hS : ST w0 [] w0 [] [⟨B, (gates.flatMap eN0)⟩]) {r_ : TCircuit} {r_1 : Bool} (hF : F_impl_circuitIf n gates = some (r_, r_1)) :
  CV Tryz.prog 47 #[vi n, .slice B n1 c] w0 (fun v w' => ∃ (B1 : Option Addr) (c1 : Nat), v = .tuple #[.agg #[vi r_.Qubits, .slice B1 r_.Gates.length c1], .bool r_1] ∧ ST w0 [] w' [⟨B1, 56, (r_.Gates.flatMap eN0), c1 * 3⟩] []) := by
 subst hn
 unfold F_impl_circuitIf at hF
 refine cv_of_cw 17 Tryz.func47 rfl Tryz.ntmps47 rfl ?_
 refine cq (cr ?_)
 refine sS 4 (yN [vi 0, .slice none 0 0] 2 hS K40) ?_
 rintro _ w_ ⟨b, rfl, hS1⟩
 refine sQ 5 (yg (.bool false)) (rn (cq (cr ?_)))
 refine sQ 7 (ym (vi n)) ?_
 refine sS 8 (Ys_bslice0 (s := 3) (e := 56) hS1 K11 K10 rfl) ?_
 rintro _ w_1 ⟨b1, rfl, hS2⟩
 refine sQ 9 (ym (.slice B gates.length c)) ?_
 obtain ⟨hap, hF⟩ := chk_inv hF
 refine sS 10 (Ys_append (s := 3) (by' := 24) (i := 1) (nn := 0) (c := 0) (k := gates.length) (len := gates.length) (B := aD b1) (xs := (gates.flatMap eN0)) (cs' := (gates.flatMap eN0)) hS2 K11 K10 K46 K20 rfl (by decide) rfl rfl rfl rfl (fm_lenn (l := []) enc_Gate_len rfl) rfl (hS2.rf (i := 0) rfl) (fm_lenn (l := gates) enc_Gate_len rfl) (fm_one' (enc := eN0) enc_Gate_one gates) (by have := hap; omega) (by have := hap; simp only [maxLen]; omega) rfl (app_len0 (l := gates) rfl)) ?_
 rintro _ w_2 ⟨B2, c2, rfl, hS3⟩
 refine sQ 11 (Y_buildS (zs := [vi 0, .slice none 0 0]) (vs := [(0, vi n), (1, .slice B2 gates.length c2)]) (cs := [vi n, .slice B2 gates.length c2]) K64 K40 rfl (mpc rfl (mpc rfl mpn)) rfl) ?_
 refine sS 6 (yN [vi 0, .slice none 0 0] 2 hS3 K40) ?_
 rintro _ w_3 ⟨b2, rfl, hS4⟩
 refine s0 (yT 2 2 (aD b2) 30 (.agg #[vi n, .slice B2 gates.length c2]) [vi n, .slice B2 gates.length c2] 0 hS4 K18) ?_
 rintro _ w_4 ⟨rfl, hS5⟩
 refine rn (cq (cq (cr ?_)))
 refine sQ 12 (yb (aD b2) 0 [vi n, .slice B2 gates.length c2] K27 K18 (hS5.c 2)) ?_
 obtain ⟨r_2, hc, hF⟩ := bI hF
 refine sc 13 rfl rfl (yC [.agg #[vi n, .slice B2 gates.length c2]] k_call_45 (c_impl_IsValidCircuit (TCircuit.mk n gates) B2 c2 gates.length _ rfl (hS5.inn0 [(false, 1)] rfl) hc)) ?_
 rintro _ w_5 ⟨rfl, hd⟩
 have hS6 := hS5.out00 hd
 refine sQ 14 (Y_not (p := r_2) rfl rfl) (rn ?_)
 refine cw_cond (b := (!r_2)) rfl (fun hb => ?_) (fun hb => ?_)
 ·skip
  have hF1 := ct hF hb
  refine cq (cr ?_)
  refine sQ 15 (Y_buildS (zs := [vi 0, .slice none 0 0]) (vs := []) (cs := [vi 0, .slice none 0 0]) K64 K40 rfl mpn rfl) ?_
  refine s0 (yT 0 2 (aD b) 30 (.agg #[vi 0, .slice none 0 0]) [vi 0, .slice none 0 0] 0 hS6 K18) ?_
  rintro _ w_6 ⟨rfl, hS7⟩
  refine sQ 5 (yg (.bool false)) (rn (ct_ ?_))
  have hS8 := hS7.addNil 56
  obtain ⟨rfl, rfl⟩ := pr2 (sI hF1)
  exact ret2 Tryz.results47 (v1 := .agg #[vi 0, .slice none 0 0]) (resAt_cellA (B := aD b) (i := 0) (cs := [vi 0, .slice none 0 0]) (vs := [vi 0, .slice none 0 0]) rfl K27 K18 (hS8.c 0) rfl rfl) (v2 := .bool false) (resAt_tmp rfl) ⟨none, 0, rfl, (hS8.sN [3])⟩
 ·skip
  have hF2 := cf' hF hb
  refine cw_skip (cq (cr ?_))
  refine sQ 16 (yb (aD b2) 0 [vi n, .slice B2 gates.length c2] K27 K18 (hS6.c 2)) ?_
  refine s0 (yT 0 2 (aD b) 30 (.agg #[vi n, .slice B2 gates.length c2]) [vi n, .slice B2 gates.length c2] 0 hS6 K18) ?_
  rintro _ w_7 ⟨rfl, hS9⟩
  refine sQ 5 (yg (.bool true)) (rn (ct_ ?_))
  obtain ⟨rfl, rfl⟩ := pr2 (sI hF2)
  exact ret2 Tryz.results47 (v1 := .agg #[vi n, .slice B2 gates.length c2]) (resAt_cellA (B := aD b) (i := 0) (cs := [vi n, .slice B2 gates.length c2]) (vs := [vi n, .slice B2 gates.length c2]) rfl K27 K18 (hS9.c 0) rfl rfl) (v2 := .bool true) (resAt_tmp rfl) ⟨B2, c2, rfl, (hS9.sN [1])⟩

theorem c_impl_ShortestWord (m : TMatrix) (B : Option Addr) (c n : Nat) (w0 : World) (hn : m.Cells.length = n) (ht1 : Go.Lib.TabIs Tryz.prog w0 "internal/strconv.uint64pow10" .u64 Go.Lib.pow10Tab) (hS : ST w0 [] w0 [] [⟨B, (m.Cells.flatMap eN1)⟩, ⟨(aD 1), (gl1.flatMap enc_u64)⟩]) {r_ : TCircuit} {r_1 : Bool} (hF : F_impl_ShortestWord m = some (r_, r_1)) :
  CV Tryz.prog 25 #[.agg #[vi m.Rows, vi m.Cols, .slice B n c]] w0 (fun v w' => ∃ (B1 : Option Addr) (c1 : Nat), v = .tuple #[.agg #[vi r_.Qubits, .slice B1 r_.Gates.length c1], .bool r_1] ∧ ST w0 [] w' [⟨B1, 56, (r_.Gates.flatMap eN0), c1 * 3⟩] []) := by
 subst hn
 have hgm1 : 1 ∉ [] := List.not_mem_nil
 unfold F_impl_ShortestWord at hF
 refine cv_of_cw 55 Tryz.func25 rfl Tryz.ntmps25 rfl ?_
 refine cq (cr ?_)
 refine sS 1 (yB 50 (gM_ m B c) (kM_ m B c) 3 hS) ?_
 rintro _ w_ ⟨b, rfl, hS1⟩
 refine sS 2 (yN [vi 0, .slice none 0 0] 2 hS1 K40) ?_
 rintro _ w_1 ⟨b1, rfl, hS2⟩
 refine sQ 3 (yg (.bool false)) (rn (cq (cr ?_)))
 refine sQ 11 (yb (aD b) 0 (kM_ m B c) K9 K4 (hS2.c 0)) ?_
 obtain ⟨⟨r_2, r_3⟩, hc, hF⟩ := bI hF
 refine sc 12 rfl rfl (yC [gM_ m B c] K101 (c_impl_OperatorKey m B c m.Cells.length _ rfl (tab_keep hS2 ht1 (by kernel_rfl) hgm1) (hS2.inn0 [(true, 0), (true, 1)] rfl) hc)) ?_
 rintro _ w_2 ⟨rfl, hd⟩
 have hS3 := hS2.out00 hd
 refine sQ 10 (ym (.tuple #[.string (bstr r_2), .bool r_3])) <| sQ 13 (ye (.string (bstr r_2))) <| sQ 14 (ye (.bool r_3)) <| sQ 4 (yg (.string (bstr r_2))) <| sQ 5 (yg (.bool r_3)) (rn (cq (cq (cr ?_))))
 refine sQ 15 (ym (.bool r_3)) <| sQ 16 (Y_not (p := r_3) rfl rfl) <| sQ 17 (ym (.bool (!r_3))) ?_
 refine sgq 18 (B := (!(!r_3))) (v := pt (aD b) 0) rfl rfl (uF_ 17) (fun hg => (yd (aD b) 0 0 K33 K1)) ?_
 refine sgq 19 (B := (!(!r_3))) (v := vi m.Rows) rfl rfl (uF_ 17) (fun hg1 => (yl (aD b) 0 (kM_ m B c) (vi m.Rows) K0 (hS3.c 0) rfl (gv_of (v := pt (aD b) 0) hg1))) ?_
 refine sgq 20 (B := (!(!r_3))) (v := pt (aD b) 1) rfl rfl (uF_ 17) (fun hg2 => (yd (aD b) 0 0 K36 K1)) ?_
 refine sgq 21 (B := (!(!r_3))) (v := vi m.Cols) rfl rfl (uF_ 17) (fun hg3 => (yl (aD b) 1 (kM_ m B c) (vi m.Cols) K0 (hS3.c 0) rfl (gv_of (v := pt (aD b) 1) hg3))) ?_
 refine sgq 22 (B := (!(!r_3))) (v := .bool (m.Rows != m.Cols)) rfl rfl (uF_ 17) (fun hg4 => (Y_ne (k := .i64) (a := m.Rows) (b := m.Cols) rfl (gv_of (v := vi m.Rows) hg4) (gv_of (v := vi m.Cols) hg4))) ?_
 refine sQ 23 (Y_or (b := (!r_3)) (z := (m.Rows != m.Cols)) rfl rfl rfl rfl) <| sQ 24 (ym (.bool ((!r_3) || (m.Rows != m.Cols)))) ?_
 refine sgq 25 (B := (!((!r_3) || (m.Rows != m.Cols)))) (v := pt (aD b) 0) rfl rfl (uF_ 24) (fun hg5 => (yd (aD b) 0 0 K33 K1)) ?_
 refine sgq 26 (B := (!((!r_3) || (m.Rows != m.Cols)))) (v := vi m.Rows) rfl rfl (uF_ 24) (fun hg6 => (yl (aD b) 0 (kM_ m B c) (vi m.Rows) K0 (hS3.c 0) rfl (gv_of (v := pt (aD b) 0) hg6))) ?_
 refine sgq 27 (B := (!((!r_3) || (m.Rows != m.Cols)))) (v := .bool (m.Rows != 2)) rfl rfl (uF_ 24) (fun hg7 => (Y_ne (k := .i64) (a := m.Rows) (b := 2) rfl (gv_of (v := vi m.Rows) hg7) rfl)) ?_
 refine sgq 28 (B := (!((!r_3) || (m.Rows != m.Cols)))) (v := .bool (m.Rows != 2)) rfl rfl (uF_ 24) (fun hg8 => (ym (.bool (m.Rows != 2)) rfl (gv_of (v := .bool (m.Rows != 2)) hg8))) ?_
 refine sgq 29 (B := ((!((!r_3) || (m.Rows != m.Cols))) && (m.Rows != 2))) (v := pt (aD b) 0) rfl rfl (wt_gt (gd_of (t := 28) (by kernel_rfl) rfl)) (fun hg9 => (yd (aD b) 0 0 K33 K1)) ?_
 refine sgq 30 (B := ((!((!r_3) || (m.Rows != m.Cols))) && (m.Rows != 2))) (v := vi m.Rows) rfl rfl (wt_gt (gd_of (t := 28) (by kernel_rfl) rfl)) (fun hg10 => (yl (aD b) 0 (kM_ m B c) (vi m.Rows) K0 (hS3.c 0) rfl (gv_of (v := pt (aD b) 0) hg10))) ?_
 refine sgq 31 (B := ((!((!r_3) || (m.Rows != m.Cols))) && (m.Rows != 2))) (v := .bool (m.Rows != 4)) rfl rfl (wt_gt (gd_of (t := 28) (by kernel_rfl) rfl)) (fun hg11 => (Y_ne (k := .i64) (a := m.Rows) (b := 4) rfl (gv_of (v := vi m.Rows) hg11) rfl)) ?_
 refine sgq 32 (B := (!((!r_3) || (m.Rows != m.Cols)))) (v := .bool ((m.Rows != 2) && (m.Rows != 4))) rfl rfl (uF_ 24) (fun hg12 => (Y_and (b := (m.Rows != 2)) (z := (m.Rows != 4)) rfl (gv_of (v := .bool (m.Rows != 2)) hg12) (gv_and (B := (!((!r_3) || (m.Rows != m.Cols)))) (C := (m.Rows != 2)) (v := .bool (m.Rows != 4)) hg12) rfl)) ?_
 refine sQ 33 (Y_or (b := ((!r_3) || (m.Rows != m.Cols))) (z := ((m.Rows != 2) && (m.Rows != 4))) rfl rfl rfl rfl) (rn ?_)
 refine cw_cond (b := (((!r_3) || (m.Rows != m.Cols)) || ((m.Rows != 2) && (m.Rows != 4)))) rfl (fun hb => ?_) (fun hb => ?_)
 ·skip
  have hF1 := ct hF hb
  refine cq (cr ?_)
  refine sQ 34 (Y_buildS (zs := [vi 0, .slice none 0 0]) (vs := []) (cs := [vi 0, .slice none 0 0]) K64 K40 rfl mpn rfl) ?_
  refine s0 (yT 1 2 (aD b1) 30 (.agg #[vi 0, .slice none 0 0]) [vi 0, .slice none 0 0] 0 hS3 K18) ?_
  rintro _ w_3 ⟨rfl, hS4⟩
  refine sQ 3 (yg (.bool false)) (rn (ct_ ?_))
  have hS5 := hS4.addNil 56
  obtain ⟨rfl, rfl⟩ := pr2 (sI hF1)
  exact ret2 Tryz.results25 (v1 := .agg #[vi 0, .slice none 0 0]) (resAt_cellA (B := aD b1) (i := 0) (cs := [vi 0, .slice none 0 0]) (vs := [vi 0, .slice none 0 0]) rfl K27 K18 (hS5.c 1) rfl rfl) (v2 := .bool false) (resAt_tmp rfl) ⟨none, 0, rfl, (hS5.sN [2])⟩
 ·skip
  have hF2 := cf' hF hb
  refine cw_skip (cq (cr ?_))
  refine sQ 6 (yg (vi 1)) <| sQ 7 (yg (vi 8)) (rn (cq ?_))
  obtain ⟨z, hz, hF3⟩ := bI hF2
  refine cw_mid (fun f w => ∃ (n1 : Int) (most : Int), (n1, most) = z ∧ FF f [(2, pt (aD b1) 0), (4, .string (bstr r_2)), (6, vi n1), (7, vi most)] ∧ ST w0 [] w [⟨aD b1, 30, [vi 0, .slice none 0 0], 2⟩] [⟨B, (m.Cells.flatMap eN1)⟩, ⟨(aD 1), (gl1.flatMap enc_u64)⟩]) ?_ ?_
  ·skip
   refine cq (cr ?_)
   refine sQ 35 (yd (aD b) 0 0 K33 K1) <| sQ 36 (yl (aD b) 0 (kM_ m B c) (vi m.Rows) K0 (hS3.c 0)) <| sQ 37 (yE m.Rows 4) (rn ?_)
   refine cw_cond (b := (m.Rows == 4)) rfl (fun hb1 => ?_) (fun hb1 => ?_)
   ·skip
    have hF4 := ct hz hb1
    refine cr ?_
    refine sQ 6 (yg (vi 2)) <| sQ 7 (yg (vi 4)) (rn ?_)
    exact ⟨2, 4, (sI hF4), (fc rfl (fc rfl (fc rfl (fc rfl fn_)))), (hS3.sel [1] rfl rfl)⟩
   ·skip
    have hF5 := cf' hz hb1
    refine cw_skip ?_
    exact ⟨1, 8, (sI hF5), (fc rfl (fc rfl (fc rfl (fc rfl fn_)))), (hS3.sel [1] rfl rfl)⟩
  rintro f w ⟨n1, most, rfl, hf, hS6⟩
  refine cq (cr ?_)
  refine sQ 39 (ym (vi n1) rfl (hf.g 6 2)) <| sQ 40 (ym (vi most) rfl (hf.g 7 3)) ?_
  obtain ⟨⟨t, t1⟩, hc8, hF3⟩ := bI hF3
  refine sc 41 rfl rfl (Yc_func (g := 21) (vs := [vi n1, vi most]) (R := fun v w' => ∃ (g : Nat) (D : List ((List UInt8) × Hd × (List TGate))) (B2 : Option Addr) (c2 : Nat), v = .agg #[.map (some g), .slice B2 t1.length c2] ∧ D.map dm = t ∧ ST w0 [] w' [⟨(aD g), .mp (mpE vStr vSl D), [], 0⟩, ⟨B2, 3, (t1.flatMap encI), c2 * 1⟩, ⟨aD b1, 30, [vi 0, .slice none 0 0], 2⟩] (⟨B, (m.Cells.flatMap eN1)⟩ :: ⟨(aD 1), (gl1.flatMap enc_u64)⟩ :: ((D.flatMap (rowM eN0)) ++ []))) k_call_21 rfl (mc rfl (mc rfl mn)) ?cv) ?_
  case cv =>
   show CV Tryz.prog 21 #[vi n1, vi most] _ _
   refine cv_of_cw 125 Tryz.func21 rfl Tryz.ntmps21 rfl ?_
   refine cq (cr ?_)
   refine sS 4 (yN [.map none, .slice none 0 0] 2 hS6 K102) ?_
   rintro _ w_70 ⟨b17, rfl, hS103⟩
   have hS103 : ST w0 [] _ [⟨aD b1, 30, [vi 0, .slice none 0 0], 2⟩, ⟨aD b17, 46, [.map none, .slice none 0 0], 2⟩] [⟨B, (m.Cells.flatMap eN1)⟩, ⟨(aD 1), (gl1.flatMap enc_u64)⟩] := hS103
   refine rn (cq (cr ?_))
   refine sQ 26 (ym (vi n1)) ?_
   obtain ⟨hsh1, hc8⟩ := chk_inv hc8
   refine sQ 27 (Y_shl (k := .i64) (a := 1) (k' := .i64) (b := n1) rfl rfl rfl hsh1) ?_
   obtain ⟨⟨r_16, r_17⟩, hc9, hc8⟩ := bI hc8
   refine sc 28 rfl rfl (yC [vi (shlK .i64 1 n1)] k_call_34 (c_impl_IdentityMatrix (shlK .i64 1 n1) _  (hS103.inn0 [] rfl) hc9)) ?_
   rintro _ w_71 ⟨B21, c20, rfl, hd13⟩
   have hS104 := hS103.out0 hd13
   refine sQ 25 (ym (.tuple #[gM_ r_16 B21 c20, .bool r_17])) <| sQ 29 (ye (gM_ r_16 B21 c20)) <| sQ 30 (ye (.bool r_17)) ?_
   refine sS 5 (yN kN_ 3 hS104 K13) ?_
   rintro _ w_72 ⟨b18, rfl, hS105⟩
   refine s0 (yT 3 3 (aD b18) 50 (gM_ r_16 B21 c20) (kM_ r_16 B21 c20) 0 hS105 K4) ?_
   rintro _ w_73 ⟨rfl, hS106⟩
   refine sQ 6 (yg (.bool r_17)) (rn (cq (cr ?_)))
   refine sQ 32 (yb (aD b18) 0 (kM_ r_16 B21 c20) K9 K4 (hS106.c 3)) ?_
   obtain ⟨⟨r_18, r_19⟩, hc10, hc8⟩ := bI hc8
   refine sc 33 rfl rfl (yC [gM_ r_16 B21 c20] K101 (c_impl_OperatorKey r_16 B21 c20 r_16.Cells.length _ rfl (tab_keep hS106 ht1 (by kernel_rfl) hgm1) (hS106.inn0 [(false, 2), (true, 1)] rfl) hc10)) ?_
   rintro _ w_74 ⟨rfl, hd14⟩
   have hS107 := hS106.out00 hd14
   have hS107 : ST w0 [] _ [⟨aD b1, 30, [vi 0, .slice none 0 0], 2⟩, ⟨aD b17, 46, [.map none, .slice none 0 0], 2⟩, ⟨B21, 91, (r_16.Cells.flatMap eN1), c20 * 5⟩, ⟨aD b18, 50, kM_ r_16 B21 c20, 3⟩] [⟨B, (m.Cells.flatMap eN1)⟩, ⟨(aD 1), (gl1.flatMap enc_u64)⟩] := hS107
   refine sQ 31 (ym (.tuple #[.string (bstr r_18), .bool r_19])) <| sQ 34 (ye (.string (bstr r_18))) <| sQ 35 (ye (.bool r_19)) <| sQ 7 (yg (.string (bstr r_18))) <| sQ 8 (yg (.bool r_19)) (rn (cq (cr ?_)))
   refine sS 36 (Ys_mkMap (T := 43) hS107 rfl) ?_
   rintro _ w_75 ⟨g2, rfl, hS108⟩
   have hS109 : ST w0 [] _ [⟨aD b1, 30, [vi 0, .slice none 0 0], 2⟩, ⟨aD b17, 46, [.map none, .slice none 0 0], 2⟩, ⟨B21, 91, (r_16.Cells.flatMap eN1), c20 * 5⟩, ⟨aD b18, 50, kM_ r_16 B21 c20, 3⟩, ⟨(aD g2), .mp (mpE vStr vSl ([] : List ((List UInt8) × Hd × (List TGate)))), [], 0⟩] (⟨B, (m.Cells.flatMap eN1)⟩ :: ⟨(aD 1), (gl1.flatMap enc_u64)⟩ :: ((([] : List ((List UInt8) × Hd × (List TGate))).flatMap (rowM eN0)) ++ [])) := ST.subR hS108 (sk 0 (sk 1 (suba fsub_nil (fun _ h => by cases h))))
   refine sQ 37 (ym (.string (bstr r_18))) ?_
   refine sS 38 (Ys_bslice0 (s := 3) (e := 56) hS109 K11 K10 rfl) ?_
   rintro _ w_76 ⟨b19, rfl, hS110⟩
   have ho14 : Org w0 [] [⟨B, (m.Cells.flatMap eN1)⟩, ⟨(aD 1), (gl1.flatMap enc_u64)⟩] [⟨aD b19, ([].flatMap eN0)⟩] := ST.orgOwn hS110 (i := 5) rfl
   have hcap4 : 0 ≤ 0 := (hS110.lencap (i := 5) rfl (fm_lenn (l := []) enc_Gate_len rfl) rfl rfl)
   have hS111 : ST w0 [] _ [⟨aD b1, 30, [vi 0, .slice none 0 0], 2⟩, ⟨aD b17, 46, [.map none, .slice none 0 0], 2⟩, ⟨B21, 91, (r_16.Cells.flatMap eN1), c20 * 5⟩, ⟨aD b18, 50, kM_ r_16 B21 c20, 3⟩, ⟨(aD g2), .mp (mpE vStr vSl ([] : List ((List UInt8) × Hd × (List TGate)))), [], 0⟩] (⟨aD b19, ([].flatMap eN0)⟩ :: ⟨B, (m.Cells.flatMap eN1)⟩ :: ⟨(aD 1), (gl1.flatMap enc_u64)⟩ :: ((([] : List ((List UInt8) × Hd × (List TGate))).flatMap (rowM eN0)) ++ [])) := hS110.freeze (i := 5) rfl
   refine s0 (Ys_mapIns (kE := vStr) (vE := vSl) (l := ([] : List ((List UInt8) × Hd × (List TGate)))) (a := r_18) (b := ((aD b19, 0), [])) (g := g2) (i := 4) hS111 (keyStr K87) K88 rfl rfl rfl rfl rfl rfl) ?_
   rintro _ w_77 ⟨rfl, hS112⟩
   have hD14 : (mput ([] : List ((List UInt8) × Hd × (List TGate))) r_18 ((aD b19, 0), [])).map dm = (mput ([] : List ((List UInt8) × (List TGate))) r_18 []) := mput_dm rfl _ _ _
   have hm7 : ∀ r ∈ ((mput ([] : List ((List UInt8) × Hd × (List TGate))) r_18 ((aD b19, 0), [])).flatMap (rowM eN0)), r ∈ ((⟨aD b19, ([].flatMap eN0)⟩ :: ⟨B, (m.Cells.flatMap eN1)⟩ :: ⟨(aD 1), (gl1.flatMap enc_u64)⟩ :: ((([] : List ((List UInt8) × Hd × (List TGate))).flatMap (rowM eN0)) ++ [])) : List Ro) := mput_sub (R := (⟨aD b19, ([].flatMap eN0)⟩ :: ⟨B, (m.Cells.flatMap eN1)⟩ :: ⟨(aD 1), (gl1.flatMap enc_u64)⟩ :: ((([] : List ((List UInt8) × Hd × (List TGate))).flatMap (rowM eN0)) ++ []))) (fun r_ (h : r_ ∈ ((([] : List ((List UInt8) × Hd × (List TGate))).flatMap (rowM eN0)) : List Ro)) => mOd (i := 3) (show r_ ∈ ((((([] : List ((List UInt8) × Hd × (List TGate))).flatMap (rowM eN0)) ++ [])) : List Ro) from mAl _ h)) (mt 0) _
   have hS113 : ST w0 [] _ [⟨aD b1, 30, [vi 0, .slice none 0 0], 2⟩, ⟨aD b17, 46, [.map none, .slice none 0 0], 2⟩, ⟨B21, 91, (r_16.Cells.flatMap eN1), c20 * 5⟩, ⟨aD b18, 50, kM_ r_16 B21 c20, 3⟩, ⟨(aD g2), .mp (mpE vStr vSl (mput ([] : List ((List UInt8) × Hd × (List TGate))) r_18 ((aD b19, 0), []))), [], 0⟩] (⟨aD b19, ([].flatMap eN0)⟩ :: ⟨B, (m.Cells.flatMap eN1)⟩ :: ⟨(aD 1), (gl1.flatMap enc_u64)⟩ :: (((mput ([] : List ((List UInt8) × Hd × (List TGate))) r_18 ((aD b19, 0), [])).flatMap (rowM eN0)) ++ [])) := ST.subR hS112 (sk 0 (sk 1 (sk 2 (suba hm7 (fun _ h => by cases h)))))
   refine sQ 39 (ym (.map (some g2))) ?_
   refine sS 40 (Ys_bslice (s := 1) (len := 1) (vs := [(0, vi 1)]) (cs := [vi 1]) (zs := [vi 0]) (m := 1) hS113 K25 K1 K53 rfl (mpc rfl mpn) rfl rfl rfl (by kernel_rfl) (by kernel_rfl) rfl) ?_
   rintro _ w_78 ⟨b20, rfl, hS114⟩
   have hS114 : ST w0 [] _ [⟨aD b1, 30, [vi 0, .slice none 0 0], 2⟩, ⟨aD b17, 46, [.map none, .slice none 0 0], 2⟩, ⟨B21, 91, (r_16.Cells.flatMap eN1), c20 * 5⟩, ⟨aD b18, 50, kM_ r_16 B21 c20, 3⟩, ⟨(aD g2), .mp (mpE vStr vSl (mput ([] : List ((List UInt8) × Hd × (List TGate))) r_18 ((aD b19, 0), []))), [], 0⟩, ⟨aD b20, 3, ([1].flatMap encI), 1 * 1⟩] (⟨aD b19, ([].flatMap eN0)⟩ :: ⟨B, (m.Cells.flatMap eN1)⟩ :: ⟨(aD 1), (gl1.flatMap enc_u64)⟩ :: (((mput ([] : List ((List UInt8) × Hd × (List TGate))) r_18 ((aD b19, 0), [])).flatMap (rowM eN0)) ++ [])) := hS114
   refine sQ 41 (Y_buildS (zs := [.map none, .slice none 0 0]) (vs := [(0, .map (some g2)), (1, .slice (aD b20) 1 1)]) (cs := [.map (some g2), .slice (aD b20) 1 1]) k_pl_46 K102 rfl (mpc rfl (mpc rfl mpn)) rfl) ?_
   refine sS 9 (yN [.map none, .slice none 0 0] 2 hS114 K102) ?_
   rintro _ w_79 ⟨b21, rfl, hS115⟩
   refine s0 (yT 6 2 (aD b21) 46 (.agg #[.map (some g2), .slice (aD b20) 1 1]) [.map (some g2), .slice (aD b20) 1 1] 0 hS115 K89) ?_
   rintro _ w_80 ⟨rfl, hS116⟩
   refine rn (cq (cr ?_))
   refine sQ 42 (yb (aD b18) 0 (kM_ r_16 B21 c20) K9 K4 (hS116.c 3)) <| sQ 43 (Y_buildS (zs := [.slice none 0 0, vi 0, vi 0, .slice none 0 0]) (vs := [(1, gM_ r_16 B21 c20)]) (cs := [.slice none 0 0, vi r_16.Rows, vi r_16.Cols, .slice B21 r_16.Cells.length c20]) K55 K37 rfl (mpc rfl mpn) rfl) ?_
   have ho15 : Org w0 [] [⟨B, (m.Cells.flatMap eN1)⟩, ⟨(aD 1), (gl1.flatMap enc_u64)⟩] [⟨B21, (r_16.Cells.flatMap eN1)⟩] := ST.orgOwn hS116 (i := 2) rfl
   have hcap5 : r_16.Cells.length ≤ c20 := (hS116.lencap (i := 2) rfl (fm_lenn (l := r_16.Cells) enc_Dyadic_len rfl) rfl rfl)
   have hS117 : ST w0 [] _ [⟨aD b1, 30, [vi 0, .slice none 0 0], 2⟩, ⟨aD b17, 46, [.map none, .slice none 0 0], 2⟩, ⟨aD b18, 50, kM_ r_16 B21 c20, 3⟩, ⟨(aD g2), .mp (mpE vStr vSl (mput ([] : List ((List UInt8) × Hd × (List TGate))) r_18 ((aD b19, 0), []))), [], 0⟩, ⟨aD b20, 3, ([1].flatMap encI), 1 * 1⟩, ⟨aD b21, 46, [.map (some g2), .slice (aD b20) 1 1], 2⟩] (⟨B21, (r_16.Cells.flatMap eN1)⟩ :: ⟨aD b19, ([].flatMap eN0)⟩ :: ⟨B, (m.Cells.flatMap eN1)⟩ :: ⟨(aD 1), (gl1.flatMap enc_u64)⟩ :: (((mput ([] : List ((List UInt8) × Hd × (List TGate))) r_18 ((aD b19, 0), [])).flatMap (rowM eN0)) ++ [])) := hS116.freeze (i := 2) rfl
   have hS118 : ST w0 [] _ [⟨aD b1, 30, [vi 0, .slice none 0 0], 2⟩, ⟨aD b17, 46, [.map none, .slice none 0 0], 2⟩, ⟨aD b18, 50, kM_ r_16 B21 c20, 3⟩, ⟨(aD g2), .mp (mpE vStr vSl (mput ([] : List ((List UInt8) × Hd × (List TGate))) r_18 ((aD b19, 0), []))), [], 0⟩, ⟨aD b20, 3, ([1].flatMap encI), 1 * 1⟩, ⟨aD b21, 46, [.map (some g2), .slice (aD b20) 1 1], 2⟩] (⟨none, ([].flatMap eN0)⟩ :: ⟨B21, (r_16.Cells.flatMap eN1)⟩ :: ⟨aD b19, ([].flatMap eN0)⟩ :: ⟨B, (m.Cells.flatMap eN1)⟩ :: ⟨(aD 1), (gl1.flatMap enc_u64)⟩ :: (((mput ([] : List ((List UInt8) × Hd × (List TGate))) r_18 ((aD b19, 0), [])).flatMap (rowM eN0)) ++ [])) := ST.nilRo hS117
   refine sS 44 (Ys_bslice (s := 4) (len := 1) (vs := [(0, .agg #[.slice none 0 0, vi r_16.Rows, vi r_16.Cols, .slice B21 r_16.Cells.length c20])]) (cs := [.slice none 0 0, vi r_16.Rows, vi r_16.Cols, .slice B21 r_16.Cells.length c20]) (zs := [.slice none 0 0, vi 0, vi 0, .slice none 0 0]) (m := 4) hS118 K66 K42 k_zc_75 rfl (mpc rfl mpn) rfl rfl rfl (by kernel_rfl) (by kernel_rfl) rfl) ?_
   rintro _ w_81 ⟨b22, rfl, hS119⟩
   have hm8 : ∀ r ∈ (([(((none, 0), (B21, c20)), (TtableWord.mk [] r_16))] : List ((Hd × Hd) × TtableWord)).flatMap eN2), r ∈ ((⟨none, ([].flatMap eN0)⟩ :: ⟨B21, (r_16.Cells.flatMap eN1)⟩ :: ⟨aD b19, ([].flatMap eN0)⟩ :: ⟨B, (m.Cells.flatMap eN1)⟩ :: ⟨(aD 1), (gl1.flatMap enc_u64)⟩ :: (((mput ([] : List ((List UInt8) × Hd × (List TGate))) r_18 ((aD b19, 0), [])).flatMap (rowM eN0)) ++ [])) : List Ro) := (fsub_cons (sk 0 (sk 1 (fun _ h => by cases h))) fsub_nil)
   have ho16 : Org w0 [] [⟨B, (m.Cells.flatMap eN1)⟩, ⟨(aD 1), (gl1.flatMap enc_u64)⟩] (([(((none, 0), (B21, c20)), (TtableWord.mk [] r_16))] : List ((Hd × Hd) × TtableWord)).flatMap eN2) := (forg_cons (org_cons org_none (org_cons ho15 org_nil)) forg_nil)
   have hS120 : ST w0 [] _ [⟨aD b1, 30, [vi 0, .slice none 0 0], 2⟩, ⟨aD b17, 46, [.map none, .slice none 0 0], 2⟩, ⟨aD b18, 50, kM_ r_16 B21 c20, 3⟩, ⟨(aD g2), .mp (mpE vStr vSl (mput ([] : List ((List UInt8) × Hd × (List TGate))) r_18 ((aD b19, 0), []))), [], 0⟩, ⟨aD b20, 3, ([1].flatMap encI), 1 * 1⟩, ⟨aD b21, 46, [.map (some g2), .slice (aD b20) 1 1], 2⟩, ⟨aD b22, 75, (([(((none, 0), (B21, c20)), (TtableWord.mk [] r_16))] : List ((Hd × Hd) × TtableWord)).flatMap eN3), 1 * 4⟩] (⟨none, ([].flatMap eN0)⟩ :: ⟨B21, (r_16.Cells.flatMap eN1)⟩ :: ⟨aD b19, ([].flatMap eN0)⟩ :: ⟨B, (m.Cells.flatMap eN1)⟩ :: ⟨(aD 1), (gl1.flatMap enc_u64)⟩ :: ((([(((none, 0), (B21, c20)), (TtableWord.mk [] r_16))] : List ((Hd × Hd) × TtableWord)).flatMap eN2) ++ (((mput ([] : List ((List UInt8) × Hd × (List TGate))) r_18 ((aD b19, 0), [])).flatMap (rowM eN0)) ++ []))) := ST.subR hS119 (sk 0 (sk 1 (sk 2 (sk 3 (sk 4 (suba hm8 (suba (fun r_ (h : r_ ∈ (((mput ([] : List ((List UInt8) × Hd × (List TGate))) r_18 ((aD b19, 0), [])).flatMap (rowM eN0)) : List Ro)) => mOd (i := 5) (show r_ ∈ (((((mput ([] : List ((List UInt8) × Hd × (List TGate))) r_18 ((aD b19, 0), [])).flatMap (rowM eN0)) ++ [])) : List Ro) from mAl _ h)) (fun _ h => by cases h))))))))
   refine sQ 10 (yg (.slice (aD b22) 1 1)) (rn (cq (cq (cr ?_))))
   refine sQ 45 (ym (vi most)) <| sQ 46 (ym (vi 0)) (rn ?_)
   obtain ⟨hN3, hc8⟩ := chk_inv hc8
   obtain ⟨z5, hz5, hF12⟩ := bI hc8
   have hS122 : ST w0 [] _ [⟨aD b1, 30, [vi 0, .slice none 0 0], 2⟩, ⟨aD b17, 46, [.map none, .slice none 0 0], 2⟩, ⟨aD b18, 50, kM_ r_16 B21 c20, 3⟩, ⟨(aD g2), .mp (mpE vStr vSl (mput ([] : List ((List UInt8) × Hd × (List TGate))) r_18 ((aD b19, 0), []))), [], 0⟩, ⟨aD b20, 3, ([1].flatMap encI), 1 * 1⟩, ⟨aD b21, 46, [.map (some g2), .slice (aD b20) 1 1], 2⟩, ⟨aD b22, 75, (([(((none, 0), (B21, c20)), (TtableWord.mk [] r_16))] : List ((Hd × Hd) × TtableWord)).flatMap eN3), 1 * 4⟩] (⟨none, ([].flatMap eN0)⟩ :: ⟨B21, (r_16.Cells.flatMap eN1)⟩ :: ⟨aD b19, ([].flatMap eN0)⟩ :: ⟨B, (m.Cells.flatMap eN1)⟩ :: ⟨(aD 1), (gl1.flatMap enc_u64)⟩ :: (((mput ([] : List ((List UInt8) × Hd × (List TGate))) r_18 ((aD b19, 0), [])).flatMap (rowM eN0)) ++ ((([(((none, 0), (B21, c20)), (TtableWord.mk [] r_16))] : List ((Hd × Hd) × TtableWord)).flatMap eN2) ++ []))) := ST.subR hS120 (sk 0 (sk 1 (sk 2 (sk 3 (sk 4 (suba (fun r_ (h : r_ ∈ (((mput ([] : List ((List UInt8) × Hd × (List TGate))) r_18 ((aD b19, 0), [])).flatMap (rowM eN0)) : List Ro)) => mOd (i := 5) (show r_ ∈ ((((([(((none, 0), (B21, c20)), (TtableWord.mk [] r_16))] : List ((Hd × Hd) × TtableWord)).flatMap eN2) ++ (((mput ([] : List ((List UInt8) × Hd × (List TGate))) r_18 ((aD b19, 0), [])).flatMap (rowM eN0)) ++ []))) : List Ro) from mAr _ (mAl _ h))) (suba (fun r_ (h : r_ ∈ ((([(((none, 0), (B21, c20)), (TtableWord.mk [] r_16))] : List ((Hd × Hd) × TtableWord)).flatMap eN2) : List Ro)) => mOd (i := 5) (show r_ ∈ ((((([(((none, 0), (B21, c20)), (TtableWord.mk [] r_16))] : List ((Hd × Hd) × TtableWord)).flatMap eN2) ++ (((mput ([] : List ((List UInt8) × Hd × (List TGate))) r_18 ((aD b19, 0), [])).flatMap (rowM eN0)) ++ []))) : List Ro) from mAl _ h)) (fun _ h => by cases h))))))))
   refine cw_block ?_
   refine cw_loop (fun k f w => ∃ (i3 : Nat) (words4 : List ((List UInt8) × (List TGate))) (sizes1 : List Int) (level1 : List TtableWord) (D12 : List ((List UInt8) × Hd × (List TGate))) (B22 : Option Addr) (c21 : Nat) (B23 : Option Addr) (c22 : Nat) (D13 : List ((Hd × Hd) × TtableWord)), FF f [(0, vi n1), (4, pt (aD b17) 0), (9, pt (aD b21) 0), (10, .slice B23 level1.length c22), (45, vi most), (46, vi (i3 : Int))] ∧ D12.map dm = words4 ∧ D13.map Prod.snd = level1 ∧ Org w0 [] [⟨B, (m.Cells.flatMap eN1)⟩, ⟨(aD 1), (gl1.flatMap enc_u64)⟩] (D13.flatMap eN2) ∧ ST w0 [] w [⟨aD b17, 46, [.map none, .slice none 0 0], 2⟩, ⟨aD b21, 46, [.map (some g2), .slice B22 sizes1.length c21], 2⟩, ⟨(aD g2), .mp (mpE vStr vSl D12), [], 0⟩, ⟨B22, 3, (sizes1.flatMap encI), c21 * 1⟩, ⟨B23, 75, (D13.flatMap eN3), c22 * 4⟩, ⟨aD b1, 30, [vi 0, .slice none 0 0], 2⟩] (⟨none, ([].flatMap eN0)⟩ :: ⟨B21, (r_16.Cells.flatMap eN1)⟩ :: ⟨aD b19, ([].flatMap eN0)⟩ :: ⟨B, (m.Cells.flatMap eN1)⟩ :: ⟨(aD 1), (gl1.flatMap enc_u64)⟩ :: ((D12.flatMap (rowM eN0)) ++ ((D13.flatMap eN2) ++ []))) ∧ i3 + k = most.toNat ∧ forN (F_impl_ShortestWord_l1 n1) k i3 (words4, sizes1, level1) = some z5) most.toNat ⟨0, (mput ([] : List ((List UInt8) × (List TGate))) r_18 []), [1], ([(TtableWord.mk [] r_16)] : List TtableWord), (mput ([] : List ((List UInt8) × Hd × (List TGate))) r_18 ((aD b19, 0), [])), aD b20, 1, aD b22, 1, ([(((none, 0), (B21, c20)), (TtableWord.mk [] r_16))] : List ((Hd × Hd) × TtableWord)), (fc rfl (fc rfl (fc rfl (fc rfl (fc rfl (fc rfl fn_)))))), hD14, (show List.map Prod.snd ([(((none, 0), (B21, c20)), (TtableWord.mk [] r_16))] : List ((Hd × Hd) × TtableWord)) = ([(TtableWord.mk [] r_16)] : List TtableWord) from rfl), ho16, (hS122.sel [1, 5, 3, 4, 6, 0] rfl rfl), Nat.zero_add _, hz5⟩ ?_
   rintro K68 f w ⟨i3, words4, sizes1, level1, D12, B22, c21, B23, c22, D13, hf7, hD15, hD16, ho17, hS121, hik3, hL6⟩
   refine cq (cr ?_)
   refine sQ 47 (yL (i3 : Int) most rfl (hf7.g 46 5) (hf7.g 45 4)) (rn (cq ?_))
   refine cw_cond (b := (decide ((i3 : Int) < most))) rfl (fun hlt6 => ?_) (fun hlt6 => ?_)
   ·skip
    have hlt7 : i3 < most.toNat := by have h := of_decide_eq_true hlt6; omega
    obtain ⟨k_7, rfl⟩ : ∃ k2, K68 = k2 + 1 := ⟨K68 - 1, by omega⟩
    obtain ⟨y3, hb6, hL7⟩ := forN_go hL6
    unfold F_impl_ShortestWord_l1 at hb6
    refine cw_skip (cq (cw_block (cq (cr ?_))))
    refine sS 48 (Ys_bslice0 (s := 4) (e := 75) hS121 K66 K42 rfl) ?_
    rintro _ w_82 ⟨b23, rfl, hS123⟩
    have hS124 : ST w0 [] _ [⟨aD b17, 46, [.map none, .slice none 0 0], 2⟩, ⟨aD b21, 46, [.map (some g2), .slice B22 sizes1.length c21], 2⟩, ⟨(aD g2), .mp (mpE vStr vSl D12), [], 0⟩, ⟨B22, 3, (sizes1.flatMap encI), c21 * 1⟩, ⟨B23, 75, (D13.flatMap eN3), c22 * 4⟩, ⟨aD b1, 30, [vi 0, .slice none 0 0], 2⟩, ⟨aD b23, 75, (([] : List ((Hd × Hd) × TtableWord)).flatMap eN3), 0 * 4⟩] (⟨none, ([].flatMap eN0)⟩ :: ⟨B21, (r_16.Cells.flatMap eN1)⟩ :: ⟨aD b19, ([].flatMap eN0)⟩ :: ⟨B, (m.Cells.flatMap eN1)⟩ :: ⟨(aD 1), (gl1.flatMap enc_u64)⟩ :: ((([] : List ((Hd × Hd) × TtableWord)).flatMap eN2) ++ ((D12.flatMap (rowM eN0)) ++ ((D13.flatMap eN2) ++ [])))) := ST.subR hS123 (sk 0 (sk 1 (sk 2 (sk 3 (sk 4 (suba fsub_nil (suba (fun r_ (h : r_ ∈ ((D12.flatMap (rowM eN0)) : List Ro)) => mOd (i := 5) (show r_ ∈ ((((D12.flatMap (rowM eN0)) ++ ((D13.flatMap eN2) ++ []))) : List Ro) from mAl _ h)) (suba (fun r_ (h : r_ ∈ ((D13.flatMap eN2) : List Ro)) => mOd (i := 5) (show r_ ∈ ((((D12.flatMap (rowM eN0)) ++ ((D13.flatMap eN2) ++ []))) : List Ro) from mAr _ (mAl _ h))) (fun _ h => by cases h)))))))))
    have hS124 : ST w0 [] _ [⟨aD b17, 46, [.map none, .slice none 0 0], 2⟩, ⟨aD b21, 46, [.map (some g2), .slice B22 sizes1.length c21], 2⟩, ⟨(aD g2), .mp (mpE vStr vSl D12), [], 0⟩, ⟨B22, 3, (sizes1.flatMap encI), c21 * 1⟩, ⟨B23, 75, (D13.flatMap eN3), c22 * 4⟩, ⟨aD b1, 30, [vi 0, .slice none 0 0], 2⟩, ⟨aD b23, 75, (([] : List ((Hd × Hd) × TtableWord)).flatMap eN3), 0 * 4⟩] (⟨none, ([].flatMap eN0)⟩ :: ⟨B21, (r_16.Cells.flatMap eN1)⟩ :: ⟨aD b19, ([].flatMap eN0)⟩ :: ⟨B, (m.Cells.flatMap eN1)⟩ :: ⟨(aD 1), (gl1.flatMap enc_u64)⟩ :: ((([] : List ((Hd × Hd) × TtableWord)).flatMap eN2) ++ ((D12.flatMap (rowM eN0)) ++ ((D13.flatMap eN2) ++ [])))) := hS124
    refine sQ 11 (yg (.slice (aD b23) 0 0)) (rn (cq (cq (cr ?_))))
    refine sQ 49 (ym (.slice B23 level1.length c22) rfl (hf7.g 10 3)) <| sQ 50 (Y_len (B := B23) (m := level1.length) (c := c22) K66 rfl rfl) <| sQ 51 (ym (vi 0)) (rn ?_)
    obtain ⟨hN4, hb6⟩ := chk_inv hb6
    obtain ⟨z6, hz6, hF13⟩ := bI hb6
    have hS126 : ST w0 [] _ [⟨aD b17, 46, [.map none, .slice none 0 0], 2⟩, ⟨aD b21, 46, [.map (some g2), .slice B22 sizes1.length c21], 2⟩, ⟨(aD g2), .mp (mpE vStr vSl D12), [], 0⟩, ⟨B22, 3, (sizes1.flatMap encI), c21 * 1⟩, ⟨B23, 75, (D13.flatMap eN3), c22 * 4⟩, ⟨aD b1, 30, [vi 0, .slice none 0 0], 2⟩, ⟨aD b23, 75, (([] : List ((Hd × Hd) × TtableWord)).flatMap eN3), 0 * 4⟩] (⟨none, ([].flatMap eN0)⟩ :: ⟨B21, (r_16.Cells.flatMap eN1)⟩ :: ⟨aD b19, ([].flatMap eN0)⟩ :: ⟨B, (m.Cells.flatMap eN1)⟩ :: ⟨(aD 1), (gl1.flatMap enc_u64)⟩ :: ((D12.flatMap (rowM eN0)) ++ ((([] : List ((Hd × Hd) × TtableWord)).flatMap eN2) ++ ((D13.flatMap eN2) ++ [])))) := ST.subR hS124 (sk 0 (sk 1 (sk 2 (sk 3 (sk 4 (suba (fun r_ (h : r_ ∈ ((D12.flatMap (rowM eN0)) : List Ro)) => mOd (i := 5) (show r_ ∈ ((((([] : List ((Hd × Hd) × TtableWord)).flatMap eN2) ++ ((D12.flatMap (rowM eN0)) ++ ((D13.flatMap eN2) ++ [])))) : List Ro) from mAr _ (mAl _ h))) (suba (fun r_ (h : r_ ∈ ((([] : List ((Hd × Hd) × TtableWord)).flatMap eN2) : List Ro)) => mOd (i := 5) (show r_ ∈ ((((([] : List ((Hd × Hd) × TtableWord)).flatMap eN2) ++ ((D12.flatMap (rowM eN0)) ++ ((D13.flatMap eN2) ++ [])))) : List Ro) from mAl _ h)) (suba (fun r_ (h : r_ ∈ ((D13.flatMap eN2) : List Ro)) => mOd (i := 5) (show r_ ∈ ((((([] : List ((Hd × Hd) × TtableWord)).flatMap eN2) ++ ((D12.flatMap (rowM eN0)) ++ ((D13.flatMap eN2) ++ [])))) : List Ro) from mAr _ (mAr _ (mAl _ h)))) (fun _ h => by cases h)))))))))
    refine cw_block ?_
    refine cw_loop (fun k f w => ∃ (i4 : Nat) (words5 : List ((List UInt8) × (List TGate))) (next_3 : List TtableWord) (D14 : List ((List UInt8) × Hd × (List TGate))) (B24 : Option Addr) (c23 : Nat) (D15 : List ((Hd × Hd) × TtableWord)) (D16 : List ((Hd × Hd) × TtableWord)), FF f [(0, vi n1), (4, pt (aD b17) 0), (9, pt (aD b21) 0), (11, .slice B24 next_3.length c23), (45, vi most), (46, vi (i3 : Int)), (49, .slice B23 level1.length c22), (50, vi (level1.length : Int)), (51, vi (i4 : Int))] ∧ D14.map dm = words5 ∧ D15.map Prod.snd = next_3 ∧ Org w0 [] [⟨B, (m.Cells.flatMap eN1)⟩, ⟨(aD 1), (gl1.flatMap enc_u64)⟩] (D15.flatMap eN2) ∧ D16.map Prod.snd = level1 ∧ Org w0 [] [⟨B, (m.Cells.flatMap eN1)⟩, ⟨(aD 1), (gl1.flatMap enc_u64)⟩] (D16.flatMap eN2) ∧ ST w0 [] w [⟨aD b17, 46, [.map none, .slice none 0 0], 2⟩, ⟨aD b21, 46, [.map (some g2), .slice B22 sizes1.length c21], 2⟩, ⟨(aD g2), .mp (mpE vStr vSl D14), [], 0⟩, ⟨B22, 3, (sizes1.flatMap encI), c21 * 1⟩, ⟨B24, 75, (D15.flatMap eN3), c23 * 4⟩, ⟨B23, 75, (D16.flatMap eN3), c22 * 4⟩, ⟨aD b1, 30, [vi 0, .slice none 0 0], 2⟩] (⟨none, ([].flatMap eN0)⟩ :: ⟨B21, (r_16.Cells.flatMap eN1)⟩ :: ⟨aD b19, ([].flatMap eN0)⟩ :: ⟨B, (m.Cells.flatMap eN1)⟩ :: ⟨(aD 1), (gl1.flatMap enc_u64)⟩ :: ((D14.flatMap (rowM eN0)) ++ ((D15.flatMap eN2) ++ ((D16.flatMap eN2) ++ [])))) ∧ i4 + k = level1.length ∧ forN (F_impl_ShortestWord_l2 level1 n1) k i4 (words5, next_3) = some z6) level1.length ⟨0, words4, ([] : List TtableWord), D12, aD b23, 0, ([] : List ((Hd × Hd) × TtableWord)), D13, (fc (hf7.g 0 0) (fc (hf7.g 4 1) (fc (hf7.g 9 2) (fc rfl (fc (hf7.g 45 4) (fc (hf7.g 46 5) (fc rfl (fc rfl (fc rfl fn_))))))))), hD15, rfl, forg_nil, hD16, ho17, (hS126.sel [0, 1, 2, 3, 6, 4, 5] rfl rfl), Nat.zero_add _, hz6⟩ ?_
    rintro K90 f w ⟨i4, words5, next_3, D14, B24, c23, D15, D16, hf8, hD17, hD18, ho18, hD19, ho19, hS125, hik4, hL8⟩
    refine cq (cr ?_)
    refine sQ 52 (yL (i4 : Int) (level1.length : Int) rfl (hf8.g 51 8) (hf8.g 50 7)) (rn (cq ?_))
    refine cw_cond (b := (decide ((i4 : Int) < (level1.length : Int)))) rfl (fun hlt8 => ?_) (fun hlt8 => ?_)
    ·skip
     have hlt9 : i4 < level1.length := by have h := of_decide_eq_true hlt8; omega
     obtain ⟨k_9, rfl⟩ : ∃ k2, K90 = k2 + 1 := ⟨K90 - 1, by omega⟩
     obtain ⟨y4, hb7, hL9⟩ := forN_go hL8
     unfold F_impl_ShortestWord_l2 at hb7
     refine cw_skip (cq (cw_block (cq (cr ?_))))
     obtain ⟨x2, hx2, hb7⟩ := bI hb7
     obtain ⟨⟨⟨B25, c24⟩, ⟨B26, c25⟩⟩, hp2⟩ := getI_snd hD19 hx2
     refine sQ 53 (Y_index (B := B23) (m := level1.length) (c := c22) (k := .i64) (i := (i4 : Int)) K66 K42 rfl (hf8.g 49 6) (hf8.g 51 8) (gi_isSome encD_tableWord_len rfl (hS125.c 5) hp2) (getI_nn hp2) (getI_ltI hp2 (dl_len hD19))) ?_
     have hm9 : (⟨B25, (x2.gates.flatMap eN0)⟩ : Ro) ∈ ((⟨none, ([].flatMap eN0)⟩ :: ⟨B21, (r_16.Cells.flatMap eN1)⟩ :: ⟨aD b19, ([].flatMap eN0)⟩ :: ⟨B, (m.Cells.flatMap eN1)⟩ :: ⟨(aD 1), (gl1.flatMap enc_u64)⟩ :: ((D14.flatMap (rowM eN0)) ++ ((D15.flatMap eN2) ++ ((D16.flatMap eN2) ++ [])))) : List Ro) := app_mem (fun r_ (h : r_ ∈ ((D16.flatMap eN2) : List Ro)) => mOd (i := 5) (show r_ ∈ ((((D14.flatMap (rowM eN0)) ++ ((D15.flatMap eN2) ++ ((D16.flatMap eN2) ++ [])))) : List Ro) from mAr _ (mAr _ (mAl _ h)))) (row_mem (rw_ := eN2) hp2 _ (mt 0))
     have hS127 : ST w0 [] _ [⟨aD b17, 46, [.map none, .slice none 0 0], 2⟩, ⟨aD b21, 46, [.map (some g2), .slice B22 sizes1.length c21], 2⟩, ⟨(aD g2), .mp (mpE vStr vSl D14), [], 0⟩, ⟨B22, 3, (sizes1.flatMap encI), c21 * 1⟩, ⟨B24, 75, (D15.flatMap eN3), c23 * 4⟩, ⟨B23, 75, (D16.flatMap eN3), c22 * 4⟩, ⟨aD b1, 30, [vi 0, .slice none 0 0], 2⟩] (⟨B25, (x2.gates.flatMap eN0)⟩ :: ⟨none, ([].flatMap eN0)⟩ :: ⟨B21, (r_16.Cells.flatMap eN1)⟩ :: ⟨aD b19, ([].flatMap eN0)⟩ :: ⟨B, (m.Cells.flatMap eN1)⟩ :: ⟨(aD 1), (gl1.flatMap enc_u64)⟩ :: ((D14.flatMap (rowM eN0)) ++ ((D15.flatMap eN2) ++ ((D16.flatMap eN2) ++ [])))) := ST.subR hS125 (subc hm9 (fun _ h => h))
     have hm10 : (⟨B26, (x2.m.Cells.flatMap eN1)⟩ : Ro) ∈ ((⟨B25, (x2.gates.flatMap eN0)⟩ :: ⟨none, ([].flatMap eN0)⟩ :: ⟨B21, (r_16.Cells.flatMap eN1)⟩ :: ⟨aD b19, ([].flatMap eN0)⟩ :: ⟨B, (m.Cells.flatMap eN1)⟩ :: ⟨(aD 1), (gl1.flatMap enc_u64)⟩ :: ((D14.flatMap (rowM eN0)) ++ ((D15.flatMap eN2) ++ ((D16.flatMap eN2) ++ [])))) : List Ro) := app_mem (fun r_ (h : r_ ∈ ((D16.flatMap eN2) : List Ro)) => mOd (i := 6) (show r_ ∈ ((((D14.flatMap (rowM eN0)) ++ ((D15.flatMap eN2) ++ ((D16.flatMap eN2) ++ [])))) : List Ro) from mAr _ (mAr _ (mAl _ h)))) (row_mem (rw_ := eN2) hp2 _ (mt 1))
     have hS128 : ST w0 [] _ [⟨aD b17, 46, [.map none, .slice none 0 0], 2⟩, ⟨aD b21, 46, [.map (some g2), .slice B22 sizes1.length c21], 2⟩, ⟨(aD g2), .mp (mpE vStr vSl D14), [], 0⟩, ⟨B22, 3, (sizes1.flatMap encI), c21 * 1⟩, ⟨B24, 75, (D15.flatMap eN3), c23 * 4⟩, ⟨B23, 75, (D16.flatMap eN3), c22 * 4⟩, ⟨aD b1, 30, [vi 0, .slice none 0 0], 2⟩] (⟨B26, (x2.m.Cells.flatMap eN1)⟩ :: ⟨B25, (x2.gates.flatMap eN0)⟩ :: ⟨none, ([].flatMap eN0)⟩ :: ⟨B21, (r_16.Cells.flatMap eN1)⟩ :: ⟨aD b19, ([].flatMap eN0)⟩ :: ⟨B, (m.Cells.flatMap eN1)⟩ :: ⟨(aD 1), (gl1.flatMap enc_u64)⟩ :: ((D14.flatMap (rowM eN0)) ++ ((D15.flatMap eN2) ++ ((D16.flatMap eN2) ++ [])))) := ST.subR hS127 (subc hm10 (fun _ h => h))
     refine sQ 54 (ya B23 ((i4 : Int).toNat * 4) (D16.flatMap eN3) [.slice B25 x2.gates.length c24, vi x2.m.Rows, vi x2.m.Cols, .slice B26 x2.m.Cells.length c25] k_ag_75 K42 (hS128.c 5) rfl rfl (encD_tableWord_len (((B25, c24), (B26, c25)), x2)) (gi_seg encD_tableWord_len hp2)) ?_
     refine sS 13 (yN [.slice none 0 0, vi 0, vi 0, .slice none 0 0] 4 hS128 K37) ?_
     rintro _ w_83 ⟨b24, rfl, hS129⟩
     refine s0 (yT 7 4 (aD b24) 75 (.agg #[.slice B25 x2.gates.length c24, vi x2.m.Rows, vi x2.m.Cols, .slice B26 x2.m.Cells.length c25]) [.slice B25 x2.gates.length c24, vi x2.m.Rows, vi x2.m.Cols, .slice B26 x2.m.Cells.length c25] 0 hS129 K42) ?_
     rintro _ w_84 ⟨rfl, hS130⟩
     refine rn (cq (cr ?_))
     refine sQ 55 (ym (vi n1) rfl (hf8.g 0 0)) ?_
     obtain ⟨r_20, hc11, hb7⟩ := bI hb7
     refine sc 56 rfl rfl (yC [vi n1] k_call_36 (c_impl_tableGates n1 _  (hS130.inn0 [] rfl) hc11)) ?_
     rintro _ w_85 ⟨B27, c26, rfl, hd15⟩
     have hS131 := hS130.out0 hd15
     refine sQ 57 (Y_len (B := B27) (m := r_20.length) (c := c26) K11 rfl rfl) <| sQ 58 (ym (vi 0)) (rn ?_)
     obtain ⟨hN5, hb7⟩ := chk_inv hb7
     obtain ⟨z7, hz7, hF14⟩ := bI hb7
     refine cw_block ?_
     refine cw_loop (fun k f w => ∃ (i5 : Nat) (words6 : List ((List UInt8) × (List TGate))) (next_4 : List TtableWord) (D17 : List ((List UInt8) × Hd × (List TGate))) (B28 : Option Addr) (c27 : Nat) (D18 : List ((Hd × Hd) × TtableWord)) (D19 : List ((Hd × Hd) × TtableWord)), FF f [(0, vi n1), (4, pt (aD b17) 0), (9, pt (aD b21) 0), (11, .slice B28 next_4.length c27), (13, pt (aD b24) 0), (45, vi most), (46, vi (i3 : Int)), (49, .slice B23 level1.length c22), (50, vi (level1.length : Int)), (51, vi (i4 : Int)), (56, .slice B27 r_20.length c26), (57, vi (r_20.length : Int)), (58, vi (i5 : Int))] ∧ D17.map dm = words6 ∧ D18.map Prod.snd = next_4 ∧ Org w0 [] [⟨B, (m.Cells.flatMap eN1)⟩, ⟨(aD 1), (gl1.flatMap enc_u64)⟩] (D18.flatMap eN2) ∧ D19.map Prod.snd = level1 ∧ Org w0 [] [⟨B, (m.Cells.flatMap eN1)⟩, ⟨(aD 1), (gl1.flatMap enc_u64)⟩] (D19.flatMap eN2) ∧ ST w0 [] w [⟨aD b17, 46, [.map none, .slice none 0 0], 2⟩, ⟨aD b21, 46, [.map (some g2), .slice B22 sizes1.length c21], 2⟩, ⟨(aD g2), .mp (mpE vStr vSl D17), [], 0⟩, ⟨B22, 3, (sizes1.flatMap encI), c21 * 1⟩, ⟨B28, 75, (D18.flatMap eN3), c27 * 4⟩, ⟨aD b24, 75, [.slice B25 x2.gates.length c24, vi x2.m.Rows, vi x2.m.Cols, .slice B26 x2.m.Cells.length c25], 4⟩, ⟨B23, 75, (D19.flatMap eN3), c22 * 4⟩, ⟨B27, 56, (r_20.flatMap eN0), c26 * 3⟩, ⟨aD b1, 30, [vi 0, .slice none 0 0], 2⟩] (⟨B26, (x2.m.Cells.flatMap eN1)⟩ :: ⟨B25, (x2.gates.flatMap eN0)⟩ :: ⟨none, ([].flatMap eN0)⟩ :: ⟨B21, (r_16.Cells.flatMap eN1)⟩ :: ⟨aD b19, ([].flatMap eN0)⟩ :: ⟨B, (m.Cells.flatMap eN1)⟩ :: ⟨(aD 1), (gl1.flatMap enc_u64)⟩ :: ((D17.flatMap (rowM eN0)) ++ ((D18.flatMap eN2) ++ ((D19.flatMap eN2) ++ [])))) ∧ i5 + k = r_20.length ∧ forN (F_impl_ShortestWord_l3 r_20 n1 x2) k i5 (words6, next_4) = some z7) r_20.length ⟨0, words5, next_3, D14, B24, c23, D15, D16, (fc (hf8.g 0 0) (fc (hf8.g 4 1) (fc (hf8.g 9 2) (fc (hf8.g 11 3) (fc rfl (fc (hf8.g 45 4) (fc (hf8.g 46 5) (fc (hf8.g 49 6) (fc (hf8.g 50 7) (fc (hf8.g 51 8) (fc rfl (fc rfl (fc rfl fn_))))))))))))), hD17, hD18, ho18, hD19, ho19, (hS131.sel [0, 1, 2, 3, 4, 7, 5, 8, 6] rfl rfl), Nat.zero_add _, hz7⟩ ?_
     rintro K91 f w ⟨i5, words6, next_4, D17, B28, c27, D18, D19, hf9, hD20, hD21, ho20, hD22, ho21, hS132, hik5, hL10⟩
     refine cq (cr ?_)
     refine sQ 59 (yL (i5 : Int) (r_20.length : Int) rfl (hf9.g 58 12) (hf9.g 57 11)) (rn (cq ?_))
     refine cw_cond (b := (decide ((i5 : Int) < (r_20.length : Int)))) rfl (fun hlt10 => ?_) (fun hlt10 => ?_)
     ·skip
      have hlt11 : i5 < r_20.length := by have h := of_decide_eq_true hlt10; omega
      obtain ⟨k_11, rfl⟩ : ∃ k2, K91 = k2 + 1 := ⟨K91 - 1, by omega⟩
      obtain ⟨y5, hb8, hL11⟩ := forN_go hL10
      unfold F_impl_ShortestWord_l3 at hb8
      refine cw_skip (cq ?_)
      obtain ⟨z8, hz8, hF15⟩ := bI hb8
      refine cw_mid (fun f w => ∃ (words7 : List ((List UInt8) × (List TGate))) (next_5 : List TtableWord) (D20 : List ((List UInt8) × Hd × (List TGate))) (B29 : Option Addr) (c28 : Nat) (D21 : List ((Hd × Hd) × TtableWord)) (D22 : List ((Hd × Hd) × TtableWord)), (words7, next_5) = z8 ∧ FF f [(0, vi n1), (4, pt (aD b17) 0), (9, pt (aD b21) 0), (11, .slice B29 next_5.length c28), (13, pt (aD b24) 0), (45, vi most), (46, vi (i3 : Int)), (49, .slice B23 level1.length c22), (50, vi (level1.length : Int)), (51, vi (i4 : Int)), (56, .slice B27 r_20.length c26), (57, vi (r_20.length : Int)), (58, vi (i5 : Int))] ∧ D20.map dm = words7 ∧ D21.map Prod.snd = next_5 ∧ Org w0 [] [⟨B, (m.Cells.flatMap eN1)⟩, ⟨(aD 1), (gl1.flatMap enc_u64)⟩] (D21.flatMap eN2) ∧ D22.map Prod.snd = level1 ∧ Org w0 [] [⟨B, (m.Cells.flatMap eN1)⟩, ⟨(aD 1), (gl1.flatMap enc_u64)⟩] (D22.flatMap eN2) ∧ ST w0 [] w [⟨aD b17, 46, [.map none, .slice none 0 0], 2⟩, ⟨aD b21, 46, [.map (some g2), .slice B22 sizes1.length c21], 2⟩, ⟨(aD g2), .mp (mpE vStr vSl D20), [], 0⟩, ⟨B22, 3, (sizes1.flatMap encI), c21 * 1⟩, ⟨B29, 75, (D21.flatMap eN3), c28 * 4⟩, ⟨aD b24, 75, [.slice B25 x2.gates.length c24, vi x2.m.Rows, vi x2.m.Cols, .slice B26 x2.m.Cells.length c25], 4⟩, ⟨B23, 75, (D22.flatMap eN3), c22 * 4⟩, ⟨B27, 56, (r_20.flatMap eN0), c26 * 3⟩, ⟨aD b1, 30, [vi 0, .slice none 0 0], 2⟩] (⟨B26, (x2.m.Cells.flatMap eN1)⟩ :: ⟨B25, (x2.gates.flatMap eN0)⟩ :: ⟨none, ([].flatMap eN0)⟩ :: ⟨B21, (r_16.Cells.flatMap eN1)⟩ :: ⟨aD b19, ([].flatMap eN0)⟩ :: ⟨B, (m.Cells.flatMap eN1)⟩ :: ⟨(aD 1), (gl1.flatMap enc_u64)⟩ :: ((D20.flatMap (rowM eN0)) ++ ((D21.flatMap eN2) ++ ((D22.flatMap eN2) ++ []))))) ?_ ?_
      ·skip
       refine cw_block (cq (cr ?_))
       obtain ⟨x3, hx3, hz8⟩ := bI hz8
       refine sQ 60 (Y_index (B := B27) (m := r_20.length) (c := c26) (k := .i64) (i := (i5 : Int)) K11 K10 rfl (hf9.g 56 10) (hf9.g 58 12) (gi_isSome enc_Gate_len rfl (hS132.c 7) hx3) (getI_nn hx3) (getI_ltI hx3 rfl)) <| sQ 61 (ya B27 ((i5 : Int).toNat * 3) (r_20.flatMap eN0) [vi x3.Kind, vi x3.A, vi x3.B] K31 K10 (hS132.c 7) rfl rfl (enc_Gate_len x3) (gi_seg enc_Gate_len hx3)) ?_
       refine sS 15 (yN [vi 0, vi 0, vi 0] 3 hS132 K20) ?_
       rintro _ w_86 ⟨b25, rfl, hS134⟩
       have hS134 : ST w0 [] _ [⟨aD b17, 46, [.map none, .slice none 0 0], 2⟩, ⟨aD b21, 46, [.map (some g2), .slice B22 sizes1.length c21], 2⟩, ⟨(aD g2), .mp (mpE vStr vSl D17), [], 0⟩, ⟨B22, 3, (sizes1.flatMap encI), c21 * 1⟩, ⟨B28, 75, (D18.flatMap eN3), c27 * 4⟩, ⟨aD b24, 75, [.slice B25 x2.gates.length c24, vi x2.m.Rows, vi x2.m.Cols, .slice B26 x2.m.Cells.length c25], 4⟩, ⟨B23, 75, (D19.flatMap eN3), c22 * 4⟩, ⟨B27, 56, (r_20.flatMap eN0), c26 * 3⟩, ⟨aD b1, 30, [vi 0, .slice none 0 0], 2⟩, ⟨aD b25, 56, [vi 0, vi 0, vi 0], 3⟩] (⟨B26, (x2.m.Cells.flatMap eN1)⟩ :: ⟨B25, (x2.gates.flatMap eN0)⟩ :: ⟨none, ([].flatMap eN0)⟩ :: ⟨B21, (r_16.Cells.flatMap eN1)⟩ :: ⟨aD b19, ([].flatMap eN0)⟩ :: ⟨B, (m.Cells.flatMap eN1)⟩ :: ⟨(aD 1), (gl1.flatMap enc_u64)⟩ :: ((D17.flatMap (rowM eN0)) ++ ((D18.flatMap eN2) ++ ((D19.flatMap eN2) ++ [])))) := hS134
       refine s0 (yT 9 3 (aD b25) 56 (.agg #[vi x3.Kind, vi x3.A, vi x3.B]) [vi x3.Kind, vi x3.A, vi x3.B] 0 hS134 K10) ?_
       rintro _ w_87 ⟨rfl, hS135⟩
       refine rn (cq (cr ?_))
       refine sQ 63 (ym (vi n1) rfl (hf9.g 0 0)) <| sQ 64 (yb (aD b25) 0 [vi x3.Kind, vi x3.A, vi x3.B] K31 K10 (hS135.c 9)) ?_
       obtain ⟨⟨r_21, r_22⟩, hc12, hz8⟩ := bI hz8
       refine sc 65 rfl rfl (yC [vi n1, .agg #[vi x3.Kind, vi x3.A, vi x3.B]] K99 (c_impl_GateMatrix n1 x3 _  (hS135.inn0 [] rfl) hc12)) ?_
       rintro _ w_88 ⟨B30, c29, rfl, hd16⟩
       have hS136 := hS135.out0 hd16
       refine sQ 62 (ym (.tuple #[gM_ r_21 B30 c29, .bool r_22])) <| sQ 66 (ye (gM_ r_21 B30 c29)) <| sQ 67 (ye (.bool r_22)) ?_
       refine sS 16 (yN kN_ 3 hS136 K13) ?_
       rintro _ w_89 ⟨b26, rfl, hS137⟩
       refine s0 (yT 11 3 (aD b26) 50 (gM_ r_21 B30 c29) (kM_ r_21 B30 c29) 0 hS137 K4) ?_
       rintro _ w_90 ⟨rfl, hS138⟩
       have hS138 : ST w0 [] _ [⟨aD b17, 46, [.map none, .slice none 0 0], 2⟩, ⟨aD b21, 46, [.map (some g2), .slice B22 sizes1.length c21], 2⟩, ⟨(aD g2), .mp (mpE vStr vSl D17), [], 0⟩, ⟨B22, 3, (sizes1.flatMap encI), c21 * 1⟩, ⟨B28, 75, (D18.flatMap eN3), c27 * 4⟩, ⟨aD b24, 75, [.slice B25 x2.gates.length c24, vi x2.m.Rows, vi x2.m.Cols, .slice B26 x2.m.Cells.length c25], 4⟩, ⟨B23, 75, (D19.flatMap eN3), c22 * 4⟩, ⟨B27, 56, (r_20.flatMap eN0), c26 * 3⟩, ⟨aD b1, 30, [vi 0, .slice none 0 0], 2⟩, ⟨aD b25, 56, [vi x3.Kind, vi x3.A, vi x3.B], 3⟩, ⟨B30, 91, (r_21.Cells.flatMap eN1), c29 * 5⟩, ⟨aD b26, 50, kM_ r_21 B30 c29, 3⟩] (⟨B26, (x2.m.Cells.flatMap eN1)⟩ :: ⟨B25, (x2.gates.flatMap eN0)⟩ :: ⟨none, ([].flatMap eN0)⟩ :: ⟨B21, (r_16.Cells.flatMap eN1)⟩ :: ⟨aD b19, ([].flatMap eN0)⟩ :: ⟨B, (m.Cells.flatMap eN1)⟩ :: ⟨(aD 1), (gl1.flatMap enc_u64)⟩ :: ((D17.flatMap (rowM eN0)) ++ ((D18.flatMap eN2) ++ ((D19.flatMap eN2) ++ [])))) := hS138
       refine sQ 17 (yg (.bool r_22)) (rn (cq (cr ?_)))
       refine sQ 69 (yb (aD b26) 0 (kM_ r_21 B30 c29) K9 K4 (hS138.c 11)) <| sQ 70 (yd (aD b24) 0 2 k_fd_75_1_1_50 K4 rfl (hf9.g 13 4)) <| sQ 71 (ya (aD b24) 1 [.slice B25 x2.gates.length c24, vi x2.m.Rows, vi x2.m.Cols, .slice B26 x2.m.Cells.length c25] (kM_ x2.m B26 c25) K9 K4 (hS138.c 5)) ?_
       obtain ⟨⟨r_23, r_24⟩, hc13, hz8⟩ := bI hz8
       refine sc 72 rfl rfl (yC [gM_ r_21 B30 c29, gM_ x2.m B26 c25] k_call_38 (c_impl_MulMatrix r_21 x2.m B30 c29 r_21.Cells.length B26 c25 x2.m.Cells.length _ rfl rfl (hS138.inn0 [(false, 10), (true, 0)] rfl) hc13)) ?_
       rintro _ w_91 ⟨B31, c30, rfl, hd17⟩
       have hS139 := hS138.out0 hd17
       refine sQ 68 (ym (.tuple #[gM_ r_23 B31 c30, .bool r_24])) <| sQ 73 (ye (gM_ r_23 B31 c30)) <| sQ 74 (ye (.bool r_24)) ?_
       refine sS 18 (yN kN_ 3 hS139 K13) ?_
       rintro _ w_92 ⟨b27, rfl, hS140⟩
       refine s0 (yT 13 3 (aD b27) 50 (gM_ r_23 B31 c30) (kM_ r_23 B31 c30) 0 hS140 K4) ?_
       rintro _ w_93 ⟨rfl, hS141⟩
       refine sQ 19 (yg (.bool r_24)) (rn (cq (cr ?_)))
       refine sQ 76 (yb (aD b27) 0 (kM_ r_23 B31 c30) K9 K4 (hS141.c 13)) ?_
       obtain ⟨⟨r_25, r_26⟩, hc14, hz8⟩ := bI hz8
       refine sc 77 rfl rfl (yC [gM_ r_23 B31 c30] K101 (c_impl_OperatorKey r_23 B31 c30 r_23.Cells.length _ rfl (tab_keep hS141 ht1 (by kernel_rfl) hgm1) (hS141.inn0 [(false, 12), (true, 6)] rfl) hc14)) ?_
       rintro _ w_94 ⟨rfl, hd18⟩
       have hS142 := hS141.out00 hd18
       have hS142 : ST w0 [] _ [⟨aD b17, 46, [.map none, .slice none 0 0], 2⟩, ⟨aD b21, 46, [.map (some g2), .slice B22 sizes1.length c21], 2⟩, ⟨(aD g2), .mp (mpE vStr vSl D17), [], 0⟩, ⟨B22, 3, (sizes1.flatMap encI), c21 * 1⟩, ⟨B28, 75, (D18.flatMap eN3), c27 * 4⟩, ⟨aD b24, 75, [.slice B25 x2.gates.length c24, vi x2.m.Rows, vi x2.m.Cols, .slice B26 x2.m.Cells.length c25], 4⟩, ⟨B23, 75, (D19.flatMap eN3), c22 * 4⟩, ⟨B27, 56, (r_20.flatMap eN0), c26 * 3⟩, ⟨aD b1, 30, [vi 0, .slice none 0 0], 2⟩, ⟨aD b25, 56, [vi x3.Kind, vi x3.A, vi x3.B], 3⟩, ⟨B30, 91, (r_21.Cells.flatMap eN1), c29 * 5⟩, ⟨aD b26, 50, kM_ r_21 B30 c29, 3⟩, ⟨B31, 91, (r_23.Cells.flatMap eN1), c30 * 5⟩, ⟨aD b27, 50, kM_ r_23 B31 c30, 3⟩] (⟨B26, (x2.m.Cells.flatMap eN1)⟩ :: ⟨B25, (x2.gates.flatMap eN0)⟩ :: ⟨none, ([].flatMap eN0)⟩ :: ⟨B21, (r_16.Cells.flatMap eN1)⟩ :: ⟨aD b19, ([].flatMap eN0)⟩ :: ⟨B, (m.Cells.flatMap eN1)⟩ :: ⟨(aD 1), (gl1.flatMap enc_u64)⟩ :: ((D17.flatMap (rowM eN0)) ++ ((D18.flatMap eN2) ++ ((D19.flatMap eN2) ++ [])))) := hS142
       refine sQ 75 (ym (.tuple #[.string (bstr r_25), .bool r_26])) <| sQ 78 (ye (.string (bstr r_25))) <| sQ 79 (ye (.bool r_26)) <| sQ 20 (yg (.string (bstr r_25))) <| sQ 21 (yg (.bool r_26)) (rn (cq (cq (cr ?_))))
       refine sQ 81 (yd (aD b21) 0 0 K103 k_sz_43_1 rfl (hf9.g 9 2)) <| sQ 82 (yl (aD b21) 0 [.map (some g2), .slice B22 sizes1.length c21] (.map (some g2)) K104 (hS142.c 1)) <| sQ 83 (ym (.string (bstr r_25))) ?_
       obtain ⟨⟨B32, c31⟩, hp3⟩ := mgt_dm hD20 r_25
       have hS143 : ST w0 [] _ [⟨aD b17, 46, [.map none, .slice none 0 0], 2⟩, ⟨aD b21, 46, [.map (some g2), .slice B22 sizes1.length c21], 2⟩, ⟨(aD g2), .mp (mpE vStr vSl D17), [], 0⟩, ⟨B22, 3, (sizes1.flatMap encI), c21 * 1⟩, ⟨B28, 75, (D18.flatMap eN3), c27 * 4⟩, ⟨aD b24, 75, [.slice B25 x2.gates.length c24, vi x2.m.Rows, vi x2.m.Cols, .slice B26 x2.m.Cells.length c25], 4⟩, ⟨B23, 75, (D19.flatMap eN3), c22 * 4⟩, ⟨B27, 56, (r_20.flatMap eN0), c26 * 3⟩, ⟨aD b1, 30, [vi 0, .slice none 0 0], 2⟩, ⟨aD b25, 56, [vi x3.Kind, vi x3.A, vi x3.B], 3⟩, ⟨B30, 91, (r_21.Cells.flatMap eN1), c29 * 5⟩, ⟨aD b26, 50, kM_ r_21 B30 c29, 3⟩, ⟨B31, 91, (r_23.Cells.flatMap eN1), c30 * 5⟩, ⟨aD b27, 50, kM_ r_23 B31 c30, 3⟩] (⟨none, ([].flatMap eN0)⟩ :: ⟨B26, (x2.m.Cells.flatMap eN1)⟩ :: ⟨B25, (x2.gates.flatMap eN0)⟩ :: ⟨none, ([].flatMap eN0)⟩ :: ⟨B21, (r_16.Cells.flatMap eN1)⟩ :: ⟨aD b19, ([].flatMap eN0)⟩ :: ⟨B, (m.Cells.flatMap eN1)⟩ :: ⟨(aD 1), (gl1.flatMap enc_u64)⟩ :: ((D17.flatMap (rowM eN0)) ++ ((D18.flatMap eN2) ++ ((D19.flatMap eN2) ++ [])))) := ST.nilRo hS142
       have hm11 : (⟨B32, ((mgt words6 r_25 []).flatMap eN0)⟩ : Ro) ∈ ((⟨none, ([].flatMap eN0)⟩ :: ⟨B26, (x2.m.Cells.flatMap eN1)⟩ :: ⟨B25, (x2.gates.flatMap eN0)⟩ :: ⟨none, ([].flatMap eN0)⟩ :: ⟨B21, (r_16.Cells.flatMap eN1)⟩ :: ⟨aD b19, ([].flatMap eN0)⟩ :: ⟨B, (m.Cells.flatMap eN1)⟩ :: ⟨(aD 1), (gl1.flatMap enc_u64)⟩ :: ((D17.flatMap (rowM eN0)) ++ ((D18.flatMap eN2) ++ ((D19.flatMap eN2) ++ [])))) : List Ro) := mgt_mem (R := (⟨none, ([].flatMap eN0)⟩ :: ⟨B26, (x2.m.Cells.flatMap eN1)⟩ :: ⟨B25, (x2.gates.flatMap eN0)⟩ :: ⟨none, ([].flatMap eN0)⟩ :: ⟨B21, (r_16.Cells.flatMap eN1)⟩ :: ⟨aD b19, ([].flatMap eN0)⟩ :: ⟨B, (m.Cells.flatMap eN1)⟩ :: ⟨(aD 1), (gl1.flatMap enc_u64)⟩ :: ((D17.flatMap (rowM eN0)) ++ ((D18.flatMap eN2) ++ ((D19.flatMap eN2) ++ []))))) (fun r_ (h : r_ ∈ ((D17.flatMap (rowM eN0)) : List Ro)) => mOd (i := 8) (show r_ ∈ ((((D17.flatMap (rowM eN0)) ++ ((D18.flatMap eN2) ++ ((D19.flatMap eN2) ++ [])))) : List Ro) from mAl _ h)) (mt 0) hp3
       have hS144 : ST w0 [] _ [⟨aD b17, 46, [.map none, .slice none 0 0], 2⟩, ⟨aD b21, 46, [.map (some g2), .slice B22 sizes1.length c21], 2⟩, ⟨(aD g2), .mp (mpE vStr vSl D17), [], 0⟩, ⟨B22, 3, (sizes1.flatMap encI), c21 * 1⟩, ⟨B28, 75, (D18.flatMap eN3), c27 * 4⟩, ⟨aD b24, 75, [.slice B25 x2.gates.length c24, vi x2.m.Rows, vi x2.m.Cols, .slice B26 x2.m.Cells.length c25], 4⟩, ⟨B23, 75, (D19.flatMap eN3), c22 * 4⟩, ⟨B27, 56, (r_20.flatMap eN0), c26 * 3⟩, ⟨aD b1, 30, [vi 0, .slice none 0 0], 2⟩, ⟨aD b25, 56, [vi x3.Kind, vi x3.A, vi x3.B], 3⟩, ⟨B30, 91, (r_21.Cells.flatMap eN1), c29 * 5⟩, ⟨aD b26, 50, kM_ r_21 B30 c29, 3⟩, ⟨B31, 91, (r_23.Cells.flatMap eN1), c30 * 5⟩, ⟨aD b27, 50, kM_ r_23 B31 c30, 3⟩] (⟨B32, ((mgt words6 r_25 []).flatMap eN0)⟩ :: ⟨none, ([].flatMap eN0)⟩ :: ⟨B26, (x2.m.Cells.flatMap eN1)⟩ :: ⟨B25, (x2.gates.flatMap eN0)⟩ :: ⟨none, ([].flatMap eN0)⟩ :: ⟨B21, (r_16.Cells.flatMap eN1)⟩ :: ⟨aD b19, ([].flatMap eN0)⟩ :: ⟨B, (m.Cells.flatMap eN1)⟩ :: ⟨(aD 1), (gl1.flatMap enc_u64)⟩ :: ((D17.flatMap (rowM eN0)) ++ ((D18.flatMap eN2) ++ ((D19.flatMap eN2) ++ [])))) := ST.subR hS143 (subc hm11 (fun _ h => h))
       refine sQ 84 (Y_as (tupD hp3 (mhas_dm hD20 _)) (Y_mapOk (kE := vStr) (vE := vSl) (l := D17) (a := r_25) (d := ((none, 0), [])) (g := g2) (i := 2) hS144 (keyStr K87) K88 k_zero_28 rfl rfl rfl rfl)) <| sQ 80 (ym (.tuple #[.slice B32 ((mgt words6 r_25 []).length) c31, .bool (mhas words6 r_25)])) <| sQ 85 (ye (.slice B32 ((mgt words6 r_25 []).length) c31)) <| sQ 86 (ye (.bool (mhas words6 r_25))) <| sQ 22 (yg (.slice B32 ((mgt words6 r_25 []).length) c31)) <| sQ 23 (yg (.bool (mhas words6 r_25))) (rn (cq (cr ?_)))
       refine sQ 87 (ym (.bool r_24)) <| sQ 88 (Y_not (p := r_24) rfl rfl) <| sQ 89 (ym (.bool (!r_24))) ?_
       refine sgq 90 (B := (!(!r_24))) (v := .bool r_26) rfl rfl (uF_ 89) (fun hg16 => (ym (.bool r_26))) ?_
       refine sgq 91 (B := (!(!r_24))) (v := .bool (!r_26)) rfl rfl (uF_ 89) (fun hg17 => (Y_not (p := r_26) rfl (gv_of (v := .bool r_26) hg17))) ?_
       refine sQ 92 (Y_or (b := (!r_24)) (z := (!r_26)) rfl rfl rfl rfl) <| sQ 93 (ym (.bool ((!r_24) || (!r_26)))) ?_
       refine sgq 94 (B := (!((!r_24) || (!r_26)))) (v := .bool (mhas words6 r_25)) rfl rfl (uF_ 93) (fun hg18 => (ym (.bool (mhas words6 r_25)))) ?_
       refine sQ 95 (Y_or (b := ((!r_24) || (!r_26))) (z := (mhas words6 r_25)) rfl rfl rfl rfl) (rn ?_)
       refine cw_cond (b := (((!r_24) || (!r_26)) || (mhas words6 r_25))) rfl (fun hb9 => ?_) (fun hb9 => ?_)
       ·skip
        have hF16 := ct hz8 hb9
        refine cw_exit rfl ?_
        have hS145 : ST w0 [] _ [⟨aD b17, 46, [.map none, .slice none 0 0], 2⟩, ⟨aD b21, 46, [.map (some g2), .slice B22 sizes1.length c21], 2⟩, ⟨(aD g2), .mp (mpE vStr vSl D17), [], 0⟩, ⟨B22, 3, (sizes1.flatMap encI), c21 * 1⟩, ⟨B28, 75, (D18.flatMap eN3), c27 * 4⟩, ⟨aD b24, 75, [.slice B25 x2.gates.length c24, vi x2.m.Rows, vi x2.m.Cols, .slice B26 x2.m.Cells.length c25], 4⟩, ⟨B23, 75, (D19.flatMap eN3), c22 * 4⟩, ⟨B27, 56, (r_20.flatMap eN0), c26 * 3⟩, ⟨aD b1, 30, [vi 0, .slice none 0 0], 2⟩, ⟨aD b25, 56, [vi x3.Kind, vi x3.A, vi x3.B], 3⟩, ⟨B30, 91, (r_21.Cells.flatMap eN1), c29 * 5⟩, ⟨aD b26, 50, kM_ r_21 B30 c29, 3⟩, ⟨B31, 91, (r_23.Cells.flatMap eN1), c30 * 5⟩, ⟨aD b27, 50, kM_ r_23 B31 c30, 3⟩] (⟨B26, (x2.m.Cells.flatMap eN1)⟩ :: ⟨B25, (x2.gates.flatMap eN0)⟩ :: ⟨none, ([].flatMap eN0)⟩ :: ⟨B21, (r_16.Cells.flatMap eN1)⟩ :: ⟨aD b19, ([].flatMap eN0)⟩ :: ⟨B, (m.Cells.flatMap eN1)⟩ :: ⟨(aD 1), (gl1.flatMap enc_u64)⟩ :: ((D17.flatMap (rowM eN0)) ++ ((D18.flatMap eN2) ++ ((D19.flatMap eN2) ++ [])))) := ST.subR hS144 (sk 2 (sk 3 (sk 4 (sk 5 (sk 6 (sk 7 (sk 8 (suba (fun r_ (h : r_ ∈ ((D17.flatMap (rowM eN0)) : List Ro)) => mOd (i := 9) (show r_ ∈ ((((D17.flatMap (rowM eN0)) ++ ((D18.flatMap eN2) ++ ((D19.flatMap eN2) ++ [])))) : List Ro) from mAl _ h)) (suba (fun r_ (h : r_ ∈ ((D18.flatMap eN2) : List Ro)) => mOd (i := 9) (show r_ ∈ ((((D17.flatMap (rowM eN0)) ++ ((D18.flatMap eN2) ++ ((D19.flatMap eN2) ++ [])))) : List Ro) from mAr _ (mAl _ h))) (suba (fun r_ (h : r_ ∈ ((D19.flatMap eN2) : List Ro)) => mOd (i := 9) (show r_ ∈ ((((D17.flatMap (rowM eN0)) ++ ((D18.flatMap eN2) ++ ((D19.flatMap eN2) ++ [])))) : List Ro) from mAr _ (mAr _ (mAl _ h)))) (fun _ h => by cases h)))))))))))
        exact ⟨words6, next_4, D17, B28, c27, D18, D19, (sI hF16), (fc (hf9.g 0 0) (fc (hf9.g 4 1) (fc (hf9.g 9 2) (fc (hf9.g 11 3) (fc (hf9.g 13 4) (fc (hf9.g 45 5) (fc (hf9.g 46 6) (fc (hf9.g 49 7) (fc (hf9.g 50 8) (fc (hf9.g 51 9) (fc (hf9.g 56 10) (fc (hf9.g 57 11) (fc (hf9.g 58 12) fn_))))))))))))), hD20, hD21, ho20, hD22, ho21, (hS145.sel [0, 1, 2, 3, 4, 5, 6, 7, 8] rfl rfl)⟩
       ·skip
        have hF17 := cf' hz8 hb9
        refine cw_skip (cq ?_)
        obtain ⟨r_27, hc15, hF17⟩ := bI hF17
        obtain ⟨hap3, hF17⟩ := chk_inv hF17
        refine cw_mid (fun f w => ∃ (B35 : Option Addr) (B36 : Option Addr) (c34 : Nat), FF f [(0, vi n1), (4, pt (aD b17) 0), (9, pt (aD b21) 0), (11, .slice B28 next_4.length c27), (13, pt (aD b24) 0), (20, .string (bstr r_25)), (24, pt B35 0), (45, vi most), (46, vi (i3 : Int)), (49, .slice B23 level1.length c22), (50, vi (level1.length : Int)), (51, vi (i4 : Int)), (56, .slice B27 r_20.length c26), (57, vi (r_20.length : Int)), (58, vi (i5 : Int))] ∧ ST w0 [] w [⟨aD b17, 46, [.map none, .slice none 0 0], 2⟩, ⟨aD b21, 46, [.map (some g2), .slice B22 sizes1.length c21], 2⟩, ⟨(aD g2), .mp (mpE vStr vSl D17), [], 0⟩, ⟨B22, 3, (sizes1.flatMap encI), c21 * 1⟩, ⟨B28, 75, (D18.flatMap eN3), c27 * 4⟩, ⟨aD b24, 75, [.slice B25 x2.gates.length c24, vi x2.m.Rows, vi x2.m.Cols, .slice B26 x2.m.Cells.length c25], 4⟩, ⟨B35, 75, [.slice B36 ((r_27 ++ [x3]).length) c34, vi r_23.Rows, vi r_23.Cols, .slice B31 r_23.Cells.length c30], 4⟩, ⟨B36, 56, ((r_27 ++ [x3]).flatMap eN0), c34 * 3⟩, ⟨B31, 91, (r_23.Cells.flatMap eN1), c30 * 5⟩, ⟨B23, 75, (D19.flatMap eN3), c22 * 4⟩, ⟨B27, 56, (r_20.flatMap eN0), c26 * 3⟩, ⟨aD b1, 30, [vi 0, .slice none 0 0], 2⟩] (⟨B32, ((mgt words6 r_25 []).flatMap eN0)⟩ :: ⟨none, ([].flatMap eN0)⟩ :: ⟨B26, (x2.m.Cells.flatMap eN1)⟩ :: ⟨B25, (x2.gates.flatMap eN0)⟩ :: ⟨none, ([].flatMap eN0)⟩ :: ⟨B21, (r_16.Cells.flatMap eN1)⟩ :: ⟨aD b19, ([].flatMap eN0)⟩ :: ⟨B, (m.Cells.flatMap eN1)⟩ :: ⟨(aD 1), (gl1.flatMap enc_u64)⟩ :: ((D17.flatMap (rowM eN0)) ++ ((D18.flatMap eN2) ++ ((D19.flatMap eN2) ++ []))))) ?_ ?_
        ·skip
         refine ra_start (hS144.se [0, 1, 2, 3, 4, 5, 6, 7, 8, 9, 10, 11, 12, 13]).fn (by kernel_rfl) ?_
         have hS148 := hS144.drew
         refine rq 0 96 (v := pt (aD b24) 0) rfl (hS148.se [0, 1, 2, 3, 4, 5, 6, 7, 8, 9, 10, 11, 12, 13]) (fun w' hw' => (yd (aD b24) 0 0 k_fd_75_0_0_28 K39 rfl (hf9.g 13 4))) ?_
         refine rq 1 97 (v := .slice B25 x2.gates.length c24) rfl (hS148.se [0, 1, 2, 3, 4, 5, 6, 7, 8, 9, 10, 11, 12, 13]) (fun w' hw' => (yl (aD b24) 0 [.slice B25 x2.gates.length c24, vi x2.m.Rows, vi x2.m.Cols, .slice B26 x2.m.Cells.length c25] (.slice B25 x2.gates.length c24) K43 (ST.cf hw' (i := 5) rfl))) ?_
         refine rq 3 99 (v := .agg #[vi x3.Kind, vi x3.A, vi x3.B]) rfl (hS148.se [0, 1, 2, 3, 4, 5, 6, 7, 8, 9, 10, 11, 12, 13]) (fun w' hw' => (yb (aD b25) 0 [vi x3.Kind, vi x3.A, vi x3.B] K31 K10 (ST.cf hw' (i := 9) rfl))) ?_
         refine rq 6 102 (v := gM_ r_23 B31 c30) rfl (hS148.se [0, 1, 2, 3, 4, 5, 6, 7, 8, 9, 10, 11, 12, 13]) (fun w' hw' => (yb (aD b27) 0 (kM_ r_23 B31 c30) K9 K4 (ST.cf hw' (i := 13) rfl))) ?_
         refine rA [2, 4, 8] ?_
         refine rC 98 2 rfl (yC [.slice B25 x2.gates.length c24] K79 (c_slices_Clone_impl_Gate_impl_Gate x2.gates B25 c24 x2.gates.length _ rfl (hS148.inn0 [(true, 3)] rfl) hc15)) ?_ ?_
         ·rintro _ w_95 ⟨B33, c32, rfl, hd19⟩
          have hS149 := hS148.out0 hd19
          refine ⟨(hS149.se [0, 1, 2, 3, 4, 5, 6, 7, 8, 9, 10, 11, 12, 13]), ?_⟩
          refine rA [4, 8] ?_
          refine rS 100 4 rfl (Ys_bslice (s := 3) (len := 1) (vs := [(0, .agg #[vi x3.Kind, vi x3.A, vi x3.B])]) (cs := [vi x3.Kind, vi x3.A, vi x3.B]) (zs := [vi 0, vi 0, vi 0]) (m := 3) hS149 K11 K10 K52 rfl (mpc rfl mpn) rfl rfl rfl (by kernel_rfl) (by kernel_rfl) rfl) ?_ ?_
          ·rintro _ w_96 ⟨b28, rfl, hS150⟩
           refine ⟨(hS150.se [0, 1, 2, 3, 4, 5, 6, 7, 8, 9, 10, 11, 12, 13]), ?_⟩
           refine rA [5, 8] ?_
           refine rS 101 5 rfl (Ys_append (s := 3) (by' := 24) (i := 14) (nn := r_27.length) (c := c32) (k := 1) (len := (r_27 ++ [x3]).length) (B := B33) (xs := ([x3].flatMap eN0)) (cs' := ((r_27 ++ [x3]).flatMap eN0)) hS150 K11 K10 K46 K20 rfl (by decide) rfl rfl rfl rfl (fm_lenn (l := r_27) enc_Gate_len rfl) rfl (hS150.c 15) (fm_lenn (l := [x3]) enc_Gate_len rfl) (fm_one' (enc := eN0) enc_Gate_one [x3]) (by have := hap3; omega) (by have := hap3; simp only [maxLen]; omega) (fm_app _ _) (app_len (l := r_27) (l' := [x3]) rfl rfl)) ?_ ?_
           ·rintro _ w_97 ⟨B34, c33, rfl, hS151⟩
            refine ⟨(hS151.se [0, 1, 2, 3, 4, 5, 6, 7, 8, 9, 10, 11, 12, 13]), ?_⟩
            refine rq 7 103 (v := .agg #[.slice B34 ((r_27 ++ [x3]).length) c33, vi r_23.Rows, vi r_23.Cols, .slice B31 r_23.Cells.length c30]) rfl (hS151.se [0, 1, 2, 3, 4, 5, 6, 7, 8, 9, 10, 11, 12, 13]) (fun w' hw' => (Y_buildS (zs := [.slice none 0 0, vi 0, vi 0, .slice none 0 0]) (vs := [(0, .slice B34 ((r_27 ++ [x3]).length) c33), (1, gM_ r_23 B31 c30)]) (cs := [.slice B34 ((r_27 ++ [x3]).length) c33, vi r_23.Rows, vi r_23.Cols, .slice B31 r_23.Cells.length c30]) K55 K37 rfl (mpc rfl (mpc rfl mpn)) rfl)) ?_
            refine rA [8] ?_
            refine rS 24 8 rfl (yN [.slice none 0 0, vi 0, vi 0, .slice none 0 0] 4 hS151 K37) ?_ ?_
            ·rintro _ w_98 ⟨b29, rfl, hS152⟩
             have hS152 : ST w0 [] _ [⟨aD b17, 46, [.map none, .slice none 0 0], 2⟩, ⟨aD b21, 46, [.map (some g2), .slice B22 sizes1.length c21], 2⟩, ⟨(aD g2), .mp (mpE vStr vSl D17), [], 0⟩, ⟨B22, 3, (sizes1.flatMap encI), c21 * 1⟩, ⟨B28, 75, (D18.flatMap eN3), c27 * 4⟩, ⟨aD b24, 75, [.slice B25 x2.gates.length c24, vi x2.m.Rows, vi x2.m.Cols, .slice B26 x2.m.Cells.length c25], 4⟩, ⟨B23, 75, (D19.flatMap eN3), c22 * 4⟩, ⟨B27, 56, (r_20.flatMap eN0), c26 * 3⟩, ⟨aD b1, 30, [vi 0, .slice none 0 0], 2⟩, ⟨aD b25, 56, [vi x3.Kind, vi x3.A, vi x3.B], 3⟩, ⟨B30, 91, (r_21.Cells.flatMap eN1), c29 * 5⟩, ⟨aD b26, 50, kM_ r_21 B30 c29, 3⟩, ⟨B31, 91, (r_23.Cells.flatMap eN1), c30 * 5⟩, ⟨aD b27, 50, kM_ r_23 B31 c30, 3⟩, ⟨B34, 56, ((r_27 ++ [x3]).flatMap eN0), c33 * 3⟩, ⟨aD b28, 56, ([x3].flatMap eN0), 1 * 3⟩, ⟨aD b29, 75, [.slice none 0 0, vi 0, vi 0, .slice none 0 0], 4⟩] (⟨B32, ((mgt words6 r_25 []).flatMap eN0)⟩ :: ⟨none, ([].flatMap eN0)⟩ :: ⟨B26, (x2.m.Cells.flatMap eN1)⟩ :: ⟨B25, (x2.gates.flatMap eN0)⟩ :: ⟨none, ([].flatMap eN0)⟩ :: ⟨B21, (r_16.Cells.flatMap eN1)⟩ :: ⟨aD b19, ([].flatMap eN0)⟩ :: ⟨B, (m.Cells.flatMap eN1)⟩ :: ⟨(aD 1), (gl1.flatMap enc_u64)⟩ :: ((D17.flatMap (rowM eN0)) ++ ((D18.flatMap eN2) ++ ((D19.flatMap eN2) ++ [])))) := hS152
             refine ⟨(hS152.se [0, 1, 2, 3, 4, 5, 6, 7, 8, 9, 10, 11, 12, 13]), ?_⟩
             refine rA [9] ?_
             refine rZ 9 rfl (yT 16 4 (aD b29) 75 (.agg #[.slice B34 ((r_27 ++ [x3]).length) c33, vi r_23.Rows, vi r_23.Cols, .slice B31 r_23.Cells.length c30]) [.slice B34 ((r_27 ++ [x3]).length) c33, vi r_23.Rows, vi r_23.Cols, .slice B31 r_23.Cells.length c30] 0 hS152 K42) ?_ ?_
             ·rintro _ w_99 ⟨rfl, hS153⟩
              refine ⟨(hS153.se [0, 1, 2, 3, 4, 5, 6, 7, 8, 9, 10, 11, 12, 13]), ?_⟩
              refine ra_done (by kernel_rfl) ?_
              exact ⟨aD b29, B34, c33, (fc (hf9.g 0 0) (fc (hf9.g 4 1) (fc (hf9.g 9 2) (fc (hf9.g 11 3) (fc (hf9.g 13 4) (fc rfl (fc rfl (fc (hf9.g 45 5) (fc (hf9.g 46 6) (fc (hf9.g 49 7) (fc (hf9.g 50 8) (fc (hf9.g 51 9) (fc (hf9.g 56 10) (fc (hf9.g 57 11) (fc (hf9.g 58 12) fn_))))))))))))))), (hS153.sel [0, 1, 2, 3, 4, 5, 16, 14, 12, 6, 7, 8] rfl rfl)⟩
             exact aN
            exact aN
           refine rS 24 8 rfl (yN [.slice none 0 0, vi 0, vi 0, .slice none 0 0] 4 hS150 K37) ?_ ?_
           ·rintro _ w_100 ⟨b29, rfl, hS154⟩
            refine ⟨(hS154.se [0, 1, 2, 3, 4, 5, 6, 7, 8, 9, 10, 11, 12, 13]), ?_⟩
            refine rA [5] ?_
            refine rS 101 5 rfl (Ys_append (s := 3) (by' := 24) (i := 14) (nn := r_27.length) (c := c32) (k := 1) (len := (r_27 ++ [x3]).length) (B := B33) (xs := ([x3].flatMap eN0)) (cs' := ((r_27 ++ [x3]).flatMap eN0)) hS154 K11 K10 K46 K20 rfl (by decide) rfl rfl rfl rfl (fm_lenn (l := r_27) enc_Gate_len rfl) rfl (hS154.c 15) (fm_lenn (l := [x3]) enc_Gate_len rfl) (fm_one' (enc := eN0) enc_Gate_one [x3]) (by have := hap3; omega) (by have := hap3; simp only [maxLen]; omega) (fm_app _ _) (app_len (l := r_27) (l' := [x3]) rfl rfl)) ?_ ?_
            ·rintro _ w_101 ⟨B34, c33, rfl, hS155⟩
             refine ⟨(hS155.se [0, 1, 2, 3, 4, 5, 6, 7, 8, 9, 10, 11, 12, 13]), ?_⟩
             refine rq 7 103 (v := .agg #[.slice B34 ((r_27 ++ [x3]).length) c33, vi r_23.Rows, vi r_23.Cols, .slice B31 r_23.Cells.length c30]) rfl (hS155.se [0, 1, 2, 3, 4, 5, 6, 7, 8, 9, 10, 11, 12, 13]) (fun w' hw' => (Y_buildS (zs := [.slice none 0 0, vi 0, vi 0, .slice none 0 0]) (vs := [(0, .slice B34 ((r_27 ++ [x3]).length) c33), (1, gM_ r_23 B31 c30)]) (cs := [.slice B34 ((r_27 ++ [x3]).length) c33, vi r_23.Rows, vi r_23.Cols, .slice B31 r_23.Cells.length c30]) K55 K37 rfl (mpc rfl (mpc rfl mpn)) rfl)) ?_
             refine rA [9] ?_
             refine rZ 9 rfl (yT 16 4 (aD b29) 75 (.agg #[.slice B34 ((r_27 ++ [x3]).length) c33, vi r_23.Rows, vi r_23.Cols, .slice B31 r_23.Cells.length c30]) [.slice B34 ((r_27 ++ [x3]).length) c33, vi r_23.Rows, vi r_23.Cols, .slice B31 r_23.Cells.length c30] 0 hS155 K42) ?_ ?_
             ·rintro _ w_102 ⟨rfl, hS156⟩
              have hS156 : ST w0 [] _ [⟨aD b17, 46, [.map none, .slice none 0 0], 2⟩, ⟨aD b21, 46, [.map (some g2), .slice B22 sizes1.length c21], 2⟩, ⟨(aD g2), .mp (mpE vStr vSl D17), [], 0⟩, ⟨B22, 3, (sizes1.flatMap encI), c21 * 1⟩, ⟨B28, 75, (D18.flatMap eN3), c27 * 4⟩, ⟨aD b24, 75, [.slice B25 x2.gates.length c24, vi x2.m.Rows, vi x2.m.Cols, .slice B26 x2.m.Cells.length c25], 4⟩, ⟨B23, 75, (D19.flatMap eN3), c22 * 4⟩, ⟨B27, 56, (r_20.flatMap eN0), c26 * 3⟩, ⟨aD b1, 30, [vi 0, .slice none 0 0], 2⟩, ⟨aD b25, 56, [vi x3.Kind, vi x3.A, vi x3.B], 3⟩, ⟨B30, 91, (r_21.Cells.flatMap eN1), c29 * 5⟩, ⟨aD b26, 50, kM_ r_21 B30 c29, 3⟩, ⟨B31, 91, (r_23.Cells.flatMap eN1), c30 * 5⟩, ⟨aD b27, 50, kM_ r_23 B31 c30, 3⟩, ⟨B34, 56, ((r_27 ++ [x3]).flatMap eN0), c33 * 3⟩, ⟨aD b28, 56, ([x3].flatMap eN0), 1 * 3⟩, ⟨aD b29, 75, [.slice B34 ((r_27 ++ [x3]).length) c33, vi r_23.Rows, vi r_23.Cols, .slice B31 r_23.Cells.length c30], 4⟩] (⟨B32, ((mgt words6 r_25 []).flatMap eN0)⟩ :: ⟨none, ([].flatMap eN0)⟩ :: ⟨B26, (x2.m.Cells.flatMap eN1)⟩ :: ⟨B25, (x2.gates.flatMap eN0)⟩ :: ⟨none, ([].flatMap eN0)⟩ :: ⟨B21, (r_16.Cells.flatMap eN1)⟩ :: ⟨aD b19, ([].flatMap eN0)⟩ :: ⟨B, (m.Cells.flatMap eN1)⟩ :: ⟨(aD 1), (gl1.flatMap enc_u64)⟩ :: ((D17.flatMap (rowM eN0)) ++ ((D18.flatMap eN2) ++ ((D19.flatMap eN2) ++ [])))) := hS156
              refine ⟨(hS156.se [0, 1, 2, 3, 4, 5, 6, 7, 8, 9, 10, 11, 12, 13]), ?_⟩
              refine ra_done (by kernel_rfl) ?_
              exact ⟨aD b29, B34, c33, (fc (hf9.g 0 0) (fc (hf9.g 4 1) (fc (hf9.g 9 2) (fc (hf9.g 11 3) (fc (hf9.g 13 4) (fc rfl (fc rfl (fc (hf9.g 45 5) (fc (hf9.g 46 6) (fc (hf9.g 49 7) (fc (hf9.g 50 8) (fc (hf9.g 51 9) (fc (hf9.g 56 10) (fc (hf9.g 57 11) (fc (hf9.g 58 12) fn_))))))))))))))), (hS156.sel [0, 1, 2, 3, 4, 5, 16, 14, 12, 6, 7, 8] rfl rfl)⟩
             exact aN
            exact aN
           exact aN
          refine rS 24 8 rfl (yN [.slice none 0 0, vi 0, vi 0, .slice none 0 0] 4 hS149 K37) ?_ ?_
          ·rintro _ w_103 ⟨b29, rfl, hS157⟩
           refine ⟨(hS157.se [0, 1, 2, 3, 4, 5, 6, 7, 8, 9, 10, 11, 12, 13]), ?_⟩
           refine rA [4] ?_
           refine rS 100 4 rfl (Ys_bslice (s := 3) (len := 1) (vs := [(0, .agg #[vi x3.Kind, vi x3.A, vi x3.B])]) (cs := [vi x3.Kind, vi x3.A, vi x3.B]) (zs := [vi 0, vi 0, vi 0]) (m := 3) hS157 K11 K10 K52 rfl (mpc rfl mpn) rfl rfl rfl (by kernel_rfl) (by kernel_rfl) rfl) ?_ ?_
           ·rintro _ w_104 ⟨b28, rfl, hS158⟩
            refine ⟨(hS158.se [0, 1, 2, 3, 4, 5, 6, 7, 8, 9, 10, 11, 12, 13]), ?_⟩
            refine rA [5] ?_
            refine rS 101 5 rfl (Ys_append (s := 3) (by' := 24) (i := 14) (nn := r_27.length) (c := c32) (k := 1) (len := (r_27 ++ [x3]).length) (B := B33) (xs := ([x3].flatMap eN0)) (cs' := ((r_27 ++ [x3]).flatMap eN0)) hS158 K11 K10 K46 K20 rfl (by decide) rfl rfl rfl rfl (fm_lenn (l := r_27) enc_Gate_len rfl) rfl (hS158.c 16) (fm_lenn (l := [x3]) enc_Gate_len rfl) (fm_one' (enc := eN0) enc_Gate_one [x3]) (by have := hap3; omega) (by have := hap3; simp only [maxLen]; omega) (fm_app _ _) (app_len (l := r_27) (l' := [x3]) rfl rfl)) ?_ ?_
            ·rintro _ w_105 ⟨B34, c33, rfl, hS159⟩
             refine ⟨(hS159.se [0, 1, 2, 3, 4, 5, 6, 7, 8, 9, 10, 11, 12, 13]), ?_⟩
             refine rq 7 103 (v := .agg #[.slice B34 ((r_27 ++ [x3]).length) c33, vi r_23.Rows, vi r_23.Cols, .slice B31 r_23.Cells.length c30]) rfl (hS159.se [0, 1, 2, 3, 4, 5, 6, 7, 8, 9, 10, 11, 12, 13]) (fun w' hw' => (Y_buildS (zs := [.slice none 0 0, vi 0, vi 0, .slice none 0 0]) (vs := [(0, .slice B34 ((r_27 ++ [x3]).length) c33), (1, gM_ r_23 B31 c30)]) (cs := [.slice B34 ((r_27 ++ [x3]).length) c33, vi r_23.Rows, vi r_23.Cols, .slice B31 r_23.Cells.length c30]) K55 K37 rfl (mpc rfl (mpc rfl mpn)) rfl)) ?_
             refine rA [9] ?_
             refine rZ 9 rfl (yT 15 4 (aD b29) 75 (.agg #[.slice B34 ((r_27 ++ [x3]).length) c33, vi r_23.Rows, vi r_23.Cols, .slice B31 r_23.Cells.length c30]) [.slice B34 ((r_27 ++ [x3]).length) c33, vi r_23.Rows, vi r_23.Cols, .slice B31 r_23.Cells.length c30] 0 hS159 K42) ?_ ?_
             ·rintro _ w_106 ⟨rfl, hS160⟩
              have hS160 : ST w0 [] _ [⟨aD b17, 46, [.map none, .slice none 0 0], 2⟩, ⟨aD b21, 46, [.map (some g2), .slice B22 sizes1.length c21], 2⟩, ⟨(aD g2), .mp (mpE vStr vSl D17), [], 0⟩, ⟨B22, 3, (sizes1.flatMap encI), c21 * 1⟩, ⟨B28, 75, (D18.flatMap eN3), c27 * 4⟩, ⟨aD b24, 75, [.slice B25 x2.gates.length c24, vi x2.m.Rows, vi x2.m.Cols, .slice B26 x2.m.Cells.length c25], 4⟩, ⟨B23, 75, (D19.flatMap eN3), c22 * 4⟩, ⟨B27, 56, (r_20.flatMap eN0), c26 * 3⟩, ⟨aD b1, 30, [vi 0, .slice none 0 0], 2⟩, ⟨aD b25, 56, [vi x3.Kind, vi x3.A, vi x3.B], 3⟩, ⟨B30, 91, (r_21.Cells.flatMap eN1), c29 * 5⟩, ⟨aD b26, 50, kM_ r_21 B30 c29, 3⟩, ⟨B31, 91, (r_23.Cells.flatMap eN1), c30 * 5⟩, ⟨aD b27, 50, kM_ r_23 B31 c30, 3⟩, ⟨B34, 56, ((r_27 ++ [x3]).flatMap eN0), c33 * 3⟩, ⟨aD b29, 75, [.slice B34 ((r_27 ++ [x3]).length) c33, vi r_23.Rows, vi r_23.Cols, .slice B31 r_23.Cells.length c30], 4⟩, ⟨aD b28, 56, ([x3].flatMap eN0), 1 * 3⟩] (⟨B32, ((mgt words6 r_25 []).flatMap eN0)⟩ :: ⟨none, ([].flatMap eN0)⟩ :: ⟨B26, (x2.m.Cells.flatMap eN1)⟩ :: ⟨B25, (x2.gates.flatMap eN0)⟩ :: ⟨none, ([].flatMap eN0)⟩ :: ⟨B21, (r_16.Cells.flatMap eN1)⟩ :: ⟨aD b19, ([].flatMap eN0)⟩ :: ⟨B, (m.Cells.flatMap eN1)⟩ :: ⟨(aD 1), (gl1.flatMap enc_u64)⟩ :: ((D17.flatMap (rowM eN0)) ++ ((D18.flatMap eN2) ++ ((D19.flatMap eN2) ++ [])))) := hS160
              refine ⟨(hS160.se [0, 1, 2, 3, 4, 5, 6, 7, 8, 9, 10, 11, 12, 13]), ?_⟩
              refine ra_done (by kernel_rfl) ?_
              exact ⟨aD b29, B34, c33, (fc (hf9.g 0 0) (fc (hf9.g 4 1) (fc (hf9.g 9 2) (fc (hf9.g 11 3) (fc (hf9.g 13 4) (fc rfl (fc rfl (fc (hf9.g 45 5) (fc (hf9.g 46 6) (fc (hf9.g 49 7) (fc (hf9.g 50 8) (fc (hf9.g 51 9) (fc (hf9.g 56 10) (fc (hf9.g 57 11) (fc (hf9.g 58 12) fn_))))))))))))))), (hS160.sel [0, 1, 2, 3, 4, 5, 15, 14, 12, 6, 7, 8] rfl rfl)⟩
             exact aN
            exact aN
           exact aN
          exact aN
         refine rS 100 4 rfl (Ys_bslice (s := 3) (len := 1) (vs := [(0, .agg #[vi x3.Kind, vi x3.A, vi x3.B])]) (cs := [vi x3.Kind, vi x3.A, vi x3.B]) (zs := [vi 0, vi 0, vi 0]) (m := 3) hS148 K11 K10 K52 rfl (mpc rfl mpn) rfl rfl rfl (by kernel_rfl) (by kernel_rfl) rfl) ?_ ?_
         ·rintro _ w_107 ⟨b28, rfl, hS161⟩
          refine ⟨(hS161.se [0, 1, 2, 3, 4, 5, 6, 7, 8, 9, 10, 11, 12, 13]), ?_⟩
          refine rA [2, 8] ?_
          refine rC 98 2 rfl (yC [.slice B25 x2.gates.length c24] K79 (c_slices_Clone_impl_Gate_impl_Gate x2.gates B25 c24 x2.gates.length _ rfl (hS161.inn0 [(true, 3)] rfl) hc15)) ?_ ?_
          ·rintro _ w_108 ⟨B33, c32, rfl, hd20⟩
           have hS162 := hS161.out0 hd20
           refine ⟨(hS162.se [0, 1, 2, 3, 4, 5, 6, 7, 8, 9, 10, 11, 12, 13]), ?_⟩
           refine rA [5, 8] ?_
           refine rS 101 5 rfl (Ys_append (s := 3) (by' := 24) (i := 15) (nn := r_27.length) (c := c32) (k := 1) (len := (r_27 ++ [x3]).length) (B := B33) (xs := ([x3].flatMap eN0)) (cs' := ((r_27 ++ [x3]).flatMap eN0)) hS162 K11 K10 K46 K20 rfl (by decide) rfl rfl rfl rfl (fm_lenn (l := r_27) enc_Gate_len rfl) rfl (hS162.c 14) (fm_lenn (l := [x3]) enc_Gate_len rfl) (fm_one' (enc := eN0) enc_Gate_one [x3]) (by have := hap3; omega) (by have := hap3; simp only [maxLen]; omega) (fm_app _ _) (app_len (l := r_27) (l' := [x3]) rfl rfl)) ?_ ?_
           ·rintro _ w_109 ⟨B34, c33, rfl, hS163⟩
            refine ⟨(hS163.se [0, 1, 2, 3, 4, 5, 6, 7, 8, 9, 10, 11, 12, 13]), ?_⟩
            refine rq 7 103 (v := .agg #[.slice B34 ((r_27 ++ [x3]).length) c33, vi r_23.Rows, vi r_23.Cols, .slice B31 r_23.Cells.length c30]) rfl (hS163.se [0, 1, 2, 3, 4, 5, 6, 7, 8, 9, 10, 11, 12, 13]) (fun w' hw' => (Y_buildS (zs := [.slice none 0 0, vi 0, vi 0, .slice none 0 0]) (vs := [(0, .slice B34 ((r_27 ++ [x3]).length) c33), (1, gM_ r_23 B31 c30)]) (cs := [.slice B34 ((r_27 ++ [x3]).length) c33, vi r_23.Rows, vi r_23.Cols, .slice B31 r_23.Cells.length c30]) K55 K37 rfl (mpc rfl (mpc rfl mpn)) rfl)) ?_
            refine rA [8] ?_
            refine rS 24 8 rfl (yN [.slice none 0 0, vi 0, vi 0, .slice none 0 0] 4 hS163 K37) ?_ ?_
            ·rintro _ w_110 ⟨b29, rfl, hS164⟩
             have hS164 : ST w0 [] _ [⟨aD b17, 46, [.map none, .slice none 0 0], 2⟩, ⟨aD b21, 46, [.map (some g2), .slice B22 sizes1.length c21], 2⟩, ⟨(aD g2), .mp (mpE vStr vSl D17), [], 0⟩, ⟨B22, 3, (sizes1.flatMap encI), c21 * 1⟩, ⟨B28, 75, (D18.flatMap eN3), c27 * 4⟩, ⟨aD b24, 75, [.slice B25 x2.gates.length c24, vi x2.m.Rows, vi x2.m.Cols, .slice B26 x2.m.Cells.length c25], 4⟩, ⟨B23, 75, (D19.flatMap eN3), c22 * 4⟩, ⟨B27, 56, (r_20.flatMap eN0), c26 * 3⟩, ⟨aD b1, 30, [vi 0, .slice none 0 0], 2⟩, ⟨aD b25, 56, [vi x3.Kind, vi x3.A, vi x3.B], 3⟩, ⟨B30, 91, (r_21.Cells.flatMap eN1), c29 * 5⟩, ⟨aD b26, 50, kM_ r_21 B30 c29, 3⟩, ⟨B31, 91, (r_23.Cells.flatMap eN1), c30 * 5⟩, ⟨aD b27, 50, kM_ r_23 B31 c30, 3⟩, ⟨aD b28, 56, ([x3].flatMap eN0), 1 * 3⟩, ⟨B34, 56, ((r_27 ++ [x3]).flatMap eN0), c33 * 3⟩, ⟨aD b29, 75, [.slice none 0 0, vi 0, vi 0, .slice none 0 0], 4⟩] (⟨B32, ((mgt words6 r_25 []).flatMap eN0)⟩ :: ⟨none, ([].flatMap eN0)⟩ :: ⟨B26, (x2.m.Cells.flatMap eN1)⟩ :: ⟨B25, (x2.gates.flatMap eN0)⟩ :: ⟨none, ([].flatMap eN0)⟩ :: ⟨B21, (r_16.Cells.flatMap eN1)⟩ :: ⟨aD b19, ([].flatMap eN0)⟩ :: ⟨B, (m.Cells.flatMap eN1)⟩ :: ⟨(aD 1), (gl1.flatMap enc_u64)⟩ :: ((D17.flatMap (rowM eN0)) ++ ((D18.flatMap eN2) ++ ((D19.flatMap eN2) ++ [])))) := hS164
             refine ⟨(hS164.se [0, 1, 2, 3, 4, 5, 6, 7, 8, 9, 10, 11, 12, 13]), ?_⟩
             refine rA [9] ?_
             refine rZ 9 rfl (yT 16 4 (aD b29) 75 (.agg #[.slice B34 ((r_27 ++ [x3]).length) c33, vi r_23.Rows, vi r_23.Cols, .slice B31 r_23.Cells.length c30]) [.slice B34 ((r_27 ++ [x3]).length) c33, vi r_23.Rows, vi r_23.Cols, .slice B31 r_23.Cells.length c30] 0 hS164 K42) ?_ ?_
             ·rintro _ w_111 ⟨rfl, hS165⟩
              refine ⟨(hS165.se [0, 1, 2, 3, 4, 5, 6, 7, 8, 9, 10, 11, 12, 13]), ?_⟩
              refine ra_done (by kernel_rfl) ?_
              exact ⟨aD b29, B34, c33, (fc (hf9.g 0 0) (fc (hf9.g 4 1) (fc (hf9.g 9 2) (fc (hf9.g 11 3) (fc (hf9.g 13 4) (fc rfl (fc rfl (fc (hf9.g 45 5) (fc (hf9.g 46 6) (fc (hf9.g 49 7) (fc (hf9.g 50 8) (fc (hf9.g 51 9) (fc (hf9.g 56 10) (fc (hf9.g 57 11) (fc (hf9.g 58 12) fn_))))))))))))))), (hS165.sel [0, 1, 2, 3, 4, 5, 16, 15, 12, 6, 7, 8] rfl rfl)⟩
             exact aN
            exact aN
           refine rS 24 8 rfl (yN [.slice none 0 0, vi 0, vi 0, .slice none 0 0] 4 hS162 K37) ?_ ?_
           ·rintro _ w_112 ⟨b29, rfl, hS166⟩
            refine ⟨(hS166.se [0, 1, 2, 3, 4, 5, 6, 7, 8, 9, 10, 11, 12, 13]), ?_⟩
            refine rA [5] ?_
            refine rS 101 5 rfl (Ys_append (s := 3) (by' := 24) (i := 15) (nn := r_27.length) (c := c32) (k := 1) (len := (r_27 ++ [x3]).length) (B := B33) (xs := ([x3].flatMap eN0)) (cs' := ((r_27 ++ [x3]).flatMap eN0)) hS166 K11 K10 K46 K20 rfl (by decide) rfl rfl rfl rfl (fm_lenn (l := r_27) enc_Gate_len rfl) rfl (hS166.c 14) (fm_lenn (l := [x3]) enc_Gate_len rfl) (fm_one' (enc := eN0) enc_Gate_one [x3]) (by have := hap3; omega) (by have := hap3; simp only [maxLen]; omega) (fm_app _ _) (app_len (l := r_27) (l' := [x3]) rfl rfl)) ?_ ?_
            ·rintro _ w_113 ⟨B34, c33, rfl, hS167⟩
             refine ⟨(hS167.se [0, 1, 2, 3, 4, 5, 6, 7, 8, 9, 10, 11, 12, 13]), ?_⟩
             refine rq 7 103 (v := .agg #[.slice B34 ((r_27 ++ [x3]).length) c33, vi r_23.Rows, vi r_23.Cols, .slice B31 r_23.Cells.length c30]) rfl (hS167.se [0, 1, 2, 3, 4, 5, 6, 7, 8, 9, 10, 11, 12, 13]) (fun w' hw' => (Y_buildS (zs := [.slice none 0 0, vi 0, vi 0, .slice none 0 0]) (vs := [(0, .slice B34 ((r_27 ++ [x3]).length) c33), (1, gM_ r_23 B31 c30)]) (cs := [.slice B34 ((r_27 ++ [x3]).length) c33, vi r_23.Rows, vi r_23.Cols, .slice B31 r_23.Cells.length c30]) K55 K37 rfl (mpc rfl (mpc rfl mpn)) rfl)) ?_
             refine rA [9] ?_
             refine rZ 9 rfl (yT 16 4 (aD b29) 75 (.agg #[.slice B34 ((r_27 ++ [x3]).length) c33, vi r_23.Rows, vi r_23.Cols, .slice B31 r_23.Cells.length c30]) [.slice B34 ((r_27 ++ [x3]).length) c33, vi r_23.Rows, vi r_23.Cols, .slice B31 r_23.Cells.length c30] 0 hS167 K42) ?_ ?_
             ·rintro _ w_114 ⟨rfl, hS168⟩
              have hS168 : ST w0 [] _ [⟨aD b17, 46, [.map none, .slice none 0 0], 2⟩, ⟨aD b21, 46, [.map (some g2), .slice B22 sizes1.length c21], 2⟩, ⟨(aD g2), .mp (mpE vStr vSl D17), [], 0⟩, ⟨B22, 3, (sizes1.flatMap encI), c21 * 1⟩, ⟨B28, 75, (D18.flatMap eN3), c27 * 4⟩, ⟨aD b24, 75, [.slice B25 x2.gates.length c24, vi x2.m.Rows, vi x2.m.Cols, .slice B26 x2.m.Cells.length c25], 4⟩, ⟨B23, 75, (D19.flatMap eN3), c22 * 4⟩, ⟨B27, 56, (r_20.flatMap eN0), c26 * 3⟩, ⟨aD b1, 30, [vi 0, .slice none 0 0], 2⟩, ⟨aD b25, 56, [vi x3.Kind, vi x3.A, vi x3.B], 3⟩, ⟨B30, 91, (r_21.Cells.flatMap eN1), c29 * 5⟩, ⟨aD b26, 50, kM_ r_21 B30 c29, 3⟩, ⟨B31, 91, (r_23.Cells.flatMap eN1), c30 * 5⟩, ⟨aD b27, 50, kM_ r_23 B31 c30, 3⟩, ⟨aD b28, 56, ([x3].flatMap eN0), 1 * 3⟩, ⟨B34, 56, ((r_27 ++ [x3]).flatMap eN0), c33 * 3⟩, ⟨aD b29, 75, [.slice B34 ((r_27 ++ [x3]).length) c33, vi r_23.Rows, vi r_23.Cols, .slice B31 r_23.Cells.length c30], 4⟩] (⟨B32, ((mgt words6 r_25 []).flatMap eN0)⟩ :: ⟨none, ([].flatMap eN0)⟩ :: ⟨B26, (x2.m.Cells.flatMap eN1)⟩ :: ⟨B25, (x2.gates.flatMap eN0)⟩ :: ⟨none, ([].flatMap eN0)⟩ :: ⟨B21, (r_16.Cells.flatMap eN1)⟩ :: ⟨aD b19, ([].flatMap eN0)⟩ :: ⟨B, (m.Cells.flatMap eN1)⟩ :: ⟨(aD 1), (gl1.flatMap enc_u64)⟩ :: ((D17.flatMap (rowM eN0)) ++ ((D18.flatMap eN2) ++ ((D19.flatMap eN2) ++ [])))) := hS168
              refine ⟨(hS168.se [0, 1, 2, 3, 4, 5, 6, 7, 8, 9, 10, 11, 12, 13]), ?_⟩
              refine ra_done (by kernel_rfl) ?_
              exact ⟨aD b29, B34, c33, (fc (hf9.g 0 0) (fc (hf9.g 4 1) (fc (hf9.g 9 2) (fc (hf9.g 11 3) (fc (hf9.g 13 4) (fc rfl (fc rfl (fc (hf9.g 45 5) (fc (hf9.g 46 6) (fc (hf9.g 49 7) (fc (hf9.g 50 8) (fc (hf9.g 51 9) (fc (hf9.g 56 10) (fc (hf9.g 57 11) (fc (hf9.g 58 12) fn_))))))))))))))), (hS168.sel [0, 1, 2, 3, 4, 5, 16, 15, 12, 6, 7, 8] rfl rfl)⟩
             exact aN
            exact aN
           exact aN
          refine rS 24 8 rfl (yN [.slice none 0 0, vi 0, vi 0, .slice none 0 0] 4 hS161 K37) ?_ ?_
          ·rintro _ w_115 ⟨b29, rfl, hS169⟩
           refine ⟨(hS169.se [0, 1, 2, 3, 4, 5, 6, 7, 8, 9, 10, 11, 12, 13]), ?_⟩
           refine rA [2] ?_
           refine rC 98 2 rfl (yC [.slice B25 x2.gates.length c24] K79 (c_slices_Clone_impl_Gate_impl_Gate x2.gates B25 c24 x2.gates.length _ rfl (hS169.inn0 [(true, 3)] rfl) hc15)) ?_ ?_
           ·rintro _ w_116 ⟨B33, c32, rfl, hd21⟩
            have hS170 := hS169.out0 hd21
            refine ⟨(hS170.se [0, 1, 2, 3, 4, 5, 6, 7, 8, 9, 10, 11, 12, 13]), ?_⟩
            refine rA [5] ?_
            refine rS 101 5 rfl (Ys_append (s := 3) (by' := 24) (i := 16) (nn := r_27.length) (c := c32) (k := 1) (len := (r_27 ++ [x3]).length) (B := B33) (xs := ([x3].flatMap eN0)) (cs' := ((r_27 ++ [x3]).flatMap eN0)) hS170 K11 K10 K46 K20 rfl (by decide) rfl rfl rfl rfl (fm_lenn (l := r_27) enc_Gate_len rfl) rfl (hS170.c 14) (fm_lenn (l := [x3]) enc_Gate_len rfl) (fm_one' (enc := eN0) enc_Gate_one [x3]) (by have := hap3; omega) (by have := hap3; simp only [maxLen]; omega) (fm_app _ _) (app_len (l := r_27) (l' := [x3]) rfl rfl)) ?_ ?_
            ·rintro _ w_117 ⟨B34, c33, rfl, hS171⟩
             refine ⟨(hS171.se [0, 1, 2, 3, 4, 5, 6, 7, 8, 9, 10, 11, 12, 13]), ?_⟩
             refine rq 7 103 (v := .agg #[.slice B34 ((r_27 ++ [x3]).length) c33, vi r_23.Rows, vi r_23.Cols, .slice B31 r_23.Cells.length c30]) rfl (hS171.se [0, 1, 2, 3, 4, 5, 6, 7, 8, 9, 10, 11, 12, 13]) (fun w' hw' => (Y_buildS (zs := [.slice none 0 0, vi 0, vi 0, .slice none 0 0]) (vs := [(0, .slice B34 ((r_27 ++ [x3]).length) c33), (1, gM_ r_23 B31 c30)]) (cs := [.slice B34 ((r_27 ++ [x3]).length) c33, vi r_23.Rows, vi r_23.Cols, .slice B31 r_23.Cells.length c30]) K55 K37 rfl (mpc rfl (mpc rfl mpn)) rfl)) ?_
             refine rA [9] ?_
             refine rZ 9 rfl (yT 15 4 (aD b29) 75 (.agg #[.slice B34 ((r_27 ++ [x3]).length) c33, vi r_23.Rows, vi r_23.Cols, .slice B31 r_23.Cells.length c30]) [.slice B34 ((r_27 ++ [x3]).length) c33, vi r_23.Rows, vi r_23.Cols, .slice B31 r_23.Cells.length c30] 0 hS171 K42) ?_ ?_
             ·rintro _ w_118 ⟨rfl, hS172⟩
              have hS172 : ST w0 [] _ [⟨aD b17, 46, [.map none, .slice none 0 0], 2⟩, ⟨aD b21, 46, [.map (some g2), .slice B22 sizes1.length c21], 2⟩, ⟨(aD g2), .mp (mpE vStr vSl D17), [], 0⟩, ⟨B22, 3, (sizes1.flatMap encI), c21 * 1⟩, ⟨B28, 75, (D18.flatMap eN3), c27 * 4⟩, ⟨aD b24, 75, [.slice B25 x2.gates.length c24, vi x2.m.Rows, vi x2.m.Cols, .slice B26 x2.m.Cells.length c25], 4⟩, ⟨B23, 75, (D19.flatMap eN3), c22 * 4⟩, ⟨B27, 56, (r_20.flatMap eN0), c26 * 3⟩, ⟨aD b1, 30, [vi 0, .slice none 0 0], 2⟩, ⟨aD b25, 56, [vi x3.Kind, vi x3.A, vi x3.B], 3⟩, ⟨B30, 91, (r_21.Cells.flatMap eN1), c29 * 5⟩, ⟨aD b26, 50, kM_ r_21 B30 c29, 3⟩, ⟨B31, 91, (r_23.Cells.flatMap eN1), c30 * 5⟩, ⟨aD b27, 50, kM_ r_23 B31 c30, 3⟩, ⟨aD b28, 56, ([x3].flatMap eN0), 1 * 3⟩, ⟨aD b29, 75, [.slice B34 ((r_27 ++ [x3]).length) c33, vi r_23.Rows, vi r_23.Cols, .slice B31 r_23.Cells.length c30], 4⟩, ⟨B34, 56, ((r_27 ++ [x3]).flatMap eN0), c33 * 3⟩] (⟨B32, ((mgt words6 r_25 []).flatMap eN0)⟩ :: ⟨none, ([].flatMap eN0)⟩ :: ⟨B26, (x2.m.Cells.flatMap eN1)⟩ :: ⟨B25, (x2.gates.flatMap eN0)⟩ :: ⟨none, ([].flatMap eN0)⟩ :: ⟨B21, (r_16.Cells.flatMap eN1)⟩ :: ⟨aD b19, ([].flatMap eN0)⟩ :: ⟨B, (m.Cells.flatMap eN1)⟩ :: ⟨(aD 1), (gl1.flatMap enc_u64)⟩ :: ((D17.flatMap (rowM eN0)) ++ ((D18.flatMap eN2) ++ ((D19.flatMap eN2) ++ [])))) := hS172
              refine ⟨(hS172.se [0, 1, 2, 3, 4, 5, 6, 7, 8, 9, 10, 11, 12, 13]), ?_⟩
              refine ra_done (by kernel_rfl) ?_
              exact ⟨aD b29, B34, c33, (fc (hf9.g 0 0) (fc (hf9.g 4 1) (fc (hf9.g 9 2) (fc (hf9.g 11 3) (fc (hf9.g 13 4) (fc rfl (fc rfl (fc (hf9.g 45 5) (fc (hf9.g 46 6) (fc (hf9.g 49 7) (fc (hf9.g 50 8) (fc (hf9.g 51 9) (fc (hf9.g 56 10) (fc (hf9.g 57 11) (fc (hf9.g 58 12) fn_))))))))))))))), (hS172.sel [0, 1, 2, 3, 4, 5, 15, 16, 12, 6, 7, 8] rfl rfl)⟩
             exact aN
            exact aN
           exact aN
          exact aN
         refine rS 24 8 rfl (yN [.slice none 0 0, vi 0, vi 0, .slice none 0 0] 4 hS148 K37) ?_ ?_
         ·rintro _ w_119 ⟨b29, rfl, hS173⟩
          refine ⟨(hS173.se [0, 1, 2, 3, 4, 5, 6, 7, 8, 9, 10, 11, 12, 13]), ?_⟩
          refine rA [2, 4] ?_
          refine rC 98 2 rfl (yC [.slice B25 x2.gates.length c24] K79 (c_slices_Clone_impl_Gate_impl_Gate x2.gates B25 c24 x2.gates.length _ rfl (hS173.inn0 [(true, 3)] rfl) hc15)) ?_ ?_
          ·rintro _ w_120 ⟨B33, c32, rfl, hd22⟩
           have hS174 := hS173.out0 hd22
           refine ⟨(hS174.se [0, 1, 2, 3, 4, 5, 6, 7, 8, 9, 10, 11, 12, 13]), ?_⟩
           refine rA [4] ?_
           refine rS 100 4 rfl (Ys_bslice (s := 3) (len := 1) (vs := [(0, .agg #[vi x3.Kind, vi x3.A, vi x3.B])]) (cs := [vi x3.Kind, vi x3.A, vi x3.B]) (zs := [vi 0, vi 0, vi 0]) (m := 3) hS174 K11 K10 K52 rfl (mpc rfl mpn) rfl rfl rfl (by kernel_rfl) (by kernel_rfl) rfl) ?_ ?_
           ·rintro _ w_121 ⟨b28, rfl, hS175⟩
            refine ⟨(hS175.se [0, 1, 2, 3, 4, 5, 6, 7, 8, 9, 10, 11, 12, 13]), ?_⟩
            refine rA [5] ?_
            refine rS 101 5 rfl (Ys_append (s := 3) (by' := 24) (i := 15) (nn := r_27.length) (c := c32) (k := 1) (len := (r_27 ++ [x3]).length) (B := B33) (xs := ([x3].flatMap eN0)) (cs' := ((r_27 ++ [x3]).flatMap eN0)) hS175 K11 K10 K46 K20 rfl (by decide) rfl rfl rfl rfl (fm_lenn (l := r_27) enc_Gate_len rfl) rfl (hS175.c 16) (fm_lenn (l := [x3]) enc_Gate_len rfl) (fm_one' (enc := eN0) enc_Gate_one [x3]) (by have := hap3; omega) (by have := hap3; simp only [maxLen]; omega) (fm_app _ _) (app_len (l := r_27) (l' := [x3]) rfl rfl)) ?_ ?_
            ·rintro _ w_122 ⟨B34, c33, rfl, hS176⟩
             have hS176 : ST w0 [] _ [⟨aD b17, 46, [.map none, .slice none 0 0], 2⟩, ⟨aD b21, 46, [.map (some g2), .slice B22 sizes1.length c21], 2⟩, ⟨(aD g2), .mp (mpE vStr vSl D17), [], 0⟩, ⟨B22, 3, (sizes1.flatMap encI), c21 * 1⟩, ⟨B28, 75, (D18.flatMap eN3), c27 * 4⟩, ⟨aD b24, 75, [.slice B25 x2.gates.length c24, vi x2.m.Rows, vi x2.m.Cols, .slice B26 x2.m.Cells.length c25], 4⟩, ⟨B23, 75, (D19.flatMap eN3), c22 * 4⟩, ⟨B27, 56, (r_20.flatMap eN0), c26 * 3⟩, ⟨aD b1, 30, [vi 0, .slice none 0 0], 2⟩, ⟨aD b25, 56, [vi x3.Kind, vi x3.A, vi x3.B], 3⟩, ⟨B30, 91, (r_21.Cells.flatMap eN1), c29 * 5⟩, ⟨aD b26, 50, kM_ r_21 B30 c29, 3⟩, ⟨B31, 91, (r_23.Cells.flatMap eN1), c30 * 5⟩, ⟨aD b27, 50, kM_ r_23 B31 c30, 3⟩, ⟨aD b29, 75, [.slice none 0 0, vi 0, vi 0, .slice none 0 0], 4⟩, ⟨B34, 56, ((r_27 ++ [x3]).flatMap eN0), c33 * 3⟩, ⟨aD b28, 56, ([x3].flatMap eN0), 1 * 3⟩] (⟨B32, ((mgt words6 r_25 []).flatMap eN0)⟩ :: ⟨none, ([].flatMap eN0)⟩ :: ⟨B26, (x2.m.Cells.flatMap eN1)⟩ :: ⟨B25, (x2.gates.flatMap eN0)⟩ :: ⟨none, ([].flatMap eN0)⟩ :: ⟨B21, (r_16.Cells.flatMap eN1)⟩ :: ⟨aD b19, ([].flatMap eN0)⟩ :: ⟨B, (m.Cells.flatMap eN1)⟩ :: ⟨(aD 1), (gl1.flatMap enc_u64)⟩ :: ((D17.flatMap (rowM eN0)) ++ ((D18.flatMap eN2) ++ ((D19.flatMap eN2) ++ [])))) := hS176
             refine ⟨(hS176.se [0, 1, 2, 3, 4, 5, 6, 7, 8, 9, 10, 11, 12, 13]), ?_⟩
             refine rq 7 103 (v := .agg #[.slice B34 ((r_27 ++ [x3]).length) c33, vi r_23.Rows, vi r_23.Cols, .slice B31 r_23.Cells.length c30]) rfl (hS176.se [0, 1, 2, 3, 4, 5, 6, 7, 8, 9, 10, 11, 12, 13]) (fun w' hw' => (Y_buildS (zs := [.slice none 0 0, vi 0, vi 0, .slice none 0 0]) (vs := [(0, .slice B34 ((r_27 ++ [x3]).length) c33), (1, gM_ r_23 B31 c30)]) (cs := [.slice B34 ((r_27 ++ [x3]).length) c33, vi r_23.Rows, vi r_23.Cols, .slice B31 r_23.Cells.length c30]) K55 K37 rfl (mpc rfl (mpc rfl mpn)) rfl)) ?_
             refine rA [9] ?_
             refine rZ 9 rfl (yT 14 4 (aD b29) 75 (.agg #[.slice B34 ((r_27 ++ [x3]).length) c33, vi r_23.Rows, vi r_23.Cols, .slice B31 r_23.Cells.length c30]) [.slice B34 ((r_27 ++ [x3]).length) c33, vi r_23.Rows, vi r_23.Cols, .slice B31 r_23.Cells.length c30] 0 hS176 K42) ?_ ?_
             ·rintro _ w_123 ⟨rfl, hS177⟩
              refine ⟨(hS177.se [0, 1, 2, 3, 4, 5, 6, 7, 8, 9, 10, 11, 12, 13]), ?_⟩
              refine ra_done (by kernel_rfl) ?_
              exact ⟨aD b29, B34, c33, (fc (hf9.g 0 0) (fc (hf9.g 4 1) (fc (hf9.g 9 2) (fc (hf9.g 11 3) (fc (hf9.g 13 4) (fc rfl (fc rfl (fc (hf9.g 45 5) (fc (hf9.g 46 6) (fc (hf9.g 49 7) (fc (hf9.g 50 8) (fc (hf9.g 51 9) (fc (hf9.g 56 10) (fc (hf9.g 57 11) (fc (hf9.g 58 12) fn_))))))))))))))), (hS177.sel [0, 1, 2, 3, 4, 5, 14, 15, 12, 6, 7, 8] rfl rfl)⟩
             exact aN
            exact aN
           exact aN
          refine rS 100 4 rfl (Ys_bslice (s := 3) (len := 1) (vs := [(0, .agg #[vi x3.Kind, vi x3.A, vi x3.B])]) (cs := [vi x3.Kind, vi x3.A, vi x3.B]) (zs := [vi 0, vi 0, vi 0]) (m := 3) hS173 K11 K10 K52 rfl (mpc rfl mpn) rfl rfl rfl (by kernel_rfl) (by kernel_rfl) rfl) ?_ ?_
          ·rintro _ w_124 ⟨b28, rfl, hS178⟩
           refine ⟨(hS178.se [0, 1, 2, 3, 4, 5, 6, 7, 8, 9, 10, 11, 12, 13]), ?_⟩
           refine rA [2] ?_
           refine rC 98 2 rfl (yC [.slice B25 x2.gates.length c24] K79 (c_slices_Clone_impl_Gate_impl_Gate x2.gates B25 c24 x2.gates.length _ rfl (hS178.inn0 [(true, 3)] rfl) hc15)) ?_ ?_
           ·rintro _ w_125 ⟨B33, c32, rfl, hd23⟩
            have hS179 := hS178.out0 hd23
            refine ⟨(hS179.se [0, 1, 2, 3, 4, 5, 6, 7, 8, 9, 10, 11, 12, 13]), ?_⟩
            refine rA [5] ?_
            refine rS 101 5 rfl (Ys_append (s := 3) (by' := 24) (i := 16) (nn := r_27.length) (c := c32) (k := 1) (len := (r_27 ++ [x3]).length) (B := B33) (xs := ([x3].flatMap eN0)) (cs' := ((r_27 ++ [x3]).flatMap eN0)) hS179 K11 K10 K46 K20 rfl (by decide) rfl rfl rfl rfl (fm_lenn (l := r_27) enc_Gate_len rfl) rfl (hS179.c 15) (fm_lenn (l := [x3]) enc_Gate_len rfl) (fm_one' (enc := eN0) enc_Gate_one [x3]) (by have := hap3; omega) (by have := hap3; simp only [maxLen]; omega) (fm_app _ _) (app_len (l := r_27) (l' := [x3]) rfl rfl)) ?_ ?_
            ·rintro _ w_126 ⟨B34, c33, rfl, hS180⟩
             have hS180 : ST w0 [] _ [⟨aD b17, 46, [.map none, .slice none 0 0], 2⟩, ⟨aD b21, 46, [.map (some g2), .slice B22 sizes1.length c21], 2⟩, ⟨(aD g2), .mp (mpE vStr vSl D17), [], 0⟩, ⟨B22, 3, (sizes1.flatMap encI), c21 * 1⟩, ⟨B28, 75, (D18.flatMap eN3), c27 * 4⟩, ⟨aD b24, 75, [.slice B25 x2.gates.length c24, vi x2.m.Rows, vi x2.m.Cols, .slice B26 x2.m.Cells.length c25], 4⟩, ⟨B23, 75, (D19.flatMap eN3), c22 * 4⟩, ⟨B27, 56, (r_20.flatMap eN0), c26 * 3⟩, ⟨aD b1, 30, [vi 0, .slice none 0 0], 2⟩, ⟨aD b25, 56, [vi x3.Kind, vi x3.A, vi x3.B], 3⟩, ⟨B30, 91, (r_21.Cells.flatMap eN1), c29 * 5⟩, ⟨aD b26, 50, kM_ r_21 B30 c29, 3⟩, ⟨B31, 91, (r_23.Cells.flatMap eN1), c30 * 5⟩, ⟨aD b27, 50, kM_ r_23 B31 c30, 3⟩, ⟨aD b29, 75, [.slice none 0 0, vi 0, vi 0, .slice none 0 0], 4⟩, ⟨aD b28, 56, ([x3].flatMap eN0), 1 * 3⟩, ⟨B34, 56, ((r_27 ++ [x3]).flatMap eN0), c33 * 3⟩] (⟨B32, ((mgt words6 r_25 []).flatMap eN0)⟩ :: ⟨none, ([].flatMap eN0)⟩ :: ⟨B26, (x2.m.Cells.flatMap eN1)⟩ :: ⟨B25, (x2.gates.flatMap eN0)⟩ :: ⟨none, ([].flatMap eN0)⟩ :: ⟨B21, (r_16.Cells.flatMap eN1)⟩ :: ⟨aD b19, ([].flatMap eN0)⟩ :: ⟨B, (m.Cells.flatMap eN1)⟩ :: ⟨(aD 1), (gl1.flatMap enc_u64)⟩ :: ((D17.flatMap (rowM eN0)) ++ ((D18.flatMap eN2) ++ ((D19.flatMap eN2) ++ [])))) := hS180
             refine ⟨(hS180.se [0, 1, 2, 3, 4, 5, 6, 7, 8, 9, 10, 11, 12, 13]), ?_⟩
             refine rq 7 103 (v := .agg #[.slice B34 ((r_27 ++ [x3]).length) c33, vi r_23.Rows, vi r_23.Cols, .slice B31 r_23.Cells.length c30]) rfl (hS180.se [0, 1, 2, 3, 4, 5, 6, 7, 8, 9, 10, 11, 12, 13]) (fun w' hw' => (Y_buildS (zs := [.slice none 0 0, vi 0, vi 0, .slice none 0 0]) (vs := [(0, .slice B34 ((r_27 ++ [x3]).length) c33), (1, gM_ r_23 B31 c30)]) (cs := [.slice B34 ((r_27 ++ [x3]).length) c33, vi r_23.Rows, vi r_23.Cols, .slice B31 r_23.Cells.length c30]) K55 K37 rfl (mpc rfl (mpc rfl mpn)) rfl)) ?_
             refine rA [9] ?_
             refine rZ 9 rfl (yT 14 4 (aD b29) 75 (.agg #[.slice B34 ((r_27 ++ [x3]).length) c33, vi r_23.Rows, vi r_23.Cols, .slice B31 r_23.Cells.length c30]) [.slice B34 ((r_27 ++ [x3]).length) c33, vi r_23.Rows, vi r_23.Cols, .slice B31 r_23.Cells.length c30] 0 hS180 K42) ?_ ?_
             ·rintro _ w_127 ⟨rfl, hS181⟩
              refine ⟨(hS181.se [0, 1, 2, 3, 4, 5, 6, 7, 8, 9, 10, 11, 12, 13]), ?_⟩
              refine ra_done (by kernel_rfl) ?_
              exact ⟨aD b29, B34, c33, (fc (hf9.g 0 0) (fc (hf9.g 4 1) (fc (hf9.g 9 2) (fc (hf9.g 11 3) (fc (hf9.g 13 4) (fc rfl (fc rfl (fc (hf9.g 45 5) (fc (hf9.g 46 6) (fc (hf9.g 49 7) (fc (hf9.g 50 8) (fc (hf9.g 51 9) (fc (hf9.g 56 10) (fc (hf9.g 57 11) (fc (hf9.g 58 12) fn_))))))))))))))), (hS181.sel [0, 1, 2, 3, 4, 5, 14, 16, 12, 6, 7, 8] rfl rfl)⟩
             exact aN
            exact aN
           exact aN
          exact aN
         exact aN
        rintro f w ⟨B35, B36, c34, hf11, hS147⟩
        refine cq (cr ?_)
        refine sQ 104 (yd (aD b21) 0 0 K103 k_sz_43_1 rfl (hf11.g 9 2)) <| sQ 105 (yl (aD b21) 0 [.map (some g2), .slice B22 sizes1.length c21] (.map (some g2)) K104 (hS147.c 1)) <| sQ 106 (ym (.string (bstr r_25)) rfl (hf11.g 20 5)) <| sQ 107 (yd B35 0 0 k_fd_75_0_0_28 K39 rfl (hf11.g 24 6)) <| sQ 108 (yl B35 0 [.slice B36 ((r_27 ++ [x3]).length) c34, vi r_23.Rows, vi r_23.Cols, .slice B31 r_23.Cells.length c30] (.slice B36 ((r_27 ++ [x3]).length) c34) K43 (hS147.c 6)) ?_
        have ho24 : Org w0 [] [⟨B, (m.Cells.flatMap eN1)⟩, ⟨(aD 1), (gl1.flatMap enc_u64)⟩] [⟨B36, ((r_27 ++ [x3]).flatMap eN0)⟩] := ST.orgOwn hS147 (i := 7) rfl
        have hcap6 : (r_27 ++ [x3]).length ≤ c34 := (hS147.lencap (i := 7) rfl (fm_lenn (l := (r_27 ++ [x3])) enc_Gate_len rfl) rfl rfl)
        have hS182 : ST w0 [] _ [⟨aD b17, 46, [.map none, .slice none 0 0], 2⟩, ⟨aD b21, 46, [.map (some g2), .slice B22 sizes1.length c21], 2⟩, ⟨(aD g2), .mp (mpE vStr vSl D17), [], 0⟩, ⟨B22, 3, (sizes1.flatMap encI), c21 * 1⟩, ⟨B28, 75, (D18.flatMap eN3), c27 * 4⟩, ⟨aD b24, 75, [.slice B25 x2.gates.length c24, vi x2.m.Rows, vi x2.m.Cols, .slice B26 x2.m.Cells.length c25], 4⟩, ⟨B35, 75, [.slice B36 ((r_27 ++ [x3]).length) c34, vi r_23.Rows, vi r_23.Cols, .slice B31 r_23.Cells.length c30], 4⟩, ⟨B31, 91, (r_23.Cells.flatMap eN1), c30 * 5⟩, ⟨B23, 75, (D19.flatMap eN3), c22 * 4⟩, ⟨B27, 56, (r_20.flatMap eN0), c26 * 3⟩, ⟨aD b1, 30, [vi 0, .slice none 0 0], 2⟩] (⟨B36, ((r_27 ++ [x3]).flatMap eN0)⟩ :: ⟨B32, ((mgt words6 r_25 []).flatMap eN0)⟩ :: ⟨none, ([].flatMap eN0)⟩ :: ⟨B26, (x2.m.Cells.flatMap eN1)⟩ :: ⟨B25, (x2.gates.flatMap eN0)⟩ :: ⟨none, ([].flatMap eN0)⟩ :: ⟨B21, (r_16.Cells.flatMap eN1)⟩ :: ⟨aD b19, ([].flatMap eN0)⟩ :: ⟨B, (m.Cells.flatMap eN1)⟩ :: ⟨(aD 1), (gl1.flatMap enc_u64)⟩ :: ((D17.flatMap (rowM eN0)) ++ ((D18.flatMap eN2) ++ ((D19.flatMap eN2) ++ [])))) := hS147.freeze (i := 7) rfl
        refine s0 (Ys_mapPut (kE := vStr) (vE := vSl) (l := D17) (a := r_25) (b := ((B36, c34), (r_27 ++ [x3]))) (g := g2) (i := 2) hS182 (keyStr K87) K88 rfl rfl rfl rfl rfl rfl) ?_
        rintro _ w_128 ⟨rfl, hS183⟩
        have hD26 : (mput D17 r_25 ((B36, c34), (r_27 ++ [x3]))).map dm = (mput words6 r_25 (r_27 ++ [x3])) := mput_dm hD20 _ _ _
        have hm12 : ∀ r ∈ ((mput D17 r_25 ((B36, c34), (r_27 ++ [x3]))).flatMap (rowM eN0)), r ∈ ((⟨B36, ((r_27 ++ [x3]).flatMap eN0)⟩ :: ⟨B32, ((mgt words6 r_25 []).flatMap eN0)⟩ :: ⟨none, ([].flatMap eN0)⟩ :: ⟨B26, (x2.m.Cells.flatMap eN1)⟩ :: ⟨B25, (x2.gates.flatMap eN0)⟩ :: ⟨none, ([].flatMap eN0)⟩ :: ⟨B21, (r_16.Cells.flatMap eN1)⟩ :: ⟨aD b19, ([].flatMap eN0)⟩ :: ⟨B, (m.Cells.flatMap eN1)⟩ :: ⟨(aD 1), (gl1.flatMap enc_u64)⟩ :: ((D17.flatMap (rowM eN0)) ++ ((D18.flatMap eN2) ++ ((D19.flatMap eN2) ++ [])))) : List Ro) := mput_sub (R := (⟨B36, ((r_27 ++ [x3]).flatMap eN0)⟩ :: ⟨B32, ((mgt words6 r_25 []).flatMap eN0)⟩ :: ⟨none, ([].flatMap eN0)⟩ :: ⟨B26, (x2.m.Cells.flatMap eN1)⟩ :: ⟨B25, (x2.gates.flatMap eN0)⟩ :: ⟨none, ([].flatMap eN0)⟩ :: ⟨B21, (r_16.Cells.flatMap eN1)⟩ :: ⟨aD b19, ([].flatMap eN0)⟩ :: ⟨B, (m.Cells.flatMap eN1)⟩ :: ⟨(aD 1), (gl1.flatMap enc_u64)⟩ :: ((D17.flatMap (rowM eN0)) ++ ((D18.flatMap eN2) ++ ((D19.flatMap eN2) ++ []))))) (fun r_ (h : r_ ∈ ((D17.flatMap (rowM eN0)) : List Ro)) => mOd (i := 10) (show r_ ∈ ((((D17.flatMap (rowM eN0)) ++ ((D18.flatMap eN2) ++ ((D19.flatMap eN2) ++ [])))) : List Ro) from mAl _ h)) (mt 0) _
        have hS184 : ST w0 [] _ [⟨aD b17, 46, [.map none, .slice none 0 0], 2⟩, ⟨aD b21, 46, [.map (some g2), .slice B22 sizes1.length c21], 2⟩, ⟨(aD g2), .mp (mpE vStr vSl (mput D17 r_25 ((B36, c34), (r_27 ++ [x3])))), [], 0⟩, ⟨B22, 3, (sizes1.flatMap encI), c21 * 1⟩, ⟨B28, 75, (D18.flatMap eN3), c27 * 4⟩, ⟨aD b24, 75, [.slice B25 x2.gates.length c24, vi x2.m.Rows, vi x2.m.Cols, .slice B26 x2.m.Cells.length c25], 4⟩, ⟨B35, 75, [.slice B36 ((r_27 ++ [x3]).length) c34, vi r_23.Rows, vi r_23.Cols, .slice B31 r_23.Cells.length c30], 4⟩, ⟨B31, 91, (r_23.Cells.flatMap eN1), c30 * 5⟩, ⟨B23, 75, (D19.flatMap eN3), c22 * 4⟩, ⟨B27, 56, (r_20.flatMap eN0), c26 * 3⟩, ⟨aD b1, 30, [vi 0, .slice none 0 0], 2⟩] (⟨B36, ((r_27 ++ [x3]).flatMap eN0)⟩ :: ⟨B32, ((mgt words6 r_25 []).flatMap eN0)⟩ :: ⟨none, ([].flatMap eN0)⟩ :: ⟨B26, (x2.m.Cells.flatMap eN1)⟩ :: ⟨B25, (x2.gates.flatMap eN0)⟩ :: ⟨none, ([].flatMap eN0)⟩ :: ⟨B21, (r_16.Cells.flatMap eN1)⟩ :: ⟨aD b19, ([].flatMap eN0)⟩ :: ⟨B, (m.Cells.flatMap eN1)⟩ :: ⟨(aD 1), (gl1.flatMap enc_u64)⟩ :: (((mput D17 r_25 ((B36, c34), (r_27 ++ [x3]))).flatMap (rowM eN0)) ++ ((D18.flatMap eN2) ++ ((D19.flatMap eN2) ++ [])))) := ST.subR hS183 (sk 0 (sk 1 (sk 2 (sk 3 (sk 4 (sk 5 (sk 6 (sk 7 (sk 8 (sk 9 (suba hm12 (suba (fun r_ (h : r_ ∈ ((D18.flatMap eN2) : List Ro)) => mOd (i := 10) (show r_ ∈ ((((D17.flatMap (rowM eN0)) ++ ((D18.flatMap eN2) ++ ((D19.flatMap eN2) ++ [])))) : List Ro) from mAr _ (mAl _ h))) (suba (fun r_ (h : r_ ∈ ((D19.flatMap eN2) : List Ro)) => mOd (i := 10) (show r_ ∈ ((((D17.flatMap (rowM eN0)) ++ ((D18.flatMap eN2) ++ ((D19.flatMap eN2) ++ [])))) : List Ro) from mAr _ (mAr _ (mAl _ h)))) (fun _ h => by cases h))))))))))))))
        refine rn (cr ?_)
        refine sQ 109 (ym (.slice B28 next_4.length c27) rfl (hf11.g 11 3)) <| sQ 110 (yb B35 0 [.slice B36 ((r_27 ++ [x3]).length) c34, vi r_23.Rows, vi r_23.Cols, .slice B31 r_23.Cells.length c30] k_ag_75 K42 (hS184.c 6) rfl (hf11.g 24 6)) ?_
        have ho25 : Org w0 [] [⟨B, (m.Cells.flatMap eN1)⟩, ⟨(aD 1), (gl1.flatMap enc_u64)⟩] [⟨B31, (r_23.Cells.flatMap eN1)⟩] := ST.orgOwn hS184 (i := 7) rfl
        have hcap7 : r_23.Cells.length ≤ c30 := (hS184.lencap (i := 7) rfl (fm_lenn (l := r_23.Cells) enc_Dyadic_len rfl) rfl rfl)
        have hS185 : ST w0 [] _ [⟨aD b17, 46, [.map none, .slice none 0 0], 2⟩, ⟨aD b21, 46, [.map (some g2), .slice B22 sizes1.length c21], 2⟩, ⟨(aD g2), .mp (mpE vStr vSl (mput D17 r_25 ((B36, c34), (r_27 ++ [x3])))), [], 0⟩, ⟨B22, 3, (sizes1.flatMap encI), c21 * 1⟩, ⟨B28, 75, (D18.flatMap eN3), c27 * 4⟩, ⟨aD b24, 75, [.slice B25 x2.gates.length c24, vi x2.m.Rows, vi x2.m.Cols, .slice B26 x2.m.Cells.length c25], 4⟩, ⟨B35, 75, [.slice B36 ((r_27 ++ [x3]).length) c34, vi r_23.Rows, vi r_23.Cols, .slice B31 r_23.Cells.length c30], 4⟩, ⟨B23, 75, (D19.flatMap eN3), c22 * 4⟩, ⟨B27, 56, (r_20.flatMap eN0), c26 * 3⟩, ⟨aD b1, 30, [vi 0, .slice none 0 0], 2⟩] (⟨B31, (r_23.Cells.flatMap eN1)⟩ :: ⟨B36, ((r_27 ++ [x3]).flatMap eN0)⟩ :: ⟨B32, ((mgt words6 r_25 []).flatMap eN0)⟩ :: ⟨none, ([].flatMap eN0)⟩ :: ⟨B26, (x2.m.Cells.flatMap eN1)⟩ :: ⟨B25, (x2.gates.flatMap eN0)⟩ :: ⟨none, ([].flatMap eN0)⟩ :: ⟨B21, (r_16.Cells.flatMap eN1)⟩ :: ⟨aD b19, ([].flatMap eN0)⟩ :: ⟨B, (m.Cells.flatMap eN1)⟩ :: ⟨(aD 1), (gl1.flatMap enc_u64)⟩ :: (((mput D17 r_25 ((B36, c34), (r_27 ++ [x3]))).flatMap (rowM eN0)) ++ ((D18.flatMap eN2) ++ ((D19.flatMap eN2) ++ [])))) := hS184.freeze (i := 7) rfl
        refine sS 111 (Ys_bslice (s := 4) (len := 1) (vs := [(0, .agg #[.slice B36 ((r_27 ++ [x3]).length) c34, vi r_23.Rows, vi r_23.Cols, .slice B31 r_23.Cells.length c30])]) (cs := [.slice B36 ((r_27 ++ [x3]).length) c34, vi r_23.Rows, vi r_23.Cols, .slice B31 r_23.Cells.length c30]) (zs := [.slice none 0 0, vi 0, vi 0, .slice none 0 0]) (m := 4) hS185 K66 K42 k_zc_75 rfl (mpc rfl mpn) rfl rfl rfl (by kernel_rfl) (by kernel_rfl) rfl) ?_
        rintro _ w_129 ⟨b30, rfl, hS186⟩
        have hm13 : ∀ r ∈ (([(((B36, c34), (B31, c30)), (TtableWord.mk (r_27 ++ [x3]) r_23))] : List ((Hd × Hd) × TtableWord)).flatMap eN2), r ∈ ((⟨B31, (r_23.Cells.flatMap eN1)⟩ :: ⟨B36, ((r_27 ++ [x3]).flatMap eN0)⟩ :: ⟨B32, ((mgt words6 r_25 []).flatMap eN0)⟩ :: ⟨none, ([].flatMap eN0)⟩ :: ⟨B26, (x2.m.Cells.flatMap eN1)⟩ :: ⟨B25, (x2.gates.flatMap eN0)⟩ :: ⟨none, ([].flatMap eN0)⟩ :: ⟨B21, (r_16.Cells.flatMap eN1)⟩ :: ⟨aD b19, ([].flatMap eN0)⟩ :: ⟨B, (m.Cells.flatMap eN1)⟩ :: ⟨(aD 1), (gl1.flatMap enc_u64)⟩ :: (((mput D17 r_25 ((B36, c34), (r_27 ++ [x3]))).flatMap (rowM eN0)) ++ ((D18.flatMap eN2) ++ ((D19.flatMap eN2) ++ [])))) : List Ro) := (fsub_cons (sk 1 (sk 0 (fun _ h => by cases h))) fsub_nil)
        have ho26 : Org w0 [] [⟨B, (m.Cells.flatMap eN1)⟩, ⟨(aD 1), (gl1.flatMap enc_u64)⟩] (([(((B36, c34), (B31, c30)), (TtableWord.mk (r_27 ++ [x3]) r_23))] : List ((Hd × Hd) × TtableWord)).flatMap eN2) := (forg_cons (org_cons ho24 (org_cons ho25 org_nil)) forg_nil)
        have hS187 : ST w0 [] _ [⟨aD b17, 46, [.map none, .slice none 0 0], 2⟩, ⟨aD b21, 46, [.map (some g2), .slice B22 sizes1.length c21], 2⟩, ⟨(aD g2), .mp (mpE vStr vSl (mput D17 r_25 ((B36, c34), (r_27 ++ [x3])))), [], 0⟩, ⟨B22, 3, (sizes1.flatMap encI), c21 * 1⟩, ⟨B28, 75, (D18.flatMap eN3), c27 * 4⟩, ⟨aD b24, 75, [.slice B25 x2.gates.length c24, vi x2.m.Rows, vi x2.m.Cols, .slice B26 x2.m.Cells.length c25], 4⟩, ⟨B35, 75, [.slice B36 ((r_27 ++ [x3]).length) c34, vi r_23.Rows, vi r_23.Cols, .slice B31 r_23.Cells.length c30], 4⟩, ⟨B23, 75, (D19.flatMap eN3), c22 * 4⟩, ⟨B27, 56, (r_20.flatMap eN0), c26 * 3⟩, ⟨aD b1, 30, [vi 0, .slice none 0 0], 2⟩, ⟨aD b30, 75, (([(((B36, c34), (B31, c30)), (TtableWord.mk (r_27 ++ [x3]) r_23))] : List ((Hd × Hd) × TtableWord)).flatMap eN3), 1 * 4⟩] (⟨B31, (r_23.Cells.flatMap eN1)⟩ :: ⟨B36, ((r_27 ++ [x3]).flatMap eN0)⟩ :: ⟨B32, ((mgt words6 r_25 []).flatMap eN0)⟩ :: ⟨none, ([].flatMap eN0)⟩ :: ⟨B26, (x2.m.Cells.flatMap eN1)⟩ :: ⟨B25, (x2.gates.flatMap eN0)⟩ :: ⟨none, ([].flatMap eN0)⟩ :: ⟨B21, (r_16.Cells.flatMap eN1)⟩ :: ⟨aD b19, ([].flatMap eN0)⟩ :: ⟨B, (m.Cells.flatMap eN1)⟩ :: ⟨(aD 1), (gl1.flatMap enc_u64)⟩ :: ((([(((B36, c34), (B31, c30)), (TtableWord.mk (r_27 ++ [x3]) r_23))] : List ((Hd × Hd) × TtableWord)).flatMap eN2) ++ (((mput D17 r_25 ((B36, c34), (r_27 ++ [x3]))).flatMap (rowM eN0)) ++ ((D18.flatMap eN2) ++ ((D19.flatMap eN2) ++ []))))) := ST.subR hS186 (sk 0 (sk 1 (sk 2 (sk 3 (sk 4 (sk 5 (sk 6 (sk 7 (sk 8 (sk 9 (sk 10 (suba hm13 (suba (fun r_ (h : r_ ∈ (((mput D17 r_25 ((B36, c34), (r_27 ++ [x3]))).flatMap (rowM eN0)) : List Ro)) => mOd (i := 11) (show r_ ∈ (((((mput D17 r_25 ((B36, c34), (r_27 ++ [x3]))).flatMap (rowM eN0)) ++ ((D18.flatMap eN2) ++ ((D19.flatMap eN2) ++ [])))) : List Ro) from mAl _ h)) (suba (fun r_ (h : r_ ∈ ((D18.flatMap eN2) : List Ro)) => mOd (i := 11) (show r_ ∈ (((((mput D17 r_25 ((B36, c34), (r_27 ++ [x3]))).flatMap (rowM eN0)) ++ ((D18.flatMap eN2) ++ ((D19.flatMap eN2) ++ [])))) : List Ro) from mAr _ (mAl _ h))) (suba (fun r_ (h : r_ ∈ ((D19.flatMap eN2) : List Ro)) => mOd (i := 11) (show r_ ∈ (((((mput D17 r_25 ((B36, c34), (r_27 ++ [x3]))).flatMap (rowM eN0)) ++ ((D18.flatMap eN2) ++ ((D19.flatMap eN2) ++ [])))) : List Ro) from mAr _ (mAr _ (mAl _ h)))) (fun _ h => by cases h))))))))))))))))
        obtain ⟨hap4, hF17⟩ := chk_inv hF17
        refine sS 112 (Ys_append (s := 4) (by' := 64) (i := 4) (nn := next_4.length) (c := c27) (k := 1) (len := (next_4 ++ ([(TtableWord.mk (r_27 ++ [x3]) r_23)] : List TtableWord)).length) (B := B28) (xs := (([(((B36, c34), (B31, c30)), (TtableWord.mk (r_27 ++ [x3]) r_23))] : List ((Hd × Hd) × TtableWord)).flatMap eN3)) (cs' := ((D18 ++ ([(((B36, c34), (B31, c30)), (TtableWord.mk (r_27 ++ [x3]) r_23))] : List ((Hd × Hd) × TtableWord))).flatMap eN3)) hS187 K66 K42 k_by_75_64 K37 rfl (by decide) rfl rfl rfl rfl (fm_lenn (l := D18) encD_tableWord_len (dl_len hD21)) rfl (hS187.c 10) (fm_lenn (l := ([(((B36, c34), (B31, c30)), (TtableWord.mk (r_27 ++ [x3]) r_23))] : List ((Hd × Hd) × TtableWord))) encD_tableWord_len rfl) (fm_one' (enc := eN3) encD_tableWord_one ([(((B36, c34), (B31, c30)), (TtableWord.mk (r_27 ++ [x3]) r_23))] : List ((Hd × Hd) × TtableWord))) (by have := hap4; omega) (by have := hap4; simp only [maxLen]; omega) (fm_app _ _) (dl_sum (dl_len hD21) rfl (dl_app hD21 (show List.map Prod.snd ([(((B36, c34), (B31, c30)), (TtableWord.mk (r_27 ++ [x3]) r_23))] : List ((Hd × Hd) × TtableWord)) = ([(TtableWord.mk (r_27 ++ [x3]) r_23)] : List TtableWord) from rfl)))) ?_
        rintro _ w_130 ⟨B37, c35, rfl, hS188⟩
        have ho27 : Org w0 [] [⟨B, (m.Cells.flatMap eN1)⟩, ⟨(aD 1), (gl1.flatMap enc_u64)⟩] ((D18 ++ ([(((B36, c34), (B31, c30)), (TtableWord.mk (r_27 ++ [x3]) r_23))] : List ((Hd × Hd) × TtableWord))).flatMap eN2) := (forg_app ho20 ho26)
        have hS189 : ST w0 [] _ [⟨aD b17, 46, [.map none, .slice none 0 0], 2⟩, ⟨aD b21, 46, [.map (some g2), .slice B22 sizes1.length c21], 2⟩, ⟨(aD g2), .mp (mpE vStr vSl (mput D17 r_25 ((B36, c34), (r_27 ++ [x3])))), [], 0⟩, ⟨B22, 3, (sizes1.flatMap encI), c21 * 1⟩, ⟨B37, 75, ((D18 ++ ([(((B36, c34), (B31, c30)), (TtableWord.mk (r_27 ++ [x3]) r_23))] : List ((Hd × Hd) × TtableWord))).flatMap eN3), c35 * 4⟩, ⟨aD b24, 75, [.slice B25 x2.gates.length c24, vi x2.m.Rows, vi x2.m.Cols, .slice B26 x2.m.Cells.length c25], 4⟩, ⟨B35, 75, [.slice B36 ((r_27 ++ [x3]).length) c34, vi r_23.Rows, vi r_23.Cols, .slice B31 r_23.Cells.length c30], 4⟩, ⟨B23, 75, (D19.flatMap eN3), c22 * 4⟩, ⟨B27, 56, (r_20.flatMap eN0), c26 * 3⟩, ⟨aD b1, 30, [vi 0, .slice none 0 0], 2⟩, ⟨aD b30, 75, (([(((B36, c34), (B31, c30)), (TtableWord.mk (r_27 ++ [x3]) r_23))] : List ((Hd × Hd) × TtableWord)).flatMap eN3), 1 * 4⟩] (⟨B31, (r_23.Cells.flatMap eN1)⟩ :: ⟨B36, ((r_27 ++ [x3]).flatMap eN0)⟩ :: ⟨B32, ((mgt words6 r_25 []).flatMap eN0)⟩ :: ⟨none, ([].flatMap eN0)⟩ :: ⟨B26, (x2.m.Cells.flatMap eN1)⟩ :: ⟨B25, (x2.gates.flatMap eN0)⟩ :: ⟨none, ([].flatMap eN0)⟩ :: ⟨B21, (r_16.Cells.flatMap eN1)⟩ :: ⟨aD b19, ([].flatMap eN0)⟩ :: ⟨B, (m.Cells.flatMap eN1)⟩ :: ⟨(aD 1), (gl1.flatMap enc_u64)⟩ :: (((D18 ++ ([(((B36, c34), (B31, c30)), (TtableWord.mk (r_27 ++ [x3]) r_23))] : List ((Hd × Hd) × TtableWord))).flatMap eN2) ++ ((([(((B36, c34), (B31, c30)), (TtableWord.mk (r_27 ++ [x3]) r_23))] : List ((Hd × Hd) × TtableWord)).flatMap eN2) ++ (((mput D17 r_25 ((B36, c34), (r_27 ++ [x3]))).flatMap (rowM eN0)) ++ ((D19.flatMap eN2) ++ []))))) := ST.subR hS188 (sk 0 (sk 1 (sk 2 (sk 3 (sk 4 (sk 5 (sk 6 (sk 7 (sk 8 (sk 9 (sk 10 (suba (fsub_app (fun r_ (h : r_ ∈ ((D18.flatMap eN2) : List Ro)) => mOd (i := 11) (show r_ ∈ ((((([(((B36, c34), (B31, c30)), (TtableWord.mk (r_27 ++ [x3]) r_23))] : List ((Hd × Hd) × TtableWord)).flatMap eN2) ++ (((mput D17 r_25 ((B36, c34), (r_27 ++ [x3]))).flatMap (rowM eN0)) ++ ((D18.flatMap eN2) ++ ((D19.flatMap eN2) ++ []))))) : List Ro) from mAr _ (mAr _ (mAl _ h)))) (fun r_ (h : r_ ∈ ((([(((B36, c34), (B31, c30)), (TtableWord.mk (r_27 ++ [x3]) r_23))] : List ((Hd × Hd) × TtableWord)).flatMap eN2) : List Ro)) => mOd (i := 11) (show r_ ∈ ((((([(((B36, c34), (B31, c30)), (TtableWord.mk (r_27 ++ [x3]) r_23))] : List ((Hd × Hd) × TtableWord)).flatMap eN2) ++ (((mput D17 r_25 ((B36, c34), (r_27 ++ [x3]))).flatMap (rowM eN0)) ++ ((D18.flatMap eN2) ++ ((D19.flatMap eN2) ++ []))))) : List Ro) from mAl _ h))) (suba (fun r_ (h : r_ ∈ ((([(((B36, c34), (B31, c30)), (TtableWord.mk (r_27 ++ [x3]) r_23))] : List ((Hd × Hd) × TtableWord)).flatMap eN2) : List Ro)) => mOd (i := 11) (show r_ ∈ ((((([(((B36, c34), (B31, c30)), (TtableWord.mk (r_27 ++ [x3]) r_23))] : List ((Hd × Hd) × TtableWord)).flatMap eN2) ++ (((mput D17 r_25 ((B36, c34), (r_27 ++ [x3]))).flatMap (rowM eN0)) ++ ((D18.flatMap eN2) ++ ((D19.flatMap eN2) ++ []))))) : List Ro) from mAl _ h)) (suba (fun r_ (h : r_ ∈ (((mput D17 r_25 ((B36, c34), (r_27 ++ [x3]))).flatMap (rowM eN0)) : List Ro)) => mOd (i := 11) (show r_ ∈ ((((([(((B36, c34), (B31, c30)), (TtableWord.mk (r_27 ++ [x3]) r_23))] : List ((Hd × Hd) × TtableWord)).flatMap eN2) ++ (((mput D17 r_25 ((B36, c34), (r_27 ++ [x3]))).flatMap (rowM eN0)) ++ ((D18.flatMap eN2) ++ ((D19.flatMap eN2) ++ []))))) : List Ro) from mAr _ (mAl _ h))) (suba (fun r_ (h : r_ ∈ ((D19.flatMap eN2) : List Ro)) => mOd (i := 11) (show r_ ∈ ((((([(((B36, c34), (B31, c30)), (TtableWord.mk (r_27 ++ [x3]) r_23))] : List ((Hd × Hd) × TtableWord)).flatMap eN2) ++ (((mput D17 r_25 ((B36, c34), (r_27 ++ [x3]))).flatMap (rowM eN0)) ++ ((D18.flatMap eN2) ++ ((D19.flatMap eN2) ++ []))))) : List Ro) from mAr _ (mAr _ (mAr _ (mAl _ h))))) (fun _ h => by cases h))))))))))))))))
        have hS189 : ST w0 [] _ [⟨aD b17, 46, [.map none, .slice none 0 0], 2⟩, ⟨aD b21, 46, [.map (some g2), .slice B22 sizes1.length c21], 2⟩, ⟨(aD g2), .mp (mpE vStr vSl (mput D17 r_25 ((B36, c34), (r_27 ++ [x3])))), [], 0⟩, ⟨B22, 3, (sizes1.flatMap encI), c21 * 1⟩, ⟨B37, 75, ((D18 ++ ([(((B36, c34), (B31, c30)), (TtableWord.mk (r_27 ++ [x3]) r_23))] : List ((Hd × Hd) × TtableWord))).flatMap eN3), c35 * 4⟩, ⟨aD b24, 75, [.slice B25 x2.gates.length c24, vi x2.m.Rows, vi x2.m.Cols, .slice B26 x2.m.Cells.length c25], 4⟩, ⟨B35, 75, [.slice B36 ((r_27 ++ [x3]).length) c34, vi r_23.Rows, vi r_23.Cols, .slice B31 r_23.Cells.length c30], 4⟩, ⟨B23, 75, (D19.flatMap eN3), c22 * 4⟩, ⟨B27, 56, (r_20.flatMap eN0), c26 * 3⟩, ⟨aD b1, 30, [vi 0, .slice none 0 0], 2⟩, ⟨aD b30, 75, (([(((B36, c34), (B31, c30)), (TtableWord.mk (r_27 ++ [x3]) r_23))] : List ((Hd × Hd) × TtableWord)).flatMap eN3), 1 * 4⟩] (⟨B31, (r_23.Cells.flatMap eN1)⟩ :: ⟨B36, ((r_27 ++ [x3]).flatMap eN0)⟩ :: ⟨B32, ((mgt words6 r_25 []).flatMap eN0)⟩ :: ⟨none, ([].flatMap eN0)⟩ :: ⟨B26, (x2.m.Cells.flatMap eN1)⟩ :: ⟨B25, (x2.gates.flatMap eN0)⟩ :: ⟨none, ([].flatMap eN0)⟩ :: ⟨B21, (r_16.Cells.flatMap eN1)⟩ :: ⟨aD b19, ([].flatMap eN0)⟩ :: ⟨B, (m.Cells.flatMap eN1)⟩ :: ⟨(aD 1), (gl1.flatMap enc_u64)⟩ :: (((D18 ++ ([(((B36, c34), (B31, c30)), (TtableWord.mk (r_27 ++ [x3]) r_23))] : List ((Hd × Hd) × TtableWord))).flatMap eN2) ++ ((([(((B36, c34), (B31, c30)), (TtableWord.mk (r_27 ++ [x3]) r_23))] : List ((Hd × Hd) × TtableWord)).flatMap eN2) ++ (((mput D17 r_25 ((B36, c34), (r_27 ++ [x3]))).flatMap (rowM eN0)) ++ ((D19.flatMap eN2) ++ []))))) := hS189
        refine sQ 11 (yg (.slice B37 ((next_4 ++ ([(TtableWord.mk (r_27 ++ [x3]) r_23)] : List TtableWord)).length) c35)) (rn ?_)
        have hS190 : ST w0 [] _ [⟨aD b17, 46, [.map none, .slice none 0 0], 2⟩, ⟨aD b21, 46, [.map (some g2), .slice B22 sizes1.length c21], 2⟩, ⟨(aD g2), .mp (mpE vStr vSl (mput D17 r_25 ((B36, c34), (r_27 ++ [x3])))), [], 0⟩, ⟨B22, 3, (sizes1.flatMap encI), c21 * 1⟩, ⟨B37, 75, ((D18 ++ ([(((B36, c34), (B31, c30)), (TtableWord.mk (r_27 ++ [x3]) r_23))] : List ((Hd × Hd) × TtableWord))).flatMap eN3), c35 * 4⟩, ⟨aD b24, 75, [.slice B25 x2.gates.length c24, vi x2.m.Rows, vi x2.m.Cols, .slice B26 x2.m.Cells.length c25], 4⟩, ⟨B35, 75, [.slice B36 ((r_27 ++ [x3]).length) c34, vi r_23.Rows, vi r_23.Cols, .slice B31 r_23.Cells.length c30], 4⟩, ⟨B23, 75, (D19.flatMap eN3), c22 * 4⟩, ⟨B27, 56, (r_20.flatMap eN0), c26 * 3⟩, ⟨aD b1, 30, [vi 0, .slice none 0 0], 2⟩, ⟨aD b30, 75, (([(((B36, c34), (B31, c30)), (TtableWord.mk (r_27 ++ [x3]) r_23))] : List ((Hd × Hd) × TtableWord)).flatMap eN3), 1 * 4⟩] (⟨B26, (x2.m.Cells.flatMap eN1)⟩ :: ⟨B25, (x2.gates.flatMap eN0)⟩ :: ⟨none, ([].flatMap eN0)⟩ :: ⟨B21, (r_16.Cells.flatMap eN1)⟩ :: ⟨aD b19, ([].flatMap eN0)⟩ :: ⟨B, (m.Cells.flatMap eN1)⟩ :: ⟨(aD 1), (gl1.flatMap enc_u64)⟩ :: (((mput D17 r_25 ((B36, c34), (r_27 ++ [x3]))).flatMap (rowM eN0)) ++ (((D18 ++ ([(((B36, c34), (B31, c30)), (TtableWord.mk (r_27 ++ [x3]) r_23))] : List ((Hd × Hd) × TtableWord))).flatMap eN2) ++ ((D19.flatMap eN2) ++ [])))) := ST.subR hS189 (sk 4 (sk 5 (sk 6 (sk 7 (sk 8 (sk 9 (sk 10 (suba (fun r_ (h : r_ ∈ (((mput D17 r_25 ((B36, c34), (r_27 ++ [x3]))).flatMap (rowM eN0)) : List Ro)) => mOd (i := 11) (show r_ ∈ (((((D18 ++ ([(((B36, c34), (B31, c30)), (TtableWord.mk (r_27 ++ [x3]) r_23))] : List ((Hd × Hd) × TtableWord))).flatMap eN2) ++ ((([(((B36, c34), (B31, c30)), (TtableWord.mk (r_27 ++ [x3]) r_23))] : List ((Hd × Hd) × TtableWord)).flatMap eN2) ++ (((mput D17 r_25 ((B36, c34), (r_27 ++ [x3]))).flatMap (rowM eN0)) ++ ((D19.flatMap eN2) ++ []))))) : List Ro) from mAr _ (mAr _ (mAl _ h)))) (suba (fun r_ (h : r_ ∈ (((D18 ++ ([(((B36, c34), (B31, c30)), (TtableWord.mk (r_27 ++ [x3]) r_23))] : List ((Hd × Hd) × TtableWord))).flatMap eN2) : List Ro)) => mOd (i := 11) (show r_ ∈ (((((D18 ++ ([(((B36, c34), (B31, c30)), (TtableWord.mk (r_27 ++ [x3]) r_23))] : List ((Hd × Hd) × TtableWord))).flatMap eN2) ++ ((([(((B36, c34), (B31, c30)), (TtableWord.mk (r_27 ++ [x3]) r_23))] : List ((Hd × Hd) × TtableWord)).flatMap eN2) ++ (((mput D17 r_25 ((B36, c34), (r_27 ++ [x3]))).flatMap (rowM eN0)) ++ ((D19.flatMap eN2) ++ []))))) : List Ro) from mAl _ h)) (suba (fun r_ (h : r_ ∈ ((D19.flatMap eN2) : List Ro)) => mOd (i := 11) (show r_ ∈ (((((D18 ++ ([(((B36, c34), (B31, c30)), (TtableWord.mk (r_27 ++ [x3]) r_23))] : List ((Hd × Hd) × TtableWord))).flatMap eN2) ++ ((([(((B36, c34), (B31, c30)), (TtableWord.mk (r_27 ++ [x3]) r_23))] : List ((Hd × Hd) × TtableWord)).flatMap eN2) ++ (((mput D17 r_25 ((B36, c34), (r_27 ++ [x3]))).flatMap (rowM eN0)) ++ ((D19.flatMap eN2) ++ []))))) : List Ro) from mAr _ (mAr _ (mAr _ (mAl _ h))))) (fun _ h => by cases h)))))))))))
        exact ⟨(mput words6 r_25 (r_27 ++ [x3])), (next_4 ++ ([(TtableWord.mk (r_27 ++ [x3]) r_23)] : List TtableWord)), (mput D17 r_25 ((B36, c34), (r_27 ++ [x3]))), B37, c35, (D18 ++ ([(((B36, c34), (B31, c30)), (TtableWord.mk (r_27 ++ [x3]) r_23))] : List ((Hd × Hd) × TtableWord))), D19, (sI hF17), (fc (hf11.g 0 0) (fc (hf11.g 4 1) (fc (hf11.g 9 2) (fc rfl (fc (hf11.g 13 4) (fc (hf11.g 45 7) (fc (hf11.g 46 8) (fc (hf11.g 49 9) (fc (hf11.g 50 10) (fc (hf11.g 51 11) (fc (hf11.g 56 12) (fc (hf11.g 57 13) (fc (hf11.g 58 14) fn_))))))))))))), hD26, (dl_app hD21 (show List.map Prod.snd ([(((B36, c34), (B31, c30)), (TtableWord.mk (r_27 ++ [x3]) r_23))] : List ((Hd × Hd) × TtableWord)) = ([(TtableWord.mk (r_27 ++ [x3]) r_23)] : List TtableWord) from rfl)), ho27, hD22, ho21, (hS190.sel [0, 1, 2, 3, 4, 5, 7, 8, 9] rfl rfl)⟩
      rintro f w ⟨words7, next_5, D20, B29, c28, D21, D22, rfl, hf10, hD23, hD24, ho22, hD25, ho23, hS133⟩
      refine cr ?_
      refine sQ 113 (yP (i5 : Int) 1 rfl (hf10.g 58 12)) <| sQ 58 (ym (vi (i64.wrap ((i5 : Int) + 1)))) (rn ?_)
      obtain rfl := sI hF15
      exact ⟨k_11, Nat.lt_succ_self _, i5 + 1, words7, next_5, D20, B29, c28, D21, D22, (fc (hf10.g 0 0) (fc (hf10.g 4 1) (fc (hf10.g 9 2) (fc (hf10.g 11 3) (fc (hf10.g 13 4) (fc (hf10.g 45 5) (fc (hf10.g 46 6) (fc (hf10.g 49 7) (fc (hf10.g 50 8) (fc (hf10.g 51 9) (fc (hf10.g 56 10) (fc (hf10.g 57 11) (fc (congrArg (Value.int .i64) (wr_succ hlt11 hN5)) fn_))))))))))))), hD23, hD24, ho22, hD25, ho23, (hS133.sel [0, 1, 2, 3, 4, 5, 6, 7, 8] rfl rfl), (by omega), hL11⟩
     ·skip
      obtain rfl : K91 = 0 := by have h := of_decide_eq_false hlt10; omega
      refine cw_exit rfl ?_
      obtain rfl := sI hL10
      refine cr ?_
      refine sQ 114 (yP (i4 : Int) 1 rfl (hf9.g 51 9)) <| sQ 51 (ym (vi (i64.wrap ((i4 : Int) + 1)))) (rn ?_)
      obtain rfl := sI hF14
      have hS191 : ST w0 [] _ [⟨aD b17, 46, [.map none, .slice none 0 0], 2⟩, ⟨aD b21, 46, [.map (some g2), .slice B22 sizes1.length c21], 2⟩, ⟨(aD g2), .mp (mpE vStr vSl D17), [], 0⟩, ⟨B22, 3, (sizes1.flatMap encI), c21 * 1⟩, ⟨B28, 75, (D18.flatMap eN3), c27 * 4⟩, ⟨aD b24, 75, [.slice B25 x2.gates.length c24, vi x2.m.Rows, vi x2.m.Cols, .slice B26 x2.m.Cells.length c25], 4⟩, ⟨B23, 75, (D19.flatMap eN3), c22 * 4⟩, ⟨B27, 56, (r_20.flatMap eN0), c26 * 3⟩, ⟨aD b1, 30, [vi 0, .slice none 0 0], 2⟩] (⟨none, ([].flatMap eN0)⟩ :: ⟨B21, (r_16.Cells.flatMap eN1)⟩ :: ⟨aD b19, ([].flatMap eN0)⟩ :: ⟨B, (m.Cells.flatMap eN1)⟩ :: ⟨(aD 1), (gl1.flatMap enc_u64)⟩ :: ((D17.flatMap (rowM eN0)) ++ ((D18.flatMap eN2) ++ ((D19.flatMap eN2) ++ [])))) := ST.subR hS132 (sk 2 (sk 3 (sk 4 (sk 5 (sk 6 (suba (fun r_ (h : r_ ∈ ((D17.flatMap (rowM eN0)) : List Ro)) => mOd (i := 7) (show r_ ∈ ((((D17.flatMap (rowM eN0)) ++ ((D18.flatMap eN2) ++ ((D19.flatMap eN2) ++ [])))) : List Ro) from mAl _ h)) (suba (fun r_ (h : r_ ∈ ((D18.flatMap eN2) : List Ro)) => mOd (i := 7) (show r_ ∈ ((((D17.flatMap (rowM eN0)) ++ ((D18.flatMap eN2) ++ ((D19.flatMap eN2) ++ [])))) : List Ro) from mAr _ (mAl _ h))) (suba (fun r_ (h : r_ ∈ ((D19.flatMap eN2) : List Ro)) => mOd (i := 7) (show r_ ∈ ((((D17.flatMap (rowM eN0)) ++ ((D18.flatMap eN2) ++ ((D19.flatMap eN2) ++ [])))) : List Ro) from mAr _ (mAr _ (mAl _ h)))) (fun _ h => by cases h)))))))))
      exact ⟨k_9, Nat.lt_succ_self _, i4 + 1, words6, next_4, D17, B28, c27, D18, D19, (fc (hf9.g 0 0) (fc (hf9.g 4 1) (fc (hf9.g 9 2) (fc (hf9.g 11 3) (fc (hf9.g 45 5) (fc (hf9.g 46 6) (fc (hf9.g 49 7) (fc (hf9.g 50 8) (fc (congrArg (Value.int .i64) (wr_succ hlt9 hN4)) fn_))))))))), hD20, hD21, ho20, hD22, ho21, (hS191.sel [0, 1, 2, 3, 4, 6, 8] rfl rfl), (by omega), hL9⟩
    ·skip
     obtain rfl : K90 = 0 := by have h := of_decide_eq_false hlt8; omega
     refine cw_exit rfl ?_
     obtain rfl := sI hL8
     refine cq (cr ?_)
     refine sQ 115 (ym (.slice B24 next_3.length c23) rfl (hf8.g 11 3)) <| sQ 10 (yg (.slice B24 next_3.length c23)) (rn (cr ?_))
     refine sQ 116 (yd (aD b21) 0 0 k_fd_46_1_1_44 K105 rfl (hf8.g 9 2)) <| sQ 117 (yl (aD b21) 1 [.map (some g2), .slice B22 sizes1.length c21] (.slice B22 sizes1.length c21) k_sc_44 (hS125.c 1)) <| sQ 118 (ym (.slice B24 next_3.length c23)) <| sQ 119 (Y_len (B := B24) (m := next_3.length) (c := c23) K66 rfl rfl) ?_
     refine sS 120 (Ys_bslice (s := 1) (len := 1) (vs := [(0, vi (next_3.length : Int))]) (cs := [vi (next_3.length : Int)]) (zs := [vi 0]) (m := 1) hS125 K25 K1 K53 rfl (mpc rfl mpn) rfl rfl rfl (by kernel_rfl) (by kernel_rfl) rfl) ?_
     rintro _ w_131 ⟨b31, rfl, hS192⟩
     obtain ⟨hap5, hF13⟩ := chk_inv hF13
     refine sS 121 (Ys_append (s := 1) (by' := 8) (i := 3) (nn := sizes1.length) (c := c21) (k := 1) (len := (sizes1 ++ [(next_3.length : Int)]).length) (B := B22) (xs := ([(next_3.length : Int)].flatMap encI)) (cs' := ((sizes1 ++ [(next_3.length : Int)]).flatMap encI)) hS192 K25 K1 k_by_3_8 k_zero_3 rfl (by decide) rfl rfl rfl rfl (fm_lenn (l := sizes1) encI_len rfl) rfl (hS192.c 7) (fm_lenn (l := [(next_3.length : Int)]) encI_len rfl) (fm_one' (enc := encI) encI_one [(next_3.length : Int)]) (by have := hap5; omega) (by have := hap5; simp only [maxLen]; omega) (fm_app _ _) (app_len (l := sizes1) (l' := [(next_3.length : Int)]) rfl rfl)) ?_
     rintro _ w_132 ⟨B38, c36, rfl, hS193⟩
     refine sQ 122 (yd (aD b21) 0 0 k_fd_46_1_1_44 K105 rfl (hf8.g 9 2)) ?_
     refine s0 (yS 1 1 (aD b21) 46 (.slice B38 ((sizes1 ++ [(next_3.length : Int)]).length) c36) [.slice B38 ((sizes1 ++ [(next_3.length : Int)]).length) c36] 1 [.map (some g2), .slice B38 ((sizes1 ++ [(next_3.length : Int)]).length) c36] hS193 K105) ?_
     rintro _ w_133 ⟨rfl, hS194⟩
     refine rn (cr ?_)
     refine sQ 123 (yP (i3 : Int) 1 rfl (hf8.g 46 5)) <| sQ 46 (ym (vi (i64.wrap ((i3 : Int) + 1)))) (rn ?_)
     obtain rfl := sI hF13
     have hS195 : ST w0 [] _ [⟨aD b17, 46, [.map none, .slice none 0 0], 2⟩, ⟨aD b21, 46, [.map (some g2), .slice B38 ((sizes1 ++ [(next_3.length : Int)]).length) c36], 2⟩, ⟨(aD g2), .mp (mpE vStr vSl D14), [], 0⟩, ⟨B38, 3, ((sizes1 ++ [(next_3.length : Int)]).flatMap encI), c36 * 1⟩, ⟨B24, 75, (D15.flatMap eN3), c23 * 4⟩, ⟨B23, 75, (D16.flatMap eN3), c22 * 4⟩, ⟨aD b1, 30, [vi 0, .slice none 0 0], 2⟩, ⟨aD b31, 3, ([(next_3.length : Int)].flatMap encI), 1 * 1⟩] (⟨none, ([].flatMap eN0)⟩ :: ⟨B21, (r_16.Cells.flatMap eN1)⟩ :: ⟨aD b19, ([].flatMap eN0)⟩ :: ⟨B, (m.Cells.flatMap eN1)⟩ :: ⟨(aD 1), (gl1.flatMap enc_u64)⟩ :: ((D14.flatMap (rowM eN0)) ++ ((D15.flatMap eN2) ++ []))) := ST.subR hS194 (sk 0 (sk 1 (sk 2 (sk 3 (sk 4 (suba (fun r_ (h : r_ ∈ ((D14.flatMap (rowM eN0)) : List Ro)) => mOd (i := 5) (show r_ ∈ ((((D14.flatMap (rowM eN0)) ++ ((D15.flatMap eN2) ++ ((D16.flatMap eN2) ++ [])))) : List Ro) from mAl _ h)) (suba (fun r_ (h : r_ ∈ ((D15.flatMap eN2) : List Ro)) => mOd (i := 5) (show r_ ∈ ((((D14.flatMap (rowM eN0)) ++ ((D15.flatMap eN2) ++ ((D16.flatMap eN2) ++ [])))) : List Ro) from mAr _ (mAl _ h))) (fun _ h => by cases h))))))))
     exact ⟨k_7, Nat.lt_succ_self _, i3 + 1, words5, (sizes1 ++ [(next_3.length : Int)]), next_3, D14, B38, c36, B24, c23, D15, (fc (hf8.g 0 0) (fc (hf8.g 4 1) (fc (hf8.g 9 2) (fc rfl (fc (hf8.g 45 4) (fc (congrArg (Value.int .i64) (wr_succ hlt7 hN3)) fn_)))))), hD17, hD18, ho18, (hS195.sel [0, 1, 2, 3, 4, 6] rfl rfl), (by omega), hL7⟩
   ·skip
    obtain rfl : K68 = 0 := by have h := of_decide_eq_false hlt6; omega
    refine cw_exit rfl ?_
    obtain rfl := sI hL6
    refine cq (cr ?_)
    refine sQ 124 (yb (aD b21) 0 [.map (some g2), .slice B22 sizes1.length c21] k_ag_46 K89 (hS121.c 1) rfl (hf7.g 9 2)) ?_
    refine s0 (yT 0 2 (aD b17) 46 (.agg #[.map (some g2), .slice B22 sizes1.length c21]) [.map (some g2), .slice B22 sizes1.length c21] 0 hS121 K89 rfl (hf7.g 4 1)) ?_
    rintro _ w_134 ⟨rfl, hS196⟩
    have hS196 : ST w0 [] _ [⟨aD b17, 46, [.map (some g2), .slice B22 sizes1.length c21], 2⟩, ⟨aD b21, 46, [.map (some g2), .slice B22 sizes1.length c21], 2⟩, ⟨(aD g2), .mp (mpE vStr vSl D12), [], 0⟩, ⟨B22, 3, (sizes1.flatMap encI), c21 * 1⟩, ⟨B23, 75, (D13.flatMap eN3), c22 * 4⟩, ⟨aD b1, 30, [vi 0, .slice none 0 0], 2⟩] (⟨none, ([].flatMap eN0)⟩ :: ⟨B21, (r_16.Cells.flatMap eN1)⟩ :: ⟨aD b19, ([].flatMap eN0)⟩ :: ⟨B, (m.Cells.flatMap eN1)⟩ :: ⟨(aD 1), (gl1.flatMap enc_u64)⟩ :: ((D12.flatMap (rowM eN0)) ++ ((D13.flatMap eN2) ++ []))) := hS196
    refine rn (ct_ ?_)
    have hS197 : ST w0 [] _ [⟨aD b17, 46, [.map (some g2), .slice B22 sizes1.length c21], 2⟩, ⟨aD b21, 46, [.map (some g2), .slice B22 sizes1.length c21], 2⟩, ⟨(aD g2), .mp (mpE vStr vSl D12), [], 0⟩, ⟨B22, 3, (sizes1.flatMap encI), c21 * 1⟩, ⟨B23, 75, (D13.flatMap eN3), c22 * 4⟩, ⟨aD b1, 30, [vi 0, .slice none 0 0], 2⟩] (⟨B, (m.Cells.flatMap eN1)⟩ :: ⟨(aD 1), (gl1.flatMap enc_u64)⟩ :: ((D12.flatMap (rowM eN0)) ++ [])) := ST.subR hS196 (sk 3 (sk 4 (suba (fun r_ (h : r_ ∈ ((D12.flatMap (rowM eN0)) : List Ro)) => mOd (i := 5) (show r_ ∈ ((((D12.flatMap (rowM eN0)) ++ ((D13.flatMap eN2) ++ []))) : List Ro) from mAl _ h)) (fun _ h => by cases h))))
    obtain ⟨rfl, rfl⟩ := pr2 (sI hF12)
    exact ret1 Tryz.results21 (v1 := .agg #[.map (some g2), .slice B22 sizes1.length c21]) (resAt_cellA (B := aD b17) (i := 0) (cs := [.map (some g2), .slice B22 sizes1.length c21]) (vs := [.map (some g2), .slice B22 sizes1.length c21]) (hf7.g 4 1) k_ag_46 K89 (hS197.c 0) rfl rfl) ⟨g2, D12, B22, c21, rfl, hD15, (hS197.sel [2, 3, 5] rfl rfl)⟩
  rintro _ w_69 ⟨g, D, B2, c2, rfl, hD, hd12⟩
  have hd12 : ST w0 [] _ [⟨(aD g), .mp (mpE vStr vSl D), [], 0⟩, ⟨B2, 3, (t1.flatMap encI), c2 * 1⟩, ⟨aD b1, 30, [vi 0, .slice none 0 0], 2⟩] (⟨B, (m.Cells.flatMap eN1)⟩ :: ⟨(aD 1), (gl1.flatMap enc_u64)⟩ :: ((D.flatMap (rowM eN0)) ++ [])) := hd12
  refine sQ 42 (Y_field1 (v := .map (some g)) K103 K104 rfl rfl rfl) <| sQ 43 (ym (.string (bstr r_2)) rfl (hf.g 4 1)) ?_
  obtain ⟨⟨B39, c37⟩, hp4⟩ := mgt_dm hD r_2
  have hS198 : ST w0 [] _ [⟨(aD g), .mp (mpE vStr vSl D), [], 0⟩, ⟨B2, 3, (t1.flatMap encI), c2 * 1⟩, ⟨aD b1, 30, [vi 0, .slice none 0 0], 2⟩] (⟨none, ([].flatMap eN0)⟩ :: ⟨B, (m.Cells.flatMap eN1)⟩ :: ⟨(aD 1), (gl1.flatMap enc_u64)⟩ :: ((D.flatMap (rowM eN0)) ++ [])) := ST.nilRo hd12
  have hm14 : (⟨B39, ((mgt t r_2 []).flatMap eN0)⟩ : Ro) ∈ ((⟨none, ([].flatMap eN0)⟩ :: ⟨B, (m.Cells.flatMap eN1)⟩ :: ⟨(aD 1), (gl1.flatMap enc_u64)⟩ :: ((D.flatMap (rowM eN0)) ++ [])) : List Ro) := mgt_mem (R := (⟨none, ([].flatMap eN0)⟩ :: ⟨B, (m.Cells.flatMap eN1)⟩ :: ⟨(aD 1), (gl1.flatMap enc_u64)⟩ :: ((D.flatMap (rowM eN0)) ++ []))) (fun r_ (h : r_ ∈ ((D.flatMap (rowM eN0)) : List Ro)) => mOd (i := 3) (show r_ ∈ ((((D.flatMap (rowM eN0)) ++ [])) : List Ro) from mAl _ h)) (mt 0) hp4
  have hS199 : ST w0 [] _ [⟨(aD g), .mp (mpE vStr vSl D), [], 0⟩, ⟨B2, 3, (t1.flatMap encI), c2 * 1⟩, ⟨aD b1, 30, [vi 0, .slice none 0 0], 2⟩] (⟨B39, ((mgt t r_2 []).flatMap eN0)⟩ :: ⟨none, ([].flatMap eN0)⟩ :: ⟨B, (m.Cells.flatMap eN1)⟩ :: ⟨(aD 1), (gl1.flatMap enc_u64)⟩ :: ((D.flatMap (rowM eN0)) ++ [])) := ST.subR hS198 (subc hm14 (fun _ h => h))
  refine sQ 44 (Y_as (tupD hp4 (mhas_dm hD _)) (Y_mapOk (kE := vStr) (vE := vSl) (l := D) (a := r_2) (d := ((none, 0), [])) (g := g) (i := 0) hS199 (keyStr K87) K88 k_zero_28 rfl rfl rfl rfl)) <| sQ 38 (ym (.tuple #[.slice B39 ((mgt t r_2 []).length) c37, .bool (mhas t r_2)])) <| sQ 45 (ye (.slice B39 ((mgt t r_2 []).length) c37)) <| sQ 46 (ye (.bool (mhas t r_2))) <| sQ 8 (yg (.slice B39 ((mgt t r_2 []).length) c37)) <| sQ 9 (yg (.bool (mhas t r_2))) (rn (cq (cq (cr ?_))))
  refine sQ 47 (ym (.bool (mhas t r_2))) <| sQ 48 (Y_not (p := (mhas t r_2)) rfl rfl) (rn ?_)
  refine cw_cond (b := (!(mhas t r_2))) rfl (fun hb10 => ?_) (fun hb10 => ?_)
  ·skip
   have hF18 := ct hF3 hb10
   refine cq (cr ?_)
   refine sQ 49 (Y_buildS (zs := [vi 0, .slice none 0 0]) (vs := []) (cs := [vi 0, .slice none 0 0]) K64 K40 rfl mpn rfl) ?_
   refine s0 (yT 2 2 (aD b1) 30 (.agg #[vi 0, .slice none 0 0]) [vi 0, .slice none 0 0] 0 hS199 K18 rfl (hf.g 2 0)) ?_
   rintro _ w_135 ⟨rfl, hS200⟩
   refine sQ 3 (yg (.bool false)) (rn (ct_ ?_))
   have hS201 := hS200.addNil 56
   obtain ⟨rfl, rfl⟩ := pr2 (sI hF18)
   exact ret2 Tryz.results25 (v1 := .agg #[vi 0, .slice none 0 0]) (resAt_cellA (B := aD b1) (i := 0) (cs := [vi 0, .slice none 0 0]) (vs := [vi 0, .slice none 0 0]) (hf.g 2 0) K27 K18 (hS201.c 2) rfl rfl) (v2 := .bool false) (resAt_tmp rfl) ⟨none, 0, rfl, (hS201.sN [3])⟩
  ·skip
   have hF19 := cf' hF3 hb10
   refine cw_skip (cq (cr ?_))
   refine sQ 50 (ym (vi n1) rfl (hf.g 6 2)) <| sQ 51 (ym (.slice B39 ((mgt t r_2 []).length) c37)) ?_
   obtain ⟨⟨r_28, r_29⟩, hc16, hF19⟩ := bI hF19
   refine sc 52 rfl rfl (yC [vi n1, .slice B39 ((mgt t r_2 []).length) c37] k_call_47 (c_impl_circuitIf n1 (mgt t r_2 []) B39 c37 ((mgt t r_2 []).length) _ rfl (hS199.inn0 [(true, 0)] rfl) hc16)) ?_
   rintro _ w_136 ⟨B40, c38, rfl, hd24⟩
   have hS202 := hS199.out0 hd24
   refine sQ 53 (ye (.agg #[vi r_28.Qubits, .slice B40 r_28.Gates.length c38])) <| sQ 54 (ye (.bool r_29)) ?_
   refine s0 (yT 2 2 (aD b1) 30 (.agg #[vi r_28.Qubits, .slice B40 r_28.Gates.length c38]) [vi r_28.Qubits, .slice B40 r_28.Gates.length c38] 0 hS202 K18 rfl (hf.g 2 0)) ?_
   rintro _ w_137 ⟨rfl, hS203⟩
   refine sQ 3 (yg (.bool r_29)) (rn (ct_ ?_))
   obtain ⟨rfl, rfl⟩ := pr2 (sI hF19)
   exact ret2 Tryz.results25 (v1 := .agg #[vi r_28.Qubits, .slice B40 r_28.Gates.length c38]) (resAt_cellA (B := aD b1) (i := 0) (cs := [vi r_28.Qubits, .slice B40 r_28.Gates.length c38]) (vs := [vi r_28.Qubits, .slice B40 r_28.Gates.length c38]) (hf.g 2 0) K27 K18 (hS203.c 2) rfl rfl) (v2 := .bool r_29) (resAt_tmp rfl) ⟨B40, c38, rfl, (hS203.sN [3])⟩

theorem c_impl_ShortestLength (c : TCircuit) (B : Option Addr) (c1 n : Nat) (w0 : World) (hn : c.Gates.length = n) (ht1 : Go.Lib.TabIs Tryz.prog w0 "internal/strconv.uint64pow10" .u64 Go.Lib.pow10Tab) (hS : ST w0 [] w0 [] [⟨B, (c.Gates.flatMap eN0)⟩, ⟨(aD 1), (gl1.flatMap enc_u64)⟩]) {r_ : Int} {r_1 : Bool} (hF : F_impl_ShortestLength c = some (r_, r_1)) :
  CV Tryz.prog 14 #[.agg #[vi c.Qubits, .slice B n c1]] w0 (fun v w' => v = .tuple #[vi r_, .bool r_1] ∧ ST w0 [] w' [] []) := by
 subst hn
 have hgm1 : 1 ∉ [] := List.not_mem_nil
 unfold F_impl_ShortestLength at hF
 refine cv_of_cw 27 Tryz.func14 rfl Tryz.ntmps14 rfl ?_
 refine cq (cr ?_)
 refine sS 1 (yB 30 (.agg #[vi c.Qubits, .slice B c.Gates.length c1]) [vi c.Qubits, .slice B c.Gates.length c1] 2 hS) ?_
 rintro _ w_ ⟨b, rfl, hS1⟩
 refine sQ 2 (yg (vi 0)) <| sQ 3 (yg (.bool false)) (rn (cq (cq (cr ?_))))
 refine sQ 8 (yd (aD b) 0 0 K49 K1) <| sQ 9 (yl (aD b) 0 [vi c.Qubits, .slice B c.Gates.length c1] (vi c.Qubits) K0 (hS1.c 0)) <| sQ 10 (Y_gt (k := .i64) (a := c.Qubits) (b := 2) rfl rfl rfl) (rn ?_)
 refine cw_cond (b := (decide (2 < c.Qubits))) rfl (fun hb => ?_) (fun hb => ?_)
 ·skip
  have hF1 := ct hF hb
  refine cq (cr ?_)
  refine sQ 2 (yg (vi 0)) <| sQ 3 (yg (.bool false)) (rn (ct_ ?_))
  obtain ⟨rfl, rfl⟩ := pr2 (sI hF1)
  exact ret2 Tryz.results14 (v1 := vi 0) (resAt_tmp rfl) (v2 := .bool false) (resAt_tmp rfl) ⟨rfl, (hS1.sN [])⟩
 ·skip
  have hF2 := cf' hF hb
  refine cw_skip (cq (cr ?_))
  refine sQ 12 (yb (aD b) 0 [vi c.Qubits, .slice B c.Gates.length c1] K27 K18 (hS1.c 0)) ?_
  obtain ⟨⟨r_2, r_3⟩, hc, hF2⟩ := bI hF2
  refine sc 13 rfl rfl (yC [.agg #[vi c.Qubits, .slice B c.Gates.length c1]] k_call_24 (c_impl_OperatorOf c B c1 c.Gates.length _ rfl (hS1.inn0 [(true, 0)] rfl) hc)) ?_
  rintro _ w_1 ⟨B1, c2, rfl, hd⟩
  have hS2 := hS1.out0 hd
  refine sQ 11 (ym (.tuple #[gM_ r_2 B1 c2, .bool r_3])) <| sQ 14 (ye (gM_ r_2 B1 c2)) <| sQ 15 (ye (.bool r_3)) ?_
  refine sS 4 (yN kN_ 3 hS2 K13) ?_
  rintro _ w_2 ⟨b1, rfl, hS3⟩
  refine s0 (yT 2 3 (aD b1) 50 (gM_ r_2 B1 c2) (kM_ r_2 B1 c2) 0 hS3 K4) ?_
  rintro _ w_3 ⟨rfl, hS4⟩
  refine sQ 5 (yg (.bool r_3)) (rn (cq (cq (cr ?_))))
  refine sQ 16 (ym (.bool r_3)) <| sQ 17 (Y_not (p := r_3) rfl rfl) (rn ?_)
  refine cw_cond (b := (!r_3)) rfl (fun hb1 => ?_) (fun hb1 => ?_)
  ·skip
   have hF3 := ct hF2 hb1
   refine cq (cr ?_)
   refine sQ 2 (yg (vi 0)) <| sQ 3 (yg (.bool false)) (rn (ct_ ?_))
   obtain ⟨rfl, rfl⟩ := pr2 (sI hF3)
   exact ret2 Tryz.results14 (v1 := vi 0) (resAt_tmp rfl) (v2 := .bool false) (resAt_tmp rfl) ⟨rfl, (hS4.sN [])⟩
  ·skip
   have hF4 := cf' hF2 hb1
   refine cw_skip (cq (cr ?_))
   refine sQ 19 (yb (aD b1) 0 (kM_ r_2 B1 c2) K9 K4 (hS4.c 2)) ?_
   obtain ⟨⟨r_4, r_5⟩, hc1, hF4⟩ := bI hF4
   refine sc 20 rfl rfl (yC [gM_ r_2 B1 c2] k_call_25 (c_impl_ShortestWord r_2 B1 c2 r_2.Cells.length _ rfl (tab_keep hS4 ht1 (by kernel_rfl) hgm1) (hS4.inn0 [(false, 1), (true, 1)] rfl) hc1)) ?_
   rintro _ w_4 ⟨B2, c3, rfl, hd1⟩
   have hS5 := hS4.out0 hd1
   refine sQ 18 (ym (.tuple #[.agg #[vi r_4.Qubits, .slice B2 r_4.Gates.length c3], .bool r_5])) <| sQ 21 (ye (.agg #[vi r_4.Qubits, .slice B2 r_4.Gates.length c3])) <| sQ 22 (ye (.bool r_5)) ?_
   refine sS 6 (yN [vi 0, .slice none 0 0] 2 hS5 K40) ?_
   rintro _ w_5 ⟨b2, rfl, hS6⟩
   refine s0 (yT 4 2 (aD b2) 30 (.agg #[vi r_4.Qubits, .slice B2 r_4.Gates.length c3]) [vi r_4.Qubits, .slice B2 r_4.Gates.length c3] 0 hS6 K18) ?_
   rintro _ w_6 ⟨rfl, hS7⟩
   refine sQ 7 (yg (.bool r_5)) (rn (cq (cr ?_)))
   refine sQ 23 (yd (aD b2) 0 0 K44 K39) <| sQ 24 (yl (aD b2) 1 [vi r_4.Qubits, .slice B2 r_4.Gates.length c3] (.slice B2 r_4.Gates.length c3) K43 (hS7.c 4)) <| sQ 25 (Y_len (B := B2) (m := r_4.Gates.length) (c := c3) K11 rfl rfl) <| sQ 26 (ym (.bool r_5)) <| sQ 2 (yg (vi (r_4.Gates.length : Int))) <| sQ 3 (yg (.bool r_5)) (rn (ct_ ?_))
   obtain ⟨rfl, rfl⟩ := pr2 (sI hF4)
   exact ret2 Tryz.results14 (v1 := vi (r_4.Gates.length : Int)) (resAt_tmp rfl) (v2 := .bool r_5) (resAt_tmp rfl) ⟨rfl, (hS7.sN [])⟩

theorem c_impl_IsShortest (c : TCircuit) (B : Option Addr) (c1 n : Nat) (w0 : World) (hn : c.Gates.length = n) (ht1 : Go.Lib.TabIs Tryz.prog w0 "internal/strconv.uint64pow10" .u64 Go.Lib.pow10Tab) (hS : ST w0 [] w0 [] [⟨B, (c.Gates.flatMap eN0)⟩, ⟨(aD 1), (gl1.flatMap enc_u64)⟩]) {r_ : Bool} {r_1 : Bool} (hF : F_impl_IsShortest c = some (r_, r_1)) :
  CV Tryz.prog 9 #[.agg #[vi c.Qubits, .slice B n c1]] w0 (fun v w' => v = .tuple #[.bool r_, .bool r_1] ∧ ST w0 [] w' [] []) := by
 subst hn
 have hgm1 : 1 ∉ [] := List.not_mem_nil
 unfold F_impl_IsShortest at hF
 refine cv_of_cw 20 Tryz.func9 rfl Tryz.ntmps9 rfl ?_
 refine cq (cr ?_)
 refine sS 1 (yB 30 (.agg #[vi c.Qubits, .slice B c.Gates.length c1]) [vi c.Qubits, .slice B c.Gates.length c1] 2 hS) ?_
 rintro _ w_ ⟨b, rfl, hS1⟩
 refine sQ 2 (yg (.bool false)) <| sQ 3 (yg (.bool false)) (rn (cq (cr ?_)))
 refine sQ 7 (yb (aD b) 0 [vi c.Qubits, .slice B c.Gates.length c1] K27 K18 (hS1.c 0)) ?_
 obtain ⟨⟨r_2, r_3⟩, hc, hF⟩ := bI hF
 refine sc 8 rfl rfl (yC [.agg #[vi c.Qubits, .slice B c.Gates.length c1]] k_call_14 (c_impl_ShortestLength c B c1 c.Gates.length _ rfl (tab_keep hS1 ht1 (by kernel_rfl) hgm1) (hS1.inn0 [(true, 0), (true, 1)] rfl) hc)) ?_
 rintro _ w_1 ⟨rfl, hd⟩
 have hS2 := hS1.out00 hd
 refine sQ 6 (ym (.tuple #[vi r_2, .bool r_3])) <| sQ 9 (ye (vi r_2)) <| sQ 10 (ye (.bool r_3)) <| sQ 4 (yg (vi r_2)) <| sQ 5 (yg (.bool r_3)) (rn (cq (cr ?_)))
 refine sQ 11 (ym (.bool r_3)) <| sQ 12 (ym (.bool r_3)) ?_
 refine sgq 13 (B := r_3) (v := vi r_2) rfl rfl (uT_ 12) (fun hg => (ym (vi r_2))) ?_
 refine sgq 14 (B := r_3) (v := pt (aD b) 1) rfl rfl (uT_ 12) (fun hg1 => (yd (aD b) 0 0 K44 K39)) ?_
 refine sgq 15 (B := r_3) (v := .slice B c.Gates.length c1) rfl rfl (uT_ 12) (fun hg2 => (yl (aD b) 1 [vi c.Qubits, .slice B c.Gates.length c1] (.slice B c.Gates.length c1) K43 (hS2.c 0) rfl (gv_of (v := pt (aD b) 1) hg2))) ?_
 refine sgq 16 (B := r_3) (v := vi (c.Gates.length : Int)) rfl rfl (uT_ 12) (fun hg3 => (Y_len (B := B) (m := c.Gates.length) (c := c1) K11 rfl (gv_of (v := .slice B c.Gates.length c1) hg3))) ?_
 refine sgq 17 (B := r_3) (v := .bool (r_2 == (c.Gates.length : Int))) rfl rfl (uT_ 12) (fun hg4 => (yE r_2 (c.Gates.length : Int) rfl (gv_of (v := vi r_2) hg4) (gv_of (v := vi (c.Gates.length : Int)) hg4))) ?_
 refine sQ 18 (Y_and (b := r_3) (z := (r_2 == (c.Gates.length : Int))) rfl rfl rfl rfl) <| sQ 19 (ym (.bool r_3)) <| sQ 2 (yg (.bool (r_3 && (r_2 == (c.Gates.length : Int))))) <| sQ 3 (yg (.bool r_3)) (rn (ct_ ?_))
 obtain ⟨rfl, rfl⟩ := pr2 (sI hF)
 exact ret2 Tryz.results9 (v1 := .bool (r_3 && (r_2 == (c.Gates.length : Int)))) (resAt_tmp rfl) (v2 := .bool r_3) (resAt_tmp rfl) ⟨rfl, (hS2.sN [])⟩

theorem c_laws_eqGate (a : TGate) (b : TGate)  (w0 : World)  (hS : ST w0 [] w0 [] []) {r_ : Bool} (hF : F_laws_eqGate a b = some r_) :
  CV Tryz.prog 27 #[.agg #[vi a.Kind, vi a.A, vi a.B], .agg #[vi b.Kind, vi b.A, vi b.B]] w0 (fun v w' => v = .bool r_ ∧ ST w0 [] w' [] []) := by
 unfold F_laws_eqGate at hF
 refine cv_of_cw 20 Tryz.func27 rfl Tryz.ntmps27 rfl ?_
 refine cq (cr ?_)
 refine sS 2 (yB 56 (.agg #[vi a.Kind, vi a.A, vi a.B]) [vi a.Kind, vi a.A, vi a.B] 3 hS) ?_
 rintro _ w_ ⟨b1, rfl, hS1⟩
 refine sS 3 (yB 56 (.agg #[vi b.Kind, vi b.A, vi b.B]) [vi b.Kind, vi b.A, vi b.B] 3 hS1) ?_
 rintro _ w_1 ⟨b2, rfl, hS2⟩
 refine sQ 4 (yg (.bool false)) (rn (cq (cq (cr ?_))))
 refine sQ 5 (yd (aD b1) 0 0 K38 K1) <| sQ 6 (yl (aD b1) 0 [vi a.Kind, vi a.A, vi a.B] (vi a.Kind) K0 (hS2.c 0)) <| sQ 7 (yd (aD b2) 0 0 K38 K1) <| sQ 8 (yl (aD b2) 0 [vi b.Kind, vi b.A, vi b.B] (vi b.Kind) K0 (hS2.c 1)) <| sQ 9 (Y_ne (k := .i64) (a := a.Kind) (b := b.Kind) rfl rfl rfl) (rn ?_)
 refine cw_cond (b := (a.Kind != b.Kind)) rfl (fun hb => ?_) (fun hb => ?_)
 ·skip
  have hF1 := ct hF hb
  refine cq (cr ?_)
  refine sQ 4 (yg (.bool false)) (rn (ct_ ?_))
  obtain rfl := sI hF1
  exact ret1 Tryz.results27 (v1 := .bool false) (resAt_tmp rfl) ⟨rfl, (hS2.sN [])⟩
 ·skip
  have hF2 := cf' hF hb
  refine cw_skip (cq (cq (cr ?_)))
  refine sQ 10 (yd (aD b1) 0 0 K26 K1) <| sQ 11 (yl (aD b1) 1 [vi a.Kind, vi a.A, vi a.B] (vi a.A) K0 (hS2.c 0)) <| sQ 12 (yd (aD b2) 0 0 K26 K1) <| sQ 13 (yl (aD b2) 1 [vi b.Kind, vi b.A, vi b.B] (vi b.A) K0 (hS2.c 1)) <| sQ 14 (Y_ne (k := .i64) (a := a.A) (b := b.A) rfl rfl rfl) (rn ?_)
  refine cw_cond (b := (a.A != b.A)) rfl (fun hb1 => ?_) (fun hb1 => ?_)
  ·skip
   have hF3 := ct hF2 hb1
   refine cq (cr ?_)
   refine sQ 4 (yg (.bool false)) (rn (ct_ ?_))
   obtain rfl := sI hF3
   exact ret1 Tryz.results27 (v1 := .bool false) (resAt_tmp rfl) ⟨rfl, (hS2.sN [])⟩
  ·skip
   have hF4 := cf' hF2 hb1
   refine cw_skip (cq (cq (cr ?_)))
   refine sQ 15 (yd (aD b1) 0 0 K35 K1) <| sQ 16 (yl (aD b1) 2 [vi a.Kind, vi a.A, vi a.B] (vi a.B) K0 (hS2.c 0)) <| sQ 17 (yd (aD b2) 0 0 K35 K1) <| sQ 18 (yl (aD b2) 2 [vi b.Kind, vi b.A, vi b.B] (vi b.B) K0 (hS2.c 1)) <| sQ 19 (Y_ne (k := .i64) (a := a.B) (b := b.B) rfl rfl rfl) (rn ?_)
   refine cw_cond (b := (a.B != b.B)) rfl (fun hb2 => ?_) (fun hb2 => ?_)
   ·skip
    have hF5 := ct hF4 hb2
    refine cq (cr ?_)
    refine sQ 4 (yg (.bool false)) (rn (ct_ ?_))
    obtain rfl := sI hF5
    exact ret1 Tryz.results27 (v1 := .bool false) (resAt_tmp rfl) ⟨rfl, (hS2.sN [])⟩
   ·skip
    have hF6 := cf' hF4 hb2
    refine cw_skip (cq (cr ?_))
    refine sQ 4 (yg (.bool true)) (rn (ct_ ?_))
    obtain rfl := sI hF6
    exact ret1 Tryz.results27 (v1 := .bool true) (resAt_tmp rfl) ⟨rfl, (hS2.sN [])⟩

theorem c_laws_eqGateS (a : List TGate) (b : List TGate) (B : Option Addr) (c n : Nat) (B1 : Option Addr) (c1 n1 : Nat) (w0 : World) (hn : a.length = n) (hn1 : b.length = n1) (hS : ST w0 [] w0 [] [⟨B, (a.flatMap eN0)⟩, ⟨B1, (b.flatMap eN0)⟩]) {r_ : Bool} (hF : F_laws_eqGateS a b = some r_) :
  CV Tryz.prog 17 #[.slice B n c, .slice B1 n1 c1] w0 (fun v w' => v = .bool r_ ∧ ST w0 [] w' [] []) := by
 subst hn
 subst hn1
 unfold F_laws_eqGateS at hF
 refine cv_of_cw 27 Tryz.func17 rfl Tryz.ntmps17 rfl ?_
 refine cq (cr ?_)
 refine sQ 4 (yg (.bool false)) (rn (cq (cq (cr ?_))))
 refine sQ 6 (ym (.slice B a.length c)) <| sQ 7 (Y_len (B := B) (m := a.length) (c := c) K11 rfl rfl) <| sQ 8 (ym (.slice B1 b.length c1)) <| sQ 9 (Y_len (B := B1) (m := b.length) (c := c1) K11 rfl rfl) <| sQ 10 (Y_ne (k := .i64) (a := (a.length : Int)) (b := (b.length : Int)) rfl rfl rfl) (rn ?_)
 refine cw_cond (b := ((a.length : Int) != (b.length : Int))) rfl (fun hb => ?_) (fun hb => ?_)
 ·skip
  have hF1 := ct hF hb
  refine cq (cr ?_)
  refine sQ 4 (yg (.bool false)) (rn (ct_ ?_))
  obtain rfl := sI hF1
  exact ret1 Tryz.results17 (v1 := .bool false) (resAt_tmp rfl) ⟨rfl, (hS.sN [])⟩
 ·skip
  have hF2 := cf' hF hb
  refine cw_skip (cq (cq (cr ?_)))
  refine sQ 5 (yg (vi 0)) (rn ?_)
  obtain ⟨hN, hF2⟩ := chk_inv hF2
  obtain ⟨z, hz, hF3⟩ := bI hF2
  refine cw_block ?_
  refine cw_loop (fun k f w => ∃ (i1 : Nat), FF f [(0, .slice B a.length c), (1, .slice B1 b.length c1), (5, vi (i1 : Int))] ∧ ST w0 [] w [] [⟨B, (a.flatMap eN0)⟩, ⟨B1, (b.flatMap eN0)⟩] ∧ i1 + k = a.length ∧ forX (F_laws_eqGateS_l1 a b) k i1 () = some z) a.length ⟨0, (fc rfl (fc rfl (fc rfl fn_))), (hS.sel [] rfl rfl), Nat.zero_add _, hz⟩ ?_
  rintro k_ f w ⟨i1, hf, hS1, hik, hL⟩
  refine cq (cq (cr ?_))
  refine sQ 11 (ym (vi (i1 : Int)) rfl (hf.g 5 2)) <| sQ 12 (ym (.slice B a.length c) rfl (hf.g 0 0)) <| sQ 13 (Y_len (B := B) (m := a.length) (c := c) K11 rfl rfl) <| sQ 14 (yL (i1 : Int) (a.length : Int)) (rn ?_)
  refine cw_cond (b := (decide ((i1 : Int) < (a.length : Int)))) rfl (fun hlt => ?_) (fun hlt => ?_)
  ·skip
   have hlt1 : i1 < a.length := by have h := of_decide_eq_true hlt; omega
   obtain ⟨K7, rfl⟩ : ∃ k2, k_ = k2 + 1 := ⟨k_ - 1, by omega⟩
   obtain ⟨y, hb1, hL1⟩ := forX_go hL
   unfold F_laws_eqGateS_l1 at hb1
   refine cw_skip (cq (cw_block (cq ?_)))
   obtain ⟨x, hx, hb1⟩ := bI hb1
   obtain ⟨x1, hx1, hb1⟩ := bI hb1
   obtain ⟨r_1, hc, hb1⟩ := bI hb1
   refine ra_start (hS1.se []).fn (by kernel_rfl) ?_
   have hS3 := hS1.drew
   refine rq 0 17 (v := .slice B a.length c) rfl (hS3.se []) (fun w' hw' => (ym (.slice B a.length c) rfl (hf.g 0 0))) ?_
   refine rq 1 18 (v := vi (i1 : Int)) rfl (hS3.se []) (fun w' hw' => (ym (vi (i1 : Int)) rfl (hf.g 5 2))) ?_
   refine rq 2 19 (v := pt B ((i1 : Int).toNat * 3)) rfl (hS3.se []) (fun w' hw' => (Y_index (B := B) (m := a.length) (c := c) (k := .i64) (i := (i1 : Int)) K11 K10 rfl rfl rfl (gi_isSome enc_Gate_len rfl (ST.rf hw' (i := 0) rfl) hx) (getI_nn hx) (getI_ltI hx rfl))) ?_
   refine rq 3 20 (v := .agg #[vi x.Kind, vi x.A, vi x.B]) rfl (hS3.se []) (fun w' hw' => (ya B ((i1 : Int).toNat * 3) (a.flatMap eN0) [vi x.Kind, vi x.A, vi x.B] K31 K10 (ST.rf hw' (i := 0) rfl) rfl rfl (enc_Gate_len x) (gi_seg enc_Gate_len hx))) ?_
   refine rq 4 21 (v := .slice B1 b.length c1) rfl (hS3.se []) (fun w' hw' => (ym (.slice B1 b.length c1) rfl (hf.g 1 1))) ?_
   refine rq 5 22 (v := vi (i1 : Int)) rfl (hS3.se []) (fun w' hw' => (ym (vi (i1 : Int)) rfl (hf.g 5 2))) ?_
   refine rq 6 23 (v := pt B1 ((i1 : Int).toNat * 3)) rfl (hS3.se []) (fun w' hw' => (Y_index (B := B1) (m := b.length) (c := c1) (k := .i64) (i := (i1 : Int)) K11 K10 rfl rfl rfl (gi_isSome enc_Gate_len rfl (ST.rf hw' (i := 1) rfl) hx1) (getI_nn hx1) (getI_ltI hx1 rfl))) ?_
   refine rq 7 24 (v := .agg #[vi x1.Kind, vi x1.A, vi x1.B]) rfl (hS3.se []) (fun w' hw' => (ya B1 ((i1 : Int).toNat * 3) (b.flatMap eN0) [vi x1.Kind, vi x1.A, vi x1.B] K31 K10 (ST.rf hw' (i := 1) rfl) rfl rfl (enc_Gate_len x1) (gi_seg enc_Gate_len hx1))) ?_
   refine rA [8] ?_
   refine rC 25 8 rfl (yC [.agg #[vi x.Kind, vi x.A, vi x.B], .agg #[vi x1.Kind, vi x1.A, vi x1.B]] k_call_27 (c_laws_eqGate x x1 _  (hS3.inn0 [] rfl) hc)) ?_ ?_
   ·rintro _ w_ ⟨rfl, hd⟩
    have hS4 := hS3.out00 hd
    refine ⟨(hS4.se []), ?_⟩
    refine rq 9 26 (v := .bool (!r_1)) rfl (hS4.se []) (fun w' hw' => (Y_not (p := r_1) rfl rfl)) ?_
    refine ra_done (by kernel_rfl) ?_
    refine cw_cond (b := (!r_1)) rfl (fun hb2 => ?_) (fun hb2 => ?_)
    ·skip
     have hF4 := ct hb1 hb2
     refine cq (cr ?_)
     refine sQ 4 (yg (.bool false)) (rn (ct_ ?_))
     obtain rfl := sI hF4
     obtain rfl := sI hL1
     obtain rfl := sI hF3
     exact ret1 Tryz.results17 (v1 := .bool false) (resAt_tmp rfl) ⟨rfl, (hS4.sN [])⟩
    ·skip
     have hF5 := cf' hb1 hb2
     refine cw_skip (cr ?_)
     refine sQ 15 (ym (vi (i1 : Int)) rfl (hf.g 5 2)) <| sQ 16 (yP (i1 : Int) 1) <| sQ 5 (yg (vi (i64.wrap ((i1 : Int) + 1)))) (rn ?_)
     obtain rfl := sI hF5
     exact ⟨K7, Nat.lt_succ_self _, i1 + 1, (fc (hf.g 0 0) (fc (hf.g 1 1) (fc (congrArg (Value.int .i64) (wr_succ hlt1 hN)) fn_))), (hS4.sel [] rfl rfl), (by omega), hL1⟩
   exact aN
  ·skip
   obtain rfl : k_ = 0 := by have h := of_decide_eq_false hlt; omega
   refine cw_exit rfl ?_
   obtain rfl := sI hL
   refine cq (cr ?_)
   refine sQ 4 (yg (.bool true)) (rn (ct_ ?_))
   obtain rfl := sI hF3
   exact ret1 Tryz.results17 (v1 := .bool true) (resAt_tmp rfl) ⟨rfl, (hS1.sN [])⟩

theorem c_laws_eqCircuit (a : TCircuit) (b : TCircuit) (B : Option Addr) (c n : Nat) (B1 : Option Addr) (c1 n1 : Nat) (w0 : World) (hn : a.Gates.length = n) (hn1 : b.Gates.length = n1) (hS : ST w0 [] w0 [] [⟨B, (a.Gates.flatMap eN0)⟩, ⟨B1, (b.Gates.flatMap eN0)⟩]) {r_ : Bool} (hF : F_laws_eqCircuit a b = some r_) :
  CV Tryz.prog 10 #[.agg #[vi a.Qubits, .slice B n c], .agg #[vi b.Qubits, .slice B1 n1 c1]] w0 (fun v w' => v = .bool r_ ∧ ST w0 [] w' [] []) := by
 subst hn
 subst hn1
 unfold F_laws_eqCircuit at hF
 refine cv_of_cw 16 Tryz.func10 rfl Tryz.ntmps10 rfl ?_
 refine cq (cr ?_)
 refine sS 2 (yB 30 (.agg #[vi a.Qubits, .slice B a.Gates.length c]) [vi a.Qubits, .slice B a.Gates.length c] 2 hS) ?_
 rintro _ w_ ⟨b1, rfl, hS1⟩
 refine sS 3 (yB 30 (.agg #[vi b.Qubits, .slice B1 b.Gates.length c1]) [vi b.Qubits, .slice B1 b.Gates.length c1] 2 hS1) ?_
 rintro _ w_1 ⟨b2, rfl, hS2⟩
 refine sQ 4 (yg (.bool false)) (rn (cq (cq (cr ?_))))
 refine sQ 5 (yd (aD b1) 0 0 K49 K1) <| sQ 6 (yl (aD b1) 0 [vi a.Qubits, .slice B a.Gates.length c] (vi a.Qubits) K0 (hS2.c 0)) <| sQ 7 (yd (aD b2) 0 0 K49 K1) <| sQ 8 (yl (aD b2) 0 [vi b.Qubits, .slice B1 b.Gates.length c1] (vi b.Qubits) K0 (hS2.c 1)) <| sQ 9 (Y_ne (k := .i64) (a := a.Qubits) (b := b.Qubits) rfl rfl rfl) (rn ?_)
 refine cw_cond (b := (a.Qubits != b.Qubits)) rfl (fun hb => ?_) (fun hb => ?_)
 ·skip
  have hF1 := ct hF hb
  refine cq (cr ?_)
  refine sQ 4 (yg (.bool false)) (rn (ct_ ?_))
  obtain rfl := sI hF1
  exact ret1 Tryz.results10 (v1 := .bool false) (resAt_tmp rfl) ⟨rfl, (hS2.sN [])⟩
 ·skip
  have hF2 := cf' hF hb
  refine cw_skip (cq (cq (cr ?_)))
  refine sQ 10 (yd (aD b1) 0 0 K44 K39) <| sQ 11 (yl (aD b1) 1 [vi a.Qubits, .slice B a.Gates.length c] (.slice B a.Gates.length c) K43 (hS2.c 0)) <| sQ 12 (yd (aD b2) 0 0 K44 K39) <| sQ 13 (yl (aD b2) 1 [vi b.Qubits, .slice B1 b.Gates.length c1] (.slice B1 b.Gates.length c1) K43 (hS2.c 1)) ?_
  obtain ⟨r_1, hc, hF2⟩ := bI hF2
  refine sc 14 rfl rfl (yC [.slice B a.Gates.length c, .slice B1 b.Gates.length c1] k_call_17 (c_laws_eqGateS a.Gates b.Gates B c a.Gates.length B1 c1 b.Gates.length _ rfl rfl (hS2.inn0 [(true, 0), (true, 1)] rfl) hc)) ?_
  rintro _ w_2 ⟨rfl, hd⟩
  have hS3 := hS2.out00 hd
  refine sQ 15 (Y_not (p := r_1) rfl rfl) (rn ?_)
  refine cw_cond (b := (!r_1)) rfl (fun hb1 => ?_) (fun hb1 => ?_)
  ·skip
   have hF3 := ct hF2 hb1
   refine cq (cr ?_)
   refine sQ 4 (yg (.bool false)) (rn (ct_ ?_))
   obtain rfl := sI hF3
   exact ret1 Tryz.results10 (v1 := .bool false) (resAt_tmp rfl) ⟨rfl, (hS3.sN [])⟩
  ·skip
   have hF4 := cf' hF2 hb1
   refine cw_skip (cq (cr ?_))
   refine sQ 4 (yg (.bool true)) (rn (ct_ ?_))
   obtain rfl := sI hF4
   exact ret1 Tryz.results10 (v1 := .bool true) (resAt_tmp rfl) ⟨rfl, (hS3.sN [])⟩

theorem c_laws_FnExactIsShortest (aC : TCircuit) (B : Option Addr) (c n : Nat) (w0 : World) (hn : aC.Gates.length = n) (ht1 : Go.Lib.TabIs Tryz.prog w0 "internal/strconv.uint64pow10" .u64 Go.Lib.pow10Tab) (hS : ST w0 [] w0 [] [⟨B, (aC.Gates.flatMap eN0)⟩, ⟨(aD 1), (gl1.flatMap enc_u64)⟩]) {r_ : Bool} (hF : F_laws_FnExactIsShortest aC = some r_) :
  CV Tryz.prog 3 #[.agg #[vi aC.Qubits, .slice B n c]] w0 (fun v w' => v = .bool r_ ∧ ST w0 [] w' [] []) := by
 subst hn
 have hgm1 : 1 ∉ [] := List.not_mem_nil
 unfold F_laws_FnExactIsShortest at hF
 refine cv_of_cw 40 Tryz.func3 rfl Tryz.ntmps3 rfl ?_
 refine cq (cr ?_)
 refine sS 1 (yB 24 (.agg #[vi aC.Qubits, .slice B aC.Gates.length c]) [vi aC.Qubits, .slice B aC.Gates.length c] 2 hS) ?_
 rintro _ w_ ⟨b, rfl, hS1⟩
 refine sQ 2 (yg (.bool false)) (rn (cq (cr ?_)))
 refine sQ 3 (yg (vi 1048576)) (rn (cq (cr ?_)))
 refine sQ 9 (yb (aD b) 0 [vi aC.Qubits, .slice B aC.Gates.length c] K92 K93 (hS1.c 0)) <| sQ 10 (ym (vi 1048576)) ?_
 obtain ⟨r_1, hc, hF⟩ := bI hF
 refine sc 11 rfl rfl (yC [.agg #[vi aC.Qubits, .slice B aC.Gates.length c], vi 1048576] k_call_6 (c_laws_szCircuit aC 1048576 B c aC.Gates.length _ rfl (hS1.inn0 [(true, 0)] rfl) hc)) ?_
 rintro _ w_1 ⟨rfl, hd⟩
 have hS2 := hS1.out00 hd
 refine sQ 3 (yg (vi r_1)) (rn (cq (cq (cr ?_))))
 refine sQ 12 (ym (vi r_1)) <| sQ 13 (yL r_1 0) (rn ?_)
 refine cw_cond (b := (decide (r_1 < 0))) rfl (fun hb => ?_) (fun hb => ?_)
 ·skip
  have hF1 := ct hF hb
  refine cq (cr ?_)
  refine sQ 2 (yg (.bool true)) (rn (ct_ ?_))
  obtain rfl := sI hF1
  exact ret1 Tryz.results3 (v1 := .bool true) (resAt_tmp rfl) ⟨rfl, (hS2.sN [])⟩
 ·skip
  have hF2 := cf' hF hb
  refine cw_skip (cq (cr ?_))
  refine sQ 15 (yb (aD b) 0 [vi aC.Qubits, .slice B aC.Gates.length c] K92 K93 (hS2.c 0)) ?_
  obtain ⟨r_2, hc1, hF2⟩ := bI hF2
  refine sc 16 rfl rfl (yC [.agg #[vi aC.Qubits, .slice B aC.Gates.length c]] K106 (c_laws_toCircuit aC B c aC.Gates.length _ rfl (hS2.inn0 [(true, 0)] rfl) hc1)) ?_
  rintro _ w_2 ⟨B1, c1, rfl, hd1⟩
  have hS3 := hS2.out0 hd1
  obtain ⟨⟨r_3, r_4⟩, hc2, hF2⟩ := bI hF2
  refine sc 17 rfl rfl (yC [.agg #[vi r_2.Qubits, .slice B1 r_2.Gates.length c1]] k_call_7 (c_spec_IsShortest r_2 B1 c1 r_2.Gates.length _ rfl (hS3.inn0 [(false, 1)] rfl) hc2)) ?_
  rintro _ w_3 ⟨rfl, hd2⟩
  have hS4 := hS3.out00 hd2
  refine sQ 14 (ym (.tuple #[.bool r_3, .bool r_4])) <| sQ 18 (ye (.bool r_3)) <| sQ 19 (ye (.bool r_4)) <| sQ 4 (yg (.bool r_3)) <| sQ 5 (yg (.bool r_4)) (rn (cq (cr ?_)))
  refine sQ 20 (yb (aD b) 0 [vi aC.Qubits, .slice B aC.Gates.length c] K92 K93 (hS4.c 0)) ?_
  obtain ⟨r_5, hc3, hF2⟩ := bI hF2
  refine sc 21 rfl rfl (yC [.agg #[vi aC.Qubits, .slice B aC.Gates.length c]] K106 (c_laws_toCircuit aC B c aC.Gates.length _ rfl (hS4.inn0 [(true, 0)] rfl) hc3)) ?_
  rintro _ w_4 ⟨B2, c2, rfl, hd3⟩
  have hS5 := hS4.out0 hd3
  refine sS 6 (yN [vi 0, .slice none 0 0] 2 hS5 K40) ?_
  rintro _ w_5 ⟨b1, rfl, hS6⟩
  refine s0 (yT 3 2 (aD b1) 30 (.agg #[vi r_5.Qubits, .slice B2 r_5.Gates.length c2]) [vi r_5.Qubits, .slice B2 r_5.Gates.length c2] 0 hS6 K18) ?_
  rintro _ w_6 ⟨rfl, hS7⟩
  refine rn (cq (cr ?_))
  refine sQ 23 (yb (aD b1) 0 [vi r_5.Qubits, .slice B2 r_5.Gates.length c2] K27 K18 (hS7.c 3)) ?_
  obtain ⟨⟨r_6, r_7⟩, hc4, hF2⟩ := bI hF2
  refine sc 24 rfl rfl (yC [.agg #[vi r_5.Qubits, .slice B2 r_5.Gates.length c2]] k_call_9 (c_impl_IsShortest r_5 B2 c2 r_5.Gates.length _ rfl (tab_keep hS7 ht1 (by kernel_rfl) hgm1) (hS7.inn0 [(false, 2), (true, 1)] rfl) hc4)) ?_
  rintro _ w_7 ⟨rfl, hd4⟩
  have hS8 := hS7.out00 hd4
  refine sQ 22 (ym (.tuple #[.bool r_6, .bool r_7])) <| sQ 25 (ye (.bool r_6)) <| sQ 26 (ye (.bool r_7)) <| sQ 7 (yg (.bool r_6)) <| sQ 8 (yg (.bool r_7)) (rn (cq (cq (cr ?_))))
  refine sQ 27 (ym (.bool r_6)) <| sQ 28 (ym (.bool r_3)) <| sQ 29 (Y_bne (p := r_6) (q := r_3) k_und_4 rfl rfl rfl) <| sQ 30 (ym (.bool (!(r_6 == r_3)))) ?_
  refine sgq 31 (B := (!(!(r_6 == r_3)))) (v := .bool r_7) rfl rfl (uF_ 30) (fun hg => (ym (.bool r_7))) ?_
  refine sgq 32 (B := (!(!(r_6 == r_3)))) (v := .bool r_4) rfl rfl (uF_ 30) (fun hg1 => (ym (.bool r_4))) ?_
  refine sgq 33 (B := (!(!(r_6 == r_3)))) (v := .bool (!(r_7 == r_4))) rfl rfl (uF_ 30) (fun hg2 => (Y_bne (p := r_7) (q := r_4) k_und_4 rfl (gv_of (v := .bool r_7) hg2) (gv_of (v := .bool r_4) hg2))) ?_
  refine sQ 34 (Y_or (b := (!(r_6 == r_3))) (z := (!(r_7 == r_4))) rfl rfl rfl rfl) (rn ?_)
  refine cw_cond (b := ((!(r_6 == r_3)) || (!(r_7 == r_4)))) rfl (fun hb1 => ?_) (fun hb1 => ?_)
  ·skip
   have hF3 := ct hF2 hb1
   refine cq (cr ?_)
   refine sQ 2 (yg (.bool false)) (rn (ct_ ?_))
   obtain rfl := sI hF3
   exact ret1 Tryz.results3 (v1 := .bool false) (resAt_tmp rfl) ⟨rfl, (hS8.sN [])⟩
  ·skip
   have hF4 := cf' hF2 hb1
   refine cw_skip (cq (cq ?_))
   obtain ⟨r_8, hc5, hF4⟩ := bI hF4
   obtain ⟨r_9, hc6, hF4⟩ := bI hF4
   refine ra_start (hS8.se [0, 1, 2, 3]).fn (by kernel_rfl) ?_
   have hS11 := hS8.drew
   refine rq 0 35 (v := .agg #[vi r_5.Qubits, .slice B2 r_5.Gates.length c2]) rfl (hS11.se [0, 1, 2, 3]) (fun w' hw' => (yb (aD b1) 0 [vi r_5.Qubits, .slice B2 r_5.Gates.length c2] K27 K18 (ST.cf hw' (i := 3) rfl))) ?_
   refine rq 1 36 (v := .agg #[vi aC.Qubits, .slice B aC.Gates.length c]) rfl (hS11.se [0, 1, 2, 3]) (fun w' hw' => (yb (aD b) 0 [vi aC.Qubits, .slice B aC.Gates.length c] K92 K93 (ST.cf hw' (i := 0) rfl))) ?_
   refine rA [2] ?_
   refine rC 37 2 rfl (yC [.agg #[vi aC.Qubits, .slice B aC.Gates.length c]] K106 (c_laws_toCircuit aC B c aC.Gates.length _ rfl (hS11.inn0 [(true, 0)] rfl) hc5)) ?_ ?_
   ·rintro _ w_8 ⟨B3, c3, rfl, hd5⟩
    have hS12 := hS11.out0 hd5
    refine ⟨(hS12.se [0, 1, 2, 3]), ?_⟩
    refine rA [3] ?_
    refine rC 38 3 rfl (yC [.agg #[vi r_5.Qubits, .slice B2 r_5.Gates.length c2], .agg #[vi r_8.Qubits, .slice B3 r_8.Gates.length c3]] k_call_10 (c_laws_eqCircuit r_5 r_8 B2 c2 r_5.Gates.length B3 c3 r_8.Gates.length _ rfl rfl (hS12.inn0 [(false, 2), (false, 4)] rfl) hc6)) ?_ ?_
    ·rintro _ w_9 ⟨rfl, hd6⟩
     have hS13 := hS12.out00 hd6
     refine ⟨(hS13.se [0, 1, 2, 3]), ?_⟩
     refine rq 4 39 (v := .bool (!r_9)) rfl (hS13.se [0, 1, 2, 3]) (fun w' hw' => (Y_not (p := r_9) rfl rfl)) ?_
     refine ra_done (by kernel_rfl) ?_
     refine cw_cond (b := (!r_9)) rfl (fun hb2 => ?_) (fun hb2 => ?_)
     ·skip
      have hF5 := ct hF4 hb2
      refine cq (cr ?_)
      refine sQ 2 (yg (.bool false)) (rn (ct_ ?_))
      obtain rfl := sI hF5
      exact ret1 Tryz.results3 (v1 := .bool false) (resAt_tmp rfl) ⟨rfl, (hS13.sN [])⟩
     ·skip
      have hF6 := cf' hF4 hb2
      refine cw_skip (cq (cr ?_))
      refine sQ 2 (yg (.bool true)) (rn (ct_ ?_))
      obtain rfl := sI hF6
      exact ret1 Tryz.results3 (v1 := .bool true) (resAt_tmp rfl) ⟨rfl, (hS13.sN [])⟩
    exact aN
   exact aN
end Go.VK
