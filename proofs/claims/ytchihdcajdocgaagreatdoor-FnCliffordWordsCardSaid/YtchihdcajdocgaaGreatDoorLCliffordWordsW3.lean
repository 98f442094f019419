/- Walks: each Go function returns what its Lean function says. By program. -/
import Derived.Test.YtchihdcajdocgaaGreatDoorLCliffordWordsFa
import Derived.Test.YtchihdcajdocgaaGreatDoorLCliffordWordsW2
set_option linter.unusedVariables false
set_option maxRecDepth 100000
set_option maxHeartbeats 4000000
namespace Go.VK
open Go.RowKit
open Go.Proofs
open Go.IntKind
attribute [local irreducible] CW RW RA CV Y Yw Yc Ys RetOf
attribute [local irreducible] F_spec_l2Power F_spec_l6One F_impl_within F_impl_MulDyadic F_impl_AddDyadic F_impl_mulBloch F_impl_whole F_impl_small F_impl_IsValidBloch F_impl_IsValidMatrix F_impl_matrixOf F_impl_Matrix_at F_impl_Adjoint F_impl_MulMatrix F_slices_Equal_impl_Dyadic_impl_Dyadic F_impl_IsOneQubit F_impl_isTwo F_impl_IsValidGate F_impl_phase F_impl_bitOf F_impl_flipped F_impl_comesFrom F_impl_entry F_impl_GateMatrix_1 F_impl_GateMatrix F_impl_TraceOf F_impl_blochCell F_impl_BlochOf F_impl_blochGate F_slices_IndexFunc_SSimpl_Dyadic_impl_Dyadic F_slices_ContainsFunc_SSimpl_Dyadic_impl_Dyadic F_impl_cliffordList_1 F_impl_cliffordList F_impl_CliffordIndex F_spec_l1Cur_next F_spec_l1Cur_pick F_spec_DrawCliffordWord F_impl_CliffordWord F_spec_l6Bit F_spec_l6Cell F_spec_l6Gate
theorem c_impl_GateMatrix_1 (i : Int) (j : Int) (p : TGate) (p1 : Int) (B : Option Addr) (B1 : Option Addr) (w0 : World)  (hS : ST w0 [] w0 [] [⟨B, [vi p.Kind, vi p.A, vi p.B]⟩, ⟨B1, [vi p1]⟩]) {r_ : TDyadic} {r_1 : Bool} (hF : F_impl_GateMatrix_1 i j p p1 = some (r_, r_1)) :
  CV Tryz.prog 100 #[vi i, vi j, pt B 0, pt B1 0] w0 (fun v w' => v = .tuple #[gD_ r_, .bool r_1] ∧ ST w0 [] w' [] []) := by
 unfold F_impl_GateMatrix_1 at hF
 refine cv_of_cw 75 Tryz.func100 rfl Tryz.ntmps100 rfl ?_
 refine cq (cr ?_)
 refine sS 6 (yN kZ_ 5 hS K5) ?_
 rintro _ w_ ⟨b, rfl, hS1⟩
 refine sQ 7 (yg (.bool false)) (rn (cq ?_))
 obtain ⟨z, hz, hF1⟩ := bI hF
 refine cw_mid (fun f w => .inl () = z ∧ FF f [(6, pt (aD b) 0)] ∧ ST w0 [] w [⟨aD b, 54, kZ_, 5⟩] [⟨B, [vi p.Kind, vi p.A, vi p.B]⟩, ⟨B1, [vi p1]⟩]) ?_ ?_
 ·skip
  refine cw_block (cq (cr ?_))
  refine sQ 9 (yd B 0 0 K44 K2) <| sQ 10 (yl B 0 [vi p.Kind, vi p.A, vi p.B] (vi p.Kind) K1 (hS1.rf (i := 0) rfl)) <| sQ 11 (yE p.Kind 12) <| sQ 8 (yg (.bool (p.Kind == 12))) (rn ?_)
  refine cw_cond (b := (p.Kind == 12)) rfl (fun hb => ?_) (fun hb => ?_)
  ·skip
   have hF2 := ct hz hb
   refine cq (cr ?_)
   refine sQ 12 (ym (vi i)) <| sQ 13 (ym (vi j)) <| sQ 14 (yE i j) (rn ?_)
   refine cw_cond (b := (i == j)) rfl (fun hb1 => ?_) (fun hb1 => ?_)
   ·skip
    have hF3 := ct hF2 hb1
    refine cq (cr ?_)
    obtain ⟨r_2, hc, hF3⟩ := bI hF3
    refine sc 15 rfl rfl (yC [vi 1] K115 (c_impl_phase 1 _  (hS1.inn0 [] rfl) hc)) ?_
    rintro _ w_1 ⟨rfl, hd⟩
    have hS3 := hS1.out00 hd
    refine s0 (yT 0 5 (aD b) 54 (gD_ r_2) (kD_ r_2) 0 hS3 K0) ?_
    rintro _ w_2 ⟨rfl, hS4⟩
    refine sQ 7 (yg (.bool true)) (rn (ct_ ?_))
    obtain rfl := sI hF3
    obtain ⟨rfl, rfl⟩ := pr2 (sI hF1)
    exact ret2 Tryz.results100 (v1 := gD_ r_2) (resAt_cellA (B := aD b) (i := 0) (cs := kD_ r_2) (vs := kD_ r_2) rfl K3 K0 (hS4.c 0) rfl rfl) (v2 := .bool true) (resAt_tmp rfl) ⟨rfl, (hS4.sN [])⟩
   ·skip
    have hF4 := cf' hF2 hb1
    refine cw_skip ?_
    exact ⟨(sI hF4), (fc rfl fn_), (hS1.sel [0] rfl rfl)⟩
  ·skip
   have hF5 := cf' hz hb
   refine cq (cr ?_)
   refine sQ 17 (yd B 0 0 K44 K2) <| sQ 18 (yl B 0 [vi p.Kind, vi p.A, vi p.B] (vi p.Kind) K1 (hS1.rf (i := 0) rfl)) ?_
   obtain ⟨r_3, hc1, hF5⟩ := bI hF5
   refine sc 19 rfl rfl (yC [vi p.Kind] k_call_102 (c_impl_isTwo p.Kind _  (hS1.inn0 [] rfl) hc1)) ?_
   rintro _ w_3 ⟨rfl, hd1⟩
   have hS5 := hS1.out00 hd1
   refine sQ 16 (yg (.bool r_3)) (rn ?_)
   refine cw_cond (b := r_3) rfl (fun hb2 => ?_) (fun hb2 => ?_)
   ·skip
    have hF6 := ct hF5 hb2
    refine cq (cr ?_)
    refine sQ 20 (yl B1 0 [vi p1] (vi p1) K1 (hS5.rf (i := 1) rfl)) <| sQ 21 (yb B 0 [vi p.Kind, vi p.A, vi p.B] K52 K28 (hS5.rf (i := 0) rfl)) <| sQ 22 (ym (vi i)) ?_
    obtain ⟨r_4, hc2, hF6⟩ := bI hF6
    refine sc 23 rfl rfl (yC [vi p1, .agg #[vi p.Kind, vi p.A, vi p.B], vi i] k_call_103 (c_impl_comesFrom p1 p i _  (hS5.inn0 [] rfl) hc2)) ?_
    rintro _ w_4 ⟨rfl, hd2⟩
    have hS6 := hS5.out00 hd2
    refine sQ 24 (ym (vi j)) <| sQ 25 (yE r_4 j) (rn ?_)
    refine cw_cond (b := (r_4 == j)) rfl (fun hb3 => ?_) (fun hb3 => ?_)
    ·skip
     have hF7 := ct hF6 hb3
     refine cq (cr ?_)
     refine sQ 26 (yd B 0 0 K44 K2) <| sQ 27 (yl B 0 [vi p.Kind, vi p.A, vi p.B] (vi p.Kind) K1 (hS6.rf (i := 0) rfl)) <| sQ 28 (yE p.Kind 10) <| sQ 29 (ym (.bool (p.Kind == 10))) ?_
     refine sgq 30 (B := (p.Kind == 10)) (v := vi p1) rfl rfl (uT_ 29) (fun hg => (yl B1 0 [vi p1] (vi p1) K1 (hS6.rf (i := 1) rfl))) ?_
     refine sgq 31 (B := (p.Kind == 10)) (v := vi i) rfl rfl (uT_ 29) (fun hg1 => (ym (vi i))) ?_
     refine sgq 32 (B := (p.Kind == 10)) (v := pt B 1) rfl rfl (uT_ 29) (fun hg2 => (yd B 0 0 K37 K2)) ?_
     refine sgq 33 (B := (p.Kind == 10)) (v := vi p.A) rfl rfl (uT_ 29) (fun hg3 => (yl B 1 [vi p.Kind, vi p.A, vi p.B] (vi p.A) K1 (hS6.rf (i := 0) rfl) rfl (gv_of (v := pt B 1) hg3))) ?_
     obtain ⟨r_5, hc3, hF7⟩ := bI hF7
     refine sgc 34 (B := (p.Kind == 10)) (v := vi r_5) (F := hS6.fn) rfl rfl (uT_ 29) hS6 (fun hg4 => (yC [vi p1, vi i, vi p.A] K93 (CV.mono (c_impl_bitOf p1 i p.A _  (hS6.inn0 [] rfl) (gb_inv hc3 hg4)) (by rintro _ _ ⟨rfl, h⟩; exact ⟨rfl, hS6.out00 h⟩)) rfl (mc (gv_of (v := vi p1) hg4) (mc (gv_of (v := vi i) hg4) (mc (gv_of (v := vi p.A) hg4) mn))))) ?_
     rintro w_5 hS7
     refine sgq 35 (B := (p.Kind == 10)) (v := .bool (r_5 == 1)) rfl rfl (uT_ 29) (fun hg5 => (yE r_5 1 rfl (gv_of (v := vi r_5) hg5))) ?_
     refine sQ 36 (Y_and (b := (p.Kind == 10)) (z := (r_5 == 1)) rfl rfl rfl rfl) <| sQ 37 (ym (.bool ((p.Kind == 10) && (r_5 == 1)))) ?_
     refine sgq 38 (B := ((p.Kind == 10) && (r_5 == 1))) (v := vi p1) rfl rfl (uT_ 37) (fun hg6 => (yl B1 0 [vi p1] (vi p1) K1 (hS7.rf (i := 1) rfl))) ?_
     refine sgq 39 (B := ((p.Kind == 10) && (r_5 == 1))) (v := vi i) rfl rfl (uT_ 37) (fun hg7 => (ym (vi i))) ?_
     refine sgq 40 (B := ((p.Kind == 10) && (r_5 == 1))) (v := pt B 2) rfl rfl (uT_ 37) (fun hg8 => (yd B 0 0 K42 K2)) ?_
     refine sgq 41 (B := ((p.Kind == 10) && (r_5 == 1))) (v := vi p.B) rfl rfl (uT_ 37) (fun hg9 => (yl B 2 [vi p.Kind, vi p.A, vi p.B] (vi p.B) K1 (hS7.rf (i := 0) rfl) rfl (gv_of (v := pt B 2) hg9))) ?_
     obtain ⟨r_6, hc4, hF7⟩ := bI hF7
     refine sgc 42 (B := ((p.Kind == 10) && (r_5 == 1))) (v := vi r_6) (F := hS7.fn) rfl rfl (uT_ 37) hS7 (fun hg10 => (yC [vi p1, vi i, vi p.B] K93 (CV.mono (c_impl_bitOf p1 i p.B _  (hS7.inn0 [] rfl) (gb_inv hc4 hg10)) (by rintro _ _ ⟨rfl, h⟩; exact ⟨rfl, hS7.out00 h⟩)) rfl (mc (gv_of (v := vi p1) hg10) (mc (gv_of (v := vi i) hg10) (mc (gv_of (v := vi p.B) hg10) mn))))) ?_
     rintro w_6 hS8
     refine sgq 43 (B := ((p.Kind == 10) && (r_5 == 1))) (v := .bool (r_6 == 1)) rfl rfl (uT_ 37) (fun hg11 => (yE r_6 1 rfl (gv_of (v := vi r_6) hg11))) ?_
     refine sQ 44 (Y_and (b := ((p.Kind == 10) && (r_5 == 1))) (z := (r_6 == 1)) rfl rfl rfl rfl) ?_
     obtain ⟨r_7, hc5, hF7⟩ := bI hF7
     refine sc 45 rfl rfl (yC [.bool (((p.Kind == 10) && (r_5 == 1)) && (r_6 == 1))] K124 (c_impl_small (((p.Kind == 10) && (r_5 == 1)) && (r_6 == 1)) _  (hS8.inn0 [] rfl) hc5)) ?_
     rintro _ w_7 ⟨rfl, hd3⟩
     have hS9 := hS8.out00 hd3
     refine sQ 46 (yX 4 r_7) ?_
     obtain ⟨r_8, hc6, hF7⟩ := bI hF7
     refine sc 47 rfl rfl (yC [vi (i64.wrap (4 * r_7))] K115 (c_impl_phase (i64.wrap (4 * r_7)) _  (hS9.inn0 [] rfl) hc6)) ?_
     rintro _ w_8 ⟨rfl, hd4⟩
     have hS10 := hS9.out00 hd4
     refine s0 (yT 0 5 (aD b) 54 (gD_ r_8) (kD_ r_8) 0 hS10 K0) ?_
     rintro _ w_9 ⟨rfl, hS11⟩
     refine sQ 7 (yg (.bool true)) (rn (ct_ ?_))
     obtain rfl := sI hF7
     obtain ⟨rfl, rfl⟩ := pr2 (sI hF1)
     exact ret2 Tryz.results100 (v1 := gD_ r_8) (resAt_cellA (B := aD b) (i := 0) (cs := kD_ r_8) (vs := kD_ r_8) rfl K3 K0 (hS11.c 0) rfl rfl) (v2 := .bool true) (resAt_tmp rfl) ⟨rfl, (hS11.sN [])⟩
    ·skip
     have hF8 := cf' hF6 hb3
     refine cw_skip ?_
     exact ⟨(sI hF8), (fc rfl fn_), (hS6.sel [0] rfl rfl)⟩
   ·skip
    have hF9 := cf' hF5 hb2
    refine cq (cr ?_)
    refine sQ 49 (ym (vi i)) <| sQ 50 (ym (vi j)) <| sQ 51 (yE i j) <| sQ 52 (ym (.bool (i == j))) ?_
    refine sgq 53 (B := (!(i == j))) (v := vi p1) rfl rfl (uF_ 52) (fun hg12 => (yl B1 0 [vi p1] (vi p1) K1 (hS5.rf (i := 1) rfl))) ?_
    refine sgq 54 (B := (!(i == j))) (v := vi i) rfl rfl (uF_ 52) (fun hg13 => (ym (vi i))) ?_
    refine sgq 55 (B := (!(i == j))) (v := pt B 1) rfl rfl (uF_ 52) (fun hg14 => (yd B 0 0 K37 K2)) ?_
    refine sgq 56 (B := (!(i == j))) (v := vi p.A) rfl rfl (uF_ 52) (fun hg15 => (yl B 1 [vi p.Kind, vi p.A, vi p.B] (vi p.A) K1 (hS5.rf (i := 0) rfl) rfl (gv_of (v := pt B 1) hg15))) ?_
    obtain ⟨r_9, hc7, hF9⟩ := bI hF9
    refine sgc 57 (B := (!(i == j))) (v := vi r_9) (F := hS5.fn) rfl rfl (uF_ 52) hS5 (fun hg16 => (yC [vi p1, vi i, vi p.A] K114 (CV.mono (c_impl_flipped p1 i p.A _  (hS5.inn0 [] rfl) (gb_inv hc7 hg16)) (by rintro _ _ ⟨rfl, h⟩; exact ⟨rfl, hS5.out00 h⟩)) rfl (mc (gv_of (v := vi p1) hg16) (mc (gv_of (v := vi i) hg16) (mc (gv_of (v := vi p.A) hg16) mn))))) ?_
    rintro w_10 hS12
    refine sgq 58 (B := (!(i == j))) (v := vi j) rfl rfl (uF_ 52) (fun hg17 => (ym (vi j))) ?_
    refine sgq 59 (B := (!(i == j))) (v := .bool (r_9 == j)) rfl rfl (uF_ 52) (fun hg18 => (yE r_9 j rfl (gv_of (v := vi r_9) hg18) (gv_of (v := vi j) hg18))) ?_
    refine sQ 60 (Y_or (b := (i == j)) (z := (r_9 == j)) rfl rfl rfl rfl) <| sQ 48 (yg (.bool ((i == j) || (r_9 == j)))) (rn ?_)
    refine cw_cond (b := ((i == j) || (r_9 == j))) rfl (fun hb4 => ?_) (fun hb4 => ?_)
    ·skip
     have hF10 := ct hF9 hb4
     refine cq ?_
     obtain ⟨r_10, hc8, hF10⟩ := bI hF10
     obtain ⟨r_11, hc9, hF10⟩ := bI hF10
     obtain ⟨r_12, hc10, hF10⟩ := bI hF10
     refine ra_start (hS12.se []).fn (by kernel_rfl) ?_
     have hS16 := hS12.drew
     refine rq 0 61 (v := pt B 0) rfl (hS16.se []) (fun w' hw' => (yd B 0 0 K44 K2)) ?_
     refine rq 1 62 (v := vi p.Kind) rfl (hS16.se []) (fun w' hw' => (yl B 0 [vi p.Kind, vi p.A, vi p.B] (vi p.Kind) K1 (ST.rf hw' (i := 0) rfl))) ?_
     refine rq 2 63 (v := vi p1) rfl (hS16.se []) (fun w' hw' => (yl B1 0 [vi p1] (vi p1) K1 (ST.rf hw' (i := 1) rfl))) ?_
     refine rq 3 64 (v := vi i) rfl (hS16.se []) (fun w' hw' => (ym (vi i))) ?_
     refine rq 4 65 (v := pt B 1) rfl (hS16.se []) (fun w' hw' => (yd B 0 0 K37 K2)) ?_
     refine rq 5 66 (v := vi p.A) rfl (hS16.se []) (fun w' hw' => (yl B 1 [vi p.Kind, vi p.A, vi p.B] (vi p.A) K1 (ST.rf hw' (i := 0) rfl))) ?_
     refine rq 7 68 (v := vi p1) rfl (hS16.se []) (fun w' hw' => (yl B1 0 [vi p1] (vi p1) K1 (ST.rf hw' (i := 1) rfl))) ?_
     refine rq 8 69 (v := vi j) rfl (hS16.se []) (fun w' hw' => (ym (vi j))) ?_
     refine rq 9 70 (v := pt B 1) rfl (hS16.se []) (fun w' hw' => (yd B 0 0 K37 K2)) ?_
     refine rq 10 71 (v := vi p.A) rfl (hS16.se []) (fun w' hw' => (yl B 1 [vi p.Kind, vi p.A, vi p.B] (vi p.A) K1 (ST.rf hw' (i := 0) rfl))) ?_
     refine rA [6] ?_
     refine rC 67 6 rfl (yC [vi p1, vi i, vi p.A] K93 (c_impl_bitOf p1 i p.A _  (hS16.inn0 [] rfl) hc8)) ?_ ?_
     ·rintro _ w_11 ⟨rfl, hd5⟩
      have hS17 := hS16.out00 hd5
      refine ⟨(hS17.se []), ?_⟩
      refine rA [11] ?_
      refine rC 72 11 rfl (yC [vi p1, vi j, vi p.A] K93 (c_impl_bitOf p1 j p.A _  (hS17.inn0 [] rfl) hc9)) ?_ ?_
      ·rintro _ w_12 ⟨rfl, hd6⟩
       have hS18 := hS17.out00 hd6
       refine ⟨(hS18.se []), ?_⟩
       refine rA [12] ?_
       refine rC 73 12 rfl (yC [vi p.Kind, vi r_10, vi r_11] k_call_106 (c_impl_entry p.Kind r_10 r_11 _  (hS18.inn0 [] rfl) hc10)) ?_ ?_
       ·rintro _ w_13 ⟨rfl, hd7⟩
        have hS19 := hS18.out00 hd7
        refine ⟨(hS19.se []), ?_⟩
        refine rA [13] ?_
        refine rZ 13 rfl (yT 0 5 (aD b) 54 (gD_ r_12) (kD_ r_12) 0 hS19 K0) ?_ ?_
        ·rintro _ w_14 ⟨rfl, hS20⟩
         refine ⟨(hS20.se []), ?_⟩
         refine rq 14 7 (v := .bool true) rfl (hS20.se []) (fun w' hw' => (yg (.bool true))) ?_
         refine ra_done (by kernel_rfl) ?_
         refine ct_ ?_
         obtain rfl := sI hF10
         obtain ⟨rfl, rfl⟩ := pr2 (sI hF1)
         exact ret2 Tryz.results100 (v1 := gD_ r_12) (resAt_cellA (B := aD b) (i := 0) (cs := kD_ r_12) (vs := kD_ r_12) rfl K3 K0 (hS20.c 0) rfl rfl) (v2 := .bool true) (resAt_tmp rfl) ⟨rfl, (hS20.sN [])⟩
        exact aN
       exact aN
      exact aN
     exact aN
    ·skip
     have hF11 := cf' hF9 hb4
     refine cw_skip ?_
     exact ⟨(sI hF11), (fc rfl fn_), (hS12.sel [0] rfl rfl)⟩
 rintro f w ⟨rfl, hf, hS2⟩
 refine cq (cr ?_)
 refine sQ 74 (Y_buildS (zs := kZ_) (vs := []) (cs := kZ_) K24 K5 rfl mpn rfl) ?_
 refine s0 (yT 0 5 (aD b) 54 gZ_ kZ_ 0 hS2 K0 rfl (hf.g 6 0)) ?_
 rintro _ w_15 ⟨rfl, hS21⟩
 refine sQ 7 (yg (.bool true)) (rn (ct_ ?_))
 obtain ⟨rfl, rfl⟩ := pr2 (sI hF1)
 exact ret2 Tryz.results100 (v1 := gZ_) (resAt_cellA (B := aD b) (i := 0) (cs := kZ_) (vs := kZ_) (hf.g 6 0) K3 K0 (hS21.c 0) rfl rfl) (v2 := .bool true) (resAt_tmp rfl) ⟨rfl, (hS21.sN [])⟩

theorem c_impl_GateMatrix (n : Int) (g : TGate)  (w0 : World)  (hS : ST w0 [] w0 [] []) {r_ : TMatrix} {r_1 : Bool} (hF : F_impl_GateMatrix n g = some (r_, r_1)) :
  CV Tryz.prog 53 #[vi n, .agg #[vi g.Kind, vi g.A, vi g.B]] w0 (fun v w' => ∃ (B : Option Addr) (c : Nat), v = .tuple #[gM_ r_ B c, .bool r_1] ∧ ST w0 [] w' [⟨B, 54, (r_.Cells.flatMap eN0), c * 5⟩] []) := by
 unfold F_impl_GateMatrix at hF
 refine cv_of_cw 19 Tryz.func53 rfl Tryz.ntmps53 rfl ?_
 refine cq (cr ?_)
 refine sS 2 (yB 3 (vi n) [vi n] 1 hS) ?_
 rintro _ w_ ⟨b, rfl, hS1⟩
 refine sS 3 (yB 45 (.agg #[vi g.Kind, vi g.A, vi g.B]) [vi g.Kind, vi g.A, vi g.B] 3 hS1) ?_
 rintro _ w_1 ⟨b1, rfl, hS2⟩
 refine sS 4 (yN kN_ 3 hS2 K17) ?_
 rintro _ w_2 ⟨b2, rfl, hS3⟩
 refine sQ 5 (yg (.bool false)) (rn (cq (cq (cr ?_))))
 refine sQ 6 (yl (aD b) 0 [vi n] (vi n) K1 (hS3.c 0)) <| sQ 7 (yb (aD b1) 0 [vi g.Kind, vi g.A, vi g.B] K52 K28 (hS3.c 1)) ?_
 obtain ⟨r_2, hc, hF⟩ := bI hF
 refine sc 8 rfl rfl (yC [vi n, .agg #[vi g.Kind, vi g.A, vi g.B]] k_call_99 (c_impl_IsValidGate n g _  (hS3.inn0 [] rfl) hc)) ?_
 rintro _ w_3 ⟨rfl, hd⟩
 have hS4 := hS3.out00 hd
 refine sQ 9 (Y_not (p := r_2) rfl rfl) (rn ?_)
 refine cw_cond (b := (!r_2)) rfl (fun hb => ?_) (fun hb => ?_)
 ·skip
  have hF1 := ct hF hb
  refine cq (cr ?_)
  refine sQ 10 (Y_buildS (zs := kN_) (vs := []) (cs := kN_) K49 K17 rfl mpn rfl) ?_
  refine s0 (yT 2 3 (aD b2) 26 gN_ kN_ 0 hS4 K6) ?_
  rintro _ w_4 ⟨rfl, hS5⟩
  refine sQ 5 (yg (.bool false)) (rn (ct_ ?_))
  have hS6 := hS5.addNil 54
  obtain ⟨rfl, rfl⟩ := pr2 (sI hF1)
  exact ret2 Tryz.results53 (v1 := gN_) (resAt_cellA (B := aD b2) (i := 0) (cs := kN_) (vs := kN_) rfl K13 K6 (hS6.c 2) rfl rfl) (v2 := .bool false) (resAt_tmp rfl) ⟨none, 0, rfl, (hS6.sN [3])⟩
 ·skip
  have hF2 := cf' hF hb
  refine cw_skip (cq ?_)
  obtain ⟨hsh, hF2⟩ := chk_inv hF2
  obtain ⟨hsh1, hF2⟩ := chk_inv hF2
  obtain ⟨⟨r_3, r_4⟩, hc1, hF2⟩ := bI hF2
  refine ra_start (hS4.se [0, 1]).fn (by kernel_rfl) ?_
  have hS8 := hS4.drew
  refine rq 0 11 (v := vi n) rfl (hS8.se [0, 1]) (fun w' hw' => (yl (aD b) 0 [vi n] (vi n) K1 (ST.cf hw' (i := 0) rfl))) ?_
  refine rq 1 12 (v := vi (shlK .i64 1 n)) rfl (hS8.se [0, 1]) (fun w' hw' => (Y_shl (k := .i64) (a := 1) (k' := .i64) (b := n) rfl rfl rfl hsh)) ?_
  refine rq 2 13 (v := vi n) rfl (hS8.se [0, 1]) (fun w' hw' => (yl (aD b) 0 [vi n] (vi n) K1 (ST.cf hw' (i := 0) rfl))) ?_
  refine rq 3 14 (v := vi (shlK .i64 1 n)) rfl (hS8.se [0, 1]) (fun w' hw' => (Y_shl (k := .i64) (a := 1) (k' := .i64) (b := n) rfl rfl rfl hsh1)) ?_
  refine rq 4 15 (v := .func (.func 100) #[] #[pt (aD b1) 0, pt (aD b) 0]) rfl (hS8.se [0, 1]) (fun w' hw' => (Y_makeFunc (cs := [pt (aD b1) 0, pt (aD b) 0]) rfl rfl (mc rfl (mc rfl mn)))) ?_
  refine rA [5] ?_
  refine rC 16 5 rfl (yC [vi (shlK .i64 1 n), vi (shlK .i64 1 n), .func (.func 100) #[] #[pt (aD b1) 0, pt (aD b) 0]] K112 (c_impl_matrixOf (shlK .i64 1 n) (shlK .i64 1 n) (fun x_0 x_1 => F_impl_GateMatrix_1 x_0 x_1 g n) 100 (#[pt (aD b1) 0, pt (aD b) 0]) [⟨aD b1, [vi g.Kind, vi g.A, vi g.B]⟩, ⟨aD b, [vi n]⟩] _ k_call_100 (fun w hw x_0 x_1 y_0 y_1 h_ => c_impl_GateMatrix_1 x_0 x_1 g n (aD b1) (aD b) w  hw h_) (hS8.inn0 [(false, 1), (false, 0)] rfl) hc1)) ?_ ?_
  ·rintro _ w_5 ⟨B1, c1, rfl, hd1⟩
   have hS9 := hS8.out0 hd1
   refine ⟨(hS9.se [0, 1]), ?_⟩
   refine rq 6 17 (v := gM_ r_3 B1 c1) rfl (hS9.se [0, 1]) (fun w' hw' => (ye (gM_ r_3 B1 c1))) ?_
   refine rq 7 18 (v := .bool r_4) rfl (hS9.se [0, 1]) (fun w' hw' => (ye (.bool r_4))) ?_
   refine rA [8] ?_
   refine rZ 8 rfl (yT 2 3 (aD b2) 26 (gM_ r_3 B1 c1) (kM_ r_3 B1 c1) 0 hS9 K6) ?_ ?_
   ·rintro _ w_6 ⟨rfl, hS10⟩
    refine ⟨(hS10.se [0, 1]), ?_⟩
    refine rq 9 5 (v := .bool r_4) rfl (hS10.se [0, 1]) (fun w' hw' => (yg (.bool r_4))) ?_
    refine ra_done (by kernel_rfl) ?_
    refine ct_ ?_
    obtain ⟨rfl, rfl⟩ := pr2 (sI hF2)
    exact ret2 Tryz.results53 (v1 := gM_ r_3 B1 c1) (resAt_cellA (B := aD b2) (i := 0) (cs := kM_ r_3 B1 c1) (vs := kM_ r_3 B1 c1) rfl K13 K6 (hS10.c 2) rfl rfl) (v2 := .bool r_4) (resAt_tmp rfl) ⟨B1, c1, rfl, (hS10.sN [3])⟩
   exact aN
  exact aN

theorem c_impl_TraceOf (m : TMatrix) (B : Option Addr) (c n : Nat) (w0 : World) (hn : m.Cells.length = n) (hS : ST w0 [] w0 [] [⟨B, (m.Cells.flatMap eN0)⟩]) {r_ : TDyadic} {r_1 : Bool} (hF : F_impl_TraceOf m = some (r_, r_1)) :
  CV Tryz.prog 55 #[.agg #[vi m.Rows, vi m.Cols, .slice B n c]] w0 (fun v w' => v = .tuple #[gD_ r_, .bool r_1] ∧ ST w0 [] w' [] []) := by
 subst hn
 unfold F_impl_TraceOf at hF
 refine cv_of_cw 39 Tryz.func55 rfl Tryz.ntmps55 rfl ?_
 refine cq (cr ?_)
 refine sS 1 (yB 26 (gM_ m B c) (kM_ m B c) 3 hS) ?_
 rintro _ w_ ⟨b, rfl, hS1⟩
 refine sS 2 (yN kZ_ 5 hS1 K5) ?_
 rintro _ w_1 ⟨b1, rfl, hS2⟩
 refine sQ 3 (yg (.bool false)) (rn (cq (cq (cr ?_))))
 refine sQ 7 (yb (aD b) 0 (kM_ m B c) K13 K6 (hS2.c 0)) ?_
 obtain ⟨r_2, hc, hF⟩ := bI hF
 refine sc 8 rfl rfl (yC [gM_ m B c] K92 (c_impl_IsValidMatrix m B c m.Cells.length _ rfl (hS2.inn0 [(true, 0)] rfl) hc)) ?_
 rintro _ w_2 ⟨rfl, hd⟩
 have hS3 := hS2.out00 hd
 refine sQ 9 (Y_not (p := r_2) rfl rfl) <| sQ 10 (ym (.bool (!r_2))) ?_
 refine sgq 11 (B := (!(!r_2))) (v := pt (aD b) 0) rfl rfl (uF_ 10) (fun hg => (yd (aD b) 0 0 K35 K2)) ?_
 refine sgq 12 (B := (!(!r_2))) (v := vi m.Rows) rfl rfl (uF_ 10) (fun hg1 => (yl (aD b) 0 (kM_ m B c) (vi m.Rows) K1 (hS3.c 0) rfl (gv_of (v := pt (aD b) 0) hg1))) ?_
 refine sgq 13 (B := (!(!r_2))) (v := pt (aD b) 1) rfl rfl (uF_ 10) (fun hg2 => (yd (aD b) 0 0 K31 K2)) ?_
 refine sgq 14 (B := (!(!r_2))) (v := vi m.Cols) rfl rfl (uF_ 10) (fun hg3 => (yl (aD b) 1 (kM_ m B c) (vi m.Cols) K1 (hS3.c 0) rfl (gv_of (v := pt (aD b) 1) hg3))) ?_
 refine sgq 15 (B := (!(!r_2))) (v := .bool (m.Rows != m.Cols)) rfl rfl (uF_ 10) (fun hg4 => (Y_ne (k := .i64) (a := m.Rows) (b := m.Cols) rfl (gv_of (v := vi m.Rows) hg4) (gv_of (v := vi m.Cols) hg4))) ?_
 refine sQ 16 (Y_or (b := (!r_2)) (z := (m.Rows != m.Cols)) rfl rfl rfl rfl) (rn ?_)
 refine cw_cond (b := ((!r_2) || (m.Rows != m.Cols))) rfl (fun hb => ?_) (fun hb => ?_)
 ·skip
  have hF1 := ct hF hb
  refine cq (cr ?_)
  refine sQ 17 (Y_buildS (zs := kZ_) (vs := []) (cs := kZ_) K24 K5 rfl mpn rfl) ?_
  refine s0 (yT 1 5 (aD b1) 54 gZ_ kZ_ 0 hS3 K0) ?_
  rintro _ w_3 ⟨rfl, hS4⟩
  refine sQ 3 (yg (.bool false)) (rn (ct_ ?_))
  obtain ⟨rfl, rfl⟩ := pr2 (sI hF1)
  exact ret2 Tryz.results55 (v1 := gZ_) (resAt_cellA (B := aD b1) (i := 0) (cs := kZ_) (vs := kZ_) rfl K3 K0 (hS4.c 1) rfl rfl) (v2 := .bool false) (resAt_tmp rfl) ⟨rfl, (hS4.sN [])⟩
 ·skip
  have hF2 := cf' hF hb
  refine cw_skip (cq (cr ?_))
  refine sQ 18 (Y_buildS (zs := kZ_) (vs := []) (cs := kZ_) K24 K5 rfl mpn rfl) ?_
  refine sS 4 (yN kZ_ 5 hS3 K5) ?_
  rintro _ w_4 ⟨b2, rfl, hS5⟩
  refine s0 (yT 2 5 (aD b2) 54 gZ_ kZ_ 0 hS5 K0) ?_
  rintro _ w_5 ⟨rfl, hS6⟩
  refine sQ 5 (yg (.bool true)) (rn (cq (cq (cr ?_))))
  refine sQ 6 (yg (vi 0)) (rn ?_)
  obtain ⟨z, hz, hF3⟩ := bI hF2
  refine cw_block ?_
  refine cw_loop (fun k f w => ∃ (A : Int) (B1 : Int) (C : Int) (D : Int) (Exp : Int) (ok : Bool) (i : Int), FF f [(1, pt (aD b) 0), (2, pt (aD b1) 0), (4, pt (aD b2) 0), (5, .bool ok), (6, vi i)] ∧ ST w0 [] w [⟨aD b, 26, kM_ m B c, 3⟩, ⟨aD b1, 54, kZ_, 5⟩, ⟨aD b2, 54, [vi A, vi B1, vi C, vi D, vi Exp], 5⟩] [⟨B, (m.Cells.flatMap eN0)⟩] ∧ whX (F_impl_TraceOf_l1 m) k (A, B1, C, D, Exp, ok, i) = some z) fuel ⟨0, 0, 0, 0, 0, true, 0, (fc rfl (fc rfl (fc rfl (fc rfl (fc rfl fn_))))), (hS6.sel [0, 1, 2] rfl rfl), hz⟩ ?_
  rintro k_ f w ⟨A, B1, C, D, Exp, ok, i, hf, hS7, hL⟩
  obtain ⟨K9, y, rfl, hb1, hL1⟩ := whX_go hL
  unfold F_impl_TraceOf_l1 at hb1
  refine cq (cq (cr ?_))
  refine sQ 19 (ym (vi i) rfl (hf.g 6 4)) <| sQ 20 (yd (aD b) 0 0 K35 K2 rfl (hf.g 1 0)) <| sQ 21 (yl (aD b) 0 (kM_ m B c) (vi m.Rows) K1 (hS7.c 0)) <| sQ 22 (yL i m.Rows) <| sQ 23 (ym (.bool (decide (i < m.Rows)))) ?_
  refine sgq 24 (B := (decide (i < m.Rows))) (v := .bool ok) rfl rfl (uT_ 23) (fun hg5 => (ym (.bool ok) rfl (hf.g 5 3))) ?_
  refine sQ 25 (Y_and (b := (decide (i < m.Rows))) (z := ok) rfl rfl rfl rfl) (rn ?_)
  refine cw_cond (b := ((decide (i < m.Rows)) && ok)) rfl (fun hb2 => ?_) (fun hb2 => ?_)
  ·skip
   have hF4 := ct hb1 hb2
   refine cw_skip (cq (cw_block ?_))
   obtain ⟨r_3, hc1, hF4⟩ := bI hF4
   obtain ⟨⟨r_4, r_5⟩, hc2, hF4⟩ := bI hF4
   refine cw_mid (fun f w => FF f [(1, pt (aD b) 0), (2, pt (aD b1) 0), (4, pt (aD b2) 0), (5, .bool r_5), (6, vi i)] ∧ ST w0 [] w [⟨aD b, 26, kM_ m B c, 3⟩, ⟨aD b1, 54, kZ_, 5⟩, ⟨aD b2, 54, kD_ r_4, 5⟩] [⟨B, (m.Cells.flatMap eN0)⟩]) ?_ ?_
   ·skip
    refine ra_start (hS7.se [0, 1]).fn (by kernel_rfl) ?_
    have hS11 := hS7.drew
    refine rq 1 30 (v := gM_ m B c) rfl (hS11.se [0, 1]) (fun w' hw' => (yb (aD b) 0 (kM_ m B c) K13 K6 (ST.cf hw' (i := 0) rfl) rfl (hf.g 1 0))) ?_
    refine rq 2 31 (v := vi i) rfl (hS11.se [0, 1]) (fun w' hw' => (ym (vi i) rfl (hf.g 6 4))) ?_
    refine rq 3 32 (v := vi i) rfl (hS11.se [0, 1]) (fun w' hw' => (ym (vi i) rfl (hf.g 6 4))) ?_
    refine rA [0, 4] ?_
    refine ra_y 29 (i := 0) (v := .agg #[vi A, vi B1, vi C, vi D, vi Exp]) rfl rfl rfl (yb (aD b2) 0 [vi A, vi B1, vi C, vi D, vi Exp] K3 K0 (hS11.c 2) rfl (hf.g 4 2)) (hS11.se [0, 1]) ?_ ?_
    ·skip
     refine rA [4] ?_
     refine rC 33 4 rfl (yC [gM_ m B c, vi i, vi i] K67 (c_impl_Matrix_at m i i B c m.Cells.length _ rfl (hS11.inn0 [(true, 0)] rfl) hc1)) ?_ ?_
     ·rintro _ w_6 ⟨rfl, hd1⟩
      have hS12 := hS11.out00 hd1
      refine ⟨(hS12.se [0, 1]), ?_⟩
      refine rA [5] ?_
      refine rC 34 5 rfl (yC [.agg #[vi A, vi B1, vi C, vi D, vi Exp], gD_ r_3] K102 (c_impl_AddDyadic (TDyadic.mk (TRing.mk A B1 C D) Exp) r_3 _  (hS12.inn0 [] rfl) hc2)) ?_ ?_
      ·rintro _ w_7 ⟨rfl, hd2⟩
       have hS13 := hS12.out00 hd2
       refine ⟨(hS13.se [0, 1]), ?_⟩
       refine rq 6 28 (v := .tuple #[gD_ r_4, .bool r_5]) rfl (hS13.se [0, 1]) (fun w' hw' => (ym (.tuple #[gD_ r_4, .bool r_5]))) ?_
       refine rq 7 35 (v := gD_ r_4) rfl (hS13.se [0, 1]) (fun w' hw' => (ye (gD_ r_4))) ?_
       refine rq 8 36 (v := .bool r_5) rfl (hS13.se [0, 1]) (fun w' hw' => (ye (.bool r_5))) ?_
       refine rA [9] ?_
       refine rZ 9 rfl (yT 2 5 (aD b2) 54 (gD_ r_4) (kD_ r_4) 0 hS13 K0 rfl (hf.g 4 2)) ?_ ?_
       ·rintro _ w_8 ⟨rfl, hS14⟩
        refine ⟨(hS14.se [0, 1]), ?_⟩
        refine rq 10 5 (v := .bool r_5) rfl (hS14.se [0, 1]) (fun w' hw' => (yg (.bool r_5))) ?_
        refine ra_done (by kernel_rfl) ?_
        exact ⟨(fc (hf.g 1 0) (fc (hf.g 2 1) (fc (hf.g 4 2) (fc rfl (fc (hf.g 6 4) fn_))))), (hS14.sel [0, 1, 2] rfl rfl)⟩
       exact aN
      exact aN
     exact aN
    refine rC 33 4 rfl (yC [gM_ m B c, vi i, vi i] K67 (c_impl_Matrix_at m i i B c m.Cells.length _ rfl (hS11.inn0 [(true, 0)] rfl) hc1)) ?_ ?_
    ·rintro _ w_9 ⟨rfl, hd3⟩
     have hS15 := hS11.out00 hd3
     refine ⟨(hS15.se [0, 1]), ?_⟩
     refine rA [0] ?_
     refine ra_y 29 (i := 0) (v := .agg #[vi A, vi B1, vi C, vi D, vi Exp]) rfl rfl rfl (yb (aD b2) 0 [vi A, vi B1, vi C, vi D, vi Exp] K3 K0 (hS15.c 2) rfl (hf.g 4 2)) (hS15.se [0, 1]) ?_ ?_
     ·skip
      refine rA [5] ?_
      refine rC 34 5 rfl (yC [.agg #[vi A, vi B1, vi C, vi D, vi Exp], gD_ r_3] K102 (c_impl_AddDyadic (TDyadic.mk (TRing.mk A B1 C D) Exp) r_3 _  (hS15.inn0 [] rfl) hc2)) ?_ ?_
      ·rintro _ w_10 ⟨rfl, hd4⟩
       have hS16 := hS15.out00 hd4
       refine ⟨(hS16.se [0, 1]), ?_⟩
       refine rq 6 28 (v := .tuple #[gD_ r_4, .bool r_5]) rfl (hS16.se [0, 1]) (fun w' hw' => (ym (.tuple #[gD_ r_4, .bool r_5]))) ?_
       refine rq 7 35 (v := gD_ r_4) rfl (hS16.se [0, 1]) (fun w' hw' => (ye (gD_ r_4))) ?_
       refine rq 8 36 (v := .bool r_5) rfl (hS16.se [0, 1]) (fun w' hw' => (ye (.bool r_5))) ?_
       refine rA [9] ?_
       refine rZ 9 rfl (yT 2 5 (aD b2) 54 (gD_ r_4) (kD_ r_4) 0 hS16 K0 rfl (hf.g 4 2)) ?_ ?_
       ·rintro _ w_11 ⟨rfl, hS17⟩
        refine ⟨(hS17.se [0, 1]), ?_⟩
        refine rq 10 5 (v := .bool r_5) rfl (hS17.se [0, 1]) (fun w' hw' => (yg (.bool r_5))) ?_
        refine ra_done (by kernel_rfl) ?_
        exact ⟨(fc (hf.g 1 0) (fc (hf.g 2 1) (fc (hf.g 4 2) (fc rfl (fc (hf.g 6 4) fn_))))), (hS17.sel [0, 1, 2] rfl rfl)⟩
       exact aN
      exact aN
     exact aN
    exact aN
   rintro f w ⟨hf1, hS10⟩
   refine cr ?_
   refine sQ 26 (ym (vi i) rfl (hf1.g 6 4)) <| sQ 27 (yP i 1) <| sQ 6 (yg (vi (i64.wrap (i + 1)))) (rn ?_)
   obtain rfl := sI hF4
   exact ⟨K9, Nat.lt_succ_self _, r_4.Num.A, r_4.Num.B, r_4.Num.C, r_4.Num.D, r_4.Exp, r_5, (i64.wrap (i + 1)), (fc (hf1.g 1 0) (fc (hf1.g 2 1) (fc (hf1.g 4 2) (fc (hf1.g 5 3) (fc rfl fn_))))), (hS10.sel [0, 1, 2] rfl rfl), hL1⟩
  ·skip
   have hF5 := cf' hb1 hb2
   refine cw_exit rfl ?_
   obtain rfl := sI hF5
   obtain rfl := sI hL1
   refine cq (cr ?_)
   refine sQ 37 (yb (aD b2) 0 [vi A, vi B1, vi C, vi D, vi Exp] K3 K0 (hS7.c 2) rfl (hf.g 4 2)) <| sQ 38 (ym (.bool ok) rfl (hf.g 5 3)) ?_
   refine s0 (yT 1 5 (aD b1) 54 (.agg #[vi A, vi B1, vi C, vi D, vi Exp]) [vi A, vi B1, vi C, vi D, vi Exp] 0 hS7 K0 rfl (hf.g 2 1)) ?_
   rintro _ w_12 ⟨rfl, hS18⟩
   refine sQ 3 (yg (.bool ok)) (rn (ct_ ?_))
   obtain ⟨rfl, rfl⟩ := pr2 (sI hF3)
   exact ret2 Tryz.results55 (v1 := .agg #[vi A, vi B1, vi C, vi D, vi Exp]) (resAt_cellA (B := aD b1) (i := 0) (cs := [vi A, vi B1, vi C, vi D, vi Exp]) (vs := [vi A, vi B1, vi C, vi D, vi Exp]) (hf.g 2 1) K3 K0 (hS18.c 1) rfl rfl) (v2 := .bool ok) (resAt_tmp rfl) ⟨rfl, (hS18.sN [])⟩

theorem c_impl_blochCell (m : TMatrix) (bar : TMatrix) (i : Int) (j : Int) (B : Option Addr) (c n : Nat) (B1 : Option Addr) (c1 n1 : Nat) (w0 : World) (hn : m.Cells.length = n) (hn1 : bar.Cells.length = n1) (hS : ST w0 [] w0 [] [⟨B, (m.Cells.flatMap eN0)⟩, ⟨B1, (bar.Cells.flatMap eN0)⟩, ⟨(aD 0), [vi 1, vi 0, vi 0, vi 0, vi 2]⟩]) {r_ : TDyadic} {r_1 : Bool} (hF : F_impl_blochCell m bar i j = some (r_, r_1)) :
  CV Tryz.prog 24 #[.agg #[vi m.Rows, vi m.Cols, .slice B n c], .agg #[vi bar.Rows, vi bar.Cols, .slice B1 n1 c1], vi i, vi j] w0 (fun v w' => v = .tuple #[gD_ r_, .bool r_1] ∧ ST w0 [] w' [] []) := by
 subst hn
 subst hn1
 unfold F_impl_blochCell at hF
 refine cv_of_cw 83 Tryz.func24 rfl Tryz.ntmps24 rfl ?_
 refine cq (cr ?_)
 refine sS 4 (yB 26 (gM_ m B c) (kM_ m B c) 3 hS) ?_
 rintro _ w_ ⟨b, rfl, hS1⟩
 refine sS 5 (yB 26 (gM_ bar B1 c1) (kM_ bar B1 c1) 3 hS1) ?_
 rintro _ w_1 ⟨b1, rfl, hS2⟩
 refine sS 8 (yN kZ_ 5 hS2 K5) ?_
 rintro _ w_2 ⟨b2, rfl, hS3⟩
 refine sQ 9 (yg (.bool false)) (rn (cq (cr ?_)))
 refine sQ 23 (show Y _ _ _ _ _ (.agg (([2, 3, 4] : List Int).flatMap encI).toArray) from Y_buildA (zs := [vi 0, vi 0, vi 0]) (vs := [(0, vi 2), (1, vi 3), (2, vi 4)]) (cs := [vi 2, vi 3, vi 4]) K126 K2 k_zero_90 rfl (mpc rfl (mpc rfl (mpc rfl mpn))) (by kernel_rfl)) ?_
 refine sS 10 (yN ((List.replicate 3 0).flatMap encI) 3 hS3 k_zero_90) ?_
 rintro _ w_3 ⟨b3, rfl, hS4⟩
 refine s0 (yT 3 3 (aD b3) 90 (.agg (([2, 3, 4] : List Int).flatMap encI).toArray) (([2, 3, 4] : List Int).flatMap encI) 0 hS4 k_sz_90_3 rfl rfl rfl rfl (fm_lenn2 encI_len rfl rfl) (fm_one' encI_one _) rfl (fm_fit encI_len (List.length_replicate (n := 3)) rfl) (fm_spl encI_len (List.length_replicate (n := 3)) rfl)) ?_
 rintro _ w_4 ⟨rfl, hS5⟩
 refine rn (cq (cr ?_))
 refine sQ 25 (ym (vi i)) ?_
 obtain ⟨x, hx, hF⟩ := bI hF
 refine sQ 26 (Y_indexArr0 (B := aD b3) (k := .i64) (i := i) K126 K2 rfl rfl rfl (getI_nn hx) (getI_ltI hx rfl)) <| sQ 27 (yl (aD b3) (i.toNat * 1) (([2, 3, 4] : List Int).flatMap encI) (vi x) K1 (hS5.c 3) rfl rfl (gi_at0 encI_len hx rfl)) <| sQ 28 (Y_buildS (zs := [vi 0, vi 0, vi 0]) (vs := [(0, vi x)]) (cs := [vi x, vi 0, vi 0]) K81 K45 rfl (mpc rfl mpn) rfl) ?_
 obtain ⟨⟨r_2, r_3⟩, hc, hF⟩ := bI hF
 refine sc 29 rfl rfl (yC [vi 1, .agg #[vi x, vi 0, vi 0]] K127 (c_impl_GateMatrix 1 (TGate.mk x 0 0) _  (hS5.inn0 [] rfl) hc)) ?_
 rintro _ w_5 ⟨B2, c2, rfl, hd⟩
 have hS6 := hS5.out0 hd
 refine sQ 24 (ym (.tuple #[gM_ r_2 B2 c2, .bool r_3])) <| sQ 30 (ye (gM_ r_2 B2 c2)) <| sQ 31 (ye (.bool r_3)) ?_
 refine sS 11 (yN kN_ 3 hS6 K17) ?_
 rintro _ w_6 ⟨b4, rfl, hS7⟩
 refine s0 (yT 5 3 (aD b4) 26 (gM_ r_2 B2 c2) (kM_ r_2 B2 c2) 0 hS7 K6) ?_
 rintro _ w_7 ⟨rfl, hS8⟩
 refine sQ 12 (yg (.bool r_3)) (rn (cq (cr ?_)))
 refine sQ 33 (ym (vi j)) ?_
 obtain ⟨x1, hx1, hF⟩ := bI hF
 refine sQ 34 (Y_indexArr0 (B := aD b3) (k := .i64) (i := j) K126 K2 rfl rfl rfl (getI_nn hx1) (getI_ltI hx1 rfl)) <| sQ 35 (yl (aD b3) (j.toNat * 1) (([2, 3, 4] : List Int).flatMap encI) (vi x1) K1 (hS8.c 3) rfl rfl (gi_at0 encI_len hx1 rfl)) <| sQ 36 (Y_buildS (zs := [vi 0, vi 0, vi 0]) (vs := [(0, vi x1)]) (cs := [vi x1, vi 0, vi 0]) K81 K45 rfl (mpc rfl mpn) rfl) ?_
 obtain ⟨⟨r_4, r_5⟩, hc1, hF⟩ := bI hF
 refine sc 37 rfl rfl (yC [vi 1, .agg #[vi x1, vi 0, vi 0]] K127 (c_impl_GateMatrix 1 (TGate.mk x1 0 0) _  (hS8.inn0 [] rfl) hc1)) ?_
 rintro _ w_8 ⟨B3, c3, rfl, hd1⟩
 have hS9 := hS8.out0 hd1
 refine sQ 32 (ym (.tuple #[gM_ r_4 B3 c3, .bool r_5])) <| sQ 38 (ye (gM_ r_4 B3 c3)) <| sQ 39 (ye (.bool r_5)) ?_
 refine sS 13 (yN kN_ 3 hS9 K17) ?_
 rintro _ w_9 ⟨b5, rfl, hS10⟩
 refine s0 (yT 7 3 (aD b5) 26 (gM_ r_4 B3 c3) (kM_ r_4 B3 c3) 0 hS10 K6) ?_
 rintro _ w_10 ⟨rfl, hS11⟩
 have hS11 : ST w0 [] _ [⟨aD b, 26, kM_ m B c, 3⟩, ⟨aD b1, 26, kM_ bar B1 c1, 3⟩, ⟨aD b2, 54, kZ_, 5⟩, ⟨aD b3, 90, (([2, 3, 4] : List Int).flatMap encI), 3⟩, ⟨B2, 54, (r_2.Cells.flatMap eN0), c2 * 5⟩, ⟨aD b4, 26, kM_ r_2 B2 c2, 3⟩, ⟨B3, 54, (r_4.Cells.flatMap eN0), c3 * 5⟩, ⟨aD b5, 26, kM_ r_4 B3 c3, 3⟩] [⟨B, (m.Cells.flatMap eN0)⟩, ⟨B1, (bar.Cells.flatMap eN0)⟩, ⟨(aD 0), [vi 1, vi 0, vi 0, vi 0, vi 2]⟩] := hS11
 refine sQ 14 (yg (.bool r_5)) (rn (cq (cr ?_)))
 refine sQ 41 (yb (aD b4) 0 (kM_ r_2 B2 c2) K13 K6 (hS11.c 5)) <| sQ 42 (yb (aD b) 0 (kM_ m B c) K13 K6 (hS11.c 0)) ?_
 obtain ⟨⟨r_6, r_7⟩, hc2, hF⟩ := bI hF
 refine sc 43 rfl rfl (yC [gM_ r_2 B2 c2, gM_ m B c] K113 (c_impl_MulMatrix r_2 m B2 c2 r_2.Cells.length B c m.Cells.length _ rfl rfl (hS11.inn0 [(false, 4), (true, 0)] rfl) hc2)) ?_
 rintro _ w_11 ⟨B4, c4, rfl, hd2⟩
 have hS12 := hS11.out0 hd2
 refine sQ 40 (ym (.tuple #[gM_ r_6 B4 c4, .bool r_7])) <| sQ 44 (ye (gM_ r_6 B4 c4)) <| sQ 45 (ye (.bool r_7)) ?_
 refine sS 15 (yN kN_ 3 hS12 K17) ?_
 rintro _ w_12 ⟨b6, rfl, hS13⟩
 refine s0 (yT 9 3 (aD b6) 26 (gM_ r_6 B4 c4) (kM_ r_6 B4 c4) 0 hS13 K6) ?_
 rintro _ w_13 ⟨rfl, hS14⟩
 refine sQ 16 (yg (.bool r_7)) (rn (cq (cr ?_)))
 refine sQ 47 (yb (aD b6) 0 (kM_ r_6 B4 c4) K13 K6 (hS14.c 9)) <| sQ 48 (yb (aD b5) 0 (kM_ r_4 B3 c3) K13 K6 (hS14.c 7)) ?_
 obtain ⟨⟨r_8, r_9⟩, hc3, hF⟩ := bI hF
 refine sc 49 rfl rfl (yC [gM_ r_6 B4 c4, gM_ r_4 B3 c3] K113 (c_impl_MulMatrix r_6 r_4 B4 c4 r_6.Cells.length B3 c3 r_4.Cells.length _ rfl rfl (hS14.inn0 [(false, 8), (false, 6)] rfl) hc3)) ?_
 rintro _ w_14 ⟨B5, c5, rfl, hd3⟩
 have hS15 := hS14.out0 hd3
 refine sQ 46 (ym (.tuple #[gM_ r_8 B5 c5, .bool r_9])) <| sQ 50 (ye (gM_ r_8 B5 c5)) <| sQ 51 (ye (.bool r_9)) ?_
 refine s0 (yT 9 3 (aD b6) 26 (gM_ r_8 B5 c5) (kM_ r_8 B5 c5) 0 hS15 K6) ?_
 rintro _ w_15 ⟨rfl, hS16⟩
 refine sQ 17 (yg (.bool r_9)) (rn (cq (cr ?_)))
 refine sQ 53 (yb (aD b6) 0 (kM_ r_8 B5 c5) K13 K6 (hS16.c 9)) <| sQ 54 (yb (aD b1) 0 (kM_ bar B1 c1) K13 K6 (hS16.c 1)) ?_
 obtain ⟨⟨r_10, r_11⟩, hc4, hF⟩ := bI hF
 refine sc 55 rfl rfl (yC [gM_ r_8 B5 c5, gM_ bar B1 c1] K113 (c_impl_MulMatrix r_8 bar B5 c5 r_8.Cells.length B1 c1 bar.Cells.length _ rfl rfl (hS16.inn0 [(false, 10), (true, 1)] rfl) hc4)) ?_
 rintro _ w_16 ⟨B6, c6, rfl, hd4⟩
 have hS17 := hS16.out0 hd4
 refine sQ 52 (ym (.tuple #[gM_ r_10 B6 c6, .bool r_11])) <| sQ 56 (ye (gM_ r_10 B6 c6)) <| sQ 57 (ye (.bool r_11)) ?_
 refine s0 (yT 9 3 (aD b6) 26 (gM_ r_10 B6 c6) (kM_ r_10 B6 c6) 0 hS17 K6) ?_
 rintro _ w_17 ⟨rfl, hS18⟩
 refine sQ 18 (yg (.bool r_11)) (rn (cq (cr ?_)))
 refine sQ 59 (yb (aD b6) 0 (kM_ r_10 B6 c6) K13 K6 (hS18.c 9)) ?_
 obtain ⟨⟨r_12, r_13⟩, hc5, hF⟩ := bI hF
 refine sc 60 rfl rfl (yC [gM_ r_10 B6 c6] k_call_55 (c_impl_TraceOf r_10 B6 c6 r_10.Cells.length _ rfl (hS18.inn0 [(false, 11)] rfl) hc5)) ?_
 rintro _ w_18 ⟨rfl, hd5⟩
 have hS19 := hS18.out00 hd5
 refine sQ 58 (ym (.tuple #[gD_ r_12, .bool r_13])) <| sQ 61 (ye (gD_ r_12)) <| sQ 62 (ye (.bool r_13)) ?_
 refine sS 19 (yN kZ_ 5 hS19 K5) ?_
 rintro _ w_19 ⟨b7, rfl, hS20⟩
 refine s0 (yT 12 5 (aD b7) 54 (gD_ r_12) (kD_ r_12) 0 hS20 K0) ?_
 rintro _ w_20 ⟨rfl, hS21⟩
 have hS21 : ST w0 [] _ [⟨aD b, 26, kM_ m B c, 3⟩, ⟨aD b1, 26, kM_ bar B1 c1, 3⟩, ⟨aD b2, 54, kZ_, 5⟩, ⟨aD b3, 90, (([2, 3, 4] : List Int).flatMap encI), 3⟩, ⟨B2, 54, (r_2.Cells.flatMap eN0), c2 * 5⟩, ⟨aD b4, 26, kM_ r_2 B2 c2, 3⟩, ⟨B3, 54, (r_4.Cells.flatMap eN0), c3 * 5⟩, ⟨aD b5, 26, kM_ r_4 B3 c3, 3⟩, ⟨B4, 54, (r_6.Cells.flatMap eN0), c4 * 5⟩, ⟨aD b6, 26, kM_ r_10 B6 c6, 3⟩, ⟨B5, 54, (r_8.Cells.flatMap eN0), c5 * 5⟩, ⟨B6, 54, (r_10.Cells.flatMap eN0), c6 * 5⟩, ⟨aD b7, 54, kD_ r_12, 5⟩] [⟨B, (m.Cells.flatMap eN0)⟩, ⟨B1, (bar.Cells.flatMap eN0)⟩, ⟨(aD 0), [vi 1, vi 0, vi 0, vi 0, vi 2]⟩] := hS21
 refine sQ 20 (yg (.bool r_13)) (rn (cq (cr ?_)))
 refine sQ 64 (yb (aD b7) 0 (kD_ r_12) K3 K0 (hS21.c 12)) <| sQ 65 (yb (aD 0) 0 [vi 1, vi 0, vi 0, vi 0, vi 2] K3 K0 (hS21.rf (i := 2) rfl)) ?_
 obtain ⟨⟨r_14, r_15⟩, hc6, hF⟩ := bI hF
 refine sc 66 rfl rfl (yC [gD_ r_12, .agg #[vi 1, vi 0, vi 0, vi 0, vi 2]] K57 (c_impl_MulDyadic r_12 (TDyadic.mk (TRing.mk 1 0 0 0) 2) _  (hS21.inn0 [] rfl) hc6)) ?_
 rintro _ w_21 ⟨rfl, hd6⟩
 have hS22 := hS21.out00 hd6
 refine sQ 63 (ym (.tuple #[gD_ r_14, .bool r_15])) <| sQ 67 (ye (gD_ r_14)) <| sQ 68 (ye (.bool r_15)) ?_
 refine sS 21 (yN kZ_ 5 hS22 K5) ?_
 rintro _ w_22 ⟨b8, rfl, hS23⟩
 refine s0 (yT 13 5 (aD b8) 54 (gD_ r_14) (kD_ r_14) 0 hS23 K0) ?_
 rintro _ w_23 ⟨rfl, hS24⟩
 refine sQ 22 (yg (.bool r_15)) (rn (cq (cr ?_)))
 refine sQ 69 (yb (aD b8) 0 (kD_ r_14) K3 K0 (hS24.c 13)) <| sQ 70 (ym (.bool r_7)) <| sQ 71 (ym (.bool r_7)) ?_
 refine sgq 72 (B := r_7) (v := .bool r_9) rfl rfl (uT_ 71) (fun hg => (ym (.bool r_9))) ?_
 refine sQ 73 (Y_and (b := r_7) (z := r_9) rfl rfl rfl rfl) <| sQ 74 (ym (.bool (r_7 && r_9))) ?_
 refine sgq 75 (B := (r_7 && r_9)) (v := .bool r_11) rfl rfl (uT_ 74) (fun hg1 => (ym (.bool r_11))) ?_
 refine sQ 76 (Y_and (b := (r_7 && r_9)) (z := r_11) rfl rfl rfl rfl) <| sQ 77 (ym (.bool ((r_7 && r_9) && r_11))) ?_
 refine sgq 78 (B := ((r_7 && r_9) && r_11)) (v := .bool r_13) rfl rfl (uT_ 77) (fun hg2 => (ym (.bool r_13))) ?_
 refine sQ 79 (Y_and (b := ((r_7 && r_9) && r_11)) (z := r_13) rfl rfl rfl rfl) <| sQ 80 (ym (.bool (((r_7 && r_9) && r_11) && r_13))) ?_
 refine sgq 81 (B := (((r_7 && r_9) && r_11) && r_13)) (v := .bool r_15) rfl rfl (uT_ 80) (fun hg3 => (ym (.bool r_15))) ?_
 refine sQ 82 (Y_and (b := (((r_7 && r_9) && r_11) && r_13)) (z := r_15) rfl rfl rfl rfl) ?_
 refine s0 (yT 2 5 (aD b2) 54 (gD_ r_14) (kD_ r_14) 0 hS24 K0) ?_
 rintro _ w_24 ⟨rfl, hS25⟩
 refine sQ 9 (yg (.bool ((((r_7 && r_9) && r_11) && r_13) && r_15))) (rn (ct_ ?_))
 obtain ⟨rfl, rfl⟩ := pr2 (sI hF)
 exact ret2 Tryz.results24 (v1 := gD_ r_14) (resAt_cellA (B := aD b2) (i := 0) (cs := kD_ r_14) (vs := kD_ r_14) rfl K3 K0 (hS25.c 2) rfl rfl) (v2 := .bool ((((r_7 && r_9) && r_11) && r_13) && r_15)) (resAt_tmp rfl) ⟨rfl, (hS25.sN [])⟩

theorem c_impl_BlochOf (m : TMatrix) (B : Option Addr) (c n : Nat) (w0 : World) (hn : m.Cells.length = n) (hS : ST w0 [] w0 [] [⟨B, (m.Cells.flatMap eN0)⟩, ⟨(aD 0), [vi 1, vi 0, vi 0, vi 0, vi 2]⟩]) {r_ : TBloch} {r_1 : Bool} (hF : F_impl_BlochOf m = some (r_, r_1)) :
  CV Tryz.prog 7 #[.agg #[vi m.Rows, vi m.Cols, .slice B n c]] w0 (fun v w' => ∃ (B1 : Option Addr) (c1 : Nat), v = .tuple #[gB_ r_ B1 c1, .bool r_1] ∧ ST w0 [] w' [⟨B1, 54, (r_.Cells.flatMap eN0), c1 * 5⟩] []) := by
 subst hn
 unfold F_impl_BlochOf at hF
 refine cv_of_cw 47 Tryz.func7 rfl Tryz.ntmps7 rfl ?_
 refine cq (cr ?_)
 refine sS 1 (yB 26 (gM_ m B c) (kM_ m B c) 3 hS) ?_
 rintro _ w_ ⟨b, rfl, hS1⟩
 refine sS 2 (yN [.slice none 0 0] 1 hS1 K26) ?_
 rintro _ w_1 ⟨b1, rfl, hS2⟩
 refine sQ 3 (yg (.bool false)) (rn (cq (cq (cr ?_))))
 refine sQ 11 (yb (aD b) 0 (kM_ m B c) K13 K6 (hS2.c 0)) ?_
 obtain ⟨r_2, hc, hF⟩ := bI hF
 refine sc 12 rfl rfl (yC [gM_ m B c] k_call_22 (c_impl_IsOneQubit m B c m.Cells.length _ rfl (hS2.inn0 [(true, 0)] rfl) hc)) ?_
 rintro _ w_2 ⟨rfl, hd⟩
 have hS3 := hS2.out00 hd
 refine sQ 13 (Y_not (p := r_2) rfl rfl) (rn ?_)
 refine cw_cond (b := (!r_2)) rfl (fun hb => ?_) (fun hb => ?_)
 ·skip
  have hF1 := ct hF hb
  refine cq (cr ?_)
  refine sQ 14 (Y_buildS (zs := [.slice none 0 0]) (vs := []) (cs := [.slice none 0 0]) K89 K26 rfl mpn rfl) ?_
  refine s0 (yT 1 1 (aD b1) 29 (.agg #[.slice none 0 0]) [.slice none 0 0] 0 hS3 K14) ?_
  rintro _ w_3 ⟨rfl, hS4⟩
  refine sQ 3 (yg (.bool false)) (rn (ct_ ?_))
  have hS5 := hS4.addNil 54
  obtain ⟨rfl, rfl⟩ := pr2 (sI hF1)
  exact ret2 Tryz.results7 (v1 := .agg #[.slice none 0 0]) (resAt_cellA (B := aD b1) (i := 0) (cs := [.slice none 0 0]) (vs := [.slice none 0 0]) rfl K25 K14 (hS5.c 1) rfl rfl) (v2 := .bool false) (resAt_tmp rfl) ⟨none, 0, rfl, (hS5.sN [2])⟩
 ·skip
  have hF2 := cf' hF hb
  refine cw_skip (cq (cr ?_))
  refine sQ 16 (yb (aD b) 0 (kM_ m B c) K13 K6 (hS3.c 0)) ?_
  obtain ⟨⟨r_3, r_4⟩, hc1, hF2⟩ := bI hF2
  refine sc 17 rfl rfl (yC [gM_ m B c] k_call_23 (c_impl_Adjoint m B c m.Cells.length _ rfl (hS3.inn0 [(true, 0)] rfl) hc1)) ?_
  rintro _ w_4 ⟨B2, c2, rfl, hd1⟩
  have hS6 := hS3.out0 hd1
  refine sQ 15 (ym (.tuple #[gM_ r_3 B2 c2, .bool r_4])) <| sQ 18 (ye (gM_ r_3 B2 c2)) <| sQ 19 (ye (.bool r_4)) ?_
  refine sS 4 (yN kN_ 3 hS6 K17) ?_
  rintro _ w_5 ⟨b2, rfl, hS7⟩
  refine s0 (yT 3 3 (aD b2) 26 (gM_ r_3 B2 c2) (kM_ r_3 B2 c2) 0 hS7 K6) ?_
  rintro _ w_6 ⟨rfl, hS8⟩
  refine sQ 5 (yg (.bool r_4)) (rn (cq (cr ?_)))
  refine sQ 20 (Y_buildS (zs := [.slice none 0 0]) (vs := []) (cs := [.slice none 0 0]) K89 K26 rfl mpn rfl) ?_
  refine sS 6 (yN [.slice none 0 0] 1 hS8 K26) ?_
  rintro _ w_7 ⟨b3, rfl, hS9⟩
  refine s0 (yT 4 1 (aD b3) 29 (.agg #[.slice none 0 0]) [.slice none 0 0] 0 hS9 K14) ?_
  rintro _ w_8 ⟨rfl, hS10⟩
  refine rn (cq (cq (cr ?_)))
  refine sQ 21 (ym (vi 0)) (rn ?_)
  obtain ⟨z, hz, hF3⟩ := bI hF2
  have hS12 := hS10.addNil 54
  refine cw_block ?_
  refine cw_loop (fun k f w => ∃ (i : Nat) (Cells : List TDyadic) (B3 : Option Addr) (c3 : Nat), FF f [(1, pt (aD b) 0), (2, pt (aD b1) 0), (4, pt (aD b2) 0), (6, pt (aD b3) 0), (21, vi (i : Int))] ∧ ST w0 [] w [⟨aD b, 26, kM_ m B c, 3⟩, ⟨aD b1, 29, [.slice none 0 0], 1⟩, ⟨aD b2, 26, kM_ r_3 B2 c2, 3⟩, ⟨B2, 54, (r_3.Cells.flatMap eN0), c2 * 5⟩, ⟨aD b3, 29, [.slice B3 Cells.length c3], 1⟩, ⟨B3, 54, (Cells.flatMap eN0), c3 * 5⟩] [⟨B, (m.Cells.flatMap eN0)⟩, ⟨(aD 0), [vi 1, vi 0, vi 0, vi 0, vi 2]⟩] ∧ i + k = 3 ∧ forX (F_impl_BlochOf_l1 m r_3) k i Cells = some z) 3 ⟨0, [], none, 0, (fc rfl (fc rfl (fc rfl (fc rfl (fc rfl fn_))))), (hS12.sel [0, 1, 3, 2, 4, 5] rfl rfl), Nat.zero_add _, hz⟩ ?_
  rintro k_ f w ⟨i, Cells, B3, c3, hf, hS11, hik, hL⟩
  refine cq (cr ?_)
  refine sQ 22 (yL (i : Int) 3 rfl (hf.g 21 4)) (rn (cq ?_))
  refine cw_cond (b := (decide ((i : Int) < 3))) rfl (fun hlt => ?_) (fun hlt => ?_)
  ·skip
   have hlt1 : i < 3 := by have h := of_decide_eq_true hlt; omega
   obtain ⟨K9, rfl⟩ : ∃ k2, k_ = k2 + 1 := ⟨k_ - 1, by omega⟩
   obtain ⟨y, hb1, hL1⟩ := forX_go hL
   unfold F_impl_BlochOf_l1 at hb1
   refine cw_skip (cq (cw_block (cq (cr ?_))))
   refine sQ 23 (ym (vi (i : Int)) rfl (hf.g 21 4)) <| sQ 7 (yg (vi (i : Int))) (rn (cq (cr ?_)))
   refine sQ 24 (ym (vi 0)) (rn ?_)
   obtain ⟨z1, hz1, hF4⟩ := bI hb1
   refine cw_block ?_
   refine cw_loop (fun k f w => ∃ (i1 : Nat) (Cells1 : List TDyadic) (B4 : Option Addr) (c4 : Nat), FF f [(1, pt (aD b) 0), (2, pt (aD b1) 0), (4, pt (aD b2) 0), (6, pt (aD b3) 0), (7, vi (i : Int)), (21, vi (i : Int)), (24, vi (i1 : Int))] ∧ ST w0 [] w [⟨aD b, 26, kM_ m B c, 3⟩, ⟨aD b1, 29, [.slice none 0 0], 1⟩, ⟨aD b2, 26, kM_ r_3 B2 c2, 3⟩, ⟨B2, 54, (r_3.Cells.flatMap eN0), c2 * 5⟩, ⟨aD b3, 29, [.slice B4 Cells1.length c4], 1⟩, ⟨B4, 54, (Cells1.flatMap eN0), c4 * 5⟩] [⟨B, (m.Cells.flatMap eN0)⟩, ⟨(aD 0), [vi 1, vi 0, vi 0, vi 0, vi 2]⟩] ∧ i1 + k = 3 ∧ forX (F_impl_BlochOf_l2 m r_3 i) k i1 Cells1 = some z1) 3 ⟨0, Cells, B3, c3, (fc (hf.g 1 0) (fc (hf.g 2 1) (fc (hf.g 4 2) (fc (hf.g 6 3) (fc rfl (fc (hf.g 21 4) (fc rfl fn_))))))), (hS11.sel [0, 1, 2, 3, 4, 5] rfl rfl), Nat.zero_add _, hz1⟩ ?_
   rintro K15 f w ⟨i1, Cells1, B4, c4, hf1, hS13, hik1, hL2⟩
   refine cq (cr ?_)
   refine sQ 25 (yL (i1 : Int) 3 rfl (hf1.g 24 6)) (rn (cq ?_))
   refine cw_cond (b := (decide ((i1 : Int) < 3))) rfl (fun hlt2 => ?_) (fun hlt2 => ?_)
   ·skip
    have hlt3 : i1 < 3 := by have h := of_decide_eq_true hlt2; omega
    obtain ⟨K29, rfl⟩ : ∃ k2, K15 = k2 + 1 := ⟨K15 - 1, by omega⟩
    obtain ⟨y1, hb2, hL3⟩ := forX_go hL2
    unfold F_impl_BlochOf_l2 at hb2
    refine cw_skip (cq (cw_block (cq (cr ?_))))
    refine sQ 26 (ym (vi (i1 : Int)) rfl (hf1.g 24 6)) <| sQ 8 (yg (vi (i1 : Int))) (rn (cq (cr ?_)))
    refine sQ 28 (yb (aD b) 0 (kM_ m B c) K13 K6 (hS13.c 0) rfl (hf1.g 1 0)) <| sQ 29 (yb (aD b2) 0 (kM_ r_3 B2 c2) K13 K6 (hS13.c 2) rfl (hf1.g 4 2)) <| sQ 30 (ym (vi (i : Int)) rfl (hf1.g 7 4)) <| sQ 31 (ym (vi (i1 : Int))) ?_
    obtain ⟨⟨r_5, r_6⟩, hc2, hb2⟩ := bI hb2
    refine sc 32 rfl rfl (yC [gM_ m B c, gM_ r_3 B2 c2, vi (i : Int), vi (i1 : Int)] k_call_24 (c_impl_blochCell m r_3 (i : Int) (i1 : Int) B c m.Cells.length B2 c2 r_3.Cells.length _ rfl rfl (hS13.inn0 [(true, 0), (false, 3), (true, 1)] rfl) hc2)) ?_
    rintro _ w_9 ⟨rfl, hd2⟩
    have hS14 := hS13.out00 hd2
    refine sQ 27 (ym (.tuple #[gD_ r_5, .bool r_6])) <| sQ 33 (ye (gD_ r_5)) <| sQ 34 (ye (.bool r_6)) ?_
    refine sS 9 (yN kZ_ 5 hS14 K5) ?_
    rintro _ w_10 ⟨b4, rfl, hS15⟩
    refine s0 (yT 6 5 (aD b4) 54 (gD_ r_5) (kD_ r_5) 0 hS15 K0) ?_
    rintro _ w_11 ⟨rfl, hS16⟩
    refine sQ 10 (yg (.bool r_6)) (rn (cq (cq (cr ?_))))
    refine sQ 35 (ym (.bool r_6)) <| sQ 36 (Y_not (p := r_6) rfl rfl) (rn ?_)
    refine cw_cond (b := (!r_6)) rfl (fun hb3 => ?_) (fun hb3 => ?_)
    ·skip
     have hF5 := ct hb2 hb3
     refine cq (cr ?_)
     refine sQ 37 (Y_buildS (zs := [.slice none 0 0]) (vs := []) (cs := [.slice none 0 0]) K89 K26 rfl mpn rfl) ?_
     refine s0 (yT 1 1 (aD b1) 29 (.agg #[.slice none 0 0]) [.slice none 0 0] 0 hS16 K14 rfl (hf1.g 2 1)) ?_
     rintro _ w_12 ⟨rfl, hS17⟩
     refine sQ 3 (yg (.bool false)) (rn (ct_ ?_))
     have hS18 := hS17.addNil 54
     obtain rfl := sI hF5
     obtain rfl := sI hL3
     obtain rfl := sI hF4
     obtain rfl := sI hL1
     obtain ⟨rfl, rfl⟩ := pr2 (sI hF3)
     exact ret2 Tryz.results7 (v1 := .agg #[.slice none 0 0]) (resAt_cellA (B := aD b1) (i := 0) (cs := [.slice none 0 0]) (vs := [.slice none 0 0]) (hf1.g 2 1) K25 K14 (hS18.c 1) rfl rfl) (v2 := .bool false) (resAt_tmp rfl) ⟨none, 0, rfl, (hS18.sN [7])⟩
    ·skip
     have hF6 := cf' hb2 hb3
     refine cw_skip (cr ?_)
     refine sQ 38 (yd (aD b3) 0 0 K18 K8 rfl (hf1.g 6 3)) <| sQ 39 (yl (aD b3) 0 [.slice B4 Cells1.length c4] (.slice B4 Cells1.length c4) K12 (hS16.c 4)) <| sQ 40 (yb (aD b4) 0 (kD_ r_5) K3 K0 (hS16.c 6)) ?_
     refine sS 41 (Ys_bslice (s := 5) (len := 1) (vs := [(0, gD_ r_5)]) (cs := kD_ r_5) (zs := kZ_) (m := 5) hS16 K7 K0 K36 rfl (mpc rfl mpn) rfl rfl rfl (by kernel_rfl) (by kernel_rfl) rfl) ?_
     rintro _ w_13 ⟨b5, rfl, hS19⟩
     obtain ⟨hap, hF6⟩ := chk_inv hF6
     refine sS 42 (Ys_append (s := 5) (by' := 40) (i := 5) (nn := Cells1.length) (c := c4) (k := 1) (len := (Cells1 ++ [r_5]).length) (B := B4) (xs := ([r_5].flatMap eN0)) (cs' := ((Cells1 ++ [r_5]).flatMap eN0)) hS19 K7 K0 K38 K5 rfl (by decide) rfl rfl rfl rfl (fm_lenn (l := Cells1) eN2 rfl) rfl (hS19.c 7) (fm_lenn (l := [r_5]) eN2 rfl) (fm_one' (enc := eN0) enc_Dyadic_one [r_5]) (by have := hap; omega) (by have := hap; simp only [maxLen]; omega) (fm_app _ _) (app_len (l := Cells1) (l' := [r_5]) rfl rfl)) ?_
     rintro _ w_14 ⟨B5, c5, rfl, hS20⟩
     refine sQ 43 (yd (aD b3) 0 0 K18 K8 rfl (hf1.g 6 3)) ?_
     refine s0 (yT 4 1 (aD b3) 29 (.slice B5 ((Cells1 ++ [r_5]).length) c5) [.slice B5 ((Cells1 ++ [r_5]).length) c5] 0 hS20 K8) ?_
     rintro _ w_15 ⟨rfl, hS21⟩
     refine rn (cr ?_)
     refine sQ 44 (yP (i1 : Int) 1 rfl (hf1.g 24 6)) <| sQ 24 (ym (vi (i64.wrap ((i1 : Int) + 1)))) (rn ?_)
     obtain rfl := sI hF6
     exact ⟨K29, Nat.lt_succ_self _, i1 + 1, (Cells1 ++ [r_5]), B5, c5, (fc (hf1.g 1 0) (fc (hf1.g 2 1) (fc (hf1.g 4 2) (fc (hf1.g 6 3) (fc (hf1.g 7 4) (fc (hf1.g 21 5) (fc (congrArg (Value.int .i64) (wr_succ hlt3 (show 3 ≤ 9223372036854775807 by decide))) fn_))))))), (hS21.sel [0, 1, 2, 3, 4, 5] rfl rfl), (by omega), hL3⟩
   ·skip
    obtain rfl : K15 = 0 := by have h := of_decide_eq_false hlt2; omega
    refine cw_exit rfl ?_
    obtain rfl := sI hL2
    refine cr ?_
    refine sQ 45 (yP (i : Int) 1 rfl (hf1.g 21 5)) <| sQ 21 (ym (vi (i64.wrap ((i : Int) + 1)))) (rn ?_)
    obtain rfl := sI hF4
    exact ⟨K9, Nat.lt_succ_self _, i + 1, Cells1, B4, c4, (fc (hf1.g 1 0) (fc (hf1.g 2 1) (fc (hf1.g 4 2) (fc (hf1.g 6 3) (fc (congrArg (Value.int .i64) (wr_succ hlt1 (show 3 ≤ 9223372036854775807 by decide))) fn_))))), (hS13.sel [0, 1, 2, 3, 4, 5] rfl rfl), (by omega), hL1⟩
  ·skip
   obtain rfl : k_ = 0 := by have h := of_decide_eq_false hlt; omega
   refine cw_exit rfl ?_
   obtain rfl := sI hL
   refine cq (cr ?_)
   refine sQ 46 (yb (aD b3) 0 [.slice B3 Cells.length c3] K25 K14 (hS11.c 4) rfl (hf.g 6 3)) ?_
   refine s0 (yT 1 1 (aD b1) 29 (.agg #[.slice B3 Cells.length c3]) [.slice B3 Cells.length c3] 0 hS11 K14 rfl (hf.g 2 1)) ?_
   rintro _ w_16 ⟨rfl, hS22⟩
   refine sQ 3 (yg (.bool true)) (rn (ct_ ?_))
   obtain ⟨rfl, rfl⟩ := pr2 (sI hF3)
   exact ret2 Tryz.results7 (v1 := .agg #[.slice B3 Cells.length c3]) (resAt_cellA (B := aD b1) (i := 0) (cs := [.slice B3 Cells.length c3]) (vs := [.slice B3 Cells.length c3]) (hf.g 2 1) K25 K14 (hS22.c 1) rfl rfl) (v2 := .bool true) (resAt_tmp rfl) ⟨B3, c3, rfl, (hS22.sN [5])⟩

theorem c_impl_blochGate (kind : Int)  (w0 : World)  (hS : ST w0 [] w0 [] [⟨(aD 0), [vi 1, vi 0, vi 0, vi 0, vi 2]⟩]) {r_ : TBloch} (hF : F_impl_blochGate kind = some r_) :
  CV Tryz.prog 72 #[vi kind] w0 (fun v w' => ∃ (B : Option Addr) (c : Nat), v = (gB_ r_ B c) ∧ ST w0 [] w' [⟨B, 54, (r_.Cells.flatMap eN0), c * 5⟩] []) := by
 unfold F_impl_blochGate at hF
 refine cv_of_cw 19 Tryz.func72 rfl Tryz.ntmps72 rfl ?_
 refine cq (cr ?_)
 refine sS 2 (yN [.slice none 0 0] 1 hS K26) ?_
 rintro _ w_ ⟨b, rfl, hS1⟩
 refine rn (cq (cr ?_))
 refine sQ 8 (ym (vi kind)) <| sQ 9 (Y_buildS (zs := [vi 0, vi 0, vi 0]) (vs := [(0, vi kind)]) (cs := [vi kind, vi 0, vi 0]) K81 K45 rfl (mpc rfl mpn) rfl) ?_
 obtain ⟨⟨r_1, r_2⟩, hc, hF⟩ := bI hF
 refine sc 10 rfl rfl (yC [vi 1, .agg #[vi kind, vi 0, vi 0]] K127 (c_impl_GateMatrix 1 (TGate.mk kind 0 0) _  (hS1.inn0 [] rfl) hc)) ?_
 rintro _ w_1 ⟨B1, c1, rfl, hd⟩
 have hS2 := hS1.out0 hd
 refine sQ 7 (ym (.tuple #[gM_ r_1 B1 c1, .bool r_2])) <| sQ 11 (ye (gM_ r_1 B1 c1)) <| sQ 12 (ye (.bool r_2)) ?_
 refine sS 3 (yN kN_ 3 hS2 K17) ?_
 rintro _ w_2 ⟨b1, rfl, hS3⟩
 refine s0 (yT 2 3 (aD b1) 26 (gM_ r_1 B1 c1) (kM_ r_1 B1 c1) 0 hS3 K6) ?_
 rintro _ w_3 ⟨rfl, hS4⟩
 refine sQ 4 (yg (.bool r_2)) (rn (cq (cr ?_)))
 refine sQ 14 (yb (aD b1) 0 (kM_ r_1 B1 c1) K13 K6 (hS4.c 2)) ?_
 obtain ⟨⟨r_3, r_4⟩, hc1, hF⟩ := bI hF
 refine sc 15 rfl rfl (yC [gM_ r_1 B1 c1] k_call_7 (c_impl_BlochOf r_1 B1 c1 r_1.Cells.length _ rfl (hS4.inn0 [(false, 1), (true, 0)] rfl) hc1)) ?_
 rintro _ w_4 ⟨B2, c2, rfl, hd1⟩
 have hS5 := hS4.out0 hd1
 refine sQ 13 (ym (.tuple #[gB_ r_3 B2 c2, .bool r_4])) <| sQ 16 (ye (gB_ r_3 B2 c2)) <| sQ 17 (ye (.bool r_4)) ?_
 refine sS 5 (yN [.slice none 0 0] 1 hS5 K26) ?_
 rintro _ w_5 ⟨b2, rfl, hS6⟩
 refine s0 (yT 4 1 (aD b2) 29 (gB_ r_3 B2 c2) (kB_ r_3 B2 c2) 0 hS6 K14) ?_
 rintro _ w_6 ⟨rfl, hS7⟩
 refine sQ 6 (yg (.bool r_4)) (rn (cq (cr ?_)))
 refine sQ 18 (yb (aD b2) 0 (kB_ r_3 B2 c2) K25 K14 (hS7.c 4)) ?_
 refine s0 (yT 0 1 (aD b) 29 (gB_ r_3 B2 c2) (kB_ r_3 B2 c2) 0 hS7 K14) ?_
 rintro _ w_7 ⟨rfl, hS8⟩
 refine rn (ct_ ?_)
 obtain rfl := sI hF
 exact ret1 Tryz.results72 (v1 := gB_ r_3 B2 c2) (resAt_cellA (B := aD b) (i := 0) (cs := kB_ r_3 B2 c2) (vs := kB_ r_3 B2 c2) rfl K25 K14 (hS8.c 0) rfl rfl) ⟨B2, c2, rfl, (hS8.sN [3])⟩

theorem c_slices_IndexFunc_SSimpl_Dyadic_impl_Dyadic (s : List (List TDyadic)) (f_ : (List TDyadic) → Option (Bool)) (B : Option Addr) (c n : Nat) (D : List (Hd × (List TDyadic))) (kf : Nat) (caps : Array Value) (Rf : List Ro) (w0 : World) (hn : s.length = n) (hD : D.map Prod.snd = s) (hk : callB Tryz.prog kf = true) (hp : ∀ (w : World) (x : List TDyadic) (B_x : Option Addr) (c_x : Nat), ST w [] w [] (⟨B_x, (x.flatMap eN0)⟩ :: Rf) → ∀ (y : Bool), f_ x = some y → CV Tryz.prog kf ((.slice B_x x.length c_x) :: caps.toList).toArray w (fun v w' => v = .bool y ∧ ST w [] w' [] [])) (hS : ST w0 [] w0 [] (⟨B, (D.flatMap eN3)⟩ :: ((D.flatMap eN1) ++ Rf))) {r_ : Int} (hF : F_slices_IndexFunc_SSimpl_Dyadic_impl_Dyadic s f_ = some r_) :
  CV Tryz.prog 126 #[.slice B n c, .func (.func kf) #[] caps] w0 (fun v w' => v = vi r_ ∧ ST w0 [] w' [] []) := by
 subst hn
 unfold F_slices_IndexFunc_SSimpl_Dyadic_impl_Dyadic at hF
 refine cv_of_cw 19 Tryz.func126 rfl Tryz.ntmps126 rfl ?_
 refine cq (cr ?_)
 refine sQ 4 (yg (vi 0)) (rn (cq (cq (cr ?_))))
 refine sQ 6 (ym (.slice B s.length c)) <| sQ 7 (Y_len (B := B) (m := s.length) (c := c) K41 rfl rfl) <| sQ 8 (ym (vi 0)) (rn ?_)
 obtain ⟨hN, hF⟩ := chk_inv hF
 obtain ⟨z, hz, hF1⟩ := bI hF
 refine cw_block ?_
 refine cw_loop (fun k f w => ∃ (i : Nat), FF f [(0, .slice B s.length c), (1, .func (.func kf) #[] caps), (7, vi (s.length : Int)), (8, vi (i : Int))] ∧ ST w0 [] w [] (⟨B, (D.flatMap eN3)⟩ :: ((D.flatMap eN1) ++ Rf)) ∧ i + k = s.length ∧ forX (F_slices_IndexFunc_SSimpl_Dyadic_impl_Dyadic_l1 s f_) k i () = some z) s.length ⟨0, (fc rfl (fc rfl (fc rfl (fc rfl fn_)))), (hS.sel [] rfl rfl), Nat.zero_add _, hz⟩ ?_
 rintro k_ f w ⟨i, hf, hS1, hik, hL⟩
 refine cq (cr ?_)
 refine sQ 9 (yL (i : Int) (s.length : Int) rfl (hf.g 8 3) (hf.g 7 2)) (rn (cq ?_))
 refine cw_cond (b := (decide ((i : Int) < (s.length : Int)))) rfl (fun hlt => ?_) (fun hlt => ?_)
 ·skip
  have hlt1 : i < s.length := by have h := of_decide_eq_true hlt; omega
  obtain ⟨K9, rfl⟩ : ∃ k2, k_ = k2 + 1 := ⟨k_ - 1, by omega⟩
  obtain ⟨y1, hb, hL1⟩ := forX_go hL
  unfold F_slices_IndexFunc_SSimpl_Dyadic_impl_Dyadic_l1 at hb
  refine cw_skip (cq (cw_block (cq (cr ?_))))
  refine sQ 10 (ym (vi (i : Int)) rfl (hf.g 8 3)) <| sQ 5 (yg (vi (i : Int))) (rn (cq (cr ?_)))
  refine sQ 11 (ym (.func (.func kf) #[] caps) rfl (hf.g 1 1)) <| sQ 12 (ym (.slice B s.length c) rfl (hf.g 0 0)) <| sQ 13 (ym (vi (i : Int))) ?_
  obtain ⟨x1, hx, hb⟩ := bI hb
  obtain ⟨⟨B1, c1⟩, hp1⟩ := getI_snd hD hx
  refine sQ 14 (Y_index (B := B) (m := s.length) (c := c) (k := .i64) (i := (i : Int)) K41 K8 rfl rfl rfl (gi_isSome encD_SDyadic_len rfl (hS1.rf (i := 0) rfl) hp1) (getI_nn hp1) (getI_ltI hp1 (dl_len hD))) ?_
  have hm : (⟨B1, (x1.flatMap eN0)⟩ : Ro) ∈ ((⟨B, (D.flatMap eN3)⟩ :: ((D.flatMap eN1) ++ Rf)) : List Ro) := app_mem (fun r_ (h : r_ ∈ ((D.flatMap eN1) : List Ro)) => mOd (i := 1) (show r_ ∈ ((((D.flatMap eN1) ++ Rf)) : List Ro) from mAl _ h)) (row_mem (rw_ := eN1) hp1 _ (mt 0))
  have hS2 : ST w0 [] _ [] (⟨B1, (x1.flatMap eN0)⟩ :: ⟨B, (D.flatMap eN3)⟩ :: ((D.flatMap eN1) ++ Rf)) := ST.subR hS1 (subc hm (fun _ h => h))
  refine sQ 15 (yl B ((i : Int).toNat * 1) (D.flatMap eN3) (.slice B1 x1.length c1) K12 (hS2.rf (i := 1) rfl) rfl rfl (gi_at0 encD_SDyadic_len hp1 rfl)) ?_
  obtain ⟨r_1, hc, hb⟩ := bI hb
  refine sc 16 rfl rfl (Yc_clos (g := kf) (vs := (.slice B1 x1.length c1) :: caps.toList) hk rfl rfl (clo_args (mc rfl mn)) (hp _ x1 B1 c1 (hS2.innR0 (srcR (mt 0) (fun x h => Or.inl (app_mem (fun r_ (h : r_ ∈ (Rf : List Ro)) => mOd (i := 2) (show r_ ∈ ((((D.flatMap eN1) ++ Rf)) : List Ro) from mAr _ (h))) h)))) r_1 hc)) ?_
  rintro _ w_ ⟨rfl, hd⟩
  have hS3 := hS2.out00 hd
  refine rn ?_
  refine cw_cond (b := r_1) rfl (fun hb1 => ?_) (fun hb1 => ?_)
  ·skip
   have hF2 := ct hb hb1
   refine cq (cr ?_)
   refine sQ 17 (ym (vi (i : Int))) <| sQ 4 (yg (vi (i : Int))) (rn (ct_ ?_))
   obtain rfl := sI hF2
   obtain rfl := sI hL1
   obtain rfl := sI hF1
   exact ret1 Tryz.results126 (v1 := vi (i : Int)) (resAt_tmp rfl) ⟨rfl, (hS3.sN [])⟩
  ·skip
   have hF3 := cf' hb hb1
   refine cw_skip (cr ?_)
   refine sQ 18 (yP (i : Int) 1 rfl (hf.g 8 3)) <| sQ 8 (ym (vi (i64.wrap ((i : Int) + 1)))) (rn ?_)
   obtain rfl := sI hF3
   have hS4 : ST w0 [] _ [] (⟨B, (D.flatMap eN3)⟩ :: ((D.flatMap eN1) ++ Rf)) := ST.subR hS3 (sk 1 (suba (fun r_ (h : r_ ∈ ((D.flatMap eN1) : List Ro)) => mOd (i := 2) (show r_ ∈ ((((D.flatMap eN1) ++ Rf)) : List Ro) from mAl _ h)) (fun r_ (h : r_ ∈ (Rf : List Ro)) => mOd (i := 2) (show r_ ∈ ((((D.flatMap eN1) ++ Rf)) : List Ro) from mAr _ (h)))))
   exact ⟨K9, Nat.lt_succ_self _, i + 1, (fc (hf.g 0 0) (fc (hf.g 1 1) (fc (hf.g 7 2) (fc (congrArg (Value.int .i64) (wr_succ hlt1 hN)) fn_)))), (hS4.sel [] rfl rfl), (by omega), hL1⟩
 ·skip
  obtain rfl : k_ = 0 := by have h := of_decide_eq_false hlt; omega
  refine cw_exit rfl ?_
  obtain rfl := sI hL
  refine cq (cr ?_)
  refine sQ 4 (yg (vi (-1))) (rn (ct_ ?_))
  obtain rfl := sI hF1
  exact ret1 Tryz.results126 (v1 := vi (-1)) (resAt_tmp rfl) ⟨rfl, (hS1.sN [])⟩

theorem c_slices_ContainsFunc_SSimpl_Dyadic_impl_Dyadic (s : List (List TDyadic)) (f_ : (List TDyadic) → Option (Bool)) (B : Option Addr) (c n : Nat) (D : List (Hd × (List TDyadic))) (kf : Nat) (caps : Array Value) (Rf : List Ro) (w0 : World) (hn : s.length = n) (hD : D.map Prod.snd = s) (hk : callB Tryz.prog kf = true) (hp : ∀ (w : World) (x : List TDyadic) (B_x : Option Addr) (c_x : Nat), ST w [] w [] (⟨B_x, (x.flatMap eN0)⟩ :: Rf) → ∀ (y : Bool), f_ x = some y → CV Tryz.prog kf ((.slice B_x x.length c_x) :: caps.toList).toArray w (fun v w' => v = .bool y ∧ ST w [] w' [] [])) (hS : ST w0 [] w0 [] (⟨B, (D.flatMap eN3)⟩ :: ((D.flatMap eN1) ++ Rf))) {r_ : Bool} (hF : F_slices_ContainsFunc_SSimpl_Dyadic_impl_Dyadic s f_ = some r_) :
  CV Tryz.prog 73 #[.slice B n c, .func (.func kf) #[] caps] w0 (fun v w' => v = .bool r_ ∧ ST w0 [] w' [] []) := by
 subst hn
 unfold F_slices_ContainsFunc_SSimpl_Dyadic_impl_Dyadic at hF
 refine cv_of_cw 9 Tryz.func73 rfl Tryz.ntmps73 rfl ?_
 refine cq (cr ?_)
 refine sQ 4 (yg (.bool false)) (rn (cq (cr ?_)))
 refine sQ 5 (ym (.slice B s.length c)) <| sQ 6 (ym (.func (.func kf) #[] caps)) ?_
 obtain ⟨r_1, hc, hF⟩ := bI hF
 refine sc 7 rfl rfl (yC [.slice B s.length c, .func (.func kf) #[] caps] k_call_126 (c_slices_IndexFunc_SSimpl_Dyadic_impl_Dyadic s f_ B c s.length D kf caps Rf _ (dl_fl hD (dl_len hD)) hD hk hp (hS.innS (sk 0 (fun _ h => mOd (i := 1) h))) hc)) ?_
 rintro _ w_ ⟨rfl, hd⟩
 have hS1 := hS.out00 hd
 refine sQ 8 (Y_ge (k := .i64) (a := r_1) (b := 0) rfl rfl rfl) <| sQ 4 (yg (.bool (decide (0 ≤ r_1)))) (rn (ct_ ?_))
 obtain rfl := sI hF
 exact ret1 Tryz.results73 (v1 := .bool (decide (0 ≤ r_1))) (resAt_tmp rfl) ⟨rfl, (hS1.sN [])⟩

theorem c_impl_cliffordList_1 (own : List TDyadic) (p : List TDyadic) (B : Option Addr) (c n : Nat) (B1 : Option Addr) (B2 : Option Addr) (c1 n1 : Nat) (w0 : World) (hn : own.length = n) (hn1 : p.length = n1) (hS : ST w0 [] w0 [] [⟨B, (own.flatMap eN0)⟩, ⟨B1, [.slice B2 n1 c1]⟩, ⟨B2, (p.flatMap eN0)⟩]) {r_ : Bool} (hF : F_impl_cliffordList_1 own p = some r_) :
  CV Tryz.prog 74 #[.slice B n c, pt B1 0] w0 (fun v w' => v = .bool r_ ∧ ST w0 [] w' [] []) := by
 subst hn
 subst hn1
 unfold F_impl_cliffordList_1 at hF
 refine cv_of_cw 7 Tryz.func74 rfl Tryz.ntmps74 rfl ?_
 refine cq (cr ?_)
 refine sQ 3 (yg (.bool false)) (rn (cq (cr ?_)))
 refine sQ 4 (ym (.slice B own.length c)) <| sQ 5 (yl B1 0 [.slice B2 p.length c1] (.slice B2 p.length c1) K12 (hS.rf (i := 1) rfl)) ?_
 obtain ⟨r_1, hc, hF⟩ := bI hF
 refine sc 6 rfl rfl (yC [.slice B own.length c, .slice B2 p.length c1] K125 (c_slices_Equal_impl_Dyadic_impl_Dyadic own p B c own.length B2 c1 p.length _ rfl rfl (hS.inn0 [(true, 0), (true, 2)] rfl) hc)) ?_
 rintro _ w_ ⟨rfl, hd⟩
 have hS1 := hS.out00 hd
 refine sQ 3 (yg (.bool r_1)) (rn (ct_ ?_))
 obtain rfl := sI hF
 exact ret1 Tryz.results74 (v1 := .bool r_1) (resAt_tmp rfl) ⟨rfl, (hS1.sN [])⟩

theorem c_impl_cliffordList   (w0 : World)  (hS : ST w0 [] w0 [] [⟨(aD 0), [vi 1, vi 0, vi 0, vi 0, vi 2]⟩]) {r_ : List (List UInt8)} {r_1 : List (List TDyadic)} (hF : F_impl_cliffordList = some (r_, r_1)) :
  CV Tryz.prog 33 #[] w0 (fun v w' => ∃ (B : Option Addr) (c : Nat) (B1 : Option Addr) (c1 : Nat) (D : List (Hd × (List TDyadic))), v = .tuple #[.slice B r_.length c, .slice B1 r_1.length c1] ∧ D.map Prod.snd = r_1 ∧ Org w0 [] [⟨(aD 0), [vi 1, vi 0, vi 0, vi 0, vi 2]⟩] (((D.flatMap eN1) ++ [])) ∧ ST w0 [] w' [⟨B, 9, (r_.flatMap encS), c * 1⟩, ⟨B1, 24, (D.flatMap eN3), c1 * 1⟩] (((D.flatMap eN1) ++ []))) := by
 unfold F_impl_cliffordList at hF
 refine cv_of_cw 80 Tryz.func33 rfl Tryz.ntmps33 rfl ?_
 refine cq (cr ?_)
 refine sQ 0 (yg (.slice none 0 0)) <| sQ 1 (yg (.slice none 0 0)) (rn (cq (cr ?_)))
 refine sS 13 (Ys_bslice0 (s := 5) (e := 54) hS K7 K0 rfl) ?_
 rintro _ w_ ⟨b, rfl, hS1⟩
 refine sQ 2 (yg (.slice (aD b) 0 0)) (rn (cq (cq (cr ?_))))
 refine sQ 14 (ym (vi 0)) (rn ?_)
 obtain ⟨z, hz, hF1⟩ := bI hF
 refine cw_block ?_
 refine cw_loop (fun k f w => ∃ (i : Nat) (one_ : List TDyadic) (B2 : Option Addr) (c2 : Nat), FF f [(2, .slice B2 one_.length c2), (14, vi (i : Int))] ∧ ST w0 [] w [⟨B2, 54, (one_.flatMap eN0), c2 * 5⟩] [⟨(aD 0), [vi 1, vi 0, vi 0, vi 0, vi 2]⟩] ∧ i + k = 9 ∧ forN F_impl_cliffordList_l1 k i one_ = some z) 9 ⟨0, [], aD b, 0, (fc rfl (fc rfl fn_)), (hS1.sel [0] rfl rfl), Nat.zero_add _, hz⟩ ?_
 rintro k_ f w ⟨i, one_, B2, c2, hf, hS2, hik, hL⟩
 refine cq (cr ?_)
 refine sQ 15 (yL (i : Int) 9 rfl (hf.g 14 1)) (rn (cq ?_))
 refine cw_cond (b := (decide ((i : Int) < 9))) rfl (fun hlt => ?_) (fun hlt => ?_)
 ·skip
  have hlt1 : i < 9 := by have h := of_decide_eq_true hlt; omega
  obtain ⟨K9, rfl⟩ : ∃ k2, k_ = k2 + 1 := ⟨k_ - 1, by omega⟩
  obtain ⟨y, hb, hL1⟩ := forN_go hL
  unfold F_impl_cliffordList_l1 at hb
  refine cw_skip (cq (cw_block (cq (cr ?_))))
  refine sQ 16 (ym (vi (i : Int)) rfl (hf.g 14 1)) <| sQ 3 (yg (vi (i : Int))) (rn (cr ?_))
  refine sQ 17 (ym (.slice B2 one_.length c2) rfl (hf.g 2 0)) <| sQ 18 (ym (vi (i : Int))) <| sQ 19 (Y_rem (k := .i64) (a := (i : Int)) (b := 4) rfl rfl rfl (by decide)) <| sQ 20 (yE (Int.tmod (i : Int) 4) 0) ?_
  obtain ⟨r_2, hc, hb⟩ := bI hb
  refine sc 21 rfl rfl (yC [.bool ((Int.tmod (i : Int) 4) == 0)] K124 (c_impl_small ((Int.tmod (i : Int) 4) == 0) _  (hS2.inn0 [] rfl) hc)) ?_
  rintro _ w_1 ⟨rfl, hd⟩
  have hS3 := hS2.out00 hd
  obtain ⟨r_3, hc1, hb⟩ := bI hb
  refine sc 22 rfl rfl (yC [vi r_2] K91 (c_impl_whole r_2 _  (hS3.inn0 [] rfl) hc1)) ?_
  rintro _ w_2 ⟨rfl, hd1⟩
  have hS4 := hS3.out00 hd1
  refine sS 23 (Ys_bslice (s := 5) (len := 1) (vs := [(0, gD_ r_3)]) (cs := kD_ r_3) (zs := kZ_) (m := 5) hS4 K7 K0 K36 rfl (mpc rfl mpn) rfl rfl rfl (by kernel_rfl) (by kernel_rfl) rfl) ?_
  rintro _ w_3 ⟨b1, rfl, hS5⟩
  obtain ⟨hap, hb⟩ := chk_inv hb
  refine sS 24 (Ys_append (s := 5) (by' := 40) (i := 0) (nn := one_.length) (c := c2) (k := 1) (len := (one_ ++ [r_3]).length) (B := B2) (xs := ([r_3].flatMap eN0)) (cs' := ((one_ ++ [r_3]).flatMap eN0)) hS5 K7 K0 K38 K5 rfl (by decide) rfl rfl rfl rfl (fm_lenn (l := one_) eN2 rfl) rfl (hS5.c 1) (fm_lenn (l := [r_3]) eN2 rfl) (fm_one' (enc := eN0) enc_Dyadic_one [r_3]) (by have := hap; omega) (by have := hap; simp only [maxLen]; omega) (fm_app _ _) (app_len (l := one_) (l' := [r_3]) rfl rfl)) ?_
  rintro _ w_4 ⟨B3, c3, rfl, hS6⟩
  refine sQ 2 (yg (.slice B3 ((one_ ++ [r_3]).length) c3)) (rn (cr ?_))
  refine sQ 25 (yP (i : Int) 1 rfl (hf.g 14 1)) <| sQ 14 (ym (vi (i64.wrap ((i : Int) + 1)))) (rn ?_)
  obtain rfl := sI hb
  exact ⟨K9, Nat.lt_succ_self _, i + 1, (one_ ++ [r_3]), B3, c3, (fc rfl (fc (congrArg (Value.int .i64) (wr_succ hlt1 (show 9 ≤ 9223372036854775807 by decide))) fn_)), (hS6.sel [0] rfl rfl), (by omega), hL1⟩
 ·skip
  obtain rfl : k_ = 0 := by have h := of_decide_eq_false hlt; omega
  refine cw_exit rfl ?_
  obtain rfl := sI hL
  refine cq (cr ?_)
  refine sS 26 (Ys_bslice (s := 1) (len := 1) (vs := [(0, .string (bstr ([] : List UInt8)))]) (cs := [.string (bstr ([] : List UInt8))]) (zs := [.string (bstr ([] : List UInt8))]) (m := 1) hS2 K34 K40 K68 rfl (mpc rfl mpn) rfl rfl rfl (by kernel_rfl) (by kernel_rfl) rfl) ?_
  rintro _ w_5 ⟨b2, rfl, hS7⟩
  refine sQ 27 (ym (.slice B2 one_.length c2) rfl (hf.g 2 0)) ?_
  have ho : Org w0 [] [⟨(aD 0), [vi 1, vi 0, vi 0, vi 0, vi 2]⟩] [⟨B2, (one_.flatMap eN0)⟩] := ST.orgOwn hS7 (i := 0) rfl
  have hcap : one_.length ≤ c2 := (hS7.lencap (i := 0) rfl (fm_lenn (l := one_) eN2 rfl) rfl rfl)
  have hS8 : ST w0 [] _ [⟨aD b2, 9, ([([] : List UInt8)].flatMap encS), 1 * 1⟩] [⟨B2, (one_.flatMap eN0)⟩, ⟨(aD 0), [vi 1, vi 0, vi 0, vi 0, vi 2]⟩] := hS7.freeze (i := 0) rfl
  refine sS 28 (Ys_bslice (s := 1) (len := 1) (vs := [(0, .slice B2 one_.length c2)]) (cs := [.slice B2 one_.length c2]) (zs := [.slice none 0 0]) (m := 1) hS8 K41 K8 K82 rfl (mpc rfl mpn) rfl rfl rfl (by kernel_rfl) (by kernel_rfl) rfl) ?_
  rintro _ w_6 ⟨b3, rfl, hS9⟩
  have hm : ∀ r ∈ ((lH B2 c2 one_).flatMap eN1), r ∈ ([⟨B2, (one_.flatMap eN0)⟩, ⟨(aD 0), [vi 1, vi 0, vi 0, vi 0, vi 2]⟩] : List Ro) := (fsub_cons (sk 0 (fun _ h => by cases h)) fsub_nil)
  have ho1 : Org w0 [] [⟨(aD 0), [vi 1, vi 0, vi 0, vi 0, vi 2]⟩] ((lH B2 c2 one_).flatMap eN1) := (forg_cons (org_cons ho org_nil) forg_nil)
  have hS10 : ST w0 [] _ [⟨aD b2, 9, ([([] : List UInt8)].flatMap encS), 1 * 1⟩, ⟨aD b3, 24, ((lH B2 c2 one_).flatMap eN3), 1 * 1⟩] (⟨B2, (one_.flatMap eN0)⟩ :: ⟨(aD 0), [vi 1, vi 0, vi 0, vi 0, vi 2]⟩ :: (((lH B2 c2 one_).flatMap eN1) ++ [])) := ST.subR hS9 (sk 0 (sk 1 (suba hm (fun _ h => by cases h))))
  refine sQ 4 (yg (.slice (aD b2) 1 1)) <| sQ 5 (yg (.slice (aD b3) 1 1)) (rn (cq (cr ?_)))
  obtain ⟨r_4, hc2, hF1⟩ := bI hF1
  refine sc 29 rfl rfl (yC [vi 1] k_call_72 (c_impl_blochGate 1 _  (hS10.inn0 [(true, 1)] rfl) hc2)) ?_
  rintro _ w_7 ⟨B4, c4, rfl, hd2⟩
  have hS11 := hS10.out0 hd2
  refine sQ 30 (Y_field1 (v := .slice B4 r_4.Cells.length c4) K18 K12 rfl rfl rfl) ?_
  obtain ⟨r_5, hc3, hF1⟩ := bI hF1
  refine sc 31 rfl rfl (yC [vi 5] k_call_72 (c_impl_blochGate 5 _  (hS11.inn0 [(true, 1)] rfl) hc3)) ?_
  rintro _ w_8 ⟨B5, c5, rfl, hd3⟩
  have hS12 := hS11.out0 hd3
  refine sQ 32 (Y_field1 (v := .slice B5 r_5.Cells.length c5) K18 K12 rfl rfl rfl) <| sQ 6 (yg (.slice B4 r_4.Cells.length c4)) <| sQ 7 (yg (.slice B5 r_5.Cells.length c5)) (rn (cq (cq (cr ?_))))
  refine sQ 8 (yg (vi 0)) (rn ?_)
  obtain ⟨z1, hz1, hF2⟩ := bI hF1
  have ho5 : Org w0 [] [⟨(aD 0), [vi 1, vi 0, vi 0, vi 0, vi 2]⟩] [⟨B4, (r_4.Cells.flatMap eN0)⟩] := ST.orgOwn hS12 (i := 2) rfl
  have hcap1 : r_4.Cells.length ≤ c4 := (hS12.lencap (i := 2) rfl (fm_lenn (l := r_4.Cells) eN2 rfl) rfl rfl)
  have hS14 : ST w0 [] _ [⟨aD b2, 9, ([([] : List UInt8)].flatMap encS), 1 * 1⟩, ⟨aD b3, 24, ((lH B2 c2 one_).flatMap eN3), 1 * 1⟩, ⟨B5, 54, (r_5.Cells.flatMap eN0), c5 * 5⟩] (⟨B4, (r_4.Cells.flatMap eN0)⟩ :: ⟨B2, (one_.flatMap eN0)⟩ :: ⟨(aD 0), [vi 1, vi 0, vi 0, vi 0, vi 2]⟩ :: (((lH B2 c2 one_).flatMap eN1) ++ [])) := hS12.freeze (i := 2) rfl
  have ho6 : Org w0 [] [⟨(aD 0), [vi 1, vi 0, vi 0, vi 0, vi 2]⟩] [⟨B5, (r_5.Cells.flatMap eN0)⟩] := ST.orgOwn hS14 (i := 2) rfl
  have hcap2 : r_5.Cells.length ≤ c5 := (hS14.lencap (i := 2) rfl (fm_lenn (l := r_5.Cells) eN2 rfl) rfl rfl)
  have hS15 : ST w0 [] _ [⟨aD b2, 9, ([([] : List UInt8)].flatMap encS), 1 * 1⟩, ⟨aD b3, 24, ((lH B2 c2 one_).flatMap eN3), 1 * 1⟩] (⟨B5, (r_5.Cells.flatMap eN0)⟩ :: ⟨B4, (r_4.Cells.flatMap eN0)⟩ :: ⟨B2, (one_.flatMap eN0)⟩ :: ⟨(aD 0), [vi 1, vi 0, vi 0, vi 0, vi 2]⟩ :: (((lH B2 c2 one_).flatMap eN1) ++ [])) := hS14.freeze (i := 2) rfl
  refine cw_block ?_
  refine cw_loop (fun k f w => ∃ (words : List (List UInt8)) (list : List (List TDyadic)) (at_1 : Int) (B6 : Option Addr) (c6 : Nat) (B7 : Option Addr) (c7 : Nat) (D1 : List (Hd × (List TDyadic))), FF f [(4, .slice B6 words.length c6), (5, .slice B7 list.length c7), (6, .slice B4 r_4.Cells.length c4), (7, .slice B5 r_5.Cells.length c5), (8, vi at_1)] ∧ D1.map Prod.snd = list ∧ Org w0 [] [⟨(aD 0), [vi 1, vi 0, vi 0, vi 0, vi 2]⟩] (D1.flatMap eN1) ∧ Org w0 [] [⟨(aD 0), [vi 1, vi 0, vi 0, vi 0, vi 2]⟩] [⟨B4, (r_4.Cells.flatMap eN0)⟩] ∧ r_4.Cells.length ≤ c4 ∧ Org w0 [] [⟨(aD 0), [vi 1, vi 0, vi 0, vi 0, vi 2]⟩] [⟨B5, (r_5.Cells.flatMap eN0)⟩] ∧ r_5.Cells.length ≤ c5 ∧ ST w0 [] w [⟨B6, 9, (words.flatMap encS), c6 * 1⟩, ⟨B7, 24, (D1.flatMap eN3), c7 * 1⟩] (⟨B5, (r_5.Cells.flatMap eN0)⟩ :: ⟨B4, (r_4.Cells.flatMap eN0)⟩ :: ⟨B2, (one_.flatMap eN0)⟩ :: ⟨(aD 0), [vi 1, vi 0, vi 0, vi 0, vi 2]⟩ :: ((D1.flatMap eN1) ++ [])) ∧ whX (F_impl_cliffordList_l2 r_4 r_5) k (words, list, at_1) = some z1) fuel ⟨[([] : List UInt8)], ([one_] : List (List TDyadic)), 0, aD b2, 1, aD b3, 1, (lH B2 c2 one_), (fc rfl (fc rfl (fc rfl (fc rfl (fc rfl fn_))))), (show List.map Prod.snd (lH B2 c2 one_) = ([one_] : List (List TDyadic)) from rfl), ho1, ho5, (len_le rfl hcap1), ho6, (len_le rfl hcap2), (hS15.sel [0, 1] rfl rfl), hz1⟩ ?_
  rintro K15 f w ⟨words, list, at_1, B6, c6, B7, c7, D1, hf1, hD1, ho2, ho3, hq, ho4, hq1, hS13, hL2⟩
  obtain ⟨K29, y1, rfl, hb1, hL3⟩ := whX_go hL2
  unfold F_impl_cliffordList_l2 at hb1
  refine cq (cq (cr ?_))
  refine sQ 33 (ym (vi at_1) rfl (hf1.g 8 4)) <| sQ 34 (ym (.slice B6 words.length c6) rfl (hf1.g 4 0)) <| sQ 35 (Y_len (B := B6) (m := words.length) (c := c6) K34 rfl rfl) <| sQ 36 (yL at_1 (words.length : Int)) (rn ?_)
  refine cw_cond (b := (decide (at_1 < (words.length : Int)))) rfl (fun hb2 => ?_) (fun hb2 => ?_)
  ·skip
   have hF3 := ct hb1 hb2
   refine cw_skip (cq (cw_block (cq (cr ?_))))
   refine sQ 39 (ym (.slice B4 r_4.Cells.length c4) rfl (hf1.g 6 2)) <| sQ 40 (ym (.slice B5 r_5.Cells.length c5) rfl (hf1.g 7 3)) ?_
   refine sS 41 (Ys_bslice (s := 1) (len := 2) (vs := [(0, .slice B4 r_4.Cells.length c4), (1, .slice B5 r_5.Cells.length c5)]) (cs := [.slice B4 r_4.Cells.length c4, .slice B5 r_5.Cells.length c5]) (zs := [.slice none 0 0, .slice none 0 0]) (m := 2) hS13 K41 K8 K82 rfl (mpc rfl (mpc rfl mpn)) rfl rfl rfl (by kernel_rfl) (by kernel_rfl) rfl) ?_
   rintro _ w_9 ⟨b4, rfl, hS16⟩
   have hm1 : ∀ r ∈ (([((B4, c4), r_4.Cells), ((B5, c5), r_5.Cells)] : List (Hd × (List TDyadic))).flatMap eN1), r ∈ ((⟨B5, (r_5.Cells.flatMap eN0)⟩ :: ⟨B4, (r_4.Cells.flatMap eN0)⟩ :: ⟨B2, (one_.flatMap eN0)⟩ :: ⟨(aD 0), [vi 1, vi 0, vi 0, vi 0, vi 2]⟩ :: ((D1.flatMap eN1) ++ [])) : List Ro) := (fsub_cons (sk 1 (fun _ h => by cases h)) (fsub_cons (sk 0 (fun _ h => by cases h)) fsub_nil))
   have ho7 : Org w0 [] [⟨(aD 0), [vi 1, vi 0, vi 0, vi 0, vi 2]⟩] (([((B4, c4), r_4.Cells), ((B5, c5), r_5.Cells)] : List (Hd × (List TDyadic))).flatMap eN1) := (forg_cons (org_cons ho3 org_nil) (forg_cons (org_cons ho4 org_nil) forg_nil))
   have hS17 : ST w0 [] _ [⟨B6, 9, (words.flatMap encS), c6 * 1⟩, ⟨B7, 24, (D1.flatMap eN3), c7 * 1⟩, ⟨aD b4, 24, (([((B4, c4), r_4.Cells), ((B5, c5), r_5.Cells)] : List (Hd × (List TDyadic))).flatMap eN3), 2 * 1⟩] (⟨B5, (r_5.Cells.flatMap eN0)⟩ :: ⟨B4, (r_4.Cells.flatMap eN0)⟩ :: ⟨B2, (one_.flatMap eN0)⟩ :: ⟨(aD 0), [vi 1, vi 0, vi 0, vi 0, vi 2]⟩ :: ((([((B4, c4), r_4.Cells), ((B5, c5), r_5.Cells)] : List (Hd × (List TDyadic))).flatMap eN1) ++ ((D1.flatMap eN1) ++ []))) := ST.subR hS16 (sk 0 (sk 1 (sk 2 (sk 3 (suba hm1 (suba (fun r_ (h : r_ ∈ ((D1.flatMap eN1) : List Ro)) => mOd (i := 4) (show r_ ∈ ((((D1.flatMap eN1) ++ [])) : List Ro) from mAl _ h)) (fun _ h => by cases h)))))))
   refine sQ 42 (Y_len (B := aD b4) (m := 2) (c := 2) K41 rfl rfl) <| sQ 43 (ym (vi 0)) (rn ?_)
   obtain ⟨z2, hz2, hF4⟩ := bI hF3
   have hS19 : ST w0 [] _ [⟨B6, 9, (words.flatMap encS), c6 * 1⟩, ⟨B7, 24, (D1.flatMap eN3), c7 * 1⟩, ⟨aD b4, 24, (([((B4, c4), r_4.Cells), ((B5, c5), r_5.Cells)] : List (Hd × (List TDyadic))).flatMap eN3), 2 * 1⟩] (⟨B5, (r_5.Cells.flatMap eN0)⟩ :: ⟨B4, (r_4.Cells.flatMap eN0)⟩ :: ⟨B2, (one_.flatMap eN0)⟩ :: ⟨(aD 0), [vi 1, vi 0, vi 0, vi 0, vi 2]⟩ :: ((D1.flatMap eN1) ++ ((([((B4, c4), r_4.Cells), ((B5, c5), r_5.Cells)] : List (Hd × (List TDyadic))).flatMap eN1) ++ []))) := ST.subR hS17 (sk 0 (sk 1 (sk 2 (sk 3 (suba (fun r_ (h : r_ ∈ ((D1.flatMap eN1) : List Ro)) => mOd (i := 4) (show r_ ∈ ((((([((B4, c4), r_4.Cells), ((B5, c5), r_5.Cells)] : List (Hd × (List TDyadic))).flatMap eN1) ++ ((D1.flatMap eN1) ++ []))) : List Ro) from mAr _ (mAl _ h))) (suba (fun r_ (h : r_ ∈ ((([((B4, c4), r_4.Cells), ((B5, c5), r_5.Cells)] : List (Hd × (List TDyadic))).flatMap eN1) : List Ro)) => mOd (i := 4) (show r_ ∈ ((((([((B4, c4), r_4.Cells), ((B5, c5), r_5.Cells)] : List (Hd × (List TDyadic))).flatMap eN1) ++ ((D1.flatMap eN1) ++ []))) : List Ro) from mAl _ h)) (fun _ h => by cases h)))))))
   refine cw_block ?_
   refine cw_loop (fun k f w => ∃ (i2 : Nat) (words1 : List (List UInt8)) (list1 : List (List TDyadic)) (B8 : Option Addr) (c8 : Nat) (B9 : Option Addr) (c9 : Nat) (D2 : List (Hd × (List TDyadic))) (D3 : List (Hd × (List TDyadic))), FF f [(4, .slice B8 words1.length c8), (5, .slice B9 list1.length c9), (6, .slice B4 r_4.Cells.length c4), (7, .slice B5 r_5.Cells.length c5), (8, vi at_1), (41, .slice (aD b4) (([r_4.Cells, r_5.Cells] : List (List TDyadic)).length) 2), (42, vi 2), (43, vi (i2 : Int))] ∧ D2.map Prod.snd = list1 ∧ Org w0 [] [⟨(aD 0), [vi 1, vi 0, vi 0, vi 0, vi 2]⟩] (D2.flatMap eN1) ∧ D3.map Prod.snd = ([r_4.Cells, r_5.Cells] : List (List TDyadic)) ∧ Org w0 [] [⟨(aD 0), [vi 1, vi 0, vi 0, vi 0, vi 2]⟩] (D3.flatMap eN1) ∧ ST w0 [] w [⟨B8, 9, (words1.flatMap encS), c8 * 1⟩, ⟨B9, 24, (D2.flatMap eN3), c9 * 1⟩, ⟨aD b4, 24, (D3.flatMap eN3), 2 * 1⟩] (⟨B5, (r_5.Cells.flatMap eN0)⟩ :: ⟨B4, (r_4.Cells.flatMap eN0)⟩ :: ⟨B2, (one_.flatMap eN0)⟩ :: ⟨(aD 0), [vi 1, vi 0, vi 0, vi 0, vi 2]⟩ :: ((D2.flatMap eN1) ++ ((D3.flatMap eN1) ++ []))) ∧ i2 + k = 2 ∧ forN (F_impl_cliffordList_l3 r_4 r_5 at_1) k i2 (words1, list1) = some z2) 2 ⟨0, words, list, B6, c6, B7, c7, D1, ([((B4, c4), r_4.Cells), ((B5, c5), r_5.Cells)] : List (Hd × (List TDyadic))), (fc (hf1.g 4 0) (fc (hf1.g 5 1) (fc (hf1.g 6 2) (fc (hf1.g 7 3) (fc (hf1.g 8 4) (fc rfl (fc rfl (fc rfl fn_)))))))), hD1, ho2, (show List.map Prod.snd ([((B4, c4), r_4.Cells), ((B5, c5), r_5.Cells)] : List (Hd × (List TDyadic))) = ([r_4.Cells, r_5.Cells] : List (List TDyadic)) from rfl), ho7, (hS19.sel [0, 1, 2] rfl rfl), Nat.zero_add _, hz2⟩ ?_
   rintro K11 f w ⟨i2, words1, list1, B8, c8, B9, c9, D2, D3, hf2, hD2, ho8, hD3, ho9, hS18, hik2, hL4⟩
   refine cq (cr ?_)
   refine sQ 44 (yL (i2 : Int) 2 rfl (hf2.g 43 7) (hf2.g 42 6)) (rn (cq ?_))
   refine cw_cond (b := (decide ((i2 : Int) < 2))) rfl (fun hlt2 => ?_) (fun hlt2 => ?_)
   ·skip
    have hlt3 : i2 < 2 := by have h := of_decide_eq_true hlt2; omega
    obtain ⟨K55, rfl⟩ : ∃ k2, K11 = k2 + 1 := ⟨K11 - 1, by omega⟩
    obtain ⟨y2, hb3, hL5⟩ := forN_go hL4
    unfold F_impl_cliffordList_l3 at hb3
    refine cw_skip (cq ?_)
    obtain ⟨z3, hz3, hF5⟩ := bI hb3
    refine cw_mid (fun f w => ∃ (words2 : List (List UInt8)) (list2 : List (List TDyadic)) (B10 : Option Addr) (c10 : Nat) (B11 : Option Addr) (c11 : Nat) (D4 : List (Hd × (List TDyadic))) (D5 : List (Hd × (List TDyadic))), (words2, list2) = z3 ∧ FF f [(4, .slice B10 words2.length c10), (5, .slice B11 list2.length c11), (6, .slice B4 r_4.Cells.length c4), (7, .slice B5 r_5.Cells.length c5), (8, vi at_1), (41, .slice (aD b4) (([r_4.Cells, r_5.Cells] : List (List TDyadic)).length) 2), (42, vi 2), (43, vi (i2 : Int))] ∧ D4.map Prod.snd = list2 ∧ Org w0 [] [⟨(aD 0), [vi 1, vi 0, vi 0, vi 0, vi 2]⟩] (D4.flatMap eN1) ∧ D5.map Prod.snd = ([r_4.Cells, r_5.Cells] : List (List TDyadic)) ∧ Org w0 [] [⟨(aD 0), [vi 1, vi 0, vi 0, vi 0, vi 2]⟩] (D5.flatMap eN1) ∧ ST w0 [] w [⟨B10, 9, (words2.flatMap encS), c10 * 1⟩, ⟨B11, 24, (D4.flatMap eN3), c11 * 1⟩, ⟨aD b4, 24, (D5.flatMap eN3), 2 * 1⟩] (⟨B5, (r_5.Cells.flatMap eN0)⟩ :: ⟨B4, (r_4.Cells.flatMap eN0)⟩ :: ⟨B2, (one_.flatMap eN0)⟩ :: ⟨(aD 0), [vi 1, vi 0, vi 0, vi 0, vi 2]⟩ :: ((D4.flatMap eN1) ++ ((D5.flatMap eN1) ++ [])))) ?_ ?_
    ·skip
     refine cw_block (cq (cr ?_))
     refine sQ 45 (ym (vi (i2 : Int)) rfl (hf2.g 43 7)) ?_
     obtain ⟨x, hx, hz3⟩ := bI hz3
     obtain ⟨⟨B12, c12⟩, hp⟩ := getI_snd hD3 hx
     refine sQ 46 (Y_index (B := aD b4) (m := ([r_4.Cells, r_5.Cells] : List (List TDyadic)).length) (c := 2) (k := .i64) (i := (i2 : Int)) K41 K8 rfl (hf2.g 41 5) (hf2.g 43 7) (gi_isSome encD_SDyadic_len rfl (hS18.c 2) hp) (getI_nn hp) (getI_ltI hp (dl_len hD3))) ?_
     have hm2 : (⟨B12, (x.flatMap eN0)⟩ : Ro) ∈ ((⟨B5, (r_5.Cells.flatMap eN0)⟩ :: ⟨B4, (r_4.Cells.flatMap eN0)⟩ :: ⟨B2, (one_.flatMap eN0)⟩ :: ⟨(aD 0), [vi 1, vi 0, vi 0, vi 0, vi 2]⟩ :: ((D2.flatMap eN1) ++ ((D3.flatMap eN1) ++ []))) : List Ro) := app_mem (fun r_ (h : r_ ∈ ((D3.flatMap eN1) : List Ro)) => mOd (i := 4) (show r_ ∈ ((((D2.flatMap eN1) ++ ((D3.flatMap eN1) ++ []))) : List Ro) from mAr _ (mAl _ h))) (row_mem (rw_ := eN1) hp _ (mt 0))
     have hS21 : ST w0 [] _ [⟨B8, 9, (words1.flatMap encS), c8 * 1⟩, ⟨B9, 24, (D2.flatMap eN3), c9 * 1⟩, ⟨aD b4, 24, (D3.flatMap eN3), 2 * 1⟩] (⟨B12, (x.flatMap eN0)⟩ :: ⟨B5, (r_5.Cells.flatMap eN0)⟩ :: ⟨B4, (r_4.Cells.flatMap eN0)⟩ :: ⟨B2, (one_.flatMap eN0)⟩ :: ⟨(aD 0), [vi 1, vi 0, vi 0, vi 0, vi 2]⟩ :: ((D2.flatMap eN1) ++ ((D3.flatMap eN1) ++ []))) := ST.subR hS18 (subc hm2 (fun _ h => h))
     refine sQ 47 (yl (aD b4) ((i2 : Int).toNat * 1) (D3.flatMap eN3) (.slice B12 x.length c12) K12 (hS21.c 2) rfl rfl (gi_at0 encD_SDyadic_len hp rfl)) <| sQ 9 (yg (vi (i2 : Int))) <| sQ 10 (yg (.slice B12 x.length c12)) (rn (cq (cr ?_)))
     refine sQ 49 (ym (.slice B12 x.length c12)) <| sQ 50 (ym (.slice B9 list1.length c9) rfl (hf2.g 5 1)) <| sQ 51 (ym (vi at_1) rfl (hf2.g 8 4)) ?_
     obtain ⟨x1, hx1, hz3⟩ := bI hz3
     obtain ⟨⟨B13, c13⟩, hp1⟩ := getI_snd hD2 hx1
     refine sQ 52 (Y_index (B := B9) (m := list1.length) (c := c9) (k := .i64) (i := at_1) K41 K8 rfl rfl rfl (gi_isSome encD_SDyadic_len rfl (hS21.c 1) hp1) (getI_nn hp1) (getI_ltI hp1 (dl_len hD2))) ?_
     have hm3 : (⟨B13, (x1.flatMap eN0)⟩ : Ro) ∈ ((⟨B12, (x.flatMap eN0)⟩ :: ⟨B5, (r_5.Cells.flatMap eN0)⟩ :: ⟨B4, (r_4.Cells.flatMap eN0)⟩ :: ⟨B2, (one_.flatMap eN0)⟩ :: ⟨(aD 0), [vi 1, vi 0, vi 0, vi 0, vi 2]⟩ :: ((D2.flatMap eN1) ++ ((D3.flatMap eN1) ++ []))) : List Ro) := app_mem (fun r_ (h : r_ ∈ ((D2.flatMap eN1) : List Ro)) => mOd (i := 5) (show r_ ∈ ((((D2.flatMap eN1) ++ ((D3.flatMap eN1) ++ []))) : List Ro) from mAl _ h)) (row_mem (rw_ := eN1) hp1 _ (mt 0))
     have hS22 : ST w0 [] _ [⟨B8, 9, (words1.flatMap encS), c8 * 1⟩, ⟨B9, 24, (D2.flatMap eN3), c9 * 1⟩, ⟨aD b4, 24, (D3.flatMap eN3), 2 * 1⟩] (⟨B13, (x1.flatMap eN0)⟩ :: ⟨B12, (x.flatMap eN0)⟩ :: ⟨B5, (r_5.Cells.flatMap eN0)⟩ :: ⟨B4, (r_4.Cells.flatMap eN0)⟩ :: ⟨B2, (one_.flatMap eN0)⟩ :: ⟨(aD 0), [vi 1, vi 0, vi 0, vi 0, vi 2]⟩ :: ((D2.flatMap eN1) ++ ((D3.flatMap eN1) ++ []))) := ST.subR hS21 (subc hm3 (fun _ h => h))
     refine sQ 53 (yl B9 (at_1.toNat * 1) (D2.flatMap eN3) (.slice B13 x1.length c13) K12 (hS22.c 1) rfl rfl (gi_at0 encD_SDyadic_len hp1 rfl)) ?_
     obtain ⟨⟨r_6, r_7⟩, hc4, hz3⟩ := bI hz3
     refine sc 54 rfl rfl (yC [.slice B12 x.length c12, .slice B13 x1.length c13] k_call_31 (c_impl_mulBloch x x1 B12 c12 x.length B13 c13 x1.length _ rfl rfl (hS22.inn0 [(true, 1), (true, 0)] rfl) hc4)) ?_
     rintro _ w_10 ⟨B14, c14, rfl, hd4⟩
     have hS23 := hS22.out0 hd4
     refine sQ 48 (ym (.tuple #[.slice B14 r_6.length c14, .bool r_7])) <| sQ 55 (ye (.slice B14 r_6.length c14)) <| sQ 56 (ye (.bool r_7)) ?_
     refine sS 11 (yN [.slice none 0 0] 1 hS23 K95) ?_
     rintro _ w_11 ⟨b5, rfl, hS24⟩
     refine s0 (yT 4 1 (aD b5) 24 (.slice B14 r_6.length c14) [.slice B14 r_6.length c14] 0 hS24 K8) ?_
     rintro _ w_12 ⟨rfl, hS25⟩
     refine sQ 12 (yg (.bool r_7)) (rn (cq (cr ?_)))
     refine sQ 57 (ym (.slice B9 list1.length c9) rfl (hf2.g 5 1)) <| sQ 58 (Y_makeFunc (cs := [pt (aD b5) 0]) rfl rfl (mc rfl mn)) ?_
     obtain ⟨r_8, hc5, hz3⟩ := bI hz3
     refine sc 59 rfl rfl (yC [.slice B9 list1.length c9, .func (.func 74) #[] #[pt (aD b5) 0]] k_call_73 (c_slices_ContainsFunc_SSimpl_Dyadic_impl_Dyadic list1 (fun x_0 => F_impl_cliffordList_1 x_0 r_6) B9 c9 list1.length D2 74 (#[pt (aD b5) 0]) [⟨aD b5, [.slice B14 r_6.length c14]⟩, ⟨B14, (r_6.flatMap eN0)⟩] _ (dl_fl hD2 (dl_len hD2)) hD2 k_call_74 (fun w x_0 B_0 c_0 hw y_0 h_ => c_impl_cliffordList_1 x_0 r_6 B_0 c_0 x_0.length (aD b5) B14 c14 r_6.length w rfl rfl hw h_) (hS25.innR0 (srcO (i := 1) rfl (srcG (fun r_ (h : r_ ∈ ((D2.flatMap eN1) : List Ro)) => mOd (i := 6) (show r_ ∈ ((((D2.flatMap eN1) ++ ((D3.flatMap eN1) ++ []))) : List Ro) from mAl _ h)) (srcO (i := 4) rfl (srcO (i := 3) rfl (fun _ h => by cases h)))))) hc5)) ?_
     rintro _ w_13 ⟨rfl, hd5⟩
     have hS26 := hS25.out00 hd5
     refine sQ 60 (Y_not (p := r_8) rfl rfl) (rn ?_)
     refine cw_cond (b := (!r_8)) rfl (fun hb4 => ?_) (fun hb4 => ?_)
     ·skip
      have hF6 := ct hz3 hb4
      obtain ⟨x2, hx2, hF6⟩ := bI hF6
      obtain ⟨hss, hF6⟩ := chk_inv hF6
      obtain ⟨hsa, hF6⟩ := chk_inv hF6
      obtain ⟨hap1, hF6⟩ := chk_inv hF6
      obtain ⟨hap2, hF6⟩ := chk_inv hF6
      have ho15 : Org w0 [] [⟨(aD 0), [vi 1, vi 0, vi 0, vi 0, vi 2]⟩] [⟨B14, (r_6.flatMap eN0)⟩] := ST.orgOwn hS26 (i := 3) rfl
      have hcap4 : r_6.length ≤ c14 := (hS26.lencap (i := 3) rfl (fm_lenn (l := r_6) eN2 rfl) rfl rfl)
      have hS30 : ST w0 [] _ [⟨B8, 9, (words1.flatMap encS), c8 * 1⟩, ⟨B9, 24, (D2.flatMap eN3), c9 * 1⟩, ⟨aD b4, 24, (D3.flatMap eN3), 2 * 1⟩, ⟨aD b5, 24, [.slice B14 r_6.length c14], 1⟩] (⟨B14, (r_6.flatMap eN0)⟩ :: ⟨B13, (x1.flatMap eN0)⟩ :: ⟨B12, (x.flatMap eN0)⟩ :: ⟨B5, (r_5.Cells.flatMap eN0)⟩ :: ⟨B4, (r_4.Cells.flatMap eN0)⟩ :: ⟨B2, (one_.flatMap eN0)⟩ :: ⟨(aD 0), [vi 1, vi 0, vi 0, vi 0, vi 2]⟩ :: ((D2.flatMap eN1) ++ ((D3.flatMap eN1) ++ []))) := hS26.freeze (i := 3) rfl
      refine cw_mid (fun f w => ∃ (B17 : Option Addr) (c17 : Nat) (B18 : Option Addr) (c18 : Nat) (D6 : List (Hd × (List TDyadic))), FF f [(4, .slice B17 ((words1 ++ [(x2 ++ (dT i2))]).length) c17), (5, .slice B18 ((list1 ++ ([r_6] : List (List TDyadic))).length) c18), (6, .slice B4 r_4.Cells.length c4), (7, .slice B5 r_5.Cells.length c5), (8, vi at_1), (41, .slice (aD b4) (([r_4.Cells, r_5.Cells] : List (List TDyadic)).length) 2), (42, vi 2), (43, vi (i2 : Int))] ∧ D6.map Prod.snd = (list1 ++ ([r_6] : List (List TDyadic))) ∧ Org w0 [] [⟨(aD 0), [vi 1, vi 0, vi 0, vi 0, vi 2]⟩] (D6.flatMap eN1) ∧ ST w0 [] w [⟨B17, 9, ((words1 ++ [(x2 ++ (dT i2))]).flatMap encS), c17 * 1⟩, ⟨B18, 24, (D6.flatMap eN3), c18 * 1⟩, ⟨aD b4, 24, (D3.flatMap eN3), 2 * 1⟩] (⟨B14, (r_6.flatMap eN0)⟩ :: ⟨B13, (x1.flatMap eN0)⟩ :: ⟨B12, (x.flatMap eN0)⟩ :: ⟨B5, (r_5.Cells.flatMap eN0)⟩ :: ⟨B4, (r_4.Cells.flatMap eN0)⟩ :: ⟨B2, (one_.flatMap eN0)⟩ :: ⟨(aD 0), [vi 1, vi 0, vi 0, vi 0, vi 2]⟩ :: ((D6.flatMap eN1) ++ ((D3.flatMap eN1) ++ [])))) ?_ ?_
      ·skip
       refine ra_start (ST.subR (hS30.se [2, 3]) (R' := (⟨B14, (r_6.flatMap eN0)⟩ :: ⟨B13, (x1.flatMap eN0)⟩ :: ⟨B12, (x.flatMap eN0)⟩ :: ⟨B5, (r_5.Cells.flatMap eN0)⟩ :: ⟨B4, (r_4.Cells.flatMap eN0)⟩ :: ⟨B2, (one_.flatMap eN0)⟩ :: ⟨(aD 0), [vi 1, vi 0, vi 0, vi 0, vi 2]⟩ :: ((D3.flatMap eN1) ++ []))) (sk 0 (sk 1 (sk 2 (sk 3 (sk 4 (sk 5 (sk 6 (suba (fun r_ (h : r_ ∈ ((D3.flatMap eN1) : List Ro)) => mOd (i := 7) (show r_ ∈ ((((D2.flatMap eN1) ++ ((D3.flatMap eN1) ++ []))) : List Ro) from mAr _ (mAl _ h))) (fun _ h => by cases h)))))))))).fn (by kernel_rfl) ?_
       have hS32 := hS30.drew
       refine rq 0 61 (v := .slice B8 words1.length c8) rfl (ST.subR (hS32.se [2, 3]) (R' := (⟨B14, (r_6.flatMap eN0)⟩ :: ⟨B13, (x1.flatMap eN0)⟩ :: ⟨B12, (x.flatMap eN0)⟩ :: ⟨B5, (r_5.Cells.flatMap eN0)⟩ :: ⟨B4, (r_4.Cells.flatMap eN0)⟩ :: ⟨B2, (one_.flatMap eN0)⟩ :: ⟨(aD 0), [vi 1, vi 0, vi 0, vi 0, vi 2]⟩ :: ((D3.flatMap eN1) ++ []))) (sk 0 (sk 1 (sk 2 (sk 3 (sk 4 (sk 5 (sk 6 (suba (fun r_ (h : r_ ∈ ((D3.flatMap eN1) : List Ro)) => mOd (i := 7) (show r_ ∈ ((((D2.flatMap eN1) ++ ((D3.flatMap eN1) ++ []))) : List Ro) from mAr _ (mAl _ h))) (fun _ h => by cases h)))))))))) (fun w' hw' => (ym (.slice B8 words1.length c8) rfl (hf2.g 4 0))) ?_
       refine rq 1 62 (v := .slice B8 words1.length c8) rfl (ST.subR (hS32.se [2, 3]) (R' := (⟨B14, (r_6.flatMap eN0)⟩ :: ⟨B13, (x1.flatMap eN0)⟩ :: ⟨B12, (x.flatMap eN0)⟩ :: ⟨B5, (r_5.Cells.flatMap eN0)⟩ :: ⟨B4, (r_4.Cells.flatMap eN0)⟩ :: ⟨B2, (one_.flatMap eN0)⟩ :: ⟨(aD 0), [vi 1, vi 0, vi 0, vi 0, vi 2]⟩ :: ((D3.flatMap eN1) ++ []))) (sk 0 (sk 1 (sk 2 (sk 3 (sk 4 (sk 5 (sk 6 (suba (fun r_ (h : r_ ∈ ((D3.flatMap eN1) : List Ro)) => mOd (i := 7) (show r_ ∈ ((((D2.flatMap eN1) ++ ((D3.flatMap eN1) ++ []))) : List Ro) from mAr _ (mAl _ h))) (fun _ h => by cases h)))))))))) (fun w' hw' => (ym (.slice B8 words1.length c8) rfl (hf2.g 4 0))) ?_
       refine rq 2 63 (v := vi at_1) rfl (ST.subR (hS32.se [2, 3]) (R' := (⟨B14, (r_6.flatMap eN0)⟩ :: ⟨B13, (x1.flatMap eN0)⟩ :: ⟨B12, (x.flatMap eN0)⟩ :: ⟨B5, (r_5.Cells.flatMap eN0)⟩ :: ⟨B4, (r_4.Cells.flatMap eN0)⟩ :: ⟨B2, (one_.flatMap eN0)⟩ :: ⟨(aD 0), [vi 1, vi 0, vi 0, vi 0, vi 2]⟩ :: ((D3.flatMap eN1) ++ []))) (sk 0 (sk 1 (sk 2 (sk 3 (sk 4 (sk 5 (sk 6 (suba (fun r_ (h : r_ ∈ ((D3.flatMap eN1) : List Ro)) => mOd (i := 7) (show r_ ∈ ((((D2.flatMap eN1) ++ ((D3.flatMap eN1) ++ []))) : List Ro) from mAr _ (mAl _ h))) (fun _ h => by cases h)))))))))) (fun w' hw' => (ym (vi at_1) rfl (hf2.g 8 4))) ?_
       refine rq 5 66 (v := vi (i2 : Int)) rfl (ST.subR (hS32.se [2, 3]) (R' := (⟨B14, (r_6.flatMap eN0)⟩ :: ⟨B13, (x1.flatMap eN0)⟩ :: ⟨B12, (x.flatMap eN0)⟩ :: ⟨B5, (r_5.Cells.flatMap eN0)⟩ :: ⟨B4, (r_4.Cells.flatMap eN0)⟩ :: ⟨B2, (one_.flatMap eN0)⟩ :: ⟨(aD 0), [vi 1, vi 0, vi 0, vi 0, vi 2]⟩ :: ((D3.flatMap eN1) ++ []))) (sk 0 (sk 1 (sk 2 (sk 3 (sk 4 (sk 5 (sk 6 (suba (fun r_ (h : r_ ∈ ((D3.flatMap eN1) : List Ro)) => mOd (i := 7) (show r_ ∈ ((((D2.flatMap eN1) ++ ((D3.flatMap eN1) ++ []))) : List Ro) from mAr _ (mAl _ h))) (fun _ h => by cases h)))))))))) (fun w' hw' => (ym (vi (i2 : Int)))) ?_
       refine rq 6 67 (v := vi (i2 : Int)) rfl (ST.subR (hS32.se [2, 3]) (R' := (⟨B14, (r_6.flatMap eN0)⟩ :: ⟨B13, (x1.flatMap eN0)⟩ :: ⟨B12, (x.flatMap eN0)⟩ :: ⟨B5, (r_5.Cells.flatMap eN0)⟩ :: ⟨B4, (r_4.Cells.flatMap eN0)⟩ :: ⟨B2, (one_.flatMap eN0)⟩ :: ⟨(aD 0), [vi 1, vi 0, vi 0, vi 0, vi 2]⟩ :: ((D3.flatMap eN1) ++ []))) (sk 0 (sk 1 (sk 2 (sk 3 (sk 4 (sk 5 (sk 6 (suba (fun r_ (h : r_ ∈ ((D3.flatMap eN1) : List Ro)) => mOd (i := 7) (show r_ ∈ ((((D2.flatMap eN1) ++ ((D3.flatMap eN1) ++ []))) : List Ro) from mAr _ (mAl _ h))) (fun _ h => by cases h)))))))))) (fun w' hw' => (ym (vi (i2 : Int)))) ?_
       refine rq 7 68 (v := vi (i64.wrap ((i2 : Int) + 1))) rfl (ST.subR (hS32.se [2, 3]) (R' := (⟨B14, (r_6.flatMap eN0)⟩ :: ⟨B13, (x1.flatMap eN0)⟩ :: ⟨B12, (x.flatMap eN0)⟩ :: ⟨B5, (r_5.Cells.flatMap eN0)⟩ :: ⟨B4, (r_4.Cells.flatMap eN0)⟩ :: ⟨B2, (one_.flatMap eN0)⟩ :: ⟨(aD 0), [vi 1, vi 0, vi 0, vi 0, vi 2]⟩ :: ((D3.flatMap eN1) ++ []))) (sk 0 (sk 1 (sk 2 (sk 3 (sk 4 (sk 5 (sk 6 (suba (fun r_ (h : r_ ∈ ((D3.flatMap eN1) : List Ro)) => mOd (i := 7) (show r_ ∈ ((((D2.flatMap eN1) ++ ((D3.flatMap eN1) ++ []))) : List Ro) from mAr _ (mAl _ h))) (fun _ h => by cases h)))))))))) (fun w' hw' => (yP (i2 : Int) 1)) ?_
       refine rq 8 69 (v := .string (bstr (dT i2))) rfl (ST.subR (hS32.se [2, 3]) (R' := (⟨B14, (r_6.flatMap eN0)⟩ :: ⟨B13, (x1.flatMap eN0)⟩ :: ⟨B12, (x.flatMap eN0)⟩ :: ⟨B5, (r_5.Cells.flatMap eN0)⟩ :: ⟨B4, (r_4.Cells.flatMap eN0)⟩ :: ⟨B2, (one_.flatMap eN0)⟩ :: ⟨(aD 0), [vi 1, vi 0, vi 0, vi 0, vi 2]⟩ :: ((D3.flatMap eN1) ++ []))) (sk 0 (sk 1 (sk 2 (sk 3 (sk 4 (sk 5 (sk 6 (suba (fun r_ (h : r_ ∈ ((D3.flatMap eN1) : List Ro)) => mOd (i := 7) (show r_ ∈ ((((D2.flatMap eN1) ++ ((D3.flatMap eN1) ++ []))) : List Ro) from mAr _ (mAl _ h))) (fun _ h => by cases h)))))))))) (fun w' hw' => (Y_sslice (a := ([72, 83] : List UInt8)) (k := .i64) (k' := .i64) (l := (i2 : Int)) (h := (i64.wrap ((i2 : Int) + 1))) K96 rfl rfl rfl rfl hss)) ?_
       refine rq 12 73 (v := .slice B9 list1.length c9) rfl (ST.subR (hS32.se [2, 3]) (R' := (⟨B14, (r_6.flatMap eN0)⟩ :: ⟨B13, (x1.flatMap eN0)⟩ :: ⟨B12, (x.flatMap eN0)⟩ :: ⟨B5, (r_5.Cells.flatMap eN0)⟩ :: ⟨B4, (r_4.Cells.flatMap eN0)⟩ :: ⟨B2, (one_.flatMap eN0)⟩ :: ⟨(aD 0), [vi 1, vi 0, vi 0, vi 0, vi 2]⟩ :: ((D3.flatMap eN1) ++ []))) (sk 0 (sk 1 (sk 2 (sk 3 (sk 4 (sk 5 (sk 6 (suba (fun r_ (h : r_ ∈ ((D3.flatMap eN1) : List Ro)) => mOd (i := 7) (show r_ ∈ ((((D2.flatMap eN1) ++ ((D3.flatMap eN1) ++ []))) : List Ro) from mAr _ (mAl _ h))) (fun _ h => by cases h)))))))))) (fun w' hw' => (ym (.slice B9 list1.length c9) rfl (hf2.g 5 1))) ?_
       refine rq 13 74 (v := .slice B14 r_6.length c14) rfl (ST.subR (hS32.se [2, 3]) (R' := (⟨B14, (r_6.flatMap eN0)⟩ :: ⟨B13, (x1.flatMap eN0)⟩ :: ⟨B12, (x.flatMap eN0)⟩ :: ⟨B5, (r_5.Cells.flatMap eN0)⟩ :: ⟨B4, (r_4.Cells.flatMap eN0)⟩ :: ⟨B2, (one_.flatMap eN0)⟩ :: ⟨(aD 0), [vi 1, vi 0, vi 0, vi 0, vi 2]⟩ :: ((D3.flatMap eN1) ++ []))) (sk 0 (sk 1 (sk 2 (sk 3 (sk 4 (sk 5 (sk 6 (suba (fun r_ (h : r_ ∈ ((D3.flatMap eN1) : List Ro)) => mOd (i := 7) (show r_ ∈ ((((D2.flatMap eN1) ++ ((D3.flatMap eN1) ++ []))) : List Ro) from mAr _ (mAl _ h))) (fun _ h => by cases h)))))))))) (fun w' hw' => (yl (aD b5) 0 [.slice B14 r_6.length c14] (.slice B14 r_6.length c14) K12 (ST.cf hw' (i := 1) rfl))) ?_
       refine rA [3, 14] ?_
       refine ra_y 64 (i := 3) (v := pt B8 (at_1.toNat * 1)) rfl rfl rfl (Y_index (B := B8) (m := words1.length) (c := c8) (k := .i64) (i := at_1) K34 K40 rfl rfl rfl (gi_isSome encS_len rfl (hS32.c 0) hx2) (getI_nn hx2) (getI_ltI hx2 rfl)) (ST.subR (hS32.se [2, 3]) (R' := (⟨B14, (r_6.flatMap eN0)⟩ :: ⟨B13, (x1.flatMap eN0)⟩ :: ⟨B12, (x.flatMap eN0)⟩ :: ⟨B5, (r_5.Cells.flatMap eN0)⟩ :: ⟨B4, (r_4.Cells.flatMap eN0)⟩ :: ⟨B2, (one_.flatMap eN0)⟩ :: ⟨(aD 0), [vi 1, vi 0, vi 0, vi 0, vi 2]⟩ :: ((D3.flatMap eN1) ++ []))) (sk 0 (sk 1 (sk 2 (sk 3 (sk 4 (sk 5 (sk 6 (suba (fun r_ (h : r_ ∈ ((D3.flatMap eN1) : List Ro)) => mOd (i := 7) (show r_ ∈ ((((D2.flatMap eN1) ++ ((D3.flatMap eN1) ++ []))) : List Ro) from mAr _ (mAl _ h))) (fun _ h => by cases h)))))))))) ?_ ?_
       ·skip
        refine rA [4, 14] ?_
        refine ra_y 65 (i := 4) (v := .string (bstr x2)) rfl rfl rfl (yl B8 (at_1.toNat * 1) (words1.flatMap encS) (.string (bstr x2)) K97 (hS32.c 0) rfl rfl (gi_at0 encS_len hx2 rfl)) (ST.subR (hS32.se [2, 3]) (R' := (⟨B14, (r_6.flatMap eN0)⟩ :: ⟨B13, (x1.flatMap eN0)⟩ :: ⟨B12, (x.flatMap eN0)⟩ :: ⟨B5, (r_5.Cells.flatMap eN0)⟩ :: ⟨B4, (r_4.Cells.flatMap eN0)⟩ :: ⟨B2, (one_.flatMap eN0)⟩ :: ⟨(aD 0), [vi 1, vi 0, vi 0, vi 0, vi 2]⟩ :: ((D3.flatMap eN1) ++ []))) (sk 0 (sk 1 (sk 2 (sk 3 (sk 4 (sk 5 (sk 6 (suba (fun r_ (h : r_ ∈ ((D3.flatMap eN1) : List Ro)) => mOd (i := 7) (show r_ ∈ ((((D2.flatMap eN1) ++ ((D3.flatMap eN1) ++ []))) : List Ro) from mAr _ (mAl _ h))) (fun _ h => by cases h)))))))))) ?_ ?_
        ·skip
         refine ra_q 9 70 (v := .string (bstr (x2 ++ (dT i2)))) rfl rfl rfl (by kernel_rfl) (by kernel_rfl) (by kernel_rfl) (ST.subR (hS32.se [2, 3]) (R' := (⟨B14, (r_6.flatMap eN0)⟩ :: ⟨B13, (x1.flatMap eN0)⟩ :: ⟨B12, (x.flatMap eN0)⟩ :: ⟨B5, (r_5.Cells.flatMap eN0)⟩ :: ⟨B4, (r_4.Cells.flatMap eN0)⟩ :: ⟨B2, (one_.flatMap eN0)⟩ :: ⟨(aD 0), [vi 1, vi 0, vi 0, vi 0, vi 2]⟩ :: ((D3.flatMap eN1) ++ []))) (sk 0 (sk 1 (sk 2 (sk 3 (sk 4 (sk 5 (sk 6 (suba (fun r_ (h : r_ ∈ ((D3.flatMap eN1) : List Ro)) => mOd (i := 7) (show r_ ∈ ((((D2.flatMap eN1) ++ ((D3.flatMap eN1) ++ []))) : List Ro) from mAr _ (mAl _ h))) (fun _ h => by cases h)))))))))) (fun w' hw' => (Y_sadd (a := x2) (b := (dT i2)) rfl rfl rfl hsa)) ?_
         refine rA [10, 14] ?_
         refine rS 71 10 rfl (Ys_bslice (s := 1) (len := 1) (vs := [(0, .string (bstr (x2 ++ (dT i2))))]) (cs := [.string (bstr (x2 ++ (dT i2)))]) (zs := [.string (bstr ([] : List UInt8))]) (m := 1) hS32 K34 K40 K68 rfl (mpc rfl mpn) rfl rfl rfl (by kernel_rfl) (by kernel_rfl) rfl) ?_ ?_
         ·rintro _ w_14 ⟨b6, rfl, hS33⟩
          refine ⟨(ST.subR (hS33.se [2, 3]) (R' := (⟨B14, (r_6.flatMap eN0)⟩ :: ⟨B13, (x1.flatMap eN0)⟩ :: ⟨B12, (x.flatMap eN0)⟩ :: ⟨B5, (r_5.Cells.flatMap eN0)⟩ :: ⟨B4, (r_4.Cells.flatMap eN0)⟩ :: ⟨B2, (one_.flatMap eN0)⟩ :: ⟨(aD 0), [vi 1, vi 0, vi 0, vi 0, vi 2]⟩ :: ((D3.flatMap eN1) ++ []))) (sk 0 (sk 1 (sk 2 (sk 3 (sk 4 (sk 5 (sk 6 (suba (fun r_ (h : r_ ∈ ((D3.flatMap eN1) : List Ro)) => mOd (i := 7) (show r_ ∈ ((((D2.flatMap eN1) ++ ((D3.flatMap eN1) ++ []))) : List Ro) from mAr _ (mAl _ h))) (fun _ h => by cases h)))))))))), ?_⟩
          refine rA [11, 14] ?_
          refine rS 72 11 rfl (Ys_append (s := 1) (by' := 16) (i := 0) (nn := words1.length) (c := c8) (k := 1) (len := (words1 ++ [(x2 ++ (dT i2))]).length) (B := B8) (xs := ([(x2 ++ (dT i2))].flatMap encS)) (cs' := ((words1 ++ [(x2 ++ (dT i2))]).flatMap encS)) hS33 K34 K40 K83 K84 rfl (by decide) rfl rfl rfl rfl (fm_lenn (l := words1) encS_len rfl) rfl (hS33.c 4) (fm_lenn (l := [(x2 ++ (dT i2))]) encS_len rfl) (fm_one' (enc := encS) encS_one [(x2 ++ (dT i2))]) (by have := hap1; omega) (by have := hap1; simp only [maxLen]; omega) (fm_app _ _) (app_len (l := words1) (l' := [(x2 ++ (dT i2))]) rfl rfl)) ?_ ?_
          ·rintro _ w_15 ⟨B15, c15, rfl, hS34⟩
           refine ⟨(ST.subR (hS34.se [2, 3]) (R' := (⟨B14, (r_6.flatMap eN0)⟩ :: ⟨B13, (x1.flatMap eN0)⟩ :: ⟨B12, (x.flatMap eN0)⟩ :: ⟨B5, (r_5.Cells.flatMap eN0)⟩ :: ⟨B4, (r_4.Cells.flatMap eN0)⟩ :: ⟨B2, (one_.flatMap eN0)⟩ :: ⟨(aD 0), [vi 1, vi 0, vi 0, vi 0, vi 2]⟩ :: ((D3.flatMap eN1) ++ []))) (sk 0 (sk 1 (sk 2 (sk 3 (sk 4 (sk 5 (sk 6 (suba (fun r_ (h : r_ ∈ ((D3.flatMap eN1) : List Ro)) => mOd (i := 7) (show r_ ∈ ((((D2.flatMap eN1) ++ ((D3.flatMap eN1) ++ []))) : List Ro) from mAr _ (mAl _ h))) (fun _ h => by cases h)))))))))), ?_⟩
           refine rA [14] ?_
           refine rS 75 14 rfl (Ys_bslice (s := 1) (len := 1) (vs := [(0, .slice B14 r_6.length c14)]) (cs := [.slice B14 r_6.length c14]) (zs := [.slice none 0 0]) (m := 1) hS34 K41 K8 K82 rfl (mpc rfl mpn) rfl rfl rfl (by kernel_rfl) (by kernel_rfl) rfl) ?_ ?_
           ·rintro _ w_16 ⟨b7, rfl, hS35⟩
            have hm5 : ∀ r ∈ ((lH B14 c14 r_6).flatMap eN1), r ∈ ((⟨B14, (r_6.flatMap eN0)⟩ :: ⟨B13, (x1.flatMap eN0)⟩ :: ⟨B12, (x.flatMap eN0)⟩ :: ⟨B5, (r_5.Cells.flatMap eN0)⟩ :: ⟨B4, (r_4.Cells.flatMap eN0)⟩ :: ⟨B2, (one_.flatMap eN0)⟩ :: ⟨(aD 0), [vi 1, vi 0, vi 0, vi 0, vi 2]⟩ :: ((D2.flatMap eN1) ++ ((D3.flatMap eN1) ++ []))) : List Ro) := (fsub_cons (sk 0 (fun _ h => by cases h)) fsub_nil)
            have ho17 : Org w0 [] [⟨(aD 0), [vi 1, vi 0, vi 0, vi 0, vi 2]⟩] ((lH B14 c14 r_6).flatMap eN1) := (forg_cons (org_cons ho15 org_nil) forg_nil)
            have hS36 : ST w0 [] _ [⟨B15, 9, ((words1 ++ [(x2 ++ (dT i2))]).flatMap encS), c15 * 1⟩, ⟨B9, 24, (D2.flatMap eN3), c9 * 1⟩, ⟨aD b4, 24, (D3.flatMap eN3), 2 * 1⟩, ⟨aD b5, 24, [.slice B14 r_6.length c14], 1⟩, ⟨aD b6, 9, ([(x2 ++ (dT i2))].flatMap encS), 1 * 1⟩, ⟨aD b7, 24, ((lH B14 c14 r_6).flatMap eN3), 1 * 1⟩] (⟨B14, (r_6.flatMap eN0)⟩ :: ⟨B13, (x1.flatMap eN0)⟩ :: ⟨B12, (x.flatMap eN0)⟩ :: ⟨B5, (r_5.Cells.flatMap eN0)⟩ :: ⟨B4, (r_4.Cells.flatMap eN0)⟩ :: ⟨B2, (one_.flatMap eN0)⟩ :: ⟨(aD 0), [vi 1, vi 0, vi 0, vi 0, vi 2]⟩ :: (((lH B14 c14 r_6).flatMap eN1) ++ ((D2.flatMap eN1) ++ ((D3.flatMap eN1) ++ [])))) := ST.subR hS35 (sk 0 (sk 1 (sk 2 (sk 3 (sk 4 (sk 5 (sk 6 (suba hm5 (suba (fun r_ (h : r_ ∈ ((D2.flatMap eN1) : List Ro)) => mOd (i := 7) (show r_ ∈ ((((D2.flatMap eN1) ++ ((D3.flatMap eN1) ++ []))) : List Ro) from mAl _ h)) (suba (fun r_ (h : r_ ∈ ((D3.flatMap eN1) : List Ro)) => mOd (i := 7) (show r_ ∈ ((((D2.flatMap eN1) ++ ((D3.flatMap eN1) ++ []))) : List Ro) from mAr _ (mAl _ h))) (fun _ h => by cases h)))))))))))
            refine ⟨(ST.subR (hS36.se [2, 3]) (R' := (⟨B14, (r_6.flatMap eN0)⟩ :: ⟨B13, (x1.flatMap eN0)⟩ :: ⟨B12, (x.flatMap eN0)⟩ :: ⟨B5, (r_5.Cells.flatMap eN0)⟩ :: ⟨B4, (r_4.Cells.flatMap eN0)⟩ :: ⟨B2, (one_.flatMap eN0)⟩ :: ⟨(aD 0), [vi 1, vi 0, vi 0, vi 0, vi 2]⟩ :: ((D3.flatMap eN1) ++ []))) (sk 0 (sk 1 (sk 2 (sk 3 (sk 4 (sk 5 (sk 6 (suba (fun r_ (h : r_ ∈ ((D3.flatMap eN1) : List Ro)) => mOd (i := 7) (show r_ ∈ (((((lH B14 c14 r_6).flatMap eN1) ++ ((D2.flatMap eN1) ++ ((D3.flatMap eN1) ++ [])))) : List Ro) from mAr _ (mAr _ (mAl _ h)))) (fun _ h => by cases h)))))))))), ?_⟩
            refine rA [15] ?_
            refine rS 76 15 rfl (Ys_append (s := 1) (by' := 24) (i := 1) (nn := list1.length) (c := c9) (k := 1) (len := (list1 ++ ([r_6] : List (List TDyadic))).length) (B := B9) (xs := ((lH B14 c14 r_6).flatMap eN3)) (cs' := ((D2 ++ (lH B14 c14 r_6)).flatMap eN3)) hS36 K41 K8 K103 K95 rfl (by decide) rfl rfl rfl rfl (fm_lenn (l := D2) encD_SDyadic_len (dl_len hD2)) rfl (hS36.c 5) (fm_lenn (l := (lH B14 c14 r_6)) encD_SDyadic_len rfl) (fm_one' (enc := eN3) encD_SDyadic_one (lH B14 c14 r_6)) (by have := hap2; omega) (by have := hap2; simp only [maxLen]; omega) (fm_app _ _) (dl_sum (dl_len hD2) rfl (dl_app hD2 (show List.map Prod.snd (lH B14 c14 r_6) = ([r_6] : List (List TDyadic)) from rfl)))) ?_ ?_
            ·rintro _ w_17 ⟨B16, c16, rfl, hS37⟩
             have ho18 : Org w0 [] [⟨(aD 0), [vi 1, vi 0, vi 0, vi 0, vi 2]⟩] ((D2 ++ (lH B14 c14 r_6)).flatMap eN1) := (forg_app ho8 ho17)
             have hS38 : ST w0 [] _ [⟨B15, 9, ((words1 ++ [(x2 ++ (dT i2))]).flatMap encS), c15 * 1⟩, ⟨B16, 24, ((D2 ++ (lH B14 c14 r_6)).flatMap eN3), c16 * 1⟩, ⟨aD b4, 24, (D3.flatMap eN3), 2 * 1⟩, ⟨aD b5, 24, [.slice B14 r_6.length c14], 1⟩, ⟨aD b6, 9, ([(x2 ++ (dT i2))].flatMap encS), 1 * 1⟩, ⟨aD b7, 24, ((lH B14 c14 r_6).flatMap eN3), 1 * 1⟩] (⟨B14, (r_6.flatMap eN0)⟩ :: ⟨B13, (x1.flatMap eN0)⟩ :: ⟨B12, (x.flatMap eN0)⟩ :: ⟨B5, (r_5.Cells.flatMap eN0)⟩ :: ⟨B4, (r_4.Cells.flatMap eN0)⟩ :: ⟨B2, (one_.flatMap eN0)⟩ :: ⟨(aD 0), [vi 1, vi 0, vi 0, vi 0, vi 2]⟩ :: (((D2 ++ (lH B14 c14 r_6)).flatMap eN1) ++ (((lH B14 c14 r_6).flatMap eN1) ++ ((D3.flatMap eN1) ++ [])))) := ST.subR hS37 (sk 0 (sk 1 (sk 2 (sk 3 (sk 4 (sk 5 (sk 6 (suba (fsub_app (fun r_ (h : r_ ∈ ((D2.flatMap eN1) : List Ro)) => mOd (i := 7) (show r_ ∈ (((((lH B14 c14 r_6).flatMap eN1) ++ ((D2.flatMap eN1) ++ ((D3.flatMap eN1) ++ [])))) : List Ro) from mAr _ (mAl _ h))) (fun r_ (h : r_ ∈ (((lH B14 c14 r_6).flatMap eN1) : List Ro)) => mOd (i := 7) (show r_ ∈ (((((lH B14 c14 r_6).flatMap eN1) ++ ((D2.flatMap eN1) ++ ((D3.flatMap eN1) ++ [])))) : List Ro) from mAl _ h))) (suba (fun r_ (h : r_ ∈ (((lH B14 c14 r_6).flatMap eN1) : List Ro)) => mOd (i := 7) (show r_ ∈ (((((lH B14 c14 r_6).flatMap eN1) ++ ((D2.flatMap eN1) ++ ((D3.flatMap eN1) ++ [])))) : List Ro) from mAl _ h)) (suba (fun r_ (h : r_ ∈ ((D3.flatMap eN1) : List Ro)) => mOd (i := 7) (show r_ ∈ (((((lH B14 c14 r_6).flatMap eN1) ++ ((D2.flatMap eN1) ++ ((D3.flatMap eN1) ++ [])))) : List Ro) from mAr _ (mAr _ (mAl _ h)))) (fun _ h => by cases h)))))))))))
             refine ⟨(ST.subR (hS38.se [2, 3]) (R' := (⟨B14, (r_6.flatMap eN0)⟩ :: ⟨B13, (x1.flatMap eN0)⟩ :: ⟨B12, (x.flatMap eN0)⟩ :: ⟨B5, (r_5.Cells.flatMap eN0)⟩ :: ⟨B4, (r_4.Cells.flatMap eN0)⟩ :: ⟨B2, (one_.flatMap eN0)⟩ :: ⟨(aD 0), [vi 1, vi 0, vi 0, vi 0, vi 2]⟩ :: ((D3.flatMap eN1) ++ []))) (sk 0 (sk 1 (sk 2 (sk 3 (sk 4 (sk 5 (sk 6 (suba (fun r_ (h : r_ ∈ ((D3.flatMap eN1) : List Ro)) => mOd (i := 7) (show r_ ∈ (((((D2 ++ (lH B14 c14 r_6)).flatMap eN1) ++ (((lH B14 c14 r_6).flatMap eN1) ++ ((D3.flatMap eN1) ++ [])))) : List Ro) from mAr _ (mAr _ (mAl _ h)))) (fun _ h => by cases h)))))))))), ?_⟩
             refine ra_q 16 4 (v := .slice B15 ((words1 ++ [(x2 ++ (dT i2))]).length) c15) rfl rfl rfl (by kernel_rfl) (by kernel_rfl) (by kernel_rfl) (ST.subR (hS38.se [2, 3]) (R' := (⟨B14, (r_6.flatMap eN0)⟩ :: ⟨B13, (x1.flatMap eN0)⟩ :: ⟨B12, (x.flatMap eN0)⟩ :: ⟨B5, (r_5.Cells.flatMap eN0)⟩ :: ⟨B4, (r_4.Cells.flatMap eN0)⟩ :: ⟨B2, (one_.flatMap eN0)⟩ :: ⟨(aD 0), [vi 1, vi 0, vi 0, vi 0, vi 2]⟩ :: ((D3.flatMap eN1) ++ []))) (sk 0 (sk 1 (sk 2 (sk 3 (sk 4 (sk 5 (sk 6 (suba (fun r_ (h : r_ ∈ ((D3.flatMap eN1) : List Ro)) => mOd (i := 7) (show r_ ∈ (((((D2 ++ (lH B14 c14 r_6)).flatMap eN1) ++ (((lH B14 c14 r_6).flatMap eN1) ++ ((D3.flatMap eN1) ++ [])))) : List Ro) from mAr _ (mAr _ (mAl _ h)))) (fun _ h => by cases h)))))))))) (fun w' hw' => (yg (.slice B15 ((words1 ++ [(x2 ++ (dT i2))]).length) c15))) ?_
             refine rq 17 5 (v := .slice B16 ((list1 ++ ([r_6] : List (List TDyadic))).length) c16) rfl (ST.subR (hS38.se [2, 3]) (R' := (⟨B14, (r_6.flatMap eN0)⟩ :: ⟨B13, (x1.flatMap eN0)⟩ :: ⟨B12, (x.flatMap eN0)⟩ :: ⟨B5, (r_5.Cells.flatMap eN0)⟩ :: ⟨B4, (r_4.Cells.flatMap eN0)⟩ :: ⟨B2, (one_.flatMap eN0)⟩ :: ⟨(aD 0), [vi 1, vi 0, vi 0, vi 0, vi 2]⟩ :: ((D3.flatMap eN1) ++ []))) (sk 0 (sk 1 (sk 2 (sk 3 (sk 4 (sk 5 (sk 6 (suba (fun r_ (h : r_ ∈ ((D3.flatMap eN1) : List Ro)) => mOd (i := 7) (show r_ ∈ (((((D2 ++ (lH B14 c14 r_6)).flatMap eN1) ++ (((lH B14 c14 r_6).flatMap eN1) ++ ((D3.flatMap eN1) ++ [])))) : List Ro) from mAr _ (mAr _ (mAl _ h)))) (fun _ h => by cases h)))))))))) (fun w' hw' => (yg (.slice B16 ((list1 ++ ([r_6] : List (List TDyadic))).length) c16))) ?_
             refine ra_done (by kernel_rfl) ?_
             have hS39 : ST w0 [] _ [⟨B15, 9, ((words1 ++ [(x2 ++ (dT i2))]).flatMap encS), c15 * 1⟩, ⟨B16, 24, ((D2 ++ (lH B14 c14 r_6)).flatMap eN3), c16 * 1⟩, ⟨aD b4, 24, (D3.flatMap eN3), 2 * 1⟩, ⟨aD b5, 24, [.slice B14 r_6.length c14], 1⟩, ⟨aD b6, 9, ([(x2 ++ (dT i2))].flatMap encS), 1 * 1⟩, ⟨aD b7, 24, ((lH B14 c14 r_6).flatMap eN3), 1 * 1⟩] (⟨B14, (r_6.flatMap eN0)⟩ :: ⟨B13, (x1.flatMap eN0)⟩ :: ⟨B12, (x.flatMap eN0)⟩ :: ⟨B5, (r_5.Cells.flatMap eN0)⟩ :: ⟨B4, (r_4.Cells.flatMap eN0)⟩ :: ⟨B2, (one_.flatMap eN0)⟩ :: ⟨(aD 0), [vi 1, vi 0, vi 0, vi 0, vi 2]⟩ :: (((D2 ++ (lH B14 c14 r_6)).flatMap eN1) ++ ((D3.flatMap eN1) ++ []))) := ST.subR hS38 (sk 0 (sk 1 (sk 2 (sk 3 (sk 4 (sk 5 (sk 6 (suba (fun r_ (h : r_ ∈ (((D2 ++ (lH B14 c14 r_6)).flatMap eN1) : List Ro)) => mOd (i := 7) (show r_ ∈ (((((D2 ++ (lH B14 c14 r_6)).flatMap eN1) ++ (((lH B14 c14 r_6).flatMap eN1) ++ ((D3.flatMap eN1) ++ [])))) : List Ro) from mAl _ h)) (suba (fun r_ (h : r_ ∈ ((D3.flatMap eN1) : List Ro)) => mOd (i := 7) (show r_ ∈ (((((D2 ++ (lH B14 c14 r_6)).flatMap eN1) ++ (((lH B14 c14 r_6).flatMap eN1) ++ ((D3.flatMap eN1) ++ [])))) : List Ro) from mAr _ (mAr _ (mAl _ h)))) (fun _ h => by cases h))))))))))
             exact ⟨B15, c15, B16, c16, (D2 ++ (lH B14 c14 r_6)), (fc rfl (fc rfl (fc (hf2.g 6 2) (fc (hf2.g 7 3) (fc (hf2.g 8 4) (fc (hf2.g 41 5) (fc (hf2.g 42 6) (fc (hf2.g 43 7) fn_)))))))), (dl_app hD2 (show List.map Prod.snd (lH B14 c14 r_6) = ([r_6] : List (List TDyadic)) from rfl)), ho18, (hS39.sel [0, 1, 2] rfl rfl)⟩
            exact aN
           exact aN
          refine rS 75 14 rfl (Ys_bslice (s := 1) (len := 1) (vs := [(0, .slice B14 r_6.length c14)]) (cs := [.slice B14 r_6.length c14]) (zs := [.slice none 0 0]) (m := 1) hS33 K41 K8 K82 rfl (mpc rfl mpn) rfl rfl rfl (by kernel_rfl) (by kernel_rfl) rfl) ?_ ?_
          ·rintro _ w_18 ⟨b7, rfl, hS40⟩
           have hm6 : ∀ r ∈ ((lH B14 c14 r_6).flatMap eN1), r ∈ ((⟨B14, (r_6.flatMap eN0)⟩ :: ⟨B13, (x1.flatMap eN0)⟩ :: ⟨B12, (x.flatMap eN0)⟩ :: ⟨B5, (r_5.Cells.flatMap eN0)⟩ :: ⟨B4, (r_4.Cells.flatMap eN0)⟩ :: ⟨B2, (one_.flatMap eN0)⟩ :: ⟨(aD 0), [vi 1, vi 0, vi 0, vi 0, vi 2]⟩ :: ((D2.flatMap eN1) ++ ((D3.flatMap eN1) ++ []))) : List Ro) := (fsub_cons (sk 0 (fun _ h => by cases h)) fsub_nil)
           have ho19 : Org w0 [] [⟨(aD 0), [vi 1, vi 0, vi 0, vi 0, vi 2]⟩] ((lH B14 c14 r_6).flatMap eN1) := (forg_cons (org_cons ho15 org_nil) forg_nil)
           have hS41 : ST w0 [] _ [⟨B8, 9, (words1.flatMap encS), c8 * 1⟩, ⟨B9, 24, (D2.flatMap eN3), c9 * 1⟩, ⟨aD b4, 24, (D3.flatMap eN3), 2 * 1⟩, ⟨aD b5, 24, [.slice B14 r_6.length c14], 1⟩, ⟨aD b6, 9, ([(x2 ++ (dT i2))].flatMap encS), 1 * 1⟩, ⟨aD b7, 24, ((lH B14 c14 r_6).flatMap eN3), 1 * 1⟩] (⟨B14, (r_6.flatMap eN0)⟩ :: ⟨B13, (x1.flatMap eN0)⟩ :: ⟨B12, (x.flatMap eN0)⟩ :: ⟨B5, (r_5.Cells.flatMap eN0)⟩ :: ⟨B4, (r_4.Cells.flatMap eN0)⟩ :: ⟨B2, (one_.flatMap eN0)⟩ :: ⟨(aD 0), [vi 1, vi 0, vi 0, vi 0, vi 2]⟩ :: (((lH B14 c14 r_6).flatMap eN1) ++ ((D2.flatMap eN1) ++ ((D3.flatMap eN1) ++ [])))) := ST.subR hS40 (sk 0 (sk 1 (sk 2 (sk 3 (sk 4 (sk 5 (sk 6 (suba hm6 (suba (fun r_ (h : r_ ∈ ((D2.flatMap eN1) : List Ro)) => mOd (i := 7) (show r_ ∈ ((((D2.flatMap eN1) ++ ((D3.flatMap eN1) ++ []))) : List Ro) from mAl _ h)) (suba (fun r_ (h : r_ ∈ ((D3.flatMap eN1) : List Ro)) => mOd (i := 7) (show r_ ∈ ((((D2.flatMap eN1) ++ ((D3.flatMap eN1) ++ []))) : List Ro) from mAr _ (mAl _ h))) (fun _ h => by cases h)))))))))))
           refine ⟨(ST.subR (hS41.se [2, 3]) (R' := (⟨B14, (r_6.flatMap eN0)⟩ :: ⟨B13, (x1.flatMap eN0)⟩ :: ⟨B12, (x.flatMap eN0)⟩ :: ⟨B5, (r_5.Cells.flatMap eN0)⟩ :: ⟨B4, (r_4.Cells.flatMap eN0)⟩ :: ⟨B2, (one_.flatMap eN0)⟩ :: ⟨(aD 0), [vi 1, vi 0, vi 0, vi 0, vi 2]⟩ :: ((D3.flatMap eN1) ++ []))) (sk 0 (sk 1 (sk 2 (sk 3 (sk 4 (sk 5 (sk 6 (suba (fun r_ (h : r_ ∈ ((D3.flatMap eN1) : List Ro)) => mOd (i := 7) (show r_ ∈ (((((lH B14 c14 r_6).flatMap eN1) ++ ((D2.flatMap eN1) ++ ((D3.flatMap eN1) ++ [])))) : List Ro) from mAr _ (mAr _ (mAl _ h)))) (fun _ h => by cases h)))))))))), ?_⟩
           refine rA [11] ?_
           refine rS 72 11 rfl (Ys_append (s := 1) (by' := 16) (i := 0) (nn := words1.length) (c := c8) (k := 1) (len := (words1 ++ [(x2 ++ (dT i2))]).length) (B := B8) (xs := ([(x2 ++ (dT i2))].flatMap encS)) (cs' := ((words1 ++ [(x2 ++ (dT i2))]).flatMap encS)) hS41 K34 K40 K83 K84 rfl (by decide) rfl rfl rfl rfl (fm_lenn (l := words1) encS_len rfl) rfl (hS41.c 4) (fm_lenn (l := [(x2 ++ (dT i2))]) encS_len rfl) (fm_one' (enc := encS) encS_one [(x2 ++ (dT i2))]) (by have := hap1; omega) (by have := hap1; simp only [maxLen]; omega) (fm_app _ _) (app_len (l := words1) (l' := [(x2 ++ (dT i2))]) rfl rfl)) ?_ ?_
           ·rintro _ w_19 ⟨B15, c15, rfl, hS42⟩
            refine ⟨(ST.subR (hS42.se [2, 3]) (R' := (⟨B14, (r_6.flatMap eN0)⟩ :: ⟨B13, (x1.flatMap eN0)⟩ :: ⟨B12, (x.flatMap eN0)⟩ :: ⟨B5, (r_5.Cells.flatMap eN0)⟩ :: ⟨B4, (r_4.Cells.flatMap eN0)⟩ :: ⟨B2, (one_.flatMap eN0)⟩ :: ⟨(aD 0), [vi 1, vi 0, vi 0, vi 0, vi 2]⟩ :: ((D3.flatMap eN1) ++ []))) (sk 0 (sk 1 (sk 2 (sk 3 (sk 4 (sk 5 (sk 6 (suba (fun r_ (h : r_ ∈ ((D3.flatMap eN1) : List Ro)) => mOd (i := 7) (show r_ ∈ (((((lH B14 c14 r_6).flatMap eN1) ++ ((D2.flatMap eN1) ++ ((D3.flatMap eN1) ++ [])))) : List Ro) from mAr _ (mAr _ (mAl _ h)))) (fun _ h => by cases h)))))))))), ?_⟩
            refine rA [15] ?_
            refine rS 76 15 rfl (Ys_append (s := 1) (by' := 24) (i := 1) (nn := list1.length) (c := c9) (k := 1) (len := (list1 ++ ([r_6] : List (List TDyadic))).length) (B := B9) (xs := ((lH B14 c14 r_6).flatMap eN3)) (cs' := ((D2 ++ (lH B14 c14 r_6)).flatMap eN3)) hS42 K41 K8 K103 K95 rfl (by decide) rfl rfl rfl rfl (fm_lenn (l := D2) encD_SDyadic_len (dl_len hD2)) rfl (hS42.c 5) (fm_lenn (l := (lH B14 c14 r_6)) encD_SDyadic_len rfl) (fm_one' (enc := eN3) encD_SDyadic_one (lH B14 c14 r_6)) (by have := hap2; omega) (by have := hap2; simp only [maxLen]; omega) (fm_app _ _) (dl_sum (dl_len hD2) rfl (dl_app hD2 (show List.map Prod.snd (lH B14 c14 r_6) = ([r_6] : List (List TDyadic)) from rfl)))) ?_ ?_
            ·rintro _ w_20 ⟨B16, c16, rfl, hS43⟩
             have ho20 : Org w0 [] [⟨(aD 0), [vi 1, vi 0, vi 0, vi 0, vi 2]⟩] ((D2 ++ (lH B14 c14 r_6)).flatMap eN1) := (forg_app ho8 ho19)
             have hS44 : ST w0 [] _ [⟨B15, 9, ((words1 ++ [(x2 ++ (dT i2))]).flatMap encS), c15 * 1⟩, ⟨B16, 24, ((D2 ++ (lH B14 c14 r_6)).flatMap eN3), c16 * 1⟩, ⟨aD b4, 24, (D3.flatMap eN3), 2 * 1⟩, ⟨aD b5, 24, [.slice B14 r_6.length c14], 1⟩, ⟨aD b6, 9, ([(x2 ++ (dT i2))].flatMap encS), 1 * 1⟩, ⟨aD b7, 24, ((lH B14 c14 r_6).flatMap eN3), 1 * 1⟩] (⟨B14, (r_6.flatMap eN0)⟩ :: ⟨B13, (x1.flatMap eN0)⟩ :: ⟨B12, (x.flatMap eN0)⟩ :: ⟨B5, (r_5.Cells.flatMap eN0)⟩ :: ⟨B4, (r_4.Cells.flatMap eN0)⟩ :: ⟨B2, (one_.flatMap eN0)⟩ :: ⟨(aD 0), [vi 1, vi 0, vi 0, vi 0, vi 2]⟩ :: (((D2 ++ (lH B14 c14 r_6)).flatMap eN1) ++ (((lH B14 c14 r_6).flatMap eN1) ++ ((D3.flatMap eN1) ++ [])))) := ST.subR hS43 (sk 0 (sk 1 (sk 2 (sk 3 (sk 4 (sk 5 (sk 6 (suba (fsub_app (fun r_ (h : r_ ∈ ((D2.flatMap eN1) : List Ro)) => mOd (i := 7) (show r_ ∈ (((((lH B14 c14 r_6).flatMap eN1) ++ ((D2.flatMap eN1) ++ ((D3.flatMap eN1) ++ [])))) : List Ro) from mAr _ (mAl _ h))) (fun r_ (h : r_ ∈ (((lH B14 c14 r_6).flatMap eN1) : List Ro)) => mOd (i := 7) (show r_ ∈ (((((lH B14 c14 r_6).flatMap eN1) ++ ((D2.flatMap eN1) ++ ((D3.flatMap eN1) ++ [])))) : List Ro) from mAl _ h))) (suba (fun r_ (h : r_ ∈ (((lH B14 c14 r_6).flatMap eN1) : List Ro)) => mOd (i := 7) (show r_ ∈ (((((lH B14 c14 r_6).flatMap eN1) ++ ((D2.flatMap eN1) ++ ((D3.flatMap eN1) ++ [])))) : List Ro) from mAl _ h)) (suba (fun r_ (h : r_ ∈ ((D3.flatMap eN1) : List Ro)) => mOd (i := 7) (show r_ ∈ (((((lH B14 c14 r_6).flatMap eN1) ++ ((D2.flatMap eN1) ++ ((D3.flatMap eN1) ++ [])))) : List Ro) from mAr _ (mAr _ (mAl _ h)))) (fun _ h => by cases h)))))))))))
             refine ⟨(ST.subR (hS44.se [2, 3]) (R' := (⟨B14, (r_6.flatMap eN0)⟩ :: ⟨B13, (x1.flatMap eN0)⟩ :: ⟨B12, (x.flatMap eN0)⟩ :: ⟨B5, (r_5.Cells.flatMap eN0)⟩ :: ⟨B4, (r_4.Cells.flatMap eN0)⟩ :: ⟨B2, (one_.flatMap eN0)⟩ :: ⟨(aD 0), [vi 1, vi 0, vi 0, vi 0, vi 2]⟩ :: ((D3.flatMap eN1) ++ []))) (sk 0 (sk 1 (sk 2 (sk 3 (sk 4 (sk 5 (sk 6 (suba (fun r_ (h : r_ ∈ ((D3.flatMap eN1) : List Ro)) => mOd (i := 7) (show r_ ∈ (((((D2 ++ (lH B14 c14 r_6)).flatMap eN1) ++ (((lH B14 c14 r_6).flatMap eN1) ++ ((D3.flatMap eN1) ++ [])))) : List Ro) from mAr _ (mAr _ (mAl _ h)))) (fun _ h => by cases h)))))))))), ?_⟩
             refine ra_q 16 4 (v := .slice B15 ((words1 ++ [(x2 ++ (dT i2))]).length) c15) rfl rfl rfl (by kernel_rfl) (by kernel_rfl) (by kernel_rfl) (ST.subR (hS44.se [2, 3]) (R' := (⟨B14, (r_6.flatMap eN0)⟩ :: ⟨B13, (x1.flatMap eN0)⟩ :: ⟨B12, (x.flatMap eN0)⟩ :: ⟨B5, (r_5.Cells.flatMap eN0)⟩ :: ⟨B4, (r_4.Cells.flatMap eN0)⟩ :: ⟨B2, (one_.flatMap eN0)⟩ :: ⟨(aD 0), [vi 1, vi 0, vi 0, vi 0, vi 2]⟩ :: ((D3.flatMap eN1) ++ []))) (sk 0 (sk 1 (sk 2 (sk 3 (sk 4 (sk 5 (sk 6 (suba (fun r_ (h : r_ ∈ ((D3.flatMap eN1) : List Ro)) => mOd (i := 7) (show r_ ∈ (((((D2 ++ (lH B14 c14 r_6)).flatMap eN1) ++ (((lH B14 c14 r_6).flatMap eN1) ++ ((D3.flatMap eN1) ++ [])))) : List Ro) from mAr _ (mAr _ (mAl _ h)))) (fun _ h => by cases h)))))))))) (fun w' hw' => (yg (.slice B15 ((words1 ++ [(x2 ++ (dT i2))]).length) c15))) ?_
             refine rq 17 5 (v := .slice B16 ((list1 ++ ([r_6] : List (List TDyadic))).length) c16) rfl (ST.subR (hS44.se [2, 3]) (R' := (⟨B14, (r_6.flatMap eN0)⟩ :: ⟨B13, (x1.flatMap eN0)⟩ :: ⟨B12, (x.flatMap eN0)⟩ :: ⟨B5, (r_5.Cells.flatMap eN0)⟩ :: ⟨B4, (r_4.Cells.flatMap eN0)⟩ :: ⟨B2, (one_.flatMap eN0)⟩ :: ⟨(aD 0), [vi 1, vi 0, vi 0, vi 0, vi 2]⟩ :: ((D3.flatMap eN1) ++ []))) (sk 0 (sk 1 (sk 2 (sk 3 (sk 4 (sk 5 (sk 6 (suba (fun r_ (h : r_ ∈ ((D3.flatMap eN1) : List Ro)) => mOd (i := 7) (show r_ ∈ (((((D2 ++ (lH B14 c14 r_6)).flatMap eN1) ++ (((lH B14 c14 r_6).flatMap eN1) ++ ((D3.flatMap eN1) ++ [])))) : List Ro) from mAr _ (mAr _ (mAl _ h)))) (fun _ h => by cases h)))))))))) (fun w' hw' => (yg (.slice B16 ((list1 ++ ([r_6] : List (List TDyadic))).length) c16))) ?_
             refine ra_done (by kernel_rfl) ?_
             have hS45 : ST w0 [] _ [⟨B15, 9, ((words1 ++ [(x2 ++ (dT i2))]).flatMap encS), c15 * 1⟩, ⟨B16, 24, ((D2 ++ (lH B14 c14 r_6)).flatMap eN3), c16 * 1⟩, ⟨aD b4, 24, (D3.flatMap eN3), 2 * 1⟩, ⟨aD b5, 24, [.slice B14 r_6.length c14], 1⟩, ⟨aD b6, 9, ([(x2 ++ (dT i2))].flatMap encS), 1 * 1⟩, ⟨aD b7, 24, ((lH B14 c14 r_6).flatMap eN3), 1 * 1⟩] (⟨B14, (r_6.flatMap eN0)⟩ :: ⟨B13, (x1.flatMap eN0)⟩ :: ⟨B12, (x.flatMap eN0)⟩ :: ⟨B5, (r_5.Cells.flatMap eN0)⟩ :: ⟨B4, (r_4.Cells.flatMap eN0)⟩ :: ⟨B2, (one_.flatMap eN0)⟩ :: ⟨(aD 0), [vi 1, vi 0, vi 0, vi 0, vi 2]⟩ :: (((D2 ++ (lH B14 c14 r_6)).flatMap eN1) ++ ((D3.flatMap eN1) ++ []))) := ST.subR hS44 (sk 0 (sk 1 (sk 2 (sk 3 (sk 4 (sk 5 (sk 6 (suba (fun r_ (h : r_ ∈ (((D2 ++ (lH B14 c14 r_6)).flatMap eN1) : List Ro)) => mOd (i := 7) (show r_ ∈ (((((D2 ++ (lH B14 c14 r_6)).flatMap eN1) ++ (((lH B14 c14 r_6).flatMap eN1) ++ ((D3.flatMap eN1) ++ [])))) : List Ro) from mAl _ h)) (suba (fun r_ (h : r_ ∈ ((D3.flatMap eN1) : List Ro)) => mOd (i := 7) (show r_ ∈ (((((D2 ++ (lH B14 c14 r_6)).flatMap eN1) ++ (((lH B14 c14 r_6).flatMap eN1) ++ ((D3.flatMap eN1) ++ [])))) : List Ro) from mAr _ (mAr _ (mAl _ h)))) (fun _ h => by cases h))))))))))
             exact ⟨B15, c15, B16, c16, (D2 ++ (lH B14 c14 r_6)), (fc rfl (fc rfl (fc (hf2.g 6 2) (fc (hf2.g 7 3) (fc (hf2.g 8 4) (fc (hf2.g 41 5) (fc (hf2.g 42 6) (fc (hf2.g 43 7) fn_)))))))), (dl_app hD2 (show List.map Prod.snd (lH B14 c14 r_6) = ([r_6] : List (List TDyadic)) from rfl)), ho20, (hS45.sel [0, 1, 2] rfl rfl)⟩
            exact aN
           exact aN
          exact aN
         refine rS 75 14 rfl (Ys_bslice (s := 1) (len := 1) (vs := [(0, .slice B14 r_6.length c14)]) (cs := [.slice B14 r_6.length c14]) (zs := [.slice none 0 0]) (m := 1) hS32 K41 K8 K82 rfl (mpc rfl mpn) rfl rfl rfl (by kernel_rfl) (by kernel_rfl) rfl) ?_ ?_
         ·rintro _ w_21 ⟨b7, rfl, hS46⟩
          have hm7 : ∀ r ∈ ((lH B14 c14 r_6).flatMap eN1), r ∈ ((⟨B14, (r_6.flatMap eN0)⟩ :: ⟨B13, (x1.flatMap eN0)⟩ :: ⟨B12, (x.flatMap eN0)⟩ :: ⟨B5, (r_5.Cells.flatMap eN0)⟩ :: ⟨B4, (r_4.Cells.flatMap eN0)⟩ :: ⟨B2, (one_.flatMap eN0)⟩ :: ⟨(aD 0), [vi 1, vi 0, vi 0, vi 0, vi 2]⟩ :: ((D2.flatMap eN1) ++ ((D3.flatMap eN1) ++ []))) : List Ro) := (fsub_cons (sk 0 (fun _ h => by cases h)) fsub_nil)
          have ho21 : Org w0 [] [⟨(aD 0), [vi 1, vi 0, vi 0, vi 0, vi 2]⟩] ((lH B14 c14 r_6).flatMap eN1) := (forg_cons (org_cons ho15 org_nil) forg_nil)
          have hS47 : ST w0 [] _ [⟨B8, 9, (words1.flatMap encS), c8 * 1⟩, ⟨B9, 24, (D2.flatMap eN3), c9 * 1⟩, ⟨aD b4, 24, (D3.flatMap eN3), 2 * 1⟩, ⟨aD b5, 24, [.slice B14 r_6.length c14], 1⟩, ⟨aD b7, 24, ((lH B14 c14 r_6).flatMap eN3), 1 * 1⟩] (⟨B14, (r_6.flatMap eN0)⟩ :: ⟨B13, (x1.flatMap eN0)⟩ :: ⟨B12, (x.flatMap eN0)⟩ :: ⟨B5, (r_5.Cells.flatMap eN0)⟩ :: ⟨B4, (r_4.Cells.flatMap eN0)⟩ :: ⟨B2, (one_.flatMap eN0)⟩ :: ⟨(aD 0), [vi 1, vi 0, vi 0, vi 0, vi 2]⟩ :: (((lH B14 c14 r_6).flatMap eN1) ++ ((D2.flatMap eN1) ++ ((D3.flatMap eN1) ++ [])))) := ST.subR hS46 (sk 0 (sk 1 (sk 2 (sk 3 (sk 4 (sk 5 (sk 6 (suba hm7 (suba (fun r_ (h : r_ ∈ ((D2.flatMap eN1) : List Ro)) => mOd (i := 7) (show r_ ∈ ((((D2.flatMap eN1) ++ ((D3.flatMap eN1) ++ []))) : List Ro) from mAl _ h)) (suba (fun r_ (h : r_ ∈ ((D3.flatMap eN1) : List Ro)) => mOd (i := 7) (show r_ ∈ ((((D2.flatMap eN1) ++ ((D3.flatMap eN1) ++ []))) : List Ro) from mAr _ (mAl _ h))) (fun _ h => by cases h)))))))))))
          refine ⟨(ST.subR (hS47.se [2, 3]) (R' := (⟨B14, (r_6.flatMap eN0)⟩ :: ⟨B13, (x1.flatMap eN0)⟩ :: ⟨B12, (x.flatMap eN0)⟩ :: ⟨B5, (r_5.Cells.flatMap eN0)⟩ :: ⟨B4, (r_4.Cells.flatMap eN0)⟩ :: ⟨B2, (one_.flatMap eN0)⟩ :: ⟨(aD 0), [vi 1, vi 0, vi 0, vi 0, vi 2]⟩ :: ((D3.flatMap eN1) ++ []))) (sk 0 (sk 1 (sk 2 (sk 3 (sk 4 (sk 5 (sk 6 (suba (fun r_ (h : r_ ∈ ((D3.flatMap eN1) : List Ro)) => mOd (i := 7) (show r_ ∈ (((((lH B14 c14 r_6).flatMap eN1) ++ ((D2.flatMap eN1) ++ ((D3.flatMap eN1) ++ [])))) : List Ro) from mAr _ (mAr _ (mAl _ h)))) (fun _ h => by cases h)))))))))), ?_⟩
          refine rA [10] ?_
          refine rS 71 10 rfl (Ys_bslice (s := 1) (len := 1) (vs := [(0, .string (bstr (x2 ++ (dT i2))))]) (cs := [.string (bstr (x2 ++ (dT i2)))]) (zs := [.string (bstr ([] : List UInt8))]) (m := 1) hS47 K34 K40 K68 rfl (mpc rfl mpn) rfl rfl rfl (by kernel_rfl) (by kernel_rfl) rfl) ?_ ?_
          ·rintro _ w_22 ⟨b6, rfl, hS48⟩
           refine ⟨(ST.subR (hS48.se [2, 3]) (R' := (⟨B14, (r_6.flatMap eN0)⟩ :: ⟨B13, (x1.flatMap eN0)⟩ :: ⟨B12, (x.flatMap eN0)⟩ :: ⟨B5, (r_5.Cells.flatMap eN0)⟩ :: ⟨B4, (r_4.Cells.flatMap eN0)⟩ :: ⟨B2, (one_.flatMap eN0)⟩ :: ⟨(aD 0), [vi 1, vi 0, vi 0, vi 0, vi 2]⟩ :: ((D3.flatMap eN1) ++ []))) (sk 0 (sk 1 (sk 2 (sk 3 (sk 4 (sk 5 (sk 6 (suba (fun r_ (h : r_ ∈ ((D3.flatMap eN1) : List Ro)) => mOd (i := 7) (show r_ ∈ (((((lH B14 c14 r_6).flatMap eN1) ++ ((D2.flatMap eN1) ++ ((D3.flatMap eN1) ++ [])))) : List Ro) from mAr _ (mAr _ (mAl _ h)))) (fun _ h => by cases h)))))))))), ?_⟩
           refine rA [11] ?_
           refine rS 72 11 rfl (Ys_append (s := 1) (by' := 16) (i := 0) (nn := words1.length) (c := c8) (k := 1) (len := (words1 ++ [(x2 ++ (dT i2))]).length) (B := B8) (xs := ([(x2 ++ (dT i2))].flatMap encS)) (cs' := ((words1 ++ [(x2 ++ (dT i2))]).flatMap encS)) hS48 K34 K40 K83 K84 rfl (by decide) rfl rfl rfl rfl (fm_lenn (l := words1) encS_len rfl) rfl (hS48.c 5) (fm_lenn (l := [(x2 ++ (dT i2))]) encS_len rfl) (fm_one' (enc := encS) encS_one [(x2 ++ (dT i2))]) (by have := hap1; omega) (by have := hap1; simp only [maxLen]; omega) (fm_app _ _) (app_len (l := words1) (l' := [(x2 ++ (dT i2))]) rfl rfl)) ?_ ?_
           ·rintro _ w_23 ⟨B15, c15, rfl, hS49⟩
            refine ⟨(ST.subR (hS49.se [2, 3]) (R' := (⟨B14, (r_6.flatMap eN0)⟩ :: ⟨B13, (x1.flatMap eN0)⟩ :: ⟨B12, (x.flatMap eN0)⟩ :: ⟨B5, (r_5.Cells.flatMap eN0)⟩ :: ⟨B4, (r_4.Cells.flatMap eN0)⟩ :: ⟨B2, (one_.flatMap eN0)⟩ :: ⟨(aD 0), [vi 1, vi 0, vi 0, vi 0, vi 2]⟩ :: ((D3.flatMap eN1) ++ []))) (sk 0 (sk 1 (sk 2 (sk 3 (sk 4 (sk 5 (sk 6 (suba (fun r_ (h : r_ ∈ ((D3.flatMap eN1) : List Ro)) => mOd (i := 7) (show r_ ∈ (((((lH B14 c14 r_6).flatMap eN1) ++ ((D2.flatMap eN1) ++ ((D3.flatMap eN1) ++ [])))) : List Ro) from mAr _ (mAr _ (mAl _ h)))) (fun _ h => by cases h)))))))))), ?_⟩
            refine rA [15] ?_
            refine rS 76 15 rfl (Ys_append (s := 1) (by' := 24) (i := 1) (nn := list1.length) (c := c9) (k := 1) (len := (list1 ++ ([r_6] : List (List TDyadic))).length) (B := B9) (xs := ((lH B14 c14 r_6).flatMap eN3)) (cs' := ((D2 ++ (lH B14 c14 r_6)).flatMap eN3)) hS49 K41 K8 K103 K95 rfl (by decide) rfl rfl rfl rfl (fm_lenn (l := D2) encD_SDyadic_len (dl_len hD2)) rfl (hS49.c 4) (fm_lenn (l := (lH B14 c14 r_6)) encD_SDyadic_len rfl) (fm_one' (enc := eN3) encD_SDyadic_one (lH B14 c14 r_6)) (by have := hap2; omega) (by have := hap2; simp only [maxLen]; omega) (fm_app _ _) (dl_sum (dl_len hD2) rfl (dl_app hD2 (show List.map Prod.snd (lH B14 c14 r_6) = ([r_6] : List (List TDyadic)) from rfl)))) ?_ ?_
            ·rintro _ w_24 ⟨B16, c16, rfl, hS50⟩
             have ho22 : Org w0 [] [⟨(aD 0), [vi 1, vi 0, vi 0, vi 0, vi 2]⟩] ((D2 ++ (lH B14 c14 r_6)).flatMap eN1) := (forg_app ho8 ho21)
             have hS51 : ST w0 [] _ [⟨B15, 9, ((words1 ++ [(x2 ++ (dT i2))]).flatMap encS), c15 * 1⟩, ⟨B16, 24, ((D2 ++ (lH B14 c14 r_6)).flatMap eN3), c16 * 1⟩, ⟨aD b4, 24, (D3.flatMap eN3), 2 * 1⟩, ⟨aD b5, 24, [.slice B14 r_6.length c14], 1⟩, ⟨aD b7, 24, ((lH B14 c14 r_6).flatMap eN3), 1 * 1⟩, ⟨aD b6, 9, ([(x2 ++ (dT i2))].flatMap encS), 1 * 1⟩] (⟨B14, (r_6.flatMap eN0)⟩ :: ⟨B13, (x1.flatMap eN0)⟩ :: ⟨B12, (x.flatMap eN0)⟩ :: ⟨B5, (r_5.Cells.flatMap eN0)⟩ :: ⟨B4, (r_4.Cells.flatMap eN0)⟩ :: ⟨B2, (one_.flatMap eN0)⟩ :: ⟨(aD 0), [vi 1, vi 0, vi 0, vi 0, vi 2]⟩ :: (((D2 ++ (lH B14 c14 r_6)).flatMap eN1) ++ (((lH B14 c14 r_6).flatMap eN1) ++ ((D3.flatMap eN1) ++ [])))) := ST.subR hS50 (sk 0 (sk 1 (sk 2 (sk 3 (sk 4 (sk 5 (sk 6 (suba (fsub_app (fun r_ (h : r_ ∈ ((D2.flatMap eN1) : List Ro)) => mOd (i := 7) (show r_ ∈ (((((lH B14 c14 r_6).flatMap eN1) ++ ((D2.flatMap eN1) ++ ((D3.flatMap eN1) ++ [])))) : List Ro) from mAr _ (mAl _ h))) (fun r_ (h : r_ ∈ (((lH B14 c14 r_6).flatMap eN1) : List Ro)) => mOd (i := 7) (show r_ ∈ (((((lH B14 c14 r_6).flatMap eN1) ++ ((D2.flatMap eN1) ++ ((D3.flatMap eN1) ++ [])))) : List Ro) from mAl _ h))) (suba (fun r_ (h : r_ ∈ (((lH B14 c14 r_6).flatMap eN1) : List Ro)) => mOd (i := 7) (show r_ ∈ (((((lH B14 c14 r_6).flatMap eN1) ++ ((D2.flatMap eN1) ++ ((D3.flatMap eN1) ++ [])))) : List Ro) from mAl _ h)) (suba (fun r_ (h : r_ ∈ ((D3.flatMap eN1) : List Ro)) => mOd (i := 7) (show r_ ∈ (((((lH B14 c14 r_6).flatMap eN1) ++ ((D2.flatMap eN1) ++ ((D3.flatMap eN1) ++ [])))) : List Ro) from mAr _ (mAr _ (mAl _ h)))) (fun _ h => by cases h)))))))))))
             refine ⟨(ST.subR (hS51.se [2, 3]) (R' := (⟨B14, (r_6.flatMap eN0)⟩ :: ⟨B13, (x1.flatMap eN0)⟩ :: ⟨B12, (x.flatMap eN0)⟩ :: ⟨B5, (r_5.Cells.flatMap eN0)⟩ :: ⟨B4, (r_4.Cells.flatMap eN0)⟩ :: ⟨B2, (one_.flatMap eN0)⟩ :: ⟨(aD 0), [vi 1, vi 0, vi 0, vi 0, vi 2]⟩ :: ((D3.flatMap eN1) ++ []))) (sk 0 (sk 1 (sk 2 (sk 3 (sk 4 (sk 5 (sk 6 (suba (fun r_ (h : r_ ∈ ((D3.flatMap eN1) : List Ro)) => mOd (i := 7) (show r_ ∈ (((((D2 ++ (lH B14 c14 r_6)).flatMap eN1) ++ (((lH B14 c14 r_6).flatMap eN1) ++ ((D3.flatMap eN1) ++ [])))) : List Ro) from mAr _ (mAr _ (mAl _ h)))) (fun _ h => by cases h)))))))))), ?_⟩
             refine ra_q 16 4 (v := .slice B15 ((words1 ++ [(x2 ++ (dT i2))]).length) c15) rfl rfl rfl (by kernel_rfl) (by kernel_rfl) (by kernel_rfl) (ST.subR (hS51.se [2, 3]) (R' := (⟨B14, (r_6.flatMap eN0)⟩ :: ⟨B13, (x1.flatMap eN0)⟩ :: ⟨B12, (x.flatMap eN0)⟩ :: ⟨B5, (r_5.Cells.flatMap eN0)⟩ :: ⟨B4, (r_4.Cells.flatMap eN0)⟩ :: ⟨B2, (one_.flatMap eN0)⟩ :: ⟨(aD 0), [vi 1, vi 0, vi 0, vi 0, vi 2]⟩ :: ((D3.flatMap eN1) ++ []))) (sk 0 (sk 1 (sk 2 (sk 3 (sk 4 (sk 5 (sk 6 (suba (fun r_ (h : r_ ∈ ((D3.flatMap eN1) : List Ro)) => mOd (i := 7) (show r_ ∈ (((((D2 ++ (lH B14 c14 r_6)).flatMap eN1) ++ (((lH B14 c14 r_6).flatMap eN1) ++ ((D3.flatMap eN1) ++ [])))) : List Ro) from mAr _ (mAr _ (mAl _ h)))) (fun _ h => by cases h)))))))))) (fun w' hw' => (yg (.slice B15 ((words1 ++ [(x2 ++ (dT i2))]).length) c15))) ?_
             refine rq 17 5 (v := .slice B16 ((list1 ++ ([r_6] : List (List TDyadic))).length) c16) rfl (ST.subR (hS51.se [2, 3]) (R' := (⟨B14, (r_6.flatMap eN0)⟩ :: ⟨B13, (x1.flatMap eN0)⟩ :: ⟨B12, (x.flatMap eN0)⟩ :: ⟨B5, (r_5.Cells.flatMap eN0)⟩ :: ⟨B4, (r_4.Cells.flatMap eN0)⟩ :: ⟨B2, (one_.flatMap eN0)⟩ :: ⟨(aD 0), [vi 1, vi 0, vi 0, vi 0, vi 2]⟩ :: ((D3.flatMap eN1) ++ []))) (sk 0 (sk 1 (sk 2 (sk 3 (sk 4 (sk 5 (sk 6 (suba (fun r_ (h : r_ ∈ ((D3.flatMap eN1) : List Ro)) => mOd (i := 7) (show r_ ∈ (((((D2 ++ (lH B14 c14 r_6)).flatMap eN1) ++ (((lH B14 c14 r_6).flatMap eN1) ++ ((D3.flatMap eN1) ++ [])))) : List Ro) from mAr _ (mAr _ (mAl _ h)))) (fun _ h => by cases h)))))))))) (fun w' hw' => (yg (.slice B16 ((list1 ++ ([r_6] : List (List TDyadic))).length) c16))) ?_
             refine ra_done (by kernel_rfl) ?_
             have hS52 : ST w0 [] _ [⟨B15, 9, ((words1 ++ [(x2 ++ (dT i2))]).flatMap encS), c15 * 1⟩, ⟨B16, 24, ((D2 ++ (lH B14 c14 r_6)).flatMap eN3), c16 * 1⟩, ⟨aD b4, 24, (D3.flatMap eN3), 2 * 1⟩, ⟨aD b5, 24, [.slice B14 r_6.length c14], 1⟩, ⟨aD b7, 24, ((lH B14 c14 r_6).flatMap eN3), 1 * 1⟩, ⟨aD b6, 9, ([(x2 ++ (dT i2))].flatMap encS), 1 * 1⟩] (⟨B14, (r_6.flatMap eN0)⟩ :: ⟨B13, (x1.flatMap eN0)⟩ :: ⟨B12, (x.flatMap eN0)⟩ :: ⟨B5, (r_5.Cells.flatMap eN0)⟩ :: ⟨B4, (r_4.Cells.flatMap eN0)⟩ :: ⟨B2, (one_.flatMap eN0)⟩ :: ⟨(aD 0), [vi 1, vi 0, vi 0, vi 0, vi 2]⟩ :: (((D2 ++ (lH B14 c14 r_6)).flatMap eN1) ++ ((D3.flatMap eN1) ++ []))) := ST.subR hS51 (sk 0 (sk 1 (sk 2 (sk 3 (sk 4 (sk 5 (sk 6 (suba (fun r_ (h : r_ ∈ (((D2 ++ (lH B14 c14 r_6)).flatMap eN1) : List Ro)) => mOd (i := 7) (show r_ ∈ (((((D2 ++ (lH B14 c14 r_6)).flatMap eN1) ++ (((lH B14 c14 r_6).flatMap eN1) ++ ((D3.flatMap eN1) ++ [])))) : List Ro) from mAl _ h)) (suba (fun r_ (h : r_ ∈ ((D3.flatMap eN1) : List Ro)) => mOd (i := 7) (show r_ ∈ (((((D2 ++ (lH B14 c14 r_6)).flatMap eN1) ++ (((lH B14 c14 r_6).flatMap eN1) ++ ((D3.flatMap eN1) ++ [])))) : List Ro) from mAr _ (mAr _ (mAl _ h)))) (fun _ h => by cases h))))))))))
             exact ⟨B15, c15, B16, c16, (D2 ++ (lH B14 c14 r_6)), (fc rfl (fc rfl (fc (hf2.g 6 2) (fc (hf2.g 7 3) (fc (hf2.g 8 4) (fc (hf2.g 41 5) (fc (hf2.g 42 6) (fc (hf2.g 43 7) fn_)))))))), (dl_app hD2 (show List.map Prod.snd (lH B14 c14 r_6) = ([r_6] : List (List TDyadic)) from rfl)), ho22, (hS52.sel [0, 1, 2] rfl rfl)⟩
            exact aN
           exact aN
          exact aN
         exact aN
        refine rS 75 14 rfl (Ys_bslice (s := 1) (len := 1) (vs := [(0, .slice B14 r_6.length c14)]) (cs := [.slice B14 r_6.length c14]) (zs := [.slice none 0 0]) (m := 1) hS32 K41 K8 K82 rfl (mpc rfl mpn) rfl rfl rfl (by kernel_rfl) (by kernel_rfl) rfl) ?_ ?_
        ·rintro _ w_25 ⟨b7, rfl, hS53⟩
         have hm8 : ∀ r ∈ ((lH B14 c14 r_6).flatMap eN1), r ∈ ((⟨B14, (r_6.flatMap eN0)⟩ :: ⟨B13, (x1.flatMap eN0)⟩ :: ⟨B12, (x.flatMap eN0)⟩ :: ⟨B5, (r_5.Cells.flatMap eN0)⟩ :: ⟨B4, (r_4.Cells.flatMap eN0)⟩ :: ⟨B2, (one_.flatMap eN0)⟩ :: ⟨(aD 0), [vi 1, vi 0, vi 0, vi 0, vi 2]⟩ :: ((D2.flatMap eN1) ++ ((D3.flatMap eN1) ++ []))) : List Ro) := (fsub_cons (sk 0 (fun _ h => by cases h)) fsub_nil)
         have ho23 : Org w0 [] [⟨(aD 0), [vi 1, vi 0, vi 0, vi 0, vi 2]⟩] ((lH B14 c14 r_6).flatMap eN1) := (forg_cons (org_cons ho15 org_nil) forg_nil)
         have hS54 : ST w0 [] _ [⟨B8, 9, (words1.flatMap encS), c8 * 1⟩, ⟨B9, 24, (D2.flatMap eN3), c9 * 1⟩, ⟨aD b4, 24, (D3.flatMap eN3), 2 * 1⟩, ⟨aD b5, 24, [.slice B14 r_6.length c14], 1⟩, ⟨aD b7, 24, ((lH B14 c14 r_6).flatMap eN3), 1 * 1⟩] (⟨B14, (r_6.flatMap eN0)⟩ :: ⟨B13, (x1.flatMap eN0)⟩ :: ⟨B12, (x.flatMap eN0)⟩ :: ⟨B5, (r_5.Cells.flatMap eN0)⟩ :: ⟨B4, (r_4.Cells.flatMap eN0)⟩ :: ⟨B2, (one_.flatMap eN0)⟩ :: ⟨(aD 0), [vi 1, vi 0, vi 0, vi 0, vi 2]⟩ :: (((lH B14 c14 r_6).flatMap eN1) ++ ((D2.flatMap eN1) ++ ((D3.flatMap eN1) ++ [])))) := ST.subR hS53 (sk 0 (sk 1 (sk 2 (sk 3 (sk 4 (sk 5 (sk 6 (suba hm8 (suba (fun r_ (h : r_ ∈ ((D2.flatMap eN1) : List Ro)) => mOd (i := 7) (show r_ ∈ ((((D2.flatMap eN1) ++ ((D3.flatMap eN1) ++ []))) : List Ro) from mAl _ h)) (suba (fun r_ (h : r_ ∈ ((D3.flatMap eN1) : List Ro)) => mOd (i := 7) (show r_ ∈ ((((D2.flatMap eN1) ++ ((D3.flatMap eN1) ++ []))) : List Ro) from mAr _ (mAl _ h))) (fun _ h => by cases h)))))))))))
         refine ⟨(ST.subR (hS54.se [2, 3]) (R' := (⟨B14, (r_6.flatMap eN0)⟩ :: ⟨B13, (x1.flatMap eN0)⟩ :: ⟨B12, (x.flatMap eN0)⟩ :: ⟨B5, (r_5.Cells.flatMap eN0)⟩ :: ⟨B4, (r_4.Cells.flatMap eN0)⟩ :: ⟨B2, (one_.flatMap eN0)⟩ :: ⟨(aD 0), [vi 1, vi 0, vi 0, vi 0, vi 2]⟩ :: ((D3.flatMap eN1) ++ []))) (sk 0 (sk 1 (sk 2 (sk 3 (sk 4 (sk 5 (sk 6 (suba (fun r_ (h : r_ ∈ ((D3.flatMap eN1) : List Ro)) => mOd (i := 7) (show r_ ∈ (((((lH B14 c14 r_6).flatMap eN1) ++ ((D2.flatMap eN1) ++ ((D3.flatMap eN1) ++ [])))) : List Ro) from mAr _ (mAr _ (mAl _ h)))) (fun _ h => by cases h)))))))))), ?_⟩
         refine rA [4] ?_
         refine ra_y 65 (i := 4) (v := .string (bstr x2)) rfl rfl rfl (yl B8 (at_1.toNat * 1) (words1.flatMap encS) (.string (bstr x2)) K97 (hS54.c 0) rfl rfl (gi_at0 encS_len hx2 rfl)) (ST.subR (hS54.se [2, 3]) (R' := (⟨B14, (r_6.flatMap eN0)⟩ :: ⟨B13, (x1.flatMap eN0)⟩ :: ⟨B12, (x.flatMap eN0)⟩ :: ⟨B5, (r_5.Cells.flatMap eN0)⟩ :: ⟨B4, (r_4.Cells.flatMap eN0)⟩ :: ⟨B2, (one_.flatMap eN0)⟩ :: ⟨(aD 0), [vi 1, vi 0, vi 0, vi 0, vi 2]⟩ :: ((D3.flatMap eN1) ++ []))) (sk 0 (sk 1 (sk 2 (sk 3 (sk 4 (sk 5 (sk 6 (suba (fun r_ (h : r_ ∈ ((D3.flatMap eN1) : List Ro)) => mOd (i := 7) (show r_ ∈ (((((lH B14 c14 r_6).flatMap eN1) ++ ((D2.flatMap eN1) ++ ((D3.flatMap eN1) ++ [])))) : List Ro) from mAr _ (mAr _ (mAl _ h)))) (fun _ h => by cases h)))))))))) ?_ ?_
         ·skip
          refine ra_q 9 70 (v := .string (bstr (x2 ++ (dT i2)))) rfl rfl rfl (by kernel_rfl) (by kernel_rfl) (by kernel_rfl) (ST.subR (hS54.se [2, 3]) (R' := (⟨B14, (r_6.flatMap eN0)⟩ :: ⟨B13, (x1.flatMap eN0)⟩ :: ⟨B12, (x.flatMap eN0)⟩ :: ⟨B5, (r_5.Cells.flatMap eN0)⟩ :: ⟨B4, (r_4.Cells.flatMap eN0)⟩ :: ⟨B2, (one_.flatMap eN0)⟩ :: ⟨(aD 0), [vi 1, vi 0, vi 0, vi 0, vi 2]⟩ :: ((D3.flatMap eN1) ++ []))) (sk 0 (sk 1 (sk 2 (sk 3 (sk 4 (sk 5 (sk 6 (suba (fun r_ (h : r_ ∈ ((D3.flatMap eN1) : List Ro)) => mOd (i := 7) (show r_ ∈ (((((lH B14 c14 r_6).flatMap eN1) ++ ((D2.flatMap eN1) ++ ((D3.flatMap eN1) ++ [])))) : List Ro) from mAr _ (mAr _ (mAl _ h)))) (fun _ h => by cases h)))))))))) (fun w' hw' => (Y_sadd (a := x2) (b := (dT i2)) rfl rfl rfl hsa)) ?_
          refine rA [10] ?_
          refine rS 71 10 rfl (Ys_bslice (s := 1) (len := 1) (vs := [(0, .string (bstr (x2 ++ (dT i2))))]) (cs := [.string (bstr (x2 ++ (dT i2)))]) (zs := [.string (bstr ([] : List UInt8))]) (m := 1) hS54 K34 K40 K68 rfl (mpc rfl mpn) rfl rfl rfl (by kernel_rfl) (by kernel_rfl) rfl) ?_ ?_
          ·rintro _ w_26 ⟨b6, rfl, hS55⟩
           refine ⟨(ST.subR (hS55.se [2, 3]) (R' := (⟨B14, (r_6.flatMap eN0)⟩ :: ⟨B13, (x1.flatMap eN0)⟩ :: ⟨B12, (x.flatMap eN0)⟩ :: ⟨B5, (r_5.Cells.flatMap eN0)⟩ :: ⟨B4, (r_4.Cells.flatMap eN0)⟩ :: ⟨B2, (one_.flatMap eN0)⟩ :: ⟨(aD 0), [vi 1, vi 0, vi 0, vi 0, vi 2]⟩ :: ((D3.flatMap eN1) ++ []))) (sk 0 (sk 1 (sk 2 (sk 3 (sk 4 (sk 5 (sk 6 (suba (fun r_ (h : r_ ∈ ((D3.flatMap eN1) : List Ro)) => mOd (i := 7) (show r_ ∈ (((((lH B14 c14 r_6).flatMap eN1) ++ ((D2.flatMap eN1) ++ ((D3.flatMap eN1) ++ [])))) : List Ro) from mAr _ (mAr _ (mAl _ h)))) (fun _ h => by cases h)))))))))), ?_⟩
           refine rA [11] ?_
           refine rS 72 11 rfl (Ys_append (s := 1) (by' := 16) (i := 0) (nn := words1.length) (c := c8) (k := 1) (len := (words1 ++ [(x2 ++ (dT i2))]).length) (B := B8) (xs := ([(x2 ++ (dT i2))].flatMap encS)) (cs' := ((words1 ++ [(x2 ++ (dT i2))]).flatMap encS)) hS55 K34 K40 K83 K84 rfl (by decide) rfl rfl rfl rfl (fm_lenn (l := words1) encS_len rfl) rfl (hS55.c 5) (fm_lenn (l := [(x2 ++ (dT i2))]) encS_len rfl) (fm_one' (enc := encS) encS_one [(x2 ++ (dT i2))]) (by have := hap1; omega) (by have := hap1; simp only [maxLen]; omega) (fm_app _ _) (app_len (l := words1) (l' := [(x2 ++ (dT i2))]) rfl rfl)) ?_ ?_
           ·rintro _ w_27 ⟨B15, c15, rfl, hS56⟩
            refine ⟨(ST.subR (hS56.se [2, 3]) (R' := (⟨B14, (r_6.flatMap eN0)⟩ :: ⟨B13, (x1.flatMap eN0)⟩ :: ⟨B12, (x.flatMap eN0)⟩ :: ⟨B5, (r_5.Cells.flatMap eN0)⟩ :: ⟨B4, (r_4.Cells.flatMap eN0)⟩ :: ⟨B2, (one_.flatMap eN0)⟩ :: ⟨(aD 0), [vi 1, vi 0, vi 0, vi 0, vi 2]⟩ :: ((D3.flatMap eN1) ++ []))) (sk 0 (sk 1 (sk 2 (sk 3 (sk 4 (sk 5 (sk 6 (suba (fun r_ (h : r_ ∈ ((D3.flatMap eN1) : List Ro)) => mOd (i := 7) (show r_ ∈ (((((lH B14 c14 r_6).flatMap eN1) ++ ((D2.flatMap eN1) ++ ((D3.flatMap eN1) ++ [])))) : List Ro) from mAr _ (mAr _ (mAl _ h)))) (fun _ h => by cases h)))))))))), ?_⟩
            refine rA [15] ?_
            refine rS 76 15 rfl (Ys_append (s := 1) (by' := 24) (i := 1) (nn := list1.length) (c := c9) (k := 1) (len := (list1 ++ ([r_6] : List (List TDyadic))).length) (B := B9) (xs := ((lH B14 c14 r_6).flatMap eN3)) (cs' := ((D2 ++ (lH B14 c14 r_6)).flatMap eN3)) hS56 K41 K8 K103 K95 rfl (by decide) rfl rfl rfl rfl (fm_lenn (l := D2) encD_SDyadic_len (dl_len hD2)) rfl (hS56.c 4) (fm_lenn (l := (lH B14 c14 r_6)) encD_SDyadic_len rfl) (fm_one' (enc := eN3) encD_SDyadic_one (lH B14 c14 r_6)) (by have := hap2; omega) (by have := hap2; simp only [maxLen]; omega) (fm_app _ _) (dl_sum (dl_len hD2) rfl (dl_app hD2 (show List.map Prod.snd (lH B14 c14 r_6) = ([r_6] : List (List TDyadic)) from rfl)))) ?_ ?_
            ·rintro _ w_28 ⟨B16, c16, rfl, hS57⟩
             have ho24 : Org w0 [] [⟨(aD 0), [vi 1, vi 0, vi 0, vi 0, vi 2]⟩] ((D2 ++ (lH B14 c14 r_6)).flatMap eN1) := (forg_app ho8 ho23)
             have hS58 : ST w0 [] _ [⟨B15, 9, ((words1 ++ [(x2 ++ (dT i2))]).flatMap encS), c15 * 1⟩, ⟨B16, 24, ((D2 ++ (lH B14 c14 r_6)).flatMap eN3), c16 * 1⟩, ⟨aD b4, 24, (D3.flatMap eN3), 2 * 1⟩, ⟨aD b5, 24, [.slice B14 r_6.length c14], 1⟩, ⟨aD b7, 24, ((lH B14 c14 r_6).flatMap eN3), 1 * 1⟩, ⟨aD b6, 9, ([(x2 ++ (dT i2))].flatMap encS), 1 * 1⟩] (⟨B14, (r_6.flatMap eN0)⟩ :: ⟨B13, (x1.flatMap eN0)⟩ :: ⟨B12, (x.flatMap eN0)⟩ :: ⟨B5, (r_5.Cells.flatMap eN0)⟩ :: ⟨B4, (r_4.Cells.flatMap eN0)⟩ :: ⟨B2, (one_.flatMap eN0)⟩ :: ⟨(aD 0), [vi 1, vi 0, vi 0, vi 0, vi 2]⟩ :: (((D2 ++ (lH B14 c14 r_6)).flatMap eN1) ++ (((lH B14 c14 r_6).flatMap eN1) ++ ((D3.flatMap eN1) ++ [])))) := ST.subR hS57 (sk 0 (sk 1 (sk 2 (sk 3 (sk 4 (sk 5 (sk 6 (suba (fsub_app (fun r_ (h : r_ ∈ ((D2.flatMap eN1) : List Ro)) => mOd (i := 7) (show r_ ∈ (((((lH B14 c14 r_6).flatMap eN1) ++ ((D2.flatMap eN1) ++ ((D3.flatMap eN1) ++ [])))) : List Ro) from mAr _ (mAl _ h))) (fun r_ (h : r_ ∈ (((lH B14 c14 r_6).flatMap eN1) : List Ro)) => mOd (i := 7) (show r_ ∈ (((((lH B14 c14 r_6).flatMap eN1) ++ ((D2.flatMap eN1) ++ ((D3.flatMap eN1) ++ [])))) : List Ro) from mAl _ h))) (suba (fun r_ (h : r_ ∈ (((lH B14 c14 r_6).flatMap eN1) : List Ro)) => mOd (i := 7) (show r_ ∈ (((((lH B14 c14 r_6).flatMap eN1) ++ ((D2.flatMap eN1) ++ ((D3.flatMap eN1) ++ [])))) : List Ro) from mAl _ h)) (suba (fun r_ (h : r_ ∈ ((D3.flatMap eN1) : List Ro)) => mOd (i := 7) (show r_ ∈ (((((lH B14 c14 r_6).flatMap eN1) ++ ((D2.flatMap eN1) ++ ((D3.flatMap eN1) ++ [])))) : List Ro) from mAr _ (mAr _ (mAl _ h)))) (fun _ h => by cases h)))))))))))
             refine ⟨(ST.subR (hS58.se [2, 3]) (R' := (⟨B14, (r_6.flatMap eN0)⟩ :: ⟨B13, (x1.flatMap eN0)⟩ :: ⟨B12, (x.flatMap eN0)⟩ :: ⟨B5, (r_5.Cells.flatMap eN0)⟩ :: ⟨B4, (r_4.Cells.flatMap eN0)⟩ :: ⟨B2, (one_.flatMap eN0)⟩ :: ⟨(aD 0), [vi 1, vi 0, vi 0, vi 0, vi 2]⟩ :: ((D3.flatMap eN1) ++ []))) (sk 0 (sk 1 (sk 2 (sk 3 (sk 4 (sk 5 (sk 6 (suba (fun r_ (h : r_ ∈ ((D3.flatMap eN1) : List Ro)) => mOd (i := 7) (show r_ ∈ (((((D2 ++ (lH B14 c14 r_6)).flatMap eN1) ++ (((lH B14 c14 r_6).flatMap eN1) ++ ((D3.flatMap eN1) ++ [])))) : List Ro) from mAr _ (mAr _ (mAl _ h)))) (fun _ h => by cases h)))))))))), ?_⟩
             refine ra_q 16 4 (v := .slice B15 ((words1 ++ [(x2 ++ (dT i2))]).length) c15) rfl rfl rfl (by kernel_rfl) (by kernel_rfl) (by kernel_rfl) (ST.subR (hS58.se [2, 3]) (R' := (⟨B14, (r_6.flatMap eN0)⟩ :: ⟨B13, (x1.flatMap eN0)⟩ :: ⟨B12, (x.flatMap eN0)⟩ :: ⟨B5, (r_5.Cells.flatMap eN0)⟩ :: ⟨B4, (r_4.Cells.flatMap eN0)⟩ :: ⟨B2, (one_.flatMap eN0)⟩ :: ⟨(aD 0), [vi 1, vi 0, vi 0, vi 0, vi 2]⟩ :: ((D3.flatMap eN1) ++ []))) (sk 0 (sk 1 (sk 2 (sk 3 (sk 4 (sk 5 (sk 6 (suba (fun r_ (h : r_ ∈ ((D3.flatMap eN1) : List Ro)) => mOd (i := 7) (show r_ ∈ (((((D2 ++ (lH B14 c14 r_6)).flatMap eN1) ++ (((lH B14 c14 r_6).flatMap eN1) ++ ((D3.flatMap eN1) ++ [])))) : List Ro) from mAr _ (mAr _ (mAl _ h)))) (fun _ h => by cases h)))))))))) (fun w' hw' => (yg (.slice B15 ((words1 ++ [(x2 ++ (dT i2))]).length) c15))) ?_
             refine rq 17 5 (v := .slice B16 ((list1 ++ ([r_6] : List (List TDyadic))).length) c16) rfl (ST.subR (hS58.se [2, 3]) (R' := (⟨B14, (r_6.flatMap eN0)⟩ :: ⟨B13, (x1.flatMap eN0)⟩ :: ⟨B12, (x.flatMap eN0)⟩ :: ⟨B5, (r_5.Cells.flatMap eN0)⟩ :: ⟨B4, (r_4.Cells.flatMap eN0)⟩ :: ⟨B2, (one_.flatMap eN0)⟩ :: ⟨(aD 0), [vi 1, vi 0, vi 0, vi 0, vi 2]⟩ :: ((D3.flatMap eN1) ++ []))) (sk 0 (sk 1 (sk 2 (sk 3 (sk 4 (sk 5 (sk 6 (suba (fun r_ (h : r_ ∈ ((D3.flatMap eN1) : List Ro)) => mOd (i := 7) (show r_ ∈ (((((D2 ++ (lH B14 c14 r_6)).flatMap eN1) ++ (((lH B14 c14 r_6).flatMap eN1) ++ ((D3.flatMap eN1) ++ [])))) : List Ro) from mAr _ (mAr _ (mAl _ h)))) (fun _ h => by cases h)))))))))) (fun w' hw' => (yg (.slice B16 ((list1 ++ ([r_6] : List (List TDyadic))).length) c16))) ?_
             refine ra_done (by kernel_rfl) ?_
             have hS59 : ST w0 [] _ [⟨B15, 9, ((words1 ++ [(x2 ++ (dT i2))]).flatMap encS), c15 * 1⟩, ⟨B16, 24, ((D2 ++ (lH B14 c14 r_6)).flatMap eN3), c16 * 1⟩, ⟨aD b4, 24, (D3.flatMap eN3), 2 * 1⟩, ⟨aD b5, 24, [.slice B14 r_6.length c14], 1⟩, ⟨aD b7, 24, ((lH B14 c14 r_6).flatMap eN3), 1 * 1⟩, ⟨aD b6, 9, ([(x2 ++ (dT i2))].flatMap encS), 1 * 1⟩] (⟨B14, (r_6.flatMap eN0)⟩ :: ⟨B13, (x1.flatMap eN0)⟩ :: ⟨B12, (x.flatMap eN0)⟩ :: ⟨B5, (r_5.Cells.flatMap eN0)⟩ :: ⟨B4, (r_4.Cells.flatMap eN0)⟩ :: ⟨B2, (one_.flatMap eN0)⟩ :: ⟨(aD 0), [vi 1, vi 0, vi 0, vi 0, vi 2]⟩ :: (((D2 ++ (lH B14 c14 r_6)).flatMap eN1) ++ ((D3.flatMap eN1) ++ []))) := ST.subR hS58 (sk 0 (sk 1 (sk 2 (sk 3 (sk 4 (sk 5 (sk 6 (suba (fun r_ (h : r_ ∈ (((D2 ++ (lH B14 c14 r_6)).flatMap eN1) : List Ro)) => mOd (i := 7) (show r_ ∈ (((((D2 ++ (lH B14 c14 r_6)).flatMap eN1) ++ (((lH B14 c14 r_6).flatMap eN1) ++ ((D3.flatMap eN1) ++ [])))) : List Ro) from mAl _ h)) (suba (fun r_ (h : r_ ∈ ((D3.flatMap eN1) : List Ro)) => mOd (i := 7) (show r_ ∈ (((((D2 ++ (lH B14 c14 r_6)).flatMap eN1) ++ (((lH B14 c14 r_6).flatMap eN1) ++ ((D3.flatMap eN1) ++ [])))) : List Ro) from mAr _ (mAr _ (mAl _ h)))) (fun _ h => by cases h))))))))))
             exact ⟨B15, c15, B16, c16, (D2 ++ (lH B14 c14 r_6)), (fc rfl (fc rfl (fc (hf2.g 6 2) (fc (hf2.g 7 3) (fc (hf2.g 8 4) (fc (hf2.g 41 5) (fc (hf2.g 42 6) (fc (hf2.g 43 7) fn_)))))))), (dl_app hD2 (show List.map Prod.snd (lH B14 c14 r_6) = ([r_6] : List (List TDyadic)) from rfl)), ho24, (hS59.sel [0, 1, 2] rfl rfl)⟩
            exact aN
           exact aN
          exact aN
         exact aN
        exact aN
       refine rS 75 14 rfl (Ys_bslice (s := 1) (len := 1) (vs := [(0, .slice B14 r_6.length c14)]) (cs := [.slice B14 r_6.length c14]) (zs := [.slice none 0 0]) (m := 1) hS32 K41 K8 K82 rfl (mpc rfl mpn) rfl rfl rfl (by kernel_rfl) (by kernel_rfl) rfl) ?_ ?_
       ·rintro _ w_29 ⟨b7, rfl, hS60⟩
        have hm9 : ∀ r ∈ ((lH B14 c14 r_6).flatMap eN1), r ∈ ((⟨B14, (r_6.flatMap eN0)⟩ :: ⟨B13, (x1.flatMap eN0)⟩ :: ⟨B12, (x.flatMap eN0)⟩ :: ⟨B5, (r_5.Cells.flatMap eN0)⟩ :: ⟨B4, (r_4.Cells.flatMap eN0)⟩ :: ⟨B2, (one_.flatMap eN0)⟩ :: ⟨(aD 0), [vi 1, vi 0, vi 0, vi 0, vi 2]⟩ :: ((D2.flatMap eN1) ++ ((D3.flatMap eN1) ++ []))) : List Ro) := (fsub_cons (sk 0 (fun _ h => by cases h)) fsub_nil)
        have ho25 : Org w0 [] [⟨(aD 0), [vi 1, vi 0, vi 0, vi 0, vi 2]⟩] ((lH B14 c14 r_6).flatMap eN1) := (forg_cons (org_cons ho15 org_nil) forg_nil)
        have hS61 : ST w0 [] _ [⟨B8, 9, (words1.flatMap encS), c8 * 1⟩, ⟨B9, 24, (D2.flatMap eN3), c9 * 1⟩, ⟨aD b4, 24, (D3.flatMap eN3), 2 * 1⟩, ⟨aD b5, 24, [.slice B14 r_6.length c14], 1⟩, ⟨aD b7, 24, ((lH B14 c14 r_6).flatMap eN3), 1 * 1⟩] (⟨B14, (r_6.flatMap eN0)⟩ :: ⟨B13, (x1.flatMap eN0)⟩ :: ⟨B12, (x.flatMap eN0)⟩ :: ⟨B5, (r_5.Cells.flatMap eN0)⟩ :: ⟨B4, (r_4.Cells.flatMap eN0)⟩ :: ⟨B2, (one_.flatMap eN0)⟩ :: ⟨(aD 0), [vi 1, vi 0, vi 0, vi 0, vi 2]⟩ :: (((lH B14 c14 r_6).flatMap eN1) ++ ((D2.flatMap eN1) ++ ((D3.flatMap eN1) ++ [])))) := ST.subR hS60 (sk 0 (sk 1 (sk 2 (sk 3 (sk 4 (sk 5 (sk 6 (suba hm9 (suba (fun r_ (h : r_ ∈ ((D2.flatMap eN1) : List Ro)) => mOd (i := 7) (show r_ ∈ ((((D2.flatMap eN1) ++ ((D3.flatMap eN1) ++ []))) : List Ro) from mAl _ h)) (suba (fun r_ (h : r_ ∈ ((D3.flatMap eN1) : List Ro)) => mOd (i := 7) (show r_ ∈ ((((D2.flatMap eN1) ++ ((D3.flatMap eN1) ++ []))) : List Ro) from mAr _ (mAl _ h))) (fun _ h => by cases h)))))))))))
        refine ⟨(ST.subR (hS61.se [2, 3]) (R' := (⟨B14, (r_6.flatMap eN0)⟩ :: ⟨B13, (x1.flatMap eN0)⟩ :: ⟨B12, (x.flatMap eN0)⟩ :: ⟨B5, (r_5.Cells.flatMap eN0)⟩ :: ⟨B4, (r_4.Cells.flatMap eN0)⟩ :: ⟨B2, (one_.flatMap eN0)⟩ :: ⟨(aD 0), [vi 1, vi 0, vi 0, vi 0, vi 2]⟩ :: ((D3.flatMap eN1) ++ []))) (sk 0 (sk 1 (sk 2 (sk 3 (sk 4 (sk 5 (sk 6 (suba (fun r_ (h : r_ ∈ ((D3.flatMap eN1) : List Ro)) => mOd (i := 7) (show r_ ∈ (((((lH B14 c14 r_6).flatMap eN1) ++ ((D2.flatMap eN1) ++ ((D3.flatMap eN1) ++ [])))) : List Ro) from mAr _ (mAr _ (mAl _ h)))) (fun _ h => by cases h)))))))))), ?_⟩
        refine rA [3] ?_
        refine ra_y 64 (i := 3) (v := pt B8 (at_1.toNat * 1)) rfl rfl rfl (Y_index (B := B8) (m := words1.length) (c := c8) (k := .i64) (i := at_1) K34 K40 rfl rfl rfl (gi_isSome encS_len rfl (hS61.c 0) hx2) (getI_nn hx2) (getI_ltI hx2 rfl)) (ST.subR (hS61.se [2, 3]) (R' := (⟨B14, (r_6.flatMap eN0)⟩ :: ⟨B13, (x1.flatMap eN0)⟩ :: ⟨B12, (x.flatMap eN0)⟩ :: ⟨B5, (r_5.Cells.flatMap eN0)⟩ :: ⟨B4, (r_4.Cells.flatMap eN0)⟩ :: ⟨B2, (one_.flatMap eN0)⟩ :: ⟨(aD 0), [vi 1, vi 0, vi 0, vi 0, vi 2]⟩ :: ((D3.flatMap eN1) ++ []))) (sk 0 (sk 1 (sk 2 (sk 3 (sk 4 (sk 5 (sk 6 (suba (fun r_ (h : r_ ∈ ((D3.flatMap eN1) : List Ro)) => mOd (i := 7) (show r_ ∈ (((((lH B14 c14 r_6).flatMap eN1) ++ ((D2.flatMap eN1) ++ ((D3.flatMap eN1) ++ [])))) : List Ro) from mAr _ (mAr _ (mAl _ h)))) (fun _ h => by cases h)))))))))) ?_ ?_
        ·skip
         refine rA [4] ?_
         refine ra_y 65 (i := 4) (v := .string (bstr x2)) rfl rfl rfl (yl B8 (at_1.toNat * 1) (words1.flatMap encS) (.string (bstr x2)) K97 (hS61.c 0) rfl rfl (gi_at0 encS_len hx2 rfl)) (ST.subR (hS61.se [2, 3]) (R' := (⟨B14, (r_6.flatMap eN0)⟩ :: ⟨B13, (x1.flatMap eN0)⟩ :: ⟨B12, (x.flatMap eN0)⟩ :: ⟨B5, (r_5.Cells.flatMap eN0)⟩ :: ⟨B4, (r_4.Cells.flatMap eN0)⟩ :: ⟨B2, (one_.flatMap eN0)⟩ :: ⟨(aD 0), [vi 1, vi 0, vi 0, vi 0, vi 2]⟩ :: ((D3.flatMap eN1) ++ []))) (sk 0 (sk 1 (sk 2 (sk 3 (sk 4 (sk 5 (sk 6 (suba (fun r_ (h : r_ ∈ ((D3.flatMap eN1) : List Ro)) => mOd (i := 7) (show r_ ∈ (((((lH B14 c14 r_6).flatMap eN1) ++ ((D2.flatMap eN1) ++ ((D3.flatMap eN1) ++ [])))) : List Ro) from mAr _ (mAr _ (mAl _ h)))) (fun _ h => by cases h)))))))))) ?_ ?_
         ·skip
          refine ra_q 9 70 (v := .string (bstr (x2 ++ (dT i2)))) rfl rfl rfl (by kernel_rfl) (by kernel_rfl) (by kernel_rfl) (ST.subR (hS61.se [2, 3]) (R' := (⟨B14, (r_6.flatMap eN0)⟩ :: ⟨B13, (x1.flatMap eN0)⟩ :: ⟨B12, (x.flatMap eN0)⟩ :: ⟨B5, (r_5.Cells.flatMap eN0)⟩ :: ⟨B4, (r_4.Cells.flatMap eN0)⟩ :: ⟨B2, (one_.flatMap eN0)⟩ :: ⟨(aD 0), [vi 1, vi 0, vi 0, vi 0, vi 2]⟩ :: ((D3.flatMap eN1) ++ []))) (sk 0 (sk 1 (sk 2 (sk 3 (sk 4 (sk 5 (sk 6 (suba (fun r_ (h : r_ ∈ ((D3.flatMap eN1) : List Ro)) => mOd (i := 7) (show r_ ∈ (((((lH B14 c14 r_6).flatMap eN1) ++ ((D2.flatMap eN1) ++ ((D3.flatMap eN1) ++ [])))) : List Ro) from mAr _ (mAr _ (mAl _ h)))) (fun _ h => by cases h)))))))))) (fun w' hw' => (Y_sadd (a := x2) (b := (dT i2)) rfl rfl rfl hsa)) ?_
          refine rA [10] ?_
          refine rS 71 10 rfl (Ys_bslice (s := 1) (len := 1) (vs := [(0, .string (bstr (x2 ++ (dT i2))))]) (cs := [.string (bstr (x2 ++ (dT i2)))]) (zs := [.string (bstr ([] : List UInt8))]) (m := 1) hS61 K34 K40 K68 rfl (mpc rfl mpn) rfl rfl rfl (by kernel_rfl) (by kernel_rfl) rfl) ?_ ?_
          ·rintro _ w_30 ⟨b6, rfl, hS62⟩
           refine ⟨(ST.subR (hS62.se [2, 3]) (R' := (⟨B14, (r_6.flatMap eN0)⟩ :: ⟨B13, (x1.flatMap eN0)⟩ :: ⟨B12, (x.flatMap eN0)⟩ :: ⟨B5, (r_5.Cells.flatMap eN0)⟩ :: ⟨B4, (r_4.Cells.flatMap eN0)⟩ :: ⟨B2, (one_.flatMap eN0)⟩ :: ⟨(aD 0), [vi 1, vi 0, vi 0, vi 0, vi 2]⟩ :: ((D3.flatMap eN1) ++ []))) (sk 0 (sk 1 (sk 2 (sk 3 (sk 4 (sk 5 (sk 6 (suba (fun r_ (h : r_ ∈ ((D3.flatMap eN1) : List Ro)) => mOd (i := 7) (show r_ ∈ (((((lH B14 c14 r_6).flatMap eN1) ++ ((D2.flatMap eN1) ++ ((D3.flatMap eN1) ++ [])))) : List Ro) from mAr _ (mAr _ (mAl _ h)))) (fun _ h => by cases h)))))))))), ?_⟩
           refine rA [11] ?_
           refine rS 72 11 rfl (Ys_append (s := 1) (by' := 16) (i := 0) (nn := words1.length) (c := c8) (k := 1) (len := (words1 ++ [(x2 ++ (dT i2))]).length) (B := B8) (xs := ([(x2 ++ (dT i2))].flatMap encS)) (cs' := ((words1 ++ [(x2 ++ (dT i2))]).flatMap encS)) hS62 K34 K40 K83 K84 rfl (by decide) rfl rfl rfl rfl (fm_lenn (l := words1) encS_len rfl) rfl (hS62.c 5) (fm_lenn (l := [(x2 ++ (dT i2))]) encS_len rfl) (fm_one' (enc := encS) encS_one [(x2 ++ (dT i2))]) (by have := hap1; omega) (by have := hap1; simp only [maxLen]; omega) (fm_app _ _) (app_len (l := words1) (l' := [(x2 ++ (dT i2))]) rfl rfl)) ?_ ?_
           ·rintro _ w_31 ⟨B15, c15, rfl, hS63⟩
            refine ⟨(ST.subR (hS63.se [2, 3]) (R' := (⟨B14, (r_6.flatMap eN0)⟩ :: ⟨B13, (x1.flatMap eN0)⟩ :: ⟨B12, (x.flatMap eN0)⟩ :: ⟨B5, (r_5.Cells.flatMap eN0)⟩ :: ⟨B4, (r_4.Cells.flatMap eN0)⟩ :: ⟨B2, (one_.flatMap eN0)⟩ :: ⟨(aD 0), [vi 1, vi 0, vi 0, vi 0, vi 2]⟩ :: ((D3.flatMap eN1) ++ []))) (sk 0 (sk 1 (sk 2 (sk 3 (sk 4 (sk 5 (sk 6 (suba (fun r_ (h : r_ ∈ ((D3.flatMap eN1) : List Ro)) => mOd (i := 7) (show r_ ∈ (((((lH B14 c14 r_6).flatMap eN1) ++ ((D2.flatMap eN1) ++ ((D3.flatMap eN1) ++ [])))) : List Ro) from mAr _ (mAr _ (mAl _ h)))) (fun _ h => by cases h)))))))))), ?_⟩
            refine rA [15] ?_
            refine rS 76 15 rfl (Ys_append (s := 1) (by' := 24) (i := 1) (nn := list1.length) (c := c9) (k := 1) (len := (list1 ++ ([r_6] : List (List TDyadic))).length) (B := B9) (xs := ((lH B14 c14 r_6).flatMap eN3)) (cs' := ((D2 ++ (lH B14 c14 r_6)).flatMap eN3)) hS63 K41 K8 K103 K95 rfl (by decide) rfl rfl rfl rfl (fm_lenn (l := D2) encD_SDyadic_len (dl_len hD2)) rfl (hS63.c 4) (fm_lenn (l := (lH B14 c14 r_6)) encD_SDyadic_len rfl) (fm_one' (enc := eN3) encD_SDyadic_one (lH B14 c14 r_6)) (by have := hap2; omega) (by have := hap2; simp only [maxLen]; omega) (fm_app _ _) (dl_sum (dl_len hD2) rfl (dl_app hD2 (show List.map Prod.snd (lH B14 c14 r_6) = ([r_6] : List (List TDyadic)) from rfl)))) ?_ ?_
            ·rintro _ w_32 ⟨B16, c16, rfl, hS64⟩
             have ho26 : Org w0 [] [⟨(aD 0), [vi 1, vi 0, vi 0, vi 0, vi 2]⟩] ((D2 ++ (lH B14 c14 r_6)).flatMap eN1) := (forg_app ho8 ho25)
             have hS65 : ST w0 [] _ [⟨B15, 9, ((words1 ++ [(x2 ++ (dT i2))]).flatMap encS), c15 * 1⟩, ⟨B16, 24, ((D2 ++ (lH B14 c14 r_6)).flatMap eN3), c16 * 1⟩, ⟨aD b4, 24, (D3.flatMap eN3), 2 * 1⟩, ⟨aD b5, 24, [.slice B14 r_6.length c14], 1⟩, ⟨aD b7, 24, ((lH B14 c14 r_6).flatMap eN3), 1 * 1⟩, ⟨aD b6, 9, ([(x2 ++ (dT i2))].flatMap encS), 1 * 1⟩] (⟨B14, (r_6.flatMap eN0)⟩ :: ⟨B13, (x1.flatMap eN0)⟩ :: ⟨B12, (x.flatMap eN0)⟩ :: ⟨B5, (r_5.Cells.flatMap eN0)⟩ :: ⟨B4, (r_4.Cells.flatMap eN0)⟩ :: ⟨B2, (one_.flatMap eN0)⟩ :: ⟨(aD 0), [vi 1, vi 0, vi 0, vi 0, vi 2]⟩ :: (((D2 ++ (lH B14 c14 r_6)).flatMap eN1) ++ (((lH B14 c14 r_6).flatMap eN1) ++ ((D3.flatMap eN1) ++ [])))) := ST.subR hS64 (sk 0 (sk 1 (sk 2 (sk 3 (sk 4 (sk 5 (sk 6 (suba (fsub_app (fun r_ (h : r_ ∈ ((D2.flatMap eN1) : List Ro)) => mOd (i := 7) (show r_ ∈ (((((lH B14 c14 r_6).flatMap eN1) ++ ((D2.flatMap eN1) ++ ((D3.flatMap eN1) ++ [])))) : List Ro) from mAr _ (mAl _ h))) (fun r_ (h : r_ ∈ (((lH B14 c14 r_6).flatMap eN1) : List Ro)) => mOd (i := 7) (show r_ ∈ (((((lH B14 c14 r_6).flatMap eN1) ++ ((D2.flatMap eN1) ++ ((D3.flatMap eN1) ++ [])))) : List Ro) from mAl _ h))) (suba (fun r_ (h : r_ ∈ (((lH B14 c14 r_6).flatMap eN1) : List Ro)) => mOd (i := 7) (show r_ ∈ (((((lH B14 c14 r_6).flatMap eN1) ++ ((D2.flatMap eN1) ++ ((D3.flatMap eN1) ++ [])))) : List Ro) from mAl _ h)) (suba (fun r_ (h : r_ ∈ ((D3.flatMap eN1) : List Ro)) => mOd (i := 7) (show r_ ∈ (((((lH B14 c14 r_6).flatMap eN1) ++ ((D2.flatMap eN1) ++ ((D3.flatMap eN1) ++ [])))) : List Ro) from mAr _ (mAr _ (mAl _ h)))) (fun _ h => by cases h)))))))))))
             have hS65 : ST w0 [] _ [⟨B15, 9, ((words1 ++ [(x2 ++ (dT i2))]).flatMap encS), c15 * 1⟩, ⟨B16, 24, ((D2 ++ (lH B14 c14 r_6)).flatMap eN3), c16 * 1⟩, ⟨aD b4, 24, (D3.flatMap eN3), 2 * 1⟩, ⟨aD b5, 24, [.slice B14 r_6.length c14], 1⟩, ⟨aD b7, 24, ((lH B14 c14 r_6).flatMap eN3), 1 * 1⟩, ⟨aD b6, 9, ([(x2 ++ (dT i2))].flatMap encS), 1 * 1⟩] (⟨B14, (r_6.flatMap eN0)⟩ :: ⟨B13, (x1.flatMap eN0)⟩ :: ⟨B12, (x.flatMap eN0)⟩ :: ⟨B5, (r_5.Cells.flatMap eN0)⟩ :: ⟨B4, (r_4.Cells.flatMap eN0)⟩ :: ⟨B2, (one_.flatMap eN0)⟩ :: ⟨(aD 0), [vi 1, vi 0, vi 0, vi 0, vi 2]⟩ :: (((D2 ++ (lH B14 c14 r_6)).flatMap eN1) ++ (((lH B14 c14 r_6).flatMap eN1) ++ ((D3.flatMap eN1) ++ [])))) := hS65
             refine ⟨(ST.subR (hS65.se [2, 3]) (R' := (⟨B14, (r_6.flatMap eN0)⟩ :: ⟨B13, (x1.flatMap eN0)⟩ :: ⟨B12, (x.flatMap eN0)⟩ :: ⟨B5, (r_5.Cells.flatMap eN0)⟩ :: ⟨B4, (r_4.Cells.flatMap eN0)⟩ :: ⟨B2, (one_.flatMap eN0)⟩ :: ⟨(aD 0), [vi 1, vi 0, vi 0, vi 0, vi 2]⟩ :: ((D3.flatMap eN1) ++ []))) (sk 0 (sk 1 (sk 2 (sk 3 (sk 4 (sk 5 (sk 6 (suba (fun r_ (h : r_ ∈ ((D3.flatMap eN1) : List Ro)) => mOd (i := 7) (show r_ ∈ (((((D2 ++ (lH B14 c14 r_6)).flatMap eN1) ++ (((lH B14 c14 r_6).flatMap eN1) ++ ((D3.flatMap eN1) ++ [])))) : List Ro) from mAr _ (mAr _ (mAl _ h)))) (fun _ h => by cases h)))))))))), ?_⟩
             refine ra_q 16 4 (v := .slice B15 ((words1 ++ [(x2 ++ (dT i2))]).length) c15) rfl rfl rfl (by kernel_rfl) (by kernel_rfl) (by kernel_rfl) (ST.subR (hS65.se [2, 3]) (R' := (⟨B14, (r_6.flatMap eN0)⟩ :: ⟨B13, (x1.flatMap eN0)⟩ :: ⟨B12, (x.flatMap eN0)⟩ :: ⟨B5, (r_5.Cells.flatMap eN0)⟩ :: ⟨B4, (r_4.Cells.flatMap eN0)⟩ :: ⟨B2, (one_.flatMap eN0)⟩ :: ⟨(aD 0), [vi 1, vi 0, vi 0, vi 0, vi 2]⟩ :: ((D3.flatMap eN1) ++ []))) (sk 0 (sk 1 (sk 2 (sk 3 (sk 4 (sk 5 (sk 6 (suba (fun r_ (h : r_ ∈ ((D3.flatMap eN1) : List Ro)) => mOd (i := 7) (show r_ ∈ (((((D2 ++ (lH B14 c14 r_6)).flatMap eN1) ++ (((lH B14 c14 r_6).flatMap eN1) ++ ((D3.flatMap eN1) ++ [])))) : List Ro) from mAr _ (mAr _ (mAl _ h)))) (fun _ h => by cases h)))))))))) (fun w' hw' => (yg (.slice B15 ((words1 ++ [(x2 ++ (dT i2))]).length) c15))) ?_
             refine rq 17 5 (v := .slice B16 ((list1 ++ ([r_6] : List (List TDyadic))).length) c16) rfl (ST.subR (hS65.se [2, 3]) (R' := (⟨B14, (r_6.flatMap eN0)⟩ :: ⟨B13, (x1.flatMap eN0)⟩ :: ⟨B12, (x.flatMap eN0)⟩ :: ⟨B5, (r_5.Cells.flatMap eN0)⟩ :: ⟨B4, (r_4.Cells.flatMap eN0)⟩ :: ⟨B2, (one_.flatMap eN0)⟩ :: ⟨(aD 0), [vi 1, vi 0, vi 0, vi 0, vi 2]⟩ :: ((D3.flatMap eN1) ++ []))) (sk 0 (sk 1 (sk 2 (sk 3 (sk 4 (sk 5 (sk 6 (suba (fun r_ (h : r_ ∈ ((D3.flatMap eN1) : List Ro)) => mOd (i := 7) (show r_ ∈ (((((D2 ++ (lH B14 c14 r_6)).flatMap eN1) ++ (((lH B14 c14 r_6).flatMap eN1) ++ ((D3.flatMap eN1) ++ [])))) : List Ro) from mAr _ (mAr _ (mAl _ h)))) (fun _ h => by cases h)))))))))) (fun w' hw' => (yg (.slice B16 ((list1 ++ ([r_6] : List (List TDyadic))).length) c16))) ?_
             refine ra_done (by kernel_rfl) ?_
             have hS66 : ST w0 [] _ [⟨B15, 9, ((words1 ++ [(x2 ++ (dT i2))]).flatMap encS), c15 * 1⟩, ⟨B16, 24, ((D2 ++ (lH B14 c14 r_6)).flatMap eN3), c16 * 1⟩, ⟨aD b4, 24, (D3.flatMap eN3), 2 * 1⟩, ⟨aD b5, 24, [.slice B14 r_6.length c14], 1⟩, ⟨aD b7, 24, ((lH B14 c14 r_6).flatMap eN3), 1 * 1⟩, ⟨aD b6, 9, ([(x2 ++ (dT i2))].flatMap encS), 1 * 1⟩] (⟨B14, (r_6.flatMap eN0)⟩ :: ⟨B13, (x1.flatMap eN0)⟩ :: ⟨B12, (x.flatMap eN0)⟩ :: ⟨B5, (r_5.Cells.flatMap eN0)⟩ :: ⟨B4, (r_4.Cells.flatMap eN0)⟩ :: ⟨B2, (one_.flatMap eN0)⟩ :: ⟨(aD 0), [vi 1, vi 0, vi 0, vi 0, vi 2]⟩ :: (((D2 ++ (lH B14 c14 r_6)).flatMap eN1) ++ ((D3.flatMap eN1) ++ []))) := ST.subR hS65 (sk 0 (sk 1 (sk 2 (sk 3 (sk 4 (sk 5 (sk 6 (suba (fun r_ (h : r_ ∈ (((D2 ++ (lH B14 c14 r_6)).flatMap eN1) : List Ro)) => mOd (i := 7) (show r_ ∈ (((((D2 ++ (lH B14 c14 r_6)).flatMap eN1) ++ (((lH B14 c14 r_6).flatMap eN1) ++ ((D3.flatMap eN1) ++ [])))) : List Ro) from mAl _ h)) (suba (fun r_ (h : r_ ∈ ((D3.flatMap eN1) : List Ro)) => mOd (i := 7) (show r_ ∈ (((((D2 ++ (lH B14 c14 r_6)).flatMap eN1) ++ (((lH B14 c14 r_6).flatMap eN1) ++ ((D3.flatMap eN1) ++ [])))) : List Ro) from mAr _ (mAr _ (mAl _ h)))) (fun _ h => by cases h))))))))))
             exact ⟨B15, c15, B16, c16, (D2 ++ (lH B14 c14 r_6)), (fc rfl (fc rfl (fc (hf2.g 6 2) (fc (hf2.g 7 3) (fc (hf2.g 8 4) (fc (hf2.g 41 5) (fc (hf2.g 42 6) (fc (hf2.g 43 7) fn_)))))))), (dl_app hD2 (show List.map Prod.snd (lH B14 c14 r_6) = ([r_6] : List (List TDyadic)) from rfl)), ho26, (hS66.sel [0, 1, 2] rfl rfl)⟩
            exact aN
           exact aN
          exact aN
         exact aN
        exact aN
       exact aN
      rintro f w ⟨B17, c17, B18, c18, D6, hf4, hD6, ho16, hS31⟩
      have hS67 : ST w0 [] _ [⟨B17, 9, ((words1 ++ [(x2 ++ (dT i2))]).flatMap encS), c17 * 1⟩, ⟨B18, 24, (D6.flatMap eN3), c18 * 1⟩, ⟨aD b4, 24, (D3.flatMap eN3), 2 * 1⟩] (⟨B5, (r_5.Cells.flatMap eN0)⟩ :: ⟨B4, (r_4.Cells.flatMap eN0)⟩ :: ⟨B2, (one_.flatMap eN0)⟩ :: ⟨(aD 0), [vi 1, vi 0, vi 0, vi 0, vi 2]⟩ :: ((D6.flatMap eN1) ++ ((D3.flatMap eN1) ++ []))) := ST.subR hS31 (sk 3 (sk 4 (sk 5 (sk 6 (suba (fun r_ (h : r_ ∈ ((D6.flatMap eN1) : List Ro)) => mOd (i := 7) (show r_ ∈ ((((D6.flatMap eN1) ++ ((D3.flatMap eN1) ++ []))) : List Ro) from mAl _ h)) (suba (fun r_ (h : r_ ∈ ((D3.flatMap eN1) : List Ro)) => mOd (i := 7) (show r_ ∈ ((((D6.flatMap eN1) ++ ((D3.flatMap eN1) ++ []))) : List Ro) from mAr _ (mAl _ h))) (fun _ h => by cases h)))))))
      exact ⟨(words1 ++ [(x2 ++ (dT i2))]), (list1 ++ ([r_6] : List (List TDyadic))), B17, c17, B18, c18, D6, D3, (sI hF6), (fc (hf4.g 4 0) (fc (hf4.g 5 1) (fc (hf4.g 6 2) (fc (hf4.g 7 3) (fc (hf4.g 8 4) (fc (hf4.g 41 5) (fc (hf4.g 42 6) (fc (hf4.g 43 7) fn_)))))))), hD6, ho16, hD3, ho9, (hS67.sel [0, 1, 2] rfl rfl)⟩
     ·skip
      have hF7 := cf' hz3 hb4
      refine cw_skip ?_
      have hS68 : ST w0 [] _ [⟨B8, 9, (words1.flatMap encS), c8 * 1⟩, ⟨B9, 24, (D2.flatMap eN3), c9 * 1⟩, ⟨aD b4, 24, (D3.flatMap eN3), 2 * 1⟩, ⟨B14, 54, (r_6.flatMap eN0), c14 * 5⟩, ⟨aD b5, 24, [.slice B14 r_6.length c14], 1⟩] (⟨B5, (r_5.Cells.flatMap eN0)⟩ :: ⟨B4, (r_4.Cells.flatMap eN0)⟩ :: ⟨B2, (one_.flatMap eN0)⟩ :: ⟨(aD 0), [vi 1, vi 0, vi 0, vi 0, vi 2]⟩ :: ((D2.flatMap eN1) ++ ((D3.flatMap eN1) ++ []))) := ST.subR hS26 (sk 2 (sk 3 (sk 4 (sk 5 (suba (fun r_ (h : r_ ∈ ((D2.flatMap eN1) : List Ro)) => mOd (i := 6) (show r_ ∈ ((((D2.flatMap eN1) ++ ((D3.flatMap eN1) ++ []))) : List Ro) from mAl _ h)) (suba (fun r_ (h : r_ ∈ ((D3.flatMap eN1) : List Ro)) => mOd (i := 6) (show r_ ∈ ((((D2.flatMap eN1) ++ ((D3.flatMap eN1) ++ []))) : List Ro) from mAr _ (mAl _ h))) (fun _ h => by cases h)))))))
      exact ⟨words1, list1, B8, c8, B9, c9, D2, D3, (sI hF7), (fc (hf2.g 4 0) (fc (hf2.g 5 1) (fc (hf2.g 6 2) (fc (hf2.g 7 3) (fc (hf2.g 8 4) (fc (hf2.g 41 5) (fc (hf2.g 42 6) (fc (hf2.g 43 7) fn_)))))))), hD2, ho8, hD3, ho9, (hS68.sel [0, 1, 2] rfl rfl)⟩
    rintro f w ⟨words2, list2, B10, c10, B11, c11, D4, D5, rfl, hf3, hD4, ho10, hD5, ho11, hS20⟩
    refine cr ?_
    refine sQ 77 (yP (i2 : Int) 1 rfl (hf3.g 43 7)) <| sQ 43 (ym (vi (i64.wrap ((i2 : Int) + 1)))) (rn ?_)
    obtain rfl := sI hF5
    exact ⟨K55, Nat.lt_succ_self _, i2 + 1, words2, list2, B10, c10, B11, c11, D4, D5, (fc (hf3.g 4 0) (fc (hf3.g 5 1) (fc (hf3.g 6 2) (fc (hf3.g 7 3) (fc (hf3.g 8 4) (fc (hf3.g 41 5) (fc (hf3.g 42 6) (fc (congrArg (Value.int .i64) (wr_succ hlt3 (show 2 ≤ 9223372036854775807 by decide))) fn_)))))))), hD4, ho10, hD5, ho11, (hS20.sel [0, 1, 2] rfl rfl), (by omega), hL5⟩
   ·skip
    obtain rfl : K11 = 0 := by have h := of_decide_eq_false hlt2; omega
    refine cw_exit rfl ?_
    obtain rfl := sI hL4
    refine cr ?_
    refine sQ 37 (ym (vi at_1) rfl (hf2.g 8 4)) <| sQ 38 (yP at_1 1) <| sQ 8 (yg (vi (i64.wrap (at_1 + 1)))) (rn ?_)
    obtain rfl := sI hF4
    have hS69 : ST w0 [] _ [⟨B8, 9, (words1.flatMap encS), c8 * 1⟩, ⟨B9, 24, (D2.flatMap eN3), c9 * 1⟩, ⟨aD b4, 24, (D3.flatMap eN3), 2 * 1⟩] (⟨B5, (r_5.Cells.flatMap eN0)⟩ :: ⟨B4, (r_4.Cells.flatMap eN0)⟩ :: ⟨B2, (one_.flatMap eN0)⟩ :: ⟨(aD 0), [vi 1, vi 0, vi 0, vi 0, vi 2]⟩ :: ((D2.flatMap eN1) ++ [])) := ST.subR hS18 (sk 0 (sk 1 (sk 2 (sk 3 (suba (fun r_ (h : r_ ∈ ((D2.flatMap eN1) : List Ro)) => mOd (i := 4) (show r_ ∈ ((((D2.flatMap eN1) ++ ((D3.flatMap eN1) ++ []))) : List Ro) from mAl _ h)) (fun _ h => by cases h))))))
    exact ⟨K29, Nat.lt_succ_self _, words1, list1, (i64.wrap (at_1 + 1)), B8, c8, B9, c9, D2, (fc (hf2.g 4 0) (fc (hf2.g 5 1) (fc (hf2.g 6 2) (fc (hf2.g 7 3) (fc rfl fn_))))), hD2, ho8, ho3, (len_le rfl hq), ho4, (len_le rfl hq1), (hS69.sel [0, 1] rfl rfl), hL3⟩
  ·skip
   have hF8 := cf' hb1 hb2
   refine cw_exit rfl ?_
   obtain rfl := sI hF8
   obtain rfl := sI hL3
   refine cq (cr ?_)
   refine sQ 78 (ym (.slice B6 words.length c6) rfl (hf1.g 4 0)) <| sQ 79 (ym (.slice B7 list.length c7) rfl (hf1.g 5 1)) <| sQ 0 (yg (.slice B6 words.length c6)) <| sQ 1 (yg (.slice B7 list.length c7)) (rn (ct_ ?_))
   obtain ⟨rfl, rfl⟩ := pr2 (sI hF2)
   exact ret2 Tryz.results33 (v1 := .slice B6 words.length c6) (resAt_tmp rfl) (v2 := .slice B7 list.length c7) (resAt_tmp rfl) ⟨B6, c6, B7, c7, D1, rfl, hD1, (org_app ho2 org_nil), (ST.subR (R' := (((D1.flatMap eN1) ++ []))) (hS13.sel [0, 1] rfl rfl) (suba (fun r_ (h : r_ ∈ ((D1.flatMap eN1) : List Ro)) => mOd (i := 4) (show r_ ∈ ((((D1.flatMap eN1) ++ [])) : List Ro) from mAl _ h)) (fun _ h => by cases h)))⟩

theorem c_impl_CliffordIndex (b : TBloch) (B : Option Addr) (c n : Nat) (w0 : World) (hn : b.Cells.length = n) (hS : ST w0 [] w0 [] [⟨B, (b.Cells.flatMap eN0)⟩, ⟨(aD 0), [vi 1, vi 0, vi 0, vi 0, vi 2]⟩]) {r_ : Int} {r_1 : Bool} (hF : F_impl_CliffordIndex b = some (r_, r_1)) :
  CV Tryz.prog 13 #[.agg #[.slice B n c]] w0 (fun v w' => v = .tuple #[vi r_, .bool r_1] ∧ ST w0 [] w' [] []) := by
 subst hn
 unfold F_impl_CliffordIndex at hF
 refine cv_of_cw 28 Tryz.func13 rfl Tryz.ntmps13 rfl ?_
 refine cq (cr ?_)
 refine sS 1 (yB 29 (gB_ b B c) (kB_ b B c) 1 hS) ?_
 rintro _ w_ ⟨b1, rfl, hS1⟩
 refine sQ 2 (yg (vi 0)) <| sQ 3 (yg (.bool false)) (rn (cq (cq (cr ?_))))
 refine sQ 8 (yb (aD b1) 0 (kB_ b B c) K25 K14 (hS1.c 0)) ?_
 obtain ⟨r_2, hc, hF⟩ := bI hF
 refine sc 9 rfl rfl (yC [gB_ b B c] k_call_30 (c_impl_IsValidBloch b B c b.Cells.length _ rfl (hS1.inn0 [(true, 0)] rfl) hc)) ?_
 rintro _ w_1 ⟨rfl, hd⟩
 have hS2 := hS1.out00 hd
 refine sQ 10 (Y_not (p := r_2) rfl rfl) (rn ?_)
 refine cw_cond (b := (!r_2)) rfl (fun hb => ?_) (fun hb => ?_)
 ·skip
  have hF1 := ct hF hb
  refine cq (cr ?_)
  refine sQ 2 (yg (vi 0)) <| sQ 3 (yg (.bool false)) (rn (ct_ ?_))
  obtain ⟨rfl, rfl⟩ := pr2 (sI hF1)
  exact ret2 Tryz.results13 (v1 := vi 0) (resAt_tmp rfl) (v2 := .bool false) (resAt_tmp rfl) ⟨rfl, (hS2.sN [])⟩
 ·skip
  have hF2 := cf' hF hb
  refine cw_skip (cq (cr ?_))
  obtain ⟨⟨r_3, r_4⟩, hc1, hF2⟩ := bI hF2
  refine sc 12 rfl rfl (yC [] k_call_33 (c_impl_cliffordList  _  (hS2.inn0 [(true, 1)] rfl) hc1)) ?_
  rintro _ w_2 ⟨B1, c1, B2, c2, D, rfl, hD, ho, hd1⟩
  have hS3 := ST.outR0 hS2 hd1 ho (sk 1 (fun _ h => by cases h))
  have ho1 : Org w0 [] [⟨B, (b.Cells.flatMap eN0)⟩, ⟨(aD 0), [vi 1, vi 0, vi 0, vi 0, vi 2]⟩] (((D.flatMap eN1) ++ [])) := org_trans0 hS2 ho (org_cons (org_mem (i := 1) rfl) org_nil)
  have hS4 : ST w0 [] _ [⟨aD b1, 29, kB_ b B c, 1⟩, ⟨B1, 9, (r_3.flatMap encS), c1 * 1⟩, ⟨B2, 24, (D.flatMap eN3), c2 * 1⟩] (⟨B, (b.Cells.flatMap eN0)⟩ :: ⟨(aD 0), [vi 1, vi 0, vi 0, vi 0, vi 2]⟩ :: ((D.flatMap eN1) ++ [])) := ST.subR hS3 (subc (mAr _ (mt 0)) (subc (mAr _ (mt 1)) (suba (fun r h => mAl _ (app_mem (fun _ h => mOd (i := 0) (mAl _ h)) h)) (fun _ h => by cases h))))
  refine sQ 11 (ym (.tuple #[.slice B1 r_3.length c1, .slice B2 r_4.length c2])) <| sQ 13 (ye (.slice B1 r_3.length c1)) <| sQ 14 (ye (.slice B2 r_4.length c2)) <| sQ 4 (yg (.slice B1 r_3.length c1)) <| sQ 5 (yg (.slice B2 r_4.length c2)) (rn (cq (cq (cr ?_))))
  refine sQ 15 (ym (.slice B2 r_4.length c2)) <| sQ 16 (Y_len (B := B2) (m := r_4.length) (c := c2) K41 rfl rfl) <| sQ 17 (ym (vi 0)) (rn ?_)
  obtain ⟨hN, hF2⟩ := chk_inv hF2
  obtain ⟨z, hz, hF3⟩ := bI hF2
  refine cw_block ?_
  refine cw_loop (fun k f w => ∃ (i : Nat) (D1 : List (Hd × (List TDyadic))), FF f [(1, pt (aD b1) 0), (15, .slice B2 r_4.length c2), (16, vi (r_4.length : Int)), (17, vi (i : Int))] ∧ D1.map Prod.snd = r_4 ∧ Org w0 [] [⟨B, (b.Cells.flatMap eN0)⟩, ⟨(aD 0), [vi 1, vi 0, vi 0, vi 0, vi 2]⟩] (D1.flatMap eN1) ∧ ST w0 [] w [⟨aD b1, 29, kB_ b B c, 1⟩, ⟨B2, 24, (D1.flatMap eN3), c2 * 1⟩] (⟨B, (b.Cells.flatMap eN0)⟩ :: ⟨(aD 0), [vi 1, vi 0, vi 0, vi 0, vi 2]⟩ :: ((D1.flatMap eN1) ++ [])) ∧ i + k = r_4.length ∧ forX (F_impl_CliffordIndex_l1 r_4 b) k i () = some z) r_4.length ⟨0, D, (fc rfl (fc rfl (fc rfl (fc rfl fn_)))), hD, (org_sub ho1 (fun _ h => mOd (i := 0) (mAl _ h))), (hS4.sel [0, 2] rfl rfl), Nat.zero_add _, hz⟩ ?_
  rintro k_ f w ⟨i, D1, hf, hD1, ho2, hS5, hik, hL⟩
  refine cq (cr ?_)
  refine sQ 18 (yL (i : Int) (r_4.length : Int) rfl (hf.g 17 3) (hf.g 16 2)) (rn (cq ?_))
  refine cw_cond (b := (decide ((i : Int) < (r_4.length : Int)))) rfl (fun hlt => ?_) (fun hlt => ?_)
  ·skip
   have hlt1 : i < r_4.length := by have h := of_decide_eq_true hlt; omega
   obtain ⟨K9, rfl⟩ : ∃ k2, k_ = k2 + 1 := ⟨k_ - 1, by omega⟩
   obtain ⟨y, hb1, hL1⟩ := forX_go hL
   unfold F_impl_CliffordIndex_l1 at hb1
   refine cw_skip (cq (cw_block (cq (cr ?_))))
   refine sQ 19 (ym (vi (i : Int)) rfl (hf.g 17 3)) ?_
   obtain ⟨x, hx, hb1⟩ := bI hb1
   obtain ⟨⟨B3, c3⟩, hp⟩ := getI_snd hD1 hx
   refine sQ 20 (Y_index (B := B2) (m := r_4.length) (c := c2) (k := .i64) (i := (i : Int)) K41 K8 rfl (hf.g 15 1) (hf.g 17 3) (gi_isSome encD_SDyadic_len rfl (hS5.c 1) hp) (getI_nn hp) (getI_ltI hp (dl_len hD1))) ?_
   have hm : (⟨B3, (x.flatMap eN0)⟩ : Ro) ∈ ((⟨B, (b.Cells.flatMap eN0)⟩ :: ⟨(aD 0), [vi 1, vi 0, vi 0, vi 0, vi 2]⟩ :: ((D1.flatMap eN1) ++ [])) : List Ro) := app_mem (fun r_ (h : r_ ∈ ((D1.flatMap eN1) : List Ro)) => mOd (i := 2) (show r_ ∈ ((((D1.flatMap eN1) ++ [])) : List Ro) from mAl _ h)) (row_mem (rw_ := eN1) hp _ (mt 0))
   have hS6 : ST w0 [] _ [⟨aD b1, 29, kB_ b B c, 1⟩, ⟨B2, 24, (D1.flatMap eN3), c2 * 1⟩] (⟨B3, (x.flatMap eN0)⟩ :: ⟨B, (b.Cells.flatMap eN0)⟩ :: ⟨(aD 0), [vi 1, vi 0, vi 0, vi 0, vi 2]⟩ :: ((D1.flatMap eN1) ++ [])) := ST.subR hS5 (subc hm (fun _ h => h))
   refine sQ 21 (yl B2 ((i : Int).toNat * 1) (D1.flatMap eN3) (.slice B3 x.length c3) K12 (hS6.c 1) rfl rfl (gi_at0 encD_SDyadic_len hp rfl)) <| sQ 6 (yg (vi (i : Int))) <| sQ 7 (yg (.slice B3 x.length c3)) (rn (cq (cr ?_)))
   refine sQ 22 (ym (.slice B3 x.length c3)) <| sQ 23 (yd (aD b1) 0 0 K18 K8 rfl (hf.g 1 0)) <| sQ 24 (yl (aD b1) 0 (kB_ b B c) (.slice B b.Cells.length c) K12 (hS6.c 0)) ?_
   obtain ⟨r_5, hc2, hb1⟩ := bI hb1
   refine sc 25 rfl rfl (yC [.slice B3 x.length c3, .slice B b.Cells.length c] K125 (c_slices_Equal_impl_Dyadic_impl_Dyadic x b.Cells B3 c3 x.length B c b.Cells.length _ rfl rfl (hS6.inn0 [(true, 0), (true, 1)] rfl) hc2)) ?_
   rintro _ w_3 ⟨rfl, hd2⟩
   have hS7 := hS6.out00 hd2
   refine rn ?_
   refine cw_cond (b := r_5) rfl (fun hb2 => ?_) (fun hb2 => ?_)
   ·skip
    have hF4 := ct hb1 hb2
    refine cq (cr ?_)
    refine sQ 26 (ym (vi (i : Int))) <| sQ 2 (yg (vi (i : Int))) <| sQ 3 (yg (.bool true)) (rn (ct_ ?_))
    obtain rfl := sI hF4
    obtain rfl := sI hL1
    obtain ⟨rfl, rfl⟩ := pr2 (sI hF3)
    exact ret2 Tryz.results13 (v1 := vi (i : Int)) (resAt_tmp rfl) (v2 := .bool true) (resAt_tmp rfl) ⟨rfl, (hS7.sN [])⟩
   ·skip
    have hF5 := cf' hb1 hb2
    refine cw_skip (cr ?_)
    refine sQ 27 (yP (i : Int) 1 rfl (hf.g 17 3)) <| sQ 17 (ym (vi (i64.wrap ((i : Int) + 1)))) (rn ?_)
    obtain rfl := sI hF5
    have hS8 : ST w0 [] _ [⟨aD b1, 29, kB_ b B c, 1⟩, ⟨B2, 24, (D1.flatMap eN3), c2 * 1⟩] (⟨B, (b.Cells.flatMap eN0)⟩ :: ⟨(aD 0), [vi 1, vi 0, vi 0, vi 0, vi 2]⟩ :: ((D1.flatMap eN1) ++ [])) := ST.subR hS7 (sk 1 (sk 2 (suba (fun r_ (h : r_ ∈ ((D1.flatMap eN1) : List Ro)) => mOd (i := 3) (show r_ ∈ ((((D1.flatMap eN1) ++ [])) : List Ro) from mAl _ h)) (fun _ h => by cases h))))
    exact ⟨K9, Nat.lt_succ_self _, i + 1, D1, (fc (hf.g 1 0) (fc (hf.g 15 1) (fc (hf.g 16 2) (fc (congrArg (Value.int .i64) (wr_succ hlt1 hN)) fn_)))), hD1, ho2, (hS8.sel [0, 1] rfl rfl), (by omega), hL1⟩
  ·skip
   obtain rfl : k_ = 0 := by have h := of_decide_eq_false hlt; omega
   refine cw_exit rfl ?_
   obtain rfl := sI hL
   refine cq (cr ?_)
   refine sQ 2 (yg (vi 0)) <| sQ 3 (yg (.bool false)) (rn (ct_ ?_))
   obtain ⟨rfl, rfl⟩ := pr2 (sI hF3)
   exact ret2 Tryz.results13 (v1 := vi 0) (resAt_tmp rfl) (v2 := .bool false) (resAt_tmp rfl) ⟨rfl, (hS5.sN [])⟩

theorem c_spec_l1Cur_next (c : Tl1Cur) (B : Option Addr) (B1 : Option Addr) (c1 n : Nat) (w0 : World) (hn : c.code.length = n) (hS : ST w0 (bl [⟨B, 73, [.slice B1 n c1, vi c.at_, .int .u64 c.seed], 3⟩]) w0 [⟨B, 73, [.slice B1 n c1, vi c.at_, .int .u64 c.seed], 3⟩] [⟨B1, (c.code.flatMap enc_u8)⟩]) {r_ : Int} {m : Tl1Cur} (hF : F_spec_l1Cur_next c = some (r_, m)) :
  CV Tryz.prog 75 #[pt B 0] w0 (fun v w' => v = vi r_ ∧ ST w0 (bl [⟨B, 73, [.slice B1 n c1, vi c.at_, .int .u64 c.seed], 3⟩]) w' [⟨B, 73, [.slice B1 n c1, vi m.at_, .int .u64 m.seed], 3⟩] []) := by
 subst hn
 unfold F_spec_l1Cur_next at hF
 refine cv_of_cw 62 Tryz.func75 rfl Tryz.ntmps75 rfl ?_
 refine cq (cr ?_)
 refine sQ 2 (yg (vi 0)) (rn (cq (cr ?_)))
 refine sQ 3 (yg (vi 0)) (rn (cq ?_))
 obtain ⟨z, hz, hF1⟩ := bI hF
 refine cw_mid (fun f w => ∃ (b : Int), b = z ∧ FF f [(0, pt B 0), (3, vi b)] ∧ ST w0 (bl [⟨B, 73, [.slice B1 c.code.length c1, vi c.at_, .int .u64 c.seed], 3⟩]) w [⟨B, 73, [.slice B1 c.code.length c1, vi c.at_, .int .u64 c.seed], 3⟩] [⟨B1, (c.code.flatMap enc_u8)⟩]) ?_ ?_
 ·skip
  refine cq ?_
  refine ra_start (hS.se [0]).fn (by kernel_rfl) ?_
  have hS2 := hS.drew
  refine rq 0 4 (v := pt B 0) rfl (hS2.se [0]) (fun w' hw' => (ym (pt B 0))) ?_
  refine rq 1 5 (v := pt B 0) rfl (hS2.se [0]) (fun w' hw' => (Y_nilCheck (B := B) (i := 0) rfl rfl)) ?_
  refine rq 2 6 (v := pt B 1) rfl (hS2.se [0]) (fun w' hw' => (yd B 0 0 K104 K2)) ?_
  refine rq 3 7 (v := vi c.at_) rfl (hS2.se [0]) (fun w' hw' => (yl B 1 [.slice B1 c.code.length c1, vi c.at_, .int .u64 c.seed] (vi c.at_) K1 (ST.cf hw' (i := 0) rfl))) ?_
  refine rq 4 8 (v := pt B 0) rfl (hS2.se [0]) (fun w' hw' => (ym (pt B 0))) ?_
  refine rq 5 9 (v := pt B 0) rfl (hS2.se [0]) (fun w' hw' => (Y_nilCheck (B := B) (i := 0) rfl rfl)) ?_
  refine rq 6 10 (v := pt B 0) rfl (hS2.se [0]) (fun w' hw' => (yd B 0 0 K128 K129)) ?_
  refine rq 7 11 (v := .slice B1 c.code.length c1) rfl (hS2.se [0]) (fun w' hw' => (yl B 0 [.slice B1 c.code.length c1, vi c.at_, .int .u64 c.seed] (.slice B1 c.code.length c1) K130 (ST.cf hw' (i := 0) rfl))) ?_
  refine rq 8 12 (v := vi (c.code.length : Int)) rfl (hS2.se [0]) (fun w' hw' => (Y_len (B := B1) (m := c.code.length) (c := c1) K60 rfl rfl)) ?_
  refine rq 9 13 (v := .bool (decide (c.at_ < (c.code.length : Int)))) rfl (hS2.se [0]) (fun w' hw' => (yL c.at_ (c.code.length : Int))) ?_
  refine ra_done (by kernel_rfl) ?_
  refine cw_cond (b := (decide (c.at_ < (c.code.length : Int)))) rfl (fun hb => ?_) (fun hb => ?_)
  ·skip
   have hF2 := ct hz hb
   obtain ⟨x, hx, hF2⟩ := bI hF2
   refine ra_start (hS2.se [0]).fn (by kernel_rfl) ?_
   have hS3 := hS2.drew
   refine rq 0 14 (v := pt B 0) rfl (hS3.se [0]) (fun w' hw' => (ym (pt B 0))) ?_
   refine rq 1 15 (v := pt B 0) rfl (hS3.se [0]) (fun w' hw' => (Y_nilCheck (B := B) (i := 0) rfl rfl)) ?_
   refine rq 2 16 (v := pt B 0) rfl (hS3.se [0]) (fun w' hw' => (yd B 0 0 K128 K129)) ?_
   refine rq 3 17 (v := .slice B1 c.code.length c1) rfl (hS3.se [0]) (fun w' hw' => (yl B 0 [.slice B1 c.code.length c1, vi c.at_, .int .u64 c.seed] (.slice B1 c.code.length c1) K130 (ST.cf hw' (i := 0) rfl))) ?_
   refine rq 4 18 (v := pt B 0) rfl (hS3.se [0]) (fun w' hw' => (ym (pt B 0))) ?_
   refine rq 5 19 (v := pt B 0) rfl (hS3.se [0]) (fun w' hw' => (Y_nilCheck (B := B) (i := 0) rfl rfl)) ?_
   refine rq 6 20 (v := pt B 1) rfl (hS3.se [0]) (fun w' hw' => (yd B 0 0 K104 K2)) ?_
   refine rq 7 21 (v := vi c.at_) rfl (hS3.se [0]) (fun w' hw' => (yl B 1 [.slice B1 c.code.length c1, vi c.at_, .int .u64 c.seed] (vi c.at_) K1 (ST.cf hw' (i := 0) rfl))) ?_
   refine rq 8 22 (v := pt B1 (c.at_.toNat * 1)) rfl (hS3.se [0]) (fun w' hw' => (Y_index (B := B1) (m := c.code.length) (c := c1) (k := .i64) (i := c.at_) K60 K116 rfl rfl rfl (gi_isSome enc_u8_len rfl (ST.rf hw' (i := 0) rfl) hx) (getI_nn hx) (getI_ltI hx rfl))) ?_
   refine rq 9 23 (v := .int .u8 x) rfl (hS3.se [0]) (fun w' hw' => (yl B1 (c.at_.toNat * 1) (c.code.flatMap enc_u8) (.int .u8 x) k_sc_5 (ST.rf hw' (i := 0) rfl) rfl rfl (gi_at0 enc_u8_len hx rfl))) ?_
   refine rq 10 24 (v := vi (i64.wrap x)) rfl (hS3.se [0]) (fun w' hw' => (Y_conv (k := .u8) (a := x) (T := 5) (T' := 3) k_us_5 K19 rfl rfl)) ?_
   refine rq 11 3 (v := vi (i64.wrap x)) rfl (hS3.se [0]) (fun w' hw' => (yg (vi (i64.wrap x)))) ?_
   refine ra_done (by kernel_rfl) ?_
   exact ⟨(i64.wrap x), (sI hF2), (fc rfl (fc rfl fn_)), (hS3.sel [0] rfl rfl)⟩
  ·skip
   have hF3 := cf' hz hb
   refine cw_skip ?_
   exact ⟨0, (sI hF3), (fc rfl (fc rfl fn_)), (hS2.sel [0] rfl rfl)⟩
 rintro f w ⟨b, rfl, hf, hS1⟩
 refine cq (cr ?_)
 refine sQ 25 (ym (pt B 0) rfl (hf.g 0 0)) <| sQ 26 (Y_nilCheck (B := B) (i := 0) rfl rfl) <| sQ 27 (yd B 0 0 K104 K2) <| sQ 28 (yl B 1 [.slice B1 c.code.length c1, vi c.at_, .int .u64 c.seed] (vi c.at_) K1 (hS1.c 0)) <| sQ 29 (yP c.at_ 1) <| sQ 30 (Y_nilCheck (B := B) (i := 0) rfl rfl) ?_
 refine sQ 31 (yd B 0 0 K104 K2) ?_
 refine s0 (yS 0 1 B 73 (vi (i64.wrap (c.at_ + 1))) [vi (i64.wrap (c.at_ + 1))] 1 [.slice B1 c.code.length c1, vi (i64.wrap (c.at_ + 1)), .int .u64 c.seed] hS1 K2) ?_
 rintro _ w_ ⟨rfl, hS4⟩
 refine rn (cq (cr ?_))
 refine sQ 32 (ym (pt B 0) rfl (hf.g 0 0)) <| sQ 33 (ym (pt B 0) rfl (hf.g 0 0)) <| sQ 34 (Y_nilCheck (B := B) (i := 0) rfl rfl) <| sQ 35 (yd B 0 0 K131 K117) <| sQ 36 (yl B 2 [.slice B1 c.code.length c1, vi (i64.wrap (c.at_ + 1)), .int .u64 c.seed] (.int .u64 c.seed) k_sc_71 (hS4.c 0)) <| sQ 37 (Y_mul (k := .u64) (a := c.seed) (b := 6364136223846793005) rfl rfl rfl) ?_
 refine sQ 38 (ym (vi b) rfl (hf.g 3 1)) <| sQ 39 (Y_conv (k := .i64) (a := b) (T := 3) (T' := 71) K64 k_int_71_u64 rfl rfl) <| sQ 40 (Y_add (k := .u64) (a := (IntKind.u64.wrap (c.seed * 6364136223846793005))) (b := (IntKind.u64.wrap b)) rfl rfl rfl) <| sQ 41 (Y_add (k := .u64) (a := (IntKind.u64.wrap ((IntKind.u64.wrap (c.seed * 6364136223846793005)) + (IntKind.u64.wrap b)))) (b := 1442695040888963407) rfl rfl rfl) <| sQ 42 (Y_nilCheck (B := B) (i := 0) rfl rfl) <| sQ 43 (yd B 0 0 K131 K117) ?_
 refine s0 (yS 0 1 B 73 (.int .u64 (IntKind.u64.wrap ((IntKind.u64.wrap ((IntKind.u64.wrap (c.seed * 6364136223846793005)) + (IntKind.u64.wrap b))) + 1442695040888963407))) [.int .u64 (IntKind.u64.wrap ((IntKind.u64.wrap ((IntKind.u64.wrap (c.seed * 6364136223846793005)) + (IntKind.u64.wrap b))) + 1442695040888963407))] 2 [.slice B1 c.code.length c1, vi (i64.wrap (c.at_ + 1)), .int .u64 (IntKind.u64.wrap ((IntKind.u64.wrap ((IntKind.u64.wrap (c.seed * 6364136223846793005)) + (IntKind.u64.wrap b))) + 1442695040888963407))] hS4 K117) ?_
 rintro _ w_1 ⟨rfl, hS5⟩
 refine rn (cq (cq ?_))
 refine ra_start (hS5.se [0]).fn (by kernel_rfl) ?_
 have hS6 := hS5.drew
 refine rq 0 44 (v := pt B 0) rfl (hS6.se [0]) (fun w' hw' => (ym (pt B 0) rfl (hf.g 0 0))) ?_
 refine rq 1 45 (v := pt B 0) rfl (hS6.se [0]) (fun w' hw' => (Y_nilCheck (B := B) (i := 0) rfl rfl)) ?_
 refine rq 2 46 (v := pt B 1) rfl (hS6.se [0]) (fun w' hw' => (yd B 0 0 K104 K2)) ?_
 refine rq 3 47 (v := vi (i64.wrap (c.at_ + 1))) rfl (hS6.se [0]) (fun w' hw' => (yl B 1 [.slice B1 c.code.length c1, vi (i64.wrap (c.at_ + 1)), .int .u64 (IntKind.u64.wrap ((IntKind.u64.wrap ((IntKind.u64.wrap (c.seed * 6364136223846793005)) + (IntKind.u64.wrap b))) + 1442695040888963407))] (vi (i64.wrap (c.at_ + 1))) K1 (ST.cf hw' (i := 0) rfl))) ?_
 refine rq 4 48 (v := pt B 0) rfl (hS6.se [0]) (fun w' hw' => (ym (pt B 0) rfl (hf.g 0 0))) ?_
 refine rq 5 49 (v := pt B 0) rfl (hS6.se [0]) (fun w' hw' => (Y_nilCheck (B := B) (i := 0) rfl rfl)) ?_
 refine rq 6 50 (v := pt B 0) rfl (hS6.se [0]) (fun w' hw' => (yd B 0 0 K128 K129)) ?_
 refine rq 7 51 (v := .slice B1 c.code.length c1) rfl (hS6.se [0]) (fun w' hw' => (yl B 0 [.slice B1 c.code.length c1, vi (i64.wrap (c.at_ + 1)), .int .u64 (IntKind.u64.wrap ((IntKind.u64.wrap ((IntKind.u64.wrap (c.seed * 6364136223846793005)) + (IntKind.u64.wrap b))) + 1442695040888963407))] (.slice B1 c.code.length c1) K130 (ST.cf hw' (i := 0) rfl))) ?_
 refine rq 8 52 (v := vi (c.code.length : Int)) rfl (hS6.se [0]) (fun w' hw' => (Y_len (B := B1) (m := c.code.length) (c := c1) K60 rfl rfl)) ?_
 refine rq 9 53 (v := .bool (decide ((i64.wrap (c.at_ + 1)) ≤ (c.code.length : Int)))) rfl (hS6.se [0]) (fun w' hw' => (Y_le (k := .i64) (a := (i64.wrap (c.at_ + 1))) (b := (c.code.length : Int)) rfl rfl rfl)) ?_
 refine ra_done (by kernel_rfl) ?_
 refine cw_cond (b := (decide ((i64.wrap (c.at_ + 1)) ≤ (c.code.length : Int)))) rfl (fun hb1 => ?_) (fun hb1 => ?_)
 ·skip
  have hF4 := ct hF1 hb1
  refine cq (cr ?_)
  refine sQ 54 (ym (vi b) rfl (hf.g 3 1)) <| sQ 2 (yg (vi b)) (rn (ct_ ?_))
  obtain ⟨rfl, rfl⟩ := pr2 (sI hF4)
  exact ret1 Tryz.results75 (v1 := vi b) (resAt_tmp rfl) ⟨rfl, (hS6.sN [0])⟩
 ·skip
  have hF5 := cf' hF1 hb1
  refine cw_skip (cq (cr ?_))
  refine sQ 55 (ym (pt B 0) rfl (hf.g 0 0)) <| sQ 56 (Y_nilCheck (B := B) (i := 0) rfl rfl) <| sQ 57 (yd B 0 0 K131 K117) <| sQ 58 (yl B 2 [.slice B1 c.code.length c1, vi (i64.wrap (c.at_ + 1)), .int .u64 (IntKind.u64.wrap ((IntKind.u64.wrap ((IntKind.u64.wrap (c.seed * 6364136223846793005)) + (IntKind.u64.wrap b))) + 1442695040888963407))] (.int .u64 (IntKind.u64.wrap ((IntKind.u64.wrap ((IntKind.u64.wrap (c.seed * 6364136223846793005)) + (IntKind.u64.wrap b))) + 1442695040888963407))) k_sc_71 (hS6.c 0)) <| sQ 59 (Y_shr (k := .u64) (a := (IntKind.u64.wrap ((IntKind.u64.wrap ((IntKind.u64.wrap (c.seed * 6364136223846793005)) + (IntKind.u64.wrap b))) + 1442695040888963407))) (k' := .u64) (b := 40) rfl rfl rfl (by decide)) <| sQ 60 (Y_band (k := .u64) (a := (shrK .u64 (IntKind.u64.wrap ((IntKind.u64.wrap ((IntKind.u64.wrap (c.seed * 6364136223846793005)) + (IntKind.u64.wrap b))) + 1442695040888963407)) 40)) (b := 255) rfl rfl rfl) ?_
  refine sQ 61 (Y_conv (k := .u64) (a := (bits .and .u64 (shrK .u64 (IntKind.u64.wrap ((IntKind.u64.wrap ((IntKind.u64.wrap (c.seed * 6364136223846793005)) + (IntKind.u64.wrap b))) + 1442695040888963407)) 40) 255)) (T := 71) (T' := 3) k_us_71 K19 rfl rfl) <| sQ 2 (yg (vi (i64.wrap (bits .and .u64 (shrK .u64 (IntKind.u64.wrap ((IntKind.u64.wrap ((IntKind.u64.wrap (c.seed * 6364136223846793005)) + (IntKind.u64.wrap b))) + 1442695040888963407)) 40) 255)))) (rn (ct_ ?_))
  obtain ⟨rfl, rfl⟩ := pr2 (sI hF5)
  exact ret1 Tryz.results75 (v1 := vi (i64.wrap (bits .and .u64 (shrK .u64 (IntKind.u64.wrap ((IntKind.u64.wrap ((IntKind.u64.wrap (c.seed * 6364136223846793005)) + (IntKind.u64.wrap b))) + 1442695040888963407)) 40) 255))) (resAt_tmp rfl) ⟨rfl, (hS6.sN [0])⟩

theorem c_spec_l1Cur_pick (c : Tl1Cur) (n1 : Int) (B : Option Addr) (B1 : Option Addr) (c1 n : Nat) (w0 : World) (hn : c.code.length = n) (hS : ST w0 (bl [⟨B, 73, [.slice B1 n c1, vi c.at_, .int .u64 c.seed], 3⟩]) w0 [⟨B, 73, [.slice B1 n c1, vi c.at_, .int .u64 c.seed], 3⟩] [⟨B1, (c.code.flatMap enc_u8)⟩]) {r_ : Int} {m : Tl1Cur} (hF : F_spec_l1Cur_pick c n1 = some (r_, m)) :
  CV Tryz.prog 35 #[pt B 0, vi n1] w0 (fun v w' => v = vi r_ ∧ ST w0 (bl [⟨B, 73, [.slice B1 n c1, vi c.at_, .int .u64 c.seed], 3⟩]) w' [⟨B, 73, [.slice B1 n c1, vi m.at_, .int .u64 m.seed], 3⟩] []) := by
 subst hn
 unfold F_spec_l1Cur_pick at hF
 refine cv_of_cw 20 Tryz.func35 rfl Tryz.ntmps35 rfl ?_
 refine cq (cr ?_)
 refine sQ 4 (yg (vi 0)) (rn (cq (cq (cr ?_))))
 refine sQ 6 (ym (vi n1)) <| sQ 7 (Y_le (k := .i64) (a := n1) (b := 1) rfl rfl rfl) (rn ?_)
 refine cw_cond (b := (decide (n1 ≤ 1))) rfl (fun hb => ?_) (fun hb => ?_)
 ·skip
  have hF1 := ct hF hb
  refine cq (cr ?_)
  refine sQ 4 (yg (vi 0)) (rn (ct_ ?_))
  obtain ⟨rfl, rfl⟩ := pr2 (sI hF1)
  exact ret1 Tryz.results35 (v1 := vi 0) (resAt_tmp rfl) ⟨rfl, (hS.sN [0])⟩
 ·skip
  have hF2 := cf' hF hb
  refine cw_skip (cq (cr ?_))
  refine sQ 8 (ym (pt B 0)) ?_
  obtain ⟨⟨r_1, m1⟩, hc, hF2⟩ := bI hF2
  refine sc 9 rfl rfl (yC [pt B 0] k_call_75 (c_spec_l1Cur_next c B B1 c1 c.code.length _ rfl (hS.inn [true] rfl [(true, 0)] rfl) hc)) ?_
  rintro _ w_ ⟨rfl, hd⟩
  have hS1 := hS.out [true] rfl hd
  refine sQ 5 (yg (vi r_1)) (rn (cq ?_))
  obtain ⟨z, hz, hF3⟩ := bI hF2
  refine cw_mid (fun f w => ∃ (at_ : Int) (seed : Int) (x : Int), (at_, seed, x) = z ∧ FF f [(1, vi n1), (5, vi x)] ∧ ST w0 (bl [⟨B, 73, [.slice B1 c.code.length c1, vi c.at_, .int .u64 c.seed], 3⟩]) w [⟨B, 73, [.slice B1 c.code.length c1, vi at_, .int .u64 seed], 3⟩] [⟨B1, (c.code.flatMap enc_u8)⟩]) ?_ ?_
  ·skip
   refine cq (cr ?_)
   refine sQ 10 (ym (vi n1)) <| sQ 11 (Y_gt (k := .i64) (a := n1) (b := 200) rfl rfl rfl) (rn ?_)
   refine cw_cond (b := (decide (200 < n1))) rfl (fun hb1 => ?_) (fun hb1 => ?_)
   ·skip
    have hF4 := ct hz hb1
    refine cr ?_
    refine sQ 12 (ym (vi r_1)) <| sQ 13 (yX r_1 256) <| sQ 14 (ym (pt B 0)) ?_
    obtain ⟨⟨r_2, m2⟩, hc1, hF4⟩ := bI hF4
    refine sc 15 rfl rfl (yC [pt B 0] k_call_75 (c_spec_l1Cur_next (Tl1Cur.mk c.code m1.at_ m1.seed) B B1 c1 c.code.length _ rfl (hS1.inn [true] rfl [(true, 0)] rfl) hc1)) ?_
    rintro _ w_1 ⟨rfl, hd1⟩
    have hS3 := hS1.out [true] rfl hd1
    refine sQ 16 (yP (i64.wrap (r_1 * 256)) r_2) <| sQ 5 (yg (vi (i64.wrap ((i64.wrap (r_1 * 256)) + r_2)))) (rn ?_)
    exact ⟨m2.at_, m2.seed, (i64.wrap ((i64.wrap (r_1 * 256)) + r_2)), (sI hF4), (fc rfl (fc rfl fn_)), (hS3.sel [0] rfl rfl)⟩
   ·skip
    have hF5 := cf' hz hb1
    refine cw_skip ?_
    exact ⟨m1.at_, m1.seed, r_1, (sI hF5), (fc rfl (fc rfl fn_)), (hS1.sel [0] rfl rfl)⟩
  rintro f w ⟨at_, seed, x, rfl, hf, hS2⟩
  refine cq (cr ?_)
  refine sQ 17 (ym (vi x) rfl (hf.g 5 1)) <| sQ 18 (ym (vi n1) rfl (hf.g 1 0)) ?_
  obtain ⟨hne, hF3⟩ := chk_inv hF3
  refine sQ 19 (Y_rem (k := .i64) (a := x) (b := n1) rfl rfl rfl hne) <| sQ 4 (yg (vi (Int.tmod x n1))) (rn (ct_ ?_))
  obtain ⟨rfl, rfl⟩ := pr2 (sI hF3)
  exact ret1 Tryz.results35 (v1 := vi (Int.tmod x n1)) (resAt_tmp rfl) ⟨rfl, (hS2.sN [0])⟩

theorem c_spec_DrawCliffordWord (code : List Int) (B : Option Addr) (c n : Nat) (w0 : World) (hn : code.length = n) (hS : ST w0 [] w0 [] [⟨B, (code.flatMap enc_u8)⟩]) {r_ : Int} (hF : F_spec_DrawCliffordWord code = some r_) :
  CV Tryz.prog 14 #[.slice B n c] w0 (fun v w' => v = vi r_ ∧ ST w0 [] w' [] []) := by
 subst hn
 unfold F_spec_DrawCliffordWord at hF
 refine cv_of_cw 10 Tryz.func14 rfl Tryz.ntmps14 rfl ?_
 refine cq (cr ?_)
 refine sQ 2 (yg (vi 0)) (rn (cq (cr ?_)))
 refine sQ 4 (ym (.slice B code.length c)) <| sQ 5 (Y_buildS (zs := [.slice none 0 0, vi 0, .int .u64 0]) (vs := [(0, .slice B code.length c)]) (cs := [.slice B code.length c, vi 0, .int .u64 0]) k_pl_73 k_zero_73 rfl (mpc rfl mpn) rfl) ?_
 refine sS 6 (yB 73 (.agg #[.slice B code.length c, vi 0, .int .u64 0]) [.slice B code.length c, vi 0, .int .u64 0] 3 hS) ?_
 rintro _ w_ ⟨b, rfl, hS1⟩
 refine sQ 3 (yg (pt (aD b) 0)) (rn (cq (cr ?_)))
 refine sQ 7 (ym (pt (aD b) 0)) ?_
 obtain ⟨⟨r_1, m⟩, hc, hF⟩ := bI hF
 refine sc 8 rfl rfl (yC [pt (aD b) 0, vi 26] K50 (c_spec_l1Cur_pick (Tl1Cur.mk code 0 0) 26 (aD b) B c code.length _ rfl (hS1.inn [true] rfl [(true, 0)] rfl) hc)) ?_
 rintro _ w_1 ⟨rfl, hd⟩
 have hS2 := hS1.out [true] rfl hd
 refine sQ 9 (yM r_1 1) <| sQ 2 (yg (vi (i64.wrap (r_1 - 1)))) (rn (ct_ ?_))
 obtain rfl := sI hF
 exact ret1 Tryz.results14 (v1 := vi (i64.wrap (r_1 - 1))) (resAt_tmp rfl) ⟨rfl, (hS2.sN [])⟩

theorem c_impl_CliffordWord (k_ : Int)  (w0 : World)  (hS : ST w0 [] w0 [] [⟨(aD 0), [vi 1, vi 0, vi 0, vi 0, vi 2]⟩]) {r_ : List UInt8} {r_1 : Bool} (hF : F_impl_CliffordWord k_ = some (r_, r_1)) :
  CV Tryz.prog 15 #[vi k_] w0 (fun v w' => v = .tuple #[.string (bstr r_), .bool r_1] ∧ ST w0 [] w' [] []) := by
 unfold F_impl_CliffordWord at hF
 refine cv_of_cw 20 Tryz.func15 rfl Tryz.ntmps15 rfl ?_
 refine cq (cr ?_)
 refine sQ 2 (yg (.string (bstr ([] : List UInt8)))) <| sQ 3 (yg (.bool false)) (rn (cq (cr ?_)))
 obtain ⟨⟨r_2, r_3⟩, hc, hF⟩ := bI hF
 refine sc 7 rfl rfl (yC [] k_call_33 (c_impl_cliffordList  _  (hS.inn0 [(true, 0)] rfl) hc)) ?_
 rintro _ w_ ⟨B, c, B1, c1, D, rfl, hD, ho, hd⟩
 have hS1 := ST.outR0 hS hd ho (sk 0 (fun _ h => by cases h))
 have ho1 : Org w0 [] [⟨(aD 0), [vi 1, vi 0, vi 0, vi 0, vi 2]⟩] (((D.flatMap eN1) ++ [])) := org_trans0 hS ho (org_cons (org_mem (i := 0) rfl) org_nil)
 have hS2 : ST w0 [] _ [⟨B, 9, (r_2.flatMap encS), c * 1⟩, ⟨B1, 24, (D.flatMap eN3), c1 * 1⟩] (⟨(aD 0), [vi 1, vi 0, vi 0, vi 0, vi 2]⟩ :: ((D.flatMap eN1) ++ [])) := ST.subR hS1 (subc (mAr _ (mt 0)) (suba (fun r h => mAl _ (app_mem (fun _ h => mOd (i := 0) (mAl _ h)) h)) (fun _ h => by cases h)))
 refine sQ 6 (ym (.tuple #[.slice B r_2.length c, .slice B1 r_3.length c1])) <| sQ 8 (ye (.slice B r_2.length c)) <| sQ 9 (ye (.slice B1 r_3.length c1)) <| sQ 4 (yg (.slice B r_2.length c)) <| sQ 5 (yg (.slice B1 r_3.length c1)) (rn (cq (cq (cr ?_))))
 refine sQ 10 (ym (vi k_)) <| sQ 11 (ym (.slice B r_2.length c)) <| sQ 12 (Y_len (B := B) (m := r_2.length) (c := c) K34 rfl rfl) <| sQ 13 (yM (r_2.length : Int) 1) ?_
 obtain ⟨r_4, hc1, hF⟩ := bI hF
 refine sc 14 rfl rfl (yC [vi k_, vi 0, vi (i64.wrap ((r_2.length : Int) - 1))] K51 (c_impl_within k_ 0 (i64.wrap ((r_2.length : Int) - 1)) _  (hS2.inn0 [] rfl) hc1)) ?_
 rintro _ w_1 ⟨rfl, hd1⟩
 have hS3 := hS2.out00 hd1
 refine sQ 15 (Y_not (p := r_4) rfl rfl) (rn ?_)
 refine cw_cond (b := (!r_4)) rfl (fun hb => ?_) (fun hb => ?_)
 ·skip
  have hF1 := ct hF hb
  refine cq (cr ?_)
  refine sQ 2 (yg (.string (bstr ([] : List UInt8)))) <| sQ 3 (yg (.bool false)) (rn (ct_ ?_))
  obtain ⟨rfl, rfl⟩ := pr2 (sI hF1)
  exact ret2 Tryz.results15 (v1 := .string (bstr ([] : List UInt8))) (resAt_tmp rfl) (v2 := .bool false) (resAt_tmp rfl) ⟨rfl, (hS3.sN [])⟩
 ·skip
  have hF2 := cf' hF hb
  refine cw_skip (cq (cr ?_))
  refine sQ 16 (ym (.slice B r_2.length c)) <| sQ 17 (ym (vi k_)) ?_
  obtain ⟨x, hx, hF2⟩ := bI hF2
  refine sQ 18 (Y_index (B := B) (m := r_2.length) (c := c) (k := .i64) (i := k_) K34 K40 rfl rfl rfl (gi_isSome encS_len rfl (hS3.c 0) hx) (getI_nn hx) (getI_ltI hx rfl)) <| sQ 19 (yl B (k_.toNat * 1) (r_2.flatMap encS) (.string (bstr x)) K97 (hS3.c 0) rfl rfl (gi_at0 encS_len hx rfl)) <| sQ 2 (yg (.string (bstr x))) <| sQ 3 (yg (.bool true)) (rn (ct_ ?_))
  obtain ⟨rfl, rfl⟩ := pr2 (sI hF2)
  exact ret2 Tryz.results15 (v1 := .string (bstr x)) (resAt_tmp rfl) (v2 := .bool true) (resAt_tmp rfl) ⟨rfl, (hS3.sN [])⟩

theorem c_spec_l6Bit (n : Int) (k_ : Int) (q : Int)  (w0 : World)  (hS : ST w0 [] w0 [] []) {r_ : Int} (hF : F_spec_l6Bit n k_ q = some r_) :
  CV Tryz.prog 146 #[vi n, vi k_, vi q] w0 (fun v w' => v = vi r_ ∧ ST w0 [] w' [] []) := by
 unfold F_spec_l6Bit at hF
 refine cv_of_cw 15 Tryz.func146 rfl Tryz.ntmps146 rfl ?_
 refine cq (cr ?_)
 refine sQ 6 (yg (vi 0)) (rn (cq (cr ?_)))
 refine sQ 7 (ym (vi k_)) <| sQ 8 (ym (vi n)) <| sQ 9 (yM n 1) <| sQ 10 (ym (vi q)) <| sQ 11 (yM (i64.wrap (n - 1)) q) <| sQ 12 (Y_conv (k := .i64) (a := (i64.wrap ((i64.wrap (n - 1)) - q))) (T := 3) (T' := 80) K64 K69 rfl rfl) ?_
 obtain ⟨hsh, hF⟩ := chk_inv hF
 refine sQ 13 (Y_shr (k := .i64) (a := k_) (k' := .u64) (b := (IntKind.u64.wrap (i64.wrap ((i64.wrap (n - 1)) - q)))) rfl rfl rfl hsh) <| sQ 14 (Y_band (k := .i64) (a := (shrK .i64 k_ (IntKind.u64.wrap (i64.wrap ((i64.wrap (n - 1)) - q))))) (b := 1) rfl rfl rfl) <| sQ 6 (yg (vi (bits .and .i64 (shrK .i64 k_ (IntKind.u64.wrap (i64.wrap ((i64.wrap (n - 1)) - q)))) 1))) (rn (ct_ ?_))
 obtain rfl := sI hF
 exact ret1 Tryz.results146 (v1 := vi (bits .and .i64 (shrK .i64 k_ (IntKind.u64.wrap (i64.wrap ((i64.wrap (n - 1)) - q)))) 1)) (resAt_tmp rfl) ⟨rfl, (hS.sN [])⟩

theorem c_spec_l6Cell (n : Int) (g : TGate) (row : Int) (col : Int)  (w0 : World)  (hS : ST w0 [] w0 [] []) {r_ : TDyadic} (hF : F_spec_l6Cell n g row col = some r_) :
  CV Tryz.prog 128 #[vi n, .agg #[vi g.Kind, vi g.A, vi g.B], vi row, vi col] w0 (fun v w' => v = (gD_ r_) ∧ ST w0 [] w' [] []) := by
 unfold F_spec_l6Cell at hF
 refine cv_of_cw 119 Tryz.func128 rfl Tryz.ntmps128 rfl ?_
 refine cq (cr ?_)
 refine sS 5 (yB 45 (.agg #[vi g.Kind, vi g.A, vi g.B]) [vi g.Kind, vi g.A, vi g.B] 3 hS) ?_
 rintro _ w_ ⟨b, rfl, hS1⟩
 refine sS 8 (yN kZ_ 5 hS1 K5) ?_
 rintro _ w_1 ⟨b1, rfl, hS2⟩
 refine rn (cq (cr ?_))
 obtain ⟨r_1, hc, hF⟩ := bI hF
 refine sc 12 rfl rfl (yC [vi 0] K56 (c_spec_l2Power 0 _  (hS2.inn0 [] rfl) hc)) ?_
 rintro _ w_2 ⟨rfl, hd⟩
 have hS3 := hS2.out00 hd
 refine sQ 13 (Y_buildS (zs := kZ_) (vs := []) (cs := kZ_) K24 K5 rfl mpn rfl) ?_
 refine sS 9 (yN kZ_ 5 hS3 K5) ?_
 rintro _ w_3 ⟨b2, rfl, hS4⟩
 refine sS 10 (yN kZ_ 5 hS4 K5) ?_
 rintro _ w_4 ⟨b3, rfl, hS5⟩
 refine s0 (yT 2 5 (aD b2) 54 (gD_ r_1) (kD_ r_1) 0 hS5 K0) ?_
 rintro _ w_5 ⟨rfl, hS6⟩
 refine s0 (yT 3 5 (aD b3) 54 gZ_ kZ_ 0 hS6 K0) ?_
 rintro _ w_6 ⟨rfl, hS7⟩
 refine rn (cq (cr ?_))
 refine sQ 14 (ym (vi col)) <| sQ 11 (yg (vi col)) (rn (cq ?_))
 obtain ⟨z, hz, hF1⟩ := bI hF
 refine cw_mid (fun f w => ∃ (A : Int) (B : Int) (C : Int) (D : Int) (Exp : Int) (to_ : Int), .inl (A, B, C, D, Exp, to_) = z ∧ FF f [(2, vi row), (8, pt (aD b1) 0), (9, pt (aD b2) 0), (10, pt (aD b3) 0), (11, vi to_)] ∧ ST w0 [] w [⟨aD b1, 54, kZ_, 5⟩, ⟨aD b2, 54, [vi A, vi B, vi C, vi D, vi Exp], 5⟩, ⟨aD b3, 54, kZ_, 5⟩] []) ?_ ?_
 ·skip
  refine cq (cr ?_)
  refine sQ 15 (yd (aD b) 0 0 K44 K2) <| sQ 16 (yl (aD b) 0 [vi g.Kind, vi g.A, vi g.B] (vi g.Kind) K1 (hS7.c 0)) (rn (cw_block (cq (cr ?_))))
  refine sQ 48 (yE g.Kind 12) <| sQ 47 (yg (.bool (g.Kind == 12))) (rn ?_)
  refine cw_cond (b := (g.Kind == 12)) rfl (fun hb => ?_) (fun hb => ?_)
  ·skip
   have hF2 := ct hz hb
   refine cr ?_
   obtain ⟨r_2, hc1, hF2⟩ := bI hF2
   refine sc 49 rfl rfl (yC [vi 1] K56 (c_spec_l2Power 1 _  (hS7.inn0 [] rfl) hc1)) ?_
   rintro _ w_7 ⟨rfl, hd1⟩
   have hS9 := hS7.out00 hd1
   refine s0 (yT 2 5 (aD b2) 54 (gD_ r_2) (kD_ r_2) 0 hS9 K0) ?_
   rintro _ w_8 ⟨rfl, hS10⟩
   refine rn ?_
   exact ⟨r_2.Num.A, r_2.Num.B, r_2.Num.C, r_2.Num.D, r_2.Exp, col, (sI hF2), (fc rfl (fc rfl (fc rfl (fc rfl (fc rfl fn_))))), (hS10.sel [1, 2, 3] rfl rfl)⟩
  ·skip
   have hF3 := cf' hz hb
   refine cq (cr ?_)
   refine sQ 51 (yE g.Kind 9) <| sQ 50 (yg (.bool (g.Kind == 9))) (rn ?_)
   refine cw_cond (b := (g.Kind == 9)) rfl (fun hb1 => ?_) (fun hb1 => ?_)
   ·skip
    have hF4 := ct hF3 hb1
    refine cq (cr ?_)
    refine sQ 52 (ym (vi n)) <| sQ 53 (ym (vi col)) <| sQ 54 (yd (aD b) 0 0 K37 K2) <| sQ 55 (yl (aD b) 1 [vi g.Kind, vi g.A, vi g.B] (vi g.A) K1 (hS7.c 0)) ?_
    obtain ⟨r_3, hc2, hF4⟩ := bI hF4
    refine sc 56 rfl rfl (yC [vi n, vi col, vi g.A] K85 (c_spec_l6Bit n col g.A _  (hS7.inn0 [] rfl) hc2)) ?_
    rintro _ w_9 ⟨rfl, hd2⟩
    have hS11 := hS7.out00 hd2
    refine sQ 57 (yE r_3 1) (rn ?_)
    refine cw_cond (b := (r_3 == 1)) rfl (fun hb2 => ?_) (fun hb2 => ?_)
    ·skip
     have hF5 := ct hF4 hb2
     refine cr ?_
     refine sQ 58 (ym (vi col)) <| sQ 59 (ym (vi n)) <| sQ 60 (yM n 1) <| sQ 61 (yd (aD b) 0 0 K42 K2) <| sQ 62 (yl (aD b) 2 [vi g.Kind, vi g.A, vi g.B] (vi g.B) K1 (hS11.c 0)) <| sQ 63 (yM (i64.wrap (n - 1)) g.B) ?_
     refine sQ 64 (Y_conv (k := .i64) (a := (i64.wrap ((i64.wrap (n - 1)) - g.B))) (T := 3) (T' := 80) K64 K69 rfl rfl) ?_
     obtain ⟨hsh, hF5⟩ := chk_inv hF5
     refine sQ 65 (Y_shl (k := .i64) (a := 1) (k' := .u64) (b := (IntKind.u64.wrap (i64.wrap ((i64.wrap (n - 1)) - g.B)))) rfl rfl rfl hsh) <| sQ 66 (Y_bxor (k := .i64) (a := col) (b := (shlK .i64 1 (IntKind.u64.wrap (i64.wrap ((i64.wrap (n - 1)) - g.B))))) rfl rfl rfl) <| sQ 11 (yg (vi (bits .xor .i64 col (shlK .i64 1 (IntKind.u64.wrap (i64.wrap ((i64.wrap (n - 1)) - g.B))))))) (rn ?_)
     exact ⟨r_1.Num.A, r_1.Num.B, r_1.Num.C, r_1.Num.D, r_1.Exp, (bits .xor .i64 col (shlK .i64 1 (IntKind.u64.wrap (i64.wrap ((i64.wrap (n - 1)) - g.B))))), (sI hF5), (fc rfl (fc rfl (fc rfl (fc rfl (fc rfl fn_))))), (hS11.sel [1, 2, 3] rfl rfl)⟩
    ·skip
     have hF6 := cf' hF4 hb2
     refine cw_skip ?_
     exact ⟨r_1.Num.A, r_1.Num.B, r_1.Num.C, r_1.Num.D, r_1.Exp, col, (sI hF6), (fc rfl (fc rfl (fc rfl (fc rfl (fc rfl fn_))))), (hS11.sel [1, 2, 3] rfl rfl)⟩
   ·skip
    have hF7 := cf' hF3 hb1
    refine cq (cr ?_)
    refine sQ 68 (yE g.Kind 10) <| sQ 67 (yg (.bool (g.Kind == 10))) (rn ?_)
    refine cw_cond (b := (g.Kind == 10)) rfl (fun hb3 => ?_) (fun hb3 => ?_)
    ·skip
     have hF8 := ct hF7 hb3
     refine cq (cr ?_)
     refine sQ 69 (ym (vi n)) <| sQ 70 (ym (vi col)) <| sQ 71 (yd (aD b) 0 0 K37 K2) <| sQ 72 (yl (aD b) 1 [vi g.Kind, vi g.A, vi g.B] (vi g.A) K1 (hS7.c 0)) ?_
     obtain ⟨r_4, hc3, hF8⟩ := bI hF8
     refine sc 73 rfl rfl (yC [vi n, vi col, vi g.A] K85 (c_spec_l6Bit n col g.A _  (hS7.inn0 [] rfl) hc3)) ?_
     rintro _ w_10 ⟨rfl, hd3⟩
     have hS12 := hS7.out00 hd3
     refine sQ 74 (yE r_4 1) <| sQ 75 (ym (.bool (r_4 == 1))) ?_
     refine sgq 76 (B := (r_4 == 1)) (v := vi n) rfl rfl (uT_ 75) (fun hg => (ym (vi n))) ?_
     refine sgq 77 (B := (r_4 == 1)) (v := vi col) rfl rfl (uT_ 75) (fun hg1 => (ym (vi col))) ?_
     refine sgq 78 (B := (r_4 == 1)) (v := pt (aD b) 2) rfl rfl (uT_ 75) (fun hg2 => (yd (aD b) 0 0 K42 K2)) ?_
     refine sgq 79 (B := (r_4 == 1)) (v := vi g.B) rfl rfl (uT_ 75) (fun hg3 => (yl (aD b) 2 [vi g.Kind, vi g.A, vi g.B] (vi g.B) K1 (hS12.c 0) rfl (gv_of (v := pt (aD b) 2) hg3))) ?_
     obtain ⟨r_5, hc4, hF8⟩ := bI hF8
     refine sgc 80 (B := (r_4 == 1)) (v := vi r_5) (F := hS12.fn) rfl rfl (uT_ 75) hS12 (fun hg4 => (yC [vi n, vi col, vi g.B] K85 (CV.mono (c_spec_l6Bit n col g.B _  (hS12.inn0 [] rfl) (gb_inv hc4 hg4)) (by rintro _ _ ⟨rfl, h⟩; exact ⟨rfl, hS12.out00 h⟩)) rfl (mc (gv_of (v := vi n) hg4) (mc (gv_of (v := vi col) hg4) (mc (gv_of (v := vi g.B) hg4) mn))))) ?_
     rintro w_11 hS13
     refine sgq 81 (B := (r_4 == 1)) (v := .bool (r_5 == 1)) rfl rfl (uT_ 75) (fun hg5 => (yE r_5 1 rfl (gv_of (v := vi r_5) hg5))) ?_
     refine sQ 82 (Y_and (b := (r_4 == 1)) (z := (r_5 == 1)) rfl rfl rfl rfl) (rn ?_)
     refine cw_cond (b := ((r_4 == 1) && (r_5 == 1))) rfl (fun hb4 => ?_) (fun hb4 => ?_)
     ·skip
      have hF9 := ct hF8 hb4
      refine cr ?_
      obtain ⟨r_6, hc5, hF9⟩ := bI hF9
      refine sc 83 rfl rfl (yC [vi 4] K56 (c_spec_l2Power 4 _  (hS13.inn0 [] rfl) hc5)) ?_
      rintro _ w_12 ⟨rfl, hd4⟩
      have hS14 := hS13.out00 hd4
      refine s0 (yT 2 5 (aD b2) 54 (gD_ r_6) (kD_ r_6) 0 hS14 K0) ?_
      rintro _ w_13 ⟨rfl, hS15⟩
      refine rn ?_
      exact ⟨r_6.Num.A, r_6.Num.B, r_6.Num.C, r_6.Num.D, r_6.Exp, col, (sI hF9), (fc rfl (fc rfl (fc rfl (fc rfl (fc rfl fn_))))), (hS15.sel [1, 2, 3] rfl rfl)⟩
     ·skip
      have hF10 := cf' hF8 hb4
      refine cw_skip ?_
      exact ⟨r_1.Num.A, r_1.Num.B, r_1.Num.C, r_1.Num.D, r_1.Exp, col, (sI hF10), (fc rfl (fc rfl (fc rfl (fc rfl (fc rfl fn_))))), (hS13.sel [1, 2, 3] rfl rfl)⟩
    ·skip
     have hF11 := cf' hF7 hb3
     refine cq (cr ?_)
     refine sQ 85 (yE g.Kind 11) <| sQ 84 (yg (.bool (g.Kind == 11))) (rn ?_)
     refine cw_cond (b := (g.Kind == 11)) rfl (fun hb5 => ?_) (fun hb5 => ?_)
     ·skip
      have hF12 := ct hF11 hb5
      refine cq ?_
      obtain ⟨r_7, hc6, hF12⟩ := bI hF12
      obtain ⟨r_8, hc7, hF12⟩ := bI hF12
      refine ra_start (hS7.se [0, 1, 2, 3]).fn (by kernel_rfl) ?_
      have hS18 := hS7.drew
      refine rq 0 86 (v := vi n) rfl (hS18.se [0, 1, 2, 3]) (fun w' hw' => (ym (vi n))) ?_
      refine rq 1 87 (v := vi col) rfl (hS18.se [0, 1, 2, 3]) (fun w' hw' => (ym (vi col))) ?_
      refine rq 2 88 (v := pt (aD b) 1) rfl (hS18.se [0, 1, 2, 3]) (fun w' hw' => (yd (aD b) 0 0 K37 K2)) ?_
      refine rq 3 89 (v := vi g.A) rfl (hS18.se [0, 1, 2, 3]) (fun w' hw' => (yl (aD b) 1 [vi g.Kind, vi g.A, vi g.B] (vi g.A) K1 (ST.cf hw' (i := 0) rfl))) ?_
      refine rq 5 91 (v := vi n) rfl (hS18.se [0, 1, 2, 3]) (fun w' hw' => (ym (vi n))) ?_
      refine rq 6 92 (v := vi col) rfl (hS18.se [0, 1, 2, 3]) (fun w' hw' => (ym (vi col))) ?_
      refine rq 7 93 (v := pt (aD b) 2) rfl (hS18.se [0, 1, 2, 3]) (fun w' hw' => (yd (aD b) 0 0 K42 K2)) ?_
      refine rq 8 94 (v := vi g.B) rfl (hS18.se [0, 1, 2, 3]) (fun w' hw' => (yl (aD b) 2 [vi g.Kind, vi g.A, vi g.B] (vi g.B) K1 (ST.cf hw' (i := 0) rfl))) ?_
      refine rA [4] ?_
      refine rC 90 4 rfl (yC [vi n, vi col, vi g.A] K85 (c_spec_l6Bit n col g.A _  (hS18.inn0 [] rfl) hc6)) ?_ ?_
      ·rintro _ w_14 ⟨rfl, hd5⟩
       have hS19 := hS18.out00 hd5
       refine ⟨(hS19.se [0, 1, 2, 3]), ?_⟩
       refine rA [9] ?_
       refine rC 95 9 rfl (yC [vi n, vi col, vi g.B] K85 (c_spec_l6Bit n col g.B _  (hS19.inn0 [] rfl) hc7)) ?_ ?_
       ·rintro _ w_15 ⟨rfl, hd6⟩
        have hS20 := hS19.out00 hd6
        refine ⟨(hS20.se [0, 1, 2, 3]), ?_⟩
        refine rq 10 96 (v := .bool (r_7 != r_8)) rfl (hS20.se [0, 1, 2, 3]) (fun w' hw' => (Y_ne (k := .i64) (a := r_7) (b := r_8) rfl rfl rfl)) ?_
        refine ra_done (by kernel_rfl) ?_
        refine cw_cond (b := (r_7 != r_8)) rfl (fun hb6 => ?_) (fun hb6 => ?_)
        ·skip
         have hF13 := ct hF12 hb6
         refine cr ?_
         refine sQ 97 (ym (vi col)) <| sQ 98 (ym (vi n)) <| sQ 99 (yM n 1) <| sQ 100 (yd (aD b) 0 0 K37 K2) <| sQ 101 (yl (aD b) 1 [vi g.Kind, vi g.A, vi g.B] (vi g.A) K1 (hS20.c 0)) <| sQ 102 (yM (i64.wrap (n - 1)) g.A) ?_
         refine sQ 103 (Y_conv (k := .i64) (a := (i64.wrap ((i64.wrap (n - 1)) - g.A))) (T := 3) (T' := 80) K64 K69 rfl rfl) ?_
         obtain ⟨hsh1, hF13⟩ := chk_inv hF13
         refine sQ 104 (Y_shl (k := .i64) (a := 1) (k' := .u64) (b := (IntKind.u64.wrap (i64.wrap ((i64.wrap (n - 1)) - g.A)))) rfl rfl rfl hsh1) <| sQ 105 (Y_bxor (k := .i64) (a := col) (b := (shlK .i64 1 (IntKind.u64.wrap (i64.wrap ((i64.wrap (n - 1)) - g.A))))) rfl rfl rfl) <| sQ 106 (ym (vi n)) <| sQ 107 (yM n 1) <| sQ 108 (yd (aD b) 0 0 K42 K2) <| sQ 109 (yl (aD b) 2 [vi g.Kind, vi g.A, vi g.B] (vi g.B) K1 (hS20.c 0)) ?_
         refine sQ 110 (yM (i64.wrap (n - 1)) g.B) <| sQ 111 (Y_conv (k := .i64) (a := (i64.wrap ((i64.wrap (n - 1)) - g.B))) (T := 3) (T' := 80) K64 K69 rfl rfl) ?_
         obtain ⟨hsh2, hF13⟩ := chk_inv hF13
         refine sQ 112 (Y_shl (k := .i64) (a := 1) (k' := .u64) (b := (IntKind.u64.wrap (i64.wrap ((i64.wrap (n - 1)) - g.B)))) rfl rfl rfl hsh2) <| sQ 113 (Y_bxor (k := .i64) (a := (bits .xor .i64 col (shlK .i64 1 (IntKind.u64.wrap (i64.wrap ((i64.wrap (n - 1)) - g.A)))))) (b := (shlK .i64 1 (IntKind.u64.wrap (i64.wrap ((i64.wrap (n - 1)) - g.B))))) rfl rfl rfl) <| sQ 11 (yg (vi (bits .xor .i64 (bits .xor .i64 col (shlK .i64 1 (IntKind.u64.wrap (i64.wrap ((i64.wrap (n - 1)) - g.A))))) (shlK .i64 1 (IntKind.u64.wrap (i64.wrap ((i64.wrap (n - 1)) - g.B))))))) (rn ?_)
         exact ⟨r_1.Num.A, r_1.Num.B, r_1.Num.C, r_1.Num.D, r_1.Exp, (bits .xor .i64 (bits .xor .i64 col (shlK .i64 1 (IntKind.u64.wrap (i64.wrap ((i64.wrap (n - 1)) - g.A))))) (shlK .i64 1 (IntKind.u64.wrap (i64.wrap ((i64.wrap (n - 1)) - g.B))))), (sI hF13), (fc rfl (fc rfl (fc rfl (fc rfl (fc rfl fn_))))), (hS20.sel [1, 2, 3] rfl rfl)⟩
        ·skip
         have hF14 := cf' hF12 hb6
         refine cw_skip ?_
         exact ⟨r_1.Num.A, r_1.Num.B, r_1.Num.C, r_1.Num.D, r_1.Exp, col, (sI hF14), (fc rfl (fc rfl (fc rfl (fc rfl (fc rfl fn_))))), (hS20.sel [1, 2, 3] rfl rfl)⟩
       exact aN
      exact aN
     ·skip
      have hF15 := cf' hF11 hb5
      refine cq (cq (cr ?_))
      refine sQ 17 (ym (vi row)) <| sQ 18 (ym (vi col)) <| sQ 19 (Y_bxor (k := .i64) (a := row) (b := col) rfl rfl rfl) <| sQ 20 (ym (vi n)) <| sQ 21 (yM n 1) <| sQ 22 (yd (aD b) 0 0 K37 K2) ?_
      refine sQ 23 (yl (aD b) 1 [vi g.Kind, vi g.A, vi g.B] (vi g.A) K1 (hS7.c 0)) <| sQ 24 (yM (i64.wrap (n - 1)) g.A) <| sQ 25 (Y_conv (k := .i64) (a := (i64.wrap ((i64.wrap (n - 1)) - g.A))) (T := 3) (T' := 80) K64 K69 rfl rfl) ?_
      obtain ⟨hsh3, hF15⟩ := chk_inv hF15
      refine sQ 26 (Y_shl (k := .i64) (a := 1) (k' := .u64) (b := (IntKind.u64.wrap (i64.wrap ((i64.wrap (n - 1)) - g.A)))) rfl rfl rfl hsh3) <| sQ 27 (Y_bandNot (k := .i64) (a := (bits .xor .i64 row col)) (b := (shlK .i64 1 (IntKind.u64.wrap (i64.wrap ((i64.wrap (n - 1)) - g.A))))) rfl rfl rfl) <| sQ 28 (Y_ne (k := .i64) (a := (bits .andNot .i64 (bits .xor .i64 row col) (shlK .i64 1 (IntKind.u64.wrap (i64.wrap ((i64.wrap (n - 1)) - g.A)))))) (b := 0) rfl rfl rfl) (rn ?_)
      refine cw_cond (b := ((bits .andNot .i64 (bits .xor .i64 row col) (shlK .i64 1 (IntKind.u64.wrap (i64.wrap ((i64.wrap (n - 1)) - g.A))))) != 0)) rfl (fun hb7 => ?_) (fun hb7 => ?_)
      ·skip
       have hF16 := ct hF15 hb7
       refine cq (cr ?_)
       refine sQ 29 (yb (aD b3) 0 kZ_ K3 K0 (hS7.c 3)) ?_
       refine s0 (yT 1 5 (aD b1) 54 gZ_ kZ_ 0 hS7 K0) ?_
       rintro _ w_16 ⟨rfl, hS21⟩
       refine rn (ct_ ?_)
       obtain rfl := sI hF16
       obtain rfl := sI hF1
       exact ret1 Tryz.results128 (v1 := gZ_) (resAt_cellA (B := aD b1) (i := 0) (cs := kZ_) (vs := kZ_) rfl K3 K0 (hS21.c 1) rfl rfl) ⟨rfl, (hS21.sN [])⟩
      ·skip
       have hF17 := cf' hF15 hb7
       refine cw_skip (cq ?_)
       obtain ⟨r_9, hc8, hF17⟩ := bI hF17
       obtain ⟨r_10, hc9, hF17⟩ := bI hF17
       obtain ⟨r_11, hc10, hF17⟩ := bI hF17
       obtain ⟨x, hx, hF17⟩ := bI hF17
       refine ra_start (hS7.se [0, 2, 3]).fn (by kernel_rfl) ?_
       have hS25 := hS7.drew
       refine rq 0 30 (v := pt (aD b) 0) rfl (hS25.se [0, 2, 3]) (fun w' hw' => (yd (aD b) 0 0 K44 K2)) ?_
       refine rq 1 31 (v := vi g.Kind) rfl (hS25.se [0, 2, 3]) (fun w' hw' => (yl (aD b) 0 [vi g.Kind, vi g.A, vi g.B] (vi g.Kind) K1 (ST.cf hw' (i := 0) rfl))) ?_
       refine rq 3 33 (v := vi n) rfl (hS25.se [0, 2, 3]) (fun w' hw' => (ym (vi n))) ?_
       refine rq 4 34 (v := vi row) rfl (hS25.se [0, 2, 3]) (fun w' hw' => (ym (vi row))) ?_
       refine rq 5 35 (v := pt (aD b) 1) rfl (hS25.se [0, 2, 3]) (fun w' hw' => (yd (aD b) 0 0 K37 K2)) ?_
       refine rq 6 36 (v := vi g.A) rfl (hS25.se [0, 2, 3]) (fun w' hw' => (yl (aD b) 1 [vi g.Kind, vi g.A, vi g.B] (vi g.A) K1 (ST.cf hw' (i := 0) rfl))) ?_
       refine rq 9 39 (v := vi n) rfl (hS25.se [0, 2, 3]) (fun w' hw' => (ym (vi n))) ?_
       refine rq 10 40 (v := vi col) rfl (hS25.se [0, 2, 3]) (fun w' hw' => (ym (vi col))) ?_
       refine rq 11 41 (v := pt (aD b) 1) rfl (hS25.se [0, 2, 3]) (fun w' hw' => (yd (aD b) 0 0 K37 K2)) ?_
       refine rq 12 42 (v := vi g.A) rfl (hS25.se [0, 2, 3]) (fun w' hw' => (yl (aD b) 1 [vi g.Kind, vi g.A, vi g.B] (vi g.A) K1 (ST.cf hw' (i := 0) rfl))) ?_
       refine rA [2] ?_
       refine rC 32 2 rfl (yC [vi g.Kind] k_call_111 (c_spec_l6One g.Kind _  (hS25.inn0 [] rfl) hc8)) ?_ ?_
       ·rintro _ w_17 ⟨B1, c, rfl, hd7⟩
        have hS26 := hS25.out0 hd7
        refine ⟨(hS26.se [0, 2, 3]), ?_⟩
        refine rA [7] ?_
        refine rC 37 7 rfl (yC [vi n, vi row, vi g.A] K85 (c_spec_l6Bit n row g.A _  (hS26.inn0 [] rfl) hc9)) ?_ ?_
        ·rintro _ w_18 ⟨rfl, hd8⟩
         have hS27 := hS26.out00 hd8
         refine ⟨(hS27.se [0, 2, 3]), ?_⟩
         refine rq 8 38 (v := vi (i64.wrap (2 * r_10))) rfl (hS27.se [0, 2, 3]) (fun w' hw' => (yX 2 r_10)) ?_
         refine rA [13] ?_
         refine rC 43 13 rfl (yC [vi n, vi col, vi g.A] K85 (c_spec_l6Bit n col g.A _  (hS27.inn0 [] rfl) hc10)) ?_ ?_
         ·rintro _ w_19 ⟨rfl, hd9⟩
          have hS28 := hS27.out00 hd9
          refine ⟨(hS28.se [0, 2, 3]), ?_⟩
          refine rq 14 44 (v := vi (i64.wrap ((i64.wrap (2 * r_10)) + r_11))) rfl (hS28.se [0, 2, 3]) (fun w' hw' => (yP (i64.wrap (2 * r_10)) r_11)) ?_
          refine rA [15] ?_
          refine ra_y 45 (i := 15) (v := pt B1 ((i64.wrap ((i64.wrap (2 * r_10)) + r_11)).toNat * 5)) rfl rfl rfl (Y_index (B := B1) (m := r_9.length) (c := c) (k := .i64) (i := (i64.wrap ((i64.wrap (2 * r_10)) + r_11))) K7 K0 rfl rfl rfl (gi_isSome eN2 rfl (hS28.c 4) hx) (getI_nn hx) (getI_ltI hx rfl)) (hS28.se [0, 2, 3]) ?_ ?_
          ·skip
           refine rA [16] ?_
           refine ra_y 46 (i := 16) (v := gD_ x) rfl rfl rfl (ya B1 ((i64.wrap ((i64.wrap (2 * r_10)) + r_11)).toNat * 5) (r_9.flatMap eN0) (kD_ x) K3 K0 (hS28.c 4) rfl rfl (eN2 x) (gi_seg eN2 hx)) (hS28.se [0, 2, 3]) ?_ ?_
           ·skip
            refine rA [17] ?_
            refine rZ 17 rfl (yT 1 5 (aD b1) 54 (gD_ x) (kD_ x) 0 hS28 K0) ?_ ?_
            ·rintro _ w_20 ⟨rfl, hS29⟩
             refine ⟨(hS29.se [0, 2, 3]), ?_⟩
             refine ra_done (by kernel_rfl) ?_
             refine ct_ ?_
             obtain rfl := sI hF17
             obtain rfl := sI hF1
             exact ret1 Tryz.results128 (v1 := gD_ x) (resAt_cellA (B := aD b1) (i := 0) (cs := kD_ x) (vs := kD_ x) rfl K3 K0 (hS29.c 1) rfl rfl) ⟨rfl, (hS29.sN [])⟩
            exact aN
           exact aN
          exact aN
         exact aN
        exact aN
       exact aN
 rintro f w ⟨A, B, C, D, Exp, to_, rfl, hf, hS8⟩
 refine cq (cq (cr ?_))
 refine sQ 114 (ym (vi row) rfl (hf.g 2 0)) <| sQ 115 (ym (vi to_) rfl (hf.g 11 4)) <| sQ 116 (yE row to_) (rn ?_)
 refine cw_cond (b := (row == to_)) rfl (fun hb8 => ?_) (fun hb8 => ?_)
 ·skip
  have hF18 := ct hF1 hb8
  refine cq (cr ?_)
  refine sQ 117 (yb (aD b2) 0 [vi A, vi B, vi C, vi D, vi Exp] K3 K0 (hS8.c 1) rfl (hf.g 9 2)) ?_
  refine s0 (yT 0 5 (aD b1) 54 (.agg #[vi A, vi B, vi C, vi D, vi Exp]) [vi A, vi B, vi C, vi D, vi Exp] 0 hS8 K0 rfl (hf.g 8 1)) ?_
  rintro _ w_21 ⟨rfl, hS30⟩
  refine rn (ct_ ?_)
  obtain rfl := sI hF18
  exact ret1 Tryz.results128 (v1 := .agg #[vi A, vi B, vi C, vi D, vi Exp]) (resAt_cellA (B := aD b1) (i := 0) (cs := [vi A, vi B, vi C, vi D, vi Exp]) (vs := [vi A, vi B, vi C, vi D, vi Exp]) (hf.g 8 1) K3 K0 (hS30.c 0) rfl rfl) ⟨rfl, (hS30.sN [])⟩
 ·skip
  have hF19 := cf' hF1 hb8
  refine cw_skip (cq (cr ?_))
  refine sQ 118 (yb (aD b3) 0 kZ_ K3 K0 (hS8.c 2) rfl (hf.g 10 3)) ?_
  refine s0 (yT 0 5 (aD b1) 54 gZ_ kZ_ 0 hS8 K0 rfl (hf.g 8 1)) ?_
  rintro _ w_22 ⟨rfl, hS31⟩
  refine rn (ct_ ?_)
  obtain rfl := sI hF19
  exact ret1 Tryz.results128 (v1 := gZ_) (resAt_cellA (B := aD b1) (i := 0) (cs := kZ_) (vs := kZ_) (hf.g 8 1) K3 K0 (hS31.c 0) rfl rfl) ⟨rfl, (hS31.sN [])⟩

theorem c_spec_l6Gate (n : Int) (g : TGate)  (w0 : World)  (hS : ST w0 [] w0 [] []) {r_ : TMatrix} (hF : F_spec_l6Gate n g = some r_) :
  CV Tryz.prog 79 #[vi n, .agg #[vi g.Kind, vi g.A, vi g.B]] w0 (fun v w' => ∃ (B : Option Addr) (c : Nat), v = (gM_ r_ B c) ∧ ST w0 [] w' [⟨B, 54, (r_.Cells.flatMap eN0), c * 5⟩] []) := by
 unfold F_spec_l6Gate at hF
 refine cv_of_cw 36 Tryz.func79 rfl Tryz.ntmps79 rfl ?_
 refine cq (cr ?_)
 refine sS 3 (yB 45 (.agg #[vi g.Kind, vi g.A, vi g.B]) [vi g.Kind, vi g.A, vi g.B] 3 hS) ?_
 rintro _ w_ ⟨b, rfl, hS1⟩
 refine sS 4 (yN kN_ 3 hS1 K17) ?_
 rintro _ w_1 ⟨b1, rfl, hS2⟩
 refine rn (cq (cr ?_))
 refine sQ 9 (ym (vi n)) <| sQ 10 (Y_conv (k := .i64) (a := n) (T := 3) (T' := 80) K64 K69 rfl rfl) ?_
 obtain ⟨hsh, hF⟩ := chk_inv hF
 refine sQ 11 (Y_shl (k := .i64) (a := 1) (k' := .u64) (b := (IntKind.u64.wrap n)) rfl rfl rfl hsh) <| sQ 5 (yg (vi (shlK .i64 1 (IntKind.u64.wrap n)))) (rn (cq (cr ?_)))
 refine sQ 12 (ym (vi (shlK .i64 1 (IntKind.u64.wrap n)))) <| sQ 13 (ym (vi (shlK .i64 1 (IntKind.u64.wrap n)))) <| sQ 14 (Y_buildS (zs := kN_) (vs := [(0, vi (shlK .i64 1 (IntKind.u64.wrap n))), (1, vi (shlK .i64 1 (IntKind.u64.wrap n)))]) (cs := [vi (shlK .i64 1 (IntKind.u64.wrap n)), vi (shlK .i64 1 (IntKind.u64.wrap n)), .slice none 0 0]) K49 K17 rfl (mpc rfl (mpc rfl mpn)) rfl) ?_
 refine sS 6 (yN kN_ 3 hS2 K17) ?_
 rintro _ w_2 ⟨b2, rfl, hS3⟩
 refine s0 (yT 2 3 (aD b2) 26 (.agg #[vi (shlK .i64 1 (IntKind.u64.wrap n)), vi (shlK .i64 1 (IntKind.u64.wrap n)), .slice none 0 0]) [vi (shlK .i64 1 (IntKind.u64.wrap n)), vi (shlK .i64 1 (IntKind.u64.wrap n)), .slice none 0 0] 0 hS3 K6) ?_
 rintro _ w_3 ⟨rfl, hS4⟩
 refine rn (cq (cq (cr ?_)))
 refine sQ 7 (yg (vi 0)) (rn ?_)
 obtain ⟨hN, hF⟩ := chk_inv hF
 obtain ⟨z, hz, hF1⟩ := bI hF
 have hS6 := hS4.addNil 54
 refine cw_block ?_
 refine cw_loop (fun k f w => ∃ (i1 : Nat) (Cells : List TDyadic) (B1 : Option Addr) (c1 : Nat), FF f [(0, vi n), (3, pt (aD b) 0), (4, pt (aD b1) 0), (5, vi (shlK .i64 1 (IntKind.u64.wrap n))), (6, pt (aD b2) 0), (7, vi (i1 : Int))] ∧ ST w0 [] w [⟨aD b, 45, [vi g.Kind, vi g.A, vi g.B], 3⟩, ⟨aD b1, 26, kN_, 3⟩, ⟨aD b2, 26, [vi (shlK .i64 1 (IntKind.u64.wrap n)), vi (shlK .i64 1 (IntKind.u64.wrap n)), .slice B1 Cells.length c1], 3⟩, ⟨B1, 54, (Cells.flatMap eN0), c1 * 5⟩] [] ∧ i1 + k = (shlK .i64 1 (IntKind.u64.wrap n)).toNat ∧ forN (F_spec_l6Gate_l1 n g) k i1 Cells = some z) ((shlK .i64 1 (IntKind.u64.wrap n)).toNat) ⟨0, [], none, 0, (fc rfl (fc rfl (fc rfl (fc rfl (fc rfl (fc rfl fn_)))))), (hS6.sel [0, 1, 2, 3] rfl rfl), Nat.zero_add _, hz⟩ ?_
 rintro k_ f w ⟨i1, Cells, B1, c1, hf, hS5, hik, hL⟩
 refine cq (cq (cr ?_))
 refine sQ 15 (ym (vi (i1 : Int)) rfl (hf.g 7 5)) <| sQ 16 (ym (vi (shlK .i64 1 (IntKind.u64.wrap n))) rfl (hf.g 5 3)) <| sQ 17 (yL (i1 : Int) (shlK .i64 1 (IntKind.u64.wrap n))) (rn ?_)
 refine cw_cond (b := (decide ((i1 : Int) < (shlK .i64 1 (IntKind.u64.wrap n))))) rfl (fun hlt => ?_) (fun hlt => ?_)
 ·skip
  have hlt1 : i1 < (shlK .i64 1 (IntKind.u64.wrap n)).toNat := by have h := of_decide_eq_true hlt; omega
  obtain ⟨K9, rfl⟩ : ∃ k2, k_ = k2 + 1 := ⟨k_ - 1, by omega⟩
  obtain ⟨y, hb, hL1⟩ := forN_go hL
  unfold F_spec_l6Gate_l1 at hb
  refine cw_skip (cq (cw_block (cq (cr ?_))))
  refine sQ 8 (yg (vi 0)) (rn ?_)
  obtain ⟨hN1, hb⟩ := chk_inv hb
  obtain ⟨z1, hz1, hF2⟩ := bI hb
  refine cw_block ?_
  refine cw_loop (fun k f w => ∃ (j : Nat) (Cells1 : List TDyadic) (B2 : Option Addr) (c2 : Nat), FF f [(0, vi n), (3, pt (aD b) 0), (4, pt (aD b1) 0), (5, vi (shlK .i64 1 (IntKind.u64.wrap n))), (6, pt (aD b2) 0), (7, vi (i1 : Int)), (8, vi (j : Int))] ∧ ST w0 [] w [⟨aD b, 45, [vi g.Kind, vi g.A, vi g.B], 3⟩, ⟨aD b1, 26, kN_, 3⟩, ⟨aD b2, 26, [vi (shlK .i64 1 (IntKind.u64.wrap n)), vi (shlK .i64 1 (IntKind.u64.wrap n)), .slice B2 Cells1.length c2], 3⟩, ⟨B2, 54, (Cells1.flatMap eN0), c2 * 5⟩] [] ∧ j + k = (shlK .i64 1 (IntKind.u64.wrap n)).toNat ∧ forN (F_spec_l6Gate_l2 n g i1) k j Cells1 = some z1) ((shlK .i64 1 (IntKind.u64.wrap n)).toNat) ⟨0, Cells, B1, c1, (fc (hf.g 0 0) (fc (hf.g 3 1) (fc (hf.g 4 2) (fc (hf.g 5 3) (fc (hf.g 6 4) (fc (hf.g 7 5) (fc rfl fn_))))))), (hS5.sel [0, 1, 2, 3] rfl rfl), Nat.zero_add _, hz1⟩ ?_
  rintro K15 f w ⟨j, Cells1, B2, c2, hf1, hS7, hik1, hL2⟩
  refine cq (cq (cr ?_))
  refine sQ 20 (ym (vi (j : Int)) rfl (hf1.g 8 6)) <| sQ 21 (ym (vi (shlK .i64 1 (IntKind.u64.wrap n))) rfl (hf1.g 5 3)) <| sQ 22 (yL (j : Int) (shlK .i64 1 (IntKind.u64.wrap n))) (rn ?_)
  refine cw_cond (b := (decide ((j : Int) < (shlK .i64 1 (IntKind.u64.wrap n))))) rfl (fun hlt2 => ?_) (fun hlt2 => ?_)
  ·skip
   have hlt3 : j < (shlK .i64 1 (IntKind.u64.wrap n)).toNat := by have h := of_decide_eq_true hlt2; omega
   obtain ⟨K29, rfl⟩ : ∃ k2, K15 = k2 + 1 := ⟨K15 - 1, by omega⟩
   obtain ⟨y1, hb1, hL3⟩ := forN_go hL2
   unfold F_spec_l6Gate_l2 at hb1
   refine cw_skip (cq (cw_block ?_))
   obtain ⟨r_1, hc, hb1⟩ := bI hb1
   obtain ⟨hap, hb1⟩ := chk_inv hb1
   refine cw_mid (fun f w => ∃ (B4 : Option Addr) (c4 : Nat), FF f [(0, vi n), (3, pt (aD b) 0), (4, pt (aD b1) 0), (5, vi (shlK .i64 1 (IntKind.u64.wrap n))), (6, pt (aD b2) 0), (7, vi (i1 : Int)), (8, vi (j : Int))] ∧ ST w0 [] w [⟨aD b, 45, [vi g.Kind, vi g.A, vi g.B], 3⟩, ⟨aD b1, 26, kN_, 3⟩, ⟨aD b2, 26, [vi (shlK .i64 1 (IntKind.u64.wrap n)), vi (shlK .i64 1 (IntKind.u64.wrap n)), .slice B4 ((Cells1 ++ [r_1]).length) c4], 3⟩, ⟨B4, 54, ((Cells1 ++ [r_1]).flatMap eN0), c4 * 5⟩] []) ?_ ?_
   ·skip
    refine ra_start (hS7.se [0, 1]).fn (by kernel_rfl) ?_
    have hS10 := hS7.drew
    refine rq 0 25 (v := pt (aD b2) 2) rfl (hS10.se [0, 1]) (fun w' hw' => (yd (aD b2) 0 0 K27 K8 rfl (hf1.g 6 4))) ?_
    refine rq 2 27 (v := vi n) rfl (hS10.se [0, 1]) (fun w' hw' => (ym (vi n) rfl (hf1.g 0 0))) ?_
    refine rq 3 28 (v := .agg #[vi g.Kind, vi g.A, vi g.B]) rfl (hS10.se [0, 1]) (fun w' hw' => (yb (aD b) 0 [vi g.Kind, vi g.A, vi g.B] K52 K28 (ST.cf hw' (i := 0) rfl) rfl (hf1.g 3 1))) ?_
    refine rq 4 29 (v := vi (i1 : Int)) rfl (hS10.se [0, 1]) (fun w' hw' => (ym (vi (i1 : Int)) rfl (hf1.g 7 5))) ?_
    refine rq 5 30 (v := vi (j : Int)) rfl (hS10.se [0, 1]) (fun w' hw' => (ym (vi (j : Int)) rfl (hf1.g 8 6))) ?_
    refine rA [1, 6] ?_
    refine ra_y 26 (i := 1) (v := .slice B2 Cells1.length c2) rfl rfl rfl (yl (aD b2) 2 [vi (shlK .i64 1 (IntKind.u64.wrap n)), vi (shlK .i64 1 (IntKind.u64.wrap n)), .slice B2 Cells1.length c2] (.slice B2 Cells1.length c2) K12 (hS10.c 2)) (hS10.se [0, 1]) ?_ ?_
    ·skip
     refine rA [6] ?_
     refine rC 31 6 rfl (yC [vi n, .agg #[vi g.Kind, vi g.A, vi g.B], vi (i1 : Int), vi (j : Int)] k_call_128 (c_spec_l6Cell n g (i1 : Int) (j : Int) _  (hS10.inn0 [] rfl) hc)) ?_ ?_
     ·rintro _ w_4 ⟨rfl, hd⟩
      have hS11 := hS10.out00 hd
      refine ⟨(hS11.se [0, 1]), ?_⟩
      refine rA [7] ?_
      refine rS 32 7 rfl (Ys_bslice (s := 5) (len := 1) (vs := [(0, gD_ r_1)]) (cs := kD_ r_1) (zs := kZ_) (m := 5) hS11 K7 K0 K36 rfl (mpc rfl mpn) rfl rfl rfl (by kernel_rfl) (by kernel_rfl) rfl) ?_ ?_
      ·rintro _ w_5 ⟨b3, rfl, hS12⟩
       refine ⟨(hS12.se [0, 1]), ?_⟩
       refine rA [8] ?_
       refine rS 33 8 rfl (Ys_append (s := 5) (by' := 40) (i := 3) (nn := Cells1.length) (c := c2) (k := 1) (len := (Cells1 ++ [r_1]).length) (B := B2) (xs := ([r_1].flatMap eN0)) (cs' := ((Cells1 ++ [r_1]).flatMap eN0)) hS12 K7 K0 K38 K5 rfl (by decide) rfl rfl rfl rfl (fm_lenn (l := Cells1) eN2 rfl) rfl (hS12.c 4) (fm_lenn (l := [r_1]) eN2 rfl) (fm_one' (enc := eN0) enc_Dyadic_one [r_1]) (by have := hap; omega) (by have := hap; simp only [maxLen]; omega) (fm_app _ _) (app_len (l := Cells1) (l' := [r_1]) rfl rfl)) ?_ ?_
       ·rintro _ w_6 ⟨B3, c3, rfl, hS13⟩
        refine ⟨(hS13.se [0, 1]), ?_⟩
        refine rq 9 34 (v := pt (aD b2) 2) rfl (hS13.se [0, 1]) (fun w' hw' => (yd (aD b2) 0 0 K27 K8 rfl (hf1.g 6 4))) ?_
        refine rA [10] ?_
        refine rZ 10 rfl (yS 2 1 (aD b2) 26 (.slice B3 ((Cells1 ++ [r_1]).length) c3) [.slice B3 ((Cells1 ++ [r_1]).length) c3] 2 [vi (shlK .i64 1 (IntKind.u64.wrap n)), vi (shlK .i64 1 (IntKind.u64.wrap n)), .slice B3 ((Cells1 ++ [r_1]).length) c3] hS13 K8) ?_ ?_
        ·rintro _ w_7 ⟨rfl, hS14⟩
         refine ⟨(hS14.se [0, 1]), ?_⟩
         refine ra_done (by kernel_rfl) ?_
         exact ⟨B3, c3, (fc (hf1.g 0 0) (fc (hf1.g 3 1) (fc (hf1.g 4 2) (fc (hf1.g 5 3) (fc (hf1.g 6 4) (fc (hf1.g 7 5) (fc (hf1.g 8 6) fn_))))))), (hS14.sel [0, 1, 2, 3] rfl rfl)⟩
        exact aN
       exact aN
      exact aN
     exact aN
    refine rC 31 6 rfl (yC [vi n, .agg #[vi g.Kind, vi g.A, vi g.B], vi (i1 : Int), vi (j : Int)] k_call_128 (c_spec_l6Cell n g (i1 : Int) (j : Int) _  (hS10.inn0 [] rfl) hc)) ?_ ?_
    ·rintro _ w_8 ⟨rfl, hd1⟩
     have hS15 := hS10.out00 hd1
     refine ⟨(hS15.se [0, 1]), ?_⟩
     refine rA [1, 7] ?_
     refine ra_y 26 (i := 1) (v := .slice B2 Cells1.length c2) rfl rfl rfl (yl (aD b2) 2 [vi (shlK .i64 1 (IntKind.u64.wrap n)), vi (shlK .i64 1 (IntKind.u64.wrap n)), .slice B2 Cells1.length c2] (.slice B2 Cells1.length c2) K12 (hS15.c 2)) (hS15.se [0, 1]) ?_ ?_
     ·skip
      refine rA [7] ?_
      refine rS 32 7 rfl (Ys_bslice (s := 5) (len := 1) (vs := [(0, gD_ r_1)]) (cs := kD_ r_1) (zs := kZ_) (m := 5) hS15 K7 K0 K36 rfl (mpc rfl mpn) rfl rfl rfl (by kernel_rfl) (by kernel_rfl) rfl) ?_ ?_
      ·rintro _ w_9 ⟨b3, rfl, hS16⟩
       refine ⟨(hS16.se [0, 1]), ?_⟩
       refine rA [8] ?_
       refine rS 33 8 rfl (Ys_append (s := 5) (by' := 40) (i := 3) (nn := Cells1.length) (c := c2) (k := 1) (len := (Cells1 ++ [r_1]).length) (B := B2) (xs := ([r_1].flatMap eN0)) (cs' := ((Cells1 ++ [r_1]).flatMap eN0)) hS16 K7 K0 K38 K5 rfl (by decide) rfl rfl rfl rfl (fm_lenn (l := Cells1) eN2 rfl) rfl (hS16.c 4) (fm_lenn (l := [r_1]) eN2 rfl) (fm_one' (enc := eN0) enc_Dyadic_one [r_1]) (by have := hap; omega) (by have := hap; simp only [maxLen]; omega) (fm_app _ _) (app_len (l := Cells1) (l' := [r_1]) rfl rfl)) ?_ ?_
       ·rintro _ w_10 ⟨B3, c3, rfl, hS17⟩
        refine ⟨(hS17.se [0, 1]), ?_⟩
        refine rq 9 34 (v := pt (aD b2) 2) rfl (hS17.se [0, 1]) (fun w' hw' => (yd (aD b2) 0 0 K27 K8 rfl (hf1.g 6 4))) ?_
        refine rA [10] ?_
        refine rZ 10 rfl (yS 2 1 (aD b2) 26 (.slice B3 ((Cells1 ++ [r_1]).length) c3) [.slice B3 ((Cells1 ++ [r_1]).length) c3] 2 [vi (shlK .i64 1 (IntKind.u64.wrap n)), vi (shlK .i64 1 (IntKind.u64.wrap n)), .slice B3 ((Cells1 ++ [r_1]).length) c3] hS17 K8) ?_ ?_
        ·rintro _ w_11 ⟨rfl, hS18⟩
         refine ⟨(hS18.se [0, 1]), ?_⟩
         refine ra_done (by kernel_rfl) ?_
         exact ⟨B3, c3, (fc (hf1.g 0 0) (fc (hf1.g 3 1) (fc (hf1.g 4 2) (fc (hf1.g 5 3) (fc (hf1.g 6 4) (fc (hf1.g 7 5) (fc (hf1.g 8 6) fn_))))))), (hS18.sel [0, 1, 2, 3] rfl rfl)⟩
        exact aN
       exact aN
      exact aN
     refine rS 32 7 rfl (Ys_bslice (s := 5) (len := 1) (vs := [(0, gD_ r_1)]) (cs := kD_ r_1) (zs := kZ_) (m := 5) hS15 K7 K0 K36 rfl (mpc rfl mpn) rfl rfl rfl (by kernel_rfl) (by kernel_rfl) rfl) ?_ ?_
     ·rintro _ w_12 ⟨b3, rfl, hS19⟩
      refine ⟨(hS19.se [0, 1]), ?_⟩
      refine rA [1] ?_
      refine ra_y 26 (i := 1) (v := .slice B2 Cells1.length c2) rfl rfl rfl (yl (aD b2) 2 [vi (shlK .i64 1 (IntKind.u64.wrap n)), vi (shlK .i64 1 (IntKind.u64.wrap n)), .slice B2 Cells1.length c2] (.slice B2 Cells1.length c2) K12 (hS19.c 2)) (hS19.se [0, 1]) ?_ ?_
      ·skip
       refine rA [8] ?_
       refine rS 33 8 rfl (Ys_append (s := 5) (by' := 40) (i := 3) (nn := Cells1.length) (c := c2) (k := 1) (len := (Cells1 ++ [r_1]).length) (B := B2) (xs := ([r_1].flatMap eN0)) (cs' := ((Cells1 ++ [r_1]).flatMap eN0)) hS19 K7 K0 K38 K5 rfl (by decide) rfl rfl rfl rfl (fm_lenn (l := Cells1) eN2 rfl) rfl (hS19.c 4) (fm_lenn (l := [r_1]) eN2 rfl) (fm_one' (enc := eN0) enc_Dyadic_one [r_1]) (by have := hap; omega) (by have := hap; simp only [maxLen]; omega) (fm_app _ _) (app_len (l := Cells1) (l' := [r_1]) rfl rfl)) ?_ ?_
       ·rintro _ w_13 ⟨B3, c3, rfl, hS20⟩
        refine ⟨(hS20.se [0, 1]), ?_⟩
        refine rq 9 34 (v := pt (aD b2) 2) rfl (hS20.se [0, 1]) (fun w' hw' => (yd (aD b2) 0 0 K27 K8 rfl (hf1.g 6 4))) ?_
        refine rA [10] ?_
        refine rZ 10 rfl (yS 2 1 (aD b2) 26 (.slice B3 ((Cells1 ++ [r_1]).length) c3) [.slice B3 ((Cells1 ++ [r_1]).length) c3] 2 [vi (shlK .i64 1 (IntKind.u64.wrap n)), vi (shlK .i64 1 (IntKind.u64.wrap n)), .slice B3 ((Cells1 ++ [r_1]).length) c3] hS20 K8) ?_ ?_
        ·rintro _ w_14 ⟨rfl, hS21⟩
         refine ⟨(hS21.se [0, 1]), ?_⟩
         refine ra_done (by kernel_rfl) ?_
         exact ⟨B3, c3, (fc (hf1.g 0 0) (fc (hf1.g 3 1) (fc (hf1.g 4 2) (fc (hf1.g 5 3) (fc (hf1.g 6 4) (fc (hf1.g 7 5) (fc (hf1.g 8 6) fn_))))))), (hS21.sel [0, 1, 2, 3] rfl rfl)⟩
        exact aN
       exact aN
      exact aN
     exact aN
    exact aN
   rintro f w ⟨B4, c4, hf2, hS9⟩
   refine cr ?_
   refine sQ 23 (ym (vi (j : Int)) rfl (hf2.g 8 6)) <| sQ 24 (yP (j : Int) 1) <| sQ 8 (yg (vi (i64.wrap ((j : Int) + 1)))) (rn ?_)
   obtain rfl := sI hb1
   exact ⟨K29, Nat.lt_succ_self _, j + 1, (Cells1 ++ [r_1]), B4, c4, (fc (hf2.g 0 0) (fc (hf2.g 3 1) (fc (hf2.g 4 2) (fc (hf2.g 5 3) (fc (hf2.g 6 4) (fc (hf2.g 7 5) (fc (congrArg (Value.int .i64) (wr_succ hlt3 hN1)) fn_))))))), (hS9.sel [0, 1, 2, 3] rfl rfl), (by omega), hL3⟩
  ·skip
   obtain rfl : K15 = 0 := by have h := of_decide_eq_false hlt2; omega
   refine cw_exit rfl ?_
   obtain rfl := sI hL2
   refine cr ?_
   refine sQ 18 (ym (vi (i1 : Int)) rfl (hf1.g 7 5)) <| sQ 19 (yP (i1 : Int) 1) <| sQ 7 (yg (vi (i64.wrap ((i1 : Int) + 1)))) (rn ?_)
   obtain rfl := sI hF2
   exact ⟨K9, Nat.lt_succ_self _, i1 + 1, Cells1, B2, c2, (fc (hf1.g 0 0) (fc (hf1.g 3 1) (fc (hf1.g 4 2) (fc (hf1.g 5 3) (fc (hf1.g 6 4) (fc (congrArg (Value.int .i64) (wr_succ hlt1 hN)) fn_)))))), (hS7.sel [0, 1, 2, 3] rfl rfl), (by omega), hL1⟩
 ·skip
  obtain rfl : k_ = 0 := by have h := of_decide_eq_false hlt; omega
  refine cw_exit rfl ?_
  obtain rfl := sI hL
  refine cq (cr ?_)
  refine sQ 35 (yb (aD b2) 0 [vi (shlK .i64 1 (IntKind.u64.wrap n)), vi (shlK .i64 1 (IntKind.u64.wrap n)), .slice B1 Cells.length c1] K13 K6 (hS5.c 2) rfl (hf.g 6 4)) ?_
  refine s0 (yT 1 3 (aD b1) 26 (.agg #[vi (shlK .i64 1 (IntKind.u64.wrap n)), vi (shlK .i64 1 (IntKind.u64.wrap n)), .slice B1 Cells.length c1]) [vi (shlK .i64 1 (IntKind.u64.wrap n)), vi (shlK .i64 1 (IntKind.u64.wrap n)), .slice B1 Cells.length c1] 0 hS5 K6 rfl (hf.g 4 2)) ?_
  rintro _ w_15 ⟨rfl, hS22⟩
  refine rn (ct_ ?_)
  obtain rfl := sI hF1
  exact ret1 Tryz.results79 (v1 := .agg #[vi (shlK .i64 1 (IntKind.u64.wrap n)), vi (shlK .i64 1 (IntKind.u64.wrap n)), .slice B1 Cells.length c1]) (resAt_cellA (B := aD b1) (i := 0) (cs := [vi (shlK .i64 1 (IntKind.u64.wrap n)), vi (shlK .i64 1 (IntKind.u64.wrap n)), .slice B1 Cells.length c1]) (vs := [vi (shlK .i64 1 (IntKind.u64.wrap n)), vi (shlK .i64 1 (IntKind.u64.wrap n)), .slice B1 Cells.length c1]) (hf.g 4 2) K13 K6 (hS22.c 1) rfl rfl) ⟨B1, c1, rfl, (hS22.sN [3])⟩
end Go.VK
