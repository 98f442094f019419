/- Walks: each Go function returns what its Lean function says. By program. -/
import Derived.Test.YtkmncijipedjaaaGreatDoorTableSizeFa
import Derived.Test.YtkmncijipedjaaaGreatDoorTableSizeShelf
import Derived.Test.YtkmncijipedjaaaGreatDoorLibU
import Derived.Test.YtkmncijipedjaaaGreatDoorTableSizeW2
set_option linter.unusedVariables false
set_option maxRecDepth 100000
set_option maxHeartbeats 4000000
namespace Go.VK
open Go.RowKit
open Go.Proofs
open Go.IntKind
attribute [local irreducible] CW RW RA CV Y Yw Yc Ys RetOf
attribute [local irreducible] F_spec_TableSize F_impl_within F_impl_matrixOf F_impl_whole F_impl_IdentityMatrix F_impl_phase F_impl_IsValidDyadic F_impl_IsValidMatrix F_impl_ringIf F_impl_DyadicOf F_impl_MulDyadic F_impl_Matrix_at F_impl_OperatorKey F_impl_tableGates F_impl_isTwo F_impl_IsValidGate F_impl_bitOf F_impl_flipped F_impl_comesFrom F_impl_small F_impl_entry F_impl_GateMatrix_1 F_impl_GateMatrix F_impl_MulRootTwo F_impl_raised F_impl_combined F_impl_AddRing F_impl_AddDyadic F_impl_MulMatrix_1 F_impl_MulMatrix F_slices_Clone_impl_Gate_impl_Gate F_impl_TableSize F_laws_FnExactTableSize
theorem c_impl_entry (kind : Int) (i : Int) (j : Int)  (w0 : World)  (hS : ST w0 [] w0 [] []) {r_ : TDyadic} (hF : F_impl_entry kind i j = some r_) :
  CV Tryz.prog 68 #[vi kind, vi i, vi j] w0 (fun v w' => v = (gD_ r_) ∧ ST w0 [] w' [] []) := by
 unfold F_impl_entry at hF
 refine cv_of_cw 67 Tryz.func68 rfl Tryz.ntmps68 rfl ?_
 refine cq (cr ?_)
 refine sS 6 (yN kZ_ 5 hS K7) ?_
 rintro _ w_ ⟨b, rfl, hS1⟩
 refine rn (cq (cr ?_))
 refine sQ 9 (Y_buildS (zs := [vi 0, vi 0, vi 0, vi 0]) (vs := [(0, vi 1)]) (cs := [vi 1, vi 0, vi 0, vi 0]) K29 K10 rfl (mpc rfl mpn) rfl) <| sQ 10 (Y_buildS (zs := kZ_) (vs := [(0, .agg #[vi 1, vi 0, vi 0, vi 0]), (1, vi 1)]) (cs := [vi 1, vi 0, vi 0, vi 0, vi 1]) K20 K7 rfl (mpc rfl (mpc rfl mpn)) rfl) ?_
 refine sS 7 (yN kZ_ 5 hS1 K7) ?_
 rintro _ w_1 ⟨b1, rfl, hS2⟩
 refine s0 (yT 1 5 (aD b1) 91 (.agg #[vi 1, vi 0, vi 0, vi 0, vi 1]) [vi 1, vi 0, vi 0, vi 0, vi 1] 0 hS2 K2) ?_
 rintro _ w_2 ⟨rfl, hS3⟩
 refine rn (cq (cr ?_))
 refine sS 11 (Ys_mkMap (T := 137) hS3 rfl) ?_
 rintro _ w_3 ⟨g, rfl, hS4⟩
 refine s0 (Ys_mapIns (kE := (Value.int .i64)) (vE := (Value.int .i64)) (l := ([] : List (Int × Int))) (a := 4) (b := 4) (g := g) (i := 2) hS4 (keyInt K27) K68 rfl rfl rfl rfl rfl rfl) ?_
 rintro _ w_4 ⟨rfl, hS5⟩
 refine s0 (Ys_mapIns (kE := (Value.int .i64)) (vE := (Value.int .i64)) (l := (mput ([] : List (Int × Int)) 4 4)) (a := 5) (b := 2) (g := g) (i := 2) hS5 (keyInt K27) K68 rfl rfl rfl rfl rfl rfl) ?_
 rintro _ w_5 ⟨rfl, hS6⟩
 refine s0 (Ys_mapIns (kE := (Value.int .i64)) (vE := (Value.int .i64)) (l := (mput (mput ([] : List (Int × Int)) 4 4) 5 2)) (a := 6) (b := 6) (g := g) (i := 2) hS6 (keyInt K27) K68 rfl rfl rfl rfl rfl rfl) ?_
 rintro _ w_6 ⟨rfl, hS7⟩
 refine s0 (Ys_mapIns (kE := (Value.int .i64)) (vE := (Value.int .i64)) (l := (mput (mput (mput ([] : List (Int × Int)) 4 4) 5 2) 6 6)) (a := 7) (b := 1) (g := g) (i := 2) hS7 (keyInt K27) K68 rfl rfl rfl rfl rfl rfl) ?_
 rintro _ w_7 ⟨rfl, hS8⟩
 refine s0 (Ys_mapIns (kE := (Value.int .i64)) (vE := (Value.int .i64)) (l := (mput (mput (mput (mput ([] : List (Int × Int)) 4 4) 5 2) 6 6) 7 1)) (a := 8) (b := 7) (g := g) (i := 2) hS8 (keyInt K27) K68 rfl rfl rfl rfl rfl rfl) ?_
 rintro _ w_8 ⟨rfl, hS9⟩
 refine sQ 12 (ym (.map (some g))) <| sQ 8 (yg (.map (some g))) (rn (cq (cw_block (cq (cr ?_)))))
 refine sQ 14 (ym (vi kind)) <| sQ 15 (yE kind 1) <| sQ 13 (yg (.bool (kind == 1))) (rn ?_)
 refine cw_cond (b := (kind == 1)) rfl (fun hb => ?_) (fun hb => ?_)
 ·skip
  have hF1 := ct hF hb
  refine cq ?_
  obtain ⟨z, hz, hF2⟩ := bI hF1
  refine cw_mid (fun f w => ∃ (A : Int), A = z ∧ FF f [(6, pt (aD b) 0), (7, pt (aD b1) 0)] ∧ ST w0 [] w [⟨aD b, 91, kZ_, 5⟩, ⟨aD b1, 91, [vi A, vi 0, vi 0, vi 0, vi 1], 5⟩] []) ?_ ?_
  ·skip
   refine cq (cr ?_)
   refine sQ 16 (ym (vi i)) <| sQ 17 (yE i 1) <| sQ 18 (ym (.bool (i == 1))) ?_
   refine sgq 19 (B := (i == 1)) (v := vi j) rfl rfl (uT_ 18) (fun hg => (ym (vi j))) ?_
   refine sgq 20 (B := (i == 1)) (v := .bool (j == 1)) rfl rfl (uT_ 18) (fun hg1 => (yE j 1 rfl (gv_of (v := vi j) hg1))) ?_
   refine sQ 21 (Y_and (b := (i == 1)) (z := (j == 1)) rfl rfl rfl rfl) (rn ?_)
   refine cw_cond (b := ((i == 1) && (j == 1))) rfl (fun hb1 => ?_) (fun hb1 => ?_)
   ·skip
    have hF3 := ct hz hb1
    refine cr ?_
    refine sQ 22 (yd (aD b1) 0 3 K31 K3) <| sQ 23 (yd (aD b1) 0 0 K12 K1) ?_
    refine s0 (yS 1 1 (aD b1) 91 (vi (-1)) [vi (-1)] 0 [vi (-1), vi 0, vi 0, vi 0, vi 1] hS9 K1) ?_
    rintro _ w_9 ⟨rfl, hS11⟩
    refine rn ?_
    exact ⟨(-1), (sI hF3), (fc rfl (fc rfl fn_)), (hS11.sel [0, 1] rfl rfl)⟩
   ·skip
    have hF4 := cf' hz hb1
    refine cw_skip ?_
    exact ⟨1, (sI hF4), (fc rfl (fc rfl fn_)), (hS9.sel [0, 1] rfl rfl)⟩
  rintro f w ⟨A, rfl, hf, hS10⟩
  refine cq (cr ?_)
  refine sQ 24 (yb (aD b1) 0 [vi A, vi 0, vi 0, vi 0, vi 1] K5 K2 (hS10.c 1) rfl (hf.g 7 1)) ?_
  refine s0 (yT 0 5 (aD b) 91 (.agg #[vi A, vi 0, vi 0, vi 0, vi 1]) [vi A, vi 0, vi 0, vi 0, vi 1] 0 hS10 K2 rfl (hf.g 6 0)) ?_
  rintro _ w_10 ⟨rfl, hS12⟩
  refine rn (ct_ ?_)
  obtain rfl := sI hF2
  exact ret1 Tryz.results68 (v1 := .agg #[vi A, vi 0, vi 0, vi 0, vi 1]) (resAt_cellA (B := aD b) (i := 0) (cs := [vi A, vi 0, vi 0, vi 0, vi 1]) (vs := [vi A, vi 0, vi 0, vi 0, vi 1]) (hf.g 6 0) K5 K2 (hS12.c 0) rfl rfl) ⟨rfl, (hS12.sN [])⟩
 ·skip
  have hF5 := cf' hF hb
  refine cq (cr ?_)
  refine sQ 26 (ym (vi kind)) <| sQ 27 (yE kind 2) <| sQ 28 (ym (.bool (kind == 2))) ?_
  refine sgq 29 (B := (kind == 2)) (v := vi i) rfl rfl (uT_ 28) (fun hg2 => (ym (vi i))) ?_
  refine sgq 30 (B := (kind == 2)) (v := vi j) rfl rfl (uT_ 28) (fun hg3 => (ym (vi j))) ?_
  refine sgq 31 (B := (kind == 2)) (v := .bool (i != j)) rfl rfl (uT_ 28) (fun hg4 => (Y_ne (k := .i64) (a := i) (b := j) rfl (gv_of (v := vi i) hg4) (gv_of (v := vi j) hg4))) ?_
  refine sQ 32 (Y_and (b := (kind == 2)) (z := (i != j)) rfl rfl rfl rfl) <| sQ 25 (yg (.bool ((kind == 2) && (i != j)))) (rn ?_)
  refine cw_cond (b := ((kind == 2) && (i != j))) rfl (fun hb2 => ?_) (fun hb2 => ?_)
  ·skip
   have hF6 := ct hF5 hb2
   refine cq (cr ?_)
   obtain ⟨r_1, hc, hF6⟩ := bI hF6
   refine sc 33 rfl rfl (yC [vi 1] K94 (c_impl_whole 1 _  (hS9.inn0 [] rfl) hc)) ?_
   rintro _ w_11 ⟨rfl, hd⟩
   have hS13 := hS9.out00 hd
   refine s0 (yT 0 5 (aD b) 91 (gD_ r_1) (kD_ r_1) 0 hS13 K2) ?_
   rintro _ w_12 ⟨rfl, hS14⟩
   refine rn (ct_ ?_)
   obtain rfl := sI hF6
   exact ret1 Tryz.results68 (v1 := gD_ r_1) (resAt_cellA (B := aD b) (i := 0) (cs := kD_ r_1) (vs := kD_ r_1) rfl K5 K2 (hS14.c 0) rfl rfl) ⟨rfl, (hS14.sN [])⟩
  ·skip
   have hF7 := cf' hF5 hb2
   refine cq (cr ?_)
   refine sQ 35 (ym (vi kind)) <| sQ 36 (yE kind 3) <| sQ 37 (ym (.bool (kind == 3))) ?_
   refine sgq 38 (B := (kind == 3)) (v := vi i) rfl rfl (uT_ 37) (fun hg5 => (ym (vi i))) ?_
   refine sgq 39 (B := (kind == 3)) (v := vi j) rfl rfl (uT_ 37) (fun hg6 => (ym (vi j))) ?_
   refine sgq 40 (B := (kind == 3)) (v := .bool (i != j)) rfl rfl (uT_ 37) (fun hg7 => (Y_ne (k := .i64) (a := i) (b := j) rfl (gv_of (v := vi i) hg7) (gv_of (v := vi j) hg7))) ?_
   refine sQ 41 (Y_and (b := (kind == 3)) (z := (i != j)) rfl rfl rfl rfl) <| sQ 34 (yg (.bool ((kind == 3) && (i != j)))) (rn ?_)
   refine cw_cond (b := ((kind == 3) && (i != j))) rfl (fun hb3 => ?_) (fun hb3 => ?_)
   ·skip
    have hF8 := ct hF7 hb3
    refine cq (cr ?_)
    refine sQ 42 (ym (vi j)) <| sQ 43 (yX 4 j) <| sQ 44 (yP 2 (i64.wrap (4 * j))) ?_
    obtain ⟨r_2, hc1, hF8⟩ := bI hF8
    refine sc 45 rfl rfl (yC [vi (i64.wrap (2 + (i64.wrap (4 * j))))] K64 (c_impl_phase (i64.wrap (2 + (i64.wrap (4 * j)))) _  (hS9.inn0 [] rfl) hc1)) ?_
    rintro _ w_13 ⟨rfl, hd1⟩
    have hS15 := hS9.out00 hd1
    refine s0 (yT 0 5 (aD b) 91 (gD_ r_2) (kD_ r_2) 0 hS15 K2) ?_
    rintro _ w_14 ⟨rfl, hS16⟩
    refine rn (ct_ ?_)
    obtain rfl := sI hF8
    exact ret1 Tryz.results68 (v1 := gD_ r_2) (resAt_cellA (B := aD b) (i := 0) (cs := kD_ r_2) (vs := kD_ r_2) rfl K5 K2 (hS16.c 0) rfl rfl) ⟨rfl, (hS16.sN [])⟩
   ·skip
    have hF9 := cf' hF7 hb3
    refine cq (cr ?_)
    refine sQ 47 (ym (vi kind)) <| sQ 48 (yE kind 2) <| sQ 49 (ym (.bool (kind == 2))) ?_
    refine sgq 50 (B := (!(kind == 2))) (v := vi kind) rfl rfl (uF_ 49) (fun hg8 => (ym (vi kind))) ?_
    refine sgq 51 (B := (!(kind == 2))) (v := .bool (kind == 3)) rfl rfl (uF_ 49) (fun hg9 => (yE kind 3 rfl (gv_of (v := vi kind) hg9))) ?_
    refine sQ 52 (Y_or (b := (kind == 2)) (z := (kind == 3)) rfl rfl rfl rfl) <| sQ 53 (ym (.bool ((kind == 2) || (kind == 3)))) ?_
    refine sgq 54 (B := (!((kind == 2) || (kind == 3)))) (v := vi i) rfl rfl (uF_ 53) (fun hg10 => (ym (vi i))) ?_
    refine sgq 55 (B := (!((kind == 2) || (kind == 3)))) (v := vi j) rfl rfl (uF_ 53) (fun hg11 => (ym (vi j))) ?_
    refine sgq 56 (B := (!((kind == 2) || (kind == 3)))) (v := .bool (i != j)) rfl rfl (uF_ 53) (fun hg12 => (Y_ne (k := .i64) (a := i) (b := j) rfl (gv_of (v := vi i) hg12) (gv_of (v := vi j) hg12))) ?_
    refine sQ 57 (Y_or (b := ((kind == 2) || (kind == 3))) (z := (i != j)) rfl rfl rfl rfl) <| sQ 46 (yg (.bool (((kind == 2) || (kind == 3)) || (i != j)))) (rn ?_)
    refine cw_cond (b := (((kind == 2) || (kind == 3)) || (i != j))) rfl (fun hb4 => ?_) (fun hb4 => ?_)
    ·skip
     have hF10 := ct hF9 hb4
     refine cq (cr ?_)
     refine sQ 58 (Y_buildS (zs := kZ_) (vs := []) (cs := kZ_) K20 K7 rfl mpn rfl) ?_
     refine s0 (yT 0 5 (aD b) 91 gZ_ kZ_ 0 hS9 K2) ?_
     rintro _ w_15 ⟨rfl, hS17⟩
     refine rn (ct_ ?_)
     obtain rfl := sI hF10
     exact ret1 Tryz.results68 (v1 := gZ_) (resAt_cellA (B := aD b) (i := 0) (cs := kZ_) (vs := kZ_) rfl K5 K2 (hS17.c 0) rfl rfl) ⟨rfl, (hS17.sN [])⟩
    ·skip
     have hF11 := cf' hF9 hb4
     refine cq (cr ?_)
     refine sQ 60 (ym (vi i)) <| sQ 61 (yE i 0) <| sQ 59 (yg (.bool (i == 0))) (rn ?_)
     refine cw_cond (b := (i == 0)) rfl (fun hb5 => ?_) (fun hb5 => ?_)
     ·skip
      have hF12 := ct hF11 hb5
      refine cq (cr ?_)
      obtain ⟨r_3, hc2, hF12⟩ := bI hF12
      refine sc 62 rfl rfl (yC [vi 1] K94 (c_impl_whole 1 _  (hS9.inn0 [] rfl) hc2)) ?_
      rintro _ w_16 ⟨rfl, hd2⟩
      have hS18 := hS9.out00 hd2
      refine s0 (yT 0 5 (aD b) 91 (gD_ r_3) (kD_ r_3) 0 hS18 K2) ?_
      rintro _ w_17 ⟨rfl, hS19⟩
      refine rn (ct_ ?_)
      obtain rfl := sI hF12
      exact ret1 Tryz.results68 (v1 := gD_ r_3) (resAt_cellA (B := aD b) (i := 0) (cs := kD_ r_3) (vs := kD_ r_3) rfl K5 K2 (hS19.c 0) rfl rfl) ⟨rfl, (hS19.sN [])⟩
     ·skip
      have hF13 := cf' hF11 hb5
      refine cw_skip (cq (cr ?_))
      refine sQ 63 (ym (.map (some g))) <| sQ 64 (ym (vi kind)) <| sQ 65 (Y_mapGet (kE := (Value.int .i64)) (vE := (Value.int .i64)) (l := (mput (mput (mput (mput (mput ([] : List (Int × Int)) 4 4) 5 2) 6 6) 7 1) 8 7)) (a := kind) (d := 0) (g := g) (i := 2) hS9 (keyInt K27) K68 k_zero_3 rfl rfl rfl rfl) ?_
      obtain ⟨r_4, hc3, hF13⟩ := bI hF13
      refine sc 66 rfl rfl (yC [vi (mgt (mput (mput (mput (mput (mput ([] : List (Int × Int)) 4 4) 5 2) 6 6) 7 1) 8 7) kind 0)] K64 (c_impl_phase (mgt (mput (mput (mput (mput (mput ([] : List (Int × Int)) 4 4) 5 2) 6 6) 7 1) 8 7) kind 0) _  (hS9.inn0 [] rfl) hc3)) ?_
      rintro _ w_18 ⟨rfl, hd3⟩
      have hS20 := hS9.out00 hd3
      refine s0 (yT 0 5 (aD b) 91 (gD_ r_4) (kD_ r_4) 0 hS20 K2) ?_
      rintro _ w_19 ⟨rfl, hS21⟩
      refine rn (ct_ ?_)
      obtain rfl := sI hF13
      exact ret1 Tryz.results68 (v1 := gD_ r_4) (resAt_cellA (B := aD b) (i := 0) (cs := kD_ r_4) (vs := kD_ r_4) rfl K5 K2 (hS21.c 0) rfl rfl) ⟨rfl, (hS21.sN [])⟩

theorem c_impl_GateMatrix_1 (i : Int) (j : Int) (p : TGate) (p1 : Int) (B : Option Addr) (B1 : Option Addr) (w0 : World)  (hS : ST w0 [] w0 [] [⟨B, [vi p.Kind, vi p.A, vi p.B]⟩, ⟨B1, [vi p1]⟩]) {r_ : TDyadic} {r_1 : Bool} (hF : F_impl_GateMatrix_1 i j p p1 = some (r_, r_1)) :
  CV Tryz.prog 61 #[vi i, vi j, pt B 0, pt B1 0] w0 (fun v w' => v = .tuple #[gD_ r_, .bool r_1] ∧ ST w0 [] w' [] []) := by
 unfold F_impl_GateMatrix_1 at hF
 refine cv_of_cw 75 Tryz.func61 rfl Tryz.ntmps61 rfl ?_
 refine cq (cr ?_)
 refine sS 6 (yN kZ_ 5 hS K7) ?_
 rintro _ w_ ⟨b, rfl, hS1⟩
 refine sQ 7 (yg (.bool false)) (rn (cq ?_))
 obtain ⟨z, hz, hF1⟩ := bI hF
 refine cw_mid (fun f w => .inl () = z ∧ FF f [(6, pt (aD b) 0)] ∧ ST w0 [] w [⟨aD b, 91, kZ_, 5⟩] [⟨B, [vi p.Kind, vi p.A, vi p.B]⟩, ⟨B1, [vi p1]⟩]) ?_ ?_
 ·skip
  refine cw_block (cq (cr ?_))
  refine sQ 9 (yd B 0 0 K42 K1) <| sQ 10 (yl B 0 [vi p.Kind, vi p.A, vi p.B] (vi p.Kind) K0 (hS1.rf (i := 0) rfl)) <| sQ 11 (yE p.Kind 12) <| sQ 8 (yg (.bool (p.Kind == 12))) (rn ?_)
  refine cw_cond (b := (p.Kind == 12)) rfl (fun hb => ?_) (fun hb => ?_)
  ·skip
   have hF2 := ct hz hb
   refine cq (cr ?_)
   refine sQ 12 (ym (vi i)) <| sQ 13 (ym (vi j)) <| sQ 14 (yE i j) (rn ?_)
   refine cw_cond (b := (i == j)) rfl (fun hb1 => ?_) (fun hb1 => ?_)
   ·skip
    have hF3 := ct hF2 hb1
    refine cq (cr ?_)
    obtain ⟨r_2, hc, hF3⟩ := bI hF3
    refine sc 15 rfl rfl (yC [vi 1] K64 (c_impl_phase 1 _  (hS1.inn0 [] rfl) hc)) ?_
    rintro _ w_1 ⟨rfl, hd⟩
    have hS3 := hS1.out00 hd
    refine s0 (yT 0 5 (aD b) 91 (gD_ r_2) (kD_ r_2) 0 hS3 K2) ?_
    rintro _ w_2 ⟨rfl, hS4⟩
    refine sQ 7 (yg (.bool true)) (rn (ct_ ?_))
    obtain rfl := sI hF3
    obtain ⟨rfl, rfl⟩ := pr2 (sI hF1)
    exact ret2 Tryz.results61 (v1 := gD_ r_2) (resAt_cellA (B := aD b) (i := 0) (cs := kD_ r_2) (vs := kD_ r_2) rfl K5 K2 (hS4.c 0) rfl rfl) (v2 := .bool true) (resAt_tmp rfl) ⟨rfl, (hS4.sN [])⟩
   ·skip
    have hF4 := cf' hF2 hb1
    refine cw_skip ?_
    exact ⟨(sI hF4), (fc rfl fn_), (hS1.sel [0] rfl rfl)⟩
  ·skip
   have hF5 := cf' hz hb
   refine cq (cr ?_)
   refine sQ 17 (yd B 0 0 K42 K1) <| sQ 18 (yl B 0 [vi p.Kind, vi p.A, vi p.B] (vi p.Kind) K0 (hS1.rf (i := 0) rfl)) ?_
   obtain ⟨r_3, hc1, hF5⟩ := bI hF5
   refine sc 19 rfl rfl (yC [vi p.Kind] k_call_63 (c_impl_isTwo p.Kind _  (hS1.inn0 [] rfl) hc1)) ?_
   rintro _ w_3 ⟨rfl, hd1⟩
   have hS5 := hS1.out00 hd1
   refine sQ 16 (yg (.bool r_3)) (rn ?_)
   refine cw_cond (b := r_3) rfl (fun hb2 => ?_) (fun hb2 => ?_)
   ·skip
    have hF6 := ct hF5 hb2
    refine cq (cr ?_)
    refine sQ 20 (yl B1 0 [vi p1] (vi p1) K0 (hS5.rf (i := 1) rfl)) <| sQ 21 (yb B 0 [vi p.Kind, vi p.A, vi p.B] K52 K19 (hS5.rf (i := 0) rfl)) <| sQ 22 (ym (vi i)) ?_
    obtain ⟨r_4, hc2, hF6⟩ := bI hF6
    refine sc 23 rfl rfl (yC [vi p1, .agg #[vi p.Kind, vi p.A, vi p.B], vi i] k_call_64 (c_impl_comesFrom p1 p i _  (hS5.inn0 [] rfl) hc2)) ?_
    rintro _ w_4 ⟨rfl, hd2⟩
    have hS6 := hS5.out00 hd2
    refine sQ 24 (ym (vi j)) <| sQ 25 (yE r_4 j) (rn ?_)
    refine cw_cond (b := (r_4 == j)) rfl (fun hb3 => ?_) (fun hb3 => ?_)
    ·skip
     have hF7 := ct hF6 hb3
     refine cq (cr ?_)
     refine sQ 26 (yd B 0 0 K42 K1) <| sQ 27 (yl B 0 [vi p.Kind, vi p.A, vi p.B] (vi p.Kind) K0 (hS6.rf (i := 0) rfl)) <| sQ 28 (yE p.Kind 10) <| sQ 29 (ym (.bool (p.Kind == 10))) ?_
     refine sgq 30 (B := (p.Kind == 10)) (v := vi p1) rfl rfl (uT_ 29) (fun hg => (yl B1 0 [vi p1] (vi p1) K0 (hS6.rf (i := 1) rfl))) ?_
     refine sgq 31 (B := (p.Kind == 10)) (v := vi i) rfl rfl (uT_ 29) (fun hg1 => (ym (vi i))) ?_
     refine sgq 32 (B := (p.Kind == 10)) (v := pt B 1) rfl rfl (uT_ 29) (fun hg2 => (yd B 0 0 K33 K1)) ?_
     refine sgq 33 (B := (p.Kind == 10)) (v := vi p.A) rfl rfl (uT_ 29) (fun hg3 => (yl B 1 [vi p.Kind, vi p.A, vi p.B] (vi p.A) K0 (hS6.rf (i := 0) rfl) rfl (gv_of (v := pt B 1) hg3))) ?_
     obtain ⟨r_5, hc3, hF7⟩ := bI hF7
     refine sgc 34 (B := (p.Kind == 10)) (v := vi r_5) (F := hS6.fn) rfl rfl (uT_ 29) hS6 (fun hg4 => (yC [vi p1, vi i, vi p.A] K67 (CV.mono (c_impl_bitOf p1 i p.A _  (hS6.inn0 [] rfl) (gb_inv hc3 hg4)) (by rintro _ _ ⟨rfl, h⟩; exact ⟨rfl, hS6.out00 h⟩)) rfl (mc (gv_of (v := vi p1) hg4) (mc (gv_of (v := vi i) hg4) (mc (gv_of (v := vi p.A) hg4) mn))))) ?_
     rintro w_5 hS7
     refine sgq 35 (B := (p.Kind == 10)) (v := .bool (r_5 == 1)) rfl rfl (uT_ 29) (fun hg5 => (yE r_5 1 rfl (gv_of (v := vi r_5) hg5))) ?_
     refine sQ 36 (Y_and (b := (p.Kind == 10)) (z := (r_5 == 1)) rfl rfl rfl rfl) <| sQ 37 (ym (.bool ((p.Kind == 10) && (r_5 == 1)))) ?_
     refine sgq 38 (B := ((p.Kind == 10) && (r_5 == 1))) (v := vi p1) rfl rfl (uT_ 37) (fun hg6 => (yl B1 0 [vi p1] (vi p1) K0 (hS7.rf (i := 1) rfl))) ?_
     refine sgq 39 (B := ((p.Kind == 10) && (r_5 == 1))) (v := vi i) rfl rfl (uT_ 37) (fun hg7 => (ym (vi i))) ?_
     refine sgq 40 (B := ((p.Kind == 10) && (r_5 == 1))) (v := pt B 2) rfl rfl (uT_ 37) (fun hg8 => (yd B 0 0 K41 K1)) ?_
     refine sgq 41 (B := ((p.Kind == 10) && (r_5 == 1))) (v := vi p.B) rfl rfl (uT_ 37) (fun hg9 => (yl B 2 [vi p.Kind, vi p.A, vi p.B] (vi p.B) K0 (hS7.rf (i := 0) rfl) rfl (gv_of (v := pt B 2) hg9))) ?_
     obtain ⟨r_6, hc4, hF7⟩ := bI hF7
     refine sgc 42 (B := ((p.Kind == 10) && (r_5 == 1))) (v := vi r_6) (F := hS7.fn) rfl rfl (uT_ 37) hS7 (fun hg10 => (yC [vi p1, vi i, vi p.B] K67 (CV.mono (c_impl_bitOf p1 i p.B _  (hS7.inn0 [] rfl) (gb_inv hc4 hg10)) (by rintro _ _ ⟨rfl, h⟩; exact ⟨rfl, hS7.out00 h⟩)) rfl (mc (gv_of (v := vi p1) hg10) (mc (gv_of (v := vi i) hg10) (mc (gv_of (v := vi p.B) hg10) mn))))) ?_
     rintro w_6 hS8
     refine sgq 43 (B := ((p.Kind == 10) && (r_5 == 1))) (v := .bool (r_6 == 1)) rfl rfl (uT_ 37) (fun hg11 => (yE r_6 1 rfl (gv_of (v := vi r_6) hg11))) ?_
     refine sQ 44 (Y_and (b := ((p.Kind == 10) && (r_5 == 1))) (z := (r_6 == 1)) rfl rfl rfl rfl) ?_
     obtain ⟨r_7, hc5, hF7⟩ := bI hF7
     refine sc 45 rfl rfl (yC [.bool (((p.Kind == 10) && (r_5 == 1)) && (r_6 == 1))] k_call_65 (c_impl_small (((p.Kind == 10) && (r_5 == 1)) && (r_6 == 1)) _  (hS8.inn0 [] rfl) hc5)) ?_
     rintro _ w_7 ⟨rfl, hd3⟩
     have hS9 := hS8.out00 hd3
     refine sQ 46 (yX 4 r_7) ?_
     obtain ⟨r_8, hc6, hF7⟩ := bI hF7
     refine sc 47 rfl rfl (yC [vi (i64.wrap (4 * r_7))] K64 (c_impl_phase (i64.wrap (4 * r_7)) _  (hS9.inn0 [] rfl) hc6)) ?_
     rintro _ w_8 ⟨rfl, hd4⟩
     have hS10 := hS9.out00 hd4
     refine s0 (yT 0 5 (aD b) 91 (gD_ r_8) (kD_ r_8) 0 hS10 K2) ?_
     rintro _ w_9 ⟨rfl, hS11⟩
     refine sQ 7 (yg (.bool true)) (rn (ct_ ?_))
     obtain rfl := sI hF7
     obtain ⟨rfl, rfl⟩ := pr2 (sI hF1)
     exact ret2 Tryz.results61 (v1 := gD_ r_8) (resAt_cellA (B := aD b) (i := 0) (cs := kD_ r_8) (vs := kD_ r_8) rfl K5 K2 (hS11.c 0) rfl rfl) (v2 := .bool true) (resAt_tmp rfl) ⟨rfl, (hS11.sN [])⟩
    ·skip
     have hF8 := cf' hF6 hb3
     refine cw_skip ?_
     exact ⟨(sI hF8), (fc rfl fn_), (hS6.sel [0] rfl rfl)⟩
   ·skip
    have hF9 := cf' hF5 hb2
    refine cq (cr ?_)
    refine sQ 49 (ym (vi i)) <| sQ 50 (ym (vi j)) <| sQ 51 (yE i j) <| sQ 52 (ym (.bool (i == j))) ?_
    refine sgq 53 (B := (!(i == j))) (v := vi p1) rfl rfl (uF_ 52) (fun hg12 => (yl B1 0 [vi p1] (vi p1) K0 (hS5.rf (i := 1) rfl))) ?_
    refine sgq 54 (B := (!(i == j))) (v := vi i) rfl rfl (uF_ 52) (fun hg13 => (ym (vi i))) ?_
    refine sgq 55 (B := (!(i == j))) (v := pt B 1) rfl rfl (uF_ 52) (fun hg14 => (yd B 0 0 K33 K1)) ?_
    refine sgq 56 (B := (!(i == j))) (v := vi p.A) rfl rfl (uF_ 52) (fun hg15 => (yl B 1 [vi p.Kind, vi p.A, vi p.B] (vi p.A) K0 (hS5.rf (i := 0) rfl) rfl (gv_of (v := pt B 1) hg15))) ?_
    obtain ⟨r_9, hc7, hF9⟩ := bI hF9
    refine sgc 57 (B := (!(i == j))) (v := vi r_9) (F := hS5.fn) rfl rfl (uF_ 52) hS5 (fun hg16 => (yC [vi p1, vi i, vi p.A] K82 (CV.mono (c_impl_flipped p1 i p.A _  (hS5.inn0 [] rfl) (gb_inv hc7 hg16)) (by rintro _ _ ⟨rfl, h⟩; exact ⟨rfl, hS5.out00 h⟩)) rfl (mc (gv_of (v := vi p1) hg16) (mc (gv_of (v := vi i) hg16) (mc (gv_of (v := vi p.A) hg16) mn))))) ?_
    rintro w_10 hS12
    refine sgq 58 (B := (!(i == j))) (v := vi j) rfl rfl (uF_ 52) (fun hg17 => (ym (vi j))) ?_
    refine sgq 59 (B := (!(i == j))) (v := .bool (r_9 == j)) rfl rfl (uF_ 52) (fun hg18 => (yE r_9 j rfl (gv_of (v := vi r_9) hg18) (gv_of (v := vi j) hg18))) ?_
    refine sQ 60 (Y_or (b := (i == j)) (z := (r_9 == j)) rfl rfl rfl rfl) <| sQ 48 (yg (.bool ((i == j) || (r_9 == j)))) (rn ?_)
    refine cw_cond (b := ((i == j) || (r_9 == j))) rfl (fun hb4 => ?_) (fun hb4 => ?_)
    ·skip
     have hF10 := ct hF9 hb4
     refine cq ?_
     obtain ⟨r_10, hc8, hF10⟩ := bI hF10
     obtain ⟨r_11, hc9, hF10⟩ := bI hF10
     obtain ⟨r_12, hc10, hF10⟩ := bI hF10
     refine ra_start (hS12.se []).fn (by kernel_rfl) ?_
     have hS16 := hS12.drew
     refine rq 0 61 (v := pt B 0) rfl (hS16.se []) (fun w' hw' => (yd B 0 0 K42 K1)) ?_
     refine rq 1 62 (v := vi p.Kind) rfl (hS16.se []) (fun w' hw' => (yl B 0 [vi p.Kind, vi p.A, vi p.B] (vi p.Kind) K0 (ST.rf hw' (i := 0) rfl))) ?_
     refine rq 2 63 (v := vi p1) rfl (hS16.se []) (fun w' hw' => (yl B1 0 [vi p1] (vi p1) K0 (ST.rf hw' (i := 1) rfl))) ?_
     refine rq 3 64 (v := vi i) rfl (hS16.se []) (fun w' hw' => (ym (vi i))) ?_
     refine rq 4 65 (v := pt B 1) rfl (hS16.se []) (fun w' hw' => (yd B 0 0 K33 K1)) ?_
     refine rq 5 66 (v := vi p.A) rfl (hS16.se []) (fun w' hw' => (yl B 1 [vi p.Kind, vi p.A, vi p.B] (vi p.A) K0 (ST.rf hw' (i := 0) rfl))) ?_
     refine rq 7 68 (v := vi p1) rfl (hS16.se []) (fun w' hw' => (yl B1 0 [vi p1] (vi p1) K0 (ST.rf hw' (i := 1) rfl))) ?_
     refine rq 8 69 (v := vi j) rfl (hS16.se []) (fun w' hw' => (ym (vi j))) ?_
     refine rq 9 70 (v := pt B 1) rfl (hS16.se []) (fun w' hw' => (yd B 0 0 K33 K1)) ?_
     refine rq 10 71 (v := vi p.A) rfl (hS16.se []) (fun w' hw' => (yl B 1 [vi p.Kind, vi p.A, vi p.B] (vi p.A) K0 (ST.rf hw' (i := 0) rfl))) ?_
     refine rA [6] ?_
     refine rC 67 6 rfl (yC [vi p1, vi i, vi p.A] K67 (c_impl_bitOf p1 i p.A _  (hS16.inn0 [] rfl) hc8)) ?_ ?_
     ·rintro _ w_11 ⟨rfl, hd5⟩
      have hS17 := hS16.out00 hd5
      refine ⟨(hS17.se []), ?_⟩
      refine rA [11] ?_
      refine rC 72 11 rfl (yC [vi p1, vi j, vi p.A] K67 (c_impl_bitOf p1 j p.A _  (hS17.inn0 [] rfl) hc9)) ?_ ?_
      ·rintro _ w_12 ⟨rfl, hd6⟩
       have hS18 := hS17.out00 hd6
       refine ⟨(hS18.se []), ?_⟩
       refine rA [12] ?_
       refine rC 73 12 rfl (yC [vi p.Kind, vi r_10, vi r_11] k_call_68 (c_impl_entry p.Kind r_10 r_11 _  (hS18.inn0 [] rfl) hc10)) ?_ ?_
       ·rintro _ w_13 ⟨rfl, hd7⟩
        have hS19 := hS18.out00 hd7
        refine ⟨(hS19.se []), ?_⟩
        refine rA [13] ?_
        refine rZ 13 rfl (yT 0 5 (aD b) 91 (gD_ r_12) (kD_ r_12) 0 hS19 K2) ?_ ?_
        ·rintro _ w_14 ⟨rfl, hS20⟩
         refine ⟨(hS20.se []), ?_⟩
         refine rq 14 7 (v := .bool true) rfl (hS20.se []) (fun w' hw' => (yg (.bool true))) ?_
         refine ra_done (by kernel_rfl) ?_
         refine ct_ ?_
         obtain rfl := sI hF10
         obtain ⟨rfl, rfl⟩ := pr2 (sI hF1)
         exact ret2 Tryz.results61 (v1 := gD_ r_12) (resAt_cellA (B := aD b) (i := 0) (cs := kD_ r_12) (vs := kD_ r_12) rfl K5 K2 (hS20.c 0) rfl rfl) (v2 := .bool true) (resAt_tmp rfl) ⟨rfl, (hS20.sN [])⟩
        exact aN
       exact aN
      exact aN
     exact aN
    ·skip
     have hF11 := cf' hF9 hb4
     refine cw_skip ?_
     exact ⟨(sI hF11), (fc rfl fn_), (hS12.sel [0] rfl rfl)⟩
 rintro f w ⟨rfl, hf, hS2⟩
 refine cq (cr ?_)
 refine sQ 74 (Y_buildS (zs := kZ_) (vs := []) (cs := kZ_) K20 K7 rfl mpn rfl) ?_
 refine s0 (yT 0 5 (aD b) 91 gZ_ kZ_ 0 hS2 K2 rfl (hf.g 6 0)) ?_
 rintro _ w_15 ⟨rfl, hS21⟩
 refine sQ 7 (yg (.bool true)) (rn (ct_ ?_))
 obtain ⟨rfl, rfl⟩ := pr2 (sI hF1)
 exact ret2 Tryz.results61 (v1 := gZ_) (resAt_cellA (B := aD b) (i := 0) (cs := kZ_) (vs := kZ_) (hf.g 6 0) K5 K2 (hS21.c 0) rfl rfl) (v2 := .bool true) (resAt_tmp rfl) ⟨rfl, (hS21.sN [])⟩

theorem c_impl_GateMatrix (n : Int) (g : TGate)  (w0 : World)  (hS : ST w0 [] w0 [] []) {r_ : TMatrix} {r_1 : Bool} (hF : F_impl_GateMatrix n g = some (r_, r_1)) :
  CV Tryz.prog 37 #[vi n, .agg #[vi g.Kind, vi g.A, vi g.B]] w0 (fun v w' => ∃ (B : Option Addr) (c : Nat), v = .tuple #[gM_ r_ B c, .bool r_1] ∧ ST w0 [] w' [⟨B, 91, (r_.Cells.flatMap eN1), c * 5⟩] []) := by
 unfold F_impl_GateMatrix at hF
 refine cv_of_cw 19 Tryz.func37 rfl Tryz.ntmps37 rfl ?_
 refine cq (cr ?_)
 refine sS 2 (yB 3 (vi n) [vi n] 1 hS) ?_
 rintro _ w_ ⟨b, rfl, hS1⟩
 refine sS 3 (yB 56 (.agg #[vi g.Kind, vi g.A, vi g.B]) [vi g.Kind, vi g.A, vi g.B] 3 hS1) ?_
 rintro _ w_1 ⟨b1, rfl, hS2⟩
 refine sS 4 (yN kN_ 3 hS2 K11) ?_
 rintro _ w_2 ⟨b2, rfl, hS3⟩
 refine sQ 5 (yg (.bool false)) (rn (cq (cq (cr ?_))))
 refine sQ 6 (yl (aD b) 0 [vi n] (vi n) K0 (hS3.c 0)) <| sQ 7 (yb (aD b1) 0 [vi g.Kind, vi g.A, vi g.B] K52 K19 (hS3.c 1)) ?_
 obtain ⟨r_2, hc, hF⟩ := bI hF
 refine sc 8 rfl rfl (yC [vi n, .agg #[vi g.Kind, vi g.A, vi g.B]] k_call_60 (c_impl_IsValidGate n g _  (hS3.inn0 [] rfl) hc)) ?_
 rintro _ w_3 ⟨rfl, hd⟩
 have hS4 := hS3.out00 hd
 refine sQ 9 (Y_not (p := r_2) rfl rfl) (rn ?_)
 refine cw_cond (b := (!r_2)) rfl (fun hb => ?_) (fun hb => ?_)
 ·skip
  have hF1 := ct hF hb
  refine cq (cr ?_)
  refine sQ 10 (Y_buildS (zs := kN_) (vs := []) (cs := kN_) K39 K11 rfl mpn rfl) ?_
  refine s0 (yT 2 3 (aD b2) 50 gN_ kN_ 0 hS4 K4) ?_
  rintro _ w_4 ⟨rfl, hS5⟩
  refine sQ 5 (yg (.bool false)) (rn (ct_ ?_))
  have hS6 := hS5.addNil 91
  obtain ⟨rfl, rfl⟩ := pr2 (sI hF1)
  exact ret2 Tryz.results37 (v1 := gN_) (resAt_cellA (B := aD b2) (i := 0) (cs := kN_) (vs := kN_) rfl K9 K4 (hS6.c 2) rfl rfl) (v2 := .bool false) (resAt_tmp rfl) ⟨none, 0, rfl, (hS6.sN [3])⟩
 ·skip
  have hF2 := cf' hF hb
  refine cw_skip (cq ?_)
  obtain ⟨hsh, hF2⟩ := chk_inv hF2
  obtain ⟨hsh1, hF2⟩ := chk_inv hF2
  obtain ⟨⟨r_3, r_4⟩, hc1, hF2⟩ := bI hF2
  refine ra_start (hS4.se [0, 1]).fn (by kernel_rfl) ?_
  have hS8 := hS4.drew
  refine rq 0 11 (v := vi n) rfl (hS8.se [0, 1]) (fun w' hw' => (yl (aD b) 0 [vi n] (vi n) K0 (ST.cf hw' (i := 0) rfl))) ?_
  refine rq 1 12 (v := vi (shlK .i64 1 n)) rfl (hS8.se [0, 1]) (fun w' hw' => (Y_shl (k := .i64) (a := 1) (k' := .i64) (b := n) rfl rfl rfl hsh)) ?_
  refine rq 2 13 (v := vi n) rfl (hS8.se [0, 1]) (fun w' hw' => (yl (aD b) 0 [vi n] (vi n) K0 (ST.cf hw' (i := 0) rfl))) ?_
  refine rq 3 14 (v := vi (shlK .i64 1 n)) rfl (hS8.se [0, 1]) (fun w' hw' => (Y_shl (k := .i64) (a := 1) (k' := .i64) (b := n) rfl rfl rfl hsh1)) ?_
  refine rq 4 15 (v := .func (.func 61) #[] #[pt (aD b1) 0, pt (aD b) 0]) rfl (hS8.se [0, 1]) (fun w' hw' => (Y_makeFunc (cs := [pt (aD b1) 0, pt (aD b) 0]) rfl rfl (mc rfl (mc rfl mn)))) ?_
  refine rA [5] ?_
  refine rC 16 5 rfl (yC [vi (shlK .i64 1 n), vi (shlK .i64 1 n), .func (.func 61) #[] #[pt (aD b1) 0, pt (aD b) 0]] K78 (c_impl_matrixOf (shlK .i64 1 n) (shlK .i64 1 n) (fun x_0 x_1 => F_impl_GateMatrix_1 x_0 x_1 g n) 61 (#[pt (aD b1) 0, pt (aD b) 0]) [⟨aD b1, [vi g.Kind, vi g.A, vi g.B]⟩, ⟨aD b, [vi n]⟩] _ k_call_61 (fun w hw x_0 x_1 y_0 y_1 h_ => c_impl_GateMatrix_1 x_0 x_1 g n (aD b1) (aD b) w  hw h_) (hS8.inn0 [(false, 1), (false, 0)] rfl) hc1)) ?_ ?_
  ·rintro _ w_5 ⟨B1, c1, rfl, hd1⟩
   have hS9 := hS8.out0 hd1
   refine ⟨(hS9.se [0, 1]), ?_⟩
   refine rq 6 17 (v := gM_ r_3 B1 c1) rfl (hS9.se [0, 1]) (fun w' hw' => (ye (gM_ r_3 B1 c1))) ?_
   refine rq 7 18 (v := .bool r_4) rfl (hS9.se [0, 1]) (fun w' hw' => (ye (.bool r_4))) ?_
   refine rA [8] ?_
   refine rZ 8 rfl (yT 2 3 (aD b2) 50 (gM_ r_3 B1 c1) (kM_ r_3 B1 c1) 0 hS9 K4) ?_ ?_
   ·rintro _ w_6 ⟨rfl, hS10⟩
    refine ⟨(hS10.se [0, 1]), ?_⟩
    refine rq 9 5 (v := .bool r_4) rfl (hS10.se [0, 1]) (fun w' hw' => (yg (.bool r_4))) ?_
    refine ra_done (by kernel_rfl) ?_
    refine ct_ ?_
    obtain ⟨rfl, rfl⟩ := pr2 (sI hF2)
    exact ret2 Tryz.results37 (v1 := gM_ r_3 B1 c1) (resAt_cellA (B := aD b2) (i := 0) (cs := kM_ r_3 B1 c1) (vs := kM_ r_3 B1 c1) rfl K9 K4 (hS10.c 2) rfl rfl) (v2 := .bool r_4) (resAt_tmp rfl) ⟨B1, c1, rfl, (hS10.sN [3])⟩
   exact aN
  exact aN

theorem c_impl_MulRootTwo (x : TRing)  (w0 : World)  (hS : ST w0 [] w0 [] []) {r_ : TRing} {r_1 : Bool} (hF : F_impl_MulRootTwo x = some (r_, r_1)) :
  CV Tryz.prog 132 #[gR_ x] w0 (fun v w' => v = .tuple #[gR_ r_, .bool r_1] ∧ ST w0 [] w' [] []) := by
 unfold F_impl_MulRootTwo at hF
 refine cv_of_cw 30 Tryz.func132 rfl Tryz.ntmps132 rfl ?_
 refine cq (cr ?_)
 refine sS 1 (yB 89 (gR_ x) (kR_ x) 4 hS) ?_
 rintro _ w_ ⟨b, rfl, hS1⟩
 refine sS 2 (yN [vi 0, vi 0, vi 0, vi 0] 4 hS1 K10) ?_
 rintro _ w_1 ⟨b1, rfl, hS2⟩
 refine sQ 3 (yg (.bool false)) (rn (cq (cr ?_)))
 refine sQ 4 (yd (aD b) 0 0 K14 K1) <| sQ 5 (yl (aD b) 1 (kR_ x) (vi x.B) K0 (hS2.c 0)) <| sQ 6 (yd (aD b) 0 0 K16 K1) <| sQ 7 (yl (aD b) 3 (kR_ x) (vi x.D) K0 (hS2.c 0)) <| sQ 8 (yM x.B x.D) <| sQ 9 (yd (aD b) 0 0 K12 K1) ?_
 refine sQ 10 (yl (aD b) 0 (kR_ x) (vi x.A) K0 (hS2.c 0)) <| sQ 11 (yd (aD b) 0 0 K15 K1) <| sQ 12 (yl (aD b) 2 (kR_ x) (vi x.C) K0 (hS2.c 0)) <| sQ 13 (yP x.A x.C) <| sQ 14 (yd (aD b) 0 0 K14 K1) <| sQ 15 (yl (aD b) 1 (kR_ x) (vi x.B) K0 (hS2.c 0)) ?_
 refine sQ 16 (yd (aD b) 0 0 K16 K1) <| sQ 17 (yl (aD b) 3 (kR_ x) (vi x.D) K0 (hS2.c 0)) <| sQ 18 (yP x.B x.D) <| sQ 19 (yd (aD b) 0 0 K15 K1) <| sQ 20 (yl (aD b) 2 (kR_ x) (vi x.C) K0 (hS2.c 0)) <| sQ 21 (yd (aD b) 0 0 K12 K1) ?_
 refine sQ 22 (yl (aD b) 0 (kR_ x) (vi x.A) K0 (hS2.c 0)) <| sQ 23 (yM x.C x.A) <| sQ 24 (Y_buildS (zs := [vi 0, vi 0, vi 0, vi 0]) (vs := [(0, vi (i64.wrap (x.B - x.D))), (1, vi (i64.wrap (x.A + x.C))), (2, vi (i64.wrap (x.B + x.D))), (3, vi (i64.wrap (x.C - x.A)))]) (cs := [vi (i64.wrap (x.B - x.D)), vi (i64.wrap (x.A + x.C)), vi (i64.wrap (x.B + x.D)), vi (i64.wrap (x.C - x.A))]) K29 K10 rfl (mpc rfl (mpc rfl (mpc rfl (mpc rfl mpn)))) rfl) <| sQ 25 (yb (aD b) 0 (kR_ x) K6 K3 (hS2.c 0)) ?_
 refine sS 26 (Ys_bslice (s := 4) (len := 1) (vs := [(0, gR_ x)]) (cs := kR_ x) (zs := [vi 0, vi 0, vi 0, vi 0]) (m := 4) hS2 K53 K3 K72 rfl (mpc rfl mpn) rfl rfl rfl (by kernel_rfl) (by kernel_rfl) rfl) ?_
 rintro _ w_2 ⟨b2, rfl, hS3⟩
 obtain ⟨⟨r_2, r_3⟩, hc, hF⟩ := bI hF
 refine sc 27 rfl rfl (yC [.agg #[vi (i64.wrap (x.B - x.D)), vi (i64.wrap (x.A + x.C)), vi (i64.wrap (x.B + x.D)), vi (i64.wrap (x.C - x.A))], .slice (aD b2) 1 1] K80 (c_impl_ringIf (TRing.mk (i64.wrap (x.B - x.D)) (i64.wrap (x.A + x.C)) (i64.wrap (x.B + x.D)) (i64.wrap (x.C - x.A))) [x] (aD b2) 1 1 _ rfl (hS3.inn [false, false, true] rfl [] rfl) hc)) ?_
 rintro _ w_3 ⟨rfl, hd⟩
 have hS4 := hS3.out [false, false, true] rfl hd
 refine sQ 28 (ye (gR_ r_2)) <| sQ 29 (ye (.bool r_3)) ?_
 refine s0 (yT 1 4 (aD b1) 89 (gR_ r_2) (kR_ r_2) 0 hS4 K3) ?_
 rintro _ w_4 ⟨rfl, hS5⟩
 refine sQ 3 (yg (.bool r_3)) (rn (ct_ ?_))
 obtain ⟨rfl, rfl⟩ := pr2 (sI hF)
 exact ret2 Tryz.results132 (v1 := gR_ r_2) (resAt_cellA (B := aD b1) (i := 0) (cs := kR_ r_2) (vs := kR_ r_2) rfl K6 K3 (hS5.c 1) rfl rfl) (v2 := .bool r_3) (resAt_tmp rfl) ⟨rfl, (hS5.sN [])⟩

theorem c_impl_raised (x : TDyadic) (exp : Int)  (w0 : World)  (hS : ST w0 [] w0 [] []) {r_ : TRing} {r_1 : Bool} (hF : F_impl_raised x exp = some (r_, r_1)) :
  CV Tryz.prog 123 #[gD_ x, vi exp] w0 (fun v w' => v = .tuple #[gR_ r_, .bool r_1] ∧ ST w0 [] w' [] []) := by
 unfold F_impl_raised at hF
 refine cv_of_cw 28 Tryz.func123 rfl Tryz.ntmps123 rfl ?_
 refine cq (cr ?_)
 refine sS 2 (yB 91 (gD_ x) (kD_ x) 5 hS) ?_
 rintro _ w_ ⟨b, rfl, hS1⟩
 refine sS 4 (yN [vi 0, vi 0, vi 0, vi 0] 4 hS1 K10) ?_
 rintro _ w_1 ⟨b1, rfl, hS2⟩
 refine sQ 5 (yg (.bool false)) (rn (cq (cr ?_)))
 refine sQ 9 (yd (aD b) 0 3 K31 K3) <| sQ 10 (ya (aD b) 0 (kD_ x) (kR_ x.Num) K6 K3 (hS2.c 0)) ?_
 refine sS 6 (yN [vi 0, vi 0, vi 0, vi 0] 4 hS2 K10) ?_
 rintro _ w_2 ⟨b2, rfl, hS3⟩
 refine s0 (yT 2 4 (aD b2) 89 (gR_ x.Num) (kR_ x.Num) 0 hS3 K3) ?_
 rintro _ w_3 ⟨rfl, hS4⟩
 refine sQ 7 (yg (.bool true)) (rn (cq (cq (cr ?_))))
 refine sQ 11 (yd (aD b) 0 0 K28 K1) <| sQ 12 (yl (aD b) 4 (kD_ x) (vi x.Exp) K0 (hS4.c 0)) <| sQ 8 (yg (vi x.Exp)) (rn ?_)
 obtain ⟨z, hz, hF1⟩ := bI hF
 refine cw_block ?_
 refine cw_loop (fun k f w => ∃ (A : Int) (B : Int) (C : Int) (D : Int) (ok : Bool) (k_ : Int), FF f [(1, vi exp), (4, pt (aD b1) 0), (6, pt (aD b2) 0), (7, .bool ok), (8, vi k_)] ∧ ST w0 [] w [⟨aD b1, 89, [vi 0, vi 0, vi 0, vi 0], 4⟩, ⟨aD b2, 89, [vi A, vi B, vi C, vi D], 4⟩] [] ∧ whX (F_impl_raised_l1 exp) k (A, B, C, D, ok, k_) = some z) fuel ⟨x.Num.A, x.Num.B, x.Num.C, x.Num.D, true, x.Exp, (fc rfl (fc rfl (fc rfl (fc rfl (fc rfl fn_))))), (hS4.sel [1, 2] rfl rfl), hz⟩ ?_
 rintro K8 f w ⟨A, B, C, D, ok, k_, hf, hS5, hL⟩
 obtain ⟨K21, y, rfl, hb, hL1⟩ := whX_go hL
 unfold F_impl_raised_l1 at hb
 refine cq (cq (cr ?_))
 refine sQ 13 (ym (vi k_) rfl (hf.g 8 4)) <| sQ 14 (ym (vi exp) rfl (hf.g 1 0)) <| sQ 15 (yL k_ exp) <| sQ 16 (ym (.bool (decide (k_ < exp)))) ?_
 refine sgq 17 (B := (decide (k_ < exp))) (v := .bool ok) rfl rfl (uT_ 16) (fun hg => (ym (.bool ok) rfl (hf.g 7 3))) ?_
 refine sQ 18 (Y_and (b := (decide (k_ < exp))) (z := ok) rfl rfl rfl rfl) (rn ?_)
 refine cw_cond (b := ((decide (k_ < exp)) && ok)) rfl (fun hb1 => ?_) (fun hb1 => ?_)
 ·skip
  have hF2 := ct hb hb1
  refine cw_skip (cq (cw_block (cr ?_)))
  refine sQ 22 (yb (aD b2) 0 [vi A, vi B, vi C, vi D] K6 K3 (hS5.c 1) rfl (hf.g 6 2)) ?_
  obtain ⟨⟨r_2, r_3⟩, hc, hF2⟩ := bI hF2
  refine sc 23 rfl rfl (yC [.agg #[vi A, vi B, vi C, vi D]] k_call_132 (c_impl_MulRootTwo (TRing.mk A B C D) _  (hS5.inn0 [] rfl) hc)) ?_
  rintro _ w_4 ⟨rfl, hd⟩
  have hS6 := hS5.out00 hd
  refine sQ 21 (ym (.tuple #[gR_ r_2, .bool r_3])) <| sQ 24 (ye (gR_ r_2)) <| sQ 25 (ye (.bool r_3)) ?_
  refine s0 (yT 1 4 (aD b2) 89 (gR_ r_2) (kR_ r_2) 0 hS6 K3 rfl (hf.g 6 2)) ?_
  rintro _ w_5 ⟨rfl, hS7⟩
  refine sQ 7 (yg (.bool r_3)) (rn (cr ?_))
  refine sQ 19 (ym (vi k_) rfl (hf.g 8 4)) <| sQ 20 (yP k_ 1) <| sQ 8 (yg (vi (i64.wrap (k_ + 1)))) (rn ?_)
  obtain rfl := sI hF2
  exact ⟨K21, Nat.lt_succ_self _, r_2.A, r_2.B, r_2.C, r_2.D, r_3, (i64.wrap (k_ + 1)), (fc (hf.g 1 0) (fc (hf.g 4 1) (fc (hf.g 6 2) (fc rfl (fc rfl fn_))))), (hS7.sel [0, 1] rfl rfl), hL1⟩
 ·skip
  have hF3 := cf' hb hb1
  refine cw_exit rfl ?_
  obtain rfl := sI hF3
  obtain rfl := sI hL1
  refine cq (cr ?_)
  refine sQ 26 (yb (aD b2) 0 [vi A, vi B, vi C, vi D] K6 K3 (hS5.c 1) rfl (hf.g 6 2)) <| sQ 27 (ym (.bool ok) rfl (hf.g 7 3)) ?_
  refine s0 (yT 0 4 (aD b1) 89 (.agg #[vi A, vi B, vi C, vi D]) [vi A, vi B, vi C, vi D] 0 hS5 K3 rfl (hf.g 4 1)) ?_
  rintro _ w_6 ⟨rfl, hS8⟩
  refine sQ 5 (yg (.bool ok)) (rn (ct_ ?_))
  obtain ⟨rfl, rfl⟩ := pr2 (sI hF1)
  exact ret2 Tryz.results123 (v1 := .agg #[vi A, vi B, vi C, vi D]) (resAt_cellA (B := aD b1) (i := 0) (cs := [vi A, vi B, vi C, vi D]) (vs := [vi A, vi B, vi C, vi D]) (hf.g 4 1) K6 K3 (hS8.c 0) rfl rfl) (v2 := .bool ok) (resAt_tmp rfl) ⟨rfl, (hS8.sN [])⟩

theorem c_impl_combined (x : TDyadic) (y : TDyadic) (operation : TRing → TRing → Option (TRing × Bool)) (kf : Nat) (caps : Array Value) (Rf : List Ro) (w0 : World) (hk : callB Tryz.prog kf = true) (hp : ∀ (w : World), ST w [] w [] Rf → ∀ (x1 : TRing) (x2 : TRing) (y2 : TRing) (y3 : Bool), operation x1 x2 = some (y2, y3) → CV Tryz.prog kf ((gR_ x1) :: (gR_ x2) :: caps.toList).toArray w (fun v w' => v = .tuple #[gR_ y2, .bool y3] ∧ ST w [] w' [] [])) (hS : ST w0 [] w0 [] (Rf)) {r_ : TDyadic} {r_1 : Bool} (hF : F_impl_combined x y operation = some (r_, r_1)) :
  CV Tryz.prog 104 #[gD_ x, gD_ y, .func (.func kf) #[] caps] w0 (fun v w' => v = .tuple #[gD_ r_, .bool r_1] ∧ ST w0 [] w' [] []) := by
 unfold F_impl_combined at hF
 refine cv_of_cw 64 Tryz.func104 rfl Tryz.ntmps104 rfl ?_
 refine cq (cr ?_)
 refine sS 3 (yB 91 (gD_ x) (kD_ x) 5 hS) ?_
 rintro _ w_ ⟨b, rfl, hS1⟩
 refine sS 4 (yB 91 (gD_ y) (kD_ y) 5 hS1) ?_
 rintro _ w_1 ⟨b1, rfl, hS2⟩
 refine sS 6 (yN kZ_ 5 hS2 K7) ?_
 rintro _ w_2 ⟨b2, rfl, hS3⟩
 refine sQ 7 (yg (.bool false)) (rn (cq (cq (cr ?_))))
 refine sQ 15 (yb (aD b) 0 (kD_ x) K5 K2 (hS3.c 0)) ?_
 obtain ⟨r_2, hc, hF⟩ := bI hF
 refine sc 16 rfl rfl (yC [gD_ x] K56 (c_impl_IsValidDyadic x _  (hS3.inn0 [] rfl) hc)) ?_
 rintro _ w_3 ⟨rfl, hd⟩
 have hS4 := hS3.out00 hd
 refine sQ 17 (Y_not (p := r_2) rfl rfl) <| sQ 18 (ym (.bool (!r_2))) ?_
 refine sgq 19 (B := (!(!r_2))) (v := gD_ y) rfl rfl (uF_ 18) (fun hg => (yb (aD b1) 0 (kD_ y) K5 K2 (hS4.c 1))) ?_
 obtain ⟨r_3, hc1, hF⟩ := bI hF
 refine sgc 20 (B := (!(!r_2))) (v := .bool r_3) (F := hS4.fn) rfl rfl (uF_ 18) hS4 (fun hg1 => (yC [gD_ y] K56 (CV.mono (c_impl_IsValidDyadic y _  (hS4.inn0 [] rfl) (gb_inv hc1 hg1)) (by rintro _ _ ⟨rfl, h⟩; exact ⟨rfl, hS4.out00 h⟩)) rfl (mc (gv_of (v := gD_ y) hg1) mn))) ?_
 rintro w_4 hS5
 refine sgq 21 (B := (!(!r_2))) (v := .bool (!r_3)) rfl rfl (uF_ 18) (fun hg2 => (Y_not (p := r_3) rfl (gv_of (v := .bool r_3) hg2))) ?_
 refine sQ 22 (Y_or (b := (!r_2)) (z := (!r_3)) rfl rfl rfl rfl) (rn ?_)
 refine cw_cond (b := ((!r_2) || (!r_3))) rfl (fun hb => ?_) (fun hb => ?_)
 ·skip
  have hF1 := ct hF hb
  refine cq (cr ?_)
  refine sQ 23 (Y_buildS (zs := kZ_) (vs := []) (cs := kZ_) K20 K7 rfl mpn rfl) ?_
  refine s0 (yT 2 5 (aD b2) 91 gZ_ kZ_ 0 hS5 K2) ?_
  rintro _ w_5 ⟨rfl, hS6⟩
  refine sQ 7 (yg (.bool false)) (rn (ct_ ?_))
  obtain ⟨rfl, rfl⟩ := pr2 (sI hF1)
  exact ret2 Tryz.results104 (v1 := gZ_) (resAt_cellA (B := aD b2) (i := 0) (cs := kZ_) (vs := kZ_) rfl K5 K2 (hS6.c 2) rfl rfl) (v2 := .bool false) (resAt_tmp rfl) ⟨rfl, (hS6.sN [])⟩
 ·skip
  have hF2 := cf' hF hb
  refine cw_skip (cq (cr ?_))
  refine sQ 24 (yd (aD b) 0 0 K28 K1) <| sQ 25 (yl (aD b) 4 (kD_ x) (vi x.Exp) K0 (hS5.c 0)) <| sQ 26 (yd (aD b1) 0 0 K28 K1) <| sQ 27 (yl (aD b1) 4 (kD_ y) (vi y.Exp) K0 (hS5.c 1)) <| sQ 28 (Y_max2 (k := .i64) (a := x.Exp) (b := y.Exp) rfl rfl rfl) <| sQ 8 (yg (vi (if x.Exp < y.Exp then y.Exp else x.Exp))) (rn (cq (cr ?_)))
  refine sQ 30 (yb (aD b) 0 (kD_ x) K5 K2 (hS5.c 0)) <| sQ 31 (ym (vi (if x.Exp < y.Exp then y.Exp else x.Exp))) ?_
  obtain ⟨⟨r_4, r_5⟩, hc2, hF2⟩ := bI hF2
  refine sc 32 rfl rfl (yC [gD_ x, vi (if x.Exp < y.Exp then y.Exp else x.Exp)] k_call_123 (c_impl_raised x (if x.Exp < y.Exp then y.Exp else x.Exp) _  (hS5.inn0 [] rfl) hc2)) ?_
  rintro _ w_6 ⟨rfl, hd1⟩
  have hS7 := hS5.out00 hd1
  refine sQ 29 (ym (.tuple #[gR_ r_4, .bool r_5])) <| sQ 33 (ye (gR_ r_4)) <| sQ 34 (ye (.bool r_5)) ?_
  refine sS 9 (yN [vi 0, vi 0, vi 0, vi 0] 4 hS7 K10) ?_
  rintro _ w_7 ⟨b3, rfl, hS8⟩
  refine s0 (yT 3 4 (aD b3) 89 (gR_ r_4) (kR_ r_4) 0 hS8 K3) ?_
  rintro _ w_8 ⟨rfl, hS9⟩
  refine sQ 10 (yg (.bool r_5)) (rn (cq (cr ?_)))
  refine sQ 36 (yb (aD b1) 0 (kD_ y) K5 K2 (hS9.c 1)) <| sQ 37 (ym (vi (if x.Exp < y.Exp then y.Exp else x.Exp))) ?_
  obtain ⟨⟨r_6, r_7⟩, hc3, hF2⟩ := bI hF2
  refine sc 38 rfl rfl (yC [gD_ y, vi (if x.Exp < y.Exp then y.Exp else x.Exp)] k_call_123 (c_impl_raised y (if x.Exp < y.Exp then y.Exp else x.Exp) _  (hS9.inn0 [] rfl) hc3)) ?_
  rintro _ w_9 ⟨rfl, hd2⟩
  have hS10 := hS9.out00 hd2
  refine sQ 35 (ym (.tuple #[gR_ r_6, .bool r_7])) <| sQ 39 (ye (gR_ r_6)) <| sQ 40 (ye (.bool r_7)) ?_
  refine sS 11 (yN [vi 0, vi 0, vi 0, vi 0] 4 hS10 K10) ?_
  rintro _ w_10 ⟨b4, rfl, hS11⟩
  refine s0 (yT 4 4 (aD b4) 89 (gR_ r_6) (kR_ r_6) 0 hS11 K3) ?_
  rintro _ w_11 ⟨rfl, hS12⟩
  refine sQ 12 (yg (.bool r_7)) (rn (cq (cr ?_)))
  refine sQ 42 (ym (.func (.func kf) #[] caps)) <| sQ 43 (yb (aD b3) 0 (kR_ r_4) K6 K3 (hS12.c 3)) <| sQ 44 (yb (aD b4) 0 (kR_ r_6) K6 K3 (hS12.c 4)) ?_
  obtain ⟨⟨r_8, r_9⟩, hc4, hF2⟩ := bI hF2
  refine sc 45 rfl rfl (Yc_clos (g := kf) (vs := (gR_ r_4) :: (gR_ r_6) :: caps.toList) hk rfl rfl (clo_args (mc rfl (mc rfl mn))) (hp _ (hS12.innS (fun _ h => mOd (i := 0) h)) r_4 r_6 r_8 r_9 hc4)) ?_
  rintro _ w_12 ⟨rfl, hd3⟩
  have hS13 := hS12.out00 hd3
  refine sQ 41 (ym (.tuple #[gR_ r_8, .bool r_9])) <| sQ 46 (ye (gR_ r_8)) <| sQ 47 (ye (.bool r_9)) ?_
  refine sS 13 (yN [vi 0, vi 0, vi 0, vi 0] 4 hS13 K10) ?_
  rintro _ w_13 ⟨b5, rfl, hS14⟩
  refine s0 (yT 5 4 (aD b5) 89 (gR_ r_8) (kR_ r_8) 0 hS14 K3) ?_
  rintro _ w_14 ⟨rfl, hS15⟩
  refine sQ 14 (yg (.bool r_9)) (rn (cq (cq (cr ?_))))
  refine sQ 48 (ym (.bool r_5)) <| sQ 49 (Y_not (p := r_5) rfl rfl) <| sQ 50 (ym (.bool (!r_5))) ?_
  refine sgq 51 (B := (!(!r_5))) (v := .bool r_7) rfl rfl (uF_ 50) (fun hg3 => (ym (.bool r_7))) ?_
  refine sgq 52 (B := (!(!r_5))) (v := .bool (!r_7)) rfl rfl (uF_ 50) (fun hg4 => (Y_not (p := r_7) rfl (gv_of (v := .bool r_7) hg4))) ?_
  refine sQ 53 (Y_or (b := (!r_5)) (z := (!r_7)) rfl rfl rfl rfl) <| sQ 54 (ym (.bool ((!r_5) || (!r_7)))) ?_
  refine sgq 55 (B := (!((!r_5) || (!r_7)))) (v := .bool r_9) rfl rfl (uF_ 54) (fun hg5 => (ym (.bool r_9))) ?_
  refine sgq 56 (B := (!((!r_5) || (!r_7)))) (v := .bool (!r_9)) rfl rfl (uF_ 54) (fun hg6 => (Y_not (p := r_9) rfl (gv_of (v := .bool r_9) hg6))) ?_
  refine sQ 57 (Y_or (b := ((!r_5) || (!r_7))) (z := (!r_9)) rfl rfl rfl rfl) (rn ?_)
  refine cw_cond (b := (((!r_5) || (!r_7)) || (!r_9))) rfl (fun hb1 => ?_) (fun hb1 => ?_)
  ·skip
   have hF3 := ct hF2 hb1
   refine cq (cr ?_)
   refine sQ 58 (Y_buildS (zs := kZ_) (vs := []) (cs := kZ_) K20 K7 rfl mpn rfl) ?_
   refine s0 (yT 2 5 (aD b2) 91 gZ_ kZ_ 0 hS15 K2) ?_
   rintro _ w_15 ⟨rfl, hS16⟩
   refine sQ 7 (yg (.bool false)) (rn (ct_ ?_))
   obtain ⟨rfl, rfl⟩ := pr2 (sI hF3)
   exact ret2 Tryz.results104 (v1 := gZ_) (resAt_cellA (B := aD b2) (i := 0) (cs := kZ_) (vs := kZ_) rfl K5 K2 (hS16.c 2) rfl rfl) (v2 := .bool false) (resAt_tmp rfl) ⟨rfl, (hS16.sN [])⟩
  ·skip
   have hF4 := cf' hF2 hb1
   refine cw_skip (cq (cr ?_))
   refine sQ 59 (yb (aD b5) 0 (kR_ r_8) K6 K3 (hS15.c 5)) <| sQ 60 (ym (vi (if x.Exp < y.Exp then y.Exp else x.Exp))) ?_
   obtain ⟨⟨r_10, r_11⟩, hc5, hF4⟩ := bI hF4
   refine sc 61 rfl rfl (yC [gR_ r_8, vi (if x.Exp < y.Exp then y.Exp else x.Exp)] k_call_103 (c_impl_DyadicOf r_8 (if x.Exp < y.Exp then y.Exp else x.Exp) _  (hS15.inn0 [] rfl) hc5)) ?_
   rintro _ w_16 ⟨rfl, hd4⟩
   have hS17 := hS15.out00 hd4
   refine sQ 62 (ye (gD_ r_10)) <| sQ 63 (ye (.bool r_11)) ?_
   refine s0 (yT 2 5 (aD b2) 91 (gD_ r_10) (kD_ r_10) 0 hS17 K2) ?_
   rintro _ w_17 ⟨rfl, hS18⟩
   refine sQ 7 (yg (.bool r_11)) (rn (ct_ ?_))
   obtain ⟨rfl, rfl⟩ := pr2 (sI hF4)
   exact ret2 Tryz.results104 (v1 := gD_ r_10) (resAt_cellA (B := aD b2) (i := 0) (cs := kD_ r_10) (vs := kD_ r_10) rfl K5 K2 (hS18.c 2) rfl rfl) (v2 := .bool r_11) (resAt_tmp rfl) ⟨rfl, (hS18.sN [])⟩

theorem c_impl_AddRing (x : TRing) (y : TRing)  (w0 : World)  (hS : ST w0 [] w0 [] []) {r_ : TRing} {r_1 : Bool} (hF : F_impl_AddRing x y = some (r_, r_1)) :
  CV Tryz.prog 105 #[gR_ x, gR_ y] w0 (fun v w' => v = .tuple #[gR_ r_, .bool r_1] ∧ ST w0 [] w' [] []) := by
 unfold F_impl_AddRing at hF
 refine cv_of_cw 33 Tryz.func105 rfl Tryz.ntmps105 rfl ?_
 refine cq (cr ?_)
 refine sS 2 (yB 89 (gR_ x) (kR_ x) 4 hS) ?_
 rintro _ w_ ⟨b, rfl, hS1⟩
 refine sS 3 (yB 89 (gR_ y) (kR_ y) 4 hS1) ?_
 rintro _ w_1 ⟨b1, rfl, hS2⟩
 refine sS 4 (yN [vi 0, vi 0, vi 0, vi 0] 4 hS2 K10) ?_
 rintro _ w_2 ⟨b2, rfl, hS3⟩
 refine sQ 5 (yg (.bool false)) (rn (cq (cr ?_)))
 refine sQ 6 (yd (aD b) 0 0 K12 K1) <| sQ 7 (yl (aD b) 0 (kR_ x) (vi x.A) K0 (hS3.c 0)) <| sQ 8 (yd (aD b1) 0 0 K12 K1) <| sQ 9 (yl (aD b1) 0 (kR_ y) (vi y.A) K0 (hS3.c 1)) <| sQ 10 (yP x.A y.A) <| sQ 11 (yd (aD b) 0 0 K14 K1) ?_
 refine sQ 12 (yl (aD b) 1 (kR_ x) (vi x.B) K0 (hS3.c 0)) <| sQ 13 (yd (aD b1) 0 0 K14 K1) <| sQ 14 (yl (aD b1) 1 (kR_ y) (vi y.B) K0 (hS3.c 1)) <| sQ 15 (yP x.B y.B) <| sQ 16 (yd (aD b) 0 0 K15 K1) <| sQ 17 (yl (aD b) 2 (kR_ x) (vi x.C) K0 (hS3.c 0)) ?_
 refine sQ 18 (yd (aD b1) 0 0 K15 K1) <| sQ 19 (yl (aD b1) 2 (kR_ y) (vi y.C) K0 (hS3.c 1)) <| sQ 20 (yP x.C y.C) <| sQ 21 (yd (aD b) 0 0 K16 K1) <| sQ 22 (yl (aD b) 3 (kR_ x) (vi x.D) K0 (hS3.c 0)) <| sQ 23 (yd (aD b1) 0 0 K16 K1) ?_
 refine sQ 24 (yl (aD b1) 3 (kR_ y) (vi y.D) K0 (hS3.c 1)) <| sQ 25 (yP x.D y.D) <| sQ 26 (Y_buildS (zs := [vi 0, vi 0, vi 0, vi 0]) (vs := [(0, vi (i64.wrap (x.A + y.A))), (1, vi (i64.wrap (x.B + y.B))), (2, vi (i64.wrap (x.C + y.C))), (3, vi (i64.wrap (x.D + y.D)))]) (cs := [vi (i64.wrap (x.A + y.A)), vi (i64.wrap (x.B + y.B)), vi (i64.wrap (x.C + y.C)), vi (i64.wrap (x.D + y.D))]) K29 K10 rfl (mpc rfl (mpc rfl (mpc rfl (mpc rfl mpn)))) rfl) <| sQ 27 (yb (aD b) 0 (kR_ x) K6 K3 (hS3.c 0)) <| sQ 28 (yb (aD b1) 0 (kR_ y) K6 K3 (hS3.c 1)) ?_
 refine sS 29 (Ys_bslice (s := 4) (len := 2) (vs := [(0, gR_ x), (1, gR_ y)]) (cs := [vi x.A, vi x.B, vi x.C, vi x.D, vi y.A, vi y.B, vi y.C, vi y.D]) (zs := [vi 0, vi 0, vi 0, vi 0, vi 0, vi 0, vi 0, vi 0]) (m := 8) hS3 K53 K3 K72 rfl (mpc rfl (mpc rfl mpn)) rfl rfl rfl (by kernel_rfl) (by kernel_rfl) rfl) ?_
 rintro _ w_3 ⟨b3, rfl, hS4⟩
 obtain ⟨⟨r_2, r_3⟩, hc, hF⟩ := bI hF
 refine sc 30 rfl rfl (yC [.agg #[vi (i64.wrap (x.A + y.A)), vi (i64.wrap (x.B + y.B)), vi (i64.wrap (x.C + y.C)), vi (i64.wrap (x.D + y.D))], .slice (aD b3) 2 2] K80 (c_impl_ringIf (TRing.mk (i64.wrap (x.A + y.A)) (i64.wrap (x.B + y.B)) (i64.wrap (x.C + y.C)) (i64.wrap (x.D + y.D))) [x, y] (aD b3) 2 2 _ rfl (hS4.inn [false, false, false, true] rfl [] rfl) hc)) ?_
 rintro _ w_4 ⟨rfl, hd⟩
 have hS5 := hS4.out [false, false, false, true] rfl hd
 refine sQ 31 (ye (gR_ r_2)) <| sQ 32 (ye (.bool r_3)) ?_
 refine s0 (yT 2 4 (aD b2) 89 (gR_ r_2) (kR_ r_2) 0 hS5 K3) ?_
 rintro _ w_5 ⟨rfl, hS6⟩
 refine sQ 5 (yg (.bool r_3)) (rn (ct_ ?_))
 obtain ⟨rfl, rfl⟩ := pr2 (sI hF)
 exact ret2 Tryz.results105 (v1 := gR_ r_2) (resAt_cellA (B := aD b2) (i := 0) (cs := kR_ r_2) (vs := kR_ r_2) rfl K6 K3 (hS6.c 2) rfl rfl) (v2 := .bool r_3) (resAt_tmp rfl) ⟨rfl, (hS6.sN [])⟩

theorem c_impl_AddDyadic (x : TDyadic) (y : TDyadic)  (w0 : World)  (hS : ST w0 [] w0 [] []) {r_ : TDyadic} {r_1 : Bool} (hF : F_impl_AddDyadic x y = some (r_, r_1)) :
  CV Tryz.prog 73 #[gD_ x, gD_ y] w0 (fun v w' => v = .tuple #[gD_ r_, .bool r_1] ∧ ST w0 [] w' [] []) := by
 unfold F_impl_AddDyadic at hF
 refine cv_of_cw 11 Tryz.func73 rfl Tryz.ntmps73 rfl ?_
 refine cq (cr ?_)
 refine sS 2 (yB 91 (gD_ x) (kD_ x) 5 hS) ?_
 rintro _ w_ ⟨b, rfl, hS1⟩
 refine sS 3 (yB 91 (gD_ y) (kD_ y) 5 hS1) ?_
 rintro _ w_1 ⟨b1, rfl, hS2⟩
 refine sS 4 (yN kZ_ 5 hS2 K7) ?_
 rintro _ w_2 ⟨b2, rfl, hS3⟩
 refine sQ 5 (yg (.bool false)) (rn (cq (cr ?_)))
 refine sQ 6 (yb (aD b) 0 (kD_ x) K5 K2 (hS3.c 0)) <| sQ 7 (yb (aD b1) 0 (kD_ y) K5 K2 (hS3.c 1)) ?_
 obtain ⟨⟨r_2, r_3⟩, hc, hF⟩ := bI hF
 refine sc 8 rfl rfl (yC [gD_ x, gD_ y, .func (.func 105) #[] #[]] k_call_104 (c_impl_combined x y F_impl_AddRing 105 (#[]) [] _ k_call_105 (fun w hw x_0 x_1 y_0 y_1 h_ => c_impl_AddRing x_0 x_1  w  hw h_) (hS3.inn0 [] rfl) hc)) ?_
 rintro _ w_3 ⟨rfl, hd⟩
 have hS4 := hS3.out00 hd
 refine sQ 9 (ye (gD_ r_2)) <| sQ 10 (ye (.bool r_3)) ?_
 refine s0 (yT 2 5 (aD b2) 91 (gD_ r_2) (kD_ r_2) 0 hS4 K2) ?_
 rintro _ w_4 ⟨rfl, hS5⟩
 refine sQ 5 (yg (.bool r_3)) (rn (ct_ ?_))
 obtain ⟨rfl, rfl⟩ := pr2 (sI hF)
 exact ret2 Tryz.results73 (v1 := gD_ r_2) (resAt_cellA (B := aD b2) (i := 0) (cs := kD_ r_2) (vs := kD_ r_2) rfl K5 K2 (hS5.c 2) rfl rfl) (v2 := .bool r_3) (resAt_tmp rfl) ⟨rfl, (hS5.sN [])⟩

theorem c_impl_MulMatrix_1 (i : Int) (j : Int) (p : TMatrix) (p1 : TMatrix) (B : Option Addr) (B1 : Option Addr) (c n : Nat) (B2 : Option Addr) (B3 : Option Addr) (c1 n1 : Nat) (w0 : World) (hn : p.Cells.length = n) (hn1 : p1.Cells.length = n1) (hS : ST w0 [] w0 [] [⟨B, [vi p.Rows, vi p.Cols, .slice B1 n c]⟩, ⟨B1, (p.Cells.flatMap eN1)⟩, ⟨B2, [vi p1.Rows, vi p1.Cols, .slice B3 n1 c1]⟩, ⟨B3, (p1.Cells.flatMap eN1)⟩]) {r_ : TDyadic} {r_1 : Bool} (hF : F_impl_MulMatrix_1 i j p p1 = some (r_, r_1)) :
  CV Tryz.prog 70 #[vi i, vi j, pt B 0, pt B2 0] w0 (fun v w' => v = .tuple #[gD_ r_, .bool r_1] ∧ ST w0 [] w' [] []) := by
 subst hn
 subst hn1
 unfold F_impl_MulMatrix_1 at hF
 refine cv_of_cw 48 Tryz.func70 rfl Tryz.ntmps70 rfl ?_
 refine cq (cr ?_)
 refine sS 6 (yN kZ_ 5 hS K7) ?_
 rintro _ w_ ⟨b, rfl, hS1⟩
 refine sQ 7 (yg (.bool false)) (rn (cq (cr ?_)))
 refine sQ 14 (Y_buildS (zs := kZ_) (vs := []) (cs := kZ_) K20 K7 rfl mpn rfl) ?_
 refine sS 8 (yN kZ_ 5 hS1 K7) ?_
 rintro _ w_1 ⟨b1, rfl, hS2⟩
 refine s0 (yT 1 5 (aD b1) 91 gZ_ kZ_ 0 hS2 K2) ?_
 rintro _ w_2 ⟨rfl, hS3⟩
 refine rn (cq (cq (cr ?_)))
 refine sQ 15 (yd B 0 0 K35 K1) <| sQ 16 (yl B 1 (kM_ p B1 c) (vi p.Cols) K0 (hS3.rf (i := 0) rfl)) <| sQ 17 (ym (vi 0)) (rn ?_)
 obtain ⟨hN, hF⟩ := chk_inv hF
 obtain ⟨z, hz, hF1⟩ := bI hF
 refine cw_block ?_
 refine cw_loop (fun k f w => ∃ (i1 : Nat) (A : Int) (B4 : Int) (C : Int) (D : Int) (Exp : Int), FF f [(0, vi i), (1, vi j), (2, pt B 0), (3, pt B2 0), (6, pt (aD b) 0), (8, pt (aD b1) 0), (16, vi p.Cols), (17, vi (i1 : Int))] ∧ ST w0 [] w [⟨aD b, 91, kZ_, 5⟩, ⟨aD b1, 91, [vi A, vi B4, vi C, vi D, vi Exp], 5⟩] [⟨B, kM_ p B1 c⟩, ⟨B1, (p.Cells.flatMap eN1)⟩, ⟨B2, kM_ p1 B3 c1⟩, ⟨B3, (p1.Cells.flatMap eN1)⟩] ∧ i1 + k = p.Cols.toNat ∧ forX (F_impl_MulMatrix_1_l1 p i p1 j) k i1 (A, B4, C, D, Exp) = some z) p.Cols.toNat ⟨0, 0, 0, 0, 0, 0, (fc rfl (fc rfl (fc rfl (fc rfl (fc rfl (fc rfl (fc rfl (fc rfl fn_)))))))), (hS3.sel [0, 1] rfl rfl), Nat.zero_add _, hz⟩ ?_
 rintro k_ f w ⟨i1, A, B4, C, D, Exp, hf, hS4, hik, hL⟩
 refine cq (cr ?_)
 refine sQ 18 (yL (i1 : Int) p.Cols rfl (hf.g 17 7) (hf.g 16 6)) (rn (cq ?_))
 refine cw_cond (b := (decide ((i1 : Int) < p.Cols))) rfl (fun hlt => ?_) (fun hlt => ?_)
 ·skip
  have hlt1 : i1 < p.Cols.toNat := by have h := of_decide_eq_true hlt; omega
  obtain ⟨K8, rfl⟩ : ∃ k2, k_ = k2 + 1 := ⟨k_ - 1, by omega⟩
  obtain ⟨y, hb, hL1⟩ := forX_go hL
  unfold F_impl_MulMatrix_1_l1 at hb
  refine cw_skip (cq (cw_block (cq (cr ?_))))
  refine sQ 19 (ym (vi (i1 : Int)) rfl (hf.g 17 7)) <| sQ 9 (yg (vi (i1 : Int))) (rn (cq ?_))
  obtain ⟨r_2, hc, hb⟩ := bI hb
  obtain ⟨r_3, hc1, hb⟩ := bI hb
  obtain ⟨⟨r_4, r_5⟩, hc2, hb⟩ := bI hb
  refine cw_mid (fun f w => ∃ (B5 : Option Addr), FF f [(0, vi i), (1, vi j), (2, pt B 0), (3, pt B2 0), (6, pt (aD b) 0), (8, pt (aD b1) 0), (10, pt B5 0), (11, .bool r_5), (16, vi p.Cols), (17, vi (i1 : Int))] ∧ ST w0 [] w [⟨aD b, 91, kZ_, 5⟩, ⟨aD b1, 91, [vi A, vi B4, vi C, vi D, vi Exp], 5⟩, ⟨B5, 91, kD_ r_4, 5⟩] [⟨B, kM_ p B1 c⟩, ⟨B1, (p.Cells.flatMap eN1)⟩, ⟨B2, kM_ p1 B3 c1⟩, ⟨B3, (p1.Cells.flatMap eN1)⟩]) ?_ ?_
  ·skip
   refine ra_start (hS4.se [0, 1]).fn (by kernel_rfl) ?_
   have hS9 := hS4.drew
   refine rq 0 21 (v := gM_ p B1 c) rfl (hS9.se [0, 1]) (fun w' hw' => (yb B 0 (kM_ p B1 c) K9 K4 (ST.rf hw' (i := 0) rfl) rfl (hf.g 2 2))) ?_
   refine rq 1 22 (v := vi i) rfl (hS9.se [0, 1]) (fun w' hw' => (ym (vi i) rfl (hf.g 0 0))) ?_
   refine rq 2 23 (v := vi (i1 : Int)) rfl (hS9.se [0, 1]) (fun w' hw' => (ym (vi (i1 : Int)))) ?_
   refine rq 4 25 (v := gM_ p1 B3 c1) rfl (hS9.se [0, 1]) (fun w' hw' => (yb B2 0 (kM_ p1 B3 c1) K9 K4 (ST.rf hw' (i := 2) rfl) rfl (hf.g 3 3))) ?_
   refine rq 5 26 (v := vi (i1 : Int)) rfl (hS9.se [0, 1]) (fun w' hw' => (ym (vi (i1 : Int)))) ?_
   refine rq 6 27 (v := vi j) rfl (hS9.se [0, 1]) (fun w' hw' => (ym (vi j) rfl (hf.g 1 1))) ?_
   refine rA [3, 12] ?_
   refine rC 24 3 rfl (yC [gM_ p B1 c, vi i, vi (i1 : Int)] K63 (c_impl_Matrix_at p i (i1 : Int) B1 c p.Cells.length _ rfl (hS9.inn0 [(true, 1)] rfl) hc)) ?_ ?_
   ·rintro _ w_3 ⟨rfl, hd⟩
    have hS10 := hS9.out00 hd
    refine ⟨(hS10.se [0, 1]), ?_⟩
    refine rA [7, 12] ?_
    refine rC 28 7 rfl (yC [gM_ p1 B3 c1, vi (i1 : Int), vi j] K63 (c_impl_Matrix_at p1 (i1 : Int) j B3 c1 p1.Cells.length _ rfl (hS10.inn0 [(true, 3)] rfl) hc1)) ?_ ?_
    ·rintro _ w_4 ⟨rfl, hd1⟩
     have hS11 := hS10.out00 hd1
     refine ⟨(hS11.se [0, 1]), ?_⟩
     refine rA [8, 12] ?_
     refine rC 29 8 rfl (yC [gD_ r_2, gD_ r_3] K73 (c_impl_MulDyadic r_2 r_3 _  (hS11.inn0 [] rfl) hc2)) ?_ ?_
     ·rintro _ w_5 ⟨rfl, hd2⟩
      have hS12 := hS11.out00 hd2
      refine ⟨(hS12.se [0, 1]), ?_⟩
      refine rq 9 20 (v := .tuple #[gD_ r_4, .bool r_5]) rfl (hS12.se [0, 1]) (fun w' hw' => (ym (.tuple #[gD_ r_4, .bool r_5]))) ?_
      refine rq 10 30 (v := gD_ r_4) rfl (hS12.se [0, 1]) (fun w' hw' => (ye (gD_ r_4))) ?_
      refine rq 11 31 (v := .bool r_5) rfl (hS12.se [0, 1]) (fun w' hw' => (ye (.bool r_5))) ?_
      refine rA [12] ?_
      refine rS 10 12 rfl (yN kZ_ 5 hS12 K7) ?_ ?_
      ·rintro _ w_6 ⟨b2, rfl, hS13⟩
       refine ⟨(hS13.se [0, 1]), ?_⟩
       refine rA [13] ?_
       refine rZ 13 rfl (yT 2 5 (aD b2) 91 (gD_ r_4) (kD_ r_4) 0 hS13 K2) ?_ ?_
       ·rintro _ w_7 ⟨rfl, hS14⟩
        refine ⟨(hS14.se [0, 1]), ?_⟩
        refine rq 14 11 (v := .bool r_5) rfl (hS14.se [0, 1]) (fun w' hw' => (yg (.bool r_5))) ?_
        refine ra_done (by kernel_rfl) ?_
        exact ⟨aD b2, (fc (hf.g 0 0) (fc (hf.g 1 1) (fc (hf.g 2 2) (fc (hf.g 3 3) (fc (hf.g 6 4) (fc (hf.g 8 5) (fc rfl (fc rfl (fc (hf.g 16 6) (fc (hf.g 17 7) fn_)))))))))), (hS14.sel [0, 1, 2] rfl rfl)⟩
       exact aN
      exact aN
     refine rS 10 12 rfl (yN kZ_ 5 hS11 K7) ?_ ?_
     ·rintro _ w_8 ⟨b2, rfl, hS15⟩
      refine ⟨(hS15.se [0, 1]), ?_⟩
      refine rA [8] ?_
      refine rC 29 8 rfl (yC [gD_ r_2, gD_ r_3] K73 (c_impl_MulDyadic r_2 r_3 _  (hS15.inn0 [] rfl) hc2)) ?_ ?_
      ·rintro _ w_9 ⟨rfl, hd3⟩
       have hS16 := hS15.out00 hd3
       refine ⟨(hS16.se [0, 1]), ?_⟩
       refine rq 9 20 (v := .tuple #[gD_ r_4, .bool r_5]) rfl (hS16.se [0, 1]) (fun w' hw' => (ym (.tuple #[gD_ r_4, .bool r_5]))) ?_
       refine rq 10 30 (v := gD_ r_4) rfl (hS16.se [0, 1]) (fun w' hw' => (ye (gD_ r_4))) ?_
       refine rq 11 31 (v := .bool r_5) rfl (hS16.se [0, 1]) (fun w' hw' => (ye (.bool r_5))) ?_
       refine rA [13] ?_
       refine rZ 13 rfl (yT 2 5 (aD b2) 91 (gD_ r_4) (kD_ r_4) 0 hS16 K2) ?_ ?_
       ·rintro _ w_10 ⟨rfl, hS17⟩
        refine ⟨(hS17.se [0, 1]), ?_⟩
        refine rq 14 11 (v := .bool r_5) rfl (hS17.se [0, 1]) (fun w' hw' => (yg (.bool r_5))) ?_
        refine ra_done (by kernel_rfl) ?_
        exact ⟨aD b2, (fc (hf.g 0 0) (fc (hf.g 1 1) (fc (hf.g 2 2) (fc (hf.g 3 3) (fc (hf.g 6 4) (fc (hf.g 8 5) (fc rfl (fc rfl (fc (hf.g 16 6) (fc (hf.g 17 7) fn_)))))))))), (hS17.sel [0, 1, 2] rfl rfl)⟩
       exact aN
      exact aN
     exact aN
    refine rS 10 12 rfl (yN kZ_ 5 hS10 K7) ?_ ?_
    ·rintro _ w_11 ⟨b2, rfl, hS18⟩
     refine ⟨(hS18.se [0, 1]), ?_⟩
     refine rA [7] ?_
     refine rC 28 7 rfl (yC [gM_ p1 B3 c1, vi (i1 : Int), vi j] K63 (c_impl_Matrix_at p1 (i1 : Int) j B3 c1 p1.Cells.length _ rfl (hS18.inn0 [(true, 3)] rfl) hc1)) ?_ ?_
     ·rintro _ w_12 ⟨rfl, hd4⟩
      have hS19 := hS18.out00 hd4
      refine ⟨(hS19.se [0, 1]), ?_⟩
      refine rA [8] ?_
      refine rC 29 8 rfl (yC [gD_ r_2, gD_ r_3] K73 (c_impl_MulDyadic r_2 r_3 _  (hS19.inn0 [] rfl) hc2)) ?_ ?_
      ·rintro _ w_13 ⟨rfl, hd5⟩
       have hS20 := hS19.out00 hd5
       refine ⟨(hS20.se [0, 1]), ?_⟩
       refine rq 9 20 (v := .tuple #[gD_ r_4, .bool r_5]) rfl (hS20.se [0, 1]) (fun w' hw' => (ym (.tuple #[gD_ r_4, .bool r_5]))) ?_
       refine rq 10 30 (v := gD_ r_4) rfl (hS20.se [0, 1]) (fun w' hw' => (ye (gD_ r_4))) ?_
       refine rq 11 31 (v := .bool r_5) rfl (hS20.se [0, 1]) (fun w' hw' => (ye (.bool r_5))) ?_
       refine rA [13] ?_
       refine rZ 13 rfl (yT 2 5 (aD b2) 91 (gD_ r_4) (kD_ r_4) 0 hS20 K2) ?_ ?_
       ·rintro _ w_14 ⟨rfl, hS21⟩
        refine ⟨(hS21.se [0, 1]), ?_⟩
        refine rq 14 11 (v := .bool r_5) rfl (hS21.se [0, 1]) (fun w' hw' => (yg (.bool r_5))) ?_
        refine ra_done (by kernel_rfl) ?_
        exact ⟨aD b2, (fc (hf.g 0 0) (fc (hf.g 1 1) (fc (hf.g 2 2) (fc (hf.g 3 3) (fc (hf.g 6 4) (fc (hf.g 8 5) (fc rfl (fc rfl (fc (hf.g 16 6) (fc (hf.g 17 7) fn_)))))))))), (hS21.sel [0, 1, 2] rfl rfl)⟩
       exact aN
      exact aN
     exact aN
    exact aN
   refine rS 10 12 rfl (yN kZ_ 5 hS9 K7) ?_ ?_
   ·rintro _ w_15 ⟨b2, rfl, hS22⟩
    refine ⟨(hS22.se [0, 1]), ?_⟩
    refine rA [3] ?_
    refine rC 24 3 rfl (yC [gM_ p B1 c, vi i, vi (i1 : Int)] K63 (c_impl_Matrix_at p i (i1 : Int) B1 c p.Cells.length _ rfl (hS22.inn0 [(true, 1)] rfl) hc)) ?_ ?_
    ·rintro _ w_16 ⟨rfl, hd6⟩
     have hS23 := hS22.out00 hd6
     refine ⟨(hS23.se [0, 1]), ?_⟩
     refine rA [7] ?_
     refine rC 28 7 rfl (yC [gM_ p1 B3 c1, vi (i1 : Int), vi j] K63 (c_impl_Matrix_at p1 (i1 : Int) j B3 c1 p1.Cells.length _ rfl (hS23.inn0 [(true, 3)] rfl) hc1)) ?_ ?_
     ·rintro _ w_17 ⟨rfl, hd7⟩
      have hS24 := hS23.out00 hd7
      refine ⟨(hS24.se [0, 1]), ?_⟩
      refine rA [8] ?_
      refine rC 29 8 rfl (yC [gD_ r_2, gD_ r_3] K73 (c_impl_MulDyadic r_2 r_3 _  (hS24.inn0 [] rfl) hc2)) ?_ ?_
      ·rintro _ w_18 ⟨rfl, hd8⟩
       have hS25 := hS24.out00 hd8
       refine ⟨(hS25.se [0, 1]), ?_⟩
       refine rq 9 20 (v := .tuple #[gD_ r_4, .bool r_5]) rfl (hS25.se [0, 1]) (fun w' hw' => (ym (.tuple #[gD_ r_4, .bool r_5]))) ?_
       refine rq 10 30 (v := gD_ r_4) rfl (hS25.se [0, 1]) (fun w' hw' => (ye (gD_ r_4))) ?_
       refine rq 11 31 (v := .bool r_5) rfl (hS25.se [0, 1]) (fun w' hw' => (ye (.bool r_5))) ?_
       refine rA [13] ?_
       refine rZ 13 rfl (yT 2 5 (aD b2) 91 (gD_ r_4) (kD_ r_4) 0 hS25 K2) ?_ ?_
       ·rintro _ w_19 ⟨rfl, hS26⟩
        refine ⟨(hS26.se [0, 1]), ?_⟩
        refine rq 14 11 (v := .bool r_5) rfl (hS26.se [0, 1]) (fun w' hw' => (yg (.bool r_5))) ?_
        refine ra_done (by kernel_rfl) ?_
        exact ⟨aD b2, (fc (hf.g 0 0) (fc (hf.g 1 1) (fc (hf.g 2 2) (fc (hf.g 3 3) (fc (hf.g 6 4) (fc (hf.g 8 5) (fc rfl (fc rfl (fc (hf.g 16 6) (fc (hf.g 17 7) fn_)))))))))), (hS26.sel [0, 1, 2] rfl rfl)⟩
       exact aN
      exact aN
     exact aN
    exact aN
   exact aN
  rintro f w ⟨B5, hf1, hS8⟩
  refine cq (cr ?_)
  refine sQ 33 (yb (aD b1) 0 [vi A, vi B4, vi C, vi D, vi Exp] K5 K2 (hS8.c 1) rfl (hf1.g 8 5)) <| sQ 34 (yb B5 0 (kD_ r_4) K5 K2 (hS8.c 2) rfl (hf1.g 10 6)) ?_
  obtain ⟨⟨r_6, r_7⟩, hc3, hb⟩ := bI hb
  refine sc 35 rfl rfl (yC [.agg #[vi A, vi B4, vi C, vi D, vi Exp], gD_ r_4] k_call_73 (c_impl_AddDyadic (TDyadic.mk (TRing.mk A B4 C D) Exp) r_4 _  (hS8.inn0 [] rfl) hc3)) ?_
  rintro _ w_20 ⟨rfl, hd9⟩
  have hS27 := hS8.out00 hd9
  refine sQ 32 (ym (.tuple #[gD_ r_6, .bool r_7])) <| sQ 36 (ye (gD_ r_6)) <| sQ 37 (ye (.bool r_7)) ?_
  refine sS 12 (yN kZ_ 5 hS27 K7) ?_
  rintro _ w_21 ⟨b3, rfl, hS28⟩
  refine s0 (yT 3 5 (aD b3) 91 (gD_ r_6) (kD_ r_6) 0 hS28 K2) ?_
  rintro _ w_22 ⟨rfl, hS29⟩
  refine sQ 13 (yg (.bool r_7)) (rn (cq (cq (cr ?_))))
  refine sQ 38 (ym (.bool r_5) rfl (hf1.g 11 7)) <| sQ 39 (Y_not (p := r_5) rfl rfl) <| sQ 40 (ym (.bool (!r_5))) ?_
  refine sgq 41 (B := (!(!r_5))) (v := .bool r_7) rfl rfl (uF_ 40) (fun hg => (ym (.bool r_7))) ?_
  refine sgq 42 (B := (!(!r_5))) (v := .bool (!r_7)) rfl rfl (uF_ 40) (fun hg1 => (Y_not (p := r_7) rfl (gv_of (v := .bool r_7) hg1))) ?_
  refine sQ 43 (Y_or (b := (!r_5)) (z := (!r_7)) rfl rfl rfl rfl) (rn ?_)
  refine cw_cond (b := ((!r_5) || (!r_7))) rfl (fun hb1 => ?_) (fun hb1 => ?_)
  ·skip
   have hF2 := ct hb hb1
   refine cq (cr ?_)
   refine sQ 44 (Y_buildS (zs := kZ_) (vs := []) (cs := kZ_) K20 K7 rfl mpn rfl) ?_
   refine s0 (yT 0 5 (aD b) 91 gZ_ kZ_ 0 hS29 K2 rfl (hf1.g 6 4)) ?_
   rintro _ w_23 ⟨rfl, hS30⟩
   refine sQ 7 (yg (.bool false)) (rn (ct_ ?_))
   obtain rfl := sI hF2
   obtain rfl := sI hL1
   obtain ⟨rfl, rfl⟩ := pr2 (sI hF1)
   exact ret2 Tryz.results70 (v1 := gZ_) (resAt_cellA (B := aD b) (i := 0) (cs := kZ_) (vs := kZ_) (hf1.g 6 4) K5 K2 (hS30.c 0) rfl rfl) (v2 := .bool false) (resAt_tmp rfl) ⟨rfl, (hS30.sN [])⟩
  ·skip
   have hF3 := cf' hb hb1
   refine cw_skip (cr ?_)
   refine sQ 45 (yb (aD b3) 0 (kD_ r_6) K5 K2 (hS29.c 3)) ?_
   refine s0 (yT 1 5 (aD b1) 91 (gD_ r_6) (kD_ r_6) 0 hS29 K2 rfl (hf1.g 8 5)) ?_
   rintro _ w_24 ⟨rfl, hS31⟩
   refine rn (cr ?_)
   refine sQ 46 (yP (i1 : Int) 1 rfl (hf1.g 17 9)) <| sQ 17 (ym (vi (i64.wrap ((i1 : Int) + 1)))) (rn ?_)
   obtain rfl := sI hF3
   exact ⟨K8, Nat.lt_succ_self _, i1 + 1, r_6.Num.A, r_6.Num.B, r_6.Num.C, r_6.Num.D, r_6.Exp, (fc (hf1.g 0 0) (fc (hf1.g 1 1) (fc (hf1.g 2 2) (fc (hf1.g 3 3) (fc (hf1.g 6 4) (fc (hf1.g 8 5) (fc (hf1.g 16 8) (fc (congrArg (Value.int .i64) (wr_succ hlt1 hN)) fn_)))))))), (hS31.sel [0, 1] rfl rfl), (by omega), hL1⟩
 ·skip
  obtain rfl : k_ = 0 := by have h := of_decide_eq_false hlt; omega
  refine cw_exit rfl ?_
  obtain rfl := sI hL
  refine cq (cr ?_)
  refine sQ 47 (yb (aD b1) 0 [vi A, vi B4, vi C, vi D, vi Exp] K5 K2 (hS4.c 1) rfl (hf.g 8 5)) ?_
  refine s0 (yT 0 5 (aD b) 91 (.agg #[vi A, vi B4, vi C, vi D, vi Exp]) [vi A, vi B4, vi C, vi D, vi Exp] 0 hS4 K2 rfl (hf.g 6 4)) ?_
  rintro _ w_25 ⟨rfl, hS32⟩
  refine sQ 7 (yg (.bool true)) (rn (ct_ ?_))
  obtain ⟨rfl, rfl⟩ := pr2 (sI hF1)
  exact ret2 Tryz.results70 (v1 := .agg #[vi A, vi B4, vi C, vi D, vi Exp]) (resAt_cellA (B := aD b) (i := 0) (cs := [vi A, vi B4, vi C, vi D, vi Exp]) (vs := [vi A, vi B4, vi C, vi D, vi Exp]) (hf.g 6 4) K5 K2 (hS32.c 0) rfl rfl) (v2 := .bool true) (resAt_tmp rfl) ⟨rfl, (hS32.sN [])⟩

theorem c_impl_MulMatrix (a : TMatrix) (b : TMatrix) (B : Option Addr) (c n : Nat) (B1 : Option Addr) (c1 n1 : Nat) (w0 : World) (hn : a.Cells.length = n) (hn1 : b.Cells.length = n1) (hS : ST w0 [] w0 [] [⟨B, (a.Cells.flatMap eN1)⟩, ⟨B1, (b.Cells.flatMap eN1)⟩]) {r_ : TMatrix} {r_1 : Bool} (hF : F_impl_MulMatrix a b = some (r_, r_1)) :
  CV Tryz.prog 38 #[.agg #[vi a.Rows, vi a.Cols, .slice B n c], .agg #[vi b.Rows, vi b.Cols, .slice B1 n1 c1]] w0 (fun v w' => ∃ (B2 : Option Addr) (c2 : Nat), v = .tuple #[gM_ r_ B2 c2, .bool r_1] ∧ ST w0 [] w' [⟨B2, 91, (r_.Cells.flatMap eN1), c2 * 5⟩] []) := by
 subst hn
 subst hn1
 unfold F_impl_MulMatrix at hF
 refine cv_of_cw 30 Tryz.func38 rfl Tryz.ntmps38 rfl ?_
 refine cq (cr ?_)
 refine sS 2 (yB 50 (gM_ a B c) (kM_ a B c) 3 hS) ?_
 rintro _ w_ ⟨b1, rfl, hS1⟩
 refine sS 3 (yB 50 (gM_ b B1 c1) (kM_ b B1 c1) 3 hS1) ?_
 rintro _ w_1 ⟨b2, rfl, hS2⟩
 refine sS 4 (yN kN_ 3 hS2 K11) ?_
 rintro _ w_2 ⟨b3, rfl, hS3⟩
 refine sQ 5 (yg (.bool false)) (rn (cq (cq (cr ?_))))
 refine sQ 6 (yb (aD b1) 0 (kM_ a B c) K9 K4 (hS3.c 0)) ?_
 obtain ⟨r_2, hc, hF⟩ := bI hF
 refine sc 7 rfl rfl (yC [gM_ a B c] K81 (c_impl_IsValidMatrix a B c a.Cells.length _ rfl (hS3.inn0 [(true, 0)] rfl) hc)) ?_
 rintro _ w_3 ⟨rfl, hd⟩
 have hS4 := hS3.out00 hd
 refine sQ 8 (Y_not (p := r_2) rfl rfl) <| sQ 9 (ym (.bool (!r_2))) ?_
 refine sgq 10 (B := (!(!r_2))) (v := gM_ b B1 c1) rfl rfl (uF_ 9) (fun hg => (yb (aD b2) 0 (kM_ b B1 c1) K9 K4 (hS4.c 1))) ?_
 obtain ⟨r_3, hc1, hF⟩ := bI hF
 refine sgc 11 (B := (!(!r_2))) (v := .bool r_3) (F := hS4.fn) rfl rfl (uF_ 9) hS4 (fun hg1 => (yC [gM_ b B1 c1] K81 (CV.mono (c_impl_IsValidMatrix b B1 c1 b.Cells.length _ rfl (hS4.inn0 [(true, 1)] rfl) (gb_inv hc1 hg1)) (by rintro _ _ ⟨rfl, h⟩; exact ⟨rfl, hS4.out00 h⟩)) rfl (mc (gv_of (v := gM_ b B1 c1) hg1) mn))) ?_
 rintro w_4 hS5
 refine sgq 12 (B := (!(!r_2))) (v := .bool (!r_3)) rfl rfl (uF_ 9) (fun hg2 => (Y_not (p := r_3) rfl (gv_of (v := .bool r_3) hg2))) ?_
 refine sQ 13 (Y_or (b := (!r_2)) (z := (!r_3)) rfl rfl rfl rfl) <| sQ 14 (ym (.bool ((!r_2) || (!r_3)))) ?_
 refine sgq 15 (B := (!((!r_2) || (!r_3)))) (v := pt (aD b1) 1) rfl rfl (uF_ 14) (fun hg3 => (yd (aD b1) 0 0 K35 K1)) ?_
 refine sgq 16 (B := (!((!r_2) || (!r_3)))) (v := vi a.Cols) rfl rfl (uF_ 14) (fun hg4 => (yl (aD b1) 1 (kM_ a B c) (vi a.Cols) K0 (hS5.c 0) rfl (gv_of (v := pt (aD b1) 1) hg4))) ?_
 refine sgq 17 (B := (!((!r_2) || (!r_3)))) (v := pt (aD b2) 0) rfl rfl (uF_ 14) (fun hg5 => (yd (aD b2) 0 0 K44 K1)) ?_
 refine sgq 18 (B := (!((!r_2) || (!r_3)))) (v := vi b.Rows) rfl rfl (uF_ 14) (fun hg6 => (yl (aD b2) 0 (kM_ b B1 c1) (vi b.Rows) K0 (hS5.c 1) rfl (gv_of (v := pt (aD b2) 0) hg6))) ?_
 refine sgq 19 (B := (!((!r_2) || (!r_3)))) (v := .bool (a.Cols != b.Rows)) rfl rfl (uF_ 14) (fun hg7 => (Y_ne (k := .i64) (a := a.Cols) (b := b.Rows) rfl (gv_of (v := vi a.Cols) hg7) (gv_of (v := vi b.Rows) hg7))) ?_
 refine sQ 20 (Y_or (b := ((!r_2) || (!r_3))) (z := (a.Cols != b.Rows)) rfl rfl rfl rfl) (rn ?_)
 refine cw_cond (b := (((!r_2) || (!r_3)) || (a.Cols != b.Rows))) rfl (fun hb => ?_) (fun hb => ?_)
 ·skip
  have hF1 := ct hF hb
  refine cq (cr ?_)
  refine sQ 21 (Y_buildS (zs := kN_) (vs := []) (cs := kN_) K39 K11 rfl mpn rfl) ?_
  refine s0 (yT 2 3 (aD b3) 50 gN_ kN_ 0 hS5 K4) ?_
  rintro _ w_5 ⟨rfl, hS6⟩
  refine sQ 5 (yg (.bool false)) (rn (ct_ ?_))
  have hS7 := hS6.addNil 91
  obtain ⟨rfl, rfl⟩ := pr2 (sI hF1)
  exact ret2 Tryz.results38 (v1 := gN_) (resAt_cellA (B := aD b3) (i := 0) (cs := kN_) (vs := kN_) rfl K9 K4 (hS7.c 2) rfl rfl) (v2 := .bool false) (resAt_tmp rfl) ⟨none, 0, rfl, (hS7.sN [3])⟩
 ·skip
  have hF2 := cf' hF hb
  refine cw_skip (cq (cr ?_))
  refine sQ 22 (yd (aD b1) 0 0 K44 K1) <| sQ 23 (yl (aD b1) 0 (kM_ a B c) (vi a.Rows) K0 (hS5.c 0)) <| sQ 24 (yd (aD b2) 0 0 K35 K1) <| sQ 25 (yl (aD b2) 1 (kM_ b B1 c1) (vi b.Cols) K0 (hS5.c 1)) <| sQ 26 (Y_makeFunc (cs := [pt (aD b1) 0, pt (aD b2) 0]) rfl rfl (mc rfl (mc rfl mn))) ?_
  obtain ⟨⟨r_4, r_5⟩, hc2, hF2⟩ := bI hF2
  refine sc 27 rfl rfl (yC [vi a.Rows, vi b.Cols, .func (.func 70) #[] #[pt (aD b1) 0, pt (aD b2) 0]] K78 (c_impl_matrixOf a.Rows b.Cols (fun x_0 x_1 => F_impl_MulMatrix_1 x_0 x_1 a b) 70 (#[pt (aD b1) 0, pt (aD b2) 0]) [⟨aD b1, kM_ a B c⟩, ⟨B, (a.Cells.flatMap eN1)⟩, ⟨aD b2, kM_ b B1 c1⟩, ⟨B1, (b.Cells.flatMap eN1)⟩] _ k_call_70 (fun w hw x_0 x_1 y_0 y_1 h_ => c_impl_MulMatrix_1 x_0 x_1 a b (aD b1) B c a.Cells.length (aD b2) B1 c1 b.Cells.length w rfl rfl hw h_) (hS5.inn0 [(false, 0), (true, 0), (false, 1), (true, 1)] rfl) hc2)) ?_
  rintro _ w_6 ⟨B3, c3, rfl, hd1⟩
  have hS8 := hS5.out0 hd1
  refine sQ 28 (ye (gM_ r_4 B3 c3)) <| sQ 29 (ye (.bool r_5)) ?_
  refine s0 (yT 2 3 (aD b3) 50 (gM_ r_4 B3 c3) (kM_ r_4 B3 c3) 0 hS8 K4) ?_
  rintro _ w_7 ⟨rfl, hS9⟩
  refine sQ 5 (yg (.bool r_5)) (rn (ct_ ?_))
  obtain ⟨rfl, rfl⟩ := pr2 (sI hF2)
  exact ret2 Tryz.results38 (v1 := gM_ r_4 B3 c3) (resAt_cellA (B := aD b3) (i := 0) (cs := kM_ r_4 B3 c3) (vs := kM_ r_4 B3 c3) rfl K9 K4 (hS9.c 2) rfl rfl) (v2 := .bool r_5) (resAt_tmp rfl) ⟨B3, c3, rfl, (hS9.sN [3])⟩

theorem c_slices_Clone_impl_Gate_impl_Gate (s : List TGate) (B : Option Addr) (c n : Nat) (w0 : World) (hn : s.length = n) (hS : ST w0 [] w0 [] [⟨B, (s.flatMap eN0)⟩]) {r_ : List TGate} (hF : F_slices_Clone_impl_Gate_impl_Gate s = some r_) :
  CV Tryz.prog 39 #[.slice B n c] w0 (fun v w' => ∃ (B1 : Option Addr) (c1 : Nat), v = .slice B1 r_.length c1 ∧ ST w0 [] w' [⟨B1, 56, (r_.flatMap eN0), c1 * 3⟩] []) := by
 subst hn
 unfold F_slices_Clone_impl_Gate_impl_Gate at hF
 refine cv_of_cw 8 Tryz.func39 rfl Tryz.ntmps39 rfl ?_
 refine cq (cr ?_)
 refine sQ 2 (yg (.slice none 0 0)) (rn (cq (cq (cr ?_))))
 refine sQ 3 (ym (.slice B s.length c)) <| sQ 4 (Y_nileql (B := B) (m := s.length) (c := c) K23 rfl rfl rfl) (rn ?_)
 refine cw_cond (b := B.isNone) rfl (fun hb => ?_) (fun hb => ?_)
 ·skip
  have hl : s = [] := nil_cont enc_Gate_len (hS.rf (i := 0) rfl) rfl hb
  rw [hl] at hF
  have hF1 : (some ([])) = some r_ := by simpa [chk] using hF
  subst hl
  refine cq (cr ?_)
  refine sQ 2 (yg (.slice none 0 0)) (rn (ct_ ?_))
  have hS1 := hS.addNil 56
  obtain rfl := sI hF1
  exact ret1 Tryz.results39 (v1 := .slice none 0 0) (resAt_tmp rfl) ⟨none, 0, rfl, (hS1.sN [0])⟩
 ·skip
  refine cw_skip (cq (cr ?_))
  refine sS 5 (Ys_bslice0 (s := 3) (e := 56) hS K23 K19 rfl) ?_
  rintro _ w_ ⟨b, rfl, hS2⟩
  refine sQ 6 (ym (.slice B s.length c)) ?_
  obtain ⟨hap, hF⟩ := chk_inv hF
  refine sS 7 (Ys_append (s := 3) (by' := 24) (i := 0) (nn := 0) (c := 0) (k := s.length) (len := s.length) (B := aD b) (xs := (s.flatMap eN0)) (cs' := (s.flatMap eN0)) hS2 K23 K19 K43 K24 rfl (by decide) rfl rfl rfl rfl (fm_lenn (l := []) enc_Gate_len rfl) rfl (hS2.rf (i := 0) rfl) (fm_lenn (l := s) enc_Gate_len rfl) (fm_one' (enc := eN0) enc_Gate_one s) (by have := hap; omega) (by have := hap; simp only [maxLen]; omega) rfl (app_len0 (l := s) rfl)) ?_
  rintro _ w_1 ⟨B2, c2, rfl, hS3⟩
  refine sQ 2 (yg (.slice B2 s.length c2)) (rn (ct_ ?_))
  obtain rfl := sI hF
  exact ret1 Tryz.results39 (v1 := .slice B2 s.length c2) (resAt_tmp rfl) ⟨B2, c2, rfl, (hS3.sN [0])⟩

theorem c_impl_TableSize (n : Int) (length : Int)  (w0 : World) (ht1 : Go.Lib.TabIs Tryz.prog w0 "internal/strconv.uint64pow10" .u64 Go.Lib.pow10Tab) (hS : ST w0 [] w0 [] [⟨(aD 1), (gl1.flatMap enc_u64)⟩]) {r_ : Int} {r_1 : Bool} (hF : F_impl_TableSize n length = some (r_, r_1)) :
  CV Tryz.prog 12 #[vi n, vi length] w0 (fun v w' => v = .tuple #[vi r_, .bool r_1] ∧ ST w0 [] w' [] []) := by
 have hgm1 : 1 ∉ [] := List.not_mem_nil
 unfold F_impl_TableSize at hF
 refine cv_of_cw 29 Tryz.func12 rfl Tryz.ntmps12 rfl ?_
 refine cq (cr ?_)
 refine sQ 4 (yg (vi 0)) <| sQ 5 (yg (.bool false)) (rn (cq (cq (cr ?_))))
 refine sQ 6 (ym (vi n)) ?_
 obtain ⟨r_2, hc, hF⟩ := bI hF
 refine sc 7 rfl rfl (yC [vi n, vi 1, vi 2] K38 (c_impl_within n 1 2 _  (hS.inn0 [] rfl) hc)) ?_
 rintro _ w_ ⟨rfl, hd⟩
 have hS1 := hS.out00 hd
 refine sQ 8 (Y_not (p := r_2) rfl rfl) <| sQ 9 (ym (.bool (!r_2))) ?_
 refine sgq 10 (B := (!(!r_2))) (v := vi length) rfl rfl (uF_ 9) (fun hg => (ym (vi length))) ?_
 obtain ⟨r_3, hc1, hF⟩ := bI hF
 refine sgc 11 (B := (!(!r_2))) (v := .bool r_3) (F := hS1.fn) rfl rfl (uF_ 9) hS1 (fun hg1 => (yC [vi length, vi 0, vi 6] K38 (CV.mono (c_impl_within length 0 6 _  (hS1.inn0 [] rfl) (gb_inv hc1 hg1)) (by rintro _ _ ⟨rfl, h⟩; exact ⟨rfl, hS1.out00 h⟩)) rfl (mc (gv_of (v := vi length) hg1) (mc rfl (mc rfl mn))))) ?_
 rintro w_1 hS2
 refine sgq 12 (B := (!(!r_2))) (v := .bool (!r_3)) rfl rfl (uF_ 9) (fun hg2 => (Y_not (p := r_3) rfl (gv_of (v := .bool r_3) hg2))) ?_
 refine sQ 13 (Y_or (b := (!r_2)) (z := (!r_3)) rfl rfl rfl rfl) <| sQ 14 (ym (.bool ((!r_2) || (!r_3)))) ?_
 refine sgq 15 (B := (!((!r_2) || (!r_3)))) (v := vi n) rfl rfl (uF_ 14) (fun hg3 => (ym (vi n))) ?_
 refine sgq 16 (B := (!((!r_2) || (!r_3)))) (v := .bool (n == 2)) rfl rfl (uF_ 14) (fun hg4 => (yE n 2 rfl (gv_of (v := vi n) hg4))) ?_
 refine sgq 17 (B := (!((!r_2) || (!r_3)))) (v := .bool (n == 2)) rfl rfl (uF_ 14) (fun hg5 => (ym (.bool (n == 2)) rfl (gv_of (v := .bool (n == 2)) hg5))) ?_
 refine sgq 18 (B := ((!((!r_2) || (!r_3))) && (n == 2))) (v := vi length) rfl rfl (wt_gt (gd_of (t := 17) (by kernel_rfl) rfl)) (fun hg6 => (ym (vi length))) ?_
 refine sgq 19 (B := ((!((!r_2) || (!r_3))) && (n == 2))) (v := .bool (decide (3 < length))) rfl rfl (wt_gt (gd_of (t := 17) (by kernel_rfl) rfl)) (fun hg7 => (Y_gt (k := .i64) (a := length) (b := 3) rfl (gv_of (v := vi length) hg7) rfl)) ?_
 refine sgq 20 (B := (!((!r_2) || (!r_3)))) (v := .bool ((n == 2) && (decide (3 < length)))) rfl rfl (uF_ 14) (fun hg8 => (Y_and (b := (n == 2)) (z := (decide (3 < length))) rfl (gv_of (v := .bool (n == 2)) hg8) (gv_and (B := (!((!r_2) || (!r_3)))) (C := (n == 2)) (v := .bool (decide (3 < length))) hg8) rfl)) ?_
 refine sQ 21 (Y_or (b := ((!r_2) || (!r_3))) (z := ((n == 2) && (decide (3 < length)))) rfl rfl rfl rfl) (rn ?_)
 refine cw_cond (b := (((!r_2) || (!r_3)) || ((n == 2) && (decide (3 < length))))) rfl (fun hb => ?_) (fun hb => ?_)
 ·skip
  have hF1 := ct hF hb
  refine cq (cr ?_)
  refine sQ 4 (yg (vi 0)) <| sQ 5 (yg (.bool false)) (rn (ct_ ?_))
  obtain ⟨rfl, rfl⟩ := pr2 (sI hF1)
  exact ret2 Tryz.results12 (v1 := vi 0) (resAt_tmp rfl) (v2 := .bool false) (resAt_tmp rfl) ⟨rfl, (hS2.sN [])⟩
 ·skip
  have hF2 := cf' hF hb
  refine cw_skip (cq (cr ?_))
  refine sQ 22 (ym (vi n)) <| sQ 23 (ym (vi length)) ?_
  obtain ⟨⟨t, t1⟩, hc9, hF2⟩ := bI hF2
  refine sc 24 rfl rfl (Yc_func (g := 21) (vs := [vi n, vi length]) (R := fun v w' => ∃ (g : Nat) (D : List ((List UInt8) × Hd × (List TGate))) (B : Option Addr) (c : Nat), v = .agg #[.map (some g), .slice B t1.length c] ∧ D.map dm = t ∧ ST w0 [] w' [⟨(aD g), .mp (mpE vStr vSl D), [], 0⟩, ⟨B, 3, (t1.flatMap encI), c * 1⟩] (⟨(aD 1), (gl1.flatMap enc_u64)⟩ :: ((D.flatMap (rowM eN0)) ++ []))) k_call_21 rfl (mc rfl (mc rfl mn)) ?cv) ?_
  case cv =>
   show CV Tryz.prog 21 #[vi n, vi length] _ _
   refine cv_of_cw 125 Tryz.func21 rfl Tryz.ntmps21 rfl ?_
   refine cq (cr ?_)
   refine sS 4 (yN [.map none, .slice none 0 0] 2 hS2 K97) ?_
   rintro _ w_68 ⟨b15, rfl, hS99⟩
   refine rn (cq (cr ?_))
   refine sQ 26 (ym (vi n)) ?_
   obtain ⟨hsh1, hc9⟩ := chk_inv hc9
   refine sQ 27 (Y_shl (k := .i64) (a := 1) (k' := .i64) (b := n) rfl rfl rfl hsh1) ?_
   obtain ⟨⟨r_16, r_17⟩, hc10, hc9⟩ := bI hc9
   refine sc 28 rfl rfl (yC [vi (shlK .i64 1 n)] k_call_34 (c_impl_IdentityMatrix (shlK .i64 1 n) _  (hS99.inn0 [] rfl) hc10)) ?_
   rintro _ w_69 ⟨B19, c18, rfl, hd13⟩
   have hS100 := hS99.out0 hd13
   refine sQ 25 (ym (.tuple #[gM_ r_16 B19 c18, .bool r_17])) <| sQ 29 (ye (gM_ r_16 B19 c18)) <| sQ 30 (ye (.bool r_17)) ?_
   refine sS 5 (yN kN_ 3 hS100 K11) ?_
   rintro _ w_70 ⟨b16, rfl, hS101⟩
   refine s0 (yT 2 3 (aD b16) 50 (gM_ r_16 B19 c18) (kM_ r_16 B19 c18) 0 hS101 K4) ?_
   rintro _ w_71 ⟨rfl, hS102⟩
   have hS102 : ST w0 [] _ [⟨aD b15, 46, [.map none, .slice none 0 0], 2⟩, ⟨B19, 91, (r_16.Cells.flatMap eN1), c18 * 5⟩, ⟨aD b16, 50, kM_ r_16 B19 c18, 3⟩] [⟨(aD 1), (gl1.flatMap enc_u64)⟩] := hS102
   refine sQ 6 (yg (.bool r_17)) (rn (cq (cr ?_)))
   refine sQ 32 (yb (aD b16) 0 (kM_ r_16 B19 c18) K9 K4 (hS102.c 2)) ?_
   obtain ⟨⟨r_18, r_19⟩, hc11, hc9⟩ := bI hc9
   refine sc 33 rfl rfl (yC [gM_ r_16 B19 c18] k_call_35 (c_impl_OperatorKey r_16 B19 c18 r_16.Cells.length _ rfl (tab_keep hS102 ht1 (by kernel_rfl) hgm1) (hS102.inn0 [(false, 1), (true, 0)] rfl) hc11)) ?_
   rintro _ w_72 ⟨rfl, hd14⟩
   have hS103 := hS102.out00 hd14
   refine sQ 31 (ym (.tuple #[.string (bstr r_18), .bool r_19])) <| sQ 34 (ye (.string (bstr r_18))) <| sQ 35 (ye (.bool r_19)) <| sQ 7 (yg (.string (bstr r_18))) <| sQ 8 (yg (.bool r_19)) (rn (cq (cr ?_)))
   refine sS 36 (Ys_mkMap (T := 43) hS103 rfl) ?_
   rintro _ w_73 ⟨g2, rfl, hS104⟩
   have hS105 : ST w0 [] _ [⟨aD b15, 46, [.map none, .slice none 0 0], 2⟩, ⟨B19, 91, (r_16.Cells.flatMap eN1), c18 * 5⟩, ⟨aD b16, 50, kM_ r_16 B19 c18, 3⟩, ⟨(aD g2), .mp (mpE vStr vSl ([] : List ((List UInt8) × Hd × (List TGate)))), [], 0⟩] (⟨(aD 1), (gl1.flatMap enc_u64)⟩ :: ((([] : List ((List UInt8) × Hd × (List TGate))).flatMap (rowM eN0)) ++ [])) := ST.subR hS104 (sk 0 (suba fsub_nil (fun _ h => by cases h)))
   refine sQ 37 (ym (.string (bstr r_18))) ?_
   refine sS 38 (Ys_bslice0 (s := 3) (e := 56) hS105 K23 K19 rfl) ?_
   rintro _ w_74 ⟨b17, rfl, hS106⟩
   have ho14 : Org w0 [] [⟨(aD 1), (gl1.flatMap enc_u64)⟩] [⟨aD b17, ([].flatMap eN0)⟩] := ST.orgOwn hS106 (i := 4) rfl
   have hcap4 : 0 ≤ 0 := (hS106.lencap (i := 4) rfl (fm_lenn (l := []) enc_Gate_len rfl) rfl rfl)
   have hS107 : ST w0 [] _ [⟨aD b15, 46, [.map none, .slice none 0 0], 2⟩, ⟨B19, 91, (r_16.Cells.flatMap eN1), c18 * 5⟩, ⟨aD b16, 50, kM_ r_16 B19 c18, 3⟩, ⟨(aD g2), .mp (mpE vStr vSl ([] : List ((List UInt8) × Hd × (List TGate)))), [], 0⟩] (⟨aD b17, ([].flatMap eN0)⟩ :: ⟨(aD 1), (gl1.flatMap enc_u64)⟩ :: ((([] : List ((List UInt8) × Hd × (List TGate))).flatMap (rowM eN0)) ++ [])) := hS106.freeze (i := 4) rfl
   refine s0 (Ys_mapIns (kE := vStr) (vE := vSl) (l := ([] : List ((List UInt8) × Hd × (List TGate)))) (a := r_18) (b := ((aD b17, 0), [])) (g := g2) (i := 3) hS107 (keyStr K98) K99 rfl rfl rfl rfl rfl rfl) ?_
   rintro _ w_75 ⟨rfl, hS108⟩
   have hD14 : (mput ([] : List ((List UInt8) × Hd × (List TGate))) r_18 ((aD b17, 0), [])).map dm = (mput ([] : List ((List UInt8) × (List TGate))) r_18 []) := mput_dm rfl _ _ _
   have hm7 : ∀ r ∈ ((mput ([] : List ((List UInt8) × Hd × (List TGate))) r_18 ((aD b17, 0), [])).flatMap (rowM eN0)), r ∈ ((⟨aD b17, ([].flatMap eN0)⟩ :: ⟨(aD 1), (gl1.flatMap enc_u64)⟩ :: ((([] : List ((List UInt8) × Hd × (List TGate))).flatMap (rowM eN0)) ++ [])) : List Ro) := mput_sub (R := (⟨aD b17, ([].flatMap eN0)⟩ :: ⟨(aD 1), (gl1.flatMap enc_u64)⟩ :: ((([] : List ((List UInt8) × Hd × (List TGate))).flatMap (rowM eN0)) ++ []))) (fun r_ (h : r_ ∈ ((([] : List ((List UInt8) × Hd × (List TGate))).flatMap (rowM eN0)) : List Ro)) => mOd (i := 2) (show r_ ∈ ((((([] : List ((List UInt8) × Hd × (List TGate))).flatMap (rowM eN0)) ++ [])) : List Ro) from mAl _ h)) (mt 0) _
   have hS109 : ST w0 [] _ [⟨aD b15, 46, [.map none, .slice none 0 0], 2⟩, ⟨B19, 91, (r_16.Cells.flatMap eN1), c18 * 5⟩, ⟨aD b16, 50, kM_ r_16 B19 c18, 3⟩, ⟨(aD g2), .mp (mpE vStr vSl (mput ([] : List ((List UInt8) × Hd × (List TGate))) r_18 ((aD b17, 0), []))), [], 0⟩] (⟨aD b17, ([].flatMap eN0)⟩ :: ⟨(aD 1), (gl1.flatMap enc_u64)⟩ :: (((mput ([] : List ((List UInt8) × Hd × (List TGate))) r_18 ((aD b17, 0), [])).flatMap (rowM eN0)) ++ [])) := ST.subR hS108 (sk 0 (sk 1 (suba hm7 (fun _ h => by cases h))))
   have hS109 : ST w0 [] _ [⟨aD b15, 46, [.map none, .slice none 0 0], 2⟩, ⟨B19, 91, (r_16.Cells.flatMap eN1), c18 * 5⟩, ⟨aD b16, 50, kM_ r_16 B19 c18, 3⟩, ⟨(aD g2), .mp (mpE vStr vSl (mput ([] : List ((List UInt8) × Hd × (List TGate))) r_18 ((aD b17, 0), []))), [], 0⟩] (⟨aD b17, ([].flatMap eN0)⟩ :: ⟨(aD 1), (gl1.flatMap enc_u64)⟩ :: (((mput ([] : List ((List UInt8) × Hd × (List TGate))) r_18 ((aD b17, 0), [])).flatMap (rowM eN0)) ++ [])) := hS109
   refine sQ 39 (ym (.map (some g2))) ?_
   refine sS 40 (Ys_bslice (s := 1) (len := 1) (vs := [(0, vi 1)]) (cs := [vi 1]) (zs := [vi 0]) (m := 1) hS109 K26 K1 K50 rfl (mpc rfl mpn) rfl rfl rfl (by kernel_rfl) (by kernel_rfl) rfl) ?_
   rintro _ w_76 ⟨b18, rfl, hS110⟩
   refine sQ 41 (Y_buildS (zs := [.map none, .slice none 0 0]) (vs := [(0, .map (some g2)), (1, .slice (aD b18) 1 1)]) (cs := [.map (some g2), .slice (aD b18) 1 1]) k_pl_46 K97 rfl (mpc rfl (mpc rfl mpn)) rfl) ?_
   refine sS 9 (yN [.map none, .slice none 0 0] 2 hS110 K97) ?_
   rintro _ w_77 ⟨b19, rfl, hS111⟩
   refine s0 (yT 5 2 (aD b19) 46 (.agg #[.map (some g2), .slice (aD b18) 1 1]) [.map (some g2), .slice (aD b18) 1 1] 0 hS111 K83) ?_
   rintro _ w_78 ⟨rfl, hS112⟩
   refine rn (cq (cr ?_))
   refine sQ 42 (yb (aD b16) 0 (kM_ r_16 B19 c18) K9 K4 (hS112.c 2)) <| sQ 43 (Y_buildS (zs := [.slice none 0 0, vi 0, vi 0, .slice none 0 0]) (vs := [(1, gM_ r_16 B19 c18)]) (cs := [.slice none 0 0, vi r_16.Rows, vi r_16.Cols, .slice B19 r_16.Cells.length c18]) K48 K32 rfl (mpc rfl mpn) rfl) ?_
   have ho15 : Org w0 [] [⟨(aD 1), (gl1.flatMap enc_u64)⟩] [⟨B19, (r_16.Cells.flatMap eN1)⟩] := ST.orgOwn hS112 (i := 1) rfl
   have hcap5 : r_16.Cells.length ≤ c18 := (hS112.lencap (i := 1) rfl (fm_lenn (l := r_16.Cells) enc_Dyadic_len rfl) rfl rfl)
   have hS113 : ST w0 [] _ [⟨aD b15, 46, [.map none, .slice none 0 0], 2⟩, ⟨aD b16, 50, kM_ r_16 B19 c18, 3⟩, ⟨(aD g2), .mp (mpE vStr vSl (mput ([] : List ((List UInt8) × Hd × (List TGate))) r_18 ((aD b17, 0), []))), [], 0⟩, ⟨aD b18, 3, ([1].flatMap encI), 1 * 1⟩, ⟨aD b19, 46, [.map (some g2), .slice (aD b18) 1 1], 2⟩] (⟨B19, (r_16.Cells.flatMap eN1)⟩ :: ⟨aD b17, ([].flatMap eN0)⟩ :: ⟨(aD 1), (gl1.flatMap enc_u64)⟩ :: (((mput ([] : List ((List UInt8) × Hd × (List TGate))) r_18 ((aD b17, 0), [])).flatMap (rowM eN0)) ++ [])) := hS112.freeze (i := 1) rfl
   have hS114 : ST w0 [] _ [⟨aD b15, 46, [.map none, .slice none 0 0], 2⟩, ⟨aD b16, 50, kM_ r_16 B19 c18, 3⟩, ⟨(aD g2), .mp (mpE vStr vSl (mput ([] : List ((List UInt8) × Hd × (List TGate))) r_18 ((aD b17, 0), []))), [], 0⟩, ⟨aD b18, 3, ([1].flatMap encI), 1 * 1⟩, ⟨aD b19, 46, [.map (some g2), .slice (aD b18) 1 1], 2⟩] (⟨none, ([].flatMap eN0)⟩ :: ⟨B19, (r_16.Cells.flatMap eN1)⟩ :: ⟨aD b17, ([].flatMap eN0)⟩ :: ⟨(aD 1), (gl1.flatMap enc_u64)⟩ :: (((mput ([] : List ((List UInt8) × Hd × (List TGate))) r_18 ((aD b17, 0), [])).flatMap (rowM eN0)) ++ [])) := ST.nilRo hS113
   refine sS 44 (Ys_bslice (s := 4) (len := 1) (vs := [(0, .agg #[.slice none 0 0, vi r_16.Rows, vi r_16.Cols, .slice B19 r_16.Cells.length c18])]) (cs := [.slice none 0 0, vi r_16.Rows, vi r_16.Cols, .slice B19 r_16.Cells.length c18]) (zs := [.slice none 0 0, vi 0, vi 0, .slice none 0 0]) (m := 4) hS114 K57 K34 k_zc_75 rfl (mpc rfl mpn) rfl rfl rfl (by kernel_rfl) (by kernel_rfl) rfl) ?_
   rintro _ w_79 ⟨b20, rfl, hS115⟩
   have hm8 : ∀ r ∈ (([(((none, 0), (B19, c18)), (TtableWord.mk [] r_16))] : List ((Hd × Hd) × TtableWord)).flatMap eN3), r ∈ ((⟨none, ([].flatMap eN0)⟩ :: ⟨B19, (r_16.Cells.flatMap eN1)⟩ :: ⟨aD b17, ([].flatMap eN0)⟩ :: ⟨(aD 1), (gl1.flatMap enc_u64)⟩ :: (((mput ([] : List ((List UInt8) × Hd × (List TGate))) r_18 ((aD b17, 0), [])).flatMap (rowM eN0)) ++ [])) : List Ro) := (fsub_cons (sk 0 (sk 1 (fun _ h => by cases h))) fsub_nil)
   have ho16 : Org w0 [] [⟨(aD 1), (gl1.flatMap enc_u64)⟩] (([(((none, 0), (B19, c18)), (TtableWord.mk [] r_16))] : List ((Hd × Hd) × TtableWord)).flatMap eN3) := (forg_cons (org_cons org_none (org_cons ho15 org_nil)) forg_nil)
   have hS116 : ST w0 [] _ [⟨aD b15, 46, [.map none, .slice none 0 0], 2⟩, ⟨aD b16, 50, kM_ r_16 B19 c18, 3⟩, ⟨(aD g2), .mp (mpE vStr vSl (mput ([] : List ((List UInt8) × Hd × (List TGate))) r_18 ((aD b17, 0), []))), [], 0⟩, ⟨aD b18, 3, ([1].flatMap encI), 1 * 1⟩, ⟨aD b19, 46, [.map (some g2), .slice (aD b18) 1 1], 2⟩, ⟨aD b20, 75, (([(((none, 0), (B19, c18)), (TtableWord.mk [] r_16))] : List ((Hd × Hd) × TtableWord)).flatMap eN5), 1 * 4⟩] (⟨none, ([].flatMap eN0)⟩ :: ⟨B19, (r_16.Cells.flatMap eN1)⟩ :: ⟨aD b17, ([].flatMap eN0)⟩ :: ⟨(aD 1), (gl1.flatMap enc_u64)⟩ :: ((([(((none, 0), (B19, c18)), (TtableWord.mk [] r_16))] : List ((Hd × Hd) × TtableWord)).flatMap eN3) ++ (((mput ([] : List ((List UInt8) × Hd × (List TGate))) r_18 ((aD b17, 0), [])).flatMap (rowM eN0)) ++ []))) := ST.subR hS115 (sk 0 (sk 1 (sk 2 (sk 3 (suba hm8 (suba (fun r_ (h : r_ ∈ (((mput ([] : List ((List UInt8) × Hd × (List TGate))) r_18 ((aD b17, 0), [])).flatMap (rowM eN0)) : List Ro)) => mOd (i := 4) (show r_ ∈ (((((mput ([] : List ((List UInt8) × Hd × (List TGate))) r_18 ((aD b17, 0), [])).flatMap (rowM eN0)) ++ [])) : List Ro) from mAl _ h)) (fun _ h => by cases h)))))))
   have hS116 : ST w0 [] _ [⟨aD b15, 46, [.map none, .slice none 0 0], 2⟩, ⟨aD b16, 50, kM_ r_16 B19 c18, 3⟩, ⟨(aD g2), .mp (mpE vStr vSl (mput ([] : List ((List UInt8) × Hd × (List TGate))) r_18 ((aD b17, 0), []))), [], 0⟩, ⟨aD b18, 3, ([1].flatMap encI), 1 * 1⟩, ⟨aD b19, 46, [.map (some g2), .slice (aD b18) 1 1], 2⟩, ⟨aD b20, 75, (([(((none, 0), (B19, c18)), (TtableWord.mk [] r_16))] : List ((Hd × Hd) × TtableWord)).flatMap eN5), 1 * 4⟩] (⟨none, ([].flatMap eN0)⟩ :: ⟨B19, (r_16.Cells.flatMap eN1)⟩ :: ⟨aD b17, ([].flatMap eN0)⟩ :: ⟨(aD 1), (gl1.flatMap enc_u64)⟩ :: ((([(((none, 0), (B19, c18)), (TtableWord.mk [] r_16))] : List ((Hd × Hd) × TtableWord)).flatMap eN3) ++ (((mput ([] : List ((List UInt8) × Hd × (List TGate))) r_18 ((aD b17, 0), [])).flatMap (rowM eN0)) ++ []))) := hS116
   refine sQ 10 (yg (.slice (aD b20) 1 1)) (rn (cq (cq (cr ?_))))
   refine sQ 45 (ym (vi length)) <| sQ 46 (ym (vi 0)) (rn ?_)
   obtain ⟨hN3, hc9⟩ := chk_inv hc9
   obtain ⟨z4, hz4, hF9⟩ := bI hc9
   have hS118 : ST w0 [] _ [⟨aD b15, 46, [.map none, .slice none 0 0], 2⟩, ⟨aD b16, 50, kM_ r_16 B19 c18, 3⟩, ⟨(aD g2), .mp (mpE vStr vSl (mput ([] : List ((List UInt8) × Hd × (List TGate))) r_18 ((aD b17, 0), []))), [], 0⟩, ⟨aD b18, 3, ([1].flatMap encI), 1 * 1⟩, ⟨aD b19, 46, [.map (some g2), .slice (aD b18) 1 1], 2⟩, ⟨aD b20, 75, (([(((none, 0), (B19, c18)), (TtableWord.mk [] r_16))] : List ((Hd × Hd) × TtableWord)).flatMap eN5), 1 * 4⟩] (⟨none, ([].flatMap eN0)⟩ :: ⟨B19, (r_16.Cells.flatMap eN1)⟩ :: ⟨aD b17, ([].flatMap eN0)⟩ :: ⟨(aD 1), (gl1.flatMap enc_u64)⟩ :: (((mput ([] : List ((List UInt8) × Hd × (List TGate))) r_18 ((aD b17, 0), [])).flatMap (rowM eN0)) ++ ((([(((none, 0), (B19, c18)), (TtableWord.mk [] r_16))] : List ((Hd × Hd) × TtableWord)).flatMap eN3) ++ []))) := ST.subR hS116 (sk 0 (sk 1 (sk 2 (sk 3 (suba (fun r_ (h : r_ ∈ (((mput ([] : List ((List UInt8) × Hd × (List TGate))) r_18 ((aD b17, 0), [])).flatMap (rowM eN0)) : List Ro)) => mOd (i := 4) (show r_ ∈ ((((([(((none, 0), (B19, c18)), (TtableWord.mk [] r_16))] : List ((Hd × Hd) × TtableWord)).flatMap eN3) ++ (((mput ([] : List ((List UInt8) × Hd × (List TGate))) r_18 ((aD b17, 0), [])).flatMap (rowM eN0)) ++ []))) : List Ro) from mAr _ (mAl _ h))) (suba (fun r_ (h : r_ ∈ ((([(((none, 0), (B19, c18)), (TtableWord.mk [] r_16))] : List ((Hd × Hd) × TtableWord)).flatMap eN3) : List Ro)) => mOd (i := 4) (show r_ ∈ ((((([(((none, 0), (B19, c18)), (TtableWord.mk [] r_16))] : List ((Hd × Hd) × TtableWord)).flatMap eN3) ++ (((mput ([] : List ((List UInt8) × Hd × (List TGate))) r_18 ((aD b17, 0), [])).flatMap (rowM eN0)) ++ []))) : List Ro) from mAl _ h)) (fun _ h => by cases h)))))))
   refine cw_block ?_
   refine cw_loop (fun k f w => ∃ (i3 : Nat) (words4 : List ((List UInt8) × (List TGate))) (sizes1 : List Int) (level1 : List TtableWord) (D12 : List ((List UInt8) × Hd × (List TGate))) (B20 : Option Addr) (c19 : Nat) (B21 : Option Addr) (c20 : Nat) (D13 : List ((Hd × Hd) × TtableWord)), FF f [(0, vi n), (4, pt (aD b15) 0), (9, pt (aD b19) 0), (10, .slice B21 level1.length c20), (45, vi length), (46, vi (i3 : Int))] ∧ D12.map dm = words4 ∧ D13.map Prod.snd = level1 ∧ Org w0 [] [⟨(aD 1), (gl1.flatMap enc_u64)⟩] (D13.flatMap eN3) ∧ ST w0 [] w [⟨aD b15, 46, [.map none, .slice none 0 0], 2⟩, ⟨aD b19, 46, [.map (some g2), .slice B20 sizes1.length c19], 2⟩, ⟨(aD g2), .mp (mpE vStr vSl D12), [], 0⟩, ⟨B20, 3, (sizes1.flatMap encI), c19 * 1⟩, ⟨B21, 75, (D13.flatMap eN5), c20 * 4⟩] (⟨none, ([].flatMap eN0)⟩ :: ⟨B19, (r_16.Cells.flatMap eN1)⟩ :: ⟨aD b17, ([].flatMap eN0)⟩ :: ⟨(aD 1), (gl1.flatMap enc_u64)⟩ :: ((D12.flatMap (rowM eN0)) ++ ((D13.flatMap eN3) ++ []))) ∧ i3 + k = length.toNat ∧ forN (F_impl_TableSize_l1 n) k i3 (words4, sizes1, level1) = some z4) length.toNat ⟨0, (mput ([] : List ((List UInt8) × (List TGate))) r_18 []), [1], ([(TtableWord.mk [] r_16)] : List TtableWord), (mput ([] : List ((List UInt8) × Hd × (List TGate))) r_18 ((aD b17, 0), [])), aD b18, 1, aD b20, 1, ([(((none, 0), (B19, c18)), (TtableWord.mk [] r_16))] : List ((Hd × Hd) × TtableWord)), (fc rfl (fc rfl (fc rfl (fc rfl (fc rfl (fc rfl fn_)))))), hD14, (show List.map Prod.snd ([(((none, 0), (B19, c18)), (TtableWord.mk [] r_16))] : List ((Hd × Hd) × TtableWord)) = ([(TtableWord.mk [] r_16)] : List TtableWord) from rfl), ho16, (hS118.sel [0, 4, 2, 3, 5] rfl rfl), Nat.zero_add _, hz4⟩ ?_
   rintro K51 f w ⟨i3, words4, sizes1, level1, D12, B20, c19, B21, c20, D13, hf6, hD15, hD16, ho17, hS117, hik3, hL6⟩
   refine cq (cr ?_)
   refine sQ 47 (yL (i3 : Int) length rfl (hf6.g 46 5) (hf6.g 45 4)) (rn (cq ?_))
   refine cw_cond (b := (decide ((i3 : Int) < length))) rfl (fun hlt6 => ?_) (fun hlt6 => ?_)
   ·skip
    have hlt7 : i3 < length.toNat := by have h := of_decide_eq_true hlt6; omega
    obtain ⟨K60, rfl⟩ : ∃ k2, K51 = k2 + 1 := ⟨K51 - 1, by omega⟩
    obtain ⟨y3, hb5, hL7⟩ := forN_go hL6
    unfold F_impl_TableSize_l1 at hb5
    refine cw_skip (cq (cw_block (cq (cr ?_))))
    refine sS 48 (Ys_bslice0 (s := 4) (e := 75) hS117 K57 K34 rfl) ?_
    rintro _ w_80 ⟨b21, rfl, hS119⟩
    have hS120 : ST w0 [] _ [⟨aD b15, 46, [.map none, .slice none 0 0], 2⟩, ⟨aD b19, 46, [.map (some g2), .slice B20 sizes1.length c19], 2⟩, ⟨(aD g2), .mp (mpE vStr vSl D12), [], 0⟩, ⟨B20, 3, (sizes1.flatMap encI), c19 * 1⟩, ⟨B21, 75, (D13.flatMap eN5), c20 * 4⟩, ⟨aD b21, 75, (([] : List ((Hd × Hd) × TtableWord)).flatMap eN5), 0 * 4⟩] (⟨none, ([].flatMap eN0)⟩ :: ⟨B19, (r_16.Cells.flatMap eN1)⟩ :: ⟨aD b17, ([].flatMap eN0)⟩ :: ⟨(aD 1), (gl1.flatMap enc_u64)⟩ :: ((([] : List ((Hd × Hd) × TtableWord)).flatMap eN3) ++ ((D12.flatMap (rowM eN0)) ++ ((D13.flatMap eN3) ++ [])))) := ST.subR hS119 (sk 0 (sk 1 (sk 2 (sk 3 (suba fsub_nil (suba (fun r_ (h : r_ ∈ ((D12.flatMap (rowM eN0)) : List Ro)) => mOd (i := 4) (show r_ ∈ ((((D12.flatMap (rowM eN0)) ++ ((D13.flatMap eN3) ++ []))) : List Ro) from mAl _ h)) (suba (fun r_ (h : r_ ∈ ((D13.flatMap eN3) : List Ro)) => mOd (i := 4) (show r_ ∈ ((((D12.flatMap (rowM eN0)) ++ ((D13.flatMap eN3) ++ []))) : List Ro) from mAr _ (mAl _ h))) (fun _ h => by cases h))))))))
    refine sQ 11 (yg (.slice (aD b21) 0 0)) (rn (cq (cq (cr ?_))))
    refine sQ 49 (ym (.slice B21 level1.length c20) rfl (hf6.g 10 3)) <| sQ 50 (Y_len (B := B21) (m := level1.length) (c := c20) K57 rfl rfl) <| sQ 51 (ym (vi 0)) (rn ?_)
    obtain ⟨hN4, hb5⟩ := chk_inv hb5
    obtain ⟨z5, hz5, hF10⟩ := bI hb5
    have hS122 : ST w0 [] _ [⟨aD b15, 46, [.map none, .slice none 0 0], 2⟩, ⟨aD b19, 46, [.map (some g2), .slice B20 sizes1.length c19], 2⟩, ⟨(aD g2), .mp (mpE vStr vSl D12), [], 0⟩, ⟨B20, 3, (sizes1.flatMap encI), c19 * 1⟩, ⟨B21, 75, (D13.flatMap eN5), c20 * 4⟩, ⟨aD b21, 75, (([] : List ((Hd × Hd) × TtableWord)).flatMap eN5), 0 * 4⟩] (⟨none, ([].flatMap eN0)⟩ :: ⟨B19, (r_16.Cells.flatMap eN1)⟩ :: ⟨aD b17, ([].flatMap eN0)⟩ :: ⟨(aD 1), (gl1.flatMap enc_u64)⟩ :: ((D12.flatMap (rowM eN0)) ++ ((([] : List ((Hd × Hd) × TtableWord)).flatMap eN3) ++ ((D13.flatMap eN3) ++ [])))) := ST.subR hS120 (sk 0 (sk 1 (sk 2 (sk 3 (suba (fun r_ (h : r_ ∈ ((D12.flatMap (rowM eN0)) : List Ro)) => mOd (i := 4) (show r_ ∈ ((((([] : List ((Hd × Hd) × TtableWord)).flatMap eN3) ++ ((D12.flatMap (rowM eN0)) ++ ((D13.flatMap eN3) ++ [])))) : List Ro) from mAr _ (mAl _ h))) (suba (fun r_ (h : r_ ∈ ((([] : List ((Hd × Hd) × TtableWord)).flatMap eN3) : List Ro)) => mOd (i := 4) (show r_ ∈ ((((([] : List ((Hd × Hd) × TtableWord)).flatMap eN3) ++ ((D12.flatMap (rowM eN0)) ++ ((D13.flatMap eN3) ++ [])))) : List Ro) from mAl _ h)) (suba (fun r_ (h : r_ ∈ ((D13.flatMap eN3) : List Ro)) => mOd (i := 4) (show r_ ∈ ((((([] : List ((Hd × Hd) × TtableWord)).flatMap eN3) ++ ((D12.flatMap (rowM eN0)) ++ ((D13.flatMap eN3) ++ [])))) : List Ro) from mAr _ (mAr _ (mAl _ h)))) (fun _ h => by cases h))))))))
    refine cw_block ?_
    refine cw_loop (fun k f w => ∃ (i4 : Nat) (words5 : List ((List UInt8) × (List TGate))) (next_3 : List TtableWord) (D14 : List ((List UInt8) × Hd × (List TGate))) (B22 : Option Addr) (c21 : Nat) (D15 : List ((Hd × Hd) × TtableWord)) (D16 : List ((Hd × Hd) × TtableWord)), FF f [(0, vi n), (4, pt (aD b15) 0), (9, pt (aD b19) 0), (11, .slice B22 next_3.length c21), (45, vi length), (46, vi (i3 : Int)), (49, .slice B21 level1.length c20), (50, vi (level1.length : Int)), (51, vi (i4 : Int))] ∧ D14.map dm = words5 ∧ D15.map Prod.snd = next_3 ∧ Org w0 [] [⟨(aD 1), (gl1.flatMap enc_u64)⟩] (D15.flatMap eN3) ∧ D16.map Prod.snd = level1 ∧ Org w0 [] [⟨(aD 1), (gl1.flatMap enc_u64)⟩] (D16.flatMap eN3) ∧ ST w0 [] w [⟨aD b15, 46, [.map none, .slice none 0 0], 2⟩, ⟨aD b19, 46, [.map (some g2), .slice B20 sizes1.length c19], 2⟩, ⟨(aD g2), .mp (mpE vStr vSl D14), [], 0⟩, ⟨B20, 3, (sizes1.flatMap encI), c19 * 1⟩, ⟨B22, 75, (D15.flatMap eN5), c21 * 4⟩, ⟨B21, 75, (D16.flatMap eN5), c20 * 4⟩] (⟨none, ([].flatMap eN0)⟩ :: ⟨B19, (r_16.Cells.flatMap eN1)⟩ :: ⟨aD b17, ([].flatMap eN0)⟩ :: ⟨(aD 1), (gl1.flatMap enc_u64)⟩ :: ((D14.flatMap (rowM eN0)) ++ ((D15.flatMap eN3) ++ ((D16.flatMap eN3) ++ [])))) ∧ i4 + k = level1.length ∧ forN (F_impl_TableSize_l2 level1 n) k i4 (words5, next_3) = some z5) level1.length ⟨0, words4, ([] : List TtableWord), D12, aD b21, 0, ([] : List ((Hd × Hd) × TtableWord)), D13, (fc (hf6.g 0 0) (fc (hf6.g 4 1) (fc (hf6.g 9 2) (fc rfl (fc (hf6.g 45 4) (fc (hf6.g 46 5) (fc rfl (fc rfl (fc rfl fn_))))))))), hD15, rfl, forg_nil, hD16, ho17, (hS122.sel [0, 1, 2, 3, 5, 4] rfl rfl), Nat.zero_add _, hz5⟩ ?_
    rintro K61 f w ⟨i4, words5, next_3, D14, B22, c21, D15, D16, hf7, hD17, hD18, ho18, hD19, ho19, hS121, hik4, hL8⟩
    refine cq (cr ?_)
    refine sQ 52 (yL (i4 : Int) (level1.length : Int) rfl (hf7.g 51 8) (hf7.g 50 7)) (rn (cq ?_))
    refine cw_cond (b := (decide ((i4 : Int) < (level1.length : Int)))) rfl (fun hlt8 => ?_) (fun hlt8 => ?_)
    ·skip
     have hlt9 : i4 < level1.length := by have h := of_decide_eq_true hlt8; omega
     obtain ⟨k_9, rfl⟩ : ∃ k2, K61 = k2 + 1 := ⟨K61 - 1, by omega⟩
     obtain ⟨y4, hb6, hL9⟩ := forN_go hL8
     unfold F_impl_TableSize_l2 at hb6
     refine cw_skip (cq (cw_block (cq (cr ?_))))
     obtain ⟨x2, hx2, hb6⟩ := bI hb6
     obtain ⟨⟨⟨B23, c22⟩, ⟨B24, c23⟩⟩, hp2⟩ := getI_snd hD19 hx2
     refine sQ 53 (Y_index (B := B21) (m := level1.length) (c := c20) (k := .i64) (i := (i4 : Int)) K57 K34 rfl (hf7.g 49 6) (hf7.g 51 8) (gi_isSome encD_tableWord_len rfl (hS121.c 5) hp2) (getI_nn hp2) (getI_ltI hp2 (dl_len hD19))) ?_
     have hm9 : (⟨B23, (x2.gates.flatMap eN0)⟩ : Ro) ∈ ((⟨none, ([].flatMap eN0)⟩ :: ⟨B19, (r_16.Cells.flatMap eN1)⟩ :: ⟨aD b17, ([].flatMap eN0)⟩ :: ⟨(aD 1), (gl1.flatMap enc_u64)⟩ :: ((D14.flatMap (rowM eN0)) ++ ((D15.flatMap eN3) ++ ((D16.flatMap eN3) ++ [])))) : List Ro) := app_mem (fun r_ (h : r_ ∈ ((D16.flatMap eN3) : List Ro)) => mOd (i := 4) (show r_ ∈ ((((D14.flatMap (rowM eN0)) ++ ((D15.flatMap eN3) ++ ((D16.flatMap eN3) ++ [])))) : List Ro) from mAr _ (mAr _ (mAl _ h)))) (row_mem (rw_ := eN3) hp2 _ (mt 0))
     have hS123 : ST w0 [] _ [⟨aD b15, 46, [.map none, .slice none 0 0], 2⟩, ⟨aD b19, 46, [.map (some g2), .slice B20 sizes1.length c19], 2⟩, ⟨(aD g2), .mp (mpE vStr vSl D14), [], 0⟩, ⟨B20, 3, (sizes1.flatMap encI), c19 * 1⟩, ⟨B22, 75, (D15.flatMap eN5), c21 * 4⟩, ⟨B21, 75, (D16.flatMap eN5), c20 * 4⟩] (⟨B23, (x2.gates.flatMap eN0)⟩ :: ⟨none, ([].flatMap eN0)⟩ :: ⟨B19, (r_16.Cells.flatMap eN1)⟩ :: ⟨aD b17, ([].flatMap eN0)⟩ :: ⟨(aD 1), (gl1.flatMap enc_u64)⟩ :: ((D14.flatMap (rowM eN0)) ++ ((D15.flatMap eN3) ++ ((D16.flatMap eN3) ++ [])))) := ST.subR hS121 (subc hm9 (fun _ h => h))
     have hm10 : (⟨B24, (x2.m.Cells.flatMap eN1)⟩ : Ro) ∈ ((⟨B23, (x2.gates.flatMap eN0)⟩ :: ⟨none, ([].flatMap eN0)⟩ :: ⟨B19, (r_16.Cells.flatMap eN1)⟩ :: ⟨aD b17, ([].flatMap eN0)⟩ :: ⟨(aD 1), (gl1.flatMap enc_u64)⟩ :: ((D14.flatMap (rowM eN0)) ++ ((D15.flatMap eN3) ++ ((D16.flatMap eN3) ++ [])))) : List Ro) := app_mem (fun r_ (h : r_ ∈ ((D16.flatMap eN3) : List Ro)) => mOd (i := 5) (show r_ ∈ ((((D14.flatMap (rowM eN0)) ++ ((D15.flatMap eN3) ++ ((D16.flatMap eN3) ++ [])))) : List Ro) from mAr _ (mAr _ (mAl _ h)))) (row_mem (rw_ := eN3) hp2 _ (mt 1))
     have hS124 : ST w0 [] _ [⟨aD b15, 46, [.map none, .slice none 0 0], 2⟩, ⟨aD b19, 46, [.map (some g2), .slice B20 sizes1.length c19], 2⟩, ⟨(aD g2), .mp (mpE vStr vSl D14), [], 0⟩, ⟨B20, 3, (sizes1.flatMap encI), c19 * 1⟩, ⟨B22, 75, (D15.flatMap eN5), c21 * 4⟩, ⟨B21, 75, (D16.flatMap eN5), c20 * 4⟩] (⟨B24, (x2.m.Cells.flatMap eN1)⟩ :: ⟨B23, (x2.gates.flatMap eN0)⟩ :: ⟨none, ([].flatMap eN0)⟩ :: ⟨B19, (r_16.Cells.flatMap eN1)⟩ :: ⟨aD b17, ([].flatMap eN0)⟩ :: ⟨(aD 1), (gl1.flatMap enc_u64)⟩ :: ((D14.flatMap (rowM eN0)) ++ ((D15.flatMap eN3) ++ ((D16.flatMap eN3) ++ [])))) := ST.subR hS123 (subc hm10 (fun _ h => h))
     refine sQ 54 (ya B21 ((i4 : Int).toNat * 4) (D16.flatMap eN5) [.slice B23 x2.gates.length c22, vi x2.m.Rows, vi x2.m.Cols, .slice B24 x2.m.Cells.length c23] k_ag_75 K34 (hS124.c 5) rfl rfl (encD_tableWord_len (((B23, c22), (B24, c23)), x2)) (gi_seg encD_tableWord_len hp2)) ?_
     refine sS 13 (yN [.slice none 0 0, vi 0, vi 0, .slice none 0 0] 4 hS124 K32) ?_
     rintro _ w_81 ⟨b22, rfl, hS125⟩
     refine s0 (yT 6 4 (aD b22) 75 (.agg #[.slice B23 x2.gates.length c22, vi x2.m.Rows, vi x2.m.Cols, .slice B24 x2.m.Cells.length c23]) [.slice B23 x2.gates.length c22, vi x2.m.Rows, vi x2.m.Cols, .slice B24 x2.m.Cells.length c23] 0 hS125 K34) ?_
     rintro _ w_82 ⟨rfl, hS126⟩
     refine rn (cq (cr ?_))
     refine sQ 55 (ym (vi n) rfl (hf7.g 0 0)) ?_
     obtain ⟨r_20, hc12, hb6⟩ := bI hb6
     refine sc 56 rfl rfl (yC [vi n] k_call_36 (c_impl_tableGates n _  (hS126.inn0 [] rfl) hc12)) ?_
     rintro _ w_83 ⟨B25, c24, rfl, hd15⟩
     have hS127 := hS126.out0 hd15
     have hS127 : ST w0 [] _ [⟨aD b15, 46, [.map none, .slice none 0 0], 2⟩, ⟨aD b19, 46, [.map (some g2), .slice B20 sizes1.length c19], 2⟩, ⟨(aD g2), .mp (mpE vStr vSl D14), [], 0⟩, ⟨B20, 3, (sizes1.flatMap encI), c19 * 1⟩, ⟨B22, 75, (D15.flatMap eN5), c21 * 4⟩, ⟨B21, 75, (D16.flatMap eN5), c20 * 4⟩, ⟨aD b22, 75, [.slice B23 x2.gates.length c22, vi x2.m.Rows, vi x2.m.Cols, .slice B24 x2.m.Cells.length c23], 4⟩, ⟨B25, 56, (r_20.flatMap eN0), c24 * 3⟩] (⟨B24, (x2.m.Cells.flatMap eN1)⟩ :: ⟨B23, (x2.gates.flatMap eN0)⟩ :: ⟨none, ([].flatMap eN0)⟩ :: ⟨B19, (r_16.Cells.flatMap eN1)⟩ :: ⟨aD b17, ([].flatMap eN0)⟩ :: ⟨(aD 1), (gl1.flatMap enc_u64)⟩ :: ((D14.flatMap (rowM eN0)) ++ ((D15.flatMap eN3) ++ ((D16.flatMap eN3) ++ [])))) := hS127
     refine sQ 57 (Y_len (B := B25) (m := r_20.length) (c := c24) K23 rfl rfl) <| sQ 58 (ym (vi 0)) (rn ?_)
     obtain ⟨hN5, hb6⟩ := chk_inv hb6
     obtain ⟨z6, hz6, hF11⟩ := bI hb6
     refine cw_block ?_
     refine cw_loop (fun k f w => ∃ (i5 : Nat) (words6 : List ((List UInt8) × (List TGate))) (next_4 : List TtableWord) (D17 : List ((List UInt8) × Hd × (List TGate))) (B26 : Option Addr) (c25 : Nat) (D18 : List ((Hd × Hd) × TtableWord)) (D19 : List ((Hd × Hd) × TtableWord)), FF f [(0, vi n), (4, pt (aD b15) 0), (9, pt (aD b19) 0), (11, .slice B26 next_4.length c25), (13, pt (aD b22) 0), (45, vi length), (46, vi (i3 : Int)), (49, .slice B21 level1.length c20), (50, vi (level1.length : Int)), (51, vi (i4 : Int)), (56, .slice B25 r_20.length c24), (57, vi (r_20.length : Int)), (58, vi (i5 : Int))] ∧ D17.map dm = words6 ∧ D18.map Prod.snd = next_4 ∧ Org w0 [] [⟨(aD 1), (gl1.flatMap enc_u64)⟩] (D18.flatMap eN3) ∧ D19.map Prod.snd = level1 ∧ Org w0 [] [⟨(aD 1), (gl1.flatMap enc_u64)⟩] (D19.flatMap eN3) ∧ ST w0 [] w [⟨aD b15, 46, [.map none, .slice none 0 0], 2⟩, ⟨aD b19, 46, [.map (some g2), .slice B20 sizes1.length c19], 2⟩, ⟨(aD g2), .mp (mpE vStr vSl D17), [], 0⟩, ⟨B20, 3, (sizes1.flatMap encI), c19 * 1⟩, ⟨B26, 75, (D18.flatMap eN5), c25 * 4⟩, ⟨aD b22, 75, [.slice B23 x2.gates.length c22, vi x2.m.Rows, vi x2.m.Cols, .slice B24 x2.m.Cells.length c23], 4⟩, ⟨B21, 75, (D19.flatMap eN5), c20 * 4⟩, ⟨B25, 56, (r_20.flatMap eN0), c24 * 3⟩] (⟨B24, (x2.m.Cells.flatMap eN1)⟩ :: ⟨B23, (x2.gates.flatMap eN0)⟩ :: ⟨none, ([].flatMap eN0)⟩ :: ⟨B19, (r_16.Cells.flatMap eN1)⟩ :: ⟨aD b17, ([].flatMap eN0)⟩ :: ⟨(aD 1), (gl1.flatMap enc_u64)⟩ :: ((D17.flatMap (rowM eN0)) ++ ((D18.flatMap eN3) ++ ((D19.flatMap eN3) ++ [])))) ∧ i5 + k = r_20.length ∧ forN (F_impl_TableSize_l3 r_20 n x2) k i5 (words6, next_4) = some z6) r_20.length ⟨0, words5, next_3, D14, B22, c21, D15, D16, (fc (hf7.g 0 0) (fc (hf7.g 4 1) (fc (hf7.g 9 2) (fc (hf7.g 11 3) (fc rfl (fc (hf7.g 45 4) (fc (hf7.g 46 5) (fc (hf7.g 49 6) (fc (hf7.g 50 7) (fc (hf7.g 51 8) (fc rfl (fc rfl (fc rfl fn_))))))))))))), hD17, hD18, ho18, hD19, ho19, (hS127.sel [0, 1, 2, 3, 4, 6, 5, 7] rfl rfl), Nat.zero_add _, hz6⟩ ?_
     rintro K84 f w ⟨i5, words6, next_4, D17, B26, c25, D18, D19, hf8, hD20, hD21, ho20, hD22, ho21, hS128, hik5, hL10⟩
     refine cq (cr ?_)
     refine sQ 59 (yL (i5 : Int) (r_20.length : Int) rfl (hf8.g 58 12) (hf8.g 57 11)) (rn (cq ?_))
     refine cw_cond (b := (decide ((i5 : Int) < (r_20.length : Int)))) rfl (fun hlt10 => ?_) (fun hlt10 => ?_)
     ·skip
      have hlt11 : i5 < r_20.length := by have h := of_decide_eq_true hlt10; omega
      obtain ⟨k_11, rfl⟩ : ∃ k2, K84 = k2 + 1 := ⟨K84 - 1, by omega⟩
      obtain ⟨y5, hb7, hL11⟩ := forN_go hL10
      unfold F_impl_TableSize_l3 at hb7
      refine cw_skip (cq ?_)
      obtain ⟨z7, hz7, hF12⟩ := bI hb7
      refine cw_mid (fun f w => ∃ (words7 : List ((List UInt8) × (List TGate))) (next_5 : List TtableWord) (D20 : List ((List UInt8) × Hd × (List TGate))) (B27 : Option Addr) (c26 : Nat) (D21 : List ((Hd × Hd) × TtableWord)) (D22 : List ((Hd × Hd) × TtableWord)), (words7, next_5) = z7 ∧ FF f [(0, vi n), (4, pt (aD b15) 0), (9, pt (aD b19) 0), (11, .slice B27 next_5.length c26), (13, pt (aD b22) 0), (45, vi length), (46, vi (i3 : Int)), (49, .slice B21 level1.length c20), (50, vi (level1.length : Int)), (51, vi (i4 : Int)), (56, .slice B25 r_20.length c24), (57, vi (r_20.length : Int)), (58, vi (i5 : Int))] ∧ D20.map dm = words7 ∧ D21.map Prod.snd = next_5 ∧ Org w0 [] [⟨(aD 1), (gl1.flatMap enc_u64)⟩] (D21.flatMap eN3) ∧ D22.map Prod.snd = level1 ∧ Org w0 [] [⟨(aD 1), (gl1.flatMap enc_u64)⟩] (D22.flatMap eN3) ∧ ST w0 [] w [⟨aD b15, 46, [.map none, .slice none 0 0], 2⟩, ⟨aD b19, 46, [.map (some g2), .slice B20 sizes1.length c19], 2⟩, ⟨(aD g2), .mp (mpE vStr vSl D20), [], 0⟩, ⟨B20, 3, (sizes1.flatMap encI), c19 * 1⟩, ⟨B27, 75, (D21.flatMap eN5), c26 * 4⟩, ⟨aD b22, 75, [.slice B23 x2.gates.length c22, vi x2.m.Rows, vi x2.m.Cols, .slice B24 x2.m.Cells.length c23], 4⟩, ⟨B21, 75, (D22.flatMap eN5), c20 * 4⟩, ⟨B25, 56, (r_20.flatMap eN0), c24 * 3⟩] (⟨B24, (x2.m.Cells.flatMap eN1)⟩ :: ⟨B23, (x2.gates.flatMap eN0)⟩ :: ⟨none, ([].flatMap eN0)⟩ :: ⟨B19, (r_16.Cells.flatMap eN1)⟩ :: ⟨aD b17, ([].flatMap eN0)⟩ :: ⟨(aD 1), (gl1.flatMap enc_u64)⟩ :: ((D20.flatMap (rowM eN0)) ++ ((D21.flatMap eN3) ++ ((D22.flatMap eN3) ++ []))))) ?_ ?_
      ·skip
       refine cw_block (cq (cr ?_))
       obtain ⟨x3, hx3, hz7⟩ := bI hz7
       refine sQ 60 (Y_index (B := B25) (m := r_20.length) (c := c24) (k := .i64) (i := (i5 : Int)) K23 K19 rfl (hf8.g 56 10) (hf8.g 58 12) (gi_isSome enc_Gate_len rfl (hS128.c 7) hx3) (getI_nn hx3) (getI_ltI hx3 rfl)) <| sQ 61 (ya B25 ((i5 : Int).toNat * 3) (r_20.flatMap eN0) [vi x3.Kind, vi x3.A, vi x3.B] K52 K19 (hS128.c 7) rfl rfl (enc_Gate_len x3) (gi_seg enc_Gate_len hx3)) ?_
       refine sS 15 (yN [vi 0, vi 0, vi 0] 3 hS128 K24) ?_
       rintro _ w_84 ⟨b23, rfl, hS130⟩
       refine s0 (yT 8 3 (aD b23) 56 (.agg #[vi x3.Kind, vi x3.A, vi x3.B]) [vi x3.Kind, vi x3.A, vi x3.B] 0 hS130 K19) ?_
       rintro _ w_85 ⟨rfl, hS131⟩
       refine rn (cq (cr ?_))
       refine sQ 63 (ym (vi n) rfl (hf8.g 0 0)) <| sQ 64 (yb (aD b23) 0 [vi x3.Kind, vi x3.A, vi x3.B] K52 K19 (hS131.c 8)) ?_
       obtain ⟨⟨r_21, r_22⟩, hc13, hz7⟩ := bI hz7
       refine sc 65 rfl rfl (yC [vi n, .agg #[vi x3.Kind, vi x3.A, vi x3.B]] k_call_37 (c_impl_GateMatrix n x3 _  (hS131.inn0 [] rfl) hc13)) ?_
       rintro _ w_86 ⟨B28, c27, rfl, hd16⟩
       have hS132 := hS131.out0 hd16
       refine sQ 62 (ym (.tuple #[gM_ r_21 B28 c27, .bool r_22])) <| sQ 66 (ye (gM_ r_21 B28 c27)) <| sQ 67 (ye (.bool r_22)) ?_
       refine sS 16 (yN kN_ 3 hS132 K11) ?_
       rintro _ w_87 ⟨b24, rfl, hS133⟩
       have hS133 : ST w0 [] _ [⟨aD b15, 46, [.map none, .slice none 0 0], 2⟩, ⟨aD b19, 46, [.map (some g2), .slice B20 sizes1.length c19], 2⟩, ⟨(aD g2), .mp (mpE vStr vSl D17), [], 0⟩, ⟨B20, 3, (sizes1.flatMap encI), c19 * 1⟩, ⟨B26, 75, (D18.flatMap eN5), c25 * 4⟩, ⟨aD b22, 75, [.slice B23 x2.gates.length c22, vi x2.m.Rows, vi x2.m.Cols, .slice B24 x2.m.Cells.length c23], 4⟩, ⟨B21, 75, (D19.flatMap eN5), c20 * 4⟩, ⟨B25, 56, (r_20.flatMap eN0), c24 * 3⟩, ⟨aD b23, 56, [vi x3.Kind, vi x3.A, vi x3.B], 3⟩, ⟨B28, 91, (r_21.Cells.flatMap eN1), c27 * 5⟩, ⟨aD b24, 50, kN_, 3⟩] (⟨B24, (x2.m.Cells.flatMap eN1)⟩ :: ⟨B23, (x2.gates.flatMap eN0)⟩ :: ⟨none, ([].flatMap eN0)⟩ :: ⟨B19, (r_16.Cells.flatMap eN1)⟩ :: ⟨aD b17, ([].flatMap eN0)⟩ :: ⟨(aD 1), (gl1.flatMap enc_u64)⟩ :: ((D17.flatMap (rowM eN0)) ++ ((D18.flatMap eN3) ++ ((D19.flatMap eN3) ++ [])))) := hS133
       refine s0 (yT 10 3 (aD b24) 50 (gM_ r_21 B28 c27) (kM_ r_21 B28 c27) 0 hS133 K4) ?_
       rintro _ w_88 ⟨rfl, hS134⟩
       refine sQ 17 (yg (.bool r_22)) (rn (cq (cr ?_)))
       refine sQ 69 (yb (aD b24) 0 (kM_ r_21 B28 c27) K9 K4 (hS134.c 10)) <| sQ 70 (yd (aD b22) 0 2 k_fd_75_1_1_50 K4 rfl (hf8.g 13 4)) <| sQ 71 (ya (aD b22) 1 [.slice B23 x2.gates.length c22, vi x2.m.Rows, vi x2.m.Cols, .slice B24 x2.m.Cells.length c23] (kM_ x2.m B24 c23) K9 K4 (hS134.c 5)) ?_
       obtain ⟨⟨r_23, r_24⟩, hc14, hz7⟩ := bI hz7
       refine sc 72 rfl rfl (yC [gM_ r_21 B28 c27, gM_ x2.m B24 c23] k_call_38 (c_impl_MulMatrix r_21 x2.m B28 c27 r_21.Cells.length B24 c23 x2.m.Cells.length _ rfl rfl (hS134.inn0 [(false, 9), (true, 0)] rfl) hc14)) ?_
       rintro _ w_89 ⟨B29, c28, rfl, hd17⟩
       have hS135 := hS134.out0 hd17
       refine sQ 68 (ym (.tuple #[gM_ r_23 B29 c28, .bool r_24])) <| sQ 73 (ye (gM_ r_23 B29 c28)) <| sQ 74 (ye (.bool r_24)) ?_
       refine sS 18 (yN kN_ 3 hS135 K11) ?_
       rintro _ w_90 ⟨b25, rfl, hS136⟩
       refine s0 (yT 12 3 (aD b25) 50 (gM_ r_23 B29 c28) (kM_ r_23 B29 c28) 0 hS136 K4) ?_
       rintro _ w_91 ⟨rfl, hS137⟩
       have hS137 : ST w0 [] _ [⟨aD b15, 46, [.map none, .slice none 0 0], 2⟩, ⟨aD b19, 46, [.map (some g2), .slice B20 sizes1.length c19], 2⟩, ⟨(aD g2), .mp (mpE vStr vSl D17), [], 0⟩, ⟨B20, 3, (sizes1.flatMap encI), c19 * 1⟩, ⟨B26, 75, (D18.flatMap eN5), c25 * 4⟩, ⟨aD b22, 75, [.slice B23 x2.gates.length c22, vi x2.m.Rows, vi x2.m.Cols, .slice B24 x2.m.Cells.length c23], 4⟩, ⟨B21, 75, (D19.flatMap eN5), c20 * 4⟩, ⟨B25, 56, (r_20.flatMap eN0), c24 * 3⟩, ⟨aD b23, 56, [vi x3.Kind, vi x3.A, vi x3.B], 3⟩, ⟨B28, 91, (r_21.Cells.flatMap eN1), c27 * 5⟩, ⟨aD b24, 50, kM_ r_21 B28 c27, 3⟩, ⟨B29, 91, (r_23.Cells.flatMap eN1), c28 * 5⟩, ⟨aD b25, 50, kM_ r_23 B29 c28, 3⟩] (⟨B24, (x2.m.Cells.flatMap eN1)⟩ :: ⟨B23, (x2.gates.flatMap eN0)⟩ :: ⟨none, ([].flatMap eN0)⟩ :: ⟨B19, (r_16.Cells.flatMap eN1)⟩ :: ⟨aD b17, ([].flatMap eN0)⟩ :: ⟨(aD 1), (gl1.flatMap enc_u64)⟩ :: ((D17.flatMap (rowM eN0)) ++ ((D18.flatMap eN3) ++ ((D19.flatMap eN3) ++ [])))) := hS137
       refine sQ 19 (yg (.bool r_24)) (rn (cq (cr ?_)))
       refine sQ 76 (yb (aD b25) 0 (kM_ r_23 B29 c28) K9 K4 (hS137.c 12)) ?_
       obtain ⟨⟨r_25, r_26⟩, hc15, hz7⟩ := bI hz7
       refine sc 77 rfl rfl (yC [gM_ r_23 B29 c28] k_call_35 (c_impl_OperatorKey r_23 B29 c28 r_23.Cells.length _ rfl (tab_keep hS137 ht1 (by kernel_rfl) hgm1) (hS137.inn0 [(false, 11), (true, 5)] rfl) hc15)) ?_
       rintro _ w_92 ⟨rfl, hd18⟩
       have hS138 := hS137.out00 hd18
       refine sQ 75 (ym (.tuple #[.string (bstr r_25), .bool r_26])) <| sQ 78 (ye (.string (bstr r_25))) <| sQ 79 (ye (.bool r_26)) <| sQ 20 (yg (.string (bstr r_25))) <| sQ 21 (yg (.bool r_26)) (rn (cq (cq (cr ?_))))
       refine sQ 81 (yd (aD b19) 0 0 k_fd_46_0_0_43 k_sz_43_1 rfl (hf8.g 9 2)) <| sQ 82 (yl (aD b19) 0 [.map (some g2), .slice B20 sizes1.length c19] (.map (some g2)) k_sc_43 (hS138.c 1)) <| sQ 83 (ym (.string (bstr r_25))) ?_
       obtain ⟨⟨B30, c29⟩, hp3⟩ := mgt_dm hD20 r_25
       have hS139 : ST w0 [] _ [⟨aD b15, 46, [.map none, .slice none 0 0], 2⟩, ⟨aD b19, 46, [.map (some g2), .slice B20 sizes1.length c19], 2⟩, ⟨(aD g2), .mp (mpE vStr vSl D17), [], 0⟩, ⟨B20, 3, (sizes1.flatMap encI), c19 * 1⟩, ⟨B26, 75, (D18.flatMap eN5), c25 * 4⟩, ⟨aD b22, 75, [.slice B23 x2.gates.length c22, vi x2.m.Rows, vi x2.m.Cols, .slice B24 x2.m.Cells.length c23], 4⟩, ⟨B21, 75, (D19.flatMap eN5), c20 * 4⟩, ⟨B25, 56, (r_20.flatMap eN0), c24 * 3⟩, ⟨aD b23, 56, [vi x3.Kind, vi x3.A, vi x3.B], 3⟩, ⟨B28, 91, (r_21.Cells.flatMap eN1), c27 * 5⟩, ⟨aD b24, 50, kM_ r_21 B28 c27, 3⟩, ⟨B29, 91, (r_23.Cells.flatMap eN1), c28 * 5⟩, ⟨aD b25, 50, kM_ r_23 B29 c28, 3⟩] (⟨none, ([].flatMap eN0)⟩ :: ⟨B24, (x2.m.Cells.flatMap eN1)⟩ :: ⟨B23, (x2.gates.flatMap eN0)⟩ :: ⟨none, ([].flatMap eN0)⟩ :: ⟨B19, (r_16.Cells.flatMap eN1)⟩ :: ⟨aD b17, ([].flatMap eN0)⟩ :: ⟨(aD 1), (gl1.flatMap enc_u64)⟩ :: ((D17.flatMap (rowM eN0)) ++ ((D18.flatMap eN3) ++ ((D19.flatMap eN3) ++ [])))) := ST.nilRo hS138
       have hm11 : (⟨B30, ((mgt words6 r_25 []).flatMap eN0)⟩ : Ro) ∈ ((⟨none, ([].flatMap eN0)⟩ :: ⟨B24, (x2.m.Cells.flatMap eN1)⟩ :: ⟨B23, (x2.gates.flatMap eN0)⟩ :: ⟨none, ([].flatMap eN0)⟩ :: ⟨B19, (r_16.Cells.flatMap eN1)⟩ :: ⟨aD b17, ([].flatMap eN0)⟩ :: ⟨(aD 1), (gl1.flatMap enc_u64)⟩ :: ((D17.flatMap (rowM eN0)) ++ ((D18.flatMap eN3) ++ ((D19.flatMap eN3) ++ [])))) : List Ro) := mgt_mem (R := (⟨none, ([].flatMap eN0)⟩ :: ⟨B24, (x2.m.Cells.flatMap eN1)⟩ :: ⟨B23, (x2.gates.flatMap eN0)⟩ :: ⟨none, ([].flatMap eN0)⟩ :: ⟨B19, (r_16.Cells.flatMap eN1)⟩ :: ⟨aD b17, ([].flatMap eN0)⟩ :: ⟨(aD 1), (gl1.flatMap enc_u64)⟩ :: ((D17.flatMap (rowM eN0)) ++ ((D18.flatMap eN3) ++ ((D19.flatMap eN3) ++ []))))) (fun r_ (h : r_ ∈ ((D17.flatMap (rowM eN0)) : List Ro)) => mOd (i := 7) (show r_ ∈ ((((D17.flatMap (rowM eN0)) ++ ((D18.flatMap eN3) ++ ((D19.flatMap eN3) ++ [])))) : List Ro) from mAl _ h)) (mt 0) hp3
       have hS140 : ST w0 [] _ [⟨aD b15, 46, [.map none, .slice none 0 0], 2⟩, ⟨aD b19, 46, [.map (some g2), .slice B20 sizes1.length c19], 2⟩, ⟨(aD g2), .mp (mpE vStr vSl D17), [], 0⟩, ⟨B20, 3, (sizes1.flatMap encI), c19 * 1⟩, ⟨B26, 75, (D18.flatMap eN5), c25 * 4⟩, ⟨aD b22, 75, [.slice B23 x2.gates.length c22, vi x2.m.Rows, vi x2.m.Cols, .slice B24 x2.m.Cells.length c23], 4⟩, ⟨B21, 75, (D19.flatMap eN5), c20 * 4⟩, ⟨B25, 56, (r_20.flatMap eN0), c24 * 3⟩, ⟨aD b23, 56, [vi x3.Kind, vi x3.A, vi x3.B], 3⟩, ⟨B28, 91, (r_21.Cells.flatMap eN1), c27 * 5⟩, ⟨aD b24, 50, kM_ r_21 B28 c27, 3⟩, ⟨B29, 91, (r_23.Cells.flatMap eN1), c28 * 5⟩, ⟨aD b25, 50, kM_ r_23 B29 c28, 3⟩] (⟨B30, ((mgt words6 r_25 []).flatMap eN0)⟩ :: ⟨none, ([].flatMap eN0)⟩ :: ⟨B24, (x2.m.Cells.flatMap eN1)⟩ :: ⟨B23, (x2.gates.flatMap eN0)⟩ :: ⟨none, ([].flatMap eN0)⟩ :: ⟨B19, (r_16.Cells.flatMap eN1)⟩ :: ⟨aD b17, ([].flatMap eN0)⟩ :: ⟨(aD 1), (gl1.flatMap enc_u64)⟩ :: ((D17.flatMap (rowM eN0)) ++ ((D18.flatMap eN3) ++ ((D19.flatMap eN3) ++ [])))) := ST.subR hS139 (subc hm11 (fun _ h => h))
       refine sQ 84 (Y_as (tupD hp3 (mhas_dm hD20 _)) (Y_mapOk (kE := vStr) (vE := vSl) (l := D17) (a := r_25) (d := ((none, 0), [])) (g := g2) (i := 2) hS140 (keyStr K98) K99 k_zero_28 rfl rfl rfl rfl)) <| sQ 80 (ym (.tuple #[.slice B30 ((mgt words6 r_25 []).length) c29, .bool (mhas words6 r_25)])) <| sQ 85 (ye (.slice B30 ((mgt words6 r_25 []).length) c29)) <| sQ 86 (ye (.bool (mhas words6 r_25))) <| sQ 22 (yg (.slice B30 ((mgt words6 r_25 []).length) c29)) <| sQ 23 (yg (.bool (mhas words6 r_25))) (rn (cq (cr ?_)))
       refine sQ 87 (ym (.bool r_24)) <| sQ 88 (Y_not (p := r_24) rfl rfl) <| sQ 89 (ym (.bool (!r_24))) ?_
       refine sgq 90 (B := (!(!r_24))) (v := .bool r_26) rfl rfl (uF_ 89) (fun hg12 => (ym (.bool r_26))) ?_
       refine sgq 91 (B := (!(!r_24))) (v := .bool (!r_26)) rfl rfl (uF_ 89) (fun hg13 => (Y_not (p := r_26) rfl (gv_of (v := .bool r_26) hg13))) ?_
       refine sQ 92 (Y_or (b := (!r_24)) (z := (!r_26)) rfl rfl rfl rfl) <| sQ 93 (ym (.bool ((!r_24) || (!r_26)))) ?_
       refine sgq 94 (B := (!((!r_24) || (!r_26)))) (v := .bool (mhas words6 r_25)) rfl rfl (uF_ 93) (fun hg14 => (ym (.bool (mhas words6 r_25)))) ?_
       refine sQ 95 (Y_or (b := ((!r_24) || (!r_26))) (z := (mhas words6 r_25)) rfl rfl rfl rfl) (rn ?_)
       refine cw_cond (b := (((!r_24) || (!r_26)) || (mhas words6 r_25))) rfl (fun hb8 => ?_) (fun hb8 => ?_)
       ·skip
        have hF13 := ct hz7 hb8
        refine cw_exit rfl ?_
        have hS141 : ST w0 [] _ [⟨aD b15, 46, [.map none, .slice none 0 0], 2⟩, ⟨aD b19, 46, [.map (some g2), .slice B20 sizes1.length c19], 2⟩, ⟨(aD g2), .mp (mpE vStr vSl D17), [], 0⟩, ⟨B20, 3, (sizes1.flatMap encI), c19 * 1⟩, ⟨B26, 75, (D18.flatMap eN5), c25 * 4⟩, ⟨aD b22, 75, [.slice B23 x2.gates.length c22, vi x2.m.Rows, vi x2.m.Cols, .slice B24 x2.m.Cells.length c23], 4⟩, ⟨B21, 75, (D19.flatMap eN5), c20 * 4⟩, ⟨B25, 56, (r_20.flatMap eN0), c24 * 3⟩, ⟨aD b23, 56, [vi x3.Kind, vi x3.A, vi x3.B], 3⟩, ⟨B28, 91, (r_21.Cells.flatMap eN1), c27 * 5⟩, ⟨aD b24, 50, kM_ r_21 B28 c27, 3⟩, ⟨B29, 91, (r_23.Cells.flatMap eN1), c28 * 5⟩, ⟨aD b25, 50, kM_ r_23 B29 c28, 3⟩] (⟨B24, (x2.m.Cells.flatMap eN1)⟩ :: ⟨B23, (x2.gates.flatMap eN0)⟩ :: ⟨none, ([].flatMap eN0)⟩ :: ⟨B19, (r_16.Cells.flatMap eN1)⟩ :: ⟨aD b17, ([].flatMap eN0)⟩ :: ⟨(aD 1), (gl1.flatMap enc_u64)⟩ :: ((D17.flatMap (rowM eN0)) ++ ((D18.flatMap eN3) ++ ((D19.flatMap eN3) ++ [])))) := ST.subR hS140 (sk 2 (sk 3 (sk 4 (sk 5 (sk 6 (sk 7 (suba (fun r_ (h : r_ ∈ ((D17.flatMap (rowM eN0)) : List Ro)) => mOd (i := 8) (show r_ ∈ ((((D17.flatMap (rowM eN0)) ++ ((D18.flatMap eN3) ++ ((D19.flatMap eN3) ++ [])))) : List Ro) from mAl _ h)) (suba (fun r_ (h : r_ ∈ ((D18.flatMap eN3) : List Ro)) => mOd (i := 8) (show r_ ∈ ((((D17.flatMap (rowM eN0)) ++ ((D18.flatMap eN3) ++ ((D19.flatMap eN3) ++ [])))) : List Ro) from mAr _ (mAl _ h))) (suba (fun r_ (h : r_ ∈ ((D19.flatMap eN3) : List Ro)) => mOd (i := 8) (show r_ ∈ ((((D17.flatMap (rowM eN0)) ++ ((D18.flatMap eN3) ++ ((D19.flatMap eN3) ++ [])))) : List Ro) from mAr _ (mAr _ (mAl _ h)))) (fun _ h => by cases h))))))))))
        exact ⟨words6, next_4, D17, B26, c25, D18, D19, (sI hF13), (fc (hf8.g 0 0) (fc (hf8.g 4 1) (fc (hf8.g 9 2) (fc (hf8.g 11 3) (fc (hf8.g 13 4) (fc (hf8.g 45 5) (fc (hf8.g 46 6) (fc (hf8.g 49 7) (fc (hf8.g 50 8) (fc (hf8.g 51 9) (fc (hf8.g 56 10) (fc (hf8.g 57 11) (fc (hf8.g 58 12) fn_))))))))))))), hD20, hD21, ho20, hD22, ho21, (hS141.sel [0, 1, 2, 3, 4, 5, 6, 7] rfl rfl)⟩
       ·skip
        have hF14 := cf' hz7 hb8
        refine cw_skip (cq ?_)
        obtain ⟨r_27, hc16, hF14⟩ := bI hF14
        obtain ⟨hap3, hF14⟩ := chk_inv hF14
        refine cw_mid (fun f w => ∃ (B33 : Option Addr) (B34 : Option Addr) (c32 : Nat), FF f [(0, vi n), (4, pt (aD b15) 0), (9, pt (aD b19) 0), (11, .slice B26 next_4.length c25), (13, pt (aD b22) 0), (20, .string (bstr r_25)), (24, pt B33 0), (45, vi length), (46, vi (i3 : Int)), (49, .slice B21 level1.length c20), (50, vi (level1.length : Int)), (51, vi (i4 : Int)), (56, .slice B25 r_20.length c24), (57, vi (r_20.length : Int)), (58, vi (i5 : Int))] ∧ ST w0 [] w [⟨aD b15, 46, [.map none, .slice none 0 0], 2⟩, ⟨aD b19, 46, [.map (some g2), .slice B20 sizes1.length c19], 2⟩, ⟨(aD g2), .mp (mpE vStr vSl D17), [], 0⟩, ⟨B20, 3, (sizes1.flatMap encI), c19 * 1⟩, ⟨B26, 75, (D18.flatMap eN5), c25 * 4⟩, ⟨aD b22, 75, [.slice B23 x2.gates.length c22, vi x2.m.Rows, vi x2.m.Cols, .slice B24 x2.m.Cells.length c23], 4⟩, ⟨B33, 75, [.slice B34 ((r_27 ++ [x3]).length) c32, vi r_23.Rows, vi r_23.Cols, .slice B29 r_23.Cells.length c28], 4⟩, ⟨B34, 56, ((r_27 ++ [x3]).flatMap eN0), c32 * 3⟩, ⟨B29, 91, (r_23.Cells.flatMap eN1), c28 * 5⟩, ⟨B21, 75, (D19.flatMap eN5), c20 * 4⟩, ⟨B25, 56, (r_20.flatMap eN0), c24 * 3⟩] (⟨B30, ((mgt words6 r_25 []).flatMap eN0)⟩ :: ⟨none, ([].flatMap eN0)⟩ :: ⟨B24, (x2.m.Cells.flatMap eN1)⟩ :: ⟨B23, (x2.gates.flatMap eN0)⟩ :: ⟨none, ([].flatMap eN0)⟩ :: ⟨B19, (r_16.Cells.flatMap eN1)⟩ :: ⟨aD b17, ([].flatMap eN0)⟩ :: ⟨(aD 1), (gl1.flatMap enc_u64)⟩ :: ((D17.flatMap (rowM eN0)) ++ ((D18.flatMap eN3) ++ ((D19.flatMap eN3) ++ []))))) ?_ ?_
        ·skip
         refine ra_start (hS140.se [0, 1, 2, 3, 4, 5, 6, 7, 8, 9, 10, 11, 12]).fn (by kernel_rfl) ?_
         have hS144 := hS140.drew
         refine rq 0 96 (v := pt (aD b22) 0) rfl (hS144.se [0, 1, 2, 3, 4, 5, 6, 7, 8, 9, 10, 11, 12]) (fun w' hw' => (yd (aD b22) 0 0 k_fd_75_0_0_28 k_sz_28_1 rfl (hf8.g 13 4))) ?_
         refine rq 1 97 (v := .slice B23 x2.gates.length c22) rfl (hS144.se [0, 1, 2, 3, 4, 5, 6, 7, 8, 9, 10, 11, 12]) (fun w' hw' => (yl (aD b22) 0 [.slice B23 x2.gates.length c22, vi x2.m.Rows, vi x2.m.Cols, .slice B24 x2.m.Cells.length c23] (.slice B23 x2.gates.length c22) k_sc_28 (ST.cf hw' (i := 5) rfl))) ?_
         refine rq 3 99 (v := .agg #[vi x3.Kind, vi x3.A, vi x3.B]) rfl (hS144.se [0, 1, 2, 3, 4, 5, 6, 7, 8, 9, 10, 11, 12]) (fun w' hw' => (yb (aD b23) 0 [vi x3.Kind, vi x3.A, vi x3.B] K52 K19 (ST.cf hw' (i := 8) rfl))) ?_
         refine rq 6 102 (v := gM_ r_23 B29 c28) rfl (hS144.se [0, 1, 2, 3, 4, 5, 6, 7, 8, 9, 10, 11, 12]) (fun w' hw' => (yb (aD b25) 0 (kM_ r_23 B29 c28) K9 K4 (ST.cf hw' (i := 12) rfl))) ?_
         refine rA [2, 4, 8] ?_
         refine rC 98 2 rfl (yC [.slice B23 x2.gates.length c22] K74 (c_slices_Clone_impl_Gate_impl_Gate x2.gates B23 c22 x2.gates.length _ rfl (hS144.inn0 [(true, 3)] rfl) hc16)) ?_ ?_
         ·rintro _ w_93 ⟨B31, c30, rfl, hd19⟩
          have hS145 := hS144.out0 hd19
          refine ⟨(hS145.se [0, 1, 2, 3, 4, 5, 6, 7, 8, 9, 10, 11, 12]), ?_⟩
          refine rA [4, 8] ?_
          refine rS 100 4 rfl (Ys_bslice (s := 3) (len := 1) (vs := [(0, .agg #[vi x3.Kind, vi x3.A, vi x3.B])]) (cs := [vi x3.Kind, vi x3.A, vi x3.B]) (zs := [vi 0, vi 0, vi 0]) (m := 3) hS145 K23 K19 K47 rfl (mpc rfl mpn) rfl rfl rfl (by kernel_rfl) (by kernel_rfl) rfl) ?_ ?_
          ·rintro _ w_94 ⟨b26, rfl, hS146⟩
           refine ⟨(hS146.se [0, 1, 2, 3, 4, 5, 6, 7, 8, 9, 10, 11, 12]), ?_⟩
           refine rA [5, 8] ?_
           refine rS 101 5 rfl (Ys_append (s := 3) (by' := 24) (i := 13) (nn := r_27.length) (c := c30) (k := 1) (len := (r_27 ++ [x3]).length) (B := B31) (xs := ([x3].flatMap eN0)) (cs' := ((r_27 ++ [x3]).flatMap eN0)) hS146 K23 K19 K43 K24 rfl (by decide) rfl rfl rfl rfl (fm_lenn (l := r_27) enc_Gate_len rfl) rfl (hS146.c 14) (fm_lenn (l := [x3]) enc_Gate_len rfl) (fm_one' (enc := eN0) enc_Gate_one [x3]) (by have := hap3; omega) (by have := hap3; simp only [maxLen]; omega) (fm_app _ _) (app_len (l := r_27) (l' := [x3]) rfl rfl)) ?_ ?_
           ·rintro _ w_95 ⟨B32, c31, rfl, hS147⟩
            have hS147 : ST w0 [] _ [⟨aD b15, 46, [.map none, .slice none 0 0], 2⟩, ⟨aD b19, 46, [.map (some g2), .slice B20 sizes1.length c19], 2⟩, ⟨(aD g2), .mp (mpE vStr vSl D17), [], 0⟩, ⟨B20, 3, (sizes1.flatMap encI), c19 * 1⟩, ⟨B26, 75, (D18.flatMap eN5), c25 * 4⟩, ⟨aD b22, 75, [.slice B23 x2.gates.length c22, vi x2.m.Rows, vi x2.m.Cols, .slice B24 x2.m.Cells.length c23], 4⟩, ⟨B21, 75, (D19.flatMap eN5), c20 * 4⟩, ⟨B25, 56, (r_20.flatMap eN0), c24 * 3⟩, ⟨aD b23, 56, [vi x3.Kind, vi x3.A, vi x3.B], 3⟩, ⟨B28, 91, (r_21.Cells.flatMap eN1), c27 * 5⟩, ⟨aD b24, 50, kM_ r_21 B28 c27, 3⟩, ⟨B29, 91, (r_23.Cells.flatMap eN1), c28 * 5⟩, ⟨aD b25, 50, kM_ r_23 B29 c28, 3⟩, ⟨B32, 56, ((r_27 ++ [x3]).flatMap eN0), c31 * 3⟩, ⟨aD b26, 56, ([x3].flatMap eN0), 1 * 3⟩] (⟨B30, ((mgt words6 r_25 []).flatMap eN0)⟩ :: ⟨none, ([].flatMap eN0)⟩ :: ⟨B24, (x2.m.Cells.flatMap eN1)⟩ :: ⟨B23, (x2.gates.flatMap eN0)⟩ :: ⟨none, ([].flatMap eN0)⟩ :: ⟨B19, (r_16.Cells.flatMap eN1)⟩ :: ⟨aD b17, ([].flatMap eN0)⟩ :: ⟨(aD 1), (gl1.flatMap enc_u64)⟩ :: ((D17.flatMap (rowM eN0)) ++ ((D18.flatMap eN3) ++ ((D19.flatMap eN3) ++ [])))) := hS147
            refine ⟨(hS147.se [0, 1, 2, 3, 4, 5, 6, 7, 8, 9, 10, 11, 12]), ?_⟩
            refine rq 7 103 (v := .agg #[.slice B32 ((r_27 ++ [x3]).length) c31, vi r_23.Rows, vi r_23.Cols, .slice B29 r_23.Cells.length c28]) rfl (hS147.se [0, 1, 2, 3, 4, 5, 6, 7, 8, 9, 10, 11, 12]) (fun w' hw' => (Y_buildS (zs := [.slice none 0 0, vi 0, vi 0, .slice none 0 0]) (vs := [(0, .slice B32 ((r_27 ++ [x3]).length) c31), (1, gM_ r_23 B29 c28)]) (cs := [.slice B32 ((r_27 ++ [x3]).length) c31, vi r_23.Rows, vi r_23.Cols, .slice B29 r_23.Cells.length c28]) K48 K32 rfl (mpc rfl (mpc rfl mpn)) rfl)) ?_
            refine rA [8] ?_
            refine rS 24 8 rfl (yN [.slice none 0 0, vi 0, vi 0, .slice none 0 0] 4 hS147 K32) ?_ ?_
            ·rintro _ w_96 ⟨b27, rfl, hS148⟩
             refine ⟨(hS148.se [0, 1, 2, 3, 4, 5, 6, 7, 8, 9, 10, 11, 12]), ?_⟩
             refine rA [9] ?_
             refine rZ 9 rfl (yT 15 4 (aD b27) 75 (.agg #[.slice B32 ((r_27 ++ [x3]).length) c31, vi r_23.Rows, vi r_23.Cols, .slice B29 r_23.Cells.length c28]) [.slice B32 ((r_27 ++ [x3]).length) c31, vi r_23.Rows, vi r_23.Cols, .slice B29 r_23.Cells.length c28] 0 hS148 K34) ?_ ?_
             ·rintro _ w_97 ⟨rfl, hS149⟩
              refine ⟨(hS149.se [0, 1, 2, 3, 4, 5, 6, 7, 8, 9, 10, 11, 12]), ?_⟩
              refine ra_done (by kernel_rfl) ?_
              exact ⟨aD b27, B32, c31, (fc (hf8.g 0 0) (fc (hf8.g 4 1) (fc (hf8.g 9 2) (fc (hf8.g 11 3) (fc (hf8.g 13 4) (fc rfl (fc rfl (fc (hf8.g 45 5) (fc (hf8.g 46 6) (fc (hf8.g 49 7) (fc (hf8.g 50 8) (fc (hf8.g 51 9) (fc (hf8.g 56 10) (fc (hf8.g 57 11) (fc (hf8.g 58 12) fn_))))))))))))))), (hS149.sel [0, 1, 2, 3, 4, 5, 15, 13, 11, 6, 7] rfl rfl)⟩
             exact aN
            exact aN
           refine rS 24 8 rfl (yN [.slice none 0 0, vi 0, vi 0, .slice none 0 0] 4 hS146 K32) ?_ ?_
           ·rintro _ w_98 ⟨b27, rfl, hS150⟩
            refine ⟨(hS150.se [0, 1, 2, 3, 4, 5, 6, 7, 8, 9, 10, 11, 12]), ?_⟩
            refine rA [5] ?_
            refine rS 101 5 rfl (Ys_append (s := 3) (by' := 24) (i := 13) (nn := r_27.length) (c := c30) (k := 1) (len := (r_27 ++ [x3]).length) (B := B31) (xs := ([x3].flatMap eN0)) (cs' := ((r_27 ++ [x3]).flatMap eN0)) hS150 K23 K19 K43 K24 rfl (by decide) rfl rfl rfl rfl (fm_lenn (l := r_27) enc_Gate_len rfl) rfl (hS150.c 14) (fm_lenn (l := [x3]) enc_Gate_len rfl) (fm_one' (enc := eN0) enc_Gate_one [x3]) (by have := hap3; omega) (by have := hap3; simp only [maxLen]; omega) (fm_app _ _) (app_len (l := r_27) (l' := [x3]) rfl rfl)) ?_ ?_
            ·rintro _ w_99 ⟨B32, c31, rfl, hS151⟩
             have hS151 : ST w0 [] _ [⟨aD b15, 46, [.map none, .slice none 0 0], 2⟩, ⟨aD b19, 46, [.map (some g2), .slice B20 sizes1.length c19], 2⟩, ⟨(aD g2), .mp (mpE vStr vSl D17), [], 0⟩, ⟨B20, 3, (sizes1.flatMap encI), c19 * 1⟩, ⟨B26, 75, (D18.flatMap eN5), c25 * 4⟩, ⟨aD b22, 75, [.slice B23 x2.gates.length c22, vi x2.m.Rows, vi x2.m.Cols, .slice B24 x2.m.Cells.length c23], 4⟩, ⟨B21, 75, (D19.flatMap eN5), c20 * 4⟩, ⟨B25, 56, (r_20.flatMap eN0), c24 * 3⟩, ⟨aD b23, 56, [vi x3.Kind, vi x3.A, vi x3.B], 3⟩, ⟨B28, 91, (r_21.Cells.flatMap eN1), c27 * 5⟩, ⟨aD b24, 50, kM_ r_21 B28 c27, 3⟩, ⟨B29, 91, (r_23.Cells.flatMap eN1), c28 * 5⟩, ⟨aD b25, 50, kM_ r_23 B29 c28, 3⟩, ⟨B32, 56, ((r_27 ++ [x3]).flatMap eN0), c31 * 3⟩, ⟨aD b26, 56, ([x3].flatMap eN0), 1 * 3⟩, ⟨aD b27, 75, [.slice none 0 0, vi 0, vi 0, .slice none 0 0], 4⟩] (⟨B30, ((mgt words6 r_25 []).flatMap eN0)⟩ :: ⟨none, ([].flatMap eN0)⟩ :: ⟨B24, (x2.m.Cells.flatMap eN1)⟩ :: ⟨B23, (x2.gates.flatMap eN0)⟩ :: ⟨none, ([].flatMap eN0)⟩ :: ⟨B19, (r_16.Cells.flatMap eN1)⟩ :: ⟨aD b17, ([].flatMap eN0)⟩ :: ⟨(aD 1), (gl1.flatMap enc_u64)⟩ :: ((D17.flatMap (rowM eN0)) ++ ((D18.flatMap eN3) ++ ((D19.flatMap eN3) ++ [])))) := hS151
             refine ⟨(hS151.se [0, 1, 2, 3, 4, 5, 6, 7, 8, 9, 10, 11, 12]), ?_⟩
             refine rq 7 103 (v := .agg #[.slice B32 ((r_27 ++ [x3]).length) c31, vi r_23.Rows, vi r_23.Cols, .slice B29 r_23.Cells.length c28]) rfl (hS151.se [0, 1, 2, 3, 4, 5, 6, 7, 8, 9, 10, 11, 12]) (fun w' hw' => (Y_buildS (zs := [.slice none 0 0, vi 0, vi 0, .slice none 0 0]) (vs := [(0, .slice B32 ((r_27 ++ [x3]).length) c31), (1, gM_ r_23 B29 c28)]) (cs := [.slice B32 ((r_27 ++ [x3]).length) c31, vi r_23.Rows, vi r_23.Cols, .slice B29 r_23.Cells.length c28]) K48 K32 rfl (mpc rfl (mpc rfl mpn)) rfl)) ?_
             refine rA [9] ?_
             refine rZ 9 rfl (yT 15 4 (aD b27) 75 (.agg #[.slice B32 ((r_27 ++ [x3]).length) c31, vi r_23.Rows, vi r_23.Cols, .slice B29 r_23.Cells.length c28]) [.slice B32 ((r_27 ++ [x3]).length) c31, vi r_23.Rows, vi r_23.Cols, .slice B29 r_23.Cells.length c28] 0 hS151 K34) ?_ ?_
             ·rintro _ w_100 ⟨rfl, hS152⟩
              refine ⟨(hS152.se [0, 1, 2, 3, 4, 5, 6, 7, 8, 9, 10, 11, 12]), ?_⟩
              refine ra_done (by kernel_rfl) ?_
              exact ⟨aD b27, B32, c31, (fc (hf8.g 0 0) (fc (hf8.g 4 1) (fc (hf8.g 9 2) (fc (hf8.g 11 3) (fc (hf8.g 13 4) (fc rfl (fc rfl (fc (hf8.g 45 5) (fc (hf8.g 46 6) (fc (hf8.g 49 7) (fc (hf8.g 50 8) (fc (hf8.g 51 9) (fc (hf8.g 56 10) (fc (hf8.g 57 11) (fc (hf8.g 58 12) fn_))))))))))))))), (hS152.sel [0, 1, 2, 3, 4, 5, 15, 13, 11, 6, 7] rfl rfl)⟩
             exact aN
            exact aN
           exact aN
          refine rS 24 8 rfl (yN [.slice none 0 0, vi 0, vi 0, .slice none 0 0] 4 hS145 K32) ?_ ?_
          ·rintro _ w_101 ⟨b27, rfl, hS153⟩
           refine ⟨(hS153.se [0, 1, 2, 3, 4, 5, 6, 7, 8, 9, 10, 11, 12]), ?_⟩
           refine rA [4] ?_
           refine rS 100 4 rfl (Ys_bslice (s := 3) (len := 1) (vs := [(0, .agg #[vi x3.Kind, vi x3.A, vi x3.B])]) (cs := [vi x3.Kind, vi x3.A, vi x3.B]) (zs := [vi 0, vi 0, vi 0]) (m := 3) hS153 K23 K19 K47 rfl (mpc rfl mpn) rfl rfl rfl (by kernel_rfl) (by kernel_rfl) rfl) ?_ ?_
           ·rintro _ w_102 ⟨b26, rfl, hS154⟩
            refine ⟨(hS154.se [0, 1, 2, 3, 4, 5, 6, 7, 8, 9, 10, 11, 12]), ?_⟩
            refine rA [5] ?_
            refine rS 101 5 rfl (Ys_append (s := 3) (by' := 24) (i := 13) (nn := r_27.length) (c := c30) (k := 1) (len := (r_27 ++ [x3]).length) (B := B31) (xs := ([x3].flatMap eN0)) (cs' := ((r_27 ++ [x3]).flatMap eN0)) hS154 K23 K19 K43 K24 rfl (by decide) rfl rfl rfl rfl (fm_lenn (l := r_27) enc_Gate_len rfl) rfl (hS154.c 15) (fm_lenn (l := [x3]) enc_Gate_len rfl) (fm_one' (enc := eN0) enc_Gate_one [x3]) (by have := hap3; omega) (by have := hap3; simp only [maxLen]; omega) (fm_app _ _) (app_len (l := r_27) (l' := [x3]) rfl rfl)) ?_ ?_
            ·rintro _ w_103 ⟨B32, c31, rfl, hS155⟩
             have hS155 : ST w0 [] _ [⟨aD b15, 46, [.map none, .slice none 0 0], 2⟩, ⟨aD b19, 46, [.map (some g2), .slice B20 sizes1.length c19], 2⟩, ⟨(aD g2), .mp (mpE vStr vSl D17), [], 0⟩, ⟨B20, 3, (sizes1.flatMap encI), c19 * 1⟩, ⟨B26, 75, (D18.flatMap eN5), c25 * 4⟩, ⟨aD b22, 75, [.slice B23 x2.gates.length c22, vi x2.m.Rows, vi x2.m.Cols, .slice B24 x2.m.Cells.length c23], 4⟩, ⟨B21, 75, (D19.flatMap eN5), c20 * 4⟩, ⟨B25, 56, (r_20.flatMap eN0), c24 * 3⟩, ⟨aD b23, 56, [vi x3.Kind, vi x3.A, vi x3.B], 3⟩, ⟨B28, 91, (r_21.Cells.flatMap eN1), c27 * 5⟩, ⟨aD b24, 50, kM_ r_21 B28 c27, 3⟩, ⟨B29, 91, (r_23.Cells.flatMap eN1), c28 * 5⟩, ⟨aD b25, 50, kM_ r_23 B29 c28, 3⟩, ⟨B32, 56, ((r_27 ++ [x3]).flatMap eN0), c31 * 3⟩, ⟨aD b27, 75, [.slice none 0 0, vi 0, vi 0, .slice none 0 0], 4⟩, ⟨aD b26, 56, ([x3].flatMap eN0), 1 * 3⟩] (⟨B30, ((mgt words6 r_25 []).flatMap eN0)⟩ :: ⟨none, ([].flatMap eN0)⟩ :: ⟨B24, (x2.m.Cells.flatMap eN1)⟩ :: ⟨B23, (x2.gates.flatMap eN0)⟩ :: ⟨none, ([].flatMap eN0)⟩ :: ⟨B19, (r_16.Cells.flatMap eN1)⟩ :: ⟨aD b17, ([].flatMap eN0)⟩ :: ⟨(aD 1), (gl1.flatMap enc_u64)⟩ :: ((D17.flatMap (rowM eN0)) ++ ((D18.flatMap eN3) ++ ((D19.flatMap eN3) ++ [])))) := hS155
             refine ⟨(hS155.se [0, 1, 2, 3, 4, 5, 6, 7, 8, 9, 10, 11, 12]), ?_⟩
             refine rq 7 103 (v := .agg #[.slice B32 ((r_27 ++ [x3]).length) c31, vi r_23.Rows, vi r_23.Cols, .slice B29 r_23.Cells.length c28]) rfl (hS155.se [0, 1, 2, 3, 4, 5, 6, 7, 8, 9, 10, 11, 12]) (fun w' hw' => (Y_buildS (zs := [.slice none 0 0, vi 0, vi 0, .slice none 0 0]) (vs := [(0, .slice B32 ((r_27 ++ [x3]).length) c31), (1, gM_ r_23 B29 c28)]) (cs := [.slice B32 ((r_27 ++ [x3]).length) c31, vi r_23.Rows, vi r_23.Cols, .slice B29 r_23.Cells.length c28]) K48 K32 rfl (mpc rfl (mpc rfl mpn)) rfl)) ?_
             refine rA [9] ?_
             refine rZ 9 rfl (yT 14 4 (aD b27) 75 (.agg #[.slice B32 ((r_27 ++ [x3]).length) c31, vi r_23.Rows, vi r_23.Cols, .slice B29 r_23.Cells.length c28]) [.slice B32 ((r_27 ++ [x3]).length) c31, vi r_23.Rows, vi r_23.Cols, .slice B29 r_23.Cells.length c28] 0 hS155 K34) ?_ ?_
             ·rintro _ w_104 ⟨rfl, hS156⟩
              refine ⟨(hS156.se [0, 1, 2, 3, 4, 5, 6, 7, 8, 9, 10, 11, 12]), ?_⟩
              refine ra_done (by kernel_rfl) ?_
              exact ⟨aD b27, B32, c31, (fc (hf8.g 0 0) (fc (hf8.g 4 1) (fc (hf8.g 9 2) (fc (hf8.g 11 3) (fc (hf8.g 13 4) (fc rfl (fc rfl (fc (hf8.g 45 5) (fc (hf8.g 46 6) (fc (hf8.g 49 7) (fc (hf8.g 50 8) (fc (hf8.g 51 9) (fc (hf8.g 56 10) (fc (hf8.g 57 11) (fc (hf8.g 58 12) fn_))))))))))))))), (hS156.sel [0, 1, 2, 3, 4, 5, 14, 13, 11, 6, 7] rfl rfl)⟩
             exact aN
            exact aN
           exact aN
          exact aN
         refine rS 100 4 rfl (Ys_bslice (s := 3) (len := 1) (vs := [(0, .agg #[vi x3.Kind, vi x3.A, vi x3.B])]) (cs := [vi x3.Kind, vi x3.A, vi x3.B]) (zs := [vi 0, vi 0, vi 0]) (m := 3) hS144 K23 K19 K47 rfl (mpc rfl mpn) rfl rfl rfl (by kernel_rfl) (by kernel_rfl) rfl) ?_ ?_
         ·rintro _ w_105 ⟨b26, rfl, hS157⟩
          refine ⟨(hS157.se [0, 1, 2, 3, 4, 5, 6, 7, 8, 9, 10, 11, 12]), ?_⟩
          refine rA [2, 8] ?_
          refine rC 98 2 rfl (yC [.slice B23 x2.gates.length c22] K74 (c_slices_Clone_impl_Gate_impl_Gate x2.gates B23 c22 x2.gates.length _ rfl (hS157.inn0 [(true, 3)] rfl) hc16)) ?_ ?_
          ·rintro _ w_106 ⟨B31, c30, rfl, hd20⟩
           have hS158 := hS157.out0 hd20
           refine ⟨(hS158.se [0, 1, 2, 3, 4, 5, 6, 7, 8, 9, 10, 11, 12]), ?_⟩
           refine rA [5, 8] ?_
           refine rS 101 5 rfl (Ys_append (s := 3) (by' := 24) (i := 14) (nn := r_27.length) (c := c30) (k := 1) (len := (r_27 ++ [x3]).length) (B := B31) (xs := ([x3].flatMap eN0)) (cs' := ((r_27 ++ [x3]).flatMap eN0)) hS158 K23 K19 K43 K24 rfl (by decide) rfl rfl rfl rfl (fm_lenn (l := r_27) enc_Gate_len rfl) rfl (hS158.c 13) (fm_lenn (l := [x3]) enc_Gate_len rfl) (fm_one' (enc := eN0) enc_Gate_one [x3]) (by have := hap3; omega) (by have := hap3; simp only [maxLen]; omega) (fm_app _ _) (app_len (l := r_27) (l' := [x3]) rfl rfl)) ?_ ?_
           ·rintro _ w_107 ⟨B32, c31, rfl, hS159⟩
            have hS159 : ST w0 [] _ [⟨aD b15, 46, [.map none, .slice none 0 0], 2⟩, ⟨aD b19, 46, [.map (some g2), .slice B20 sizes1.length c19], 2⟩, ⟨(aD g2), .mp (mpE vStr vSl D17), [], 0⟩, ⟨B20, 3, (sizes1.flatMap encI), c19 * 1⟩, ⟨B26, 75, (D18.flatMap eN5), c25 * 4⟩, ⟨aD b22, 75, [.slice B23 x2.gates.length c22, vi x2.m.Rows, vi x2.m.Cols, .slice B24 x2.m.Cells.length c23], 4⟩, ⟨B21, 75, (D19.flatMap eN5), c20 * 4⟩, ⟨B25, 56, (r_20.flatMap eN0), c24 * 3⟩, ⟨aD b23, 56, [vi x3.Kind, vi x3.A, vi x3.B], 3⟩, ⟨B28, 91, (r_21.Cells.flatMap eN1), c27 * 5⟩, ⟨aD b24, 50, kM_ r_21 B28 c27, 3⟩, ⟨B29, 91, (r_23.Cells.flatMap eN1), c28 * 5⟩, ⟨aD b25, 50, kM_ r_23 B29 c28, 3⟩, ⟨aD b26, 56, ([x3].flatMap eN0), 1 * 3⟩, ⟨B32, 56, ((r_27 ++ [x3]).flatMap eN0), c31 * 3⟩] (⟨B30, ((mgt words6 r_25 []).flatMap eN0)⟩ :: ⟨none, ([].flatMap eN0)⟩ :: ⟨B24, (x2.m.Cells.flatMap eN1)⟩ :: ⟨B23, (x2.gates.flatMap eN0)⟩ :: ⟨none, ([].flatMap eN0)⟩ :: ⟨B19, (r_16.Cells.flatMap eN1)⟩ :: ⟨aD b17, ([].flatMap eN0)⟩ :: ⟨(aD 1), (gl1.flatMap enc_u64)⟩ :: ((D17.flatMap (rowM eN0)) ++ ((D18.flatMap eN3) ++ ((D19.flatMap eN3) ++ [])))) := hS159
            refine ⟨(hS159.se [0, 1, 2, 3, 4, 5, 6, 7, 8, 9, 10, 11, 12]), ?_⟩
            refine rq 7 103 (v := .agg #[.slice B32 ((r_27 ++ [x3]).length) c31, vi r_23.Rows, vi r_23.Cols, .slice B29 r_23.Cells.length c28]) rfl (hS159.se [0, 1, 2, 3, 4, 5, 6, 7, 8, 9, 10, 11, 12]) (fun w' hw' => (Y_buildS (zs := [.slice none 0 0, vi 0, vi 0, .slice none 0 0]) (vs := [(0, .slice B32 ((r_27 ++ [x3]).length) c31), (1, gM_ r_23 B29 c28)]) (cs := [.slice B32 ((r_27 ++ [x3]).length) c31, vi r_23.Rows, vi r_23.Cols, .slice B29 r_23.Cells.length c28]) K48 K32 rfl (mpc rfl (mpc rfl mpn)) rfl)) ?_
            refine rA [8] ?_
            refine rS 24 8 rfl (yN [.slice none 0 0, vi 0, vi 0, .slice none 0 0] 4 hS159 K32) ?_ ?_
            ·rintro _ w_108 ⟨b27, rfl, hS160⟩
             refine ⟨(hS160.se [0, 1, 2, 3, 4, 5, 6, 7, 8, 9, 10, 11, 12]), ?_⟩
             refine rA [9] ?_
             refine rZ 9 rfl (yT 15 4 (aD b27) 75 (.agg #[.slice B32 ((r_27 ++ [x3]).length) c31, vi r_23.Rows, vi r_23.Cols, .slice B29 r_23.Cells.length c28]) [.slice B32 ((r_27 ++ [x3]).length) c31, vi r_23.Rows, vi r_23.Cols, .slice B29 r_23.Cells.length c28] 0 hS160 K34) ?_ ?_
             ·rintro _ w_109 ⟨rfl, hS161⟩
              refine ⟨(hS161.se [0, 1, 2, 3, 4, 5, 6, 7, 8, 9, 10, 11, 12]), ?_⟩
              refine ra_done (by kernel_rfl) ?_
              exact ⟨aD b27, B32, c31, (fc (hf8.g 0 0) (fc (hf8.g 4 1) (fc (hf8.g 9 2) (fc (hf8.g 11 3) (fc (hf8.g 13 4) (fc rfl (fc rfl (fc (hf8.g 45 5) (fc (hf8.g 46 6) (fc (hf8.g 49 7) (fc (hf8.g 50 8) (fc (hf8.g 51 9) (fc (hf8.g 56 10) (fc (hf8.g 57 11) (fc (hf8.g 58 12) fn_))))))))))))))), (hS161.sel [0, 1, 2, 3, 4, 5, 15, 14, 11, 6, 7] rfl rfl)⟩
             exact aN
            exact aN
           refine rS 24 8 rfl (yN [.slice none 0 0, vi 0, vi 0, .slice none 0 0] 4 hS158 K32) ?_ ?_
           ·rintro _ w_110 ⟨b27, rfl, hS162⟩
            refine ⟨(hS162.se [0, 1, 2, 3, 4, 5, 6, 7, 8, 9, 10, 11, 12]), ?_⟩
            refine rA [5] ?_
            refine rS 101 5 rfl (Ys_append (s := 3) (by' := 24) (i := 14) (nn := r_27.length) (c := c30) (k := 1) (len := (r_27 ++ [x3]).length) (B := B31) (xs := ([x3].flatMap eN0)) (cs' := ((r_27 ++ [x3]).flatMap eN0)) hS162 K23 K19 K43 K24 rfl (by decide) rfl rfl rfl rfl (fm_lenn (l := r_27) enc_Gate_len rfl) rfl (hS162.c 13) (fm_lenn (l := [x3]) enc_Gate_len rfl) (fm_one' (enc := eN0) enc_Gate_one [x3]) (by have := hap3; omega) (by have := hap3; simp only [maxLen]; omega) (fm_app _ _) (app_len (l := r_27) (l' := [x3]) rfl rfl)) ?_ ?_
            ·rintro _ w_111 ⟨B32, c31, rfl, hS163⟩
             have hS163 : ST w0 [] _ [⟨aD b15, 46, [.map none, .slice none 0 0], 2⟩, ⟨aD b19, 46, [.map (some g2), .slice B20 sizes1.length c19], 2⟩, ⟨(aD g2), .mp (mpE vStr vSl D17), [], 0⟩, ⟨B20, 3, (sizes1.flatMap encI), c19 * 1⟩, ⟨B26, 75, (D18.flatMap eN5), c25 * 4⟩, ⟨aD b22, 75, [.slice B23 x2.gates.length c22, vi x2.m.Rows, vi x2.m.Cols, .slice B24 x2.m.Cells.length c23], 4⟩, ⟨B21, 75, (D19.flatMap eN5), c20 * 4⟩, ⟨B25, 56, (r_20.flatMap eN0), c24 * 3⟩, ⟨aD b23, 56, [vi x3.Kind, vi x3.A, vi x3.B], 3⟩, ⟨B28, 91, (r_21.Cells.flatMap eN1), c27 * 5⟩, ⟨aD b24, 50, kM_ r_21 B28 c27, 3⟩, ⟨B29, 91, (r_23.Cells.flatMap eN1), c28 * 5⟩, ⟨aD b25, 50, kM_ r_23 B29 c28, 3⟩, ⟨aD b26, 56, ([x3].flatMap eN0), 1 * 3⟩, ⟨B32, 56, ((r_27 ++ [x3]).flatMap eN0), c31 * 3⟩, ⟨aD b27, 75, [.slice none 0 0, vi 0, vi 0, .slice none 0 0], 4⟩] (⟨B30, ((mgt words6 r_25 []).flatMap eN0)⟩ :: ⟨none, ([].flatMap eN0)⟩ :: ⟨B24, (x2.m.Cells.flatMap eN1)⟩ :: ⟨B23, (x2.gates.flatMap eN0)⟩ :: ⟨none, ([].flatMap eN0)⟩ :: ⟨B19, (r_16.Cells.flatMap eN1)⟩ :: ⟨aD b17, ([].flatMap eN0)⟩ :: ⟨(aD 1), (gl1.flatMap enc_u64)⟩ :: ((D17.flatMap (rowM eN0)) ++ ((D18.flatMap eN3) ++ ((D19.flatMap eN3) ++ [])))) := hS163
             refine ⟨(hS163.se [0, 1, 2, 3, 4, 5, 6, 7, 8, 9, 10, 11, 12]), ?_⟩
             refine rq 7 103 (v := .agg #[.slice B32 ((r_27 ++ [x3]).length) c31, vi r_23.Rows, vi r_23.Cols, .slice B29 r_23.Cells.length c28]) rfl (hS163.se [0, 1, 2, 3, 4, 5, 6, 7, 8, 9, 10, 11, 12]) (fun w' hw' => (Y_buildS (zs := [.slice none 0 0, vi 0, vi 0, .slice none 0 0]) (vs := [(0, .slice B32 ((r_27 ++ [x3]).length) c31), (1, gM_ r_23 B29 c28)]) (cs := [.slice B32 ((r_27 ++ [x3]).length) c31, vi r_23.Rows, vi r_23.Cols, .slice B29 r_23.Cells.length c28]) K48 K32 rfl (mpc rfl (mpc rfl mpn)) rfl)) ?_
             refine rA [9] ?_
             refine rZ 9 rfl (yT 15 4 (aD b27) 75 (.agg #[.slice B32 ((r_27 ++ [x3]).length) c31, vi r_23.Rows, vi r_23.Cols, .slice B29 r_23.Cells.length c28]) [.slice B32 ((r_27 ++ [x3]).length) c31, vi r_23.Rows, vi r_23.Cols, .slice B29 r_23.Cells.length c28] 0 hS163 K34) ?_ ?_
             ·rintro _ w_112 ⟨rfl, hS164⟩
              refine ⟨(hS164.se [0, 1, 2, 3, 4, 5, 6, 7, 8, 9, 10, 11, 12]), ?_⟩
              refine ra_done (by kernel_rfl) ?_
              exact ⟨aD b27, B32, c31, (fc (hf8.g 0 0) (fc (hf8.g 4 1) (fc (hf8.g 9 2) (fc (hf8.g 11 3) (fc (hf8.g 13 4) (fc rfl (fc rfl (fc (hf8.g 45 5) (fc (hf8.g 46 6) (fc (hf8.g 49 7) (fc (hf8.g 50 8) (fc (hf8.g 51 9) (fc (hf8.g 56 10) (fc (hf8.g 57 11) (fc (hf8.g 58 12) fn_))))))))))))))), (hS164.sel [0, 1, 2, 3, 4, 5, 15, 14, 11, 6, 7] rfl rfl)⟩
             exact aN
            exact aN
           exact aN
          refine rS 24 8 rfl (yN [.slice none 0 0, vi 0, vi 0, .slice none 0 0] 4 hS157 K32) ?_ ?_
          ·rintro _ w_113 ⟨b27, rfl, hS165⟩
           refine ⟨(hS165.se [0, 1, 2, 3, 4, 5, 6, 7, 8, 9, 10, 11, 12]), ?_⟩
           refine rA [2] ?_
           refine rC 98 2 rfl (yC [.slice B23 x2.gates.length c22] K74 (c_slices_Clone_impl_Gate_impl_Gate x2.gates B23 c22 x2.gates.length _ rfl (hS165.inn0 [(true, 3)] rfl) hc16)) ?_ ?_
           ·rintro _ w_114 ⟨B31, c30, rfl, hd21⟩
            have hS166 := hS165.out0 hd21
            refine ⟨(hS166.se [0, 1, 2, 3, 4, 5, 6, 7, 8, 9, 10, 11, 12]), ?_⟩
            refine rA [5] ?_
            refine rS 101 5 rfl (Ys_append (s := 3) (by' := 24) (i := 15) (nn := r_27.length) (c := c30) (k := 1) (len := (r_27 ++ [x3]).length) (B := B31) (xs := ([x3].flatMap eN0)) (cs' := ((r_27 ++ [x3]).flatMap eN0)) hS166 K23 K19 K43 K24 rfl (by decide) rfl rfl rfl rfl (fm_lenn (l := r_27) enc_Gate_len rfl) rfl (hS166.c 13) (fm_lenn (l := [x3]) enc_Gate_len rfl) (fm_one' (enc := eN0) enc_Gate_one [x3]) (by have := hap3; omega) (by have := hap3; simp only [maxLen]; omega) (fm_app _ _) (app_len (l := r_27) (l' := [x3]) rfl rfl)) ?_ ?_
            ·rintro _ w_115 ⟨B32, c31, rfl, hS167⟩
             have hS167 : ST w0 [] _ [⟨aD b15, 46, [.map none, .slice none 0 0], 2⟩, ⟨aD b19, 46, [.map (some g2), .slice B20 sizes1.length c19], 2⟩, ⟨(aD g2), .mp (mpE vStr vSl D17), [], 0⟩, ⟨B20, 3, (sizes1.flatMap encI), c19 * 1⟩, ⟨B26, 75, (D18.flatMap eN5), c25 * 4⟩, ⟨aD b22, 75, [.slice B23 x2.gates.length c22, vi x2.m.Rows, vi x2.m.Cols, .slice B24 x2.m.Cells.length c23], 4⟩, ⟨B21, 75, (D19.flatMap eN5), c20 * 4⟩, ⟨B25, 56, (r_20.flatMap eN0), c24 * 3⟩, ⟨aD b23, 56, [vi x3.Kind, vi x3.A, vi x3.B], 3⟩, ⟨B28, 91, (r_21.Cells.flatMap eN1), c27 * 5⟩, ⟨aD b24, 50, kM_ r_21 B28 c27, 3⟩, ⟨B29, 91, (r_23.Cells.flatMap eN1), c28 * 5⟩, ⟨aD b25, 50, kM_ r_23 B29 c28, 3⟩, ⟨aD b26, 56, ([x3].flatMap eN0), 1 * 3⟩, ⟨aD b27, 75, [.slice none 0 0, vi 0, vi 0, .slice none 0 0], 4⟩, ⟨B32, 56, ((r_27 ++ [x3]).flatMap eN0), c31 * 3⟩] (⟨B30, ((mgt words6 r_25 []).flatMap eN0)⟩ :: ⟨none, ([].flatMap eN0)⟩ :: ⟨B24, (x2.m.Cells.flatMap eN1)⟩ :: ⟨B23, (x2.gates.flatMap eN0)⟩ :: ⟨none, ([].flatMap eN0)⟩ :: ⟨B19, (r_16.Cells.flatMap eN1)⟩ :: ⟨aD b17, ([].flatMap eN0)⟩ :: ⟨(aD 1), (gl1.flatMap enc_u64)⟩ :: ((D17.flatMap (rowM eN0)) ++ ((D18.flatMap eN3) ++ ((D19.flatMap eN3) ++ [])))) := hS167
             refine ⟨(hS167.se [0, 1, 2, 3, 4, 5, 6, 7, 8, 9, 10, 11, 12]), ?_⟩
             refine rq 7 103 (v := .agg #[.slice B32 ((r_27 ++ [x3]).length) c31, vi r_23.Rows, vi r_23.Cols, .slice B29 r_23.Cells.length c28]) rfl (hS167.se [0, 1, 2, 3, 4, 5, 6, 7, 8, 9, 10, 11, 12]) (fun w' hw' => (Y_buildS (zs := [.slice none 0 0, vi 0, vi 0, .slice none 0 0]) (vs := [(0, .slice B32 ((r_27 ++ [x3]).length) c31), (1, gM_ r_23 B29 c28)]) (cs := [.slice B32 ((r_27 ++ [x3]).length) c31, vi r_23.Rows, vi r_23.Cols, .slice B29 r_23.Cells.length c28]) K48 K32 rfl (mpc rfl (mpc rfl mpn)) rfl)) ?_
             refine rA [9] ?_
             refine rZ 9 rfl (yT 14 4 (aD b27) 75 (.agg #[.slice B32 ((r_27 ++ [x3]).length) c31, vi r_23.Rows, vi r_23.Cols, .slice B29 r_23.Cells.length c28]) [.slice B32 ((r_27 ++ [x3]).length) c31, vi r_23.Rows, vi r_23.Cols, .slice B29 r_23.Cells.length c28] 0 hS167 K34) ?_ ?_
             ·rintro _ w_116 ⟨rfl, hS168⟩
              refine ⟨(hS168.se [0, 1, 2, 3, 4, 5, 6, 7, 8, 9, 10, 11, 12]), ?_⟩
              refine ra_done (by kernel_rfl) ?_
              exact ⟨aD b27, B32, c31, (fc (hf8.g 0 0) (fc (hf8.g 4 1) (fc (hf8.g 9 2) (fc (hf8.g 11 3) (fc (hf8.g 13 4) (fc rfl (fc rfl (fc (hf8.g 45 5) (fc (hf8.g 46 6) (fc (hf8.g 49 7) (fc (hf8.g 50 8) (fc (hf8.g 51 9) (fc (hf8.g 56 10) (fc (hf8.g 57 11) (fc (hf8.g 58 12) fn_))))))))))))))), (hS168.sel [0, 1, 2, 3, 4, 5, 14, 15, 11, 6, 7] rfl rfl)⟩
             exact aN
            exact aN
           exact aN
          exact aN
         refine rS 24 8 rfl (yN [.slice none 0 0, vi 0, vi 0, .slice none 0 0] 4 hS144 K32) ?_ ?_
         ·rintro _ w_117 ⟨b27, rfl, hS169⟩
          refine ⟨(hS169.se [0, 1, 2, 3, 4, 5, 6, 7, 8, 9, 10, 11, 12]), ?_⟩
          refine rA [2, 4] ?_
          refine rC 98 2 rfl (yC [.slice B23 x2.gates.length c22] K74 (c_slices_Clone_impl_Gate_impl_Gate x2.gates B23 c22 x2.gates.length _ rfl (hS169.inn0 [(true, 3)] rfl) hc16)) ?_ ?_
          ·rintro _ w_118 ⟨B31, c30, rfl, hd22⟩
           have hS170 := hS169.out0 hd22
           refine ⟨(hS170.se [0, 1, 2, 3, 4, 5, 6, 7, 8, 9, 10, 11, 12]), ?_⟩
           refine rA [4] ?_
           refine rS 100 4 rfl (Ys_bslice (s := 3) (len := 1) (vs := [(0, .agg #[vi x3.Kind, vi x3.A, vi x3.B])]) (cs := [vi x3.Kind, vi x3.A, vi x3.B]) (zs := [vi 0, vi 0, vi 0]) (m := 3) hS170 K23 K19 K47 rfl (mpc rfl mpn) rfl rfl rfl (by kernel_rfl) (by kernel_rfl) rfl) ?_ ?_
           ·rintro _ w_119 ⟨b26, rfl, hS171⟩
            have hS171 : ST w0 [] _ [⟨aD b15, 46, [.map none, .slice none 0 0], 2⟩, ⟨aD b19, 46, [.map (some g2), .slice B20 sizes1.length c19], 2⟩, ⟨(aD g2), .mp (mpE vStr vSl D17), [], 0⟩, ⟨B20, 3, (sizes1.flatMap encI), c19 * 1⟩, ⟨B26, 75, (D18.flatMap eN5), c25 * 4⟩, ⟨aD b22, 75, [.slice B23 x2.gates.length c22, vi x2.m.Rows, vi x2.m.Cols, .slice B24 x2.m.Cells.length c23], 4⟩, ⟨B21, 75, (D19.flatMap eN5), c20 * 4⟩, ⟨B25, 56, (r_20.flatMap eN0), c24 * 3⟩, ⟨aD b23, 56, [vi x3.Kind, vi x3.A, vi x3.B], 3⟩, ⟨B28, 91, (r_21.Cells.flatMap eN1), c27 * 5⟩, ⟨aD b24, 50, kM_ r_21 B28 c27, 3⟩, ⟨B29, 91, (r_23.Cells.flatMap eN1), c28 * 5⟩, ⟨aD b25, 50, kM_ r_23 B29 c28, 3⟩, ⟨aD b27, 75, [.slice none 0 0, vi 0, vi 0, .slice none 0 0], 4⟩, ⟨B31, 56, (r_27.flatMap eN0), c30 * 3⟩, ⟨aD b26, 56, ([x3].flatMap eN0), 1 * 3⟩] (⟨B30, ((mgt words6 r_25 []).flatMap eN0)⟩ :: ⟨none, ([].flatMap eN0)⟩ :: ⟨B24, (x2.m.Cells.flatMap eN1)⟩ :: ⟨B23, (x2.gates.flatMap eN0)⟩ :: ⟨none, ([].flatMap eN0)⟩ :: ⟨B19, (r_16.Cells.flatMap eN1)⟩ :: ⟨aD b17, ([].flatMap eN0)⟩ :: ⟨(aD 1), (gl1.flatMap enc_u64)⟩ :: ((D17.flatMap (rowM eN0)) ++ ((D18.flatMap eN3) ++ ((D19.flatMap eN3) ++ [])))) := hS171
            refine ⟨(hS171.se [0, 1, 2, 3, 4, 5, 6, 7, 8, 9, 10, 11, 12]), ?_⟩
            refine rA [5] ?_
            refine rS 101 5 rfl (Ys_append (s := 3) (by' := 24) (i := 14) (nn := r_27.length) (c := c30) (k := 1) (len := (r_27 ++ [x3]).length) (B := B31) (xs := ([x3].flatMap eN0)) (cs' := ((r_27 ++ [x3]).flatMap eN0)) hS171 K23 K19 K43 K24 rfl (by decide) rfl rfl rfl rfl (fm_lenn (l := r_27) enc_Gate_len rfl) rfl (hS171.c 15) (fm_lenn (l := [x3]) enc_Gate_len rfl) (fm_one' (enc := eN0) enc_Gate_one [x3]) (by have := hap3; omega) (by have := hap3; simp only [maxLen]; omega) (fm_app _ _) (app_len (l := r_27) (l' := [x3]) rfl rfl)) ?_ ?_
            ·rintro _ w_120 ⟨B32, c31, rfl, hS172⟩
             refine ⟨(hS172.se [0, 1, 2, 3, 4, 5, 6, 7, 8, 9, 10, 11, 12]), ?_⟩
             refine rq 7 103 (v := .agg #[.slice B32 ((r_27 ++ [x3]).length) c31, vi r_23.Rows, vi r_23.Cols, .slice B29 r_23.Cells.length c28]) rfl (hS172.se [0, 1, 2, 3, 4, 5, 6, 7, 8, 9, 10, 11, 12]) (fun w' hw' => (Y_buildS (zs := [.slice none 0 0, vi 0, vi 0, .slice none 0 0]) (vs := [(0, .slice B32 ((r_27 ++ [x3]).length) c31), (1, gM_ r_23 B29 c28)]) (cs := [.slice B32 ((r_27 ++ [x3]).length) c31, vi r_23.Rows, vi r_23.Cols, .slice B29 r_23.Cells.length c28]) K48 K32 rfl (mpc rfl (mpc rfl mpn)) rfl)) ?_
             refine rA [9] ?_
             refine rZ 9 rfl (yT 13 4 (aD b27) 75 (.agg #[.slice B32 ((r_27 ++ [x3]).length) c31, vi r_23.Rows, vi r_23.Cols, .slice B29 r_23.Cells.length c28]) [.slice B32 ((r_27 ++ [x3]).length) c31, vi r_23.Rows, vi r_23.Cols, .slice B29 r_23.Cells.length c28] 0 hS172 K34) ?_ ?_
             ·rintro _ w_121 ⟨rfl, hS173⟩
              refine ⟨(hS173.se [0, 1, 2, 3, 4, 5, 6, 7, 8, 9, 10, 11, 12]), ?_⟩
              refine ra_done (by kernel_rfl) ?_
              exact ⟨aD b27, B32, c31, (fc (hf8.g 0 0) (fc (hf8.g 4 1) (fc (hf8.g 9 2) (fc (hf8.g 11 3) (fc (hf8.g 13 4) (fc rfl (fc rfl (fc (hf8.g 45 5) (fc (hf8.g 46 6) (fc (hf8.g 49 7) (fc (hf8.g 50 8) (fc (hf8.g 51 9) (fc (hf8.g 56 10) (fc (hf8.g 57 11) (fc (hf8.g 58 12) fn_))))))))))))))), (hS173.sel [0, 1, 2, 3, 4, 5, 13, 14, 11, 6, 7] rfl rfl)⟩
             exact aN
            exact aN
           exact aN
          refine rS 100 4 rfl (Ys_bslice (s := 3) (len := 1) (vs := [(0, .agg #[vi x3.Kind, vi x3.A, vi x3.B])]) (cs := [vi x3.Kind, vi x3.A, vi x3.B]) (zs := [vi 0, vi 0, vi 0]) (m := 3) hS169 K23 K19 K47 rfl (mpc rfl mpn) rfl rfl rfl (by kernel_rfl) (by kernel_rfl) rfl) ?_ ?_
          ·rintro _ w_122 ⟨b26, rfl, hS174⟩
           refine ⟨(hS174.se [0, 1, 2, 3, 4, 5, 6, 7, 8, 9, 10, 11, 12]), ?_⟩
           refine rA [2] ?_
           refine rC 98 2 rfl (yC [.slice B23 x2.gates.length c22] K74 (c_slices_Clone_impl_Gate_impl_Gate x2.gates B23 c22 x2.gates.length _ rfl (hS174.inn0 [(true, 3)] rfl) hc16)) ?_ ?_
           ·rintro _ w_123 ⟨B31, c30, rfl, hd23⟩
            have hS175 := hS174.out0 hd23
            have hS175 : ST w0 [] _ [⟨aD b15, 46, [.map none, .slice none 0 0], 2⟩, ⟨aD b19, 46, [.map (some g2), .slice B20 sizes1.length c19], 2⟩, ⟨(aD g2), .mp (mpE vStr vSl D17), [], 0⟩, ⟨B20, 3, (sizes1.flatMap encI), c19 * 1⟩, ⟨B26, 75, (D18.flatMap eN5), c25 * 4⟩, ⟨aD b22, 75, [.slice B23 x2.gates.length c22, vi x2.m.Rows, vi x2.m.Cols, .slice B24 x2.m.Cells.length c23], 4⟩, ⟨B21, 75, (D19.flatMap eN5), c20 * 4⟩, ⟨B25, 56, (r_20.flatMap eN0), c24 * 3⟩, ⟨aD b23, 56, [vi x3.Kind, vi x3.A, vi x3.B], 3⟩, ⟨B28, 91, (r_21.Cells.flatMap eN1), c27 * 5⟩, ⟨aD b24, 50, kM_ r_21 B28 c27, 3⟩, ⟨B29, 91, (r_23.Cells.flatMap eN1), c28 * 5⟩, ⟨aD b25, 50, kM_ r_23 B29 c28, 3⟩, ⟨aD b27, 75, [.slice none 0 0, vi 0, vi 0, .slice none 0 0], 4⟩, ⟨aD b26, 56, ([x3].flatMap eN0), 1 * 3⟩, ⟨B31, 56, (r_27.flatMap eN0), c30 * 3⟩] (⟨B30, ((mgt words6 r_25 []).flatMap eN0)⟩ :: ⟨none, ([].flatMap eN0)⟩ :: ⟨B24, (x2.m.Cells.flatMap eN1)⟩ :: ⟨B23, (x2.gates.flatMap eN0)⟩ :: ⟨none, ([].flatMap eN0)⟩ :: ⟨B19, (r_16.Cells.flatMap eN1)⟩ :: ⟨aD b17, ([].flatMap eN0)⟩ :: ⟨(aD 1), (gl1.flatMap enc_u64)⟩ :: ((D17.flatMap (rowM eN0)) ++ ((D18.flatMap eN3) ++ ((D19.flatMap eN3) ++ [])))) := hS175
            refine ⟨(hS175.se [0, 1, 2, 3, 4, 5, 6, 7, 8, 9, 10, 11, 12]), ?_⟩
            refine rA [5] ?_
            refine rS 101 5 rfl (Ys_append (s := 3) (by' := 24) (i := 15) (nn := r_27.length) (c := c30) (k := 1) (len := (r_27 ++ [x3]).length) (B := B31) (xs := ([x3].flatMap eN0)) (cs' := ((r_27 ++ [x3]).flatMap eN0)) hS175 K23 K19 K43 K24 rfl (by decide) rfl rfl rfl rfl (fm_lenn (l := r_27) enc_Gate_len rfl) rfl (hS175.c 14) (fm_lenn (l := [x3]) enc_Gate_len rfl) (fm_one' (enc := eN0) enc_Gate_one [x3]) (by have := hap3; omega) (by have := hap3; simp only [maxLen]; omega) (fm_app _ _) (app_len (l := r_27) (l' := [x3]) rfl rfl)) ?_ ?_
            ·rintro _ w_124 ⟨B32, c31, rfl, hS176⟩
             refine ⟨(hS176.se [0, 1, 2, 3, 4, 5, 6, 7, 8, 9, 10, 11, 12]), ?_⟩
             refine rq 7 103 (v := .agg #[.slice B32 ((r_27 ++ [x3]).length) c31, vi r_23.Rows, vi r_23.Cols, .slice B29 r_23.Cells.length c28]) rfl (hS176.se [0, 1, 2, 3, 4, 5, 6, 7, 8, 9, 10, 11, 12]) (fun w' hw' => (Y_buildS (zs := [.slice none 0 0, vi 0, vi 0, .slice none 0 0]) (vs := [(0, .slice B32 ((r_27 ++ [x3]).length) c31), (1, gM_ r_23 B29 c28)]) (cs := [.slice B32 ((r_27 ++ [x3]).length) c31, vi r_23.Rows, vi r_23.Cols, .slice B29 r_23.Cells.length c28]) K48 K32 rfl (mpc rfl (mpc rfl mpn)) rfl)) ?_
             refine rA [9] ?_
             refine rZ 9 rfl (yT 13 4 (aD b27) 75 (.agg #[.slice B32 ((r_27 ++ [x3]).length) c31, vi r_23.Rows, vi r_23.Cols, .slice B29 r_23.Cells.length c28]) [.slice B32 ((r_27 ++ [x3]).length) c31, vi r_23.Rows, vi r_23.Cols, .slice B29 r_23.Cells.length c28] 0 hS176 K34) ?_ ?_
             ·rintro _ w_125 ⟨rfl, hS177⟩
              refine ⟨(hS177.se [0, 1, 2, 3, 4, 5, 6, 7, 8, 9, 10, 11, 12]), ?_⟩
              refine ra_done (by kernel_rfl) ?_
              exact ⟨aD b27, B32, c31, (fc (hf8.g 0 0) (fc (hf8.g 4 1) (fc (hf8.g 9 2) (fc (hf8.g 11 3) (fc (hf8.g 13 4) (fc rfl (fc rfl (fc (hf8.g 45 5) (fc (hf8.g 46 6) (fc (hf8.g 49 7) (fc (hf8.g 50 8) (fc (hf8.g 51 9) (fc (hf8.g 56 10) (fc (hf8.g 57 11) (fc (hf8.g 58 12) fn_))))))))))))))), (hS177.sel [0, 1, 2, 3, 4, 5, 13, 15, 11, 6, 7] rfl rfl)⟩
             exact aN
            exact aN
           exact aN
          exact aN
         exact aN
        rintro f w ⟨B33, B34, c32, hf10, hS143⟩
        refine cq (cr ?_)
        refine sQ 104 (yd (aD b19) 0 0 k_fd_46_0_0_43 k_sz_43_1 rfl (hf10.g 9 2)) <| sQ 105 (yl (aD b19) 0 [.map (some g2), .slice B20 sizes1.length c19] (.map (some g2)) k_sc_43 (hS143.c 1)) <| sQ 106 (ym (.string (bstr r_25)) rfl (hf10.g 20 5)) <| sQ 107 (yd B33 0 0 k_fd_75_0_0_28 k_sz_28_1 rfl (hf10.g 24 6)) <| sQ 108 (yl B33 0 [.slice B34 ((r_27 ++ [x3]).length) c32, vi r_23.Rows, vi r_23.Cols, .slice B29 r_23.Cells.length c28] (.slice B34 ((r_27 ++ [x3]).length) c32) k_sc_28 (hS143.c 6)) ?_
        have ho24 : Org w0 [] [⟨(aD 1), (gl1.flatMap enc_u64)⟩] [⟨B34, ((r_27 ++ [x3]).flatMap eN0)⟩] := ST.orgOwn hS143 (i := 7) rfl
        have hcap6 : (r_27 ++ [x3]).length ≤ c32 := (hS143.lencap (i := 7) rfl (fm_lenn (l := (r_27 ++ [x3])) enc_Gate_len rfl) rfl rfl)
        have hS178 : ST w0 [] _ [⟨aD b15, 46, [.map none, .slice none 0 0], 2⟩, ⟨aD b19, 46, [.map (some g2), .slice B20 sizes1.length c19], 2⟩, ⟨(aD g2), .mp (mpE vStr vSl D17), [], 0⟩, ⟨B20, 3, (sizes1.flatMap encI), c19 * 1⟩, ⟨B26, 75, (D18.flatMap eN5), c25 * 4⟩, ⟨aD b22, 75, [.slice B23 x2.gates.length c22, vi x2.m.Rows, vi x2.m.Cols, .slice B24 x2.m.Cells.length c23], 4⟩, ⟨B33, 75, [.slice B34 ((r_27 ++ [x3]).length) c32, vi r_23.Rows, vi r_23.Cols, .slice B29 r_23.Cells.length c28], 4⟩, ⟨B29, 91, (r_23.Cells.flatMap eN1), c28 * 5⟩, ⟨B21, 75, (D19.flatMap eN5), c20 * 4⟩, ⟨B25, 56, (r_20.flatMap eN0), c24 * 3⟩] (⟨B34, ((r_27 ++ [x3]).flatMap eN0)⟩ :: ⟨B30, ((mgt words6 r_25 []).flatMap eN0)⟩ :: ⟨none, ([].flatMap eN0)⟩ :: ⟨B24, (x2.m.Cells.flatMap eN1)⟩ :: ⟨B23, (x2.gates.flatMap eN0)⟩ :: ⟨none, ([].flatMap eN0)⟩ :: ⟨B19, (r_16.Cells.flatMap eN1)⟩ :: ⟨aD b17, ([].flatMap eN0)⟩ :: ⟨(aD 1), (gl1.flatMap enc_u64)⟩ :: ((D17.flatMap (rowM eN0)) ++ ((D18.flatMap eN3) ++ ((D19.flatMap eN3) ++ [])))) := hS143.freeze (i := 7) rfl
        refine s0 (Ys_mapPut (kE := vStr) (vE := vSl) (l := D17) (a := r_25) (b := ((B34, c32), (r_27 ++ [x3]))) (g := g2) (i := 2) hS178 (keyStr K98) K99 rfl rfl rfl rfl rfl rfl) ?_
        rintro _ w_126 ⟨rfl, hS179⟩
        have hD26 : (mput D17 r_25 ((B34, c32), (r_27 ++ [x3]))).map dm = (mput words6 r_25 (r_27 ++ [x3])) := mput_dm hD20 _ _ _
        have hm12 : ∀ r ∈ ((mput D17 r_25 ((B34, c32), (r_27 ++ [x3]))).flatMap (rowM eN0)), r ∈ ((⟨B34, ((r_27 ++ [x3]).flatMap eN0)⟩ :: ⟨B30, ((mgt words6 r_25 []).flatMap eN0)⟩ :: ⟨none, ([].flatMap eN0)⟩ :: ⟨B24, (x2.m.Cells.flatMap eN1)⟩ :: ⟨B23, (x2.gates.flatMap eN0)⟩ :: ⟨none, ([].flatMap eN0)⟩ :: ⟨B19, (r_16.Cells.flatMap eN1)⟩ :: ⟨aD b17, ([].flatMap eN0)⟩ :: ⟨(aD 1), (gl1.flatMap enc_u64)⟩ :: ((D17.flatMap (rowM eN0)) ++ ((D18.flatMap eN3) ++ ((D19.flatMap eN3) ++ [])))) : List Ro) := mput_sub (R := (⟨B34, ((r_27 ++ [x3]).flatMap eN0)⟩ :: ⟨B30, ((mgt words6 r_25 []).flatMap eN0)⟩ :: ⟨none, ([].flatMap eN0)⟩ :: ⟨B24, (x2.m.Cells.flatMap eN1)⟩ :: ⟨B23, (x2.gates.flatMap eN0)⟩ :: ⟨none, ([].flatMap eN0)⟩ :: ⟨B19, (r_16.Cells.flatMap eN1)⟩ :: ⟨aD b17, ([].flatMap eN0)⟩ :: ⟨(aD 1), (gl1.flatMap enc_u64)⟩ :: ((D17.flatMap (rowM eN0)) ++ ((D18.flatMap eN3) ++ ((D19.flatMap eN3) ++ []))))) (fun r_ (h : r_ ∈ ((D17.flatMap (rowM eN0)) : List Ro)) => mOd (i := 9) (show r_ ∈ ((((D17.flatMap (rowM eN0)) ++ ((D18.flatMap eN3) ++ ((D19.flatMap eN3) ++ [])))) : List Ro) from mAl _ h)) (mt 0) _
        have hS180 : ST w0 [] _ [⟨aD b15, 46, [.map none, .slice none 0 0], 2⟩, ⟨aD b19, 46, [.map (some g2), .slice B20 sizes1.length c19], 2⟩, ⟨(aD g2), .mp (mpE vStr vSl (mput D17 r_25 ((B34, c32), (r_27 ++ [x3])))), [], 0⟩, ⟨B20, 3, (sizes1.flatMap encI), c19 * 1⟩, ⟨B26, 75, (D18.flatMap eN5), c25 * 4⟩, ⟨aD b22, 75, [.slice B23 x2.gates.length c22, vi x2.m.Rows, vi x2.m.Cols, .slice B24 x2.m.Cells.length c23], 4⟩, ⟨B33, 75, [.slice B34 ((r_27 ++ [x3]).length) c32, vi r_23.Rows, vi r_23.Cols, .slice B29 r_23.Cells.length c28], 4⟩, ⟨B29, 91, (r_23.Cells.flatMap eN1), c28 * 5⟩, ⟨B21, 75, (D19.flatMap eN5), c20 * 4⟩, ⟨B25, 56, (r_20.flatMap eN0), c24 * 3⟩] (⟨B34, ((r_27 ++ [x3]).flatMap eN0)⟩ :: ⟨B30, ((mgt words6 r_25 []).flatMap eN0)⟩ :: ⟨none, ([].flatMap eN0)⟩ :: ⟨B24, (x2.m.Cells.flatMap eN1)⟩ :: ⟨B23, (x2.gates.flatMap eN0)⟩ :: ⟨none, ([].flatMap eN0)⟩ :: ⟨B19, (r_16.Cells.flatMap eN1)⟩ :: ⟨aD b17, ([].flatMap eN0)⟩ :: ⟨(aD 1), (gl1.flatMap enc_u64)⟩ :: (((mput D17 r_25 ((B34, c32), (r_27 ++ [x3]))).flatMap (rowM eN0)) ++ ((D18.flatMap eN3) ++ ((D19.flatMap eN3) ++ [])))) := ST.subR hS179 (sk 0 (sk 1 (sk 2 (sk 3 (sk 4 (sk 5 (sk 6 (sk 7 (sk 8 (suba hm12 (suba (fun r_ (h : r_ ∈ ((D18.flatMap eN3) : List Ro)) => mOd (i := 9) (show r_ ∈ ((((D17.flatMap (rowM eN0)) ++ ((D18.flatMap eN3) ++ ((D19.flatMap eN3) ++ [])))) : List Ro) from mAr _ (mAl _ h))) (suba (fun r_ (h : r_ ∈ ((D19.flatMap eN3) : List Ro)) => mOd (i := 9) (show r_ ∈ ((((D17.flatMap (rowM eN0)) ++ ((D18.flatMap eN3) ++ ((D19.flatMap eN3) ++ [])))) : List Ro) from mAr _ (mAr _ (mAl _ h)))) (fun _ h => by cases h)))))))))))))
        refine rn (cr ?_)
        refine sQ 109 (ym (.slice B26 next_4.length c25) rfl (hf10.g 11 3)) <| sQ 110 (yb B33 0 [.slice B34 ((r_27 ++ [x3]).length) c32, vi r_23.Rows, vi r_23.Cols, .slice B29 r_23.Cells.length c28] k_ag_75 K34 (hS180.c 6) rfl (hf10.g 24 6)) ?_
        have ho25 : Org w0 [] [⟨(aD 1), (gl1.flatMap enc_u64)⟩] [⟨B29, (r_23.Cells.flatMap eN1)⟩] := ST.orgOwn hS180 (i := 7) rfl
        have hcap7 : r_23.Cells.length ≤ c28 := (hS180.lencap (i := 7) rfl (fm_lenn (l := r_23.Cells) enc_Dyadic_len rfl) rfl rfl)
        have hS181 : ST w0 [] _ [⟨aD b15, 46, [.map none, .slice none 0 0], 2⟩, ⟨aD b19, 46, [.map (some g2), .slice B20 sizes1.length c19], 2⟩, ⟨(aD g2), .mp (mpE vStr vSl (mput D17 r_25 ((B34, c32), (r_27 ++ [x3])))), [], 0⟩, ⟨B20, 3, (sizes1.flatMap encI), c19 * 1⟩, ⟨B26, 75, (D18.flatMap eN5), c25 * 4⟩, ⟨aD b22, 75, [.slice B23 x2.gates.length c22, vi x2.m.Rows, vi x2.m.Cols, .slice B24 x2.m.Cells.length c23], 4⟩, ⟨B33, 75, [.slice B34 ((r_27 ++ [x3]).length) c32, vi r_23.Rows, vi r_23.Cols, .slice B29 r_23.Cells.length c28], 4⟩, ⟨B21, 75, (D19.flatMap eN5), c20 * 4⟩, ⟨B25, 56, (r_20.flatMap eN0), c24 * 3⟩] (⟨B29, (r_23.Cells.flatMap eN1)⟩ :: ⟨B34, ((r_27 ++ [x3]).flatMap eN0)⟩ :: ⟨B30, ((mgt words6 r_25 []).flatMap eN0)⟩ :: ⟨none, ([].flatMap eN0)⟩ :: ⟨B24, (x2.m.Cells.flatMap eN1)⟩ :: ⟨B23, (x2.gates.flatMap eN0)⟩ :: ⟨none, ([].flatMap eN0)⟩ :: ⟨B19, (r_16.Cells.flatMap eN1)⟩ :: ⟨aD b17, ([].flatMap eN0)⟩ :: ⟨(aD 1), (gl1.flatMap enc_u64)⟩ :: (((mput D17 r_25 ((B34, c32), (r_27 ++ [x3]))).flatMap (rowM eN0)) ++ ((D18.flatMap eN3) ++ ((D19.flatMap eN3) ++ [])))) := hS180.freeze (i := 7) rfl
        refine sS 111 (Ys_bslice (s := 4) (len := 1) (vs := [(0, .agg #[.slice B34 ((r_27 ++ [x3]).length) c32, vi r_23.Rows, vi r_23.Cols, .slice B29 r_23.Cells.length c28])]) (cs := [.slice B34 ((r_27 ++ [x3]).length) c32, vi r_23.Rows, vi r_23.Cols, .slice B29 r_23.Cells.length c28]) (zs := [.slice none 0 0, vi 0, vi 0, .slice none 0 0]) (m := 4) hS181 K57 K34 k_zc_75 rfl (mpc rfl mpn) rfl rfl rfl (by kernel_rfl) (by kernel_rfl) rfl) ?_
        rintro _ w_127 ⟨b28, rfl, hS182⟩
        have hm13 : ∀ r ∈ (([(((B34, c32), (B29, c28)), (TtableWord.mk (r_27 ++ [x3]) r_23))] : List ((Hd × Hd) × TtableWord)).flatMap eN3), r ∈ ((⟨B29, (r_23.Cells.flatMap eN1)⟩ :: ⟨B34, ((r_27 ++ [x3]).flatMap eN0)⟩ :: ⟨B30, ((mgt words6 r_25 []).flatMap eN0)⟩ :: ⟨none, ([].flatMap eN0)⟩ :: ⟨B24, (x2.m.Cells.flatMap eN1)⟩ :: ⟨B23, (x2.gates.flatMap eN0)⟩ :: ⟨none, ([].flatMap eN0)⟩ :: ⟨B19, (r_16.Cells.flatMap eN1)⟩ :: ⟨aD b17, ([].flatMap eN0)⟩ :: ⟨(aD 1), (gl1.flatMap enc_u64)⟩ :: (((mput D17 r_25 ((B34, c32), (r_27 ++ [x3]))).flatMap (rowM eN0)) ++ ((D18.flatMap eN3) ++ ((D19.flatMap eN3) ++ [])))) : List Ro) := (fsub_cons (sk 1 (sk 0 (fun _ h => by cases h))) fsub_nil)
        have ho26 : Org w0 [] [⟨(aD 1), (gl1.flatMap enc_u64)⟩] (([(((B34, c32), (B29, c28)), (TtableWord.mk (r_27 ++ [x3]) r_23))] : List ((Hd × Hd) × TtableWord)).flatMap eN3) := (forg_cons (org_cons ho24 (org_cons ho25 org_nil)) forg_nil)
        have hS183 : ST w0 [] _ [⟨aD b15, 46, [.map none, .slice none 0 0], 2⟩, ⟨aD b19, 46, [.map (some g2), .slice B20 sizes1.length c19], 2⟩, ⟨(aD g2), .mp (mpE vStr vSl (mput D17 r_25 ((B34, c32), (r_27 ++ [x3])))), [], 0⟩, ⟨B20, 3, (sizes1.flatMap encI), c19 * 1⟩, ⟨B26, 75, (D18.flatMap eN5), c25 * 4⟩, ⟨aD b22, 75, [.slice B23 x2.gates.length c22, vi x2.m.Rows, vi x2.m.Cols, .slice B24 x2.m.Cells.length c23], 4⟩, ⟨B33, 75, [.slice B34 ((r_27 ++ [x3]).length) c32, vi r_23.Rows, vi r_23.Cols, .slice B29 r_23.Cells.length c28], 4⟩, ⟨B21, 75, (D19.flatMap eN5), c20 * 4⟩, ⟨B25, 56, (r_20.flatMap eN0), c24 * 3⟩, ⟨aD b28, 75, (([(((B34, c32), (B29, c28)), (TtableWord.mk (r_27 ++ [x3]) r_23))] : List ((Hd × Hd) × TtableWord)).flatMap eN5), 1 * 4⟩] (⟨B29, (r_23.Cells.flatMap eN1)⟩ :: ⟨B34, ((r_27 ++ [x3]).flatMap eN0)⟩ :: ⟨B30, ((mgt words6 r_25 []).flatMap eN0)⟩ :: ⟨none, ([].flatMap eN0)⟩ :: ⟨B24, (x2.m.Cells.flatMap eN1)⟩ :: ⟨B23, (x2.gates.flatMap eN0)⟩ :: ⟨none, ([].flatMap eN0)⟩ :: ⟨B19, (r_16.Cells.flatMap eN1)⟩ :: ⟨aD b17, ([].flatMap eN0)⟩ :: ⟨(aD 1), (gl1.flatMap enc_u64)⟩ :: ((([(((B34, c32), (B29, c28)), (TtableWord.mk (r_27 ++ [x3]) r_23))] : List ((Hd × Hd) × TtableWord)).flatMap eN3) ++ (((mput D17 r_25 ((B34, c32), (r_27 ++ [x3]))).flatMap (rowM eN0)) ++ ((D18.flatMap eN3) ++ ((D19.flatMap eN3) ++ []))))) := ST.subR hS182 (sk 0 (sk 1 (sk 2 (sk 3 (sk 4 (sk 5 (sk 6 (sk 7 (sk 8 (sk 9 (suba hm13 (suba (fun r_ (h : r_ ∈ (((mput D17 r_25 ((B34, c32), (r_27 ++ [x3]))).flatMap (rowM eN0)) : List Ro)) => mOd (i := 10) (show r_ ∈ (((((mput D17 r_25 ((B34, c32), (r_27 ++ [x3]))).flatMap (rowM eN0)) ++ ((D18.flatMap eN3) ++ ((D19.flatMap eN3) ++ [])))) : List Ro) from mAl _ h)) (suba (fun r_ (h : r_ ∈ ((D18.flatMap eN3) : List Ro)) => mOd (i := 10) (show r_ ∈ (((((mput D17 r_25 ((B34, c32), (r_27 ++ [x3]))).flatMap (rowM eN0)) ++ ((D18.flatMap eN3) ++ ((D19.flatMap eN3) ++ [])))) : List Ro) from mAr _ (mAl _ h))) (suba (fun r_ (h : r_ ∈ ((D19.flatMap eN3) : List Ro)) => mOd (i := 10) (show r_ ∈ (((((mput D17 r_25 ((B34, c32), (r_27 ++ [x3]))).flatMap (rowM eN0)) ++ ((D18.flatMap eN3) ++ ((D19.flatMap eN3) ++ [])))) : List Ro) from mAr _ (mAr _ (mAl _ h)))) (fun _ h => by cases h)))))))))))))))
        have hS183 : ST w0 [] _ [⟨aD b15, 46, [.map none, .slice none 0 0], 2⟩, ⟨aD b19, 46, [.map (some g2), .slice B20 sizes1.length c19], 2⟩, ⟨(aD g2), .mp (mpE vStr vSl (mput D17 r_25 ((B34, c32), (r_27 ++ [x3])))), [], 0⟩, ⟨B20, 3, (sizes1.flatMap encI), c19 * 1⟩, ⟨B26, 75, (D18.flatMap eN5), c25 * 4⟩, ⟨aD b22, 75, [.slice B23 x2.gates.length c22, vi x2.m.Rows, vi x2.m.Cols, .slice B24 x2.m.Cells.length c23], 4⟩, ⟨B33, 75, [.slice B34 ((r_27 ++ [x3]).length) c32, vi r_23.Rows, vi r_23.Cols, .slice B29 r_23.Cells.length c28], 4⟩, ⟨B21, 75, (D19.flatMap eN5), c20 * 4⟩, ⟨B25, 56, (r_20.flatMap eN0), c24 * 3⟩, ⟨aD b28, 75, (([(((B34, c32), (B29, c28)), (TtableWord.mk (r_27 ++ [x3]) r_23))] : List ((Hd × Hd) × TtableWord)).flatMap eN5), 1 * 4⟩] (⟨B29, (r_23.Cells.flatMap eN1)⟩ :: ⟨B34, ((r_27 ++ [x3]).flatMap eN0)⟩ :: ⟨B30, ((mgt words6 r_25 []).flatMap eN0)⟩ :: ⟨none, ([].flatMap eN0)⟩ :: ⟨B24, (x2.m.Cells.flatMap eN1)⟩ :: ⟨B23, (x2.gates.flatMap eN0)⟩ :: ⟨none, ([].flatMap eN0)⟩ :: ⟨B19, (r_16.Cells.flatMap eN1)⟩ :: ⟨aD b17, ([].flatMap eN0)⟩ :: ⟨(aD 1), (gl1.flatMap enc_u64)⟩ :: ((([(((B34, c32), (B29, c28)), (TtableWord.mk (r_27 ++ [x3]) r_23))] : List ((Hd × Hd) × TtableWord)).flatMap eN3) ++ (((mput D17 r_25 ((B34, c32), (r_27 ++ [x3]))).flatMap (rowM eN0)) ++ ((D18.flatMap eN3) ++ ((D19.flatMap eN3) ++ []))))) := hS183
        obtain ⟨hap4, hF14⟩ := chk_inv hF14
        refine sS 112 (Ys_append (s := 4) (by' := 64) (i := 4) (nn := next_4.length) (c := c25) (k := 1) (len := (next_4 ++ ([(TtableWord.mk (r_27 ++ [x3]) r_23)] : List TtableWord)).length) (B := B26) (xs := (([(((B34, c32), (B29, c28)), (TtableWord.mk (r_27 ++ [x3]) r_23))] : List ((Hd × Hd) × TtableWord)).flatMap eN5)) (cs' := ((D18 ++ ([(((B34, c32), (B29, c28)), (TtableWord.mk (r_27 ++ [x3]) r_23))] : List ((Hd × Hd) × TtableWord))).flatMap eN5)) hS183 K57 K34 k_by_75_64 K32 rfl (by decide) rfl rfl rfl rfl (fm_lenn (l := D18) encD_tableWord_len (dl_len hD21)) rfl (hS183.c 9) (fm_lenn (l := ([(((B34, c32), (B29, c28)), (TtableWord.mk (r_27 ++ [x3]) r_23))] : List ((Hd × Hd) × TtableWord))) encD_tableWord_len rfl) (fm_one' (enc := eN5) encD_tableWord_one ([(((B34, c32), (B29, c28)), (TtableWord.mk (r_27 ++ [x3]) r_23))] : List ((Hd × Hd) × TtableWord))) (by have := hap4; omega) (by have := hap4; simp only [maxLen]; omega) (fm_app _ _) (dl_sum (dl_len hD21) rfl (dl_app hD21 (show List.map Prod.snd ([(((B34, c32), (B29, c28)), (TtableWord.mk (r_27 ++ [x3]) r_23))] : List ((Hd × Hd) × TtableWord)) = ([(TtableWord.mk (r_27 ++ [x3]) r_23)] : List TtableWord) from rfl)))) ?_
        rintro _ w_128 ⟨B35, c33, rfl, hS184⟩
        have ho27 : Org w0 [] [⟨(aD 1), (gl1.flatMap enc_u64)⟩] ((D18 ++ ([(((B34, c32), (B29, c28)), (TtableWord.mk (r_27 ++ [x3]) r_23))] : List ((Hd × Hd) × TtableWord))).flatMap eN3) := (forg_app ho20 ho26)
        have hS185 : ST w0 [] _ [⟨aD b15, 46, [.map none, .slice none 0 0], 2⟩, ⟨aD b19, 46, [.map (some g2), .slice B20 sizes1.length c19], 2⟩, ⟨(aD g2), .mp (mpE vStr vSl (mput D17 r_25 ((B34, c32), (r_27 ++ [x3])))), [], 0⟩, ⟨B20, 3, (sizes1.flatMap encI), c19 * 1⟩, ⟨B35, 75, ((D18 ++ ([(((B34, c32), (B29, c28)), (TtableWord.mk (r_27 ++ [x3]) r_23))] : List ((Hd × Hd) × TtableWord))).flatMap eN5), c33 * 4⟩, ⟨aD b22, 75, [.slice B23 x2.gates.length c22, vi x2.m.Rows, vi x2.m.Cols, .slice B24 x2.m.Cells.length c23], 4⟩, ⟨B33, 75, [.slice B34 ((r_27 ++ [x3]).length) c32, vi r_23.Rows, vi r_23.Cols, .slice B29 r_23.Cells.length c28], 4⟩, ⟨B21, 75, (D19.flatMap eN5), c20 * 4⟩, ⟨B25, 56, (r_20.flatMap eN0), c24 * 3⟩, ⟨aD b28, 75, (([(((B34, c32), (B29, c28)), (TtableWord.mk (r_27 ++ [x3]) r_23))] : List ((Hd × Hd) × TtableWord)).flatMap eN5), 1 * 4⟩] (⟨B29, (r_23.Cells.flatMap eN1)⟩ :: ⟨B34, ((r_27 ++ [x3]).flatMap eN0)⟩ :: ⟨B30, ((mgt words6 r_25 []).flatMap eN0)⟩ :: ⟨none, ([].flatMap eN0)⟩ :: ⟨B24, (x2.m.Cells.flatMap eN1)⟩ :: ⟨B23, (x2.gates.flatMap eN0)⟩ :: ⟨none, ([].flatMap eN0)⟩ :: ⟨B19, (r_16.Cells.flatMap eN1)⟩ :: ⟨aD b17, ([].flatMap eN0)⟩ :: ⟨(aD 1), (gl1.flatMap enc_u64)⟩ :: (((D18 ++ ([(((B34, c32), (B29, c28)), (TtableWord.mk (r_27 ++ [x3]) r_23))] : List ((Hd × Hd) × TtableWord))).flatMap eN3) ++ ((([(((B34, c32), (B29, c28)), (TtableWord.mk (r_27 ++ [x3]) r_23))] : List ((Hd × Hd) × TtableWord)).flatMap eN3) ++ (((mput D17 r_25 ((B34, c32), (r_27 ++ [x3]))).flatMap (rowM eN0)) ++ ((D19.flatMap eN3) ++ []))))) := ST.subR hS184 (sk 0 (sk 1 (sk 2 (sk 3 (sk 4 (sk 5 (sk 6 (sk 7 (sk 8 (sk 9 (suba (fsub_app (fun r_ (h : r_ ∈ ((D18.flatMap eN3) : List Ro)) => mOd (i := 10) (show r_ ∈ ((((([(((B34, c32), (B29, c28)), (TtableWord.mk (r_27 ++ [x3]) r_23))] : List ((Hd × Hd) × TtableWord)).flatMap eN3) ++ (((mput D17 r_25 ((B34, c32), (r_27 ++ [x3]))).flatMap (rowM eN0)) ++ ((D18.flatMap eN3) ++ ((D19.flatMap eN3) ++ []))))) : List Ro) from mAr _ (mAr _ (mAl _ h)))) (fun r_ (h : r_ ∈ ((([(((B34, c32), (B29, c28)), (TtableWord.mk (r_27 ++ [x3]) r_23))] : List ((Hd × Hd) × TtableWord)).flatMap eN3) : List Ro)) => mOd (i := 10) (show r_ ∈ ((((([(((B34, c32), (B29, c28)), (TtableWord.mk (r_27 ++ [x3]) r_23))] : List ((Hd × Hd) × TtableWord)).flatMap eN3) ++ (((mput D17 r_25 ((B34, c32), (r_27 ++ [x3]))).flatMap (rowM eN0)) ++ ((D18.flatMap eN3) ++ ((D19.flatMap eN3) ++ []))))) : List Ro) from mAl _ h))) (suba (fun r_ (h : r_ ∈ ((([(((B34, c32), (B29, c28)), (TtableWord.mk (r_27 ++ [x3]) r_23))] : List ((Hd × Hd) × TtableWord)).flatMap eN3) : List Ro)) => mOd (i := 10) (show r_ ∈ ((((([(((B34, c32), (B29, c28)), (TtableWord.mk (r_27 ++ [x3]) r_23))] : List ((Hd × Hd) × TtableWord)).flatMap eN3) ++ (((mput D17 r_25 ((B34, c32), (r_27 ++ [x3]))).flatMap (rowM eN0)) ++ ((D18.flatMap eN3) ++ ((D19.flatMap eN3) ++ []))))) : List Ro) from mAl _ h)) (suba (fun r_ (h : r_ ∈ (((mput D17 r_25 ((B34, c32), (r_27 ++ [x3]))).flatMap (rowM eN0)) : List Ro)) => mOd (i := 10) (show r_ ∈ ((((([(((B34, c32), (B29, c28)), (TtableWord.mk (r_27 ++ [x3]) r_23))] : List ((Hd × Hd) × TtableWord)).flatMap eN3) ++ (((mput D17 r_25 ((B34, c32), (r_27 ++ [x3]))).flatMap (rowM eN0)) ++ ((D18.flatMap eN3) ++ ((D19.flatMap eN3) ++ []))))) : List Ro) from mAr _ (mAl _ h))) (suba (fun r_ (h : r_ ∈ ((D19.flatMap eN3) : List Ro)) => mOd (i := 10) (show r_ ∈ ((((([(((B34, c32), (B29, c28)), (TtableWord.mk (r_27 ++ [x3]) r_23))] : List ((Hd × Hd) × TtableWord)).flatMap eN3) ++ (((mput D17 r_25 ((B34, c32), (r_27 ++ [x3]))).flatMap (rowM eN0)) ++ ((D18.flatMap eN3) ++ ((D19.flatMap eN3) ++ []))))) : List Ro) from mAr _ (mAr _ (mAr _ (mAl _ h))))) (fun _ h => by cases h)))))))))))))))
        refine sQ 11 (yg (.slice B35 ((next_4 ++ ([(TtableWord.mk (r_27 ++ [x3]) r_23)] : List TtableWord)).length) c33)) (rn ?_)
        have hS186 : ST w0 [] _ [⟨aD b15, 46, [.map none, .slice none 0 0], 2⟩, ⟨aD b19, 46, [.map (some g2), .slice B20 sizes1.length c19], 2⟩, ⟨(aD g2), .mp (mpE vStr vSl (mput D17 r_25 ((B34, c32), (r_27 ++ [x3])))), [], 0⟩, ⟨B20, 3, (sizes1.flatMap encI), c19 * 1⟩, ⟨B35, 75, ((D18 ++ ([(((B34, c32), (B29, c28)), (TtableWord.mk (r_27 ++ [x3]) r_23))] : List ((Hd × Hd) × TtableWord))).flatMap eN5), c33 * 4⟩, ⟨aD b22, 75, [.slice B23 x2.gates.length c22, vi x2.m.Rows, vi x2.m.Cols, .slice B24 x2.m.Cells.length c23], 4⟩, ⟨B33, 75, [.slice B34 ((r_27 ++ [x3]).length) c32, vi r_23.Rows, vi r_23.Cols, .slice B29 r_23.Cells.length c28], 4⟩, ⟨B21, 75, (D19.flatMap eN5), c20 * 4⟩, ⟨B25, 56, (r_20.flatMap eN0), c24 * 3⟩, ⟨aD b28, 75, (([(((B34, c32), (B29, c28)), (TtableWord.mk (r_27 ++ [x3]) r_23))] : List ((Hd × Hd) × TtableWord)).flatMap eN5), 1 * 4⟩] (⟨B24, (x2.m.Cells.flatMap eN1)⟩ :: ⟨B23, (x2.gates.flatMap eN0)⟩ :: ⟨none, ([].flatMap eN0)⟩ :: ⟨B19, (r_16.Cells.flatMap eN1)⟩ :: ⟨aD b17, ([].flatMap eN0)⟩ :: ⟨(aD 1), (gl1.flatMap enc_u64)⟩ :: (((mput D17 r_25 ((B34, c32), (r_27 ++ [x3]))).flatMap (rowM eN0)) ++ (((D18 ++ ([(((B34, c32), (B29, c28)), (TtableWord.mk (r_27 ++ [x3]) r_23))] : List ((Hd × Hd) × TtableWord))).flatMap eN3) ++ ((D19.flatMap eN3) ++ [])))) := ST.subR hS185 (sk 4 (sk 5 (sk 6 (sk 7 (sk 8 (sk 9 (suba (fun r_ (h : r_ ∈ (((mput D17 r_25 ((B34, c32), (r_27 ++ [x3]))).flatMap (rowM eN0)) : List Ro)) => mOd (i := 10) (show r_ ∈ (((((D18 ++ ([(((B34, c32), (B29, c28)), (TtableWord.mk (r_27 ++ [x3]) r_23))] : List ((Hd × Hd) × TtableWord))).flatMap eN3) ++ ((([(((B34, c32), (B29, c28)), (TtableWord.mk (r_27 ++ [x3]) r_23))] : List ((Hd × Hd) × TtableWord)).flatMap eN3) ++ (((mput D17 r_25 ((B34, c32), (r_27 ++ [x3]))).flatMap (rowM eN0)) ++ ((D19.flatMap eN3) ++ []))))) : List Ro) from mAr _ (mAr _ (mAl _ h)))) (suba (fun r_ (h : r_ ∈ (((D18 ++ ([(((B34, c32), (B29, c28)), (TtableWord.mk (r_27 ++ [x3]) r_23))] : List ((Hd × Hd) × TtableWord))).flatMap eN3) : List Ro)) => mOd (i := 10) (show r_ ∈ (((((D18 ++ ([(((B34, c32), (B29, c28)), (TtableWord.mk (r_27 ++ [x3]) r_23))] : List ((Hd × Hd) × TtableWord))).flatMap eN3) ++ ((([(((B34, c32), (B29, c28)), (TtableWord.mk (r_27 ++ [x3]) r_23))] : List ((Hd × Hd) × TtableWord)).flatMap eN3) ++ (((mput D17 r_25 ((B34, c32), (r_27 ++ [x3]))).flatMap (rowM eN0)) ++ ((D19.flatMap eN3) ++ []))))) : List Ro) from mAl _ h)) (suba (fun r_ (h : r_ ∈ ((D19.flatMap eN3) : List Ro)) => mOd (i := 10) (show r_ ∈ (((((D18 ++ ([(((B34, c32), (B29, c28)), (TtableWord.mk (r_27 ++ [x3]) r_23))] : List ((Hd × Hd) × TtableWord))).flatMap eN3) ++ ((([(((B34, c32), (B29, c28)), (TtableWord.mk (r_27 ++ [x3]) r_23))] : List ((Hd × Hd) × TtableWord)).flatMap eN3) ++ (((mput D17 r_25 ((B34, c32), (r_27 ++ [x3]))).flatMap (rowM eN0)) ++ ((D19.flatMap eN3) ++ []))))) : List Ro) from mAr _ (mAr _ (mAr _ (mAl _ h))))) (fun _ h => by cases h))))))))))
        exact ⟨(mput words6 r_25 (r_27 ++ [x3])), (next_4 ++ ([(TtableWord.mk (r_27 ++ [x3]) r_23)] : List TtableWord)), (mput D17 r_25 ((B34, c32), (r_27 ++ [x3]))), B35, c33, (D18 ++ ([(((B34, c32), (B29, c28)), (TtableWord.mk (r_27 ++ [x3]) r_23))] : List ((Hd × Hd) × TtableWord))), D19, (sI hF14), (fc (hf10.g 0 0) (fc (hf10.g 4 1) (fc (hf10.g 9 2) (fc rfl (fc (hf10.g 13 4) (fc (hf10.g 45 7) (fc (hf10.g 46 8) (fc (hf10.g 49 9) (fc (hf10.g 50 10) (fc (hf10.g 51 11) (fc (hf10.g 56 12) (fc (hf10.g 57 13) (fc (hf10.g 58 14) fn_))))))))))))), hD26, (dl_app hD21 (show List.map Prod.snd ([(((B34, c32), (B29, c28)), (TtableWord.mk (r_27 ++ [x3]) r_23))] : List ((Hd × Hd) × TtableWord)) = ([(TtableWord.mk (r_27 ++ [x3]) r_23)] : List TtableWord) from rfl)), ho27, hD22, ho21, (hS186.sel [0, 1, 2, 3, 4, 5, 7, 8] rfl rfl)⟩
      rintro f w ⟨words7, next_5, D20, B27, c26, D21, D22, rfl, hf9, hD23, hD24, ho22, hD25, ho23, hS129⟩
      refine cr ?_
      refine sQ 113 (yP (i5 : Int) 1 rfl (hf9.g 58 12)) <| sQ 58 (ym (vi (i64.wrap ((i5 : Int) + 1)))) (rn ?_)
      obtain rfl := sI hF12
      exact ⟨k_11, Nat.lt_succ_self _, i5 + 1, words7, next_5, D20, B27, c26, D21, D22, (fc (hf9.g 0 0) (fc (hf9.g 4 1) (fc (hf9.g 9 2) (fc (hf9.g 11 3) (fc (hf9.g 13 4) (fc (hf9.g 45 5) (fc (hf9.g 46 6) (fc (hf9.g 49 7) (fc (hf9.g 50 8) (fc (hf9.g 51 9) (fc (hf9.g 56 10) (fc (hf9.g 57 11) (fc (congrArg (Value.int .i64) (wr_succ hlt11 hN5)) fn_))))))))))))), hD23, hD24, ho22, hD25, ho23, (hS129.sel [0, 1, 2, 3, 4, 5, 6, 7] rfl rfl), (by omega), hL11⟩
     ·skip
      obtain rfl : K84 = 0 := by have h := of_decide_eq_false hlt10; omega
      refine cw_exit rfl ?_
      obtain rfl := sI hL10
      refine cr ?_
      refine sQ 114 (yP (i4 : Int) 1 rfl (hf8.g 51 9)) <| sQ 51 (ym (vi (i64.wrap ((i4 : Int) + 1)))) (rn ?_)
      obtain rfl := sI hF11
      have hS187 : ST w0 [] _ [⟨aD b15, 46, [.map none, .slice none 0 0], 2⟩, ⟨aD b19, 46, [.map (some g2), .slice B20 sizes1.length c19], 2⟩, ⟨(aD g2), .mp (mpE vStr vSl D17), [], 0⟩, ⟨B20, 3, (sizes1.flatMap encI), c19 * 1⟩, ⟨B26, 75, (D18.flatMap eN5), c25 * 4⟩, ⟨aD b22, 75, [.slice B23 x2.gates.length c22, vi x2.m.Rows, vi x2.m.Cols, .slice B24 x2.m.Cells.length c23], 4⟩, ⟨B21, 75, (D19.flatMap eN5), c20 * 4⟩, ⟨B25, 56, (r_20.flatMap eN0), c24 * 3⟩] (⟨none, ([].flatMap eN0)⟩ :: ⟨B19, (r_16.Cells.flatMap eN1)⟩ :: ⟨aD b17, ([].flatMap eN0)⟩ :: ⟨(aD 1), (gl1.flatMap enc_u64)⟩ :: ((D17.flatMap (rowM eN0)) ++ ((D18.flatMap eN3) ++ ((D19.flatMap eN3) ++ [])))) := ST.subR hS128 (sk 2 (sk 3 (sk 4 (sk 5 (suba (fun r_ (h : r_ ∈ ((D17.flatMap (rowM eN0)) : List Ro)) => mOd (i := 6) (show r_ ∈ ((((D17.flatMap (rowM eN0)) ++ ((D18.flatMap eN3) ++ ((D19.flatMap eN3) ++ [])))) : List Ro) from mAl _ h)) (suba (fun r_ (h : r_ ∈ ((D18.flatMap eN3) : List Ro)) => mOd (i := 6) (show r_ ∈ ((((D17.flatMap (rowM eN0)) ++ ((D18.flatMap eN3) ++ ((D19.flatMap eN3) ++ [])))) : List Ro) from mAr _ (mAl _ h))) (suba (fun r_ (h : r_ ∈ ((D19.flatMap eN3) : List Ro)) => mOd (i := 6) (show r_ ∈ ((((D17.flatMap (rowM eN0)) ++ ((D18.flatMap eN3) ++ ((D19.flatMap eN3) ++ [])))) : List Ro) from mAr _ (mAr _ (mAl _ h)))) (fun _ h => by cases h))))))))
      exact ⟨k_9, Nat.lt_succ_self _, i4 + 1, words6, next_4, D17, B26, c25, D18, D19, (fc (hf8.g 0 0) (fc (hf8.g 4 1) (fc (hf8.g 9 2) (fc (hf8.g 11 3) (fc (hf8.g 45 5) (fc (hf8.g 46 6) (fc (hf8.g 49 7) (fc (hf8.g 50 8) (fc (congrArg (Value.int .i64) (wr_succ hlt9 hN4)) fn_))))))))), hD20, hD21, ho20, hD22, ho21, (hS187.sel [0, 1, 2, 3, 4, 6] rfl rfl), (by omega), hL9⟩
    ·skip
     obtain rfl : K61 = 0 := by have h := of_decide_eq_false hlt8; omega
     refine cw_exit rfl ?_
     obtain rfl := sI hL8
     refine cq (cr ?_)
     refine sQ 115 (ym (.slice B22 next_3.length c21) rfl (hf7.g 11 3)) <| sQ 10 (yg (.slice B22 next_3.length c21)) (rn (cr ?_))
     refine sQ 116 (yd (aD b19) 0 0 K100 K101 rfl (hf7.g 9 2)) <| sQ 117 (yl (aD b19) 1 [.map (some g2), .slice B20 sizes1.length c19] (.slice B20 sizes1.length c19) k_sc_44 (hS121.c 1)) <| sQ 118 (ym (.slice B22 next_3.length c21)) <| sQ 119 (Y_len (B := B22) (m := next_3.length) (c := c21) K57 rfl rfl) ?_
     refine sS 120 (Ys_bslice (s := 1) (len := 1) (vs := [(0, vi (next_3.length : Int))]) (cs := [vi (next_3.length : Int)]) (zs := [vi 0]) (m := 1) hS121 K26 K1 K50 rfl (mpc rfl mpn) rfl rfl rfl (by kernel_rfl) (by kernel_rfl) rfl) ?_
     rintro _ w_129 ⟨b29, rfl, hS188⟩
     obtain ⟨hap5, hF10⟩ := chk_inv hF10
     refine sS 121 (Ys_append (s := 1) (by' := 8) (i := 3) (nn := sizes1.length) (c := c19) (k := 1) (len := (sizes1 ++ [(next_3.length : Int)]).length) (B := B20) (xs := ([(next_3.length : Int)].flatMap encI)) (cs' := ((sizes1 ++ [(next_3.length : Int)]).flatMap encI)) hS188 K26 K1 k_by_3_8 k_zero_3 rfl (by decide) rfl rfl rfl rfl (fm_lenn (l := sizes1) encI_len rfl) rfl (hS188.c 6) (fm_lenn (l := [(next_3.length : Int)]) encI_len rfl) (fm_one' (enc := encI) encI_one [(next_3.length : Int)]) (by have := hap5; omega) (by have := hap5; simp only [maxLen]; omega) (fm_app _ _) (app_len (l := sizes1) (l' := [(next_3.length : Int)]) rfl rfl)) ?_
     rintro _ w_130 ⟨B36, c34, rfl, hS189⟩
     refine sQ 122 (yd (aD b19) 0 0 K100 K101 rfl (hf7.g 9 2)) ?_
     refine s0 (yS 1 1 (aD b19) 46 (.slice B36 ((sizes1 ++ [(next_3.length : Int)]).length) c34) [.slice B36 ((sizes1 ++ [(next_3.length : Int)]).length) c34] 1 [.map (some g2), .slice B36 ((sizes1 ++ [(next_3.length : Int)]).length) c34] hS189 K101) ?_
     rintro _ w_131 ⟨rfl, hS190⟩
     have hS190 : ST w0 [] _ [⟨aD b15, 46, [.map none, .slice none 0 0], 2⟩, ⟨aD b19, 46, [.map (some g2), .slice B36 ((sizes1 ++ [(next_3.length : Int)]).length) c34], 2⟩, ⟨(aD g2), .mp (mpE vStr vSl D14), [], 0⟩, ⟨B36, 3, ((sizes1 ++ [(next_3.length : Int)]).flatMap encI), c34 * 1⟩, ⟨B22, 75, (D15.flatMap eN5), c21 * 4⟩, ⟨B21, 75, (D16.flatMap eN5), c20 * 4⟩, ⟨aD b29, 3, ([(next_3.length : Int)].flatMap encI), 1 * 1⟩] (⟨none, ([].flatMap eN0)⟩ :: ⟨B19, (r_16.Cells.flatMap eN1)⟩ :: ⟨aD b17, ([].flatMap eN0)⟩ :: ⟨(aD 1), (gl1.flatMap enc_u64)⟩ :: ((D14.flatMap (rowM eN0)) ++ ((D15.flatMap eN3) ++ ((D16.flatMap eN3) ++ [])))) := hS190
     refine rn (cr ?_)
     refine sQ 123 (yP (i3 : Int) 1 rfl (hf7.g 46 5)) <| sQ 46 (ym (vi (i64.wrap ((i3 : Int) + 1)))) (rn ?_)
     obtain rfl := sI hF10
     have hS191 : ST w0 [] _ [⟨aD b15, 46, [.map none, .slice none 0 0], 2⟩, ⟨aD b19, 46, [.map (some g2), .slice B36 ((sizes1 ++ [(next_3.length : Int)]).length) c34], 2⟩, ⟨(aD g2), .mp (mpE vStr vSl D14), [], 0⟩, ⟨B36, 3, ((sizes1 ++ [(next_3.length : Int)]).flatMap encI), c34 * 1⟩, ⟨B22, 75, (D15.flatMap eN5), c21 * 4⟩, ⟨B21, 75, (D16.flatMap eN5), c20 * 4⟩, ⟨aD b29, 3, ([(next_3.length : Int)].flatMap encI), 1 * 1⟩] (⟨none, ([].flatMap eN0)⟩ :: ⟨B19, (r_16.Cells.flatMap eN1)⟩ :: ⟨aD b17, ([].flatMap eN0)⟩ :: ⟨(aD 1), (gl1.flatMap enc_u64)⟩ :: ((D14.flatMap (rowM eN0)) ++ ((D15.flatMap eN3) ++ []))) := ST.subR hS190 (sk 0 (sk 1 (sk 2 (sk 3 (suba (fun r_ (h : r_ ∈ ((D14.flatMap (rowM eN0)) : List Ro)) => mOd (i := 4) (show r_ ∈ ((((D14.flatMap (rowM eN0)) ++ ((D15.flatMap eN3) ++ ((D16.flatMap eN3) ++ [])))) : List Ro) from mAl _ h)) (suba (fun r_ (h : r_ ∈ ((D15.flatMap eN3) : List Ro)) => mOd (i := 4) (show r_ ∈ ((((D14.flatMap (rowM eN0)) ++ ((D15.flatMap eN3) ++ ((D16.flatMap eN3) ++ [])))) : List Ro) from mAr _ (mAl _ h))) (fun _ h => by cases h)))))))
     exact ⟨K60, Nat.lt_succ_self _, i3 + 1, words5, (sizes1 ++ [(next_3.length : Int)]), next_3, D14, B36, c34, B22, c21, D15, (fc (hf7.g 0 0) (fc (hf7.g 4 1) (fc (hf7.g 9 2) (fc rfl (fc (hf7.g 45 4) (fc (congrArg (Value.int .i64) (wr_succ hlt7 hN3)) fn_)))))), hD17, hD18, ho18, (hS191.sel [0, 1, 2, 3, 4] rfl rfl), (by omega), hL7⟩
   ·skip
    obtain rfl : K51 = 0 := by have h := of_decide_eq_false hlt6; omega
    refine cw_exit rfl ?_
    obtain rfl := sI hL6
    refine cq (cr ?_)
    refine sQ 124 (yb (aD b19) 0 [.map (some g2), .slice B20 sizes1.length c19] k_ag_46 K83 (hS117.c 1) rfl (hf6.g 9 2)) ?_
    refine s0 (yT 0 2 (aD b15) 46 (.agg #[.map (some g2), .slice B20 sizes1.length c19]) [.map (some g2), .slice B20 sizes1.length c19] 0 hS117 K83 rfl (hf6.g 4 1)) ?_
    rintro _ w_132 ⟨rfl, hS192⟩
    refine rn (ct_ ?_)
    have hS193 : ST w0 [] _ [⟨aD b15, 46, [.map (some g2), .slice B20 sizes1.length c19], 2⟩, ⟨aD b19, 46, [.map (some g2), .slice B20 sizes1.length c19], 2⟩, ⟨(aD g2), .mp (mpE vStr vSl D12), [], 0⟩, ⟨B20, 3, (sizes1.flatMap encI), c19 * 1⟩, ⟨B21, 75, (D13.flatMap eN5), c20 * 4⟩] (⟨(aD 1), (gl1.flatMap enc_u64)⟩ :: ((D12.flatMap (rowM eN0)) ++ [])) := ST.subR hS192 (sk 3 (suba (fun r_ (h : r_ ∈ ((D12.flatMap (rowM eN0)) : List Ro)) => mOd (i := 4) (show r_ ∈ ((((D12.flatMap (rowM eN0)) ++ ((D13.flatMap eN3) ++ []))) : List Ro) from mAl _ h)) (fun _ h => by cases h)))
    obtain ⟨rfl, rfl⟩ := pr2 (sI hF9)
    exact ret1 Tryz.results21 (v1 := .agg #[.map (some g2), .slice B20 sizes1.length c19]) (resAt_cellA (B := aD b15) (i := 0) (cs := [.map (some g2), .slice B20 sizes1.length c19]) (vs := [.map (some g2), .slice B20 sizes1.length c19]) (hf6.g 4 1) k_ag_46 K83 (hS193.c 0) rfl rfl) ⟨g2, D12, B20, c19, rfl, hD15, (hS193.sel [2, 3] rfl rfl)⟩
  rintro _ w_67 ⟨g, D, B, c, rfl, hD, hd12⟩
  have hd12 : ST w0 [] _ [⟨(aD g), .mp (mpE vStr vSl D), [], 0⟩, ⟨B, 3, (t1.flatMap encI), c * 1⟩] (⟨(aD 1), (gl1.flatMap enc_u64)⟩ :: ((D.flatMap (rowM eN0)) ++ [])) := hd12
  refine sQ 25 (Y_field1 (v := .slice B t1.length c) K100 k_sc_44 rfl rfl rfl) <| sQ 26 (ym (vi length)) ?_
  obtain ⟨x4, hx4, hF2⟩ := bI hF2
  refine sQ 27 (Y_index (B := B) (m := t1.length) (c := c) (k := .i64) (i := length) K26 K1 rfl rfl rfl (gi_isSome encI_len rfl (hd12.cf (i := 1) rfl) hx4) (getI_nn hx4) (getI_ltI hx4 rfl)) <| sQ 28 (yl B (length.toNat * 1) (t1.flatMap encI) (vi x4) K0 (hd12.cf (i := 1) rfl) rfl rfl (gi_at0 encI_len hx4 rfl)) <| sQ 4 (yg (vi x4)) <| sQ 5 (yg (.bool true)) (rn (ct_ ?_))
  obtain ⟨rfl, rfl⟩ := pr2 (sI hF2)
  exact ret2 Tryz.results12 (v1 := vi x4) (resAt_tmp rfl) (v2 := .bool true) (resAt_tmp rfl) ⟨rfl, (ST.subR (R' := []) (hd12.sel [] rfl rfl) (fun _ h => by cases h))⟩

theorem c_laws_FnExactTableSize (aN : Int) (aLength : Int)  (w0 : World) (ht1 : Go.Lib.TabIs Tryz.prog w0 "internal/strconv.uint64pow10" .u64 Go.Lib.pow10Tab) (hS : ST w0 [] w0 [] [⟨(aD 1), (gl1.flatMap enc_u64)⟩]) {r_ : Bool} (hF : F_laws_FnExactTableSize aN aLength = some r_) :
  CV Tryz.prog 4 #[vi aN, vi aLength] w0 (fun v w' => v = .bool r_ ∧ ST w0 [] w' [] []) := by
 have hgm1 : 1 ∉ [] := List.not_mem_nil
 unfold F_laws_FnExactTableSize at hF
 refine cv_of_cw 29 Tryz.func4 rfl Tryz.ntmps4 rfl ?_
 refine cq (cr ?_)
 refine sQ 4 (yg (.bool false)) (rn (cq (cr ?_)))
 refine sQ 10 (ym (vi aN)) <| sQ 11 (ym (vi aLength)) ?_
 obtain ⟨⟨r_1, r_2⟩, hc, hF⟩ := bI hF
 refine sc 12 rfl rfl (yC [vi aN, vi aLength] k_call_11 (c_spec_TableSize aN aLength _  (hS.inn0 [] rfl) hc)) ?_
 rintro _ w_ ⟨rfl, hd⟩
 have hS1 := hS.out00 hd
 refine sQ 9 (ym (.tuple #[vi r_1, .bool r_2])) <| sQ 13 (ye (vi r_1)) <| sQ 14 (ye (.bool r_2)) <| sQ 5 (yg (vi r_1)) <| sQ 6 (yg (.bool r_2)) (rn (cq (cr ?_)))
 refine sQ 16 (ym (vi aN)) <| sQ 17 (ym (vi aLength)) ?_
 obtain ⟨⟨r_3, r_4⟩, hc1, hF⟩ := bI hF
 refine sc 18 rfl rfl (yC [vi aN, vi aLength] k_call_12 (c_impl_TableSize aN aLength _ (tab_keep hS1 ht1 (by kernel_rfl) hgm1) (hS1.inn0 [(true, 0)] rfl) hc1)) ?_
 rintro _ w_1 ⟨rfl, hd1⟩
 have hS2 := hS1.out00 hd1
 refine sQ 15 (ym (.tuple #[vi r_3, .bool r_4])) <| sQ 19 (ye (vi r_3)) <| sQ 20 (ye (.bool r_4)) <| sQ 7 (yg (vi r_3)) <| sQ 8 (yg (.bool r_4)) (rn (cq (cq (cr ?_))))
 refine sQ 21 (ym (vi r_3)) <| sQ 22 (ym (vi r_1)) <| sQ 23 (Y_ne (k := .i64) (a := r_3) (b := r_1) rfl rfl rfl) <| sQ 24 (ym (.bool (r_3 != r_1))) ?_
 refine sgq 25 (B := (!(r_3 != r_1))) (v := .bool r_4) rfl rfl (uF_ 24) (fun hg => (ym (.bool r_4))) ?_
 refine sgq 26 (B := (!(r_3 != r_1))) (v := .bool r_2) rfl rfl (uF_ 24) (fun hg1 => (ym (.bool r_2))) ?_
 refine sgq 27 (B := (!(r_3 != r_1))) (v := .bool (!(r_4 == r_2))) rfl rfl (uF_ 24) (fun hg2 => (Y_bne (p := r_4) (q := r_2) k_und_4 rfl (gv_of (v := .bool r_4) hg2) (gv_of (v := .bool r_2) hg2))) ?_
 refine sQ 28 (Y_or (b := (r_3 != r_1)) (z := (!(r_4 == r_2))) rfl rfl rfl rfl) (rn ?_)
 refine cw_cond (b := ((r_3 != r_1) || (!(r_4 == r_2)))) rfl (fun hb => ?_) (fun hb => ?_)
 ·skip
  have hF1 := ct hF hb
  refine cq (cr ?_)
  refine sQ 4 (yg (.bool false)) (rn (ct_ ?_))
  obtain rfl := sI hF1
  exact ret1 Tryz.results4 (v1 := .bool false) (resAt_tmp rfl) ⟨rfl, (hS2.sN [])⟩
 ·skip
  have hF2 := cf' hF hb
  refine cw_skip (cq (cr ?_))
  refine sQ 4 (yg (.bool true)) (rn (ct_ ?_))
  obtain rfl := sI hF2
  exact ret1 Tryz.results4 (v1 := .bool true) (resAt_tmp rfl) ⟨rfl, (hS2.sN [])⟩
end Go.VK
