/- Walks: each Go function returns what its Lean function says. By program. -/
import Derived.Test.YthmigddkloimaaaGreatDoorLOneFormFa
import Derived.Test.YthmigddkloimaaaGreatDoorLOneFormW1
set_option linter.unusedVariables false
set_option maxRecDepth 100000
set_option maxHeartbeats 4000000
namespace Go.VK
open Go.RowKit
open Go.Proofs
open Go.IntKind
attribute [local irreducible] CW RW RA CV Y Yw Yc Ys RetOf
attribute [local irreducible] F_impl_within F_impl_IsValidForm F_impl_matrixOf F_impl_whole F_impl_IdentityMatrix F_impl_phase F_impl_small F_impl_GateMatrix F_impl_IsValidDyadic F_impl_IsValidMatrix F_impl_MulDyadic F_impl_Matrix_at F_impl_AddDyadic F_impl_MulMatrix F_impl_OperatorOf F_impl_mulBloch F_impl_Adjoint F_slices_Equal_impl_Dyadic_impl_Dyadic F_impl_EqualMatrices F_impl_IsUnitary F_impl_IsOneQubit F_impl_TraceOf F_impl_blochCell F_impl_BlochOf F_impl_blochGate F_slices_IndexFunc_SSimpl_Dyadic_impl_Dyadic F_slices_ContainsFunc_SSimpl_Dyadic_impl_Dyadic F_impl_cliffordList_1 F_impl_cliffordList F_impl_CliffordWord F_impl_wordGates F_impl_syllableGates F_impl_formGates F_impl_ScaleMatrix_1 F_impl_ScaleMatrix F_impl_MatrixOfForm F_spec_l1In F_spec_l10Valid F_spec_l1All F_spec_l1Good F_spec_l2C_ring F_spec_l1Root F_spec_l1Even F_spec_l1Half F_spec_l2Low F_spec_l1Add
theorem c_impl_IsUnitary (m : TMatrix) (B : Option Addr) (c n : Nat) (w0 : World) (hn : m.Cells.length = n) (hS : ST w0 [] w0 [] [⟨B, (m.Cells.flatMap eN0)⟩]) {r_ : Bool} {r_1 : Bool} (hF : F_impl_IsUnitary m = some (r_, r_1)) :
  CV Tryz.prog 76 #[.agg #[vi m.Rows, vi m.Cols, .slice B n c]] w0 (fun v w' => v = .tuple #[.bool r_, .bool r_1] ∧ ST w0 [] w' [] []) := by
 subst hn
 unfold F_impl_IsUnitary at hF
 refine cv_of_cw 44 Tryz.func76 rfl Tryz.ntmps76 rfl ?_
 refine cq (cr ?_)
 refine sS 1 (yB 26 (gM_ m B c) (kM_ m B c) 3 hS) ?_
 rintro _ w_ ⟨b, rfl, hS1⟩
 refine sQ 2 (yg (.bool false)) <| sQ 3 (yg (.bool false)) (rn (cq (cq (cr ?_))))
 refine sQ 10 (yb (aD b) 0 (kM_ m B c) K8 K3 (hS1.c 0)) ?_
 obtain ⟨r_2, hc, hF⟩ := bI hF
 refine sc 11 rfl rfl (yC [gM_ m B c] K67 (c_impl_IsValidMatrix m B c m.Cells.length _ rfl (hS1.inn0 [(true, 0)] rfl) hc)) ?_
 rintro _ w_1 ⟨rfl, hd⟩
 have hS2 := hS1.out00 hd
 refine sQ 12 (Y_not (p := r_2) rfl rfl) <| sQ 13 (ym (.bool (!r_2))) ?_
 refine sgq 14 (B := (!(!r_2))) (v := pt (aD b) 0) rfl rfl (uF_ 13) (fun hg => (yd (aD b) 0 0 K43 K2)) ?_
 refine sgq 15 (B := (!(!r_2))) (v := vi m.Rows) rfl rfl (uF_ 13) (fun hg1 => (yl (aD b) 0 (kM_ m B c) (vi m.Rows) K0 (hS2.c 0) rfl (gv_of (v := pt (aD b) 0) hg1))) ?_
 refine sgq 16 (B := (!(!r_2))) (v := pt (aD b) 1) rfl rfl (uF_ 13) (fun hg2 => (yd (aD b) 0 0 K34 K2)) ?_
 refine sgq 17 (B := (!(!r_2))) (v := vi m.Cols) rfl rfl (uF_ 13) (fun hg3 => (yl (aD b) 1 (kM_ m B c) (vi m.Cols) K0 (hS2.c 0) rfl (gv_of (v := pt (aD b) 1) hg3))) ?_
 refine sgq 18 (B := (!(!r_2))) (v := .bool (m.Rows != m.Cols)) rfl rfl (uF_ 13) (fun hg4 => (Y_ne (k := .i64) (a := m.Rows) (b := m.Cols) rfl (gv_of (v := vi m.Rows) hg4) (gv_of (v := vi m.Cols) hg4))) ?_
 refine sQ 19 (Y_or (b := (!r_2)) (z := (m.Rows != m.Cols)) rfl rfl rfl rfl) (rn ?_)
 refine cw_cond (b := ((!r_2) || (m.Rows != m.Cols))) rfl (fun hb => ?_) (fun hb => ?_)
 ·skip
  have hF1 := ct hF hb
  refine cq (cr ?_)
  refine sQ 2 (yg (.bool false)) <| sQ 3 (yg (.bool false)) (rn (ct_ ?_))
  obtain ⟨rfl, rfl⟩ := pr2 (sI hF1)
  exact ret2 Tryz.results76 (v1 := .bool false) (resAt_tmp rfl) (v2 := .bool false) (resAt_tmp rfl) ⟨rfl, (hS2.sN [])⟩
 ·skip
  have hF2 := cf' hF hb
  refine cw_skip (cq (cr ?_))
  refine sQ 21 (yb (aD b) 0 (kM_ m B c) K8 K3 (hS2.c 0)) ?_
  obtain ⟨⟨r_3, r_4⟩, hc1, hF2⟩ := bI hF2
  refine sc 22 rfl rfl (yC [gM_ m B c] k_call_46 (c_impl_Adjoint m B c m.Cells.length _ rfl (hS2.inn0 [(true, 0)] rfl) hc1)) ?_
  rintro _ w_2 ⟨B1, c1, rfl, hd1⟩
  have hS3 := hS2.out0 hd1
  refine sQ 20 (ym (.tuple #[gM_ r_3 B1 c1, .bool r_4])) <| sQ 23 (ye (gM_ r_3 B1 c1)) <| sQ 24 (ye (.bool r_4)) ?_
  refine sS 4 (yN kN_ 3 hS3 K12) ?_
  rintro _ w_3 ⟨b1, rfl, hS4⟩
  refine s0 (yT 2 3 (aD b1) 26 (gM_ r_3 B1 c1) (kM_ r_3 B1 c1) 0 hS4 K3) ?_
  rintro _ w_4 ⟨rfl, hS5⟩
  refine sQ 5 (yg (.bool r_4)) (rn (cq (cr ?_)))
  refine sQ 26 (yb (aD b) 0 (kM_ m B c) K8 K3 (hS5.c 0)) <| sQ 27 (yb (aD b1) 0 (kM_ r_3 B1 c1) K8 K3 (hS5.c 2)) ?_
  obtain ⟨⟨r_5, r_6⟩, hc2, hF2⟩ := bI hF2
  refine sc 28 rfl rfl (yC [gM_ m B c, gM_ r_3 B1 c1] K99 (c_impl_MulMatrix m r_3 B c m.Cells.length B1 c1 r_3.Cells.length _ rfl rfl (hS5.inn0 [(true, 0), (false, 1)] rfl) hc2)) ?_
  rintro _ w_5 ⟨B2, c2, rfl, hd2⟩
  have hS6 := hS5.out0 hd2
  refine sQ 25 (ym (.tuple #[gM_ r_5 B2 c2, .bool r_6])) <| sQ 29 (ye (gM_ r_5 B2 c2)) <| sQ 30 (ye (.bool r_6)) ?_
  refine sS 6 (yN kN_ 3 hS6 K12) ?_
  rintro _ w_6 ⟨b2, rfl, hS7⟩
  refine s0 (yT 4 3 (aD b2) 26 (gM_ r_5 B2 c2) (kM_ r_5 B2 c2) 0 hS7 K3) ?_
  rintro _ w_7 ⟨rfl, hS8⟩
  refine sQ 7 (yg (.bool r_6)) (rn (cq (cr ?_)))
  refine sQ 32 (yd (aD b) 0 0 K43 K2) <| sQ 33 (yl (aD b) 0 (kM_ m B c) (vi m.Rows) K0 (hS8.c 0)) ?_
  obtain ⟨⟨r_7, r_8⟩, hc3, hF2⟩ := bI hF2
  refine sc 34 rfl rfl (yC [vi m.Rows] k_call_29 (c_impl_IdentityMatrix m.Rows _  (hS8.inn0 [] rfl) hc3)) ?_
  rintro _ w_8 ⟨B3, c3, rfl, hd3⟩
  have hS9 := hS8.out0 hd3
  refine sQ 31 (ym (.tuple #[gM_ r_7 B3 c3, .bool r_8])) <| sQ 35 (ye (gM_ r_7 B3 c3)) <| sQ 36 (ye (.bool r_8)) ?_
  refine sS 8 (yN kN_ 3 hS9 K12) ?_
  rintro _ w_9 ⟨b3, rfl, hS10⟩
  refine s0 (yT 6 3 (aD b3) 26 (gM_ r_7 B3 c3) (kM_ r_7 B3 c3) 0 hS10 K3) ?_
  rintro _ w_10 ⟨rfl, hS11⟩
  refine sQ 9 (yg (.bool r_8)) (rn (cq (cr ?_)))
  refine sQ 37 (ym (.bool r_6)) <| sQ 38 (ym (.bool r_6)) ?_
  refine sgq 39 (B := r_6) (v := gM_ r_5 B2 c2) rfl rfl (uT_ 38) (fun hg5 => (yb (aD b2) 0 (kM_ r_5 B2 c2) K8 K3 (hS11.c 4))) ?_
  refine sgq 40 (B := r_6) (v := gM_ r_7 B3 c3) rfl rfl (uT_ 38) (fun hg6 => (yb (aD b3) 0 (kM_ r_7 B3 c3) K8 K3 (hS11.c 6))) ?_
  obtain ⟨r_9, hc4, hF2⟩ := bI hF2
  refine sgc 41 (B := r_6) (v := .bool r_9) (F := hS11.fn) rfl rfl (uT_ 38) hS11 (fun hg7 => (yC [gM_ r_5 B2 c2, gM_ r_7 B3 c3] k_call_54 (CV.mono (c_impl_EqualMatrices r_5 r_7 B2 c2 r_5.Cells.length B3 c3 r_7.Cells.length _ rfl rfl (hS11.inn0 [(false, 3), (false, 5)] rfl) (gb_inv hc4 hg7)) (by rintro _ _ ⟨rfl, h⟩; exact ⟨rfl, hS11.out00 h⟩)) rfl (mc (gv_of (v := gM_ r_5 B2 c2) hg7) (mc (gv_of (v := gM_ r_7 B3 c3) hg7) mn)))) ?_
  rintro w_11 hS12
  refine sQ 42 (Y_and (b := r_6) (z := r_9) rfl rfl rfl rfl) <| sQ 43 (ym (.bool r_6)) <| sQ 2 (yg (.bool (r_6 && r_9))) <| sQ 3 (yg (.bool r_6)) (rn (ct_ ?_))
  obtain ⟨rfl, rfl⟩ := pr2 (sI hF2)
  exact ret2 Tryz.results76 (v1 := .bool (r_6 && r_9)) (resAt_tmp rfl) (v2 := .bool r_6) (resAt_tmp rfl) ⟨rfl, (hS12.sN [])⟩

theorem c_impl_IsOneQubit (m : TMatrix) (B : Option Addr) (c n : Nat) (w0 : World) (hn : m.Cells.length = n) (hS : ST w0 [] w0 [] [⟨B, (m.Cells.flatMap eN0)⟩]) {r_ : Bool} (hF : F_impl_IsOneQubit m = some r_) :
  CV Tryz.prog 45 #[.agg #[vi m.Rows, vi m.Cols, .slice B n c]] w0 (fun v w' => v = .bool r_ ∧ ST w0 [] w' [] []) := by
 subst hn
 unfold F_impl_IsOneQubit at hF
 refine cv_of_cw 27 Tryz.func45 rfl Tryz.ntmps45 rfl ?_
 refine cq (cr ?_)
 refine sS 1 (yB 26 (gM_ m B c) (kM_ m B c) 3 hS) ?_
 rintro _ w_ ⟨b, rfl, hS1⟩
 refine sQ 2 (yg (.bool false)) (rn (cq (cq (cr ?_))))
 refine sQ 5 (yb (aD b) 0 (kM_ m B c) K8 K3 (hS1.c 0)) ?_
 obtain ⟨r_1, hc, hF⟩ := bI hF
 refine sc 6 rfl rfl (yC [gM_ m B c] K67 (c_impl_IsValidMatrix m B c m.Cells.length _ rfl (hS1.inn0 [(true, 0)] rfl) hc)) ?_
 rintro _ w_1 ⟨rfl, hd⟩
 have hS2 := hS1.out00 hd
 refine sQ 7 (Y_not (p := r_1) rfl rfl) <| sQ 8 (ym (.bool (!r_1))) ?_
 refine sgq 9 (B := (!(!r_1))) (v := pt (aD b) 0) rfl rfl (uF_ 8) (fun hg => (yd (aD b) 0 0 K43 K2)) ?_
 refine sgq 10 (B := (!(!r_1))) (v := vi m.Rows) rfl rfl (uF_ 8) (fun hg1 => (yl (aD b) 0 (kM_ m B c) (vi m.Rows) K0 (hS2.c 0) rfl (gv_of (v := pt (aD b) 0) hg1))) ?_
 refine sgq 11 (B := (!(!r_1))) (v := .bool (m.Rows != 2)) rfl rfl (uF_ 8) (fun hg2 => (Y_ne (k := .i64) (a := m.Rows) (b := 2) rfl (gv_of (v := vi m.Rows) hg2) rfl)) ?_
 refine sQ 12 (Y_or (b := (!r_1)) (z := (m.Rows != 2)) rfl rfl rfl rfl) <| sQ 13 (ym (.bool ((!r_1) || (m.Rows != 2)))) ?_
 refine sgq 14 (B := (!((!r_1) || (m.Rows != 2)))) (v := pt (aD b) 1) rfl rfl (uF_ 13) (fun hg3 => (yd (aD b) 0 0 K34 K2)) ?_
 refine sgq 15 (B := (!((!r_1) || (m.Rows != 2)))) (v := vi m.Cols) rfl rfl (uF_ 13) (fun hg4 => (yl (aD b) 1 (kM_ m B c) (vi m.Cols) K0 (hS2.c 0) rfl (gv_of (v := pt (aD b) 1) hg4))) ?_
 refine sgq 16 (B := (!((!r_1) || (m.Rows != 2)))) (v := .bool (m.Cols != 2)) rfl rfl (uF_ 13) (fun hg5 => (Y_ne (k := .i64) (a := m.Cols) (b := 2) rfl (gv_of (v := vi m.Cols) hg5) rfl)) ?_
 refine sQ 17 (Y_or (b := ((!r_1) || (m.Rows != 2))) (z := (m.Cols != 2)) rfl rfl rfl rfl) (rn ?_)
 refine cw_cond (b := (((!r_1) || (m.Rows != 2)) || (m.Cols != 2))) rfl (fun hb => ?_) (fun hb => ?_)
 ·skip
  have hF1 := ct hF hb
  refine cq (cr ?_)
  refine sQ 2 (yg (.bool false)) (rn (ct_ ?_))
  obtain rfl := sI hF1
  exact ret1 Tryz.results45 (v1 := .bool false) (resAt_tmp rfl) ⟨rfl, (hS2.sN [])⟩
 ·skip
  have hF2 := cf' hF hb
  refine cw_skip (cq (cr ?_))
  refine sQ 19 (yb (aD b) 0 (kM_ m B c) K8 K3 (hS2.c 0)) ?_
  obtain ⟨⟨r_2, r_3⟩, hc1, hF2⟩ := bI hF2
  refine sc 20 rfl rfl (yC [gM_ m B c] k_call_76 (c_impl_IsUnitary m B c m.Cells.length _ rfl (hS2.inn0 [(true, 0)] rfl) hc1)) ?_
  rintro _ w_2 ⟨rfl, hd1⟩
  have hS3 := hS2.out00 hd1
  refine sQ 18 (ym (.tuple #[.bool r_2, .bool r_3])) <| sQ 21 (ye (.bool r_2)) <| sQ 22 (ye (.bool r_3)) <| sQ 3 (yg (.bool r_2)) <| sQ 4 (yg (.bool r_3)) (rn (cq (cr ?_)))
  refine sQ 23 (ym (.bool r_3)) <| sQ 24 (ym (.bool r_3)) ?_
  refine sgq 25 (B := r_3) (v := .bool r_2) rfl rfl (uT_ 24) (fun hg6 => (ym (.bool r_2))) ?_
  refine sQ 26 (Y_and (b := r_3) (z := r_2) rfl rfl rfl rfl) <| sQ 2 (yg (.bool (r_3 && r_2))) (rn (ct_ ?_))
  obtain rfl := sI hF2
  exact ret1 Tryz.results45 (v1 := .bool (r_3 && r_2)) (resAt_tmp rfl) ⟨rfl, (hS3.sN [])⟩

theorem c_impl_TraceOf (m : TMatrix) (B : Option Addr) (c n : Nat) (w0 : World) (hn : m.Cells.length = n) (hS : ST w0 [] w0 [] [⟨B, (m.Cells.flatMap eN0)⟩]) {r_ : TDyadic} {r_1 : Bool} (hF : F_impl_TraceOf m = some (r_, r_1)) :
  CV Tryz.prog 79 #[.agg #[vi m.Rows, vi m.Cols, .slice B n c]] w0 (fun v w' => v = .tuple #[gD_ r_, .bool r_1] ∧ ST w0 [] w' [] []) := by
 subst hn
 unfold F_impl_TraceOf at hF
 refine cv_of_cw 39 Tryz.func79 rfl Tryz.ntmps79 rfl ?_
 refine cq (cr ?_)
 refine sS 1 (yB 26 (gM_ m B c) (kM_ m B c) 3 hS) ?_
 rintro _ w_ ⟨b, rfl, hS1⟩
 refine sS 2 (yN kZ_ 5 hS1 K6) ?_
 rintro _ w_1 ⟨b1, rfl, hS2⟩
 refine sQ 3 (yg (.bool false)) (rn (cq (cq (cr ?_))))
 refine sQ 7 (yb (aD b) 0 (kM_ m B c) K8 K3 (hS2.c 0)) ?_
 obtain ⟨r_2, hc, hF⟩ := bI hF
 refine sc 8 rfl rfl (yC [gM_ m B c] K67 (c_impl_IsValidMatrix m B c m.Cells.length _ rfl (hS2.inn0 [(true, 0)] rfl) hc)) ?_
 rintro _ w_2 ⟨rfl, hd⟩
 have hS3 := hS2.out00 hd
 refine sQ 9 (Y_not (p := r_2) rfl rfl) <| sQ 10 (ym (.bool (!r_2))) ?_
 refine sgq 11 (B := (!(!r_2))) (v := pt (aD b) 0) rfl rfl (uF_ 10) (fun hg => (yd (aD b) 0 0 K43 K2)) ?_
 refine sgq 12 (B := (!(!r_2))) (v := vi m.Rows) rfl rfl (uF_ 10) (fun hg1 => (yl (aD b) 0 (kM_ m B c) (vi m.Rows) K0 (hS3.c 0) rfl (gv_of (v := pt (aD b) 0) hg1))) ?_
 refine sgq 13 (B := (!(!r_2))) (v := pt (aD b) 1) rfl rfl (uF_ 10) (fun hg2 => (yd (aD b) 0 0 K34 K2)) ?_
 refine sgq 14 (B := (!(!r_2))) (v := vi m.Cols) rfl rfl (uF_ 10) (fun hg3 => (yl (aD b) 1 (kM_ m B c) (vi m.Cols) K0 (hS3.c 0) rfl (gv_of (v := pt (aD b) 1) hg3))) ?_
 refine sgq 15 (B := (!(!r_2))) (v := .bool (m.Rows != m.Cols)) rfl rfl (uF_ 10) (fun hg4 => (Y_ne (k := .i64) (a := m.Rows) (b := m.Cols) rfl (gv_of (v := vi m.Rows) hg4) (gv_of (v := vi m.Cols) hg4))) ?_
 refine sQ 16 (Y_or (b := (!r_2)) (z := (m.Rows != m.Cols)) rfl rfl rfl rfl) (rn ?_)
 refine cw_cond (b := ((!r_2) || (m.Rows != m.Cols))) rfl (fun hb => ?_) (fun hb => ?_)
 ·skip
  have hF1 := ct hF hb
  refine cq (cr ?_)
  refine sQ 17 (Y_buildS (zs := kZ_) (vs := []) (cs := kZ_) K18 K6 rfl mpn rfl) ?_
  refine s0 (yT 1 5 (aD b1) 48 gZ_ kZ_ 0 hS3 K1) ?_
  rintro _ w_3 ⟨rfl, hS4⟩
  refine sQ 3 (yg (.bool false)) (rn (ct_ ?_))
  obtain ⟨rfl, rfl⟩ := pr2 (sI hF1)
  exact ret2 Tryz.results79 (v1 := gZ_) (resAt_cellA (B := aD b1) (i := 0) (cs := kZ_) (vs := kZ_) rfl K4 K1 (hS4.c 1) rfl rfl) (v2 := .bool false) (resAt_tmp rfl) ⟨rfl, (hS4.sN [])⟩
 ·skip
  have hF2 := cf' hF hb
  refine cw_skip (cq (cr ?_))
  refine sQ 18 (Y_buildS (zs := kZ_) (vs := []) (cs := kZ_) K18 K6 rfl mpn rfl) ?_
  refine sS 4 (yN kZ_ 5 hS3 K6) ?_
  rintro _ w_4 ⟨b2, rfl, hS5⟩
  refine s0 (yT 2 5 (aD b2) 48 gZ_ kZ_ 0 hS5 K1) ?_
  rintro _ w_5 ⟨rfl, hS6⟩
  refine sQ 5 (yg (.bool true)) (rn (cq (cq (cr ?_))))
  refine sQ 6 (yg (vi 0)) (rn ?_)
  obtain ⟨z, hz, hF3⟩ := bI hF2
  refine cw_block ?_
  refine cw_loop (fun k f w => ∃ (A : Int) (B1 : Int) (C : Int) (D : Int) (Exp : Int) (ok : Bool) (i : Int), FF f [(1, pt (aD b) 0), (2, pt (aD b1) 0), (4, pt (aD b2) 0), (5, .bool ok), (6, vi i)] ∧ ST w0 [] w [⟨aD b, 26, kM_ m B c, 3⟩, ⟨aD b1, 48, kZ_, 5⟩, ⟨aD b2, 48, [vi A, vi B1, vi C, vi D, vi Exp], 5⟩] [⟨B, (m.Cells.flatMap eN0)⟩] ∧ whX (F_impl_TraceOf_l1 m) k (A, B1, C, D, Exp, ok, i) = some z) fuel ⟨0, 0, 0, 0, 0, true, 0, (fc rfl (fc rfl (fc rfl (fc rfl (fc rfl fn_))))), (hS6.sel [0, 1, 2] rfl rfl), hz⟩ ?_
  rintro k_ f w ⟨A, B1, C, D, Exp, ok, i, hf, hS7, hL⟩
  obtain ⟨K7, y, rfl, hb1, hL1⟩ := whX_go hL
  unfold F_impl_TraceOf_l1 at hb1
  refine cq (cq (cr ?_))
  refine sQ 19 (ym (vi i) rfl (hf.g 6 4)) <| sQ 20 (yd (aD b) 0 0 K43 K2 rfl (hf.g 1 0)) <| sQ 21 (yl (aD b) 0 (kM_ m B c) (vi m.Rows) K0 (hS7.c 0)) <| sQ 22 (yL i m.Rows) <| sQ 23 (ym (.bool (decide (i < m.Rows)))) ?_
  refine sgq 24 (B := (decide (i < m.Rows))) (v := .bool ok) rfl rfl (uT_ 23) (fun hg5 => (ym (.bool ok) rfl (hf.g 5 3))) ?_
  refine sQ 25 (Y_and (b := (decide (i < m.Rows))) (z := ok) rfl rfl rfl rfl) (rn ?_)
  refine cw_cond (b := ((decide (i < m.Rows)) && ok)) rfl (fun hb2 => ?_) (fun hb2 => ?_)
  ·skip
   have hF4 := ct hb1 hb2
   refine cw_skip (cq (cw_block ?_))
   obtain ⟨r_3, hc1, hF4⟩ := bI hF4
   obtain ⟨⟨r_4, r_5⟩, hc2, hF4⟩ := bI hF4
   refine cw_mid (fun f w => FF f [(1, pt (aD b) 0), (2, pt (aD b1) 0), (4, pt (aD b2) 0), (5, .bool r_5), (6, vi i)] ∧ ST w0 [] w [⟨aD b, 26, kM_ m B c, 3⟩, ⟨aD b1, 48, kZ_, 5⟩, ⟨aD b2, 48, kD_ r_4, 5⟩] [⟨B, (m.Cells.flatMap eN0)⟩]) ?_ ?_
   ·skip
    refine ra_start (hS7.se [0, 1]).fn (by kernel_rfl) ?_
    have hS11 := hS7.drew
    refine rq 1 30 (v := gM_ m B c) rfl (hS11.se [0, 1]) (fun w' hw' => (yb (aD b) 0 (kM_ m B c) K8 K3 (ST.cf hw' (i := 0) rfl) rfl (hf.g 1 0))) ?_
    refine rq 2 31 (v := vi i) rfl (hS11.se [0, 1]) (fun w' hw' => (ym (vi i) rfl (hf.g 6 4))) ?_
    refine rq 3 32 (v := vi i) rfl (hS11.se [0, 1]) (fun w' hw' => (ym (vi i) rfl (hf.g 6 4))) ?_
    refine rA [0, 4] ?_
    refine ra_y 29 (i := 0) (v := .agg #[vi A, vi B1, vi C, vi D, vi Exp]) rfl rfl rfl (yb (aD b2) 0 [vi A, vi B1, vi C, vi D, vi Exp] K4 K1 (hS11.c 2) rfl (hf.g 4 2)) (hS11.se [0, 1]) ?_ ?_
    ·skip
     refine rA [4] ?_
     refine rC 33 4 rfl (yC [gM_ m B c, vi i, vi i] K66 (c_impl_Matrix_at m i i B c m.Cells.length _ rfl (hS11.inn0 [(true, 0)] rfl) hc1)) ?_ ?_
     ·rintro _ w_6 ⟨rfl, hd1⟩
      have hS12 := hS11.out00 hd1
      refine ⟨(hS12.se [0, 1]), ?_⟩
      refine rA [5] ?_
      refine rC 34 5 rfl (yC [.agg #[vi A, vi B1, vi C, vi D, vi Exp], gD_ r_3] K97 (c_impl_AddDyadic (TDyadic.mk (TRing.mk A B1 C D) Exp) r_3 _  (hS12.inn0 [] rfl) hc2)) ?_ ?_
      ·rintro _ w_7 ⟨rfl, hd2⟩
       have hS13 := hS12.out00 hd2
       refine ⟨(hS13.se [0, 1]), ?_⟩
       refine rq 6 28 (v := .tuple #[gD_ r_4, .bool r_5]) rfl (hS13.se [0, 1]) (fun w' hw' => (ym (.tuple #[gD_ r_4, .bool r_5]))) ?_
       refine rq 7 35 (v := gD_ r_4) rfl (hS13.se [0, 1]) (fun w' hw' => (ye (gD_ r_4))) ?_
       refine rq 8 36 (v := .bool r_5) rfl (hS13.se [0, 1]) (fun w' hw' => (ye (.bool r_5))) ?_
       refine rA [9] ?_
       refine rZ 9 rfl (yT 2 5 (aD b2) 48 (gD_ r_4) (kD_ r_4) 0 hS13 K1 rfl (hf.g 4 2)) ?_ ?_
       ·rintro _ w_8 ⟨rfl, hS14⟩
        refine ⟨(hS14.se [0, 1]), ?_⟩
        refine rq 10 5 (v := .bool r_5) rfl (hS14.se [0, 1]) (fun w' hw' => (yg (.bool r_5))) ?_
        refine ra_done (by kernel_rfl) ?_
        exact ⟨(fc (hf.g 1 0) (fc (hf.g 2 1) (fc (hf.g 4 2) (fc rfl (fc (hf.g 6 4) fn_))))), (hS14.sel [0, 1, 2] rfl rfl)⟩
       exact aN
      exact aN
     exact aN
    refine rC 33 4 rfl (yC [gM_ m B c, vi i, vi i] K66 (c_impl_Matrix_at m i i B c m.Cells.length _ rfl (hS11.inn0 [(true, 0)] rfl) hc1)) ?_ ?_
    ·rintro _ w_9 ⟨rfl, hd3⟩
     have hS15 := hS11.out00 hd3
     refine ⟨(hS15.se [0, 1]), ?_⟩
     refine rA [0] ?_
     refine ra_y 29 (i := 0) (v := .agg #[vi A, vi B1, vi C, vi D, vi Exp]) rfl rfl rfl (yb (aD b2) 0 [vi A, vi B1, vi C, vi D, vi Exp] K4 K1 (hS15.c 2) rfl (hf.g 4 2)) (hS15.se [0, 1]) ?_ ?_
     ·skip
      refine rA [5] ?_
      refine rC 34 5 rfl (yC [.agg #[vi A, vi B1, vi C, vi D, vi Exp], gD_ r_3] K97 (c_impl_AddDyadic (TDyadic.mk (TRing.mk A B1 C D) Exp) r_3 _  (hS15.inn0 [] rfl) hc2)) ?_ ?_
      ·rintro _ w_10 ⟨rfl, hd4⟩
       have hS16 := hS15.out00 hd4
       refine ⟨(hS16.se [0, 1]), ?_⟩
       refine rq 6 28 (v := .tuple #[gD_ r_4, .bool r_5]) rfl (hS16.se [0, 1]) (fun w' hw' => (ym (.tuple #[gD_ r_4, .bool r_5]))) ?_
       refine rq 7 35 (v := gD_ r_4) rfl (hS16.se [0, 1]) (fun w' hw' => (ye (gD_ r_4))) ?_
       refine rq 8 36 (v := .bool r_5) rfl (hS16.se [0, 1]) (fun w' hw' => (ye (.bool r_5))) ?_
       refine rA [9] ?_
       refine rZ 9 rfl (yT 2 5 (aD b2) 48 (gD_ r_4) (kD_ r_4) 0 hS16 K1 rfl (hf.g 4 2)) ?_ ?_
       ·rintro _ w_11 ⟨rfl, hS17⟩
        refine ⟨(hS17.se [0, 1]), ?_⟩
        refine rq 10 5 (v := .bool r_5) rfl (hS17.se [0, 1]) (fun w' hw' => (yg (.bool r_5))) ?_
        refine ra_done (by kernel_rfl) ?_
        exact ⟨(fc (hf.g 1 0) (fc (hf.g 2 1) (fc (hf.g 4 2) (fc rfl (fc (hf.g 6 4) fn_))))), (hS17.sel [0, 1, 2] rfl rfl)⟩
       exact aN
      exact aN
     exact aN
    exact aN
   rintro f w ⟨hf1, hS10⟩
   refine cr ?_
   refine sQ 26 (ym (vi i) rfl (hf1.g 6 4)) <| sQ 27 (yP i 1) <| sQ 6 (yg (vi (i64.wrap (i + 1)))) (rn ?_)
   obtain rfl := sI hF4
   exact ⟨K7, Nat.lt_succ_self _, r_4.Num.A, r_4.Num.B, r_4.Num.C, r_4.Num.D, r_4.Exp, r_5, (i64.wrap (i + 1)), (fc (hf1.g 1 0) (fc (hf1.g 2 1) (fc (hf1.g 4 2) (fc (hf1.g 5 3) (fc rfl fn_))))), (hS10.sel [0, 1, 2] rfl rfl), hL1⟩
  ·skip
   have hF5 := cf' hb1 hb2
   refine cw_exit rfl ?_
   obtain rfl := sI hF5
   obtain rfl := sI hL1
   refine cq (cr ?_)
   refine sQ 37 (yb (aD b2) 0 [vi A, vi B1, vi C, vi D, vi Exp] K4 K1 (hS7.c 2) rfl (hf.g 4 2)) <| sQ 38 (ym (.bool ok) rfl (hf.g 5 3)) ?_
   refine s0 (yT 1 5 (aD b1) 48 (.agg #[vi A, vi B1, vi C, vi D, vi Exp]) [vi A, vi B1, vi C, vi D, vi Exp] 0 hS7 K1 rfl (hf.g 2 1)) ?_
   rintro _ w_12 ⟨rfl, hS18⟩
   refine sQ 3 (yg (.bool ok)) (rn (ct_ ?_))
   obtain ⟨rfl, rfl⟩ := pr2 (sI hF3)
   exact ret2 Tryz.results79 (v1 := .agg #[vi A, vi B1, vi C, vi D, vi Exp]) (resAt_cellA (B := aD b1) (i := 0) (cs := [vi A, vi B1, vi C, vi D, vi Exp]) (vs := [vi A, vi B1, vi C, vi D, vi Exp]) (hf.g 2 1) K4 K1 (hS18.c 1) rfl rfl) (v2 := .bool ok) (resAt_tmp rfl) ⟨rfl, (hS18.sN [])⟩

theorem c_impl_blochCell (m : TMatrix) (bar : TMatrix) (i : Int) (j : Int) (B : Option Addr) (c n : Nat) (B1 : Option Addr) (c1 n1 : Nat) (w0 : World) (hn : m.Cells.length = n) (hn1 : bar.Cells.length = n1) (hS : ST w0 [] w0 [] [⟨B, (m.Cells.flatMap eN0)⟩, ⟨B1, (bar.Cells.flatMap eN0)⟩, ⟨(aD 0), [vi 1, vi 0, vi 0, vi 0, vi 2]⟩]) {r_ : TDyadic} {r_1 : Bool} (hF : F_impl_blochCell m bar i j = some (r_, r_1)) :
  CV Tryz.prog 47 #[.agg #[vi m.Rows, vi m.Cols, .slice B n c], .agg #[vi bar.Rows, vi bar.Cols, .slice B1 n1 c1], vi i, vi j] w0 (fun v w' => v = .tuple #[gD_ r_, .bool r_1] ∧ ST w0 [] w' [] []) := by
 subst hn
 subst hn1
 unfold F_impl_blochCell at hF
 refine cv_of_cw 83 Tryz.func47 rfl Tryz.ntmps47 rfl ?_
 refine cq (cr ?_)
 refine sS 4 (yB 26 (gM_ m B c) (kM_ m B c) 3 hS) ?_
 rintro _ w_ ⟨b, rfl, hS1⟩
 refine sS 5 (yB 26 (gM_ bar B1 c1) (kM_ bar B1 c1) 3 hS1) ?_
 rintro _ w_1 ⟨b1, rfl, hS2⟩
 refine sS 8 (yN kZ_ 5 hS2 K6) ?_
 rintro _ w_2 ⟨b2, rfl, hS3⟩
 refine sQ 9 (yg (.bool false)) (rn (cq (cr ?_)))
 refine sQ 23 (show Y _ _ _ _ _ (.agg (([2, 3, 4] : List Int).flatMap encI).toArray) from Y_buildA (zs := [vi 0, vi 0, vi 0]) (vs := [(0, vi 2), (1, vi 3), (2, vi 4)]) (cs := [vi 2, vi 3, vi 4]) K123 K2 k_zero_120 rfl (mpc rfl (mpc rfl (mpc rfl mpn))) (by kernel_rfl)) ?_
 refine sS 10 (yN ((List.replicate 3 0).flatMap encI) 3 hS3 k_zero_120) ?_
 rintro _ w_3 ⟨b3, rfl, hS4⟩
 refine s0 (yT 3 3 (aD b3) 120 (.agg (([2, 3, 4] : List Int).flatMap encI).toArray) (([2, 3, 4] : List Int).flatMap encI) 0 hS4 k_sz_120_3 rfl rfl rfl rfl (fm_lenn2 encI_len rfl rfl) (fm_one' encI_one _) rfl (fm_fit encI_len (List.length_replicate (n := 3)) rfl) (fm_spl encI_len (List.length_replicate (n := 3)) rfl)) ?_
 rintro _ w_4 ⟨rfl, hS5⟩
 refine rn (cq (cr ?_))
 refine sQ 25 (ym (vi i)) ?_
 obtain ⟨x, hx, hF⟩ := bI hF
 refine sQ 26 (Y_indexArr0 (B := aD b3) (k := .i64) (i := i) K123 K2 rfl rfl rfl (getI_nn hx) (getI_ltI hx rfl)) <| sQ 27 (yl (aD b3) (i.toNat * 1) (([2, 3, 4] : List Int).flatMap encI) (vi x) K0 (hS5.c 3) rfl rfl (gi_at0 encI_len hx rfl)) <| sQ 28 (Y_buildS (zs := [vi 0, vi 0, vi 0]) (vs := [(0, vi x)]) (cs := [vi x, vi 0, vi 0]) K48 K27 rfl (mpc rfl mpn) rfl) ?_
 obtain ⟨⟨r_2, r_3⟩, hc, hF⟩ := bI hF
 refine sc 29 rfl rfl (yC [vi 1, .agg #[vi x, vi 0, vi 0]] K98 (c_impl_GateMatrix 1 (TGate.mk x 0 0) _  (hS5.inn0 [] rfl) hc)) ?_
 rintro _ w_5 ⟨B2, c2, rfl, hd⟩
 have hS6 := hS5.out0 hd
 refine sQ 24 (ym (.tuple #[gM_ r_2 B2 c2, .bool r_3])) <| sQ 30 (ye (gM_ r_2 B2 c2)) <| sQ 31 (ye (.bool r_3)) ?_
 refine sS 11 (yN kN_ 3 hS6 K12) ?_
 rintro _ w_6 ⟨b4, rfl, hS7⟩
 refine s0 (yT 5 3 (aD b4) 26 (gM_ r_2 B2 c2) (kM_ r_2 B2 c2) 0 hS7 K3) ?_
 rintro _ w_7 ⟨rfl, hS8⟩
 refine sQ 12 (yg (.bool r_3)) (rn (cq (cr ?_)))
 refine sQ 33 (ym (vi j)) ?_
 obtain ⟨x1, hx1, hF⟩ := bI hF
 refine sQ 34 (Y_indexArr0 (B := aD b3) (k := .i64) (i := j) K123 K2 rfl rfl rfl (getI_nn hx1) (getI_ltI hx1 rfl)) <| sQ 35 (yl (aD b3) (j.toNat * 1) (([2, 3, 4] : List Int).flatMap encI) (vi x1) K0 (hS8.c 3) rfl rfl (gi_at0 encI_len hx1 rfl)) <| sQ 36 (Y_buildS (zs := [vi 0, vi 0, vi 0]) (vs := [(0, vi x1)]) (cs := [vi x1, vi 0, vi 0]) K48 K27 rfl (mpc rfl mpn) rfl) ?_
 obtain ⟨⟨r_4, r_5⟩, hc1, hF⟩ := bI hF
 refine sc 37 rfl rfl (yC [vi 1, .agg #[vi x1, vi 0, vi 0]] K98 (c_impl_GateMatrix 1 (TGate.mk x1 0 0) _  (hS8.inn0 [] rfl) hc1)) ?_
 rintro _ w_8 ⟨B3, c3, rfl, hd1⟩
 have hS9 := hS8.out0 hd1
 refine sQ 32 (ym (.tuple #[gM_ r_4 B3 c3, .bool r_5])) <| sQ 38 (ye (gM_ r_4 B3 c3)) <| sQ 39 (ye (.bool r_5)) ?_
 refine sS 13 (yN kN_ 3 hS9 K12) ?_
 rintro _ w_9 ⟨b5, rfl, hS10⟩
 refine s0 (yT 7 3 (aD b5) 26 (gM_ r_4 B3 c3) (kM_ r_4 B3 c3) 0 hS10 K3) ?_
 rintro _ w_10 ⟨rfl, hS11⟩
 have hS11 : ST w0 [] _ [⟨aD b, 26, kM_ m B c, 3⟩, ⟨aD b1, 26, kM_ bar B1 c1, 3⟩, ⟨aD b2, 48, kZ_, 5⟩, ⟨aD b3, 120, (([2, 3, 4] : List Int).flatMap encI), 3⟩, ⟨B2, 48, (r_2.Cells.flatMap eN0), c2 * 5⟩, ⟨aD b4, 26, kM_ r_2 B2 c2, 3⟩, ⟨B3, 48, (r_4.Cells.flatMap eN0), c3 * 5⟩, ⟨aD b5, 26, kM_ r_4 B3 c3, 3⟩] [⟨B, (m.Cells.flatMap eN0)⟩, ⟨B1, (bar.Cells.flatMap eN0)⟩, ⟨(aD 0), [vi 1, vi 0, vi 0, vi 0, vi 2]⟩] := hS11
 refine sQ 14 (yg (.bool r_5)) (rn (cq (cr ?_)))
 refine sQ 41 (yb (aD b4) 0 (kM_ r_2 B2 c2) K8 K3 (hS11.c 5)) <| sQ 42 (yb (aD b) 0 (kM_ m B c) K8 K3 (hS11.c 0)) ?_
 obtain ⟨⟨r_6, r_7⟩, hc2, hF⟩ := bI hF
 refine sc 43 rfl rfl (yC [gM_ r_2 B2 c2, gM_ m B c] K99 (c_impl_MulMatrix r_2 m B2 c2 r_2.Cells.length B c m.Cells.length _ rfl rfl (hS11.inn0 [(false, 4), (true, 0)] rfl) hc2)) ?_
 rintro _ w_11 ⟨B4, c4, rfl, hd2⟩
 have hS12 := hS11.out0 hd2
 refine sQ 40 (ym (.tuple #[gM_ r_6 B4 c4, .bool r_7])) <| sQ 44 (ye (gM_ r_6 B4 c4)) <| sQ 45 (ye (.bool r_7)) ?_
 refine sS 15 (yN kN_ 3 hS12 K12) ?_
 rintro _ w_12 ⟨b6, rfl, hS13⟩
 refine s0 (yT 9 3 (aD b6) 26 (gM_ r_6 B4 c4) (kM_ r_6 B4 c4) 0 hS13 K3) ?_
 rintro _ w_13 ⟨rfl, hS14⟩
 refine sQ 16 (yg (.bool r_7)) (rn (cq (cr ?_)))
 refine sQ 47 (yb (aD b6) 0 (kM_ r_6 B4 c4) K8 K3 (hS14.c 9)) <| sQ 48 (yb (aD b5) 0 (kM_ r_4 B3 c3) K8 K3 (hS14.c 7)) ?_
 obtain ⟨⟨r_8, r_9⟩, hc3, hF⟩ := bI hF
 refine sc 49 rfl rfl (yC [gM_ r_6 B4 c4, gM_ r_4 B3 c3] K99 (c_impl_MulMatrix r_6 r_4 B4 c4 r_6.Cells.length B3 c3 r_4.Cells.length _ rfl rfl (hS14.inn0 [(false, 8), (false, 6)] rfl) hc3)) ?_
 rintro _ w_14 ⟨B5, c5, rfl, hd3⟩
 have hS15 := hS14.out0 hd3
 refine sQ 46 (ym (.tuple #[gM_ r_8 B5 c5, .bool r_9])) <| sQ 50 (ye (gM_ r_8 B5 c5)) <| sQ 51 (ye (.bool r_9)) ?_
 refine s0 (yT 9 3 (aD b6) 26 (gM_ r_8 B5 c5) (kM_ r_8 B5 c5) 0 hS15 K3) ?_
 rintro _ w_15 ⟨rfl, hS16⟩
 refine sQ 17 (yg (.bool r_9)) (rn (cq (cr ?_)))
 refine sQ 53 (yb (aD b6) 0 (kM_ r_8 B5 c5) K8 K3 (hS16.c 9)) <| sQ 54 (yb (aD b1) 0 (kM_ bar B1 c1) K8 K3 (hS16.c 1)) ?_
 obtain ⟨⟨r_10, r_11⟩, hc4, hF⟩ := bI hF
 refine sc 55 rfl rfl (yC [gM_ r_8 B5 c5, gM_ bar B1 c1] K99 (c_impl_MulMatrix r_8 bar B5 c5 r_8.Cells.length B1 c1 bar.Cells.length _ rfl rfl (hS16.inn0 [(false, 10), (true, 1)] rfl) hc4)) ?_
 rintro _ w_16 ⟨B6, c6, rfl, hd4⟩
 have hS17 := hS16.out0 hd4
 refine sQ 52 (ym (.tuple #[gM_ r_10 B6 c6, .bool r_11])) <| sQ 56 (ye (gM_ r_10 B6 c6)) <| sQ 57 (ye (.bool r_11)) ?_
 refine s0 (yT 9 3 (aD b6) 26 (gM_ r_10 B6 c6) (kM_ r_10 B6 c6) 0 hS17 K3) ?_
 rintro _ w_17 ⟨rfl, hS18⟩
 refine sQ 18 (yg (.bool r_11)) (rn (cq (cr ?_)))
 refine sQ 59 (yb (aD b6) 0 (kM_ r_10 B6 c6) K8 K3 (hS18.c 9)) ?_
 obtain ⟨⟨r_12, r_13⟩, hc5, hF⟩ := bI hF
 refine sc 60 rfl rfl (yC [gM_ r_10 B6 c6] k_call_79 (c_impl_TraceOf r_10 B6 c6 r_10.Cells.length _ rfl (hS18.inn0 [(false, 11)] rfl) hc5)) ?_
 rintro _ w_18 ⟨rfl, hd5⟩
 have hS19 := hS18.out00 hd5
 refine sQ 58 (ym (.tuple #[gD_ r_12, .bool r_13])) <| sQ 61 (ye (gD_ r_12)) <| sQ 62 (ye (.bool r_13)) ?_
 refine sS 19 (yN kZ_ 5 hS19 K6) ?_
 rintro _ w_19 ⟨b7, rfl, hS20⟩
 refine s0 (yT 12 5 (aD b7) 48 (gD_ r_12) (kD_ r_12) 0 hS20 K1) ?_
 rintro _ w_20 ⟨rfl, hS21⟩
 have hS21 : ST w0 [] _ [⟨aD b, 26, kM_ m B c, 3⟩, ⟨aD b1, 26, kM_ bar B1 c1, 3⟩, ⟨aD b2, 48, kZ_, 5⟩, ⟨aD b3, 120, (([2, 3, 4] : List Int).flatMap encI), 3⟩, ⟨B2, 48, (r_2.Cells.flatMap eN0), c2 * 5⟩, ⟨aD b4, 26, kM_ r_2 B2 c2, 3⟩, ⟨B3, 48, (r_4.Cells.flatMap eN0), c3 * 5⟩, ⟨aD b5, 26, kM_ r_4 B3 c3, 3⟩, ⟨B4, 48, (r_6.Cells.flatMap eN0), c4 * 5⟩, ⟨aD b6, 26, kM_ r_10 B6 c6, 3⟩, ⟨B5, 48, (r_8.Cells.flatMap eN0), c5 * 5⟩, ⟨B6, 48, (r_10.Cells.flatMap eN0), c6 * 5⟩, ⟨aD b7, 48, kD_ r_12, 5⟩] [⟨B, (m.Cells.flatMap eN0)⟩, ⟨B1, (bar.Cells.flatMap eN0)⟩, ⟨(aD 0), [vi 1, vi 0, vi 0, vi 0, vi 2]⟩] := hS21
 refine sQ 20 (yg (.bool r_13)) (rn (cq (cr ?_)))
 refine sQ 64 (yb (aD b7) 0 (kD_ r_12) K4 K1 (hS21.c 12)) <| sQ 65 (yb (aD 0) 0 [vi 1, vi 0, vi 0, vi 0, vi 2] K4 K1 (hS21.rf (i := 2) rfl)) ?_
 obtain ⟨⟨r_14, r_15⟩, hc6, hF⟩ := bI hF
 refine sc 66 rfl rfl (yC [gD_ r_12, .agg #[vi 1, vi 0, vi 0, vi 0, vi 2]] K59 (c_impl_MulDyadic r_12 (TDyadic.mk (TRing.mk 1 0 0 0) 2) _  (hS21.inn0 [] rfl) hc6)) ?_
 rintro _ w_21 ⟨rfl, hd6⟩
 have hS22 := hS21.out00 hd6
 refine sQ 63 (ym (.tuple #[gD_ r_14, .bool r_15])) <| sQ 67 (ye (gD_ r_14)) <| sQ 68 (ye (.bool r_15)) ?_
 refine sS 21 (yN kZ_ 5 hS22 K6) ?_
 rintro _ w_22 ⟨b8, rfl, hS23⟩
 refine s0 (yT 13 5 (aD b8) 48 (gD_ r_14) (kD_ r_14) 0 hS23 K1) ?_
 rintro _ w_23 ⟨rfl, hS24⟩
 refine sQ 22 (yg (.bool r_15)) (rn (cq (cr ?_)))
 refine sQ 69 (yb (aD b8) 0 (kD_ r_14) K4 K1 (hS24.c 13)) <| sQ 70 (ym (.bool r_7)) <| sQ 71 (ym (.bool r_7)) ?_
 refine sgq 72 (B := r_7) (v := .bool r_9) rfl rfl (uT_ 71) (fun hg => (ym (.bool r_9))) ?_
 refine sQ 73 (Y_and (b := r_7) (z := r_9) rfl rfl rfl rfl) <| sQ 74 (ym (.bool (r_7 && r_9))) ?_
 refine sgq 75 (B := (r_7 && r_9)) (v := .bool r_11) rfl rfl (uT_ 74) (fun hg1 => (ym (.bool r_11))) ?_
 refine sQ 76 (Y_and (b := (r_7 && r_9)) (z := r_11) rfl rfl rfl rfl) <| sQ 77 (ym (.bool ((r_7 && r_9) && r_11))) ?_
 refine sgq 78 (B := ((r_7 && r_9) && r_11)) (v := .bool r_13) rfl rfl (uT_ 77) (fun hg2 => (ym (.bool r_13))) ?_
 refine sQ 79 (Y_and (b := ((r_7 && r_9) && r_11)) (z := r_13) rfl rfl rfl rfl) <| sQ 80 (ym (.bool (((r_7 && r_9) && r_11) && r_13))) ?_
 refine sgq 81 (B := (((r_7 && r_9) && r_11) && r_13)) (v := .bool r_15) rfl rfl (uT_ 80) (fun hg3 => (ym (.bool r_15))) ?_
 refine sQ 82 (Y_and (b := (((r_7 && r_9) && r_11) && r_13)) (z := r_15) rfl rfl rfl rfl) ?_
 refine s0 (yT 2 5 (aD b2) 48 (gD_ r_14) (kD_ r_14) 0 hS24 K1) ?_
 rintro _ w_24 ⟨rfl, hS25⟩
 refine sQ 9 (yg (.bool ((((r_7 && r_9) && r_11) && r_13) && r_15))) (rn (ct_ ?_))
 obtain ⟨rfl, rfl⟩ := pr2 (sI hF)
 exact ret2 Tryz.results47 (v1 := gD_ r_14) (resAt_cellA (B := aD b2) (i := 0) (cs := kD_ r_14) (vs := kD_ r_14) rfl K4 K1 (hS25.c 2) rfl rfl) (v2 := .bool ((((r_7 && r_9) && r_11) && r_13) && r_15)) (resAt_tmp rfl) ⟨rfl, (hS25.sN [])⟩

theorem c_impl_BlochOf (m : TMatrix) (B : Option Addr) (c n : Nat) (w0 : World) (hn : m.Cells.length = n) (hS : ST w0 [] w0 [] [⟨B, (m.Cells.flatMap eN0)⟩, ⟨(aD 0), [vi 1, vi 0, vi 0, vi 0, vi 2]⟩]) {r_ : TBloch} {r_1 : Bool} (hF : F_impl_BlochOf m = some (r_, r_1)) :
  CV Tryz.prog 20 #[.agg #[vi m.Rows, vi m.Cols, .slice B n c]] w0 (fun v w' => ∃ (B1 : Option Addr) (c1 : Nat), v = .tuple #[gB_ r_ B1 c1, .bool r_1] ∧ ST w0 [] w' [⟨B1, 48, (r_.Cells.flatMap eN0), c1 * 5⟩] []) := by
 subst hn
 unfold F_impl_BlochOf at hF
 refine cv_of_cw 47 Tryz.func20 rfl Tryz.ntmps20 rfl ?_
 refine cq (cr ?_)
 refine sS 1 (yB 26 (gM_ m B c) (kM_ m B c) 3 hS) ?_
 rintro _ w_ ⟨b, rfl, hS1⟩
 refine sS 2 (yN [.slice none 0 0] 1 hS1 K39) ?_
 rintro _ w_1 ⟨b1, rfl, hS2⟩
 refine sQ 3 (yg (.bool false)) (rn (cq (cq (cr ?_))))
 refine sQ 11 (yb (aD b) 0 (kM_ m B c) K8 K3 (hS2.c 0)) ?_
 obtain ⟨r_2, hc, hF⟩ := bI hF
 refine sc 12 rfl rfl (yC [gM_ m B c] k_call_45 (c_impl_IsOneQubit m B c m.Cells.length _ rfl (hS2.inn0 [(true, 0)] rfl) hc)) ?_
 rintro _ w_2 ⟨rfl, hd⟩
 have hS3 := hS2.out00 hd
 refine sQ 13 (Y_not (p := r_2) rfl rfl) (rn ?_)
 refine cw_cond (b := (!r_2)) rfl (fun hb => ?_) (fun hb => ?_)
 ·skip
  have hF1 := ct hF hb
  refine cq (cr ?_)
  refine sQ 14 (Y_buildS (zs := [.slice none 0 0]) (vs := []) (cs := [.slice none 0 0]) K70 K39 rfl mpn rfl) ?_
  refine s0 (yT 1 1 (aD b1) 54 (.agg #[.slice none 0 0]) [.slice none 0 0] 0 hS3 K26) ?_
  rintro _ w_3 ⟨rfl, hS4⟩
  refine sQ 3 (yg (.bool false)) (rn (ct_ ?_))
  have hS5 := hS4.addNil 48
  obtain ⟨rfl, rfl⟩ := pr2 (sI hF1)
  exact ret2 Tryz.results20 (v1 := .agg #[.slice none 0 0]) (resAt_cellA (B := aD b1) (i := 0) (cs := [.slice none 0 0]) (vs := [.slice none 0 0]) rfl K51 K26 (hS5.c 1) rfl rfl) (v2 := .bool false) (resAt_tmp rfl) ⟨none, 0, rfl, (hS5.sN [2])⟩
 ·skip
  have hF2 := cf' hF hb
  refine cw_skip (cq (cr ?_))
  refine sQ 16 (yb (aD b) 0 (kM_ m B c) K8 K3 (hS3.c 0)) ?_
  obtain ⟨⟨r_3, r_4⟩, hc1, hF2⟩ := bI hF2
  refine sc 17 rfl rfl (yC [gM_ m B c] k_call_46 (c_impl_Adjoint m B c m.Cells.length _ rfl (hS3.inn0 [(true, 0)] rfl) hc1)) ?_
  rintro _ w_4 ⟨B2, c2, rfl, hd1⟩
  have hS6 := hS3.out0 hd1
  refine sQ 15 (ym (.tuple #[gM_ r_3 B2 c2, .bool r_4])) <| sQ 18 (ye (gM_ r_3 B2 c2)) <| sQ 19 (ye (.bool r_4)) ?_
  refine sS 4 (yN kN_ 3 hS6 K12) ?_
  rintro _ w_5 ⟨b2, rfl, hS7⟩
  refine s0 (yT 3 3 (aD b2) 26 (gM_ r_3 B2 c2) (kM_ r_3 B2 c2) 0 hS7 K3) ?_
  rintro _ w_6 ⟨rfl, hS8⟩
  refine sQ 5 (yg (.bool r_4)) (rn (cq (cr ?_)))
  refine sQ 20 (Y_buildS (zs := [.slice none 0 0]) (vs := []) (cs := [.slice none 0 0]) K70 K39 rfl mpn rfl) ?_
  refine sS 6 (yN [.slice none 0 0] 1 hS8 K39) ?_
  rintro _ w_7 ⟨b3, rfl, hS9⟩
  refine s0 (yT 4 1 (aD b3) 54 (.agg #[.slice none 0 0]) [.slice none 0 0] 0 hS9 K26) ?_
  rintro _ w_8 ⟨rfl, hS10⟩
  refine rn (cq (cq (cr ?_)))
  refine sQ 21 (ym (vi 0)) (rn ?_)
  obtain ⟨z, hz, hF3⟩ := bI hF2
  have hS12 := hS10.addNil 48
  refine cw_block ?_
  refine cw_loop (fun k f w => ∃ (i : Nat) (Cells : List TDyadic) (B3 : Option Addr) (c3 : Nat), FF f [(1, pt (aD b) 0), (2, pt (aD b1) 0), (4, pt (aD b2) 0), (6, pt (aD b3) 0), (21, vi (i : Int))] ∧ ST w0 [] w [⟨aD b, 26, kM_ m B c, 3⟩, ⟨aD b1, 54, [.slice none 0 0], 1⟩, ⟨aD b2, 26, kM_ r_3 B2 c2, 3⟩, ⟨B2, 48, (r_3.Cells.flatMap eN0), c2 * 5⟩, ⟨aD b3, 54, [.slice B3 Cells.length c3], 1⟩, ⟨B3, 48, (Cells.flatMap eN0), c3 * 5⟩] [⟨B, (m.Cells.flatMap eN0)⟩, ⟨(aD 0), [vi 1, vi 0, vi 0, vi 0, vi 2]⟩] ∧ i + k = 3 ∧ forX (F_impl_BlochOf_l1 m r_3) k i Cells = some z) 3 ⟨0, [], none, 0, (fc rfl (fc rfl (fc rfl (fc rfl (fc rfl fn_))))), (hS12.sel [0, 1, 3, 2, 4, 5] rfl rfl), Nat.zero_add _, hz⟩ ?_
  rintro k_ f w ⟨i, Cells, B3, c3, hf, hS11, hik, hL⟩
  refine cq (cr ?_)
  refine sQ 22 (yL (i : Int) 3 rfl (hf.g 21 4)) (rn (cq ?_))
  refine cw_cond (b := (decide ((i : Int) < 3))) rfl (fun hlt => ?_) (fun hlt => ?_)
  ·skip
   have hlt1 : i < 3 := by have h := of_decide_eq_true hlt; omega
   obtain ⟨K7, rfl⟩ : ∃ k2, k_ = k2 + 1 := ⟨k_ - 1, by omega⟩
   obtain ⟨y, hb1, hL1⟩ := forX_go hL
   unfold F_impl_BlochOf_l1 at hb1
   refine cw_skip (cq (cw_block (cq (cr ?_))))
   refine sQ 23 (ym (vi (i : Int)) rfl (hf.g 21 4)) <| sQ 7 (yg (vi (i : Int))) (rn (cq (cr ?_)))
   refine sQ 24 (ym (vi 0)) (rn ?_)
   obtain ⟨z1, hz1, hF4⟩ := bI hb1
   refine cw_block ?_
   refine cw_loop (fun k f w => ∃ (i1 : Nat) (Cells1 : List TDyadic) (B4 : Option Addr) (c4 : Nat), FF f [(1, pt (aD b) 0), (2, pt (aD b1) 0), (4, pt (aD b2) 0), (6, pt (aD b3) 0), (7, vi (i : Int)), (21, vi (i : Int)), (24, vi (i1 : Int))] ∧ ST w0 [] w [⟨aD b, 26, kM_ m B c, 3⟩, ⟨aD b1, 54, [.slice none 0 0], 1⟩, ⟨aD b2, 26, kM_ r_3 B2 c2, 3⟩, ⟨B2, 48, (r_3.Cells.flatMap eN0), c2 * 5⟩, ⟨aD b3, 54, [.slice B4 Cells1.length c4], 1⟩, ⟨B4, 48, (Cells1.flatMap eN0), c4 * 5⟩] [⟨B, (m.Cells.flatMap eN0)⟩, ⟨(aD 0), [vi 1, vi 0, vi 0, vi 0, vi 2]⟩] ∧ i1 + k = 3 ∧ forX (F_impl_BlochOf_l2 m r_3 i) k i1 Cells1 = some z1) 3 ⟨0, Cells, B3, c3, (fc (hf.g 1 0) (fc (hf.g 2 1) (fc (hf.g 4 2) (fc (hf.g 6 3) (fc rfl (fc (hf.g 21 4) (fc rfl fn_))))))), (hS11.sel [0, 1, 2, 3, 4, 5] rfl rfl), Nat.zero_add _, hz1⟩ ?_
   rintro K15 f w ⟨i1, Cells1, B4, c4, hf1, hS13, hik1, hL2⟩
   refine cq (cr ?_)
   refine sQ 25 (yL (i1 : Int) 3 rfl (hf1.g 24 6)) (rn (cq ?_))
   refine cw_cond (b := (decide ((i1 : Int) < 3))) rfl (fun hlt2 => ?_) (fun hlt2 => ?_)
   ·skip
    have hlt3 : i1 < 3 := by have h := of_decide_eq_true hlt2; omega
    obtain ⟨K28, rfl⟩ : ∃ k2, K15 = k2 + 1 := ⟨K15 - 1, by omega⟩
    obtain ⟨y1, hb2, hL3⟩ := forX_go hL2
    unfold F_impl_BlochOf_l2 at hb2
    refine cw_skip (cq (cw_block (cq (cr ?_))))
    refine sQ 26 (ym (vi (i1 : Int)) rfl (hf1.g 24 6)) <| sQ 8 (yg (vi (i1 : Int))) (rn (cq (cr ?_)))
    refine sQ 28 (yb (aD b) 0 (kM_ m B c) K8 K3 (hS13.c 0) rfl (hf1.g 1 0)) <| sQ 29 (yb (aD b2) 0 (kM_ r_3 B2 c2) K8 K3 (hS13.c 2) rfl (hf1.g 4 2)) <| sQ 30 (ym (vi (i : Int)) rfl (hf1.g 7 4)) <| sQ 31 (ym (vi (i1 : Int))) ?_
    obtain ⟨⟨r_5, r_6⟩, hc2, hb2⟩ := bI hb2
    refine sc 32 rfl rfl (yC [gM_ m B c, gM_ r_3 B2 c2, vi (i : Int), vi (i1 : Int)] k_call_47 (c_impl_blochCell m r_3 (i : Int) (i1 : Int) B c m.Cells.length B2 c2 r_3.Cells.length _ rfl rfl (hS13.inn0 [(true, 0), (false, 3), (true, 1)] rfl) hc2)) ?_
    rintro _ w_9 ⟨rfl, hd2⟩
    have hS14 := hS13.out00 hd2
    refine sQ 27 (ym (.tuple #[gD_ r_5, .bool r_6])) <| sQ 33 (ye (gD_ r_5)) <| sQ 34 (ye (.bool r_6)) ?_
    refine sS 9 (yN kZ_ 5 hS14 K6) ?_
    rintro _ w_10 ⟨b4, rfl, hS15⟩
    refine s0 (yT 6 5 (aD b4) 48 (gD_ r_5) (kD_ r_5) 0 hS15 K1) ?_
    rintro _ w_11 ⟨rfl, hS16⟩
    refine sQ 10 (yg (.bool r_6)) (rn (cq (cq (cr ?_))))
    refine sQ 35 (ym (.bool r_6)) <| sQ 36 (Y_not (p := r_6) rfl rfl) (rn ?_)
    refine cw_cond (b := (!r_6)) rfl (fun hb3 => ?_) (fun hb3 => ?_)
    ·skip
     have hF5 := ct hb2 hb3
     refine cq (cr ?_)
     refine sQ 37 (Y_buildS (zs := [.slice none 0 0]) (vs := []) (cs := [.slice none 0 0]) K70 K39 rfl mpn rfl) ?_
     refine s0 (yT 1 1 (aD b1) 54 (.agg #[.slice none 0 0]) [.slice none 0 0] 0 hS16 K26 rfl (hf1.g 2 1)) ?_
     rintro _ w_12 ⟨rfl, hS17⟩
     refine sQ 3 (yg (.bool false)) (rn (ct_ ?_))
     have hS18 := hS17.addNil 48
     obtain rfl := sI hF5
     obtain rfl := sI hL3
     obtain rfl := sI hF4
     obtain rfl := sI hL1
     obtain ⟨rfl, rfl⟩ := pr2 (sI hF3)
     exact ret2 Tryz.results20 (v1 := .agg #[.slice none 0 0]) (resAt_cellA (B := aD b1) (i := 0) (cs := [.slice none 0 0]) (vs := [.slice none 0 0]) (hf1.g 2 1) K51 K26 (hS18.c 1) rfl rfl) (v2 := .bool false) (resAt_tmp rfl) ⟨none, 0, rfl, (hS18.sN [7])⟩
    ·skip
     have hF6 := cf' hb2 hb3
     refine cw_skip (cr ?_)
     refine sQ 38 (yd (aD b3) 0 0 K40 K11 rfl (hf1.g 6 3)) <| sQ 39 (yl (aD b3) 0 [.slice B4 Cells1.length c4] (.slice B4 Cells1.length c4) K16 (hS16.c 4)) <| sQ 40 (yb (aD b4) 0 (kD_ r_5) K4 K1 (hS16.c 6)) ?_
     refine sS 41 (Ys_bslice (s := 5) (len := 1) (vs := [(0, gD_ r_5)]) (cs := kD_ r_5) (zs := kZ_) (m := 5) hS16 K9 K1 K38 rfl (mpc rfl mpn) rfl rfl rfl (by kernel_rfl) (by kernel_rfl) rfl) ?_
     rintro _ w_13 ⟨b5, rfl, hS19⟩
     obtain ⟨hap, hF6⟩ := chk_inv hF6
     refine sS 42 (Ys_append (s := 5) (by' := 40) (i := 5) (nn := Cells1.length) (c := c4) (k := 1) (len := (Cells1 ++ [r_5]).length) (B := B4) (xs := ([r_5].flatMap eN0)) (cs' := ((Cells1 ++ [r_5]).flatMap eN0)) hS19 K9 K1 K47 K6 rfl (by decide) rfl rfl rfl rfl (fm_lenn (l := Cells1) eN2 rfl) rfl (hS19.c 7) (fm_lenn (l := [r_5]) eN2 rfl) (fm_one' (enc := eN0) enc_Dyadic_one [r_5]) (by have := hap; omega) (by have := hap; simp only [maxLen]; omega) (fm_app _ _) (app_len (l := Cells1) (l' := [r_5]) rfl rfl)) ?_
     rintro _ w_14 ⟨B5, c5, rfl, hS20⟩
     refine sQ 43 (yd (aD b3) 0 0 K40 K11 rfl (hf1.g 6 3)) ?_
     refine s0 (yT 4 1 (aD b3) 54 (.slice B5 ((Cells1 ++ [r_5]).length) c5) [.slice B5 ((Cells1 ++ [r_5]).length) c5] 0 hS20 K11) ?_
     rintro _ w_15 ⟨rfl, hS21⟩
     refine rn (cr ?_)
     refine sQ 44 (yP (i1 : Int) 1 rfl (hf1.g 24 6)) <| sQ 24 (ym (vi (i64.wrap ((i1 : Int) + 1)))) (rn ?_)
     obtain rfl := sI hF6
     exact ⟨K28, Nat.lt_succ_self _, i1 + 1, (Cells1 ++ [r_5]), B5, c5, (fc (hf1.g 1 0) (fc (hf1.g 2 1) (fc (hf1.g 4 2) (fc (hf1.g 6 3) (fc (hf1.g 7 4) (fc (hf1.g 21 5) (fc (congrArg (Value.int .i64) (wr_succ hlt3 (show 3 ≤ 9223372036854775807 by decide))) fn_))))))), (hS21.sel [0, 1, 2, 3, 4, 5] rfl rfl), (by omega), hL3⟩
   ·skip
    obtain rfl : K15 = 0 := by have h := of_decide_eq_false hlt2; omega
    refine cw_exit rfl ?_
    obtain rfl := sI hL2
    refine cr ?_
    refine sQ 45 (yP (i : Int) 1 rfl (hf1.g 21 5)) <| sQ 21 (ym (vi (i64.wrap ((i : Int) + 1)))) (rn ?_)
    obtain rfl := sI hF4
    exact ⟨K7, Nat.lt_succ_self _, i + 1, Cells1, B4, c4, (fc (hf1.g 1 0) (fc (hf1.g 2 1) (fc (hf1.g 4 2) (fc (hf1.g 6 3) (fc (congrArg (Value.int .i64) (wr_succ hlt1 (show 3 ≤ 9223372036854775807 by decide))) fn_))))), (hS13.sel [0, 1, 2, 3, 4, 5] rfl rfl), (by omega), hL1⟩
  ·skip
   obtain rfl : k_ = 0 := by have h := of_decide_eq_false hlt; omega
   refine cw_exit rfl ?_
   obtain rfl := sI hL
   refine cq (cr ?_)
   refine sQ 46 (yb (aD b3) 0 [.slice B3 Cells.length c3] K51 K26 (hS11.c 4) rfl (hf.g 6 3)) ?_
   refine s0 (yT 1 1 (aD b1) 54 (.agg #[.slice B3 Cells.length c3]) [.slice B3 Cells.length c3] 0 hS11 K26 rfl (hf.g 2 1)) ?_
   rintro _ w_16 ⟨rfl, hS22⟩
   refine sQ 3 (yg (.bool true)) (rn (ct_ ?_))
   obtain ⟨rfl, rfl⟩ := pr2 (sI hF3)
   exact ret2 Tryz.results20 (v1 := .agg #[.slice B3 Cells.length c3]) (resAt_cellA (B := aD b1) (i := 0) (cs := [.slice B3 Cells.length c3]) (vs := [.slice B3 Cells.length c3]) (hf.g 2 1) K51 K26 (hS22.c 1) rfl rfl) (v2 := .bool true) (resAt_tmp rfl) ⟨B3, c3, rfl, (hS22.sN [5])⟩

theorem c_impl_blochGate (kind : Int)  (w0 : World)  (hS : ST w0 [] w0 [] [⟨(aD 0), [vi 1, vi 0, vi 0, vi 0, vi 2]⟩]) {r_ : TBloch} (hF : F_impl_blochGate kind = some r_) :
  CV Tryz.prog 85 #[vi kind] w0 (fun v w' => ∃ (B : Option Addr) (c : Nat), v = (gB_ r_ B c) ∧ ST w0 [] w' [⟨B, 48, (r_.Cells.flatMap eN0), c * 5⟩] []) := by
 unfold F_impl_blochGate at hF
 refine cv_of_cw 19 Tryz.func85 rfl Tryz.ntmps85 rfl ?_
 refine cq (cr ?_)
 refine sS 2 (yN [.slice none 0 0] 1 hS K39) ?_
 rintro _ w_ ⟨b, rfl, hS1⟩
 refine rn (cq (cr ?_))
 refine sQ 8 (ym (vi kind)) <| sQ 9 (Y_buildS (zs := [vi 0, vi 0, vi 0]) (vs := [(0, vi kind)]) (cs := [vi kind, vi 0, vi 0]) K48 K27 rfl (mpc rfl mpn) rfl) ?_
 obtain ⟨⟨r_1, r_2⟩, hc, hF⟩ := bI hF
 refine sc 10 rfl rfl (yC [vi 1, .agg #[vi kind, vi 0, vi 0]] K98 (c_impl_GateMatrix 1 (TGate.mk kind 0 0) _  (hS1.inn0 [] rfl) hc)) ?_
 rintro _ w_1 ⟨B1, c1, rfl, hd⟩
 have hS2 := hS1.out0 hd
 refine sQ 7 (ym (.tuple #[gM_ r_1 B1 c1, .bool r_2])) <| sQ 11 (ye (gM_ r_1 B1 c1)) <| sQ 12 (ye (.bool r_2)) ?_
 refine sS 3 (yN kN_ 3 hS2 K12) ?_
 rintro _ w_2 ⟨b1, rfl, hS3⟩
 refine s0 (yT 2 3 (aD b1) 26 (gM_ r_1 B1 c1) (kM_ r_1 B1 c1) 0 hS3 K3) ?_
 rintro _ w_3 ⟨rfl, hS4⟩
 refine sQ 4 (yg (.bool r_2)) (rn (cq (cr ?_)))
 refine sQ 14 (yb (aD b1) 0 (kM_ r_1 B1 c1) K8 K3 (hS4.c 2)) ?_
 obtain ⟨⟨r_3, r_4⟩, hc1, hF⟩ := bI hF
 refine sc 15 rfl rfl (yC [gM_ r_1 B1 c1] K112 (c_impl_BlochOf r_1 B1 c1 r_1.Cells.length _ rfl (hS4.inn0 [(false, 1), (true, 0)] rfl) hc1)) ?_
 rintro _ w_4 ⟨B2, c2, rfl, hd1⟩
 have hS5 := hS4.out0 hd1
 refine sQ 13 (ym (.tuple #[gB_ r_3 B2 c2, .bool r_4])) <| sQ 16 (ye (gB_ r_3 B2 c2)) <| sQ 17 (ye (.bool r_4)) ?_
 refine sS 5 (yN [.slice none 0 0] 1 hS5 K39) ?_
 rintro _ w_5 ⟨b2, rfl, hS6⟩
 refine s0 (yT 4 1 (aD b2) 54 (gB_ r_3 B2 c2) (kB_ r_3 B2 c2) 0 hS6 K26) ?_
 rintro _ w_6 ⟨rfl, hS7⟩
 refine sQ 6 (yg (.bool r_4)) (rn (cq (cr ?_)))
 refine sQ 18 (yb (aD b2) 0 (kB_ r_3 B2 c2) K51 K26 (hS7.c 4)) ?_
 refine s0 (yT 0 1 (aD b) 54 (gB_ r_3 B2 c2) (kB_ r_3 B2 c2) 0 hS7 K26) ?_
 rintro _ w_7 ⟨rfl, hS8⟩
 refine rn (ct_ ?_)
 obtain rfl := sI hF
 exact ret1 Tryz.results85 (v1 := gB_ r_3 B2 c2) (resAt_cellA (B := aD b) (i := 0) (cs := kB_ r_3 B2 c2) (vs := kB_ r_3 B2 c2) rfl K51 K26 (hS8.c 0) rfl rfl) ⟨B2, c2, rfl, (hS8.sN [3])⟩

theorem c_slices_IndexFunc_SSimpl_Dyadic_impl_Dyadic (s : List (List TDyadic)) (f_ : (List TDyadic) → Option (Bool)) (B : Option Addr) (c n : Nat) (D : List (Hd × (List TDyadic))) (kf : Nat) (caps : Array Value) (Rf : List Ro) (w0 : World) (hn : s.length = n) (hD : D.map Prod.snd = s) (hk : callB Tryz.prog kf = true) (hp : ∀ (w : World) (x : List TDyadic) (B_x : Option Addr) (c_x : Nat), ST w [] w [] (⟨B_x, (x.flatMap eN0)⟩ :: Rf) → ∀ (y : Bool), f_ x = some y → CV Tryz.prog kf ((.slice B_x x.length c_x) :: caps.toList).toArray w (fun v w' => v = .bool y ∧ ST w [] w' [] [])) (hS : ST w0 [] w0 [] (⟨B, (D.flatMap eN3)⟩ :: ((D.flatMap eN1) ++ Rf))) {r_ : Int} (hF : F_slices_IndexFunc_SSimpl_Dyadic_impl_Dyadic s f_ = some r_) :
  CV Tryz.prog 111 #[.slice B n c, .func (.func kf) #[] caps] w0 (fun v w' => v = vi r_ ∧ ST w0 [] w' [] []) := by
 subst hn
 unfold F_slices_IndexFunc_SSimpl_Dyadic_impl_Dyadic at hF
 refine cv_of_cw 19 Tryz.func111 rfl Tryz.ntmps111 rfl ?_
 refine cq (cr ?_)
 refine sQ 4 (yg (vi 0)) (rn (cq (cq (cr ?_))))
 refine sQ 6 (ym (.slice B s.length c)) <| sQ 7 (Y_len (B := B) (m := s.length) (c := c) K44 rfl rfl) <| sQ 8 (ym (vi 0)) (rn ?_)
 obtain ⟨hN, hF⟩ := chk_inv hF
 obtain ⟨z, hz, hF1⟩ := bI hF
 refine cw_block ?_
 refine cw_loop (fun k f w => ∃ (i : Nat), FF f [(0, .slice B s.length c), (1, .func (.func kf) #[] caps), (7, vi (s.length : Int)), (8, vi (i : Int))] ∧ ST w0 [] w [] (⟨B, (D.flatMap eN3)⟩ :: ((D.flatMap eN1) ++ Rf)) ∧ i + k = s.length ∧ forX (F_slices_IndexFunc_SSimpl_Dyadic_impl_Dyadic_l1 s f_) k i () = some z) s.length ⟨0, (fc rfl (fc rfl (fc rfl (fc rfl fn_)))), (hS.sel [] rfl rfl), Nat.zero_add _, hz⟩ ?_
 rintro k_ f w ⟨i, hf, hS1, hik, hL⟩
 refine cq (cr ?_)
 refine sQ 9 (yL (i : Int) (s.length : Int) rfl (hf.g 8 3) (hf.g 7 2)) (rn (cq ?_))
 refine cw_cond (b := (decide ((i : Int) < (s.length : Int)))) rfl (fun hlt => ?_) (fun hlt => ?_)
 ·skip
  have hlt1 : i < s.length := by have h := of_decide_eq_true hlt; omega
  obtain ⟨K7, rfl⟩ : ∃ k2, k_ = k2 + 1 := ⟨k_ - 1, by omega⟩
  obtain ⟨y1, hb, hL1⟩ := forX_go hL
  unfold F_slices_IndexFunc_SSimpl_Dyadic_impl_Dyadic_l1 at hb
  refine cw_skip (cq (cw_block (cq (cr ?_))))
  refine sQ 10 (ym (vi (i : Int)) rfl (hf.g 8 3)) <| sQ 5 (yg (vi (i : Int))) (rn (cq (cr ?_)))
  refine sQ 11 (ym (.func (.func kf) #[] caps) rfl (hf.g 1 1)) <| sQ 12 (ym (.slice B s.length c) rfl (hf.g 0 0)) <| sQ 13 (ym (vi (i : Int))) ?_
  obtain ⟨x1, hx, hb⟩ := bI hb
  obtain ⟨⟨B1, c1⟩, hp1⟩ := getI_snd hD hx
  refine sQ 14 (Y_index (B := B) (m := s.length) (c := c) (k := .i64) (i := (i : Int)) K44 K11 rfl rfl rfl (gi_isSome encD_SDyadic_len rfl (hS1.rf (i := 0) rfl) hp1) (getI_nn hp1) (getI_ltI hp1 (dl_len hD))) ?_
  have hm : (⟨B1, (x1.flatMap eN0)⟩ : Ro) ∈ ((⟨B, (D.flatMap eN3)⟩ :: ((D.flatMap eN1) ++ Rf)) : List Ro) := app_mem (fun r_ (h : r_ ∈ ((D.flatMap eN1) : List Ro)) => mOd (i := 1) (show r_ ∈ ((((D.flatMap eN1) ++ Rf)) : List Ro) from mAl _ h)) (row_mem (rw_ := eN1) hp1 _ (mt 0))
  have hS2 : ST w0 [] _ [] (⟨B1, (x1.flatMap eN0)⟩ :: ⟨B, (D.flatMap eN3)⟩ :: ((D.flatMap eN1) ++ Rf)) := ST.subR hS1 (subc hm (fun _ h => h))
  refine sQ 15 (yl B ((i : Int).toNat * 1) (D.flatMap eN3) (.slice B1 x1.length c1) K16 (hS2.rf (i := 1) rfl) rfl rfl (gi_at0 encD_SDyadic_len hp1 rfl)) ?_
  obtain ⟨r_1, hc, hb⟩ := bI hb
  refine sc 16 rfl rfl (Yc_clos (g := kf) (vs := (.slice B1 x1.length c1) :: caps.toList) hk rfl rfl (clo_args (mc rfl mn)) (hp _ x1 B1 c1 (hS2.innR0 (srcR (mt 0) (fun x h => Or.inl (app_mem (fun r_ (h : r_ ∈ (Rf : List Ro)) => mOd (i := 2) (show r_ ∈ ((((D.flatMap eN1) ++ Rf)) : List Ro) from mAr _ (h))) h)))) r_1 hc)) ?_
  rintro _ w_ ⟨rfl, hd⟩
  have hS3 := hS2.out00 hd
  refine rn ?_
  refine cw_cond (b := r_1) rfl (fun hb1 => ?_) (fun hb1 => ?_)
  ·skip
   have hF2 := ct hb hb1
   refine cq (cr ?_)
   refine sQ 17 (ym (vi (i : Int))) <| sQ 4 (yg (vi (i : Int))) (rn (ct_ ?_))
   obtain rfl := sI hF2
   obtain rfl := sI hL1
   obtain rfl := sI hF1
   exact ret1 Tryz.results111 (v1 := vi (i : Int)) (resAt_tmp rfl) ⟨rfl, (hS3.sN [])⟩
  ·skip
   have hF3 := cf' hb hb1
   refine cw_skip (cr ?_)
   refine sQ 18 (yP (i : Int) 1 rfl (hf.g 8 3)) <| sQ 8 (ym (vi (i64.wrap ((i : Int) + 1)))) (rn ?_)
   obtain rfl := sI hF3
   have hS4 : ST w0 [] _ [] (⟨B, (D.flatMap eN3)⟩ :: ((D.flatMap eN1) ++ Rf)) := ST.subR hS3 (sk 1 (suba (fun r_ (h : r_ ∈ ((D.flatMap eN1) : List Ro)) => mOd (i := 2) (show r_ ∈ ((((D.flatMap eN1) ++ Rf)) : List Ro) from mAl _ h)) (fun r_ (h : r_ ∈ (Rf : List Ro)) => mOd (i := 2) (show r_ ∈ ((((D.flatMap eN1) ++ Rf)) : List Ro) from mAr _ (h)))))
   exact ⟨K7, Nat.lt_succ_self _, i + 1, (fc (hf.g 0 0) (fc (hf.g 1 1) (fc (hf.g 7 2) (fc (congrArg (Value.int .i64) (wr_succ hlt1 hN)) fn_)))), (hS4.sel [] rfl rfl), (by omega), hL1⟩
 ·skip
  obtain rfl : k_ = 0 := by have h := of_decide_eq_false hlt; omega
  refine cw_exit rfl ?_
  obtain rfl := sI hL
  refine cq (cr ?_)
  refine sQ 4 (yg (vi (-1))) (rn (ct_ ?_))
  obtain rfl := sI hF1
  exact ret1 Tryz.results111 (v1 := vi (-1)) (resAt_tmp rfl) ⟨rfl, (hS1.sN [])⟩

theorem c_slices_ContainsFunc_SSimpl_Dyadic_impl_Dyadic (s : List (List TDyadic)) (f_ : (List TDyadic) → Option (Bool)) (B : Option Addr) (c n : Nat) (D : List (Hd × (List TDyadic))) (kf : Nat) (caps : Array Value) (Rf : List Ro) (w0 : World) (hn : s.length = n) (hD : D.map Prod.snd = s) (hk : callB Tryz.prog kf = true) (hp : ∀ (w : World) (x : List TDyadic) (B_x : Option Addr) (c_x : Nat), ST w [] w [] (⟨B_x, (x.flatMap eN0)⟩ :: Rf) → ∀ (y : Bool), f_ x = some y → CV Tryz.prog kf ((.slice B_x x.length c_x) :: caps.toList).toArray w (fun v w' => v = .bool y ∧ ST w [] w' [] [])) (hS : ST w0 [] w0 [] (⟨B, (D.flatMap eN3)⟩ :: ((D.flatMap eN1) ++ Rf))) {r_ : Bool} (hF : F_slices_ContainsFunc_SSimpl_Dyadic_impl_Dyadic s f_ = some r_) :
  CV Tryz.prog 86 #[.slice B n c, .func (.func kf) #[] caps] w0 (fun v w' => v = .bool r_ ∧ ST w0 [] w' [] []) := by
 subst hn
 unfold F_slices_ContainsFunc_SSimpl_Dyadic_impl_Dyadic at hF
 refine cv_of_cw 9 Tryz.func86 rfl Tryz.ntmps86 rfl ?_
 refine cq (cr ?_)
 refine sQ 4 (yg (.bool false)) (rn (cq (cr ?_)))
 refine sQ 5 (ym (.slice B s.length c)) <| sQ 6 (ym (.func (.func kf) #[] caps)) ?_
 obtain ⟨r_1, hc, hF⟩ := bI hF
 refine sc 7 rfl rfl (yC [.slice B s.length c, .func (.func kf) #[] caps] k_call_111 (c_slices_IndexFunc_SSimpl_Dyadic_impl_Dyadic s f_ B c s.length D kf caps Rf _ (dl_fl hD (dl_len hD)) hD hk hp (hS.innS (sk 0 (fun _ h => mOd (i := 1) h))) hc)) ?_
 rintro _ w_ ⟨rfl, hd⟩
 have hS1 := hS.out00 hd
 refine sQ 8 (Y_ge (k := .i64) (a := r_1) (b := 0) rfl rfl rfl) <| sQ 4 (yg (.bool (decide (0 ≤ r_1)))) (rn (ct_ ?_))
 obtain rfl := sI hF
 exact ret1 Tryz.results86 (v1 := .bool (decide (0 ≤ r_1))) (resAt_tmp rfl) ⟨rfl, (hS1.sN [])⟩

theorem c_impl_cliffordList_1 (own : List TDyadic) (p : List TDyadic) (B : Option Addr) (c n : Nat) (B1 : Option Addr) (B2 : Option Addr) (c1 n1 : Nat) (w0 : World) (hn : own.length = n) (hn1 : p.length = n1) (hS : ST w0 [] w0 [] [⟨B, (own.flatMap eN0)⟩, ⟨B1, [.slice B2 n1 c1]⟩, ⟨B2, (p.flatMap eN0)⟩]) {r_ : Bool} (hF : F_impl_cliffordList_1 own p = some r_) :
  CV Tryz.prog 87 #[.slice B n c, pt B1 0] w0 (fun v w' => v = .bool r_ ∧ ST w0 [] w' [] []) := by
 subst hn
 subst hn1
 unfold F_impl_cliffordList_1 at hF
 refine cv_of_cw 7 Tryz.func87 rfl Tryz.ntmps87 rfl ?_
 refine cq (cr ?_)
 refine sQ 3 (yg (.bool false)) (rn (cq (cr ?_)))
 refine sQ 4 (ym (.slice B own.length c)) <| sQ 5 (yl B1 0 [.slice B2 p.length c1] (.slice B2 p.length c1) K16 (hS.rf (i := 1) rfl)) ?_
 obtain ⟨r_1, hc, hF⟩ := bI hF
 refine sc 6 rfl rfl (yC [.slice B own.length c, .slice B2 p.length c1] K122 (c_slices_Equal_impl_Dyadic_impl_Dyadic own p B c own.length B2 c1 p.length _ rfl rfl (hS.inn0 [(true, 0), (true, 2)] rfl) hc)) ?_
 rintro _ w_ ⟨rfl, hd⟩
 have hS1 := hS.out00 hd
 refine sQ 3 (yg (.bool r_1)) (rn (ct_ ?_))
 obtain rfl := sI hF
 exact ret1 Tryz.results87 (v1 := .bool r_1) (resAt_tmp rfl) ⟨rfl, (hS1.sN [])⟩

theorem c_impl_cliffordList   (w0 : World)  (hS : ST w0 [] w0 [] [⟨(aD 0), [vi 1, vi 0, vi 0, vi 0, vi 2]⟩]) {r_ : List (List UInt8)} {r_1 : List (List TDyadic)} (hF : F_impl_cliffordList = some (r_, r_1)) :
  CV Tryz.prog 52 #[] w0 (fun v w' => ∃ (B : Option Addr) (c : Nat) (B1 : Option Addr) (c1 : Nat) (D : List (Hd × (List TDyadic))), v = .tuple #[.slice B r_.length c, .slice B1 r_1.length c1] ∧ D.map Prod.snd = r_1 ∧ Org w0 [] [⟨(aD 0), [vi 1, vi 0, vi 0, vi 0, vi 2]⟩] (((D.flatMap eN1) ++ [])) ∧ ST w0 [] w' [⟨B, 9, (r_.flatMap encS), c * 1⟩, ⟨B1, 24, (D.flatMap eN3), c1 * 1⟩] (((D.flatMap eN1) ++ []))) := by
 unfold F_impl_cliffordList at hF
 refine cv_of_cw 80 Tryz.func52 rfl Tryz.ntmps52 rfl ?_
 refine cq (cr ?_)
 refine sQ 0 (yg (.slice none 0 0)) <| sQ 1 (yg (.slice none 0 0)) (rn (cq (cr ?_)))
 refine sS 13 (Ys_bslice0 (s := 5) (e := 48) hS K9 K1 rfl) ?_
 rintro _ w_ ⟨b, rfl, hS1⟩
 refine sQ 2 (yg (.slice (aD b) 0 0)) (rn (cq (cq (cr ?_))))
 refine sQ 14 (ym (vi 0)) (rn ?_)
 obtain ⟨z, hz, hF1⟩ := bI hF
 refine cw_block ?_
 refine cw_loop (fun k f w => ∃ (i : Nat) (one_ : List TDyadic) (B2 : Option Addr) (c2 : Nat), FF f [(2, .slice B2 one_.length c2), (14, vi (i : Int))] ∧ ST w0 [] w [⟨B2, 48, (one_.flatMap eN0), c2 * 5⟩] [⟨(aD 0), [vi 1, vi 0, vi 0, vi 0, vi 2]⟩] ∧ i + k = 9 ∧ forN F_impl_cliffordList_l1 k i one_ = some z) 9 ⟨0, [], aD b, 0, (fc rfl (fc rfl fn_)), (hS1.sel [0] rfl rfl), Nat.zero_add _, hz⟩ ?_
 rintro k_ f w ⟨i, one_, B2, c2, hf, hS2, hik, hL⟩
 refine cq (cr ?_)
 refine sQ 15 (yL (i : Int) 9 rfl (hf.g 14 1)) (rn (cq ?_))
 refine cw_cond (b := (decide ((i : Int) < 9))) rfl (fun hlt => ?_) (fun hlt => ?_)
 ·skip
  have hlt1 : i < 9 := by have h := of_decide_eq_true hlt; omega
  obtain ⟨K7, rfl⟩ : ∃ k2, k_ = k2 + 1 := ⟨k_ - 1, by omega⟩
  obtain ⟨y, hb, hL1⟩ := forN_go hL
  unfold F_impl_cliffordList_l1 at hb
  refine cw_skip (cq (cw_block (cq (cr ?_))))
  refine sQ 16 (ym (vi (i : Int)) rfl (hf.g 14 1)) <| sQ 3 (yg (vi (i : Int))) (rn (cr ?_))
  refine sQ 17 (ym (.slice B2 one_.length c2) rfl (hf.g 2 0)) <| sQ 18 (ym (vi (i : Int))) <| sQ 19 (Y_rem (k := .i64) (a := (i : Int)) (b := 4) rfl rfl rfl (by decide)) <| sQ 20 (yE (Int.tmod (i : Int) 4) 0) ?_
  obtain ⟨r_2, hc, hb⟩ := bI hb
  refine sc 21 rfl rfl (yC [.bool ((Int.tmod (i : Int) 4) == 0)] K119 (c_impl_small ((Int.tmod (i : Int) 4) == 0) _  (hS2.inn0 [] rfl) hc)) ?_
  rintro _ w_1 ⟨rfl, hd⟩
  have hS3 := hS2.out00 hd
  obtain ⟨r_3, hc1, hb⟩ := bI hb
  refine sc 22 rfl rfl (yC [vi r_2] K87 (c_impl_whole r_2 _  (hS3.inn0 [] rfl) hc1)) ?_
  rintro _ w_2 ⟨rfl, hd1⟩
  have hS4 := hS3.out00 hd1
  refine sS 23 (Ys_bslice (s := 5) (len := 1) (vs := [(0, gD_ r_3)]) (cs := kD_ r_3) (zs := kZ_) (m := 5) hS4 K9 K1 K38 rfl (mpc rfl mpn) rfl rfl rfl (by kernel_rfl) (by kernel_rfl) rfl) ?_
  rintro _ w_3 ⟨b1, rfl, hS5⟩
  obtain ⟨hap, hb⟩ := chk_inv hb
  refine sS 24 (Ys_append (s := 5) (by' := 40) (i := 0) (nn := one_.length) (c := c2) (k := 1) (len := (one_ ++ [r_3]).length) (B := B2) (xs := ([r_3].flatMap eN0)) (cs' := ((one_ ++ [r_3]).flatMap eN0)) hS5 K9 K1 K47 K6 rfl (by decide) rfl rfl rfl rfl (fm_lenn (l := one_) eN2 rfl) rfl (hS5.c 1) (fm_lenn (l := [r_3]) eN2 rfl) (fm_one' (enc := eN0) enc_Dyadic_one [r_3]) (by have := hap; omega) (by have := hap; simp only [maxLen]; omega) (fm_app _ _) (app_len (l := one_) (l' := [r_3]) rfl rfl)) ?_
  rintro _ w_4 ⟨B3, c3, rfl, hS6⟩
  refine sQ 2 (yg (.slice B3 ((one_ ++ [r_3]).length) c3)) (rn (cr ?_))
  refine sQ 25 (yP (i : Int) 1 rfl (hf.g 14 1)) <| sQ 14 (ym (vi (i64.wrap ((i : Int) + 1)))) (rn ?_)
  obtain rfl := sI hb
  exact ⟨K7, Nat.lt_succ_self _, i + 1, (one_ ++ [r_3]), B3, c3, (fc rfl (fc (congrArg (Value.int .i64) (wr_succ hlt1 (show 9 ≤ 9223372036854775807 by decide))) fn_)), (hS6.sel [0] rfl rfl), (by omega), hL1⟩
 ·skip
  obtain rfl : k_ = 0 := by have h := of_decide_eq_false hlt; omega
  refine cw_exit rfl ?_
  obtain rfl := sI hL
  refine cq (cr ?_)
  refine sS 26 (Ys_bslice (s := 1) (len := 1) (vs := [(0, .string (bstr ([] : List UInt8)))]) (cs := [.string (bstr ([] : List UInt8))]) (zs := [.string (bstr ([] : List UInt8))]) (m := 1) hS2 K33 K24 K71 rfl (mpc rfl mpn) rfl rfl rfl (by kernel_rfl) (by kernel_rfl) rfl) ?_
  rintro _ w_5 ⟨b2, rfl, hS7⟩
  refine sQ 27 (ym (.slice B2 one_.length c2) rfl (hf.g 2 0)) ?_
  have ho : Org w0 [] [⟨(aD 0), [vi 1, vi 0, vi 0, vi 0, vi 2]⟩] [⟨B2, (one_.flatMap eN0)⟩] := ST.orgOwn hS7 (i := 0) rfl
  have hcap : one_.length ≤ c2 := (hS7.lencap (i := 0) rfl (fm_lenn (l := one_) eN2 rfl) rfl rfl)
  have hS8 : ST w0 [] _ [⟨aD b2, 9, ([([] : List UInt8)].flatMap encS), 1 * 1⟩] [⟨B2, (one_.flatMap eN0)⟩, ⟨(aD 0), [vi 1, vi 0, vi 0, vi 0, vi 2]⟩] := hS7.freeze (i := 0) rfl
  refine sS 28 (Ys_bslice (s := 1) (len := 1) (vs := [(0, .slice B2 one_.length c2)]) (cs := [.slice B2 one_.length c2]) (zs := [.slice none 0 0]) (m := 1) hS8 K44 K11 K75 rfl (mpc rfl mpn) rfl rfl rfl (by kernel_rfl) (by kernel_rfl) rfl) ?_
  rintro _ w_6 ⟨b3, rfl, hS9⟩
  have hm : ∀ r ∈ ((lH B2 c2 one_).flatMap eN1), r ∈ ([⟨B2, (one_.flatMap eN0)⟩, ⟨(aD 0), [vi 1, vi 0, vi 0, vi 0, vi 2]⟩] : List Ro) := (fsub_cons (sk 0 (fun _ h => by cases h)) fsub_nil)
  have ho1 : Org w0 [] [⟨(aD 0), [vi 1, vi 0, vi 0, vi 0, vi 2]⟩] ((lH B2 c2 one_).flatMap eN1) := (forg_cons (org_cons ho org_nil) forg_nil)
  have hS10 : ST w0 [] _ [⟨aD b2, 9, ([([] : List UInt8)].flatMap encS), 1 * 1⟩, ⟨aD b3, 24, ((lH B2 c2 one_).flatMap eN3), 1 * 1⟩] (⟨B2, (one_.flatMap eN0)⟩ :: ⟨(aD 0), [vi 1, vi 0, vi 0, vi 0, vi 2]⟩ :: (((lH B2 c2 one_).flatMap eN1) ++ [])) := ST.subR hS9 (sk 0 (sk 1 (suba hm (fun _ h => by cases h))))
  refine sQ 4 (yg (.slice (aD b2) 1 1)) <| sQ 5 (yg (.slice (aD b3) 1 1)) (rn (cq (cr ?_)))
  obtain ⟨r_4, hc2, hF1⟩ := bI hF1
  refine sc 29 rfl rfl (yC [vi 1] k_call_85 (c_impl_blochGate 1 _  (hS10.inn0 [(true, 1)] rfl) hc2)) ?_
  rintro _ w_7 ⟨B4, c4, rfl, hd2⟩
  have hS11 := hS10.out0 hd2
  refine sQ 30 (Y_field1 (v := .slice B4 r_4.Cells.length c4) K40 K16 rfl rfl rfl) ?_
  obtain ⟨r_5, hc3, hF1⟩ := bI hF1
  refine sc 31 rfl rfl (yC [vi 5] k_call_85 (c_impl_blochGate 5 _  (hS11.inn0 [(true, 1)] rfl) hc3)) ?_
  rintro _ w_8 ⟨B5, c5, rfl, hd3⟩
  have hS12 := hS11.out0 hd3
  refine sQ 32 (Y_field1 (v := .slice B5 r_5.Cells.length c5) K40 K16 rfl rfl rfl) <| sQ 6 (yg (.slice B4 r_4.Cells.length c4)) <| sQ 7 (yg (.slice B5 r_5.Cells.length c5)) (rn (cq (cq (cr ?_))))
  refine sQ 8 (yg (vi 0)) (rn ?_)
  obtain ⟨z1, hz1, hF2⟩ := bI hF1
  have ho5 : Org w0 [] [⟨(aD 0), [vi 1, vi 0, vi 0, vi 0, vi 2]⟩] [⟨B4, (r_4.Cells.flatMap eN0)⟩] := ST.orgOwn hS12 (i := 2) rfl
  have hcap1 : r_4.Cells.length ≤ c4 := (hS12.lencap (i := 2) rfl (fm_lenn (l := r_4.Cells) eN2 rfl) rfl rfl)
  have hS14 : ST w0 [] _ [⟨aD b2, 9, ([([] : List UInt8)].flatMap encS), 1 * 1⟩, ⟨aD b3, 24, ((lH B2 c2 one_).flatMap eN3), 1 * 1⟩, ⟨B5, 48, (r_5.Cells.flatMap eN0), c5 * 5⟩] (⟨B4, (r_4.Cells.flatMap eN0)⟩ :: ⟨B2, (one_.flatMap eN0)⟩ :: ⟨(aD 0), [vi 1, vi 0, vi 0, vi 0, vi 2]⟩ :: (((lH B2 c2 one_).flatMap eN1) ++ [])) := hS12.freeze (i := 2) rfl
  have ho6 : Org w0 [] [⟨(aD 0), [vi 1, vi 0, vi 0, vi 0, vi 2]⟩] [⟨B5, (r_5.Cells.flatMap eN0)⟩] := ST.orgOwn hS14 (i := 2) rfl
  have hcap2 : r_5.Cells.length ≤ c5 := (hS14.lencap (i := 2) rfl (fm_lenn (l := r_5.Cells) eN2 rfl) rfl rfl)
  have hS15 : ST w0 [] _ [⟨aD b2, 9, ([([] : List UInt8)].flatMap encS), 1 * 1⟩, ⟨aD b3, 24, ((lH B2 c2 one_).flatMap eN3), 1 * 1⟩] (⟨B5, (r_5.Cells.flatMap eN0)⟩ :: ⟨B4, (r_4.Cells.flatMap eN0)⟩ :: ⟨B2, (one_.flatMap eN0)⟩ :: ⟨(aD 0), [vi 1, vi 0, vi 0, vi 0, vi 2]⟩ :: (((lH B2 c2 one_).flatMap eN1) ++ [])) := hS14.freeze (i := 2) rfl
  refine cw_block ?_
  refine cw_loop (fun k f w => ∃ (words : List (List UInt8)) (list : List (List TDyadic)) (at_1 : Int) (B6 : Option Addr) (c6 : Nat) (B7 : Option Addr) (c7 : Nat) (D1 : List (Hd × (List TDyadic))), FF f [(4, .slice B6 words.length c6), (5, .slice B7 list.length c7), (6, .slice B4 r_4.Cells.length c4), (7, .slice B5 r_5.Cells.length c5), (8, vi at_1)] ∧ D1.map Prod.snd = list ∧ Org w0 [] [⟨(aD 0), [vi 1, vi 0, vi 0, vi 0, vi 2]⟩] (D1.flatMap eN1) ∧ Org w0 [] [⟨(aD 0), [vi 1, vi 0, vi 0, vi 0, vi 2]⟩] [⟨B4, (r_4.Cells.flatMap eN0)⟩] ∧ r_4.Cells.length ≤ c4 ∧ Org w0 [] [⟨(aD 0), [vi 1, vi 0, vi 0, vi 0, vi 2]⟩] [⟨B5, (r_5.Cells.flatMap eN0)⟩] ∧ r_5.Cells.length ≤ c5 ∧ ST w0 [] w [⟨B6, 9, (words.flatMap encS), c6 * 1⟩, ⟨B7, 24, (D1.flatMap eN3), c7 * 1⟩] (⟨B5, (r_5.Cells.flatMap eN0)⟩ :: ⟨B4, (r_4.Cells.flatMap eN0)⟩ :: ⟨B2, (one_.flatMap eN0)⟩ :: ⟨(aD 0), [vi 1, vi 0, vi 0, vi 0, vi 2]⟩ :: ((D1.flatMap eN1) ++ [])) ∧ whX (F_impl_cliffordList_l2 r_4 r_5) k (words, list, at_1) = some z1) fuel ⟨[([] : List UInt8)], ([one_] : List (List TDyadic)), 0, aD b2, 1, aD b3, 1, (lH B2 c2 one_), (fc rfl (fc rfl (fc rfl (fc rfl (fc rfl fn_))))), (show List.map Prod.snd (lH B2 c2 one_) = ([one_] : List (List TDyadic)) from rfl), ho1, ho5, (len_le rfl hcap1), ho6, (len_le rfl hcap2), (hS15.sel [0, 1] rfl rfl), hz1⟩ ?_
  rintro K15 f w ⟨words, list, at_1, B6, c6, B7, c7, D1, hf1, hD1, ho2, ho3, hq, ho4, hq1, hS13, hL2⟩
  obtain ⟨K28, y1, rfl, hb1, hL3⟩ := whX_go hL2
  unfold F_impl_cliffordList_l2 at hb1
  refine cq (cq (cr ?_))
  refine sQ 33 (ym (vi at_1) rfl (hf1.g 8 4)) <| sQ 34 (ym (.slice B6 words.length c6) rfl (hf1.g 4 0)) <| sQ 35 (Y_len (B := B6) (m := words.length) (c := c6) K33 rfl rfl) <| sQ 36 (yL at_1 (words.length : Int)) (rn ?_)
  refine cw_cond (b := (decide (at_1 < (words.length : Int)))) rfl (fun hb2 => ?_) (fun hb2 => ?_)
  ·skip
   have hF3 := ct hb1 hb2
   refine cw_skip (cq (cw_block (cq (cr ?_))))
   refine sQ 39 (ym (.slice B4 r_4.Cells.length c4) rfl (hf1.g 6 2)) <| sQ 40 (ym (.slice B5 r_5.Cells.length c5) rfl (hf1.g 7 3)) ?_
   refine sS 41 (Ys_bslice (s := 1) (len := 2) (vs := [(0, .slice B4 r_4.Cells.length c4), (1, .slice B5 r_5.Cells.length c5)]) (cs := [.slice B4 r_4.Cells.length c4, .slice B5 r_5.Cells.length c5]) (zs := [.slice none 0 0, .slice none 0 0]) (m := 2) hS13 K44 K11 K75 rfl (mpc rfl (mpc rfl mpn)) rfl rfl rfl (by kernel_rfl) (by kernel_rfl) rfl) ?_
   rintro _ w_9 ⟨b4, rfl, hS16⟩
   have hm1 : ∀ r ∈ (([((B4, c4), r_4.Cells), ((B5, c5), r_5.Cells)] : List (Hd × (List TDyadic))).flatMap eN1), r ∈ ((⟨B5, (r_5.Cells.flatMap eN0)⟩ :: ⟨B4, (r_4.Cells.flatMap eN0)⟩ :: ⟨B2, (one_.flatMap eN0)⟩ :: ⟨(aD 0), [vi 1, vi 0, vi 0, vi 0, vi 2]⟩ :: ((D1.flatMap eN1) ++ [])) : List Ro) := (fsub_cons (sk 1 (fun _ h => by cases h)) (fsub_cons (sk 0 (fun _ h => by cases h)) fsub_nil))
   have ho7 : Org w0 [] [⟨(aD 0), [vi 1, vi 0, vi 0, vi 0, vi 2]⟩] (([((B4, c4), r_4.Cells), ((B5, c5), r_5.Cells)] : List (Hd × (List TDyadic))).flatMap eN1) := (forg_cons (org_cons ho3 org_nil) (forg_cons (org_cons ho4 org_nil) forg_nil))
   have hS17 : ST w0 [] _ [⟨B6, 9, (words.flatMap encS), c6 * 1⟩, ⟨B7, 24, (D1.flatMap eN3), c7 * 1⟩, ⟨aD b4, 24, (([((B4, c4), r_4.Cells), ((B5, c5), r_5.Cells)] : List (Hd × (List TDyadic))).flatMap eN3), 2 * 1⟩] (⟨B5, (r_5.Cells.flatMap eN0)⟩ :: ⟨B4, (r_4.Cells.flatMap eN0)⟩ :: ⟨B2, (one_.flatMap eN0)⟩ :: ⟨(aD 0), [vi 1, vi 0, vi 0, vi 0, vi 2]⟩ :: ((([((B4, c4), r_4.Cells), ((B5, c5), r_5.Cells)] : List (Hd × (List TDyadic))).flatMap eN1) ++ ((D1.flatMap eN1) ++ []))) := ST.subR hS16 (sk 0 (sk 1 (sk 2 (sk 3 (suba hm1 (suba (fun r_ (h : r_ ∈ ((D1.flatMap eN1) : List Ro)) => mOd (i := 4) (show r_ ∈ ((((D1.flatMap eN1) ++ [])) : List Ro) from mAl _ h)) (fun _ h => by cases h)))))))
   refine sQ 42 (Y_len (B := aD b4) (m := 2) (c := 2) K44 rfl rfl) <| sQ 43 (ym (vi 0)) (rn ?_)
   obtain ⟨z2, hz2, hF4⟩ := bI hF3
   have hS19 : ST w0 [] _ [⟨B6, 9, (words.flatMap encS), c6 * 1⟩, ⟨B7, 24, (D1.flatMap eN3), c7 * 1⟩, ⟨aD b4, 24, (([((B4, c4), r_4.Cells), ((B5, c5), r_5.Cells)] : List (Hd × (List TDyadic))).flatMap eN3), 2 * 1⟩] (⟨B5, (r_5.Cells.flatMap eN0)⟩ :: ⟨B4, (r_4.Cells.flatMap eN0)⟩ :: ⟨B2, (one_.flatMap eN0)⟩ :: ⟨(aD 0), [vi 1, vi 0, vi 0, vi 0, vi 2]⟩ :: ((D1.flatMap eN1) ++ ((([((B4, c4), r_4.Cells), ((B5, c5), r_5.Cells)] : List (Hd × (List TDyadic))).flatMap eN1) ++ []))) := ST.subR hS17 (sk 0 (sk 1 (sk 2 (sk 3 (suba (fun r_ (h : r_ ∈ ((D1.flatMap eN1) : List Ro)) => mOd (i := 4) (show r_ ∈ ((((([((B4, c4), r_4.Cells), ((B5, c5), r_5.Cells)] : List (Hd × (List TDyadic))).flatMap eN1) ++ ((D1.flatMap eN1) ++ []))) : List Ro) from mAr _ (mAl _ h))) (suba (fun r_ (h : r_ ∈ ((([((B4, c4), r_4.Cells), ((B5, c5), r_5.Cells)] : List (Hd × (List TDyadic))).flatMap eN1) : List Ro)) => mOd (i := 4) (show r_ ∈ ((((([((B4, c4), r_4.Cells), ((B5, c5), r_5.Cells)] : List (Hd × (List TDyadic))).flatMap eN1) ++ ((D1.flatMap eN1) ++ []))) : List Ro) from mAl _ h)) (fun _ h => by cases h)))))))
   refine cw_block ?_
   refine cw_loop (fun k f w => ∃ (i2 : Nat) (words1 : List (List UInt8)) (list1 : List (List TDyadic)) (B8 : Option Addr) (c8 : Nat) (B9 : Option Addr) (c9 : Nat) (D2 : List (Hd × (List TDyadic))) (D3 : List (Hd × (List TDyadic))), FF f [(4, .slice B8 words1.length c8), (5, .slice B9 list1.length c9), (6, .slice B4 r_4.Cells.length c4), (7, .slice B5 r_5.Cells.length c5), (8, vi at_1), (41, .slice (aD b4) (([r_4.Cells, r_5.Cells] : List (List TDyadic)).length) 2), (42, vi 2), (43, vi (i2 : Int))] ∧ D2.map Prod.snd = list1 ∧ Org w0 [] [⟨(aD 0), [vi 1, vi 0, vi 0, vi 0, vi 2]⟩] (D2.flatMap eN1) ∧ D3.map Prod.snd = ([r_4.Cells, r_5.Cells] : List (List TDyadic)) ∧ Org w0 [] [⟨(aD 0), [vi 1, vi 0, vi 0, vi 0, vi 2]⟩] (D3.flatMap eN1) ∧ ST w0 [] w [⟨B8, 9, (words1.flatMap encS), c8 * 1⟩, ⟨B9, 24, (D2.flatMap eN3), c9 * 1⟩, ⟨aD b4, 24, (D3.flatMap eN3), 2 * 1⟩] (⟨B5, (r_5.Cells.flatMap eN0)⟩ :: ⟨B4, (r_4.Cells.flatMap eN0)⟩ :: ⟨B2, (one_.flatMap eN0)⟩ :: ⟨(aD 0), [vi 1, vi 0, vi 0, vi 0, vi 2]⟩ :: ((D2.flatMap eN1) ++ ((D3.flatMap eN1) ++ []))) ∧ i2 + k = 2 ∧ forN (F_impl_cliffordList_l3 r_4 r_5 at_1) k i2 (words1, list1) = some z2) 2 ⟨0, words, list, B6, c6, B7, c7, D1, ([((B4, c4), r_4.Cells), ((B5, c5), r_5.Cells)] : List (Hd × (List TDyadic))), (fc (hf1.g 4 0) (fc (hf1.g 5 1) (fc (hf1.g 6 2) (fc (hf1.g 7 3) (fc (hf1.g 8 4) (fc rfl (fc rfl (fc rfl fn_)))))))), hD1, ho2, (show List.map Prod.snd ([((B4, c4), r_4.Cells), ((B5, c5), r_5.Cells)] : List (Hd × (List TDyadic))) = ([r_4.Cells, r_5.Cells] : List (List TDyadic)) from rfl), ho7, (hS19.sel [0, 1, 2] rfl rfl), Nat.zero_add _, hz2⟩ ?_
   rintro K14 f w ⟨i2, words1, list1, B8, c8, B9, c9, D2, D3, hf2, hD2, ho8, hD3, ho9, hS18, hik2, hL4⟩
   refine cq (cr ?_)
   refine sQ 44 (yL (i2 : Int) 2 rfl (hf2.g 43 7) (hf2.g 42 6)) (rn (cq ?_))
   refine cw_cond (b := (decide ((i2 : Int) < 2))) rfl (fun hlt2 => ?_) (fun hlt2 => ?_)
   ·skip
    have hlt3 : i2 < 2 := by have h := of_decide_eq_true hlt2; omega
    obtain ⟨K68, rfl⟩ : ∃ k2, K14 = k2 + 1 := ⟨K14 - 1, by omega⟩
    obtain ⟨y2, hb3, hL5⟩ := forN_go hL4
    unfold F_impl_cliffordList_l3 at hb3
    refine cw_skip (cq ?_)
    obtain ⟨z3, hz3, hF5⟩ := bI hb3
    refine cw_mid (fun f w => ∃ (words2 : List (List UInt8)) (list2 : List (List TDyadic)) (B10 : Option Addr) (c10 : Nat) (B11 : Option Addr) (c11 : Nat) (D4 : List (Hd × (List TDyadic))) (D5 : List (Hd × (List TDyadic))), (words2, list2) = z3 ∧ FF f [(4, .slice B10 words2.length c10), (5, .slice B11 list2.length c11), (6, .slice B4 r_4.Cells.length c4), (7, .slice B5 r_5.Cells.length c5), (8, vi at_1), (41, .slice (aD b4) (([r_4.Cells, r_5.Cells] : List (List TDyadic)).length) 2), (42, vi 2), (43, vi (i2 : Int))] ∧ D4.map Prod.snd = list2 ∧ Org w0 [] [⟨(aD 0), [vi 1, vi 0, vi 0, vi 0, vi 2]⟩] (D4.flatMap eN1) ∧ D5.map Prod.snd = ([r_4.Cells, r_5.Cells] : List (List TDyadic)) ∧ Org w0 [] [⟨(aD 0), [vi 1, vi 0, vi 0, vi 0, vi 2]⟩] (D5.flatMap eN1) ∧ ST w0 [] w [⟨B10, 9, (words2.flatMap encS), c10 * 1⟩, ⟨B11, 24, (D4.flatMap eN3), c11 * 1⟩, ⟨aD b4, 24, (D5.flatMap eN3), 2 * 1⟩] (⟨B5, (r_5.Cells.flatMap eN0)⟩ :: ⟨B4, (r_4.Cells.flatMap eN0)⟩ :: ⟨B2, (one_.flatMap eN0)⟩ :: ⟨(aD 0), [vi 1, vi 0, vi 0, vi 0, vi 2]⟩ :: ((D4.flatMap eN1) ++ ((D5.flatMap eN1) ++ [])))) ?_ ?_
    ·skip
     refine cw_block (cq (cr ?_))
     refine sQ 45 (ym (vi (i2 : Int)) rfl (hf2.g 43 7)) ?_
     obtain ⟨x, hx, hz3⟩ := bI hz3
     obtain ⟨⟨B12, c12⟩, hp⟩ := getI_snd hD3 hx
     refine sQ 46 (Y_index (B := aD b4) (m := ([r_4.Cells, r_5.Cells] : List (List TDyadic)).length) (c := 2) (k := .i64) (i := (i2 : Int)) K44 K11 rfl (hf2.g 41 5) (hf2.g 43 7) (gi_isSome encD_SDyadic_len rfl (hS18.c 2) hp) (getI_nn hp) (getI_ltI hp (dl_len hD3))) ?_
     have hm2 : (⟨B12, (x.flatMap eN0)⟩ : Ro) ∈ ((⟨B5, (r_5.Cells.flatMap eN0)⟩ :: ⟨B4, (r_4.Cells.flatMap eN0)⟩ :: ⟨B2, (one_.flatMap eN0)⟩ :: ⟨(aD 0), [vi 1, vi 0, vi 0, vi 0, vi 2]⟩ :: ((D2.flatMap eN1) ++ ((D3.flatMap eN1) ++ []))) : List Ro) := app_mem (fun r_ (h : r_ ∈ ((D3.flatMap eN1) : List Ro)) => mOd (i := 4) (show r_ ∈ ((((D2.flatMap eN1) ++ ((D3.flatMap eN1) ++ []))) : List Ro) from mAr _ (mAl _ h))) (row_mem (rw_ := eN1) hp _ (mt 0))
     have hS21 : ST w0 [] _ [⟨B8, 9, (words1.flatMap encS), c8 * 1⟩, ⟨B9, 24, (D2.flatMap eN3), c9 * 1⟩, ⟨aD b4, 24, (D3.flatMap eN3), 2 * 1⟩] (⟨B12, (x.flatMap eN0)⟩ :: ⟨B5, (r_5.Cells.flatMap eN0)⟩ :: ⟨B4, (r_4.Cells.flatMap eN0)⟩ :: ⟨B2, (one_.flatMap eN0)⟩ :: ⟨(aD 0), [vi 1, vi 0, vi 0, vi 0, vi 2]⟩ :: ((D2.flatMap eN1) ++ ((D3.flatMap eN1) ++ []))) := ST.subR hS18 (subc hm2 (fun _ h => h))
     refine sQ 47 (yl (aD b4) ((i2 : Int).toNat * 1) (D3.flatMap eN3) (.slice B12 x.length c12) K16 (hS21.c 2) rfl rfl (gi_at0 encD_SDyadic_len hp rfl)) <| sQ 9 (yg (vi (i2 : Int))) <| sQ 10 (yg (.slice B12 x.length c12)) (rn (cq (cr ?_)))
     refine sQ 49 (ym (.slice B12 x.length c12)) <| sQ 50 (ym (.slice B9 list1.length c9) rfl (hf2.g 5 1)) <| sQ 51 (ym (vi at_1) rfl (hf2.g 8 4)) ?_
     obtain ⟨x1, hx1, hz3⟩ := bI hz3
     obtain ⟨⟨B13, c13⟩, hp1⟩ := getI_snd hD2 hx1
     refine sQ 52 (Y_index (B := B9) (m := list1.length) (c := c9) (k := .i64) (i := at_1) K44 K11 rfl rfl rfl (gi_isSome encD_SDyadic_len rfl (hS21.c 1) hp1) (getI_nn hp1) (getI_ltI hp1 (dl_len hD2))) ?_
     have hm3 : (⟨B13, (x1.flatMap eN0)⟩ : Ro) ∈ ((⟨B12, (x.flatMap eN0)⟩ :: ⟨B5, (r_5.Cells.flatMap eN0)⟩ :: ⟨B4, (r_4.Cells.flatMap eN0)⟩ :: ⟨B2, (one_.flatMap eN0)⟩ :: ⟨(aD 0), [vi 1, vi 0, vi 0, vi 0, vi 2]⟩ :: ((D2.flatMap eN1) ++ ((D3.flatMap eN1) ++ []))) : List Ro) := app_mem (fun r_ (h : r_ ∈ ((D2.flatMap eN1) : List Ro)) => mOd (i := 5) (show r_ ∈ ((((D2.flatMap eN1) ++ ((D3.flatMap eN1) ++ []))) : List Ro) from mAl _ h)) (row_mem (rw_ := eN1) hp1 _ (mt 0))
     have hS22 : ST w0 [] _ [⟨B8, 9, (words1.flatMap encS), c8 * 1⟩, ⟨B9, 24, (D2.flatMap eN3), c9 * 1⟩, ⟨aD b4, 24, (D3.flatMap eN3), 2 * 1⟩] (⟨B13, (x1.flatMap eN0)⟩ :: ⟨B12, (x.flatMap eN0)⟩ :: ⟨B5, (r_5.Cells.flatMap eN0)⟩ :: ⟨B4, (r_4.Cells.flatMap eN0)⟩ :: ⟨B2, (one_.flatMap eN0)⟩ :: ⟨(aD 0), [vi 1, vi 0, vi 0, vi 0, vi 2]⟩ :: ((D2.flatMap eN1) ++ ((D3.flatMap eN1) ++ []))) := ST.subR hS21 (subc hm3 (fun _ h => h))
     refine sQ 53 (yl B9 (at_1.toNat * 1) (D2.flatMap eN3) (.slice B13 x1.length c13) K16 (hS22.c 1) rfl rfl (gi_at0 encD_SDyadic_len hp1 rfl)) ?_
     obtain ⟨⟨r_6, r_7⟩, hc4, hz3⟩ := bI hz3
     refine sc 54 rfl rfl (yC [.slice B12 x.length c12, .slice B13 x1.length c13] K124 (c_impl_mulBloch x x1 B12 c12 x.length B13 c13 x1.length _ rfl rfl (hS22.inn0 [(true, 1), (true, 0)] rfl) hc4)) ?_
     rintro _ w_10 ⟨B14, c14, rfl, hd4⟩
     have hS23 := hS22.out0 hd4
     refine sQ 48 (ym (.tuple #[.slice B14 r_6.length c14, .bool r_7])) <| sQ 55 (ye (.slice B14 r_6.length c14)) <| sQ 56 (ye (.bool r_7)) ?_
     refine sS 11 (yN [.slice none 0 0] 1 hS23 K91) ?_
     rintro _ w_11 ⟨b5, rfl, hS24⟩
     refine s0 (yT 4 1 (aD b5) 24 (.slice B14 r_6.length c14) [.slice B14 r_6.length c14] 0 hS24 K11) ?_
     rintro _ w_12 ⟨rfl, hS25⟩
     refine sQ 12 (yg (.bool r_7)) (rn (cq (cr ?_)))
     refine sQ 57 (ym (.slice B9 list1.length c9) rfl (hf2.g 5 1)) <| sQ 58 (Y_makeFunc (cs := [pt (aD b5) 0]) rfl rfl (mc rfl mn)) ?_
     obtain ⟨r_8, hc5, hz3⟩ := bI hz3
     refine sc 59 rfl rfl (yC [.slice B9 list1.length c9, .func (.func 87) #[] #[pt (aD b5) 0]] k_call_86 (c_slices_ContainsFunc_SSimpl_Dyadic_impl_Dyadic list1 (fun x_0 => F_impl_cliffordList_1 x_0 r_6) B9 c9 list1.length D2 87 (#[pt (aD b5) 0]) [⟨aD b5, [.slice B14 r_6.length c14]⟩, ⟨B14, (r_6.flatMap eN0)⟩] _ (dl_fl hD2 (dl_len hD2)) hD2 k_call_87 (fun w x_0 B_0 c_0 hw y_0 h_ => c_impl_cliffordList_1 x_0 r_6 B_0 c_0 x_0.length (aD b5) B14 c14 r_6.length w rfl rfl hw h_) (hS25.innR0 (srcO (i := 1) rfl (srcG (fun r_ (h : r_ ∈ ((D2.flatMap eN1) : List Ro)) => mOd (i := 6) (show r_ ∈ ((((D2.flatMap eN1) ++ ((D3.flatMap eN1) ++ []))) : List Ro) from mAl _ h)) (srcO (i := 4) rfl (srcO (i := 3) rfl (fun _ h => by cases h)))))) hc5)) ?_
     rintro _ w_13 ⟨rfl, hd5⟩
     have hS26 := hS25.out00 hd5
     refine sQ 60 (Y_not (p := r_8) rfl rfl) (rn ?_)
     refine cw_cond (b := (!r_8)) rfl (fun hb4 => ?_) (fun hb4 => ?_)
     ·skip
      have hF6 := ct hz3 hb4
      obtain ⟨x2, hx2, hF6⟩ := bI hF6
      obtain ⟨hss, hF6⟩ := chk_inv hF6
      obtain ⟨hsa, hF6⟩ := chk_inv hF6
      obtain ⟨hap1, hF6⟩ := chk_inv hF6
      obtain ⟨hap2, hF6⟩ := chk_inv hF6
      have ho15 : Org w0 [] [⟨(aD 0), [vi 1, vi 0, vi 0, vi 0, vi 2]⟩] [⟨B14, (r_6.flatMap eN0)⟩] := ST.orgOwn hS26 (i := 3) rfl
      have hcap4 : r_6.length ≤ c14 := (hS26.lencap (i := 3) rfl (fm_lenn (l := r_6) eN2 rfl) rfl rfl)
      have hS30 : ST w0 [] _ [⟨B8, 9, (words1.flatMap encS), c8 * 1⟩, ⟨B9, 24, (D2.flatMap eN3), c9 * 1⟩, ⟨aD b4, 24, (D3.flatMap eN3), 2 * 1⟩, ⟨aD b5, 24, [.slice B14 r_6.length c14], 1⟩] (⟨B14, (r_6.flatMap eN0)⟩ :: ⟨B13, (x1.flatMap eN0)⟩ :: ⟨B12, (x.flatMap eN0)⟩ :: ⟨B5, (r_5.Cells.flatMap eN0)⟩ :: ⟨B4, (r_4.Cells.flatMap eN0)⟩ :: ⟨B2, (one_.flatMap eN0)⟩ :: ⟨(aD 0), [vi 1, vi 0, vi 0, vi 0, vi 2]⟩ :: ((D2.flatMap eN1) ++ ((D3.flatMap eN1) ++ []))) := hS26.freeze (i := 3) rfl
      refine cw_mid (fun f w => ∃ (B17 : Option Addr) (c17 : Nat) (B18 : Option Addr) (c18 : Nat) (D6 : List (Hd × (List TDyadic))), FF f [(4, .slice B17 ((words1 ++ [(x2 ++ (dT i2))]).length) c17), (5, .slice B18 ((list1 ++ ([r_6] : List (List TDyadic))).length) c18), (6, .slice B4 r_4.Cells.length c4), (7, .slice B5 r_5.Cells.length c5), (8, vi at_1), (41, .slice (aD b4) (([r_4.Cells, r_5.Cells] : List (List TDyadic)).length) 2), (42, vi 2), (43, vi (i2 : Int))] ∧ D6.map Prod.snd = (list1 ++ ([r_6] : List (List TDyadic))) ∧ Org w0 [] [⟨(aD 0), [vi 1, vi 0, vi 0, vi 0, vi 2]⟩] (D6.flatMap eN1) ∧ ST w0 [] w [⟨B17, 9, ((words1 ++ [(x2 ++ (dT i2))]).flatMap encS), c17 * 1⟩, ⟨B18, 24, (D6.flatMap eN3), c18 * 1⟩, ⟨aD b4, 24, (D3.flatMap eN3), 2 * 1⟩] (⟨B14, (r_6.flatMap eN0)⟩ :: ⟨B13, (x1.flatMap eN0)⟩ :: ⟨B12, (x.flatMap eN0)⟩ :: ⟨B5, (r_5.Cells.flatMap eN0)⟩ :: ⟨B4, (r_4.Cells.flatMap eN0)⟩ :: ⟨B2, (one_.flatMap eN0)⟩ :: ⟨(aD 0), [vi 1, vi 0, vi 0, vi 0, vi 2]⟩ :: ((D6.flatMap eN1) ++ ((D3.flatMap eN1) ++ [])))) ?_ ?_
      ·skip
       refine ra_start (ST.subR (hS30.se [2, 3]) (R' := (⟨B14, (r_6.flatMap eN0)⟩ :: ⟨B13, (x1.flatMap eN0)⟩ :: ⟨B12, (x.flatMap eN0)⟩ :: ⟨B5, (r_5.Cells.flatMap eN0)⟩ :: ⟨B4, (r_4.Cells.flatMap eN0)⟩ :: ⟨B2, (one_.flatMap eN0)⟩ :: ⟨(aD 0), [vi 1, vi 0, vi 0, vi 0, vi 2]⟩ :: ((D3.flatMap eN1) ++ []))) (sk 0 (sk 1 (sk 2 (sk 3 (sk 4 (sk 5 (sk 6 (suba (fun r_ (h : r_ ∈ ((D3.flatMap eN1) : List Ro)) => mOd (i := 7) (show r_ ∈ ((((D2.flatMap eN1) ++ ((D3.flatMap eN1) ++ []))) : List Ro) from mAr _ (mAl _ h))) (fun _ h => by cases h)))))))))).fn (by kernel_rfl) ?_
       have hS32 := hS30.drew
       refine rq 0 61 (v := .slice B8 words1.length c8) rfl (ST.subR (hS32.se [2, 3]) (R' := (⟨B14, (r_6.flatMap eN0)⟩ :: ⟨B13, (x1.flatMap eN0)⟩ :: ⟨B12, (x.flatMap eN0)⟩ :: ⟨B5, (r_5.Cells.flatMap eN0)⟩ :: ⟨B4, (r_4.Cells.flatMap eN0)⟩ :: ⟨B2, (one_.flatMap eN0)⟩ :: ⟨(aD 0), [vi 1, vi 0, vi 0, vi 0, vi 2]⟩ :: ((D3.flatMap eN1) ++ []))) (sk 0 (sk 1 (sk 2 (sk 3 (sk 4 (sk 5 (sk 6 (suba (fun r_ (h : r_ ∈ ((D3.flatMap eN1) : List Ro)) => mOd (i := 7) (show r_ ∈ ((((D2.flatMap eN1) ++ ((D3.flatMap eN1) ++ []))) : List Ro) from mAr _ (mAl _ h))) (fun _ h => by cases h)))))))))) (fun w' hw' => (ym (.slice B8 words1.length c8) rfl (hf2.g 4 0))) ?_
       refine rq 1 62 (v := .slice B8 words1.length c8) rfl (ST.subR (hS32.se [2, 3]) (R' := (⟨B14, (r_6.flatMap eN0)⟩ :: ⟨B13, (x1.flatMap eN0)⟩ :: ⟨B12, (x.flatMap eN0)⟩ :: ⟨B5, (r_5.Cells.flatMap eN0)⟩ :: ⟨B4, (r_4.Cells.flatMap eN0)⟩ :: ⟨B2, (one_.flatMap eN0)⟩ :: ⟨(aD 0), [vi 1, vi 0, vi 0, vi 0, vi 2]⟩ :: ((D3.flatMap eN1) ++ []))) (sk 0 (sk 1 (sk 2 (sk 3 (sk 4 (sk 5 (sk 6 (suba (fun r_ (h : r_ ∈ ((D3.flatMap eN1) : List Ro)) => mOd (i := 7) (show r_ ∈ ((((D2.flatMap eN1) ++ ((D3.flatMap eN1) ++ []))) : List Ro) from mAr _ (mAl _ h))) (fun _ h => by cases h)))))))))) (fun w' hw' => (ym (.slice B8 words1.length c8) rfl (hf2.g 4 0))) ?_
       refine rq 2 63 (v := vi at_1) rfl (ST.subR (hS32.se [2, 3]) (R' := (⟨B14, (r_6.flatMap eN0)⟩ :: ⟨B13, (x1.flatMap eN0)⟩ :: ⟨B12, (x.flatMap eN0)⟩ :: ⟨B5, (r_5.Cells.flatMap eN0)⟩ :: ⟨B4, (r_4.Cells.flatMap eN0)⟩ :: ⟨B2, (one_.flatMap eN0)⟩ :: ⟨(aD 0), [vi 1, vi 0, vi 0, vi 0, vi 2]⟩ :: ((D3.flatMap eN1) ++ []))) (sk 0 (sk 1 (sk 2 (sk 3 (sk 4 (sk 5 (sk 6 (suba (fun r_ (h : r_ ∈ ((D3.flatMap eN1) : List Ro)) => mOd (i := 7) (show r_ ∈ ((((D2.flatMap eN1) ++ ((D3.flatMap eN1) ++ []))) : List Ro) from mAr _ (mAl _ h))) (fun _ h => by cases h)))))))))) (fun w' hw' => (ym (vi at_1) rfl (hf2.g 8 4))) ?_
       refine rq 5 66 (v := vi (i2 : Int)) rfl (ST.subR (hS32.se [2, 3]) (R' := (⟨B14, (r_6.flatMap eN0)⟩ :: ⟨B13, (x1.flatMap eN0)⟩ :: ⟨B12, (x.flatMap eN0)⟩ :: ⟨B5, (r_5.Cells.flatMap eN0)⟩ :: ⟨B4, (r_4.Cells.flatMap eN0)⟩ :: ⟨B2, (one_.flatMap eN0)⟩ :: ⟨(aD 0), [vi 1, vi 0, vi 0, vi 0, vi 2]⟩ :: ((D3.flatMap eN1) ++ []))) (sk 0 (sk 1 (sk 2 (sk 3 (sk 4 (sk 5 (sk 6 (suba (fun r_ (h : r_ ∈ ((D3.flatMap eN1) : List Ro)) => mOd (i := 7) (show r_ ∈ ((((D2.flatMap eN1) ++ ((D3.flatMap eN1) ++ []))) : List Ro) from mAr _ (mAl _ h))) (fun _ h => by cases h)))))))))) (fun w' hw' => (ym (vi (i2 : Int)))) ?_
       refine rq 6 67 (v := vi (i2 : Int)) rfl (ST.subR (hS32.se [2, 3]) (R' := (⟨B14, (r_6.flatMap eN0)⟩ :: ⟨B13, (x1.flatMap eN0)⟩ :: ⟨B12, (x.flatMap eN0)⟩ :: ⟨B5, (r_5.Cells.flatMap eN0)⟩ :: ⟨B4, (r_4.Cells.flatMap eN0)⟩ :: ⟨B2, (one_.flatMap eN0)⟩ :: ⟨(aD 0), [vi 1, vi 0, vi 0, vi 0, vi 2]⟩ :: ((D3.flatMap eN1) ++ []))) (sk 0 (sk 1 (sk 2 (sk 3 (sk 4 (sk 5 (sk 6 (suba (fun r_ (h : r_ ∈ ((D3.flatMap eN1) : List Ro)) => mOd (i := 7) (show r_ ∈ ((((D2.flatMap eN1) ++ ((D3.flatMap eN1) ++ []))) : List Ro) from mAr _ (mAl _ h))) (fun _ h => by cases h)))))))))) (fun w' hw' => (ym (vi (i2 : Int)))) ?_
       refine rq 7 68 (v := vi (i64.wrap ((i2 : Int) + 1))) rfl (ST.subR (hS32.se [2, 3]) (R' := (⟨B14, (r_6.flatMap eN0)⟩ :: ⟨B13, (x1.flatMap eN0)⟩ :: ⟨B12, (x.flatMap eN0)⟩ :: ⟨B5, (r_5.Cells.flatMap eN0)⟩ :: ⟨B4, (r_4.Cells.flatMap eN0)⟩ :: ⟨B2, (one_.flatMap eN0)⟩ :: ⟨(aD 0), [vi 1, vi 0, vi 0, vi 0, vi 2]⟩ :: ((D3.flatMap eN1) ++ []))) (sk 0 (sk 1 (sk 2 (sk 3 (sk 4 (sk 5 (sk 6 (suba (fun r_ (h : r_ ∈ ((D3.flatMap eN1) : List Ro)) => mOd (i := 7) (show r_ ∈ ((((D2.flatMap eN1) ++ ((D3.flatMap eN1) ++ []))) : List Ro) from mAr _ (mAl _ h))) (fun _ h => by cases h)))))))))) (fun w' hw' => (yP (i2 : Int) 1)) ?_
       refine rq 8 69 (v := .string (bstr (dT i2))) rfl (ST.subR (hS32.se [2, 3]) (R' := (⟨B14, (r_6.flatMap eN0)⟩ :: ⟨B13, (x1.flatMap eN0)⟩ :: ⟨B12, (x.flatMap eN0)⟩ :: ⟨B5, (r_5.Cells.flatMap eN0)⟩ :: ⟨B4, (r_4.Cells.flatMap eN0)⟩ :: ⟨B2, (one_.flatMap eN0)⟩ :: ⟨(aD 0), [vi 1, vi 0, vi 0, vi 0, vi 2]⟩ :: ((D3.flatMap eN1) ++ []))) (sk 0 (sk 1 (sk 2 (sk 3 (sk 4 (sk 5 (sk 6 (suba (fun r_ (h : r_ ∈ ((D3.flatMap eN1) : List Ro)) => mOd (i := 7) (show r_ ∈ ((((D2.flatMap eN1) ++ ((D3.flatMap eN1) ++ []))) : List Ro) from mAr _ (mAl _ h))) (fun _ h => by cases h)))))))))) (fun w' hw' => (Y_sslice (a := ([72, 83] : List UInt8)) (k := .i64) (k' := .i64) (l := (i2 : Int)) (h := (i64.wrap ((i2 : Int) + 1))) K42 rfl rfl rfl rfl hss)) ?_
       refine rq 12 73 (v := .slice B9 list1.length c9) rfl (ST.subR (hS32.se [2, 3]) (R' := (⟨B14, (r_6.flatMap eN0)⟩ :: ⟨B13, (x1.flatMap eN0)⟩ :: ⟨B12, (x.flatMap eN0)⟩ :: ⟨B5, (r_5.Cells.flatMap eN0)⟩ :: ⟨B4, (r_4.Cells.flatMap eN0)⟩ :: ⟨B2, (one_.flatMap eN0)⟩ :: ⟨(aD 0), [vi 1, vi 0, vi 0, vi 0, vi 2]⟩ :: ((D3.flatMap eN1) ++ []))) (sk 0 (sk 1 (sk 2 (sk 3 (sk 4 (sk 5 (sk 6 (suba (fun r_ (h : r_ ∈ ((D3.flatMap eN1) : List Ro)) => mOd (i := 7) (show r_ ∈ ((((D2.flatMap eN1) ++ ((D3.flatMap eN1) ++ []))) : List Ro) from mAr _ (mAl _ h))) (fun _ h => by cases h)))))))))) (fun w' hw' => (ym (.slice B9 list1.length c9) rfl (hf2.g 5 1))) ?_
       refine rq 13 74 (v := .slice B14 r_6.length c14) rfl (ST.subR (hS32.se [2, 3]) (R' := (⟨B14, (r_6.flatMap eN0)⟩ :: ⟨B13, (x1.flatMap eN0)⟩ :: ⟨B12, (x.flatMap eN0)⟩ :: ⟨B5, (r_5.Cells.flatMap eN0)⟩ :: ⟨B4, (r_4.Cells.flatMap eN0)⟩ :: ⟨B2, (one_.flatMap eN0)⟩ :: ⟨(aD 0), [vi 1, vi 0, vi 0, vi 0, vi 2]⟩ :: ((D3.flatMap eN1) ++ []))) (sk 0 (sk 1 (sk 2 (sk 3 (sk 4 (sk 5 (sk 6 (suba (fun r_ (h : r_ ∈ ((D3.flatMap eN1) : List Ro)) => mOd (i := 7) (show r_ ∈ ((((D2.flatMap eN1) ++ ((D3.flatMap eN1) ++ []))) : List Ro) from mAr _ (mAl _ h))) (fun _ h => by cases h)))))))))) (fun w' hw' => (yl (aD b5) 0 [.slice B14 r_6.length c14] (.slice B14 r_6.length c14) K16 (ST.cf hw' (i := 1) rfl))) ?_
       refine rA [3, 14] ?_
       refine ra_y 64 (i := 3) (v := pt B8 (at_1.toNat * 1)) rfl rfl rfl (Y_index (B := B8) (m := words1.length) (c := c8) (k := .i64) (i := at_1) K33 K24 rfl rfl rfl (gi_isSome encS_len rfl (hS32.c 0) hx2) (getI_nn hx2) (getI_ltI hx2 rfl)) (ST.subR (hS32.se [2, 3]) (R' := (⟨B14, (r_6.flatMap eN0)⟩ :: ⟨B13, (x1.flatMap eN0)⟩ :: ⟨B12, (x.flatMap eN0)⟩ :: ⟨B5, (r_5.Cells.flatMap eN0)⟩ :: ⟨B4, (r_4.Cells.flatMap eN0)⟩ :: ⟨B2, (one_.flatMap eN0)⟩ :: ⟨(aD 0), [vi 1, vi 0, vi 0, vi 0, vi 2]⟩ :: ((D3.flatMap eN1) ++ []))) (sk 0 (sk 1 (sk 2 (sk 3 (sk 4 (sk 5 (sk 6 (suba (fun r_ (h : r_ ∈ ((D3.flatMap eN1) : List Ro)) => mOd (i := 7) (show r_ ∈ ((((D2.flatMap eN1) ++ ((D3.flatMap eN1) ++ []))) : List Ro) from mAr _ (mAl _ h))) (fun _ h => by cases h)))))))))) ?_ ?_
       ·skip
        refine rA [4, 14] ?_
        refine ra_y 65 (i := 4) (v := .string (bstr x2)) rfl rfl rfl (yl B8 (at_1.toNat * 1) (words1.flatMap encS) (.string (bstr x2)) K41 (hS32.c 0) rfl rfl (gi_at0 encS_len hx2 rfl)) (ST.subR (hS32.se [2, 3]) (R' := (⟨B14, (r_6.flatMap eN0)⟩ :: ⟨B13, (x1.flatMap eN0)⟩ :: ⟨B12, (x.flatMap eN0)⟩ :: ⟨B5, (r_5.Cells.flatMap eN0)⟩ :: ⟨B4, (r_4.Cells.flatMap eN0)⟩ :: ⟨B2, (one_.flatMap eN0)⟩ :: ⟨(aD 0), [vi 1, vi 0, vi 0, vi 0, vi 2]⟩ :: ((D3.flatMap eN1) ++ []))) (sk 0 (sk 1 (sk 2 (sk 3 (sk 4 (sk 5 (sk 6 (suba (fun r_ (h : r_ ∈ ((D3.flatMap eN1) : List Ro)) => mOd (i := 7) (show r_ ∈ ((((D2.flatMap eN1) ++ ((D3.flatMap eN1) ++ []))) : List Ro) from mAr _ (mAl _ h))) (fun _ h => by cases h)))))))))) ?_ ?_
        ·skip
         refine ra_q 9 70 (v := .string (bstr (x2 ++ (dT i2)))) rfl rfl rfl (by kernel_rfl) (by kernel_rfl) (by kernel_rfl) (ST.subR (hS32.se [2, 3]) (R' := (⟨B14, (r_6.flatMap eN0)⟩ :: ⟨B13, (x1.flatMap eN0)⟩ :: ⟨B12, (x.flatMap eN0)⟩ :: ⟨B5, (r_5.Cells.flatMap eN0)⟩ :: ⟨B4, (r_4.Cells.flatMap eN0)⟩ :: ⟨B2, (one_.flatMap eN0)⟩ :: ⟨(aD 0), [vi 1, vi 0, vi 0, vi 0, vi 2]⟩ :: ((D3.flatMap eN1) ++ []))) (sk 0 (sk 1 (sk 2 (sk 3 (sk 4 (sk 5 (sk 6 (suba (fun r_ (h : r_ ∈ ((D3.flatMap eN1) : List Ro)) => mOd (i := 7) (show r_ ∈ ((((D2.flatMap eN1) ++ ((D3.flatMap eN1) ++ []))) : List Ro) from mAr _ (mAl _ h))) (fun _ h => by cases h)))))))))) (fun w' hw' => (Y_sadd (a := x2) (b := (dT i2)) rfl rfl rfl hsa)) ?_
         refine rA [10, 14] ?_
         refine rS 71 10 rfl (Ys_bslice (s := 1) (len := 1) (vs := [(0, .string (bstr (x2 ++ (dT i2))))]) (cs := [.string (bstr (x2 ++ (dT i2)))]) (zs := [.string (bstr ([] : List UInt8))]) (m := 1) hS32 K33 K24 K71 rfl (mpc rfl mpn) rfl rfl rfl (by kernel_rfl) (by kernel_rfl) rfl) ?_ ?_
         ·rintro _ w_14 ⟨b6, rfl, hS33⟩
          refine ⟨(ST.subR (hS33.se [2, 3]) (R' := (⟨B14, (r_6.flatMap eN0)⟩ :: ⟨B13, (x1.flatMap eN0)⟩ :: ⟨B12, (x.flatMap eN0)⟩ :: ⟨B5, (r_5.Cells.flatMap eN0)⟩ :: ⟨B4, (r_4.Cells.flatMap eN0)⟩ :: ⟨B2, (one_.flatMap eN0)⟩ :: ⟨(aD 0), [vi 1, vi 0, vi 0, vi 0, vi 2]⟩ :: ((D3.flatMap eN1) ++ []))) (sk 0 (sk 1 (sk 2 (sk 3 (sk 4 (sk 5 (sk 6 (suba (fun r_ (h : r_ ∈ ((D3.flatMap eN1) : List Ro)) => mOd (i := 7) (show r_ ∈ ((((D2.flatMap eN1) ++ ((D3.flatMap eN1) ++ []))) : List Ro) from mAr _ (mAl _ h))) (fun _ h => by cases h)))))))))), ?_⟩
          refine rA [11, 14] ?_
          refine rS 72 11 rfl (Ys_append (s := 1) (by' := 16) (i := 0) (nn := words1.length) (c := c8) (k := 1) (len := (words1 ++ [(x2 ++ (dT i2))]).length) (B := B8) (xs := ([(x2 ++ (dT i2))].flatMap encS)) (cs' := ((words1 ++ [(x2 ++ (dT i2))]).flatMap encS)) hS33 K33 K24 K76 K77 rfl (by decide) rfl rfl rfl rfl (fm_lenn (l := words1) encS_len rfl) rfl (hS33.c 4) (fm_lenn (l := [(x2 ++ (dT i2))]) encS_len rfl) (fm_one' (enc := encS) encS_one [(x2 ++ (dT i2))]) (by have := hap1; omega) (by have := hap1; simp only [maxLen]; omega) (fm_app _ _) (app_len (l := words1) (l' := [(x2 ++ (dT i2))]) rfl rfl)) ?_ ?_
          ·rintro _ w_15 ⟨B15, c15, rfl, hS34⟩
           refine ⟨(ST.subR (hS34.se [2, 3]) (R' := (⟨B14, (r_6.flatMap eN0)⟩ :: ⟨B13, (x1.flatMap eN0)⟩ :: ⟨B12, (x.flatMap eN0)⟩ :: ⟨B5, (r_5.Cells.flatMap eN0)⟩ :: ⟨B4, (r_4.Cells.flatMap eN0)⟩ :: ⟨B2, (one_.flatMap eN0)⟩ :: ⟨(aD 0), [vi 1, vi 0, vi 0, vi 0, vi 2]⟩ :: ((D3.flatMap eN1) ++ []))) (sk 0 (sk 1 (sk 2 (sk 3 (sk 4 (sk 5 (sk 6 (suba (fun r_ (h : r_ ∈ ((D3.flatMap eN1) : List Ro)) => mOd (i := 7) (show r_ ∈ ((((D2.flatMap eN1) ++ ((D3.flatMap eN1) ++ []))) : List Ro) from mAr _ (mAl _ h))) (fun _ h => by cases h)))))))))), ?_⟩
           refine rA [14] ?_
           refine rS 75 14 rfl (Ys_bslice (s := 1) (len := 1) (vs := [(0, .slice B14 r_6.length c14)]) (cs := [.slice B14 r_6.length c14]) (zs := [.slice none 0 0]) (m := 1) hS34 K44 K11 K75 rfl (mpc rfl mpn) rfl rfl rfl (by kernel_rfl) (by kernel_rfl) rfl) ?_ ?_
           ·rintro _ w_16 ⟨b7, rfl, hS35⟩
            have hm5 : ∀ r ∈ ((lH B14 c14 r_6).flatMap eN1), r ∈ ((⟨B14, (r_6.flatMap eN0)⟩ :: ⟨B13, (x1.flatMap eN0)⟩ :: ⟨B12, (x.flatMap eN0)⟩ :: ⟨B5, (r_5.Cells.flatMap eN0)⟩ :: ⟨B4, (r_4.Cells.flatMap eN0)⟩ :: ⟨B2, (one_.flatMap eN0)⟩ :: ⟨(aD 0), [vi 1, vi 0, vi 0, vi 0, vi 2]⟩ :: ((D2.flatMap eN1) ++ ((D3.flatMap eN1) ++ []))) : List Ro) := (fsub_cons (sk 0 (fun _ h => by cases h)) fsub_nil)
            have ho17 : Org w0 [] [⟨(aD 0), [vi 1, vi 0, vi 0, vi 0, vi 2]⟩] ((lH B14 c14 r_6).flatMap eN1) := (forg_cons (org_cons ho15 org_nil) forg_nil)
            have hS36 : ST w0 [] _ [⟨B15, 9, ((words1 ++ [(x2 ++ (dT i2))]).flatMap encS), c15 * 1⟩, ⟨B9, 24, (D2.flatMap eN3), c9 * 1⟩, ⟨aD b4, 24, (D3.flatMap eN3), 2 * 1⟩, ⟨aD b5, 24, [.slice B14 r_6.length c14], 1⟩, ⟨aD b6, 9, ([(x2 ++ (dT i2))].flatMap encS), 1 * 1⟩, ⟨aD b7, 24, ((lH B14 c14 r_6).flatMap eN3), 1 * 1⟩] (⟨B14, (r_6.flatMap eN0)⟩ :: ⟨B13, (x1.flatMap eN0)⟩ :: ⟨B12, (x.flatMap eN0)⟩ :: ⟨B5, (r_5.Cells.flatMap eN0)⟩ :: ⟨B4, (r_4.Cells.flatMap eN0)⟩ :: ⟨B2, (one_.flatMap eN0)⟩ :: ⟨(aD 0), [vi 1, vi 0, vi 0, vi 0, vi 2]⟩ :: (((lH B14 c14 r_6).flatMap eN1) ++ ((D2.flatMap eN1) ++ ((D3.flatMap eN1) ++ [])))) := ST.subR hS35 (sk 0 (sk 1 (sk 2 (sk 3 (sk 4 (sk 5 (sk 6 (suba hm5 (suba (fun r_ (h : r_ ∈ ((D2.flatMap eN1) : List Ro)) => mOd (i := 7) (show r_ ∈ ((((D2.flatMap eN1) ++ ((D3.flatMap eN1) ++ []))) : List Ro) from mAl _ h)) (suba (fun r_ (h : r_ ∈ ((D3.flatMap eN1) : List Ro)) => mOd (i := 7) (show r_ ∈ ((((D2.flatMap eN1) ++ ((D3.flatMap eN1) ++ []))) : List Ro) from mAr _ (mAl _ h))) (fun _ h => by cases h)))))))))))
            refine ⟨(ST.subR (hS36.se [2, 3]) (R' := (⟨B14, (r_6.flatMap eN0)⟩ :: ⟨B13, (x1.flatMap eN0)⟩ :: ⟨B12, (x.flatMap eN0)⟩ :: ⟨B5, (r_5.Cells.flatMap eN0)⟩ :: ⟨B4, (r_4.Cells.flatMap eN0)⟩ :: ⟨B2, (one_.flatMap eN0)⟩ :: ⟨(aD 0), [vi 1, vi 0, vi 0, vi 0, vi 2]⟩ :: ((D3.flatMap eN1) ++ []))) (sk 0 (sk 1 (sk 2 (sk 3 (sk 4 (sk 5 (sk 6 (suba (fun r_ (h : r_ ∈ ((D3.flatMap eN1) : List Ro)) => mOd (i := 7) (show r_ ∈ (((((lH B14 c14 r_6).flatMap eN1) ++ ((D2.flatMap eN1) ++ ((D3.flatMap eN1) ++ [])))) : List Ro) from mAr _ (mAr _ (mAl _ h)))) (fun _ h => by cases h)))))))))), ?_⟩
            refine rA [15] ?_
            refine rS 76 15 rfl (Ys_append (s := 1) (by' := 24) (i := 1) (nn := list1.length) (c := c9) (k := 1) (len := (list1 ++ ([r_6] : List (List TDyadic))).length) (B := B9) (xs := ((lH B14 c14 r_6).flatMap eN3)) (cs' := ((D2 ++ (lH B14 c14 r_6)).flatMap eN3)) hS36 K44 K11 K105 K91 rfl (by decide) rfl rfl rfl rfl (fm_lenn (l := D2) encD_SDyadic_len (dl_len hD2)) rfl (hS36.c 5) (fm_lenn (l := (lH B14 c14 r_6)) encD_SDyadic_len rfl) (fm_one' (enc := eN3) encD_SDyadic_one (lH B14 c14 r_6)) (by have := hap2; omega) (by have := hap2; simp only [maxLen]; omega) (fm_app _ _) (dl_sum (dl_len hD2) rfl (dl_app hD2 (show List.map Prod.snd (lH B14 c14 r_6) = ([r_6] : List (List TDyadic)) from rfl)))) ?_ ?_
            ·rintro _ w_17 ⟨B16, c16, rfl, hS37⟩
             have ho18 : Org w0 [] [⟨(aD 0), [vi 1, vi 0, vi 0, vi 0, vi 2]⟩] ((D2 ++ (lH B14 c14 r_6)).flatMap eN1) := (forg_app ho8 ho17)
             have hS38 : ST w0 [] _ [⟨B15, 9, ((words1 ++ [(x2 ++ (dT i2))]).flatMap encS), c15 * 1⟩, ⟨B16, 24, ((D2 ++ (lH B14 c14 r_6)).flatMap eN3), c16 * 1⟩, ⟨aD b4, 24, (D3.flatMap eN3), 2 * 1⟩, ⟨aD b5, 24, [.slice B14 r_6.length c14], 1⟩, ⟨aD b6, 9, ([(x2 ++ (dT i2))].flatMap encS), 1 * 1⟩, ⟨aD b7, 24, ((lH B14 c14 r_6).flatMap eN3), 1 * 1⟩] (⟨B14, (r_6.flatMap eN0)⟩ :: ⟨B13, (x1.flatMap eN0)⟩ :: ⟨B12, (x.flatMap eN0)⟩ :: ⟨B5, (r_5.Cells.flatMap eN0)⟩ :: ⟨B4, (r_4.Cells.flatMap eN0)⟩ :: ⟨B2, (one_.flatMap eN0)⟩ :: ⟨(aD 0), [vi 1, vi 0, vi 0, vi 0, vi 2]⟩ :: (((D2 ++ (lH B14 c14 r_6)).flatMap eN1) ++ (((lH B14 c14 r_6).flatMap eN1) ++ ((D3.flatMap eN1) ++ [])))) := ST.subR hS37 (sk 0 (sk 1 (sk 2 (sk 3 (sk 4 (sk 5 (sk 6 (suba (fsub_app (fun r_ (h : r_ ∈ ((D2.flatMap eN1) : List Ro)) => mOd (i := 7) (show r_ ∈ (((((lH B14 c14 r_6).flatMap eN1) ++ ((D2.flatMap eN1) ++ ((D3.flatMap eN1) ++ [])))) : List Ro) from mAr _ (mAl _ h))) (fun r_ (h : r_ ∈ (((lH B14 c14 r_6).flatMap eN1) : List Ro)) => mOd (i := 7) (show r_ ∈ (((((lH B14 c14 r_6).flatMap eN1) ++ ((D2.flatMap eN1) ++ ((D3.flatMap eN1) ++ [])))) : List Ro) from mAl _ h))) (suba (fun r_ (h : r_ ∈ (((lH B14 c14 r_6).flatMap eN1) : List Ro)) => mOd (i := 7) (show r_ ∈ (((((lH B14 c14 r_6).flatMap eN1) ++ ((D2.flatMap eN1) ++ ((D3.flatMap eN1) ++ [])))) : List Ro) from mAl _ h)) (suba (fun r_ (h : r_ ∈ ((D3.flatMap eN1) : List Ro)) => mOd (i := 7) (show r_ ∈ (((((lH B14 c14 r_6).flatMap eN1) ++ ((D2.flatMap eN1) ++ ((D3.flatMap eN1) ++ [])))) : List Ro) from mAr _ (mAr _ (mAl _ h)))) (fun _ h => by cases h)))))))))))
             refine ⟨(ST.subR (hS38.se [2, 3]) (R' := (⟨B14, (r_6.flatMap eN0)⟩ :: ⟨B13, (x1.flatMap eN0)⟩ :: ⟨B12, (x.flatMap eN0)⟩ :: ⟨B5, (r_5.Cells.flatMap eN0)⟩ :: ⟨B4, (r_4.Cells.flatMap eN0)⟩ :: ⟨B2, (one_.flatMap eN0)⟩ :: ⟨(aD 0), [vi 1, vi 0, vi 0, vi 0, vi 2]⟩ :: ((D3.flatMap eN1) ++ []))) (sk 0 (sk 1 (sk 2 (sk 3 (sk 4 (sk 5 (sk 6 (suba (fun r_ (h : r_ ∈ ((D3.flatMap eN1) : List Ro)) => mOd (i := 7) (show r_ ∈ (((((D2 ++ (lH B14 c14 r_6)).flatMap eN1) ++ (((lH B14 c14 r_6).flatMap eN1) ++ ((D3.flatMap eN1) ++ [])))) : List Ro) from mAr _ (mAr _ (mAl _ h)))) (fun _ h => by cases h)))))))))), ?_⟩
             refine ra_q 16 4 (v := .slice B15 ((words1 ++ [(x2 ++ (dT i2))]).length) c15) rfl rfl rfl (by kernel_rfl) (by kernel_rfl) (by kernel_rfl) (ST.subR (hS38.se [2, 3]) (R' := (⟨B14, (r_6.flatMap eN0)⟩ :: ⟨B13, (x1.flatMap eN0)⟩ :: ⟨B12, (x.flatMap eN0)⟩ :: ⟨B5, (r_5.Cells.flatMap eN0)⟩ :: ⟨B4, (r_4.Cells.flatMap eN0)⟩ :: ⟨B2, (one_.flatMap eN0)⟩ :: ⟨(aD 0), [vi 1, vi 0, vi 0, vi 0, vi 2]⟩ :: ((D3.flatMap eN1) ++ []))) (sk 0 (sk 1 (sk 2 (sk 3 (sk 4 (sk 5 (sk 6 (suba (fun r_ (h : r_ ∈ ((D3.flatMap eN1) : List Ro)) => mOd (i := 7) (show r_ ∈ (((((D2 ++ (lH B14 c14 r_6)).flatMap eN1) ++ (((lH B14 c14 r_6).flatMap eN1) ++ ((D3.flatMap eN1) ++ [])))) : List Ro) from mAr _ (mAr _ (mAl _ h)))) (fun _ h => by cases h)))))))))) (fun w' hw' => (yg (.slice B15 ((words1 ++ [(x2 ++ (dT i2))]).length) c15))) ?_
             refine rq 17 5 (v := .slice B16 ((list1 ++ ([r_6] : List (List TDyadic))).length) c16) rfl (ST.subR (hS38.se [2, 3]) (R' := (⟨B14, (r_6.flatMap eN0)⟩ :: ⟨B13, (x1.flatMap eN0)⟩ :: ⟨B12, (x.flatMap eN0)⟩ :: ⟨B5, (r_5.Cells.flatMap eN0)⟩ :: ⟨B4, (r_4.Cells.flatMap eN0)⟩ :: ⟨B2, (one_.flatMap eN0)⟩ :: ⟨(aD 0), [vi 1, vi 0, vi 0, vi 0, vi 2]⟩ :: ((D3.flatMap eN1) ++ []))) (sk 0 (sk 1 (sk 2 (sk 3 (sk 4 (sk 5 (sk 6 (suba (fun r_ (h : r_ ∈ ((D3.flatMap eN1) : List Ro)) => mOd (i := 7) (show r_ ∈ (((((D2 ++ (lH B14 c14 r_6)).flatMap eN1) ++ (((lH B14 c14 r_6).flatMap eN1) ++ ((D3.flatMap eN1) ++ [])))) : List Ro) from mAr _ (mAr _ (mAl _ h)))) (fun _ h => by cases h)))))))))) (fun w' hw' => (yg (.slice B16 ((list1 ++ ([r_6] : List (List TDyadic))).length) c16))) ?_
             refine ra_done (by kernel_rfl) ?_
             have hS39 : ST w0 [] _ [⟨B15, 9, ((words1 ++ [(x2 ++ (dT i2))]).flatMap encS), c15 * 1⟩, ⟨B16, 24, ((D2 ++ (lH B14 c14 r_6)).flatMap eN3), c16 * 1⟩, ⟨aD b4, 24, (D3.flatMap eN3), 2 * 1⟩, ⟨aD b5, 24, [.slice B14 r_6.length c14], 1⟩, ⟨aD b6, 9, ([(x2 ++ (dT i2))].flatMap encS), 1 * 1⟩, ⟨aD b7, 24, ((lH B14 c14 r_6).flatMap eN3), 1 * 1⟩] (⟨B14, (r_6.flatMap eN0)⟩ :: ⟨B13, (x1.flatMap eN0)⟩ :: ⟨B12, (x.flatMap eN0)⟩ :: ⟨B5, (r_5.Cells.flatMap eN0)⟩ :: ⟨B4, (r_4.Cells.flatMap eN0)⟩ :: ⟨B2, (one_.flatMap eN0)⟩ :: ⟨(aD 0), [vi 1, vi 0, vi 0, vi 0, vi 2]⟩ :: (((D2 ++ (lH B14 c14 r_6)).flatMap eN1) ++ ((D3.flatMap eN1) ++ []))) := ST.subR hS38 (sk 0 (sk 1 (sk 2 (sk 3 (sk 4 (sk 5 (sk 6 (suba (fun r_ (h : r_ ∈ (((D2 ++ (lH B14 c14 r_6)).flatMap eN1) : List Ro)) => mOd (i := 7) (show r_ ∈ (((((D2 ++ (lH B14 c14 r_6)).flatMap eN1) ++ (((lH B14 c14 r_6).flatMap eN1) ++ ((D3.flatMap eN1) ++ [])))) : List Ro) from mAl _ h)) (suba (fun r_ (h : r_ ∈ ((D3.flatMap eN1) : List Ro)) => mOd (i := 7) (show r_ ∈ (((((D2 ++ (lH B14 c14 r_6)).flatMap eN1) ++ (((lH B14 c14 r_6).flatMap eN1) ++ ((D3.flatMap eN1) ++ [])))) : List Ro) from mAr _ (mAr _ (mAl _ h)))) (fun _ h => by cases h))))))))))
             exact ⟨B15, c15, B16, c16, (D2 ++ (lH B14 c14 r_6)), (fc rfl (fc rfl (fc (hf2.g 6 2) (fc (hf2.g 7 3) (fc (hf2.g 8 4) (fc (hf2.g 41 5) (fc (hf2.g 42 6) (fc (hf2.g 43 7) fn_)))))))), (dl_app hD2 (show List.map Prod.snd (lH B14 c14 r_6) = ([r_6] : List (List TDyadic)) from rfl)), ho18, (hS39.sel [0, 1, 2] rfl rfl)⟩
            exact aN
           exact aN
          refine rS 75 14 rfl (Ys_bslice (s := 1) (len := 1) (vs := [(0, .slice B14 r_6.length c14)]) (cs := [.slice B14 r_6.length c14]) (zs := [.slice none 0 0]) (m := 1) hS33 K44 K11 K75 rfl (mpc rfl mpn) rfl rfl rfl (by kernel_rfl) (by kernel_rfl) rfl) ?_ ?_
          ·rintro _ w_18 ⟨b7, rfl, hS40⟩
           have hm6 : ∀ r ∈ ((lH B14 c14 r_6).flatMap eN1), r ∈ ((⟨B14, (r_6.flatMap eN0)⟩ :: ⟨B13, (x1.flatMap eN0)⟩ :: ⟨B12, (x.flatMap eN0)⟩ :: ⟨B5, (r_5.Cells.flatMap eN0)⟩ :: ⟨B4, (r_4.Cells.flatMap eN0)⟩ :: ⟨B2, (one_.flatMap eN0)⟩ :: ⟨(aD 0), [vi 1, vi 0, vi 0, vi 0, vi 2]⟩ :: ((D2.flatMap eN1) ++ ((D3.flatMap eN1) ++ []))) : List Ro) := (fsub_cons (sk 0 (fun _ h => by cases h)) fsub_nil)
           have ho19 : Org w0 [] [⟨(aD 0), [vi 1, vi 0, vi 0, vi 0, vi 2]⟩] ((lH B14 c14 r_6).flatMap eN1) := (forg_cons (org_cons ho15 org_nil) forg_nil)
           have hS41 : ST w0 [] _ [⟨B8, 9, (words1.flatMap encS), c8 * 1⟩, ⟨B9, 24, (D2.flatMap eN3), c9 * 1⟩, ⟨aD b4, 24, (D3.flatMap eN3), 2 * 1⟩, ⟨aD b5, 24, [.slice B14 r_6.length c14], 1⟩, ⟨aD b6, 9, ([(x2 ++ (dT i2))].flatMap encS), 1 * 1⟩, ⟨aD b7, 24, ((lH B14 c14 r_6).flatMap eN3), 1 * 1⟩] (⟨B14, (r_6.flatMap eN0)⟩ :: ⟨B13, (x1.flatMap eN0)⟩ :: ⟨B12, (x.flatMap eN0)⟩ :: ⟨B5, (r_5.Cells.flatMap eN0)⟩ :: ⟨B4, (r_4.Cells.flatMap eN0)⟩ :: ⟨B2, (one_.flatMap eN0)⟩ :: ⟨(aD 0), [vi 1, vi 0, vi 0, vi 0, vi 2]⟩ :: (((lH B14 c14 r_6).flatMap eN1) ++ ((D2.flatMap eN1) ++ ((D3.flatMap eN1) ++ [])))) := ST.subR hS40 (sk 0 (sk 1 (sk 2 (sk 3 (sk 4 (sk 5 (sk 6 (suba hm6 (suba (fun r_ (h : r_ ∈ ((D2.flatMap eN1) : List Ro)) => mOd (i := 7) (show r_ ∈ ((((D2.flatMap eN1) ++ ((D3.flatMap eN1) ++ []))) : List Ro) from mAl _ h)) (suba (fun r_ (h : r_ ∈ ((D3.flatMap eN1) : List Ro)) => mOd (i := 7) (show r_ ∈ ((((D2.flatMap eN1) ++ ((D3.flatMap eN1) ++ []))) : List Ro) from mAr _ (mAl _ h))) (fun _ h => by cases h)))))))))))
           refine ⟨(ST.subR (hS41.se [2, 3]) (R' := (⟨B14, (r_6.flatMap eN0)⟩ :: ⟨B13, (x1.flatMap eN0)⟩ :: ⟨B12, (x.flatMap eN0)⟩ :: ⟨B5, (r_5.Cells.flatMap eN0)⟩ :: ⟨B4, (r_4.Cells.flatMap eN0)⟩ :: ⟨B2, (one_.flatMap eN0)⟩ :: ⟨(aD 0), [vi 1, vi 0, vi 0, vi 0, vi 2]⟩ :: ((D3.flatMap eN1) ++ []))) (sk 0 (sk 1 (sk 2 (sk 3 (sk 4 (sk 5 (sk 6 (suba (fun r_ (h : r_ ∈ ((D3.flatMap eN1) : List Ro)) => mOd (i := 7) (show r_ ∈ (((((lH B14 c14 r_6).flatMap eN1) ++ ((D2.flatMap eN1) ++ ((D3.flatMap eN1) ++ [])))) : List Ro) from mAr _ (mAr _ (mAl _ h)))) (fun _ h => by cases h)))))))))), ?_⟩
           refine rA [11] ?_
           refine rS 72 11 rfl (Ys_append (s := 1) (by' := 16) (i := 0) (nn := words1.length) (c := c8) (k := 1) (len := (words1 ++ [(x2 ++ (dT i2))]).length) (B := B8) (xs := ([(x2 ++ (dT i2))].flatMap encS)) (cs' := ((words1 ++ [(x2 ++ (dT i2))]).flatMap encS)) hS41 K33 K24 K76 K77 rfl (by decide) rfl rfl rfl rfl (fm_lenn (l := words1) encS_len rfl) rfl (hS41.c 4) (fm_lenn (l := [(x2 ++ (dT i2))]) encS_len rfl) (fm_one' (enc := encS) encS_one [(x2 ++ (dT i2))]) (by have := hap1; omega) (by have := hap1; simp only [maxLen]; omega) (fm_app _ _) (app_len (l := words1) (l' := [(x2 ++ (dT i2))]) rfl rfl)) ?_ ?_
           ·rintro _ w_19 ⟨B15, c15, rfl, hS42⟩
            refine ⟨(ST.subR (hS42.se [2, 3]) (R' := (⟨B14, (r_6.flatMap eN0)⟩ :: ⟨B13, (x1.flatMap eN0)⟩ :: ⟨B12, (x.flatMap eN0)⟩ :: ⟨B5, (r_5.Cells.flatMap eN0)⟩ :: ⟨B4, (r_4.Cells.flatMap eN0)⟩ :: ⟨B2, (one_.flatMap eN0)⟩ :: ⟨(aD 0), [vi 1, vi 0, vi 0, vi 0, vi 2]⟩ :: ((D3.flatMap eN1) ++ []))) (sk 0 (sk 1 (sk 2 (sk 3 (sk 4 (sk 5 (sk 6 (suba (fun r_ (h : r_ ∈ ((D3.flatMap eN1) : List Ro)) => mOd (i := 7) (show r_ ∈ (((((lH B14 c14 r_6).flatMap eN1) ++ ((D2.flatMap eN1) ++ ((D3.flatMap eN1) ++ [])))) : List Ro) from mAr _ (mAr _ (mAl _ h)))) (fun _ h => by cases h)))))))))), ?_⟩
            refine rA [15] ?_
            refine rS 76 15 rfl (Ys_append (s := 1) (by' := 24) (i := 1) (nn := list1.length) (c := c9) (k := 1) (len := (list1 ++ ([r_6] : List (List TDyadic))).length) (B := B9) (xs := ((lH B14 c14 r_6).flatMap eN3)) (cs' := ((D2 ++ (lH B14 c14 r_6)).flatMap eN3)) hS42 K44 K11 K105 K91 rfl (by decide) rfl rfl rfl rfl (fm_lenn (l := D2) encD_SDyadic_len (dl_len hD2)) rfl (hS42.c 5) (fm_lenn (l := (lH B14 c14 r_6)) encD_SDyadic_len rfl) (fm_one' (enc := eN3) encD_SDyadic_one (lH B14 c14 r_6)) (by have := hap2; omega) (by have := hap2; simp only [maxLen]; omega) (fm_app _ _) (dl_sum (dl_len hD2) rfl (dl_app hD2 (show List.map Prod.snd (lH B14 c14 r_6) = ([r_6] : List (List TDyadic)) from rfl)))) ?_ ?_
            ·rintro _ w_20 ⟨B16, c16, rfl, hS43⟩
             have ho20 : Org w0 [] [⟨(aD 0), [vi 1, vi 0, vi 0, vi 0, vi 2]⟩] ((D2 ++ (lH B14 c14 r_6)).flatMap eN1) := (forg_app ho8 ho19)
             have hS44 : ST w0 [] _ [⟨B15, 9, ((words1 ++ [(x2 ++ (dT i2))]).flatMap encS), c15 * 1⟩, ⟨B16, 24, ((D2 ++ (lH B14 c14 r_6)).flatMap eN3), c16 * 1⟩, ⟨aD b4, 24, (D3.flatMap eN3), 2 * 1⟩, ⟨aD b5, 24, [.slice B14 r_6.length c14], 1⟩, ⟨aD b6, 9, ([(x2 ++ (dT i2))].flatMap encS), 1 * 1⟩, ⟨aD b7, 24, ((lH B14 c14 r_6).flatMap eN3), 1 * 1⟩] (⟨B14, (r_6.flatMap eN0)⟩ :: ⟨B13, (x1.flatMap eN0)⟩ :: ⟨B12, (x.flatMap eN0)⟩ :: ⟨B5, (r_5.Cells.flatMap eN0)⟩ :: ⟨B4, (r_4.Cells.flatMap eN0)⟩ :: ⟨B2, (one_.flatMap eN0)⟩ :: ⟨(aD 0), [vi 1, vi 0, vi 0, vi 0, vi 2]⟩ :: (((D2 ++ (lH B14 c14 r_6)).flatMap eN1) ++ (((lH B14 c14 r_6).flatMap eN1) ++ ((D3.flatMap eN1) ++ [])))) := ST.subR hS43 (sk 0 (sk 1 (sk 2 (sk 3 (sk 4 (sk 5 (sk 6 (suba (fsub_app (fun r_ (h : r_ ∈ ((D2.flatMap eN1) : List Ro)) => mOd (i := 7) (show r_ ∈ (((((lH B14 c14 r_6).flatMap eN1) ++ ((D2.flatMap eN1) ++ ((D3.flatMap eN1) ++ [])))) : List Ro) from mAr _ (mAl _ h))) (fun r_ (h : r_ ∈ (((lH B14 c14 r_6).flatMap eN1) : List Ro)) => mOd (i := 7) (show r_ ∈ (((((lH B14 c14 r_6).flatMap eN1) ++ ((D2.flatMap eN1) ++ ((D3.flatMap eN1) ++ [])))) : List Ro) from mAl _ h))) (suba (fun r_ (h : r_ ∈ (((lH B14 c14 r_6).flatMap eN1) : List Ro)) => mOd (i := 7) (show r_ ∈ (((((lH B14 c14 r_6).flatMap eN1) ++ ((D2.flatMap eN1) ++ ((D3.flatMap eN1) ++ [])))) : List Ro) from mAl _ h)) (suba (fun r_ (h : r_ ∈ ((D3.flatMap eN1) : List Ro)) => mOd (i := 7) (show r_ ∈ (((((lH B14 c14 r_6).flatMap eN1) ++ ((D2.flatMap eN1) ++ ((D3.flatMap eN1) ++ [])))) : List Ro) from mAr _ (mAr _ (mAl _ h)))) (fun _ h => by cases h)))))))))))
             refine ⟨(ST.subR (hS44.se [2, 3]) (R' := (⟨B14, (r_6.flatMap eN0)⟩ :: ⟨B13, (x1.flatMap eN0)⟩ :: ⟨B12, (x.flatMap eN0)⟩ :: ⟨B5, (r_5.Cells.flatMap eN0)⟩ :: ⟨B4, (r_4.Cells.flatMap eN0)⟩ :: ⟨B2, (one_.flatMap eN0)⟩ :: ⟨(aD 0), [vi 1, vi 0, vi 0, vi 0, vi 2]⟩ :: ((D3.flatMap eN1) ++ []))) (sk 0 (sk 1 (sk 2 (sk 3 (sk 4 (sk 5 (sk 6 (suba (fun r_ (h : r_ ∈ ((D3.flatMap eN1) : List Ro)) => mOd (i := 7) (show r_ ∈ (((((D2 ++ (lH B14 c14 r_6)).flatMap eN1) ++ (((lH B14 c14 r_6).flatMap eN1) ++ ((D3.flatMap eN1) ++ [])))) : List Ro) from mAr _ (mAr _ (mAl _ h)))) (fun _ h => by cases h)))))))))), ?_⟩
             refine ra_q 16 4 (v := .slice B15 ((words1 ++ [(x2 ++ (dT i2))]).length) c15) rfl rfl rfl (by kernel_rfl) (by kernel_rfl) (by kernel_rfl) (ST.subR (hS44.se [2, 3]) (R' := (⟨B14, (r_6.flatMap eN0)⟩ :: ⟨B13, (x1.flatMap eN0)⟩ :: ⟨B12, (x.flatMap eN0)⟩ :: ⟨B5, (r_5.Cells.flatMap eN0)⟩ :: ⟨B4, (r_4.Cells.flatMap eN0)⟩ :: ⟨B2, (one_.flatMap eN0)⟩ :: ⟨(aD 0), [vi 1, vi 0, vi 0, vi 0, vi 2]⟩ :: ((D3.flatMap eN1) ++ []))) (sk 0 (sk 1 (sk 2 (sk 3 (sk 4 (sk 5 (sk 6 (suba (fun r_ (h : r_ ∈ ((D3.flatMap eN1) : List Ro)) => mOd (i := 7) (show r_ ∈ (((((D2 ++ (lH B14 c14 r_6)).flatMap eN1) ++ (((lH B14 c14 r_6).flatMap eN1) ++ ((D3.flatMap eN1) ++ [])))) : List Ro) from mAr _ (mAr _ (mAl _ h)))) (fun _ h => by cases h)))))))))) (fun w' hw' => (yg (.slice B15 ((words1 ++ [(x2 ++ (dT i2))]).length) c15))) ?_
             refine rq 17 5 (v := .slice B16 ((list1 ++ ([r_6] : List (List TDyadic))).length) c16) rfl (ST.subR (hS44.se [2, 3]) (R' := (⟨B14, (r_6.flatMap eN0)⟩ :: ⟨B13, (x1.flatMap eN0)⟩ :: ⟨B12, (x.flatMap eN0)⟩ :: ⟨B5, (r_5.Cells.flatMap eN0)⟩ :: ⟨B4, (r_4.Cells.flatMap eN0)⟩ :: ⟨B2, (one_.flatMap eN0)⟩ :: ⟨(aD 0), [vi 1, vi 0, vi 0, vi 0, vi 2]⟩ :: ((D3.flatMap eN1) ++ []))) (sk 0 (sk 1 (sk 2 (sk 3 (sk 4 (sk 5 (sk 6 (suba (fun r_ (h : r_ ∈ ((D3.flatMap eN1) : List Ro)) => mOd (i := 7) (show r_ ∈ (((((D2 ++ (lH B14 c14 r_6)).flatMap eN1) ++ (((lH B14 c14 r_6).flatMap eN1) ++ ((D3.flatMap eN1) ++ [])))) : List Ro) from mAr _ (mAr _ (mAl _ h)))) (fun _ h => by cases h)))))))))) (fun w' hw' => (yg (.slice B16 ((list1 ++ ([r_6] : List (List TDyadic))).length) c16))) ?_
             refine ra_done (by kernel_rfl) ?_
             have hS45 : ST w0 [] _ [⟨B15, 9, ((words1 ++ [(x2 ++ (dT i2))]).flatMap encS), c15 * 1⟩, ⟨B16, 24, ((D2 ++ (lH B14 c14 r_6)).flatMap eN3), c16 * 1⟩, ⟨aD b4, 24, (D3.flatMap eN3), 2 * 1⟩, ⟨aD b5, 24, [.slice B14 r_6.length c14], 1⟩, ⟨aD b6, 9, ([(x2 ++ (dT i2))].flatMap encS), 1 * 1⟩, ⟨aD b7, 24, ((lH B14 c14 r_6).flatMap eN3), 1 * 1⟩] (⟨B14, (r_6.flatMap eN0)⟩ :: ⟨B13, (x1.flatMap eN0)⟩ :: ⟨B12, (x.flatMap eN0)⟩ :: ⟨B5, (r_5.Cells.flatMap eN0)⟩ :: ⟨B4, (r_4.Cells.flatMap eN0)⟩ :: ⟨B2, (one_.flatMap eN0)⟩ :: ⟨(aD 0), [vi 1, vi 0, vi 0, vi 0, vi 2]⟩ :: (((D2 ++ (lH B14 c14 r_6)).flatMap eN1) ++ ((D3.flatMap eN1) ++ []))) := ST.subR hS44 (sk 0 (sk 1 (sk 2 (sk 3 (sk 4 (sk 5 (sk 6 (suba (fun r_ (h : r_ ∈ (((D2 ++ (lH B14 c14 r_6)).flatMap eN1) : List Ro)) => mOd (i := 7) (show r_ ∈ (((((D2 ++ (lH B14 c14 r_6)).flatMap eN1) ++ (((lH B14 c14 r_6).flatMap eN1) ++ ((D3.flatMap eN1) ++ [])))) : List Ro) from mAl _ h)) (suba (fun r_ (h : r_ ∈ ((D3.flatMap eN1) : List Ro)) => mOd (i := 7) (show r_ ∈ (((((D2 ++ (lH B14 c14 r_6)).flatMap eN1) ++ (((lH B14 c14 r_6).flatMap eN1) ++ ((D3.flatMap eN1) ++ [])))) : List Ro) from mAr _ (mAr _ (mAl _ h)))) (fun _ h => by cases h))))))))))
             exact ⟨B15, c15, B16, c16, (D2 ++ (lH B14 c14 r_6)), (fc rfl (fc rfl (fc (hf2.g 6 2) (fc (hf2.g 7 3) (fc (hf2.g 8 4) (fc (hf2.g 41 5) (fc (hf2.g 42 6) (fc (hf2.g 43 7) fn_)))))))), (dl_app hD2 (show List.map Prod.snd (lH B14 c14 r_6) = ([r_6] : List (List TDyadic)) from rfl)), ho20, (hS45.sel [0, 1, 2] rfl rfl)⟩
            exact aN
           exact aN
          exact aN
         refine rS 75 14 rfl (Ys_bslice (s := 1) (len := 1) (vs := [(0, .slice B14 r_6.length c14)]) (cs := [.slice B14 r_6.length c14]) (zs := [.slice none 0 0]) (m := 1) hS32 K44 K11 K75 rfl (mpc rfl mpn) rfl rfl rfl (by kernel_rfl) (by kernel_rfl) rfl) ?_ ?_
         ·rintro _ w_21 ⟨b7, rfl, hS46⟩
          have hm7 : ∀ r ∈ ((lH B14 c14 r_6).flatMap eN1), r ∈ ((⟨B14, (r_6.flatMap eN0)⟩ :: ⟨B13, (x1.flatMap eN0)⟩ :: ⟨B12, (x.flatMap eN0)⟩ :: ⟨B5, (r_5.Cells.flatMap eN0)⟩ :: ⟨B4, (r_4.Cells.flatMap eN0)⟩ :: ⟨B2, (one_.flatMap eN0)⟩ :: ⟨(aD 0), [vi 1, vi 0, vi 0, vi 0, vi 2]⟩ :: ((D2.flatMap eN1) ++ ((D3.flatMap eN1) ++ []))) : List Ro) := (fsub_cons (sk 0 (fun _ h => by cases h)) fsub_nil)
          have ho21 : Org w0 [] [⟨(aD 0), [vi 1, vi 0, vi 0, vi 0, vi 2]⟩] ((lH B14 c14 r_6).flatMap eN1) := (forg_cons (org_cons ho15 org_nil) forg_nil)
          have hS47 : ST w0 [] _ [⟨B8, 9, (words1.flatMap encS), c8 * 1⟩, ⟨B9, 24, (D2.flatMap eN3), c9 * 1⟩, ⟨aD b4, 24, (D3.flatMap eN3), 2 * 1⟩, ⟨aD b5, 24, [.slice B14 r_6.length c14], 1⟩, ⟨aD b7, 24, ((lH B14 c14 r_6).flatMap eN3), 1 * 1⟩] (⟨B14, (r_6.flatMap eN0)⟩ :: ⟨B13, (x1.flatMap eN0)⟩ :: ⟨B12, (x.flatMap eN0)⟩ :: ⟨B5, (r_5.Cells.flatMap eN0)⟩ :: ⟨B4, (r_4.Cells.flatMap eN0)⟩ :: ⟨B2, (one_.flatMap eN0)⟩ :: ⟨(aD 0), [vi 1, vi 0, vi 0, vi 0, vi 2]⟩ :: (((lH B14 c14 r_6).flatMap eN1) ++ ((D2.flatMap eN1) ++ ((D3.flatMap eN1) ++ [])))) := ST.subR hS46 (sk 0 (sk 1 (sk 2 (sk 3 (sk 4 (sk 5 (sk 6 (suba hm7 (suba (fun r_ (h : r_ ∈ ((D2.flatMap eN1) : List Ro)) => mOd (i := 7) (show r_ ∈ ((((D2.flatMap eN1) ++ ((D3.flatMap eN1) ++ []))) : List Ro) from mAl _ h)) (suba (fun r_ (h : r_ ∈ ((D3.flatMap eN1) : List Ro)) => mOd (i := 7) (show r_ ∈ ((((D2.flatMap eN1) ++ ((D3.flatMap eN1) ++ []))) : List Ro) from mAr _ (mAl _ h))) (fun _ h => by cases h)))))))))))
          refine ⟨(ST.subR (hS47.se [2, 3]) (R' := (⟨B14, (r_6.flatMap eN0)⟩ :: ⟨B13, (x1.flatMap eN0)⟩ :: ⟨B12, (x.flatMap eN0)⟩ :: ⟨B5, (r_5.Cells.flatMap eN0)⟩ :: ⟨B4, (r_4.Cells.flatMap eN0)⟩ :: ⟨B2, (one_.flatMap eN0)⟩ :: ⟨(aD 0), [vi 1, vi 0, vi 0, vi 0, vi 2]⟩ :: ((D3.flatMap eN1) ++ []))) (sk 0 (sk 1 (sk 2 (sk 3 (sk 4 (sk 5 (sk 6 (suba (fun r_ (h : r_ ∈ ((D3.flatMap eN1) : List Ro)) => mOd (i := 7) (show r_ ∈ (((((lH B14 c14 r_6).flatMap eN1) ++ ((D2.flatMap eN1) ++ ((D3.flatMap eN1) ++ [])))) : List Ro) from mAr _ (mAr _ (mAl _ h)))) (fun _ h => by cases h)))))))))), ?_⟩
          refine rA [10] ?_
          refine rS 71 10 rfl (Ys_bslice (s := 1) (len := 1) (vs := [(0, .string (bstr (x2 ++ (dT i2))))]) (cs := [.string (bstr (x2 ++ (dT i2)))]) (zs := [.string (bstr ([] : List UInt8))]) (m := 1) hS47 K33 K24 K71 rfl (mpc rfl mpn) rfl rfl rfl (by kernel_rfl) (by kernel_rfl) rfl) ?_ ?_
          ·rintro _ w_22 ⟨b6, rfl, hS48⟩
           refine ⟨(ST.subR (hS48.se [2, 3]) (R' := (⟨B14, (r_6.flatMap eN0)⟩ :: ⟨B13, (x1.flatMap eN0)⟩ :: ⟨B12, (x.flatMap eN0)⟩ :: ⟨B5, (r_5.Cells.flatMap eN0)⟩ :: ⟨B4, (r_4.Cells.flatMap eN0)⟩ :: ⟨B2, (one_.flatMap eN0)⟩ :: ⟨(aD 0), [vi 1, vi 0, vi 0, vi 0, vi 2]⟩ :: ((D3.flatMap eN1) ++ []))) (sk 0 (sk 1 (sk 2 (sk 3 (sk 4 (sk 5 (sk 6 (suba (fun r_ (h : r_ ∈ ((D3.flatMap eN1) : List Ro)) => mOd (i := 7) (show r_ ∈ (((((lH B14 c14 r_6).flatMap eN1) ++ ((D2.flatMap eN1) ++ ((D3.flatMap eN1) ++ [])))) : List Ro) from mAr _ (mAr _ (mAl _ h)))) (fun _ h => by cases h)))))))))), ?_⟩
           refine rA [11] ?_
           refine rS 72 11 rfl (Ys_append (s := 1) (by' := 16) (i := 0) (nn := words1.length) (c := c8) (k := 1) (len := (words1 ++ [(x2 ++ (dT i2))]).length) (B := B8) (xs := ([(x2 ++ (dT i2))].flatMap encS)) (cs' := ((words1 ++ [(x2 ++ (dT i2))]).flatMap encS)) hS48 K33 K24 K76 K77 rfl (by decide) rfl rfl rfl rfl (fm_lenn (l := words1) encS_len rfl) rfl (hS48.c 5) (fm_lenn (l := [(x2 ++ (dT i2))]) encS_len rfl) (fm_one' (enc := encS) encS_one [(x2 ++ (dT i2))]) (by have := hap1; omega) (by have := hap1; simp only [maxLen]; omega) (fm_app _ _) (app_len (l := words1) (l' := [(x2 ++ (dT i2))]) rfl rfl)) ?_ ?_
           ·rintro _ w_23 ⟨B15, c15, rfl, hS49⟩
            refine ⟨(ST.subR (hS49.se [2, 3]) (R' := (⟨B14, (r_6.flatMap eN0)⟩ :: ⟨B13, (x1.flatMap eN0)⟩ :: ⟨B12, (x.flatMap eN0)⟩ :: ⟨B5, (r_5.Cells.flatMap eN0)⟩ :: ⟨B4, (r_4.Cells.flatMap eN0)⟩ :: ⟨B2, (one_.flatMap eN0)⟩ :: ⟨(aD 0), [vi 1, vi 0, vi 0, vi 0, vi 2]⟩ :: ((D3.flatMap eN1) ++ []))) (sk 0 (sk 1 (sk 2 (sk 3 (sk 4 (sk 5 (sk 6 (suba (fun r_ (h : r_ ∈ ((D3.flatMap eN1) : List Ro)) => mOd (i := 7) (show r_ ∈ (((((lH B14 c14 r_6).flatMap eN1) ++ ((D2.flatMap eN1) ++ ((D3.flatMap eN1) ++ [])))) : List Ro) from mAr _ (mAr _ (mAl _ h)))) (fun _ h => by cases h)))))))))), ?_⟩
            refine rA [15] ?_
            refine rS 76 15 rfl (Ys_append (s := 1) (by' := 24) (i := 1) (nn := list1.length) (c := c9) (k := 1) (len := (list1 ++ ([r_6] : List (List TDyadic))).length) (B := B9) (xs := ((lH B14 c14 r_6).flatMap eN3)) (cs' := ((D2 ++ (lH B14 c14 r_6)).flatMap eN3)) hS49 K44 K11 K105 K91 rfl (by decide) rfl rfl rfl rfl (fm_lenn (l := D2) encD_SDyadic_len (dl_len hD2)) rfl (hS49.c 4) (fm_lenn (l := (lH B14 c14 r_6)) encD_SDyadic_len rfl) (fm_one' (enc := eN3) encD_SDyadic_one (lH B14 c14 r_6)) (by have := hap2; omega) (by have := hap2; simp only [maxLen]; omega) (fm_app _ _) (dl_sum (dl_len hD2) rfl (dl_app hD2 (show List.map Prod.snd (lH B14 c14 r_6) = ([r_6] : List (List TDyadic)) from rfl)))) ?_ ?_
            ·rintro _ w_24 ⟨B16, c16, rfl, hS50⟩
             have ho22 : Org w0 [] [⟨(aD 0), [vi 1, vi 0, vi 0, vi 0, vi 2]⟩] ((D2 ++ (lH B14 c14 r_6)).flatMap eN1) := (forg_app ho8 ho21)
             have hS51 : ST w0 [] _ [⟨B15, 9, ((words1 ++ [(x2 ++ (dT i2))]).flatMap encS), c15 * 1⟩, ⟨B16, 24, ((D2 ++ (lH B14 c14 r_6)).flatMap eN3), c16 * 1⟩, ⟨aD b4, 24, (D3.flatMap eN3), 2 * 1⟩, ⟨aD b5, 24, [.slice B14 r_6.length c14], 1⟩, ⟨aD b7, 24, ((lH B14 c14 r_6).flatMap eN3), 1 * 1⟩, ⟨aD b6, 9, ([(x2 ++ (dT i2))].flatMap encS), 1 * 1⟩] (⟨B14, (r_6.flatMap eN0)⟩ :: ⟨B13, (x1.flatMap eN0)⟩ :: ⟨B12, (x.flatMap eN0)⟩ :: ⟨B5, (r_5.Cells.flatMap eN0)⟩ :: ⟨B4, (r_4.Cells.flatMap eN0)⟩ :: ⟨B2, (one_.flatMap eN0)⟩ :: ⟨(aD 0), [vi 1, vi 0, vi 0, vi 0, vi 2]⟩ :: (((D2 ++ (lH B14 c14 r_6)).flatMap eN1) ++ (((lH B14 c14 r_6).flatMap eN1) ++ ((D3.flatMap eN1) ++ [])))) := ST.subR hS50 (sk 0 (sk 1 (sk 2 (sk 3 (sk 4 (sk 5 (sk 6 (suba (fsub_app (fun r_ (h : r_ ∈ ((D2.flatMap eN1) : List Ro)) => mOd (i := 7) (show r_ ∈ (((((lH B14 c14 r_6).flatMap eN1) ++ ((D2.flatMap eN1) ++ ((D3.flatMap eN1) ++ [])))) : List Ro) from mAr _ (mAl _ h))) (fun r_ (h : r_ ∈ (((lH B14 c14 r_6).flatMap eN1) : List Ro)) => mOd (i := 7) (show r_ ∈ (((((lH B14 c14 r_6).flatMap eN1) ++ ((D2.flatMap eN1) ++ ((D3.flatMap eN1) ++ [])))) : List Ro) from mAl _ h))) (suba (fun r_ (h : r_ ∈ (((lH B14 c14 r_6).flatMap eN1) : List Ro)) => mOd (i := 7) (show r_ ∈ (((((lH B14 c14 r_6).flatMap eN1) ++ ((D2.flatMap eN1) ++ ((D3.flatMap eN1) ++ [])))) : List Ro) from mAl _ h)) (suba (fun r_ (h : r_ ∈ ((D3.flatMap eN1) : List Ro)) => mOd (i := 7) (show r_ ∈ (((((lH B14 c14 r_6).flatMap eN1) ++ ((D2.flatMap eN1) ++ ((D3.flatMap eN1) ++ [])))) : List Ro) from mAr _ (mAr _ (mAl _ h)))) (fun _ h => by cases h)))))))))))
             refine ⟨(ST.subR (hS51.se [2, 3]) (R' := (⟨B14, (r_6.flatMap eN0)⟩ :: ⟨B13, (x1.flatMap eN0)⟩ :: ⟨B12, (x.flatMap eN0)⟩ :: ⟨B5, (r_5.Cells.flatMap eN0)⟩ :: ⟨B4, (r_4.Cells.flatMap eN0)⟩ :: ⟨B2, (one_.flatMap eN0)⟩ :: ⟨(aD 0), [vi 1, vi 0, vi 0, vi 0, vi 2]⟩ :: ((D3.flatMap eN1) ++ []))) (sk 0 (sk 1 (sk 2 (sk 3 (sk 4 (sk 5 (sk 6 (suba (fun r_ (h : r_ ∈ ((D3.flatMap eN1) : List Ro)) => mOd (i := 7) (show r_ ∈ (((((D2 ++ (lH B14 c14 r_6)).flatMap eN1) ++ (((lH B14 c14 r_6).flatMap eN1) ++ ((D3.flatMap eN1) ++ [])))) : List Ro) from mAr _ (mAr _ (mAl _ h)))) (fun _ h => by cases h)))))))))), ?_⟩
             refine ra_q 16 4 (v := .slice B15 ((words1 ++ [(x2 ++ (dT i2))]).length) c15) rfl rfl rfl (by kernel_rfl) (by kernel_rfl) (by kernel_rfl) (ST.subR (hS51.se [2, 3]) (R' := (⟨B14, (r_6.flatMap eN0)⟩ :: ⟨B13, (x1.flatMap eN0)⟩ :: ⟨B12, (x.flatMap eN0)⟩ :: ⟨B5, (r_5.Cells.flatMap eN0)⟩ :: ⟨B4, (r_4.Cells.flatMap eN0)⟩ :: ⟨B2, (one_.flatMap eN0)⟩ :: ⟨(aD 0), [vi 1, vi 0, vi 0, vi 0, vi 2]⟩ :: ((D3.flatMap eN1) ++ []))) (sk 0 (sk 1 (sk 2 (sk 3 (sk 4 (sk 5 (sk 6 (suba (fun r_ (h : r_ ∈ ((D3.flatMap eN1) : List Ro)) => mOd (i := 7) (show r_ ∈ (((((D2 ++ (lH B14 c14 r_6)).flatMap eN1) ++ (((lH B14 c14 r_6).flatMap eN1) ++ ((D3.flatMap eN1) ++ [])))) : List Ro) from mAr _ (mAr _ (mAl _ h)))) (fun _ h => by cases h)))))))))) (fun w' hw' => (yg (.slice B15 ((words1 ++ [(x2 ++ (dT i2))]).length) c15))) ?_
             refine rq 17 5 (v := .slice B16 ((list1 ++ ([r_6] : List (List TDyadic))).length) c16) rfl (ST.subR (hS51.se [2, 3]) (R' := (⟨B14, (r_6.flatMap eN0)⟩ :: ⟨B13, (x1.flatMap eN0)⟩ :: ⟨B12, (x.flatMap eN0)⟩ :: ⟨B5, (r_5.Cells.flatMap eN0)⟩ :: ⟨B4, (r_4.Cells.flatMap eN0)⟩ :: ⟨B2, (one_.flatMap eN0)⟩ :: ⟨(aD 0), [vi 1, vi 0, vi 0, vi 0, vi 2]⟩ :: ((D3.flatMap eN1) ++ []))) (sk 0 (sk 1 (sk 2 (sk 3 (sk 4 (sk 5 (sk 6 (suba (fun r_ (h : r_ ∈ ((D3.flatMap eN1) : List Ro)) => mOd (i := 7) (show r_ ∈ (((((D2 ++ (lH B14 c14 r_6)).flatMap eN1) ++ (((lH B14 c14 r_6).flatMap eN1) ++ ((D3.flatMap eN1) ++ [])))) : List Ro) from mAr _ (mAr _ (mAl _ h)))) (fun _ h => by cases h)))))))))) (fun w' hw' => (yg (.slice B16 ((list1 ++ ([r_6] : List (List TDyadic))).length) c16))) ?_
             refine ra_done (by kernel_rfl) ?_
             have hS52 : ST w0 [] _ [⟨B15, 9, ((words1 ++ [(x2 ++ (dT i2))]).flatMap encS), c15 * 1⟩, ⟨B16, 24, ((D2 ++ (lH B14 c14 r_6)).flatMap eN3), c16 * 1⟩, ⟨aD b4, 24, (D3.flatMap eN3), 2 * 1⟩, ⟨aD b5, 24, [.slice B14 r_6.length c14], 1⟩, ⟨aD b7, 24, ((lH B14 c14 r_6).flatMap eN3), 1 * 1⟩, ⟨aD b6, 9, ([(x2 ++ (dT i2))].flatMap encS), 1 * 1⟩] (⟨B14, (r_6.flatMap eN0)⟩ :: ⟨B13, (x1.flatMap eN0)⟩ :: ⟨B12, (x.flatMap eN0)⟩ :: ⟨B5, (r_5.Cells.flatMap eN0)⟩ :: ⟨B4, (r_4.Cells.flatMap eN0)⟩ :: ⟨B2, (one_.flatMap eN0)⟩ :: ⟨(aD 0), [vi 1, vi 0, vi 0, vi 0, vi 2]⟩ :: (((D2 ++ (lH B14 c14 r_6)).flatMap eN1) ++ ((D3.flatMap eN1) ++ []))) := ST.subR hS51 (sk 0 (sk 1 (sk 2 (sk 3 (sk 4 (sk 5 (sk 6 (suba (fun r_ (h : r_ ∈ (((D2 ++ (lH B14 c14 r_6)).flatMap eN1) : List Ro)) => mOd (i := 7) (show r_ ∈ (((((D2 ++ (lH B14 c14 r_6)).flatMap eN1) ++ (((lH B14 c14 r_6).flatMap eN1) ++ ((D3.flatMap eN1) ++ [])))) : List Ro) from mAl _ h)) (suba (fun r_ (h : r_ ∈ ((D3.flatMap eN1) : List Ro)) => mOd (i := 7) (show r_ ∈ (((((D2 ++ (lH B14 c14 r_6)).flatMap eN1) ++ (((lH B14 c14 r_6).flatMap eN1) ++ ((D3.flatMap eN1) ++ [])))) : List Ro) from mAr _ (mAr _ (mAl _ h)))) (fun _ h => by cases h))))))))))
             exact ⟨B15, c15, B16, c16, (D2 ++ (lH B14 c14 r_6)), (fc rfl (fc rfl (fc (hf2.g 6 2) (fc (hf2.g 7 3) (fc (hf2.g 8 4) (fc (hf2.g 41 5) (fc (hf2.g 42 6) (fc (hf2.g 43 7) fn_)))))))), (dl_app hD2 (show List.map Prod.snd (lH B14 c14 r_6) = ([r_6] : List (List TDyadic)) from rfl)), ho22, (hS52.sel [0, 1, 2] rfl rfl)⟩
            exact aN
           exact aN
          exact aN
         exact aN
        refine rS 75 14 rfl (Ys_bslice (s := 1) (len := 1) (vs := [(0, .slice B14 r_6.length c14)]) (cs := [.slice B14 r_6.length c14]) (zs := [.slice none 0 0]) (m := 1) hS32 K44 K11 K75 rfl (mpc rfl mpn) rfl rfl rfl (by kernel_rfl) (by kernel_rfl) rfl) ?_ ?_
        ·rintro _ w_25 ⟨b7, rfl, hS53⟩
         have hm8 : ∀ r ∈ ((lH B14 c14 r_6).flatMap eN1), r ∈ ((⟨B14, (r_6.flatMap eN0)⟩ :: ⟨B13, (x1.flatMap eN0)⟩ :: ⟨B12, (x.flatMap eN0)⟩ :: ⟨B5, (r_5.Cells.flatMap eN0)⟩ :: ⟨B4, (r_4.Cells.flatMap eN0)⟩ :: ⟨B2, (one_.flatMap eN0)⟩ :: ⟨(aD 0), [vi 1, vi 0, vi 0, vi 0, vi 2]⟩ :: ((D2.flatMap eN1) ++ ((D3.flatMap eN1) ++ []))) : List Ro) := (fsub_cons (sk 0 (fun _ h => by cases h)) fsub_nil)
         have ho23 : Org w0 [] [⟨(aD 0), [vi 1, vi 0, vi 0, vi 0, vi 2]⟩] ((lH B14 c14 r_6).flatMap eN1) := (forg_cons (org_cons ho15 org_nil) forg_nil)
         have hS54 : ST w0 [] _ [⟨B8, 9, (words1.flatMap encS), c8 * 1⟩, ⟨B9, 24, (D2.flatMap eN3), c9 * 1⟩, ⟨aD b4, 24, (D3.flatMap eN3), 2 * 1⟩, ⟨aD b5, 24, [.slice B14 r_6.length c14], 1⟩, ⟨aD b7, 24, ((lH B14 c14 r_6).flatMap eN3), 1 * 1⟩] (⟨B14, (r_6.flatMap eN0)⟩ :: ⟨B13, (x1.flatMap eN0)⟩ :: ⟨B12, (x.flatMap eN0)⟩ :: ⟨B5, (r_5.Cells.flatMap eN0)⟩ :: ⟨B4, (r_4.Cells.flatMap eN0)⟩ :: ⟨B2, (one_.flatMap eN0)⟩ :: ⟨(aD 0), [vi 1, vi 0, vi 0, vi 0, vi 2]⟩ :: (((lH B14 c14 r_6).flatMap eN1) ++ ((D2.flatMap eN1) ++ ((D3.flatMap eN1) ++ [])))) := ST.subR hS53 (sk 0 (sk 1 (sk 2 (sk 3 (sk 4 (sk 5 (sk 6 (suba hm8 (suba (fun r_ (h : r_ ∈ ((D2.flatMap eN1) : List Ro)) => mOd (i := 7) (show r_ ∈ ((((D2.flatMap eN1) ++ ((D3.flatMap eN1) ++ []))) : List Ro) from mAl _ h)) (suba (fun r_ (h : r_ ∈ ((D3.flatMap eN1) : List Ro)) => mOd (i := 7) (show r_ ∈ ((((D2.flatMap eN1) ++ ((D3.flatMap eN1) ++ []))) : List Ro) from mAr _ (mAl _ h))) (fun _ h => by cases h)))))))))))
         refine ⟨(ST.subR (hS54.se [2, 3]) (R' := (⟨B14, (r_6.flatMap eN0)⟩ :: ⟨B13, (x1.flatMap eN0)⟩ :: ⟨B12, (x.flatMap eN0)⟩ :: ⟨B5, (r_5.Cells.flatMap eN0)⟩ :: ⟨B4, (r_4.Cells.flatMap eN0)⟩ :: ⟨B2, (one_.flatMap eN0)⟩ :: ⟨(aD 0), [vi 1, vi 0, vi 0, vi 0, vi 2]⟩ :: ((D3.flatMap eN1) ++ []))) (sk 0 (sk 1 (sk 2 (sk 3 (sk 4 (sk 5 (sk 6 (suba (fun r_ (h : r_ ∈ ((D3.flatMap eN1) : List Ro)) => mOd (i := 7) (show r_ ∈ (((((lH B14 c14 r_6).flatMap eN1) ++ ((D2.flatMap eN1) ++ ((D3.flatMap eN1) ++ [])))) : List Ro) from mAr _ (mAr _ (mAl _ h)))) (fun _ h => by cases h)))))))))), ?_⟩
         refine rA [4] ?_
         refine ra_y 65 (i := 4) (v := .string (bstr x2)) rfl rfl rfl (yl B8 (at_1.toNat * 1) (words1.flatMap encS) (.string (bstr x2)) K41 (hS54.c 0) rfl rfl (gi_at0 encS_len hx2 rfl)) (ST.subR (hS54.se [2, 3]) (R' := (⟨B14, (r_6.flatMap eN0)⟩ :: ⟨B13, (x1.flatMap eN0)⟩ :: ⟨B12, (x.flatMap eN0)⟩ :: ⟨B5, (r_5.Cells.flatMap eN0)⟩ :: ⟨B4, (r_4.Cells.flatMap eN0)⟩ :: ⟨B2, (one_.flatMap eN0)⟩ :: ⟨(aD 0), [vi 1, vi 0, vi 0, vi 0, vi 2]⟩ :: ((D3.flatMap eN1) ++ []))) (sk 0 (sk 1 (sk 2 (sk 3 (sk 4 (sk 5 (sk 6 (suba (fun r_ (h : r_ ∈ ((D3.flatMap eN1) : List Ro)) => mOd (i := 7) (show r_ ∈ (((((lH B14 c14 r_6).flatMap eN1) ++ ((D2.flatMap eN1) ++ ((D3.flatMap eN1) ++ [])))) : List Ro) from mAr _ (mAr _ (mAl _ h)))) (fun _ h => by cases h)))))))))) ?_ ?_
         ·skip
          refine ra_q 9 70 (v := .string (bstr (x2 ++ (dT i2)))) rfl rfl rfl (by kernel_rfl) (by kernel_rfl) (by kernel_rfl) (ST.subR (hS54.se [2, 3]) (R' := (⟨B14, (r_6.flatMap eN0)⟩ :: ⟨B13, (x1.flatMap eN0)⟩ :: ⟨B12, (x.flatMap eN0)⟩ :: ⟨B5, (r_5.Cells.flatMap eN0)⟩ :: ⟨B4, (r_4.Cells.flatMap eN0)⟩ :: ⟨B2, (one_.flatMap eN0)⟩ :: ⟨(aD 0), [vi 1, vi 0, vi 0, vi 0, vi 2]⟩ :: ((D3.flatMap eN1) ++ []))) (sk 0 (sk 1 (sk 2 (sk 3 (sk 4 (sk 5 (sk 6 (suba (fun r_ (h : r_ ∈ ((D3.flatMap eN1) : List Ro)) => mOd (i := 7) (show r_ ∈ (((((lH B14 c14 r_6).flatMap eN1) ++ ((D2.flatMap eN1) ++ ((D3.flatMap eN1) ++ [])))) : List Ro) from mAr _ (mAr _ (mAl _ h)))) (fun _ h => by cases h)))))))))) (fun w' hw' => (Y_sadd (a := x2) (b := (dT i2)) rfl rfl rfl hsa)) ?_
          refine rA [10] ?_
          refine rS 71 10 rfl (Ys_bslice (s := 1) (len := 1) (vs := [(0, .string (bstr (x2 ++ (dT i2))))]) (cs := [.string (bstr (x2 ++ (dT i2)))]) (zs := [.string (bstr ([] : List UInt8))]) (m := 1) hS54 K33 K24 K71 rfl (mpc rfl mpn) rfl rfl rfl (by kernel_rfl) (by kernel_rfl) rfl) ?_ ?_
          ·rintro _ w_26 ⟨b6, rfl, hS55⟩
           refine ⟨(ST.subR (hS55.se [2, 3]) (R' := (⟨B14, (r_6.flatMap eN0)⟩ :: ⟨B13, (x1.flatMap eN0)⟩ :: ⟨B12, (x.flatMap eN0)⟩ :: ⟨B5, (r_5.Cells.flatMap eN0)⟩ :: ⟨B4, (r_4.Cells.flatMap eN0)⟩ :: ⟨B2, (one_.flatMap eN0)⟩ :: ⟨(aD 0), [vi 1, vi 0, vi 0, vi 0, vi 2]⟩ :: ((D3.flatMap eN1) ++ []))) (sk 0 (sk 1 (sk 2 (sk 3 (sk 4 (sk 5 (sk 6 (suba (fun r_ (h : r_ ∈ ((D3.flatMap eN1) : List Ro)) => mOd (i := 7) (show r_ ∈ (((((lH B14 c14 r_6).flatMap eN1) ++ ((D2.flatMap eN1) ++ ((D3.flatMap eN1) ++ [])))) : List Ro) from mAr _ (mAr _ (mAl _ h)))) (fun _ h => by cases h)))))))))), ?_⟩
           refine rA [11] ?_
           refine rS 72 11 rfl (Ys_append (s := 1) (by' := 16) (i := 0) (nn := words1.length) (c := c8) (k := 1) (len := (words1 ++ [(x2 ++ (dT i2))]).length) (B := B8) (xs := ([(x2 ++ (dT i2))].flatMap encS)) (cs' := ((words1 ++ [(x2 ++ (dT i2))]).flatMap encS)) hS55 K33 K24 K76 K77 rfl (by decide) rfl rfl rfl rfl (fm_lenn (l := words1) encS_len rfl) rfl (hS55.c 5) (fm_lenn (l := [(x2 ++ (dT i2))]) encS_len rfl) (fm_one' (enc := encS) encS_one [(x2 ++ (dT i2))]) (by have := hap1; omega) (by have := hap1; simp only [maxLen]; omega) (fm_app _ _) (app_len (l := words1) (l' := [(x2 ++ (dT i2))]) rfl rfl)) ?_ ?_
           ·rintro _ w_27 ⟨B15, c15, rfl, hS56⟩
            refine ⟨(ST.subR (hS56.se [2, 3]) (R' := (⟨B14, (r_6.flatMap eN0)⟩ :: ⟨B13, (x1.flatMap eN0)⟩ :: ⟨B12, (x.flatMap eN0)⟩ :: ⟨B5, (r_5.Cells.flatMap eN0)⟩ :: ⟨B4, (r_4.Cells.flatMap eN0)⟩ :: ⟨B2, (one_.flatMap eN0)⟩ :: ⟨(aD 0), [vi 1, vi 0, vi 0, vi 0, vi 2]⟩ :: ((D3.flatMap eN1) ++ []))) (sk 0 (sk 1 (sk 2 (sk 3 (sk 4 (sk 5 (sk 6 (suba (fun r_ (h : r_ ∈ ((D3.flatMap eN1) : List Ro)) => mOd (i := 7) (show r_ ∈ (((((lH B14 c14 r_6).flatMap eN1) ++ ((D2.flatMap eN1) ++ ((D3.flatMap eN1) ++ [])))) : List Ro) from mAr _ (mAr _ (mAl _ h)))) (fun _ h => by cases h)))))))))), ?_⟩
            refine rA [15] ?_
            refine rS 76 15 rfl (Ys_append (s := 1) (by' := 24) (i := 1) (nn := list1.length) (c := c9) (k := 1) (len := (list1 ++ ([r_6] : List (List TDyadic))).length) (B := B9) (xs := ((lH B14 c14 r_6).flatMap eN3)) (cs' := ((D2 ++ (lH B14 c14 r_6)).flatMap eN3)) hS56 K44 K11 K105 K91 rfl (by decide) rfl rfl rfl rfl (fm_lenn (l := D2) encD_SDyadic_len (dl_len hD2)) rfl (hS56.c 4) (fm_lenn (l := (lH B14 c14 r_6)) encD_SDyadic_len rfl) (fm_one' (enc := eN3) encD_SDyadic_one (lH B14 c14 r_6)) (by have := hap2; omega) (by have := hap2; simp only [maxLen]; omega) (fm_app _ _) (dl_sum (dl_len hD2) rfl (dl_app hD2 (show List.map Prod.snd (lH B14 c14 r_6) = ([r_6] : List (List TDyadic)) from rfl)))) ?_ ?_
            ·rintro _ w_28 ⟨B16, c16, rfl, hS57⟩
             have ho24 : Org w0 [] [⟨(aD 0), [vi 1, vi 0, vi 0, vi 0, vi 2]⟩] ((D2 ++ (lH B14 c14 r_6)).flatMap eN1) := (forg_app ho8 ho23)
             have hS58 : ST w0 [] _ [⟨B15, 9, ((words1 ++ [(x2 ++ (dT i2))]).flatMap encS), c15 * 1⟩, ⟨B16, 24, ((D2 ++ (lH B14 c14 r_6)).flatMap eN3), c16 * 1⟩, ⟨aD b4, 24, (D3.flatMap eN3), 2 * 1⟩, ⟨aD b5, 24, [.slice B14 r_6.length c14], 1⟩, ⟨aD b7, 24, ((lH B14 c14 r_6).flatMap eN3), 1 * 1⟩, ⟨aD b6, 9, ([(x2 ++ (dT i2))].flatMap encS), 1 * 1⟩] (⟨B14, (r_6.flatMap eN0)⟩ :: ⟨B13, (x1.flatMap eN0)⟩ :: ⟨B12, (x.flatMap eN0)⟩ :: ⟨B5, (r_5.Cells.flatMap eN0)⟩ :: ⟨B4, (r_4.Cells.flatMap eN0)⟩ :: ⟨B2, (one_.flatMap eN0)⟩ :: ⟨(aD 0), [vi 1, vi 0, vi 0, vi 0, vi 2]⟩ :: (((D2 ++ (lH B14 c14 r_6)).flatMap eN1) ++ (((lH B14 c14 r_6).flatMap eN1) ++ ((D3.flatMap eN1) ++ [])))) := ST.subR hS57 (sk 0 (sk 1 (sk 2 (sk 3 (sk 4 (sk 5 (sk 6 (suba (fsub_app (fun r_ (h : r_ ∈ ((D2.flatMap eN1) : List Ro)) => mOd (i := 7) (show r_ ∈ (((((lH B14 c14 r_6).flatMap eN1) ++ ((D2.flatMap eN1) ++ ((D3.flatMap eN1) ++ [])))) : List Ro) from mAr _ (mAl _ h))) (fun r_ (h : r_ ∈ (((lH B14 c14 r_6).flatMap eN1) : List Ro)) => mOd (i := 7) (show r_ ∈ (((((lH B14 c14 r_6).flatMap eN1) ++ ((D2.flatMap eN1) ++ ((D3.flatMap eN1) ++ [])))) : List Ro) from mAl _ h))) (suba (fun r_ (h : r_ ∈ (((lH B14 c14 r_6).flatMap eN1) : List Ro)) => mOd (i := 7) (show r_ ∈ (((((lH B14 c14 r_6).flatMap eN1) ++ ((D2.flatMap eN1) ++ ((D3.flatMap eN1) ++ [])))) : List Ro) from mAl _ h)) (suba (fun r_ (h : r_ ∈ ((D3.flatMap eN1) : List Ro)) => mOd (i := 7) (show r_ ∈ (((((lH B14 c14 r_6).flatMap eN1) ++ ((D2.flatMap eN1) ++ ((D3.flatMap eN1) ++ [])))) : List Ro) from mAr _ (mAr _ (mAl _ h)))) (fun _ h => by cases h)))))))))))
             refine ⟨(ST.subR (hS58.se [2, 3]) (R' := (⟨B14, (r_6.flatMap eN0)⟩ :: ⟨B13, (x1.flatMap eN0)⟩ :: ⟨B12, (x.flatMap eN0)⟩ :: ⟨B5, (r_5.Cells.flatMap eN0)⟩ :: ⟨B4, (r_4.Cells.flatMap eN0)⟩ :: ⟨B2, (one_.flatMap eN0)⟩ :: ⟨(aD 0), [vi 1, vi 0, vi 0, vi 0, vi 2]⟩ :: ((D3.flatMap eN1) ++ []))) (sk 0 (sk 1 (sk 2 (sk 3 (sk 4 (sk 5 (sk 6 (suba (fun r_ (h : r_ ∈ ((D3.flatMap eN1) : List Ro)) => mOd (i := 7) (show r_ ∈ (((((D2 ++ (lH B14 c14 r_6)).flatMap eN1) ++ (((lH B14 c14 r_6).flatMap eN1) ++ ((D3.flatMap eN1) ++ [])))) : List Ro) from mAr _ (mAr _ (mAl _ h)))) (fun _ h => by cases h)))))))))), ?_⟩
             refine ra_q 16 4 (v := .slice B15 ((words1 ++ [(x2 ++ (dT i2))]).length) c15) rfl rfl rfl (by kernel_rfl) (by kernel_rfl) (by kernel_rfl) (ST.subR (hS58.se [2, 3]) (R' := (⟨B14, (r_6.flatMap eN0)⟩ :: ⟨B13, (x1.flatMap eN0)⟩ :: ⟨B12, (x.flatMap eN0)⟩ :: ⟨B5, (r_5.Cells.flatMap eN0)⟩ :: ⟨B4, (r_4.Cells.flatMap eN0)⟩ :: ⟨B2, (one_.flatMap eN0)⟩ :: ⟨(aD 0), [vi 1, vi 0, vi 0, vi 0, vi 2]⟩ :: ((D3.flatMap eN1) ++ []))) (sk 0 (sk 1 (sk 2 (sk 3 (sk 4 (sk 5 (sk 6 (suba (fun r_ (h : r_ ∈ ((D3.flatMap eN1) : List Ro)) => mOd (i := 7) (show r_ ∈ (((((D2 ++ (lH B14 c14 r_6)).flatMap eN1) ++ (((lH B14 c14 r_6).flatMap eN1) ++ ((D3.flatMap eN1) ++ [])))) : List Ro) from mAr _ (mAr _ (mAl _ h)))) (fun _ h => by cases h)))))))))) (fun w' hw' => (yg (.slice B15 ((words1 ++ [(x2 ++ (dT i2))]).length) c15))) ?_
             refine rq 17 5 (v := .slice B16 ((list1 ++ ([r_6] : List (List TDyadic))).length) c16) rfl (ST.subR (hS58.se [2, 3]) (R' := (⟨B14, (r_6.flatMap eN0)⟩ :: ⟨B13, (x1.flatMap eN0)⟩ :: ⟨B12, (x.flatMap eN0)⟩ :: ⟨B5, (r_5.Cells.flatMap eN0)⟩ :: ⟨B4, (r_4.Cells.flatMap eN0)⟩ :: ⟨B2, (one_.flatMap eN0)⟩ :: ⟨(aD 0), [vi 1, vi 0, vi 0, vi 0, vi 2]⟩ :: ((D3.flatMap eN1) ++ []))) (sk 0 (sk 1 (sk 2 (sk 3 (sk 4 (sk 5 (sk 6 (suba (fun r_ (h : r_ ∈ ((D3.flatMap eN1) : List Ro)) => mOd (i := 7) (show r_ ∈ (((((D2 ++ (lH B14 c14 r_6)).flatMap eN1) ++ (((lH B14 c14 r_6).flatMap eN1) ++ ((D3.flatMap eN1) ++ [])))) : List Ro) from mAr _ (mAr _ (mAl _ h)))) (fun _ h => by cases h)))))))))) (fun w' hw' => (yg (.slice B16 ((list1 ++ ([r_6] : List (List TDyadic))).length) c16))) ?_
             refine ra_done (by kernel_rfl) ?_
             have hS59 : ST w0 [] _ [⟨B15, 9, ((words1 ++ [(x2 ++ (dT i2))]).flatMap encS), c15 * 1⟩, ⟨B16, 24, ((D2 ++ (lH B14 c14 r_6)).flatMap eN3), c16 * 1⟩, ⟨aD b4, 24, (D3.flatMap eN3), 2 * 1⟩, ⟨aD b5, 24, [.slice B14 r_6.length c14], 1⟩, ⟨aD b7, 24, ((lH B14 c14 r_6).flatMap eN3), 1 * 1⟩, ⟨aD b6, 9, ([(x2 ++ (dT i2))].flatMap encS), 1 * 1⟩] (⟨B14, (r_6.flatMap eN0)⟩ :: ⟨B13, (x1.flatMap eN0)⟩ :: ⟨B12, (x.flatMap eN0)⟩ :: ⟨B5, (r_5.Cells.flatMap eN0)⟩ :: ⟨B4, (r_4.Cells.flatMap eN0)⟩ :: ⟨B2, (one_.flatMap eN0)⟩ :: ⟨(aD 0), [vi 1, vi 0, vi 0, vi 0, vi 2]⟩ :: (((D2 ++ (lH B14 c14 r_6)).flatMap eN1) ++ ((D3.flatMap eN1) ++ []))) := ST.subR hS58 (sk 0 (sk 1 (sk 2 (sk 3 (sk 4 (sk 5 (sk 6 (suba (fun r_ (h : r_ ∈ (((D2 ++ (lH B14 c14 r_6)).flatMap eN1) : List Ro)) => mOd (i := 7) (show r_ ∈ (((((D2 ++ (lH B14 c14 r_6)).flatMap eN1) ++ (((lH B14 c14 r_6).flatMap eN1) ++ ((D3.flatMap eN1) ++ [])))) : List Ro) from mAl _ h)) (suba (fun r_ (h : r_ ∈ ((D3.flatMap eN1) : List Ro)) => mOd (i := 7) (show r_ ∈ (((((D2 ++ (lH B14 c14 r_6)).flatMap eN1) ++ (((lH B14 c14 r_6).flatMap eN1) ++ ((D3.flatMap eN1) ++ [])))) : List Ro) from mAr _ (mAr _ (mAl _ h)))) (fun _ h => by cases h))))))))))
             exact ⟨B15, c15, B16, c16, (D2 ++ (lH B14 c14 r_6)), (fc rfl (fc rfl (fc (hf2.g 6 2) (fc (hf2.g 7 3) (fc (hf2.g 8 4) (fc (hf2.g 41 5) (fc (hf2.g 42 6) (fc (hf2.g 43 7) fn_)))))))), (dl_app hD2 (show List.map Prod.snd (lH B14 c14 r_6) = ([r_6] : List (List TDyadic)) from rfl)), ho24, (hS59.sel [0, 1, 2] rfl rfl)⟩
            exact aN
           exact aN
          exact aN
         exact aN
        exact aN
       refine rS 75 14 rfl (Ys_bslice (s := 1) (len := 1) (vs := [(0, .slice B14 r_6.length c14)]) (cs := [.slice B14 r_6.length c14]) (zs := [.slice none 0 0]) (m := 1) hS32 K44 K11 K75 rfl (mpc rfl mpn) rfl rfl rfl (by kernel_rfl) (by kernel_rfl) rfl) ?_ ?_
       ·rintro _ w_29 ⟨b7, rfl, hS60⟩
        have hm9 : ∀ r ∈ ((lH B14 c14 r_6).flatMap eN1), r ∈ ((⟨B14, (r_6.flatMap eN0)⟩ :: ⟨B13, (x1.flatMap eN0)⟩ :: ⟨B12, (x.flatMap eN0)⟩ :: ⟨B5, (r_5.Cells.flatMap eN0)⟩ :: ⟨B4, (r_4.Cells.flatMap eN0)⟩ :: ⟨B2, (one_.flatMap eN0)⟩ :: ⟨(aD 0), [vi 1, vi 0, vi 0, vi 0, vi 2]⟩ :: ((D2.flatMap eN1) ++ ((D3.flatMap eN1) ++ []))) : List Ro) := (fsub_cons (sk 0 (fun _ h => by cases h)) fsub_nil)
        have ho25 : Org w0 [] [⟨(aD 0), [vi 1, vi 0, vi 0, vi 0, vi 2]⟩] ((lH B14 c14 r_6).flatMap eN1) := (forg_cons (org_cons ho15 org_nil) forg_nil)
        have hS61 : ST w0 [] _ [⟨B8, 9, (words1.flatMap encS), c8 * 1⟩, ⟨B9, 24, (D2.flatMap eN3), c9 * 1⟩, ⟨aD b4, 24, (D3.flatMap eN3), 2 * 1⟩, ⟨aD b5, 24, [.slice B14 r_6.length c14], 1⟩, ⟨aD b7, 24, ((lH B14 c14 r_6).flatMap eN3), 1 * 1⟩] (⟨B14, (r_6.flatMap eN0)⟩ :: ⟨B13, (x1.flatMap eN0)⟩ :: ⟨B12, (x.flatMap eN0)⟩ :: ⟨B5, (r_5.Cells.flatMap eN0)⟩ :: ⟨B4, (r_4.Cells.flatMap eN0)⟩ :: ⟨B2, (one_.flatMap eN0)⟩ :: ⟨(aD 0), [vi 1, vi 0, vi 0, vi 0, vi 2]⟩ :: (((lH B14 c14 r_6).flatMap eN1) ++ ((D2.flatMap eN1) ++ ((D3.flatMap eN1) ++ [])))) := ST.subR hS60 (sk 0 (sk 1 (sk 2 (sk 3 (sk 4 (sk 5 (sk 6 (suba hm9 (suba (fun r_ (h : r_ ∈ ((D2.flatMap eN1) : List Ro)) => mOd (i := 7) (show r_ ∈ ((((D2.flatMap eN1) ++ ((D3.flatMap eN1) ++ []))) : List Ro) from mAl _ h)) (suba (fun r_ (h : r_ ∈ ((D3.flatMap eN1) : List Ro)) => mOd (i := 7) (show r_ ∈ ((((D2.flatMap eN1) ++ ((D3.flatMap eN1) ++ []))) : List Ro) from mAr _ (mAl _ h))) (fun _ h => by cases h)))))))))))
        refine ⟨(ST.subR (hS61.se [2, 3]) (R' := (⟨B14, (r_6.flatMap eN0)⟩ :: ⟨B13, (x1.flatMap eN0)⟩ :: ⟨B12, (x.flatMap eN0)⟩ :: ⟨B5, (r_5.Cells.flatMap eN0)⟩ :: ⟨B4, (r_4.Cells.flatMap eN0)⟩ :: ⟨B2, (one_.flatMap eN0)⟩ :: ⟨(aD 0), [vi 1, vi 0, vi 0, vi 0, vi 2]⟩ :: ((D3.flatMap eN1) ++ []))) (sk 0 (sk 1 (sk 2 (sk 3 (sk 4 (sk 5 (sk 6 (suba (fun r_ (h : r_ ∈ ((D3.flatMap eN1) : List Ro)) => mOd (i := 7) (show r_ ∈ (((((lH B14 c14 r_6).flatMap eN1) ++ ((D2.flatMap eN1) ++ ((D3.flatMap eN1) ++ [])))) : List Ro) from mAr _ (mAr _ (mAl _ h)))) (fun _ h => by cases h)))))))))), ?_⟩
        refine rA [3] ?_
        refine ra_y 64 (i := 3) (v := pt B8 (at_1.toNat * 1)) rfl rfl rfl (Y_index (B := B8) (m := words1.length) (c := c8) (k := .i64) (i := at_1) K33 K24 rfl rfl rfl (gi_isSome encS_len rfl (hS61.c 0) hx2) (getI_nn hx2) (getI_ltI hx2 rfl)) (ST.subR (hS61.se [2, 3]) (R' := (⟨B14, (r_6.flatMap eN0)⟩ :: ⟨B13, (x1.flatMap eN0)⟩ :: ⟨B12, (x.flatMap eN0)⟩ :: ⟨B5, (r_5.Cells.flatMap eN0)⟩ :: ⟨B4, (r_4.Cells.flatMap eN0)⟩ :: ⟨B2, (one_.flatMap eN0)⟩ :: ⟨(aD 0), [vi 1, vi 0, vi 0, vi 0, vi 2]⟩ :: ((D3.flatMap eN1) ++ []))) (sk 0 (sk 1 (sk 2 (sk 3 (sk 4 (sk 5 (sk 6 (suba (fun r_ (h : r_ ∈ ((D3.flatMap eN1) : List Ro)) => mOd (i := 7) (show r_ ∈ (((((lH B14 c14 r_6).flatMap eN1) ++ ((D2.flatMap eN1) ++ ((D3.flatMap eN1) ++ [])))) : List Ro) from mAr _ (mAr _ (mAl _ h)))) (fun _ h => by cases h)))))))))) ?_ ?_
        ·skip
         refine rA [4] ?_
         refine ra_y 65 (i := 4) (v := .string (bstr x2)) rfl rfl rfl (yl B8 (at_1.toNat * 1) (words1.flatMap encS) (.string (bstr x2)) K41 (hS61.c 0) rfl rfl (gi_at0 encS_len hx2 rfl)) (ST.subR (hS61.se [2, 3]) (R' := (⟨B14, (r_6.flatMap eN0)⟩ :: ⟨B13, (x1.flatMap eN0)⟩ :: ⟨B12, (x.flatMap eN0)⟩ :: ⟨B5, (r_5.Cells.flatMap eN0)⟩ :: ⟨B4, (r_4.Cells.flatMap eN0)⟩ :: ⟨B2, (one_.flatMap eN0)⟩ :: ⟨(aD 0), [vi 1, vi 0, vi 0, vi 0, vi 2]⟩ :: ((D3.flatMap eN1) ++ []))) (sk 0 (sk 1 (sk 2 (sk 3 (sk 4 (sk 5 (sk 6 (suba (fun r_ (h : r_ ∈ ((D3.flatMap eN1) : List Ro)) => mOd (i := 7) (show r_ ∈ (((((lH B14 c14 r_6).flatMap eN1) ++ ((D2.flatMap eN1) ++ ((D3.flatMap eN1) ++ [])))) : List Ro) from mAr _ (mAr _ (mAl _ h)))) (fun _ h => by cases h)))))))))) ?_ ?_
         ·skip
          refine ra_q 9 70 (v := .string (bstr (x2 ++ (dT i2)))) rfl rfl rfl (by kernel_rfl) (by kernel_rfl) (by kernel_rfl) (ST.subR (hS61.se [2, 3]) (R' := (⟨B14, (r_6.flatMap eN0)⟩ :: ⟨B13, (x1.flatMap eN0)⟩ :: ⟨B12, (x.flatMap eN0)⟩ :: ⟨B5, (r_5.Cells.flatMap eN0)⟩ :: ⟨B4, (r_4.Cells.flatMap eN0)⟩ :: ⟨B2, (one_.flatMap eN0)⟩ :: ⟨(aD 0), [vi 1, vi 0, vi 0, vi 0, vi 2]⟩ :: ((D3.flatMap eN1) ++ []))) (sk 0 (sk 1 (sk 2 (sk 3 (sk 4 (sk 5 (sk 6 (suba (fun r_ (h : r_ ∈ ((D3.flatMap eN1) : List Ro)) => mOd (i := 7) (show r_ ∈ (((((lH B14 c14 r_6).flatMap eN1) ++ ((D2.flatMap eN1) ++ ((D3.flatMap eN1) ++ [])))) : List Ro) from mAr _ (mAr _ (mAl _ h)))) (fun _ h => by cases h)))))))))) (fun w' hw' => (Y_sadd (a := x2) (b := (dT i2)) rfl rfl rfl hsa)) ?_
          refine rA [10] ?_
          refine rS 71 10 rfl (Ys_bslice (s := 1) (len := 1) (vs := [(0, .string (bstr (x2 ++ (dT i2))))]) (cs := [.string (bstr (x2 ++ (dT i2)))]) (zs := [.string (bstr ([] : List UInt8))]) (m := 1) hS61 K33 K24 K71 rfl (mpc rfl mpn) rfl rfl rfl (by kernel_rfl) (by kernel_rfl) rfl) ?_ ?_
          ·rintro _ w_30 ⟨b6, rfl, hS62⟩
           refine ⟨(ST.subR (hS62.se [2, 3]) (R' := (⟨B14, (r_6.flatMap eN0)⟩ :: ⟨B13, (x1.flatMap eN0)⟩ :: ⟨B12, (x.flatMap eN0)⟩ :: ⟨B5, (r_5.Cells.flatMap eN0)⟩ :: ⟨B4, (r_4.Cells.flatMap eN0)⟩ :: ⟨B2, (one_.flatMap eN0)⟩ :: ⟨(aD 0), [vi 1, vi 0, vi 0, vi 0, vi 2]⟩ :: ((D3.flatMap eN1) ++ []))) (sk 0 (sk 1 (sk 2 (sk 3 (sk 4 (sk 5 (sk 6 (suba (fun r_ (h : r_ ∈ ((D3.flatMap eN1) : List Ro)) => mOd (i := 7) (show r_ ∈ (((((lH B14 c14 r_6).flatMap eN1) ++ ((D2.flatMap eN1) ++ ((D3.flatMap eN1) ++ [])))) : List Ro) from mAr _ (mAr _ (mAl _ h)))) (fun _ h => by cases h)))))))))), ?_⟩
           refine rA [11] ?_
           refine rS 72 11 rfl (Ys_append (s := 1) (by' := 16) (i := 0) (nn := words1.length) (c := c8) (k := 1) (len := (words1 ++ [(x2 ++ (dT i2))]).length) (B := B8) (xs := ([(x2 ++ (dT i2))].flatMap encS)) (cs' := ((words1 ++ [(x2 ++ (dT i2))]).flatMap encS)) hS62 K33 K24 K76 K77 rfl (by decide) rfl rfl rfl rfl (fm_lenn (l := words1) encS_len rfl) rfl (hS62.c 5) (fm_lenn (l := [(x2 ++ (dT i2))]) encS_len rfl) (fm_one' (enc := encS) encS_one [(x2 ++ (dT i2))]) (by have := hap1; omega) (by have := hap1; simp only [maxLen]; omega) (fm_app _ _) (app_len (l := words1) (l' := [(x2 ++ (dT i2))]) rfl rfl)) ?_ ?_
           ·rintro _ w_31 ⟨B15, c15, rfl, hS63⟩
            refine ⟨(ST.subR (hS63.se [2, 3]) (R' := (⟨B14, (r_6.flatMap eN0)⟩ :: ⟨B13, (x1.flatMap eN0)⟩ :: ⟨B12, (x.flatMap eN0)⟩ :: ⟨B5, (r_5.Cells.flatMap eN0)⟩ :: ⟨B4, (r_4.Cells.flatMap eN0)⟩ :: ⟨B2, (one_.flatMap eN0)⟩ :: ⟨(aD 0), [vi 1, vi 0, vi 0, vi 0, vi 2]⟩ :: ((D3.flatMap eN1) ++ []))) (sk 0 (sk 1 (sk 2 (sk 3 (sk 4 (sk 5 (sk 6 (suba (fun r_ (h : r_ ∈ ((D3.flatMap eN1) : List Ro)) => mOd (i := 7) (show r_ ∈ (((((lH B14 c14 r_6).flatMap eN1) ++ ((D2.flatMap eN1) ++ ((D3.flatMap eN1) ++ [])))) : List Ro) from mAr _ (mAr _ (mAl _ h)))) (fun _ h => by cases h)))))))))), ?_⟩
            refine rA [15] ?_
            refine rS 76 15 rfl (Ys_append (s := 1) (by' := 24) (i := 1) (nn := list1.length) (c := c9) (k := 1) (len := (list1 ++ ([r_6] : List (List TDyadic))).length) (B := B9) (xs := ((lH B14 c14 r_6).flatMap eN3)) (cs' := ((D2 ++ (lH B14 c14 r_6)).flatMap eN3)) hS63 K44 K11 K105 K91 rfl (by decide) rfl rfl rfl rfl (fm_lenn (l := D2) encD_SDyadic_len (dl_len hD2)) rfl (hS63.c 4) (fm_lenn (l := (lH B14 c14 r_6)) encD_SDyadic_len rfl) (fm_one' (enc := eN3) encD_SDyadic_one (lH B14 c14 r_6)) (by have := hap2; omega) (by have := hap2; simp only [maxLen]; omega) (fm_app _ _) (dl_sum (dl_len hD2) rfl (dl_app hD2 (show List.map Prod.snd (lH B14 c14 r_6) = ([r_6] : List (List TDyadic)) from rfl)))) ?_ ?_
            ·rintro _ w_32 ⟨B16, c16, rfl, hS64⟩
             have ho26 : Org w0 [] [⟨(aD 0), [vi 1, vi 0, vi 0, vi 0, vi 2]⟩] ((D2 ++ (lH B14 c14 r_6)).flatMap eN1) := (forg_app ho8 ho25)
             have hS65 : ST w0 [] _ [⟨B15, 9, ((words1 ++ [(x2 ++ (dT i2))]).flatMap encS), c15 * 1⟩, ⟨B16, 24, ((D2 ++ (lH B14 c14 r_6)).flatMap eN3), c16 * 1⟩, ⟨aD b4, 24, (D3.flatMap eN3), 2 * 1⟩, ⟨aD b5, 24, [.slice B14 r_6.length c14], 1⟩, ⟨aD b7, 24, ((lH B14 c14 r_6).flatMap eN3), 1 * 1⟩, ⟨aD b6, 9, ([(x2 ++ (dT i2))].flatMap encS), 1 * 1⟩] (⟨B14, (r_6.flatMap eN0)⟩ :: ⟨B13, (x1.flatMap eN0)⟩ :: ⟨B12, (x.flatMap eN0)⟩ :: ⟨B5, (r_5.Cells.flatMap eN0)⟩ :: ⟨B4, (r_4.Cells.flatMap eN0)⟩ :: ⟨B2, (one_.flatMap eN0)⟩ :: ⟨(aD 0), [vi 1, vi 0, vi 0, vi 0, vi 2]⟩ :: (((D2 ++ (lH B14 c14 r_6)).flatMap eN1) ++ (((lH B14 c14 r_6).flatMap eN1) ++ ((D3.flatMap eN1) ++ [])))) := ST.subR hS64 (sk 0 (sk 1 (sk 2 (sk 3 (sk 4 (sk 5 (sk 6 (suba (fsub_app (fun r_ (h : r_ ∈ ((D2.flatMap eN1) : List Ro)) => mOd (i := 7) (show r_ ∈ (((((lH B14 c14 r_6).flatMap eN1) ++ ((D2.flatMap eN1) ++ ((D3.flatMap eN1) ++ [])))) : List Ro) from mAr _ (mAl _ h))) (fun r_ (h : r_ ∈ (((lH B14 c14 r_6).flatMap eN1) : List Ro)) => mOd (i := 7) (show r_ ∈ (((((lH B14 c14 r_6).flatMap eN1) ++ ((D2.flatMap eN1) ++ ((D3.flatMap eN1) ++ [])))) : List Ro) from mAl _ h))) (suba (fun r_ (h : r_ ∈ (((lH B14 c14 r_6).flatMap eN1) : List Ro)) => mOd (i := 7) (show r_ ∈ (((((lH B14 c14 r_6).flatMap eN1) ++ ((D2.flatMap eN1) ++ ((D3.flatMap eN1) ++ [])))) : List Ro) from mAl _ h)) (suba (fun r_ (h : r_ ∈ ((D3.flatMap eN1) : List Ro)) => mOd (i := 7) (show r_ ∈ (((((lH B14 c14 r_6).flatMap eN1) ++ ((D2.flatMap eN1) ++ ((D3.flatMap eN1) ++ [])))) : List Ro) from mAr _ (mAr _ (mAl _ h)))) (fun _ h => by cases h)))))))))))
             have hS65 : ST w0 [] _ [⟨B15, 9, ((words1 ++ [(x2 ++ (dT i2))]).flatMap encS), c15 * 1⟩, ⟨B16, 24, ((D2 ++ (lH B14 c14 r_6)).flatMap eN3), c16 * 1⟩, ⟨aD b4, 24, (D3.flatMap eN3), 2 * 1⟩, ⟨aD b5, 24, [.slice B14 r_6.length c14], 1⟩, ⟨aD b7, 24, ((lH B14 c14 r_6).flatMap eN3), 1 * 1⟩, ⟨aD b6, 9, ([(x2 ++ (dT i2))].flatMap encS), 1 * 1⟩] (⟨B14, (r_6.flatMap eN0)⟩ :: ⟨B13, (x1.flatMap eN0)⟩ :: ⟨B12, (x.flatMap eN0)⟩ :: ⟨B5, (r_5.Cells.flatMap eN0)⟩ :: ⟨B4, (r_4.Cells.flatMap eN0)⟩ :: ⟨B2, (one_.flatMap eN0)⟩ :: ⟨(aD 0), [vi 1, vi 0, vi 0, vi 0, vi 2]⟩ :: (((D2 ++ (lH B14 c14 r_6)).flatMap eN1) ++ (((lH B14 c14 r_6).flatMap eN1) ++ ((D3.flatMap eN1) ++ [])))) := hS65
             refine ⟨(ST.subR (hS65.se [2, 3]) (R' := (⟨B14, (r_6.flatMap eN0)⟩ :: ⟨B13, (x1.flatMap eN0)⟩ :: ⟨B12, (x.flatMap eN0)⟩ :: ⟨B5, (r_5.Cells.flatMap eN0)⟩ :: ⟨B4, (r_4.Cells.flatMap eN0)⟩ :: ⟨B2, (one_.flatMap eN0)⟩ :: ⟨(aD 0), [vi 1, vi 0, vi 0, vi 0, vi 2]⟩ :: ((D3.flatMap eN1) ++ []))) (sk 0 (sk 1 (sk 2 (sk 3 (sk 4 (sk 5 (sk 6 (suba (fun r_ (h : r_ ∈ ((D3.flatMap eN1) : List Ro)) => mOd (i := 7) (show r_ ∈ (((((D2 ++ (lH B14 c14 r_6)).flatMap eN1) ++ (((lH B14 c14 r_6).flatMap eN1) ++ ((D3.flatMap eN1) ++ [])))) : List Ro) from mAr _ (mAr _ (mAl _ h)))) (fun _ h => by cases h)))))))))), ?_⟩
             refine ra_q 16 4 (v := .slice B15 ((words1 ++ [(x2 ++ (dT i2))]).length) c15) rfl rfl rfl (by kernel_rfl) (by kernel_rfl) (by kernel_rfl) (ST.subR (hS65.se [2, 3]) (R' := (⟨B14, (r_6.flatMap eN0)⟩ :: ⟨B13, (x1.flatMap eN0)⟩ :: ⟨B12, (x.flatMap eN0)⟩ :: ⟨B5, (r_5.Cells.flatMap eN0)⟩ :: ⟨B4, (r_4.Cells.flatMap eN0)⟩ :: ⟨B2, (one_.flatMap eN0)⟩ :: ⟨(aD 0), [vi 1, vi 0, vi 0, vi 0, vi 2]⟩ :: ((D3.flatMap eN1) ++ []))) (sk 0 (sk 1 (sk 2 (sk 3 (sk 4 (sk 5 (sk 6 (suba (fun r_ (h : r_ ∈ ((D3.flatMap eN1) : List Ro)) => mOd (i := 7) (show r_ ∈ (((((D2 ++ (lH B14 c14 r_6)).flatMap eN1) ++ (((lH B14 c14 r_6).flatMap eN1) ++ ((D3.flatMap eN1) ++ [])))) : List Ro) from mAr _ (mAr _ (mAl _ h)))) (fun _ h => by cases h)))))))))) (fun w' hw' => (yg (.slice B15 ((words1 ++ [(x2 ++ (dT i2))]).length) c15))) ?_
             refine rq 17 5 (v := .slice B16 ((list1 ++ ([r_6] : List (List TDyadic))).length) c16) rfl (ST.subR (hS65.se [2, 3]) (R' := (⟨B14, (r_6.flatMap eN0)⟩ :: ⟨B13, (x1.flatMap eN0)⟩ :: ⟨B12, (x.flatMap eN0)⟩ :: ⟨B5, (r_5.Cells.flatMap eN0)⟩ :: ⟨B4, (r_4.Cells.flatMap eN0)⟩ :: ⟨B2, (one_.flatMap eN0)⟩ :: ⟨(aD 0), [vi 1, vi 0, vi 0, vi 0, vi 2]⟩ :: ((D3.flatMap eN1) ++ []))) (sk 0 (sk 1 (sk 2 (sk 3 (sk 4 (sk 5 (sk 6 (suba (fun r_ (h : r_ ∈ ((D3.flatMap eN1) : List Ro)) => mOd (i := 7) (show r_ ∈ (((((D2 ++ (lH B14 c14 r_6)).flatMap eN1) ++ (((lH B14 c14 r_6).flatMap eN1) ++ ((D3.flatMap eN1) ++ [])))) : List Ro) from mAr _ (mAr _ (mAl _ h)))) (fun _ h => by cases h)))))))))) (fun w' hw' => (yg (.slice B16 ((list1 ++ ([r_6] : List (List TDyadic))).length) c16))) ?_
             refine ra_done (by kernel_rfl) ?_
             have hS66 : ST w0 [] _ [⟨B15, 9, ((words1 ++ [(x2 ++ (dT i2))]).flatMap encS), c15 * 1⟩, ⟨B16, 24, ((D2 ++ (lH B14 c14 r_6)).flatMap eN3), c16 * 1⟩, ⟨aD b4, 24, (D3.flatMap eN3), 2 * 1⟩, ⟨aD b5, 24, [.slice B14 r_6.length c14], 1⟩, ⟨aD b7, 24, ((lH B14 c14 r_6).flatMap eN3), 1 * 1⟩, ⟨aD b6, 9, ([(x2 ++ (dT i2))].flatMap encS), 1 * 1⟩] (⟨B14, (r_6.flatMap eN0)⟩ :: ⟨B13, (x1.flatMap eN0)⟩ :: ⟨B12, (x.flatMap eN0)⟩ :: ⟨B5, (r_5.Cells.flatMap eN0)⟩ :: ⟨B4, (r_4.Cells.flatMap eN0)⟩ :: ⟨B2, (one_.flatMap eN0)⟩ :: ⟨(aD 0), [vi 1, vi 0, vi 0, vi 0, vi 2]⟩ :: (((D2 ++ (lH B14 c14 r_6)).flatMap eN1) ++ ((D3.flatMap eN1) ++ []))) := ST.subR hS65 (sk 0 (sk 1 (sk 2 (sk 3 (sk 4 (sk 5 (sk 6 (suba (fun r_ (h : r_ ∈ (((D2 ++ (lH B14 c14 r_6)).flatMap eN1) : List Ro)) => mOd (i := 7) (show r_ ∈ (((((D2 ++ (lH B14 c14 r_6)).flatMap eN1) ++ (((lH B14 c14 r_6).flatMap eN1) ++ ((D3.flatMap eN1) ++ [])))) : List Ro) from mAl _ h)) (suba (fun r_ (h : r_ ∈ ((D3.flatMap eN1) : List Ro)) => mOd (i := 7) (show r_ ∈ (((((D2 ++ (lH B14 c14 r_6)).flatMap eN1) ++ (((lH B14 c14 r_6).flatMap eN1) ++ ((D3.flatMap eN1) ++ [])))) : List Ro) from mAr _ (mAr _ (mAl _ h)))) (fun _ h => by cases h))))))))))
             exact ⟨B15, c15, B16, c16, (D2 ++ (lH B14 c14 r_6)), (fc rfl (fc rfl (fc (hf2.g 6 2) (fc (hf2.g 7 3) (fc (hf2.g 8 4) (fc (hf2.g 41 5) (fc (hf2.g 42 6) (fc (hf2.g 43 7) fn_)))))))), (dl_app hD2 (show List.map Prod.snd (lH B14 c14 r_6) = ([r_6] : List (List TDyadic)) from rfl)), ho26, (hS66.sel [0, 1, 2] rfl rfl)⟩
            exact aN
           exact aN
          exact aN
         exact aN
        exact aN
       exact aN
      rintro f w ⟨B17, c17, B18, c18, D6, hf4, hD6, ho16, hS31⟩
      have hS67 : ST w0 [] _ [⟨B17, 9, ((words1 ++ [(x2 ++ (dT i2))]).flatMap encS), c17 * 1⟩, ⟨B18, 24, (D6.flatMap eN3), c18 * 1⟩, ⟨aD b4, 24, (D3.flatMap eN3), 2 * 1⟩] (⟨B5, (r_5.Cells.flatMap eN0)⟩ :: ⟨B4, (r_4.Cells.flatMap eN0)⟩ :: ⟨B2, (one_.flatMap eN0)⟩ :: ⟨(aD 0), [vi 1, vi 0, vi 0, vi 0, vi 2]⟩ :: ((D6.flatMap eN1) ++ ((D3.flatMap eN1) ++ []))) := ST.subR hS31 (sk 3 (sk 4 (sk 5 (sk 6 (suba (fun r_ (h : r_ ∈ ((D6.flatMap eN1) : List Ro)) => mOd (i := 7) (show r_ ∈ ((((D6.flatMap eN1) ++ ((D3.flatMap eN1) ++ []))) : List Ro) from mAl _ h)) (suba (fun r_ (h : r_ ∈ ((D3.flatMap eN1) : List Ro)) => mOd (i := 7) (show r_ ∈ ((((D6.flatMap eN1) ++ ((D3.flatMap eN1) ++ []))) : List Ro) from mAr _ (mAl _ h))) (fun _ h => by cases h)))))))
      exact ⟨(words1 ++ [(x2 ++ (dT i2))]), (list1 ++ ([r_6] : List (List TDyadic))), B17, c17, B18, c18, D6, D3, (sI hF6), (fc (hf4.g 4 0) (fc (hf4.g 5 1) (fc (hf4.g 6 2) (fc (hf4.g 7 3) (fc (hf4.g 8 4) (fc (hf4.g 41 5) (fc (hf4.g 42 6) (fc (hf4.g 43 7) fn_)))))))), hD6, ho16, hD3, ho9, (hS67.sel [0, 1, 2] rfl rfl)⟩
     ·skip
      have hF7 := cf' hz3 hb4
      refine cw_skip ?_
      have hS68 : ST w0 [] _ [⟨B8, 9, (words1.flatMap encS), c8 * 1⟩, ⟨B9, 24, (D2.flatMap eN3), c9 * 1⟩, ⟨aD b4, 24, (D3.flatMap eN3), 2 * 1⟩, ⟨B14, 48, (r_6.flatMap eN0), c14 * 5⟩, ⟨aD b5, 24, [.slice B14 r_6.length c14], 1⟩] (⟨B5, (r_5.Cells.flatMap eN0)⟩ :: ⟨B4, (r_4.Cells.flatMap eN0)⟩ :: ⟨B2, (one_.flatMap eN0)⟩ :: ⟨(aD 0), [vi 1, vi 0, vi 0, vi 0, vi 2]⟩ :: ((D2.flatMap eN1) ++ ((D3.flatMap eN1) ++ []))) := ST.subR hS26 (sk 2 (sk 3 (sk 4 (sk 5 (suba (fun r_ (h : r_ ∈ ((D2.flatMap eN1) : List Ro)) => mOd (i := 6) (show r_ ∈ ((((D2.flatMap eN1) ++ ((D3.flatMap eN1) ++ []))) : List Ro) from mAl _ h)) (suba (fun r_ (h : r_ ∈ ((D3.flatMap eN1) : List Ro)) => mOd (i := 6) (show r_ ∈ ((((D2.flatMap eN1) ++ ((D3.flatMap eN1) ++ []))) : List Ro) from mAr _ (mAl _ h))) (fun _ h => by cases h)))))))
      exact ⟨words1, list1, B8, c8, B9, c9, D2, D3, (sI hF7), (fc (hf2.g 4 0) (fc (hf2.g 5 1) (fc (hf2.g 6 2) (fc (hf2.g 7 3) (fc (hf2.g 8 4) (fc (hf2.g 41 5) (fc (hf2.g 42 6) (fc (hf2.g 43 7) fn_)))))))), hD2, ho8, hD3, ho9, (hS68.sel [0, 1, 2] rfl rfl)⟩
    rintro f w ⟨words2, list2, B10, c10, B11, c11, D4, D5, rfl, hf3, hD4, ho10, hD5, ho11, hS20⟩
    refine cr ?_
    refine sQ 77 (yP (i2 : Int) 1 rfl (hf3.g 43 7)) <| sQ 43 (ym (vi (i64.wrap ((i2 : Int) + 1)))) (rn ?_)
    obtain rfl := sI hF5
    exact ⟨K68, Nat.lt_succ_self _, i2 + 1, words2, list2, B10, c10, B11, c11, D4, D5, (fc (hf3.g 4 0) (fc (hf3.g 5 1) (fc (hf3.g 6 2) (fc (hf3.g 7 3) (fc (hf3.g 8 4) (fc (hf3.g 41 5) (fc (hf3.g 42 6) (fc (congrArg (Value.int .i64) (wr_succ hlt3 (show 2 ≤ 9223372036854775807 by decide))) fn_)))))))), hD4, ho10, hD5, ho11, (hS20.sel [0, 1, 2] rfl rfl), (by omega), hL5⟩
   ·skip
    obtain rfl : K14 = 0 := by have h := of_decide_eq_false hlt2; omega
    refine cw_exit rfl ?_
    obtain rfl := sI hL4
    refine cr ?_
    refine sQ 37 (ym (vi at_1) rfl (hf2.g 8 4)) <| sQ 38 (yP at_1 1) <| sQ 8 (yg (vi (i64.wrap (at_1 + 1)))) (rn ?_)
    obtain rfl := sI hF4
    have hS69 : ST w0 [] _ [⟨B8, 9, (words1.flatMap encS), c8 * 1⟩, ⟨B9, 24, (D2.flatMap eN3), c9 * 1⟩, ⟨aD b4, 24, (D3.flatMap eN3), 2 * 1⟩] (⟨B5, (r_5.Cells.flatMap eN0)⟩ :: ⟨B4, (r_4.Cells.flatMap eN0)⟩ :: ⟨B2, (one_.flatMap eN0)⟩ :: ⟨(aD 0), [vi 1, vi 0, vi 0, vi 0, vi 2]⟩ :: ((D2.flatMap eN1) ++ [])) := ST.subR hS18 (sk 0 (sk 1 (sk 2 (sk 3 (suba (fun r_ (h : r_ ∈ ((D2.flatMap eN1) : List Ro)) => mOd (i := 4) (show r_ ∈ ((((D2.flatMap eN1) ++ ((D3.flatMap eN1) ++ []))) : List Ro) from mAl _ h)) (fun _ h => by cases h))))))
    exact ⟨K28, Nat.lt_succ_self _, words1, list1, (i64.wrap (at_1 + 1)), B8, c8, B9, c9, D2, (fc (hf2.g 4 0) (fc (hf2.g 5 1) (fc (hf2.g 6 2) (fc (hf2.g 7 3) (fc rfl fn_))))), hD2, ho8, ho3, (len_le rfl hq), ho4, (len_le rfl hq1), (hS69.sel [0, 1] rfl rfl), hL3⟩
  ·skip
   have hF8 := cf' hb1 hb2
   refine cw_exit rfl ?_
   obtain rfl := sI hF8
   obtain rfl := sI hL3
   refine cq (cr ?_)
   refine sQ 78 (ym (.slice B6 words.length c6) rfl (hf1.g 4 0)) <| sQ 79 (ym (.slice B7 list.length c7) rfl (hf1.g 5 1)) <| sQ 0 (yg (.slice B6 words.length c6)) <| sQ 1 (yg (.slice B7 list.length c7)) (rn (ct_ ?_))
   obtain ⟨rfl, rfl⟩ := pr2 (sI hF2)
   exact ret2 Tryz.results52 (v1 := .slice B6 words.length c6) (resAt_tmp rfl) (v2 := .slice B7 list.length c7) (resAt_tmp rfl) ⟨B6, c6, B7, c7, D1, rfl, hD1, (org_app ho2 org_nil), (ST.subR (R' := (((D1.flatMap eN1) ++ []))) (hS13.sel [0, 1] rfl rfl) (suba (fun r_ (h : r_ ∈ ((D1.flatMap eN1) : List Ro)) => mOd (i := 4) (show r_ ∈ ((((D1.flatMap eN1) ++ [])) : List Ro) from mAl _ h)) (fun _ h => by cases h)))⟩

theorem c_impl_CliffordWord (k_ : Int)  (w0 : World)  (hS : ST w0 [] w0 [] [⟨(aD 0), [vi 1, vi 0, vi 0, vi 0, vi 2]⟩]) {r_ : List UInt8} {r_1 : Bool} (hF : F_impl_CliffordWord k_ = some (r_, r_1)) :
  CV Tryz.prog 62 #[vi k_] w0 (fun v w' => v = .tuple #[.string (bstr r_), .bool r_1] ∧ ST w0 [] w' [] []) := by
 unfold F_impl_CliffordWord at hF
 refine cv_of_cw 20 Tryz.func62 rfl Tryz.ntmps62 rfl ?_
 refine cq (cr ?_)
 refine sQ 2 (yg (.string (bstr ([] : List UInt8)))) <| sQ 3 (yg (.bool false)) (rn (cq (cr ?_)))
 obtain ⟨⟨r_2, r_3⟩, hc, hF⟩ := bI hF
 refine sc 7 rfl rfl (yC [] k_call_52 (c_impl_cliffordList  _  (hS.inn0 [(true, 0)] rfl) hc)) ?_
 rintro _ w_ ⟨B, c, B1, c1, D, rfl, hD, ho, hd⟩
 have hS1 := ST.outR0 hS hd ho (sk 0 (fun _ h => by cases h))
 have ho1 : Org w0 [] [⟨(aD 0), [vi 1, vi 0, vi 0, vi 0, vi 2]⟩] (((D.flatMap eN1) ++ [])) := org_trans0 hS ho (org_cons (org_mem (i := 0) rfl) org_nil)
 have hS2 : ST w0 [] _ [⟨B, 9, (r_2.flatMap encS), c * 1⟩, ⟨B1, 24, (D.flatMap eN3), c1 * 1⟩] (⟨(aD 0), [vi 1, vi 0, vi 0, vi 0, vi 2]⟩ :: ((D.flatMap eN1) ++ [])) := ST.subR hS1 (subc (mAr _ (mt 0)) (suba (fun r h => mAl _ (app_mem (fun _ h => mOd (i := 0) (mAl _ h)) h)) (fun _ h => by cases h)))
 refine sQ 6 (ym (.tuple #[.slice B r_2.length c, .slice B1 r_3.length c1])) <| sQ 8 (ye (.slice B r_2.length c)) <| sQ 9 (ye (.slice B1 r_3.length c1)) <| sQ 4 (yg (.slice B r_2.length c)) <| sQ 5 (yg (.slice B1 r_3.length c1)) (rn (cq (cq (cr ?_))))
 refine sQ 10 (ym (vi k_)) <| sQ 11 (ym (.slice B r_2.length c)) <| sQ 12 (Y_len (B := B) (m := r_2.length) (c := c) K33 rfl rfl) <| sQ 13 (yM (r_2.length : Int) 1) ?_
 obtain ⟨r_4, hc1, hF⟩ := bI hF
 refine sc 14 rfl rfl (yC [vi k_, vi 0, vi (i64.wrap ((r_2.length : Int) - 1))] K52 (c_impl_within k_ 0 (i64.wrap ((r_2.length : Int) - 1)) _  (hS2.inn0 [] rfl) hc1)) ?_
 rintro _ w_1 ⟨rfl, hd1⟩
 have hS3 := hS2.out00 hd1
 refine sQ 15 (Y_not (p := r_4) rfl rfl) (rn ?_)
 refine cw_cond (b := (!r_4)) rfl (fun hb => ?_) (fun hb => ?_)
 ·skip
  have hF1 := ct hF hb
  refine cq (cr ?_)
  refine sQ 2 (yg (.string (bstr ([] : List UInt8)))) <| sQ 3 (yg (.bool false)) (rn (ct_ ?_))
  obtain ⟨rfl, rfl⟩ := pr2 (sI hF1)
  exact ret2 Tryz.results62 (v1 := .string (bstr ([] : List UInt8))) (resAt_tmp rfl) (v2 := .bool false) (resAt_tmp rfl) ⟨rfl, (hS3.sN [])⟩
 ·skip
  have hF2 := cf' hF hb
  refine cw_skip (cq (cr ?_))
  refine sQ 16 (ym (.slice B r_2.length c)) <| sQ 17 (ym (vi k_)) ?_
  obtain ⟨x, hx, hF2⟩ := bI hF2
  refine sQ 18 (Y_index (B := B) (m := r_2.length) (c := c) (k := .i64) (i := k_) K33 K24 rfl rfl rfl (gi_isSome encS_len rfl (hS3.c 0) hx) (getI_nn hx) (getI_ltI hx rfl)) <| sQ 19 (yl B (k_.toNat * 1) (r_2.flatMap encS) (.string (bstr x)) K41 (hS3.c 0) rfl rfl (gi_at0 encS_len hx rfl)) <| sQ 2 (yg (.string (bstr x))) <| sQ 3 (yg (.bool true)) (rn (ct_ ?_))
  obtain ⟨rfl, rfl⟩ := pr2 (sI hF2)
  exact ret2 Tryz.results62 (v1 := .string (bstr x)) (resAt_tmp rfl) (v2 := .bool true) (resAt_tmp rfl) ⟨rfl, (hS3.sN [])⟩

theorem c_impl_wordGates (k_ : Int)  (w0 : World)  (hS : ST w0 [] w0 [] [⟨(aD 0), [vi 1, vi 0, vi 0, vi 0, vi 2]⟩]) {r_ : List TGate} (hF : F_impl_wordGates k_ = some r_) :
  CV Tryz.prog 31 #[vi k_] w0 (fun v w' => ∃ (B : Option Addr) (c : Nat), v = .slice B r_.length c ∧ ST w0 [] w' [⟨B, 64, (r_.flatMap eN4), c * 3⟩] []) := by
 unfold F_impl_wordGates at hF
 refine cv_of_cw 30 Tryz.func31 rfl Tryz.ntmps31 rfl ?_
 refine cq (cr ?_)
 refine sQ 2 (yg (.slice none 0 0)) (rn (cq (cr ?_)))
 refine sS 8 (Ys_bslice0 (s := 3) (e := 64) hS K25 K17 rfl) ?_
 rintro _ w_ ⟨b, rfl, hS1⟩
 refine sQ 3 (yg (.slice (aD b) 0 0)) (rn (cq (cr ?_)))
 refine sQ 10 (ym (vi k_)) ?_
 obtain ⟨⟨r_1, r_2⟩, hc, hF⟩ := bI hF
 refine sc 11 rfl rfl (yC [vi k_] k_call_62 (c_impl_CliffordWord k_ _  (hS1.inn0 [(true, 0)] rfl) hc)) ?_
 rintro _ w_1 ⟨rfl, hd⟩
 have hS2 := hS1.out00 hd
 refine sQ 9 (ym (.tuple #[.string (bstr r_1), .bool r_2])) <| sQ 12 (ye (.string (bstr r_1))) <| sQ 13 (ye (.bool r_2)) <| sQ 4 (yg (.string (bstr r_1))) <| sQ 5 (yg (.bool r_2)) (rn (cq (cq (cr ?_))))
 refine sQ 6 (yg (vi 0)) (rn ?_)
 obtain ⟨hN, hF⟩ := chk_inv hF
 obtain ⟨z, hz, hF1⟩ := bI hF
 refine cw_block ?_
 refine cw_loop (fun k f w => ∃ (i1 : Nat) (out : List TGate) (B1 : Option Addr) (c1 : Nat), FF f [(3, .slice B1 out.length c1), (4, .string (bstr r_1)), (6, vi (i1 : Int))] ∧ ST w0 [] w [⟨B1, 64, (out.flatMap eN4), c1 * 3⟩] [⟨(aD 0), [vi 1, vi 0, vi 0, vi 0, vi 2]⟩] ∧ i1 + k = r_1.length ∧ forN (F_impl_wordGates_l1 r_1) k i1 out = some z) r_1.length ⟨0, [], aD b, 0, (fc rfl (fc rfl (fc rfl fn_))), (hS2.sel [0] rfl rfl), Nat.zero_add _, hz⟩ ?_
 rintro K7 f w ⟨i1, out, B1, c1, hf, hS3, hik, hL⟩
 refine cq (cq (cr ?_))
 refine sQ 14 (ym (vi (i1 : Int)) rfl (hf.g 6 2)) <| sQ 15 (ym (.string (bstr r_1)) rfl (hf.g 4 1)) <| sQ 16 (Y_slen (a := r_1) K42 rfl rfl) <| sQ 17 (yL (i1 : Int) (r_1.length : Int)) (rn ?_)
 refine cw_cond (b := (decide ((i1 : Int) < (r_1.length : Int)))) rfl (fun hlt => ?_) (fun hlt => ?_)
 ·skip
  have hlt1 : i1 < r_1.length := by have h := of_decide_eq_true hlt; omega
  obtain ⟨K15, rfl⟩ : ∃ k2, K7 = k2 + 1 := ⟨K7 - 1, by omega⟩
  obtain ⟨y, hb, hL1⟩ := forN_go hL
  unfold F_impl_wordGates_l1 at hb
  refine cw_skip (cq (cw_block (cq (cr ?_))))
  refine sQ 7 (yg (vi 1)) (rn (cq ?_))
  obtain ⟨z1, hz1, hF2⟩ := bI hb
  refine cw_mid (fun f w => ∃ (kind : Int), kind = z1 ∧ FF f [(3, .slice B1 out.length c1), (4, .string (bstr r_1)), (6, vi (i1 : Int)), (7, vi kind)] ∧ ST w0 [] w [⟨B1, 64, (out.flatMap eN4), c1 * 3⟩] [⟨(aD 0), [vi 1, vi 0, vi 0, vi 0, vi 2]⟩]) ?_ ?_
  ·skip
   refine cq (cr ?_)
   refine sQ 20 (ym (.string (bstr r_1)) rfl (hf.g 4 1)) <| sQ 21 (ym (vi (i1 : Int)) rfl (hf.g 6 2)) ?_
   obtain ⟨x, hx, hz1⟩ := bI hz1
   refine sQ 22 (Y_sidx (a := r_1) (k := .i64) (i := (i1 : Int)) (b := x) K42 rfl rfl rfl hx) <| sQ 23 (Y_eq (k := .u8) (a := (x.toNat : Int)) (b := 83) rfl rfl rfl) (rn ?_)
   refine cw_cond (b := ((x.toNat : Int) == 83)) rfl (fun hb1 => ?_) (fun hb1 => ?_)
   ·skip
    have hF3 := ct hz1 hb1
    refine cr ?_
    refine sQ 7 (yg (vi 5)) (rn ?_)
    exact ⟨5, (sI hF3), (fc (hf.g 3 0) (fc (hf.g 4 1) (fc (hf.g 6 2) (fc rfl fn_)))), (hS3.sel [0] rfl rfl)⟩
   ·skip
    have hF4 := cf' hz1 hb1
    refine cw_skip ?_
    exact ⟨1, (sI hF4), (fc (hf.g 3 0) (fc (hf.g 4 1) (fc (hf.g 6 2) (fc rfl fn_)))), (hS3.sel [0] rfl rfl)⟩
  rintro f w ⟨kind, rfl, hf1, hS4⟩
  refine cr ?_
  refine sQ 24 (ym (.slice B1 out.length c1) rfl (hf1.g 3 0)) <| sQ 25 (ym (vi kind) rfl (hf1.g 7 3)) <| sQ 26 (Y_buildS (zs := [vi 0, vi 0, vi 0]) (vs := [(0, vi kind)]) (cs := [vi kind, vi 0, vi 0]) K48 K27 rfl (mpc rfl mpn) rfl) ?_
  refine sS 27 (Ys_bslice (s := 3) (len := 1) (vs := [(0, .agg #[vi kind, vi 0, vi 0])]) (cs := [vi kind, vi 0, vi 0]) (zs := [vi 0, vi 0, vi 0]) (m := 3) hS4 K25 K17 K61 rfl (mpc rfl mpn) rfl rfl rfl (by kernel_rfl) (by kernel_rfl) rfl) ?_
  rintro _ w_2 ⟨b1, rfl, hS5⟩
  obtain ⟨hap, hF2⟩ := chk_inv hF2
  refine sS 28 (Ys_append (s := 3) (by' := 24) (i := 0) (nn := out.length) (c := c1) (k := 1) (len := (out ++ [(TGate.mk kind 0 0)]).length) (B := B1) (xs := ([(TGate.mk kind 0 0)].flatMap eN4)) (cs' := ((out ++ [(TGate.mk kind 0 0)]).flatMap eN4)) hS5 K25 K17 K62 K27 rfl (by decide) rfl rfl rfl rfl (fm_lenn (l := out) enc_Gate_len rfl) rfl (hS5.c 1) (fm_lenn (l := [(TGate.mk kind 0 0)]) enc_Gate_len rfl) (fm_one' (enc := eN4) enc_Gate_one [(TGate.mk kind 0 0)]) (by have := hap; omega) (by have := hap; simp only [maxLen]; omega) (fm_app _ _) (app_len (l := out) (l' := [(TGate.mk kind 0 0)]) rfl rfl)) ?_
  rintro _ w_3 ⟨B2, c2, rfl, hS6⟩
  refine sQ 3 (yg (.slice B2 ((out ++ [(TGate.mk kind 0 0)]).length) c2)) (rn (cr ?_))
  refine sQ 18 (ym (vi (i1 : Int)) rfl (hf1.g 6 2)) <| sQ 19 (yP (i1 : Int) 1) <| sQ 6 (yg (vi (i64.wrap ((i1 : Int) + 1)))) (rn ?_)
  obtain rfl := sI hF2
  exact ⟨K15, Nat.lt_succ_self _, i1 + 1, (out ++ [(TGate.mk kind 0 0)]), B2, c2, (fc rfl (fc (hf1.g 4 1) (fc (congrArg (Value.int .i64) (wr_succ hlt1 hN)) fn_))), (hS6.sel [0] rfl rfl), (by omega), hL1⟩
 ·skip
  obtain rfl : K7 = 0 := by have h := of_decide_eq_false hlt; omega
  refine cw_exit rfl ?_
  obtain rfl := sI hL
  refine cq (cr ?_)
  refine sQ 29 (ym (.slice B1 out.length c1) rfl (hf.g 3 0)) <| sQ 2 (yg (.slice B1 out.length c1)) (rn (ct_ ?_))
  obtain rfl := sI hF1
  exact ret1 Tryz.results31 (v1 := .slice B1 out.length c1) (resAt_tmp rfl) ⟨B1, c1, rfl, (hS3.sN [0])⟩

theorem c_impl_syllableGates (b : Int)  (w0 : World)  (hS : ST w0 [] w0 [] []) {r_ : List TGate} (hF : F_impl_syllableGates b = some r_) :
  CV Tryz.prog 32 #[.int .u8 b] w0 (fun v w' => ∃ (B : Option Addr) (c : Nat), v = .slice B r_.length c ∧ ST w0 [] w' [⟨B, 64, (r_.flatMap eN4), c * 3⟩] []) := by
 unfold F_impl_syllableGates at hF
 refine cv_of_cw 17 Tryz.func32 rfl Tryz.ntmps32 rfl ?_
 refine cq (cr ?_)
 refine sQ 2 (yg (.slice none 0 0)) (rn (cq (cq (cr ?_))))
 refine sQ 3 (ym (.int .u8 b)) (rn (cw_block (cq (cr ?_))))
 refine sQ 5 (Y_eq (k := .u8) (a := b) (b := 72) rfl rfl rfl) <| sQ 4 (yg (.bool (b == 72))) (rn ?_)
 refine cw_cond (b := (b == 72)) rfl (fun hb => ?_) (fun hb => ?_)
 ·skip
  have hF1 := ct hF hb
  refine cq (cr ?_)
  refine sQ 6 (Y_buildS (zs := [vi 0, vi 0, vi 0]) (vs := [(0, vi 7)]) (cs := [vi 7, vi 0, vi 0]) K48 K27 rfl (mpc rfl mpn) rfl) <| sQ 7 (Y_buildS (zs := [vi 0, vi 0, vi 0]) (vs := [(0, vi 1)]) (cs := [vi 1, vi 0, vi 0]) K48 K27 rfl (mpc rfl mpn) rfl) ?_
  refine sS 8 (Ys_bslice (s := 3) (len := 2) (vs := [(0, .agg #[vi 7, vi 0, vi 0]), (1, .agg #[vi 1, vi 0, vi 0])]) (cs := [vi 7, vi 0, vi 0, vi 1, vi 0, vi 0]) (zs := [vi 0, vi 0, vi 0, vi 0, vi 0, vi 0]) (m := 6) hS K25 K17 K61 rfl (mpc rfl (mpc rfl mpn)) rfl rfl rfl (by kernel_rfl) (by kernel_rfl) rfl) ?_
  rintro _ w_ ⟨b1, rfl, hS1⟩
  refine sQ 2 (yg (.slice (aD b1) 2 2)) (rn (ct_ ?_))
  obtain rfl := sI hF1
  exact ret1 Tryz.results32 (v1 := .slice (aD b1) 2 2) (resAt_tmp rfl) ⟨aD b1, 2, rfl, (hS1.sN [0])⟩
 ·skip
  have hF2 := cf' hF hb
  refine cq (cr ?_)
  refine sQ 10 (Y_eq (k := .u8) (a := b) (b := 83) rfl rfl rfl) <| sQ 9 (yg (.bool (b == 83))) (rn ?_)
  refine cw_cond (b := (b == 83)) rfl (fun hb1 => ?_) (fun hb1 => ?_)
  ·skip
   have hF3 := ct hF2 hb1
   refine cq (cr ?_)
   refine sQ 11 (Y_buildS (zs := [vi 0, vi 0, vi 0]) (vs := [(0, vi 7)]) (cs := [vi 7, vi 0, vi 0]) K48 K27 rfl (mpc rfl mpn) rfl) <| sQ 12 (Y_buildS (zs := [vi 0, vi 0, vi 0]) (vs := [(0, vi 1)]) (cs := [vi 1, vi 0, vi 0]) K48 K27 rfl (mpc rfl mpn) rfl) <| sQ 13 (Y_buildS (zs := [vi 0, vi 0, vi 0]) (vs := [(0, vi 5)]) (cs := [vi 5, vi 0, vi 0]) K48 K27 rfl (mpc rfl mpn) rfl) ?_
   refine sS 14 (Ys_bslice (s := 3) (len := 3) (vs := [(0, .agg #[vi 7, vi 0, vi 0]), (1, .agg #[vi 1, vi 0, vi 0]), (2, .agg #[vi 5, vi 0, vi 0])]) (cs := [vi 7, vi 0, vi 0, vi 1, vi 0, vi 0, vi 5, vi 0, vi 0]) (zs := [vi 0, vi 0, vi 0, vi 0, vi 0, vi 0, vi 0, vi 0, vi 0]) (m := 9) hS K25 K17 K61 rfl (mpc rfl (mpc rfl (mpc rfl mpn))) rfl rfl rfl (by kernel_rfl) (by kernel_rfl) rfl) ?_
   rintro _ w_1 ⟨b2, rfl, hS2⟩
   refine sQ 2 (yg (.slice (aD b2) 3 3)) (rn (ct_ ?_))
   obtain rfl := sI hF3
   exact ret1 Tryz.results32 (v1 := .slice (aD b2) 3 3) (resAt_tmp rfl) ⟨aD b2, 3, rfl, (hS2.sN [0])⟩
  ·skip
   have hF4 := cf' hF2 hb1
   refine cw_skip (cq (cr ?_))
   refine sQ 15 (Y_buildS (zs := [vi 0, vi 0, vi 0]) (vs := [(0, vi 7)]) (cs := [vi 7, vi 0, vi 0]) K48 K27 rfl (mpc rfl mpn) rfl) ?_
   refine sS 16 (Ys_bslice (s := 3) (len := 1) (vs := [(0, .agg #[vi 7, vi 0, vi 0])]) (cs := [vi 7, vi 0, vi 0]) (zs := [vi 0, vi 0, vi 0]) (m := 3) hS K25 K17 K61 rfl (mpc rfl mpn) rfl rfl rfl (by kernel_rfl) (by kernel_rfl) rfl) ?_
   rintro _ w_2 ⟨b3, rfl, hS3⟩
   refine sQ 2 (yg (.slice (aD b3) 1 1)) (rn (ct_ ?_))
   obtain rfl := sI hF4
   exact ret1 Tryz.results32 (v1 := .slice (aD b3) 1 1) (resAt_tmp rfl) ⟨aD b3, 1, rfl, (hS3.sN [0])⟩

theorem c_impl_formGates (f_ : TNormalForm)  (w0 : World)  (hS : ST w0 [] w0 [] [⟨(aD 0), [vi 1, vi 0, vi 0, vi 0, vi 2]⟩]) {r_ : List TGate} (hF : F_impl_formGates f_ = some r_) :
  CV Tryz.prog 13 #[.agg #[.string (bstr f_.Syllables), vi f_.Clifford, vi f_.Phase]] w0 (fun v w' => ∃ (B : Option Addr) (c : Nat), v = .slice B r_.length c ∧ ST w0 [] w' [⟨B, 64, (r_.flatMap eN4), c * 3⟩] []) := by
 unfold F_impl_formGates at hF
 refine cv_of_cw 24 Tryz.func13 rfl Tryz.ntmps13 rfl ?_
 refine cq (cr ?_)
 refine sS 1 (yB 23 (.agg #[.string (bstr f_.Syllables), vi f_.Clifford, vi f_.Phase]) [.string (bstr f_.Syllables), vi f_.Clifford, vi f_.Phase] 3 hS) ?_
 rintro _ w_ ⟨b, rfl, hS1⟩
 refine sQ 2 (yg (.slice none 0 0)) (rn (cq (cr ?_)))
 refine sQ 5 (yd (aD b) 0 0 K94 K2) <| sQ 6 (yl (aD b) 1 [.string (bstr f_.Syllables), vi f_.Clifford, vi f_.Phase] (vi f_.Clifford) K0 (hS1.c 0)) ?_
 obtain ⟨r_1, hc, hF⟩ := bI hF
 refine sc 7 rfl rfl (yC [vi f_.Clifford] k_call_31 (c_impl_wordGates f_.Clifford _  (hS1.inn0 [(true, 0)] rfl) hc)) ?_
 rintro _ w_1 ⟨B1, c1, rfl, hd⟩
 have hS2 := hS1.out0 hd
 refine sQ 3 (yg (.slice B1 r_1.length c1)) (rn (cq (cq (cr ?_))))
 refine sQ 8 (yd (aD b) 0 0 K56 K24) <| sQ 9 (yl (aD b) 0 [.string (bstr f_.Syllables), vi f_.Clifford, vi f_.Phase] (.string (bstr f_.Syllables)) K41 (hS2.c 0)) <| sQ 10 (Y_slen (a := f_.Syllables) K42 rfl rfl) <| sQ 11 (yM (f_.Syllables.length : Int) 1) <| sQ 4 (yg (vi (i64.wrap ((f_.Syllables.length : Int) - 1)))) (rn ?_)
 obtain ⟨z, hz, hF1⟩ := bI hF
 refine cw_block ?_
 refine cw_loop (fun k f w => ∃ (out : List TGate) (i : Int) (B2 : Option Addr) (c2 : Nat), FF f [(1, pt (aD b) 0), (3, .slice B2 out.length c2), (4, vi i)] ∧ ST w0 [] w [⟨aD b, 23, [.string (bstr f_.Syllables), vi f_.Clifford, vi f_.Phase], 3⟩, ⟨B2, 64, (out.flatMap eN4), c2 * 3⟩] [⟨(aD 0), [vi 1, vi 0, vi 0, vi 0, vi 2]⟩] ∧ whX (F_impl_formGates_l1 f_) k (out, i) = some z) fuel ⟨r_1, (i64.wrap ((f_.Syllables.length : Int) - 1)), B1, c1, (fc rfl (fc rfl (fc rfl fn_))), (hS2.sel [0, 1] rfl rfl), hz⟩ ?_
 rintro k_ f w ⟨out, i, B2, c2, hf, hS3, hL⟩
 obtain ⟨K7, y, rfl, hb, hL1⟩ := whX_go hL
 unfold F_impl_formGates_l1 at hb
 refine cq (cq (cr ?_))
 refine sQ 12 (ym (vi i) rfl (hf.g 4 2)) <| sQ 13 (Y_ge (k := .i64) (a := i) (b := 0) rfl rfl rfl) (rn ?_)
 refine cw_cond (b := (decide (0 ≤ i))) rfl (fun hb1 => ?_) (fun hb1 => ?_)
 ·skip
  have hF2 := ct hb hb1
  refine cw_skip (cq (cw_block (cr ?_)))
  refine sQ 16 (ym (.slice B2 out.length c2) rfl (hf.g 3 1)) <| sQ 17 (yd (aD b) 0 0 K56 K24 rfl (hf.g 1 0)) <| sQ 18 (yl (aD b) 0 [.string (bstr f_.Syllables), vi f_.Clifford, vi f_.Phase] (.string (bstr f_.Syllables)) K41 (hS3.c 0)) <| sQ 19 (ym (vi i) rfl (hf.g 4 2)) ?_
  obtain ⟨x, hx, hF2⟩ := bI hF2
  refine sQ 20 (Y_sidx (a := f_.Syllables) (k := .i64) (i := i) (b := x) K42 rfl rfl rfl hx) ?_
  obtain ⟨r_2, hc1, hF2⟩ := bI hF2
  refine sc 21 rfl rfl (yC [.int .u8 (x.toNat : Int)] k_call_32 (c_impl_syllableGates (x.toNat : Int) _  (hS3.inn0 [] rfl) hc1)) ?_
  rintro _ w_2 ⟨B3, c3, rfl, hd1⟩
  have hS4 := hS3.out0 hd1
  obtain ⟨hap, hF2⟩ := chk_inv hF2
  refine sS 22 (Ys_append (s := 3) (by' := 24) (i := 1) (nn := out.length) (c := c2) (k := r_2.length) (len := (out ++ r_2).length) (B := B2) (xs := (r_2.flatMap eN4)) (cs' := ((out ++ r_2).flatMap eN4)) hS4 K25 K17 K62 K27 rfl (by decide) rfl rfl rfl rfl (fm_lenn (l := out) enc_Gate_len rfl) rfl (hS4.c 2) (fm_lenn (l := r_2) enc_Gate_len rfl) (fm_one' (enc := eN4) enc_Gate_one r_2) (by have := hap; omega) (by have := hap; simp only [maxLen]; omega) (fm_app _ _) (app_len (l := out) (l' := r_2) rfl rfl)) ?_
  rintro _ w_3 ⟨B4, c4, rfl, hS5⟩
  refine sQ 3 (yg (.slice B4 ((out ++ r_2).length) c4)) (rn (cr ?_))
  refine sQ 14 (ym (vi i) rfl (hf.g 4 2)) <| sQ 15 (yM i 1) <| sQ 4 (yg (vi (i64.wrap (i - 1)))) (rn ?_)
  obtain rfl := sI hF2
  exact ⟨K7, Nat.lt_succ_self _, (out ++ r_2), (i64.wrap (i - 1)), B4, c4, (fc (hf.g 1 0) (fc rfl (fc rfl fn_))), (hS5.sel [0, 1] rfl rfl), hL1⟩
 ·skip
  have hF3 := cf' hb hb1
  refine cw_exit rfl ?_
  obtain rfl := sI hF3
  obtain rfl := sI hL1
  refine cq (cr ?_)
  refine sQ 23 (ym (.slice B2 out.length c2) rfl (hf.g 3 1)) <| sQ 2 (yg (.slice B2 out.length c2)) (rn (ct_ ?_))
  obtain rfl := sI hF1
  exact ret1 Tryz.results13 (v1 := .slice B2 out.length c2) (resAt_tmp rfl) ⟨B2, c2, rfl, (hS3.sN [1])⟩

theorem c_impl_ScaleMatrix_1 (i : Int) (j : Int) (p : TMatrix) (p1 : TDyadic) (B : Option Addr) (B1 : Option Addr) (c n : Nat) (B2 : Option Addr) (w0 : World) (hn : p.Cells.length = n) (hS : ST w0 [] w0 [] [⟨B, [vi p.Rows, vi p.Cols, .slice B1 n c]⟩, ⟨B1, (p.Cells.flatMap eN0)⟩, ⟨B2, kD_ p1⟩]) {r_ : TDyadic} {r_1 : Bool} (hF : F_impl_ScaleMatrix_1 i j p p1 = some (r_, r_1)) :
  CV Tryz.prog 36 #[vi i, vi j, pt B 0, pt B2 0] w0 (fun v w' => v = .tuple #[gD_ r_, .bool r_1] ∧ ST w0 [] w' [] []) := by
 subst hn
 unfold F_impl_ScaleMatrix_1 at hF
 refine cv_of_cw 16 Tryz.func36 rfl Tryz.ntmps36 rfl ?_
 refine cq (cr ?_)
 refine sS 6 (yN kZ_ 5 hS K6) ?_
 rintro _ w_ ⟨b, rfl, hS1⟩
 refine sQ 7 (yg (.bool false)) (rn (cq ?_))
 obtain ⟨r_2, hc, hF⟩ := bI hF
 obtain ⟨⟨r_3, r_4⟩, hc1, hF⟩ := bI hF
 refine ra_start (hS1.se []).fn (by kernel_rfl) ?_
 have hS4 := hS1.drew
 refine rq 0 8 (v := gM_ p B1 c) rfl (hS4.se []) (fun w' hw' => (yb B 0 (kM_ p B1 c) K8 K3 (ST.rf hw' (i := 0) rfl))) ?_
 refine rq 1 9 (v := vi i) rfl (hS4.se []) (fun w' hw' => (ym (vi i))) ?_
 refine rq 2 10 (v := vi j) rfl (hS4.se []) (fun w' hw' => (ym (vi j))) ?_
 refine rq 4 12 (v := gD_ p1) rfl (hS4.se []) (fun w' hw' => (yb B2 0 (kD_ p1) K4 K1 (ST.rf hw' (i := 2) rfl))) ?_
 refine rA [3] ?_
 refine rC 11 3 rfl (yC [gM_ p B1 c, vi i, vi j] K66 (c_impl_Matrix_at p i j B1 c p.Cells.length _ rfl (hS4.inn0 [(true, 1)] rfl) hc)) ?_ ?_
 ·rintro _ w_1 ⟨rfl, hd⟩
  have hS5 := hS4.out00 hd
  refine ⟨(hS5.se []), ?_⟩
  refine rA [5] ?_
  refine rC 13 5 rfl (yC [gD_ r_2, gD_ p1] K59 (c_impl_MulDyadic r_2 p1 _  (hS5.inn0 [] rfl) hc1)) ?_ ?_
  ·rintro _ w_2 ⟨rfl, hd1⟩
   have hS6 := hS5.out00 hd1
   refine ⟨(hS6.se []), ?_⟩
   refine rq 6 14 (v := gD_ r_3) rfl (hS6.se []) (fun w' hw' => (ye (gD_ r_3))) ?_
   refine rq 7 15 (v := .bool r_4) rfl (hS6.se []) (fun w' hw' => (ye (.bool r_4))) ?_
   refine rA [8] ?_
   refine rZ 8 rfl (yT 0 5 (aD b) 48 (gD_ r_3) (kD_ r_3) 0 hS6 K1) ?_ ?_
   ·rintro _ w_3 ⟨rfl, hS7⟩
    refine ⟨(hS7.se []), ?_⟩
    refine rq 9 7 (v := .bool r_4) rfl (hS7.se []) (fun w' hw' => (yg (.bool r_4))) ?_
    refine ra_done (by kernel_rfl) ?_
    refine ct_ ?_
    obtain ⟨rfl, rfl⟩ := pr2 (sI hF)
    exact ret2 Tryz.results36 (v1 := gD_ r_3) (resAt_cellA (B := aD b) (i := 0) (cs := kD_ r_3) (vs := kD_ r_3) rfl K4 K1 (hS7.c 0) rfl rfl) (v2 := .bool r_4) (resAt_tmp rfl) ⟨rfl, (hS7.sN [])⟩
   exact aN
  exact aN
 exact aN

theorem c_impl_ScaleMatrix (m : TMatrix) (x : TDyadic) (B : Option Addr) (c n : Nat) (w0 : World) (hn : m.Cells.length = n) (hS : ST w0 [] w0 [] [⟨B, (m.Cells.flatMap eN0)⟩]) {r_ : TMatrix} {r_1 : Bool} (hF : F_impl_ScaleMatrix m x = some (r_, r_1)) :
  CV Tryz.prog 14 #[.agg #[vi m.Rows, vi m.Cols, .slice B n c], gD_ x] w0 (fun v w' => ∃ (B1 : Option Addr) (c1 : Nat), v = .tuple #[gM_ r_ B1 c1, .bool r_1] ∧ ST w0 [] w' [⟨B1, 48, (r_.Cells.flatMap eN0), c1 * 5⟩] []) := by
 subst hn
 unfold F_impl_ScaleMatrix at hF
 refine cv_of_cw 23 Tryz.func14 rfl Tryz.ntmps14 rfl ?_
 refine cq (cr ?_)
 refine sS 2 (yB 26 (gM_ m B c) (kM_ m B c) 3 hS) ?_
 rintro _ w_ ⟨b, rfl, hS1⟩
 refine sS 3 (yB 48 (gD_ x) (kD_ x) 5 hS1) ?_
 rintro _ w_1 ⟨b1, rfl, hS2⟩
 refine sS 4 (yN kN_ 3 hS2 K12) ?_
 rintro _ w_2 ⟨b2, rfl, hS3⟩
 refine sQ 5 (yg (.bool false)) (rn (cq (cq (cr ?_))))
 refine sQ 6 (yb (aD b) 0 (kM_ m B c) K8 K3 (hS3.c 0)) ?_
 obtain ⟨r_2, hc, hF⟩ := bI hF
 refine sc 7 rfl rfl (yC [gM_ m B c] K67 (c_impl_IsValidMatrix m B c m.Cells.length _ rfl (hS3.inn0 [(true, 0)] rfl) hc)) ?_
 rintro _ w_3 ⟨rfl, hd⟩
 have hS4 := hS3.out00 hd
 refine sQ 8 (Y_not (p := r_2) rfl rfl) <| sQ 9 (ym (.bool (!r_2))) ?_
 refine sgq 10 (B := (!(!r_2))) (v := gD_ x) rfl rfl (uF_ 9) (fun hg => (yb (aD b1) 0 (kD_ x) K4 K1 (hS4.c 1))) ?_
 obtain ⟨r_3, hc1, hF⟩ := bI hF
 refine sgc 11 (B := (!(!r_2))) (v := .bool r_3) (F := hS4.fn) rfl rfl (uF_ 9) hS4 (fun hg1 => (yC [gD_ x] K69 (CV.mono (c_impl_IsValidDyadic x _  (hS4.inn0 [] rfl) (gb_inv hc1 hg1)) (by rintro _ _ ⟨rfl, h⟩; exact ⟨rfl, hS4.out00 h⟩)) rfl (mc (gv_of (v := gD_ x) hg1) mn))) ?_
 rintro w_4 hS5
 refine sgq 12 (B := (!(!r_2))) (v := .bool (!r_3)) rfl rfl (uF_ 9) (fun hg2 => (Y_not (p := r_3) rfl (gv_of (v := .bool r_3) hg2))) ?_
 refine sQ 13 (Y_or (b := (!r_2)) (z := (!r_3)) rfl rfl rfl rfl) (rn ?_)
 refine cw_cond (b := ((!r_2) || (!r_3))) rfl (fun hb => ?_) (fun hb => ?_)
 ·skip
  have hF1 := ct hF hb
  refine cq (cr ?_)
  refine sQ 14 (Y_buildS (zs := kN_) (vs := []) (cs := kN_) K50 K12 rfl mpn rfl) ?_
  refine s0 (yT 2 3 (aD b2) 26 gN_ kN_ 0 hS5 K3) ?_
  rintro _ w_5 ⟨rfl, hS6⟩
  refine sQ 5 (yg (.bool false)) (rn (ct_ ?_))
  have hS7 := hS6.addNil 48
  obtain ⟨rfl, rfl⟩ := pr2 (sI hF1)
  exact ret2 Tryz.results14 (v1 := gN_) (resAt_cellA (B := aD b2) (i := 0) (cs := kN_) (vs := kN_) rfl K8 K3 (hS7.c 2) rfl rfl) (v2 := .bool false) (resAt_tmp rfl) ⟨none, 0, rfl, (hS7.sN [3])⟩
 ·skip
  have hF2 := cf' hF hb
  refine cw_skip (cq (cr ?_))
  refine sQ 15 (yd (aD b) 0 0 K43 K2) <| sQ 16 (yl (aD b) 0 (kM_ m B c) (vi m.Rows) K0 (hS5.c 0)) <| sQ 17 (yd (aD b) 0 0 K34 K2) <| sQ 18 (yl (aD b) 1 (kM_ m B c) (vi m.Cols) K0 (hS5.c 0)) <| sQ 19 (Y_makeFunc (cs := [pt (aD b) 0, pt (aD b1) 0]) rfl rfl (mc rfl (mc rfl mn))) ?_
  obtain ⟨⟨r_4, r_5⟩, hc2, hF2⟩ := bI hF2
  refine sc 20 rfl rfl (yC [vi m.Rows, vi m.Cols, .func (.func 36) #[] #[pt (aD b) 0, pt (aD b1) 0]] K95 (c_impl_matrixOf m.Rows m.Cols (fun x_0 x_1 => F_impl_ScaleMatrix_1 x_0 x_1 m x) 36 (#[pt (aD b) 0, pt (aD b1) 0]) [⟨aD b, kM_ m B c⟩, ⟨B, (m.Cells.flatMap eN0)⟩, ⟨aD b1, kD_ x⟩] _ k_call_36 (fun w hw x_0 x_1 y_0 y_1 h_ => c_impl_ScaleMatrix_1 x_0 x_1 m x (aD b) B c m.Cells.length (aD b1) w rfl hw h_) (hS5.inn0 [(false, 0), (true, 0), (false, 1)] rfl) hc2)) ?_
  rintro _ w_6 ⟨B2, c2, rfl, hd1⟩
  have hS8 := hS5.out0 hd1
  refine sQ 21 (ye (gM_ r_4 B2 c2)) <| sQ 22 (ye (.bool r_5)) ?_
  refine s0 (yT 2 3 (aD b2) 26 (gM_ r_4 B2 c2) (kM_ r_4 B2 c2) 0 hS8 K3) ?_
  rintro _ w_7 ⟨rfl, hS9⟩
  refine sQ 5 (yg (.bool r_5)) (rn (ct_ ?_))
  obtain ⟨rfl, rfl⟩ := pr2 (sI hF2)
  exact ret2 Tryz.results14 (v1 := gM_ r_4 B2 c2) (resAt_cellA (B := aD b2) (i := 0) (cs := kM_ r_4 B2 c2) (vs := kM_ r_4 B2 c2) rfl K8 K3 (hS9.c 2) rfl rfl) (v2 := .bool r_5) (resAt_tmp rfl) ⟨B2, c2, rfl, (hS9.sN [3])⟩

theorem c_impl_MatrixOfForm (f_ : TNormalForm)  (w0 : World)  (hS : ST w0 [] w0 [] [⟨(aD 0), [vi 1, vi 0, vi 0, vi 0, vi 2]⟩]) {r_ : TMatrix} {r_1 : Bool} (hF : F_impl_MatrixOfForm f_ = some (r_, r_1)) :
  CV Tryz.prog 4 #[.agg #[.string (bstr f_.Syllables), vi f_.Clifford, vi f_.Phase]] w0 (fun v w' => ∃ (B : Option Addr) (c : Nat), v = .tuple #[gM_ r_ B c, .bool r_1] ∧ ST w0 [] w' [⟨B, 48, (r_.Cells.flatMap eN0), c * 5⟩] []) := by
 unfold F_impl_MatrixOfForm at hF
 refine cv_of_cw 27 Tryz.func4 rfl Tryz.ntmps4 rfl ?_
 refine cq (cr ?_)
 refine sS 1 (yB 23 (.agg #[.string (bstr f_.Syllables), vi f_.Clifford, vi f_.Phase]) [.string (bstr f_.Syllables), vi f_.Clifford, vi f_.Phase] 3 hS) ?_
 rintro _ w_ ⟨b, rfl, hS1⟩
 refine sS 2 (yN kN_ 3 hS1 K12) ?_
 rintro _ w_1 ⟨b1, rfl, hS2⟩
 refine sQ 3 (yg (.bool false)) (rn (cq (cq (cr ?_))))
 refine sQ 6 (yb (aD b) 0 [.string (bstr f_.Syllables), vi f_.Clifford, vi f_.Phase] K36 K30 (hS2.c 0)) ?_
 obtain ⟨r_2, hc, hF⟩ := bI hF
 refine sc 7 rfl rfl (yC [.agg #[.string (bstr f_.Syllables), vi f_.Clifford, vi f_.Phase]] K113 (c_impl_IsValidForm f_ _  (hS2.inn0 [] rfl) hc)) ?_
 rintro _ w_2 ⟨rfl, hd⟩
 have hS3 := hS2.out00 hd
 refine sQ 8 (Y_not (p := r_2) rfl rfl) (rn ?_)
 refine cw_cond (b := (!r_2)) rfl (fun hb => ?_) (fun hb => ?_)
 ·skip
  have hF1 := ct hF hb
  refine cq (cr ?_)
  refine sQ 9 (Y_buildS (zs := kN_) (vs := []) (cs := kN_) K50 K12 rfl mpn rfl) ?_
  refine s0 (yT 1 3 (aD b1) 26 gN_ kN_ 0 hS3 K3) ?_
  rintro _ w_3 ⟨rfl, hS4⟩
  refine sQ 3 (yg (.bool false)) (rn (ct_ ?_))
  have hS5 := hS4.addNil 48
  obtain ⟨rfl, rfl⟩ := pr2 (sI hF1)
  exact ret2 Tryz.results4 (v1 := gN_) (resAt_cellA (B := aD b1) (i := 0) (cs := kN_) (vs := kN_) rfl K8 K3 (hS5.c 1) rfl rfl) (v2 := .bool false) (resAt_tmp rfl) ⟨none, 0, rfl, (hS5.sN [2])⟩
 ·skip
  have hF2 := cf' hF hb
  refine cw_skip (cq (cr ?_))
  refine sQ 11 (yb (aD b) 0 [.string (bstr f_.Syllables), vi f_.Clifford, vi f_.Phase] K36 K30 (hS3.c 0)) ?_
  obtain ⟨r_3, hc1, hF2⟩ := bI hF2
  refine sc 12 rfl rfl (yC [.agg #[.string (bstr f_.Syllables), vi f_.Clifford, vi f_.Phase]] k_call_13 (c_impl_formGates f_ _  (hS3.inn0 [(true, 0)] rfl) hc1)) ?_
  rintro _ w_4 ⟨B1, c1, rfl, hd1⟩
  have hS6 := hS3.out0 hd1
  refine sQ 13 (Y_buildS (zs := [vi 0, .slice none 0 0]) (vs := [(0, vi 1), (1, .slice B1 r_3.length c1)]) (cs := [vi 1, .slice B1 r_3.length c1]) K78 K55 rfl (mpc rfl (mpc rfl mpn)) rfl) ?_
  obtain ⟨⟨r_4, r_5⟩, hc2, hF2⟩ := bI hF2
  refine sc 14 rfl rfl (yC [.agg #[vi 1, .slice B1 r_3.length c1]] k_call_12 (c_impl_OperatorOf (TCircuit.mk 1 r_3) B1 c1 r_3.length _ rfl (hS6.inn0 [(false, 2)] rfl) hc2)) ?_
  rintro _ w_5 ⟨B2, c2, rfl, hd2⟩
  have hS7 := hS6.out0 hd2
  refine sQ 10 (ym (.tuple #[gM_ r_4 B2 c2, .bool r_5])) <| sQ 15 (ye (gM_ r_4 B2 c2)) <| sQ 16 (ye (.bool r_5)) ?_
  refine sS 4 (yN kN_ 3 hS7 K12) ?_
  rintro _ w_6 ⟨b2, rfl, hS8⟩
  refine s0 (yT 4 3 (aD b2) 26 (gM_ r_4 B2 c2) (kM_ r_4 B2 c2) 0 hS8 K3) ?_
  rintro _ w_7 ⟨rfl, hS9⟩
  refine sQ 5 (yg (.bool r_5)) (rn (cq (cq (cr ?_))))
  refine sQ 17 (ym (.bool r_5)) <| sQ 18 (Y_not (p := r_5) rfl rfl) (rn ?_)
  refine cw_cond (b := (!r_5)) rfl (fun hb1 => ?_) (fun hb1 => ?_)
  ·skip
   have hF3 := ct hF2 hb1
   refine cq (cr ?_)
   refine sQ 19 (Y_buildS (zs := kN_) (vs := []) (cs := kN_) K50 K12 rfl mpn rfl) ?_
   refine s0 (yT 1 3 (aD b1) 26 gN_ kN_ 0 hS9 K3) ?_
   rintro _ w_8 ⟨rfl, hS10⟩
   refine sQ 3 (yg (.bool false)) (rn (ct_ ?_))
   have hS11 := hS10.addNil 48
   obtain ⟨rfl, rfl⟩ := pr2 (sI hF3)
   exact ret2 Tryz.results4 (v1 := gN_) (resAt_cellA (B := aD b1) (i := 0) (cs := kN_) (vs := kN_) rfl K8 K3 (hS11.c 1) rfl rfl) (v2 := .bool false) (resAt_tmp rfl) ⟨none, 0, rfl, (hS11.sN [5])⟩
  ·skip
   have hF4 := cf' hF2 hb1
   refine cw_skip (cq ?_)
   obtain ⟨r_6, hc3, hF4⟩ := bI hF4
   obtain ⟨⟨r_7, r_8⟩, hc4, hF4⟩ := bI hF4
   refine ra_start (hS9.se [0, 2, 3, 4]).fn (by kernel_rfl) ?_
   have hS14 := hS9.drew
   refine rq 0 20 (v := gM_ r_4 B2 c2) rfl (hS14.se [0, 2, 3, 4]) (fun w' hw' => (yb (aD b2) 0 (kM_ r_4 B2 c2) K8 K3 (ST.cf hw' (i := 3) rfl))) ?_
   refine rq 1 21 (v := pt (aD b) 2) rfl (hS14.se [0, 2, 3, 4]) (fun w' hw' => (yd (aD b) 0 0 K85 K2)) ?_
   refine rq 2 22 (v := vi f_.Phase) rfl (hS14.se [0, 2, 3, 4]) (fun w' hw' => (yl (aD b) 2 [.string (bstr f_.Syllables), vi f_.Clifford, vi f_.Phase] (vi f_.Phase) K0 (ST.cf hw' (i := 0) rfl))) ?_
   refine rA [3] ?_
   refine rC 23 3 rfl (yC [vi f_.Phase] K73 (c_impl_phase f_.Phase _  (hS14.inn0 [] rfl) hc3)) ?_ ?_
   ·rintro _ w_9 ⟨rfl, hd3⟩
    have hS15 := hS14.out00 hd3
    refine ⟨(hS15.se [0, 2, 3, 4]), ?_⟩
    refine rA [4] ?_
    refine rC 24 4 rfl (yC [gM_ r_4 B2 c2, gD_ r_6] K114 (c_impl_ScaleMatrix r_4 r_6 B2 c2 r_4.Cells.length _ rfl (hS15.inn0 [(false, 3)] rfl) hc4)) ?_ ?_
    ·rintro _ w_10 ⟨B3, c3, rfl, hd4⟩
     have hS16 := hS15.out0 hd4
     refine ⟨(hS16.se [0, 2, 3, 4]), ?_⟩
     refine rq 5 25 (v := gM_ r_7 B3 c3) rfl (hS16.se [0, 2, 3, 4]) (fun w' hw' => (ye (gM_ r_7 B3 c3))) ?_
     refine rq 6 26 (v := .bool r_8) rfl (hS16.se [0, 2, 3, 4]) (fun w' hw' => (ye (.bool r_8))) ?_
     refine rA [7] ?_
     refine rZ 7 rfl (yT 1 3 (aD b1) 26 (gM_ r_7 B3 c3) (kM_ r_7 B3 c3) 0 hS16 K3) ?_ ?_
     ·rintro _ w_11 ⟨rfl, hS17⟩
      refine ⟨(hS17.se [0, 2, 3, 4]), ?_⟩
      refine rq 8 3 (v := .bool r_8) rfl (hS17.se [0, 2, 3, 4]) (fun w' hw' => (yg (.bool r_8))) ?_
      refine ra_done (by kernel_rfl) ?_
      refine ct_ ?_
      obtain ⟨rfl, rfl⟩ := pr2 (sI hF4)
      exact ret2 Tryz.results4 (v1 := gM_ r_7 B3 c3) (resAt_cellA (B := aD b1) (i := 0) (cs := kM_ r_7 B3 c3) (vs := kM_ r_7 B3 c3) rfl K8 K3 (hS17.c 1) rfl rfl) (v2 := .bool r_8) (resAt_tmp rfl) ⟨B3, c3, rfl, (hS17.sN [5])⟩
     exact aN
    exact aN
   exact aN

theorem c_spec_l1In (n : Int) (lo : Int) (hi : Int)  (w0 : World)  (hS : ST w0 [] w0 [] []) {r_ : Bool} (hF : F_spec_l1In n lo hi = some r_) :
  CV Tryz.prog 40 #[vi n, vi lo, vi hi] w0 (fun v w' => v = .bool r_ ∧ ST w0 [] w' [] []) := by
 unfold F_spec_l1In at hF
 refine cv_of_cw 15 Tryz.func40 rfl Tryz.ntmps40 rfl ?_
 refine cq (cr ?_)
 refine sQ 6 (yg (.bool false)) (rn (cq (cr ?_)))
 refine sQ 7 (ym (vi n)) <| sQ 8 (ym (vi lo)) <| sQ 9 (Y_ge (k := .i64) (a := n) (b := lo) rfl rfl rfl) <| sQ 10 (ym (.bool (decide (lo ≤ n)))) ?_
 refine sgq 11 (B := (decide (lo ≤ n))) (v := vi n) rfl rfl (uT_ 10) (fun hg => (ym (vi n))) ?_
 refine sgq 12 (B := (decide (lo ≤ n))) (v := vi hi) rfl rfl (uT_ 10) (fun hg1 => (ym (vi hi))) ?_
 refine sgq 13 (B := (decide (lo ≤ n))) (v := .bool (decide (n ≤ hi))) rfl rfl (uT_ 10) (fun hg2 => (Y_le (k := .i64) (a := n) (b := hi) rfl (gv_of (v := vi n) hg2) (gv_of (v := vi hi) hg2))) ?_
 refine sQ 14 (Y_and (b := (decide (lo ≤ n))) (z := (decide (n ≤ hi))) rfl rfl rfl rfl) <| sQ 6 (yg (.bool ((decide (lo ≤ n)) && (decide (n ≤ hi))))) (rn (ct_ ?_))
 obtain rfl := sI hF
 exact ret1 Tryz.results40 (v1 := .bool ((decide (lo ≤ n)) && (decide (n ≤ hi)))) (resAt_tmp rfl) ⟨rfl, (hS.sN [])⟩

theorem c_spec_l10Valid (f_ : TNormalForm)  (w0 : World)  (hS : ST w0 [] w0 [] []) {r_ : Bool} (hF : F_spec_l10Valid f_ = some r_) :
  CV Tryz.prog 16 #[.agg #[.string (bstr f_.Syllables), vi f_.Clifford, vi f_.Phase]] w0 (fun v w' => v = .bool r_ ∧ ST w0 [] w' [] []) := by
 unfold F_spec_l10Valid at hF
 refine cv_of_cw 44 Tryz.func16 rfl Tryz.ntmps16 rfl ?_
 refine cq (cr ?_)
 refine sS 1 (yB 23 (.agg #[.string (bstr f_.Syllables), vi f_.Clifford, vi f_.Phase]) [.string (bstr f_.Syllables), vi f_.Clifford, vi f_.Phase] 3 hS) ?_
 rintro _ w_ ⟨b, rfl, hS1⟩
 refine sQ 2 (yg (.bool false)) (rn (cq (cq (cr ?_))))
 refine sQ 3 (yg (vi 0)) (rn ?_)
 obtain ⟨hN, hF⟩ := chk_inv hF
 obtain ⟨z, hz, hF1⟩ := bI hF
 refine cw_block ?_
 refine cw_loop (fun k f w => ∃ (i1 : Nat), FF f [(1, pt (aD b) 0), (3, vi (i1 : Int))] ∧ ST w0 [] w [⟨aD b, 23, [.string (bstr f_.Syllables), vi f_.Clifford, vi f_.Phase], 3⟩] [] ∧ i1 + k = f_.Syllables.length ∧ forX (F_spec_l10Valid_l1 f_) k i1 () = some z) f_.Syllables.length ⟨0, (fc rfl (fc rfl fn_)), (hS1.sel [0] rfl rfl), Nat.zero_add _, hz⟩ ?_
 rintro k_ f w ⟨i1, hf, hS2, hik, hL⟩
 refine cq (cq (cr ?_))
 refine sQ 5 (ym (vi (i1 : Int)) rfl (hf.g 3 1)) <| sQ 6 (yd (aD b) 0 0 K56 K24 rfl (hf.g 1 0)) <| sQ 7 (yl (aD b) 0 [.string (bstr f_.Syllables), vi f_.Clifford, vi f_.Phase] (.string (bstr f_.Syllables)) K41 (hS2.c 0)) <| sQ 8 (Y_slen (a := f_.Syllables) K42 rfl rfl) <| sQ 9 (yL (i1 : Int) (f_.Syllables.length : Int)) (rn ?_)
 refine cw_cond (b := (decide ((i1 : Int) < (f_.Syllables.length : Int)))) rfl (fun hlt => ?_) (fun hlt => ?_)
 ·skip
  have hlt1 : i1 < f_.Syllables.length := by have h := of_decide_eq_true hlt; omega
  obtain ⟨K7, rfl⟩ : ∃ k2, k_ = k2 + 1 := ⟨k_ - 1, by omega⟩
  obtain ⟨y, hb, hL1⟩ := forX_go hL
  unfold F_spec_l10Valid_l1 at hb
  refine cw_skip (cq (cw_block (cq (cr ?_))))
  refine sQ 12 (yd (aD b) 0 0 K56 K24 rfl (hf.g 1 0)) <| sQ 13 (yl (aD b) 0 [.string (bstr f_.Syllables), vi f_.Clifford, vi f_.Phase] (.string (bstr f_.Syllables)) K41 (hS2.c 0)) <| sQ 14 (ym (vi (i1 : Int)) rfl (hf.g 3 1)) ?_
  obtain ⟨x, hx, hb⟩ := bI hb
  refine sQ 15 (Y_sidx (a := f_.Syllables) (k := .i64) (i := (i1 : Int)) (b := x) K42 rfl rfl rfl hx) <| sQ 4 (yg (.int .u8 (x.toNat : Int))) (rn (cq (cr ?_)))
  refine sQ 16 (ym (.int .u8 (x.toNat : Int))) <| sQ 17 (Y_ne (k := .u8) (a := (x.toNat : Int)) (b := 72) rfl rfl rfl) <| sQ 18 (ym (.bool ((x.toNat : Int) != 72))) ?_
  refine sgq 19 (B := ((x.toNat : Int) != 72)) (v := .int .u8 (x.toNat : Int)) rfl rfl (uT_ 18) (fun hg => (ym (.int .u8 (x.toNat : Int)))) ?_
  refine sgq 20 (B := ((x.toNat : Int) != 72)) (v := .bool ((x.toNat : Int) != 83)) rfl rfl (uT_ 18) (fun hg1 => (Y_ne (k := .u8) (a := (x.toNat : Int)) (b := 83) rfl (gv_of (v := .int .u8 (x.toNat : Int)) hg1) rfl)) ?_
  refine sQ 21 (Y_and (b := ((x.toNat : Int) != 72)) (z := ((x.toNat : Int) != 83)) rfl rfl rfl rfl) <| sQ 22 (ym (.bool (((x.toNat : Int) != 72) && ((x.toNat : Int) != 83)))) ?_
  refine sgq 23 (B := (((x.toNat : Int) != 72) && ((x.toNat : Int) != 83))) (v := .int .u8 (x.toNat : Int)) rfl rfl (uT_ 22) (fun hg2 => (ym (.int .u8 (x.toNat : Int)))) ?_
  refine sgq 24 (B := (((x.toNat : Int) != 72) && ((x.toNat : Int) != 83))) (v := .bool ((x.toNat : Int) != 84)) rfl rfl (uT_ 22) (fun hg3 => (Y_ne (k := .u8) (a := (x.toNat : Int)) (b := 84) rfl (gv_of (v := .int .u8 (x.toNat : Int)) hg3) rfl)) ?_
  refine sgq 25 (B := (((x.toNat : Int) != 72) && ((x.toNat : Int) != 83))) (v := .bool ((x.toNat : Int) != 84)) rfl rfl (uT_ 22) (fun hg4 => (ym (.bool ((x.toNat : Int) != 84)) rfl (gv_of (v := .bool ((x.toNat : Int) != 84)) hg4))) ?_
  refine sgq 26 (B := ((((x.toNat : Int) != 72) && ((x.toNat : Int) != 83)) && (!((x.toNat : Int) != 84)))) (v := vi (i1 : Int)) rfl rfl (wt_gf (gd_of (t := 25) (by kernel_rfl) rfl)) (fun hg5 => (ym (vi (i1 : Int)) rfl (hf.g 3 1))) ?_
  refine sgq 27 (B := ((((x.toNat : Int) != 72) && ((x.toNat : Int) != 83)) && (!((x.toNat : Int) != 84)))) (v := .bool (decide (0 < (i1 : Int)))) rfl rfl (wt_gf (gd_of (t := 25) (by kernel_rfl) rfl)) (fun hg6 => (Y_gt (k := .i64) (a := (i1 : Int)) (b := 0) rfl (gv_of (v := vi (i1 : Int)) hg6) rfl)) ?_
  refine sgq 28 (B := (((x.toNat : Int) != 72) && ((x.toNat : Int) != 83))) (v := .bool (((x.toNat : Int) != 84) || (decide (0 < (i1 : Int))))) rfl rfl (uT_ 22) (fun hg7 => (Y_or (b := ((x.toNat : Int) != 84)) (z := (decide (0 < (i1 : Int)))) rfl (gv_of (v := .bool ((x.toNat : Int) != 84)) hg7) rfl (gv_and (B := (((x.toNat : Int) != 72) && ((x.toNat : Int) != 83))) (C := (!((x.toNat : Int) != 84))) (v := .bool (decide (0 < (i1 : Int)))) hg7))) ?_
  refine sQ 29 (Y_and (b := (((x.toNat : Int) != 72) && ((x.toNat : Int) != 83))) (z := (((x.toNat : Int) != 84) || (decide (0 < (i1 : Int))))) rfl rfl rfl rfl) (rn ?_)
  refine cw_cond (b := ((((x.toNat : Int) != 72) && ((x.toNat : Int) != 83)) && (((x.toNat : Int) != 84) || (decide (0 < (i1 : Int)))))) rfl (fun hb1 => ?_) (fun hb1 => ?_)
  ·skip
   have hF2 := ct hb hb1
   refine cq (cr ?_)
   refine sQ 2 (yg (.bool false)) (rn (ct_ ?_))
   obtain rfl := sI hF2
   obtain rfl := sI hL1
   obtain rfl := sI hF1
   exact ret1 Tryz.results16 (v1 := .bool false) (resAt_tmp rfl) ⟨rfl, (hS2.sN [])⟩
  ·skip
   have hF3 := cf' hb hb1
   refine cw_skip (cr ?_)
   refine sQ 10 (ym (vi (i1 : Int)) rfl (hf.g 3 1)) <| sQ 11 (yP (i1 : Int) 1) <| sQ 3 (yg (vi (i64.wrap ((i1 : Int) + 1)))) (rn ?_)
   obtain rfl := sI hF3
   exact ⟨K7, Nat.lt_succ_self _, i1 + 1, (fc (hf.g 1 0) (fc (congrArg (Value.int .i64) (wr_succ hlt1 hN)) fn_)), (hS2.sel [0] rfl rfl), (by omega), hL1⟩
 ·skip
  obtain rfl : k_ = 0 := by have h := of_decide_eq_false hlt; omega
  refine cw_exit rfl ?_
  obtain rfl := sI hL
  refine cq (cr ?_)
  refine sQ 30 (yd (aD b) 0 0 K56 K24 rfl (hf.g 1 0)) <| sQ 31 (yl (aD b) 0 [.string (bstr f_.Syllables), vi f_.Clifford, vi f_.Phase] (.string (bstr f_.Syllables)) K41 (hS2.c 0)) <| sQ 32 (Y_slen (a := f_.Syllables) K42 rfl rfl) <| sQ 33 (Y_le (k := .i64) (a := (f_.Syllables.length : Int)) (b := 40) rfl rfl rfl) <| sQ 34 (ym (.bool (decide ((f_.Syllables.length : Int) ≤ 40)))) ?_
  refine sgq 35 (B := (decide ((f_.Syllables.length : Int) ≤ 40))) (v := pt (aD b) 1) rfl rfl (uT_ 34) (fun hg8 => (yd (aD b) 0 0 K94 K2 rfl (hf.g 1 0))) ?_
  refine sgq 36 (B := (decide ((f_.Syllables.length : Int) ≤ 40))) (v := vi f_.Clifford) rfl rfl (uT_ 34) (fun hg9 => (yl (aD b) 1 [.string (bstr f_.Syllables), vi f_.Clifford, vi f_.Phase] (vi f_.Clifford) K0 (hS2.c 0) rfl (gv_of (v := pt (aD b) 1) hg9))) ?_
  obtain ⟨r_1, hc, hF1⟩ := bI hF1
  refine sgc 37 (B := (decide ((f_.Syllables.length : Int) ≤ 40))) (v := .bool r_1) (F := hS2.fn) rfl rfl (uT_ 34) hS2 (fun hg10 => (yC [vi f_.Clifford, vi 0, vi 23] K125 (CV.mono (c_spec_l1In f_.Clifford 0 23 _  (hS2.inn0 [] rfl) (gb_inv hc hg10)) (by rintro _ _ ⟨rfl, h⟩; exact ⟨rfl, hS2.out00 h⟩)) rfl (mc (gv_of (v := vi f_.Clifford) hg10) (mc rfl (mc rfl mn))))) ?_
  rintro w_1 hS3
  refine sQ 38 (Y_and (b := (decide ((f_.Syllables.length : Int) ≤ 40))) (z := r_1) rfl rfl rfl rfl) <| sQ 39 (ym (.bool ((decide ((f_.Syllables.length : Int) ≤ 40)) && r_1))) ?_
  refine sgq 40 (B := ((decide ((f_.Syllables.length : Int) ≤ 40)) && r_1)) (v := pt (aD b) 2) rfl rfl (uT_ 39) (fun hg11 => (yd (aD b) 0 0 K85 K2 rfl (hf.g 1 0))) ?_
  refine sgq 41 (B := ((decide ((f_.Syllables.length : Int) ≤ 40)) && r_1)) (v := vi f_.Phase) rfl rfl (uT_ 39) (fun hg12 => (yl (aD b) 2 [.string (bstr f_.Syllables), vi f_.Clifford, vi f_.Phase] (vi f_.Phase) K0 (hS3.c 0) rfl (gv_of (v := pt (aD b) 2) hg12))) ?_
  obtain ⟨r_2, hc1, hF1⟩ := bI hF1
  refine sgc 42 (B := ((decide ((f_.Syllables.length : Int) ≤ 40)) && r_1)) (v := .bool r_2) (F := hS3.fn) rfl rfl (uT_ 39) hS3 (fun hg13 => (yC [vi f_.Phase, vi 0, vi 7] K125 (CV.mono (c_spec_l1In f_.Phase 0 7 _  (hS3.inn0 [] rfl) (gb_inv hc1 hg13)) (by rintro _ _ ⟨rfl, h⟩; exact ⟨rfl, hS3.out00 h⟩)) rfl (mc (gv_of (v := vi f_.Phase) hg13) (mc rfl (mc rfl mn))))) ?_
  rintro w_2 hS4
  refine sQ 43 (Y_and (b := ((decide ((f_.Syllables.length : Int) ≤ 40)) && r_1)) (z := r_2) rfl rfl rfl rfl) <| sQ 2 (yg (.bool (((decide ((f_.Syllables.length : Int) ≤ 40)) && r_1) && r_2))) (rn (ct_ ?_))
  obtain rfl := sI hF1
  exact ret1 Tryz.results16 (v1 := .bool (((decide ((f_.Syllables.length : Int) ≤ 40)) && r_1) && r_2)) (resAt_tmp rfl) ⟨rfl, (hS4.sN [])⟩

theorem c_spec_l1All (l : List Int) (lo : Int) (hi : Int) (B : Option Addr) (c n : Nat) (w0 : World) (hn : l.length = n) (hS : ST w0 [] w0 [] [⟨B, (l.flatMap encI)⟩]) {r_ : Bool} (hF : F_spec_l1All l lo hi = some r_) :
  CV Tryz.prog 128 #[.slice B n c, vi lo, vi hi] w0 (fun v w' => v = .bool r_ ∧ ST w0 [] w' [] []) := by
 subst hn
 unfold F_spec_l1All at hF
 refine cv_of_cw 21 Tryz.func128 rfl Tryz.ntmps128 rfl ?_
 refine cq (cr ?_)
 refine sQ 6 (yg (.bool false)) (rn (cq (cq (cr ?_))))
 refine sQ 9 (ym (.slice B l.length c)) <| sQ 10 (Y_len (B := B) (m := l.length) (c := c) K106 rfl rfl) <| sQ 11 (ym (vi 0)) (rn ?_)
 obtain ⟨hN, hF⟩ := chk_inv hF
 obtain ⟨z, hz, hF1⟩ := bI hF
 refine cw_block ?_
 refine cw_loop (fun k f w => ∃ (i : Nat), FF f [(1, vi lo), (2, vi hi), (9, .slice B l.length c), (10, vi (l.length : Int)), (11, vi (i : Int))] ∧ ST w0 [] w [] [⟨B, (l.flatMap encI)⟩] ∧ i + k = l.length ∧ forX (F_spec_l1All_l1 l lo hi) k i () = some z) l.length ⟨0, (fc rfl (fc rfl (fc rfl (fc rfl (fc rfl fn_))))), (hS.sel [] rfl rfl), Nat.zero_add _, hz⟩ ?_
 rintro k_ f w ⟨i, hf, hS1, hik, hL⟩
 refine cq (cr ?_)
 refine sQ 12 (yL (i : Int) (l.length : Int) rfl (hf.g 11 4) (hf.g 10 3)) (rn (cq ?_))
 refine cw_cond (b := (decide ((i : Int) < (l.length : Int)))) rfl (fun hlt => ?_) (fun hlt => ?_)
 ·skip
  have hlt1 : i < l.length := by have h := of_decide_eq_true hlt; omega
  obtain ⟨K7, rfl⟩ : ∃ k2, k_ = k2 + 1 := ⟨k_ - 1, by omega⟩
  obtain ⟨y, hb, hL1⟩ := forX_go hL
  unfold F_spec_l1All_l1 at hb
  refine cw_skip (cq (cw_block (cq (cr ?_))))
  obtain ⟨x, hx, hb⟩ := bI hb
  refine sQ 13 (Y_index (B := B) (m := l.length) (c := c) (k := .i64) (i := (i : Int)) K106 K2 rfl (hf.g 9 2) (hf.g 11 4) (gi_isSome encI_len rfl (hS1.rf (i := 0) rfl) hx) (getI_nn hx) (getI_ltI hx rfl)) <| sQ 14 (yl B ((i : Int).toNat * 1) (l.flatMap encI) (vi x) K0 (hS1.rf (i := 0) rfl) rfl rfl (gi_at0 encI_len hx rfl)) <| sQ 8 (yg (vi x)) (rn (cq (cr ?_)))
  refine sQ 15 (ym (vi x)) <| sQ 16 (ym (vi lo) rfl (hf.g 1 0)) <| sQ 17 (ym (vi hi) rfl (hf.g 2 1)) ?_
  obtain ⟨r_1, hc, hb⟩ := bI hb
  refine sc 18 rfl rfl (yC [vi x, vi lo, vi hi] K125 (c_spec_l1In x lo hi _  (hS1.inn0 [] rfl) hc)) ?_
  rintro _ w_ ⟨rfl, hd⟩
  have hS2 := hS1.out00 hd
  refine sQ 19 (Y_not (p := r_1) rfl rfl) (rn ?_)
  refine cw_cond (b := (!r_1)) rfl (fun hb1 => ?_) (fun hb1 => ?_)
  ·skip
   have hF2 := ct hb hb1
   refine cq (cr ?_)
   refine sQ 6 (yg (.bool false)) (rn (ct_ ?_))
   obtain rfl := sI hF2
   obtain rfl := sI hL1
   obtain rfl := sI hF1
   exact ret1 Tryz.results128 (v1 := .bool false) (resAt_tmp rfl) ⟨rfl, (hS2.sN [])⟩
  ·skip
   have hF3 := cf' hb hb1
   refine cw_skip (cr ?_)
   refine sQ 20 (yP (i : Int) 1 rfl (hf.g 11 4)) <| sQ 11 (ym (vi (i64.wrap ((i : Int) + 1)))) (rn ?_)
   obtain rfl := sI hF3
   exact ⟨K7, Nat.lt_succ_self _, i + 1, (fc (hf.g 1 0) (fc (hf.g 2 1) (fc (hf.g 9 2) (fc (hf.g 10 3) (fc (congrArg (Value.int .i64) (wr_succ hlt1 hN)) fn_))))), (hS2.sel [] rfl rfl), (by omega), hL1⟩
 ·skip
  obtain rfl : k_ = 0 := by have h := of_decide_eq_false hlt; omega
  refine cw_exit rfl ?_
  obtain rfl := sI hL
  refine cq (cr ?_)
  refine sQ 6 (yg (.bool true)) (rn (ct_ ?_))
  obtain rfl := sI hF1
  exact ret1 Tryz.results128 (v1 := .bool true) (resAt_tmp rfl) ⟨rfl, (hS1.sN [])⟩

theorem c_spec_l1Good (x : TRing)  (w0 : World)  (hS : ST w0 [] w0 [] []) {r_ : Bool} (hF : F_spec_l1Good x = some r_) :
  CV Tryz.prog 122 #[gR_ x] w0 (fun v w' => v = .bool r_ ∧ ST w0 [] w' [] []) := by
 unfold F_spec_l1Good at hF
 refine cv_of_cw 13 Tryz.func122 rfl Tryz.ntmps122 rfl ?_
 refine cq (cr ?_)
 refine sS 1 (yB 46 (gR_ x) (kR_ x) 4 hS) ?_
 rintro _ w_ ⟨b, rfl, hS1⟩
 refine sQ 2 (yg (.bool false)) (rn (cq (cr ?_)))
 refine sQ 3 (yd (aD b) 0 0 K19 K2) <| sQ 4 (yl (aD b) 0 (kR_ x) (vi x.A) K0 (hS1.c 0)) <| sQ 5 (yd (aD b) 0 0 K20 K2) <| sQ 6 (yl (aD b) 1 (kR_ x) (vi x.B) K0 (hS1.c 0)) <| sQ 7 (yd (aD b) 0 0 K21 K2) <| sQ 8 (yl (aD b) 2 (kR_ x) (vi x.C) K0 (hS1.c 0)) ?_
 refine sQ 9 (yd (aD b) 0 0 K22 K2) <| sQ 10 (yl (aD b) 3 (kR_ x) (vi x.D) K0 (hS1.c 0)) ?_
 refine sS 11 (Ys_bslice (s := 1) (len := 4) (vs := [(0, vi x.A), (1, vi x.B), (2, vi x.C), (3, vi x.D)]) (cs := kR_ x) (zs := [vi 0, vi 0, vi 0, vi 0]) (m := 4) hS1 K106 K2 k_zc_3 rfl (mpc rfl (mpc rfl (mpc rfl (mpc rfl mpn)))) rfl rfl rfl (by kernel_rfl) (by kernel_rfl) rfl) ?_
 rintro _ w_1 ⟨b1, rfl, hS2⟩
 obtain ⟨r_1, hc, hF⟩ := bI hF
 refine sc 12 rfl rfl (yC [.slice (aD b1) 4 4, vi (-1000000000), vi 1000000000] k_call_128 (c_spec_l1All [x.A, x.B, x.C, x.D] (-1000000000) 1000000000 (aD b1) 4 4 _ rfl (hS2.inn0 [(false, 1)] rfl) hc)) ?_
 rintro _ w_2 ⟨rfl, hd⟩
 have hS3 := hS2.out00 hd
 refine sQ 2 (yg (.bool r_1)) (rn (ct_ ?_))
 obtain rfl := sI hF
 exact ret1 Tryz.results122 (v1 := .bool r_1) (resAt_tmp rfl) ⟨rfl, (hS3.sN [])⟩

theorem c_spec_l2C_ring (c : Tl2C) (x : TRing) (B : Option Addr) (w0 : World)  (hS : ST w0 (bl [⟨B, 84, [.bool c.bad], 1⟩]) w0 [⟨B, 84, [.bool c.bad], 1⟩] []) {r_ : TRing} {m : Tl2C} (hF : F_spec_l2C_ring c x = some (r_, m)) :
  CV Tryz.prog 112 #[pt B 0, gR_ x] w0 (fun v w' => v = (gR_ r_) ∧ ST w0 (bl [⟨B, 84, [.bool c.bad], 1⟩]) w' [⟨B, 84, [.bool m.bad], 1⟩] []) := by
 unfold F_spec_l2C_ring at hF
 refine cv_of_cw 13 Tryz.func112 rfl Tryz.ntmps112 rfl ?_
 refine cq (cr ?_)
 refine sS 3 (yB 46 (gR_ x) (kR_ x) 4 hS) ?_
 rintro _ w_ ⟨b, rfl, hS1⟩
 refine sS 4 (yN [vi 0, vi 0, vi 0, vi 0] 4 hS1 K13) ?_
 rintro _ w_1 ⟨b1, rfl, hS2⟩
 refine rn (cq (cq (cr ?_)))
 refine sQ 5 (yb (aD b) 0 (kR_ x) K10 K5 (hS2.c 1)) ?_
 obtain ⟨r_1, hc, hF⟩ := bI hF
 refine sc 6 rfl rfl (yC [gR_ x] k_call_122 (c_spec_l1Good x _  (hS2.inn0 [] rfl) hc)) ?_
 rintro _ w_2 ⟨rfl, hd⟩
 have hS3 := hS2.out00 hd
 refine sQ 7 (Y_not (p := r_1) rfl rfl) (rn ?_)
 refine cw_cond (b := (!r_1)) rfl (fun hb => ?_) (fun hb => ?_)
 ·skip
  have hF1 := ct hF hb
  refine cq (cr ?_)
  refine sQ 8 (ym (pt B 0)) <| sQ 9 (Y_nilCheck (B := B) (i := 0) rfl rfl) <| sQ 10 (yd B 0 0 K107 K79) ?_
  refine s0 (yT 0 1 B 84 (.bool true) [.bool true] 0 hS3 K79) ?_
  rintro _ w_3 ⟨rfl, hS4⟩
  refine rn (cq (cr ?_))
  refine sQ 11 (Y_buildS (zs := [vi 0, vi 0, vi 0, vi 0]) (vs := []) (cs := [vi 0, vi 0, vi 0, vi 0]) K31 K13 rfl mpn rfl) ?_
  refine s0 (yT 2 4 (aD b1) 46 (.agg #[vi 0, vi 0, vi 0, vi 0]) [vi 0, vi 0, vi 0, vi 0] 0 hS4 K5) ?_
  rintro _ w_4 ⟨rfl, hS5⟩
  refine rn (ct_ ?_)
  obtain ⟨rfl, rfl⟩ := pr2 (sI hF1)
  exact ret1 Tryz.results112 (v1 := .agg #[vi 0, vi 0, vi 0, vi 0]) (resAt_cellA (B := aD b1) (i := 0) (cs := [vi 0, vi 0, vi 0, vi 0]) (vs := [vi 0, vi 0, vi 0, vi 0]) rfl K10 K5 (hS5.c 2) rfl rfl) ⟨rfl, (hS5.sN [0])⟩
 ·skip
  have hF2 := cf' hF hb
  refine cw_skip (cq (cr ?_))
  refine sQ 12 (yb (aD b) 0 (kR_ x) K10 K5 (hS3.c 1)) ?_
  refine s0 (yT 2 4 (aD b1) 46 (gR_ x) (kR_ x) 0 hS3 K5) ?_
  rintro _ w_5 ⟨rfl, hS6⟩
  refine rn (ct_ ?_)
  obtain ⟨rfl, rfl⟩ := pr2 (sI hF2)
  exact ret1 Tryz.results112 (v1 := gR_ x) (resAt_cellA (B := aD b1) (i := 0) (cs := kR_ x) (vs := kR_ x) rfl K10 K5 (hS6.c 2) rfl rfl) ⟨rfl, (hS6.sN [0])⟩

theorem c_spec_l1Root (x : TRing)  (w0 : World)  (hS : ST w0 [] w0 [] []) {r_ : TRing} (hF : F_spec_l1Root x = some r_) :
  CV Tryz.prog 113 #[gR_ x] w0 (fun v w' => v = (gR_ r_) ∧ ST w0 [] w' [] []) := by
 unfold F_spec_l1Root at hF
 refine cv_of_cw 24 Tryz.func113 rfl Tryz.ntmps113 rfl ?_
 refine cq (cr ?_)
 refine sS 1 (yB 46 (gR_ x) (kR_ x) 4 hS) ?_
 rintro _ w_ ⟨b, rfl, hS1⟩
 refine sS 2 (yN [vi 0, vi 0, vi 0, vi 0] 4 hS1 K13) ?_
 rintro _ w_1 ⟨b1, rfl, hS2⟩
 refine rn (cq (cr ?_))
 refine sQ 3 (yd (aD b) 0 0 K20 K2) <| sQ 4 (yl (aD b) 1 (kR_ x) (vi x.B) K0 (hS2.c 0)) <| sQ 5 (yd (aD b) 0 0 K22 K2) <| sQ 6 (yl (aD b) 3 (kR_ x) (vi x.D) K0 (hS2.c 0)) <| sQ 7 (yM x.B x.D) <| sQ 8 (yd (aD b) 0 0 K19 K2) ?_
 refine sQ 9 (yl (aD b) 0 (kR_ x) (vi x.A) K0 (hS2.c 0)) <| sQ 10 (yd (aD b) 0 0 K21 K2) <| sQ 11 (yl (aD b) 2 (kR_ x) (vi x.C) K0 (hS2.c 0)) <| sQ 12 (yP x.A x.C) <| sQ 13 (yd (aD b) 0 0 K20 K2) <| sQ 14 (yl (aD b) 1 (kR_ x) (vi x.B) K0 (hS2.c 0)) ?_
 refine sQ 15 (yd (aD b) 0 0 K22 K2) <| sQ 16 (yl (aD b) 3 (kR_ x) (vi x.D) K0 (hS2.c 0)) <| sQ 17 (yP x.B x.D) <| sQ 18 (yd (aD b) 0 0 K21 K2) <| sQ 19 (yl (aD b) 2 (kR_ x) (vi x.C) K0 (hS2.c 0)) <| sQ 20 (yd (aD b) 0 0 K19 K2) ?_
 refine sQ 21 (yl (aD b) 0 (kR_ x) (vi x.A) K0 (hS2.c 0)) <| sQ 22 (yM x.C x.A) <| sQ 23 (Y_buildS (zs := [vi 0, vi 0, vi 0, vi 0]) (vs := [(0, vi (i64.wrap (x.B - x.D))), (1, vi (i64.wrap (x.A + x.C))), (2, vi (i64.wrap (x.B + x.D))), (3, vi (i64.wrap (x.C - x.A)))]) (cs := [vi (i64.wrap (x.B - x.D)), vi (i64.wrap (x.A + x.C)), vi (i64.wrap (x.B + x.D)), vi (i64.wrap (x.C - x.A))]) K31 K13 rfl (mpc rfl (mpc rfl (mpc rfl (mpc rfl mpn)))) rfl) ?_
 refine s0 (yT 1 4 (aD b1) 46 (.agg #[vi (i64.wrap (x.B - x.D)), vi (i64.wrap (x.A + x.C)), vi (i64.wrap (x.B + x.D)), vi (i64.wrap (x.C - x.A))]) [vi (i64.wrap (x.B - x.D)), vi (i64.wrap (x.A + x.C)), vi (i64.wrap (x.B + x.D)), vi (i64.wrap (x.C - x.A))] 0 hS2 K5) ?_
 rintro _ w_2 ⟨rfl, hS3⟩
 refine rn (ct_ ?_)
 obtain rfl := sI hF
 exact ret1 Tryz.results113 (v1 := .agg #[vi (i64.wrap (x.B - x.D)), vi (i64.wrap (x.A + x.C)), vi (i64.wrap (x.B + x.D)), vi (i64.wrap (x.C - x.A))]) (resAt_cellA (B := aD b1) (i := 0) (cs := [vi (i64.wrap (x.B - x.D)), vi (i64.wrap (x.A + x.C)), vi (i64.wrap (x.B + x.D)), vi (i64.wrap (x.C - x.A))]) (vs := [vi (i64.wrap (x.B - x.D)), vi (i64.wrap (x.A + x.C)), vi (i64.wrap (x.B + x.D)), vi (i64.wrap (x.C - x.A))]) rfl K10 K5 (hS3.c 1) rfl rfl) ⟨rfl, (hS3.sN [])⟩

theorem c_spec_l1Even (x : TRing)  (w0 : World)  (hS : ST w0 [] w0 [] []) {r_ : Bool} (hF : F_spec_l1Even x = some r_) :
  CV Tryz.prog 123 #[gR_ x] w0 (fun v w' => v = .bool r_ ∧ ST w0 [] w' [] []) := by
 unfold F_spec_l1Even at hF
 refine cv_of_cw 19 Tryz.func123 rfl Tryz.ntmps123 rfl ?_
 refine cq (cr ?_)
 refine sS 1 (yB 46 (gR_ x) (kR_ x) 4 hS) ?_
 rintro _ w_ ⟨b, rfl, hS1⟩
 refine sQ 2 (yg (.bool false)) (rn (cq (cr ?_)))
 refine sQ 3 (yd (aD b) 0 0 K19 K2) <| sQ 4 (yl (aD b) 0 (kR_ x) (vi x.A) K0 (hS1.c 0)) <| sQ 5 (yd (aD b) 0 0 K21 K2) <| sQ 6 (yl (aD b) 2 (kR_ x) (vi x.C) K0 (hS1.c 0)) <| sQ 7 (yP x.A x.C) <| sQ 8 (Y_rem (k := .i64) (a := (i64.wrap (x.A + x.C))) (b := 2) rfl rfl rfl (by decide)) ?_
 refine sQ 9 (yE (Int.tmod (i64.wrap (x.A + x.C)) 2) 0) <| sQ 10 (ym (.bool ((Int.tmod (i64.wrap (x.A + x.C)) 2) == 0))) ?_
 refine sgq 11 (B := ((Int.tmod (i64.wrap (x.A + x.C)) 2) == 0)) (v := pt (aD b) 1) rfl rfl (uT_ 10) (fun hg => (yd (aD b) 0 0 K20 K2)) ?_
 refine sgq 12 (B := ((Int.tmod (i64.wrap (x.A + x.C)) 2) == 0)) (v := vi x.B) rfl rfl (uT_ 10) (fun hg1 => (yl (aD b) 1 (kR_ x) (vi x.B) K0 (hS1.c 0) rfl (gv_of (v := pt (aD b) 1) hg1))) ?_
 refine sgq 13 (B := ((Int.tmod (i64.wrap (x.A + x.C)) 2) == 0)) (v := pt (aD b) 3) rfl rfl (uT_ 10) (fun hg2 => (yd (aD b) 0 0 K22 K2)) ?_
 refine sgq 14 (B := ((Int.tmod (i64.wrap (x.A + x.C)) 2) == 0)) (v := vi x.D) rfl rfl (uT_ 10) (fun hg3 => (yl (aD b) 3 (kR_ x) (vi x.D) K0 (hS1.c 0) rfl (gv_of (v := pt (aD b) 3) hg3))) ?_
 refine sgq 15 (B := ((Int.tmod (i64.wrap (x.A + x.C)) 2) == 0)) (v := vi (i64.wrap (x.B + x.D))) rfl rfl (uT_ 10) (fun hg4 => (yP x.B x.D rfl (gv_of (v := vi x.B) hg4) (gv_of (v := vi x.D) hg4))) ?_
 refine sgq 16 (B := ((Int.tmod (i64.wrap (x.A + x.C)) 2) == 0)) (v := vi (Int.tmod (i64.wrap (x.B + x.D)) 2)) rfl rfl (uT_ 10) (fun hg5 => (Y_rem (k := .i64) (a := (i64.wrap (x.B + x.D))) (b := 2) rfl (gv_of (v := vi (i64.wrap (x.B + x.D))) hg5) rfl (by decide))) ?_
 refine sgq 17 (B := ((Int.tmod (i64.wrap (x.A + x.C)) 2) == 0)) (v := .bool ((Int.tmod (i64.wrap (x.B + x.D)) 2) == 0)) rfl rfl (uT_ 10) (fun hg6 => (yE (Int.tmod (i64.wrap (x.B + x.D)) 2) 0 rfl (gv_of (v := vi (Int.tmod (i64.wrap (x.B + x.D)) 2)) hg6))) ?_
 refine sQ 18 (Y_and (b := ((Int.tmod (i64.wrap (x.A + x.C)) 2) == 0)) (z := ((Int.tmod (i64.wrap (x.B + x.D)) 2) == 0)) rfl rfl rfl rfl) <| sQ 2 (yg (.bool (((Int.tmod (i64.wrap (x.A + x.C)) 2) == 0) && ((Int.tmod (i64.wrap (x.B + x.D)) 2) == 0)))) (rn (ct_ ?_))
 obtain rfl := sI hF
 exact ret1 Tryz.results123 (v1 := .bool (((Int.tmod (i64.wrap (x.A + x.C)) 2) == 0) && ((Int.tmod (i64.wrap (x.B + x.D)) 2) == 0))) (resAt_tmp rfl) ⟨rfl, (hS1.sN [])⟩

theorem c_spec_l1Half (x : TRing)  (w0 : World)  (hS : ST w0 [] w0 [] []) {r_ : TRing} (hF : F_spec_l1Half x = some r_) :
  CV Tryz.prog 124 #[gR_ x] w0 (fun v w' => v = (gR_ r_) ∧ ST w0 [] w' [] []) := by
 unfold F_spec_l1Half at hF
 refine cv_of_cw 19 Tryz.func124 rfl Tryz.ntmps124 rfl ?_
 refine cq (cr ?_)
 refine sS 1 (yB 46 (gR_ x) (kR_ x) 4 hS) ?_
 rintro _ w_ ⟨b, rfl, hS1⟩
 refine sS 2 (yN [vi 0, vi 0, vi 0, vi 0] 4 hS1 K13) ?_
 rintro _ w_1 ⟨b1, rfl, hS2⟩
 refine rn (cq (cr ?_))
 refine sQ 4 (yb (aD b) 0 (kR_ x) K10 K5 (hS2.c 0)) ?_
 obtain ⟨r_1, hc, hF⟩ := bI hF
 refine sc 5 rfl rfl (yC [gR_ x] K80 (c_spec_l1Root x _  (hS2.inn0 [] rfl) hc)) ?_
 rintro _ w_2 ⟨rfl, hd⟩
 have hS3 := hS2.out00 hd
 refine sS 3 (yN [vi 0, vi 0, vi 0, vi 0] 4 hS3 K13) ?_
 rintro _ w_3 ⟨b2, rfl, hS4⟩
 refine s0 (yT 2 4 (aD b2) 46 (gR_ r_1) (kR_ r_1) 0 hS4 K5) ?_
 rintro _ w_4 ⟨rfl, hS5⟩
 refine rn (cq (cr ?_))
 refine sQ 6 (yd (aD b2) 0 0 K19 K2) <| sQ 7 (yl (aD b2) 0 (kR_ r_1) (vi r_1.A) K0 (hS5.c 2)) <| sQ 8 (Y_quo (k := .i64) (a := r_1.A) (b := 2) rfl rfl rfl (by decide)) <| sQ 9 (yd (aD b2) 0 0 K20 K2) <| sQ 10 (yl (aD b2) 1 (kR_ r_1) (vi r_1.B) K0 (hS5.c 2)) <| sQ 11 (Y_quo (k := .i64) (a := r_1.B) (b := 2) rfl rfl rfl (by decide)) ?_
 refine sQ 12 (yd (aD b2) 0 0 K21 K2) <| sQ 13 (yl (aD b2) 2 (kR_ r_1) (vi r_1.C) K0 (hS5.c 2)) <| sQ 14 (Y_quo (k := .i64) (a := r_1.C) (b := 2) rfl rfl rfl (by decide)) <| sQ 15 (yd (aD b2) 0 0 K22 K2) <| sQ 16 (yl (aD b2) 3 (kR_ r_1) (vi r_1.D) K0 (hS5.c 2)) <| sQ 17 (Y_quo (k := .i64) (a := r_1.D) (b := 2) rfl rfl rfl (by decide)) ?_
 refine sQ 18 (Y_buildS (zs := [vi 0, vi 0, vi 0, vi 0]) (vs := [(0, vi (i64.wrap (Int.tdiv r_1.A 2))), (1, vi (i64.wrap (Int.tdiv r_1.B 2))), (2, vi (i64.wrap (Int.tdiv r_1.C 2))), (3, vi (i64.wrap (Int.tdiv r_1.D 2)))]) (cs := [vi (i64.wrap (Int.tdiv r_1.A 2)), vi (i64.wrap (Int.tdiv r_1.B 2)), vi (i64.wrap (Int.tdiv r_1.C 2)), vi (i64.wrap (Int.tdiv r_1.D 2))]) K31 K13 rfl (mpc rfl (mpc rfl (mpc rfl (mpc rfl mpn)))) rfl) ?_
 refine s0 (yT 1 4 (aD b1) 46 (.agg #[vi (i64.wrap (Int.tdiv r_1.A 2)), vi (i64.wrap (Int.tdiv r_1.B 2)), vi (i64.wrap (Int.tdiv r_1.C 2)), vi (i64.wrap (Int.tdiv r_1.D 2))]) [vi (i64.wrap (Int.tdiv r_1.A 2)), vi (i64.wrap (Int.tdiv r_1.B 2)), vi (i64.wrap (Int.tdiv r_1.C 2)), vi (i64.wrap (Int.tdiv r_1.D 2))] 0 hS5 K5) ?_
 rintro _ w_5 ⟨rfl, hS6⟩
 refine rn (ct_ ?_)
 obtain rfl := sI hF
 exact ret1 Tryz.results124 (v1 := .agg #[vi (i64.wrap (Int.tdiv r_1.A 2)), vi (i64.wrap (Int.tdiv r_1.B 2)), vi (i64.wrap (Int.tdiv r_1.C 2)), vi (i64.wrap (Int.tdiv r_1.D 2))]) (resAt_cellA (B := aD b1) (i := 0) (cs := [vi (i64.wrap (Int.tdiv r_1.A 2)), vi (i64.wrap (Int.tdiv r_1.B 2)), vi (i64.wrap (Int.tdiv r_1.C 2)), vi (i64.wrap (Int.tdiv r_1.D 2))]) (vs := [vi (i64.wrap (Int.tdiv r_1.A 2)), vi (i64.wrap (Int.tdiv r_1.B 2)), vi (i64.wrap (Int.tdiv r_1.C 2)), vi (i64.wrap (Int.tdiv r_1.D 2))]) rfl K10 K5 (hS6.c 1) rfl rfl) ⟨rfl, (hS6.sN [])⟩

theorem c_spec_l2Low (num : TRing) (exp : Int)  (w0 : World)  (hS : ST w0 [] w0 [] []) {r_ : TDyadic} (hF : F_spec_l2Low num exp = some r_) :
  CV Tryz.prog 114 #[gR_ num, vi exp] w0 (fun v w' => v = (gD_ r_) ∧ ST w0 [] w' [] []) := by
 unfold F_spec_l2Low at hF
 refine cv_of_cw 18 Tryz.func114 rfl Tryz.ntmps114 rfl ?_
 refine cq (cr ?_)
 refine sS 2 (yB 46 (gR_ num) (kR_ num) 4 hS) ?_
 rintro _ w_ ⟨b, rfl, hS1⟩
 refine sS 4 (yN kZ_ 5 hS1 K6) ?_
 rintro _ w_1 ⟨b1, rfl, hS2⟩
 refine rn (cq ?_)
 obtain ⟨z, hz, hF1⟩ := bI hF
 refine cw_block ?_
 refine cw_loop (fun k f w => ∃ (exp1 : Int) (A : Int) (B : Int) (C : Int) (D : Int), FF f [(1, vi exp1), (2, pt (aD b) 0), (4, pt (aD b1) 0)] ∧ ST w0 [] w [⟨aD b, 46, [vi A, vi B, vi C, vi D], 4⟩, ⟨aD b1, 48, kZ_, 5⟩] [] ∧ whX F_spec_l2Low_l1 k (exp1, A, B, C, D) = some z) fuel ⟨exp, num.A, num.B, num.C, num.D, (fc rfl (fc rfl (fc rfl fn_))), (hS2.sel [0, 1] rfl rfl), hz⟩ ?_
 rintro k_ f w ⟨exp1, A, B, C, D, hf, hS3, hL⟩
 obtain ⟨K7, y, rfl, hb, hL1⟩ := whX_go hL
 unfold F_spec_l2Low_l1 at hb
 refine cq (cq (cr ?_))
 refine sQ 5 (ym (vi exp1) rfl (hf.g 1 0)) <| sQ 6 (Y_gt (k := .i64) (a := exp1) (b := 0) rfl rfl rfl) <| sQ 7 (ym (.bool (decide (0 < exp1)))) ?_
 refine sgq 8 (B := (decide (0 < exp1))) (v := .agg #[vi A, vi B, vi C, vi D]) rfl rfl (uT_ 7) (fun hg => (yb (aD b) 0 [vi A, vi B, vi C, vi D] K10 K5 (hS3.c 0) rfl (hf.g 2 1))) ?_
 obtain ⟨r_1, hc, hb⟩ := bI hb
 refine sgc 9 (B := (decide (0 < exp1))) (v := .bool r_1) (F := hS3.fn) rfl rfl (uT_ 7) hS3 (fun hg1 => (yC [.agg #[vi A, vi B, vi C, vi D]] k_call_123 (CV.mono (c_spec_l1Even (TRing.mk A B C D) _  (hS3.inn0 [] rfl) (gb_inv hc hg1)) (by rintro _ _ ⟨rfl, h⟩; exact ⟨rfl, hS3.out00 h⟩)) rfl (mc (gv_of (v := .agg #[vi A, vi B, vi C, vi D]) hg1) mn))) ?_
 rintro w_2 hS4
 refine sQ 10 (Y_and (b := (decide (0 < exp1))) (z := r_1) rfl rfl rfl rfl) (rn ?_)
 refine cw_cond (b := ((decide (0 < exp1)) && r_1)) rfl (fun hb1 => ?_) (fun hb1 => ?_)
 ·skip
  have hF2 := ct hb hb1
  refine cw_skip (cw_block (cq (cr ?_)))
  refine sQ 11 (yb (aD b) 0 [vi A, vi B, vi C, vi D] K10 K5 (hS4.c 0) rfl (hf.g 2 1)) ?_
  obtain ⟨r_2, hc1, hF2⟩ := bI hF2
  refine sc 12 rfl rfl (yC [.agg #[vi A, vi B, vi C, vi D]] k_call_124 (c_spec_l1Half (TRing.mk A B C D) _  (hS4.inn0 [] rfl) hc1)) ?_
  rintro _ w_3 ⟨rfl, hd⟩
  have hS5 := hS4.out00 hd
  refine s0 (yT 0 4 (aD b) 46 (gR_ r_2) (kR_ r_2) 0 hS5 K5 rfl (hf.g 2 1)) ?_
  rintro _ w_4 ⟨rfl, hS6⟩
  refine rn (cr ?_)
  refine sQ 13 (ym (vi exp1) rfl (hf.g 1 0)) <| sQ 14 (yM exp1 1) <| sQ 1 (yg (vi (i64.wrap (exp1 - 1)))) (rn ?_)
  obtain rfl := sI hF2
  exact ⟨K7, Nat.lt_succ_self _, (i64.wrap (exp1 - 1)), r_2.A, r_2.B, r_2.C, r_2.D, (fc rfl (fc (hf.g 2 1) (fc (hf.g 4 2) fn_))), (hS6.sel [0, 1] rfl rfl), hL1⟩
 ·skip
  have hF3 := cf' hb hb1
  refine cw_exit rfl ?_
  obtain rfl := sI hF3
  obtain rfl := sI hL1
  refine cq (cr ?_)
  refine sQ 15 (yb (aD b) 0 [vi A, vi B, vi C, vi D] K10 K5 (hS4.c 0) rfl (hf.g 2 1)) <| sQ 16 (ym (vi exp1) rfl (hf.g 1 0)) <| sQ 17 (Y_buildS (zs := kZ_) (vs := [(0, .agg #[vi A, vi B, vi C, vi D]), (1, vi exp1)]) (cs := [vi A, vi B, vi C, vi D, vi exp1]) K18 K6 rfl (mpc rfl (mpc rfl mpn)) rfl) ?_
  refine s0 (yT 1 5 (aD b1) 48 (.agg #[vi A, vi B, vi C, vi D, vi exp1]) [vi A, vi B, vi C, vi D, vi exp1] 0 hS4 K1 rfl (hf.g 4 2)) ?_
  rintro _ w_5 ⟨rfl, hS7⟩
  refine rn (ct_ ?_)
  obtain rfl := sI hF1
  exact ret1 Tryz.results114 (v1 := .agg #[vi A, vi B, vi C, vi D, vi exp1]) (resAt_cellA (B := aD b1) (i := 0) (cs := [vi A, vi B, vi C, vi D, vi exp1]) (vs := [vi A, vi B, vi C, vi D, vi exp1]) (hf.g 4 2) K4 K1 (hS7.c 1) rfl rfl) ⟨rfl, (hS7.sN [])⟩

theorem c_spec_l1Add (x : TRing) (y : TRing)  (w0 : World)  (hS : ST w0 [] w0 [] []) {r_ : TRing} (hF : F_spec_l1Add x y = some r_) :
  CV Tryz.prog 115 #[gR_ x, gR_ y] w0 (fun v w' => v = (gR_ r_) ∧ ST w0 [] w' [] []) := by
 unfold F_spec_l1Add at hF
 refine cv_of_cw 26 Tryz.func115 rfl Tryz.ntmps115 rfl ?_
 refine cq (cr ?_)
 refine sS 2 (yB 46 (gR_ x) (kR_ x) 4 hS) ?_
 rintro _ w_ ⟨b, rfl, hS1⟩
 refine sS 3 (yB 46 (gR_ y) (kR_ y) 4 hS1) ?_
 rintro _ w_1 ⟨b1, rfl, hS2⟩
 refine sS 4 (yN [vi 0, vi 0, vi 0, vi 0] 4 hS2 K13) ?_
 rintro _ w_2 ⟨b2, rfl, hS3⟩
 refine rn (cq (cr ?_))
 refine sQ 5 (yd (aD b) 0 0 K19 K2) <| sQ 6 (yl (aD b) 0 (kR_ x) (vi x.A) K0 (hS3.c 0)) <| sQ 7 (yd (aD b1) 0 0 K19 K2) <| sQ 8 (yl (aD b1) 0 (kR_ y) (vi y.A) K0 (hS3.c 1)) <| sQ 9 (yP x.A y.A) <| sQ 10 (yd (aD b) 0 0 K20 K2) ?_
 refine sQ 11 (yl (aD b) 1 (kR_ x) (vi x.B) K0 (hS3.c 0)) <| sQ 12 (yd (aD b1) 0 0 K20 K2) <| sQ 13 (yl (aD b1) 1 (kR_ y) (vi y.B) K0 (hS3.c 1)) <| sQ 14 (yP x.B y.B) <| sQ 15 (yd (aD b) 0 0 K21 K2) <| sQ 16 (yl (aD b) 2 (kR_ x) (vi x.C) K0 (hS3.c 0)) ?_
 refine sQ 17 (yd (aD b1) 0 0 K21 K2) <| sQ 18 (yl (aD b1) 2 (kR_ y) (vi y.C) K0 (hS3.c 1)) <| sQ 19 (yP x.C y.C) <| sQ 20 (yd (aD b) 0 0 K22 K2) <| sQ 21 (yl (aD b) 3 (kR_ x) (vi x.D) K0 (hS3.c 0)) <| sQ 22 (yd (aD b1) 0 0 K22 K2) ?_
 refine sQ 23 (yl (aD b1) 3 (kR_ y) (vi y.D) K0 (hS3.c 1)) <| sQ 24 (yP x.D y.D) <| sQ 25 (Y_buildS (zs := [vi 0, vi 0, vi 0, vi 0]) (vs := [(0, vi (i64.wrap (x.A + y.A))), (1, vi (i64.wrap (x.B + y.B))), (2, vi (i64.wrap (x.C + y.C))), (3, vi (i64.wrap (x.D + y.D)))]) (cs := [vi (i64.wrap (x.A + y.A)), vi (i64.wrap (x.B + y.B)), vi (i64.wrap (x.C + y.C)), vi (i64.wrap (x.D + y.D))]) K31 K13 rfl (mpc rfl (mpc rfl (mpc rfl (mpc rfl mpn)))) rfl) ?_
 refine s0 (yT 2 4 (aD b2) 46 (.agg #[vi (i64.wrap (x.A + y.A)), vi (i64.wrap (x.B + y.B)), vi (i64.wrap (x.C + y.C)), vi (i64.wrap (x.D + y.D))]) [vi (i64.wrap (x.A + y.A)), vi (i64.wrap (x.B + y.B)), vi (i64.wrap (x.C + y.C)), vi (i64.wrap (x.D + y.D))] 0 hS3 K5) ?_
 rintro _ w_3 ⟨rfl, hS4⟩
 refine rn (ct_ ?_)
 obtain rfl := sI hF
 exact ret1 Tryz.results115 (v1 := .agg #[vi (i64.wrap (x.A + y.A)), vi (i64.wrap (x.B + y.B)), vi (i64.wrap (x.C + y.C)), vi (i64.wrap (x.D + y.D))]) (resAt_cellA (B := aD b2) (i := 0) (cs := [vi (i64.wrap (x.A + y.A)), vi (i64.wrap (x.B + y.B)), vi (i64.wrap (x.C + y.C)), vi (i64.wrap (x.D + y.D))]) (vs := [vi (i64.wrap (x.A + y.A)), vi (i64.wrap (x.B + y.B)), vi (i64.wrap (x.C + y.C)), vi (i64.wrap (x.D + y.D))]) rfl K10 K5 (hS4.c 2) rfl rfl) ⟨rfl, (hS4.sN [])⟩
end Go.VK
