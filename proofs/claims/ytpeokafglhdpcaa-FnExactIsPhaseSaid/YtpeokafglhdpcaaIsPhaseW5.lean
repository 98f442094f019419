/- Walks: each Go function returns what its Lean function says. By program. -/
import Derived.Test.YtpeokafglhdpcaaIsPhaseFa
import Derived.Test.YtpeokafglhdpcaaIsPhaseW4
set_option linter.unusedVariables false
set_option maxRecDepth 100000
set_option maxHeartbeats 1000000
namespace Go.VK
open Go.RowKit
open Go.Proofs
attribute [local irreducible] CW RW RA CV Y Yw Yc Ys RetOf
attribute [local irreducible] F_laws_szGateS F_laws_szCircuit F_laws_toGate F_laws_toGateS F_laws_toCircuit F_laws_eqGate F_laws_eqGateS F_laws_eqCircuit F_spec_l1Turn F_spec_l2Power F_spec_l3Unit F_spec_l1In F_spec_l4Gate F_spec_l4Good F_spec_l2C_matrix F_spec_l1All F_spec_l1Good F_spec_l2C_ring F_spec_l1Root F_spec_l1Even F_spec_l1Half F_spec_l2Low F_spec_l1Add F_spec_l2C_add F_spec_l1Mul F_spec_l2C_mul F_spec_l2C_times F_spec_l6Bit F_spec_l1Neg F_spec_l2Neg F_spec_l6One F_spec_l6Cell F_spec_l6Gate F_spec_l2C_run F_spec_OperatorOf F_spec_l6Turned F_spec_l6Phase F_spec_IsPhase F_impl_within F_impl_isDim F_impl_matrixOf F_impl_whole F_impl_IdentityMatrix_1 F_impl_IdentityMatrix F_slices_IndexFunc_impl_Gate_impl_Gate F_slices_ContainsFunc_impl_Gate_impl_Gate F_impl_isTwo F_impl_IsValidGate F_impl_IsValidCircuit_1 F_impl_IsValidCircuit F_slices_IndexFunc_impl_Dyadic_impl_Dyadic F_slices_ContainsFunc_impl_Dyadic_impl_Dyadic F_impl_isCoef F_impl_IsValidRing F_impl_isEven F_impl_IsValidDyadic F_impl_IsValidMatrix_1 F_impl_IsValidMatrix F_impl_ringIf F_impl_DivRootTwo F_impl_DyadicOf F_impl_MulRootTwo F_impl_raised F_impl_combined F_impl_AddRing F_impl_AddDyadic F_impl_MulRing F_impl_MulDyadic F_impl_Matrix_at F_impl_MulMatrix_1 F_impl_MulMatrix F_impl_bitOf F_impl_MulOmega F_impl_phase F_impl_small F_impl_flipped F_impl_comesFrom F_impl_entry F_impl_GateMatrix_1 F_impl_GateMatrix F_impl_applied F_impl_OperatorOf F_slices_Equal_impl_Dyadic_impl_Dyadic F_impl_EqualMatrices F_impl_ScaleMatrix_1 F_impl_ScaleMatrix F_impl_EqualUpToPhase F_impl_IsPhase F_laws_FnExactIsPhase
theorem c_impl_EqualMatrices (a : TMatrix) (b : TMatrix) (B : Option Addr) (c n : Nat) (B1 : Option Addr) (c1 n1 : Nat) (w0 : World) (hn : a.Cells.length = n) (hn1 : b.Cells.length = n1) (hS : ST w0 [] w0 [] [⟨B, (a.Cells.flatMap enc_Dyadic)⟩, ⟨B1, (b.Cells.flatMap enc_Dyadic)⟩]) {r_ : Bool} (hF : F_impl_EqualMatrices a b = some r_) :
    CV Try.prog 100 #[.agg #[.int .i64 a.Rows, .int .i64 a.Cols, .slice B n c], .agg #[.int .i64 b.Rows, .int .i64 b.Cols, .slice B1 n1 c1]] w0 (fun v w' => v = .bool r_ ∧ ST w0 [] w' [] []) := by
  subst hn
  subst hn1
  unfold F_impl_EqualMatrices at hF
  refine cv_of_cw 24 Try.func100 rfl Try.ntmps100 rfl ?_
  refine cw_seq ?_
  refine cw_region ?_
  refine ss 2 rfl rfl (Ys_box (T := 26) (v := .agg #[.int .i64 a.Rows, .int .i64 a.Cols, .slice B a.Cells.length c]) (cs := [.int .i64 a.Rows, .int .i64 a.Cols, .slice B a.Cells.length c]) (m := 3) hS rfl rfl rfl rfl) ?_
  rintro _ w_ ⟨b1, rfl, hS1⟩
  refine ss 3 rfl rfl (Ys_box (T := 26) (v := .agg #[.int .i64 b.Rows, .int .i64 b.Cols, .slice B1 b.Cells.length c1]) (cs := [.int .i64 b.Rows, .int .i64 b.Cols, .slice B1 b.Cells.length c1]) (m := 3) hS1 rfl rfl rfl rfl) ?_
  rintro _ w_1 ⟨b2, rfl, hS2⟩
  have hS2 : ST w0 [] _ [⟨some ⟨b1, 0, none⟩, 26, [.int .i64 a.Rows, .int .i64 a.Cols, .slice B a.Cells.length c], 3⟩, ⟨some ⟨b2, 0, none⟩, 26, [.int .i64 b.Rows, .int .i64 b.Cols, .slice B1 b.Cells.length c1], 3⟩] [⟨B, (a.Cells.flatMap enc_Dyadic)⟩, ⟨B1, (b.Cells.flatMap enc_Dyadic)⟩] := hS2
  refine sq 4 rfl rfl (Y_assign (v := .bool false) rfl rfl) ?_
  refine rw_nil ?_
  refine cw_seq ?_
  refine cw_region ?_
  refine sq 5 rfl rfl (Y_fieldAddr (B := some ⟨b1, 0, none⟩) (i := 0) (s := 0) k_fd_26_0_0_3 k_sz_3_1 rfl rfl) ?_
  refine sq 6 rfl rfl (Y_load1 (B := some ⟨b1, 0, none⟩) (i := 0) (cs := [.int .i64 a.Rows, .int .i64 a.Cols, .slice B a.Cells.length c]) (v := .int .i64 a.Rows) k_sc_3 rfl rfl (hS2.cf (i := 0) rfl) rfl) ?_
  refine sq 7 rfl rfl (Y_fieldAddr (B := some ⟨b2, 0, none⟩) (i := 0) (s := 0) k_fd_26_0_0_3 k_sz_3_1 rfl rfl) ?_
  refine sq 8 rfl rfl (Y_load1 (B := some ⟨b2, 0, none⟩) (i := 0) (cs := [.int .i64 b.Rows, .int .i64 b.Cols, .slice B1 b.Cells.length c1]) (v := .int .i64 b.Rows) k_sc_3 rfl rfl (hS2.cf (i := 1) rfl) rfl) ?_
  refine sq 9 rfl rfl (Y_eq (k := .i64) (a := a.Rows) (b := b.Rows) rfl rfl rfl) ?_
  refine sq 10 rfl rfl (Y_move (v := .bool (a.Rows == b.Rows)) rfl rfl) ?_
  refine sgq 11 (B := (a.Rows == b.Rows)) (v := pt (some ⟨b1, 0, none⟩) 1) rfl rfl (wt_t (gd_of (t := 10) (by kernel_rfl) rfl)) (fun hg => (Y_fieldAddr (B := some ⟨b1, 0, none⟩) (i := 0) (s := 0) k_fd_26_1_1_3 k_sz_3_1 rfl rfl)) ?_
  refine sgq 12 (B := (a.Rows == b.Rows)) (v := .int .i64 a.Cols) rfl rfl (wt_t (gd_of (t := 10) (by kernel_rfl) rfl)) (fun hg1 => (Y_load1 (B := some ⟨b1, 0, none⟩) (i := 1) (cs := [.int .i64 a.Rows, .int .i64 a.Cols, .slice B a.Cells.length c]) (v := .int .i64 a.Cols) k_sc_3 rfl (gv_of (B := (a.Rows == b.Rows)) (v := pt (some ⟨b1, 0, none⟩) 1) hg1) (hS2.cf (i := 0) rfl) rfl)) ?_
  refine sgq 13 (B := (a.Rows == b.Rows)) (v := pt (some ⟨b2, 0, none⟩) 1) rfl rfl (wt_t (gd_of (t := 10) (by kernel_rfl) rfl)) (fun hg2 => (Y_fieldAddr (B := some ⟨b2, 0, none⟩) (i := 0) (s := 0) k_fd_26_1_1_3 k_sz_3_1 rfl rfl)) ?_
  refine sgq 14 (B := (a.Rows == b.Rows)) (v := .int .i64 b.Cols) rfl rfl (wt_t (gd_of (t := 10) (by kernel_rfl) rfl)) (fun hg3 => (Y_load1 (B := some ⟨b2, 0, none⟩) (i := 1) (cs := [.int .i64 b.Rows, .int .i64 b.Cols, .slice B1 b.Cells.length c1]) (v := .int .i64 b.Cols) k_sc_3 rfl (gv_of (B := (a.Rows == b.Rows)) (v := pt (some ⟨b2, 0, none⟩) 1) hg3) (hS2.cf (i := 1) rfl) rfl)) ?_
  refine sgq 15 (B := (a.Rows == b.Rows)) (v := .bool (a.Cols == b.Cols)) rfl rfl (wt_t (gd_of (t := 10) (by kernel_rfl) rfl)) (fun hg4 => (Y_eq (k := .i64) (a := a.Cols) (b := b.Cols) rfl (gv_of (B := (a.Rows == b.Rows)) (v := .int .i64 a.Cols) hg4) (gv_of (B := (a.Rows == b.Rows)) (v := .int .i64 b.Cols) hg4))) ?_
  refine sq 16 rfl rfl (Y_and (b := (a.Rows == b.Rows)) (z := (a.Cols == b.Cols)) rfl rfl rfl rfl) ?_
  refine sq 17 rfl rfl (Y_move (v := .bool ((a.Rows == b.Rows) && (a.Cols == b.Cols))) rfl rfl) ?_
  refine sgq 18 (B := ((a.Rows == b.Rows) && (a.Cols == b.Cols))) (v := pt (some ⟨b1, 0, none⟩) 2) rfl rfl (wt_t (gd_of (t := 17) (by kernel_rfl) rfl)) (fun hg5 => (Y_fieldAddr (B := some ⟨b1, 0, none⟩) (i := 0) (s := 0) k_fd_26_2_2_24 k_sz_24_1 rfl rfl)) ?_
  refine sgq 19 (B := ((a.Rows == b.Rows) && (a.Cols == b.Cols))) (v := .slice B a.Cells.length c) rfl rfl (wt_t (gd_of (t := 17) (by kernel_rfl) rfl)) (fun hg6 => (Y_load1 (B := some ⟨b1, 0, none⟩) (i := 2) (cs := [.int .i64 a.Rows, .int .i64 a.Cols, .slice B a.Cells.length c]) (v := .slice B a.Cells.length c) k_sc_24 rfl (gv_of (B := ((a.Rows == b.Rows) && (a.Cols == b.Cols))) (v := pt (some ⟨b1, 0, none⟩) 2) hg6) (hS2.cf (i := 0) rfl) rfl)) ?_
  refine sgq 20 (B := ((a.Rows == b.Rows) && (a.Cols == b.Cols))) (v := pt (some ⟨b2, 0, none⟩) 2) rfl rfl (wt_t (gd_of (t := 17) (by kernel_rfl) rfl)) (fun hg7 => (Y_fieldAddr (B := some ⟨b2, 0, none⟩) (i := 0) (s := 0) k_fd_26_2_2_24 k_sz_24_1 rfl rfl)) ?_
  refine sgq 21 (B := ((a.Rows == b.Rows) && (a.Cols == b.Cols))) (v := .slice B1 b.Cells.length c1) rfl rfl (wt_t (gd_of (t := 17) (by kernel_rfl) rfl)) (fun hg8 => (Y_load1 (B := some ⟨b2, 0, none⟩) (i := 2) (cs := [.int .i64 b.Rows, .int .i64 b.Cols, .slice B1 b.Cells.length c1]) (v := .slice B1 b.Cells.length c1) k_sc_24 rfl (gv_of (B := ((a.Rows == b.Rows) && (a.Cols == b.Cols))) (v := pt (some ⟨b2, 0, none⟩) 2) hg8) (hS2.cf (i := 1) rfl) rfl)) ?_
  obtain ⟨r_1, hc, hF⟩ := bind_inv hF
  refine sgc 22 (B := ((a.Rows == b.Rows) && (a.Cols == b.Cols))) (v := .bool r_1) (F := hS2.fn) rfl rfl (wt_t (gd_of (t := 17) (by kernel_rfl) rfl)) hS2 (fun hg9 => (Yc_func (g := 173) (vs := [.slice B a.Cells.length c, .slice B1 b.Cells.length c1]) k_call_173 rfl (mc (gv_of (B := ((a.Rows == b.Rows) && (a.Cols == b.Cols))) (v := .slice B a.Cells.length c) hg9) (mc (gv_of (B := ((a.Rows == b.Rows) && (a.Cols == b.Cols))) (v := .slice B1 b.Cells.length c1) hg9) mn)) (CV.mono (c_slices_Equal_impl_Dyadic_impl_Dyadic a.Cells b.Cells B c a.Cells.length B1 c1 b.Cells.length _ rfl rfl (hS2.inn0 [(true, 0), (true, 1)] rfl) (gb_inv hc hg9)) (by rintro _ _ ⟨rfl, h⟩; exact ⟨rfl, hS2.out00 h⟩)))) ?_
  rintro w_2 hS3
  have hS3 : ST _ _ w_2 _ _ := hS3
  refine sq 23 rfl rfl (Y_and (b := ((a.Rows == b.Rows) && (a.Cols == b.Cols))) (z := r_1) rfl rfl rfl rfl) ?_
  refine sq 4 rfl rfl (Y_assign (v := .bool (((a.Rows == b.Rows) && (a.Cols == b.Cols)) && r_1)) rfl rfl) ?_
  refine rw_nil ?_
  refine cw_ret ?_
  obtain rfl := some_inj hF
  exact ret1 Try.results100 (v1 := .bool (((a.Rows == b.Rows) && (a.Cols == b.Cols)) && r_1)) (resAt_tmp rfl) ⟨rfl, (ST.subR (R' := []) (hS3.sel [] rfl rfl) (fun _ h => by cases h))⟩

theorem c_impl_ScaleMatrix_1 (i : Int) (j : Int) (p : TMatrix) (p1 : TDyadic) (B : Option Addr) (B1 : Option Addr) (c n : Nat) (B2 : Option Addr) (w0 : World) (hn : p.Cells.length = n) (hS : ST w0 [] w0 [] [⟨B, [.int .i64 p.Rows, .int .i64 p.Cols, .slice B1 p.Cells.length c]⟩, ⟨B1, (p.Cells.flatMap enc_Dyadic)⟩, ⟨B2, [.int .i64 p1.Num.A, .int .i64 p1.Num.B, .int .i64 p1.Num.C, .int .i64 p1.Num.D, .int .i64 p1.Exp]⟩]) {r_ : TDyadic} {r_1 : Bool} (hF : F_impl_ScaleMatrix_1 i j p p1 = some (r_, r_1)) :
    CV Try.prog 241 #[.int .i64 i, .int .i64 j, pt B 0, pt B2 0] w0 (fun v w' => v = .tuple #[.agg #[.int .i64 r_.Num.A, .int .i64 r_.Num.B, .int .i64 r_.Num.C, .int .i64 r_.Num.D, .int .i64 r_.Exp], .bool r_1] ∧ ST w0 [] w' [] []) := by
  subst hn
  unfold F_impl_ScaleMatrix_1 at hF
  refine cv_of_cw 16 Try.func241 rfl Try.ntmps241 rfl ?_
  refine cw_seq ?_
  refine cw_region ?_
  refine ss 6 rfl rfl (Ys_alloc (T := 83) (cs := [.int .i64 0, .int .i64 0, .int .i64 0, .int .i64 0, .int .i64 0]) (m := 5) hS k_zero_83 rfl rfl rfl) ?_
  rintro _ w_ ⟨b, rfl, hS1⟩
  refine sq 7 rfl rfl (Y_assign (v := .bool false) rfl rfl) ?_
  refine rw_nil ?_
  refine cw_seq ?_
  obtain ⟨r_2, hc, hF⟩ := bind_inv hF
  obtain ⟨⟨r_3, r_4⟩, hc1, hF⟩ := bind_inv hF
  refine ra_start (ST.sel hS1 [] rfl rfl).fn (by kernel_rfl) ?_
  have hS4 := hS1.drew
  refine ra_q 0 8 (v := .agg #[.int .i64 p.Rows, .int .i64 p.Cols, .slice B1 p.Cells.length c]) rfl rfl rfl (by kernel_rfl) (by kernel_rfl) (by kernel_rfl) (ST.sel hS4 [] rfl rfl) (fun w' hw' => (Y_loadA (B := B) (i := 0) (cs := [.int .i64 p.Rows, .int .i64 p.Cols, .slice B1 p.Cells.length c]) (vs := [.int .i64 p.Rows, .int .i64 p.Cols, .slice B1 p.Cells.length c]) k_ag_26 k_sz_26_3 rfl rfl (ST.rf hw' (i := 0) rfl) rfl rfl)) ?_
  refine ra_q 1 9 (v := .int .i64 i) rfl rfl rfl (by kernel_rfl) (by kernel_rfl) (by kernel_rfl) (ST.sel hS4 [] rfl rfl) (fun w' hw' => (Y_move (v := .int .i64 i) rfl rfl)) ?_
  refine ra_q 2 10 (v := .int .i64 j) rfl rfl rfl (by kernel_rfl) (by kernel_rfl) (by kernel_rfl) (ST.sel hS4 [] rfl rfl) (fun w' hw' => (Y_move (v := .int .i64 j) rfl rfl)) ?_
  refine ra_q 4 12 (v := .agg #[.int .i64 p1.Num.A, .int .i64 p1.Num.B, .int .i64 p1.Num.C, .int .i64 p1.Num.D, .int .i64 p1.Exp]) rfl rfl rfl (by kernel_rfl) (by kernel_rfl) (by kernel_rfl) (ST.sel hS4 [] rfl rfl) (fun w' hw' => (Y_loadA (B := B2) (i := 0) (cs := [.int .i64 p1.Num.A, .int .i64 p1.Num.B, .int .i64 p1.Num.C, .int .i64 p1.Num.D, .int .i64 p1.Exp]) (vs := [.int .i64 p1.Num.A, .int .i64 p1.Num.B, .int .i64 p1.Num.C, .int .i64 p1.Num.D, .int .i64 p1.Exp]) k_ag_83 k_sz_83_5 rfl rfl (ST.rf hw' (i := 2) rfl) rfl rfl)) ?_
  refine ra_all (rs := [3]) (by kernel_rfl) rfl ?_
  refine ra_c 11 (i := 3) rfl rfl rfl (Yc_func (g := 147) (vs := [.agg #[.int .i64 p.Rows, .int .i64 p.Cols, .slice B1 p.Cells.length c], .int .i64 i, .int .i64 j]) k_call_147 rfl (mc rfl (mc rfl (mc rfl mn))) (c_impl_Matrix_at p i j B1 c p.Cells.length _ rfl (hS4.inn0 [(true, 1)] rfl) hc)) ?_ ?_
  · rintro _ w_1 ⟨rfl, hd⟩
    have hS5 := hS4.out00 hd
    refine ⟨(ST.sel hS5 [] rfl rfl), ?_⟩
    refine ra_all (rs := [5]) (by kernel_rfl) rfl ?_
    refine ra_c 13 (i := 5) rfl rfl rfl (Yc_func (g := 146) (vs := [.agg #[.int .i64 r_2.Num.A, .int .i64 r_2.Num.B, .int .i64 r_2.Num.C, .int .i64 r_2.Num.D, .int .i64 r_2.Exp], .agg #[.int .i64 p1.Num.A, .int .i64 p1.Num.B, .int .i64 p1.Num.C, .int .i64 p1.Num.D, .int .i64 p1.Exp]]) k_call_146 rfl (mc rfl (mc rfl mn)) (c_impl_MulDyadic r_2 p1 _  (hS5.inn0 [] rfl) hc1)) ?_ ?_
    · rintro _ w_2 ⟨rfl, hd1⟩
      have hS6 := hS5.out00 hd1
      refine ⟨(ST.sel hS6 [] rfl rfl), ?_⟩
      refine ra_q 6 14 (v := .agg #[.int .i64 r_3.Num.A, .int .i64 r_3.Num.B, .int .i64 r_3.Num.C, .int .i64 r_3.Num.D, .int .i64 r_3.Exp]) rfl rfl rfl (by kernel_rfl) (by kernel_rfl) (by kernel_rfl) (ST.sel hS6 [] rfl rfl) (fun w' hw' => (Y_extract (v := .agg #[.int .i64 r_3.Num.A, .int .i64 r_3.Num.B, .int .i64 r_3.Num.C, .int .i64 r_3.Num.D, .int .i64 r_3.Exp]) rfl rfl rfl)) ?_
      refine ra_q 7 15 (v := .bool r_4) rfl rfl rfl (by kernel_rfl) (by kernel_rfl) (by kernel_rfl) (ST.sel hS6 [] rfl rfl) (fun w' hw' => (Y_extract (v := .bool r_4) rfl rfl rfl)) ?_
      refine ra_all (rs := [8]) (by kernel_rfl) rfl ?_
      refine ra_s0 (i := 8) rfl rfl rfl (Ys_store (i := 0) (s := 5) (B := some ⟨b, 0, none⟩) (T' := 83) (v := .agg #[.int .i64 r_3.Num.A, .int .i64 r_3.Num.B, .int .i64 r_3.Num.C, .int .i64 r_3.Num.D, .int .i64 r_3.Exp]) (vs := [.int .i64 r_3.Num.A, .int .i64 r_3.Num.B, .int .i64 r_3.Num.C, .int .i64 r_3.Num.D, .int .i64 r_3.Exp]) (k := 0) (cs' := [.int .i64 r_3.Num.A, .int .i64 r_3.Num.B, .int .i64 r_3.Num.C, .int .i64 r_3.Num.D, .int .i64 r_3.Exp]) hS6 k_sz_83_5 rfl rfl rfl rfl rfl rfl rfl (Nat.le_of_ble_eq_true rfl) rfl rfl) ?_ ?_
      · rintro _ w_3 ⟨rfl, hS7⟩
        refine ⟨(ST.sel hS7 [] rfl rfl), ?_⟩
        refine ra_q 9 7 (v := .bool r_4) rfl rfl rfl (by kernel_rfl) (by kernel_rfl) (by kernel_rfl) (ST.sel hS7 [] rfl rfl) (fun w' hw' => (Y_assign (v := .bool r_4) rfl rfl)) ?_
        refine ra_done (by kernel_rfl) ?_
        refine cw_ret ?_
        obtain ⟨rfl, rfl⟩ := pr2 (some_inj hF)
        exact ret2 Try.results241 (v1 := .agg #[.int .i64 r_3.Num.A, .int .i64 r_3.Num.B, .int .i64 r_3.Num.C, .int .i64 r_3.Num.D, .int .i64 r_3.Exp]) (resAt_cellA (B := some ⟨b, 0, none⟩) (i := 0) (cs := [.int .i64 r_3.Num.A, .int .i64 r_3.Num.B, .int .i64 r_3.Num.C, .int .i64 r_3.Num.D, .int .i64 r_3.Exp]) (vs := [.int .i64 r_3.Num.A, .int .i64 r_3.Num.B, .int .i64 r_3.Num.C, .int .i64 r_3.Num.D, .int .i64 r_3.Exp]) rfl k_ag_83 k_sz_83_5 (hS7.cf (i := 0) rfl) rfl rfl) (v2 := .bool r_4) (resAt_tmp rfl) ⟨rfl, (ST.subR (R' := []) (hS7.sel [] rfl rfl) (fun _ h => by cases h))⟩
      exact allR_nil
    exact allR_nil
  exact allR_nil

theorem c_impl_ScaleMatrix (m : TMatrix) (x : TDyadic) (B : Option Addr) (c n : Nat) (w0 : World) (hn : m.Cells.length = n) (hS : ST w0 [] w0 [] [⟨B, (m.Cells.flatMap enc_Dyadic)⟩]) {r_ : TMatrix} {r_1 : Bool} (hF : F_impl_ScaleMatrix m x = some (r_, r_1)) :
    CV Try.prog 175 #[.agg #[.int .i64 m.Rows, .int .i64 m.Cols, .slice B n c], .agg #[.int .i64 x.Num.A, .int .i64 x.Num.B, .int .i64 x.Num.C, .int .i64 x.Num.D, .int .i64 x.Exp]] w0 (fun v w' => ∃ (B1 : Option Addr) (c1 : Nat), v = .tuple #[.agg #[.int .i64 r_.Rows, .int .i64 r_.Cols, .slice B1 r_.Cells.length c1], .bool r_1] ∧ ST w0 [] w' [⟨B1, 83, (r_.Cells.flatMap enc_Dyadic), c1 * 5⟩] []) := by
  subst hn
  unfold F_impl_ScaleMatrix at hF
  refine cv_of_cw 23 Try.func175 rfl Try.ntmps175 rfl ?_
  refine cw_seq ?_
  refine cw_region ?_
  refine ss 2 rfl rfl (Ys_box (T := 26) (v := .agg #[.int .i64 m.Rows, .int .i64 m.Cols, .slice B m.Cells.length c]) (cs := [.int .i64 m.Rows, .int .i64 m.Cols, .slice B m.Cells.length c]) (m := 3) hS rfl rfl rfl rfl) ?_
  rintro _ w_ ⟨b, rfl, hS1⟩
  refine ss 3 rfl rfl (Ys_box (T := 83) (v := .agg #[.int .i64 x.Num.A, .int .i64 x.Num.B, .int .i64 x.Num.C, .int .i64 x.Num.D, .int .i64 x.Exp]) (cs := [.int .i64 x.Num.A, .int .i64 x.Num.B, .int .i64 x.Num.C, .int .i64 x.Num.D, .int .i64 x.Exp]) (m := 5) hS1 rfl rfl rfl rfl) ?_
  rintro _ w_1 ⟨b1, rfl, hS2⟩
  have hS2 : ST w0 [] _ [⟨some ⟨b, 0, none⟩, 26, [.int .i64 m.Rows, .int .i64 m.Cols, .slice B m.Cells.length c], 3⟩, ⟨some ⟨b1, 0, none⟩, 83, [.int .i64 x.Num.A, .int .i64 x.Num.B, .int .i64 x.Num.C, .int .i64 x.Num.D, .int .i64 x.Exp], 5⟩] [⟨B, (m.Cells.flatMap enc_Dyadic)⟩] := hS2
  refine ss 4 rfl rfl (Ys_alloc (T := 26) (cs := [.int .i64 0, .int .i64 0, .slice none 0 0]) (m := 3) hS2 k_zero_26 rfl rfl rfl) ?_
  rintro _ w_2 ⟨b2, rfl, hS3⟩
  have hS3 : ST w0 [] _ [⟨some ⟨b, 0, none⟩, 26, [.int .i64 m.Rows, .int .i64 m.Cols, .slice B m.Cells.length c], 3⟩, ⟨some ⟨b1, 0, none⟩, 83, [.int .i64 x.Num.A, .int .i64 x.Num.B, .int .i64 x.Num.C, .int .i64 x.Num.D, .int .i64 x.Exp], 5⟩, ⟨some ⟨b2, 0, none⟩, 26, [.int .i64 0, .int .i64 0, .slice none 0 0], 3⟩] [⟨B, (m.Cells.flatMap enc_Dyadic)⟩] := hS3
  refine sq 5 rfl rfl (Y_assign (v := .bool false) rfl rfl) ?_
  refine rw_nil ?_
  refine cw_seq ?_
  refine cw_seq ?_
  refine cw_region ?_
  refine sq 6 rfl rfl (Y_loadA (B := some ⟨b, 0, none⟩) (i := 0) (cs := [.int .i64 m.Rows, .int .i64 m.Cols, .slice B m.Cells.length c]) (vs := [.int .i64 m.Rows, .int .i64 m.Cols, .slice B m.Cells.length c]) k_ag_26 k_sz_26_3 rfl rfl (hS3.cf (i := 0) rfl) rfl rfl) ?_
  obtain ⟨r_2, hc, hF⟩ := bind_inv hF
  refine sc 7 rfl rfl (Yc_func (g := 99) (vs := [.agg #[.int .i64 m.Rows, .int .i64 m.Cols, .slice B m.Cells.length c]]) k_call_99 rfl (mc rfl mn) (c_impl_IsValidMatrix m B c m.Cells.length _ rfl (hS3.inn0 [(true, 0)] rfl) hc)) ?_
  rintro _ w_3 ⟨rfl, hd⟩
  have hS4 := hS3.out00 hd
  have hS4 : ST w0 [] _ [⟨some ⟨b, 0, none⟩, 26, [.int .i64 m.Rows, .int .i64 m.Cols, .slice B m.Cells.length c], 3⟩, ⟨some ⟨b1, 0, none⟩, 83, [.int .i64 x.Num.A, .int .i64 x.Num.B, .int .i64 x.Num.C, .int .i64 x.Num.D, .int .i64 x.Exp], 5⟩, ⟨some ⟨b2, 0, none⟩, 26, [.int .i64 0, .int .i64 0, .slice none 0 0], 3⟩] [⟨B, (m.Cells.flatMap enc_Dyadic)⟩] := hS4
  refine sq 8 rfl rfl (Y_not (p := r_2) rfl rfl) ?_
  refine sq 9 rfl rfl (Y_move (v := .bool (!r_2)) rfl rfl) ?_
  refine sgq 10 (B := (!(!r_2))) (v := .agg #[.int .i64 x.Num.A, .int .i64 x.Num.B, .int .i64 x.Num.C, .int .i64 x.Num.D, .int .i64 x.Exp]) rfl rfl (wt_f (gd_of (t := 9) (by kernel_rfl) rfl)) (fun hg => (Y_loadA (B := some ⟨b1, 0, none⟩) (i := 0) (cs := [.int .i64 x.Num.A, .int .i64 x.Num.B, .int .i64 x.Num.C, .int .i64 x.Num.D, .int .i64 x.Exp]) (vs := [.int .i64 x.Num.A, .int .i64 x.Num.B, .int .i64 x.Num.C, .int .i64 x.Num.D, .int .i64 x.Exp]) k_ag_83 k_sz_83_5 rfl rfl (hS4.cf (i := 1) rfl) rfl rfl)) ?_
  obtain ⟨r_3, hc1, hF⟩ := bind_inv hF
  refine sgc 11 (B := (!(!r_2))) (v := .bool r_3) (F := hS4.fn) rfl rfl (wt_f (gd_of (t := 9) (by kernel_rfl) rfl)) hS4 (fun hg1 => (Yc_func (g := 172) (vs := [.agg #[.int .i64 x.Num.A, .int .i64 x.Num.B, .int .i64 x.Num.C, .int .i64 x.Num.D, .int .i64 x.Exp]]) k_call_172 rfl (mc (gv_of (B := (!(!r_2))) (v := .agg #[.int .i64 x.Num.A, .int .i64 x.Num.B, .int .i64 x.Num.C, .int .i64 x.Num.D, .int .i64 x.Exp]) hg1) mn) (CV.mono (c_impl_IsValidDyadic x _  (hS4.inn0 [] rfl) (gb_inv hc1 hg1)) (by rintro _ _ ⟨rfl, h⟩; exact ⟨rfl, hS4.out00 h⟩)))) ?_
  rintro w_4 hS5
  have hS5 : ST _ _ w_4 _ _ := hS5
  refine sgq 12 (B := (!(!r_2))) (v := .bool (!r_3)) rfl rfl (wt_f (gd_of (t := 9) (by kernel_rfl) rfl)) (fun hg2 => (Y_not (p := r_3) rfl (gv_of (B := (!(!r_2))) (v := .bool r_3) hg2))) ?_
  refine sq 13 rfl rfl (Y_or (b := (!r_2)) (z := (!r_3)) rfl rfl rfl rfl) ?_
  refine rw_nil ?_
  refine cw_cond (b := ((!r_2) || (!r_3))) rfl (fun hb => ?_) (fun hb => ?_)
  · skip
    have hF1 := ct hF hb
    refine cw_seq ?_
    refine cw_region ?_
    refine sq 14 rfl rfl (Y_buildS (zs := [.int .i64 0, .int .i64 0, .slice none 0 0]) (vs := []) (cs := [.int .i64 0, .int .i64 0, .slice none 0 0]) k_pl_26 k_zero_26 rfl mpn rfl) ?_
    refine ss0 rfl rfl (Ys_store (i := 2) (s := 3) (B := some ⟨b2, 0, none⟩) (T' := 26) (v := .agg #[.int .i64 0, .int .i64 0, .slice none 0 0]) (vs := [.int .i64 0, .int .i64 0, .slice none 0 0]) (k := 0) (cs' := [.int .i64 0, .int .i64 0, .slice none 0 0]) hS5 k_sz_26_3 rfl rfl rfl rfl rfl rfl rfl (Nat.le_of_ble_eq_true rfl) rfl rfl) ?_
    rintro _ w_5 ⟨rfl, hS6⟩
    have hS6 : ST w0 [] _ [⟨some ⟨b, 0, none⟩, 26, [.int .i64 m.Rows, .int .i64 m.Cols, .slice B m.Cells.length c], 3⟩, ⟨some ⟨b1, 0, none⟩, 83, [.int .i64 x.Num.A, .int .i64 x.Num.B, .int .i64 x.Num.C, .int .i64 x.Num.D, .int .i64 x.Exp], 5⟩, ⟨some ⟨b2, 0, none⟩, 26, [.int .i64 0, .int .i64 0, .slice none 0 0], 3⟩] [⟨B, (m.Cells.flatMap enc_Dyadic)⟩] := hS6
    refine sq 5 rfl rfl (Y_assign (v := .bool false) rfl rfl) ?_
    refine rw_nil ?_
    refine cw_ret ?_
    have hS7 := hS6.addNil 83
    obtain ⟨rfl, rfl⟩ := pr2 (some_inj hF1)
    exact ret2 Try.results175 (v1 := .agg #[.int .i64 0, .int .i64 0, .slice none 0 0]) (resAt_cellA (B := some ⟨b2, 0, none⟩) (i := 0) (cs := [.int .i64 0, .int .i64 0, .slice none 0 0]) (vs := [.int .i64 0, .int .i64 0, .slice none 0 0]) rfl k_ag_26 k_sz_26_3 (hS7.cf (i := 2) rfl) rfl rfl) (v2 := .bool false) (resAt_tmp rfl) ⟨none, 0, rfl, (ST.subR (R' := []) (hS7.sel [3] rfl rfl) (fun _ h => by cases h))⟩
  · skip
    have hF2 := cf' hF hb
    refine cw_skip ?_
    refine cw_seq ?_
    refine cw_region ?_
    refine sq 15 rfl rfl (Y_fieldAddr (B := some ⟨b, 0, none⟩) (i := 0) (s := 0) k_fd_26_0_0_3 k_sz_3_1 rfl rfl) ?_
    refine sq 16 rfl rfl (Y_load1 (B := some ⟨b, 0, none⟩) (i := 0) (cs := [.int .i64 m.Rows, .int .i64 m.Cols, .slice B m.Cells.length c]) (v := .int .i64 m.Rows) k_sc_3 rfl rfl (hS5.cf (i := 0) rfl) rfl) ?_
    refine sq 17 rfl rfl (Y_fieldAddr (B := some ⟨b, 0, none⟩) (i := 0) (s := 0) k_fd_26_1_1_3 k_sz_3_1 rfl rfl) ?_
    refine sq 18 rfl rfl (Y_load1 (B := some ⟨b, 0, none⟩) (i := 1) (cs := [.int .i64 m.Rows, .int .i64 m.Cols, .slice B m.Cells.length c]) (v := .int .i64 m.Cols) k_sc_3 rfl rfl (hS5.cf (i := 0) rfl) rfl) ?_
    refine sq 19 rfl rfl (Y_makeFunc (cs := [pt (some ⟨b, 0, none⟩) 0, pt (some ⟨b1, 0, none⟩) 0]) rfl rfl (mc rfl (mc rfl mn))) ?_
    obtain ⟨⟨r_4, r_5⟩, hc2, hF2⟩ := bind_inv hF2
    refine sc 20 rfl rfl (Yc_func (g := 140) (vs := [.int .i64 m.Rows, .int .i64 m.Cols, .func (.func 241) #[] #[pt (some ⟨b, 0, none⟩) 0, pt (some ⟨b1, 0, none⟩) 0]]) k_call_140 rfl (mc rfl (mc rfl (mc rfl mn))) (c_impl_matrixOf m.Rows m.Cols (fun x_0 x_1 => F_impl_ScaleMatrix_1 x_0 x_1 m x) 241 (#[pt (some ⟨b, 0, none⟩) 0, pt (some ⟨b1, 0, none⟩) 0]) [⟨some ⟨b, 0, none⟩, [.int .i64 m.Rows, .int .i64 m.Cols, .slice B m.Cells.length c]⟩, ⟨B, (m.Cells.flatMap enc_Dyadic)⟩, ⟨some ⟨b1, 0, none⟩, [.int .i64 x.Num.A, .int .i64 x.Num.B, .int .i64 x.Num.C, .int .i64 x.Num.D, .int .i64 x.Exp]⟩] _ k_call_241 (fun w hw x_0 x_1 y_0 y_1 h_ => c_impl_ScaleMatrix_1 x_0 x_1 m x (some ⟨b, 0, none⟩) B c m.Cells.length (some ⟨b1, 0, none⟩) w rfl hw h_) (hS5.inn0 [(false, 0), (true, 0), (false, 1)] rfl) hc2)) ?_
    rintro _ w_6 ⟨B2, c2, rfl, hd1⟩
    have hS8 := hS5.out0 hd1
    have hS8 : ST w0 [] _ [⟨some ⟨b, 0, none⟩, 26, [.int .i64 m.Rows, .int .i64 m.Cols, .slice B m.Cells.length c], 3⟩, ⟨some ⟨b1, 0, none⟩, 83, [.int .i64 x.Num.A, .int .i64 x.Num.B, .int .i64 x.Num.C, .int .i64 x.Num.D, .int .i64 x.Exp], 5⟩, ⟨some ⟨b2, 0, none⟩, 26, [.int .i64 0, .int .i64 0, .slice none 0 0], 3⟩, ⟨B2, 83, (r_4.Cells.flatMap enc_Dyadic), c2 * 5⟩] [⟨B, (m.Cells.flatMap enc_Dyadic)⟩] := hS8
    refine sq 21 rfl rfl (Y_extract (v := .agg #[.int .i64 r_4.Rows, .int .i64 r_4.Cols, .slice B2 r_4.Cells.length c2]) rfl rfl rfl) ?_
    refine sq 22 rfl rfl (Y_extract (v := .bool r_5) rfl rfl rfl) ?_
    refine ss0 rfl rfl (Ys_store (i := 2) (s := 3) (B := some ⟨b2, 0, none⟩) (T' := 26) (v := .agg #[.int .i64 r_4.Rows, .int .i64 r_4.Cols, .slice B2 r_4.Cells.length c2]) (vs := [.int .i64 r_4.Rows, .int .i64 r_4.Cols, .slice B2 r_4.Cells.length c2]) (k := 0) (cs' := [.int .i64 r_4.Rows, .int .i64 r_4.Cols, .slice B2 r_4.Cells.length c2]) hS8 k_sz_26_3 rfl rfl rfl rfl rfl rfl rfl (Nat.le_of_ble_eq_true rfl) rfl rfl) ?_
    rintro _ w_7 ⟨rfl, hS9⟩
    have hS9 : ST w0 [] _ [⟨some ⟨b, 0, none⟩, 26, [.int .i64 m.Rows, .int .i64 m.Cols, .slice B m.Cells.length c], 3⟩, ⟨some ⟨b1, 0, none⟩, 83, [.int .i64 x.Num.A, .int .i64 x.Num.B, .int .i64 x.Num.C, .int .i64 x.Num.D, .int .i64 x.Exp], 5⟩, ⟨some ⟨b2, 0, none⟩, 26, [.int .i64 r_4.Rows, .int .i64 r_4.Cols, .slice B2 r_4.Cells.length c2], 3⟩, ⟨B2, 83, (r_4.Cells.flatMap enc_Dyadic), c2 * 5⟩] [⟨B, (m.Cells.flatMap enc_Dyadic)⟩] := hS9
    refine sq 5 rfl rfl (Y_assign (v := .bool r_5) rfl rfl) ?_
    refine rw_nil ?_
    refine cw_ret ?_
    obtain ⟨rfl, rfl⟩ := pr2 (some_inj hF2)
    exact ret2 Try.results175 (v1 := .agg #[.int .i64 r_4.Rows, .int .i64 r_4.Cols, .slice B2 r_4.Cells.length c2]) (resAt_cellA (B := some ⟨b2, 0, none⟩) (i := 0) (cs := [.int .i64 r_4.Rows, .int .i64 r_4.Cols, .slice B2 r_4.Cells.length c2]) (vs := [.int .i64 r_4.Rows, .int .i64 r_4.Cols, .slice B2 r_4.Cells.length c2]) rfl k_ag_26 k_sz_26_3 (hS9.cf (i := 2) rfl) rfl rfl) (v2 := .bool r_5) (resAt_tmp rfl) ⟨B2, c2, rfl, (ST.subR (R' := []) (hS9.sel [3] rfl rfl) (fun _ h => by cases h))⟩

theorem c_impl_EqualUpToPhase (a : TMatrix) (b : TMatrix) (B : Option Addr) (c n : Nat) (B1 : Option Addr) (c1 n1 : Nat) (w0 : World) (hn : a.Cells.length = n) (hn1 : b.Cells.length = n1) (hS : ST w0 [] w0 [] [⟨B, (a.Cells.flatMap enc_Dyadic)⟩, ⟨B1, (b.Cells.flatMap enc_Dyadic)⟩]) {r_ : Int} {r_1 : Bool} {r_2 : Bool} (hF : F_impl_EqualUpToPhase a b = some (r_, r_1, r_2)) :
    CV Try.prog 102 #[.agg #[.int .i64 a.Rows, .int .i64 a.Cols, .slice B n c], .agg #[.int .i64 b.Rows, .int .i64 b.Cols, .slice B1 n1 c1]] w0 (fun v w' => v = .tuple #[.int .i64 r_, .bool r_1, .bool r_2] ∧ ST w0 [] w' [] []) := by
  subst hn
  subst hn1
  unfold F_impl_EqualUpToPhase at hF
  refine cv_of_cw 36 Try.func102 rfl Try.ntmps102 rfl ?_
  refine cw_seq ?_
  refine cw_region ?_
  refine ss 2 rfl rfl (Ys_box (T := 26) (v := .agg #[.int .i64 a.Rows, .int .i64 a.Cols, .slice B a.Cells.length c]) (cs := [.int .i64 a.Rows, .int .i64 a.Cols, .slice B a.Cells.length c]) (m := 3) hS rfl rfl rfl rfl) ?_
  rintro _ w_ ⟨b1, rfl, hS1⟩
  refine ss 3 rfl rfl (Ys_box (T := 26) (v := .agg #[.int .i64 b.Rows, .int .i64 b.Cols, .slice B1 b.Cells.length c1]) (cs := [.int .i64 b.Rows, .int .i64 b.Cols, .slice B1 b.Cells.length c1]) (m := 3) hS1 rfl rfl rfl rfl) ?_
  rintro _ w_1 ⟨b2, rfl, hS2⟩
  have hS2 : ST w0 [] _ [⟨some ⟨b1, 0, none⟩, 26, [.int .i64 a.Rows, .int .i64 a.Cols, .slice B a.Cells.length c], 3⟩, ⟨some ⟨b2, 0, none⟩, 26, [.int .i64 b.Rows, .int .i64 b.Cols, .slice B1 b.Cells.length c1], 3⟩] [⟨B, (a.Cells.flatMap enc_Dyadic)⟩, ⟨B1, (b.Cells.flatMap enc_Dyadic)⟩] := hS2
  refine sq 4 rfl rfl (Y_assign (v := .int .i64 0) rfl rfl) ?_
  refine sq 5 rfl rfl (Y_assign (v := .bool false) rfl rfl) ?_
  refine sq 6 rfl rfl (Y_assign (v := .bool false) rfl rfl) ?_
  refine rw_nil ?_
  refine cw_seq ?_
  refine cw_seq ?_
  refine cw_region ?_
  refine sq 10 rfl rfl (Y_loadA (B := some ⟨b1, 0, none⟩) (i := 0) (cs := [.int .i64 a.Rows, .int .i64 a.Cols, .slice B a.Cells.length c]) (vs := [.int .i64 a.Rows, .int .i64 a.Cols, .slice B a.Cells.length c]) k_ag_26 k_sz_26_3 rfl rfl (hS2.cf (i := 0) rfl) rfl rfl) ?_
  obtain ⟨r_3, hc, hF⟩ := bind_inv hF
  refine sc 11 rfl rfl (Yc_func (g := 99) (vs := [.agg #[.int .i64 a.Rows, .int .i64 a.Cols, .slice B a.Cells.length c]]) k_call_99 rfl (mc rfl mn) (c_impl_IsValidMatrix a B c a.Cells.length _ rfl (hS2.inn0 [(true, 0)] rfl) hc)) ?_
  rintro _ w_2 ⟨rfl, hd⟩
  have hS3 := hS2.out00 hd
  have hS3 : ST w0 [] _ [⟨some ⟨b1, 0, none⟩, 26, [.int .i64 a.Rows, .int .i64 a.Cols, .slice B a.Cells.length c], 3⟩, ⟨some ⟨b2, 0, none⟩, 26, [.int .i64 b.Rows, .int .i64 b.Cols, .slice B1 b.Cells.length c1], 3⟩] [⟨B, (a.Cells.flatMap enc_Dyadic)⟩, ⟨B1, (b.Cells.flatMap enc_Dyadic)⟩] := hS3
  refine sq 12 rfl rfl (Y_not (p := r_3) rfl rfl) ?_
  refine sq 13 rfl rfl (Y_move (v := .bool (!r_3)) rfl rfl) ?_
  refine sgq 14 (B := (!(!r_3))) (v := .agg #[.int .i64 b.Rows, .int .i64 b.Cols, .slice B1 b.Cells.length c1]) rfl rfl (wt_f (gd_of (t := 13) (by kernel_rfl) rfl)) (fun hg => (Y_loadA (B := some ⟨b2, 0, none⟩) (i := 0) (cs := [.int .i64 b.Rows, .int .i64 b.Cols, .slice B1 b.Cells.length c1]) (vs := [.int .i64 b.Rows, .int .i64 b.Cols, .slice B1 b.Cells.length c1]) k_ag_26 k_sz_26_3 rfl rfl (hS3.cf (i := 1) rfl) rfl rfl)) ?_
  obtain ⟨r_4, hc1, hF⟩ := bind_inv hF
  refine sgc 15 (B := (!(!r_3))) (v := .bool r_4) (F := hS3.fn) rfl rfl (wt_f (gd_of (t := 13) (by kernel_rfl) rfl)) hS3 (fun hg1 => (Yc_func (g := 99) (vs := [.agg #[.int .i64 b.Rows, .int .i64 b.Cols, .slice B1 b.Cells.length c1]]) k_call_99 rfl (mc (gv_of (B := (!(!r_3))) (v := .agg #[.int .i64 b.Rows, .int .i64 b.Cols, .slice B1 b.Cells.length c1]) hg1) mn) (CV.mono (c_impl_IsValidMatrix b B1 c1 b.Cells.length _ rfl (hS3.inn0 [(true, 1)] rfl) (gb_inv hc1 hg1)) (by rintro _ _ ⟨rfl, h⟩; exact ⟨rfl, hS3.out00 h⟩)))) ?_
  rintro w_3 hS4
  have hS4 : ST _ _ w_3 _ _ := hS4
  refine sgq 16 (B := (!(!r_3))) (v := .bool (!r_4)) rfl rfl (wt_f (gd_of (t := 13) (by kernel_rfl) rfl)) (fun hg2 => (Y_not (p := r_4) rfl (gv_of (B := (!(!r_3))) (v := .bool r_4) hg2))) ?_
  refine sq 17 rfl rfl (Y_or (b := (!r_3)) (z := (!r_4)) rfl rfl rfl rfl) ?_
  refine rw_nil ?_
  refine cw_cond (b := ((!r_3) || (!r_4))) rfl (fun hb => ?_) (fun hb => ?_)
  · skip
    have hF1 := ct hF hb
    refine cw_seq ?_
    refine cw_region ?_
    refine sq 4 rfl rfl (Y_assign (v := .int .i64 0) rfl rfl) ?_
    refine sq 5 rfl rfl (Y_assign (v := .bool false) rfl rfl) ?_
    refine sq 6 rfl rfl (Y_assign (v := .bool false) rfl rfl) ?_
    refine rw_nil ?_
    refine cw_ret ?_
    obtain ⟨rfl, rfl, rfl⟩ := pr3 (some_inj hF1)
    exact ret3 Try.results102 (v1 := .int .i64 0) (resAt_tmp rfl) (v2 := .bool false) (resAt_tmp rfl) (v3 := .bool false) (resAt_tmp rfl) ⟨rfl, (ST.subR (R' := []) (hS4.sel [] rfl rfl) (fun _ h => by cases h))⟩
  · skip
    have hF2 := cf' hF hb
    refine cw_skip ?_
    refine cw_seq ?_
    refine cw_seq ?_
    refine cw_region ?_
    refine sq 18 rfl rfl (Y_move (v := .int .i64 0) rfl rfl) ?_
    refine rw_nil ?_
    obtain ⟨z, hz, hF3⟩ := bind_inv hF2
    refine cw_block ?_
    refine cw_loop (fun k f w => ∃ (i : Nat), FF f [(2, pt (some ⟨b1, 0, none⟩) 0), (3, pt (some ⟨b2, 0, none⟩) 0), (18, .int .i64 (i : Int))] ∧ ST w0 [] w [⟨some ⟨b1, 0, none⟩, 26, [.int .i64 a.Rows, .int .i64 a.Cols, .slice B a.Cells.length c], 3⟩, ⟨some ⟨b2, 0, none⟩, 26, [.int .i64 b.Rows, .int .i64 b.Cols, .slice B1 b.Cells.length c1], 3⟩] [⟨B, (a.Cells.flatMap enc_Dyadic)⟩, ⟨B1, (b.Cells.flatMap enc_Dyadic)⟩] ∧ i + k = 8 ∧ forX (F_impl_EqualUpToPhase_l1 b a) k i () = some z) 8 ⟨0, (FF.cons rfl (FF.cons rfl (FF.cons rfl FF.nil))), (hS4.sel [0, 1] rfl rfl), Nat.zero_add _, hz⟩ ?_
    rintro k_ f w ⟨i, hf, hS5, hik, hL⟩
    refine cw_seq ?_
    refine cw_region ?_
    refine sq 19 rfl rfl (Y_lt (k := .i64) (a := (i : Int)) (b := 8) rfl (hf.get 18 2 rfl) rfl) ?_
    refine rw_nil ?_
    refine cw_seq ?_
    refine cw_cond (b := (decide ((i : Int) < 8))) rfl (fun hlt => ?_) (fun hlt => ?_)
    · skip
      have hlt1 : i < 8 := by have h := of_decide_eq_true hlt; omega
      obtain ⟨k_1, rfl⟩ : ∃ k2, k_ = k2 + 1 := ⟨k_ - 1, by omega⟩
      obtain ⟨y, hb1, hL1⟩ := forX_go hL
      unfold F_impl_EqualUpToPhase_l1 at hb1
      refine cw_skip ?_
      refine cw_seq ?_
      refine cw_block ?_
      refine cw_seq ?_
      refine cw_region ?_
      refine sq 20 rfl rfl (Y_move (v := .int .i64 (i : Int)) rfl (hf.get 18 2 rfl)) ?_
      refine sq 7 rfl rfl (Y_assign (v := .int .i64 (i : Int)) rfl rfl) ?_
      refine rw_nil ?_
      refine cw_seq ?_
      obtain ⟨r_5, hc2, hb1⟩ := bind_inv hb1
      obtain ⟨⟨r_6, r_7⟩, hc3, hb1⟩ := bind_inv hb1
      refine cw_mid (fun f w => ∃ (B3 : Option Addr) (B4 : Option Addr) (c3 : Nat), FF f [(2, pt (some ⟨b1, 0, none⟩) 0), (3, pt (some ⟨b2, 0, none⟩) 0), (7, .int .i64 (i : Int)), (8, pt B3 0), (9, .bool r_7), (18, .int .i64 (i : Int))] ∧ ST w0 [] w [⟨some ⟨b1, 0, none⟩, 26, [.int .i64 a.Rows, .int .i64 a.Cols, .slice B a.Cells.length c], 3⟩, ⟨some ⟨b2, 0, none⟩, 26, [.int .i64 b.Rows, .int .i64 b.Cols, .slice B1 b.Cells.length c1], 3⟩, ⟨B3, 26, [.int .i64 r_6.Rows, .int .i64 r_6.Cols, .slice B4 r_6.Cells.length c3], 3⟩, ⟨B4, 83, (r_6.Cells.flatMap enc_Dyadic), c3 * 5⟩] [⟨B, (a.Cells.flatMap enc_Dyadic)⟩, ⟨B1, (b.Cells.flatMap enc_Dyadic)⟩]) ?_ ?_
      · skip
        refine ra_start (ST.sel hS5 [0, 1] rfl rfl).fn (by kernel_rfl) ?_
        have hS9 := hS5.drew
        refine ra_q 0 22 (v := .agg #[.int .i64 b.Rows, .int .i64 b.Cols, .slice B1 b.Cells.length c1]) rfl rfl rfl (by kernel_rfl) (by kernel_rfl) (by kernel_rfl) (ST.sel hS9 [0, 1] rfl rfl) (fun w' hw' => (Y_loadA (B := some ⟨b2, 0, none⟩) (i := 0) (cs := [.int .i64 b.Rows, .int .i64 b.Cols, .slice B1 b.Cells.length c1]) (vs := [.int .i64 b.Rows, .int .i64 b.Cols, .slice B1 b.Cells.length c1]) k_ag_26 k_sz_26_3 rfl (hf.get 3 1 rfl) (ST.cf hw' (i := 1) rfl) rfl rfl)) ?_
        refine ra_q 1 23 (v := .int .i64 (i : Int)) rfl rfl rfl (by kernel_rfl) (by kernel_rfl) (by kernel_rfl) (ST.sel hS9 [0, 1] rfl rfl) (fun w' hw' => (Y_move (v := .int .i64 (i : Int)) rfl rfl)) ?_
        refine ra_all (rs := [2, 7]) (by kernel_rfl) rfl ?_
        refine ra_c 24 (i := 2) rfl rfl rfl (Yc_func (g := 176) (vs := [.int .i64 (i : Int)]) k_call_176 rfl (mc rfl mn) (c_impl_phase (i : Int) _  (hS9.inn0 [] rfl) hc2)) ?_ ?_
        · rintro _ w_4 ⟨rfl, hd1⟩
          have hS10 := hS9.out00 hd1
          have hS10 : ST w0 [] _ [⟨some ⟨b1, 0, none⟩, 26, [.int .i64 a.Rows, .int .i64 a.Cols, .slice B a.Cells.length c], 3⟩, ⟨some ⟨b2, 0, none⟩, 26, [.int .i64 b.Rows, .int .i64 b.Cols, .slice B1 b.Cells.length c1], 3⟩] [⟨B, (a.Cells.flatMap enc_Dyadic)⟩, ⟨B1, (b.Cells.flatMap enc_Dyadic)⟩] := hS10
          refine ⟨(ST.sel hS10 [0, 1] rfl rfl), ?_⟩
          refine ra_all (rs := [3, 7]) (by kernel_rfl) rfl ?_
          refine ra_c 25 (i := 3) rfl rfl rfl (Yc_func (g := 175) (vs := [.agg #[.int .i64 b.Rows, .int .i64 b.Cols, .slice B1 b.Cells.length c1], .agg #[.int .i64 r_5.Num.A, .int .i64 r_5.Num.B, .int .i64 r_5.Num.C, .int .i64 r_5.Num.D, .int .i64 r_5.Exp]]) k_call_175 rfl (mc rfl (mc rfl mn)) (c_impl_ScaleMatrix b r_5 B1 c1 b.Cells.length _ rfl (hS10.inn0 [(true, 1)] rfl) hc3)) ?_ ?_
          · rintro _ w_5 ⟨B2, c2, rfl, hd2⟩
            have hS11 := hS10.out0 hd2
            have hS11 : ST w0 [] _ [⟨some ⟨b1, 0, none⟩, 26, [.int .i64 a.Rows, .int .i64 a.Cols, .slice B a.Cells.length c], 3⟩, ⟨some ⟨b2, 0, none⟩, 26, [.int .i64 b.Rows, .int .i64 b.Cols, .slice B1 b.Cells.length c1], 3⟩, ⟨B2, 83, (r_6.Cells.flatMap enc_Dyadic), c2 * 5⟩] [⟨B, (a.Cells.flatMap enc_Dyadic)⟩, ⟨B1, (b.Cells.flatMap enc_Dyadic)⟩] := hS11
            refine ⟨(ST.sel hS11 [0, 1] rfl rfl), ?_⟩
            refine ra_q 4 21 (v := .tuple #[.agg #[.int .i64 r_6.Rows, .int .i64 r_6.Cols, .slice B2 r_6.Cells.length c2], .bool r_7]) rfl rfl rfl (by kernel_rfl) (by kernel_rfl) (by kernel_rfl) (ST.sel hS11 [0, 1] rfl rfl) (fun w' hw' => (Y_move (v := .tuple #[.agg #[.int .i64 r_6.Rows, .int .i64 r_6.Cols, .slice B2 r_6.Cells.length c2], .bool r_7]) rfl rfl)) ?_
            refine ra_q 5 26 (v := .agg #[.int .i64 r_6.Rows, .int .i64 r_6.Cols, .slice B2 r_6.Cells.length c2]) rfl rfl rfl (by kernel_rfl) (by kernel_rfl) (by kernel_rfl) (ST.sel hS11 [0, 1] rfl rfl) (fun w' hw' => (Y_extract (v := .agg #[.int .i64 r_6.Rows, .int .i64 r_6.Cols, .slice B2 r_6.Cells.length c2]) rfl rfl rfl)) ?_
            refine ra_q 6 27 (v := .bool r_7) rfl rfl rfl (by kernel_rfl) (by kernel_rfl) (by kernel_rfl) (ST.sel hS11 [0, 1] rfl rfl) (fun w' hw' => (Y_extract (v := .bool r_7) rfl rfl rfl)) ?_
            refine ra_all (rs := [7]) (by kernel_rfl) rfl ?_
            refine ra_s 8 (i := 7) rfl rfl rfl (Ys_alloc (T := 26) (cs := [.int .i64 0, .int .i64 0, .slice none 0 0]) (m := 3) hS11 k_zero_26 rfl rfl rfl) ?_ ?_
            · rintro _ w_6 ⟨b3, rfl, hS12⟩
              have hS12 : ST w0 [] _ [⟨some ⟨b1, 0, none⟩, 26, [.int .i64 a.Rows, .int .i64 a.Cols, .slice B a.Cells.length c], 3⟩, ⟨some ⟨b2, 0, none⟩, 26, [.int .i64 b.Rows, .int .i64 b.Cols, .slice B1 b.Cells.length c1], 3⟩, ⟨B2, 83, (r_6.Cells.flatMap enc_Dyadic), c2 * 5⟩, ⟨some ⟨b3, 0, none⟩, 26, [.int .i64 0, .int .i64 0, .slice none 0 0], 3⟩] [⟨B, (a.Cells.flatMap enc_Dyadic)⟩, ⟨B1, (b.Cells.flatMap enc_Dyadic)⟩] := hS12
              refine ⟨(ST.sel hS12 [0, 1] rfl rfl), ?_⟩
              refine ra_all (rs := [8]) (by kernel_rfl) rfl ?_
              refine ra_s0 (i := 8) rfl rfl rfl (Ys_store (i := 3) (s := 3) (B := some ⟨b3, 0, none⟩) (T' := 26) (v := .agg #[.int .i64 r_6.Rows, .int .i64 r_6.Cols, .slice B2 r_6.Cells.length c2]) (vs := [.int .i64 r_6.Rows, .int .i64 r_6.Cols, .slice B2 r_6.Cells.length c2]) (k := 0) (cs' := [.int .i64 r_6.Rows, .int .i64 r_6.Cols, .slice B2 r_6.Cells.length c2]) hS12 k_sz_26_3 rfl rfl rfl rfl rfl rfl rfl (Nat.le_of_ble_eq_true rfl) rfl rfl) ?_ ?_
              · rintro _ w_7 ⟨rfl, hS13⟩
                have hS13 : ST w0 [] _ [⟨some ⟨b1, 0, none⟩, 26, [.int .i64 a.Rows, .int .i64 a.Cols, .slice B a.Cells.length c], 3⟩, ⟨some ⟨b2, 0, none⟩, 26, [.int .i64 b.Rows, .int .i64 b.Cols, .slice B1 b.Cells.length c1], 3⟩, ⟨B2, 83, (r_6.Cells.flatMap enc_Dyadic), c2 * 5⟩, ⟨some ⟨b3, 0, none⟩, 26, [.int .i64 r_6.Rows, .int .i64 r_6.Cols, .slice B2 r_6.Cells.length c2], 3⟩] [⟨B, (a.Cells.flatMap enc_Dyadic)⟩, ⟨B1, (b.Cells.flatMap enc_Dyadic)⟩] := hS13
                refine ⟨(ST.sel hS13 [0, 1] rfl rfl), ?_⟩
                refine ra_q 9 9 (v := .bool r_7) rfl rfl rfl (by kernel_rfl) (by kernel_rfl) (by kernel_rfl) (ST.sel hS13 [0, 1] rfl rfl) (fun w' hw' => (Y_assign (v := .bool r_7) rfl rfl)) ?_
                refine ra_done (by kernel_rfl) ?_
                exact ⟨some ⟨b3, 0, none⟩, B2, c2, (FF.cons (hf.get 2 0 rfl) (FF.cons (hf.get 3 1 rfl) (FF.cons rfl (FF.cons rfl (FF.cons rfl (FF.cons (hf.get 18 2 rfl) FF.nil)))))), (hS13.sel [0, 1, 3, 2] rfl rfl)⟩
              exact allR_nil
            exact allR_nil
          refine ra_s 8 (i := 7) rfl rfl rfl (Ys_alloc (T := 26) (cs := [.int .i64 0, .int .i64 0, .slice none 0 0]) (m := 3) hS10 k_zero_26 rfl rfl rfl) ?_ ?_
          · rintro _ w_8 ⟨b3, rfl, hS14⟩
            have hS14 : ST w0 [] _ [⟨some ⟨b1, 0, none⟩, 26, [.int .i64 a.Rows, .int .i64 a.Cols, .slice B a.Cells.length c], 3⟩, ⟨some ⟨b2, 0, none⟩, 26, [.int .i64 b.Rows, .int .i64 b.Cols, .slice B1 b.Cells.length c1], 3⟩, ⟨some ⟨b3, 0, none⟩, 26, [.int .i64 0, .int .i64 0, .slice none 0 0], 3⟩] [⟨B, (a.Cells.flatMap enc_Dyadic)⟩, ⟨B1, (b.Cells.flatMap enc_Dyadic)⟩] := hS14
            refine ⟨(ST.sel hS14 [0, 1] rfl rfl), ?_⟩
            refine ra_all (rs := [3]) (by kernel_rfl) rfl ?_
            refine ra_c 25 (i := 3) rfl rfl rfl (Yc_func (g := 175) (vs := [.agg #[.int .i64 b.Rows, .int .i64 b.Cols, .slice B1 b.Cells.length c1], .agg #[.int .i64 r_5.Num.A, .int .i64 r_5.Num.B, .int .i64 r_5.Num.C, .int .i64 r_5.Num.D, .int .i64 r_5.Exp]]) k_call_175 rfl (mc rfl (mc rfl mn)) (c_impl_ScaleMatrix b r_5 B1 c1 b.Cells.length _ rfl (hS14.inn0 [(true, 1)] rfl) hc3)) ?_ ?_
            · rintro _ w_9 ⟨B2, c2, rfl, hd3⟩
              have hS15 := hS14.out0 hd3
              have hS15 : ST w0 [] _ [⟨some ⟨b1, 0, none⟩, 26, [.int .i64 a.Rows, .int .i64 a.Cols, .slice B a.Cells.length c], 3⟩, ⟨some ⟨b2, 0, none⟩, 26, [.int .i64 b.Rows, .int .i64 b.Cols, .slice B1 b.Cells.length c1], 3⟩, ⟨some ⟨b3, 0, none⟩, 26, [.int .i64 0, .int .i64 0, .slice none 0 0], 3⟩, ⟨B2, 83, (r_6.Cells.flatMap enc_Dyadic), c2 * 5⟩] [⟨B, (a.Cells.flatMap enc_Dyadic)⟩, ⟨B1, (b.Cells.flatMap enc_Dyadic)⟩] := hS15
              refine ⟨(ST.sel hS15 [0, 1] rfl rfl), ?_⟩
              refine ra_q 4 21 (v := .tuple #[.agg #[.int .i64 r_6.Rows, .int .i64 r_6.Cols, .slice B2 r_6.Cells.length c2], .bool r_7]) rfl rfl rfl (by kernel_rfl) (by kernel_rfl) (by kernel_rfl) (ST.sel hS15 [0, 1] rfl rfl) (fun w' hw' => (Y_move (v := .tuple #[.agg #[.int .i64 r_6.Rows, .int .i64 r_6.Cols, .slice B2 r_6.Cells.length c2], .bool r_7]) rfl rfl)) ?_
              refine ra_q 5 26 (v := .agg #[.int .i64 r_6.Rows, .int .i64 r_6.Cols, .slice B2 r_6.Cells.length c2]) rfl rfl rfl (by kernel_rfl) (by kernel_rfl) (by kernel_rfl) (ST.sel hS15 [0, 1] rfl rfl) (fun w' hw' => (Y_extract (v := .agg #[.int .i64 r_6.Rows, .int .i64 r_6.Cols, .slice B2 r_6.Cells.length c2]) rfl rfl rfl)) ?_
              refine ra_q 6 27 (v := .bool r_7) rfl rfl rfl (by kernel_rfl) (by kernel_rfl) (by kernel_rfl) (ST.sel hS15 [0, 1] rfl rfl) (fun w' hw' => (Y_extract (v := .bool r_7) rfl rfl rfl)) ?_
              refine ra_all (rs := [8]) (by kernel_rfl) rfl ?_
              refine ra_s0 (i := 8) rfl rfl rfl (Ys_store (i := 2) (s := 3) (B := some ⟨b3, 0, none⟩) (T' := 26) (v := .agg #[.int .i64 r_6.Rows, .int .i64 r_6.Cols, .slice B2 r_6.Cells.length c2]) (vs := [.int .i64 r_6.Rows, .int .i64 r_6.Cols, .slice B2 r_6.Cells.length c2]) (k := 0) (cs' := [.int .i64 r_6.Rows, .int .i64 r_6.Cols, .slice B2 r_6.Cells.length c2]) hS15 k_sz_26_3 rfl rfl rfl rfl rfl rfl rfl (Nat.le_of_ble_eq_true rfl) rfl rfl) ?_ ?_
              · rintro _ w_10 ⟨rfl, hS16⟩
                have hS16 : ST w0 [] _ [⟨some ⟨b1, 0, none⟩, 26, [.int .i64 a.Rows, .int .i64 a.Cols, .slice B a.Cells.length c], 3⟩, ⟨some ⟨b2, 0, none⟩, 26, [.int .i64 b.Rows, .int .i64 b.Cols, .slice B1 b.Cells.length c1], 3⟩, ⟨some ⟨b3, 0, none⟩, 26, [.int .i64 r_6.Rows, .int .i64 r_6.Cols, .slice B2 r_6.Cells.length c2], 3⟩, ⟨B2, 83, (r_6.Cells.flatMap enc_Dyadic), c2 * 5⟩] [⟨B, (a.Cells.flatMap enc_Dyadic)⟩, ⟨B1, (b.Cells.flatMap enc_Dyadic)⟩] := hS16
                refine ⟨(ST.sel hS16 [0, 1] rfl rfl), ?_⟩
                refine ra_q 9 9 (v := .bool r_7) rfl rfl rfl (by kernel_rfl) (by kernel_rfl) (by kernel_rfl) (ST.sel hS16 [0, 1] rfl rfl) (fun w' hw' => (Y_assign (v := .bool r_7) rfl rfl)) ?_
                refine ra_done (by kernel_rfl) ?_
                exact ⟨some ⟨b3, 0, none⟩, B2, c2, (FF.cons (hf.get 2 0 rfl) (FF.cons (hf.get 3 1 rfl) (FF.cons rfl (FF.cons rfl (FF.cons rfl (FF.cons (hf.get 18 2 rfl) FF.nil)))))), (hS16.sel [0, 1, 2, 3] rfl rfl)⟩
              exact allR_nil
            exact allR_nil
          exact allR_nil
        refine ra_s 8 (i := 7) rfl rfl rfl (Ys_alloc (T := 26) (cs := [.int .i64 0, .int .i64 0, .slice none 0 0]) (m := 3) hS9 k_zero_26 rfl rfl rfl) ?_ ?_
        · rintro _ w_11 ⟨b3, rfl, hS17⟩
          have hS17 : ST w0 [] _ [⟨some ⟨b1, 0, none⟩, 26, [.int .i64 a.Rows, .int .i64 a.Cols, .slice B a.Cells.length c], 3⟩, ⟨some ⟨b2, 0, none⟩, 26, [.int .i64 b.Rows, .int .i64 b.Cols, .slice B1 b.Cells.length c1], 3⟩, ⟨some ⟨b3, 0, none⟩, 26, [.int .i64 0, .int .i64 0, .slice none 0 0], 3⟩] [⟨B, (a.Cells.flatMap enc_Dyadic)⟩, ⟨B1, (b.Cells.flatMap enc_Dyadic)⟩] := hS17
          refine ⟨(ST.sel hS17 [0, 1] rfl rfl), ?_⟩
          refine ra_all (rs := [2]) (by kernel_rfl) rfl ?_
          refine ra_c 24 (i := 2) rfl rfl rfl (Yc_func (g := 176) (vs := [.int .i64 (i : Int)]) k_call_176 rfl (mc rfl mn) (c_impl_phase (i : Int) _  (hS17.inn0 [] rfl) hc2)) ?_ ?_
          · rintro _ w_12 ⟨rfl, hd4⟩
            have hS18 := hS17.out00 hd4
            have hS18 : ST w0 [] _ [⟨some ⟨b1, 0, none⟩, 26, [.int .i64 a.Rows, .int .i64 a.Cols, .slice B a.Cells.length c], 3⟩, ⟨some ⟨b2, 0, none⟩, 26, [.int .i64 b.Rows, .int .i64 b.Cols, .slice B1 b.Cells.length c1], 3⟩, ⟨some ⟨b3, 0, none⟩, 26, [.int .i64 0, .int .i64 0, .slice none 0 0], 3⟩] [⟨B, (a.Cells.flatMap enc_Dyadic)⟩, ⟨B1, (b.Cells.flatMap enc_Dyadic)⟩] := hS18
            refine ⟨(ST.sel hS18 [0, 1] rfl rfl), ?_⟩
            refine ra_all (rs := [3]) (by kernel_rfl) rfl ?_
            refine ra_c 25 (i := 3) rfl rfl rfl (Yc_func (g := 175) (vs := [.agg #[.int .i64 b.Rows, .int .i64 b.Cols, .slice B1 b.Cells.length c1], .agg #[.int .i64 r_5.Num.A, .int .i64 r_5.Num.B, .int .i64 r_5.Num.C, .int .i64 r_5.Num.D, .int .i64 r_5.Exp]]) k_call_175 rfl (mc rfl (mc rfl mn)) (c_impl_ScaleMatrix b r_5 B1 c1 b.Cells.length _ rfl (hS18.inn0 [(true, 1)] rfl) hc3)) ?_ ?_
            · rintro _ w_13 ⟨B2, c2, rfl, hd5⟩
              have hS19 := hS18.out0 hd5
              have hS19 : ST w0 [] _ [⟨some ⟨b1, 0, none⟩, 26, [.int .i64 a.Rows, .int .i64 a.Cols, .slice B a.Cells.length c], 3⟩, ⟨some ⟨b2, 0, none⟩, 26, [.int .i64 b.Rows, .int .i64 b.Cols, .slice B1 b.Cells.length c1], 3⟩, ⟨some ⟨b3, 0, none⟩, 26, [.int .i64 0, .int .i64 0, .slice none 0 0], 3⟩, ⟨B2, 83, (r_6.Cells.flatMap enc_Dyadic), c2 * 5⟩] [⟨B, (a.Cells.flatMap enc_Dyadic)⟩, ⟨B1, (b.Cells.flatMap enc_Dyadic)⟩] := hS19
              refine ⟨(ST.sel hS19 [0, 1] rfl rfl), ?_⟩
              refine ra_q 4 21 (v := .tuple #[.agg #[.int .i64 r_6.Rows, .int .i64 r_6.Cols, .slice B2 r_6.Cells.length c2], .bool r_7]) rfl rfl rfl (by kernel_rfl) (by kernel_rfl) (by kernel_rfl) (ST.sel hS19 [0, 1] rfl rfl) (fun w' hw' => (Y_move (v := .tuple #[.agg #[.int .i64 r_6.Rows, .int .i64 r_6.Cols, .slice B2 r_6.Cells.length c2], .bool r_7]) rfl rfl)) ?_
              refine ra_q 5 26 (v := .agg #[.int .i64 r_6.Rows, .int .i64 r_6.Cols, .slice B2 r_6.Cells.length c2]) rfl rfl rfl (by kernel_rfl) (by kernel_rfl) (by kernel_rfl) (ST.sel hS19 [0, 1] rfl rfl) (fun w' hw' => (Y_extract (v := .agg #[.int .i64 r_6.Rows, .int .i64 r_6.Cols, .slice B2 r_6.Cells.length c2]) rfl rfl rfl)) ?_
              refine ra_q 6 27 (v := .bool r_7) rfl rfl rfl (by kernel_rfl) (by kernel_rfl) (by kernel_rfl) (ST.sel hS19 [0, 1] rfl rfl) (fun w' hw' => (Y_extract (v := .bool r_7) rfl rfl rfl)) ?_
              refine ra_all (rs := [8]) (by kernel_rfl) rfl ?_
              refine ra_s0 (i := 8) rfl rfl rfl (Ys_store (i := 2) (s := 3) (B := some ⟨b3, 0, none⟩) (T' := 26) (v := .agg #[.int .i64 r_6.Rows, .int .i64 r_6.Cols, .slice B2 r_6.Cells.length c2]) (vs := [.int .i64 r_6.Rows, .int .i64 r_6.Cols, .slice B2 r_6.Cells.length c2]) (k := 0) (cs' := [.int .i64 r_6.Rows, .int .i64 r_6.Cols, .slice B2 r_6.Cells.length c2]) hS19 k_sz_26_3 rfl rfl rfl rfl rfl rfl rfl (Nat.le_of_ble_eq_true rfl) rfl rfl) ?_ ?_
              · rintro _ w_14 ⟨rfl, hS20⟩
                have hS20 : ST w0 [] _ [⟨some ⟨b1, 0, none⟩, 26, [.int .i64 a.Rows, .int .i64 a.Cols, .slice B a.Cells.length c], 3⟩, ⟨some ⟨b2, 0, none⟩, 26, [.int .i64 b.Rows, .int .i64 b.Cols, .slice B1 b.Cells.length c1], 3⟩, ⟨some ⟨b3, 0, none⟩, 26, [.int .i64 r_6.Rows, .int .i64 r_6.Cols, .slice B2 r_6.Cells.length c2], 3⟩, ⟨B2, 83, (r_6.Cells.flatMap enc_Dyadic), c2 * 5⟩] [⟨B, (a.Cells.flatMap enc_Dyadic)⟩, ⟨B1, (b.Cells.flatMap enc_Dyadic)⟩] := hS20
                refine ⟨(ST.sel hS20 [0, 1] rfl rfl), ?_⟩
                refine ra_q 9 9 (v := .bool r_7) rfl rfl rfl (by kernel_rfl) (by kernel_rfl) (by kernel_rfl) (ST.sel hS20 [0, 1] rfl rfl) (fun w' hw' => (Y_assign (v := .bool r_7) rfl rfl)) ?_
                refine ra_done (by kernel_rfl) ?_
                exact ⟨some ⟨b3, 0, none⟩, B2, c2, (FF.cons (hf.get 2 0 rfl) (FF.cons (hf.get 3 1 rfl) (FF.cons rfl (FF.cons rfl (FF.cons rfl (FF.cons (hf.get 18 2 rfl) FF.nil)))))), (hS20.sel [0, 1, 2, 3] rfl rfl)⟩
              exact allR_nil
            exact allR_nil
          exact allR_nil
        exact allR_nil
      rintro f w ⟨B3, B4, c3, hf1, hS8⟩
      refine cw_seq ?_
      refine cw_region ?_
      refine sq 28 rfl rfl (Y_move (v := .bool r_7) rfl (hf1.get 9 4 rfl)) ?_
      refine sq 29 rfl rfl (Y_move (v := .bool r_7) rfl rfl) ?_
      refine sgq 30 (B := r_7) (v := .agg #[.int .i64 a.Rows, .int .i64 a.Cols, .slice B a.Cells.length c]) rfl rfl (wt_t (gd_of (t := 29) (by kernel_rfl) rfl)) (fun hg3 => (Y_loadA (B := some ⟨b1, 0, none⟩) (i := 0) (cs := [.int .i64 a.Rows, .int .i64 a.Cols, .slice B a.Cells.length c]) (vs := [.int .i64 a.Rows, .int .i64 a.Cols, .slice B a.Cells.length c]) k_ag_26 k_sz_26_3 rfl (hf1.get 2 0 rfl) (hS8.cf (i := 0) rfl) rfl rfl)) ?_
      refine sgq 31 (B := r_7) (v := .agg #[.int .i64 r_6.Rows, .int .i64 r_6.Cols, .slice B4 r_6.Cells.length c3]) rfl rfl (wt_t (gd_of (t := 29) (by kernel_rfl) rfl)) (fun hg4 => (Y_loadA (B := B3) (i := 0) (cs := [.int .i64 r_6.Rows, .int .i64 r_6.Cols, .slice B4 r_6.Cells.length c3]) (vs := [.int .i64 r_6.Rows, .int .i64 r_6.Cols, .slice B4 r_6.Cells.length c3]) k_ag_26 k_sz_26_3 rfl (hf1.get 8 3 rfl) (hS8.cf (i := 2) rfl) rfl rfl)) ?_
      obtain ⟨r_8, hc4, hb1⟩ := bind_inv hb1
      refine sgc 32 (B := r_7) (v := .bool r_8) (F := hS8.fn) rfl rfl (wt_t (gd_of (t := 29) (by kernel_rfl) rfl)) hS8 (fun hg5 => (Yc_func (g := 100) (vs := [.agg #[.int .i64 a.Rows, .int .i64 a.Cols, .slice B a.Cells.length c], .agg #[.int .i64 r_6.Rows, .int .i64 r_6.Cols, .slice B4 r_6.Cells.length c3]]) k_call_100 rfl (mc (gv_of (B := r_7) (v := .agg #[.int .i64 a.Rows, .int .i64 a.Cols, .slice B a.Cells.length c]) hg5) (mc (gv_of (B := r_7) (v := .agg #[.int .i64 r_6.Rows, .int .i64 r_6.Cols, .slice B4 r_6.Cells.length c3]) hg5) mn)) (CV.mono (c_impl_EqualMatrices a r_6 B c a.Cells.length B4 c3 r_6.Cells.length _ rfl rfl (hS8.inn0 [(true, 0), (false, 3)] rfl) (gb_inv hc4 hg5)) (by rintro _ _ ⟨rfl, h⟩; exact ⟨rfl, hS8.out00 h⟩)))) ?_
      rintro w_15 hS21
      have hS21 : ST _ _ w_15 _ _ := hS21
      refine sq 33 rfl rfl (Y_and (b := r_7) (z := r_8) rfl rfl rfl rfl) ?_
      refine rw_nil ?_
      refine cw_cond (b := (r_7 && r_8)) rfl (fun hb2 => ?_) (fun hb2 => ?_)
      · skip
        have hF4 := ct hb1 hb2
        refine cw_seq ?_
        refine cw_region ?_
        refine sq 34 rfl rfl (Y_move (v := .int .i64 (i : Int)) rfl (hf1.get 7 2 rfl)) ?_
        refine sq 4 rfl rfl (Y_assign (v := .int .i64 (i : Int)) rfl rfl) ?_
        refine sq 5 rfl rfl (Y_assign (v := .bool true) rfl rfl) ?_
        refine sq 6 rfl rfl (Y_assign (v := .bool true) rfl rfl) ?_
        refine rw_nil ?_
        refine cw_ret ?_
        obtain rfl := some_inj hF4
        obtain rfl := some_inj hL1
        obtain ⟨rfl, rfl, rfl⟩ := pr3 (some_inj hF3)
        exact ret3 Try.results102 (v1 := .int .i64 (i : Int)) (resAt_tmp rfl) (v2 := .bool true) (resAt_tmp rfl) (v3 := .bool true) (resAt_tmp rfl) ⟨rfl, (ST.subR (R' := []) (hS21.sel [] rfl rfl) (fun _ h => by cases h))⟩
      · skip
        have hF5 := cf' hb1 hb2
        refine cw_skip ?_
        refine cw_region ?_
        refine sq 35 rfl rfl (Y_add (k := .i64) (a := (i : Int)) (b := 1) rfl (hf1.get 18 5 rfl) rfl) ?_
        refine sq 18 rfl rfl (Y_move (v := .int .i64 (IntKind.i64.wrap ((i : Int) + 1))) rfl rfl) ?_
        refine rw_nil ?_
        obtain rfl := some_inj hF5
        exact ⟨k_1, Nat.lt_succ_self _, i + 1, (FF.cons (hf1.get 2 0 rfl) (FF.cons (hf1.get 3 1 rfl) (FF.cons (congrArg (Value.int .i64) (wr_succ hlt1 (show 8 ≤ 9223372036854775807 by decide))) FF.nil))), (hS21.sel [0, 1] rfl rfl), (by omega), hL1⟩
    · skip
      obtain rfl : k_ = 0 := by have h := of_decide_eq_false hlt; omega
      refine cw_exit rfl ?_
      obtain rfl := some_inj hL
      refine cw_seq ?_
      refine cw_region ?_
      refine sq 4 rfl rfl (Y_assign (v := .int .i64 0) rfl rfl) ?_
      refine sq 5 rfl rfl (Y_assign (v := .bool false) rfl rfl) ?_
      refine sq 6 rfl rfl (Y_assign (v := .bool true) rfl rfl) ?_
      refine rw_nil ?_
      refine cw_ret ?_
      obtain ⟨rfl, rfl, rfl⟩ := pr3 (some_inj hF3)
      exact ret3 Try.results102 (v1 := .int .i64 0) (resAt_tmp rfl) (v2 := .bool false) (resAt_tmp rfl) (v3 := .bool true) (resAt_tmp rfl) ⟨rfl, (ST.subR (R' := []) (hS5.sel [] rfl rfl) (fun _ h => by cases h))⟩

theorem c_impl_IsPhase (c : TCircuit) (B : Option Addr) (c1 n : Nat) (w0 : World) (hn : c.Gates.length = n) (hS : ST w0 [] w0 [] [⟨B, (c.Gates.flatMap enc_Gate)⟩]) {r_ : Int} {r_1 : Bool} {r_2 : Bool} (hF : F_impl_IsPhase c = some (r_, r_1, r_2)) :
    CV Try.prog 39 #[.agg #[.int .i64 c.Qubits, .slice B n c1]] w0 (fun v w' => v = .tuple #[.int .i64 r_, .bool r_1, .bool r_2] ∧ ST w0 [] w' [] []) := by
  subst hn
  unfold F_impl_IsPhase at hF
  refine cv_of_cw 28 Try.func39 rfl Try.ntmps39 rfl ?_
  refine cw_seq ?_
  refine cw_region ?_
  refine ss 1 rfl rfl (Ys_box (T := 57) (v := .agg #[.int .i64 c.Qubits, .slice B c.Gates.length c1]) (cs := [.int .i64 c.Qubits, .slice B c.Gates.length c1]) (m := 2) hS rfl rfl rfl rfl) ?_
  rintro _ w_ ⟨b, rfl, hS1⟩
  refine sq 2 rfl rfl (Y_assign (v := .int .i64 0) rfl rfl) ?_
  refine sq 3 rfl rfl (Y_assign (v := .bool false) rfl rfl) ?_
  refine sq 4 rfl rfl (Y_assign (v := .bool false) rfl rfl) ?_
  refine rw_nil ?_
  refine cw_seq ?_
  refine cw_region ?_
  refine sq 10 rfl rfl (Y_loadA (B := some ⟨b, 0, none⟩) (i := 0) (cs := [.int .i64 c.Qubits, .slice B c.Gates.length c1]) (vs := [.int .i64 c.Qubits, .slice B c.Gates.length c1]) k_ag_57 k_sz_57_2 rfl rfl (hS1.cf (i := 0) rfl) rfl rfl) ?_
  obtain ⟨⟨r_3, r_4⟩, hc, hF⟩ := bind_inv hF
  refine sc 11 rfl rfl (Yc_func (g := 65) (vs := [.agg #[.int .i64 c.Qubits, .slice B c.Gates.length c1]]) k_call_65 rfl (mc rfl mn) (c_impl_OperatorOf c B c1 c.Gates.length _ rfl (hS1.inn0 [(true, 0)] rfl) hc)) ?_
  rintro _ w_1 ⟨B1, c2, rfl, hd⟩
  have hS2 := hS1.out0 hd
  have hS2 : ST w0 [] _ [⟨some ⟨b, 0, none⟩, 57, [.int .i64 c.Qubits, .slice B c.Gates.length c1], 2⟩, ⟨B1, 83, (r_3.Cells.flatMap enc_Dyadic), c2 * 5⟩] [⟨B, (c.Gates.flatMap enc_Gate)⟩] := hS2
  refine sq 9 rfl rfl (Y_move (v := .tuple #[.agg #[.int .i64 r_3.Rows, .int .i64 r_3.Cols, .slice B1 r_3.Cells.length c2], .bool r_4]) rfl rfl) ?_
  refine sq 12 rfl rfl (Y_extract (v := .agg #[.int .i64 r_3.Rows, .int .i64 r_3.Cols, .slice B1 r_3.Cells.length c2]) rfl rfl rfl) ?_
  refine sq 13 rfl rfl (Y_extract (v := .bool r_4) rfl rfl rfl) ?_
  refine ss 5 rfl rfl (Ys_alloc (T := 26) (cs := [.int .i64 0, .int .i64 0, .slice none 0 0]) (m := 3) hS2 k_zero_26 rfl rfl rfl) ?_
  rintro _ w_2 ⟨b1, rfl, hS3⟩
  have hS3 : ST w0 [] _ [⟨some ⟨b, 0, none⟩, 57, [.int .i64 c.Qubits, .slice B c.Gates.length c1], 2⟩, ⟨B1, 83, (r_3.Cells.flatMap enc_Dyadic), c2 * 5⟩, ⟨some ⟨b1, 0, none⟩, 26, [.int .i64 0, .int .i64 0, .slice none 0 0], 3⟩] [⟨B, (c.Gates.flatMap enc_Gate)⟩] := hS3
  refine ss0 rfl rfl (Ys_store (i := 2) (s := 3) (B := some ⟨b1, 0, none⟩) (T' := 26) (v := .agg #[.int .i64 r_3.Rows, .int .i64 r_3.Cols, .slice B1 r_3.Cells.length c2]) (vs := [.int .i64 r_3.Rows, .int .i64 r_3.Cols, .slice B1 r_3.Cells.length c2]) (k := 0) (cs' := [.int .i64 r_3.Rows, .int .i64 r_3.Cols, .slice B1 r_3.Cells.length c2]) hS3 k_sz_26_3 rfl rfl rfl rfl rfl rfl rfl (Nat.le_of_ble_eq_true rfl) rfl rfl) ?_
  rintro _ w_3 ⟨rfl, hS4⟩
  have hS4 : ST w0 [] _ [⟨some ⟨b, 0, none⟩, 57, [.int .i64 c.Qubits, .slice B c.Gates.length c1], 2⟩, ⟨B1, 83, (r_3.Cells.flatMap enc_Dyadic), c2 * 5⟩, ⟨some ⟨b1, 0, none⟩, 26, [.int .i64 r_3.Rows, .int .i64 r_3.Cols, .slice B1 r_3.Cells.length c2], 3⟩] [⟨B, (c.Gates.flatMap enc_Gate)⟩] := hS4
  refine sq 6 rfl rfl (Y_assign (v := .bool r_4) rfl rfl) ?_
  refine rw_nil ?_
  refine cw_seq ?_
  refine cw_seq ?_
  refine cw_region ?_
  refine sq 14 rfl rfl (Y_move (v := .bool r_4) rfl rfl) ?_
  refine sq 15 rfl rfl (Y_not (p := r_4) rfl rfl) ?_
  refine rw_nil ?_
  refine cw_cond (b := (!r_4)) rfl (fun hb => ?_) (fun hb => ?_)
  · skip
    have hF1 := ct hF hb
    refine cw_seq ?_
    refine cw_region ?_
    refine sq 2 rfl rfl (Y_assign (v := .int .i64 0) rfl rfl) ?_
    refine sq 3 rfl rfl (Y_assign (v := .bool false) rfl rfl) ?_
    refine sq 4 rfl rfl (Y_assign (v := .bool false) rfl rfl) ?_
    refine rw_nil ?_
    refine cw_ret ?_
    obtain ⟨rfl, rfl, rfl⟩ := pr3 (some_inj hF1)
    exact ret3 Try.results39 (v1 := .int .i64 0) (resAt_tmp rfl) (v2 := .bool false) (resAt_tmp rfl) (v3 := .bool false) (resAt_tmp rfl) ⟨rfl, (ST.subR (R' := []) (hS4.sel [] rfl rfl) (fun _ h => by cases h))⟩
  · skip
    have hF2 := cf' hF hb
    refine cw_skip ?_
    refine cw_seq ?_
    refine cw_region ?_
    refine sq 17 rfl rfl (Y_fieldAddr (B := some ⟨b1, 0, none⟩) (i := 0) (s := 0) k_fd_26_0_0_3 k_sz_3_1 rfl rfl) ?_
    refine sq 18 rfl rfl (Y_load1 (B := some ⟨b1, 0, none⟩) (i := 0) (cs := [.int .i64 r_3.Rows, .int .i64 r_3.Cols, .slice B1 r_3.Cells.length c2]) (v := .int .i64 r_3.Rows) k_sc_3 rfl rfl (hS4.cf (i := 2) rfl) rfl) ?_
    obtain ⟨⟨r_5, r_6⟩, hc1, hF2⟩ := bind_inv hF2
    refine sc 19 rfl rfl (Yc_func (g := 72) (vs := [.int .i64 r_3.Rows]) k_call_72 rfl (mc rfl mn) (c_impl_IdentityMatrix r_3.Rows _  (hS4.inn0 [] rfl) hc1)) ?_
    rintro _ w_4 ⟨B2, c3, rfl, hd1⟩
    have hS5 := hS4.out0 hd1
    have hS5 : ST w0 [] _ [⟨some ⟨b, 0, none⟩, 57, [.int .i64 c.Qubits, .slice B c.Gates.length c1], 2⟩, ⟨B1, 83, (r_3.Cells.flatMap enc_Dyadic), c2 * 5⟩, ⟨some ⟨b1, 0, none⟩, 26, [.int .i64 r_3.Rows, .int .i64 r_3.Cols, .slice B1 r_3.Cells.length c2], 3⟩, ⟨B2, 83, (r_5.Cells.flatMap enc_Dyadic), c3 * 5⟩] [⟨B, (c.Gates.flatMap enc_Gate)⟩] := hS5
    refine sq 16 rfl rfl (Y_move (v := .tuple #[.agg #[.int .i64 r_5.Rows, .int .i64 r_5.Cols, .slice B2 r_5.Cells.length c3], .bool r_6]) rfl rfl) ?_
    refine sq 20 rfl rfl (Y_extract (v := .agg #[.int .i64 r_5.Rows, .int .i64 r_5.Cols, .slice B2 r_5.Cells.length c3]) rfl rfl rfl) ?_
    refine sq 21 rfl rfl (Y_extract (v := .bool r_6) rfl rfl rfl) ?_
    refine ss 7 rfl rfl (Ys_alloc (T := 26) (cs := [.int .i64 0, .int .i64 0, .slice none 0 0]) (m := 3) hS5 k_zero_26 rfl rfl rfl) ?_
    rintro _ w_5 ⟨b2, rfl, hS6⟩
    have hS6 : ST w0 [] _ [⟨some ⟨b, 0, none⟩, 57, [.int .i64 c.Qubits, .slice B c.Gates.length c1], 2⟩, ⟨B1, 83, (r_3.Cells.flatMap enc_Dyadic), c2 * 5⟩, ⟨some ⟨b1, 0, none⟩, 26, [.int .i64 r_3.Rows, .int .i64 r_3.Cols, .slice B1 r_3.Cells.length c2], 3⟩, ⟨B2, 83, (r_5.Cells.flatMap enc_Dyadic), c3 * 5⟩, ⟨some ⟨b2, 0, none⟩, 26, [.int .i64 0, .int .i64 0, .slice none 0 0], 3⟩] [⟨B, (c.Gates.flatMap enc_Gate)⟩] := hS6
    refine ss0 rfl rfl (Ys_store (i := 4) (s := 3) (B := some ⟨b2, 0, none⟩) (T' := 26) (v := .agg #[.int .i64 r_5.Rows, .int .i64 r_5.Cols, .slice B2 r_5.Cells.length c3]) (vs := [.int .i64 r_5.Rows, .int .i64 r_5.Cols, .slice B2 r_5.Cells.length c3]) (k := 0) (cs' := [.int .i64 r_5.Rows, .int .i64 r_5.Cols, .slice B2 r_5.Cells.length c3]) hS6 k_sz_26_3 rfl rfl rfl rfl rfl rfl rfl (Nat.le_of_ble_eq_true rfl) rfl rfl) ?_
    rintro _ w_6 ⟨rfl, hS7⟩
    have hS7 : ST w0 [] _ [⟨some ⟨b, 0, none⟩, 57, [.int .i64 c.Qubits, .slice B c.Gates.length c1], 2⟩, ⟨B1, 83, (r_3.Cells.flatMap enc_Dyadic), c2 * 5⟩, ⟨some ⟨b1, 0, none⟩, 26, [.int .i64 r_3.Rows, .int .i64 r_3.Cols, .slice B1 r_3.Cells.length c2], 3⟩, ⟨B2, 83, (r_5.Cells.flatMap enc_Dyadic), c3 * 5⟩, ⟨some ⟨b2, 0, none⟩, 26, [.int .i64 r_5.Rows, .int .i64 r_5.Cols, .slice B2 r_5.Cells.length c3], 3⟩] [⟨B, (c.Gates.flatMap enc_Gate)⟩] := hS7
    refine sq 8 rfl rfl (Y_assign (v := .bool r_6) rfl rfl) ?_
    refine rw_nil ?_
    refine cw_seq ?_
    refine cw_region ?_
    refine sq 22 rfl rfl (Y_loadA (B := some ⟨b1, 0, none⟩) (i := 0) (cs := [.int .i64 r_3.Rows, .int .i64 r_3.Cols, .slice B1 r_3.Cells.length c2]) (vs := [.int .i64 r_3.Rows, .int .i64 r_3.Cols, .slice B1 r_3.Cells.length c2]) k_ag_26 k_sz_26_3 rfl rfl (hS7.cf (i := 2) rfl) rfl rfl) ?_
    refine sq 23 rfl rfl (Y_loadA (B := some ⟨b2, 0, none⟩) (i := 0) (cs := [.int .i64 r_5.Rows, .int .i64 r_5.Cols, .slice B2 r_5.Cells.length c3]) (vs := [.int .i64 r_5.Rows, .int .i64 r_5.Cols, .slice B2 r_5.Cells.length c3]) k_ag_26 k_sz_26_3 rfl rfl (hS7.cf (i := 4) rfl) rfl rfl) ?_
    obtain ⟨⟨r_7, r_8, r_9⟩, hc2, hF2⟩ := bind_inv hF2
    refine sc 24 rfl rfl (Yc_func (g := 102) (vs := [.agg #[.int .i64 r_3.Rows, .int .i64 r_3.Cols, .slice B1 r_3.Cells.length c2], .agg #[.int .i64 r_5.Rows, .int .i64 r_5.Cols, .slice B2 r_5.Cells.length c3]]) k_call_102 rfl (mc rfl (mc rfl mn)) (c_impl_EqualUpToPhase r_3 r_5 B1 c2 r_3.Cells.length B2 c3 r_5.Cells.length _ rfl rfl (hS7.inn0 [(false, 1), (false, 3)] rfl) hc2)) ?_
    rintro _ w_7 ⟨rfl, hd2⟩
    have hS8 := hS7.out00 hd2
    have hS8 : ST w0 [] _ [⟨some ⟨b, 0, none⟩, 57, [.int .i64 c.Qubits, .slice B c.Gates.length c1], 2⟩, ⟨B1, 83, (r_3.Cells.flatMap enc_Dyadic), c2 * 5⟩, ⟨some ⟨b1, 0, none⟩, 26, [.int .i64 r_3.Rows, .int .i64 r_3.Cols, .slice B1 r_3.Cells.length c2], 3⟩, ⟨B2, 83, (r_5.Cells.flatMap enc_Dyadic), c3 * 5⟩, ⟨some ⟨b2, 0, none⟩, 26, [.int .i64 r_5.Rows, .int .i64 r_5.Cols, .slice B2 r_5.Cells.length c3], 3⟩] [⟨B, (c.Gates.flatMap enc_Gate)⟩] := hS8
    refine sq 25 rfl rfl (Y_extract (v := .int .i64 r_7) rfl rfl rfl) ?_
    refine sq 26 rfl rfl (Y_extract (v := .bool r_8) rfl rfl rfl) ?_
    refine sq 27 rfl rfl (Y_extract (v := .bool r_9) rfl rfl rfl) ?_
    refine sq 2 rfl rfl (Y_assign (v := .int .i64 r_7) rfl rfl) ?_
    refine sq 3 rfl rfl (Y_assign (v := .bool r_8) rfl rfl) ?_
    refine sq 4 rfl rfl (Y_assign (v := .bool r_9) rfl rfl) ?_
    refine rw_nil ?_
    refine cw_ret ?_
    obtain ⟨rfl, rfl, rfl⟩ := pr3 (some_inj hF2)
    exact ret3 Try.results39 (v1 := .int .i64 r_7) (resAt_tmp rfl) (v2 := .bool r_8) (resAt_tmp rfl) (v3 := .bool r_9) (resAt_tmp rfl) ⟨rfl, (ST.subR (R' := []) (hS8.sel [] rfl rfl) (fun _ h => by cases h))⟩

theorem c_laws_FnExactIsPhase (aC : TCircuit) (B : Option Addr) (c n : Nat) (w0 : World) (hn : aC.Gates.length = n) (hS : ST w0 [] w0 [] [⟨B, (aC.Gates.flatMap enc_Gate)⟩]) {r_ : Bool} (hF : F_laws_FnExactIsPhase aC = some r_) :
    CV Try.prog 6 #[.agg #[.int .i64 aC.Qubits, .slice B n c]] w0 (fun v w' => v = .bool r_ ∧ ST w0 [] w' [] []) := by
  subst hn
  unfold F_laws_FnExactIsPhase at hF
  refine cv_of_cw 49 Try.func6 rfl Try.ntmps6 rfl ?_
  refine cw_seq ?_
  refine cw_region ?_
  refine ss 1 rfl rfl (Ys_box (T := 41) (v := .agg #[.int .i64 aC.Qubits, .slice B aC.Gates.length c]) (cs := [.int .i64 aC.Qubits, .slice B aC.Gates.length c]) (m := 2) hS rfl rfl rfl rfl) ?_
  rintro _ w_ ⟨b, rfl, hS1⟩
  refine sq 2 rfl rfl (Y_assign (v := .bool false) rfl rfl) ?_
  refine rw_nil ?_
  refine cw_seq ?_
  refine cw_region ?_
  refine sq 3 rfl rfl (Y_assign (v := .int .i64 1048576) rfl rfl) ?_
  refine rw_nil ?_
  refine cw_seq ?_
  refine cw_region ?_
  refine sq 11 rfl rfl (Y_loadA (B := some ⟨b, 0, none⟩) (i := 0) (cs := [.int .i64 aC.Qubits, .slice B aC.Gates.length c]) (vs := [.int .i64 aC.Qubits, .slice B aC.Gates.length c]) k_ag_41 k_sz_41_2 rfl rfl (hS1.cf (i := 0) rfl) rfl rfl) ?_
  refine sq 12 rfl rfl (Y_move (v := .int .i64 1048576) rfl rfl) ?_
  obtain ⟨r_1, hc, hF⟩ := bind_inv hF
  refine sc 13 rfl rfl (Yc_func (g := 24) (vs := [.agg #[.int .i64 aC.Qubits, .slice B aC.Gates.length c], .int .i64 1048576]) k_call_24 rfl (mc rfl (mc rfl mn)) (c_laws_szCircuit aC 1048576 B c aC.Gates.length _ rfl (hS1.inn0 [(true, 0)] rfl) hc)) ?_
  rintro _ w_1 ⟨rfl, hd⟩
  have hS2 := hS1.out00 hd
  refine sq 3 rfl rfl (Y_assign (v := .int .i64 r_1) rfl rfl) ?_
  refine rw_nil ?_
  refine cw_seq ?_
  refine cw_seq ?_
  refine cw_region ?_
  refine sq 14 rfl rfl (Y_move (v := .int .i64 r_1) rfl rfl) ?_
  refine sq 15 rfl rfl (Y_lt (k := .i64) (a := r_1) (b := 0) rfl rfl rfl) ?_
  refine rw_nil ?_
  refine cw_cond (b := (decide (r_1 < 0))) rfl (fun hb => ?_) (fun hb => ?_)
  · skip
    have hF1 := ct hF hb
    refine cw_seq ?_
    refine cw_region ?_
    refine sq 2 rfl rfl (Y_assign (v := .bool true) rfl rfl) ?_
    refine rw_nil ?_
    refine cw_ret ?_
    obtain rfl := some_inj hF1
    exact ret1 Try.results6 (v1 := .bool true) (resAt_tmp rfl) ⟨rfl, (ST.subR (R' := []) (hS2.sel [] rfl rfl) (fun _ h => by cases h))⟩
  · skip
    have hF2 := cf' hF hb
    refine cw_skip ?_
    refine cw_seq ?_
    refine cw_region ?_
    refine sq 17 rfl rfl (Y_loadA (B := some ⟨b, 0, none⟩) (i := 0) (cs := [.int .i64 aC.Qubits, .slice B aC.Gates.length c]) (vs := [.int .i64 aC.Qubits, .slice B aC.Gates.length c]) k_ag_41 k_sz_41_2 rfl rfl (hS2.cf (i := 0) rfl) rfl rfl) ?_
    obtain ⟨r_2, hc1, hF2⟩ := bind_inv hF2
    refine sc 18 rfl rfl (Yc_func (g := 28) (vs := [.agg #[.int .i64 aC.Qubits, .slice B aC.Gates.length c]]) k_call_28 rfl (mc rfl mn) (c_laws_toCircuit aC B c aC.Gates.length _ rfl (hS2.inn0 [(true, 0)] rfl) hc1)) ?_
    rintro _ w_2 ⟨B1, c1, rfl, hd1⟩
    have hS3 := hS2.out0 hd1
    have hS3 : ST w0 [] _ [⟨some ⟨b, 0, none⟩, 41, [.int .i64 aC.Qubits, .slice B aC.Gates.length c], 2⟩, ⟨B1, 171, (r_2.Gates.flatMap enc_Gate), c1 * 3⟩] [⟨B, (aC.Gates.flatMap enc_Gate)⟩] := hS3
    obtain ⟨⟨r_3, r_4, r_5⟩, hc2, hF2⟩ := bind_inv hF2
    refine sc 19 rfl rfl (Yc_func (g := 38) (vs := [.agg #[.int .i64 r_2.Qubits, .slice B1 r_2.Gates.length c1]]) k_call_38 rfl (mc rfl mn) (c_spec_IsPhase r_2 B1 c1 r_2.Gates.length _ rfl (hS3.inn0 [(false, 1)] rfl) hc2)) ?_
    rintro _ w_3 ⟨rfl, hd2⟩
    have hS4 := hS3.out00 hd2
    have hS4 : ST w0 [] _ [⟨some ⟨b, 0, none⟩, 41, [.int .i64 aC.Qubits, .slice B aC.Gates.length c], 2⟩, ⟨B1, 171, (r_2.Gates.flatMap enc_Gate), c1 * 3⟩] [⟨B, (aC.Gates.flatMap enc_Gate)⟩] := hS4
    refine sq 16 rfl rfl (Y_move (v := .tuple #[.int .i64 r_3, .bool r_4, .bool r_5]) rfl rfl) ?_
    refine sq 20 rfl rfl (Y_extract (v := .int .i64 r_3) rfl rfl rfl) ?_
    refine sq 21 rfl rfl (Y_extract (v := .bool r_4) rfl rfl rfl) ?_
    refine sq 22 rfl rfl (Y_extract (v := .bool r_5) rfl rfl rfl) ?_
    refine sq 4 rfl rfl (Y_assign (v := .int .i64 r_3) rfl rfl) ?_
    refine sq 5 rfl rfl (Y_assign (v := .bool r_4) rfl rfl) ?_
    refine sq 6 rfl rfl (Y_assign (v := .bool r_5) rfl rfl) ?_
    refine rw_nil ?_
    refine cw_seq ?_
    refine cw_region ?_
    refine sq 23 rfl rfl (Y_loadA (B := some ⟨b, 0, none⟩) (i := 0) (cs := [.int .i64 aC.Qubits, .slice B aC.Gates.length c]) (vs := [.int .i64 aC.Qubits, .slice B aC.Gates.length c]) k_ag_41 k_sz_41_2 rfl rfl (hS4.cf (i := 0) rfl) rfl rfl) ?_
    obtain ⟨r_6, hc3, hF2⟩ := bind_inv hF2
    refine sc 24 rfl rfl (Yc_func (g := 28) (vs := [.agg #[.int .i64 aC.Qubits, .slice B aC.Gates.length c]]) k_call_28 rfl (mc rfl mn) (c_laws_toCircuit aC B c aC.Gates.length _ rfl (hS4.inn0 [(true, 0)] rfl) hc3)) ?_
    rintro _ w_4 ⟨B2, c2, rfl, hd3⟩
    have hS5 := hS4.out0 hd3
    have hS5 : ST w0 [] _ [⟨some ⟨b, 0, none⟩, 41, [.int .i64 aC.Qubits, .slice B aC.Gates.length c], 2⟩, ⟨B1, 171, (r_2.Gates.flatMap enc_Gate), c1 * 3⟩, ⟨B2, 171, (r_6.Gates.flatMap enc_Gate), c2 * 3⟩] [⟨B, (aC.Gates.flatMap enc_Gate)⟩] := hS5
    refine ss 7 rfl rfl (Ys_alloc (T := 57) (cs := [.int .i64 0, .slice none 0 0]) (m := 2) hS5 k_zero_57 rfl rfl rfl) ?_
    rintro _ w_5 ⟨b1, rfl, hS6⟩
    have hS6 : ST w0 [] _ [⟨some ⟨b, 0, none⟩, 41, [.int .i64 aC.Qubits, .slice B aC.Gates.length c], 2⟩, ⟨B1, 171, (r_2.Gates.flatMap enc_Gate), c1 * 3⟩, ⟨B2, 171, (r_6.Gates.flatMap enc_Gate), c2 * 3⟩, ⟨some ⟨b1, 0, none⟩, 57, [.int .i64 0, .slice none 0 0], 2⟩] [⟨B, (aC.Gates.flatMap enc_Gate)⟩] := hS6
    refine ss0 rfl rfl (Ys_store (i := 3) (s := 2) (B := some ⟨b1, 0, none⟩) (T' := 57) (v := .agg #[.int .i64 r_6.Qubits, .slice B2 r_6.Gates.length c2]) (vs := [.int .i64 r_6.Qubits, .slice B2 r_6.Gates.length c2]) (k := 0) (cs' := [.int .i64 r_6.Qubits, .slice B2 r_6.Gates.length c2]) hS6 k_sz_57_2 rfl rfl rfl rfl rfl rfl rfl (Nat.le_of_ble_eq_true rfl) rfl rfl) ?_
    rintro _ w_6 ⟨rfl, hS7⟩
    have hS7 : ST w0 [] _ [⟨some ⟨b, 0, none⟩, 41, [.int .i64 aC.Qubits, .slice B aC.Gates.length c], 2⟩, ⟨B1, 171, (r_2.Gates.flatMap enc_Gate), c1 * 3⟩, ⟨B2, 171, (r_6.Gates.flatMap enc_Gate), c2 * 3⟩, ⟨some ⟨b1, 0, none⟩, 57, [.int .i64 r_6.Qubits, .slice B2 r_6.Gates.length c2], 2⟩] [⟨B, (aC.Gates.flatMap enc_Gate)⟩] := hS7
    refine rw_nil ?_
    refine cw_seq ?_
    refine cw_region ?_
    refine sq 26 rfl rfl (Y_loadA (B := some ⟨b1, 0, none⟩) (i := 0) (cs := [.int .i64 r_6.Qubits, .slice B2 r_6.Gates.length c2]) (vs := [.int .i64 r_6.Qubits, .slice B2 r_6.Gates.length c2]) k_ag_57 k_sz_57_2 rfl rfl (hS7.cf (i := 3) rfl) rfl rfl) ?_
    obtain ⟨⟨r_7, r_8, r_9⟩, hc4, hF2⟩ := bind_inv hF2
    refine sc 27 rfl rfl (Yc_func (g := 39) (vs := [.agg #[.int .i64 r_6.Qubits, .slice B2 r_6.Gates.length c2]]) k_call_39 rfl (mc rfl mn) (c_impl_IsPhase r_6 B2 c2 r_6.Gates.length _ rfl (hS7.inn0 [(false, 2)] rfl) hc4)) ?_
    rintro _ w_7 ⟨rfl, hd4⟩
    have hS8 := hS7.out00 hd4
    have hS8 : ST w0 [] _ [⟨some ⟨b, 0, none⟩, 41, [.int .i64 aC.Qubits, .slice B aC.Gates.length c], 2⟩, ⟨B1, 171, (r_2.Gates.flatMap enc_Gate), c1 * 3⟩, ⟨B2, 171, (r_6.Gates.flatMap enc_Gate), c2 * 3⟩, ⟨some ⟨b1, 0, none⟩, 57, [.int .i64 r_6.Qubits, .slice B2 r_6.Gates.length c2], 2⟩] [⟨B, (aC.Gates.flatMap enc_Gate)⟩] := hS8
    refine sq 25 rfl rfl (Y_move (v := .tuple #[.int .i64 r_7, .bool r_8, .bool r_9]) rfl rfl) ?_
    refine sq 28 rfl rfl (Y_extract (v := .int .i64 r_7) rfl rfl rfl) ?_
    refine sq 29 rfl rfl (Y_extract (v := .bool r_8) rfl rfl rfl) ?_
    refine sq 30 rfl rfl (Y_extract (v := .bool r_9) rfl rfl rfl) ?_
    refine sq 8 rfl rfl (Y_assign (v := .int .i64 r_7) rfl rfl) ?_
    refine sq 9 rfl rfl (Y_assign (v := .bool r_8) rfl rfl) ?_
    refine sq 10 rfl rfl (Y_assign (v := .bool r_9) rfl rfl) ?_
    refine rw_nil ?_
    refine cw_seq ?_
    refine cw_seq ?_
    refine cw_region ?_
    refine sq 31 rfl rfl (Y_move (v := .int .i64 r_7) rfl rfl) ?_
    refine sq 32 rfl rfl (Y_move (v := .int .i64 r_3) rfl rfl) ?_
    refine sq 33 rfl rfl (Y_ne (k := .i64) (a := r_7) (b := r_3) rfl rfl rfl) ?_
    refine sq 34 rfl rfl (Y_move (v := .bool (r_7 != r_3)) rfl rfl) ?_
    refine sgq 35 (B := (!(r_7 != r_3))) (v := .bool r_8) rfl rfl (wt_f (gd_of (t := 34) (by kernel_rfl) rfl)) (fun hg => (Y_move (v := .bool r_8) rfl rfl)) ?_
    refine sgq 36 (B := (!(r_7 != r_3))) (v := .bool r_4) rfl rfl (wt_f (gd_of (t := 34) (by kernel_rfl) rfl)) (fun hg1 => (Y_move (v := .bool r_4) rfl rfl)) ?_
    refine sgq 37 (B := (!(r_7 != r_3))) (v := .bool (!(r_8 == r_4))) rfl rfl (wt_f (gd_of (t := 34) (by kernel_rfl) rfl)) (fun hg2 => (Y_bne (p := r_8) (q := r_4) k_und_4 rfl (gv_of (B := (!(r_7 != r_3))) (v := .bool r_8) hg2) (gv_of (B := (!(r_7 != r_3))) (v := .bool r_4) hg2))) ?_
    refine sq 38 rfl rfl (Y_or (b := (r_7 != r_3)) (z := (!(r_8 == r_4))) rfl rfl rfl rfl) ?_
    refine sq 39 rfl rfl (Y_move (v := .bool ((r_7 != r_3) || (!(r_8 == r_4)))) rfl rfl) ?_
    refine sgq 40 (B := (!((r_7 != r_3) || (!(r_8 == r_4))))) (v := .bool r_9) rfl rfl (wt_f (gd_of (t := 39) (by kernel_rfl) rfl)) (fun hg3 => (Y_move (v := .bool r_9) rfl rfl)) ?_
    refine sgq 41 (B := (!((r_7 != r_3) || (!(r_8 == r_4))))) (v := .bool r_5) rfl rfl (wt_f (gd_of (t := 39) (by kernel_rfl) rfl)) (fun hg4 => (Y_move (v := .bool r_5) rfl rfl)) ?_
    refine sgq 42 (B := (!((r_7 != r_3) || (!(r_8 == r_4))))) (v := .bool (!(r_9 == r_5))) rfl rfl (wt_f (gd_of (t := 39) (by kernel_rfl) rfl)) (fun hg5 => (Y_bne (p := r_9) (q := r_5) k_und_4 rfl (gv_of (B := (!((r_7 != r_3) || (!(r_8 == r_4))))) (v := .bool r_9) hg5) (gv_of (B := (!((r_7 != r_3) || (!(r_8 == r_4))))) (v := .bool r_5) hg5))) ?_
    refine sq 43 rfl rfl (Y_or (b := ((r_7 != r_3) || (!(r_8 == r_4)))) (z := (!(r_9 == r_5))) rfl rfl rfl rfl) ?_
    refine rw_nil ?_
    refine cw_cond (b := (((r_7 != r_3) || (!(r_8 == r_4))) || (!(r_9 == r_5)))) rfl (fun hb1 => ?_) (fun hb1 => ?_)
    · skip
      have hF3 := ct hF2 hb1
      refine cw_seq ?_
      refine cw_region ?_
      refine sq 2 rfl rfl (Y_assign (v := .bool false) rfl rfl) ?_
      refine rw_nil ?_
      refine cw_ret ?_
      obtain rfl := some_inj hF3
      exact ret1 Try.results6 (v1 := .bool false) (resAt_tmp rfl) ⟨rfl, (ST.subR (R' := []) (hS8.sel [] rfl rfl) (fun _ h => by cases h))⟩
    · skip
      have hF4 := cf' hF2 hb1
      refine cw_skip ?_
      refine cw_seq ?_
      refine cw_seq ?_
      obtain ⟨r_10, hc5, hF4⟩ := bind_inv hF4
      obtain ⟨r_11, hc6, hF4⟩ := bind_inv hF4
      refine ra_start (ST.sel hS8 [0, 1, 2, 3] rfl rfl).fn (by kernel_rfl) ?_
      have hS11 := hS8.drew
      refine ra_q 0 44 (v := .agg #[.int .i64 r_6.Qubits, .slice B2 r_6.Gates.length c2]) rfl rfl rfl (by kernel_rfl) (by kernel_rfl) (by kernel_rfl) (ST.sel hS11 [0, 1, 2, 3] rfl rfl) (fun w' hw' => (Y_loadA (B := some ⟨b1, 0, none⟩) (i := 0) (cs := [.int .i64 r_6.Qubits, .slice B2 r_6.Gates.length c2]) (vs := [.int .i64 r_6.Qubits, .slice B2 r_6.Gates.length c2]) k_ag_57 k_sz_57_2 rfl rfl (ST.cf hw' (i := 3) rfl) rfl rfl)) ?_
      refine ra_q 1 45 (v := .agg #[.int .i64 aC.Qubits, .slice B aC.Gates.length c]) rfl rfl rfl (by kernel_rfl) (by kernel_rfl) (by kernel_rfl) (ST.sel hS11 [0, 1, 2, 3] rfl rfl) (fun w' hw' => (Y_loadA (B := some ⟨b, 0, none⟩) (i := 0) (cs := [.int .i64 aC.Qubits, .slice B aC.Gates.length c]) (vs := [.int .i64 aC.Qubits, .slice B aC.Gates.length c]) k_ag_41 k_sz_41_2 rfl rfl (ST.cf hw' (i := 0) rfl) rfl rfl)) ?_
      refine ra_all (rs := [2]) (by kernel_rfl) rfl ?_
      refine ra_c 46 (i := 2) rfl rfl rfl (Yc_func (g := 28) (vs := [.agg #[.int .i64 aC.Qubits, .slice B aC.Gates.length c]]) k_call_28 rfl (mc rfl mn) (c_laws_toCircuit aC B c aC.Gates.length _ rfl (hS11.inn0 [(true, 0)] rfl) hc5)) ?_ ?_
      · rintro _ w_8 ⟨B3, c3, rfl, hd5⟩
        have hS12 := hS11.out0 hd5
        have hS12 : ST w0 [] _ [⟨some ⟨b, 0, none⟩, 41, [.int .i64 aC.Qubits, .slice B aC.Gates.length c], 2⟩, ⟨B1, 171, (r_2.Gates.flatMap enc_Gate), c1 * 3⟩, ⟨B2, 171, (r_6.Gates.flatMap enc_Gate), c2 * 3⟩, ⟨some ⟨b1, 0, none⟩, 57, [.int .i64 r_6.Qubits, .slice B2 r_6.Gates.length c2], 2⟩, ⟨B3, 171, (r_10.Gates.flatMap enc_Gate), c3 * 3⟩] [⟨B, (aC.Gates.flatMap enc_Gate)⟩] := hS12
        refine ⟨(ST.sel hS12 [0, 1, 2, 3] rfl rfl), ?_⟩
        refine ra_all (rs := [3]) (by kernel_rfl) rfl ?_
        refine ra_c 47 (i := 3) rfl rfl rfl (Yc_func (g := 32) (vs := [.agg #[.int .i64 r_6.Qubits, .slice B2 r_6.Gates.length c2], .agg #[.int .i64 r_10.Qubits, .slice B3 r_10.Gates.length c3]]) k_call_32 rfl (mc rfl (mc rfl mn)) (c_laws_eqCircuit r_6 r_10 B2 c2 r_6.Gates.length B3 c3 r_10.Gates.length _ rfl rfl (hS12.inn0 [(false, 2), (false, 4)] rfl) hc6)) ?_ ?_
        · rintro _ w_9 ⟨rfl, hd6⟩
          have hS13 := hS12.out00 hd6
          have hS13 : ST w0 [] _ [⟨some ⟨b, 0, none⟩, 41, [.int .i64 aC.Qubits, .slice B aC.Gates.length c], 2⟩, ⟨B1, 171, (r_2.Gates.flatMap enc_Gate), c1 * 3⟩, ⟨B2, 171, (r_6.Gates.flatMap enc_Gate), c2 * 3⟩, ⟨some ⟨b1, 0, none⟩, 57, [.int .i64 r_6.Qubits, .slice B2 r_6.Gates.length c2], 2⟩, ⟨B3, 171, (r_10.Gates.flatMap enc_Gate), c3 * 3⟩] [⟨B, (aC.Gates.flatMap enc_Gate)⟩] := hS13
          refine ⟨(ST.sel hS13 [0, 1, 2, 3] rfl rfl), ?_⟩
          refine ra_q 4 48 (v := .bool (!r_11)) rfl rfl rfl (by kernel_rfl) (by kernel_rfl) (by kernel_rfl) (ST.sel hS13 [0, 1, 2, 3] rfl rfl) (fun w' hw' => (Y_not (p := r_11) rfl rfl)) ?_
          refine ra_done (by kernel_rfl) ?_
          refine cw_cond (b := (!r_11)) rfl (fun hb2 => ?_) (fun hb2 => ?_)
          · skip
            have hF5 := ct hF4 hb2
            refine cw_seq ?_
            refine cw_region ?_
            refine sq 2 rfl rfl (Y_assign (v := .bool false) rfl rfl) ?_
            refine rw_nil ?_
            refine cw_ret ?_
            obtain rfl := some_inj hF5
            exact ret1 Try.results6 (v1 := .bool false) (resAt_tmp rfl) ⟨rfl, (ST.subR (R' := []) (hS13.sel [] rfl rfl) (fun _ h => by cases h))⟩
          · skip
            have hF6 := cf' hF4 hb2
            refine cw_skip ?_
            refine cw_seq ?_
            refine cw_region ?_
            refine sq 2 rfl rfl (Y_assign (v := .bool true) rfl rfl) ?_
            refine rw_nil ?_
            refine cw_ret ?_
            obtain rfl := some_inj hF6
            exact ret1 Try.results6 (v1 := .bool true) (resAt_tmp rfl) ⟨rfl, (ST.subR (R' := []) (hS13.sel [] rfl rfl) (fun _ h => by cases h))⟩
        exact allR_nil
      exact allR_nil
end Go.VK
