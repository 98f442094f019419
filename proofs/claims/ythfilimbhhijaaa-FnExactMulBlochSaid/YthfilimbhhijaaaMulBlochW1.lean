/- Walks: each Go function returns what its Lean function says. By program. -/
import Derived.Test.YthfilimbhhijaaaMulBlochFa
set_option linter.unusedVariables false
set_option maxRecDepth 100000
set_option maxHeartbeats 1000000
namespace Go.VK
open Go.RowKit
open Go.Proofs
attribute [local irreducible] CW RW RA CV Y Yw Yc Ys RetOf
attribute [local irreducible] F_laws_szDyadicS F_laws_szBloch F_laws_toRing F_laws_toDyadic F_laws_toDyadicS F_laws_toBloch F_laws_eqRing F_laws_eqDyadic F_laws_eqDyadicS F_laws_eqBloch F_laws_markDyadicS F_laws_markBloch F_laws_heldDyadicS F_laws_heldBloch F_spec_l9Turn F_spec_l1Even F_spec_l1Root F_spec_l1Half F_spec_l2Low F_spec_l1In F_spec_l1All F_spec_l1Good F_spec_l2C_ring F_spec_l1Mul F_spec_l2C_mul F_spec_l1Add F_spec_l2C_add F_spec_l2C_bloch F_spec_l2Good F_spec_l1Neg F_spec_l2Neg F_spec_l2C_minor F_spec_l9Same F_spec_l1Turn F_spec_l2Power F_spec_l9Unit F_spec_l9Valid F_spec_MulBloch F_slices_IndexFunc_impl_Dyadic_impl_Dyadic F_slices_ContainsFunc_impl_Dyadic_impl_Dyadic F_impl_within F_impl_isCoef F_impl_IsValidRing F_impl_isEven F_impl_IsValidDyadic F_impl_isReal F_impl_IsValidBloch_1 F_impl_ringIf F_impl_MulRing F_impl_DivRootTwo F_impl_DyadicOf F_impl_MulDyadic F_impl_MulRootTwo F_impl_raised F_impl_combined F_impl_AddRing F_impl_AddDyadic F_impl_mulBloch F_impl_transposed F_impl_SubRing F_impl_SubDyadic F_impl_minor F_impl_determinant F_impl_whole F_impl_small F_impl_IsValidBloch F_impl_MulBloch F_laws_FnExactMulBloch
theorem c_laws_szDyadicS (a : List TDyadic) (left : Int) (B : Option Addr) (c n : Nat) (w0 : World) (hn : a.length = n) (hS : ST w0 [] w0 [] [⟨B, (a.flatMap enc_Dyadic)⟩]) {r_ : Int} (hF : F_laws_szDyadicS a left = some r_) :
    CV Try.prog 58 #[.slice B n c, .int .i64 left] w0 (fun v w' => v = .int .i64 r_ ∧ ST w0 [] w' [] []) := by
  subst hn
  unfold F_laws_szDyadicS at hF
  refine cv_of_cw 12 Try.func58 rfl Try.ntmps58 rfl ?_
  refine cw_seq ?_
  refine cw_region ?_
  refine sq 4 rfl rfl (Y_assign (v := .int .i64 0) rfl rfl) ?_
  refine rw_nil ?_
  refine cw_seq ?_
  refine cw_region ?_
  refine sq 5 rfl rfl (Y_move (v := .int .i64 left) rfl rfl) ?_
  refine sq 6 rfl rfl (Y_move (v := .slice B a.length c) rfl rfl) ?_
  refine sq 7 rfl rfl (Y_len (B := B) (m := a.length) (c := c) k_sl_22_158 rfl rfl) ?_
  refine sq 8 rfl rfl (Y_sub (k := .i64) (a := left) (b := (a.length : Int)) rfl rfl rfl) ?_
  refine sq 1 rfl rfl (Y_assign (v := .int .i64 (IntKind.i64.wrap (left - (a.length : Int)))) rfl rfl) ?_
  refine rw_nil ?_
  refine cw_seq ?_
  refine cw_seq ?_
  refine cw_region ?_
  refine sq 9 rfl rfl (Y_move (v := .int .i64 (IntKind.i64.wrap (left - (a.length : Int)))) rfl rfl) ?_
  refine sq 10 rfl rfl (Y_lt (k := .i64) (a := (IntKind.i64.wrap (left - (a.length : Int)))) (b := 0) rfl rfl rfl) ?_
  refine rw_nil ?_
  refine cw_cond (b := (decide ((IntKind.i64.wrap (left - (a.length : Int))) < 0))) rfl (fun hb => ?_) (fun hb => ?_)
  · skip
    have hF1 := ct hF hb
    refine cw_seq ?_
    refine cw_region ?_
    refine sq 4 rfl rfl (Y_assign (v := .int .i64 (-1)) rfl rfl) ?_
    refine rw_nil ?_
    refine cw_ret ?_
    obtain rfl := some_inj hF1
    exact ret1 Try.results58 (v1 := .int .i64 (-1)) (resAt_tmp rfl) ⟨rfl, (ST.subR (R' := []) (hS.sel [] rfl rfl) (fun _ h => by cases h))⟩
  · skip
    have hF2 := cf' hF hb
    refine cw_skip ?_
    refine cw_seq ?_
    refine cw_region ?_
    refine sq 11 rfl rfl (Y_move (v := .int .i64 (IntKind.i64.wrap (left - (a.length : Int)))) rfl rfl) ?_
    refine sq 4 rfl rfl (Y_assign (v := .int .i64 (IntKind.i64.wrap (left - (a.length : Int)))) rfl rfl) ?_
    refine rw_nil ?_
    refine cw_ret ?_
    obtain rfl := some_inj hF2
    exact ret1 Try.results58 (v1 := .int .i64 (IntKind.i64.wrap (left - (a.length : Int)))) (resAt_tmp rfl) ⟨rfl, (ST.subR (R' := []) (hS.sel [] rfl rfl) (fun _ h => by cases h))⟩

theorem c_laws_szBloch (a : TBloch) (left : Int) (B : Option Addr) (c n : Nat) (w0 : World) (hn : a.Cells.length = n) (hS : ST w0 [] w0 [] [⟨B, (a.Cells.flatMap enc_Dyadic)⟩]) {r_ : Int} (hF : F_laws_szBloch a left = some r_) :
    CV Try.prog 15 #[.agg #[.slice B n c], .int .i64 left] w0 (fun v w' => v = .int .i64 r_ ∧ ST w0 [] w' [] []) := by
  subst hn
  unfold F_laws_szBloch at hF
  refine cv_of_cw 12 Try.func15 rfl Try.ntmps15 rfl ?_
  refine cw_seq ?_
  refine cw_region ?_
  refine ss 2 rfl rfl (Ys_box (T := 24) (v := .agg #[.slice B a.Cells.length c]) (cs := [.slice B a.Cells.length c]) (m := 1) hS rfl rfl rfl rfl) ?_
  rintro _ w_ ⟨b, rfl, hS1⟩
  refine sq 4 rfl rfl (Y_assign (v := .int .i64 0) rfl rfl) ?_
  refine rw_nil ?_
  refine cw_seq ?_
  refine cw_region ?_
  refine sq 5 rfl rfl (Y_fieldAddr (B := some ⟨b, 0, none⟩) (i := 0) (s := 0) k_fd_24_0_0_22 k_sz_22_1 rfl rfl) ?_
  refine sq 6 rfl rfl (Y_load1 (B := some ⟨b, 0, none⟩) (i := 0) (cs := [.slice B a.Cells.length c]) (v := .slice B a.Cells.length c) k_sc_22 rfl rfl (hS1.cf (i := 0) rfl) rfl) ?_
  refine sq 7 rfl rfl (Y_move (v := .int .i64 left) rfl rfl) ?_
  obtain ⟨r_1, hc, hF⟩ := bind_inv hF
  refine sc 8 rfl rfl (Yc_func (g := 58) (vs := [.slice B a.Cells.length c, .int .i64 left]) k_call_58 rfl (mc rfl (mc rfl mn)) (c_laws_szDyadicS a.Cells left B c a.Cells.length _ rfl (hS1.inn0 [(true, 0)] rfl) hc)) ?_
  rintro _ w_1 ⟨rfl, hd⟩
  have hS2 := hS1.out00 hd
  refine sq 1 rfl rfl (Y_assign (v := .int .i64 r_1) rfl rfl) ?_
  refine rw_nil ?_
  refine cw_seq ?_
  refine cw_seq ?_
  refine cw_region ?_
  refine sq 9 rfl rfl (Y_move (v := .int .i64 r_1) rfl rfl) ?_
  refine sq 10 rfl rfl (Y_lt (k := .i64) (a := r_1) (b := 0) rfl rfl rfl) ?_
  refine rw_nil ?_
  refine cw_cond (b := (decide (r_1 < 0))) rfl (fun hb => ?_) (fun hb => ?_)
  · skip
    have hF1 := ct hF hb
    refine cw_seq ?_
    refine cw_region ?_
    refine sq 4 rfl rfl (Y_assign (v := .int .i64 (-1)) rfl rfl) ?_
    refine rw_nil ?_
    refine cw_ret ?_
    obtain rfl := some_inj hF1
    exact ret1 Try.results15 (v1 := .int .i64 (-1)) (resAt_tmp rfl) ⟨rfl, (ST.subR (R' := []) (hS2.sel [] rfl rfl) (fun _ h => by cases h))⟩
  · skip
    have hF2 := cf' hF hb
    refine cw_skip ?_
    refine cw_seq ?_
    refine cw_region ?_
    refine sq 11 rfl rfl (Y_move (v := .int .i64 r_1) rfl rfl) ?_
    refine sq 4 rfl rfl (Y_assign (v := .int .i64 r_1) rfl rfl) ?_
    refine rw_nil ?_
    refine cw_ret ?_
    obtain rfl := some_inj hF2
    exact ret1 Try.results15 (v1 := .int .i64 r_1) (resAt_tmp rfl) ⟨rfl, (ST.subR (R' := []) (hS2.sel [] rfl rfl) (fun _ h => by cases h))⟩

theorem c_laws_toRing (a : TRing)  (w0 : World)  (hS : ST w0 [] w0 [] []) {r_ : TRing} (hF : F_laws_toRing a = some r_) :
    CV Try.prog 184 #[.agg #[.int .i64 a.A, .int .i64 a.B, .int .i64 a.C, .int .i64 a.D]] w0 (fun v w' => v = .agg #[.int .i64 r_.A, .int .i64 r_.B, .int .i64 r_.C, .int .i64 r_.D] ∧ ST w0 [] w' [] []) := by
  unfold F_laws_toRing at hF
  refine cv_of_cw 17 Try.func184 rfl Try.ntmps184 rfl ?_
  refine cw_seq ?_
  refine cw_region ?_
  refine ss 1 rfl rfl (Ys_box (T := 156) (v := .agg #[.int .i64 a.A, .int .i64 a.B, .int .i64 a.C, .int .i64 a.D]) (cs := [.int .i64 a.A, .int .i64 a.B, .int .i64 a.C, .int .i64 a.D]) (m := 4) hS rfl rfl rfl rfl) ?_
  rintro _ w_ ⟨b, rfl, hS1⟩
  refine ss 2 rfl rfl (Ys_alloc (T := 89) (cs := [.int .i64 0, .int .i64 0, .int .i64 0, .int .i64 0]) (m := 4) hS1 k_zero_89 rfl rfl rfl) ?_
  rintro _ w_1 ⟨b1, rfl, hS2⟩
  have hS2 : ST w0 [] _ [⟨some ⟨b, 0, none⟩, 156, [.int .i64 a.A, .int .i64 a.B, .int .i64 a.C, .int .i64 a.D], 4⟩, ⟨some ⟨b1, 0, none⟩, 89, [.int .i64 0, .int .i64 0, .int .i64 0, .int .i64 0], 4⟩] [] := hS2
  refine rw_nil ?_
  refine cw_seq ?_
  refine cw_region ?_
  refine ss 3 rfl rfl (Ys_alloc (T := 89) (cs := [.int .i64 0, .int .i64 0, .int .i64 0, .int .i64 0]) (m := 4) hS2 k_zero_89 rfl rfl rfl) ?_
  rintro _ w_2 ⟨b2, rfl, hS3⟩
  have hS3 : ST w0 [] _ [⟨some ⟨b, 0, none⟩, 156, [.int .i64 a.A, .int .i64 a.B, .int .i64 a.C, .int .i64 a.D], 4⟩, ⟨some ⟨b1, 0, none⟩, 89, [.int .i64 0, .int .i64 0, .int .i64 0, .int .i64 0], 4⟩, ⟨some ⟨b2, 0, none⟩, 89, [.int .i64 0, .int .i64 0, .int .i64 0, .int .i64 0], 4⟩] [] := hS3
  refine rw_nil ?_
  refine cw_seq ?_
  refine cw_region ?_
  refine sq 4 rfl rfl (Y_fieldAddr (B := some ⟨b, 0, none⟩) (i := 0) (s := 0) k_fd_156_0_0_3 k_sz_3_1 rfl rfl) ?_
  refine sq 5 rfl rfl (Y_load1 (B := some ⟨b, 0, none⟩) (i := 0) (cs := [.int .i64 a.A, .int .i64 a.B, .int .i64 a.C, .int .i64 a.D]) (v := .int .i64 a.A) k_sc_3 rfl rfl (hS3.cf (i := 0) rfl) rfl) ?_
  refine sq 6 rfl rfl (Y_fieldAddr (B := some ⟨b2, 0, none⟩) (i := 0) (s := 0) k_fd_89_0_0_3 k_sz_3_1 rfl rfl) ?_
  refine ss0 rfl rfl (Ys_store (i := 2) (s := 1) (B := some ⟨b2, 0, none⟩) (T' := 89) (v := .int .i64 a.A) (vs := [.int .i64 a.A]) (k := 0) (cs' := [.int .i64 a.A, .int .i64 0, .int .i64 0, .int .i64 0]) hS3 k_sz_3_1 rfl rfl rfl rfl rfl rfl rfl (Nat.le_of_ble_eq_true rfl) rfl rfl) ?_
  rintro _ w_3 ⟨rfl, hS4⟩
  have hS4 : ST w0 [] _ [⟨some ⟨b, 0, none⟩, 156, [.int .i64 a.A, .int .i64 a.B, .int .i64 a.C, .int .i64 a.D], 4⟩, ⟨some ⟨b1, 0, none⟩, 89, [.int .i64 0, .int .i64 0, .int .i64 0, .int .i64 0], 4⟩, ⟨some ⟨b2, 0, none⟩, 89, [.int .i64 a.A, .int .i64 0, .int .i64 0, .int .i64 0], 4⟩] [] := hS4
  refine rw_nil ?_
  refine cw_seq ?_
  refine cw_region ?_
  refine sq 7 rfl rfl (Y_fieldAddr (B := some ⟨b, 0, none⟩) (i := 0) (s := 0) k_fd_156_1_1_3 k_sz_3_1 rfl rfl) ?_
  refine sq 8 rfl rfl (Y_load1 (B := some ⟨b, 0, none⟩) (i := 1) (cs := [.int .i64 a.A, .int .i64 a.B, .int .i64 a.C, .int .i64 a.D]) (v := .int .i64 a.B) k_sc_3 rfl rfl (hS4.cf (i := 0) rfl) rfl) ?_
  refine sq 9 rfl rfl (Y_fieldAddr (B := some ⟨b2, 0, none⟩) (i := 0) (s := 0) k_fd_89_1_1_3 k_sz_3_1 rfl rfl) ?_
  refine ss0 rfl rfl (Ys_store (i := 2) (s := 1) (B := some ⟨b2, 0, none⟩) (T' := 89) (v := .int .i64 a.B) (vs := [.int .i64 a.B]) (k := 1) (cs' := [.int .i64 a.A, .int .i64 a.B, .int .i64 0, .int .i64 0]) hS4 k_sz_3_1 rfl rfl rfl rfl rfl rfl rfl (Nat.le_of_ble_eq_true rfl) rfl rfl) ?_
  rintro _ w_4 ⟨rfl, hS5⟩
  have hS5 : ST w0 [] _ [⟨some ⟨b, 0, none⟩, 156, [.int .i64 a.A, .int .i64 a.B, .int .i64 a.C, .int .i64 a.D], 4⟩, ⟨some ⟨b1, 0, none⟩, 89, [.int .i64 0, .int .i64 0, .int .i64 0, .int .i64 0], 4⟩, ⟨some ⟨b2, 0, none⟩, 89, [.int .i64 a.A, .int .i64 a.B, .int .i64 0, .int .i64 0], 4⟩] [] := hS5
  refine rw_nil ?_
  refine cw_seq ?_
  refine cw_region ?_
  refine sq 10 rfl rfl (Y_fieldAddr (B := some ⟨b, 0, none⟩) (i := 0) (s := 0) k_fd_156_2_2_3 k_sz_3_1 rfl rfl) ?_
  refine sq 11 rfl rfl (Y_load1 (B := some ⟨b, 0, none⟩) (i := 2) (cs := [.int .i64 a.A, .int .i64 a.B, .int .i64 a.C, .int .i64 a.D]) (v := .int .i64 a.C) k_sc_3 rfl rfl (hS5.cf (i := 0) rfl) rfl) ?_
  refine sq 12 rfl rfl (Y_fieldAddr (B := some ⟨b2, 0, none⟩) (i := 0) (s := 0) k_fd_89_2_2_3 k_sz_3_1 rfl rfl) ?_
  refine ss0 rfl rfl (Ys_store (i := 2) (s := 1) (B := some ⟨b2, 0, none⟩) (T' := 89) (v := .int .i64 a.C) (vs := [.int .i64 a.C]) (k := 2) (cs' := [.int .i64 a.A, .int .i64 a.B, .int .i64 a.C, .int .i64 0]) hS5 k_sz_3_1 rfl rfl rfl rfl rfl rfl rfl (Nat.le_of_ble_eq_true rfl) rfl rfl) ?_
  rintro _ w_5 ⟨rfl, hS6⟩
  have hS6 : ST w0 [] _ [⟨some ⟨b, 0, none⟩, 156, [.int .i64 a.A, .int .i64 a.B, .int .i64 a.C, .int .i64 a.D], 4⟩, ⟨some ⟨b1, 0, none⟩, 89, [.int .i64 0, .int .i64 0, .int .i64 0, .int .i64 0], 4⟩, ⟨some ⟨b2, 0, none⟩, 89, [.int .i64 a.A, .int .i64 a.B, .int .i64 a.C, .int .i64 0], 4⟩] [] := hS6
  refine rw_nil ?_
  refine cw_seq ?_
  refine cw_region ?_
  refine sq 13 rfl rfl (Y_fieldAddr (B := some ⟨b, 0, none⟩) (i := 0) (s := 0) k_fd_156_3_3_3 k_sz_3_1 rfl rfl) ?_
  refine sq 14 rfl rfl (Y_load1 (B := some ⟨b, 0, none⟩) (i := 3) (cs := [.int .i64 a.A, .int .i64 a.B, .int .i64 a.C, .int .i64 a.D]) (v := .int .i64 a.D) k_sc_3 rfl rfl (hS6.cf (i := 0) rfl) rfl) ?_
  refine sq 15 rfl rfl (Y_fieldAddr (B := some ⟨b2, 0, none⟩) (i := 0) (s := 0) k_fd_89_3_3_3 k_sz_3_1 rfl rfl) ?_
  refine ss0 rfl rfl (Ys_store (i := 2) (s := 1) (B := some ⟨b2, 0, none⟩) (T' := 89) (v := .int .i64 a.D) (vs := [.int .i64 a.D]) (k := 3) (cs' := [.int .i64 a.A, .int .i64 a.B, .int .i64 a.C, .int .i64 a.D]) hS6 k_sz_3_1 rfl rfl rfl rfl rfl rfl rfl (Nat.le_of_ble_eq_true rfl) rfl rfl) ?_
  rintro _ w_6 ⟨rfl, hS7⟩
  have hS7 : ST w0 [] _ [⟨some ⟨b, 0, none⟩, 156, [.int .i64 a.A, .int .i64 a.B, .int .i64 a.C, .int .i64 a.D], 4⟩, ⟨some ⟨b1, 0, none⟩, 89, [.int .i64 0, .int .i64 0, .int .i64 0, .int .i64 0], 4⟩, ⟨some ⟨b2, 0, none⟩, 89, [.int .i64 a.A, .int .i64 a.B, .int .i64 a.C, .int .i64 a.D], 4⟩] [] := hS7
  refine rw_nil ?_
  refine cw_seq ?_
  refine cw_region ?_
  refine sq 16 rfl rfl (Y_loadA (B := some ⟨b2, 0, none⟩) (i := 0) (cs := [.int .i64 a.A, .int .i64 a.B, .int .i64 a.C, .int .i64 a.D]) (vs := [.int .i64 a.A, .int .i64 a.B, .int .i64 a.C, .int .i64 a.D]) k_ag_89 k_sz_89_4 rfl rfl (hS7.cf (i := 2) rfl) rfl rfl) ?_
  refine ss0 rfl rfl (Ys_store (i := 1) (s := 4) (B := some ⟨b1, 0, none⟩) (T' := 89) (v := .agg #[.int .i64 a.A, .int .i64 a.B, .int .i64 a.C, .int .i64 a.D]) (vs := [.int .i64 a.A, .int .i64 a.B, .int .i64 a.C, .int .i64 a.D]) (k := 0) (cs' := [.int .i64 a.A, .int .i64 a.B, .int .i64 a.C, .int .i64 a.D]) hS7 k_sz_89_4 rfl rfl rfl rfl rfl rfl rfl (Nat.le_of_ble_eq_true rfl) rfl rfl) ?_
  rintro _ w_7 ⟨rfl, hS8⟩
  have hS8 : ST w0 [] _ [⟨some ⟨b, 0, none⟩, 156, [.int .i64 a.A, .int .i64 a.B, .int .i64 a.C, .int .i64 a.D], 4⟩, ⟨some ⟨b1, 0, none⟩, 89, [.int .i64 a.A, .int .i64 a.B, .int .i64 a.C, .int .i64 a.D], 4⟩, ⟨some ⟨b2, 0, none⟩, 89, [.int .i64 a.A, .int .i64 a.B, .int .i64 a.C, .int .i64 a.D], 4⟩] [] := hS8
  refine rw_nil ?_
  refine cw_ret ?_
  obtain rfl := some_inj hF
  exact ret1 Try.results184 (v1 := .agg #[.int .i64 a.A, .int .i64 a.B, .int .i64 a.C, .int .i64 a.D]) (resAt_cellA (B := some ⟨b1, 0, none⟩) (i := 0) (cs := [.int .i64 a.A, .int .i64 a.B, .int .i64 a.C, .int .i64 a.D]) (vs := [.int .i64 a.A, .int .i64 a.B, .int .i64 a.C, .int .i64 a.D]) rfl k_ag_89 k_sz_89_4 (hS8.cf (i := 1) rfl) rfl rfl) ⟨rfl, (ST.subR (R' := []) (hS8.sel [] rfl rfl) (fun _ h => by cases h))⟩

theorem c_laws_toDyadic (a : TDyadic)  (w0 : World)  (hS : ST w0 [] w0 [] []) {r_ : TDyadic} (hF : F_laws_toDyadic a = some r_) :
    CV Try.prog 132 #[.agg #[.int .i64 a.Num.A, .int .i64 a.Num.B, .int .i64 a.Num.C, .int .i64 a.Num.D, .int .i64 a.Exp]] w0 (fun v w' => v = .agg #[.int .i64 r_.Num.A, .int .i64 r_.Num.B, .int .i64 r_.Num.C, .int .i64 r_.Num.D, .int .i64 r_.Exp] ∧ ST w0 [] w' [] []) := by
  unfold F_laws_toDyadic at hF
  refine cv_of_cw 12 Try.func132 rfl Try.ntmps132 rfl ?_
  refine cw_seq ?_
  refine cw_region ?_
  refine ss 1 rfl rfl (Ys_box (T := 158) (v := .agg #[.int .i64 a.Num.A, .int .i64 a.Num.B, .int .i64 a.Num.C, .int .i64 a.Num.D, .int .i64 a.Exp]) (cs := [.int .i64 a.Num.A, .int .i64 a.Num.B, .int .i64 a.Num.C, .int .i64 a.Num.D, .int .i64 a.Exp]) (m := 5) hS rfl rfl rfl rfl) ?_
  rintro _ w_ ⟨b, rfl, hS1⟩
  refine ss 2 rfl rfl (Ys_alloc (T := 91) (cs := [.int .i64 0, .int .i64 0, .int .i64 0, .int .i64 0, .int .i64 0]) (m := 5) hS1 k_zero_91 rfl rfl rfl) ?_
  rintro _ w_1 ⟨b1, rfl, hS2⟩
  have hS2 : ST w0 [] _ [⟨some ⟨b, 0, none⟩, 158, [.int .i64 a.Num.A, .int .i64 a.Num.B, .int .i64 a.Num.C, .int .i64 a.Num.D, .int .i64 a.Exp], 5⟩, ⟨some ⟨b1, 0, none⟩, 91, [.int .i64 0, .int .i64 0, .int .i64 0, .int .i64 0, .int .i64 0], 5⟩] [] := hS2
  refine rw_nil ?_
  refine cw_seq ?_
  refine cw_region ?_
  refine ss 3 rfl rfl (Ys_alloc (T := 91) (cs := [.int .i64 0, .int .i64 0, .int .i64 0, .int .i64 0, .int .i64 0]) (m := 5) hS2 k_zero_91 rfl rfl rfl) ?_
  rintro _ w_2 ⟨b2, rfl, hS3⟩
  have hS3 : ST w0 [] _ [⟨some ⟨b, 0, none⟩, 158, [.int .i64 a.Num.A, .int .i64 a.Num.B, .int .i64 a.Num.C, .int .i64 a.Num.D, .int .i64 a.Exp], 5⟩, ⟨some ⟨b1, 0, none⟩, 91, [.int .i64 0, .int .i64 0, .int .i64 0, .int .i64 0, .int .i64 0], 5⟩, ⟨some ⟨b2, 0, none⟩, 91, [.int .i64 0, .int .i64 0, .int .i64 0, .int .i64 0, .int .i64 0], 5⟩] [] := hS3
  refine rw_nil ?_
  refine cw_seq ?_
  refine cw_region ?_
  refine sq 4 rfl rfl (Y_fieldAddr (B := some ⟨b, 0, none⟩) (i := 0) (s := 3) k_fd_158_0_0_156 k_sz_156_4 rfl rfl) ?_
  refine sq 5 rfl rfl (Y_loadA (B := some ⟨b, 0, none⟩) (i := 0) (cs := [.int .i64 a.Num.A, .int .i64 a.Num.B, .int .i64 a.Num.C, .int .i64 a.Num.D, .int .i64 a.Exp]) (vs := [.int .i64 a.Num.A, .int .i64 a.Num.B, .int .i64 a.Num.C, .int .i64 a.Num.D]) k_ag_156 k_sz_156_4 rfl rfl (hS3.cf (i := 0) rfl) rfl rfl) ?_
  obtain ⟨r_1, hc, hF⟩ := bind_inv hF
  refine sc 6 rfl rfl (Yc_func (g := 184) (vs := [.agg #[.int .i64 a.Num.A, .int .i64 a.Num.B, .int .i64 a.Num.C, .int .i64 a.Num.D]]) k_call_184 rfl (mc rfl mn) (c_laws_toRing a.Num _  (hS3.inn0 [] rfl) hc)) ?_
  rintro _ w_3 ⟨rfl, hd⟩
  have hS4 := hS3.out00 hd
  have hS4 : ST w0 [] _ [⟨some ⟨b, 0, none⟩, 158, [.int .i64 a.Num.A, .int .i64 a.Num.B, .int .i64 a.Num.C, .int .i64 a.Num.D, .int .i64 a.Exp], 5⟩, ⟨some ⟨b1, 0, none⟩, 91, [.int .i64 0, .int .i64 0, .int .i64 0, .int .i64 0, .int .i64 0], 5⟩, ⟨some ⟨b2, 0, none⟩, 91, [.int .i64 0, .int .i64 0, .int .i64 0, .int .i64 0, .int .i64 0], 5⟩] [] := hS4
  refine sq 7 rfl rfl (Y_fieldAddr (B := some ⟨b2, 0, none⟩) (i := 0) (s := 3) k_fd_91_0_0_89 k_sz_89_4 rfl rfl) ?_
  refine ss0 rfl rfl (Ys_store (i := 2) (s := 4) (B := some ⟨b2, 0, none⟩) (T' := 91) (v := .agg #[.int .i64 r_1.A, .int .i64 r_1.B, .int .i64 r_1.C, .int .i64 r_1.D]) (vs := [.int .i64 r_1.A, .int .i64 r_1.B, .int .i64 r_1.C, .int .i64 r_1.D]) (k := 0) (cs' := [.int .i64 r_1.A, .int .i64 r_1.B, .int .i64 r_1.C, .int .i64 r_1.D, .int .i64 0]) hS4 k_sz_89_4 rfl rfl rfl rfl rfl rfl rfl (Nat.le_of_ble_eq_true rfl) rfl rfl) ?_
  rintro _ w_4 ⟨rfl, hS5⟩
  have hS5 : ST w0 [] _ [⟨some ⟨b, 0, none⟩, 158, [.int .i64 a.Num.A, .int .i64 a.Num.B, .int .i64 a.Num.C, .int .i64 a.Num.D, .int .i64 a.Exp], 5⟩, ⟨some ⟨b1, 0, none⟩, 91, [.int .i64 0, .int .i64 0, .int .i64 0, .int .i64 0, .int .i64 0], 5⟩, ⟨some ⟨b2, 0, none⟩, 91, [.int .i64 r_1.A, .int .i64 r_1.B, .int .i64 r_1.C, .int .i64 r_1.D, .int .i64 0], 5⟩] [] := hS5
  refine rw_nil ?_
  refine cw_seq ?_
  refine cw_region ?_
  refine sq 8 rfl rfl (Y_fieldAddr (B := some ⟨b, 0, none⟩) (i := 0) (s := 0) k_fd_158_1_4_3 k_sz_3_1 rfl rfl) ?_
  refine sq 9 rfl rfl (Y_load1 (B := some ⟨b, 0, none⟩) (i := 4) (cs := [.int .i64 a.Num.A, .int .i64 a.Num.B, .int .i64 a.Num.C, .int .i64 a.Num.D, .int .i64 a.Exp]) (v := .int .i64 a.Exp) k_sc_3 rfl rfl (hS5.cf (i := 0) rfl) rfl) ?_
  refine sq 10 rfl rfl (Y_fieldAddr (B := some ⟨b2, 0, none⟩) (i := 0) (s := 0) k_fd_91_1_4_3 k_sz_3_1 rfl rfl) ?_
  refine ss0 rfl rfl (Ys_store (i := 2) (s := 1) (B := some ⟨b2, 0, none⟩) (T' := 91) (v := .int .i64 a.Exp) (vs := [.int .i64 a.Exp]) (k := 4) (cs' := [.int .i64 r_1.A, .int .i64 r_1.B, .int .i64 r_1.C, .int .i64 r_1.D, .int .i64 a.Exp]) hS5 k_sz_3_1 rfl rfl rfl rfl rfl rfl rfl (Nat.le_of_ble_eq_true rfl) rfl rfl) ?_
  rintro _ w_5 ⟨rfl, hS6⟩
  have hS6 : ST w0 [] _ [⟨some ⟨b, 0, none⟩, 158, [.int .i64 a.Num.A, .int .i64 a.Num.B, .int .i64 a.Num.C, .int .i64 a.Num.D, .int .i64 a.Exp], 5⟩, ⟨some ⟨b1, 0, none⟩, 91, [.int .i64 0, .int .i64 0, .int .i64 0, .int .i64 0, .int .i64 0], 5⟩, ⟨some ⟨b2, 0, none⟩, 91, [.int .i64 r_1.A, .int .i64 r_1.B, .int .i64 r_1.C, .int .i64 r_1.D, .int .i64 a.Exp], 5⟩] [] := hS6
  refine rw_nil ?_
  refine cw_seq ?_
  refine cw_region ?_
  refine sq 11 rfl rfl (Y_loadA (B := some ⟨b2, 0, none⟩) (i := 0) (cs := [.int .i64 r_1.A, .int .i64 r_1.B, .int .i64 r_1.C, .int .i64 r_1.D, .int .i64 a.Exp]) (vs := [.int .i64 r_1.A, .int .i64 r_1.B, .int .i64 r_1.C, .int .i64 r_1.D, .int .i64 a.Exp]) k_ag_91 k_sz_91_5 rfl rfl (hS6.cf (i := 2) rfl) rfl rfl) ?_
  refine ss0 rfl rfl (Ys_store (i := 1) (s := 5) (B := some ⟨b1, 0, none⟩) (T' := 91) (v := .agg #[.int .i64 r_1.A, .int .i64 r_1.B, .int .i64 r_1.C, .int .i64 r_1.D, .int .i64 a.Exp]) (vs := [.int .i64 r_1.A, .int .i64 r_1.B, .int .i64 r_1.C, .int .i64 r_1.D, .int .i64 a.Exp]) (k := 0) (cs' := [.int .i64 r_1.A, .int .i64 r_1.B, .int .i64 r_1.C, .int .i64 r_1.D, .int .i64 a.Exp]) hS6 k_sz_91_5 rfl rfl rfl rfl rfl rfl rfl (Nat.le_of_ble_eq_true rfl) rfl rfl) ?_
  rintro _ w_6 ⟨rfl, hS7⟩
  have hS7 : ST w0 [] _ [⟨some ⟨b, 0, none⟩, 158, [.int .i64 a.Num.A, .int .i64 a.Num.B, .int .i64 a.Num.C, .int .i64 a.Num.D, .int .i64 a.Exp], 5⟩, ⟨some ⟨b1, 0, none⟩, 91, [.int .i64 r_1.A, .int .i64 r_1.B, .int .i64 r_1.C, .int .i64 r_1.D, .int .i64 a.Exp], 5⟩, ⟨some ⟨b2, 0, none⟩, 91, [.int .i64 r_1.A, .int .i64 r_1.B, .int .i64 r_1.C, .int .i64 r_1.D, .int .i64 a.Exp], 5⟩] [] := hS7
  refine rw_nil ?_
  refine cw_ret ?_
  obtain rfl := some_inj hF
  exact ret1 Try.results132 (v1 := .agg #[.int .i64 r_1.A, .int .i64 r_1.B, .int .i64 r_1.C, .int .i64 r_1.D, .int .i64 a.Exp]) (resAt_cellA (B := some ⟨b1, 0, none⟩) (i := 0) (cs := [.int .i64 r_1.A, .int .i64 r_1.B, .int .i64 r_1.C, .int .i64 r_1.D, .int .i64 a.Exp]) (vs := [.int .i64 r_1.A, .int .i64 r_1.B, .int .i64 r_1.C, .int .i64 r_1.D, .int .i64 a.Exp]) rfl k_ag_91 k_sz_91_5 (hS7.cf (i := 1) rfl) rfl rfl) ⟨rfl, (ST.subR (R' := []) (hS7.sel [] rfl rfl) (fun _ h => by cases h))⟩

theorem c_laws_toDyadicS (a : List TDyadic) (B : Option Addr) (c n : Nat) (w0 : World) (hn : a.length = n) (hS : ST w0 [] w0 [] [⟨B, (a.flatMap enc_Dyadic)⟩]) {r_ : List TDyadic} (hF : F_laws_toDyadicS a = some r_) :
    CV Try.prog 60 #[.slice B n c] w0 (fun v w' => ∃ (B1 : Option Addr) (c1 : Nat), v = .slice B1 r_.length c1 ∧ ST w0 [] w' [⟨B1, 91, (r_.flatMap enc_Dyadic), c1 * 5⟩] []) := by
  subst hn
  unfold F_laws_toDyadicS at hF
  refine cv_of_cw 23 Try.func60 rfl Try.ntmps60 rfl ?_
  refine cw_seq ?_
  refine cw_region ?_
  refine sq 2 rfl rfl (Y_assign (v := .slice none 0 0) rfl rfl) ?_
  refine rw_nil ?_
  refine cw_seq ?_
  refine cw_region ?_
  refine sq 5 rfl rfl (Y_move (v := .slice B a.length c) rfl rfl) ?_
  refine sq 6 rfl rfl (Y_len (B := B) (m := a.length) (c := c) k_sl_22_158 rfl rfl) ?_
  obtain ⟨hmk, hF⟩ := chk_inv hF
  refine ss 7 rfl rfl (Ys_make (s := 5) (by' := 40) (nn := a.length) (a := (a.length : Int)) (b := (a.length : Int)) (cs := ((List.replicate a.length (TDyadic.mk (TRing.mk 0 0 0 0) 0)).flatMap enc_Dyadic)) hS k_sl_27_91 k_sz_91_5 k_by_91_40 k_zero_91 rfl rfl rfl rfl hmk.1 rfl (by have := hmk; omega) (by have := hmk; omega) (by omega) (fm_rep (enc := enc_Dyadic) (d := (TDyadic.mk (TRing.mk 0 0 0 0) 0)) rfl _)) ?_
  rintro _ w_ ⟨b, rfl, hS1⟩
  refine sq 3 rfl rfl (Y_assign (v := .slice (some ⟨b, 0, none⟩) a.length a.length) rfl rfl) ?_
  refine rw_nil ?_
  refine cw_seq ?_
  refine cw_seq ?_
  refine cw_region ?_
  refine sq 4 rfl rfl (Y_assign (v := .int .i64 0) rfl rfl) ?_
  refine rw_nil ?_
  obtain ⟨hN, hF⟩ := chk_inv hF
  obtain ⟨z, hz, hF1⟩ := bind_inv hF
  refine cw_block ?_
  refine cw_loop (fun k f w => ∃ (i1 : Nat) (out : List TDyadic), FF f [(0, .slice B a.length c), (3, .slice (some ⟨b, 0, none⟩) a.length a.length), (4, .int .i64 (i1 : Int))] ∧ out.length = a.length ∧ ST w0 [] w [⟨some ⟨b, 0, none⟩, 91, (out.flatMap enc_Dyadic), a.length * 5⟩] [⟨B, (a.flatMap enc_Dyadic)⟩] ∧ i1 + k = a.length ∧ forN (F_laws_toDyadicS_l1 a) k i1 out = some z) a.length ⟨0, (List.replicate a.length (TDyadic.mk (TRing.mk 0 0 0 0) 0)), (FF.cons rfl (FF.cons rfl (FF.cons rfl FF.nil))), List.length_replicate, (hS1.sel [0] rfl rfl), Nat.zero_add _, hz⟩ ?_
  rintro k_ f w ⟨i1, out, hf, hl, hS2, hik, hL⟩
  refine cw_seq ?_
  refine cw_seq ?_
  refine cw_region ?_
  refine sq 8 rfl rfl (Y_move (v := .int .i64 (i1 : Int)) rfl (hf.get 4 2 rfl)) ?_
  refine sq 9 rfl rfl (Y_move (v := .slice B a.length c) rfl (hf.get 0 0 rfl)) ?_
  refine sq 10 rfl rfl (Y_len (B := B) (m := a.length) (c := c) k_sl_22_158 rfl rfl) ?_
  refine sq 11 rfl rfl (Y_lt (k := .i64) (a := (i1 : Int)) (b := (a.length : Int)) rfl rfl rfl) ?_
  refine rw_nil ?_
  refine cw_cond (b := (decide ((i1 : Int) < (a.length : Int)))) rfl (fun hlt => ?_) (fun hlt => ?_)
  · skip
    have hlt1 : i1 < a.length := by have h := of_decide_eq_true hlt; omega
    obtain ⟨k_1, rfl⟩ : ∃ k2, k_ = k2 + 1 := ⟨k_ - 1, by omega⟩
    obtain ⟨y, hb, hL1⟩ := forN_go hL
    unfold F_laws_toDyadicS_l1 at hb
    refine cw_skip ?_
    refine cw_seq ?_
    refine cw_block ?_
    refine cw_region ?_
    refine sq 14 rfl rfl (Y_move (v := .slice (some ⟨b, 0, none⟩) a.length a.length) rfl (hf.get 3 1 rfl)) ?_
    refine sq 15 rfl rfl (Y_move (v := .int .i64 (i1 : Int)) rfl (hf.get 4 2 rfl)) ?_
    refine sq 16 rfl rfl (Y_move (v := .slice B a.length c) rfl (hf.get 0 0 rfl)) ?_
    refine sq 17 rfl rfl (Y_move (v := .int .i64 (i1 : Int)) rfl (hf.get 4 2 rfl)) ?_
    obtain ⟨x, hx, hb⟩ := bind_inv hb
    refine sq 18 rfl rfl (Y_index (B := B) (m := a.length) (c := c) (k := .i64) (i := (i1 : Int)) k_sl_22_158 k_sz_158_5 rfl rfl rfl (gi_isSome enc_Dyadic_len rfl (hS2.rf (i := 0) rfl) hx) (getI_nn hx) (getI_ltI hx rfl)) ?_
    refine sq 19 rfl rfl (Y_loadA (B := B) (i := (i1 : Int).toNat * 5) (cs := (a.flatMap enc_Dyadic)) (vs := [.int .i64 x.Num.A, .int .i64 x.Num.B, .int .i64 x.Num.C, .int .i64 x.Num.D, .int .i64 x.Exp]) k_ag_158 k_sz_158_5 rfl rfl (hS2.rf (i := 0) rfl) (enc_Dyadic_len x) (gi_seg enc_Dyadic_len hx)) ?_
    obtain ⟨r_1, hc, hb⟩ := bind_inv hb
    refine sc 20 rfl rfl (Yc_func (g := 132) (vs := [.agg #[.int .i64 x.Num.A, .int .i64 x.Num.B, .int .i64 x.Num.C, .int .i64 x.Num.D, .int .i64 x.Exp]]) k_call_132 rfl (mc rfl mn) (c_laws_toDyadic x _  (hS2.inn0 [] rfl) hc)) ?_
    rintro _ w_1 ⟨rfl, hd⟩
    have hS3 := hS2.out00 hd
    obtain ⟨x1, hx1, hb⟩ := bind_inv hb
    refine sq 21 rfl rfl (Y_index (B := some ⟨b, 0, none⟩) (m := a.length) (c := a.length) (k := .i64) (i := (i1 : Int)) k_sl_27_91 k_sz_91_5 rfl rfl rfl (gi_isSome enc_Dyadic_len rfl (hS3.cf (i := 0) rfl) hx1) (getI_nn hx1) (getI_ltI hx1 hl)) ?_
    refine ss0 rfl rfl (Ys_store (i := 0) (s := 5) (B := some ⟨b, 0, none⟩) (T' := 91) (v := .agg #[.int .i64 r_1.Num.A, .int .i64 r_1.Num.B, .int .i64 r_1.Num.C, .int .i64 r_1.Num.D, .int .i64 r_1.Exp]) (vs := [.int .i64 r_1.Num.A, .int .i64 r_1.Num.B, .int .i64 r_1.Num.C, .int .i64 r_1.Num.D, .int .i64 r_1.Exp]) (k := (i1 : Int).toNat * 5) (cs' := ((out.set (i1 : Int).toNat r_1).flatMap enc_Dyadic)) hS3 k_sz_91_5 rfl rfl rfl rfl rfl rfl rfl (gi_fit0 enc_Dyadic_len hx1) (gi_set enc_Dyadic_len hx1 r_1 rfl) rfl) ?_
    rintro _ w_2 ⟨rfl, hS4⟩
    refine rw_nil ?_
    refine cw_region ?_
    refine sq 12 rfl rfl (Y_move (v := .int .i64 (i1 : Int)) rfl (hf.get 4 2 rfl)) ?_
    refine sq 13 rfl rfl (Y_add (k := .i64) (a := (i1 : Int)) (b := 1) rfl rfl rfl) ?_
    refine sq 4 rfl rfl (Y_assign (v := .int .i64 (IntKind.i64.wrap ((i1 : Int) + 1))) rfl rfl) ?_
    refine rw_nil ?_
    obtain rfl := some_inj hb
    exact ⟨k_1, Nat.lt_succ_self _, i1 + 1, (out.set (i1 : Int).toNat r_1), (FF.cons (hf.get 0 0 rfl) (FF.cons (hf.get 3 1 rfl) (FF.cons (congrArg (Value.int .i64) (wr_succ hlt1 hN)) FF.nil))), (set_len _ _ _ hl), (hS4.sel [0] rfl rfl), (by omega), hL1⟩
  · skip
    obtain rfl : k_ = 0 := by have h := of_decide_eq_false hlt; omega
    refine cw_exit rfl ?_
    obtain rfl := some_inj hL
    refine cw_seq ?_
    refine cw_region ?_
    refine sq 22 rfl rfl (Y_move (v := .slice (some ⟨b, 0, none⟩) a.length a.length) rfl (hf.get 3 1 rfl)) ?_
    refine sq 2 rfl rfl (Y_assign (v := .slice (some ⟨b, 0, none⟩) a.length a.length) rfl rfl) ?_
    refine rw_nil ?_
    refine cw_ret ?_
    obtain rfl := some_inj hF1
    exact ret1 Try.results60 (v1 := .slice (some ⟨b, 0, none⟩) a.length a.length) (resAt_tmp rfl) ⟨some ⟨b, 0, none⟩, a.length, (by simp [hl]), (ST.subR (R' := []) (hS2.sel [0] rfl rfl) (fun _ h => by cases h))⟩

theorem c_laws_toBloch (a : TBloch) (B : Option Addr) (c n : Nat) (w0 : World) (hn : a.Cells.length = n) (hS : ST w0 [] w0 [] [⟨B, (a.Cells.flatMap enc_Dyadic)⟩]) {r_ : TBloch} (hF : F_laws_toBloch a = some r_) :
    CV Try.prog 17 #[.agg #[.slice B n c]] w0 (fun v w' => ∃ (B1 : Option Addr) (c1 : Nat), v = .agg #[.slice B1 r_.Cells.length c1] ∧ ST w0 [] w' [⟨B1, 91, (r_.Cells.flatMap enc_Dyadic), c1 * 5⟩] []) := by
  subst hn
  unfold F_laws_toBloch at hF
  refine cv_of_cw 9 Try.func17 rfl Try.ntmps17 rfl ?_
  refine cw_seq ?_
  refine cw_region ?_
  refine ss 1 rfl rfl (Ys_box (T := 24) (v := .agg #[.slice B a.Cells.length c]) (cs := [.slice B a.Cells.length c]) (m := 1) hS rfl rfl rfl rfl) ?_
  rintro _ w_ ⟨b, rfl, hS1⟩
  refine ss 2 rfl rfl (Ys_alloc (T := 29) (cs := [.slice none 0 0]) (m := 1) hS1 k_zero_29 rfl rfl rfl) ?_
  rintro _ w_1 ⟨b1, rfl, hS2⟩
  have hS2 : ST w0 [] _ [⟨some ⟨b, 0, none⟩, 24, [.slice B a.Cells.length c], 1⟩, ⟨some ⟨b1, 0, none⟩, 29, [.slice none 0 0], 1⟩] [⟨B, (a.Cells.flatMap enc_Dyadic)⟩] := hS2
  refine rw_nil ?_
  refine cw_seq ?_
  refine cw_region ?_
  refine ss 3 rfl rfl (Ys_alloc (T := 29) (cs := [.slice none 0 0]) (m := 1) hS2 k_zero_29 rfl rfl rfl) ?_
  rintro _ w_2 ⟨b2, rfl, hS3⟩
  have hS3 : ST w0 [] _ [⟨some ⟨b, 0, none⟩, 24, [.slice B a.Cells.length c], 1⟩, ⟨some ⟨b1, 0, none⟩, 29, [.slice none 0 0], 1⟩, ⟨some ⟨b2, 0, none⟩, 29, [.slice none 0 0], 1⟩] [⟨B, (a.Cells.flatMap enc_Dyadic)⟩] := hS3
  refine rw_nil ?_
  refine cw_seq ?_
  refine cw_region ?_
  refine sq 4 rfl rfl (Y_fieldAddr (B := some ⟨b, 0, none⟩) (i := 0) (s := 0) k_fd_24_0_0_22 k_sz_22_1 rfl rfl) ?_
  refine sq 5 rfl rfl (Y_load1 (B := some ⟨b, 0, none⟩) (i := 0) (cs := [.slice B a.Cells.length c]) (v := .slice B a.Cells.length c) k_sc_22 rfl rfl (hS3.cf (i := 0) rfl) rfl) ?_
  obtain ⟨r_1, hc, hF⟩ := bind_inv hF
  refine sc 6 rfl rfl (Yc_func (g := 60) (vs := [.slice B a.Cells.length c]) k_call_60 rfl (mc rfl mn) (c_laws_toDyadicS a.Cells B c a.Cells.length _ rfl (hS3.inn0 [(true, 0)] rfl) hc)) ?_
  rintro _ w_3 ⟨B2, c2, rfl, hd⟩
  have hS4 := hS3.out0 hd
  have hS4 : ST w0 [] _ [⟨some ⟨b, 0, none⟩, 24, [.slice B a.Cells.length c], 1⟩, ⟨some ⟨b1, 0, none⟩, 29, [.slice none 0 0], 1⟩, ⟨some ⟨b2, 0, none⟩, 29, [.slice none 0 0], 1⟩, ⟨B2, 91, (r_1.flatMap enc_Dyadic), c2 * 5⟩] [⟨B, (a.Cells.flatMap enc_Dyadic)⟩] := hS4
  refine sq 7 rfl rfl (Y_fieldAddr (B := some ⟨b2, 0, none⟩) (i := 0) (s := 0) k_fd_29_0_0_27 k_sz_27_1 rfl rfl) ?_
  refine ss0 rfl rfl (Ys_store (i := 2) (s := 1) (B := some ⟨b2, 0, none⟩) (T' := 29) (v := .slice B2 r_1.length c2) (vs := [.slice B2 r_1.length c2]) (k := 0) (cs' := [.slice B2 r_1.length c2]) hS4 k_sz_27_1 rfl rfl rfl rfl rfl rfl rfl (Nat.le_of_ble_eq_true rfl) rfl rfl) ?_
  rintro _ w_4 ⟨rfl, hS5⟩
  have hS5 : ST w0 [] _ [⟨some ⟨b, 0, none⟩, 24, [.slice B a.Cells.length c], 1⟩, ⟨some ⟨b1, 0, none⟩, 29, [.slice none 0 0], 1⟩, ⟨some ⟨b2, 0, none⟩, 29, [.slice B2 r_1.length c2], 1⟩, ⟨B2, 91, (r_1.flatMap enc_Dyadic), c2 * 5⟩] [⟨B, (a.Cells.flatMap enc_Dyadic)⟩] := hS5
  refine rw_nil ?_
  refine cw_seq ?_
  refine cw_region ?_
  refine sq 8 rfl rfl (Y_loadA (B := some ⟨b2, 0, none⟩) (i := 0) (cs := [.slice B2 r_1.length c2]) (vs := [.slice B2 r_1.length c2]) k_ag_29 k_sz_29_1 rfl rfl (hS5.cf (i := 2) rfl) rfl rfl) ?_
  refine ss0 rfl rfl (Ys_store (i := 1) (s := 1) (B := some ⟨b1, 0, none⟩) (T' := 29) (v := .agg #[.slice B2 r_1.length c2]) (vs := [.slice B2 r_1.length c2]) (k := 0) (cs' := [.slice B2 r_1.length c2]) hS5 k_sz_29_1 rfl rfl rfl rfl rfl rfl rfl (Nat.le_of_ble_eq_true rfl) rfl rfl) ?_
  rintro _ w_5 ⟨rfl, hS6⟩
  have hS6 : ST w0 [] _ [⟨some ⟨b, 0, none⟩, 24, [.slice B a.Cells.length c], 1⟩, ⟨some ⟨b1, 0, none⟩, 29, [.slice B2 r_1.length c2], 1⟩, ⟨some ⟨b2, 0, none⟩, 29, [.slice B2 r_1.length c2], 1⟩, ⟨B2, 91, (r_1.flatMap enc_Dyadic), c2 * 5⟩] [⟨B, (a.Cells.flatMap enc_Dyadic)⟩] := hS6
  refine rw_nil ?_
  refine cw_ret ?_
  obtain rfl := some_inj hF
  exact ret1 Try.results17 (v1 := .agg #[.slice B2 r_1.length c2]) (resAt_cellA (B := some ⟨b1, 0, none⟩) (i := 0) (cs := [.slice B2 r_1.length c2]) (vs := [.slice B2 r_1.length c2]) rfl k_ag_29 k_sz_29_1 (hS6.cf (i := 1) rfl) rfl rfl) ⟨B2, c2, rfl, (ST.subR (R' := []) (hS6.sel [3] rfl rfl) (fun _ h => by cases h))⟩

theorem c_laws_eqRing (a : TRing) (b : TRing)  (w0 : World)  (hS : ST w0 [] w0 [] []) {r_ : Bool} (hF : F_laws_eqRing a b = some r_) :
    CV Try.prog 190 #[.agg #[.int .i64 a.A, .int .i64 a.B, .int .i64 a.C, .int .i64 a.D], .agg #[.int .i64 b.A, .int .i64 b.B, .int .i64 b.C, .int .i64 b.D]] w0 (fun v w' => v = .bool r_ ∧ ST w0 [] w' [] []) := by
  unfold F_laws_eqRing at hF
  refine cv_of_cw 25 Try.func190 rfl Try.ntmps190 rfl ?_
  refine cw_seq ?_
  refine cw_region ?_
  refine ss 2 rfl rfl (Ys_box (T := 89) (v := .agg #[.int .i64 a.A, .int .i64 a.B, .int .i64 a.C, .int .i64 a.D]) (cs := [.int .i64 a.A, .int .i64 a.B, .int .i64 a.C, .int .i64 a.D]) (m := 4) hS rfl rfl rfl rfl) ?_
  rintro _ w_ ⟨b1, rfl, hS1⟩
  refine ss 3 rfl rfl (Ys_box (T := 89) (v := .agg #[.int .i64 b.A, .int .i64 b.B, .int .i64 b.C, .int .i64 b.D]) (cs := [.int .i64 b.A, .int .i64 b.B, .int .i64 b.C, .int .i64 b.D]) (m := 4) hS1 rfl rfl rfl rfl) ?_
  rintro _ w_1 ⟨b2, rfl, hS2⟩
  have hS2 : ST w0 [] _ [⟨some ⟨b1, 0, none⟩, 89, [.int .i64 a.A, .int .i64 a.B, .int .i64 a.C, .int .i64 a.D], 4⟩, ⟨some ⟨b2, 0, none⟩, 89, [.int .i64 b.A, .int .i64 b.B, .int .i64 b.C, .int .i64 b.D], 4⟩] [] := hS2
  refine sq 4 rfl rfl (Y_assign (v := .bool false) rfl rfl) ?_
  refine rw_nil ?_
  refine cw_seq ?_
  refine cw_seq ?_
  refine cw_region ?_
  refine sq 5 rfl rfl (Y_fieldAddr (B := some ⟨b1, 0, none⟩) (i := 0) (s := 0) k_fd_89_0_0_3 k_sz_3_1 rfl rfl) ?_
  refine sq 6 rfl rfl (Y_load1 (B := some ⟨b1, 0, none⟩) (i := 0) (cs := [.int .i64 a.A, .int .i64 a.B, .int .i64 a.C, .int .i64 a.D]) (v := .int .i64 a.A) k_sc_3 rfl rfl (hS2.cf (i := 0) rfl) rfl) ?_
  refine sq 7 rfl rfl (Y_fieldAddr (B := some ⟨b2, 0, none⟩) (i := 0) (s := 0) k_fd_89_0_0_3 k_sz_3_1 rfl rfl) ?_
  refine sq 8 rfl rfl (Y_load1 (B := some ⟨b2, 0, none⟩) (i := 0) (cs := [.int .i64 b.A, .int .i64 b.B, .int .i64 b.C, .int .i64 b.D]) (v := .int .i64 b.A) k_sc_3 rfl rfl (hS2.cf (i := 1) rfl) rfl) ?_
  refine sq 9 rfl rfl (Y_ne (k := .i64) (a := a.A) (b := b.A) rfl rfl rfl) ?_
  refine rw_nil ?_
  refine cw_cond (b := (a.A != b.A)) rfl (fun hb => ?_) (fun hb => ?_)
  · skip
    have hF1 := ct hF hb
    refine cw_seq ?_
    refine cw_region ?_
    refine sq 4 rfl rfl (Y_assign (v := .bool false) rfl rfl) ?_
    refine rw_nil ?_
    refine cw_ret ?_
    obtain rfl := some_inj hF1
    exact ret1 Try.results190 (v1 := .bool false) (resAt_tmp rfl) ⟨rfl, (ST.subR (R' := []) (hS2.sel [] rfl rfl) (fun _ h => by cases h))⟩
  · skip
    have hF2 := cf' hF hb
    refine cw_skip ?_
    refine cw_seq ?_
    refine cw_seq ?_
    refine cw_region ?_
    refine sq 10 rfl rfl (Y_fieldAddr (B := some ⟨b1, 0, none⟩) (i := 0) (s := 0) k_fd_89_1_1_3 k_sz_3_1 rfl rfl) ?_
    refine sq 11 rfl rfl (Y_load1 (B := some ⟨b1, 0, none⟩) (i := 1) (cs := [.int .i64 a.A, .int .i64 a.B, .int .i64 a.C, .int .i64 a.D]) (v := .int .i64 a.B) k_sc_3 rfl rfl (hS2.cf (i := 0) rfl) rfl) ?_
    refine sq 12 rfl rfl (Y_fieldAddr (B := some ⟨b2, 0, none⟩) (i := 0) (s := 0) k_fd_89_1_1_3 k_sz_3_1 rfl rfl) ?_
    refine sq 13 rfl rfl (Y_load1 (B := some ⟨b2, 0, none⟩) (i := 1) (cs := [.int .i64 b.A, .int .i64 b.B, .int .i64 b.C, .int .i64 b.D]) (v := .int .i64 b.B) k_sc_3 rfl rfl (hS2.cf (i := 1) rfl) rfl) ?_
    refine sq 14 rfl rfl (Y_ne (k := .i64) (a := a.B) (b := b.B) rfl rfl rfl) ?_
    refine rw_nil ?_
    refine cw_cond (b := (a.B != b.B)) rfl (fun hb1 => ?_) (fun hb1 => ?_)
    · skip
      have hF3 := ct hF2 hb1
      refine cw_seq ?_
      refine cw_region ?_
      refine sq 4 rfl rfl (Y_assign (v := .bool false) rfl rfl) ?_
      refine rw_nil ?_
      refine cw_ret ?_
      obtain rfl := some_inj hF3
      exact ret1 Try.results190 (v1 := .bool false) (resAt_tmp rfl) ⟨rfl, (ST.subR (R' := []) (hS2.sel [] rfl rfl) (fun _ h => by cases h))⟩
    · skip
      have hF4 := cf' hF2 hb1
      refine cw_skip ?_
      refine cw_seq ?_
      refine cw_seq ?_
      refine cw_region ?_
      refine sq 15 rfl rfl (Y_fieldAddr (B := some ⟨b1, 0, none⟩) (i := 0) (s := 0) k_fd_89_2_2_3 k_sz_3_1 rfl rfl) ?_
      refine sq 16 rfl rfl (Y_load1 (B := some ⟨b1, 0, none⟩) (i := 2) (cs := [.int .i64 a.A, .int .i64 a.B, .int .i64 a.C, .int .i64 a.D]) (v := .int .i64 a.C) k_sc_3 rfl rfl (hS2.cf (i := 0) rfl) rfl) ?_
      refine sq 17 rfl rfl (Y_fieldAddr (B := some ⟨b2, 0, none⟩) (i := 0) (s := 0) k_fd_89_2_2_3 k_sz_3_1 rfl rfl) ?_
      refine sq 18 rfl rfl (Y_load1 (B := some ⟨b2, 0, none⟩) (i := 2) (cs := [.int .i64 b.A, .int .i64 b.B, .int .i64 b.C, .int .i64 b.D]) (v := .int .i64 b.C) k_sc_3 rfl rfl (hS2.cf (i := 1) rfl) rfl) ?_
      refine sq 19 rfl rfl (Y_ne (k := .i64) (a := a.C) (b := b.C) rfl rfl rfl) ?_
      refine rw_nil ?_
      refine cw_cond (b := (a.C != b.C)) rfl (fun hb2 => ?_) (fun hb2 => ?_)
      · skip
        have hF5 := ct hF4 hb2
        refine cw_seq ?_
        refine cw_region ?_
        refine sq 4 rfl rfl (Y_assign (v := .bool false) rfl rfl) ?_
        refine rw_nil ?_
        refine cw_ret ?_
        obtain rfl := some_inj hF5
        exact ret1 Try.results190 (v1 := .bool false) (resAt_tmp rfl) ⟨rfl, (ST.subR (R' := []) (hS2.sel [] rfl rfl) (fun _ h => by cases h))⟩
      · skip
        have hF6 := cf' hF4 hb2
        refine cw_skip ?_
        refine cw_seq ?_
        refine cw_seq ?_
        refine cw_region ?_
        refine sq 20 rfl rfl (Y_fieldAddr (B := some ⟨b1, 0, none⟩) (i := 0) (s := 0) k_fd_89_3_3_3 k_sz_3_1 rfl rfl) ?_
        refine sq 21 rfl rfl (Y_load1 (B := some ⟨b1, 0, none⟩) (i := 3) (cs := [.int .i64 a.A, .int .i64 a.B, .int .i64 a.C, .int .i64 a.D]) (v := .int .i64 a.D) k_sc_3 rfl rfl (hS2.cf (i := 0) rfl) rfl) ?_
        refine sq 22 rfl rfl (Y_fieldAddr (B := some ⟨b2, 0, none⟩) (i := 0) (s := 0) k_fd_89_3_3_3 k_sz_3_1 rfl rfl) ?_
        refine sq 23 rfl rfl (Y_load1 (B := some ⟨b2, 0, none⟩) (i := 3) (cs := [.int .i64 b.A, .int .i64 b.B, .int .i64 b.C, .int .i64 b.D]) (v := .int .i64 b.D) k_sc_3 rfl rfl (hS2.cf (i := 1) rfl) rfl) ?_
        refine sq 24 rfl rfl (Y_ne (k := .i64) (a := a.D) (b := b.D) rfl rfl rfl) ?_
        refine rw_nil ?_
        refine cw_cond (b := (a.D != b.D)) rfl (fun hb3 => ?_) (fun hb3 => ?_)
        · skip
          have hF7 := ct hF6 hb3
          refine cw_seq ?_
          refine cw_region ?_
          refine sq 4 rfl rfl (Y_assign (v := .bool false) rfl rfl) ?_
          refine rw_nil ?_
          refine cw_ret ?_
          obtain rfl := some_inj hF7
          exact ret1 Try.results190 (v1 := .bool false) (resAt_tmp rfl) ⟨rfl, (ST.subR (R' := []) (hS2.sel [] rfl rfl) (fun _ h => by cases h))⟩
        · skip
          have hF8 := cf' hF6 hb3
          refine cw_skip ?_
          refine cw_seq ?_
          refine cw_region ?_
          refine sq 4 rfl rfl (Y_assign (v := .bool true) rfl rfl) ?_
          refine rw_nil ?_
          refine cw_ret ?_
          obtain rfl := some_inj hF8
          exact ret1 Try.results190 (v1 := .bool true) (resAt_tmp rfl) ⟨rfl, (ST.subR (R' := []) (hS2.sel [] rfl rfl) (fun _ h => by cases h))⟩

theorem c_laws_eqDyadic (a : TDyadic) (b : TDyadic)  (w0 : World)  (hS : ST w0 [] w0 [] []) {r_ : Bool} (hF : F_laws_eqDyadic a b = some r_) :
    CV Try.prog 138 #[.agg #[.int .i64 a.Num.A, .int .i64 a.Num.B, .int .i64 a.Num.C, .int .i64 a.Num.D, .int .i64 a.Exp], .agg #[.int .i64 b.Num.A, .int .i64 b.Num.B, .int .i64 b.Num.C, .int .i64 b.Num.D, .int .i64 b.Exp]] w0 (fun v w' => v = .bool r_ ∧ ST w0 [] w' [] []) := by
  unfold F_laws_eqDyadic at hF
  refine cv_of_cw 16 Try.func138 rfl Try.ntmps138 rfl ?_
  refine cw_seq ?_
  refine cw_region ?_
  refine ss 2 rfl rfl (Ys_box (T := 91) (v := .agg #[.int .i64 a.Num.A, .int .i64 a.Num.B, .int .i64 a.Num.C, .int .i64 a.Num.D, .int .i64 a.Exp]) (cs := [.int .i64 a.Num.A, .int .i64 a.Num.B, .int .i64 a.Num.C, .int .i64 a.Num.D, .int .i64 a.Exp]) (m := 5) hS rfl rfl rfl rfl) ?_
  rintro _ w_ ⟨b1, rfl, hS1⟩
  refine ss 3 rfl rfl (Ys_box (T := 91) (v := .agg #[.int .i64 b.Num.A, .int .i64 b.Num.B, .int .i64 b.Num.C, .int .i64 b.Num.D, .int .i64 b.Exp]) (cs := [.int .i64 b.Num.A, .int .i64 b.Num.B, .int .i64 b.Num.C, .int .i64 b.Num.D, .int .i64 b.Exp]) (m := 5) hS1 rfl rfl rfl rfl) ?_
  rintro _ w_1 ⟨b2, rfl, hS2⟩
  have hS2 : ST w0 [] _ [⟨some ⟨b1, 0, none⟩, 91, [.int .i64 a.Num.A, .int .i64 a.Num.B, .int .i64 a.Num.C, .int .i64 a.Num.D, .int .i64 a.Exp], 5⟩, ⟨some ⟨b2, 0, none⟩, 91, [.int .i64 b.Num.A, .int .i64 b.Num.B, .int .i64 b.Num.C, .int .i64 b.Num.D, .int .i64 b.Exp], 5⟩] [] := hS2
  refine sq 4 rfl rfl (Y_assign (v := .bool false) rfl rfl) ?_
  refine rw_nil ?_
  refine cw_seq ?_
  refine cw_seq ?_
  refine cw_region ?_
  refine sq 5 rfl rfl (Y_fieldAddr (B := some ⟨b1, 0, none⟩) (i := 0) (s := 3) k_fd_91_0_0_89 k_sz_89_4 rfl rfl) ?_
  refine sq 6 rfl rfl (Y_loadA (B := some ⟨b1, 0, none⟩) (i := 0) (cs := [.int .i64 a.Num.A, .int .i64 a.Num.B, .int .i64 a.Num.C, .int .i64 a.Num.D, .int .i64 a.Exp]) (vs := [.int .i64 a.Num.A, .int .i64 a.Num.B, .int .i64 a.Num.C, .int .i64 a.Num.D]) k_ag_89 k_sz_89_4 rfl rfl (hS2.cf (i := 0) rfl) rfl rfl) ?_
  refine sq 7 rfl rfl (Y_fieldAddr (B := some ⟨b2, 0, none⟩) (i := 0) (s := 3) k_fd_91_0_0_89 k_sz_89_4 rfl rfl) ?_
  refine sq 8 rfl rfl (Y_loadA (B := some ⟨b2, 0, none⟩) (i := 0) (cs := [.int .i64 b.Num.A, .int .i64 b.Num.B, .int .i64 b.Num.C, .int .i64 b.Num.D, .int .i64 b.Exp]) (vs := [.int .i64 b.Num.A, .int .i64 b.Num.B, .int .i64 b.Num.C, .int .i64 b.Num.D]) k_ag_89 k_sz_89_4 rfl rfl (hS2.cf (i := 1) rfl) rfl rfl) ?_
  obtain ⟨r_1, hc, hF⟩ := bind_inv hF
  refine sc 9 rfl rfl (Yc_func (g := 190) (vs := [.agg #[.int .i64 a.Num.A, .int .i64 a.Num.B, .int .i64 a.Num.C, .int .i64 a.Num.D], .agg #[.int .i64 b.Num.A, .int .i64 b.Num.B, .int .i64 b.Num.C, .int .i64 b.Num.D]]) k_call_190 rfl (mc rfl (mc rfl mn)) (c_laws_eqRing a.Num b.Num _  (hS2.inn0 [] rfl) hc)) ?_
  rintro _ w_2 ⟨rfl, hd⟩
  have hS3 := hS2.out00 hd
  have hS3 : ST w0 [] _ [⟨some ⟨b1, 0, none⟩, 91, [.int .i64 a.Num.A, .int .i64 a.Num.B, .int .i64 a.Num.C, .int .i64 a.Num.D, .int .i64 a.Exp], 5⟩, ⟨some ⟨b2, 0, none⟩, 91, [.int .i64 b.Num.A, .int .i64 b.Num.B, .int .i64 b.Num.C, .int .i64 b.Num.D, .int .i64 b.Exp], 5⟩] [] := hS3
  refine sq 10 rfl rfl (Y_not (p := r_1) rfl rfl) ?_
  refine rw_nil ?_
  refine cw_cond (b := (!r_1)) rfl (fun hb => ?_) (fun hb => ?_)
  · skip
    have hF1 := ct hF hb
    refine cw_seq ?_
    refine cw_region ?_
    refine sq 4 rfl rfl (Y_assign (v := .bool false) rfl rfl) ?_
    refine rw_nil ?_
    refine cw_ret ?_
    obtain rfl := some_inj hF1
    exact ret1 Try.results138 (v1 := .bool false) (resAt_tmp rfl) ⟨rfl, (ST.subR (R' := []) (hS3.sel [] rfl rfl) (fun _ h => by cases h))⟩
  · skip
    have hF2 := cf' hF hb
    refine cw_skip ?_
    refine cw_seq ?_
    refine cw_seq ?_
    refine cw_region ?_
    refine sq 11 rfl rfl (Y_fieldAddr (B := some ⟨b1, 0, none⟩) (i := 0) (s := 0) k_fd_91_1_4_3 k_sz_3_1 rfl rfl) ?_
    refine sq 12 rfl rfl (Y_load1 (B := some ⟨b1, 0, none⟩) (i := 4) (cs := [.int .i64 a.Num.A, .int .i64 a.Num.B, .int .i64 a.Num.C, .int .i64 a.Num.D, .int .i64 a.Exp]) (v := .int .i64 a.Exp) k_sc_3 rfl rfl (hS3.cf (i := 0) rfl) rfl) ?_
    refine sq 13 rfl rfl (Y_fieldAddr (B := some ⟨b2, 0, none⟩) (i := 0) (s := 0) k_fd_91_1_4_3 k_sz_3_1 rfl rfl) ?_
    refine sq 14 rfl rfl (Y_load1 (B := some ⟨b2, 0, none⟩) (i := 4) (cs := [.int .i64 b.Num.A, .int .i64 b.Num.B, .int .i64 b.Num.C, .int .i64 b.Num.D, .int .i64 b.Exp]) (v := .int .i64 b.Exp) k_sc_3 rfl rfl (hS3.cf (i := 1) rfl) rfl) ?_
    refine sq 15 rfl rfl (Y_ne (k := .i64) (a := a.Exp) (b := b.Exp) rfl rfl rfl) ?_
    refine rw_nil ?_
    refine cw_cond (b := (a.Exp != b.Exp)) rfl (fun hb1 => ?_) (fun hb1 => ?_)
    · skip
      have hF3 := ct hF2 hb1
      refine cw_seq ?_
      refine cw_region ?_
      refine sq 4 rfl rfl (Y_assign (v := .bool false) rfl rfl) ?_
      refine rw_nil ?_
      refine cw_ret ?_
      obtain rfl := some_inj hF3
      exact ret1 Try.results138 (v1 := .bool false) (resAt_tmp rfl) ⟨rfl, (ST.subR (R' := []) (hS3.sel [] rfl rfl) (fun _ h => by cases h))⟩
    · skip
      have hF4 := cf' hF2 hb1
      refine cw_skip ?_
      refine cw_seq ?_
      refine cw_region ?_
      refine sq 4 rfl rfl (Y_assign (v := .bool true) rfl rfl) ?_
      refine rw_nil ?_
      refine cw_ret ?_
      obtain rfl := some_inj hF4
      exact ret1 Try.results138 (v1 := .bool true) (resAt_tmp rfl) ⟨rfl, (ST.subR (R' := []) (hS3.sel [] rfl rfl) (fun _ h => by cases h))⟩

theorem c_laws_eqDyadicS (a : List TDyadic) (b : List TDyadic) (B : Option Addr) (c n : Nat) (B1 : Option Addr) (c1 n1 : Nat) (w0 : World) (hn : a.length = n) (hn1 : b.length = n1) (hS : ST w0 [] w0 [] [⟨B, (a.flatMap enc_Dyadic)⟩, ⟨B1, (b.flatMap enc_Dyadic)⟩]) {r_ : Bool} (hF : F_laws_eqDyadicS a b = some r_) :
    CV Try.prog 69 #[.slice B n c, .slice B1 n1 c1] w0 (fun v w' => v = .bool r_ ∧ ST w0 [] w' [] []) := by
  subst hn
  subst hn1
  unfold F_laws_eqDyadicS at hF
  refine cv_of_cw 27 Try.func69 rfl Try.ntmps69 rfl ?_
  refine cw_seq ?_
  refine cw_region ?_
  refine sq 4 rfl rfl (Y_assign (v := .bool false) rfl rfl) ?_
  refine rw_nil ?_
  refine cw_seq ?_
  refine cw_seq ?_
  refine cw_region ?_
  refine sq 6 rfl rfl (Y_move (v := .slice B a.length c) rfl rfl) ?_
  refine sq 7 rfl rfl (Y_len (B := B) (m := a.length) (c := c) k_sl_27_91 rfl rfl) ?_
  refine sq 8 rfl rfl (Y_move (v := .slice B1 b.length c1) rfl rfl) ?_
  refine sq 9 rfl rfl (Y_len (B := B1) (m := b.length) (c := c1) k_sl_27_91 rfl rfl) ?_
  refine sq 10 rfl rfl (Y_ne (k := .i64) (a := (a.length : Int)) (b := (b.length : Int)) rfl rfl rfl) ?_
  refine rw_nil ?_
  refine cw_cond (b := ((a.length : Int) != (b.length : Int))) rfl (fun hb => ?_) (fun hb => ?_)
  · skip
    have hF1 := ct hF hb
    refine cw_seq ?_
    refine cw_region ?_
    refine sq 4 rfl rfl (Y_assign (v := .bool false) rfl rfl) ?_
    refine rw_nil ?_
    refine cw_ret ?_
    obtain rfl := some_inj hF1
    exact ret1 Try.results69 (v1 := .bool false) (resAt_tmp rfl) ⟨rfl, (ST.subR (R' := []) (hS.sel [] rfl rfl) (fun _ h => by cases h))⟩
  · skip
    have hF2 := cf' hF hb
    refine cw_skip ?_
    refine cw_seq ?_
    refine cw_seq ?_
    refine cw_region ?_
    refine sq 5 rfl rfl (Y_assign (v := .int .i64 0) rfl rfl) ?_
    refine rw_nil ?_
    obtain ⟨hN, hF2⟩ := chk_inv hF2
    obtain ⟨z, hz, hF3⟩ := bind_inv hF2
    refine cw_block ?_
    refine cw_loop (fun k f w => ∃ (i1 : Nat), FF f [(0, .slice B a.length c), (1, .slice B1 b.length c1), (5, .int .i64 (i1 : Int))] ∧ ST w0 [] w [] [⟨B, (a.flatMap enc_Dyadic)⟩, ⟨B1, (b.flatMap enc_Dyadic)⟩] ∧ i1 + k = a.length ∧ forX (F_laws_eqDyadicS_l1 a b) k i1 () = some z) a.length ⟨0, (FF.cons rfl (FF.cons rfl (FF.cons rfl FF.nil))), (hS.sel [] rfl rfl), Nat.zero_add _, hz⟩ ?_
    rintro k_ f w ⟨i1, hf, hS1, hik, hL⟩
    refine cw_seq ?_
    refine cw_seq ?_
    refine cw_region ?_
    refine sq 11 rfl rfl (Y_move (v := .int .i64 (i1 : Int)) rfl (hf.get 5 2 rfl)) ?_
    refine sq 12 rfl rfl (Y_move (v := .slice B a.length c) rfl (hf.get 0 0 rfl)) ?_
    refine sq 13 rfl rfl (Y_len (B := B) (m := a.length) (c := c) k_sl_27_91 rfl rfl) ?_
    refine sq 14 rfl rfl (Y_lt (k := .i64) (a := (i1 : Int)) (b := (a.length : Int)) rfl rfl rfl) ?_
    refine rw_nil ?_
    refine cw_cond (b := (decide ((i1 : Int) < (a.length : Int)))) rfl (fun hlt => ?_) (fun hlt => ?_)
    · skip
      have hlt1 : i1 < a.length := by have h := of_decide_eq_true hlt; omega
      obtain ⟨k_1, rfl⟩ : ∃ k2, k_ = k2 + 1 := ⟨k_ - 1, by omega⟩
      obtain ⟨y, hb1, hL1⟩ := forX_go hL
      unfold F_laws_eqDyadicS_l1 at hb1
      refine cw_skip ?_
      refine cw_seq ?_
      refine cw_block ?_
      refine cw_seq ?_
      obtain ⟨x, hx, hb1⟩ := bind_inv hb1
      obtain ⟨x1, hx1, hb1⟩ := bind_inv hb1
      obtain ⟨r_1, hc, hb1⟩ := bind_inv hb1
      refine ra_start (ST.sel hS1 [] rfl rfl).fn (by kernel_rfl) ?_
      have hS3 := hS1.drew
      refine ra_q 0 17 (v := .slice B a.length c) rfl rfl rfl (by kernel_rfl) (by kernel_rfl) (by kernel_rfl) (ST.sel hS3 [] rfl rfl) (fun w' hw' => (Y_move (v := .slice B a.length c) rfl (hf.get 0 0 rfl))) ?_
      refine ra_q 1 18 (v := .int .i64 (i1 : Int)) rfl rfl rfl (by kernel_rfl) (by kernel_rfl) (by kernel_rfl) (ST.sel hS3 [] rfl rfl) (fun w' hw' => (Y_move (v := .int .i64 (i1 : Int)) rfl (hf.get 5 2 rfl))) ?_
      refine ra_q 2 19 (v := pt B ((i1 : Int).toNat * 5)) rfl rfl rfl (by kernel_rfl) (by kernel_rfl) (by kernel_rfl) (ST.sel hS3 [] rfl rfl) (fun w' hw' => (Y_index (B := B) (m := a.length) (c := c) (k := .i64) (i := (i1 : Int)) k_sl_27_91 k_sz_91_5 rfl rfl rfl (gi_isSome enc_Dyadic_len rfl (ST.rf hw' (i := 0) rfl) hx) (getI_nn hx) (getI_ltI hx rfl))) ?_
      refine ra_q 3 20 (v := .agg #[.int .i64 x.Num.A, .int .i64 x.Num.B, .int .i64 x.Num.C, .int .i64 x.Num.D, .int .i64 x.Exp]) rfl rfl rfl (by kernel_rfl) (by kernel_rfl) (by kernel_rfl) (ST.sel hS3 [] rfl rfl) (fun w' hw' => (Y_loadA (B := B) (i := (i1 : Int).toNat * 5) (cs := (a.flatMap enc_Dyadic)) (vs := [.int .i64 x.Num.A, .int .i64 x.Num.B, .int .i64 x.Num.C, .int .i64 x.Num.D, .int .i64 x.Exp]) k_ag_91 k_sz_91_5 rfl rfl (ST.rf hw' (i := 0) rfl) (enc_Dyadic_len x) (gi_seg enc_Dyadic_len hx))) ?_
      refine ra_q 4 21 (v := .slice B1 b.length c1) rfl rfl rfl (by kernel_rfl) (by kernel_rfl) (by kernel_rfl) (ST.sel hS3 [] rfl rfl) (fun w' hw' => (Y_move (v := .slice B1 b.length c1) rfl (hf.get 1 1 rfl))) ?_
      refine ra_q 5 22 (v := .int .i64 (i1 : Int)) rfl rfl rfl (by kernel_rfl) (by kernel_rfl) (by kernel_rfl) (ST.sel hS3 [] rfl rfl) (fun w' hw' => (Y_move (v := .int .i64 (i1 : Int)) rfl (hf.get 5 2 rfl))) ?_
      refine ra_q 6 23 (v := pt B1 ((i1 : Int).toNat * 5)) rfl rfl rfl (by kernel_rfl) (by kernel_rfl) (by kernel_rfl) (ST.sel hS3 [] rfl rfl) (fun w' hw' => (Y_index (B := B1) (m := b.length) (c := c1) (k := .i64) (i := (i1 : Int)) k_sl_27_91 k_sz_91_5 rfl rfl rfl (gi_isSome enc_Dyadic_len rfl (ST.rf hw' (i := 1) rfl) hx1) (getI_nn hx1) (getI_ltI hx1 rfl))) ?_
      refine ra_q 7 24 (v := .agg #[.int .i64 x1.Num.A, .int .i64 x1.Num.B, .int .i64 x1.Num.C, .int .i64 x1.Num.D, .int .i64 x1.Exp]) rfl rfl rfl (by kernel_rfl) (by kernel_rfl) (by kernel_rfl) (ST.sel hS3 [] rfl rfl) (fun w' hw' => (Y_loadA (B := B1) (i := (i1 : Int).toNat * 5) (cs := (b.flatMap enc_Dyadic)) (vs := [.int .i64 x1.Num.A, .int .i64 x1.Num.B, .int .i64 x1.Num.C, .int .i64 x1.Num.D, .int .i64 x1.Exp]) k_ag_91 k_sz_91_5 rfl rfl (ST.rf hw' (i := 1) rfl) (enc_Dyadic_len x1) (gi_seg enc_Dyadic_len hx1))) ?_
      refine ra_all (rs := [8]) (by kernel_rfl) rfl ?_
      refine ra_c 25 (i := 8) rfl rfl rfl (Yc_func (g := 138) (vs := [.agg #[.int .i64 x.Num.A, .int .i64 x.Num.B, .int .i64 x.Num.C, .int .i64 x.Num.D, .int .i64 x.Exp], .agg #[.int .i64 x1.Num.A, .int .i64 x1.Num.B, .int .i64 x1.Num.C, .int .i64 x1.Num.D, .int .i64 x1.Exp]]) k_call_138 rfl (mc rfl (mc rfl mn)) (c_laws_eqDyadic x x1 _  (hS3.inn0 [] rfl) hc)) ?_ ?_
      · rintro _ w_ ⟨rfl, hd⟩
        have hS4 := hS3.out00 hd
        refine ⟨(ST.sel hS4 [] rfl rfl), ?_⟩
        refine ra_q 9 26 (v := .bool (!r_1)) rfl rfl rfl (by kernel_rfl) (by kernel_rfl) (by kernel_rfl) (ST.sel hS4 [] rfl rfl) (fun w' hw' => (Y_not (p := r_1) rfl rfl)) ?_
        refine ra_done (by kernel_rfl) ?_
        refine cw_cond (b := (!r_1)) rfl (fun hb2 => ?_) (fun hb2 => ?_)
        · skip
          have hF4 := ct hb1 hb2
          refine cw_seq ?_
          refine cw_region ?_
          refine sq 4 rfl rfl (Y_assign (v := .bool false) rfl rfl) ?_
          refine rw_nil ?_
          refine cw_ret ?_
          obtain rfl := some_inj hF4
          obtain rfl := some_inj hL1
          obtain rfl := some_inj hF3
          exact ret1 Try.results69 (v1 := .bool false) (resAt_tmp rfl) ⟨rfl, (ST.subR (R' := []) (hS4.sel [] rfl rfl) (fun _ h => by cases h))⟩
        · skip
          have hF5 := cf' hb1 hb2
          refine cw_skip ?_
          refine cw_region ?_
          refine sq 15 rfl rfl (Y_move (v := .int .i64 (i1 : Int)) rfl (hf.get 5 2 rfl)) ?_
          refine sq 16 rfl rfl (Y_add (k := .i64) (a := (i1 : Int)) (b := 1) rfl rfl rfl) ?_
          refine sq 5 rfl rfl (Y_assign (v := .int .i64 (IntKind.i64.wrap ((i1 : Int) + 1))) rfl rfl) ?_
          refine rw_nil ?_
          obtain rfl := some_inj hF5
          exact ⟨k_1, Nat.lt_succ_self _, i1 + 1, (FF.cons (hf.get 0 0 rfl) (FF.cons (hf.get 1 1 rfl) (FF.cons (congrArg (Value.int .i64) (wr_succ hlt1 hN)) FF.nil))), (hS4.sel [] rfl rfl), (by omega), hL1⟩
      exact allR_nil
    · skip
      obtain rfl : k_ = 0 := by have h := of_decide_eq_false hlt; omega
      refine cw_exit rfl ?_
      obtain rfl := some_inj hL
      refine cw_seq ?_
      refine cw_region ?_
      refine sq 4 rfl rfl (Y_assign (v := .bool true) rfl rfl) ?_
      refine rw_nil ?_
      refine cw_ret ?_
      obtain rfl := some_inj hF3
      exact ret1 Try.results69 (v1 := .bool true) (resAt_tmp rfl) ⟨rfl, (ST.subR (R' := []) (hS1.sel [] rfl rfl) (fun _ h => by cases h))⟩

theorem c_laws_eqBloch (a : TBloch) (b : TBloch) (B : Option Addr) (c n : Nat) (B1 : Option Addr) (c1 n1 : Nat) (w0 : World) (hn : a.Cells.length = n) (hn1 : b.Cells.length = n1) (hS : ST w0 [] w0 [] [⟨B, (a.Cells.flatMap enc_Dyadic)⟩, ⟨B1, (b.Cells.flatMap enc_Dyadic)⟩]) {r_ : Bool} (hF : F_laws_eqBloch a b = some r_) :
    CV Try.prog 19 #[.agg #[.slice B n c], .agg #[.slice B1 n1 c1]] w0 (fun v w' => v = .bool r_ ∧ ST w0 [] w' [] []) := by
  subst hn
  subst hn1
  unfold F_laws_eqBloch at hF
  refine cv_of_cw 11 Try.func19 rfl Try.ntmps19 rfl ?_
  refine cw_seq ?_
  refine cw_region ?_
  refine ss 2 rfl rfl (Ys_box (T := 29) (v := .agg #[.slice B a.Cells.length c]) (cs := [.slice B a.Cells.length c]) (m := 1) hS rfl rfl rfl rfl) ?_
  rintro _ w_ ⟨b1, rfl, hS1⟩
  refine ss 3 rfl rfl (Ys_box (T := 29) (v := .agg #[.slice B1 b.Cells.length c1]) (cs := [.slice B1 b.Cells.length c1]) (m := 1) hS1 rfl rfl rfl rfl) ?_
  rintro _ w_1 ⟨b2, rfl, hS2⟩
  have hS2 : ST w0 [] _ [⟨some ⟨b1, 0, none⟩, 29, [.slice B a.Cells.length c], 1⟩, ⟨some ⟨b2, 0, none⟩, 29, [.slice B1 b.Cells.length c1], 1⟩] [⟨B, (a.Cells.flatMap enc_Dyadic)⟩, ⟨B1, (b.Cells.flatMap enc_Dyadic)⟩] := hS2
  refine sq 4 rfl rfl (Y_assign (v := .bool false) rfl rfl) ?_
  refine rw_nil ?_
  refine cw_seq ?_
  refine cw_seq ?_
  refine cw_region ?_
  refine sq 5 rfl rfl (Y_fieldAddr (B := some ⟨b1, 0, none⟩) (i := 0) (s := 0) k_fd_29_0_0_27 k_sz_27_1 rfl rfl) ?_
  refine sq 6 rfl rfl (Y_load1 (B := some ⟨b1, 0, none⟩) (i := 0) (cs := [.slice B a.Cells.length c]) (v := .slice B a.Cells.length c) k_sc_27 rfl rfl (hS2.cf (i := 0) rfl) rfl) ?_
  refine sq 7 rfl rfl (Y_fieldAddr (B := some ⟨b2, 0, none⟩) (i := 0) (s := 0) k_fd_29_0_0_27 k_sz_27_1 rfl rfl) ?_
  refine sq 8 rfl rfl (Y_load1 (B := some ⟨b2, 0, none⟩) (i := 0) (cs := [.slice B1 b.Cells.length c1]) (v := .slice B1 b.Cells.length c1) k_sc_27 rfl rfl (hS2.cf (i := 1) rfl) rfl) ?_
  obtain ⟨r_1, hc, hF⟩ := bind_inv hF
  refine sc 9 rfl rfl (Yc_func (g := 69) (vs := [.slice B a.Cells.length c, .slice B1 b.Cells.length c1]) k_call_69 rfl (mc rfl (mc rfl mn)) (c_laws_eqDyadicS a.Cells b.Cells B c a.Cells.length B1 c1 b.Cells.length _ rfl rfl (hS2.inn0 [(true, 0), (true, 1)] rfl) hc)) ?_
  rintro _ w_2 ⟨rfl, hd⟩
  have hS3 := hS2.out00 hd
  have hS3 : ST w0 [] _ [⟨some ⟨b1, 0, none⟩, 29, [.slice B a.Cells.length c], 1⟩, ⟨some ⟨b2, 0, none⟩, 29, [.slice B1 b.Cells.length c1], 1⟩] [⟨B, (a.Cells.flatMap enc_Dyadic)⟩, ⟨B1, (b.Cells.flatMap enc_Dyadic)⟩] := hS3
  refine sq 10 rfl rfl (Y_not (p := r_1) rfl rfl) ?_
  refine rw_nil ?_
  refine cw_cond (b := (!r_1)) rfl (fun hb => ?_) (fun hb => ?_)
  · skip
    have hF1 := ct hF hb
    refine cw_seq ?_
    refine cw_region ?_
    refine sq 4 rfl rfl (Y_assign (v := .bool false) rfl rfl) ?_
    refine rw_nil ?_
    refine cw_ret ?_
    obtain rfl := some_inj hF1
    exact ret1 Try.results19 (v1 := .bool false) (resAt_tmp rfl) ⟨rfl, (ST.subR (R' := []) (hS3.sel [] rfl rfl) (fun _ h => by cases h))⟩
  · skip
    have hF2 := cf' hF hb
    refine cw_skip ?_
    refine cw_seq ?_
    refine cw_region ?_
    refine sq 4 rfl rfl (Y_assign (v := .bool true) rfl rfl) ?_
    refine rw_nil ?_
    refine cw_ret ?_
    obtain rfl := some_inj hF2
    exact ret1 Try.results19 (v1 := .bool true) (resAt_tmp rfl) ⟨rfl, (ST.subR (R' := []) (hS3.sel [] rfl rfl) (fun _ h => by cases h))⟩

theorem c_laws_markDyadicS (a : List TDyadic) (k_ : Int) (B : Option Addr) (c n : Nat) (w0 : World) (hn : a.length = n) (hS : ST w0 (bl [⟨B, 91, (a.flatMap enc_Dyadic), c * 5⟩]) w0 [⟨B, 91, (a.flatMap enc_Dyadic), c * 5⟩] []) {r_ : Int} {m : List TDyadic} (hF : F_laws_markDyadicS a k_ = some (r_, m)) :
    CV Try.prog 116 #[.slice B n c, .int .i64 k_] w0 (fun v w' => v = .int .i64 r_ ∧ m.length = n ∧ ST w0 (bl [⟨B, 91, (a.flatMap enc_Dyadic), c * 5⟩]) w' [⟨B, 91, (m.flatMap enc_Dyadic), c * 5⟩] []) := by
  subst hn
  unfold F_laws_markDyadicS at hF
  refine cv_of_cw 52 Try.func116 rfl Try.ntmps116 rfl ?_
  refine cw_seq ?_
  refine cw_region ?_
  refine sq 4 rfl rfl (Y_assign (v := .int .i64 0) rfl rfl) ?_
  refine rw_nil ?_
  refine cw_seq ?_
  refine cw_seq ?_
  refine cw_region ?_
  refine sq 5 rfl rfl (Y_assign (v := .int .i64 0) rfl rfl) ?_
  refine rw_nil ?_
  obtain ⟨hN, hF⟩ := chk_inv hF
  obtain ⟨z, hz, hF1⟩ := bind_inv hF
  refine cw_block ?_
  refine cw_loop (fun k f w => ∃ (i1 : Nat) (m1 : List TDyadic) (k_1 : Int), FF f [(0, .slice B a.length c), (1, .int .i64 k_1), (5, .int .i64 (i1 : Int))] ∧ m1.length = a.length ∧ ST w0 (bl [⟨B, 91, (a.flatMap enc_Dyadic), c * 5⟩]) w [⟨B, 91, (m1.flatMap enc_Dyadic), c * 5⟩] [] ∧ i1 + k = a.length ∧ forN F_laws_markDyadicS_l1 k i1 (m1, k_1) = some z) a.length ⟨0, a, k_, (FF.cons rfl (FF.cons rfl (FF.cons rfl FF.nil))), rfl, (hS.sel [0] rfl rfl), Nat.zero_add _, hz⟩ ?_
  rintro k_2 f w ⟨i1, m1, k_1, hf, hl, hS1, hik, hL⟩
  refine cw_seq ?_
  refine cw_seq ?_
  refine cw_region ?_
  refine sq 6 rfl rfl (Y_move (v := .int .i64 (i1 : Int)) rfl (hf.get 5 2 rfl)) ?_
  refine sq 7 rfl rfl (Y_move (v := .slice B a.length c) rfl (hf.get 0 0 rfl)) ?_
  refine sq 8 rfl rfl (Y_len (B := B) (m := a.length) (c := c) k_sl_27_91 rfl rfl) ?_
  refine sq 9 rfl rfl (Y_lt (k := .i64) (a := (i1 : Int)) (b := (a.length : Int)) rfl rfl rfl) ?_
  refine rw_nil ?_
  refine cw_cond (b := (decide ((i1 : Int) < (a.length : Int)))) rfl (fun hlt => ?_) (fun hlt => ?_)
  · skip
    have hlt1 : i1 < a.length := by have h := of_decide_eq_true hlt; omega
    obtain ⟨k_3, rfl⟩ : ∃ k2, k_2 = k2 + 1 := ⟨k_2 - 1, by omega⟩
    obtain ⟨y, hb, hL1⟩ := forN_go hL
    unfold F_laws_markDyadicS_l1 at hb
    refine cw_skip ?_
    refine cw_seq ?_
    refine cw_block ?_
    refine cw_seq ?_
    refine cw_region ?_
    refine sq 12 rfl rfl (Y_move (v := .slice B a.length c) rfl (hf.get 0 0 rfl)) ?_
    refine sq 13 rfl rfl (Y_move (v := .int .i64 (i1 : Int)) rfl (hf.get 5 2 rfl)) ?_
    refine sq 14 rfl rfl (Y_move (v := .int .i64 k_1) rfl (hf.get 1 1 rfl)) ?_
    obtain ⟨x, hx, hb⟩ := bind_inv hb
    refine sq 15 rfl rfl (Y_index (B := B) (m := a.length) (c := c) (k := .i64) (i := (i1 : Int)) k_sl_27_91 k_sz_91_5 rfl rfl rfl (gi_isSome enc_Dyadic_len rfl (hS1.cf (i := 0) rfl) hx) (getI_nn hx) (getI_ltI hx hl)) ?_
    refine sq 16 rfl rfl (Y_fieldAddr (B := B) (i := (i1 : Int).toNat * 5) (s := 3) k_fd_91_0_0_89 k_sz_89_4 rfl rfl) ?_
    refine sq 17 rfl rfl (Y_fieldAddr2 (B := B) (i := (i1 : Int).toNat * 5) (e := 0) (l := 0) (s := 0) k_fd_89_0_0_3 k_sz_3_1 rfl rfl rfl) ?_
    refine ss0 rfl rfl (Ys_store (i := 0) (s := 1) (B := B) (T' := 91) (v := .int .i64 k_1) (vs := [.int .i64 k_1]) (k := (i1 : Int).toNat * 5 + 0) (cs' := ((m1.set (i1 : Int).toNat (TDyadic.mk (TRing.mk k_1 x.Num.B x.Num.C x.Num.D) x.Exp)).flatMap enc_Dyadic)) hS1 k_sz_3_1 rfl rfl rfl rfl rfl rfl rfl (gi_fit enc_Dyadic_len hx (j := 0) (k := 1) (by decide)) (gi_setf enc_Dyadic_len hx (TDyadic.mk (TRing.mk k_1 x.Num.B x.Num.C x.Num.D) x.Exp) rfl (Nat.le_of_ble_eq_true rfl)) rfl) ?_
    rintro _ w_ ⟨rfl, hS2⟩
    refine rw_nil ?_
    refine cw_seq ?_
    refine cw_region ?_
    refine sq 18 rfl rfl (Y_move (v := .int .i64 k_1) rfl (hf.get 1 1 rfl)) ?_
    refine sq 19 rfl rfl (Y_add (k := .i64) (a := k_1) (b := 1) rfl rfl rfl) ?_
    refine sq 1 rfl rfl (Y_assign (v := .int .i64 (IntKind.i64.wrap (k_1 + 1))) rfl rfl) ?_
    refine rw_nil ?_
    refine cw_seq ?_
    refine cw_region ?_
    refine sq 20 rfl rfl (Y_move (v := .slice B a.length c) rfl (hf.get 0 0 rfl)) ?_
    refine sq 21 rfl rfl (Y_move (v := .int .i64 (i1 : Int)) rfl (hf.get 5 2 rfl)) ?_
    refine sq 22 rfl rfl (Y_move (v := .int .i64 (IntKind.i64.wrap (k_1 + 1))) rfl rfl) ?_
    refine sq 23 rfl rfl (Y_index (B := B) (m := a.length) (c := c) (k := .i64) (i := (i1 : Int)) k_sl_27_91 k_sz_91_5 rfl rfl rfl (gi_isSome enc_Dyadic_len rfl (hS2.cf (i := 0) rfl) (getI_set (y := (TDyadic.mk (TRing.mk k_1 x.Num.B x.Num.C x.Num.D) x.Exp)) hx)) (getI_nn (getI_set (y := (TDyadic.mk (TRing.mk k_1 x.Num.B x.Num.C x.Num.D) x.Exp)) hx)) (getI_ltI (getI_set (y := (TDyadic.mk (TRing.mk k_1 x.Num.B x.Num.C x.Num.D) x.Exp)) hx) (set_len _ _ _ hl))) ?_
    refine sq 24 rfl rfl (Y_fieldAddr (B := B) (i := (i1 : Int).toNat * 5) (s := 3) k_fd_91_0_0_89 k_sz_89_4 rfl rfl) ?_
    refine sq 25 rfl rfl (Y_fieldAddr2 (B := B) (i := (i1 : Int).toNat * 5) (e := 0) (l := 1) (s := 0) k_fd_89_1_1_3 k_sz_3_1 rfl rfl rfl) ?_
    refine ss0 rfl rfl (Ys_store (i := 0) (s := 1) (B := B) (T' := 91) (v := .int .i64 (IntKind.i64.wrap (k_1 + 1))) (vs := [.int .i64 (IntKind.i64.wrap (k_1 + 1))]) (k := (i1 : Int).toNat * 5 + 1) (cs' := (((m1.set (i1 : Int).toNat (TDyadic.mk (TRing.mk k_1 x.Num.B x.Num.C x.Num.D) x.Exp)).set (i1 : Int).toNat (TDyadic.mk (TRing.mk k_1 (IntKind.i64.wrap (k_1 + 1)) x.Num.C x.Num.D) x.Exp)).flatMap enc_Dyadic)) hS2 k_sz_3_1 rfl rfl rfl rfl rfl rfl rfl (gi_fit enc_Dyadic_len (getI_set (y := (TDyadic.mk (TRing.mk k_1 x.Num.B x.Num.C x.Num.D) x.Exp)) hx) (j := 1) (k := 1) (by decide)) (gi_setf enc_Dyadic_len (getI_set (y := (TDyadic.mk (TRing.mk k_1 x.Num.B x.Num.C x.Num.D) x.Exp)) hx) (TDyadic.mk (TRing.mk k_1 (IntKind.i64.wrap (k_1 + 1)) x.Num.C x.Num.D) x.Exp) rfl (Nat.le_of_ble_eq_true rfl)) rfl) ?_
    rintro _ w_1 ⟨rfl, hS3⟩
    refine rw_nil ?_
    refine cw_seq ?_
    refine cw_region ?_
    refine sq 26 rfl rfl (Y_move (v := .int .i64 (IntKind.i64.wrap (k_1 + 1))) rfl rfl) ?_
    refine sq 27 rfl rfl (Y_add (k := .i64) (a := (IntKind.i64.wrap (k_1 + 1))) (b := 1) rfl rfl rfl) ?_
    refine sq 1 rfl rfl (Y_assign (v := .int .i64 (IntKind.i64.wrap ((IntKind.i64.wrap (k_1 + 1)) + 1))) rfl rfl) ?_
    refine rw_nil ?_
    refine cw_seq ?_
    refine cw_region ?_
    refine sq 28 rfl rfl (Y_move (v := .slice B a.length c) rfl (hf.get 0 0 rfl)) ?_
    refine sq 29 rfl rfl (Y_move (v := .int .i64 (i1 : Int)) rfl (hf.get 5 2 rfl)) ?_
    refine sq 30 rfl rfl (Y_move (v := .int .i64 (IntKind.i64.wrap ((IntKind.i64.wrap (k_1 + 1)) + 1))) rfl rfl) ?_
    refine sq 31 rfl rfl (Y_index (B := B) (m := a.length) (c := c) (k := .i64) (i := (i1 : Int)) k_sl_27_91 k_sz_91_5 rfl rfl rfl (gi_isSome enc_Dyadic_len rfl (hS3.cf (i := 0) rfl) (getI_set (y := (TDyadic.mk (TRing.mk k_1 (IntKind.i64.wrap (k_1 + 1)) x.Num.C x.Num.D) x.Exp)) (getI_set (y := (TDyadic.mk (TRing.mk k_1 x.Num.B x.Num.C x.Num.D) x.Exp)) hx))) (getI_nn (getI_set (y := (TDyadic.mk (TRing.mk k_1 (IntKind.i64.wrap (k_1 + 1)) x.Num.C x.Num.D) x.Exp)) (getI_set (y := (TDyadic.mk (TRing.mk k_1 x.Num.B x.Num.C x.Num.D) x.Exp)) hx))) (getI_ltI (getI_set (y := (TDyadic.mk (TRing.mk k_1 (IntKind.i64.wrap (k_1 + 1)) x.Num.C x.Num.D) x.Exp)) (getI_set (y := (TDyadic.mk (TRing.mk k_1 x.Num.B x.Num.C x.Num.D) x.Exp)) hx)) (set_len _ _ _ (set_len _ _ _ hl)))) ?_
    refine sq 32 rfl rfl (Y_fieldAddr (B := B) (i := (i1 : Int).toNat * 5) (s := 3) k_fd_91_0_0_89 k_sz_89_4 rfl rfl) ?_
    refine sq 33 rfl rfl (Y_fieldAddr2 (B := B) (i := (i1 : Int).toNat * 5) (e := 0) (l := 2) (s := 0) k_fd_89_2_2_3 k_sz_3_1 rfl rfl rfl) ?_
    refine ss0 rfl rfl (Ys_store (i := 0) (s := 1) (B := B) (T' := 91) (v := .int .i64 (IntKind.i64.wrap ((IntKind.i64.wrap (k_1 + 1)) + 1))) (vs := [.int .i64 (IntKind.i64.wrap ((IntKind.i64.wrap (k_1 + 1)) + 1))]) (k := (i1 : Int).toNat * 5 + 2) (cs' := ((((m1.set (i1 : Int).toNat (TDyadic.mk (TRing.mk k_1 x.Num.B x.Num.C x.Num.D) x.Exp)).set (i1 : Int).toNat (TDyadic.mk (TRing.mk k_1 (IntKind.i64.wrap (k_1 + 1)) x.Num.C x.Num.D) x.Exp)).set (i1 : Int).toNat (TDyadic.mk (TRing.mk k_1 (IntKind.i64.wrap (k_1 + 1)) (IntKind.i64.wrap ((IntKind.i64.wrap (k_1 + 1)) + 1)) x.Num.D) x.Exp)).flatMap enc_Dyadic)) hS3 k_sz_3_1 rfl rfl rfl rfl rfl rfl rfl (gi_fit enc_Dyadic_len (getI_set (y := (TDyadic.mk (TRing.mk k_1 (IntKind.i64.wrap (k_1 + 1)) x.Num.C x.Num.D) x.Exp)) (getI_set (y := (TDyadic.mk (TRing.mk k_1 x.Num.B x.Num.C x.Num.D) x.Exp)) hx)) (j := 2) (k := 1) (by decide)) (gi_setf enc_Dyadic_len (getI_set (y := (TDyadic.mk (TRing.mk k_1 (IntKind.i64.wrap (k_1 + 1)) x.Num.C x.Num.D) x.Exp)) (getI_set (y := (TDyadic.mk (TRing.mk k_1 x.Num.B x.Num.C x.Num.D) x.Exp)) hx)) (TDyadic.mk (TRing.mk k_1 (IntKind.i64.wrap (k_1 + 1)) (IntKind.i64.wrap ((IntKind.i64.wrap (k_1 + 1)) + 1)) x.Num.D) x.Exp) rfl (Nat.le_of_ble_eq_true rfl)) rfl) ?_
    rintro _ w_2 ⟨rfl, hS4⟩
    refine rw_nil ?_
    refine cw_seq ?_
    refine cw_region ?_
    refine sq 34 rfl rfl (Y_move (v := .int .i64 (IntKind.i64.wrap ((IntKind.i64.wrap (k_1 + 1)) + 1))) rfl rfl) ?_
    refine sq 35 rfl rfl (Y_add (k := .i64) (a := (IntKind.i64.wrap ((IntKind.i64.wrap (k_1 + 1)) + 1))) (b := 1) rfl rfl rfl) ?_
    refine sq 1 rfl rfl (Y_assign (v := .int .i64 (IntKind.i64.wrap ((IntKind.i64.wrap ((IntKind.i64.wrap (k_1 + 1)) + 1)) + 1))) rfl rfl) ?_
    refine rw_nil ?_
    refine cw_seq ?_
    refine cw_region ?_
    refine sq 36 rfl rfl (Y_move (v := .slice B a.length c) rfl (hf.get 0 0 rfl)) ?_
    refine sq 37 rfl rfl (Y_move (v := .int .i64 (i1 : Int)) rfl (hf.get 5 2 rfl)) ?_
    refine sq 38 rfl rfl (Y_move (v := .int .i64 (IntKind.i64.wrap ((IntKind.i64.wrap ((IntKind.i64.wrap (k_1 + 1)) + 1)) + 1))) rfl rfl) ?_
    refine sq 39 rfl rfl (Y_index (B := B) (m := a.length) (c := c) (k := .i64) (i := (i1 : Int)) k_sl_27_91 k_sz_91_5 rfl rfl rfl (gi_isSome enc_Dyadic_len rfl (hS4.cf (i := 0) rfl) (getI_set (y := (TDyadic.mk (TRing.mk k_1 (IntKind.i64.wrap (k_1 + 1)) (IntKind.i64.wrap ((IntKind.i64.wrap (k_1 + 1)) + 1)) x.Num.D) x.Exp)) (getI_set (y := (TDyadic.mk (TRing.mk k_1 (IntKind.i64.wrap (k_1 + 1)) x.Num.C x.Num.D) x.Exp)) (getI_set (y := (TDyadic.mk (TRing.mk k_1 x.Num.B x.Num.C x.Num.D) x.Exp)) hx)))) (getI_nn (getI_set (y := (TDyadic.mk (TRing.mk k_1 (IntKind.i64.wrap (k_1 + 1)) (IntKind.i64.wrap ((IntKind.i64.wrap (k_1 + 1)) + 1)) x.Num.D) x.Exp)) (getI_set (y := (TDyadic.mk (TRing.mk k_1 (IntKind.i64.wrap (k_1 + 1)) x.Num.C x.Num.D) x.Exp)) (getI_set (y := (TDyadic.mk (TRing.mk k_1 x.Num.B x.Num.C x.Num.D) x.Exp)) hx)))) (getI_ltI (getI_set (y := (TDyadic.mk (TRing.mk k_1 (IntKind.i64.wrap (k_1 + 1)) (IntKind.i64.wrap ((IntKind.i64.wrap (k_1 + 1)) + 1)) x.Num.D) x.Exp)) (getI_set (y := (TDyadic.mk (TRing.mk k_1 (IntKind.i64.wrap (k_1 + 1)) x.Num.C x.Num.D) x.Exp)) (getI_set (y := (TDyadic.mk (TRing.mk k_1 x.Num.B x.Num.C x.Num.D) x.Exp)) hx))) (set_len _ _ _ (set_len _ _ _ (set_len _ _ _ hl))))) ?_
    refine sq 40 rfl rfl (Y_fieldAddr (B := B) (i := (i1 : Int).toNat * 5) (s := 3) k_fd_91_0_0_89 k_sz_89_4 rfl rfl) ?_
    refine sq 41 rfl rfl (Y_fieldAddr2 (B := B) (i := (i1 : Int).toNat * 5) (e := 0) (l := 3) (s := 0) k_fd_89_3_3_3 k_sz_3_1 rfl rfl rfl) ?_
    refine ss0 rfl rfl (Ys_store (i := 0) (s := 1) (B := B) (T' := 91) (v := .int .i64 (IntKind.i64.wrap ((IntKind.i64.wrap ((IntKind.i64.wrap (k_1 + 1)) + 1)) + 1))) (vs := [.int .i64 (IntKind.i64.wrap ((IntKind.i64.wrap ((IntKind.i64.wrap (k_1 + 1)) + 1)) + 1))]) (k := (i1 : Int).toNat * 5 + 3) (cs' := (((((m1.set (i1 : Int).toNat (TDyadic.mk (TRing.mk k_1 x.Num.B x.Num.C x.Num.D) x.Exp)).set (i1 : Int).toNat (TDyadic.mk (TRing.mk k_1 (IntKind.i64.wrap (k_1 + 1)) x.Num.C x.Num.D) x.Exp)).set (i1 : Int).toNat (TDyadic.mk (TRing.mk k_1 (IntKind.i64.wrap (k_1 + 1)) (IntKind.i64.wrap ((IntKind.i64.wrap (k_1 + 1)) + 1)) x.Num.D) x.Exp)).set (i1 : Int).toNat (TDyadic.mk (TRing.mk k_1 (IntKind.i64.wrap (k_1 + 1)) (IntKind.i64.wrap ((IntKind.i64.wrap (k_1 + 1)) + 1)) (IntKind.i64.wrap ((IntKind.i64.wrap ((IntKind.i64.wrap (k_1 + 1)) + 1)) + 1))) x.Exp)).flatMap enc_Dyadic)) hS4 k_sz_3_1 rfl rfl rfl rfl rfl rfl rfl (gi_fit enc_Dyadic_len (getI_set (y := (TDyadic.mk (TRing.mk k_1 (IntKind.i64.wrap (k_1 + 1)) (IntKind.i64.wrap ((IntKind.i64.wrap (k_1 + 1)) + 1)) x.Num.D) x.Exp)) (getI_set (y := (TDyadic.mk (TRing.mk k_1 (IntKind.i64.wrap (k_1 + 1)) x.Num.C x.Num.D) x.Exp)) (getI_set (y := (TDyadic.mk (TRing.mk k_1 x.Num.B x.Num.C x.Num.D) x.Exp)) hx))) (j := 3) (k := 1) (by decide)) (gi_setf enc_Dyadic_len (getI_set (y := (TDyadic.mk (TRing.mk k_1 (IntKind.i64.wrap (k_1 + 1)) (IntKind.i64.wrap ((IntKind.i64.wrap (k_1 + 1)) + 1)) x.Num.D) x.Exp)) (getI_set (y := (TDyadic.mk (TRing.mk k_1 (IntKind.i64.wrap (k_1 + 1)) x.Num.C x.Num.D) x.Exp)) (getI_set (y := (TDyadic.mk (TRing.mk k_1 x.Num.B x.Num.C x.Num.D) x.Exp)) hx))) (TDyadic.mk (TRing.mk k_1 (IntKind.i64.wrap (k_1 + 1)) (IntKind.i64.wrap ((IntKind.i64.wrap (k_1 + 1)) + 1)) (IntKind.i64.wrap ((IntKind.i64.wrap ((IntKind.i64.wrap (k_1 + 1)) + 1)) + 1))) x.Exp) rfl (Nat.le_of_ble_eq_true rfl)) rfl) ?_
    rintro _ w_3 ⟨rfl, hS5⟩
    refine rw_nil ?_
    refine cw_seq ?_
    refine cw_region ?_
    refine sq 42 rfl rfl (Y_move (v := .int .i64 (IntKind.i64.wrap ((IntKind.i64.wrap ((IntKind.i64.wrap (k_1 + 1)) + 1)) + 1))) rfl rfl) ?_
    refine sq 43 rfl rfl (Y_add (k := .i64) (a := (IntKind.i64.wrap ((IntKind.i64.wrap ((IntKind.i64.wrap (k_1 + 1)) + 1)) + 1))) (b := 1) rfl rfl rfl) ?_
    refine sq 1 rfl rfl (Y_assign (v := .int .i64 (IntKind.i64.wrap ((IntKind.i64.wrap ((IntKind.i64.wrap ((IntKind.i64.wrap (k_1 + 1)) + 1)) + 1)) + 1))) rfl rfl) ?_
    refine rw_nil ?_
    refine cw_seq ?_
    refine cw_region ?_
    refine sq 44 rfl rfl (Y_move (v := .slice B a.length c) rfl (hf.get 0 0 rfl)) ?_
    refine sq 45 rfl rfl (Y_move (v := .int .i64 (i1 : Int)) rfl (hf.get 5 2 rfl)) ?_
    refine sq 46 rfl rfl (Y_move (v := .int .i64 (IntKind.i64.wrap ((IntKind.i64.wrap ((IntKind.i64.wrap ((IntKind.i64.wrap (k_1 + 1)) + 1)) + 1)) + 1))) rfl rfl) ?_
    refine sq 47 rfl rfl (Y_index (B := B) (m := a.length) (c := c) (k := .i64) (i := (i1 : Int)) k_sl_27_91 k_sz_91_5 rfl rfl rfl (gi_isSome enc_Dyadic_len rfl (hS5.cf (i := 0) rfl) (getI_set (y := (TDyadic.mk (TRing.mk k_1 (IntKind.i64.wrap (k_1 + 1)) (IntKind.i64.wrap ((IntKind.i64.wrap (k_1 + 1)) + 1)) (IntKind.i64.wrap ((IntKind.i64.wrap ((IntKind.i64.wrap (k_1 + 1)) + 1)) + 1))) x.Exp)) (getI_set (y := (TDyadic.mk (TRing.mk k_1 (IntKind.i64.wrap (k_1 + 1)) (IntKind.i64.wrap ((IntKind.i64.wrap (k_1 + 1)) + 1)) x.Num.D) x.Exp)) (getI_set (y := (TDyadic.mk (TRing.mk k_1 (IntKind.i64.wrap (k_1 + 1)) x.Num.C x.Num.D) x.Exp)) (getI_set (y := (TDyadic.mk (TRing.mk k_1 x.Num.B x.Num.C x.Num.D) x.Exp)) hx))))) (getI_nn (getI_set (y := (TDyadic.mk (TRing.mk k_1 (IntKind.i64.wrap (k_1 + 1)) (IntKind.i64.wrap ((IntKind.i64.wrap (k_1 + 1)) + 1)) (IntKind.i64.wrap ((IntKind.i64.wrap ((IntKind.i64.wrap (k_1 + 1)) + 1)) + 1))) x.Exp)) (getI_set (y := (TDyadic.mk (TRing.mk k_1 (IntKind.i64.wrap (k_1 + 1)) (IntKind.i64.wrap ((IntKind.i64.wrap (k_1 + 1)) + 1)) x.Num.D) x.Exp)) (getI_set (y := (TDyadic.mk (TRing.mk k_1 (IntKind.i64.wrap (k_1 + 1)) x.Num.C x.Num.D) x.Exp)) (getI_set (y := (TDyadic.mk (TRing.mk k_1 x.Num.B x.Num.C x.Num.D) x.Exp)) hx))))) (getI_ltI (getI_set (y := (TDyadic.mk (TRing.mk k_1 (IntKind.i64.wrap (k_1 + 1)) (IntKind.i64.wrap ((IntKind.i64.wrap (k_1 + 1)) + 1)) (IntKind.i64.wrap ((IntKind.i64.wrap ((IntKind.i64.wrap (k_1 + 1)) + 1)) + 1))) x.Exp)) (getI_set (y := (TDyadic.mk (TRing.mk k_1 (IntKind.i64.wrap (k_1 + 1)) (IntKind.i64.wrap ((IntKind.i64.wrap (k_1 + 1)) + 1)) x.Num.D) x.Exp)) (getI_set (y := (TDyadic.mk (TRing.mk k_1 (IntKind.i64.wrap (k_1 + 1)) x.Num.C x.Num.D) x.Exp)) (getI_set (y := (TDyadic.mk (TRing.mk k_1 x.Num.B x.Num.C x.Num.D) x.Exp)) hx)))) (set_len _ _ _ (set_len _ _ _ (set_len _ _ _ (set_len _ _ _ hl)))))) ?_
    refine sq 48 rfl rfl (Y_fieldAddr (B := B) (i := (i1 : Int).toNat * 5) (s := 0) k_fd_91_1_4_3 k_sz_3_1 rfl rfl) ?_
    refine ss0 rfl rfl (Ys_store (i := 0) (s := 1) (B := B) (T' := 91) (v := .int .i64 (IntKind.i64.wrap ((IntKind.i64.wrap ((IntKind.i64.wrap ((IntKind.i64.wrap (k_1 + 1)) + 1)) + 1)) + 1))) (vs := [.int .i64 (IntKind.i64.wrap ((IntKind.i64.wrap ((IntKind.i64.wrap ((IntKind.i64.wrap (k_1 + 1)) + 1)) + 1)) + 1))]) (k := (i1 : Int).toNat * 5 + 4) (cs' := ((((((m1.set (i1 : Int).toNat (TDyadic.mk (TRing.mk k_1 x.Num.B x.Num.C x.Num.D) x.Exp)).set (i1 : Int).toNat (TDyadic.mk (TRing.mk k_1 (IntKind.i64.wrap (k_1 + 1)) x.Num.C x.Num.D) x.Exp)).set (i1 : Int).toNat (TDyadic.mk (TRing.mk k_1 (IntKind.i64.wrap (k_1 + 1)) (IntKind.i64.wrap ((IntKind.i64.wrap (k_1 + 1)) + 1)) x.Num.D) x.Exp)).set (i1 : Int).toNat (TDyadic.mk (TRing.mk k_1 (IntKind.i64.wrap (k_1 + 1)) (IntKind.i64.wrap ((IntKind.i64.wrap (k_1 + 1)) + 1)) (IntKind.i64.wrap ((IntKind.i64.wrap ((IntKind.i64.wrap (k_1 + 1)) + 1)) + 1))) x.Exp)).set (i1 : Int).toNat (TDyadic.mk (TRing.mk k_1 (IntKind.i64.wrap (k_1 + 1)) (IntKind.i64.wrap ((IntKind.i64.wrap (k_1 + 1)) + 1)) (IntKind.i64.wrap ((IntKind.i64.wrap ((IntKind.i64.wrap (k_1 + 1)) + 1)) + 1))) (IntKind.i64.wrap ((IntKind.i64.wrap ((IntKind.i64.wrap ((IntKind.i64.wrap (k_1 + 1)) + 1)) + 1)) + 1)))).flatMap enc_Dyadic)) hS5 k_sz_3_1 rfl rfl rfl rfl rfl rfl rfl (gi_fit enc_Dyadic_len (getI_set (y := (TDyadic.mk (TRing.mk k_1 (IntKind.i64.wrap (k_1 + 1)) (IntKind.i64.wrap ((IntKind.i64.wrap (k_1 + 1)) + 1)) (IntKind.i64.wrap ((IntKind.i64.wrap ((IntKind.i64.wrap (k_1 + 1)) + 1)) + 1))) x.Exp)) (getI_set (y := (TDyadic.mk (TRing.mk k_1 (IntKind.i64.wrap (k_1 + 1)) (IntKind.i64.wrap ((IntKind.i64.wrap (k_1 + 1)) + 1)) x.Num.D) x.Exp)) (getI_set (y := (TDyadic.mk (TRing.mk k_1 (IntKind.i64.wrap (k_1 + 1)) x.Num.C x.Num.D) x.Exp)) (getI_set (y := (TDyadic.mk (TRing.mk k_1 x.Num.B x.Num.C x.Num.D) x.Exp)) hx)))) (j := 4) (k := 1) (by decide)) (gi_setf enc_Dyadic_len (getI_set (y := (TDyadic.mk (TRing.mk k_1 (IntKind.i64.wrap (k_1 + 1)) (IntKind.i64.wrap ((IntKind.i64.wrap (k_1 + 1)) + 1)) (IntKind.i64.wrap ((IntKind.i64.wrap ((IntKind.i64.wrap (k_1 + 1)) + 1)) + 1))) x.Exp)) (getI_set (y := (TDyadic.mk (TRing.mk k_1 (IntKind.i64.wrap (k_1 + 1)) (IntKind.i64.wrap ((IntKind.i64.wrap (k_1 + 1)) + 1)) x.Num.D) x.Exp)) (getI_set (y := (TDyadic.mk (TRing.mk k_1 (IntKind.i64.wrap (k_1 + 1)) x.Num.C x.Num.D) x.Exp)) (getI_set (y := (TDyadic.mk (TRing.mk k_1 x.Num.B x.Num.C x.Num.D) x.Exp)) hx)))) (TDyadic.mk (TRing.mk k_1 (IntKind.i64.wrap (k_1 + 1)) (IntKind.i64.wrap ((IntKind.i64.wrap (k_1 + 1)) + 1)) (IntKind.i64.wrap ((IntKind.i64.wrap ((IntKind.i64.wrap (k_1 + 1)) + 1)) + 1))) (IntKind.i64.wrap ((IntKind.i64.wrap ((IntKind.i64.wrap ((IntKind.i64.wrap (k_1 + 1)) + 1)) + 1)) + 1))) rfl (Nat.le_of_ble_eq_true rfl)) rfl) ?_
    rintro _ w_4 ⟨rfl, hS6⟩
    refine rw_nil ?_
    refine cw_region ?_
    refine sq 49 rfl rfl (Y_move (v := .int .i64 (IntKind.i64.wrap ((IntKind.i64.wrap ((IntKind.i64.wrap ((IntKind.i64.wrap (k_1 + 1)) + 1)) + 1)) + 1))) rfl rfl) ?_
    refine sq 50 rfl rfl (Y_add (k := .i64) (a := (IntKind.i64.wrap ((IntKind.i64.wrap ((IntKind.i64.wrap ((IntKind.i64.wrap (k_1 + 1)) + 1)) + 1)) + 1))) (b := 1) rfl rfl rfl) ?_
    refine sq 1 rfl rfl (Y_assign (v := .int .i64 (IntKind.i64.wrap ((IntKind.i64.wrap ((IntKind.i64.wrap ((IntKind.i64.wrap ((IntKind.i64.wrap (k_1 + 1)) + 1)) + 1)) + 1)) + 1))) rfl rfl) ?_
    refine rw_nil ?_
    refine cw_region ?_
    refine sq 10 rfl rfl (Y_move (v := .int .i64 (i1 : Int)) rfl (hf.get 5 2 rfl)) ?_
    refine sq 11 rfl rfl (Y_add (k := .i64) (a := (i1 : Int)) (b := 1) rfl rfl rfl) ?_
    refine sq 5 rfl rfl (Y_assign (v := .int .i64 (IntKind.i64.wrap ((i1 : Int) + 1))) rfl rfl) ?_
    refine rw_nil ?_
    obtain rfl := some_inj hb
    exact ⟨k_3, Nat.lt_succ_self _, i1 + 1, (((((m1.set (i1 : Int).toNat (TDyadic.mk (TRing.mk k_1 x.Num.B x.Num.C x.Num.D) x.Exp)).set (i1 : Int).toNat (TDyadic.mk (TRing.mk k_1 (IntKind.i64.wrap (k_1 + 1)) x.Num.C x.Num.D) x.Exp)).set (i1 : Int).toNat (TDyadic.mk (TRing.mk k_1 (IntKind.i64.wrap (k_1 + 1)) (IntKind.i64.wrap ((IntKind.i64.wrap (k_1 + 1)) + 1)) x.Num.D) x.Exp)).set (i1 : Int).toNat (TDyadic.mk (TRing.mk k_1 (IntKind.i64.wrap (k_1 + 1)) (IntKind.i64.wrap ((IntKind.i64.wrap (k_1 + 1)) + 1)) (IntKind.i64.wrap ((IntKind.i64.wrap ((IntKind.i64.wrap (k_1 + 1)) + 1)) + 1))) x.Exp)).set (i1 : Int).toNat (TDyadic.mk (TRing.mk k_1 (IntKind.i64.wrap (k_1 + 1)) (IntKind.i64.wrap ((IntKind.i64.wrap (k_1 + 1)) + 1)) (IntKind.i64.wrap ((IntKind.i64.wrap ((IntKind.i64.wrap (k_1 + 1)) + 1)) + 1))) (IntKind.i64.wrap ((IntKind.i64.wrap ((IntKind.i64.wrap ((IntKind.i64.wrap (k_1 + 1)) + 1)) + 1)) + 1)))), (IntKind.i64.wrap ((IntKind.i64.wrap ((IntKind.i64.wrap ((IntKind.i64.wrap ((IntKind.i64.wrap (k_1 + 1)) + 1)) + 1)) + 1)) + 1)), (FF.cons (hf.get 0 0 rfl) (FF.cons rfl (FF.cons (congrArg (Value.int .i64) (wr_succ hlt1 hN)) FF.nil))), (set_len _ _ _ (set_len _ _ _ (set_len _ _ _ (set_len _ _ _ (set_len _ _ _ hl))))), (hS6.sel [0] rfl rfl), (by omega), hL1⟩
  · skip
    obtain rfl : k_2 = 0 := by have h := of_decide_eq_false hlt; omega
    refine cw_exit rfl ?_
    obtain rfl := some_inj hL
    refine cw_seq ?_
    refine cw_region ?_
    refine sq 51 rfl rfl (Y_move (v := .int .i64 k_1) rfl (hf.get 1 1 rfl)) ?_
    refine sq 4 rfl rfl (Y_assign (v := .int .i64 k_1) rfl rfl) ?_
    refine rw_nil ?_
    refine cw_ret ?_
    obtain ⟨rfl, rfl⟩ := pr2 (some_inj hF1)
    exact ret1 Try.results116 (v1 := .int .i64 k_1) (resAt_tmp rfl) ⟨rfl, hl, (ST.subR (R' := []) (hS1.sel [0] rfl rfl) (fun _ h => by cases h))⟩

theorem c_laws_markBloch (a : TBloch) (k_ : Int) (B : Option Addr) (c n : Nat) (w0 : World) (hn : a.Cells.length = n) (hS : ST w0 (bl [⟨B, 91, (a.Cells.flatMap enc_Dyadic), c * 5⟩]) w0 [⟨B, 91, (a.Cells.flatMap enc_Dyadic), c * 5⟩] []) {r_ : Int} {m : List TDyadic} (hF : F_laws_markBloch a k_ = some (r_, m)) :
    CV Try.prog 52 #[.agg #[.slice B n c], .int .i64 k_] w0 (fun v w' => v = .int .i64 r_ ∧ m.length = n ∧ ST w0 (bl [⟨B, 91, (a.Cells.flatMap enc_Dyadic), c * 5⟩]) w' [⟨B, 91, (m.flatMap enc_Dyadic), c * 5⟩] []) := by
  subst hn
  unfold F_laws_markBloch at hF
  refine cv_of_cw 10 Try.func52 rfl Try.ntmps52 rfl ?_
  refine cw_seq ?_
  refine cw_region ?_
  refine ss 2 rfl rfl (Ys_box (T := 29) (v := .agg #[.slice B a.Cells.length c]) (cs := [.slice B a.Cells.length c]) (m := 1) hS rfl rfl rfl rfl) ?_
  rintro _ w_ ⟨b, rfl, hS1⟩
  have hS1 : ST w0 (bl [⟨B, 91, (a.Cells.flatMap enc_Dyadic), c * 5⟩]) _ [⟨B, 91, (a.Cells.flatMap enc_Dyadic), c * 5⟩, ⟨some ⟨b, 0, none⟩, 29, [.slice B a.Cells.length c], 1⟩] [] := hS1
  refine sq 4 rfl rfl (Y_assign (v := .int .i64 0) rfl rfl) ?_
  refine rw_nil ?_
  refine cw_seq ?_
  refine cw_region ?_
  refine sq 5 rfl rfl (Y_fieldAddr (B := some ⟨b, 0, none⟩) (i := 0) (s := 0) k_fd_29_0_0_27 k_sz_27_1 rfl rfl) ?_
  refine sq 6 rfl rfl (Y_load1 (B := some ⟨b, 0, none⟩) (i := 0) (cs := [.slice B a.Cells.length c]) (v := .slice B a.Cells.length c) k_sc_27 rfl rfl (hS1.cf (i := 1) rfl) rfl) ?_
  refine sq 7 rfl rfl (Y_move (v := .int .i64 k_) rfl rfl) ?_
  obtain ⟨⟨r_1, m1⟩, hc, hF⟩ := bind_inv hF
  refine sc 8 rfl rfl (Yc_func (g := 116) (vs := [.slice B a.Cells.length c, .int .i64 k_]) k_call_116 rfl (mc rfl (mc rfl mn)) (c_laws_markDyadicS a.Cells k_ B c a.Cells.length _ rfl (hS1.inn [true, false] rfl [] rfl) hc)) ?_
  rintro _ w_1 ⟨rfl, hl, hd⟩
  have hS2 := hS1.out [true, false] rfl hd
  have hS2 : ST w0 (bl [⟨B, 91, (a.Cells.flatMap enc_Dyadic), c * 5⟩]) _ [⟨some ⟨b, 0, none⟩, 29, [.slice B a.Cells.length c], 1⟩, ⟨B, 91, (m1.flatMap enc_Dyadic), c * 5⟩] [] := hS2
  refine sq 1 rfl rfl (Y_assign (v := .int .i64 r_1) rfl rfl) ?_
  refine rw_nil ?_
  refine cw_seq ?_
  refine cw_region ?_
  refine sq 9 rfl rfl (Y_move (v := .int .i64 r_1) rfl rfl) ?_
  refine sq 4 rfl rfl (Y_assign (v := .int .i64 r_1) rfl rfl) ?_
  refine rw_nil ?_
  refine cw_ret ?_
  obtain ⟨rfl, rfl⟩ := pr2 (some_inj hF)
  exact ret1 Try.results52 (v1 := .int .i64 r_1) (resAt_tmp rfl) ⟨rfl, hl, (ST.subR (R' := []) (hS2.sel [1] rfl rfl) (fun _ h => by cases h))⟩

theorem c_laws_heldDyadicS (a : List TDyadic) (k_ : Int) (B : Option Addr) (c n : Nat) (w0 : World) (hn : a.length = n) (hS : ST w0 [] w0 [] [⟨B, (a.flatMap enc_Dyadic)⟩]) {r_ : Int} (hF : F_laws_heldDyadicS a k_ = some r_) :
    CV Try.prog 117 #[.slice B n c, .int .i64 k_] w0 (fun v w' => v = .int .i64 r_ ∧ ST w0 [] w' [] []) := by
  subst hn
  unfold F_laws_heldDyadicS at hF
  refine cv_of_cw 62 Try.func117 rfl Try.ntmps117 rfl ?_
  refine cw_seq ?_
  refine cw_region ?_
  refine sq 4 rfl rfl (Y_assign (v := .int .i64 0) rfl rfl) ?_
  refine rw_nil ?_
  refine cw_seq ?_
  refine cw_seq ?_
  refine cw_region ?_
  refine sq 5 rfl rfl (Y_assign (v := .int .i64 0) rfl rfl) ?_
  refine rw_nil ?_
  obtain ⟨hN, hF⟩ := chk_inv hF
  obtain ⟨z, hz, hF1⟩ := bind_inv hF
  refine cw_block ?_
  refine cw_loop (fun k f w => ∃ (i1 : Nat) (k_1 : Int), FF f [(0, .slice B a.length c), (1, .int .i64 k_1), (5, .int .i64 (i1 : Int))] ∧ ST w0 [] w [] [⟨B, (a.flatMap enc_Dyadic)⟩] ∧ i1 + k = a.length ∧ forX (F_laws_heldDyadicS_l1 a) k i1 k_1 = some z) a.length ⟨0, k_, (FF.cons rfl (FF.cons rfl (FF.cons rfl FF.nil))), (hS.sel [] rfl rfl), Nat.zero_add _, hz⟩ ?_
  rintro k_2 f w ⟨i1, k_1, hf, hS1, hik, hL⟩
  refine cw_seq ?_
  refine cw_seq ?_
  refine cw_region ?_
  refine sq 6 rfl rfl (Y_move (v := .int .i64 (i1 : Int)) rfl (hf.get 5 2 rfl)) ?_
  refine sq 7 rfl rfl (Y_move (v := .slice B a.length c) rfl (hf.get 0 0 rfl)) ?_
  refine sq 8 rfl rfl (Y_len (B := B) (m := a.length) (c := c) k_sl_27_91 rfl rfl) ?_
  refine sq 9 rfl rfl (Y_lt (k := .i64) (a := (i1 : Int)) (b := (a.length : Int)) rfl rfl rfl) ?_
  refine rw_nil ?_
  refine cw_cond (b := (decide ((i1 : Int) < (a.length : Int)))) rfl (fun hlt => ?_) (fun hlt => ?_)
  · skip
    have hlt1 : i1 < a.length := by have h := of_decide_eq_true hlt; omega
    obtain ⟨k_3, rfl⟩ : ∃ k2, k_2 = k2 + 1 := ⟨k_2 - 1, by omega⟩
    obtain ⟨y, hb, hL1⟩ := forX_go hL
    unfold F_laws_heldDyadicS_l1 at hb
    refine cw_skip ?_
    refine cw_seq ?_
    refine cw_block ?_
    refine cw_seq ?_
    refine cw_seq ?_
    refine cw_region ?_
    refine sq 12 rfl rfl (Y_move (v := .slice B a.length c) rfl (hf.get 0 0 rfl)) ?_
    refine sq 13 rfl rfl (Y_move (v := .int .i64 (i1 : Int)) rfl (hf.get 5 2 rfl)) ?_
    obtain ⟨x, hx, hb⟩ := bind_inv hb
    refine sq 14 rfl rfl (Y_index (B := B) (m := a.length) (c := c) (k := .i64) (i := (i1 : Int)) k_sl_27_91 k_sz_91_5 rfl rfl rfl (gi_isSome enc_Dyadic_len rfl (hS1.rf (i := 0) rfl) hx) (getI_nn hx) (getI_ltI hx rfl)) ?_
    refine sq 15 rfl rfl (Y_fieldAddr (B := B) (i := (i1 : Int).toNat * 5) (s := 3) k_fd_91_0_0_89 k_sz_89_4 rfl rfl) ?_
    refine sq 16 rfl rfl (Y_fieldAddr2 (B := B) (i := (i1 : Int).toNat * 5) (e := 0) (l := 0) (s := 0) k_fd_89_0_0_3 k_sz_3_1 rfl rfl rfl) ?_
    refine sq 17 rfl rfl (Y_load1 (B := B) (i := (i1 : Int).toNat * 5 + 0) (cs := (a.flatMap enc_Dyadic)) (v := .int .i64 x.Num.A) k_sc_3 rfl rfl (hS1.rf (i := 0) rfl) (gi_at enc_Dyadic_len hx rfl)) ?_
    refine sq 18 rfl rfl (Y_move (v := .int .i64 k_1) rfl (hf.get 1 1 rfl)) ?_
    refine sq 19 rfl rfl (Y_ne (k := .i64) (a := x.Num.A) (b := k_1) rfl rfl rfl) ?_
    refine rw_nil ?_
    refine cw_cond (b := (x.Num.A != k_1)) rfl (fun hb1 => ?_) (fun hb1 => ?_)
    · skip
      have hF2 := ct hb hb1
      refine cw_seq ?_
      refine cw_region ?_
      refine sq 4 rfl rfl (Y_assign (v := .int .i64 (-1)) rfl rfl) ?_
      refine rw_nil ?_
      refine cw_ret ?_
      obtain rfl := some_inj hF2
      obtain rfl := some_inj hL1
      obtain rfl := some_inj hF1
      exact ret1 Try.results117 (v1 := .int .i64 (-1)) (resAt_tmp rfl) ⟨rfl, (ST.subR (R' := []) (hS1.sel [] rfl rfl) (fun _ h => by cases h))⟩
    · skip
      have hF3 := cf' hb hb1
      refine cw_skip ?_
      refine cw_seq ?_
      refine cw_region ?_
      refine sq 20 rfl rfl (Y_move (v := .int .i64 k_1) rfl (hf.get 1 1 rfl)) ?_
      refine sq 21 rfl rfl (Y_add (k := .i64) (a := k_1) (b := 1) rfl rfl rfl) ?_
      refine sq 1 rfl rfl (Y_assign (v := .int .i64 (IntKind.i64.wrap (k_1 + 1))) rfl rfl) ?_
      refine rw_nil ?_
      refine cw_seq ?_
      refine cw_seq ?_
      refine cw_region ?_
      refine sq 22 rfl rfl (Y_move (v := .slice B a.length c) rfl (hf.get 0 0 rfl)) ?_
      refine sq 23 rfl rfl (Y_move (v := .int .i64 (i1 : Int)) rfl (hf.get 5 2 rfl)) ?_
      refine sq 24 rfl rfl (Y_index (B := B) (m := a.length) (c := c) (k := .i64) (i := (i1 : Int)) k_sl_27_91 k_sz_91_5 rfl rfl rfl (gi_isSome enc_Dyadic_len rfl (hS1.rf (i := 0) rfl) hx) (getI_nn hx) (getI_ltI hx rfl)) ?_
      refine sq 25 rfl rfl (Y_fieldAddr (B := B) (i := (i1 : Int).toNat * 5) (s := 3) k_fd_91_0_0_89 k_sz_89_4 rfl rfl) ?_
      refine sq 26 rfl rfl (Y_fieldAddr2 (B := B) (i := (i1 : Int).toNat * 5) (e := 0) (l := 1) (s := 0) k_fd_89_1_1_3 k_sz_3_1 rfl rfl rfl) ?_
      refine sq 27 rfl rfl (Y_load1 (B := B) (i := (i1 : Int).toNat * 5 + 1) (cs := (a.flatMap enc_Dyadic)) (v := .int .i64 x.Num.B) k_sc_3 rfl rfl (hS1.rf (i := 0) rfl) (gi_at enc_Dyadic_len hx rfl)) ?_
      refine sq 28 rfl rfl (Y_move (v := .int .i64 (IntKind.i64.wrap (k_1 + 1))) rfl rfl) ?_
      refine sq 29 rfl rfl (Y_ne (k := .i64) (a := x.Num.B) (b := (IntKind.i64.wrap (k_1 + 1))) rfl rfl rfl) ?_
      refine rw_nil ?_
      refine cw_cond (b := (x.Num.B != (IntKind.i64.wrap (k_1 + 1)))) rfl (fun hb2 => ?_) (fun hb2 => ?_)
      · skip
        have hF4 := ct hF3 hb2
        refine cw_seq ?_
        refine cw_region ?_
        refine sq 4 rfl rfl (Y_assign (v := .int .i64 (-1)) rfl rfl) ?_
        refine rw_nil ?_
        refine cw_ret ?_
        obtain rfl := some_inj hF4
        obtain rfl := some_inj hL1
        obtain rfl := some_inj hF1
        exact ret1 Try.results117 (v1 := .int .i64 (-1)) (resAt_tmp rfl) ⟨rfl, (ST.subR (R' := []) (hS1.sel [] rfl rfl) (fun _ h => by cases h))⟩
      · skip
        have hF5 := cf' hF3 hb2
        refine cw_skip ?_
        refine cw_seq ?_
        refine cw_region ?_
        refine sq 30 rfl rfl (Y_move (v := .int .i64 (IntKind.i64.wrap (k_1 + 1))) rfl rfl) ?_
        refine sq 31 rfl rfl (Y_add (k := .i64) (a := (IntKind.i64.wrap (k_1 + 1))) (b := 1) rfl rfl rfl) ?_
        refine sq 1 rfl rfl (Y_assign (v := .int .i64 (IntKind.i64.wrap ((IntKind.i64.wrap (k_1 + 1)) + 1))) rfl rfl) ?_
        refine rw_nil ?_
        refine cw_seq ?_
        refine cw_seq ?_
        refine cw_region ?_
        refine sq 32 rfl rfl (Y_move (v := .slice B a.length c) rfl (hf.get 0 0 rfl)) ?_
        refine sq 33 rfl rfl (Y_move (v := .int .i64 (i1 : Int)) rfl (hf.get 5 2 rfl)) ?_
        refine sq 34 rfl rfl (Y_index (B := B) (m := a.length) (c := c) (k := .i64) (i := (i1 : Int)) k_sl_27_91 k_sz_91_5 rfl rfl rfl (gi_isSome enc_Dyadic_len rfl (hS1.rf (i := 0) rfl) hx) (getI_nn hx) (getI_ltI hx rfl)) ?_
        refine sq 35 rfl rfl (Y_fieldAddr (B := B) (i := (i1 : Int).toNat * 5) (s := 3) k_fd_91_0_0_89 k_sz_89_4 rfl rfl) ?_
        refine sq 36 rfl rfl (Y_fieldAddr2 (B := B) (i := (i1 : Int).toNat * 5) (e := 0) (l := 2) (s := 0) k_fd_89_2_2_3 k_sz_3_1 rfl rfl rfl) ?_
        refine sq 37 rfl rfl (Y_load1 (B := B) (i := (i1 : Int).toNat * 5 + 2) (cs := (a.flatMap enc_Dyadic)) (v := .int .i64 x.Num.C) k_sc_3 rfl rfl (hS1.rf (i := 0) rfl) (gi_at enc_Dyadic_len hx rfl)) ?_
        refine sq 38 rfl rfl (Y_move (v := .int .i64 (IntKind.i64.wrap ((IntKind.i64.wrap (k_1 + 1)) + 1))) rfl rfl) ?_
        refine sq 39 rfl rfl (Y_ne (k := .i64) (a := x.Num.C) (b := (IntKind.i64.wrap ((IntKind.i64.wrap (k_1 + 1)) + 1))) rfl rfl rfl) ?_
        refine rw_nil ?_
        refine cw_cond (b := (x.Num.C != (IntKind.i64.wrap ((IntKind.i64.wrap (k_1 + 1)) + 1)))) rfl (fun hb3 => ?_) (fun hb3 => ?_)
        · skip
          have hF6 := ct hF5 hb3
          refine cw_seq ?_
          refine cw_region ?_
          refine sq 4 rfl rfl (Y_assign (v := .int .i64 (-1)) rfl rfl) ?_
          refine rw_nil ?_
          refine cw_ret ?_
          obtain rfl := some_inj hF6
          obtain rfl := some_inj hL1
          obtain rfl := some_inj hF1
          exact ret1 Try.results117 (v1 := .int .i64 (-1)) (resAt_tmp rfl) ⟨rfl, (ST.subR (R' := []) (hS1.sel [] rfl rfl) (fun _ h => by cases h))⟩
        · skip
          have hF7 := cf' hF5 hb3
          refine cw_skip ?_
          refine cw_seq ?_
          refine cw_region ?_
          refine sq 40 rfl rfl (Y_move (v := .int .i64 (IntKind.i64.wrap ((IntKind.i64.wrap (k_1 + 1)) + 1))) rfl rfl) ?_
          refine sq 41 rfl rfl (Y_add (k := .i64) (a := (IntKind.i64.wrap ((IntKind.i64.wrap (k_1 + 1)) + 1))) (b := 1) rfl rfl rfl) ?_
          refine sq 1 rfl rfl (Y_assign (v := .int .i64 (IntKind.i64.wrap ((IntKind.i64.wrap ((IntKind.i64.wrap (k_1 + 1)) + 1)) + 1))) rfl rfl) ?_
          refine rw_nil ?_
          refine cw_seq ?_
          refine cw_seq ?_
          refine cw_region ?_
          refine sq 42 rfl rfl (Y_move (v := .slice B a.length c) rfl (hf.get 0 0 rfl)) ?_
          refine sq 43 rfl rfl (Y_move (v := .int .i64 (i1 : Int)) rfl (hf.get 5 2 rfl)) ?_
          refine sq 44 rfl rfl (Y_index (B := B) (m := a.length) (c := c) (k := .i64) (i := (i1 : Int)) k_sl_27_91 k_sz_91_5 rfl rfl rfl (gi_isSome enc_Dyadic_len rfl (hS1.rf (i := 0) rfl) hx) (getI_nn hx) (getI_ltI hx rfl)) ?_
          refine sq 45 rfl rfl (Y_fieldAddr (B := B) (i := (i1 : Int).toNat * 5) (s := 3) k_fd_91_0_0_89 k_sz_89_4 rfl rfl) ?_
          refine sq 46 rfl rfl (Y_fieldAddr2 (B := B) (i := (i1 : Int).toNat * 5) (e := 0) (l := 3) (s := 0) k_fd_89_3_3_3 k_sz_3_1 rfl rfl rfl) ?_
          refine sq 47 rfl rfl (Y_load1 (B := B) (i := (i1 : Int).toNat * 5 + 3) (cs := (a.flatMap enc_Dyadic)) (v := .int .i64 x.Num.D) k_sc_3 rfl rfl (hS1.rf (i := 0) rfl) (gi_at enc_Dyadic_len hx rfl)) ?_
          refine sq 48 rfl rfl (Y_move (v := .int .i64 (IntKind.i64.wrap ((IntKind.i64.wrap ((IntKind.i64.wrap (k_1 + 1)) + 1)) + 1))) rfl rfl) ?_
          refine sq 49 rfl rfl (Y_ne (k := .i64) (a := x.Num.D) (b := (IntKind.i64.wrap ((IntKind.i64.wrap ((IntKind.i64.wrap (k_1 + 1)) + 1)) + 1))) rfl rfl rfl) ?_
          refine rw_nil ?_
          refine cw_cond (b := (x.Num.D != (IntKind.i64.wrap ((IntKind.i64.wrap ((IntKind.i64.wrap (k_1 + 1)) + 1)) + 1)))) rfl (fun hb4 => ?_) (fun hb4 => ?_)
          · skip
            have hF8 := ct hF7 hb4
            refine cw_seq ?_
            refine cw_region ?_
            refine sq 4 rfl rfl (Y_assign (v := .int .i64 (-1)) rfl rfl) ?_
            refine rw_nil ?_
            refine cw_ret ?_
            obtain rfl := some_inj hF8
            obtain rfl := some_inj hL1
            obtain rfl := some_inj hF1
            exact ret1 Try.results117 (v1 := .int .i64 (-1)) (resAt_tmp rfl) ⟨rfl, (ST.subR (R' := []) (hS1.sel [] rfl rfl) (fun _ h => by cases h))⟩
          · skip
            have hF9 := cf' hF7 hb4
            refine cw_skip ?_
            refine cw_seq ?_
            refine cw_region ?_
            refine sq 50 rfl rfl (Y_move (v := .int .i64 (IntKind.i64.wrap ((IntKind.i64.wrap ((IntKind.i64.wrap (k_1 + 1)) + 1)) + 1))) rfl rfl) ?_
            refine sq 51 rfl rfl (Y_add (k := .i64) (a := (IntKind.i64.wrap ((IntKind.i64.wrap ((IntKind.i64.wrap (k_1 + 1)) + 1)) + 1))) (b := 1) rfl rfl rfl) ?_
            refine sq 1 rfl rfl (Y_assign (v := .int .i64 (IntKind.i64.wrap ((IntKind.i64.wrap ((IntKind.i64.wrap ((IntKind.i64.wrap (k_1 + 1)) + 1)) + 1)) + 1))) rfl rfl) ?_
            refine rw_nil ?_
            refine cw_seq ?_
            refine cw_seq ?_
            refine cw_region ?_
            refine sq 52 rfl rfl (Y_move (v := .slice B a.length c) rfl (hf.get 0 0 rfl)) ?_
            refine sq 53 rfl rfl (Y_move (v := .int .i64 (i1 : Int)) rfl (hf.get 5 2 rfl)) ?_
            refine sq 54 rfl rfl (Y_index (B := B) (m := a.length) (c := c) (k := .i64) (i := (i1 : Int)) k_sl_27_91 k_sz_91_5 rfl rfl rfl (gi_isSome enc_Dyadic_len rfl (hS1.rf (i := 0) rfl) hx) (getI_nn hx) (getI_ltI hx rfl)) ?_
            refine sq 55 rfl rfl (Y_fieldAddr (B := B) (i := (i1 : Int).toNat * 5) (s := 0) k_fd_91_1_4_3 k_sz_3_1 rfl rfl) ?_
            refine sq 56 rfl rfl (Y_load1 (B := B) (i := (i1 : Int).toNat * 5 + 4) (cs := (a.flatMap enc_Dyadic)) (v := .int .i64 x.Exp) k_sc_3 rfl rfl (hS1.rf (i := 0) rfl) (gi_at enc_Dyadic_len hx rfl)) ?_
            refine sq 57 rfl rfl (Y_move (v := .int .i64 (IntKind.i64.wrap ((IntKind.i64.wrap ((IntKind.i64.wrap ((IntKind.i64.wrap (k_1 + 1)) + 1)) + 1)) + 1))) rfl rfl) ?_
            refine sq 58 rfl rfl (Y_ne (k := .i64) (a := x.Exp) (b := (IntKind.i64.wrap ((IntKind.i64.wrap ((IntKind.i64.wrap ((IntKind.i64.wrap (k_1 + 1)) + 1)) + 1)) + 1))) rfl rfl rfl) ?_
            refine rw_nil ?_
            refine cw_cond (b := (x.Exp != (IntKind.i64.wrap ((IntKind.i64.wrap ((IntKind.i64.wrap ((IntKind.i64.wrap (k_1 + 1)) + 1)) + 1)) + 1)))) rfl (fun hb5 => ?_) (fun hb5 => ?_)
            · skip
              have hF10 := ct hF9 hb5
              refine cw_seq ?_
              refine cw_region ?_
              refine sq 4 rfl rfl (Y_assign (v := .int .i64 (-1)) rfl rfl) ?_
              refine rw_nil ?_
              refine cw_ret ?_
              obtain rfl := some_inj hF10
              obtain rfl := some_inj hL1
              obtain rfl := some_inj hF1
              exact ret1 Try.results117 (v1 := .int .i64 (-1)) (resAt_tmp rfl) ⟨rfl, (ST.subR (R' := []) (hS1.sel [] rfl rfl) (fun _ h => by cases h))⟩
            · skip
              have hF11 := cf' hF9 hb5
              refine cw_skip ?_
              refine cw_region ?_
              refine sq 59 rfl rfl (Y_move (v := .int .i64 (IntKind.i64.wrap ((IntKind.i64.wrap ((IntKind.i64.wrap ((IntKind.i64.wrap (k_1 + 1)) + 1)) + 1)) + 1))) rfl rfl) ?_
              refine sq 60 rfl rfl (Y_add (k := .i64) (a := (IntKind.i64.wrap ((IntKind.i64.wrap ((IntKind.i64.wrap ((IntKind.i64.wrap (k_1 + 1)) + 1)) + 1)) + 1))) (b := 1) rfl rfl rfl) ?_
              refine sq 1 rfl rfl (Y_assign (v := .int .i64 (IntKind.i64.wrap ((IntKind.i64.wrap ((IntKind.i64.wrap ((IntKind.i64.wrap ((IntKind.i64.wrap (k_1 + 1)) + 1)) + 1)) + 1)) + 1))) rfl rfl) ?_
              refine rw_nil ?_
              refine cw_region ?_
              refine sq 10 rfl rfl (Y_move (v := .int .i64 (i1 : Int)) rfl (hf.get 5 2 rfl)) ?_
              refine sq 11 rfl rfl (Y_add (k := .i64) (a := (i1 : Int)) (b := 1) rfl rfl rfl) ?_
              refine sq 5 rfl rfl (Y_assign (v := .int .i64 (IntKind.i64.wrap ((i1 : Int) + 1))) rfl rfl) ?_
              refine rw_nil ?_
              obtain rfl := some_inj hF11
              exact ⟨k_3, Nat.lt_succ_self _, i1 + 1, (IntKind.i64.wrap ((IntKind.i64.wrap ((IntKind.i64.wrap ((IntKind.i64.wrap ((IntKind.i64.wrap (k_1 + 1)) + 1)) + 1)) + 1)) + 1)), (FF.cons (hf.get 0 0 rfl) (FF.cons rfl (FF.cons (congrArg (Value.int .i64) (wr_succ hlt1 hN)) FF.nil))), (hS1.sel [] rfl rfl), (by omega), hL1⟩
  · skip
    obtain rfl : k_2 = 0 := by have h := of_decide_eq_false hlt; omega
    refine cw_exit rfl ?_
    obtain rfl := some_inj hL
    refine cw_seq ?_
    refine cw_region ?_
    refine sq 61 rfl rfl (Y_move (v := .int .i64 k_1) rfl (hf.get 1 1 rfl)) ?_
    refine sq 4 rfl rfl (Y_assign (v := .int .i64 k_1) rfl rfl) ?_
    refine rw_nil ?_
    refine cw_ret ?_
    obtain rfl := some_inj hF1
    exact ret1 Try.results117 (v1 := .int .i64 k_1) (resAt_tmp rfl) ⟨rfl, (ST.subR (R' := []) (hS1.sel [] rfl rfl) (fun _ h => by cases h))⟩

theorem c_laws_heldBloch (a : TBloch) (k_ : Int) (B : Option Addr) (c n : Nat) (w0 : World) (hn : a.Cells.length = n) (hS : ST w0 [] w0 [] [⟨B, (a.Cells.flatMap enc_Dyadic)⟩]) {r_ : Int} (hF : F_laws_heldBloch a k_ = some r_) :
    CV Try.prog 53 #[.agg #[.slice B n c], .int .i64 k_] w0 (fun v w' => v = .int .i64 r_ ∧ ST w0 [] w' [] []) := by
  subst hn
  unfold F_laws_heldBloch at hF
  refine cv_of_cw 12 Try.func53 rfl Try.ntmps53 rfl ?_
  refine cw_seq ?_
  refine cw_region ?_
  refine ss 2 rfl rfl (Ys_box (T := 29) (v := .agg #[.slice B a.Cells.length c]) (cs := [.slice B a.Cells.length c]) (m := 1) hS rfl rfl rfl rfl) ?_
  rintro _ w_ ⟨b, rfl, hS1⟩
  refine sq 4 rfl rfl (Y_assign (v := .int .i64 0) rfl rfl) ?_
  refine rw_nil ?_
  refine cw_seq ?_
  refine cw_region ?_
  refine sq 5 rfl rfl (Y_fieldAddr (B := some ⟨b, 0, none⟩) (i := 0) (s := 0) k_fd_29_0_0_27 k_sz_27_1 rfl rfl) ?_
  refine sq 6 rfl rfl (Y_load1 (B := some ⟨b, 0, none⟩) (i := 0) (cs := [.slice B a.Cells.length c]) (v := .slice B a.Cells.length c) k_sc_27 rfl rfl (hS1.cf (i := 0) rfl) rfl) ?_
  refine sq 7 rfl rfl (Y_move (v := .int .i64 k_) rfl rfl) ?_
  obtain ⟨r_1, hc, hF⟩ := bind_inv hF
  refine sc 8 rfl rfl (Yc_func (g := 117) (vs := [.slice B a.Cells.length c, .int .i64 k_]) k_call_117 rfl (mc rfl (mc rfl mn)) (c_laws_heldDyadicS a.Cells k_ B c a.Cells.length _ rfl (hS1.inn0 [(true, 0)] rfl) hc)) ?_
  rintro _ w_1 ⟨rfl, hd⟩
  have hS2 := hS1.out00 hd
  refine sq 1 rfl rfl (Y_assign (v := .int .i64 r_1) rfl rfl) ?_
  refine rw_nil ?_
  refine cw_seq ?_
  refine cw_seq ?_
  refine cw_region ?_
  refine sq 9 rfl rfl (Y_move (v := .int .i64 r_1) rfl rfl) ?_
  refine sq 10 rfl rfl (Y_lt (k := .i64) (a := r_1) (b := 0) rfl rfl rfl) ?_
  refine rw_nil ?_
  refine cw_cond (b := (decide (r_1 < 0))) rfl (fun hb => ?_) (fun hb => ?_)
  · skip
    have hF1 := ct hF hb
    refine cw_seq ?_
    refine cw_region ?_
    refine sq 4 rfl rfl (Y_assign (v := .int .i64 (-1)) rfl rfl) ?_
    refine rw_nil ?_
    refine cw_ret ?_
    obtain rfl := some_inj hF1
    exact ret1 Try.results53 (v1 := .int .i64 (-1)) (resAt_tmp rfl) ⟨rfl, (ST.subR (R' := []) (hS2.sel [] rfl rfl) (fun _ h => by cases h))⟩
  · skip
    have hF2 := cf' hF hb
    refine cw_skip ?_
    refine cw_seq ?_
    refine cw_region ?_
    refine sq 11 rfl rfl (Y_move (v := .int .i64 r_1) rfl rfl) ?_
    refine sq 4 rfl rfl (Y_assign (v := .int .i64 r_1) rfl rfl) ?_
    refine rw_nil ?_
    refine cw_ret ?_
    obtain rfl := some_inj hF2
    exact ret1 Try.results53 (v1 := .int .i64 r_1) (resAt_tmp rfl) ⟨rfl, (ST.subR (R' := []) (hS2.sel [] rfl rfl) (fun _ h => by cases h))⟩

theorem c_spec_l9Turn (b : TBloch) (B : Option Addr) (c n : Nat) (w0 : World) (hn : b.Cells.length = n) (hS : ST w0 [] w0 [] [⟨B, (b.Cells.flatMap enc_Dyadic)⟩]) {r_ : TBloch} (hF : F_spec_l9Turn b = some r_) :
    CV Try.prog 120 #[.agg #[.slice B n c]] w0 (fun v w' => ∃ (B1 : Option Addr) (c1 : Nat), v = .agg #[.slice B1 r_.Cells.length c1] ∧ ST w0 [] w' [⟨B1, 91, (r_.Cells.flatMap enc_Dyadic), c1 * 5⟩] []) := by
  subst hn
  unfold F_spec_l9Turn at hF
  refine cv_of_cw 25 Try.func120 rfl Try.ntmps120 rfl ?_
  refine cw_seq ?_
  refine cw_region ?_
  refine ss 1 rfl rfl (Ys_box (T := 29) (v := .agg #[.slice B b.Cells.length c]) (cs := [.slice B b.Cells.length c]) (m := 1) hS rfl rfl rfl rfl) ?_
  rintro _ w_ ⟨b1, rfl, hS1⟩
  refine ss 2 rfl rfl (Ys_alloc (T := 29) (cs := [.slice none 0 0]) (m := 1) hS1 k_zero_29 rfl rfl rfl) ?_
  rintro _ w_1 ⟨b2, rfl, hS2⟩
  have hS2 : ST w0 [] _ [⟨some ⟨b1, 0, none⟩, 29, [.slice B b.Cells.length c], 1⟩, ⟨some ⟨b2, 0, none⟩, 29, [.slice none 0 0], 1⟩] [⟨B, (b.Cells.flatMap enc_Dyadic)⟩] := hS2
  refine rw_nil ?_
  refine cw_seq ?_
  refine cw_region ?_
  refine ss 3 rfl rfl (Ys_alloc (T := 29) (cs := [.slice none 0 0]) (m := 1) hS2 k_zero_29 rfl rfl rfl) ?_
  rintro _ w_2 ⟨b3, rfl, hS3⟩
  have hS3 : ST w0 [] _ [⟨some ⟨b1, 0, none⟩, 29, [.slice B b.Cells.length c], 1⟩, ⟨some ⟨b2, 0, none⟩, 29, [.slice none 0 0], 1⟩, ⟨some ⟨b3, 0, none⟩, 29, [.slice none 0 0], 1⟩] [⟨B, (b.Cells.flatMap enc_Dyadic)⟩] := hS3
  refine rw_nil ?_
  refine cw_seq ?_
  refine cw_seq ?_
  refine cw_region ?_
  refine sq 4 rfl rfl (Y_assign (v := .int .i64 0) rfl rfl) ?_
  refine rw_nil ?_
  obtain ⟨z, hz, hF1⟩ := bind_inv hF
  have hS5 := hS3.addNil 91
  refine cw_block ?_
  refine cw_loop (fun k f w => ∃ (i1 : Nat) (Cells : List TDyadic) (B2 : Option Addr) (c2 : Nat), FF f [(1, pt (some ⟨b1, 0, none⟩) 0), (2, pt (some ⟨b2, 0, none⟩) 0), (3, pt (some ⟨b3, 0, none⟩) 0), (4, .int .i64 (i1 : Int))] ∧ ST w0 [] w [⟨some ⟨b1, 0, none⟩, 29, [.slice B b.Cells.length c], 1⟩, ⟨some ⟨b2, 0, none⟩, 29, [.slice none 0 0], 1⟩, ⟨some ⟨b3, 0, none⟩, 29, [.slice B2 Cells.length c2], 1⟩, ⟨B2, 91, (Cells.flatMap enc_Dyadic), c2 * 5⟩] [⟨B, (b.Cells.flatMap enc_Dyadic)⟩] ∧ i1 + k = 9 ∧ forN (F_spec_l9Turn_l1 b) k i1 Cells = some z) 9 ⟨0, [], none, 0, (FF.cons rfl (FF.cons rfl (FF.cons rfl (FF.cons rfl FF.nil)))), (hS5.sel [0, 1, 2, 3] rfl rfl), Nat.zero_add _, hz⟩ ?_
  rintro k_ f w ⟨i1, Cells, B2, c2, hf, hS4, hik, hL⟩
  refine cw_seq ?_
  refine cw_seq ?_
  refine cw_region ?_
  refine sq 5 rfl rfl (Y_move (v := .int .i64 (i1 : Int)) rfl (hf.get 4 3 rfl)) ?_
  refine sq 6 rfl rfl (Y_lt (k := .i64) (a := (i1 : Int)) (b := 9) rfl rfl rfl) ?_
  refine rw_nil ?_
  refine cw_cond (b := (decide ((i1 : Int) < 9))) rfl (fun hlt => ?_) (fun hlt => ?_)
  · skip
    have hlt1 : i1 < 9 := by have h := of_decide_eq_true hlt; omega
    obtain ⟨k_1, rfl⟩ : ∃ k2, k_ = k2 + 1 := ⟨k_ - 1, by omega⟩
    obtain ⟨y, hb, hL1⟩ := forN_go hL
    unfold F_spec_l9Turn_l1 at hb
    refine cw_skip ?_
    refine cw_seq ?_
    refine cw_block ?_
    obtain ⟨x, hx, hb⟩ := bind_inv hb
    obtain ⟨hap, hb⟩ := chk_inv hb
    refine cw_mid (fun f w => ∃ (B4 : Option Addr) (c4 : Nat), FF f [(1, pt (some ⟨b1, 0, none⟩) 0), (2, pt (some ⟨b2, 0, none⟩) 0), (3, pt (some ⟨b3, 0, none⟩) 0), (4, .int .i64 (i1 : Int))] ∧ ST w0 [] w [⟨some ⟨b1, 0, none⟩, 29, [.slice B b.Cells.length c], 1⟩, ⟨some ⟨b2, 0, none⟩, 29, [.slice none 0 0], 1⟩, ⟨some ⟨b3, 0, none⟩, 29, [.slice B4 ((Cells ++ [x]).length) c4], 1⟩, ⟨B4, 91, ((Cells ++ [x]).flatMap enc_Dyadic), c4 * 5⟩] [⟨B, (b.Cells.flatMap enc_Dyadic)⟩]) ?_ ?_
    · skip
      refine ra_start (ST.sel hS4 [0, 1] rfl rfl).fn (by kernel_rfl) ?_
      have hS7 := hS4.drew
      refine ra_q 0 9 (v := pt (some ⟨b3, 0, none⟩) 0) rfl rfl rfl (by kernel_rfl) (by kernel_rfl) (by kernel_rfl) (ST.sel hS7 [0, 1] rfl rfl) (fun w' hw' => (Y_fieldAddr (B := some ⟨b3, 0, none⟩) (i := 0) (s := 0) k_fd_29_0_0_27 k_sz_27_1 rfl (hf.get 3 2 rfl))) ?_
      refine ra_q 2 11 (v := pt (some ⟨b1, 0, none⟩) 0) rfl rfl rfl (by kernel_rfl) (by kernel_rfl) (by kernel_rfl) (ST.sel hS7 [0, 1] rfl rfl) (fun w' hw' => (Y_fieldAddr (B := some ⟨b1, 0, none⟩) (i := 0) (s := 0) k_fd_29_0_0_27 k_sz_27_1 rfl (hf.get 1 0 rfl))) ?_
      refine ra_q 3 12 (v := .slice B b.Cells.length c) rfl rfl rfl (by kernel_rfl) (by kernel_rfl) (by kernel_rfl) (ST.sel hS7 [0, 1] rfl rfl) (fun w' hw' => (Y_load1 (B := some ⟨b1, 0, none⟩) (i := 0) (cs := [.slice B b.Cells.length c]) (v := .slice B b.Cells.length c) k_sc_27 rfl rfl (ST.cf hw' (i := 0) rfl) rfl)) ?_
      refine ra_q 4 13 (v := .int .i64 (i1 : Int)) rfl rfl rfl (by kernel_rfl) (by kernel_rfl) (by kernel_rfl) (ST.sel hS7 [0, 1] rfl rfl) (fun w' hw' => (Y_move (v := .int .i64 (i1 : Int)) rfl (hf.get 4 3 rfl))) ?_
      refine ra_q 5 14 (v := .int .i64 (Int.tmod (i1 : Int) 3)) rfl rfl rfl (by kernel_rfl) (by kernel_rfl) (by kernel_rfl) (ST.sel hS7 [0, 1] rfl rfl) (fun w' hw' => (Y_rem (k := .i64) (a := (i1 : Int)) (b := 3) rfl rfl rfl (by decide))) ?_
      refine ra_q 6 15 (v := .int .i64 (IntKind.i64.wrap ((Int.tmod (i1 : Int) 3) * 3))) rfl rfl rfl (by kernel_rfl) (by kernel_rfl) (by kernel_rfl) (ST.sel hS7 [0, 1] rfl rfl) (fun w' hw' => (Y_mul (k := .i64) (a := (Int.tmod (i1 : Int) 3)) (b := 3) rfl rfl rfl)) ?_
      refine ra_q 7 16 (v := .int .i64 (i1 : Int)) rfl rfl rfl (by kernel_rfl) (by kernel_rfl) (by kernel_rfl) (ST.sel hS7 [0, 1] rfl rfl) (fun w' hw' => (Y_move (v := .int .i64 (i1 : Int)) rfl (hf.get 4 3 rfl))) ?_
      refine ra_q 8 17 (v := .int .i64 (IntKind.i64.wrap (Int.tdiv (i1 : Int) 3))) rfl rfl rfl (by kernel_rfl) (by kernel_rfl) (by kernel_rfl) (ST.sel hS7 [0, 1] rfl rfl) (fun w' hw' => (Y_quo (k := .i64) (a := (i1 : Int)) (b := 3) rfl rfl rfl (by decide))) ?_
      refine ra_q 9 18 (v := .int .i64 (IntKind.i64.wrap ((IntKind.i64.wrap ((Int.tmod (i1 : Int) 3) * 3)) + (IntKind.i64.wrap (Int.tdiv (i1 : Int) 3))))) rfl rfl rfl (by kernel_rfl) (by kernel_rfl) (by kernel_rfl) (ST.sel hS7 [0, 1] rfl rfl) (fun w' hw' => (Y_add (k := .i64) (a := (IntKind.i64.wrap ((Int.tmod (i1 : Int) 3) * 3))) (b := (IntKind.i64.wrap (Int.tdiv (i1 : Int) 3))) rfl rfl rfl)) ?_
      refine ra_q 10 19 (v := pt B ((IntKind.i64.wrap ((IntKind.i64.wrap ((Int.tmod (i1 : Int) 3) * 3)) + (IntKind.i64.wrap (Int.tdiv (i1 : Int) 3)))).toNat * 5)) rfl rfl rfl (by kernel_rfl) (by kernel_rfl) (by kernel_rfl) (ST.sel hS7 [0, 1] rfl rfl) (fun w' hw' => (Y_index (B := B) (m := b.Cells.length) (c := c) (k := .i64) (i := (IntKind.i64.wrap ((IntKind.i64.wrap ((Int.tmod (i1 : Int) 3) * 3)) + (IntKind.i64.wrap (Int.tdiv (i1 : Int) 3))))) k_sl_27_91 k_sz_91_5 rfl rfl rfl (gi_isSome enc_Dyadic_len rfl (ST.rf hw' (i := 0) rfl) hx) (getI_nn hx) (getI_ltI hx rfl))) ?_
      refine ra_q 11 20 (v := .agg #[.int .i64 x.Num.A, .int .i64 x.Num.B, .int .i64 x.Num.C, .int .i64 x.Num.D, .int .i64 x.Exp]) rfl rfl rfl (by kernel_rfl) (by kernel_rfl) (by kernel_rfl) (ST.sel hS7 [0, 1] rfl rfl) (fun w' hw' => (Y_loadA (B := B) (i := (IntKind.i64.wrap ((IntKind.i64.wrap ((Int.tmod (i1 : Int) 3) * 3)) + (IntKind.i64.wrap (Int.tdiv (i1 : Int) 3)))).toNat * 5) (cs := (b.Cells.flatMap enc_Dyadic)) (vs := [.int .i64 x.Num.A, .int .i64 x.Num.B, .int .i64 x.Num.C, .int .i64 x.Num.D, .int .i64 x.Exp]) k_ag_91 k_sz_91_5 rfl rfl (ST.rf hw' (i := 0) rfl) (enc_Dyadic_len x) (gi_seg enc_Dyadic_len hx))) ?_
      refine ra_all (rs := [1, 12]) (by kernel_rfl) rfl ?_
      refine ra_y 10 (i := 1) (v := .slice B2 Cells.length c2) rfl rfl rfl (Y_load1 (B := some ⟨b3, 0, none⟩) (i := 0) (cs := [.slice B2 Cells.length c2]) (v := .slice B2 Cells.length c2) k_sc_27 rfl rfl (hS7.cf (i := 2) rfl) rfl) (ST.sel hS7 [0, 1] rfl rfl) ?_ ?_
      · skip
        refine ra_all (rs := [12]) (by kernel_rfl) rfl ?_
        refine ra_s 21 (i := 12) rfl rfl rfl (Ys_bslice (s := 5) (len := 1) (vs := [(0, .agg #[.int .i64 x.Num.A, .int .i64 x.Num.B, .int .i64 x.Num.C, .int .i64 x.Num.D, .int .i64 x.Exp])]) (cs := [.int .i64 x.Num.A, .int .i64 x.Num.B, .int .i64 x.Num.C, .int .i64 x.Num.D, .int .i64 x.Exp]) (zs := [.int .i64 0, .int .i64 0, .int .i64 0, .int .i64 0, .int .i64 0]) (m := 5) hS7 k_sl_27_91 k_sz_91_5 k_zc_91 rfl (mpc rfl mpn) rfl rfl rfl rfl rfl rfl) ?_ ?_
        · rintro _ w_3 ⟨b4, rfl, hS8⟩
          have hS8 : ST w0 [] _ [⟨some ⟨b1, 0, none⟩, 29, [.slice B b.Cells.length c], 1⟩, ⟨some ⟨b2, 0, none⟩, 29, [.slice none 0 0], 1⟩, ⟨some ⟨b3, 0, none⟩, 29, [.slice B2 Cells.length c2], 1⟩, ⟨B2, 91, (Cells.flatMap enc_Dyadic), c2 * 5⟩, ⟨some ⟨b4, 0, none⟩, 91, ([x].flatMap enc_Dyadic), 1 * 5⟩] [⟨B, (b.Cells.flatMap enc_Dyadic)⟩] := hS8
          refine ⟨(ST.sel hS8 [0, 1] rfl rfl), ?_⟩
          refine ra_all (rs := [13]) (by kernel_rfl) rfl ?_
          refine ra_s 22 (i := 13) rfl rfl rfl (Ys_append (s := 5) (by' := 40) (i := 3) (nn := Cells.length) (c := c2) (k := 1) (len := (Cells ++ [x]).length) (B := B2) (xs := ([x].flatMap enc_Dyadic)) (cs' := ((Cells ++ [x]).flatMap enc_Dyadic)) hS8 k_sl_27_91 k_sz_91_5 k_by_91_40 k_zero_91 rfl (by decide) rfl rfl rfl rfl (fm_lenn (l := Cells) enc_Dyadic_len rfl) rfl (hS8.cf (i := 4) rfl) (fm_lenn (l := [x]) enc_Dyadic_len rfl) (fm_one' (enc := enc_Dyadic) enc_Dyadic_one [x]) (by have := hap; omega) (by have := hap; simp only [maxLen]; omega) (fm_app _ _) (app_len (l := Cells) (l' := [x]) rfl rfl)) ?_ ?_
          · rintro _ w_4 ⟨B3, c3, rfl, hS9⟩
            have hS9 : ST w0 [] _ [⟨some ⟨b1, 0, none⟩, 29, [.slice B b.Cells.length c], 1⟩, ⟨some ⟨b2, 0, none⟩, 29, [.slice none 0 0], 1⟩, ⟨some ⟨b3, 0, none⟩, 29, [.slice B2 Cells.length c2], 1⟩, ⟨B3, 91, ((Cells ++ [x]).flatMap enc_Dyadic), c3 * 5⟩, ⟨some ⟨b4, 0, none⟩, 91, ([x].flatMap enc_Dyadic), 1 * 5⟩] [⟨B, (b.Cells.flatMap enc_Dyadic)⟩] := hS9
            refine ⟨(ST.sel hS9 [0, 1] rfl rfl), ?_⟩
            refine ra_q 14 23 (v := pt (some ⟨b3, 0, none⟩) 0) rfl rfl rfl (by kernel_rfl) (by kernel_rfl) (by kernel_rfl) (ST.sel hS9 [0, 1] rfl rfl) (fun w' hw' => (Y_fieldAddr (B := some ⟨b3, 0, none⟩) (i := 0) (s := 0) k_fd_29_0_0_27 k_sz_27_1 rfl (hf.get 3 2 rfl))) ?_
            refine ra_all (rs := [15]) (by kernel_rfl) rfl ?_
            refine ra_s0 (i := 15) rfl rfl rfl (Ys_store (i := 2) (s := 1) (B := some ⟨b3, 0, none⟩) (T' := 29) (v := .slice B3 ((Cells ++ [x]).length) c3) (vs := [.slice B3 ((Cells ++ [x]).length) c3]) (k := 0) (cs' := [.slice B3 ((Cells ++ [x]).length) c3]) hS9 k_sz_27_1 rfl rfl rfl rfl rfl rfl rfl (Nat.le_of_ble_eq_true rfl) rfl rfl) ?_ ?_
            · rintro _ w_5 ⟨rfl, hS10⟩
              have hS10 : ST w0 [] _ [⟨some ⟨b1, 0, none⟩, 29, [.slice B b.Cells.length c], 1⟩, ⟨some ⟨b2, 0, none⟩, 29, [.slice none 0 0], 1⟩, ⟨some ⟨b3, 0, none⟩, 29, [.slice B3 ((Cells ++ [x]).length) c3], 1⟩, ⟨B3, 91, ((Cells ++ [x]).flatMap enc_Dyadic), c3 * 5⟩, ⟨some ⟨b4, 0, none⟩, 91, ([x].flatMap enc_Dyadic), 1 * 5⟩] [⟨B, (b.Cells.flatMap enc_Dyadic)⟩] := hS10
              refine ⟨(ST.sel hS10 [0, 1] rfl rfl), ?_⟩
              refine ra_done (by kernel_rfl) ?_
              exact ⟨B3, c3, (FF.cons (hf.get 1 0 rfl) (FF.cons (hf.get 2 1 rfl) (FF.cons (hf.get 3 2 rfl) (FF.cons (hf.get 4 3 rfl) FF.nil)))), (hS10.sel [0, 1, 2, 3] rfl rfl)⟩
            exact allR_nil
          exact allR_nil
        exact allR_nil
      refine ra_s 21 (i := 12) rfl rfl rfl (Ys_bslice (s := 5) (len := 1) (vs := [(0, .agg #[.int .i64 x.Num.A, .int .i64 x.Num.B, .int .i64 x.Num.C, .int .i64 x.Num.D, .int .i64 x.Exp])]) (cs := [.int .i64 x.Num.A, .int .i64 x.Num.B, .int .i64 x.Num.C, .int .i64 x.Num.D, .int .i64 x.Exp]) (zs := [.int .i64 0, .int .i64 0, .int .i64 0, .int .i64 0, .int .i64 0]) (m := 5) hS7 k_sl_27_91 k_sz_91_5 k_zc_91 rfl (mpc rfl mpn) rfl rfl rfl rfl rfl rfl) ?_ ?_
      · rintro _ w_6 ⟨b4, rfl, hS11⟩
        have hS11 : ST w0 [] _ [⟨some ⟨b1, 0, none⟩, 29, [.slice B b.Cells.length c], 1⟩, ⟨some ⟨b2, 0, none⟩, 29, [.slice none 0 0], 1⟩, ⟨some ⟨b3, 0, none⟩, 29, [.slice B2 Cells.length c2], 1⟩, ⟨B2, 91, (Cells.flatMap enc_Dyadic), c2 * 5⟩, ⟨some ⟨b4, 0, none⟩, 91, ([x].flatMap enc_Dyadic), 1 * 5⟩] [⟨B, (b.Cells.flatMap enc_Dyadic)⟩] := hS11
        refine ⟨(ST.sel hS11 [0, 1] rfl rfl), ?_⟩
        refine ra_all (rs := [1]) (by kernel_rfl) rfl ?_
        refine ra_y 10 (i := 1) (v := .slice B2 Cells.length c2) rfl rfl rfl (Y_load1 (B := some ⟨b3, 0, none⟩) (i := 0) (cs := [.slice B2 Cells.length c2]) (v := .slice B2 Cells.length c2) k_sc_27 rfl rfl (hS11.cf (i := 2) rfl) rfl) (ST.sel hS11 [0, 1] rfl rfl) ?_ ?_
        · skip
          refine ra_all (rs := [13]) (by kernel_rfl) rfl ?_
          refine ra_s 22 (i := 13) rfl rfl rfl (Ys_append (s := 5) (by' := 40) (i := 3) (nn := Cells.length) (c := c2) (k := 1) (len := (Cells ++ [x]).length) (B := B2) (xs := ([x].flatMap enc_Dyadic)) (cs' := ((Cells ++ [x]).flatMap enc_Dyadic)) hS11 k_sl_27_91 k_sz_91_5 k_by_91_40 k_zero_91 rfl (by decide) rfl rfl rfl rfl (fm_lenn (l := Cells) enc_Dyadic_len rfl) rfl (hS11.cf (i := 4) rfl) (fm_lenn (l := [x]) enc_Dyadic_len rfl) (fm_one' (enc := enc_Dyadic) enc_Dyadic_one [x]) (by have := hap; omega) (by have := hap; simp only [maxLen]; omega) (fm_app _ _) (app_len (l := Cells) (l' := [x]) rfl rfl)) ?_ ?_
          · rintro _ w_7 ⟨B3, c3, rfl, hS12⟩
            have hS12 : ST w0 [] _ [⟨some ⟨b1, 0, none⟩, 29, [.slice B b.Cells.length c], 1⟩, ⟨some ⟨b2, 0, none⟩, 29, [.slice none 0 0], 1⟩, ⟨some ⟨b3, 0, none⟩, 29, [.slice B2 Cells.length c2], 1⟩, ⟨B3, 91, ((Cells ++ [x]).flatMap enc_Dyadic), c3 * 5⟩, ⟨some ⟨b4, 0, none⟩, 91, ([x].flatMap enc_Dyadic), 1 * 5⟩] [⟨B, (b.Cells.flatMap enc_Dyadic)⟩] := hS12
            refine ⟨(ST.sel hS12 [0, 1] rfl rfl), ?_⟩
            refine ra_q 14 23 (v := pt (some ⟨b3, 0, none⟩) 0) rfl rfl rfl (by kernel_rfl) (by kernel_rfl) (by kernel_rfl) (ST.sel hS12 [0, 1] rfl rfl) (fun w' hw' => (Y_fieldAddr (B := some ⟨b3, 0, none⟩) (i := 0) (s := 0) k_fd_29_0_0_27 k_sz_27_1 rfl (hf.get 3 2 rfl))) ?_
            refine ra_all (rs := [15]) (by kernel_rfl) rfl ?_
            refine ra_s0 (i := 15) rfl rfl rfl (Ys_store (i := 2) (s := 1) (B := some ⟨b3, 0, none⟩) (T' := 29) (v := .slice B3 ((Cells ++ [x]).length) c3) (vs := [.slice B3 ((Cells ++ [x]).length) c3]) (k := 0) (cs' := [.slice B3 ((Cells ++ [x]).length) c3]) hS12 k_sz_27_1 rfl rfl rfl rfl rfl rfl rfl (Nat.le_of_ble_eq_true rfl) rfl rfl) ?_ ?_
            · rintro _ w_8 ⟨rfl, hS13⟩
              have hS13 : ST w0 [] _ [⟨some ⟨b1, 0, none⟩, 29, [.slice B b.Cells.length c], 1⟩, ⟨some ⟨b2, 0, none⟩, 29, [.slice none 0 0], 1⟩, ⟨some ⟨b3, 0, none⟩, 29, [.slice B3 ((Cells ++ [x]).length) c3], 1⟩, ⟨B3, 91, ((Cells ++ [x]).flatMap enc_Dyadic), c3 * 5⟩, ⟨some ⟨b4, 0, none⟩, 91, ([x].flatMap enc_Dyadic), 1 * 5⟩] [⟨B, (b.Cells.flatMap enc_Dyadic)⟩] := hS13
              refine ⟨(ST.sel hS13 [0, 1] rfl rfl), ?_⟩
              refine ra_done (by kernel_rfl) ?_
              exact ⟨B3, c3, (FF.cons (hf.get 1 0 rfl) (FF.cons (hf.get 2 1 rfl) (FF.cons (hf.get 3 2 rfl) (FF.cons (hf.get 4 3 rfl) FF.nil)))), (hS13.sel [0, 1, 2, 3] rfl rfl)⟩
            exact allR_nil
          exact allR_nil
        exact allR_nil
      exact allR_nil
    rintro f w ⟨B4, c4, hf1, hS6⟩
    refine cw_region ?_
    refine sq 7 rfl rfl (Y_move (v := .int .i64 (i1 : Int)) rfl (hf1.get 4 3 rfl)) ?_
    refine sq 8 rfl rfl (Y_add (k := .i64) (a := (i1 : Int)) (b := 1) rfl rfl rfl) ?_
    refine sq 4 rfl rfl (Y_assign (v := .int .i64 (IntKind.i64.wrap ((i1 : Int) + 1))) rfl rfl) ?_
    refine rw_nil ?_
    obtain rfl := some_inj hb
    exact ⟨k_1, Nat.lt_succ_self _, i1 + 1, (Cells ++ [x]), B4, c4, (FF.cons (hf1.get 1 0 rfl) (FF.cons (hf1.get 2 1 rfl) (FF.cons (hf1.get 3 2 rfl) (FF.cons (congrArg (Value.int .i64) (wr_succ hlt1 (show 9 ≤ 9223372036854775807 by decide))) FF.nil)))), (hS6.sel [0, 1, 2, 3] rfl rfl), (by omega), hL1⟩
  · skip
    obtain rfl : k_ = 0 := by have h := of_decide_eq_false hlt; omega
    refine cw_exit rfl ?_
    obtain rfl := some_inj hL
    refine cw_seq ?_
    refine cw_region ?_
    refine sq 24 rfl rfl (Y_loadA (B := some ⟨b3, 0, none⟩) (i := 0) (cs := [.slice B2 Cells.length c2]) (vs := [.slice B2 Cells.length c2]) k_ag_29 k_sz_29_1 rfl (hf.get 3 2 rfl) (hS4.cf (i := 2) rfl) rfl rfl) ?_
    refine ss0 rfl rfl (Ys_store (i := 1) (s := 1) (B := some ⟨b2, 0, none⟩) (T' := 29) (v := .agg #[.slice B2 Cells.length c2]) (vs := [.slice B2 Cells.length c2]) (k := 0) (cs' := [.slice B2 Cells.length c2]) hS4 k_sz_29_1 rfl (hf.get 2 1 rfl) rfl rfl rfl rfl rfl (Nat.le_of_ble_eq_true rfl) rfl rfl) ?_
    rintro _ w_9 ⟨rfl, hS14⟩
    have hS14 : ST w0 [] _ [⟨some ⟨b1, 0, none⟩, 29, [.slice B b.Cells.length c], 1⟩, ⟨some ⟨b2, 0, none⟩, 29, [.slice B2 Cells.length c2], 1⟩, ⟨some ⟨b3, 0, none⟩, 29, [.slice B2 Cells.length c2], 1⟩, ⟨B2, 91, (Cells.flatMap enc_Dyadic), c2 * 5⟩] [⟨B, (b.Cells.flatMap enc_Dyadic)⟩] := hS14
    refine rw_nil ?_
    refine cw_ret ?_
    obtain rfl := some_inj hF1
    exact ret1 Try.results120 (v1 := .agg #[.slice B2 Cells.length c2]) (resAt_cellA (B := some ⟨b2, 0, none⟩) (i := 0) (cs := [.slice B2 Cells.length c2]) (vs := [.slice B2 Cells.length c2]) (hf.get 2 1 rfl) k_ag_29 k_sz_29_1 (hS14.cf (i := 1) rfl) rfl rfl) ⟨B2, c2, rfl, (ST.subR (R' := []) (hS14.sel [3] rfl rfl) (fun _ h => by cases h))⟩

theorem c_spec_l1Even (x : TRing)  (w0 : World)  (hS : ST w0 [] w0 [] []) {r_ : Bool} (hF : F_spec_l1Even x = some r_) :
    CV Try.prog 176 #[.agg #[.int .i64 x.A, .int .i64 x.B, .int .i64 x.C, .int .i64 x.D]] w0 (fun v w' => v = .bool r_ ∧ ST w0 [] w' [] []) := by
  unfold F_spec_l1Even at hF
  refine cv_of_cw 19 Try.func176 rfl Try.ntmps176 rfl ?_
  refine cw_seq ?_
  refine cw_region ?_
  refine ss 1 rfl rfl (Ys_box (T := 89) (v := .agg #[.int .i64 x.A, .int .i64 x.B, .int .i64 x.C, .int .i64 x.D]) (cs := [.int .i64 x.A, .int .i64 x.B, .int .i64 x.C, .int .i64 x.D]) (m := 4) hS rfl rfl rfl rfl) ?_
  rintro _ w_ ⟨b, rfl, hS1⟩
  refine sq 2 rfl rfl (Y_assign (v := .bool false) rfl rfl) ?_
  refine rw_nil ?_
  refine cw_seq ?_
  refine cw_region ?_
  refine sq 3 rfl rfl (Y_fieldAddr (B := some ⟨b, 0, none⟩) (i := 0) (s := 0) k_fd_89_0_0_3 k_sz_3_1 rfl rfl) ?_
  refine sq 4 rfl rfl (Y_load1 (B := some ⟨b, 0, none⟩) (i := 0) (cs := [.int .i64 x.A, .int .i64 x.B, .int .i64 x.C, .int .i64 x.D]) (v := .int .i64 x.A) k_sc_3 rfl rfl (hS1.cf (i := 0) rfl) rfl) ?_
  refine sq 5 rfl rfl (Y_fieldAddr (B := some ⟨b, 0, none⟩) (i := 0) (s := 0) k_fd_89_2_2_3 k_sz_3_1 rfl rfl) ?_
  refine sq 6 rfl rfl (Y_load1 (B := some ⟨b, 0, none⟩) (i := 2) (cs := [.int .i64 x.A, .int .i64 x.B, .int .i64 x.C, .int .i64 x.D]) (v := .int .i64 x.C) k_sc_3 rfl rfl (hS1.cf (i := 0) rfl) rfl) ?_
  refine sq 7 rfl rfl (Y_add (k := .i64) (a := x.A) (b := x.C) rfl rfl rfl) ?_
  refine sq 8 rfl rfl (Y_rem (k := .i64) (a := (IntKind.i64.wrap (x.A + x.C))) (b := 2) rfl rfl rfl (by decide)) ?_
  refine sq 9 rfl rfl (Y_eq (k := .i64) (a := (Int.tmod (IntKind.i64.wrap (x.A + x.C)) 2)) (b := 0) rfl rfl rfl) ?_
  refine sq 10 rfl rfl (Y_move (v := .bool ((Int.tmod (IntKind.i64.wrap (x.A + x.C)) 2) == 0)) rfl rfl) ?_
  refine sgq 11 (B := ((Int.tmod (IntKind.i64.wrap (x.A + x.C)) 2) == 0)) (v := pt (some ⟨b, 0, none⟩) 1) rfl rfl (wt_t (gd_of (t := 10) (by kernel_rfl) rfl)) (fun hg => (Y_fieldAddr (B := some ⟨b, 0, none⟩) (i := 0) (s := 0) k_fd_89_1_1_3 k_sz_3_1 rfl rfl)) ?_
  refine sgq 12 (B := ((Int.tmod (IntKind.i64.wrap (x.A + x.C)) 2) == 0)) (v := .int .i64 x.B) rfl rfl (wt_t (gd_of (t := 10) (by kernel_rfl) rfl)) (fun hg1 => (Y_load1 (B := some ⟨b, 0, none⟩) (i := 1) (cs := [.int .i64 x.A, .int .i64 x.B, .int .i64 x.C, .int .i64 x.D]) (v := .int .i64 x.B) k_sc_3 rfl (gv_of (B := ((Int.tmod (IntKind.i64.wrap (x.A + x.C)) 2) == 0)) (v := pt (some ⟨b, 0, none⟩) 1) hg1) (hS1.cf (i := 0) rfl) rfl)) ?_
  refine sgq 13 (B := ((Int.tmod (IntKind.i64.wrap (x.A + x.C)) 2) == 0)) (v := pt (some ⟨b, 0, none⟩) 3) rfl rfl (wt_t (gd_of (t := 10) (by kernel_rfl) rfl)) (fun hg2 => (Y_fieldAddr (B := some ⟨b, 0, none⟩) (i := 0) (s := 0) k_fd_89_3_3_3 k_sz_3_1 rfl rfl)) ?_
  refine sgq 14 (B := ((Int.tmod (IntKind.i64.wrap (x.A + x.C)) 2) == 0)) (v := .int .i64 x.D) rfl rfl (wt_t (gd_of (t := 10) (by kernel_rfl) rfl)) (fun hg3 => (Y_load1 (B := some ⟨b, 0, none⟩) (i := 3) (cs := [.int .i64 x.A, .int .i64 x.B, .int .i64 x.C, .int .i64 x.D]) (v := .int .i64 x.D) k_sc_3 rfl (gv_of (B := ((Int.tmod (IntKind.i64.wrap (x.A + x.C)) 2) == 0)) (v := pt (some ⟨b, 0, none⟩) 3) hg3) (hS1.cf (i := 0) rfl) rfl)) ?_
  refine sgq 15 (B := ((Int.tmod (IntKind.i64.wrap (x.A + x.C)) 2) == 0)) (v := .int .i64 (IntKind.i64.wrap (x.B + x.D))) rfl rfl (wt_t (gd_of (t := 10) (by kernel_rfl) rfl)) (fun hg4 => (Y_add (k := .i64) (a := x.B) (b := x.D) rfl (gv_of (B := ((Int.tmod (IntKind.i64.wrap (x.A + x.C)) 2) == 0)) (v := .int .i64 x.B) hg4) (gv_of (B := ((Int.tmod (IntKind.i64.wrap (x.A + x.C)) 2) == 0)) (v := .int .i64 x.D) hg4))) ?_
  refine sgq 16 (B := ((Int.tmod (IntKind.i64.wrap (x.A + x.C)) 2) == 0)) (v := .int .i64 (Int.tmod (IntKind.i64.wrap (x.B + x.D)) 2)) rfl rfl (wt_t (gd_of (t := 10) (by kernel_rfl) rfl)) (fun hg5 => (Y_rem (k := .i64) (a := (IntKind.i64.wrap (x.B + x.D))) (b := 2) rfl (gv_of (B := ((Int.tmod (IntKind.i64.wrap (x.A + x.C)) 2) == 0)) (v := .int .i64 (IntKind.i64.wrap (x.B + x.D))) hg5) rfl (by decide))) ?_
  refine sgq 17 (B := ((Int.tmod (IntKind.i64.wrap (x.A + x.C)) 2) == 0)) (v := .bool ((Int.tmod (IntKind.i64.wrap (x.B + x.D)) 2) == 0)) rfl rfl (wt_t (gd_of (t := 10) (by kernel_rfl) rfl)) (fun hg6 => (Y_eq (k := .i64) (a := (Int.tmod (IntKind.i64.wrap (x.B + x.D)) 2)) (b := 0) rfl (gv_of (B := ((Int.tmod (IntKind.i64.wrap (x.A + x.C)) 2) == 0)) (v := .int .i64 (Int.tmod (IntKind.i64.wrap (x.B + x.D)) 2)) hg6) rfl)) ?_
  refine sq 18 rfl rfl (Y_and (b := ((Int.tmod (IntKind.i64.wrap (x.A + x.C)) 2) == 0)) (z := ((Int.tmod (IntKind.i64.wrap (x.B + x.D)) 2) == 0)) rfl rfl rfl rfl) ?_
  refine sq 2 rfl rfl (Y_assign (v := .bool (((Int.tmod (IntKind.i64.wrap (x.A + x.C)) 2) == 0) && ((Int.tmod (IntKind.i64.wrap (x.B + x.D)) 2) == 0))) rfl rfl) ?_
  refine rw_nil ?_
  refine cw_ret ?_
  obtain rfl := some_inj hF
  exact ret1 Try.results176 (v1 := .bool (((Int.tmod (IntKind.i64.wrap (x.A + x.C)) 2) == 0) && ((Int.tmod (IntKind.i64.wrap (x.B + x.D)) 2) == 0))) (resAt_tmp rfl) ⟨rfl, (ST.subR (R' := []) (hS1.sel [] rfl rfl) (fun _ h => by cases h))⟩

theorem c_spec_l1Root (x : TRing)  (w0 : World)  (hS : ST w0 [] w0 [] []) {r_ : TRing} (hF : F_spec_l1Root x = some r_) :
    CV Try.prog 180 #[.agg #[.int .i64 x.A, .int .i64 x.B, .int .i64 x.C, .int .i64 x.D]] w0 (fun v w' => v = .agg #[.int .i64 r_.A, .int .i64 r_.B, .int .i64 r_.C, .int .i64 r_.D] ∧ ST w0 [] w' [] []) := by
  unfold F_spec_l1Root at hF
  refine cv_of_cw 24 Try.func180 rfl Try.ntmps180 rfl ?_
  refine cw_seq ?_
  refine cw_region ?_
  refine ss 1 rfl rfl (Ys_box (T := 89) (v := .agg #[.int .i64 x.A, .int .i64 x.B, .int .i64 x.C, .int .i64 x.D]) (cs := [.int .i64 x.A, .int .i64 x.B, .int .i64 x.C, .int .i64 x.D]) (m := 4) hS rfl rfl rfl rfl) ?_
  rintro _ w_ ⟨b, rfl, hS1⟩
  refine ss 2 rfl rfl (Ys_alloc (T := 89) (cs := [.int .i64 0, .int .i64 0, .int .i64 0, .int .i64 0]) (m := 4) hS1 k_zero_89 rfl rfl rfl) ?_
  rintro _ w_1 ⟨b1, rfl, hS2⟩
  have hS2 : ST w0 [] _ [⟨some ⟨b, 0, none⟩, 89, [.int .i64 x.A, .int .i64 x.B, .int .i64 x.C, .int .i64 x.D], 4⟩, ⟨some ⟨b1, 0, none⟩, 89, [.int .i64 0, .int .i64 0, .int .i64 0, .int .i64 0], 4⟩] [] := hS2
  refine rw_nil ?_
  refine cw_seq ?_
  refine cw_region ?_
  refine sq 3 rfl rfl (Y_fieldAddr (B := some ⟨b, 0, none⟩) (i := 0) (s := 0) k_fd_89_1_1_3 k_sz_3_1 rfl rfl) ?_
  refine sq 4 rfl rfl (Y_load1 (B := some ⟨b, 0, none⟩) (i := 1) (cs := [.int .i64 x.A, .int .i64 x.B, .int .i64 x.C, .int .i64 x.D]) (v := .int .i64 x.B) k_sc_3 rfl rfl (hS2.cf (i := 0) rfl) rfl) ?_
  refine sq 5 rfl rfl (Y_fieldAddr (B := some ⟨b, 0, none⟩) (i := 0) (s := 0) k_fd_89_3_3_3 k_sz_3_1 rfl rfl) ?_
  refine sq 6 rfl rfl (Y_load1 (B := some ⟨b, 0, none⟩) (i := 3) (cs := [.int .i64 x.A, .int .i64 x.B, .int .i64 x.C, .int .i64 x.D]) (v := .int .i64 x.D) k_sc_3 rfl rfl (hS2.cf (i := 0) rfl) rfl) ?_
  refine sq 7 rfl rfl (Y_sub (k := .i64) (a := x.B) (b := x.D) rfl rfl rfl) ?_
  refine sq 8 rfl rfl (Y_fieldAddr (B := some ⟨b, 0, none⟩) (i := 0) (s := 0) k_fd_89_0_0_3 k_sz_3_1 rfl rfl) ?_
  refine sq 9 rfl rfl (Y_load1 (B := some ⟨b, 0, none⟩) (i := 0) (cs := [.int .i64 x.A, .int .i64 x.B, .int .i64 x.C, .int .i64 x.D]) (v := .int .i64 x.A) k_sc_3 rfl rfl (hS2.cf (i := 0) rfl) rfl) ?_
  refine sq 10 rfl rfl (Y_fieldAddr (B := some ⟨b, 0, none⟩) (i := 0) (s := 0) k_fd_89_2_2_3 k_sz_3_1 rfl rfl) ?_
  refine sq 11 rfl rfl (Y_load1 (B := some ⟨b, 0, none⟩) (i := 2) (cs := [.int .i64 x.A, .int .i64 x.B, .int .i64 x.C, .int .i64 x.D]) (v := .int .i64 x.C) k_sc_3 rfl rfl (hS2.cf (i := 0) rfl) rfl) ?_
  refine sq 12 rfl rfl (Y_add (k := .i64) (a := x.A) (b := x.C) rfl rfl rfl) ?_
  refine sq 13 rfl rfl (Y_fieldAddr (B := some ⟨b, 0, none⟩) (i := 0) (s := 0) k_fd_89_1_1_3 k_sz_3_1 rfl rfl) ?_
  refine sq 14 rfl rfl (Y_load1 (B := some ⟨b, 0, none⟩) (i := 1) (cs := [.int .i64 x.A, .int .i64 x.B, .int .i64 x.C, .int .i64 x.D]) (v := .int .i64 x.B) k_sc_3 rfl rfl (hS2.cf (i := 0) rfl) rfl) ?_
  refine sq 15 rfl rfl (Y_fieldAddr (B := some ⟨b, 0, none⟩) (i := 0) (s := 0) k_fd_89_3_3_3 k_sz_3_1 rfl rfl) ?_
  refine sq 16 rfl rfl (Y_load1 (B := some ⟨b, 0, none⟩) (i := 3) (cs := [.int .i64 x.A, .int .i64 x.B, .int .i64 x.C, .int .i64 x.D]) (v := .int .i64 x.D) k_sc_3 rfl rfl (hS2.cf (i := 0) rfl) rfl) ?_
  refine sq 17 rfl rfl (Y_add (k := .i64) (a := x.B) (b := x.D) rfl rfl rfl) ?_
  refine sq 18 rfl rfl (Y_fieldAddr (B := some ⟨b, 0, none⟩) (i := 0) (s := 0) k_fd_89_2_2_3 k_sz_3_1 rfl rfl) ?_
  refine sq 19 rfl rfl (Y_load1 (B := some ⟨b, 0, none⟩) (i := 2) (cs := [.int .i64 x.A, .int .i64 x.B, .int .i64 x.C, .int .i64 x.D]) (v := .int .i64 x.C) k_sc_3 rfl rfl (hS2.cf (i := 0) rfl) rfl) ?_
  refine sq 20 rfl rfl (Y_fieldAddr (B := some ⟨b, 0, none⟩) (i := 0) (s := 0) k_fd_89_0_0_3 k_sz_3_1 rfl rfl) ?_
  refine sq 21 rfl rfl (Y_load1 (B := some ⟨b, 0, none⟩) (i := 0) (cs := [.int .i64 x.A, .int .i64 x.B, .int .i64 x.C, .int .i64 x.D]) (v := .int .i64 x.A) k_sc_3 rfl rfl (hS2.cf (i := 0) rfl) rfl) ?_
  refine sq 22 rfl rfl (Y_sub (k := .i64) (a := x.C) (b := x.A) rfl rfl rfl) ?_
  refine sq 23 rfl rfl (Y_buildS (zs := [.int .i64 0, .int .i64 0, .int .i64 0, .int .i64 0]) (vs := [(0, .int .i64 (IntKind.i64.wrap (x.B - x.D))), (1, .int .i64 (IntKind.i64.wrap (x.A + x.C))), (2, .int .i64 (IntKind.i64.wrap (x.B + x.D))), (3, .int .i64 (IntKind.i64.wrap (x.C - x.A)))]) (cs := [.int .i64 (IntKind.i64.wrap (x.B - x.D)), .int .i64 (IntKind.i64.wrap (x.A + x.C)), .int .i64 (IntKind.i64.wrap (x.B + x.D)), .int .i64 (IntKind.i64.wrap (x.C - x.A))]) k_pl_89 k_zero_89 rfl (mpc rfl (mpc rfl (mpc rfl (mpc rfl mpn)))) rfl) ?_
  refine ss0 rfl rfl (Ys_store (i := 1) (s := 4) (B := some ⟨b1, 0, none⟩) (T' := 89) (v := .agg #[.int .i64 (IntKind.i64.wrap (x.B - x.D)), .int .i64 (IntKind.i64.wrap (x.A + x.C)), .int .i64 (IntKind.i64.wrap (x.B + x.D)), .int .i64 (IntKind.i64.wrap (x.C - x.A))]) (vs := [.int .i64 (IntKind.i64.wrap (x.B - x.D)), .int .i64 (IntKind.i64.wrap (x.A + x.C)), .int .i64 (IntKind.i64.wrap (x.B + x.D)), .int .i64 (IntKind.i64.wrap (x.C - x.A))]) (k := 0) (cs' := [.int .i64 (IntKind.i64.wrap (x.B - x.D)), .int .i64 (IntKind.i64.wrap (x.A + x.C)), .int .i64 (IntKind.i64.wrap (x.B + x.D)), .int .i64 (IntKind.i64.wrap (x.C - x.A))]) hS2 k_sz_89_4 rfl rfl rfl rfl rfl rfl rfl (Nat.le_of_ble_eq_true rfl) rfl rfl) ?_
  rintro _ w_2 ⟨rfl, hS3⟩
  have hS3 : ST w0 [] _ [⟨some ⟨b, 0, none⟩, 89, [.int .i64 x.A, .int .i64 x.B, .int .i64 x.C, .int .i64 x.D], 4⟩, ⟨some ⟨b1, 0, none⟩, 89, [.int .i64 (IntKind.i64.wrap (x.B - x.D)), .int .i64 (IntKind.i64.wrap (x.A + x.C)), .int .i64 (IntKind.i64.wrap (x.B + x.D)), .int .i64 (IntKind.i64.wrap (x.C - x.A))], 4⟩] [] := hS3
  refine rw_nil ?_
  refine cw_ret ?_
  obtain rfl := some_inj hF
  exact ret1 Try.results180 (v1 := .agg #[.int .i64 (IntKind.i64.wrap (x.B - x.D)), .int .i64 (IntKind.i64.wrap (x.A + x.C)), .int .i64 (IntKind.i64.wrap (x.B + x.D)), .int .i64 (IntKind.i64.wrap (x.C - x.A))]) (resAt_cellA (B := some ⟨b1, 0, none⟩) (i := 0) (cs := [.int .i64 (IntKind.i64.wrap (x.B - x.D)), .int .i64 (IntKind.i64.wrap (x.A + x.C)), .int .i64 (IntKind.i64.wrap (x.B + x.D)), .int .i64 (IntKind.i64.wrap (x.C - x.A))]) (vs := [.int .i64 (IntKind.i64.wrap (x.B - x.D)), .int .i64 (IntKind.i64.wrap (x.A + x.C)), .int .i64 (IntKind.i64.wrap (x.B + x.D)), .int .i64 (IntKind.i64.wrap (x.C - x.A))]) rfl k_ag_89 k_sz_89_4 (hS3.cf (i := 1) rfl) rfl rfl) ⟨rfl, (ST.subR (R' := []) (hS3.sel [] rfl rfl) (fun _ h => by cases h))⟩

theorem c_spec_l1Half (x : TRing)  (w0 : World)  (hS : ST w0 [] w0 [] []) {r_ : TRing} (hF : F_spec_l1Half x = some r_) :
    CV Try.prog 207 #[.agg #[.int .i64 x.A, .int .i64 x.B, .int .i64 x.C, .int .i64 x.D]] w0 (fun v w' => v = .agg #[.int .i64 r_.A, .int .i64 r_.B, .int .i64 r_.C, .int .i64 r_.D] ∧ ST w0 [] w' [] []) := by
  unfold F_spec_l1Half at hF
  refine cv_of_cw 19 Try.func207 rfl Try.ntmps207 rfl ?_
  refine cw_seq ?_
  refine cw_region ?_
  refine ss 1 rfl rfl (Ys_box (T := 89) (v := .agg #[.int .i64 x.A, .int .i64 x.B, .int .i64 x.C, .int .i64 x.D]) (cs := [.int .i64 x.A, .int .i64 x.B, .int .i64 x.C, .int .i64 x.D]) (m := 4) hS rfl rfl rfl rfl) ?_
  rintro _ w_ ⟨b, rfl, hS1⟩
  refine ss 2 rfl rfl (Ys_alloc (T := 89) (cs := [.int .i64 0, .int .i64 0, .int .i64 0, .int .i64 0]) (m := 4) hS1 k_zero_89 rfl rfl rfl) ?_
  rintro _ w_1 ⟨b1, rfl, hS2⟩
  have hS2 : ST w0 [] _ [⟨some ⟨b, 0, none⟩, 89, [.int .i64 x.A, .int .i64 x.B, .int .i64 x.C, .int .i64 x.D], 4⟩, ⟨some ⟨b1, 0, none⟩, 89, [.int .i64 0, .int .i64 0, .int .i64 0, .int .i64 0], 4⟩] [] := hS2
  refine rw_nil ?_
  refine cw_seq ?_
  refine cw_region ?_
  refine sq 4 rfl rfl (Y_loadA (B := some ⟨b, 0, none⟩) (i := 0) (cs := [.int .i64 x.A, .int .i64 x.B, .int .i64 x.C, .int .i64 x.D]) (vs := [.int .i64 x.A, .int .i64 x.B, .int .i64 x.C, .int .i64 x.D]) k_ag_89 k_sz_89_4 rfl rfl (hS2.cf (i := 0) rfl) rfl rfl) ?_
  obtain ⟨r_1, hc, hF⟩ := bind_inv hF
  refine sc 5 rfl rfl (Yc_func (g := 180) (vs := [.agg #[.int .i64 x.A, .int .i64 x.B, .int .i64 x.C, .int .i64 x.D]]) k_call_180 rfl (mc rfl mn) (c_spec_l1Root x _  (hS2.inn0 [] rfl) hc)) ?_
  rintro _ w_2 ⟨rfl, hd⟩
  have hS3 := hS2.out00 hd
  have hS3 : ST w0 [] _ [⟨some ⟨b, 0, none⟩, 89, [.int .i64 x.A, .int .i64 x.B, .int .i64 x.C, .int .i64 x.D], 4⟩, ⟨some ⟨b1, 0, none⟩, 89, [.int .i64 0, .int .i64 0, .int .i64 0, .int .i64 0], 4⟩] [] := hS3
  refine ss 3 rfl rfl (Ys_alloc (T := 89) (cs := [.int .i64 0, .int .i64 0, .int .i64 0, .int .i64 0]) (m := 4) hS3 k_zero_89 rfl rfl rfl) ?_
  rintro _ w_3 ⟨b2, rfl, hS4⟩
  have hS4 : ST w0 [] _ [⟨some ⟨b, 0, none⟩, 89, [.int .i64 x.A, .int .i64 x.B, .int .i64 x.C, .int .i64 x.D], 4⟩, ⟨some ⟨b1, 0, none⟩, 89, [.int .i64 0, .int .i64 0, .int .i64 0, .int .i64 0], 4⟩, ⟨some ⟨b2, 0, none⟩, 89, [.int .i64 0, .int .i64 0, .int .i64 0, .int .i64 0], 4⟩] [] := hS4
  refine ss0 rfl rfl (Ys_store (i := 2) (s := 4) (B := some ⟨b2, 0, none⟩) (T' := 89) (v := .agg #[.int .i64 r_1.A, .int .i64 r_1.B, .int .i64 r_1.C, .int .i64 r_1.D]) (vs := [.int .i64 r_1.A, .int .i64 r_1.B, .int .i64 r_1.C, .int .i64 r_1.D]) (k := 0) (cs' := [.int .i64 r_1.A, .int .i64 r_1.B, .int .i64 r_1.C, .int .i64 r_1.D]) hS4 k_sz_89_4 rfl rfl rfl rfl rfl rfl rfl (Nat.le_of_ble_eq_true rfl) rfl rfl) ?_
  rintro _ w_4 ⟨rfl, hS5⟩
  have hS5 : ST w0 [] _ [⟨some ⟨b, 0, none⟩, 89, [.int .i64 x.A, .int .i64 x.B, .int .i64 x.C, .int .i64 x.D], 4⟩, ⟨some ⟨b1, 0, none⟩, 89, [.int .i64 0, .int .i64 0, .int .i64 0, .int .i64 0], 4⟩, ⟨some ⟨b2, 0, none⟩, 89, [.int .i64 r_1.A, .int .i64 r_1.B, .int .i64 r_1.C, .int .i64 r_1.D], 4⟩] [] := hS5
  refine rw_nil ?_
  refine cw_seq ?_
  refine cw_region ?_
  refine sq 6 rfl rfl (Y_fieldAddr (B := some ⟨b2, 0, none⟩) (i := 0) (s := 0) k_fd_89_0_0_3 k_sz_3_1 rfl rfl) ?_
  refine sq 7 rfl rfl (Y_load1 (B := some ⟨b2, 0, none⟩) (i := 0) (cs := [.int .i64 r_1.A, .int .i64 r_1.B, .int .i64 r_1.C, .int .i64 r_1.D]) (v := .int .i64 r_1.A) k_sc_3 rfl rfl (hS5.cf (i := 2) rfl) rfl) ?_
  refine sq 8 rfl rfl (Y_quo (k := .i64) (a := r_1.A) (b := 2) rfl rfl rfl (by decide)) ?_
  refine sq 9 rfl rfl (Y_fieldAddr (B := some ⟨b2, 0, none⟩) (i := 0) (s := 0) k_fd_89_1_1_3 k_sz_3_1 rfl rfl) ?_
  refine sq 10 rfl rfl (Y_load1 (B := some ⟨b2, 0, none⟩) (i := 1) (cs := [.int .i64 r_1.A, .int .i64 r_1.B, .int .i64 r_1.C, .int .i64 r_1.D]) (v := .int .i64 r_1.B) k_sc_3 rfl rfl (hS5.cf (i := 2) rfl) rfl) ?_
  refine sq 11 rfl rfl (Y_quo (k := .i64) (a := r_1.B) (b := 2) rfl rfl rfl (by decide)) ?_
  refine sq 12 rfl rfl (Y_fieldAddr (B := some ⟨b2, 0, none⟩) (i := 0) (s := 0) k_fd_89_2_2_3 k_sz_3_1 rfl rfl) ?_
  refine sq 13 rfl rfl (Y_load1 (B := some ⟨b2, 0, none⟩) (i := 2) (cs := [.int .i64 r_1.A, .int .i64 r_1.B, .int .i64 r_1.C, .int .i64 r_1.D]) (v := .int .i64 r_1.C) k_sc_3 rfl rfl (hS5.cf (i := 2) rfl) rfl) ?_
  refine sq 14 rfl rfl (Y_quo (k := .i64) (a := r_1.C) (b := 2) rfl rfl rfl (by decide)) ?_
  refine sq 15 rfl rfl (Y_fieldAddr (B := some ⟨b2, 0, none⟩) (i := 0) (s := 0) k_fd_89_3_3_3 k_sz_3_1 rfl rfl) ?_
  refine sq 16 rfl rfl (Y_load1 (B := some ⟨b2, 0, none⟩) (i := 3) (cs := [.int .i64 r_1.A, .int .i64 r_1.B, .int .i64 r_1.C, .int .i64 r_1.D]) (v := .int .i64 r_1.D) k_sc_3 rfl rfl (hS5.cf (i := 2) rfl) rfl) ?_
  refine sq 17 rfl rfl (Y_quo (k := .i64) (a := r_1.D) (b := 2) rfl rfl rfl (by decide)) ?_
  refine sq 18 rfl rfl (Y_buildS (zs := [.int .i64 0, .int .i64 0, .int .i64 0, .int .i64 0]) (vs := [(0, .int .i64 (IntKind.i64.wrap (Int.tdiv r_1.A 2))), (1, .int .i64 (IntKind.i64.wrap (Int.tdiv r_1.B 2))), (2, .int .i64 (IntKind.i64.wrap (Int.tdiv r_1.C 2))), (3, .int .i64 (IntKind.i64.wrap (Int.tdiv r_1.D 2)))]) (cs := [.int .i64 (IntKind.i64.wrap (Int.tdiv r_1.A 2)), .int .i64 (IntKind.i64.wrap (Int.tdiv r_1.B 2)), .int .i64 (IntKind.i64.wrap (Int.tdiv r_1.C 2)), .int .i64 (IntKind.i64.wrap (Int.tdiv r_1.D 2))]) k_pl_89 k_zero_89 rfl (mpc rfl (mpc rfl (mpc rfl (mpc rfl mpn)))) rfl) ?_
  refine ss0 rfl rfl (Ys_store (i := 1) (s := 4) (B := some ⟨b1, 0, none⟩) (T' := 89) (v := .agg #[.int .i64 (IntKind.i64.wrap (Int.tdiv r_1.A 2)), .int .i64 (IntKind.i64.wrap (Int.tdiv r_1.B 2)), .int .i64 (IntKind.i64.wrap (Int.tdiv r_1.C 2)), .int .i64 (IntKind.i64.wrap (Int.tdiv r_1.D 2))]) (vs := [.int .i64 (IntKind.i64.wrap (Int.tdiv r_1.A 2)), .int .i64 (IntKind.i64.wrap (Int.tdiv r_1.B 2)), .int .i64 (IntKind.i64.wrap (Int.tdiv r_1.C 2)), .int .i64 (IntKind.i64.wrap (Int.tdiv r_1.D 2))]) (k := 0) (cs' := [.int .i64 (IntKind.i64.wrap (Int.tdiv r_1.A 2)), .int .i64 (IntKind.i64.wrap (Int.tdiv r_1.B 2)), .int .i64 (IntKind.i64.wrap (Int.tdiv r_1.C 2)), .int .i64 (IntKind.i64.wrap (Int.tdiv r_1.D 2))]) hS5 k_sz_89_4 rfl rfl rfl rfl rfl rfl rfl (Nat.le_of_ble_eq_true rfl) rfl rfl) ?_
  rintro _ w_5 ⟨rfl, hS6⟩
  have hS6 : ST w0 [] _ [⟨some ⟨b, 0, none⟩, 89, [.int .i64 x.A, .int .i64 x.B, .int .i64 x.C, .int .i64 x.D], 4⟩, ⟨some ⟨b1, 0, none⟩, 89, [.int .i64 (IntKind.i64.wrap (Int.tdiv r_1.A 2)), .int .i64 (IntKind.i64.wrap (Int.tdiv r_1.B 2)), .int .i64 (IntKind.i64.wrap (Int.tdiv r_1.C 2)), .int .i64 (IntKind.i64.wrap (Int.tdiv r_1.D 2))], 4⟩, ⟨some ⟨b2, 0, none⟩, 89, [.int .i64 r_1.A, .int .i64 r_1.B, .int .i64 r_1.C, .int .i64 r_1.D], 4⟩] [] := hS6
  refine rw_nil ?_
  refine cw_ret ?_
  obtain rfl := some_inj hF
  exact ret1 Try.results207 (v1 := .agg #[.int .i64 (IntKind.i64.wrap (Int.tdiv r_1.A 2)), .int .i64 (IntKind.i64.wrap (Int.tdiv r_1.B 2)), .int .i64 (IntKind.i64.wrap (Int.tdiv r_1.C 2)), .int .i64 (IntKind.i64.wrap (Int.tdiv r_1.D 2))]) (resAt_cellA (B := some ⟨b1, 0, none⟩) (i := 0) (cs := [.int .i64 (IntKind.i64.wrap (Int.tdiv r_1.A 2)), .int .i64 (IntKind.i64.wrap (Int.tdiv r_1.B 2)), .int .i64 (IntKind.i64.wrap (Int.tdiv r_1.C 2)), .int .i64 (IntKind.i64.wrap (Int.tdiv r_1.D 2))]) (vs := [.int .i64 (IntKind.i64.wrap (Int.tdiv r_1.A 2)), .int .i64 (IntKind.i64.wrap (Int.tdiv r_1.B 2)), .int .i64 (IntKind.i64.wrap (Int.tdiv r_1.C 2)), .int .i64 (IntKind.i64.wrap (Int.tdiv r_1.D 2))]) rfl k_ag_89 k_sz_89_4 (hS6.cf (i := 1) rfl) rfl rfl) ⟨rfl, (ST.subR (R' := []) (hS6.sel [] rfl rfl) (fun _ h => by cases h))⟩

theorem c_spec_l2Low (num : TRing) (exp : Int)  (w0 : World)  (hS : ST w0 [] w0 [] []) {r_ : TDyadic} (hF : F_spec_l2Low num exp = some r_) :
    CV Try.prog 177 #[.agg #[.int .i64 num.A, .int .i64 num.B, .int .i64 num.C, .int .i64 num.D], .int .i64 exp] w0 (fun v w' => v = .agg #[.int .i64 r_.Num.A, .int .i64 r_.Num.B, .int .i64 r_.Num.C, .int .i64 r_.Num.D, .int .i64 r_.Exp] ∧ ST w0 [] w' [] []) := by
  unfold F_spec_l2Low at hF
  refine cv_of_cw 18 Try.func177 rfl Try.ntmps177 rfl ?_
  refine cw_seq ?_
  refine cw_region ?_
  refine ss 2 rfl rfl (Ys_box (T := 89) (v := .agg #[.int .i64 num.A, .int .i64 num.B, .int .i64 num.C, .int .i64 num.D]) (cs := [.int .i64 num.A, .int .i64 num.B, .int .i64 num.C, .int .i64 num.D]) (m := 4) hS rfl rfl rfl rfl) ?_
  rintro _ w_ ⟨b, rfl, hS1⟩
  refine ss 4 rfl rfl (Ys_alloc (T := 91) (cs := [.int .i64 0, .int .i64 0, .int .i64 0, .int .i64 0, .int .i64 0]) (m := 5) hS1 k_zero_91 rfl rfl rfl) ?_
  rintro _ w_1 ⟨b1, rfl, hS2⟩
  have hS2 : ST w0 [] _ [⟨some ⟨b, 0, none⟩, 89, [.int .i64 num.A, .int .i64 num.B, .int .i64 num.C, .int .i64 num.D], 4⟩, ⟨some ⟨b1, 0, none⟩, 91, [.int .i64 0, .int .i64 0, .int .i64 0, .int .i64 0, .int .i64 0], 5⟩] [] := hS2
  refine rw_nil ?_
  refine cw_seq ?_
  obtain ⟨z, hz, hF1⟩ := bind_inv hF
  refine cw_block ?_
  refine cw_loop (fun k f w => ∃ (exp1 : Int) (A : Int) (B : Int) (C : Int) (D : Int), FF f [(1, .int .i64 exp1), (2, pt (some ⟨b, 0, none⟩) 0), (4, pt (some ⟨b1, 0, none⟩) 0)] ∧ ST w0 [] w [⟨some ⟨b, 0, none⟩, 89, [.int .i64 A, .int .i64 B, .int .i64 C, .int .i64 D], 4⟩, ⟨some ⟨b1, 0, none⟩, 91, [.int .i64 0, .int .i64 0, .int .i64 0, .int .i64 0, .int .i64 0], 5⟩] [] ∧ whX F_spec_l2Low_l1 k (exp1, A, B, C, D) = some z) fuel ⟨exp, num.A, num.B, num.C, num.D, (FF.cons rfl (FF.cons rfl (FF.cons rfl FF.nil))), (hS2.sel [0, 1] rfl rfl), hz⟩ ?_
  rintro k_ f w ⟨exp1, A, B, C, D, hf, hS3, hL⟩
  obtain ⟨k_1, y, rfl, hb, hL1⟩ := whX_go hL
  unfold F_spec_l2Low_l1 at hb
  refine cw_seq ?_
  refine cw_seq ?_
  refine cw_region ?_
  refine sq 5 rfl rfl (Y_move (v := .int .i64 exp1) rfl (hf.get 1 0 rfl)) ?_
  refine sq 6 rfl rfl (Y_gt (k := .i64) (a := exp1) (b := 0) rfl rfl rfl) ?_
  refine sq 7 rfl rfl (Y_move (v := .bool (decide (0 < exp1))) rfl rfl) ?_
  refine sgq 8 (B := (decide (0 < exp1))) (v := .agg #[.int .i64 A, .int .i64 B, .int .i64 C, .int .i64 D]) rfl rfl (wt_t (gd_of (t := 7) (by kernel_rfl) rfl)) (fun hg => (Y_loadA (B := some ⟨b, 0, none⟩) (i := 0) (cs := [.int .i64 A, .int .i64 B, .int .i64 C, .int .i64 D]) (vs := [.int .i64 A, .int .i64 B, .int .i64 C, .int .i64 D]) k_ag_89 k_sz_89_4 rfl (hf.get 2 1 rfl) (hS3.cf (i := 0) rfl) rfl rfl)) ?_
  obtain ⟨r_1, hc, hb⟩ := bind_inv hb
  refine sgc 9 (B := (decide (0 < exp1))) (v := .bool r_1) (F := hS3.fn) rfl rfl (wt_t (gd_of (t := 7) (by kernel_rfl) rfl)) hS3 (fun hg1 => (Yc_func (g := 176) (vs := [.agg #[.int .i64 A, .int .i64 B, .int .i64 C, .int .i64 D]]) k_call_176 rfl (mc (gv_of (B := (decide (0 < exp1))) (v := .agg #[.int .i64 A, .int .i64 B, .int .i64 C, .int .i64 D]) hg1) mn) (CV.mono (c_spec_l1Even (TRing.mk A B C D) _  (hS3.inn0 [] rfl) (gb_inv hc hg1)) (by rintro _ _ ⟨rfl, h⟩; exact ⟨rfl, hS3.out00 h⟩)))) ?_
  rintro w_2 hS4
  have hS4 : ST _ _ w_2 _ _ := hS4
  refine sq 10 rfl rfl (Y_and (b := (decide (0 < exp1))) (z := r_1) rfl rfl rfl rfl) ?_
  refine rw_nil ?_
  refine cw_cond (b := ((decide (0 < exp1)) && r_1)) rfl (fun hb1 => ?_) (fun hb1 => ?_)
  · skip
    have hF2 := ct hb hb1
    refine cw_skip ?_
    refine cw_block ?_
    refine cw_seq ?_
    refine cw_region ?_
    refine sq 11 rfl rfl (Y_loadA (B := some ⟨b, 0, none⟩) (i := 0) (cs := [.int .i64 A, .int .i64 B, .int .i64 C, .int .i64 D]) (vs := [.int .i64 A, .int .i64 B, .int .i64 C, .int .i64 D]) k_ag_89 k_sz_89_4 rfl (hf.get 2 1 rfl) (hS4.cf (i := 0) rfl) rfl rfl) ?_
    obtain ⟨r_2, hc1, hF2⟩ := bind_inv hF2
    refine sc 12 rfl rfl (Yc_func (g := 207) (vs := [.agg #[.int .i64 A, .int .i64 B, .int .i64 C, .int .i64 D]]) k_call_207 rfl (mc rfl mn) (c_spec_l1Half (TRing.mk A B C D) _  (hS4.inn0 [] rfl) hc1)) ?_
    rintro _ w_3 ⟨rfl, hd⟩
    have hS5 := hS4.out00 hd
    have hS5 : ST w0 [] _ [⟨some ⟨b, 0, none⟩, 89, [.int .i64 A, .int .i64 B, .int .i64 C, .int .i64 D], 4⟩, ⟨some ⟨b1, 0, none⟩, 91, [.int .i64 0, .int .i64 0, .int .i64 0, .int .i64 0, .int .i64 0], 5⟩] [] := hS5
    refine ss0 rfl rfl (Ys_store (i := 0) (s := 4) (B := some ⟨b, 0, none⟩) (T' := 89) (v := .agg #[.int .i64 r_2.A, .int .i64 r_2.B, .int .i64 r_2.C, .int .i64 r_2.D]) (vs := [.int .i64 r_2.A, .int .i64 r_2.B, .int .i64 r_2.C, .int .i64 r_2.D]) (k := 0) (cs' := [.int .i64 r_2.A, .int .i64 r_2.B, .int .i64 r_2.C, .int .i64 r_2.D]) hS5 k_sz_89_4 rfl (hf.get 2 1 rfl) rfl rfl rfl rfl rfl (Nat.le_of_ble_eq_true rfl) rfl rfl) ?_
    rintro _ w_4 ⟨rfl, hS6⟩
    have hS6 : ST w0 [] _ [⟨some ⟨b, 0, none⟩, 89, [.int .i64 r_2.A, .int .i64 r_2.B, .int .i64 r_2.C, .int .i64 r_2.D], 4⟩, ⟨some ⟨b1, 0, none⟩, 91, [.int .i64 0, .int .i64 0, .int .i64 0, .int .i64 0, .int .i64 0], 5⟩] [] := hS6
    refine rw_nil ?_
    refine cw_region ?_
    refine sq 13 rfl rfl (Y_move (v := .int .i64 exp1) rfl (hf.get 1 0 rfl)) ?_
    refine sq 14 rfl rfl (Y_sub (k := .i64) (a := exp1) (b := 1) rfl rfl rfl) ?_
    refine sq 1 rfl rfl (Y_assign (v := .int .i64 (IntKind.i64.wrap (exp1 - 1))) rfl rfl) ?_
    refine rw_nil ?_
    obtain rfl := some_inj hF2
    exact ⟨k_1, Nat.lt_succ_self _, (IntKind.i64.wrap (exp1 - 1)), r_2.A, r_2.B, r_2.C, r_2.D, (FF.cons rfl (FF.cons (hf.get 2 1 rfl) (FF.cons (hf.get 4 2 rfl) FF.nil))), (hS6.sel [0, 1] rfl rfl), hL1⟩
  · skip
    have hF3 := cf' hb hb1
    refine cw_exit rfl ?_
    obtain rfl := some_inj hF3
    obtain rfl := some_inj hL1
    refine cw_seq ?_
    refine cw_region ?_
    refine sq 15 rfl rfl (Y_loadA (B := some ⟨b, 0, none⟩) (i := 0) (cs := [.int .i64 A, .int .i64 B, .int .i64 C, .int .i64 D]) (vs := [.int .i64 A, .int .i64 B, .int .i64 C, .int .i64 D]) k_ag_89 k_sz_89_4 rfl (hf.get 2 1 rfl) (hS4.cf (i := 0) rfl) rfl rfl) ?_
    refine sq 16 rfl rfl (Y_move (v := .int .i64 exp1) rfl (hf.get 1 0 rfl)) ?_
    refine sq 17 rfl rfl (Y_buildS (zs := [.int .i64 0, .int .i64 0, .int .i64 0, .int .i64 0, .int .i64 0]) (vs := [(0, .agg #[.int .i64 A, .int .i64 B, .int .i64 C, .int .i64 D]), (1, .int .i64 exp1)]) (cs := [.int .i64 A, .int .i64 B, .int .i64 C, .int .i64 D, .int .i64 exp1]) k_pl_91 k_zero_91 rfl (mpc rfl (mpc rfl mpn)) rfl) ?_
    refine ss0 rfl rfl (Ys_store (i := 1) (s := 5) (B := some ⟨b1, 0, none⟩) (T' := 91) (v := .agg #[.int .i64 A, .int .i64 B, .int .i64 C, .int .i64 D, .int .i64 exp1]) (vs := [.int .i64 A, .int .i64 B, .int .i64 C, .int .i64 D, .int .i64 exp1]) (k := 0) (cs' := [.int .i64 A, .int .i64 B, .int .i64 C, .int .i64 D, .int .i64 exp1]) hS4 k_sz_91_5 rfl (hf.get 4 2 rfl) rfl rfl rfl rfl rfl (Nat.le_of_ble_eq_true rfl) rfl rfl) ?_
    rintro _ w_5 ⟨rfl, hS7⟩
    have hS7 : ST w0 [] _ [⟨some ⟨b, 0, none⟩, 89, [.int .i64 A, .int .i64 B, .int .i64 C, .int .i64 D], 4⟩, ⟨some ⟨b1, 0, none⟩, 91, [.int .i64 A, .int .i64 B, .int .i64 C, .int .i64 D, .int .i64 exp1], 5⟩] [] := hS7
    refine rw_nil ?_
    refine cw_ret ?_
    obtain rfl := some_inj hF1
    exact ret1 Try.results177 (v1 := .agg #[.int .i64 A, .int .i64 B, .int .i64 C, .int .i64 D, .int .i64 exp1]) (resAt_cellA (B := some ⟨b1, 0, none⟩) (i := 0) (cs := [.int .i64 A, .int .i64 B, .int .i64 C, .int .i64 D, .int .i64 exp1]) (vs := [.int .i64 A, .int .i64 B, .int .i64 C, .int .i64 D, .int .i64 exp1]) (hf.get 4 2 rfl) k_ag_91 k_sz_91_5 (hS7.cf (i := 1) rfl) rfl rfl) ⟨rfl, (ST.subR (R' := []) (hS7.sel [] rfl rfl) (fun _ h => by cases h))⟩

theorem c_spec_l1In (n : Int) (lo : Int) (hi : Int)  (w0 : World)  (hS : ST w0 [] w0 [] []) {r_ : Bool} (hF : F_spec_l1In n lo hi = some r_) :
    CV Try.prog 140 #[.int .i64 n, .int .i64 lo, .int .i64 hi] w0 (fun v w' => v = .bool r_ ∧ ST w0 [] w' [] []) := by
  unfold F_spec_l1In at hF
  refine cv_of_cw 15 Try.func140 rfl Try.ntmps140 rfl ?_
  refine cw_seq ?_
  refine cw_region ?_
  refine sq 6 rfl rfl (Y_assign (v := .bool false) rfl rfl) ?_
  refine rw_nil ?_
  refine cw_seq ?_
  refine cw_region ?_
  refine sq 7 rfl rfl (Y_move (v := .int .i64 n) rfl rfl) ?_
  refine sq 8 rfl rfl (Y_move (v := .int .i64 lo) rfl rfl) ?_
  refine sq 9 rfl rfl (Y_ge (k := .i64) (a := n) (b := lo) rfl rfl rfl) ?_
  refine sq 10 rfl rfl (Y_move (v := .bool (decide (lo ≤ n))) rfl rfl) ?_
  refine sgq 11 (B := (decide (lo ≤ n))) (v := .int .i64 n) rfl rfl (wt_t (gd_of (t := 10) (by kernel_rfl) rfl)) (fun hg => (Y_move (v := .int .i64 n) rfl rfl)) ?_
  refine sgq 12 (B := (decide (lo ≤ n))) (v := .int .i64 hi) rfl rfl (wt_t (gd_of (t := 10) (by kernel_rfl) rfl)) (fun hg1 => (Y_move (v := .int .i64 hi) rfl rfl)) ?_
  refine sgq 13 (B := (decide (lo ≤ n))) (v := .bool (decide (n ≤ hi))) rfl rfl (wt_t (gd_of (t := 10) (by kernel_rfl) rfl)) (fun hg2 => (Y_le (k := .i64) (a := n) (b := hi) rfl (gv_of (B := (decide (lo ≤ n))) (v := .int .i64 n) hg2) (gv_of (B := (decide (lo ≤ n))) (v := .int .i64 hi) hg2))) ?_
  refine sq 14 rfl rfl (Y_and (b := (decide (lo ≤ n))) (z := (decide (n ≤ hi))) rfl rfl rfl rfl) ?_
  refine sq 6 rfl rfl (Y_assign (v := .bool ((decide (lo ≤ n)) && (decide (n ≤ hi)))) rfl rfl) ?_
  refine rw_nil ?_
  refine cw_ret ?_
  obtain rfl := some_inj hF
  exact ret1 Try.results140 (v1 := .bool ((decide (lo ≤ n)) && (decide (n ≤ hi)))) (resAt_tmp rfl) ⟨rfl, (ST.subR (R' := []) (hS.sel [] rfl rfl) (fun _ h => by cases h))⟩

theorem c_spec_l1All (l : List Int) (lo : Int) (hi : Int) (B : Option Addr) (c n : Nat) (w0 : World) (hn : l.length = n) (hS : ST w0 [] w0 [] [⟨B, (l.flatMap encI)⟩]) {r_ : Bool} (hF : F_spec_l1All l lo hi = some r_) :
    CV Try.prog 191 #[.slice B n c, .int .i64 lo, .int .i64 hi] w0 (fun v w' => v = .bool r_ ∧ ST w0 [] w' [] []) := by
  subst hn
  unfold F_spec_l1All at hF
  refine cv_of_cw 21 Try.func191 rfl Try.ntmps191 rfl ?_
  refine cw_seq ?_
  refine cw_region ?_
  refine sq 6 rfl rfl (Y_assign (v := .bool false) rfl rfl) ?_
  refine rw_nil ?_
  refine cw_seq ?_
  refine cw_seq ?_
  refine cw_region ?_
  refine sq 9 rfl rfl (Y_move (v := .slice B l.length c) rfl rfl) ?_
  refine sq 10 rfl rfl (Y_len (B := B) (m := l.length) (c := c) k_sl_34_3 rfl rfl) ?_
  refine sq 11 rfl rfl (Y_move (v := .int .i64 0) rfl rfl) ?_
  refine rw_nil ?_
  obtain ⟨hN, hF⟩ := chk_inv hF
  obtain ⟨z, hz, hF1⟩ := bind_inv hF
  refine cw_block ?_
  refine cw_loop (fun k f w => ∃ (i : Nat), FF f [(1, .int .i64 lo), (2, .int .i64 hi), (9, .slice B l.length c), (10, .int .i64 (l.length : Int)), (11, .int .i64 (i : Int))] ∧ ST w0 [] w [] [⟨B, (l.flatMap encI)⟩] ∧ i + k = l.length ∧ forX (F_spec_l1All_l1 l lo hi) k i () = some z) l.length ⟨0, (FF.cons rfl (FF.cons rfl (FF.cons rfl (FF.cons rfl (FF.cons rfl FF.nil))))), (hS.sel [] rfl rfl), Nat.zero_add _, hz⟩ ?_
  rintro k_ f w ⟨i, hf, hS1, hik, hL⟩
  refine cw_seq ?_
  refine cw_region ?_
  refine sq 12 rfl rfl (Y_lt (k := .i64) (a := (i : Int)) (b := (l.length : Int)) rfl (hf.get 11 4 rfl) (hf.get 10 3 rfl)) ?_
  refine rw_nil ?_
  refine cw_seq ?_
  refine cw_cond (b := (decide ((i : Int) < (l.length : Int)))) rfl (fun hlt => ?_) (fun hlt => ?_)
  · skip
    have hlt1 : i < l.length := by have h := of_decide_eq_true hlt; omega
    obtain ⟨k_1, rfl⟩ : ∃ k2, k_ = k2 + 1 := ⟨k_ - 1, by omega⟩
    obtain ⟨y, hb, hL1⟩ := forX_go hL
    unfold F_spec_l1All_l1 at hb
    refine cw_skip ?_
    refine cw_seq ?_
    refine cw_block ?_
    refine cw_seq ?_
    refine cw_region ?_
    obtain ⟨x, hx, hb⟩ := bind_inv hb
    refine sq 13 rfl rfl (Y_index (B := B) (m := l.length) (c := c) (k := .i64) (i := (i : Int)) k_sl_34_3 k_sz_3_1 rfl (hf.get 9 2 rfl) (hf.get 11 4 rfl) (gi_isSome encI_len rfl (hS1.rf (i := 0) rfl) hx) (getI_nn hx) (getI_ltI hx rfl)) ?_
    refine sq 14 rfl rfl (Y_load1 (B := B) (i := (i : Int).toNat * 1) (cs := (l.flatMap encI)) (v := .int .i64 x) k_sc_3 rfl rfl (hS1.rf (i := 0) rfl) (gi_at0 encI_len hx rfl)) ?_
    refine sq 8 rfl rfl (Y_assign (v := .int .i64 x) rfl rfl) ?_
    refine rw_nil ?_
    refine cw_seq ?_
    refine cw_region ?_
    refine sq 15 rfl rfl (Y_move (v := .int .i64 x) rfl rfl) ?_
    refine sq 16 rfl rfl (Y_move (v := .int .i64 lo) rfl (hf.get 1 0 rfl)) ?_
    refine sq 17 rfl rfl (Y_move (v := .int .i64 hi) rfl (hf.get 2 1 rfl)) ?_
    obtain ⟨r_1, hc, hb⟩ := bind_inv hb
    refine sc 18 rfl rfl (Yc_func (g := 140) (vs := [.int .i64 x, .int .i64 lo, .int .i64 hi]) k_call_140 rfl (mc rfl (mc rfl (mc rfl mn))) (c_spec_l1In x lo hi _  (hS1.inn0 [] rfl) hc)) ?_
    rintro _ w_ ⟨rfl, hd⟩
    have hS2 := hS1.out00 hd
    refine sq 19 rfl rfl (Y_not (p := r_1) rfl rfl) ?_
    refine rw_nil ?_
    refine cw_cond (b := (!r_1)) rfl (fun hb1 => ?_) (fun hb1 => ?_)
    · skip
      have hF2 := ct hb hb1
      refine cw_seq ?_
      refine cw_region ?_
      refine sq 6 rfl rfl (Y_assign (v := .bool false) rfl rfl) ?_
      refine rw_nil ?_
      refine cw_ret ?_
      obtain rfl := some_inj hF2
      obtain rfl := some_inj hL1
      obtain rfl := some_inj hF1
      exact ret1 Try.results191 (v1 := .bool false) (resAt_tmp rfl) ⟨rfl, (ST.subR (R' := []) (hS2.sel [] rfl rfl) (fun _ h => by cases h))⟩
    · skip
      have hF3 := cf' hb hb1
      refine cw_skip ?_
      refine cw_region ?_
      refine sq 20 rfl rfl (Y_add (k := .i64) (a := (i : Int)) (b := 1) rfl (hf.get 11 4 rfl) rfl) ?_
      refine sq 11 rfl rfl (Y_move (v := .int .i64 (IntKind.i64.wrap ((i : Int) + 1))) rfl rfl) ?_
      refine rw_nil ?_
      obtain rfl := some_inj hF3
      exact ⟨k_1, Nat.lt_succ_self _, i + 1, (FF.cons (hf.get 1 0 rfl) (FF.cons (hf.get 2 1 rfl) (FF.cons (hf.get 9 2 rfl) (FF.cons (hf.get 10 3 rfl) (FF.cons (congrArg (Value.int .i64) (wr_succ hlt1 hN)) FF.nil))))), (hS2.sel [] rfl rfl), (by omega), hL1⟩
  · skip
    obtain rfl : k_ = 0 := by have h := of_decide_eq_false hlt; omega
    refine cw_exit rfl ?_
    obtain rfl := some_inj hL
    refine cw_seq ?_
    refine cw_region ?_
    refine sq 6 rfl rfl (Y_assign (v := .bool true) rfl rfl) ?_
    refine rw_nil ?_
    refine cw_ret ?_
    obtain rfl := some_inj hF1
    exact ret1 Try.results191 (v1 := .bool true) (resAt_tmp rfl) ⟨rfl, (ST.subR (R' := []) (hS1.sel [] rfl rfl) (fun _ h => by cases h))⟩

theorem c_spec_l1Good (x : TRing)  (w0 : World)  (hS : ST w0 [] w0 [] []) {r_ : Bool} (hF : F_spec_l1Good x = some r_) :
    CV Try.prog 175 #[.agg #[.int .i64 x.A, .int .i64 x.B, .int .i64 x.C, .int .i64 x.D]] w0 (fun v w' => v = .bool r_ ∧ ST w0 [] w' [] []) := by
  unfold F_spec_l1Good at hF
  refine cv_of_cw 13 Try.func175 rfl Try.ntmps175 rfl ?_
  refine cw_seq ?_
  refine cw_region ?_
  refine ss 1 rfl rfl (Ys_box (T := 89) (v := .agg #[.int .i64 x.A, .int .i64 x.B, .int .i64 x.C, .int .i64 x.D]) (cs := [.int .i64 x.A, .int .i64 x.B, .int .i64 x.C, .int .i64 x.D]) (m := 4) hS rfl rfl rfl rfl) ?_
  rintro _ w_ ⟨b, rfl, hS1⟩
  refine sq 2 rfl rfl (Y_assign (v := .bool false) rfl rfl) ?_
  refine rw_nil ?_
  refine cw_seq ?_
  refine cw_region ?_
  refine sq 3 rfl rfl (Y_fieldAddr (B := some ⟨b, 0, none⟩) (i := 0) (s := 0) k_fd_89_0_0_3 k_sz_3_1 rfl rfl) ?_
  refine sq 4 rfl rfl (Y_load1 (B := some ⟨b, 0, none⟩) (i := 0) (cs := [.int .i64 x.A, .int .i64 x.B, .int .i64 x.C, .int .i64 x.D]) (v := .int .i64 x.A) k_sc_3 rfl rfl (hS1.cf (i := 0) rfl) rfl) ?_
  refine sq 5 rfl rfl (Y_fieldAddr (B := some ⟨b, 0, none⟩) (i := 0) (s := 0) k_fd_89_1_1_3 k_sz_3_1 rfl rfl) ?_
  refine sq 6 rfl rfl (Y_load1 (B := some ⟨b, 0, none⟩) (i := 1) (cs := [.int .i64 x.A, .int .i64 x.B, .int .i64 x.C, .int .i64 x.D]) (v := .int .i64 x.B) k_sc_3 rfl rfl (hS1.cf (i := 0) rfl) rfl) ?_
  refine sq 7 rfl rfl (Y_fieldAddr (B := some ⟨b, 0, none⟩) (i := 0) (s := 0) k_fd_89_2_2_3 k_sz_3_1 rfl rfl) ?_
  refine sq 8 rfl rfl (Y_load1 (B := some ⟨b, 0, none⟩) (i := 2) (cs := [.int .i64 x.A, .int .i64 x.B, .int .i64 x.C, .int .i64 x.D]) (v := .int .i64 x.C) k_sc_3 rfl rfl (hS1.cf (i := 0) rfl) rfl) ?_
  refine sq 9 rfl rfl (Y_fieldAddr (B := some ⟨b, 0, none⟩) (i := 0) (s := 0) k_fd_89_3_3_3 k_sz_3_1 rfl rfl) ?_
  refine sq 10 rfl rfl (Y_load1 (B := some ⟨b, 0, none⟩) (i := 3) (cs := [.int .i64 x.A, .int .i64 x.B, .int .i64 x.C, .int .i64 x.D]) (v := .int .i64 x.D) k_sc_3 rfl rfl (hS1.cf (i := 0) rfl) rfl) ?_
  refine ss 11 rfl rfl (Ys_bslice (s := 1) (len := 4) (vs := [(0, .int .i64 x.A), (1, .int .i64 x.B), (2, .int .i64 x.C), (3, .int .i64 x.D)]) (cs := [.int .i64 x.A, .int .i64 x.B, .int .i64 x.C, .int .i64 x.D]) (zs := [.int .i64 0, .int .i64 0, .int .i64 0, .int .i64 0]) (m := 4) hS1 k_sl_34_3 k_sz_3_1 k_zc_3 rfl (mpc rfl (mpc rfl (mpc rfl (mpc rfl mpn)))) rfl rfl rfl rfl rfl rfl) ?_
  rintro _ w_1 ⟨b1, rfl, hS2⟩
  have hS2 : ST w0 [] _ [⟨some ⟨b, 0, none⟩, 89, [.int .i64 x.A, .int .i64 x.B, .int .i64 x.C, .int .i64 x.D], 4⟩, ⟨some ⟨b1, 0, none⟩, 3, ([x.A, x.B, x.C, x.D].flatMap encI), 4 * 1⟩] [] := hS2
  obtain ⟨r_1, hc, hF⟩ := bind_inv hF
  refine sc 12 rfl rfl (Yc_func (g := 191) (vs := [.slice (some ⟨b1, 0, none⟩) 4 4, .int .i64 (-1000000000), .int .i64 1000000000]) k_call_191 rfl (mc rfl (mc rfl (mc rfl mn))) (c_spec_l1All [x.A, x.B, x.C, x.D] (-1000000000) 1000000000 (some ⟨b1, 0, none⟩) 4 4 _ rfl (hS2.inn0 [(false, 1)] rfl) hc)) ?_
  rintro _ w_2 ⟨rfl, hd⟩
  have hS3 := hS2.out00 hd
  have hS3 : ST w0 [] _ [⟨some ⟨b, 0, none⟩, 89, [.int .i64 x.A, .int .i64 x.B, .int .i64 x.C, .int .i64 x.D], 4⟩, ⟨some ⟨b1, 0, none⟩, 3, ([x.A, x.B, x.C, x.D].flatMap encI), 4 * 1⟩] [] := hS3
  refine sq 2 rfl rfl (Y_assign (v := .bool r_1) rfl rfl) ?_
  refine rw_nil ?_
  refine cw_ret ?_
  obtain rfl := some_inj hF
  exact ret1 Try.results175 (v1 := .bool r_1) (resAt_tmp rfl) ⟨rfl, (ST.subR (R' := []) (hS3.sel [] rfl rfl) (fun _ h => by cases h))⟩

theorem c_spec_l2C_ring (c : Tl2C) (x : TRing) (B : Option Addr) (w0 : World)  (hS : ST w0 (bl [⟨B, 126, [.bool c.bad], 1⟩]) w0 [⟨B, 126, [.bool c.bad], 1⟩] []) {r_ : TRing} {m : Tl2C} (hF : F_spec_l2C_ring c x = some (r_, m)) :
    CV Try.prog 178 #[pt B 0, .agg #[.int .i64 x.A, .int .i64 x.B, .int .i64 x.C, .int .i64 x.D]] w0 (fun v w' => v = .agg #[.int .i64 r_.A, .int .i64 r_.B, .int .i64 r_.C, .int .i64 r_.D] ∧ ST w0 (bl [⟨B, 126, [.bool c.bad], 1⟩]) w' [⟨B, 126, [.bool m.bad], 1⟩] []) := by
  unfold F_spec_l2C_ring at hF
  refine cv_of_cw 13 Try.func178 rfl Try.ntmps178 rfl ?_
  refine cw_seq ?_
  refine cw_region ?_
  refine ss 3 rfl rfl (Ys_box (T := 89) (v := .agg #[.int .i64 x.A, .int .i64 x.B, .int .i64 x.C, .int .i64 x.D]) (cs := [.int .i64 x.A, .int .i64 x.B, .int .i64 x.C, .int .i64 x.D]) (m := 4) hS rfl rfl rfl rfl) ?_
  rintro _ w_ ⟨b, rfl, hS1⟩
  have hS1 : ST w0 (bl [⟨B, 126, [.bool c.bad], 1⟩]) _ [⟨B, 126, [.bool c.bad], 1⟩, ⟨some ⟨b, 0, none⟩, 89, [.int .i64 x.A, .int .i64 x.B, .int .i64 x.C, .int .i64 x.D], 4⟩] [] := hS1
  refine ss 4 rfl rfl (Ys_alloc (T := 89) (cs := [.int .i64 0, .int .i64 0, .int .i64 0, .int .i64 0]) (m := 4) hS1 k_zero_89 rfl rfl rfl) ?_
  rintro _ w_1 ⟨b1, rfl, hS2⟩
  have hS2 : ST w0 (bl [⟨B, 126, [.bool c.bad], 1⟩]) _ [⟨B, 126, [.bool c.bad], 1⟩, ⟨some ⟨b, 0, none⟩, 89, [.int .i64 x.A, .int .i64 x.B, .int .i64 x.C, .int .i64 x.D], 4⟩, ⟨some ⟨b1, 0, none⟩, 89, [.int .i64 0, .int .i64 0, .int .i64 0, .int .i64 0], 4⟩] [] := hS2
  refine rw_nil ?_
  refine cw_seq ?_
  refine cw_seq ?_
  refine cw_region ?_
  refine sq 5 rfl rfl (Y_loadA (B := some ⟨b, 0, none⟩) (i := 0) (cs := [.int .i64 x.A, .int .i64 x.B, .int .i64 x.C, .int .i64 x.D]) (vs := [.int .i64 x.A, .int .i64 x.B, .int .i64 x.C, .int .i64 x.D]) k_ag_89 k_sz_89_4 rfl rfl (hS2.cf (i := 1) rfl) rfl rfl) ?_
  obtain ⟨r_1, hc, hF⟩ := bind_inv hF
  refine sc 6 rfl rfl (Yc_func (g := 175) (vs := [.agg #[.int .i64 x.A, .int .i64 x.B, .int .i64 x.C, .int .i64 x.D]]) k_call_175 rfl (mc rfl mn) (c_spec_l1Good x _  (hS2.inn0 [] rfl) hc)) ?_
  rintro _ w_2 ⟨rfl, hd⟩
  have hS3 := hS2.out00 hd
  have hS3 : ST w0 (bl [⟨B, 126, [.bool c.bad], 1⟩]) _ [⟨B, 126, [.bool c.bad], 1⟩, ⟨some ⟨b, 0, none⟩, 89, [.int .i64 x.A, .int .i64 x.B, .int .i64 x.C, .int .i64 x.D], 4⟩, ⟨some ⟨b1, 0, none⟩, 89, [.int .i64 0, .int .i64 0, .int .i64 0, .int .i64 0], 4⟩] [] := hS3
  refine sq 7 rfl rfl (Y_not (p := r_1) rfl rfl) ?_
  refine rw_nil ?_
  refine cw_cond (b := (!r_1)) rfl (fun hb => ?_) (fun hb => ?_)
  · skip
    have hF1 := ct hF hb
    refine cw_seq ?_
    refine cw_region ?_
    refine sq 8 rfl rfl (Y_move (v := pt B 0) rfl rfl) ?_
    refine sq 9 rfl rfl (Y_nilCheck (B := B) (i := 0) rfl rfl) ?_
    refine sq 10 rfl rfl (Y_fieldAddr (B := B) (i := 0) (s := 0) k_fd_126_0_0_4 k_sz_4_1 rfl rfl) ?_
    refine ss0 rfl rfl (Ys_store (i := 0) (s := 1) (B := B) (T' := 126) (v := .bool true) (vs := [.bool true]) (k := 0) (cs' := [.bool true]) hS3 k_sz_4_1 rfl rfl rfl rfl rfl rfl rfl (Nat.le_of_ble_eq_true rfl) rfl rfl) ?_
    rintro _ w_3 ⟨rfl, hS4⟩
    have hS4 : ST w0 (bl [⟨B, 126, [.bool c.bad], 1⟩]) _ [⟨B, 126, [.bool true], 1⟩, ⟨some ⟨b, 0, none⟩, 89, [.int .i64 x.A, .int .i64 x.B, .int .i64 x.C, .int .i64 x.D], 4⟩, ⟨some ⟨b1, 0, none⟩, 89, [.int .i64 0, .int .i64 0, .int .i64 0, .int .i64 0], 4⟩] [] := hS4
    refine rw_nil ?_
    refine cw_seq ?_
    refine cw_region ?_
    refine sq 11 rfl rfl (Y_buildS (zs := [.int .i64 0, .int .i64 0, .int .i64 0, .int .i64 0]) (vs := []) (cs := [.int .i64 0, .int .i64 0, .int .i64 0, .int .i64 0]) k_pl_89 k_zero_89 rfl mpn rfl) ?_
    refine ss0 rfl rfl (Ys_store (i := 2) (s := 4) (B := some ⟨b1, 0, none⟩) (T' := 89) (v := .agg #[.int .i64 0, .int .i64 0, .int .i64 0, .int .i64 0]) (vs := [.int .i64 0, .int .i64 0, .int .i64 0, .int .i64 0]) (k := 0) (cs' := [.int .i64 0, .int .i64 0, .int .i64 0, .int .i64 0]) hS4 k_sz_89_4 rfl rfl rfl rfl rfl rfl rfl (Nat.le_of_ble_eq_true rfl) rfl rfl) ?_
    rintro _ w_4 ⟨rfl, hS5⟩
    have hS5 : ST w0 (bl [⟨B, 126, [.bool c.bad], 1⟩]) _ [⟨B, 126, [.bool true], 1⟩, ⟨some ⟨b, 0, none⟩, 89, [.int .i64 x.A, .int .i64 x.B, .int .i64 x.C, .int .i64 x.D], 4⟩, ⟨some ⟨b1, 0, none⟩, 89, [.int .i64 0, .int .i64 0, .int .i64 0, .int .i64 0], 4⟩] [] := hS5
    refine rw_nil ?_
    refine cw_ret ?_
    obtain ⟨rfl, rfl⟩ := pr2 (some_inj hF1)
    exact ret1 Try.results178 (v1 := .agg #[.int .i64 0, .int .i64 0, .int .i64 0, .int .i64 0]) (resAt_cellA (B := some ⟨b1, 0, none⟩) (i := 0) (cs := [.int .i64 0, .int .i64 0, .int .i64 0, .int .i64 0]) (vs := [.int .i64 0, .int .i64 0, .int .i64 0, .int .i64 0]) rfl k_ag_89 k_sz_89_4 (hS5.cf (i := 2) rfl) rfl rfl) ⟨rfl, (ST.subR (R' := []) (hS5.sel [0] rfl rfl) (fun _ h => by cases h))⟩
  · skip
    have hF2 := cf' hF hb
    refine cw_skip ?_
    refine cw_seq ?_
    refine cw_region ?_
    refine sq 12 rfl rfl (Y_loadA (B := some ⟨b, 0, none⟩) (i := 0) (cs := [.int .i64 x.A, .int .i64 x.B, .int .i64 x.C, .int .i64 x.D]) (vs := [.int .i64 x.A, .int .i64 x.B, .int .i64 x.C, .int .i64 x.D]) k_ag_89 k_sz_89_4 rfl rfl (hS3.cf (i := 1) rfl) rfl rfl) ?_
    refine ss0 rfl rfl (Ys_store (i := 2) (s := 4) (B := some ⟨b1, 0, none⟩) (T' := 89) (v := .agg #[.int .i64 x.A, .int .i64 x.B, .int .i64 x.C, .int .i64 x.D]) (vs := [.int .i64 x.A, .int .i64 x.B, .int .i64 x.C, .int .i64 x.D]) (k := 0) (cs' := [.int .i64 x.A, .int .i64 x.B, .int .i64 x.C, .int .i64 x.D]) hS3 k_sz_89_4 rfl rfl rfl rfl rfl rfl rfl (Nat.le_of_ble_eq_true rfl) rfl rfl) ?_
    rintro _ w_5 ⟨rfl, hS6⟩
    have hS6 : ST w0 (bl [⟨B, 126, [.bool c.bad], 1⟩]) _ [⟨B, 126, [.bool c.bad], 1⟩, ⟨some ⟨b, 0, none⟩, 89, [.int .i64 x.A, .int .i64 x.B, .int .i64 x.C, .int .i64 x.D], 4⟩, ⟨some ⟨b1, 0, none⟩, 89, [.int .i64 x.A, .int .i64 x.B, .int .i64 x.C, .int .i64 x.D], 4⟩] [] := hS6
    refine rw_nil ?_
    refine cw_ret ?_
    obtain ⟨rfl, rfl⟩ := pr2 (some_inj hF2)
    exact ret1 Try.results178 (v1 := .agg #[.int .i64 x.A, .int .i64 x.B, .int .i64 x.C, .int .i64 x.D]) (resAt_cellA (B := some ⟨b1, 0, none⟩) (i := 0) (cs := [.int .i64 x.A, .int .i64 x.B, .int .i64 x.C, .int .i64 x.D]) (vs := [.int .i64 x.A, .int .i64 x.B, .int .i64 x.C, .int .i64 x.D]) rfl k_ag_89 k_sz_89_4 (hS6.cf (i := 2) rfl) rfl rfl) ⟨rfl, (ST.subR (R' := []) (hS6.sel [0] rfl rfl) (fun _ h => by cases h))⟩

theorem c_spec_l1Mul (x : TRing) (y : TRing)  (w0 : World)  (hS : ST w0 [] w0 [] []) {r_ : TRing} (hF : F_spec_l1Mul x y = some r_) :
    CV Try.prog 179 #[.agg #[.int .i64 x.A, .int .i64 x.B, .int .i64 x.C, .int .i64 x.D], .agg #[.int .i64 y.A, .int .i64 y.B, .int .i64 y.C, .int .i64 y.D]] w0 (fun v w' => v = .agg #[.int .i64 r_.A, .int .i64 r_.B, .int .i64 r_.C, .int .i64 r_.D] ∧ ST w0 [] w' [] []) := by
  unfold F_spec_l1Mul at hF
  refine cv_of_cw 98 Try.func179 rfl Try.ntmps179 rfl ?_
  refine cw_seq ?_
  refine cw_region ?_
  refine ss 2 rfl rfl (Ys_box (T := 89) (v := .agg #[.int .i64 x.A, .int .i64 x.B, .int .i64 x.C, .int .i64 x.D]) (cs := [.int .i64 x.A, .int .i64 x.B, .int .i64 x.C, .int .i64 x.D]) (m := 4) hS rfl rfl rfl rfl) ?_
  rintro _ w_ ⟨b, rfl, hS1⟩
  refine ss 3 rfl rfl (Ys_box (T := 89) (v := .agg #[.int .i64 y.A, .int .i64 y.B, .int .i64 y.C, .int .i64 y.D]) (cs := [.int .i64 y.A, .int .i64 y.B, .int .i64 y.C, .int .i64 y.D]) (m := 4) hS1 rfl rfl rfl rfl) ?_
  rintro _ w_1 ⟨b1, rfl, hS2⟩
  have hS2 : ST w0 [] _ [⟨some ⟨b, 0, none⟩, 89, [.int .i64 x.A, .int .i64 x.B, .int .i64 x.C, .int .i64 x.D], 4⟩, ⟨some ⟨b1, 0, none⟩, 89, [.int .i64 y.A, .int .i64 y.B, .int .i64 y.C, .int .i64 y.D], 4⟩] [] := hS2
  refine ss 4 rfl rfl (Ys_alloc (T := 89) (cs := [.int .i64 0, .int .i64 0, .int .i64 0, .int .i64 0]) (m := 4) hS2 k_zero_89 rfl rfl rfl) ?_
  rintro _ w_2 ⟨b2, rfl, hS3⟩
  have hS3 : ST w0 [] _ [⟨some ⟨b, 0, none⟩, 89, [.int .i64 x.A, .int .i64 x.B, .int .i64 x.C, .int .i64 x.D], 4⟩, ⟨some ⟨b1, 0, none⟩, 89, [.int .i64 y.A, .int .i64 y.B, .int .i64 y.C, .int .i64 y.D], 4⟩, ⟨some ⟨b2, 0, none⟩, 89, [.int .i64 0, .int .i64 0, .int .i64 0, .int .i64 0], 4⟩] [] := hS3
  refine rw_nil ?_
  refine cw_seq ?_
  refine cw_region ?_
  refine sq 5 rfl rfl (Y_fieldAddr (B := some ⟨b, 0, none⟩) (i := 0) (s := 0) k_fd_89_0_0_3 k_sz_3_1 rfl rfl) ?_
  refine sq 6 rfl rfl (Y_load1 (B := some ⟨b, 0, none⟩) (i := 0) (cs := [.int .i64 x.A, .int .i64 x.B, .int .i64 x.C, .int .i64 x.D]) (v := .int .i64 x.A) k_sc_3 rfl rfl (hS3.cf (i := 0) rfl) rfl) ?_
  refine sq 7 rfl rfl (Y_fieldAddr (B := some ⟨b1, 0, none⟩) (i := 0) (s := 0) k_fd_89_0_0_3 k_sz_3_1 rfl rfl) ?_
  refine sq 8 rfl rfl (Y_load1 (B := some ⟨b1, 0, none⟩) (i := 0) (cs := [.int .i64 y.A, .int .i64 y.B, .int .i64 y.C, .int .i64 y.D]) (v := .int .i64 y.A) k_sc_3 rfl rfl (hS3.cf (i := 1) rfl) rfl) ?_
  refine sq 9 rfl rfl (Y_mul (k := .i64) (a := x.A) (b := y.A) rfl rfl rfl) ?_
  refine sq 10 rfl rfl (Y_fieldAddr (B := some ⟨b, 0, none⟩) (i := 0) (s := 0) k_fd_89_1_1_3 k_sz_3_1 rfl rfl) ?_
  refine sq 11 rfl rfl (Y_load1 (B := some ⟨b, 0, none⟩) (i := 1) (cs := [.int .i64 x.A, .int .i64 x.B, .int .i64 x.C, .int .i64 x.D]) (v := .int .i64 x.B) k_sc_3 rfl rfl (hS3.cf (i := 0) rfl) rfl) ?_
  refine sq 12 rfl rfl (Y_fieldAddr (B := some ⟨b1, 0, none⟩) (i := 0) (s := 0) k_fd_89_3_3_3 k_sz_3_1 rfl rfl) ?_
  refine sq 13 rfl rfl (Y_load1 (B := some ⟨b1, 0, none⟩) (i := 3) (cs := [.int .i64 y.A, .int .i64 y.B, .int .i64 y.C, .int .i64 y.D]) (v := .int .i64 y.D) k_sc_3 rfl rfl (hS3.cf (i := 1) rfl) rfl) ?_
  refine sq 14 rfl rfl (Y_mul (k := .i64) (a := x.B) (b := y.D) rfl rfl rfl) ?_
  refine sq 15 rfl rfl (Y_sub (k := .i64) (a := (IntKind.i64.wrap (x.A * y.A))) (b := (IntKind.i64.wrap (x.B * y.D))) rfl rfl rfl) ?_
  refine sq 16 rfl rfl (Y_fieldAddr (B := some ⟨b, 0, none⟩) (i := 0) (s := 0) k_fd_89_2_2_3 k_sz_3_1 rfl rfl) ?_
  refine sq 17 rfl rfl (Y_load1 (B := some ⟨b, 0, none⟩) (i := 2) (cs := [.int .i64 x.A, .int .i64 x.B, .int .i64 x.C, .int .i64 x.D]) (v := .int .i64 x.C) k_sc_3 rfl rfl (hS3.cf (i := 0) rfl) rfl) ?_
  refine sq 18 rfl rfl (Y_fieldAddr (B := some ⟨b1, 0, none⟩) (i := 0) (s := 0) k_fd_89_2_2_3 k_sz_3_1 rfl rfl) ?_
  refine sq 19 rfl rfl (Y_load1 (B := some ⟨b1, 0, none⟩) (i := 2) (cs := [.int .i64 y.A, .int .i64 y.B, .int .i64 y.C, .int .i64 y.D]) (v := .int .i64 y.C) k_sc_3 rfl rfl (hS3.cf (i := 1) rfl) rfl) ?_
  refine sq 20 rfl rfl (Y_mul (k := .i64) (a := x.C) (b := y.C) rfl rfl rfl) ?_
  refine sq 21 rfl rfl (Y_sub (k := .i64) (a := (IntKind.i64.wrap ((IntKind.i64.wrap (x.A * y.A)) - (IntKind.i64.wrap (x.B * y.D))))) (b := (IntKind.i64.wrap (x.C * y.C))) rfl rfl rfl) ?_
  refine sq 22 rfl rfl (Y_fieldAddr (B := some ⟨b, 0, none⟩) (i := 0) (s := 0) k_fd_89_3_3_3 k_sz_3_1 rfl rfl) ?_
  refine sq 23 rfl rfl (Y_load1 (B := some ⟨b, 0, none⟩) (i := 3) (cs := [.int .i64 x.A, .int .i64 x.B, .int .i64 x.C, .int .i64 x.D]) (v := .int .i64 x.D) k_sc_3 rfl rfl (hS3.cf (i := 0) rfl) rfl) ?_
  refine sq 24 rfl rfl (Y_fieldAddr (B := some ⟨b1, 0, none⟩) (i := 0) (s := 0) k_fd_89_1_1_3 k_sz_3_1 rfl rfl) ?_
  refine sq 25 rfl rfl (Y_load1 (B := some ⟨b1, 0, none⟩) (i := 1) (cs := [.int .i64 y.A, .int .i64 y.B, .int .i64 y.C, .int .i64 y.D]) (v := .int .i64 y.B) k_sc_3 rfl rfl (hS3.cf (i := 1) rfl) rfl) ?_
  refine sq 26 rfl rfl (Y_mul (k := .i64) (a := x.D) (b := y.B) rfl rfl rfl) ?_
  refine sq 27 rfl rfl (Y_sub (k := .i64) (a := (IntKind.i64.wrap ((IntKind.i64.wrap ((IntKind.i64.wrap (x.A * y.A)) - (IntKind.i64.wrap (x.B * y.D)))) - (IntKind.i64.wrap (x.C * y.C))))) (b := (IntKind.i64.wrap (x.D * y.B))) rfl rfl rfl) ?_
  refine sq 28 rfl rfl (Y_fieldAddr (B := some ⟨b, 0, none⟩) (i := 0) (s := 0) k_fd_89_0_0_3 k_sz_3_1 rfl rfl) ?_
  refine sq 29 rfl rfl (Y_load1 (B := some ⟨b, 0, none⟩) (i := 0) (cs := [.int .i64 x.A, .int .i64 x.B, .int .i64 x.C, .int .i64 x.D]) (v := .int .i64 x.A) k_sc_3 rfl rfl (hS3.cf (i := 0) rfl) rfl) ?_
  refine sq 30 rfl rfl (Y_fieldAddr (B := some ⟨b1, 0, none⟩) (i := 0) (s := 0) k_fd_89_1_1_3 k_sz_3_1 rfl rfl) ?_
  refine sq 31 rfl rfl (Y_load1 (B := some ⟨b1, 0, none⟩) (i := 1) (cs := [.int .i64 y.A, .int .i64 y.B, .int .i64 y.C, .int .i64 y.D]) (v := .int .i64 y.B) k_sc_3 rfl rfl (hS3.cf (i := 1) rfl) rfl) ?_
  refine sq 32 rfl rfl (Y_mul (k := .i64) (a := x.A) (b := y.B) rfl rfl rfl) ?_
  refine sq 33 rfl rfl (Y_fieldAddr (B := some ⟨b, 0, none⟩) (i := 0) (s := 0) k_fd_89_1_1_3 k_sz_3_1 rfl rfl) ?_
  refine sq 34 rfl rfl (Y_load1 (B := some ⟨b, 0, none⟩) (i := 1) (cs := [.int .i64 x.A, .int .i64 x.B, .int .i64 x.C, .int .i64 x.D]) (v := .int .i64 x.B) k_sc_3 rfl rfl (hS3.cf (i := 0) rfl) rfl) ?_
  refine sq 35 rfl rfl (Y_fieldAddr (B := some ⟨b1, 0, none⟩) (i := 0) (s := 0) k_fd_89_0_0_3 k_sz_3_1 rfl rfl) ?_
  refine sq 36 rfl rfl (Y_load1 (B := some ⟨b1, 0, none⟩) (i := 0) (cs := [.int .i64 y.A, .int .i64 y.B, .int .i64 y.C, .int .i64 y.D]) (v := .int .i64 y.A) k_sc_3 rfl rfl (hS3.cf (i := 1) rfl) rfl) ?_
  refine sq 37 rfl rfl (Y_mul (k := .i64) (a := x.B) (b := y.A) rfl rfl rfl) ?_
  refine sq 38 rfl rfl (Y_add (k := .i64) (a := (IntKind.i64.wrap (x.A * y.B))) (b := (IntKind.i64.wrap (x.B * y.A))) rfl rfl rfl) ?_
  refine sq 39 rfl rfl (Y_fieldAddr (B := some ⟨b, 0, none⟩) (i := 0) (s := 0) k_fd_89_2_2_3 k_sz_3_1 rfl rfl) ?_
  refine sq 40 rfl rfl (Y_load1 (B := some ⟨b, 0, none⟩) (i := 2) (cs := [.int .i64 x.A, .int .i64 x.B, .int .i64 x.C, .int .i64 x.D]) (v := .int .i64 x.C) k_sc_3 rfl rfl (hS3.cf (i := 0) rfl) rfl) ?_
  refine sq 41 rfl rfl (Y_fieldAddr (B := some ⟨b1, 0, none⟩) (i := 0) (s := 0) k_fd_89_3_3_3 k_sz_3_1 rfl rfl) ?_
  refine sq 42 rfl rfl (Y_load1 (B := some ⟨b1, 0, none⟩) (i := 3) (cs := [.int .i64 y.A, .int .i64 y.B, .int .i64 y.C, .int .i64 y.D]) (v := .int .i64 y.D) k_sc_3 rfl rfl (hS3.cf (i := 1) rfl) rfl) ?_
  refine sq 43 rfl rfl (Y_mul (k := .i64) (a := x.C) (b := y.D) rfl rfl rfl) ?_
  refine sq 44 rfl rfl (Y_sub (k := .i64) (a := (IntKind.i64.wrap ((IntKind.i64.wrap (x.A * y.B)) + (IntKind.i64.wrap (x.B * y.A))))) (b := (IntKind.i64.wrap (x.C * y.D))) rfl rfl rfl) ?_
  refine sq 45 rfl rfl (Y_fieldAddr (B := some ⟨b, 0, none⟩) (i := 0) (s := 0) k_fd_89_3_3_3 k_sz_3_1 rfl rfl) ?_
  refine sq 46 rfl rfl (Y_load1 (B := some ⟨b, 0, none⟩) (i := 3) (cs := [.int .i64 x.A, .int .i64 x.B, .int .i64 x.C, .int .i64 x.D]) (v := .int .i64 x.D) k_sc_3 rfl rfl (hS3.cf (i := 0) rfl) rfl) ?_
  refine sq 47 rfl rfl (Y_fieldAddr (B := some ⟨b1, 0, none⟩) (i := 0) (s := 0) k_fd_89_2_2_3 k_sz_3_1 rfl rfl) ?_
  refine sq 48 rfl rfl (Y_load1 (B := some ⟨b1, 0, none⟩) (i := 2) (cs := [.int .i64 y.A, .int .i64 y.B, .int .i64 y.C, .int .i64 y.D]) (v := .int .i64 y.C) k_sc_3 rfl rfl (hS3.cf (i := 1) rfl) rfl) ?_
  refine sq 49 rfl rfl (Y_mul (k := .i64) (a := x.D) (b := y.C) rfl rfl rfl) ?_
  refine sq 50 rfl rfl (Y_sub (k := .i64) (a := (IntKind.i64.wrap ((IntKind.i64.wrap ((IntKind.i64.wrap (x.A * y.B)) + (IntKind.i64.wrap (x.B * y.A)))) - (IntKind.i64.wrap (x.C * y.D))))) (b := (IntKind.i64.wrap (x.D * y.C))) rfl rfl rfl) ?_
  refine sq 51 rfl rfl (Y_fieldAddr (B := some ⟨b, 0, none⟩) (i := 0) (s := 0) k_fd_89_0_0_3 k_sz_3_1 rfl rfl) ?_
  refine sq 52 rfl rfl (Y_load1 (B := some ⟨b, 0, none⟩) (i := 0) (cs := [.int .i64 x.A, .int .i64 x.B, .int .i64 x.C, .int .i64 x.D]) (v := .int .i64 x.A) k_sc_3 rfl rfl (hS3.cf (i := 0) rfl) rfl) ?_
  refine sq 53 rfl rfl (Y_fieldAddr (B := some ⟨b1, 0, none⟩) (i := 0) (s := 0) k_fd_89_2_2_3 k_sz_3_1 rfl rfl) ?_
  refine sq 54 rfl rfl (Y_load1 (B := some ⟨b1, 0, none⟩) (i := 2) (cs := [.int .i64 y.A, .int .i64 y.B, .int .i64 y.C, .int .i64 y.D]) (v := .int .i64 y.C) k_sc_3 rfl rfl (hS3.cf (i := 1) rfl) rfl) ?_
  refine sq 55 rfl rfl (Y_mul (k := .i64) (a := x.A) (b := y.C) rfl rfl rfl) ?_
  refine sq 56 rfl rfl (Y_fieldAddr (B := some ⟨b, 0, none⟩) (i := 0) (s := 0) k_fd_89_1_1_3 k_sz_3_1 rfl rfl) ?_
  refine sq 57 rfl rfl (Y_load1 (B := some ⟨b, 0, none⟩) (i := 1) (cs := [.int .i64 x.A, .int .i64 x.B, .int .i64 x.C, .int .i64 x.D]) (v := .int .i64 x.B) k_sc_3 rfl rfl (hS3.cf (i := 0) rfl) rfl) ?_
  refine sq 58 rfl rfl (Y_fieldAddr (B := some ⟨b1, 0, none⟩) (i := 0) (s := 0) k_fd_89_1_1_3 k_sz_3_1 rfl rfl) ?_
  refine sq 59 rfl rfl (Y_load1 (B := some ⟨b1, 0, none⟩) (i := 1) (cs := [.int .i64 y.A, .int .i64 y.B, .int .i64 y.C, .int .i64 y.D]) (v := .int .i64 y.B) k_sc_3 rfl rfl (hS3.cf (i := 1) rfl) rfl) ?_
  refine sq 60 rfl rfl (Y_mul (k := .i64) (a := x.B) (b := y.B) rfl rfl rfl) ?_
  refine sq 61 rfl rfl (Y_add (k := .i64) (a := (IntKind.i64.wrap (x.A * y.C))) (b := (IntKind.i64.wrap (x.B * y.B))) rfl rfl rfl) ?_
  refine sq 62 rfl rfl (Y_fieldAddr (B := some ⟨b, 0, none⟩) (i := 0) (s := 0) k_fd_89_2_2_3 k_sz_3_1 rfl rfl) ?_
  refine sq 63 rfl rfl (Y_load1 (B := some ⟨b, 0, none⟩) (i := 2) (cs := [.int .i64 x.A, .int .i64 x.B, .int .i64 x.C, .int .i64 x.D]) (v := .int .i64 x.C) k_sc_3 rfl rfl (hS3.cf (i := 0) rfl) rfl) ?_
  refine sq 64 rfl rfl (Y_fieldAddr (B := some ⟨b1, 0, none⟩) (i := 0) (s := 0) k_fd_89_0_0_3 k_sz_3_1 rfl rfl) ?_
  refine sq 65 rfl rfl (Y_load1 (B := some ⟨b1, 0, none⟩) (i := 0) (cs := [.int .i64 y.A, .int .i64 y.B, .int .i64 y.C, .int .i64 y.D]) (v := .int .i64 y.A) k_sc_3 rfl rfl (hS3.cf (i := 1) rfl) rfl) ?_
  refine sq 66 rfl rfl (Y_mul (k := .i64) (a := x.C) (b := y.A) rfl rfl rfl) ?_
  refine sq 67 rfl rfl (Y_add (k := .i64) (a := (IntKind.i64.wrap ((IntKind.i64.wrap (x.A * y.C)) + (IntKind.i64.wrap (x.B * y.B))))) (b := (IntKind.i64.wrap (x.C * y.A))) rfl rfl rfl) ?_
  refine sq 68 rfl rfl (Y_fieldAddr (B := some ⟨b, 0, none⟩) (i := 0) (s := 0) k_fd_89_3_3_3 k_sz_3_1 rfl rfl) ?_
  refine sq 69 rfl rfl (Y_load1 (B := some ⟨b, 0, none⟩) (i := 3) (cs := [.int .i64 x.A, .int .i64 x.B, .int .i64 x.C, .int .i64 x.D]) (v := .int .i64 x.D) k_sc_3 rfl rfl (hS3.cf (i := 0) rfl) rfl) ?_
  refine sq 70 rfl rfl (Y_fieldAddr (B := some ⟨b1, 0, none⟩) (i := 0) (s := 0) k_fd_89_3_3_3 k_sz_3_1 rfl rfl) ?_
  refine sq 71 rfl rfl (Y_load1 (B := some ⟨b1, 0, none⟩) (i := 3) (cs := [.int .i64 y.A, .int .i64 y.B, .int .i64 y.C, .int .i64 y.D]) (v := .int .i64 y.D) k_sc_3 rfl rfl (hS3.cf (i := 1) rfl) rfl) ?_
  refine sq 72 rfl rfl (Y_mul (k := .i64) (a := x.D) (b := y.D) rfl rfl rfl) ?_
  refine sq 73 rfl rfl (Y_sub (k := .i64) (a := (IntKind.i64.wrap ((IntKind.i64.wrap ((IntKind.i64.wrap (x.A * y.C)) + (IntKind.i64.wrap (x.B * y.B)))) + (IntKind.i64.wrap (x.C * y.A))))) (b := (IntKind.i64.wrap (x.D * y.D))) rfl rfl rfl) ?_
  refine sq 74 rfl rfl (Y_fieldAddr (B := some ⟨b, 0, none⟩) (i := 0) (s := 0) k_fd_89_0_0_3 k_sz_3_1 rfl rfl) ?_
  refine sq 75 rfl rfl (Y_load1 (B := some ⟨b, 0, none⟩) (i := 0) (cs := [.int .i64 x.A, .int .i64 x.B, .int .i64 x.C, .int .i64 x.D]) (v := .int .i64 x.A) k_sc_3 rfl rfl (hS3.cf (i := 0) rfl) rfl) ?_
  refine sq 76 rfl rfl (Y_fieldAddr (B := some ⟨b1, 0, none⟩) (i := 0) (s := 0) k_fd_89_3_3_3 k_sz_3_1 rfl rfl) ?_
  refine sq 77 rfl rfl (Y_load1 (B := some ⟨b1, 0, none⟩) (i := 3) (cs := [.int .i64 y.A, .int .i64 y.B, .int .i64 y.C, .int .i64 y.D]) (v := .int .i64 y.D) k_sc_3 rfl rfl (hS3.cf (i := 1) rfl) rfl) ?_
  refine sq 78 rfl rfl (Y_mul (k := .i64) (a := x.A) (b := y.D) rfl rfl rfl) ?_
  refine sq 79 rfl rfl (Y_fieldAddr (B := some ⟨b, 0, none⟩) (i := 0) (s := 0) k_fd_89_1_1_3 k_sz_3_1 rfl rfl) ?_
  refine sq 80 rfl rfl (Y_load1 (B := some ⟨b, 0, none⟩) (i := 1) (cs := [.int .i64 x.A, .int .i64 x.B, .int .i64 x.C, .int .i64 x.D]) (v := .int .i64 x.B) k_sc_3 rfl rfl (hS3.cf (i := 0) rfl) rfl) ?_
  refine sq 81 rfl rfl (Y_fieldAddr (B := some ⟨b1, 0, none⟩) (i := 0) (s := 0) k_fd_89_2_2_3 k_sz_3_1 rfl rfl) ?_
  refine sq 82 rfl rfl (Y_load1 (B := some ⟨b1, 0, none⟩) (i := 2) (cs := [.int .i64 y.A, .int .i64 y.B, .int .i64 y.C, .int .i64 y.D]) (v := .int .i64 y.C) k_sc_3 rfl rfl (hS3.cf (i := 1) rfl) rfl) ?_
  refine sq 83 rfl rfl (Y_mul (k := .i64) (a := x.B) (b := y.C) rfl rfl rfl) ?_
  refine sq 84 rfl rfl (Y_add (k := .i64) (a := (IntKind.i64.wrap (x.A * y.D))) (b := (IntKind.i64.wrap (x.B * y.C))) rfl rfl rfl) ?_
  refine sq 85 rfl rfl (Y_fieldAddr (B := some ⟨b, 0, none⟩) (i := 0) (s := 0) k_fd_89_2_2_3 k_sz_3_1 rfl rfl) ?_
  refine sq 86 rfl rfl (Y_load1 (B := some ⟨b, 0, none⟩) (i := 2) (cs := [.int .i64 x.A, .int .i64 x.B, .int .i64 x.C, .int .i64 x.D]) (v := .int .i64 x.C) k_sc_3 rfl rfl (hS3.cf (i := 0) rfl) rfl) ?_
  refine sq 87 rfl rfl (Y_fieldAddr (B := some ⟨b1, 0, none⟩) (i := 0) (s := 0) k_fd_89_1_1_3 k_sz_3_1 rfl rfl) ?_
  refine sq 88 rfl rfl (Y_load1 (B := some ⟨b1, 0, none⟩) (i := 1) (cs := [.int .i64 y.A, .int .i64 y.B, .int .i64 y.C, .int .i64 y.D]) (v := .int .i64 y.B) k_sc_3 rfl rfl (hS3.cf (i := 1) rfl) rfl) ?_
  refine sq 89 rfl rfl (Y_mul (k := .i64) (a := x.C) (b := y.B) rfl rfl rfl) ?_
  refine sq 90 rfl rfl (Y_add (k := .i64) (a := (IntKind.i64.wrap ((IntKind.i64.wrap (x.A * y.D)) + (IntKind.i64.wrap (x.B * y.C))))) (b := (IntKind.i64.wrap (x.C * y.B))) rfl rfl rfl) ?_
  refine sq 91 rfl rfl (Y_fieldAddr (B := some ⟨b, 0, none⟩) (i := 0) (s := 0) k_fd_89_3_3_3 k_sz_3_1 rfl rfl) ?_
  refine sq 92 rfl rfl (Y_load1 (B := some ⟨b, 0, none⟩) (i := 3) (cs := [.int .i64 x.A, .int .i64 x.B, .int .i64 x.C, .int .i64 x.D]) (v := .int .i64 x.D) k_sc_3 rfl rfl (hS3.cf (i := 0) rfl) rfl) ?_
  refine sq 93 rfl rfl (Y_fieldAddr (B := some ⟨b1, 0, none⟩) (i := 0) (s := 0) k_fd_89_0_0_3 k_sz_3_1 rfl rfl) ?_
  refine sq 94 rfl rfl (Y_load1 (B := some ⟨b1, 0, none⟩) (i := 0) (cs := [.int .i64 y.A, .int .i64 y.B, .int .i64 y.C, .int .i64 y.D]) (v := .int .i64 y.A) k_sc_3 rfl rfl (hS3.cf (i := 1) rfl) rfl) ?_
  refine sq 95 rfl rfl (Y_mul (k := .i64) (a := x.D) (b := y.A) rfl rfl rfl) ?_
  refine sq 96 rfl rfl (Y_add (k := .i64) (a := (IntKind.i64.wrap ((IntKind.i64.wrap ((IntKind.i64.wrap (x.A * y.D)) + (IntKind.i64.wrap (x.B * y.C)))) + (IntKind.i64.wrap (x.C * y.B))))) (b := (IntKind.i64.wrap (x.D * y.A))) rfl rfl rfl) ?_
  refine sq 97 rfl rfl (Y_buildS (zs := [.int .i64 0, .int .i64 0, .int .i64 0, .int .i64 0]) (vs := [(0, .int .i64 (IntKind.i64.wrap ((IntKind.i64.wrap ((IntKind.i64.wrap ((IntKind.i64.wrap (x.A * y.A)) - (IntKind.i64.wrap (x.B * y.D)))) - (IntKind.i64.wrap (x.C * y.C)))) - (IntKind.i64.wrap (x.D * y.B))))), (1, .int .i64 (IntKind.i64.wrap ((IntKind.i64.wrap ((IntKind.i64.wrap ((IntKind.i64.wrap (x.A * y.B)) + (IntKind.i64.wrap (x.B * y.A)))) - (IntKind.i64.wrap (x.C * y.D)))) - (IntKind.i64.wrap (x.D * y.C))))), (2, .int .i64 (IntKind.i64.wrap ((IntKind.i64.wrap ((IntKind.i64.wrap ((IntKind.i64.wrap (x.A * y.C)) + (IntKind.i64.wrap (x.B * y.B)))) + (IntKind.i64.wrap (x.C * y.A)))) - (IntKind.i64.wrap (x.D * y.D))))), (3, .int .i64 (IntKind.i64.wrap ((IntKind.i64.wrap ((IntKind.i64.wrap ((IntKind.i64.wrap (x.A * y.D)) + (IntKind.i64.wrap (x.B * y.C)))) + (IntKind.i64.wrap (x.C * y.B)))) + (IntKind.i64.wrap (x.D * y.A)))))]) (cs := [.int .i64 (IntKind.i64.wrap ((IntKind.i64.wrap ((IntKind.i64.wrap ((IntKind.i64.wrap (x.A * y.A)) - (IntKind.i64.wrap (x.B * y.D)))) - (IntKind.i64.wrap (x.C * y.C)))) - (IntKind.i64.wrap (x.D * y.B)))), .int .i64 (IntKind.i64.wrap ((IntKind.i64.wrap ((IntKind.i64.wrap ((IntKind.i64.wrap (x.A * y.B)) + (IntKind.i64.wrap (x.B * y.A)))) - (IntKind.i64.wrap (x.C * y.D)))) - (IntKind.i64.wrap (x.D * y.C)))), .int .i64 (IntKind.i64.wrap ((IntKind.i64.wrap ((IntKind.i64.wrap ((IntKind.i64.wrap (x.A * y.C)) + (IntKind.i64.wrap (x.B * y.B)))) + (IntKind.i64.wrap (x.C * y.A)))) - (IntKind.i64.wrap (x.D * y.D)))), .int .i64 (IntKind.i64.wrap ((IntKind.i64.wrap ((IntKind.i64.wrap ((IntKind.i64.wrap (x.A * y.D)) + (IntKind.i64.wrap (x.B * y.C)))) + (IntKind.i64.wrap (x.C * y.B)))) + (IntKind.i64.wrap (x.D * y.A))))]) k_pl_89 k_zero_89 rfl (mpc rfl (mpc rfl (mpc rfl (mpc rfl mpn)))) rfl) ?_
  refine ss0 rfl rfl (Ys_store (i := 2) (s := 4) (B := some ⟨b2, 0, none⟩) (T' := 89) (v := .agg #[.int .i64 (IntKind.i64.wrap ((IntKind.i64.wrap ((IntKind.i64.wrap ((IntKind.i64.wrap (x.A * y.A)) - (IntKind.i64.wrap (x.B * y.D)))) - (IntKind.i64.wrap (x.C * y.C)))) - (IntKind.i64.wrap (x.D * y.B)))), .int .i64 (IntKind.i64.wrap ((IntKind.i64.wrap ((IntKind.i64.wrap ((IntKind.i64.wrap (x.A * y.B)) + (IntKind.i64.wrap (x.B * y.A)))) - (IntKind.i64.wrap (x.C * y.D)))) - (IntKind.i64.wrap (x.D * y.C)))), .int .i64 (IntKind.i64.wrap ((IntKind.i64.wrap ((IntKind.i64.wrap ((IntKind.i64.wrap (x.A * y.C)) + (IntKind.i64.wrap (x.B * y.B)))) + (IntKind.i64.wrap (x.C * y.A)))) - (IntKind.i64.wrap (x.D * y.D)))), .int .i64 (IntKind.i64.wrap ((IntKind.i64.wrap ((IntKind.i64.wrap ((IntKind.i64.wrap (x.A * y.D)) + (IntKind.i64.wrap (x.B * y.C)))) + (IntKind.i64.wrap (x.C * y.B)))) + (IntKind.i64.wrap (x.D * y.A))))]) (vs := [.int .i64 (IntKind.i64.wrap ((IntKind.i64.wrap ((IntKind.i64.wrap ((IntKind.i64.wrap (x.A * y.A)) - (IntKind.i64.wrap (x.B * y.D)))) - (IntKind.i64.wrap (x.C * y.C)))) - (IntKind.i64.wrap (x.D * y.B)))), .int .i64 (IntKind.i64.wrap ((IntKind.i64.wrap ((IntKind.i64.wrap ((IntKind.i64.wrap (x.A * y.B)) + (IntKind.i64.wrap (x.B * y.A)))) - (IntKind.i64.wrap (x.C * y.D)))) - (IntKind.i64.wrap (x.D * y.C)))), .int .i64 (IntKind.i64.wrap ((IntKind.i64.wrap ((IntKind.i64.wrap ((IntKind.i64.wrap (x.A * y.C)) + (IntKind.i64.wrap (x.B * y.B)))) + (IntKind.i64.wrap (x.C * y.A)))) - (IntKind.i64.wrap (x.D * y.D)))), .int .i64 (IntKind.i64.wrap ((IntKind.i64.wrap ((IntKind.i64.wrap ((IntKind.i64.wrap (x.A * y.D)) + (IntKind.i64.wrap (x.B * y.C)))) + (IntKind.i64.wrap (x.C * y.B)))) + (IntKind.i64.wrap (x.D * y.A))))]) (k := 0) (cs' := [.int .i64 (IntKind.i64.wrap ((IntKind.i64.wrap ((IntKind.i64.wrap ((IntKind.i64.wrap (x.A * y.A)) - (IntKind.i64.wrap (x.B * y.D)))) - (IntKind.i64.wrap (x.C * y.C)))) - (IntKind.i64.wrap (x.D * y.B)))), .int .i64 (IntKind.i64.wrap ((IntKind.i64.wrap ((IntKind.i64.wrap ((IntKind.i64.wrap (x.A * y.B)) + (IntKind.i64.wrap (x.B * y.A)))) - (IntKind.i64.wrap (x.C * y.D)))) - (IntKind.i64.wrap (x.D * y.C)))), .int .i64 (IntKind.i64.wrap ((IntKind.i64.wrap ((IntKind.i64.wrap ((IntKind.i64.wrap (x.A * y.C)) + (IntKind.i64.wrap (x.B * y.B)))) + (IntKind.i64.wrap (x.C * y.A)))) - (IntKind.i64.wrap (x.D * y.D)))), .int .i64 (IntKind.i64.wrap ((IntKind.i64.wrap ((IntKind.i64.wrap ((IntKind.i64.wrap (x.A * y.D)) + (IntKind.i64.wrap (x.B * y.C)))) + (IntKind.i64.wrap (x.C * y.B)))) + (IntKind.i64.wrap (x.D * y.A))))]) hS3 k_sz_89_4 rfl rfl rfl rfl rfl rfl rfl (Nat.le_of_ble_eq_true rfl) rfl rfl) ?_
  rintro _ w_3 ⟨rfl, hS4⟩
  have hS4 : ST w0 [] _ [⟨some ⟨b, 0, none⟩, 89, [.int .i64 x.A, .int .i64 x.B, .int .i64 x.C, .int .i64 x.D], 4⟩, ⟨some ⟨b1, 0, none⟩, 89, [.int .i64 y.A, .int .i64 y.B, .int .i64 y.C, .int .i64 y.D], 4⟩, ⟨some ⟨b2, 0, none⟩, 89, [.int .i64 (IntKind.i64.wrap ((IntKind.i64.wrap ((IntKind.i64.wrap ((IntKind.i64.wrap (x.A * y.A)) - (IntKind.i64.wrap (x.B * y.D)))) - (IntKind.i64.wrap (x.C * y.C)))) - (IntKind.i64.wrap (x.D * y.B)))), .int .i64 (IntKind.i64.wrap ((IntKind.i64.wrap ((IntKind.i64.wrap ((IntKind.i64.wrap (x.A * y.B)) + (IntKind.i64.wrap (x.B * y.A)))) - (IntKind.i64.wrap (x.C * y.D)))) - (IntKind.i64.wrap (x.D * y.C)))), .int .i64 (IntKind.i64.wrap ((IntKind.i64.wrap ((IntKind.i64.wrap ((IntKind.i64.wrap (x.A * y.C)) + (IntKind.i64.wrap (x.B * y.B)))) + (IntKind.i64.wrap (x.C * y.A)))) - (IntKind.i64.wrap (x.D * y.D)))), .int .i64 (IntKind.i64.wrap ((IntKind.i64.wrap ((IntKind.i64.wrap ((IntKind.i64.wrap (x.A * y.D)) + (IntKind.i64.wrap (x.B * y.C)))) + (IntKind.i64.wrap (x.C * y.B)))) + (IntKind.i64.wrap (x.D * y.A))))], 4⟩] [] := hS4
  refine rw_nil ?_
  refine cw_ret ?_
  obtain rfl := some_inj hF
  exact ret1 Try.results179 (v1 := .agg #[.int .i64 (IntKind.i64.wrap ((IntKind.i64.wrap ((IntKind.i64.wrap ((IntKind.i64.wrap (x.A * y.A)) - (IntKind.i64.wrap (x.B * y.D)))) - (IntKind.i64.wrap (x.C * y.C)))) - (IntKind.i64.wrap (x.D * y.B)))), .int .i64 (IntKind.i64.wrap ((IntKind.i64.wrap ((IntKind.i64.wrap ((IntKind.i64.wrap (x.A * y.B)) + (IntKind.i64.wrap (x.B * y.A)))) - (IntKind.i64.wrap (x.C * y.D)))) - (IntKind.i64.wrap (x.D * y.C)))), .int .i64 (IntKind.i64.wrap ((IntKind.i64.wrap ((IntKind.i64.wrap ((IntKind.i64.wrap (x.A * y.C)) + (IntKind.i64.wrap (x.B * y.B)))) + (IntKind.i64.wrap (x.C * y.A)))) - (IntKind.i64.wrap (x.D * y.D)))), .int .i64 (IntKind.i64.wrap ((IntKind.i64.wrap ((IntKind.i64.wrap ((IntKind.i64.wrap (x.A * y.D)) + (IntKind.i64.wrap (x.B * y.C)))) + (IntKind.i64.wrap (x.C * y.B)))) + (IntKind.i64.wrap (x.D * y.A))))]) (resAt_cellA (B := some ⟨b2, 0, none⟩) (i := 0) (cs := [.int .i64 (IntKind.i64.wrap ((IntKind.i64.wrap ((IntKind.i64.wrap ((IntKind.i64.wrap (x.A * y.A)) - (IntKind.i64.wrap (x.B * y.D)))) - (IntKind.i64.wrap (x.C * y.C)))) - (IntKind.i64.wrap (x.D * y.B)))), .int .i64 (IntKind.i64.wrap ((IntKind.i64.wrap ((IntKind.i64.wrap ((IntKind.i64.wrap (x.A * y.B)) + (IntKind.i64.wrap (x.B * y.A)))) - (IntKind.i64.wrap (x.C * y.D)))) - (IntKind.i64.wrap (x.D * y.C)))), .int .i64 (IntKind.i64.wrap ((IntKind.i64.wrap ((IntKind.i64.wrap ((IntKind.i64.wrap (x.A * y.C)) + (IntKind.i64.wrap (x.B * y.B)))) + (IntKind.i64.wrap (x.C * y.A)))) - (IntKind.i64.wrap (x.D * y.D)))), .int .i64 (IntKind.i64.wrap ((IntKind.i64.wrap ((IntKind.i64.wrap ((IntKind.i64.wrap (x.A * y.D)) + (IntKind.i64.wrap (x.B * y.C)))) + (IntKind.i64.wrap (x.C * y.B)))) + (IntKind.i64.wrap (x.D * y.A))))]) (vs := [.int .i64 (IntKind.i64.wrap ((IntKind.i64.wrap ((IntKind.i64.wrap ((IntKind.i64.wrap (x.A * y.A)) - (IntKind.i64.wrap (x.B * y.D)))) - (IntKind.i64.wrap (x.C * y.C)))) - (IntKind.i64.wrap (x.D * y.B)))), .int .i64 (IntKind.i64.wrap ((IntKind.i64.wrap ((IntKind.i64.wrap ((IntKind.i64.wrap (x.A * y.B)) + (IntKind.i64.wrap (x.B * y.A)))) - (IntKind.i64.wrap (x.C * y.D)))) - (IntKind.i64.wrap (x.D * y.C)))), .int .i64 (IntKind.i64.wrap ((IntKind.i64.wrap ((IntKind.i64.wrap ((IntKind.i64.wrap (x.A * y.C)) + (IntKind.i64.wrap (x.B * y.B)))) + (IntKind.i64.wrap (x.C * y.A)))) - (IntKind.i64.wrap (x.D * y.D)))), .int .i64 (IntKind.i64.wrap ((IntKind.i64.wrap ((IntKind.i64.wrap ((IntKind.i64.wrap (x.A * y.D)) + (IntKind.i64.wrap (x.B * y.C)))) + (IntKind.i64.wrap (x.C * y.B)))) + (IntKind.i64.wrap (x.D * y.A))))]) rfl k_ag_89 k_sz_89_4 (hS4.cf (i := 2) rfl) rfl rfl) ⟨rfl, (ST.subR (R' := []) (hS4.sel [] rfl rfl) (fun _ h => by cases h))⟩

theorem c_spec_l2C_mul (c : Tl2C) (x : TDyadic) (y : TDyadic) (B : Option Addr) (w0 : World)  (hS : ST w0 (bl [⟨B, 126, [.bool c.bad], 1⟩]) w0 [⟨B, 126, [.bool c.bad], 1⟩] []) {r_ : TDyadic} {m : Tl2C} (hF : F_spec_l2C_mul c x y = some (r_, m)) :
    CV Try.prog 125 #[pt B 0, .agg #[.int .i64 x.Num.A, .int .i64 x.Num.B, .int .i64 x.Num.C, .int .i64 x.Num.D, .int .i64 x.Exp], .agg #[.int .i64 y.Num.A, .int .i64 y.Num.B, .int .i64 y.Num.C, .int .i64 y.Num.D, .int .i64 y.Exp]] w0 (fun v w' => v = .agg #[.int .i64 r_.Num.A, .int .i64 r_.Num.B, .int .i64 r_.Num.C, .int .i64 r_.Num.D, .int .i64 r_.Exp] ∧ ST w0 (bl [⟨B, 126, [.bool c.bad], 1⟩]) w' [⟨B, 126, [.bool m.bad], 1⟩] []) := by
  unfold F_spec_l2C_mul at hF
  refine cv_of_cw 30 Try.func125 rfl Try.ntmps125 rfl ?_
  refine cw_seq ?_
  refine cw_region ?_
  refine ss 4 rfl rfl (Ys_box (T := 91) (v := .agg #[.int .i64 x.Num.A, .int .i64 x.Num.B, .int .i64 x.Num.C, .int .i64 x.Num.D, .int .i64 x.Exp]) (cs := [.int .i64 x.Num.A, .int .i64 x.Num.B, .int .i64 x.Num.C, .int .i64 x.Num.D, .int .i64 x.Exp]) (m := 5) hS rfl rfl rfl rfl) ?_
  rintro _ w_ ⟨b, rfl, hS1⟩
  have hS1 : ST w0 (bl [⟨B, 126, [.bool c.bad], 1⟩]) _ [⟨B, 126, [.bool c.bad], 1⟩, ⟨some ⟨b, 0, none⟩, 91, [.int .i64 x.Num.A, .int .i64 x.Num.B, .int .i64 x.Num.C, .int .i64 x.Num.D, .int .i64 x.Exp], 5⟩] [] := hS1
  refine ss 5 rfl rfl (Ys_box (T := 91) (v := .agg #[.int .i64 y.Num.A, .int .i64 y.Num.B, .int .i64 y.Num.C, .int .i64 y.Num.D, .int .i64 y.Exp]) (cs := [.int .i64 y.Num.A, .int .i64 y.Num.B, .int .i64 y.Num.C, .int .i64 y.Num.D, .int .i64 y.Exp]) (m := 5) hS1 rfl rfl rfl rfl) ?_
  rintro _ w_1 ⟨b1, rfl, hS2⟩
  have hS2 : ST w0 (bl [⟨B, 126, [.bool c.bad], 1⟩]) _ [⟨B, 126, [.bool c.bad], 1⟩, ⟨some ⟨b, 0, none⟩, 91, [.int .i64 x.Num.A, .int .i64 x.Num.B, .int .i64 x.Num.C, .int .i64 x.Num.D, .int .i64 x.Exp], 5⟩, ⟨some ⟨b1, 0, none⟩, 91, [.int .i64 y.Num.A, .int .i64 y.Num.B, .int .i64 y.Num.C, .int .i64 y.Num.D, .int .i64 y.Exp], 5⟩] [] := hS2
  refine ss 6 rfl rfl (Ys_alloc (T := 91) (cs := [.int .i64 0, .int .i64 0, .int .i64 0, .int .i64 0, .int .i64 0]) (m := 5) hS2 k_zero_91 rfl rfl rfl) ?_
  rintro _ w_2 ⟨b2, rfl, hS3⟩
  have hS3 : ST w0 (bl [⟨B, 126, [.bool c.bad], 1⟩]) _ [⟨B, 126, [.bool c.bad], 1⟩, ⟨some ⟨b, 0, none⟩, 91, [.int .i64 x.Num.A, .int .i64 x.Num.B, .int .i64 x.Num.C, .int .i64 x.Num.D, .int .i64 x.Exp], 5⟩, ⟨some ⟨b1, 0, none⟩, 91, [.int .i64 y.Num.A, .int .i64 y.Num.B, .int .i64 y.Num.C, .int .i64 y.Num.D, .int .i64 y.Exp], 5⟩, ⟨some ⟨b2, 0, none⟩, 91, [.int .i64 0, .int .i64 0, .int .i64 0, .int .i64 0, .int .i64 0], 5⟩] [] := hS3
  refine rw_nil ?_
  refine cw_seq ?_
  refine cw_seq ?_
  refine cw_region ?_
  refine sq 7 rfl rfl (Y_fieldAddr (B := some ⟨b, 0, none⟩) (i := 0) (s := 0) k_fd_91_1_4_3 k_sz_3_1 rfl rfl) ?_
  refine sq 8 rfl rfl (Y_load1 (B := some ⟨b, 0, none⟩) (i := 4) (cs := [.int .i64 x.Num.A, .int .i64 x.Num.B, .int .i64 x.Num.C, .int .i64 x.Num.D, .int .i64 x.Exp]) (v := .int .i64 x.Exp) k_sc_3 rfl rfl (hS3.cf (i := 1) rfl) rfl) ?_
  refine sq 9 rfl rfl (Y_fieldAddr (B := some ⟨b1, 0, none⟩) (i := 0) (s := 0) k_fd_91_1_4_3 k_sz_3_1 rfl rfl) ?_
  refine sq 10 rfl rfl (Y_load1 (B := some ⟨b1, 0, none⟩) (i := 4) (cs := [.int .i64 y.Num.A, .int .i64 y.Num.B, .int .i64 y.Num.C, .int .i64 y.Num.D, .int .i64 y.Exp]) (v := .int .i64 y.Exp) k_sc_3 rfl rfl (hS3.cf (i := 2) rfl) rfl) ?_
  refine sq 11 rfl rfl (Y_add (k := .i64) (a := x.Exp) (b := y.Exp) rfl rfl rfl) ?_
  refine sq 12 rfl rfl (Y_gt (k := .i64) (a := (IntKind.i64.wrap (x.Exp + y.Exp))) (b := 60) rfl rfl rfl) ?_
  refine rw_nil ?_
  refine cw_cond (b := (decide (60 < (IntKind.i64.wrap (x.Exp + y.Exp))))) rfl (fun hb => ?_) (fun hb => ?_)
  · skip
    have hF1 := ct hF hb
    refine cw_seq ?_
    refine cw_region ?_
    refine sq 13 rfl rfl (Y_move (v := pt B 0) rfl rfl) ?_
    refine sq 14 rfl rfl (Y_nilCheck (B := B) (i := 0) rfl rfl) ?_
    refine sq 15 rfl rfl (Y_fieldAddr (B := B) (i := 0) (s := 0) k_fd_126_0_0_4 k_sz_4_1 rfl rfl) ?_
    refine ss0 rfl rfl (Ys_store (i := 0) (s := 1) (B := B) (T' := 126) (v := .bool true) (vs := [.bool true]) (k := 0) (cs' := [.bool true]) hS3 k_sz_4_1 rfl rfl rfl rfl rfl rfl rfl (Nat.le_of_ble_eq_true rfl) rfl rfl) ?_
    rintro _ w_3 ⟨rfl, hS4⟩
    have hS4 : ST w0 (bl [⟨B, 126, [.bool c.bad], 1⟩]) _ [⟨B, 126, [.bool true], 1⟩, ⟨some ⟨b, 0, none⟩, 91, [.int .i64 x.Num.A, .int .i64 x.Num.B, .int .i64 x.Num.C, .int .i64 x.Num.D, .int .i64 x.Exp], 5⟩, ⟨some ⟨b1, 0, none⟩, 91, [.int .i64 y.Num.A, .int .i64 y.Num.B, .int .i64 y.Num.C, .int .i64 y.Num.D, .int .i64 y.Exp], 5⟩, ⟨some ⟨b2, 0, none⟩, 91, [.int .i64 0, .int .i64 0, .int .i64 0, .int .i64 0, .int .i64 0], 5⟩] [] := hS4
    refine rw_nil ?_
    refine cw_seq ?_
    refine cw_region ?_
    refine sq 16 rfl rfl (Y_buildS (zs := [.int .i64 0, .int .i64 0, .int .i64 0, .int .i64 0, .int .i64 0]) (vs := []) (cs := [.int .i64 0, .int .i64 0, .int .i64 0, .int .i64 0, .int .i64 0]) k_pl_91 k_zero_91 rfl mpn rfl) ?_
    refine ss0 rfl rfl (Ys_store (i := 3) (s := 5) (B := some ⟨b2, 0, none⟩) (T' := 91) (v := .agg #[.int .i64 0, .int .i64 0, .int .i64 0, .int .i64 0, .int .i64 0]) (vs := [.int .i64 0, .int .i64 0, .int .i64 0, .int .i64 0, .int .i64 0]) (k := 0) (cs' := [.int .i64 0, .int .i64 0, .int .i64 0, .int .i64 0, .int .i64 0]) hS4 k_sz_91_5 rfl rfl rfl rfl rfl rfl rfl (Nat.le_of_ble_eq_true rfl) rfl rfl) ?_
    rintro _ w_4 ⟨rfl, hS5⟩
    have hS5 : ST w0 (bl [⟨B, 126, [.bool c.bad], 1⟩]) _ [⟨B, 126, [.bool true], 1⟩, ⟨some ⟨b, 0, none⟩, 91, [.int .i64 x.Num.A, .int .i64 x.Num.B, .int .i64 x.Num.C, .int .i64 x.Num.D, .int .i64 x.Exp], 5⟩, ⟨some ⟨b1, 0, none⟩, 91, [.int .i64 y.Num.A, .int .i64 y.Num.B, .int .i64 y.Num.C, .int .i64 y.Num.D, .int .i64 y.Exp], 5⟩, ⟨some ⟨b2, 0, none⟩, 91, [.int .i64 0, .int .i64 0, .int .i64 0, .int .i64 0, .int .i64 0], 5⟩] [] := hS5
    refine rw_nil ?_
    refine cw_ret ?_
    obtain ⟨rfl, rfl⟩ := pr2 (some_inj hF1)
    exact ret1 Try.results125 (v1 := .agg #[.int .i64 0, .int .i64 0, .int .i64 0, .int .i64 0, .int .i64 0]) (resAt_cellA (B := some ⟨b2, 0, none⟩) (i := 0) (cs := [.int .i64 0, .int .i64 0, .int .i64 0, .int .i64 0, .int .i64 0]) (vs := [.int .i64 0, .int .i64 0, .int .i64 0, .int .i64 0, .int .i64 0]) rfl k_ag_91 k_sz_91_5 (hS5.cf (i := 3) rfl) rfl rfl) ⟨rfl, (ST.subR (R' := []) (hS5.sel [0] rfl rfl) (fun _ h => by cases h))⟩
  · skip
    have hF2 := cf' hF hb
    refine cw_skip ?_
    refine cw_seq ?_
    obtain ⟨r_1, hc, hF2⟩ := bind_inv hF2
    obtain ⟨⟨r_2, m1⟩, hc1, hF2⟩ := bind_inv hF2
    obtain ⟨r_3, hc2, hF2⟩ := bind_inv hF2
    refine ra_start (ST.sel hS3 [1, 2] rfl rfl).fn (by kernel_rfl) ?_
    have hS9 := hS3.drew
    refine ra_q 0 17 (v := pt B 0) rfl rfl rfl (by kernel_rfl) (by kernel_rfl) (by kernel_rfl) (ST.sel hS9 [1, 2] rfl rfl) (fun w' hw' => (Y_move (v := pt B 0) rfl rfl)) ?_
    refine ra_q 1 18 (v := pt (some ⟨b, 0, none⟩) 0) rfl rfl rfl (by kernel_rfl) (by kernel_rfl) (by kernel_rfl) (ST.sel hS9 [1, 2] rfl rfl) (fun w' hw' => (Y_fieldAddr (B := some ⟨b, 0, none⟩) (i := 0) (s := 3) k_fd_91_0_0_89 k_sz_89_4 rfl rfl)) ?_
    refine ra_q 2 19 (v := .agg #[.int .i64 x.Num.A, .int .i64 x.Num.B, .int .i64 x.Num.C, .int .i64 x.Num.D]) rfl rfl rfl (by kernel_rfl) (by kernel_rfl) (by kernel_rfl) (ST.sel hS9 [1, 2] rfl rfl) (fun w' hw' => (Y_loadA (B := some ⟨b, 0, none⟩) (i := 0) (cs := [.int .i64 x.Num.A, .int .i64 x.Num.B, .int .i64 x.Num.C, .int .i64 x.Num.D, .int .i64 x.Exp]) (vs := [.int .i64 x.Num.A, .int .i64 x.Num.B, .int .i64 x.Num.C, .int .i64 x.Num.D]) k_ag_89 k_sz_89_4 rfl rfl (ST.cf hw' (i := 0) rfl) rfl rfl)) ?_
    refine ra_q 3 20 (v := pt (some ⟨b1, 0, none⟩) 0) rfl rfl rfl (by kernel_rfl) (by kernel_rfl) (by kernel_rfl) (ST.sel hS9 [1, 2] rfl rfl) (fun w' hw' => (Y_fieldAddr (B := some ⟨b1, 0, none⟩) (i := 0) (s := 3) k_fd_91_0_0_89 k_sz_89_4 rfl rfl)) ?_
    refine ra_q 4 21 (v := .agg #[.int .i64 y.Num.A, .int .i64 y.Num.B, .int .i64 y.Num.C, .int .i64 y.Num.D]) rfl rfl rfl (by kernel_rfl) (by kernel_rfl) (by kernel_rfl) (ST.sel hS9 [1, 2] rfl rfl) (fun w' hw' => (Y_loadA (B := some ⟨b1, 0, none⟩) (i := 0) (cs := [.int .i64 y.Num.A, .int .i64 y.Num.B, .int .i64 y.Num.C, .int .i64 y.Num.D, .int .i64 y.Exp]) (vs := [.int .i64 y.Num.A, .int .i64 y.Num.B, .int .i64 y.Num.C, .int .i64 y.Num.D]) k_ag_89 k_sz_89_4 rfl rfl (ST.cf hw' (i := 1) rfl) rfl rfl)) ?_
    refine ra_q 7 24 (v := pt (some ⟨b, 0, none⟩) 4) rfl rfl rfl (by kernel_rfl) (by kernel_rfl) (by kernel_rfl) (ST.sel hS9 [1, 2] rfl rfl) (fun w' hw' => (Y_fieldAddr (B := some ⟨b, 0, none⟩) (i := 0) (s := 0) k_fd_91_1_4_3 k_sz_3_1 rfl rfl)) ?_
    refine ra_q 8 25 (v := .int .i64 x.Exp) rfl rfl rfl (by kernel_rfl) (by kernel_rfl) (by kernel_rfl) (ST.sel hS9 [1, 2] rfl rfl) (fun w' hw' => (Y_load1 (B := some ⟨b, 0, none⟩) (i := 4) (cs := [.int .i64 x.Num.A, .int .i64 x.Num.B, .int .i64 x.Num.C, .int .i64 x.Num.D, .int .i64 x.Exp]) (v := .int .i64 x.Exp) k_sc_3 rfl rfl (ST.cf hw' (i := 0) rfl) rfl)) ?_
    refine ra_q 9 26 (v := pt (some ⟨b1, 0, none⟩) 4) rfl rfl rfl (by kernel_rfl) (by kernel_rfl) (by kernel_rfl) (ST.sel hS9 [1, 2] rfl rfl) (fun w' hw' => (Y_fieldAddr (B := some ⟨b1, 0, none⟩) (i := 0) (s := 0) k_fd_91_1_4_3 k_sz_3_1 rfl rfl)) ?_
    refine ra_q 10 27 (v := .int .i64 y.Exp) rfl rfl rfl (by kernel_rfl) (by kernel_rfl) (by kernel_rfl) (ST.sel hS9 [1, 2] rfl rfl) (fun w' hw' => (Y_load1 (B := some ⟨b1, 0, none⟩) (i := 4) (cs := [.int .i64 y.Num.A, .int .i64 y.Num.B, .int .i64 y.Num.C, .int .i64 y.Num.D, .int .i64 y.Exp]) (v := .int .i64 y.Exp) k_sc_3 rfl rfl (ST.cf hw' (i := 1) rfl) rfl)) ?_
    refine ra_q 11 28 (v := .int .i64 (IntKind.i64.wrap (x.Exp + y.Exp))) rfl rfl rfl (by kernel_rfl) (by kernel_rfl) (by kernel_rfl) (ST.sel hS9 [1, 2] rfl rfl) (fun w' hw' => (Y_add (k := .i64) (a := x.Exp) (b := y.Exp) rfl rfl rfl)) ?_
    refine ra_all (rs := [5]) (by kernel_rfl) rfl ?_
    refine ra_c 22 (i := 5) rfl rfl rfl (Yc_func (g := 179) (vs := [.agg #[.int .i64 x.Num.A, .int .i64 x.Num.B, .int .i64 x.Num.C, .int .i64 x.Num.D], .agg #[.int .i64 y.Num.A, .int .i64 y.Num.B, .int .i64 y.Num.C, .int .i64 y.Num.D]]) k_call_179 rfl (mc rfl (mc rfl mn)) (c_spec_l1Mul x.Num y.Num _  (hS9.inn0 [] rfl) hc)) ?_ ?_
    · rintro _ w_5 ⟨rfl, hd⟩
      have hS10 := hS9.out00 hd
      have hS10 : ST w0 (bl [⟨B, 126, [.bool c.bad], 1⟩]) _ [⟨B, 126, [.bool c.bad], 1⟩, ⟨some ⟨b, 0, none⟩, 91, [.int .i64 x.Num.A, .int .i64 x.Num.B, .int .i64 x.Num.C, .int .i64 x.Num.D, .int .i64 x.Exp], 5⟩, ⟨some ⟨b1, 0, none⟩, 91, [.int .i64 y.Num.A, .int .i64 y.Num.B, .int .i64 y.Num.C, .int .i64 y.Num.D, .int .i64 y.Exp], 5⟩, ⟨some ⟨b2, 0, none⟩, 91, [.int .i64 0, .int .i64 0, .int .i64 0, .int .i64 0, .int .i64 0], 5⟩] [] := hS10
      refine ⟨(ST.sel hS10 [1, 2] rfl rfl), ?_⟩
      refine ra_all (rs := [6]) (by kernel_rfl) rfl ?_
      refine ra_c 23 (i := 6) rfl rfl rfl (Yc_func (g := 178) (vs := [pt B 0, .agg #[.int .i64 r_1.A, .int .i64 r_1.B, .int .i64 r_1.C, .int .i64 r_1.D]]) k_call_178 rfl (mc rfl (mc rfl mn)) (c_spec_l2C_ring c r_1 B _  (hS10.inn [true, false, false, false] rfl [] rfl) hc1)) ?_ ?_
      · rintro _ w_6 ⟨rfl, hd1⟩
        have hS11 := hS10.out [true, false, false, false] rfl hd1
        have hS11 : ST w0 (bl [⟨B, 126, [.bool c.bad], 1⟩]) _ [⟨some ⟨b, 0, none⟩, 91, [.int .i64 x.Num.A, .int .i64 x.Num.B, .int .i64 x.Num.C, .int .i64 x.Num.D, .int .i64 x.Exp], 5⟩, ⟨some ⟨b1, 0, none⟩, 91, [.int .i64 y.Num.A, .int .i64 y.Num.B, .int .i64 y.Num.C, .int .i64 y.Num.D, .int .i64 y.Exp], 5⟩, ⟨some ⟨b2, 0, none⟩, 91, [.int .i64 0, .int .i64 0, .int .i64 0, .int .i64 0, .int .i64 0], 5⟩, ⟨B, 126, [.bool m1.bad], 1⟩] [] := hS11
        refine ⟨(ST.sel hS11 [0, 1] rfl rfl), ?_⟩
        refine ra_all (rs := [12]) (by kernel_rfl) rfl ?_
        refine ra_c 29 (i := 12) rfl rfl rfl (Yc_func (g := 177) (vs := [.agg #[.int .i64 r_2.A, .int .i64 r_2.B, .int .i64 r_2.C, .int .i64 r_2.D], .int .i64 (IntKind.i64.wrap (x.Exp + y.Exp))]) k_call_177 rfl (mc rfl (mc rfl mn)) (c_spec_l2Low r_2 (IntKind.i64.wrap (x.Exp + y.Exp)) _  (hS11.inn0 [] rfl) hc2)) ?_ ?_
        · rintro _ w_7 ⟨rfl, hd2⟩
          have hS12 := hS11.out00 hd2
          have hS12 : ST w0 (bl [⟨B, 126, [.bool c.bad], 1⟩]) _ [⟨some ⟨b, 0, none⟩, 91, [.int .i64 x.Num.A, .int .i64 x.Num.B, .int .i64 x.Num.C, .int .i64 x.Num.D, .int .i64 x.Exp], 5⟩, ⟨some ⟨b1, 0, none⟩, 91, [.int .i64 y.Num.A, .int .i64 y.Num.B, .int .i64 y.Num.C, .int .i64 y.Num.D, .int .i64 y.Exp], 5⟩, ⟨some ⟨b2, 0, none⟩, 91, [.int .i64 0, .int .i64 0, .int .i64 0, .int .i64 0, .int .i64 0], 5⟩, ⟨B, 126, [.bool m1.bad], 1⟩] [] := hS12
          refine ⟨(ST.sel hS12 [0, 1] rfl rfl), ?_⟩
          refine ra_all (rs := [13]) (by kernel_rfl) rfl ?_
          refine ra_s0 (i := 13) rfl rfl rfl (Ys_store (i := 2) (s := 5) (B := some ⟨b2, 0, none⟩) (T' := 91) (v := .agg #[.int .i64 r_3.Num.A, .int .i64 r_3.Num.B, .int .i64 r_3.Num.C, .int .i64 r_3.Num.D, .int .i64 r_3.Exp]) (vs := [.int .i64 r_3.Num.A, .int .i64 r_3.Num.B, .int .i64 r_3.Num.C, .int .i64 r_3.Num.D, .int .i64 r_3.Exp]) (k := 0) (cs' := [.int .i64 r_3.Num.A, .int .i64 r_3.Num.B, .int .i64 r_3.Num.C, .int .i64 r_3.Num.D, .int .i64 r_3.Exp]) hS12 k_sz_91_5 rfl rfl rfl rfl rfl rfl rfl (Nat.le_of_ble_eq_true rfl) rfl rfl) ?_ ?_
          · rintro _ w_8 ⟨rfl, hS13⟩
            have hS13 : ST w0 (bl [⟨B, 126, [.bool c.bad], 1⟩]) _ [⟨some ⟨b, 0, none⟩, 91, [.int .i64 x.Num.A, .int .i64 x.Num.B, .int .i64 x.Num.C, .int .i64 x.Num.D, .int .i64 x.Exp], 5⟩, ⟨some ⟨b1, 0, none⟩, 91, [.int .i64 y.Num.A, .int .i64 y.Num.B, .int .i64 y.Num.C, .int .i64 y.Num.D, .int .i64 y.Exp], 5⟩, ⟨some ⟨b2, 0, none⟩, 91, [.int .i64 r_3.Num.A, .int .i64 r_3.Num.B, .int .i64 r_3.Num.C, .int .i64 r_3.Num.D, .int .i64 r_3.Exp], 5⟩, ⟨B, 126, [.bool m1.bad], 1⟩] [] := hS13
            refine ⟨(ST.sel hS13 [0, 1] rfl rfl), ?_⟩
            refine ra_done (by kernel_rfl) ?_
            refine cw_ret ?_
            obtain ⟨rfl, rfl⟩ := pr2 (some_inj hF2)
            exact ret1 Try.results125 (v1 := .agg #[.int .i64 r_3.Num.A, .int .i64 r_3.Num.B, .int .i64 r_3.Num.C, .int .i64 r_3.Num.D, .int .i64 r_3.Exp]) (resAt_cellA (B := some ⟨b2, 0, none⟩) (i := 0) (cs := [.int .i64 r_3.Num.A, .int .i64 r_3.Num.B, .int .i64 r_3.Num.C, .int .i64 r_3.Num.D, .int .i64 r_3.Exp]) (vs := [.int .i64 r_3.Num.A, .int .i64 r_3.Num.B, .int .i64 r_3.Num.C, .int .i64 r_3.Num.D, .int .i64 r_3.Exp]) rfl k_ag_91 k_sz_91_5 (hS13.cf (i := 2) rfl) rfl rfl) ⟨rfl, (ST.subR (R' := []) (hS13.sel [3] rfl rfl) (fun _ h => by cases h))⟩
          exact allR_nil
        exact allR_nil
      exact allR_nil
    exact allR_nil

theorem c_spec_l1Add (x : TRing) (y : TRing)  (w0 : World)  (hS : ST w0 [] w0 [] []) {r_ : TRing} (hF : F_spec_l1Add x y = some r_) :
    CV Try.prog 181 #[.agg #[.int .i64 x.A, .int .i64 x.B, .int .i64 x.C, .int .i64 x.D], .agg #[.int .i64 y.A, .int .i64 y.B, .int .i64 y.C, .int .i64 y.D]] w0 (fun v w' => v = .agg #[.int .i64 r_.A, .int .i64 r_.B, .int .i64 r_.C, .int .i64 r_.D] ∧ ST w0 [] w' [] []) := by
  unfold F_spec_l1Add at hF
  refine cv_of_cw 26 Try.func181 rfl Try.ntmps181 rfl ?_
  refine cw_seq ?_
  refine cw_region ?_
  refine ss 2 rfl rfl (Ys_box (T := 89) (v := .agg #[.int .i64 x.A, .int .i64 x.B, .int .i64 x.C, .int .i64 x.D]) (cs := [.int .i64 x.A, .int .i64 x.B, .int .i64 x.C, .int .i64 x.D]) (m := 4) hS rfl rfl rfl rfl) ?_
  rintro _ w_ ⟨b, rfl, hS1⟩
  refine ss 3 rfl rfl (Ys_box (T := 89) (v := .agg #[.int .i64 y.A, .int .i64 y.B, .int .i64 y.C, .int .i64 y.D]) (cs := [.int .i64 y.A, .int .i64 y.B, .int .i64 y.C, .int .i64 y.D]) (m := 4) hS1 rfl rfl rfl rfl) ?_
  rintro _ w_1 ⟨b1, rfl, hS2⟩
  have hS2 : ST w0 [] _ [⟨some ⟨b, 0, none⟩, 89, [.int .i64 x.A, .int .i64 x.B, .int .i64 x.C, .int .i64 x.D], 4⟩, ⟨some ⟨b1, 0, none⟩, 89, [.int .i64 y.A, .int .i64 y.B, .int .i64 y.C, .int .i64 y.D], 4⟩] [] := hS2
  refine ss 4 rfl rfl (Ys_alloc (T := 89) (cs := [.int .i64 0, .int .i64 0, .int .i64 0, .int .i64 0]) (m := 4) hS2 k_zero_89 rfl rfl rfl) ?_
  rintro _ w_2 ⟨b2, rfl, hS3⟩
  have hS3 : ST w0 [] _ [⟨some ⟨b, 0, none⟩, 89, [.int .i64 x.A, .int .i64 x.B, .int .i64 x.C, .int .i64 x.D], 4⟩, ⟨some ⟨b1, 0, none⟩, 89, [.int .i64 y.A, .int .i64 y.B, .int .i64 y.C, .int .i64 y.D], 4⟩, ⟨some ⟨b2, 0, none⟩, 89, [.int .i64 0, .int .i64 0, .int .i64 0, .int .i64 0], 4⟩] [] := hS3
  refine rw_nil ?_
  refine cw_seq ?_
  refine cw_region ?_
  refine sq 5 rfl rfl (Y_fieldAddr (B := some ⟨b, 0, none⟩) (i := 0) (s := 0) k_fd_89_0_0_3 k_sz_3_1 rfl rfl) ?_
  refine sq 6 rfl rfl (Y_load1 (B := some ⟨b, 0, none⟩) (i := 0) (cs := [.int .i64 x.A, .int .i64 x.B, .int .i64 x.C, .int .i64 x.D]) (v := .int .i64 x.A) k_sc_3 rfl rfl (hS3.cf (i := 0) rfl) rfl) ?_
  refine sq 7 rfl rfl (Y_fieldAddr (B := some ⟨b1, 0, none⟩) (i := 0) (s := 0) k_fd_89_0_0_3 k_sz_3_1 rfl rfl) ?_
  refine sq 8 rfl rfl (Y_load1 (B := some ⟨b1, 0, none⟩) (i := 0) (cs := [.int .i64 y.A, .int .i64 y.B, .int .i64 y.C, .int .i64 y.D]) (v := .int .i64 y.A) k_sc_3 rfl rfl (hS3.cf (i := 1) rfl) rfl) ?_
  refine sq 9 rfl rfl (Y_add (k := .i64) (a := x.A) (b := y.A) rfl rfl rfl) ?_
  refine sq 10 rfl rfl (Y_fieldAddr (B := some ⟨b, 0, none⟩) (i := 0) (s := 0) k_fd_89_1_1_3 k_sz_3_1 rfl rfl) ?_
  refine sq 11 rfl rfl (Y_load1 (B := some ⟨b, 0, none⟩) (i := 1) (cs := [.int .i64 x.A, .int .i64 x.B, .int .i64 x.C, .int .i64 x.D]) (v := .int .i64 x.B) k_sc_3 rfl rfl (hS3.cf (i := 0) rfl) rfl) ?_
  refine sq 12 rfl rfl (Y_fieldAddr (B := some ⟨b1, 0, none⟩) (i := 0) (s := 0) k_fd_89_1_1_3 k_sz_3_1 rfl rfl) ?_
  refine sq 13 rfl rfl (Y_load1 (B := some ⟨b1, 0, none⟩) (i := 1) (cs := [.int .i64 y.A, .int .i64 y.B, .int .i64 y.C, .int .i64 y.D]) (v := .int .i64 y.B) k_sc_3 rfl rfl (hS3.cf (i := 1) rfl) rfl) ?_
  refine sq 14 rfl rfl (Y_add (k := .i64) (a := x.B) (b := y.B) rfl rfl rfl) ?_
  refine sq 15 rfl rfl (Y_fieldAddr (B := some ⟨b, 0, none⟩) (i := 0) (s := 0) k_fd_89_2_2_3 k_sz_3_1 rfl rfl) ?_
  refine sq 16 rfl rfl (Y_load1 (B := some ⟨b, 0, none⟩) (i := 2) (cs := [.int .i64 x.A, .int .i64 x.B, .int .i64 x.C, .int .i64 x.D]) (v := .int .i64 x.C) k_sc_3 rfl rfl (hS3.cf (i := 0) rfl) rfl) ?_
  refine sq 17 rfl rfl (Y_fieldAddr (B := some ⟨b1, 0, none⟩) (i := 0) (s := 0) k_fd_89_2_2_3 k_sz_3_1 rfl rfl) ?_
  refine sq 18 rfl rfl (Y_load1 (B := some ⟨b1, 0, none⟩) (i := 2) (cs := [.int .i64 y.A, .int .i64 y.B, .int .i64 y.C, .int .i64 y.D]) (v := .int .i64 y.C) k_sc_3 rfl rfl (hS3.cf (i := 1) rfl) rfl) ?_
  refine sq 19 rfl rfl (Y_add (k := .i64) (a := x.C) (b := y.C) rfl rfl rfl) ?_
  refine sq 20 rfl rfl (Y_fieldAddr (B := some ⟨b, 0, none⟩) (i := 0) (s := 0) k_fd_89_3_3_3 k_sz_3_1 rfl rfl) ?_
  refine sq 21 rfl rfl (Y_load1 (B := some ⟨b, 0, none⟩) (i := 3) (cs := [.int .i64 x.A, .int .i64 x.B, .int .i64 x.C, .int .i64 x.D]) (v := .int .i64 x.D) k_sc_3 rfl rfl (hS3.cf (i := 0) rfl) rfl) ?_
  refine sq 22 rfl rfl (Y_fieldAddr (B := some ⟨b1, 0, none⟩) (i := 0) (s := 0) k_fd_89_3_3_3 k_sz_3_1 rfl rfl) ?_
  refine sq 23 rfl rfl (Y_load1 (B := some ⟨b1, 0, none⟩) (i := 3) (cs := [.int .i64 y.A, .int .i64 y.B, .int .i64 y.C, .int .i64 y.D]) (v := .int .i64 y.D) k_sc_3 rfl rfl (hS3.cf (i := 1) rfl) rfl) ?_
  refine sq 24 rfl rfl (Y_add (k := .i64) (a := x.D) (b := y.D) rfl rfl rfl) ?_
  refine sq 25 rfl rfl (Y_buildS (zs := [.int .i64 0, .int .i64 0, .int .i64 0, .int .i64 0]) (vs := [(0, .int .i64 (IntKind.i64.wrap (x.A + y.A))), (1, .int .i64 (IntKind.i64.wrap (x.B + y.B))), (2, .int .i64 (IntKind.i64.wrap (x.C + y.C))), (3, .int .i64 (IntKind.i64.wrap (x.D + y.D)))]) (cs := [.int .i64 (IntKind.i64.wrap (x.A + y.A)), .int .i64 (IntKind.i64.wrap (x.B + y.B)), .int .i64 (IntKind.i64.wrap (x.C + y.C)), .int .i64 (IntKind.i64.wrap (x.D + y.D))]) k_pl_89 k_zero_89 rfl (mpc rfl (mpc rfl (mpc rfl (mpc rfl mpn)))) rfl) ?_
  refine ss0 rfl rfl (Ys_store (i := 2) (s := 4) (B := some ⟨b2, 0, none⟩) (T' := 89) (v := .agg #[.int .i64 (IntKind.i64.wrap (x.A + y.A)), .int .i64 (IntKind.i64.wrap (x.B + y.B)), .int .i64 (IntKind.i64.wrap (x.C + y.C)), .int .i64 (IntKind.i64.wrap (x.D + y.D))]) (vs := [.int .i64 (IntKind.i64.wrap (x.A + y.A)), .int .i64 (IntKind.i64.wrap (x.B + y.B)), .int .i64 (IntKind.i64.wrap (x.C + y.C)), .int .i64 (IntKind.i64.wrap (x.D + y.D))]) (k := 0) (cs' := [.int .i64 (IntKind.i64.wrap (x.A + y.A)), .int .i64 (IntKind.i64.wrap (x.B + y.B)), .int .i64 (IntKind.i64.wrap (x.C + y.C)), .int .i64 (IntKind.i64.wrap (x.D + y.D))]) hS3 k_sz_89_4 rfl rfl rfl rfl rfl rfl rfl (Nat.le_of_ble_eq_true rfl) rfl rfl) ?_
  rintro _ w_3 ⟨rfl, hS4⟩
  have hS4 : ST w0 [] _ [⟨some ⟨b, 0, none⟩, 89, [.int .i64 x.A, .int .i64 x.B, .int .i64 x.C, .int .i64 x.D], 4⟩, ⟨some ⟨b1, 0, none⟩, 89, [.int .i64 y.A, .int .i64 y.B, .int .i64 y.C, .int .i64 y.D], 4⟩, ⟨some ⟨b2, 0, none⟩, 89, [.int .i64 (IntKind.i64.wrap (x.A + y.A)), .int .i64 (IntKind.i64.wrap (x.B + y.B)), .int .i64 (IntKind.i64.wrap (x.C + y.C)), .int .i64 (IntKind.i64.wrap (x.D + y.D))], 4⟩] [] := hS4
  refine rw_nil ?_
  refine cw_ret ?_
  obtain rfl := some_inj hF
  exact ret1 Try.results181 (v1 := .agg #[.int .i64 (IntKind.i64.wrap (x.A + y.A)), .int .i64 (IntKind.i64.wrap (x.B + y.B)), .int .i64 (IntKind.i64.wrap (x.C + y.C)), .int .i64 (IntKind.i64.wrap (x.D + y.D))]) (resAt_cellA (B := some ⟨b2, 0, none⟩) (i := 0) (cs := [.int .i64 (IntKind.i64.wrap (x.A + y.A)), .int .i64 (IntKind.i64.wrap (x.B + y.B)), .int .i64 (IntKind.i64.wrap (x.C + y.C)), .int .i64 (IntKind.i64.wrap (x.D + y.D))]) (vs := [.int .i64 (IntKind.i64.wrap (x.A + y.A)), .int .i64 (IntKind.i64.wrap (x.B + y.B)), .int .i64 (IntKind.i64.wrap (x.C + y.C)), .int .i64 (IntKind.i64.wrap (x.D + y.D))]) rfl k_ag_89 k_sz_89_4 (hS4.cf (i := 2) rfl) rfl rfl) ⟨rfl, (ST.subR (R' := []) (hS4.sel [] rfl rfl) (fun _ h => by cases h))⟩
end Go.VK
