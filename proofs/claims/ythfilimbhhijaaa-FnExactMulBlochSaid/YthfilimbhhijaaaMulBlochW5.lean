/- Walks: each Go function returns what its Lean function says. By program. -/
import Derived.Test.YthfilimbhhijaaaMulBlochFa
import Derived.Test.YthfilimbhhijaaaMulBlochW4
set_option linter.unusedVariables false
set_option maxRecDepth 100000
set_option maxHeartbeats 1000000
namespace Go.VK
open Go.RowKit
open Go.Proofs
attribute [local irreducible] CW RW RA CV Y Yw Yc Ys RetOf
attribute [local irreducible] F_laws_szDyadicS F_laws_szBloch F_laws_toRing F_laws_toDyadic F_laws_toDyadicS F_laws_toBloch F_laws_eqRing F_laws_eqDyadic F_laws_eqDyadicS F_laws_eqBloch F_laws_markDyadicS F_laws_markBloch F_laws_heldDyadicS F_laws_heldBloch F_spec_l9Turn F_spec_l1Even F_spec_l1Root F_spec_l1Half F_spec_l2Low F_spec_l1In F_spec_l1All F_spec_l1Good F_spec_l2C_ring F_spec_l1Mul F_spec_l2C_mul F_spec_l1Add F_spec_l2C_add F_spec_l2C_bloch F_spec_l2Good F_spec_l1Neg F_spec_l2Neg F_spec_l2C_minor F_spec_l9Same F_spec_l1Turn F_spec_l2Power F_spec_l9Unit F_spec_l9Valid F_spec_MulBloch F_slices_IndexFunc_impl_Dyadic_impl_Dyadic F_slices_ContainsFunc_impl_Dyadic_impl_Dyadic F_impl_within F_impl_isCoef F_impl_IsValidRing F_impl_isEven F_impl_IsValidDyadic F_impl_isReal F_impl_IsValidBloch_1 F_impl_ringIf F_impl_MulRing F_impl_DivRootTwo F_impl_DyadicOf F_impl_MulDyadic F_impl_MulRootTwo F_impl_raised F_impl_combined F_impl_AddRing F_impl_AddDyadic F_impl_mulBloch F_impl_transposed F_impl_SubRing F_impl_SubDyadic F_impl_minor F_impl_determinant F_impl_whole F_impl_small F_impl_IsValidBloch F_impl_MulBloch F_laws_FnExactMulBloch
theorem c_impl_MulBloch (a : TBloch) (b : TBloch) (B : Option Addr) (c n : Nat) (B1 : Option Addr) (c1 n1 : Nat) (w0 : World) (hn : a.Cells.length = n) (hn1 : b.Cells.length = n1) (hS : ST w0 [] w0 [] [⟨B, (a.Cells.flatMap enc_Dyadic)⟩, ⟨B1, (b.Cells.flatMap enc_Dyadic)⟩]) {r_ : TBloch} {r_1 : Bool} (hF : F_impl_MulBloch a b = some (r_, r_1)) :
    CV Try.prog 57 #[.agg #[.slice B n c], .agg #[.slice B1 n1 c1]] w0 (fun v w' => ∃ (B2 : Option Addr) (c2 : Nat), v = .tuple #[.agg #[.slice B2 r_.Cells.length c2], .bool r_1] ∧ ST w0 [] w' [⟨B2, 91, (r_.Cells.flatMap enc_Dyadic), c2 * 5⟩] []) := by
  subst hn
  subst hn1
  unfold F_impl_MulBloch at hF
  refine cv_of_cw 28 Try.func57 rfl Try.ntmps57 rfl ?_
  refine cw_seq ?_
  refine cw_region ?_
  refine ss 2 rfl rfl (Ys_box (T := 29) (v := .agg #[.slice B a.Cells.length c]) (cs := [.slice B a.Cells.length c]) (m := 1) hS rfl rfl rfl rfl) ?_
  rintro _ w_ ⟨b1, rfl, hS1⟩
  refine ss 3 rfl rfl (Ys_box (T := 29) (v := .agg #[.slice B1 b.Cells.length c1]) (cs := [.slice B1 b.Cells.length c1]) (m := 1) hS1 rfl rfl rfl rfl) ?_
  rintro _ w_1 ⟨b2, rfl, hS2⟩
  have hS2 : ST w0 [] _ [⟨some ⟨b1, 0, none⟩, 29, [.slice B a.Cells.length c], 1⟩, ⟨some ⟨b2, 0, none⟩, 29, [.slice B1 b.Cells.length c1], 1⟩] [⟨B, (a.Cells.flatMap enc_Dyadic)⟩, ⟨B1, (b.Cells.flatMap enc_Dyadic)⟩] := hS2
  refine ss 4 rfl rfl (Ys_alloc (T := 29) (cs := [.slice none 0 0]) (m := 1) hS2 k_zero_29 rfl rfl rfl) ?_
  rintro _ w_2 ⟨b3, rfl, hS3⟩
  have hS3 : ST w0 [] _ [⟨some ⟨b1, 0, none⟩, 29, [.slice B a.Cells.length c], 1⟩, ⟨some ⟨b2, 0, none⟩, 29, [.slice B1 b.Cells.length c1], 1⟩, ⟨some ⟨b3, 0, none⟩, 29, [.slice none 0 0], 1⟩] [⟨B, (a.Cells.flatMap enc_Dyadic)⟩, ⟨B1, (b.Cells.flatMap enc_Dyadic)⟩] := hS3
  refine sq 5 rfl rfl (Y_assign (v := .bool false) rfl rfl) ?_
  refine rw_nil ?_
  refine cw_seq ?_
  refine cw_seq ?_
  refine cw_region ?_
  refine sq 8 rfl rfl (Y_loadA (B := some ⟨b1, 0, none⟩) (i := 0) (cs := [.slice B a.Cells.length c]) (vs := [.slice B a.Cells.length c]) k_ag_29 k_sz_29_1 rfl rfl (hS3.cf (i := 0) rfl) rfl rfl) ?_
  obtain ⟨r_2, hc, hF⟩ := bind_inv hF
  refine sc 9 rfl rfl (Yc_func (g := 18) (vs := [.agg #[.slice B a.Cells.length c]]) k_call_18 rfl (mc rfl mn) (c_impl_IsValidBloch a B c a.Cells.length _ rfl (hS3.inn0 [(true, 0)] rfl) hc)) ?_
  rintro _ w_3 ⟨rfl, hd⟩
  have hS4 := hS3.out00 hd
  have hS4 : ST w0 [] _ [⟨some ⟨b1, 0, none⟩, 29, [.slice B a.Cells.length c], 1⟩, ⟨some ⟨b2, 0, none⟩, 29, [.slice B1 b.Cells.length c1], 1⟩, ⟨some ⟨b3, 0, none⟩, 29, [.slice none 0 0], 1⟩] [⟨B, (a.Cells.flatMap enc_Dyadic)⟩, ⟨B1, (b.Cells.flatMap enc_Dyadic)⟩] := hS4
  refine sq 10 rfl rfl (Y_not (p := r_2) rfl rfl) ?_
  refine sq 11 rfl rfl (Y_move (v := .bool (!r_2)) rfl rfl) ?_
  refine sgq 12 (B := (!(!r_2))) (v := .agg #[.slice B1 b.Cells.length c1]) rfl rfl (wt_f (gd_of (t := 11) (by kernel_rfl) rfl)) (fun hg => (Y_loadA (B := some ⟨b2, 0, none⟩) (i := 0) (cs := [.slice B1 b.Cells.length c1]) (vs := [.slice B1 b.Cells.length c1]) k_ag_29 k_sz_29_1 rfl rfl (hS4.cf (i := 1) rfl) rfl rfl)) ?_
  obtain ⟨r_3, hc1, hF⟩ := bind_inv hF
  refine sgc 13 (B := (!(!r_2))) (v := .bool r_3) (F := hS4.fn) rfl rfl (wt_f (gd_of (t := 11) (by kernel_rfl) rfl)) hS4 (fun hg1 => (Yc_func (g := 18) (vs := [.agg #[.slice B1 b.Cells.length c1]]) k_call_18 rfl (mc (gv_of (B := (!(!r_2))) (v := .agg #[.slice B1 b.Cells.length c1]) hg1) mn) (CV.mono (c_impl_IsValidBloch b B1 c1 b.Cells.length _ rfl (hS4.inn0 [(true, 1)] rfl) (gb_inv hc1 hg1)) (by rintro _ _ ⟨rfl, h⟩; exact ⟨rfl, hS4.out00 h⟩)))) ?_
  rintro w_4 hS5
  have hS5 : ST _ _ w_4 _ _ := hS5
  refine sgq 14 (B := (!(!r_2))) (v := .bool (!r_3)) rfl rfl (wt_f (gd_of (t := 11) (by kernel_rfl) rfl)) (fun hg2 => (Y_not (p := r_3) rfl (gv_of (B := (!(!r_2))) (v := .bool r_3) hg2))) ?_
  refine sq 15 rfl rfl (Y_or (b := (!r_2)) (z := (!r_3)) rfl rfl rfl rfl) ?_
  refine rw_nil ?_
  refine cw_cond (b := ((!r_2) || (!r_3))) rfl (fun hb => ?_) (fun hb => ?_)
  · skip
    have hF1 := ct hF hb
    refine cw_seq ?_
    refine cw_region ?_
    refine sq 16 rfl rfl (Y_buildS (zs := [.slice none 0 0]) (vs := []) (cs := [.slice none 0 0]) k_pl_29 k_zero_29 rfl mpn rfl) ?_
    refine ss0 rfl rfl (Ys_store (i := 2) (s := 1) (B := some ⟨b3, 0, none⟩) (T' := 29) (v := .agg #[.slice none 0 0]) (vs := [.slice none 0 0]) (k := 0) (cs' := [.slice none 0 0]) hS5 k_sz_29_1 rfl rfl rfl rfl rfl rfl rfl (Nat.le_of_ble_eq_true rfl) rfl rfl) ?_
    rintro _ w_5 ⟨rfl, hS6⟩
    have hS6 : ST w0 [] _ [⟨some ⟨b1, 0, none⟩, 29, [.slice B a.Cells.length c], 1⟩, ⟨some ⟨b2, 0, none⟩, 29, [.slice B1 b.Cells.length c1], 1⟩, ⟨some ⟨b3, 0, none⟩, 29, [.slice none 0 0], 1⟩] [⟨B, (a.Cells.flatMap enc_Dyadic)⟩, ⟨B1, (b.Cells.flatMap enc_Dyadic)⟩] := hS6
    refine sq 5 rfl rfl (Y_assign (v := .bool false) rfl rfl) ?_
    refine rw_nil ?_
    refine cw_ret ?_
    have hS7 := hS6.addNil 91
    obtain ⟨rfl, rfl⟩ := pr2 (some_inj hF1)
    exact ret2 Try.results57 (v1 := .agg #[.slice none 0 0]) (resAt_cellA (B := some ⟨b3, 0, none⟩) (i := 0) (cs := [.slice none 0 0]) (vs := [.slice none 0 0]) rfl k_ag_29 k_sz_29_1 (hS7.cf (i := 2) rfl) rfl rfl) (v2 := .bool false) (resAt_tmp rfl) ⟨none, 0, rfl, (ST.subR (R' := []) (hS7.sel [3] rfl rfl) (fun _ h => by cases h))⟩
  · skip
    have hF2 := cf' hF hb
    refine cw_skip ?_
    refine cw_seq ?_
    refine cw_region ?_
    refine sq 18 rfl rfl (Y_fieldAddr (B := some ⟨b1, 0, none⟩) (i := 0) (s := 0) k_fd_29_0_0_27 k_sz_27_1 rfl rfl) ?_
    refine sq 19 rfl rfl (Y_load1 (B := some ⟨b1, 0, none⟩) (i := 0) (cs := [.slice B a.Cells.length c]) (v := .slice B a.Cells.length c) k_sc_27 rfl rfl (hS5.cf (i := 0) rfl) rfl) ?_
    refine sq 20 rfl rfl (Y_fieldAddr (B := some ⟨b2, 0, none⟩) (i := 0) (s := 0) k_fd_29_0_0_27 k_sz_27_1 rfl rfl) ?_
    refine sq 21 rfl rfl (Y_load1 (B := some ⟨b2, 0, none⟩) (i := 0) (cs := [.slice B1 b.Cells.length c1]) (v := .slice B1 b.Cells.length c1) k_sc_27 rfl rfl (hS5.cf (i := 1) rfl) rfl) ?_
    obtain ⟨⟨r_4, r_5⟩, hc2, hF2⟩ := bind_inv hF2
    refine sc 22 rfl rfl (Yc_func (g := 64) (vs := [.slice B a.Cells.length c, .slice B1 b.Cells.length c1]) k_call_64 rfl (mc rfl (mc rfl mn)) (c_impl_mulBloch a.Cells b.Cells B c a.Cells.length B1 c1 b.Cells.length _ rfl rfl (hS5.inn0 [(true, 0), (true, 1)] rfl) hc2)) ?_
    rintro _ w_6 ⟨B3, c3, rfl, hd1⟩
    have hS8 := hS5.out0 hd1
    have hS8 : ST w0 [] _ [⟨some ⟨b1, 0, none⟩, 29, [.slice B a.Cells.length c], 1⟩, ⟨some ⟨b2, 0, none⟩, 29, [.slice B1 b.Cells.length c1], 1⟩, ⟨some ⟨b3, 0, none⟩, 29, [.slice none 0 0], 1⟩, ⟨B3, 91, (r_4.flatMap enc_Dyadic), c3 * 5⟩] [⟨B, (a.Cells.flatMap enc_Dyadic)⟩, ⟨B1, (b.Cells.flatMap enc_Dyadic)⟩] := hS8
    refine sq 17 rfl rfl (Y_move (v := .tuple #[.slice B3 r_4.length c3, .bool r_5]) rfl rfl) ?_
    refine sq 23 rfl rfl (Y_extract (v := .slice B3 r_4.length c3) rfl rfl rfl) ?_
    refine sq 24 rfl rfl (Y_extract (v := .bool r_5) rfl rfl rfl) ?_
    refine sq 6 rfl rfl (Y_assign (v := .slice B3 r_4.length c3) rfl rfl) ?_
    refine sq 7 rfl rfl (Y_assign (v := .bool r_5) rfl rfl) ?_
    refine rw_nil ?_
    refine cw_seq ?_
    refine cw_region ?_
    refine sq 25 rfl rfl (Y_move (v := .slice B3 r_4.length c3) rfl rfl) ?_
    refine sq 26 rfl rfl (Y_buildS (zs := [.slice none 0 0]) (vs := [(0, .slice B3 r_4.length c3)]) (cs := [.slice B3 r_4.length c3]) k_pl_29 k_zero_29 rfl (mpc rfl mpn) rfl) ?_
    refine sq 27 rfl rfl (Y_move (v := .bool r_5) rfl rfl) ?_
    refine ss0 rfl rfl (Ys_store (i := 2) (s := 1) (B := some ⟨b3, 0, none⟩) (T' := 29) (v := .agg #[.slice B3 r_4.length c3]) (vs := [.slice B3 r_4.length c3]) (k := 0) (cs' := [.slice B3 r_4.length c3]) hS8 k_sz_29_1 rfl rfl rfl rfl rfl rfl rfl (Nat.le_of_ble_eq_true rfl) rfl rfl) ?_
    rintro _ w_7 ⟨rfl, hS9⟩
    have hS9 : ST w0 [] _ [⟨some ⟨b1, 0, none⟩, 29, [.slice B a.Cells.length c], 1⟩, ⟨some ⟨b2, 0, none⟩, 29, [.slice B1 b.Cells.length c1], 1⟩, ⟨some ⟨b3, 0, none⟩, 29, [.slice B3 r_4.length c3], 1⟩, ⟨B3, 91, (r_4.flatMap enc_Dyadic), c3 * 5⟩] [⟨B, (a.Cells.flatMap enc_Dyadic)⟩, ⟨B1, (b.Cells.flatMap enc_Dyadic)⟩] := hS9
    refine sq 5 rfl rfl (Y_assign (v := .bool r_5) rfl rfl) ?_
    refine rw_nil ?_
    refine cw_ret ?_
    obtain ⟨rfl, rfl⟩ := pr2 (some_inj hF2)
    exact ret2 Try.results57 (v1 := .agg #[.slice B3 r_4.length c3]) (resAt_cellA (B := some ⟨b3, 0, none⟩) (i := 0) (cs := [.slice B3 r_4.length c3]) (vs := [.slice B3 r_4.length c3]) rfl k_ag_29 k_sz_29_1 (hS9.cf (i := 2) rfl) rfl rfl) (v2 := .bool r_5) (resAt_tmp rfl) ⟨B3, c3, rfl, (ST.subR (R' := []) (hS9.sel [3] rfl rfl) (fun _ h => by cases h))⟩

theorem c_laws_FnExactMulBloch (aA : TBloch) (aB : TBloch) (B : Option Addr) (c n : Nat) (B1 : Option Addr) (c1 n1 : Nat) (w0 : World) (hn : aA.Cells.length = n) (hn1 : aB.Cells.length = n1) (hS : ST w0 [] w0 [] [⟨B, (aA.Cells.flatMap enc_Dyadic)⟩, ⟨B1, (aB.Cells.flatMap enc_Dyadic)⟩]) {r_ : Bool} (hF : F_laws_FnExactMulBloch aA aB = some r_) :
    CV Try.prog 14 #[.agg #[.slice B n c], .agg #[.slice B1 n1 c1]] w0 (fun v w' => v = .bool r_ ∧ ST w0 [] w' [] []) := by
  subst hn
  subst hn1
  unfold F_laws_FnExactMulBloch at hF
  refine cv_of_cw 119 Try.func14 rfl Try.ntmps14 rfl ?_
  refine cw_seq ?_
  refine cw_region ?_
  refine ss 2 rfl rfl (Ys_box (T := 24) (v := .agg #[.slice B aA.Cells.length c]) (cs := [.slice B aA.Cells.length c]) (m := 1) hS rfl rfl rfl rfl) ?_
  rintro _ w_ ⟨b, rfl, hS1⟩
  refine ss 3 rfl rfl (Ys_box (T := 24) (v := .agg #[.slice B1 aB.Cells.length c1]) (cs := [.slice B1 aB.Cells.length c1]) (m := 1) hS1 rfl rfl rfl rfl) ?_
  rintro _ w_1 ⟨b1, rfl, hS2⟩
  have hS2 : ST w0 [] _ [⟨some ⟨b, 0, none⟩, 24, [.slice B aA.Cells.length c], 1⟩, ⟨some ⟨b1, 0, none⟩, 24, [.slice B1 aB.Cells.length c1], 1⟩] [⟨B, (aA.Cells.flatMap enc_Dyadic)⟩, ⟨B1, (aB.Cells.flatMap enc_Dyadic)⟩] := hS2
  refine sq 4 rfl rfl (Y_assign (v := .bool false) rfl rfl) ?_
  refine rw_nil ?_
  refine cw_seq ?_
  refine cw_region ?_
  refine sq 5 rfl rfl (Y_assign (v := .int .i64 1048576) rfl rfl) ?_
  refine rw_nil ?_
  refine cw_seq ?_
  refine cw_region ?_
  refine sq 17 rfl rfl (Y_loadA (B := some ⟨b, 0, none⟩) (i := 0) (cs := [.slice B aA.Cells.length c]) (vs := [.slice B aA.Cells.length c]) k_ag_24 k_sz_24_1 rfl rfl (hS2.cf (i := 0) rfl) rfl rfl) ?_
  refine sq 18 rfl rfl (Y_move (v := .int .i64 1048576) rfl rfl) ?_
  obtain ⟨r_1, hc, hF⟩ := bind_inv hF
  refine sc 19 rfl rfl (Yc_func (g := 15) (vs := [.agg #[.slice B aA.Cells.length c], .int .i64 1048576]) k_call_15 rfl (mc rfl (mc rfl mn)) (c_laws_szBloch aA 1048576 B c aA.Cells.length _ rfl (hS2.inn0 [(true, 0)] rfl) hc)) ?_
  rintro _ w_2 ⟨rfl, hd⟩
  have hS3 := hS2.out00 hd
  have hS3 : ST w0 [] _ [⟨some ⟨b, 0, none⟩, 24, [.slice B aA.Cells.length c], 1⟩, ⟨some ⟨b1, 0, none⟩, 24, [.slice B1 aB.Cells.length c1], 1⟩] [⟨B, (aA.Cells.flatMap enc_Dyadic)⟩, ⟨B1, (aB.Cells.flatMap enc_Dyadic)⟩] := hS3
  refine sq 5 rfl rfl (Y_assign (v := .int .i64 r_1) rfl rfl) ?_
  refine rw_nil ?_
  refine cw_seq ?_
  refine cw_seq ?_
  refine cw_region ?_
  refine sq 20 rfl rfl (Y_move (v := .int .i64 r_1) rfl rfl) ?_
  refine sq 21 rfl rfl (Y_lt (k := .i64) (a := r_1) (b := 0) rfl rfl rfl) ?_
  refine rw_nil ?_
  refine cw_cond (b := (decide (r_1 < 0))) rfl (fun hb => ?_) (fun hb => ?_)
  · skip
    have hF1 := ct hF hb
    refine cw_seq ?_
    refine cw_region ?_
    refine sq 4 rfl rfl (Y_assign (v := .bool true) rfl rfl) ?_
    refine rw_nil ?_
    refine cw_ret ?_
    obtain rfl := some_inj hF1
    exact ret1 Try.results14 (v1 := .bool true) (resAt_tmp rfl) ⟨rfl, (ST.subR (R' := []) (hS3.sel [] rfl rfl) (fun _ h => by cases h))⟩
  · skip
    have hF2 := cf' hF hb
    refine cw_skip ?_
    refine cw_seq ?_
    refine cw_region ?_
    refine sq 22 rfl rfl (Y_loadA (B := some ⟨b1, 0, none⟩) (i := 0) (cs := [.slice B1 aB.Cells.length c1]) (vs := [.slice B1 aB.Cells.length c1]) k_ag_24 k_sz_24_1 rfl rfl (hS3.cf (i := 1) rfl) rfl rfl) ?_
    refine sq 23 rfl rfl (Y_move (v := .int .i64 r_1) rfl rfl) ?_
    obtain ⟨r_2, hc1, hF2⟩ := bind_inv hF2
    refine sc 24 rfl rfl (Yc_func (g := 15) (vs := [.agg #[.slice B1 aB.Cells.length c1], .int .i64 r_1]) k_call_15 rfl (mc rfl (mc rfl mn)) (c_laws_szBloch aB r_1 B1 c1 aB.Cells.length _ rfl (hS3.inn0 [(true, 1)] rfl) hc1)) ?_
    rintro _ w_3 ⟨rfl, hd1⟩
    have hS4 := hS3.out00 hd1
    have hS4 : ST w0 [] _ [⟨some ⟨b, 0, none⟩, 24, [.slice B aA.Cells.length c], 1⟩, ⟨some ⟨b1, 0, none⟩, 24, [.slice B1 aB.Cells.length c1], 1⟩] [⟨B, (aA.Cells.flatMap enc_Dyadic)⟩, ⟨B1, (aB.Cells.flatMap enc_Dyadic)⟩] := hS4
    refine sq 5 rfl rfl (Y_assign (v := .int .i64 r_2) rfl rfl) ?_
    refine rw_nil ?_
    refine cw_seq ?_
    refine cw_seq ?_
    refine cw_region ?_
    refine sq 25 rfl rfl (Y_move (v := .int .i64 r_2) rfl rfl) ?_
    refine sq 26 rfl rfl (Y_lt (k := .i64) (a := r_2) (b := 0) rfl rfl rfl) ?_
    refine rw_nil ?_
    refine cw_cond (b := (decide (r_2 < 0))) rfl (fun hb1 => ?_) (fun hb1 => ?_)
    · skip
      have hF3 := ct hF2 hb1
      refine cw_seq ?_
      refine cw_region ?_
      refine sq 4 rfl rfl (Y_assign (v := .bool true) rfl rfl) ?_
      refine rw_nil ?_
      refine cw_ret ?_
      obtain rfl := some_inj hF3
      exact ret1 Try.results14 (v1 := .bool true) (resAt_tmp rfl) ⟨rfl, (ST.subR (R' := []) (hS4.sel [] rfl rfl) (fun _ h => by cases h))⟩
    · skip
      have hF4 := cf' hF2 hb1
      refine cw_skip ?_
      refine cw_seq ?_
      obtain ⟨r_3, hc2, hF4⟩ := bind_inv hF4
      obtain ⟨r_4, hc3, hF4⟩ := bind_inv hF4
      obtain ⟨⟨r_5, r_6⟩, hc4, hF4⟩ := bind_inv hF4
      refine cw_mid (fun f w => ∃ (B5 : Option Addr) (B6 : Option Addr) (c5 : Nat), FF f [(2, pt (some ⟨b, 0, none⟩) 0), (3, pt (some ⟨b1, 0, none⟩) 0), (6, pt B5 0), (7, .bool r_6)] ∧ ST w0 [] w [⟨some ⟨b, 0, none⟩, 24, [.slice B aA.Cells.length c], 1⟩, ⟨some ⟨b1, 0, none⟩, 24, [.slice B1 aB.Cells.length c1], 1⟩, ⟨B5, 29, [.slice B6 r_5.Cells.length c5], 1⟩, ⟨B6, 91, (r_5.Cells.flatMap enc_Dyadic), c5 * 5⟩] [⟨B, (aA.Cells.flatMap enc_Dyadic)⟩, ⟨B1, (aB.Cells.flatMap enc_Dyadic)⟩]) ?_ ?_
      · skip
        refine ra_start (ST.sel hS4 [0, 1] rfl rfl).fn (by kernel_rfl) ?_
        have hS9 := hS4.drew
        refine ra_q 0 28 (v := .agg #[.slice B aA.Cells.length c]) rfl rfl rfl (by kernel_rfl) (by kernel_rfl) (by kernel_rfl) (ST.sel hS9 [0, 1] rfl rfl) (fun w' hw' => (Y_loadA (B := some ⟨b, 0, none⟩) (i := 0) (cs := [.slice B aA.Cells.length c]) (vs := [.slice B aA.Cells.length c]) k_ag_24 k_sz_24_1 rfl rfl (ST.cf hw' (i := 0) rfl) rfl rfl)) ?_
        refine ra_q 2 30 (v := .agg #[.slice B1 aB.Cells.length c1]) rfl rfl rfl (by kernel_rfl) (by kernel_rfl) (by kernel_rfl) (ST.sel hS9 [0, 1] rfl rfl) (fun w' hw' => (Y_loadA (B := some ⟨b1, 0, none⟩) (i := 0) (cs := [.slice B1 aB.Cells.length c1]) (vs := [.slice B1 aB.Cells.length c1]) k_ag_24 k_sz_24_1 rfl rfl (ST.cf hw' (i := 1) rfl) rfl rfl)) ?_
        refine ra_all (rs := [1, 8]) (by kernel_rfl) rfl ?_
        refine ra_c 29 (i := 1) rfl rfl rfl (Yc_func (g := 17) (vs := [.agg #[.slice B aA.Cells.length c]]) k_call_17 rfl (mc rfl mn) (c_laws_toBloch aA B c aA.Cells.length _ rfl (hS9.inn0 [(true, 0)] rfl) hc2)) ?_ ?_
        · rintro _ w_4 ⟨B2, c2, rfl, hd2⟩
          have hS10 := hS9.out0 hd2
          have hS10 : ST w0 [] _ [⟨some ⟨b, 0, none⟩, 24, [.slice B aA.Cells.length c], 1⟩, ⟨some ⟨b1, 0, none⟩, 24, [.slice B1 aB.Cells.length c1], 1⟩, ⟨B2, 91, (r_3.Cells.flatMap enc_Dyadic), c2 * 5⟩] [⟨B, (aA.Cells.flatMap enc_Dyadic)⟩, ⟨B1, (aB.Cells.flatMap enc_Dyadic)⟩] := hS10
          refine ⟨(ST.sel hS10 [0, 1] rfl rfl), ?_⟩
          refine ra_all (rs := [3, 8]) (by kernel_rfl) rfl ?_
          refine ra_c 31 (i := 3) rfl rfl rfl (Yc_func (g := 17) (vs := [.agg #[.slice B1 aB.Cells.length c1]]) k_call_17 rfl (mc rfl mn) (c_laws_toBloch aB B1 c1 aB.Cells.length _ rfl (hS10.inn0 [(true, 1)] rfl) hc3)) ?_ ?_
          · rintro _ w_5 ⟨B3, c3, rfl, hd3⟩
            have hS11 := hS10.out0 hd3
            have hS11 : ST w0 [] _ [⟨some ⟨b, 0, none⟩, 24, [.slice B aA.Cells.length c], 1⟩, ⟨some ⟨b1, 0, none⟩, 24, [.slice B1 aB.Cells.length c1], 1⟩, ⟨B2, 91, (r_3.Cells.flatMap enc_Dyadic), c2 * 5⟩, ⟨B3, 91, (r_4.Cells.flatMap enc_Dyadic), c3 * 5⟩] [⟨B, (aA.Cells.flatMap enc_Dyadic)⟩, ⟨B1, (aB.Cells.flatMap enc_Dyadic)⟩] := hS11
            refine ⟨(ST.sel hS11 [0, 1] rfl rfl), ?_⟩
            refine ra_all (rs := [4, 8]) (by kernel_rfl) rfl ?_
            refine ra_c 32 (i := 4) rfl rfl rfl (Yc_func (g := 56) (vs := [.agg #[.slice B2 r_3.Cells.length c2], .agg #[.slice B3 r_4.Cells.length c3]]) k_call_56 rfl (mc rfl (mc rfl mn)) (c_spec_MulBloch r_3 r_4 B2 c2 r_3.Cells.length B3 c3 r_4.Cells.length _ rfl rfl (hS11.inn0 [(false, 2), (false, 3)] rfl) hc4)) ?_ ?_
            · rintro _ w_6 ⟨B4, c4, rfl, hd4⟩
              have hS12 := hS11.out0 hd4
              have hS12 : ST w0 [] _ [⟨some ⟨b, 0, none⟩, 24, [.slice B aA.Cells.length c], 1⟩, ⟨some ⟨b1, 0, none⟩, 24, [.slice B1 aB.Cells.length c1], 1⟩, ⟨B2, 91, (r_3.Cells.flatMap enc_Dyadic), c2 * 5⟩, ⟨B3, 91, (r_4.Cells.flatMap enc_Dyadic), c3 * 5⟩, ⟨B4, 91, (r_5.Cells.flatMap enc_Dyadic), c4 * 5⟩] [⟨B, (aA.Cells.flatMap enc_Dyadic)⟩, ⟨B1, (aB.Cells.flatMap enc_Dyadic)⟩] := hS12
              refine ⟨(ST.sel hS12 [0, 1] rfl rfl), ?_⟩
              refine ra_q 5 27 (v := .tuple #[.agg #[.slice B4 r_5.Cells.length c4], .bool r_6]) rfl rfl rfl (by kernel_rfl) (by kernel_rfl) (by kernel_rfl) (ST.sel hS12 [0, 1] rfl rfl) (fun w' hw' => (Y_move (v := .tuple #[.agg #[.slice B4 r_5.Cells.length c4], .bool r_6]) rfl rfl)) ?_
              refine ra_q 6 33 (v := .agg #[.slice B4 r_5.Cells.length c4]) rfl rfl rfl (by kernel_rfl) (by kernel_rfl) (by kernel_rfl) (ST.sel hS12 [0, 1] rfl rfl) (fun w' hw' => (Y_extract (v := .agg #[.slice B4 r_5.Cells.length c4]) rfl rfl rfl)) ?_
              refine ra_q 7 34 (v := .bool r_6) rfl rfl rfl (by kernel_rfl) (by kernel_rfl) (by kernel_rfl) (ST.sel hS12 [0, 1] rfl rfl) (fun w' hw' => (Y_extract (v := .bool r_6) rfl rfl rfl)) ?_
              refine ra_all (rs := [8]) (by kernel_rfl) rfl ?_
              refine ra_s 6 (i := 8) rfl rfl rfl (Ys_alloc (T := 29) (cs := [.slice none 0 0]) (m := 1) hS12 k_zero_29 rfl rfl rfl) ?_ ?_
              · rintro _ w_7 ⟨b2, rfl, hS13⟩
                have hS13 : ST w0 [] _ [⟨some ⟨b, 0, none⟩, 24, [.slice B aA.Cells.length c], 1⟩, ⟨some ⟨b1, 0, none⟩, 24, [.slice B1 aB.Cells.length c1], 1⟩, ⟨B2, 91, (r_3.Cells.flatMap enc_Dyadic), c2 * 5⟩, ⟨B3, 91, (r_4.Cells.flatMap enc_Dyadic), c3 * 5⟩, ⟨B4, 91, (r_5.Cells.flatMap enc_Dyadic), c4 * 5⟩, ⟨some ⟨b2, 0, none⟩, 29, [.slice none 0 0], 1⟩] [⟨B, (aA.Cells.flatMap enc_Dyadic)⟩, ⟨B1, (aB.Cells.flatMap enc_Dyadic)⟩] := hS13
                refine ⟨(ST.sel hS13 [0, 1] rfl rfl), ?_⟩
                refine ra_all (rs := [9]) (by kernel_rfl) rfl ?_
                refine ra_s0 (i := 9) rfl rfl rfl (Ys_store (i := 5) (s := 1) (B := some ⟨b2, 0, none⟩) (T' := 29) (v := .agg #[.slice B4 r_5.Cells.length c4]) (vs := [.slice B4 r_5.Cells.length c4]) (k := 0) (cs' := [.slice B4 r_5.Cells.length c4]) hS13 k_sz_29_1 rfl rfl rfl rfl rfl rfl rfl (Nat.le_of_ble_eq_true rfl) rfl rfl) ?_ ?_
                · rintro _ w_8 ⟨rfl, hS14⟩
                  have hS14 : ST w0 [] _ [⟨some ⟨b, 0, none⟩, 24, [.slice B aA.Cells.length c], 1⟩, ⟨some ⟨b1, 0, none⟩, 24, [.slice B1 aB.Cells.length c1], 1⟩, ⟨B2, 91, (r_3.Cells.flatMap enc_Dyadic), c2 * 5⟩, ⟨B3, 91, (r_4.Cells.flatMap enc_Dyadic), c3 * 5⟩, ⟨B4, 91, (r_5.Cells.flatMap enc_Dyadic), c4 * 5⟩, ⟨some ⟨b2, 0, none⟩, 29, [.slice B4 r_5.Cells.length c4], 1⟩] [⟨B, (aA.Cells.flatMap enc_Dyadic)⟩, ⟨B1, (aB.Cells.flatMap enc_Dyadic)⟩] := hS14
                  refine ⟨(ST.sel hS14 [0, 1] rfl rfl), ?_⟩
                  refine ra_q 10 7 (v := .bool r_6) rfl rfl rfl (by kernel_rfl) (by kernel_rfl) (by kernel_rfl) (ST.sel hS14 [0, 1] rfl rfl) (fun w' hw' => (Y_assign (v := .bool r_6) rfl rfl)) ?_
                  refine ra_done (by kernel_rfl) ?_
                  exact ⟨some ⟨b2, 0, none⟩, B4, c4, (FF.cons rfl (FF.cons rfl (FF.cons rfl (FF.cons rfl FF.nil)))), (hS14.sel [0, 1, 5, 4] rfl rfl)⟩
                exact allR_nil
              exact allR_nil
            refine ra_s 6 (i := 8) rfl rfl rfl (Ys_alloc (T := 29) (cs := [.slice none 0 0]) (m := 1) hS11 k_zero_29 rfl rfl rfl) ?_ ?_
            · rintro _ w_9 ⟨b2, rfl, hS15⟩
              have hS15 : ST w0 [] _ [⟨some ⟨b, 0, none⟩, 24, [.slice B aA.Cells.length c], 1⟩, ⟨some ⟨b1, 0, none⟩, 24, [.slice B1 aB.Cells.length c1], 1⟩, ⟨B2, 91, (r_3.Cells.flatMap enc_Dyadic), c2 * 5⟩, ⟨B3, 91, (r_4.Cells.flatMap enc_Dyadic), c3 * 5⟩, ⟨some ⟨b2, 0, none⟩, 29, [.slice none 0 0], 1⟩] [⟨B, (aA.Cells.flatMap enc_Dyadic)⟩, ⟨B1, (aB.Cells.flatMap enc_Dyadic)⟩] := hS15
              refine ⟨(ST.sel hS15 [0, 1] rfl rfl), ?_⟩
              refine ra_all (rs := [4]) (by kernel_rfl) rfl ?_
              refine ra_c 32 (i := 4) rfl rfl rfl (Yc_func (g := 56) (vs := [.agg #[.slice B2 r_3.Cells.length c2], .agg #[.slice B3 r_4.Cells.length c3]]) k_call_56 rfl (mc rfl (mc rfl mn)) (c_spec_MulBloch r_3 r_4 B2 c2 r_3.Cells.length B3 c3 r_4.Cells.length _ rfl rfl (hS15.inn0 [(false, 2), (false, 3)] rfl) hc4)) ?_ ?_
              · rintro _ w_10 ⟨B4, c4, rfl, hd5⟩
                have hS16 := hS15.out0 hd5
                have hS16 : ST w0 [] _ [⟨some ⟨b, 0, none⟩, 24, [.slice B aA.Cells.length c], 1⟩, ⟨some ⟨b1, 0, none⟩, 24, [.slice B1 aB.Cells.length c1], 1⟩, ⟨B2, 91, (r_3.Cells.flatMap enc_Dyadic), c2 * 5⟩, ⟨B3, 91, (r_4.Cells.flatMap enc_Dyadic), c3 * 5⟩, ⟨some ⟨b2, 0, none⟩, 29, [.slice none 0 0], 1⟩, ⟨B4, 91, (r_5.Cells.flatMap enc_Dyadic), c4 * 5⟩] [⟨B, (aA.Cells.flatMap enc_Dyadic)⟩, ⟨B1, (aB.Cells.flatMap enc_Dyadic)⟩] := hS16
                refine ⟨(ST.sel hS16 [0, 1] rfl rfl), ?_⟩
                refine ra_q 5 27 (v := .tuple #[.agg #[.slice B4 r_5.Cells.length c4], .bool r_6]) rfl rfl rfl (by kernel_rfl) (by kernel_rfl) (by kernel_rfl) (ST.sel hS16 [0, 1] rfl rfl) (fun w' hw' => (Y_move (v := .tuple #[.agg #[.slice B4 r_5.Cells.length c4], .bool r_6]) rfl rfl)) ?_
                refine ra_q 6 33 (v := .agg #[.slice B4 r_5.Cells.length c4]) rfl rfl rfl (by kernel_rfl) (by kernel_rfl) (by kernel_rfl) (ST.sel hS16 [0, 1] rfl rfl) (fun w' hw' => (Y_extract (v := .agg #[.slice B4 r_5.Cells.length c4]) rfl rfl rfl)) ?_
                refine ra_q 7 34 (v := .bool r_6) rfl rfl rfl (by kernel_rfl) (by kernel_rfl) (by kernel_rfl) (ST.sel hS16 [0, 1] rfl rfl) (fun w' hw' => (Y_extract (v := .bool r_6) rfl rfl rfl)) ?_
                refine ra_all (rs := [9]) (by kernel_rfl) rfl ?_
                refine ra_s0 (i := 9) rfl rfl rfl (Ys_store (i := 4) (s := 1) (B := some ⟨b2, 0, none⟩) (T' := 29) (v := .agg #[.slice B4 r_5.Cells.length c4]) (vs := [.slice B4 r_5.Cells.length c4]) (k := 0) (cs' := [.slice B4 r_5.Cells.length c4]) hS16 k_sz_29_1 rfl rfl rfl rfl rfl rfl rfl (Nat.le_of_ble_eq_true rfl) rfl rfl) ?_ ?_
                · rintro _ w_11 ⟨rfl, hS17⟩
                  have hS17 : ST w0 [] _ [⟨some ⟨b, 0, none⟩, 24, [.slice B aA.Cells.length c], 1⟩, ⟨some ⟨b1, 0, none⟩, 24, [.slice B1 aB.Cells.length c1], 1⟩, ⟨B2, 91, (r_3.Cells.flatMap enc_Dyadic), c2 * 5⟩, ⟨B3, 91, (r_4.Cells.flatMap enc_Dyadic), c3 * 5⟩, ⟨some ⟨b2, 0, none⟩, 29, [.slice B4 r_5.Cells.length c4], 1⟩, ⟨B4, 91, (r_5.Cells.flatMap enc_Dyadic), c4 * 5⟩] [⟨B, (aA.Cells.flatMap enc_Dyadic)⟩, ⟨B1, (aB.Cells.flatMap enc_Dyadic)⟩] := hS17
                  refine ⟨(ST.sel hS17 [0, 1] rfl rfl), ?_⟩
                  refine ra_q 10 7 (v := .bool r_6) rfl rfl rfl (by kernel_rfl) (by kernel_rfl) (by kernel_rfl) (ST.sel hS17 [0, 1] rfl rfl) (fun w' hw' => (Y_assign (v := .bool r_6) rfl rfl)) ?_
                  refine ra_done (by kernel_rfl) ?_
                  exact ⟨some ⟨b2, 0, none⟩, B4, c4, (FF.cons rfl (FF.cons rfl (FF.cons rfl (FF.cons rfl FF.nil)))), (hS17.sel [0, 1, 4, 5] rfl rfl)⟩
                exact allR_nil
              exact allR_nil
            exact allR_nil
          refine ra_s 6 (i := 8) rfl rfl rfl (Ys_alloc (T := 29) (cs := [.slice none 0 0]) (m := 1) hS10 k_zero_29 rfl rfl rfl) ?_ ?_
          · rintro _ w_12 ⟨b2, rfl, hS18⟩
            have hS18 : ST w0 [] _ [⟨some ⟨b, 0, none⟩, 24, [.slice B aA.Cells.length c], 1⟩, ⟨some ⟨b1, 0, none⟩, 24, [.slice B1 aB.Cells.length c1], 1⟩, ⟨B2, 91, (r_3.Cells.flatMap enc_Dyadic), c2 * 5⟩, ⟨some ⟨b2, 0, none⟩, 29, [.slice none 0 0], 1⟩] [⟨B, (aA.Cells.flatMap enc_Dyadic)⟩, ⟨B1, (aB.Cells.flatMap enc_Dyadic)⟩] := hS18
            refine ⟨(ST.sel hS18 [0, 1] rfl rfl), ?_⟩
            refine ra_all (rs := [3]) (by kernel_rfl) rfl ?_
            refine ra_c 31 (i := 3) rfl rfl rfl (Yc_func (g := 17) (vs := [.agg #[.slice B1 aB.Cells.length c1]]) k_call_17 rfl (mc rfl mn) (c_laws_toBloch aB B1 c1 aB.Cells.length _ rfl (hS18.inn0 [(true, 1)] rfl) hc3)) ?_ ?_
            · rintro _ w_13 ⟨B3, c3, rfl, hd6⟩
              have hS19 := hS18.out0 hd6
              have hS19 : ST w0 [] _ [⟨some ⟨b, 0, none⟩, 24, [.slice B aA.Cells.length c], 1⟩, ⟨some ⟨b1, 0, none⟩, 24, [.slice B1 aB.Cells.length c1], 1⟩, ⟨B2, 91, (r_3.Cells.flatMap enc_Dyadic), c2 * 5⟩, ⟨some ⟨b2, 0, none⟩, 29, [.slice none 0 0], 1⟩, ⟨B3, 91, (r_4.Cells.flatMap enc_Dyadic), c3 * 5⟩] [⟨B, (aA.Cells.flatMap enc_Dyadic)⟩, ⟨B1, (aB.Cells.flatMap enc_Dyadic)⟩] := hS19
              refine ⟨(ST.sel hS19 [0, 1] rfl rfl), ?_⟩
              refine ra_all (rs := [4]) (by kernel_rfl) rfl ?_
              refine ra_c 32 (i := 4) rfl rfl rfl (Yc_func (g := 56) (vs := [.agg #[.slice B2 r_3.Cells.length c2], .agg #[.slice B3 r_4.Cells.length c3]]) k_call_56 rfl (mc rfl (mc rfl mn)) (c_spec_MulBloch r_3 r_4 B2 c2 r_3.Cells.length B3 c3 r_4.Cells.length _ rfl rfl (hS19.inn0 [(false, 2), (false, 4)] rfl) hc4)) ?_ ?_
              · rintro _ w_14 ⟨B4, c4, rfl, hd7⟩
                have hS20 := hS19.out0 hd7
                have hS20 : ST w0 [] _ [⟨some ⟨b, 0, none⟩, 24, [.slice B aA.Cells.length c], 1⟩, ⟨some ⟨b1, 0, none⟩, 24, [.slice B1 aB.Cells.length c1], 1⟩, ⟨B2, 91, (r_3.Cells.flatMap enc_Dyadic), c2 * 5⟩, ⟨some ⟨b2, 0, none⟩, 29, [.slice none 0 0], 1⟩, ⟨B3, 91, (r_4.Cells.flatMap enc_Dyadic), c3 * 5⟩, ⟨B4, 91, (r_5.Cells.flatMap enc_Dyadic), c4 * 5⟩] [⟨B, (aA.Cells.flatMap enc_Dyadic)⟩, ⟨B1, (aB.Cells.flatMap enc_Dyadic)⟩] := hS20
                refine ⟨(ST.sel hS20 [0, 1] rfl rfl), ?_⟩
                refine ra_q 5 27 (v := .tuple #[.agg #[.slice B4 r_5.Cells.length c4], .bool r_6]) rfl rfl rfl (by kernel_rfl) (by kernel_rfl) (by kernel_rfl) (ST.sel hS20 [0, 1] rfl rfl) (fun w' hw' => (Y_move (v := .tuple #[.agg #[.slice B4 r_5.Cells.length c4], .bool r_6]) rfl rfl)) ?_
                refine ra_q 6 33 (v := .agg #[.slice B4 r_5.Cells.length c4]) rfl rfl rfl (by kernel_rfl) (by kernel_rfl) (by kernel_rfl) (ST.sel hS20 [0, 1] rfl rfl) (fun w' hw' => (Y_extract (v := .agg #[.slice B4 r_5.Cells.length c4]) rfl rfl rfl)) ?_
                refine ra_q 7 34 (v := .bool r_6) rfl rfl rfl (by kernel_rfl) (by kernel_rfl) (by kernel_rfl) (ST.sel hS20 [0, 1] rfl rfl) (fun w' hw' => (Y_extract (v := .bool r_6) rfl rfl rfl)) ?_
                refine ra_all (rs := [9]) (by kernel_rfl) rfl ?_
                refine ra_s0 (i := 9) rfl rfl rfl (Ys_store (i := 3) (s := 1) (B := some ⟨b2, 0, none⟩) (T' := 29) (v := .agg #[.slice B4 r_5.Cells.length c4]) (vs := [.slice B4 r_5.Cells.length c4]) (k := 0) (cs' := [.slice B4 r_5.Cells.length c4]) hS20 k_sz_29_1 rfl rfl rfl rfl rfl rfl rfl (Nat.le_of_ble_eq_true rfl) rfl rfl) ?_ ?_
                · rintro _ w_15 ⟨rfl, hS21⟩
                  have hS21 : ST w0 [] _ [⟨some ⟨b, 0, none⟩, 24, [.slice B aA.Cells.length c], 1⟩, ⟨some ⟨b1, 0, none⟩, 24, [.slice B1 aB.Cells.length c1], 1⟩, ⟨B2, 91, (r_3.Cells.flatMap enc_Dyadic), c2 * 5⟩, ⟨some ⟨b2, 0, none⟩, 29, [.slice B4 r_5.Cells.length c4], 1⟩, ⟨B3, 91, (r_4.Cells.flatMap enc_Dyadic), c3 * 5⟩, ⟨B4, 91, (r_5.Cells.flatMap enc_Dyadic), c4 * 5⟩] [⟨B, (aA.Cells.flatMap enc_Dyadic)⟩, ⟨B1, (aB.Cells.flatMap enc_Dyadic)⟩] := hS21
                  refine ⟨(ST.sel hS21 [0, 1] rfl rfl), ?_⟩
                  refine ra_q 10 7 (v := .bool r_6) rfl rfl rfl (by kernel_rfl) (by kernel_rfl) (by kernel_rfl) (ST.sel hS21 [0, 1] rfl rfl) (fun w' hw' => (Y_assign (v := .bool r_6) rfl rfl)) ?_
                  refine ra_done (by kernel_rfl) ?_
                  exact ⟨some ⟨b2, 0, none⟩, B4, c4, (FF.cons rfl (FF.cons rfl (FF.cons rfl (FF.cons rfl FF.nil)))), (hS21.sel [0, 1, 3, 5] rfl rfl)⟩
                exact allR_nil
              exact allR_nil
            exact allR_nil
          exact allR_nil
        refine ra_s 6 (i := 8) rfl rfl rfl (Ys_alloc (T := 29) (cs := [.slice none 0 0]) (m := 1) hS9 k_zero_29 rfl rfl rfl) ?_ ?_
        · rintro _ w_16 ⟨b2, rfl, hS22⟩
          have hS22 : ST w0 [] _ [⟨some ⟨b, 0, none⟩, 24, [.slice B aA.Cells.length c], 1⟩, ⟨some ⟨b1, 0, none⟩, 24, [.slice B1 aB.Cells.length c1], 1⟩, ⟨some ⟨b2, 0, none⟩, 29, [.slice none 0 0], 1⟩] [⟨B, (aA.Cells.flatMap enc_Dyadic)⟩, ⟨B1, (aB.Cells.flatMap enc_Dyadic)⟩] := hS22
          refine ⟨(ST.sel hS22 [0, 1] rfl rfl), ?_⟩
          refine ra_all (rs := [1]) (by kernel_rfl) rfl ?_
          refine ra_c 29 (i := 1) rfl rfl rfl (Yc_func (g := 17) (vs := [.agg #[.slice B aA.Cells.length c]]) k_call_17 rfl (mc rfl mn) (c_laws_toBloch aA B c aA.Cells.length _ rfl (hS22.inn0 [(true, 0)] rfl) hc2)) ?_ ?_
          · rintro _ w_17 ⟨B2, c2, rfl, hd8⟩
            have hS23 := hS22.out0 hd8
            have hS23 : ST w0 [] _ [⟨some ⟨b, 0, none⟩, 24, [.slice B aA.Cells.length c], 1⟩, ⟨some ⟨b1, 0, none⟩, 24, [.slice B1 aB.Cells.length c1], 1⟩, ⟨some ⟨b2, 0, none⟩, 29, [.slice none 0 0], 1⟩, ⟨B2, 91, (r_3.Cells.flatMap enc_Dyadic), c2 * 5⟩] [⟨B, (aA.Cells.flatMap enc_Dyadic)⟩, ⟨B1, (aB.Cells.flatMap enc_Dyadic)⟩] := hS23
            refine ⟨(ST.sel hS23 [0, 1] rfl rfl), ?_⟩
            refine ra_all (rs := [3]) (by kernel_rfl) rfl ?_
            refine ra_c 31 (i := 3) rfl rfl rfl (Yc_func (g := 17) (vs := [.agg #[.slice B1 aB.Cells.length c1]]) k_call_17 rfl (mc rfl mn) (c_laws_toBloch aB B1 c1 aB.Cells.length _ rfl (hS23.inn0 [(true, 1)] rfl) hc3)) ?_ ?_
            · rintro _ w_18 ⟨B3, c3, rfl, hd9⟩
              have hS24 := hS23.out0 hd9
              have hS24 : ST w0 [] _ [⟨some ⟨b, 0, none⟩, 24, [.slice B aA.Cells.length c], 1⟩, ⟨some ⟨b1, 0, none⟩, 24, [.slice B1 aB.Cells.length c1], 1⟩, ⟨some ⟨b2, 0, none⟩, 29, [.slice none 0 0], 1⟩, ⟨B2, 91, (r_3.Cells.flatMap enc_Dyadic), c2 * 5⟩, ⟨B3, 91, (r_4.Cells.flatMap enc_Dyadic), c3 * 5⟩] [⟨B, (aA.Cells.flatMap enc_Dyadic)⟩, ⟨B1, (aB.Cells.flatMap enc_Dyadic)⟩] := hS24
              refine ⟨(ST.sel hS24 [0, 1] rfl rfl), ?_⟩
              refine ra_all (rs := [4]) (by kernel_rfl) rfl ?_
              refine ra_c 32 (i := 4) rfl rfl rfl (Yc_func (g := 56) (vs := [.agg #[.slice B2 r_3.Cells.length c2], .agg #[.slice B3 r_4.Cells.length c3]]) k_call_56 rfl (mc rfl (mc rfl mn)) (c_spec_MulBloch r_3 r_4 B2 c2 r_3.Cells.length B3 c3 r_4.Cells.length _ rfl rfl (hS24.inn0 [(false, 3), (false, 4)] rfl) hc4)) ?_ ?_
              · rintro _ w_19 ⟨B4, c4, rfl, hd10⟩
                have hS25 := hS24.out0 hd10
                have hS25 : ST w0 [] _ [⟨some ⟨b, 0, none⟩, 24, [.slice B aA.Cells.length c], 1⟩, ⟨some ⟨b1, 0, none⟩, 24, [.slice B1 aB.Cells.length c1], 1⟩, ⟨some ⟨b2, 0, none⟩, 29, [.slice none 0 0], 1⟩, ⟨B2, 91, (r_3.Cells.flatMap enc_Dyadic), c2 * 5⟩, ⟨B3, 91, (r_4.Cells.flatMap enc_Dyadic), c3 * 5⟩, ⟨B4, 91, (r_5.Cells.flatMap enc_Dyadic), c4 * 5⟩] [⟨B, (aA.Cells.flatMap enc_Dyadic)⟩, ⟨B1, (aB.Cells.flatMap enc_Dyadic)⟩] := hS25
                refine ⟨(ST.sel hS25 [0, 1] rfl rfl), ?_⟩
                refine ra_q 5 27 (v := .tuple #[.agg #[.slice B4 r_5.Cells.length c4], .bool r_6]) rfl rfl rfl (by kernel_rfl) (by kernel_rfl) (by kernel_rfl) (ST.sel hS25 [0, 1] rfl rfl) (fun w' hw' => (Y_move (v := .tuple #[.agg #[.slice B4 r_5.Cells.length c4], .bool r_6]) rfl rfl)) ?_
                refine ra_q 6 33 (v := .agg #[.slice B4 r_5.Cells.length c4]) rfl rfl rfl (by kernel_rfl) (by kernel_rfl) (by kernel_rfl) (ST.sel hS25 [0, 1] rfl rfl) (fun w' hw' => (Y_extract (v := .agg #[.slice B4 r_5.Cells.length c4]) rfl rfl rfl)) ?_
                refine ra_q 7 34 (v := .bool r_6) rfl rfl rfl (by kernel_rfl) (by kernel_rfl) (by kernel_rfl) (ST.sel hS25 [0, 1] rfl rfl) (fun w' hw' => (Y_extract (v := .bool r_6) rfl rfl rfl)) ?_
                refine ra_all (rs := [9]) (by kernel_rfl) rfl ?_
                refine ra_s0 (i := 9) rfl rfl rfl (Ys_store (i := 2) (s := 1) (B := some ⟨b2, 0, none⟩) (T' := 29) (v := .agg #[.slice B4 r_5.Cells.length c4]) (vs := [.slice B4 r_5.Cells.length c4]) (k := 0) (cs' := [.slice B4 r_5.Cells.length c4]) hS25 k_sz_29_1 rfl rfl rfl rfl rfl rfl rfl (Nat.le_of_ble_eq_true rfl) rfl rfl) ?_ ?_
                · rintro _ w_20 ⟨rfl, hS26⟩
                  have hS26 : ST w0 [] _ [⟨some ⟨b, 0, none⟩, 24, [.slice B aA.Cells.length c], 1⟩, ⟨some ⟨b1, 0, none⟩, 24, [.slice B1 aB.Cells.length c1], 1⟩, ⟨some ⟨b2, 0, none⟩, 29, [.slice B4 r_5.Cells.length c4], 1⟩, ⟨B2, 91, (r_3.Cells.flatMap enc_Dyadic), c2 * 5⟩, ⟨B3, 91, (r_4.Cells.flatMap enc_Dyadic), c3 * 5⟩, ⟨B4, 91, (r_5.Cells.flatMap enc_Dyadic), c4 * 5⟩] [⟨B, (aA.Cells.flatMap enc_Dyadic)⟩, ⟨B1, (aB.Cells.flatMap enc_Dyadic)⟩] := hS26
                  refine ⟨(ST.sel hS26 [0, 1] rfl rfl), ?_⟩
                  refine ra_q 10 7 (v := .bool r_6) rfl rfl rfl (by kernel_rfl) (by kernel_rfl) (by kernel_rfl) (ST.sel hS26 [0, 1] rfl rfl) (fun w' hw' => (Y_assign (v := .bool r_6) rfl rfl)) ?_
                  refine ra_done (by kernel_rfl) ?_
                  exact ⟨some ⟨b2, 0, none⟩, B4, c4, (FF.cons rfl (FF.cons rfl (FF.cons rfl (FF.cons rfl FF.nil)))), (hS26.sel [0, 1, 2, 5] rfl rfl)⟩
                exact allR_nil
              exact allR_nil
            exact allR_nil
          exact allR_nil
        exact allR_nil
      rintro f w ⟨B5, B6, c5, hf, hS8⟩
      refine cw_seq ?_
      refine cw_region ?_
      refine sq 35 rfl rfl (Y_loadA (B := some ⟨b, 0, none⟩) (i := 0) (cs := [.slice B aA.Cells.length c]) (vs := [.slice B aA.Cells.length c]) k_ag_24 k_sz_24_1 rfl (hf.get 2 0 rfl) (hS8.cf (i := 0) rfl) rfl rfl) ?_
      obtain ⟨r_7, hc5, hF4⟩ := bind_inv hF4
      refine sc 36 rfl rfl (Yc_func (g := 17) (vs := [.agg #[.slice B aA.Cells.length c]]) k_call_17 rfl (mc rfl mn) (c_laws_toBloch aA B c aA.Cells.length _ rfl (hS8.inn0 [(true, 0)] rfl) hc5)) ?_
      rintro _ w_21 ⟨B7, c6, rfl, hd11⟩
      have hS27 := hS8.out0 hd11
      have hS27 : ST w0 [] _ [⟨some ⟨b, 0, none⟩, 24, [.slice B aA.Cells.length c], 1⟩, ⟨some ⟨b1, 0, none⟩, 24, [.slice B1 aB.Cells.length c1], 1⟩, ⟨B5, 29, [.slice B6 r_5.Cells.length c5], 1⟩, ⟨B6, 91, (r_5.Cells.flatMap enc_Dyadic), c5 * 5⟩, ⟨B7, 91, (r_7.Cells.flatMap enc_Dyadic), c6 * 5⟩] [⟨B, (aA.Cells.flatMap enc_Dyadic)⟩, ⟨B1, (aB.Cells.flatMap enc_Dyadic)⟩] := hS27
      refine ss 8 rfl rfl (Ys_alloc (T := 29) (cs := [.slice none 0 0]) (m := 1) hS27 k_zero_29 rfl rfl rfl) ?_
      rintro _ w_22 ⟨b3, rfl, hS28⟩
      have hS28 : ST w0 [] _ [⟨some ⟨b, 0, none⟩, 24, [.slice B aA.Cells.length c], 1⟩, ⟨some ⟨b1, 0, none⟩, 24, [.slice B1 aB.Cells.length c1], 1⟩, ⟨B5, 29, [.slice B6 r_5.Cells.length c5], 1⟩, ⟨B6, 91, (r_5.Cells.flatMap enc_Dyadic), c5 * 5⟩, ⟨B7, 91, (r_7.Cells.flatMap enc_Dyadic), c6 * 5⟩, ⟨some ⟨b3, 0, none⟩, 29, [.slice none 0 0], 1⟩] [⟨B, (aA.Cells.flatMap enc_Dyadic)⟩, ⟨B1, (aB.Cells.flatMap enc_Dyadic)⟩] := hS28
      refine ss0 rfl rfl (Ys_store (i := 5) (s := 1) (B := some ⟨b3, 0, none⟩) (T' := 29) (v := .agg #[.slice B7 r_7.Cells.length c6]) (vs := [.slice B7 r_7.Cells.length c6]) (k := 0) (cs' := [.slice B7 r_7.Cells.length c6]) hS28 k_sz_29_1 rfl rfl rfl rfl rfl rfl rfl (Nat.le_of_ble_eq_true rfl) rfl rfl) ?_
      rintro _ w_23 ⟨rfl, hS29⟩
      have hS29 : ST w0 [] _ [⟨some ⟨b, 0, none⟩, 24, [.slice B aA.Cells.length c], 1⟩, ⟨some ⟨b1, 0, none⟩, 24, [.slice B1 aB.Cells.length c1], 1⟩, ⟨B5, 29, [.slice B6 r_5.Cells.length c5], 1⟩, ⟨B6, 91, (r_5.Cells.flatMap enc_Dyadic), c5 * 5⟩, ⟨B7, 91, (r_7.Cells.flatMap enc_Dyadic), c6 * 5⟩, ⟨some ⟨b3, 0, none⟩, 29, [.slice B7 r_7.Cells.length c6], 1⟩] [⟨B, (aA.Cells.flatMap enc_Dyadic)⟩, ⟨B1, (aB.Cells.flatMap enc_Dyadic)⟩] := hS29
      refine rw_nil ?_
      refine cw_seq ?_
      refine cw_region ?_
      refine sq 37 rfl rfl (Y_loadA (B := some ⟨b1, 0, none⟩) (i := 0) (cs := [.slice B1 aB.Cells.length c1]) (vs := [.slice B1 aB.Cells.length c1]) k_ag_24 k_sz_24_1 rfl (hf.get 3 1 rfl) (hS29.cf (i := 1) rfl) rfl rfl) ?_
      obtain ⟨r_8, hc6, hF4⟩ := bind_inv hF4
      refine sc 38 rfl rfl (Yc_func (g := 17) (vs := [.agg #[.slice B1 aB.Cells.length c1]]) k_call_17 rfl (mc rfl mn) (c_laws_toBloch aB B1 c1 aB.Cells.length _ rfl (hS29.inn0 [(true, 1)] rfl) hc6)) ?_
      rintro _ w_24 ⟨B8, c7, rfl, hd12⟩
      have hS30 := hS29.out0 hd12
      have hS30 : ST w0 [] _ [⟨some ⟨b, 0, none⟩, 24, [.slice B aA.Cells.length c], 1⟩, ⟨some ⟨b1, 0, none⟩, 24, [.slice B1 aB.Cells.length c1], 1⟩, ⟨B5, 29, [.slice B6 r_5.Cells.length c5], 1⟩, ⟨B6, 91, (r_5.Cells.flatMap enc_Dyadic), c5 * 5⟩, ⟨B7, 91, (r_7.Cells.flatMap enc_Dyadic), c6 * 5⟩, ⟨some ⟨b3, 0, none⟩, 29, [.slice B7 r_7.Cells.length c6], 1⟩, ⟨B8, 91, (r_8.Cells.flatMap enc_Dyadic), c7 * 5⟩] [⟨B, (aA.Cells.flatMap enc_Dyadic)⟩, ⟨B1, (aB.Cells.flatMap enc_Dyadic)⟩] := hS30
      refine ss 9 rfl rfl (Ys_alloc (T := 29) (cs := [.slice none 0 0]) (m := 1) hS30 k_zero_29 rfl rfl rfl) ?_
      rintro _ w_25 ⟨b4, rfl, hS31⟩
      have hS31 : ST w0 [] _ [⟨some ⟨b, 0, none⟩, 24, [.slice B aA.Cells.length c], 1⟩, ⟨some ⟨b1, 0, none⟩, 24, [.slice B1 aB.Cells.length c1], 1⟩, ⟨B5, 29, [.slice B6 r_5.Cells.length c5], 1⟩, ⟨B6, 91, (r_5.Cells.flatMap enc_Dyadic), c5 * 5⟩, ⟨B7, 91, (r_7.Cells.flatMap enc_Dyadic), c6 * 5⟩, ⟨some ⟨b3, 0, none⟩, 29, [.slice B7 r_7.Cells.length c6], 1⟩, ⟨B8, 91, (r_8.Cells.flatMap enc_Dyadic), c7 * 5⟩, ⟨some ⟨b4, 0, none⟩, 29, [.slice none 0 0], 1⟩] [⟨B, (aA.Cells.flatMap enc_Dyadic)⟩, ⟨B1, (aB.Cells.flatMap enc_Dyadic)⟩] := hS31
      refine ss0 rfl rfl (Ys_store (i := 7) (s := 1) (B := some ⟨b4, 0, none⟩) (T' := 29) (v := .agg #[.slice B8 r_8.Cells.length c7]) (vs := [.slice B8 r_8.Cells.length c7]) (k := 0) (cs' := [.slice B8 r_8.Cells.length c7]) hS31 k_sz_29_1 rfl rfl rfl rfl rfl rfl rfl (Nat.le_of_ble_eq_true rfl) rfl rfl) ?_
      rintro _ w_26 ⟨rfl, hS32⟩
      have hS32 : ST w0 [] _ [⟨some ⟨b, 0, none⟩, 24, [.slice B aA.Cells.length c], 1⟩, ⟨some ⟨b1, 0, none⟩, 24, [.slice B1 aB.Cells.length c1], 1⟩, ⟨B5, 29, [.slice B6 r_5.Cells.length c5], 1⟩, ⟨B6, 91, (r_5.Cells.flatMap enc_Dyadic), c5 * 5⟩, ⟨B7, 91, (r_7.Cells.flatMap enc_Dyadic), c6 * 5⟩, ⟨some ⟨b3, 0, none⟩, 29, [.slice B7 r_7.Cells.length c6], 1⟩, ⟨B8, 91, (r_8.Cells.flatMap enc_Dyadic), c7 * 5⟩, ⟨some ⟨b4, 0, none⟩, 29, [.slice B8 r_8.Cells.length c7], 1⟩] [⟨B, (aA.Cells.flatMap enc_Dyadic)⟩, ⟨B1, (aB.Cells.flatMap enc_Dyadic)⟩] := hS32
      refine rw_nil ?_
      refine cw_seq ?_
      refine cw_region ?_
      refine sq 40 rfl rfl (Y_loadA (B := some ⟨b3, 0, none⟩) (i := 0) (cs := [.slice B7 r_7.Cells.length c6]) (vs := [.slice B7 r_7.Cells.length c6]) k_ag_29 k_sz_29_1 rfl rfl (hS32.cf (i := 5) rfl) rfl rfl) ?_
      refine sq 41 rfl rfl (Y_loadA (B := some ⟨b4, 0, none⟩) (i := 0) (cs := [.slice B8 r_8.Cells.length c7]) (vs := [.slice B8 r_8.Cells.length c7]) k_ag_29 k_sz_29_1 rfl rfl (hS32.cf (i := 7) rfl) rfl rfl) ?_
      obtain ⟨⟨r_9, r_10⟩, hc7, hF4⟩ := bind_inv hF4
      refine sc 42 rfl rfl (Yc_func (g := 57) (vs := [.agg #[.slice B7 r_7.Cells.length c6], .agg #[.slice B8 r_8.Cells.length c7]]) k_call_57 rfl (mc rfl (mc rfl mn)) (c_impl_MulBloch r_7 r_8 B7 c6 r_7.Cells.length B8 c7 r_8.Cells.length _ rfl rfl (hS32.inn0 [(false, 4), (false, 6)] rfl) hc7)) ?_
      rintro _ w_27 ⟨B9, c8, rfl, hd13⟩
      have hS33 := hS32.out0 hd13
      have hS33 : ST w0 [] _ [⟨some ⟨b, 0, none⟩, 24, [.slice B aA.Cells.length c], 1⟩, ⟨some ⟨b1, 0, none⟩, 24, [.slice B1 aB.Cells.length c1], 1⟩, ⟨B5, 29, [.slice B6 r_5.Cells.length c5], 1⟩, ⟨B6, 91, (r_5.Cells.flatMap enc_Dyadic), c5 * 5⟩, ⟨B7, 91, (r_7.Cells.flatMap enc_Dyadic), c6 * 5⟩, ⟨some ⟨b3, 0, none⟩, 29, [.slice B7 r_7.Cells.length c6], 1⟩, ⟨B8, 91, (r_8.Cells.flatMap enc_Dyadic), c7 * 5⟩, ⟨some ⟨b4, 0, none⟩, 29, [.slice B8 r_8.Cells.length c7], 1⟩, ⟨B9, 91, (r_9.Cells.flatMap enc_Dyadic), c8 * 5⟩] [⟨B, (aA.Cells.flatMap enc_Dyadic)⟩, ⟨B1, (aB.Cells.flatMap enc_Dyadic)⟩] := hS33
      refine sq 39 rfl rfl (Y_move (v := .tuple #[.agg #[.slice B9 r_9.Cells.length c8], .bool r_10]) rfl rfl) ?_
      refine sq 43 rfl rfl (Y_extract (v := .agg #[.slice B9 r_9.Cells.length c8]) rfl rfl rfl) ?_
      refine sq 44 rfl rfl (Y_extract (v := .bool r_10) rfl rfl rfl) ?_
      refine ss 10 rfl rfl (Ys_alloc (T := 29) (cs := [.slice none 0 0]) (m := 1) hS33 k_zero_29 rfl rfl rfl) ?_
      rintro _ w_28 ⟨b5, rfl, hS34⟩
      have hS34 : ST w0 [] _ [⟨some ⟨b, 0, none⟩, 24, [.slice B aA.Cells.length c], 1⟩, ⟨some ⟨b1, 0, none⟩, 24, [.slice B1 aB.Cells.length c1], 1⟩, ⟨B5, 29, [.slice B6 r_5.Cells.length c5], 1⟩, ⟨B6, 91, (r_5.Cells.flatMap enc_Dyadic), c5 * 5⟩, ⟨B7, 91, (r_7.Cells.flatMap enc_Dyadic), c6 * 5⟩, ⟨some ⟨b3, 0, none⟩, 29, [.slice B7 r_7.Cells.length c6], 1⟩, ⟨B8, 91, (r_8.Cells.flatMap enc_Dyadic), c7 * 5⟩, ⟨some ⟨b4, 0, none⟩, 29, [.slice B8 r_8.Cells.length c7], 1⟩, ⟨B9, 91, (r_9.Cells.flatMap enc_Dyadic), c8 * 5⟩, ⟨some ⟨b5, 0, none⟩, 29, [.slice none 0 0], 1⟩] [⟨B, (aA.Cells.flatMap enc_Dyadic)⟩, ⟨B1, (aB.Cells.flatMap enc_Dyadic)⟩] := hS34
      refine ss0 rfl rfl (Ys_store (i := 9) (s := 1) (B := some ⟨b5, 0, none⟩) (T' := 29) (v := .agg #[.slice B9 r_9.Cells.length c8]) (vs := [.slice B9 r_9.Cells.length c8]) (k := 0) (cs' := [.slice B9 r_9.Cells.length c8]) hS34 k_sz_29_1 rfl rfl rfl rfl rfl rfl rfl (Nat.le_of_ble_eq_true rfl) rfl rfl) ?_
      rintro _ w_29 ⟨rfl, hS35⟩
      have hS35 : ST w0 [] _ [⟨some ⟨b, 0, none⟩, 24, [.slice B aA.Cells.length c], 1⟩, ⟨some ⟨b1, 0, none⟩, 24, [.slice B1 aB.Cells.length c1], 1⟩, ⟨B5, 29, [.slice B6 r_5.Cells.length c5], 1⟩, ⟨B6, 91, (r_5.Cells.flatMap enc_Dyadic), c5 * 5⟩, ⟨B7, 91, (r_7.Cells.flatMap enc_Dyadic), c6 * 5⟩, ⟨some ⟨b3, 0, none⟩, 29, [.slice B7 r_7.Cells.length c6], 1⟩, ⟨B8, 91, (r_8.Cells.flatMap enc_Dyadic), c7 * 5⟩, ⟨some ⟨b4, 0, none⟩, 29, [.slice B8 r_8.Cells.length c7], 1⟩, ⟨B9, 91, (r_9.Cells.flatMap enc_Dyadic), c8 * 5⟩, ⟨some ⟨b5, 0, none⟩, 29, [.slice B9 r_9.Cells.length c8], 1⟩] [⟨B, (aA.Cells.flatMap enc_Dyadic)⟩, ⟨B1, (aB.Cells.flatMap enc_Dyadic)⟩] := hS35
      refine sq 11 rfl rfl (Y_assign (v := .bool r_10) rfl rfl) ?_
      refine rw_nil ?_
      refine cw_seq ?_
      refine cw_seq ?_
      refine cw_region ?_
      refine sq 45 rfl rfl (Y_loadA (B := some ⟨b5, 0, none⟩) (i := 0) (cs := [.slice B9 r_9.Cells.length c8]) (vs := [.slice B9 r_9.Cells.length c8]) k_ag_29 k_sz_29_1 rfl rfl (hS35.cf (i := 9) rfl) rfl rfl) ?_
      refine sq 46 rfl rfl (Y_loadA (B := B5) (i := 0) (cs := [.slice B6 r_5.Cells.length c5]) (vs := [.slice B6 r_5.Cells.length c5]) k_ag_29 k_sz_29_1 rfl (hf.get 6 2 rfl) (hS35.cf (i := 2) rfl) rfl rfl) ?_
      obtain ⟨r_11, hc8, hF4⟩ := bind_inv hF4
      refine sc 47 rfl rfl (Yc_func (g := 19) (vs := [.agg #[.slice B9 r_9.Cells.length c8], .agg #[.slice B6 r_5.Cells.length c5]]) k_call_19 rfl (mc rfl (mc rfl mn)) (c_laws_eqBloch r_9 r_5 B9 c8 r_9.Cells.length B6 c5 r_5.Cells.length _ rfl rfl (hS35.inn0 [(false, 8), (false, 3)] rfl) hc8)) ?_
      rintro _ w_30 ⟨rfl, hd14⟩
      have hS36 := hS35.out00 hd14
      have hS36 : ST w0 [] _ [⟨some ⟨b, 0, none⟩, 24, [.slice B aA.Cells.length c], 1⟩, ⟨some ⟨b1, 0, none⟩, 24, [.slice B1 aB.Cells.length c1], 1⟩, ⟨B5, 29, [.slice B6 r_5.Cells.length c5], 1⟩, ⟨B6, 91, (r_5.Cells.flatMap enc_Dyadic), c5 * 5⟩, ⟨B7, 91, (r_7.Cells.flatMap enc_Dyadic), c6 * 5⟩, ⟨some ⟨b3, 0, none⟩, 29, [.slice B7 r_7.Cells.length c6], 1⟩, ⟨B8, 91, (r_8.Cells.flatMap enc_Dyadic), c7 * 5⟩, ⟨some ⟨b4, 0, none⟩, 29, [.slice B8 r_8.Cells.length c7], 1⟩, ⟨B9, 91, (r_9.Cells.flatMap enc_Dyadic), c8 * 5⟩, ⟨some ⟨b5, 0, none⟩, 29, [.slice B9 r_9.Cells.length c8], 1⟩] [⟨B, (aA.Cells.flatMap enc_Dyadic)⟩, ⟨B1, (aB.Cells.flatMap enc_Dyadic)⟩] := hS36
      refine sq 48 rfl rfl (Y_not (p := r_11) rfl rfl) ?_
      refine sq 49 rfl rfl (Y_move (v := .bool (!r_11)) rfl rfl) ?_
      refine sgq 50 (B := (!(!r_11))) (v := .bool r_10) rfl rfl (wt_f (gd_of (t := 49) (by kernel_rfl) rfl)) (fun hg => (Y_move (v := .bool r_10) rfl rfl)) ?_
      refine sgq 51 (B := (!(!r_11))) (v := .bool r_6) rfl rfl (wt_f (gd_of (t := 49) (by kernel_rfl) rfl)) (fun hg1 => (Y_move (v := .bool r_6) rfl (hf.get 7 3 rfl))) ?_
      refine sgq 52 (B := (!(!r_11))) (v := .bool (!(r_10 == r_6))) rfl rfl (wt_f (gd_of (t := 49) (by kernel_rfl) rfl)) (fun hg2 => (Y_bne (p := r_10) (q := r_6) k_und_4 rfl (gv_of (B := (!(!r_11))) (v := .bool r_10) hg2) (gv_of (B := (!(!r_11))) (v := .bool r_6) hg2))) ?_
      refine sq 53 rfl rfl (Y_or (b := (!r_11)) (z := (!(r_10 == r_6))) rfl rfl rfl rfl) ?_
      refine rw_nil ?_
      refine cw_cond (b := ((!r_11) || (!(r_10 == r_6)))) rfl (fun hb2 => ?_) (fun hb2 => ?_)
      · skip
        have hF5 := ct hF4 hb2
        refine cw_seq ?_
        refine cw_region ?_
        refine sq 4 rfl rfl (Y_assign (v := .bool false) rfl rfl) ?_
        refine rw_nil ?_
        refine cw_ret ?_
        obtain rfl := some_inj hF5
        exact ret1 Try.results14 (v1 := .bool false) (resAt_tmp rfl) ⟨rfl, (ST.subR (R' := []) (hS36.sel [] rfl rfl) (fun _ h => by cases h))⟩
      · skip
        have hF6 := cf' hF4 hb2
        refine cw_skip ?_
        refine cw_seq ?_
        refine cw_seq ?_
        obtain ⟨r_12, hc9, hF6⟩ := bind_inv hF6
        obtain ⟨r_13, hc10, hF6⟩ := bind_inv hF6
        refine ra_start (ST.sel hS36 [0, 1, 2, 3, 4, 5, 6, 7, 8, 9] rfl rfl).fn (by kernel_rfl) ?_
        have hS39 := hS36.drew
        refine ra_q 0 54 (v := .agg #[.slice B7 r_7.Cells.length c6]) rfl rfl rfl (by kernel_rfl) (by kernel_rfl) (by kernel_rfl) (ST.sel hS39 [0, 1, 2, 3, 4, 5, 6, 7, 8, 9] rfl rfl) (fun w' hw' => (Y_loadA (B := some ⟨b3, 0, none⟩) (i := 0) (cs := [.slice B7 r_7.Cells.length c6]) (vs := [.slice B7 r_7.Cells.length c6]) k_ag_29 k_sz_29_1 rfl rfl (ST.cf hw' (i := 5) rfl) rfl rfl)) ?_
        refine ra_q 1 55 (v := .agg #[.slice B aA.Cells.length c]) rfl rfl rfl (by kernel_rfl) (by kernel_rfl) (by kernel_rfl) (ST.sel hS39 [0, 1, 2, 3, 4, 5, 6, 7, 8, 9] rfl rfl) (fun w' hw' => (Y_loadA (B := some ⟨b, 0, none⟩) (i := 0) (cs := [.slice B aA.Cells.length c]) (vs := [.slice B aA.Cells.length c]) k_ag_24 k_sz_24_1 rfl (hf.get 2 0 rfl) (ST.cf hw' (i := 0) rfl) rfl rfl)) ?_
        refine ra_all (rs := [2]) (by kernel_rfl) rfl ?_
        refine ra_c 56 (i := 2) rfl rfl rfl (Yc_func (g := 17) (vs := [.agg #[.slice B aA.Cells.length c]]) k_call_17 rfl (mc rfl mn) (c_laws_toBloch aA B c aA.Cells.length _ rfl (hS39.inn0 [(true, 0)] rfl) hc9)) ?_ ?_
        · rintro _ w_31 ⟨B10, c9, rfl, hd15⟩
          have hS40 := hS39.out0 hd15
          have hS40 : ST w0 [] _ [⟨some ⟨b, 0, none⟩, 24, [.slice B aA.Cells.length c], 1⟩, ⟨some ⟨b1, 0, none⟩, 24, [.slice B1 aB.Cells.length c1], 1⟩, ⟨B5, 29, [.slice B6 r_5.Cells.length c5], 1⟩, ⟨B6, 91, (r_5.Cells.flatMap enc_Dyadic), c5 * 5⟩, ⟨B7, 91, (r_7.Cells.flatMap enc_Dyadic), c6 * 5⟩, ⟨some ⟨b3, 0, none⟩, 29, [.slice B7 r_7.Cells.length c6], 1⟩, ⟨B8, 91, (r_8.Cells.flatMap enc_Dyadic), c7 * 5⟩, ⟨some ⟨b4, 0, none⟩, 29, [.slice B8 r_8.Cells.length c7], 1⟩, ⟨B9, 91, (r_9.Cells.flatMap enc_Dyadic), c8 * 5⟩, ⟨some ⟨b5, 0, none⟩, 29, [.slice B9 r_9.Cells.length c8], 1⟩, ⟨B10, 91, (r_12.Cells.flatMap enc_Dyadic), c9 * 5⟩] [⟨B, (aA.Cells.flatMap enc_Dyadic)⟩, ⟨B1, (aB.Cells.flatMap enc_Dyadic)⟩] := hS40
          refine ⟨(ST.sel hS40 [0, 1, 2, 3, 4, 5, 6, 7, 8, 9] rfl rfl), ?_⟩
          refine ra_all (rs := [3]) (by kernel_rfl) rfl ?_
          refine ra_c 57 (i := 3) rfl rfl rfl (Yc_func (g := 19) (vs := [.agg #[.slice B7 r_7.Cells.length c6], .agg #[.slice B10 r_12.Cells.length c9]]) k_call_19 rfl (mc rfl (mc rfl mn)) (c_laws_eqBloch r_7 r_12 B7 c6 r_7.Cells.length B10 c9 r_12.Cells.length _ rfl rfl (hS40.inn0 [(false, 4), (false, 10)] rfl) hc10)) ?_ ?_
          · rintro _ w_32 ⟨rfl, hd16⟩
            have hS41 := hS40.out00 hd16
            have hS41 : ST w0 [] _ [⟨some ⟨b, 0, none⟩, 24, [.slice B aA.Cells.length c], 1⟩, ⟨some ⟨b1, 0, none⟩, 24, [.slice B1 aB.Cells.length c1], 1⟩, ⟨B5, 29, [.slice B6 r_5.Cells.length c5], 1⟩, ⟨B6, 91, (r_5.Cells.flatMap enc_Dyadic), c5 * 5⟩, ⟨B7, 91, (r_7.Cells.flatMap enc_Dyadic), c6 * 5⟩, ⟨some ⟨b3, 0, none⟩, 29, [.slice B7 r_7.Cells.length c6], 1⟩, ⟨B8, 91, (r_8.Cells.flatMap enc_Dyadic), c7 * 5⟩, ⟨some ⟨b4, 0, none⟩, 29, [.slice B8 r_8.Cells.length c7], 1⟩, ⟨B9, 91, (r_9.Cells.flatMap enc_Dyadic), c8 * 5⟩, ⟨some ⟨b5, 0, none⟩, 29, [.slice B9 r_9.Cells.length c8], 1⟩, ⟨B10, 91, (r_12.Cells.flatMap enc_Dyadic), c9 * 5⟩] [⟨B, (aA.Cells.flatMap enc_Dyadic)⟩, ⟨B1, (aB.Cells.flatMap enc_Dyadic)⟩] := hS41
            refine ⟨(ST.sel hS41 [0, 1, 2, 3, 4, 5, 6, 7, 8, 9] rfl rfl), ?_⟩
            refine ra_q 4 58 (v := .bool (!r_13)) rfl rfl rfl (by kernel_rfl) (by kernel_rfl) (by kernel_rfl) (ST.sel hS41 [0, 1, 2, 3, 4, 5, 6, 7, 8, 9] rfl rfl) (fun w' hw' => (Y_not (p := r_13) rfl rfl)) ?_
            refine ra_done (by kernel_rfl) ?_
            refine cw_cond (b := (!r_13)) rfl (fun hb3 => ?_) (fun hb3 => ?_)
            · skip
              have hF7 := ct hF6 hb3
              refine cw_seq ?_
              refine cw_region ?_
              refine sq 4 rfl rfl (Y_assign (v := .bool false) rfl rfl) ?_
              refine rw_nil ?_
              refine cw_ret ?_
              obtain rfl := some_inj hF7
              exact ret1 Try.results14 (v1 := .bool false) (resAt_tmp rfl) ⟨rfl, (ST.subR (R' := []) (hS41.sel [] rfl rfl) (fun _ h => by cases h))⟩
            · skip
              have hF8 := cf' hF6 hb3
              refine cw_skip ?_
              refine cw_seq ?_
              refine cw_seq ?_
              obtain ⟨r_14, hc11, hF8⟩ := bind_inv hF8
              obtain ⟨r_15, hc12, hF8⟩ := bind_inv hF8
              refine ra_start (ST.sel hS41 [0, 1, 2, 3, 4, 5, 6, 7, 8, 9, 10] rfl rfl).fn (by kernel_rfl) ?_
              have hS44 := hS41.drew
              refine ra_q 0 59 (v := .agg #[.slice B8 r_8.Cells.length c7]) rfl rfl rfl (by kernel_rfl) (by kernel_rfl) (by kernel_rfl) (ST.sel hS44 [0, 1, 2, 3, 4, 5, 6, 7, 8, 9, 10] rfl rfl) (fun w' hw' => (Y_loadA (B := some ⟨b4, 0, none⟩) (i := 0) (cs := [.slice B8 r_8.Cells.length c7]) (vs := [.slice B8 r_8.Cells.length c7]) k_ag_29 k_sz_29_1 rfl rfl (ST.cf hw' (i := 7) rfl) rfl rfl)) ?_
              refine ra_q 1 60 (v := .agg #[.slice B1 aB.Cells.length c1]) rfl rfl rfl (by kernel_rfl) (by kernel_rfl) (by kernel_rfl) (ST.sel hS44 [0, 1, 2, 3, 4, 5, 6, 7, 8, 9, 10] rfl rfl) (fun w' hw' => (Y_loadA (B := some ⟨b1, 0, none⟩) (i := 0) (cs := [.slice B1 aB.Cells.length c1]) (vs := [.slice B1 aB.Cells.length c1]) k_ag_24 k_sz_24_1 rfl (hf.get 3 1 rfl) (ST.cf hw' (i := 1) rfl) rfl rfl)) ?_
              refine ra_all (rs := [2]) (by kernel_rfl) rfl ?_
              refine ra_c 61 (i := 2) rfl rfl rfl (Yc_func (g := 17) (vs := [.agg #[.slice B1 aB.Cells.length c1]]) k_call_17 rfl (mc rfl mn) (c_laws_toBloch aB B1 c1 aB.Cells.length _ rfl (hS44.inn0 [(true, 1)] rfl) hc11)) ?_ ?_
              · rintro _ w_33 ⟨B11, c10, rfl, hd17⟩
                have hS45 := hS44.out0 hd17
                have hS45 : ST w0 [] _ [⟨some ⟨b, 0, none⟩, 24, [.slice B aA.Cells.length c], 1⟩, ⟨some ⟨b1, 0, none⟩, 24, [.slice B1 aB.Cells.length c1], 1⟩, ⟨B5, 29, [.slice B6 r_5.Cells.length c5], 1⟩, ⟨B6, 91, (r_5.Cells.flatMap enc_Dyadic), c5 * 5⟩, ⟨B7, 91, (r_7.Cells.flatMap enc_Dyadic), c6 * 5⟩, ⟨some ⟨b3, 0, none⟩, 29, [.slice B7 r_7.Cells.length c6], 1⟩, ⟨B8, 91, (r_8.Cells.flatMap enc_Dyadic), c7 * 5⟩, ⟨some ⟨b4, 0, none⟩, 29, [.slice B8 r_8.Cells.length c7], 1⟩, ⟨B9, 91, (r_9.Cells.flatMap enc_Dyadic), c8 * 5⟩, ⟨some ⟨b5, 0, none⟩, 29, [.slice B9 r_9.Cells.length c8], 1⟩, ⟨B10, 91, (r_12.Cells.flatMap enc_Dyadic), c9 * 5⟩, ⟨B11, 91, (r_14.Cells.flatMap enc_Dyadic), c10 * 5⟩] [⟨B, (aA.Cells.flatMap enc_Dyadic)⟩, ⟨B1, (aB.Cells.flatMap enc_Dyadic)⟩] := hS45
                refine ⟨(ST.sel hS45 [0, 1, 2, 3, 4, 5, 6, 7, 8, 9, 10] rfl rfl), ?_⟩
                refine ra_all (rs := [3]) (by kernel_rfl) rfl ?_
                refine ra_c 62 (i := 3) rfl rfl rfl (Yc_func (g := 19) (vs := [.agg #[.slice B8 r_8.Cells.length c7], .agg #[.slice B11 r_14.Cells.length c10]]) k_call_19 rfl (mc rfl (mc rfl mn)) (c_laws_eqBloch r_8 r_14 B8 c7 r_8.Cells.length B11 c10 r_14.Cells.length _ rfl rfl (hS45.inn0 [(false, 6), (false, 11)] rfl) hc12)) ?_ ?_
                · rintro _ w_34 ⟨rfl, hd18⟩
                  have hS46 := hS45.out00 hd18
                  have hS46 : ST w0 [] _ [⟨some ⟨b, 0, none⟩, 24, [.slice B aA.Cells.length c], 1⟩, ⟨some ⟨b1, 0, none⟩, 24, [.slice B1 aB.Cells.length c1], 1⟩, ⟨B5, 29, [.slice B6 r_5.Cells.length c5], 1⟩, ⟨B6, 91, (r_5.Cells.flatMap enc_Dyadic), c5 * 5⟩, ⟨B7, 91, (r_7.Cells.flatMap enc_Dyadic), c6 * 5⟩, ⟨some ⟨b3, 0, none⟩, 29, [.slice B7 r_7.Cells.length c6], 1⟩, ⟨B8, 91, (r_8.Cells.flatMap enc_Dyadic), c7 * 5⟩, ⟨some ⟨b4, 0, none⟩, 29, [.slice B8 r_8.Cells.length c7], 1⟩, ⟨B9, 91, (r_9.Cells.flatMap enc_Dyadic), c8 * 5⟩, ⟨some ⟨b5, 0, none⟩, 29, [.slice B9 r_9.Cells.length c8], 1⟩, ⟨B10, 91, (r_12.Cells.flatMap enc_Dyadic), c9 * 5⟩, ⟨B11, 91, (r_14.Cells.flatMap enc_Dyadic), c10 * 5⟩] [⟨B, (aA.Cells.flatMap enc_Dyadic)⟩, ⟨B1, (aB.Cells.flatMap enc_Dyadic)⟩] := hS46
                  refine ⟨(ST.sel hS46 [0, 1, 2, 3, 4, 5, 6, 7, 8, 9, 10] rfl rfl), ?_⟩
                  refine ra_q 4 63 (v := .bool (!r_15)) rfl rfl rfl (by kernel_rfl) (by kernel_rfl) (by kernel_rfl) (ST.sel hS46 [0, 1, 2, 3, 4, 5, 6, 7, 8, 9, 10] rfl rfl) (fun w' hw' => (Y_not (p := r_15) rfl rfl)) ?_
                  refine ra_done (by kernel_rfl) ?_
                  refine cw_cond (b := (!r_15)) rfl (fun hb4 => ?_) (fun hb4 => ?_)
                  · skip
                    have hF9 := ct hF8 hb4
                    refine cw_seq ?_
                    refine cw_region ?_
                    refine sq 4 rfl rfl (Y_assign (v := .bool false) rfl rfl) ?_
                    refine rw_nil ?_
                    refine cw_ret ?_
                    obtain rfl := some_inj hF9
                    exact ret1 Try.results14 (v1 := .bool false) (resAt_tmp rfl) ⟨rfl, (ST.subR (R' := []) (hS46.sel [] rfl rfl) (fun _ h => by cases h))⟩
                  · skip
                    have hF10 := cf' hF8 hb4
                    refine cw_skip ?_
                    refine cw_seq ?_
                    refine cw_region ?_
                    refine sq 12 rfl rfl (Y_assign (v := .int .i64 1) rfl rfl) ?_
                    refine rw_nil ?_
                    refine cw_seq ?_
                    refine cw_region ?_
                    refine sq 64 rfl rfl (Y_loadA (B := some ⟨b3, 0, none⟩) (i := 0) (cs := [.slice B7 r_7.Cells.length c6]) (vs := [.slice B7 r_7.Cells.length c6]) k_ag_29 k_sz_29_1 rfl rfl (hS46.cf (i := 5) rfl) rfl rfl) ?_
                    refine sq 65 rfl rfl (Y_move (v := .int .i64 1) rfl rfl) ?_
                    obtain ⟨⟨r_16, m⟩, hc13, hF10⟩ := bind_inv hF10
                    refine sc 66 rfl rfl (Yc_func (g := 52) (vs := [.agg #[.slice B7 r_7.Cells.length c6], .int .i64 1]) k_call_52 rfl (mc rfl (mc rfl mn)) (c_laws_markBloch r_7 1 B7 c6 r_7.Cells.length _ rfl (hS46.inn [false, false, false, false, true, false, false, false, false, false, false, false] rfl [] rfl) hc13)) ?_
                    rintro _ w_35 ⟨rfl, hl, hd19⟩
                    have hS47 := hS46.out [false, false, false, false, true, false, false, false, false, false, false, false] rfl hd19
                    have hS47 : ST w0 [] _ [⟨some ⟨b, 0, none⟩, 24, [.slice B aA.Cells.length c], 1⟩, ⟨some ⟨b1, 0, none⟩, 24, [.slice B1 aB.Cells.length c1], 1⟩, ⟨B5, 29, [.slice B6 r_5.Cells.length c5], 1⟩, ⟨B6, 91, (r_5.Cells.flatMap enc_Dyadic), c5 * 5⟩, ⟨some ⟨b3, 0, none⟩, 29, [.slice B7 r_7.Cells.length c6], 1⟩, ⟨B8, 91, (r_8.Cells.flatMap enc_Dyadic), c7 * 5⟩, ⟨some ⟨b4, 0, none⟩, 29, [.slice B8 r_8.Cells.length c7], 1⟩, ⟨B9, 91, (r_9.Cells.flatMap enc_Dyadic), c8 * 5⟩, ⟨some ⟨b5, 0, none⟩, 29, [.slice B9 r_9.Cells.length c8], 1⟩, ⟨B10, 91, (r_12.Cells.flatMap enc_Dyadic), c9 * 5⟩, ⟨B11, 91, (r_14.Cells.flatMap enc_Dyadic), c10 * 5⟩, ⟨B7, 91, (m.flatMap enc_Dyadic), c6 * 5⟩] [⟨B, (aA.Cells.flatMap enc_Dyadic)⟩, ⟨B1, (aB.Cells.flatMap enc_Dyadic)⟩] := hS47
                    refine sq 12 rfl rfl (Y_assign (v := .int .i64 r_16) rfl rfl) ?_
                    refine rw_nil ?_
                    refine cw_seq ?_
                    refine cw_region ?_
                    refine sq 67 rfl rfl (Y_loadA (B := some ⟨b4, 0, none⟩) (i := 0) (cs := [.slice B8 r_8.Cells.length c7]) (vs := [.slice B8 r_8.Cells.length c7]) k_ag_29 k_sz_29_1 rfl rfl (hS47.cf (i := 6) rfl) rfl rfl) ?_
                    refine sq 68 rfl rfl (Y_move (v := .int .i64 r_16) rfl rfl) ?_
                    obtain ⟨⟨r_17, m1⟩, hc14, hF10⟩ := bind_inv hF10
                    refine sc 69 rfl rfl (Yc_func (g := 52) (vs := [.agg #[.slice B8 r_8.Cells.length c7], .int .i64 r_16]) k_call_52 rfl (mc rfl (mc rfl mn)) (c_laws_markBloch r_8 r_16 B8 c7 r_8.Cells.length _ rfl (hS47.inn [false, false, false, false, false, true, false, false, false, false, false, false] rfl [] rfl) hc14)) ?_
                    rintro _ w_36 ⟨rfl, hl1, hd20⟩
                    have hS48 := hS47.out [false, false, false, false, false, true, false, false, false, false, false, false] rfl hd20
                    have hS48 : ST w0 [] _ [⟨some ⟨b, 0, none⟩, 24, [.slice B aA.Cells.length c], 1⟩, ⟨some ⟨b1, 0, none⟩, 24, [.slice B1 aB.Cells.length c1], 1⟩, ⟨B5, 29, [.slice B6 r_5.Cells.length c5], 1⟩, ⟨B6, 91, (r_5.Cells.flatMap enc_Dyadic), c5 * 5⟩, ⟨some ⟨b3, 0, none⟩, 29, [.slice B7 r_7.Cells.length c6], 1⟩, ⟨some ⟨b4, 0, none⟩, 29, [.slice B8 r_8.Cells.length c7], 1⟩, ⟨B9, 91, (r_9.Cells.flatMap enc_Dyadic), c8 * 5⟩, ⟨some ⟨b5, 0, none⟩, 29, [.slice B9 r_9.Cells.length c8], 1⟩, ⟨B10, 91, (r_12.Cells.flatMap enc_Dyadic), c9 * 5⟩, ⟨B11, 91, (r_14.Cells.flatMap enc_Dyadic), c10 * 5⟩, ⟨B7, 91, (m.flatMap enc_Dyadic), c6 * 5⟩, ⟨B8, 91, (m1.flatMap enc_Dyadic), c7 * 5⟩] [⟨B, (aA.Cells.flatMap enc_Dyadic)⟩, ⟨B1, (aB.Cells.flatMap enc_Dyadic)⟩] := hS48
                    refine sq 12 rfl rfl (Y_assign (v := .int .i64 r_17) rfl rfl) ?_
                    refine rw_nil ?_
                    refine cw_seq ?_
                    refine cw_seq ?_
                    refine cw_region ?_
                    refine sq 70 rfl rfl (Y_move (v := .int .i64 r_17) rfl rfl) ?_
                    refine sq 71 rfl rfl (Y_lt (k := .i64) (a := r_17) (b := 0) rfl rfl rfl) ?_
                    refine sq 72 rfl rfl (Y_move (v := .bool (decide (r_17 < 0))) rfl rfl) ?_
                    refine sgq 73 (B := (!(decide (r_17 < 0)))) (v := .agg #[.slice B9 r_9.Cells.length c8]) rfl rfl (wt_f (gd_of (t := 72) (by kernel_rfl) rfl)) (fun hg3 => (Y_loadA (B := some ⟨b5, 0, none⟩) (i := 0) (cs := [.slice B9 r_9.Cells.length c8]) (vs := [.slice B9 r_9.Cells.length c8]) k_ag_29 k_sz_29_1 rfl rfl (hS48.cf (i := 7) rfl) rfl rfl)) ?_
                    refine sgq 74 (B := (!(decide (r_17 < 0)))) (v := .agg #[.slice B6 r_5.Cells.length c5]) rfl rfl (wt_f (gd_of (t := 72) (by kernel_rfl) rfl)) (fun hg4 => (Y_loadA (B := B5) (i := 0) (cs := [.slice B6 r_5.Cells.length c5]) (vs := [.slice B6 r_5.Cells.length c5]) k_ag_29 k_sz_29_1 rfl (hf.get 6 2 rfl) (hS48.cf (i := 2) rfl) rfl rfl)) ?_
                    obtain ⟨r_18, hc15, hF10⟩ := bind_inv hF10
                    refine sgc 75 (B := (!(decide (r_17 < 0)))) (v := .bool r_18) (F := hS48.fn) rfl rfl (wt_f (gd_of (t := 72) (by kernel_rfl) rfl)) hS48 (fun hg5 => (Yc_func (g := 19) (vs := [.agg #[.slice B9 r_9.Cells.length c8], .agg #[.slice B6 r_5.Cells.length c5]]) k_call_19 rfl (mc (gv_of (B := (!(decide (r_17 < 0)))) (v := .agg #[.slice B9 r_9.Cells.length c8]) hg5) (mc (gv_of (B := (!(decide (r_17 < 0)))) (v := .agg #[.slice B6 r_5.Cells.length c5]) hg5) mn)) (CV.mono (c_laws_eqBloch r_9 r_5 B9 c8 r_9.Cells.length B6 c5 r_5.Cells.length _ rfl rfl (hS48.inn0 [(false, 6), (false, 3)] rfl) (gb_inv hc15 hg5)) (by rintro _ _ ⟨rfl, h⟩; exact ⟨rfl, hS48.out00 h⟩)))) ?_
                    rintro w_37 hS49
                    have hS49 : ST _ _ w_37 _ _ := hS49
                    refine sgq 76 (B := (!(decide (r_17 < 0)))) (v := .bool (!r_18)) rfl rfl (wt_f (gd_of (t := 72) (by kernel_rfl) rfl)) (fun hg6 => (Y_not (p := r_18) rfl (gv_of (B := (!(decide (r_17 < 0)))) (v := .bool r_18) hg6))) ?_
                    refine sq 77 rfl rfl (Y_or (b := (decide (r_17 < 0))) (z := (!r_18)) rfl rfl rfl rfl) ?_
                    refine sq 78 rfl rfl (Y_move (v := .bool ((decide (r_17 < 0)) || (!r_18))) rfl rfl) ?_
                    refine sgq 79 (B := (!((decide (r_17 < 0)) || (!r_18)))) (v := .bool r_10) rfl rfl (wt_f (gd_of (t := 78) (by kernel_rfl) rfl)) (fun hg7 => (Y_move (v := .bool r_10) rfl rfl)) ?_
                    refine sgq 80 (B := (!((decide (r_17 < 0)) || (!r_18)))) (v := .bool r_6) rfl rfl (wt_f (gd_of (t := 78) (by kernel_rfl) rfl)) (fun hg8 => (Y_move (v := .bool r_6) rfl (hf.get 7 3 rfl))) ?_
                    refine sgq 81 (B := (!((decide (r_17 < 0)) || (!r_18)))) (v := .bool (!(r_10 == r_6))) rfl rfl (wt_f (gd_of (t := 78) (by kernel_rfl) rfl)) (fun hg9 => (Y_bne (p := r_10) (q := r_6) k_und_4 rfl (gv_of (B := (!((decide (r_17 < 0)) || (!r_18)))) (v := .bool r_10) hg9) (gv_of (B := (!((decide (r_17 < 0)) || (!r_18)))) (v := .bool r_6) hg9))) ?_
                    refine sq 82 rfl rfl (Y_or (b := ((decide (r_17 < 0)) || (!r_18))) (z := (!(r_10 == r_6))) rfl rfl rfl rfl) ?_
                    refine rw_nil ?_
                    refine cw_cond (b := (((decide (r_17 < 0)) || (!r_18)) || (!(r_10 == r_6)))) rfl (fun hb5 => ?_) (fun hb5 => ?_)
                    · skip
                      have hF11 := ct hF10 hb5
                      refine cw_seq ?_
                      refine cw_region ?_
                      refine sq 4 rfl rfl (Y_assign (v := .bool false) rfl rfl) ?_
                      refine rw_nil ?_
                      refine cw_ret ?_
                      obtain rfl := some_inj hF11
                      exact ret1 Try.results14 (v1 := .bool false) (resAt_tmp rfl) ⟨rfl, (ST.subR (R' := []) (hS49.sel [] rfl rfl) (fun _ h => by cases h))⟩
                    · skip
                      have hF12 := cf' hF10 hb5
                      refine cw_skip ?_
                      refine cw_seq ?_
                      refine cw_region ?_
                      refine sq 13 rfl rfl (Y_assign (v := .int .i64 1) rfl rfl) ?_
                      refine rw_nil ?_
                      refine cw_seq ?_
                      refine cw_region ?_
                      refine sq 83 rfl rfl (Y_loadA (B := some ⟨b5, 0, none⟩) (i := 0) (cs := [.slice B9 r_9.Cells.length c8]) (vs := [.slice B9 r_9.Cells.length c8]) k_ag_29 k_sz_29_1 rfl rfl (hS49.cf (i := 7) rfl) rfl rfl) ?_
                      refine sq 84 rfl rfl (Y_move (v := .int .i64 1) rfl rfl) ?_
                      obtain ⟨⟨r_19, m2⟩, hc16, hF12⟩ := bind_inv hF12
                      refine sc 85 rfl rfl (Yc_func (g := 52) (vs := [.agg #[.slice B9 r_9.Cells.length c8], .int .i64 1]) k_call_52 rfl (mc rfl (mc rfl mn)) (c_laws_markBloch r_9 1 B9 c8 r_9.Cells.length _ rfl (hS49.inn [false, false, false, false, false, false, true, false, false, false, false, false] rfl [] rfl) hc16)) ?_
                      rintro _ w_38 ⟨rfl, hl2, hd21⟩
                      have hS50 := hS49.out [false, false, false, false, false, false, true, false, false, false, false, false] rfl hd21
                      have hS50 : ST w0 [] _ [⟨some ⟨b, 0, none⟩, 24, [.slice B aA.Cells.length c], 1⟩, ⟨some ⟨b1, 0, none⟩, 24, [.slice B1 aB.Cells.length c1], 1⟩, ⟨B5, 29, [.slice B6 r_5.Cells.length c5], 1⟩, ⟨B6, 91, (r_5.Cells.flatMap enc_Dyadic), c5 * 5⟩, ⟨some ⟨b3, 0, none⟩, 29, [.slice B7 r_7.Cells.length c6], 1⟩, ⟨some ⟨b4, 0, none⟩, 29, [.slice B8 r_8.Cells.length c7], 1⟩, ⟨some ⟨b5, 0, none⟩, 29, [.slice B9 r_9.Cells.length c8], 1⟩, ⟨B10, 91, (r_12.Cells.flatMap enc_Dyadic), c9 * 5⟩, ⟨B11, 91, (r_14.Cells.flatMap enc_Dyadic), c10 * 5⟩, ⟨B7, 91, (m.flatMap enc_Dyadic), c6 * 5⟩, ⟨B8, 91, (m1.flatMap enc_Dyadic), c7 * 5⟩, ⟨B9, 91, (m2.flatMap enc_Dyadic), c8 * 5⟩] [⟨B, (aA.Cells.flatMap enc_Dyadic)⟩, ⟨B1, (aB.Cells.flatMap enc_Dyadic)⟩] := hS50
                      refine sq 13 rfl rfl (Y_assign (v := .int .i64 r_19) rfl rfl) ?_
                      refine rw_nil ?_
                      refine cw_seq ?_
                      refine cw_region ?_
                      refine sq 14 rfl rfl (Y_assign (v := .int .i64 1) rfl rfl) ?_
                      refine rw_nil ?_
                      refine cw_seq ?_
                      refine cw_region ?_
                      refine sq 86 rfl rfl (Y_loadA (B := some ⟨b5, 0, none⟩) (i := 0) (cs := [.slice B9 r_9.Cells.length c8]) (vs := [.slice B9 r_9.Cells.length c8]) k_ag_29 k_sz_29_1 rfl rfl (hS50.cf (i := 6) rfl) rfl rfl) ?_
                      refine sq 87 rfl rfl (Y_move (v := .int .i64 1) rfl rfl) ?_
                      obtain ⟨r_20, hc17, hF12⟩ := bind_inv hF12
                      refine sc 88 rfl rfl (Yc_func (g := 53) (vs := [.agg #[.slice B9 r_9.Cells.length c8], .int .i64 1]) k_call_53 rfl (mc rfl (mc rfl mn)) (c_laws_heldBloch (TBloch.mk m2) 1 B9 c8 r_9.Cells.length _ hl2 (hS50.inn0 [(false, 11)] rfl) hc17)) ?_
                      rintro _ w_39 ⟨rfl, hd22⟩
                      have hS51 := hS50.out00 hd22
                      have hS51 : ST w0 [] _ [⟨some ⟨b, 0, none⟩, 24, [.slice B aA.Cells.length c], 1⟩, ⟨some ⟨b1, 0, none⟩, 24, [.slice B1 aB.Cells.length c1], 1⟩, ⟨B5, 29, [.slice B6 r_5.Cells.length c5], 1⟩, ⟨B6, 91, (r_5.Cells.flatMap enc_Dyadic), c5 * 5⟩, ⟨some ⟨b3, 0, none⟩, 29, [.slice B7 r_7.Cells.length c6], 1⟩, ⟨some ⟨b4, 0, none⟩, 29, [.slice B8 r_8.Cells.length c7], 1⟩, ⟨some ⟨b5, 0, none⟩, 29, [.slice B9 r_9.Cells.length c8], 1⟩, ⟨B10, 91, (r_12.Cells.flatMap enc_Dyadic), c9 * 5⟩, ⟨B11, 91, (r_14.Cells.flatMap enc_Dyadic), c10 * 5⟩, ⟨B7, 91, (m.flatMap enc_Dyadic), c6 * 5⟩, ⟨B8, 91, (m1.flatMap enc_Dyadic), c7 * 5⟩, ⟨B9, 91, (m2.flatMap enc_Dyadic), c8 * 5⟩] [⟨B, (aA.Cells.flatMap enc_Dyadic)⟩, ⟨B1, (aB.Cells.flatMap enc_Dyadic)⟩] := hS51
                      refine sq 14 rfl rfl (Y_assign (v := .int .i64 r_20) rfl rfl) ?_
                      refine rw_nil ?_
                      refine cw_seq ?_
                      refine cw_seq ?_
                      refine cw_region ?_
                      refine sq 89 rfl rfl (Y_move (v := .int .i64 r_20) rfl rfl) ?_
                      refine sq 90 rfl rfl (Y_lt (k := .i64) (a := r_20) (b := 0) rfl rfl rfl) ?_
                      refine rw_nil ?_
                      refine cw_cond (b := (decide (r_20 < 0))) rfl (fun hb6 => ?_) (fun hb6 => ?_)
                      · skip
                        have hF13 := ct hF12 hb6
                        refine cw_seq ?_
                        refine cw_region ?_
                        refine sq 4 rfl rfl (Y_assign (v := .bool false) rfl rfl) ?_
                        refine rw_nil ?_
                        refine cw_ret ?_
                        obtain rfl := some_inj hF13
                        exact ret1 Try.results14 (v1 := .bool false) (resAt_tmp rfl) ⟨rfl, (ST.subR (R' := []) (hS51.sel [] rfl rfl) (fun _ h => by cases h))⟩
                      · skip
                        have hF14 := cf' hF12 hb6
                        refine cw_skip ?_
                        refine cw_seq ?_
                        refine cw_seq ?_
                        refine cw_region ?_
                        refine sq 91 rfl rfl (Y_move (v := .int .i64 r_20) rfl rfl) ?_
                        refine sq 92 rfl rfl (Y_move (v := .int .i64 r_19) rfl rfl) ?_
                        refine sq 93 rfl rfl (Y_ne (k := .i64) (a := r_20) (b := r_19) rfl rfl rfl) ?_
                        refine rw_nil ?_
                        refine cw_cond (b := (r_20 != r_19)) rfl (fun hb7 => ?_) (fun hb7 => ?_)
                        · skip
                          have hF15 := ct hF14 hb7
                          refine cw_seq ?_
                          refine cw_region ?_
                          refine sq 4 rfl rfl (Y_assign (v := .bool false) rfl rfl) ?_
                          refine rw_nil ?_
                          refine cw_ret ?_
                          obtain rfl := some_inj hF15
                          exact ret1 Try.results14 (v1 := .bool false) (resAt_tmp rfl) ⟨rfl, (ST.subR (R' := []) (hS51.sel [] rfl rfl) (fun _ h => by cases h))⟩
                        · skip
                          have hF16 := cf' hF14 hb7
                          refine cw_skip ?_
                          refine cw_seq ?_
                          obtain ⟨r_21, hc18, hF16⟩ := bind_inv hF16
                          obtain ⟨r_22, hc19, hF16⟩ := bind_inv hF16
                          obtain ⟨⟨r_23, r_24⟩, hc20, hF16⟩ := bind_inv hF16
                          refine cw_mid (fun f w => ∃ (B15 : Option Addr) (B16 : Option Addr) (c14 : Nat), FF f [(6, pt B5 0), (7, .bool r_6), (10, pt (some ⟨b5, 0, none⟩) 0), (13, .int .i64 r_19), (15, pt B15 0), (16, .bool r_24)] ∧ ST w0 [] w [⟨B5, 29, [.slice B6 r_5.Cells.length c5], 1⟩, ⟨B6, 91, (r_5.Cells.flatMap enc_Dyadic), c5 * 5⟩, ⟨some ⟨b5, 0, none⟩, 29, [.slice B9 r_9.Cells.length c8], 1⟩, ⟨B9, 91, (m2.flatMap enc_Dyadic), c8 * 5⟩, ⟨B15, 29, [.slice B16 r_23.Cells.length c14], 1⟩, ⟨B16, 91, (r_23.Cells.flatMap enc_Dyadic), c14 * 5⟩] [⟨B, (aA.Cells.flatMap enc_Dyadic)⟩, ⟨B1, (aB.Cells.flatMap enc_Dyadic)⟩]) ?_ ?_
                          · skip
                            refine ra_start (ST.sel hS51 [0, 1, 2, 3, 4, 5, 6, 7, 8, 9, 10, 11] rfl rfl).fn (by kernel_rfl) ?_
                            have hS56 := hS51.drew
                            refine ra_q 0 95 (v := .agg #[.slice B aA.Cells.length c]) rfl rfl rfl (by kernel_rfl) (by kernel_rfl) (by kernel_rfl) (ST.sel hS56 [0, 1, 2, 3, 4, 5, 6, 7, 8, 9, 10, 11] rfl rfl) (fun w' hw' => (Y_loadA (B := some ⟨b, 0, none⟩) (i := 0) (cs := [.slice B aA.Cells.length c]) (vs := [.slice B aA.Cells.length c]) k_ag_24 k_sz_24_1 rfl (hf.get 2 0 rfl) (ST.cf hw' (i := 0) rfl) rfl rfl)) ?_
                            refine ra_q 2 97 (v := .agg #[.slice B1 aB.Cells.length c1]) rfl rfl rfl (by kernel_rfl) (by kernel_rfl) (by kernel_rfl) (ST.sel hS56 [0, 1, 2, 3, 4, 5, 6, 7, 8, 9, 10, 11] rfl rfl) (fun w' hw' => (Y_loadA (B := some ⟨b1, 0, none⟩) (i := 0) (cs := [.slice B1 aB.Cells.length c1]) (vs := [.slice B1 aB.Cells.length c1]) k_ag_24 k_sz_24_1 rfl (hf.get 3 1 rfl) (ST.cf hw' (i := 1) rfl) rfl rfl)) ?_
                            refine ra_all (rs := [1, 8]) (by kernel_rfl) rfl ?_
                            refine ra_c 96 (i := 1) rfl rfl rfl (Yc_func (g := 17) (vs := [.agg #[.slice B aA.Cells.length c]]) k_call_17 rfl (mc rfl mn) (c_laws_toBloch aA B c aA.Cells.length _ rfl (hS56.inn0 [(true, 0)] rfl) hc18)) ?_ ?_
                            · rintro _ w_40 ⟨B12, c11, rfl, hd23⟩
                              have hS57 := hS56.out0 hd23
                              have hS57 : ST w0 [] _ [⟨some ⟨b, 0, none⟩, 24, [.slice B aA.Cells.length c], 1⟩, ⟨some ⟨b1, 0, none⟩, 24, [.slice B1 aB.Cells.length c1], 1⟩, ⟨B5, 29, [.slice B6 r_5.Cells.length c5], 1⟩, ⟨B6, 91, (r_5.Cells.flatMap enc_Dyadic), c5 * 5⟩, ⟨some ⟨b3, 0, none⟩, 29, [.slice B7 r_7.Cells.length c6], 1⟩, ⟨some ⟨b4, 0, none⟩, 29, [.slice B8 r_8.Cells.length c7], 1⟩, ⟨some ⟨b5, 0, none⟩, 29, [.slice B9 r_9.Cells.length c8], 1⟩, ⟨B10, 91, (r_12.Cells.flatMap enc_Dyadic), c9 * 5⟩, ⟨B11, 91, (r_14.Cells.flatMap enc_Dyadic), c10 * 5⟩, ⟨B7, 91, (m.flatMap enc_Dyadic), c6 * 5⟩, ⟨B8, 91, (m1.flatMap enc_Dyadic), c7 * 5⟩, ⟨B9, 91, (m2.flatMap enc_Dyadic), c8 * 5⟩, ⟨B12, 91, (r_21.Cells.flatMap enc_Dyadic), c11 * 5⟩] [⟨B, (aA.Cells.flatMap enc_Dyadic)⟩, ⟨B1, (aB.Cells.flatMap enc_Dyadic)⟩] := hS57
                              refine ⟨(ST.sel hS57 [0, 1, 2, 3, 4, 5, 6, 7, 8, 9, 10, 11] rfl rfl), ?_⟩
                              refine ra_all (rs := [3, 8]) (by kernel_rfl) rfl ?_
                              refine ra_c 98 (i := 3) rfl rfl rfl (Yc_func (g := 17) (vs := [.agg #[.slice B1 aB.Cells.length c1]]) k_call_17 rfl (mc rfl mn) (c_laws_toBloch aB B1 c1 aB.Cells.length _ rfl (hS57.inn0 [(true, 1)] rfl) hc19)) ?_ ?_
                              · rintro _ w_41 ⟨B13, c12, rfl, hd24⟩
                                have hS58 := hS57.out0 hd24
                                have hS58 : ST w0 [] _ [⟨some ⟨b, 0, none⟩, 24, [.slice B aA.Cells.length c], 1⟩, ⟨some ⟨b1, 0, none⟩, 24, [.slice B1 aB.Cells.length c1], 1⟩, ⟨B5, 29, [.slice B6 r_5.Cells.length c5], 1⟩, ⟨B6, 91, (r_5.Cells.flatMap enc_Dyadic), c5 * 5⟩, ⟨some ⟨b3, 0, none⟩, 29, [.slice B7 r_7.Cells.length c6], 1⟩, ⟨some ⟨b4, 0, none⟩, 29, [.slice B8 r_8.Cells.length c7], 1⟩, ⟨some ⟨b5, 0, none⟩, 29, [.slice B9 r_9.Cells.length c8], 1⟩, ⟨B10, 91, (r_12.Cells.flatMap enc_Dyadic), c9 * 5⟩, ⟨B11, 91, (r_14.Cells.flatMap enc_Dyadic), c10 * 5⟩, ⟨B7, 91, (m.flatMap enc_Dyadic), c6 * 5⟩, ⟨B8, 91, (m1.flatMap enc_Dyadic), c7 * 5⟩, ⟨B9, 91, (m2.flatMap enc_Dyadic), c8 * 5⟩, ⟨B12, 91, (r_21.Cells.flatMap enc_Dyadic), c11 * 5⟩, ⟨B13, 91, (r_22.Cells.flatMap enc_Dyadic), c12 * 5⟩] [⟨B, (aA.Cells.flatMap enc_Dyadic)⟩, ⟨B1, (aB.Cells.flatMap enc_Dyadic)⟩] := hS58
                                refine ⟨(ST.sel hS58 [0, 1, 2, 3, 4, 5, 6, 7, 8, 9, 10, 11] rfl rfl), ?_⟩
                                refine ra_all (rs := [4, 8]) (by kernel_rfl) rfl ?_
                                refine ra_c 99 (i := 4) rfl rfl rfl (Yc_func (g := 57) (vs := [.agg #[.slice B12 r_21.Cells.length c11], .agg #[.slice B13 r_22.Cells.length c12]]) k_call_57 rfl (mc rfl (mc rfl mn)) (c_impl_MulBloch r_21 r_22 B12 c11 r_21.Cells.length B13 c12 r_22.Cells.length _ rfl rfl (hS58.inn0 [(false, 12), (false, 13)] rfl) hc20)) ?_ ?_
                                · rintro _ w_42 ⟨B14, c13, rfl, hd25⟩
                                  have hS59 := hS58.out0 hd25
                                  have hS59 : ST w0 [] _ [⟨some ⟨b, 0, none⟩, 24, [.slice B aA.Cells.length c], 1⟩, ⟨some ⟨b1, 0, none⟩, 24, [.slice B1 aB.Cells.length c1], 1⟩, ⟨B5, 29, [.slice B6 r_5.Cells.length c5], 1⟩, ⟨B6, 91, (r_5.Cells.flatMap enc_Dyadic), c5 * 5⟩, ⟨some ⟨b3, 0, none⟩, 29, [.slice B7 r_7.Cells.length c6], 1⟩, ⟨some ⟨b4, 0, none⟩, 29, [.slice B8 r_8.Cells.length c7], 1⟩, ⟨some ⟨b5, 0, none⟩, 29, [.slice B9 r_9.Cells.length c8], 1⟩, ⟨B10, 91, (r_12.Cells.flatMap enc_Dyadic), c9 * 5⟩, ⟨B11, 91, (r_14.Cells.flatMap enc_Dyadic), c10 * 5⟩, ⟨B7, 91, (m.flatMap enc_Dyadic), c6 * 5⟩, ⟨B8, 91, (m1.flatMap enc_Dyadic), c7 * 5⟩, ⟨B9, 91, (m2.flatMap enc_Dyadic), c8 * 5⟩, ⟨B12, 91, (r_21.Cells.flatMap enc_Dyadic), c11 * 5⟩, ⟨B13, 91, (r_22.Cells.flatMap enc_Dyadic), c12 * 5⟩, ⟨B14, 91, (r_23.Cells.flatMap enc_Dyadic), c13 * 5⟩] [⟨B, (aA.Cells.flatMap enc_Dyadic)⟩, ⟨B1, (aB.Cells.flatMap enc_Dyadic)⟩] := hS59
                                  refine ⟨(ST.sel hS59 [0, 1, 2, 3, 4, 5, 6, 7, 8, 9, 10, 11] rfl rfl), ?_⟩
                                  refine ra_q 5 94 (v := .tuple #[.agg #[.slice B14 r_23.Cells.length c13], .bool r_24]) rfl rfl rfl (by kernel_rfl) (by kernel_rfl) (by kernel_rfl) (ST.sel hS59 [0, 1, 2, 3, 4, 5, 6, 7, 8, 9, 10, 11] rfl rfl) (fun w' hw' => (Y_move (v := .tuple #[.agg #[.slice B14 r_23.Cells.length c13], .bool r_24]) rfl rfl)) ?_
                                  refine ra_q 6 100 (v := .agg #[.slice B14 r_23.Cells.length c13]) rfl rfl rfl (by kernel_rfl) (by kernel_rfl) (by kernel_rfl) (ST.sel hS59 [0, 1, 2, 3, 4, 5, 6, 7, 8, 9, 10, 11] rfl rfl) (fun w' hw' => (Y_extract (v := .agg #[.slice B14 r_23.Cells.length c13]) rfl rfl rfl)) ?_
                                  refine ra_q 7 101 (v := .bool r_24) rfl rfl rfl (by kernel_rfl) (by kernel_rfl) (by kernel_rfl) (ST.sel hS59 [0, 1, 2, 3, 4, 5, 6, 7, 8, 9, 10, 11] rfl rfl) (fun w' hw' => (Y_extract (v := .bool r_24) rfl rfl rfl)) ?_
                                  refine ra_all (rs := [8]) (by kernel_rfl) rfl ?_
                                  refine ra_s 15 (i := 8) rfl rfl rfl (Ys_alloc (T := 29) (cs := [.slice none 0 0]) (m := 1) hS59 k_zero_29 rfl rfl rfl) ?_ ?_
                                  · rintro _ w_43 ⟨b6, rfl, hS60⟩
                                    have hS60 : ST w0 [] _ [⟨some ⟨b, 0, none⟩, 24, [.slice B aA.Cells.length c], 1⟩, ⟨some ⟨b1, 0, none⟩, 24, [.slice B1 aB.Cells.length c1], 1⟩, ⟨B5, 29, [.slice B6 r_5.Cells.length c5], 1⟩, ⟨B6, 91, (r_5.Cells.flatMap enc_Dyadic), c5 * 5⟩, ⟨some ⟨b3, 0, none⟩, 29, [.slice B7 r_7.Cells.length c6], 1⟩, ⟨some ⟨b4, 0, none⟩, 29, [.slice B8 r_8.Cells.length c7], 1⟩, ⟨some ⟨b5, 0, none⟩, 29, [.slice B9 r_9.Cells.length c8], 1⟩, ⟨B10, 91, (r_12.Cells.flatMap enc_Dyadic), c9 * 5⟩, ⟨B11, 91, (r_14.Cells.flatMap enc_Dyadic), c10 * 5⟩, ⟨B7, 91, (m.flatMap enc_Dyadic), c6 * 5⟩, ⟨B8, 91, (m1.flatMap enc_Dyadic), c7 * 5⟩, ⟨B9, 91, (m2.flatMap enc_Dyadic), c8 * 5⟩, ⟨B12, 91, (r_21.Cells.flatMap enc_Dyadic), c11 * 5⟩, ⟨B13, 91, (r_22.Cells.flatMap enc_Dyadic), c12 * 5⟩, ⟨B14, 91, (r_23.Cells.flatMap enc_Dyadic), c13 * 5⟩, ⟨some ⟨b6, 0, none⟩, 29, [.slice none 0 0], 1⟩] [⟨B, (aA.Cells.flatMap enc_Dyadic)⟩, ⟨B1, (aB.Cells.flatMap enc_Dyadic)⟩] := hS60
                                    refine ⟨(ST.sel hS60 [0, 1, 2, 3, 4, 5, 6, 7, 8, 9, 10, 11] rfl rfl), ?_⟩
                                    refine ra_all (rs := [9]) (by kernel_rfl) rfl ?_
                                    refine ra_s0 (i := 9) rfl rfl rfl (Ys_store (i := 15) (s := 1) (B := some ⟨b6, 0, none⟩) (T' := 29) (v := .agg #[.slice B14 r_23.Cells.length c13]) (vs := [.slice B14 r_23.Cells.length c13]) (k := 0) (cs' := [.slice B14 r_23.Cells.length c13]) hS60 k_sz_29_1 rfl rfl rfl rfl rfl rfl rfl (Nat.le_of_ble_eq_true rfl) rfl rfl) ?_ ?_
                                    · rintro _ w_44 ⟨rfl, hS61⟩
                                      have hS61 : ST w0 [] _ [⟨some ⟨b, 0, none⟩, 24, [.slice B aA.Cells.length c], 1⟩, ⟨some ⟨b1, 0, none⟩, 24, [.slice B1 aB.Cells.length c1], 1⟩, ⟨B5, 29, [.slice B6 r_5.Cells.length c5], 1⟩, ⟨B6, 91, (r_5.Cells.flatMap enc_Dyadic), c5 * 5⟩, ⟨some ⟨b3, 0, none⟩, 29, [.slice B7 r_7.Cells.length c6], 1⟩, ⟨some ⟨b4, 0, none⟩, 29, [.slice B8 r_8.Cells.length c7], 1⟩, ⟨some ⟨b5, 0, none⟩, 29, [.slice B9 r_9.Cells.length c8], 1⟩, ⟨B10, 91, (r_12.Cells.flatMap enc_Dyadic), c9 * 5⟩, ⟨B11, 91, (r_14.Cells.flatMap enc_Dyadic), c10 * 5⟩, ⟨B7, 91, (m.flatMap enc_Dyadic), c6 * 5⟩, ⟨B8, 91, (m1.flatMap enc_Dyadic), c7 * 5⟩, ⟨B9, 91, (m2.flatMap enc_Dyadic), c8 * 5⟩, ⟨B12, 91, (r_21.Cells.flatMap enc_Dyadic), c11 * 5⟩, ⟨B13, 91, (r_22.Cells.flatMap enc_Dyadic), c12 * 5⟩, ⟨B14, 91, (r_23.Cells.flatMap enc_Dyadic), c13 * 5⟩, ⟨some ⟨b6, 0, none⟩, 29, [.slice B14 r_23.Cells.length c13], 1⟩] [⟨B, (aA.Cells.flatMap enc_Dyadic)⟩, ⟨B1, (aB.Cells.flatMap enc_Dyadic)⟩] := hS61
                                      refine ⟨(ST.sel hS61 [0, 1, 2, 3, 4, 5, 6, 7, 8, 9, 10, 11] rfl rfl), ?_⟩
                                      refine ra_q 10 16 (v := .bool r_24) rfl rfl rfl (by kernel_rfl) (by kernel_rfl) (by kernel_rfl) (ST.sel hS61 [0, 1, 2, 3, 4, 5, 6, 7, 8, 9, 10, 11] rfl rfl) (fun w' hw' => (Y_assign (v := .bool r_24) rfl rfl)) ?_
                                      refine ra_done (by kernel_rfl) ?_
                                      exact ⟨some ⟨b6, 0, none⟩, B14, c13, (FF.cons (hf.get 6 2 rfl) (FF.cons (hf.get 7 3 rfl) (FF.cons rfl (FF.cons rfl (FF.cons rfl (FF.cons rfl FF.nil)))))), (hS61.sel [2, 3, 6, 11, 15, 14] rfl rfl)⟩
                                    exact allR_nil
                                  exact allR_nil
                                refine ra_s 15 (i := 8) rfl rfl rfl (Ys_alloc (T := 29) (cs := [.slice none 0 0]) (m := 1) hS58 k_zero_29 rfl rfl rfl) ?_ ?_
                                · rintro _ w_45 ⟨b6, rfl, hS62⟩
                                  have hS62 : ST w0 [] _ [⟨some ⟨b, 0, none⟩, 24, [.slice B aA.Cells.length c], 1⟩, ⟨some ⟨b1, 0, none⟩, 24, [.slice B1 aB.Cells.length c1], 1⟩, ⟨B5, 29, [.slice B6 r_5.Cells.length c5], 1⟩, ⟨B6, 91, (r_5.Cells.flatMap enc_Dyadic), c5 * 5⟩, ⟨some ⟨b3, 0, none⟩, 29, [.slice B7 r_7.Cells.length c6], 1⟩, ⟨some ⟨b4, 0, none⟩, 29, [.slice B8 r_8.Cells.length c7], 1⟩, ⟨some ⟨b5, 0, none⟩, 29, [.slice B9 r_9.Cells.length c8], 1⟩, ⟨B10, 91, (r_12.Cells.flatMap enc_Dyadic), c9 * 5⟩, ⟨B11, 91, (r_14.Cells.flatMap enc_Dyadic), c10 * 5⟩, ⟨B7, 91, (m.flatMap enc_Dyadic), c6 * 5⟩, ⟨B8, 91, (m1.flatMap enc_Dyadic), c7 * 5⟩, ⟨B9, 91, (m2.flatMap enc_Dyadic), c8 * 5⟩, ⟨B12, 91, (r_21.Cells.flatMap enc_Dyadic), c11 * 5⟩, ⟨B13, 91, (r_22.Cells.flatMap enc_Dyadic), c12 * 5⟩, ⟨some ⟨b6, 0, none⟩, 29, [.slice none 0 0], 1⟩] [⟨B, (aA.Cells.flatMap enc_Dyadic)⟩, ⟨B1, (aB.Cells.flatMap enc_Dyadic)⟩] := hS62
                                  refine ⟨(ST.sel hS62 [0, 1, 2, 3, 4, 5, 6, 7, 8, 9, 10, 11] rfl rfl), ?_⟩
                                  refine ra_all (rs := [4]) (by kernel_rfl) rfl ?_
                                  refine ra_c 99 (i := 4) rfl rfl rfl (Yc_func (g := 57) (vs := [.agg #[.slice B12 r_21.Cells.length c11], .agg #[.slice B13 r_22.Cells.length c12]]) k_call_57 rfl (mc rfl (mc rfl mn)) (c_impl_MulBloch r_21 r_22 B12 c11 r_21.Cells.length B13 c12 r_22.Cells.length _ rfl rfl (hS62.inn0 [(false, 12), (false, 13)] rfl) hc20)) ?_ ?_
                                  · rintro _ w_46 ⟨B14, c13, rfl, hd26⟩
                                    have hS63 := hS62.out0 hd26
                                    have hS63 : ST w0 [] _ [⟨some ⟨b, 0, none⟩, 24, [.slice B aA.Cells.length c], 1⟩, ⟨some ⟨b1, 0, none⟩, 24, [.slice B1 aB.Cells.length c1], 1⟩, ⟨B5, 29, [.slice B6 r_5.Cells.length c5], 1⟩, ⟨B6, 91, (r_5.Cells.flatMap enc_Dyadic), c5 * 5⟩, ⟨some ⟨b3, 0, none⟩, 29, [.slice B7 r_7.Cells.length c6], 1⟩, ⟨some ⟨b4, 0, none⟩, 29, [.slice B8 r_8.Cells.length c7], 1⟩, ⟨some ⟨b5, 0, none⟩, 29, [.slice B9 r_9.Cells.length c8], 1⟩, ⟨B10, 91, (r_12.Cells.flatMap enc_Dyadic), c9 * 5⟩, ⟨B11, 91, (r_14.Cells.flatMap enc_Dyadic), c10 * 5⟩, ⟨B7, 91, (m.flatMap enc_Dyadic), c6 * 5⟩, ⟨B8, 91, (m1.flatMap enc_Dyadic), c7 * 5⟩, ⟨B9, 91, (m2.flatMap enc_Dyadic), c8 * 5⟩, ⟨B12, 91, (r_21.Cells.flatMap enc_Dyadic), c11 * 5⟩, ⟨B13, 91, (r_22.Cells.flatMap enc_Dyadic), c12 * 5⟩, ⟨some ⟨b6, 0, none⟩, 29, [.slice none 0 0], 1⟩, ⟨B14, 91, (r_23.Cells.flatMap enc_Dyadic), c13 * 5⟩] [⟨B, (aA.Cells.flatMap enc_Dyadic)⟩, ⟨B1, (aB.Cells.flatMap enc_Dyadic)⟩] := hS63
                                    refine ⟨(ST.sel hS63 [0, 1, 2, 3, 4, 5, 6, 7, 8, 9, 10, 11] rfl rfl), ?_⟩
                                    refine ra_q 5 94 (v := .tuple #[.agg #[.slice B14 r_23.Cells.length c13], .bool r_24]) rfl rfl rfl (by kernel_rfl) (by kernel_rfl) (by kernel_rfl) (ST.sel hS63 [0, 1, 2, 3, 4, 5, 6, 7, 8, 9, 10, 11] rfl rfl) (fun w' hw' => (Y_move (v := .tuple #[.agg #[.slice B14 r_23.Cells.length c13], .bool r_24]) rfl rfl)) ?_
                                    refine ra_q 6 100 (v := .agg #[.slice B14 r_23.Cells.length c13]) rfl rfl rfl (by kernel_rfl) (by kernel_rfl) (by kernel_rfl) (ST.sel hS63 [0, 1, 2, 3, 4, 5, 6, 7, 8, 9, 10, 11] rfl rfl) (fun w' hw' => (Y_extract (v := .agg #[.slice B14 r_23.Cells.length c13]) rfl rfl rfl)) ?_
                                    refine ra_q 7 101 (v := .bool r_24) rfl rfl rfl (by kernel_rfl) (by kernel_rfl) (by kernel_rfl) (ST.sel hS63 [0, 1, 2, 3, 4, 5, 6, 7, 8, 9, 10, 11] rfl rfl) (fun w' hw' => (Y_extract (v := .bool r_24) rfl rfl rfl)) ?_
                                    refine ra_all (rs := [9]) (by kernel_rfl) rfl ?_
                                    refine ra_s0 (i := 9) rfl rfl rfl (Ys_store (i := 14) (s := 1) (B := some ⟨b6, 0, none⟩) (T' := 29) (v := .agg #[.slice B14 r_23.Cells.length c13]) (vs := [.slice B14 r_23.Cells.length c13]) (k := 0) (cs' := [.slice B14 r_23.Cells.length c13]) hS63 k_sz_29_1 rfl rfl rfl rfl rfl rfl rfl (Nat.le_of_ble_eq_true rfl) rfl rfl) ?_ ?_
                                    · rintro _ w_47 ⟨rfl, hS64⟩
                                      have hS64 : ST w0 [] _ [⟨some ⟨b, 0, none⟩, 24, [.slice B aA.Cells.length c], 1⟩, ⟨some ⟨b1, 0, none⟩, 24, [.slice B1 aB.Cells.length c1], 1⟩, ⟨B5, 29, [.slice B6 r_5.Cells.length c5], 1⟩, ⟨B6, 91, (r_5.Cells.flatMap enc_Dyadic), c5 * 5⟩, ⟨some ⟨b3, 0, none⟩, 29, [.slice B7 r_7.Cells.length c6], 1⟩, ⟨some ⟨b4, 0, none⟩, 29, [.slice B8 r_8.Cells.length c7], 1⟩, ⟨some ⟨b5, 0, none⟩, 29, [.slice B9 r_9.Cells.length c8], 1⟩, ⟨B10, 91, (r_12.Cells.flatMap enc_Dyadic), c9 * 5⟩, ⟨B11, 91, (r_14.Cells.flatMap enc_Dyadic), c10 * 5⟩, ⟨B7, 91, (m.flatMap enc_Dyadic), c6 * 5⟩, ⟨B8, 91, (m1.flatMap enc_Dyadic), c7 * 5⟩, ⟨B9, 91, (m2.flatMap enc_Dyadic), c8 * 5⟩, ⟨B12, 91, (r_21.Cells.flatMap enc_Dyadic), c11 * 5⟩, ⟨B13, 91, (r_22.Cells.flatMap enc_Dyadic), c12 * 5⟩, ⟨some ⟨b6, 0, none⟩, 29, [.slice B14 r_23.Cells.length c13], 1⟩, ⟨B14, 91, (r_23.Cells.flatMap enc_Dyadic), c13 * 5⟩] [⟨B, (aA.Cells.flatMap enc_Dyadic)⟩, ⟨B1, (aB.Cells.flatMap enc_Dyadic)⟩] := hS64
                                      refine ⟨(ST.sel hS64 [0, 1, 2, 3, 4, 5, 6, 7, 8, 9, 10, 11] rfl rfl), ?_⟩
                                      refine ra_q 10 16 (v := .bool r_24) rfl rfl rfl (by kernel_rfl) (by kernel_rfl) (by kernel_rfl) (ST.sel hS64 [0, 1, 2, 3, 4, 5, 6, 7, 8, 9, 10, 11] rfl rfl) (fun w' hw' => (Y_assign (v := .bool r_24) rfl rfl)) ?_
                                      refine ra_done (by kernel_rfl) ?_
                                      exact ⟨some ⟨b6, 0, none⟩, B14, c13, (FF.cons (hf.get 6 2 rfl) (FF.cons (hf.get 7 3 rfl) (FF.cons rfl (FF.cons rfl (FF.cons rfl (FF.cons rfl FF.nil)))))), (hS64.sel [2, 3, 6, 11, 14, 15] rfl rfl)⟩
                                    exact allR_nil
                                  exact allR_nil
                                exact allR_nil
                              refine ra_s 15 (i := 8) rfl rfl rfl (Ys_alloc (T := 29) (cs := [.slice none 0 0]) (m := 1) hS57 k_zero_29 rfl rfl rfl) ?_ ?_
                              · rintro _ w_48 ⟨b6, rfl, hS65⟩
                                have hS65 : ST w0 [] _ [⟨some ⟨b, 0, none⟩, 24, [.slice B aA.Cells.length c], 1⟩, ⟨some ⟨b1, 0, none⟩, 24, [.slice B1 aB.Cells.length c1], 1⟩, ⟨B5, 29, [.slice B6 r_5.Cells.length c5], 1⟩, ⟨B6, 91, (r_5.Cells.flatMap enc_Dyadic), c5 * 5⟩, ⟨some ⟨b3, 0, none⟩, 29, [.slice B7 r_7.Cells.length c6], 1⟩, ⟨some ⟨b4, 0, none⟩, 29, [.slice B8 r_8.Cells.length c7], 1⟩, ⟨some ⟨b5, 0, none⟩, 29, [.slice B9 r_9.Cells.length c8], 1⟩, ⟨B10, 91, (r_12.Cells.flatMap enc_Dyadic), c9 * 5⟩, ⟨B11, 91, (r_14.Cells.flatMap enc_Dyadic), c10 * 5⟩, ⟨B7, 91, (m.flatMap enc_Dyadic), c6 * 5⟩, ⟨B8, 91, (m1.flatMap enc_Dyadic), c7 * 5⟩, ⟨B9, 91, (m2.flatMap enc_Dyadic), c8 * 5⟩, ⟨B12, 91, (r_21.Cells.flatMap enc_Dyadic), c11 * 5⟩, ⟨some ⟨b6, 0, none⟩, 29, [.slice none 0 0], 1⟩] [⟨B, (aA.Cells.flatMap enc_Dyadic)⟩, ⟨B1, (aB.Cells.flatMap enc_Dyadic)⟩] := hS65
                                refine ⟨(ST.sel hS65 [0, 1, 2, 3, 4, 5, 6, 7, 8, 9, 10, 11] rfl rfl), ?_⟩
                                refine ra_all (rs := [3]) (by kernel_rfl) rfl ?_
                                refine ra_c 98 (i := 3) rfl rfl rfl (Yc_func (g := 17) (vs := [.agg #[.slice B1 aB.Cells.length c1]]) k_call_17 rfl (mc rfl mn) (c_laws_toBloch aB B1 c1 aB.Cells.length _ rfl (hS65.inn0 [(true, 1)] rfl) hc19)) ?_ ?_
                                · rintro _ w_49 ⟨B13, c12, rfl, hd27⟩
                                  have hS66 := hS65.out0 hd27
                                  have hS66 : ST w0 [] _ [⟨some ⟨b, 0, none⟩, 24, [.slice B aA.Cells.length c], 1⟩, ⟨some ⟨b1, 0, none⟩, 24, [.slice B1 aB.Cells.length c1], 1⟩, ⟨B5, 29, [.slice B6 r_5.Cells.length c5], 1⟩, ⟨B6, 91, (r_5.Cells.flatMap enc_Dyadic), c5 * 5⟩, ⟨some ⟨b3, 0, none⟩, 29, [.slice B7 r_7.Cells.length c6], 1⟩, ⟨some ⟨b4, 0, none⟩, 29, [.slice B8 r_8.Cells.length c7], 1⟩, ⟨some ⟨b5, 0, none⟩, 29, [.slice B9 r_9.Cells.length c8], 1⟩, ⟨B10, 91, (r_12.Cells.flatMap enc_Dyadic), c9 * 5⟩, ⟨B11, 91, (r_14.Cells.flatMap enc_Dyadic), c10 * 5⟩, ⟨B7, 91, (m.flatMap enc_Dyadic), c6 * 5⟩, ⟨B8, 91, (m1.flatMap enc_Dyadic), c7 * 5⟩, ⟨B9, 91, (m2.flatMap enc_Dyadic), c8 * 5⟩, ⟨B12, 91, (r_21.Cells.flatMap enc_Dyadic), c11 * 5⟩, ⟨some ⟨b6, 0, none⟩, 29, [.slice none 0 0], 1⟩, ⟨B13, 91, (r_22.Cells.flatMap enc_Dyadic), c12 * 5⟩] [⟨B, (aA.Cells.flatMap enc_Dyadic)⟩, ⟨B1, (aB.Cells.flatMap enc_Dyadic)⟩] := hS66
                                  refine ⟨(ST.sel hS66 [0, 1, 2, 3, 4, 5, 6, 7, 8, 9, 10, 11] rfl rfl), ?_⟩
                                  refine ra_all (rs := [4]) (by kernel_rfl) rfl ?_
                                  refine ra_c 99 (i := 4) rfl rfl rfl (Yc_func (g := 57) (vs := [.agg #[.slice B12 r_21.Cells.length c11], .agg #[.slice B13 r_22.Cells.length c12]]) k_call_57 rfl (mc rfl (mc rfl mn)) (c_impl_MulBloch r_21 r_22 B12 c11 r_21.Cells.length B13 c12 r_22.Cells.length _ rfl rfl (hS66.inn0 [(false, 12), (false, 14)] rfl) hc20)) ?_ ?_
                                  · rintro _ w_50 ⟨B14, c13, rfl, hd28⟩
                                    have hS67 := hS66.out0 hd28
                                    have hS67 : ST w0 [] _ [⟨some ⟨b, 0, none⟩, 24, [.slice B aA.Cells.length c], 1⟩, ⟨some ⟨b1, 0, none⟩, 24, [.slice B1 aB.Cells.length c1], 1⟩, ⟨B5, 29, [.slice B6 r_5.Cells.length c5], 1⟩, ⟨B6, 91, (r_5.Cells.flatMap enc_Dyadic), c5 * 5⟩, ⟨some ⟨b3, 0, none⟩, 29, [.slice B7 r_7.Cells.length c6], 1⟩, ⟨some ⟨b4, 0, none⟩, 29, [.slice B8 r_8.Cells.length c7], 1⟩, ⟨some ⟨b5, 0, none⟩, 29, [.slice B9 r_9.Cells.length c8], 1⟩, ⟨B10, 91, (r_12.Cells.flatMap enc_Dyadic), c9 * 5⟩, ⟨B11, 91, (r_14.Cells.flatMap enc_Dyadic), c10 * 5⟩, ⟨B7, 91, (m.flatMap enc_Dyadic), c6 * 5⟩, ⟨B8, 91, (m1.flatMap enc_Dyadic), c7 * 5⟩, ⟨B9, 91, (m2.flatMap enc_Dyadic), c8 * 5⟩, ⟨B12, 91, (r_21.Cells.flatMap enc_Dyadic), c11 * 5⟩, ⟨some ⟨b6, 0, none⟩, 29, [.slice none 0 0], 1⟩, ⟨B13, 91, (r_22.Cells.flatMap enc_Dyadic), c12 * 5⟩, ⟨B14, 91, (r_23.Cells.flatMap enc_Dyadic), c13 * 5⟩] [⟨B, (aA.Cells.flatMap enc_Dyadic)⟩, ⟨B1, (aB.Cells.flatMap enc_Dyadic)⟩] := hS67
                                    refine ⟨(ST.sel hS67 [0, 1, 2, 3, 4, 5, 6, 7, 8, 9, 10, 11] rfl rfl), ?_⟩
                                    refine ra_q 5 94 (v := .tuple #[.agg #[.slice B14 r_23.Cells.length c13], .bool r_24]) rfl rfl rfl (by kernel_rfl) (by kernel_rfl) (by kernel_rfl) (ST.sel hS67 [0, 1, 2, 3, 4, 5, 6, 7, 8, 9, 10, 11] rfl rfl) (fun w' hw' => (Y_move (v := .tuple #[.agg #[.slice B14 r_23.Cells.length c13], .bool r_24]) rfl rfl)) ?_
                                    refine ra_q 6 100 (v := .agg #[.slice B14 r_23.Cells.length c13]) rfl rfl rfl (by kernel_rfl) (by kernel_rfl) (by kernel_rfl) (ST.sel hS67 [0, 1, 2, 3, 4, 5, 6, 7, 8, 9, 10, 11] rfl rfl) (fun w' hw' => (Y_extract (v := .agg #[.slice B14 r_23.Cells.length c13]) rfl rfl rfl)) ?_
                                    refine ra_q 7 101 (v := .bool r_24) rfl rfl rfl (by kernel_rfl) (by kernel_rfl) (by kernel_rfl) (ST.sel hS67 [0, 1, 2, 3, 4, 5, 6, 7, 8, 9, 10, 11] rfl rfl) (fun w' hw' => (Y_extract (v := .bool r_24) rfl rfl rfl)) ?_
                                    refine ra_all (rs := [9]) (by kernel_rfl) rfl ?_
                                    refine ra_s0 (i := 9) rfl rfl rfl (Ys_store (i := 13) (s := 1) (B := some ⟨b6, 0, none⟩) (T' := 29) (v := .agg #[.slice B14 r_23.Cells.length c13]) (vs := [.slice B14 r_23.Cells.length c13]) (k := 0) (cs' := [.slice B14 r_23.Cells.length c13]) hS67 k_sz_29_1 rfl rfl rfl rfl rfl rfl rfl (Nat.le_of_ble_eq_true rfl) rfl rfl) ?_ ?_
                                    · rintro _ w_51 ⟨rfl, hS68⟩
                                      have hS68 : ST w0 [] _ [⟨some ⟨b, 0, none⟩, 24, [.slice B aA.Cells.length c], 1⟩, ⟨some ⟨b1, 0, none⟩, 24, [.slice B1 aB.Cells.length c1], 1⟩, ⟨B5, 29, [.slice B6 r_5.Cells.length c5], 1⟩, ⟨B6, 91, (r_5.Cells.flatMap enc_Dyadic), c5 * 5⟩, ⟨some ⟨b3, 0, none⟩, 29, [.slice B7 r_7.Cells.length c6], 1⟩, ⟨some ⟨b4, 0, none⟩, 29, [.slice B8 r_8.Cells.length c7], 1⟩, ⟨some ⟨b5, 0, none⟩, 29, [.slice B9 r_9.Cells.length c8], 1⟩, ⟨B10, 91, (r_12.Cells.flatMap enc_Dyadic), c9 * 5⟩, ⟨B11, 91, (r_14.Cells.flatMap enc_Dyadic), c10 * 5⟩, ⟨B7, 91, (m.flatMap enc_Dyadic), c6 * 5⟩, ⟨B8, 91, (m1.flatMap enc_Dyadic), c7 * 5⟩, ⟨B9, 91, (m2.flatMap enc_Dyadic), c8 * 5⟩, ⟨B12, 91, (r_21.Cells.flatMap enc_Dyadic), c11 * 5⟩, ⟨some ⟨b6, 0, none⟩, 29, [.slice B14 r_23.Cells.length c13], 1⟩, ⟨B13, 91, (r_22.Cells.flatMap enc_Dyadic), c12 * 5⟩, ⟨B14, 91, (r_23.Cells.flatMap enc_Dyadic), c13 * 5⟩] [⟨B, (aA.Cells.flatMap enc_Dyadic)⟩, ⟨B1, (aB.Cells.flatMap enc_Dyadic)⟩] := hS68
                                      refine ⟨(ST.sel hS68 [0, 1, 2, 3, 4, 5, 6, 7, 8, 9, 10, 11] rfl rfl), ?_⟩
                                      refine ra_q 10 16 (v := .bool r_24) rfl rfl rfl (by kernel_rfl) (by kernel_rfl) (by kernel_rfl) (ST.sel hS68 [0, 1, 2, 3, 4, 5, 6, 7, 8, 9, 10, 11] rfl rfl) (fun w' hw' => (Y_assign (v := .bool r_24) rfl rfl)) ?_
                                      refine ra_done (by kernel_rfl) ?_
                                      exact ⟨some ⟨b6, 0, none⟩, B14, c13, (FF.cons (hf.get 6 2 rfl) (FF.cons (hf.get 7 3 rfl) (FF.cons rfl (FF.cons rfl (FF.cons rfl (FF.cons rfl FF.nil)))))), (hS68.sel [2, 3, 6, 11, 13, 15] rfl rfl)⟩
                                    exact allR_nil
                                  exact allR_nil
                                exact allR_nil
                              exact allR_nil
                            refine ra_s 15 (i := 8) rfl rfl rfl (Ys_alloc (T := 29) (cs := [.slice none 0 0]) (m := 1) hS56 k_zero_29 rfl rfl rfl) ?_ ?_
                            · rintro _ w_52 ⟨b6, rfl, hS69⟩
                              have hS69 : ST w0 [] _ [⟨some ⟨b, 0, none⟩, 24, [.slice B aA.Cells.length c], 1⟩, ⟨some ⟨b1, 0, none⟩, 24, [.slice B1 aB.Cells.length c1], 1⟩, ⟨B5, 29, [.slice B6 r_5.Cells.length c5], 1⟩, ⟨B6, 91, (r_5.Cells.flatMap enc_Dyadic), c5 * 5⟩, ⟨some ⟨b3, 0, none⟩, 29, [.slice B7 r_7.Cells.length c6], 1⟩, ⟨some ⟨b4, 0, none⟩, 29, [.slice B8 r_8.Cells.length c7], 1⟩, ⟨some ⟨b5, 0, none⟩, 29, [.slice B9 r_9.Cells.length c8], 1⟩, ⟨B10, 91, (r_12.Cells.flatMap enc_Dyadic), c9 * 5⟩, ⟨B11, 91, (r_14.Cells.flatMap enc_Dyadic), c10 * 5⟩, ⟨B7, 91, (m.flatMap enc_Dyadic), c6 * 5⟩, ⟨B8, 91, (m1.flatMap enc_Dyadic), c7 * 5⟩, ⟨B9, 91, (m2.flatMap enc_Dyadic), c8 * 5⟩, ⟨some ⟨b6, 0, none⟩, 29, [.slice none 0 0], 1⟩] [⟨B, (aA.Cells.flatMap enc_Dyadic)⟩, ⟨B1, (aB.Cells.flatMap enc_Dyadic)⟩] := hS69
                              refine ⟨(ST.sel hS69 [0, 1, 2, 3, 4, 5, 6, 7, 8, 9, 10, 11] rfl rfl), ?_⟩
                              refine ra_all (rs := [1]) (by kernel_rfl) rfl ?_
                              refine ra_c 96 (i := 1) rfl rfl rfl (Yc_func (g := 17) (vs := [.agg #[.slice B aA.Cells.length c]]) k_call_17 rfl (mc rfl mn) (c_laws_toBloch aA B c aA.Cells.length _ rfl (hS69.inn0 [(true, 0)] rfl) hc18)) ?_ ?_
                              · rintro _ w_53 ⟨B12, c11, rfl, hd29⟩
                                have hS70 := hS69.out0 hd29
                                have hS70 : ST w0 [] _ [⟨some ⟨b, 0, none⟩, 24, [.slice B aA.Cells.length c], 1⟩, ⟨some ⟨b1, 0, none⟩, 24, [.slice B1 aB.Cells.length c1], 1⟩, ⟨B5, 29, [.slice B6 r_5.Cells.length c5], 1⟩, ⟨B6, 91, (r_5.Cells.flatMap enc_Dyadic), c5 * 5⟩, ⟨some ⟨b3, 0, none⟩, 29, [.slice B7 r_7.Cells.length c6], 1⟩, ⟨some ⟨b4, 0, none⟩, 29, [.slice B8 r_8.Cells.length c7], 1⟩, ⟨some ⟨b5, 0, none⟩, 29, [.slice B9 r_9.Cells.length c8], 1⟩, ⟨B10, 91, (r_12.Cells.flatMap enc_Dyadic), c9 * 5⟩, ⟨B11, 91, (r_14.Cells.flatMap enc_Dyadic), c10 * 5⟩, ⟨B7, 91, (m.flatMap enc_Dyadic), c6 * 5⟩, ⟨B8, 91, (m1.flatMap enc_Dyadic), c7 * 5⟩, ⟨B9, 91, (m2.flatMap enc_Dyadic), c8 * 5⟩, ⟨some ⟨b6, 0, none⟩, 29, [.slice none 0 0], 1⟩, ⟨B12, 91, (r_21.Cells.flatMap enc_Dyadic), c11 * 5⟩] [⟨B, (aA.Cells.flatMap enc_Dyadic)⟩, ⟨B1, (aB.Cells.flatMap enc_Dyadic)⟩] := hS70
                                refine ⟨(ST.sel hS70 [0, 1, 2, 3, 4, 5, 6, 7, 8, 9, 10, 11] rfl rfl), ?_⟩
                                refine ra_all (rs := [3]) (by kernel_rfl) rfl ?_
                                refine ra_c 98 (i := 3) rfl rfl rfl (Yc_func (g := 17) (vs := [.agg #[.slice B1 aB.Cells.length c1]]) k_call_17 rfl (mc rfl mn) (c_laws_toBloch aB B1 c1 aB.Cells.length _ rfl (hS70.inn0 [(true, 1)] rfl) hc19)) ?_ ?_
                                · rintro _ w_54 ⟨B13, c12, rfl, hd30⟩
                                  have hS71 := hS70.out0 hd30
                                  have hS71 : ST w0 [] _ [⟨some ⟨b, 0, none⟩, 24, [.slice B aA.Cells.length c], 1⟩, ⟨some ⟨b1, 0, none⟩, 24, [.slice B1 aB.Cells.length c1], 1⟩, ⟨B5, 29, [.slice B6 r_5.Cells.length c5], 1⟩, ⟨B6, 91, (r_5.Cells.flatMap enc_Dyadic), c5 * 5⟩, ⟨some ⟨b3, 0, none⟩, 29, [.slice B7 r_7.Cells.length c6], 1⟩, ⟨some ⟨b4, 0, none⟩, 29, [.slice B8 r_8.Cells.length c7], 1⟩, ⟨some ⟨b5, 0, none⟩, 29, [.slice B9 r_9.Cells.length c8], 1⟩, ⟨B10, 91, (r_12.Cells.flatMap enc_Dyadic), c9 * 5⟩, ⟨B11, 91, (r_14.Cells.flatMap enc_Dyadic), c10 * 5⟩, ⟨B7, 91, (m.flatMap enc_Dyadic), c6 * 5⟩, ⟨B8, 91, (m1.flatMap enc_Dyadic), c7 * 5⟩, ⟨B9, 91, (m2.flatMap enc_Dyadic), c8 * 5⟩, ⟨some ⟨b6, 0, none⟩, 29, [.slice none 0 0], 1⟩, ⟨B12, 91, (r_21.Cells.flatMap enc_Dyadic), c11 * 5⟩, ⟨B13, 91, (r_22.Cells.flatMap enc_Dyadic), c12 * 5⟩] [⟨B, (aA.Cells.flatMap enc_Dyadic)⟩, ⟨B1, (aB.Cells.flatMap enc_Dyadic)⟩] := hS71
                                  refine ⟨(ST.sel hS71 [0, 1, 2, 3, 4, 5, 6, 7, 8, 9, 10, 11] rfl rfl), ?_⟩
                                  refine ra_all (rs := [4]) (by kernel_rfl) rfl ?_
                                  refine ra_c 99 (i := 4) rfl rfl rfl (Yc_func (g := 57) (vs := [.agg #[.slice B12 r_21.Cells.length c11], .agg #[.slice B13 r_22.Cells.length c12]]) k_call_57 rfl (mc rfl (mc rfl mn)) (c_impl_MulBloch r_21 r_22 B12 c11 r_21.Cells.length B13 c12 r_22.Cells.length _ rfl rfl (hS71.inn0 [(false, 13), (false, 14)] rfl) hc20)) ?_ ?_
                                  · rintro _ w_55 ⟨B14, c13, rfl, hd31⟩
                                    have hS72 := hS71.out0 hd31
                                    have hS72 : ST w0 [] _ [⟨some ⟨b, 0, none⟩, 24, [.slice B aA.Cells.length c], 1⟩, ⟨some ⟨b1, 0, none⟩, 24, [.slice B1 aB.Cells.length c1], 1⟩, ⟨B5, 29, [.slice B6 r_5.Cells.length c5], 1⟩, ⟨B6, 91, (r_5.Cells.flatMap enc_Dyadic), c5 * 5⟩, ⟨some ⟨b3, 0, none⟩, 29, [.slice B7 r_7.Cells.length c6], 1⟩, ⟨some ⟨b4, 0, none⟩, 29, [.slice B8 r_8.Cells.length c7], 1⟩, ⟨some ⟨b5, 0, none⟩, 29, [.slice B9 r_9.Cells.length c8], 1⟩, ⟨B10, 91, (r_12.Cells.flatMap enc_Dyadic), c9 * 5⟩, ⟨B11, 91, (r_14.Cells.flatMap enc_Dyadic), c10 * 5⟩, ⟨B7, 91, (m.flatMap enc_Dyadic), c6 * 5⟩, ⟨B8, 91, (m1.flatMap enc_Dyadic), c7 * 5⟩, ⟨B9, 91, (m2.flatMap enc_Dyadic), c8 * 5⟩, ⟨some ⟨b6, 0, none⟩, 29, [.slice none 0 0], 1⟩, ⟨B12, 91, (r_21.Cells.flatMap enc_Dyadic), c11 * 5⟩, ⟨B13, 91, (r_22.Cells.flatMap enc_Dyadic), c12 * 5⟩, ⟨B14, 91, (r_23.Cells.flatMap enc_Dyadic), c13 * 5⟩] [⟨B, (aA.Cells.flatMap enc_Dyadic)⟩, ⟨B1, (aB.Cells.flatMap enc_Dyadic)⟩] := hS72
                                    refine ⟨(ST.sel hS72 [0, 1, 2, 3, 4, 5, 6, 7, 8, 9, 10, 11] rfl rfl), ?_⟩
                                    refine ra_q 5 94 (v := .tuple #[.agg #[.slice B14 r_23.Cells.length c13], .bool r_24]) rfl rfl rfl (by kernel_rfl) (by kernel_rfl) (by kernel_rfl) (ST.sel hS72 [0, 1, 2, 3, 4, 5, 6, 7, 8, 9, 10, 11] rfl rfl) (fun w' hw' => (Y_move (v := .tuple #[.agg #[.slice B14 r_23.Cells.length c13], .bool r_24]) rfl rfl)) ?_
                                    refine ra_q 6 100 (v := .agg #[.slice B14 r_23.Cells.length c13]) rfl rfl rfl (by kernel_rfl) (by kernel_rfl) (by kernel_rfl) (ST.sel hS72 [0, 1, 2, 3, 4, 5, 6, 7, 8, 9, 10, 11] rfl rfl) (fun w' hw' => (Y_extract (v := .agg #[.slice B14 r_23.Cells.length c13]) rfl rfl rfl)) ?_
                                    refine ra_q 7 101 (v := .bool r_24) rfl rfl rfl (by kernel_rfl) (by kernel_rfl) (by kernel_rfl) (ST.sel hS72 [0, 1, 2, 3, 4, 5, 6, 7, 8, 9, 10, 11] rfl rfl) (fun w' hw' => (Y_extract (v := .bool r_24) rfl rfl rfl)) ?_
                                    refine ra_all (rs := [9]) (by kernel_rfl) rfl ?_
                                    refine ra_s0 (i := 9) rfl rfl rfl (Ys_store (i := 12) (s := 1) (B := some ⟨b6, 0, none⟩) (T' := 29) (v := .agg #[.slice B14 r_23.Cells.length c13]) (vs := [.slice B14 r_23.Cells.length c13]) (k := 0) (cs' := [.slice B14 r_23.Cells.length c13]) hS72 k_sz_29_1 rfl rfl rfl rfl rfl rfl rfl (Nat.le_of_ble_eq_true rfl) rfl rfl) ?_ ?_
                                    · rintro _ w_56 ⟨rfl, hS73⟩
                                      have hS73 : ST w0 [] _ [⟨some ⟨b, 0, none⟩, 24, [.slice B aA.Cells.length c], 1⟩, ⟨some ⟨b1, 0, none⟩, 24, [.slice B1 aB.Cells.length c1], 1⟩, ⟨B5, 29, [.slice B6 r_5.Cells.length c5], 1⟩, ⟨B6, 91, (r_5.Cells.flatMap enc_Dyadic), c5 * 5⟩, ⟨some ⟨b3, 0, none⟩, 29, [.slice B7 r_7.Cells.length c6], 1⟩, ⟨some ⟨b4, 0, none⟩, 29, [.slice B8 r_8.Cells.length c7], 1⟩, ⟨some ⟨b5, 0, none⟩, 29, [.slice B9 r_9.Cells.length c8], 1⟩, ⟨B10, 91, (r_12.Cells.flatMap enc_Dyadic), c9 * 5⟩, ⟨B11, 91, (r_14.Cells.flatMap enc_Dyadic), c10 * 5⟩, ⟨B7, 91, (m.flatMap enc_Dyadic), c6 * 5⟩, ⟨B8, 91, (m1.flatMap enc_Dyadic), c7 * 5⟩, ⟨B9, 91, (m2.flatMap enc_Dyadic), c8 * 5⟩, ⟨some ⟨b6, 0, none⟩, 29, [.slice B14 r_23.Cells.length c13], 1⟩, ⟨B12, 91, (r_21.Cells.flatMap enc_Dyadic), c11 * 5⟩, ⟨B13, 91, (r_22.Cells.flatMap enc_Dyadic), c12 * 5⟩, ⟨B14, 91, (r_23.Cells.flatMap enc_Dyadic), c13 * 5⟩] [⟨B, (aA.Cells.flatMap enc_Dyadic)⟩, ⟨B1, (aB.Cells.flatMap enc_Dyadic)⟩] := hS73
                                      refine ⟨(ST.sel hS73 [0, 1, 2, 3, 4, 5, 6, 7, 8, 9, 10, 11] rfl rfl), ?_⟩
                                      refine ra_q 10 16 (v := .bool r_24) rfl rfl rfl (by kernel_rfl) (by kernel_rfl) (by kernel_rfl) (ST.sel hS73 [0, 1, 2, 3, 4, 5, 6, 7, 8, 9, 10, 11] rfl rfl) (fun w' hw' => (Y_assign (v := .bool r_24) rfl rfl)) ?_
                                      refine ra_done (by kernel_rfl) ?_
                                      exact ⟨some ⟨b6, 0, none⟩, B14, c13, (FF.cons (hf.get 6 2 rfl) (FF.cons (hf.get 7 3 rfl) (FF.cons rfl (FF.cons rfl (FF.cons rfl (FF.cons rfl FF.nil)))))), (hS73.sel [2, 3, 6, 11, 12, 15] rfl rfl)⟩
                                    exact allR_nil
                                  exact allR_nil
                                exact allR_nil
                              exact allR_nil
                            exact allR_nil
                          rintro f w ⟨B15, B16, c14, hf1, hS55⟩
                          refine cw_seq ?_
                          refine cw_seq ?_
                          refine cw_region ?_
                          refine sq 102 rfl rfl (Y_loadA (B := B15) (i := 0) (cs := [.slice B16 r_23.Cells.length c14]) (vs := [.slice B16 r_23.Cells.length c14]) k_ag_29 k_sz_29_1 rfl (hf1.get 15 4 rfl) (hS55.cf (i := 4) rfl) rfl rfl) ?_
                          refine sq 103 rfl rfl (Y_loadA (B := B5) (i := 0) (cs := [.slice B6 r_5.Cells.length c5]) (vs := [.slice B6 r_5.Cells.length c5]) k_ag_29 k_sz_29_1 rfl (hf1.get 6 0 rfl) (hS55.cf (i := 0) rfl) rfl rfl) ?_
                          obtain ⟨r_25, hc21, hF16⟩ := bind_inv hF16
                          refine sc 104 rfl rfl (Yc_func (g := 19) (vs := [.agg #[.slice B16 r_23.Cells.length c14], .agg #[.slice B6 r_5.Cells.length c5]]) k_call_19 rfl (mc rfl (mc rfl mn)) (c_laws_eqBloch r_23 r_5 B16 c14 r_23.Cells.length B6 c5 r_5.Cells.length _ rfl rfl (hS55.inn0 [(false, 5), (false, 1)] rfl) hc21)) ?_
                          rintro _ w_57 ⟨rfl, hd32⟩
                          have hS74 := hS55.out00 hd32
                          have hS74 : ST w0 [] _ [⟨B5, 29, [.slice B6 r_5.Cells.length c5], 1⟩, ⟨B6, 91, (r_5.Cells.flatMap enc_Dyadic), c5 * 5⟩, ⟨some ⟨b5, 0, none⟩, 29, [.slice B9 r_9.Cells.length c8], 1⟩, ⟨B9, 91, (m2.flatMap enc_Dyadic), c8 * 5⟩, ⟨B15, 29, [.slice B16 r_23.Cells.length c14], 1⟩, ⟨B16, 91, (r_23.Cells.flatMap enc_Dyadic), c14 * 5⟩] [⟨B, (aA.Cells.flatMap enc_Dyadic)⟩, ⟨B1, (aB.Cells.flatMap enc_Dyadic)⟩] := hS74
                          refine sq 105 rfl rfl (Y_not (p := r_25) rfl rfl) ?_
                          refine sq 106 rfl rfl (Y_move (v := .bool (!r_25)) rfl rfl) ?_
                          refine sgq 107 (B := (!(!r_25))) (v := .bool r_24) rfl rfl (wt_f (gd_of (t := 106) (by kernel_rfl) rfl)) (fun hg10 => (Y_move (v := .bool r_24) rfl (hf1.get 16 5 rfl))) ?_
                          refine sgq 108 (B := (!(!r_25))) (v := .bool r_6) rfl rfl (wt_f (gd_of (t := 106) (by kernel_rfl) rfl)) (fun hg11 => (Y_move (v := .bool r_6) rfl (hf1.get 7 1 rfl))) ?_
                          refine sgq 109 (B := (!(!r_25))) (v := .bool (!(r_24 == r_6))) rfl rfl (wt_f (gd_of (t := 106) (by kernel_rfl) rfl)) (fun hg12 => (Y_bne (p := r_24) (q := r_6) k_und_4 rfl (gv_of (B := (!(!r_25))) (v := .bool r_24) hg12) (gv_of (B := (!(!r_25))) (v := .bool r_6) hg12))) ?_
                          refine sq 110 rfl rfl (Y_or (b := (!r_25)) (z := (!(r_24 == r_6))) rfl rfl rfl rfl) ?_
                          refine rw_nil ?_
                          refine cw_cond (b := ((!r_25) || (!(r_24 == r_6)))) rfl (fun hb8 => ?_) (fun hb8 => ?_)
                          · skip
                            have hF17 := ct hF16 hb8
                            refine cw_seq ?_
                            refine cw_region ?_
                            refine sq 4 rfl rfl (Y_assign (v := .bool false) rfl rfl) ?_
                            refine rw_nil ?_
                            refine cw_ret ?_
                            obtain rfl := some_inj hF17
                            exact ret1 Try.results14 (v1 := .bool false) (resAt_tmp rfl) ⟨rfl, (ST.subR (R' := []) (hS74.sel [] rfl rfl) (fun _ h => by cases h))⟩
                          · skip
                            have hF18 := cf' hF16 hb8
                            refine cw_skip ?_
                            refine cw_seq ?_
                            refine cw_region ?_
                            refine sq 14 rfl rfl (Y_assign (v := .int .i64 1) rfl rfl) ?_
                            refine rw_nil ?_
                            refine cw_seq ?_
                            refine cw_region ?_
                            refine sq 111 rfl rfl (Y_loadA (B := some ⟨b5, 0, none⟩) (i := 0) (cs := [.slice B9 r_9.Cells.length c8]) (vs := [.slice B9 r_9.Cells.length c8]) k_ag_29 k_sz_29_1 rfl (hf1.get 10 2 rfl) (hS74.cf (i := 2) rfl) rfl rfl) ?_
                            refine sq 112 rfl rfl (Y_move (v := .int .i64 1) rfl rfl) ?_
                            obtain ⟨r_26, hc22, hF18⟩ := bind_inv hF18
                            refine sc 113 rfl rfl (Yc_func (g := 53) (vs := [.agg #[.slice B9 r_9.Cells.length c8], .int .i64 1]) k_call_53 rfl (mc rfl (mc rfl mn)) (c_laws_heldBloch (TBloch.mk m2) 1 B9 c8 r_9.Cells.length _ hl2 (hS74.inn0 [(false, 3)] rfl) hc22)) ?_
                            rintro _ w_58 ⟨rfl, hd33⟩
                            have hS75 := hS74.out00 hd33
                            have hS75 : ST w0 [] _ [⟨B5, 29, [.slice B6 r_5.Cells.length c5], 1⟩, ⟨B6, 91, (r_5.Cells.flatMap enc_Dyadic), c5 * 5⟩, ⟨some ⟨b5, 0, none⟩, 29, [.slice B9 r_9.Cells.length c8], 1⟩, ⟨B9, 91, (m2.flatMap enc_Dyadic), c8 * 5⟩, ⟨B15, 29, [.slice B16 r_23.Cells.length c14], 1⟩, ⟨B16, 91, (r_23.Cells.flatMap enc_Dyadic), c14 * 5⟩] [⟨B, (aA.Cells.flatMap enc_Dyadic)⟩, ⟨B1, (aB.Cells.flatMap enc_Dyadic)⟩] := hS75
                            refine sq 14 rfl rfl (Y_assign (v := .int .i64 r_26) rfl rfl) ?_
                            refine rw_nil ?_
                            refine cw_seq ?_
                            refine cw_seq ?_
                            refine cw_region ?_
                            refine sq 114 rfl rfl (Y_move (v := .int .i64 r_26) rfl rfl) ?_
                            refine sq 115 rfl rfl (Y_lt (k := .i64) (a := r_26) (b := 0) rfl rfl rfl) ?_
                            refine rw_nil ?_
                            refine cw_cond (b := (decide (r_26 < 0))) rfl (fun hb9 => ?_) (fun hb9 => ?_)
                            · skip
                              have hF19 := ct hF18 hb9
                              refine cw_seq ?_
                              refine cw_region ?_
                              refine sq 4 rfl rfl (Y_assign (v := .bool false) rfl rfl) ?_
                              refine rw_nil ?_
                              refine cw_ret ?_
                              obtain rfl := some_inj hF19
                              exact ret1 Try.results14 (v1 := .bool false) (resAt_tmp rfl) ⟨rfl, (ST.subR (R' := []) (hS75.sel [] rfl rfl) (fun _ h => by cases h))⟩
                            · skip
                              have hF20 := cf' hF18 hb9
                              refine cw_skip ?_
                              refine cw_seq ?_
                              refine cw_seq ?_
                              refine cw_region ?_
                              refine sq 116 rfl rfl (Y_move (v := .int .i64 r_26) rfl rfl) ?_
                              refine sq 117 rfl rfl (Y_move (v := .int .i64 r_19) rfl (hf1.get 13 3 rfl)) ?_
                              refine sq 118 rfl rfl (Y_ne (k := .i64) (a := r_26) (b := r_19) rfl rfl rfl) ?_
                              refine rw_nil ?_
                              refine cw_cond (b := (r_26 != r_19)) rfl (fun hb10 => ?_) (fun hb10 => ?_)
                              · skip
                                have hF21 := ct hF20 hb10
                                refine cw_seq ?_
                                refine cw_region ?_
                                refine sq 4 rfl rfl (Y_assign (v := .bool false) rfl rfl) ?_
                                refine rw_nil ?_
                                refine cw_ret ?_
                                obtain rfl := some_inj hF21
                                exact ret1 Try.results14 (v1 := .bool false) (resAt_tmp rfl) ⟨rfl, (ST.subR (R' := []) (hS75.sel [] rfl rfl) (fun _ h => by cases h))⟩
                              · skip
                                have hF22 := cf' hF20 hb10
                                refine cw_skip ?_
                                refine cw_seq ?_
                                refine cw_region ?_
                                refine sq 4 rfl rfl (Y_assign (v := .bool true) rfl rfl) ?_
                                refine rw_nil ?_
                                refine cw_ret ?_
                                obtain rfl := some_inj hF22
                                exact ret1 Try.results14 (v1 := .bool true) (resAt_tmp rfl) ⟨rfl, (ST.subR (R' := []) (hS75.sel [] rfl rfl) (fun _ h => by cases h))⟩
                exact allR_nil
              exact allR_nil
          exact allR_nil
        exact allR_nil
end Go.VK
