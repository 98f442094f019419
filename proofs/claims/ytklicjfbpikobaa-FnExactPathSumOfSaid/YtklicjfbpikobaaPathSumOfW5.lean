/- Walks: each Go function returns what its Lean function says. By program. -/
import Derived.Test.YtklicjfbpikobaaPathSumOfFa
import Derived.Test.YtklicjfbpikobaaPathSumOfShelf
import Derived.Test.YtklicjfbpikobaaLibT
import Derived.WalkKit
import Derived.Test.YtklicjfbpikobaaPathSumOfW4
set_option linter.unusedVariables false
set_option maxRecDepth 100000
set_option maxHeartbeats 4000000
namespace Go.VK
open Go.RowKit
open Go.Proofs
attribute [local irreducible] CW RW RA CV Y Yw Yc Ys RetOf
attribute [local irreducible] F_laws_eqGate F_laws_eqGateS F_laws_eqCircuit F_laws_markGateS F_laws_markCircuit F_laws_szGateS F_laws_szCircuit F_laws_toGate F_laws_toGateS F_laws_toCircuit F_laws_eqTerm F_laws_eqTermS F_laws_eqAffine F_laws_eqAffineS F_laws_eqPathSum F_laws_markTermS F_laws_markAffineS F_laws_markPathSum F_laws_heldTermS F_laws_heldAffineS F_laws_heldPathSum F_spec_l1In F_spec_l4Gate F_spec_l4Good F_spec_l21Sum_add F_spec_l1Set F_spec_l21Sum_times F_spec_l21Sum_product F_spec_l21Xor F_spec_l13Coef F_spec_l21Of F_spec_PathSumOf F_impl_within F_slices_IndexFunc_impl_Gate_impl_Gate F_slices_ContainsFunc_impl_Gate_impl_Gate F_impl_isTwo F_impl_IsValidGate F_impl_IsValidCircuit_1 F_impl_IsValidCircuit F_impl_polynomial_add F_impl_bitsOf F_impl_polynomial_expand F_impl_polynomial_product F_impl_rotationCoef F_impl_summer_process F_impl_polynomial_terms F_impl_PathSumOf F_laws_FnExactPathSumOf
theorem c_laws_FnExactPathSumOf (aC : TCircuit) (B : Option Addr) (c n : Nat) (w0 : World) (hn : aC.Gates.length = n) (hS : ST w0 [] w0 [] [⟨B, (aC.Gates.flatMap enc_Gate)⟩]) {r_ : Bool} (hF : F_laws_FnExactPathSumOf aC = some r_) :
    CV Try.prog 6 #[.agg #[.int .i64 aC.Qubits, .slice B n c]] w0 (fun v w' => v = .bool r_ ∧ ST w0 [] w' [] []) := by
  subst hn
  unfold F_laws_FnExactPathSumOf at hF
  refine cv_of_cw 96 Try.func6 rfl Try.ntmps6 rfl ?_
  refine cw_seq ?_
  refine cw_region ?_
  refine ss 1 rfl rfl (Ys_box (T := 42) (v := .agg #[.int .i64 aC.Qubits, .slice B aC.Gates.length c]) (cs := [.int .i64 aC.Qubits, .slice B aC.Gates.length c]) (m := 2) hS rfl rfl rfl rfl) ?_
  rintro _ w_ ⟨b, rfl, hS1⟩
  refine sq 2 rfl rfl (Y_assign (v := .bool false) rfl rfl) ?_
  refine rw_nil ?_
  refine cw_seq ?_
  refine cw_region ?_
  refine sq 3 rfl rfl (Y_assign (v := .int .i64 1048576) rfl rfl) ?_
  refine rw_nil ?_
  refine cw_seq ?_
  refine cw_region ?_
  refine sq 14 rfl rfl (Y_loadA (B := some ⟨b, 0, none⟩) (i := 0) (cs := [.int .i64 aC.Qubits, .slice B aC.Gates.length c]) (vs := [.int .i64 aC.Qubits, .slice B aC.Gates.length c]) k_ag_42 k_sz_42_2 rfl rfl (hS1.cf (i := 0) rfl) rfl rfl) ?_
  refine sq 15 rfl rfl (Y_move (v := .int .i64 1048576) rfl rfl) ?_
  obtain ⟨r_1, hc, hF⟩ := bind_inv hF
  refine sc 16 rfl rfl (Yc_func (g := 16) (vs := [.agg #[.int .i64 aC.Qubits, .slice B aC.Gates.length c], .int .i64 1048576]) k_call_16 rfl (mc rfl (mc rfl mn)) (c_laws_szCircuit aC 1048576 B c aC.Gates.length _ rfl (hS1.inn0 [(true, 0)] rfl) hc)) ?_
  rintro _ w_1 ⟨rfl, hd⟩
  have hS2 := hS1.out00 hd
  refine sq 3 rfl rfl (Y_assign (v := .int .i64 r_1) rfl rfl) ?_
  refine rw_nil ?_
  refine cw_seq ?_
  refine cw_seq ?_
  refine cw_region ?_
  refine sq 17 rfl rfl (Y_move (v := .int .i64 r_1) rfl rfl) ?_
  refine sq 18 rfl rfl (Y_lt (k := .i64) (a := r_1) (b := 0) rfl rfl rfl) ?_
  refine rw_nil ?_
  refine cw_cond (b := (decide (r_1 < 0))) rfl (fun hb => ?_) (fun hb => ?_)
  · skip
    have hF1 := ct hF hb
    refine cw_seq ?_
    refine cw_region ?_
    refine sq 2 rfl rfl (Y_assign (v := .bool true) rfl rfl) ?_
    refine rw_nil ?_
    refine cw_ret ?_
    obtain rfl := some_inj hF1
    exact ret1 Try.results6 (v1 := .bool true) (resAt_tmp rfl) ⟨rfl, (ST.subR (R' := []) (hS2.sel [] rfl rfl) (fun _ h => by cases h))⟩
  · skip
    have hF2 := cf' hF hb
    refine cw_skip ?_
    refine cw_seq ?_
    refine cw_region ?_
    refine sq 20 rfl rfl (Y_loadA (B := some ⟨b, 0, none⟩) (i := 0) (cs := [.int .i64 aC.Qubits, .slice B aC.Gates.length c]) (vs := [.int .i64 aC.Qubits, .slice B aC.Gates.length c]) k_ag_42 k_sz_42_2 rfl rfl (hS2.cf (i := 0) rfl) rfl rfl) ?_
    obtain ⟨r_2, hc1, hF2⟩ := bind_inv hF2
    refine sc 21 rfl rfl (Yc_func (g := 18) (vs := [.agg #[.int .i64 aC.Qubits, .slice B aC.Gates.length c]]) k_call_18 rfl (mc rfl mn) (c_laws_toCircuit aC B c aC.Gates.length _ rfl (hS2.inn0 [(true, 0)] rfl) hc1)) ?_
    rintro _ w_2 ⟨B1, c1, rfl, hd1⟩
    have hS3 := hS2.out0 hd1
    have hS3 : ST w0 [] _ [⟨some ⟨b, 0, none⟩, 42, [.int .i64 aC.Qubits, .slice B aC.Gates.length c], 2⟩, ⟨B1, 76, (r_2.Gates.flatMap enc_Gate), c1 * 3⟩] [⟨B, (aC.Gates.flatMap enc_Gate)⟩] := hS3
    obtain ⟨⟨r_3, r_4⟩, hc2, hF2⟩ := bind_inv hF2
    refine sc 22 rfl rfl (Yc_func (g := 28) (vs := [.agg #[.int .i64 r_2.Qubits, .slice B1 r_2.Gates.length c1]]) k_call_28 rfl (mc rfl mn) (c_spec_PathSumOf r_2 B1 c1 r_2.Gates.length _ rfl (hS3.inn0 [(false, 1)] rfl) hc2)) ?_
    rintro _ w_3 ⟨B2, c2, B3, c3, rfl, hd2⟩
    have hS4 := hS3.out0 hd2
    have hS4 : ST w0 [] _ [⟨some ⟨b, 0, none⟩, 42, [.int .i64 aC.Qubits, .slice B aC.Gates.length c], 2⟩, ⟨B1, 76, (r_2.Gates.flatMap enc_Gate), c1 * 3⟩, ⟨B2, 136, (r_3.Terms.flatMap enc_Term), c2 * 2⟩, ⟨B3, 61, (r_3.Out.flatMap enc_Affine), c3 * 2⟩] [⟨B, (aC.Gates.flatMap enc_Gate)⟩] := hS4
    refine sq 19 rfl rfl (Y_move (v := .tuple #[.agg #[.int .i64 r_3.Ins, .int .i64 r_3.Vars, .int .i64 r_3.Root, .int .i64 r_3.Phase, .slice B2 r_3.Terms.length c2, .slice B3 r_3.Out.length c3], .bool r_4]) rfl rfl) ?_
    refine sq 23 rfl rfl (Y_extract (v := .agg #[.int .i64 r_3.Ins, .int .i64 r_3.Vars, .int .i64 r_3.Root, .int .i64 r_3.Phase, .slice B2 r_3.Terms.length c2, .slice B3 r_3.Out.length c3]) rfl rfl rfl) ?_
    refine sq 24 rfl rfl (Y_extract (v := .bool r_4) rfl rfl rfl) ?_
    refine ss 4 rfl rfl (Ys_alloc (T := 57) (cs := [.int .i64 0, .int .i64 0, .int .i64 0, .int .i64 0, .slice none 0 0, .slice none 0 0]) (m := 6) hS4 k_zero_57 rfl rfl rfl) ?_
    rintro _ w_4 ⟨b1, rfl, hS5⟩
    have hS5 : ST w0 [] _ [⟨some ⟨b, 0, none⟩, 42, [.int .i64 aC.Qubits, .slice B aC.Gates.length c], 2⟩, ⟨B1, 76, (r_2.Gates.flatMap enc_Gate), c1 * 3⟩, ⟨B2, 136, (r_3.Terms.flatMap enc_Term), c2 * 2⟩, ⟨B3, 61, (r_3.Out.flatMap enc_Affine), c3 * 2⟩, ⟨some ⟨b1, 0, none⟩, 57, [.int .i64 0, .int .i64 0, .int .i64 0, .int .i64 0, .slice none 0 0, .slice none 0 0], 6⟩] [⟨B, (aC.Gates.flatMap enc_Gate)⟩] := hS5
    refine ss0 rfl rfl (Ys_store (i := 4) (s := 6) (B := some ⟨b1, 0, none⟩) (T' := 57) (v := .agg #[.int .i64 r_3.Ins, .int .i64 r_3.Vars, .int .i64 r_3.Root, .int .i64 r_3.Phase, .slice B2 r_3.Terms.length c2, .slice B3 r_3.Out.length c3]) (vs := [.int .i64 r_3.Ins, .int .i64 r_3.Vars, .int .i64 r_3.Root, .int .i64 r_3.Phase, .slice B2 r_3.Terms.length c2, .slice B3 r_3.Out.length c3]) (k := 0) (cs' := [.int .i64 r_3.Ins, .int .i64 r_3.Vars, .int .i64 r_3.Root, .int .i64 r_3.Phase, .slice B2 r_3.Terms.length c2, .slice B3 r_3.Out.length c3]) hS5 k_sz_57_6 rfl rfl rfl rfl rfl rfl rfl (Nat.le_of_ble_eq_true rfl) rfl rfl) ?_
    rintro _ w_5 ⟨rfl, hS6⟩
    have hS6 : ST w0 [] _ [⟨some ⟨b, 0, none⟩, 42, [.int .i64 aC.Qubits, .slice B aC.Gates.length c], 2⟩, ⟨B1, 76, (r_2.Gates.flatMap enc_Gate), c1 * 3⟩, ⟨B2, 136, (r_3.Terms.flatMap enc_Term), c2 * 2⟩, ⟨B3, 61, (r_3.Out.flatMap enc_Affine), c3 * 2⟩, ⟨some ⟨b1, 0, none⟩, 57, [.int .i64 r_3.Ins, .int .i64 r_3.Vars, .int .i64 r_3.Root, .int .i64 r_3.Phase, .slice B2 r_3.Terms.length c2, .slice B3 r_3.Out.length c3], 6⟩] [⟨B, (aC.Gates.flatMap enc_Gate)⟩] := hS6
    refine sq 5 rfl rfl (Y_assign (v := .bool r_4) rfl rfl) ?_
    refine rw_nil ?_
    refine cw_seq ?_
    refine cw_region ?_
    refine sq 25 rfl rfl (Y_loadA (B := some ⟨b, 0, none⟩) (i := 0) (cs := [.int .i64 aC.Qubits, .slice B aC.Gates.length c]) (vs := [.int .i64 aC.Qubits, .slice B aC.Gates.length c]) k_ag_42 k_sz_42_2 rfl rfl (hS6.cf (i := 0) rfl) rfl rfl) ?_
    obtain ⟨r_5, hc3, hF2⟩ := bind_inv hF2
    refine sc 26 rfl rfl (Yc_func (g := 18) (vs := [.agg #[.int .i64 aC.Qubits, .slice B aC.Gates.length c]]) k_call_18 rfl (mc rfl mn) (c_laws_toCircuit aC B c aC.Gates.length _ rfl (hS6.inn0 [(true, 0)] rfl) hc3)) ?_
    rintro _ w_6 ⟨B4, c4, rfl, hd3⟩
    have hS7 := hS6.out0 hd3
    have hS7 : ST w0 [] _ [⟨some ⟨b, 0, none⟩, 42, [.int .i64 aC.Qubits, .slice B aC.Gates.length c], 2⟩, ⟨B1, 76, (r_2.Gates.flatMap enc_Gate), c1 * 3⟩, ⟨B2, 136, (r_3.Terms.flatMap enc_Term), c2 * 2⟩, ⟨B3, 61, (r_3.Out.flatMap enc_Affine), c3 * 2⟩, ⟨some ⟨b1, 0, none⟩, 57, [.int .i64 r_3.Ins, .int .i64 r_3.Vars, .int .i64 r_3.Root, .int .i64 r_3.Phase, .slice B2 r_3.Terms.length c2, .slice B3 r_3.Out.length c3], 6⟩, ⟨B4, 76, (r_5.Gates.flatMap enc_Gate), c4 * 3⟩] [⟨B, (aC.Gates.flatMap enc_Gate)⟩] := hS7
    refine ss 6 rfl rfl (Ys_alloc (T := 28) (cs := [.int .i64 0, .slice none 0 0]) (m := 2) hS7 k_zero_28 rfl rfl rfl) ?_
    rintro _ w_7 ⟨b2, rfl, hS8⟩
    have hS8 : ST w0 [] _ [⟨some ⟨b, 0, none⟩, 42, [.int .i64 aC.Qubits, .slice B aC.Gates.length c], 2⟩, ⟨B1, 76, (r_2.Gates.flatMap enc_Gate), c1 * 3⟩, ⟨B2, 136, (r_3.Terms.flatMap enc_Term), c2 * 2⟩, ⟨B3, 61, (r_3.Out.flatMap enc_Affine), c3 * 2⟩, ⟨some ⟨b1, 0, none⟩, 57, [.int .i64 r_3.Ins, .int .i64 r_3.Vars, .int .i64 r_3.Root, .int .i64 r_3.Phase, .slice B2 r_3.Terms.length c2, .slice B3 r_3.Out.length c3], 6⟩, ⟨B4, 76, (r_5.Gates.flatMap enc_Gate), c4 * 3⟩, ⟨some ⟨b2, 0, none⟩, 28, [.int .i64 0, .slice none 0 0], 2⟩] [⟨B, (aC.Gates.flatMap enc_Gate)⟩] := hS8
    refine ss0 rfl rfl (Ys_store (i := 6) (s := 2) (B := some ⟨b2, 0, none⟩) (T' := 28) (v := .agg #[.int .i64 r_5.Qubits, .slice B4 r_5.Gates.length c4]) (vs := [.int .i64 r_5.Qubits, .slice B4 r_5.Gates.length c4]) (k := 0) (cs' := [.int .i64 r_5.Qubits, .slice B4 r_5.Gates.length c4]) hS8 k_sz_28_2 rfl rfl rfl rfl rfl rfl rfl (Nat.le_of_ble_eq_true rfl) rfl rfl) ?_
    rintro _ w_8 ⟨rfl, hS9⟩
    have hS9 : ST w0 [] _ [⟨some ⟨b, 0, none⟩, 42, [.int .i64 aC.Qubits, .slice B aC.Gates.length c], 2⟩, ⟨B1, 76, (r_2.Gates.flatMap enc_Gate), c1 * 3⟩, ⟨B2, 136, (r_3.Terms.flatMap enc_Term), c2 * 2⟩, ⟨B3, 61, (r_3.Out.flatMap enc_Affine), c3 * 2⟩, ⟨some ⟨b1, 0, none⟩, 57, [.int .i64 r_3.Ins, .int .i64 r_3.Vars, .int .i64 r_3.Root, .int .i64 r_3.Phase, .slice B2 r_3.Terms.length c2, .slice B3 r_3.Out.length c3], 6⟩, ⟨B4, 76, (r_5.Gates.flatMap enc_Gate), c4 * 3⟩, ⟨some ⟨b2, 0, none⟩, 28, [.int .i64 r_5.Qubits, .slice B4 r_5.Gates.length c4], 2⟩] [⟨B, (aC.Gates.flatMap enc_Gate)⟩] := hS9
    refine rw_nil ?_
    refine cw_seq ?_
    refine cw_region ?_
    refine sq 28 rfl rfl (Y_loadA (B := some ⟨b2, 0, none⟩) (i := 0) (cs := [.int .i64 r_5.Qubits, .slice B4 r_5.Gates.length c4]) (vs := [.int .i64 r_5.Qubits, .slice B4 r_5.Gates.length c4]) k_ag_28 k_sz_28_2 rfl rfl (hS9.cf (i := 6) rfl) rfl rfl) ?_
    obtain ⟨⟨r_6, r_7⟩, hc4, hF2⟩ := bind_inv hF2
    refine sc 29 rfl rfl (Yc_func (g := 29) (vs := [.agg #[.int .i64 r_5.Qubits, .slice B4 r_5.Gates.length c4]]) k_call_29 rfl (mc rfl mn) (c_impl_PathSumOf r_5 B4 c4 r_5.Gates.length _ rfl (hS9.inn0 [(false, 5)] rfl) hc4)) ?_
    rintro _ w_9 ⟨B5, c5, B6, c6, rfl, hd4⟩
    have hS10 := hS9.out0 hd4
    have hS10 : ST w0 [] _ [⟨some ⟨b, 0, none⟩, 42, [.int .i64 aC.Qubits, .slice B aC.Gates.length c], 2⟩, ⟨B1, 76, (r_2.Gates.flatMap enc_Gate), c1 * 3⟩, ⟨B2, 136, (r_3.Terms.flatMap enc_Term), c2 * 2⟩, ⟨B3, 61, (r_3.Out.flatMap enc_Affine), c3 * 2⟩, ⟨some ⟨b1, 0, none⟩, 57, [.int .i64 r_3.Ins, .int .i64 r_3.Vars, .int .i64 r_3.Root, .int .i64 r_3.Phase, .slice B2 r_3.Terms.length c2, .slice B3 r_3.Out.length c3], 6⟩, ⟨B4, 76, (r_5.Gates.flatMap enc_Gate), c4 * 3⟩, ⟨some ⟨b2, 0, none⟩, 28, [.int .i64 r_5.Qubits, .slice B4 r_5.Gates.length c4], 2⟩, ⟨B5, 136, (r_6.Terms.flatMap enc_Term), c5 * 2⟩, ⟨B6, 61, (r_6.Out.flatMap enc_Affine), c6 * 2⟩] [⟨B, (aC.Gates.flatMap enc_Gate)⟩] := hS10
    refine sq 27 rfl rfl (Y_move (v := .tuple #[.agg #[.int .i64 r_6.Ins, .int .i64 r_6.Vars, .int .i64 r_6.Root, .int .i64 r_6.Phase, .slice B5 r_6.Terms.length c5, .slice B6 r_6.Out.length c6], .bool r_7]) rfl rfl) ?_
    refine sq 30 rfl rfl (Y_extract (v := .agg #[.int .i64 r_6.Ins, .int .i64 r_6.Vars, .int .i64 r_6.Root, .int .i64 r_6.Phase, .slice B5 r_6.Terms.length c5, .slice B6 r_6.Out.length c6]) rfl rfl rfl) ?_
    refine sq 31 rfl rfl (Y_extract (v := .bool r_7) rfl rfl rfl) ?_
    refine ss 7 rfl rfl (Ys_alloc (T := 57) (cs := [.int .i64 0, .int .i64 0, .int .i64 0, .int .i64 0, .slice none 0 0, .slice none 0 0]) (m := 6) hS10 k_zero_57 rfl rfl rfl) ?_
    rintro _ w_10 ⟨b3, rfl, hS11⟩
    have hS11 : ST w0 [] _ [⟨some ⟨b, 0, none⟩, 42, [.int .i64 aC.Qubits, .slice B aC.Gates.length c], 2⟩, ⟨B1, 76, (r_2.Gates.flatMap enc_Gate), c1 * 3⟩, ⟨B2, 136, (r_3.Terms.flatMap enc_Term), c2 * 2⟩, ⟨B3, 61, (r_3.Out.flatMap enc_Affine), c3 * 2⟩, ⟨some ⟨b1, 0, none⟩, 57, [.int .i64 r_3.Ins, .int .i64 r_3.Vars, .int .i64 r_3.Root, .int .i64 r_3.Phase, .slice B2 r_3.Terms.length c2, .slice B3 r_3.Out.length c3], 6⟩, ⟨B4, 76, (r_5.Gates.flatMap enc_Gate), c4 * 3⟩, ⟨some ⟨b2, 0, none⟩, 28, [.int .i64 r_5.Qubits, .slice B4 r_5.Gates.length c4], 2⟩, ⟨B5, 136, (r_6.Terms.flatMap enc_Term), c5 * 2⟩, ⟨B6, 61, (r_6.Out.flatMap enc_Affine), c6 * 2⟩, ⟨some ⟨b3, 0, none⟩, 57, [.int .i64 0, .int .i64 0, .int .i64 0, .int .i64 0, .slice none 0 0, .slice none 0 0], 6⟩] [⟨B, (aC.Gates.flatMap enc_Gate)⟩] := hS11
    refine ss0 rfl rfl (Ys_store (i := 9) (s := 6) (B := some ⟨b3, 0, none⟩) (T' := 57) (v := .agg #[.int .i64 r_6.Ins, .int .i64 r_6.Vars, .int .i64 r_6.Root, .int .i64 r_6.Phase, .slice B5 r_6.Terms.length c5, .slice B6 r_6.Out.length c6]) (vs := [.int .i64 r_6.Ins, .int .i64 r_6.Vars, .int .i64 r_6.Root, .int .i64 r_6.Phase, .slice B5 r_6.Terms.length c5, .slice B6 r_6.Out.length c6]) (k := 0) (cs' := [.int .i64 r_6.Ins, .int .i64 r_6.Vars, .int .i64 r_6.Root, .int .i64 r_6.Phase, .slice B5 r_6.Terms.length c5, .slice B6 r_6.Out.length c6]) hS11 k_sz_57_6 rfl rfl rfl rfl rfl rfl rfl (Nat.le_of_ble_eq_true rfl) rfl rfl) ?_
    rintro _ w_11 ⟨rfl, hS12⟩
    have hS12 : ST w0 [] _ [⟨some ⟨b, 0, none⟩, 42, [.int .i64 aC.Qubits, .slice B aC.Gates.length c], 2⟩, ⟨B1, 76, (r_2.Gates.flatMap enc_Gate), c1 * 3⟩, ⟨B2, 136, (r_3.Terms.flatMap enc_Term), c2 * 2⟩, ⟨B3, 61, (r_3.Out.flatMap enc_Affine), c3 * 2⟩, ⟨some ⟨b1, 0, none⟩, 57, [.int .i64 r_3.Ins, .int .i64 r_3.Vars, .int .i64 r_3.Root, .int .i64 r_3.Phase, .slice B2 r_3.Terms.length c2, .slice B3 r_3.Out.length c3], 6⟩, ⟨B4, 76, (r_5.Gates.flatMap enc_Gate), c4 * 3⟩, ⟨some ⟨b2, 0, none⟩, 28, [.int .i64 r_5.Qubits, .slice B4 r_5.Gates.length c4], 2⟩, ⟨B5, 136, (r_6.Terms.flatMap enc_Term), c5 * 2⟩, ⟨B6, 61, (r_6.Out.flatMap enc_Affine), c6 * 2⟩, ⟨some ⟨b3, 0, none⟩, 57, [.int .i64 r_6.Ins, .int .i64 r_6.Vars, .int .i64 r_6.Root, .int .i64 r_6.Phase, .slice B5 r_6.Terms.length c5, .slice B6 r_6.Out.length c6], 6⟩] [⟨B, (aC.Gates.flatMap enc_Gate)⟩] := hS12
    refine sq 8 rfl rfl (Y_assign (v := .bool r_7) rfl rfl) ?_
    refine rw_nil ?_
    refine cw_seq ?_
    refine cw_seq ?_
    refine cw_region ?_
    refine sq 32 rfl rfl (Y_loadA (B := some ⟨b3, 0, none⟩) (i := 0) (cs := [.int .i64 r_6.Ins, .int .i64 r_6.Vars, .int .i64 r_6.Root, .int .i64 r_6.Phase, .slice B5 r_6.Terms.length c5, .slice B6 r_6.Out.length c6]) (vs := [.int .i64 r_6.Ins, .int .i64 r_6.Vars, .int .i64 r_6.Root, .int .i64 r_6.Phase, .slice B5 r_6.Terms.length c5, .slice B6 r_6.Out.length c6]) k_ag_57 k_sz_57_6 rfl rfl (hS12.cf (i := 9) rfl) rfl rfl) ?_
    refine sq 33 rfl rfl (Y_loadA (B := some ⟨b1, 0, none⟩) (i := 0) (cs := [.int .i64 r_3.Ins, .int .i64 r_3.Vars, .int .i64 r_3.Root, .int .i64 r_3.Phase, .slice B2 r_3.Terms.length c2, .slice B3 r_3.Out.length c3]) (vs := [.int .i64 r_3.Ins, .int .i64 r_3.Vars, .int .i64 r_3.Root, .int .i64 r_3.Phase, .slice B2 r_3.Terms.length c2, .slice B3 r_3.Out.length c3]) k_ag_57 k_sz_57_6 rfl rfl (hS12.cf (i := 4) rfl) rfl rfl) ?_
    obtain ⟨r_8, hc5, hF2⟩ := bind_inv hF2
    refine sc 34 rfl rfl (Yc_func (g := 25) (vs := [.agg #[.int .i64 r_6.Ins, .int .i64 r_6.Vars, .int .i64 r_6.Root, .int .i64 r_6.Phase, .slice B5 r_6.Terms.length c5, .slice B6 r_6.Out.length c6], .agg #[.int .i64 r_3.Ins, .int .i64 r_3.Vars, .int .i64 r_3.Root, .int .i64 r_3.Phase, .slice B2 r_3.Terms.length c2, .slice B3 r_3.Out.length c3]]) k_call_25 rfl (mc rfl (mc rfl mn)) (c_laws_eqPathSum r_6 r_3 B5 c5 r_6.Terms.length B6 c6 r_6.Out.length B2 c2 r_3.Terms.length B3 c3 r_3.Out.length _ rfl rfl rfl rfl (hS12.inn0 [(false, 7), (false, 8), (false, 2), (false, 3)] rfl) hc5)) ?_
    rintro _ w_12 ⟨rfl, hd5⟩
    have hS13 := hS12.out00 hd5
    have hS13 : ST w0 [] _ [⟨some ⟨b, 0, none⟩, 42, [.int .i64 aC.Qubits, .slice B aC.Gates.length c], 2⟩, ⟨B1, 76, (r_2.Gates.flatMap enc_Gate), c1 * 3⟩, ⟨B2, 136, (r_3.Terms.flatMap enc_Term), c2 * 2⟩, ⟨B3, 61, (r_3.Out.flatMap enc_Affine), c3 * 2⟩, ⟨some ⟨b1, 0, none⟩, 57, [.int .i64 r_3.Ins, .int .i64 r_3.Vars, .int .i64 r_3.Root, .int .i64 r_3.Phase, .slice B2 r_3.Terms.length c2, .slice B3 r_3.Out.length c3], 6⟩, ⟨B4, 76, (r_5.Gates.flatMap enc_Gate), c4 * 3⟩, ⟨some ⟨b2, 0, none⟩, 28, [.int .i64 r_5.Qubits, .slice B4 r_5.Gates.length c4], 2⟩, ⟨B5, 136, (r_6.Terms.flatMap enc_Term), c5 * 2⟩, ⟨B6, 61, (r_6.Out.flatMap enc_Affine), c6 * 2⟩, ⟨some ⟨b3, 0, none⟩, 57, [.int .i64 r_6.Ins, .int .i64 r_6.Vars, .int .i64 r_6.Root, .int .i64 r_6.Phase, .slice B5 r_6.Terms.length c5, .slice B6 r_6.Out.length c6], 6⟩] [⟨B, (aC.Gates.flatMap enc_Gate)⟩] := hS13
    refine sq 35 rfl rfl (Y_not (p := r_8) rfl rfl) ?_
    refine sq 36 rfl rfl (Y_move (v := .bool (!r_8)) rfl rfl) ?_
    refine sgq 37 (B := (!(!r_8))) (v := .bool r_7) rfl rfl (wt_f (gd_of (t := 36) (by kernel_rfl) rfl)) (fun hg => (Y_move (v := .bool r_7) rfl rfl)) ?_
    refine sgq 38 (B := (!(!r_8))) (v := .bool r_4) rfl rfl (wt_f (gd_of (t := 36) (by kernel_rfl) rfl)) (fun hg1 => (Y_move (v := .bool r_4) rfl rfl)) ?_
    refine sgq 39 (B := (!(!r_8))) (v := .bool (!(r_7 == r_4))) rfl rfl (wt_f (gd_of (t := 36) (by kernel_rfl) rfl)) (fun hg2 => (Y_bne (p := r_7) (q := r_4) k_und_4 rfl (gv_of (B := (!(!r_8))) (v := .bool r_7) hg2) (gv_of (B := (!(!r_8))) (v := .bool r_4) hg2))) ?_
    refine sq 40 rfl rfl (Y_or (b := (!r_8)) (z := (!(r_7 == r_4))) rfl rfl rfl rfl) ?_
    refine rw_nil ?_
    refine cw_cond (b := ((!r_8) || (!(r_7 == r_4)))) rfl (fun hb1 => ?_) (fun hb1 => ?_)
    · skip
      have hF3 := ct hF2 hb1
      refine cw_seq ?_
      refine cw_region ?_
      refine sq 2 rfl rfl (Y_assign (v := .bool false) rfl rfl) ?_
      refine rw_nil ?_
      refine cw_ret ?_
      obtain rfl := some_inj hF3
      exact ret1 Try.results6 (v1 := .bool false) (resAt_tmp rfl) ⟨rfl, (ST.subR (R' := []) (hS13.sel [] rfl rfl) (fun _ h => by cases h))⟩
    · skip
      have hF4 := cf' hF2 hb1
      refine cw_skip ?_
      refine cw_seq ?_
      refine cw_seq ?_
      obtain ⟨r_9, hc6, hF4⟩ := bind_inv hF4
      obtain ⟨r_10, hc7, hF4⟩ := bind_inv hF4
      refine ra_start (ST.sel hS13 [0, 1, 2, 3, 4, 5, 6, 7, 8, 9] rfl rfl).fn (by kernel_rfl) ?_
      have hS16 := hS13.drew
      refine ra_q 0 41 (v := .agg #[.int .i64 r_5.Qubits, .slice B4 r_5.Gates.length c4]) rfl rfl rfl (by kernel_rfl) (by kernel_rfl) (by kernel_rfl) (ST.sel hS16 [0, 1, 2, 3, 4, 5, 6, 7, 8, 9] rfl rfl) (fun w' hw' => (Y_loadA (B := some ⟨b2, 0, none⟩) (i := 0) (cs := [.int .i64 r_5.Qubits, .slice B4 r_5.Gates.length c4]) (vs := [.int .i64 r_5.Qubits, .slice B4 r_5.Gates.length c4]) k_ag_28 k_sz_28_2 rfl rfl (ST.cf hw' (i := 6) rfl) rfl rfl)) ?_
      refine ra_q 1 42 (v := .agg #[.int .i64 aC.Qubits, .slice B aC.Gates.length c]) rfl rfl rfl (by kernel_rfl) (by kernel_rfl) (by kernel_rfl) (ST.sel hS16 [0, 1, 2, 3, 4, 5, 6, 7, 8, 9] rfl rfl) (fun w' hw' => (Y_loadA (B := some ⟨b, 0, none⟩) (i := 0) (cs := [.int .i64 aC.Qubits, .slice B aC.Gates.length c]) (vs := [.int .i64 aC.Qubits, .slice B aC.Gates.length c]) k_ag_42 k_sz_42_2 rfl rfl (ST.cf hw' (i := 0) rfl) rfl rfl)) ?_
      refine ra_all (rs := [2]) (by kernel_rfl) rfl ?_
      refine ra_c 43 (i := 2) rfl rfl rfl (Yc_func (g := 18) (vs := [.agg #[.int .i64 aC.Qubits, .slice B aC.Gates.length c]]) k_call_18 rfl (mc rfl mn) (c_laws_toCircuit aC B c aC.Gates.length _ rfl (hS16.inn0 [(true, 0)] rfl) hc6)) ?_ ?_
      · rintro _ w_13 ⟨B7, c7, rfl, hd6⟩
        have hS17 := hS16.out0 hd6
        have hS17 : ST w0 [] _ [⟨some ⟨b, 0, none⟩, 42, [.int .i64 aC.Qubits, .slice B aC.Gates.length c], 2⟩, ⟨B1, 76, (r_2.Gates.flatMap enc_Gate), c1 * 3⟩, ⟨B2, 136, (r_3.Terms.flatMap enc_Term), c2 * 2⟩, ⟨B3, 61, (r_3.Out.flatMap enc_Affine), c3 * 2⟩, ⟨some ⟨b1, 0, none⟩, 57, [.int .i64 r_3.Ins, .int .i64 r_3.Vars, .int .i64 r_3.Root, .int .i64 r_3.Phase, .slice B2 r_3.Terms.length c2, .slice B3 r_3.Out.length c3], 6⟩, ⟨B4, 76, (r_5.Gates.flatMap enc_Gate), c4 * 3⟩, ⟨some ⟨b2, 0, none⟩, 28, [.int .i64 r_5.Qubits, .slice B4 r_5.Gates.length c4], 2⟩, ⟨B5, 136, (r_6.Terms.flatMap enc_Term), c5 * 2⟩, ⟨B6, 61, (r_6.Out.flatMap enc_Affine), c6 * 2⟩, ⟨some ⟨b3, 0, none⟩, 57, [.int .i64 r_6.Ins, .int .i64 r_6.Vars, .int .i64 r_6.Root, .int .i64 r_6.Phase, .slice B5 r_6.Terms.length c5, .slice B6 r_6.Out.length c6], 6⟩, ⟨B7, 76, (r_9.Gates.flatMap enc_Gate), c7 * 3⟩] [⟨B, (aC.Gates.flatMap enc_Gate)⟩] := hS17
        refine ⟨(ST.sel hS17 [0, 1, 2, 3, 4, 5, 6, 7, 8, 9] rfl rfl), ?_⟩
        refine ra_all (rs := [3]) (by kernel_rfl) rfl ?_
        refine ra_c 44 (i := 3) rfl rfl rfl (Yc_func (g := 11) (vs := [.agg #[.int .i64 r_5.Qubits, .slice B4 r_5.Gates.length c4], .agg #[.int .i64 r_9.Qubits, .slice B7 r_9.Gates.length c7]]) k_call_11 rfl (mc rfl (mc rfl mn)) (c_laws_eqCircuit r_5 r_9 B4 c4 r_5.Gates.length B7 c7 r_9.Gates.length _ rfl rfl (hS17.inn0 [(false, 5), (false, 10)] rfl) hc7)) ?_ ?_
        · rintro _ w_14 ⟨rfl, hd7⟩
          have hS18 := hS17.out00 hd7
          have hS18 : ST w0 [] _ [⟨some ⟨b, 0, none⟩, 42, [.int .i64 aC.Qubits, .slice B aC.Gates.length c], 2⟩, ⟨B1, 76, (r_2.Gates.flatMap enc_Gate), c1 * 3⟩, ⟨B2, 136, (r_3.Terms.flatMap enc_Term), c2 * 2⟩, ⟨B3, 61, (r_3.Out.flatMap enc_Affine), c3 * 2⟩, ⟨some ⟨b1, 0, none⟩, 57, [.int .i64 r_3.Ins, .int .i64 r_3.Vars, .int .i64 r_3.Root, .int .i64 r_3.Phase, .slice B2 r_3.Terms.length c2, .slice B3 r_3.Out.length c3], 6⟩, ⟨B4, 76, (r_5.Gates.flatMap enc_Gate), c4 * 3⟩, ⟨some ⟨b2, 0, none⟩, 28, [.int .i64 r_5.Qubits, .slice B4 r_5.Gates.length c4], 2⟩, ⟨B5, 136, (r_6.Terms.flatMap enc_Term), c5 * 2⟩, ⟨B6, 61, (r_6.Out.flatMap enc_Affine), c6 * 2⟩, ⟨some ⟨b3, 0, none⟩, 57, [.int .i64 r_6.Ins, .int .i64 r_6.Vars, .int .i64 r_6.Root, .int .i64 r_6.Phase, .slice B5 r_6.Terms.length c5, .slice B6 r_6.Out.length c6], 6⟩, ⟨B7, 76, (r_9.Gates.flatMap enc_Gate), c7 * 3⟩] [⟨B, (aC.Gates.flatMap enc_Gate)⟩] := hS18
          refine ⟨(ST.sel hS18 [0, 1, 2, 3, 4, 5, 6, 7, 8, 9] rfl rfl), ?_⟩
          refine ra_q 4 45 (v := .bool (!r_10)) rfl rfl rfl (by kernel_rfl) (by kernel_rfl) (by kernel_rfl) (ST.sel hS18 [0, 1, 2, 3, 4, 5, 6, 7, 8, 9] rfl rfl) (fun w' hw' => (Y_not (p := r_10) rfl rfl)) ?_
          refine ra_done (by kernel_rfl) ?_
          refine cw_cond (b := (!r_10)) rfl (fun hb2 => ?_) (fun hb2 => ?_)
          · skip
            have hF5 := ct hF4 hb2
            refine cw_seq ?_
            refine cw_region ?_
            refine sq 2 rfl rfl (Y_assign (v := .bool false) rfl rfl) ?_
            refine rw_nil ?_
            refine cw_ret ?_
            obtain rfl := some_inj hF5
            exact ret1 Try.results6 (v1 := .bool false) (resAt_tmp rfl) ⟨rfl, (ST.subR (R' := []) (hS18.sel [] rfl rfl) (fun _ h => by cases h))⟩
          · skip
            have hF6 := cf' hF4 hb2
            refine cw_skip ?_
            refine cw_seq ?_
            refine cw_region ?_
            refine sq 9 rfl rfl (Y_assign (v := .int .i64 1) rfl rfl) ?_
            refine rw_nil ?_
            refine cw_seq ?_
            refine cw_region ?_
            refine sq 46 rfl rfl (Y_loadA (B := some ⟨b2, 0, none⟩) (i := 0) (cs := [.int .i64 r_5.Qubits, .slice B4 r_5.Gates.length c4]) (vs := [.int .i64 r_5.Qubits, .slice B4 r_5.Gates.length c4]) k_ag_28 k_sz_28_2 rfl rfl (hS18.cf (i := 6) rfl) rfl rfl) ?_
            refine sq 47 rfl rfl (Y_move (v := .int .i64 1) rfl rfl) ?_
            obtain ⟨⟨r_11, m⟩, hc8, hF6⟩ := bind_inv hF6
            refine sc 48 rfl rfl (Yc_func (g := 14) (vs := [.agg #[.int .i64 r_5.Qubits, .slice B4 r_5.Gates.length c4], .int .i64 1]) k_call_14 rfl (mc rfl (mc rfl mn)) (c_laws_markCircuit r_5 1 B4 c4 r_5.Gates.length _ rfl (hS18.inn [false, false, false, false, false, true, false, false, false, false, false] rfl [] rfl) hc8)) ?_
            rintro _ w_15 ⟨rfl, hl, hd8⟩
            have hS19 := hS18.out [false, false, false, false, false, true, false, false, false, false, false] rfl hd8
            have hS19 : ST w0 [] _ [⟨some ⟨b, 0, none⟩, 42, [.int .i64 aC.Qubits, .slice B aC.Gates.length c], 2⟩, ⟨B1, 76, (r_2.Gates.flatMap enc_Gate), c1 * 3⟩, ⟨B2, 136, (r_3.Terms.flatMap enc_Term), c2 * 2⟩, ⟨B3, 61, (r_3.Out.flatMap enc_Affine), c3 * 2⟩, ⟨some ⟨b1, 0, none⟩, 57, [.int .i64 r_3.Ins, .int .i64 r_3.Vars, .int .i64 r_3.Root, .int .i64 r_3.Phase, .slice B2 r_3.Terms.length c2, .slice B3 r_3.Out.length c3], 6⟩, ⟨some ⟨b2, 0, none⟩, 28, [.int .i64 r_5.Qubits, .slice B4 r_5.Gates.length c4], 2⟩, ⟨B5, 136, (r_6.Terms.flatMap enc_Term), c5 * 2⟩, ⟨B6, 61, (r_6.Out.flatMap enc_Affine), c6 * 2⟩, ⟨some ⟨b3, 0, none⟩, 57, [.int .i64 r_6.Ins, .int .i64 r_6.Vars, .int .i64 r_6.Root, .int .i64 r_6.Phase, .slice B5 r_6.Terms.length c5, .slice B6 r_6.Out.length c6], 6⟩, ⟨B7, 76, (r_9.Gates.flatMap enc_Gate), c7 * 3⟩, ⟨B4, 76, (m.flatMap enc_Gate), c4 * 3⟩] [⟨B, (aC.Gates.flatMap enc_Gate)⟩] := hS19
            refine sq 9 rfl rfl (Y_assign (v := .int .i64 r_11) rfl rfl) ?_
            refine rw_nil ?_
            refine cw_seq ?_
            refine cw_seq ?_
            refine cw_region ?_
            refine sq 49 rfl rfl (Y_move (v := .int .i64 r_11) rfl rfl) ?_
            refine sq 50 rfl rfl (Y_lt (k := .i64) (a := r_11) (b := 0) rfl rfl rfl) ?_
            refine sq 51 rfl rfl (Y_move (v := .bool (decide (r_11 < 0))) rfl rfl) ?_
            refine sgq 52 (B := (!(decide (r_11 < 0)))) (v := .agg #[.int .i64 r_6.Ins, .int .i64 r_6.Vars, .int .i64 r_6.Root, .int .i64 r_6.Phase, .slice B5 r_6.Terms.length c5, .slice B6 r_6.Out.length c6]) rfl rfl (wt_f (gd_of (t := 51) (by kernel_rfl) rfl)) (fun hg3 => (Y_loadA (B := some ⟨b3, 0, none⟩) (i := 0) (cs := [.int .i64 r_6.Ins, .int .i64 r_6.Vars, .int .i64 r_6.Root, .int .i64 r_6.Phase, .slice B5 r_6.Terms.length c5, .slice B6 r_6.Out.length c6]) (vs := [.int .i64 r_6.Ins, .int .i64 r_6.Vars, .int .i64 r_6.Root, .int .i64 r_6.Phase, .slice B5 r_6.Terms.length c5, .slice B6 r_6.Out.length c6]) k_ag_57 k_sz_57_6 rfl rfl (hS19.cf (i := 8) rfl) rfl rfl)) ?_
            refine sgq 53 (B := (!(decide (r_11 < 0)))) (v := .agg #[.int .i64 r_3.Ins, .int .i64 r_3.Vars, .int .i64 r_3.Root, .int .i64 r_3.Phase, .slice B2 r_3.Terms.length c2, .slice B3 r_3.Out.length c3]) rfl rfl (wt_f (gd_of (t := 51) (by kernel_rfl) rfl)) (fun hg4 => (Y_loadA (B := some ⟨b1, 0, none⟩) (i := 0) (cs := [.int .i64 r_3.Ins, .int .i64 r_3.Vars, .int .i64 r_3.Root, .int .i64 r_3.Phase, .slice B2 r_3.Terms.length c2, .slice B3 r_3.Out.length c3]) (vs := [.int .i64 r_3.Ins, .int .i64 r_3.Vars, .int .i64 r_3.Root, .int .i64 r_3.Phase, .slice B2 r_3.Terms.length c2, .slice B3 r_3.Out.length c3]) k_ag_57 k_sz_57_6 rfl rfl (hS19.cf (i := 4) rfl) rfl rfl)) ?_
            obtain ⟨r_12, hc9, hF6⟩ := bind_inv hF6
            refine sgc 54 (B := (!(decide (r_11 < 0)))) (v := .bool r_12) (F := hS19.fn) rfl rfl (wt_f (gd_of (t := 51) (by kernel_rfl) rfl)) hS19 (fun hg5 => (Yc_func (g := 25) (vs := [.agg #[.int .i64 r_6.Ins, .int .i64 r_6.Vars, .int .i64 r_6.Root, .int .i64 r_6.Phase, .slice B5 r_6.Terms.length c5, .slice B6 r_6.Out.length c6], .agg #[.int .i64 r_3.Ins, .int .i64 r_3.Vars, .int .i64 r_3.Root, .int .i64 r_3.Phase, .slice B2 r_3.Terms.length c2, .slice B3 r_3.Out.length c3]]) k_call_25 rfl (mc (gv_of (B := (!(decide (r_11 < 0)))) (v := .agg #[.int .i64 r_6.Ins, .int .i64 r_6.Vars, .int .i64 r_6.Root, .int .i64 r_6.Phase, .slice B5 r_6.Terms.length c5, .slice B6 r_6.Out.length c6]) hg5) (mc (gv_of (B := (!(decide (r_11 < 0)))) (v := .agg #[.int .i64 r_3.Ins, .int .i64 r_3.Vars, .int .i64 r_3.Root, .int .i64 r_3.Phase, .slice B2 r_3.Terms.length c2, .slice B3 r_3.Out.length c3]) hg5) mn)) (CV.mono (c_laws_eqPathSum r_6 r_3 B5 c5 r_6.Terms.length B6 c6 r_6.Out.length B2 c2 r_3.Terms.length B3 c3 r_3.Out.length _ rfl rfl rfl rfl (hS19.inn0 [(false, 6), (false, 7), (false, 2), (false, 3)] rfl) (gb_inv hc9 hg5)) (by rintro _ _ ⟨rfl, h⟩; exact ⟨rfl, hS19.out00 h⟩)))) ?_
            rintro w_16 hS20
            have hS20 : ST _ _ w_16 _ _ := hS20
            refine sgq 55 (B := (!(decide (r_11 < 0)))) (v := .bool (!r_12)) rfl rfl (wt_f (gd_of (t := 51) (by kernel_rfl) rfl)) (fun hg6 => (Y_not (p := r_12) rfl (gv_of (B := (!(decide (r_11 < 0)))) (v := .bool r_12) hg6))) ?_
            refine sq 56 rfl rfl (Y_or (b := (decide (r_11 < 0))) (z := (!r_12)) rfl rfl rfl rfl) ?_
            refine sq 57 rfl rfl (Y_move (v := .bool ((decide (r_11 < 0)) || (!r_12))) rfl rfl) ?_
            refine sgq 58 (B := (!((decide (r_11 < 0)) || (!r_12)))) (v := .bool r_7) rfl rfl (wt_f (gd_of (t := 57) (by kernel_rfl) rfl)) (fun hg7 => (Y_move (v := .bool r_7) rfl rfl)) ?_
            refine sgq 59 (B := (!((decide (r_11 < 0)) || (!r_12)))) (v := .bool r_4) rfl rfl (wt_f (gd_of (t := 57) (by kernel_rfl) rfl)) (fun hg8 => (Y_move (v := .bool r_4) rfl rfl)) ?_
            refine sgq 60 (B := (!((decide (r_11 < 0)) || (!r_12)))) (v := .bool (!(r_7 == r_4))) rfl rfl (wt_f (gd_of (t := 57) (by kernel_rfl) rfl)) (fun hg9 => (Y_bne (p := r_7) (q := r_4) k_und_4 rfl (gv_of (B := (!((decide (r_11 < 0)) || (!r_12)))) (v := .bool r_7) hg9) (gv_of (B := (!((decide (r_11 < 0)) || (!r_12)))) (v := .bool r_4) hg9))) ?_
            refine sq 61 rfl rfl (Y_or (b := ((decide (r_11 < 0)) || (!r_12))) (z := (!(r_7 == r_4))) rfl rfl rfl rfl) ?_
            refine rw_nil ?_
            refine cw_cond (b := (((decide (r_11 < 0)) || (!r_12)) || (!(r_7 == r_4)))) rfl (fun hb3 => ?_) (fun hb3 => ?_)
            · skip
              have hF7 := ct hF6 hb3
              refine cw_seq ?_
              refine cw_region ?_
              refine sq 2 rfl rfl (Y_assign (v := .bool false) rfl rfl) ?_
              refine rw_nil ?_
              refine cw_ret ?_
              obtain rfl := some_inj hF7
              exact ret1 Try.results6 (v1 := .bool false) (resAt_tmp rfl) ⟨rfl, (ST.subR (R' := []) (hS20.sel [] rfl rfl) (fun _ h => by cases h))⟩
            · skip
              have hF8 := cf' hF6 hb3
              refine cw_skip ?_
              refine cw_seq ?_
              refine cw_region ?_
              refine sq 10 rfl rfl (Y_assign (v := .int .i64 1) rfl rfl) ?_
              refine rw_nil ?_
              refine cw_seq ?_
              refine cw_region ?_
              refine sq 62 rfl rfl (Y_loadA (B := some ⟨b3, 0, none⟩) (i := 0) (cs := [.int .i64 r_6.Ins, .int .i64 r_6.Vars, .int .i64 r_6.Root, .int .i64 r_6.Phase, .slice B5 r_6.Terms.length c5, .slice B6 r_6.Out.length c6]) (vs := [.int .i64 r_6.Ins, .int .i64 r_6.Vars, .int .i64 r_6.Root, .int .i64 r_6.Phase, .slice B5 r_6.Terms.length c5, .slice B6 r_6.Out.length c6]) k_ag_57 k_sz_57_6 rfl rfl (hS20.cf (i := 8) rfl) rfl rfl) ?_
              refine sq 63 rfl rfl (Y_move (v := .int .i64 1) rfl rfl) ?_
              obtain ⟨⟨r_13, m1, m2⟩, hc10, hF8⟩ := bind_inv hF8
              refine sc 64 rfl rfl (Yc_func (g := 26) (vs := [.agg #[.int .i64 r_6.Ins, .int .i64 r_6.Vars, .int .i64 r_6.Root, .int .i64 r_6.Phase, .slice B5 r_6.Terms.length c5, .slice B6 r_6.Out.length c6], .int .i64 1]) k_call_26 rfl (mc rfl (mc rfl mn)) (c_laws_markPathSum r_6 1 B5 c5 r_6.Terms.length B6 c6 r_6.Out.length _ rfl rfl (hS20.inn [false, false, false, false, false, false, true, true, false, false, false] rfl [] rfl) hc10)) ?_
              rintro _ w_17 ⟨rfl, hl1, hl2, hd9⟩
              have hS21 := hS20.out [false, false, false, false, false, false, true, true, false, false, false] rfl hd9
              have hS21 : ST w0 [] _ [⟨some ⟨b, 0, none⟩, 42, [.int .i64 aC.Qubits, .slice B aC.Gates.length c], 2⟩, ⟨B1, 76, (r_2.Gates.flatMap enc_Gate), c1 * 3⟩, ⟨B2, 136, (r_3.Terms.flatMap enc_Term), c2 * 2⟩, ⟨B3, 61, (r_3.Out.flatMap enc_Affine), c3 * 2⟩, ⟨some ⟨b1, 0, none⟩, 57, [.int .i64 r_3.Ins, .int .i64 r_3.Vars, .int .i64 r_3.Root, .int .i64 r_3.Phase, .slice B2 r_3.Terms.length c2, .slice B3 r_3.Out.length c3], 6⟩, ⟨some ⟨b2, 0, none⟩, 28, [.int .i64 r_5.Qubits, .slice B4 r_5.Gates.length c4], 2⟩, ⟨some ⟨b3, 0, none⟩, 57, [.int .i64 r_6.Ins, .int .i64 r_6.Vars, .int .i64 r_6.Root, .int .i64 r_6.Phase, .slice B5 r_6.Terms.length c5, .slice B6 r_6.Out.length c6], 6⟩, ⟨B7, 76, (r_9.Gates.flatMap enc_Gate), c7 * 3⟩, ⟨B4, 76, (m.flatMap enc_Gate), c4 * 3⟩, ⟨B5, 136, (m1.flatMap enc_Term), c5 * 2⟩, ⟨B6, 61, (m2.flatMap enc_Affine), c6 * 2⟩] [⟨B, (aC.Gates.flatMap enc_Gate)⟩] := hS21
              refine sq 10 rfl rfl (Y_assign (v := .int .i64 r_13) rfl rfl) ?_
              refine rw_nil ?_
              refine cw_seq ?_
              refine cw_region ?_
              refine sq 11 rfl rfl (Y_assign (v := .int .i64 1) rfl rfl) ?_
              refine rw_nil ?_
              refine cw_seq ?_
              refine cw_region ?_
              refine sq 65 rfl rfl (Y_loadA (B := some ⟨b3, 0, none⟩) (i := 0) (cs := [.int .i64 r_6.Ins, .int .i64 r_6.Vars, .int .i64 r_6.Root, .int .i64 r_6.Phase, .slice B5 r_6.Terms.length c5, .slice B6 r_6.Out.length c6]) (vs := [.int .i64 r_6.Ins, .int .i64 r_6.Vars, .int .i64 r_6.Root, .int .i64 r_6.Phase, .slice B5 r_6.Terms.length c5, .slice B6 r_6.Out.length c6]) k_ag_57 k_sz_57_6 rfl rfl (hS21.cf (i := 6) rfl) rfl rfl) ?_
              refine sq 66 rfl rfl (Y_move (v := .int .i64 1) rfl rfl) ?_
              obtain ⟨r_14, hc11, hF8⟩ := bind_inv hF8
              refine sc 67 rfl rfl (Yc_func (g := 27) (vs := [.agg #[.int .i64 r_6.Ins, .int .i64 r_6.Vars, .int .i64 r_6.Root, .int .i64 r_6.Phase, .slice B5 r_6.Terms.length c5, .slice B6 r_6.Out.length c6], .int .i64 1]) k_call_27 rfl (mc rfl (mc rfl mn)) (c_laws_heldPathSum (TPathSum.mk r_6.Ins r_6.Vars r_6.Root r_6.Phase m1 m2) 1 B5 c5 r_6.Terms.length B6 c6 r_6.Out.length _ hl1 hl2 (hS21.inn0 [(false, 9), (false, 10)] rfl) hc11)) ?_
              rintro _ w_18 ⟨rfl, hd10⟩
              have hS22 := hS21.out00 hd10
              have hS22 : ST w0 [] _ [⟨some ⟨b, 0, none⟩, 42, [.int .i64 aC.Qubits, .slice B aC.Gates.length c], 2⟩, ⟨B1, 76, (r_2.Gates.flatMap enc_Gate), c1 * 3⟩, ⟨B2, 136, (r_3.Terms.flatMap enc_Term), c2 * 2⟩, ⟨B3, 61, (r_3.Out.flatMap enc_Affine), c3 * 2⟩, ⟨some ⟨b1, 0, none⟩, 57, [.int .i64 r_3.Ins, .int .i64 r_3.Vars, .int .i64 r_3.Root, .int .i64 r_3.Phase, .slice B2 r_3.Terms.length c2, .slice B3 r_3.Out.length c3], 6⟩, ⟨some ⟨b2, 0, none⟩, 28, [.int .i64 r_5.Qubits, .slice B4 r_5.Gates.length c4], 2⟩, ⟨some ⟨b3, 0, none⟩, 57, [.int .i64 r_6.Ins, .int .i64 r_6.Vars, .int .i64 r_6.Root, .int .i64 r_6.Phase, .slice B5 r_6.Terms.length c5, .slice B6 r_6.Out.length c6], 6⟩, ⟨B7, 76, (r_9.Gates.flatMap enc_Gate), c7 * 3⟩, ⟨B4, 76, (m.flatMap enc_Gate), c4 * 3⟩, ⟨B5, 136, (m1.flatMap enc_Term), c5 * 2⟩, ⟨B6, 61, (m2.flatMap enc_Affine), c6 * 2⟩] [⟨B, (aC.Gates.flatMap enc_Gate)⟩] := hS22
              refine sq 11 rfl rfl (Y_assign (v := .int .i64 r_14) rfl rfl) ?_
              refine rw_nil ?_
              refine cw_seq ?_
              refine cw_seq ?_
              refine cw_region ?_
              refine sq 68 rfl rfl (Y_move (v := .int .i64 r_14) rfl rfl) ?_
              refine sq 69 rfl rfl (Y_lt (k := .i64) (a := r_14) (b := 0) rfl rfl rfl) ?_
              refine rw_nil ?_
              refine cw_cond (b := (decide (r_14 < 0))) rfl (fun hb4 => ?_) (fun hb4 => ?_)
              · skip
                have hF9 := ct hF8 hb4
                refine cw_seq ?_
                refine cw_region ?_
                refine sq 2 rfl rfl (Y_assign (v := .bool false) rfl rfl) ?_
                refine rw_nil ?_
                refine cw_ret ?_
                obtain rfl := some_inj hF9
                exact ret1 Try.results6 (v1 := .bool false) (resAt_tmp rfl) ⟨rfl, (ST.subR (R' := []) (hS22.sel [] rfl rfl) (fun _ h => by cases h))⟩
              · skip
                have hF10 := cf' hF8 hb4
                refine cw_skip ?_
                refine cw_seq ?_
                refine cw_seq ?_
                refine cw_region ?_
                refine sq 70 rfl rfl (Y_move (v := .int .i64 r_14) rfl rfl) ?_
                refine sq 71 rfl rfl (Y_move (v := .int .i64 r_13) rfl rfl) ?_
                refine sq 72 rfl rfl (Y_ne (k := .i64) (a := r_14) (b := r_13) rfl rfl rfl) ?_
                refine rw_nil ?_
                refine cw_cond (b := (r_14 != r_13)) rfl (fun hb5 => ?_) (fun hb5 => ?_)
                · skip
                  have hF11 := ct hF10 hb5
                  refine cw_seq ?_
                  refine cw_region ?_
                  refine sq 2 rfl rfl (Y_assign (v := .bool false) rfl rfl) ?_
                  refine rw_nil ?_
                  refine cw_ret ?_
                  obtain rfl := some_inj hF11
                  exact ret1 Try.results6 (v1 := .bool false) (resAt_tmp rfl) ⟨rfl, (ST.subR (R' := []) (hS22.sel [] rfl rfl) (fun _ h => by cases h))⟩
                · skip
                  have hF12 := cf' hF10 hb5
                  refine cw_skip ?_
                  refine cw_seq ?_
                  refine cw_region ?_
                  refine sq 74 rfl rfl (Y_loadA (B := some ⟨b, 0, none⟩) (i := 0) (cs := [.int .i64 aC.Qubits, .slice B aC.Gates.length c]) (vs := [.int .i64 aC.Qubits, .slice B aC.Gates.length c]) k_ag_42 k_sz_42_2 rfl rfl (hS22.cf (i := 0) rfl) rfl rfl) ?_
                  obtain ⟨r_15, hc12, hF12⟩ := bind_inv hF12
                  refine sc 75 rfl rfl (Yc_func (g := 18) (vs := [.agg #[.int .i64 aC.Qubits, .slice B aC.Gates.length c]]) k_call_18 rfl (mc rfl mn) (c_laws_toCircuit aC B c aC.Gates.length _ rfl (hS22.inn0 [(true, 0)] rfl) hc12)) ?_
                  rintro _ w_19 ⟨B8, c8, rfl, hd11⟩
                  have hS23 := hS22.out0 hd11
                  have hS23 : ST w0 [] _ [⟨some ⟨b, 0, none⟩, 42, [.int .i64 aC.Qubits, .slice B aC.Gates.length c], 2⟩, ⟨B1, 76, (r_2.Gates.flatMap enc_Gate), c1 * 3⟩, ⟨B2, 136, (r_3.Terms.flatMap enc_Term), c2 * 2⟩, ⟨B3, 61, (r_3.Out.flatMap enc_Affine), c3 * 2⟩, ⟨some ⟨b1, 0, none⟩, 57, [.int .i64 r_3.Ins, .int .i64 r_3.Vars, .int .i64 r_3.Root, .int .i64 r_3.Phase, .slice B2 r_3.Terms.length c2, .slice B3 r_3.Out.length c3], 6⟩, ⟨some ⟨b2, 0, none⟩, 28, [.int .i64 r_5.Qubits, .slice B4 r_5.Gates.length c4], 2⟩, ⟨some ⟨b3, 0, none⟩, 57, [.int .i64 r_6.Ins, .int .i64 r_6.Vars, .int .i64 r_6.Root, .int .i64 r_6.Phase, .slice B5 r_6.Terms.length c5, .slice B6 r_6.Out.length c6], 6⟩, ⟨B7, 76, (r_9.Gates.flatMap enc_Gate), c7 * 3⟩, ⟨B4, 76, (m.flatMap enc_Gate), c4 * 3⟩, ⟨B5, 136, (m1.flatMap enc_Term), c5 * 2⟩, ⟨B6, 61, (m2.flatMap enc_Affine), c6 * 2⟩, ⟨B8, 76, (r_15.Gates.flatMap enc_Gate), c8 * 3⟩] [⟨B, (aC.Gates.flatMap enc_Gate)⟩] := hS23
                  obtain ⟨⟨r_16, r_17⟩, hc13, hF12⟩ := bind_inv hF12
                  refine sc 76 rfl rfl (Yc_func (g := 29) (vs := [.agg #[.int .i64 r_15.Qubits, .slice B8 r_15.Gates.length c8]]) k_call_29 rfl (mc rfl mn) (c_impl_PathSumOf r_15 B8 c8 r_15.Gates.length _ rfl (hS23.inn0 [(false, 11)] rfl) hc13)) ?_
                  rintro _ w_20 ⟨B9, c9, B10, c10, rfl, hd12⟩
                  have hS24 := hS23.out0 hd12
                  have hS24 : ST w0 [] _ [⟨some ⟨b, 0, none⟩, 42, [.int .i64 aC.Qubits, .slice B aC.Gates.length c], 2⟩, ⟨B1, 76, (r_2.Gates.flatMap enc_Gate), c1 * 3⟩, ⟨B2, 136, (r_3.Terms.flatMap enc_Term), c2 * 2⟩, ⟨B3, 61, (r_3.Out.flatMap enc_Affine), c3 * 2⟩, ⟨some ⟨b1, 0, none⟩, 57, [.int .i64 r_3.Ins, .int .i64 r_3.Vars, .int .i64 r_3.Root, .int .i64 r_3.Phase, .slice B2 r_3.Terms.length c2, .slice B3 r_3.Out.length c3], 6⟩, ⟨some ⟨b2, 0, none⟩, 28, [.int .i64 r_5.Qubits, .slice B4 r_5.Gates.length c4], 2⟩, ⟨some ⟨b3, 0, none⟩, 57, [.int .i64 r_6.Ins, .int .i64 r_6.Vars, .int .i64 r_6.Root, .int .i64 r_6.Phase, .slice B5 r_6.Terms.length c5, .slice B6 r_6.Out.length c6], 6⟩, ⟨B7, 76, (r_9.Gates.flatMap enc_Gate), c7 * 3⟩, ⟨B4, 76, (m.flatMap enc_Gate), c4 * 3⟩, ⟨B5, 136, (m1.flatMap enc_Term), c5 * 2⟩, ⟨B6, 61, (m2.flatMap enc_Affine), c6 * 2⟩, ⟨B8, 76, (r_15.Gates.flatMap enc_Gate), c8 * 3⟩, ⟨B9, 136, (r_16.Terms.flatMap enc_Term), c9 * 2⟩, ⟨B10, 61, (r_16.Out.flatMap enc_Affine), c10 * 2⟩] [⟨B, (aC.Gates.flatMap enc_Gate)⟩] := hS24
                  refine sq 73 rfl rfl (Y_move (v := .tuple #[.agg #[.int .i64 r_16.Ins, .int .i64 r_16.Vars, .int .i64 r_16.Root, .int .i64 r_16.Phase, .slice B9 r_16.Terms.length c9, .slice B10 r_16.Out.length c10], .bool r_17]) rfl rfl) ?_
                  refine sq 77 rfl rfl (Y_extract (v := .agg #[.int .i64 r_16.Ins, .int .i64 r_16.Vars, .int .i64 r_16.Root, .int .i64 r_16.Phase, .slice B9 r_16.Terms.length c9, .slice B10 r_16.Out.length c10]) rfl rfl rfl) ?_
                  refine sq 78 rfl rfl (Y_extract (v := .bool r_17) rfl rfl rfl) ?_
                  refine ss 12 rfl rfl (Ys_alloc (T := 57) (cs := [.int .i64 0, .int .i64 0, .int .i64 0, .int .i64 0, .slice none 0 0, .slice none 0 0]) (m := 6) hS24 k_zero_57 rfl rfl rfl) ?_
                  rintro _ w_21 ⟨b4, rfl, hS25⟩
                  have hS25 : ST w0 [] _ [⟨some ⟨b, 0, none⟩, 42, [.int .i64 aC.Qubits, .slice B aC.Gates.length c], 2⟩, ⟨B1, 76, (r_2.Gates.flatMap enc_Gate), c1 * 3⟩, ⟨B2, 136, (r_3.Terms.flatMap enc_Term), c2 * 2⟩, ⟨B3, 61, (r_3.Out.flatMap enc_Affine), c3 * 2⟩, ⟨some ⟨b1, 0, none⟩, 57, [.int .i64 r_3.Ins, .int .i64 r_3.Vars, .int .i64 r_3.Root, .int .i64 r_3.Phase, .slice B2 r_3.Terms.length c2, .slice B3 r_3.Out.length c3], 6⟩, ⟨some ⟨b2, 0, none⟩, 28, [.int .i64 r_5.Qubits, .slice B4 r_5.Gates.length c4], 2⟩, ⟨some ⟨b3, 0, none⟩, 57, [.int .i64 r_6.Ins, .int .i64 r_6.Vars, .int .i64 r_6.Root, .int .i64 r_6.Phase, .slice B5 r_6.Terms.length c5, .slice B6 r_6.Out.length c6], 6⟩, ⟨B7, 76, (r_9.Gates.flatMap enc_Gate), c7 * 3⟩, ⟨B4, 76, (m.flatMap enc_Gate), c4 * 3⟩, ⟨B5, 136, (m1.flatMap enc_Term), c5 * 2⟩, ⟨B6, 61, (m2.flatMap enc_Affine), c6 * 2⟩, ⟨B8, 76, (r_15.Gates.flatMap enc_Gate), c8 * 3⟩, ⟨B9, 136, (r_16.Terms.flatMap enc_Term), c9 * 2⟩, ⟨B10, 61, (r_16.Out.flatMap enc_Affine), c10 * 2⟩, ⟨some ⟨b4, 0, none⟩, 57, [.int .i64 0, .int .i64 0, .int .i64 0, .int .i64 0, .slice none 0 0, .slice none 0 0], 6⟩] [⟨B, (aC.Gates.flatMap enc_Gate)⟩] := hS25
                  refine ss0 rfl rfl (Ys_store (i := 14) (s := 6) (B := some ⟨b4, 0, none⟩) (T' := 57) (v := .agg #[.int .i64 r_16.Ins, .int .i64 r_16.Vars, .int .i64 r_16.Root, .int .i64 r_16.Phase, .slice B9 r_16.Terms.length c9, .slice B10 r_16.Out.length c10]) (vs := [.int .i64 r_16.Ins, .int .i64 r_16.Vars, .int .i64 r_16.Root, .int .i64 r_16.Phase, .slice B9 r_16.Terms.length c9, .slice B10 r_16.Out.length c10]) (k := 0) (cs' := [.int .i64 r_16.Ins, .int .i64 r_16.Vars, .int .i64 r_16.Root, .int .i64 r_16.Phase, .slice B9 r_16.Terms.length c9, .slice B10 r_16.Out.length c10]) hS25 k_sz_57_6 rfl rfl rfl rfl rfl rfl rfl (Nat.le_of_ble_eq_true rfl) rfl rfl) ?_
                  rintro _ w_22 ⟨rfl, hS26⟩
                  have hS26 : ST w0 [] _ [⟨some ⟨b, 0, none⟩, 42, [.int .i64 aC.Qubits, .slice B aC.Gates.length c], 2⟩, ⟨B1, 76, (r_2.Gates.flatMap enc_Gate), c1 * 3⟩, ⟨B2, 136, (r_3.Terms.flatMap enc_Term), c2 * 2⟩, ⟨B3, 61, (r_3.Out.flatMap enc_Affine), c3 * 2⟩, ⟨some ⟨b1, 0, none⟩, 57, [.int .i64 r_3.Ins, .int .i64 r_3.Vars, .int .i64 r_3.Root, .int .i64 r_3.Phase, .slice B2 r_3.Terms.length c2, .slice B3 r_3.Out.length c3], 6⟩, ⟨some ⟨b2, 0, none⟩, 28, [.int .i64 r_5.Qubits, .slice B4 r_5.Gates.length c4], 2⟩, ⟨some ⟨b3, 0, none⟩, 57, [.int .i64 r_6.Ins, .int .i64 r_6.Vars, .int .i64 r_6.Root, .int .i64 r_6.Phase, .slice B5 r_6.Terms.length c5, .slice B6 r_6.Out.length c6], 6⟩, ⟨B7, 76, (r_9.Gates.flatMap enc_Gate), c7 * 3⟩, ⟨B4, 76, (m.flatMap enc_Gate), c4 * 3⟩, ⟨B5, 136, (m1.flatMap enc_Term), c5 * 2⟩, ⟨B6, 61, (m2.flatMap enc_Affine), c6 * 2⟩, ⟨B8, 76, (r_15.Gates.flatMap enc_Gate), c8 * 3⟩, ⟨B9, 136, (r_16.Terms.flatMap enc_Term), c9 * 2⟩, ⟨B10, 61, (r_16.Out.flatMap enc_Affine), c10 * 2⟩, ⟨some ⟨b4, 0, none⟩, 57, [.int .i64 r_16.Ins, .int .i64 r_16.Vars, .int .i64 r_16.Root, .int .i64 r_16.Phase, .slice B9 r_16.Terms.length c9, .slice B10 r_16.Out.length c10], 6⟩] [⟨B, (aC.Gates.flatMap enc_Gate)⟩] := hS26
                  refine sq 13 rfl rfl (Y_assign (v := .bool r_17) rfl rfl) ?_
                  refine rw_nil ?_
                  refine cw_seq ?_
                  refine cw_seq ?_
                  refine cw_region ?_
                  refine sq 79 rfl rfl (Y_loadA (B := some ⟨b4, 0, none⟩) (i := 0) (cs := [.int .i64 r_16.Ins, .int .i64 r_16.Vars, .int .i64 r_16.Root, .int .i64 r_16.Phase, .slice B9 r_16.Terms.length c9, .slice B10 r_16.Out.length c10]) (vs := [.int .i64 r_16.Ins, .int .i64 r_16.Vars, .int .i64 r_16.Root, .int .i64 r_16.Phase, .slice B9 r_16.Terms.length c9, .slice B10 r_16.Out.length c10]) k_ag_57 k_sz_57_6 rfl rfl (hS26.cf (i := 14) rfl) rfl rfl) ?_
                  refine sq 80 rfl rfl (Y_loadA (B := some ⟨b1, 0, none⟩) (i := 0) (cs := [.int .i64 r_3.Ins, .int .i64 r_3.Vars, .int .i64 r_3.Root, .int .i64 r_3.Phase, .slice B2 r_3.Terms.length c2, .slice B3 r_3.Out.length c3]) (vs := [.int .i64 r_3.Ins, .int .i64 r_3.Vars, .int .i64 r_3.Root, .int .i64 r_3.Phase, .slice B2 r_3.Terms.length c2, .slice B3 r_3.Out.length c3]) k_ag_57 k_sz_57_6 rfl rfl (hS26.cf (i := 4) rfl) rfl rfl) ?_
                  obtain ⟨r_18, hc14, hF12⟩ := bind_inv hF12
                  refine sc 81 rfl rfl (Yc_func (g := 25) (vs := [.agg #[.int .i64 r_16.Ins, .int .i64 r_16.Vars, .int .i64 r_16.Root, .int .i64 r_16.Phase, .slice B9 r_16.Terms.length c9, .slice B10 r_16.Out.length c10], .agg #[.int .i64 r_3.Ins, .int .i64 r_3.Vars, .int .i64 r_3.Root, .int .i64 r_3.Phase, .slice B2 r_3.Terms.length c2, .slice B3 r_3.Out.length c3]]) k_call_25 rfl (mc rfl (mc rfl mn)) (c_laws_eqPathSum r_16 r_3 B9 c9 r_16.Terms.length B10 c10 r_16.Out.length B2 c2 r_3.Terms.length B3 c3 r_3.Out.length _ rfl rfl rfl rfl (hS26.inn0 [(false, 12), (false, 13), (false, 2), (false, 3)] rfl) hc14)) ?_
                  rintro _ w_23 ⟨rfl, hd13⟩
                  have hS27 := hS26.out00 hd13
                  have hS27 : ST w0 [] _ [⟨some ⟨b, 0, none⟩, 42, [.int .i64 aC.Qubits, .slice B aC.Gates.length c], 2⟩, ⟨B1, 76, (r_2.Gates.flatMap enc_Gate), c1 * 3⟩, ⟨B2, 136, (r_3.Terms.flatMap enc_Term), c2 * 2⟩, ⟨B3, 61, (r_3.Out.flatMap enc_Affine), c3 * 2⟩, ⟨some ⟨b1, 0, none⟩, 57, [.int .i64 r_3.Ins, .int .i64 r_3.Vars, .int .i64 r_3.Root, .int .i64 r_3.Phase, .slice B2 r_3.Terms.length c2, .slice B3 r_3.Out.length c3], 6⟩, ⟨some ⟨b2, 0, none⟩, 28, [.int .i64 r_5.Qubits, .slice B4 r_5.Gates.length c4], 2⟩, ⟨some ⟨b3, 0, none⟩, 57, [.int .i64 r_6.Ins, .int .i64 r_6.Vars, .int .i64 r_6.Root, .int .i64 r_6.Phase, .slice B5 r_6.Terms.length c5, .slice B6 r_6.Out.length c6], 6⟩, ⟨B7, 76, (r_9.Gates.flatMap enc_Gate), c7 * 3⟩, ⟨B4, 76, (m.flatMap enc_Gate), c4 * 3⟩, ⟨B5, 136, (m1.flatMap enc_Term), c5 * 2⟩, ⟨B6, 61, (m2.flatMap enc_Affine), c6 * 2⟩, ⟨B8, 76, (r_15.Gates.flatMap enc_Gate), c8 * 3⟩, ⟨B9, 136, (r_16.Terms.flatMap enc_Term), c9 * 2⟩, ⟨B10, 61, (r_16.Out.flatMap enc_Affine), c10 * 2⟩, ⟨some ⟨b4, 0, none⟩, 57, [.int .i64 r_16.Ins, .int .i64 r_16.Vars, .int .i64 r_16.Root, .int .i64 r_16.Phase, .slice B9 r_16.Terms.length c9, .slice B10 r_16.Out.length c10], 6⟩] [⟨B, (aC.Gates.flatMap enc_Gate)⟩] := hS27
                  refine sq 82 rfl rfl (Y_not (p := r_18) rfl rfl) ?_
                  refine sq 83 rfl rfl (Y_move (v := .bool (!r_18)) rfl rfl) ?_
                  refine sgq 84 (B := (!(!r_18))) (v := .bool r_17) rfl rfl (wt_f (gd_of (t := 83) (by kernel_rfl) rfl)) (fun hg10 => (Y_move (v := .bool r_17) rfl rfl)) ?_
                  refine sgq 85 (B := (!(!r_18))) (v := .bool r_4) rfl rfl (wt_f (gd_of (t := 83) (by kernel_rfl) rfl)) (fun hg11 => (Y_move (v := .bool r_4) rfl rfl)) ?_
                  refine sgq 86 (B := (!(!r_18))) (v := .bool (!(r_17 == r_4))) rfl rfl (wt_f (gd_of (t := 83) (by kernel_rfl) rfl)) (fun hg12 => (Y_bne (p := r_17) (q := r_4) k_und_4 rfl (gv_of (B := (!(!r_18))) (v := .bool r_17) hg12) (gv_of (B := (!(!r_18))) (v := .bool r_4) hg12))) ?_
                  refine sq 87 rfl rfl (Y_or (b := (!r_18)) (z := (!(r_17 == r_4))) rfl rfl rfl rfl) ?_
                  refine rw_nil ?_
                  refine cw_cond (b := ((!r_18) || (!(r_17 == r_4)))) rfl (fun hb6 => ?_) (fun hb6 => ?_)
                  · skip
                    have hF13 := ct hF12 hb6
                    refine cw_seq ?_
                    refine cw_region ?_
                    refine sq 2 rfl rfl (Y_assign (v := .bool false) rfl rfl) ?_
                    refine rw_nil ?_
                    refine cw_ret ?_
                    obtain rfl := some_inj hF13
                    exact ret1 Try.results6 (v1 := .bool false) (resAt_tmp rfl) ⟨rfl, (ST.subR (R' := []) (hS27.sel [] rfl rfl) (fun _ h => by cases h))⟩
                  · skip
                    have hF14 := cf' hF12 hb6
                    refine cw_skip ?_
                    refine cw_seq ?_
                    refine cw_region ?_
                    refine sq 11 rfl rfl (Y_assign (v := .int .i64 1) rfl rfl) ?_
                    refine rw_nil ?_
                    refine cw_seq ?_
                    refine cw_region ?_
                    refine sq 88 rfl rfl (Y_loadA (B := some ⟨b3, 0, none⟩) (i := 0) (cs := [.int .i64 r_6.Ins, .int .i64 r_6.Vars, .int .i64 r_6.Root, .int .i64 r_6.Phase, .slice B5 r_6.Terms.length c5, .slice B6 r_6.Out.length c6]) (vs := [.int .i64 r_6.Ins, .int .i64 r_6.Vars, .int .i64 r_6.Root, .int .i64 r_6.Phase, .slice B5 r_6.Terms.length c5, .slice B6 r_6.Out.length c6]) k_ag_57 k_sz_57_6 rfl rfl (hS27.cf (i := 6) rfl) rfl rfl) ?_
                    refine sq 89 rfl rfl (Y_move (v := .int .i64 1) rfl rfl) ?_
                    obtain ⟨r_19, hc15, hF14⟩ := bind_inv hF14
                    refine sc 90 rfl rfl (Yc_func (g := 27) (vs := [.agg #[.int .i64 r_6.Ins, .int .i64 r_6.Vars, .int .i64 r_6.Root, .int .i64 r_6.Phase, .slice B5 r_6.Terms.length c5, .slice B6 r_6.Out.length c6], .int .i64 1]) k_call_27 rfl (mc rfl (mc rfl mn)) (c_laws_heldPathSum (TPathSum.mk r_6.Ins r_6.Vars r_6.Root r_6.Phase m1 m2) 1 B5 c5 r_6.Terms.length B6 c6 r_6.Out.length _ hl1 hl2 (hS27.inn0 [(false, 9), (false, 10)] rfl) hc15)) ?_
                    rintro _ w_24 ⟨rfl, hd14⟩
                    have hS28 := hS27.out00 hd14
                    have hS28 : ST w0 [] _ [⟨some ⟨b, 0, none⟩, 42, [.int .i64 aC.Qubits, .slice B aC.Gates.length c], 2⟩, ⟨B1, 76, (r_2.Gates.flatMap enc_Gate), c1 * 3⟩, ⟨B2, 136, (r_3.Terms.flatMap enc_Term), c2 * 2⟩, ⟨B3, 61, (r_3.Out.flatMap enc_Affine), c3 * 2⟩, ⟨some ⟨b1, 0, none⟩, 57, [.int .i64 r_3.Ins, .int .i64 r_3.Vars, .int .i64 r_3.Root, .int .i64 r_3.Phase, .slice B2 r_3.Terms.length c2, .slice B3 r_3.Out.length c3], 6⟩, ⟨some ⟨b2, 0, none⟩, 28, [.int .i64 r_5.Qubits, .slice B4 r_5.Gates.length c4], 2⟩, ⟨some ⟨b3, 0, none⟩, 57, [.int .i64 r_6.Ins, .int .i64 r_6.Vars, .int .i64 r_6.Root, .int .i64 r_6.Phase, .slice B5 r_6.Terms.length c5, .slice B6 r_6.Out.length c6], 6⟩, ⟨B7, 76, (r_9.Gates.flatMap enc_Gate), c7 * 3⟩, ⟨B4, 76, (m.flatMap enc_Gate), c4 * 3⟩, ⟨B5, 136, (m1.flatMap enc_Term), c5 * 2⟩, ⟨B6, 61, (m2.flatMap enc_Affine), c6 * 2⟩, ⟨B8, 76, (r_15.Gates.flatMap enc_Gate), c8 * 3⟩, ⟨B9, 136, (r_16.Terms.flatMap enc_Term), c9 * 2⟩, ⟨B10, 61, (r_16.Out.flatMap enc_Affine), c10 * 2⟩, ⟨some ⟨b4, 0, none⟩, 57, [.int .i64 r_16.Ins, .int .i64 r_16.Vars, .int .i64 r_16.Root, .int .i64 r_16.Phase, .slice B9 r_16.Terms.length c9, .slice B10 r_16.Out.length c10], 6⟩] [⟨B, (aC.Gates.flatMap enc_Gate)⟩] := hS28
                    refine sq 11 rfl rfl (Y_assign (v := .int .i64 r_19) rfl rfl) ?_
                    refine rw_nil ?_
                    refine cw_seq ?_
                    refine cw_seq ?_
                    refine cw_region ?_
                    refine sq 91 rfl rfl (Y_move (v := .int .i64 r_19) rfl rfl) ?_
                    refine sq 92 rfl rfl (Y_lt (k := .i64) (a := r_19) (b := 0) rfl rfl rfl) ?_
                    refine rw_nil ?_
                    refine cw_cond (b := (decide (r_19 < 0))) rfl (fun hb7 => ?_) (fun hb7 => ?_)
                    · skip
                      have hF15 := ct hF14 hb7
                      refine cw_seq ?_
                      refine cw_region ?_
                      refine sq 2 rfl rfl (Y_assign (v := .bool false) rfl rfl) ?_
                      refine rw_nil ?_
                      refine cw_ret ?_
                      obtain rfl := some_inj hF15
                      exact ret1 Try.results6 (v1 := .bool false) (resAt_tmp rfl) ⟨rfl, (ST.subR (R' := []) (hS28.sel [] rfl rfl) (fun _ h => by cases h))⟩
                    · skip
                      have hF16 := cf' hF14 hb7
                      refine cw_skip ?_
                      refine cw_seq ?_
                      refine cw_seq ?_
                      refine cw_region ?_
                      refine sq 93 rfl rfl (Y_move (v := .int .i64 r_19) rfl rfl) ?_
                      refine sq 94 rfl rfl (Y_move (v := .int .i64 r_13) rfl rfl) ?_
                      refine sq 95 rfl rfl (Y_ne (k := .i64) (a := r_19) (b := r_13) rfl rfl rfl) ?_
                      refine rw_nil ?_
                      refine cw_cond (b := (r_19 != r_13)) rfl (fun hb8 => ?_) (fun hb8 => ?_)
                      · skip
                        have hF17 := ct hF16 hb8
                        refine cw_seq ?_
                        refine cw_region ?_
                        refine sq 2 rfl rfl (Y_assign (v := .bool false) rfl rfl) ?_
                        refine rw_nil ?_
                        refine cw_ret ?_
                        obtain rfl := some_inj hF17
                        exact ret1 Try.results6 (v1 := .bool false) (resAt_tmp rfl) ⟨rfl, (ST.subR (R' := []) (hS28.sel [] rfl rfl) (fun _ h => by cases h))⟩
                      · skip
                        have hF18 := cf' hF16 hb8
                        refine cw_skip ?_
                        refine cw_seq ?_
                        refine cw_region ?_
                        refine sq 2 rfl rfl (Y_assign (v := .bool true) rfl rfl) ?_
                        refine rw_nil ?_
                        refine cw_ret ?_
                        obtain rfl := some_inj hF18
                        exact ret1 Try.results6 (v1 := .bool true) (resAt_tmp rfl) ⟨rfl, (ST.subR (R' := []) (hS28.sel [] rfl rfl) (fun _ h => by cases h))⟩
        exact allR_nil
      exact allR_nil
end Go.VK
