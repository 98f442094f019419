/- Walks: each Go function returns what its Lean function says. By program. -/
import Derived.Test.YthfilimbhhijaaaMonomialsOfFa
import Derived.Test.YthfilimbhhijaaaMonomialsOfW2
set_option linter.unusedVariables false
set_option maxRecDepth 100000
set_option maxHeartbeats 1000000
namespace Go.VK
open Go.RowKit
open Go.Proofs
attribute [local irreducible] CW RW RA CV Y Yw Yc Ys RetOf
attribute [local irreducible] F_laws_szTermS F_laws_szIntS F_laws_szLinear F_laws_szPhasePoly F_spec_l1In F_spec_l1All F_spec_l1Own F_spec_l12Rank F_spec_l12Valid F_spec_l13Valid F_spec_l13List F_spec_l1Set F_spec_l15Monomials F_spec_MonomialsOf F_laws_toTerm F_laws_toTermS F_laws_toIntS F_laws_toLinear F_laws_toPhasePoly F_impl_within F_impl_areTerms F_slices_IndexFunc_int_int F_slices_ContainsFunc_int_int F_impl_IsValidLinear_1 F_slices_Clone_int_int F_impl_rankOf_1 F_slices_Delete_int_int F_impl_rankOf F_impl_IsValidLinear F_impl_IsValidPhasePoly F_math_bits_OnesCount64 F_math_bits_OnesCount F_impl_bitsIn F_impl_coefficients_add F_impl_coefficients_terms F_impl_MonomialsOf F_laws_eqTerm F_laws_eqTermS F_laws_eqIntS F_laws_eqLinear F_laws_eqPhasePoly F_laws_markTermS F_laws_markIntS F_laws_markLinear F_laws_markPhasePoly F_laws_heldTermS F_laws_FnExactMonomialsOf
theorem c_laws_FnExactMonomialsOf (aP : TPhasePoly) (B : Option Addr) (c n : Nat) (B1 : Option Addr) (c1 n1 : Nat) (w0 : World) (hn : aP.Terms.length = n) (hn1 : aP.Out.Rows.length = n1) (hS : ST w0 [] w0 [] [⟨B, (aP.Terms.flatMap enc_Term)⟩, ⟨B1, (aP.Out.Rows.flatMap encI)⟩]) {r_ : Bool} (hF : F_laws_FnExactMonomialsOf aP = some r_) :
    CV Try.prog 4 #[.agg #[.int .i64 aP.Qubits, .int .i64 aP.Phase, .slice B n c, .slice B1 n1 c1]] w0 (fun v w' => v = .bool r_ ∧ ST w0 [] w' [] []) := by
  subst hn
  subst hn1
  unfold F_laws_FnExactMonomialsOf at hF
  refine cv_of_cw 96 Try.func4 rfl Try.ntmps4 rfl ?_
  refine cw_seq ?_
  refine cw_region ?_
  refine ss 1 rfl rfl (Ys_box (T := 38) (v := .agg #[.int .i64 aP.Qubits, .int .i64 aP.Phase, .slice B aP.Terms.length c, .slice B1 aP.Out.Rows.length c1]) (cs := [.int .i64 aP.Qubits, .int .i64 aP.Phase, .slice B aP.Terms.length c, .slice B1 aP.Out.Rows.length c1]) (m := 4) hS rfl rfl rfl rfl) ?_
  rintro _ w_ ⟨b, rfl, hS1⟩
  refine sq 2 rfl rfl (Y_assign (v := .bool false) rfl rfl) ?_
  refine rw_nil ?_
  refine cw_seq ?_
  refine cw_region ?_
  refine sq 3 rfl rfl (Y_assign (v := .int .i64 1048576) rfl rfl) ?_
  refine rw_nil ?_
  refine cw_seq ?_
  refine cw_region ?_
  refine sq 14 rfl rfl (Y_loadA (B := some ⟨b, 0, none⟩) (i := 0) (cs := [.int .i64 aP.Qubits, .int .i64 aP.Phase, .slice B aP.Terms.length c, .slice B1 aP.Out.Rows.length c1]) (vs := [.int .i64 aP.Qubits, .int .i64 aP.Phase, .slice B aP.Terms.length c, .slice B1 aP.Out.Rows.length c1]) k_ag_38 k_sz_38_4 rfl rfl (hS1.cf (i := 0) rfl) rfl rfl) ?_
  refine sq 15 rfl rfl (Y_move (v := .int .i64 1048576) rfl rfl) ?_
  obtain ⟨r_1, hc, hF⟩ := bind_inv hF
  refine sc 16 rfl rfl (Yc_func (g := 20) (vs := [.agg #[.int .i64 aP.Qubits, .int .i64 aP.Phase, .slice B aP.Terms.length c, .slice B1 aP.Out.Rows.length c1], .int .i64 1048576]) k_call_20 rfl (mc rfl (mc rfl mn)) (c_laws_szPhasePoly aP 1048576 B c aP.Terms.length B1 c1 aP.Out.Rows.length _ rfl rfl (hS1.inn0 [(true, 0), (true, 1)] rfl) hc)) ?_
  rintro _ w_1 ⟨rfl, hd⟩
  have hS2 := hS1.out00 hd
  refine sq 3 rfl rfl (Y_assign (v := .int .i64 r_1) rfl rfl) ?_
  refine rw_nil ?_
  refine cw_seq ?_
  refine cw_seq ?_
  refine cw_region ?_
  refine sq 17 rfl rfl (Y_move (v := .int .i64 r_1) rfl rfl) ?_
  refine sq 18 rfl rfl (Y_lt (k := .i64) (a := r_1) (b := 0) rfl rfl rfl) ?_
  refine rw_nil ?_
  refine cw_cond (b := (decide (r_1 < 0))) rfl (fun hb => ?_) (fun hb => ?_)
  · skip
    have hF1 := ct hF hb
    refine cw_seq ?_
    refine cw_region ?_
    refine sq 2 rfl rfl (Y_assign (v := .bool true) rfl rfl) ?_
    refine rw_nil ?_
    refine cw_ret ?_
    obtain rfl := some_inj hF1
    exact ret1 Try.results4 (v1 := .bool true) (resAt_tmp rfl) ⟨rfl, (ST.subR (R' := []) (hS2.sel [] rfl rfl) (fun _ h => by cases h))⟩
  · skip
    have hF2 := cf' hF hb
    refine cw_skip ?_
    refine cw_seq ?_
    refine cw_region ?_
    refine sq 20 rfl rfl (Y_loadA (B := some ⟨b, 0, none⟩) (i := 0) (cs := [.int .i64 aP.Qubits, .int .i64 aP.Phase, .slice B aP.Terms.length c, .slice B1 aP.Out.Rows.length c1]) (vs := [.int .i64 aP.Qubits, .int .i64 aP.Phase, .slice B aP.Terms.length c, .slice B1 aP.Out.Rows.length c1]) k_ag_38 k_sz_38_4 rfl rfl (hS2.cf (i := 0) rfl) rfl rfl) ?_
    obtain ⟨r_2, hc1, hF2⟩ := bind_inv hF2
    refine sc 21 rfl rfl (Yc_func (g := 22) (vs := [.agg #[.int .i64 aP.Qubits, .int .i64 aP.Phase, .slice B aP.Terms.length c, .slice B1 aP.Out.Rows.length c1]]) k_call_22 rfl (mc rfl mn) (c_laws_toPhasePoly aP B c aP.Terms.length B1 c1 aP.Out.Rows.length _ rfl rfl (hS2.inn0 [(true, 0), (true, 1)] rfl) hc1)) ?_
    rintro _ w_2 ⟨B2, c2, B3, c3, rfl, hd1⟩
    have hS3 := hS2.out0 hd1
    have hS3 : ST w0 [] _ [⟨some ⟨b, 0, none⟩, 38, [.int .i64 aP.Qubits, .int .i64 aP.Phase, .slice B aP.Terms.length c, .slice B1 aP.Out.Rows.length c1], 4⟩, ⟨B2, 112, (r_2.Terms.flatMap enc_Term), c2 * 2⟩, ⟨B3, 3, (r_2.Out.Rows.flatMap encI), c3 * 1⟩] [⟨B, (aP.Terms.flatMap enc_Term)⟩, ⟨B1, (aP.Out.Rows.flatMap encI)⟩] := hS3
    obtain ⟨⟨r_3, r_4⟩, hc2, hF2⟩ := bind_inv hF2
    refine sc 22 rfl rfl (Yc_func (g := 21) (vs := [.agg #[.int .i64 r_2.Qubits, .int .i64 r_2.Phase, .slice B2 r_2.Terms.length c2, .slice B3 r_2.Out.Rows.length c3]]) k_call_21 rfl (mc rfl mn) (c_spec_MonomialsOf r_2 B2 c2 r_2.Terms.length B3 c3 r_2.Out.Rows.length _ rfl rfl (hS3.inn0 [(false, 1), (false, 2)] rfl) hc2)) ?_
    rintro _ w_3 ⟨B4, c4, rfl, hd2⟩
    have hS4 := hS3.out0 hd2
    have hS4 : ST w0 [] _ [⟨some ⟨b, 0, none⟩, 38, [.int .i64 aP.Qubits, .int .i64 aP.Phase, .slice B aP.Terms.length c, .slice B1 aP.Out.Rows.length c1], 4⟩, ⟨B2, 112, (r_2.Terms.flatMap enc_Term), c2 * 2⟩, ⟨B3, 3, (r_2.Out.Rows.flatMap encI), c3 * 1⟩, ⟨B4, 112, (r_3.flatMap enc_Term), c4 * 2⟩] [⟨B, (aP.Terms.flatMap enc_Term)⟩, ⟨B1, (aP.Out.Rows.flatMap encI)⟩] := hS4
    refine sq 19 rfl rfl (Y_move (v := .tuple #[.slice B4 r_3.length c4, .bool r_4]) rfl rfl) ?_
    refine sq 23 rfl rfl (Y_extract (v := .slice B4 r_3.length c4) rfl rfl rfl) ?_
    refine sq 24 rfl rfl (Y_extract (v := .bool r_4) rfl rfl rfl) ?_
    refine sq 4 rfl rfl (Y_assign (v := .slice B4 r_3.length c4) rfl rfl) ?_
    refine sq 5 rfl rfl (Y_assign (v := .bool r_4) rfl rfl) ?_
    refine rw_nil ?_
    refine cw_seq ?_
    refine cw_region ?_
    refine sq 25 rfl rfl (Y_loadA (B := some ⟨b, 0, none⟩) (i := 0) (cs := [.int .i64 aP.Qubits, .int .i64 aP.Phase, .slice B aP.Terms.length c, .slice B1 aP.Out.Rows.length c1]) (vs := [.int .i64 aP.Qubits, .int .i64 aP.Phase, .slice B aP.Terms.length c, .slice B1 aP.Out.Rows.length c1]) k_ag_38 k_sz_38_4 rfl rfl (hS4.cf (i := 0) rfl) rfl rfl) ?_
    obtain ⟨r_5, hc3, hF2⟩ := bind_inv hF2
    refine sc 26 rfl rfl (Yc_func (g := 22) (vs := [.agg #[.int .i64 aP.Qubits, .int .i64 aP.Phase, .slice B aP.Terms.length c, .slice B1 aP.Out.Rows.length c1]]) k_call_22 rfl (mc rfl mn) (c_laws_toPhasePoly aP B c aP.Terms.length B1 c1 aP.Out.Rows.length _ rfl rfl (hS4.inn0 [(true, 0), (true, 1)] rfl) hc3)) ?_
    rintro _ w_4 ⟨B5, c5, B6, c6, rfl, hd3⟩
    have hS5 := hS4.out0 hd3
    have hS5 : ST w0 [] _ [⟨some ⟨b, 0, none⟩, 38, [.int .i64 aP.Qubits, .int .i64 aP.Phase, .slice B aP.Terms.length c, .slice B1 aP.Out.Rows.length c1], 4⟩, ⟨B2, 112, (r_2.Terms.flatMap enc_Term), c2 * 2⟩, ⟨B3, 3, (r_2.Out.Rows.flatMap encI), c3 * 1⟩, ⟨B4, 112, (r_3.flatMap enc_Term), c4 * 2⟩, ⟨B5, 112, (r_5.Terms.flatMap enc_Term), c5 * 2⟩, ⟨B6, 3, (r_5.Out.Rows.flatMap encI), c6 * 1⟩] [⟨B, (aP.Terms.flatMap enc_Term)⟩, ⟨B1, (aP.Out.Rows.flatMap encI)⟩] := hS5
    refine ss 6 rfl rfl (Ys_alloc (T := 45) (cs := [.int .i64 0, .int .i64 0, .slice none 0 0, .slice none 0 0]) (m := 4) hS5 k_zero_45 rfl rfl rfl) ?_
    rintro _ w_5 ⟨b1, rfl, hS6⟩
    have hS6 : ST w0 [] _ [⟨some ⟨b, 0, none⟩, 38, [.int .i64 aP.Qubits, .int .i64 aP.Phase, .slice B aP.Terms.length c, .slice B1 aP.Out.Rows.length c1], 4⟩, ⟨B2, 112, (r_2.Terms.flatMap enc_Term), c2 * 2⟩, ⟨B3, 3, (r_2.Out.Rows.flatMap encI), c3 * 1⟩, ⟨B4, 112, (r_3.flatMap enc_Term), c4 * 2⟩, ⟨B5, 112, (r_5.Terms.flatMap enc_Term), c5 * 2⟩, ⟨B6, 3, (r_5.Out.Rows.flatMap encI), c6 * 1⟩, ⟨some ⟨b1, 0, none⟩, 45, [.int .i64 0, .int .i64 0, .slice none 0 0, .slice none 0 0], 4⟩] [⟨B, (aP.Terms.flatMap enc_Term)⟩, ⟨B1, (aP.Out.Rows.flatMap encI)⟩] := hS6
    refine ss0 rfl rfl (Ys_store (i := 6) (s := 4) (B := some ⟨b1, 0, none⟩) (T' := 45) (v := .agg #[.int .i64 r_5.Qubits, .int .i64 r_5.Phase, .slice B5 r_5.Terms.length c5, .slice B6 r_5.Out.Rows.length c6]) (vs := [.int .i64 r_5.Qubits, .int .i64 r_5.Phase, .slice B5 r_5.Terms.length c5, .slice B6 r_5.Out.Rows.length c6]) (k := 0) (cs' := [.int .i64 r_5.Qubits, .int .i64 r_5.Phase, .slice B5 r_5.Terms.length c5, .slice B6 r_5.Out.Rows.length c6]) hS6 k_sz_45_4 rfl rfl rfl rfl rfl rfl rfl (Nat.le_of_ble_eq_true rfl) rfl rfl) ?_
    rintro _ w_6 ⟨rfl, hS7⟩
    have hS7 : ST w0 [] _ [⟨some ⟨b, 0, none⟩, 38, [.int .i64 aP.Qubits, .int .i64 aP.Phase, .slice B aP.Terms.length c, .slice B1 aP.Out.Rows.length c1], 4⟩, ⟨B2, 112, (r_2.Terms.flatMap enc_Term), c2 * 2⟩, ⟨B3, 3, (r_2.Out.Rows.flatMap encI), c3 * 1⟩, ⟨B4, 112, (r_3.flatMap enc_Term), c4 * 2⟩, ⟨B5, 112, (r_5.Terms.flatMap enc_Term), c5 * 2⟩, ⟨B6, 3, (r_5.Out.Rows.flatMap encI), c6 * 1⟩, ⟨some ⟨b1, 0, none⟩, 45, [.int .i64 r_5.Qubits, .int .i64 r_5.Phase, .slice B5 r_5.Terms.length c5, .slice B6 r_5.Out.Rows.length c6], 4⟩] [⟨B, (aP.Terms.flatMap enc_Term)⟩, ⟨B1, (aP.Out.Rows.flatMap encI)⟩] := hS7
    refine rw_nil ?_
    refine cw_seq ?_
    refine cw_region ?_
    refine sq 28 rfl rfl (Y_loadA (B := some ⟨b1, 0, none⟩) (i := 0) (cs := [.int .i64 r_5.Qubits, .int .i64 r_5.Phase, .slice B5 r_5.Terms.length c5, .slice B6 r_5.Out.Rows.length c6]) (vs := [.int .i64 r_5.Qubits, .int .i64 r_5.Phase, .slice B5 r_5.Terms.length c5, .slice B6 r_5.Out.Rows.length c6]) k_ag_45 k_sz_45_4 rfl rfl (hS7.cf (i := 6) rfl) rfl rfl) ?_
    obtain ⟨⟨r_6, r_7⟩, hc4, hF2⟩ := bind_inv hF2
    refine sc 29 rfl rfl (Yc_func (g := 23) (vs := [.agg #[.int .i64 r_5.Qubits, .int .i64 r_5.Phase, .slice B5 r_5.Terms.length c5, .slice B6 r_5.Out.Rows.length c6]]) k_call_23 rfl (mc rfl mn) (c_impl_MonomialsOf r_5 B5 c5 r_5.Terms.length B6 c6 r_5.Out.Rows.length _ rfl rfl (hS7.inn0 [(false, 4), (false, 5)] rfl) hc4)) ?_
    rintro _ w_7 ⟨B7, c7, rfl, hd4⟩
    have hS8 := hS7.out0 hd4
    have hS8 : ST w0 [] _ [⟨some ⟨b, 0, none⟩, 38, [.int .i64 aP.Qubits, .int .i64 aP.Phase, .slice B aP.Terms.length c, .slice B1 aP.Out.Rows.length c1], 4⟩, ⟨B2, 112, (r_2.Terms.flatMap enc_Term), c2 * 2⟩, ⟨B3, 3, (r_2.Out.Rows.flatMap encI), c3 * 1⟩, ⟨B4, 112, (r_3.flatMap enc_Term), c4 * 2⟩, ⟨B5, 112, (r_5.Terms.flatMap enc_Term), c5 * 2⟩, ⟨B6, 3, (r_5.Out.Rows.flatMap encI), c6 * 1⟩, ⟨some ⟨b1, 0, none⟩, 45, [.int .i64 r_5.Qubits, .int .i64 r_5.Phase, .slice B5 r_5.Terms.length c5, .slice B6 r_5.Out.Rows.length c6], 4⟩, ⟨B7, 112, (r_6.flatMap enc_Term), c7 * 2⟩] [⟨B, (aP.Terms.flatMap enc_Term)⟩, ⟨B1, (aP.Out.Rows.flatMap encI)⟩] := hS8
    refine sq 27 rfl rfl (Y_move (v := .tuple #[.slice B7 r_6.length c7, .bool r_7]) rfl rfl) ?_
    refine sq 30 rfl rfl (Y_extract (v := .slice B7 r_6.length c7) rfl rfl rfl) ?_
    refine sq 31 rfl rfl (Y_extract (v := .bool r_7) rfl rfl rfl) ?_
    refine sq 7 rfl rfl (Y_assign (v := .slice B7 r_6.length c7) rfl rfl) ?_
    refine sq 8 rfl rfl (Y_assign (v := .bool r_7) rfl rfl) ?_
    refine rw_nil ?_
    refine cw_seq ?_
    refine cw_seq ?_
    refine cw_region ?_
    refine sq 32 rfl rfl (Y_move (v := .slice B7 r_6.length c7) rfl rfl) ?_
    refine sq 33 rfl rfl (Y_move (v := .slice B4 r_3.length c4) rfl rfl) ?_
    obtain ⟨r_8, hc5, hF2⟩ := bind_inv hF2
    refine sc 34 rfl rfl (Yc_func (g := 24) (vs := [.slice B7 r_6.length c7, .slice B4 r_3.length c4]) k_call_24 rfl (mc rfl (mc rfl mn)) (c_laws_eqTermS r_6 r_3 B7 c7 r_6.length B4 c4 r_3.length _ rfl rfl (hS8.inn0 [(false, 7), (false, 3)] rfl) hc5)) ?_
    rintro _ w_8 ⟨rfl, hd5⟩
    have hS9 := hS8.out00 hd5
    have hS9 : ST w0 [] _ [⟨some ⟨b, 0, none⟩, 38, [.int .i64 aP.Qubits, .int .i64 aP.Phase, .slice B aP.Terms.length c, .slice B1 aP.Out.Rows.length c1], 4⟩, ⟨B2, 112, (r_2.Terms.flatMap enc_Term), c2 * 2⟩, ⟨B3, 3, (r_2.Out.Rows.flatMap encI), c3 * 1⟩, ⟨B4, 112, (r_3.flatMap enc_Term), c4 * 2⟩, ⟨B5, 112, (r_5.Terms.flatMap enc_Term), c5 * 2⟩, ⟨B6, 3, (r_5.Out.Rows.flatMap encI), c6 * 1⟩, ⟨some ⟨b1, 0, none⟩, 45, [.int .i64 r_5.Qubits, .int .i64 r_5.Phase, .slice B5 r_5.Terms.length c5, .slice B6 r_5.Out.Rows.length c6], 4⟩, ⟨B7, 112, (r_6.flatMap enc_Term), c7 * 2⟩] [⟨B, (aP.Terms.flatMap enc_Term)⟩, ⟨B1, (aP.Out.Rows.flatMap encI)⟩] := hS9
    refine sq 35 rfl rfl (Y_not (p := r_8) rfl rfl) ?_
    refine sq 36 rfl rfl (Y_move (v := .bool (!r_8)) rfl rfl) ?_
    refine sgq 37 (B := (!(!r_8))) (v := .bool r_7) rfl rfl (wt_f (gd_of (t := 36) (by kernel_rfl) rfl)) (fun hg => (Y_move (v := .bool r_7) rfl rfl)) ?_
    refine sgq 38 (B := (!(!r_8))) (v := .bool r_4) rfl rfl (wt_f (gd_of (t := 36) (by kernel_rfl) rfl)) (fun hg1 => (Y_move (v := .bool r_4) rfl rfl)) ?_
    refine sgq 39 (B := (!(!r_8))) (v := .bool (!(r_7 == r_4))) rfl rfl (wt_f (gd_of (t := 36) (by kernel_rfl) rfl)) (fun hg2 => (Y_bne (p := r_7) (q := r_4) k_und_4 rfl (gv_of (B := (!(!r_8))) (v := .bool r_7) hg2) (gv_of (B := (!(!r_8))) (v := .bool r_4) hg2))) ?_
    refine sq 40 rfl rfl (Y_or (b := (!r_8)) (z := (!(r_7 == r_4))) rfl rfl rfl rfl) ?_
    refine rw_nil ?_
    refine cw_cond (b := ((!r_8) || (!(r_7 == r_4)))) rfl (fun hb1 => ?_) (fun hb1 => ?_)
    · skip
      have hF3 := ct hF2 hb1
      refine cw_seq ?_
      refine cw_region ?_
      refine sq 2 rfl rfl (Y_assign (v := .bool false) rfl rfl) ?_
      refine rw_nil ?_
      refine cw_ret ?_
      obtain rfl := some_inj hF3
      exact ret1 Try.results4 (v1 := .bool false) (resAt_tmp rfl) ⟨rfl, (ST.subR (R' := []) (hS9.sel [] rfl rfl) (fun _ h => by cases h))⟩
    · skip
      have hF4 := cf' hF2 hb1
      refine cw_skip ?_
      refine cw_seq ?_
      refine cw_seq ?_
      obtain ⟨r_9, hc6, hF4⟩ := bind_inv hF4
      obtain ⟨r_10, hc7, hF4⟩ := bind_inv hF4
      refine ra_start (ST.sel hS9 [0, 1, 2, 3, 4, 5, 6, 7] rfl rfl).fn (by kernel_rfl) ?_
      have hS12 := hS9.drew
      refine ra_q 0 41 (v := .agg #[.int .i64 r_5.Qubits, .int .i64 r_5.Phase, .slice B5 r_5.Terms.length c5, .slice B6 r_5.Out.Rows.length c6]) rfl rfl rfl (by kernel_rfl) (by kernel_rfl) (by kernel_rfl) (ST.sel hS12 [0, 1, 2, 3, 4, 5, 6, 7] rfl rfl) (fun w' hw' => (Y_loadA (B := some ⟨b1, 0, none⟩) (i := 0) (cs := [.int .i64 r_5.Qubits, .int .i64 r_5.Phase, .slice B5 r_5.Terms.length c5, .slice B6 r_5.Out.Rows.length c6]) (vs := [.int .i64 r_5.Qubits, .int .i64 r_5.Phase, .slice B5 r_5.Terms.length c5, .slice B6 r_5.Out.Rows.length c6]) k_ag_45 k_sz_45_4 rfl rfl (ST.cf hw' (i := 6) rfl) rfl rfl)) ?_
      refine ra_q 1 42 (v := .agg #[.int .i64 aP.Qubits, .int .i64 aP.Phase, .slice B aP.Terms.length c, .slice B1 aP.Out.Rows.length c1]) rfl rfl rfl (by kernel_rfl) (by kernel_rfl) (by kernel_rfl) (ST.sel hS12 [0, 1, 2, 3, 4, 5, 6, 7] rfl rfl) (fun w' hw' => (Y_loadA (B := some ⟨b, 0, none⟩) (i := 0) (cs := [.int .i64 aP.Qubits, .int .i64 aP.Phase, .slice B aP.Terms.length c, .slice B1 aP.Out.Rows.length c1]) (vs := [.int .i64 aP.Qubits, .int .i64 aP.Phase, .slice B aP.Terms.length c, .slice B1 aP.Out.Rows.length c1]) k_ag_38 k_sz_38_4 rfl rfl (ST.cf hw' (i := 0) rfl) rfl rfl)) ?_
      refine ra_all (rs := [2]) (by kernel_rfl) rfl ?_
      refine ra_c 43 (i := 2) rfl rfl rfl (Yc_func (g := 22) (vs := [.agg #[.int .i64 aP.Qubits, .int .i64 aP.Phase, .slice B aP.Terms.length c, .slice B1 aP.Out.Rows.length c1]]) k_call_22 rfl (mc rfl mn) (c_laws_toPhasePoly aP B c aP.Terms.length B1 c1 aP.Out.Rows.length _ rfl rfl (hS12.inn0 [(true, 0), (true, 1)] rfl) hc6)) ?_ ?_
      · rintro _ w_9 ⟨B8, c8, B9, c9, rfl, hd6⟩
        have hS13 := hS12.out0 hd6
        have hS13 : ST w0 [] _ [⟨some ⟨b, 0, none⟩, 38, [.int .i64 aP.Qubits, .int .i64 aP.Phase, .slice B aP.Terms.length c, .slice B1 aP.Out.Rows.length c1], 4⟩, ⟨B2, 112, (r_2.Terms.flatMap enc_Term), c2 * 2⟩, ⟨B3, 3, (r_2.Out.Rows.flatMap encI), c3 * 1⟩, ⟨B4, 112, (r_3.flatMap enc_Term), c4 * 2⟩, ⟨B5, 112, (r_5.Terms.flatMap enc_Term), c5 * 2⟩, ⟨B6, 3, (r_5.Out.Rows.flatMap encI), c6 * 1⟩, ⟨some ⟨b1, 0, none⟩, 45, [.int .i64 r_5.Qubits, .int .i64 r_5.Phase, .slice B5 r_5.Terms.length c5, .slice B6 r_5.Out.Rows.length c6], 4⟩, ⟨B7, 112, (r_6.flatMap enc_Term), c7 * 2⟩, ⟨B8, 112, (r_9.Terms.flatMap enc_Term), c8 * 2⟩, ⟨B9, 3, (r_9.Out.Rows.flatMap encI), c9 * 1⟩] [⟨B, (aP.Terms.flatMap enc_Term)⟩, ⟨B1, (aP.Out.Rows.flatMap encI)⟩] := hS13
        refine ⟨(ST.sel hS13 [0, 1, 2, 3, 4, 5, 6, 7] rfl rfl), ?_⟩
        refine ra_all (rs := [3]) (by kernel_rfl) rfl ?_
        refine ra_c 44 (i := 3) rfl rfl rfl (Yc_func (g := 25) (vs := [.agg #[.int .i64 r_5.Qubits, .int .i64 r_5.Phase, .slice B5 r_5.Terms.length c5, .slice B6 r_5.Out.Rows.length c6], .agg #[.int .i64 r_9.Qubits, .int .i64 r_9.Phase, .slice B8 r_9.Terms.length c8, .slice B9 r_9.Out.Rows.length c9]]) k_call_25 rfl (mc rfl (mc rfl mn)) (c_laws_eqPhasePoly r_5 r_9 B5 c5 r_5.Terms.length B6 c6 r_5.Out.Rows.length B8 c8 r_9.Terms.length B9 c9 r_9.Out.Rows.length _ rfl rfl rfl rfl (hS13.inn0 [(false, 4), (false, 5), (false, 8), (false, 9)] rfl) hc7)) ?_ ?_
        · rintro _ w_10 ⟨rfl, hd7⟩
          have hS14 := hS13.out00 hd7
          have hS14 : ST w0 [] _ [⟨some ⟨b, 0, none⟩, 38, [.int .i64 aP.Qubits, .int .i64 aP.Phase, .slice B aP.Terms.length c, .slice B1 aP.Out.Rows.length c1], 4⟩, ⟨B2, 112, (r_2.Terms.flatMap enc_Term), c2 * 2⟩, ⟨B3, 3, (r_2.Out.Rows.flatMap encI), c3 * 1⟩, ⟨B4, 112, (r_3.flatMap enc_Term), c4 * 2⟩, ⟨B5, 112, (r_5.Terms.flatMap enc_Term), c5 * 2⟩, ⟨B6, 3, (r_5.Out.Rows.flatMap encI), c6 * 1⟩, ⟨some ⟨b1, 0, none⟩, 45, [.int .i64 r_5.Qubits, .int .i64 r_5.Phase, .slice B5 r_5.Terms.length c5, .slice B6 r_5.Out.Rows.length c6], 4⟩, ⟨B7, 112, (r_6.flatMap enc_Term), c7 * 2⟩, ⟨B8, 112, (r_9.Terms.flatMap enc_Term), c8 * 2⟩, ⟨B9, 3, (r_9.Out.Rows.flatMap encI), c9 * 1⟩] [⟨B, (aP.Terms.flatMap enc_Term)⟩, ⟨B1, (aP.Out.Rows.flatMap encI)⟩] := hS14
          refine ⟨(ST.sel hS14 [0, 1, 2, 3, 4, 5, 6, 7] rfl rfl), ?_⟩
          refine ra_q 4 45 (v := .bool (!r_10)) rfl rfl rfl (by kernel_rfl) (by kernel_rfl) (by kernel_rfl) (ST.sel hS14 [0, 1, 2, 3, 4, 5, 6, 7] rfl rfl) (fun w' hw' => (Y_not (p := r_10) rfl rfl)) ?_
          refine ra_done (by kernel_rfl) ?_
          refine cw_cond (b := (!r_10)) rfl (fun hb2 => ?_) (fun hb2 => ?_)
          · skip
            have hF5 := ct hF4 hb2
            refine cw_seq ?_
            refine cw_region ?_
            refine sq 2 rfl rfl (Y_assign (v := .bool false) rfl rfl) ?_
            refine rw_nil ?_
            refine cw_ret ?_
            obtain rfl := some_inj hF5
            exact ret1 Try.results4 (v1 := .bool false) (resAt_tmp rfl) ⟨rfl, (ST.subR (R' := []) (hS14.sel [] rfl rfl) (fun _ h => by cases h))⟩
          · skip
            have hF6 := cf' hF4 hb2
            refine cw_skip ?_
            refine cw_seq ?_
            refine cw_region ?_
            refine sq 9 rfl rfl (Y_assign (v := .int .i64 1) rfl rfl) ?_
            refine rw_nil ?_
            refine cw_seq ?_
            refine cw_region ?_
            refine sq 46 rfl rfl (Y_loadA (B := some ⟨b1, 0, none⟩) (i := 0) (cs := [.int .i64 r_5.Qubits, .int .i64 r_5.Phase, .slice B5 r_5.Terms.length c5, .slice B6 r_5.Out.Rows.length c6]) (vs := [.int .i64 r_5.Qubits, .int .i64 r_5.Phase, .slice B5 r_5.Terms.length c5, .slice B6 r_5.Out.Rows.length c6]) k_ag_45 k_sz_45_4 rfl rfl (hS14.cf (i := 6) rfl) rfl rfl) ?_
            refine sq 47 rfl rfl (Y_move (v := .int .i64 1) rfl rfl) ?_
            obtain ⟨⟨r_11, m, m1⟩, hc8, hF6⟩ := bind_inv hF6
            refine sc 48 rfl rfl (Yc_func (g := 26) (vs := [.agg #[.int .i64 r_5.Qubits, .int .i64 r_5.Phase, .slice B5 r_5.Terms.length c5, .slice B6 r_5.Out.Rows.length c6], .int .i64 1]) k_call_26 rfl (mc rfl (mc rfl mn)) (c_laws_markPhasePoly r_5 1 B5 c5 r_5.Terms.length B6 c6 r_5.Out.Rows.length _ rfl rfl (hS14.inn [false, false, false, false, true, true, false, false, false, false] rfl [] rfl) hc8)) ?_
            rintro _ w_11 ⟨rfl, hl, hl1, hd8⟩
            have hS15 := hS14.out [false, false, false, false, true, true, false, false, false, false] rfl hd8
            have hS15 : ST w0 [] _ [⟨some ⟨b, 0, none⟩, 38, [.int .i64 aP.Qubits, .int .i64 aP.Phase, .slice B aP.Terms.length c, .slice B1 aP.Out.Rows.length c1], 4⟩, ⟨B2, 112, (r_2.Terms.flatMap enc_Term), c2 * 2⟩, ⟨B3, 3, (r_2.Out.Rows.flatMap encI), c3 * 1⟩, ⟨B4, 112, (r_3.flatMap enc_Term), c4 * 2⟩, ⟨some ⟨b1, 0, none⟩, 45, [.int .i64 r_5.Qubits, .int .i64 r_5.Phase, .slice B5 r_5.Terms.length c5, .slice B6 r_5.Out.Rows.length c6], 4⟩, ⟨B7, 112, (r_6.flatMap enc_Term), c7 * 2⟩, ⟨B8, 112, (r_9.Terms.flatMap enc_Term), c8 * 2⟩, ⟨B9, 3, (r_9.Out.Rows.flatMap encI), c9 * 1⟩, ⟨B5, 112, (m.flatMap enc_Term), c5 * 2⟩, ⟨B6, 3, (m1.flatMap encI), c6 * 1⟩] [⟨B, (aP.Terms.flatMap enc_Term)⟩, ⟨B1, (aP.Out.Rows.flatMap encI)⟩] := hS15
            refine sq 9 rfl rfl (Y_assign (v := .int .i64 r_11) rfl rfl) ?_
            refine rw_nil ?_
            refine cw_seq ?_
            refine cw_seq ?_
            refine cw_region ?_
            refine sq 49 rfl rfl (Y_move (v := .int .i64 r_11) rfl rfl) ?_
            refine sq 50 rfl rfl (Y_lt (k := .i64) (a := r_11) (b := 0) rfl rfl rfl) ?_
            refine sq 51 rfl rfl (Y_move (v := .bool (decide (r_11 < 0))) rfl rfl) ?_
            refine sgq 52 (B := (!(decide (r_11 < 0)))) (v := .slice B7 r_6.length c7) rfl rfl (wt_f (gd_of (t := 51) (by kernel_rfl) rfl)) (fun hg3 => (Y_move (v := .slice B7 r_6.length c7) rfl rfl)) ?_
            refine sgq 53 (B := (!(decide (r_11 < 0)))) (v := .slice B4 r_3.length c4) rfl rfl (wt_f (gd_of (t := 51) (by kernel_rfl) rfl)) (fun hg4 => (Y_move (v := .slice B4 r_3.length c4) rfl rfl)) ?_
            obtain ⟨r_12, hc9, hF6⟩ := bind_inv hF6
            refine sgc 54 (B := (!(decide (r_11 < 0)))) (v := .bool r_12) (F := hS15.fn) rfl rfl (wt_f (gd_of (t := 51) (by kernel_rfl) rfl)) hS15 (fun hg5 => (Yc_func (g := 24) (vs := [.slice B7 r_6.length c7, .slice B4 r_3.length c4]) k_call_24 rfl (mc (gv_of (B := (!(decide (r_11 < 0)))) (v := .slice B7 r_6.length c7) hg5) (mc (gv_of (B := (!(decide (r_11 < 0)))) (v := .slice B4 r_3.length c4) hg5) mn)) (CV.mono (c_laws_eqTermS r_6 r_3 B7 c7 r_6.length B4 c4 r_3.length _ rfl rfl (hS15.inn0 [(false, 5), (false, 3)] rfl) (gb_inv hc9 hg5)) (by rintro _ _ ⟨rfl, h⟩; exact ⟨rfl, hS15.out00 h⟩)))) ?_
            rintro w_12 hS16
            have hS16 : ST _ _ w_12 _ _ := hS16
            refine sgq 55 (B := (!(decide (r_11 < 0)))) (v := .bool (!r_12)) rfl rfl (wt_f (gd_of (t := 51) (by kernel_rfl) rfl)) (fun hg6 => (Y_not (p := r_12) rfl (gv_of (B := (!(decide (r_11 < 0)))) (v := .bool r_12) hg6))) ?_
            refine sq 56 rfl rfl (Y_or (b := (decide (r_11 < 0))) (z := (!r_12)) rfl rfl rfl rfl) ?_
            refine sq 57 rfl rfl (Y_move (v := .bool ((decide (r_11 < 0)) || (!r_12))) rfl rfl) ?_
            refine sgq 58 (B := (!((decide (r_11 < 0)) || (!r_12)))) (v := .bool r_7) rfl rfl (wt_f (gd_of (t := 57) (by kernel_rfl) rfl)) (fun hg7 => (Y_move (v := .bool r_7) rfl rfl)) ?_
            refine sgq 59 (B := (!((decide (r_11 < 0)) || (!r_12)))) (v := .bool r_4) rfl rfl (wt_f (gd_of (t := 57) (by kernel_rfl) rfl)) (fun hg8 => (Y_move (v := .bool r_4) rfl rfl)) ?_
            refine sgq 60 (B := (!((decide (r_11 < 0)) || (!r_12)))) (v := .bool (!(r_7 == r_4))) rfl rfl (wt_f (gd_of (t := 57) (by kernel_rfl) rfl)) (fun hg9 => (Y_bne (p := r_7) (q := r_4) k_und_4 rfl (gv_of (B := (!((decide (r_11 < 0)) || (!r_12)))) (v := .bool r_7) hg9) (gv_of (B := (!((decide (r_11 < 0)) || (!r_12)))) (v := .bool r_4) hg9))) ?_
            refine sq 61 rfl rfl (Y_or (b := ((decide (r_11 < 0)) || (!r_12))) (z := (!(r_7 == r_4))) rfl rfl rfl rfl) ?_
            refine rw_nil ?_
            refine cw_cond (b := (((decide (r_11 < 0)) || (!r_12)) || (!(r_7 == r_4)))) rfl (fun hb3 => ?_) (fun hb3 => ?_)
            · skip
              have hF7 := ct hF6 hb3
              refine cw_seq ?_
              refine cw_region ?_
              refine sq 2 rfl rfl (Y_assign (v := .bool false) rfl rfl) ?_
              refine rw_nil ?_
              refine cw_ret ?_
              obtain rfl := some_inj hF7
              exact ret1 Try.results4 (v1 := .bool false) (resAt_tmp rfl) ⟨rfl, (ST.subR (R' := []) (hS16.sel [] rfl rfl) (fun _ h => by cases h))⟩
            · skip
              have hF8 := cf' hF6 hb3
              refine cw_skip ?_
              refine cw_seq ?_
              refine cw_region ?_
              refine sq 10 rfl rfl (Y_assign (v := .int .i64 1) rfl rfl) ?_
              refine rw_nil ?_
              refine cw_seq ?_
              refine cw_region ?_
              refine sq 62 rfl rfl (Y_move (v := .slice B7 r_6.length c7) rfl rfl) ?_
              refine sq 63 rfl rfl (Y_move (v := .int .i64 1) rfl rfl) ?_
              obtain ⟨⟨r_13, m2⟩, hc10, hF8⟩ := bind_inv hF8
              refine sc 64 rfl rfl (Yc_func (g := 27) (vs := [.slice B7 r_6.length c7, .int .i64 1]) k_call_27 rfl (mc rfl (mc rfl mn)) (c_laws_markTermS r_6 1 B7 c7 r_6.length _ rfl (hS16.inn [false, false, false, false, false, true, false, false, false, false] rfl [] rfl) hc10)) ?_
              rintro _ w_13 ⟨rfl, hl2, hd9⟩
              have hS17 := hS16.out [false, false, false, false, false, true, false, false, false, false] rfl hd9
              have hS17 : ST w0 [] _ [⟨some ⟨b, 0, none⟩, 38, [.int .i64 aP.Qubits, .int .i64 aP.Phase, .slice B aP.Terms.length c, .slice B1 aP.Out.Rows.length c1], 4⟩, ⟨B2, 112, (r_2.Terms.flatMap enc_Term), c2 * 2⟩, ⟨B3, 3, (r_2.Out.Rows.flatMap encI), c3 * 1⟩, ⟨B4, 112, (r_3.flatMap enc_Term), c4 * 2⟩, ⟨some ⟨b1, 0, none⟩, 45, [.int .i64 r_5.Qubits, .int .i64 r_5.Phase, .slice B5 r_5.Terms.length c5, .slice B6 r_5.Out.Rows.length c6], 4⟩, ⟨B8, 112, (r_9.Terms.flatMap enc_Term), c8 * 2⟩, ⟨B9, 3, (r_9.Out.Rows.flatMap encI), c9 * 1⟩, ⟨B5, 112, (m.flatMap enc_Term), c5 * 2⟩, ⟨B6, 3, (m1.flatMap encI), c6 * 1⟩, ⟨B7, 112, (m2.flatMap enc_Term), c7 * 2⟩] [⟨B, (aP.Terms.flatMap enc_Term)⟩, ⟨B1, (aP.Out.Rows.flatMap encI)⟩] := hS17
              refine sq 10 rfl rfl (Y_assign (v := .int .i64 r_13) rfl rfl) ?_
              refine rw_nil ?_
              refine cw_seq ?_
              refine cw_region ?_
              refine sq 11 rfl rfl (Y_assign (v := .int .i64 1) rfl rfl) ?_
              refine rw_nil ?_
              refine cw_seq ?_
              refine cw_region ?_
              refine sq 65 rfl rfl (Y_move (v := .slice B7 r_6.length c7) rfl rfl) ?_
              refine sq 66 rfl rfl (Y_move (v := .int .i64 1) rfl rfl) ?_
              obtain ⟨r_14, hc11, hF8⟩ := bind_inv hF8
              refine sc 67 rfl rfl (Yc_func (g := 28) (vs := [.slice B7 r_6.length c7, .int .i64 1]) k_call_28 rfl (mc rfl (mc rfl mn)) (c_laws_heldTermS m2 1 B7 c7 r_6.length _ hl2 (hS17.inn0 [(false, 9)] rfl) hc11)) ?_
              rintro _ w_14 ⟨rfl, hd10⟩
              have hS18 := hS17.out00 hd10
              have hS18 : ST w0 [] _ [⟨some ⟨b, 0, none⟩, 38, [.int .i64 aP.Qubits, .int .i64 aP.Phase, .slice B aP.Terms.length c, .slice B1 aP.Out.Rows.length c1], 4⟩, ⟨B2, 112, (r_2.Terms.flatMap enc_Term), c2 * 2⟩, ⟨B3, 3, (r_2.Out.Rows.flatMap encI), c3 * 1⟩, ⟨B4, 112, (r_3.flatMap enc_Term), c4 * 2⟩, ⟨some ⟨b1, 0, none⟩, 45, [.int .i64 r_5.Qubits, .int .i64 r_5.Phase, .slice B5 r_5.Terms.length c5, .slice B6 r_5.Out.Rows.length c6], 4⟩, ⟨B8, 112, (r_9.Terms.flatMap enc_Term), c8 * 2⟩, ⟨B9, 3, (r_9.Out.Rows.flatMap encI), c9 * 1⟩, ⟨B5, 112, (m.flatMap enc_Term), c5 * 2⟩, ⟨B6, 3, (m1.flatMap encI), c6 * 1⟩, ⟨B7, 112, (m2.flatMap enc_Term), c7 * 2⟩] [⟨B, (aP.Terms.flatMap enc_Term)⟩, ⟨B1, (aP.Out.Rows.flatMap encI)⟩] := hS18
              refine sq 11 rfl rfl (Y_assign (v := .int .i64 r_14) rfl rfl) ?_
              refine rw_nil ?_
              refine cw_seq ?_
              refine cw_seq ?_
              refine cw_region ?_
              refine sq 68 rfl rfl (Y_move (v := .int .i64 r_14) rfl rfl) ?_
              refine sq 69 rfl rfl (Y_lt (k := .i64) (a := r_14) (b := 0) rfl rfl rfl) ?_
              refine rw_nil ?_
              refine cw_cond (b := (decide (r_14 < 0))) rfl (fun hb4 => ?_) (fun hb4 => ?_)
              · skip
                have hF9 := ct hF8 hb4
                refine cw_seq ?_
                refine cw_region ?_
                refine sq 2 rfl rfl (Y_assign (v := .bool false) rfl rfl) ?_
                refine rw_nil ?_
                refine cw_ret ?_
                obtain rfl := some_inj hF9
                exact ret1 Try.results4 (v1 := .bool false) (resAt_tmp rfl) ⟨rfl, (ST.subR (R' := []) (hS18.sel [] rfl rfl) (fun _ h => by cases h))⟩
              · skip
                have hF10 := cf' hF8 hb4
                refine cw_skip ?_
                refine cw_seq ?_
                refine cw_seq ?_
                refine cw_region ?_
                refine sq 70 rfl rfl (Y_move (v := .int .i64 r_14) rfl rfl) ?_
                refine sq 71 rfl rfl (Y_move (v := .int .i64 r_13) rfl rfl) ?_
                refine sq 72 rfl rfl (Y_ne (k := .i64) (a := r_14) (b := r_13) rfl rfl rfl) ?_
                refine rw_nil ?_
                refine cw_cond (b := (r_14 != r_13)) rfl (fun hb5 => ?_) (fun hb5 => ?_)
                · skip
                  have hF11 := ct hF10 hb5
                  refine cw_seq ?_
                  refine cw_region ?_
                  refine sq 2 rfl rfl (Y_assign (v := .bool false) rfl rfl) ?_
                  refine rw_nil ?_
                  refine cw_ret ?_
                  obtain rfl := some_inj hF11
                  exact ret1 Try.results4 (v1 := .bool false) (resAt_tmp rfl) ⟨rfl, (ST.subR (R' := []) (hS18.sel [] rfl rfl) (fun _ h => by cases h))⟩
                · skip
                  have hF12 := cf' hF10 hb5
                  refine cw_skip ?_
                  refine cw_seq ?_
                  refine cw_region ?_
                  refine sq 74 rfl rfl (Y_loadA (B := some ⟨b, 0, none⟩) (i := 0) (cs := [.int .i64 aP.Qubits, .int .i64 aP.Phase, .slice B aP.Terms.length c, .slice B1 aP.Out.Rows.length c1]) (vs := [.int .i64 aP.Qubits, .int .i64 aP.Phase, .slice B aP.Terms.length c, .slice B1 aP.Out.Rows.length c1]) k_ag_38 k_sz_38_4 rfl rfl (hS18.cf (i := 0) rfl) rfl rfl) ?_
                  obtain ⟨r_15, hc12, hF12⟩ := bind_inv hF12
                  refine sc 75 rfl rfl (Yc_func (g := 22) (vs := [.agg #[.int .i64 aP.Qubits, .int .i64 aP.Phase, .slice B aP.Terms.length c, .slice B1 aP.Out.Rows.length c1]]) k_call_22 rfl (mc rfl mn) (c_laws_toPhasePoly aP B c aP.Terms.length B1 c1 aP.Out.Rows.length _ rfl rfl (hS18.inn0 [(true, 0), (true, 1)] rfl) hc12)) ?_
                  rintro _ w_15 ⟨B10, c10, B11, c11, rfl, hd11⟩
                  have hS19 := hS18.out0 hd11
                  have hS19 : ST w0 [] _ [⟨some ⟨b, 0, none⟩, 38, [.int .i64 aP.Qubits, .int .i64 aP.Phase, .slice B aP.Terms.length c, .slice B1 aP.Out.Rows.length c1], 4⟩, ⟨B2, 112, (r_2.Terms.flatMap enc_Term), c2 * 2⟩, ⟨B3, 3, (r_2.Out.Rows.flatMap encI), c3 * 1⟩, ⟨B4, 112, (r_3.flatMap enc_Term), c4 * 2⟩, ⟨some ⟨b1, 0, none⟩, 45, [.int .i64 r_5.Qubits, .int .i64 r_5.Phase, .slice B5 r_5.Terms.length c5, .slice B6 r_5.Out.Rows.length c6], 4⟩, ⟨B8, 112, (r_9.Terms.flatMap enc_Term), c8 * 2⟩, ⟨B9, 3, (r_9.Out.Rows.flatMap encI), c9 * 1⟩, ⟨B5, 112, (m.flatMap enc_Term), c5 * 2⟩, ⟨B6, 3, (m1.flatMap encI), c6 * 1⟩, ⟨B7, 112, (m2.flatMap enc_Term), c7 * 2⟩, ⟨B10, 112, (r_15.Terms.flatMap enc_Term), c10 * 2⟩, ⟨B11, 3, (r_15.Out.Rows.flatMap encI), c11 * 1⟩] [⟨B, (aP.Terms.flatMap enc_Term)⟩, ⟨B1, (aP.Out.Rows.flatMap encI)⟩] := hS19
                  obtain ⟨⟨r_16, r_17⟩, hc13, hF12⟩ := bind_inv hF12
                  refine sc 76 rfl rfl (Yc_func (g := 23) (vs := [.agg #[.int .i64 r_15.Qubits, .int .i64 r_15.Phase, .slice B10 r_15.Terms.length c10, .slice B11 r_15.Out.Rows.length c11]]) k_call_23 rfl (mc rfl mn) (c_impl_MonomialsOf r_15 B10 c10 r_15.Terms.length B11 c11 r_15.Out.Rows.length _ rfl rfl (hS19.inn0 [(false, 10), (false, 11)] rfl) hc13)) ?_
                  rintro _ w_16 ⟨B12, c12, rfl, hd12⟩
                  have hS20 := hS19.out0 hd12
                  have hS20 : ST w0 [] _ [⟨some ⟨b, 0, none⟩, 38, [.int .i64 aP.Qubits, .int .i64 aP.Phase, .slice B aP.Terms.length c, .slice B1 aP.Out.Rows.length c1], 4⟩, ⟨B2, 112, (r_2.Terms.flatMap enc_Term), c2 * 2⟩, ⟨B3, 3, (r_2.Out.Rows.flatMap encI), c3 * 1⟩, ⟨B4, 112, (r_3.flatMap enc_Term), c4 * 2⟩, ⟨some ⟨b1, 0, none⟩, 45, [.int .i64 r_5.Qubits, .int .i64 r_5.Phase, .slice B5 r_5.Terms.length c5, .slice B6 r_5.Out.Rows.length c6], 4⟩, ⟨B8, 112, (r_9.Terms.flatMap enc_Term), c8 * 2⟩, ⟨B9, 3, (r_9.Out.Rows.flatMap encI), c9 * 1⟩, ⟨B5, 112, (m.flatMap enc_Term), c5 * 2⟩, ⟨B6, 3, (m1.flatMap encI), c6 * 1⟩, ⟨B7, 112, (m2.flatMap enc_Term), c7 * 2⟩, ⟨B10, 112, (r_15.Terms.flatMap enc_Term), c10 * 2⟩, ⟨B11, 3, (r_15.Out.Rows.flatMap encI), c11 * 1⟩, ⟨B12, 112, (r_16.flatMap enc_Term), c12 * 2⟩] [⟨B, (aP.Terms.flatMap enc_Term)⟩, ⟨B1, (aP.Out.Rows.flatMap encI)⟩] := hS20
                  refine sq 73 rfl rfl (Y_move (v := .tuple #[.slice B12 r_16.length c12, .bool r_17]) rfl rfl) ?_
                  refine sq 77 rfl rfl (Y_extract (v := .slice B12 r_16.length c12) rfl rfl rfl) ?_
                  refine sq 78 rfl rfl (Y_extract (v := .bool r_17) rfl rfl rfl) ?_
                  refine sq 12 rfl rfl (Y_assign (v := .slice B12 r_16.length c12) rfl rfl) ?_
                  refine sq 13 rfl rfl (Y_assign (v := .bool r_17) rfl rfl) ?_
                  refine rw_nil ?_
                  refine cw_seq ?_
                  refine cw_seq ?_
                  refine cw_region ?_
                  refine sq 79 rfl rfl (Y_move (v := .slice B12 r_16.length c12) rfl rfl) ?_
                  refine sq 80 rfl rfl (Y_move (v := .slice B4 r_3.length c4) rfl rfl) ?_
                  obtain ⟨r_18, hc14, hF12⟩ := bind_inv hF12
                  refine sc 81 rfl rfl (Yc_func (g := 24) (vs := [.slice B12 r_16.length c12, .slice B4 r_3.length c4]) k_call_24 rfl (mc rfl (mc rfl mn)) (c_laws_eqTermS r_16 r_3 B12 c12 r_16.length B4 c4 r_3.length _ rfl rfl (hS20.inn0 [(false, 12), (false, 3)] rfl) hc14)) ?_
                  rintro _ w_17 ⟨rfl, hd13⟩
                  have hS21 := hS20.out00 hd13
                  have hS21 : ST w0 [] _ [⟨some ⟨b, 0, none⟩, 38, [.int .i64 aP.Qubits, .int .i64 aP.Phase, .slice B aP.Terms.length c, .slice B1 aP.Out.Rows.length c1], 4⟩, ⟨B2, 112, (r_2.Terms.flatMap enc_Term), c2 * 2⟩, ⟨B3, 3, (r_2.Out.Rows.flatMap encI), c3 * 1⟩, ⟨B4, 112, (r_3.flatMap enc_Term), c4 * 2⟩, ⟨some ⟨b1, 0, none⟩, 45, [.int .i64 r_5.Qubits, .int .i64 r_5.Phase, .slice B5 r_5.Terms.length c5, .slice B6 r_5.Out.Rows.length c6], 4⟩, ⟨B8, 112, (r_9.Terms.flatMap enc_Term), c8 * 2⟩, ⟨B9, 3, (r_9.Out.Rows.flatMap encI), c9 * 1⟩, ⟨B5, 112, (m.flatMap enc_Term), c5 * 2⟩, ⟨B6, 3, (m1.flatMap encI), c6 * 1⟩, ⟨B7, 112, (m2.flatMap enc_Term), c7 * 2⟩, ⟨B10, 112, (r_15.Terms.flatMap enc_Term), c10 * 2⟩, ⟨B11, 3, (r_15.Out.Rows.flatMap encI), c11 * 1⟩, ⟨B12, 112, (r_16.flatMap enc_Term), c12 * 2⟩] [⟨B, (aP.Terms.flatMap enc_Term)⟩, ⟨B1, (aP.Out.Rows.flatMap encI)⟩] := hS21
                  refine sq 82 rfl rfl (Y_not (p := r_18) rfl rfl) ?_
                  refine sq 83 rfl rfl (Y_move (v := .bool (!r_18)) rfl rfl) ?_
                  refine sgq 84 (B := (!(!r_18))) (v := .bool r_17) rfl rfl (wt_f (gd_of (t := 83) (by kernel_rfl) rfl)) (fun hg10 => (Y_move (v := .bool r_17) rfl rfl)) ?_
                  refine sgq 85 (B := (!(!r_18))) (v := .bool r_4) rfl rfl (wt_f (gd_of (t := 83) (by kernel_rfl) rfl)) (fun hg11 => (Y_move (v := .bool r_4) rfl rfl)) ?_
                  refine sgq 86 (B := (!(!r_18))) (v := .bool (!(r_17 == r_4))) rfl rfl (wt_f (gd_of (t := 83) (by kernel_rfl) rfl)) (fun hg12 => (Y_bne (p := r_17) (q := r_4) k_und_4 rfl (gv_of (B := (!(!r_18))) (v := .bool r_17) hg12) (gv_of (B := (!(!r_18))) (v := .bool r_4) hg12))) ?_
                  refine sq 87 rfl rfl (Y_or (b := (!r_18)) (z := (!(r_17 == r_4))) rfl rfl rfl rfl) ?_
                  refine rw_nil ?_
                  refine cw_cond (b := ((!r_18) || (!(r_17 == r_4)))) rfl (fun hb6 => ?_) (fun hb6 => ?_)
                  · skip
                    have hF13 := ct hF12 hb6
                    refine cw_seq ?_
                    refine cw_region ?_
                    refine sq 2 rfl rfl (Y_assign (v := .bool false) rfl rfl) ?_
                    refine rw_nil ?_
                    refine cw_ret ?_
                    obtain rfl := some_inj hF13
                    exact ret1 Try.results4 (v1 := .bool false) (resAt_tmp rfl) ⟨rfl, (ST.subR (R' := []) (hS21.sel [] rfl rfl) (fun _ h => by cases h))⟩
                  · skip
                    have hF14 := cf' hF12 hb6
                    refine cw_skip ?_
                    refine cw_seq ?_
                    refine cw_region ?_
                    refine sq 11 rfl rfl (Y_assign (v := .int .i64 1) rfl rfl) ?_
                    refine rw_nil ?_
                    refine cw_seq ?_
                    refine cw_region ?_
                    refine sq 88 rfl rfl (Y_move (v := .slice B7 r_6.length c7) rfl rfl) ?_
                    refine sq 89 rfl rfl (Y_move (v := .int .i64 1) rfl rfl) ?_
                    obtain ⟨r_19, hc15, hF14⟩ := bind_inv hF14
                    refine sc 90 rfl rfl (Yc_func (g := 28) (vs := [.slice B7 r_6.length c7, .int .i64 1]) k_call_28 rfl (mc rfl (mc rfl mn)) (c_laws_heldTermS m2 1 B7 c7 r_6.length _ hl2 (hS21.inn0 [(false, 9)] rfl) hc15)) ?_
                    rintro _ w_18 ⟨rfl, hd14⟩
                    have hS22 := hS21.out00 hd14
                    have hS22 : ST w0 [] _ [⟨some ⟨b, 0, none⟩, 38, [.int .i64 aP.Qubits, .int .i64 aP.Phase, .slice B aP.Terms.length c, .slice B1 aP.Out.Rows.length c1], 4⟩, ⟨B2, 112, (r_2.Terms.flatMap enc_Term), c2 * 2⟩, ⟨B3, 3, (r_2.Out.Rows.flatMap encI), c3 * 1⟩, ⟨B4, 112, (r_3.flatMap enc_Term), c4 * 2⟩, ⟨some ⟨b1, 0, none⟩, 45, [.int .i64 r_5.Qubits, .int .i64 r_5.Phase, .slice B5 r_5.Terms.length c5, .slice B6 r_5.Out.Rows.length c6], 4⟩, ⟨B8, 112, (r_9.Terms.flatMap enc_Term), c8 * 2⟩, ⟨B9, 3, (r_9.Out.Rows.flatMap encI), c9 * 1⟩, ⟨B5, 112, (m.flatMap enc_Term), c5 * 2⟩, ⟨B6, 3, (m1.flatMap encI), c6 * 1⟩, ⟨B7, 112, (m2.flatMap enc_Term), c7 * 2⟩, ⟨B10, 112, (r_15.Terms.flatMap enc_Term), c10 * 2⟩, ⟨B11, 3, (r_15.Out.Rows.flatMap encI), c11 * 1⟩, ⟨B12, 112, (r_16.flatMap enc_Term), c12 * 2⟩] [⟨B, (aP.Terms.flatMap enc_Term)⟩, ⟨B1, (aP.Out.Rows.flatMap encI)⟩] := hS22
                    refine sq 11 rfl rfl (Y_assign (v := .int .i64 r_19) rfl rfl) ?_
                    refine rw_nil ?_
                    refine cw_seq ?_
                    refine cw_seq ?_
                    refine cw_region ?_
                    refine sq 91 rfl rfl (Y_move (v := .int .i64 r_19) rfl rfl) ?_
                    refine sq 92 rfl rfl (Y_lt (k := .i64) (a := r_19) (b := 0) rfl rfl rfl) ?_
                    refine rw_nil ?_
                    refine cw_cond (b := (decide (r_19 < 0))) rfl (fun hb7 => ?_) (fun hb7 => ?_)
                    · skip
                      have hF15 := ct hF14 hb7
                      refine cw_seq ?_
                      refine cw_region ?_
                      refine sq 2 rfl rfl (Y_assign (v := .bool false) rfl rfl) ?_
                      refine rw_nil ?_
                      refine cw_ret ?_
                      obtain rfl := some_inj hF15
                      exact ret1 Try.results4 (v1 := .bool false) (resAt_tmp rfl) ⟨rfl, (ST.subR (R' := []) (hS22.sel [] rfl rfl) (fun _ h => by cases h))⟩
                    · skip
                      have hF16 := cf' hF14 hb7
                      refine cw_skip ?_
                      refine cw_seq ?_
                      refine cw_seq ?_
                      refine cw_region ?_
                      refine sq 93 rfl rfl (Y_move (v := .int .i64 r_19) rfl rfl) ?_
                      refine sq 94 rfl rfl (Y_move (v := .int .i64 r_13) rfl rfl) ?_
                      refine sq 95 rfl rfl (Y_ne (k := .i64) (a := r_19) (b := r_13) rfl rfl rfl) ?_
                      refine rw_nil ?_
                      refine cw_cond (b := (r_19 != r_13)) rfl (fun hb8 => ?_) (fun hb8 => ?_)
                      · skip
                        have hF17 := ct hF16 hb8
                        refine cw_seq ?_
                        refine cw_region ?_
                        refine sq 2 rfl rfl (Y_assign (v := .bool false) rfl rfl) ?_
                        refine rw_nil ?_
                        refine cw_ret ?_
                        obtain rfl := some_inj hF17
                        exact ret1 Try.results4 (v1 := .bool false) (resAt_tmp rfl) ⟨rfl, (ST.subR (R' := []) (hS22.sel [] rfl rfl) (fun _ h => by cases h))⟩
                      · skip
                        have hF18 := cf' hF16 hb8
                        refine cw_skip ?_
                        refine cw_seq ?_
                        refine cw_region ?_
                        refine sq 2 rfl rfl (Y_assign (v := .bool true) rfl rfl) ?_
                        refine rw_nil ?_
                        refine cw_ret ?_
                        obtain rfl := some_inj hF18
                        exact ret1 Try.results4 (v1 := .bool true) (resAt_tmp rfl) ⟨rfl, (ST.subR (R' := []) (hS22.sel [] rfl rfl) (fun _ h => by cases h))⟩
        exact allR_nil
      exact allR_nil
end Go.VK
