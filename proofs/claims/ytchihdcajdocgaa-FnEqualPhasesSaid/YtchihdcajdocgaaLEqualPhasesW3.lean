/- Walks: each Go function returns what its Lean function says. By program. -/
import Derived.Test.YtchihdcajdocgaaLEqualPhasesFa
import Derived.Test.YtchihdcajdocgaaLEqualPhasesW2
set_option linter.unusedVariables false
set_option maxRecDepth 100000
set_option maxHeartbeats 1000000
namespace Go.VK
open Go.RowKit
open Go.Proofs
attribute [local irreducible] CW RW RA CV Y Yw Yc Ys RetOf
attribute [local irreducible] F_laws_qInts F_impl_within F_impl_areTerms F_slices_IndexFunc_int_int F_slices_ContainsFunc_int_int F_impl_IsValidLinear_1 F_slices_Clone_int_int F_impl_rankOf_1 F_slices_Delete_int_int F_impl_rankOf F_impl_IsValidLinear F_impl_IsValidPhasePoly F_math_bits_OnesCount64 F_math_bits_OnesCount F_impl_parityOf F_impl_PhaseAt F_spec_l1Cur_next F_spec_l1Cur_pick F_spec_l1Cur_one F_spec_l1Cur_among F_spec_l13List F_spec_l12Identity F_spec_l1Own F_spec_l12CX F_spec_l1Cur_linear F_spec_l1Cur_phasePoly F_spec_l1Cur_anyLinear F_spec_l1Cur_anyPhasePoly F_spec_l13By F_spec_l1Set F_spec_l1Put F_spec_l13Parity F_spec_l15Affine F_spec_l15Codes F_spec_l1Cur_oddWord F_spec_l1Cur_reducible F_spec_l15Shift F_spec_l1Cur_relative F_spec_DrawEqualPhases F_impl_coefficients_add F_impl_coefficients_terms F_impl_bitsIn F_impl_MonomialsOf F_slices_Equal_int_int F_slices_Equal_impl_Term_impl_Term F_impl_EqualPhases F_spec_l1In F_spec_l1All F_spec_l12Rank F_spec_l12Valid F_spec_l13Valid F_spec_l1Same F_spec_l15SameTerms F_spec_l15Monomials F_spec_EqualPhases F_spec_DrawIsValidPhasePoly F_spec_DrawMonomialsOf F_spec_MonomialsOf F_laws_qTerms F_laws_FnEqualPhases
theorem c_spec_l1Cur_reducible (c : Tl1Cur) (B : Option Addr) (B1 : Option Addr) (c1 n : Nat) (w0 : World) (hn : c.code.length = n) (hS : ST w0 (bl [⟨B, 87, [.slice B1 n c1, .int .i64 c.at_, .int .u64 c.seed], 3⟩]) w0 [⟨B, 87, [.slice B1 n c1, .int .i64 c.at_, .int .u64 c.seed], 3⟩] [⟨B1, (c.code.flatMap enc_u8)⟩]) {r_ : TPhasePoly} {m : Tl1Cur} (hF : F_spec_l1Cur_reducible c = some (r_, m)) :
    CV Try.prog 87 #[pt B 0] w0 (fun v w' => ∃ (B2 : Option Addr) (c2 : Nat) (B3 : Option Addr) (c3 : Nat), v = .agg #[.int .i64 r_.Qubits, .int .i64 r_.Phase, .slice B2 r_.Terms.length c2, .slice B3 r_.Out.Rows.length c3] ∧ ST w0 (bl [⟨B, 87, [.slice B1 n c1, .int .i64 c.at_, .int .u64 c.seed], 3⟩]) w' [⟨B, 87, [.slice B1 n c1, .int .i64 m.at_, .int .u64 m.seed], 3⟩, ⟨B2, 104, (r_.Terms.flatMap enc_Term), c2 * 2⟩, ⟨B3, 3, (r_.Out.Rows.flatMap encI), c3 * 1⟩] []) := by
  subst hn
  unfold F_spec_l1Cur_reducible at hF
  refine cv_of_cw 36 Try.func87 rfl Try.ntmps87 rfl ?_
  refine cw_seq ?_
  refine cw_region ?_
  refine ss 2 rfl rfl (Ys_alloc (T := 52) (cs := [.int .i64 0, .int .i64 0, .slice none 0 0, .slice none 0 0]) (m := 4) hS k_zero_52 rfl rfl rfl) ?_
  rintro _ w_ ⟨b, rfl, hS1⟩
  have hS1 : ST w0 (bl [⟨B, 87, [.slice B1 c.code.length c1, .int .i64 c.at_, .int .u64 c.seed], 3⟩]) _ [⟨B, 87, [.slice B1 c.code.length c1, .int .i64 c.at_, .int .u64 c.seed], 3⟩, ⟨some ⟨b, 0, none⟩, 52, [.int .i64 0, .int .i64 0, .slice none 0 0, .slice none 0 0], 4⟩] [⟨B1, (c.code.flatMap enc_u8)⟩] := hS1
  refine rw_nil ?_
  refine cw_seq ?_
  refine cw_region ?_
  refine sq 7 rfl rfl (Y_move (v := pt B 0) rfl rfl) ?_
  refine sq 8 rfl rfl (Y_move (v := pt B 0) rfl rfl) ?_
  refine ss 9 rfl rfl (Ys_bslice (s := 1) (len := 6) (vs := [(0, .int .i64 2), (1, .int .i64 3), (2, .int .i64 4), (3, .int .i64 4), (4, .int .i64 4), (5, .int .i64 5)]) (cs := [.int .i64 2, .int .i64 3, .int .i64 4, .int .i64 4, .int .i64 4, .int .i64 5]) (zs := [.int .i64 0, .int .i64 0, .int .i64 0, .int .i64 0, .int .i64 0, .int .i64 0]) (m := 6) hS1 k_sl_48_3 k_sz_3_1 k_zc_3 rfl (mpc rfl (mpc rfl (mpc rfl (mpc rfl (mpc rfl (mpc rfl mpn)))))) rfl rfl rfl (by kernel_rfl) (by kernel_rfl) rfl) ?_
  rintro _ w_1 ⟨b1, rfl, hS2⟩
  have hS2 : ST w0 (bl [⟨B, 87, [.slice B1 c.code.length c1, .int .i64 c.at_, .int .u64 c.seed], 3⟩]) _ [⟨B, 87, [.slice B1 c.code.length c1, .int .i64 c.at_, .int .u64 c.seed], 3⟩, ⟨some ⟨b, 0, none⟩, 52, [.int .i64 0, .int .i64 0, .slice none 0 0, .slice none 0 0], 4⟩, ⟨some ⟨b1, 0, none⟩, 3, ([2, 3, 4, 4, 4, 5].flatMap encI), 6 * 1⟩] [⟨B1, (c.code.flatMap enc_u8)⟩] := hS2
  obtain ⟨⟨r_1, m1⟩, hc, hF⟩ := bind_inv hF
  refine sc 10 rfl rfl (Yc_func (g := 53) (vs := [pt B 0, .slice (some ⟨b1, 0, none⟩) 6 6]) k_call_53 rfl (mc rfl (mc rfl mn)) (c_spec_l1Cur_among c [2, 3, 4, 4, 4, 5] B B1 c1 c.code.length (some ⟨b1, 0, none⟩) 6 6 _ rfl rfl (hS2.inn [true, false, false] rfl [(true, 0), (false, 1)] rfl) hc)) ?_
  rintro _ w_2 ⟨rfl, hd⟩
  have hS3 := hS2.out [true, false, false] rfl hd
  have hS3 : ST w0 (bl [⟨B, 87, [.slice B1 c.code.length c1, .int .i64 c.at_, .int .u64 c.seed], 3⟩]) _ [⟨some ⟨b, 0, none⟩, 52, [.int .i64 0, .int .i64 0, .slice none 0 0, .slice none 0 0], 4⟩, ⟨some ⟨b1, 0, none⟩, 3, ([2, 3, 4, 4, 4, 5].flatMap encI), 6 * 1⟩, ⟨B, 87, [.slice B1 c.code.length c1, .int .i64 m1.at_, .int .u64 m1.seed], 3⟩] [⟨B1, (c.code.flatMap enc_u8)⟩] := hS3
  obtain ⟨⟨r_2, m2⟩, hc1, hF⟩ := bind_inv hF
  refine sc 11 rfl rfl (Yc_func (g := 70) (vs := [pt B 0, .int .i64 r_1]) k_call_70 rfl (mc rfl (mc rfl mn)) (c_spec_l1Cur_phasePoly (Tl1Cur.mk c.code m1.at_ m1.seed) r_1 B B1 c1 c.code.length _ rfl (hS3.inn [false, false, true] rfl [(true, 0)] rfl) hc1)) ?_
  rintro _ w_3 ⟨B4, c4, B5, c5, rfl, hd1⟩
  have hS4 := hS3.out [false, false, true] rfl hd1
  have hS4 : ST w0 (bl [⟨B, 87, [.slice B1 c.code.length c1, .int .i64 c.at_, .int .u64 c.seed], 3⟩]) _ [⟨some ⟨b, 0, none⟩, 52, [.int .i64 0, .int .i64 0, .slice none 0 0, .slice none 0 0], 4⟩, ⟨some ⟨b1, 0, none⟩, 3, ([2, 3, 4, 4, 4, 5].flatMap encI), 6 * 1⟩, ⟨B, 87, [.slice B1 c.code.length c1, .int .i64 m2.at_, .int .u64 m2.seed], 3⟩, ⟨B4, 104, (r_2.Terms.flatMap enc_Term), c4 * 2⟩, ⟨B5, 3, (r_2.Out.Rows.flatMap encI), c5 * 1⟩] [⟨B1, (c.code.flatMap enc_u8)⟩] := hS4
  refine ss 3 rfl rfl (Ys_alloc (T := 52) (cs := [.int .i64 0, .int .i64 0, .slice none 0 0, .slice none 0 0]) (m := 4) hS4 k_zero_52 rfl rfl rfl) ?_
  rintro _ w_4 ⟨b2, rfl, hS5⟩
  have hS5 : ST w0 (bl [⟨B, 87, [.slice B1 c.code.length c1, .int .i64 c.at_, .int .u64 c.seed], 3⟩]) _ [⟨some ⟨b, 0, none⟩, 52, [.int .i64 0, .int .i64 0, .slice none 0 0, .slice none 0 0], 4⟩, ⟨some ⟨b1, 0, none⟩, 3, ([2, 3, 4, 4, 4, 5].flatMap encI), 6 * 1⟩, ⟨B, 87, [.slice B1 c.code.length c1, .int .i64 m2.at_, .int .u64 m2.seed], 3⟩, ⟨B4, 104, (r_2.Terms.flatMap enc_Term), c4 * 2⟩, ⟨B5, 3, (r_2.Out.Rows.flatMap encI), c5 * 1⟩, ⟨some ⟨b2, 0, none⟩, 52, [.int .i64 0, .int .i64 0, .slice none 0 0, .slice none 0 0], 4⟩] [⟨B1, (c.code.flatMap enc_u8)⟩] := hS5
  refine ss0 rfl rfl (Ys_store (i := 5) (s := 4) (B := some ⟨b2, 0, none⟩) (T' := 52) (v := .agg #[.int .i64 r_2.Qubits, .int .i64 r_2.Phase, .slice B4 r_2.Terms.length c4, .slice B5 r_2.Out.Rows.length c5]) (vs := [.int .i64 r_2.Qubits, .int .i64 r_2.Phase, .slice B4 r_2.Terms.length c4, .slice B5 r_2.Out.Rows.length c5]) (k := 0) (cs' := [.int .i64 r_2.Qubits, .int .i64 r_2.Phase, .slice B4 r_2.Terms.length c4, .slice B5 r_2.Out.Rows.length c5]) hS5 k_sz_52_4 rfl rfl rfl rfl rfl rfl rfl (Nat.le_of_ble_eq_true rfl) rfl rfl) ?_
  rintro _ w_5 ⟨rfl, hS6⟩
  have hS6 : ST w0 (bl [⟨B, 87, [.slice B1 c.code.length c1, .int .i64 c.at_, .int .u64 c.seed], 3⟩]) _ [⟨some ⟨b, 0, none⟩, 52, [.int .i64 0, .int .i64 0, .slice none 0 0, .slice none 0 0], 4⟩, ⟨some ⟨b1, 0, none⟩, 3, ([2, 3, 4, 4, 4, 5].flatMap encI), 6 * 1⟩, ⟨B, 87, [.slice B1 c.code.length c1, .int .i64 m2.at_, .int .u64 m2.seed], 3⟩, ⟨B4, 104, (r_2.Terms.flatMap enc_Term), c4 * 2⟩, ⟨B5, 3, (r_2.Out.Rows.flatMap encI), c5 * 1⟩, ⟨some ⟨b2, 0, none⟩, 52, [.int .i64 r_2.Qubits, .int .i64 r_2.Phase, .slice B4 r_2.Terms.length c4, .slice B5 r_2.Out.Rows.length c5], 4⟩] [⟨B1, (c.code.flatMap enc_u8)⟩] := hS6
  refine rw_nil ?_
  refine cw_seq ?_
  refine cw_region ?_
  refine sq 12 rfl rfl (Y_loadA (B := some ⟨b2, 0, none⟩) (i := 0) (cs := [.int .i64 r_2.Qubits, .int .i64 r_2.Phase, .slice B4 r_2.Terms.length c4, .slice B5 r_2.Out.Rows.length c5]) (vs := [.int .i64 r_2.Qubits, .int .i64 r_2.Phase, .slice B4 r_2.Terms.length c4, .slice B5 r_2.Out.Rows.length c5]) k_ag_52 k_sz_52_4 rfl rfl (hS6.cf (i := 5) rfl) rfl rfl) ?_
  obtain ⟨r_3, hc2, hF⟩ := bind_inv hF
  refine sc 13 rfl rfl (Yc_func (g := 77) (vs := [.agg #[.int .i64 r_2.Qubits, .int .i64 r_2.Phase, .slice B4 r_2.Terms.length c4, .slice B5 r_2.Out.Rows.length c5]]) k_call_77 rfl (mc rfl mn) (c_spec_l13By r_2 B4 c4 r_2.Terms.length B5 c5 r_2.Out.Rows.length _ rfl rfl (hS6.inn0 [(false, 3), (false, 4)] rfl) hc2)) ?_
  rintro _ w_6 ⟨B6, c6, rfl, hd2⟩
  have hS7 := hS6.out0 hd2
  have hS7 : ST w0 (bl [⟨B, 87, [.slice B1 c.code.length c1, .int .i64 c.at_, .int .u64 c.seed], 3⟩]) _ [⟨some ⟨b, 0, none⟩, 52, [.int .i64 0, .int .i64 0, .slice none 0 0, .slice none 0 0], 4⟩, ⟨some ⟨b1, 0, none⟩, 3, ([2, 3, 4, 4, 4, 5].flatMap encI), 6 * 1⟩, ⟨B, 87, [.slice B1 c.code.length c1, .int .i64 m2.at_, .int .u64 m2.seed], 3⟩, ⟨B4, 104, (r_2.Terms.flatMap enc_Term), c4 * 2⟩, ⟨B5, 3, (r_2.Out.Rows.flatMap encI), c5 * 1⟩, ⟨some ⟨b2, 0, none⟩, 52, [.int .i64 r_2.Qubits, .int .i64 r_2.Phase, .slice B4 r_2.Terms.length c4, .slice B5 r_2.Out.Rows.length c5], 4⟩, ⟨B6, 3, (r_3.flatMap encI), c6 * 1⟩] [⟨B1, (c.code.flatMap enc_u8)⟩] := hS7
  refine sq 4 rfl rfl (Y_assign (v := .slice B6 r_3.length c6) rfl rfl) ?_
  refine rw_nil ?_
  refine cw_seq ?_
  refine cw_seq ?_
  refine cw_region ?_
  refine sq 14 rfl rfl (Y_move (v := pt B 0) rfl rfl) ?_
  refine sq 15 rfl rfl (Y_fieldAddr (B := some ⟨b2, 0, none⟩) (i := 0) (s := 0) k_fd_52_0_0_3 k_sz_3_1 rfl rfl) ?_
  refine sq 16 rfl rfl (Y_load1 (B := some ⟨b2, 0, none⟩) (i := 0) (cs := [.int .i64 r_2.Qubits, .int .i64 r_2.Phase, .slice B4 r_2.Terms.length c4, .slice B5 r_2.Out.Rows.length c5]) (v := .int .i64 r_2.Qubits) k_sc_3 rfl rfl (hS7.cf (i := 5) rfl) rfl) ?_
  obtain ⟨⟨r_4, m3⟩, hc3, hF⟩ := bind_inv hF
  refine sc 17 rfl rfl (Yc_func (g := 129) (vs := [pt B 0, .int .i64 r_2.Qubits]) k_call_129 rfl (mc rfl (mc rfl mn)) (c_spec_l1Cur_oddWord (Tl1Cur.mk c.code m2.at_ m2.seed) r_2.Qubits B B1 c1 c.code.length _ rfl (hS7.inn [false, false, true, false, false, false, false] rfl [(true, 0)] rfl) hc3)) ?_
  rintro _ w_7 ⟨rfl, hd3⟩
  have hS8 := hS7.out [false, false, true, false, false, false, false] rfl hd3
  have hS8 : ST w0 (bl [⟨B, 87, [.slice B1 c.code.length c1, .int .i64 c.at_, .int .u64 c.seed], 3⟩]) _ [⟨some ⟨b, 0, none⟩, 52, [.int .i64 0, .int .i64 0, .slice none 0 0, .slice none 0 0], 4⟩, ⟨some ⟨b1, 0, none⟩, 3, ([2, 3, 4, 4, 4, 5].flatMap encI), 6 * 1⟩, ⟨B4, 104, (r_2.Terms.flatMap enc_Term), c4 * 2⟩, ⟨B5, 3, (r_2.Out.Rows.flatMap encI), c5 * 1⟩, ⟨some ⟨b2, 0, none⟩, 52, [.int .i64 r_2.Qubits, .int .i64 r_2.Phase, .slice B4 r_2.Terms.length c4, .slice B5 r_2.Out.Rows.length c5], 4⟩, ⟨B6, 3, (r_3.flatMap encI), c6 * 1⟩, ⟨B, 87, [.slice B1 c.code.length c1, .int .i64 m3.at_, .int .u64 m3.seed], 3⟩] [⟨B1, (c.code.flatMap enc_u8)⟩] := hS8
  obtain ⟨r_5, hc4, hF⟩ := bind_inv hF
  refine sc 18 rfl rfl (Yc_func (g := 123) (vs := [.int .i64 r_4]) k_call_123 rfl (mc rfl mn) (c_spec_l1Set r_4 _  (hS8.inn0 [] rfl) hc4)) ?_
  rintro _ w_8 ⟨B7, c7, rfl, hd4⟩
  have hS9 := hS8.out0 hd4
  have hS9 : ST w0 (bl [⟨B, 87, [.slice B1 c.code.length c1, .int .i64 c.at_, .int .u64 c.seed], 3⟩]) _ [⟨some ⟨b, 0, none⟩, 52, [.int .i64 0, .int .i64 0, .slice none 0 0, .slice none 0 0], 4⟩, ⟨some ⟨b1, 0, none⟩, 3, ([2, 3, 4, 4, 4, 5].flatMap encI), 6 * 1⟩, ⟨B4, 104, (r_2.Terms.flatMap enc_Term), c4 * 2⟩, ⟨B5, 3, (r_2.Out.Rows.flatMap encI), c5 * 1⟩, ⟨some ⟨b2, 0, none⟩, 52, [.int .i64 r_2.Qubits, .int .i64 r_2.Phase, .slice B4 r_2.Terms.length c4, .slice B5 r_2.Out.Rows.length c5], 4⟩, ⟨B6, 3, (r_3.flatMap encI), c6 * 1⟩, ⟨B, 87, [.slice B1 c.code.length c1, .int .i64 m3.at_, .int .u64 m3.seed], 3⟩, ⟨B7, 3, (r_5.flatMap encI), c7 * 1⟩] [⟨B1, (c.code.flatMap enc_u8)⟩] := hS9
  refine sq 19 rfl rfl (Y_len (B := B7) (m := r_5.length) (c := c7) k_sl_48_3 rfl rfl) ?_
  refine sq 20 rfl rfl (Y_move (v := .int .i64 0) rfl rfl) ?_
  refine rw_nil ?_
  obtain ⟨hN, hF⟩ := chk_inv hF
  obtain ⟨z, hz, hF1⟩ := bind_inv hF
  refine cw_block ?_
  refine cw_loop (fun k f w => ∃ (i : Nat) (by_ : List Int), FF f [(2, pt (some ⟨b, 0, none⟩) 0), (3, pt (some ⟨b2, 0, none⟩) 0), (4, .slice B6 r_3.length c6), (18, .slice B7 r_5.length c7), (19, .int .i64 (r_5.length : Int)), (20, .int .i64 (i : Int))] ∧ by_.length = r_3.length ∧ ST w0 (bl [⟨B, 87, [.slice B1 c.code.length c1, .int .i64 c.at_, .int .u64 c.seed], 3⟩]) w [⟨B, 87, [.slice B1 c.code.length c1, .int .i64 m3.at_, .int .u64 m3.seed], 3⟩, ⟨some ⟨b, 0, none⟩, 52, [.int .i64 0, .int .i64 0, .slice none 0 0, .slice none 0 0], 4⟩, ⟨some ⟨b2, 0, none⟩, 52, [.int .i64 r_2.Qubits, .int .i64 r_2.Phase, .slice B4 r_2.Terms.length c4, .slice B5 r_2.Out.Rows.length c5], 4⟩, ⟨B4, 104, (r_2.Terms.flatMap enc_Term), c4 * 2⟩, ⟨B5, 3, (r_2.Out.Rows.flatMap encI), c5 * 1⟩, ⟨B6, 3, (by_.flatMap encI), c6 * 1⟩, ⟨B7, 3, (r_5.flatMap encI), c7 * 1⟩] [⟨B1, (c.code.flatMap enc_u8)⟩] ∧ i + k = r_5.length ∧ forN (F_spec_l1Cur_reducible_l1 r_5) k i by_ = some z) r_5.length ⟨0, r_3, (FF.cons rfl (FF.cons rfl (FF.cons rfl (FF.cons rfl (FF.cons rfl (FF.cons rfl FF.nil)))))), rfl, (hS9.sel [6, 0, 4, 2, 3, 5, 7] rfl rfl), Nat.zero_add _, hz⟩ ?_
  rintro k_ f w ⟨i, by_, hf, hl, hS10, hik, hL⟩
  refine cw_seq ?_
  refine cw_region ?_
  refine sq 21 rfl rfl (Y_lt (k := .i64) (a := (i : Int)) (b := (r_5.length : Int)) rfl (hf.get 20 5 rfl) (hf.get 19 4 rfl)) ?_
  refine rw_nil ?_
  refine cw_seq ?_
  refine cw_cond (b := (decide ((i : Int) < (r_5.length : Int)))) rfl (fun hlt => ?_) (fun hlt => ?_)
  · skip
    have hlt1 : i < r_5.length := by have h := of_decide_eq_true hlt; omega
    obtain ⟨k_1, rfl⟩ : ∃ k2, k_ = k2 + 1 := ⟨k_ - 1, by omega⟩
    obtain ⟨y, hb, hL1⟩ := forN_go hL
    unfold F_spec_l1Cur_reducible_l1 at hb
    refine cw_skip ?_
    refine cw_seq ?_
    refine cw_block ?_
    refine cw_seq ?_
    refine cw_region ?_
    obtain ⟨x, hx, hb⟩ := bind_inv hb
    refine sq 22 rfl rfl (Y_index (B := B7) (m := r_5.length) (c := c7) (k := .i64) (i := (i : Int)) k_sl_48_3 k_sz_3_1 rfl (hf.get 18 3 rfl) (hf.get 20 5 rfl) (gi_isSome encI_len rfl (hS10.cf (i := 6) rfl) hx) (getI_nn hx) (getI_ltI hx rfl)) ?_
    refine sq 23 rfl rfl (Y_load1 (B := B7) (i := (i : Int).toNat * 1) (cs := (r_5.flatMap encI)) (v := .int .i64 x) k_sc_3 rfl rfl (hS10.cf (i := 6) rfl) (gi_at0 encI_len hx rfl)) ?_
    refine sq 6 rfl rfl (Y_assign (v := .int .i64 x) rfl rfl) ?_
    refine rw_nil ?_
    refine cw_region ?_
    refine sq 24 rfl rfl (Y_move (v := .slice B6 r_3.length c6) rfl (hf.get 4 2 rfl)) ?_
    refine sq 25 rfl rfl (Y_move (v := .int .i64 x) rfl rfl) ?_
    refine sq 26 rfl rfl (Y_add (k := .i64) (a := x) (b := 1) rfl rfl rfl) ?_
    obtain ⟨x1, hx1, hb⟩ := bind_inv hb
    refine sq 27 rfl rfl (Y_index (B := B6) (m := r_3.length) (c := c6) (k := .i64) (i := (IntKind.i64.wrap (x + 1))) k_sl_48_3 k_sz_3_1 rfl rfl rfl (gi_isSome encI_len rfl (hS10.cf (i := 5) rfl) hx1) (getI_nn hx1) (getI_ltI hx1 hl)) ?_
    refine sq 28 rfl rfl (Y_load1 (B := B6) (i := (IntKind.i64.wrap (x + 1)).toNat * 1) (cs := (by_.flatMap encI)) (v := .int .i64 x1) k_sc_3 rfl rfl (hS10.cf (i := 5) rfl) (gi_at0 encI_len hx1 rfl)) ?_
    refine sq 29 rfl rfl (Y_add (k := .i64) (a := x1) (b := 1) rfl rfl rfl) ?_
    refine sq 30 rfl rfl (Y_index (B := B6) (m := r_3.length) (c := c6) (k := .i64) (i := (IntKind.i64.wrap (x + 1))) k_sl_48_3 k_sz_3_1 rfl rfl rfl (gi_isSome encI_len rfl (hS10.cf (i := 5) rfl) hx1) (getI_nn hx1) (getI_ltI hx1 hl)) ?_
    refine ss0 rfl rfl (Ys_store (i := 5) (s := 1) (B := B6) (T' := 3) (v := .int .i64 (IntKind.i64.wrap (x1 + 1))) (vs := [.int .i64 (IntKind.i64.wrap (x1 + 1))]) (k := (IntKind.i64.wrap (x + 1)).toNat * 1) (cs' := ((by_.set (IntKind.i64.wrap (x + 1)).toNat (IntKind.i64.wrap (x1 + 1))).flatMap encI)) hS10 k_sz_3_1 rfl rfl rfl rfl rfl rfl rfl (gi_fit0 encI_len hx1) (gi_set encI_len hx1 (IntKind.i64.wrap (x1 + 1)) rfl) rfl) ?_
    rintro _ w_9 ⟨rfl, hS11⟩
    have hS11 : ST w0 (bl [⟨B, 87, [.slice B1 c.code.length c1, .int .i64 c.at_, .int .u64 c.seed], 3⟩]) _ [⟨B, 87, [.slice B1 c.code.length c1, .int .i64 m3.at_, .int .u64 m3.seed], 3⟩, ⟨some ⟨b, 0, none⟩, 52, [.int .i64 0, .int .i64 0, .slice none 0 0, .slice none 0 0], 4⟩, ⟨some ⟨b2, 0, none⟩, 52, [.int .i64 r_2.Qubits, .int .i64 r_2.Phase, .slice B4 r_2.Terms.length c4, .slice B5 r_2.Out.Rows.length c5], 4⟩, ⟨B4, 104, (r_2.Terms.flatMap enc_Term), c4 * 2⟩, ⟨B5, 3, (r_2.Out.Rows.flatMap encI), c5 * 1⟩, ⟨B6, 3, ((by_.set (IntKind.i64.wrap (x + 1)).toNat (IntKind.i64.wrap (x1 + 1))).flatMap encI), c6 * 1⟩, ⟨B7, 3, (r_5.flatMap encI), c7 * 1⟩] [⟨B1, (c.code.flatMap enc_u8)⟩] := hS11
    refine rw_nil ?_
    refine cw_region ?_
    refine sq 31 rfl rfl (Y_add (k := .i64) (a := (i : Int)) (b := 1) rfl (hf.get 20 5 rfl) rfl) ?_
    refine sq 20 rfl rfl (Y_move (v := .int .i64 (IntKind.i64.wrap ((i : Int) + 1))) rfl rfl) ?_
    refine rw_nil ?_
    obtain rfl := some_inj hb
    exact ⟨k_1, Nat.lt_succ_self _, i + 1, (by_.set (IntKind.i64.wrap (x + 1)).toNat (IntKind.i64.wrap (x1 + 1))), (FF.cons (hf.get 2 0 rfl) (FF.cons (hf.get 3 1 rfl) (FF.cons (hf.get 4 2 rfl) (FF.cons (hf.get 18 3 rfl) (FF.cons (hf.get 19 4 rfl) (FF.cons (congrArg (Value.int .i64) (wr_succ hlt1 hN)) FF.nil)))))), (set_len _ _ _ hl), (hS11.sel [0, 1, 2, 3, 4, 5, 6] rfl rfl), (by omega), hL1⟩
  · skip
    obtain rfl : k_ = 0 := by have h := of_decide_eq_false hlt; omega
    refine cw_exit rfl ?_
    obtain rfl := some_inj hL
    refine cw_seq ?_
    refine cw_region ?_
    refine sq 32 rfl rfl (Y_move (v := .slice B6 r_3.length c6) rfl (hf.get 4 2 rfl)) ?_
    obtain ⟨r_6, hc5, hF1⟩ := bind_inv hF1
    refine sc 33 rfl rfl (Yc_func (g := 79) (vs := [.slice B6 r_3.length c6]) k_call_79 rfl (mc rfl mn) (c_spec_l13List by_ B6 c6 r_3.length _ hl (hS10.inn0 [(false, 5)] rfl) hc5)) ?_
    rintro _ w_10 ⟨B8, c8, rfl, hd5⟩
    have hS12 := hS10.out0 hd5
    have hS12 : ST w0 (bl [⟨B, 87, [.slice B1 c.code.length c1, .int .i64 c.at_, .int .u64 c.seed], 3⟩]) _ [⟨B, 87, [.slice B1 c.code.length c1, .int .i64 m3.at_, .int .u64 m3.seed], 3⟩, ⟨some ⟨b, 0, none⟩, 52, [.int .i64 0, .int .i64 0, .slice none 0 0, .slice none 0 0], 4⟩, ⟨some ⟨b2, 0, none⟩, 52, [.int .i64 r_2.Qubits, .int .i64 r_2.Phase, .slice B4 r_2.Terms.length c4, .slice B5 r_2.Out.Rows.length c5], 4⟩, ⟨B4, 104, (r_2.Terms.flatMap enc_Term), c4 * 2⟩, ⟨B5, 3, (r_2.Out.Rows.flatMap encI), c5 * 1⟩, ⟨B6, 3, (by_.flatMap encI), c6 * 1⟩, ⟨B7, 3, (r_5.flatMap encI), c7 * 1⟩, ⟨B8, 104, (r_6.flatMap enc_Term), c8 * 2⟩] [⟨B1, (c.code.flatMap enc_u8)⟩] := hS12
    refine sq 34 rfl rfl (Y_fieldAddr (B := some ⟨b2, 0, none⟩) (i := 0) (s := 0) k_fd_52_2_2_47 k_sz_47_1 rfl (hf.get 3 1 rfl)) ?_
    refine ss0 rfl rfl (Ys_store (i := 2) (s := 1) (B := some ⟨b2, 0, none⟩) (T' := 52) (v := .slice B8 r_6.length c8) (vs := [.slice B8 r_6.length c8]) (k := 2) (cs' := [.int .i64 r_2.Qubits, .int .i64 r_2.Phase, .slice B8 r_6.length c8, .slice B5 r_2.Out.Rows.length c5]) hS12 k_sz_47_1 rfl rfl rfl rfl rfl rfl rfl (Nat.le_of_ble_eq_true rfl) rfl rfl) ?_
    rintro _ w_11 ⟨rfl, hS13⟩
    have hS13 : ST w0 (bl [⟨B, 87, [.slice B1 c.code.length c1, .int .i64 c.at_, .int .u64 c.seed], 3⟩]) _ [⟨B, 87, [.slice B1 c.code.length c1, .int .i64 m3.at_, .int .u64 m3.seed], 3⟩, ⟨some ⟨b, 0, none⟩, 52, [.int .i64 0, .int .i64 0, .slice none 0 0, .slice none 0 0], 4⟩, ⟨some ⟨b2, 0, none⟩, 52, [.int .i64 r_2.Qubits, .int .i64 r_2.Phase, .slice B8 r_6.length c8, .slice B5 r_2.Out.Rows.length c5], 4⟩, ⟨B4, 104, (r_2.Terms.flatMap enc_Term), c4 * 2⟩, ⟨B5, 3, (r_2.Out.Rows.flatMap encI), c5 * 1⟩, ⟨B6, 3, (by_.flatMap encI), c6 * 1⟩, ⟨B7, 3, (r_5.flatMap encI), c7 * 1⟩, ⟨B8, 104, (r_6.flatMap enc_Term), c8 * 2⟩] [⟨B1, (c.code.flatMap enc_u8)⟩] := hS13
    refine rw_nil ?_
    refine cw_seq ?_
    refine cw_region ?_
    refine sq 35 rfl rfl (Y_loadA (B := some ⟨b2, 0, none⟩) (i := 0) (cs := [.int .i64 r_2.Qubits, .int .i64 r_2.Phase, .slice B8 r_6.length c8, .slice B5 r_2.Out.Rows.length c5]) (vs := [.int .i64 r_2.Qubits, .int .i64 r_2.Phase, .slice B8 r_6.length c8, .slice B5 r_2.Out.Rows.length c5]) k_ag_52 k_sz_52_4 rfl (hf.get 3 1 rfl) (hS13.cf (i := 2) rfl) rfl rfl) ?_
    refine ss0 rfl rfl (Ys_store (i := 1) (s := 4) (B := some ⟨b, 0, none⟩) (T' := 52) (v := .agg #[.int .i64 r_2.Qubits, .int .i64 r_2.Phase, .slice B8 r_6.length c8, .slice B5 r_2.Out.Rows.length c5]) (vs := [.int .i64 r_2.Qubits, .int .i64 r_2.Phase, .slice B8 r_6.length c8, .slice B5 r_2.Out.Rows.length c5]) (k := 0) (cs' := [.int .i64 r_2.Qubits, .int .i64 r_2.Phase, .slice B8 r_6.length c8, .slice B5 r_2.Out.Rows.length c5]) hS13 k_sz_52_4 rfl (hf.get 2 0 rfl) rfl rfl rfl rfl rfl (Nat.le_of_ble_eq_true rfl) rfl rfl) ?_
    rintro _ w_12 ⟨rfl, hS14⟩
    have hS14 : ST w0 (bl [⟨B, 87, [.slice B1 c.code.length c1, .int .i64 c.at_, .int .u64 c.seed], 3⟩]) _ [⟨B, 87, [.slice B1 c.code.length c1, .int .i64 m3.at_, .int .u64 m3.seed], 3⟩, ⟨some ⟨b, 0, none⟩, 52, [.int .i64 r_2.Qubits, .int .i64 r_2.Phase, .slice B8 r_6.length c8, .slice B5 r_2.Out.Rows.length c5], 4⟩, ⟨some ⟨b2, 0, none⟩, 52, [.int .i64 r_2.Qubits, .int .i64 r_2.Phase, .slice B8 r_6.length c8, .slice B5 r_2.Out.Rows.length c5], 4⟩, ⟨B4, 104, (r_2.Terms.flatMap enc_Term), c4 * 2⟩, ⟨B5, 3, (r_2.Out.Rows.flatMap encI), c5 * 1⟩, ⟨B6, 3, (by_.flatMap encI), c6 * 1⟩, ⟨B7, 3, (r_5.flatMap encI), c7 * 1⟩, ⟨B8, 104, (r_6.flatMap enc_Term), c8 * 2⟩] [⟨B1, (c.code.flatMap enc_u8)⟩] := hS14
    refine rw_nil ?_
    refine cw_ret ?_
    obtain ⟨rfl, rfl⟩ := pr2 (some_inj hF1)
    exact ret1 Try.results87 (v1 := .agg #[.int .i64 r_2.Qubits, .int .i64 r_2.Phase, .slice B8 r_6.length c8, .slice B5 r_2.Out.Rows.length c5]) (resAt_cellA (B := some ⟨b, 0, none⟩) (i := 0) (cs := [.int .i64 r_2.Qubits, .int .i64 r_2.Phase, .slice B8 r_6.length c8, .slice B5 r_2.Out.Rows.length c5]) (vs := [.int .i64 r_2.Qubits, .int .i64 r_2.Phase, .slice B8 r_6.length c8, .slice B5 r_2.Out.Rows.length c5]) (hf.get 2 0 rfl) k_ag_52 k_sz_52_4 (hS14.cf (i := 1) rfl) rfl rfl) ⟨B8, c8, B5, c5, rfl, (ST.subR (R' := []) (hS14.sel [0, 7, 4] rfl rfl) (fun _ h => by cases h))⟩

theorem c_spec_l15Shift (p : TPhasePoly) (word : Int) (B : Option Addr) (c n : Nat) (B1 : Option Addr) (c1 n1 : Nat) (w0 : World) (hn : p.Terms.length = n) (hn1 : p.Out.Rows.length = n1) (hS : ST w0 [] w0 [] [⟨B, (p.Terms.flatMap enc_Term)⟩, ⟨B1, (p.Out.Rows.flatMap encI)⟩]) {r_ : TPhasePoly} (hF : F_spec_l15Shift p word = some r_) :
    CV Try.prog 131 #[.agg #[.int .i64 p.Qubits, .int .i64 p.Phase, .slice B n c, .slice B1 n1 c1], .int .i64 word] w0 (fun v w' => ∃ (B2 : Option Addr) (c2 : Nat) (B3 : Option Addr) (c3 : Nat), v = .agg #[.int .i64 r_.Qubits, .int .i64 r_.Phase, .slice B2 r_.Terms.length c2, .slice B3 r_.Out.Rows.length c3] ∧ ST w0 [] w' [⟨B2, 104, (r_.Terms.flatMap enc_Term), c2 * 2⟩, ⟨B3, 3, (r_.Out.Rows.flatMap encI), c3 * 1⟩] []) := by
  subst hn
  subst hn1
  unfold F_spec_l15Shift at hF
  refine cv_of_cw 37 Try.func131 rfl Try.ntmps131 rfl ?_
  refine cw_seq ?_
  refine cw_region ?_
  refine ss 2 rfl rfl (Ys_box (T := 52) (v := .agg #[.int .i64 p.Qubits, .int .i64 p.Phase, .slice B p.Terms.length c, .slice B1 p.Out.Rows.length c1]) (cs := [.int .i64 p.Qubits, .int .i64 p.Phase, .slice B p.Terms.length c, .slice B1 p.Out.Rows.length c1]) (m := 4) hS rfl rfl rfl rfl) ?_
  rintro _ w_ ⟨b, rfl, hS1⟩
  refine ss 4 rfl rfl (Ys_alloc (T := 52) (cs := [.int .i64 0, .int .i64 0, .slice none 0 0, .slice none 0 0]) (m := 4) hS1 k_zero_52 rfl rfl rfl) ?_
  rintro _ w_1 ⟨b1, rfl, hS2⟩
  have hS2 : ST w0 [] _ [⟨some ⟨b, 0, none⟩, 52, [.int .i64 p.Qubits, .int .i64 p.Phase, .slice B p.Terms.length c, .slice B1 p.Out.Rows.length c1], 4⟩, ⟨some ⟨b1, 0, none⟩, 52, [.int .i64 0, .int .i64 0, .slice none 0 0, .slice none 0 0], 4⟩] [⟨B, (p.Terms.flatMap enc_Term)⟩, ⟨B1, (p.Out.Rows.flatMap encI)⟩] := hS2
  refine rw_nil ?_
  refine cw_seq ?_
  refine cw_region ?_
  refine sq 8 rfl rfl (Y_loadA (B := some ⟨b, 0, none⟩) (i := 0) (cs := [.int .i64 p.Qubits, .int .i64 p.Phase, .slice B p.Terms.length c, .slice B1 p.Out.Rows.length c1]) (vs := [.int .i64 p.Qubits, .int .i64 p.Phase, .slice B p.Terms.length c, .slice B1 p.Out.Rows.length c1]) k_ag_52 k_sz_52_4 rfl rfl (hS2.cf (i := 0) rfl) rfl rfl) ?_
  obtain ⟨r_1, hc, hF⟩ := bind_inv hF
  refine sc 9 rfl rfl (Yc_func (g := 77) (vs := [.agg #[.int .i64 p.Qubits, .int .i64 p.Phase, .slice B p.Terms.length c, .slice B1 p.Out.Rows.length c1]]) k_call_77 rfl (mc rfl mn) (c_spec_l13By p B c p.Terms.length B1 c1 p.Out.Rows.length _ rfl rfl (hS2.inn0 [(true, 0), (true, 1)] rfl) hc)) ?_
  rintro _ w_2 ⟨B4, c4, rfl, hd⟩
  have hS3 := hS2.out0 hd
  have hS3 : ST w0 [] _ [⟨some ⟨b, 0, none⟩, 52, [.int .i64 p.Qubits, .int .i64 p.Phase, .slice B p.Terms.length c, .slice B1 p.Out.Rows.length c1], 4⟩, ⟨some ⟨b1, 0, none⟩, 52, [.int .i64 0, .int .i64 0, .slice none 0 0, .slice none 0 0], 4⟩, ⟨B4, 3, (r_1.flatMap encI), c4 * 1⟩] [⟨B, (p.Terms.flatMap enc_Term)⟩, ⟨B1, (p.Out.Rows.flatMap encI)⟩] := hS3
  refine sq 5 rfl rfl (Y_assign (v := .slice B4 r_1.length c4) rfl rfl) ?_
  refine rw_nil ?_
  refine cw_seq ?_
  refine cw_seq ?_
  refine cw_region ?_
  refine sq 10 rfl rfl (Y_move (v := .int .i64 word) rfl rfl) ?_
  obtain ⟨r_2, hc1, hF⟩ := bind_inv hF
  refine sc 11 rfl rfl (Yc_func (g := 123) (vs := [.int .i64 word]) k_call_123 rfl (mc rfl mn) (c_spec_l1Set word _  (hS3.inn0 [] rfl) hc1)) ?_
  rintro _ w_3 ⟨B5, c5, rfl, hd1⟩
  have hS4 := hS3.out0 hd1
  have hS4 : ST w0 [] _ [⟨some ⟨b, 0, none⟩, 52, [.int .i64 p.Qubits, .int .i64 p.Phase, .slice B p.Terms.length c, .slice B1 p.Out.Rows.length c1], 4⟩, ⟨some ⟨b1, 0, none⟩, 52, [.int .i64 0, .int .i64 0, .slice none 0 0, .slice none 0 0], 4⟩, ⟨B4, 3, (r_1.flatMap encI), c4 * 1⟩, ⟨B5, 3, (r_2.flatMap encI), c5 * 1⟩] [⟨B, (p.Terms.flatMap enc_Term)⟩, ⟨B1, (p.Out.Rows.flatMap encI)⟩] := hS4
  refine sq 12 rfl rfl (Y_len (B := B5) (m := r_2.length) (c := c5) k_sl_48_3 rfl rfl) ?_
  refine sq 13 rfl rfl (Y_move (v := .int .i64 0) rfl rfl) ?_
  refine rw_nil ?_
  obtain ⟨hN, hF⟩ := chk_inv hF
  obtain ⟨z, hz, hF1⟩ := bind_inv hF
  refine cw_block ?_
  refine cw_loop (fun k f w => ∃ (i : Nat) (by_ : List Int), FF f [(2, pt (some ⟨b, 0, none⟩) 0), (4, pt (some ⟨b1, 0, none⟩) 0), (5, .slice B4 r_1.length c4), (11, .slice B5 r_2.length c5), (12, .int .i64 (r_2.length : Int)), (13, .int .i64 (i : Int))] ∧ by_.length = r_1.length ∧ ST w0 [] w [⟨some ⟨b, 0, none⟩, 52, [.int .i64 p.Qubits, .int .i64 p.Phase, .slice B p.Terms.length c, .slice B1 p.Out.Rows.length c1], 4⟩, ⟨some ⟨b1, 0, none⟩, 52, [.int .i64 0, .int .i64 0, .slice none 0 0, .slice none 0 0], 4⟩, ⟨B4, 3, (by_.flatMap encI), c4 * 1⟩, ⟨B5, 3, (r_2.flatMap encI), c5 * 1⟩] [⟨B, (p.Terms.flatMap enc_Term)⟩, ⟨B1, (p.Out.Rows.flatMap encI)⟩] ∧ i + k = r_2.length ∧ forN (F_spec_l15Shift_l1 r_2) k i by_ = some z) r_2.length ⟨0, r_1, (FF.cons rfl (FF.cons rfl (FF.cons rfl (FF.cons rfl (FF.cons rfl (FF.cons rfl FF.nil)))))), rfl, (hS4.sel [0, 1, 2, 3] rfl rfl), Nat.zero_add _, hz⟩ ?_
  rintro k_ f w ⟨i, by_, hf, hl, hS5, hik, hL⟩
  refine cw_seq ?_
  refine cw_region ?_
  refine sq 14 rfl rfl (Y_lt (k := .i64) (a := (i : Int)) (b := (r_2.length : Int)) rfl (hf.get 13 5 rfl) (hf.get 12 4 rfl)) ?_
  refine rw_nil ?_
  refine cw_seq ?_
  refine cw_cond (b := (decide ((i : Int) < (r_2.length : Int)))) rfl (fun hlt => ?_) (fun hlt => ?_)
  · skip
    have hlt1 : i < r_2.length := by have h := of_decide_eq_true hlt; omega
    obtain ⟨k_1, rfl⟩ : ∃ k2, k_ = k2 + 1 := ⟨k_ - 1, by omega⟩
    obtain ⟨y, hb, hL1⟩ := forN_go hL
    unfold F_spec_l15Shift_l1 at hb
    refine cw_skip ?_
    refine cw_seq ?_
    refine cw_block ?_
    refine cw_seq ?_
    refine cw_region ?_
    obtain ⟨x, hx, hb⟩ := bind_inv hb
    refine sq 15 rfl rfl (Y_index (B := B5) (m := r_2.length) (c := c5) (k := .i64) (i := (i : Int)) k_sl_48_3 k_sz_3_1 rfl (hf.get 11 3 rfl) (hf.get 13 5 rfl) (gi_isSome encI_len rfl (hS5.cf (i := 3) rfl) hx) (getI_nn hx) (getI_ltI hx rfl)) ?_
    refine sq 16 rfl rfl (Y_load1 (B := B5) (i := (i : Int).toNat * 1) (cs := (r_2.flatMap encI)) (v := .int .i64 x) k_sc_3 rfl rfl (hS5.cf (i := 3) rfl) (gi_at0 encI_len hx rfl)) ?_
    refine sq 7 rfl rfl (Y_assign (v := .int .i64 x) rfl rfl) ?_
    refine rw_nil ?_
    refine cw_region ?_
    refine sq 17 rfl rfl (Y_move (v := .slice B4 r_1.length c4) rfl (hf.get 5 2 rfl)) ?_
    refine sq 18 rfl rfl (Y_move (v := .int .i64 x) rfl rfl) ?_
    refine sq 19 rfl rfl (Y_add (k := .i64) (a := x) (b := 1) rfl rfl rfl) ?_
    obtain ⟨x1, hx1, hb⟩ := bind_inv hb
    refine sq 20 rfl rfl (Y_index (B := B4) (m := r_1.length) (c := c4) (k := .i64) (i := (IntKind.i64.wrap (x + 1))) k_sl_48_3 k_sz_3_1 rfl rfl rfl (gi_isSome encI_len rfl (hS5.cf (i := 2) rfl) hx1) (getI_nn hx1) (getI_ltI hx1 hl)) ?_
    refine sq 21 rfl rfl (Y_load1 (B := B4) (i := (IntKind.i64.wrap (x + 1)).toNat * 1) (cs := (by_.flatMap encI)) (v := .int .i64 x1) k_sc_3 rfl rfl (hS5.cf (i := 2) rfl) (gi_at0 encI_len hx1 rfl)) ?_
    refine sq 22 rfl rfl (Y_sub (k := .i64) (a := x1) (b := 1) rfl rfl rfl) ?_
    refine sq 23 rfl rfl (Y_index (B := B4) (m := r_1.length) (c := c4) (k := .i64) (i := (IntKind.i64.wrap (x + 1))) k_sl_48_3 k_sz_3_1 rfl rfl rfl (gi_isSome encI_len rfl (hS5.cf (i := 2) rfl) hx1) (getI_nn hx1) (getI_ltI hx1 hl)) ?_
    refine ss0 rfl rfl (Ys_store (i := 2) (s := 1) (B := B4) (T' := 3) (v := .int .i64 (IntKind.i64.wrap (x1 - 1))) (vs := [.int .i64 (IntKind.i64.wrap (x1 - 1))]) (k := (IntKind.i64.wrap (x + 1)).toNat * 1) (cs' := ((by_.set (IntKind.i64.wrap (x + 1)).toNat (IntKind.i64.wrap (x1 - 1))).flatMap encI)) hS5 k_sz_3_1 rfl rfl rfl rfl rfl rfl rfl (gi_fit0 encI_len hx1) (gi_set encI_len hx1 (IntKind.i64.wrap (x1 - 1)) rfl) rfl) ?_
    rintro _ w_4 ⟨rfl, hS6⟩
    have hS6 : ST w0 [] _ [⟨some ⟨b, 0, none⟩, 52, [.int .i64 p.Qubits, .int .i64 p.Phase, .slice B p.Terms.length c, .slice B1 p.Out.Rows.length c1], 4⟩, ⟨some ⟨b1, 0, none⟩, 52, [.int .i64 0, .int .i64 0, .slice none 0 0, .slice none 0 0], 4⟩, ⟨B4, 3, ((by_.set (IntKind.i64.wrap (x + 1)).toNat (IntKind.i64.wrap (x1 - 1))).flatMap encI), c4 * 1⟩, ⟨B5, 3, (r_2.flatMap encI), c5 * 1⟩] [⟨B, (p.Terms.flatMap enc_Term)⟩, ⟨B1, (p.Out.Rows.flatMap encI)⟩] := hS6
    refine rw_nil ?_
    refine cw_region ?_
    refine sq 24 rfl rfl (Y_add (k := .i64) (a := (i : Int)) (b := 1) rfl (hf.get 13 5 rfl) rfl) ?_
    refine sq 13 rfl rfl (Y_move (v := .int .i64 (IntKind.i64.wrap ((i : Int) + 1))) rfl rfl) ?_
    refine rw_nil ?_
    obtain rfl := some_inj hb
    exact ⟨k_1, Nat.lt_succ_self _, i + 1, (by_.set (IntKind.i64.wrap (x + 1)).toNat (IntKind.i64.wrap (x1 - 1))), (FF.cons (hf.get 2 0 rfl) (FF.cons (hf.get 4 1 rfl) (FF.cons (hf.get 5 2 rfl) (FF.cons (hf.get 11 3 rfl) (FF.cons (hf.get 12 4 rfl) (FF.cons (congrArg (Value.int .i64) (wr_succ hlt1 hN)) FF.nil)))))), (set_len _ _ _ hl), (hS6.sel [0, 1, 2, 3] rfl rfl), (by omega), hL1⟩
  · skip
    obtain rfl : k_ = 0 := by have h := of_decide_eq_false hlt; omega
    refine cw_exit rfl ?_
    obtain rfl := some_inj hL
    refine cw_seq ?_
    obtain ⟨r_3, hc2, hF1⟩ := bind_inv hF1
    obtain ⟨r_4, hc3, hF1⟩ := bind_inv hF1
    refine ra_start (ST.sel hS5 [0, 2, 3] rfl rfl).fn (by kernel_rfl) ?_
    have hS9 := hS5.drew
    refine ra_q 0 25 (v := pt (some ⟨b, 0, none⟩) 0) rfl rfl rfl (by kernel_rfl) (by kernel_rfl) (by kernel_rfl) (ST.sel hS9 [0, 2, 3] rfl rfl) (fun w' hw' => (Y_fieldAddr (B := some ⟨b, 0, none⟩) (i := 0) (s := 0) k_fd_52_0_0_3 k_sz_3_1 rfl (hf.get 2 0 rfl))) ?_
    refine ra_q 1 26 (v := .int .i64 p.Qubits) rfl rfl rfl (by kernel_rfl) (by kernel_rfl) (by kernel_rfl) (ST.sel hS9 [0, 2, 3] rfl rfl) (fun w' hw' => (Y_load1 (B := some ⟨b, 0, none⟩) (i := 0) (cs := [.int .i64 p.Qubits, .int .i64 p.Phase, .slice B p.Terms.length c, .slice B1 p.Out.Rows.length c1]) (v := .int .i64 p.Qubits) k_sc_3 rfl rfl (ST.cf hw' (i := 0) rfl) rfl)) ?_
    refine ra_q 2 27 (v := pt (some ⟨b, 0, none⟩) 1) rfl rfl rfl (by kernel_rfl) (by kernel_rfl) (by kernel_rfl) (ST.sel hS9 [0, 2, 3] rfl rfl) (fun w' hw' => (Y_fieldAddr (B := some ⟨b, 0, none⟩) (i := 0) (s := 0) k_fd_52_1_1_3 k_sz_3_1 rfl (hf.get 2 0 rfl))) ?_
    refine ra_q 3 28 (v := .int .i64 p.Phase) rfl rfl rfl (by kernel_rfl) (by kernel_rfl) (by kernel_rfl) (ST.sel hS9 [0, 2, 3] rfl rfl) (fun w' hw' => (Y_load1 (B := some ⟨b, 0, none⟩) (i := 1) (cs := [.int .i64 p.Qubits, .int .i64 p.Phase, .slice B p.Terms.length c, .slice B1 p.Out.Rows.length c1]) (v := .int .i64 p.Phase) k_sc_3 rfl rfl (ST.cf hw' (i := 0) rfl) rfl)) ?_
    refine ra_q 4 29 (v := .slice B4 r_1.length c4) rfl rfl rfl (by kernel_rfl) (by kernel_rfl) (by kernel_rfl) (ST.sel hS9 [0, 2, 3] rfl rfl) (fun w' hw' => (Y_move (v := .slice B4 r_1.length c4) rfl (hf.get 5 2 rfl))) ?_
    refine ra_q 6 31 (v := pt (some ⟨b, 0, none⟩) 3) rfl rfl rfl (by kernel_rfl) (by kernel_rfl) (by kernel_rfl) (ST.sel hS9 [0, 2, 3] rfl rfl) (fun w' hw' => (Y_fieldAddr (B := some ⟨b, 0, none⟩) (i := 0) (s := 0) k_fd_52_3_3_50 k_sz_50_1 rfl (hf.get 2 0 rfl))) ?_
    refine ra_q 7 32 (v := pt (some ⟨b, 0, none⟩) 3) rfl rfl rfl (by kernel_rfl) (by kernel_rfl) (by kernel_rfl) (ST.sel hS9 [0, 2, 3] rfl rfl) (fun w' hw' => (Y_fieldAddr (B := some ⟨b, 0, none⟩) (i := 3) (s := 0) k_fd_50_0_0_48 k_sz_48_1 rfl rfl)) ?_
    refine ra_q 8 33 (v := .slice B1 p.Out.Rows.length c1) rfl rfl rfl (by kernel_rfl) (by kernel_rfl) (by kernel_rfl) (ST.sel hS9 [0, 2, 3] rfl rfl) (fun w' hw' => (Y_load1 (B := some ⟨b, 0, none⟩) (i := 3) (cs := [.int .i64 p.Qubits, .int .i64 p.Phase, .slice B p.Terms.length c, .slice B1 p.Out.Rows.length c1]) (v := .slice B1 p.Out.Rows.length c1) k_sc_48 rfl rfl (ST.cf hw' (i := 0) rfl) rfl)) ?_
    refine ra_all (rs := [5]) (by kernel_rfl) rfl ?_
    refine ra_c 30 (i := 5) rfl rfl rfl (Yc_func (g := 79) (vs := [.slice B4 r_1.length c4]) k_call_79 rfl (mc rfl mn) (c_spec_l13List by_ B4 c4 r_1.length _ hl (hS9.inn0 [(false, 2)] rfl) hc2)) ?_ ?_
    · rintro _ w_5 ⟨B6, c6, rfl, hd2⟩
      have hS10 := hS9.out0 hd2
      have hS10 : ST w0 [] _ [⟨some ⟨b, 0, none⟩, 52, [.int .i64 p.Qubits, .int .i64 p.Phase, .slice B p.Terms.length c, .slice B1 p.Out.Rows.length c1], 4⟩, ⟨some ⟨b1, 0, none⟩, 52, [.int .i64 0, .int .i64 0, .slice none 0 0, .slice none 0 0], 4⟩, ⟨B4, 3, (by_.flatMap encI), c4 * 1⟩, ⟨B5, 3, (r_2.flatMap encI), c5 * 1⟩, ⟨B6, 104, (r_3.flatMap enc_Term), c6 * 2⟩] [⟨B, (p.Terms.flatMap enc_Term)⟩, ⟨B1, (p.Out.Rows.flatMap encI)⟩] := hS10
      refine ⟨(ST.sel hS10 [0, 2, 3] rfl rfl), ?_⟩
      refine ra_all (rs := [9]) (by kernel_rfl) rfl ?_
      refine ra_c 34 (i := 9) rfl rfl rfl (Yc_func (g := 165) (vs := [.slice B1 p.Out.Rows.length c1]) k_call_165 rfl (mc rfl mn) (c_spec_l1Own p.Out.Rows B1 c1 p.Out.Rows.length _ rfl (hS10.inn0 [(true, 1)] rfl) hc3)) ?_ ?_
      · rintro _ w_6 ⟨B7, c7, rfl, hd3⟩
        have hS11 := hS10.out0 hd3
        have hS11 : ST w0 [] _ [⟨some ⟨b, 0, none⟩, 52, [.int .i64 p.Qubits, .int .i64 p.Phase, .slice B p.Terms.length c, .slice B1 p.Out.Rows.length c1], 4⟩, ⟨some ⟨b1, 0, none⟩, 52, [.int .i64 0, .int .i64 0, .slice none 0 0, .slice none 0 0], 4⟩, ⟨B4, 3, (by_.flatMap encI), c4 * 1⟩, ⟨B5, 3, (r_2.flatMap encI), c5 * 1⟩, ⟨B6, 104, (r_3.flatMap enc_Term), c6 * 2⟩, ⟨B7, 3, (r_4.flatMap encI), c7 * 1⟩] [⟨B, (p.Terms.flatMap enc_Term)⟩, ⟨B1, (p.Out.Rows.flatMap encI)⟩] := hS11
        refine ⟨(ST.sel hS11 [0, 2, 3] rfl rfl), ?_⟩
        refine ra_q 10 35 (v := .agg #[.slice B7 r_4.length c7]) rfl rfl rfl (by kernel_rfl) (by kernel_rfl) (by kernel_rfl) (ST.sel hS11 [0, 2, 3] rfl rfl) (fun w' hw' => (Y_buildS (zs := [.slice none 0 0]) (vs := [(0, .slice B7 r_4.length c7)]) (cs := [.slice B7 r_4.length c7]) k_pl_50 k_zero_50 rfl (mpc rfl mpn) rfl)) ?_
        refine ra_q 11 36 (v := .agg #[.int .i64 p.Qubits, .int .i64 p.Phase, .slice B6 r_3.length c6, .slice B7 r_4.length c7]) rfl rfl rfl (by kernel_rfl) (by kernel_rfl) (by kernel_rfl) (ST.sel hS11 [0, 2, 3] rfl rfl) (fun w' hw' => (Y_buildS (zs := [.int .i64 0, .int .i64 0, .slice none 0 0, .slice none 0 0]) (vs := [(0, .int .i64 p.Qubits), (1, .int .i64 p.Phase), (2, .slice B6 r_3.length c6), (3, .agg #[.slice B7 r_4.length c7])]) (cs := [.int .i64 p.Qubits, .int .i64 p.Phase, .slice B6 r_3.length c6, .slice B7 r_4.length c7]) k_pl_52 k_zero_52 rfl (mpc rfl (mpc rfl (mpc rfl (mpc rfl mpn)))) rfl)) ?_
        refine ra_all (rs := [12]) (by kernel_rfl) rfl ?_
        refine ra_s0 (i := 12) rfl rfl rfl (Ys_store (i := 1) (s := 4) (B := some ⟨b1, 0, none⟩) (T' := 52) (v := .agg #[.int .i64 p.Qubits, .int .i64 p.Phase, .slice B6 r_3.length c6, .slice B7 r_4.length c7]) (vs := [.int .i64 p.Qubits, .int .i64 p.Phase, .slice B6 r_3.length c6, .slice B7 r_4.length c7]) (k := 0) (cs' := [.int .i64 p.Qubits, .int .i64 p.Phase, .slice B6 r_3.length c6, .slice B7 r_4.length c7]) hS11 k_sz_52_4 rfl (hf.get 4 1 rfl) rfl rfl rfl rfl rfl (Nat.le_of_ble_eq_true rfl) rfl rfl) ?_ ?_
        · rintro _ w_7 ⟨rfl, hS12⟩
          have hS12 : ST w0 [] _ [⟨some ⟨b, 0, none⟩, 52, [.int .i64 p.Qubits, .int .i64 p.Phase, .slice B p.Terms.length c, .slice B1 p.Out.Rows.length c1], 4⟩, ⟨some ⟨b1, 0, none⟩, 52, [.int .i64 p.Qubits, .int .i64 p.Phase, .slice B6 r_3.length c6, .slice B7 r_4.length c7], 4⟩, ⟨B4, 3, (by_.flatMap encI), c4 * 1⟩, ⟨B5, 3, (r_2.flatMap encI), c5 * 1⟩, ⟨B6, 104, (r_3.flatMap enc_Term), c6 * 2⟩, ⟨B7, 3, (r_4.flatMap encI), c7 * 1⟩] [⟨B, (p.Terms.flatMap enc_Term)⟩, ⟨B1, (p.Out.Rows.flatMap encI)⟩] := hS12
          refine ⟨(ST.sel hS12 [0, 2, 3] rfl rfl), ?_⟩
          refine ra_done (by kernel_rfl) ?_
          refine cw_ret ?_
          obtain rfl := some_inj hF1
          exact ret1 Try.results131 (v1 := .agg #[.int .i64 p.Qubits, .int .i64 p.Phase, .slice B6 r_3.length c6, .slice B7 r_4.length c7]) (resAt_cellA (B := some ⟨b1, 0, none⟩) (i := 0) (cs := [.int .i64 p.Qubits, .int .i64 p.Phase, .slice B6 r_3.length c6, .slice B7 r_4.length c7]) (vs := [.int .i64 p.Qubits, .int .i64 p.Phase, .slice B6 r_3.length c6, .slice B7 r_4.length c7]) (hf.get 4 1 rfl) k_ag_52 k_sz_52_4 (hS12.cf (i := 1) rfl) rfl rfl) ⟨B6, c6, B7, c7, rfl, (ST.subR (R' := []) (hS12.sel [4, 5] rfl rfl) (fun _ h => by cases h))⟩
        exact allR_nil
      exact allR_nil
    exact allR_nil

theorem c_spec_l1Cur_relative (c : Tl1Cur) (p : TPhasePoly) (B : Option Addr) (B1 : Option Addr) (c1 n : Nat) (B2 : Option Addr) (c2 n1 : Nat) (B3 : Option Addr) (c3 n2 : Nat) (w0 : World) (hn : c.code.length = n) (hn1 : p.Terms.length = n1) (hn2 : p.Out.Rows.length = n2) (hS : ST w0 (bl [⟨B, 87, [.slice B1 n c1, .int .i64 c.at_, .int .u64 c.seed], 3⟩]) w0 [⟨B, 87, [.slice B1 n c1, .int .i64 c.at_, .int .u64 c.seed], 3⟩] [⟨B1, (c.code.flatMap enc_u8)⟩, ⟨B2, (p.Terms.flatMap enc_Term)⟩, ⟨B3, (p.Out.Rows.flatMap encI)⟩]) {r_ : TPhasePoly} {m : Tl1Cur} (hF : F_spec_l1Cur_relative c p = some (r_, m)) :
    CV Try.prog 88 #[pt B 0, .agg #[.int .i64 p.Qubits, .int .i64 p.Phase, .slice B2 n1 c2, .slice B3 n2 c3]] w0 (fun v w' => ∃ (B4 : Option Addr) (c4 : Nat) (B5 : Option Addr) (c5 : Nat), v = .agg #[.int .i64 r_.Qubits, .int .i64 r_.Phase, .slice B4 r_.Terms.length c4, .slice B5 r_.Out.Rows.length c5] ∧ ST w0 (bl [⟨B, 87, [.slice B1 n c1, .int .i64 c.at_, .int .u64 c.seed], 3⟩]) w' [⟨B, 87, [.slice B1 n c1, .int .i64 m.at_, .int .u64 m.seed], 3⟩, ⟨B4, 104, (r_.Terms.flatMap enc_Term), c4 * 2⟩, ⟨B5, 3, (r_.Out.Rows.flatMap encI), c5 * 1⟩] []) := by
  subst hn
  subst hn1
  subst hn2
  unfold F_spec_l1Cur_relative at hF
  refine cv_of_cw 82 Try.func88 rfl Try.ntmps88 rfl ?_
  refine cw_seq ?_
  refine cw_region ?_
  refine ss 3 rfl rfl (Ys_box (T := 52) (v := .agg #[.int .i64 p.Qubits, .int .i64 p.Phase, .slice B2 p.Terms.length c2, .slice B3 p.Out.Rows.length c3]) (cs := [.int .i64 p.Qubits, .int .i64 p.Phase, .slice B2 p.Terms.length c2, .slice B3 p.Out.Rows.length c3]) (m := 4) hS rfl rfl rfl rfl) ?_
  rintro _ w_ ⟨b, rfl, hS1⟩
  have hS1 : ST w0 (bl [⟨B, 87, [.slice B1 c.code.length c1, .int .i64 c.at_, .int .u64 c.seed], 3⟩]) _ [⟨B, 87, [.slice B1 c.code.length c1, .int .i64 c.at_, .int .u64 c.seed], 3⟩, ⟨some ⟨b, 0, none⟩, 52, [.int .i64 p.Qubits, .int .i64 p.Phase, .slice B2 p.Terms.length c2, .slice B3 p.Out.Rows.length c3], 4⟩] [⟨B1, (c.code.flatMap enc_u8)⟩, ⟨B2, (p.Terms.flatMap enc_Term)⟩, ⟨B3, (p.Out.Rows.flatMap encI)⟩] := hS1
  refine ss 4 rfl rfl (Ys_alloc (T := 52) (cs := [.int .i64 0, .int .i64 0, .slice none 0 0, .slice none 0 0]) (m := 4) hS1 k_zero_52 rfl rfl rfl) ?_
  rintro _ w_1 ⟨b1, rfl, hS2⟩
  have hS2 : ST w0 (bl [⟨B, 87, [.slice B1 c.code.length c1, .int .i64 c.at_, .int .u64 c.seed], 3⟩]) _ [⟨B, 87, [.slice B1 c.code.length c1, .int .i64 c.at_, .int .u64 c.seed], 3⟩, ⟨some ⟨b, 0, none⟩, 52, [.int .i64 p.Qubits, .int .i64 p.Phase, .slice B2 p.Terms.length c2, .slice B3 p.Out.Rows.length c3], 4⟩, ⟨some ⟨b1, 0, none⟩, 52, [.int .i64 0, .int .i64 0, .slice none 0 0, .slice none 0 0], 4⟩] [⟨B1, (c.code.flatMap enc_u8)⟩, ⟨B2, (p.Terms.flatMap enc_Term)⟩, ⟨B3, (p.Out.Rows.flatMap encI)⟩] := hS2
  refine rw_nil ?_
  refine cw_seq ?_
  refine cw_region ?_
  refine sq 11 rfl rfl (Y_fieldAddr (B := some ⟨b, 0, none⟩) (i := 0) (s := 0) k_fd_52_0_0_3 k_sz_3_1 rfl rfl) ?_
  refine sq 12 rfl rfl (Y_load1 (B := some ⟨b, 0, none⟩) (i := 0) (cs := [.int .i64 p.Qubits, .int .i64 p.Phase, .slice B2 p.Terms.length c2, .slice B3 p.Out.Rows.length c3]) (v := .int .i64 p.Qubits) k_sc_3 rfl rfl (hS2.cf (i := 1) rfl) rfl) ?_
  obtain ⟨r_1, hc, hF⟩ := bind_inv hF
  refine sc 13 rfl rfl (Yc_func (g := 130) (vs := [.int .i64 p.Qubits]) k_call_130 rfl (mc rfl mn) (c_spec_l15Codes p.Qubits _  (hS2.inn0 [] rfl) hc)) ?_
  rintro _ w_2 ⟨B6, c6, rfl, hd⟩
  have hS3 := hS2.out0 hd
  have hS3 : ST w0 (bl [⟨B, 87, [.slice B1 c.code.length c1, .int .i64 c.at_, .int .u64 c.seed], 3⟩]) _ [⟨B, 87, [.slice B1 c.code.length c1, .int .i64 c.at_, .int .u64 c.seed], 3⟩, ⟨some ⟨b, 0, none⟩, 52, [.int .i64 p.Qubits, .int .i64 p.Phase, .slice B2 p.Terms.length c2, .slice B3 p.Out.Rows.length c3], 4⟩, ⟨some ⟨b1, 0, none⟩, 52, [.int .i64 0, .int .i64 0, .slice none 0 0, .slice none 0 0], 4⟩, ⟨B6, 3, (r_1.flatMap encI), c6 * 1⟩] [⟨B1, (c.code.flatMap enc_u8)⟩, ⟨B2, (p.Terms.flatMap enc_Term)⟩, ⟨B3, (p.Out.Rows.flatMap encI)⟩] := hS3
  refine sq 5 rfl rfl (Y_assign (v := .slice B6 r_1.length c6) rfl rfl) ?_
  refine rw_nil ?_
  refine cw_seq ?_
  obtain ⟨⟨r_2, m1⟩, hc1, hF⟩ := bind_inv hF
  obtain ⟨x, hx, hF⟩ := bind_inv hF
  obtain ⟨r_3, hc2, hF⟩ := bind_inv hF
  refine cw_mid (fun f w => ∃ (B9 : Option Addr) (B10 : Option Addr) (c9 : Nat) (B11 : Option Addr) (c10 : Nat), FF f [(0, pt B 0), (3, pt (some ⟨b, 0, none⟩) 0), (4, pt (some ⟨b1, 0, none⟩) 0), (6, pt B9 0)] ∧ ST w0 (bl [⟨B, 87, [.slice B1 c.code.length c1, .int .i64 c.at_, .int .u64 c.seed], 3⟩]) w [⟨B, 87, [.slice B1 c.code.length c1, .int .i64 m1.at_, .int .u64 m1.seed], 3⟩, ⟨some ⟨b, 0, none⟩, 52, [.int .i64 p.Qubits, .int .i64 p.Phase, .slice B2 p.Terms.length c2, .slice B3 p.Out.Rows.length c3], 4⟩, ⟨some ⟨b1, 0, none⟩, 52, [.int .i64 0, .int .i64 0, .slice none 0 0, .slice none 0 0], 4⟩, ⟨B9, 52, [.int .i64 r_3.Qubits, .int .i64 r_3.Phase, .slice B10 r_3.Terms.length c9, .slice B11 r_3.Out.Rows.length c10], 4⟩, ⟨B10, 104, (r_3.Terms.flatMap enc_Term), c9 * 2⟩, ⟨B11, 3, (r_3.Out.Rows.flatMap encI), c10 * 1⟩] [⟨B1, (c.code.flatMap enc_u8)⟩, ⟨B2, (p.Terms.flatMap enc_Term)⟩, ⟨B3, (p.Out.Rows.flatMap encI)⟩]) ?_ ?_
  · skip
    refine ra_start (ST.sel hS3 [1, 2, 3] rfl rfl).fn (by kernel_rfl) ?_
    have hS7 := hS3.drew
    refine ra_q 0 14 (v := .agg #[.int .i64 p.Qubits, .int .i64 p.Phase, .slice B2 p.Terms.length c2, .slice B3 p.Out.Rows.length c3]) rfl rfl rfl (by kernel_rfl) (by kernel_rfl) (by kernel_rfl) (ST.sel hS7 [1, 2, 3] rfl rfl) (fun w' hw' => (Y_loadA (B := some ⟨b, 0, none⟩) (i := 0) (cs := [.int .i64 p.Qubits, .int .i64 p.Phase, .slice B2 p.Terms.length c2, .slice B3 p.Out.Rows.length c3]) (vs := [.int .i64 p.Qubits, .int .i64 p.Phase, .slice B2 p.Terms.length c2, .slice B3 p.Out.Rows.length c3]) k_ag_52 k_sz_52_4 rfl rfl (ST.cf hw' (i := 0) rfl) rfl rfl)) ?_
    refine ra_q 1 15 (v := .slice B6 r_1.length c6) rfl rfl rfl (by kernel_rfl) (by kernel_rfl) (by kernel_rfl) (ST.sel hS7 [1, 2, 3] rfl rfl) (fun w' hw' => (Y_move (v := .slice B6 r_1.length c6) rfl rfl)) ?_
    refine ra_q 2 16 (v := pt B 0) rfl rfl rfl (by kernel_rfl) (by kernel_rfl) (by kernel_rfl) (ST.sel hS7 [1, 2, 3] rfl rfl) (fun w' hw' => (Y_move (v := pt B 0) rfl rfl)) ?_
    refine ra_q 3 17 (v := .slice B6 r_1.length c6) rfl rfl rfl (by kernel_rfl) (by kernel_rfl) (by kernel_rfl) (ST.sel hS7 [1, 2, 3] rfl rfl) (fun w' hw' => (Y_move (v := .slice B6 r_1.length c6) rfl rfl)) ?_
    refine ra_q 4 18 (v := .int .i64 (r_1.length : Int)) rfl rfl rfl (by kernel_rfl) (by kernel_rfl) (by kernel_rfl) (ST.sel hS7 [1, 2, 3] rfl rfl) (fun w' hw' => (Y_len (B := B6) (m := r_1.length) (c := c6) k_sl_48_3 rfl rfl)) ?_
    refine ra_all (rs := [5, 9]) (by kernel_rfl) rfl ?_
    refine ra_c 19 (i := 5) rfl rfl rfl (Yc_func (g := 69) (vs := [pt B 0, .int .i64 (r_1.length : Int)]) k_call_69 rfl (mc rfl (mc rfl mn)) (c_spec_l1Cur_pick c (r_1.length : Int) B B1 c1 c.code.length _ rfl (hS7.inn [true, false, false, false] rfl [(true, 0)] rfl) hc1)) ?_ ?_
    · rintro _ w_3 ⟨rfl, hd1⟩
      have hS8 := hS7.out [true, false, false, false] rfl hd1
      have hS8 : ST w0 (bl [⟨B, 87, [.slice B1 c.code.length c1, .int .i64 c.at_, .int .u64 c.seed], 3⟩]) _ [⟨some ⟨b, 0, none⟩, 52, [.int .i64 p.Qubits, .int .i64 p.Phase, .slice B2 p.Terms.length c2, .slice B3 p.Out.Rows.length c3], 4⟩, ⟨some ⟨b1, 0, none⟩, 52, [.int .i64 0, .int .i64 0, .slice none 0 0, .slice none 0 0], 4⟩, ⟨B6, 3, (r_1.flatMap encI), c6 * 1⟩, ⟨B, 87, [.slice B1 c.code.length c1, .int .i64 m1.at_, .int .u64 m1.seed], 3⟩] [⟨B1, (c.code.flatMap enc_u8)⟩, ⟨B2, (p.Terms.flatMap enc_Term)⟩, ⟨B3, (p.Out.Rows.flatMap encI)⟩] := hS8
      refine ⟨(ST.sel hS8 [0, 1, 2] rfl rfl), ?_⟩
      refine ra_q 6 20 (v := pt B6 (r_2.toNat * 1)) rfl rfl rfl (by kernel_rfl) (by kernel_rfl) (by kernel_rfl) (ST.sel hS8 [0, 1, 2] rfl rfl) (fun w' hw' => (Y_index (B := B6) (m := r_1.length) (c := c6) (k := .i64) (i := r_2) k_sl_48_3 k_sz_3_1 rfl rfl rfl (gi_isSome encI_len rfl (ST.cf hw' (i := 2) rfl) hx) (getI_nn hx) (getI_ltI hx rfl))) ?_
      refine ra_q 7 21 (v := .int .i64 x) rfl rfl rfl (by kernel_rfl) (by kernel_rfl) (by kernel_rfl) (ST.sel hS8 [0, 1, 2] rfl rfl) (fun w' hw' => (Y_load1 (B := B6) (i := r_2.toNat * 1) (cs := (r_1.flatMap encI)) (v := .int .i64 x) k_sc_3 rfl rfl (ST.cf hw' (i := 2) rfl) (gi_at0 encI_len hx rfl))) ?_
      refine ra_all (rs := [8, 9]) (by kernel_rfl) rfl ?_
      refine ra_c 22 (i := 8) rfl rfl rfl (Yc_func (g := 131) (vs := [.agg #[.int .i64 p.Qubits, .int .i64 p.Phase, .slice B2 p.Terms.length c2, .slice B3 p.Out.Rows.length c3], .int .i64 x]) k_call_131 rfl (mc rfl (mc rfl mn)) (c_spec_l15Shift p x B2 c2 p.Terms.length B3 c3 p.Out.Rows.length _ rfl rfl (hS8.inn0 [(true, 1), (true, 2)] rfl) hc2)) ?_ ?_
      · rintro _ w_4 ⟨B7, c7, B8, c8, rfl, hd2⟩
        have hS9 := hS8.out0 hd2
        have hS9 : ST w0 (bl [⟨B, 87, [.slice B1 c.code.length c1, .int .i64 c.at_, .int .u64 c.seed], 3⟩]) _ [⟨some ⟨b, 0, none⟩, 52, [.int .i64 p.Qubits, .int .i64 p.Phase, .slice B2 p.Terms.length c2, .slice B3 p.Out.Rows.length c3], 4⟩, ⟨some ⟨b1, 0, none⟩, 52, [.int .i64 0, .int .i64 0, .slice none 0 0, .slice none 0 0], 4⟩, ⟨B6, 3, (r_1.flatMap encI), c6 * 1⟩, ⟨B, 87, [.slice B1 c.code.length c1, .int .i64 m1.at_, .int .u64 m1.seed], 3⟩, ⟨B7, 104, (r_3.Terms.flatMap enc_Term), c7 * 2⟩, ⟨B8, 3, (r_3.Out.Rows.flatMap encI), c8 * 1⟩] [⟨B1, (c.code.flatMap enc_u8)⟩, ⟨B2, (p.Terms.flatMap enc_Term)⟩, ⟨B3, (p.Out.Rows.flatMap encI)⟩] := hS9
        refine ⟨(ST.sel hS9 [0, 1, 2] rfl rfl), ?_⟩
        refine ra_all (rs := [9]) (by kernel_rfl) rfl ?_
        refine ra_s 6 (i := 9) rfl rfl rfl (Ys_alloc (T := 52) (cs := [.int .i64 0, .int .i64 0, .slice none 0 0, .slice none 0 0]) (m := 4) hS9 k_zero_52 rfl rfl rfl) ?_ ?_
        · rintro _ w_5 ⟨b2, rfl, hS10⟩
          have hS10 : ST w0 (bl [⟨B, 87, [.slice B1 c.code.length c1, .int .i64 c.at_, .int .u64 c.seed], 3⟩]) _ [⟨some ⟨b, 0, none⟩, 52, [.int .i64 p.Qubits, .int .i64 p.Phase, .slice B2 p.Terms.length c2, .slice B3 p.Out.Rows.length c3], 4⟩, ⟨some ⟨b1, 0, none⟩, 52, [.int .i64 0, .int .i64 0, .slice none 0 0, .slice none 0 0], 4⟩, ⟨B6, 3, (r_1.flatMap encI), c6 * 1⟩, ⟨B, 87, [.slice B1 c.code.length c1, .int .i64 m1.at_, .int .u64 m1.seed], 3⟩, ⟨B7, 104, (r_3.Terms.flatMap enc_Term), c7 * 2⟩, ⟨B8, 3, (r_3.Out.Rows.flatMap encI), c8 * 1⟩, ⟨some ⟨b2, 0, none⟩, 52, [.int .i64 0, .int .i64 0, .slice none 0 0, .slice none 0 0], 4⟩] [⟨B1, (c.code.flatMap enc_u8)⟩, ⟨B2, (p.Terms.flatMap enc_Term)⟩, ⟨B3, (p.Out.Rows.flatMap encI)⟩] := hS10
          refine ⟨(ST.sel hS10 [0, 1, 2] rfl rfl), ?_⟩
          refine ra_all (rs := [10]) (by kernel_rfl) rfl ?_
          refine ra_s0 (i := 10) rfl rfl rfl (Ys_store (i := 6) (s := 4) (B := some ⟨b2, 0, none⟩) (T' := 52) (v := .agg #[.int .i64 r_3.Qubits, .int .i64 r_3.Phase, .slice B7 r_3.Terms.length c7, .slice B8 r_3.Out.Rows.length c8]) (vs := [.int .i64 r_3.Qubits, .int .i64 r_3.Phase, .slice B7 r_3.Terms.length c7, .slice B8 r_3.Out.Rows.length c8]) (k := 0) (cs' := [.int .i64 r_3.Qubits, .int .i64 r_3.Phase, .slice B7 r_3.Terms.length c7, .slice B8 r_3.Out.Rows.length c8]) hS10 k_sz_52_4 rfl rfl rfl rfl rfl rfl rfl (Nat.le_of_ble_eq_true rfl) rfl rfl) ?_ ?_
          · rintro _ w_6 ⟨rfl, hS11⟩
            have hS11 : ST w0 (bl [⟨B, 87, [.slice B1 c.code.length c1, .int .i64 c.at_, .int .u64 c.seed], 3⟩]) _ [⟨some ⟨b, 0, none⟩, 52, [.int .i64 p.Qubits, .int .i64 p.Phase, .slice B2 p.Terms.length c2, .slice B3 p.Out.Rows.length c3], 4⟩, ⟨some ⟨b1, 0, none⟩, 52, [.int .i64 0, .int .i64 0, .slice none 0 0, .slice none 0 0], 4⟩, ⟨B6, 3, (r_1.flatMap encI), c6 * 1⟩, ⟨B, 87, [.slice B1 c.code.length c1, .int .i64 m1.at_, .int .u64 m1.seed], 3⟩, ⟨B7, 104, (r_3.Terms.flatMap enc_Term), c7 * 2⟩, ⟨B8, 3, (r_3.Out.Rows.flatMap encI), c8 * 1⟩, ⟨some ⟨b2, 0, none⟩, 52, [.int .i64 r_3.Qubits, .int .i64 r_3.Phase, .slice B7 r_3.Terms.length c7, .slice B8 r_3.Out.Rows.length c8], 4⟩] [⟨B1, (c.code.flatMap enc_u8)⟩, ⟨B2, (p.Terms.flatMap enc_Term)⟩, ⟨B3, (p.Out.Rows.flatMap encI)⟩] := hS11
            refine ⟨(ST.sel hS11 [0, 1, 2] rfl rfl), ?_⟩
            refine ra_done (by kernel_rfl) ?_
            exact ⟨some ⟨b2, 0, none⟩, B7, c7, B8, c8, (FF.cons rfl (FF.cons rfl (FF.cons rfl (FF.cons rfl FF.nil)))), (hS11.sel [3, 0, 1, 6, 4, 5] rfl rfl)⟩
          exact allR_nil
        exact allR_nil
      refine ra_s 6 (i := 9) rfl rfl rfl (Ys_alloc (T := 52) (cs := [.int .i64 0, .int .i64 0, .slice none 0 0, .slice none 0 0]) (m := 4) hS8 k_zero_52 rfl rfl rfl) ?_ ?_
      · rintro _ w_7 ⟨b2, rfl, hS12⟩
        have hS12 : ST w0 (bl [⟨B, 87, [.slice B1 c.code.length c1, .int .i64 c.at_, .int .u64 c.seed], 3⟩]) _ [⟨some ⟨b, 0, none⟩, 52, [.int .i64 p.Qubits, .int .i64 p.Phase, .slice B2 p.Terms.length c2, .slice B3 p.Out.Rows.length c3], 4⟩, ⟨some ⟨b1, 0, none⟩, 52, [.int .i64 0, .int .i64 0, .slice none 0 0, .slice none 0 0], 4⟩, ⟨B6, 3, (r_1.flatMap encI), c6 * 1⟩, ⟨B, 87, [.slice B1 c.code.length c1, .int .i64 m1.at_, .int .u64 m1.seed], 3⟩, ⟨some ⟨b2, 0, none⟩, 52, [.int .i64 0, .int .i64 0, .slice none 0 0, .slice none 0 0], 4⟩] [⟨B1, (c.code.flatMap enc_u8)⟩, ⟨B2, (p.Terms.flatMap enc_Term)⟩, ⟨B3, (p.Out.Rows.flatMap encI)⟩] := hS12
        refine ⟨(ST.sel hS12 [0, 1, 2] rfl rfl), ?_⟩
        refine ra_all (rs := [8]) (by kernel_rfl) rfl ?_
        refine ra_c 22 (i := 8) rfl rfl rfl (Yc_func (g := 131) (vs := [.agg #[.int .i64 p.Qubits, .int .i64 p.Phase, .slice B2 p.Terms.length c2, .slice B3 p.Out.Rows.length c3], .int .i64 x]) k_call_131 rfl (mc rfl (mc rfl mn)) (c_spec_l15Shift p x B2 c2 p.Terms.length B3 c3 p.Out.Rows.length _ rfl rfl (hS12.inn0 [(true, 1), (true, 2)] rfl) hc2)) ?_ ?_
        · rintro _ w_8 ⟨B7, c7, B8, c8, rfl, hd3⟩
          have hS13 := hS12.out0 hd3
          have hS13 : ST w0 (bl [⟨B, 87, [.slice B1 c.code.length c1, .int .i64 c.at_, .int .u64 c.seed], 3⟩]) _ [⟨some ⟨b, 0, none⟩, 52, [.int .i64 p.Qubits, .int .i64 p.Phase, .slice B2 p.Terms.length c2, .slice B3 p.Out.Rows.length c3], 4⟩, ⟨some ⟨b1, 0, none⟩, 52, [.int .i64 0, .int .i64 0, .slice none 0 0, .slice none 0 0], 4⟩, ⟨B6, 3, (r_1.flatMap encI), c6 * 1⟩, ⟨B, 87, [.slice B1 c.code.length c1, .int .i64 m1.at_, .int .u64 m1.seed], 3⟩, ⟨some ⟨b2, 0, none⟩, 52, [.int .i64 0, .int .i64 0, .slice none 0 0, .slice none 0 0], 4⟩, ⟨B7, 104, (r_3.Terms.flatMap enc_Term), c7 * 2⟩, ⟨B8, 3, (r_3.Out.Rows.flatMap encI), c8 * 1⟩] [⟨B1, (c.code.flatMap enc_u8)⟩, ⟨B2, (p.Terms.flatMap enc_Term)⟩, ⟨B3, (p.Out.Rows.flatMap encI)⟩] := hS13
          refine ⟨(ST.sel hS13 [0, 1, 2] rfl rfl), ?_⟩
          refine ra_all (rs := [10]) (by kernel_rfl) rfl ?_
          refine ra_s0 (i := 10) rfl rfl rfl (Ys_store (i := 4) (s := 4) (B := some ⟨b2, 0, none⟩) (T' := 52) (v := .agg #[.int .i64 r_3.Qubits, .int .i64 r_3.Phase, .slice B7 r_3.Terms.length c7, .slice B8 r_3.Out.Rows.length c8]) (vs := [.int .i64 r_3.Qubits, .int .i64 r_3.Phase, .slice B7 r_3.Terms.length c7, .slice B8 r_3.Out.Rows.length c8]) (k := 0) (cs' := [.int .i64 r_3.Qubits, .int .i64 r_3.Phase, .slice B7 r_3.Terms.length c7, .slice B8 r_3.Out.Rows.length c8]) hS13 k_sz_52_4 rfl rfl rfl rfl rfl rfl rfl (Nat.le_of_ble_eq_true rfl) rfl rfl) ?_ ?_
          · rintro _ w_9 ⟨rfl, hS14⟩
            have hS14 : ST w0 (bl [⟨B, 87, [.slice B1 c.code.length c1, .int .i64 c.at_, .int .u64 c.seed], 3⟩]) _ [⟨some ⟨b, 0, none⟩, 52, [.int .i64 p.Qubits, .int .i64 p.Phase, .slice B2 p.Terms.length c2, .slice B3 p.Out.Rows.length c3], 4⟩, ⟨some ⟨b1, 0, none⟩, 52, [.int .i64 0, .int .i64 0, .slice none 0 0, .slice none 0 0], 4⟩, ⟨B6, 3, (r_1.flatMap encI), c6 * 1⟩, ⟨B, 87, [.slice B1 c.code.length c1, .int .i64 m1.at_, .int .u64 m1.seed], 3⟩, ⟨some ⟨b2, 0, none⟩, 52, [.int .i64 r_3.Qubits, .int .i64 r_3.Phase, .slice B7 r_3.Terms.length c7, .slice B8 r_3.Out.Rows.length c8], 4⟩, ⟨B7, 104, (r_3.Terms.flatMap enc_Term), c7 * 2⟩, ⟨B8, 3, (r_3.Out.Rows.flatMap encI), c8 * 1⟩] [⟨B1, (c.code.flatMap enc_u8)⟩, ⟨B2, (p.Terms.flatMap enc_Term)⟩, ⟨B3, (p.Out.Rows.flatMap encI)⟩] := hS14
            refine ⟨(ST.sel hS14 [0, 1, 2] rfl rfl), ?_⟩
            refine ra_done (by kernel_rfl) ?_
            exact ⟨some ⟨b2, 0, none⟩, B7, c7, B8, c8, (FF.cons rfl (FF.cons rfl (FF.cons rfl (FF.cons rfl FF.nil)))), (hS14.sel [3, 0, 1, 4, 5, 6] rfl rfl)⟩
          exact allR_nil
        exact allR_nil
      exact allR_nil
    refine ra_s 6 (i := 9) rfl rfl rfl (Ys_alloc (T := 52) (cs := [.int .i64 0, .int .i64 0, .slice none 0 0, .slice none 0 0]) (m := 4) hS7 k_zero_52 rfl rfl rfl) ?_ ?_
    · rintro _ w_10 ⟨b2, rfl, hS15⟩
      have hS15 : ST w0 (bl [⟨B, 87, [.slice B1 c.code.length c1, .int .i64 c.at_, .int .u64 c.seed], 3⟩]) _ [⟨B, 87, [.slice B1 c.code.length c1, .int .i64 c.at_, .int .u64 c.seed], 3⟩, ⟨some ⟨b, 0, none⟩, 52, [.int .i64 p.Qubits, .int .i64 p.Phase, .slice B2 p.Terms.length c2, .slice B3 p.Out.Rows.length c3], 4⟩, ⟨some ⟨b1, 0, none⟩, 52, [.int .i64 0, .int .i64 0, .slice none 0 0, .slice none 0 0], 4⟩, ⟨B6, 3, (r_1.flatMap encI), c6 * 1⟩, ⟨some ⟨b2, 0, none⟩, 52, [.int .i64 0, .int .i64 0, .slice none 0 0, .slice none 0 0], 4⟩] [⟨B1, (c.code.flatMap enc_u8)⟩, ⟨B2, (p.Terms.flatMap enc_Term)⟩, ⟨B3, (p.Out.Rows.flatMap encI)⟩] := hS15
      refine ⟨(ST.sel hS15 [1, 2, 3] rfl rfl), ?_⟩
      refine ra_all (rs := [5]) (by kernel_rfl) rfl ?_
      refine ra_c 19 (i := 5) rfl rfl rfl (Yc_func (g := 69) (vs := [pt B 0, .int .i64 (r_1.length : Int)]) k_call_69 rfl (mc rfl (mc rfl mn)) (c_spec_l1Cur_pick c (r_1.length : Int) B B1 c1 c.code.length _ rfl (hS15.inn [true, false, false, false, false] rfl [(true, 0)] rfl) hc1)) ?_ ?_
      · rintro _ w_11 ⟨rfl, hd4⟩
        have hS16 := hS15.out [true, false, false, false, false] rfl hd4
        have hS16 : ST w0 (bl [⟨B, 87, [.slice B1 c.code.length c1, .int .i64 c.at_, .int .u64 c.seed], 3⟩]) _ [⟨some ⟨b, 0, none⟩, 52, [.int .i64 p.Qubits, .int .i64 p.Phase, .slice B2 p.Terms.length c2, .slice B3 p.Out.Rows.length c3], 4⟩, ⟨some ⟨b1, 0, none⟩, 52, [.int .i64 0, .int .i64 0, .slice none 0 0, .slice none 0 0], 4⟩, ⟨B6, 3, (r_1.flatMap encI), c6 * 1⟩, ⟨some ⟨b2, 0, none⟩, 52, [.int .i64 0, .int .i64 0, .slice none 0 0, .slice none 0 0], 4⟩, ⟨B, 87, [.slice B1 c.code.length c1, .int .i64 m1.at_, .int .u64 m1.seed], 3⟩] [⟨B1, (c.code.flatMap enc_u8)⟩, ⟨B2, (p.Terms.flatMap enc_Term)⟩, ⟨B3, (p.Out.Rows.flatMap encI)⟩] := hS16
        refine ⟨(ST.sel hS16 [0, 1, 2] rfl rfl), ?_⟩
        refine ra_q 6 20 (v := pt B6 (r_2.toNat * 1)) rfl rfl rfl (by kernel_rfl) (by kernel_rfl) (by kernel_rfl) (ST.sel hS16 [0, 1, 2] rfl rfl) (fun w' hw' => (Y_index (B := B6) (m := r_1.length) (c := c6) (k := .i64) (i := r_2) k_sl_48_3 k_sz_3_1 rfl rfl rfl (gi_isSome encI_len rfl (ST.cf hw' (i := 2) rfl) hx) (getI_nn hx) (getI_ltI hx rfl))) ?_
        refine ra_q 7 21 (v := .int .i64 x) rfl rfl rfl (by kernel_rfl) (by kernel_rfl) (by kernel_rfl) (ST.sel hS16 [0, 1, 2] rfl rfl) (fun w' hw' => (Y_load1 (B := B6) (i := r_2.toNat * 1) (cs := (r_1.flatMap encI)) (v := .int .i64 x) k_sc_3 rfl rfl (ST.cf hw' (i := 2) rfl) (gi_at0 encI_len hx rfl))) ?_
        refine ra_all (rs := [8]) (by kernel_rfl) rfl ?_
        refine ra_c 22 (i := 8) rfl rfl rfl (Yc_func (g := 131) (vs := [.agg #[.int .i64 p.Qubits, .int .i64 p.Phase, .slice B2 p.Terms.length c2, .slice B3 p.Out.Rows.length c3], .int .i64 x]) k_call_131 rfl (mc rfl (mc rfl mn)) (c_spec_l15Shift p x B2 c2 p.Terms.length B3 c3 p.Out.Rows.length _ rfl rfl (hS16.inn0 [(true, 1), (true, 2)] rfl) hc2)) ?_ ?_
        · rintro _ w_12 ⟨B7, c7, B8, c8, rfl, hd5⟩
          have hS17 := hS16.out0 hd5
          have hS17 : ST w0 (bl [⟨B, 87, [.slice B1 c.code.length c1, .int .i64 c.at_, .int .u64 c.seed], 3⟩]) _ [⟨some ⟨b, 0, none⟩, 52, [.int .i64 p.Qubits, .int .i64 p.Phase, .slice B2 p.Terms.length c2, .slice B3 p.Out.Rows.length c3], 4⟩, ⟨some ⟨b1, 0, none⟩, 52, [.int .i64 0, .int .i64 0, .slice none 0 0, .slice none 0 0], 4⟩, ⟨B6, 3, (r_1.flatMap encI), c6 * 1⟩, ⟨some ⟨b2, 0, none⟩, 52, [.int .i64 0, .int .i64 0, .slice none 0 0, .slice none 0 0], 4⟩, ⟨B, 87, [.slice B1 c.code.length c1, .int .i64 m1.at_, .int .u64 m1.seed], 3⟩, ⟨B7, 104, (r_3.Terms.flatMap enc_Term), c7 * 2⟩, ⟨B8, 3, (r_3.Out.Rows.flatMap encI), c8 * 1⟩] [⟨B1, (c.code.flatMap enc_u8)⟩, ⟨B2, (p.Terms.flatMap enc_Term)⟩, ⟨B3, (p.Out.Rows.flatMap encI)⟩] := hS17
          refine ⟨(ST.sel hS17 [0, 1, 2] rfl rfl), ?_⟩
          refine ra_all (rs := [10]) (by kernel_rfl) rfl ?_
          refine ra_s0 (i := 10) rfl rfl rfl (Ys_store (i := 3) (s := 4) (B := some ⟨b2, 0, none⟩) (T' := 52) (v := .agg #[.int .i64 r_3.Qubits, .int .i64 r_3.Phase, .slice B7 r_3.Terms.length c7, .slice B8 r_3.Out.Rows.length c8]) (vs := [.int .i64 r_3.Qubits, .int .i64 r_3.Phase, .slice B7 r_3.Terms.length c7, .slice B8 r_3.Out.Rows.length c8]) (k := 0) (cs' := [.int .i64 r_3.Qubits, .int .i64 r_3.Phase, .slice B7 r_3.Terms.length c7, .slice B8 r_3.Out.Rows.length c8]) hS17 k_sz_52_4 rfl rfl rfl rfl rfl rfl rfl (Nat.le_of_ble_eq_true rfl) rfl rfl) ?_ ?_
          · rintro _ w_13 ⟨rfl, hS18⟩
            have hS18 : ST w0 (bl [⟨B, 87, [.slice B1 c.code.length c1, .int .i64 c.at_, .int .u64 c.seed], 3⟩]) _ [⟨some ⟨b, 0, none⟩, 52, [.int .i64 p.Qubits, .int .i64 p.Phase, .slice B2 p.Terms.length c2, .slice B3 p.Out.Rows.length c3], 4⟩, ⟨some ⟨b1, 0, none⟩, 52, [.int .i64 0, .int .i64 0, .slice none 0 0, .slice none 0 0], 4⟩, ⟨B6, 3, (r_1.flatMap encI), c6 * 1⟩, ⟨some ⟨b2, 0, none⟩, 52, [.int .i64 r_3.Qubits, .int .i64 r_3.Phase, .slice B7 r_3.Terms.length c7, .slice B8 r_3.Out.Rows.length c8], 4⟩, ⟨B, 87, [.slice B1 c.code.length c1, .int .i64 m1.at_, .int .u64 m1.seed], 3⟩, ⟨B7, 104, (r_3.Terms.flatMap enc_Term), c7 * 2⟩, ⟨B8, 3, (r_3.Out.Rows.flatMap encI), c8 * 1⟩] [⟨B1, (c.code.flatMap enc_u8)⟩, ⟨B2, (p.Terms.flatMap enc_Term)⟩, ⟨B3, (p.Out.Rows.flatMap encI)⟩] := hS18
            refine ⟨(ST.sel hS18 [0, 1, 2] rfl rfl), ?_⟩
            refine ra_done (by kernel_rfl) ?_
            exact ⟨some ⟨b2, 0, none⟩, B7, c7, B8, c8, (FF.cons rfl (FF.cons rfl (FF.cons rfl (FF.cons rfl FF.nil)))), (hS18.sel [4, 0, 1, 3, 5, 6] rfl rfl)⟩
          exact allR_nil
        exact allR_nil
      exact allR_nil
    exact allR_nil
  rintro f w ⟨B9, B10, c9, B11, c10, hf, hS6⟩
  refine cw_seq ?_
  refine cw_region ?_
  refine sq 23 rfl rfl (Y_loadA (B := B9) (i := 0) (cs := [.int .i64 r_3.Qubits, .int .i64 r_3.Phase, .slice B10 r_3.Terms.length c9, .slice B11 r_3.Out.Rows.length c10]) (vs := [.int .i64 r_3.Qubits, .int .i64 r_3.Phase, .slice B10 r_3.Terms.length c9, .slice B11 r_3.Out.Rows.length c10]) k_ag_52 k_sz_52_4 rfl (hf.get 6 3 rfl) (hS6.cf (i := 3) rfl) rfl rfl) ?_
  obtain ⟨r_4, hc3, hF⟩ := bind_inv hF
  refine sc 24 rfl rfl (Yc_func (g := 77) (vs := [.agg #[.int .i64 r_3.Qubits, .int .i64 r_3.Phase, .slice B10 r_3.Terms.length c9, .slice B11 r_3.Out.Rows.length c10]]) k_call_77 rfl (mc rfl mn) (c_spec_l13By r_3 B10 c9 r_3.Terms.length B11 c10 r_3.Out.Rows.length _ rfl rfl (hS6.inn0 [(false, 4), (false, 5)] rfl) hc3)) ?_
  rintro _ w_14 ⟨B12, c11, rfl, hd6⟩
  have hS19 := hS6.out0 hd6
  have hS19 : ST w0 (bl [⟨B, 87, [.slice B1 c.code.length c1, .int .i64 c.at_, .int .u64 c.seed], 3⟩]) _ [⟨B, 87, [.slice B1 c.code.length c1, .int .i64 m1.at_, .int .u64 m1.seed], 3⟩, ⟨some ⟨b, 0, none⟩, 52, [.int .i64 p.Qubits, .int .i64 p.Phase, .slice B2 p.Terms.length c2, .slice B3 p.Out.Rows.length c3], 4⟩, ⟨some ⟨b1, 0, none⟩, 52, [.int .i64 0, .int .i64 0, .slice none 0 0, .slice none 0 0], 4⟩, ⟨B9, 52, [.int .i64 r_3.Qubits, .int .i64 r_3.Phase, .slice B10 r_3.Terms.length c9, .slice B11 r_3.Out.Rows.length c10], 4⟩, ⟨B10, 104, (r_3.Terms.flatMap enc_Term), c9 * 2⟩, ⟨B11, 3, (r_3.Out.Rows.flatMap encI), c10 * 1⟩, ⟨B12, 3, (r_4.flatMap encI), c11 * 1⟩] [⟨B1, (c.code.flatMap enc_u8)⟩, ⟨B2, (p.Terms.flatMap enc_Term)⟩, ⟨B3, (p.Out.Rows.flatMap encI)⟩] := hS19
  refine sq 7 rfl rfl (Y_assign (v := .slice B12 r_4.length c11) rfl rfl) ?_
  refine rw_nil ?_
  refine cw_seq ?_
  obtain ⟨z, hz, hF1⟩ := bind_inv hF
  refine cw_mid (fun f w => ∃ (at_ : Int) (seed : Int) (by_ : List Int), (at_, seed, by_) = z ∧ FF f [(0, pt B 0), (4, pt (some ⟨b1, 0, none⟩) 0), (6, pt B9 0), (7, .slice B12 r_4.length c11)] ∧ by_.length = r_4.length ∧ ST w0 (bl [⟨B, 87, [.slice B1 c.code.length c1, .int .i64 c.at_, .int .u64 c.seed], 3⟩]) w [⟨B, 87, [.slice B1 c.code.length c1, .int .i64 at_, .int .u64 seed], 3⟩, ⟨some ⟨b1, 0, none⟩, 52, [.int .i64 0, .int .i64 0, .slice none 0 0, .slice none 0 0], 4⟩, ⟨B9, 52, [.int .i64 r_3.Qubits, .int .i64 r_3.Phase, .slice B10 r_3.Terms.length c9, .slice B11 r_3.Out.Rows.length c10], 4⟩, ⟨B10, 104, (r_3.Terms.flatMap enc_Term), c9 * 2⟩, ⟨B11, 3, (r_3.Out.Rows.flatMap encI), c10 * 1⟩, ⟨B12, 3, (by_.flatMap encI), c11 * 1⟩] [⟨B1, (c.code.flatMap enc_u8)⟩, ⟨B2, (p.Terms.flatMap enc_Term)⟩, ⟨B3, (p.Out.Rows.flatMap encI)⟩]) ?_ ?_
  · skip
    refine cw_seq ?_
    refine cw_region ?_
    refine sq 25 rfl rfl (Y_fieldAddr (B := some ⟨b, 0, none⟩) (i := 0) (s := 0) k_fd_52_0_0_3 k_sz_3_1 rfl (hf.get 3 1 rfl)) ?_
    refine sq 26 rfl rfl (Y_load1 (B := some ⟨b, 0, none⟩) (i := 0) (cs := [.int .i64 p.Qubits, .int .i64 p.Phase, .slice B2 p.Terms.length c2, .slice B3 p.Out.Rows.length c3]) (v := .int .i64 p.Qubits) k_sc_3 rfl rfl (hS19.cf (i := 1) rfl) rfl) ?_
    refine sq 8 rfl rfl (Y_assign (v := .int .i64 p.Qubits) rfl rfl) ?_
    refine rw_nil ?_
    refine cw_seq ?_
    refine cw_region ?_
    refine sq 27 rfl rfl (Y_move (v := .int .i64 p.Qubits) rfl rfl) ?_
    refine sq 28 rfl rfl (Y_ge (k := .i64) (a := p.Qubits) (b := 3) rfl rfl rfl) ?_
    refine sq 29 rfl rfl (Y_move (v := .bool (decide (3 ≤ p.Qubits))) rfl rfl) ?_
    refine sgq 30 (B := (decide (3 ≤ p.Qubits))) (v := pt B 0) rfl rfl (wt_t (gd_of (t := 29) (by kernel_rfl) rfl)) (fun hg => (Y_move (v := pt B 0) rfl (hf.get 0 0 rfl))) ?_
    refine rw_split (B := (decide (3 ≤ p.Qubits))) (fun hb => ?_) (fun hb => ?_)
    · skip
      have hF2 := ct hz hb
      obtain ⟨⟨r_5, m2⟩, hc4, hF2⟩ := bind_inv hF2
      refine scg 31 rfl rfl (wt_t (gd_of (t := 29) (by kernel_rfl) rfl)) hb (Yc_func (g := 55) (vs := [pt B 0, .int .i64 2]) k_call_55 rfl (mc (gv_of (B := (decide (3 ≤ p.Qubits))) (v := pt B 0) hb) (mc rfl mn)) (c_spec_l1Cur_one (Tl1Cur.mk c.code m1.at_ m1.seed) 2 B B1 c1 c.code.length _ rfl (hS19.inn [true, false, false, false, false, false, false] rfl [(true, 0)] rfl) hc4)) ?_
      rintro _ w_15 ⟨rfl, hd7⟩
      have hS21 := hS19.out [true, false, false, false, false, false, false] rfl hd7
      have hS21 : ST w0 (bl [⟨B, 87, [.slice B1 c.code.length c1, .int .i64 c.at_, .int .u64 c.seed], 3⟩]) _ [⟨some ⟨b, 0, none⟩, 52, [.int .i64 p.Qubits, .int .i64 p.Phase, .slice B2 p.Terms.length c2, .slice B3 p.Out.Rows.length c3], 4⟩, ⟨some ⟨b1, 0, none⟩, 52, [.int .i64 0, .int .i64 0, .slice none 0 0, .slice none 0 0], 4⟩, ⟨B9, 52, [.int .i64 r_3.Qubits, .int .i64 r_3.Phase, .slice B10 r_3.Terms.length c9, .slice B11 r_3.Out.Rows.length c10], 4⟩, ⟨B10, 104, (r_3.Terms.flatMap enc_Term), c9 * 2⟩, ⟨B11, 3, (r_3.Out.Rows.flatMap encI), c10 * 1⟩, ⟨B12, 3, (r_4.flatMap encI), c11 * 1⟩, ⟨B, 87, [.slice B1 c.code.length c1, .int .i64 m2.at_, .int .u64 m2.seed], 3⟩] [⟨B1, (c.code.flatMap enc_u8)⟩, ⟨B2, (p.Terms.flatMap enc_Term)⟩, ⟨B3, (p.Out.Rows.flatMap encI)⟩] := hS21
      refine sq 32 rfl rfl (Y_pickT (b := (decide (3 ≤ p.Qubits))) (v := .bool r_5) rfl rfl hb rfl) ?_
      refine rw_nil ?_
      refine cw_cond (b := r_5) rfl (fun hb1 => ?_) (fun hb1 => ?_)
      · skip
        have hF3 := ct hF2 hb1
        refine cw_seq ?_
        refine cw_region ?_
        refine sq 9 rfl rfl (Y_assign (v := .int .i64 0) rfl rfl) ?_
        refine rw_nil ?_
        refine cw_seq ?_
        obtain ⟨z1, hz1, hF4⟩ := bind_inv hF3
        refine cw_mid (fun f w => ∃ (at_1 : Int) (seed1 : Int) (a : Int), (at_1, seed1, a) = z1 ∧ FF f [(0, pt B 0), (4, pt (some ⟨b1, 0, none⟩) 0), (6, pt B9 0), (7, .slice B12 r_4.length c11), (8, .int .i64 p.Qubits), (9, .int .i64 a)] ∧ ST w0 (bl [⟨B, 87, [.slice B1 c.code.length c1, .int .i64 c.at_, .int .u64 c.seed], 3⟩]) w [⟨B, 87, [.slice B1 c.code.length c1, .int .i64 at_1, .int .u64 seed1], 3⟩, ⟨some ⟨b1, 0, none⟩, 52, [.int .i64 0, .int .i64 0, .slice none 0 0, .slice none 0 0], 4⟩, ⟨B9, 52, [.int .i64 r_3.Qubits, .int .i64 r_3.Phase, .slice B10 r_3.Terms.length c9, .slice B11 r_3.Out.Rows.length c10], 4⟩, ⟨B10, 104, (r_3.Terms.flatMap enc_Term), c9 * 2⟩, ⟨B11, 3, (r_3.Out.Rows.flatMap encI), c10 * 1⟩, ⟨B12, 3, (r_4.flatMap encI), c11 * 1⟩] [⟨B1, (c.code.flatMap enc_u8)⟩, ⟨B2, (p.Terms.flatMap enc_Term)⟩, ⟨B3, (p.Out.Rows.flatMap encI)⟩]) ?_ ?_
        · skip
          refine cw_seq ?_
          refine cw_region ?_
          refine sq 33 rfl rfl (Y_move (v := .int .i64 p.Qubits) rfl rfl) ?_
          refine sq 34 rfl rfl (Y_ge (k := .i64) (a := p.Qubits) (b := 4) rfl rfl rfl) ?_
          refine rw_nil ?_
          refine cw_cond (b := (decide (4 ≤ p.Qubits))) rfl (fun hb2 => ?_) (fun hb2 => ?_)
          · skip
            have hF5 := ct hz1 hb2
            refine cw_region ?_
            refine sq 35 rfl rfl (Y_move (v := pt B 0) rfl (hf.get 0 0 rfl)) ?_
            refine sq 36 rfl rfl (Y_move (v := .int .i64 p.Qubits) rfl rfl) ?_
            refine sq 37 rfl rfl (Y_conv (k := .i64) (a := p.Qubits) (T := 3) (T' := 63) k_us_3 k_int_63_u64 rfl rfl) ?_
            obtain ⟨hsh, hF5⟩ := chk_inv hF5
            refine sq 38 rfl rfl (Y_shl (k := .i64) (a := 1) (k' := .u64) (b := (IntKind.u64.wrap p.Qubits)) rfl rfl rfl hsh) ?_
            obtain ⟨⟨r_6, m3⟩, hc5, hF5⟩ := bind_inv hF5
            refine sc 39 rfl rfl (Yc_func (g := 69) (vs := [pt B 0, .int .i64 (shlK .i64 1 (IntKind.u64.wrap p.Qubits))]) k_call_69 rfl (mc rfl (mc rfl mn)) (c_spec_l1Cur_pick (Tl1Cur.mk c.code m2.at_ m2.seed) (shlK .i64 1 (IntKind.u64.wrap p.Qubits)) B B1 c1 c.code.length _ rfl (hS21.inn [false, false, false, false, false, false, true] rfl [(true, 0)] rfl) hc5)) ?_
            rintro _ w_16 ⟨rfl, hd8⟩
            have hS23 := hS21.out [false, false, false, false, false, false, true] rfl hd8
            have hS23 : ST w0 (bl [⟨B, 87, [.slice B1 c.code.length c1, .int .i64 c.at_, .int .u64 c.seed], 3⟩]) _ [⟨some ⟨b, 0, none⟩, 52, [.int .i64 p.Qubits, .int .i64 p.Phase, .slice B2 p.Terms.length c2, .slice B3 p.Out.Rows.length c3], 4⟩, ⟨some ⟨b1, 0, none⟩, 52, [.int .i64 0, .int .i64 0, .slice none 0 0, .slice none 0 0], 4⟩, ⟨B9, 52, [.int .i64 r_3.Qubits, .int .i64 r_3.Phase, .slice B10 r_3.Terms.length c9, .slice B11 r_3.Out.Rows.length c10], 4⟩, ⟨B10, 104, (r_3.Terms.flatMap enc_Term), c9 * 2⟩, ⟨B11, 3, (r_3.Out.Rows.flatMap encI), c10 * 1⟩, ⟨B12, 3, (r_4.flatMap encI), c11 * 1⟩, ⟨B, 87, [.slice B1 c.code.length c1, .int .i64 m3.at_, .int .u64 m3.seed], 3⟩] [⟨B1, (c.code.flatMap enc_u8)⟩, ⟨B2, (p.Terms.flatMap enc_Term)⟩, ⟨B3, (p.Out.Rows.flatMap encI)⟩] := hS23
            refine sq 9 rfl rfl (Y_assign (v := .int .i64 r_6) rfl rfl) ?_
            refine rw_nil ?_
            exact ⟨m3.at_, m3.seed, r_6, (some_inj hF5), (FF.cons (hf.get 0 0 rfl) (FF.cons (hf.get 4 2 rfl) (FF.cons (hf.get 6 3 rfl) (FF.cons rfl (FF.cons rfl (FF.cons rfl FF.nil)))))), (hS23.sel [6, 1, 2, 3, 4, 5] rfl rfl)⟩
          · skip
            have hF6 := cf' hz1 hb2
            refine cw_skip ?_
            exact ⟨m2.at_, m2.seed, 0, (some_inj hF6), (FF.cons (hf.get 0 0 rfl) (FF.cons (hf.get 4 2 rfl) (FF.cons (hf.get 6 3 rfl) (FF.cons rfl (FF.cons rfl (FF.cons rfl FF.nil)))))), (hS21.sel [6, 1, 2, 3, 4, 5] rfl rfl)⟩
        rintro f w ⟨at_1, seed1, a, rfl, hf2, hS22⟩
        refine cw_seq ?_
        refine cw_region ?_
        refine sq 10 rfl rfl (Y_assign (v := .int .i64 1) rfl rfl) ?_
        refine rw_nil ?_
        obtain ⟨z2, hz2, hF7⟩ := bind_inv hF4
        refine cw_block ?_
        refine cw_loop (fun k f w => ∃ (by_1 : List Int) (m4 : Int), FF f [(0, pt B 0), (4, pt (some ⟨b1, 0, none⟩) 0), (6, pt B9 0), (7, .slice B12 r_4.length c11), (8, .int .i64 p.Qubits), (9, .int .i64 a), (10, .int .i64 m4)] ∧ by_1.length = r_4.length ∧ ST w0 (bl [⟨B, 87, [.slice B1 c.code.length c1, .int .i64 c.at_, .int .u64 c.seed], 3⟩]) w [⟨B, 87, [.slice B1 c.code.length c1, .int .i64 at_1, .int .u64 seed1], 3⟩, ⟨some ⟨b1, 0, none⟩, 52, [.int .i64 0, .int .i64 0, .slice none 0 0, .slice none 0 0], 4⟩, ⟨B9, 52, [.int .i64 r_3.Qubits, .int .i64 r_3.Phase, .slice B10 r_3.Terms.length c9, .slice B11 r_3.Out.Rows.length c10], 4⟩, ⟨B10, 104, (r_3.Terms.flatMap enc_Term), c9 * 2⟩, ⟨B11, 3, (r_3.Out.Rows.flatMap encI), c10 * 1⟩, ⟨B12, 3, (by_1.flatMap encI), c11 * 1⟩] [⟨B1, (c.code.flatMap enc_u8)⟩, ⟨B2, (p.Terms.flatMap enc_Term)⟩, ⟨B3, (p.Out.Rows.flatMap encI)⟩] ∧ whX (F_spec_l1Cur_relative_l1 p a) k (by_1, m4) = some z2) fuel ⟨r_4, 1, (FF.cons (hf2.get 0 0 rfl) (FF.cons (hf2.get 4 1 rfl) (FF.cons (hf2.get 6 2 rfl) (FF.cons (hf2.get 7 3 rfl) (FF.cons (hf2.get 8 4 rfl) (FF.cons (hf2.get 9 5 rfl) (FF.cons rfl FF.nil))))))), rfl, (hS22.sel [0, 1, 2, 3, 4, 5] rfl rfl), hz2⟩ ?_
        rintro k_ f w ⟨by_1, m4, hf3, hl1, hS24, hL⟩
        obtain ⟨k_1, y, rfl, hb3, hL1⟩ := whX_go hL
        unfold F_spec_l1Cur_relative_l1 at hb3
        refine cw_seq ?_
        refine cw_seq ?_
        refine cw_region ?_
        refine sq 40 rfl rfl (Y_move (v := .int .i64 m4) rfl (hf3.get 10 6 rfl)) ?_
        refine sq 41 rfl rfl (Y_move (v := .int .i64 p.Qubits) rfl (hf3.get 8 4 rfl)) ?_
        refine sq 42 rfl rfl (Y_conv (k := .i64) (a := p.Qubits) (T := 3) (T' := 63) k_us_3 k_int_63_u64 rfl rfl) ?_
        obtain ⟨hsh1, hb3⟩ := chk_inv hb3
        refine sq 43 rfl rfl (Y_shl (k := .i64) (a := 1) (k' := .u64) (b := (IntKind.u64.wrap p.Qubits)) rfl rfl rfl hsh1) ?_
        refine sq 44 rfl rfl (Y_lt (k := .i64) (a := m4) (b := (shlK .i64 1 (IntKind.u64.wrap p.Qubits))) rfl rfl rfl) ?_
        refine rw_nil ?_
        refine cw_cond (b := (decide (m4 < (shlK .i64 1 (IntKind.u64.wrap p.Qubits))))) rfl (fun hb4 => ?_) (fun hb4 => ?_)
        · skip
          have hF8 := ct hb3 hb4
          refine cw_skip ?_
          refine cw_seq ?_
          refine cw_block ?_
          obtain ⟨x1, hx1, hF8⟩ := bind_inv hF8
          obtain ⟨r_7, hc6, hF8⟩ := bind_inv hF8
          refine cw_mid (fun f w => FF f [(0, pt B 0), (4, pt (some ⟨b1, 0, none⟩) 0), (6, pt B9 0), (7, .slice B12 r_4.length c11), (8, .int .i64 p.Qubits), (9, .int .i64 a), (10, .int .i64 m4)] ∧ ST w0 (bl [⟨B, 87, [.slice B1 c.code.length c1, .int .i64 c.at_, .int .u64 c.seed], 3⟩]) w [⟨B, 87, [.slice B1 c.code.length c1, .int .i64 at_1, .int .u64 seed1], 3⟩, ⟨some ⟨b1, 0, none⟩, 52, [.int .i64 0, .int .i64 0, .slice none 0 0, .slice none 0 0], 4⟩, ⟨B9, 52, [.int .i64 r_3.Qubits, .int .i64 r_3.Phase, .slice B10 r_3.Terms.length c9, .slice B11 r_3.Out.Rows.length c10], 4⟩, ⟨B10, 104, (r_3.Terms.flatMap enc_Term), c9 * 2⟩, ⟨B11, 3, (r_3.Out.Rows.flatMap encI), c10 * 1⟩, ⟨B12, 3, ((by_1.set m4.toNat (IntKind.i64.wrap (x1 + (IntKind.i64.wrap (2 * (IntKind.i64.wrap (1 - r_7))))))).flatMap encI), c11 * 1⟩] [⟨B1, (c.code.flatMap enc_u8)⟩, ⟨B2, (p.Terms.flatMap enc_Term)⟩, ⟨B3, (p.Out.Rows.flatMap encI)⟩]) ?_ ?_
          · skip
            refine ra_start (ST.sel hS24 [0, 1, 2, 3, 4] rfl rfl).fn (by kernel_rfl) ?_
            have hS27 := hS24.drew
            refine ra_q 0 47 (v := .slice B12 r_4.length c11) rfl rfl rfl (by kernel_rfl) (by kernel_rfl) (by kernel_rfl) (ST.sel hS27 [0, 1, 2, 3, 4] rfl rfl) (fun w' hw' => (Y_move (v := .slice B12 r_4.length c11) rfl (hf3.get 7 3 rfl))) ?_
            refine ra_q 1 48 (v := .int .i64 m4) rfl rfl rfl (by kernel_rfl) (by kernel_rfl) (by kernel_rfl) (ST.sel hS27 [0, 1, 2, 3, 4] rfl rfl) (fun w' hw' => (Y_move (v := .int .i64 m4) rfl (hf3.get 10 6 rfl))) ?_
            refine ra_q 4 51 (v := .int .i64 m4) rfl rfl rfl (by kernel_rfl) (by kernel_rfl) (by kernel_rfl) (ST.sel hS27 [0, 1, 2, 3, 4] rfl rfl) (fun w' hw' => (Y_move (v := .int .i64 m4) rfl (hf3.get 10 6 rfl))) ?_
            refine ra_q 5 52 (v := .int .i64 a) rfl rfl rfl (by kernel_rfl) (by kernel_rfl) (by kernel_rfl) (ST.sel hS27 [0, 1, 2, 3, 4] rfl rfl) (fun w' hw' => (Y_move (v := .int .i64 a) rfl (hf3.get 9 5 rfl))) ?_
            refine ra_q 6 53 (v := .int .i64 (bits .and .i64 m4 a)) rfl rfl rfl (by kernel_rfl) (by kernel_rfl) (by kernel_rfl) (ST.sel hS27 [0, 1, 2, 3, 4] rfl rfl) (fun w' hw' => (Y_band (k := .i64) (a := m4) (b := a) rfl rfl rfl)) ?_
            refine ra_all (rs := [2, 7]) (by kernel_rfl) rfl ?_
            refine ra_y 49 (i := 2) (v := pt B12 (m4.toNat * 1)) rfl rfl rfl (Y_index (B := B12) (m := r_4.length) (c := c11) (k := .i64) (i := m4) k_sl_48_3 k_sz_3_1 rfl rfl rfl (gi_isSome encI_len rfl (hS27.cf (i := 5) rfl) hx1) (getI_nn hx1) (getI_ltI hx1 hl1)) (ST.sel hS27 [0, 1, 2, 3, 4] rfl rfl) ?_ ?_
            · skip
              refine ra_all (rs := [3, 7]) (by kernel_rfl) rfl ?_
              refine ra_y 50 (i := 3) (v := .int .i64 x1) rfl rfl rfl (Y_load1 (B := B12) (i := m4.toNat * 1) (cs := (by_1.flatMap encI)) (v := .int .i64 x1) k_sc_3 rfl rfl (hS27.cf (i := 5) rfl) (gi_at0 encI_len hx1 rfl)) (ST.sel hS27 [0, 1, 2, 3, 4] rfl rfl) ?_ ?_
              · skip
                refine ra_all (rs := [7]) (by kernel_rfl) rfl ?_
                refine ra_c 54 (i := 7) rfl rfl rfl (Yc_func (g := 132) (vs := [.int .i64 (bits .and .i64 m4 a)]) k_call_132 rfl (mc rfl mn) (c_spec_l13Parity (bits .and .i64 m4 a) _  (hS27.inn0 [] rfl) hc6)) ?_ ?_
                · rintro _ w_17 ⟨rfl, hd9⟩
                  have hS28 := hS27.out00 hd9
                  have hS28 : ST w0 (bl [⟨B, 87, [.slice B1 c.code.length c1, .int .i64 c.at_, .int .u64 c.seed], 3⟩]) _ [⟨B, 87, [.slice B1 c.code.length c1, .int .i64 at_1, .int .u64 seed1], 3⟩, ⟨some ⟨b1, 0, none⟩, 52, [.int .i64 0, .int .i64 0, .slice none 0 0, .slice none 0 0], 4⟩, ⟨B9, 52, [.int .i64 r_3.Qubits, .int .i64 r_3.Phase, .slice B10 r_3.Terms.length c9, .slice B11 r_3.Out.Rows.length c10], 4⟩, ⟨B10, 104, (r_3.Terms.flatMap enc_Term), c9 * 2⟩, ⟨B11, 3, (r_3.Out.Rows.flatMap encI), c10 * 1⟩, ⟨B12, 3, (by_1.flatMap encI), c11 * 1⟩] [⟨B1, (c.code.flatMap enc_u8)⟩, ⟨B2, (p.Terms.flatMap enc_Term)⟩, ⟨B3, (p.Out.Rows.flatMap encI)⟩] := hS28
                  refine ⟨(ST.sel hS28 [0, 1, 2, 3, 4] rfl rfl), ?_⟩
                  refine ra_q 8 55 (v := .int .i64 (IntKind.i64.wrap (1 - r_7))) rfl rfl rfl (by kernel_rfl) (by kernel_rfl) (by kernel_rfl) (ST.sel hS28 [0, 1, 2, 3, 4] rfl rfl) (fun w' hw' => (Y_sub (k := .i64) (a := 1) (b := r_7) rfl rfl rfl)) ?_
                  refine ra_q 9 56 (v := .int .i64 (IntKind.i64.wrap (2 * (IntKind.i64.wrap (1 - r_7))))) rfl rfl rfl (by kernel_rfl) (by kernel_rfl) (by kernel_rfl) (ST.sel hS28 [0, 1, 2, 3, 4] rfl rfl) (fun w' hw' => (Y_mul (k := .i64) (a := 2) (b := (IntKind.i64.wrap (1 - r_7))) rfl rfl rfl)) ?_
                  refine ra_q 10 57 (v := .int .i64 (IntKind.i64.wrap (x1 + (IntKind.i64.wrap (2 * (IntKind.i64.wrap (1 - r_7))))))) rfl rfl rfl (by kernel_rfl) (by kernel_rfl) (by kernel_rfl) (ST.sel hS28 [0, 1, 2, 3, 4] rfl rfl) (fun w' hw' => (Y_add (k := .i64) (a := x1) (b := (IntKind.i64.wrap (2 * (IntKind.i64.wrap (1 - r_7))))) rfl rfl rfl)) ?_
                  refine ra_all (rs := [11]) (by kernel_rfl) rfl ?_
                  refine ra_y 58 (i := 11) (v := pt B12 (m4.toNat * 1)) rfl rfl rfl (Y_index (B := B12) (m := r_4.length) (c := c11) (k := .i64) (i := m4) k_sl_48_3 k_sz_3_1 rfl rfl rfl (gi_isSome encI_len rfl (hS28.cf (i := 5) rfl) hx1) (getI_nn hx1) (getI_ltI hx1 hl1)) (ST.sel hS28 [0, 1, 2, 3, 4] rfl rfl) ?_ ?_
                  · skip
                    refine ra_all (rs := [12]) (by kernel_rfl) rfl ?_
                    refine ra_s0 (i := 12) rfl rfl rfl (Ys_store (i := 5) (s := 1) (B := B12) (T' := 3) (v := .int .i64 (IntKind.i64.wrap (x1 + (IntKind.i64.wrap (2 * (IntKind.i64.wrap (1 - r_7))))))) (vs := [.int .i64 (IntKind.i64.wrap (x1 + (IntKind.i64.wrap (2 * (IntKind.i64.wrap (1 - r_7))))))]) (k := m4.toNat * 1) (cs' := ((by_1.set m4.toNat (IntKind.i64.wrap (x1 + (IntKind.i64.wrap (2 * (IntKind.i64.wrap (1 - r_7))))))).flatMap encI)) hS28 k_sz_3_1 rfl rfl rfl rfl rfl rfl rfl (gi_fit0 encI_len hx1) (gi_set encI_len hx1 (IntKind.i64.wrap (x1 + (IntKind.i64.wrap (2 * (IntKind.i64.wrap (1 - r_7)))))) rfl) rfl) ?_ ?_
                    · rintro _ w_18 ⟨rfl, hS29⟩
                      have hS29 : ST w0 (bl [⟨B, 87, [.slice B1 c.code.length c1, .int .i64 c.at_, .int .u64 c.seed], 3⟩]) _ [⟨B, 87, [.slice B1 c.code.length c1, .int .i64 at_1, .int .u64 seed1], 3⟩, ⟨some ⟨b1, 0, none⟩, 52, [.int .i64 0, .int .i64 0, .slice none 0 0, .slice none 0 0], 4⟩, ⟨B9, 52, [.int .i64 r_3.Qubits, .int .i64 r_3.Phase, .slice B10 r_3.Terms.length c9, .slice B11 r_3.Out.Rows.length c10], 4⟩, ⟨B10, 104, (r_3.Terms.flatMap enc_Term), c9 * 2⟩, ⟨B11, 3, (r_3.Out.Rows.flatMap encI), c10 * 1⟩, ⟨B12, 3, ((by_1.set m4.toNat (IntKind.i64.wrap (x1 + (IntKind.i64.wrap (2 * (IntKind.i64.wrap (1 - r_7))))))).flatMap encI), c11 * 1⟩] [⟨B1, (c.code.flatMap enc_u8)⟩, ⟨B2, (p.Terms.flatMap enc_Term)⟩, ⟨B3, (p.Out.Rows.flatMap encI)⟩] := hS29
                      refine ⟨(ST.sel hS29 [0, 1, 2, 3, 4] rfl rfl), ?_⟩
                      refine ra_done (by kernel_rfl) ?_
                      exact ⟨(FF.cons (hf3.get 0 0 rfl) (FF.cons (hf3.get 4 1 rfl) (FF.cons (hf3.get 6 2 rfl) (FF.cons (hf3.get 7 3 rfl) (FF.cons (hf3.get 8 4 rfl) (FF.cons (hf3.get 9 5 rfl) (FF.cons (hf3.get 10 6 rfl) FF.nil))))))), (hS29.sel [0, 1, 2, 3, 4, 5] rfl rfl)⟩
                    exact allR_nil
                  exact allR_nil
                exact allR_nil
              refine ra_c 54 (i := 7) rfl rfl rfl (Yc_func (g := 132) (vs := [.int .i64 (bits .and .i64 m4 a)]) k_call_132 rfl (mc rfl mn) (c_spec_l13Parity (bits .and .i64 m4 a) _  (hS27.inn0 [] rfl) hc6)) ?_ ?_
              · rintro _ w_19 ⟨rfl, hd10⟩
                have hS30 := hS27.out00 hd10
                have hS30 : ST w0 (bl [⟨B, 87, [.slice B1 c.code.length c1, .int .i64 c.at_, .int .u64 c.seed], 3⟩]) _ [⟨B, 87, [.slice B1 c.code.length c1, .int .i64 at_1, .int .u64 seed1], 3⟩, ⟨some ⟨b1, 0, none⟩, 52, [.int .i64 0, .int .i64 0, .slice none 0 0, .slice none 0 0], 4⟩, ⟨B9, 52, [.int .i64 r_3.Qubits, .int .i64 r_3.Phase, .slice B10 r_3.Terms.length c9, .slice B11 r_3.Out.Rows.length c10], 4⟩, ⟨B10, 104, (r_3.Terms.flatMap enc_Term), c9 * 2⟩, ⟨B11, 3, (r_3.Out.Rows.flatMap encI), c10 * 1⟩, ⟨B12, 3, (by_1.flatMap encI), c11 * 1⟩] [⟨B1, (c.code.flatMap enc_u8)⟩, ⟨B2, (p.Terms.flatMap enc_Term)⟩, ⟨B3, (p.Out.Rows.flatMap encI)⟩] := hS30
                refine ⟨(ST.sel hS30 [0, 1, 2, 3, 4] rfl rfl), ?_⟩
                refine ra_q 8 55 (v := .int .i64 (IntKind.i64.wrap (1 - r_7))) rfl rfl rfl (by kernel_rfl) (by kernel_rfl) (by kernel_rfl) (ST.sel hS30 [0, 1, 2, 3, 4] rfl rfl) (fun w' hw' => (Y_sub (k := .i64) (a := 1) (b := r_7) rfl rfl rfl)) ?_
                refine ra_q 9 56 (v := .int .i64 (IntKind.i64.wrap (2 * (IntKind.i64.wrap (1 - r_7))))) rfl rfl rfl (by kernel_rfl) (by kernel_rfl) (by kernel_rfl) (ST.sel hS30 [0, 1, 2, 3, 4] rfl rfl) (fun w' hw' => (Y_mul (k := .i64) (a := 2) (b := (IntKind.i64.wrap (1 - r_7))) rfl rfl rfl)) ?_
                refine ra_all (rs := [3]) (by kernel_rfl) rfl ?_
                refine ra_y 50 (i := 3) (v := .int .i64 x1) rfl rfl rfl (Y_load1 (B := B12) (i := m4.toNat * 1) (cs := (by_1.flatMap encI)) (v := .int .i64 x1) k_sc_3 rfl rfl (hS30.cf (i := 5) rfl) (gi_at0 encI_len hx1 rfl)) (ST.sel hS30 [0, 1, 2, 3, 4] rfl rfl) ?_ ?_
                · skip
                  refine ra_q 10 57 (v := .int .i64 (IntKind.i64.wrap (x1 + (IntKind.i64.wrap (2 * (IntKind.i64.wrap (1 - r_7))))))) rfl rfl rfl (by kernel_rfl) (by kernel_rfl) (by kernel_rfl) (ST.sel hS30 [0, 1, 2, 3, 4] rfl rfl) (fun w' hw' => (Y_add (k := .i64) (a := x1) (b := (IntKind.i64.wrap (2 * (IntKind.i64.wrap (1 - r_7))))) rfl rfl rfl)) ?_
                  refine ra_all (rs := [11]) (by kernel_rfl) rfl ?_
                  refine ra_y 58 (i := 11) (v := pt B12 (m4.toNat * 1)) rfl rfl rfl (Y_index (B := B12) (m := r_4.length) (c := c11) (k := .i64) (i := m4) k_sl_48_3 k_sz_3_1 rfl rfl rfl (gi_isSome encI_len rfl (hS30.cf (i := 5) rfl) hx1) (getI_nn hx1) (getI_ltI hx1 hl1)) (ST.sel hS30 [0, 1, 2, 3, 4] rfl rfl) ?_ ?_
                  · skip
                    refine ra_all (rs := [12]) (by kernel_rfl) rfl ?_
                    refine ra_s0 (i := 12) rfl rfl rfl (Ys_store (i := 5) (s := 1) (B := B12) (T' := 3) (v := .int .i64 (IntKind.i64.wrap (x1 + (IntKind.i64.wrap (2 * (IntKind.i64.wrap (1 - r_7))))))) (vs := [.int .i64 (IntKind.i64.wrap (x1 + (IntKind.i64.wrap (2 * (IntKind.i64.wrap (1 - r_7))))))]) (k := m4.toNat * 1) (cs' := ((by_1.set m4.toNat (IntKind.i64.wrap (x1 + (IntKind.i64.wrap (2 * (IntKind.i64.wrap (1 - r_7))))))).flatMap encI)) hS30 k_sz_3_1 rfl rfl rfl rfl rfl rfl rfl (gi_fit0 encI_len hx1) (gi_set encI_len hx1 (IntKind.i64.wrap (x1 + (IntKind.i64.wrap (2 * (IntKind.i64.wrap (1 - r_7)))))) rfl) rfl) ?_ ?_
                    · rintro _ w_20 ⟨rfl, hS31⟩
                      have hS31 : ST w0 (bl [⟨B, 87, [.slice B1 c.code.length c1, .int .i64 c.at_, .int .u64 c.seed], 3⟩]) _ [⟨B, 87, [.slice B1 c.code.length c1, .int .i64 at_1, .int .u64 seed1], 3⟩, ⟨some ⟨b1, 0, none⟩, 52, [.int .i64 0, .int .i64 0, .slice none 0 0, .slice none 0 0], 4⟩, ⟨B9, 52, [.int .i64 r_3.Qubits, .int .i64 r_3.Phase, .slice B10 r_3.Terms.length c9, .slice B11 r_3.Out.Rows.length c10], 4⟩, ⟨B10, 104, (r_3.Terms.flatMap enc_Term), c9 * 2⟩, ⟨B11, 3, (r_3.Out.Rows.flatMap encI), c10 * 1⟩, ⟨B12, 3, ((by_1.set m4.toNat (IntKind.i64.wrap (x1 + (IntKind.i64.wrap (2 * (IntKind.i64.wrap (1 - r_7))))))).flatMap encI), c11 * 1⟩] [⟨B1, (c.code.flatMap enc_u8)⟩, ⟨B2, (p.Terms.flatMap enc_Term)⟩, ⟨B3, (p.Out.Rows.flatMap encI)⟩] := hS31
                      refine ⟨(ST.sel hS31 [0, 1, 2, 3, 4] rfl rfl), ?_⟩
                      refine ra_done (by kernel_rfl) ?_
                      exact ⟨(FF.cons (hf3.get 0 0 rfl) (FF.cons (hf3.get 4 1 rfl) (FF.cons (hf3.get 6 2 rfl) (FF.cons (hf3.get 7 3 rfl) (FF.cons (hf3.get 8 4 rfl) (FF.cons (hf3.get 9 5 rfl) (FF.cons (hf3.get 10 6 rfl) FF.nil))))))), (hS31.sel [0, 1, 2, 3, 4, 5] rfl rfl)⟩
                    exact allR_nil
                  exact allR_nil
                exact allR_nil
              exact allR_nil
            refine ra_c 54 (i := 7) rfl rfl rfl (Yc_func (g := 132) (vs := [.int .i64 (bits .and .i64 m4 a)]) k_call_132 rfl (mc rfl mn) (c_spec_l13Parity (bits .and .i64 m4 a) _  (hS27.inn0 [] rfl) hc6)) ?_ ?_
            · rintro _ w_21 ⟨rfl, hd11⟩
              have hS32 := hS27.out00 hd11
              have hS32 : ST w0 (bl [⟨B, 87, [.slice B1 c.code.length c1, .int .i64 c.at_, .int .u64 c.seed], 3⟩]) _ [⟨B, 87, [.slice B1 c.code.length c1, .int .i64 at_1, .int .u64 seed1], 3⟩, ⟨some ⟨b1, 0, none⟩, 52, [.int .i64 0, .int .i64 0, .slice none 0 0, .slice none 0 0], 4⟩, ⟨B9, 52, [.int .i64 r_3.Qubits, .int .i64 r_3.Phase, .slice B10 r_3.Terms.length c9, .slice B11 r_3.Out.Rows.length c10], 4⟩, ⟨B10, 104, (r_3.Terms.flatMap enc_Term), c9 * 2⟩, ⟨B11, 3, (r_3.Out.Rows.flatMap encI), c10 * 1⟩, ⟨B12, 3, (by_1.flatMap encI), c11 * 1⟩] [⟨B1, (c.code.flatMap enc_u8)⟩, ⟨B2, (p.Terms.flatMap enc_Term)⟩, ⟨B3, (p.Out.Rows.flatMap encI)⟩] := hS32
              refine ⟨(ST.sel hS32 [0, 1, 2, 3, 4] rfl rfl), ?_⟩
              refine ra_q 8 55 (v := .int .i64 (IntKind.i64.wrap (1 - r_7))) rfl rfl rfl (by kernel_rfl) (by kernel_rfl) (by kernel_rfl) (ST.sel hS32 [0, 1, 2, 3, 4] rfl rfl) (fun w' hw' => (Y_sub (k := .i64) (a := 1) (b := r_7) rfl rfl rfl)) ?_
              refine ra_q 9 56 (v := .int .i64 (IntKind.i64.wrap (2 * (IntKind.i64.wrap (1 - r_7))))) rfl rfl rfl (by kernel_rfl) (by kernel_rfl) (by kernel_rfl) (ST.sel hS32 [0, 1, 2, 3, 4] rfl rfl) (fun w' hw' => (Y_mul (k := .i64) (a := 2) (b := (IntKind.i64.wrap (1 - r_7))) rfl rfl rfl)) ?_
              refine ra_all (rs := [2]) (by kernel_rfl) rfl ?_
              refine ra_y 49 (i := 2) (v := pt B12 (m4.toNat * 1)) rfl rfl rfl (Y_index (B := B12) (m := r_4.length) (c := c11) (k := .i64) (i := m4) k_sl_48_3 k_sz_3_1 rfl rfl rfl (gi_isSome encI_len rfl (hS32.cf (i := 5) rfl) hx1) (getI_nn hx1) (getI_ltI hx1 hl1)) (ST.sel hS32 [0, 1, 2, 3, 4] rfl rfl) ?_ ?_
              · skip
                refine ra_all (rs := [3]) (by kernel_rfl) rfl ?_
                refine ra_y 50 (i := 3) (v := .int .i64 x1) rfl rfl rfl (Y_load1 (B := B12) (i := m4.toNat * 1) (cs := (by_1.flatMap encI)) (v := .int .i64 x1) k_sc_3 rfl rfl (hS32.cf (i := 5) rfl) (gi_at0 encI_len hx1 rfl)) (ST.sel hS32 [0, 1, 2, 3, 4] rfl rfl) ?_ ?_
                · skip
                  refine ra_q 10 57 (v := .int .i64 (IntKind.i64.wrap (x1 + (IntKind.i64.wrap (2 * (IntKind.i64.wrap (1 - r_7))))))) rfl rfl rfl (by kernel_rfl) (by kernel_rfl) (by kernel_rfl) (ST.sel hS32 [0, 1, 2, 3, 4] rfl rfl) (fun w' hw' => (Y_add (k := .i64) (a := x1) (b := (IntKind.i64.wrap (2 * (IntKind.i64.wrap (1 - r_7))))) rfl rfl rfl)) ?_
                  refine ra_all (rs := [11]) (by kernel_rfl) rfl ?_
                  refine ra_y 58 (i := 11) (v := pt B12 (m4.toNat * 1)) rfl rfl rfl (Y_index (B := B12) (m := r_4.length) (c := c11) (k := .i64) (i := m4) k_sl_48_3 k_sz_3_1 rfl rfl rfl (gi_isSome encI_len rfl (hS32.cf (i := 5) rfl) hx1) (getI_nn hx1) (getI_ltI hx1 hl1)) (ST.sel hS32 [0, 1, 2, 3, 4] rfl rfl) ?_ ?_
                  · skip
                    refine ra_all (rs := [12]) (by kernel_rfl) rfl ?_
                    refine ra_s0 (i := 12) rfl rfl rfl (Ys_store (i := 5) (s := 1) (B := B12) (T' := 3) (v := .int .i64 (IntKind.i64.wrap (x1 + (IntKind.i64.wrap (2 * (IntKind.i64.wrap (1 - r_7))))))) (vs := [.int .i64 (IntKind.i64.wrap (x1 + (IntKind.i64.wrap (2 * (IntKind.i64.wrap (1 - r_7))))))]) (k := m4.toNat * 1) (cs' := ((by_1.set m4.toNat (IntKind.i64.wrap (x1 + (IntKind.i64.wrap (2 * (IntKind.i64.wrap (1 - r_7))))))).flatMap encI)) hS32 k_sz_3_1 rfl rfl rfl rfl rfl rfl rfl (gi_fit0 encI_len hx1) (gi_set encI_len hx1 (IntKind.i64.wrap (x1 + (IntKind.i64.wrap (2 * (IntKind.i64.wrap (1 - r_7)))))) rfl) rfl) ?_ ?_
                    · rintro _ w_22 ⟨rfl, hS33⟩
                      have hS33 : ST w0 (bl [⟨B, 87, [.slice B1 c.code.length c1, .int .i64 c.at_, .int .u64 c.seed], 3⟩]) _ [⟨B, 87, [.slice B1 c.code.length c1, .int .i64 at_1, .int .u64 seed1], 3⟩, ⟨some ⟨b1, 0, none⟩, 52, [.int .i64 0, .int .i64 0, .slice none 0 0, .slice none 0 0], 4⟩, ⟨B9, 52, [.int .i64 r_3.Qubits, .int .i64 r_3.Phase, .slice B10 r_3.Terms.length c9, .slice B11 r_3.Out.Rows.length c10], 4⟩, ⟨B10, 104, (r_3.Terms.flatMap enc_Term), c9 * 2⟩, ⟨B11, 3, (r_3.Out.Rows.flatMap encI), c10 * 1⟩, ⟨B12, 3, ((by_1.set m4.toNat (IntKind.i64.wrap (x1 + (IntKind.i64.wrap (2 * (IntKind.i64.wrap (1 - r_7))))))).flatMap encI), c11 * 1⟩] [⟨B1, (c.code.flatMap enc_u8)⟩, ⟨B2, (p.Terms.flatMap enc_Term)⟩, ⟨B3, (p.Out.Rows.flatMap encI)⟩] := hS33
                      refine ⟨(ST.sel hS33 [0, 1, 2, 3, 4] rfl rfl), ?_⟩
                      refine ra_done (by kernel_rfl) ?_
                      exact ⟨(FF.cons (hf3.get 0 0 rfl) (FF.cons (hf3.get 4 1 rfl) (FF.cons (hf3.get 6 2 rfl) (FF.cons (hf3.get 7 3 rfl) (FF.cons (hf3.get 8 4 rfl) (FF.cons (hf3.get 9 5 rfl) (FF.cons (hf3.get 10 6 rfl) FF.nil))))))), (hS33.sel [0, 1, 2, 3, 4, 5] rfl rfl)⟩
                    exact allR_nil
                  exact allR_nil
                exact allR_nil
              exact allR_nil
            exact allR_nil
          rintro f w ⟨hf4, hS26⟩
          refine cw_region ?_
          refine sq 45 rfl rfl (Y_move (v := .int .i64 m4) rfl (hf4.get 10 6 rfl)) ?_
          refine sq 46 rfl rfl (Y_add (k := .i64) (a := m4) (b := 1) rfl rfl rfl) ?_
          refine sq 10 rfl rfl (Y_assign (v := .int .i64 (IntKind.i64.wrap (m4 + 1))) rfl rfl) ?_
          refine rw_nil ?_
          obtain rfl := some_inj hF8
          exact ⟨k_1, Nat.lt_succ_self _, (by_1.set m4.toNat (IntKind.i64.wrap (x1 + (IntKind.i64.wrap (2 * (IntKind.i64.wrap (1 - r_7))))))), (IntKind.i64.wrap (m4 + 1)), (FF.cons (hf4.get 0 0 rfl) (FF.cons (hf4.get 4 1 rfl) (FF.cons (hf4.get 6 2 rfl) (FF.cons (hf4.get 7 3 rfl) (FF.cons (hf4.get 8 4 rfl) (FF.cons (hf4.get 9 5 rfl) (FF.cons rfl FF.nil))))))), (set_len _ _ _ hl1), (hS26.sel [0, 1, 2, 3, 4, 5] rfl rfl), hL1⟩
        · skip
          have hF9 := cf' hb3 hb4
          refine cw_exit rfl ?_
          obtain rfl := some_inj hF9
          obtain rfl := some_inj hL1
          exact ⟨at_1, seed1, by_1, (some_inj hF7), (FF.cons (hf3.get 0 0 rfl) (FF.cons (hf3.get 4 1 rfl) (FF.cons (hf3.get 6 2 rfl) (FF.cons (hf3.get 7 3 rfl) FF.nil)))), hl1, (hS24.sel [0, 1, 2, 3, 4, 5] rfl rfl)⟩
      · skip
        have hF10 := cf' hF2 hb1
        refine cw_skip ?_
        exact ⟨m2.at_, m2.seed, r_4, (some_inj hF10), (FF.cons (hf.get 0 0 rfl) (FF.cons (hf.get 4 2 rfl) (FF.cons (hf.get 6 3 rfl) (FF.cons rfl FF.nil)))), rfl, (hS21.sel [6, 1, 2, 3, 4, 5] rfl rfl)⟩
    · skip
      have hF11 := cf' hz hb
      refine sgn 31 rfl rfl (wt_t (gd_of (t := 29) (by kernel_rfl) rfl)) hb ?_
      refine sq 32 rfl rfl (Y_pickF (b := (decide (3 ≤ p.Qubits))) (v := .bool false) rfl rfl hb rfl) ?_
      refine rw_nil ?_
      refine cw_cond (b := false) rfl (fun h => by cases h) (fun _ => ?_)
      refine cw_skip ?_
      exact ⟨m1.at_, m1.seed, r_4, (some_inj hF11), (FF.cons (hf.get 0 0 rfl) (FF.cons (hf.get 4 2 rfl) (FF.cons (hf.get 6 3 rfl) (FF.cons rfl FF.nil)))), rfl, (hS19.sel [0, 2, 3, 4, 5, 6] rfl rfl)⟩
  rintro f w ⟨at_, seed, by_, rfl, hf1, hl, hS20⟩
  refine cw_seq ?_
  obtain ⟨z3, hz3, hF12⟩ := bind_inv hF1
  refine cw_mid (fun f w => ∃ (at_2 : Int) (seed2 : Int) (by_2 : List Int), (at_2, seed2, by_2) = z3 ∧ FF f [(0, pt B 0), (4, pt (some ⟨b1, 0, none⟩) 0), (6, pt B9 0), (7, .slice B12 r_4.length c11)] ∧ by_2.length = r_4.length ∧ ST w0 (bl [⟨B, 87, [.slice B1 c.code.length c1, .int .i64 c.at_, .int .u64 c.seed], 3⟩]) w [⟨B, 87, [.slice B1 c.code.length c1, .int .i64 at_2, .int .u64 seed2], 3⟩, ⟨some ⟨b1, 0, none⟩, 52, [.int .i64 0, .int .i64 0, .slice none 0 0, .slice none 0 0], 4⟩, ⟨B9, 52, [.int .i64 r_3.Qubits, .int .i64 r_3.Phase, .slice B10 r_3.Terms.length c9, .slice B11 r_3.Out.Rows.length c10], 4⟩, ⟨B10, 104, (r_3.Terms.flatMap enc_Term), c9 * 2⟩, ⟨B11, 3, (r_3.Out.Rows.flatMap encI), c10 * 1⟩, ⟨B12, 3, (by_2.flatMap encI), c11 * 1⟩] [⟨B1, (c.code.flatMap enc_u8)⟩, ⟨B2, (p.Terms.flatMap enc_Term)⟩, ⟨B3, (p.Out.Rows.flatMap encI)⟩]) ?_ ?_
  · skip
    refine cw_seq ?_
    refine cw_region ?_
    refine sq 59 rfl rfl (Y_move (v := pt B 0) rfl (hf1.get 0 0 rfl)) ?_
    obtain ⟨⟨r_8, m5⟩, hc7, hz3⟩ := bind_inv hz3
    refine sc 60 rfl rfl (Yc_func (g := 55) (vs := [pt B 0, .int .i64 3]) k_call_55 rfl (mc rfl (mc rfl mn)) (c_spec_l1Cur_one (Tl1Cur.mk c.code at_ seed) 3 B B1 c1 c.code.length _ rfl (hS20.inn [true, false, false, false, false, false] rfl [(true, 0)] rfl) hc7)) ?_
    rintro _ w_23 ⟨rfl, hd12⟩
    have hS35 := hS20.out [true, false, false, false, false, false] rfl hd12
    have hS35 : ST w0 (bl [⟨B, 87, [.slice B1 c.code.length c1, .int .i64 c.at_, .int .u64 c.seed], 3⟩]) _ [⟨some ⟨b1, 0, none⟩, 52, [.int .i64 0, .int .i64 0, .slice none 0 0, .slice none 0 0], 4⟩, ⟨B9, 52, [.int .i64 r_3.Qubits, .int .i64 r_3.Phase, .slice B10 r_3.Terms.length c9, .slice B11 r_3.Out.Rows.length c10], 4⟩, ⟨B10, 104, (r_3.Terms.flatMap enc_Term), c9 * 2⟩, ⟨B11, 3, (r_3.Out.Rows.flatMap encI), c10 * 1⟩, ⟨B12, 3, (by_.flatMap encI), c11 * 1⟩, ⟨B, 87, [.slice B1 c.code.length c1, .int .i64 m5.at_, .int .u64 m5.seed], 3⟩] [⟨B1, (c.code.flatMap enc_u8)⟩, ⟨B2, (p.Terms.flatMap enc_Term)⟩, ⟨B3, (p.Out.Rows.flatMap encI)⟩] := hS35
    refine rw_nil ?_
    refine cw_cond (b := r_8) rfl (fun hb5 => ?_) (fun hb5 => ?_)
    · skip
      have hF13 := ct hz3 hb5
      obtain ⟨⟨r_9, m6⟩, hc8, hF13⟩ := bind_inv hF13
      obtain ⟨x2, hx2, hF13⟩ := bind_inv hF13
      obtain ⟨⟨r_10, m7⟩, hc9, hF13⟩ := bind_inv hF13
      refine cw_mid (fun f w => FF f [(0, pt B 0), (4, pt (some ⟨b1, 0, none⟩) 0), (6, pt B9 0), (7, .slice B12 r_4.length c11)] ∧ ST w0 (bl [⟨B, 87, [.slice B1 c.code.length c1, .int .i64 c.at_, .int .u64 c.seed], 3⟩]) w [⟨B, 87, [.slice B1 c.code.length c1, .int .i64 m7.at_, .int .u64 m7.seed], 3⟩, ⟨some ⟨b1, 0, none⟩, 52, [.int .i64 0, .int .i64 0, .slice none 0 0, .slice none 0 0], 4⟩, ⟨B9, 52, [.int .i64 r_3.Qubits, .int .i64 r_3.Phase, .slice B10 r_3.Terms.length c9, .slice B11 r_3.Out.Rows.length c10], 4⟩, ⟨B10, 104, (r_3.Terms.flatMap enc_Term), c9 * 2⟩, ⟨B11, 3, (r_3.Out.Rows.flatMap encI), c10 * 1⟩, ⟨B12, 3, ((by_.set r_9.toNat (IntKind.i64.wrap (x2 + (IntKind.i64.wrap (1 + r_10))))).flatMap encI), c11 * 1⟩] [⟨B1, (c.code.flatMap enc_u8)⟩, ⟨B2, (p.Terms.flatMap enc_Term)⟩, ⟨B3, (p.Out.Rows.flatMap encI)⟩]) ?_ ?_
      · skip
        refine ra_start (ST.sel hS35 [0, 1, 2, 3] rfl rfl).fn (by kernel_rfl) ?_
        have hS39 := hS35.drew
        refine ra_q 0 61 (v := .slice B12 r_4.length c11) rfl rfl rfl (by kernel_rfl) (by kernel_rfl) (by kernel_rfl) (ST.sel hS39 [0, 1, 2, 3] rfl rfl) (fun w' hw' => (Y_move (v := .slice B12 r_4.length c11) rfl (hf1.get 7 3 rfl))) ?_
        refine ra_q 1 62 (v := pt B 0) rfl rfl rfl (by kernel_rfl) (by kernel_rfl) (by kernel_rfl) (ST.sel hS39 [0, 1, 2, 3] rfl rfl) (fun w' hw' => (Y_move (v := pt B 0) rfl (hf1.get 0 0 rfl))) ?_
        refine ra_q 2 63 (v := .slice B12 r_4.length c11) rfl rfl rfl (by kernel_rfl) (by kernel_rfl) (by kernel_rfl) (ST.sel hS39 [0, 1, 2, 3] rfl rfl) (fun w' hw' => (Y_move (v := .slice B12 r_4.length c11) rfl (hf1.get 7 3 rfl))) ?_
        refine ra_q 3 64 (v := .int .i64 (r_4.length : Int)) rfl rfl rfl (by kernel_rfl) (by kernel_rfl) (by kernel_rfl) (ST.sel hS39 [0, 1, 2, 3] rfl rfl) (fun w' hw' => (Y_len (B := B12) (m := r_4.length) (c := c11) k_sl_48_3 rfl rfl)) ?_
        refine ra_q 7 68 (v := pt B 0) rfl rfl rfl (by kernel_rfl) (by kernel_rfl) (by kernel_rfl) (ST.sel hS39 [0, 1, 2, 3] rfl rfl) (fun w' hw' => (Y_move (v := pt B 0) rfl (hf1.get 0 0 rfl))) ?_
        refine ra_all (rs := [4]) (by kernel_rfl) rfl ?_
        refine ra_c 65 (i := 4) rfl rfl rfl (Yc_func (g := 69) (vs := [pt B 0, .int .i64 (r_4.length : Int)]) k_call_69 rfl (mc rfl (mc rfl mn)) (c_spec_l1Cur_pick (Tl1Cur.mk c.code m5.at_ m5.seed) (r_4.length : Int) B B1 c1 c.code.length _ rfl (hS39.inn [false, false, false, false, false, true] rfl [(true, 0)] rfl) hc8)) ?_ ?_
        · rintro _ w_24 ⟨rfl, hd13⟩
          have hS40 := hS39.out [false, false, false, false, false, true] rfl hd13
          have hS40 : ST w0 (bl [⟨B, 87, [.slice B1 c.code.length c1, .int .i64 c.at_, .int .u64 c.seed], 3⟩]) _ [⟨some ⟨b1, 0, none⟩, 52, [.int .i64 0, .int .i64 0, .slice none 0 0, .slice none 0 0], 4⟩, ⟨B9, 52, [.int .i64 r_3.Qubits, .int .i64 r_3.Phase, .slice B10 r_3.Terms.length c9, .slice B11 r_3.Out.Rows.length c10], 4⟩, ⟨B10, 104, (r_3.Terms.flatMap enc_Term), c9 * 2⟩, ⟨B11, 3, (r_3.Out.Rows.flatMap encI), c10 * 1⟩, ⟨B12, 3, (by_.flatMap encI), c11 * 1⟩, ⟨B, 87, [.slice B1 c.code.length c1, .int .i64 m6.at_, .int .u64 m6.seed], 3⟩] [⟨B1, (c.code.flatMap enc_u8)⟩, ⟨B2, (p.Terms.flatMap enc_Term)⟩, ⟨B3, (p.Out.Rows.flatMap encI)⟩] := hS40
          refine ⟨(ST.sel hS40 [0, 1, 2, 3] rfl rfl), ?_⟩
          refine ra_all (rs := [5, 8]) (by kernel_rfl) rfl ?_
          refine ra_y 66 (i := 5) (v := pt B12 (r_9.toNat * 1)) rfl rfl rfl (Y_index (B := B12) (m := r_4.length) (c := c11) (k := .i64) (i := r_9) k_sl_48_3 k_sz_3_1 rfl rfl rfl (gi_isSome encI_len rfl (hS40.cf (i := 4) rfl) hx2) (getI_nn hx2) (getI_ltI hx2 hl)) (ST.sel hS40 [0, 1, 2, 3] rfl rfl) ?_ ?_
          · skip
            refine ra_all (rs := [6, 8]) (by kernel_rfl) rfl ?_
            refine ra_y 67 (i := 6) (v := .int .i64 x2) rfl rfl rfl (Y_load1 (B := B12) (i := r_9.toNat * 1) (cs := (by_.flatMap encI)) (v := .int .i64 x2) k_sc_3 rfl rfl (hS40.cf (i := 4) rfl) (gi_at0 encI_len hx2 rfl)) (ST.sel hS40 [0, 1, 2, 3] rfl rfl) ?_ ?_
            · skip
              refine ra_all (rs := [8]) (by kernel_rfl) rfl ?_
              refine ra_c 69 (i := 8) rfl rfl rfl (Yc_func (g := 69) (vs := [pt B 0, .int .i64 7]) k_call_69 rfl (mc rfl (mc rfl mn)) (c_spec_l1Cur_pick (Tl1Cur.mk c.code m6.at_ m6.seed) 7 B B1 c1 c.code.length _ rfl (hS40.inn [false, false, false, false, false, true] rfl [(true, 0)] rfl) hc9)) ?_ ?_
              · rintro _ w_25 ⟨rfl, hd14⟩
                have hS41 := hS40.out [false, false, false, false, false, true] rfl hd14
                have hS41 : ST w0 (bl [⟨B, 87, [.slice B1 c.code.length c1, .int .i64 c.at_, .int .u64 c.seed], 3⟩]) _ [⟨some ⟨b1, 0, none⟩, 52, [.int .i64 0, .int .i64 0, .slice none 0 0, .slice none 0 0], 4⟩, ⟨B9, 52, [.int .i64 r_3.Qubits, .int .i64 r_3.Phase, .slice B10 r_3.Terms.length c9, .slice B11 r_3.Out.Rows.length c10], 4⟩, ⟨B10, 104, (r_3.Terms.flatMap enc_Term), c9 * 2⟩, ⟨B11, 3, (r_3.Out.Rows.flatMap encI), c10 * 1⟩, ⟨B12, 3, (by_.flatMap encI), c11 * 1⟩, ⟨B, 87, [.slice B1 c.code.length c1, .int .i64 m7.at_, .int .u64 m7.seed], 3⟩] [⟨B1, (c.code.flatMap enc_u8)⟩, ⟨B2, (p.Terms.flatMap enc_Term)⟩, ⟨B3, (p.Out.Rows.flatMap encI)⟩] := hS41
                refine ⟨(ST.sel hS41 [0, 1, 2, 3] rfl rfl), ?_⟩
                refine ra_q 9 70 (v := .int .i64 (IntKind.i64.wrap (1 + r_10))) rfl rfl rfl (by kernel_rfl) (by kernel_rfl) (by kernel_rfl) (ST.sel hS41 [0, 1, 2, 3] rfl rfl) (fun w' hw' => (Y_add (k := .i64) (a := 1) (b := r_10) rfl rfl rfl)) ?_
                refine ra_q 10 71 (v := .int .i64 (IntKind.i64.wrap (x2 + (IntKind.i64.wrap (1 + r_10))))) rfl rfl rfl (by kernel_rfl) (by kernel_rfl) (by kernel_rfl) (ST.sel hS41 [0, 1, 2, 3] rfl rfl) (fun w' hw' => (Y_add (k := .i64) (a := x2) (b := (IntKind.i64.wrap (1 + r_10))) rfl rfl rfl)) ?_
                refine ra_all (rs := [11]) (by kernel_rfl) rfl ?_
                refine ra_y 72 (i := 11) (v := pt B12 (r_9.toNat * 1)) rfl rfl rfl (Y_index (B := B12) (m := r_4.length) (c := c11) (k := .i64) (i := r_9) k_sl_48_3 k_sz_3_1 rfl rfl rfl (gi_isSome encI_len rfl (hS41.cf (i := 4) rfl) hx2) (getI_nn hx2) (getI_ltI hx2 hl)) (ST.sel hS41 [0, 1, 2, 3] rfl rfl) ?_ ?_
                · skip
                  refine ra_all (rs := [12]) (by kernel_rfl) rfl ?_
                  refine ra_s0 (i := 12) rfl rfl rfl (Ys_store (i := 4) (s := 1) (B := B12) (T' := 3) (v := .int .i64 (IntKind.i64.wrap (x2 + (IntKind.i64.wrap (1 + r_10))))) (vs := [.int .i64 (IntKind.i64.wrap (x2 + (IntKind.i64.wrap (1 + r_10))))]) (k := r_9.toNat * 1) (cs' := ((by_.set r_9.toNat (IntKind.i64.wrap (x2 + (IntKind.i64.wrap (1 + r_10))))).flatMap encI)) hS41 k_sz_3_1 rfl rfl rfl rfl rfl rfl rfl (gi_fit0 encI_len hx2) (gi_set encI_len hx2 (IntKind.i64.wrap (x2 + (IntKind.i64.wrap (1 + r_10)))) rfl) rfl) ?_ ?_
                  · rintro _ w_26 ⟨rfl, hS42⟩
                    have hS42 : ST w0 (bl [⟨B, 87, [.slice B1 c.code.length c1, .int .i64 c.at_, .int .u64 c.seed], 3⟩]) _ [⟨some ⟨b1, 0, none⟩, 52, [.int .i64 0, .int .i64 0, .slice none 0 0, .slice none 0 0], 4⟩, ⟨B9, 52, [.int .i64 r_3.Qubits, .int .i64 r_3.Phase, .slice B10 r_3.Terms.length c9, .slice B11 r_3.Out.Rows.length c10], 4⟩, ⟨B10, 104, (r_3.Terms.flatMap enc_Term), c9 * 2⟩, ⟨B11, 3, (r_3.Out.Rows.flatMap encI), c10 * 1⟩, ⟨B12, 3, ((by_.set r_9.toNat (IntKind.i64.wrap (x2 + (IntKind.i64.wrap (1 + r_10))))).flatMap encI), c11 * 1⟩, ⟨B, 87, [.slice B1 c.code.length c1, .int .i64 m7.at_, .int .u64 m7.seed], 3⟩] [⟨B1, (c.code.flatMap enc_u8)⟩, ⟨B2, (p.Terms.flatMap enc_Term)⟩, ⟨B3, (p.Out.Rows.flatMap encI)⟩] := hS42
                    refine ⟨(ST.sel hS42 [0, 1, 2, 3] rfl rfl), ?_⟩
                    refine ra_done (by kernel_rfl) ?_
                    exact ⟨(FF.cons (hf1.get 0 0 rfl) (FF.cons (hf1.get 4 1 rfl) (FF.cons (hf1.get 6 2 rfl) (FF.cons (hf1.get 7 3 rfl) FF.nil)))), (hS42.sel [5, 0, 1, 2, 3, 4] rfl rfl)⟩
                  exact allR_nil
                exact allR_nil
              exact allR_nil
            refine ra_c 69 (i := 8) rfl rfl rfl (Yc_func (g := 69) (vs := [pt B 0, .int .i64 7]) k_call_69 rfl (mc rfl (mc rfl mn)) (c_spec_l1Cur_pick (Tl1Cur.mk c.code m6.at_ m6.seed) 7 B B1 c1 c.code.length _ rfl (hS40.inn [false, false, false, false, false, true] rfl [(true, 0)] rfl) hc9)) ?_ ?_
            · rintro _ w_27 ⟨rfl, hd15⟩
              have hS43 := hS40.out [false, false, false, false, false, true] rfl hd15
              have hS43 : ST w0 (bl [⟨B, 87, [.slice B1 c.code.length c1, .int .i64 c.at_, .int .u64 c.seed], 3⟩]) _ [⟨some ⟨b1, 0, none⟩, 52, [.int .i64 0, .int .i64 0, .slice none 0 0, .slice none 0 0], 4⟩, ⟨B9, 52, [.int .i64 r_3.Qubits, .int .i64 r_3.Phase, .slice B10 r_3.Terms.length c9, .slice B11 r_3.Out.Rows.length c10], 4⟩, ⟨B10, 104, (r_3.Terms.flatMap enc_Term), c9 * 2⟩, ⟨B11, 3, (r_3.Out.Rows.flatMap encI), c10 * 1⟩, ⟨B12, 3, (by_.flatMap encI), c11 * 1⟩, ⟨B, 87, [.slice B1 c.code.length c1, .int .i64 m7.at_, .int .u64 m7.seed], 3⟩] [⟨B1, (c.code.flatMap enc_u8)⟩, ⟨B2, (p.Terms.flatMap enc_Term)⟩, ⟨B3, (p.Out.Rows.flatMap encI)⟩] := hS43
              refine ⟨(ST.sel hS43 [0, 1, 2, 3] rfl rfl), ?_⟩
              refine ra_q 9 70 (v := .int .i64 (IntKind.i64.wrap (1 + r_10))) rfl rfl rfl (by kernel_rfl) (by kernel_rfl) (by kernel_rfl) (ST.sel hS43 [0, 1, 2, 3] rfl rfl) (fun w' hw' => (Y_add (k := .i64) (a := 1) (b := r_10) rfl rfl rfl)) ?_
              refine ra_all (rs := [6]) (by kernel_rfl) rfl ?_
              refine ra_y 67 (i := 6) (v := .int .i64 x2) rfl rfl rfl (Y_load1 (B := B12) (i := r_9.toNat * 1) (cs := (by_.flatMap encI)) (v := .int .i64 x2) k_sc_3 rfl rfl (hS43.cf (i := 4) rfl) (gi_at0 encI_len hx2 rfl)) (ST.sel hS43 [0, 1, 2, 3] rfl rfl) ?_ ?_
              · skip
                refine ra_q 10 71 (v := .int .i64 (IntKind.i64.wrap (x2 + (IntKind.i64.wrap (1 + r_10))))) rfl rfl rfl (by kernel_rfl) (by kernel_rfl) (by kernel_rfl) (ST.sel hS43 [0, 1, 2, 3] rfl rfl) (fun w' hw' => (Y_add (k := .i64) (a := x2) (b := (IntKind.i64.wrap (1 + r_10))) rfl rfl rfl)) ?_
                refine ra_all (rs := [11]) (by kernel_rfl) rfl ?_
                refine ra_y 72 (i := 11) (v := pt B12 (r_9.toNat * 1)) rfl rfl rfl (Y_index (B := B12) (m := r_4.length) (c := c11) (k := .i64) (i := r_9) k_sl_48_3 k_sz_3_1 rfl rfl rfl (gi_isSome encI_len rfl (hS43.cf (i := 4) rfl) hx2) (getI_nn hx2) (getI_ltI hx2 hl)) (ST.sel hS43 [0, 1, 2, 3] rfl rfl) ?_ ?_
                · skip
                  refine ra_all (rs := [12]) (by kernel_rfl) rfl ?_
                  refine ra_s0 (i := 12) rfl rfl rfl (Ys_store (i := 4) (s := 1) (B := B12) (T' := 3) (v := .int .i64 (IntKind.i64.wrap (x2 + (IntKind.i64.wrap (1 + r_10))))) (vs := [.int .i64 (IntKind.i64.wrap (x2 + (IntKind.i64.wrap (1 + r_10))))]) (k := r_9.toNat * 1) (cs' := ((by_.set r_9.toNat (IntKind.i64.wrap (x2 + (IntKind.i64.wrap (1 + r_10))))).flatMap encI)) hS43 k_sz_3_1 rfl rfl rfl rfl rfl rfl rfl (gi_fit0 encI_len hx2) (gi_set encI_len hx2 (IntKind.i64.wrap (x2 + (IntKind.i64.wrap (1 + r_10)))) rfl) rfl) ?_ ?_
                  · rintro _ w_28 ⟨rfl, hS44⟩
                    have hS44 : ST w0 (bl [⟨B, 87, [.slice B1 c.code.length c1, .int .i64 c.at_, .int .u64 c.seed], 3⟩]) _ [⟨some ⟨b1, 0, none⟩, 52, [.int .i64 0, .int .i64 0, .slice none 0 0, .slice none 0 0], 4⟩, ⟨B9, 52, [.int .i64 r_3.Qubits, .int .i64 r_3.Phase, .slice B10 r_3.Terms.length c9, .slice B11 r_3.Out.Rows.length c10], 4⟩, ⟨B10, 104, (r_3.Terms.flatMap enc_Term), c9 * 2⟩, ⟨B11, 3, (r_3.Out.Rows.flatMap encI), c10 * 1⟩, ⟨B12, 3, ((by_.set r_9.toNat (IntKind.i64.wrap (x2 + (IntKind.i64.wrap (1 + r_10))))).flatMap encI), c11 * 1⟩, ⟨B, 87, [.slice B1 c.code.length c1, .int .i64 m7.at_, .int .u64 m7.seed], 3⟩] [⟨B1, (c.code.flatMap enc_u8)⟩, ⟨B2, (p.Terms.flatMap enc_Term)⟩, ⟨B3, (p.Out.Rows.flatMap encI)⟩] := hS44
                    refine ⟨(ST.sel hS44 [0, 1, 2, 3] rfl rfl), ?_⟩
                    refine ra_done (by kernel_rfl) ?_
                    exact ⟨(FF.cons (hf1.get 0 0 rfl) (FF.cons (hf1.get 4 1 rfl) (FF.cons (hf1.get 6 2 rfl) (FF.cons (hf1.get 7 3 rfl) FF.nil)))), (hS44.sel [5, 0, 1, 2, 3, 4] rfl rfl)⟩
                  exact allR_nil
                exact allR_nil
              exact allR_nil
            exact allR_nil
          refine ra_c 69 (i := 8) rfl rfl rfl (Yc_func (g := 69) (vs := [pt B 0, .int .i64 7]) k_call_69 rfl (mc rfl (mc rfl mn)) (c_spec_l1Cur_pick (Tl1Cur.mk c.code m6.at_ m6.seed) 7 B B1 c1 c.code.length _ rfl (hS40.inn [false, false, false, false, false, true] rfl [(true, 0)] rfl) hc9)) ?_ ?_
          · rintro _ w_29 ⟨rfl, hd16⟩
            have hS45 := hS40.out [false, false, false, false, false, true] rfl hd16
            have hS45 : ST w0 (bl [⟨B, 87, [.slice B1 c.code.length c1, .int .i64 c.at_, .int .u64 c.seed], 3⟩]) _ [⟨some ⟨b1, 0, none⟩, 52, [.int .i64 0, .int .i64 0, .slice none 0 0, .slice none 0 0], 4⟩, ⟨B9, 52, [.int .i64 r_3.Qubits, .int .i64 r_3.Phase, .slice B10 r_3.Terms.length c9, .slice B11 r_3.Out.Rows.length c10], 4⟩, ⟨B10, 104, (r_3.Terms.flatMap enc_Term), c9 * 2⟩, ⟨B11, 3, (r_3.Out.Rows.flatMap encI), c10 * 1⟩, ⟨B12, 3, (by_.flatMap encI), c11 * 1⟩, ⟨B, 87, [.slice B1 c.code.length c1, .int .i64 m7.at_, .int .u64 m7.seed], 3⟩] [⟨B1, (c.code.flatMap enc_u8)⟩, ⟨B2, (p.Terms.flatMap enc_Term)⟩, ⟨B3, (p.Out.Rows.flatMap encI)⟩] := hS45
            refine ⟨(ST.sel hS45 [0, 1, 2, 3] rfl rfl), ?_⟩
            refine ra_q 9 70 (v := .int .i64 (IntKind.i64.wrap (1 + r_10))) rfl rfl rfl (by kernel_rfl) (by kernel_rfl) (by kernel_rfl) (ST.sel hS45 [0, 1, 2, 3] rfl rfl) (fun w' hw' => (Y_add (k := .i64) (a := 1) (b := r_10) rfl rfl rfl)) ?_
            refine ra_all (rs := [5]) (by kernel_rfl) rfl ?_
            refine ra_y 66 (i := 5) (v := pt B12 (r_9.toNat * 1)) rfl rfl rfl (Y_index (B := B12) (m := r_4.length) (c := c11) (k := .i64) (i := r_9) k_sl_48_3 k_sz_3_1 rfl rfl rfl (gi_isSome encI_len rfl (hS45.cf (i := 4) rfl) hx2) (getI_nn hx2) (getI_ltI hx2 hl)) (ST.sel hS45 [0, 1, 2, 3] rfl rfl) ?_ ?_
            · skip
              refine ra_all (rs := [6]) (by kernel_rfl) rfl ?_
              refine ra_y 67 (i := 6) (v := .int .i64 x2) rfl rfl rfl (Y_load1 (B := B12) (i := r_9.toNat * 1) (cs := (by_.flatMap encI)) (v := .int .i64 x2) k_sc_3 rfl rfl (hS45.cf (i := 4) rfl) (gi_at0 encI_len hx2 rfl)) (ST.sel hS45 [0, 1, 2, 3] rfl rfl) ?_ ?_
              · skip
                refine ra_q 10 71 (v := .int .i64 (IntKind.i64.wrap (x2 + (IntKind.i64.wrap (1 + r_10))))) rfl rfl rfl (by kernel_rfl) (by kernel_rfl) (by kernel_rfl) (ST.sel hS45 [0, 1, 2, 3] rfl rfl) (fun w' hw' => (Y_add (k := .i64) (a := x2) (b := (IntKind.i64.wrap (1 + r_10))) rfl rfl rfl)) ?_
                refine ra_all (rs := [11]) (by kernel_rfl) rfl ?_
                refine ra_y 72 (i := 11) (v := pt B12 (r_9.toNat * 1)) rfl rfl rfl (Y_index (B := B12) (m := r_4.length) (c := c11) (k := .i64) (i := r_9) k_sl_48_3 k_sz_3_1 rfl rfl rfl (gi_isSome encI_len rfl (hS45.cf (i := 4) rfl) hx2) (getI_nn hx2) (getI_ltI hx2 hl)) (ST.sel hS45 [0, 1, 2, 3] rfl rfl) ?_ ?_
                · skip
                  refine ra_all (rs := [12]) (by kernel_rfl) rfl ?_
                  refine ra_s0 (i := 12) rfl rfl rfl (Ys_store (i := 4) (s := 1) (B := B12) (T' := 3) (v := .int .i64 (IntKind.i64.wrap (x2 + (IntKind.i64.wrap (1 + r_10))))) (vs := [.int .i64 (IntKind.i64.wrap (x2 + (IntKind.i64.wrap (1 + r_10))))]) (k := r_9.toNat * 1) (cs' := ((by_.set r_9.toNat (IntKind.i64.wrap (x2 + (IntKind.i64.wrap (1 + r_10))))).flatMap encI)) hS45 k_sz_3_1 rfl rfl rfl rfl rfl rfl rfl (gi_fit0 encI_len hx2) (gi_set encI_len hx2 (IntKind.i64.wrap (x2 + (IntKind.i64.wrap (1 + r_10)))) rfl) rfl) ?_ ?_
                  · rintro _ w_30 ⟨rfl, hS46⟩
                    have hS46 : ST w0 (bl [⟨B, 87, [.slice B1 c.code.length c1, .int .i64 c.at_, .int .u64 c.seed], 3⟩]) _ [⟨some ⟨b1, 0, none⟩, 52, [.int .i64 0, .int .i64 0, .slice none 0 0, .slice none 0 0], 4⟩, ⟨B9, 52, [.int .i64 r_3.Qubits, .int .i64 r_3.Phase, .slice B10 r_3.Terms.length c9, .slice B11 r_3.Out.Rows.length c10], 4⟩, ⟨B10, 104, (r_3.Terms.flatMap enc_Term), c9 * 2⟩, ⟨B11, 3, (r_3.Out.Rows.flatMap encI), c10 * 1⟩, ⟨B12, 3, ((by_.set r_9.toNat (IntKind.i64.wrap (x2 + (IntKind.i64.wrap (1 + r_10))))).flatMap encI), c11 * 1⟩, ⟨B, 87, [.slice B1 c.code.length c1, .int .i64 m7.at_, .int .u64 m7.seed], 3⟩] [⟨B1, (c.code.flatMap enc_u8)⟩, ⟨B2, (p.Terms.flatMap enc_Term)⟩, ⟨B3, (p.Out.Rows.flatMap encI)⟩] := hS46
                    refine ⟨(ST.sel hS46 [0, 1, 2, 3] rfl rfl), ?_⟩
                    refine ra_done (by kernel_rfl) ?_
                    exact ⟨(FF.cons (hf1.get 0 0 rfl) (FF.cons (hf1.get 4 1 rfl) (FF.cons (hf1.get 6 2 rfl) (FF.cons (hf1.get 7 3 rfl) FF.nil)))), (hS46.sel [5, 0, 1, 2, 3, 4] rfl rfl)⟩
                  exact allR_nil
                exact allR_nil
              exact allR_nil
            exact allR_nil
          exact allR_nil
        exact allR_nil
      rintro f w ⟨hf6, hS38⟩
      exact ⟨m7.at_, m7.seed, (by_.set r_9.toNat (IntKind.i64.wrap (x2 + (IntKind.i64.wrap (1 + r_10))))), (some_inj hF13), (FF.cons (hf6.get 0 0 rfl) (FF.cons (hf6.get 4 1 rfl) (FF.cons (hf6.get 6 2 rfl) (FF.cons (hf6.get 7 3 rfl) FF.nil)))), (set_len _ _ _ hl), (hS38.sel [0, 1, 2, 3, 4, 5] rfl rfl)⟩
    · skip
      have hF14 := cf' hz3 hb5
      refine cw_skip ?_
      exact ⟨m5.at_, m5.seed, by_, (some_inj hF14), (FF.cons (hf1.get 0 0 rfl) (FF.cons (hf1.get 4 1 rfl) (FF.cons (hf1.get 6 2 rfl) (FF.cons (hf1.get 7 3 rfl) FF.nil)))), hl, (hS35.sel [5, 0, 1, 2, 3, 4] rfl rfl)⟩
  rintro f w ⟨at_2, seed2, by_2, rfl, hf5, hl2, hS34⟩
  refine cw_seq ?_
  refine cw_region ?_
  refine sq 73 rfl rfl (Y_move (v := .slice B12 r_4.length c11) rfl (hf5.get 7 3 rfl)) ?_
  obtain ⟨r_11, hc10, hF12⟩ := bind_inv hF12
  refine sc 74 rfl rfl (Yc_func (g := 79) (vs := [.slice B12 r_4.length c11]) k_call_79 rfl (mc rfl mn) (c_spec_l13List by_2 B12 c11 r_4.length _ hl2 (hS34.inn0 [(false, 5)] rfl) hc10)) ?_
  rintro _ w_31 ⟨B13, c12, rfl, hd17⟩
  have hS47 := hS34.out0 hd17
  have hS47 : ST w0 (bl [⟨B, 87, [.slice B1 c.code.length c1, .int .i64 c.at_, .int .u64 c.seed], 3⟩]) _ [⟨B, 87, [.slice B1 c.code.length c1, .int .i64 at_2, .int .u64 seed2], 3⟩, ⟨some ⟨b1, 0, none⟩, 52, [.int .i64 0, .int .i64 0, .slice none 0 0, .slice none 0 0], 4⟩, ⟨B9, 52, [.int .i64 r_3.Qubits, .int .i64 r_3.Phase, .slice B10 r_3.Terms.length c9, .slice B11 r_3.Out.Rows.length c10], 4⟩, ⟨B10, 104, (r_3.Terms.flatMap enc_Term), c9 * 2⟩, ⟨B11, 3, (r_3.Out.Rows.flatMap encI), c10 * 1⟩, ⟨B12, 3, (by_2.flatMap encI), c11 * 1⟩, ⟨B13, 104, (r_11.flatMap enc_Term), c12 * 2⟩] [⟨B1, (c.code.flatMap enc_u8)⟩, ⟨B2, (p.Terms.flatMap enc_Term)⟩, ⟨B3, (p.Out.Rows.flatMap encI)⟩] := hS47
  refine sq 75 rfl rfl (Y_fieldAddr (B := B9) (i := 0) (s := 0) k_fd_52_2_2_47 k_sz_47_1 rfl (hf5.get 6 2 rfl)) ?_
  refine ss0 rfl rfl (Ys_store (i := 2) (s := 1) (B := B9) (T' := 52) (v := .slice B13 r_11.length c12) (vs := [.slice B13 r_11.length c12]) (k := 2) (cs' := [.int .i64 r_3.Qubits, .int .i64 r_3.Phase, .slice B13 r_11.length c12, .slice B11 r_3.Out.Rows.length c10]) hS47 k_sz_47_1 rfl rfl rfl rfl rfl rfl rfl (Nat.le_of_ble_eq_true rfl) rfl rfl) ?_
  rintro _ w_32 ⟨rfl, hS48⟩
  have hS48 : ST w0 (bl [⟨B, 87, [.slice B1 c.code.length c1, .int .i64 c.at_, .int .u64 c.seed], 3⟩]) _ [⟨B, 87, [.slice B1 c.code.length c1, .int .i64 at_2, .int .u64 seed2], 3⟩, ⟨some ⟨b1, 0, none⟩, 52, [.int .i64 0, .int .i64 0, .slice none 0 0, .slice none 0 0], 4⟩, ⟨B9, 52, [.int .i64 r_3.Qubits, .int .i64 r_3.Phase, .slice B13 r_11.length c12, .slice B11 r_3.Out.Rows.length c10], 4⟩, ⟨B10, 104, (r_3.Terms.flatMap enc_Term), c9 * 2⟩, ⟨B11, 3, (r_3.Out.Rows.flatMap encI), c10 * 1⟩, ⟨B12, 3, (by_2.flatMap encI), c11 * 1⟩, ⟨B13, 104, (r_11.flatMap enc_Term), c12 * 2⟩] [⟨B1, (c.code.flatMap enc_u8)⟩, ⟨B2, (p.Terms.flatMap enc_Term)⟩, ⟨B3, (p.Out.Rows.flatMap encI)⟩] := hS48
  refine rw_nil ?_
  refine cw_seq ?_
  obtain ⟨z4, hz4, hF15⟩ := bind_inv hF12
  refine cw_mid (fun f w => ∃ (at_3 : Int) (seed3 : Int) (Phase : Int), (at_3, seed3, Phase) = z4 ∧ FF f [(4, pt (some ⟨b1, 0, none⟩) 0), (6, pt B9 0)] ∧ ST w0 (bl [⟨B, 87, [.slice B1 c.code.length c1, .int .i64 c.at_, .int .u64 c.seed], 3⟩]) w [⟨B, 87, [.slice B1 c.code.length c1, .int .i64 at_3, .int .u64 seed3], 3⟩, ⟨some ⟨b1, 0, none⟩, 52, [.int .i64 0, .int .i64 0, .slice none 0 0, .slice none 0 0], 4⟩, ⟨B9, 52, [.int .i64 r_3.Qubits, .int .i64 Phase, .slice B13 r_11.length c12, .slice B11 r_3.Out.Rows.length c10], 4⟩, ⟨B13, 104, (r_11.flatMap enc_Term), c12 * 2⟩, ⟨B11, 3, (r_3.Out.Rows.flatMap encI), c10 * 1⟩] [⟨B1, (c.code.flatMap enc_u8)⟩, ⟨B2, (p.Terms.flatMap enc_Term)⟩, ⟨B3, (p.Out.Rows.flatMap encI)⟩]) ?_ ?_
  · skip
    refine cw_seq ?_
    refine cw_region ?_
    refine sq 76 rfl rfl (Y_move (v := pt B 0) rfl (hf5.get 0 0 rfl)) ?_
    obtain ⟨⟨r_12, m8⟩, hc11, hz4⟩ := bind_inv hz4
    refine sc 77 rfl rfl (Yc_func (g := 55) (vs := [pt B 0, .int .i64 12]) k_call_55 rfl (mc rfl (mc rfl mn)) (c_spec_l1Cur_one (Tl1Cur.mk c.code at_2 seed2) 12 B B1 c1 c.code.length _ rfl (hS48.inn [true, false, false, false, false, false, false] rfl [(true, 0)] rfl) hc11)) ?_
    rintro _ w_33 ⟨rfl, hd18⟩
    have hS50 := hS48.out [true, false, false, false, false, false, false] rfl hd18
    have hS50 : ST w0 (bl [⟨B, 87, [.slice B1 c.code.length c1, .int .i64 c.at_, .int .u64 c.seed], 3⟩]) _ [⟨some ⟨b1, 0, none⟩, 52, [.int .i64 0, .int .i64 0, .slice none 0 0, .slice none 0 0], 4⟩, ⟨B9, 52, [.int .i64 r_3.Qubits, .int .i64 r_3.Phase, .slice B13 r_11.length c12, .slice B11 r_3.Out.Rows.length c10], 4⟩, ⟨B10, 104, (r_3.Terms.flatMap enc_Term), c9 * 2⟩, ⟨B11, 3, (r_3.Out.Rows.flatMap encI), c10 * 1⟩, ⟨B12, 3, (by_2.flatMap encI), c11 * 1⟩, ⟨B13, 104, (r_11.flatMap enc_Term), c12 * 2⟩, ⟨B, 87, [.slice B1 c.code.length c1, .int .i64 m8.at_, .int .u64 m8.seed], 3⟩] [⟨B1, (c.code.flatMap enc_u8)⟩, ⟨B2, (p.Terms.flatMap enc_Term)⟩, ⟨B3, (p.Out.Rows.flatMap encI)⟩] := hS50
    refine rw_nil ?_
    refine cw_cond (b := r_12) rfl (fun hb6 => ?_) (fun hb6 => ?_)
    · skip
      have hF16 := ct hz4 hb6
      refine cw_region ?_
      refine sq 78 rfl rfl (Y_move (v := pt B 0) rfl (hf5.get 0 0 rfl)) ?_
      obtain ⟨⟨r_13, m9⟩, hc12, hF16⟩ := bind_inv hF16
      refine sc 79 rfl rfl (Yc_func (g := 69) (vs := [pt B 0, .int .i64 8]) k_call_69 rfl (mc rfl (mc rfl mn)) (c_spec_l1Cur_pick (Tl1Cur.mk c.code m8.at_ m8.seed) 8 B B1 c1 c.code.length _ rfl (hS50.inn [false, false, false, false, false, false, true] rfl [(true, 0)] rfl) hc12)) ?_
      rintro _ w_34 ⟨rfl, hd19⟩
      have hS51 := hS50.out [false, false, false, false, false, false, true] rfl hd19
      have hS51 : ST w0 (bl [⟨B, 87, [.slice B1 c.code.length c1, .int .i64 c.at_, .int .u64 c.seed], 3⟩]) _ [⟨some ⟨b1, 0, none⟩, 52, [.int .i64 0, .int .i64 0, .slice none 0 0, .slice none 0 0], 4⟩, ⟨B9, 52, [.int .i64 r_3.Qubits, .int .i64 r_3.Phase, .slice B13 r_11.length c12, .slice B11 r_3.Out.Rows.length c10], 4⟩, ⟨B10, 104, (r_3.Terms.flatMap enc_Term), c9 * 2⟩, ⟨B11, 3, (r_3.Out.Rows.flatMap encI), c10 * 1⟩, ⟨B12, 3, (by_2.flatMap encI), c11 * 1⟩, ⟨B13, 104, (r_11.flatMap enc_Term), c12 * 2⟩, ⟨B, 87, [.slice B1 c.code.length c1, .int .i64 m9.at_, .int .u64 m9.seed], 3⟩] [⟨B1, (c.code.flatMap enc_u8)⟩, ⟨B2, (p.Terms.flatMap enc_Term)⟩, ⟨B3, (p.Out.Rows.flatMap encI)⟩] := hS51
      refine sq 80 rfl rfl (Y_fieldAddr (B := B9) (i := 0) (s := 0) k_fd_52_1_1_3 k_sz_3_1 rfl (hf5.get 6 2 rfl)) ?_
      refine ss0 rfl rfl (Ys_store (i := 1) (s := 1) (B := B9) (T' := 52) (v := .int .i64 r_13) (vs := [.int .i64 r_13]) (k := 1) (cs' := [.int .i64 r_3.Qubits, .int .i64 r_13, .slice B13 r_11.length c12, .slice B11 r_3.Out.Rows.length c10]) hS51 k_sz_3_1 rfl rfl rfl rfl rfl rfl rfl (Nat.le_of_ble_eq_true rfl) rfl rfl) ?_
      rintro _ w_35 ⟨rfl, hS52⟩
      have hS52 : ST w0 (bl [⟨B, 87, [.slice B1 c.code.length c1, .int .i64 c.at_, .int .u64 c.seed], 3⟩]) _ [⟨some ⟨b1, 0, none⟩, 52, [.int .i64 0, .int .i64 0, .slice none 0 0, .slice none 0 0], 4⟩, ⟨B9, 52, [.int .i64 r_3.Qubits, .int .i64 r_13, .slice B13 r_11.length c12, .slice B11 r_3.Out.Rows.length c10], 4⟩, ⟨B10, 104, (r_3.Terms.flatMap enc_Term), c9 * 2⟩, ⟨B11, 3, (r_3.Out.Rows.flatMap encI), c10 * 1⟩, ⟨B12, 3, (by_2.flatMap encI), c11 * 1⟩, ⟨B13, 104, (r_11.flatMap enc_Term), c12 * 2⟩, ⟨B, 87, [.slice B1 c.code.length c1, .int .i64 m9.at_, .int .u64 m9.seed], 3⟩] [⟨B1, (c.code.flatMap enc_u8)⟩, ⟨B2, (p.Terms.flatMap enc_Term)⟩, ⟨B3, (p.Out.Rows.flatMap encI)⟩] := hS52
      refine rw_nil ?_
      exact ⟨m9.at_, m9.seed, r_13, (some_inj hF16), (FF.cons (hf5.get 4 1 rfl) (FF.cons (hf5.get 6 2 rfl) FF.nil)), (hS52.sel [6, 0, 1, 5, 3] rfl rfl)⟩
    · skip
      have hF17 := cf' hz4 hb6
      refine cw_skip ?_
      exact ⟨m8.at_, m8.seed, r_3.Phase, (some_inj hF17), (FF.cons (hf5.get 4 1 rfl) (FF.cons (hf5.get 6 2 rfl) FF.nil)), (hS50.sel [6, 0, 1, 5, 3] rfl rfl)⟩
  rintro f w ⟨at_3, seed3, Phase, rfl, hf7, hS49⟩
  refine cw_seq ?_
  refine cw_region ?_
  refine sq 81 rfl rfl (Y_loadA (B := B9) (i := 0) (cs := [.int .i64 r_3.Qubits, .int .i64 Phase, .slice B13 r_11.length c12, .slice B11 r_3.Out.Rows.length c10]) (vs := [.int .i64 r_3.Qubits, .int .i64 Phase, .slice B13 r_11.length c12, .slice B11 r_3.Out.Rows.length c10]) k_ag_52 k_sz_52_4 rfl (hf7.get 6 1 rfl) (hS49.cf (i := 2) rfl) rfl rfl) ?_
  refine ss0 rfl rfl (Ys_store (i := 1) (s := 4) (B := some ⟨b1, 0, none⟩) (T' := 52) (v := .agg #[.int .i64 r_3.Qubits, .int .i64 Phase, .slice B13 r_11.length c12, .slice B11 r_3.Out.Rows.length c10]) (vs := [.int .i64 r_3.Qubits, .int .i64 Phase, .slice B13 r_11.length c12, .slice B11 r_3.Out.Rows.length c10]) (k := 0) (cs' := [.int .i64 r_3.Qubits, .int .i64 Phase, .slice B13 r_11.length c12, .slice B11 r_3.Out.Rows.length c10]) hS49 k_sz_52_4 rfl (hf7.get 4 0 rfl) rfl rfl rfl rfl rfl (Nat.le_of_ble_eq_true rfl) rfl rfl) ?_
  rintro _ w_36 ⟨rfl, hS53⟩
  have hS53 : ST w0 (bl [⟨B, 87, [.slice B1 c.code.length c1, .int .i64 c.at_, .int .u64 c.seed], 3⟩]) _ [⟨B, 87, [.slice B1 c.code.length c1, .int .i64 at_3, .int .u64 seed3], 3⟩, ⟨some ⟨b1, 0, none⟩, 52, [.int .i64 r_3.Qubits, .int .i64 Phase, .slice B13 r_11.length c12, .slice B11 r_3.Out.Rows.length c10], 4⟩, ⟨B9, 52, [.int .i64 r_3.Qubits, .int .i64 Phase, .slice B13 r_11.length c12, .slice B11 r_3.Out.Rows.length c10], 4⟩, ⟨B13, 104, (r_11.flatMap enc_Term), c12 * 2⟩, ⟨B11, 3, (r_3.Out.Rows.flatMap encI), c10 * 1⟩] [⟨B1, (c.code.flatMap enc_u8)⟩, ⟨B2, (p.Terms.flatMap enc_Term)⟩, ⟨B3, (p.Out.Rows.flatMap encI)⟩] := hS53
  refine rw_nil ?_
  refine cw_ret ?_
  obtain ⟨rfl, rfl⟩ := pr2 (some_inj hF15)
  exact ret1 Try.results88 (v1 := .agg #[.int .i64 r_3.Qubits, .int .i64 Phase, .slice B13 r_11.length c12, .slice B11 r_3.Out.Rows.length c10]) (resAt_cellA (B := some ⟨b1, 0, none⟩) (i := 0) (cs := [.int .i64 r_3.Qubits, .int .i64 Phase, .slice B13 r_11.length c12, .slice B11 r_3.Out.Rows.length c10]) (vs := [.int .i64 r_3.Qubits, .int .i64 Phase, .slice B13 r_11.length c12, .slice B11 r_3.Out.Rows.length c10]) (hf7.get 4 0 rfl) k_ag_52 k_sz_52_4 (hS53.cf (i := 1) rfl) rfl rfl) ⟨B13, c12, B11, c10, rfl, (ST.subR (R' := []) (hS53.sel [0, 3, 4] rfl rfl) (fun _ h => by cases h))⟩

theorem c_spec_DrawEqualPhases (code : List Int) (B : Option Addr) (c n : Nat) (w0 : World) (hn : code.length = n) (hS : ST w0 [] w0 [] [⟨B, (code.flatMap enc_u8)⟩]) {r_ : TPhasePoly} {r_1 : TPhasePoly} (hF : F_spec_DrawEqualPhases code = some (r_, r_1)) :
    CV Try.prog 33 #[.slice B n c] w0 (fun v w' => ∃ (B1 : Option Addr) (c1 : Nat) (B2 : Option Addr) (c2 : Nat) (B3 : Option Addr) (c3 : Nat) (B4 : Option Addr) (c4 : Nat), v = .tuple #[.agg #[.int .i64 r_.Qubits, .int .i64 r_.Phase, .slice B1 r_.Terms.length c1, .slice B2 r_.Out.Rows.length c2], .agg #[.int .i64 r_1.Qubits, .int .i64 r_1.Phase, .slice B3 r_1.Terms.length c3, .slice B4 r_1.Out.Rows.length c4]] ∧ r_1.Out.Rows.length ≤ c4 ∧ Org w0 [] [⟨B, (code.flatMap enc_u8)⟩] [⟨B4, (r_1.Out.Rows.flatMap encI)⟩] ∧ ST w0 [] w' [⟨B1, 104, (r_.Terms.flatMap enc_Term), c1 * 2⟩, ⟨B2, 3, (r_.Out.Rows.flatMap encI), c2 * 1⟩, ⟨B3, 104, (r_1.Terms.flatMap enc_Term), c3 * 2⟩] [⟨B4, (r_1.Out.Rows.flatMap encI)⟩]) := by
  subst hn
  unfold F_spec_DrawEqualPhases at hF
  refine cv_of_cw 20 Try.func33 rfl Try.ntmps33 rfl ?_
  refine cw_seq ?_
  refine cw_region ?_
  refine ss 2 rfl rfl (Ys_alloc (T := 52) (cs := [.int .i64 0, .int .i64 0, .slice none 0 0, .slice none 0 0]) (m := 4) hS k_zero_52 rfl rfl rfl) ?_
  rintro _ w_ ⟨b, rfl, hS1⟩
  refine ss 3 rfl rfl (Ys_alloc (T := 52) (cs := [.int .i64 0, .int .i64 0, .slice none 0 0, .slice none 0 0]) (m := 4) hS1 k_zero_52 rfl rfl rfl) ?_
  rintro _ w_1 ⟨b1, rfl, hS2⟩
  have hS2 : ST w0 [] _ [⟨some ⟨b, 0, none⟩, 52, [.int .i64 0, .int .i64 0, .slice none 0 0, .slice none 0 0], 4⟩, ⟨some ⟨b1, 0, none⟩, 52, [.int .i64 0, .int .i64 0, .slice none 0 0, .slice none 0 0], 4⟩] [⟨B, (code.flatMap enc_u8)⟩] := hS2
  refine rw_nil ?_
  refine cw_seq ?_
  refine cw_region ?_
  refine sq 6 rfl rfl (Y_move (v := .slice B code.length c) rfl rfl) ?_
  refine sq 7 rfl rfl (Y_buildS (zs := [.slice none 0 0, .int .i64 0, .int .u64 0]) (vs := [(0, .slice B code.length c)]) (cs := [.slice B code.length c, .int .i64 0, .int .u64 0]) k_pl_87 k_zero_87 rfl (mpc rfl mpn) rfl) ?_
  refine ss 8 rfl rfl (Ys_box (T := 87) (v := .agg #[.slice B code.length c, .int .i64 0, .int .u64 0]) (cs := [.slice B code.length c, .int .i64 0, .int .u64 0]) (m := 3) hS2 rfl rfl rfl rfl) ?_
  rintro _ w_2 ⟨b2, rfl, hS3⟩
  have hS3 : ST w0 [] _ [⟨some ⟨b, 0, none⟩, 52, [.int .i64 0, .int .i64 0, .slice none 0 0, .slice none 0 0], 4⟩, ⟨some ⟨b1, 0, none⟩, 52, [.int .i64 0, .int .i64 0, .slice none 0 0, .slice none 0 0], 4⟩, ⟨some ⟨b2, 0, none⟩, 87, [.slice B code.length c, .int .i64 0, .int .u64 0], 3⟩] [⟨B, (code.flatMap enc_u8)⟩] := hS3
  refine sq 4 rfl rfl (Y_assign (v := pt (some ⟨b2, 0, none⟩) 0) rfl rfl) ?_
  refine rw_nil ?_
  refine cw_seq ?_
  refine cw_region ?_
  refine sq 9 rfl rfl (Y_move (v := pt (some ⟨b2, 0, none⟩) 0) rfl rfl) ?_
  obtain ⟨⟨r_2, m⟩, hc, hF⟩ := bind_inv hF
  refine sc 10 rfl rfl (Yc_func (g := 87) (vs := [pt (some ⟨b2, 0, none⟩) 0]) k_call_87 rfl (mc rfl mn) (c_spec_l1Cur_reducible (Tl1Cur.mk code 0 0) (some ⟨b2, 0, none⟩) B c code.length _ rfl (hS3.inn [false, false, true] rfl [(true, 0)] rfl) hc)) ?_
  rintro _ w_3 ⟨B5, c5, B6, c6, rfl, hd⟩
  have hS4 := hS3.out [false, false, true] rfl hd
  have hS4 : ST w0 [] _ [⟨some ⟨b, 0, none⟩, 52, [.int .i64 0, .int .i64 0, .slice none 0 0, .slice none 0 0], 4⟩, ⟨some ⟨b1, 0, none⟩, 52, [.int .i64 0, .int .i64 0, .slice none 0 0, .slice none 0 0], 4⟩, ⟨some ⟨b2, 0, none⟩, 87, [.slice B code.length c, .int .i64 m.at_, .int .u64 m.seed], 3⟩, ⟨B5, 104, (r_2.Terms.flatMap enc_Term), c5 * 2⟩, ⟨B6, 3, (r_2.Out.Rows.flatMap encI), c6 * 1⟩] [⟨B, (code.flatMap enc_u8)⟩] := hS4
  refine ss 5 rfl rfl (Ys_alloc (T := 52) (cs := [.int .i64 0, .int .i64 0, .slice none 0 0, .slice none 0 0]) (m := 4) hS4 k_zero_52 rfl rfl rfl) ?_
  rintro _ w_4 ⟨b3, rfl, hS5⟩
  have hS5 : ST w0 [] _ [⟨some ⟨b, 0, none⟩, 52, [.int .i64 0, .int .i64 0, .slice none 0 0, .slice none 0 0], 4⟩, ⟨some ⟨b1, 0, none⟩, 52, [.int .i64 0, .int .i64 0, .slice none 0 0, .slice none 0 0], 4⟩, ⟨some ⟨b2, 0, none⟩, 87, [.slice B code.length c, .int .i64 m.at_, .int .u64 m.seed], 3⟩, ⟨B5, 104, (r_2.Terms.flatMap enc_Term), c5 * 2⟩, ⟨B6, 3, (r_2.Out.Rows.flatMap encI), c6 * 1⟩, ⟨some ⟨b3, 0, none⟩, 52, [.int .i64 0, .int .i64 0, .slice none 0 0, .slice none 0 0], 4⟩] [⟨B, (code.flatMap enc_u8)⟩] := hS5
  refine ss0 rfl rfl (Ys_store (i := 5) (s := 4) (B := some ⟨b3, 0, none⟩) (T' := 52) (v := .agg #[.int .i64 r_2.Qubits, .int .i64 r_2.Phase, .slice B5 r_2.Terms.length c5, .slice B6 r_2.Out.Rows.length c6]) (vs := [.int .i64 r_2.Qubits, .int .i64 r_2.Phase, .slice B5 r_2.Terms.length c5, .slice B6 r_2.Out.Rows.length c6]) (k := 0) (cs' := [.int .i64 r_2.Qubits, .int .i64 r_2.Phase, .slice B5 r_2.Terms.length c5, .slice B6 r_2.Out.Rows.length c6]) hS5 k_sz_52_4 rfl rfl rfl rfl rfl rfl rfl (Nat.le_of_ble_eq_true rfl) rfl rfl) ?_
  rintro _ w_5 ⟨rfl, hS6⟩
  have hS6 : ST w0 [] _ [⟨some ⟨b, 0, none⟩, 52, [.int .i64 0, .int .i64 0, .slice none 0 0, .slice none 0 0], 4⟩, ⟨some ⟨b1, 0, none⟩, 52, [.int .i64 0, .int .i64 0, .slice none 0 0, .slice none 0 0], 4⟩, ⟨some ⟨b2, 0, none⟩, 87, [.slice B code.length c, .int .i64 m.at_, .int .u64 m.seed], 3⟩, ⟨B5, 104, (r_2.Terms.flatMap enc_Term), c5 * 2⟩, ⟨B6, 3, (r_2.Out.Rows.flatMap encI), c6 * 1⟩, ⟨some ⟨b3, 0, none⟩, 52, [.int .i64 r_2.Qubits, .int .i64 r_2.Phase, .slice B5 r_2.Terms.length c5, .slice B6 r_2.Out.Rows.length c6], 4⟩] [⟨B, (code.flatMap enc_u8)⟩] := hS6
  refine rw_nil ?_
  refine cw_seq ?_
  refine cw_seq ?_
  refine cw_region ?_
  refine sq 11 rfl rfl (Y_move (v := pt (some ⟨b2, 0, none⟩) 0) rfl rfl) ?_
  obtain ⟨⟨r_3, m1⟩, hc1, hF⟩ := bind_inv hF
  refine sc 12 rfl rfl (Yc_func (g := 55) (vs := [pt (some ⟨b2, 0, none⟩) 0, .int .i64 8]) k_call_55 rfl (mc rfl (mc rfl mn)) (c_spec_l1Cur_one (Tl1Cur.mk code m.at_ m.seed) 8 (some ⟨b2, 0, none⟩) B c code.length _ rfl (hS6.inn [false, false, true, false, false, false] rfl [(true, 0)] rfl) hc1)) ?_
  rintro _ w_6 ⟨rfl, hd1⟩
  have hS7 := hS6.out [false, false, true, false, false, false] rfl hd1
  have hS7 : ST w0 [] _ [⟨some ⟨b, 0, none⟩, 52, [.int .i64 0, .int .i64 0, .slice none 0 0, .slice none 0 0], 4⟩, ⟨some ⟨b1, 0, none⟩, 52, [.int .i64 0, .int .i64 0, .slice none 0 0, .slice none 0 0], 4⟩, ⟨B5, 104, (r_2.Terms.flatMap enc_Term), c5 * 2⟩, ⟨B6, 3, (r_2.Out.Rows.flatMap encI), c6 * 1⟩, ⟨some ⟨b3, 0, none⟩, 52, [.int .i64 r_2.Qubits, .int .i64 r_2.Phase, .slice B5 r_2.Terms.length c5, .slice B6 r_2.Out.Rows.length c6], 4⟩, ⟨some ⟨b2, 0, none⟩, 87, [.slice B code.length c, .int .i64 m1.at_, .int .u64 m1.seed], 3⟩] [⟨B, (code.flatMap enc_u8)⟩] := hS7
  refine rw_nil ?_
  refine cw_cond (b := r_3) rfl (fun hb => ?_) (fun hb => ?_)
  · skip
    have hF1 := ct hF hb
    refine cw_seq ?_
    obtain ⟨⟨r_4, m2⟩, hc2, hF1⟩ := bind_inv hF1
    refine ra_start (ST.sel hS7 [2, 3, 4] rfl rfl).fn (by kernel_rfl) ?_
    have hS10 := hS7.drew
    refine ra_q 0 13 (v := .agg #[.int .i64 r_2.Qubits, .int .i64 r_2.Phase, .slice B5 r_2.Terms.length c5, .slice B6 r_2.Out.Rows.length c6]) rfl rfl rfl (by kernel_rfl) (by kernel_rfl) (by kernel_rfl) (ST.sel hS10 [2, 3, 4] rfl rfl) (fun w' hw' => (Y_loadA (B := some ⟨b3, 0, none⟩) (i := 0) (cs := [.int .i64 r_2.Qubits, .int .i64 r_2.Phase, .slice B5 r_2.Terms.length c5, .slice B6 r_2.Out.Rows.length c6]) (vs := [.int .i64 r_2.Qubits, .int .i64 r_2.Phase, .slice B5 r_2.Terms.length c5, .slice B6 r_2.Out.Rows.length c6]) k_ag_52 k_sz_52_4 rfl rfl (ST.cf hw' (i := 2) rfl) rfl rfl)) ?_
    refine ra_q 1 14 (v := pt (some ⟨b2, 0, none⟩) 0) rfl rfl rfl (by kernel_rfl) (by kernel_rfl) (by kernel_rfl) (ST.sel hS10 [2, 3, 4] rfl rfl) (fun w' hw' => (Y_move (v := pt (some ⟨b2, 0, none⟩) 0) rfl rfl)) ?_
    refine ra_all (rs := [2]) (by kernel_rfl) rfl ?_
    refine ra_c 15 (i := 2) rfl rfl rfl (Yc_func (g := 71) (vs := [pt (some ⟨b2, 0, none⟩) 0]) k_call_71 rfl (mc rfl mn) (c_spec_l1Cur_anyPhasePoly (Tl1Cur.mk code m1.at_ m1.seed) (some ⟨b2, 0, none⟩) B c code.length _ rfl (hS10.inn [false, false, false, false, false, true] rfl [(true, 0)] rfl) hc2)) ?_ ?_
    · rintro _ w_7 ⟨B7, c7, B8, c8, rfl, hq, ho, hd2⟩
      have hS11 := ST.outR hS10 [false, false, false, false, false, true] rfl hd2 ho (subc (mem_at (i := 0) rfl) (fun _ h => by cases h))
      have ho2 : Org w0 [] [⟨B, (code.flatMap enc_u8)⟩] [⟨B8, (r_4.Out.Rows.flatMap encI)⟩] := org_trans hS10 (msk_mem (mask := [false, false, false, false, false, true]) rfl) ho (org_cons (org_mem (i := 0) rfl) org_nil)
      have hS12 : ST w0 [] _ [⟨some ⟨b, 0, none⟩, 52, [.int .i64 0, .int .i64 0, .slice none 0 0, .slice none 0 0], 4⟩, ⟨some ⟨b1, 0, none⟩, 52, [.int .i64 0, .int .i64 0, .slice none 0 0, .slice none 0 0], 4⟩, ⟨B5, 104, (r_2.Terms.flatMap enc_Term), c5 * 2⟩, ⟨B6, 3, (r_2.Out.Rows.flatMap encI), c6 * 1⟩, ⟨some ⟨b3, 0, none⟩, 52, [.int .i64 r_2.Qubits, .int .i64 r_2.Phase, .slice B5 r_2.Terms.length c5, .slice B6 r_2.Out.Rows.length c6], 4⟩, ⟨some ⟨b2, 0, none⟩, 87, [.slice B code.length c, .int .i64 m2.at_, .int .u64 m2.seed], 3⟩, ⟨B7, 104, (r_4.Terms.flatMap enc_Term), c7 * 2⟩] [⟨B8, (r_4.Out.Rows.flatMap encI)⟩, ⟨B, (code.flatMap enc_u8)⟩] := hS11
      have hS12 : ST w0 [] _ [⟨some ⟨b, 0, none⟩, 52, [.int .i64 0, .int .i64 0, .slice none 0 0, .slice none 0 0], 4⟩, ⟨some ⟨b1, 0, none⟩, 52, [.int .i64 0, .int .i64 0, .slice none 0 0, .slice none 0 0], 4⟩, ⟨B5, 104, (r_2.Terms.flatMap enc_Term), c5 * 2⟩, ⟨B6, 3, (r_2.Out.Rows.flatMap encI), c6 * 1⟩, ⟨some ⟨b3, 0, none⟩, 52, [.int .i64 r_2.Qubits, .int .i64 r_2.Phase, .slice B5 r_2.Terms.length c5, .slice B6 r_2.Out.Rows.length c6], 4⟩, ⟨some ⟨b2, 0, none⟩, 87, [.slice B code.length c, .int .i64 m2.at_, .int .u64 m2.seed], 3⟩, ⟨B7, 104, (r_4.Terms.flatMap enc_Term), c7 * 2⟩] [⟨B8, (r_4.Out.Rows.flatMap encI)⟩, ⟨B, (code.flatMap enc_u8)⟩] := hS12
      refine ⟨(ST.subR (ST.sel hS12 [2, 3, 4] rfl rfl) (R' := [⟨B, (code.flatMap enc_u8)⟩]) (subc (mem_at (i := 1) rfl) (fun _ h => by cases h))), ?_⟩
      refine ra_all (rs := [3]) (by kernel_rfl) rfl ?_
      refine ra_s0 (i := 3) rfl rfl rfl (Ys_store (i := 0) (s := 4) (B := some ⟨b, 0, none⟩) (T' := 52) (v := .agg #[.int .i64 r_2.Qubits, .int .i64 r_2.Phase, .slice B5 r_2.Terms.length c5, .slice B6 r_2.Out.Rows.length c6]) (vs := [.int .i64 r_2.Qubits, .int .i64 r_2.Phase, .slice B5 r_2.Terms.length c5, .slice B6 r_2.Out.Rows.length c6]) (k := 0) (cs' := [.int .i64 r_2.Qubits, .int .i64 r_2.Phase, .slice B5 r_2.Terms.length c5, .slice B6 r_2.Out.Rows.length c6]) hS12 k_sz_52_4 rfl rfl rfl rfl rfl rfl rfl (Nat.le_of_ble_eq_true rfl) rfl rfl) ?_ ?_
      · rintro _ w_8 ⟨rfl, hS13⟩
        have hS13 : ST w0 [] _ [⟨some ⟨b, 0, none⟩, 52, [.int .i64 r_2.Qubits, .int .i64 r_2.Phase, .slice B5 r_2.Terms.length c5, .slice B6 r_2.Out.Rows.length c6], 4⟩, ⟨some ⟨b1, 0, none⟩, 52, [.int .i64 0, .int .i64 0, .slice none 0 0, .slice none 0 0], 4⟩, ⟨B5, 104, (r_2.Terms.flatMap enc_Term), c5 * 2⟩, ⟨B6, 3, (r_2.Out.Rows.flatMap encI), c6 * 1⟩, ⟨some ⟨b3, 0, none⟩, 52, [.int .i64 r_2.Qubits, .int .i64 r_2.Phase, .slice B5 r_2.Terms.length c5, .slice B6 r_2.Out.Rows.length c6], 4⟩, ⟨some ⟨b2, 0, none⟩, 87, [.slice B code.length c, .int .i64 m2.at_, .int .u64 m2.seed], 3⟩, ⟨B7, 104, (r_4.Terms.flatMap enc_Term), c7 * 2⟩] [⟨B8, (r_4.Out.Rows.flatMap encI)⟩, ⟨B, (code.flatMap enc_u8)⟩] := hS13
        refine ⟨(ST.subR (ST.sel hS13 [2, 3, 4] rfl rfl) (R' := [⟨B, (code.flatMap enc_u8)⟩]) (subc (mem_at (i := 1) rfl) (fun _ h => by cases h))), ?_⟩
        refine ra_all (rs := [4]) (by kernel_rfl) rfl ?_
        refine ra_s0 (i := 4) rfl rfl rfl (Ys_store (i := 1) (s := 4) (B := some ⟨b1, 0, none⟩) (T' := 52) (v := .agg #[.int .i64 r_4.Qubits, .int .i64 r_4.Phase, .slice B7 r_4.Terms.length c7, .slice B8 r_4.Out.Rows.length c8]) (vs := [.int .i64 r_4.Qubits, .int .i64 r_4.Phase, .slice B7 r_4.Terms.length c7, .slice B8 r_4.Out.Rows.length c8]) (k := 0) (cs' := [.int .i64 r_4.Qubits, .int .i64 r_4.Phase, .slice B7 r_4.Terms.length c7, .slice B8 r_4.Out.Rows.length c8]) hS13 k_sz_52_4 rfl rfl rfl rfl rfl rfl rfl (Nat.le_of_ble_eq_true rfl) rfl rfl) ?_ ?_
        · rintro _ w_9 ⟨rfl, hS14⟩
          have hS14 : ST w0 [] _ [⟨some ⟨b, 0, none⟩, 52, [.int .i64 r_2.Qubits, .int .i64 r_2.Phase, .slice B5 r_2.Terms.length c5, .slice B6 r_2.Out.Rows.length c6], 4⟩, ⟨some ⟨b1, 0, none⟩, 52, [.int .i64 r_4.Qubits, .int .i64 r_4.Phase, .slice B7 r_4.Terms.length c7, .slice B8 r_4.Out.Rows.length c8], 4⟩, ⟨B5, 104, (r_2.Terms.flatMap enc_Term), c5 * 2⟩, ⟨B6, 3, (r_2.Out.Rows.flatMap encI), c6 * 1⟩, ⟨some ⟨b3, 0, none⟩, 52, [.int .i64 r_2.Qubits, .int .i64 r_2.Phase, .slice B5 r_2.Terms.length c5, .slice B6 r_2.Out.Rows.length c6], 4⟩, ⟨some ⟨b2, 0, none⟩, 87, [.slice B code.length c, .int .i64 m2.at_, .int .u64 m2.seed], 3⟩, ⟨B7, 104, (r_4.Terms.flatMap enc_Term), c7 * 2⟩] [⟨B8, (r_4.Out.Rows.flatMap encI)⟩, ⟨B, (code.flatMap enc_u8)⟩] := hS14
          refine ⟨(ST.subR (ST.sel hS14 [2, 3, 4] rfl rfl) (R' := [⟨B, (code.flatMap enc_u8)⟩]) (subc (mem_at (i := 1) rfl) (fun _ h => by cases h))), ?_⟩
          refine ra_done (by kernel_rfl) ?_
          refine cw_ret ?_
          obtain ⟨rfl, rfl⟩ := pr2 (some_inj hF1)
          exact ret2 Try.results33 (v1 := .agg #[.int .i64 r_2.Qubits, .int .i64 r_2.Phase, .slice B5 r_2.Terms.length c5, .slice B6 r_2.Out.Rows.length c6]) (resAt_cellA (B := some ⟨b, 0, none⟩) (i := 0) (cs := [.int .i64 r_2.Qubits, .int .i64 r_2.Phase, .slice B5 r_2.Terms.length c5, .slice B6 r_2.Out.Rows.length c6]) (vs := [.int .i64 r_2.Qubits, .int .i64 r_2.Phase, .slice B5 r_2.Terms.length c5, .slice B6 r_2.Out.Rows.length c6]) rfl k_ag_52 k_sz_52_4 (hS14.cf (i := 0) rfl) rfl rfl) (v2 := .agg #[.int .i64 r_4.Qubits, .int .i64 r_4.Phase, .slice B7 r_4.Terms.length c7, .slice B8 r_4.Out.Rows.length c8]) (resAt_cellA (B := some ⟨b1, 0, none⟩) (i := 0) (cs := [.int .i64 r_4.Qubits, .int .i64 r_4.Phase, .slice B7 r_4.Terms.length c7, .slice B8 r_4.Out.Rows.length c8]) (vs := [.int .i64 r_4.Qubits, .int .i64 r_4.Phase, .slice B7 r_4.Terms.length c7, .slice B8 r_4.Out.Rows.length c8]) rfl k_ag_52 k_sz_52_4 (hS14.cf (i := 1) rfl) rfl rfl) ⟨B5, c5, B6, c6, B7, c7, B8, c8, rfl, (len_le rfl hq), (org_cons (org_sub ho2 (subc (mem_at (i := 0) rfl) (fun _ h => by cases h))) org_nil), (ST.subR (R' := [⟨B8, (r_4.Out.Rows.flatMap encI)⟩]) (hS14.sel [2, 3, 6] rfl rfl) (subc (mem_at (i := 0) rfl) (fun _ h => by cases h)))⟩
        exact allR_nil
      exact allR_nil
    exact allR_nil
  · skip
    have hF2 := cf' hF hb
    refine cw_skip ?_
    refine cw_seq ?_
    obtain ⟨⟨r_5, m3⟩, hc3, hF2⟩ := bind_inv hF2
    refine ra_start (ST.sel hS7 [2, 3, 4] rfl rfl).fn (by kernel_rfl) ?_
    have hS16 := hS7.drew
    refine ra_q 0 16 (v := .agg #[.int .i64 r_2.Qubits, .int .i64 r_2.Phase, .slice B5 r_2.Terms.length c5, .slice B6 r_2.Out.Rows.length c6]) rfl rfl rfl (by kernel_rfl) (by kernel_rfl) (by kernel_rfl) (ST.sel hS16 [2, 3, 4] rfl rfl) (fun w' hw' => (Y_loadA (B := some ⟨b3, 0, none⟩) (i := 0) (cs := [.int .i64 r_2.Qubits, .int .i64 r_2.Phase, .slice B5 r_2.Terms.length c5, .slice B6 r_2.Out.Rows.length c6]) (vs := [.int .i64 r_2.Qubits, .int .i64 r_2.Phase, .slice B5 r_2.Terms.length c5, .slice B6 r_2.Out.Rows.length c6]) k_ag_52 k_sz_52_4 rfl rfl (ST.cf hw' (i := 2) rfl) rfl rfl)) ?_
    refine ra_q 1 17 (v := pt (some ⟨b2, 0, none⟩) 0) rfl rfl rfl (by kernel_rfl) (by kernel_rfl) (by kernel_rfl) (ST.sel hS16 [2, 3, 4] rfl rfl) (fun w' hw' => (Y_move (v := pt (some ⟨b2, 0, none⟩) 0) rfl rfl)) ?_
    refine ra_q 2 18 (v := .agg #[.int .i64 r_2.Qubits, .int .i64 r_2.Phase, .slice B5 r_2.Terms.length c5, .slice B6 r_2.Out.Rows.length c6]) rfl rfl rfl (by kernel_rfl) (by kernel_rfl) (by kernel_rfl) (ST.sel hS16 [2, 3, 4] rfl rfl) (fun w' hw' => (Y_loadA (B := some ⟨b3, 0, none⟩) (i := 0) (cs := [.int .i64 r_2.Qubits, .int .i64 r_2.Phase, .slice B5 r_2.Terms.length c5, .slice B6 r_2.Out.Rows.length c6]) (vs := [.int .i64 r_2.Qubits, .int .i64 r_2.Phase, .slice B5 r_2.Terms.length c5, .slice B6 r_2.Out.Rows.length c6]) k_ag_52 k_sz_52_4 rfl rfl (ST.cf hw' (i := 2) rfl) rfl rfl)) ?_
    refine ra_all (rs := [3]) (by kernel_rfl) rfl ?_
    refine ra_c 19 (i := 3) rfl rfl rfl (Yc_func (g := 88) (vs := [pt (some ⟨b2, 0, none⟩) 0, .agg #[.int .i64 r_2.Qubits, .int .i64 r_2.Phase, .slice B5 r_2.Terms.length c5, .slice B6 r_2.Out.Rows.length c6]]) k_call_88 rfl (mc rfl (mc rfl mn)) (c_spec_l1Cur_relative (Tl1Cur.mk code m1.at_ m1.seed) r_2 (some ⟨b2, 0, none⟩) B c code.length B5 c5 r_2.Terms.length B6 c6 r_2.Out.Rows.length _ rfl rfl rfl (hS16.inn [false, false, false, false, false, true] rfl [(true, 0), (false, 2), (false, 3)] rfl) hc3)) ?_ ?_
    · rintro _ w_10 ⟨B9, c9, B10, c10, rfl, hd3⟩
      have hS17 := hS16.out [false, false, false, false, false, true] rfl hd3
      have hS17 : ST w0 [] _ [⟨some ⟨b, 0, none⟩, 52, [.int .i64 0, .int .i64 0, .slice none 0 0, .slice none 0 0], 4⟩, ⟨some ⟨b1, 0, none⟩, 52, [.int .i64 0, .int .i64 0, .slice none 0 0, .slice none 0 0], 4⟩, ⟨B5, 104, (r_2.Terms.flatMap enc_Term), c5 * 2⟩, ⟨B6, 3, (r_2.Out.Rows.flatMap encI), c6 * 1⟩, ⟨some ⟨b3, 0, none⟩, 52, [.int .i64 r_2.Qubits, .int .i64 r_2.Phase, .slice B5 r_2.Terms.length c5, .slice B6 r_2.Out.Rows.length c6], 4⟩, ⟨some ⟨b2, 0, none⟩, 87, [.slice B code.length c, .int .i64 m3.at_, .int .u64 m3.seed], 3⟩, ⟨B9, 104, (r_5.Terms.flatMap enc_Term), c9 * 2⟩, ⟨B10, 3, (r_5.Out.Rows.flatMap encI), c10 * 1⟩] [⟨B, (code.flatMap enc_u8)⟩] := hS17
      refine ⟨(ST.sel hS17 [2, 3, 4] rfl rfl), ?_⟩
      refine ra_all (rs := [4]) (by kernel_rfl) rfl ?_
      refine ra_s0 (i := 4) rfl rfl rfl (Ys_store (i := 0) (s := 4) (B := some ⟨b, 0, none⟩) (T' := 52) (v := .agg #[.int .i64 r_2.Qubits, .int .i64 r_2.Phase, .slice B5 r_2.Terms.length c5, .slice B6 r_2.Out.Rows.length c6]) (vs := [.int .i64 r_2.Qubits, .int .i64 r_2.Phase, .slice B5 r_2.Terms.length c5, .slice B6 r_2.Out.Rows.length c6]) (k := 0) (cs' := [.int .i64 r_2.Qubits, .int .i64 r_2.Phase, .slice B5 r_2.Terms.length c5, .slice B6 r_2.Out.Rows.length c6]) hS17 k_sz_52_4 rfl rfl rfl rfl rfl rfl rfl (Nat.le_of_ble_eq_true rfl) rfl rfl) ?_ ?_
      · rintro _ w_11 ⟨rfl, hS18⟩
        have hS18 : ST w0 [] _ [⟨some ⟨b, 0, none⟩, 52, [.int .i64 r_2.Qubits, .int .i64 r_2.Phase, .slice B5 r_2.Terms.length c5, .slice B6 r_2.Out.Rows.length c6], 4⟩, ⟨some ⟨b1, 0, none⟩, 52, [.int .i64 0, .int .i64 0, .slice none 0 0, .slice none 0 0], 4⟩, ⟨B5, 104, (r_2.Terms.flatMap enc_Term), c5 * 2⟩, ⟨B6, 3, (r_2.Out.Rows.flatMap encI), c6 * 1⟩, ⟨some ⟨b3, 0, none⟩, 52, [.int .i64 r_2.Qubits, .int .i64 r_2.Phase, .slice B5 r_2.Terms.length c5, .slice B6 r_2.Out.Rows.length c6], 4⟩, ⟨some ⟨b2, 0, none⟩, 87, [.slice B code.length c, .int .i64 m3.at_, .int .u64 m3.seed], 3⟩, ⟨B9, 104, (r_5.Terms.flatMap enc_Term), c9 * 2⟩, ⟨B10, 3, (r_5.Out.Rows.flatMap encI), c10 * 1⟩] [⟨B, (code.flatMap enc_u8)⟩] := hS18
        refine ⟨(ST.sel hS18 [2, 3, 4] rfl rfl), ?_⟩
        refine ra_all (rs := [5]) (by kernel_rfl) rfl ?_
        refine ra_s0 (i := 5) rfl rfl rfl (Ys_store (i := 1) (s := 4) (B := some ⟨b1, 0, none⟩) (T' := 52) (v := .agg #[.int .i64 r_5.Qubits, .int .i64 r_5.Phase, .slice B9 r_5.Terms.length c9, .slice B10 r_5.Out.Rows.length c10]) (vs := [.int .i64 r_5.Qubits, .int .i64 r_5.Phase, .slice B9 r_5.Terms.length c9, .slice B10 r_5.Out.Rows.length c10]) (k := 0) (cs' := [.int .i64 r_5.Qubits, .int .i64 r_5.Phase, .slice B9 r_5.Terms.length c9, .slice B10 r_5.Out.Rows.length c10]) hS18 k_sz_52_4 rfl rfl rfl rfl rfl rfl rfl (Nat.le_of_ble_eq_true rfl) rfl rfl) ?_ ?_
        · rintro _ w_12 ⟨rfl, hS19⟩
          have hS19 : ST w0 [] _ [⟨some ⟨b, 0, none⟩, 52, [.int .i64 r_2.Qubits, .int .i64 r_2.Phase, .slice B5 r_2.Terms.length c5, .slice B6 r_2.Out.Rows.length c6], 4⟩, ⟨some ⟨b1, 0, none⟩, 52, [.int .i64 r_5.Qubits, .int .i64 r_5.Phase, .slice B9 r_5.Terms.length c9, .slice B10 r_5.Out.Rows.length c10], 4⟩, ⟨B5, 104, (r_2.Terms.flatMap enc_Term), c5 * 2⟩, ⟨B6, 3, (r_2.Out.Rows.flatMap encI), c6 * 1⟩, ⟨some ⟨b3, 0, none⟩, 52, [.int .i64 r_2.Qubits, .int .i64 r_2.Phase, .slice B5 r_2.Terms.length c5, .slice B6 r_2.Out.Rows.length c6], 4⟩, ⟨some ⟨b2, 0, none⟩, 87, [.slice B code.length c, .int .i64 m3.at_, .int .u64 m3.seed], 3⟩, ⟨B9, 104, (r_5.Terms.flatMap enc_Term), c9 * 2⟩, ⟨B10, 3, (r_5.Out.Rows.flatMap encI), c10 * 1⟩] [⟨B, (code.flatMap enc_u8)⟩] := hS19
          refine ⟨(ST.sel hS19 [2, 3, 4] rfl rfl), ?_⟩
          refine ra_done (by kernel_rfl) ?_
          refine cw_ret ?_
          have ho3 : Org w0 [] [⟨B, (code.flatMap enc_u8)⟩] [⟨B10, (r_5.Out.Rows.flatMap encI)⟩] := ST.orgOwn hS19 (i := 7) rfl
          have hcap : r_5.Out.Rows.length ≤ c10 := (hS19.lencap (i := 7) rfl (fm_lenn (l := r_5.Out.Rows) encI_len rfl) rfl rfl)
          have hS20 : ST w0 [] _ [⟨some ⟨b, 0, none⟩, 52, [.int .i64 r_2.Qubits, .int .i64 r_2.Phase, .slice B5 r_2.Terms.length c5, .slice B6 r_2.Out.Rows.length c6], 4⟩, ⟨some ⟨b1, 0, none⟩, 52, [.int .i64 r_5.Qubits, .int .i64 r_5.Phase, .slice B9 r_5.Terms.length c9, .slice B10 r_5.Out.Rows.length c10], 4⟩, ⟨B5, 104, (r_2.Terms.flatMap enc_Term), c5 * 2⟩, ⟨B6, 3, (r_2.Out.Rows.flatMap encI), c6 * 1⟩, ⟨some ⟨b3, 0, none⟩, 52, [.int .i64 r_2.Qubits, .int .i64 r_2.Phase, .slice B5 r_2.Terms.length c5, .slice B6 r_2.Out.Rows.length c6], 4⟩, ⟨some ⟨b2, 0, none⟩, 87, [.slice B code.length c, .int .i64 m3.at_, .int .u64 m3.seed], 3⟩, ⟨B9, 104, (r_5.Terms.flatMap enc_Term), c9 * 2⟩] [⟨B10, (r_5.Out.Rows.flatMap encI)⟩, ⟨B, (code.flatMap enc_u8)⟩] := hS19.freeze (i := 7) rfl
          obtain ⟨rfl, rfl⟩ := pr2 (some_inj hF2)
          exact ret2 Try.results33 (v1 := .agg #[.int .i64 r_2.Qubits, .int .i64 r_2.Phase, .slice B5 r_2.Terms.length c5, .slice B6 r_2.Out.Rows.length c6]) (resAt_cellA (B := some ⟨b, 0, none⟩) (i := 0) (cs := [.int .i64 r_2.Qubits, .int .i64 r_2.Phase, .slice B5 r_2.Terms.length c5, .slice B6 r_2.Out.Rows.length c6]) (vs := [.int .i64 r_2.Qubits, .int .i64 r_2.Phase, .slice B5 r_2.Terms.length c5, .slice B6 r_2.Out.Rows.length c6]) rfl k_ag_52 k_sz_52_4 (hS20.cf (i := 0) rfl) rfl rfl) (v2 := .agg #[.int .i64 r_5.Qubits, .int .i64 r_5.Phase, .slice B9 r_5.Terms.length c9, .slice B10 r_5.Out.Rows.length c10]) (resAt_cellA (B := some ⟨b1, 0, none⟩) (i := 0) (cs := [.int .i64 r_5.Qubits, .int .i64 r_5.Phase, .slice B9 r_5.Terms.length c9, .slice B10 r_5.Out.Rows.length c10]) (vs := [.int .i64 r_5.Qubits, .int .i64 r_5.Phase, .slice B9 r_5.Terms.length c9, .slice B10 r_5.Out.Rows.length c10]) rfl k_ag_52 k_sz_52_4 (hS20.cf (i := 1) rfl) rfl rfl) ⟨B5, c5, B6, c6, B9, c9, B10, c10, rfl, (len_le rfl hcap), (org_cons ho3 org_nil), (ST.subR (R' := [⟨B10, (r_5.Out.Rows.flatMap encI)⟩]) (hS20.sel [2, 3, 6] rfl rfl) (subc (mem_at (i := 0) rfl) (fun _ h => by cases h)))⟩
        exact allR_nil
      exact allR_nil
    exact allR_nil

theorem c_impl_coefficients_add (c : List Int) (mask : Int) (coef : Int) (B : Option Addr) (w0 : World) (hlen : c.length = 32) (hS : ST w0 (bl [⟨B, 102, (c.flatMap encI), 32⟩]) w0 [⟨B, 102, (c.flatMap encI), 32⟩] []) {m : List Int} (hF : F_impl_coefficients_add c mask coef = some m) :
    CV Try.prog 72 #[pt B 0, .int .i64 mask, .int .i64 coef] w0 (fun v w' => v = .tuple #[] ∧ m.length = 32 ∧ ST w0 (bl [⟨B, 102, (c.flatMap encI), 32⟩]) w' [⟨B, 102, (m.flatMap encI), 32⟩] []) := by
  unfold F_impl_coefficients_add at hF
  refine cv_of_cw 20 Try.func72 rfl Try.ntmps72 rfl ?_
  obtain ⟨x, hx, hF⟩ := bind_inv hF
  refine ra_start (ST.sel hS [] rfl rfl).fn (by kernel_rfl) ?_
  have hS1 := hS.drew
  refine ra_q 0 6 (v := pt B 0) rfl rfl rfl (by kernel_rfl) (by kernel_rfl) (by kernel_rfl) (ST.sel hS1 [] rfl rfl) (fun w' hw' => (Y_move (v := pt B 0) rfl rfl)) ?_
  refine ra_q 1 7 (v := .int .i64 mask) rfl rfl rfl (by kernel_rfl) (by kernel_rfl) (by kernel_rfl) (ST.sel hS1 [] rfl rfl) (fun w' hw' => (Y_move (v := .int .i64 mask) rfl rfl)) ?_
  refine ra_q 2 8 (v := pt B 0) rfl rfl rfl (by kernel_rfl) (by kernel_rfl) (by kernel_rfl) (ST.sel hS1 [] rfl rfl) (fun w' hw' => (Y_move (v := pt B 0) rfl rfl)) ?_
  refine ra_q 3 9 (v := .int .i64 mask) rfl rfl rfl (by kernel_rfl) (by kernel_rfl) (by kernel_rfl) (ST.sel hS1 [] rfl rfl) (fun w' hw' => (Y_move (v := .int .i64 mask) rfl rfl)) ?_
  refine ra_q 4 10 (v := pt B 0) rfl rfl rfl (by kernel_rfl) (by kernel_rfl) (by kernel_rfl) (ST.sel hS1 [] rfl rfl) (fun w' hw' => (Y_nilCheck (B := B) (i := 0) rfl rfl)) ?_
  refine ra_q 5 11 (v := pt B (mask.toNat * 1)) rfl rfl rfl (by kernel_rfl) (by kernel_rfl) (by kernel_rfl) (ST.sel hS1 [] rfl rfl) (fun w' hw' => (Y_indexArr0 (B := B) (k := .i64) (i := mask) k_ar_102_32_3 k_sz_3_1 rfl rfl rfl (getI_nn hx) (getI_ltI hx hlen))) ?_
  refine ra_q 7 13 (v := .int .i64 coef) rfl rfl rfl (by kernel_rfl) (by kernel_rfl) (by kernel_rfl) (ST.sel hS1 [] rfl rfl) (fun w' hw' => (Y_move (v := .int .i64 coef) rfl rfl)) ?_
  refine ra_q 12 18 (v := pt B 0) rfl rfl rfl (by kernel_rfl) (by kernel_rfl) (by kernel_rfl) (ST.sel hS1 [] rfl rfl) (fun w' hw' => (Y_nilCheck (B := B) (i := 0) rfl rfl)) ?_
  refine ra_all (rs := [6]) (by kernel_rfl) rfl ?_
  refine ra_y 12 (i := 6) (v := .int .i64 x) rfl rfl rfl (Y_load1 (B := B) (i := mask.toNat * 1) (cs := (c.flatMap encI)) (v := .int .i64 x) k_sc_3 rfl rfl (hS1.cf (i := 0) rfl) (gi_at0 encI_len hx rfl)) (ST.sel hS1 [] rfl rfl) ?_ ?_
  · skip
    refine ra_q 8 14 (v := .int .i64 (IntKind.i64.wrap (x + coef))) rfl rfl rfl (by kernel_rfl) (by kernel_rfl) (by kernel_rfl) (ST.sel hS1 [] rfl rfl) (fun w' hw' => (Y_add (k := .i64) (a := x) (b := coef) rfl rfl rfl)) ?_
    refine ra_q 9 15 (v := .int .i64 (Int.tmod (IntKind.i64.wrap (x + coef)) 8)) rfl rfl rfl (by kernel_rfl) (by kernel_rfl) (by kernel_rfl) (ST.sel hS1 [] rfl rfl) (fun w' hw' => (Y_rem (k := .i64) (a := (IntKind.i64.wrap (x + coef))) (b := 8) rfl rfl rfl (by decide))) ?_
    refine ra_q 10 16 (v := .int .i64 (IntKind.i64.wrap ((Int.tmod (IntKind.i64.wrap (x + coef)) 8) + 8))) rfl rfl rfl (by kernel_rfl) (by kernel_rfl) (by kernel_rfl) (ST.sel hS1 [] rfl rfl) (fun w' hw' => (Y_add (k := .i64) (a := (Int.tmod (IntKind.i64.wrap (x + coef)) 8)) (b := 8) rfl rfl rfl)) ?_
    refine ra_q 11 17 (v := .int .i64 (Int.tmod (IntKind.i64.wrap ((Int.tmod (IntKind.i64.wrap (x + coef)) 8) + 8)) 8)) rfl rfl rfl (by kernel_rfl) (by kernel_rfl) (by kernel_rfl) (ST.sel hS1 [] rfl rfl) (fun w' hw' => (Y_rem (k := .i64) (a := (IntKind.i64.wrap ((Int.tmod (IntKind.i64.wrap (x + coef)) 8) + 8))) (b := 8) rfl rfl rfl (by decide))) ?_
    refine ra_q 13 19 (v := pt B (mask.toNat * 1)) rfl rfl rfl (by kernel_rfl) (by kernel_rfl) (by kernel_rfl) (ST.sel hS1 [] rfl rfl) (fun w' hw' => (Y_indexArr0 (B := B) (k := .i64) (i := mask) k_ar_102_32_3 k_sz_3_1 rfl rfl rfl (getI_nn hx) (getI_ltI hx hlen))) ?_
    refine ra_all (rs := [14]) (by kernel_rfl) rfl ?_
    refine ra_s0 (i := 14) rfl rfl rfl (Ys_store (i := 0) (s := 1) (B := B) (T' := 102) (v := .int .i64 (Int.tmod (IntKind.i64.wrap ((Int.tmod (IntKind.i64.wrap (x + coef)) 8) + 8)) 8)) (vs := [.int .i64 (Int.tmod (IntKind.i64.wrap ((Int.tmod (IntKind.i64.wrap (x + coef)) 8) + 8)) 8)]) (k := mask.toNat * 1) (cs' := ((c.set mask.toNat (Int.tmod (IntKind.i64.wrap ((Int.tmod (IntKind.i64.wrap (x + coef)) 8) + 8)) 8)).flatMap encI)) hS1 k_sz_3_1 rfl rfl rfl rfl rfl rfl rfl (gi_fit0 encI_len hx) (gi_set encI_len hx (Int.tmod (IntKind.i64.wrap ((Int.tmod (IntKind.i64.wrap (x + coef)) 8) + 8)) 8) rfl) rfl) ?_ ?_
    · rintro _ w_ ⟨rfl, hS2⟩
      refine ⟨(ST.sel hS2 [] rfl rfl), ?_⟩
      refine ra_done (by kernel_rfl) ?_
      obtain rfl := some_inj hF
      exact ret0 Try.results72  ⟨rfl, (set_len _ _ _ hlen), (ST.subR (R' := []) (hS2.sel [0] rfl rfl) (fun _ h => by cases h))⟩
    exact allR_nil
  exact allR_nil

theorem c_impl_coefficients_terms (c : List Int)  (w0 : World) (hlen : c.length = 32) (hS : ST w0 [] w0 [] []) {r_ : List TTerm} (hF : F_impl_coefficients_terms c = some r_) :
    CV Try.prog 75 #[.agg (c.flatMap encI).toArray] w0 (fun v w' => ∃ (B : Option Addr) (c1 : Nat), v = .slice B r_.length c1 ∧ ST w0 [] w' [⟨B, 104, (r_.flatMap enc_Term), c1 * 2⟩] []) := by
  unfold F_impl_coefficients_terms at hF
  refine cv_of_cw 26 Try.func75 rfl Try.ntmps75 rfl ?_
  refine cw_seq ?_
  refine cw_region ?_
  refine ss 1 rfl rfl (Ys_box (T := 102) (v := .agg (c.flatMap encI).toArray) (cs := (c.flatMap encI)) (m := 32) hS rfl rfl rfl (fm_lenn2 encI_len hlen rfl)) ?_
  rintro _ w_ ⟨b, rfl, hS1⟩
  refine sq 2 rfl rfl (Y_assign (v := .slice none 0 0) rfl rfl) ?_
  refine rw_nil ?_
  refine cw_seq ?_
  refine cw_region ?_
  refine ss 6 rfl rfl (Ys_bslice0 (s := 2) (e := 104) hS1 k_sl_47_104 k_sz_104_2 rfl) ?_
  rintro _ w_1 ⟨b1, rfl, hS2⟩
  have hS2 : ST w0 [] _ [⟨some ⟨b, 0, none⟩, 102, (c.flatMap encI), 32⟩, ⟨some ⟨b1, 0, none⟩, 104, ([].flatMap enc_Term), 0 * 2⟩] [] := hS2
  refine sq 3 rfl rfl (Y_assign (v := .slice (some ⟨b1, 0, none⟩) 0 0) rfl rfl) ?_
  refine rw_nil ?_
  refine cw_seq ?_
  refine cw_seq ?_
  refine cw_region ?_
  refine sq 7 rfl rfl (Y_loadA (B := some ⟨b, 0, none⟩) (i := 0) (cs := (c.flatMap encI)) (vs := (c.flatMap encI)) k_ag_102 k_sz_102_32 rfl rfl (hS2.cf (i := 0) rfl) (fm_lenn2 encI_len hlen rfl) (fm_whole encI_len hlen rfl)) ?_
  refine sq 8 rfl rfl (Y_move (v := .int .i64 0) rfl rfl) ?_
  refine rw_nil ?_
  obtain ⟨z, hz, hF1⟩ := bind_inv hF
  refine cw_block ?_
  refine cw_loop (fun k f w => ∃ (i : Nat) (out : List TTerm) (B1 : Option Addr) (c2 : Nat), FF f [(3, .slice B1 out.length c2), (7, .agg (c.flatMap encI).toArray), (8, .int .i64 (i : Int))] ∧ ST w0 [] w [⟨B1, 104, (out.flatMap enc_Term), c2 * 2⟩] [] ∧ i + k = 32 ∧ forN (F_impl_coefficients_terms_l1 c) k i out = some z) 32 ⟨0, [], some ⟨b1, 0, none⟩, 0, (FF.cons rfl (FF.cons rfl (FF.cons rfl FF.nil))), (hS2.sel [1] rfl rfl), Nat.zero_add _, hz⟩ ?_
  rintro k_ f w ⟨i, out, B1, c2, hf, hS3, hik, hL⟩
  refine cw_seq ?_
  refine cw_region ?_
  refine sq 9 rfl rfl (Y_lt (k := .i64) (a := (i : Int)) (b := 32) rfl (hf.get 8 2 rfl) rfl) ?_
  refine rw_nil ?_
  refine cw_seq ?_
  refine cw_cond (b := (decide ((i : Int) < 32))) rfl (fun hlt => ?_) (fun hlt => ?_)
  · skip
    have hlt1 : i < 32 := by have h := of_decide_eq_true hlt; omega
    obtain ⟨k_1, rfl⟩ : ∃ k2, k_ = k2 + 1 := ⟨k_ - 1, by omega⟩
    obtain ⟨y, hb, hL1⟩ := forN_go hL
    unfold F_impl_coefficients_terms_l1 at hb
    refine cw_skip ?_
    refine cw_seq ?_
    obtain ⟨z1, hz1, hF2⟩ := bind_inv hb
    refine cw_mid (fun f w => ∃ (out1 : List TTerm) (B2 : Option Addr) (c3 : Nat), out1 = z1 ∧ FF f [(3, .slice B2 out1.length c3), (7, .agg (c.flatMap encI).toArray), (8, .int .i64 (i : Int))] ∧ ST w0 [] w [⟨B2, 104, (out1.flatMap enc_Term), c3 * 2⟩] []) ?_ ?_
    · skip
      refine cw_block ?_
      refine cw_seq ?_
      refine cw_region ?_
      refine sq 10 rfl rfl (Y_move (v := .int .i64 (i : Int)) rfl (hf.get 8 2 rfl)) ?_
      obtain ⟨x, hx, hz1⟩ := bind_inv hz1
      refine sq 11 rfl rfl (Y_idx1 (cl := (c.flatMap encI)) (k := .i64) (i := (i : Int)) (v := .int .i64 x) k_ar_102_32_3 k_sz_3_1 k_sc_3 rfl (hf.get 7 1 rfl) (hf.get 8 2 rfl) (getI_nn hx) (getI_ltI hx hlen) (gi_at0 encI_len hx rfl)) ?_
      refine sq 4 rfl rfl (Y_assign (v := .int .i64 (i : Int)) rfl rfl) ?_
      refine sq 5 rfl rfl (Y_assign (v := .int .i64 x) rfl rfl) ?_
      refine rw_nil ?_
      refine cw_seq ?_
      refine cw_region ?_
      refine sq 12 rfl rfl (Y_move (v := .int .i64 (i : Int)) rfl rfl) ?_
      refine sq 13 rfl rfl (Y_gt (k := .i64) (a := (i : Int)) (b := 0) rfl rfl rfl) ?_
      refine sq 14 rfl rfl (Y_move (v := .bool (decide (0 < (i : Int)))) rfl rfl) ?_
      refine sgq 15 (B := (decide (0 < (i : Int)))) (v := .int .i64 x) rfl rfl (wt_t (gd_of (t := 14) (by kernel_rfl) rfl)) (fun hg => (Y_move (v := .int .i64 x) rfl rfl)) ?_
      refine sgq 16 (B := (decide (0 < (i : Int)))) (v := .bool (decide (0 < x))) rfl rfl (wt_t (gd_of (t := 14) (by kernel_rfl) rfl)) (fun hg1 => (Y_gt (k := .i64) (a := x) (b := 0) rfl (gv_of (B := (decide (0 < (i : Int)))) (v := .int .i64 x) hg1) rfl)) ?_
      refine sq 17 rfl rfl (Y_and (b := (decide (0 < (i : Int)))) (z := (decide (0 < x))) rfl rfl rfl rfl) ?_
      refine rw_nil ?_
      refine cw_cond (b := ((decide (0 < (i : Int))) && (decide (0 < x)))) rfl (fun hb1 => ?_) (fun hb1 => ?_)
      · skip
        have hF3 := ct hz1 hb1
        refine cw_region ?_
        refine sq 18 rfl rfl (Y_move (v := .slice B1 out.length c2) rfl (hf.get 3 0 rfl)) ?_
        refine sq 19 rfl rfl (Y_move (v := .int .i64 (i : Int)) rfl rfl) ?_
        refine sq 20 rfl rfl (Y_move (v := .int .i64 x) rfl rfl) ?_
        refine sq 21 rfl rfl (Y_buildS (zs := [.int .i64 0, .int .i64 0]) (vs := [(0, .int .i64 (i : Int)), (1, .int .i64 x)]) (cs := [.int .i64 (i : Int), .int .i64 x]) k_pl_104 k_zero_104 rfl (mpc rfl (mpc rfl mpn)) rfl) ?_
        refine ss 22 rfl rfl (Ys_bslice (s := 2) (len := 1) (vs := [(0, .agg #[.int .i64 (i : Int), .int .i64 x])]) (cs := [.int .i64 (i : Int), .int .i64 x]) (zs := [.int .i64 0, .int .i64 0]) (m := 2) hS3 k_sl_47_104 k_sz_104_2 k_zc_104 rfl (mpc rfl mpn) rfl rfl rfl (by kernel_rfl) (by kernel_rfl) rfl) ?_
        rintro _ w_2 ⟨b2, rfl, hS5⟩
        have hS5 : ST w0 [] _ [⟨B1, 104, (out.flatMap enc_Term), c2 * 2⟩, ⟨some ⟨b2, 0, none⟩, 104, ([(TTerm.mk (i : Int) x)].flatMap enc_Term), 1 * 2⟩] [] := hS5
        obtain ⟨hap, hF3⟩ := chk_inv hF3
        refine ss 23 rfl rfl (Ys_append (s := 2) (by' := 16) (i := 0) (nn := out.length) (c := c2) (k := 1) (len := (out ++ [(TTerm.mk (i : Int) x)]).length) (B := B1) (xs := ([(TTerm.mk (i : Int) x)].flatMap enc_Term)) (cs' := ((out ++ [(TTerm.mk (i : Int) x)]).flatMap enc_Term)) hS5 k_sl_47_104 k_sz_104_2 k_by_104_16 k_zero_104 rfl (by decide) rfl rfl rfl rfl (fm_lenn (l := out) enc_Term_len rfl) rfl (hS5.cf (i := 1) rfl) (fm_lenn (l := [(TTerm.mk (i : Int) x)]) enc_Term_len rfl) (fm_one' (enc := enc_Term) enc_Term_one [(TTerm.mk (i : Int) x)]) (by have := hap; omega) (by have := hap; simp only [maxLen]; omega) (fm_app _ _) (app_len (l := out) (l' := [(TTerm.mk (i : Int) x)]) rfl rfl)) ?_
        rintro _ w_3 ⟨B3, c4, rfl, hS6⟩
        have hS6 : ST w0 [] _ [⟨B3, 104, ((out ++ [(TTerm.mk (i : Int) x)]).flatMap enc_Term), c4 * 2⟩, ⟨some ⟨b2, 0, none⟩, 104, ([(TTerm.mk (i : Int) x)].flatMap enc_Term), 1 * 2⟩] [] := hS6
        refine sq 3 rfl rfl (Y_assign (v := .slice B3 ((out ++ [(TTerm.mk (i : Int) x)]).length) c4) rfl rfl) ?_
        refine rw_nil ?_
        exact ⟨(out ++ [(TTerm.mk (i : Int) x)]), B3, c4, (some_inj hF3), (FF.cons rfl (FF.cons (hf.get 7 1 rfl) (FF.cons (hf.get 8 2 rfl) FF.nil))), (hS6.sel [0] rfl rfl)⟩
      · skip
        have hF4 := cf' hz1 hb1
        refine cw_skip ?_
        exact ⟨out, B1, c2, (some_inj hF4), (FF.cons (hf.get 3 0 rfl) (FF.cons (hf.get 7 1 rfl) (FF.cons (hf.get 8 2 rfl) FF.nil))), (hS3.sel [0] rfl rfl)⟩
    rintro f w ⟨out1, B2, c3, rfl, hf1, hS4⟩
    refine cw_region ?_
    refine sq 24 rfl rfl (Y_add (k := .i64) (a := (i : Int)) (b := 1) rfl (hf1.get 8 2 rfl) rfl) ?_
    refine sq 8 rfl rfl (Y_move (v := .int .i64 (IntKind.i64.wrap ((i : Int) + 1))) rfl rfl) ?_
    refine rw_nil ?_
    obtain rfl := some_inj hF2
    exact ⟨k_1, Nat.lt_succ_self _, i + 1, out1, B2, c3, (FF.cons (hf1.get 3 0 rfl) (FF.cons (hf1.get 7 1 rfl) (FF.cons (congrArg (Value.int .i64) (wr_succ hlt1 (show 32 ≤ 9223372036854775807 by decide))) FF.nil))), (hS4.sel [0] rfl rfl), (by omega), hL1⟩
  · skip
    obtain rfl : k_ = 0 := by have h := of_decide_eq_false hlt; omega
    refine cw_exit rfl ?_
    obtain rfl := some_inj hL
    refine cw_seq ?_
    refine cw_region ?_
    refine sq 25 rfl rfl (Y_move (v := .slice B1 out.length c2) rfl (hf.get 3 0 rfl)) ?_
    refine sq 2 rfl rfl (Y_assign (v := .slice B1 out.length c2) rfl rfl) ?_
    refine rw_nil ?_
    refine cw_ret ?_
    obtain rfl := some_inj hF1
    exact ret1 Try.results75 (v1 := .slice B1 out.length c2) (resAt_tmp rfl) ⟨B1, c2, rfl, (ST.subR (R' := []) (hS3.sel [0] rfl rfl) (fun _ h => by cases h))⟩

theorem c_impl_bitsIn (mask : Int)  (w0 : World)  (hS : ST w0 [] w0 [] []) {r_ : Int} (hF : F_impl_bitsIn mask = some r_) :
    CV Try.prog 95 #[.int .i64 mask] w0 (fun v w' => v = .int .i64 r_ ∧ ST w0 [] w' [] []) := by
  unfold F_impl_bitsIn at hF
  refine cv_of_cw 6 Try.func95 rfl Try.ntmps95 rfl ?_
  refine cw_seq ?_
  refine cw_region ?_
  refine sq 2 rfl rfl (Y_assign (v := .int .i64 0) rfl rfl) ?_
  refine rw_nil ?_
  refine cw_seq ?_
  refine cw_region ?_
  refine sq 3 rfl rfl (Y_move (v := .int .i64 mask) rfl rfl) ?_
  refine sq 4 rfl rfl (Y_conv (k := .i64) (a := mask) (T := 3) (T' := 63) k_us_3 k_int_63_u64 rfl rfl) ?_
  obtain ⟨r_1, hc, hF⟩ := bind_inv hF
  refine sc 5 rfl rfl (Yc_func (g := 128) (vs := [.int .u64 (IntKind.u64.wrap mask)]) k_call_128 rfl (mc rfl mn) (c_math_bits_OnesCount (IntKind.u64.wrap mask) _  (hS.inn0 [] rfl) hc)) ?_
  rintro _ w_ ⟨rfl, hd⟩
  have hS1 := hS.out00 hd
  refine sq 2 rfl rfl (Y_assign (v := .int .i64 r_1) rfl rfl) ?_
  refine rw_nil ?_
  refine cw_ret ?_
  obtain rfl := some_inj hF
  exact ret1 Try.results95 (v1 := .int .i64 r_1) (resAt_tmp rfl) ⟨rfl, (ST.subR (R' := []) (hS1.sel [] rfl rfl) (fun _ h => by cases h))⟩

theorem c_impl_MonomialsOf (p : TPhasePoly) (B : Option Addr) (c n : Nat) (B1 : Option Addr) (c1 n1 : Nat) (w0 : World) (hn : p.Terms.length = n) (hn1 : p.Out.Rows.length = n1) (hS : ST w0 [] w0 [] [⟨B, (p.Terms.flatMap enc_Term)⟩, ⟨B1, (p.Out.Rows.flatMap encI)⟩]) {r_ : List TTerm} {r_1 : Bool} (hF : F_impl_MonomialsOf p = some (r_, r_1)) :
    CV Try.prog 37 #[.agg #[.int .i64 p.Qubits, .int .i64 p.Phase, .slice B n c, .slice B1 n1 c1]] w0 (fun v w' => ∃ (B2 : Option Addr) (c2 : Nat), v = .tuple #[.slice B2 r_.length c2, .bool r_1] ∧ ST w0 [] w' [⟨B2, 104, (r_.flatMap enc_Term), c2 * 2⟩] []) := by
  subst hn
  subst hn1
  unfold F_impl_MonomialsOf at hF
  refine cv_of_cw 49 Try.func37 rfl Try.ntmps37 rfl ?_
  refine cw_seq ?_
  refine cw_region ?_
  refine ss 1 rfl rfl (Ys_box (T := 52) (v := .agg #[.int .i64 p.Qubits, .int .i64 p.Phase, .slice B p.Terms.length c, .slice B1 p.Out.Rows.length c1]) (cs := [.int .i64 p.Qubits, .int .i64 p.Phase, .slice B p.Terms.length c, .slice B1 p.Out.Rows.length c1]) (m := 4) hS rfl rfl rfl rfl) ?_
  rintro _ w_ ⟨b, rfl, hS1⟩
  refine sq 2 rfl rfl (Y_assign (v := .slice none 0 0) rfl rfl) ?_
  refine sq 3 rfl rfl (Y_assign (v := .bool false) rfl rfl) ?_
  refine rw_nil ?_
  refine cw_seq ?_
  refine cw_seq ?_
  refine cw_region ?_
  refine sq 9 rfl rfl (Y_loadA (B := some ⟨b, 0, none⟩) (i := 0) (cs := [.int .i64 p.Qubits, .int .i64 p.Phase, .slice B p.Terms.length c, .slice B1 p.Out.Rows.length c1]) (vs := [.int .i64 p.Qubits, .int .i64 p.Phase, .slice B p.Terms.length c, .slice B1 p.Out.Rows.length c1]) k_ag_52 k_sz_52_4 rfl rfl (hS1.cf (i := 0) rfl) rfl rfl) ?_
  obtain ⟨r_2, hc, hF⟩ := bind_inv hF
  refine sc 10 rfl rfl (Yc_func (g := 30) (vs := [.agg #[.int .i64 p.Qubits, .int .i64 p.Phase, .slice B p.Terms.length c, .slice B1 p.Out.Rows.length c1]]) k_call_30 rfl (mc rfl mn) (c_impl_IsValidPhasePoly p B c p.Terms.length B1 c1 p.Out.Rows.length _ rfl rfl (hS1.inn0 [(true, 0), (true, 1)] rfl) hc)) ?_
  rintro _ w_1 ⟨rfl, hd⟩
  have hS2 := hS1.out00 hd
  refine sq 11 rfl rfl (Y_not (p := r_2) rfl rfl) ?_
  refine rw_nil ?_
  refine cw_cond (b := (!r_2)) rfl (fun hb => ?_) (fun hb => ?_)
  · skip
    have hF1 := ct hF hb
    refine cw_seq ?_
    refine cw_region ?_
    refine sq 2 rfl rfl (Y_assign (v := .slice none 0 0) rfl rfl) ?_
    refine sq 3 rfl rfl (Y_assign (v := .bool false) rfl rfl) ?_
    refine rw_nil ?_
    refine cw_ret ?_
    have hS3 := hS2.addNil 104
    obtain ⟨rfl, rfl⟩ := pr2 (some_inj hF1)
    exact ret2 Try.results37 (v1 := .slice none 0 0) (resAt_tmp rfl) (v2 := .bool false) (resAt_tmp rfl) ⟨none, 0, rfl, (ST.subR (R' := []) (hS3.sel [1] rfl rfl) (fun _ h => by cases h))⟩
  · skip
    have hF2 := cf' hF hb
    refine cw_skip ?_
    refine cw_seq ?_
    refine cw_region ?_
    refine sq 12 rfl rfl (show Y _ _ _ _ _ (.agg ((List.replicate 32 0).flatMap encI).toArray) from Y_buildA (zs := [.int .i64 0, .int .i64 0, .int .i64 0, .int .i64 0, .int .i64 0, .int .i64 0, .int .i64 0, .int .i64 0, .int .i64 0, .int .i64 0, .int .i64 0, .int .i64 0, .int .i64 0, .int .i64 0, .int .i64 0, .int .i64 0, .int .i64 0, .int .i64 0, .int .i64 0, .int .i64 0, .int .i64 0, .int .i64 0, .int .i64 0, .int .i64 0, .int .i64 0, .int .i64 0, .int .i64 0, .int .i64 0, .int .i64 0, .int .i64 0, .int .i64 0, .int .i64 0]) (vs := []) (cs := [.int .i64 0, .int .i64 0, .int .i64 0, .int .i64 0, .int .i64 0, .int .i64 0, .int .i64 0, .int .i64 0, .int .i64 0, .int .i64 0, .int .i64 0, .int .i64 0, .int .i64 0, .int .i64 0, .int .i64 0, .int .i64 0, .int .i64 0, .int .i64 0, .int .i64 0, .int .i64 0, .int .i64 0, .int .i64 0, .int .i64 0, .int .i64 0, .int .i64 0, .int .i64 0, .int .i64 0, .int .i64 0, .int .i64 0, .int .i64 0, .int .i64 0, .int .i64 0]) k_ar_102_32_3 k_sz_3_1 k_zero_102 rfl rfl rfl) ?_
    refine ss 4 rfl rfl (Ys_alloc (T := 102) (cs := ((List.replicate 32 0).flatMap encI)) (m := 32) hS2 k_zero_102 rfl rfl rfl) ?_
    rintro _ w_2 ⟨b1, rfl, hS4⟩
    have hS4 : ST w0 [] _ [⟨some ⟨b, 0, none⟩, 52, [.int .i64 p.Qubits, .int .i64 p.Phase, .slice B p.Terms.length c, .slice B1 p.Out.Rows.length c1], 4⟩, ⟨some ⟨b1, 0, none⟩, 102, ((List.replicate 32 0).flatMap encI), 32⟩] [⟨B, (p.Terms.flatMap enc_Term)⟩, ⟨B1, (p.Out.Rows.flatMap encI)⟩] := hS4
    refine ss0 rfl rfl (Ys_store (i := 1) (s := 32) (B := some ⟨b1, 0, none⟩) (T' := 102) (v := .agg ((List.replicate 32 0).flatMap encI).toArray) (vs := ((List.replicate 32 0).flatMap encI)) (k := 0) (cs' := ((List.replicate 32 0).flatMap encI)) hS4 k_sz_102_32 rfl rfl rfl rfl (fm_lenn2 encI_len (List.length_replicate (n := 32)) rfl) (fm_one' encI_one _) rfl (fm_fit encI_len (List.length_replicate (n := 32)) rfl) (fm_spl encI_len (List.length_replicate (n := 32)) (List.length_replicate (n := 32))) rfl) ?_
    rintro _ w_3 ⟨rfl, hS5⟩
    have hS5 : ST w0 [] _ [⟨some ⟨b, 0, none⟩, 52, [.int .i64 p.Qubits, .int .i64 p.Phase, .slice B p.Terms.length c, .slice B1 p.Out.Rows.length c1], 4⟩, ⟨some ⟨b1, 0, none⟩, 102, ((List.replicate 32 0).flatMap encI), 32⟩] [⟨B, (p.Terms.flatMap enc_Term)⟩, ⟨B1, (p.Out.Rows.flatMap encI)⟩] := hS5
    refine rw_nil ?_
    refine cw_seq ?_
    refine cw_seq ?_
    refine cw_region ?_
    refine sq 5 rfl rfl (Y_assign (v := .int .i64 1) rfl rfl) ?_
    refine rw_nil ?_
    obtain ⟨z, hz, hF3⟩ := bind_inv hF2
    refine cw_block ?_
    refine cw_loop (fun k f w => ∃ (sums : List Int) (mask : Int), FF f [(1, pt (some ⟨b, 0, none⟩) 0), (4, pt (some ⟨b1, 0, none⟩) 0), (5, .int .i64 mask)] ∧ sums.length = 32 ∧ ST w0 [] w [⟨some ⟨b, 0, none⟩, 52, [.int .i64 p.Qubits, .int .i64 p.Phase, .slice B p.Terms.length c, .slice B1 p.Out.Rows.length c1], 4⟩, ⟨some ⟨b1, 0, none⟩, 102, (sums.flatMap encI), 32⟩] [⟨B, (p.Terms.flatMap enc_Term)⟩, ⟨B1, (p.Out.Rows.flatMap encI)⟩] ∧ whX (F_impl_MonomialsOf_l1 p) k (sums, mask) = some z) fuel ⟨(List.replicate 32 0), 1, (FF.cons rfl (FF.cons rfl (FF.cons rfl FF.nil))), (List.length_replicate (n := 32)), (hS5.sel [0, 1] rfl rfl), hz⟩ ?_
    rintro k_ f w ⟨sums, mask, hf, hl, hS6, hL⟩
    obtain ⟨k_1, y, rfl, hb1, hL1⟩ := whX_go hL
    unfold F_impl_MonomialsOf_l1 at hb1
    refine cw_seq ?_
    refine cw_seq ?_
    refine cw_region ?_
    refine sq 13 rfl rfl (Y_move (v := .int .i64 mask) rfl (hf.get 5 2 rfl)) ?_
    refine sq 14 rfl rfl (Y_fieldAddr (B := some ⟨b, 0, none⟩) (i := 0) (s := 0) k_fd_52_0_0_3 k_sz_3_1 rfl (hf.get 1 0 rfl)) ?_
    refine sq 15 rfl rfl (Y_load1 (B := some ⟨b, 0, none⟩) (i := 0) (cs := [.int .i64 p.Qubits, .int .i64 p.Phase, .slice B p.Terms.length c, .slice B1 p.Out.Rows.length c1]) (v := .int .i64 p.Qubits) k_sc_3 rfl rfl (hS6.cf (i := 0) rfl) rfl) ?_
    obtain ⟨hsh, hb1⟩ := chk_inv hb1
    refine sq 16 rfl rfl (Y_shl (k := .i64) (a := 1) (k' := .i64) (b := p.Qubits) rfl rfl rfl hsh) ?_
    refine sq 17 rfl rfl (Y_lt (k := .i64) (a := mask) (b := (shlK .i64 1 p.Qubits)) rfl rfl rfl) ?_
    refine rw_nil ?_
    refine cw_cond (b := (decide (mask < (shlK .i64 1 p.Qubits)))) rfl (fun hb2 => ?_) (fun hb2 => ?_)
    · skip
      have hF4 := ct hb1 hb2
      refine cw_skip ?_
      refine cw_seq ?_
      obtain ⟨z1, hz1, hF5⟩ := bind_inv hF4
      refine cw_mid (fun f w => ∃ (sums1 : List Int), sums1 = z1 ∧ FF f [(1, pt (some ⟨b, 0, none⟩) 0), (4, pt (some ⟨b1, 0, none⟩) 0), (5, .int .i64 mask)] ∧ sums1.length = 32 ∧ ST w0 [] w [⟨some ⟨b, 0, none⟩, 52, [.int .i64 p.Qubits, .int .i64 p.Phase, .slice B p.Terms.length c, .slice B1 p.Out.Rows.length c1], 4⟩, ⟨some ⟨b1, 0, none⟩, 102, (sums1.flatMap encI), 32⟩] [⟨B, (p.Terms.flatMap enc_Term)⟩, ⟨B1, (p.Out.Rows.flatMap encI)⟩]) ?_ ?_
      · skip
        refine cw_block ?_
        refine cw_seq ?_
        refine cw_seq ?_
        refine cw_region ?_
        refine sq 20 rfl rfl (Y_move (v := .int .i64 mask) rfl (hf.get 5 2 rfl)) ?_
        obtain ⟨r_3, hc1, hz1⟩ := bind_inv hz1
        refine sc 21 rfl rfl (Yc_func (g := 95) (vs := [.int .i64 mask]) k_call_95 rfl (mc rfl mn) (c_impl_bitsIn mask _  (hS6.inn0 [] rfl) hc1)) ?_
        rintro _ w_4 ⟨rfl, hd1⟩
        have hS8 := hS6.out00 hd1
        have hS8 : ST w0 [] _ [⟨some ⟨b, 0, none⟩, 52, [.int .i64 p.Qubits, .int .i64 p.Phase, .slice B p.Terms.length c, .slice B1 p.Out.Rows.length c1], 4⟩, ⟨some ⟨b1, 0, none⟩, 102, (sums.flatMap encI), 32⟩] [⟨B, (p.Terms.flatMap enc_Term)⟩, ⟨B1, (p.Out.Rows.flatMap encI)⟩] := hS8
        refine sq 22 rfl rfl (Y_gt (k := .i64) (a := r_3) (b := 3) rfl rfl rfl) ?_
        refine rw_nil ?_
        refine cw_cond (b := (decide (3 < r_3))) rfl (fun hb3 => ?_) (fun hb3 => ?_)
        · skip
          have hF6 := ct hz1 hb3
          refine cw_exit rfl ?_
          exact ⟨sums, (some_inj hF6), (FF.cons (hf.get 1 0 rfl) (FF.cons (hf.get 4 1 rfl) (FF.cons (hf.get 5 2 rfl) FF.nil))), hl, (hS8.sel [0, 1] rfl rfl)⟩
        · skip
          have hF7 := cf' hz1 hb3
          refine cw_skip ?_
          refine cw_seq ?_
          refine cw_region ?_
          refine sq 23 rfl rfl (show Y _ _ _ _ _ (.agg (([0, 1, (-2), 4] : List Int).flatMap encI).toArray) from Y_buildA (zs := [.int .i64 0, .int .i64 0, .int .i64 0, .int .i64 0]) (vs := [(0, .int .i64 0), (1, .int .i64 1), (2, .int .i64 (-2)), (3, .int .i64 4)]) (cs := [.int .i64 0, .int .i64 1, .int .i64 (-2), .int .i64 4]) k_ar_119_4_3 k_sz_3_1 k_zero_119 rfl (mpc rfl (mpc rfl (mpc rfl (mpc rfl mpn)))) (by kernel_rfl)) ?_
          refine sq 24 rfl rfl (Y_move (v := .int .i64 mask) rfl (hf.get 5 2 rfl)) ?_
          obtain ⟨r_4, hc2, hF7⟩ := bind_inv hF7
          refine sc 25 rfl rfl (Yc_func (g := 95) (vs := [.int .i64 mask]) k_call_95 rfl (mc rfl mn) (c_impl_bitsIn mask _  (hS8.inn0 [] rfl) hc2)) ?_
          rintro _ w_5 ⟨rfl, hd2⟩
          have hS9 := hS8.out00 hd2
          have hS9 : ST w0 [] _ [⟨some ⟨b, 0, none⟩, 52, [.int .i64 p.Qubits, .int .i64 p.Phase, .slice B p.Terms.length c, .slice B1 p.Out.Rows.length c1], 4⟩, ⟨some ⟨b1, 0, none⟩, 102, (sums.flatMap encI), 32⟩] [⟨B, (p.Terms.flatMap enc_Term)⟩, ⟨B1, (p.Out.Rows.flatMap encI)⟩] := hS9
          obtain ⟨x, hx, hF7⟩ := bind_inv hF7
          refine sq 26 rfl rfl (Y_idx1 (cl := (([0, 1, (-2), 4] : List Int).flatMap encI)) (k := .i64) (i := r_4) (v := .int .i64 x) k_ar_119_4_3 k_sz_3_1 k_sc_3 rfl rfl rfl (getI_nn hx) (getI_ltI hx rfl) (gi_at0 encI_len hx rfl)) ?_
          refine sq 6 rfl rfl (Y_assign (v := .int .i64 x) rfl rfl) ?_
          refine rw_nil ?_
          refine cw_seq ?_
          refine cw_region ?_
          refine sq 27 rfl rfl (Y_fieldAddr (B := some ⟨b, 0, none⟩) (i := 0) (s := 0) k_fd_52_2_2_47 k_sz_47_1 rfl (hf.get 1 0 rfl)) ?_
          refine sq 28 rfl rfl (Y_load1 (B := some ⟨b, 0, none⟩) (i := 2) (cs := [.int .i64 p.Qubits, .int .i64 p.Phase, .slice B p.Terms.length c, .slice B1 p.Out.Rows.length c1]) (v := .slice B p.Terms.length c) k_sc_47 rfl rfl (hS9.cf (i := 0) rfl) rfl) ?_
          refine sq 29 rfl rfl (Y_len (B := B) (m := p.Terms.length) (c := c) k_sl_47_104 rfl rfl) ?_
          refine sq 30 rfl rfl (Y_move (v := .int .i64 0) rfl rfl) ?_
          refine rw_nil ?_
          obtain ⟨hN, hF7⟩ := chk_inv hF7
          obtain ⟨z2, hz2, hF8⟩ := bind_inv hF7
          refine cw_block ?_
          refine cw_loop (fun k f w => ∃ (i : Nat) (sums2 : List Int), FF f [(1, pt (some ⟨b, 0, none⟩) 0), (4, pt (some ⟨b1, 0, none⟩) 0), (5, .int .i64 mask), (6, .int .i64 x), (28, .slice B p.Terms.length c), (29, .int .i64 (p.Terms.length : Int)), (30, .int .i64 (i : Int))] ∧ sums2.length = 32 ∧ ST w0 [] w [⟨some ⟨b, 0, none⟩, 52, [.int .i64 p.Qubits, .int .i64 p.Phase, .slice B p.Terms.length c, .slice B1 p.Out.Rows.length c1], 4⟩, ⟨some ⟨b1, 0, none⟩, 102, (sums2.flatMap encI), 32⟩] [⟨B, (p.Terms.flatMap enc_Term)⟩, ⟨B1, (p.Out.Rows.flatMap encI)⟩] ∧ i + k = p.Terms.length ∧ forN (F_impl_MonomialsOf_l2 p mask x) k i sums2 = some z2) p.Terms.length ⟨0, sums, (FF.cons (hf.get 1 0 rfl) (FF.cons (hf.get 4 1 rfl) (FF.cons (hf.get 5 2 rfl) (FF.cons rfl (FF.cons rfl (FF.cons rfl (FF.cons rfl FF.nil))))))), hl, (hS9.sel [0, 1] rfl rfl), Nat.zero_add _, hz2⟩ ?_
          rintro k_2 f w ⟨i, sums2, hf2, hl2, hS10, hik1, hL2⟩
          refine cw_seq ?_
          refine cw_region ?_
          refine sq 31 rfl rfl (Y_lt (k := .i64) (a := (i : Int)) (b := (p.Terms.length : Int)) rfl (hf2.get 30 6 rfl) (hf2.get 29 5 rfl)) ?_
          refine rw_nil ?_
          refine cw_seq ?_
          refine cw_cond (b := (decide ((i : Int) < (p.Terms.length : Int)))) rfl (fun hlt => ?_) (fun hlt => ?_)
          · skip
            have hlt1 : i < p.Terms.length := by have h := of_decide_eq_true hlt; omega
            obtain ⟨k_3, rfl⟩ : ∃ k2, k_2 = k2 + 1 := ⟨k_2 - 1, by omega⟩
            obtain ⟨y1, hb4, hL3⟩ := forN_go hL2
            unfold F_impl_MonomialsOf_l2 at hb4
            refine cw_skip ?_
            refine cw_seq ?_
            obtain ⟨z3, hz3, hF9⟩ := bind_inv hb4
            refine cw_mid (fun f w => ∃ (sums3 : List Int), sums3 = z3 ∧ FF f [(1, pt (some ⟨b, 0, none⟩) 0), (4, pt (some ⟨b1, 0, none⟩) 0), (5, .int .i64 mask), (6, .int .i64 x), (28, .slice B p.Terms.length c), (29, .int .i64 (p.Terms.length : Int)), (30, .int .i64 (i : Int))] ∧ sums3.length = 32 ∧ ST w0 [] w [⟨some ⟨b, 0, none⟩, 52, [.int .i64 p.Qubits, .int .i64 p.Phase, .slice B p.Terms.length c, .slice B1 p.Out.Rows.length c1], 4⟩, ⟨some ⟨b1, 0, none⟩, 102, (sums3.flatMap encI), 32⟩] [⟨B, (p.Terms.flatMap enc_Term)⟩, ⟨B1, (p.Out.Rows.flatMap encI)⟩]) ?_ ?_
            · skip
              refine cw_block ?_
              refine cw_seq ?_
              refine cw_region ?_
              obtain ⟨x1, hx1, hz3⟩ := bind_inv hz3
              refine sq 32 rfl rfl (Y_index (B := B) (m := p.Terms.length) (c := c) (k := .i64) (i := (i : Int)) k_sl_47_104 k_sz_104_2 rfl (hf2.get 28 4 rfl) (hf2.get 30 6 rfl) (gi_isSome enc_Term_len rfl (hS10.rf (i := 0) rfl) hx1) (getI_nn hx1) (getI_ltI hx1 rfl)) ?_
              refine sq 33 rfl rfl (Y_loadA (B := B) (i := (i : Int).toNat * 2) (cs := (p.Terms.flatMap enc_Term)) (vs := [.int .i64 x1.Mask, .int .i64 x1.Coef]) k_ag_104 k_sz_104_2 rfl rfl (hS10.rf (i := 0) rfl) (enc_Term_len x1) (gi_seg enc_Term_len hx1)) ?_
              refine ss 8 rfl rfl (Ys_alloc (T := 104) (cs := [.int .i64 0, .int .i64 0]) (m := 2) hS10 k_zero_104 rfl rfl rfl) ?_
              rintro _ w_6 ⟨b2, rfl, hS12⟩
              have hS12 : ST w0 [] _ [⟨some ⟨b, 0, none⟩, 52, [.int .i64 p.Qubits, .int .i64 p.Phase, .slice B p.Terms.length c, .slice B1 p.Out.Rows.length c1], 4⟩, ⟨some ⟨b1, 0, none⟩, 102, (sums2.flatMap encI), 32⟩, ⟨some ⟨b2, 0, none⟩, 104, [.int .i64 0, .int .i64 0], 2⟩] [⟨B, (p.Terms.flatMap enc_Term)⟩, ⟨B1, (p.Out.Rows.flatMap encI)⟩] := hS12
              refine ss0 rfl rfl (Ys_store (i := 2) (s := 2) (B := some ⟨b2, 0, none⟩) (T' := 104) (v := .agg #[.int .i64 x1.Mask, .int .i64 x1.Coef]) (vs := [.int .i64 x1.Mask, .int .i64 x1.Coef]) (k := 0) (cs' := [.int .i64 x1.Mask, .int .i64 x1.Coef]) hS12 k_sz_104_2 rfl rfl rfl rfl rfl rfl rfl (Nat.le_of_ble_eq_true rfl) rfl rfl) ?_
              rintro _ w_7 ⟨rfl, hS13⟩
              have hS13 : ST w0 [] _ [⟨some ⟨b, 0, none⟩, 52, [.int .i64 p.Qubits, .int .i64 p.Phase, .slice B p.Terms.length c, .slice B1 p.Out.Rows.length c1], 4⟩, ⟨some ⟨b1, 0, none⟩, 102, (sums2.flatMap encI), 32⟩, ⟨some ⟨b2, 0, none⟩, 104, [.int .i64 x1.Mask, .int .i64 x1.Coef], 2⟩] [⟨B, (p.Terms.flatMap enc_Term)⟩, ⟨B1, (p.Out.Rows.flatMap encI)⟩] := hS13
              refine rw_nil ?_
              refine cw_seq ?_
              refine cw_region ?_
              refine sq 34 rfl rfl (Y_fieldAddr (B := some ⟨b2, 0, none⟩) (i := 0) (s := 0) k_fd_104_0_0_3 k_sz_3_1 rfl rfl) ?_
              refine sq 35 rfl rfl (Y_load1 (B := some ⟨b2, 0, none⟩) (i := 0) (cs := [.int .i64 x1.Mask, .int .i64 x1.Coef]) (v := .int .i64 x1.Mask) k_sc_3 rfl rfl (hS13.cf (i := 2) rfl) rfl) ?_
              refine sq 36 rfl rfl (Y_move (v := .int .i64 mask) rfl (hf2.get 5 2 rfl)) ?_
              refine sq 37 rfl rfl (Y_band (k := .i64) (a := x1.Mask) (b := mask) rfl rfl rfl) ?_
              refine sq 38 rfl rfl (Y_move (v := .int .i64 mask) rfl (hf2.get 5 2 rfl)) ?_
              refine sq 39 rfl rfl (Y_eq (k := .i64) (a := (bits .and .i64 x1.Mask mask)) (b := mask) rfl rfl rfl) ?_
              refine rw_nil ?_
              refine cw_cond (b := ((bits .and .i64 x1.Mask mask) == mask)) rfl (fun hb5 => ?_) (fun hb5 => ?_)
              · skip
                have hF10 := ct hz3 hb5
                refine cw_region ?_
                refine sq 40 rfl rfl (Y_move (v := .int .i64 mask) rfl (hf2.get 5 2 rfl)) ?_
                refine sq 41 rfl rfl (Y_move (v := .int .i64 x) rfl (hf2.get 6 3 rfl)) ?_
                refine sq 42 rfl rfl (Y_fieldAddr (B := some ⟨b2, 0, none⟩) (i := 0) (s := 0) k_fd_104_1_1_3 k_sz_3_1 rfl rfl) ?_
                refine sq 43 rfl rfl (Y_load1 (B := some ⟨b2, 0, none⟩) (i := 1) (cs := [.int .i64 x1.Mask, .int .i64 x1.Coef]) (v := .int .i64 x1.Coef) k_sc_3 rfl rfl (hS13.cf (i := 2) rfl) rfl) ?_
                refine sq 44 rfl rfl (Y_mul (k := .i64) (a := x) (b := x1.Coef) rfl rfl rfl) ?_
                obtain ⟨m, hc3, hF10⟩ := bind_inv hF10
                refine sc 45 rfl rfl (Yc_func (g := 72) (vs := [pt (some ⟨b1, 0, none⟩) 0, .int .i64 mask, .int .i64 (IntKind.i64.wrap (x * x1.Coef))]) k_call_72 rfl (mc (hf2.get 4 1 rfl) (mc rfl (mc rfl mn))) (c_impl_coefficients_add sums2 mask (IntKind.i64.wrap (x * x1.Coef)) (some ⟨b1, 0, none⟩) _ hl2 (hS13.inn [false, true, false] rfl [] rfl) hc3)) ?_
                rintro _ w_8 ⟨rfl, hl4, hd3⟩
                have hS14 := hS13.out [false, true, false] rfl hd3
                have hS14 : ST w0 [] _ [⟨some ⟨b, 0, none⟩, 52, [.int .i64 p.Qubits, .int .i64 p.Phase, .slice B p.Terms.length c, .slice B1 p.Out.Rows.length c1], 4⟩, ⟨some ⟨b2, 0, none⟩, 104, [.int .i64 x1.Mask, .int .i64 x1.Coef], 2⟩, ⟨some ⟨b1, 0, none⟩, 102, (m.flatMap encI), 32⟩] [⟨B, (p.Terms.flatMap enc_Term)⟩, ⟨B1, (p.Out.Rows.flatMap encI)⟩] := hS14
                refine rw_nil ?_
                exact ⟨m, (some_inj hF10), (FF.cons (hf2.get 1 0 rfl) (FF.cons (hf2.get 4 1 rfl) (FF.cons (hf2.get 5 2 rfl) (FF.cons (hf2.get 6 3 rfl) (FF.cons (hf2.get 28 4 rfl) (FF.cons (hf2.get 29 5 rfl) (FF.cons (hf2.get 30 6 rfl) FF.nil))))))), hl4, (hS14.sel [0, 2] rfl rfl)⟩
              · skip
                have hF11 := cf' hz3 hb5
                refine cw_skip ?_
                exact ⟨sums2, (some_inj hF11), (FF.cons (hf2.get 1 0 rfl) (FF.cons (hf2.get 4 1 rfl) (FF.cons (hf2.get 5 2 rfl) (FF.cons (hf2.get 6 3 rfl) (FF.cons (hf2.get 28 4 rfl) (FF.cons (hf2.get 29 5 rfl) (FF.cons (hf2.get 30 6 rfl) FF.nil))))))), hl2, (hS13.sel [0, 1] rfl rfl)⟩
            rintro f w ⟨sums3, rfl, hf3, hl3, hS11⟩
            refine cw_region ?_
            refine sq 46 rfl rfl (Y_add (k := .i64) (a := (i : Int)) (b := 1) rfl (hf3.get 30 6 rfl) rfl) ?_
            refine sq 30 rfl rfl (Y_move (v := .int .i64 (IntKind.i64.wrap ((i : Int) + 1))) rfl rfl) ?_
            refine rw_nil ?_
            obtain rfl := some_inj hF9
            exact ⟨k_3, Nat.lt_succ_self _, i + 1, sums3, (FF.cons (hf3.get 1 0 rfl) (FF.cons (hf3.get 4 1 rfl) (FF.cons (hf3.get 5 2 rfl) (FF.cons (hf3.get 6 3 rfl) (FF.cons (hf3.get 28 4 rfl) (FF.cons (hf3.get 29 5 rfl) (FF.cons (congrArg (Value.int .i64) (wr_succ hlt1 hN)) FF.nil))))))), hl3, (hS11.sel [0, 1] rfl rfl), (by omega), hL3⟩
          · skip
            obtain rfl : k_2 = 0 := by have h := of_decide_eq_false hlt; omega
            refine cw_exit rfl ?_
            obtain rfl := some_inj hL2
            exact ⟨sums2, (some_inj hF8), (FF.cons (hf2.get 1 0 rfl) (FF.cons (hf2.get 4 1 rfl) (FF.cons (hf2.get 5 2 rfl) FF.nil))), hl2, (hS10.sel [0, 1] rfl rfl)⟩
      rintro f w ⟨sums1, rfl, hf1, hl1, hS7⟩
      refine cw_region ?_
      refine sq 18 rfl rfl (Y_move (v := .int .i64 mask) rfl (hf1.get 5 2 rfl)) ?_
      refine sq 19 rfl rfl (Y_add (k := .i64) (a := mask) (b := 1) rfl rfl rfl) ?_
      refine sq 5 rfl rfl (Y_assign (v := .int .i64 (IntKind.i64.wrap (mask + 1))) rfl rfl) ?_
      refine rw_nil ?_
      obtain rfl := some_inj hF5
      exact ⟨k_1, Nat.lt_succ_self _, sums1, (IntKind.i64.wrap (mask + 1)), (FF.cons (hf1.get 1 0 rfl) (FF.cons (hf1.get 4 1 rfl) (FF.cons rfl FF.nil))), hl1, (hS7.sel [0, 1] rfl rfl), hL1⟩
    · skip
      have hF12 := cf' hb1 hb2
      refine cw_exit rfl ?_
      obtain rfl := some_inj hF12
      obtain rfl := some_inj hL1
      refine cw_seq ?_
      refine cw_region ?_
      refine sq 47 rfl rfl (Y_loadA (B := some ⟨b1, 0, none⟩) (i := 0) (cs := (sums.flatMap encI)) (vs := (sums.flatMap encI)) k_ag_102 k_sz_102_32 rfl (hf.get 4 1 rfl) (hS6.cf (i := 1) rfl) (fm_lenn2 encI_len hl rfl) (fm_whole encI_len hl rfl)) ?_
      obtain ⟨r_5, hc4, hF3⟩ := bind_inv hF3
      refine sc 48 rfl rfl (Yc_func (g := 75) (vs := [.agg (sums.flatMap encI).toArray]) k_call_75 rfl (mc rfl mn) (c_impl_coefficients_terms sums _ hl (hS6.inn0 [] rfl) hc4)) ?_
      rintro _ w_9 ⟨B3, c3, rfl, hd4⟩
      have hS15 := hS6.out0 hd4
      have hS15 : ST w0 [] _ [⟨some ⟨b, 0, none⟩, 52, [.int .i64 p.Qubits, .int .i64 p.Phase, .slice B p.Terms.length c, .slice B1 p.Out.Rows.length c1], 4⟩, ⟨some ⟨b1, 0, none⟩, 102, (sums.flatMap encI), 32⟩, ⟨B3, 104, (r_5.flatMap enc_Term), c3 * 2⟩] [⟨B, (p.Terms.flatMap enc_Term)⟩, ⟨B1, (p.Out.Rows.flatMap encI)⟩] := hS15
      refine sq 2 rfl rfl (Y_assign (v := .slice B3 r_5.length c3) rfl rfl) ?_
      refine sq 3 rfl rfl (Y_assign (v := .bool true) rfl rfl) ?_
      refine rw_nil ?_
      refine cw_ret ?_
      obtain ⟨rfl, rfl⟩ := pr2 (some_inj hF3)
      exact ret2 Try.results37 (v1 := .slice B3 r_5.length c3) (resAt_tmp rfl) (v2 := .bool true) (resAt_tmp rfl) ⟨B3, c3, rfl, (ST.subR (R' := []) (hS15.sel [2] rfl rfl) (fun _ h => by cases h))⟩

theorem c_slices_Equal_int_int (s1 : List Int) (s2 : List Int) (B : Option Addr) (c n : Nat) (B1 : Option Addr) (c1 n1 : Nat) (w0 : World) (hn : s1.length = n) (hn1 : s2.length = n1) (hS : ST w0 [] w0 [] [⟨B, (s1.flatMap encI)⟩, ⟨B1, (s2.flatMap encI)⟩]) {r_ : Bool} (hF : F_slices_Equal_int_int s1 s2 = some r_) :
    CV Try.prog 89 #[.slice B n c, .slice B1 n1 c1] w0 (fun v w' => v = .bool r_ ∧ ST w0 [] w' [] []) := by
  subst hn
  subst hn1
  unfold F_slices_Equal_int_int at hF
  refine cv_of_cw 26 Try.func89 rfl Try.ntmps89 rfl ?_
  refine cw_seq ?_
  refine cw_region ?_
  refine sq 4 rfl rfl (Y_assign (v := .bool false) rfl rfl) ?_
  refine rw_nil ?_
  refine cw_seq ?_
  refine cw_seq ?_
  refine cw_region ?_
  refine sq 6 rfl rfl (Y_move (v := .slice B s1.length c) rfl rfl) ?_
  refine sq 7 rfl rfl (Y_len (B := B) (m := s1.length) (c := c) k_sl_48_3 rfl rfl) ?_
  refine sq 8 rfl rfl (Y_move (v := .slice B1 s2.length c1) rfl rfl) ?_
  refine sq 9 rfl rfl (Y_len (B := B1) (m := s2.length) (c := c1) k_sl_48_3 rfl rfl) ?_
  refine sq 10 rfl rfl (Y_ne (k := .i64) (a := (s1.length : Int)) (b := (s2.length : Int)) rfl rfl rfl) ?_
  refine rw_nil ?_
  refine cw_cond (b := ((s1.length : Int) != (s2.length : Int))) rfl (fun hb => ?_) (fun hb => ?_)
  · skip
    have hF1 := ct hF hb
    refine cw_seq ?_
    refine cw_region ?_
    refine sq 4 rfl rfl (Y_assign (v := .bool false) rfl rfl) ?_
    refine rw_nil ?_
    refine cw_ret ?_
    obtain rfl := some_inj hF1
    exact ret1 Try.results89 (v1 := .bool false) (resAt_tmp rfl) ⟨rfl, (ST.subR (R' := []) (hS.sel [] rfl rfl) (fun _ h => by cases h))⟩
  · skip
    have hF2 := cf' hF hb
    refine cw_skip ?_
    refine cw_seq ?_
    refine cw_seq ?_
    refine cw_region ?_
    refine sq 11 rfl rfl (Y_move (v := .slice B s1.length c) rfl rfl) ?_
    refine sq 12 rfl rfl (Y_len (B := B) (m := s1.length) (c := c) k_sl_48_3 rfl rfl) ?_
    refine sq 13 rfl rfl (Y_move (v := .int .i64 0) rfl rfl) ?_
    refine rw_nil ?_
    obtain ⟨hN, hF2⟩ := chk_inv hF2
    obtain ⟨z, hz, hF3⟩ := bind_inv hF2
    refine cw_block ?_
    refine cw_loop (fun k f w => ∃ (i : Nat), FF f [(0, .slice B s1.length c), (1, .slice B1 s2.length c1), (12, .int .i64 (s1.length : Int)), (13, .int .i64 (i : Int))] ∧ ST w0 [] w [] [⟨B, (s1.flatMap encI)⟩, ⟨B1, (s2.flatMap encI)⟩] ∧ i + k = s1.length ∧ forX (F_slices_Equal_int_int_l1 s1 s2) k i () = some z) s1.length ⟨0, (FF.cons rfl (FF.cons rfl (FF.cons rfl (FF.cons rfl FF.nil)))), (hS.sel [] rfl rfl), Nat.zero_add _, hz⟩ ?_
    rintro k_ f w ⟨i, hf, hS1, hik, hL⟩
    refine cw_seq ?_
    refine cw_region ?_
    refine sq 14 rfl rfl (Y_lt (k := .i64) (a := (i : Int)) (b := (s1.length : Int)) rfl (hf.get 13 3 rfl) (hf.get 12 2 rfl)) ?_
    refine rw_nil ?_
    refine cw_seq ?_
    refine cw_cond (b := (decide ((i : Int) < (s1.length : Int)))) rfl (fun hlt => ?_) (fun hlt => ?_)
    · skip
      have hlt1 : i < s1.length := by have h := of_decide_eq_true hlt; omega
      obtain ⟨k_1, rfl⟩ : ∃ k2, k_ = k2 + 1 := ⟨k_ - 1, by omega⟩
      obtain ⟨y, hb1, hL1⟩ := forX_go hL
      unfold F_slices_Equal_int_int_l1 at hb1
      refine cw_skip ?_
      refine cw_seq ?_
      refine cw_block ?_
      refine cw_seq ?_
      refine cw_region ?_
      refine sq 15 rfl rfl (Y_move (v := .int .i64 (i : Int)) rfl (hf.get 13 3 rfl)) ?_
      refine sq 5 rfl rfl (Y_assign (v := .int .i64 (i : Int)) rfl rfl) ?_
      refine rw_nil ?_
      refine cw_seq ?_
      obtain ⟨x, hx, hb1⟩ := bind_inv hb1
      obtain ⟨x1, hx1, hb1⟩ := bind_inv hb1
      refine ra_start (ST.sel hS1 [] rfl rfl).fn (by kernel_rfl) ?_
      have hS2 := hS1.drew
      refine ra_q 0 16 (v := .slice B s1.length c) rfl rfl rfl (by kernel_rfl) (by kernel_rfl) (by kernel_rfl) (ST.sel hS2 [] rfl rfl) (fun w' hw' => (Y_move (v := .slice B s1.length c) rfl (hf.get 0 0 rfl))) ?_
      refine ra_q 1 17 (v := .int .i64 (i : Int)) rfl rfl rfl (by kernel_rfl) (by kernel_rfl) (by kernel_rfl) (ST.sel hS2 [] rfl rfl) (fun w' hw' => (Y_move (v := .int .i64 (i : Int)) rfl rfl)) ?_
      refine ra_q 2 18 (v := pt B ((i : Int).toNat * 1)) rfl rfl rfl (by kernel_rfl) (by kernel_rfl) (by kernel_rfl) (ST.sel hS2 [] rfl rfl) (fun w' hw' => (Y_index (B := B) (m := s1.length) (c := c) (k := .i64) (i := (i : Int)) k_sl_48_3 k_sz_3_1 rfl rfl rfl (gi_isSome encI_len rfl (ST.rf hw' (i := 0) rfl) hx) (getI_nn hx) (getI_ltI hx rfl))) ?_
      refine ra_q 3 19 (v := .int .i64 x) rfl rfl rfl (by kernel_rfl) (by kernel_rfl) (by kernel_rfl) (ST.sel hS2 [] rfl rfl) (fun w' hw' => (Y_load1 (B := B) (i := (i : Int).toNat * 1) (cs := (s1.flatMap encI)) (v := .int .i64 x) k_sc_3 rfl rfl (ST.rf hw' (i := 0) rfl) (gi_at0 encI_len hx rfl))) ?_
      refine ra_q 4 20 (v := .slice B1 s2.length c1) rfl rfl rfl (by kernel_rfl) (by kernel_rfl) (by kernel_rfl) (ST.sel hS2 [] rfl rfl) (fun w' hw' => (Y_move (v := .slice B1 s2.length c1) rfl (hf.get 1 1 rfl))) ?_
      refine ra_q 5 21 (v := .int .i64 (i : Int)) rfl rfl rfl (by kernel_rfl) (by kernel_rfl) (by kernel_rfl) (ST.sel hS2 [] rfl rfl) (fun w' hw' => (Y_move (v := .int .i64 (i : Int)) rfl rfl)) ?_
      refine ra_q 6 22 (v := pt B1 ((i : Int).toNat * 1)) rfl rfl rfl (by kernel_rfl) (by kernel_rfl) (by kernel_rfl) (ST.sel hS2 [] rfl rfl) (fun w' hw' => (Y_index (B := B1) (m := s2.length) (c := c1) (k := .i64) (i := (i : Int)) k_sl_48_3 k_sz_3_1 rfl rfl rfl (gi_isSome encI_len rfl (ST.rf hw' (i := 1) rfl) hx1) (getI_nn hx1) (getI_ltI hx1 rfl))) ?_
      refine ra_q 7 23 (v := .int .i64 x1) rfl rfl rfl (by kernel_rfl) (by kernel_rfl) (by kernel_rfl) (ST.sel hS2 [] rfl rfl) (fun w' hw' => (Y_load1 (B := B1) (i := (i : Int).toNat * 1) (cs := (s2.flatMap encI)) (v := .int .i64 x1) k_sc_3 rfl rfl (ST.rf hw' (i := 1) rfl) (gi_at0 encI_len hx1 rfl))) ?_
      refine ra_q 8 24 (v := .bool (x != x1)) rfl rfl rfl (by kernel_rfl) (by kernel_rfl) (by kernel_rfl) (ST.sel hS2 [] rfl rfl) (fun w' hw' => (Y_ne (k := .i64) (a := x) (b := x1) rfl rfl rfl)) ?_
      refine ra_done (by kernel_rfl) ?_
      refine cw_cond (b := (x != x1)) rfl (fun hb2 => ?_) (fun hb2 => ?_)
      · skip
        have hF4 := ct hb1 hb2
        refine cw_seq ?_
        refine cw_region ?_
        refine sq 4 rfl rfl (Y_assign (v := .bool false) rfl rfl) ?_
        refine rw_nil ?_
        refine cw_ret ?_
        obtain rfl := some_inj hF4
        obtain rfl := some_inj hL1
        obtain rfl := some_inj hF3
        exact ret1 Try.results89 (v1 := .bool false) (resAt_tmp rfl) ⟨rfl, (ST.subR (R' := []) (hS2.sel [] rfl rfl) (fun _ h => by cases h))⟩
      · skip
        have hF5 := cf' hb1 hb2
        refine cw_skip ?_
        refine cw_region ?_
        refine sq 25 rfl rfl (Y_add (k := .i64) (a := (i : Int)) (b := 1) rfl (hf.get 13 3 rfl) rfl) ?_
        refine sq 13 rfl rfl (Y_move (v := .int .i64 (IntKind.i64.wrap ((i : Int) + 1))) rfl rfl) ?_
        refine rw_nil ?_
        obtain rfl := some_inj hF5
        exact ⟨k_1, Nat.lt_succ_self _, i + 1, (FF.cons (hf.get 0 0 rfl) (FF.cons (hf.get 1 1 rfl) (FF.cons (hf.get 12 2 rfl) (FF.cons (congrArg (Value.int .i64) (wr_succ hlt1 hN)) FF.nil)))), (hS2.sel [] rfl rfl), (by omega), hL1⟩
    · skip
      obtain rfl : k_ = 0 := by have h := of_decide_eq_false hlt; omega
      refine cw_exit rfl ?_
      obtain rfl := some_inj hL
      refine cw_seq ?_
      refine cw_region ?_
      refine sq 4 rfl rfl (Y_assign (v := .bool true) rfl rfl) ?_
      refine rw_nil ?_
      refine cw_ret ?_
      obtain rfl := some_inj hF3
      exact ret1 Try.results89 (v1 := .bool true) (resAt_tmp rfl) ⟨rfl, (ST.subR (R' := []) (hS1.sel [] rfl rfl) (fun _ h => by cases h))⟩

theorem c_slices_Equal_impl_Term_impl_Term (s1 : List TTerm) (s2 : List TTerm) (B : Option Addr) (c n : Nat) (B1 : Option Addr) (c1 n1 : Nat) (w0 : World) (hn : s1.length = n) (hn1 : s2.length = n1) (hS : ST w0 [] w0 [] [⟨B, (s1.flatMap enc_Term)⟩, ⟨B1, (s2.flatMap enc_Term)⟩]) {r_ : Bool} (hF : F_slices_Equal_impl_Term_impl_Term s1 s2 = some r_) :
    CV Try.prog 90 #[.slice B n c, .slice B1 n1 c1] w0 (fun v w' => v = .bool r_ ∧ ST w0 [] w' [] []) := by
  subst hn
  subst hn1
  unfold F_slices_Equal_impl_Term_impl_Term at hF
  refine cv_of_cw 26 Try.func90 rfl Try.ntmps90 rfl ?_
  refine cw_seq ?_
  refine cw_region ?_
  refine sq 4 rfl rfl (Y_assign (v := .bool false) rfl rfl) ?_
  refine rw_nil ?_
  refine cw_seq ?_
  refine cw_seq ?_
  refine cw_region ?_
  refine sq 6 rfl rfl (Y_move (v := .slice B s1.length c) rfl rfl) ?_
  refine sq 7 rfl rfl (Y_len (B := B) (m := s1.length) (c := c) k_sl_47_104 rfl rfl) ?_
  refine sq 8 rfl rfl (Y_move (v := .slice B1 s2.length c1) rfl rfl) ?_
  refine sq 9 rfl rfl (Y_len (B := B1) (m := s2.length) (c := c1) k_sl_47_104 rfl rfl) ?_
  refine sq 10 rfl rfl (Y_ne (k := .i64) (a := (s1.length : Int)) (b := (s2.length : Int)) rfl rfl rfl) ?_
  refine rw_nil ?_
  refine cw_cond (b := ((s1.length : Int) != (s2.length : Int))) rfl (fun hb => ?_) (fun hb => ?_)
  · skip
    have hF1 := ct hF hb
    refine cw_seq ?_
    refine cw_region ?_
    refine sq 4 rfl rfl (Y_assign (v := .bool false) rfl rfl) ?_
    refine rw_nil ?_
    refine cw_ret ?_
    obtain rfl := some_inj hF1
    exact ret1 Try.results90 (v1 := .bool false) (resAt_tmp rfl) ⟨rfl, (ST.subR (R' := []) (hS.sel [] rfl rfl) (fun _ h => by cases h))⟩
  · skip
    have hF2 := cf' hF hb
    refine cw_skip ?_
    refine cw_seq ?_
    refine cw_seq ?_
    refine cw_region ?_
    refine sq 11 rfl rfl (Y_move (v := .slice B s1.length c) rfl rfl) ?_
    refine sq 12 rfl rfl (Y_len (B := B) (m := s1.length) (c := c) k_sl_47_104 rfl rfl) ?_
    refine sq 13 rfl rfl (Y_move (v := .int .i64 0) rfl rfl) ?_
    refine rw_nil ?_
    obtain ⟨hN, hF2⟩ := chk_inv hF2
    obtain ⟨z, hz, hF3⟩ := bind_inv hF2
    refine cw_block ?_
    refine cw_loop (fun k f w => ∃ (i : Nat), FF f [(0, .slice B s1.length c), (1, .slice B1 s2.length c1), (12, .int .i64 (s1.length : Int)), (13, .int .i64 (i : Int))] ∧ ST w0 [] w [] [⟨B, (s1.flatMap enc_Term)⟩, ⟨B1, (s2.flatMap enc_Term)⟩] ∧ i + k = s1.length ∧ forX (F_slices_Equal_impl_Term_impl_Term_l1 s1 s2) k i () = some z) s1.length ⟨0, (FF.cons rfl (FF.cons rfl (FF.cons rfl (FF.cons rfl FF.nil)))), (hS.sel [] rfl rfl), Nat.zero_add _, hz⟩ ?_
    rintro k_ f w ⟨i, hf, hS1, hik, hL⟩
    refine cw_seq ?_
    refine cw_region ?_
    refine sq 14 rfl rfl (Y_lt (k := .i64) (a := (i : Int)) (b := (s1.length : Int)) rfl (hf.get 13 3 rfl) (hf.get 12 2 rfl)) ?_
    refine rw_nil ?_
    refine cw_seq ?_
    refine cw_cond (b := (decide ((i : Int) < (s1.length : Int)))) rfl (fun hlt => ?_) (fun hlt => ?_)
    · skip
      have hlt1 : i < s1.length := by have h := of_decide_eq_true hlt; omega
      obtain ⟨k_1, rfl⟩ : ∃ k2, k_ = k2 + 1 := ⟨k_ - 1, by omega⟩
      obtain ⟨y, hb1, hL1⟩ := forX_go hL
      unfold F_slices_Equal_impl_Term_impl_Term_l1 at hb1
      refine cw_skip ?_
      refine cw_seq ?_
      refine cw_block ?_
      refine cw_seq ?_
      refine cw_region ?_
      refine sq 15 rfl rfl (Y_move (v := .int .i64 (i : Int)) rfl (hf.get 13 3 rfl)) ?_
      refine sq 5 rfl rfl (Y_assign (v := .int .i64 (i : Int)) rfl rfl) ?_
      refine rw_nil ?_
      refine cw_seq ?_
      obtain ⟨x, hx, hb1⟩ := bind_inv hb1
      obtain ⟨x1, hx1, hb1⟩ := bind_inv hb1
      refine ra_start (ST.sel hS1 [] rfl rfl).fn (by kernel_rfl) ?_
      have hS2 := hS1.drew
      refine ra_q 0 16 (v := .slice B s1.length c) rfl rfl rfl (by kernel_rfl) (by kernel_rfl) (by kernel_rfl) (ST.sel hS2 [] rfl rfl) (fun w' hw' => (Y_move (v := .slice B s1.length c) rfl (hf.get 0 0 rfl))) ?_
      refine ra_q 1 17 (v := .int .i64 (i : Int)) rfl rfl rfl (by kernel_rfl) (by kernel_rfl) (by kernel_rfl) (ST.sel hS2 [] rfl rfl) (fun w' hw' => (Y_move (v := .int .i64 (i : Int)) rfl rfl)) ?_
      refine ra_q 2 18 (v := pt B ((i : Int).toNat * 2)) rfl rfl rfl (by kernel_rfl) (by kernel_rfl) (by kernel_rfl) (ST.sel hS2 [] rfl rfl) (fun w' hw' => (Y_index (B := B) (m := s1.length) (c := c) (k := .i64) (i := (i : Int)) k_sl_47_104 k_sz_104_2 rfl rfl rfl (gi_isSome enc_Term_len rfl (ST.rf hw' (i := 0) rfl) hx) (getI_nn hx) (getI_ltI hx rfl))) ?_
      refine ra_q 3 19 (v := .agg #[.int .i64 x.Mask, .int .i64 x.Coef]) rfl rfl rfl (by kernel_rfl) (by kernel_rfl) (by kernel_rfl) (ST.sel hS2 [] rfl rfl) (fun w' hw' => (Y_loadA (B := B) (i := (i : Int).toNat * 2) (cs := (s1.flatMap enc_Term)) (vs := [.int .i64 x.Mask, .int .i64 x.Coef]) k_ag_104 k_sz_104_2 rfl rfl (ST.rf hw' (i := 0) rfl) (enc_Term_len x) (gi_seg enc_Term_len hx))) ?_
      refine ra_q 4 20 (v := .slice B1 s2.length c1) rfl rfl rfl (by kernel_rfl) (by kernel_rfl) (by kernel_rfl) (ST.sel hS2 [] rfl rfl) (fun w' hw' => (Y_move (v := .slice B1 s2.length c1) rfl (hf.get 1 1 rfl))) ?_
      refine ra_q 5 21 (v := .int .i64 (i : Int)) rfl rfl rfl (by kernel_rfl) (by kernel_rfl) (by kernel_rfl) (ST.sel hS2 [] rfl rfl) (fun w' hw' => (Y_move (v := .int .i64 (i : Int)) rfl rfl)) ?_
      refine ra_q 6 22 (v := pt B1 ((i : Int).toNat * 2)) rfl rfl rfl (by kernel_rfl) (by kernel_rfl) (by kernel_rfl) (ST.sel hS2 [] rfl rfl) (fun w' hw' => (Y_index (B := B1) (m := s2.length) (c := c1) (k := .i64) (i := (i : Int)) k_sl_47_104 k_sz_104_2 rfl rfl rfl (gi_isSome enc_Term_len rfl (ST.rf hw' (i := 1) rfl) hx1) (getI_nn hx1) (getI_ltI hx1 rfl))) ?_
      refine ra_q 7 23 (v := .agg #[.int .i64 x1.Mask, .int .i64 x1.Coef]) rfl rfl rfl (by kernel_rfl) (by kernel_rfl) (by kernel_rfl) (ST.sel hS2 [] rfl rfl) (fun w' hw' => (Y_loadA (B := B1) (i := (i : Int).toNat * 2) (cs := (s2.flatMap enc_Term)) (vs := [.int .i64 x1.Mask, .int .i64 x1.Coef]) k_ag_104 k_sz_104_2 rfl rfl (ST.rf hw' (i := 1) rfl) (enc_Term_len x1) (gi_seg enc_Term_len hx1))) ?_
      refine ra_q 8 24 (v := .bool (!((x.Mask == x1.Mask) && ((x.Coef == x1.Coef) && true)))) rfl rfl rfl (by kernel_rfl) (by kernel_rfl) (by kernel_rfl) (ST.sel hS2 [] rfl rfl) (fun w' hw' => (Y_neA (xs := #[.int .i64 x.Mask, .int .i64 x.Coef]) (ys := #[.int .i64 x1.Mask, .int .i64 x1.Coef]) (b := ((x.Mask == x1.Mask) && ((x.Coef == x1.Coef) && true))) k_eg_104 rfl rfl rfl (eqr_struct (xs := [.int .i64 x.Mask, .int .i64 x.Coef]) (ys := [.int .i64 x1.Mask, .int .i64 x1.Coef]) k_st_104 k_ho_104 (pts_sc k_sc_3 rfl rfl (eqr_int k_int_3_i64) (pts_sc k_sc_3 rfl rfl (eqr_int k_int_3_i64) pts_nil))))) ?_
      refine ra_done (by kernel_rfl) ?_
      refine cw_cond (b := (!((x.Mask == x1.Mask) && ((x.Coef == x1.Coef) && true)))) rfl (fun hb2 => ?_) (fun hb2 => ?_)
      · skip
        have hF4 := ct hb1 hb2
        refine cw_seq ?_
        refine cw_region ?_
        refine sq 4 rfl rfl (Y_assign (v := .bool false) rfl rfl) ?_
        refine rw_nil ?_
        refine cw_ret ?_
        obtain rfl := some_inj hF4
        obtain rfl := some_inj hL1
        obtain rfl := some_inj hF3
        exact ret1 Try.results90 (v1 := .bool false) (resAt_tmp rfl) ⟨rfl, (ST.subR (R' := []) (hS2.sel [] rfl rfl) (fun _ h => by cases h))⟩
      · skip
        have hF5 := cf' hb1 hb2
        refine cw_skip ?_
        refine cw_region ?_
        refine sq 25 rfl rfl (Y_add (k := .i64) (a := (i : Int)) (b := 1) rfl (hf.get 13 3 rfl) rfl) ?_
        refine sq 13 rfl rfl (Y_move (v := .int .i64 (IntKind.i64.wrap ((i : Int) + 1))) rfl rfl) ?_
        refine rw_nil ?_
        obtain rfl := some_inj hF5
        exact ⟨k_1, Nat.lt_succ_self _, i + 1, (FF.cons (hf.get 0 0 rfl) (FF.cons (hf.get 1 1 rfl) (FF.cons (hf.get 12 2 rfl) (FF.cons (congrArg (Value.int .i64) (wr_succ hlt1 hN)) FF.nil)))), (hS2.sel [] rfl rfl), (by omega), hL1⟩
    · skip
      obtain rfl : k_ = 0 := by have h := of_decide_eq_false hlt; omega
      refine cw_exit rfl ?_
      obtain rfl := some_inj hL
      refine cw_seq ?_
      refine cw_region ?_
      refine sq 4 rfl rfl (Y_assign (v := .bool true) rfl rfl) ?_
      refine rw_nil ?_
      refine cw_ret ?_
      obtain rfl := some_inj hF3
      exact ret1 Try.results90 (v1 := .bool true) (resAt_tmp rfl) ⟨rfl, (ST.subR (R' := []) (hS1.sel [] rfl rfl) (fun _ h => by cases h))⟩

theorem c_impl_EqualPhases (p : TPhasePoly) (q : TPhasePoly) (B : Option Addr) (c n : Nat) (B1 : Option Addr) (c1 n1 : Nat) (B2 : Option Addr) (c2 n2 : Nat) (B3 : Option Addr) (c3 n3 : Nat) (w0 : World) (hn : p.Terms.length = n) (hn1 : p.Out.Rows.length = n1) (hn2 : q.Terms.length = n2) (hn3 : q.Out.Rows.length = n3) (hS : ST w0 [] w0 [] [⟨B, (p.Terms.flatMap enc_Term)⟩, ⟨B1, (p.Out.Rows.flatMap encI)⟩, ⟨B2, (q.Terms.flatMap enc_Term)⟩, ⟨B3, (q.Out.Rows.flatMap encI)⟩]) {r_ : Bool} {r_1 : Bool} (hF : F_impl_EqualPhases p q = some (r_, r_1)) :
    CV Try.prog 34 #[.agg #[.int .i64 p.Qubits, .int .i64 p.Phase, .slice B n c, .slice B1 n1 c1], .agg #[.int .i64 q.Qubits, .int .i64 q.Phase, .slice B2 n2 c2, .slice B3 n3 c3]] w0 (fun v w' => v = .tuple #[.bool r_, .bool r_1] ∧ ST w0 [] w' [] []) := by
  subst hn
  subst hn1
  subst hn2
  subst hn3
  unfold F_impl_EqualPhases at hF
  refine cv_of_cw 54 Try.func34 rfl Try.ntmps34 rfl ?_
  refine cw_seq ?_
  refine cw_region ?_
  refine ss 2 rfl rfl (Ys_box (T := 52) (v := .agg #[.int .i64 p.Qubits, .int .i64 p.Phase, .slice B p.Terms.length c, .slice B1 p.Out.Rows.length c1]) (cs := [.int .i64 p.Qubits, .int .i64 p.Phase, .slice B p.Terms.length c, .slice B1 p.Out.Rows.length c1]) (m := 4) hS rfl rfl rfl rfl) ?_
  rintro _ w_ ⟨b, rfl, hS1⟩
  refine ss 3 rfl rfl (Ys_box (T := 52) (v := .agg #[.int .i64 q.Qubits, .int .i64 q.Phase, .slice B2 q.Terms.length c2, .slice B3 q.Out.Rows.length c3]) (cs := [.int .i64 q.Qubits, .int .i64 q.Phase, .slice B2 q.Terms.length c2, .slice B3 q.Out.Rows.length c3]) (m := 4) hS1 rfl rfl rfl rfl) ?_
  rintro _ w_1 ⟨b1, rfl, hS2⟩
  have hS2 : ST w0 [] _ [⟨some ⟨b, 0, none⟩, 52, [.int .i64 p.Qubits, .int .i64 p.Phase, .slice B p.Terms.length c, .slice B1 p.Out.Rows.length c1], 4⟩, ⟨some ⟨b1, 0, none⟩, 52, [.int .i64 q.Qubits, .int .i64 q.Phase, .slice B2 q.Terms.length c2, .slice B3 q.Out.Rows.length c3], 4⟩] [⟨B, (p.Terms.flatMap enc_Term)⟩, ⟨B1, (p.Out.Rows.flatMap encI)⟩, ⟨B2, (q.Terms.flatMap enc_Term)⟩, ⟨B3, (q.Out.Rows.flatMap encI)⟩] := hS2
  refine sq 4 rfl rfl (Y_assign (v := .bool false) rfl rfl) ?_
  refine sq 5 rfl rfl (Y_assign (v := .bool false) rfl rfl) ?_
  refine rw_nil ?_
  refine cw_seq ?_
  refine cw_seq ?_
  refine cw_region ?_
  refine sq 10 rfl rfl (Y_loadA (B := some ⟨b, 0, none⟩) (i := 0) (cs := [.int .i64 p.Qubits, .int .i64 p.Phase, .slice B p.Terms.length c, .slice B1 p.Out.Rows.length c1]) (vs := [.int .i64 p.Qubits, .int .i64 p.Phase, .slice B p.Terms.length c, .slice B1 p.Out.Rows.length c1]) k_ag_52 k_sz_52_4 rfl rfl (hS2.cf (i := 0) rfl) rfl rfl) ?_
  obtain ⟨r_2, hc, hF⟩ := bind_inv hF
  refine sc 11 rfl rfl (Yc_func (g := 30) (vs := [.agg #[.int .i64 p.Qubits, .int .i64 p.Phase, .slice B p.Terms.length c, .slice B1 p.Out.Rows.length c1]]) k_call_30 rfl (mc rfl mn) (c_impl_IsValidPhasePoly p B c p.Terms.length B1 c1 p.Out.Rows.length _ rfl rfl (hS2.inn0 [(true, 0), (true, 1)] rfl) hc)) ?_
  rintro _ w_2 ⟨rfl, hd⟩
  have hS3 := hS2.out00 hd
  have hS3 : ST w0 [] _ [⟨some ⟨b, 0, none⟩, 52, [.int .i64 p.Qubits, .int .i64 p.Phase, .slice B p.Terms.length c, .slice B1 p.Out.Rows.length c1], 4⟩, ⟨some ⟨b1, 0, none⟩, 52, [.int .i64 q.Qubits, .int .i64 q.Phase, .slice B2 q.Terms.length c2, .slice B3 q.Out.Rows.length c3], 4⟩] [⟨B, (p.Terms.flatMap enc_Term)⟩, ⟨B1, (p.Out.Rows.flatMap encI)⟩, ⟨B2, (q.Terms.flatMap enc_Term)⟩, ⟨B3, (q.Out.Rows.flatMap encI)⟩] := hS3
  refine sq 12 rfl rfl (Y_not (p := r_2) rfl rfl) ?_
  refine sq 13 rfl rfl (Y_move (v := .bool (!r_2)) rfl rfl) ?_
  refine sgq 14 (B := (!(!r_2))) (v := .agg #[.int .i64 q.Qubits, .int .i64 q.Phase, .slice B2 q.Terms.length c2, .slice B3 q.Out.Rows.length c3]) rfl rfl (wt_f (gd_of (t := 13) (by kernel_rfl) rfl)) (fun hg => (Y_loadA (B := some ⟨b1, 0, none⟩) (i := 0) (cs := [.int .i64 q.Qubits, .int .i64 q.Phase, .slice B2 q.Terms.length c2, .slice B3 q.Out.Rows.length c3]) (vs := [.int .i64 q.Qubits, .int .i64 q.Phase, .slice B2 q.Terms.length c2, .slice B3 q.Out.Rows.length c3]) k_ag_52 k_sz_52_4 rfl rfl (hS3.cf (i := 1) rfl) rfl rfl)) ?_
  obtain ⟨r_3, hc1, hF⟩ := bind_inv hF
  refine sgc 15 (B := (!(!r_2))) (v := .bool r_3) (F := hS3.fn) rfl rfl (wt_f (gd_of (t := 13) (by kernel_rfl) rfl)) hS3 (fun hg1 => (Yc_func (g := 30) (vs := [.agg #[.int .i64 q.Qubits, .int .i64 q.Phase, .slice B2 q.Terms.length c2, .slice B3 q.Out.Rows.length c3]]) k_call_30 rfl (mc (gv_of (B := (!(!r_2))) (v := .agg #[.int .i64 q.Qubits, .int .i64 q.Phase, .slice B2 q.Terms.length c2, .slice B3 q.Out.Rows.length c3]) hg1) mn) (CV.mono (c_impl_IsValidPhasePoly q B2 c2 q.Terms.length B3 c3 q.Out.Rows.length _ rfl rfl (hS3.inn0 [(true, 2), (true, 3)] rfl) (gb_inv hc1 hg1)) (by rintro _ _ ⟨rfl, h⟩; exact ⟨rfl, hS3.out00 h⟩)))) ?_
  rintro w_3 hS4
  have hS4 : ST _ _ w_3 _ _ := hS4
  refine sgq 16 (B := (!(!r_2))) (v := .bool (!r_3)) rfl rfl (wt_f (gd_of (t := 13) (by kernel_rfl) rfl)) (fun hg2 => (Y_not (p := r_3) rfl (gv_of (B := (!(!r_2))) (v := .bool r_3) hg2))) ?_
  refine sq 17 rfl rfl (Y_or (b := (!r_2)) (z := (!r_3)) rfl rfl rfl rfl) ?_
  refine sq 18 rfl rfl (Y_move (v := .bool ((!r_2) || (!r_3))) rfl rfl) ?_
  refine sgq 19 (B := (!((!r_2) || (!r_3)))) (v := pt (some ⟨b, 0, none⟩) 0) rfl rfl (wt_f (gd_of (t := 18) (by kernel_rfl) rfl)) (fun hg3 => (Y_fieldAddr (B := some ⟨b, 0, none⟩) (i := 0) (s := 0) k_fd_52_0_0_3 k_sz_3_1 rfl rfl)) ?_
  refine sgq 20 (B := (!((!r_2) || (!r_3)))) (v := .int .i64 p.Qubits) rfl rfl (wt_f (gd_of (t := 18) (by kernel_rfl) rfl)) (fun hg4 => (Y_load1 (B := some ⟨b, 0, none⟩) (i := 0) (cs := [.int .i64 p.Qubits, .int .i64 p.Phase, .slice B p.Terms.length c, .slice B1 p.Out.Rows.length c1]) (v := .int .i64 p.Qubits) k_sc_3 rfl (gv_of (B := (!((!r_2) || (!r_3)))) (v := pt (some ⟨b, 0, none⟩) 0) hg4) (hS4.cf (i := 0) rfl) rfl)) ?_
  refine sgq 21 (B := (!((!r_2) || (!r_3)))) (v := pt (some ⟨b1, 0, none⟩) 0) rfl rfl (wt_f (gd_of (t := 18) (by kernel_rfl) rfl)) (fun hg5 => (Y_fieldAddr (B := some ⟨b1, 0, none⟩) (i := 0) (s := 0) k_fd_52_0_0_3 k_sz_3_1 rfl rfl)) ?_
  refine sgq 22 (B := (!((!r_2) || (!r_3)))) (v := .int .i64 q.Qubits) rfl rfl (wt_f (gd_of (t := 18) (by kernel_rfl) rfl)) (fun hg6 => (Y_load1 (B := some ⟨b1, 0, none⟩) (i := 0) (cs := [.int .i64 q.Qubits, .int .i64 q.Phase, .slice B2 q.Terms.length c2, .slice B3 q.Out.Rows.length c3]) (v := .int .i64 q.Qubits) k_sc_3 rfl (gv_of (B := (!((!r_2) || (!r_3)))) (v := pt (some ⟨b1, 0, none⟩) 0) hg6) (hS4.cf (i := 1) rfl) rfl)) ?_
  refine sgq 23 (B := (!((!r_2) || (!r_3)))) (v := .bool (p.Qubits != q.Qubits)) rfl rfl (wt_f (gd_of (t := 18) (by kernel_rfl) rfl)) (fun hg7 => (Y_ne (k := .i64) (a := p.Qubits) (b := q.Qubits) rfl (gv_of (B := (!((!r_2) || (!r_3)))) (v := .int .i64 p.Qubits) hg7) (gv_of (B := (!((!r_2) || (!r_3)))) (v := .int .i64 q.Qubits) hg7))) ?_
  refine sq 24 rfl rfl (Y_or (b := ((!r_2) || (!r_3))) (z := (p.Qubits != q.Qubits)) rfl rfl rfl rfl) ?_
  refine rw_nil ?_
  refine cw_cond (b := (((!r_2) || (!r_3)) || (p.Qubits != q.Qubits))) rfl (fun hb => ?_) (fun hb => ?_)
  · skip
    have hF1 := ct hF hb
    refine cw_seq ?_
    refine cw_region ?_
    refine sq 4 rfl rfl (Y_assign (v := .bool false) rfl rfl) ?_
    refine sq 5 rfl rfl (Y_assign (v := .bool false) rfl rfl) ?_
    refine rw_nil ?_
    refine cw_ret ?_
    obtain ⟨rfl, rfl⟩ := pr2 (some_inj hF1)
    exact ret2 Try.results34 (v1 := .bool false) (resAt_tmp rfl) (v2 := .bool false) (resAt_tmp rfl) ⟨rfl, (ST.subR (R' := []) (hS4.sel [] rfl rfl) (fun _ h => by cases h))⟩
  · skip
    have hF2 := cf' hF hb
    refine cw_skip ?_
    refine cw_seq ?_
    refine cw_region ?_
    refine sq 26 rfl rfl (Y_loadA (B := some ⟨b, 0, none⟩) (i := 0) (cs := [.int .i64 p.Qubits, .int .i64 p.Phase, .slice B p.Terms.length c, .slice B1 p.Out.Rows.length c1]) (vs := [.int .i64 p.Qubits, .int .i64 p.Phase, .slice B p.Terms.length c, .slice B1 p.Out.Rows.length c1]) k_ag_52 k_sz_52_4 rfl rfl (hS4.cf (i := 0) rfl) rfl rfl) ?_
    obtain ⟨⟨r_4, r_5⟩, hc2, hF2⟩ := bind_inv hF2
    refine sc 27 rfl rfl (Yc_func (g := 37) (vs := [.agg #[.int .i64 p.Qubits, .int .i64 p.Phase, .slice B p.Terms.length c, .slice B1 p.Out.Rows.length c1]]) k_call_37 rfl (mc rfl mn) (c_impl_MonomialsOf p B c p.Terms.length B1 c1 p.Out.Rows.length _ rfl rfl (hS4.inn0 [(true, 0), (true, 1)] rfl) hc2)) ?_
    rintro _ w_4 ⟨B4, c4, rfl, hd1⟩
    have hS5 := hS4.out0 hd1
    have hS5 : ST w0 [] _ [⟨some ⟨b, 0, none⟩, 52, [.int .i64 p.Qubits, .int .i64 p.Phase, .slice B p.Terms.length c, .slice B1 p.Out.Rows.length c1], 4⟩, ⟨some ⟨b1, 0, none⟩, 52, [.int .i64 q.Qubits, .int .i64 q.Phase, .slice B2 q.Terms.length c2, .slice B3 q.Out.Rows.length c3], 4⟩, ⟨B4, 104, (r_4.flatMap enc_Term), c4 * 2⟩] [⟨B, (p.Terms.flatMap enc_Term)⟩, ⟨B1, (p.Out.Rows.flatMap encI)⟩, ⟨B2, (q.Terms.flatMap enc_Term)⟩, ⟨B3, (q.Out.Rows.flatMap encI)⟩] := hS5
    refine sq 25 rfl rfl (Y_move (v := .tuple #[.slice B4 r_4.length c4, .bool r_5]) rfl rfl) ?_
    refine sq 28 rfl rfl (Y_extract (v := .slice B4 r_4.length c4) rfl rfl rfl) ?_
    refine sq 29 rfl rfl (Y_extract (v := .bool r_5) rfl rfl rfl) ?_
    refine sq 6 rfl rfl (Y_assign (v := .slice B4 r_4.length c4) rfl rfl) ?_
    refine sq 7 rfl rfl (Y_assign (v := .bool r_5) rfl rfl) ?_
    refine rw_nil ?_
    refine cw_seq ?_
    refine cw_region ?_
    refine sq 31 rfl rfl (Y_loadA (B := some ⟨b1, 0, none⟩) (i := 0) (cs := [.int .i64 q.Qubits, .int .i64 q.Phase, .slice B2 q.Terms.length c2, .slice B3 q.Out.Rows.length c3]) (vs := [.int .i64 q.Qubits, .int .i64 q.Phase, .slice B2 q.Terms.length c2, .slice B3 q.Out.Rows.length c3]) k_ag_52 k_sz_52_4 rfl rfl (hS5.cf (i := 1) rfl) rfl rfl) ?_
    obtain ⟨⟨r_6, r_7⟩, hc3, hF2⟩ := bind_inv hF2
    refine sc 32 rfl rfl (Yc_func (g := 37) (vs := [.agg #[.int .i64 q.Qubits, .int .i64 q.Phase, .slice B2 q.Terms.length c2, .slice B3 q.Out.Rows.length c3]]) k_call_37 rfl (mc rfl mn) (c_impl_MonomialsOf q B2 c2 q.Terms.length B3 c3 q.Out.Rows.length _ rfl rfl (hS5.inn0 [(true, 2), (true, 3)] rfl) hc3)) ?_
    rintro _ w_5 ⟨B5, c5, rfl, hd2⟩
    have hS6 := hS5.out0 hd2
    have hS6 : ST w0 [] _ [⟨some ⟨b, 0, none⟩, 52, [.int .i64 p.Qubits, .int .i64 p.Phase, .slice B p.Terms.length c, .slice B1 p.Out.Rows.length c1], 4⟩, ⟨some ⟨b1, 0, none⟩, 52, [.int .i64 q.Qubits, .int .i64 q.Phase, .slice B2 q.Terms.length c2, .slice B3 q.Out.Rows.length c3], 4⟩, ⟨B4, 104, (r_4.flatMap enc_Term), c4 * 2⟩, ⟨B5, 104, (r_6.flatMap enc_Term), c5 * 2⟩] [⟨B, (p.Terms.flatMap enc_Term)⟩, ⟨B1, (p.Out.Rows.flatMap encI)⟩, ⟨B2, (q.Terms.flatMap enc_Term)⟩, ⟨B3, (q.Out.Rows.flatMap encI)⟩] := hS6
    refine sq 30 rfl rfl (Y_move (v := .tuple #[.slice B5 r_6.length c5, .bool r_7]) rfl rfl) ?_
    refine sq 33 rfl rfl (Y_extract (v := .slice B5 r_6.length c5) rfl rfl rfl) ?_
    refine sq 34 rfl rfl (Y_extract (v := .bool r_7) rfl rfl rfl) ?_
    refine sq 8 rfl rfl (Y_assign (v := .slice B5 r_6.length c5) rfl rfl) ?_
    refine sq 9 rfl rfl (Y_assign (v := .bool r_7) rfl rfl) ?_
    refine rw_nil ?_
    refine cw_seq ?_
    refine cw_region ?_
    refine sq 35 rfl rfl (Y_fieldAddr (B := some ⟨b, 0, none⟩) (i := 0) (s := 0) k_fd_52_1_1_3 k_sz_3_1 rfl rfl) ?_
    refine sq 36 rfl rfl (Y_load1 (B := some ⟨b, 0, none⟩) (i := 1) (cs := [.int .i64 p.Qubits, .int .i64 p.Phase, .slice B p.Terms.length c, .slice B1 p.Out.Rows.length c1]) (v := .int .i64 p.Phase) k_sc_3 rfl rfl (hS6.cf (i := 0) rfl) rfl) ?_
    refine sq 37 rfl rfl (Y_fieldAddr (B := some ⟨b1, 0, none⟩) (i := 0) (s := 0) k_fd_52_1_1_3 k_sz_3_1 rfl rfl) ?_
    refine sq 38 rfl rfl (Y_load1 (B := some ⟨b1, 0, none⟩) (i := 1) (cs := [.int .i64 q.Qubits, .int .i64 q.Phase, .slice B2 q.Terms.length c2, .slice B3 q.Out.Rows.length c3]) (v := .int .i64 q.Phase) k_sc_3 rfl rfl (hS6.cf (i := 1) rfl) rfl) ?_
    refine sq 39 rfl rfl (Y_eq (k := .i64) (a := p.Phase) (b := q.Phase) rfl rfl rfl) ?_
    refine sq 40 rfl rfl (Y_move (v := .bool (p.Phase == q.Phase)) rfl rfl) ?_
    refine sgq 41 (B := (p.Phase == q.Phase)) (v := pt (some ⟨b, 0, none⟩) 3) rfl rfl (wt_t (gd_of (t := 40) (by kernel_rfl) rfl)) (fun hg8 => (Y_fieldAddr (B := some ⟨b, 0, none⟩) (i := 0) (s := 0) k_fd_52_3_3_50 k_sz_50_1 rfl rfl)) ?_
    refine sgq 42 (B := (p.Phase == q.Phase)) (v := pt (some ⟨b, 0, none⟩) 3) rfl rfl (wt_t (gd_of (t := 40) (by kernel_rfl) rfl)) (fun hg9 => (Y_fieldAddr (B := some ⟨b, 0, none⟩) (i := 3) (s := 0) k_fd_50_0_0_48 k_sz_48_1 rfl (gv_of (B := (p.Phase == q.Phase)) (v := pt (some ⟨b, 0, none⟩) 3) hg9))) ?_
    refine sgq 43 (B := (p.Phase == q.Phase)) (v := .slice B1 p.Out.Rows.length c1) rfl rfl (wt_t (gd_of (t := 40) (by kernel_rfl) rfl)) (fun hg10 => (Y_load1 (B := some ⟨b, 0, none⟩) (i := 3) (cs := [.int .i64 p.Qubits, .int .i64 p.Phase, .slice B p.Terms.length c, .slice B1 p.Out.Rows.length c1]) (v := .slice B1 p.Out.Rows.length c1) k_sc_48 rfl (gv_of (B := (p.Phase == q.Phase)) (v := pt (some ⟨b, 0, none⟩) 3) hg10) (hS6.cf (i := 0) rfl) rfl)) ?_
    refine sgq 44 (B := (p.Phase == q.Phase)) (v := pt (some ⟨b1, 0, none⟩) 3) rfl rfl (wt_t (gd_of (t := 40) (by kernel_rfl) rfl)) (fun hg11 => (Y_fieldAddr (B := some ⟨b1, 0, none⟩) (i := 0) (s := 0) k_fd_52_3_3_50 k_sz_50_1 rfl rfl)) ?_
    refine sgq 45 (B := (p.Phase == q.Phase)) (v := pt (some ⟨b1, 0, none⟩) 3) rfl rfl (wt_t (gd_of (t := 40) (by kernel_rfl) rfl)) (fun hg12 => (Y_fieldAddr (B := some ⟨b1, 0, none⟩) (i := 3) (s := 0) k_fd_50_0_0_48 k_sz_48_1 rfl (gv_of (B := (p.Phase == q.Phase)) (v := pt (some ⟨b1, 0, none⟩) 3) hg12))) ?_
    refine sgq 46 (B := (p.Phase == q.Phase)) (v := .slice B3 q.Out.Rows.length c3) rfl rfl (wt_t (gd_of (t := 40) (by kernel_rfl) rfl)) (fun hg13 => (Y_load1 (B := some ⟨b1, 0, none⟩) (i := 3) (cs := [.int .i64 q.Qubits, .int .i64 q.Phase, .slice B2 q.Terms.length c2, .slice B3 q.Out.Rows.length c3]) (v := .slice B3 q.Out.Rows.length c3) k_sc_48 rfl (gv_of (B := (p.Phase == q.Phase)) (v := pt (some ⟨b1, 0, none⟩) 3) hg13) (hS6.cf (i := 1) rfl) rfl)) ?_
    obtain ⟨r_8, hc4, hF2⟩ := bind_inv hF2
    refine sgc 47 (B := (p.Phase == q.Phase)) (v := .bool r_8) (F := hS6.fn) rfl rfl (wt_t (gd_of (t := 40) (by kernel_rfl) rfl)) hS6 (fun hg14 => (Yc_func (g := 89) (vs := [.slice B1 p.Out.Rows.length c1, .slice B3 q.Out.Rows.length c3]) k_call_89 rfl (mc (gv_of (B := (p.Phase == q.Phase)) (v := .slice B1 p.Out.Rows.length c1) hg14) (mc (gv_of (B := (p.Phase == q.Phase)) (v := .slice B3 q.Out.Rows.length c3) hg14) mn)) (CV.mono (c_slices_Equal_int_int p.Out.Rows q.Out.Rows B1 c1 p.Out.Rows.length B3 c3 q.Out.Rows.length _ rfl rfl (hS6.inn0 [(true, 1), (true, 3)] rfl) (gb_inv hc4 hg14)) (by rintro _ _ ⟨rfl, h⟩; exact ⟨rfl, hS6.out00 h⟩)))) ?_
    rintro w_6 hS7
    have hS7 : ST _ _ w_6 _ _ := hS7
    refine sq 48 rfl rfl (Y_and (b := (p.Phase == q.Phase)) (z := r_8) rfl rfl rfl rfl) ?_
    refine sq 49 rfl rfl (Y_move (v := .bool ((p.Phase == q.Phase) && r_8)) rfl rfl) ?_
    refine sgq 50 (B := ((p.Phase == q.Phase) && r_8)) (v := .slice B4 r_4.length c4) rfl rfl (wt_t (gd_of (t := 49) (by kernel_rfl) rfl)) (fun hg15 => (Y_move (v := .slice B4 r_4.length c4) rfl rfl)) ?_
    refine sgq 51 (B := ((p.Phase == q.Phase) && r_8)) (v := .slice B5 r_6.length c5) rfl rfl (wt_t (gd_of (t := 49) (by kernel_rfl) rfl)) (fun hg16 => (Y_move (v := .slice B5 r_6.length c5) rfl rfl)) ?_
    obtain ⟨r_9, hc5, hF2⟩ := bind_inv hF2
    refine sgc 52 (B := ((p.Phase == q.Phase) && r_8)) (v := .bool r_9) (F := hS7.fn) rfl rfl (wt_t (gd_of (t := 49) (by kernel_rfl) rfl)) hS7 (fun hg17 => (Yc_func (g := 90) (vs := [.slice B4 r_4.length c4, .slice B5 r_6.length c5]) k_call_90 rfl (mc (gv_of (B := ((p.Phase == q.Phase) && r_8)) (v := .slice B4 r_4.length c4) hg17) (mc (gv_of (B := ((p.Phase == q.Phase) && r_8)) (v := .slice B5 r_6.length c5) hg17) mn)) (CV.mono (c_slices_Equal_impl_Term_impl_Term r_4 r_6 B4 c4 r_4.length B5 c5 r_6.length _ rfl rfl (hS7.inn0 [(false, 2), (false, 3)] rfl) (gb_inv hc5 hg17)) (by rintro _ _ ⟨rfl, h⟩; exact ⟨rfl, hS7.out00 h⟩)))) ?_
    rintro w_7 hS8
    have hS8 : ST _ _ w_7 _ _ := hS8
    refine sq 53 rfl rfl (Y_and (b := ((p.Phase == q.Phase) && r_8)) (z := r_9) rfl rfl rfl rfl) ?_
    refine sq 4 rfl rfl (Y_assign (v := .bool (((p.Phase == q.Phase) && r_8) && r_9)) rfl rfl) ?_
    refine sq 5 rfl rfl (Y_assign (v := .bool true) rfl rfl) ?_
    refine rw_nil ?_
    refine cw_ret ?_
    obtain ⟨rfl, rfl⟩ := pr2 (some_inj hF2)
    exact ret2 Try.results34 (v1 := .bool (((p.Phase == q.Phase) && r_8) && r_9)) (resAt_tmp rfl) (v2 := .bool true) (resAt_tmp rfl) ⟨rfl, (ST.subR (R' := []) (hS8.sel [] rfl rfl) (fun _ h => by cases h))⟩

theorem c_spec_l1In (n : Int) (lo : Int) (hi : Int)  (w0 : World)  (hS : ST w0 [] w0 [] []) {r_ : Bool} (hF : F_spec_l1In n lo hi = some r_) :
    CV Try.prog 96 #[.int .i64 n, .int .i64 lo, .int .i64 hi] w0 (fun v w' => v = .bool r_ ∧ ST w0 [] w' [] []) := by
  unfold F_spec_l1In at hF
  refine cv_of_cw 15 Try.func96 rfl Try.ntmps96 rfl ?_
  refine cw_seq ?_
  refine cw_region ?_
  refine sq 6 rfl rfl (Y_assign (v := .bool false) rfl rfl) ?_
  refine rw_nil ?_
  refine cw_seq ?_
  refine cw_region ?_
  refine sq 7 rfl rfl (Y_move (v := .int .i64 n) rfl rfl) ?_
  refine sq 8 rfl rfl (Y_move (v := .int .i64 lo) rfl rfl) ?_
  refine sq 9 rfl rfl (Y_ge (k := .i64) (a := n) (b := lo) rfl rfl rfl) ?_
  refine sq 10 rfl rfl (Y_move (v := .bool (decide (lo ≤ n))) rfl rfl) ?_
  refine sgq 11 (B := (decide (lo ≤ n))) (v := .int .i64 n) rfl rfl (wt_t (gd_of (t := 10) (by kernel_rfl) rfl)) (fun hg => (Y_move (v := .int .i64 n) rfl rfl)) ?_
  refine sgq 12 (B := (decide (lo ≤ n))) (v := .int .i64 hi) rfl rfl (wt_t (gd_of (t := 10) (by kernel_rfl) rfl)) (fun hg1 => (Y_move (v := .int .i64 hi) rfl rfl)) ?_
  refine sgq 13 (B := (decide (lo ≤ n))) (v := .bool (decide (n ≤ hi))) rfl rfl (wt_t (gd_of (t := 10) (by kernel_rfl) rfl)) (fun hg2 => (Y_le (k := .i64) (a := n) (b := hi) rfl (gv_of (B := (decide (lo ≤ n))) (v := .int .i64 n) hg2) (gv_of (B := (decide (lo ≤ n))) (v := .int .i64 hi) hg2))) ?_
  refine sq 14 rfl rfl (Y_and (b := (decide (lo ≤ n))) (z := (decide (n ≤ hi))) rfl rfl rfl rfl) ?_
  refine sq 6 rfl rfl (Y_assign (v := .bool ((decide (lo ≤ n)) && (decide (n ≤ hi)))) rfl rfl) ?_
  refine rw_nil ?_
  refine cw_ret ?_
  obtain rfl := some_inj hF
  exact ret1 Try.results96 (v1 := .bool ((decide (lo ≤ n)) && (decide (n ≤ hi)))) (resAt_tmp rfl) ⟨rfl, (ST.subR (R' := []) (hS.sel [] rfl rfl) (fun _ h => by cases h))⟩

theorem c_spec_l1All (l : List Int) (lo : Int) (hi : Int) (B : Option Addr) (c n : Nat) (w0 : World) (hn : l.length = n) (hS : ST w0 [] w0 [] [⟨B, (l.flatMap encI)⟩]) {r_ : Bool} (hF : F_spec_l1All l lo hi = some r_) :
    CV Try.prog 154 #[.slice B n c, .int .i64 lo, .int .i64 hi] w0 (fun v w' => v = .bool r_ ∧ ST w0 [] w' [] []) := by
  subst hn
  unfold F_spec_l1All at hF
  refine cv_of_cw 21 Try.func154 rfl Try.ntmps154 rfl ?_
  refine cw_seq ?_
  refine cw_region ?_
  refine sq 6 rfl rfl (Y_assign (v := .bool false) rfl rfl) ?_
  refine rw_nil ?_
  refine cw_seq ?_
  refine cw_seq ?_
  refine cw_region ?_
  refine sq 9 rfl rfl (Y_move (v := .slice B l.length c) rfl rfl) ?_
  refine sq 10 rfl rfl (Y_len (B := B) (m := l.length) (c := c) k_sl_48_3 rfl rfl) ?_
  refine sq 11 rfl rfl (Y_move (v := .int .i64 0) rfl rfl) ?_
  refine rw_nil ?_
  obtain ⟨hN, hF⟩ := chk_inv hF
  obtain ⟨z, hz, hF1⟩ := bind_inv hF
  refine cw_block ?_
  refine cw_loop (fun k f w => ∃ (i : Nat), FF f [(1, .int .i64 lo), (2, .int .i64 hi), (9, .slice B l.length c), (10, .int .i64 (l.length : Int)), (11, .int .i64 (i : Int))] ∧ ST w0 [] w [] [⟨B, (l.flatMap encI)⟩] ∧ i + k = l.length ∧ forX (F_spec_l1All_l1 l lo hi) k i () = some z) l.length ⟨0, (FF.cons rfl (FF.cons rfl (FF.cons rfl (FF.cons rfl (FF.cons rfl FF.nil))))), (hS.sel [] rfl rfl), Nat.zero_add _, hz⟩ ?_
  rintro k_ f w ⟨i, hf, hS1, hik, hL⟩
  refine cw_seq ?_
  refine cw_region ?_
  refine sq 12 rfl rfl (Y_lt (k := .i64) (a := (i : Int)) (b := (l.length : Int)) rfl (hf.get 11 4 rfl) (hf.get 10 3 rfl)) ?_
  refine rw_nil ?_
  refine cw_seq ?_
  refine cw_cond (b := (decide ((i : Int) < (l.length : Int)))) rfl (fun hlt => ?_) (fun hlt => ?_)
  · skip
    have hlt1 : i < l.length := by have h := of_decide_eq_true hlt; omega
    obtain ⟨k_1, rfl⟩ : ∃ k2, k_ = k2 + 1 := ⟨k_ - 1, by omega⟩
    obtain ⟨y, hb, hL1⟩ := forX_go hL
    unfold F_spec_l1All_l1 at hb
    refine cw_skip ?_
    refine cw_seq ?_
    refine cw_block ?_
    refine cw_seq ?_
    refine cw_region ?_
    obtain ⟨x, hx, hb⟩ := bind_inv hb
    refine sq 13 rfl rfl (Y_index (B := B) (m := l.length) (c := c) (k := .i64) (i := (i : Int)) k_sl_48_3 k_sz_3_1 rfl (hf.get 9 2 rfl) (hf.get 11 4 rfl) (gi_isSome encI_len rfl (hS1.rf (i := 0) rfl) hx) (getI_nn hx) (getI_ltI hx rfl)) ?_
    refine sq 14 rfl rfl (Y_load1 (B := B) (i := (i : Int).toNat * 1) (cs := (l.flatMap encI)) (v := .int .i64 x) k_sc_3 rfl rfl (hS1.rf (i := 0) rfl) (gi_at0 encI_len hx rfl)) ?_
    refine sq 8 rfl rfl (Y_assign (v := .int .i64 x) rfl rfl) ?_
    refine rw_nil ?_
    refine cw_seq ?_
    refine cw_region ?_
    refine sq 15 rfl rfl (Y_move (v := .int .i64 x) rfl rfl) ?_
    refine sq 16 rfl rfl (Y_move (v := .int .i64 lo) rfl (hf.get 1 0 rfl)) ?_
    refine sq 17 rfl rfl (Y_move (v := .int .i64 hi) rfl (hf.get 2 1 rfl)) ?_
    obtain ⟨r_1, hc, hb⟩ := bind_inv hb
    refine sc 18 rfl rfl (Yc_func (g := 96) (vs := [.int .i64 x, .int .i64 lo, .int .i64 hi]) k_call_96 rfl (mc rfl (mc rfl (mc rfl mn))) (c_spec_l1In x lo hi _  (hS1.inn0 [] rfl) hc)) ?_
    rintro _ w_ ⟨rfl, hd⟩
    have hS2 := hS1.out00 hd
    refine sq 19 rfl rfl (Y_not (p := r_1) rfl rfl) ?_
    refine rw_nil ?_
    refine cw_cond (b := (!r_1)) rfl (fun hb1 => ?_) (fun hb1 => ?_)
    · skip
      have hF2 := ct hb hb1
      refine cw_seq ?_
      refine cw_region ?_
      refine sq 6 rfl rfl (Y_assign (v := .bool false) rfl rfl) ?_
      refine rw_nil ?_
      refine cw_ret ?_
      obtain rfl := some_inj hF2
      obtain rfl := some_inj hL1
      obtain rfl := some_inj hF1
      exact ret1 Try.results154 (v1 := .bool false) (resAt_tmp rfl) ⟨rfl, (ST.subR (R' := []) (hS2.sel [] rfl rfl) (fun _ h => by cases h))⟩
    · skip
      have hF3 := cf' hb hb1
      refine cw_skip ?_
      refine cw_region ?_
      refine sq 20 rfl rfl (Y_add (k := .i64) (a := (i : Int)) (b := 1) rfl (hf.get 11 4 rfl) rfl) ?_
      refine sq 11 rfl rfl (Y_move (v := .int .i64 (IntKind.i64.wrap ((i : Int) + 1))) rfl rfl) ?_
      refine rw_nil ?_
      obtain rfl := some_inj hF3
      exact ⟨k_1, Nat.lt_succ_self _, i + 1, (FF.cons (hf.get 1 0 rfl) (FF.cons (hf.get 2 1 rfl) (FF.cons (hf.get 9 2 rfl) (FF.cons (hf.get 10 3 rfl) (FF.cons (congrArg (Value.int .i64) (wr_succ hlt1 hN)) FF.nil))))), (hS2.sel [] rfl rfl), (by omega), hL1⟩
  · skip
    obtain rfl : k_ = 0 := by have h := of_decide_eq_false hlt; omega
    refine cw_exit rfl ?_
    obtain rfl := some_inj hL
    refine cw_seq ?_
    refine cw_region ?_
    refine sq 6 rfl rfl (Y_assign (v := .bool true) rfl rfl) ?_
    refine rw_nil ?_
    refine cw_ret ?_
    obtain rfl := some_inj hF1
    exact ret1 Try.results154 (v1 := .bool true) (resAt_tmp rfl) ⟨rfl, (ST.subR (R' := []) (hS1.sel [] rfl rfl) (fun _ h => by cases h))⟩
end Go.VK
