/- Walks: each Go function returns what its Lean function says. By program. -/
import Derived.Test.YtchihdcajdocgaaLPhaseAlgebraFa
import Derived.Test.YtchihdcajdocgaaLPhaseAlgebraW2
set_option linter.unusedVariables false
set_option maxRecDepth 100000
set_option maxHeartbeats 1000000
namespace Go.VK
open Go.RowKit
open Go.Proofs
attribute [local irreducible] CW RW RA CV Y Yw Yc Ys RetOf
attribute [local irreducible] F_spec_l1Cur_next F_spec_l1Cur_pick F_spec_l1Cur_one F_spec_l13List F_spec_l12Identity F_spec_l1Own F_spec_l12CX F_spec_l1Cur_linear F_spec_l1Cur_phasePoly F_spec_l1Cur_among F_spec_l1Cur_anyLinear F_spec_l1Cur_anyPhasePoly F_spec_DrawComposePhase F_impl_within F_impl_areTerms F_slices_IndexFunc_int_int F_slices_ContainsFunc_int_int F_impl_IsValidLinear_1 F_slices_Clone_int_int F_impl_rankOf_1 F_slices_Delete_int_int F_impl_rankOf F_impl_IsValidLinear F_impl_IsValidPhasePoly F_impl_coefficients_add F_impl_Linear_through F_impl_ComposeLinear F_impl_coefficients_terms F_impl_ComposePhase F_spec_l1In F_spec_l1All F_spec_l12Rank F_spec_l12Valid F_spec_l13Valid F_spec_l13By F_spec_l1Set F_spec_l13Through F_spec_l12Then F_spec_ComposePhase F_laws_qInts F_laws_qTerms F_laws_qPoly F_impl_identityLinear F_impl_eliminated_1 F_impl_eliminated F_impl_Linear_inverted F_impl_InvertPhase F_impl_IdentityLinear F_math_bits_OnesCount64 F_math_bits_OnesCount F_impl_parityOf F_impl_PhaseAt F_laws_qWeight F_laws_FnPhaseAlgebra
theorem c_spec_l13By (p : TPhasePoly) (B : Option Addr) (c n : Nat) (B1 : Option Addr) (c1 n1 : Nat) (w0 : World) (hn : p.Terms.length = n) (hn1 : p.Out.Rows.length = n1) (hS : ST w0 [] w0 [] [⟨B, (p.Terms.flatMap enc_Term)⟩, ⟨B1, (p.Out.Rows.flatMap encI)⟩]) {r_ : List Int} (hF : F_spec_l13By p = some r_) :
    CV Try.prog 77 #[.agg #[.int .i64 p.Qubits, .int .i64 p.Phase, .slice B n c, .slice B1 n1 c1]] w0 (fun v w' => ∃ (B2 : Option Addr) (c2 : Nat), v = .slice B2 r_.length c2 ∧ ST w0 [] w' [⟨B2, 3, (r_.flatMap encI), c2 * 1⟩] []) := by
  subst hn
  subst hn1
  unfold F_spec_l13By at hF
  refine cv_of_cw 26 Try.func77 rfl Try.ntmps77 rfl ?_
  refine cw_seq ?_
  refine cw_region ?_
  refine ss 1 rfl rfl (Ys_box (T := 52) (v := .agg #[.int .i64 p.Qubits, .int .i64 p.Phase, .slice B p.Terms.length c, .slice B1 p.Out.Rows.length c1]) (cs := [.int .i64 p.Qubits, .int .i64 p.Phase, .slice B p.Terms.length c, .slice B1 p.Out.Rows.length c1]) (m := 4) hS rfl rfl rfl rfl) ?_
  rintro _ w_ ⟨b, rfl, hS1⟩
  refine sq 2 rfl rfl (Y_assign (v := .slice none 0 0) rfl rfl) ?_
  refine rw_nil ?_
  refine cw_seq ?_
  refine cw_region ?_
  refine sq 6 rfl rfl (Y_fieldAddr (B := some ⟨b, 0, none⟩) (i := 0) (s := 0) k_fd_52_0_0_3 k_sz_3_1 rfl rfl) ?_
  refine sq 7 rfl rfl (Y_load1 (B := some ⟨b, 0, none⟩) (i := 0) (cs := [.int .i64 p.Qubits, .int .i64 p.Phase, .slice B p.Terms.length c, .slice B1 p.Out.Rows.length c1]) (v := .int .i64 p.Qubits) k_sc_3 rfl rfl (hS1.cf (i := 0) rfl) rfl) ?_
  refine sq 8 rfl rfl (Y_conv (k := .i64) (a := p.Qubits) (T := 3) (T' := 63) k_us_3 k_int_63_u64 rfl rfl) ?_
  obtain ⟨hsh, hF⟩ := chk_inv hF
  refine sq 9 rfl rfl (Y_shl (k := .i64) (a := 1) (k' := .u64) (b := (IntKind.u64.wrap p.Qubits)) rfl rfl rfl hsh) ?_
  obtain ⟨hmk, hF⟩ := chk_inv hF
  refine ss 10 rfl rfl (Ys_make (s := 1) (by' := 8) (nn := (shlK .i64 1 (IntKind.u64.wrap p.Qubits)).toNat) (a := (shlK .i64 1 (IntKind.u64.wrap p.Qubits))) (b := (shlK .i64 1 (IntKind.u64.wrap p.Qubits))) (cs := ((List.replicate ((shlK .i64 1 (IntKind.u64.wrap p.Qubits)).toNat) 0).flatMap encI)) hS1 k_sl_48_3 k_sz_3_1 k_by_3_8 k_zero_3 rfl rfl rfl rfl hmk.1 rfl (by have := hmk; omega) (by have := hmk; omega) (by omega) (fm_rep (enc := encI) (d := 0) rfl _)) ?_
  rintro _ w_1 ⟨b1, rfl, hS2⟩
  have hS2 : ST w0 [] _ [⟨some ⟨b, 0, none⟩, 52, [.int .i64 p.Qubits, .int .i64 p.Phase, .slice B p.Terms.length c, .slice B1 p.Out.Rows.length c1], 4⟩, ⟨some ⟨b1, 0, none⟩, 3, ((List.replicate ((shlK .i64 1 (IntKind.u64.wrap p.Qubits)).toNat) 0).flatMap encI), ((shlK .i64 1 (IntKind.u64.wrap p.Qubits)).toNat) * 1⟩] [⟨B, (p.Terms.flatMap enc_Term)⟩, ⟨B1, (p.Out.Rows.flatMap encI)⟩] := hS2
  refine sq 3 rfl rfl (Y_assign (v := .slice (some ⟨b1, 0, none⟩) ((shlK .i64 1 (IntKind.u64.wrap p.Qubits)).toNat) ((shlK .i64 1 (IntKind.u64.wrap p.Qubits)).toNat)) rfl rfl) ?_
  refine rw_nil ?_
  refine cw_seq ?_
  refine cw_seq ?_
  refine cw_region ?_
  refine sq 11 rfl rfl (Y_fieldAddr (B := some ⟨b, 0, none⟩) (i := 0) (s := 0) k_fd_52_2_2_47 k_sz_47_1 rfl rfl) ?_
  refine sq 12 rfl rfl (Y_load1 (B := some ⟨b, 0, none⟩) (i := 2) (cs := [.int .i64 p.Qubits, .int .i64 p.Phase, .slice B p.Terms.length c, .slice B1 p.Out.Rows.length c1]) (v := .slice B p.Terms.length c) k_sc_47 rfl rfl (hS2.cf (i := 0) rfl) rfl) ?_
  refine sq 13 rfl rfl (Y_len (B := B) (m := p.Terms.length) (c := c) k_sl_47_104 rfl rfl) ?_
  refine sq 14 rfl rfl (Y_move (v := .int .i64 0) rfl rfl) ?_
  refine rw_nil ?_
  obtain ⟨hN, hF⟩ := chk_inv hF
  obtain ⟨z, hz, hF1⟩ := bind_inv hF
  refine cw_block ?_
  refine cw_loop (fun k f w => ∃ (i : Nat) (by_ : List Int), FF f [(3, .slice (some ⟨b1, 0, none⟩) ((shlK .i64 1 (IntKind.u64.wrap p.Qubits)).toNat) ((shlK .i64 1 (IntKind.u64.wrap p.Qubits)).toNat)), (12, .slice B p.Terms.length c), (13, .int .i64 (p.Terms.length : Int)), (14, .int .i64 (i : Int))] ∧ by_.length = (shlK .i64 1 (IntKind.u64.wrap p.Qubits)).toNat ∧ ST w0 [] w [⟨some ⟨b1, 0, none⟩, 3, (by_.flatMap encI), ((shlK .i64 1 (IntKind.u64.wrap p.Qubits)).toNat) * 1⟩] [⟨B, (p.Terms.flatMap enc_Term)⟩, ⟨B1, (p.Out.Rows.flatMap encI)⟩] ∧ i + k = p.Terms.length ∧ forN (F_spec_l13By_l1 p) k i by_ = some z) p.Terms.length ⟨0, (List.replicate ((shlK .i64 1 (IntKind.u64.wrap p.Qubits)).toNat) 0), (FF.cons rfl (FF.cons rfl (FF.cons rfl (FF.cons rfl FF.nil)))), List.length_replicate, (hS2.sel [1] rfl rfl), Nat.zero_add _, hz⟩ ?_
  rintro k_ f w ⟨i, by_, hf, hl, hS3, hik, hL⟩
  refine cw_seq ?_
  refine cw_region ?_
  refine sq 15 rfl rfl (Y_lt (k := .i64) (a := (i : Int)) (b := (p.Terms.length : Int)) rfl (hf.get 14 3 rfl) (hf.get 13 2 rfl)) ?_
  refine rw_nil ?_
  refine cw_seq ?_
  refine cw_cond (b := (decide ((i : Int) < (p.Terms.length : Int)))) rfl (fun hlt => ?_) (fun hlt => ?_)
  · skip
    have hlt1 : i < p.Terms.length := by have h := of_decide_eq_true hlt; omega
    obtain ⟨k_1, rfl⟩ : ∃ k2, k_ = k2 + 1 := ⟨k_ - 1, by omega⟩
    obtain ⟨y, hb, hL1⟩ := forN_go hL
    unfold F_spec_l13By_l1 at hb
    refine cw_skip ?_
    refine cw_seq ?_
    refine cw_block ?_
    refine cw_seq ?_
    refine cw_region ?_
    obtain ⟨x, hx, hb⟩ := bind_inv hb
    refine sq 16 rfl rfl (Y_index (B := B) (m := p.Terms.length) (c := c) (k := .i64) (i := (i : Int)) k_sl_47_104 k_sz_104_2 rfl (hf.get 12 1 rfl) (hf.get 14 3 rfl) (gi_isSome enc_Term_len rfl (hS3.rf (i := 0) rfl) hx) (getI_nn hx) (getI_ltI hx rfl)) ?_
    refine sq 17 rfl rfl (Y_loadA (B := B) (i := (i : Int).toNat * 2) (cs := (p.Terms.flatMap enc_Term)) (vs := [.int .i64 x.Mask, .int .i64 x.Coef]) k_ag_104 k_sz_104_2 rfl rfl (hS3.rf (i := 0) rfl) (enc_Term_len x) (gi_seg enc_Term_len hx)) ?_
    refine ss 5 rfl rfl (Ys_alloc (T := 104) (cs := [.int .i64 0, .int .i64 0]) (m := 2) hS3 k_zero_104 rfl rfl rfl) ?_
    rintro _ w_2 ⟨b2, rfl, hS4⟩
    have hS4 : ST w0 [] _ [⟨some ⟨b1, 0, none⟩, 3, (by_.flatMap encI), ((shlK .i64 1 (IntKind.u64.wrap p.Qubits)).toNat) * 1⟩, ⟨some ⟨b2, 0, none⟩, 104, [.int .i64 0, .int .i64 0], 2⟩] [⟨B, (p.Terms.flatMap enc_Term)⟩, ⟨B1, (p.Out.Rows.flatMap encI)⟩] := hS4
    refine ss0 rfl rfl (Ys_store (i := 1) (s := 2) (B := some ⟨b2, 0, none⟩) (T' := 104) (v := .agg #[.int .i64 x.Mask, .int .i64 x.Coef]) (vs := [.int .i64 x.Mask, .int .i64 x.Coef]) (k := 0) (cs' := [.int .i64 x.Mask, .int .i64 x.Coef]) hS4 k_sz_104_2 rfl rfl rfl rfl rfl rfl rfl (Nat.le_of_ble_eq_true rfl) rfl rfl) ?_
    rintro _ w_3 ⟨rfl, hS5⟩
    have hS5 : ST w0 [] _ [⟨some ⟨b1, 0, none⟩, 3, (by_.flatMap encI), ((shlK .i64 1 (IntKind.u64.wrap p.Qubits)).toNat) * 1⟩, ⟨some ⟨b2, 0, none⟩, 104, [.int .i64 x.Mask, .int .i64 x.Coef], 2⟩] [⟨B, (p.Terms.flatMap enc_Term)⟩, ⟨B1, (p.Out.Rows.flatMap encI)⟩] := hS5
    refine rw_nil ?_
    refine cw_region ?_
    refine sq 18 rfl rfl (Y_move (v := .slice (some ⟨b1, 0, none⟩) ((shlK .i64 1 (IntKind.u64.wrap p.Qubits)).toNat) ((shlK .i64 1 (IntKind.u64.wrap p.Qubits)).toNat)) rfl (hf.get 3 0 rfl)) ?_
    refine sq 19 rfl rfl (Y_fieldAddr (B := some ⟨b2, 0, none⟩) (i := 0) (s := 0) k_fd_104_0_0_3 k_sz_3_1 rfl rfl) ?_
    refine sq 20 rfl rfl (Y_load1 (B := some ⟨b2, 0, none⟩) (i := 0) (cs := [.int .i64 x.Mask, .int .i64 x.Coef]) (v := .int .i64 x.Mask) k_sc_3 rfl rfl (hS5.cf (i := 1) rfl) rfl) ?_
    refine sq 21 rfl rfl (Y_fieldAddr (B := some ⟨b2, 0, none⟩) (i := 0) (s := 0) k_fd_104_1_1_3 k_sz_3_1 rfl rfl) ?_
    refine sq 22 rfl rfl (Y_load1 (B := some ⟨b2, 0, none⟩) (i := 1) (cs := [.int .i64 x.Mask, .int .i64 x.Coef]) (v := .int .i64 x.Coef) k_sc_3 rfl rfl (hS5.cf (i := 1) rfl) rfl) ?_
    obtain ⟨x1, hx1, hb⟩ := bind_inv hb
    refine sq 23 rfl rfl (Y_index (B := some ⟨b1, 0, none⟩) (m := (shlK .i64 1 (IntKind.u64.wrap p.Qubits)).toNat) (c := (shlK .i64 1 (IntKind.u64.wrap p.Qubits)).toNat) (k := .i64) (i := x.Mask) k_sl_48_3 k_sz_3_1 rfl rfl rfl (gi_isSome encI_len rfl (hS5.cf (i := 0) rfl) hx1) (getI_nn hx1) (getI_ltI hx1 hl)) ?_
    refine ss0 rfl rfl (Ys_store (i := 0) (s := 1) (B := some ⟨b1, 0, none⟩) (T' := 3) (v := .int .i64 x.Coef) (vs := [.int .i64 x.Coef]) (k := x.Mask.toNat * 1) (cs' := ((by_.set x.Mask.toNat x.Coef).flatMap encI)) hS5 k_sz_3_1 rfl rfl rfl rfl rfl rfl rfl (gi_fit0 encI_len hx1) (gi_set encI_len hx1 x.Coef rfl) rfl) ?_
    rintro _ w_4 ⟨rfl, hS6⟩
    have hS6 : ST w0 [] _ [⟨some ⟨b1, 0, none⟩, 3, ((by_.set x.Mask.toNat x.Coef).flatMap encI), ((shlK .i64 1 (IntKind.u64.wrap p.Qubits)).toNat) * 1⟩, ⟨some ⟨b2, 0, none⟩, 104, [.int .i64 x.Mask, .int .i64 x.Coef], 2⟩] [⟨B, (p.Terms.flatMap enc_Term)⟩, ⟨B1, (p.Out.Rows.flatMap encI)⟩] := hS6
    refine rw_nil ?_
    refine cw_region ?_
    refine sq 24 rfl rfl (Y_add (k := .i64) (a := (i : Int)) (b := 1) rfl (hf.get 14 3 rfl) rfl) ?_
    refine sq 14 rfl rfl (Y_move (v := .int .i64 (IntKind.i64.wrap ((i : Int) + 1))) rfl rfl) ?_
    refine rw_nil ?_
    obtain rfl := some_inj hb
    exact ⟨k_1, Nat.lt_succ_self _, i + 1, (by_.set x.Mask.toNat x.Coef), (FF.cons (hf.get 3 0 rfl) (FF.cons (hf.get 12 1 rfl) (FF.cons (hf.get 13 2 rfl) (FF.cons (congrArg (Value.int .i64) (wr_succ hlt1 hN)) FF.nil)))), (set_len _ _ _ hl), (hS6.sel [0] rfl rfl), (by omega), hL1⟩
  · skip
    obtain rfl : k_ = 0 := by have h := of_decide_eq_false hlt; omega
    refine cw_exit rfl ?_
    obtain rfl := some_inj hL
    refine cw_seq ?_
    refine cw_region ?_
    refine sq 25 rfl rfl (Y_move (v := .slice (some ⟨b1, 0, none⟩) ((shlK .i64 1 (IntKind.u64.wrap p.Qubits)).toNat) ((shlK .i64 1 (IntKind.u64.wrap p.Qubits)).toNat)) rfl (hf.get 3 0 rfl)) ?_
    refine sq 2 rfl rfl (Y_assign (v := .slice (some ⟨b1, 0, none⟩) ((shlK .i64 1 (IntKind.u64.wrap p.Qubits)).toNat) ((shlK .i64 1 (IntKind.u64.wrap p.Qubits)).toNat)) rfl rfl) ?_
    refine rw_nil ?_
    refine cw_ret ?_
    obtain rfl := some_inj hF1
    exact ret1 Try.results77 (v1 := .slice (some ⟨b1, 0, none⟩) ((shlK .i64 1 (IntKind.u64.wrap p.Qubits)).toNat) ((shlK .i64 1 (IntKind.u64.wrap p.Qubits)).toNat)) (resAt_tmp rfl) ⟨some ⟨b1, 0, none⟩, (shlK .i64 1 (IntKind.u64.wrap p.Qubits)).toNat, (sl_eqv hl), (ST.subR (R' := []) (hS3.sel [0] rfl rfl) (fun _ h => by cases h))⟩

theorem c_spec_l1Set (row : Int)  (w0 : World)  (hS : ST w0 [] w0 [] []) {r_ : List Int} (hF : F_spec_l1Set row = some r_) :
    CV Try.prog 123 #[.int .i64 row] w0 (fun v w' => ∃ (B : Option Addr) (c : Nat), v = .slice B r_.length c ∧ ST w0 [] w' [⟨B, 3, (r_.flatMap encI), c * 1⟩] []) := by
  unfold F_spec_l1Set at hF
  refine cv_of_cw 23 Try.func123 rfl Try.ntmps123 rfl ?_
  refine cw_seq ?_
  refine cw_region ?_
  refine sq 2 rfl rfl (Y_assign (v := .slice none 0 0) rfl rfl) ?_
  refine rw_nil ?_
  refine cw_seq ?_
  refine cw_region ?_
  refine sq 3 rfl rfl (Y_assign (v := .slice none 0 0) rfl rfl) ?_
  refine rw_nil ?_
  refine cw_seq ?_
  refine cw_seq ?_
  refine cw_region ?_
  refine sq 4 rfl rfl (Y_assign (v := .int .i64 0) rfl rfl) ?_
  refine rw_nil ?_
  obtain ⟨z, hz, hF1⟩ := bind_inv hF
  have hS2 := hS.addNil 3
  refine cw_block ?_
  refine cw_loop (fun k f w => ∃ (out : List Int) (k_ : Int) (B1 : Option Addr) (c1 : Nat), FF f [(0, .int .i64 row), (3, .slice B1 out.length c1), (4, .int .i64 k_)] ∧ ST w0 [] w [⟨B1, 3, (out.flatMap encI), c1 * 1⟩] [] ∧ whX (F_spec_l1Set_l1 row) k (out, k_) = some z) fuel ⟨[], 0, none, 0, (FF.cons rfl (FF.cons rfl (FF.cons rfl FF.nil))), (hS2.sel [0] rfl rfl), hz⟩ ?_
  rintro k_1 f w ⟨out, k_, B1, c1, hf, hS1, hL⟩
  obtain ⟨k_2, y, rfl, hb, hL1⟩ := whX_go hL
  unfold F_spec_l1Set_l1 at hb
  refine cw_seq ?_
  refine cw_seq ?_
  refine cw_region ?_
  refine sq 5 rfl rfl (Y_move (v := .int .i64 row) rfl (hf.get 0 0 rfl)) ?_
  refine sq 6 rfl rfl (Y_move (v := .int .i64 k_) rfl (hf.get 4 2 rfl)) ?_
  refine sq 7 rfl rfl (Y_conv (k := .i64) (a := k_) (T := 3) (T' := 63) k_us_3 k_int_63_u64 rfl rfl) ?_
  obtain ⟨hsh, hb⟩ := chk_inv hb
  refine sq 8 rfl rfl (Y_shr (k := .i64) (a := row) (k' := .u64) (b := (IntKind.u64.wrap k_)) rfl rfl rfl hsh) ?_
  refine sq 9 rfl rfl (Y_gt (k := .i64) (a := (shrK .i64 row (IntKind.u64.wrap k_))) (b := 0) rfl rfl rfl) ?_
  refine rw_nil ?_
  refine cw_cond (b := (decide (0 < (shrK .i64 row (IntKind.u64.wrap k_))))) rfl (fun hb1 => ?_) (fun hb1 => ?_)
  · skip
    have hF2 := ct hb hb1
    refine cw_skip ?_
    refine cw_seq ?_
    obtain ⟨z1, hz1, hF3⟩ := bind_inv hF2
    refine cw_mid (fun f w => ∃ (out1 : List Int) (B2 : Option Addr) (c2 : Nat), out1 = z1 ∧ FF f [(0, .int .i64 row), (3, .slice B2 out1.length c2), (4, .int .i64 k_)] ∧ ST w0 [] w [⟨B2, 3, (out1.flatMap encI), c2 * 1⟩] []) ?_ ?_
    · skip
      refine cw_block ?_
      refine cw_seq ?_
      refine cw_region ?_
      refine sq 12 rfl rfl (Y_move (v := .int .i64 row) rfl (hf.get 0 0 rfl)) ?_
      refine sq 13 rfl rfl (Y_move (v := .int .i64 k_) rfl (hf.get 4 2 rfl)) ?_
      refine sq 14 rfl rfl (Y_conv (k := .i64) (a := k_) (T := 3) (T' := 63) k_us_3 k_int_63_u64 rfl rfl) ?_
      obtain ⟨hsh1, hz1⟩ := chk_inv hz1
      refine sq 15 rfl rfl (Y_shr (k := .i64) (a := row) (k' := .u64) (b := (IntKind.u64.wrap k_)) rfl rfl rfl hsh1) ?_
      refine sq 16 rfl rfl (Y_band (k := .i64) (a := (shrK .i64 row (IntKind.u64.wrap k_))) (b := 1) rfl rfl rfl) ?_
      refine sq 17 rfl rfl (Y_eq (k := .i64) (a := (bits .and .i64 (shrK .i64 row (IntKind.u64.wrap k_)) 1)) (b := 1) rfl rfl rfl) ?_
      refine rw_nil ?_
      refine cw_cond (b := ((bits .and .i64 (shrK .i64 row (IntKind.u64.wrap k_)) 1) == 1)) rfl (fun hb2 => ?_) (fun hb2 => ?_)
      · skip
        have hF4 := ct hz1 hb2
        refine cw_region ?_
        refine sq 18 rfl rfl (Y_move (v := .slice B1 out.length c1) rfl (hf.get 3 1 rfl)) ?_
        refine sq 19 rfl rfl (Y_move (v := .int .i64 k_) rfl (hf.get 4 2 rfl)) ?_
        refine ss 20 rfl rfl (Ys_bslice (s := 1) (len := 1) (vs := [(0, .int .i64 k_)]) (cs := [.int .i64 k_]) (zs := [.int .i64 0]) (m := 1) hS1 k_sl_48_3 k_sz_3_1 k_zc_3 rfl (mpc rfl mpn) rfl rfl rfl (by kernel_rfl) (by kernel_rfl) rfl) ?_
        rintro _ w_ ⟨b, rfl, hS4⟩
        have hS4 : ST w0 [] _ [⟨B1, 3, (out.flatMap encI), c1 * 1⟩, ⟨some ⟨b, 0, none⟩, 3, ([k_].flatMap encI), 1 * 1⟩] [] := hS4
        obtain ⟨hap, hF4⟩ := chk_inv hF4
        refine ss 21 rfl rfl (Ys_append (s := 1) (by' := 8) (i := 0) (nn := out.length) (c := c1) (k := 1) (len := (out ++ [k_]).length) (B := B1) (xs := ([k_].flatMap encI)) (cs' := ((out ++ [k_]).flatMap encI)) hS4 k_sl_48_3 k_sz_3_1 k_by_3_8 k_zero_3 rfl (by decide) rfl rfl rfl rfl (fm_lenn (l := out) encI_len rfl) rfl (hS4.cf (i := 1) rfl) (fm_lenn (l := [k_]) encI_len rfl) (fm_one' (enc := encI) encI_one [k_]) (by have := hap; omega) (by have := hap; simp only [maxLen]; omega) (fm_app _ _) (app_len (l := out) (l' := [k_]) rfl rfl)) ?_
        rintro _ w_1 ⟨B3, c3, rfl, hS5⟩
        have hS5 : ST w0 [] _ [⟨B3, 3, ((out ++ [k_]).flatMap encI), c3 * 1⟩, ⟨some ⟨b, 0, none⟩, 3, ([k_].flatMap encI), 1 * 1⟩] [] := hS5
        refine sq 3 rfl rfl (Y_assign (v := .slice B3 ((out ++ [k_]).length) c3) rfl rfl) ?_
        refine rw_nil ?_
        exact ⟨(out ++ [k_]), B3, c3, (some_inj hF4), (FF.cons (hf.get 0 0 rfl) (FF.cons rfl (FF.cons (hf.get 4 2 rfl) FF.nil))), (hS5.sel [0] rfl rfl)⟩
      · skip
        have hF5 := cf' hz1 hb2
        refine cw_skip ?_
        exact ⟨out, B1, c1, (some_inj hF5), (FF.cons (hf.get 0 0 rfl) (FF.cons (hf.get 3 1 rfl) (FF.cons (hf.get 4 2 rfl) FF.nil))), (hS1.sel [0] rfl rfl)⟩
    rintro f w ⟨out1, B2, c2, rfl, hf1, hS3⟩
    refine cw_region ?_
    refine sq 10 rfl rfl (Y_move (v := .int .i64 k_) rfl (hf1.get 4 2 rfl)) ?_
    refine sq 11 rfl rfl (Y_add (k := .i64) (a := k_) (b := 1) rfl rfl rfl) ?_
    refine sq 4 rfl rfl (Y_assign (v := .int .i64 (IntKind.i64.wrap (k_ + 1))) rfl rfl) ?_
    refine rw_nil ?_
    obtain rfl := some_inj hF3
    exact ⟨k_2, Nat.lt_succ_self _, out1, (IntKind.i64.wrap (k_ + 1)), B2, c2, (FF.cons (hf1.get 0 0 rfl) (FF.cons (hf1.get 3 1 rfl) (FF.cons rfl FF.nil))), (hS3.sel [0] rfl rfl), hL1⟩
  · skip
    have hF6 := cf' hb hb1
    refine cw_exit rfl ?_
    obtain rfl := some_inj hF6
    obtain rfl := some_inj hL1
    refine cw_seq ?_
    refine cw_region ?_
    refine sq 22 rfl rfl (Y_move (v := .slice B1 out.length c1) rfl (hf.get 3 1 rfl)) ?_
    refine sq 2 rfl rfl (Y_assign (v := .slice B1 out.length c1) rfl rfl) ?_
    refine rw_nil ?_
    refine cw_ret ?_
    obtain rfl := some_inj hF1
    exact ret1 Try.results123 (v1 := .slice B1 out.length c1) (resAt_tmp rfl) ⟨B1, c1, rfl, (ST.subR (R' := []) (hS1.sel [0] rfl rfl) (fun _ h => by cases h))⟩

theorem c_spec_l13Through (m : TLinear) (mask : Int) (B : Option Addr) (c n : Nat) (w0 : World) (hn : m.Rows.length = n) (hS : ST w0 [] w0 [] [⟨B, (m.Rows.flatMap encI)⟩]) {r_ : Int} (hF : F_spec_l13Through m mask = some r_) :
    CV Try.prog 78 #[.agg #[.slice B n c], .int .i64 mask] w0 (fun v w' => v = .int .i64 r_ ∧ ST w0 [] w' [] []) := by
  subst hn
  unfold F_spec_l13Through at hF
  refine cv_of_cw 24 Try.func78 rfl Try.ntmps78 rfl ?_
  refine cw_seq ?_
  refine cw_region ?_
  refine ss 2 rfl rfl (Ys_box (T := 50) (v := .agg #[.slice B m.Rows.length c]) (cs := [.slice B m.Rows.length c]) (m := 1) hS rfl rfl rfl rfl) ?_
  rintro _ w_ ⟨b, rfl, hS1⟩
  refine sq 4 rfl rfl (Y_assign (v := .int .i64 0) rfl rfl) ?_
  refine rw_nil ?_
  refine cw_seq ?_
  refine cw_region ?_
  refine sq 5 rfl rfl (Y_assign (v := .int .i64 0) rfl rfl) ?_
  refine rw_nil ?_
  refine cw_seq ?_
  refine cw_seq ?_
  refine cw_region ?_
  refine sq 8 rfl rfl (Y_move (v := .int .i64 mask) rfl rfl) ?_
  obtain ⟨r_1, hc, hF⟩ := bind_inv hF
  refine sc 9 rfl rfl (Yc_func (g := 123) (vs := [.int .i64 mask]) k_call_123 rfl (mc rfl mn) (c_spec_l1Set mask _  (hS1.inn0 [] rfl) hc)) ?_
  rintro _ w_1 ⟨B1, c1, rfl, hd⟩
  have hS2 := hS1.out0 hd
  have hS2 : ST w0 [] _ [⟨some ⟨b, 0, none⟩, 50, [.slice B m.Rows.length c], 1⟩, ⟨B1, 3, (r_1.flatMap encI), c1 * 1⟩] [⟨B, (m.Rows.flatMap encI)⟩] := hS2
  refine sq 10 rfl rfl (Y_len (B := B1) (m := r_1.length) (c := c1) k_sl_48_3 rfl rfl) ?_
  refine sq 11 rfl rfl (Y_move (v := .int .i64 0) rfl rfl) ?_
  refine rw_nil ?_
  obtain ⟨hN, hF⟩ := chk_inv hF
  obtain ⟨z, hz, hF1⟩ := bind_inv hF
  refine cw_block ?_
  refine cw_loop (fun k f w => ∃ (i : Nat) (x : Int), FF f [(2, pt (some ⟨b, 0, none⟩) 0), (5, .int .i64 x), (9, .slice B1 r_1.length c1), (10, .int .i64 (r_1.length : Int)), (11, .int .i64 (i : Int))] ∧ ST w0 [] w [⟨some ⟨b, 0, none⟩, 50, [.slice B m.Rows.length c], 1⟩, ⟨B1, 3, (r_1.flatMap encI), c1 * 1⟩] [⟨B, (m.Rows.flatMap encI)⟩] ∧ i + k = r_1.length ∧ forN (F_spec_l13Through_l1 r_1 m) k i x = some z) r_1.length ⟨0, 0, (FF.cons rfl (FF.cons rfl (FF.cons rfl (FF.cons rfl (FF.cons rfl FF.nil))))), (hS2.sel [0, 1] rfl rfl), Nat.zero_add _, hz⟩ ?_
  rintro k_ f w ⟨i, x, hf, hS3, hik, hL⟩
  refine cw_seq ?_
  refine cw_region ?_
  refine sq 12 rfl rfl (Y_lt (k := .i64) (a := (i : Int)) (b := (r_1.length : Int)) rfl (hf.get 11 4 rfl) (hf.get 10 3 rfl)) ?_
  refine rw_nil ?_
  refine cw_seq ?_
  refine cw_cond (b := (decide ((i : Int) < (r_1.length : Int)))) rfl (fun hlt => ?_) (fun hlt => ?_)
  · skip
    have hlt1 : i < r_1.length := by have h := of_decide_eq_true hlt; omega
    obtain ⟨k_1, rfl⟩ : ∃ k2, k_ = k2 + 1 := ⟨k_ - 1, by omega⟩
    obtain ⟨y, hb, hL1⟩ := forN_go hL
    unfold F_spec_l13Through_l1 at hb
    refine cw_skip ?_
    refine cw_seq ?_
    refine cw_block ?_
    refine cw_seq ?_
    refine cw_region ?_
    obtain ⟨x1, hx, hb⟩ := bind_inv hb
    refine sq 13 rfl rfl (Y_index (B := B1) (m := r_1.length) (c := c1) (k := .i64) (i := (i : Int)) k_sl_48_3 k_sz_3_1 rfl (hf.get 9 2 rfl) (hf.get 11 4 rfl) (gi_isSome encI_len rfl (hS3.cf (i := 1) rfl) hx) (getI_nn hx) (getI_ltI hx rfl)) ?_
    refine sq 14 rfl rfl (Y_load1 (B := B1) (i := (i : Int).toNat * 1) (cs := (r_1.flatMap encI)) (v := .int .i64 x1) k_sc_3 rfl rfl (hS3.cf (i := 1) rfl) (gi_at0 encI_len hx rfl)) ?_
    refine sq 7 rfl rfl (Y_assign (v := .int .i64 x1) rfl rfl) ?_
    refine rw_nil ?_
    refine cw_region ?_
    refine sq 15 rfl rfl (Y_move (v := .int .i64 x) rfl (hf.get 5 1 rfl)) ?_
    refine sq 16 rfl rfl (Y_fieldAddr (B := some ⟨b, 0, none⟩) (i := 0) (s := 0) k_fd_50_0_0_48 k_sz_48_1 rfl (hf.get 2 0 rfl)) ?_
    refine sq 17 rfl rfl (Y_load1 (B := some ⟨b, 0, none⟩) (i := 0) (cs := [.slice B m.Rows.length c]) (v := .slice B m.Rows.length c) k_sc_48 rfl rfl (hS3.cf (i := 0) rfl) rfl) ?_
    refine sq 18 rfl rfl (Y_move (v := .int .i64 x1) rfl rfl) ?_
    obtain ⟨x2, hx1, hb⟩ := bind_inv hb
    refine sq 19 rfl rfl (Y_index (B := B) (m := m.Rows.length) (c := c) (k := .i64) (i := x1) k_sl_48_3 k_sz_3_1 rfl rfl rfl (gi_isSome encI_len rfl (hS3.rf (i := 0) rfl) hx1) (getI_nn hx1) (getI_ltI hx1 rfl)) ?_
    refine sq 20 rfl rfl (Y_load1 (B := B) (i := x1.toNat * 1) (cs := (m.Rows.flatMap encI)) (v := .int .i64 x2) k_sc_3 rfl rfl (hS3.rf (i := 0) rfl) (gi_at0 encI_len hx1 rfl)) ?_
    refine sq 21 rfl rfl (Y_bxor (k := .i64) (a := x) (b := x2) rfl rfl rfl) ?_
    refine sq 5 rfl rfl (Y_assign (v := .int .i64 (bits .xor .i64 x x2)) rfl rfl) ?_
    refine rw_nil ?_
    refine cw_region ?_
    refine sq 22 rfl rfl (Y_add (k := .i64) (a := (i : Int)) (b := 1) rfl (hf.get 11 4 rfl) rfl) ?_
    refine sq 11 rfl rfl (Y_move (v := .int .i64 (IntKind.i64.wrap ((i : Int) + 1))) rfl rfl) ?_
    refine rw_nil ?_
    obtain rfl := some_inj hb
    exact ⟨k_1, Nat.lt_succ_self _, i + 1, (bits .xor .i64 x x2), (FF.cons (hf.get 2 0 rfl) (FF.cons rfl (FF.cons (hf.get 9 2 rfl) (FF.cons (hf.get 10 3 rfl) (FF.cons (congrArg (Value.int .i64) (wr_succ hlt1 hN)) FF.nil))))), (hS3.sel [0, 1] rfl rfl), (by omega), hL1⟩
  · skip
    obtain rfl : k_ = 0 := by have h := of_decide_eq_false hlt; omega
    refine cw_exit rfl ?_
    obtain rfl := some_inj hL
    refine cw_seq ?_
    refine cw_region ?_
    refine sq 23 rfl rfl (Y_move (v := .int .i64 x) rfl (hf.get 5 1 rfl)) ?_
    refine sq 4 rfl rfl (Y_assign (v := .int .i64 x) rfl rfl) ?_
    refine rw_nil ?_
    refine cw_ret ?_
    obtain rfl := some_inj hF1
    exact ret1 Try.results78 (v1 := .int .i64 x) (resAt_tmp rfl) ⟨rfl, (ST.subR (R' := []) (hS3.sel [] rfl rfl) (fun _ h => by cases h))⟩

theorem c_spec_l12Then (first : TLinear) (second : TLinear) (B : Option Addr) (c n : Nat) (B1 : Option Addr) (c1 n1 : Nat) (w0 : World) (hn : first.Rows.length = n) (hn1 : second.Rows.length = n1) (hS : ST w0 [] w0 [] [⟨B, (first.Rows.flatMap encI)⟩, ⟨B1, (second.Rows.flatMap encI)⟩]) {r_ : TLinear} (hF : F_spec_l12Then first second = some r_) :
    CV Try.prog 80 #[.agg #[.slice B n c], .agg #[.slice B1 n1 c1]] w0 (fun v w' => ∃ (B2 : Option Addr) (c2 : Nat), v = .agg #[.slice B2 r_.Rows.length c2] ∧ ST w0 [] w' [⟨B2, 3, (r_.Rows.flatMap encI), c2 * 1⟩] []) := by
  subst hn
  subst hn1
  unfold F_spec_l12Then at hF
  refine cv_of_cw 41 Try.func80 rfl Try.ntmps80 rfl ?_
  refine cw_seq ?_
  refine cw_region ?_
  refine ss 2 rfl rfl (Ys_box (T := 50) (v := .agg #[.slice B first.Rows.length c]) (cs := [.slice B first.Rows.length c]) (m := 1) hS rfl rfl rfl rfl) ?_
  rintro _ w_ ⟨b, rfl, hS1⟩
  refine ss 3 rfl rfl (Ys_box (T := 50) (v := .agg #[.slice B1 second.Rows.length c1]) (cs := [.slice B1 second.Rows.length c1]) (m := 1) hS1 rfl rfl rfl rfl) ?_
  rintro _ w_1 ⟨b1, rfl, hS2⟩
  have hS2 : ST w0 [] _ [⟨some ⟨b, 0, none⟩, 50, [.slice B first.Rows.length c], 1⟩, ⟨some ⟨b1, 0, none⟩, 50, [.slice B1 second.Rows.length c1], 1⟩] [⟨B, (first.Rows.flatMap encI)⟩, ⟨B1, (second.Rows.flatMap encI)⟩] := hS2
  refine ss 4 rfl rfl (Ys_alloc (T := 50) (cs := [.slice none 0 0]) (m := 1) hS2 k_zero_50 rfl rfl rfl) ?_
  rintro _ w_2 ⟨b2, rfl, hS3⟩
  have hS3 : ST w0 [] _ [⟨some ⟨b, 0, none⟩, 50, [.slice B first.Rows.length c], 1⟩, ⟨some ⟨b1, 0, none⟩, 50, [.slice B1 second.Rows.length c1], 1⟩, ⟨some ⟨b2, 0, none⟩, 50, [.slice none 0 0], 1⟩] [⟨B, (first.Rows.flatMap encI)⟩, ⟨B1, (second.Rows.flatMap encI)⟩] := hS3
  refine rw_nil ?_
  refine cw_seq ?_
  refine cw_region ?_
  refine ss 5 rfl rfl (Ys_alloc (T := 50) (cs := [.slice none 0 0]) (m := 1) hS3 k_zero_50 rfl rfl rfl) ?_
  rintro _ w_3 ⟨b3, rfl, hS4⟩
  have hS4 : ST w0 [] _ [⟨some ⟨b, 0, none⟩, 50, [.slice B first.Rows.length c], 1⟩, ⟨some ⟨b1, 0, none⟩, 50, [.slice B1 second.Rows.length c1], 1⟩, ⟨some ⟨b2, 0, none⟩, 50, [.slice none 0 0], 1⟩, ⟨some ⟨b3, 0, none⟩, 50, [.slice none 0 0], 1⟩] [⟨B, (first.Rows.flatMap encI)⟩, ⟨B1, (second.Rows.flatMap encI)⟩] := hS4
  refine rw_nil ?_
  refine cw_seq ?_
  refine cw_seq ?_
  refine cw_region ?_
  refine sq 11 rfl rfl (Y_fieldAddr (B := some ⟨b1, 0, none⟩) (i := 0) (s := 0) k_fd_50_0_0_48 k_sz_48_1 rfl rfl) ?_
  refine sq 12 rfl rfl (Y_load1 (B := some ⟨b1, 0, none⟩) (i := 0) (cs := [.slice B1 second.Rows.length c1]) (v := .slice B1 second.Rows.length c1) k_sc_48 rfl rfl (hS4.cf (i := 1) rfl) rfl) ?_
  refine sq 13 rfl rfl (Y_len (B := B1) (m := second.Rows.length) (c := c1) k_sl_48_3 rfl rfl) ?_
  refine sq 14 rfl rfl (Y_move (v := .int .i64 0) rfl rfl) ?_
  refine rw_nil ?_
  obtain ⟨z, hz, hF1⟩ := bind_inv hF
  have hS6 := hS4.addNil 3
  refine cw_block ?_
  refine cw_loop (fun k f w => ∃ (Rows : List Int) (t : Int) (B3 : Option Addr) (c3 : Nat), FF f [(2, pt (some ⟨b, 0, none⟩) 0), (4, pt (some ⟨b2, 0, none⟩) 0), (5, pt (some ⟨b3, 0, none⟩) 0), (12, .slice B1 second.Rows.length c1), (13, .int .i64 (second.Rows.length : Int)), (14, .int .i64 t)] ∧ ST w0 [] w [⟨some ⟨b, 0, none⟩, 50, [.slice B first.Rows.length c], 1⟩, ⟨some ⟨b2, 0, none⟩, 50, [.slice none 0 0], 1⟩, ⟨some ⟨b3, 0, none⟩, 50, [.slice B3 Rows.length c3], 1⟩, ⟨B3, 3, (Rows.flatMap encI), c3 * 1⟩] [⟨B, (first.Rows.flatMap encI)⟩, ⟨B1, (second.Rows.flatMap encI)⟩] ∧ whX (F_spec_l12Then_l1 second first) k (Rows, t) = some z) fuel ⟨[], 0, none, 0, (FF.cons rfl (FF.cons rfl (FF.cons rfl (FF.cons rfl (FF.cons rfl (FF.cons rfl FF.nil)))))), (hS6.sel [0, 2, 3, 4] rfl rfl), hz⟩ ?_
  rintro k_ f w ⟨Rows, t, B3, c3, hf, hS5, hL⟩
  obtain ⟨k_1, y, rfl, hb, hL1⟩ := whX_go hL
  unfold F_spec_l12Then_l1 at hb
  refine cw_seq ?_
  refine cw_region ?_
  refine sq 15 rfl rfl (Y_lt (k := .i64) (a := t) (b := (second.Rows.length : Int)) rfl (hf.get 14 5 rfl) (hf.get 13 4 rfl)) ?_
  refine rw_nil ?_
  refine cw_seq ?_
  refine cw_cond (b := (decide (t < (second.Rows.length : Int)))) rfl (fun hb1 => ?_) (fun hb1 => ?_)
  · skip
    have hF2 := ct hb hb1
    refine cw_skip ?_
    refine cw_seq ?_
    refine cw_block ?_
    refine cw_seq ?_
    refine cw_region ?_
    obtain ⟨x, hx, hF2⟩ := bind_inv hF2
    refine sq 16 rfl rfl (Y_index (B := B1) (m := second.Rows.length) (c := c1) (k := .i64) (i := t) k_sl_48_3 k_sz_3_1 rfl (hf.get 12 3 rfl) (hf.get 14 5 rfl) (gi_isSome encI_len rfl (hS5.rf (i := 1) rfl) hx) (getI_nn hx) (getI_ltI hx rfl)) ?_
    refine sq 17 rfl rfl (Y_load1 (B := B1) (i := t.toNat * 1) (cs := (second.Rows.flatMap encI)) (v := .int .i64 x) k_sc_3 rfl rfl (hS5.rf (i := 1) rfl) (gi_at0 encI_len hx rfl)) ?_
    refine sq 7 rfl rfl (Y_assign (v := .int .i64 x) rfl rfl) ?_
    refine rw_nil ?_
    refine cw_seq ?_
    refine cw_region ?_
    refine sq 8 rfl rfl (Y_assign (v := .int .i64 0) rfl rfl) ?_
    refine rw_nil ?_
    refine cw_seq ?_
    refine cw_seq ?_
    refine cw_region ?_
    refine sq 18 rfl rfl (Y_move (v := .int .i64 x) rfl rfl) ?_
    obtain ⟨r_1, hc, hF2⟩ := bind_inv hF2
    refine sc 19 rfl rfl (Yc_func (g := 123) (vs := [.int .i64 x]) k_call_123 rfl (mc rfl mn) (c_spec_l1Set x _  (hS5.inn0 [] rfl) hc)) ?_
    rintro _ w_4 ⟨B4, c4, rfl, hd⟩
    have hS7 := hS5.out0 hd
    have hS7 : ST w0 [] _ [⟨some ⟨b, 0, none⟩, 50, [.slice B first.Rows.length c], 1⟩, ⟨some ⟨b2, 0, none⟩, 50, [.slice none 0 0], 1⟩, ⟨some ⟨b3, 0, none⟩, 50, [.slice B3 Rows.length c3], 1⟩, ⟨B3, 3, (Rows.flatMap encI), c3 * 1⟩, ⟨B4, 3, (r_1.flatMap encI), c4 * 1⟩] [⟨B, (first.Rows.flatMap encI)⟩, ⟨B1, (second.Rows.flatMap encI)⟩] := hS7
    refine sq 20 rfl rfl (Y_len (B := B4) (m := r_1.length) (c := c4) k_sl_48_3 rfl rfl) ?_
    refine sq 21 rfl rfl (Y_move (v := .int .i64 0) rfl rfl) ?_
    refine rw_nil ?_
    obtain ⟨hN, hF2⟩ := chk_inv hF2
    obtain ⟨z1, hz1, hF3⟩ := bind_inv hF2
    refine cw_block ?_
    refine cw_loop (fun k f w => ∃ (i1 : Nat) (x1 : Int), FF f [(2, pt (some ⟨b, 0, none⟩) 0), (4, pt (some ⟨b2, 0, none⟩) 0), (5, pt (some ⟨b3, 0, none⟩) 0), (8, .int .i64 x1), (12, .slice B1 second.Rows.length c1), (13, .int .i64 (second.Rows.length : Int)), (14, .int .i64 t), (19, .slice B4 r_1.length c4), (20, .int .i64 (r_1.length : Int)), (21, .int .i64 (i1 : Int))] ∧ ST w0 [] w [⟨some ⟨b, 0, none⟩, 50, [.slice B first.Rows.length c], 1⟩, ⟨some ⟨b2, 0, none⟩, 50, [.slice none 0 0], 1⟩, ⟨some ⟨b3, 0, none⟩, 50, [.slice B3 Rows.length c3], 1⟩, ⟨B3, 3, (Rows.flatMap encI), c3 * 1⟩, ⟨B4, 3, (r_1.flatMap encI), c4 * 1⟩] [⟨B, (first.Rows.flatMap encI)⟩, ⟨B1, (second.Rows.flatMap encI)⟩] ∧ i1 + k = r_1.length ∧ forN (F_spec_l12Then_l2 r_1 first Rows) k i1 x1 = some z1) r_1.length ⟨0, 0, (FF.cons (hf.get 2 0 rfl) (FF.cons (hf.get 4 1 rfl) (FF.cons (hf.get 5 2 rfl) (FF.cons rfl (FF.cons (hf.get 12 3 rfl) (FF.cons (hf.get 13 4 rfl) (FF.cons (hf.get 14 5 rfl) (FF.cons rfl (FF.cons rfl (FF.cons rfl FF.nil)))))))))), (hS7.sel [0, 1, 2, 3, 4] rfl rfl), Nat.zero_add _, hz1⟩ ?_
    rintro k_2 f w ⟨i1, x1, hf1, hS8, hik1, hL2⟩
    refine cw_seq ?_
    refine cw_region ?_
    refine sq 22 rfl rfl (Y_lt (k := .i64) (a := (i1 : Int)) (b := (r_1.length : Int)) rfl (hf1.get 21 9 rfl) (hf1.get 20 8 rfl)) ?_
    refine rw_nil ?_
    refine cw_seq ?_
    refine cw_cond (b := (decide ((i1 : Int) < (r_1.length : Int)))) rfl (fun hlt => ?_) (fun hlt => ?_)
    · skip
      have hlt1 : i1 < r_1.length := by have h := of_decide_eq_true hlt; omega
      obtain ⟨k_3, rfl⟩ : ∃ k2, k_2 = k2 + 1 := ⟨k_2 - 1, by omega⟩
      obtain ⟨y1, hb2, hL3⟩ := forN_go hL2
      unfold F_spec_l12Then_l2 at hb2
      refine cw_skip ?_
      refine cw_seq ?_
      refine cw_block ?_
      refine cw_seq ?_
      refine cw_region ?_
      obtain ⟨x2, hx1, hb2⟩ := bind_inv hb2
      refine sq 23 rfl rfl (Y_index (B := B4) (m := r_1.length) (c := c4) (k := .i64) (i := (i1 : Int)) k_sl_48_3 k_sz_3_1 rfl (hf1.get 19 7 rfl) (hf1.get 21 9 rfl) (gi_isSome encI_len rfl (hS8.cf (i := 4) rfl) hx1) (getI_nn hx1) (getI_ltI hx1 rfl)) ?_
      refine sq 24 rfl rfl (Y_load1 (B := B4) (i := (i1 : Int).toNat * 1) (cs := (r_1.flatMap encI)) (v := .int .i64 x2) k_sc_3 rfl rfl (hS8.cf (i := 4) rfl) (gi_at0 encI_len hx1 rfl)) ?_
      refine sq 10 rfl rfl (Y_assign (v := .int .i64 x2) rfl rfl) ?_
      refine rw_nil ?_
      refine cw_region ?_
      refine sq 25 rfl rfl (Y_move (v := .int .i64 x1) rfl (hf1.get 8 3 rfl)) ?_
      refine sq 26 rfl rfl (Y_fieldAddr (B := some ⟨b, 0, none⟩) (i := 0) (s := 0) k_fd_50_0_0_48 k_sz_48_1 rfl (hf1.get 2 0 rfl)) ?_
      refine sq 27 rfl rfl (Y_load1 (B := some ⟨b, 0, none⟩) (i := 0) (cs := [.slice B first.Rows.length c]) (v := .slice B first.Rows.length c) k_sc_48 rfl rfl (hS8.cf (i := 0) rfl) rfl) ?_
      refine sq 28 rfl rfl (Y_move (v := .int .i64 x2) rfl rfl) ?_
      obtain ⟨x3, hx2, hb2⟩ := bind_inv hb2
      refine sq 29 rfl rfl (Y_index (B := B) (m := first.Rows.length) (c := c) (k := .i64) (i := x2) k_sl_48_3 k_sz_3_1 rfl rfl rfl (gi_isSome encI_len rfl (hS8.rf (i := 0) rfl) hx2) (getI_nn hx2) (getI_ltI hx2 rfl)) ?_
      refine sq 30 rfl rfl (Y_load1 (B := B) (i := x2.toNat * 1) (cs := (first.Rows.flatMap encI)) (v := .int .i64 x3) k_sc_3 rfl rfl (hS8.rf (i := 0) rfl) (gi_at0 encI_len hx2 rfl)) ?_
      refine sq 31 rfl rfl (Y_bxor (k := .i64) (a := x1) (b := x3) rfl rfl rfl) ?_
      refine sq 8 rfl rfl (Y_assign (v := .int .i64 (bits .xor .i64 x1 x3)) rfl rfl) ?_
      refine rw_nil ?_
      refine cw_region ?_
      refine sq 32 rfl rfl (Y_add (k := .i64) (a := (i1 : Int)) (b := 1) rfl (hf1.get 21 9 rfl) rfl) ?_
      refine sq 21 rfl rfl (Y_move (v := .int .i64 (IntKind.i64.wrap ((i1 : Int) + 1))) rfl rfl) ?_
      refine rw_nil ?_
      obtain rfl := some_inj hb2
      exact ⟨k_3, Nat.lt_succ_self _, i1 + 1, (bits .xor .i64 x1 x3), (FF.cons (hf1.get 2 0 rfl) (FF.cons (hf1.get 4 1 rfl) (FF.cons (hf1.get 5 2 rfl) (FF.cons rfl (FF.cons (hf1.get 12 4 rfl) (FF.cons (hf1.get 13 5 rfl) (FF.cons (hf1.get 14 6 rfl) (FF.cons (hf1.get 19 7 rfl) (FF.cons (hf1.get 20 8 rfl) (FF.cons (congrArg (Value.int .i64) (wr_succ hlt1 hN)) FF.nil)))))))))), (hS8.sel [0, 1, 2, 3, 4] rfl rfl), (by omega), hL3⟩
    · skip
      obtain rfl : k_2 = 0 := by have h := of_decide_eq_false hlt; omega
      refine cw_exit rfl ?_
      obtain rfl := some_inj hL2
      refine cw_region ?_
      refine sq 33 rfl rfl (Y_fieldAddr (B := some ⟨b3, 0, none⟩) (i := 0) (s := 0) k_fd_50_0_0_48 k_sz_48_1 rfl (hf1.get 5 2 rfl)) ?_
      refine sq 34 rfl rfl (Y_load1 (B := some ⟨b3, 0, none⟩) (i := 0) (cs := [.slice B3 Rows.length c3]) (v := .slice B3 Rows.length c3) k_sc_48 rfl rfl (hS8.cf (i := 2) rfl) rfl) ?_
      refine sq 35 rfl rfl (Y_move (v := .int .i64 x1) rfl (hf1.get 8 3 rfl)) ?_
      refine ss 36 rfl rfl (Ys_bslice (s := 1) (len := 1) (vs := [(0, .int .i64 x1)]) (cs := [.int .i64 x1]) (zs := [.int .i64 0]) (m := 1) hS8 k_sl_48_3 k_sz_3_1 k_zc_3 rfl (mpc rfl mpn) rfl rfl rfl (by kernel_rfl) (by kernel_rfl) rfl) ?_
      rintro _ w_5 ⟨b4, rfl, hS9⟩
      have hS9 : ST w0 [] _ [⟨some ⟨b, 0, none⟩, 50, [.slice B first.Rows.length c], 1⟩, ⟨some ⟨b2, 0, none⟩, 50, [.slice none 0 0], 1⟩, ⟨some ⟨b3, 0, none⟩, 50, [.slice B3 Rows.length c3], 1⟩, ⟨B3, 3, (Rows.flatMap encI), c3 * 1⟩, ⟨B4, 3, (r_1.flatMap encI), c4 * 1⟩, ⟨some ⟨b4, 0, none⟩, 3, ([x1].flatMap encI), 1 * 1⟩] [⟨B, (first.Rows.flatMap encI)⟩, ⟨B1, (second.Rows.flatMap encI)⟩] := hS9
      obtain ⟨hap, hF3⟩ := chk_inv hF3
      refine ss 37 rfl rfl (Ys_append (s := 1) (by' := 8) (i := 3) (nn := Rows.length) (c := c3) (k := 1) (len := (Rows ++ [x1]).length) (B := B3) (xs := ([x1].flatMap encI)) (cs' := ((Rows ++ [x1]).flatMap encI)) hS9 k_sl_48_3 k_sz_3_1 k_by_3_8 k_zero_3 rfl (by decide) rfl rfl rfl rfl (fm_lenn (l := Rows) encI_len rfl) rfl (hS9.cf (i := 5) rfl) (fm_lenn (l := [x1]) encI_len rfl) (fm_one' (enc := encI) encI_one [x1]) (by have := hap; omega) (by have := hap; simp only [maxLen]; omega) (fm_app _ _) (app_len (l := Rows) (l' := [x1]) rfl rfl)) ?_
      rintro _ w_6 ⟨B5, c5, rfl, hS10⟩
      have hS10 : ST w0 [] _ [⟨some ⟨b, 0, none⟩, 50, [.slice B first.Rows.length c], 1⟩, ⟨some ⟨b2, 0, none⟩, 50, [.slice none 0 0], 1⟩, ⟨some ⟨b3, 0, none⟩, 50, [.slice B3 Rows.length c3], 1⟩, ⟨B5, 3, ((Rows ++ [x1]).flatMap encI), c5 * 1⟩, ⟨B4, 3, (r_1.flatMap encI), c4 * 1⟩, ⟨some ⟨b4, 0, none⟩, 3, ([x1].flatMap encI), 1 * 1⟩] [⟨B, (first.Rows.flatMap encI)⟩, ⟨B1, (second.Rows.flatMap encI)⟩] := hS10
      refine sq 38 rfl rfl (Y_fieldAddr (B := some ⟨b3, 0, none⟩) (i := 0) (s := 0) k_fd_50_0_0_48 k_sz_48_1 rfl (hf1.get 5 2 rfl)) ?_
      refine ss0 rfl rfl (Ys_store (i := 2) (s := 1) (B := some ⟨b3, 0, none⟩) (T' := 50) (v := .slice B5 ((Rows ++ [x1]).length) c5) (vs := [.slice B5 ((Rows ++ [x1]).length) c5]) (k := 0) (cs' := [.slice B5 ((Rows ++ [x1]).length) c5]) hS10 k_sz_48_1 rfl rfl rfl rfl rfl rfl rfl (Nat.le_of_ble_eq_true rfl) rfl rfl) ?_
      rintro _ w_7 ⟨rfl, hS11⟩
      have hS11 : ST w0 [] _ [⟨some ⟨b, 0, none⟩, 50, [.slice B first.Rows.length c], 1⟩, ⟨some ⟨b2, 0, none⟩, 50, [.slice none 0 0], 1⟩, ⟨some ⟨b3, 0, none⟩, 50, [.slice B5 ((Rows ++ [x1]).length) c5], 1⟩, ⟨B5, 3, ((Rows ++ [x1]).flatMap encI), c5 * 1⟩, ⟨B4, 3, (r_1.flatMap encI), c4 * 1⟩, ⟨some ⟨b4, 0, none⟩, 3, ([x1].flatMap encI), 1 * 1⟩] [⟨B, (first.Rows.flatMap encI)⟩, ⟨B1, (second.Rows.flatMap encI)⟩] := hS11
      refine rw_nil ?_
      refine cw_region ?_
      refine sq 39 rfl rfl (Y_add (k := .i64) (a := t) (b := 1) rfl (hf1.get 14 6 rfl) rfl) ?_
      refine sq 14 rfl rfl (Y_move (v := .int .i64 (IntKind.i64.wrap (t + 1))) rfl rfl) ?_
      refine rw_nil ?_
      obtain rfl := some_inj hF3
      exact ⟨k_1, Nat.lt_succ_self _, (Rows ++ [x1]), (IntKind.i64.wrap (t + 1)), B5, c5, (FF.cons (hf1.get 2 0 rfl) (FF.cons (hf1.get 4 1 rfl) (FF.cons (hf1.get 5 2 rfl) (FF.cons (hf1.get 12 4 rfl) (FF.cons (hf1.get 13 5 rfl) (FF.cons rfl FF.nil)))))), (hS11.sel [0, 1, 2, 3] rfl rfl), hL1⟩
  · skip
    have hF4 := cf' hb hb1
    refine cw_exit rfl ?_
    obtain rfl := some_inj hF4
    obtain rfl := some_inj hL1
    refine cw_seq ?_
    refine cw_region ?_
    refine sq 40 rfl rfl (Y_loadA (B := some ⟨b3, 0, none⟩) (i := 0) (cs := [.slice B3 Rows.length c3]) (vs := [.slice B3 Rows.length c3]) k_ag_50 k_sz_50_1 rfl (hf.get 5 2 rfl) (hS5.cf (i := 2) rfl) rfl rfl) ?_
    refine ss0 rfl rfl (Ys_store (i := 1) (s := 1) (B := some ⟨b2, 0, none⟩) (T' := 50) (v := .agg #[.slice B3 Rows.length c3]) (vs := [.slice B3 Rows.length c3]) (k := 0) (cs' := [.slice B3 Rows.length c3]) hS5 k_sz_50_1 rfl (hf.get 4 1 rfl) rfl rfl rfl rfl rfl (Nat.le_of_ble_eq_true rfl) rfl rfl) ?_
    rintro _ w_8 ⟨rfl, hS12⟩
    have hS12 : ST w0 [] _ [⟨some ⟨b, 0, none⟩, 50, [.slice B first.Rows.length c], 1⟩, ⟨some ⟨b2, 0, none⟩, 50, [.slice B3 Rows.length c3], 1⟩, ⟨some ⟨b3, 0, none⟩, 50, [.slice B3 Rows.length c3], 1⟩, ⟨B3, 3, (Rows.flatMap encI), c3 * 1⟩] [⟨B, (first.Rows.flatMap encI)⟩, ⟨B1, (second.Rows.flatMap encI)⟩] := hS12
    refine rw_nil ?_
    refine cw_ret ?_
    obtain rfl := some_inj hF1
    exact ret1 Try.results80 (v1 := .agg #[.slice B3 Rows.length c3]) (resAt_cellA (B := some ⟨b2, 0, none⟩) (i := 0) (cs := [.slice B3 Rows.length c3]) (vs := [.slice B3 Rows.length c3]) (hf.get 4 1 rfl) k_ag_50 k_sz_50_1 (hS12.cf (i := 1) rfl) rfl rfl) ⟨B3, c3, rfl, (ST.subR (R' := []) (hS12.sel [3] rfl rfl) (fun _ h => by cases h))⟩

theorem c_spec_ComposePhase (first : TPhasePoly) (second : TPhasePoly) (B : Option Addr) (c n : Nat) (B1 : Option Addr) (c1 n1 : Nat) (B2 : Option Addr) (c2 n2 : Nat) (B3 : Option Addr) (c3 n3 : Nat) (w0 : World) (hn : first.Terms.length = n) (hn1 : first.Out.Rows.length = n1) (hn2 : second.Terms.length = n2) (hn3 : second.Out.Rows.length = n3) (hS : ST w0 [] w0 [] [⟨B, (first.Terms.flatMap enc_Term)⟩, ⟨B1, (first.Out.Rows.flatMap encI)⟩, ⟨B2, (second.Terms.flatMap enc_Term)⟩, ⟨B3, (second.Out.Rows.flatMap encI)⟩]) {r_ : TPhasePoly} {r_1 : Bool} (hF : F_spec_ComposePhase first second = some (r_, r_1)) :
    CV Try.prog 25 #[.agg #[.int .i64 first.Qubits, .int .i64 first.Phase, .slice B n c, .slice B1 n1 c1], .agg #[.int .i64 second.Qubits, .int .i64 second.Phase, .slice B2 n2 c2, .slice B3 n3 c3]] w0 (fun v w' => ∃ (B4 : Option Addr) (c4 : Nat) (B5 : Option Addr) (c5 : Nat), v = .tuple #[.agg #[.int .i64 r_.Qubits, .int .i64 r_.Phase, .slice B4 r_.Terms.length c4, .slice B5 r_.Out.Rows.length c5], .bool r_1] ∧ ST w0 [] w' [⟨B4, 104, (r_.Terms.flatMap enc_Term), c4 * 2⟩, ⟨B5, 3, (r_.Out.Rows.flatMap encI), c5 * 1⟩] []) := by
  subst hn
  subst hn1
  subst hn2
  subst hn3
  unfold F_spec_ComposePhase at hF
  refine cv_of_cw 63 Try.func25 rfl Try.ntmps25 rfl ?_
  refine cw_seq ?_
  refine cw_region ?_
  refine ss 2 rfl rfl (Ys_box (T := 52) (v := .agg #[.int .i64 first.Qubits, .int .i64 first.Phase, .slice B first.Terms.length c, .slice B1 first.Out.Rows.length c1]) (cs := [.int .i64 first.Qubits, .int .i64 first.Phase, .slice B first.Terms.length c, .slice B1 first.Out.Rows.length c1]) (m := 4) hS rfl rfl rfl rfl) ?_
  rintro _ w_ ⟨b, rfl, hS1⟩
  refine ss 3 rfl rfl (Ys_box (T := 52) (v := .agg #[.int .i64 second.Qubits, .int .i64 second.Phase, .slice B2 second.Terms.length c2, .slice B3 second.Out.Rows.length c3]) (cs := [.int .i64 second.Qubits, .int .i64 second.Phase, .slice B2 second.Terms.length c2, .slice B3 second.Out.Rows.length c3]) (m := 4) hS1 rfl rfl rfl rfl) ?_
  rintro _ w_1 ⟨b1, rfl, hS2⟩
  have hS2 : ST w0 [] _ [⟨some ⟨b, 0, none⟩, 52, [.int .i64 first.Qubits, .int .i64 first.Phase, .slice B first.Terms.length c, .slice B1 first.Out.Rows.length c1], 4⟩, ⟨some ⟨b1, 0, none⟩, 52, [.int .i64 second.Qubits, .int .i64 second.Phase, .slice B2 second.Terms.length c2, .slice B3 second.Out.Rows.length c3], 4⟩] [⟨B, (first.Terms.flatMap enc_Term)⟩, ⟨B1, (first.Out.Rows.flatMap encI)⟩, ⟨B2, (second.Terms.flatMap enc_Term)⟩, ⟨B3, (second.Out.Rows.flatMap encI)⟩] := hS2
  refine ss 4 rfl rfl (Ys_alloc (T := 52) (cs := [.int .i64 0, .int .i64 0, .slice none 0 0, .slice none 0 0]) (m := 4) hS2 k_zero_52 rfl rfl rfl) ?_
  rintro _ w_2 ⟨b2, rfl, hS3⟩
  have hS3 : ST w0 [] _ [⟨some ⟨b, 0, none⟩, 52, [.int .i64 first.Qubits, .int .i64 first.Phase, .slice B first.Terms.length c, .slice B1 first.Out.Rows.length c1], 4⟩, ⟨some ⟨b1, 0, none⟩, 52, [.int .i64 second.Qubits, .int .i64 second.Phase, .slice B2 second.Terms.length c2, .slice B3 second.Out.Rows.length c3], 4⟩, ⟨some ⟨b2, 0, none⟩, 52, [.int .i64 0, .int .i64 0, .slice none 0 0, .slice none 0 0], 4⟩] [⟨B, (first.Terms.flatMap enc_Term)⟩, ⟨B1, (first.Out.Rows.flatMap encI)⟩, ⟨B2, (second.Terms.flatMap enc_Term)⟩, ⟨B3, (second.Out.Rows.flatMap encI)⟩] := hS3
  refine sq 5 rfl rfl (Y_assign (v := .bool false) rfl rfl) ?_
  refine rw_nil ?_
  refine cw_seq ?_
  refine cw_seq ?_
  refine cw_region ?_
  refine sq 9 rfl rfl (Y_loadA (B := some ⟨b, 0, none⟩) (i := 0) (cs := [.int .i64 first.Qubits, .int .i64 first.Phase, .slice B first.Terms.length c, .slice B1 first.Out.Rows.length c1]) (vs := [.int .i64 first.Qubits, .int .i64 first.Phase, .slice B first.Terms.length c, .slice B1 first.Out.Rows.length c1]) k_ag_52 k_sz_52_4 rfl rfl (hS3.cf (i := 0) rfl) rfl rfl) ?_
  obtain ⟨r_2, hc, hF⟩ := bind_inv hF
  refine sc 10 rfl rfl (Yc_func (g := 76) (vs := [.agg #[.int .i64 first.Qubits, .int .i64 first.Phase, .slice B first.Terms.length c, .slice B1 first.Out.Rows.length c1]]) k_call_76 rfl (mc rfl mn) (c_spec_l13Valid first B c first.Terms.length B1 c1 first.Out.Rows.length _ rfl rfl (hS3.inn0 [(true, 0), (true, 1)] rfl) hc)) ?_
  rintro _ w_3 ⟨rfl, hd⟩
  have hS4 := hS3.out00 hd
  have hS4 : ST w0 [] _ [⟨some ⟨b, 0, none⟩, 52, [.int .i64 first.Qubits, .int .i64 first.Phase, .slice B first.Terms.length c, .slice B1 first.Out.Rows.length c1], 4⟩, ⟨some ⟨b1, 0, none⟩, 52, [.int .i64 second.Qubits, .int .i64 second.Phase, .slice B2 second.Terms.length c2, .slice B3 second.Out.Rows.length c3], 4⟩, ⟨some ⟨b2, 0, none⟩, 52, [.int .i64 0, .int .i64 0, .slice none 0 0, .slice none 0 0], 4⟩] [⟨B, (first.Terms.flatMap enc_Term)⟩, ⟨B1, (first.Out.Rows.flatMap encI)⟩, ⟨B2, (second.Terms.flatMap enc_Term)⟩, ⟨B3, (second.Out.Rows.flatMap encI)⟩] := hS4
  refine sq 11 rfl rfl (Y_not (p := r_2) rfl rfl) ?_
  refine sq 12 rfl rfl (Y_move (v := .bool (!r_2)) rfl rfl) ?_
  refine sgq 13 (B := (!(!r_2))) (v := .agg #[.int .i64 second.Qubits, .int .i64 second.Phase, .slice B2 second.Terms.length c2, .slice B3 second.Out.Rows.length c3]) rfl rfl (wt_f (gd_of (t := 12) (by kernel_rfl) rfl)) (fun hg => (Y_loadA (B := some ⟨b1, 0, none⟩) (i := 0) (cs := [.int .i64 second.Qubits, .int .i64 second.Phase, .slice B2 second.Terms.length c2, .slice B3 second.Out.Rows.length c3]) (vs := [.int .i64 second.Qubits, .int .i64 second.Phase, .slice B2 second.Terms.length c2, .slice B3 second.Out.Rows.length c3]) k_ag_52 k_sz_52_4 rfl rfl (hS4.cf (i := 1) rfl) rfl rfl)) ?_
  obtain ⟨r_3, hc1, hF⟩ := bind_inv hF
  refine sgc 14 (B := (!(!r_2))) (v := .bool r_3) (F := hS4.fn) rfl rfl (wt_f (gd_of (t := 12) (by kernel_rfl) rfl)) hS4 (fun hg1 => (Yc_func (g := 76) (vs := [.agg #[.int .i64 second.Qubits, .int .i64 second.Phase, .slice B2 second.Terms.length c2, .slice B3 second.Out.Rows.length c3]]) k_call_76 rfl (mc (gv_of (B := (!(!r_2))) (v := .agg #[.int .i64 second.Qubits, .int .i64 second.Phase, .slice B2 second.Terms.length c2, .slice B3 second.Out.Rows.length c3]) hg1) mn) (CV.mono (c_spec_l13Valid second B2 c2 second.Terms.length B3 c3 second.Out.Rows.length _ rfl rfl (hS4.inn0 [(true, 2), (true, 3)] rfl) (gb_inv hc1 hg1)) (by rintro _ _ ⟨rfl, h⟩; exact ⟨rfl, hS4.out00 h⟩)))) ?_
  rintro w_4 hS5
  have hS5 : ST _ _ w_4 _ _ := hS5
  refine sgq 15 (B := (!(!r_2))) (v := .bool (!r_3)) rfl rfl (wt_f (gd_of (t := 12) (by kernel_rfl) rfl)) (fun hg2 => (Y_not (p := r_3) rfl (gv_of (B := (!(!r_2))) (v := .bool r_3) hg2))) ?_
  refine sq 16 rfl rfl (Y_or (b := (!r_2)) (z := (!r_3)) rfl rfl rfl rfl) ?_
  refine sq 17 rfl rfl (Y_move (v := .bool ((!r_2) || (!r_3))) rfl rfl) ?_
  refine sgq 18 (B := (!((!r_2) || (!r_3)))) (v := pt (some ⟨b, 0, none⟩) 0) rfl rfl (wt_f (gd_of (t := 17) (by kernel_rfl) rfl)) (fun hg3 => (Y_fieldAddr (B := some ⟨b, 0, none⟩) (i := 0) (s := 0) k_fd_52_0_0_3 k_sz_3_1 rfl rfl)) ?_
  refine sgq 19 (B := (!((!r_2) || (!r_3)))) (v := .int .i64 first.Qubits) rfl rfl (wt_f (gd_of (t := 17) (by kernel_rfl) rfl)) (fun hg4 => (Y_load1 (B := some ⟨b, 0, none⟩) (i := 0) (cs := [.int .i64 first.Qubits, .int .i64 first.Phase, .slice B first.Terms.length c, .slice B1 first.Out.Rows.length c1]) (v := .int .i64 first.Qubits) k_sc_3 rfl (gv_of (B := (!((!r_2) || (!r_3)))) (v := pt (some ⟨b, 0, none⟩) 0) hg4) (hS5.cf (i := 0) rfl) rfl)) ?_
  refine sgq 20 (B := (!((!r_2) || (!r_3)))) (v := pt (some ⟨b1, 0, none⟩) 0) rfl rfl (wt_f (gd_of (t := 17) (by kernel_rfl) rfl)) (fun hg5 => (Y_fieldAddr (B := some ⟨b1, 0, none⟩) (i := 0) (s := 0) k_fd_52_0_0_3 k_sz_3_1 rfl rfl)) ?_
  refine sgq 21 (B := (!((!r_2) || (!r_3)))) (v := .int .i64 second.Qubits) rfl rfl (wt_f (gd_of (t := 17) (by kernel_rfl) rfl)) (fun hg6 => (Y_load1 (B := some ⟨b1, 0, none⟩) (i := 0) (cs := [.int .i64 second.Qubits, .int .i64 second.Phase, .slice B2 second.Terms.length c2, .slice B3 second.Out.Rows.length c3]) (v := .int .i64 second.Qubits) k_sc_3 rfl (gv_of (B := (!((!r_2) || (!r_3)))) (v := pt (some ⟨b1, 0, none⟩) 0) hg6) (hS5.cf (i := 1) rfl) rfl)) ?_
  refine sgq 22 (B := (!((!r_2) || (!r_3)))) (v := .bool (first.Qubits != second.Qubits)) rfl rfl (wt_f (gd_of (t := 17) (by kernel_rfl) rfl)) (fun hg7 => (Y_ne (k := .i64) (a := first.Qubits) (b := second.Qubits) rfl (gv_of (B := (!((!r_2) || (!r_3)))) (v := .int .i64 first.Qubits) hg7) (gv_of (B := (!((!r_2) || (!r_3)))) (v := .int .i64 second.Qubits) hg7))) ?_
  refine sq 23 rfl rfl (Y_or (b := ((!r_2) || (!r_3))) (z := (first.Qubits != second.Qubits)) rfl rfl rfl rfl) ?_
  refine rw_nil ?_
  refine cw_cond (b := (((!r_2) || (!r_3)) || (first.Qubits != second.Qubits))) rfl (fun hb => ?_) (fun hb => ?_)
  · skip
    have hF1 := ct hF hb
    refine cw_seq ?_
    refine cw_region ?_
    refine sq 24 rfl rfl (Y_buildS (zs := [.int .i64 0, .int .i64 0, .slice none 0 0, .slice none 0 0]) (vs := []) (cs := [.int .i64 0, .int .i64 0, .slice none 0 0, .slice none 0 0]) k_pl_52 k_zero_52 rfl mpn rfl) ?_
    refine ss0 rfl rfl (Ys_store (i := 2) (s := 4) (B := some ⟨b2, 0, none⟩) (T' := 52) (v := .agg #[.int .i64 0, .int .i64 0, .slice none 0 0, .slice none 0 0]) (vs := [.int .i64 0, .int .i64 0, .slice none 0 0, .slice none 0 0]) (k := 0) (cs' := [.int .i64 0, .int .i64 0, .slice none 0 0, .slice none 0 0]) hS5 k_sz_52_4 rfl rfl rfl rfl rfl rfl rfl (Nat.le_of_ble_eq_true rfl) rfl rfl) ?_
    rintro _ w_5 ⟨rfl, hS6⟩
    have hS6 : ST w0 [] _ [⟨some ⟨b, 0, none⟩, 52, [.int .i64 first.Qubits, .int .i64 first.Phase, .slice B first.Terms.length c, .slice B1 first.Out.Rows.length c1], 4⟩, ⟨some ⟨b1, 0, none⟩, 52, [.int .i64 second.Qubits, .int .i64 second.Phase, .slice B2 second.Terms.length c2, .slice B3 second.Out.Rows.length c3], 4⟩, ⟨some ⟨b2, 0, none⟩, 52, [.int .i64 0, .int .i64 0, .slice none 0 0, .slice none 0 0], 4⟩] [⟨B, (first.Terms.flatMap enc_Term)⟩, ⟨B1, (first.Out.Rows.flatMap encI)⟩, ⟨B2, (second.Terms.flatMap enc_Term)⟩, ⟨B3, (second.Out.Rows.flatMap encI)⟩] := hS6
    refine sq 5 rfl rfl (Y_assign (v := .bool false) rfl rfl) ?_
    refine rw_nil ?_
    refine cw_ret ?_
    have hS7 := hS6.addNil 104
    have hS8 := hS7.addNil 3
    obtain ⟨rfl, rfl⟩ := pr2 (some_inj hF1)
    exact ret2 Try.results25 (v1 := .agg #[.int .i64 0, .int .i64 0, .slice none 0 0, .slice none 0 0]) (resAt_cellA (B := some ⟨b2, 0, none⟩) (i := 0) (cs := [.int .i64 0, .int .i64 0, .slice none 0 0, .slice none 0 0]) (vs := [.int .i64 0, .int .i64 0, .slice none 0 0, .slice none 0 0]) rfl k_ag_52 k_sz_52_4 (hS8.cf (i := 2) rfl) rfl rfl) (v2 := .bool false) (resAt_tmp rfl) ⟨none, 0, none, 0, rfl, (ST.subR (R' := []) (hS8.sel [3, 4] rfl rfl) (fun _ h => by cases h))⟩
  · skip
    have hF2 := cf' hF hb
    refine cw_skip ?_
    refine cw_seq ?_
    refine cw_region ?_
    refine sq 25 rfl rfl (Y_loadA (B := some ⟨b, 0, none⟩) (i := 0) (cs := [.int .i64 first.Qubits, .int .i64 first.Phase, .slice B first.Terms.length c, .slice B1 first.Out.Rows.length c1]) (vs := [.int .i64 first.Qubits, .int .i64 first.Phase, .slice B first.Terms.length c, .slice B1 first.Out.Rows.length c1]) k_ag_52 k_sz_52_4 rfl rfl (hS5.cf (i := 0) rfl) rfl rfl) ?_
    obtain ⟨r_4, hc2, hF2⟩ := bind_inv hF2
    refine sc 26 rfl rfl (Yc_func (g := 77) (vs := [.agg #[.int .i64 first.Qubits, .int .i64 first.Phase, .slice B first.Terms.length c, .slice B1 first.Out.Rows.length c1]]) k_call_77 rfl (mc rfl mn) (c_spec_l13By first B c first.Terms.length B1 c1 first.Out.Rows.length _ rfl rfl (hS5.inn0 [(true, 0), (true, 1)] rfl) hc2)) ?_
    rintro _ w_6 ⟨B6, c6, rfl, hd1⟩
    have hS9 := hS5.out0 hd1
    have hS9 : ST w0 [] _ [⟨some ⟨b, 0, none⟩, 52, [.int .i64 first.Qubits, .int .i64 first.Phase, .slice B first.Terms.length c, .slice B1 first.Out.Rows.length c1], 4⟩, ⟨some ⟨b1, 0, none⟩, 52, [.int .i64 second.Qubits, .int .i64 second.Phase, .slice B2 second.Terms.length c2, .slice B3 second.Out.Rows.length c3], 4⟩, ⟨some ⟨b2, 0, none⟩, 52, [.int .i64 0, .int .i64 0, .slice none 0 0, .slice none 0 0], 4⟩, ⟨B6, 3, (r_4.flatMap encI), c6 * 1⟩] [⟨B, (first.Terms.flatMap enc_Term)⟩, ⟨B1, (first.Out.Rows.flatMap encI)⟩, ⟨B2, (second.Terms.flatMap enc_Term)⟩, ⟨B3, (second.Out.Rows.flatMap encI)⟩] := hS9
    refine sq 6 rfl rfl (Y_assign (v := .slice B6 r_4.length c6) rfl rfl) ?_
    refine rw_nil ?_
    refine cw_seq ?_
    refine cw_seq ?_
    refine cw_region ?_
    refine sq 27 rfl rfl (Y_fieldAddr (B := some ⟨b1, 0, none⟩) (i := 0) (s := 0) k_fd_52_2_2_47 k_sz_47_1 rfl rfl) ?_
    refine sq 28 rfl rfl (Y_load1 (B := some ⟨b1, 0, none⟩) (i := 2) (cs := [.int .i64 second.Qubits, .int .i64 second.Phase, .slice B2 second.Terms.length c2, .slice B3 second.Out.Rows.length c3]) (v := .slice B2 second.Terms.length c2) k_sc_47 rfl rfl (hS9.cf (i := 1) rfl) rfl) ?_
    refine sq 29 rfl rfl (Y_len (B := B2) (m := second.Terms.length) (c := c2) k_sl_47_104 rfl rfl) ?_
    refine sq 30 rfl rfl (Y_move (v := .int .i64 0) rfl rfl) ?_
    refine rw_nil ?_
    obtain ⟨hN, hF2⟩ := chk_inv hF2
    obtain ⟨z, hz, hF3⟩ := bind_inv hF2
    refine cw_block ?_
    refine cw_loop (fun k f w => ∃ (i : Nat) (by_ : List Int), FF f [(2, pt (some ⟨b, 0, none⟩) 0), (3, pt (some ⟨b1, 0, none⟩) 0), (4, pt (some ⟨b2, 0, none⟩) 0), (6, .slice B6 r_4.length c6), (28, .slice B2 second.Terms.length c2), (29, .int .i64 (second.Terms.length : Int)), (30, .int .i64 (i : Int))] ∧ by_.length = r_4.length ∧ ST w0 [] w [⟨some ⟨b, 0, none⟩, 52, [.int .i64 first.Qubits, .int .i64 first.Phase, .slice B first.Terms.length c, .slice B1 first.Out.Rows.length c1], 4⟩, ⟨some ⟨b1, 0, none⟩, 52, [.int .i64 second.Qubits, .int .i64 second.Phase, .slice B2 second.Terms.length c2, .slice B3 second.Out.Rows.length c3], 4⟩, ⟨some ⟨b2, 0, none⟩, 52, [.int .i64 0, .int .i64 0, .slice none 0 0, .slice none 0 0], 4⟩, ⟨B6, 3, (by_.flatMap encI), c6 * 1⟩] [⟨B, (first.Terms.flatMap enc_Term)⟩, ⟨B1, (first.Out.Rows.flatMap encI)⟩, ⟨B2, (second.Terms.flatMap enc_Term)⟩, ⟨B3, (second.Out.Rows.flatMap encI)⟩] ∧ i + k = second.Terms.length ∧ forN (F_spec_ComposePhase_l1 second first) k i by_ = some z) second.Terms.length ⟨0, r_4, (FF.cons rfl (FF.cons rfl (FF.cons rfl (FF.cons rfl (FF.cons rfl (FF.cons rfl (FF.cons rfl FF.nil))))))), rfl, (hS9.sel [0, 1, 2, 3] rfl rfl), Nat.zero_add _, hz⟩ ?_
    rintro k_ f w ⟨i, by_, hf, hl, hS10, hik, hL⟩
    refine cw_seq ?_
    refine cw_region ?_
    refine sq 31 rfl rfl (Y_lt (k := .i64) (a := (i : Int)) (b := (second.Terms.length : Int)) rfl (hf.get 30 6 rfl) (hf.get 29 5 rfl)) ?_
    refine rw_nil ?_
    refine cw_seq ?_
    refine cw_cond (b := (decide ((i : Int) < (second.Terms.length : Int)))) rfl (fun hlt => ?_) (fun hlt => ?_)
    · skip
      have hlt1 : i < second.Terms.length := by have h := of_decide_eq_true hlt; omega
      obtain ⟨k_1, rfl⟩ : ∃ k2, k_ = k2 + 1 := ⟨k_ - 1, by omega⟩
      obtain ⟨y, hb1, hL1⟩ := forN_go hL
      unfold F_spec_ComposePhase_l1 at hb1
      refine cw_skip ?_
      refine cw_seq ?_
      refine cw_block ?_
      refine cw_seq ?_
      refine cw_region ?_
      obtain ⟨x, hx, hb1⟩ := bind_inv hb1
      refine sq 32 rfl rfl (Y_index (B := B2) (m := second.Terms.length) (c := c2) (k := .i64) (i := (i : Int)) k_sl_47_104 k_sz_104_2 rfl (hf.get 28 4 rfl) (hf.get 30 6 rfl) (gi_isSome enc_Term_len rfl (hS10.rf (i := 2) rfl) hx) (getI_nn hx) (getI_ltI hx rfl)) ?_
      refine sq 33 rfl rfl (Y_loadA (B := B2) (i := (i : Int).toNat * 2) (cs := (second.Terms.flatMap enc_Term)) (vs := [.int .i64 x.Mask, .int .i64 x.Coef]) k_ag_104 k_sz_104_2 rfl rfl (hS10.rf (i := 2) rfl) (enc_Term_len x) (gi_seg enc_Term_len hx)) ?_
      refine ss 8 rfl rfl (Ys_alloc (T := 104) (cs := [.int .i64 0, .int .i64 0]) (m := 2) hS10 k_zero_104 rfl rfl rfl) ?_
      rintro _ w_7 ⟨b3, rfl, hS11⟩
      have hS11 : ST w0 [] _ [⟨some ⟨b, 0, none⟩, 52, [.int .i64 first.Qubits, .int .i64 first.Phase, .slice B first.Terms.length c, .slice B1 first.Out.Rows.length c1], 4⟩, ⟨some ⟨b1, 0, none⟩, 52, [.int .i64 second.Qubits, .int .i64 second.Phase, .slice B2 second.Terms.length c2, .slice B3 second.Out.Rows.length c3], 4⟩, ⟨some ⟨b2, 0, none⟩, 52, [.int .i64 0, .int .i64 0, .slice none 0 0, .slice none 0 0], 4⟩, ⟨B6, 3, (by_.flatMap encI), c6 * 1⟩, ⟨some ⟨b3, 0, none⟩, 104, [.int .i64 0, .int .i64 0], 2⟩] [⟨B, (first.Terms.flatMap enc_Term)⟩, ⟨B1, (first.Out.Rows.flatMap encI)⟩, ⟨B2, (second.Terms.flatMap enc_Term)⟩, ⟨B3, (second.Out.Rows.flatMap encI)⟩] := hS11
      refine ss0 rfl rfl (Ys_store (i := 4) (s := 2) (B := some ⟨b3, 0, none⟩) (T' := 104) (v := .agg #[.int .i64 x.Mask, .int .i64 x.Coef]) (vs := [.int .i64 x.Mask, .int .i64 x.Coef]) (k := 0) (cs' := [.int .i64 x.Mask, .int .i64 x.Coef]) hS11 k_sz_104_2 rfl rfl rfl rfl rfl rfl rfl (Nat.le_of_ble_eq_true rfl) rfl rfl) ?_
      rintro _ w_8 ⟨rfl, hS12⟩
      have hS12 : ST w0 [] _ [⟨some ⟨b, 0, none⟩, 52, [.int .i64 first.Qubits, .int .i64 first.Phase, .slice B first.Terms.length c, .slice B1 first.Out.Rows.length c1], 4⟩, ⟨some ⟨b1, 0, none⟩, 52, [.int .i64 second.Qubits, .int .i64 second.Phase, .slice B2 second.Terms.length c2, .slice B3 second.Out.Rows.length c3], 4⟩, ⟨some ⟨b2, 0, none⟩, 52, [.int .i64 0, .int .i64 0, .slice none 0 0, .slice none 0 0], 4⟩, ⟨B6, 3, (by_.flatMap encI), c6 * 1⟩, ⟨some ⟨b3, 0, none⟩, 104, [.int .i64 x.Mask, .int .i64 x.Coef], 2⟩] [⟨B, (first.Terms.flatMap enc_Term)⟩, ⟨B1, (first.Out.Rows.flatMap encI)⟩, ⟨B2, (second.Terms.flatMap enc_Term)⟩, ⟨B3, (second.Out.Rows.flatMap encI)⟩] := hS12
      refine rw_nil ?_
      obtain ⟨r_5, hc3, hb1⟩ := bind_inv hb1
      obtain ⟨x1, hx1, hb1⟩ := bind_inv hb1
      refine ra_start (ST.sel hS12 [0, 1, 2, 4] rfl rfl).fn (by kernel_rfl) ?_
      have hS14 := hS12.drew
      refine ra_q 0 34 (v := .slice B6 r_4.length c6) rfl rfl rfl (by kernel_rfl) (by kernel_rfl) (by kernel_rfl) (ST.sel hS14 [0, 1, 2, 4] rfl rfl) (fun w' hw' => (Y_move (v := .slice B6 r_4.length c6) rfl (hf.get 6 3 rfl))) ?_
      refine ra_q 1 35 (v := pt (some ⟨b, 0, none⟩) 3) rfl rfl rfl (by kernel_rfl) (by kernel_rfl) (by kernel_rfl) (ST.sel hS14 [0, 1, 2, 4] rfl rfl) (fun w' hw' => (Y_fieldAddr (B := some ⟨b, 0, none⟩) (i := 0) (s := 0) k_fd_52_3_3_50 k_sz_50_1 rfl (hf.get 2 0 rfl))) ?_
      refine ra_q 2 36 (v := .agg #[.slice B1 first.Out.Rows.length c1]) rfl rfl rfl (by kernel_rfl) (by kernel_rfl) (by kernel_rfl) (ST.sel hS14 [0, 1, 2, 4] rfl rfl) (fun w' hw' => (Y_loadA (B := some ⟨b, 0, none⟩) (i := 3) (cs := [.int .i64 first.Qubits, .int .i64 first.Phase, .slice B first.Terms.length c, .slice B1 first.Out.Rows.length c1]) (vs := [.slice B1 first.Out.Rows.length c1]) k_ag_50 k_sz_50_1 rfl rfl (ST.cf hw' (i := 0) rfl) rfl rfl)) ?_
      refine ra_q 3 37 (v := pt (some ⟨b3, 0, none⟩) 0) rfl rfl rfl (by kernel_rfl) (by kernel_rfl) (by kernel_rfl) (ST.sel hS14 [0, 1, 2, 4] rfl rfl) (fun w' hw' => (Y_fieldAddr (B := some ⟨b3, 0, none⟩) (i := 0) (s := 0) k_fd_104_0_0_3 k_sz_3_1 rfl rfl)) ?_
      refine ra_q 4 38 (v := .int .i64 x.Mask) rfl rfl rfl (by kernel_rfl) (by kernel_rfl) (by kernel_rfl) (ST.sel hS14 [0, 1, 2, 4] rfl rfl) (fun w' hw' => (Y_load1 (B := some ⟨b3, 0, none⟩) (i := 0) (cs := [.int .i64 x.Mask, .int .i64 x.Coef]) (v := .int .i64 x.Mask) k_sc_3 rfl rfl (ST.cf hw' (i := 3) rfl) rfl)) ?_
      refine ra_q 8 42 (v := pt (some ⟨b3, 0, none⟩) 1) rfl rfl rfl (by kernel_rfl) (by kernel_rfl) (by kernel_rfl) (ST.sel hS14 [0, 1, 2, 4] rfl rfl) (fun w' hw' => (Y_fieldAddr (B := some ⟨b3, 0, none⟩) (i := 0) (s := 0) k_fd_104_1_1_3 k_sz_3_1 rfl rfl)) ?_
      refine ra_q 9 43 (v := .int .i64 x.Coef) rfl rfl rfl (by kernel_rfl) (by kernel_rfl) (by kernel_rfl) (ST.sel hS14 [0, 1, 2, 4] rfl rfl) (fun w' hw' => (Y_load1 (B := some ⟨b3, 0, none⟩) (i := 1) (cs := [.int .i64 x.Mask, .int .i64 x.Coef]) (v := .int .i64 x.Coef) k_sc_3 rfl rfl (ST.cf hw' (i := 3) rfl) rfl)) ?_
      refine ra_all (rs := [5]) (by kernel_rfl) rfl ?_
      refine ra_c 39 (i := 5) rfl rfl rfl (Yc_func (g := 78) (vs := [.agg #[.slice B1 first.Out.Rows.length c1], .int .i64 x.Mask]) k_call_78 rfl (mc rfl (mc rfl mn)) (c_spec_l13Through first.Out x.Mask B1 c1 first.Out.Rows.length _ rfl (hS14.inn0 [(true, 1)] rfl) hc3)) ?_ ?_
      · rintro _ w_9 ⟨rfl, hd2⟩
        have hS15 := hS14.out00 hd2
        have hS15 : ST w0 [] _ [⟨some ⟨b, 0, none⟩, 52, [.int .i64 first.Qubits, .int .i64 first.Phase, .slice B first.Terms.length c, .slice B1 first.Out.Rows.length c1], 4⟩, ⟨some ⟨b1, 0, none⟩, 52, [.int .i64 second.Qubits, .int .i64 second.Phase, .slice B2 second.Terms.length c2, .slice B3 second.Out.Rows.length c3], 4⟩, ⟨some ⟨b2, 0, none⟩, 52, [.int .i64 0, .int .i64 0, .slice none 0 0, .slice none 0 0], 4⟩, ⟨B6, 3, (by_.flatMap encI), c6 * 1⟩, ⟨some ⟨b3, 0, none⟩, 104, [.int .i64 x.Mask, .int .i64 x.Coef], 2⟩] [⟨B, (first.Terms.flatMap enc_Term)⟩, ⟨B1, (first.Out.Rows.flatMap encI)⟩, ⟨B2, (second.Terms.flatMap enc_Term)⟩, ⟨B3, (second.Out.Rows.flatMap encI)⟩] := hS15
        refine ⟨(ST.sel hS15 [0, 1, 2, 4] rfl rfl), ?_⟩
        refine ra_all (rs := [6]) (by kernel_rfl) rfl ?_
        refine ra_y 40 (i := 6) (v := pt B6 (r_5.toNat * 1)) rfl rfl rfl (Y_index (B := B6) (m := r_4.length) (c := c6) (k := .i64) (i := r_5) k_sl_48_3 k_sz_3_1 rfl rfl rfl (gi_isSome encI_len rfl (hS15.cf (i := 3) rfl) hx1) (getI_nn hx1) (getI_ltI hx1 hl)) (ST.sel hS15 [0, 1, 2, 4] rfl rfl) ?_ ?_
        · skip
          refine ra_all (rs := [7]) (by kernel_rfl) rfl ?_
          refine ra_y 41 (i := 7) (v := .int .i64 x1) rfl rfl rfl (Y_load1 (B := B6) (i := r_5.toNat * 1) (cs := (by_.flatMap encI)) (v := .int .i64 x1) k_sc_3 rfl rfl (hS15.cf (i := 3) rfl) (gi_at0 encI_len hx1 rfl)) (ST.sel hS15 [0, 1, 2, 4] rfl rfl) ?_ ?_
          · skip
            refine ra_q 10 44 (v := .int .i64 (IntKind.i64.wrap (x1 + x.Coef))) rfl rfl rfl (by kernel_rfl) (by kernel_rfl) (by kernel_rfl) (ST.sel hS15 [0, 1, 2, 4] rfl rfl) (fun w' hw' => (Y_add (k := .i64) (a := x1) (b := x.Coef) rfl rfl rfl)) ?_
            refine ra_all (rs := [11]) (by kernel_rfl) rfl ?_
            refine ra_y 45 (i := 11) (v := pt B6 (r_5.toNat * 1)) rfl rfl rfl (Y_index (B := B6) (m := r_4.length) (c := c6) (k := .i64) (i := r_5) k_sl_48_3 k_sz_3_1 rfl rfl rfl (gi_isSome encI_len rfl (hS15.cf (i := 3) rfl) hx1) (getI_nn hx1) (getI_ltI hx1 hl)) (ST.sel hS15 [0, 1, 2, 4] rfl rfl) ?_ ?_
            · skip
              refine ra_all (rs := [12]) (by kernel_rfl) rfl ?_
              refine ra_s0 (i := 12) rfl rfl rfl (Ys_store (i := 3) (s := 1) (B := B6) (T' := 3) (v := .int .i64 (IntKind.i64.wrap (x1 + x.Coef))) (vs := [.int .i64 (IntKind.i64.wrap (x1 + x.Coef))]) (k := r_5.toNat * 1) (cs' := ((by_.set r_5.toNat (IntKind.i64.wrap (x1 + x.Coef))).flatMap encI)) hS15 k_sz_3_1 rfl rfl rfl rfl rfl rfl rfl (gi_fit0 encI_len hx1) (gi_set encI_len hx1 (IntKind.i64.wrap (x1 + x.Coef)) rfl) rfl) ?_ ?_
              · rintro _ w_10 ⟨rfl, hS16⟩
                have hS16 : ST w0 [] _ [⟨some ⟨b, 0, none⟩, 52, [.int .i64 first.Qubits, .int .i64 first.Phase, .slice B first.Terms.length c, .slice B1 first.Out.Rows.length c1], 4⟩, ⟨some ⟨b1, 0, none⟩, 52, [.int .i64 second.Qubits, .int .i64 second.Phase, .slice B2 second.Terms.length c2, .slice B3 second.Out.Rows.length c3], 4⟩, ⟨some ⟨b2, 0, none⟩, 52, [.int .i64 0, .int .i64 0, .slice none 0 0, .slice none 0 0], 4⟩, ⟨B6, 3, ((by_.set r_5.toNat (IntKind.i64.wrap (x1 + x.Coef))).flatMap encI), c6 * 1⟩, ⟨some ⟨b3, 0, none⟩, 104, [.int .i64 x.Mask, .int .i64 x.Coef], 2⟩] [⟨B, (first.Terms.flatMap enc_Term)⟩, ⟨B1, (first.Out.Rows.flatMap encI)⟩, ⟨B2, (second.Terms.flatMap enc_Term)⟩, ⟨B3, (second.Out.Rows.flatMap encI)⟩] := hS16
                refine ⟨(ST.sel hS16 [0, 1, 2, 4] rfl rfl), ?_⟩
                refine ra_done (by kernel_rfl) ?_
                refine cw_region ?_
                refine sq 46 rfl rfl (Y_add (k := .i64) (a := (i : Int)) (b := 1) rfl (hf.get 30 6 rfl) rfl) ?_
                refine sq 30 rfl rfl (Y_move (v := .int .i64 (IntKind.i64.wrap ((i : Int) + 1))) rfl rfl) ?_
                refine rw_nil ?_
                obtain rfl := some_inj hb1
                exact ⟨k_1, Nat.lt_succ_self _, i + 1, (by_.set r_5.toNat (IntKind.i64.wrap (x1 + x.Coef))), (FF.cons (hf.get 2 0 rfl) (FF.cons (hf.get 3 1 rfl) (FF.cons (hf.get 4 2 rfl) (FF.cons (hf.get 6 3 rfl) (FF.cons (hf.get 28 4 rfl) (FF.cons (hf.get 29 5 rfl) (FF.cons (congrArg (Value.int .i64) (wr_succ hlt1 hN)) FF.nil))))))), (set_len _ _ _ hl), (hS16.sel [0, 1, 2, 3] rfl rfl), (by omega), hL1⟩
              exact allR_nil
            exact allR_nil
          exact allR_nil
        exact allR_nil
      exact allR_nil
    · skip
      obtain rfl : k_ = 0 := by have h := of_decide_eq_false hlt; omega
      refine cw_exit rfl ?_
      obtain rfl := some_inj hL
      refine cw_seq ?_
      obtain ⟨r_6, hc4, hF3⟩ := bind_inv hF3
      obtain ⟨r_7, hc5, hF3⟩ := bind_inv hF3
      refine ra_start (ST.sel hS10 [0, 1, 3] rfl rfl).fn (by kernel_rfl) ?_
      have hS19 := hS10.drew
      refine ra_q 0 47 (v := pt (some ⟨b, 0, none⟩) 0) rfl rfl rfl (by kernel_rfl) (by kernel_rfl) (by kernel_rfl) (ST.sel hS19 [0, 1, 3] rfl rfl) (fun w' hw' => (Y_fieldAddr (B := some ⟨b, 0, none⟩) (i := 0) (s := 0) k_fd_52_0_0_3 k_sz_3_1 rfl (hf.get 2 0 rfl))) ?_
      refine ra_q 1 48 (v := .int .i64 first.Qubits) rfl rfl rfl (by kernel_rfl) (by kernel_rfl) (by kernel_rfl) (ST.sel hS19 [0, 1, 3] rfl rfl) (fun w' hw' => (Y_load1 (B := some ⟨b, 0, none⟩) (i := 0) (cs := [.int .i64 first.Qubits, .int .i64 first.Phase, .slice B first.Terms.length c, .slice B1 first.Out.Rows.length c1]) (v := .int .i64 first.Qubits) k_sc_3 rfl rfl (ST.cf hw' (i := 0) rfl) rfl)) ?_
      refine ra_q 2 49 (v := pt (some ⟨b, 0, none⟩) 1) rfl rfl rfl (by kernel_rfl) (by kernel_rfl) (by kernel_rfl) (ST.sel hS19 [0, 1, 3] rfl rfl) (fun w' hw' => (Y_fieldAddr (B := some ⟨b, 0, none⟩) (i := 0) (s := 0) k_fd_52_1_1_3 k_sz_3_1 rfl (hf.get 2 0 rfl))) ?_
      refine ra_q 3 50 (v := .int .i64 first.Phase) rfl rfl rfl (by kernel_rfl) (by kernel_rfl) (by kernel_rfl) (ST.sel hS19 [0, 1, 3] rfl rfl) (fun w' hw' => (Y_load1 (B := some ⟨b, 0, none⟩) (i := 1) (cs := [.int .i64 first.Qubits, .int .i64 first.Phase, .slice B first.Terms.length c, .slice B1 first.Out.Rows.length c1]) (v := .int .i64 first.Phase) k_sc_3 rfl rfl (ST.cf hw' (i := 0) rfl) rfl)) ?_
      refine ra_q 4 51 (v := pt (some ⟨b1, 0, none⟩) 1) rfl rfl rfl (by kernel_rfl) (by kernel_rfl) (by kernel_rfl) (ST.sel hS19 [0, 1, 3] rfl rfl) (fun w' hw' => (Y_fieldAddr (B := some ⟨b1, 0, none⟩) (i := 0) (s := 0) k_fd_52_1_1_3 k_sz_3_1 rfl (hf.get 3 1 rfl))) ?_
      refine ra_q 5 52 (v := .int .i64 second.Phase) rfl rfl rfl (by kernel_rfl) (by kernel_rfl) (by kernel_rfl) (ST.sel hS19 [0, 1, 3] rfl rfl) (fun w' hw' => (Y_load1 (B := some ⟨b1, 0, none⟩) (i := 1) (cs := [.int .i64 second.Qubits, .int .i64 second.Phase, .slice B2 second.Terms.length c2, .slice B3 second.Out.Rows.length c3]) (v := .int .i64 second.Phase) k_sc_3 rfl rfl (ST.cf hw' (i := 1) rfl) rfl)) ?_
      refine ra_q 6 53 (v := .int .i64 (IntKind.i64.wrap (first.Phase + second.Phase))) rfl rfl rfl (by kernel_rfl) (by kernel_rfl) (by kernel_rfl) (ST.sel hS19 [0, 1, 3] rfl rfl) (fun w' hw' => (Y_add (k := .i64) (a := first.Phase) (b := second.Phase) rfl rfl rfl)) ?_
      refine ra_q 7 54 (v := .int .i64 (Int.tmod (IntKind.i64.wrap (first.Phase + second.Phase)) 8)) rfl rfl rfl (by kernel_rfl) (by kernel_rfl) (by kernel_rfl) (ST.sel hS19 [0, 1, 3] rfl rfl) (fun w' hw' => (Y_rem (k := .i64) (a := (IntKind.i64.wrap (first.Phase + second.Phase))) (b := 8) rfl rfl rfl (by decide))) ?_
      refine ra_q 8 55 (v := .slice B6 r_4.length c6) rfl rfl rfl (by kernel_rfl) (by kernel_rfl) (by kernel_rfl) (ST.sel hS19 [0, 1, 3] rfl rfl) (fun w' hw' => (Y_move (v := .slice B6 r_4.length c6) rfl (hf.get 6 3 rfl))) ?_
      refine ra_q 10 57 (v := pt (some ⟨b, 0, none⟩) 3) rfl rfl rfl (by kernel_rfl) (by kernel_rfl) (by kernel_rfl) (ST.sel hS19 [0, 1, 3] rfl rfl) (fun w' hw' => (Y_fieldAddr (B := some ⟨b, 0, none⟩) (i := 0) (s := 0) k_fd_52_3_3_50 k_sz_50_1 rfl (hf.get 2 0 rfl))) ?_
      refine ra_q 11 58 (v := .agg #[.slice B1 first.Out.Rows.length c1]) rfl rfl rfl (by kernel_rfl) (by kernel_rfl) (by kernel_rfl) (ST.sel hS19 [0, 1, 3] rfl rfl) (fun w' hw' => (Y_loadA (B := some ⟨b, 0, none⟩) (i := 3) (cs := [.int .i64 first.Qubits, .int .i64 first.Phase, .slice B first.Terms.length c, .slice B1 first.Out.Rows.length c1]) (vs := [.slice B1 first.Out.Rows.length c1]) k_ag_50 k_sz_50_1 rfl rfl (ST.cf hw' (i := 0) rfl) rfl rfl)) ?_
      refine ra_q 12 59 (v := pt (some ⟨b1, 0, none⟩) 3) rfl rfl rfl (by kernel_rfl) (by kernel_rfl) (by kernel_rfl) (ST.sel hS19 [0, 1, 3] rfl rfl) (fun w' hw' => (Y_fieldAddr (B := some ⟨b1, 0, none⟩) (i := 0) (s := 0) k_fd_52_3_3_50 k_sz_50_1 rfl (hf.get 3 1 rfl))) ?_
      refine ra_q 13 60 (v := .agg #[.slice B3 second.Out.Rows.length c3]) rfl rfl rfl (by kernel_rfl) (by kernel_rfl) (by kernel_rfl) (ST.sel hS19 [0, 1, 3] rfl rfl) (fun w' hw' => (Y_loadA (B := some ⟨b1, 0, none⟩) (i := 3) (cs := [.int .i64 second.Qubits, .int .i64 second.Phase, .slice B2 second.Terms.length c2, .slice B3 second.Out.Rows.length c3]) (vs := [.slice B3 second.Out.Rows.length c3]) k_ag_50 k_sz_50_1 rfl rfl (ST.cf hw' (i := 1) rfl) rfl rfl)) ?_
      refine ra_all (rs := [9]) (by kernel_rfl) rfl ?_
      refine ra_c 56 (i := 9) rfl rfl rfl (Yc_func (g := 79) (vs := [.slice B6 r_4.length c6]) k_call_79 rfl (mc rfl mn) (c_spec_l13List by_ B6 c6 r_4.length _ hl (hS19.inn0 [(false, 3)] rfl) hc4)) ?_ ?_
      · rintro _ w_11 ⟨B7, c7, rfl, hd3⟩
        have hS20 := hS19.out0 hd3
        have hS20 : ST w0 [] _ [⟨some ⟨b, 0, none⟩, 52, [.int .i64 first.Qubits, .int .i64 first.Phase, .slice B first.Terms.length c, .slice B1 first.Out.Rows.length c1], 4⟩, ⟨some ⟨b1, 0, none⟩, 52, [.int .i64 second.Qubits, .int .i64 second.Phase, .slice B2 second.Terms.length c2, .slice B3 second.Out.Rows.length c3], 4⟩, ⟨some ⟨b2, 0, none⟩, 52, [.int .i64 0, .int .i64 0, .slice none 0 0, .slice none 0 0], 4⟩, ⟨B6, 3, (by_.flatMap encI), c6 * 1⟩, ⟨B7, 104, (r_6.flatMap enc_Term), c7 * 2⟩] [⟨B, (first.Terms.flatMap enc_Term)⟩, ⟨B1, (first.Out.Rows.flatMap encI)⟩, ⟨B2, (second.Terms.flatMap enc_Term)⟩, ⟨B3, (second.Out.Rows.flatMap encI)⟩] := hS20
        refine ⟨(ST.sel hS20 [0, 1, 3] rfl rfl), ?_⟩
        refine ra_all (rs := [14]) (by kernel_rfl) rfl ?_
        refine ra_c 61 (i := 14) rfl rfl rfl (Yc_func (g := 80) (vs := [.agg #[.slice B1 first.Out.Rows.length c1], .agg #[.slice B3 second.Out.Rows.length c3]]) k_call_80 rfl (mc rfl (mc rfl mn)) (c_spec_l12Then first.Out second.Out B1 c1 first.Out.Rows.length B3 c3 second.Out.Rows.length _ rfl rfl (hS20.inn0 [(true, 1), (true, 3)] rfl) hc5)) ?_ ?_
        · rintro _ w_12 ⟨B8, c8, rfl, hd4⟩
          have hS21 := hS20.out0 hd4
          have hS21 : ST w0 [] _ [⟨some ⟨b, 0, none⟩, 52, [.int .i64 first.Qubits, .int .i64 first.Phase, .slice B first.Terms.length c, .slice B1 first.Out.Rows.length c1], 4⟩, ⟨some ⟨b1, 0, none⟩, 52, [.int .i64 second.Qubits, .int .i64 second.Phase, .slice B2 second.Terms.length c2, .slice B3 second.Out.Rows.length c3], 4⟩, ⟨some ⟨b2, 0, none⟩, 52, [.int .i64 0, .int .i64 0, .slice none 0 0, .slice none 0 0], 4⟩, ⟨B6, 3, (by_.flatMap encI), c6 * 1⟩, ⟨B7, 104, (r_6.flatMap enc_Term), c7 * 2⟩, ⟨B8, 3, (r_7.Rows.flatMap encI), c8 * 1⟩] [⟨B, (first.Terms.flatMap enc_Term)⟩, ⟨B1, (first.Out.Rows.flatMap encI)⟩, ⟨B2, (second.Terms.flatMap enc_Term)⟩, ⟨B3, (second.Out.Rows.flatMap encI)⟩] := hS21
          refine ⟨(ST.sel hS21 [0, 1, 3] rfl rfl), ?_⟩
          refine ra_q 15 62 (v := .agg #[.int .i64 first.Qubits, .int .i64 (Int.tmod (IntKind.i64.wrap (first.Phase + second.Phase)) 8), .slice B7 r_6.length c7, .slice B8 r_7.Rows.length c8]) rfl rfl rfl (by kernel_rfl) (by kernel_rfl) (by kernel_rfl) (ST.sel hS21 [0, 1, 3] rfl rfl) (fun w' hw' => (Y_buildS (zs := [.int .i64 0, .int .i64 0, .slice none 0 0, .slice none 0 0]) (vs := [(0, .int .i64 first.Qubits), (1, .int .i64 (Int.tmod (IntKind.i64.wrap (first.Phase + second.Phase)) 8)), (2, .slice B7 r_6.length c7), (3, .agg #[.slice B8 r_7.Rows.length c8])]) (cs := [.int .i64 first.Qubits, .int .i64 (Int.tmod (IntKind.i64.wrap (first.Phase + second.Phase)) 8), .slice B7 r_6.length c7, .slice B8 r_7.Rows.length c8]) k_pl_52 k_zero_52 rfl (mpc rfl (mpc rfl (mpc rfl (mpc rfl mpn)))) rfl)) ?_
          refine ra_all (rs := [16]) (by kernel_rfl) rfl ?_
          refine ra_s0 (i := 16) rfl rfl rfl (Ys_store (i := 2) (s := 4) (B := some ⟨b2, 0, none⟩) (T' := 52) (v := .agg #[.int .i64 first.Qubits, .int .i64 (Int.tmod (IntKind.i64.wrap (first.Phase + second.Phase)) 8), .slice B7 r_6.length c7, .slice B8 r_7.Rows.length c8]) (vs := [.int .i64 first.Qubits, .int .i64 (Int.tmod (IntKind.i64.wrap (first.Phase + second.Phase)) 8), .slice B7 r_6.length c7, .slice B8 r_7.Rows.length c8]) (k := 0) (cs' := [.int .i64 first.Qubits, .int .i64 (Int.tmod (IntKind.i64.wrap (first.Phase + second.Phase)) 8), .slice B7 r_6.length c7, .slice B8 r_7.Rows.length c8]) hS21 k_sz_52_4 rfl (hf.get 4 2 rfl) rfl rfl rfl rfl rfl (Nat.le_of_ble_eq_true rfl) rfl rfl) ?_ ?_
          · rintro _ w_13 ⟨rfl, hS22⟩
            have hS22 : ST w0 [] _ [⟨some ⟨b, 0, none⟩, 52, [.int .i64 first.Qubits, .int .i64 first.Phase, .slice B first.Terms.length c, .slice B1 first.Out.Rows.length c1], 4⟩, ⟨some ⟨b1, 0, none⟩, 52, [.int .i64 second.Qubits, .int .i64 second.Phase, .slice B2 second.Terms.length c2, .slice B3 second.Out.Rows.length c3], 4⟩, ⟨some ⟨b2, 0, none⟩, 52, [.int .i64 first.Qubits, .int .i64 (Int.tmod (IntKind.i64.wrap (first.Phase + second.Phase)) 8), .slice B7 r_6.length c7, .slice B8 r_7.Rows.length c8], 4⟩, ⟨B6, 3, (by_.flatMap encI), c6 * 1⟩, ⟨B7, 104, (r_6.flatMap enc_Term), c7 * 2⟩, ⟨B8, 3, (r_7.Rows.flatMap encI), c8 * 1⟩] [⟨B, (first.Terms.flatMap enc_Term)⟩, ⟨B1, (first.Out.Rows.flatMap encI)⟩, ⟨B2, (second.Terms.flatMap enc_Term)⟩, ⟨B3, (second.Out.Rows.flatMap encI)⟩] := hS22
            refine ⟨(ST.sel hS22 [0, 1, 3] rfl rfl), ?_⟩
            refine ra_q 17 5 (v := .bool true) rfl rfl rfl (by kernel_rfl) (by kernel_rfl) (by kernel_rfl) (ST.sel hS22 [0, 1, 3] rfl rfl) (fun w' hw' => (Y_assign (v := .bool true) rfl rfl)) ?_
            refine ra_done (by kernel_rfl) ?_
            refine cw_ret ?_
            obtain ⟨rfl, rfl⟩ := pr2 (some_inj hF3)
            exact ret2 Try.results25 (v1 := .agg #[.int .i64 first.Qubits, .int .i64 (Int.tmod (IntKind.i64.wrap (first.Phase + second.Phase)) 8), .slice B7 r_6.length c7, .slice B8 r_7.Rows.length c8]) (resAt_cellA (B := some ⟨b2, 0, none⟩) (i := 0) (cs := [.int .i64 first.Qubits, .int .i64 (Int.tmod (IntKind.i64.wrap (first.Phase + second.Phase)) 8), .slice B7 r_6.length c7, .slice B8 r_7.Rows.length c8]) (vs := [.int .i64 first.Qubits, .int .i64 (Int.tmod (IntKind.i64.wrap (first.Phase + second.Phase)) 8), .slice B7 r_6.length c7, .slice B8 r_7.Rows.length c8]) (hf.get 4 2 rfl) k_ag_52 k_sz_52_4 (hS22.cf (i := 2) rfl) rfl rfl) (v2 := .bool true) (resAt_tmp rfl) ⟨B7, c7, B8, c8, rfl, (ST.subR (R' := []) (hS22.sel [4, 5] rfl rfl) (fun _ h => by cases h))⟩
          exact allR_nil
        exact allR_nil
      exact allR_nil

theorem c_laws_qInts (a : List Int) (b : List Int) (B : Option Addr) (c n : Nat) (B1 : Option Addr) (c1 n1 : Nat) (w0 : World) (hn : a.length = n) (hn1 : b.length = n1) (hS : ST w0 [] w0 [] [⟨B, (a.flatMap encI)⟩, ⟨B1, (b.flatMap encI)⟩]) {r_ : Bool} (hF : F_laws_qInts a b = some r_) :
    CV Try.prog 29 #[.slice B n c, .slice B1 n1 c1] w0 (fun v w' => v = .bool r_ ∧ ST w0 [] w' [] []) := by
  subst hn
  subst hn1
  unfold F_laws_qInts at hF
  refine cv_of_cw 26 Try.func29 rfl Try.ntmps29 rfl ?_
  refine cw_seq ?_
  refine cw_region ?_
  refine sq 4 rfl rfl (Y_assign (v := .bool false) rfl rfl) ?_
  refine rw_nil ?_
  refine cw_seq ?_
  refine cw_seq ?_
  refine cw_region ?_
  refine sq 6 rfl rfl (Y_move (v := .slice B a.length c) rfl rfl) ?_
  refine sq 7 rfl rfl (Y_len (B := B) (m := a.length) (c := c) k_sl_48_3 rfl rfl) ?_
  refine sq 8 rfl rfl (Y_move (v := .slice B1 b.length c1) rfl rfl) ?_
  refine sq 9 rfl rfl (Y_len (B := B1) (m := b.length) (c := c1) k_sl_48_3 rfl rfl) ?_
  refine sq 10 rfl rfl (Y_ne (k := .i64) (a := (a.length : Int)) (b := (b.length : Int)) rfl rfl rfl) ?_
  refine rw_nil ?_
  refine cw_cond (b := ((a.length : Int) != (b.length : Int))) rfl (fun hb => ?_) (fun hb => ?_)
  · skip
    have hF1 := ct hF hb
    refine cw_seq ?_
    refine cw_region ?_
    refine sq 4 rfl rfl (Y_assign (v := .bool false) rfl rfl) ?_
    refine rw_nil ?_
    refine cw_ret ?_
    obtain rfl := some_inj hF1
    exact ret1 Try.results29 (v1 := .bool false) (resAt_tmp rfl) ⟨rfl, (ST.subR (R' := []) (hS.sel [] rfl rfl) (fun _ h => by cases h))⟩
  · skip
    have hF2 := cf' hF hb
    refine cw_skip ?_
    refine cw_seq ?_
    refine cw_seq ?_
    refine cw_region ?_
    refine sq 11 rfl rfl (Y_move (v := .slice B a.length c) rfl rfl) ?_
    refine sq 12 rfl rfl (Y_len (B := B) (m := a.length) (c := c) k_sl_48_3 rfl rfl) ?_
    refine sq 13 rfl rfl (Y_move (v := .int .i64 0) rfl rfl) ?_
    refine rw_nil ?_
    obtain ⟨hN, hF2⟩ := chk_inv hF2
    obtain ⟨z, hz, hF3⟩ := bind_inv hF2
    refine cw_block ?_
    refine cw_loop (fun k f w => ∃ (i : Nat), FF f [(0, .slice B a.length c), (1, .slice B1 b.length c1), (12, .int .i64 (a.length : Int)), (13, .int .i64 (i : Int))] ∧ ST w0 [] w [] [⟨B, (a.flatMap encI)⟩, ⟨B1, (b.flatMap encI)⟩] ∧ i + k = a.length ∧ forX (F_laws_qInts_l1 a b) k i () = some z) a.length ⟨0, (FF.cons rfl (FF.cons rfl (FF.cons rfl (FF.cons rfl FF.nil)))), (hS.sel [] rfl rfl), Nat.zero_add _, hz⟩ ?_
    rintro k_ f w ⟨i, hf, hS1, hik, hL⟩
    refine cw_seq ?_
    refine cw_region ?_
    refine sq 14 rfl rfl (Y_lt (k := .i64) (a := (i : Int)) (b := (a.length : Int)) rfl (hf.get 13 3 rfl) (hf.get 12 2 rfl)) ?_
    refine rw_nil ?_
    refine cw_seq ?_
    refine cw_cond (b := (decide ((i : Int) < (a.length : Int)))) rfl (fun hlt => ?_) (fun hlt => ?_)
    · skip
      have hlt1 : i < a.length := by have h := of_decide_eq_true hlt; omega
      obtain ⟨k_1, rfl⟩ : ∃ k2, k_ = k2 + 1 := ⟨k_ - 1, by omega⟩
      obtain ⟨y, hb1, hL1⟩ := forX_go hL
      unfold F_laws_qInts_l1 at hb1
      refine cw_skip ?_
      refine cw_seq ?_
      refine cw_block ?_
      refine cw_seq ?_
      refine cw_region ?_
      refine sq 15 rfl rfl (Y_move (v := .int .i64 (i : Int)) rfl (hf.get 13 3 rfl)) ?_
      refine sq 5 rfl rfl (Y_assign (v := .int .i64 (i : Int)) rfl rfl) ?_
      refine rw_nil ?_
      refine cw_seq ?_
      obtain ⟨x, hx, hb1⟩ := bind_inv hb1
      obtain ⟨x1, hx1, hb1⟩ := bind_inv hb1
      refine ra_start (ST.sel hS1 [] rfl rfl).fn (by kernel_rfl) ?_
      have hS2 := hS1.drew
      refine ra_q 0 16 (v := .slice B a.length c) rfl rfl rfl (by kernel_rfl) (by kernel_rfl) (by kernel_rfl) (ST.sel hS2 [] rfl rfl) (fun w' hw' => (Y_move (v := .slice B a.length c) rfl (hf.get 0 0 rfl))) ?_
      refine ra_q 1 17 (v := .int .i64 (i : Int)) rfl rfl rfl (by kernel_rfl) (by kernel_rfl) (by kernel_rfl) (ST.sel hS2 [] rfl rfl) (fun w' hw' => (Y_move (v := .int .i64 (i : Int)) rfl rfl)) ?_
      refine ra_q 2 18 (v := pt B ((i : Int).toNat * 1)) rfl rfl rfl (by kernel_rfl) (by kernel_rfl) (by kernel_rfl) (ST.sel hS2 [] rfl rfl) (fun w' hw' => (Y_index (B := B) (m := a.length) (c := c) (k := .i64) (i := (i : Int)) k_sl_48_3 k_sz_3_1 rfl rfl rfl (gi_isSome encI_len rfl (ST.rf hw' (i := 0) rfl) hx) (getI_nn hx) (getI_ltI hx rfl))) ?_
      refine ra_q 3 19 (v := .int .i64 x) rfl rfl rfl (by kernel_rfl) (by kernel_rfl) (by kernel_rfl) (ST.sel hS2 [] rfl rfl) (fun w' hw' => (Y_load1 (B := B) (i := (i : Int).toNat * 1) (cs := (a.flatMap encI)) (v := .int .i64 x) k_sc_3 rfl rfl (ST.rf hw' (i := 0) rfl) (gi_at0 encI_len hx rfl))) ?_
      refine ra_q 4 20 (v := .slice B1 b.length c1) rfl rfl rfl (by kernel_rfl) (by kernel_rfl) (by kernel_rfl) (ST.sel hS2 [] rfl rfl) (fun w' hw' => (Y_move (v := .slice B1 b.length c1) rfl (hf.get 1 1 rfl))) ?_
      refine ra_q 5 21 (v := .int .i64 (i : Int)) rfl rfl rfl (by kernel_rfl) (by kernel_rfl) (by kernel_rfl) (ST.sel hS2 [] rfl rfl) (fun w' hw' => (Y_move (v := .int .i64 (i : Int)) rfl rfl)) ?_
      refine ra_q 6 22 (v := pt B1 ((i : Int).toNat * 1)) rfl rfl rfl (by kernel_rfl) (by kernel_rfl) (by kernel_rfl) (ST.sel hS2 [] rfl rfl) (fun w' hw' => (Y_index (B := B1) (m := b.length) (c := c1) (k := .i64) (i := (i : Int)) k_sl_48_3 k_sz_3_1 rfl rfl rfl (gi_isSome encI_len rfl (ST.rf hw' (i := 1) rfl) hx1) (getI_nn hx1) (getI_ltI hx1 rfl))) ?_
      refine ra_q 7 23 (v := .int .i64 x1) rfl rfl rfl (by kernel_rfl) (by kernel_rfl) (by kernel_rfl) (ST.sel hS2 [] rfl rfl) (fun w' hw' => (Y_load1 (B := B1) (i := (i : Int).toNat * 1) (cs := (b.flatMap encI)) (v := .int .i64 x1) k_sc_3 rfl rfl (ST.rf hw' (i := 1) rfl) (gi_at0 encI_len hx1 rfl))) ?_
      refine ra_q 8 24 (v := .bool (x != x1)) rfl rfl rfl (by kernel_rfl) (by kernel_rfl) (by kernel_rfl) (ST.sel hS2 [] rfl rfl) (fun w' hw' => (Y_ne (k := .i64) (a := x) (b := x1) rfl rfl rfl)) ?_
      refine ra_done (by kernel_rfl) ?_
      refine cw_cond (b := (x != x1)) rfl (fun hb2 => ?_) (fun hb2 => ?_)
      · skip
        have hF4 := ct hb1 hb2
        refine cw_seq ?_
        refine cw_region ?_
        refine sq 4 rfl rfl (Y_assign (v := .bool false) rfl rfl) ?_
        refine rw_nil ?_
        refine cw_ret ?_
        obtain rfl := some_inj hF4
        obtain rfl := some_inj hL1
        obtain rfl := some_inj hF3
        exact ret1 Try.results29 (v1 := .bool false) (resAt_tmp rfl) ⟨rfl, (ST.subR (R' := []) (hS2.sel [] rfl rfl) (fun _ h => by cases h))⟩
      · skip
        have hF5 := cf' hb1 hb2
        refine cw_skip ?_
        refine cw_region ?_
        refine sq 25 rfl rfl (Y_add (k := .i64) (a := (i : Int)) (b := 1) rfl (hf.get 13 3 rfl) rfl) ?_
        refine sq 13 rfl rfl (Y_move (v := .int .i64 (IntKind.i64.wrap ((i : Int) + 1))) rfl rfl) ?_
        refine rw_nil ?_
        obtain rfl := some_inj hF5
        exact ⟨k_1, Nat.lt_succ_self _, i + 1, (FF.cons (hf.get 0 0 rfl) (FF.cons (hf.get 1 1 rfl) (FF.cons (hf.get 12 2 rfl) (FF.cons (congrArg (Value.int .i64) (wr_succ hlt1 hN)) FF.nil)))), (hS2.sel [] rfl rfl), (by omega), hL1⟩
    · skip
      obtain rfl : k_ = 0 := by have h := of_decide_eq_false hlt; omega
      refine cw_exit rfl ?_
      obtain rfl := some_inj hL
      refine cw_seq ?_
      refine cw_region ?_
      refine sq 4 rfl rfl (Y_assign (v := .bool true) rfl rfl) ?_
      refine rw_nil ?_
      refine cw_ret ?_
      obtain rfl := some_inj hF3
      exact ret1 Try.results29 (v1 := .bool true) (resAt_tmp rfl) ⟨rfl, (ST.subR (R' := []) (hS1.sel [] rfl rfl) (fun _ h => by cases h))⟩

theorem c_laws_qTerms (a : List TTerm) (b : List TTerm) (B : Option Addr) (c n : Nat) (B1 : Option Addr) (c1 n1 : Nat) (w0 : World) (hn : a.length = n) (hn1 : b.length = n1) (hS : ST w0 [] w0 [] [⟨B, (a.flatMap enc_Term)⟩, ⟨B1, (b.flatMap enc_Term)⟩]) {r_ : Bool} (hF : F_laws_qTerms a b = some r_) :
    CV Try.prog 39 #[.slice B n c, .slice B1 n1 c1] w0 (fun v w' => v = .bool r_ ∧ ST w0 [] w' [] []) := by
  subst hn
  subst hn1
  unfold F_laws_qTerms at hF
  refine cv_of_cw 26 Try.func39 rfl Try.ntmps39 rfl ?_
  refine cw_seq ?_
  refine cw_region ?_
  refine sq 4 rfl rfl (Y_assign (v := .bool false) rfl rfl) ?_
  refine rw_nil ?_
  refine cw_seq ?_
  refine cw_seq ?_
  refine cw_region ?_
  refine sq 6 rfl rfl (Y_move (v := .slice B a.length c) rfl rfl) ?_
  refine sq 7 rfl rfl (Y_len (B := B) (m := a.length) (c := c) k_sl_47_104 rfl rfl) ?_
  refine sq 8 rfl rfl (Y_move (v := .slice B1 b.length c1) rfl rfl) ?_
  refine sq 9 rfl rfl (Y_len (B := B1) (m := b.length) (c := c1) k_sl_47_104 rfl rfl) ?_
  refine sq 10 rfl rfl (Y_ne (k := .i64) (a := (a.length : Int)) (b := (b.length : Int)) rfl rfl rfl) ?_
  refine rw_nil ?_
  refine cw_cond (b := ((a.length : Int) != (b.length : Int))) rfl (fun hb => ?_) (fun hb => ?_)
  · skip
    have hF1 := ct hF hb
    refine cw_seq ?_
    refine cw_region ?_
    refine sq 4 rfl rfl (Y_assign (v := .bool false) rfl rfl) ?_
    refine rw_nil ?_
    refine cw_ret ?_
    obtain rfl := some_inj hF1
    exact ret1 Try.results39 (v1 := .bool false) (resAt_tmp rfl) ⟨rfl, (ST.subR (R' := []) (hS.sel [] rfl rfl) (fun _ h => by cases h))⟩
  · skip
    have hF2 := cf' hF hb
    refine cw_skip ?_
    refine cw_seq ?_
    refine cw_seq ?_
    refine cw_region ?_
    refine sq 11 rfl rfl (Y_move (v := .slice B a.length c) rfl rfl) ?_
    refine sq 12 rfl rfl (Y_len (B := B) (m := a.length) (c := c) k_sl_47_104 rfl rfl) ?_
    refine sq 13 rfl rfl (Y_move (v := .int .i64 0) rfl rfl) ?_
    refine rw_nil ?_
    obtain ⟨hN, hF2⟩ := chk_inv hF2
    obtain ⟨z, hz, hF3⟩ := bind_inv hF2
    refine cw_block ?_
    refine cw_loop (fun k f w => ∃ (i : Nat), FF f [(0, .slice B a.length c), (1, .slice B1 b.length c1), (12, .int .i64 (a.length : Int)), (13, .int .i64 (i : Int))] ∧ ST w0 [] w [] [⟨B, (a.flatMap enc_Term)⟩, ⟨B1, (b.flatMap enc_Term)⟩] ∧ i + k = a.length ∧ forX (F_laws_qTerms_l1 a b) k i () = some z) a.length ⟨0, (FF.cons rfl (FF.cons rfl (FF.cons rfl (FF.cons rfl FF.nil)))), (hS.sel [] rfl rfl), Nat.zero_add _, hz⟩ ?_
    rintro k_ f w ⟨i, hf, hS1, hik, hL⟩
    refine cw_seq ?_
    refine cw_region ?_
    refine sq 14 rfl rfl (Y_lt (k := .i64) (a := (i : Int)) (b := (a.length : Int)) rfl (hf.get 13 3 rfl) (hf.get 12 2 rfl)) ?_
    refine rw_nil ?_
    refine cw_seq ?_
    refine cw_cond (b := (decide ((i : Int) < (a.length : Int)))) rfl (fun hlt => ?_) (fun hlt => ?_)
    · skip
      have hlt1 : i < a.length := by have h := of_decide_eq_true hlt; omega
      obtain ⟨k_1, rfl⟩ : ∃ k2, k_ = k2 + 1 := ⟨k_ - 1, by omega⟩
      obtain ⟨y, hb1, hL1⟩ := forX_go hL
      unfold F_laws_qTerms_l1 at hb1
      refine cw_skip ?_
      refine cw_seq ?_
      refine cw_block ?_
      refine cw_seq ?_
      refine cw_region ?_
      refine sq 15 rfl rfl (Y_move (v := .int .i64 (i : Int)) rfl (hf.get 13 3 rfl)) ?_
      refine sq 5 rfl rfl (Y_assign (v := .int .i64 (i : Int)) rfl rfl) ?_
      refine rw_nil ?_
      refine cw_seq ?_
      obtain ⟨x, hx, hb1⟩ := bind_inv hb1
      obtain ⟨x1, hx1, hb1⟩ := bind_inv hb1
      refine ra_start (ST.sel hS1 [] rfl rfl).fn (by kernel_rfl) ?_
      have hS2 := hS1.drew
      refine ra_q 0 16 (v := .slice B a.length c) rfl rfl rfl (by kernel_rfl) (by kernel_rfl) (by kernel_rfl) (ST.sel hS2 [] rfl rfl) (fun w' hw' => (Y_move (v := .slice B a.length c) rfl (hf.get 0 0 rfl))) ?_
      refine ra_q 1 17 (v := .int .i64 (i : Int)) rfl rfl rfl (by kernel_rfl) (by kernel_rfl) (by kernel_rfl) (ST.sel hS2 [] rfl rfl) (fun w' hw' => (Y_move (v := .int .i64 (i : Int)) rfl rfl)) ?_
      refine ra_q 2 18 (v := pt B ((i : Int).toNat * 2)) rfl rfl rfl (by kernel_rfl) (by kernel_rfl) (by kernel_rfl) (ST.sel hS2 [] rfl rfl) (fun w' hw' => (Y_index (B := B) (m := a.length) (c := c) (k := .i64) (i := (i : Int)) k_sl_47_104 k_sz_104_2 rfl rfl rfl (gi_isSome enc_Term_len rfl (ST.rf hw' (i := 0) rfl) hx) (getI_nn hx) (getI_ltI hx rfl))) ?_
      refine ra_q 3 19 (v := .agg #[.int .i64 x.Mask, .int .i64 x.Coef]) rfl rfl rfl (by kernel_rfl) (by kernel_rfl) (by kernel_rfl) (ST.sel hS2 [] rfl rfl) (fun w' hw' => (Y_loadA (B := B) (i := (i : Int).toNat * 2) (cs := (a.flatMap enc_Term)) (vs := [.int .i64 x.Mask, .int .i64 x.Coef]) k_ag_104 k_sz_104_2 rfl rfl (ST.rf hw' (i := 0) rfl) (enc_Term_len x) (gi_seg enc_Term_len hx))) ?_
      refine ra_q 4 20 (v := .slice B1 b.length c1) rfl rfl rfl (by kernel_rfl) (by kernel_rfl) (by kernel_rfl) (ST.sel hS2 [] rfl rfl) (fun w' hw' => (Y_move (v := .slice B1 b.length c1) rfl (hf.get 1 1 rfl))) ?_
      refine ra_q 5 21 (v := .int .i64 (i : Int)) rfl rfl rfl (by kernel_rfl) (by kernel_rfl) (by kernel_rfl) (ST.sel hS2 [] rfl rfl) (fun w' hw' => (Y_move (v := .int .i64 (i : Int)) rfl rfl)) ?_
      refine ra_q 6 22 (v := pt B1 ((i : Int).toNat * 2)) rfl rfl rfl (by kernel_rfl) (by kernel_rfl) (by kernel_rfl) (ST.sel hS2 [] rfl rfl) (fun w' hw' => (Y_index (B := B1) (m := b.length) (c := c1) (k := .i64) (i := (i : Int)) k_sl_47_104 k_sz_104_2 rfl rfl rfl (gi_isSome enc_Term_len rfl (ST.rf hw' (i := 1) rfl) hx1) (getI_nn hx1) (getI_ltI hx1 rfl))) ?_
      refine ra_q 7 23 (v := .agg #[.int .i64 x1.Mask, .int .i64 x1.Coef]) rfl rfl rfl (by kernel_rfl) (by kernel_rfl) (by kernel_rfl) (ST.sel hS2 [] rfl rfl) (fun w' hw' => (Y_loadA (B := B1) (i := (i : Int).toNat * 2) (cs := (b.flatMap enc_Term)) (vs := [.int .i64 x1.Mask, .int .i64 x1.Coef]) k_ag_104 k_sz_104_2 rfl rfl (ST.rf hw' (i := 1) rfl) (enc_Term_len x1) (gi_seg enc_Term_len hx1))) ?_
      refine ra_q 8 24 (v := .bool (!((x.Mask == x1.Mask) && ((x.Coef == x1.Coef) && true)))) rfl rfl rfl (by kernel_rfl) (by kernel_rfl) (by kernel_rfl) (ST.sel hS2 [] rfl rfl) (fun w' hw' => (Y_neA (xs := #[.int .i64 x.Mask, .int .i64 x.Coef]) (ys := #[.int .i64 x1.Mask, .int .i64 x1.Coef]) (b := ((x.Mask == x1.Mask) && ((x.Coef == x1.Coef) && true))) k_eg_104 rfl rfl rfl (eqr_struct (xs := [.int .i64 x.Mask, .int .i64 x.Coef]) (ys := [.int .i64 x1.Mask, .int .i64 x1.Coef]) k_st_104 k_ho_104 (pts_sc k_sc_3 rfl rfl (eqr_int k_int_3_i64) (pts_sc k_sc_3 rfl rfl (eqr_int k_int_3_i64) pts_nil))))) ?_
      refine ra_done (by kernel_rfl) ?_
      refine cw_cond (b := (!((x.Mask == x1.Mask) && ((x.Coef == x1.Coef) && true)))) rfl (fun hb2 => ?_) (fun hb2 => ?_)
      · skip
        have hF4 := ct hb1 hb2
        refine cw_seq ?_
        refine cw_region ?_
        refine sq 4 rfl rfl (Y_assign (v := .bool false) rfl rfl) ?_
        refine rw_nil ?_
        refine cw_ret ?_
        obtain rfl := some_inj hF4
        obtain rfl := some_inj hL1
        obtain rfl := some_inj hF3
        exact ret1 Try.results39 (v1 := .bool false) (resAt_tmp rfl) ⟨rfl, (ST.subR (R' := []) (hS2.sel [] rfl rfl) (fun _ h => by cases h))⟩
      · skip
        have hF5 := cf' hb1 hb2
        refine cw_skip ?_
        refine cw_region ?_
        refine sq 25 rfl rfl (Y_add (k := .i64) (a := (i : Int)) (b := 1) rfl (hf.get 13 3 rfl) rfl) ?_
        refine sq 13 rfl rfl (Y_move (v := .int .i64 (IntKind.i64.wrap ((i : Int) + 1))) rfl rfl) ?_
        refine rw_nil ?_
        obtain rfl := some_inj hF5
        exact ⟨k_1, Nat.lt_succ_self _, i + 1, (FF.cons (hf.get 0 0 rfl) (FF.cons (hf.get 1 1 rfl) (FF.cons (hf.get 12 2 rfl) (FF.cons (congrArg (Value.int .i64) (wr_succ hlt1 hN)) FF.nil)))), (hS2.sel [] rfl rfl), (by omega), hL1⟩
    · skip
      obtain rfl : k_ = 0 := by have h := of_decide_eq_false hlt; omega
      refine cw_exit rfl ?_
      obtain rfl := some_inj hL
      refine cw_seq ?_
      refine cw_region ?_
      refine sq 4 rfl rfl (Y_assign (v := .bool true) rfl rfl) ?_
      refine rw_nil ?_
      refine cw_ret ?_
      obtain rfl := some_inj hF3
      exact ret1 Try.results39 (v1 := .bool true) (resAt_tmp rfl) ⟨rfl, (ST.subR (R' := []) (hS1.sel [] rfl rfl) (fun _ h => by cases h))⟩

theorem c_laws_qPoly (p : TPhasePoly) (q : TPhasePoly) (B : Option Addr) (c n : Nat) (B1 : Option Addr) (c1 n1 : Nat) (B2 : Option Addr) (c2 n2 : Nat) (B3 : Option Addr) (c3 n3 : Nat) (w0 : World) (hn : p.Terms.length = n) (hn1 : p.Out.Rows.length = n1) (hn2 : q.Terms.length = n2) (hn3 : q.Out.Rows.length = n3) (hS : ST w0 [] w0 [] [⟨B, (p.Terms.flatMap enc_Term)⟩, ⟨B1, (p.Out.Rows.flatMap encI)⟩, ⟨B2, (q.Terms.flatMap enc_Term)⟩, ⟨B3, (q.Out.Rows.flatMap encI)⟩]) {r_ : Bool} (hF : F_laws_qPoly p q = some r_) :
    CV Try.prog 26 #[.agg #[.int .i64 p.Qubits, .int .i64 p.Phase, .slice B n c, .slice B1 n1 c1], .agg #[.int .i64 q.Qubits, .int .i64 q.Phase, .slice B2 n2 c2, .slice B3 n3 c3]] w0 (fun v w' => v = .bool r_ ∧ ST w0 [] w' [] []) := by
  subst hn
  subst hn1
  subst hn2
  subst hn3
  unfold F_laws_qPoly at hF
  refine cv_of_cw 33 Try.func26 rfl Try.ntmps26 rfl ?_
  refine cw_seq ?_
  refine cw_region ?_
  refine ss 2 rfl rfl (Ys_box (T := 52) (v := .agg #[.int .i64 p.Qubits, .int .i64 p.Phase, .slice B p.Terms.length c, .slice B1 p.Out.Rows.length c1]) (cs := [.int .i64 p.Qubits, .int .i64 p.Phase, .slice B p.Terms.length c, .slice B1 p.Out.Rows.length c1]) (m := 4) hS rfl rfl rfl rfl) ?_
  rintro _ w_ ⟨b, rfl, hS1⟩
  refine ss 3 rfl rfl (Ys_box (T := 52) (v := .agg #[.int .i64 q.Qubits, .int .i64 q.Phase, .slice B2 q.Terms.length c2, .slice B3 q.Out.Rows.length c3]) (cs := [.int .i64 q.Qubits, .int .i64 q.Phase, .slice B2 q.Terms.length c2, .slice B3 q.Out.Rows.length c3]) (m := 4) hS1 rfl rfl rfl rfl) ?_
  rintro _ w_1 ⟨b1, rfl, hS2⟩
  have hS2 : ST w0 [] _ [⟨some ⟨b, 0, none⟩, 52, [.int .i64 p.Qubits, .int .i64 p.Phase, .slice B p.Terms.length c, .slice B1 p.Out.Rows.length c1], 4⟩, ⟨some ⟨b1, 0, none⟩, 52, [.int .i64 q.Qubits, .int .i64 q.Phase, .slice B2 q.Terms.length c2, .slice B3 q.Out.Rows.length c3], 4⟩] [⟨B, (p.Terms.flatMap enc_Term)⟩, ⟨B1, (p.Out.Rows.flatMap encI)⟩, ⟨B2, (q.Terms.flatMap enc_Term)⟩, ⟨B3, (q.Out.Rows.flatMap encI)⟩] := hS2
  refine sq 4 rfl rfl (Y_assign (v := .bool false) rfl rfl) ?_
  refine rw_nil ?_
  refine cw_seq ?_
  refine cw_region ?_
  refine sq 5 rfl rfl (Y_fieldAddr (B := some ⟨b, 0, none⟩) (i := 0) (s := 0) k_fd_52_0_0_3 k_sz_3_1 rfl rfl) ?_
  refine sq 6 rfl rfl (Y_load1 (B := some ⟨b, 0, none⟩) (i := 0) (cs := [.int .i64 p.Qubits, .int .i64 p.Phase, .slice B p.Terms.length c, .slice B1 p.Out.Rows.length c1]) (v := .int .i64 p.Qubits) k_sc_3 rfl rfl (hS2.cf (i := 0) rfl) rfl) ?_
  refine sq 7 rfl rfl (Y_fieldAddr (B := some ⟨b1, 0, none⟩) (i := 0) (s := 0) k_fd_52_0_0_3 k_sz_3_1 rfl rfl) ?_
  refine sq 8 rfl rfl (Y_load1 (B := some ⟨b1, 0, none⟩) (i := 0) (cs := [.int .i64 q.Qubits, .int .i64 q.Phase, .slice B2 q.Terms.length c2, .slice B3 q.Out.Rows.length c3]) (v := .int .i64 q.Qubits) k_sc_3 rfl rfl (hS2.cf (i := 1) rfl) rfl) ?_
  refine sq 9 rfl rfl (Y_eq (k := .i64) (a := p.Qubits) (b := q.Qubits) rfl rfl rfl) ?_
  refine sq 10 rfl rfl (Y_move (v := .bool (p.Qubits == q.Qubits)) rfl rfl) ?_
  refine sgq 11 (B := (p.Qubits == q.Qubits)) (v := pt (some ⟨b, 0, none⟩) 1) rfl rfl (wt_t (gd_of (t := 10) (by kernel_rfl) rfl)) (fun hg => (Y_fieldAddr (B := some ⟨b, 0, none⟩) (i := 0) (s := 0) k_fd_52_1_1_3 k_sz_3_1 rfl rfl)) ?_
  refine sgq 12 (B := (p.Qubits == q.Qubits)) (v := .int .i64 p.Phase) rfl rfl (wt_t (gd_of (t := 10) (by kernel_rfl) rfl)) (fun hg1 => (Y_load1 (B := some ⟨b, 0, none⟩) (i := 1) (cs := [.int .i64 p.Qubits, .int .i64 p.Phase, .slice B p.Terms.length c, .slice B1 p.Out.Rows.length c1]) (v := .int .i64 p.Phase) k_sc_3 rfl (gv_of (B := (p.Qubits == q.Qubits)) (v := pt (some ⟨b, 0, none⟩) 1) hg1) (hS2.cf (i := 0) rfl) rfl)) ?_
  refine sgq 13 (B := (p.Qubits == q.Qubits)) (v := pt (some ⟨b1, 0, none⟩) 1) rfl rfl (wt_t (gd_of (t := 10) (by kernel_rfl) rfl)) (fun hg2 => (Y_fieldAddr (B := some ⟨b1, 0, none⟩) (i := 0) (s := 0) k_fd_52_1_1_3 k_sz_3_1 rfl rfl)) ?_
  refine sgq 14 (B := (p.Qubits == q.Qubits)) (v := .int .i64 q.Phase) rfl rfl (wt_t (gd_of (t := 10) (by kernel_rfl) rfl)) (fun hg3 => (Y_load1 (B := some ⟨b1, 0, none⟩) (i := 1) (cs := [.int .i64 q.Qubits, .int .i64 q.Phase, .slice B2 q.Terms.length c2, .slice B3 q.Out.Rows.length c3]) (v := .int .i64 q.Phase) k_sc_3 rfl (gv_of (B := (p.Qubits == q.Qubits)) (v := pt (some ⟨b1, 0, none⟩) 1) hg3) (hS2.cf (i := 1) rfl) rfl)) ?_
  refine sgq 15 (B := (p.Qubits == q.Qubits)) (v := .bool (p.Phase == q.Phase)) rfl rfl (wt_t (gd_of (t := 10) (by kernel_rfl) rfl)) (fun hg4 => (Y_eq (k := .i64) (a := p.Phase) (b := q.Phase) rfl (gv_of (B := (p.Qubits == q.Qubits)) (v := .int .i64 p.Phase) hg4) (gv_of (B := (p.Qubits == q.Qubits)) (v := .int .i64 q.Phase) hg4))) ?_
  refine sq 16 rfl rfl (Y_and (b := (p.Qubits == q.Qubits)) (z := (p.Phase == q.Phase)) rfl rfl rfl rfl) ?_
  refine sq 17 rfl rfl (Y_move (v := .bool ((p.Qubits == q.Qubits) && (p.Phase == q.Phase))) rfl rfl) ?_
  refine sgq 18 (B := ((p.Qubits == q.Qubits) && (p.Phase == q.Phase))) (v := pt (some ⟨b, 0, none⟩) 2) rfl rfl (wt_t (gd_of (t := 17) (by kernel_rfl) rfl)) (fun hg5 => (Y_fieldAddr (B := some ⟨b, 0, none⟩) (i := 0) (s := 0) k_fd_52_2_2_47 k_sz_47_1 rfl rfl)) ?_
  refine sgq 19 (B := ((p.Qubits == q.Qubits) && (p.Phase == q.Phase))) (v := .slice B p.Terms.length c) rfl rfl (wt_t (gd_of (t := 17) (by kernel_rfl) rfl)) (fun hg6 => (Y_load1 (B := some ⟨b, 0, none⟩) (i := 2) (cs := [.int .i64 p.Qubits, .int .i64 p.Phase, .slice B p.Terms.length c, .slice B1 p.Out.Rows.length c1]) (v := .slice B p.Terms.length c) k_sc_47 rfl (gv_of (B := ((p.Qubits == q.Qubits) && (p.Phase == q.Phase))) (v := pt (some ⟨b, 0, none⟩) 2) hg6) (hS2.cf (i := 0) rfl) rfl)) ?_
  refine sgq 20 (B := ((p.Qubits == q.Qubits) && (p.Phase == q.Phase))) (v := pt (some ⟨b1, 0, none⟩) 2) rfl rfl (wt_t (gd_of (t := 17) (by kernel_rfl) rfl)) (fun hg7 => (Y_fieldAddr (B := some ⟨b1, 0, none⟩) (i := 0) (s := 0) k_fd_52_2_2_47 k_sz_47_1 rfl rfl)) ?_
  refine sgq 21 (B := ((p.Qubits == q.Qubits) && (p.Phase == q.Phase))) (v := .slice B2 q.Terms.length c2) rfl rfl (wt_t (gd_of (t := 17) (by kernel_rfl) rfl)) (fun hg8 => (Y_load1 (B := some ⟨b1, 0, none⟩) (i := 2) (cs := [.int .i64 q.Qubits, .int .i64 q.Phase, .slice B2 q.Terms.length c2, .slice B3 q.Out.Rows.length c3]) (v := .slice B2 q.Terms.length c2) k_sc_47 rfl (gv_of (B := ((p.Qubits == q.Qubits) && (p.Phase == q.Phase))) (v := pt (some ⟨b1, 0, none⟩) 2) hg8) (hS2.cf (i := 1) rfl) rfl)) ?_
  obtain ⟨r_1, hc, hF⟩ := bind_inv hF
  refine sgc 22 (B := ((p.Qubits == q.Qubits) && (p.Phase == q.Phase))) (v := .bool r_1) (F := hS2.fn) rfl rfl (wt_t (gd_of (t := 17) (by kernel_rfl) rfl)) hS2 (fun hg9 => (Yc_func (g := 39) (vs := [.slice B p.Terms.length c, .slice B2 q.Terms.length c2]) k_call_39 rfl (mc (gv_of (B := ((p.Qubits == q.Qubits) && (p.Phase == q.Phase))) (v := .slice B p.Terms.length c) hg9) (mc (gv_of (B := ((p.Qubits == q.Qubits) && (p.Phase == q.Phase))) (v := .slice B2 q.Terms.length c2) hg9) mn)) (CV.mono (c_laws_qTerms p.Terms q.Terms B c p.Terms.length B2 c2 q.Terms.length _ rfl rfl (hS2.inn0 [(true, 0), (true, 2)] rfl) (gb_inv hc hg9)) (by rintro _ _ ⟨rfl, h⟩; exact ⟨rfl, hS2.out00 h⟩)))) ?_
  rintro w_2 hS3
  have hS3 : ST _ _ w_2 _ _ := hS3
  refine sq 23 rfl rfl (Y_and (b := ((p.Qubits == q.Qubits) && (p.Phase == q.Phase))) (z := r_1) rfl rfl rfl rfl) ?_
  refine sq 24 rfl rfl (Y_move (v := .bool (((p.Qubits == q.Qubits) && (p.Phase == q.Phase)) && r_1)) rfl rfl) ?_
  refine sgq 25 (B := (((p.Qubits == q.Qubits) && (p.Phase == q.Phase)) && r_1)) (v := pt (some ⟨b, 0, none⟩) 3) rfl rfl (wt_t (gd_of (t := 24) (by kernel_rfl) rfl)) (fun hg10 => (Y_fieldAddr (B := some ⟨b, 0, none⟩) (i := 0) (s := 0) k_fd_52_3_3_50 k_sz_50_1 rfl rfl)) ?_
  refine sgq 26 (B := (((p.Qubits == q.Qubits) && (p.Phase == q.Phase)) && r_1)) (v := pt (some ⟨b, 0, none⟩) 3) rfl rfl (wt_t (gd_of (t := 24) (by kernel_rfl) rfl)) (fun hg11 => (Y_fieldAddr (B := some ⟨b, 0, none⟩) (i := 3) (s := 0) k_fd_50_0_0_48 k_sz_48_1 rfl (gv_of (B := (((p.Qubits == q.Qubits) && (p.Phase == q.Phase)) && r_1)) (v := pt (some ⟨b, 0, none⟩) 3) hg11))) ?_
  refine sgq 27 (B := (((p.Qubits == q.Qubits) && (p.Phase == q.Phase)) && r_1)) (v := .slice B1 p.Out.Rows.length c1) rfl rfl (wt_t (gd_of (t := 24) (by kernel_rfl) rfl)) (fun hg12 => (Y_load1 (B := some ⟨b, 0, none⟩) (i := 3) (cs := [.int .i64 p.Qubits, .int .i64 p.Phase, .slice B p.Terms.length c, .slice B1 p.Out.Rows.length c1]) (v := .slice B1 p.Out.Rows.length c1) k_sc_48 rfl (gv_of (B := (((p.Qubits == q.Qubits) && (p.Phase == q.Phase)) && r_1)) (v := pt (some ⟨b, 0, none⟩) 3) hg12) (hS3.cf (i := 0) rfl) rfl)) ?_
  refine sgq 28 (B := (((p.Qubits == q.Qubits) && (p.Phase == q.Phase)) && r_1)) (v := pt (some ⟨b1, 0, none⟩) 3) rfl rfl (wt_t (gd_of (t := 24) (by kernel_rfl) rfl)) (fun hg13 => (Y_fieldAddr (B := some ⟨b1, 0, none⟩) (i := 0) (s := 0) k_fd_52_3_3_50 k_sz_50_1 rfl rfl)) ?_
  refine sgq 29 (B := (((p.Qubits == q.Qubits) && (p.Phase == q.Phase)) && r_1)) (v := pt (some ⟨b1, 0, none⟩) 3) rfl rfl (wt_t (gd_of (t := 24) (by kernel_rfl) rfl)) (fun hg14 => (Y_fieldAddr (B := some ⟨b1, 0, none⟩) (i := 3) (s := 0) k_fd_50_0_0_48 k_sz_48_1 rfl (gv_of (B := (((p.Qubits == q.Qubits) && (p.Phase == q.Phase)) && r_1)) (v := pt (some ⟨b1, 0, none⟩) 3) hg14))) ?_
  refine sgq 30 (B := (((p.Qubits == q.Qubits) && (p.Phase == q.Phase)) && r_1)) (v := .slice B3 q.Out.Rows.length c3) rfl rfl (wt_t (gd_of (t := 24) (by kernel_rfl) rfl)) (fun hg15 => (Y_load1 (B := some ⟨b1, 0, none⟩) (i := 3) (cs := [.int .i64 q.Qubits, .int .i64 q.Phase, .slice B2 q.Terms.length c2, .slice B3 q.Out.Rows.length c3]) (v := .slice B3 q.Out.Rows.length c3) k_sc_48 rfl (gv_of (B := (((p.Qubits == q.Qubits) && (p.Phase == q.Phase)) && r_1)) (v := pt (some ⟨b1, 0, none⟩) 3) hg15) (hS3.cf (i := 1) rfl) rfl)) ?_
  obtain ⟨r_2, hc1, hF⟩ := bind_inv hF
  refine sgc 31 (B := (((p.Qubits == q.Qubits) && (p.Phase == q.Phase)) && r_1)) (v := .bool r_2) (F := hS3.fn) rfl rfl (wt_t (gd_of (t := 24) (by kernel_rfl) rfl)) hS3 (fun hg16 => (Yc_func (g := 29) (vs := [.slice B1 p.Out.Rows.length c1, .slice B3 q.Out.Rows.length c3]) k_call_29 rfl (mc (gv_of (B := (((p.Qubits == q.Qubits) && (p.Phase == q.Phase)) && r_1)) (v := .slice B1 p.Out.Rows.length c1) hg16) (mc (gv_of (B := (((p.Qubits == q.Qubits) && (p.Phase == q.Phase)) && r_1)) (v := .slice B3 q.Out.Rows.length c3) hg16) mn)) (CV.mono (c_laws_qInts p.Out.Rows q.Out.Rows B1 c1 p.Out.Rows.length B3 c3 q.Out.Rows.length _ rfl rfl (hS3.inn0 [(true, 1), (true, 3)] rfl) (gb_inv hc1 hg16)) (by rintro _ _ ⟨rfl, h⟩; exact ⟨rfl, hS3.out00 h⟩)))) ?_
  rintro w_3 hS4
  have hS4 : ST _ _ w_3 _ _ := hS4
  refine sq 32 rfl rfl (Y_and (b := (((p.Qubits == q.Qubits) && (p.Phase == q.Phase)) && r_1)) (z := r_2) rfl rfl rfl rfl) ?_
  refine sq 4 rfl rfl (Y_assign (v := .bool ((((p.Qubits == q.Qubits) && (p.Phase == q.Phase)) && r_1) && r_2)) rfl rfl) ?_
  refine rw_nil ?_
  refine cw_ret ?_
  obtain rfl := some_inj hF
  exact ret1 Try.results26 (v1 := .bool ((((p.Qubits == q.Qubits) && (p.Phase == q.Phase)) && r_1) && r_2)) (resAt_tmp rfl) ⟨rfl, (ST.subR (R' := []) (hS4.sel [] rfl rfl) (fun _ h => by cases h))⟩

theorem c_impl_identityLinear (n : Int)  (w0 : World)  (hS : ST w0 [] w0 [] []) {r_ : TLinear} (hF : F_impl_identityLinear n = some r_) :
    CV Try.prog 83 #[.int .i64 n] w0 (fun v w' => ∃ (B : Option Addr) (c : Nat), v = .agg #[.slice B r_.Rows.length c] ∧ ST w0 [] w' [⟨B, 3, (r_.Rows.flatMap encI), c * 1⟩] []) := by
  unfold F_impl_identityLinear at hF
  refine cv_of_cw 19 Try.func83 rfl Try.ntmps83 rfl ?_
  refine cw_seq ?_
  refine cw_region ?_
  refine ss 2 rfl rfl (Ys_alloc (T := 50) (cs := [.slice none 0 0]) (m := 1) hS k_zero_50 rfl rfl rfl) ?_
  rintro _ w_ ⟨b, rfl, hS1⟩
  refine rw_nil ?_
  refine cw_seq ?_
  refine cw_region ?_
  refine sq 5 rfl rfl (Y_buildS (zs := [.slice none 0 0]) (vs := []) (cs := [.slice none 0 0]) k_pl_50 k_zero_50 rfl mpn rfl) ?_
  refine ss 3 rfl rfl (Ys_alloc (T := 50) (cs := [.slice none 0 0]) (m := 1) hS1 k_zero_50 rfl rfl rfl) ?_
  rintro _ w_1 ⟨b1, rfl, hS2⟩
  have hS2 : ST w0 [] _ [⟨some ⟨b, 0, none⟩, 50, [.slice none 0 0], 1⟩, ⟨some ⟨b1, 0, none⟩, 50, [.slice none 0 0], 1⟩] [] := hS2
  refine ss0 rfl rfl (Ys_store (i := 1) (s := 1) (B := some ⟨b1, 0, none⟩) (T' := 50) (v := .agg #[.slice none 0 0]) (vs := [.slice none 0 0]) (k := 0) (cs' := [.slice none 0 0]) hS2 k_sz_50_1 rfl rfl rfl rfl rfl rfl rfl (Nat.le_of_ble_eq_true rfl) rfl rfl) ?_
  rintro _ w_2 ⟨rfl, hS3⟩
  have hS3 : ST w0 [] _ [⟨some ⟨b, 0, none⟩, 50, [.slice none 0 0], 1⟩, ⟨some ⟨b1, 0, none⟩, 50, [.slice none 0 0], 1⟩] [] := hS3
  refine rw_nil ?_
  refine cw_seq ?_
  refine cw_seq ?_
  refine cw_region ?_
  refine sq 6 rfl rfl (Y_move (v := .int .i64 n) rfl rfl) ?_
  refine sq 7 rfl rfl (Y_move (v := .int .i64 0) rfl rfl) ?_
  refine rw_nil ?_
  obtain ⟨hN, hF⟩ := chk_inv hF
  obtain ⟨z, hz, hF1⟩ := bind_inv hF
  have hS5 := hS3.addNil 3
  refine cw_block ?_
  refine cw_loop (fun k f w => ∃ (i : Nat) (Rows : List Int) (B1 : Option Addr) (c1 : Nat), FF f [(2, pt (some ⟨b, 0, none⟩) 0), (3, pt (some ⟨b1, 0, none⟩) 0), (6, .int .i64 n), (7, .int .i64 (i : Int))] ∧ ST w0 [] w [⟨some ⟨b, 0, none⟩, 50, [.slice none 0 0], 1⟩, ⟨some ⟨b1, 0, none⟩, 50, [.slice B1 Rows.length c1], 1⟩, ⟨B1, 3, (Rows.flatMap encI), c1 * 1⟩] [] ∧ i + k = n.toNat ∧ forN F_impl_identityLinear_l1 k i Rows = some z) n.toNat ⟨0, [], none, 0, (FF.cons rfl (FF.cons rfl (FF.cons rfl (FF.cons rfl FF.nil)))), (hS5.sel [0, 1, 2] rfl rfl), Nat.zero_add _, hz⟩ ?_
  rintro k_ f w ⟨i, Rows, B1, c1, hf, hS4, hik, hL⟩
  refine cw_seq ?_
  refine cw_region ?_
  refine sq 8 rfl rfl (Y_lt (k := .i64) (a := (i : Int)) (b := n) rfl (hf.get 7 3 rfl) (hf.get 6 2 rfl)) ?_
  refine rw_nil ?_
  refine cw_seq ?_
  refine cw_cond (b := (decide ((i : Int) < n))) rfl (fun hlt => ?_) (fun hlt => ?_)
  · skip
    have hlt1 : i < n.toNat := by have h := of_decide_eq_true hlt; omega
    obtain ⟨k_1, rfl⟩ : ∃ k2, k_ = k2 + 1 := ⟨k_ - 1, by omega⟩
    obtain ⟨y, hb, hL1⟩ := forN_go hL
    unfold F_impl_identityLinear_l1 at hb
    refine cw_skip ?_
    refine cw_seq ?_
    refine cw_block ?_
    refine cw_seq ?_
    refine cw_region ?_
    refine sq 9 rfl rfl (Y_move (v := .int .i64 (i : Int)) rfl (hf.get 7 3 rfl)) ?_
    refine sq 4 rfl rfl (Y_assign (v := .int .i64 (i : Int)) rfl rfl) ?_
    refine rw_nil ?_
    obtain ⟨hsh, hb⟩ := chk_inv hb
    obtain ⟨hap, hb⟩ := chk_inv hb
    refine cw_mid (fun f w => ∃ (B3 : Option Addr) (c3 : Nat), FF f [(2, pt (some ⟨b, 0, none⟩) 0), (3, pt (some ⟨b1, 0, none⟩) 0), (6, .int .i64 n), (7, .int .i64 (i : Int))] ∧ ST w0 [] w [⟨some ⟨b, 0, none⟩, 50, [.slice none 0 0], 1⟩, ⟨some ⟨b1, 0, none⟩, 50, [.slice B3 ((Rows ++ [(shlK .i64 1 (i : Int))]).length) c3], 1⟩, ⟨B3, 3, ((Rows ++ [(shlK .i64 1 (i : Int))]).flatMap encI), c3 * 1⟩] []) ?_ ?_
    · skip
      refine ra_start (ST.sel hS4 [0] rfl rfl).fn (by kernel_rfl) ?_
      have hS7 := hS4.drew
      refine ra_q 0 10 (v := pt (some ⟨b1, 0, none⟩) 0) rfl rfl rfl (by kernel_rfl) (by kernel_rfl) (by kernel_rfl) (ST.sel hS7 [0] rfl rfl) (fun w' hw' => (Y_fieldAddr (B := some ⟨b1, 0, none⟩) (i := 0) (s := 0) k_fd_50_0_0_48 k_sz_48_1 rfl (hf.get 3 1 rfl))) ?_
      refine ra_q 2 12 (v := .int .i64 (i : Int)) rfl rfl rfl (by kernel_rfl) (by kernel_rfl) (by kernel_rfl) (ST.sel hS7 [0] rfl rfl) (fun w' hw' => (Y_move (v := .int .i64 (i : Int)) rfl rfl)) ?_
      refine ra_q 3 13 (v := .int .i64 (shlK .i64 1 (i : Int))) rfl rfl rfl (by kernel_rfl) (by kernel_rfl) (by kernel_rfl) (ST.sel hS7 [0] rfl rfl) (fun w' hw' => (Y_shl (k := .i64) (a := 1) (k' := .i64) (b := (i : Int)) rfl rfl rfl hsh)) ?_
      refine ra_all (rs := [1, 4]) (by kernel_rfl) rfl ?_
      refine ra_y 11 (i := 1) (v := .slice B1 Rows.length c1) rfl rfl rfl (Y_load1 (B := some ⟨b1, 0, none⟩) (i := 0) (cs := [.slice B1 Rows.length c1]) (v := .slice B1 Rows.length c1) k_sc_48 rfl rfl (hS7.cf (i := 1) rfl) rfl) (ST.sel hS7 [0] rfl rfl) ?_ ?_
      · skip
        refine ra_all (rs := [4]) (by kernel_rfl) rfl ?_
        refine ra_s 14 (i := 4) rfl rfl rfl (Ys_bslice (s := 1) (len := 1) (vs := [(0, .int .i64 (shlK .i64 1 (i : Int)))]) (cs := [.int .i64 (shlK .i64 1 (i : Int))]) (zs := [.int .i64 0]) (m := 1) hS7 k_sl_48_3 k_sz_3_1 k_zc_3 rfl (mpc rfl mpn) rfl rfl rfl (by kernel_rfl) (by kernel_rfl) rfl) ?_ ?_
        · rintro _ w_3 ⟨b2, rfl, hS8⟩
          have hS8 : ST w0 [] _ [⟨some ⟨b, 0, none⟩, 50, [.slice none 0 0], 1⟩, ⟨some ⟨b1, 0, none⟩, 50, [.slice B1 Rows.length c1], 1⟩, ⟨B1, 3, (Rows.flatMap encI), c1 * 1⟩, ⟨some ⟨b2, 0, none⟩, 3, ([(shlK .i64 1 (i : Int))].flatMap encI), 1 * 1⟩] [] := hS8
          refine ⟨(ST.sel hS8 [0] rfl rfl), ?_⟩
          refine ra_all (rs := [5]) (by kernel_rfl) rfl ?_
          refine ra_s 15 (i := 5) rfl rfl rfl (Ys_append (s := 1) (by' := 8) (i := 2) (nn := Rows.length) (c := c1) (k := 1) (len := (Rows ++ [(shlK .i64 1 (i : Int))]).length) (B := B1) (xs := ([(shlK .i64 1 (i : Int))].flatMap encI)) (cs' := ((Rows ++ [(shlK .i64 1 (i : Int))]).flatMap encI)) hS8 k_sl_48_3 k_sz_3_1 k_by_3_8 k_zero_3 rfl (by decide) rfl rfl rfl rfl (fm_lenn (l := Rows) encI_len rfl) rfl (hS8.cf (i := 3) rfl) (fm_lenn (l := [(shlK .i64 1 (i : Int))]) encI_len rfl) (fm_one' (enc := encI) encI_one [(shlK .i64 1 (i : Int))]) (by have := hap; omega) (by have := hap; simp only [maxLen]; omega) (fm_app _ _) (app_len (l := Rows) (l' := [(shlK .i64 1 (i : Int))]) rfl rfl)) ?_ ?_
          · rintro _ w_4 ⟨B2, c2, rfl, hS9⟩
            have hS9 : ST w0 [] _ [⟨some ⟨b, 0, none⟩, 50, [.slice none 0 0], 1⟩, ⟨some ⟨b1, 0, none⟩, 50, [.slice B1 Rows.length c1], 1⟩, ⟨B2, 3, ((Rows ++ [(shlK .i64 1 (i : Int))]).flatMap encI), c2 * 1⟩, ⟨some ⟨b2, 0, none⟩, 3, ([(shlK .i64 1 (i : Int))].flatMap encI), 1 * 1⟩] [] := hS9
            refine ⟨(ST.sel hS9 [0] rfl rfl), ?_⟩
            refine ra_q 6 16 (v := pt (some ⟨b1, 0, none⟩) 0) rfl rfl rfl (by kernel_rfl) (by kernel_rfl) (by kernel_rfl) (ST.sel hS9 [0] rfl rfl) (fun w' hw' => (Y_fieldAddr (B := some ⟨b1, 0, none⟩) (i := 0) (s := 0) k_fd_50_0_0_48 k_sz_48_1 rfl (hf.get 3 1 rfl))) ?_
            refine ra_all (rs := [7]) (by kernel_rfl) rfl ?_
            refine ra_s0 (i := 7) rfl rfl rfl (Ys_store (i := 1) (s := 1) (B := some ⟨b1, 0, none⟩) (T' := 50) (v := .slice B2 ((Rows ++ [(shlK .i64 1 (i : Int))]).length) c2) (vs := [.slice B2 ((Rows ++ [(shlK .i64 1 (i : Int))]).length) c2]) (k := 0) (cs' := [.slice B2 ((Rows ++ [(shlK .i64 1 (i : Int))]).length) c2]) hS9 k_sz_48_1 rfl rfl rfl rfl rfl rfl rfl (Nat.le_of_ble_eq_true rfl) rfl rfl) ?_ ?_
            · rintro _ w_5 ⟨rfl, hS10⟩
              have hS10 : ST w0 [] _ [⟨some ⟨b, 0, none⟩, 50, [.slice none 0 0], 1⟩, ⟨some ⟨b1, 0, none⟩, 50, [.slice B2 ((Rows ++ [(shlK .i64 1 (i : Int))]).length) c2], 1⟩, ⟨B2, 3, ((Rows ++ [(shlK .i64 1 (i : Int))]).flatMap encI), c2 * 1⟩, ⟨some ⟨b2, 0, none⟩, 3, ([(shlK .i64 1 (i : Int))].flatMap encI), 1 * 1⟩] [] := hS10
              refine ⟨(ST.sel hS10 [0] rfl rfl), ?_⟩
              refine ra_done (by kernel_rfl) ?_
              exact ⟨B2, c2, (FF.cons (hf.get 2 0 rfl) (FF.cons (hf.get 3 1 rfl) (FF.cons (hf.get 6 2 rfl) (FF.cons (hf.get 7 3 rfl) FF.nil)))), (hS10.sel [0, 1, 2] rfl rfl)⟩
            exact allR_nil
          exact allR_nil
        exact allR_nil
      refine ra_s 14 (i := 4) rfl rfl rfl (Ys_bslice (s := 1) (len := 1) (vs := [(0, .int .i64 (shlK .i64 1 (i : Int)))]) (cs := [.int .i64 (shlK .i64 1 (i : Int))]) (zs := [.int .i64 0]) (m := 1) hS7 k_sl_48_3 k_sz_3_1 k_zc_3 rfl (mpc rfl mpn) rfl rfl rfl (by kernel_rfl) (by kernel_rfl) rfl) ?_ ?_
      · rintro _ w_6 ⟨b2, rfl, hS11⟩
        have hS11 : ST w0 [] _ [⟨some ⟨b, 0, none⟩, 50, [.slice none 0 0], 1⟩, ⟨some ⟨b1, 0, none⟩, 50, [.slice B1 Rows.length c1], 1⟩, ⟨B1, 3, (Rows.flatMap encI), c1 * 1⟩, ⟨some ⟨b2, 0, none⟩, 3, ([(shlK .i64 1 (i : Int))].flatMap encI), 1 * 1⟩] [] := hS11
        refine ⟨(ST.sel hS11 [0] rfl rfl), ?_⟩
        refine ra_all (rs := [1]) (by kernel_rfl) rfl ?_
        refine ra_y 11 (i := 1) (v := .slice B1 Rows.length c1) rfl rfl rfl (Y_load1 (B := some ⟨b1, 0, none⟩) (i := 0) (cs := [.slice B1 Rows.length c1]) (v := .slice B1 Rows.length c1) k_sc_48 rfl rfl (hS11.cf (i := 1) rfl) rfl) (ST.sel hS11 [0] rfl rfl) ?_ ?_
        · skip
          refine ra_all (rs := [5]) (by kernel_rfl) rfl ?_
          refine ra_s 15 (i := 5) rfl rfl rfl (Ys_append (s := 1) (by' := 8) (i := 2) (nn := Rows.length) (c := c1) (k := 1) (len := (Rows ++ [(shlK .i64 1 (i : Int))]).length) (B := B1) (xs := ([(shlK .i64 1 (i : Int))].flatMap encI)) (cs' := ((Rows ++ [(shlK .i64 1 (i : Int))]).flatMap encI)) hS11 k_sl_48_3 k_sz_3_1 k_by_3_8 k_zero_3 rfl (by decide) rfl rfl rfl rfl (fm_lenn (l := Rows) encI_len rfl) rfl (hS11.cf (i := 3) rfl) (fm_lenn (l := [(shlK .i64 1 (i : Int))]) encI_len rfl) (fm_one' (enc := encI) encI_one [(shlK .i64 1 (i : Int))]) (by have := hap; omega) (by have := hap; simp only [maxLen]; omega) (fm_app _ _) (app_len (l := Rows) (l' := [(shlK .i64 1 (i : Int))]) rfl rfl)) ?_ ?_
          · rintro _ w_7 ⟨B2, c2, rfl, hS12⟩
            have hS12 : ST w0 [] _ [⟨some ⟨b, 0, none⟩, 50, [.slice none 0 0], 1⟩, ⟨some ⟨b1, 0, none⟩, 50, [.slice B1 Rows.length c1], 1⟩, ⟨B2, 3, ((Rows ++ [(shlK .i64 1 (i : Int))]).flatMap encI), c2 * 1⟩, ⟨some ⟨b2, 0, none⟩, 3, ([(shlK .i64 1 (i : Int))].flatMap encI), 1 * 1⟩] [] := hS12
            refine ⟨(ST.sel hS12 [0] rfl rfl), ?_⟩
            refine ra_q 6 16 (v := pt (some ⟨b1, 0, none⟩) 0) rfl rfl rfl (by kernel_rfl) (by kernel_rfl) (by kernel_rfl) (ST.sel hS12 [0] rfl rfl) (fun w' hw' => (Y_fieldAddr (B := some ⟨b1, 0, none⟩) (i := 0) (s := 0) k_fd_50_0_0_48 k_sz_48_1 rfl (hf.get 3 1 rfl))) ?_
            refine ra_all (rs := [7]) (by kernel_rfl) rfl ?_
            refine ra_s0 (i := 7) rfl rfl rfl (Ys_store (i := 1) (s := 1) (B := some ⟨b1, 0, none⟩) (T' := 50) (v := .slice B2 ((Rows ++ [(shlK .i64 1 (i : Int))]).length) c2) (vs := [.slice B2 ((Rows ++ [(shlK .i64 1 (i : Int))]).length) c2]) (k := 0) (cs' := [.slice B2 ((Rows ++ [(shlK .i64 1 (i : Int))]).length) c2]) hS12 k_sz_48_1 rfl rfl rfl rfl rfl rfl rfl (Nat.le_of_ble_eq_true rfl) rfl rfl) ?_ ?_
            · rintro _ w_8 ⟨rfl, hS13⟩
              have hS13 : ST w0 [] _ [⟨some ⟨b, 0, none⟩, 50, [.slice none 0 0], 1⟩, ⟨some ⟨b1, 0, none⟩, 50, [.slice B2 ((Rows ++ [(shlK .i64 1 (i : Int))]).length) c2], 1⟩, ⟨B2, 3, ((Rows ++ [(shlK .i64 1 (i : Int))]).flatMap encI), c2 * 1⟩, ⟨some ⟨b2, 0, none⟩, 3, ([(shlK .i64 1 (i : Int))].flatMap encI), 1 * 1⟩] [] := hS13
              refine ⟨(ST.sel hS13 [0] rfl rfl), ?_⟩
              refine ra_done (by kernel_rfl) ?_
              exact ⟨B2, c2, (FF.cons (hf.get 2 0 rfl) (FF.cons (hf.get 3 1 rfl) (FF.cons (hf.get 6 2 rfl) (FF.cons (hf.get 7 3 rfl) FF.nil)))), (hS13.sel [0, 1, 2] rfl rfl)⟩
            exact allR_nil
          exact allR_nil
        exact allR_nil
      exact allR_nil
    rintro f w ⟨B3, c3, hf1, hS6⟩
    refine cw_region ?_
    refine sq 17 rfl rfl (Y_add (k := .i64) (a := (i : Int)) (b := 1) rfl (hf1.get 7 3 rfl) rfl) ?_
    refine sq 7 rfl rfl (Y_move (v := .int .i64 (IntKind.i64.wrap ((i : Int) + 1))) rfl rfl) ?_
    refine rw_nil ?_
    obtain rfl := some_inj hb
    exact ⟨k_1, Nat.lt_succ_self _, i + 1, (Rows ++ [(shlK .i64 1 (i : Int))]), B3, c3, (FF.cons (hf1.get 2 0 rfl) (FF.cons (hf1.get 3 1 rfl) (FF.cons (hf1.get 6 2 rfl) (FF.cons (congrArg (Value.int .i64) (wr_succ hlt1 hN)) FF.nil)))), (hS6.sel [0, 1, 2] rfl rfl), (by omega), hL1⟩
  · skip
    obtain rfl : k_ = 0 := by have h := of_decide_eq_false hlt; omega
    refine cw_exit rfl ?_
    obtain rfl := some_inj hL
    refine cw_seq ?_
    refine cw_region ?_
    refine sq 18 rfl rfl (Y_loadA (B := some ⟨b1, 0, none⟩) (i := 0) (cs := [.slice B1 Rows.length c1]) (vs := [.slice B1 Rows.length c1]) k_ag_50 k_sz_50_1 rfl (hf.get 3 1 rfl) (hS4.cf (i := 1) rfl) rfl rfl) ?_
    refine ss0 rfl rfl (Ys_store (i := 0) (s := 1) (B := some ⟨b, 0, none⟩) (T' := 50) (v := .agg #[.slice B1 Rows.length c1]) (vs := [.slice B1 Rows.length c1]) (k := 0) (cs' := [.slice B1 Rows.length c1]) hS4 k_sz_50_1 rfl (hf.get 2 0 rfl) rfl rfl rfl rfl rfl (Nat.le_of_ble_eq_true rfl) rfl rfl) ?_
    rintro _ w_9 ⟨rfl, hS14⟩
    have hS14 : ST w0 [] _ [⟨some ⟨b, 0, none⟩, 50, [.slice B1 Rows.length c1], 1⟩, ⟨some ⟨b1, 0, none⟩, 50, [.slice B1 Rows.length c1], 1⟩, ⟨B1, 3, (Rows.flatMap encI), c1 * 1⟩] [] := hS14
    refine rw_nil ?_
    refine cw_ret ?_
    obtain rfl := some_inj hF1
    exact ret1 Try.results83 (v1 := .agg #[.slice B1 Rows.length c1]) (resAt_cellA (B := some ⟨b, 0, none⟩) (i := 0) (cs := [.slice B1 Rows.length c1]) (vs := [.slice B1 Rows.length c1]) (hf.get 2 0 rfl) k_ag_50 k_sz_50_1 (hS14.cf (i := 0) rfl) rfl rfl) ⟨B1, c1, rfl, (ST.subR (R' := []) (hS14.sel [2] rfl rfl) (fun _ h => by cases h))⟩

theorem c_impl_eliminated_1 (from_ : Int) (to_ : Int) (p : List Int) (p1 : List TGate) (B : Option Addr) (B1 : Option Addr) (c n : Nat) (B2 : Option Addr) (B3 : Option Addr) (c1 n1 : Nat) (w0 : World) (hn : p.length = n) (hn1 : p1.length = n1) (hS : ST w0 (bl [⟨B1, 3, (p.flatMap encI), c * 1⟩, ⟨B2, 120, [.slice B3 n1 c1], 1⟩, ⟨B3, 124, (p1.flatMap enc_Gate), c1 * 3⟩]) w0 [⟨B1, 3, (p.flatMap encI), c * 1⟩, ⟨B2, 120, [.slice B3 n1 c1], 1⟩, ⟨B3, 124, (p1.flatMap enc_Gate), c1 * 3⟩] [⟨B, [.slice B1 n c]⟩]) {m : List Int} {m1 : List TGate} (hF : F_impl_eliminated_1 from_ to_ p p1 = some (m, m1)) :
    CV Try.prog 157 #[.int .i64 from_, .int .i64 to_, pt B 0, pt B2 0] w0 (fun v w' => ∃ (B4 : Option Addr) (c2 : Nat), v = .tuple #[] ∧ m.length = n ∧ ST w0 (bl [⟨B1, 3, (p.flatMap encI), c * 1⟩, ⟨B2, 120, [.slice B3 n1 c1], 1⟩, ⟨B3, 124, (p1.flatMap enc_Gate), c1 * 3⟩]) w' [⟨B1, 3, (m.flatMap encI), c * 1⟩, ⟨B2, 120, [.slice B4 m1.length c2], 1⟩, ⟨B4, 124, (m1.flatMap enc_Gate), c2 * 3⟩] []) := by
  subst hn
  subst hn1
  unfold F_impl_eliminated_1 at hF
  refine cv_of_cw 22 Try.func157 rfl Try.ntmps157 rfl ?_
  refine cw_seq ?_
  obtain ⟨x, hx, hF⟩ := bind_inv hF
  obtain ⟨x1, hx1, hF⟩ := bind_inv hF
  refine cw_mid (fun f w => FF f [(0, .int .i64 from_), (1, .int .i64 to_), (3, pt B2 0)] ∧ ST w0 (bl [⟨B1, 3, (p.flatMap encI), c * 1⟩, ⟨B2, 120, [.slice B3 p1.length c1], 1⟩, ⟨B3, 124, (p1.flatMap enc_Gate), c1 * 3⟩]) w [⟨B1, 3, ((p.set to_.toNat (bits .xor .i64 x x1)).flatMap encI), c * 1⟩, ⟨B2, 120, [.slice B3 p1.length c1], 1⟩, ⟨B3, 124, (p1.flatMap enc_Gate), c1 * 3⟩] [⟨B, [.slice B1 p.length c]⟩]) ?_ ?_
  · skip
    refine ra_start (ST.sel hS [1, 2] rfl rfl).fn (by kernel_rfl) ?_
    have hS2 := hS.drew
    refine ra_q 0 6 (v := .slice B1 p.length c) rfl rfl rfl (by kernel_rfl) (by kernel_rfl) (by kernel_rfl) (ST.sel hS2 [1, 2] rfl rfl) (fun w' hw' => (Y_load1 (B := B) (i := 0) (cs := [.slice B1 p.length c]) (v := .slice B1 p.length c) k_sc_48 rfl rfl (ST.rf hw' (i := 0) rfl) rfl)) ?_
    refine ra_q 1 7 (v := .int .i64 to_) rfl rfl rfl (by kernel_rfl) (by kernel_rfl) (by kernel_rfl) (ST.sel hS2 [1, 2] rfl rfl) (fun w' hw' => (Y_move (v := .int .i64 to_) rfl rfl)) ?_
    refine ra_q 4 10 (v := .slice B1 p.length c) rfl rfl rfl (by kernel_rfl) (by kernel_rfl) (by kernel_rfl) (ST.sel hS2 [1, 2] rfl rfl) (fun w' hw' => (Y_load1 (B := B) (i := 0) (cs := [.slice B1 p.length c]) (v := .slice B1 p.length c) k_sc_48 rfl rfl (ST.rf hw' (i := 0) rfl) rfl)) ?_
    refine ra_q 5 11 (v := .int .i64 from_) rfl rfl rfl (by kernel_rfl) (by kernel_rfl) (by kernel_rfl) (ST.sel hS2 [1, 2] rfl rfl) (fun w' hw' => (Y_move (v := .int .i64 from_) rfl rfl)) ?_
    refine ra_all (rs := [2, 6]) (by kernel_rfl) rfl ?_
    refine ra_y 8 (i := 2) (v := pt B1 (to_.toNat * 1)) rfl rfl rfl (Y_index (B := B1) (m := p.length) (c := c) (k := .i64) (i := to_) k_sl_48_3 k_sz_3_1 rfl rfl rfl (gi_isSome encI_len rfl (hS2.cf (i := 0) rfl) hx) (getI_nn hx) (getI_ltI hx rfl)) (ST.sel hS2 [1, 2] rfl rfl) ?_ ?_
    · skip
      refine ra_all (rs := [3, 6]) (by kernel_rfl) rfl ?_
      refine ra_y 9 (i := 3) (v := .int .i64 x) rfl rfl rfl (Y_load1 (B := B1) (i := to_.toNat * 1) (cs := (p.flatMap encI)) (v := .int .i64 x) k_sc_3 rfl rfl (hS2.cf (i := 0) rfl) (gi_at0 encI_len hx rfl)) (ST.sel hS2 [1, 2] rfl rfl) ?_ ?_
      · skip
        refine ra_all (rs := [6]) (by kernel_rfl) rfl ?_
        refine ra_y 12 (i := 6) (v := pt B1 (from_.toNat * 1)) rfl rfl rfl (Y_index (B := B1) (m := p.length) (c := c) (k := .i64) (i := from_) k_sl_48_3 k_sz_3_1 rfl rfl rfl (gi_isSome encI_len rfl (hS2.cf (i := 0) rfl) hx1) (getI_nn hx1) (getI_ltI hx1 rfl)) (ST.sel hS2 [1, 2] rfl rfl) ?_ ?_
        · skip
          refine ra_all (rs := [7]) (by kernel_rfl) rfl ?_
          refine ra_y 13 (i := 7) (v := .int .i64 x1) rfl rfl rfl (Y_load1 (B := B1) (i := from_.toNat * 1) (cs := (p.flatMap encI)) (v := .int .i64 x1) k_sc_3 rfl rfl (hS2.cf (i := 0) rfl) (gi_at0 encI_len hx1 rfl)) (ST.sel hS2 [1, 2] rfl rfl) ?_ ?_
          · skip
            refine ra_q 8 14 (v := .int .i64 (bits .xor .i64 x x1)) rfl rfl rfl (by kernel_rfl) (by kernel_rfl) (by kernel_rfl) (ST.sel hS2 [1, 2] rfl rfl) (fun w' hw' => (Y_bxor (k := .i64) (a := x) (b := x1) rfl rfl rfl)) ?_
            refine ra_all (rs := [9]) (by kernel_rfl) rfl ?_
            refine ra_y 15 (i := 9) (v := pt B1 (to_.toNat * 1)) rfl rfl rfl (Y_index (B := B1) (m := p.length) (c := c) (k := .i64) (i := to_) k_sl_48_3 k_sz_3_1 rfl rfl rfl (gi_isSome encI_len rfl (hS2.cf (i := 0) rfl) hx) (getI_nn hx) (getI_ltI hx rfl)) (ST.sel hS2 [1, 2] rfl rfl) ?_ ?_
            · skip
              refine ra_all (rs := [10]) (by kernel_rfl) rfl ?_
              refine ra_s0 (i := 10) rfl rfl rfl (Ys_store (i := 0) (s := 1) (B := B1) (T' := 3) (v := .int .i64 (bits .xor .i64 x x1)) (vs := [.int .i64 (bits .xor .i64 x x1)]) (k := to_.toNat * 1) (cs' := ((p.set to_.toNat (bits .xor .i64 x x1)).flatMap encI)) hS2 k_sz_3_1 rfl rfl rfl rfl rfl rfl rfl (gi_fit0 encI_len hx) (gi_set encI_len hx (bits .xor .i64 x x1) rfl) rfl) ?_ ?_
              · rintro _ w_ ⟨rfl, hS3⟩
                have hS3 : ST w0 (bl [⟨B1, 3, (p.flatMap encI), c * 1⟩, ⟨B2, 120, [.slice B3 p1.length c1], 1⟩, ⟨B3, 124, (p1.flatMap enc_Gate), c1 * 3⟩]) _ [⟨B1, 3, ((p.set to_.toNat (bits .xor .i64 x x1)).flatMap encI), c * 1⟩, ⟨B2, 120, [.slice B3 p1.length c1], 1⟩, ⟨B3, 124, (p1.flatMap enc_Gate), c1 * 3⟩] [⟨B, [.slice B1 p.length c]⟩] := hS3
                refine ⟨(ST.sel hS3 [1, 2] rfl rfl), ?_⟩
                refine ra_done (by kernel_rfl) ?_
                exact ⟨(FF.cons rfl (FF.cons rfl (FF.cons rfl FF.nil))), (hS3.sel [0, 1, 2] rfl rfl)⟩
              exact allR_nil
            exact allR_nil
          exact allR_nil
        exact allR_nil
      refine ra_y 12 (i := 6) (v := pt B1 (from_.toNat * 1)) rfl rfl rfl (Y_index (B := B1) (m := p.length) (c := c) (k := .i64) (i := from_) k_sl_48_3 k_sz_3_1 rfl rfl rfl (gi_isSome encI_len rfl (hS2.cf (i := 0) rfl) hx1) (getI_nn hx1) (getI_ltI hx1 rfl)) (ST.sel hS2 [1, 2] rfl rfl) ?_ ?_
      · skip
        refine ra_all (rs := [3, 7]) (by kernel_rfl) rfl ?_
        refine ra_y 9 (i := 3) (v := .int .i64 x) rfl rfl rfl (Y_load1 (B := B1) (i := to_.toNat * 1) (cs := (p.flatMap encI)) (v := .int .i64 x) k_sc_3 rfl rfl (hS2.cf (i := 0) rfl) (gi_at0 encI_len hx rfl)) (ST.sel hS2 [1, 2] rfl rfl) ?_ ?_
        · skip
          refine ra_all (rs := [7]) (by kernel_rfl) rfl ?_
          refine ra_y 13 (i := 7) (v := .int .i64 x1) rfl rfl rfl (Y_load1 (B := B1) (i := from_.toNat * 1) (cs := (p.flatMap encI)) (v := .int .i64 x1) k_sc_3 rfl rfl (hS2.cf (i := 0) rfl) (gi_at0 encI_len hx1 rfl)) (ST.sel hS2 [1, 2] rfl rfl) ?_ ?_
          · skip
            refine ra_q 8 14 (v := .int .i64 (bits .xor .i64 x x1)) rfl rfl rfl (by kernel_rfl) (by kernel_rfl) (by kernel_rfl) (ST.sel hS2 [1, 2] rfl rfl) (fun w' hw' => (Y_bxor (k := .i64) (a := x) (b := x1) rfl rfl rfl)) ?_
            refine ra_all (rs := [9]) (by kernel_rfl) rfl ?_
            refine ra_y 15 (i := 9) (v := pt B1 (to_.toNat * 1)) rfl rfl rfl (Y_index (B := B1) (m := p.length) (c := c) (k := .i64) (i := to_) k_sl_48_3 k_sz_3_1 rfl rfl rfl (gi_isSome encI_len rfl (hS2.cf (i := 0) rfl) hx) (getI_nn hx) (getI_ltI hx rfl)) (ST.sel hS2 [1, 2] rfl rfl) ?_ ?_
            · skip
              refine ra_all (rs := [10]) (by kernel_rfl) rfl ?_
              refine ra_s0 (i := 10) rfl rfl rfl (Ys_store (i := 0) (s := 1) (B := B1) (T' := 3) (v := .int .i64 (bits .xor .i64 x x1)) (vs := [.int .i64 (bits .xor .i64 x x1)]) (k := to_.toNat * 1) (cs' := ((p.set to_.toNat (bits .xor .i64 x x1)).flatMap encI)) hS2 k_sz_3_1 rfl rfl rfl rfl rfl rfl rfl (gi_fit0 encI_len hx) (gi_set encI_len hx (bits .xor .i64 x x1) rfl) rfl) ?_ ?_
              · rintro _ w_1 ⟨rfl, hS4⟩
                have hS4 : ST w0 (bl [⟨B1, 3, (p.flatMap encI), c * 1⟩, ⟨B2, 120, [.slice B3 p1.length c1], 1⟩, ⟨B3, 124, (p1.flatMap enc_Gate), c1 * 3⟩]) _ [⟨B1, 3, ((p.set to_.toNat (bits .xor .i64 x x1)).flatMap encI), c * 1⟩, ⟨B2, 120, [.slice B3 p1.length c1], 1⟩, ⟨B3, 124, (p1.flatMap enc_Gate), c1 * 3⟩] [⟨B, [.slice B1 p.length c]⟩] := hS4
                refine ⟨(ST.sel hS4 [1, 2] rfl rfl), ?_⟩
                refine ra_done (by kernel_rfl) ?_
                exact ⟨(FF.cons rfl (FF.cons rfl (FF.cons rfl FF.nil))), (hS4.sel [0, 1, 2] rfl rfl)⟩
              exact allR_nil
            exact allR_nil
          exact allR_nil
        refine ra_y 13 (i := 7) (v := .int .i64 x1) rfl rfl rfl (Y_load1 (B := B1) (i := from_.toNat * 1) (cs := (p.flatMap encI)) (v := .int .i64 x1) k_sc_3 rfl rfl (hS2.cf (i := 0) rfl) (gi_at0 encI_len hx1 rfl)) (ST.sel hS2 [1, 2] rfl rfl) ?_ ?_
        · skip
          refine ra_all (rs := [3]) (by kernel_rfl) rfl ?_
          refine ra_y 9 (i := 3) (v := .int .i64 x) rfl rfl rfl (Y_load1 (B := B1) (i := to_.toNat * 1) (cs := (p.flatMap encI)) (v := .int .i64 x) k_sc_3 rfl rfl (hS2.cf (i := 0) rfl) (gi_at0 encI_len hx rfl)) (ST.sel hS2 [1, 2] rfl rfl) ?_ ?_
          · skip
            refine ra_q 8 14 (v := .int .i64 (bits .xor .i64 x x1)) rfl rfl rfl (by kernel_rfl) (by kernel_rfl) (by kernel_rfl) (ST.sel hS2 [1, 2] rfl rfl) (fun w' hw' => (Y_bxor (k := .i64) (a := x) (b := x1) rfl rfl rfl)) ?_
            refine ra_all (rs := [9]) (by kernel_rfl) rfl ?_
            refine ra_y 15 (i := 9) (v := pt B1 (to_.toNat * 1)) rfl rfl rfl (Y_index (B := B1) (m := p.length) (c := c) (k := .i64) (i := to_) k_sl_48_3 k_sz_3_1 rfl rfl rfl (gi_isSome encI_len rfl (hS2.cf (i := 0) rfl) hx) (getI_nn hx) (getI_ltI hx rfl)) (ST.sel hS2 [1, 2] rfl rfl) ?_ ?_
            · skip
              refine ra_all (rs := [10]) (by kernel_rfl) rfl ?_
              refine ra_s0 (i := 10) rfl rfl rfl (Ys_store (i := 0) (s := 1) (B := B1) (T' := 3) (v := .int .i64 (bits .xor .i64 x x1)) (vs := [.int .i64 (bits .xor .i64 x x1)]) (k := to_.toNat * 1) (cs' := ((p.set to_.toNat (bits .xor .i64 x x1)).flatMap encI)) hS2 k_sz_3_1 rfl rfl rfl rfl rfl rfl rfl (gi_fit0 encI_len hx) (gi_set encI_len hx (bits .xor .i64 x x1) rfl) rfl) ?_ ?_
              · rintro _ w_2 ⟨rfl, hS5⟩
                have hS5 : ST w0 (bl [⟨B1, 3, (p.flatMap encI), c * 1⟩, ⟨B2, 120, [.slice B3 p1.length c1], 1⟩, ⟨B3, 124, (p1.flatMap enc_Gate), c1 * 3⟩]) _ [⟨B1, 3, ((p.set to_.toNat (bits .xor .i64 x x1)).flatMap encI), c * 1⟩, ⟨B2, 120, [.slice B3 p1.length c1], 1⟩, ⟨B3, 124, (p1.flatMap enc_Gate), c1 * 3⟩] [⟨B, [.slice B1 p.length c]⟩] := hS5
                refine ⟨(ST.sel hS5 [1, 2] rfl rfl), ?_⟩
                refine ra_done (by kernel_rfl) ?_
                exact ⟨(FF.cons rfl (FF.cons rfl (FF.cons rfl FF.nil))), (hS5.sel [0, 1, 2] rfl rfl)⟩
              exact allR_nil
            exact allR_nil
          exact allR_nil
        exact allR_nil
      exact allR_nil
    refine ra_y 12 (i := 6) (v := pt B1 (from_.toNat * 1)) rfl rfl rfl (Y_index (B := B1) (m := p.length) (c := c) (k := .i64) (i := from_) k_sl_48_3 k_sz_3_1 rfl rfl rfl (gi_isSome encI_len rfl (hS2.cf (i := 0) rfl) hx1) (getI_nn hx1) (getI_ltI hx1 rfl)) (ST.sel hS2 [1, 2] rfl rfl) ?_ ?_
    · skip
      refine ra_all (rs := [2, 7]) (by kernel_rfl) rfl ?_
      refine ra_y 8 (i := 2) (v := pt B1 (to_.toNat * 1)) rfl rfl rfl (Y_index (B := B1) (m := p.length) (c := c) (k := .i64) (i := to_) k_sl_48_3 k_sz_3_1 rfl rfl rfl (gi_isSome encI_len rfl (hS2.cf (i := 0) rfl) hx) (getI_nn hx) (getI_ltI hx rfl)) (ST.sel hS2 [1, 2] rfl rfl) ?_ ?_
      · skip
        refine ra_all (rs := [3, 7]) (by kernel_rfl) rfl ?_
        refine ra_y 9 (i := 3) (v := .int .i64 x) rfl rfl rfl (Y_load1 (B := B1) (i := to_.toNat * 1) (cs := (p.flatMap encI)) (v := .int .i64 x) k_sc_3 rfl rfl (hS2.cf (i := 0) rfl) (gi_at0 encI_len hx rfl)) (ST.sel hS2 [1, 2] rfl rfl) ?_ ?_
        · skip
          refine ra_all (rs := [7]) (by kernel_rfl) rfl ?_
          refine ra_y 13 (i := 7) (v := .int .i64 x1) rfl rfl rfl (Y_load1 (B := B1) (i := from_.toNat * 1) (cs := (p.flatMap encI)) (v := .int .i64 x1) k_sc_3 rfl rfl (hS2.cf (i := 0) rfl) (gi_at0 encI_len hx1 rfl)) (ST.sel hS2 [1, 2] rfl rfl) ?_ ?_
          · skip
            refine ra_q 8 14 (v := .int .i64 (bits .xor .i64 x x1)) rfl rfl rfl (by kernel_rfl) (by kernel_rfl) (by kernel_rfl) (ST.sel hS2 [1, 2] rfl rfl) (fun w' hw' => (Y_bxor (k := .i64) (a := x) (b := x1) rfl rfl rfl)) ?_
            refine ra_all (rs := [9]) (by kernel_rfl) rfl ?_
            refine ra_y 15 (i := 9) (v := pt B1 (to_.toNat * 1)) rfl rfl rfl (Y_index (B := B1) (m := p.length) (c := c) (k := .i64) (i := to_) k_sl_48_3 k_sz_3_1 rfl rfl rfl (gi_isSome encI_len rfl (hS2.cf (i := 0) rfl) hx) (getI_nn hx) (getI_ltI hx rfl)) (ST.sel hS2 [1, 2] rfl rfl) ?_ ?_
            · skip
              refine ra_all (rs := [10]) (by kernel_rfl) rfl ?_
              refine ra_s0 (i := 10) rfl rfl rfl (Ys_store (i := 0) (s := 1) (B := B1) (T' := 3) (v := .int .i64 (bits .xor .i64 x x1)) (vs := [.int .i64 (bits .xor .i64 x x1)]) (k := to_.toNat * 1) (cs' := ((p.set to_.toNat (bits .xor .i64 x x1)).flatMap encI)) hS2 k_sz_3_1 rfl rfl rfl rfl rfl rfl rfl (gi_fit0 encI_len hx) (gi_set encI_len hx (bits .xor .i64 x x1) rfl) rfl) ?_ ?_
              · rintro _ w_3 ⟨rfl, hS6⟩
                have hS6 : ST w0 (bl [⟨B1, 3, (p.flatMap encI), c * 1⟩, ⟨B2, 120, [.slice B3 p1.length c1], 1⟩, ⟨B3, 124, (p1.flatMap enc_Gate), c1 * 3⟩]) _ [⟨B1, 3, ((p.set to_.toNat (bits .xor .i64 x x1)).flatMap encI), c * 1⟩, ⟨B2, 120, [.slice B3 p1.length c1], 1⟩, ⟨B3, 124, (p1.flatMap enc_Gate), c1 * 3⟩] [⟨B, [.slice B1 p.length c]⟩] := hS6
                refine ⟨(ST.sel hS6 [1, 2] rfl rfl), ?_⟩
                refine ra_done (by kernel_rfl) ?_
                exact ⟨(FF.cons rfl (FF.cons rfl (FF.cons rfl FF.nil))), (hS6.sel [0, 1, 2] rfl rfl)⟩
              exact allR_nil
            exact allR_nil
          exact allR_nil
        refine ra_y 13 (i := 7) (v := .int .i64 x1) rfl rfl rfl (Y_load1 (B := B1) (i := from_.toNat * 1) (cs := (p.flatMap encI)) (v := .int .i64 x1) k_sc_3 rfl rfl (hS2.cf (i := 0) rfl) (gi_at0 encI_len hx1 rfl)) (ST.sel hS2 [1, 2] rfl rfl) ?_ ?_
        · skip
          refine ra_all (rs := [3]) (by kernel_rfl) rfl ?_
          refine ra_y 9 (i := 3) (v := .int .i64 x) rfl rfl rfl (Y_load1 (B := B1) (i := to_.toNat * 1) (cs := (p.flatMap encI)) (v := .int .i64 x) k_sc_3 rfl rfl (hS2.cf (i := 0) rfl) (gi_at0 encI_len hx rfl)) (ST.sel hS2 [1, 2] rfl rfl) ?_ ?_
          · skip
            refine ra_q 8 14 (v := .int .i64 (bits .xor .i64 x x1)) rfl rfl rfl (by kernel_rfl) (by kernel_rfl) (by kernel_rfl) (ST.sel hS2 [1, 2] rfl rfl) (fun w' hw' => (Y_bxor (k := .i64) (a := x) (b := x1) rfl rfl rfl)) ?_
            refine ra_all (rs := [9]) (by kernel_rfl) rfl ?_
            refine ra_y 15 (i := 9) (v := pt B1 (to_.toNat * 1)) rfl rfl rfl (Y_index (B := B1) (m := p.length) (c := c) (k := .i64) (i := to_) k_sl_48_3 k_sz_3_1 rfl rfl rfl (gi_isSome encI_len rfl (hS2.cf (i := 0) rfl) hx) (getI_nn hx) (getI_ltI hx rfl)) (ST.sel hS2 [1, 2] rfl rfl) ?_ ?_
            · skip
              refine ra_all (rs := [10]) (by kernel_rfl) rfl ?_
              refine ra_s0 (i := 10) rfl rfl rfl (Ys_store (i := 0) (s := 1) (B := B1) (T' := 3) (v := .int .i64 (bits .xor .i64 x x1)) (vs := [.int .i64 (bits .xor .i64 x x1)]) (k := to_.toNat * 1) (cs' := ((p.set to_.toNat (bits .xor .i64 x x1)).flatMap encI)) hS2 k_sz_3_1 rfl rfl rfl rfl rfl rfl rfl (gi_fit0 encI_len hx) (gi_set encI_len hx (bits .xor .i64 x x1) rfl) rfl) ?_ ?_
              · rintro _ w_4 ⟨rfl, hS7⟩
                have hS7 : ST w0 (bl [⟨B1, 3, (p.flatMap encI), c * 1⟩, ⟨B2, 120, [.slice B3 p1.length c1], 1⟩, ⟨B3, 124, (p1.flatMap enc_Gate), c1 * 3⟩]) _ [⟨B1, 3, ((p.set to_.toNat (bits .xor .i64 x x1)).flatMap encI), c * 1⟩, ⟨B2, 120, [.slice B3 p1.length c1], 1⟩, ⟨B3, 124, (p1.flatMap enc_Gate), c1 * 3⟩] [⟨B, [.slice B1 p.length c]⟩] := hS7
                refine ⟨(ST.sel hS7 [1, 2] rfl rfl), ?_⟩
                refine ra_done (by kernel_rfl) ?_
                exact ⟨(FF.cons rfl (FF.cons rfl (FF.cons rfl FF.nil))), (hS7.sel [0, 1, 2] rfl rfl)⟩
              exact allR_nil
            exact allR_nil
          exact allR_nil
        exact allR_nil
      refine ra_y 13 (i := 7) (v := .int .i64 x1) rfl rfl rfl (Y_load1 (B := B1) (i := from_.toNat * 1) (cs := (p.flatMap encI)) (v := .int .i64 x1) k_sc_3 rfl rfl (hS2.cf (i := 0) rfl) (gi_at0 encI_len hx1 rfl)) (ST.sel hS2 [1, 2] rfl rfl) ?_ ?_
      · skip
        refine ra_all (rs := [2]) (by kernel_rfl) rfl ?_
        refine ra_y 8 (i := 2) (v := pt B1 (to_.toNat * 1)) rfl rfl rfl (Y_index (B := B1) (m := p.length) (c := c) (k := .i64) (i := to_) k_sl_48_3 k_sz_3_1 rfl rfl rfl (gi_isSome encI_len rfl (hS2.cf (i := 0) rfl) hx) (getI_nn hx) (getI_ltI hx rfl)) (ST.sel hS2 [1, 2] rfl rfl) ?_ ?_
        · skip
          refine ra_all (rs := [3]) (by kernel_rfl) rfl ?_
          refine ra_y 9 (i := 3) (v := .int .i64 x) rfl rfl rfl (Y_load1 (B := B1) (i := to_.toNat * 1) (cs := (p.flatMap encI)) (v := .int .i64 x) k_sc_3 rfl rfl (hS2.cf (i := 0) rfl) (gi_at0 encI_len hx rfl)) (ST.sel hS2 [1, 2] rfl rfl) ?_ ?_
          · skip
            refine ra_q 8 14 (v := .int .i64 (bits .xor .i64 x x1)) rfl rfl rfl (by kernel_rfl) (by kernel_rfl) (by kernel_rfl) (ST.sel hS2 [1, 2] rfl rfl) (fun w' hw' => (Y_bxor (k := .i64) (a := x) (b := x1) rfl rfl rfl)) ?_
            refine ra_all (rs := [9]) (by kernel_rfl) rfl ?_
            refine ra_y 15 (i := 9) (v := pt B1 (to_.toNat * 1)) rfl rfl rfl (Y_index (B := B1) (m := p.length) (c := c) (k := .i64) (i := to_) k_sl_48_3 k_sz_3_1 rfl rfl rfl (gi_isSome encI_len rfl (hS2.cf (i := 0) rfl) hx) (getI_nn hx) (getI_ltI hx rfl)) (ST.sel hS2 [1, 2] rfl rfl) ?_ ?_
            · skip
              refine ra_all (rs := [10]) (by kernel_rfl) rfl ?_
              refine ra_s0 (i := 10) rfl rfl rfl (Ys_store (i := 0) (s := 1) (B := B1) (T' := 3) (v := .int .i64 (bits .xor .i64 x x1)) (vs := [.int .i64 (bits .xor .i64 x x1)]) (k := to_.toNat * 1) (cs' := ((p.set to_.toNat (bits .xor .i64 x x1)).flatMap encI)) hS2 k_sz_3_1 rfl rfl rfl rfl rfl rfl rfl (gi_fit0 encI_len hx) (gi_set encI_len hx (bits .xor .i64 x x1) rfl) rfl) ?_ ?_
              · rintro _ w_5 ⟨rfl, hS8⟩
                have hS8 : ST w0 (bl [⟨B1, 3, (p.flatMap encI), c * 1⟩, ⟨B2, 120, [.slice B3 p1.length c1], 1⟩, ⟨B3, 124, (p1.flatMap enc_Gate), c1 * 3⟩]) _ [⟨B1, 3, ((p.set to_.toNat (bits .xor .i64 x x1)).flatMap encI), c * 1⟩, ⟨B2, 120, [.slice B3 p1.length c1], 1⟩, ⟨B3, 124, (p1.flatMap enc_Gate), c1 * 3⟩] [⟨B, [.slice B1 p.length c]⟩] := hS8
                refine ⟨(ST.sel hS8 [1, 2] rfl rfl), ?_⟩
                refine ra_done (by kernel_rfl) ?_
                exact ⟨(FF.cons rfl (FF.cons rfl (FF.cons rfl FF.nil))), (hS8.sel [0, 1, 2] rfl rfl)⟩
              exact allR_nil
            exact allR_nil
          exact allR_nil
        exact allR_nil
      exact allR_nil
    exact allR_nil
  rintro f w ⟨hf, hS1⟩
  refine cw_region ?_
  refine sq 16 rfl rfl (Y_load1 (B := B2) (i := 0) (cs := [.slice B3 p1.length c1]) (v := .slice B3 p1.length c1) k_sc_120 rfl (hf.get 3 2 rfl) (hS1.cf (i := 1) rfl) rfl) ?_
  refine sq 17 rfl rfl (Y_move (v := .int .i64 from_) rfl (hf.get 0 0 rfl)) ?_
  refine sq 18 rfl rfl (Y_move (v := .int .i64 to_) rfl (hf.get 1 1 rfl)) ?_
  refine sq 19 rfl rfl (Y_buildS (zs := [.int .i64 0, .int .i64 0, .int .i64 0]) (vs := [(0, .int .i64 9), (1, .int .i64 from_), (2, .int .i64 to_)]) (cs := [.int .i64 9, .int .i64 from_, .int .i64 to_]) k_pl_124 k_zero_124 rfl (mpc rfl (mpc rfl (mpc rfl mpn))) rfl) ?_
  refine ss 20 rfl rfl (Ys_bslice (s := 3) (len := 1) (vs := [(0, .agg #[.int .i64 9, .int .i64 from_, .int .i64 to_])]) (cs := [.int .i64 9, .int .i64 from_, .int .i64 to_]) (zs := [.int .i64 0, .int .i64 0, .int .i64 0]) (m := 3) hS1 k_sl_120_124 k_sz_124_3 k_zc_124 rfl (mpc rfl mpn) rfl rfl rfl (by kernel_rfl) (by kernel_rfl) rfl) ?_
  rintro _ w_6 ⟨b, rfl, hS9⟩
  have hS9 : ST w0 (bl [⟨B1, 3, (p.flatMap encI), c * 1⟩, ⟨B2, 120, [.slice B3 p1.length c1], 1⟩, ⟨B3, 124, (p1.flatMap enc_Gate), c1 * 3⟩]) _ [⟨B1, 3, ((p.set to_.toNat (bits .xor .i64 x x1)).flatMap encI), c * 1⟩, ⟨B2, 120, [.slice B3 p1.length c1], 1⟩, ⟨B3, 124, (p1.flatMap enc_Gate), c1 * 3⟩, ⟨some ⟨b, 0, none⟩, 124, ([(TGate.mk 9 from_ to_)].flatMap enc_Gate), 1 * 3⟩] [⟨B, [.slice B1 p.length c]⟩] := hS9
  obtain ⟨hap, hF⟩ := chk_inv hF
  refine ss 21 rfl rfl (Ys_append (s := 3) (by' := 24) (i := 2) (nn := p1.length) (c := c1) (k := 1) (len := (p1 ++ [(TGate.mk 9 from_ to_)]).length) (B := B3) (xs := ([(TGate.mk 9 from_ to_)].flatMap enc_Gate)) (cs' := ((p1 ++ [(TGate.mk 9 from_ to_)]).flatMap enc_Gate)) hS9 k_sl_120_124 k_sz_124_3 k_by_124_24 k_zero_124 rfl (by decide) rfl rfl rfl rfl (fm_lenn (l := p1) enc_Gate_len rfl) rfl (hS9.cf (i := 3) rfl) (fm_lenn (l := [(TGate.mk 9 from_ to_)]) enc_Gate_len rfl) (fm_one' (enc := enc_Gate) enc_Gate_one [(TGate.mk 9 from_ to_)]) (by have := hap; omega) (by have := hap; simp only [maxLen]; omega) (fm_app _ _) (app_len (l := p1) (l' := [(TGate.mk 9 from_ to_)]) rfl rfl)) ?_
  rintro _ w_7 ⟨B5, c3, rfl, hS10⟩
  have hS10 : ST w0 (bl [⟨B1, 3, (p.flatMap encI), c * 1⟩, ⟨B2, 120, [.slice B3 p1.length c1], 1⟩, ⟨B3, 124, (p1.flatMap enc_Gate), c1 * 3⟩]) _ [⟨B1, 3, ((p.set to_.toNat (bits .xor .i64 x x1)).flatMap encI), c * 1⟩, ⟨B2, 120, [.slice B3 p1.length c1], 1⟩, ⟨B5, 124, ((p1 ++ [(TGate.mk 9 from_ to_)]).flatMap enc_Gate), c3 * 3⟩, ⟨some ⟨b, 0, none⟩, 124, ([(TGate.mk 9 from_ to_)].flatMap enc_Gate), 1 * 3⟩] [⟨B, [.slice B1 p.length c]⟩] := hS10
  refine ss0 rfl rfl (Ys_store (i := 1) (s := 1) (B := B2) (T' := 120) (v := .slice B5 ((p1 ++ [(TGate.mk 9 from_ to_)]).length) c3) (vs := [.slice B5 ((p1 ++ [(TGate.mk 9 from_ to_)]).length) c3]) (k := 0) (cs' := [.slice B5 ((p1 ++ [(TGate.mk 9 from_ to_)]).length) c3]) hS10 k_sz_120_1 rfl (hf.get 3 2 rfl) rfl rfl rfl rfl rfl (Nat.le_of_ble_eq_true rfl) rfl rfl) ?_
  rintro _ w_8 ⟨rfl, hS11⟩
  have hS11 : ST w0 (bl [⟨B1, 3, (p.flatMap encI), c * 1⟩, ⟨B2, 120, [.slice B3 p1.length c1], 1⟩, ⟨B3, 124, (p1.flatMap enc_Gate), c1 * 3⟩]) _ [⟨B1, 3, ((p.set to_.toNat (bits .xor .i64 x x1)).flatMap encI), c * 1⟩, ⟨B2, 120, [.slice B5 ((p1 ++ [(TGate.mk 9 from_ to_)]).length) c3], 1⟩, ⟨B5, 124, ((p1 ++ [(TGate.mk 9 from_ to_)]).flatMap enc_Gate), c3 * 3⟩, ⟨some ⟨b, 0, none⟩, 124, ([(TGate.mk 9 from_ to_)].flatMap enc_Gate), 1 * 3⟩] [⟨B, [.slice B1 p.length c]⟩] := hS11
  refine rw_nil ?_
  obtain ⟨rfl, rfl⟩ := pr2 (some_inj hF)
  exact ret0 Try.results157  ⟨B5, c3, rfl, (set_len _ _ _ rfl), (ST.subR (R' := []) (hS11.sel [0, 1, 2] rfl rfl) (fun _ h => by cases h))⟩

theorem c_impl_eliminated (m : TLinear) (B : Option Addr) (c n : Nat) (w0 : World) (hn : m.Rows.length = n) (hS : ST w0 [] w0 [] [⟨B, (m.Rows.flatMap encI)⟩]) {r_ : List TGate} (hF : F_impl_eliminated m = some r_) :
    CV Try.prog 124 #[.agg #[.slice B n c]] w0 (fun v w' => ∃ (B1 : Option Addr) (c1 : Nat), v = .slice B1 r_.length c1 ∧ ST w0 [] w' [⟨B1, 124, (r_.flatMap enc_Gate), c1 * 3⟩] []) := by
  subst hn
  unfold F_impl_eliminated at hF
  refine cv_of_cw 74 Try.func124 rfl Try.ntmps124 rfl ?_
  refine cw_seq ?_
  refine cw_region ?_
  refine ss 1 rfl rfl (Ys_box (T := 50) (v := .agg #[.slice B m.Rows.length c]) (cs := [.slice B m.Rows.length c]) (m := 1) hS rfl rfl rfl rfl) ?_
  rintro _ w_ ⟨b, rfl, hS1⟩
  refine sq 2 rfl rfl (Y_assign (v := .slice none 0 0) rfl rfl) ?_
  refine rw_nil ?_
  refine cw_seq ?_
  refine cw_region ?_
  refine sq 9 rfl rfl (Y_fieldAddr (B := some ⟨b, 0, none⟩) (i := 0) (s := 0) k_fd_50_0_0_48 k_sz_48_1 rfl rfl) ?_
  refine sq 10 rfl rfl (Y_load1 (B := some ⟨b, 0, none⟩) (i := 0) (cs := [.slice B m.Rows.length c]) (v := .slice B m.Rows.length c) k_sc_48 rfl rfl (hS1.cf (i := 0) rfl) rfl) ?_
  obtain ⟨r_1, hc, hF⟩ := bind_inv hF
  refine sc 11 rfl rfl (Yc_func (g := 156) (vs := [.slice B m.Rows.length c]) k_call_156 rfl (mc rfl mn) (c_slices_Clone_int_int m.Rows B c m.Rows.length _ rfl (hS1.inn0 [(true, 0)] rfl) hc)) ?_
  rintro _ w_1 ⟨B2, c2, rfl, hd⟩
  have hS2 := hS1.out0 hd
  have hS2 : ST w0 [] _ [⟨some ⟨b, 0, none⟩, 50, [.slice B m.Rows.length c], 1⟩, ⟨B2, 3, (r_1.flatMap encI), c2 * 1⟩] [⟨B, (m.Rows.flatMap encI)⟩] := hS2
  refine ss 12 rfl rfl (Ys_bslice0 (s := 3) (e := 124) hS2 k_sl_120_124 k_sz_124_3 rfl) ?_
  rintro _ w_2 ⟨b1, rfl, hS3⟩
  have hS3 : ST w0 [] _ [⟨some ⟨b, 0, none⟩, 50, [.slice B m.Rows.length c], 1⟩, ⟨B2, 3, (r_1.flatMap encI), c2 * 1⟩, ⟨some ⟨b1, 0, none⟩, 124, ([].flatMap enc_Gate), 0 * 3⟩] [⟨B, (m.Rows.flatMap encI)⟩] := hS3
  refine ss 3 rfl rfl (Ys_alloc (T := 48) (cs := [.slice none 0 0]) (m := 1) hS3 k_zero_48 rfl rfl rfl) ?_
  rintro _ w_3 ⟨b2, rfl, hS4⟩
  have hS4 : ST w0 [] _ [⟨some ⟨b, 0, none⟩, 50, [.slice B m.Rows.length c], 1⟩, ⟨B2, 3, (r_1.flatMap encI), c2 * 1⟩, ⟨some ⟨b1, 0, none⟩, 124, ([].flatMap enc_Gate), 0 * 3⟩, ⟨some ⟨b2, 0, none⟩, 48, [.slice none 0 0], 1⟩] [⟨B, (m.Rows.flatMap encI)⟩] := hS4
  refine ss 4 rfl rfl (Ys_alloc (T := 120) (cs := [.slice none 0 0]) (m := 1) hS4 k_zero_120 rfl rfl rfl) ?_
  rintro _ w_4 ⟨b3, rfl, hS5⟩
  have hS5 : ST w0 [] _ [⟨some ⟨b, 0, none⟩, 50, [.slice B m.Rows.length c], 1⟩, ⟨B2, 3, (r_1.flatMap encI), c2 * 1⟩, ⟨some ⟨b1, 0, none⟩, 124, ([].flatMap enc_Gate), 0 * 3⟩, ⟨some ⟨b2, 0, none⟩, 48, [.slice none 0 0], 1⟩, ⟨some ⟨b3, 0, none⟩, 120, [.slice none 0 0], 1⟩] [⟨B, (m.Rows.flatMap encI)⟩] := hS5
  refine ss0 rfl rfl (Ys_store (i := 3) (s := 1) (B := some ⟨b2, 0, none⟩) (T' := 48) (v := .slice B2 r_1.length c2) (vs := [.slice B2 r_1.length c2]) (k := 0) (cs' := [.slice B2 r_1.length c2]) hS5 k_sz_48_1 rfl rfl rfl rfl rfl rfl rfl (Nat.le_of_ble_eq_true rfl) rfl rfl) ?_
  rintro _ w_5 ⟨rfl, hS6⟩
  have hS6 : ST w0 [] _ [⟨some ⟨b, 0, none⟩, 50, [.slice B m.Rows.length c], 1⟩, ⟨B2, 3, (r_1.flatMap encI), c2 * 1⟩, ⟨some ⟨b1, 0, none⟩, 124, ([].flatMap enc_Gate), 0 * 3⟩, ⟨some ⟨b2, 0, none⟩, 48, [.slice B2 r_1.length c2], 1⟩, ⟨some ⟨b3, 0, none⟩, 120, [.slice none 0 0], 1⟩] [⟨B, (m.Rows.flatMap encI)⟩] := hS6
  refine ss0 rfl rfl (Ys_store (i := 4) (s := 1) (B := some ⟨b3, 0, none⟩) (T' := 120) (v := .slice (some ⟨b1, 0, none⟩) 0 0) (vs := [.slice (some ⟨b1, 0, none⟩) 0 0]) (k := 0) (cs' := [.slice (some ⟨b1, 0, none⟩) 0 0]) hS6 k_sz_120_1 rfl rfl rfl rfl rfl rfl rfl (Nat.le_of_ble_eq_true rfl) rfl rfl) ?_
  rintro _ w_6 ⟨rfl, hS7⟩
  have hS7 : ST w0 [] _ [⟨some ⟨b, 0, none⟩, 50, [.slice B m.Rows.length c], 1⟩, ⟨B2, 3, (r_1.flatMap encI), c2 * 1⟩, ⟨some ⟨b1, 0, none⟩, 124, ([].flatMap enc_Gate), 0 * 3⟩, ⟨some ⟨b2, 0, none⟩, 48, [.slice B2 r_1.length c2], 1⟩, ⟨some ⟨b3, 0, none⟩, 120, [.slice (some ⟨b1, 0, none⟩) 0 0], 1⟩] [⟨B, (m.Rows.flatMap encI)⟩] := hS7
  refine rw_nil ?_
  refine cw_seq ?_
  refine cw_region ?_
  refine sq 13 rfl rfl (Y_makeFunc (cs := [pt (some ⟨b2, 0, none⟩) 0, pt (some ⟨b3, 0, none⟩) 0]) rfl rfl (mc rfl (mc rfl mn))) ?_
  refine sq 5 rfl rfl (Y_assign (v := .func (.func 157) #[] #[pt (some ⟨b2, 0, none⟩) 0, pt (some ⟨b3, 0, none⟩) 0]) rfl rfl) ?_
  refine rw_nil ?_
  refine cw_seq ?_
  refine cw_seq ?_
  refine cw_region ?_
  refine sq 14 rfl rfl (Y_load1 (B := some ⟨b2, 0, none⟩) (i := 0) (cs := [.slice B2 r_1.length c2]) (v := .slice B2 r_1.length c2) k_sc_48 rfl rfl (hS7.cf (i := 3) rfl) rfl) ?_
  refine sq 15 rfl rfl (Y_len (B := B2) (m := r_1.length) (c := c2) k_sl_48_3 rfl rfl) ?_
  refine sq 16 rfl rfl (Y_move (v := .int .i64 0) rfl rfl) ?_
  refine rw_nil ?_
  obtain ⟨hN, hF⟩ := chk_inv hF
  obtain ⟨z, hz, hF1⟩ := bind_inv hF
  refine cw_block ?_
  refine cw_loop (fun k f w => ∃ (i : Nat) (rows : List Int) (out : List TGate) (B3 : Option Addr) (c3 : Nat), FF f [(3, pt (some ⟨b2, 0, none⟩) 0), (4, pt (some ⟨b3, 0, none⟩) 0), (5, .func (.func 157) #[] #[pt (some ⟨b2, 0, none⟩) 0, pt (some ⟨b3, 0, none⟩) 0]), (15, .int .i64 (r_1.length : Int)), (16, .int .i64 (i : Int))] ∧ rows.length = r_1.length ∧ ST w0 [] w [⟨some ⟨b2, 0, none⟩, 48, [.slice B2 r_1.length c2], 1⟩, ⟨B2, 3, (rows.flatMap encI), c2 * 1⟩, ⟨some ⟨b3, 0, none⟩, 120, [.slice B3 out.length c3], 1⟩, ⟨B3, 124, (out.flatMap enc_Gate), c3 * 3⟩] [⟨B, (m.Rows.flatMap encI)⟩] ∧ i + k = r_1.length ∧ forN (F_impl_eliminated_l1 r_1) k i (rows, out) = some z) r_1.length ⟨0, r_1, [], some ⟨b1, 0, none⟩, 0, (FF.cons rfl (FF.cons rfl (FF.cons rfl (FF.cons rfl (FF.cons rfl FF.nil))))), rfl, (hS7.sel [3, 1, 4, 2] rfl rfl), Nat.zero_add _, hz⟩ ?_
  rintro k_ f w ⟨i, rows, out, B3, c3, hf, hl, hS8, hik, hL⟩
  refine cw_seq ?_
  refine cw_region ?_
  refine sq 17 rfl rfl (Y_lt (k := .i64) (a := (i : Int)) (b := (r_1.length : Int)) rfl (hf.get 16 4 rfl) (hf.get 15 3 rfl)) ?_
  refine rw_nil ?_
  refine cw_seq ?_
  refine cw_cond (b := (decide ((i : Int) < (r_1.length : Int)))) rfl (fun hlt => ?_) (fun hlt => ?_)
  · skip
    have hlt1 : i < r_1.length := by have h := of_decide_eq_true hlt; omega
    obtain ⟨k_1, rfl⟩ : ∃ k2, k_ = k2 + 1 := ⟨k_ - 1, by omega⟩
    obtain ⟨y, hb, hL1⟩ := forN_go hL
    unfold F_impl_eliminated_l1 at hb
    refine cw_skip ?_
    refine cw_seq ?_
    refine cw_block ?_
    refine cw_seq ?_
    refine cw_region ?_
    refine sq 18 rfl rfl (Y_move (v := .int .i64 (i : Int)) rfl (hf.get 16 4 rfl)) ?_
    refine sq 6 rfl rfl (Y_assign (v := .int .i64 (i : Int)) rfl rfl) ?_
    refine rw_nil ?_
    refine cw_seq ?_
    refine cw_seq ?_
    refine cw_region ?_
    refine sq 19 rfl rfl (Y_move (v := .int .i64 (i : Int)) rfl rfl) ?_
    refine sq 20 rfl rfl (Y_add (k := .i64) (a := (i : Int)) (b := 1) rfl rfl rfl) ?_
    refine sq 7 rfl rfl (Y_assign (v := .int .i64 (IntKind.i64.wrap ((i : Int) + 1))) rfl rfl) ?_
    refine rw_nil ?_
    obtain ⟨z1, hz1, hF2⟩ := bind_inv hb
    refine cw_block ?_
    refine cw_loop (fun k f w => ∃ (rows1 : List Int) (out1 : List TGate) (i1 : Int) (B4 : Option Addr) (c4 : Nat), FF f [(3, pt (some ⟨b2, 0, none⟩) 0), (4, pt (some ⟨b3, 0, none⟩) 0), (5, .func (.func 157) #[] #[pt (some ⟨b2, 0, none⟩) 0, pt (some ⟨b3, 0, none⟩) 0]), (6, .int .i64 (i : Int)), (7, .int .i64 i1), (15, .int .i64 (r_1.length : Int)), (16, .int .i64 (i : Int))] ∧ rows1.length = r_1.length ∧ ST w0 [] w [⟨some ⟨b2, 0, none⟩, 48, [.slice B2 r_1.length c2], 1⟩, ⟨B2, 3, (rows1.flatMap encI), c2 * 1⟩, ⟨some ⟨b3, 0, none⟩, 120, [.slice B4 out1.length c4], 1⟩, ⟨B4, 124, (out1.flatMap enc_Gate), c4 * 3⟩] [⟨B, (m.Rows.flatMap encI)⟩] ∧ whX (F_impl_eliminated_l2 r_1 i) k (rows1, out1, i1) = some z1) fuel ⟨rows, out, (IntKind.i64.wrap ((i : Int) + 1)), B3, c3, (FF.cons (hf.get 3 0 rfl) (FF.cons (hf.get 4 1 rfl) (FF.cons (hf.get 5 2 rfl) (FF.cons rfl (FF.cons rfl (FF.cons (hf.get 15 3 rfl) (FF.cons (hf.get 16 4 rfl) FF.nil))))))), hl, (hS8.sel [0, 1, 2, 3] rfl rfl), hz1⟩ ?_
    rintro k_2 f w ⟨rows1, out1, i1, B4, c4, hf1, hl1, hS9, hL2⟩
    obtain ⟨k_3, y1, rfl, hb1, hL3⟩ := whX_go hL2
    unfold F_impl_eliminated_l2 at hb1
    refine cw_seq ?_
    refine cw_seq ?_
    refine cw_region ?_
    refine sq 21 rfl rfl (Y_move (v := .int .i64 i1) rfl (hf1.get 7 4 rfl)) ?_
    refine sq 22 rfl rfl (Y_load1 (B := some ⟨b2, 0, none⟩) (i := 0) (cs := [.slice B2 r_1.length c2]) (v := .slice B2 r_1.length c2) k_sc_48 rfl (hf1.get 3 0 rfl) (hS9.cf (i := 0) rfl) rfl) ?_
    refine sq 23 rfl rfl (Y_len (B := B2) (m := r_1.length) (c := c2) k_sl_48_3 rfl rfl) ?_
    refine sq 24 rfl rfl (Y_lt (k := .i64) (a := i1) (b := (r_1.length : Int)) rfl rfl rfl) ?_
    refine sq 25 rfl rfl (Y_move (v := .bool (decide (i1 < (r_1.length : Int)))) rfl rfl) ?_
    refine sgq 26 (B := (decide (i1 < (r_1.length : Int)))) (v := .slice B2 r_1.length c2) rfl rfl (wt_t (gd_of (t := 25) (by kernel_rfl) rfl)) (fun hg => (Y_load1 (B := some ⟨b2, 0, none⟩) (i := 0) (cs := [.slice B2 r_1.length c2]) (v := .slice B2 r_1.length c2) k_sc_48 rfl (hf1.get 3 0 rfl) (hS9.cf (i := 0) rfl) rfl)) ?_
    refine sgq 27 (B := (decide (i1 < (r_1.length : Int)))) (v := .int .i64 (i : Int)) rfl rfl (wt_t (gd_of (t := 25) (by kernel_rfl) rfl)) (fun hg1 => (Y_move (v := .int .i64 (i : Int)) rfl (hf1.get 6 3 rfl))) ?_
    obtain ⟨x, hx, hb1⟩ := bind_inv hb1
    refine sgq 28 (B := (decide (i1 < (r_1.length : Int)))) (v := pt B2 ((i : Int).toNat * 1)) rfl rfl (wt_t (gd_of (t := 25) (by kernel_rfl) rfl)) (fun hg2 => (Y_index (B := B2) (m := r_1.length) (c := c2) (k := .i64) (i := (i : Int)) k_sl_48_3 k_sz_3_1 rfl (gv_of (B := (decide (i1 < (r_1.length : Int)))) (v := .slice B2 r_1.length c2) hg2) (gv_of (B := (decide (i1 < (r_1.length : Int)))) (v := .int .i64 (i : Int)) hg2) (gi_isSome encI_len rfl (hS9.cf (i := 1) rfl) (gb_inv hx hg2)) (getI_nn (gb_inv hx hg2)) (getI_ltI (gb_inv hx hg2) hl1))) ?_
    refine sgq 29 (B := (decide (i1 < (r_1.length : Int)))) (v := .int .i64 x) rfl rfl (wt_t (gd_of (t := 25) (by kernel_rfl) rfl)) (fun hg3 => (Y_load1 (B := B2) (i := (i : Int).toNat * 1) (cs := (rows1.flatMap encI)) (v := .int .i64 x) k_sc_3 rfl (gv_of (B := (decide (i1 < (r_1.length : Int)))) (v := pt B2 ((i : Int).toNat * 1)) hg3) (hS9.cf (i := 1) rfl) (gi_at0 encI_len (gb_inv hx hg3) rfl))) ?_
    refine sgq 30 (B := (decide (i1 < (r_1.length : Int)))) (v := .int .i64 (i : Int)) rfl rfl (wt_t (gd_of (t := 25) (by kernel_rfl) rfl)) (fun hg4 => (Y_move (v := .int .i64 (i : Int)) rfl (hf1.get 6 3 rfl))) ?_
    obtain ⟨hsh, hb1⟩ := chk_inv hb1
    refine sgq 31 (B := (decide (i1 < (r_1.length : Int)))) (v := .int .i64 (shrK .i64 x (i : Int))) rfl rfl (wt_t (gd_of (t := 25) (by kernel_rfl) rfl)) (fun hg5 => (Y_shr (k := .i64) (a := x) (k' := .i64) (b := (i : Int)) rfl (gv_of (B := (decide (i1 < (r_1.length : Int)))) (v := .int .i64 x) hg5) (gv_of (B := (decide (i1 < (r_1.length : Int)))) (v := .int .i64 (i : Int)) hg5) (hsh hg5))) ?_
    refine sgq 32 (B := (decide (i1 < (r_1.length : Int)))) (v := .int .i64 (bits .and .i64 (shrK .i64 x (i : Int)) 1)) rfl rfl (wt_t (gd_of (t := 25) (by kernel_rfl) rfl)) (fun hg6 => (Y_band (k := .i64) (a := (shrK .i64 x (i : Int))) (b := 1) rfl (gv_of (B := (decide (i1 < (r_1.length : Int)))) (v := .int .i64 (shrK .i64 x (i : Int))) hg6) rfl)) ?_
    refine sgq 33 (B := (decide (i1 < (r_1.length : Int)))) (v := .bool ((bits .and .i64 (shrK .i64 x (i : Int)) 1) == 0)) rfl rfl (wt_t (gd_of (t := 25) (by kernel_rfl) rfl)) (fun hg7 => (Y_eq (k := .i64) (a := (bits .and .i64 (shrK .i64 x (i : Int)) 1)) (b := 0) rfl (gv_of (B := (decide (i1 < (r_1.length : Int)))) (v := .int .i64 (bits .and .i64 (shrK .i64 x (i : Int)) 1)) hg7) rfl)) ?_
    refine sq 34 rfl rfl (Y_and (b := (decide (i1 < (r_1.length : Int)))) (z := ((bits .and .i64 (shrK .i64 x (i : Int)) 1) == 0)) rfl rfl rfl rfl) ?_
    refine rw_nil ?_
    refine cw_cond (b := ((decide (i1 < (r_1.length : Int))) && ((bits .and .i64 (shrK .i64 x (i : Int)) 1) == 0))) rfl (fun hb2 => ?_) (fun hb2 => ?_)
    · skip
      have hF3 := ct hb1 hb2
      refine cw_skip ?_
      refine cw_seq ?_
      obtain ⟨z2, hz2, hF4⟩ := bind_inv hF3
      refine cw_mid (fun f w => ∃ (rows2 : List Int) (out2 : List TGate) (B5 : Option Addr) (c5 : Nat), (rows2, out2) = z2 ∧ FF f [(3, pt (some ⟨b2, 0, none⟩) 0), (4, pt (some ⟨b3, 0, none⟩) 0), (5, .func (.func 157) #[] #[pt (some ⟨b2, 0, none⟩) 0, pt (some ⟨b3, 0, none⟩) 0]), (6, .int .i64 (i : Int)), (7, .int .i64 i1), (15, .int .i64 (r_1.length : Int)), (16, .int .i64 (i : Int))] ∧ rows2.length = r_1.length ∧ ST w0 [] w [⟨some ⟨b2, 0, none⟩, 48, [.slice B2 r_1.length c2], 1⟩, ⟨B2, 3, (rows2.flatMap encI), c2 * 1⟩, ⟨some ⟨b3, 0, none⟩, 120, [.slice B5 out2.length c5], 1⟩, ⟨B5, 124, (out2.flatMap enc_Gate), c5 * 3⟩] [⟨B, (m.Rows.flatMap encI)⟩]) ?_ ?_
      · skip
        refine cw_block ?_
        refine cw_seq ?_
        refine cw_region ?_
        refine sq 37 rfl rfl (Y_load1 (B := some ⟨b2, 0, none⟩) (i := 0) (cs := [.slice B2 r_1.length c2]) (v := .slice B2 r_1.length c2) k_sc_48 rfl (hf1.get 3 0 rfl) (hS9.cf (i := 0) rfl) rfl) ?_
        refine sq 38 rfl rfl (Y_move (v := .int .i64 i1) rfl (hf1.get 7 4 rfl)) ?_
        obtain ⟨x1, hx1, hz2⟩ := bind_inv hz2
        refine sq 39 rfl rfl (Y_index (B := B2) (m := r_1.length) (c := c2) (k := .i64) (i := i1) k_sl_48_3 k_sz_3_1 rfl rfl rfl (gi_isSome encI_len rfl (hS9.cf (i := 1) rfl) hx1) (getI_nn hx1) (getI_ltI hx1 hl1)) ?_
        refine sq 40 rfl rfl (Y_load1 (B := B2) (i := i1.toNat * 1) (cs := (rows1.flatMap encI)) (v := .int .i64 x1) k_sc_3 rfl rfl (hS9.cf (i := 1) rfl) (gi_at0 encI_len hx1 rfl)) ?_
        refine sq 41 rfl rfl (Y_move (v := .int .i64 (i : Int)) rfl (hf1.get 6 3 rfl)) ?_
        obtain ⟨hsh1, hz2⟩ := chk_inv hz2
        refine sq 42 rfl rfl (Y_shr (k := .i64) (a := x1) (k' := .i64) (b := (i : Int)) rfl rfl rfl hsh1) ?_
        refine sq 43 rfl rfl (Y_band (k := .i64) (a := (shrK .i64 x1 (i : Int))) (b := 1) rfl rfl rfl) ?_
        refine sq 44 rfl rfl (Y_eq (k := .i64) (a := (bits .and .i64 (shrK .i64 x1 (i : Int)) 1)) (b := 1) rfl rfl rfl) ?_
        refine rw_nil ?_
        refine cw_cond (b := ((bits .and .i64 (shrK .i64 x1 (i : Int)) 1) == 1)) rfl (fun hb3 => ?_) (fun hb3 => ?_)
        · skip
          have hF5 := ct hz2 hb3
          refine cw_region ?_
          refine sq 45 rfl rfl (Y_move (v := .func (.func 157) #[] #[pt (some ⟨b2, 0, none⟩) 0, pt (some ⟨b3, 0, none⟩) 0]) rfl (hf1.get 5 2 rfl)) ?_
          refine sq 46 rfl rfl (Y_move (v := .int .i64 i1) rfl (hf1.get 7 4 rfl)) ?_
          refine sq 47 rfl rfl (Y_move (v := .int .i64 (i : Int)) rfl (hf1.get 6 3 rfl)) ?_
          obtain ⟨⟨m1, m2⟩, hc1, hF5⟩ := bind_inv hF5
          refine sc 48 rfl rfl (Yc_clos (g := 157) (vs := [.int .i64 i1, .int .i64 (i : Int), pt (some ⟨b2, 0, none⟩) 0, pt (some ⟨b3, 0, none⟩) 0]) k_call_157 rfl rfl (clo_args (mc rfl (mc rfl mn))) (c_impl_eliminated_1 i1 (i : Int) rows1 out1 (some ⟨b2, 0, none⟩) B2 c2 r_1.length (some ⟨b3, 0, none⟩) B4 c4 out1.length _ hl1 rfl (hS9.inn [false, true, true, true] rfl [(false, 0)] rfl) hc1)) ?_
          rintro _ w_7 ⟨B6, c6, rfl, hl3, hd1⟩
          have hS11 := hS9.out [false, true, true, true] rfl hd1
          have hS11 : ST w0 [] _ [⟨some ⟨b2, 0, none⟩, 48, [.slice B2 r_1.length c2], 1⟩, ⟨B2, 3, (m1.flatMap encI), c2 * 1⟩, ⟨some ⟨b3, 0, none⟩, 120, [.slice B6 m2.length c6], 1⟩, ⟨B6, 124, (m2.flatMap enc_Gate), c6 * 3⟩] [⟨B, (m.Rows.flatMap encI)⟩] := hS11
          refine rw_nil ?_
          exact ⟨m1, m2, B6, c6, (some_inj hF5), (FF.cons (hf1.get 3 0 rfl) (FF.cons (hf1.get 4 1 rfl) (FF.cons (hf1.get 5 2 rfl) (FF.cons (hf1.get 6 3 rfl) (FF.cons (hf1.get 7 4 rfl) (FF.cons (hf1.get 15 5 rfl) (FF.cons (hf1.get 16 6 rfl) FF.nil))))))), hl3, (hS11.sel [0, 1, 2, 3] rfl rfl)⟩
        · skip
          have hF6 := cf' hz2 hb3
          refine cw_skip ?_
          exact ⟨rows1, out1, B4, c4, (some_inj hF6), (FF.cons (hf1.get 3 0 rfl) (FF.cons (hf1.get 4 1 rfl) (FF.cons (hf1.get 5 2 rfl) (FF.cons (hf1.get 6 3 rfl) (FF.cons (hf1.get 7 4 rfl) (FF.cons (hf1.get 15 5 rfl) (FF.cons (hf1.get 16 6 rfl) FF.nil))))))), hl1, (hS9.sel [0, 1, 2, 3] rfl rfl)⟩
      rintro f w ⟨rows2, out2, B5, c5, rfl, hf2, hl2, hS10⟩
      refine cw_region ?_
      refine sq 35 rfl rfl (Y_move (v := .int .i64 i1) rfl (hf2.get 7 4 rfl)) ?_
      refine sq 36 rfl rfl (Y_add (k := .i64) (a := i1) (b := 1) rfl rfl rfl) ?_
      refine sq 7 rfl rfl (Y_assign (v := .int .i64 (IntKind.i64.wrap (i1 + 1))) rfl rfl) ?_
      refine rw_nil ?_
      obtain rfl := some_inj hF4
      exact ⟨k_3, Nat.lt_succ_self _, rows2, out2, (IntKind.i64.wrap (i1 + 1)), B5, c5, (FF.cons (hf2.get 3 0 rfl) (FF.cons (hf2.get 4 1 rfl) (FF.cons (hf2.get 5 2 rfl) (FF.cons (hf2.get 6 3 rfl) (FF.cons rfl (FF.cons (hf2.get 15 5 rfl) (FF.cons (hf2.get 16 6 rfl) FF.nil))))))), hl2, (hS10.sel [0, 1, 2, 3] rfl rfl), hL3⟩
    · skip
      have hF7 := cf' hb1 hb2
      refine cw_exit rfl ?_
      obtain rfl := some_inj hF7
      obtain rfl := some_inj hL3
      refine cw_seq ?_
      refine cw_region ?_
      refine sq 49 rfl rfl (Y_load1 (B := some ⟨b2, 0, none⟩) (i := 0) (cs := [.slice B2 r_1.length c2]) (v := .slice B2 r_1.length c2) k_sc_48 rfl (hf1.get 3 0 rfl) (hS9.cf (i := 0) rfl) rfl) ?_
      refine sq 50 rfl rfl (Y_len (B := B2) (m := r_1.length) (c := c2) k_sl_48_3 rfl rfl) ?_
      refine sq 51 rfl rfl (Y_move (v := .int .i64 0) rfl rfl) ?_
      refine rw_nil ?_
      obtain ⟨hN1, hF2⟩ := chk_inv hF2
      obtain ⟨z3, hz3, hF8⟩ := bind_inv hF2
      refine cw_block ?_
      refine cw_loop (fun k f w => ∃ (i2 : Nat) (rows3 : List Int) (out3 : List TGate) (B7 : Option Addr) (c7 : Nat), FF f [(3, pt (some ⟨b2, 0, none⟩) 0), (4, pt (some ⟨b3, 0, none⟩) 0), (5, .func (.func 157) #[] #[pt (some ⟨b2, 0, none⟩) 0, pt (some ⟨b3, 0, none⟩) 0]), (6, .int .i64 (i : Int)), (15, .int .i64 (r_1.length : Int)), (16, .int .i64 (i : Int)), (50, .int .i64 (r_1.length : Int)), (51, .int .i64 (i2 : Int))] ∧ rows3.length = r_1.length ∧ ST w0 [] w [⟨some ⟨b2, 0, none⟩, 48, [.slice B2 r_1.length c2], 1⟩, ⟨B2, 3, (rows3.flatMap encI), c2 * 1⟩, ⟨some ⟨b3, 0, none⟩, 120, [.slice B7 out3.length c7], 1⟩, ⟨B7, 124, (out3.flatMap enc_Gate), c7 * 3⟩] [⟨B, (m.Rows.flatMap encI)⟩] ∧ i2 + k = r_1.length ∧ forN (F_impl_eliminated_l3 i) k i2 (rows3, out3) = some z3) r_1.length ⟨0, rows1, out1, B4, c4, (FF.cons (hf1.get 3 0 rfl) (FF.cons (hf1.get 4 1 rfl) (FF.cons (hf1.get 5 2 rfl) (FF.cons (hf1.get 6 3 rfl) (FF.cons (hf1.get 15 5 rfl) (FF.cons (hf1.get 16 6 rfl) (FF.cons rfl (FF.cons rfl FF.nil)))))))), hl1, (hS9.sel [0, 1, 2, 3] rfl rfl), Nat.zero_add _, hz3⟩ ?_
      rintro k_4 f w ⟨i2, rows3, out3, B7, c7, hf3, hl4, hS12, hik2, hL4⟩
      refine cw_seq ?_
      refine cw_region ?_
      refine sq 52 rfl rfl (Y_lt (k := .i64) (a := (i2 : Int)) (b := (r_1.length : Int)) rfl (hf3.get 51 7 rfl) (hf3.get 50 6 rfl)) ?_
      refine rw_nil ?_
      refine cw_seq ?_
      refine cw_cond (b := (decide ((i2 : Int) < (r_1.length : Int)))) rfl (fun hlt2 => ?_) (fun hlt2 => ?_)
      · skip
        have hlt3 : i2 < r_1.length := by have h := of_decide_eq_true hlt2; omega
        obtain ⟨k_5, rfl⟩ : ∃ k2, k_4 = k2 + 1 := ⟨k_4 - 1, by omega⟩
        obtain ⟨y2, hb4, hL5⟩ := forN_go hL4
        unfold F_impl_eliminated_l3 at hb4
        refine cw_skip ?_
        refine cw_seq ?_
        obtain ⟨z4, hz4, hF9⟩ := bind_inv hb4
        refine cw_mid (fun f w => ∃ (rows4 : List Int) (out4 : List TGate) (B8 : Option Addr) (c8 : Nat), (rows4, out4) = z4 ∧ FF f [(3, pt (some ⟨b2, 0, none⟩) 0), (4, pt (some ⟨b3, 0, none⟩) 0), (5, .func (.func 157) #[] #[pt (some ⟨b2, 0, none⟩) 0, pt (some ⟨b3, 0, none⟩) 0]), (6, .int .i64 (i : Int)), (15, .int .i64 (r_1.length : Int)), (16, .int .i64 (i : Int)), (50, .int .i64 (r_1.length : Int)), (51, .int .i64 (i2 : Int))] ∧ rows4.length = r_1.length ∧ ST w0 [] w [⟨some ⟨b2, 0, none⟩, 48, [.slice B2 r_1.length c2], 1⟩, ⟨B2, 3, (rows4.flatMap encI), c2 * 1⟩, ⟨some ⟨b3, 0, none⟩, 120, [.slice B8 out4.length c8], 1⟩, ⟨B8, 124, (out4.flatMap enc_Gate), c8 * 3⟩] [⟨B, (m.Rows.flatMap encI)⟩]) ?_ ?_
        · skip
          refine cw_block ?_
          refine cw_seq ?_
          refine cw_region ?_
          refine sq 53 rfl rfl (Y_move (v := .int .i64 (i2 : Int)) rfl (hf3.get 51 7 rfl)) ?_
          refine sq 8 rfl rfl (Y_assign (v := .int .i64 (i2 : Int)) rfl rfl) ?_
          refine rw_nil ?_
          refine cw_seq ?_
          refine cw_region ?_
          refine sq 54 rfl rfl (Y_move (v := .int .i64 (i2 : Int)) rfl rfl) ?_
          refine sq 55 rfl rfl (Y_move (v := .int .i64 (i : Int)) rfl (hf3.get 6 3 rfl)) ?_
          refine sq 56 rfl rfl (Y_ne (k := .i64) (a := (i2 : Int)) (b := (i : Int)) rfl rfl rfl) ?_
          refine sq 57 rfl rfl (Y_move (v := .bool ((i2 : Int) != (i : Int))) rfl rfl) ?_
          refine sgq 58 (B := ((i2 : Int) != (i : Int))) (v := .slice B2 r_1.length c2) rfl rfl (wt_t (gd_of (t := 57) (by kernel_rfl) rfl)) (fun hg8 => (Y_load1 (B := some ⟨b2, 0, none⟩) (i := 0) (cs := [.slice B2 r_1.length c2]) (v := .slice B2 r_1.length c2) k_sc_48 rfl (hf3.get 3 0 rfl) (hS12.cf (i := 0) rfl) rfl)) ?_
          refine sgq 59 (B := ((i2 : Int) != (i : Int))) (v := .int .i64 (i2 : Int)) rfl rfl (wt_t (gd_of (t := 57) (by kernel_rfl) rfl)) (fun hg9 => (Y_move (v := .int .i64 (i2 : Int)) rfl rfl)) ?_
          obtain ⟨x2, hx2, hz4⟩ := bind_inv hz4
          refine sgq 60 (B := ((i2 : Int) != (i : Int))) (v := pt B2 ((i2 : Int).toNat * 1)) rfl rfl (wt_t (gd_of (t := 57) (by kernel_rfl) rfl)) (fun hg10 => (Y_index (B := B2) (m := r_1.length) (c := c2) (k := .i64) (i := (i2 : Int)) k_sl_48_3 k_sz_3_1 rfl (gv_of (B := ((i2 : Int) != (i : Int))) (v := .slice B2 r_1.length c2) hg10) (gv_of (B := ((i2 : Int) != (i : Int))) (v := .int .i64 (i2 : Int)) hg10) (gi_isSome encI_len rfl (hS12.cf (i := 1) rfl) (gb_inv hx2 hg10)) (getI_nn (gb_inv hx2 hg10)) (getI_ltI (gb_inv hx2 hg10) hl4))) ?_
          refine sgq 61 (B := ((i2 : Int) != (i : Int))) (v := .int .i64 x2) rfl rfl (wt_t (gd_of (t := 57) (by kernel_rfl) rfl)) (fun hg11 => (Y_load1 (B := B2) (i := (i2 : Int).toNat * 1) (cs := (rows3.flatMap encI)) (v := .int .i64 x2) k_sc_3 rfl (gv_of (B := ((i2 : Int) != (i : Int))) (v := pt B2 ((i2 : Int).toNat * 1)) hg11) (hS12.cf (i := 1) rfl) (gi_at0 encI_len (gb_inv hx2 hg11) rfl))) ?_
          refine sgq 62 (B := ((i2 : Int) != (i : Int))) (v := .int .i64 (i : Int)) rfl rfl (wt_t (gd_of (t := 57) (by kernel_rfl) rfl)) (fun hg12 => (Y_move (v := .int .i64 (i : Int)) rfl (hf3.get 6 3 rfl))) ?_
          obtain ⟨hsh2, hz4⟩ := chk_inv hz4
          refine sgq 63 (B := ((i2 : Int) != (i : Int))) (v := .int .i64 (shrK .i64 x2 (i : Int))) rfl rfl (wt_t (gd_of (t := 57) (by kernel_rfl) rfl)) (fun hg13 => (Y_shr (k := .i64) (a := x2) (k' := .i64) (b := (i : Int)) rfl (gv_of (B := ((i2 : Int) != (i : Int))) (v := .int .i64 x2) hg13) (gv_of (B := ((i2 : Int) != (i : Int))) (v := .int .i64 (i : Int)) hg13) (hsh2 hg13))) ?_
          refine sgq 64 (B := ((i2 : Int) != (i : Int))) (v := .int .i64 (bits .and .i64 (shrK .i64 x2 (i : Int)) 1)) rfl rfl (wt_t (gd_of (t := 57) (by kernel_rfl) rfl)) (fun hg14 => (Y_band (k := .i64) (a := (shrK .i64 x2 (i : Int))) (b := 1) rfl (gv_of (B := ((i2 : Int) != (i : Int))) (v := .int .i64 (shrK .i64 x2 (i : Int))) hg14) rfl)) ?_
          refine sgq 65 (B := ((i2 : Int) != (i : Int))) (v := .bool ((bits .and .i64 (shrK .i64 x2 (i : Int)) 1) == 1)) rfl rfl (wt_t (gd_of (t := 57) (by kernel_rfl) rfl)) (fun hg15 => (Y_eq (k := .i64) (a := (bits .and .i64 (shrK .i64 x2 (i : Int)) 1)) (b := 1) rfl (gv_of (B := ((i2 : Int) != (i : Int))) (v := .int .i64 (bits .and .i64 (shrK .i64 x2 (i : Int)) 1)) hg15) rfl)) ?_
          refine sq 66 rfl rfl (Y_and (b := ((i2 : Int) != (i : Int))) (z := ((bits .and .i64 (shrK .i64 x2 (i : Int)) 1) == 1)) rfl rfl rfl rfl) ?_
          refine rw_nil ?_
          refine cw_cond (b := (((i2 : Int) != (i : Int)) && ((bits .and .i64 (shrK .i64 x2 (i : Int)) 1) == 1))) rfl (fun hb5 => ?_) (fun hb5 => ?_)
          · skip
            have hF10 := ct hz4 hb5
            refine cw_region ?_
            refine sq 67 rfl rfl (Y_move (v := .func (.func 157) #[] #[pt (some ⟨b2, 0, none⟩) 0, pt (some ⟨b3, 0, none⟩) 0]) rfl (hf3.get 5 2 rfl)) ?_
            refine sq 68 rfl rfl (Y_move (v := .int .i64 (i : Int)) rfl (hf3.get 6 3 rfl)) ?_
            refine sq 69 rfl rfl (Y_move (v := .int .i64 (i2 : Int)) rfl rfl) ?_
            obtain ⟨⟨m3, m4⟩, hc2, hF10⟩ := bind_inv hF10
            refine sc 70 rfl rfl (Yc_clos (g := 157) (vs := [.int .i64 (i : Int), .int .i64 (i2 : Int), pt (some ⟨b2, 0, none⟩) 0, pt (some ⟨b3, 0, none⟩) 0]) k_call_157 rfl rfl (clo_args (mc rfl (mc rfl mn))) (c_impl_eliminated_1 (i : Int) (i2 : Int) rows3 out3 (some ⟨b2, 0, none⟩) B2 c2 r_1.length (some ⟨b3, 0, none⟩) B7 c7 out3.length _ hl4 rfl (hS12.inn [false, true, true, true] rfl [(false, 0)] rfl) hc2)) ?_
            rintro _ w_8 ⟨B9, c9, rfl, hl6, hd2⟩
            have hS14 := hS12.out [false, true, true, true] rfl hd2
            have hS14 : ST w0 [] _ [⟨some ⟨b2, 0, none⟩, 48, [.slice B2 r_1.length c2], 1⟩, ⟨B2, 3, (m3.flatMap encI), c2 * 1⟩, ⟨some ⟨b3, 0, none⟩, 120, [.slice B9 m4.length c9], 1⟩, ⟨B9, 124, (m4.flatMap enc_Gate), c9 * 3⟩] [⟨B, (m.Rows.flatMap encI)⟩] := hS14
            refine rw_nil ?_
            exact ⟨m3, m4, B9, c9, (some_inj hF10), (FF.cons (hf3.get 3 0 rfl) (FF.cons (hf3.get 4 1 rfl) (FF.cons (hf3.get 5 2 rfl) (FF.cons (hf3.get 6 3 rfl) (FF.cons (hf3.get 15 4 rfl) (FF.cons (hf3.get 16 5 rfl) (FF.cons (hf3.get 50 6 rfl) (FF.cons (hf3.get 51 7 rfl) FF.nil)))))))), hl6, (hS14.sel [0, 1, 2, 3] rfl rfl)⟩
          · skip
            have hF11 := cf' hz4 hb5
            refine cw_skip ?_
            exact ⟨rows3, out3, B7, c7, (some_inj hF11), (FF.cons (hf3.get 3 0 rfl) (FF.cons (hf3.get 4 1 rfl) (FF.cons (hf3.get 5 2 rfl) (FF.cons (hf3.get 6 3 rfl) (FF.cons (hf3.get 15 4 rfl) (FF.cons (hf3.get 16 5 rfl) (FF.cons (hf3.get 50 6 rfl) (FF.cons (hf3.get 51 7 rfl) FF.nil)))))))), hl4, (hS12.sel [0, 1, 2, 3] rfl rfl)⟩
        rintro f w ⟨rows4, out4, B8, c8, rfl, hf4, hl5, hS13⟩
        refine cw_region ?_
        refine sq 71 rfl rfl (Y_add (k := .i64) (a := (i2 : Int)) (b := 1) rfl (hf4.get 51 7 rfl) rfl) ?_
        refine sq 51 rfl rfl (Y_move (v := .int .i64 (IntKind.i64.wrap ((i2 : Int) + 1))) rfl rfl) ?_
        refine rw_nil ?_
        obtain rfl := some_inj hF9
        exact ⟨k_5, Nat.lt_succ_self _, i2 + 1, rows4, out4, B8, c8, (FF.cons (hf4.get 3 0 rfl) (FF.cons (hf4.get 4 1 rfl) (FF.cons (hf4.get 5 2 rfl) (FF.cons (hf4.get 6 3 rfl) (FF.cons (hf4.get 15 4 rfl) (FF.cons (hf4.get 16 5 rfl) (FF.cons (hf4.get 50 6 rfl) (FF.cons (congrArg (Value.int .i64) (wr_succ hlt3 hN1)) FF.nil)))))))), hl5, (hS13.sel [0, 1, 2, 3] rfl rfl), (by omega), hL5⟩
      · skip
        obtain rfl : k_4 = 0 := by have h := of_decide_eq_false hlt2; omega
        refine cw_exit rfl ?_
        obtain rfl := some_inj hL4
        refine cw_region ?_
        refine sq 72 rfl rfl (Y_add (k := .i64) (a := (i : Int)) (b := 1) rfl (hf3.get 16 5 rfl) rfl) ?_
        refine sq 16 rfl rfl (Y_move (v := .int .i64 (IntKind.i64.wrap ((i : Int) + 1))) rfl rfl) ?_
        refine rw_nil ?_
        obtain rfl := some_inj hF8
        exact ⟨k_1, Nat.lt_succ_self _, i + 1, rows3, out3, B7, c7, (FF.cons (hf3.get 3 0 rfl) (FF.cons (hf3.get 4 1 rfl) (FF.cons (hf3.get 5 2 rfl) (FF.cons (hf3.get 15 4 rfl) (FF.cons (congrArg (Value.int .i64) (wr_succ hlt1 hN)) FF.nil))))), hl4, (hS12.sel [0, 1, 2, 3] rfl rfl), (by omega), hL1⟩
  · skip
    obtain rfl : k_ = 0 := by have h := of_decide_eq_false hlt; omega
    refine cw_exit rfl ?_
    obtain rfl := some_inj hL
    refine cw_seq ?_
    refine cw_region ?_
    refine sq 73 rfl rfl (Y_load1 (B := some ⟨b3, 0, none⟩) (i := 0) (cs := [.slice B3 out.length c3]) (v := .slice B3 out.length c3) k_sc_120 rfl (hf.get 4 1 rfl) (hS8.cf (i := 2) rfl) rfl) ?_
    refine sq 2 rfl rfl (Y_assign (v := .slice B3 out.length c3) rfl rfl) ?_
    refine rw_nil ?_
    refine cw_ret ?_
    obtain rfl := some_inj hF1
    exact ret1 Try.results124 (v1 := .slice B3 out.length c3) (resAt_tmp rfl) ⟨B3, c3, rfl, (ST.subR (R' := []) (hS8.sel [3] rfl rfl) (fun _ h => by cases h))⟩

theorem c_impl_Linear_inverted (m : TLinear) (B : Option Addr) (c n : Nat) (w0 : World) (hn : m.Rows.length = n) (hS : ST w0 [] w0 [] [⟨B, (m.Rows.flatMap encI)⟩]) {r_ : TLinear} (hF : F_impl_Linear_inverted m = some r_) :
    CV Try.prog 81 #[.agg #[.slice B n c]] w0 (fun v w' => ∃ (B1 : Option Addr) (c1 : Nat), v = .agg #[.slice B1 r_.Rows.length c1] ∧ ST w0 [] w' [⟨B1, 3, (r_.Rows.flatMap encI), c1 * 1⟩] []) := by
  subst hn
  unfold F_impl_Linear_inverted at hF
  refine cv_of_cw 33 Try.func81 rfl Try.ntmps81 rfl ?_
  refine cw_seq ?_
  refine cw_region ?_
  refine ss 1 rfl rfl (Ys_box (T := 50) (v := .agg #[.slice B m.Rows.length c]) (cs := [.slice B m.Rows.length c]) (m := 1) hS rfl rfl rfl rfl) ?_
  rintro _ w_ ⟨b, rfl, hS1⟩
  refine ss 2 rfl rfl (Ys_alloc (T := 50) (cs := [.slice none 0 0]) (m := 1) hS1 k_zero_50 rfl rfl rfl) ?_
  rintro _ w_1 ⟨b1, rfl, hS2⟩
  have hS2 : ST w0 [] _ [⟨some ⟨b, 0, none⟩, 50, [.slice B m.Rows.length c], 1⟩, ⟨some ⟨b1, 0, none⟩, 50, [.slice none 0 0], 1⟩] [⟨B, (m.Rows.flatMap encI)⟩] := hS2
  refine rw_nil ?_
  refine cw_seq ?_
  refine cw_region ?_
  refine sq 6 rfl rfl (Y_fieldAddr (B := some ⟨b, 0, none⟩) (i := 0) (s := 0) k_fd_50_0_0_48 k_sz_48_1 rfl rfl) ?_
  refine sq 7 rfl rfl (Y_load1 (B := some ⟨b, 0, none⟩) (i := 0) (cs := [.slice B m.Rows.length c]) (v := .slice B m.Rows.length c) k_sc_48 rfl rfl (hS2.cf (i := 0) rfl) rfl) ?_
  refine sq 8 rfl rfl (Y_len (B := B) (m := m.Rows.length) (c := c) k_sl_48_3 rfl rfl) ?_
  obtain ⟨r_1, hc, hF⟩ := bind_inv hF
  refine sc 9 rfl rfl (Yc_func (g := 83) (vs := [.int .i64 (m.Rows.length : Int)]) k_call_83 rfl (mc rfl mn) (c_impl_identityLinear (m.Rows.length : Int) _  (hS2.inn0 [] rfl) hc)) ?_
  rintro _ w_2 ⟨B2, c2, rfl, hd⟩
  have hS3 := hS2.out0 hd
  have hS3 : ST w0 [] _ [⟨some ⟨b, 0, none⟩, 50, [.slice B m.Rows.length c], 1⟩, ⟨some ⟨b1, 0, none⟩, 50, [.slice none 0 0], 1⟩, ⟨B2, 3, (r_1.Rows.flatMap encI), c2 * 1⟩] [⟨B, (m.Rows.flatMap encI)⟩] := hS3
  refine ss 3 rfl rfl (Ys_alloc (T := 50) (cs := [.slice none 0 0]) (m := 1) hS3 k_zero_50 rfl rfl rfl) ?_
  rintro _ w_3 ⟨b2, rfl, hS4⟩
  have hS4 : ST w0 [] _ [⟨some ⟨b, 0, none⟩, 50, [.slice B m.Rows.length c], 1⟩, ⟨some ⟨b1, 0, none⟩, 50, [.slice none 0 0], 1⟩, ⟨B2, 3, (r_1.Rows.flatMap encI), c2 * 1⟩, ⟨some ⟨b2, 0, none⟩, 50, [.slice none 0 0], 1⟩] [⟨B, (m.Rows.flatMap encI)⟩] := hS4
  refine ss0 rfl rfl (Ys_store (i := 3) (s := 1) (B := some ⟨b2, 0, none⟩) (T' := 50) (v := .agg #[.slice B2 r_1.Rows.length c2]) (vs := [.slice B2 r_1.Rows.length c2]) (k := 0) (cs' := [.slice B2 r_1.Rows.length c2]) hS4 k_sz_50_1 rfl rfl rfl rfl rfl rfl rfl (Nat.le_of_ble_eq_true rfl) rfl rfl) ?_
  rintro _ w_4 ⟨rfl, hS5⟩
  have hS5 : ST w0 [] _ [⟨some ⟨b, 0, none⟩, 50, [.slice B m.Rows.length c], 1⟩, ⟨some ⟨b1, 0, none⟩, 50, [.slice none 0 0], 1⟩, ⟨B2, 3, (r_1.Rows.flatMap encI), c2 * 1⟩, ⟨some ⟨b2, 0, none⟩, 50, [.slice B2 r_1.Rows.length c2], 1⟩] [⟨B, (m.Rows.flatMap encI)⟩] := hS5
  refine rw_nil ?_
  refine cw_seq ?_
  refine cw_seq ?_
  refine cw_region ?_
  refine sq 10 rfl rfl (Y_loadA (B := some ⟨b, 0, none⟩) (i := 0) (cs := [.slice B m.Rows.length c]) (vs := [.slice B m.Rows.length c]) k_ag_50 k_sz_50_1 rfl rfl (hS5.cf (i := 0) rfl) rfl rfl) ?_
  obtain ⟨r_2, hc1, hF⟩ := bind_inv hF
  refine sc 11 rfl rfl (Yc_func (g := 124) (vs := [.agg #[.slice B m.Rows.length c]]) k_call_124 rfl (mc rfl mn) (c_impl_eliminated m B c m.Rows.length _ rfl (hS5.inn0 [(true, 0)] rfl) hc1)) ?_
  rintro _ w_5 ⟨B3, c3, rfl, hd1⟩
  have hS6 := hS5.out0 hd1
  have hS6 : ST w0 [] _ [⟨some ⟨b, 0, none⟩, 50, [.slice B m.Rows.length c], 1⟩, ⟨some ⟨b1, 0, none⟩, 50, [.slice none 0 0], 1⟩, ⟨B2, 3, (r_1.Rows.flatMap encI), c2 * 1⟩, ⟨some ⟨b2, 0, none⟩, 50, [.slice B2 r_1.Rows.length c2], 1⟩, ⟨B3, 124, (r_2.flatMap enc_Gate), c3 * 3⟩] [⟨B, (m.Rows.flatMap encI)⟩] := hS6
  refine sq 12 rfl rfl (Y_len (B := B3) (m := r_2.length) (c := c3) k_sl_120_124 rfl rfl) ?_
  refine sq 13 rfl rfl (Y_move (v := .int .i64 0) rfl rfl) ?_
  refine rw_nil ?_
  obtain ⟨hN, hF⟩ := chk_inv hF
  obtain ⟨z, hz, hF1⟩ := bind_inv hF
  refine cw_block ?_
  refine cw_loop (fun k f w => ∃ (i : Nat) (Rows : List Int), FF f [(2, pt (some ⟨b1, 0, none⟩) 0), (3, pt (some ⟨b2, 0, none⟩) 0), (11, .slice B3 r_2.length c3), (12, .int .i64 (r_2.length : Int)), (13, .int .i64 (i : Int))] ∧ Rows.length = r_1.Rows.length ∧ ST w0 [] w [⟨some ⟨b1, 0, none⟩, 50, [.slice none 0 0], 1⟩, ⟨some ⟨b2, 0, none⟩, 50, [.slice B2 r_1.Rows.length c2], 1⟩, ⟨B2, 3, (Rows.flatMap encI), c2 * 1⟩, ⟨B3, 124, (r_2.flatMap enc_Gate), c3 * 3⟩] [⟨B, (m.Rows.flatMap encI)⟩] ∧ i + k = r_2.length ∧ forN (F_impl_Linear_inverted_l1 r_2) k i Rows = some z) r_2.length ⟨0, r_1.Rows, (FF.cons rfl (FF.cons rfl (FF.cons rfl (FF.cons rfl (FF.cons rfl FF.nil))))), rfl, (hS6.sel [1, 3, 2, 4] rfl rfl), Nat.zero_add _, hz⟩ ?_
  rintro k_ f w ⟨i, Rows, hf, hl, hS7, hik, hL⟩
  refine cw_seq ?_
  refine cw_region ?_
  refine sq 14 rfl rfl (Y_lt (k := .i64) (a := (i : Int)) (b := (r_2.length : Int)) rfl (hf.get 13 4 rfl) (hf.get 12 3 rfl)) ?_
  refine rw_nil ?_
  refine cw_seq ?_
  refine cw_cond (b := (decide ((i : Int) < (r_2.length : Int)))) rfl (fun hlt => ?_) (fun hlt => ?_)
  · skip
    have hlt1 : i < r_2.length := by have h := of_decide_eq_true hlt; omega
    obtain ⟨k_1, rfl⟩ : ∃ k2, k_ = k2 + 1 := ⟨k_ - 1, by omega⟩
    obtain ⟨y, hb, hL1⟩ := forN_go hL
    unfold F_impl_Linear_inverted_l1 at hb
    refine cw_skip ?_
    refine cw_seq ?_
    refine cw_block ?_
    refine cw_seq ?_
    refine cw_region ?_
    obtain ⟨x, hx, hb⟩ := bind_inv hb
    refine sq 15 rfl rfl (Y_index (B := B3) (m := r_2.length) (c := c3) (k := .i64) (i := (i : Int)) k_sl_120_124 k_sz_124_3 rfl (hf.get 11 2 rfl) (hf.get 13 4 rfl) (gi_isSome enc_Gate_len rfl (hS7.cf (i := 3) rfl) hx) (getI_nn hx) (getI_ltI hx rfl)) ?_
    refine sq 16 rfl rfl (Y_loadA (B := B3) (i := (i : Int).toNat * 3) (cs := (r_2.flatMap enc_Gate)) (vs := [.int .i64 x.Kind, .int .i64 x.A, .int .i64 x.B]) k_ag_124 k_sz_124_3 rfl rfl (hS7.cf (i := 3) rfl) (enc_Gate_len x) (gi_seg enc_Gate_len hx)) ?_
    refine ss 5 rfl rfl (Ys_alloc (T := 124) (cs := [.int .i64 0, .int .i64 0, .int .i64 0]) (m := 3) hS7 k_zero_124 rfl rfl rfl) ?_
    rintro _ w_6 ⟨b3, rfl, hS8⟩
    have hS8 : ST w0 [] _ [⟨some ⟨b1, 0, none⟩, 50, [.slice none 0 0], 1⟩, ⟨some ⟨b2, 0, none⟩, 50, [.slice B2 r_1.Rows.length c2], 1⟩, ⟨B2, 3, (Rows.flatMap encI), c2 * 1⟩, ⟨B3, 124, (r_2.flatMap enc_Gate), c3 * 3⟩, ⟨some ⟨b3, 0, none⟩, 124, [.int .i64 0, .int .i64 0, .int .i64 0], 3⟩] [⟨B, (m.Rows.flatMap encI)⟩] := hS8
    refine ss0 rfl rfl (Ys_store (i := 4) (s := 3) (B := some ⟨b3, 0, none⟩) (T' := 124) (v := .agg #[.int .i64 x.Kind, .int .i64 x.A, .int .i64 x.B]) (vs := [.int .i64 x.Kind, .int .i64 x.A, .int .i64 x.B]) (k := 0) (cs' := [.int .i64 x.Kind, .int .i64 x.A, .int .i64 x.B]) hS8 k_sz_124_3 rfl rfl rfl rfl rfl rfl rfl (Nat.le_of_ble_eq_true rfl) rfl rfl) ?_
    rintro _ w_7 ⟨rfl, hS9⟩
    have hS9 : ST w0 [] _ [⟨some ⟨b1, 0, none⟩, 50, [.slice none 0 0], 1⟩, ⟨some ⟨b2, 0, none⟩, 50, [.slice B2 r_1.Rows.length c2], 1⟩, ⟨B2, 3, (Rows.flatMap encI), c2 * 1⟩, ⟨B3, 124, (r_2.flatMap enc_Gate), c3 * 3⟩, ⟨some ⟨b3, 0, none⟩, 124, [.int .i64 x.Kind, .int .i64 x.A, .int .i64 x.B], 3⟩] [⟨B, (m.Rows.flatMap encI)⟩] := hS9
    refine rw_nil ?_
    obtain ⟨x1, hx1, hb⟩ := bind_inv hb
    obtain ⟨x2, hx2, hb⟩ := bind_inv hb
    refine cw_mid (fun f w => FF f [(2, pt (some ⟨b1, 0, none⟩) 0), (3, pt (some ⟨b2, 0, none⟩) 0), (11, .slice B3 r_2.length c3), (12, .int .i64 (r_2.length : Int)), (13, .int .i64 (i : Int))] ∧ ST w0 [] w [⟨some ⟨b1, 0, none⟩, 50, [.slice none 0 0], 1⟩, ⟨some ⟨b2, 0, none⟩, 50, [.slice B2 r_1.Rows.length c2], 1⟩, ⟨B2, 3, ((Rows.set x.B.toNat (bits .xor .i64 x1 x2)).flatMap encI), c2 * 1⟩, ⟨B3, 124, (r_2.flatMap enc_Gate), c3 * 3⟩] [⟨B, (m.Rows.flatMap encI)⟩]) ?_ ?_
    · skip
      refine ra_start (ST.sel hS9 [0, 1, 3, 4] rfl rfl).fn (by kernel_rfl) ?_
      have hS11 := hS9.drew
      refine ra_q 0 17 (v := pt (some ⟨b2, 0, none⟩) 0) rfl rfl rfl (by kernel_rfl) (by kernel_rfl) (by kernel_rfl) (ST.sel hS11 [0, 1, 3, 4] rfl rfl) (fun w' hw' => (Y_fieldAddr (B := some ⟨b2, 0, none⟩) (i := 0) (s := 0) k_fd_50_0_0_48 k_sz_48_1 rfl (hf.get 3 1 rfl))) ?_
      refine ra_q 1 18 (v := .slice B2 r_1.Rows.length c2) rfl rfl rfl (by kernel_rfl) (by kernel_rfl) (by kernel_rfl) (ST.sel hS11 [0, 1, 3, 4] rfl rfl) (fun w' hw' => (Y_load1 (B := some ⟨b2, 0, none⟩) (i := 0) (cs := [.slice B2 r_1.Rows.length c2]) (v := .slice B2 r_1.Rows.length c2) k_sc_48 rfl rfl (ST.cf hw' (i := 1) rfl) rfl)) ?_
      refine ra_q 2 19 (v := pt (some ⟨b3, 0, none⟩) 2) rfl rfl rfl (by kernel_rfl) (by kernel_rfl) (by kernel_rfl) (ST.sel hS11 [0, 1, 3, 4] rfl rfl) (fun w' hw' => (Y_fieldAddr (B := some ⟨b3, 0, none⟩) (i := 0) (s := 0) k_fd_124_2_2_3 k_sz_3_1 rfl rfl)) ?_
      refine ra_q 3 20 (v := .int .i64 x.B) rfl rfl rfl (by kernel_rfl) (by kernel_rfl) (by kernel_rfl) (ST.sel hS11 [0, 1, 3, 4] rfl rfl) (fun w' hw' => (Y_load1 (B := some ⟨b3, 0, none⟩) (i := 2) (cs := [.int .i64 x.Kind, .int .i64 x.A, .int .i64 x.B]) (v := .int .i64 x.B) k_sc_3 rfl rfl (ST.cf hw' (i := 3) rfl) rfl)) ?_
      refine ra_q 6 23 (v := pt (some ⟨b2, 0, none⟩) 0) rfl rfl rfl (by kernel_rfl) (by kernel_rfl) (by kernel_rfl) (ST.sel hS11 [0, 1, 3, 4] rfl rfl) (fun w' hw' => (Y_fieldAddr (B := some ⟨b2, 0, none⟩) (i := 0) (s := 0) k_fd_50_0_0_48 k_sz_48_1 rfl (hf.get 3 1 rfl))) ?_
      refine ra_q 7 24 (v := .slice B2 r_1.Rows.length c2) rfl rfl rfl (by kernel_rfl) (by kernel_rfl) (by kernel_rfl) (ST.sel hS11 [0, 1, 3, 4] rfl rfl) (fun w' hw' => (Y_load1 (B := some ⟨b2, 0, none⟩) (i := 0) (cs := [.slice B2 r_1.Rows.length c2]) (v := .slice B2 r_1.Rows.length c2) k_sc_48 rfl rfl (ST.cf hw' (i := 1) rfl) rfl)) ?_
      refine ra_q 8 25 (v := pt (some ⟨b3, 0, none⟩) 1) rfl rfl rfl (by kernel_rfl) (by kernel_rfl) (by kernel_rfl) (ST.sel hS11 [0, 1, 3, 4] rfl rfl) (fun w' hw' => (Y_fieldAddr (B := some ⟨b3, 0, none⟩) (i := 0) (s := 0) k_fd_124_1_1_3 k_sz_3_1 rfl rfl)) ?_
      refine ra_q 9 26 (v := .int .i64 x.A) rfl rfl rfl (by kernel_rfl) (by kernel_rfl) (by kernel_rfl) (ST.sel hS11 [0, 1, 3, 4] rfl rfl) (fun w' hw' => (Y_load1 (B := some ⟨b3, 0, none⟩) (i := 1) (cs := [.int .i64 x.Kind, .int .i64 x.A, .int .i64 x.B]) (v := .int .i64 x.A) k_sc_3 rfl rfl (ST.cf hw' (i := 3) rfl) rfl)) ?_
      refine ra_all (rs := [4, 10]) (by kernel_rfl) rfl ?_
      refine ra_y 21 (i := 4) (v := pt B2 (x.B.toNat * 1)) rfl rfl rfl (Y_index (B := B2) (m := r_1.Rows.length) (c := c2) (k := .i64) (i := x.B) k_sl_48_3 k_sz_3_1 rfl rfl rfl (gi_isSome encI_len rfl (hS11.cf (i := 2) rfl) hx1) (getI_nn hx1) (getI_ltI hx1 hl)) (ST.sel hS11 [0, 1, 3, 4] rfl rfl) ?_ ?_
      · skip
        refine ra_all (rs := [5, 10]) (by kernel_rfl) rfl ?_
        refine ra_y 22 (i := 5) (v := .int .i64 x1) rfl rfl rfl (Y_load1 (B := B2) (i := x.B.toNat * 1) (cs := (Rows.flatMap encI)) (v := .int .i64 x1) k_sc_3 rfl rfl (hS11.cf (i := 2) rfl) (gi_at0 encI_len hx1 rfl)) (ST.sel hS11 [0, 1, 3, 4] rfl rfl) ?_ ?_
        · skip
          refine ra_all (rs := [10]) (by kernel_rfl) rfl ?_
          refine ra_y 27 (i := 10) (v := pt B2 (x.A.toNat * 1)) rfl rfl rfl (Y_index (B := B2) (m := r_1.Rows.length) (c := c2) (k := .i64) (i := x.A) k_sl_48_3 k_sz_3_1 rfl rfl rfl (gi_isSome encI_len rfl (hS11.cf (i := 2) rfl) hx2) (getI_nn hx2) (getI_ltI hx2 hl)) (ST.sel hS11 [0, 1, 3, 4] rfl rfl) ?_ ?_
          · skip
            refine ra_all (rs := [11]) (by kernel_rfl) rfl ?_
            refine ra_y 28 (i := 11) (v := .int .i64 x2) rfl rfl rfl (Y_load1 (B := B2) (i := x.A.toNat * 1) (cs := (Rows.flatMap encI)) (v := .int .i64 x2) k_sc_3 rfl rfl (hS11.cf (i := 2) rfl) (gi_at0 encI_len hx2 rfl)) (ST.sel hS11 [0, 1, 3, 4] rfl rfl) ?_ ?_
            · skip
              refine ra_q 12 29 (v := .int .i64 (bits .xor .i64 x1 x2)) rfl rfl rfl (by kernel_rfl) (by kernel_rfl) (by kernel_rfl) (ST.sel hS11 [0, 1, 3, 4] rfl rfl) (fun w' hw' => (Y_bxor (k := .i64) (a := x1) (b := x2) rfl rfl rfl)) ?_
              refine ra_all (rs := [13]) (by kernel_rfl) rfl ?_
              refine ra_y 30 (i := 13) (v := pt B2 (x.B.toNat * 1)) rfl rfl rfl (Y_index (B := B2) (m := r_1.Rows.length) (c := c2) (k := .i64) (i := x.B) k_sl_48_3 k_sz_3_1 rfl rfl rfl (gi_isSome encI_len rfl (hS11.cf (i := 2) rfl) hx1) (getI_nn hx1) (getI_ltI hx1 hl)) (ST.sel hS11 [0, 1, 3, 4] rfl rfl) ?_ ?_
              · skip
                refine ra_all (rs := [14]) (by kernel_rfl) rfl ?_
                refine ra_s0 (i := 14) rfl rfl rfl (Ys_store (i := 2) (s := 1) (B := B2) (T' := 3) (v := .int .i64 (bits .xor .i64 x1 x2)) (vs := [.int .i64 (bits .xor .i64 x1 x2)]) (k := x.B.toNat * 1) (cs' := ((Rows.set x.B.toNat (bits .xor .i64 x1 x2)).flatMap encI)) hS11 k_sz_3_1 rfl rfl rfl rfl rfl rfl rfl (gi_fit0 encI_len hx1) (gi_set encI_len hx1 (bits .xor .i64 x1 x2) rfl) rfl) ?_ ?_
                · rintro _ w_8 ⟨rfl, hS12⟩
                  have hS12 : ST w0 [] _ [⟨some ⟨b1, 0, none⟩, 50, [.slice none 0 0], 1⟩, ⟨some ⟨b2, 0, none⟩, 50, [.slice B2 r_1.Rows.length c2], 1⟩, ⟨B2, 3, ((Rows.set x.B.toNat (bits .xor .i64 x1 x2)).flatMap encI), c2 * 1⟩, ⟨B3, 124, (r_2.flatMap enc_Gate), c3 * 3⟩, ⟨some ⟨b3, 0, none⟩, 124, [.int .i64 x.Kind, .int .i64 x.A, .int .i64 x.B], 3⟩] [⟨B, (m.Rows.flatMap encI)⟩] := hS12
                  refine ⟨(ST.sel hS12 [0, 1, 3, 4] rfl rfl), ?_⟩
                  refine ra_done (by kernel_rfl) ?_
                  exact ⟨(FF.cons (hf.get 2 0 rfl) (FF.cons (hf.get 3 1 rfl) (FF.cons (hf.get 11 2 rfl) (FF.cons (hf.get 12 3 rfl) (FF.cons (hf.get 13 4 rfl) FF.nil))))), (hS12.sel [0, 1, 2, 3] rfl rfl)⟩
                exact allR_nil
              exact allR_nil
            exact allR_nil
          exact allR_nil
        refine ra_y 27 (i := 10) (v := pt B2 (x.A.toNat * 1)) rfl rfl rfl (Y_index (B := B2) (m := r_1.Rows.length) (c := c2) (k := .i64) (i := x.A) k_sl_48_3 k_sz_3_1 rfl rfl rfl (gi_isSome encI_len rfl (hS11.cf (i := 2) rfl) hx2) (getI_nn hx2) (getI_ltI hx2 hl)) (ST.sel hS11 [0, 1, 3, 4] rfl rfl) ?_ ?_
        · skip
          refine ra_all (rs := [5, 11]) (by kernel_rfl) rfl ?_
          refine ra_y 22 (i := 5) (v := .int .i64 x1) rfl rfl rfl (Y_load1 (B := B2) (i := x.B.toNat * 1) (cs := (Rows.flatMap encI)) (v := .int .i64 x1) k_sc_3 rfl rfl (hS11.cf (i := 2) rfl) (gi_at0 encI_len hx1 rfl)) (ST.sel hS11 [0, 1, 3, 4] rfl rfl) ?_ ?_
          · skip
            refine ra_all (rs := [11]) (by kernel_rfl) rfl ?_
            refine ra_y 28 (i := 11) (v := .int .i64 x2) rfl rfl rfl (Y_load1 (B := B2) (i := x.A.toNat * 1) (cs := (Rows.flatMap encI)) (v := .int .i64 x2) k_sc_3 rfl rfl (hS11.cf (i := 2) rfl) (gi_at0 encI_len hx2 rfl)) (ST.sel hS11 [0, 1, 3, 4] rfl rfl) ?_ ?_
            · skip
              refine ra_q 12 29 (v := .int .i64 (bits .xor .i64 x1 x2)) rfl rfl rfl (by kernel_rfl) (by kernel_rfl) (by kernel_rfl) (ST.sel hS11 [0, 1, 3, 4] rfl rfl) (fun w' hw' => (Y_bxor (k := .i64) (a := x1) (b := x2) rfl rfl rfl)) ?_
              refine ra_all (rs := [13]) (by kernel_rfl) rfl ?_
              refine ra_y 30 (i := 13) (v := pt B2 (x.B.toNat * 1)) rfl rfl rfl (Y_index (B := B2) (m := r_1.Rows.length) (c := c2) (k := .i64) (i := x.B) k_sl_48_3 k_sz_3_1 rfl rfl rfl (gi_isSome encI_len rfl (hS11.cf (i := 2) rfl) hx1) (getI_nn hx1) (getI_ltI hx1 hl)) (ST.sel hS11 [0, 1, 3, 4] rfl rfl) ?_ ?_
              · skip
                refine ra_all (rs := [14]) (by kernel_rfl) rfl ?_
                refine ra_s0 (i := 14) rfl rfl rfl (Ys_store (i := 2) (s := 1) (B := B2) (T' := 3) (v := .int .i64 (bits .xor .i64 x1 x2)) (vs := [.int .i64 (bits .xor .i64 x1 x2)]) (k := x.B.toNat * 1) (cs' := ((Rows.set x.B.toNat (bits .xor .i64 x1 x2)).flatMap encI)) hS11 k_sz_3_1 rfl rfl rfl rfl rfl rfl rfl (gi_fit0 encI_len hx1) (gi_set encI_len hx1 (bits .xor .i64 x1 x2) rfl) rfl) ?_ ?_
                · rintro _ w_9 ⟨rfl, hS13⟩
                  have hS13 : ST w0 [] _ [⟨some ⟨b1, 0, none⟩, 50, [.slice none 0 0], 1⟩, ⟨some ⟨b2, 0, none⟩, 50, [.slice B2 r_1.Rows.length c2], 1⟩, ⟨B2, 3, ((Rows.set x.B.toNat (bits .xor .i64 x1 x2)).flatMap encI), c2 * 1⟩, ⟨B3, 124, (r_2.flatMap enc_Gate), c3 * 3⟩, ⟨some ⟨b3, 0, none⟩, 124, [.int .i64 x.Kind, .int .i64 x.A, .int .i64 x.B], 3⟩] [⟨B, (m.Rows.flatMap encI)⟩] := hS13
                  refine ⟨(ST.sel hS13 [0, 1, 3, 4] rfl rfl), ?_⟩
                  refine ra_done (by kernel_rfl) ?_
                  exact ⟨(FF.cons (hf.get 2 0 rfl) (FF.cons (hf.get 3 1 rfl) (FF.cons (hf.get 11 2 rfl) (FF.cons (hf.get 12 3 rfl) (FF.cons (hf.get 13 4 rfl) FF.nil))))), (hS13.sel [0, 1, 2, 3] rfl rfl)⟩
                exact allR_nil
              exact allR_nil
            exact allR_nil
          refine ra_y 28 (i := 11) (v := .int .i64 x2) rfl rfl rfl (Y_load1 (B := B2) (i := x.A.toNat * 1) (cs := (Rows.flatMap encI)) (v := .int .i64 x2) k_sc_3 rfl rfl (hS11.cf (i := 2) rfl) (gi_at0 encI_len hx2 rfl)) (ST.sel hS11 [0, 1, 3, 4] rfl rfl) ?_ ?_
          · skip
            refine ra_all (rs := [5]) (by kernel_rfl) rfl ?_
            refine ra_y 22 (i := 5) (v := .int .i64 x1) rfl rfl rfl (Y_load1 (B := B2) (i := x.B.toNat * 1) (cs := (Rows.flatMap encI)) (v := .int .i64 x1) k_sc_3 rfl rfl (hS11.cf (i := 2) rfl) (gi_at0 encI_len hx1 rfl)) (ST.sel hS11 [0, 1, 3, 4] rfl rfl) ?_ ?_
            · skip
              refine ra_q 12 29 (v := .int .i64 (bits .xor .i64 x1 x2)) rfl rfl rfl (by kernel_rfl) (by kernel_rfl) (by kernel_rfl) (ST.sel hS11 [0, 1, 3, 4] rfl rfl) (fun w' hw' => (Y_bxor (k := .i64) (a := x1) (b := x2) rfl rfl rfl)) ?_
              refine ra_all (rs := [13]) (by kernel_rfl) rfl ?_
              refine ra_y 30 (i := 13) (v := pt B2 (x.B.toNat * 1)) rfl rfl rfl (Y_index (B := B2) (m := r_1.Rows.length) (c := c2) (k := .i64) (i := x.B) k_sl_48_3 k_sz_3_1 rfl rfl rfl (gi_isSome encI_len rfl (hS11.cf (i := 2) rfl) hx1) (getI_nn hx1) (getI_ltI hx1 hl)) (ST.sel hS11 [0, 1, 3, 4] rfl rfl) ?_ ?_
              · skip
                refine ra_all (rs := [14]) (by kernel_rfl) rfl ?_
                refine ra_s0 (i := 14) rfl rfl rfl (Ys_store (i := 2) (s := 1) (B := B2) (T' := 3) (v := .int .i64 (bits .xor .i64 x1 x2)) (vs := [.int .i64 (bits .xor .i64 x1 x2)]) (k := x.B.toNat * 1) (cs' := ((Rows.set x.B.toNat (bits .xor .i64 x1 x2)).flatMap encI)) hS11 k_sz_3_1 rfl rfl rfl rfl rfl rfl rfl (gi_fit0 encI_len hx1) (gi_set encI_len hx1 (bits .xor .i64 x1 x2) rfl) rfl) ?_ ?_
                · rintro _ w_10 ⟨rfl, hS14⟩
                  have hS14 : ST w0 [] _ [⟨some ⟨b1, 0, none⟩, 50, [.slice none 0 0], 1⟩, ⟨some ⟨b2, 0, none⟩, 50, [.slice B2 r_1.Rows.length c2], 1⟩, ⟨B2, 3, ((Rows.set x.B.toNat (bits .xor .i64 x1 x2)).flatMap encI), c2 * 1⟩, ⟨B3, 124, (r_2.flatMap enc_Gate), c3 * 3⟩, ⟨some ⟨b3, 0, none⟩, 124, [.int .i64 x.Kind, .int .i64 x.A, .int .i64 x.B], 3⟩] [⟨B, (m.Rows.flatMap encI)⟩] := hS14
                  refine ⟨(ST.sel hS14 [0, 1, 3, 4] rfl rfl), ?_⟩
                  refine ra_done (by kernel_rfl) ?_
                  exact ⟨(FF.cons (hf.get 2 0 rfl) (FF.cons (hf.get 3 1 rfl) (FF.cons (hf.get 11 2 rfl) (FF.cons (hf.get 12 3 rfl) (FF.cons (hf.get 13 4 rfl) FF.nil))))), (hS14.sel [0, 1, 2, 3] rfl rfl)⟩
                exact allR_nil
              exact allR_nil
            exact allR_nil
          exact allR_nil
        exact allR_nil
      refine ra_y 27 (i := 10) (v := pt B2 (x.A.toNat * 1)) rfl rfl rfl (Y_index (B := B2) (m := r_1.Rows.length) (c := c2) (k := .i64) (i := x.A) k_sl_48_3 k_sz_3_1 rfl rfl rfl (gi_isSome encI_len rfl (hS11.cf (i := 2) rfl) hx2) (getI_nn hx2) (getI_ltI hx2 hl)) (ST.sel hS11 [0, 1, 3, 4] rfl rfl) ?_ ?_
      · skip
        refine ra_all (rs := [4, 11]) (by kernel_rfl) rfl ?_
        refine ra_y 21 (i := 4) (v := pt B2 (x.B.toNat * 1)) rfl rfl rfl (Y_index (B := B2) (m := r_1.Rows.length) (c := c2) (k := .i64) (i := x.B) k_sl_48_3 k_sz_3_1 rfl rfl rfl (gi_isSome encI_len rfl (hS11.cf (i := 2) rfl) hx1) (getI_nn hx1) (getI_ltI hx1 hl)) (ST.sel hS11 [0, 1, 3, 4] rfl rfl) ?_ ?_
        · skip
          refine ra_all (rs := [5, 11]) (by kernel_rfl) rfl ?_
          refine ra_y 22 (i := 5) (v := .int .i64 x1) rfl rfl rfl (Y_load1 (B := B2) (i := x.B.toNat * 1) (cs := (Rows.flatMap encI)) (v := .int .i64 x1) k_sc_3 rfl rfl (hS11.cf (i := 2) rfl) (gi_at0 encI_len hx1 rfl)) (ST.sel hS11 [0, 1, 3, 4] rfl rfl) ?_ ?_
          · skip
            refine ra_all (rs := [11]) (by kernel_rfl) rfl ?_
            refine ra_y 28 (i := 11) (v := .int .i64 x2) rfl rfl rfl (Y_load1 (B := B2) (i := x.A.toNat * 1) (cs := (Rows.flatMap encI)) (v := .int .i64 x2) k_sc_3 rfl rfl (hS11.cf (i := 2) rfl) (gi_at0 encI_len hx2 rfl)) (ST.sel hS11 [0, 1, 3, 4] rfl rfl) ?_ ?_
            · skip
              refine ra_q 12 29 (v := .int .i64 (bits .xor .i64 x1 x2)) rfl rfl rfl (by kernel_rfl) (by kernel_rfl) (by kernel_rfl) (ST.sel hS11 [0, 1, 3, 4] rfl rfl) (fun w' hw' => (Y_bxor (k := .i64) (a := x1) (b := x2) rfl rfl rfl)) ?_
              refine ra_all (rs := [13]) (by kernel_rfl) rfl ?_
              refine ra_y 30 (i := 13) (v := pt B2 (x.B.toNat * 1)) rfl rfl rfl (Y_index (B := B2) (m := r_1.Rows.length) (c := c2) (k := .i64) (i := x.B) k_sl_48_3 k_sz_3_1 rfl rfl rfl (gi_isSome encI_len rfl (hS11.cf (i := 2) rfl) hx1) (getI_nn hx1) (getI_ltI hx1 hl)) (ST.sel hS11 [0, 1, 3, 4] rfl rfl) ?_ ?_
              · skip
                refine ra_all (rs := [14]) (by kernel_rfl) rfl ?_
                refine ra_s0 (i := 14) rfl rfl rfl (Ys_store (i := 2) (s := 1) (B := B2) (T' := 3) (v := .int .i64 (bits .xor .i64 x1 x2)) (vs := [.int .i64 (bits .xor .i64 x1 x2)]) (k := x.B.toNat * 1) (cs' := ((Rows.set x.B.toNat (bits .xor .i64 x1 x2)).flatMap encI)) hS11 k_sz_3_1 rfl rfl rfl rfl rfl rfl rfl (gi_fit0 encI_len hx1) (gi_set encI_len hx1 (bits .xor .i64 x1 x2) rfl) rfl) ?_ ?_
                · rintro _ w_11 ⟨rfl, hS15⟩
                  have hS15 : ST w0 [] _ [⟨some ⟨b1, 0, none⟩, 50, [.slice none 0 0], 1⟩, ⟨some ⟨b2, 0, none⟩, 50, [.slice B2 r_1.Rows.length c2], 1⟩, ⟨B2, 3, ((Rows.set x.B.toNat (bits .xor .i64 x1 x2)).flatMap encI), c2 * 1⟩, ⟨B3, 124, (r_2.flatMap enc_Gate), c3 * 3⟩, ⟨some ⟨b3, 0, none⟩, 124, [.int .i64 x.Kind, .int .i64 x.A, .int .i64 x.B], 3⟩] [⟨B, (m.Rows.flatMap encI)⟩] := hS15
                  refine ⟨(ST.sel hS15 [0, 1, 3, 4] rfl rfl), ?_⟩
                  refine ra_done (by kernel_rfl) ?_
                  exact ⟨(FF.cons (hf.get 2 0 rfl) (FF.cons (hf.get 3 1 rfl) (FF.cons (hf.get 11 2 rfl) (FF.cons (hf.get 12 3 rfl) (FF.cons (hf.get 13 4 rfl) FF.nil))))), (hS15.sel [0, 1, 2, 3] rfl rfl)⟩
                exact allR_nil
              exact allR_nil
            exact allR_nil
          refine ra_y 28 (i := 11) (v := .int .i64 x2) rfl rfl rfl (Y_load1 (B := B2) (i := x.A.toNat * 1) (cs := (Rows.flatMap encI)) (v := .int .i64 x2) k_sc_3 rfl rfl (hS11.cf (i := 2) rfl) (gi_at0 encI_len hx2 rfl)) (ST.sel hS11 [0, 1, 3, 4] rfl rfl) ?_ ?_
          · skip
            refine ra_all (rs := [5]) (by kernel_rfl) rfl ?_
            refine ra_y 22 (i := 5) (v := .int .i64 x1) rfl rfl rfl (Y_load1 (B := B2) (i := x.B.toNat * 1) (cs := (Rows.flatMap encI)) (v := .int .i64 x1) k_sc_3 rfl rfl (hS11.cf (i := 2) rfl) (gi_at0 encI_len hx1 rfl)) (ST.sel hS11 [0, 1, 3, 4] rfl rfl) ?_ ?_
            · skip
              refine ra_q 12 29 (v := .int .i64 (bits .xor .i64 x1 x2)) rfl rfl rfl (by kernel_rfl) (by kernel_rfl) (by kernel_rfl) (ST.sel hS11 [0, 1, 3, 4] rfl rfl) (fun w' hw' => (Y_bxor (k := .i64) (a := x1) (b := x2) rfl rfl rfl)) ?_
              refine ra_all (rs := [13]) (by kernel_rfl) rfl ?_
              refine ra_y 30 (i := 13) (v := pt B2 (x.B.toNat * 1)) rfl rfl rfl (Y_index (B := B2) (m := r_1.Rows.length) (c := c2) (k := .i64) (i := x.B) k_sl_48_3 k_sz_3_1 rfl rfl rfl (gi_isSome encI_len rfl (hS11.cf (i := 2) rfl) hx1) (getI_nn hx1) (getI_ltI hx1 hl)) (ST.sel hS11 [0, 1, 3, 4] rfl rfl) ?_ ?_
              · skip
                refine ra_all (rs := [14]) (by kernel_rfl) rfl ?_
                refine ra_s0 (i := 14) rfl rfl rfl (Ys_store (i := 2) (s := 1) (B := B2) (T' := 3) (v := .int .i64 (bits .xor .i64 x1 x2)) (vs := [.int .i64 (bits .xor .i64 x1 x2)]) (k := x.B.toNat * 1) (cs' := ((Rows.set x.B.toNat (bits .xor .i64 x1 x2)).flatMap encI)) hS11 k_sz_3_1 rfl rfl rfl rfl rfl rfl rfl (gi_fit0 encI_len hx1) (gi_set encI_len hx1 (bits .xor .i64 x1 x2) rfl) rfl) ?_ ?_
                · rintro _ w_12 ⟨rfl, hS16⟩
                  have hS16 : ST w0 [] _ [⟨some ⟨b1, 0, none⟩, 50, [.slice none 0 0], 1⟩, ⟨some ⟨b2, 0, none⟩, 50, [.slice B2 r_1.Rows.length c2], 1⟩, ⟨B2, 3, ((Rows.set x.B.toNat (bits .xor .i64 x1 x2)).flatMap encI), c2 * 1⟩, ⟨B3, 124, (r_2.flatMap enc_Gate), c3 * 3⟩, ⟨some ⟨b3, 0, none⟩, 124, [.int .i64 x.Kind, .int .i64 x.A, .int .i64 x.B], 3⟩] [⟨B, (m.Rows.flatMap encI)⟩] := hS16
                  refine ⟨(ST.sel hS16 [0, 1, 3, 4] rfl rfl), ?_⟩
                  refine ra_done (by kernel_rfl) ?_
                  exact ⟨(FF.cons (hf.get 2 0 rfl) (FF.cons (hf.get 3 1 rfl) (FF.cons (hf.get 11 2 rfl) (FF.cons (hf.get 12 3 rfl) (FF.cons (hf.get 13 4 rfl) FF.nil))))), (hS16.sel [0, 1, 2, 3] rfl rfl)⟩
                exact allR_nil
              exact allR_nil
            exact allR_nil
          exact allR_nil
        refine ra_y 28 (i := 11) (v := .int .i64 x2) rfl rfl rfl (Y_load1 (B := B2) (i := x.A.toNat * 1) (cs := (Rows.flatMap encI)) (v := .int .i64 x2) k_sc_3 rfl rfl (hS11.cf (i := 2) rfl) (gi_at0 encI_len hx2 rfl)) (ST.sel hS11 [0, 1, 3, 4] rfl rfl) ?_ ?_
        · skip
          refine ra_all (rs := [4]) (by kernel_rfl) rfl ?_
          refine ra_y 21 (i := 4) (v := pt B2 (x.B.toNat * 1)) rfl rfl rfl (Y_index (B := B2) (m := r_1.Rows.length) (c := c2) (k := .i64) (i := x.B) k_sl_48_3 k_sz_3_1 rfl rfl rfl (gi_isSome encI_len rfl (hS11.cf (i := 2) rfl) hx1) (getI_nn hx1) (getI_ltI hx1 hl)) (ST.sel hS11 [0, 1, 3, 4] rfl rfl) ?_ ?_
          · skip
            refine ra_all (rs := [5]) (by kernel_rfl) rfl ?_
            refine ra_y 22 (i := 5) (v := .int .i64 x1) rfl rfl rfl (Y_load1 (B := B2) (i := x.B.toNat * 1) (cs := (Rows.flatMap encI)) (v := .int .i64 x1) k_sc_3 rfl rfl (hS11.cf (i := 2) rfl) (gi_at0 encI_len hx1 rfl)) (ST.sel hS11 [0, 1, 3, 4] rfl rfl) ?_ ?_
            · skip
              refine ra_q 12 29 (v := .int .i64 (bits .xor .i64 x1 x2)) rfl rfl rfl (by kernel_rfl) (by kernel_rfl) (by kernel_rfl) (ST.sel hS11 [0, 1, 3, 4] rfl rfl) (fun w' hw' => (Y_bxor (k := .i64) (a := x1) (b := x2) rfl rfl rfl)) ?_
              refine ra_all (rs := [13]) (by kernel_rfl) rfl ?_
              refine ra_y 30 (i := 13) (v := pt B2 (x.B.toNat * 1)) rfl rfl rfl (Y_index (B := B2) (m := r_1.Rows.length) (c := c2) (k := .i64) (i := x.B) k_sl_48_3 k_sz_3_1 rfl rfl rfl (gi_isSome encI_len rfl (hS11.cf (i := 2) rfl) hx1) (getI_nn hx1) (getI_ltI hx1 hl)) (ST.sel hS11 [0, 1, 3, 4] rfl rfl) ?_ ?_
              · skip
                refine ra_all (rs := [14]) (by kernel_rfl) rfl ?_
                refine ra_s0 (i := 14) rfl rfl rfl (Ys_store (i := 2) (s := 1) (B := B2) (T' := 3) (v := .int .i64 (bits .xor .i64 x1 x2)) (vs := [.int .i64 (bits .xor .i64 x1 x2)]) (k := x.B.toNat * 1) (cs' := ((Rows.set x.B.toNat (bits .xor .i64 x1 x2)).flatMap encI)) hS11 k_sz_3_1 rfl rfl rfl rfl rfl rfl rfl (gi_fit0 encI_len hx1) (gi_set encI_len hx1 (bits .xor .i64 x1 x2) rfl) rfl) ?_ ?_
                · rintro _ w_13 ⟨rfl, hS17⟩
                  have hS17 : ST w0 [] _ [⟨some ⟨b1, 0, none⟩, 50, [.slice none 0 0], 1⟩, ⟨some ⟨b2, 0, none⟩, 50, [.slice B2 r_1.Rows.length c2], 1⟩, ⟨B2, 3, ((Rows.set x.B.toNat (bits .xor .i64 x1 x2)).flatMap encI), c2 * 1⟩, ⟨B3, 124, (r_2.flatMap enc_Gate), c3 * 3⟩, ⟨some ⟨b3, 0, none⟩, 124, [.int .i64 x.Kind, .int .i64 x.A, .int .i64 x.B], 3⟩] [⟨B, (m.Rows.flatMap encI)⟩] := hS17
                  refine ⟨(ST.sel hS17 [0, 1, 3, 4] rfl rfl), ?_⟩
                  refine ra_done (by kernel_rfl) ?_
                  exact ⟨(FF.cons (hf.get 2 0 rfl) (FF.cons (hf.get 3 1 rfl) (FF.cons (hf.get 11 2 rfl) (FF.cons (hf.get 12 3 rfl) (FF.cons (hf.get 13 4 rfl) FF.nil))))), (hS17.sel [0, 1, 2, 3] rfl rfl)⟩
                exact allR_nil
              exact allR_nil
            exact allR_nil
          exact allR_nil
        exact allR_nil
      exact allR_nil
    rintro f w ⟨hf1, hS10⟩
    refine cw_region ?_
    refine sq 31 rfl rfl (Y_add (k := .i64) (a := (i : Int)) (b := 1) rfl (hf1.get 13 4 rfl) rfl) ?_
    refine sq 13 rfl rfl (Y_move (v := .int .i64 (IntKind.i64.wrap ((i : Int) + 1))) rfl rfl) ?_
    refine rw_nil ?_
    obtain rfl := some_inj hb
    exact ⟨k_1, Nat.lt_succ_self _, i + 1, (Rows.set x.B.toNat (bits .xor .i64 x1 x2)), (FF.cons (hf1.get 2 0 rfl) (FF.cons (hf1.get 3 1 rfl) (FF.cons (hf1.get 11 2 rfl) (FF.cons (hf1.get 12 3 rfl) (FF.cons (congrArg (Value.int .i64) (wr_succ hlt1 hN)) FF.nil))))), (set_len _ _ _ hl), (hS10.sel [0, 1, 2, 3] rfl rfl), (by omega), hL1⟩
  · skip
    obtain rfl : k_ = 0 := by have h := of_decide_eq_false hlt; omega
    refine cw_exit rfl ?_
    obtain rfl := some_inj hL
    refine cw_seq ?_
    refine cw_region ?_
    refine sq 32 rfl rfl (Y_loadA (B := some ⟨b2, 0, none⟩) (i := 0) (cs := [.slice B2 r_1.Rows.length c2]) (vs := [.slice B2 r_1.Rows.length c2]) k_ag_50 k_sz_50_1 rfl (hf.get 3 1 rfl) (hS7.cf (i := 1) rfl) rfl rfl) ?_
    refine ss0 rfl rfl (Ys_store (i := 0) (s := 1) (B := some ⟨b1, 0, none⟩) (T' := 50) (v := .agg #[.slice B2 r_1.Rows.length c2]) (vs := [.slice B2 r_1.Rows.length c2]) (k := 0) (cs' := [.slice B2 r_1.Rows.length c2]) hS7 k_sz_50_1 rfl (hf.get 2 0 rfl) rfl rfl rfl rfl rfl (Nat.le_of_ble_eq_true rfl) rfl rfl) ?_
    rintro _ w_14 ⟨rfl, hS18⟩
    have hS18 : ST w0 [] _ [⟨some ⟨b1, 0, none⟩, 50, [.slice B2 r_1.Rows.length c2], 1⟩, ⟨some ⟨b2, 0, none⟩, 50, [.slice B2 r_1.Rows.length c2], 1⟩, ⟨B2, 3, (Rows.flatMap encI), c2 * 1⟩, ⟨B3, 124, (r_2.flatMap enc_Gate), c3 * 3⟩] [⟨B, (m.Rows.flatMap encI)⟩] := hS18
    refine rw_nil ?_
    refine cw_ret ?_
    obtain rfl := some_inj hF1
    exact ret1 Try.results81 (v1 := .agg #[.slice B2 r_1.Rows.length c2]) (resAt_cellA (B := some ⟨b1, 0, none⟩) (i := 0) (cs := [.slice B2 r_1.Rows.length c2]) (vs := [.slice B2 r_1.Rows.length c2]) (hf.get 2 0 rfl) k_ag_50 k_sz_50_1 (hS18.cf (i := 0) rfl) rfl rfl) ⟨B2, c2, (by simp [hl]), (ST.subR (R' := []) (hS18.sel [2] rfl rfl) (fun _ h => by cases h))⟩

theorem c_impl_InvertPhase (p : TPhasePoly) (B : Option Addr) (c n : Nat) (B1 : Option Addr) (c1 n1 : Nat) (w0 : World) (hn : p.Terms.length = n) (hn1 : p.Out.Rows.length = n1) (hS : ST w0 [] w0 [] [⟨B, (p.Terms.flatMap enc_Term)⟩, ⟨B1, (p.Out.Rows.flatMap encI)⟩]) {r_ : TPhasePoly} {r_1 : Bool} (hF : F_impl_InvertPhase p = some (r_, r_1)) :
    CV Try.prog 27 #[.agg #[.int .i64 p.Qubits, .int .i64 p.Phase, .slice B n c, .slice B1 n1 c1]] w0 (fun v w' => ∃ (B2 : Option Addr) (c2 : Nat) (B3 : Option Addr) (c3 : Nat), v = .tuple #[.agg #[.int .i64 r_.Qubits, .int .i64 r_.Phase, .slice B2 r_.Terms.length c2, .slice B3 r_.Out.Rows.length c3], .bool r_1] ∧ ST w0 [] w' [⟨B2, 104, (r_.Terms.flatMap enc_Term), c2 * 2⟩, ⟨B3, 3, (r_.Out.Rows.flatMap encI), c3 * 1⟩] []) := by
  subst hn
  subst hn1
  unfold F_impl_InvertPhase at hF
  refine cv_of_cw 42 Try.func27 rfl Try.ntmps27 rfl ?_
  refine cw_seq ?_
  refine cw_region ?_
  refine ss 1 rfl rfl (Ys_box (T := 52) (v := .agg #[.int .i64 p.Qubits, .int .i64 p.Phase, .slice B p.Terms.length c, .slice B1 p.Out.Rows.length c1]) (cs := [.int .i64 p.Qubits, .int .i64 p.Phase, .slice B p.Terms.length c, .slice B1 p.Out.Rows.length c1]) (m := 4) hS rfl rfl rfl rfl) ?_
  rintro _ w_ ⟨b, rfl, hS1⟩
  refine ss 2 rfl rfl (Ys_alloc (T := 52) (cs := [.int .i64 0, .int .i64 0, .slice none 0 0, .slice none 0 0]) (m := 4) hS1 k_zero_52 rfl rfl rfl) ?_
  rintro _ w_1 ⟨b1, rfl, hS2⟩
  have hS2 : ST w0 [] _ [⟨some ⟨b, 0, none⟩, 52, [.int .i64 p.Qubits, .int .i64 p.Phase, .slice B p.Terms.length c, .slice B1 p.Out.Rows.length c1], 4⟩, ⟨some ⟨b1, 0, none⟩, 52, [.int .i64 0, .int .i64 0, .slice none 0 0, .slice none 0 0], 4⟩] [⟨B, (p.Terms.flatMap enc_Term)⟩, ⟨B1, (p.Out.Rows.flatMap encI)⟩] := hS2
  refine sq 3 rfl rfl (Y_assign (v := .bool false) rfl rfl) ?_
  refine rw_nil ?_
  refine cw_seq ?_
  refine cw_seq ?_
  refine cw_region ?_
  refine sq 8 rfl rfl (Y_loadA (B := some ⟨b, 0, none⟩) (i := 0) (cs := [.int .i64 p.Qubits, .int .i64 p.Phase, .slice B p.Terms.length c, .slice B1 p.Out.Rows.length c1]) (vs := [.int .i64 p.Qubits, .int .i64 p.Phase, .slice B p.Terms.length c, .slice B1 p.Out.Rows.length c1]) k_ag_52 k_sz_52_4 rfl rfl (hS2.cf (i := 0) rfl) rfl rfl) ?_
  obtain ⟨r_2, hc, hF⟩ := bind_inv hF
  refine sc 9 rfl rfl (Yc_func (g := 30) (vs := [.agg #[.int .i64 p.Qubits, .int .i64 p.Phase, .slice B p.Terms.length c, .slice B1 p.Out.Rows.length c1]]) k_call_30 rfl (mc rfl mn) (c_impl_IsValidPhasePoly p B c p.Terms.length B1 c1 p.Out.Rows.length _ rfl rfl (hS2.inn0 [(true, 0), (true, 1)] rfl) hc)) ?_
  rintro _ w_2 ⟨rfl, hd⟩
  have hS3 := hS2.out00 hd
  have hS3 : ST w0 [] _ [⟨some ⟨b, 0, none⟩, 52, [.int .i64 p.Qubits, .int .i64 p.Phase, .slice B p.Terms.length c, .slice B1 p.Out.Rows.length c1], 4⟩, ⟨some ⟨b1, 0, none⟩, 52, [.int .i64 0, .int .i64 0, .slice none 0 0, .slice none 0 0], 4⟩] [⟨B, (p.Terms.flatMap enc_Term)⟩, ⟨B1, (p.Out.Rows.flatMap encI)⟩] := hS3
  refine sq 10 rfl rfl (Y_not (p := r_2) rfl rfl) ?_
  refine rw_nil ?_
  refine cw_cond (b := (!r_2)) rfl (fun hb => ?_) (fun hb => ?_)
  · skip
    have hF1 := ct hF hb
    refine cw_seq ?_
    refine cw_region ?_
    refine sq 11 rfl rfl (Y_buildS (zs := [.int .i64 0, .int .i64 0, .slice none 0 0, .slice none 0 0]) (vs := []) (cs := [.int .i64 0, .int .i64 0, .slice none 0 0, .slice none 0 0]) k_pl_52 k_zero_52 rfl mpn rfl) ?_
    refine ss0 rfl rfl (Ys_store (i := 1) (s := 4) (B := some ⟨b1, 0, none⟩) (T' := 52) (v := .agg #[.int .i64 0, .int .i64 0, .slice none 0 0, .slice none 0 0]) (vs := [.int .i64 0, .int .i64 0, .slice none 0 0, .slice none 0 0]) (k := 0) (cs' := [.int .i64 0, .int .i64 0, .slice none 0 0, .slice none 0 0]) hS3 k_sz_52_4 rfl rfl rfl rfl rfl rfl rfl (Nat.le_of_ble_eq_true rfl) rfl rfl) ?_
    rintro _ w_3 ⟨rfl, hS4⟩
    have hS4 : ST w0 [] _ [⟨some ⟨b, 0, none⟩, 52, [.int .i64 p.Qubits, .int .i64 p.Phase, .slice B p.Terms.length c, .slice B1 p.Out.Rows.length c1], 4⟩, ⟨some ⟨b1, 0, none⟩, 52, [.int .i64 0, .int .i64 0, .slice none 0 0, .slice none 0 0], 4⟩] [⟨B, (p.Terms.flatMap enc_Term)⟩, ⟨B1, (p.Out.Rows.flatMap encI)⟩] := hS4
    refine sq 3 rfl rfl (Y_assign (v := .bool false) rfl rfl) ?_
    refine rw_nil ?_
    refine cw_ret ?_
    have hS5 := hS4.addNil 104
    have hS6 := hS5.addNil 3
    obtain ⟨rfl, rfl⟩ := pr2 (some_inj hF1)
    exact ret2 Try.results27 (v1 := .agg #[.int .i64 0, .int .i64 0, .slice none 0 0, .slice none 0 0]) (resAt_cellA (B := some ⟨b1, 0, none⟩) (i := 0) (cs := [.int .i64 0, .int .i64 0, .slice none 0 0, .slice none 0 0]) (vs := [.int .i64 0, .int .i64 0, .slice none 0 0, .slice none 0 0]) rfl k_ag_52 k_sz_52_4 (hS6.cf (i := 1) rfl) rfl rfl) (v2 := .bool false) (resAt_tmp rfl) ⟨none, 0, none, 0, rfl, (ST.subR (R' := []) (hS6.sel [2, 3] rfl rfl) (fun _ h => by cases h))⟩
  · skip
    have hF2 := cf' hF hb
    refine cw_skip ?_
    refine cw_seq ?_
    refine cw_region ?_
    refine sq 12 rfl rfl (Y_fieldAddr (B := some ⟨b, 0, none⟩) (i := 0) (s := 0) k_fd_52_3_3_50 k_sz_50_1 rfl rfl) ?_
    refine sq 13 rfl rfl (Y_loadA (B := some ⟨b, 0, none⟩) (i := 3) (cs := [.int .i64 p.Qubits, .int .i64 p.Phase, .slice B p.Terms.length c, .slice B1 p.Out.Rows.length c1]) (vs := [.slice B1 p.Out.Rows.length c1]) k_ag_50 k_sz_50_1 rfl rfl (hS3.cf (i := 0) rfl) rfl rfl) ?_
    obtain ⟨r_3, hc1, hF2⟩ := bind_inv hF2
    refine sc 14 rfl rfl (Yc_func (g := 81) (vs := [.agg #[.slice B1 p.Out.Rows.length c1]]) k_call_81 rfl (mc rfl mn) (c_impl_Linear_inverted p.Out B1 c1 p.Out.Rows.length _ rfl (hS3.inn0 [(true, 1)] rfl) hc1)) ?_
    rintro _ w_4 ⟨B4, c4, rfl, hd1⟩
    have hS7 := hS3.out0 hd1
    have hS7 : ST w0 [] _ [⟨some ⟨b, 0, none⟩, 52, [.int .i64 p.Qubits, .int .i64 p.Phase, .slice B p.Terms.length c, .slice B1 p.Out.Rows.length c1], 4⟩, ⟨some ⟨b1, 0, none⟩, 52, [.int .i64 0, .int .i64 0, .slice none 0 0, .slice none 0 0], 4⟩, ⟨B4, 3, (r_3.Rows.flatMap encI), c4 * 1⟩] [⟨B, (p.Terms.flatMap enc_Term)⟩, ⟨B1, (p.Out.Rows.flatMap encI)⟩] := hS7
    refine sq 15 rfl rfl (show Y _ _ _ _ _ (.agg ((List.replicate 32 0).flatMap encI).toArray) from Y_buildA (zs := [.int .i64 0, .int .i64 0, .int .i64 0, .int .i64 0, .int .i64 0, .int .i64 0, .int .i64 0, .int .i64 0, .int .i64 0, .int .i64 0, .int .i64 0, .int .i64 0, .int .i64 0, .int .i64 0, .int .i64 0, .int .i64 0, .int .i64 0, .int .i64 0, .int .i64 0, .int .i64 0, .int .i64 0, .int .i64 0, .int .i64 0, .int .i64 0, .int .i64 0, .int .i64 0, .int .i64 0, .int .i64 0, .int .i64 0, .int .i64 0, .int .i64 0, .int .i64 0]) (vs := []) (cs := [.int .i64 0, .int .i64 0, .int .i64 0, .int .i64 0, .int .i64 0, .int .i64 0, .int .i64 0, .int .i64 0, .int .i64 0, .int .i64 0, .int .i64 0, .int .i64 0, .int .i64 0, .int .i64 0, .int .i64 0, .int .i64 0, .int .i64 0, .int .i64 0, .int .i64 0, .int .i64 0, .int .i64 0, .int .i64 0, .int .i64 0, .int .i64 0, .int .i64 0, .int .i64 0, .int .i64 0, .int .i64 0, .int .i64 0, .int .i64 0, .int .i64 0, .int .i64 0]) k_ar_102_32_3 k_sz_3_1 k_zero_102 rfl rfl rfl) ?_
    refine ss 4 rfl rfl (Ys_alloc (T := 50) (cs := [.slice none 0 0]) (m := 1) hS7 k_zero_50 rfl rfl rfl) ?_
    rintro _ w_5 ⟨b2, rfl, hS8⟩
    have hS8 : ST w0 [] _ [⟨some ⟨b, 0, none⟩, 52, [.int .i64 p.Qubits, .int .i64 p.Phase, .slice B p.Terms.length c, .slice B1 p.Out.Rows.length c1], 4⟩, ⟨some ⟨b1, 0, none⟩, 52, [.int .i64 0, .int .i64 0, .slice none 0 0, .slice none 0 0], 4⟩, ⟨B4, 3, (r_3.Rows.flatMap encI), c4 * 1⟩, ⟨some ⟨b2, 0, none⟩, 50, [.slice none 0 0], 1⟩] [⟨B, (p.Terms.flatMap enc_Term)⟩, ⟨B1, (p.Out.Rows.flatMap encI)⟩] := hS8
    refine ss 5 rfl rfl (Ys_alloc (T := 102) (cs := ((List.replicate 32 0).flatMap encI)) (m := 32) hS8 k_zero_102 rfl rfl rfl) ?_
    rintro _ w_6 ⟨b3, rfl, hS9⟩
    have hS9 : ST w0 [] _ [⟨some ⟨b, 0, none⟩, 52, [.int .i64 p.Qubits, .int .i64 p.Phase, .slice B p.Terms.length c, .slice B1 p.Out.Rows.length c1], 4⟩, ⟨some ⟨b1, 0, none⟩, 52, [.int .i64 0, .int .i64 0, .slice none 0 0, .slice none 0 0], 4⟩, ⟨B4, 3, (r_3.Rows.flatMap encI), c4 * 1⟩, ⟨some ⟨b2, 0, none⟩, 50, [.slice none 0 0], 1⟩, ⟨some ⟨b3, 0, none⟩, 102, ((List.replicate 32 0).flatMap encI), 32⟩] [⟨B, (p.Terms.flatMap enc_Term)⟩, ⟨B1, (p.Out.Rows.flatMap encI)⟩] := hS9
    refine ss0 rfl rfl (Ys_store (i := 3) (s := 1) (B := some ⟨b2, 0, none⟩) (T' := 50) (v := .agg #[.slice B4 r_3.Rows.length c4]) (vs := [.slice B4 r_3.Rows.length c4]) (k := 0) (cs' := [.slice B4 r_3.Rows.length c4]) hS9 k_sz_50_1 rfl rfl rfl rfl rfl rfl rfl (Nat.le_of_ble_eq_true rfl) rfl rfl) ?_
    rintro _ w_7 ⟨rfl, hS10⟩
    have hS10 : ST w0 [] _ [⟨some ⟨b, 0, none⟩, 52, [.int .i64 p.Qubits, .int .i64 p.Phase, .slice B p.Terms.length c, .slice B1 p.Out.Rows.length c1], 4⟩, ⟨some ⟨b1, 0, none⟩, 52, [.int .i64 0, .int .i64 0, .slice none 0 0, .slice none 0 0], 4⟩, ⟨B4, 3, (r_3.Rows.flatMap encI), c4 * 1⟩, ⟨some ⟨b2, 0, none⟩, 50, [.slice B4 r_3.Rows.length c4], 1⟩, ⟨some ⟨b3, 0, none⟩, 102, ((List.replicate 32 0).flatMap encI), 32⟩] [⟨B, (p.Terms.flatMap enc_Term)⟩, ⟨B1, (p.Out.Rows.flatMap encI)⟩] := hS10
    refine ss0 rfl rfl (Ys_store (i := 4) (s := 32) (B := some ⟨b3, 0, none⟩) (T' := 102) (v := .agg ((List.replicate 32 0).flatMap encI).toArray) (vs := ((List.replicate 32 0).flatMap encI)) (k := 0) (cs' := ((List.replicate 32 0).flatMap encI)) hS10 k_sz_102_32 rfl rfl rfl rfl (fm_lenn2 encI_len (List.length_replicate (n := 32)) rfl) (fm_one' encI_one _) rfl (fm_fit encI_len (List.length_replicate (n := 32)) rfl) (fm_spl encI_len (List.length_replicate (n := 32)) (List.length_replicate (n := 32))) rfl) ?_
    rintro _ w_8 ⟨rfl, hS11⟩
    have hS11 : ST w0 [] _ [⟨some ⟨b, 0, none⟩, 52, [.int .i64 p.Qubits, .int .i64 p.Phase, .slice B p.Terms.length c, .slice B1 p.Out.Rows.length c1], 4⟩, ⟨some ⟨b1, 0, none⟩, 52, [.int .i64 0, .int .i64 0, .slice none 0 0, .slice none 0 0], 4⟩, ⟨B4, 3, (r_3.Rows.flatMap encI), c4 * 1⟩, ⟨some ⟨b2, 0, none⟩, 50, [.slice B4 r_3.Rows.length c4], 1⟩, ⟨some ⟨b3, 0, none⟩, 102, ((List.replicate 32 0).flatMap encI), 32⟩] [⟨B, (p.Terms.flatMap enc_Term)⟩, ⟨B1, (p.Out.Rows.flatMap encI)⟩] := hS11
    refine rw_nil ?_
    refine cw_seq ?_
    refine cw_seq ?_
    refine cw_region ?_
    refine sq 16 rfl rfl (Y_fieldAddr (B := some ⟨b, 0, none⟩) (i := 0) (s := 0) k_fd_52_2_2_47 k_sz_47_1 rfl rfl) ?_
    refine sq 17 rfl rfl (Y_load1 (B := some ⟨b, 0, none⟩) (i := 2) (cs := [.int .i64 p.Qubits, .int .i64 p.Phase, .slice B p.Terms.length c, .slice B1 p.Out.Rows.length c1]) (v := .slice B p.Terms.length c) k_sc_47 rfl rfl (hS11.cf (i := 0) rfl) rfl) ?_
    refine sq 18 rfl rfl (Y_len (B := B) (m := p.Terms.length) (c := c) k_sl_47_104 rfl rfl) ?_
    refine sq 19 rfl rfl (Y_move (v := .int .i64 0) rfl rfl) ?_
    refine rw_nil ?_
    obtain ⟨hN, hF2⟩ := chk_inv hF2
    obtain ⟨z, hz, hF3⟩ := bind_inv hF2
    refine cw_block ?_
    refine cw_loop (fun k f w => ∃ (i : Nat) (sums : List Int), FF f [(1, pt (some ⟨b, 0, none⟩) 0), (2, pt (some ⟨b1, 0, none⟩) 0), (4, pt (some ⟨b2, 0, none⟩) 0), (5, pt (some ⟨b3, 0, none⟩) 0), (17, .slice B p.Terms.length c), (18, .int .i64 (p.Terms.length : Int)), (19, .int .i64 (i : Int))] ∧ sums.length = 32 ∧ ST w0 [] w [⟨some ⟨b, 0, none⟩, 52, [.int .i64 p.Qubits, .int .i64 p.Phase, .slice B p.Terms.length c, .slice B1 p.Out.Rows.length c1], 4⟩, ⟨some ⟨b1, 0, none⟩, 52, [.int .i64 0, .int .i64 0, .slice none 0 0, .slice none 0 0], 4⟩, ⟨some ⟨b2, 0, none⟩, 50, [.slice B4 r_3.Rows.length c4], 1⟩, ⟨B4, 3, (r_3.Rows.flatMap encI), c4 * 1⟩, ⟨some ⟨b3, 0, none⟩, 102, (sums.flatMap encI), 32⟩] [⟨B, (p.Terms.flatMap enc_Term)⟩, ⟨B1, (p.Out.Rows.flatMap encI)⟩] ∧ i + k = p.Terms.length ∧ forN (F_impl_InvertPhase_l1 p r_3) k i sums = some z) p.Terms.length ⟨0, (List.replicate 32 0), (FF.cons rfl (FF.cons rfl (FF.cons rfl (FF.cons rfl (FF.cons rfl (FF.cons rfl (FF.cons rfl FF.nil))))))), (List.length_replicate (n := 32)), (hS11.sel [0, 1, 3, 2, 4] rfl rfl), Nat.zero_add _, hz⟩ ?_
    rintro k_ f w ⟨i, sums, hf, hl, hS12, hik, hL⟩
    refine cw_seq ?_
    refine cw_region ?_
    refine sq 20 rfl rfl (Y_lt (k := .i64) (a := (i : Int)) (b := (p.Terms.length : Int)) rfl (hf.get 19 6 rfl) (hf.get 18 5 rfl)) ?_
    refine rw_nil ?_
    refine cw_seq ?_
    refine cw_cond (b := (decide ((i : Int) < (p.Terms.length : Int)))) rfl (fun hlt => ?_) (fun hlt => ?_)
    · skip
      have hlt1 : i < p.Terms.length := by have h := of_decide_eq_true hlt; omega
      obtain ⟨k_1, rfl⟩ : ∃ k2, k_ = k2 + 1 := ⟨k_ - 1, by omega⟩
      obtain ⟨y, hb1, hL1⟩ := forN_go hL
      unfold F_impl_InvertPhase_l1 at hb1
      refine cw_skip ?_
      refine cw_seq ?_
      refine cw_block ?_
      refine cw_seq ?_
      refine cw_region ?_
      obtain ⟨x, hx, hb1⟩ := bind_inv hb1
      refine sq 21 rfl rfl (Y_index (B := B) (m := p.Terms.length) (c := c) (k := .i64) (i := (i : Int)) k_sl_47_104 k_sz_104_2 rfl (hf.get 17 4 rfl) (hf.get 19 6 rfl) (gi_isSome enc_Term_len rfl (hS12.rf (i := 0) rfl) hx) (getI_nn hx) (getI_ltI hx rfl)) ?_
      refine sq 22 rfl rfl (Y_loadA (B := B) (i := (i : Int).toNat * 2) (cs := (p.Terms.flatMap enc_Term)) (vs := [.int .i64 x.Mask, .int .i64 x.Coef]) k_ag_104 k_sz_104_2 rfl rfl (hS12.rf (i := 0) rfl) (enc_Term_len x) (gi_seg enc_Term_len hx)) ?_
      refine ss 7 rfl rfl (Ys_alloc (T := 104) (cs := [.int .i64 0, .int .i64 0]) (m := 2) hS12 k_zero_104 rfl rfl rfl) ?_
      rintro _ w_9 ⟨b4, rfl, hS13⟩
      have hS13 : ST w0 [] _ [⟨some ⟨b, 0, none⟩, 52, [.int .i64 p.Qubits, .int .i64 p.Phase, .slice B p.Terms.length c, .slice B1 p.Out.Rows.length c1], 4⟩, ⟨some ⟨b1, 0, none⟩, 52, [.int .i64 0, .int .i64 0, .slice none 0 0, .slice none 0 0], 4⟩, ⟨some ⟨b2, 0, none⟩, 50, [.slice B4 r_3.Rows.length c4], 1⟩, ⟨B4, 3, (r_3.Rows.flatMap encI), c4 * 1⟩, ⟨some ⟨b3, 0, none⟩, 102, (sums.flatMap encI), 32⟩, ⟨some ⟨b4, 0, none⟩, 104, [.int .i64 0, .int .i64 0], 2⟩] [⟨B, (p.Terms.flatMap enc_Term)⟩, ⟨B1, (p.Out.Rows.flatMap encI)⟩] := hS13
      refine ss0 rfl rfl (Ys_store (i := 5) (s := 2) (B := some ⟨b4, 0, none⟩) (T' := 104) (v := .agg #[.int .i64 x.Mask, .int .i64 x.Coef]) (vs := [.int .i64 x.Mask, .int .i64 x.Coef]) (k := 0) (cs' := [.int .i64 x.Mask, .int .i64 x.Coef]) hS13 k_sz_104_2 rfl rfl rfl rfl rfl rfl rfl (Nat.le_of_ble_eq_true rfl) rfl rfl) ?_
      rintro _ w_10 ⟨rfl, hS14⟩
      have hS14 : ST w0 [] _ [⟨some ⟨b, 0, none⟩, 52, [.int .i64 p.Qubits, .int .i64 p.Phase, .slice B p.Terms.length c, .slice B1 p.Out.Rows.length c1], 4⟩, ⟨some ⟨b1, 0, none⟩, 52, [.int .i64 0, .int .i64 0, .slice none 0 0, .slice none 0 0], 4⟩, ⟨some ⟨b2, 0, none⟩, 50, [.slice B4 r_3.Rows.length c4], 1⟩, ⟨B4, 3, (r_3.Rows.flatMap encI), c4 * 1⟩, ⟨some ⟨b3, 0, none⟩, 102, (sums.flatMap encI), 32⟩, ⟨some ⟨b4, 0, none⟩, 104, [.int .i64 x.Mask, .int .i64 x.Coef], 2⟩] [⟨B, (p.Terms.flatMap enc_Term)⟩, ⟨B1, (p.Out.Rows.flatMap encI)⟩] := hS14
      refine rw_nil ?_
      obtain ⟨r_4, hc2, hb1⟩ := bind_inv hb1
      obtain ⟨m, hc3, hb1⟩ := bind_inv hb1
      refine ra_start (ST.sel hS14 [0, 1, 2, 3, 5] rfl rfl).fn (by kernel_rfl) ?_
      have hS17 := hS14.drew
      refine ra_q 0 23 (v := .agg #[.slice B4 r_3.Rows.length c4]) rfl rfl rfl (by kernel_rfl) (by kernel_rfl) (by kernel_rfl) (ST.sel hS17 [0, 1, 2, 3, 5] rfl rfl) (fun w' hw' => (Y_loadA (B := some ⟨b2, 0, none⟩) (i := 0) (cs := [.slice B4 r_3.Rows.length c4]) (vs := [.slice B4 r_3.Rows.length c4]) k_ag_50 k_sz_50_1 rfl (hf.get 4 2 rfl) (ST.cf hw' (i := 2) rfl) rfl rfl)) ?_
      refine ra_q 1 24 (v := pt (some ⟨b4, 0, none⟩) 0) rfl rfl rfl (by kernel_rfl) (by kernel_rfl) (by kernel_rfl) (ST.sel hS17 [0, 1, 2, 3, 5] rfl rfl) (fun w' hw' => (Y_fieldAddr (B := some ⟨b4, 0, none⟩) (i := 0) (s := 0) k_fd_104_0_0_3 k_sz_3_1 rfl rfl)) ?_
      refine ra_q 2 25 (v := .int .i64 x.Mask) rfl rfl rfl (by kernel_rfl) (by kernel_rfl) (by kernel_rfl) (ST.sel hS17 [0, 1, 2, 3, 5] rfl rfl) (fun w' hw' => (Y_load1 (B := some ⟨b4, 0, none⟩) (i := 0) (cs := [.int .i64 x.Mask, .int .i64 x.Coef]) (v := .int .i64 x.Mask) k_sc_3 rfl rfl (ST.cf hw' (i := 4) rfl) rfl)) ?_
      refine ra_q 4 27 (v := pt (some ⟨b4, 0, none⟩) 1) rfl rfl rfl (by kernel_rfl) (by kernel_rfl) (by kernel_rfl) (ST.sel hS17 [0, 1, 2, 3, 5] rfl rfl) (fun w' hw' => (Y_fieldAddr (B := some ⟨b4, 0, none⟩) (i := 0) (s := 0) k_fd_104_1_1_3 k_sz_3_1 rfl rfl)) ?_
      refine ra_q 5 28 (v := .int .i64 x.Coef) rfl rfl rfl (by kernel_rfl) (by kernel_rfl) (by kernel_rfl) (ST.sel hS17 [0, 1, 2, 3, 5] rfl rfl) (fun w' hw' => (Y_load1 (B := some ⟨b4, 0, none⟩) (i := 1) (cs := [.int .i64 x.Mask, .int .i64 x.Coef]) (v := .int .i64 x.Coef) k_sc_3 rfl rfl (ST.cf hw' (i := 4) rfl) rfl)) ?_
      refine ra_q 6 29 (v := .int .i64 (IntKind.i64.wrap (-x.Coef))) rfl rfl rfl (by kernel_rfl) (by kernel_rfl) (by kernel_rfl) (ST.sel hS17 [0, 1, 2, 3, 5] rfl rfl) (fun w' hw' => (Y_neg (k := .i64) (a := x.Coef) rfl rfl)) ?_
      refine ra_all (rs := [3]) (by kernel_rfl) rfl ?_
      refine ra_c 26 (i := 3) rfl rfl rfl (Yc_func (g := 73) (vs := [.agg #[.slice B4 r_3.Rows.length c4], .int .i64 x.Mask]) k_call_73 rfl (mc rfl (mc rfl mn)) (c_impl_Linear_through r_3 x.Mask B4 c4 r_3.Rows.length _ rfl (hS17.inn0 [(false, 3)] rfl) hc2)) ?_ ?_
      · rintro _ w_11 ⟨rfl, hd2⟩
        have hS18 := hS17.out00 hd2
        have hS18 : ST w0 [] _ [⟨some ⟨b, 0, none⟩, 52, [.int .i64 p.Qubits, .int .i64 p.Phase, .slice B p.Terms.length c, .slice B1 p.Out.Rows.length c1], 4⟩, ⟨some ⟨b1, 0, none⟩, 52, [.int .i64 0, .int .i64 0, .slice none 0 0, .slice none 0 0], 4⟩, ⟨some ⟨b2, 0, none⟩, 50, [.slice B4 r_3.Rows.length c4], 1⟩, ⟨B4, 3, (r_3.Rows.flatMap encI), c4 * 1⟩, ⟨some ⟨b3, 0, none⟩, 102, (sums.flatMap encI), 32⟩, ⟨some ⟨b4, 0, none⟩, 104, [.int .i64 x.Mask, .int .i64 x.Coef], 2⟩] [⟨B, (p.Terms.flatMap enc_Term)⟩, ⟨B1, (p.Out.Rows.flatMap encI)⟩] := hS18
        refine ⟨(ST.sel hS18 [0, 1, 2, 3, 5] rfl rfl), ?_⟩
        refine ra_all (rs := [7]) (by kernel_rfl) rfl ?_
        refine ra_c 30 (i := 7) rfl rfl rfl (Yc_func (g := 72) (vs := [pt (some ⟨b3, 0, none⟩) 0, .int .i64 r_4, .int .i64 (IntKind.i64.wrap (-x.Coef))]) k_call_72 rfl (mc (hf.get 5 3 rfl) (mc rfl (mc rfl mn))) (c_impl_coefficients_add sums r_4 (IntKind.i64.wrap (-x.Coef)) (some ⟨b3, 0, none⟩) _ hl (hS18.inn [false, false, false, false, true, false] rfl [] rfl) hc3)) ?_ ?_
        · rintro _ w_12 ⟨rfl, hl1, hd3⟩
          have hS19 := hS18.out [false, false, false, false, true, false] rfl hd3
          have hS19 : ST w0 [] _ [⟨some ⟨b, 0, none⟩, 52, [.int .i64 p.Qubits, .int .i64 p.Phase, .slice B p.Terms.length c, .slice B1 p.Out.Rows.length c1], 4⟩, ⟨some ⟨b1, 0, none⟩, 52, [.int .i64 0, .int .i64 0, .slice none 0 0, .slice none 0 0], 4⟩, ⟨some ⟨b2, 0, none⟩, 50, [.slice B4 r_3.Rows.length c4], 1⟩, ⟨B4, 3, (r_3.Rows.flatMap encI), c4 * 1⟩, ⟨some ⟨b4, 0, none⟩, 104, [.int .i64 x.Mask, .int .i64 x.Coef], 2⟩, ⟨some ⟨b3, 0, none⟩, 102, (m.flatMap encI), 32⟩] [⟨B, (p.Terms.flatMap enc_Term)⟩, ⟨B1, (p.Out.Rows.flatMap encI)⟩] := hS19
          refine ⟨(ST.sel hS19 [0, 1, 2, 3, 4] rfl rfl), ?_⟩
          refine ra_done (by kernel_rfl) ?_
          refine cw_region ?_
          refine sq 31 rfl rfl (Y_add (k := .i64) (a := (i : Int)) (b := 1) rfl (hf.get 19 6 rfl) rfl) ?_
          refine sq 19 rfl rfl (Y_move (v := .int .i64 (IntKind.i64.wrap ((i : Int) + 1))) rfl rfl) ?_
          refine rw_nil ?_
          obtain rfl := some_inj hb1
          exact ⟨k_1, Nat.lt_succ_self _, i + 1, m, (FF.cons (hf.get 1 0 rfl) (FF.cons (hf.get 2 1 rfl) (FF.cons (hf.get 4 2 rfl) (FF.cons (hf.get 5 3 rfl) (FF.cons (hf.get 17 4 rfl) (FF.cons (hf.get 18 5 rfl) (FF.cons (congrArg (Value.int .i64) (wr_succ hlt1 hN)) FF.nil))))))), hl1, (hS19.sel [0, 1, 2, 3, 5] rfl rfl), (by omega), hL1⟩
        exact allR_nil
      exact allR_nil
    · skip
      obtain rfl : k_ = 0 := by have h := of_decide_eq_false hlt; omega
      refine cw_exit rfl ?_
      obtain rfl := some_inj hL
      refine cw_seq ?_
      obtain ⟨r_5, hc4, hF3⟩ := bind_inv hF3
      refine ra_start (ST.sel hS12 [0, 2, 3, 4] rfl rfl).fn (by kernel_rfl) ?_
      have hS21 := hS12.drew
      refine ra_q 0 32 (v := pt (some ⟨b, 0, none⟩) 0) rfl rfl rfl (by kernel_rfl) (by kernel_rfl) (by kernel_rfl) (ST.sel hS21 [0, 2, 3, 4] rfl rfl) (fun w' hw' => (Y_fieldAddr (B := some ⟨b, 0, none⟩) (i := 0) (s := 0) k_fd_52_0_0_3 k_sz_3_1 rfl (hf.get 1 0 rfl))) ?_
      refine ra_q 1 33 (v := .int .i64 p.Qubits) rfl rfl rfl (by kernel_rfl) (by kernel_rfl) (by kernel_rfl) (ST.sel hS21 [0, 2, 3, 4] rfl rfl) (fun w' hw' => (Y_load1 (B := some ⟨b, 0, none⟩) (i := 0) (cs := [.int .i64 p.Qubits, .int .i64 p.Phase, .slice B p.Terms.length c, .slice B1 p.Out.Rows.length c1]) (v := .int .i64 p.Qubits) k_sc_3 rfl rfl (ST.cf hw' (i := 0) rfl) rfl)) ?_
      refine ra_q 2 34 (v := pt (some ⟨b, 0, none⟩) 1) rfl rfl rfl (by kernel_rfl) (by kernel_rfl) (by kernel_rfl) (ST.sel hS21 [0, 2, 3, 4] rfl rfl) (fun w' hw' => (Y_fieldAddr (B := some ⟨b, 0, none⟩) (i := 0) (s := 0) k_fd_52_1_1_3 k_sz_3_1 rfl (hf.get 1 0 rfl))) ?_
      refine ra_q 3 35 (v := .int .i64 p.Phase) rfl rfl rfl (by kernel_rfl) (by kernel_rfl) (by kernel_rfl) (ST.sel hS21 [0, 2, 3, 4] rfl rfl) (fun w' hw' => (Y_load1 (B := some ⟨b, 0, none⟩) (i := 1) (cs := [.int .i64 p.Qubits, .int .i64 p.Phase, .slice B p.Terms.length c, .slice B1 p.Out.Rows.length c1]) (v := .int .i64 p.Phase) k_sc_3 rfl rfl (ST.cf hw' (i := 0) rfl) rfl)) ?_
      refine ra_q 4 36 (v := .int .i64 (IntKind.i64.wrap (8 - p.Phase))) rfl rfl rfl (by kernel_rfl) (by kernel_rfl) (by kernel_rfl) (ST.sel hS21 [0, 2, 3, 4] rfl rfl) (fun w' hw' => (Y_sub (k := .i64) (a := 8) (b := p.Phase) rfl rfl rfl)) ?_
      refine ra_q 5 37 (v := .int .i64 (Int.tmod (IntKind.i64.wrap (8 - p.Phase)) 8)) rfl rfl rfl (by kernel_rfl) (by kernel_rfl) (by kernel_rfl) (ST.sel hS21 [0, 2, 3, 4] rfl rfl) (fun w' hw' => (Y_rem (k := .i64) (a := (IntKind.i64.wrap (8 - p.Phase))) (b := 8) rfl rfl rfl (by decide))) ?_
      refine ra_q 6 38 (v := .agg (sums.flatMap encI).toArray) rfl rfl rfl (by kernel_rfl) (by kernel_rfl) (by kernel_rfl) (ST.sel hS21 [0, 2, 3, 4] rfl rfl) (fun w' hw' => (Y_loadA (B := some ⟨b3, 0, none⟩) (i := 0) (cs := (sums.flatMap encI)) (vs := (sums.flatMap encI)) k_ag_102 k_sz_102_32 rfl (hf.get 5 3 rfl) (ST.cf hw' (i := 3) rfl) (fm_lenn2 encI_len hl rfl) (fm_whole encI_len hl rfl))) ?_
      refine ra_q 8 40 (v := .agg #[.slice B4 r_3.Rows.length c4]) rfl rfl rfl (by kernel_rfl) (by kernel_rfl) (by kernel_rfl) (ST.sel hS21 [0, 2, 3, 4] rfl rfl) (fun w' hw' => (Y_loadA (B := some ⟨b2, 0, none⟩) (i := 0) (cs := [.slice B4 r_3.Rows.length c4]) (vs := [.slice B4 r_3.Rows.length c4]) k_ag_50 k_sz_50_1 rfl (hf.get 4 2 rfl) (ST.cf hw' (i := 1) rfl) rfl rfl)) ?_
      refine ra_all (rs := [7]) (by kernel_rfl) rfl ?_
      refine ra_c 39 (i := 7) rfl rfl rfl (Yc_func (g := 75) (vs := [.agg (sums.flatMap encI).toArray]) k_call_75 rfl (mc rfl mn) (c_impl_coefficients_terms sums _ hl (hS21.inn0 [] rfl) hc4)) ?_ ?_
      · rintro _ w_13 ⟨B5, c5, rfl, hd4⟩
        have hS22 := hS21.out0 hd4
        have hS22 : ST w0 [] _ [⟨some ⟨b, 0, none⟩, 52, [.int .i64 p.Qubits, .int .i64 p.Phase, .slice B p.Terms.length c, .slice B1 p.Out.Rows.length c1], 4⟩, ⟨some ⟨b1, 0, none⟩, 52, [.int .i64 0, .int .i64 0, .slice none 0 0, .slice none 0 0], 4⟩, ⟨some ⟨b2, 0, none⟩, 50, [.slice B4 r_3.Rows.length c4], 1⟩, ⟨B4, 3, (r_3.Rows.flatMap encI), c4 * 1⟩, ⟨some ⟨b3, 0, none⟩, 102, (sums.flatMap encI), 32⟩, ⟨B5, 104, (r_5.flatMap enc_Term), c5 * 2⟩] [⟨B, (p.Terms.flatMap enc_Term)⟩, ⟨B1, (p.Out.Rows.flatMap encI)⟩] := hS22
        refine ⟨(ST.sel hS22 [0, 2, 3, 4] rfl rfl), ?_⟩
        refine ra_q 9 41 (v := .agg #[.int .i64 p.Qubits, .int .i64 (Int.tmod (IntKind.i64.wrap (8 - p.Phase)) 8), .slice B5 r_5.length c5, .slice B4 r_3.Rows.length c4]) rfl rfl rfl (by kernel_rfl) (by kernel_rfl) (by kernel_rfl) (ST.sel hS22 [0, 2, 3, 4] rfl rfl) (fun w' hw' => (Y_buildS (zs := [.int .i64 0, .int .i64 0, .slice none 0 0, .slice none 0 0]) (vs := [(0, .int .i64 p.Qubits), (1, .int .i64 (Int.tmod (IntKind.i64.wrap (8 - p.Phase)) 8)), (2, .slice B5 r_5.length c5), (3, .agg #[.slice B4 r_3.Rows.length c4])]) (cs := [.int .i64 p.Qubits, .int .i64 (Int.tmod (IntKind.i64.wrap (8 - p.Phase)) 8), .slice B5 r_5.length c5, .slice B4 r_3.Rows.length c4]) k_pl_52 k_zero_52 rfl (mpc rfl (mpc rfl (mpc rfl (mpc rfl mpn)))) rfl)) ?_
        refine ra_all (rs := [10]) (by kernel_rfl) rfl ?_
        refine ra_s0 (i := 10) rfl rfl rfl (Ys_store (i := 1) (s := 4) (B := some ⟨b1, 0, none⟩) (T' := 52) (v := .agg #[.int .i64 p.Qubits, .int .i64 (Int.tmod (IntKind.i64.wrap (8 - p.Phase)) 8), .slice B5 r_5.length c5, .slice B4 r_3.Rows.length c4]) (vs := [.int .i64 p.Qubits, .int .i64 (Int.tmod (IntKind.i64.wrap (8 - p.Phase)) 8), .slice B5 r_5.length c5, .slice B4 r_3.Rows.length c4]) (k := 0) (cs' := [.int .i64 p.Qubits, .int .i64 (Int.tmod (IntKind.i64.wrap (8 - p.Phase)) 8), .slice B5 r_5.length c5, .slice B4 r_3.Rows.length c4]) hS22 k_sz_52_4 rfl (hf.get 2 1 rfl) rfl rfl rfl rfl rfl (Nat.le_of_ble_eq_true rfl) rfl rfl) ?_ ?_
        · rintro _ w_14 ⟨rfl, hS23⟩
          have hS23 : ST w0 [] _ [⟨some ⟨b, 0, none⟩, 52, [.int .i64 p.Qubits, .int .i64 p.Phase, .slice B p.Terms.length c, .slice B1 p.Out.Rows.length c1], 4⟩, ⟨some ⟨b1, 0, none⟩, 52, [.int .i64 p.Qubits, .int .i64 (Int.tmod (IntKind.i64.wrap (8 - p.Phase)) 8), .slice B5 r_5.length c5, .slice B4 r_3.Rows.length c4], 4⟩, ⟨some ⟨b2, 0, none⟩, 50, [.slice B4 r_3.Rows.length c4], 1⟩, ⟨B4, 3, (r_3.Rows.flatMap encI), c4 * 1⟩, ⟨some ⟨b3, 0, none⟩, 102, (sums.flatMap encI), 32⟩, ⟨B5, 104, (r_5.flatMap enc_Term), c5 * 2⟩] [⟨B, (p.Terms.flatMap enc_Term)⟩, ⟨B1, (p.Out.Rows.flatMap encI)⟩] := hS23
          refine ⟨(ST.sel hS23 [0, 2, 3, 4] rfl rfl), ?_⟩
          refine ra_q 11 3 (v := .bool true) rfl rfl rfl (by kernel_rfl) (by kernel_rfl) (by kernel_rfl) (ST.sel hS23 [0, 2, 3, 4] rfl rfl) (fun w' hw' => (Y_assign (v := .bool true) rfl rfl)) ?_
          refine ra_done (by kernel_rfl) ?_
          refine cw_ret ?_
          obtain ⟨rfl, rfl⟩ := pr2 (some_inj hF3)
          exact ret2 Try.results27 (v1 := .agg #[.int .i64 p.Qubits, .int .i64 (Int.tmod (IntKind.i64.wrap (8 - p.Phase)) 8), .slice B5 r_5.length c5, .slice B4 r_3.Rows.length c4]) (resAt_cellA (B := some ⟨b1, 0, none⟩) (i := 0) (cs := [.int .i64 p.Qubits, .int .i64 (Int.tmod (IntKind.i64.wrap (8 - p.Phase)) 8), .slice B5 r_5.length c5, .slice B4 r_3.Rows.length c4]) (vs := [.int .i64 p.Qubits, .int .i64 (Int.tmod (IntKind.i64.wrap (8 - p.Phase)) 8), .slice B5 r_5.length c5, .slice B4 r_3.Rows.length c4]) (hf.get 2 1 rfl) k_ag_52 k_sz_52_4 (hS23.cf (i := 1) rfl) rfl rfl) (v2 := .bool true) (resAt_tmp rfl) ⟨B5, c5, B4, c4, rfl, (ST.subR (R' := []) (hS23.sel [5, 3] rfl rfl) (fun _ h => by cases h))⟩
        exact allR_nil
      exact allR_nil

theorem c_impl_IdentityLinear (n : Int)  (w0 : World)  (hS : ST w0 [] w0 [] []) {r_ : TLinear} {r_1 : Bool} (hF : F_impl_IdentityLinear n = some (r_, r_1)) :
    CV Try.prog 28 #[.int .i64 n] w0 (fun v w' => ∃ (B : Option Addr) (c : Nat), v = .tuple #[.agg #[.slice B r_.Rows.length c], .bool r_1] ∧ ST w0 [] w' [⟨B, 3, (r_.Rows.flatMap encI), c * 1⟩] []) := by
  unfold F_impl_IdentityLinear at hF
  refine cv_of_cw 10 Try.func28 rfl Try.ntmps28 rfl ?_
  refine cw_seq ?_
  refine cw_region ?_
  refine ss 2 rfl rfl (Ys_alloc (T := 50) (cs := [.slice none 0 0]) (m := 1) hS k_zero_50 rfl rfl rfl) ?_
  rintro _ w_ ⟨b, rfl, hS1⟩
  refine sq 3 rfl rfl (Y_assign (v := .bool false) rfl rfl) ?_
  refine rw_nil ?_
  refine cw_seq ?_
  refine cw_seq ?_
  refine cw_region ?_
  refine sq 4 rfl rfl (Y_move (v := .int .i64 n) rfl rfl) ?_
  obtain ⟨r_2, hc, hF⟩ := bind_inv hF
  refine sc 5 rfl rfl (Yc_func (g := 82) (vs := [.int .i64 n, .int .i64 1, .int .i64 5]) k_call_82 rfl (mc rfl (mc rfl (mc rfl mn))) (c_impl_within n 1 5 _  (hS1.inn0 [] rfl) hc)) ?_
  rintro _ w_1 ⟨rfl, hd⟩
  have hS2 := hS1.out00 hd
  refine sq 6 rfl rfl (Y_not (p := r_2) rfl rfl) ?_
  refine rw_nil ?_
  refine cw_cond (b := (!r_2)) rfl (fun hb => ?_) (fun hb => ?_)
  · skip
    have hF1 := ct hF hb
    refine cw_seq ?_
    refine cw_region ?_
    refine sq 7 rfl rfl (Y_buildS (zs := [.slice none 0 0]) (vs := []) (cs := [.slice none 0 0]) k_pl_50 k_zero_50 rfl mpn rfl) ?_
    refine ss0 rfl rfl (Ys_store (i := 0) (s := 1) (B := some ⟨b, 0, none⟩) (T' := 50) (v := .agg #[.slice none 0 0]) (vs := [.slice none 0 0]) (k := 0) (cs' := [.slice none 0 0]) hS2 k_sz_50_1 rfl rfl rfl rfl rfl rfl rfl (Nat.le_of_ble_eq_true rfl) rfl rfl) ?_
    rintro _ w_2 ⟨rfl, hS3⟩
    refine sq 3 rfl rfl (Y_assign (v := .bool false) rfl rfl) ?_
    refine rw_nil ?_
    refine cw_ret ?_
    have hS4 := hS3.addNil 3
    obtain ⟨rfl, rfl⟩ := pr2 (some_inj hF1)
    exact ret2 Try.results28 (v1 := .agg #[.slice none 0 0]) (resAt_cellA (B := some ⟨b, 0, none⟩) (i := 0) (cs := [.slice none 0 0]) (vs := [.slice none 0 0]) rfl k_ag_50 k_sz_50_1 (hS4.cf (i := 0) rfl) rfl rfl) (v2 := .bool false) (resAt_tmp rfl) ⟨none, 0, rfl, (ST.subR (R' := []) (hS4.sel [1] rfl rfl) (fun _ h => by cases h))⟩
  · skip
    have hF2 := cf' hF hb
    refine cw_skip ?_
    refine cw_seq ?_
    refine cw_region ?_
    refine sq 8 rfl rfl (Y_move (v := .int .i64 n) rfl rfl) ?_
    obtain ⟨r_3, hc1, hF2⟩ := bind_inv hF2
    refine sc 9 rfl rfl (Yc_func (g := 83) (vs := [.int .i64 n]) k_call_83 rfl (mc rfl mn) (c_impl_identityLinear n _  (hS2.inn0 [] rfl) hc1)) ?_
    rintro _ w_3 ⟨B1, c1, rfl, hd1⟩
    have hS5 := hS2.out0 hd1
    have hS5 : ST w0 [] _ [⟨some ⟨b, 0, none⟩, 50, [.slice none 0 0], 1⟩, ⟨B1, 3, (r_3.Rows.flatMap encI), c1 * 1⟩] [] := hS5
    refine ss0 rfl rfl (Ys_store (i := 0) (s := 1) (B := some ⟨b, 0, none⟩) (T' := 50) (v := .agg #[.slice B1 r_3.Rows.length c1]) (vs := [.slice B1 r_3.Rows.length c1]) (k := 0) (cs' := [.slice B1 r_3.Rows.length c1]) hS5 k_sz_50_1 rfl rfl rfl rfl rfl rfl rfl (Nat.le_of_ble_eq_true rfl) rfl rfl) ?_
    rintro _ w_4 ⟨rfl, hS6⟩
    have hS6 : ST w0 [] _ [⟨some ⟨b, 0, none⟩, 50, [.slice B1 r_3.Rows.length c1], 1⟩, ⟨B1, 3, (r_3.Rows.flatMap encI), c1 * 1⟩] [] := hS6
    refine sq 3 rfl rfl (Y_assign (v := .bool true) rfl rfl) ?_
    refine rw_nil ?_
    refine cw_ret ?_
    obtain ⟨rfl, rfl⟩ := pr2 (some_inj hF2)
    exact ret2 Try.results28 (v1 := .agg #[.slice B1 r_3.Rows.length c1]) (resAt_cellA (B := some ⟨b, 0, none⟩) (i := 0) (cs := [.slice B1 r_3.Rows.length c1]) (vs := [.slice B1 r_3.Rows.length c1]) rfl k_ag_50 k_sz_50_1 (hS6.cf (i := 0) rfl) rfl rfl) (v2 := .bool true) (resAt_tmp rfl) ⟨B1, c1, rfl, (ST.subR (R' := []) (hS6.sel [1] rfl rfl) (fun _ h => by cases h))⟩
end Go.VK
