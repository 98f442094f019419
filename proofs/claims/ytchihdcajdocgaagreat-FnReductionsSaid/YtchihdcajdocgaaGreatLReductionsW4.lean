/- Walks: each Go function returns what its Lean function says. By program. -/
import Derived.Test.YtchihdcajdocgaaGreatLReductionsFa
import Derived.Test.YtchihdcajdocgaaGreatLReductionsShelf
import Derived.Test.YtchihdcajdocgaaGreatLReductionsW3
set_option linter.unusedVariables false
set_option maxRecDepth 100000
set_option maxHeartbeats 4000000
namespace Go.VK
open Go.RowKit
open Go.Proofs
open Go.IntKind
attribute [local irreducible] CW RW RA CV Y Yw Yc Ys RetOf
attribute [local irreducible] F_laws_qTerms F_laws_qInts F_laws_qPoly F_spec_l1Cur_next F_spec_l1Cur_pick F_spec_l1Cur_one F_spec_l13List F_spec_l1Put F_spec_l1Set F_spec_l13Parity F_spec_l15Affine F_spec_l15Codes F_spec_l1Cur_oddWord F_spec_l1Cur_among F_spec_l13By F_spec_l12Identity F_spec_l1Own F_spec_l12CX F_spec_l1Cur_linear F_spec_l1Cur_phasePoly F_spec_l1Cur_reducible F_spec_l1Cur_anyLinear F_spec_l1Cur_anyPhasePoly F_spec_DrawLeastT F_spec_DrawReduceT F_impl_within F_impl_areTerms F_slices_IndexFunc_int_int F_slices_ContainsFunc_int_int F_impl_IsValidLinear_1 F_slices_Clone_int_int F_impl_rankOf_1 F_slices_Delete_int_int F_impl_rankOf F_impl_IsValidLinear F_impl_IsValidPhasePoly F_math_bits_OnesCount64 F_math_bits_OnesCount F_impl_bitsIn F_slices_Sort_int_int F_impl_codeWords F_impl_nearest F_impl_oddWord F_impl_coefficients_add F_impl_coefficients_terms F_slices_Index_int_int F_slices_Contains_int_int F_impl_isWord F_impl_IsCodeWord F_impl_ShiftBy F_impl_ReduceT F_spec_l1In F_spec_l1All F_spec_l12Rank F_spec_l12Valid F_spec_l13Valid F_spec_l15Nearest F_spec_l15Odd F_spec_l15Shift F_spec_ReduceT F_spec_l1Cur_relative F_spec_DrawCheckReduction F_impl_LeastT F_slices_Equal_int_int F_slices_Equal_impl_Term_impl_Term F_impl_equalPolys F_impl_oddTerms F_impl_CheckReduction F_spec_l1Has F_spec_l1Same F_spec_l15SameTerms F_spec_l15Same F_spec_l13Odd F_spec_l15Least F_spec_CheckReduction F_impl_MonomialsOf F_impl_EqualPhases F_impl_OddTerms F_laws_FnReductions
theorem c_impl_MonomialsOf (p : TPhasePoly) (B : Option Addr) (c n : Nat) (B1 : Option Addr) (c1 n1 : Nat) (w0 : World) (hn : p.Terms.length = n) (hn1 : p.Out.Rows.length = n1) (hS : ST w0 [] w0 [] [⟨B, (p.Terms.flatMap eN0)⟩, ⟨B1, (p.Out.Rows.flatMap encI)⟩]) {r_ : List TTerm} {r_1 : Bool} (hF : F_impl_MonomialsOf p = some (r_, r_1)) :
  CV Tryz.prog 128 #[.agg #[vi p.Qubits, vi p.Phase, .slice B n c, .slice B1 n1 c1]] w0 (fun v w' => ∃ (B2 : Option Addr) (c2 : Nat), v = .tuple #[.slice B2 r_.length c2, .bool r_1] ∧ ST w0 [] w' [⟨B2, 136, (r_.flatMap eN0), c2 * 2⟩] []) := by
 subst hn
 subst hn1
 unfold F_impl_MonomialsOf at hF
 refine cv_of_cw 49 Tryz.func128 rfl Tryz.ntmps128 rfl ?_
 refine cw_seq (cw_region ?_)
 refine sS 1 (Ys_box (T := 70) (v := .agg #[vi p.Qubits, vi p.Phase, .slice B p.Terms.length c, .slice B1 p.Out.Rows.length c1]) (cs := [vi p.Qubits, vi p.Phase, .slice B p.Terms.length c, .slice B1 p.Out.Rows.length c1]) (m := 4) hS rfl rfl rfl rfl) ?_
 rintro _ w_ ⟨b, rfl, hS1⟩
 refine sQ 2 (Y_assign (v := .slice none 0 0) rfl rfl) ?_
 refine sQ 3 (Y_assign (v := .bool false) rfl rfl) (rw_nil (cw_seq (cw_seq (cw_region ?_))))
 refine sQ 9 (Y_loadA (B := aD b) (i := 0) (cs := [vi p.Qubits, vi p.Phase, .slice B p.Terms.length c, .slice B1 p.Out.Rows.length c1]) (vs := [vi p.Qubits, vi p.Phase, .slice B p.Terms.length c, .slice B1 p.Out.Rows.length c1]) k_ag_70 k_sz_70_4 rfl rfl (hS1.cf (i := 0) rfl) rfl rfl) ?_
 obtain ⟨r_2, hc, hF⟩ := bind_inv hF
 refine sc 10 rfl rfl (Yc_func (g := 102) (vs := [.agg #[vi p.Qubits, vi p.Phase, .slice B p.Terms.length c, .slice B1 p.Out.Rows.length c1]]) k_call_102 rfl (mc rfl mn) (c_impl_IsValidPhasePoly p B c p.Terms.length B1 c1 p.Out.Rows.length _ rfl rfl (hS1.inn0 [(true, 0), (true, 1)] rfl) hc)) ?_
 rintro _ w_1 ⟨rfl, hd⟩
 have hS2 := hS1.out00 hd
 refine sQ 11 (Y_not (p := r_2) rfl rfl) (rw_nil ?_)
 refine cw_cond (b := (!r_2)) rfl (fun hb => ?_) (fun hb => ?_)
 ·skip
  have hF1 := ct hF hb
  refine cw_seq (cw_region ?_)
  refine sQ 2 (Y_assign (v := .slice none 0 0) rfl rfl) ?_
  refine sQ 3 (Y_assign (v := .bool false) rfl rfl) (rw_nil (cw_ret ?_))
  have hS3 := hS2.addNil 136
  obtain ⟨rfl, rfl⟩ := pr2 (some_inj hF1)
  exact ret2 Tryz.results128 (v1 := .slice none 0 0) (resAt_tmp rfl) (v2 := .bool false) (resAt_tmp rfl) ⟨none, 0, rfl, (hS3.sN [1])⟩
 ·skip
  have hF2 := cf' hF hb
  refine cw_skip (cw_seq (cw_region ?_))
  refine sQ 12 (show Y _ _ _ _ _ (.agg ((List.replicate 32 0).flatMap encI).toArray) from Y_buildA (zs := [vi 0, vi 0, vi 0, vi 0, vi 0, vi 0, vi 0, vi 0, vi 0, vi 0, vi 0, vi 0, vi 0, vi 0, vi 0, vi 0, vi 0, vi 0, vi 0, vi 0, vi 0, vi 0, vi 0, vi 0, vi 0, vi 0, vi 0, vi 0, vi 0, vi 0, vi 0, vi 0]) (vs := []) (cs := [vi 0, vi 0, vi 0, vi 0, vi 0, vi 0, vi 0, vi 0, vi 0, vi 0, vi 0, vi 0, vi 0, vi 0, vi 0, vi 0, vi 0, vi 0, vi 0, vi 0, vi 0, vi 0, vi 0, vi 0, vi 0, vi 0, vi 0, vi 0, vi 0, vi 0, vi 0, vi 0]) k_ar_127_32_3 k_sz_3_1 k_zero_127 rfl rfl rfl) ?_
  refine sS 4 (Ys_alloc (T := 127) (cs := ((List.replicate 32 0).flatMap encI)) (m := 32) hS2 k_zero_127 rfl rfl rfl) ?_
  rintro _ w_2 ⟨b1, rfl, hS4⟩
  refine s0 (Ys_store (i := 1) (s := 32) (B := aD b1) (T' := 127) (v := .agg ((List.replicate 32 0).flatMap encI).toArray) (vs := ((List.replicate 32 0).flatMap encI)) (k := 0) (cs' := ((List.replicate 32 0).flatMap encI)) hS4 k_sz_127_32 rfl rfl rfl rfl (fm_lenn2 encI_len (List.length_replicate (n := 32)) rfl) (fm_one' encI_one _) rfl (fm_fit encI_len (List.length_replicate (n := 32)) rfl) (fm_spl encI_len (List.length_replicate (n := 32)) (List.length_replicate (n := 32))) rfl) ?_
  rintro _ w_3 ⟨rfl, hS5⟩
  refine rw_nil (cw_seq (cw_seq (cw_region ?_)))
  refine sQ 5 (Y_assign (v := vi 1) rfl rfl) (rw_nil ?_)
  obtain ⟨z, hz, hF3⟩ := bind_inv hF2
  refine cw_block ?_
  refine cw_loop (fun k f w => ∃ (sums : List Int) (mask : Int), FF f [(1, pt (aD b) 0), (4, pt (aD b1) 0), (5, vi mask)] ∧ sums.length = 32 ∧ ST w0 [] w [⟨aD b, 70, [vi p.Qubits, vi p.Phase, .slice B p.Terms.length c, .slice B1 p.Out.Rows.length c1], 4⟩, ⟨aD b1, 127, (sums.flatMap encI), 32⟩] [⟨B, (p.Terms.flatMap eN0)⟩, ⟨B1, (p.Out.Rows.flatMap encI)⟩] ∧ whX (F_impl_MonomialsOf_l1 p) k (sums, mask) = some z) fuel ⟨(List.replicate 32 0), 1, (FF.cons rfl (FF.cons rfl (FF.cons rfl FF.nil))), (List.length_replicate (n := 32)), (hS5.sel [0, 1] rfl rfl), hz⟩ ?_
  rintro k_ f w ⟨sums, mask, hf, hl, hS6, hL⟩
  obtain ⟨k_1, y, rfl, hb1, hL1⟩ := whX_go hL
  unfold F_impl_MonomialsOf_l1 at hb1
  refine cw_seq (cw_seq (cw_region ?_))
  refine sQ 13 (Y_move (v := vi mask) rfl (hf.get 5 2 rfl)) ?_
  refine sQ 14 (Y_fieldAddr (B := aD b) (i := 0) (s := 0) k_fd_70_0_0_3 k_sz_3_1 rfl (hf.get 1 0 rfl)) ?_
  refine sQ 15 (Y_load1 (B := aD b) (i := 0) (cs := [vi p.Qubits, vi p.Phase, .slice B p.Terms.length c, .slice B1 p.Out.Rows.length c1]) (v := vi p.Qubits) k_sc_3 rfl rfl (hS6.cf (i := 0) rfl) rfl) ?_
  obtain ⟨hsh, hb1⟩ := chk_inv hb1
  refine sQ 16 (Y_shl (k := .i64) (a := 1) (k' := .i64) (b := p.Qubits) rfl rfl rfl hsh) ?_
  refine sQ 17 (Y_lt (k := .i64) (a := mask) (b := (shlK .i64 1 p.Qubits)) rfl rfl rfl) (rw_nil ?_)
  refine cw_cond (b := (decide (mask < (shlK .i64 1 p.Qubits)))) rfl (fun hb2 => ?_) (fun hb2 => ?_)
  ·skip
   have hF4 := ct hb1 hb2
   refine cw_skip (cw_seq ?_)
   obtain ⟨z1, hz1, hF5⟩ := bind_inv hF4
   refine cw_mid (fun f w => ∃ (sums1 : List Int), sums1 = z1 ∧ FF f [(1, pt (aD b) 0), (4, pt (aD b1) 0), (5, vi mask)] ∧ sums1.length = 32 ∧ ST w0 [] w [⟨aD b, 70, [vi p.Qubits, vi p.Phase, .slice B p.Terms.length c, .slice B1 p.Out.Rows.length c1], 4⟩, ⟨aD b1, 127, (sums1.flatMap encI), 32⟩] [⟨B, (p.Terms.flatMap eN0)⟩, ⟨B1, (p.Out.Rows.flatMap encI)⟩]) ?_ ?_
   ·skip
    refine cw_block (cw_seq (cw_seq (cw_region ?_)))
    refine sQ 20 (Y_move (v := vi mask) rfl (hf.get 5 2 rfl)) ?_
    obtain ⟨r_3, hc1, hz1⟩ := bind_inv hz1
    refine sc 21 rfl rfl (Yc_func (g := 186) (vs := [vi mask]) k_call_186 rfl (mc rfl mn) (c_impl_bitsIn mask _  (hS6.inn0 [] rfl) hc1)) ?_
    rintro _ w_4 ⟨rfl, hd1⟩
    have hS8 := hS6.out00 hd1
    refine sQ 22 (Y_gt (k := .i64) (a := r_3) (b := 3) rfl rfl rfl) (rw_nil ?_)
    refine cw_cond (b := (decide (3 < r_3))) rfl (fun hb3 => ?_) (fun hb3 => ?_)
    ·skip
     have hF6 := ct hz1 hb3
     refine cw_exit rfl ?_
     exact ⟨sums, (some_inj hF6), (FF.cons (hf.get 1 0 rfl) (FF.cons (hf.get 4 1 rfl) (FF.cons (hf.get 5 2 rfl) FF.nil))), hl, (hS8.sel [0, 1] rfl rfl)⟩
    ·skip
     have hF7 := cf' hz1 hb3
     refine cw_skip (cw_seq (cw_region ?_))
     refine sQ 23 (show Y _ _ _ _ _ (.agg (([0, 1, (-2), 4] : List Int).flatMap encI).toArray) from Y_buildA (zs := [vi 0, vi 0, vi 0, vi 0]) (vs := [(0, vi 0), (1, vi 1), (2, vi (-2)), (3, vi 4)]) (cs := [vi 0, vi 1, vi (-2), vi 4]) k_ar_194_4_3 k_sz_3_1 k_zero_194 rfl (mpc rfl (mpc rfl (mpc rfl (mpc rfl mpn)))) (by kernel_rfl)) ?_
     refine sQ 24 (Y_move (v := vi mask) rfl (hf.get 5 2 rfl)) ?_
     obtain ⟨r_4, hc2, hF7⟩ := bind_inv hF7
     refine sc 25 rfl rfl (Yc_func (g := 186) (vs := [vi mask]) k_call_186 rfl (mc rfl mn) (c_impl_bitsIn mask _  (hS8.inn0 [] rfl) hc2)) ?_
     rintro _ w_5 ⟨rfl, hd2⟩
     have hS9 := hS8.out00 hd2
     obtain ⟨x, hx, hF7⟩ := bind_inv hF7
     refine sQ 26 (Y_idx1 (cl := (([0, 1, (-2), 4] : List Int).flatMap encI)) (k := .i64) (i := r_4) (v := vi x) k_ar_194_4_3 k_sz_3_1 k_sc_3 rfl rfl rfl (getI_nn hx) (getI_ltI hx rfl) (gi_at0 encI_len hx rfl)) ?_
     refine sQ 6 (Y_assign (v := vi x) rfl rfl) (rw_nil (cw_seq (cw_region ?_)))
     refine sQ 27 (Y_fieldAddr (B := aD b) (i := 0) (s := 0) k_fd_70_2_2_65 k_sz_65_1 rfl (hf.get 1 0 rfl)) ?_
     refine sQ 28 (Y_load1 (B := aD b) (i := 2) (cs := [vi p.Qubits, vi p.Phase, .slice B p.Terms.length c, .slice B1 p.Out.Rows.length c1]) (v := .slice B p.Terms.length c) k_sc_65 rfl rfl (hS9.cf (i := 0) rfl) rfl) ?_
     refine sQ 29 (Y_len (B := B) (m := p.Terms.length) (c := c) k_sl_65_136 rfl rfl) ?_
     refine sQ 30 (Y_move (v := vi 0) rfl rfl) (rw_nil ?_)
     obtain ⟨hN, hF7⟩ := chk_inv hF7
     obtain ⟨z2, hz2, hF8⟩ := bind_inv hF7
     refine cw_block ?_
     refine cw_loop (fun k f w => ∃ (i : Nat) (sums2 : List Int), FF f [(1, pt (aD b) 0), (4, pt (aD b1) 0), (5, vi mask), (6, vi x), (28, .slice B p.Terms.length c), (29, vi (p.Terms.length : Int)), (30, vi (i : Int))] ∧ sums2.length = 32 ∧ ST w0 [] w [⟨aD b, 70, [vi p.Qubits, vi p.Phase, .slice B p.Terms.length c, .slice B1 p.Out.Rows.length c1], 4⟩, ⟨aD b1, 127, (sums2.flatMap encI), 32⟩] [⟨B, (p.Terms.flatMap eN0)⟩, ⟨B1, (p.Out.Rows.flatMap encI)⟩] ∧ i + k = p.Terms.length ∧ forN (F_impl_MonomialsOf_l2 p mask x) k i sums2 = some z2) p.Terms.length ⟨0, sums, (FF.cons (hf.get 1 0 rfl) (FF.cons (hf.get 4 1 rfl) (FF.cons (hf.get 5 2 rfl) (FF.cons rfl (FF.cons rfl (FF.cons rfl (FF.cons rfl FF.nil))))))), hl, (hS9.sel [0, 1] rfl rfl), Nat.zero_add _, hz2⟩ ?_
     rintro k_2 f w ⟨i, sums2, hf2, hl2, hS10, hik1, hL2⟩
     refine cw_seq (cw_region ?_)
     refine sQ 31 (Y_lt (k := .i64) (a := (i : Int)) (b := (p.Terms.length : Int)) rfl (hf2.get 30 6 rfl) (hf2.get 29 5 rfl)) (rw_nil (cw_seq ?_))
     refine cw_cond (b := (decide ((i : Int) < (p.Terms.length : Int)))) rfl (fun hlt => ?_) (fun hlt => ?_)
     ·skip
      have hlt1 : i < p.Terms.length := by have h := of_decide_eq_true hlt; omega
      obtain ⟨k_3, rfl⟩ : ∃ k2, k_2 = k2 + 1 := ⟨k_2 - 1, by omega⟩
      obtain ⟨y1, hb4, hL3⟩ := forN_go hL2
      unfold F_impl_MonomialsOf_l2 at hb4
      refine cw_skip (cw_seq ?_)
      obtain ⟨z3, hz3, hF9⟩ := bind_inv hb4
      refine cw_mid (fun f w => ∃ (sums3 : List Int), sums3 = z3 ∧ FF f [(1, pt (aD b) 0), (4, pt (aD b1) 0), (5, vi mask), (6, vi x), (28, .slice B p.Terms.length c), (29, vi (p.Terms.length : Int)), (30, vi (i : Int))] ∧ sums3.length = 32 ∧ ST w0 [] w [⟨aD b, 70, [vi p.Qubits, vi p.Phase, .slice B p.Terms.length c, .slice B1 p.Out.Rows.length c1], 4⟩, ⟨aD b1, 127, (sums3.flatMap encI), 32⟩] [⟨B, (p.Terms.flatMap eN0)⟩, ⟨B1, (p.Out.Rows.flatMap encI)⟩]) ?_ ?_
      ·skip
       refine cw_block (cw_seq (cw_region ?_))
       obtain ⟨x1, hx1, hz3⟩ := bind_inv hz3
       refine sQ 32 (Y_index (B := B) (m := p.Terms.length) (c := c) (k := .i64) (i := (i : Int)) k_sl_65_136 k_sz_136_2 rfl (hf2.get 28 4 rfl) (hf2.get 30 6 rfl) (gi_isSome eN1 rfl (hS10.rf (i := 0) rfl) hx1) (getI_nn hx1) (getI_ltI hx1 rfl)) ?_
       refine sQ 33 (Y_loadA (B := B) (i := (i : Int).toNat * 2) (cs := (p.Terms.flatMap eN0)) (vs := [vi x1.Mask, vi x1.Coef]) k_ag_136 k_sz_136_2 rfl rfl (hS10.rf (i := 0) rfl) (eN1 x1) (gi_seg eN1 hx1)) ?_
       refine sS 8 (Ys_alloc (T := 136) (cs := [vi 0, vi 0]) (m := 2) hS10 k_zero_136 rfl rfl rfl) ?_
       rintro _ w_6 ⟨b2, rfl, hS12⟩
       refine s0 (Ys_store (i := 2) (s := 2) (B := aD b2) (T' := 136) (v := .agg #[vi x1.Mask, vi x1.Coef]) (vs := [vi x1.Mask, vi x1.Coef]) (k := 0) (cs' := [vi x1.Mask, vi x1.Coef]) hS12 k_sz_136_2 rfl rfl rfl rfl rfl rfl rfl (lB rfl) rfl rfl) ?_
       rintro _ w_7 ⟨rfl, hS13⟩
       refine rw_nil (cw_seq (cw_region ?_))
       refine sQ 34 (Y_fieldAddr (B := aD b2) (i := 0) (s := 0) k_fd_136_0_0_3 k_sz_3_1 rfl rfl) ?_
       refine sQ 35 (Y_load1 (B := aD b2) (i := 0) (cs := [vi x1.Mask, vi x1.Coef]) (v := vi x1.Mask) k_sc_3 rfl rfl (hS13.cf (i := 2) rfl) rfl) ?_
       refine sQ 36 (Y_move (v := vi mask) rfl (hf2.get 5 2 rfl)) ?_
       refine sQ 37 (Y_band (k := .i64) (a := x1.Mask) (b := mask) rfl rfl rfl) ?_
       refine sQ 38 (Y_move (v := vi mask) rfl (hf2.get 5 2 rfl)) ?_
       refine sQ 39 (Y_eq (k := .i64) (a := (bits .and .i64 x1.Mask mask)) (b := mask) rfl rfl rfl) (rw_nil ?_)
       refine cw_cond (b := ((bits .and .i64 x1.Mask mask) == mask)) rfl (fun hb5 => ?_) (fun hb5 => ?_)
       ·skip
        have hF10 := ct hz3 hb5
        refine cw_region ?_
        refine sQ 40 (Y_move (v := vi mask) rfl (hf2.get 5 2 rfl)) ?_
        refine sQ 41 (Y_move (v := vi x) rfl (hf2.get 6 3 rfl)) ?_
        refine sQ 42 (Y_fieldAddr (B := aD b2) (i := 0) (s := 0) k_fd_136_1_1_3 k_sz_3_1 rfl rfl) ?_
        refine sQ 43 (Y_load1 (B := aD b2) (i := 1) (cs := [vi x1.Mask, vi x1.Coef]) (v := vi x1.Coef) k_sc_3 rfl rfl (hS13.cf (i := 2) rfl) rfl) ?_
        refine sQ 44 (Y_mul (k := .i64) (a := x) (b := x1.Coef) rfl rfl rfl) ?_
        obtain ⟨m, hc3, hF10⟩ := bind_inv hF10
        refine sc 45 rfl rfl (Yc_func (g := 93) (vs := [pt (aD b1) 0, vi mask, vi (i64.wrap (x * x1.Coef))]) k_call_93 rfl (mc (hf2.get 4 1 rfl) (mc rfl (mc rfl mn))) (c_impl_coefficients_add sums2 mask (i64.wrap (x * x1.Coef)) (aD b1) _ hl2 (hS13.inn [false, true, false] rfl [] rfl) hc3)) ?_
        rintro _ w_8 ⟨rfl, hl4, hd3⟩
        have hS14 := hS13.out [false, true, false] rfl hd3
        refine rw_nil ?_
        exact ⟨m, (some_inj hF10), (FF.cons (hf2.get 1 0 rfl) (FF.cons (hf2.get 4 1 rfl) (FF.cons (hf2.get 5 2 rfl) (FF.cons (hf2.get 6 3 rfl) (FF.cons (hf2.get 28 4 rfl) (FF.cons (hf2.get 29 5 rfl) (FF.cons (hf2.get 30 6 rfl) FF.nil))))))), hl4, (hS14.sel [0, 2] rfl rfl)⟩
       ·skip
        have hF11 := cf' hz3 hb5
        refine cw_skip ?_
        exact ⟨sums2, (some_inj hF11), (FF.cons (hf2.get 1 0 rfl) (FF.cons (hf2.get 4 1 rfl) (FF.cons (hf2.get 5 2 rfl) (FF.cons (hf2.get 6 3 rfl) (FF.cons (hf2.get 28 4 rfl) (FF.cons (hf2.get 29 5 rfl) (FF.cons (hf2.get 30 6 rfl) FF.nil))))))), hl2, (hS13.sel [0, 1] rfl rfl)⟩
      rintro f w ⟨sums3, rfl, hf3, hl3, hS11⟩
      refine cw_region ?_
      refine sQ 46 (Y_add (k := .i64) (a := (i : Int)) (b := 1) rfl (hf3.get 30 6 rfl) rfl) ?_
      refine sQ 30 (Y_move (v := vi (i64.wrap ((i : Int) + 1))) rfl rfl) (rw_nil ?_)
      obtain rfl := some_inj hF9
      exact ⟨k_3, Nat.lt_succ_self _, i + 1, sums3, (FF.cons (hf3.get 1 0 rfl) (FF.cons (hf3.get 4 1 rfl) (FF.cons (hf3.get 5 2 rfl) (FF.cons (hf3.get 6 3 rfl) (FF.cons (hf3.get 28 4 rfl) (FF.cons (hf3.get 29 5 rfl) (FF.cons (congrArg (Value.int .i64) (wr_succ hlt1 hN)) FF.nil))))))), hl3, (hS11.sel [0, 1] rfl rfl), (by omega), hL3⟩
     ·skip
      obtain rfl : k_2 = 0 := by have h := of_decide_eq_false hlt; omega
      refine cw_exit rfl ?_
      obtain rfl := some_inj hL2
      exact ⟨sums2, (some_inj hF8), (FF.cons (hf2.get 1 0 rfl) (FF.cons (hf2.get 4 1 rfl) (FF.cons (hf2.get 5 2 rfl) FF.nil))), hl2, (hS10.sel [0, 1] rfl rfl)⟩
   rintro f w ⟨sums1, rfl, hf1, hl1, hS7⟩
   refine cw_region ?_
   refine sQ 18 (Y_move (v := vi mask) rfl (hf1.get 5 2 rfl)) ?_
   refine sQ 19 (Y_add (k := .i64) (a := mask) (b := 1) rfl rfl rfl) ?_
   refine sQ 5 (Y_assign (v := vi (i64.wrap (mask + 1))) rfl rfl) (rw_nil ?_)
   obtain rfl := some_inj hF5
   exact ⟨k_1, Nat.lt_succ_self _, sums1, (i64.wrap (mask + 1)), (FF.cons (hf1.get 1 0 rfl) (FF.cons (hf1.get 4 1 rfl) (FF.cons rfl FF.nil))), hl1, (hS7.sel [0, 1] rfl rfl), hL1⟩
  ·skip
   have hF12 := cf' hb1 hb2
   refine cw_exit rfl ?_
   obtain rfl := some_inj hF12
   obtain rfl := some_inj hL1
   refine cw_seq (cw_region ?_)
   refine sQ 47 (Y_loadA (B := aD b1) (i := 0) (cs := (sums.flatMap encI)) (vs := (sums.flatMap encI)) k_ag_127 k_sz_127_32 rfl (hf.get 4 1 rfl) (hS6.cf (i := 1) rfl) (fm_lenn2 encI_len hl rfl) (fm_whole encI_len hl rfl)) ?_
   obtain ⟨r_5, hc4, hF3⟩ := bind_inv hF3
   refine sc 48 rfl rfl (Yc_func (g := 95) (vs := [.agg (sums.flatMap encI).toArray]) k_call_95 rfl (mc rfl mn) (c_impl_coefficients_terms sums _ hl (hS6.inn0 [] rfl) hc4)) ?_
   rintro _ w_9 ⟨B3, c3, rfl, hd4⟩
   have hS15 := hS6.out0 hd4
   refine sQ 2 (Y_assign (v := .slice B3 r_5.length c3) rfl rfl) ?_
   refine sQ 3 (Y_assign (v := .bool true) rfl rfl) (rw_nil (cw_ret ?_))
   obtain ⟨rfl, rfl⟩ := pr2 (some_inj hF3)
   exact ret2 Tryz.results128 (v1 := .slice B3 r_5.length c3) (resAt_tmp rfl) (v2 := .bool true) (resAt_tmp rfl) ⟨B3, c3, rfl, (hS15.sN [2])⟩

theorem c_impl_EqualPhases (p : TPhasePoly) (q : TPhasePoly) (B : Option Addr) (c n : Nat) (B1 : Option Addr) (c1 n1 : Nat) (B2 : Option Addr) (c2 n2 : Nat) (B3 : Option Addr) (c3 n3 : Nat) (w0 : World) (hn : p.Terms.length = n) (hn1 : p.Out.Rows.length = n1) (hn2 : q.Terms.length = n2) (hn3 : q.Out.Rows.length = n3) (hS : ST w0 [] w0 [] [⟨B, (p.Terms.flatMap eN0)⟩, ⟨B1, (p.Out.Rows.flatMap encI)⟩, ⟨B2, (q.Terms.flatMap eN0)⟩, ⟨B3, (q.Out.Rows.flatMap encI)⟩]) {r_ : Bool} {r_1 : Bool} (hF : F_impl_EqualPhases p q = some (r_, r_1)) :
  CV Tryz.prog 48 #[.agg #[vi p.Qubits, vi p.Phase, .slice B n c, .slice B1 n1 c1], .agg #[vi q.Qubits, vi q.Phase, .slice B2 n2 c2, .slice B3 n3 c3]] w0 (fun v w' => v = .tuple #[.bool r_, .bool r_1] ∧ ST w0 [] w' [] []) := by
 subst hn
 subst hn1
 subst hn2
 subst hn3
 unfold F_impl_EqualPhases at hF
 refine cv_of_cw 54 Tryz.func48 rfl Tryz.ntmps48 rfl ?_
 refine cw_seq (cw_region ?_)
 refine sS 2 (Ys_box (T := 70) (v := .agg #[vi p.Qubits, vi p.Phase, .slice B p.Terms.length c, .slice B1 p.Out.Rows.length c1]) (cs := [vi p.Qubits, vi p.Phase, .slice B p.Terms.length c, .slice B1 p.Out.Rows.length c1]) (m := 4) hS rfl rfl rfl rfl) ?_
 rintro _ w_ ⟨b, rfl, hS1⟩
 refine sS 3 (Ys_box (T := 70) (v := .agg #[vi q.Qubits, vi q.Phase, .slice B2 q.Terms.length c2, .slice B3 q.Out.Rows.length c3]) (cs := [vi q.Qubits, vi q.Phase, .slice B2 q.Terms.length c2, .slice B3 q.Out.Rows.length c3]) (m := 4) hS1 rfl rfl rfl rfl) ?_
 rintro _ w_1 ⟨b1, rfl, hS2⟩
 refine sQ 4 (Y_assign (v := .bool false) rfl rfl) ?_
 refine sQ 5 (Y_assign (v := .bool false) rfl rfl) (rw_nil (cw_seq (cw_seq (cw_region ?_))))
 refine sQ 10 (Y_loadA (B := aD b) (i := 0) (cs := [vi p.Qubits, vi p.Phase, .slice B p.Terms.length c, .slice B1 p.Out.Rows.length c1]) (vs := [vi p.Qubits, vi p.Phase, .slice B p.Terms.length c, .slice B1 p.Out.Rows.length c1]) k_ag_70 k_sz_70_4 rfl rfl (hS2.cf (i := 0) rfl) rfl rfl) ?_
 obtain ⟨r_2, hc, hF⟩ := bind_inv hF
 refine sc 11 rfl rfl (Yc_func (g := 102) (vs := [.agg #[vi p.Qubits, vi p.Phase, .slice B p.Terms.length c, .slice B1 p.Out.Rows.length c1]]) k_call_102 rfl (mc rfl mn) (c_impl_IsValidPhasePoly p B c p.Terms.length B1 c1 p.Out.Rows.length _ rfl rfl (hS2.inn0 [(true, 0), (true, 1)] rfl) hc)) ?_
 rintro _ w_2 ⟨rfl, hd⟩
 have hS3 := hS2.out00 hd
 refine sQ 12 (Y_not (p := r_2) rfl rfl) ?_
 refine sQ 13 (Y_move (v := .bool (!r_2)) rfl rfl) ?_
 refine sgq 14 (B := (!(!r_2))) (v := .agg #[vi q.Qubits, vi q.Phase, .slice B2 q.Terms.length c2, .slice B3 q.Out.Rows.length c3]) rfl rfl (uF_ 13) (fun hg => (Y_loadA (B := aD b1) (i := 0) (cs := [vi q.Qubits, vi q.Phase, .slice B2 q.Terms.length c2, .slice B3 q.Out.Rows.length c3]) (vs := [vi q.Qubits, vi q.Phase, .slice B2 q.Terms.length c2, .slice B3 q.Out.Rows.length c3]) k_ag_70 k_sz_70_4 rfl rfl (hS3.cf (i := 1) rfl) rfl rfl)) ?_
 obtain ⟨r_3, hc1, hF⟩ := bind_inv hF
 refine sgc 15 (B := (!(!r_2))) (v := .bool r_3) (F := hS3.fn) rfl rfl (uF_ 13) hS3 (fun hg1 => (Yc_func (g := 102) (vs := [.agg #[vi q.Qubits, vi q.Phase, .slice B2 q.Terms.length c2, .slice B3 q.Out.Rows.length c3]]) k_call_102 rfl (mc (gv_of (v := .agg #[vi q.Qubits, vi q.Phase, .slice B2 q.Terms.length c2, .slice B3 q.Out.Rows.length c3]) hg1) mn) (CV.mono (c_impl_IsValidPhasePoly q B2 c2 q.Terms.length B3 c3 q.Out.Rows.length _ rfl rfl (hS3.inn0 [(true, 2), (true, 3)] rfl) (gb_inv hc1 hg1)) (by rintro _ _ ⟨rfl, h⟩; exact ⟨rfl, hS3.out00 h⟩)))) ?_
 rintro w_3 hS4
 refine sgq 16 (B := (!(!r_2))) (v := .bool (!r_3)) rfl rfl (uF_ 13) (fun hg2 => (Y_not (p := r_3) rfl (gv_of (v := .bool r_3) hg2))) ?_
 refine sQ 17 (Y_or (b := (!r_2)) (z := (!r_3)) rfl rfl rfl rfl) ?_
 refine sQ 18 (Y_move (v := .bool ((!r_2) || (!r_3))) rfl rfl) ?_
 refine sgq 19 (B := (!((!r_2) || (!r_3)))) (v := pt (aD b) 0) rfl rfl (uF_ 18) (fun hg3 => (Y_fieldAddr (B := aD b) (i := 0) (s := 0) k_fd_70_0_0_3 k_sz_3_1 rfl rfl)) ?_
 refine sgq 20 (B := (!((!r_2) || (!r_3)))) (v := vi p.Qubits) rfl rfl (uF_ 18) (fun hg4 => (Y_load1 (B := aD b) (i := 0) (cs := [vi p.Qubits, vi p.Phase, .slice B p.Terms.length c, .slice B1 p.Out.Rows.length c1]) (v := vi p.Qubits) k_sc_3 rfl (gv_of (v := pt (aD b) 0) hg4) (hS4.cf (i := 0) rfl) rfl)) ?_
 refine sgq 21 (B := (!((!r_2) || (!r_3)))) (v := pt (aD b1) 0) rfl rfl (uF_ 18) (fun hg5 => (Y_fieldAddr (B := aD b1) (i := 0) (s := 0) k_fd_70_0_0_3 k_sz_3_1 rfl rfl)) ?_
 refine sgq 22 (B := (!((!r_2) || (!r_3)))) (v := vi q.Qubits) rfl rfl (uF_ 18) (fun hg6 => (Y_load1 (B := aD b1) (i := 0) (cs := [vi q.Qubits, vi q.Phase, .slice B2 q.Terms.length c2, .slice B3 q.Out.Rows.length c3]) (v := vi q.Qubits) k_sc_3 rfl (gv_of (v := pt (aD b1) 0) hg6) (hS4.cf (i := 1) rfl) rfl)) ?_
 refine sgq 23 (B := (!((!r_2) || (!r_3)))) (v := .bool (p.Qubits != q.Qubits)) rfl rfl (uF_ 18) (fun hg7 => (Y_ne (k := .i64) (a := p.Qubits) (b := q.Qubits) rfl (gv_of (v := vi p.Qubits) hg7) (gv_of (v := vi q.Qubits) hg7))) ?_
 refine sQ 24 (Y_or (b := ((!r_2) || (!r_3))) (z := (p.Qubits != q.Qubits)) rfl rfl rfl rfl) (rw_nil ?_)
 refine cw_cond (b := (((!r_2) || (!r_3)) || (p.Qubits != q.Qubits))) rfl (fun hb => ?_) (fun hb => ?_)
 ·skip
  have hF1 := ct hF hb
  refine cw_seq (cw_region ?_)
  refine sQ 4 (Y_assign (v := .bool false) rfl rfl) ?_
  refine sQ 5 (Y_assign (v := .bool false) rfl rfl) (rw_nil (cw_ret ?_))
  obtain ⟨rfl, rfl⟩ := pr2 (some_inj hF1)
  exact ret2 Tryz.results48 (v1 := .bool false) (resAt_tmp rfl) (v2 := .bool false) (resAt_tmp rfl) ⟨rfl, (hS4.sN [])⟩
 ·skip
  have hF2 := cf' hF hb
  refine cw_skip (cw_seq (cw_region ?_))
  refine sQ 26 (Y_loadA (B := aD b) (i := 0) (cs := [vi p.Qubits, vi p.Phase, .slice B p.Terms.length c, .slice B1 p.Out.Rows.length c1]) (vs := [vi p.Qubits, vi p.Phase, .slice B p.Terms.length c, .slice B1 p.Out.Rows.length c1]) k_ag_70 k_sz_70_4 rfl rfl (hS4.cf (i := 0) rfl) rfl rfl) ?_
  obtain ⟨⟨r_4, r_5⟩, hc2, hF2⟩ := bind_inv hF2
  refine sc 27 rfl rfl (Yc_func (g := 128) (vs := [.agg #[vi p.Qubits, vi p.Phase, .slice B p.Terms.length c, .slice B1 p.Out.Rows.length c1]]) k_call_128 rfl (mc rfl mn) (c_impl_MonomialsOf p B c p.Terms.length B1 c1 p.Out.Rows.length _ rfl rfl (hS4.inn0 [(true, 0), (true, 1)] rfl) hc2)) ?_
  rintro _ w_4 ⟨B4, c4, rfl, hd1⟩
  have hS5 := hS4.out0 hd1
  refine sQ 25 (Y_move (v := .tuple #[.slice B4 r_4.length c4, .bool r_5]) rfl rfl) ?_
  refine sQ 28 (Y_extract (v := .slice B4 r_4.length c4) rfl rfl rfl) ?_
  refine sQ 29 (Y_extract (v := .bool r_5) rfl rfl rfl) ?_
  refine sQ 6 (Y_assign (v := .slice B4 r_4.length c4) rfl rfl) ?_
  refine sQ 7 (Y_assign (v := .bool r_5) rfl rfl) (rw_nil (cw_seq (cw_region ?_)))
  refine sQ 31 (Y_loadA (B := aD b1) (i := 0) (cs := [vi q.Qubits, vi q.Phase, .slice B2 q.Terms.length c2, .slice B3 q.Out.Rows.length c3]) (vs := [vi q.Qubits, vi q.Phase, .slice B2 q.Terms.length c2, .slice B3 q.Out.Rows.length c3]) k_ag_70 k_sz_70_4 rfl rfl (hS5.cf (i := 1) rfl) rfl rfl) ?_
  obtain ⟨⟨r_6, r_7⟩, hc3, hF2⟩ := bind_inv hF2
  refine sc 32 rfl rfl (Yc_func (g := 128) (vs := [.agg #[vi q.Qubits, vi q.Phase, .slice B2 q.Terms.length c2, .slice B3 q.Out.Rows.length c3]]) k_call_128 rfl (mc rfl mn) (c_impl_MonomialsOf q B2 c2 q.Terms.length B3 c3 q.Out.Rows.length _ rfl rfl (hS5.inn0 [(true, 2), (true, 3)] rfl) hc3)) ?_
  rintro _ w_5 ⟨B5, c5, rfl, hd2⟩
  have hS6 := hS5.out0 hd2
  refine sQ 30 (Y_move (v := .tuple #[.slice B5 r_6.length c5, .bool r_7]) rfl rfl) ?_
  refine sQ 33 (Y_extract (v := .slice B5 r_6.length c5) rfl rfl rfl) ?_
  refine sQ 34 (Y_extract (v := .bool r_7) rfl rfl rfl) ?_
  refine sQ 8 (Y_assign (v := .slice B5 r_6.length c5) rfl rfl) ?_
  refine sQ 9 (Y_assign (v := .bool r_7) rfl rfl) (rw_nil (cw_seq (cw_region ?_)))
  refine sQ 35 (Y_fieldAddr (B := aD b) (i := 0) (s := 0) k_fd_70_1_1_3 k_sz_3_1 rfl rfl) ?_
  refine sQ 36 (Y_load1 (B := aD b) (i := 1) (cs := [vi p.Qubits, vi p.Phase, .slice B p.Terms.length c, .slice B1 p.Out.Rows.length c1]) (v := vi p.Phase) k_sc_3 rfl rfl (hS6.cf (i := 0) rfl) rfl) ?_
  refine sQ 37 (Y_fieldAddr (B := aD b1) (i := 0) (s := 0) k_fd_70_1_1_3 k_sz_3_1 rfl rfl) ?_
  refine sQ 38 (Y_load1 (B := aD b1) (i := 1) (cs := [vi q.Qubits, vi q.Phase, .slice B2 q.Terms.length c2, .slice B3 q.Out.Rows.length c3]) (v := vi q.Phase) k_sc_3 rfl rfl (hS6.cf (i := 1) rfl) rfl) ?_
  refine sQ 39 (Y_eq (k := .i64) (a := p.Phase) (b := q.Phase) rfl rfl rfl) ?_
  refine sQ 40 (Y_move (v := .bool (p.Phase == q.Phase)) rfl rfl) ?_
  refine sgq 41 (B := (p.Phase == q.Phase)) (v := pt (aD b) 3) rfl rfl (uT_ 40) (fun hg8 => (Y_fieldAddr (B := aD b) (i := 0) (s := 0) k_fd_70_3_3_68 k_sz_68_1 rfl rfl)) ?_
  refine sgq 42 (B := (p.Phase == q.Phase)) (v := pt (aD b) 3) rfl rfl (uT_ 40) (fun hg9 => (Y_fieldAddr (B := aD b) (i := 3) (s := 0) k_fd_68_0_0_66 k_sz_66_1 rfl (gv_of (v := pt (aD b) 3) hg9))) ?_
  refine sgq 43 (B := (p.Phase == q.Phase)) (v := .slice B1 p.Out.Rows.length c1) rfl rfl (uT_ 40) (fun hg10 => (Y_load1 (B := aD b) (i := 3) (cs := [vi p.Qubits, vi p.Phase, .slice B p.Terms.length c, .slice B1 p.Out.Rows.length c1]) (v := .slice B1 p.Out.Rows.length c1) k_sc_66 rfl (gv_of (v := pt (aD b) 3) hg10) (hS6.cf (i := 0) rfl) rfl)) ?_
  refine sgq 44 (B := (p.Phase == q.Phase)) (v := pt (aD b1) 3) rfl rfl (uT_ 40) (fun hg11 => (Y_fieldAddr (B := aD b1) (i := 0) (s := 0) k_fd_70_3_3_68 k_sz_68_1 rfl rfl)) ?_
  refine sgq 45 (B := (p.Phase == q.Phase)) (v := pt (aD b1) 3) rfl rfl (uT_ 40) (fun hg12 => (Y_fieldAddr (B := aD b1) (i := 3) (s := 0) k_fd_68_0_0_66 k_sz_66_1 rfl (gv_of (v := pt (aD b1) 3) hg12))) ?_
  refine sgq 46 (B := (p.Phase == q.Phase)) (v := .slice B3 q.Out.Rows.length c3) rfl rfl (uT_ 40) (fun hg13 => (Y_load1 (B := aD b1) (i := 3) (cs := [vi q.Qubits, vi q.Phase, .slice B2 q.Terms.length c2, .slice B3 q.Out.Rows.length c3]) (v := .slice B3 q.Out.Rows.length c3) k_sc_66 rfl (gv_of (v := pt (aD b1) 3) hg13) (hS6.cf (i := 1) rfl) rfl)) ?_
  obtain ⟨r_8, hc4, hF2⟩ := bind_inv hF2
  refine sgc 47 (B := (p.Phase == q.Phase)) (v := .bool r_8) (F := hS6.fn) rfl rfl (uT_ 40) hS6 (fun hg14 => (Yc_func (g := 129) (vs := [.slice B1 p.Out.Rows.length c1, .slice B3 q.Out.Rows.length c3]) k_call_129 rfl (mc (gv_of (v := .slice B1 p.Out.Rows.length c1) hg14) (mc (gv_of (v := .slice B3 q.Out.Rows.length c3) hg14) mn)) (CV.mono (c_slices_Equal_int_int p.Out.Rows q.Out.Rows B1 c1 p.Out.Rows.length B3 c3 q.Out.Rows.length _ rfl rfl (hS6.inn0 [(true, 1), (true, 3)] rfl) (gb_inv hc4 hg14)) (by rintro _ _ ⟨rfl, h⟩; exact ⟨rfl, hS6.out00 h⟩)))) ?_
  rintro w_6 hS7
  refine sQ 48 (Y_and (b := (p.Phase == q.Phase)) (z := r_8) rfl rfl rfl rfl) ?_
  refine sQ 49 (Y_move (v := .bool ((p.Phase == q.Phase) && r_8)) rfl rfl) ?_
  refine sgq 50 (B := ((p.Phase == q.Phase) && r_8)) (v := .slice B4 r_4.length c4) rfl rfl (uT_ 49) (fun hg15 => (Y_move (v := .slice B4 r_4.length c4) rfl rfl)) ?_
  refine sgq 51 (B := ((p.Phase == q.Phase) && r_8)) (v := .slice B5 r_6.length c5) rfl rfl (uT_ 49) (fun hg16 => (Y_move (v := .slice B5 r_6.length c5) rfl rfl)) ?_
  obtain ⟨r_9, hc5, hF2⟩ := bind_inv hF2
  refine sgc 52 (B := ((p.Phase == q.Phase) && r_8)) (v := .bool r_9) (F := hS7.fn) rfl rfl (uT_ 49) hS7 (fun hg17 => (Yc_func (g := 130) (vs := [.slice B4 r_4.length c4, .slice B5 r_6.length c5]) k_call_130 rfl (mc (gv_of (v := .slice B4 r_4.length c4) hg17) (mc (gv_of (v := .slice B5 r_6.length c5) hg17) mn)) (CV.mono (c_slices_Equal_impl_Term_impl_Term r_4 r_6 B4 c4 r_4.length B5 c5 r_6.length _ rfl rfl (hS7.inn0 [(false, 2), (false, 3)] rfl) (gb_inv hc5 hg17)) (by rintro _ _ ⟨rfl, h⟩; exact ⟨rfl, hS7.out00 h⟩)))) ?_
  rintro w_7 hS8
  refine sQ 53 (Y_and (b := ((p.Phase == q.Phase) && r_8)) (z := r_9) rfl rfl rfl rfl) ?_
  refine sQ 4 (Y_assign (v := .bool (((p.Phase == q.Phase) && r_8) && r_9)) rfl rfl) ?_
  refine sQ 5 (Y_assign (v := .bool true) rfl rfl) (rw_nil (cw_ret ?_))
  obtain ⟨rfl, rfl⟩ := pr2 (some_inj hF2)
  exact ret2 Tryz.results48 (v1 := .bool (((p.Phase == q.Phase) && r_8) && r_9)) (resAt_tmp rfl) (v2 := .bool true) (resAt_tmp rfl) ⟨rfl, (hS8.sN [])⟩

theorem c_impl_OddTerms (p : TPhasePoly) (B : Option Addr) (c n : Nat) (B1 : Option Addr) (c1 n1 : Nat) (w0 : World) (hn : p.Terms.length = n) (hn1 : p.Out.Rows.length = n1) (hS : ST w0 [] w0 [] [⟨B, (p.Terms.flatMap eN0)⟩, ⟨B1, (p.Out.Rows.flatMap encI)⟩]) {r_ : Int} {r_1 : Bool} (hF : F_impl_OddTerms p = some (r_, r_1)) :
  CV Tryz.prog 49 #[.agg #[vi p.Qubits, vi p.Phase, .slice B n c, .slice B1 n1 c1]] w0 (fun v w' => v = .tuple #[vi r_, .bool r_1] ∧ ST w0 [] w' [] []) := by
 subst hn
 subst hn1
 unfold F_impl_OddTerms at hF
 refine cv_of_cw 10 Tryz.func49 rfl Tryz.ntmps49 rfl ?_
 refine cw_seq (cw_region ?_)
 refine sS 1 (Ys_box (T := 70) (v := .agg #[vi p.Qubits, vi p.Phase, .slice B p.Terms.length c, .slice B1 p.Out.Rows.length c1]) (cs := [vi p.Qubits, vi p.Phase, .slice B p.Terms.length c, .slice B1 p.Out.Rows.length c1]) (m := 4) hS rfl rfl rfl rfl) ?_
 rintro _ w_ ⟨b, rfl, hS1⟩
 refine sQ 2 (Y_assign (v := vi 0) rfl rfl) ?_
 refine sQ 3 (Y_assign (v := .bool false) rfl rfl) (rw_nil (cw_seq (cw_seq (cw_region ?_))))
 refine sQ 4 (Y_loadA (B := aD b) (i := 0) (cs := [vi p.Qubits, vi p.Phase, .slice B p.Terms.length c, .slice B1 p.Out.Rows.length c1]) (vs := [vi p.Qubits, vi p.Phase, .slice B p.Terms.length c, .slice B1 p.Out.Rows.length c1]) k_ag_70 k_sz_70_4 rfl rfl (hS1.cf (i := 0) rfl) rfl rfl) ?_
 obtain ⟨r_2, hc, hF⟩ := bind_inv hF
 refine sc 5 rfl rfl (Yc_func (g := 102) (vs := [.agg #[vi p.Qubits, vi p.Phase, .slice B p.Terms.length c, .slice B1 p.Out.Rows.length c1]]) k_call_102 rfl (mc rfl mn) (c_impl_IsValidPhasePoly p B c p.Terms.length B1 c1 p.Out.Rows.length _ rfl rfl (hS1.inn0 [(true, 0), (true, 1)] rfl) hc)) ?_
 rintro _ w_1 ⟨rfl, hd⟩
 have hS2 := hS1.out00 hd
 refine sQ 6 (Y_not (p := r_2) rfl rfl) (rw_nil ?_)
 refine cw_cond (b := (!r_2)) rfl (fun hb => ?_) (fun hb => ?_)
 ·skip
  have hF1 := ct hF hb
  refine cw_seq (cw_region ?_)
  refine sQ 2 (Y_assign (v := vi 0) rfl rfl) ?_
  refine sQ 3 (Y_assign (v := .bool false) rfl rfl) (rw_nil (cw_ret ?_))
  obtain ⟨rfl, rfl⟩ := pr2 (some_inj hF1)
  exact ret2 Tryz.results49 (v1 := vi 0) (resAt_tmp rfl) (v2 := .bool false) (resAt_tmp rfl) ⟨rfl, (hS2.sN [])⟩
 ·skip
  have hF2 := cf' hF hb
  refine cw_skip (cw_seq (cw_region ?_))
  refine sQ 7 (Y_fieldAddr (B := aD b) (i := 0) (s := 0) k_fd_70_2_2_65 k_sz_65_1 rfl rfl) ?_
  refine sQ 8 (Y_load1 (B := aD b) (i := 2) (cs := [vi p.Qubits, vi p.Phase, .slice B p.Terms.length c, .slice B1 p.Out.Rows.length c1]) (v := .slice B p.Terms.length c) k_sc_65 rfl rfl (hS2.cf (i := 0) rfl) rfl) ?_
  obtain ⟨r_3, hc1, hF2⟩ := bind_inv hF2
  refine sc 9 rfl rfl (Yc_func (g := 123) (vs := [.slice B p.Terms.length c]) k_call_123 rfl (mc rfl mn) (c_impl_oddTerms p.Terms B c p.Terms.length _ rfl (hS2.inn0 [(true, 0)] rfl) hc1)) ?_
  rintro _ w_2 ⟨rfl, hd1⟩
  have hS3 := hS2.out00 hd1
  refine sQ 2 (Y_assign (v := vi r_3) rfl rfl) ?_
  refine sQ 3 (Y_assign (v := .bool true) rfl rfl) (rw_nil (cw_ret ?_))
  obtain ⟨rfl, rfl⟩ := pr2 (some_inj hF2)
  exact ret2 Tryz.results49 (v1 := vi r_3) (resAt_tmp rfl) (v2 := .bool true) (resAt_tmp rfl) ⟨rfl, (hS3.sN [])⟩

theorem c_laws_FnReductions (code : List Int) (more : List Int) (B : Option Addr) (c n : Nat) (B1 : Option Addr) (c1 n1 : Nat) (w0 : World) (hn : code.length = n) (hn1 : more.length = n1) (hS : ST w0 [] w0 [] [⟨B, (code.flatMap enc_u8)⟩, ⟨B1, (more.flatMap enc_u8)⟩]) {r_ : Bool} (hF : F_laws_FnReductions code more = some r_) :
  CV Tryz.prog 7 #[.slice B n c, .slice B1 n1 c1] w0 (fun v w' => v = .bool r_ ∧ ST w0 [] w' [] []) := by
 subst hn
 subst hn1
 unfold F_laws_FnReductions at hF
 refine cv_of_cw 172 Tryz.func7 rfl Tryz.ntmps7 rfl ?_
 refine cw_seq (cw_region ?_)
 refine sQ 4 (Y_assign (v := .bool false) rfl rfl) (rw_nil (cw_seq (cw_seq (cw_region ?_))))
 refine sQ 31 (Y_move (v := .slice B code.length c) rfl rfl) ?_
 refine sQ 32 (Y_len (B := B) (m := code.length) (c := c) k_sl_29_5 rfl rfl) ?_
 refine sQ 33 (Y_move (v := .slice B1 more.length c1) rfl rfl) ?_
 refine sQ 34 (Y_len (B := B1) (m := more.length) (c := c1) k_sl_29_5 rfl rfl) ?_
 refine sQ 35 (Y_add (k := .i64) (a := (code.length : Int)) (b := (more.length : Int)) rfl rfl rfl) ?_
 refine sQ 36 (Y_gt (k := .i64) (a := (i64.wrap ((code.length : Int) + (more.length : Int)))) (b := 1048576) rfl rfl rfl) (rw_nil ?_)
 refine cw_cond (b := (decide (1048576 < (i64.wrap ((code.length : Int) + (more.length : Int)))))) rfl (fun hb => ?_) (fun hb => ?_)
 ·skip
  have hF1 := ct hF hb
  refine cw_seq (cw_region ?_)
  refine sQ 4 (Y_assign (v := .bool true) rfl rfl) (rw_nil (cw_ret ?_))
  obtain rfl := some_inj hF1
  exact ret1 Tryz.results7 (v1 := .bool true) (resAt_tmp rfl) ⟨rfl, (hS.sN [])⟩
 ·skip
  have hF2 := cf' hF hb
  refine cw_skip (cw_seq (cw_region ?_))
  refine sQ 37 (Y_move (v := .slice B code.length c) rfl rfl) ?_
  obtain ⟨r_1, hc, hF2⟩ := bind_inv hF2
  refine sc 38 rfl rfl (Yc_func (g := 42) (vs := [.slice B code.length c]) k_call_42 rfl (mc rfl mn) (c_spec_DrawReduceT code B c code.length _ rfl (hS.inn0 [(true, 0)] rfl) hc)) ?_
  rintro _ w_ ⟨B2, c2, B3, c3, rfl, hq, ho, hd⟩
  have hS1 := ST.outR0 hS hd ho (subc (mem_at (i := 0) rfl) (fun _ h => by cases h))
  have ho1 : Org w0 [] [⟨B, (code.flatMap enc_u8)⟩, ⟨B1, (more.flatMap enc_u8)⟩] [⟨B3, (r_1.Out.Rows.flatMap encI)⟩] := org_trans0 hS ho (org_cons (org_mem (i := 0) rfl) org_nil)
  have hS2 : ST w0 [] _ [⟨B2, 136, (r_1.Terms.flatMap eN0), c2 * 2⟩] [⟨B3, (r_1.Out.Rows.flatMap encI)⟩, ⟨B, (code.flatMap enc_u8)⟩, ⟨B1, (more.flatMap enc_u8)⟩] := hS1
  refine sS 5 (Ys_alloc (T := 70) (cs := [vi 0, vi 0, .slice none 0 0, .slice none 0 0]) (m := 4) hS2 k_zero_70 rfl rfl rfl) ?_
  rintro _ w_1 ⟨b, rfl, hS3⟩
  refine s0 (Ys_store (i := 1) (s := 4) (B := aD b) (T' := 70) (v := .agg #[vi r_1.Qubits, vi r_1.Phase, .slice B2 r_1.Terms.length c2, .slice B3 r_1.Out.Rows.length c3]) (vs := [vi r_1.Qubits, vi r_1.Phase, .slice B2 r_1.Terms.length c2, .slice B3 r_1.Out.Rows.length c3]) (k := 0) (cs' := [vi r_1.Qubits, vi r_1.Phase, .slice B2 r_1.Terms.length c2, .slice B3 r_1.Out.Rows.length c3]) hS3 k_sz_70_4 rfl rfl rfl rfl rfl rfl rfl (lB rfl) rfl rfl) ?_
  rintro _ w_2 ⟨rfl, hS4⟩
  refine rw_nil (cw_seq (cw_region ?_))
  refine sQ 40 (Y_loadA (B := aD b) (i := 0) (cs := [vi r_1.Qubits, vi r_1.Phase, .slice B2 r_1.Terms.length c2, .slice B3 r_1.Out.Rows.length c3]) (vs := [vi r_1.Qubits, vi r_1.Phase, .slice B2 r_1.Terms.length c2, .slice B3 r_1.Out.Rows.length c3]) k_ag_70 k_sz_70_4 rfl rfl (hS4.cf (i := 1) rfl) rfl rfl) ?_
  obtain ⟨⟨r_2, r_3, r_4⟩, hc1, hF2⟩ := bind_inv hF2
  refine sc 41 rfl rfl (Yc_func (g := 43) (vs := [.agg #[vi r_1.Qubits, vi r_1.Phase, .slice B2 r_1.Terms.length c2, .slice B3 r_1.Out.Rows.length c3]]) k_call_43 rfl (mc rfl mn) (c_impl_ReduceT r_1 B2 c2 r_1.Terms.length B3 c3 r_1.Out.Rows.length _ rfl rfl (hS4.inn0 [(false, 0), (true, 0)] rfl) hc1)) ?_
  rintro _ w_3 ⟨B4, c4, B5, c5, rfl, hd1⟩
  have hS5 := hS4.out0 hd1
  refine sQ 39 (Y_move (v := .tuple #[.agg #[vi r_2.Qubits, vi r_2.Phase, .slice B4 r_2.Terms.length c4, .slice B5 r_2.Out.Rows.length c5], vi r_3, .bool r_4]) rfl rfl) ?_
  refine sQ 42 (Y_extract (v := .agg #[vi r_2.Qubits, vi r_2.Phase, .slice B4 r_2.Terms.length c4, .slice B5 r_2.Out.Rows.length c5]) rfl rfl rfl) ?_
  refine sQ 43 (Y_extract (v := vi r_3) rfl rfl rfl) ?_
  refine sQ 44 (Y_extract (v := .bool r_4) rfl rfl rfl) ?_
  refine sS 6 (Ys_alloc (T := 70) (cs := [vi 0, vi 0, .slice none 0 0, .slice none 0 0]) (m := 4) hS5 k_zero_70 rfl rfl rfl) ?_
  rintro _ w_4 ⟨b1, rfl, hS6⟩
  refine s0 (Ys_store (i := 4) (s := 4) (B := aD b1) (T' := 70) (v := .agg #[vi r_2.Qubits, vi r_2.Phase, .slice B4 r_2.Terms.length c4, .slice B5 r_2.Out.Rows.length c5]) (vs := [vi r_2.Qubits, vi r_2.Phase, .slice B4 r_2.Terms.length c4, .slice B5 r_2.Out.Rows.length c5]) (k := 0) (cs' := [vi r_2.Qubits, vi r_2.Phase, .slice B4 r_2.Terms.length c4, .slice B5 r_2.Out.Rows.length c5]) hS6 k_sz_70_4 rfl rfl rfl rfl rfl rfl rfl (lB rfl) rfl rfl) ?_
  rintro _ w_5 ⟨rfl, hS7⟩
  refine sQ 7 (Y_assign (v := vi r_3) rfl rfl) ?_
  refine sQ 8 (Y_assign (v := .bool r_4) rfl rfl) (rw_nil (cw_seq (cw_region ?_)))
  refine sQ 46 (Y_loadA (B := aD b) (i := 0) (cs := [vi r_1.Qubits, vi r_1.Phase, .slice B2 r_1.Terms.length c2, .slice B3 r_1.Out.Rows.length c3]) (vs := [vi r_1.Qubits, vi r_1.Phase, .slice B2 r_1.Terms.length c2, .slice B3 r_1.Out.Rows.length c3]) k_ag_70 k_sz_70_4 rfl rfl (hS7.cf (i := 1) rfl) rfl rfl) ?_
  obtain ⟨⟨r_5, r_6, r_7⟩, hc2, hF2⟩ := bind_inv hF2
  refine sc 47 rfl rfl (Yc_func (g := 44) (vs := [.agg #[vi r_1.Qubits, vi r_1.Phase, .slice B2 r_1.Terms.length c2, .slice B3 r_1.Out.Rows.length c3]]) k_call_44 rfl (mc rfl mn) (c_spec_ReduceT r_1 B2 c2 r_1.Terms.length B3 c3 r_1.Out.Rows.length _ rfl rfl (hS7.inn0 [(false, 0), (true, 0)] rfl) hc2)) ?_
  rintro _ w_6 ⟨B6, c6, B7, c7, rfl, hd2⟩
  have hS8 := hS7.out0 hd2
  refine sQ 45 (Y_move (v := .tuple #[.agg #[vi r_5.Qubits, vi r_5.Phase, .slice B6 r_5.Terms.length c6, .slice B7 r_5.Out.Rows.length c7], vi r_6, .bool r_7]) rfl rfl) ?_
  refine sQ 48 (Y_extract (v := .agg #[vi r_5.Qubits, vi r_5.Phase, .slice B6 r_5.Terms.length c6, .slice B7 r_5.Out.Rows.length c7]) rfl rfl rfl) ?_
  refine sQ 49 (Y_extract (v := vi r_6) rfl rfl rfl) ?_
  refine sQ 50 (Y_extract (v := .bool r_7) rfl rfl rfl) ?_
  refine sS 9 (Ys_alloc (T := 70) (cs := [vi 0, vi 0, .slice none 0 0, .slice none 0 0]) (m := 4) hS8 k_zero_70 rfl rfl rfl) ?_
  rintro _ w_7 ⟨b2, rfl, hS9⟩
  refine s0 (Ys_store (i := 7) (s := 4) (B := aD b2) (T' := 70) (v := .agg #[vi r_5.Qubits, vi r_5.Phase, .slice B6 r_5.Terms.length c6, .slice B7 r_5.Out.Rows.length c7]) (vs := [vi r_5.Qubits, vi r_5.Phase, .slice B6 r_5.Terms.length c6, .slice B7 r_5.Out.Rows.length c7]) (k := 0) (cs' := [vi r_5.Qubits, vi r_5.Phase, .slice B6 r_5.Terms.length c6, .slice B7 r_5.Out.Rows.length c7]) hS9 k_sz_70_4 rfl rfl rfl rfl rfl rfl rfl (lB rfl) rfl rfl) ?_
  rintro _ w_8 ⟨rfl, hS10⟩
  refine sQ 10 (Y_assign (v := vi r_6) rfl rfl) ?_
  refine sQ 11 (Y_assign (v := .bool r_7) rfl rfl) (rw_nil (cw_seq (cw_region ?_)))
  refine sQ 52 (Y_move (v := .slice B1 more.length c1) rfl rfl) ?_
  obtain ⟨⟨r_8, r_9, r_10⟩, hc3, hF2⟩ := bind_inv hF2
  refine sc 53 rfl rfl (Yc_func (g := 45) (vs := [.slice B1 more.length c1]) k_call_45 rfl (mc rfl mn) (c_spec_DrawCheckReduction more B1 c1 more.length _ rfl (hS10.inn0 [(true, 2)] rfl) hc3)) ?_
  rintro _ w_9 ⟨B8, c8, B9, c9, B10, c10, B11, c11, rfl, hq1, ho2, hd3⟩
  have hS11 := ST.outR0 hS10 hd3 ho2 (subc (mem_at (i := 2) rfl) (fun _ h => by cases h))
  have ho3 : Org w0 [] [⟨B, (code.flatMap enc_u8)⟩, ⟨B1, (more.flatMap enc_u8)⟩] [⟨B11, (r_10.Out.Rows.flatMap encI)⟩] := org_trans0 hS10 ho2 (org_cons (org_mem (i := 1) rfl) org_nil)
  have hS12 : ST w0 [] _ [⟨B2, 136, (r_1.Terms.flatMap eN0), c2 * 2⟩, ⟨aD b, 70, [vi r_1.Qubits, vi r_1.Phase, .slice B2 r_1.Terms.length c2, .slice B3 r_1.Out.Rows.length c3], 4⟩, ⟨B4, 136, (r_2.Terms.flatMap eN0), c4 * 2⟩, ⟨B5, 3, (r_2.Out.Rows.flatMap encI), c5 * 1⟩, ⟨aD b1, 70, [vi r_2.Qubits, vi r_2.Phase, .slice B4 r_2.Terms.length c4, .slice B5 r_2.Out.Rows.length c5], 4⟩, ⟨B6, 136, (r_5.Terms.flatMap eN0), c6 * 2⟩, ⟨B7, 3, (r_5.Out.Rows.flatMap encI), c7 * 1⟩, ⟨aD b2, 70, [vi r_5.Qubits, vi r_5.Phase, .slice B6 r_5.Terms.length c6, .slice B7 r_5.Out.Rows.length c7], 4⟩, ⟨B8, 136, (r_8.Terms.flatMap eN0), c8 * 2⟩, ⟨B9, 3, (r_8.Out.Rows.flatMap encI), c9 * 1⟩, ⟨B10, 136, (r_10.Terms.flatMap eN0), c10 * 2⟩] [⟨B11, (r_10.Out.Rows.flatMap encI)⟩, ⟨B3, (r_1.Out.Rows.flatMap encI)⟩, ⟨B, (code.flatMap enc_u8)⟩, ⟨B1, (more.flatMap enc_u8)⟩] := hS11
  refine sQ 51 (Y_move (v := .tuple #[.agg #[vi r_8.Qubits, vi r_8.Phase, .slice B8 r_8.Terms.length c8, .slice B9 r_8.Out.Rows.length c9], vi r_9, .agg #[vi r_10.Qubits, vi r_10.Phase, .slice B10 r_10.Terms.length c10, .slice B11 r_10.Out.Rows.length c11]]) rfl rfl) ?_
  refine sQ 54 (Y_extract (v := .agg #[vi r_8.Qubits, vi r_8.Phase, .slice B8 r_8.Terms.length c8, .slice B9 r_8.Out.Rows.length c9]) rfl rfl rfl) ?_
  refine sQ 55 (Y_extract (v := vi r_9) rfl rfl rfl) ?_
  refine sQ 56 (Y_extract (v := .agg #[vi r_10.Qubits, vi r_10.Phase, .slice B10 r_10.Terms.length c10, .slice B11 r_10.Out.Rows.length c11]) rfl rfl rfl) ?_
  refine sS 12 (Ys_alloc (T := 70) (cs := [vi 0, vi 0, .slice none 0 0, .slice none 0 0]) (m := 4) hS12 k_zero_70 rfl rfl rfl) ?_
  rintro _ w_10 ⟨b3, rfl, hS13⟩
  refine sS 14 (Ys_alloc (T := 70) (cs := [vi 0, vi 0, .slice none 0 0, .slice none 0 0]) (m := 4) hS13 k_zero_70 rfl rfl rfl) ?_
  rintro _ w_11 ⟨b4, rfl, hS14⟩
  refine s0 (Ys_store (i := 11) (s := 4) (B := aD b3) (T' := 70) (v := .agg #[vi r_8.Qubits, vi r_8.Phase, .slice B8 r_8.Terms.length c8, .slice B9 r_8.Out.Rows.length c9]) (vs := [vi r_8.Qubits, vi r_8.Phase, .slice B8 r_8.Terms.length c8, .slice B9 r_8.Out.Rows.length c9]) (k := 0) (cs' := [vi r_8.Qubits, vi r_8.Phase, .slice B8 r_8.Terms.length c8, .slice B9 r_8.Out.Rows.length c9]) hS14 k_sz_70_4 rfl rfl rfl rfl rfl rfl rfl (lB rfl) rfl rfl) ?_
  rintro _ w_12 ⟨rfl, hS15⟩
  refine sQ 13 (Y_assign (v := vi r_9) rfl rfl) ?_
  refine s0 (Ys_store (i := 12) (s := 4) (B := aD b4) (T' := 70) (v := .agg #[vi r_10.Qubits, vi r_10.Phase, .slice B10 r_10.Terms.length c10, .slice B11 r_10.Out.Rows.length c11]) (vs := [vi r_10.Qubits, vi r_10.Phase, .slice B10 r_10.Terms.length c10, .slice B11 r_10.Out.Rows.length c11]) (k := 0) (cs' := [vi r_10.Qubits, vi r_10.Phase, .slice B10 r_10.Terms.length c10, .slice B11 r_10.Out.Rows.length c11]) hS15 k_sz_70_4 rfl rfl rfl rfl rfl rfl rfl (lB rfl) rfl rfl) ?_
  rintro _ w_13 ⟨rfl, hS16⟩
  refine rw_nil (cw_seq (cw_region ?_))
  refine sQ 58 (Y_loadA (B := aD b3) (i := 0) (cs := [vi r_8.Qubits, vi r_8.Phase, .slice B8 r_8.Terms.length c8, .slice B9 r_8.Out.Rows.length c9]) (vs := [vi r_8.Qubits, vi r_8.Phase, .slice B8 r_8.Terms.length c8, .slice B9 r_8.Out.Rows.length c9]) k_ag_70 k_sz_70_4 rfl rfl (hS16.cf (i := 11) rfl) rfl rfl) ?_
  refine sQ 59 (Y_move (v := vi r_9) rfl rfl) ?_
  refine sQ 60 (Y_loadA (B := aD b4) (i := 0) (cs := [vi r_10.Qubits, vi r_10.Phase, .slice B10 r_10.Terms.length c10, .slice B11 r_10.Out.Rows.length c11]) (vs := [vi r_10.Qubits, vi r_10.Phase, .slice B10 r_10.Terms.length c10, .slice B11 r_10.Out.Rows.length c11]) k_ag_70 k_sz_70_4 rfl rfl (hS16.cf (i := 12) rfl) rfl rfl) ?_
  obtain ⟨⟨r_11, r_12⟩, hc4, hF2⟩ := bind_inv hF2
  refine sc 61 rfl rfl (Yc_func (g := 46) (vs := [.agg #[vi r_8.Qubits, vi r_8.Phase, .slice B8 r_8.Terms.length c8, .slice B9 r_8.Out.Rows.length c9], vi r_9, .agg #[vi r_10.Qubits, vi r_10.Phase, .slice B10 r_10.Terms.length c10, .slice B11 r_10.Out.Rows.length c11]]) k_call_46 rfl (mc rfl (mc rfl (mc rfl mn))) (c_impl_CheckReduction r_8 r_9 r_10 B8 c8 r_8.Terms.length B9 c9 r_8.Out.Rows.length B10 c10 r_10.Terms.length B11 c11 r_10.Out.Rows.length _ rfl rfl rfl rfl (hS16.inn0 [(false, 8), (false, 9), (false, 10), (true, 0)] rfl) hc4)) ?_
  rintro _ w_14 ⟨rfl, hd4⟩
  have hS17 := hS16.out00 hd4
  refine sQ 57 (Y_move (v := .tuple #[vi r_11, .bool r_12]) rfl rfl) ?_
  refine sQ 62 (Y_extract (v := vi r_11) rfl rfl rfl) ?_
  refine sQ 63 (Y_extract (v := .bool r_12) rfl rfl rfl) ?_
  refine sQ 15 (Y_assign (v := vi r_11) rfl rfl) ?_
  refine sQ 16 (Y_assign (v := .bool r_12) rfl rfl) (rw_nil (cw_seq (cw_region ?_)))
  refine sQ 65 (Y_loadA (B := aD b3) (i := 0) (cs := [vi r_8.Qubits, vi r_8.Phase, .slice B8 r_8.Terms.length c8, .slice B9 r_8.Out.Rows.length c9]) (vs := [vi r_8.Qubits, vi r_8.Phase, .slice B8 r_8.Terms.length c8, .slice B9 r_8.Out.Rows.length c9]) k_ag_70 k_sz_70_4 rfl rfl (hS17.cf (i := 11) rfl) rfl rfl) ?_
  refine sQ 66 (Y_move (v := vi r_9) rfl rfl) ?_
  refine sQ 67 (Y_loadA (B := aD b4) (i := 0) (cs := [vi r_10.Qubits, vi r_10.Phase, .slice B10 r_10.Terms.length c10, .slice B11 r_10.Out.Rows.length c11]) (vs := [vi r_10.Qubits, vi r_10.Phase, .slice B10 r_10.Terms.length c10, .slice B11 r_10.Out.Rows.length c11]) k_ag_70 k_sz_70_4 rfl rfl (hS17.cf (i := 12) rfl) rfl rfl) ?_
  obtain ⟨⟨r_13, r_14⟩, hc5, hF2⟩ := bind_inv hF2
  refine sc 68 rfl rfl (Yc_func (g := 47) (vs := [.agg #[vi r_8.Qubits, vi r_8.Phase, .slice B8 r_8.Terms.length c8, .slice B9 r_8.Out.Rows.length c9], vi r_9, .agg #[vi r_10.Qubits, vi r_10.Phase, .slice B10 r_10.Terms.length c10, .slice B11 r_10.Out.Rows.length c11]]) k_call_47 rfl (mc rfl (mc rfl (mc rfl mn))) (c_spec_CheckReduction r_8 r_9 r_10 B8 c8 r_8.Terms.length B9 c9 r_8.Out.Rows.length B10 c10 r_10.Terms.length B11 c11 r_10.Out.Rows.length _ rfl rfl rfl rfl (hS17.inn0 [(false, 8), (false, 9), (false, 10), (true, 0)] rfl) hc5)) ?_
  rintro _ w_15 ⟨rfl, hd5⟩
  have hS18 := hS17.out00 hd5
  refine sQ 64 (Y_move (v := .tuple #[vi r_13, .bool r_14]) rfl rfl) ?_
  refine sQ 69 (Y_extract (v := vi r_13) rfl rfl rfl) ?_
  refine sQ 70 (Y_extract (v := .bool r_14) rfl rfl rfl) ?_
  refine sQ 17 (Y_assign (v := vi r_13) rfl rfl) ?_
  refine sQ 18 (Y_assign (v := .bool r_14) rfl rfl) (rw_nil (cw_seq (cw_seq (cw_region ?_))))
  refine sQ 71 (Y_move (v := .bool r_4) rfl rfl) ?_
  refine sQ 72 (Y_move (v := .bool r_7) rfl rfl) ?_
  refine sQ 73 (Y_bne (p := r_4) (q := r_7) k_und_4 rfl rfl rfl) ?_
  refine sQ 74 (Y_move (v := .bool (!(r_4 == r_7))) rfl rfl) ?_
  refine sgq 75 (B := (!(!(r_4 == r_7)))) (v := vi r_3) rfl rfl (uF_ 74) (fun hg => (Y_move (v := vi r_3) rfl rfl)) ?_
  refine sgq 76 (B := (!(!(r_4 == r_7)))) (v := vi r_6) rfl rfl (uF_ 74) (fun hg1 => (Y_move (v := vi r_6) rfl rfl)) ?_
  refine sgq 77 (B := (!(!(r_4 == r_7)))) (v := .bool (r_3 != r_6)) rfl rfl (uF_ 74) (fun hg2 => (Y_ne (k := .i64) (a := r_3) (b := r_6) rfl (gv_of (v := vi r_3) hg2) (gv_of (v := vi r_6) hg2))) ?_
  refine sQ 78 (Y_or (b := (!(r_4 == r_7))) (z := (r_3 != r_6)) rfl rfl rfl rfl) ?_
  refine sQ 79 (Y_move (v := .bool ((!(r_4 == r_7)) || (r_3 != r_6))) rfl rfl) ?_
  refine sgq 80 (B := (!((!(r_4 == r_7)) || (r_3 != r_6)))) (v := .agg #[vi r_2.Qubits, vi r_2.Phase, .slice B4 r_2.Terms.length c4, .slice B5 r_2.Out.Rows.length c5]) rfl rfl (uF_ 79) (fun hg3 => (Y_loadA (B := aD b1) (i := 0) (cs := [vi r_2.Qubits, vi r_2.Phase, .slice B4 r_2.Terms.length c4, .slice B5 r_2.Out.Rows.length c5]) (vs := [vi r_2.Qubits, vi r_2.Phase, .slice B4 r_2.Terms.length c4, .slice B5 r_2.Out.Rows.length c5]) k_ag_70 k_sz_70_4 rfl rfl (hS18.cf (i := 4) rfl) rfl rfl)) ?_
  refine sgq 81 (B := (!((!(r_4 == r_7)) || (r_3 != r_6)))) (v := .agg #[vi r_5.Qubits, vi r_5.Phase, .slice B6 r_5.Terms.length c6, .slice B7 r_5.Out.Rows.length c7]) rfl rfl (uF_ 79) (fun hg4 => (Y_loadA (B := aD b2) (i := 0) (cs := [vi r_5.Qubits, vi r_5.Phase, .slice B6 r_5.Terms.length c6, .slice B7 r_5.Out.Rows.length c7]) (vs := [vi r_5.Qubits, vi r_5.Phase, .slice B6 r_5.Terms.length c6, .slice B7 r_5.Out.Rows.length c7]) k_ag_70 k_sz_70_4 rfl rfl (hS18.cf (i := 7) rfl) rfl rfl)) ?_
  obtain ⟨r_15, hc6, hF2⟩ := bind_inv hF2
  refine sgc 82 (B := (!((!(r_4 == r_7)) || (r_3 != r_6)))) (v := .bool r_15) (F := hS18.fn) rfl rfl (uF_ 79) hS18 (fun hg5 => (Yc_func (g := 35) (vs := [.agg #[vi r_2.Qubits, vi r_2.Phase, .slice B4 r_2.Terms.length c4, .slice B5 r_2.Out.Rows.length c5], .agg #[vi r_5.Qubits, vi r_5.Phase, .slice B6 r_5.Terms.length c6, .slice B7 r_5.Out.Rows.length c7]]) k_call_35 rfl (mc (gv_of (v := .agg #[vi r_2.Qubits, vi r_2.Phase, .slice B4 r_2.Terms.length c4, .slice B5 r_2.Out.Rows.length c5]) hg5) (mc (gv_of (v := .agg #[vi r_5.Qubits, vi r_5.Phase, .slice B6 r_5.Terms.length c6, .slice B7 r_5.Out.Rows.length c7]) hg5) mn)) (CV.mono (c_laws_qPoly r_2 r_5 B4 c4 r_2.Terms.length B5 c5 r_2.Out.Rows.length B6 c6 r_5.Terms.length B7 c7 r_5.Out.Rows.length _ rfl rfl rfl rfl (hS18.inn0 [(false, 2), (false, 3), (false, 5), (false, 6)] rfl) (gb_inv hc6 hg5)) (by rintro _ _ ⟨rfl, h⟩; exact ⟨rfl, hS18.out00 h⟩)))) ?_
  rintro w_16 hS19
  refine sgq 83 (B := (!((!(r_4 == r_7)) || (r_3 != r_6)))) (v := .bool (!r_15)) rfl rfl (uF_ 79) (fun hg6 => (Y_not (p := r_15) rfl (gv_of (v := .bool r_15) hg6))) ?_
  refine sQ 84 (Y_or (b := ((!(r_4 == r_7)) || (r_3 != r_6))) (z := (!r_15)) rfl rfl rfl rfl) ?_
  refine sQ 85 (Y_move (v := .bool (((!(r_4 == r_7)) || (r_3 != r_6)) || (!r_15))) rfl rfl) ?_
  refine sgq 86 (B := (!(((!(r_4 == r_7)) || (r_3 != r_6)) || (!r_15)))) (v := .bool r_12) rfl rfl (uF_ 85) (fun hg7 => (Y_move (v := .bool r_12) rfl rfl)) ?_
  refine sgq 87 (B := (!(((!(r_4 == r_7)) || (r_3 != r_6)) || (!r_15)))) (v := .bool r_14) rfl rfl (uF_ 85) (fun hg8 => (Y_move (v := .bool r_14) rfl rfl)) ?_
  refine sgq 88 (B := (!(((!(r_4 == r_7)) || (r_3 != r_6)) || (!r_15)))) (v := .bool (!(r_12 == r_14))) rfl rfl (uF_ 85) (fun hg9 => (Y_bne (p := r_12) (q := r_14) k_und_4 rfl (gv_of (v := .bool r_12) hg9) (gv_of (v := .bool r_14) hg9))) ?_
  refine sQ 89 (Y_or (b := (((!(r_4 == r_7)) || (r_3 != r_6)) || (!r_15))) (z := (!(r_12 == r_14))) rfl rfl rfl rfl) ?_
  refine sQ 90 (Y_move (v := .bool ((((!(r_4 == r_7)) || (r_3 != r_6)) || (!r_15)) || (!(r_12 == r_14)))) rfl rfl) ?_
  refine sgq 91 (B := (!((((!(r_4 == r_7)) || (r_3 != r_6)) || (!r_15)) || (!(r_12 == r_14))))) (v := vi r_11) rfl rfl (uF_ 90) (fun hg10 => (Y_move (v := vi r_11) rfl rfl)) ?_
  refine sgq 92 (B := (!((((!(r_4 == r_7)) || (r_3 != r_6)) || (!r_15)) || (!(r_12 == r_14))))) (v := vi r_13) rfl rfl (uF_ 90) (fun hg11 => (Y_move (v := vi r_13) rfl rfl)) ?_
  refine sgq 93 (B := (!((((!(r_4 == r_7)) || (r_3 != r_6)) || (!r_15)) || (!(r_12 == r_14))))) (v := .bool (r_11 != r_13)) rfl rfl (uF_ 90) (fun hg12 => (Y_ne (k := .i64) (a := r_11) (b := r_13) rfl (gv_of (v := vi r_11) hg12) (gv_of (v := vi r_13) hg12))) ?_
  refine sQ 94 (Y_or (b := ((((!(r_4 == r_7)) || (r_3 != r_6)) || (!r_15)) || (!(r_12 == r_14)))) (z := (r_11 != r_13)) rfl rfl rfl rfl) (rw_nil ?_)
  refine cw_cond (b := (((((!(r_4 == r_7)) || (r_3 != r_6)) || (!r_15)) || (!(r_12 == r_14))) || (r_11 != r_13))) rfl (fun hb1 => ?_) (fun hb1 => ?_)
  ·skip
   have hF3 := ct hF2 hb1
   refine cw_seq (cw_region ?_)
   refine sQ 4 (Y_assign (v := .bool false) rfl rfl) (rw_nil (cw_ret ?_))
   obtain rfl := some_inj hF3
   exact ret1 Tryz.results7 (v1 := .bool false) (resAt_tmp rfl) ⟨rfl, (hS19.sN [])⟩
  ·skip
   have hF4 := cf' hF2 hb1
   refine cw_skip (cw_seq ?_)
   obtain ⟨z, hz, hF5⟩ := bind_inv hF4
   refine cw_mid (fun f w => .inl () = z ∧ FF f [(5, pt (aD b) 0), (6, pt (aD b1) 0), (7, vi r_3), (8, .bool r_4)] ∧ ST w0 [] w [⟨aD b, 70, [vi r_1.Qubits, vi r_1.Phase, .slice B2 r_1.Terms.length c2, .slice B3 r_1.Out.Rows.length c3], 4⟩, ⟨B2, 136, (r_1.Terms.flatMap eN0), c2 * 2⟩, ⟨aD b1, 70, [vi r_2.Qubits, vi r_2.Phase, .slice B4 r_2.Terms.length c4, .slice B5 r_2.Out.Rows.length c5], 4⟩, ⟨B4, 136, (r_2.Terms.flatMap eN0), c4 * 2⟩, ⟨B5, 3, (r_2.Out.Rows.flatMap encI), c5 * 1⟩] [⟨B11, (r_10.Out.Rows.flatMap encI)⟩, ⟨B3, (r_1.Out.Rows.flatMap encI)⟩, ⟨B, (code.flatMap enc_u8)⟩, ⟨B1, (more.flatMap enc_u8)⟩]) ?_ ?_
   ·skip
    refine cw_seq (cw_region ?_)
    refine sQ 95 (Y_move (v := .bool r_12) rfl rfl) ?_
    refine sQ 96 (Y_move (v := .bool r_12) rfl rfl) ?_
    refine sgq 97 (B := r_12) (v := vi r_11) rfl rfl (uT_ 96) (fun hg13 => (Y_move (v := vi r_11) rfl rfl)) ?_
    refine sgq 98 (B := r_12) (v := .bool (r_11 == 0)) rfl rfl (uT_ 96) (fun hg14 => (Y_eq (k := .i64) (a := r_11) (b := 0) rfl (gv_of (v := vi r_11) hg14) rfl)) ?_
    refine sQ 99 (Y_and (b := r_12) (z := (r_11 == 0)) rfl rfl rfl rfl) (rw_nil ?_)
    refine cw_cond (b := (r_12 && (r_11 == 0))) rfl (fun hb2 => ?_) (fun hb2 => ?_)
    ·skip
     have hF6 := ct hz hb2
     refine cw_seq (cw_region ?_)
     refine sQ 101 (Y_loadA (B := aD b3) (i := 0) (cs := [vi r_8.Qubits, vi r_8.Phase, .slice B8 r_8.Terms.length c8, .slice B9 r_8.Out.Rows.length c9]) (vs := [vi r_8.Qubits, vi r_8.Phase, .slice B8 r_8.Terms.length c8, .slice B9 r_8.Out.Rows.length c9]) k_ag_70 k_sz_70_4 rfl rfl (hS19.cf (i := 11) rfl) rfl rfl) ?_
     refine sQ 102 (Y_loadA (B := aD b4) (i := 0) (cs := [vi r_10.Qubits, vi r_10.Phase, .slice B10 r_10.Terms.length c10, .slice B11 r_10.Out.Rows.length c11]) (vs := [vi r_10.Qubits, vi r_10.Phase, .slice B10 r_10.Terms.length c10, .slice B11 r_10.Out.Rows.length c11]) k_ag_70 k_sz_70_4 rfl rfl (hS19.cf (i := 12) rfl) rfl rfl) ?_
     obtain ⟨⟨r_16, r_17⟩, hc7, hF6⟩ := bind_inv hF6
     refine sc 103 rfl rfl (Yc_func (g := 48) (vs := [.agg #[vi r_8.Qubits, vi r_8.Phase, .slice B8 r_8.Terms.length c8, .slice B9 r_8.Out.Rows.length c9], .agg #[vi r_10.Qubits, vi r_10.Phase, .slice B10 r_10.Terms.length c10, .slice B11 r_10.Out.Rows.length c11]]) k_call_48 rfl (mc rfl (mc rfl mn)) (c_impl_EqualPhases r_8 r_10 B8 c8 r_8.Terms.length B9 c9 r_8.Out.Rows.length B10 c10 r_10.Terms.length B11 c11 r_10.Out.Rows.length _ rfl rfl rfl rfl (hS19.inn0 [(false, 8), (false, 9), (false, 10), (true, 0)] rfl) hc7)) ?_
     rintro _ w_17 ⟨rfl, hd6⟩
     have hS21 := hS19.out00 hd6
     refine sQ 100 (Y_move (v := .tuple #[.bool r_16, .bool r_17]) rfl rfl) ?_
     refine sQ 104 (Y_extract (v := .bool r_16) rfl rfl rfl) ?_
     refine sQ 105 (Y_extract (v := .bool r_17) rfl rfl rfl) ?_
     refine sQ 19 (Y_assign (v := .bool r_16) rfl rfl) ?_
     refine sQ 20 (Y_assign (v := .bool r_17) rfl rfl) (rw_nil (cw_seq (cw_region ?_)))
     refine sQ 106 (Y_move (v := .bool r_16) rfl rfl) ?_
     refine sQ 107 (Y_not (p := r_16) rfl rfl) ?_
     refine sQ 108 (Y_move (v := .bool (!r_16)) rfl rfl) ?_
     refine sgq 109 (B := (!(!r_16))) (v := .bool r_17) rfl rfl (uF_ 108) (fun hg15 => (Y_move (v := .bool r_17) rfl rfl)) ?_
     refine sgq 110 (B := (!(!r_16))) (v := .bool (!r_17)) rfl rfl (uF_ 108) (fun hg16 => (Y_not (p := r_17) rfl (gv_of (v := .bool r_17) hg16))) ?_
     refine sQ 111 (Y_or (b := (!r_16)) (z := (!r_17)) rfl rfl rfl rfl) (rw_nil ?_)
     refine cw_cond (b := ((!r_16) || (!r_17))) rfl (fun hb3 => ?_) (fun hb3 => ?_)
     ·skip
      have hF7 := ct hF6 hb3
      refine cw_seq (cw_region ?_)
      refine sQ 4 (Y_assign (v := .bool false) rfl rfl) (rw_nil (cw_ret ?_))
      obtain rfl := some_inj hF7
      obtain rfl := some_inj hF5
      exact ret1 Tryz.results7 (v1 := .bool false) (resAt_tmp rfl) ⟨rfl, (hS21.sN [])⟩
     ·skip
      have hF8 := cf' hF6 hb3
      refine cw_skip ?_
      exact ⟨(some_inj hF8), (FF.cons rfl (FF.cons rfl (FF.cons rfl (FF.cons rfl FF.nil)))), (hS21.sel [1, 0, 4, 2, 3] rfl rfl)⟩
    ·skip
     have hF9 := cf' hz hb2
     refine cw_skip ?_
     exact ⟨(some_inj hF9), (FF.cons rfl (FF.cons rfl (FF.cons rfl (FF.cons rfl FF.nil)))), (hS19.sel [1, 0, 4, 2, 3] rfl rfl)⟩
   rintro f w ⟨rfl, hf, hS20⟩
   refine cw_seq (cw_seq (cw_region ?_))
   refine sQ 112 (Y_move (v := .bool r_4) rfl (hf.get 8 3 rfl)) ?_
   refine sQ 113 (Y_not (p := r_4) rfl rfl) (rw_nil ?_)
   refine cw_cond (b := (!r_4)) rfl (fun hb4 => ?_) (fun hb4 => ?_)
   ·skip
    have hF10 := ct hF5 hb4
    refine cw_seq (cw_region ?_)
    refine sQ 4 (Y_assign (v := .bool true) rfl rfl) (rw_nil (cw_ret ?_))
    obtain rfl := some_inj hF10
    exact ret1 Tryz.results7 (v1 := .bool true) (resAt_tmp rfl) ⟨rfl, (hS20.sN [])⟩
   ·skip
    have hF11 := cf' hF5 hb4
    refine cw_skip (cw_seq (cw_region ?_))
    refine sQ 115 (Y_loadA (B := aD b) (i := 0) (cs := [vi r_1.Qubits, vi r_1.Phase, .slice B2 r_1.Terms.length c2, .slice B3 r_1.Out.Rows.length c3]) (vs := [vi r_1.Qubits, vi r_1.Phase, .slice B2 r_1.Terms.length c2, .slice B3 r_1.Out.Rows.length c3]) k_ag_70 k_sz_70_4 rfl (hf.get 5 0 rfl) (hS20.cf (i := 0) rfl) rfl rfl) ?_
    refine sQ 116 (Y_loadA (B := aD b1) (i := 0) (cs := [vi r_2.Qubits, vi r_2.Phase, .slice B4 r_2.Terms.length c4, .slice B5 r_2.Out.Rows.length c5]) (vs := [vi r_2.Qubits, vi r_2.Phase, .slice B4 r_2.Terms.length c4, .slice B5 r_2.Out.Rows.length c5]) k_ag_70 k_sz_70_4 rfl (hf.get 6 1 rfl) (hS20.cf (i := 2) rfl) rfl rfl) ?_
    obtain ⟨⟨r_18, r_19⟩, hc8, hF11⟩ := bind_inv hF11
    refine sc 117 rfl rfl (Yc_func (g := 48) (vs := [.agg #[vi r_1.Qubits, vi r_1.Phase, .slice B2 r_1.Terms.length c2, .slice B3 r_1.Out.Rows.length c3], .agg #[vi r_2.Qubits, vi r_2.Phase, .slice B4 r_2.Terms.length c4, .slice B5 r_2.Out.Rows.length c5]]) k_call_48 rfl (mc rfl (mc rfl mn)) (c_impl_EqualPhases r_1 r_2 B2 c2 r_1.Terms.length B3 c3 r_1.Out.Rows.length B4 c4 r_2.Terms.length B5 c5 r_2.Out.Rows.length _ rfl rfl rfl rfl (hS20.inn0 [(false, 1), (true, 1), (false, 3), (false, 4)] rfl) hc8)) ?_
    rintro _ w_18 ⟨rfl, hd7⟩
    have hS22 := hS20.out00 hd7
    refine sQ 114 (Y_move (v := .tuple #[.bool r_18, .bool r_19]) rfl rfl) ?_
    refine sQ 118 (Y_extract (v := .bool r_18) rfl rfl rfl) ?_
    refine sQ 119 (Y_extract (v := .bool r_19) rfl rfl rfl) ?_
    refine sQ 21 (Y_assign (v := .bool r_18) rfl rfl) ?_
    refine sQ 22 (Y_assign (v := .bool r_19) rfl rfl) (rw_nil (cw_seq (cw_region ?_)))
    refine sQ 121 (Y_loadA (B := aD b1) (i := 0) (cs := [vi r_2.Qubits, vi r_2.Phase, .slice B4 r_2.Terms.length c4, .slice B5 r_2.Out.Rows.length c5]) (vs := [vi r_2.Qubits, vi r_2.Phase, .slice B4 r_2.Terms.length c4, .slice B5 r_2.Out.Rows.length c5]) k_ag_70 k_sz_70_4 rfl (hf.get 6 1 rfl) (hS22.cf (i := 2) rfl) rfl rfl) ?_
    obtain ⟨⟨r_20, r_21⟩, hc9, hF11⟩ := bind_inv hF11
    refine sc 122 rfl rfl (Yc_func (g := 49) (vs := [.agg #[vi r_2.Qubits, vi r_2.Phase, .slice B4 r_2.Terms.length c4, .slice B5 r_2.Out.Rows.length c5]]) k_call_49 rfl (mc rfl mn) (c_impl_OddTerms r_2 B4 c4 r_2.Terms.length B5 c5 r_2.Out.Rows.length _ rfl rfl (hS22.inn0 [(false, 3), (false, 4)] rfl) hc9)) ?_
    rintro _ w_19 ⟨rfl, hd8⟩
    have hS23 := hS22.out00 hd8
    refine sQ 120 (Y_move (v := .tuple #[vi r_20, .bool r_21]) rfl rfl) ?_
    refine sQ 123 (Y_extract (v := vi r_20) rfl rfl rfl) ?_
    refine sQ 124 (Y_extract (v := .bool r_21) rfl rfl rfl) ?_
    refine sQ 23 (Y_assign (v := vi r_20) rfl rfl) ?_
    refine sQ 24 (Y_assign (v := .bool r_21) rfl rfl) (rw_nil (cw_seq (cw_region ?_)))
    refine sQ 126 (Y_loadA (B := aD b) (i := 0) (cs := [vi r_1.Qubits, vi r_1.Phase, .slice B2 r_1.Terms.length c2, .slice B3 r_1.Out.Rows.length c3]) (vs := [vi r_1.Qubits, vi r_1.Phase, .slice B2 r_1.Terms.length c2, .slice B3 r_1.Out.Rows.length c3]) k_ag_70 k_sz_70_4 rfl (hf.get 5 0 rfl) (hS23.cf (i := 0) rfl) rfl rfl) ?_
    obtain ⟨⟨r_22, r_23⟩, hc10, hF11⟩ := bind_inv hF11
    refine sc 127 rfl rfl (Yc_func (g := 50) (vs := [.agg #[vi r_1.Qubits, vi r_1.Phase, .slice B2 r_1.Terms.length c2, .slice B3 r_1.Out.Rows.length c3]]) k_call_50 rfl (mc rfl mn) (c_impl_LeastT r_1 B2 c2 r_1.Terms.length B3 c3 r_1.Out.Rows.length _ rfl rfl (hS23.inn0 [(false, 1), (true, 1)] rfl) hc10)) ?_
    rintro _ w_20 ⟨rfl, hd9⟩
    have hS24 := hS23.out00 hd9
    refine sQ 125 (Y_move (v := .tuple #[vi r_22, .bool r_23]) rfl rfl) ?_
    refine sQ 128 (Y_extract (v := vi r_22) rfl rfl rfl) ?_
    refine sQ 129 (Y_extract (v := .bool r_23) rfl rfl rfl) ?_
    refine sQ 25 (Y_assign (v := vi r_22) rfl rfl) ?_
    refine sQ 26 (Y_assign (v := .bool r_23) rfl rfl) (rw_nil (cw_seq (cw_region ?_)))
    refine sQ 131 (Y_loadA (B := aD b) (i := 0) (cs := [vi r_1.Qubits, vi r_1.Phase, .slice B2 r_1.Terms.length c2, .slice B3 r_1.Out.Rows.length c3]) (vs := [vi r_1.Qubits, vi r_1.Phase, .slice B2 r_1.Terms.length c2, .slice B3 r_1.Out.Rows.length c3]) k_ag_70 k_sz_70_4 rfl (hf.get 5 0 rfl) (hS24.cf (i := 0) rfl) rfl rfl) ?_
    obtain ⟨⟨r_24, r_25⟩, hc11, hF11⟩ := bind_inv hF11
    refine sc 132 rfl rfl (Yc_func (g := 49) (vs := [.agg #[vi r_1.Qubits, vi r_1.Phase, .slice B2 r_1.Terms.length c2, .slice B3 r_1.Out.Rows.length c3]]) k_call_49 rfl (mc rfl mn) (c_impl_OddTerms r_1 B2 c2 r_1.Terms.length B3 c3 r_1.Out.Rows.length _ rfl rfl (hS24.inn0 [(false, 1), (true, 1)] rfl) hc11)) ?_
    rintro _ w_21 ⟨rfl, hd10⟩
    have hS25 := hS24.out00 hd10
    refine sQ 130 (Y_move (v := .tuple #[vi r_24, .bool r_25]) rfl rfl) ?_
    refine sQ 133 (Y_extract (v := vi r_24) rfl rfl rfl) ?_
    refine sQ 134 (Y_extract (v := .bool r_25) rfl rfl rfl) ?_
    refine sQ 27 (Y_assign (v := vi r_24) rfl rfl) ?_
    refine sQ 28 (Y_assign (v := .bool r_25) rfl rfl) (rw_nil (cw_seq (cw_region ?_)))
    refine sQ 136 (Y_loadA (B := aD b) (i := 0) (cs := [vi r_1.Qubits, vi r_1.Phase, .slice B2 r_1.Terms.length c2, .slice B3 r_1.Out.Rows.length c3]) (vs := [vi r_1.Qubits, vi r_1.Phase, .slice B2 r_1.Terms.length c2, .slice B3 r_1.Out.Rows.length c3]) k_ag_70 k_sz_70_4 rfl (hf.get 5 0 rfl) (hS25.cf (i := 0) rfl) rfl rfl) ?_
    refine sQ 137 (Y_move (v := vi r_3) rfl (hf.get 7 2 rfl)) ?_
    refine sQ 138 (Y_loadA (B := aD b1) (i := 0) (cs := [vi r_2.Qubits, vi r_2.Phase, .slice B4 r_2.Terms.length c4, .slice B5 r_2.Out.Rows.length c5]) (vs := [vi r_2.Qubits, vi r_2.Phase, .slice B4 r_2.Terms.length c4, .slice B5 r_2.Out.Rows.length c5]) k_ag_70 k_sz_70_4 rfl (hf.get 6 1 rfl) (hS25.cf (i := 2) rfl) rfl rfl) ?_
    obtain ⟨⟨r_26, r_27⟩, hc12, hF11⟩ := bind_inv hF11
    refine sc 139 rfl rfl (Yc_func (g := 46) (vs := [.agg #[vi r_1.Qubits, vi r_1.Phase, .slice B2 r_1.Terms.length c2, .slice B3 r_1.Out.Rows.length c3], vi r_3, .agg #[vi r_2.Qubits, vi r_2.Phase, .slice B4 r_2.Terms.length c4, .slice B5 r_2.Out.Rows.length c5]]) k_call_46 rfl (mc rfl (mc rfl (mc rfl mn))) (c_impl_CheckReduction r_1 r_3 r_2 B2 c2 r_1.Terms.length B3 c3 r_1.Out.Rows.length B4 c4 r_2.Terms.length B5 c5 r_2.Out.Rows.length _ rfl rfl rfl rfl (hS25.inn0 [(false, 1), (true, 1), (false, 3), (false, 4)] rfl) hc12)) ?_
    rintro _ w_22 ⟨rfl, hd11⟩
    have hS26 := hS25.out00 hd11
    refine sQ 135 (Y_move (v := .tuple #[vi r_26, .bool r_27]) rfl rfl) ?_
    refine sQ 140 (Y_extract (v := vi r_26) rfl rfl rfl) ?_
    refine sQ 141 (Y_extract (v := .bool r_27) rfl rfl rfl) ?_
    refine sQ 29 (Y_assign (v := vi r_26) rfl rfl) ?_
    refine sQ 30 (Y_assign (v := .bool r_27) rfl rfl) (rw_nil (cw_seq (cw_region ?_)))
    refine sQ 142 (Y_move (v := .bool r_18) rfl rfl) ?_
    refine sQ 143 (Y_move (v := .bool r_18) rfl rfl) ?_
    refine sgq 144 (B := r_18) (v := .bool r_19) rfl rfl (uT_ 143) (fun hg17 => (Y_move (v := .bool r_19) rfl rfl)) ?_
    refine sQ 145 (Y_and (b := r_18) (z := r_19) rfl rfl rfl rfl) ?_
    refine sQ 146 (Y_move (v := .bool (r_18 && r_19)) rfl rfl) ?_
    refine sgq 147 (B := (r_18 && r_19)) (v := .bool r_21) rfl rfl (uT_ 146) (fun hg18 => (Y_move (v := .bool r_21) rfl rfl)) ?_
    refine sQ 148 (Y_and (b := (r_18 && r_19)) (z := r_21) rfl rfl rfl rfl) ?_
    refine sQ 149 (Y_move (v := .bool ((r_18 && r_19) && r_21)) rfl rfl) ?_
    refine sgq 150 (B := ((r_18 && r_19) && r_21)) (v := .bool r_23) rfl rfl (uT_ 149) (fun hg19 => (Y_move (v := .bool r_23) rfl rfl)) ?_
    refine sQ 151 (Y_and (b := ((r_18 && r_19) && r_21)) (z := r_23) rfl rfl rfl rfl) ?_
    refine sQ 152 (Y_move (v := .bool (((r_18 && r_19) && r_21) && r_23)) rfl rfl) ?_
    refine sgq 153 (B := (((r_18 && r_19) && r_21) && r_23)) (v := .bool r_25) rfl rfl (uT_ 152) (fun hg20 => (Y_move (v := .bool r_25) rfl rfl)) ?_
    refine sQ 154 (Y_and (b := (((r_18 && r_19) && r_21) && r_23)) (z := r_25) rfl rfl rfl rfl) ?_
    refine sQ 155 (Y_move (v := .bool ((((r_18 && r_19) && r_21) && r_23) && r_25)) rfl rfl) ?_
    refine sgq 156 (B := ((((r_18 && r_19) && r_21) && r_23) && r_25)) (v := .bool r_27) rfl rfl (uT_ 155) (fun hg21 => (Y_move (v := .bool r_27) rfl rfl)) ?_
    refine sQ 157 (Y_and (b := ((((r_18 && r_19) && r_21) && r_23) && r_25)) (z := r_27) rfl rfl rfl rfl) ?_
    refine sQ 158 (Y_move (v := .bool (((((r_18 && r_19) && r_21) && r_23) && r_25) && r_27)) rfl rfl) ?_
    refine sgq 159 (B := (((((r_18 && r_19) && r_21) && r_23) && r_25) && r_27)) (v := vi r_20) rfl rfl (uT_ 158) (fun hg22 => (Y_move (v := vi r_20) rfl rfl)) ?_
    refine sgq 160 (B := (((((r_18 && r_19) && r_21) && r_23) && r_25) && r_27)) (v := vi r_22) rfl rfl (uT_ 158) (fun hg23 => (Y_move (v := vi r_22) rfl rfl)) ?_
    refine sgq 161 (B := (((((r_18 && r_19) && r_21) && r_23) && r_25) && r_27)) (v := .bool (r_20 == r_22)) rfl rfl (uT_ 158) (fun hg24 => (Y_eq (k := .i64) (a := r_20) (b := r_22) rfl (gv_of (v := vi r_20) hg24) (gv_of (v := vi r_22) hg24))) ?_
    refine sQ 162 (Y_and (b := (((((r_18 && r_19) && r_21) && r_23) && r_25) && r_27)) (z := (r_20 == r_22)) rfl rfl rfl rfl) ?_
    refine sQ 163 (Y_move (v := .bool ((((((r_18 && r_19) && r_21) && r_23) && r_25) && r_27) && (r_20 == r_22))) rfl rfl) ?_
    refine sgq 164 (B := ((((((r_18 && r_19) && r_21) && r_23) && r_25) && r_27) && (r_20 == r_22))) (v := vi r_20) rfl rfl (uT_ 163) (fun hg25 => (Y_move (v := vi r_20) rfl rfl)) ?_
    refine sgq 165 (B := ((((((r_18 && r_19) && r_21) && r_23) && r_25) && r_27) && (r_20 == r_22))) (v := vi r_24) rfl rfl (uT_ 163) (fun hg26 => (Y_move (v := vi r_24) rfl rfl)) ?_
    refine sgq 166 (B := ((((((r_18 && r_19) && r_21) && r_23) && r_25) && r_27) && (r_20 == r_22))) (v := .bool (decide (r_20 ≤ r_24))) rfl rfl (uT_ 163) (fun hg27 => (Y_le (k := .i64) (a := r_20) (b := r_24) rfl (gv_of (v := vi r_20) hg27) (gv_of (v := vi r_24) hg27))) ?_
    refine sQ 167 (Y_and (b := ((((((r_18 && r_19) && r_21) && r_23) && r_25) && r_27) && (r_20 == r_22))) (z := (decide (r_20 ≤ r_24))) rfl rfl rfl rfl) ?_
    refine sQ 168 (Y_move (v := .bool (((((((r_18 && r_19) && r_21) && r_23) && r_25) && r_27) && (r_20 == r_22)) && (decide (r_20 ≤ r_24)))) rfl rfl) ?_
    refine sgq 169 (B := (((((((r_18 && r_19) && r_21) && r_23) && r_25) && r_27) && (r_20 == r_22)) && (decide (r_20 ≤ r_24)))) (v := vi r_26) rfl rfl (uT_ 168) (fun hg28 => (Y_move (v := vi r_26) rfl rfl)) ?_
    refine sgq 170 (B := (((((((r_18 && r_19) && r_21) && r_23) && r_25) && r_27) && (r_20 == r_22)) && (decide (r_20 ≤ r_24)))) (v := .bool (r_26 == 0)) rfl rfl (uT_ 168) (fun hg29 => (Y_eq (k := .i64) (a := r_26) (b := 0) rfl (gv_of (v := vi r_26) hg29) rfl)) ?_
    refine sQ 171 (Y_and (b := (((((((r_18 && r_19) && r_21) && r_23) && r_25) && r_27) && (r_20 == r_22)) && (decide (r_20 ≤ r_24)))) (z := (r_26 == 0)) rfl rfl rfl rfl) ?_
    refine sQ 4 (Y_assign (v := .bool ((((((((r_18 && r_19) && r_21) && r_23) && r_25) && r_27) && (r_20 == r_22)) && (decide (r_20 ≤ r_24))) && (r_26 == 0))) rfl rfl) (rw_nil (cw_ret ?_))
    obtain rfl := some_inj hF11
    exact ret1 Tryz.results7 (v1 := .bool ((((((((r_18 && r_19) && r_21) && r_23) && r_25) && r_27) && (r_20 == r_22)) && (decide (r_20 ≤ r_24))) && (r_26 == 0))) (resAt_tmp rfl) ⟨rfl, (hS26.sN [])⟩
end Go.VK
