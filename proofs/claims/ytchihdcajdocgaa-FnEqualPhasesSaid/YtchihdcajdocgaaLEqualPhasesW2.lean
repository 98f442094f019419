/- Walks: each Go function returns what its Lean function says. By program. -/
import Derived.Test.YtchihdcajdocgaaLEqualPhasesFa
import Derived.Test.YtchihdcajdocgaaLEqualPhasesW1
set_option linter.unusedVariables false
set_option maxRecDepth 100000
set_option maxHeartbeats 1000000
namespace Go.VK
open Go.RowKit
open Go.Proofs
attribute [local irreducible] CW RW RA CV Y Yw Yc Ys RetOf
attribute [local irreducible] F_laws_qInts F_impl_within F_impl_areTerms F_slices_IndexFunc_int_int F_slices_ContainsFunc_int_int F_impl_IsValidLinear_1 F_slices_Clone_int_int F_impl_rankOf_1 F_slices_Delete_int_int F_impl_rankOf F_impl_IsValidLinear F_impl_IsValidPhasePoly F_math_bits_OnesCount64 F_math_bits_OnesCount F_impl_parityOf F_impl_PhaseAt F_spec_l1Cur_next F_spec_l1Cur_pick F_spec_l1Cur_one F_spec_l1Cur_among F_spec_l13List F_spec_l12Identity F_spec_l1Own F_spec_l12CX F_spec_l1Cur_linear F_spec_l1Cur_phasePoly F_spec_l1Cur_anyLinear F_spec_l1Cur_anyPhasePoly F_spec_l13By F_spec_l1Set F_spec_l1Put F_spec_l13Parity F_spec_l15Affine F_spec_l15Codes F_spec_l1Cur_oddWord F_spec_l1Cur_reducible F_spec_l15Shift F_spec_l1Cur_relative F_spec_DrawEqualPhases F_impl_coefficients_add F_impl_coefficients_terms F_impl_bitsIn F_impl_MonomialsOf F_slices_Equal_int_int F_slices_Equal_impl_Term_impl_Term F_impl_EqualPhases F_spec_l1In F_spec_l1All F_spec_l12Rank F_spec_l12Valid F_spec_l13Valid F_spec_l1Same F_spec_l15SameTerms F_spec_l15Monomials F_spec_EqualPhases F_spec_DrawIsValidPhasePoly F_spec_DrawMonomialsOf F_spec_MonomialsOf F_laws_qTerms F_laws_FnEqualPhases
theorem c_spec_l12CX (m : TLinear) (a : Int) (b : Int) (B : Option Addr) (c n : Nat) (w0 : World) (hn : m.Rows.length = n) (hS : ST w0 [] w0 [] [⟨B, (m.Rows.flatMap encI)⟩]) {r_ : TLinear} (hF : F_spec_l12CX m a b = some r_) :
    CV Try.prog 153 #[.agg #[.slice B n c], .int .i64 a, .int .i64 b] w0 (fun v w' => ∃ (B1 : Option Addr) (c1 : Nat), v = .agg #[.slice B1 r_.Rows.length c1] ∧ ST w0 [] w' [⟨B1, 3, (r_.Rows.flatMap encI), c1 * 1⟩] []) := by
  subst hn
  unfold F_spec_l12CX at hF
  refine cv_of_cw 25 Try.func153 rfl Try.ntmps153 rfl ?_
  refine cw_seq ?_
  refine cw_region ?_
  refine ss 3 rfl rfl (Ys_box (T := 50) (v := .agg #[.slice B m.Rows.length c]) (cs := [.slice B m.Rows.length c]) (m := 1) hS rfl rfl rfl rfl) ?_
  rintro _ w_ ⟨b1, rfl, hS1⟩
  refine ss 6 rfl rfl (Ys_alloc (T := 50) (cs := [.slice none 0 0]) (m := 1) hS1 k_zero_50 rfl rfl rfl) ?_
  rintro _ w_1 ⟨b2, rfl, hS2⟩
  have hS2 : ST w0 [] _ [⟨some ⟨b1, 0, none⟩, 50, [.slice B m.Rows.length c], 1⟩, ⟨some ⟨b2, 0, none⟩, 50, [.slice none 0 0], 1⟩] [⟨B, (m.Rows.flatMap encI)⟩] := hS2
  refine rw_nil ?_
  refine cw_seq ?_
  refine cw_region ?_
  refine sq 8 rfl rfl (Y_fieldAddr (B := some ⟨b1, 0, none⟩) (i := 0) (s := 0) k_fd_50_0_0_48 k_sz_48_1 rfl rfl) ?_
  refine sq 9 rfl rfl (Y_load1 (B := some ⟨b1, 0, none⟩) (i := 0) (cs := [.slice B m.Rows.length c]) (v := .slice B m.Rows.length c) k_sc_48 rfl rfl (hS2.cf (i := 0) rfl) rfl) ?_
  obtain ⟨r_1, hc, hF⟩ := bind_inv hF
  refine sc 10 rfl rfl (Yc_func (g := 165) (vs := [.slice B m.Rows.length c]) k_call_165 rfl (mc rfl mn) (c_spec_l1Own m.Rows B c m.Rows.length _ rfl (hS2.inn0 [(true, 0)] rfl) hc)) ?_
  rintro _ w_2 ⟨B2, c2, rfl, hd⟩
  have hS3 := hS2.out0 hd
  have hS3 : ST w0 [] _ [⟨some ⟨b1, 0, none⟩, 50, [.slice B m.Rows.length c], 1⟩, ⟨some ⟨b2, 0, none⟩, 50, [.slice none 0 0], 1⟩, ⟨B2, 3, (r_1.flatMap encI), c2 * 1⟩] [⟨B, (m.Rows.flatMap encI)⟩] := hS3
  refine sq 11 rfl rfl (Y_buildS (zs := [.slice none 0 0]) (vs := [(0, .slice B2 r_1.length c2)]) (cs := [.slice B2 r_1.length c2]) k_pl_50 k_zero_50 rfl (mpc rfl mpn) rfl) ?_
  refine ss 7 rfl rfl (Ys_alloc (T := 50) (cs := [.slice none 0 0]) (m := 1) hS3 k_zero_50 rfl rfl rfl) ?_
  rintro _ w_3 ⟨b3, rfl, hS4⟩
  have hS4 : ST w0 [] _ [⟨some ⟨b1, 0, none⟩, 50, [.slice B m.Rows.length c], 1⟩, ⟨some ⟨b2, 0, none⟩, 50, [.slice none 0 0], 1⟩, ⟨B2, 3, (r_1.flatMap encI), c2 * 1⟩, ⟨some ⟨b3, 0, none⟩, 50, [.slice none 0 0], 1⟩] [⟨B, (m.Rows.flatMap encI)⟩] := hS4
  refine ss0 rfl rfl (Ys_store (i := 3) (s := 1) (B := some ⟨b3, 0, none⟩) (T' := 50) (v := .agg #[.slice B2 r_1.length c2]) (vs := [.slice B2 r_1.length c2]) (k := 0) (cs' := [.slice B2 r_1.length c2]) hS4 k_sz_50_1 rfl rfl rfl rfl rfl rfl rfl (Nat.le_of_ble_eq_true rfl) rfl rfl) ?_
  rintro _ w_4 ⟨rfl, hS5⟩
  have hS5 : ST w0 [] _ [⟨some ⟨b1, 0, none⟩, 50, [.slice B m.Rows.length c], 1⟩, ⟨some ⟨b2, 0, none⟩, 50, [.slice none 0 0], 1⟩, ⟨B2, 3, (r_1.flatMap encI), c2 * 1⟩, ⟨some ⟨b3, 0, none⟩, 50, [.slice B2 r_1.length c2], 1⟩] [⟨B, (m.Rows.flatMap encI)⟩] := hS5
  refine rw_nil ?_
  refine cw_seq ?_
  obtain ⟨x, hx, hF⟩ := bind_inv hF
  obtain ⟨x1, hx1, hF⟩ := bind_inv hF
  refine cw_mid (fun f w => FF f [(6, pt (some ⟨b2, 0, none⟩) 0), (7, pt (some ⟨b3, 0, none⟩) 0)] ∧ ST w0 [] w [⟨some ⟨b2, 0, none⟩, 50, [.slice none 0 0], 1⟩, ⟨some ⟨b3, 0, none⟩, 50, [.slice B2 r_1.length c2], 1⟩, ⟨B2, 3, ((r_1.set b.toNat (bits .xor .i64 x x1)).flatMap encI), c2 * 1⟩] [⟨B, (m.Rows.flatMap encI)⟩]) ?_ ?_
  · skip
    refine ra_start (ST.sel hS5 [0, 1, 3] rfl rfl).fn (by kernel_rfl) ?_
    have hS7 := hS5.drew
    refine ra_q 0 12 (v := pt (some ⟨b3, 0, none⟩) 0) rfl rfl rfl (by kernel_rfl) (by kernel_rfl) (by kernel_rfl) (ST.sel hS7 [0, 1, 3] rfl rfl) (fun w' hw' => (Y_fieldAddr (B := some ⟨b3, 0, none⟩) (i := 0) (s := 0) k_fd_50_0_0_48 k_sz_48_1 rfl rfl)) ?_
    refine ra_q 1 13 (v := .slice B2 r_1.length c2) rfl rfl rfl (by kernel_rfl) (by kernel_rfl) (by kernel_rfl) (ST.sel hS7 [0, 1, 3] rfl rfl) (fun w' hw' => (Y_load1 (B := some ⟨b3, 0, none⟩) (i := 0) (cs := [.slice B2 r_1.length c2]) (v := .slice B2 r_1.length c2) k_sc_48 rfl rfl (ST.cf hw' (i := 2) rfl) rfl)) ?_
    refine ra_q 2 14 (v := .int .i64 b) rfl rfl rfl (by kernel_rfl) (by kernel_rfl) (by kernel_rfl) (ST.sel hS7 [0, 1, 3] rfl rfl) (fun w' hw' => (Y_move (v := .int .i64 b) rfl rfl)) ?_
    refine ra_q 5 17 (v := pt (some ⟨b3, 0, none⟩) 0) rfl rfl rfl (by kernel_rfl) (by kernel_rfl) (by kernel_rfl) (ST.sel hS7 [0, 1, 3] rfl rfl) (fun w' hw' => (Y_fieldAddr (B := some ⟨b3, 0, none⟩) (i := 0) (s := 0) k_fd_50_0_0_48 k_sz_48_1 rfl rfl)) ?_
    refine ra_q 6 18 (v := .slice B2 r_1.length c2) rfl rfl rfl (by kernel_rfl) (by kernel_rfl) (by kernel_rfl) (ST.sel hS7 [0, 1, 3] rfl rfl) (fun w' hw' => (Y_load1 (B := some ⟨b3, 0, none⟩) (i := 0) (cs := [.slice B2 r_1.length c2]) (v := .slice B2 r_1.length c2) k_sc_48 rfl rfl (ST.cf hw' (i := 2) rfl) rfl)) ?_
    refine ra_q 7 19 (v := .int .i64 a) rfl rfl rfl (by kernel_rfl) (by kernel_rfl) (by kernel_rfl) (ST.sel hS7 [0, 1, 3] rfl rfl) (fun w' hw' => (Y_move (v := .int .i64 a) rfl rfl)) ?_
    refine ra_all (rs := [3, 8]) (by kernel_rfl) rfl ?_
    refine ra_y 15 (i := 3) (v := pt B2 (b.toNat * 1)) rfl rfl rfl (Y_index (B := B2) (m := r_1.length) (c := c2) (k := .i64) (i := b) k_sl_48_3 k_sz_3_1 rfl rfl rfl (gi_isSome encI_len rfl (hS7.cf (i := 2) rfl) hx) (getI_nn hx) (getI_ltI hx rfl)) (ST.sel hS7 [0, 1, 3] rfl rfl) ?_ ?_
    · skip
      refine ra_all (rs := [4, 8]) (by kernel_rfl) rfl ?_
      refine ra_y 16 (i := 4) (v := .int .i64 x) rfl rfl rfl (Y_load1 (B := B2) (i := b.toNat * 1) (cs := (r_1.flatMap encI)) (v := .int .i64 x) k_sc_3 rfl rfl (hS7.cf (i := 2) rfl) (gi_at0 encI_len hx rfl)) (ST.sel hS7 [0, 1, 3] rfl rfl) ?_ ?_
      · skip
        refine ra_all (rs := [8]) (by kernel_rfl) rfl ?_
        refine ra_y 20 (i := 8) (v := pt B2 (a.toNat * 1)) rfl rfl rfl (Y_index (B := B2) (m := r_1.length) (c := c2) (k := .i64) (i := a) k_sl_48_3 k_sz_3_1 rfl rfl rfl (gi_isSome encI_len rfl (hS7.cf (i := 2) rfl) hx1) (getI_nn hx1) (getI_ltI hx1 rfl)) (ST.sel hS7 [0, 1, 3] rfl rfl) ?_ ?_
        · skip
          refine ra_all (rs := [9]) (by kernel_rfl) rfl ?_
          refine ra_y 21 (i := 9) (v := .int .i64 x1) rfl rfl rfl (Y_load1 (B := B2) (i := a.toNat * 1) (cs := (r_1.flatMap encI)) (v := .int .i64 x1) k_sc_3 rfl rfl (hS7.cf (i := 2) rfl) (gi_at0 encI_len hx1 rfl)) (ST.sel hS7 [0, 1, 3] rfl rfl) ?_ ?_
          · skip
            refine ra_q 10 22 (v := .int .i64 (bits .xor .i64 x x1)) rfl rfl rfl (by kernel_rfl) (by kernel_rfl) (by kernel_rfl) (ST.sel hS7 [0, 1, 3] rfl rfl) (fun w' hw' => (Y_bxor (k := .i64) (a := x) (b := x1) rfl rfl rfl)) ?_
            refine ra_all (rs := [11]) (by kernel_rfl) rfl ?_
            refine ra_y 23 (i := 11) (v := pt B2 (b.toNat * 1)) rfl rfl rfl (Y_index (B := B2) (m := r_1.length) (c := c2) (k := .i64) (i := b) k_sl_48_3 k_sz_3_1 rfl rfl rfl (gi_isSome encI_len rfl (hS7.cf (i := 2) rfl) hx) (getI_nn hx) (getI_ltI hx rfl)) (ST.sel hS7 [0, 1, 3] rfl rfl) ?_ ?_
            · skip
              refine ra_all (rs := [12]) (by kernel_rfl) rfl ?_
              refine ra_s0 (i := 12) rfl rfl rfl (Ys_store (i := 2) (s := 1) (B := B2) (T' := 3) (v := .int .i64 (bits .xor .i64 x x1)) (vs := [.int .i64 (bits .xor .i64 x x1)]) (k := b.toNat * 1) (cs' := ((r_1.set b.toNat (bits .xor .i64 x x1)).flatMap encI)) hS7 k_sz_3_1 rfl rfl rfl rfl rfl rfl rfl (gi_fit0 encI_len hx) (gi_set encI_len hx (bits .xor .i64 x x1) rfl) rfl) ?_ ?_
              · rintro _ w_5 ⟨rfl, hS8⟩
                have hS8 : ST w0 [] _ [⟨some ⟨b1, 0, none⟩, 50, [.slice B m.Rows.length c], 1⟩, ⟨some ⟨b2, 0, none⟩, 50, [.slice none 0 0], 1⟩, ⟨B2, 3, ((r_1.set b.toNat (bits .xor .i64 x x1)).flatMap encI), c2 * 1⟩, ⟨some ⟨b3, 0, none⟩, 50, [.slice B2 r_1.length c2], 1⟩] [⟨B, (m.Rows.flatMap encI)⟩] := hS8
                refine ⟨(ST.sel hS8 [0, 1, 3] rfl rfl), ?_⟩
                refine ra_done (by kernel_rfl) ?_
                exact ⟨(FF.cons rfl (FF.cons rfl FF.nil)), (hS8.sel [1, 3, 2] rfl rfl)⟩
              exact allR_nil
            exact allR_nil
          exact allR_nil
        exact allR_nil
      refine ra_y 20 (i := 8) (v := pt B2 (a.toNat * 1)) rfl rfl rfl (Y_index (B := B2) (m := r_1.length) (c := c2) (k := .i64) (i := a) k_sl_48_3 k_sz_3_1 rfl rfl rfl (gi_isSome encI_len rfl (hS7.cf (i := 2) rfl) hx1) (getI_nn hx1) (getI_ltI hx1 rfl)) (ST.sel hS7 [0, 1, 3] rfl rfl) ?_ ?_
      · skip
        refine ra_all (rs := [4, 9]) (by kernel_rfl) rfl ?_
        refine ra_y 16 (i := 4) (v := .int .i64 x) rfl rfl rfl (Y_load1 (B := B2) (i := b.toNat * 1) (cs := (r_1.flatMap encI)) (v := .int .i64 x) k_sc_3 rfl rfl (hS7.cf (i := 2) rfl) (gi_at0 encI_len hx rfl)) (ST.sel hS7 [0, 1, 3] rfl rfl) ?_ ?_
        · skip
          refine ra_all (rs := [9]) (by kernel_rfl) rfl ?_
          refine ra_y 21 (i := 9) (v := .int .i64 x1) rfl rfl rfl (Y_load1 (B := B2) (i := a.toNat * 1) (cs := (r_1.flatMap encI)) (v := .int .i64 x1) k_sc_3 rfl rfl (hS7.cf (i := 2) rfl) (gi_at0 encI_len hx1 rfl)) (ST.sel hS7 [0, 1, 3] rfl rfl) ?_ ?_
          · skip
            refine ra_q 10 22 (v := .int .i64 (bits .xor .i64 x x1)) rfl rfl rfl (by kernel_rfl) (by kernel_rfl) (by kernel_rfl) (ST.sel hS7 [0, 1, 3] rfl rfl) (fun w' hw' => (Y_bxor (k := .i64) (a := x) (b := x1) rfl rfl rfl)) ?_
            refine ra_all (rs := [11]) (by kernel_rfl) rfl ?_
            refine ra_y 23 (i := 11) (v := pt B2 (b.toNat * 1)) rfl rfl rfl (Y_index (B := B2) (m := r_1.length) (c := c2) (k := .i64) (i := b) k_sl_48_3 k_sz_3_1 rfl rfl rfl (gi_isSome encI_len rfl (hS7.cf (i := 2) rfl) hx) (getI_nn hx) (getI_ltI hx rfl)) (ST.sel hS7 [0, 1, 3] rfl rfl) ?_ ?_
            · skip
              refine ra_all (rs := [12]) (by kernel_rfl) rfl ?_
              refine ra_s0 (i := 12) rfl rfl rfl (Ys_store (i := 2) (s := 1) (B := B2) (T' := 3) (v := .int .i64 (bits .xor .i64 x x1)) (vs := [.int .i64 (bits .xor .i64 x x1)]) (k := b.toNat * 1) (cs' := ((r_1.set b.toNat (bits .xor .i64 x x1)).flatMap encI)) hS7 k_sz_3_1 rfl rfl rfl rfl rfl rfl rfl (gi_fit0 encI_len hx) (gi_set encI_len hx (bits .xor .i64 x x1) rfl) rfl) ?_ ?_
              · rintro _ w_6 ⟨rfl, hS9⟩
                have hS9 : ST w0 [] _ [⟨some ⟨b1, 0, none⟩, 50, [.slice B m.Rows.length c], 1⟩, ⟨some ⟨b2, 0, none⟩, 50, [.slice none 0 0], 1⟩, ⟨B2, 3, ((r_1.set b.toNat (bits .xor .i64 x x1)).flatMap encI), c2 * 1⟩, ⟨some ⟨b3, 0, none⟩, 50, [.slice B2 r_1.length c2], 1⟩] [⟨B, (m.Rows.flatMap encI)⟩] := hS9
                refine ⟨(ST.sel hS9 [0, 1, 3] rfl rfl), ?_⟩
                refine ra_done (by kernel_rfl) ?_
                exact ⟨(FF.cons rfl (FF.cons rfl FF.nil)), (hS9.sel [1, 3, 2] rfl rfl)⟩
              exact allR_nil
            exact allR_nil
          exact allR_nil
        refine ra_y 21 (i := 9) (v := .int .i64 x1) rfl rfl rfl (Y_load1 (B := B2) (i := a.toNat * 1) (cs := (r_1.flatMap encI)) (v := .int .i64 x1) k_sc_3 rfl rfl (hS7.cf (i := 2) rfl) (gi_at0 encI_len hx1 rfl)) (ST.sel hS7 [0, 1, 3] rfl rfl) ?_ ?_
        · skip
          refine ra_all (rs := [4]) (by kernel_rfl) rfl ?_
          refine ra_y 16 (i := 4) (v := .int .i64 x) rfl rfl rfl (Y_load1 (B := B2) (i := b.toNat * 1) (cs := (r_1.flatMap encI)) (v := .int .i64 x) k_sc_3 rfl rfl (hS7.cf (i := 2) rfl) (gi_at0 encI_len hx rfl)) (ST.sel hS7 [0, 1, 3] rfl rfl) ?_ ?_
          · skip
            refine ra_q 10 22 (v := .int .i64 (bits .xor .i64 x x1)) rfl rfl rfl (by kernel_rfl) (by kernel_rfl) (by kernel_rfl) (ST.sel hS7 [0, 1, 3] rfl rfl) (fun w' hw' => (Y_bxor (k := .i64) (a := x) (b := x1) rfl rfl rfl)) ?_
            refine ra_all (rs := [11]) (by kernel_rfl) rfl ?_
            refine ra_y 23 (i := 11) (v := pt B2 (b.toNat * 1)) rfl rfl rfl (Y_index (B := B2) (m := r_1.length) (c := c2) (k := .i64) (i := b) k_sl_48_3 k_sz_3_1 rfl rfl rfl (gi_isSome encI_len rfl (hS7.cf (i := 2) rfl) hx) (getI_nn hx) (getI_ltI hx rfl)) (ST.sel hS7 [0, 1, 3] rfl rfl) ?_ ?_
            · skip
              refine ra_all (rs := [12]) (by kernel_rfl) rfl ?_
              refine ra_s0 (i := 12) rfl rfl rfl (Ys_store (i := 2) (s := 1) (B := B2) (T' := 3) (v := .int .i64 (bits .xor .i64 x x1)) (vs := [.int .i64 (bits .xor .i64 x x1)]) (k := b.toNat * 1) (cs' := ((r_1.set b.toNat (bits .xor .i64 x x1)).flatMap encI)) hS7 k_sz_3_1 rfl rfl rfl rfl rfl rfl rfl (gi_fit0 encI_len hx) (gi_set encI_len hx (bits .xor .i64 x x1) rfl) rfl) ?_ ?_
              · rintro _ w_7 ⟨rfl, hS10⟩
                have hS10 : ST w0 [] _ [⟨some ⟨b1, 0, none⟩, 50, [.slice B m.Rows.length c], 1⟩, ⟨some ⟨b2, 0, none⟩, 50, [.slice none 0 0], 1⟩, ⟨B2, 3, ((r_1.set b.toNat (bits .xor .i64 x x1)).flatMap encI), c2 * 1⟩, ⟨some ⟨b3, 0, none⟩, 50, [.slice B2 r_1.length c2], 1⟩] [⟨B, (m.Rows.flatMap encI)⟩] := hS10
                refine ⟨(ST.sel hS10 [0, 1, 3] rfl rfl), ?_⟩
                refine ra_done (by kernel_rfl) ?_
                exact ⟨(FF.cons rfl (FF.cons rfl FF.nil)), (hS10.sel [1, 3, 2] rfl rfl)⟩
              exact allR_nil
            exact allR_nil
          exact allR_nil
        exact allR_nil
      exact allR_nil
    refine ra_y 20 (i := 8) (v := pt B2 (a.toNat * 1)) rfl rfl rfl (Y_index (B := B2) (m := r_1.length) (c := c2) (k := .i64) (i := a) k_sl_48_3 k_sz_3_1 rfl rfl rfl (gi_isSome encI_len rfl (hS7.cf (i := 2) rfl) hx1) (getI_nn hx1) (getI_ltI hx1 rfl)) (ST.sel hS7 [0, 1, 3] rfl rfl) ?_ ?_
    · skip
      refine ra_all (rs := [3, 9]) (by kernel_rfl) rfl ?_
      refine ra_y 15 (i := 3) (v := pt B2 (b.toNat * 1)) rfl rfl rfl (Y_index (B := B2) (m := r_1.length) (c := c2) (k := .i64) (i := b) k_sl_48_3 k_sz_3_1 rfl rfl rfl (gi_isSome encI_len rfl (hS7.cf (i := 2) rfl) hx) (getI_nn hx) (getI_ltI hx rfl)) (ST.sel hS7 [0, 1, 3] rfl rfl) ?_ ?_
      · skip
        refine ra_all (rs := [4, 9]) (by kernel_rfl) rfl ?_
        refine ra_y 16 (i := 4) (v := .int .i64 x) rfl rfl rfl (Y_load1 (B := B2) (i := b.toNat * 1) (cs := (r_1.flatMap encI)) (v := .int .i64 x) k_sc_3 rfl rfl (hS7.cf (i := 2) rfl) (gi_at0 encI_len hx rfl)) (ST.sel hS7 [0, 1, 3] rfl rfl) ?_ ?_
        · skip
          refine ra_all (rs := [9]) (by kernel_rfl) rfl ?_
          refine ra_y 21 (i := 9) (v := .int .i64 x1) rfl rfl rfl (Y_load1 (B := B2) (i := a.toNat * 1) (cs := (r_1.flatMap encI)) (v := .int .i64 x1) k_sc_3 rfl rfl (hS7.cf (i := 2) rfl) (gi_at0 encI_len hx1 rfl)) (ST.sel hS7 [0, 1, 3] rfl rfl) ?_ ?_
          · skip
            refine ra_q 10 22 (v := .int .i64 (bits .xor .i64 x x1)) rfl rfl rfl (by kernel_rfl) (by kernel_rfl) (by kernel_rfl) (ST.sel hS7 [0, 1, 3] rfl rfl) (fun w' hw' => (Y_bxor (k := .i64) (a := x) (b := x1) rfl rfl rfl)) ?_
            refine ra_all (rs := [11]) (by kernel_rfl) rfl ?_
            refine ra_y 23 (i := 11) (v := pt B2 (b.toNat * 1)) rfl rfl rfl (Y_index (B := B2) (m := r_1.length) (c := c2) (k := .i64) (i := b) k_sl_48_3 k_sz_3_1 rfl rfl rfl (gi_isSome encI_len rfl (hS7.cf (i := 2) rfl) hx) (getI_nn hx) (getI_ltI hx rfl)) (ST.sel hS7 [0, 1, 3] rfl rfl) ?_ ?_
            · skip
              refine ra_all (rs := [12]) (by kernel_rfl) rfl ?_
              refine ra_s0 (i := 12) rfl rfl rfl (Ys_store (i := 2) (s := 1) (B := B2) (T' := 3) (v := .int .i64 (bits .xor .i64 x x1)) (vs := [.int .i64 (bits .xor .i64 x x1)]) (k := b.toNat * 1) (cs' := ((r_1.set b.toNat (bits .xor .i64 x x1)).flatMap encI)) hS7 k_sz_3_1 rfl rfl rfl rfl rfl rfl rfl (gi_fit0 encI_len hx) (gi_set encI_len hx (bits .xor .i64 x x1) rfl) rfl) ?_ ?_
              · rintro _ w_8 ⟨rfl, hS11⟩
                have hS11 : ST w0 [] _ [⟨some ⟨b1, 0, none⟩, 50, [.slice B m.Rows.length c], 1⟩, ⟨some ⟨b2, 0, none⟩, 50, [.slice none 0 0], 1⟩, ⟨B2, 3, ((r_1.set b.toNat (bits .xor .i64 x x1)).flatMap encI), c2 * 1⟩, ⟨some ⟨b3, 0, none⟩, 50, [.slice B2 r_1.length c2], 1⟩] [⟨B, (m.Rows.flatMap encI)⟩] := hS11
                refine ⟨(ST.sel hS11 [0, 1, 3] rfl rfl), ?_⟩
                refine ra_done (by kernel_rfl) ?_
                exact ⟨(FF.cons rfl (FF.cons rfl FF.nil)), (hS11.sel [1, 3, 2] rfl rfl)⟩
              exact allR_nil
            exact allR_nil
          exact allR_nil
        refine ra_y 21 (i := 9) (v := .int .i64 x1) rfl rfl rfl (Y_load1 (B := B2) (i := a.toNat * 1) (cs := (r_1.flatMap encI)) (v := .int .i64 x1) k_sc_3 rfl rfl (hS7.cf (i := 2) rfl) (gi_at0 encI_len hx1 rfl)) (ST.sel hS7 [0, 1, 3] rfl rfl) ?_ ?_
        · skip
          refine ra_all (rs := [4]) (by kernel_rfl) rfl ?_
          refine ra_y 16 (i := 4) (v := .int .i64 x) rfl rfl rfl (Y_load1 (B := B2) (i := b.toNat * 1) (cs := (r_1.flatMap encI)) (v := .int .i64 x) k_sc_3 rfl rfl (hS7.cf (i := 2) rfl) (gi_at0 encI_len hx rfl)) (ST.sel hS7 [0, 1, 3] rfl rfl) ?_ ?_
          · skip
            refine ra_q 10 22 (v := .int .i64 (bits .xor .i64 x x1)) rfl rfl rfl (by kernel_rfl) (by kernel_rfl) (by kernel_rfl) (ST.sel hS7 [0, 1, 3] rfl rfl) (fun w' hw' => (Y_bxor (k := .i64) (a := x) (b := x1) rfl rfl rfl)) ?_
            refine ra_all (rs := [11]) (by kernel_rfl) rfl ?_
            refine ra_y 23 (i := 11) (v := pt B2 (b.toNat * 1)) rfl rfl rfl (Y_index (B := B2) (m := r_1.length) (c := c2) (k := .i64) (i := b) k_sl_48_3 k_sz_3_1 rfl rfl rfl (gi_isSome encI_len rfl (hS7.cf (i := 2) rfl) hx) (getI_nn hx) (getI_ltI hx rfl)) (ST.sel hS7 [0, 1, 3] rfl rfl) ?_ ?_
            · skip
              refine ra_all (rs := [12]) (by kernel_rfl) rfl ?_
              refine ra_s0 (i := 12) rfl rfl rfl (Ys_store (i := 2) (s := 1) (B := B2) (T' := 3) (v := .int .i64 (bits .xor .i64 x x1)) (vs := [.int .i64 (bits .xor .i64 x x1)]) (k := b.toNat * 1) (cs' := ((r_1.set b.toNat (bits .xor .i64 x x1)).flatMap encI)) hS7 k_sz_3_1 rfl rfl rfl rfl rfl rfl rfl (gi_fit0 encI_len hx) (gi_set encI_len hx (bits .xor .i64 x x1) rfl) rfl) ?_ ?_
              · rintro _ w_9 ⟨rfl, hS12⟩
                have hS12 : ST w0 [] _ [⟨some ⟨b1, 0, none⟩, 50, [.slice B m.Rows.length c], 1⟩, ⟨some ⟨b2, 0, none⟩, 50, [.slice none 0 0], 1⟩, ⟨B2, 3, ((r_1.set b.toNat (bits .xor .i64 x x1)).flatMap encI), c2 * 1⟩, ⟨some ⟨b3, 0, none⟩, 50, [.slice B2 r_1.length c2], 1⟩] [⟨B, (m.Rows.flatMap encI)⟩] := hS12
                refine ⟨(ST.sel hS12 [0, 1, 3] rfl rfl), ?_⟩
                refine ra_done (by kernel_rfl) ?_
                exact ⟨(FF.cons rfl (FF.cons rfl FF.nil)), (hS12.sel [1, 3, 2] rfl rfl)⟩
              exact allR_nil
            exact allR_nil
          exact allR_nil
        exact allR_nil
      refine ra_y 21 (i := 9) (v := .int .i64 x1) rfl rfl rfl (Y_load1 (B := B2) (i := a.toNat * 1) (cs := (r_1.flatMap encI)) (v := .int .i64 x1) k_sc_3 rfl rfl (hS7.cf (i := 2) rfl) (gi_at0 encI_len hx1 rfl)) (ST.sel hS7 [0, 1, 3] rfl rfl) ?_ ?_
      · skip
        refine ra_all (rs := [3]) (by kernel_rfl) rfl ?_
        refine ra_y 15 (i := 3) (v := pt B2 (b.toNat * 1)) rfl rfl rfl (Y_index (B := B2) (m := r_1.length) (c := c2) (k := .i64) (i := b) k_sl_48_3 k_sz_3_1 rfl rfl rfl (gi_isSome encI_len rfl (hS7.cf (i := 2) rfl) hx) (getI_nn hx) (getI_ltI hx rfl)) (ST.sel hS7 [0, 1, 3] rfl rfl) ?_ ?_
        · skip
          refine ra_all (rs := [4]) (by kernel_rfl) rfl ?_
          refine ra_y 16 (i := 4) (v := .int .i64 x) rfl rfl rfl (Y_load1 (B := B2) (i := b.toNat * 1) (cs := (r_1.flatMap encI)) (v := .int .i64 x) k_sc_3 rfl rfl (hS7.cf (i := 2) rfl) (gi_at0 encI_len hx rfl)) (ST.sel hS7 [0, 1, 3] rfl rfl) ?_ ?_
          · skip
            refine ra_q 10 22 (v := .int .i64 (bits .xor .i64 x x1)) rfl rfl rfl (by kernel_rfl) (by kernel_rfl) (by kernel_rfl) (ST.sel hS7 [0, 1, 3] rfl rfl) (fun w' hw' => (Y_bxor (k := .i64) (a := x) (b := x1) rfl rfl rfl)) ?_
            refine ra_all (rs := [11]) (by kernel_rfl) rfl ?_
            refine ra_y 23 (i := 11) (v := pt B2 (b.toNat * 1)) rfl rfl rfl (Y_index (B := B2) (m := r_1.length) (c := c2) (k := .i64) (i := b) k_sl_48_3 k_sz_3_1 rfl rfl rfl (gi_isSome encI_len rfl (hS7.cf (i := 2) rfl) hx) (getI_nn hx) (getI_ltI hx rfl)) (ST.sel hS7 [0, 1, 3] rfl rfl) ?_ ?_
            · skip
              refine ra_all (rs := [12]) (by kernel_rfl) rfl ?_
              refine ra_s0 (i := 12) rfl rfl rfl (Ys_store (i := 2) (s := 1) (B := B2) (T' := 3) (v := .int .i64 (bits .xor .i64 x x1)) (vs := [.int .i64 (bits .xor .i64 x x1)]) (k := b.toNat * 1) (cs' := ((r_1.set b.toNat (bits .xor .i64 x x1)).flatMap encI)) hS7 k_sz_3_1 rfl rfl rfl rfl rfl rfl rfl (gi_fit0 encI_len hx) (gi_set encI_len hx (bits .xor .i64 x x1) rfl) rfl) ?_ ?_
              · rintro _ w_10 ⟨rfl, hS13⟩
                have hS13 : ST w0 [] _ [⟨some ⟨b1, 0, none⟩, 50, [.slice B m.Rows.length c], 1⟩, ⟨some ⟨b2, 0, none⟩, 50, [.slice none 0 0], 1⟩, ⟨B2, 3, ((r_1.set b.toNat (bits .xor .i64 x x1)).flatMap encI), c2 * 1⟩, ⟨some ⟨b3, 0, none⟩, 50, [.slice B2 r_1.length c2], 1⟩] [⟨B, (m.Rows.flatMap encI)⟩] := hS13
                refine ⟨(ST.sel hS13 [0, 1, 3] rfl rfl), ?_⟩
                refine ra_done (by kernel_rfl) ?_
                exact ⟨(FF.cons rfl (FF.cons rfl FF.nil)), (hS13.sel [1, 3, 2] rfl rfl)⟩
              exact allR_nil
            exact allR_nil
          exact allR_nil
        exact allR_nil
      exact allR_nil
    exact allR_nil
  rintro f w ⟨hf, hS6⟩
  refine cw_seq ?_
  refine cw_region ?_
  refine sq 24 rfl rfl (Y_loadA (B := some ⟨b3, 0, none⟩) (i := 0) (cs := [.slice B2 r_1.length c2]) (vs := [.slice B2 r_1.length c2]) k_ag_50 k_sz_50_1 rfl (hf.get 7 1 rfl) (hS6.cf (i := 1) rfl) rfl rfl) ?_
  refine ss0 rfl rfl (Ys_store (i := 0) (s := 1) (B := some ⟨b2, 0, none⟩) (T' := 50) (v := .agg #[.slice B2 r_1.length c2]) (vs := [.slice B2 r_1.length c2]) (k := 0) (cs' := [.slice B2 r_1.length c2]) hS6 k_sz_50_1 rfl (hf.get 6 0 rfl) rfl rfl rfl rfl rfl (Nat.le_of_ble_eq_true rfl) rfl rfl) ?_
  rintro _ w_11 ⟨rfl, hS14⟩
  have hS14 : ST w0 [] _ [⟨some ⟨b2, 0, none⟩, 50, [.slice B2 r_1.length c2], 1⟩, ⟨some ⟨b3, 0, none⟩, 50, [.slice B2 r_1.length c2], 1⟩, ⟨B2, 3, ((r_1.set b.toNat (bits .xor .i64 x x1)).flatMap encI), c2 * 1⟩] [⟨B, (m.Rows.flatMap encI)⟩] := hS14
  refine rw_nil ?_
  refine cw_ret ?_
  obtain rfl := some_inj hF
  exact ret1 Try.results153 (v1 := .agg #[.slice B2 r_1.length c2]) (resAt_cellA (B := some ⟨b2, 0, none⟩) (i := 0) (cs := [.slice B2 r_1.length c2]) (vs := [.slice B2 r_1.length c2]) (hf.get 6 0 rfl) k_ag_50 k_sz_50_1 (hS14.cf (i := 0) rfl) rfl rfl) ⟨B2, c2, (by simp [(set_len _ _ _ rfl)]), (ST.subR (R' := []) (hS14.sel [2] rfl rfl) (fun _ h => by cases h))⟩

theorem c_spec_l1Cur_linear (c : Tl1Cur) (n1 : Int) (B : Option Addr) (B1 : Option Addr) (c1 n : Nat) (w0 : World) (hn : c.code.length = n) (hS : ST w0 (bl [⟨B, 87, [.slice B1 n c1, .int .i64 c.at_, .int .u64 c.seed], 3⟩]) w0 [⟨B, 87, [.slice B1 n c1, .int .i64 c.at_, .int .u64 c.seed], 3⟩] [⟨B1, (c.code.flatMap enc_u8)⟩]) {r_ : TLinear} {m : Tl1Cur} (hF : F_spec_l1Cur_linear c n1 = some (r_, m)) :
    CV Try.prog 120 #[pt B 0, .int .i64 n1] w0 (fun v w' => ∃ (B2 : Option Addr) (c2 : Nat), v = .agg #[.slice B2 r_.Rows.length c2] ∧ ST w0 (bl [⟨B, 87, [.slice B1 n c1, .int .i64 c.at_, .int .u64 c.seed], 3⟩]) w' [⟨B, 87, [.slice B1 n c1, .int .i64 m.at_, .int .u64 m.seed], 3⟩, ⟨B2, 3, (r_.Rows.flatMap encI), c2 * 1⟩] []) := by
  subst hn
  unfold F_spec_l1Cur_linear at hF
  refine cv_of_cw 36 Try.func120 rfl Try.ntmps120 rfl ?_
  refine cw_seq ?_
  refine cw_region ?_
  refine ss 4 rfl rfl (Ys_alloc (T := 50) (cs := [.slice none 0 0]) (m := 1) hS k_zero_50 rfl rfl rfl) ?_
  rintro _ w_ ⟨b, rfl, hS1⟩
  have hS1 : ST w0 (bl [⟨B, 87, [.slice B1 c.code.length c1, .int .i64 c.at_, .int .u64 c.seed], 3⟩]) _ [⟨B, 87, [.slice B1 c.code.length c1, .int .i64 c.at_, .int .u64 c.seed], 3⟩, ⟨some ⟨b, 0, none⟩, 50, [.slice none 0 0], 1⟩] [⟨B1, (c.code.flatMap enc_u8)⟩] := hS1
  refine rw_nil ?_
  refine cw_seq ?_
  refine cw_region ?_
  refine sq 8 rfl rfl (Y_move (v := .int .i64 n1) rfl rfl) ?_
  obtain ⟨r_1, hc, hF⟩ := bind_inv hF
  refine sc 9 rfl rfl (Yc_func (g := 152) (vs := [.int .i64 n1]) k_call_152 rfl (mc rfl mn) (c_spec_l12Identity n1 _  (hS1.inn0 [] rfl) hc)) ?_
  rintro _ w_1 ⟨B3, c3, rfl, hd⟩
  have hS2 := hS1.out0 hd
  have hS2 : ST w0 (bl [⟨B, 87, [.slice B1 c.code.length c1, .int .i64 c.at_, .int .u64 c.seed], 3⟩]) _ [⟨B, 87, [.slice B1 c.code.length c1, .int .i64 c.at_, .int .u64 c.seed], 3⟩, ⟨some ⟨b, 0, none⟩, 50, [.slice none 0 0], 1⟩, ⟨B3, 3, (r_1.Rows.flatMap encI), c3 * 1⟩] [⟨B1, (c.code.flatMap enc_u8)⟩] := hS2
  refine ss 5 rfl rfl (Ys_alloc (T := 50) (cs := [.slice none 0 0]) (m := 1) hS2 k_zero_50 rfl rfl rfl) ?_
  rintro _ w_2 ⟨b1, rfl, hS3⟩
  have hS3 : ST w0 (bl [⟨B, 87, [.slice B1 c.code.length c1, .int .i64 c.at_, .int .u64 c.seed], 3⟩]) _ [⟨B, 87, [.slice B1 c.code.length c1, .int .i64 c.at_, .int .u64 c.seed], 3⟩, ⟨some ⟨b, 0, none⟩, 50, [.slice none 0 0], 1⟩, ⟨B3, 3, (r_1.Rows.flatMap encI), c3 * 1⟩, ⟨some ⟨b1, 0, none⟩, 50, [.slice none 0 0], 1⟩] [⟨B1, (c.code.flatMap enc_u8)⟩] := hS3
  refine ss0 rfl rfl (Ys_store (i := 3) (s := 1) (B := some ⟨b1, 0, none⟩) (T' := 50) (v := .agg #[.slice B3 r_1.Rows.length c3]) (vs := [.slice B3 r_1.Rows.length c3]) (k := 0) (cs' := [.slice B3 r_1.Rows.length c3]) hS3 k_sz_50_1 rfl rfl rfl rfl rfl rfl rfl (Nat.le_of_ble_eq_true rfl) rfl rfl) ?_
  rintro _ w_3 ⟨rfl, hS4⟩
  have hS4 : ST w0 (bl [⟨B, 87, [.slice B1 c.code.length c1, .int .i64 c.at_, .int .u64 c.seed], 3⟩]) _ [⟨B, 87, [.slice B1 c.code.length c1, .int .i64 c.at_, .int .u64 c.seed], 3⟩, ⟨some ⟨b, 0, none⟩, 50, [.slice none 0 0], 1⟩, ⟨B3, 3, (r_1.Rows.flatMap encI), c3 * 1⟩, ⟨some ⟨b1, 0, none⟩, 50, [.slice B3 r_1.Rows.length c3], 1⟩] [⟨B1, (c.code.flatMap enc_u8)⟩] := hS4
  refine rw_nil ?_
  refine cw_seq ?_
  refine cw_seq ?_
  refine cw_region ?_
  refine sq 10 rfl rfl (Y_move (v := pt B 0) rfl rfl) ?_
  obtain ⟨⟨r_2, m1⟩, hc1, hF⟩ := bind_inv hF
  refine sc 11 rfl rfl (Yc_func (g := 69) (vs := [pt B 0, .int .i64 8]) k_call_69 rfl (mc rfl (mc rfl mn)) (c_spec_l1Cur_pick c 8 B B1 c1 c.code.length _ rfl (hS4.inn [true, false, false, false] rfl [(true, 0)] rfl) hc1)) ?_
  rintro _ w_4 ⟨rfl, hd1⟩
  have hS5 := hS4.out [true, false, false, false] rfl hd1
  have hS5 : ST w0 (bl [⟨B, 87, [.slice B1 c.code.length c1, .int .i64 c.at_, .int .u64 c.seed], 3⟩]) _ [⟨some ⟨b, 0, none⟩, 50, [.slice none 0 0], 1⟩, ⟨B3, 3, (r_1.Rows.flatMap encI), c3 * 1⟩, ⟨some ⟨b1, 0, none⟩, 50, [.slice B3 r_1.Rows.length c3], 1⟩, ⟨B, 87, [.slice B1 c.code.length c1, .int .i64 m1.at_, .int .u64 m1.seed], 3⟩] [⟨B1, (c.code.flatMap enc_u8)⟩] := hS5
  refine sq 6 rfl rfl (Y_assign (v := .int .i64 r_2) rfl rfl) ?_
  refine rw_nil ?_
  obtain ⟨z, hz, hF1⟩ := bind_inv hF
  refine cw_block ?_
  refine cw_loop (fun k f w => ∃ (at_ : Int) (seed : Int) (Rows : List Int) (k_ : Int) (B4 : Option Addr) (c4 : Nat), FF f [(0, pt B 0), (1, .int .i64 n1), (4, pt (some ⟨b, 0, none⟩) 0), (5, pt (some ⟨b1, 0, none⟩) 0), (6, .int .i64 k_)] ∧ ST w0 (bl [⟨B, 87, [.slice B1 c.code.length c1, .int .i64 c.at_, .int .u64 c.seed], 3⟩]) w [⟨B, 87, [.slice B1 c.code.length c1, .int .i64 at_, .int .u64 seed], 3⟩, ⟨some ⟨b, 0, none⟩, 50, [.slice none 0 0], 1⟩, ⟨some ⟨b1, 0, none⟩, 50, [.slice B4 Rows.length c4], 1⟩, ⟨B4, 3, (Rows.flatMap encI), c4 * 1⟩] [⟨B1, (c.code.flatMap enc_u8)⟩] ∧ whX (F_spec_l1Cur_linear_l1 n1 c) k (at_, seed, Rows, k_) = some z) fuel ⟨m1.at_, m1.seed, r_1.Rows, r_2, B3, c3, (FF.cons rfl (FF.cons rfl (FF.cons rfl (FF.cons rfl (FF.cons rfl FF.nil))))), (hS5.sel [3, 0, 2, 1] rfl rfl), hz⟩ ?_
  rintro k_1 f w ⟨at_, seed, Rows, k_, B4, c4, hf, hS6, hL⟩
  obtain ⟨k_2, y, rfl, hb, hL1⟩ := whX_go hL
  unfold F_spec_l1Cur_linear_l1 at hb
  refine cw_seq ?_
  refine cw_seq ?_
  refine cw_region ?_
  refine sq 12 rfl rfl (Y_move (v := .int .i64 k_) rfl (hf.get 6 4 rfl)) ?_
  refine sq 13 rfl rfl (Y_gt (k := .i64) (a := k_) (b := 0) rfl rfl rfl) ?_
  refine sq 14 rfl rfl (Y_move (v := .bool (decide (0 < k_))) rfl rfl) ?_
  refine sgq 15 (B := (decide (0 < k_))) (v := .int .i64 n1) rfl rfl (wt_t (gd_of (t := 14) (by kernel_rfl) rfl)) (fun hg => (Y_move (v := .int .i64 n1) rfl (hf.get 1 1 rfl))) ?_
  refine sgq 16 (B := (decide (0 < k_))) (v := .bool (decide (1 < n1))) rfl rfl (wt_t (gd_of (t := 14) (by kernel_rfl) rfl)) (fun hg1 => (Y_gt (k := .i64) (a := n1) (b := 1) rfl (gv_of (B := (decide (0 < k_))) (v := .int .i64 n1) hg1) rfl)) ?_
  refine sq 17 rfl rfl (Y_and (b := (decide (0 < k_))) (z := (decide (1 < n1))) rfl rfl rfl rfl) ?_
  refine rw_nil ?_
  refine cw_cond (b := ((decide (0 < k_)) && (decide (1 < n1)))) rfl (fun hb1 => ?_) (fun hb1 => ?_)
  · skip
    have hF2 := ct hb hb1
    refine cw_skip ?_
    refine cw_seq ?_
    refine cw_block ?_
    refine cw_seq ?_
    refine cw_region ?_
    refine sq 20 rfl rfl (Y_move (v := pt B 0) rfl (hf.get 0 0 rfl)) ?_
    refine sq 21 rfl rfl (Y_move (v := .int .i64 n1) rfl (hf.get 1 1 rfl)) ?_
    obtain ⟨⟨r_3, m2⟩, hc2, hF2⟩ := bind_inv hF2
    refine sc 22 rfl rfl (Yc_func (g := 69) (vs := [pt B 0, .int .i64 n1]) k_call_69 rfl (mc rfl (mc rfl mn)) (c_spec_l1Cur_pick (Tl1Cur.mk c.code at_ seed) n1 B B1 c1 c.code.length _ rfl (hS6.inn [true, false, false, false] rfl [(true, 0)] rfl) hc2)) ?_
    rintro _ w_5 ⟨rfl, hd2⟩
    have hS7 := hS6.out [true, false, false, false] rfl hd2
    have hS7 : ST w0 (bl [⟨B, 87, [.slice B1 c.code.length c1, .int .i64 c.at_, .int .u64 c.seed], 3⟩]) _ [⟨some ⟨b, 0, none⟩, 50, [.slice none 0 0], 1⟩, ⟨some ⟨b1, 0, none⟩, 50, [.slice B4 Rows.length c4], 1⟩, ⟨B4, 3, (Rows.flatMap encI), c4 * 1⟩, ⟨B, 87, [.slice B1 c.code.length c1, .int .i64 m2.at_, .int .u64 m2.seed], 3⟩] [⟨B1, (c.code.flatMap enc_u8)⟩] := hS7
    refine sq 7 rfl rfl (Y_assign (v := .int .i64 r_3) rfl rfl) ?_
    refine rw_nil ?_
    obtain ⟨⟨r_4, m3⟩, hc3, hF2⟩ := bind_inv hF2
    obtain ⟨hne, hF2⟩ := chk_inv hF2
    obtain ⟨r_5, hc4, hF2⟩ := bind_inv hF2
    refine cw_mid (fun f w => ∃ (B6 : Option Addr) (c6 : Nat), FF f [(0, pt B 0), (1, .int .i64 n1), (4, pt (some ⟨b, 0, none⟩) 0), (5, pt (some ⟨b1, 0, none⟩) 0), (6, .int .i64 k_)] ∧ ST w0 (bl [⟨B, 87, [.slice B1 c.code.length c1, .int .i64 c.at_, .int .u64 c.seed], 3⟩]) w [⟨B, 87, [.slice B1 c.code.length c1, .int .i64 m3.at_, .int .u64 m3.seed], 3⟩, ⟨some ⟨b, 0, none⟩, 50, [.slice none 0 0], 1⟩, ⟨some ⟨b1, 0, none⟩, 50, [.slice B6 r_5.Rows.length c6], 1⟩, ⟨B6, 3, (r_5.Rows.flatMap encI), c6 * 1⟩] [⟨B1, (c.code.flatMap enc_u8)⟩]) ?_ ?_
    · skip
      refine ra_start (ST.sel hS7 [0, 2] rfl rfl).fn (by kernel_rfl) ?_
      have hS11 := hS7.drew
      refine ra_q 1 24 (v := .int .i64 r_3) rfl rfl rfl (by kernel_rfl) (by kernel_rfl) (by kernel_rfl) (ST.sel hS11 [0, 2] rfl rfl) (fun w' hw' => (Y_move (v := .int .i64 r_3) rfl rfl)) ?_
      refine ra_q 2 25 (v := .int .i64 r_3) rfl rfl rfl (by kernel_rfl) (by kernel_rfl) (by kernel_rfl) (ST.sel hS11 [0, 2] rfl rfl) (fun w' hw' => (Y_move (v := .int .i64 r_3) rfl rfl)) ?_
      refine ra_q 3 26 (v := .int .i64 (IntKind.i64.wrap (r_3 + 1))) rfl rfl rfl (by kernel_rfl) (by kernel_rfl) (by kernel_rfl) (ST.sel hS11 [0, 2] rfl rfl) (fun w' hw' => (Y_add (k := .i64) (a := r_3) (b := 1) rfl rfl rfl)) ?_
      refine ra_q 4 27 (v := pt B 0) rfl rfl rfl (by kernel_rfl) (by kernel_rfl) (by kernel_rfl) (ST.sel hS11 [0, 2] rfl rfl) (fun w' hw' => (Y_move (v := pt B 0) rfl (hf.get 0 0 rfl))) ?_
      refine ra_q 5 28 (v := .int .i64 n1) rfl rfl rfl (by kernel_rfl) (by kernel_rfl) (by kernel_rfl) (ST.sel hS11 [0, 2] rfl rfl) (fun w' hw' => (Y_move (v := .int .i64 n1) rfl (hf.get 1 1 rfl))) ?_
      refine ra_q 6 29 (v := .int .i64 (IntKind.i64.wrap (n1 - 1))) rfl rfl rfl (by kernel_rfl) (by kernel_rfl) (by kernel_rfl) (ST.sel hS11 [0, 2] rfl rfl) (fun w' hw' => (Y_sub (k := .i64) (a := n1) (b := 1) rfl rfl rfl)) ?_
      refine ra_q 9 32 (v := .int .i64 n1) rfl rfl rfl (by kernel_rfl) (by kernel_rfl) (by kernel_rfl) (ST.sel hS11 [0, 2] rfl rfl) (fun w' hw' => (Y_move (v := .int .i64 n1) rfl (hf.get 1 1 rfl))) ?_
      refine ra_all (rs := [0, 7]) (by kernel_rfl) rfl ?_
      refine ra_y 23 (i := 0) (v := .agg #[.slice B4 Rows.length c4]) rfl rfl rfl (Y_loadA (B := some ⟨b1, 0, none⟩) (i := 0) (cs := [.slice B4 Rows.length c4]) (vs := [.slice B4 Rows.length c4]) k_ag_50 k_sz_50_1 rfl (hf.get 5 3 rfl) (hS11.cf (i := 1) rfl) rfl rfl) (ST.sel hS11 [0, 2] rfl rfl) ?_ ?_
      · skip
        refine ra_all (rs := [7]) (by kernel_rfl) rfl ?_
        refine ra_c 30 (i := 7) rfl rfl rfl (Yc_func (g := 69) (vs := [pt B 0, .int .i64 (IntKind.i64.wrap (n1 - 1))]) k_call_69 rfl (mc rfl (mc rfl mn)) (c_spec_l1Cur_pick (Tl1Cur.mk c.code m2.at_ m2.seed) (IntKind.i64.wrap (n1 - 1)) B B1 c1 c.code.length _ rfl (hS11.inn [false, false, false, true] rfl [(true, 0)] rfl) hc3)) ?_ ?_
        · rintro _ w_6 ⟨rfl, hd3⟩
          have hS12 := hS11.out [false, false, false, true] rfl hd3
          have hS12 : ST w0 (bl [⟨B, 87, [.slice B1 c.code.length c1, .int .i64 c.at_, .int .u64 c.seed], 3⟩]) _ [⟨some ⟨b, 0, none⟩, 50, [.slice none 0 0], 1⟩, ⟨some ⟨b1, 0, none⟩, 50, [.slice B4 Rows.length c4], 1⟩, ⟨B4, 3, (Rows.flatMap encI), c4 * 1⟩, ⟨B, 87, [.slice B1 c.code.length c1, .int .i64 m3.at_, .int .u64 m3.seed], 3⟩] [⟨B1, (c.code.flatMap enc_u8)⟩] := hS12
          refine ⟨(ST.sel hS12 [0, 2] rfl rfl), ?_⟩
          refine ra_q 8 31 (v := .int .i64 (IntKind.i64.wrap ((IntKind.i64.wrap (r_3 + 1)) + r_4))) rfl rfl rfl (by kernel_rfl) (by kernel_rfl) (by kernel_rfl) (ST.sel hS12 [0, 2] rfl rfl) (fun w' hw' => (Y_add (k := .i64) (a := (IntKind.i64.wrap (r_3 + 1))) (b := r_4) rfl rfl rfl)) ?_
          refine ra_q 10 33 (v := .int .i64 (Int.tmod (IntKind.i64.wrap ((IntKind.i64.wrap (r_3 + 1)) + r_4)) n1)) rfl rfl rfl (by kernel_rfl) (by kernel_rfl) (by kernel_rfl) (ST.sel hS12 [0, 2] rfl rfl) (fun w' hw' => (Y_rem (k := .i64) (a := (IntKind.i64.wrap ((IntKind.i64.wrap (r_3 + 1)) + r_4))) (b := n1) rfl rfl rfl hne)) ?_
          refine ra_all (rs := [11]) (by kernel_rfl) rfl ?_
          refine ra_c 34 (i := 11) rfl rfl rfl (Yc_func (g := 153) (vs := [.agg #[.slice B4 Rows.length c4], .int .i64 r_3, .int .i64 (Int.tmod (IntKind.i64.wrap ((IntKind.i64.wrap (r_3 + 1)) + r_4)) n1)]) k_call_153 rfl (mc rfl (mc rfl (mc rfl mn))) (c_spec_l12CX (TLinear.mk Rows) r_3 (Int.tmod (IntKind.i64.wrap ((IntKind.i64.wrap (r_3 + 1)) + r_4)) n1) B4 c4 Rows.length _ rfl (hS12.inn0 [(false, 2)] rfl) hc4)) ?_ ?_
          · rintro _ w_7 ⟨B5, c5, rfl, hd4⟩
            have hS13 := hS12.out0 hd4
            have hS13 : ST w0 (bl [⟨B, 87, [.slice B1 c.code.length c1, .int .i64 c.at_, .int .u64 c.seed], 3⟩]) _ [⟨some ⟨b, 0, none⟩, 50, [.slice none 0 0], 1⟩, ⟨some ⟨b1, 0, none⟩, 50, [.slice B4 Rows.length c4], 1⟩, ⟨B4, 3, (Rows.flatMap encI), c4 * 1⟩, ⟨B, 87, [.slice B1 c.code.length c1, .int .i64 m3.at_, .int .u64 m3.seed], 3⟩, ⟨B5, 3, (r_5.Rows.flatMap encI), c5 * 1⟩] [⟨B1, (c.code.flatMap enc_u8)⟩] := hS13
            refine ⟨(ST.sel hS13 [0, 2] rfl rfl), ?_⟩
            refine ra_all (rs := [12]) (by kernel_rfl) rfl ?_
            refine ra_s0 (i := 12) rfl rfl rfl (Ys_store (i := 1) (s := 1) (B := some ⟨b1, 0, none⟩) (T' := 50) (v := .agg #[.slice B5 r_5.Rows.length c5]) (vs := [.slice B5 r_5.Rows.length c5]) (k := 0) (cs' := [.slice B5 r_5.Rows.length c5]) hS13 k_sz_50_1 rfl (hf.get 5 3 rfl) rfl rfl rfl rfl rfl (Nat.le_of_ble_eq_true rfl) rfl rfl) ?_ ?_
            · rintro _ w_8 ⟨rfl, hS14⟩
              have hS14 : ST w0 (bl [⟨B, 87, [.slice B1 c.code.length c1, .int .i64 c.at_, .int .u64 c.seed], 3⟩]) _ [⟨some ⟨b, 0, none⟩, 50, [.slice none 0 0], 1⟩, ⟨some ⟨b1, 0, none⟩, 50, [.slice B5 r_5.Rows.length c5], 1⟩, ⟨B4, 3, (Rows.flatMap encI), c4 * 1⟩, ⟨B, 87, [.slice B1 c.code.length c1, .int .i64 m3.at_, .int .u64 m3.seed], 3⟩, ⟨B5, 3, (r_5.Rows.flatMap encI), c5 * 1⟩] [⟨B1, (c.code.flatMap enc_u8)⟩] := hS14
              refine ⟨(ST.sel hS14 [0, 2] rfl rfl), ?_⟩
              refine ra_done (by kernel_rfl) ?_
              exact ⟨B5, c5, (FF.cons (hf.get 0 0 rfl) (FF.cons (hf.get 1 1 rfl) (FF.cons (hf.get 4 2 rfl) (FF.cons (hf.get 5 3 rfl) (FF.cons (hf.get 6 4 rfl) FF.nil))))), (hS14.sel [3, 0, 1, 4] rfl rfl)⟩
            exact allR_nil
          exact allR_nil
        exact allR_nil
      refine ra_c 30 (i := 7) rfl rfl rfl (Yc_func (g := 69) (vs := [pt B 0, .int .i64 (IntKind.i64.wrap (n1 - 1))]) k_call_69 rfl (mc rfl (mc rfl mn)) (c_spec_l1Cur_pick (Tl1Cur.mk c.code m2.at_ m2.seed) (IntKind.i64.wrap (n1 - 1)) B B1 c1 c.code.length _ rfl (hS11.inn [false, false, false, true] rfl [(true, 0)] rfl) hc3)) ?_ ?_
      · rintro _ w_9 ⟨rfl, hd5⟩
        have hS15 := hS11.out [false, false, false, true] rfl hd5
        have hS15 : ST w0 (bl [⟨B, 87, [.slice B1 c.code.length c1, .int .i64 c.at_, .int .u64 c.seed], 3⟩]) _ [⟨some ⟨b, 0, none⟩, 50, [.slice none 0 0], 1⟩, ⟨some ⟨b1, 0, none⟩, 50, [.slice B4 Rows.length c4], 1⟩, ⟨B4, 3, (Rows.flatMap encI), c4 * 1⟩, ⟨B, 87, [.slice B1 c.code.length c1, .int .i64 m3.at_, .int .u64 m3.seed], 3⟩] [⟨B1, (c.code.flatMap enc_u8)⟩] := hS15
        refine ⟨(ST.sel hS15 [0, 2] rfl rfl), ?_⟩
        refine ra_q 8 31 (v := .int .i64 (IntKind.i64.wrap ((IntKind.i64.wrap (r_3 + 1)) + r_4))) rfl rfl rfl (by kernel_rfl) (by kernel_rfl) (by kernel_rfl) (ST.sel hS15 [0, 2] rfl rfl) (fun w' hw' => (Y_add (k := .i64) (a := (IntKind.i64.wrap (r_3 + 1))) (b := r_4) rfl rfl rfl)) ?_
        refine ra_q 10 33 (v := .int .i64 (Int.tmod (IntKind.i64.wrap ((IntKind.i64.wrap (r_3 + 1)) + r_4)) n1)) rfl rfl rfl (by kernel_rfl) (by kernel_rfl) (by kernel_rfl) (ST.sel hS15 [0, 2] rfl rfl) (fun w' hw' => (Y_rem (k := .i64) (a := (IntKind.i64.wrap ((IntKind.i64.wrap (r_3 + 1)) + r_4))) (b := n1) rfl rfl rfl hne)) ?_
        refine ra_all (rs := [0]) (by kernel_rfl) rfl ?_
        refine ra_y 23 (i := 0) (v := .agg #[.slice B4 Rows.length c4]) rfl rfl rfl (Y_loadA (B := some ⟨b1, 0, none⟩) (i := 0) (cs := [.slice B4 Rows.length c4]) (vs := [.slice B4 Rows.length c4]) k_ag_50 k_sz_50_1 rfl (hf.get 5 3 rfl) (hS15.cf (i := 1) rfl) rfl rfl) (ST.sel hS15 [0, 2] rfl rfl) ?_ ?_
        · skip
          refine ra_all (rs := [11]) (by kernel_rfl) rfl ?_
          refine ra_c 34 (i := 11) rfl rfl rfl (Yc_func (g := 153) (vs := [.agg #[.slice B4 Rows.length c4], .int .i64 r_3, .int .i64 (Int.tmod (IntKind.i64.wrap ((IntKind.i64.wrap (r_3 + 1)) + r_4)) n1)]) k_call_153 rfl (mc rfl (mc rfl (mc rfl mn))) (c_spec_l12CX (TLinear.mk Rows) r_3 (Int.tmod (IntKind.i64.wrap ((IntKind.i64.wrap (r_3 + 1)) + r_4)) n1) B4 c4 Rows.length _ rfl (hS15.inn0 [(false, 2)] rfl) hc4)) ?_ ?_
          · rintro _ w_10 ⟨B5, c5, rfl, hd6⟩
            have hS16 := hS15.out0 hd6
            have hS16 : ST w0 (bl [⟨B, 87, [.slice B1 c.code.length c1, .int .i64 c.at_, .int .u64 c.seed], 3⟩]) _ [⟨some ⟨b, 0, none⟩, 50, [.slice none 0 0], 1⟩, ⟨some ⟨b1, 0, none⟩, 50, [.slice B4 Rows.length c4], 1⟩, ⟨B4, 3, (Rows.flatMap encI), c4 * 1⟩, ⟨B, 87, [.slice B1 c.code.length c1, .int .i64 m3.at_, .int .u64 m3.seed], 3⟩, ⟨B5, 3, (r_5.Rows.flatMap encI), c5 * 1⟩] [⟨B1, (c.code.flatMap enc_u8)⟩] := hS16
            refine ⟨(ST.sel hS16 [0, 2] rfl rfl), ?_⟩
            refine ra_all (rs := [12]) (by kernel_rfl) rfl ?_
            refine ra_s0 (i := 12) rfl rfl rfl (Ys_store (i := 1) (s := 1) (B := some ⟨b1, 0, none⟩) (T' := 50) (v := .agg #[.slice B5 r_5.Rows.length c5]) (vs := [.slice B5 r_5.Rows.length c5]) (k := 0) (cs' := [.slice B5 r_5.Rows.length c5]) hS16 k_sz_50_1 rfl (hf.get 5 3 rfl) rfl rfl rfl rfl rfl (Nat.le_of_ble_eq_true rfl) rfl rfl) ?_ ?_
            · rintro _ w_11 ⟨rfl, hS17⟩
              have hS17 : ST w0 (bl [⟨B, 87, [.slice B1 c.code.length c1, .int .i64 c.at_, .int .u64 c.seed], 3⟩]) _ [⟨some ⟨b, 0, none⟩, 50, [.slice none 0 0], 1⟩, ⟨some ⟨b1, 0, none⟩, 50, [.slice B5 r_5.Rows.length c5], 1⟩, ⟨B4, 3, (Rows.flatMap encI), c4 * 1⟩, ⟨B, 87, [.slice B1 c.code.length c1, .int .i64 m3.at_, .int .u64 m3.seed], 3⟩, ⟨B5, 3, (r_5.Rows.flatMap encI), c5 * 1⟩] [⟨B1, (c.code.flatMap enc_u8)⟩] := hS17
              refine ⟨(ST.sel hS17 [0, 2] rfl rfl), ?_⟩
              refine ra_done (by kernel_rfl) ?_
              exact ⟨B5, c5, (FF.cons (hf.get 0 0 rfl) (FF.cons (hf.get 1 1 rfl) (FF.cons (hf.get 4 2 rfl) (FF.cons (hf.get 5 3 rfl) (FF.cons (hf.get 6 4 rfl) FF.nil))))), (hS17.sel [3, 0, 1, 4] rfl rfl)⟩
            exact allR_nil
          exact allR_nil
        exact allR_nil
      exact allR_nil
    rintro f w ⟨B6, c6, hf1, hS10⟩
    refine cw_region ?_
    refine sq 18 rfl rfl (Y_move (v := .int .i64 k_) rfl (hf1.get 6 4 rfl)) ?_
    refine sq 19 rfl rfl (Y_sub (k := .i64) (a := k_) (b := 1) rfl rfl rfl) ?_
    refine sq 6 rfl rfl (Y_assign (v := .int .i64 (IntKind.i64.wrap (k_ - 1))) rfl rfl) ?_
    refine rw_nil ?_
    obtain rfl := some_inj hF2
    exact ⟨k_2, Nat.lt_succ_self _, m3.at_, m3.seed, r_5.Rows, (IntKind.i64.wrap (k_ - 1)), B6, c6, (FF.cons (hf1.get 0 0 rfl) (FF.cons (hf1.get 1 1 rfl) (FF.cons (hf1.get 4 2 rfl) (FF.cons (hf1.get 5 3 rfl) (FF.cons rfl FF.nil))))), (hS10.sel [0, 1, 2, 3] rfl rfl), hL1⟩
  · skip
    have hF3 := cf' hb hb1
    refine cw_exit rfl ?_
    obtain rfl := some_inj hF3
    obtain rfl := some_inj hL1
    refine cw_seq ?_
    refine cw_region ?_
    refine sq 35 rfl rfl (Y_loadA (B := some ⟨b1, 0, none⟩) (i := 0) (cs := [.slice B4 Rows.length c4]) (vs := [.slice B4 Rows.length c4]) k_ag_50 k_sz_50_1 rfl (hf.get 5 3 rfl) (hS6.cf (i := 2) rfl) rfl rfl) ?_
    refine ss0 rfl rfl (Ys_store (i := 1) (s := 1) (B := some ⟨b, 0, none⟩) (T' := 50) (v := .agg #[.slice B4 Rows.length c4]) (vs := [.slice B4 Rows.length c4]) (k := 0) (cs' := [.slice B4 Rows.length c4]) hS6 k_sz_50_1 rfl (hf.get 4 2 rfl) rfl rfl rfl rfl rfl (Nat.le_of_ble_eq_true rfl) rfl rfl) ?_
    rintro _ w_12 ⟨rfl, hS18⟩
    have hS18 : ST w0 (bl [⟨B, 87, [.slice B1 c.code.length c1, .int .i64 c.at_, .int .u64 c.seed], 3⟩]) _ [⟨B, 87, [.slice B1 c.code.length c1, .int .i64 at_, .int .u64 seed], 3⟩, ⟨some ⟨b, 0, none⟩, 50, [.slice B4 Rows.length c4], 1⟩, ⟨some ⟨b1, 0, none⟩, 50, [.slice B4 Rows.length c4], 1⟩, ⟨B4, 3, (Rows.flatMap encI), c4 * 1⟩] [⟨B1, (c.code.flatMap enc_u8)⟩] := hS18
    refine rw_nil ?_
    refine cw_ret ?_
    obtain ⟨rfl, rfl⟩ := pr2 (some_inj hF1)
    exact ret1 Try.results120 (v1 := .agg #[.slice B4 Rows.length c4]) (resAt_cellA (B := some ⟨b, 0, none⟩) (i := 0) (cs := [.slice B4 Rows.length c4]) (vs := [.slice B4 Rows.length c4]) (hf.get 4 2 rfl) k_ag_50 k_sz_50_1 (hS18.cf (i := 1) rfl) rfl rfl) ⟨B4, c4, rfl, (ST.subR (R' := []) (hS18.sel [0, 3] rfl rfl) (fun _ h => by cases h))⟩

theorem c_spec_l1Cur_phasePoly (c : Tl1Cur) (n1 : Int) (B : Option Addr) (B1 : Option Addr) (c1 n : Nat) (w0 : World) (hn : c.code.length = n) (hS : ST w0 (bl [⟨B, 87, [.slice B1 n c1, .int .i64 c.at_, .int .u64 c.seed], 3⟩]) w0 [⟨B, 87, [.slice B1 n c1, .int .i64 c.at_, .int .u64 c.seed], 3⟩] [⟨B1, (c.code.flatMap enc_u8)⟩]) {r_ : TPhasePoly} {m : Tl1Cur} (hF : F_spec_l1Cur_phasePoly c n1 = some (r_, m)) :
    CV Try.prog 70 #[pt B 0, .int .i64 n1] w0 (fun v w' => ∃ (B2 : Option Addr) (c2 : Nat) (B3 : Option Addr) (c3 : Nat), v = .agg #[.int .i64 r_.Qubits, .int .i64 r_.Phase, .slice B2 r_.Terms.length c2, .slice B3 r_.Out.Rows.length c3] ∧ ST w0 (bl [⟨B, 87, [.slice B1 n c1, .int .i64 c.at_, .int .u64 c.seed], 3⟩]) w' [⟨B, 87, [.slice B1 n c1, .int .i64 m.at_, .int .u64 m.seed], 3⟩, ⟨B2, 104, (r_.Terms.flatMap enc_Term), c2 * 2⟩, ⟨B3, 3, (r_.Out.Rows.flatMap encI), c3 * 1⟩] []) := by
  subst hn
  unfold F_spec_l1Cur_phasePoly at hF
  refine cv_of_cw 48 Try.func70 rfl Try.ntmps70 rfl ?_
  refine cw_seq ?_
  refine cw_region ?_
  refine ss 4 rfl rfl (Ys_alloc (T := 52) (cs := [.int .i64 0, .int .i64 0, .slice none 0 0, .slice none 0 0]) (m := 4) hS k_zero_52 rfl rfl rfl) ?_
  rintro _ w_ ⟨b, rfl, hS1⟩
  have hS1 : ST w0 (bl [⟨B, 87, [.slice B1 c.code.length c1, .int .i64 c.at_, .int .u64 c.seed], 3⟩]) _ [⟨B, 87, [.slice B1 c.code.length c1, .int .i64 c.at_, .int .u64 c.seed], 3⟩, ⟨some ⟨b, 0, none⟩, 52, [.int .i64 0, .int .i64 0, .slice none 0 0, .slice none 0 0], 4⟩] [⟨B1, (c.code.flatMap enc_u8)⟩] := hS1
  refine rw_nil ?_
  refine cw_seq ?_
  refine cw_region ?_
  refine sq 8 rfl rfl (Y_move (v := .int .i64 n1) rfl rfl) ?_
  refine sq 9 rfl rfl (Y_conv (k := .i64) (a := n1) (T := 3) (T' := 63) k_us_3 k_int_63_u64 rfl rfl) ?_
  obtain ⟨hsh, hF⟩ := chk_inv hF
  refine sq 10 rfl rfl (Y_shl (k := .i64) (a := 1) (k' := .u64) (b := (IntKind.u64.wrap n1)) rfl rfl rfl hsh) ?_
  obtain ⟨hmk, hF⟩ := chk_inv hF
  refine ss 11 rfl rfl (Ys_make (s := 1) (by' := 8) (nn := (shlK .i64 1 (IntKind.u64.wrap n1)).toNat) (a := (shlK .i64 1 (IntKind.u64.wrap n1))) (b := (shlK .i64 1 (IntKind.u64.wrap n1))) (cs := ((List.replicate ((shlK .i64 1 (IntKind.u64.wrap n1)).toNat) 0).flatMap encI)) hS1 k_sl_48_3 k_sz_3_1 k_by_3_8 k_zero_3 rfl rfl rfl rfl hmk.1 rfl (by have := hmk; omega) (by have := hmk; omega) (by omega) (fm_rep (enc := encI) (d := 0) rfl _)) ?_
  rintro _ w_1 ⟨b1, rfl, hS2⟩
  have hS2 : ST w0 (bl [⟨B, 87, [.slice B1 c.code.length c1, .int .i64 c.at_, .int .u64 c.seed], 3⟩]) _ [⟨B, 87, [.slice B1 c.code.length c1, .int .i64 c.at_, .int .u64 c.seed], 3⟩, ⟨some ⟨b, 0, none⟩, 52, [.int .i64 0, .int .i64 0, .slice none 0 0, .slice none 0 0], 4⟩, ⟨some ⟨b1, 0, none⟩, 3, ((List.replicate ((shlK .i64 1 (IntKind.u64.wrap n1)).toNat) 0).flatMap encI), ((shlK .i64 1 (IntKind.u64.wrap n1)).toNat) * 1⟩] [⟨B1, (c.code.flatMap enc_u8)⟩] := hS2
  refine sq 5 rfl rfl (Y_assign (v := .slice (some ⟨b1, 0, none⟩) ((shlK .i64 1 (IntKind.u64.wrap n1)).toNat) ((shlK .i64 1 (IntKind.u64.wrap n1)).toNat)) rfl rfl) ?_
  refine rw_nil ?_
  refine cw_seq ?_
  refine cw_seq ?_
  refine cw_region ?_
  refine sq 12 rfl rfl (Y_move (v := pt B 0) rfl rfl) ?_
  obtain ⟨⟨r_1, m1⟩, hc, hF⟩ := bind_inv hF
  refine sc 13 rfl rfl (Yc_func (g := 69) (vs := [pt B 0, .int .i64 6]) k_call_69 rfl (mc rfl (mc rfl mn)) (c_spec_l1Cur_pick c 6 B B1 c1 c.code.length _ rfl (hS2.inn [true, false, false] rfl [(true, 0)] rfl) hc)) ?_
  rintro _ w_2 ⟨rfl, hd⟩
  have hS3 := hS2.out [true, false, false] rfl hd
  have hS3 : ST w0 (bl [⟨B, 87, [.slice B1 c.code.length c1, .int .i64 c.at_, .int .u64 c.seed], 3⟩]) _ [⟨some ⟨b, 0, none⟩, 52, [.int .i64 0, .int .i64 0, .slice none 0 0, .slice none 0 0], 4⟩, ⟨some ⟨b1, 0, none⟩, 3, ((List.replicate ((shlK .i64 1 (IntKind.u64.wrap n1)).toNat) 0).flatMap encI), ((shlK .i64 1 (IntKind.u64.wrap n1)).toNat) * 1⟩, ⟨B, 87, [.slice B1 c.code.length c1, .int .i64 m1.at_, .int .u64 m1.seed], 3⟩] [⟨B1, (c.code.flatMap enc_u8)⟩] := hS3
  refine sq 6 rfl rfl (Y_assign (v := .int .i64 r_1) rfl rfl) ?_
  refine rw_nil ?_
  obtain ⟨z, hz, hF1⟩ := bind_inv hF
  refine cw_block ?_
  refine cw_loop (fun k f w => ∃ (at_ : Int) (seed : Int) (by_ : List Int) (k_ : Int), FF f [(0, pt B 0), (1, .int .i64 n1), (4, pt (some ⟨b, 0, none⟩) 0), (5, .slice (some ⟨b1, 0, none⟩) ((shlK .i64 1 (IntKind.u64.wrap n1)).toNat) ((shlK .i64 1 (IntKind.u64.wrap n1)).toNat)), (6, .int .i64 k_)] ∧ by_.length = (shlK .i64 1 (IntKind.u64.wrap n1)).toNat ∧ ST w0 (bl [⟨B, 87, [.slice B1 c.code.length c1, .int .i64 c.at_, .int .u64 c.seed], 3⟩]) w [⟨B, 87, [.slice B1 c.code.length c1, .int .i64 at_, .int .u64 seed], 3⟩, ⟨some ⟨b, 0, none⟩, 52, [.int .i64 0, .int .i64 0, .slice none 0 0, .slice none 0 0], 4⟩, ⟨some ⟨b1, 0, none⟩, 3, (by_.flatMap encI), ((shlK .i64 1 (IntKind.u64.wrap n1)).toNat) * 1⟩] [⟨B1, (c.code.flatMap enc_u8)⟩] ∧ whX (F_spec_l1Cur_phasePoly_l1 c n1) k (at_, seed, by_, k_) = some z) fuel ⟨m1.at_, m1.seed, (List.replicate ((shlK .i64 1 (IntKind.u64.wrap n1)).toNat) 0), r_1, (FF.cons rfl (FF.cons rfl (FF.cons rfl (FF.cons rfl (FF.cons rfl FF.nil))))), List.length_replicate, (hS3.sel [2, 0, 1] rfl rfl), hz⟩ ?_
  rintro k_1 f w ⟨at_, seed, by_, k_, hf, hl, hS4, hL⟩
  obtain ⟨k_2, y, rfl, hb, hL1⟩ := whX_go hL
  unfold F_spec_l1Cur_phasePoly_l1 at hb
  refine cw_seq ?_
  refine cw_seq ?_
  refine cw_region ?_
  refine sq 14 rfl rfl (Y_move (v := .int .i64 k_) rfl (hf.get 6 4 rfl)) ?_
  refine sq 15 rfl rfl (Y_gt (k := .i64) (a := k_) (b := 0) rfl rfl rfl) ?_
  refine rw_nil ?_
  refine cw_cond (b := (decide (0 < k_))) rfl (fun hb1 => ?_) (fun hb1 => ?_)
  · skip
    have hF2 := ct hb hb1
    refine cw_skip ?_
    refine cw_seq ?_
    refine cw_block ?_
    refine cw_region ?_
    refine sq 18 rfl rfl (Y_move (v := .slice (some ⟨b1, 0, none⟩) ((shlK .i64 1 (IntKind.u64.wrap n1)).toNat) ((shlK .i64 1 (IntKind.u64.wrap n1)).toNat)) rfl (hf.get 5 3 rfl)) ?_
    refine sq 19 rfl rfl (Y_move (v := pt B 0) rfl (hf.get 0 0 rfl)) ?_
    refine sq 20 rfl rfl (Y_move (v := .slice (some ⟨b1, 0, none⟩) ((shlK .i64 1 (IntKind.u64.wrap n1)).toNat) ((shlK .i64 1 (IntKind.u64.wrap n1)).toNat)) rfl (hf.get 5 3 rfl)) ?_
    refine sq 21 rfl rfl (Y_len (B := some ⟨b1, 0, none⟩) (m := (shlK .i64 1 (IntKind.u64.wrap n1)).toNat) (c := (shlK .i64 1 (IntKind.u64.wrap n1)).toNat) k_sl_48_3 rfl rfl) ?_
    obtain ⟨⟨r_2, m2⟩, hc1, hF2⟩ := bind_inv hF2
    refine sc 22 rfl rfl (Yc_func (g := 69) (vs := [pt B 0, .int .i64 ((shlK .i64 1 (IntKind.u64.wrap n1)).toNat : Int)]) k_call_69 rfl (mc rfl (mc rfl mn)) (c_spec_l1Cur_pick (Tl1Cur.mk c.code at_ seed) ((shlK .i64 1 (IntKind.u64.wrap n1)).toNat : Int) B B1 c1 c.code.length _ rfl (hS4.inn [true, false, false] rfl [(true, 0)] rfl) hc1)) ?_
    rintro _ w_3 ⟨rfl, hd1⟩
    have hS5 := hS4.out [true, false, false] rfl hd1
    have hS5 : ST w0 (bl [⟨B, 87, [.slice B1 c.code.length c1, .int .i64 c.at_, .int .u64 c.seed], 3⟩]) _ [⟨some ⟨b, 0, none⟩, 52, [.int .i64 0, .int .i64 0, .slice none 0 0, .slice none 0 0], 4⟩, ⟨some ⟨b1, 0, none⟩, 3, (by_.flatMap encI), ((shlK .i64 1 (IntKind.u64.wrap n1)).toNat) * 1⟩, ⟨B, 87, [.slice B1 c.code.length c1, .int .i64 m2.at_, .int .u64 m2.seed], 3⟩] [⟨B1, (c.code.flatMap enc_u8)⟩] := hS5
    refine sq 23 rfl rfl (Y_move (v := pt B 0) rfl (hf.get 0 0 rfl)) ?_
    obtain ⟨⟨r_3, m3⟩, hc2, hF2⟩ := bind_inv hF2
    refine sc 24 rfl rfl (Yc_func (g := 69) (vs := [pt B 0, .int .i64 8]) k_call_69 rfl (mc rfl (mc rfl mn)) (c_spec_l1Cur_pick (Tl1Cur.mk c.code m2.at_ m2.seed) 8 B B1 c1 c.code.length _ rfl (hS5.inn [false, false, true] rfl [(true, 0)] rfl) hc2)) ?_
    rintro _ w_4 ⟨rfl, hd2⟩
    have hS6 := hS5.out [false, false, true] rfl hd2
    have hS6 : ST w0 (bl [⟨B, 87, [.slice B1 c.code.length c1, .int .i64 c.at_, .int .u64 c.seed], 3⟩]) _ [⟨some ⟨b, 0, none⟩, 52, [.int .i64 0, .int .i64 0, .slice none 0 0, .slice none 0 0], 4⟩, ⟨some ⟨b1, 0, none⟩, 3, (by_.flatMap encI), ((shlK .i64 1 (IntKind.u64.wrap n1)).toNat) * 1⟩, ⟨B, 87, [.slice B1 c.code.length c1, .int .i64 m3.at_, .int .u64 m3.seed], 3⟩] [⟨B1, (c.code.flatMap enc_u8)⟩] := hS6
    obtain ⟨x, hx, hF2⟩ := bind_inv hF2
    refine sq 25 rfl rfl (Y_index (B := some ⟨b1, 0, none⟩) (m := (shlK .i64 1 (IntKind.u64.wrap n1)).toNat) (c := (shlK .i64 1 (IntKind.u64.wrap n1)).toNat) (k := .i64) (i := r_2) k_sl_48_3 k_sz_3_1 rfl rfl rfl (gi_isSome encI_len rfl (hS6.cf (i := 1) rfl) hx) (getI_nn hx) (getI_ltI hx hl)) ?_
    refine ss0 rfl rfl (Ys_store (i := 1) (s := 1) (B := some ⟨b1, 0, none⟩) (T' := 3) (v := .int .i64 r_3) (vs := [.int .i64 r_3]) (k := r_2.toNat * 1) (cs' := ((by_.set r_2.toNat r_3).flatMap encI)) hS6 k_sz_3_1 rfl rfl rfl rfl rfl rfl rfl (gi_fit0 encI_len hx) (gi_set encI_len hx r_3 rfl) rfl) ?_
    rintro _ w_5 ⟨rfl, hS7⟩
    have hS7 : ST w0 (bl [⟨B, 87, [.slice B1 c.code.length c1, .int .i64 c.at_, .int .u64 c.seed], 3⟩]) _ [⟨some ⟨b, 0, none⟩, 52, [.int .i64 0, .int .i64 0, .slice none 0 0, .slice none 0 0], 4⟩, ⟨some ⟨b1, 0, none⟩, 3, ((by_.set r_2.toNat r_3).flatMap encI), ((shlK .i64 1 (IntKind.u64.wrap n1)).toNat) * 1⟩, ⟨B, 87, [.slice B1 c.code.length c1, .int .i64 m3.at_, .int .u64 m3.seed], 3⟩] [⟨B1, (c.code.flatMap enc_u8)⟩] := hS7
    refine rw_nil ?_
    refine cw_region ?_
    refine sq 16 rfl rfl (Y_move (v := .int .i64 k_) rfl (hf.get 6 4 rfl)) ?_
    refine sq 17 rfl rfl (Y_sub (k := .i64) (a := k_) (b := 1) rfl rfl rfl) ?_
    refine sq 6 rfl rfl (Y_assign (v := .int .i64 (IntKind.i64.wrap (k_ - 1))) rfl rfl) ?_
    refine rw_nil ?_
    obtain rfl := some_inj hF2
    exact ⟨k_2, Nat.lt_succ_self _, m3.at_, m3.seed, (by_.set r_2.toNat r_3), (IntKind.i64.wrap (k_ - 1)), (FF.cons (hf.get 0 0 rfl) (FF.cons (hf.get 1 1 rfl) (FF.cons (hf.get 4 2 rfl) (FF.cons (hf.get 5 3 rfl) (FF.cons rfl FF.nil))))), (set_len _ _ _ hl), (hS7.sel [2, 0, 1] rfl rfl), hL1⟩
  · skip
    have hF3 := cf' hb hb1
    refine cw_exit rfl ?_
    obtain rfl := some_inj hF3
    obtain rfl := some_inj hL1
    refine cw_seq ?_
    obtain ⟨z1, hz1, hF4⟩ := bind_inv hF1
    refine cw_mid (fun f w => ∃ (at_1 : Int) (seed1 : Int) (by_1 : List Int), (at_1, seed1, by_1) = z1 ∧ FF f [(0, pt B 0), (1, .int .i64 n1), (4, pt (some ⟨b, 0, none⟩) 0), (5, .slice (some ⟨b1, 0, none⟩) ((shlK .i64 1 (IntKind.u64.wrap n1)).toNat) ((shlK .i64 1 (IntKind.u64.wrap n1)).toNat))] ∧ by_1.length = (shlK .i64 1 (IntKind.u64.wrap n1)).toNat ∧ ST w0 (bl [⟨B, 87, [.slice B1 c.code.length c1, .int .i64 c.at_, .int .u64 c.seed], 3⟩]) w [⟨B, 87, [.slice B1 c.code.length c1, .int .i64 at_1, .int .u64 seed1], 3⟩, ⟨some ⟨b, 0, none⟩, 52, [.int .i64 0, .int .i64 0, .slice none 0 0, .slice none 0 0], 4⟩, ⟨some ⟨b1, 0, none⟩, 3, (by_1.flatMap encI), ((shlK .i64 1 (IntKind.u64.wrap n1)).toNat) * 1⟩] [⟨B1, (c.code.flatMap enc_u8)⟩]) ?_ ?_
    · skip
      refine cw_seq ?_
      refine cw_region ?_
      refine sq 26 rfl rfl (Y_move (v := pt B 0) rfl (hf.get 0 0 rfl)) ?_
      obtain ⟨⟨r_4, m4⟩, hc3, hz1⟩ := bind_inv hz1
      refine sc 27 rfl rfl (Yc_func (g := 55) (vs := [pt B 0, .int .i64 6]) k_call_55 rfl (mc rfl (mc rfl mn)) (c_spec_l1Cur_one (Tl1Cur.mk c.code at_ seed) 6 B B1 c1 c.code.length _ rfl (hS4.inn [true, false, false] rfl [(true, 0)] rfl) hc3)) ?_
      rintro _ w_6 ⟨rfl, hd3⟩
      have hS9 := hS4.out [true, false, false] rfl hd3
      have hS9 : ST w0 (bl [⟨B, 87, [.slice B1 c.code.length c1, .int .i64 c.at_, .int .u64 c.seed], 3⟩]) _ [⟨some ⟨b, 0, none⟩, 52, [.int .i64 0, .int .i64 0, .slice none 0 0, .slice none 0 0], 4⟩, ⟨some ⟨b1, 0, none⟩, 3, (by_.flatMap encI), ((shlK .i64 1 (IntKind.u64.wrap n1)).toNat) * 1⟩, ⟨B, 87, [.slice B1 c.code.length c1, .int .i64 m4.at_, .int .u64 m4.seed], 3⟩] [⟨B1, (c.code.flatMap enc_u8)⟩] := hS9
      refine rw_nil ?_
      refine cw_cond (b := r_4) rfl (fun hb2 => ?_) (fun hb2 => ?_)
      · skip
        have hF5 := ct hz1 hb2
        refine cw_seq ?_
        refine cw_region ?_
        refine sq 28 rfl rfl (Y_move (v := .slice (some ⟨b1, 0, none⟩) ((shlK .i64 1 (IntKind.u64.wrap n1)).toNat) ((shlK .i64 1 (IntKind.u64.wrap n1)).toNat)) rfl (hf.get 5 3 rfl)) ?_
        refine sq 29 rfl rfl (Y_len (B := some ⟨b1, 0, none⟩) (m := (shlK .i64 1 (IntKind.u64.wrap n1)).toNat) (c := (shlK .i64 1 (IntKind.u64.wrap n1)).toNat) k_sl_48_3 rfl rfl) ?_
        refine sq 30 rfl rfl (Y_move (v := .int .i64 0) rfl rfl) ?_
        refine rw_nil ?_
        obtain ⟨hN, hF5⟩ := chk_inv hF5
        obtain ⟨z2, hz2, hF6⟩ := bind_inv hF5
        refine cw_block ?_
        refine cw_loop (fun k f w => ∃ (i : Nat) (at_2 : Int) (seed2 : Int) (by_2 : List Int), FF f [(0, pt B 0), (1, .int .i64 n1), (4, pt (some ⟨b, 0, none⟩) 0), (5, .slice (some ⟨b1, 0, none⟩) ((shlK .i64 1 (IntKind.u64.wrap n1)).toNat) ((shlK .i64 1 (IntKind.u64.wrap n1)).toNat)), (29, .int .i64 ((shlK .i64 1 (IntKind.u64.wrap n1)).toNat : Int)), (30, .int .i64 (i : Int))] ∧ by_2.length = (shlK .i64 1 (IntKind.u64.wrap n1)).toNat ∧ ST w0 (bl [⟨B, 87, [.slice B1 c.code.length c1, .int .i64 c.at_, .int .u64 c.seed], 3⟩]) w [⟨B, 87, [.slice B1 c.code.length c1, .int .i64 at_2, .int .u64 seed2], 3⟩, ⟨some ⟨b, 0, none⟩, 52, [.int .i64 0, .int .i64 0, .slice none 0 0, .slice none 0 0], 4⟩, ⟨some ⟨b1, 0, none⟩, 3, (by_2.flatMap encI), ((shlK .i64 1 (IntKind.u64.wrap n1)).toNat) * 1⟩] [⟨B1, (c.code.flatMap enc_u8)⟩] ∧ i + k = (shlK .i64 1 (IntKind.u64.wrap n1)).toNat ∧ forN (F_spec_l1Cur_phasePoly_l2 c at_ seed) k i (at_2, seed2, by_2) = some z2) ((shlK .i64 1 (IntKind.u64.wrap n1)).toNat) ⟨0, m4.at_, m4.seed, by_, (FF.cons (hf.get 0 0 rfl) (FF.cons (hf.get 1 1 rfl) (FF.cons (hf.get 4 2 rfl) (FF.cons (hf.get 5 3 rfl) (FF.cons rfl (FF.cons rfl FF.nil)))))), hl, (hS9.sel [2, 0, 1] rfl rfl), Nat.zero_add _, hz2⟩ ?_
        rintro k_3 f w ⟨i, at_2, seed2, by_2, hf2, hl2, hS10, hik1, hL2⟩
        refine cw_seq ?_
        refine cw_region ?_
        refine sq 31 rfl rfl (Y_lt (k := .i64) (a := (i : Int)) (b := ((shlK .i64 1 (IntKind.u64.wrap n1)).toNat : Int)) rfl (hf2.get 30 5 rfl) (hf2.get 29 4 rfl)) ?_
        refine rw_nil ?_
        refine cw_seq ?_
        refine cw_cond (b := (decide ((i : Int) < ((shlK .i64 1 (IntKind.u64.wrap n1)).toNat : Int)))) rfl (fun hlt => ?_) (fun hlt => ?_)
        · skip
          have hlt1 : i < (shlK .i64 1 (IntKind.u64.wrap n1)).toNat := by have h := of_decide_eq_true hlt; omega
          obtain ⟨k_4, rfl⟩ : ∃ k2, k_3 = k2 + 1 := ⟨k_3 - 1, by omega⟩
          obtain ⟨y1, hb3, hL3⟩ := forN_go hL2
          unfold F_spec_l1Cur_phasePoly_l2 at hb3
          refine cw_skip ?_
          refine cw_seq ?_
          refine cw_block ?_
          refine cw_seq ?_
          refine cw_region ?_
          refine sq 32 rfl rfl (Y_move (v := .int .i64 (i : Int)) rfl (hf2.get 30 5 rfl)) ?_
          refine sq 7 rfl rfl (Y_assign (v := .int .i64 (i : Int)) rfl rfl) ?_
          refine rw_nil ?_
          refine cw_region ?_
          refine sq 33 rfl rfl (Y_move (v := .slice (some ⟨b1, 0, none⟩) ((shlK .i64 1 (IntKind.u64.wrap n1)).toNat) ((shlK .i64 1 (IntKind.u64.wrap n1)).toNat)) rfl (hf2.get 5 3 rfl)) ?_
          refine sq 34 rfl rfl (Y_move (v := .int .i64 (i : Int)) rfl rfl) ?_
          refine sq 35 rfl rfl (Y_move (v := pt B 0) rfl (hf2.get 0 0 rfl)) ?_
          obtain ⟨⟨r_5, m5⟩, hc4, hb3⟩ := bind_inv hb3
          refine sc 36 rfl rfl (Yc_func (g := 69) (vs := [pt B 0, .int .i64 8]) k_call_69 rfl (mc rfl (mc rfl mn)) (c_spec_l1Cur_pick (Tl1Cur.mk c.code at_2 seed2) 8 B B1 c1 c.code.length _ rfl (hS10.inn [true, false, false] rfl [(true, 0)] rfl) hc4)) ?_
          rintro _ w_7 ⟨rfl, hd4⟩
          have hS11 := hS10.out [true, false, false] rfl hd4
          have hS11 : ST w0 (bl [⟨B, 87, [.slice B1 c.code.length c1, .int .i64 c.at_, .int .u64 c.seed], 3⟩]) _ [⟨some ⟨b, 0, none⟩, 52, [.int .i64 0, .int .i64 0, .slice none 0 0, .slice none 0 0], 4⟩, ⟨some ⟨b1, 0, none⟩, 3, (by_2.flatMap encI), ((shlK .i64 1 (IntKind.u64.wrap n1)).toNat) * 1⟩, ⟨B, 87, [.slice B1 c.code.length c1, .int .i64 m5.at_, .int .u64 m5.seed], 3⟩] [⟨B1, (c.code.flatMap enc_u8)⟩] := hS11
          obtain ⟨x1, hx1, hb3⟩ := bind_inv hb3
          refine sq 37 rfl rfl (Y_index (B := some ⟨b1, 0, none⟩) (m := (shlK .i64 1 (IntKind.u64.wrap n1)).toNat) (c := (shlK .i64 1 (IntKind.u64.wrap n1)).toNat) (k := .i64) (i := (i : Int)) k_sl_48_3 k_sz_3_1 rfl rfl rfl (gi_isSome encI_len rfl (hS11.cf (i := 1) rfl) hx1) (getI_nn hx1) (getI_ltI hx1 hl2)) ?_
          refine ss0 rfl rfl (Ys_store (i := 1) (s := 1) (B := some ⟨b1, 0, none⟩) (T' := 3) (v := .int .i64 r_5) (vs := [.int .i64 r_5]) (k := (i : Int).toNat * 1) (cs' := ((by_2.set (i : Int).toNat r_5).flatMap encI)) hS11 k_sz_3_1 rfl rfl rfl rfl rfl rfl rfl (gi_fit0 encI_len hx1) (gi_set encI_len hx1 r_5 rfl) rfl) ?_
          rintro _ w_8 ⟨rfl, hS12⟩
          have hS12 : ST w0 (bl [⟨B, 87, [.slice B1 c.code.length c1, .int .i64 c.at_, .int .u64 c.seed], 3⟩]) _ [⟨some ⟨b, 0, none⟩, 52, [.int .i64 0, .int .i64 0, .slice none 0 0, .slice none 0 0], 4⟩, ⟨some ⟨b1, 0, none⟩, 3, ((by_2.set (i : Int).toNat r_5).flatMap encI), ((shlK .i64 1 (IntKind.u64.wrap n1)).toNat) * 1⟩, ⟨B, 87, [.slice B1 c.code.length c1, .int .i64 m5.at_, .int .u64 m5.seed], 3⟩] [⟨B1, (c.code.flatMap enc_u8)⟩] := hS12
          refine rw_nil ?_
          refine cw_region ?_
          refine sq 38 rfl rfl (Y_add (k := .i64) (a := (i : Int)) (b := 1) rfl (hf2.get 30 5 rfl) rfl) ?_
          refine sq 30 rfl rfl (Y_move (v := .int .i64 (IntKind.i64.wrap ((i : Int) + 1))) rfl rfl) ?_
          refine rw_nil ?_
          obtain rfl := some_inj hb3
          exact ⟨k_4, Nat.lt_succ_self _, i + 1, m5.at_, m5.seed, (by_2.set (i : Int).toNat r_5), (FF.cons (hf2.get 0 0 rfl) (FF.cons (hf2.get 1 1 rfl) (FF.cons (hf2.get 4 2 rfl) (FF.cons (hf2.get 5 3 rfl) (FF.cons (hf2.get 29 4 rfl) (FF.cons (congrArg (Value.int .i64) (wr_succ hlt1 hN)) FF.nil)))))), (set_len _ _ _ hl2), (hS12.sel [2, 0, 1] rfl rfl), (by omega), hL3⟩
        · skip
          obtain rfl : k_3 = 0 := by have h := of_decide_eq_false hlt; omega
          refine cw_exit rfl ?_
          obtain rfl := some_inj hL2
          exact ⟨at_2, seed2, by_2, (some_inj hF6), (FF.cons (hf2.get 0 0 rfl) (FF.cons (hf2.get 1 1 rfl) (FF.cons (hf2.get 4 2 rfl) (FF.cons (hf2.get 5 3 rfl) FF.nil)))), hl2, (hS10.sel [0, 1, 2] rfl rfl)⟩
      · skip
        have hF7 := cf' hz1 hb2
        refine cw_skip ?_
        exact ⟨m4.at_, m4.seed, by_, (some_inj hF7), (FF.cons (hf.get 0 0 rfl) (FF.cons (hf.get 1 1 rfl) (FF.cons (hf.get 4 2 rfl) (FF.cons (hf.get 5 3 rfl) FF.nil)))), hl, (hS9.sel [2, 0, 1] rfl rfl)⟩
    rintro f w ⟨at_1, seed1, by_1, rfl, hf1, hl1, hS8⟩
    refine cw_seq ?_
    refine cw_region ?_
    refine sq 39 rfl rfl (Y_move (v := .int .i64 n1) rfl (hf1.get 1 1 rfl)) ?_
    refine sq 40 rfl rfl (Y_move (v := pt B 0) rfl (hf1.get 0 0 rfl)) ?_
    obtain ⟨⟨r_6, m6⟩, hc5, hF4⟩ := bind_inv hF4
    refine sc 41 rfl rfl (Yc_func (g := 69) (vs := [pt B 0, .int .i64 8]) k_call_69 rfl (mc rfl (mc rfl mn)) (c_spec_l1Cur_pick (Tl1Cur.mk c.code at_1 seed1) 8 B B1 c1 c.code.length _ rfl (hS8.inn [true, false, false] rfl [(true, 0)] rfl) hc5)) ?_
    rintro _ w_9 ⟨rfl, hd5⟩
    have hS13 := hS8.out [true, false, false] rfl hd5
    have hS13 : ST w0 (bl [⟨B, 87, [.slice B1 c.code.length c1, .int .i64 c.at_, .int .u64 c.seed], 3⟩]) _ [⟨some ⟨b, 0, none⟩, 52, [.int .i64 0, .int .i64 0, .slice none 0 0, .slice none 0 0], 4⟩, ⟨some ⟨b1, 0, none⟩, 3, (by_1.flatMap encI), ((shlK .i64 1 (IntKind.u64.wrap n1)).toNat) * 1⟩, ⟨B, 87, [.slice B1 c.code.length c1, .int .i64 m6.at_, .int .u64 m6.seed], 3⟩] [⟨B1, (c.code.flatMap enc_u8)⟩] := hS13
    refine sq 42 rfl rfl (Y_move (v := .slice (some ⟨b1, 0, none⟩) ((shlK .i64 1 (IntKind.u64.wrap n1)).toNat) ((shlK .i64 1 (IntKind.u64.wrap n1)).toNat)) rfl (hf1.get 5 3 rfl)) ?_
    obtain ⟨r_7, hc6, hF4⟩ := bind_inv hF4
    refine sc 43 rfl rfl (Yc_func (g := 79) (vs := [.slice (some ⟨b1, 0, none⟩) ((shlK .i64 1 (IntKind.u64.wrap n1)).toNat) ((shlK .i64 1 (IntKind.u64.wrap n1)).toNat)]) k_call_79 rfl (mc rfl mn) (c_spec_l13List by_1 (some ⟨b1, 0, none⟩) ((shlK .i64 1 (IntKind.u64.wrap n1)).toNat) ((shlK .i64 1 (IntKind.u64.wrap n1)).toNat) _ hl1 (hS13.inn0 [(false, 1)] rfl) hc6)) ?_
    rintro _ w_10 ⟨B4, c4, rfl, hd6⟩
    have hS14 := hS13.out0 hd6
    have hS14 : ST w0 (bl [⟨B, 87, [.slice B1 c.code.length c1, .int .i64 c.at_, .int .u64 c.seed], 3⟩]) _ [⟨some ⟨b, 0, none⟩, 52, [.int .i64 0, .int .i64 0, .slice none 0 0, .slice none 0 0], 4⟩, ⟨some ⟨b1, 0, none⟩, 3, (by_1.flatMap encI), ((shlK .i64 1 (IntKind.u64.wrap n1)).toNat) * 1⟩, ⟨B, 87, [.slice B1 c.code.length c1, .int .i64 m6.at_, .int .u64 m6.seed], 3⟩, ⟨B4, 104, (r_7.flatMap enc_Term), c4 * 2⟩] [⟨B1, (c.code.flatMap enc_u8)⟩] := hS14
    refine sq 44 rfl rfl (Y_move (v := pt B 0) rfl (hf1.get 0 0 rfl)) ?_
    refine sq 45 rfl rfl (Y_move (v := .int .i64 n1) rfl (hf1.get 1 1 rfl)) ?_
    obtain ⟨⟨r_8, m7⟩, hc7, hF4⟩ := bind_inv hF4
    refine sc 46 rfl rfl (Yc_func (g := 120) (vs := [pt B 0, .int .i64 n1]) k_call_120 rfl (mc rfl (mc rfl mn)) (c_spec_l1Cur_linear (Tl1Cur.mk c.code m6.at_ m6.seed) n1 B B1 c1 c.code.length _ rfl (hS14.inn [false, false, true, false] rfl [(true, 0)] rfl) hc7)) ?_
    rintro _ w_11 ⟨B5, c5, rfl, hd7⟩
    have hS15 := hS14.out [false, false, true, false] rfl hd7
    have hS15 : ST w0 (bl [⟨B, 87, [.slice B1 c.code.length c1, .int .i64 c.at_, .int .u64 c.seed], 3⟩]) _ [⟨some ⟨b, 0, none⟩, 52, [.int .i64 0, .int .i64 0, .slice none 0 0, .slice none 0 0], 4⟩, ⟨some ⟨b1, 0, none⟩, 3, (by_1.flatMap encI), ((shlK .i64 1 (IntKind.u64.wrap n1)).toNat) * 1⟩, ⟨B4, 104, (r_7.flatMap enc_Term), c4 * 2⟩, ⟨B, 87, [.slice B1 c.code.length c1, .int .i64 m7.at_, .int .u64 m7.seed], 3⟩, ⟨B5, 3, (r_8.Rows.flatMap encI), c5 * 1⟩] [⟨B1, (c.code.flatMap enc_u8)⟩] := hS15
    refine sq 47 rfl rfl (Y_buildS (zs := [.int .i64 0, .int .i64 0, .slice none 0 0, .slice none 0 0]) (vs := [(0, .int .i64 n1), (1, .int .i64 r_6), (2, .slice B4 r_7.length c4), (3, .agg #[.slice B5 r_8.Rows.length c5])]) (cs := [.int .i64 n1, .int .i64 r_6, .slice B4 r_7.length c4, .slice B5 r_8.Rows.length c5]) k_pl_52 k_zero_52 rfl (mpc rfl (mpc rfl (mpc rfl (mpc rfl mpn)))) rfl) ?_
    refine ss0 rfl rfl (Ys_store (i := 0) (s := 4) (B := some ⟨b, 0, none⟩) (T' := 52) (v := .agg #[.int .i64 n1, .int .i64 r_6, .slice B4 r_7.length c4, .slice B5 r_8.Rows.length c5]) (vs := [.int .i64 n1, .int .i64 r_6, .slice B4 r_7.length c4, .slice B5 r_8.Rows.length c5]) (k := 0) (cs' := [.int .i64 n1, .int .i64 r_6, .slice B4 r_7.length c4, .slice B5 r_8.Rows.length c5]) hS15 k_sz_52_4 rfl (hf1.get 4 2 rfl) rfl rfl rfl rfl rfl (Nat.le_of_ble_eq_true rfl) rfl rfl) ?_
    rintro _ w_12 ⟨rfl, hS16⟩
    have hS16 : ST w0 (bl [⟨B, 87, [.slice B1 c.code.length c1, .int .i64 c.at_, .int .u64 c.seed], 3⟩]) _ [⟨some ⟨b, 0, none⟩, 52, [.int .i64 n1, .int .i64 r_6, .slice B4 r_7.length c4, .slice B5 r_8.Rows.length c5], 4⟩, ⟨some ⟨b1, 0, none⟩, 3, (by_1.flatMap encI), ((shlK .i64 1 (IntKind.u64.wrap n1)).toNat) * 1⟩, ⟨B4, 104, (r_7.flatMap enc_Term), c4 * 2⟩, ⟨B, 87, [.slice B1 c.code.length c1, .int .i64 m7.at_, .int .u64 m7.seed], 3⟩, ⟨B5, 3, (r_8.Rows.flatMap encI), c5 * 1⟩] [⟨B1, (c.code.flatMap enc_u8)⟩] := hS16
    refine rw_nil ?_
    refine cw_ret ?_
    obtain ⟨rfl, rfl⟩ := pr2 (some_inj hF4)
    exact ret1 Try.results70 (v1 := .agg #[.int .i64 n1, .int .i64 r_6, .slice B4 r_7.length c4, .slice B5 r_8.Rows.length c5]) (resAt_cellA (B := some ⟨b, 0, none⟩) (i := 0) (cs := [.int .i64 n1, .int .i64 r_6, .slice B4 r_7.length c4, .slice B5 r_8.Rows.length c5]) (vs := [.int .i64 n1, .int .i64 r_6, .slice B4 r_7.length c4, .slice B5 r_8.Rows.length c5]) (hf1.get 4 2 rfl) k_ag_52 k_sz_52_4 (hS16.cf (i := 0) rfl) rfl rfl) ⟨B4, c4, B5, c5, rfl, (ST.subR (R' := []) (hS16.sel [3, 2, 4] rfl rfl) (fun _ h => by cases h))⟩

theorem c_spec_l1Cur_anyLinear (c : Tl1Cur) (B : Option Addr) (B1 : Option Addr) (c1 n : Nat) (w0 : World) (hn : c.code.length = n) (hS : ST w0 (bl [⟨B, 87, [.slice B1 n c1, .int .i64 c.at_, .int .u64 c.seed], 3⟩]) w0 [⟨B, 87, [.slice B1 n c1, .int .i64 c.at_, .int .u64 c.seed], 3⟩] [⟨B1, (c.code.flatMap enc_u8)⟩]) {r_ : TLinear} {m : Tl1Cur} (hF : F_spec_l1Cur_anyLinear c = some (r_, m)) :
    CV Try.prog 121 #[pt B 0] w0 (fun v w' => ∃ (B2 : Option Addr) (c2 : Nat), v = .agg #[.slice B2 r_.Rows.length c2] ∧ r_.Rows.length ≤ c2 ∧ Org w0 (bl [⟨B, 87, [.slice B1 n c1, .int .i64 c.at_, .int .u64 c.seed], 3⟩]) [⟨B1, (c.code.flatMap enc_u8)⟩] [⟨B2, (r_.Rows.flatMap encI)⟩] ∧ ST w0 (bl [⟨B, 87, [.slice B1 n c1, .int .i64 c.at_, .int .u64 c.seed], 3⟩]) w' [⟨B, 87, [.slice B1 n c1, .int .i64 m.at_, .int .u64 m.seed], 3⟩] [⟨B2, (r_.Rows.flatMap encI)⟩]) := by
  subst hn
  unfold F_spec_l1Cur_anyLinear at hF
  refine cv_of_cw 35 Try.func121 rfl Try.ntmps121 rfl ?_
  refine cw_seq ?_
  refine cw_region ?_
  refine ss 2 rfl rfl (Ys_alloc (T := 50) (cs := [.slice none 0 0]) (m := 1) hS k_zero_50 rfl rfl rfl) ?_
  rintro _ w_ ⟨b, rfl, hS1⟩
  have hS1 : ST w0 (bl [⟨B, 87, [.slice B1 c.code.length c1, .int .i64 c.at_, .int .u64 c.seed], 3⟩]) _ [⟨B, 87, [.slice B1 c.code.length c1, .int .i64 c.at_, .int .u64 c.seed], 3⟩, ⟨some ⟨b, 0, none⟩, 50, [.slice none 0 0], 1⟩] [⟨B1, (c.code.flatMap enc_u8)⟩] := hS1
  refine rw_nil ?_
  refine cw_seq ?_
  refine cw_region ?_
  refine sq 4 rfl rfl (Y_move (v := pt B 0) rfl rfl) ?_
  refine sq 5 rfl rfl (Y_move (v := pt B 0) rfl rfl) ?_
  obtain ⟨⟨r_1, m1⟩, hc, hF⟩ := bind_inv hF
  refine sc 6 rfl rfl (Yc_func (g := 69) (vs := [pt B 0, .int .i64 5]) k_call_69 rfl (mc rfl (mc rfl mn)) (c_spec_l1Cur_pick c 5 B B1 c1 c.code.length _ rfl (hS1.inn [true, false] rfl [(true, 0)] rfl) hc)) ?_
  rintro _ w_1 ⟨rfl, hd⟩
  have hS2 := hS1.out [true, false] rfl hd
  have hS2 : ST w0 (bl [⟨B, 87, [.slice B1 c.code.length c1, .int .i64 c.at_, .int .u64 c.seed], 3⟩]) _ [⟨some ⟨b, 0, none⟩, 50, [.slice none 0 0], 1⟩, ⟨B, 87, [.slice B1 c.code.length c1, .int .i64 m1.at_, .int .u64 m1.seed], 3⟩] [⟨B1, (c.code.flatMap enc_u8)⟩] := hS2
  refine sq 7 rfl rfl (Y_add (k := .i64) (a := 1) (b := r_1) rfl rfl rfl) ?_
  obtain ⟨⟨r_2, m2⟩, hc1, hF⟩ := bind_inv hF
  refine sc 8 rfl rfl (Yc_func (g := 120) (vs := [pt B 0, .int .i64 (IntKind.i64.wrap (1 + r_1))]) k_call_120 rfl (mc rfl (mc rfl mn)) (c_spec_l1Cur_linear (Tl1Cur.mk c.code m1.at_ m1.seed) (IntKind.i64.wrap (1 + r_1)) B B1 c1 c.code.length _ rfl (hS2.inn [false, true] rfl [(true, 0)] rfl) hc1)) ?_
  rintro _ w_2 ⟨B3, c3, rfl, hd1⟩
  have hS3 := hS2.out [false, true] rfl hd1
  have hS3 : ST w0 (bl [⟨B, 87, [.slice B1 c.code.length c1, .int .i64 c.at_, .int .u64 c.seed], 3⟩]) _ [⟨some ⟨b, 0, none⟩, 50, [.slice none 0 0], 1⟩, ⟨B, 87, [.slice B1 c.code.length c1, .int .i64 m2.at_, .int .u64 m2.seed], 3⟩, ⟨B3, 3, (r_2.Rows.flatMap encI), c3 * 1⟩] [⟨B1, (c.code.flatMap enc_u8)⟩] := hS3
  refine ss 3 rfl rfl (Ys_alloc (T := 50) (cs := [.slice none 0 0]) (m := 1) hS3 k_zero_50 rfl rfl rfl) ?_
  rintro _ w_3 ⟨b1, rfl, hS4⟩
  have hS4 : ST w0 (bl [⟨B, 87, [.slice B1 c.code.length c1, .int .i64 c.at_, .int .u64 c.seed], 3⟩]) _ [⟨some ⟨b, 0, none⟩, 50, [.slice none 0 0], 1⟩, ⟨B, 87, [.slice B1 c.code.length c1, .int .i64 m2.at_, .int .u64 m2.seed], 3⟩, ⟨B3, 3, (r_2.Rows.flatMap encI), c3 * 1⟩, ⟨some ⟨b1, 0, none⟩, 50, [.slice none 0 0], 1⟩] [⟨B1, (c.code.flatMap enc_u8)⟩] := hS4
  refine ss0 rfl rfl (Ys_store (i := 3) (s := 1) (B := some ⟨b1, 0, none⟩) (T' := 50) (v := .agg #[.slice B3 r_2.Rows.length c3]) (vs := [.slice B3 r_2.Rows.length c3]) (k := 0) (cs' := [.slice B3 r_2.Rows.length c3]) hS4 k_sz_50_1 rfl rfl rfl rfl rfl rfl rfl (Nat.le_of_ble_eq_true rfl) rfl rfl) ?_
  rintro _ w_4 ⟨rfl, hS5⟩
  have hS5 : ST w0 (bl [⟨B, 87, [.slice B1 c.code.length c1, .int .i64 c.at_, .int .u64 c.seed], 3⟩]) _ [⟨some ⟨b, 0, none⟩, 50, [.slice none 0 0], 1⟩, ⟨B, 87, [.slice B1 c.code.length c1, .int .i64 m2.at_, .int .u64 m2.seed], 3⟩, ⟨B3, 3, (r_2.Rows.flatMap encI), c3 * 1⟩, ⟨some ⟨b1, 0, none⟩, 50, [.slice B3 r_2.Rows.length c3], 1⟩] [⟨B1, (c.code.flatMap enc_u8)⟩] := hS5
  refine rw_nil ?_
  refine cw_seq ?_
  obtain ⟨z, hz, hF1⟩ := bind_inv hF
  refine cw_mid (fun f w => ∃ (at_ : Int) (seed : Int) (Rows : List Int) (B4 : Option Addr) (c4 : Nat), (at_, seed, Rows) = z ∧ FF f [(2, pt (some ⟨b, 0, none⟩) 0), (3, pt (some ⟨b1, 0, none⟩) 0)] ∧ Org w0 (bl [⟨B, 87, [.slice B1 c.code.length c1, .int .i64 c.at_, .int .u64 c.seed], 3⟩]) [⟨B1, (c.code.flatMap enc_u8)⟩] [⟨B4, (Rows.flatMap encI)⟩] ∧ Rows.length ≤ c4 ∧ ST w0 (bl [⟨B, 87, [.slice B1 c.code.length c1, .int .i64 c.at_, .int .u64 c.seed], 3⟩]) w [⟨B, 87, [.slice B1 c.code.length c1, .int .i64 at_, .int .u64 seed], 3⟩, ⟨some ⟨b, 0, none⟩, 50, [.slice none 0 0], 1⟩, ⟨some ⟨b1, 0, none⟩, 50, [.slice B4 Rows.length c4], 1⟩] [⟨B4, (Rows.flatMap encI)⟩, ⟨B1, (c.code.flatMap enc_u8)⟩]) ?_ ?_
  · skip
    refine cw_seq ?_
    refine cw_region ?_
    refine sq 9 rfl rfl (Y_move (v := pt B 0) rfl rfl) ?_
    obtain ⟨⟨r_3, m3⟩, hc2, hz⟩ := bind_inv hz
    refine sc 10 rfl rfl (Yc_func (g := 69) (vs := [pt B 0, .int .i64 12]) k_call_69 rfl (mc rfl (mc rfl mn)) (c_spec_l1Cur_pick (Tl1Cur.mk c.code m2.at_ m2.seed) 12 B B1 c1 c.code.length _ rfl (hS5.inn [false, true, false, false] rfl [(true, 0)] rfl) hc2)) ?_
    rintro _ w_5 ⟨rfl, hd2⟩
    have hS7 := hS5.out [false, true, false, false] rfl hd2
    have hS7 : ST w0 (bl [⟨B, 87, [.slice B1 c.code.length c1, .int .i64 c.at_, .int .u64 c.seed], 3⟩]) _ [⟨some ⟨b, 0, none⟩, 50, [.slice none 0 0], 1⟩, ⟨B3, 3, (r_2.Rows.flatMap encI), c3 * 1⟩, ⟨some ⟨b1, 0, none⟩, 50, [.slice B3 r_2.Rows.length c3], 1⟩, ⟨B, 87, [.slice B1 c.code.length c1, .int .i64 m3.at_, .int .u64 m3.seed], 3⟩] [⟨B1, (c.code.flatMap enc_u8)⟩] := hS7
    refine rw_nil ?_
    refine cw_block ?_
    refine cw_seq ?_
    refine cw_region ?_
    refine sq 12 rfl rfl (Y_eq (k := .i64) (a := r_3) (b := 0) rfl rfl rfl) ?_
    refine sq 11 rfl rfl (Y_assign (v := .bool (r_3 == 0)) rfl rfl) ?_
    refine rw_nil ?_
    refine cw_cond (b := (r_3 == 0)) rfl (fun hb => ?_) (fun hb => ?_)
    · skip
      have hF2 := ct hz hb
      obtain ⟨⟨r_4, m4⟩, hc3, hF2⟩ := bind_inv hF2
      obtain ⟨x, hx, hF2⟩ := bind_inv hF2
      refine ra_start (ST.sel hS7 [0, 2] rfl rfl).fn (by kernel_rfl) ?_
      have hS9 := hS7.drew
      refine ra_q 0 13 (v := pt (some ⟨b1, 0, none⟩) 0) rfl rfl rfl (by kernel_rfl) (by kernel_rfl) (by kernel_rfl) (ST.sel hS9 [0, 2] rfl rfl) (fun w' hw' => (Y_fieldAddr (B := some ⟨b1, 0, none⟩) (i := 0) (s := 0) k_fd_50_0_0_48 k_sz_48_1 rfl rfl)) ?_
      refine ra_q 1 14 (v := .slice B3 r_2.Rows.length c3) rfl rfl rfl (by kernel_rfl) (by kernel_rfl) (by kernel_rfl) (ST.sel hS9 [0, 2] rfl rfl) (fun w' hw' => (Y_load1 (B := some ⟨b1, 0, none⟩) (i := 0) (cs := [.slice B3 r_2.Rows.length c3]) (v := .slice B3 r_2.Rows.length c3) k_sc_48 rfl rfl (ST.cf hw' (i := 1) rfl) rfl)) ?_
      refine ra_q 2 15 (v := pt B 0) rfl rfl rfl (by kernel_rfl) (by kernel_rfl) (by kernel_rfl) (ST.sel hS9 [0, 2] rfl rfl) (fun w' hw' => (Y_move (v := pt B 0) rfl rfl)) ?_
      refine ra_all (rs := [3]) (by kernel_rfl) rfl ?_
      refine ra_s 16 (i := 3) rfl rfl rfl (Ys_bslice (s := 1) (len := 5) (vs := [(0, .int .i64 (-1)), (1, .int .i64 0), (2, .int .i64 31), (3, .int .i64 32), (4, .int .i64 3)]) (cs := [.int .i64 (-1), .int .i64 0, .int .i64 31, .int .i64 32, .int .i64 3]) (zs := [.int .i64 0, .int .i64 0, .int .i64 0, .int .i64 0, .int .i64 0]) (m := 5) hS9 k_sl_48_3 k_sz_3_1 k_zc_3 rfl (mpc rfl (mpc rfl (mpc rfl (mpc rfl (mpc rfl mpn))))) rfl rfl rfl (by kernel_rfl) (by kernel_rfl) rfl) ?_ ?_
      · rintro _ w_6 ⟨b2, rfl, hS10⟩
        have hS10 : ST w0 (bl [⟨B, 87, [.slice B1 c.code.length c1, .int .i64 c.at_, .int .u64 c.seed], 3⟩]) _ [⟨some ⟨b, 0, none⟩, 50, [.slice none 0 0], 1⟩, ⟨B3, 3, (r_2.Rows.flatMap encI), c3 * 1⟩, ⟨some ⟨b1, 0, none⟩, 50, [.slice B3 r_2.Rows.length c3], 1⟩, ⟨B, 87, [.slice B1 c.code.length c1, .int .i64 m3.at_, .int .u64 m3.seed], 3⟩, ⟨some ⟨b2, 0, none⟩, 3, ([(-1), 0, 31, 32, 3].flatMap encI), 5 * 1⟩] [⟨B1, (c.code.flatMap enc_u8)⟩] := hS10
        refine ⟨(ST.sel hS10 [0, 2] rfl rfl), ?_⟩
        refine ra_all (rs := [4]) (by kernel_rfl) rfl ?_
        refine ra_c 17 (i := 4) rfl rfl rfl (Yc_func (g := 53) (vs := [pt B 0, .slice (some ⟨b2, 0, none⟩) 5 5]) k_call_53 rfl (mc rfl (mc rfl mn)) (c_spec_l1Cur_among (Tl1Cur.mk c.code m3.at_ m3.seed) [(-1), 0, 31, 32, 3] B B1 c1 c.code.length (some ⟨b2, 0, none⟩) 5 5 _ rfl rfl (hS10.inn [false, false, false, true, false] rfl [(true, 0), (false, 3)] rfl) hc3)) ?_ ?_
        · rintro _ w_7 ⟨rfl, hd3⟩
          have hS11 := hS10.out [false, false, false, true, false] rfl hd3
          have hS11 : ST w0 (bl [⟨B, 87, [.slice B1 c.code.length c1, .int .i64 c.at_, .int .u64 c.seed], 3⟩]) _ [⟨some ⟨b, 0, none⟩, 50, [.slice none 0 0], 1⟩, ⟨B3, 3, (r_2.Rows.flatMap encI), c3 * 1⟩, ⟨some ⟨b1, 0, none⟩, 50, [.slice B3 r_2.Rows.length c3], 1⟩, ⟨some ⟨b2, 0, none⟩, 3, ([(-1), 0, 31, 32, 3].flatMap encI), 5 * 1⟩, ⟨B, 87, [.slice B1 c.code.length c1, .int .i64 m4.at_, .int .u64 m4.seed], 3⟩] [⟨B1, (c.code.flatMap enc_u8)⟩] := hS11
          refine ⟨(ST.sel hS11 [0, 2] rfl rfl), ?_⟩
          refine ra_all (rs := [5]) (by kernel_rfl) rfl ?_
          refine ra_y 18 (i := 5) (v := pt B3 ((0 : Int).toNat * 1)) rfl rfl rfl (Y_index (B := B3) (m := r_2.Rows.length) (c := c3) (k := .i64) (i := 0) k_sl_48_3 k_sz_3_1 rfl rfl rfl (gi_isSome encI_len rfl (hS11.cf (i := 1) rfl) hx) (getI_nn hx) (getI_ltI hx rfl)) (ST.sel hS11 [0, 2] rfl rfl) ?_ ?_
          · skip
            refine ra_all (rs := [6]) (by kernel_rfl) rfl ?_
            refine ra_s0 (i := 6) rfl rfl rfl (Ys_store (i := 1) (s := 1) (B := B3) (T' := 3) (v := .int .i64 r_4) (vs := [.int .i64 r_4]) (k := (0 : Int).toNat * 1) (cs' := ((r_2.Rows.set (0 : Int).toNat r_4).flatMap encI)) hS11 k_sz_3_1 rfl rfl rfl rfl rfl rfl rfl (gi_fit0 encI_len hx) (gi_set encI_len hx r_4 rfl) rfl) ?_ ?_
            · rintro _ w_8 ⟨rfl, hS12⟩
              have hS12 : ST w0 (bl [⟨B, 87, [.slice B1 c.code.length c1, .int .i64 c.at_, .int .u64 c.seed], 3⟩]) _ [⟨some ⟨b, 0, none⟩, 50, [.slice none 0 0], 1⟩, ⟨B3, 3, ((r_2.Rows.set (0 : Int).toNat r_4).flatMap encI), c3 * 1⟩, ⟨some ⟨b1, 0, none⟩, 50, [.slice B3 r_2.Rows.length c3], 1⟩, ⟨some ⟨b2, 0, none⟩, 3, ([(-1), 0, 31, 32, 3].flatMap encI), 5 * 1⟩, ⟨B, 87, [.slice B1 c.code.length c1, .int .i64 m4.at_, .int .u64 m4.seed], 3⟩] [⟨B1, (c.code.flatMap enc_u8)⟩] := hS12
              refine ⟨(ST.sel hS12 [0, 2] rfl rfl), ?_⟩
              refine ra_done (by kernel_rfl) ?_
              have ho1 : Org w0 (bl [⟨B, 87, [.slice B1 c.code.length c1, .int .i64 c.at_, .int .u64 c.seed], 3⟩]) [⟨B1, (c.code.flatMap enc_u8)⟩] [⟨B3, ((r_2.Rows.set (0 : Int).toNat r_4).flatMap encI)⟩] := ST.orgOwn hS12 (i := 1) rfl
              have hcap : r_2.Rows.length ≤ c3 := (hS12.lencap (i := 1) rfl (fm_lenn (l := (r_2.Rows.set (0 : Int).toNat r_4)) encI_len (set_len _ _ _ rfl)) rfl rfl)
              have hS13 : ST w0 (bl [⟨B, 87, [.slice B1 c.code.length c1, .int .i64 c.at_, .int .u64 c.seed], 3⟩]) _ [⟨some ⟨b, 0, none⟩, 50, [.slice none 0 0], 1⟩, ⟨some ⟨b1, 0, none⟩, 50, [.slice B3 r_2.Rows.length c3], 1⟩, ⟨some ⟨b2, 0, none⟩, 3, ([(-1), 0, 31, 32, 3].flatMap encI), 5 * 1⟩, ⟨B, 87, [.slice B1 c.code.length c1, .int .i64 m4.at_, .int .u64 m4.seed], 3⟩] [⟨B3, ((r_2.Rows.set (0 : Int).toNat r_4).flatMap encI)⟩, ⟨B1, (c.code.flatMap enc_u8)⟩] := hS12.freeze (i := 1) rfl
              exact ⟨m4.at_, m4.seed, (r_2.Rows.set (0 : Int).toNat r_4), B3, c3, (some_inj hF2), (FF.cons rfl (FF.cons rfl FF.nil)), ho1, (len_le (set_len _ _ _ rfl) hcap), (by rw [((set_len _ _ _ rfl) : (r_2.Rows.set (0 : Int).toNat r_4).length = r_2.Rows.length)]; exact hS13.sel [3, 0, 1] rfl rfl)⟩
            exact allR_nil
          exact allR_nil
        exact allR_nil
      exact allR_nil
    · skip
      have hF3 := cf' hz hb
      refine cw_seq ?_
      refine cw_region ?_
      refine sq 20 rfl rfl (Y_eq (k := .i64) (a := r_3) (b := 1) rfl rfl rfl) ?_
      refine sq 19 rfl rfl (Y_assign (v := .bool (r_3 == 1)) rfl rfl) ?_
      refine rw_nil ?_
      refine cw_cond (b := (r_3 == 1)) rfl (fun hb1 => ?_) (fun hb1 => ?_)
      · skip
        have hF4 := ct hF3 hb1
        obtain ⟨⟨r_5, m5⟩, hc4, hF4⟩ := bind_inv hF4
        obtain ⟨hap, hF4⟩ := chk_inv hF4
        refine cw_mid (fun f w => ∃ (B6 : Option Addr) (c6 : Nat), FF f [(2, pt (some ⟨b, 0, none⟩) 0), (3, pt (some ⟨b1, 0, none⟩) 0)] ∧ ST w0 (bl [⟨B, 87, [.slice B1 c.code.length c1, .int .i64 c.at_, .int .u64 c.seed], 3⟩]) w [⟨B, 87, [.slice B1 c.code.length c1, .int .i64 m5.at_, .int .u64 m5.seed], 3⟩, ⟨some ⟨b, 0, none⟩, 50, [.slice none 0 0], 1⟩, ⟨some ⟨b1, 0, none⟩, 50, [.slice B6 ((r_2.Rows ++ [r_5]).length) c6], 1⟩, ⟨B6, 3, ((r_2.Rows ++ [r_5]).flatMap encI), c6 * 1⟩] [⟨B1, (c.code.flatMap enc_u8)⟩]) ?_ ?_
        · skip
          refine ra_start (ST.sel hS7 [0] rfl rfl).fn (by kernel_rfl) ?_
          have hS16 := hS7.drew
          refine ra_q 0 21 (v := pt (some ⟨b1, 0, none⟩) 0) rfl rfl rfl (by kernel_rfl) (by kernel_rfl) (by kernel_rfl) (ST.sel hS16 [0] rfl rfl) (fun w' hw' => (Y_fieldAddr (B := some ⟨b1, 0, none⟩) (i := 0) (s := 0) k_fd_50_0_0_48 k_sz_48_1 rfl rfl)) ?_
          refine ra_q 2 23 (v := pt B 0) rfl rfl rfl (by kernel_rfl) (by kernel_rfl) (by kernel_rfl) (ST.sel hS16 [0] rfl rfl) (fun w' hw' => (Y_move (v := pt B 0) rfl rfl)) ?_
          refine ra_all (rs := [1, 3]) (by kernel_rfl) rfl ?_
          refine ra_y 22 (i := 1) (v := .slice B3 r_2.Rows.length c3) rfl rfl rfl (Y_load1 (B := some ⟨b1, 0, none⟩) (i := 0) (cs := [.slice B3 r_2.Rows.length c3]) (v := .slice B3 r_2.Rows.length c3) k_sc_48 rfl rfl (hS16.cf (i := 2) rfl) rfl) (ST.sel hS16 [0] rfl rfl) ?_ ?_
          · skip
            refine ra_all (rs := [3]) (by kernel_rfl) rfl ?_
            refine ra_c 24 (i := 3) rfl rfl rfl (Yc_func (g := 69) (vs := [pt B 0, .int .i64 70]) k_call_69 rfl (mc rfl (mc rfl mn)) (c_spec_l1Cur_pick (Tl1Cur.mk c.code m3.at_ m3.seed) 70 B B1 c1 c.code.length _ rfl (hS16.inn [false, false, false, true] rfl [(true, 0)] rfl) hc4)) ?_ ?_
            · rintro _ w_9 ⟨rfl, hd4⟩
              have hS17 := hS16.out [false, false, false, true] rfl hd4
              have hS17 : ST w0 (bl [⟨B, 87, [.slice B1 c.code.length c1, .int .i64 c.at_, .int .u64 c.seed], 3⟩]) _ [⟨some ⟨b, 0, none⟩, 50, [.slice none 0 0], 1⟩, ⟨B3, 3, (r_2.Rows.flatMap encI), c3 * 1⟩, ⟨some ⟨b1, 0, none⟩, 50, [.slice B3 r_2.Rows.length c3], 1⟩, ⟨B, 87, [.slice B1 c.code.length c1, .int .i64 m5.at_, .int .u64 m5.seed], 3⟩] [⟨B1, (c.code.flatMap enc_u8)⟩] := hS17
              refine ⟨(ST.sel hS17 [0] rfl rfl), ?_⟩
              refine ra_all (rs := [4]) (by kernel_rfl) rfl ?_
              refine ra_s 25 (i := 4) rfl rfl rfl (Ys_bslice (s := 1) (len := 1) (vs := [(0, .int .i64 r_5)]) (cs := [.int .i64 r_5]) (zs := [.int .i64 0]) (m := 1) hS17 k_sl_48_3 k_sz_3_1 k_zc_3 rfl (mpc rfl mpn) rfl rfl rfl (by kernel_rfl) (by kernel_rfl) rfl) ?_ ?_
              · rintro _ w_10 ⟨b3, rfl, hS18⟩
                have hS18 : ST w0 (bl [⟨B, 87, [.slice B1 c.code.length c1, .int .i64 c.at_, .int .u64 c.seed], 3⟩]) _ [⟨some ⟨b, 0, none⟩, 50, [.slice none 0 0], 1⟩, ⟨B3, 3, (r_2.Rows.flatMap encI), c3 * 1⟩, ⟨some ⟨b1, 0, none⟩, 50, [.slice B3 r_2.Rows.length c3], 1⟩, ⟨B, 87, [.slice B1 c.code.length c1, .int .i64 m5.at_, .int .u64 m5.seed], 3⟩, ⟨some ⟨b3, 0, none⟩, 3, ([r_5].flatMap encI), 1 * 1⟩] [⟨B1, (c.code.flatMap enc_u8)⟩] := hS18
                refine ⟨(ST.sel hS18 [0] rfl rfl), ?_⟩
                refine ra_all (rs := [5]) (by kernel_rfl) rfl ?_
                refine ra_s 26 (i := 5) rfl rfl rfl (Ys_append (s := 1) (by' := 8) (i := 1) (nn := r_2.Rows.length) (c := c3) (k := 1) (len := (r_2.Rows ++ [r_5]).length) (B := B3) (xs := ([r_5].flatMap encI)) (cs' := ((r_2.Rows ++ [r_5]).flatMap encI)) hS18 k_sl_48_3 k_sz_3_1 k_by_3_8 k_zero_3 rfl (by decide) rfl rfl rfl rfl (fm_lenn (l := r_2.Rows) encI_len rfl) rfl (hS18.cf (i := 4) rfl) (fm_lenn (l := [r_5]) encI_len rfl) (fm_one' (enc := encI) encI_one [r_5]) (by have := hap; omega) (by have := hap; simp only [maxLen]; omega) (fm_app _ _) (app_len (l := r_2.Rows) (l' := [r_5]) rfl rfl)) ?_ ?_
                · rintro _ w_11 ⟨B5, c5, rfl, hS19⟩
                  have hS19 : ST w0 (bl [⟨B, 87, [.slice B1 c.code.length c1, .int .i64 c.at_, .int .u64 c.seed], 3⟩]) _ [⟨some ⟨b, 0, none⟩, 50, [.slice none 0 0], 1⟩, ⟨B5, 3, ((r_2.Rows ++ [r_5]).flatMap encI), c5 * 1⟩, ⟨some ⟨b1, 0, none⟩, 50, [.slice B3 r_2.Rows.length c3], 1⟩, ⟨B, 87, [.slice B1 c.code.length c1, .int .i64 m5.at_, .int .u64 m5.seed], 3⟩, ⟨some ⟨b3, 0, none⟩, 3, ([r_5].flatMap encI), 1 * 1⟩] [⟨B1, (c.code.flatMap enc_u8)⟩] := hS19
                  refine ⟨(ST.sel hS19 [0] rfl rfl), ?_⟩
                  refine ra_q 6 27 (v := pt (some ⟨b1, 0, none⟩) 0) rfl rfl rfl (by kernel_rfl) (by kernel_rfl) (by kernel_rfl) (ST.sel hS19 [0] rfl rfl) (fun w' hw' => (Y_fieldAddr (B := some ⟨b1, 0, none⟩) (i := 0) (s := 0) k_fd_50_0_0_48 k_sz_48_1 rfl rfl)) ?_
                  refine ra_all (rs := [7]) (by kernel_rfl) rfl ?_
                  refine ra_s0 (i := 7) rfl rfl rfl (Ys_store (i := 2) (s := 1) (B := some ⟨b1, 0, none⟩) (T' := 50) (v := .slice B5 ((r_2.Rows ++ [r_5]).length) c5) (vs := [.slice B5 ((r_2.Rows ++ [r_5]).length) c5]) (k := 0) (cs' := [.slice B5 ((r_2.Rows ++ [r_5]).length) c5]) hS19 k_sz_48_1 rfl rfl rfl rfl rfl rfl rfl (Nat.le_of_ble_eq_true rfl) rfl rfl) ?_ ?_
                  · rintro _ w_12 ⟨rfl, hS20⟩
                    have hS20 : ST w0 (bl [⟨B, 87, [.slice B1 c.code.length c1, .int .i64 c.at_, .int .u64 c.seed], 3⟩]) _ [⟨some ⟨b, 0, none⟩, 50, [.slice none 0 0], 1⟩, ⟨B5, 3, ((r_2.Rows ++ [r_5]).flatMap encI), c5 * 1⟩, ⟨some ⟨b1, 0, none⟩, 50, [.slice B5 ((r_2.Rows ++ [r_5]).length) c5], 1⟩, ⟨B, 87, [.slice B1 c.code.length c1, .int .i64 m5.at_, .int .u64 m5.seed], 3⟩, ⟨some ⟨b3, 0, none⟩, 3, ([r_5].flatMap encI), 1 * 1⟩] [⟨B1, (c.code.flatMap enc_u8)⟩] := hS20
                    refine ⟨(ST.sel hS20 [0] rfl rfl), ?_⟩
                    refine ra_done (by kernel_rfl) ?_
                    exact ⟨B5, c5, (FF.cons rfl (FF.cons rfl FF.nil)), (hS20.sel [3, 0, 2, 1] rfl rfl)⟩
                  exact allR_nil
                exact allR_nil
              exact allR_nil
            exact allR_nil
          refine ra_c 24 (i := 3) rfl rfl rfl (Yc_func (g := 69) (vs := [pt B 0, .int .i64 70]) k_call_69 rfl (mc rfl (mc rfl mn)) (c_spec_l1Cur_pick (Tl1Cur.mk c.code m3.at_ m3.seed) 70 B B1 c1 c.code.length _ rfl (hS16.inn [false, false, false, true] rfl [(true, 0)] rfl) hc4)) ?_ ?_
          · rintro _ w_13 ⟨rfl, hd5⟩
            have hS21 := hS16.out [false, false, false, true] rfl hd5
            have hS21 : ST w0 (bl [⟨B, 87, [.slice B1 c.code.length c1, .int .i64 c.at_, .int .u64 c.seed], 3⟩]) _ [⟨some ⟨b, 0, none⟩, 50, [.slice none 0 0], 1⟩, ⟨B3, 3, (r_2.Rows.flatMap encI), c3 * 1⟩, ⟨some ⟨b1, 0, none⟩, 50, [.slice B3 r_2.Rows.length c3], 1⟩, ⟨B, 87, [.slice B1 c.code.length c1, .int .i64 m5.at_, .int .u64 m5.seed], 3⟩] [⟨B1, (c.code.flatMap enc_u8)⟩] := hS21
            refine ⟨(ST.sel hS21 [0] rfl rfl), ?_⟩
            refine ra_all (rs := [1, 4]) (by kernel_rfl) rfl ?_
            refine ra_y 22 (i := 1) (v := .slice B3 r_2.Rows.length c3) rfl rfl rfl (Y_load1 (B := some ⟨b1, 0, none⟩) (i := 0) (cs := [.slice B3 r_2.Rows.length c3]) (v := .slice B3 r_2.Rows.length c3) k_sc_48 rfl rfl (hS21.cf (i := 2) rfl) rfl) (ST.sel hS21 [0] rfl rfl) ?_ ?_
            · skip
              refine ra_all (rs := [4]) (by kernel_rfl) rfl ?_
              refine ra_s 25 (i := 4) rfl rfl rfl (Ys_bslice (s := 1) (len := 1) (vs := [(0, .int .i64 r_5)]) (cs := [.int .i64 r_5]) (zs := [.int .i64 0]) (m := 1) hS21 k_sl_48_3 k_sz_3_1 k_zc_3 rfl (mpc rfl mpn) rfl rfl rfl (by kernel_rfl) (by kernel_rfl) rfl) ?_ ?_
              · rintro _ w_14 ⟨b3, rfl, hS22⟩
                have hS22 : ST w0 (bl [⟨B, 87, [.slice B1 c.code.length c1, .int .i64 c.at_, .int .u64 c.seed], 3⟩]) _ [⟨some ⟨b, 0, none⟩, 50, [.slice none 0 0], 1⟩, ⟨B3, 3, (r_2.Rows.flatMap encI), c3 * 1⟩, ⟨some ⟨b1, 0, none⟩, 50, [.slice B3 r_2.Rows.length c3], 1⟩, ⟨B, 87, [.slice B1 c.code.length c1, .int .i64 m5.at_, .int .u64 m5.seed], 3⟩, ⟨some ⟨b3, 0, none⟩, 3, ([r_5].flatMap encI), 1 * 1⟩] [⟨B1, (c.code.flatMap enc_u8)⟩] := hS22
                refine ⟨(ST.sel hS22 [0] rfl rfl), ?_⟩
                refine ra_all (rs := [5]) (by kernel_rfl) rfl ?_
                refine ra_s 26 (i := 5) rfl rfl rfl (Ys_append (s := 1) (by' := 8) (i := 1) (nn := r_2.Rows.length) (c := c3) (k := 1) (len := (r_2.Rows ++ [r_5]).length) (B := B3) (xs := ([r_5].flatMap encI)) (cs' := ((r_2.Rows ++ [r_5]).flatMap encI)) hS22 k_sl_48_3 k_sz_3_1 k_by_3_8 k_zero_3 rfl (by decide) rfl rfl rfl rfl (fm_lenn (l := r_2.Rows) encI_len rfl) rfl (hS22.cf (i := 4) rfl) (fm_lenn (l := [r_5]) encI_len rfl) (fm_one' (enc := encI) encI_one [r_5]) (by have := hap; omega) (by have := hap; simp only [maxLen]; omega) (fm_app _ _) (app_len (l := r_2.Rows) (l' := [r_5]) rfl rfl)) ?_ ?_
                · rintro _ w_15 ⟨B5, c5, rfl, hS23⟩
                  have hS23 : ST w0 (bl [⟨B, 87, [.slice B1 c.code.length c1, .int .i64 c.at_, .int .u64 c.seed], 3⟩]) _ [⟨some ⟨b, 0, none⟩, 50, [.slice none 0 0], 1⟩, ⟨B5, 3, ((r_2.Rows ++ [r_5]).flatMap encI), c5 * 1⟩, ⟨some ⟨b1, 0, none⟩, 50, [.slice B3 r_2.Rows.length c3], 1⟩, ⟨B, 87, [.slice B1 c.code.length c1, .int .i64 m5.at_, .int .u64 m5.seed], 3⟩, ⟨some ⟨b3, 0, none⟩, 3, ([r_5].flatMap encI), 1 * 1⟩] [⟨B1, (c.code.flatMap enc_u8)⟩] := hS23
                  refine ⟨(ST.sel hS23 [0] rfl rfl), ?_⟩
                  refine ra_q 6 27 (v := pt (some ⟨b1, 0, none⟩) 0) rfl rfl rfl (by kernel_rfl) (by kernel_rfl) (by kernel_rfl) (ST.sel hS23 [0] rfl rfl) (fun w' hw' => (Y_fieldAddr (B := some ⟨b1, 0, none⟩) (i := 0) (s := 0) k_fd_50_0_0_48 k_sz_48_1 rfl rfl)) ?_
                  refine ra_all (rs := [7]) (by kernel_rfl) rfl ?_
                  refine ra_s0 (i := 7) rfl rfl rfl (Ys_store (i := 2) (s := 1) (B := some ⟨b1, 0, none⟩) (T' := 50) (v := .slice B5 ((r_2.Rows ++ [r_5]).length) c5) (vs := [.slice B5 ((r_2.Rows ++ [r_5]).length) c5]) (k := 0) (cs' := [.slice B5 ((r_2.Rows ++ [r_5]).length) c5]) hS23 k_sz_48_1 rfl rfl rfl rfl rfl rfl rfl (Nat.le_of_ble_eq_true rfl) rfl rfl) ?_ ?_
                  · rintro _ w_16 ⟨rfl, hS24⟩
                    have hS24 : ST w0 (bl [⟨B, 87, [.slice B1 c.code.length c1, .int .i64 c.at_, .int .u64 c.seed], 3⟩]) _ [⟨some ⟨b, 0, none⟩, 50, [.slice none 0 0], 1⟩, ⟨B5, 3, ((r_2.Rows ++ [r_5]).flatMap encI), c5 * 1⟩, ⟨some ⟨b1, 0, none⟩, 50, [.slice B5 ((r_2.Rows ++ [r_5]).length) c5], 1⟩, ⟨B, 87, [.slice B1 c.code.length c1, .int .i64 m5.at_, .int .u64 m5.seed], 3⟩, ⟨some ⟨b3, 0, none⟩, 3, ([r_5].flatMap encI), 1 * 1⟩] [⟨B1, (c.code.flatMap enc_u8)⟩] := hS24
                    refine ⟨(ST.sel hS24 [0] rfl rfl), ?_⟩
                    refine ra_done (by kernel_rfl) ?_
                    exact ⟨B5, c5, (FF.cons rfl (FF.cons rfl FF.nil)), (hS24.sel [3, 0, 2, 1] rfl rfl)⟩
                  exact allR_nil
                exact allR_nil
              exact allR_nil
            refine ra_s 25 (i := 4) rfl rfl rfl (Ys_bslice (s := 1) (len := 1) (vs := [(0, .int .i64 r_5)]) (cs := [.int .i64 r_5]) (zs := [.int .i64 0]) (m := 1) hS21 k_sl_48_3 k_sz_3_1 k_zc_3 rfl (mpc rfl mpn) rfl rfl rfl (by kernel_rfl) (by kernel_rfl) rfl) ?_ ?_
            · rintro _ w_17 ⟨b3, rfl, hS25⟩
              have hS25 : ST w0 (bl [⟨B, 87, [.slice B1 c.code.length c1, .int .i64 c.at_, .int .u64 c.seed], 3⟩]) _ [⟨some ⟨b, 0, none⟩, 50, [.slice none 0 0], 1⟩, ⟨B3, 3, (r_2.Rows.flatMap encI), c3 * 1⟩, ⟨some ⟨b1, 0, none⟩, 50, [.slice B3 r_2.Rows.length c3], 1⟩, ⟨B, 87, [.slice B1 c.code.length c1, .int .i64 m5.at_, .int .u64 m5.seed], 3⟩, ⟨some ⟨b3, 0, none⟩, 3, ([r_5].flatMap encI), 1 * 1⟩] [⟨B1, (c.code.flatMap enc_u8)⟩] := hS25
              refine ⟨(ST.sel hS25 [0] rfl rfl), ?_⟩
              refine ra_all (rs := [1]) (by kernel_rfl) rfl ?_
              refine ra_y 22 (i := 1) (v := .slice B3 r_2.Rows.length c3) rfl rfl rfl (Y_load1 (B := some ⟨b1, 0, none⟩) (i := 0) (cs := [.slice B3 r_2.Rows.length c3]) (v := .slice B3 r_2.Rows.length c3) k_sc_48 rfl rfl (hS25.cf (i := 2) rfl) rfl) (ST.sel hS25 [0] rfl rfl) ?_ ?_
              · skip
                refine ra_all (rs := [5]) (by kernel_rfl) rfl ?_
                refine ra_s 26 (i := 5) rfl rfl rfl (Ys_append (s := 1) (by' := 8) (i := 1) (nn := r_2.Rows.length) (c := c3) (k := 1) (len := (r_2.Rows ++ [r_5]).length) (B := B3) (xs := ([r_5].flatMap encI)) (cs' := ((r_2.Rows ++ [r_5]).flatMap encI)) hS25 k_sl_48_3 k_sz_3_1 k_by_3_8 k_zero_3 rfl (by decide) rfl rfl rfl rfl (fm_lenn (l := r_2.Rows) encI_len rfl) rfl (hS25.cf (i := 4) rfl) (fm_lenn (l := [r_5]) encI_len rfl) (fm_one' (enc := encI) encI_one [r_5]) (by have := hap; omega) (by have := hap; simp only [maxLen]; omega) (fm_app _ _) (app_len (l := r_2.Rows) (l' := [r_5]) rfl rfl)) ?_ ?_
                · rintro _ w_18 ⟨B5, c5, rfl, hS26⟩
                  have hS26 : ST w0 (bl [⟨B, 87, [.slice B1 c.code.length c1, .int .i64 c.at_, .int .u64 c.seed], 3⟩]) _ [⟨some ⟨b, 0, none⟩, 50, [.slice none 0 0], 1⟩, ⟨B5, 3, ((r_2.Rows ++ [r_5]).flatMap encI), c5 * 1⟩, ⟨some ⟨b1, 0, none⟩, 50, [.slice B3 r_2.Rows.length c3], 1⟩, ⟨B, 87, [.slice B1 c.code.length c1, .int .i64 m5.at_, .int .u64 m5.seed], 3⟩, ⟨some ⟨b3, 0, none⟩, 3, ([r_5].flatMap encI), 1 * 1⟩] [⟨B1, (c.code.flatMap enc_u8)⟩] := hS26
                  refine ⟨(ST.sel hS26 [0] rfl rfl), ?_⟩
                  refine ra_q 6 27 (v := pt (some ⟨b1, 0, none⟩) 0) rfl rfl rfl (by kernel_rfl) (by kernel_rfl) (by kernel_rfl) (ST.sel hS26 [0] rfl rfl) (fun w' hw' => (Y_fieldAddr (B := some ⟨b1, 0, none⟩) (i := 0) (s := 0) k_fd_50_0_0_48 k_sz_48_1 rfl rfl)) ?_
                  refine ra_all (rs := [7]) (by kernel_rfl) rfl ?_
                  refine ra_s0 (i := 7) rfl rfl rfl (Ys_store (i := 2) (s := 1) (B := some ⟨b1, 0, none⟩) (T' := 50) (v := .slice B5 ((r_2.Rows ++ [r_5]).length) c5) (vs := [.slice B5 ((r_2.Rows ++ [r_5]).length) c5]) (k := 0) (cs' := [.slice B5 ((r_2.Rows ++ [r_5]).length) c5]) hS26 k_sz_48_1 rfl rfl rfl rfl rfl rfl rfl (Nat.le_of_ble_eq_true rfl) rfl rfl) ?_ ?_
                  · rintro _ w_19 ⟨rfl, hS27⟩
                    have hS27 : ST w0 (bl [⟨B, 87, [.slice B1 c.code.length c1, .int .i64 c.at_, .int .u64 c.seed], 3⟩]) _ [⟨some ⟨b, 0, none⟩, 50, [.slice none 0 0], 1⟩, ⟨B5, 3, ((r_2.Rows ++ [r_5]).flatMap encI), c5 * 1⟩, ⟨some ⟨b1, 0, none⟩, 50, [.slice B5 ((r_2.Rows ++ [r_5]).length) c5], 1⟩, ⟨B, 87, [.slice B1 c.code.length c1, .int .i64 m5.at_, .int .u64 m5.seed], 3⟩, ⟨some ⟨b3, 0, none⟩, 3, ([r_5].flatMap encI), 1 * 1⟩] [⟨B1, (c.code.flatMap enc_u8)⟩] := hS27
                    refine ⟨(ST.sel hS27 [0] rfl rfl), ?_⟩
                    refine ra_done (by kernel_rfl) ?_
                    exact ⟨B5, c5, (FF.cons rfl (FF.cons rfl FF.nil)), (hS27.sel [3, 0, 2, 1] rfl rfl)⟩
                  exact allR_nil
                exact allR_nil
              exact allR_nil
            exact allR_nil
          exact allR_nil
        rintro f w ⟨B6, c6, hf1, hS15⟩
        have ho2 : Org w0 (bl [⟨B, 87, [.slice B1 c.code.length c1, .int .i64 c.at_, .int .u64 c.seed], 3⟩]) [⟨B1, (c.code.flatMap enc_u8)⟩] [⟨B6, ((r_2.Rows ++ [r_5]).flatMap encI)⟩] := ST.orgOwn hS15 (i := 3) rfl
        have hcap1 : (r_2.Rows ++ [r_5]).length ≤ c6 := (hS15.lencap (i := 3) rfl (fm_lenn (l := (r_2.Rows ++ [r_5])) encI_len rfl) rfl rfl)
        have hS28 : ST w0 (bl [⟨B, 87, [.slice B1 c.code.length c1, .int .i64 c.at_, .int .u64 c.seed], 3⟩]) _ [⟨B, 87, [.slice B1 c.code.length c1, .int .i64 m5.at_, .int .u64 m5.seed], 3⟩, ⟨some ⟨b, 0, none⟩, 50, [.slice none 0 0], 1⟩, ⟨some ⟨b1, 0, none⟩, 50, [.slice B6 ((r_2.Rows ++ [r_5]).length) c6], 1⟩] [⟨B6, ((r_2.Rows ++ [r_5]).flatMap encI)⟩, ⟨B1, (c.code.flatMap enc_u8)⟩] := hS15.freeze (i := 3) rfl
        exact ⟨m5.at_, m5.seed, (r_2.Rows ++ [r_5]), B6, c6, (some_inj hF4), (FF.cons (hf1.get 2 0 rfl) (FF.cons (hf1.get 3 1 rfl) FF.nil)), ho2, (len_le rfl hcap1), (hS28.sel [0, 1, 2] rfl rfl)⟩
      · skip
        have hF5 := cf' hF3 hb1
        refine cw_seq ?_
        refine cw_region ?_
        refine sq 29 rfl rfl (Y_eq (k := .i64) (a := r_3) (b := 2) rfl rfl rfl) ?_
        refine sq 28 rfl rfl (Y_assign (v := .bool (r_3 == 2)) rfl rfl) ?_
        refine rw_nil ?_
        refine cw_cond (b := (r_3 == 2)) rfl (fun hb2 => ?_) (fun hb2 => ?_)
        · skip
          have hF6 := ct hF5 hb2
          refine cw_region ?_
          refine sq 30 rfl rfl (Y_fieldAddr (B := some ⟨b1, 0, none⟩) (i := 0) (s := 0) k_fd_50_0_0_48 k_sz_48_1 rfl rfl) ?_
          refine sq 31 rfl rfl (Y_load1 (B := some ⟨b1, 0, none⟩) (i := 0) (cs := [.slice B3 r_2.Rows.length c3]) (v := .slice B3 r_2.Rows.length c3) k_sc_48 rfl rfl (hS7.cf (i := 2) rfl) rfl) ?_
          obtain ⟨hsl, hF6⟩ := chk_inv hF6
          have hcap2 : r_2.Rows.length ≤ c3 := (hS7.lencap (i := 1) rfl (fm_lenn (l := r_2.Rows) encI_len rfl) rfl rfl)
          have ho4 : Org w0 (bl [⟨B, 87, [.slice B1 c.code.length c1, .int .i64 c.at_, .int .u64 c.seed], 3⟩]) [⟨B1, (c.code.flatMap enc_u8)⟩] [⟨B3, (r_2.Rows.flatMap encI)⟩] := ST.orgOwn hS7 (i := 1) rfl
          have hcap3 : r_2.Rows.length ≤ c3 := (hS7.lencap (i := 1) rfl (fm_lenn (l := r_2.Rows) encI_len rfl) rfl rfl)
          have hS29 : ST w0 (bl [⟨B, 87, [.slice B1 c.code.length c1, .int .i64 c.at_, .int .u64 c.seed], 3⟩]) _ [⟨some ⟨b, 0, none⟩, 50, [.slice none 0 0], 1⟩, ⟨some ⟨b1, 0, none⟩, 50, [.slice B3 r_2.Rows.length c3], 1⟩, ⟨B, 87, [.slice B1 c.code.length c1, .int .i64 m3.at_, .int .u64 m3.seed], 3⟩] [⟨B3, (r_2.Rows.flatMap encI)⟩, ⟨B1, (c.code.flatMap enc_u8)⟩] := hS7.freeze (i := 1) rfl
          have hv : (List.drop 1 r_2.Rows).length = (r_2.Rows.length - 1) := (drop_len rfl)
          have hq1 : (r_2.Rows.length - 1) ≤ (c3 - 1) := by omega
          have ho3 : Org w0 (bl [⟨B, 87, [.slice B1 c.code.length c1, .int .i64 c.at_, .int .u64 c.seed], 3⟩]) [⟨B1, (c.code.flatMap enc_u8)⟩] [⟨(sv B3 1 c3 1), ((List.drop 1 r_2.Rows).flatMap encI)⟩] := org_view encI_len (q := c3) ho4 rfl (take_all rfl _)
          have hS30 : ST w0 (bl [⟨B, 87, [.slice B1 c.code.length c1, .int .i64 c.at_, .int .u64 c.seed], 3⟩]) _ [⟨some ⟨b, 0, none⟩, 50, [.slice none 0 0], 1⟩, ⟨some ⟨b1, 0, none⟩, 50, [.slice B3 r_2.Rows.length c3], 1⟩, ⟨B, 87, [.slice B1 c.code.length c1, .int .i64 m3.at_, .int .u64 m3.seed], 3⟩] [⟨(sv B3 1 c3 1), ((List.drop 1 r_2.Rows).flatMap encI)⟩, ⟨B3, (r_2.Rows.flatMap encI)⟩, ⟨B1, (c.code.flatMap enc_u8)⟩] := ST.view encI_len hS29 (i := 0) rfl (lo := 1) (h := r_2.Rows.length) (q := c3) (by omega) (by omega) rfl (take_all rfl _)
          refine sq 32 rfl rfl (Y_slice1 (B := B3) (m := r_2.Rows.length) (c := c3) (l := 1) (h := r_2.Rows.length) (s := 1) k_sl_48_3 k_sz_3_1 rfl rfl rfl (bnd_some rfl rfl) (by omega) (by omega)) ?_
          refine sq 33 rfl rfl (Y_fieldAddr (B := some ⟨b1, 0, none⟩) (i := 0) (s := 0) k_fd_50_0_0_48 k_sz_48_1 rfl rfl) ?_
          refine ss0 rfl rfl (Ys_store (i := 1) (s := 1) (B := some ⟨b1, 0, none⟩) (T' := 50) (v := .slice (sv B3 1 c3 1) (r_2.Rows.length - 1) (c3 - 1)) (vs := [.slice (sv B3 1 c3 1) (r_2.Rows.length - 1) (c3 - 1)]) (k := 0) (cs' := [.slice (sv B3 1 c3 1) (r_2.Rows.length - 1) (c3 - 1)]) hS30 k_sz_48_1 rfl rfl rfl rfl rfl rfl rfl (Nat.le_of_ble_eq_true rfl) rfl rfl) ?_
          rintro _ w_20 ⟨rfl, hS31⟩
          have hS31 : ST w0 (bl [⟨B, 87, [.slice B1 c.code.length c1, .int .i64 c.at_, .int .u64 c.seed], 3⟩]) _ [⟨some ⟨b, 0, none⟩, 50, [.slice none 0 0], 1⟩, ⟨some ⟨b1, 0, none⟩, 50, [.slice (sv B3 1 c3 1) (r_2.Rows.length - 1) (c3 - 1)], 1⟩, ⟨B, 87, [.slice B1 c.code.length c1, .int .i64 m3.at_, .int .u64 m3.seed], 3⟩] [⟨(sv B3 1 c3 1), ((List.drop 1 r_2.Rows).flatMap encI)⟩, ⟨B3, (r_2.Rows.flatMap encI)⟩, ⟨B1, (c.code.flatMap enc_u8)⟩] := hS31
          refine rw_nil ?_
          have hS32 : ST w0 (bl [⟨B, 87, [.slice B1 c.code.length c1, .int .i64 c.at_, .int .u64 c.seed], 3⟩]) _ [⟨some ⟨b, 0, none⟩, 50, [.slice none 0 0], 1⟩, ⟨some ⟨b1, 0, none⟩, 50, [.slice (sv B3 1 c3 1) (r_2.Rows.length - 1) (c3 - 1)], 1⟩, ⟨B, 87, [.slice B1 c.code.length c1, .int .i64 m3.at_, .int .u64 m3.seed], 3⟩] [⟨(sv B3 1 c3 1), ((List.drop 1 r_2.Rows).flatMap encI)⟩, ⟨B1, (c.code.flatMap enc_u8)⟩] := ST.subR hS31 (subc (mem_at (i := 0) rfl) (subc (mem_at (i := 2) rfl) (fun _ h => by cases h)))
          exact ⟨m3.at_, m3.seed, (List.drop 1 r_2.Rows), (sv B3 1 c3 1), (c3 - 1), (some_inj hF6), (FF.cons rfl (FF.cons rfl FF.nil)), ho3, (len_le hv hq1), (by rw [(hv : (List.drop 1 r_2.Rows).length = (r_2.Rows.length - 1))]; exact hS32.sel [2, 0, 1] rfl rfl)⟩
        · skip
          have hF7 := cf' hF5 hb2
          refine cw_skip ?_
          have ho5 : Org w0 (bl [⟨B, 87, [.slice B1 c.code.length c1, .int .i64 c.at_, .int .u64 c.seed], 3⟩]) [⟨B1, (c.code.flatMap enc_u8)⟩] [⟨B3, (r_2.Rows.flatMap encI)⟩] := ST.orgOwn hS7 (i := 1) rfl
          have hcap4 : r_2.Rows.length ≤ c3 := (hS7.lencap (i := 1) rfl (fm_lenn (l := r_2.Rows) encI_len rfl) rfl rfl)
          have hS33 : ST w0 (bl [⟨B, 87, [.slice B1 c.code.length c1, .int .i64 c.at_, .int .u64 c.seed], 3⟩]) _ [⟨some ⟨b, 0, none⟩, 50, [.slice none 0 0], 1⟩, ⟨some ⟨b1, 0, none⟩, 50, [.slice B3 r_2.Rows.length c3], 1⟩, ⟨B, 87, [.slice B1 c.code.length c1, .int .i64 m3.at_, .int .u64 m3.seed], 3⟩] [⟨B3, (r_2.Rows.flatMap encI)⟩, ⟨B1, (c.code.flatMap enc_u8)⟩] := hS7.freeze (i := 1) rfl
          exact ⟨m3.at_, m3.seed, r_2.Rows, B3, c3, (some_inj hF7), (FF.cons rfl (FF.cons rfl FF.nil)), ho5, (len_le rfl hcap4), (hS33.sel [2, 0, 1] rfl rfl)⟩
  rintro f w ⟨at_, seed, Rows, B4, c4, rfl, hf, ho, hq, hS6⟩
  refine cw_seq ?_
  refine cw_region ?_
  refine sq 34 rfl rfl (Y_loadA (B := some ⟨b1, 0, none⟩) (i := 0) (cs := [.slice B4 Rows.length c4]) (vs := [.slice B4 Rows.length c4]) k_ag_50 k_sz_50_1 rfl (hf.get 3 1 rfl) (hS6.cf (i := 2) rfl) rfl rfl) ?_
  refine ss0 rfl rfl (Ys_store (i := 1) (s := 1) (B := some ⟨b, 0, none⟩) (T' := 50) (v := .agg #[.slice B4 Rows.length c4]) (vs := [.slice B4 Rows.length c4]) (k := 0) (cs' := [.slice B4 Rows.length c4]) hS6 k_sz_50_1 rfl (hf.get 2 0 rfl) rfl rfl rfl rfl rfl (Nat.le_of_ble_eq_true rfl) rfl rfl) ?_
  rintro _ w_21 ⟨rfl, hS34⟩
  have hS34 : ST w0 (bl [⟨B, 87, [.slice B1 c.code.length c1, .int .i64 c.at_, .int .u64 c.seed], 3⟩]) _ [⟨B, 87, [.slice B1 c.code.length c1, .int .i64 at_, .int .u64 seed], 3⟩, ⟨some ⟨b, 0, none⟩, 50, [.slice B4 Rows.length c4], 1⟩, ⟨some ⟨b1, 0, none⟩, 50, [.slice B4 Rows.length c4], 1⟩] [⟨B4, (Rows.flatMap encI)⟩, ⟨B1, (c.code.flatMap enc_u8)⟩] := hS34
  refine rw_nil ?_
  refine cw_ret ?_
  obtain ⟨rfl, rfl⟩ := pr2 (some_inj hF1)
  exact ret1 Try.results121 (v1 := .agg #[.slice B4 Rows.length c4]) (resAt_cellA (B := some ⟨b, 0, none⟩) (i := 0) (cs := [.slice B4 Rows.length c4]) (vs := [.slice B4 Rows.length c4]) (hf.get 2 0 rfl) k_ag_50 k_sz_50_1 (hS34.cf (i := 1) rfl) rfl rfl) ⟨B4, c4, rfl, (len_le rfl hq), (org_cons ho org_nil), (ST.subR (R' := [⟨B4, (Rows.flatMap encI)⟩]) (hS34.sel [0] rfl rfl) (subc (mem_at (i := 0) rfl) (fun _ h => by cases h)))⟩

theorem c_spec_l1Cur_anyPhasePoly (c : Tl1Cur) (B : Option Addr) (B1 : Option Addr) (c1 n : Nat) (w0 : World) (hn : c.code.length = n) (hS : ST w0 (bl [⟨B, 87, [.slice B1 n c1, .int .i64 c.at_, .int .u64 c.seed], 3⟩]) w0 [⟨B, 87, [.slice B1 n c1, .int .i64 c.at_, .int .u64 c.seed], 3⟩] [⟨B1, (c.code.flatMap enc_u8)⟩]) {r_ : TPhasePoly} {m : Tl1Cur} (hF : F_spec_l1Cur_anyPhasePoly c = some (r_, m)) :
    CV Try.prog 71 #[pt B 0] w0 (fun v w' => ∃ (B2 : Option Addr) (c2 : Nat) (B3 : Option Addr) (c3 : Nat), v = .agg #[.int .i64 r_.Qubits, .int .i64 r_.Phase, .slice B2 r_.Terms.length c2, .slice B3 r_.Out.Rows.length c3] ∧ r_.Out.Rows.length ≤ c3 ∧ Org w0 (bl [⟨B, 87, [.slice B1 n c1, .int .i64 c.at_, .int .u64 c.seed], 3⟩]) [⟨B1, (c.code.flatMap enc_u8)⟩] [⟨B3, (r_.Out.Rows.flatMap encI)⟩] ∧ ST w0 (bl [⟨B, 87, [.slice B1 n c1, .int .i64 c.at_, .int .u64 c.seed], 3⟩]) w' [⟨B, 87, [.slice B1 n c1, .int .i64 m.at_, .int .u64 m.seed], 3⟩, ⟨B2, 104, (r_.Terms.flatMap enc_Term), c2 * 2⟩] [⟨B3, (r_.Out.Rows.flatMap encI)⟩]) := by
  subst hn
  unfold F_spec_l1Cur_anyPhasePoly at hF
  refine cv_of_cw 40 Try.func71 rfl Try.ntmps71 rfl ?_
  refine cw_seq ?_
  refine cw_region ?_
  refine ss 2 rfl rfl (Ys_alloc (T := 52) (cs := [.int .i64 0, .int .i64 0, .slice none 0 0, .slice none 0 0]) (m := 4) hS k_zero_52 rfl rfl rfl) ?_
  rintro _ w_ ⟨b, rfl, hS1⟩
  have hS1 : ST w0 (bl [⟨B, 87, [.slice B1 c.code.length c1, .int .i64 c.at_, .int .u64 c.seed], 3⟩]) _ [⟨B, 87, [.slice B1 c.code.length c1, .int .i64 c.at_, .int .u64 c.seed], 3⟩, ⟨some ⟨b, 0, none⟩, 52, [.int .i64 0, .int .i64 0, .slice none 0 0, .slice none 0 0], 4⟩] [⟨B1, (c.code.flatMap enc_u8)⟩] := hS1
  refine rw_nil ?_
  refine cw_seq ?_
  refine cw_region ?_
  refine sq 4 rfl rfl (Y_move (v := pt B 0) rfl rfl) ?_
  refine sq 5 rfl rfl (Y_move (v := pt B 0) rfl rfl) ?_
  obtain ⟨⟨r_1, m1⟩, hc, hF⟩ := bind_inv hF
  refine sc 6 rfl rfl (Yc_func (g := 69) (vs := [pt B 0, .int .i64 5]) k_call_69 rfl (mc rfl (mc rfl mn)) (c_spec_l1Cur_pick c 5 B B1 c1 c.code.length _ rfl (hS1.inn [true, false] rfl [(true, 0)] rfl) hc)) ?_
  rintro _ w_1 ⟨rfl, hd⟩
  have hS2 := hS1.out [true, false] rfl hd
  have hS2 : ST w0 (bl [⟨B, 87, [.slice B1 c.code.length c1, .int .i64 c.at_, .int .u64 c.seed], 3⟩]) _ [⟨some ⟨b, 0, none⟩, 52, [.int .i64 0, .int .i64 0, .slice none 0 0, .slice none 0 0], 4⟩, ⟨B, 87, [.slice B1 c.code.length c1, .int .i64 m1.at_, .int .u64 m1.seed], 3⟩] [⟨B1, (c.code.flatMap enc_u8)⟩] := hS2
  refine sq 7 rfl rfl (Y_add (k := .i64) (a := 1) (b := r_1) rfl rfl rfl) ?_
  obtain ⟨⟨r_2, m2⟩, hc1, hF⟩ := bind_inv hF
  refine sc 8 rfl rfl (Yc_func (g := 70) (vs := [pt B 0, .int .i64 (IntKind.i64.wrap (1 + r_1))]) k_call_70 rfl (mc rfl (mc rfl mn)) (c_spec_l1Cur_phasePoly (Tl1Cur.mk c.code m1.at_ m1.seed) (IntKind.i64.wrap (1 + r_1)) B B1 c1 c.code.length _ rfl (hS2.inn [false, true] rfl [(true, 0)] rfl) hc1)) ?_
  rintro _ w_2 ⟨B4, c4, B5, c5, rfl, hd1⟩
  have hS3 := hS2.out [false, true] rfl hd1
  have hS3 : ST w0 (bl [⟨B, 87, [.slice B1 c.code.length c1, .int .i64 c.at_, .int .u64 c.seed], 3⟩]) _ [⟨some ⟨b, 0, none⟩, 52, [.int .i64 0, .int .i64 0, .slice none 0 0, .slice none 0 0], 4⟩, ⟨B, 87, [.slice B1 c.code.length c1, .int .i64 m2.at_, .int .u64 m2.seed], 3⟩, ⟨B4, 104, (r_2.Terms.flatMap enc_Term), c4 * 2⟩, ⟨B5, 3, (r_2.Out.Rows.flatMap encI), c5 * 1⟩] [⟨B1, (c.code.flatMap enc_u8)⟩] := hS3
  refine ss 3 rfl rfl (Ys_alloc (T := 52) (cs := [.int .i64 0, .int .i64 0, .slice none 0 0, .slice none 0 0]) (m := 4) hS3 k_zero_52 rfl rfl rfl) ?_
  rintro _ w_3 ⟨b1, rfl, hS4⟩
  have hS4 : ST w0 (bl [⟨B, 87, [.slice B1 c.code.length c1, .int .i64 c.at_, .int .u64 c.seed], 3⟩]) _ [⟨some ⟨b, 0, none⟩, 52, [.int .i64 0, .int .i64 0, .slice none 0 0, .slice none 0 0], 4⟩, ⟨B, 87, [.slice B1 c.code.length c1, .int .i64 m2.at_, .int .u64 m2.seed], 3⟩, ⟨B4, 104, (r_2.Terms.flatMap enc_Term), c4 * 2⟩, ⟨B5, 3, (r_2.Out.Rows.flatMap encI), c5 * 1⟩, ⟨some ⟨b1, 0, none⟩, 52, [.int .i64 0, .int .i64 0, .slice none 0 0, .slice none 0 0], 4⟩] [⟨B1, (c.code.flatMap enc_u8)⟩] := hS4
  refine ss0 rfl rfl (Ys_store (i := 4) (s := 4) (B := some ⟨b1, 0, none⟩) (T' := 52) (v := .agg #[.int .i64 r_2.Qubits, .int .i64 r_2.Phase, .slice B4 r_2.Terms.length c4, .slice B5 r_2.Out.Rows.length c5]) (vs := [.int .i64 r_2.Qubits, .int .i64 r_2.Phase, .slice B4 r_2.Terms.length c4, .slice B5 r_2.Out.Rows.length c5]) (k := 0) (cs' := [.int .i64 r_2.Qubits, .int .i64 r_2.Phase, .slice B4 r_2.Terms.length c4, .slice B5 r_2.Out.Rows.length c5]) hS4 k_sz_52_4 rfl rfl rfl rfl rfl rfl rfl (Nat.le_of_ble_eq_true rfl) rfl rfl) ?_
  rintro _ w_4 ⟨rfl, hS5⟩
  have hS5 : ST w0 (bl [⟨B, 87, [.slice B1 c.code.length c1, .int .i64 c.at_, .int .u64 c.seed], 3⟩]) _ [⟨some ⟨b, 0, none⟩, 52, [.int .i64 0, .int .i64 0, .slice none 0 0, .slice none 0 0], 4⟩, ⟨B, 87, [.slice B1 c.code.length c1, .int .i64 m2.at_, .int .u64 m2.seed], 3⟩, ⟨B4, 104, (r_2.Terms.flatMap enc_Term), c4 * 2⟩, ⟨B5, 3, (r_2.Out.Rows.flatMap encI), c5 * 1⟩, ⟨some ⟨b1, 0, none⟩, 52, [.int .i64 r_2.Qubits, .int .i64 r_2.Phase, .slice B4 r_2.Terms.length c4, .slice B5 r_2.Out.Rows.length c5], 4⟩] [⟨B1, (c.code.flatMap enc_u8)⟩] := hS5
  refine rw_nil ?_
  refine cw_seq ?_
  obtain ⟨z, hz, hF1⟩ := bind_inv hF
  refine cw_mid (fun f w => ∃ (at_ : Int) (seed : Int) (Qubits : Int) (Phase : Int) (Terms : List TTerm) (Out : List Int) (B6 : Option Addr) (c6 : Nat) (B7 : Option Addr) (c7 : Nat), (at_, seed, Qubits, Phase, Terms, Out) = z ∧ FF f [(2, pt (some ⟨b, 0, none⟩) 0), (3, pt (some ⟨b1, 0, none⟩) 0)] ∧ Org w0 (bl [⟨B, 87, [.slice B1 c.code.length c1, .int .i64 c.at_, .int .u64 c.seed], 3⟩]) [⟨B1, (c.code.flatMap enc_u8)⟩] [⟨B7, (Out.flatMap encI)⟩] ∧ Out.length ≤ c7 ∧ ST w0 (bl [⟨B, 87, [.slice B1 c.code.length c1, .int .i64 c.at_, .int .u64 c.seed], 3⟩]) w [⟨B, 87, [.slice B1 c.code.length c1, .int .i64 at_, .int .u64 seed], 3⟩, ⟨some ⟨b, 0, none⟩, 52, [.int .i64 0, .int .i64 0, .slice none 0 0, .slice none 0 0], 4⟩, ⟨some ⟨b1, 0, none⟩, 52, [.int .i64 Qubits, .int .i64 Phase, .slice B6 Terms.length c6, .slice B7 Out.length c7], 4⟩, ⟨B6, 104, (Terms.flatMap enc_Term), c6 * 2⟩] [⟨B7, (Out.flatMap encI)⟩, ⟨B1, (c.code.flatMap enc_u8)⟩]) ?_ ?_
  · skip
    refine cw_seq ?_
    refine cw_region ?_
    refine sq 9 rfl rfl (Y_move (v := pt B 0) rfl rfl) ?_
    obtain ⟨⟨r_3, m3⟩, hc2, hz⟩ := bind_inv hz
    refine sc 10 rfl rfl (Yc_func (g := 69) (vs := [pt B 0, .int .i64 16]) k_call_69 rfl (mc rfl (mc rfl mn)) (c_spec_l1Cur_pick (Tl1Cur.mk c.code m2.at_ m2.seed) 16 B B1 c1 c.code.length _ rfl (hS5.inn [false, true, false, false, false] rfl [(true, 0)] rfl) hc2)) ?_
    rintro _ w_5 ⟨rfl, hd2⟩
    have hS7 := hS5.out [false, true, false, false, false] rfl hd2
    have hS7 : ST w0 (bl [⟨B, 87, [.slice B1 c.code.length c1, .int .i64 c.at_, .int .u64 c.seed], 3⟩]) _ [⟨some ⟨b, 0, none⟩, 52, [.int .i64 0, .int .i64 0, .slice none 0 0, .slice none 0 0], 4⟩, ⟨B4, 104, (r_2.Terms.flatMap enc_Term), c4 * 2⟩, ⟨B5, 3, (r_2.Out.Rows.flatMap encI), c5 * 1⟩, ⟨some ⟨b1, 0, none⟩, 52, [.int .i64 r_2.Qubits, .int .i64 r_2.Phase, .slice B4 r_2.Terms.length c4, .slice B5 r_2.Out.Rows.length c5], 4⟩, ⟨B, 87, [.slice B1 c.code.length c1, .int .i64 m3.at_, .int .u64 m3.seed], 3⟩] [⟨B1, (c.code.flatMap enc_u8)⟩] := hS7
    refine rw_nil ?_
    refine cw_block ?_
    refine cw_seq ?_
    refine cw_region ?_
    refine sq 12 rfl rfl (Y_eq (k := .i64) (a := r_3) (b := 0) rfl rfl rfl) ?_
    refine sq 11 rfl rfl (Y_assign (v := .bool (r_3 == 0)) rfl rfl) ?_
    refine rw_nil ?_
    refine cw_cond (b := (r_3 == 0)) rfl (fun hb => ?_) (fun hb => ?_)
    · skip
      have hF2 := ct hz hb
      refine cw_region ?_
      refine sq 13 rfl rfl (Y_move (v := pt B 0) rfl rfl) ?_
      refine ss 14 rfl rfl (Ys_bslice (s := 1) (len := 3) (vs := [(0, .int .i64 (-1)), (1, .int .i64 8), (2, .int .i64 0)]) (cs := [.int .i64 (-1), .int .i64 8, .int .i64 0]) (zs := [.int .i64 0, .int .i64 0, .int .i64 0]) (m := 3) hS7 k_sl_48_3 k_sz_3_1 k_zc_3 rfl (mpc rfl (mpc rfl (mpc rfl mpn))) rfl rfl rfl (by kernel_rfl) (by kernel_rfl) rfl) ?_
      rintro _ w_6 ⟨b2, rfl, hS8⟩
      have hS8 : ST w0 (bl [⟨B, 87, [.slice B1 c.code.length c1, .int .i64 c.at_, .int .u64 c.seed], 3⟩]) _ [⟨some ⟨b, 0, none⟩, 52, [.int .i64 0, .int .i64 0, .slice none 0 0, .slice none 0 0], 4⟩, ⟨B4, 104, (r_2.Terms.flatMap enc_Term), c4 * 2⟩, ⟨B5, 3, (r_2.Out.Rows.flatMap encI), c5 * 1⟩, ⟨some ⟨b1, 0, none⟩, 52, [.int .i64 r_2.Qubits, .int .i64 r_2.Phase, .slice B4 r_2.Terms.length c4, .slice B5 r_2.Out.Rows.length c5], 4⟩, ⟨B, 87, [.slice B1 c.code.length c1, .int .i64 m3.at_, .int .u64 m3.seed], 3⟩, ⟨some ⟨b2, 0, none⟩, 3, ([(-1), 8, 0].flatMap encI), 3 * 1⟩] [⟨B1, (c.code.flatMap enc_u8)⟩] := hS8
      obtain ⟨⟨r_4, m4⟩, hc3, hF2⟩ := bind_inv hF2
      refine sc 15 rfl rfl (Yc_func (g := 53) (vs := [pt B 0, .slice (some ⟨b2, 0, none⟩) 3 3]) k_call_53 rfl (mc rfl (mc rfl mn)) (c_spec_l1Cur_among (Tl1Cur.mk c.code m3.at_ m3.seed) [(-1), 8, 0] B B1 c1 c.code.length (some ⟨b2, 0, none⟩) 3 3 _ rfl rfl (hS8.inn [false, false, false, false, true, false] rfl [(true, 0), (false, 4)] rfl) hc3)) ?_
      rintro _ w_7 ⟨rfl, hd3⟩
      have hS9 := hS8.out [false, false, false, false, true, false] rfl hd3
      have hS9 : ST w0 (bl [⟨B, 87, [.slice B1 c.code.length c1, .int .i64 c.at_, .int .u64 c.seed], 3⟩]) _ [⟨some ⟨b, 0, none⟩, 52, [.int .i64 0, .int .i64 0, .slice none 0 0, .slice none 0 0], 4⟩, ⟨B4, 104, (r_2.Terms.flatMap enc_Term), c4 * 2⟩, ⟨B5, 3, (r_2.Out.Rows.flatMap encI), c5 * 1⟩, ⟨some ⟨b1, 0, none⟩, 52, [.int .i64 r_2.Qubits, .int .i64 r_2.Phase, .slice B4 r_2.Terms.length c4, .slice B5 r_2.Out.Rows.length c5], 4⟩, ⟨some ⟨b2, 0, none⟩, 3, ([(-1), 8, 0].flatMap encI), 3 * 1⟩, ⟨B, 87, [.slice B1 c.code.length c1, .int .i64 m4.at_, .int .u64 m4.seed], 3⟩] [⟨B1, (c.code.flatMap enc_u8)⟩] := hS9
      refine sq 16 rfl rfl (Y_fieldAddr (B := some ⟨b1, 0, none⟩) (i := 0) (s := 0) k_fd_52_1_1_3 k_sz_3_1 rfl rfl) ?_
      refine ss0 rfl rfl (Ys_store (i := 3) (s := 1) (B := some ⟨b1, 0, none⟩) (T' := 52) (v := .int .i64 r_4) (vs := [.int .i64 r_4]) (k := 1) (cs' := [.int .i64 r_2.Qubits, .int .i64 r_4, .slice B4 r_2.Terms.length c4, .slice B5 r_2.Out.Rows.length c5]) hS9 k_sz_3_1 rfl rfl rfl rfl rfl rfl rfl (Nat.le_of_ble_eq_true rfl) rfl rfl) ?_
      rintro _ w_8 ⟨rfl, hS10⟩
      have hS10 : ST w0 (bl [⟨B, 87, [.slice B1 c.code.length c1, .int .i64 c.at_, .int .u64 c.seed], 3⟩]) _ [⟨some ⟨b, 0, none⟩, 52, [.int .i64 0, .int .i64 0, .slice none 0 0, .slice none 0 0], 4⟩, ⟨B4, 104, (r_2.Terms.flatMap enc_Term), c4 * 2⟩, ⟨B5, 3, (r_2.Out.Rows.flatMap encI), c5 * 1⟩, ⟨some ⟨b1, 0, none⟩, 52, [.int .i64 r_2.Qubits, .int .i64 r_4, .slice B4 r_2.Terms.length c4, .slice B5 r_2.Out.Rows.length c5], 4⟩, ⟨some ⟨b2, 0, none⟩, 3, ([(-1), 8, 0].flatMap encI), 3 * 1⟩, ⟨B, 87, [.slice B1 c.code.length c1, .int .i64 m4.at_, .int .u64 m4.seed], 3⟩] [⟨B1, (c.code.flatMap enc_u8)⟩] := hS10
      refine rw_nil ?_
      have ho1 : Org w0 (bl [⟨B, 87, [.slice B1 c.code.length c1, .int .i64 c.at_, .int .u64 c.seed], 3⟩]) [⟨B1, (c.code.flatMap enc_u8)⟩] [⟨B5, (r_2.Out.Rows.flatMap encI)⟩] := ST.orgOwn hS10 (i := 2) rfl
      have hcap : r_2.Out.Rows.length ≤ c5 := (hS10.lencap (i := 2) rfl (fm_lenn (l := r_2.Out.Rows) encI_len rfl) rfl rfl)
      have hS11 : ST w0 (bl [⟨B, 87, [.slice B1 c.code.length c1, .int .i64 c.at_, .int .u64 c.seed], 3⟩]) _ [⟨some ⟨b, 0, none⟩, 52, [.int .i64 0, .int .i64 0, .slice none 0 0, .slice none 0 0], 4⟩, ⟨B4, 104, (r_2.Terms.flatMap enc_Term), c4 * 2⟩, ⟨some ⟨b1, 0, none⟩, 52, [.int .i64 r_2.Qubits, .int .i64 r_4, .slice B4 r_2.Terms.length c4, .slice B5 r_2.Out.Rows.length c5], 4⟩, ⟨some ⟨b2, 0, none⟩, 3, ([(-1), 8, 0].flatMap encI), 3 * 1⟩, ⟨B, 87, [.slice B1 c.code.length c1, .int .i64 m4.at_, .int .u64 m4.seed], 3⟩] [⟨B5, (r_2.Out.Rows.flatMap encI)⟩, ⟨B1, (c.code.flatMap enc_u8)⟩] := hS10.freeze (i := 2) rfl
      exact ⟨m4.at_, m4.seed, r_2.Qubits, r_4, r_2.Terms, r_2.Out.Rows, B4, c4, B5, c5, (some_inj hF2), (FF.cons rfl (FF.cons rfl FF.nil)), ho1, (len_le rfl hcap), (hS11.sel [4, 0, 2, 1] rfl rfl)⟩
    · skip
      have hF3 := cf' hz hb
      refine cw_seq ?_
      refine cw_region ?_
      refine sq 18 rfl rfl (Y_eq (k := .i64) (a := r_3) (b := 1) rfl rfl rfl) ?_
      refine sq 17 rfl rfl (Y_assign (v := .bool (r_3 == 1)) rfl rfl) ?_
      refine rw_nil ?_
      refine cw_cond (b := (r_3 == 1)) rfl (fun hb1 => ?_) (fun hb1 => ?_)
      · skip
        have hF4 := ct hF3 hb1
        obtain ⟨⟨r_5, m5⟩, hc4, hF4⟩ := bind_inv hF4
        obtain ⟨⟨r_6, m6⟩, hc5, hF4⟩ := bind_inv hF4
        obtain ⟨hap, hF4⟩ := chk_inv hF4
        refine cw_mid (fun f w => ∃ (B9 : Option Addr) (c9 : Nat), FF f [(2, pt (some ⟨b, 0, none⟩) 0), (3, pt (some ⟨b1, 0, none⟩) 0)] ∧ ST w0 (bl [⟨B, 87, [.slice B1 c.code.length c1, .int .i64 c.at_, .int .u64 c.seed], 3⟩]) w [⟨B, 87, [.slice B1 c.code.length c1, .int .i64 m6.at_, .int .u64 m6.seed], 3⟩, ⟨some ⟨b, 0, none⟩, 52, [.int .i64 0, .int .i64 0, .slice none 0 0, .slice none 0 0], 4⟩, ⟨some ⟨b1, 0, none⟩, 52, [.int .i64 r_2.Qubits, .int .i64 r_2.Phase, .slice B9 ((r_2.Terms ++ [(TTerm.mk r_5 r_6)]).length) c9, .slice B5 r_2.Out.Rows.length c5], 4⟩, ⟨B9, 104, ((r_2.Terms ++ [(TTerm.mk r_5 r_6)]).flatMap enc_Term), c9 * 2⟩, ⟨B5, 3, (r_2.Out.Rows.flatMap encI), c5 * 1⟩] [⟨B1, (c.code.flatMap enc_u8)⟩]) ?_ ?_
        · skip
          refine ra_start (ST.sel hS7 [0, 2] rfl rfl).fn (by kernel_rfl) ?_
          have hS15 := hS7.drew
          refine ra_q 0 19 (v := pt (some ⟨b1, 0, none⟩) 2) rfl rfl rfl (by kernel_rfl) (by kernel_rfl) (by kernel_rfl) (ST.sel hS15 [0, 2] rfl rfl) (fun w' hw' => (Y_fieldAddr (B := some ⟨b1, 0, none⟩) (i := 0) (s := 0) k_fd_52_2_2_47 k_sz_47_1 rfl rfl)) ?_
          refine ra_q 2 21 (v := pt B 0) rfl rfl rfl (by kernel_rfl) (by kernel_rfl) (by kernel_rfl) (ST.sel hS15 [0, 2] rfl rfl) (fun w' hw' => (Y_move (v := pt B 0) rfl rfl)) ?_
          refine ra_q 4 23 (v := pt B 0) rfl rfl rfl (by kernel_rfl) (by kernel_rfl) (by kernel_rfl) (ST.sel hS15 [0, 2] rfl rfl) (fun w' hw' => (Y_move (v := pt B 0) rfl rfl)) ?_
          refine ra_all (rs := [1, 3]) (by kernel_rfl) rfl ?_
          refine ra_y 20 (i := 1) (v := .slice B4 r_2.Terms.length c4) rfl rfl rfl (Y_load1 (B := some ⟨b1, 0, none⟩) (i := 2) (cs := [.int .i64 r_2.Qubits, .int .i64 r_2.Phase, .slice B4 r_2.Terms.length c4, .slice B5 r_2.Out.Rows.length c5]) (v := .slice B4 r_2.Terms.length c4) k_sc_47 rfl rfl (hS15.cf (i := 3) rfl) rfl) (ST.sel hS15 [0, 2] rfl rfl) ?_ ?_
          · skip
            refine ra_all (rs := [3]) (by kernel_rfl) rfl ?_
            refine ra_c 22 (i := 3) rfl rfl rfl (Yc_func (g := 69) (vs := [pt B 0, .int .i64 33]) k_call_69 rfl (mc rfl (mc rfl mn)) (c_spec_l1Cur_pick (Tl1Cur.mk c.code m3.at_ m3.seed) 33 B B1 c1 c.code.length _ rfl (hS15.inn [false, false, false, false, true] rfl [(true, 0)] rfl) hc4)) ?_ ?_
            · rintro _ w_9 ⟨rfl, hd4⟩
              have hS16 := hS15.out [false, false, false, false, true] rfl hd4
              have hS16 : ST w0 (bl [⟨B, 87, [.slice B1 c.code.length c1, .int .i64 c.at_, .int .u64 c.seed], 3⟩]) _ [⟨some ⟨b, 0, none⟩, 52, [.int .i64 0, .int .i64 0, .slice none 0 0, .slice none 0 0], 4⟩, ⟨B4, 104, (r_2.Terms.flatMap enc_Term), c4 * 2⟩, ⟨B5, 3, (r_2.Out.Rows.flatMap encI), c5 * 1⟩, ⟨some ⟨b1, 0, none⟩, 52, [.int .i64 r_2.Qubits, .int .i64 r_2.Phase, .slice B4 r_2.Terms.length c4, .slice B5 r_2.Out.Rows.length c5], 4⟩, ⟨B, 87, [.slice B1 c.code.length c1, .int .i64 m5.at_, .int .u64 m5.seed], 3⟩] [⟨B1, (c.code.flatMap enc_u8)⟩] := hS16
              refine ⟨(ST.sel hS16 [0, 2] rfl rfl), ?_⟩
              refine ra_all (rs := [5]) (by kernel_rfl) rfl ?_
              refine ra_c 24 (i := 5) rfl rfl rfl (Yc_func (g := 69) (vs := [pt B 0, .int .i64 9]) k_call_69 rfl (mc rfl (mc rfl mn)) (c_spec_l1Cur_pick (Tl1Cur.mk c.code m5.at_ m5.seed) 9 B B1 c1 c.code.length _ rfl (hS16.inn [false, false, false, false, true] rfl [(true, 0)] rfl) hc5)) ?_ ?_
              · rintro _ w_10 ⟨rfl, hd5⟩
                have hS17 := hS16.out [false, false, false, false, true] rfl hd5
                have hS17 : ST w0 (bl [⟨B, 87, [.slice B1 c.code.length c1, .int .i64 c.at_, .int .u64 c.seed], 3⟩]) _ [⟨some ⟨b, 0, none⟩, 52, [.int .i64 0, .int .i64 0, .slice none 0 0, .slice none 0 0], 4⟩, ⟨B4, 104, (r_2.Terms.flatMap enc_Term), c4 * 2⟩, ⟨B5, 3, (r_2.Out.Rows.flatMap encI), c5 * 1⟩, ⟨some ⟨b1, 0, none⟩, 52, [.int .i64 r_2.Qubits, .int .i64 r_2.Phase, .slice B4 r_2.Terms.length c4, .slice B5 r_2.Out.Rows.length c5], 4⟩, ⟨B, 87, [.slice B1 c.code.length c1, .int .i64 m6.at_, .int .u64 m6.seed], 3⟩] [⟨B1, (c.code.flatMap enc_u8)⟩] := hS17
                refine ⟨(ST.sel hS17 [0, 2] rfl rfl), ?_⟩
                refine ra_q 6 25 (v := .agg #[.int .i64 r_5, .int .i64 r_6]) rfl rfl rfl (by kernel_rfl) (by kernel_rfl) (by kernel_rfl) (ST.sel hS17 [0, 2] rfl rfl) (fun w' hw' => (Y_buildS (zs := [.int .i64 0, .int .i64 0]) (vs := [(0, .int .i64 r_5), (1, .int .i64 r_6)]) (cs := [.int .i64 r_5, .int .i64 r_6]) k_pl_104 k_zero_104 rfl (mpc rfl (mpc rfl mpn)) rfl)) ?_
                refine ra_all (rs := [7]) (by kernel_rfl) rfl ?_
                refine ra_s 26 (i := 7) rfl rfl rfl (Ys_bslice (s := 2) (len := 1) (vs := [(0, .agg #[.int .i64 r_5, .int .i64 r_6])]) (cs := [.int .i64 r_5, .int .i64 r_6]) (zs := [.int .i64 0, .int .i64 0]) (m := 2) hS17 k_sl_47_104 k_sz_104_2 k_zc_104 rfl (mpc rfl mpn) rfl rfl rfl (by kernel_rfl) (by kernel_rfl) rfl) ?_ ?_
                · rintro _ w_11 ⟨b3, rfl, hS18⟩
                  have hS18 : ST w0 (bl [⟨B, 87, [.slice B1 c.code.length c1, .int .i64 c.at_, .int .u64 c.seed], 3⟩]) _ [⟨some ⟨b, 0, none⟩, 52, [.int .i64 0, .int .i64 0, .slice none 0 0, .slice none 0 0], 4⟩, ⟨B4, 104, (r_2.Terms.flatMap enc_Term), c4 * 2⟩, ⟨B5, 3, (r_2.Out.Rows.flatMap encI), c5 * 1⟩, ⟨some ⟨b1, 0, none⟩, 52, [.int .i64 r_2.Qubits, .int .i64 r_2.Phase, .slice B4 r_2.Terms.length c4, .slice B5 r_2.Out.Rows.length c5], 4⟩, ⟨B, 87, [.slice B1 c.code.length c1, .int .i64 m6.at_, .int .u64 m6.seed], 3⟩, ⟨some ⟨b3, 0, none⟩, 104, ([(TTerm.mk r_5 r_6)].flatMap enc_Term), 1 * 2⟩] [⟨B1, (c.code.flatMap enc_u8)⟩] := hS18
                  refine ⟨(ST.sel hS18 [0, 2] rfl rfl), ?_⟩
                  refine ra_all (rs := [8]) (by kernel_rfl) rfl ?_
                  refine ra_s 27 (i := 8) rfl rfl rfl (Ys_append (s := 2) (by' := 16) (i := 1) (nn := r_2.Terms.length) (c := c4) (k := 1) (len := (r_2.Terms ++ [(TTerm.mk r_5 r_6)]).length) (B := B4) (xs := ([(TTerm.mk r_5 r_6)].flatMap enc_Term)) (cs' := ((r_2.Terms ++ [(TTerm.mk r_5 r_6)]).flatMap enc_Term)) hS18 k_sl_47_104 k_sz_104_2 k_by_104_16 k_zero_104 rfl (by decide) rfl rfl rfl rfl (fm_lenn (l := r_2.Terms) enc_Term_len rfl) rfl (hS18.cf (i := 5) rfl) (fm_lenn (l := [(TTerm.mk r_5 r_6)]) enc_Term_len rfl) (fm_one' (enc := enc_Term) enc_Term_one [(TTerm.mk r_5 r_6)]) (by have := hap; omega) (by have := hap; simp only [maxLen]; omega) (fm_app _ _) (app_len (l := r_2.Terms) (l' := [(TTerm.mk r_5 r_6)]) rfl rfl)) ?_ ?_
                  · rintro _ w_12 ⟨B8, c8, rfl, hS19⟩
                    have hS19 : ST w0 (bl [⟨B, 87, [.slice B1 c.code.length c1, .int .i64 c.at_, .int .u64 c.seed], 3⟩]) _ [⟨some ⟨b, 0, none⟩, 52, [.int .i64 0, .int .i64 0, .slice none 0 0, .slice none 0 0], 4⟩, ⟨B8, 104, ((r_2.Terms ++ [(TTerm.mk r_5 r_6)]).flatMap enc_Term), c8 * 2⟩, ⟨B5, 3, (r_2.Out.Rows.flatMap encI), c5 * 1⟩, ⟨some ⟨b1, 0, none⟩, 52, [.int .i64 r_2.Qubits, .int .i64 r_2.Phase, .slice B4 r_2.Terms.length c4, .slice B5 r_2.Out.Rows.length c5], 4⟩, ⟨B, 87, [.slice B1 c.code.length c1, .int .i64 m6.at_, .int .u64 m6.seed], 3⟩, ⟨some ⟨b3, 0, none⟩, 104, ([(TTerm.mk r_5 r_6)].flatMap enc_Term), 1 * 2⟩] [⟨B1, (c.code.flatMap enc_u8)⟩] := hS19
                    refine ⟨(ST.sel hS19 [0, 2] rfl rfl), ?_⟩
                    refine ra_q 9 28 (v := pt (some ⟨b1, 0, none⟩) 2) rfl rfl rfl (by kernel_rfl) (by kernel_rfl) (by kernel_rfl) (ST.sel hS19 [0, 2] rfl rfl) (fun w' hw' => (Y_fieldAddr (B := some ⟨b1, 0, none⟩) (i := 0) (s := 0) k_fd_52_2_2_47 k_sz_47_1 rfl rfl)) ?_
                    refine ra_all (rs := [10]) (by kernel_rfl) rfl ?_
                    refine ra_s0 (i := 10) rfl rfl rfl (Ys_store (i := 3) (s := 1) (B := some ⟨b1, 0, none⟩) (T' := 52) (v := .slice B8 ((r_2.Terms ++ [(TTerm.mk r_5 r_6)]).length) c8) (vs := [.slice B8 ((r_2.Terms ++ [(TTerm.mk r_5 r_6)]).length) c8]) (k := 2) (cs' := [.int .i64 r_2.Qubits, .int .i64 r_2.Phase, .slice B8 ((r_2.Terms ++ [(TTerm.mk r_5 r_6)]).length) c8, .slice B5 r_2.Out.Rows.length c5]) hS19 k_sz_47_1 rfl rfl rfl rfl rfl rfl rfl (Nat.le_of_ble_eq_true rfl) rfl rfl) ?_ ?_
                    · rintro _ w_13 ⟨rfl, hS20⟩
                      have hS20 : ST w0 (bl [⟨B, 87, [.slice B1 c.code.length c1, .int .i64 c.at_, .int .u64 c.seed], 3⟩]) _ [⟨some ⟨b, 0, none⟩, 52, [.int .i64 0, .int .i64 0, .slice none 0 0, .slice none 0 0], 4⟩, ⟨B8, 104, ((r_2.Terms ++ [(TTerm.mk r_5 r_6)]).flatMap enc_Term), c8 * 2⟩, ⟨B5, 3, (r_2.Out.Rows.flatMap encI), c5 * 1⟩, ⟨some ⟨b1, 0, none⟩, 52, [.int .i64 r_2.Qubits, .int .i64 r_2.Phase, .slice B8 ((r_2.Terms ++ [(TTerm.mk r_5 r_6)]).length) c8, .slice B5 r_2.Out.Rows.length c5], 4⟩, ⟨B, 87, [.slice B1 c.code.length c1, .int .i64 m6.at_, .int .u64 m6.seed], 3⟩, ⟨some ⟨b3, 0, none⟩, 104, ([(TTerm.mk r_5 r_6)].flatMap enc_Term), 1 * 2⟩] [⟨B1, (c.code.flatMap enc_u8)⟩] := hS20
                      refine ⟨(ST.sel hS20 [0, 2] rfl rfl), ?_⟩
                      refine ra_done (by kernel_rfl) ?_
                      exact ⟨B8, c8, (FF.cons rfl (FF.cons rfl FF.nil)), (hS20.sel [4, 0, 3, 1, 2] rfl rfl)⟩
                    exact allR_nil
                  exact allR_nil
                exact allR_nil
              exact allR_nil
            exact allR_nil
          refine ra_c 22 (i := 3) rfl rfl rfl (Yc_func (g := 69) (vs := [pt B 0, .int .i64 33]) k_call_69 rfl (mc rfl (mc rfl mn)) (c_spec_l1Cur_pick (Tl1Cur.mk c.code m3.at_ m3.seed) 33 B B1 c1 c.code.length _ rfl (hS15.inn [false, false, false, false, true] rfl [(true, 0)] rfl) hc4)) ?_ ?_
          · rintro _ w_14 ⟨rfl, hd6⟩
            have hS21 := hS15.out [false, false, false, false, true] rfl hd6
            have hS21 : ST w0 (bl [⟨B, 87, [.slice B1 c.code.length c1, .int .i64 c.at_, .int .u64 c.seed], 3⟩]) _ [⟨some ⟨b, 0, none⟩, 52, [.int .i64 0, .int .i64 0, .slice none 0 0, .slice none 0 0], 4⟩, ⟨B4, 104, (r_2.Terms.flatMap enc_Term), c4 * 2⟩, ⟨B5, 3, (r_2.Out.Rows.flatMap encI), c5 * 1⟩, ⟨some ⟨b1, 0, none⟩, 52, [.int .i64 r_2.Qubits, .int .i64 r_2.Phase, .slice B4 r_2.Terms.length c4, .slice B5 r_2.Out.Rows.length c5], 4⟩, ⟨B, 87, [.slice B1 c.code.length c1, .int .i64 m5.at_, .int .u64 m5.seed], 3⟩] [⟨B1, (c.code.flatMap enc_u8)⟩] := hS21
            refine ⟨(ST.sel hS21 [0, 2] rfl rfl), ?_⟩
            refine ra_all (rs := [1, 5]) (by kernel_rfl) rfl ?_
            refine ra_y 20 (i := 1) (v := .slice B4 r_2.Terms.length c4) rfl rfl rfl (Y_load1 (B := some ⟨b1, 0, none⟩) (i := 2) (cs := [.int .i64 r_2.Qubits, .int .i64 r_2.Phase, .slice B4 r_2.Terms.length c4, .slice B5 r_2.Out.Rows.length c5]) (v := .slice B4 r_2.Terms.length c4) k_sc_47 rfl rfl (hS21.cf (i := 3) rfl) rfl) (ST.sel hS21 [0, 2] rfl rfl) ?_ ?_
            · skip
              refine ra_all (rs := [5]) (by kernel_rfl) rfl ?_
              refine ra_c 24 (i := 5) rfl rfl rfl (Yc_func (g := 69) (vs := [pt B 0, .int .i64 9]) k_call_69 rfl (mc rfl (mc rfl mn)) (c_spec_l1Cur_pick (Tl1Cur.mk c.code m5.at_ m5.seed) 9 B B1 c1 c.code.length _ rfl (hS21.inn [false, false, false, false, true] rfl [(true, 0)] rfl) hc5)) ?_ ?_
              · rintro _ w_15 ⟨rfl, hd7⟩
                have hS22 := hS21.out [false, false, false, false, true] rfl hd7
                have hS22 : ST w0 (bl [⟨B, 87, [.slice B1 c.code.length c1, .int .i64 c.at_, .int .u64 c.seed], 3⟩]) _ [⟨some ⟨b, 0, none⟩, 52, [.int .i64 0, .int .i64 0, .slice none 0 0, .slice none 0 0], 4⟩, ⟨B4, 104, (r_2.Terms.flatMap enc_Term), c4 * 2⟩, ⟨B5, 3, (r_2.Out.Rows.flatMap encI), c5 * 1⟩, ⟨some ⟨b1, 0, none⟩, 52, [.int .i64 r_2.Qubits, .int .i64 r_2.Phase, .slice B4 r_2.Terms.length c4, .slice B5 r_2.Out.Rows.length c5], 4⟩, ⟨B, 87, [.slice B1 c.code.length c1, .int .i64 m6.at_, .int .u64 m6.seed], 3⟩] [⟨B1, (c.code.flatMap enc_u8)⟩] := hS22
                refine ⟨(ST.sel hS22 [0, 2] rfl rfl), ?_⟩
                refine ra_q 6 25 (v := .agg #[.int .i64 r_5, .int .i64 r_6]) rfl rfl rfl (by kernel_rfl) (by kernel_rfl) (by kernel_rfl) (ST.sel hS22 [0, 2] rfl rfl) (fun w' hw' => (Y_buildS (zs := [.int .i64 0, .int .i64 0]) (vs := [(0, .int .i64 r_5), (1, .int .i64 r_6)]) (cs := [.int .i64 r_5, .int .i64 r_6]) k_pl_104 k_zero_104 rfl (mpc rfl (mpc rfl mpn)) rfl)) ?_
                refine ra_all (rs := [7]) (by kernel_rfl) rfl ?_
                refine ra_s 26 (i := 7) rfl rfl rfl (Ys_bslice (s := 2) (len := 1) (vs := [(0, .agg #[.int .i64 r_5, .int .i64 r_6])]) (cs := [.int .i64 r_5, .int .i64 r_6]) (zs := [.int .i64 0, .int .i64 0]) (m := 2) hS22 k_sl_47_104 k_sz_104_2 k_zc_104 rfl (mpc rfl mpn) rfl rfl rfl (by kernel_rfl) (by kernel_rfl) rfl) ?_ ?_
                · rintro _ w_16 ⟨b3, rfl, hS23⟩
                  have hS23 : ST w0 (bl [⟨B, 87, [.slice B1 c.code.length c1, .int .i64 c.at_, .int .u64 c.seed], 3⟩]) _ [⟨some ⟨b, 0, none⟩, 52, [.int .i64 0, .int .i64 0, .slice none 0 0, .slice none 0 0], 4⟩, ⟨B4, 104, (r_2.Terms.flatMap enc_Term), c4 * 2⟩, ⟨B5, 3, (r_2.Out.Rows.flatMap encI), c5 * 1⟩, ⟨some ⟨b1, 0, none⟩, 52, [.int .i64 r_2.Qubits, .int .i64 r_2.Phase, .slice B4 r_2.Terms.length c4, .slice B5 r_2.Out.Rows.length c5], 4⟩, ⟨B, 87, [.slice B1 c.code.length c1, .int .i64 m6.at_, .int .u64 m6.seed], 3⟩, ⟨some ⟨b3, 0, none⟩, 104, ([(TTerm.mk r_5 r_6)].flatMap enc_Term), 1 * 2⟩] [⟨B1, (c.code.flatMap enc_u8)⟩] := hS23
                  refine ⟨(ST.sel hS23 [0, 2] rfl rfl), ?_⟩
                  refine ra_all (rs := [8]) (by kernel_rfl) rfl ?_
                  refine ra_s 27 (i := 8) rfl rfl rfl (Ys_append (s := 2) (by' := 16) (i := 1) (nn := r_2.Terms.length) (c := c4) (k := 1) (len := (r_2.Terms ++ [(TTerm.mk r_5 r_6)]).length) (B := B4) (xs := ([(TTerm.mk r_5 r_6)].flatMap enc_Term)) (cs' := ((r_2.Terms ++ [(TTerm.mk r_5 r_6)]).flatMap enc_Term)) hS23 k_sl_47_104 k_sz_104_2 k_by_104_16 k_zero_104 rfl (by decide) rfl rfl rfl rfl (fm_lenn (l := r_2.Terms) enc_Term_len rfl) rfl (hS23.cf (i := 5) rfl) (fm_lenn (l := [(TTerm.mk r_5 r_6)]) enc_Term_len rfl) (fm_one' (enc := enc_Term) enc_Term_one [(TTerm.mk r_5 r_6)]) (by have := hap; omega) (by have := hap; simp only [maxLen]; omega) (fm_app _ _) (app_len (l := r_2.Terms) (l' := [(TTerm.mk r_5 r_6)]) rfl rfl)) ?_ ?_
                  · rintro _ w_17 ⟨B8, c8, rfl, hS24⟩
                    have hS24 : ST w0 (bl [⟨B, 87, [.slice B1 c.code.length c1, .int .i64 c.at_, .int .u64 c.seed], 3⟩]) _ [⟨some ⟨b, 0, none⟩, 52, [.int .i64 0, .int .i64 0, .slice none 0 0, .slice none 0 0], 4⟩, ⟨B8, 104, ((r_2.Terms ++ [(TTerm.mk r_5 r_6)]).flatMap enc_Term), c8 * 2⟩, ⟨B5, 3, (r_2.Out.Rows.flatMap encI), c5 * 1⟩, ⟨some ⟨b1, 0, none⟩, 52, [.int .i64 r_2.Qubits, .int .i64 r_2.Phase, .slice B4 r_2.Terms.length c4, .slice B5 r_2.Out.Rows.length c5], 4⟩, ⟨B, 87, [.slice B1 c.code.length c1, .int .i64 m6.at_, .int .u64 m6.seed], 3⟩, ⟨some ⟨b3, 0, none⟩, 104, ([(TTerm.mk r_5 r_6)].flatMap enc_Term), 1 * 2⟩] [⟨B1, (c.code.flatMap enc_u8)⟩] := hS24
                    refine ⟨(ST.sel hS24 [0, 2] rfl rfl), ?_⟩
                    refine ra_q 9 28 (v := pt (some ⟨b1, 0, none⟩) 2) rfl rfl rfl (by kernel_rfl) (by kernel_rfl) (by kernel_rfl) (ST.sel hS24 [0, 2] rfl rfl) (fun w' hw' => (Y_fieldAddr (B := some ⟨b1, 0, none⟩) (i := 0) (s := 0) k_fd_52_2_2_47 k_sz_47_1 rfl rfl)) ?_
                    refine ra_all (rs := [10]) (by kernel_rfl) rfl ?_
                    refine ra_s0 (i := 10) rfl rfl rfl (Ys_store (i := 3) (s := 1) (B := some ⟨b1, 0, none⟩) (T' := 52) (v := .slice B8 ((r_2.Terms ++ [(TTerm.mk r_5 r_6)]).length) c8) (vs := [.slice B8 ((r_2.Terms ++ [(TTerm.mk r_5 r_6)]).length) c8]) (k := 2) (cs' := [.int .i64 r_2.Qubits, .int .i64 r_2.Phase, .slice B8 ((r_2.Terms ++ [(TTerm.mk r_5 r_6)]).length) c8, .slice B5 r_2.Out.Rows.length c5]) hS24 k_sz_47_1 rfl rfl rfl rfl rfl rfl rfl (Nat.le_of_ble_eq_true rfl) rfl rfl) ?_ ?_
                    · rintro _ w_18 ⟨rfl, hS25⟩
                      have hS25 : ST w0 (bl [⟨B, 87, [.slice B1 c.code.length c1, .int .i64 c.at_, .int .u64 c.seed], 3⟩]) _ [⟨some ⟨b, 0, none⟩, 52, [.int .i64 0, .int .i64 0, .slice none 0 0, .slice none 0 0], 4⟩, ⟨B8, 104, ((r_2.Terms ++ [(TTerm.mk r_5 r_6)]).flatMap enc_Term), c8 * 2⟩, ⟨B5, 3, (r_2.Out.Rows.flatMap encI), c5 * 1⟩, ⟨some ⟨b1, 0, none⟩, 52, [.int .i64 r_2.Qubits, .int .i64 r_2.Phase, .slice B8 ((r_2.Terms ++ [(TTerm.mk r_5 r_6)]).length) c8, .slice B5 r_2.Out.Rows.length c5], 4⟩, ⟨B, 87, [.slice B1 c.code.length c1, .int .i64 m6.at_, .int .u64 m6.seed], 3⟩, ⟨some ⟨b3, 0, none⟩, 104, ([(TTerm.mk r_5 r_6)].flatMap enc_Term), 1 * 2⟩] [⟨B1, (c.code.flatMap enc_u8)⟩] := hS25
                      refine ⟨(ST.sel hS25 [0, 2] rfl rfl), ?_⟩
                      refine ra_done (by kernel_rfl) ?_
                      exact ⟨B8, c8, (FF.cons rfl (FF.cons rfl FF.nil)), (hS25.sel [4, 0, 3, 1, 2] rfl rfl)⟩
                    exact allR_nil
                  exact allR_nil
                exact allR_nil
              exact allR_nil
            refine ra_c 24 (i := 5) rfl rfl rfl (Yc_func (g := 69) (vs := [pt B 0, .int .i64 9]) k_call_69 rfl (mc rfl (mc rfl mn)) (c_spec_l1Cur_pick (Tl1Cur.mk c.code m5.at_ m5.seed) 9 B B1 c1 c.code.length _ rfl (hS21.inn [false, false, false, false, true] rfl [(true, 0)] rfl) hc5)) ?_ ?_
            · rintro _ w_19 ⟨rfl, hd8⟩
              have hS26 := hS21.out [false, false, false, false, true] rfl hd8
              have hS26 : ST w0 (bl [⟨B, 87, [.slice B1 c.code.length c1, .int .i64 c.at_, .int .u64 c.seed], 3⟩]) _ [⟨some ⟨b, 0, none⟩, 52, [.int .i64 0, .int .i64 0, .slice none 0 0, .slice none 0 0], 4⟩, ⟨B4, 104, (r_2.Terms.flatMap enc_Term), c4 * 2⟩, ⟨B5, 3, (r_2.Out.Rows.flatMap encI), c5 * 1⟩, ⟨some ⟨b1, 0, none⟩, 52, [.int .i64 r_2.Qubits, .int .i64 r_2.Phase, .slice B4 r_2.Terms.length c4, .slice B5 r_2.Out.Rows.length c5], 4⟩, ⟨B, 87, [.slice B1 c.code.length c1, .int .i64 m6.at_, .int .u64 m6.seed], 3⟩] [⟨B1, (c.code.flatMap enc_u8)⟩] := hS26
              refine ⟨(ST.sel hS26 [0, 2] rfl rfl), ?_⟩
              refine ra_q 6 25 (v := .agg #[.int .i64 r_5, .int .i64 r_6]) rfl rfl rfl (by kernel_rfl) (by kernel_rfl) (by kernel_rfl) (ST.sel hS26 [0, 2] rfl rfl) (fun w' hw' => (Y_buildS (zs := [.int .i64 0, .int .i64 0]) (vs := [(0, .int .i64 r_5), (1, .int .i64 r_6)]) (cs := [.int .i64 r_5, .int .i64 r_6]) k_pl_104 k_zero_104 rfl (mpc rfl (mpc rfl mpn)) rfl)) ?_
              refine ra_all (rs := [1, 7]) (by kernel_rfl) rfl ?_
              refine ra_y 20 (i := 1) (v := .slice B4 r_2.Terms.length c4) rfl rfl rfl (Y_load1 (B := some ⟨b1, 0, none⟩) (i := 2) (cs := [.int .i64 r_2.Qubits, .int .i64 r_2.Phase, .slice B4 r_2.Terms.length c4, .slice B5 r_2.Out.Rows.length c5]) (v := .slice B4 r_2.Terms.length c4) k_sc_47 rfl rfl (hS26.cf (i := 3) rfl) rfl) (ST.sel hS26 [0, 2] rfl rfl) ?_ ?_
              · skip
                refine ra_all (rs := [7]) (by kernel_rfl) rfl ?_
                refine ra_s 26 (i := 7) rfl rfl rfl (Ys_bslice (s := 2) (len := 1) (vs := [(0, .agg #[.int .i64 r_5, .int .i64 r_6])]) (cs := [.int .i64 r_5, .int .i64 r_6]) (zs := [.int .i64 0, .int .i64 0]) (m := 2) hS26 k_sl_47_104 k_sz_104_2 k_zc_104 rfl (mpc rfl mpn) rfl rfl rfl (by kernel_rfl) (by kernel_rfl) rfl) ?_ ?_
                · rintro _ w_20 ⟨b3, rfl, hS27⟩
                  have hS27 : ST w0 (bl [⟨B, 87, [.slice B1 c.code.length c1, .int .i64 c.at_, .int .u64 c.seed], 3⟩]) _ [⟨some ⟨b, 0, none⟩, 52, [.int .i64 0, .int .i64 0, .slice none 0 0, .slice none 0 0], 4⟩, ⟨B4, 104, (r_2.Terms.flatMap enc_Term), c4 * 2⟩, ⟨B5, 3, (r_2.Out.Rows.flatMap encI), c5 * 1⟩, ⟨some ⟨b1, 0, none⟩, 52, [.int .i64 r_2.Qubits, .int .i64 r_2.Phase, .slice B4 r_2.Terms.length c4, .slice B5 r_2.Out.Rows.length c5], 4⟩, ⟨B, 87, [.slice B1 c.code.length c1, .int .i64 m6.at_, .int .u64 m6.seed], 3⟩, ⟨some ⟨b3, 0, none⟩, 104, ([(TTerm.mk r_5 r_6)].flatMap enc_Term), 1 * 2⟩] [⟨B1, (c.code.flatMap enc_u8)⟩] := hS27
                  refine ⟨(ST.sel hS27 [0, 2] rfl rfl), ?_⟩
                  refine ra_all (rs := [8]) (by kernel_rfl) rfl ?_
                  refine ra_s 27 (i := 8) rfl rfl rfl (Ys_append (s := 2) (by' := 16) (i := 1) (nn := r_2.Terms.length) (c := c4) (k := 1) (len := (r_2.Terms ++ [(TTerm.mk r_5 r_6)]).length) (B := B4) (xs := ([(TTerm.mk r_5 r_6)].flatMap enc_Term)) (cs' := ((r_2.Terms ++ [(TTerm.mk r_5 r_6)]).flatMap enc_Term)) hS27 k_sl_47_104 k_sz_104_2 k_by_104_16 k_zero_104 rfl (by decide) rfl rfl rfl rfl (fm_lenn (l := r_2.Terms) enc_Term_len rfl) rfl (hS27.cf (i := 5) rfl) (fm_lenn (l := [(TTerm.mk r_5 r_6)]) enc_Term_len rfl) (fm_one' (enc := enc_Term) enc_Term_one [(TTerm.mk r_5 r_6)]) (by have := hap; omega) (by have := hap; simp only [maxLen]; omega) (fm_app _ _) (app_len (l := r_2.Terms) (l' := [(TTerm.mk r_5 r_6)]) rfl rfl)) ?_ ?_
                  · rintro _ w_21 ⟨B8, c8, rfl, hS28⟩
                    have hS28 : ST w0 (bl [⟨B, 87, [.slice B1 c.code.length c1, .int .i64 c.at_, .int .u64 c.seed], 3⟩]) _ [⟨some ⟨b, 0, none⟩, 52, [.int .i64 0, .int .i64 0, .slice none 0 0, .slice none 0 0], 4⟩, ⟨B8, 104, ((r_2.Terms ++ [(TTerm.mk r_5 r_6)]).flatMap enc_Term), c8 * 2⟩, ⟨B5, 3, (r_2.Out.Rows.flatMap encI), c5 * 1⟩, ⟨some ⟨b1, 0, none⟩, 52, [.int .i64 r_2.Qubits, .int .i64 r_2.Phase, .slice B4 r_2.Terms.length c4, .slice B5 r_2.Out.Rows.length c5], 4⟩, ⟨B, 87, [.slice B1 c.code.length c1, .int .i64 m6.at_, .int .u64 m6.seed], 3⟩, ⟨some ⟨b3, 0, none⟩, 104, ([(TTerm.mk r_5 r_6)].flatMap enc_Term), 1 * 2⟩] [⟨B1, (c.code.flatMap enc_u8)⟩] := hS28
                    refine ⟨(ST.sel hS28 [0, 2] rfl rfl), ?_⟩
                    refine ra_q 9 28 (v := pt (some ⟨b1, 0, none⟩) 2) rfl rfl rfl (by kernel_rfl) (by kernel_rfl) (by kernel_rfl) (ST.sel hS28 [0, 2] rfl rfl) (fun w' hw' => (Y_fieldAddr (B := some ⟨b1, 0, none⟩) (i := 0) (s := 0) k_fd_52_2_2_47 k_sz_47_1 rfl rfl)) ?_
                    refine ra_all (rs := [10]) (by kernel_rfl) rfl ?_
                    refine ra_s0 (i := 10) rfl rfl rfl (Ys_store (i := 3) (s := 1) (B := some ⟨b1, 0, none⟩) (T' := 52) (v := .slice B8 ((r_2.Terms ++ [(TTerm.mk r_5 r_6)]).length) c8) (vs := [.slice B8 ((r_2.Terms ++ [(TTerm.mk r_5 r_6)]).length) c8]) (k := 2) (cs' := [.int .i64 r_2.Qubits, .int .i64 r_2.Phase, .slice B8 ((r_2.Terms ++ [(TTerm.mk r_5 r_6)]).length) c8, .slice B5 r_2.Out.Rows.length c5]) hS28 k_sz_47_1 rfl rfl rfl rfl rfl rfl rfl (Nat.le_of_ble_eq_true rfl) rfl rfl) ?_ ?_
                    · rintro _ w_22 ⟨rfl, hS29⟩
                      have hS29 : ST w0 (bl [⟨B, 87, [.slice B1 c.code.length c1, .int .i64 c.at_, .int .u64 c.seed], 3⟩]) _ [⟨some ⟨b, 0, none⟩, 52, [.int .i64 0, .int .i64 0, .slice none 0 0, .slice none 0 0], 4⟩, ⟨B8, 104, ((r_2.Terms ++ [(TTerm.mk r_5 r_6)]).flatMap enc_Term), c8 * 2⟩, ⟨B5, 3, (r_2.Out.Rows.flatMap encI), c5 * 1⟩, ⟨some ⟨b1, 0, none⟩, 52, [.int .i64 r_2.Qubits, .int .i64 r_2.Phase, .slice B8 ((r_2.Terms ++ [(TTerm.mk r_5 r_6)]).length) c8, .slice B5 r_2.Out.Rows.length c5], 4⟩, ⟨B, 87, [.slice B1 c.code.length c1, .int .i64 m6.at_, .int .u64 m6.seed], 3⟩, ⟨some ⟨b3, 0, none⟩, 104, ([(TTerm.mk r_5 r_6)].flatMap enc_Term), 1 * 2⟩] [⟨B1, (c.code.flatMap enc_u8)⟩] := hS29
                      refine ⟨(ST.sel hS29 [0, 2] rfl rfl), ?_⟩
                      refine ra_done (by kernel_rfl) ?_
                      exact ⟨B8, c8, (FF.cons rfl (FF.cons rfl FF.nil)), (hS29.sel [4, 0, 3, 1, 2] rfl rfl)⟩
                    exact allR_nil
                  exact allR_nil
                exact allR_nil
              refine ra_s 26 (i := 7) rfl rfl rfl (Ys_bslice (s := 2) (len := 1) (vs := [(0, .agg #[.int .i64 r_5, .int .i64 r_6])]) (cs := [.int .i64 r_5, .int .i64 r_6]) (zs := [.int .i64 0, .int .i64 0]) (m := 2) hS26 k_sl_47_104 k_sz_104_2 k_zc_104 rfl (mpc rfl mpn) rfl rfl rfl (by kernel_rfl) (by kernel_rfl) rfl) ?_ ?_
              · rintro _ w_23 ⟨b3, rfl, hS30⟩
                have hS30 : ST w0 (bl [⟨B, 87, [.slice B1 c.code.length c1, .int .i64 c.at_, .int .u64 c.seed], 3⟩]) _ [⟨some ⟨b, 0, none⟩, 52, [.int .i64 0, .int .i64 0, .slice none 0 0, .slice none 0 0], 4⟩, ⟨B4, 104, (r_2.Terms.flatMap enc_Term), c4 * 2⟩, ⟨B5, 3, (r_2.Out.Rows.flatMap encI), c5 * 1⟩, ⟨some ⟨b1, 0, none⟩, 52, [.int .i64 r_2.Qubits, .int .i64 r_2.Phase, .slice B4 r_2.Terms.length c4, .slice B5 r_2.Out.Rows.length c5], 4⟩, ⟨B, 87, [.slice B1 c.code.length c1, .int .i64 m6.at_, .int .u64 m6.seed], 3⟩, ⟨some ⟨b3, 0, none⟩, 104, ([(TTerm.mk r_5 r_6)].flatMap enc_Term), 1 * 2⟩] [⟨B1, (c.code.flatMap enc_u8)⟩] := hS30
                refine ⟨(ST.sel hS30 [0, 2] rfl rfl), ?_⟩
                refine ra_all (rs := [1]) (by kernel_rfl) rfl ?_
                refine ra_y 20 (i := 1) (v := .slice B4 r_2.Terms.length c4) rfl rfl rfl (Y_load1 (B := some ⟨b1, 0, none⟩) (i := 2) (cs := [.int .i64 r_2.Qubits, .int .i64 r_2.Phase, .slice B4 r_2.Terms.length c4, .slice B5 r_2.Out.Rows.length c5]) (v := .slice B4 r_2.Terms.length c4) k_sc_47 rfl rfl (hS30.cf (i := 3) rfl) rfl) (ST.sel hS30 [0, 2] rfl rfl) ?_ ?_
                · skip
                  refine ra_all (rs := [8]) (by kernel_rfl) rfl ?_
                  refine ra_s 27 (i := 8) rfl rfl rfl (Ys_append (s := 2) (by' := 16) (i := 1) (nn := r_2.Terms.length) (c := c4) (k := 1) (len := (r_2.Terms ++ [(TTerm.mk r_5 r_6)]).length) (B := B4) (xs := ([(TTerm.mk r_5 r_6)].flatMap enc_Term)) (cs' := ((r_2.Terms ++ [(TTerm.mk r_5 r_6)]).flatMap enc_Term)) hS30 k_sl_47_104 k_sz_104_2 k_by_104_16 k_zero_104 rfl (by decide) rfl rfl rfl rfl (fm_lenn (l := r_2.Terms) enc_Term_len rfl) rfl (hS30.cf (i := 5) rfl) (fm_lenn (l := [(TTerm.mk r_5 r_6)]) enc_Term_len rfl) (fm_one' (enc := enc_Term) enc_Term_one [(TTerm.mk r_5 r_6)]) (by have := hap; omega) (by have := hap; simp only [maxLen]; omega) (fm_app _ _) (app_len (l := r_2.Terms) (l' := [(TTerm.mk r_5 r_6)]) rfl rfl)) ?_ ?_
                  · rintro _ w_24 ⟨B8, c8, rfl, hS31⟩
                    have hS31 : ST w0 (bl [⟨B, 87, [.slice B1 c.code.length c1, .int .i64 c.at_, .int .u64 c.seed], 3⟩]) _ [⟨some ⟨b, 0, none⟩, 52, [.int .i64 0, .int .i64 0, .slice none 0 0, .slice none 0 0], 4⟩, ⟨B8, 104, ((r_2.Terms ++ [(TTerm.mk r_5 r_6)]).flatMap enc_Term), c8 * 2⟩, ⟨B5, 3, (r_2.Out.Rows.flatMap encI), c5 * 1⟩, ⟨some ⟨b1, 0, none⟩, 52, [.int .i64 r_2.Qubits, .int .i64 r_2.Phase, .slice B4 r_2.Terms.length c4, .slice B5 r_2.Out.Rows.length c5], 4⟩, ⟨B, 87, [.slice B1 c.code.length c1, .int .i64 m6.at_, .int .u64 m6.seed], 3⟩, ⟨some ⟨b3, 0, none⟩, 104, ([(TTerm.mk r_5 r_6)].flatMap enc_Term), 1 * 2⟩] [⟨B1, (c.code.flatMap enc_u8)⟩] := hS31
                    refine ⟨(ST.sel hS31 [0, 2] rfl rfl), ?_⟩
                    refine ra_q 9 28 (v := pt (some ⟨b1, 0, none⟩) 2) rfl rfl rfl (by kernel_rfl) (by kernel_rfl) (by kernel_rfl) (ST.sel hS31 [0, 2] rfl rfl) (fun w' hw' => (Y_fieldAddr (B := some ⟨b1, 0, none⟩) (i := 0) (s := 0) k_fd_52_2_2_47 k_sz_47_1 rfl rfl)) ?_
                    refine ra_all (rs := [10]) (by kernel_rfl) rfl ?_
                    refine ra_s0 (i := 10) rfl rfl rfl (Ys_store (i := 3) (s := 1) (B := some ⟨b1, 0, none⟩) (T' := 52) (v := .slice B8 ((r_2.Terms ++ [(TTerm.mk r_5 r_6)]).length) c8) (vs := [.slice B8 ((r_2.Terms ++ [(TTerm.mk r_5 r_6)]).length) c8]) (k := 2) (cs' := [.int .i64 r_2.Qubits, .int .i64 r_2.Phase, .slice B8 ((r_2.Terms ++ [(TTerm.mk r_5 r_6)]).length) c8, .slice B5 r_2.Out.Rows.length c5]) hS31 k_sz_47_1 rfl rfl rfl rfl rfl rfl rfl (Nat.le_of_ble_eq_true rfl) rfl rfl) ?_ ?_
                    · rintro _ w_25 ⟨rfl, hS32⟩
                      have hS32 : ST w0 (bl [⟨B, 87, [.slice B1 c.code.length c1, .int .i64 c.at_, .int .u64 c.seed], 3⟩]) _ [⟨some ⟨b, 0, none⟩, 52, [.int .i64 0, .int .i64 0, .slice none 0 0, .slice none 0 0], 4⟩, ⟨B8, 104, ((r_2.Terms ++ [(TTerm.mk r_5 r_6)]).flatMap enc_Term), c8 * 2⟩, ⟨B5, 3, (r_2.Out.Rows.flatMap encI), c5 * 1⟩, ⟨some ⟨b1, 0, none⟩, 52, [.int .i64 r_2.Qubits, .int .i64 r_2.Phase, .slice B8 ((r_2.Terms ++ [(TTerm.mk r_5 r_6)]).length) c8, .slice B5 r_2.Out.Rows.length c5], 4⟩, ⟨B, 87, [.slice B1 c.code.length c1, .int .i64 m6.at_, .int .u64 m6.seed], 3⟩, ⟨some ⟨b3, 0, none⟩, 104, ([(TTerm.mk r_5 r_6)].flatMap enc_Term), 1 * 2⟩] [⟨B1, (c.code.flatMap enc_u8)⟩] := hS32
                      refine ⟨(ST.sel hS32 [0, 2] rfl rfl), ?_⟩
                      refine ra_done (by kernel_rfl) ?_
                      exact ⟨B8, c8, (FF.cons rfl (FF.cons rfl FF.nil)), (hS32.sel [4, 0, 3, 1, 2] rfl rfl)⟩
                    exact allR_nil
                  exact allR_nil
                exact allR_nil
              exact allR_nil
            exact allR_nil
          exact allR_nil
        rintro f w ⟨B9, c9, hf1, hS14⟩
        have ho2 : Org w0 (bl [⟨B, 87, [.slice B1 c.code.length c1, .int .i64 c.at_, .int .u64 c.seed], 3⟩]) [⟨B1, (c.code.flatMap enc_u8)⟩] [⟨B5, (r_2.Out.Rows.flatMap encI)⟩] := ST.orgOwn hS14 (i := 4) rfl
        have hcap1 : r_2.Out.Rows.length ≤ c5 := (hS14.lencap (i := 4) rfl (fm_lenn (l := r_2.Out.Rows) encI_len rfl) rfl rfl)
        have hS33 : ST w0 (bl [⟨B, 87, [.slice B1 c.code.length c1, .int .i64 c.at_, .int .u64 c.seed], 3⟩]) _ [⟨B, 87, [.slice B1 c.code.length c1, .int .i64 m6.at_, .int .u64 m6.seed], 3⟩, ⟨some ⟨b, 0, none⟩, 52, [.int .i64 0, .int .i64 0, .slice none 0 0, .slice none 0 0], 4⟩, ⟨some ⟨b1, 0, none⟩, 52, [.int .i64 r_2.Qubits, .int .i64 r_2.Phase, .slice B9 ((r_2.Terms ++ [(TTerm.mk r_5 r_6)]).length) c9, .slice B5 r_2.Out.Rows.length c5], 4⟩, ⟨B9, 104, ((r_2.Terms ++ [(TTerm.mk r_5 r_6)]).flatMap enc_Term), c9 * 2⟩] [⟨B5, (r_2.Out.Rows.flatMap encI)⟩, ⟨B1, (c.code.flatMap enc_u8)⟩] := hS14.freeze (i := 4) rfl
        exact ⟨m6.at_, m6.seed, r_2.Qubits, r_2.Phase, (r_2.Terms ++ [(TTerm.mk r_5 r_6)]), r_2.Out.Rows, B9, c9, B5, c5, (some_inj hF4), (FF.cons (hf1.get 2 0 rfl) (FF.cons (hf1.get 3 1 rfl) FF.nil)), ho2, (len_le rfl hcap1), (hS33.sel [0, 1, 2, 3] rfl rfl)⟩
      · skip
        have hF5 := cf' hF3 hb1
        refine cw_seq ?_
        refine cw_region ?_
        refine sq 30 rfl rfl (Y_eq (k := .i64) (a := r_3) (b := 2) rfl rfl rfl) ?_
        refine sq 29 rfl rfl (Y_assign (v := .bool (r_3 == 2)) rfl rfl) ?_
        refine rw_nil ?_
        refine cw_cond (b := (r_3 == 2)) rfl (fun hb2 => ?_) (fun hb2 => ?_)
        · skip
          have hF6 := ct hF5 hb2
          refine cw_region ?_
          refine sq 31 rfl rfl (Y_move (v := pt B 0) rfl rfl) ?_
          obtain ⟨⟨r_7, m7⟩, hc6, hF6⟩ := bind_inv hF6
          refine sc 32 rfl rfl (Yc_func (g := 121) (vs := [pt B 0]) k_call_121 rfl (mc rfl mn) (c_spec_l1Cur_anyLinear (Tl1Cur.mk c.code m3.at_ m3.seed) B B1 c1 c.code.length _ rfl (hS7.inn [false, false, false, false, true] rfl [(true, 0)] rfl) hc6)) ?_
          rintro _ w_26 ⟨B10, c10, rfl, hq1, ho3, hd9⟩
          have hS34 := ST.outR hS7 [false, false, false, false, true] rfl hd9 ho3 (subc (mem_at (i := 0) rfl) (fun _ h => by cases h))
          have ho4 : Org w0 (bl [⟨B, 87, [.slice B1 c.code.length c1, .int .i64 c.at_, .int .u64 c.seed], 3⟩]) [⟨B1, (c.code.flatMap enc_u8)⟩] [⟨B10, (r_7.Rows.flatMap encI)⟩] := org_trans hS7 (msk_mem (mask := [false, false, false, false, true]) rfl) ho3 (org_cons (org_mem (i := 0) rfl) org_nil)
          have hS35 : ST w0 (bl [⟨B, 87, [.slice B1 c.code.length c1, .int .i64 c.at_, .int .u64 c.seed], 3⟩]) _ [⟨some ⟨b, 0, none⟩, 52, [.int .i64 0, .int .i64 0, .slice none 0 0, .slice none 0 0], 4⟩, ⟨B4, 104, (r_2.Terms.flatMap enc_Term), c4 * 2⟩, ⟨B5, 3, (r_2.Out.Rows.flatMap encI), c5 * 1⟩, ⟨some ⟨b1, 0, none⟩, 52, [.int .i64 r_2.Qubits, .int .i64 r_2.Phase, .slice B4 r_2.Terms.length c4, .slice B5 r_2.Out.Rows.length c5], 4⟩, ⟨B, 87, [.slice B1 c.code.length c1, .int .i64 m7.at_, .int .u64 m7.seed], 3⟩] [⟨B10, (r_7.Rows.flatMap encI)⟩, ⟨B1, (c.code.flatMap enc_u8)⟩] := hS34
          have hS35 : ST w0 (bl [⟨B, 87, [.slice B1 c.code.length c1, .int .i64 c.at_, .int .u64 c.seed], 3⟩]) _ [⟨some ⟨b, 0, none⟩, 52, [.int .i64 0, .int .i64 0, .slice none 0 0, .slice none 0 0], 4⟩, ⟨B4, 104, (r_2.Terms.flatMap enc_Term), c4 * 2⟩, ⟨B5, 3, (r_2.Out.Rows.flatMap encI), c5 * 1⟩, ⟨some ⟨b1, 0, none⟩, 52, [.int .i64 r_2.Qubits, .int .i64 r_2.Phase, .slice B4 r_2.Terms.length c4, .slice B5 r_2.Out.Rows.length c5], 4⟩, ⟨B, 87, [.slice B1 c.code.length c1, .int .i64 m7.at_, .int .u64 m7.seed], 3⟩] [⟨B10, (r_7.Rows.flatMap encI)⟩, ⟨B1, (c.code.flatMap enc_u8)⟩] := hS35
          refine sq 33 rfl rfl (Y_fieldAddr (B := some ⟨b1, 0, none⟩) (i := 0) (s := 0) k_fd_52_3_3_50 k_sz_50_1 rfl rfl) ?_
          refine ss0 rfl rfl (Ys_store (i := 3) (s := 1) (B := some ⟨b1, 0, none⟩) (T' := 52) (v := .agg #[.slice B10 r_7.Rows.length c10]) (vs := [.slice B10 r_7.Rows.length c10]) (k := 3) (cs' := [.int .i64 r_2.Qubits, .int .i64 r_2.Phase, .slice B4 r_2.Terms.length c4, .slice B10 r_7.Rows.length c10]) hS35 k_sz_50_1 rfl rfl rfl rfl rfl rfl rfl (Nat.le_of_ble_eq_true rfl) rfl rfl) ?_
          rintro _ w_27 ⟨rfl, hS36⟩
          have hS36 : ST w0 (bl [⟨B, 87, [.slice B1 c.code.length c1, .int .i64 c.at_, .int .u64 c.seed], 3⟩]) _ [⟨some ⟨b, 0, none⟩, 52, [.int .i64 0, .int .i64 0, .slice none 0 0, .slice none 0 0], 4⟩, ⟨B4, 104, (r_2.Terms.flatMap enc_Term), c4 * 2⟩, ⟨B5, 3, (r_2.Out.Rows.flatMap encI), c5 * 1⟩, ⟨some ⟨b1, 0, none⟩, 52, [.int .i64 r_2.Qubits, .int .i64 r_2.Phase, .slice B4 r_2.Terms.length c4, .slice B10 r_7.Rows.length c10], 4⟩, ⟨B, 87, [.slice B1 c.code.length c1, .int .i64 m7.at_, .int .u64 m7.seed], 3⟩] [⟨B10, (r_7.Rows.flatMap encI)⟩, ⟨B1, (c.code.flatMap enc_u8)⟩] := hS36
          refine rw_nil ?_
          exact ⟨m7.at_, m7.seed, r_2.Qubits, r_2.Phase, r_2.Terms, r_7.Rows, B4, c4, B10, c10, (some_inj hF6), (FF.cons rfl (FF.cons rfl FF.nil)), (org_sub ho4 (subc (mem_at (i := 0) rfl) (fun _ h => by cases h))), (len_le rfl hq1), (hS36.sel [4, 0, 3, 1] rfl rfl)⟩
        · skip
          have hF7 := cf' hF5 hb2
          refine cw_seq ?_
          refine cw_region ?_
          refine sq 35 rfl rfl (Y_eq (k := .i64) (a := r_3) (b := 3) rfl rfl rfl) ?_
          refine sq 34 rfl rfl (Y_assign (v := .bool (r_3 == 3)) rfl rfl) ?_
          refine rw_nil ?_
          refine cw_cond (b := (r_3 == 3)) rfl (fun hb3 => ?_) (fun hb3 => ?_)
          · skip
            have hF8 := ct hF7 hb3
            refine cw_region ?_
            refine sq 36 rfl rfl (Y_move (v := pt B 0) rfl rfl) ?_
            obtain ⟨⟨r_8, m8⟩, hc7, hF8⟩ := bind_inv hF8
            refine sc 37 rfl rfl (Yc_func (g := 69) (vs := [pt B 0, .int .i64 7]) k_call_69 rfl (mc rfl (mc rfl mn)) (c_spec_l1Cur_pick (Tl1Cur.mk c.code m3.at_ m3.seed) 7 B B1 c1 c.code.length _ rfl (hS7.inn [false, false, false, false, true] rfl [(true, 0)] rfl) hc7)) ?_
            rintro _ w_28 ⟨rfl, hd10⟩
            have hS37 := hS7.out [false, false, false, false, true] rfl hd10
            have hS37 : ST w0 (bl [⟨B, 87, [.slice B1 c.code.length c1, .int .i64 c.at_, .int .u64 c.seed], 3⟩]) _ [⟨some ⟨b, 0, none⟩, 52, [.int .i64 0, .int .i64 0, .slice none 0 0, .slice none 0 0], 4⟩, ⟨B4, 104, (r_2.Terms.flatMap enc_Term), c4 * 2⟩, ⟨B5, 3, (r_2.Out.Rows.flatMap encI), c5 * 1⟩, ⟨some ⟨b1, 0, none⟩, 52, [.int .i64 r_2.Qubits, .int .i64 r_2.Phase, .slice B4 r_2.Terms.length c4, .slice B5 r_2.Out.Rows.length c5], 4⟩, ⟨B, 87, [.slice B1 c.code.length c1, .int .i64 m8.at_, .int .u64 m8.seed], 3⟩] [⟨B1, (c.code.flatMap enc_u8)⟩] := hS37
            refine sq 38 rfl rfl (Y_fieldAddr (B := some ⟨b1, 0, none⟩) (i := 0) (s := 0) k_fd_52_0_0_3 k_sz_3_1 rfl rfl) ?_
            refine ss0 rfl rfl (Ys_store (i := 3) (s := 1) (B := some ⟨b1, 0, none⟩) (T' := 52) (v := .int .i64 r_8) (vs := [.int .i64 r_8]) (k := 0) (cs' := [.int .i64 r_8, .int .i64 r_2.Phase, .slice B4 r_2.Terms.length c4, .slice B5 r_2.Out.Rows.length c5]) hS37 k_sz_3_1 rfl rfl rfl rfl rfl rfl rfl (Nat.le_of_ble_eq_true rfl) rfl rfl) ?_
            rintro _ w_29 ⟨rfl, hS38⟩
            have hS38 : ST w0 (bl [⟨B, 87, [.slice B1 c.code.length c1, .int .i64 c.at_, .int .u64 c.seed], 3⟩]) _ [⟨some ⟨b, 0, none⟩, 52, [.int .i64 0, .int .i64 0, .slice none 0 0, .slice none 0 0], 4⟩, ⟨B4, 104, (r_2.Terms.flatMap enc_Term), c4 * 2⟩, ⟨B5, 3, (r_2.Out.Rows.flatMap encI), c5 * 1⟩, ⟨some ⟨b1, 0, none⟩, 52, [.int .i64 r_8, .int .i64 r_2.Phase, .slice B4 r_2.Terms.length c4, .slice B5 r_2.Out.Rows.length c5], 4⟩, ⟨B, 87, [.slice B1 c.code.length c1, .int .i64 m8.at_, .int .u64 m8.seed], 3⟩] [⟨B1, (c.code.flatMap enc_u8)⟩] := hS38
            refine rw_nil ?_
            have ho5 : Org w0 (bl [⟨B, 87, [.slice B1 c.code.length c1, .int .i64 c.at_, .int .u64 c.seed], 3⟩]) [⟨B1, (c.code.flatMap enc_u8)⟩] [⟨B5, (r_2.Out.Rows.flatMap encI)⟩] := ST.orgOwn hS38 (i := 2) rfl
            have hcap2 : r_2.Out.Rows.length ≤ c5 := (hS38.lencap (i := 2) rfl (fm_lenn (l := r_2.Out.Rows) encI_len rfl) rfl rfl)
            have hS39 : ST w0 (bl [⟨B, 87, [.slice B1 c.code.length c1, .int .i64 c.at_, .int .u64 c.seed], 3⟩]) _ [⟨some ⟨b, 0, none⟩, 52, [.int .i64 0, .int .i64 0, .slice none 0 0, .slice none 0 0], 4⟩, ⟨B4, 104, (r_2.Terms.flatMap enc_Term), c4 * 2⟩, ⟨some ⟨b1, 0, none⟩, 52, [.int .i64 r_8, .int .i64 r_2.Phase, .slice B4 r_2.Terms.length c4, .slice B5 r_2.Out.Rows.length c5], 4⟩, ⟨B, 87, [.slice B1 c.code.length c1, .int .i64 m8.at_, .int .u64 m8.seed], 3⟩] [⟨B5, (r_2.Out.Rows.flatMap encI)⟩, ⟨B1, (c.code.flatMap enc_u8)⟩] := hS38.freeze (i := 2) rfl
            exact ⟨m8.at_, m8.seed, r_8, r_2.Phase, r_2.Terms, r_2.Out.Rows, B4, c4, B5, c5, (some_inj hF8), (FF.cons rfl (FF.cons rfl FF.nil)), ho5, (len_le rfl hcap2), (hS39.sel [3, 0, 2, 1] rfl rfl)⟩
          · skip
            have hF9 := cf' hF7 hb3
            refine cw_skip ?_
            have ho6 : Org w0 (bl [⟨B, 87, [.slice B1 c.code.length c1, .int .i64 c.at_, .int .u64 c.seed], 3⟩]) [⟨B1, (c.code.flatMap enc_u8)⟩] [⟨B5, (r_2.Out.Rows.flatMap encI)⟩] := ST.orgOwn hS7 (i := 2) rfl
            have hcap3 : r_2.Out.Rows.length ≤ c5 := (hS7.lencap (i := 2) rfl (fm_lenn (l := r_2.Out.Rows) encI_len rfl) rfl rfl)
            have hS40 : ST w0 (bl [⟨B, 87, [.slice B1 c.code.length c1, .int .i64 c.at_, .int .u64 c.seed], 3⟩]) _ [⟨some ⟨b, 0, none⟩, 52, [.int .i64 0, .int .i64 0, .slice none 0 0, .slice none 0 0], 4⟩, ⟨B4, 104, (r_2.Terms.flatMap enc_Term), c4 * 2⟩, ⟨some ⟨b1, 0, none⟩, 52, [.int .i64 r_2.Qubits, .int .i64 r_2.Phase, .slice B4 r_2.Terms.length c4, .slice B5 r_2.Out.Rows.length c5], 4⟩, ⟨B, 87, [.slice B1 c.code.length c1, .int .i64 m3.at_, .int .u64 m3.seed], 3⟩] [⟨B5, (r_2.Out.Rows.flatMap encI)⟩, ⟨B1, (c.code.flatMap enc_u8)⟩] := hS7.freeze (i := 2) rfl
            exact ⟨m3.at_, m3.seed, r_2.Qubits, r_2.Phase, r_2.Terms, r_2.Out.Rows, B4, c4, B5, c5, (some_inj hF9), (FF.cons rfl (FF.cons rfl FF.nil)), ho6, (len_le rfl hcap3), (hS40.sel [3, 0, 2, 1] rfl rfl)⟩
  rintro f w ⟨at_, seed, Qubits, Phase, Terms, Out, B6, c6, B7, c7, rfl, hf, ho, hq, hS6⟩
  refine cw_seq ?_
  refine cw_region ?_
  refine sq 39 rfl rfl (Y_loadA (B := some ⟨b1, 0, none⟩) (i := 0) (cs := [.int .i64 Qubits, .int .i64 Phase, .slice B6 Terms.length c6, .slice B7 Out.length c7]) (vs := [.int .i64 Qubits, .int .i64 Phase, .slice B6 Terms.length c6, .slice B7 Out.length c7]) k_ag_52 k_sz_52_4 rfl (hf.get 3 1 rfl) (hS6.cf (i := 2) rfl) rfl rfl) ?_
  refine ss0 rfl rfl (Ys_store (i := 1) (s := 4) (B := some ⟨b, 0, none⟩) (T' := 52) (v := .agg #[.int .i64 Qubits, .int .i64 Phase, .slice B6 Terms.length c6, .slice B7 Out.length c7]) (vs := [.int .i64 Qubits, .int .i64 Phase, .slice B6 Terms.length c6, .slice B7 Out.length c7]) (k := 0) (cs' := [.int .i64 Qubits, .int .i64 Phase, .slice B6 Terms.length c6, .slice B7 Out.length c7]) hS6 k_sz_52_4 rfl (hf.get 2 0 rfl) rfl rfl rfl rfl rfl (Nat.le_of_ble_eq_true rfl) rfl rfl) ?_
  rintro _ w_30 ⟨rfl, hS41⟩
  have hS41 : ST w0 (bl [⟨B, 87, [.slice B1 c.code.length c1, .int .i64 c.at_, .int .u64 c.seed], 3⟩]) _ [⟨B, 87, [.slice B1 c.code.length c1, .int .i64 at_, .int .u64 seed], 3⟩, ⟨some ⟨b, 0, none⟩, 52, [.int .i64 Qubits, .int .i64 Phase, .slice B6 Terms.length c6, .slice B7 Out.length c7], 4⟩, ⟨some ⟨b1, 0, none⟩, 52, [.int .i64 Qubits, .int .i64 Phase, .slice B6 Terms.length c6, .slice B7 Out.length c7], 4⟩, ⟨B6, 104, (Terms.flatMap enc_Term), c6 * 2⟩] [⟨B7, (Out.flatMap encI)⟩, ⟨B1, (c.code.flatMap enc_u8)⟩] := hS41
  refine rw_nil ?_
  refine cw_ret ?_
  obtain ⟨rfl, rfl⟩ := pr2 (some_inj hF1)
  exact ret1 Try.results71 (v1 := .agg #[.int .i64 Qubits, .int .i64 Phase, .slice B6 Terms.length c6, .slice B7 Out.length c7]) (resAt_cellA (B := some ⟨b, 0, none⟩) (i := 0) (cs := [.int .i64 Qubits, .int .i64 Phase, .slice B6 Terms.length c6, .slice B7 Out.length c7]) (vs := [.int .i64 Qubits, .int .i64 Phase, .slice B6 Terms.length c6, .slice B7 Out.length c7]) (hf.get 2 0 rfl) k_ag_52 k_sz_52_4 (hS41.cf (i := 1) rfl) rfl rfl) ⟨B6, c6, B7, c7, rfl, (len_le rfl hq), (org_cons ho org_nil), (ST.subR (R' := [⟨B7, (Out.flatMap encI)⟩]) (hS41.sel [0, 3] rfl rfl) (subc (mem_at (i := 0) rfl) (fun _ h => by cases h)))⟩

theorem c_spec_l13By (p : TPhasePoly) (B : Option Addr) (c n : Nat) (B1 : Option Addr) (c1 n1 : Nat) (w0 : World) (hn : p.Terms.length = n) (hn1 : p.Out.Rows.length = n1) (hS : ST w0 [] w0 [] [⟨B, (p.Terms.flatMap enc_Term)⟩, ⟨B1, (p.Out.Rows.flatMap encI)⟩]) {r_ : List Int} (hF : F_spec_l13By p = some r_) :
    CV Try.prog 77 #[.agg #[.int .i64 p.Qubits, .int .i64 p.Phase, .slice B n c, .slice B1 n1 c1]] w0 (fun v w' => ∃ (B2 : Option Addr) (c2 : Nat), v = .slice B2 r_.length c2 ∧ ST w0 [] w' [⟨B2, 3, (r_.flatMap encI), c2 * 1⟩] []) := by
  subst hn
  subst hn1
  unfold F_spec_l13By at hF
  refine cv_of_cw 26 Try.func77 rfl Try.ntmps77 rfl ?_
  refine cw_seq ?_
  refine cw_region ?_
  refine ss 1 rfl rfl (Ys_box (T := 52) (v := .agg #[.int .i64 p.Qubits, .int .i64 p.Phase, .slice B p.Terms.length c, .slice B1 p.Out.Rows.length c1]) (cs := [.int .i64 p.Qubits, .int .i64 p.Phase, .slice B p.Terms.length c, .slice B1 p.Out.Rows.length c1]) (m := 4) hS rfl rfl rfl rfl) ?_
  rintro _ w_ ⟨b, rfl, hS1⟩
  refine sq 2 rfl rfl (Y_assign (v := .slice none 0 0) rfl rfl) ?_
  refine rw_nil ?_
  refine cw_seq ?_
  refine cw_region ?_
  refine sq 6 rfl rfl (Y_fieldAddr (B := some ⟨b, 0, none⟩) (i := 0) (s := 0) k_fd_52_0_0_3 k_sz_3_1 rfl rfl) ?_
  refine sq 7 rfl rfl (Y_load1 (B := some ⟨b, 0, none⟩) (i := 0) (cs := [.int .i64 p.Qubits, .int .i64 p.Phase, .slice B p.Terms.length c, .slice B1 p.Out.Rows.length c1]) (v := .int .i64 p.Qubits) k_sc_3 rfl rfl (hS1.cf (i := 0) rfl) rfl) ?_
  refine sq 8 rfl rfl (Y_conv (k := .i64) (a := p.Qubits) (T := 3) (T' := 63) k_us_3 k_int_63_u64 rfl rfl) ?_
  obtain ⟨hsh, hF⟩ := chk_inv hF
  refine sq 9 rfl rfl (Y_shl (k := .i64) (a := 1) (k' := .u64) (b := (IntKind.u64.wrap p.Qubits)) rfl rfl rfl hsh) ?_
  obtain ⟨hmk, hF⟩ := chk_inv hF
  refine ss 10 rfl rfl (Ys_make (s := 1) (by' := 8) (nn := (shlK .i64 1 (IntKind.u64.wrap p.Qubits)).toNat) (a := (shlK .i64 1 (IntKind.u64.wrap p.Qubits))) (b := (shlK .i64 1 (IntKind.u64.wrap p.Qubits))) (cs := ((List.replicate ((shlK .i64 1 (IntKind.u64.wrap p.Qubits)).toNat) 0).flatMap encI)) hS1 k_sl_48_3 k_sz_3_1 k_by_3_8 k_zero_3 rfl rfl rfl rfl hmk.1 rfl (by have := hmk; omega) (by have := hmk; omega) (by omega) (fm_rep (enc := encI) (d := 0) rfl _)) ?_
  rintro _ w_1 ⟨b1, rfl, hS2⟩
  have hS2 : ST w0 [] _ [⟨some ⟨b, 0, none⟩, 52, [.int .i64 p.Qubits, .int .i64 p.Phase, .slice B p.Terms.length c, .slice B1 p.Out.Rows.length c1], 4⟩, ⟨some ⟨b1, 0, none⟩, 3, ((List.replicate ((shlK .i64 1 (IntKind.u64.wrap p.Qubits)).toNat) 0).flatMap encI), ((shlK .i64 1 (IntKind.u64.wrap p.Qubits)).toNat) * 1⟩] [⟨B, (p.Terms.flatMap enc_Term)⟩, ⟨B1, (p.Out.Rows.flatMap encI)⟩] := hS2
  refine sq 3 rfl rfl (Y_assign (v := .slice (some ⟨b1, 0, none⟩) ((shlK .i64 1 (IntKind.u64.wrap p.Qubits)).toNat) ((shlK .i64 1 (IntKind.u64.wrap p.Qubits)).toNat)) rfl rfl) ?_
  refine rw_nil ?_
  refine cw_seq ?_
  refine cw_seq ?_
  refine cw_region ?_
  refine sq 11 rfl rfl (Y_fieldAddr (B := some ⟨b, 0, none⟩) (i := 0) (s := 0) k_fd_52_2_2_47 k_sz_47_1 rfl rfl) ?_
  refine sq 12 rfl rfl (Y_load1 (B := some ⟨b, 0, none⟩) (i := 2) (cs := [.int .i64 p.Qubits, .int .i64 p.Phase, .slice B p.Terms.length c, .slice B1 p.Out.Rows.length c1]) (v := .slice B p.Terms.length c) k_sc_47 rfl rfl (hS2.cf (i := 0) rfl) rfl) ?_
  refine sq 13 rfl rfl (Y_len (B := B) (m := p.Terms.length) (c := c) k_sl_47_104 rfl rfl) ?_
  refine sq 14 rfl rfl (Y_move (v := .int .i64 0) rfl rfl) ?_
  refine rw_nil ?_
  obtain ⟨hN, hF⟩ := chk_inv hF
  obtain ⟨z, hz, hF1⟩ := bind_inv hF
  refine cw_block ?_
  refine cw_loop (fun k f w => ∃ (i : Nat) (by_ : List Int), FF f [(3, .slice (some ⟨b1, 0, none⟩) ((shlK .i64 1 (IntKind.u64.wrap p.Qubits)).toNat) ((shlK .i64 1 (IntKind.u64.wrap p.Qubits)).toNat)), (12, .slice B p.Terms.length c), (13, .int .i64 (p.Terms.length : Int)), (14, .int .i64 (i : Int))] ∧ by_.length = (shlK .i64 1 (IntKind.u64.wrap p.Qubits)).toNat ∧ ST w0 [] w [⟨some ⟨b1, 0, none⟩, 3, (by_.flatMap encI), ((shlK .i64 1 (IntKind.u64.wrap p.Qubits)).toNat) * 1⟩] [⟨B, (p.Terms.flatMap enc_Term)⟩, ⟨B1, (p.Out.Rows.flatMap encI)⟩] ∧ i + k = p.Terms.length ∧ forN (F_spec_l13By_l1 p) k i by_ = some z) p.Terms.length ⟨0, (List.replicate ((shlK .i64 1 (IntKind.u64.wrap p.Qubits)).toNat) 0), (FF.cons rfl (FF.cons rfl (FF.cons rfl (FF.cons rfl FF.nil)))), List.length_replicate, (hS2.sel [1] rfl rfl), Nat.zero_add _, hz⟩ ?_
  rintro k_ f w ⟨i, by_, hf, hl, hS3, hik, hL⟩
  refine cw_seq ?_
  refine cw_region ?_
  refine sq 15 rfl rfl (Y_lt (k := .i64) (a := (i : Int)) (b := (p.Terms.length : Int)) rfl (hf.get 14 3 rfl) (hf.get 13 2 rfl)) ?_
  refine rw_nil ?_
  refine cw_seq ?_
  refine cw_cond (b := (decide ((i : Int) < (p.Terms.length : Int)))) rfl (fun hlt => ?_) (fun hlt => ?_)
  · skip
    have hlt1 : i < p.Terms.length := by have h := of_decide_eq_true hlt; omega
    obtain ⟨k_1, rfl⟩ : ∃ k2, k_ = k2 + 1 := ⟨k_ - 1, by omega⟩
    obtain ⟨y, hb, hL1⟩ := forN_go hL
    unfold F_spec_l13By_l1 at hb
    refine cw_skip ?_
    refine cw_seq ?_
    refine cw_block ?_
    refine cw_seq ?_
    refine cw_region ?_
    obtain ⟨x, hx, hb⟩ := bind_inv hb
    refine sq 16 rfl rfl (Y_index (B := B) (m := p.Terms.length) (c := c) (k := .i64) (i := (i : Int)) k_sl_47_104 k_sz_104_2 rfl (hf.get 12 1 rfl) (hf.get 14 3 rfl) (gi_isSome enc_Term_len rfl (hS3.rf (i := 0) rfl) hx) (getI_nn hx) (getI_ltI hx rfl)) ?_
    refine sq 17 rfl rfl (Y_loadA (B := B) (i := (i : Int).toNat * 2) (cs := (p.Terms.flatMap enc_Term)) (vs := [.int .i64 x.Mask, .int .i64 x.Coef]) k_ag_104 k_sz_104_2 rfl rfl (hS3.rf (i := 0) rfl) (enc_Term_len x) (gi_seg enc_Term_len hx)) ?_
    refine ss 5 rfl rfl (Ys_alloc (T := 104) (cs := [.int .i64 0, .int .i64 0]) (m := 2) hS3 k_zero_104 rfl rfl rfl) ?_
    rintro _ w_2 ⟨b2, rfl, hS4⟩
    have hS4 : ST w0 [] _ [⟨some ⟨b1, 0, none⟩, 3, (by_.flatMap encI), ((shlK .i64 1 (IntKind.u64.wrap p.Qubits)).toNat) * 1⟩, ⟨some ⟨b2, 0, none⟩, 104, [.int .i64 0, .int .i64 0], 2⟩] [⟨B, (p.Terms.flatMap enc_Term)⟩, ⟨B1, (p.Out.Rows.flatMap encI)⟩] := hS4
    refine ss0 rfl rfl (Ys_store (i := 1) (s := 2) (B := some ⟨b2, 0, none⟩) (T' := 104) (v := .agg #[.int .i64 x.Mask, .int .i64 x.Coef]) (vs := [.int .i64 x.Mask, .int .i64 x.Coef]) (k := 0) (cs' := [.int .i64 x.Mask, .int .i64 x.Coef]) hS4 k_sz_104_2 rfl rfl rfl rfl rfl rfl rfl (Nat.le_of_ble_eq_true rfl) rfl rfl) ?_
    rintro _ w_3 ⟨rfl, hS5⟩
    have hS5 : ST w0 [] _ [⟨some ⟨b1, 0, none⟩, 3, (by_.flatMap encI), ((shlK .i64 1 (IntKind.u64.wrap p.Qubits)).toNat) * 1⟩, ⟨some ⟨b2, 0, none⟩, 104, [.int .i64 x.Mask, .int .i64 x.Coef], 2⟩] [⟨B, (p.Terms.flatMap enc_Term)⟩, ⟨B1, (p.Out.Rows.flatMap encI)⟩] := hS5
    refine rw_nil ?_
    refine cw_region ?_
    refine sq 18 rfl rfl (Y_move (v := .slice (some ⟨b1, 0, none⟩) ((shlK .i64 1 (IntKind.u64.wrap p.Qubits)).toNat) ((shlK .i64 1 (IntKind.u64.wrap p.Qubits)).toNat)) rfl (hf.get 3 0 rfl)) ?_
    refine sq 19 rfl rfl (Y_fieldAddr (B := some ⟨b2, 0, none⟩) (i := 0) (s := 0) k_fd_104_0_0_3 k_sz_3_1 rfl rfl) ?_
    refine sq 20 rfl rfl (Y_load1 (B := some ⟨b2, 0, none⟩) (i := 0) (cs := [.int .i64 x.Mask, .int .i64 x.Coef]) (v := .int .i64 x.Mask) k_sc_3 rfl rfl (hS5.cf (i := 1) rfl) rfl) ?_
    refine sq 21 rfl rfl (Y_fieldAddr (B := some ⟨b2, 0, none⟩) (i := 0) (s := 0) k_fd_104_1_1_3 k_sz_3_1 rfl rfl) ?_
    refine sq 22 rfl rfl (Y_load1 (B := some ⟨b2, 0, none⟩) (i := 1) (cs := [.int .i64 x.Mask, .int .i64 x.Coef]) (v := .int .i64 x.Coef) k_sc_3 rfl rfl (hS5.cf (i := 1) rfl) rfl) ?_
    obtain ⟨x1, hx1, hb⟩ := bind_inv hb
    refine sq 23 rfl rfl (Y_index (B := some ⟨b1, 0, none⟩) (m := (shlK .i64 1 (IntKind.u64.wrap p.Qubits)).toNat) (c := (shlK .i64 1 (IntKind.u64.wrap p.Qubits)).toNat) (k := .i64) (i := x.Mask) k_sl_48_3 k_sz_3_1 rfl rfl rfl (gi_isSome encI_len rfl (hS5.cf (i := 0) rfl) hx1) (getI_nn hx1) (getI_ltI hx1 hl)) ?_
    refine ss0 rfl rfl (Ys_store (i := 0) (s := 1) (B := some ⟨b1, 0, none⟩) (T' := 3) (v := .int .i64 x.Coef) (vs := [.int .i64 x.Coef]) (k := x.Mask.toNat * 1) (cs' := ((by_.set x.Mask.toNat x.Coef).flatMap encI)) hS5 k_sz_3_1 rfl rfl rfl rfl rfl rfl rfl (gi_fit0 encI_len hx1) (gi_set encI_len hx1 x.Coef rfl) rfl) ?_
    rintro _ w_4 ⟨rfl, hS6⟩
    have hS6 : ST w0 [] _ [⟨some ⟨b1, 0, none⟩, 3, ((by_.set x.Mask.toNat x.Coef).flatMap encI), ((shlK .i64 1 (IntKind.u64.wrap p.Qubits)).toNat) * 1⟩, ⟨some ⟨b2, 0, none⟩, 104, [.int .i64 x.Mask, .int .i64 x.Coef], 2⟩] [⟨B, (p.Terms.flatMap enc_Term)⟩, ⟨B1, (p.Out.Rows.flatMap encI)⟩] := hS6
    refine rw_nil ?_
    refine cw_region ?_
    refine sq 24 rfl rfl (Y_add (k := .i64) (a := (i : Int)) (b := 1) rfl (hf.get 14 3 rfl) rfl) ?_
    refine sq 14 rfl rfl (Y_move (v := .int .i64 (IntKind.i64.wrap ((i : Int) + 1))) rfl rfl) ?_
    refine rw_nil ?_
    obtain rfl := some_inj hb
    exact ⟨k_1, Nat.lt_succ_self _, i + 1, (by_.set x.Mask.toNat x.Coef), (FF.cons (hf.get 3 0 rfl) (FF.cons (hf.get 12 1 rfl) (FF.cons (hf.get 13 2 rfl) (FF.cons (congrArg (Value.int .i64) (wr_succ hlt1 hN)) FF.nil)))), (set_len _ _ _ hl), (hS6.sel [0] rfl rfl), (by omega), hL1⟩
  · skip
    obtain rfl : k_ = 0 := by have h := of_decide_eq_false hlt; omega
    refine cw_exit rfl ?_
    obtain rfl := some_inj hL
    refine cw_seq ?_
    refine cw_region ?_
    refine sq 25 rfl rfl (Y_move (v := .slice (some ⟨b1, 0, none⟩) ((shlK .i64 1 (IntKind.u64.wrap p.Qubits)).toNat) ((shlK .i64 1 (IntKind.u64.wrap p.Qubits)).toNat)) rfl (hf.get 3 0 rfl)) ?_
    refine sq 2 rfl rfl (Y_assign (v := .slice (some ⟨b1, 0, none⟩) ((shlK .i64 1 (IntKind.u64.wrap p.Qubits)).toNat) ((shlK .i64 1 (IntKind.u64.wrap p.Qubits)).toNat)) rfl rfl) ?_
    refine rw_nil ?_
    refine cw_ret ?_
    obtain rfl := some_inj hF1
    exact ret1 Try.results77 (v1 := .slice (some ⟨b1, 0, none⟩) ((shlK .i64 1 (IntKind.u64.wrap p.Qubits)).toNat) ((shlK .i64 1 (IntKind.u64.wrap p.Qubits)).toNat)) (resAt_tmp rfl) ⟨some ⟨b1, 0, none⟩, (shlK .i64 1 (IntKind.u64.wrap p.Qubits)).toNat, (sl_eqv hl), (ST.subR (R' := []) (hS3.sel [0] rfl rfl) (fun _ h => by cases h))⟩

theorem c_spec_l1Set (row : Int)  (w0 : World)  (hS : ST w0 [] w0 [] []) {r_ : List Int} (hF : F_spec_l1Set row = some r_) :
    CV Try.prog 123 #[.int .i64 row] w0 (fun v w' => ∃ (B : Option Addr) (c : Nat), v = .slice B r_.length c ∧ ST w0 [] w' [⟨B, 3, (r_.flatMap encI), c * 1⟩] []) := by
  unfold F_spec_l1Set at hF
  refine cv_of_cw 23 Try.func123 rfl Try.ntmps123 rfl ?_
  refine cw_seq ?_
  refine cw_region ?_
  refine sq 2 rfl rfl (Y_assign (v := .slice none 0 0) rfl rfl) ?_
  refine rw_nil ?_
  refine cw_seq ?_
  refine cw_region ?_
  refine sq 3 rfl rfl (Y_assign (v := .slice none 0 0) rfl rfl) ?_
  refine rw_nil ?_
  refine cw_seq ?_
  refine cw_seq ?_
  refine cw_region ?_
  refine sq 4 rfl rfl (Y_assign (v := .int .i64 0) rfl rfl) ?_
  refine rw_nil ?_
  obtain ⟨z, hz, hF1⟩ := bind_inv hF
  have hS2 := hS.addNil 3
  refine cw_block ?_
  refine cw_loop (fun k f w => ∃ (out : List Int) (k_ : Int) (B1 : Option Addr) (c1 : Nat), FF f [(0, .int .i64 row), (3, .slice B1 out.length c1), (4, .int .i64 k_)] ∧ ST w0 [] w [⟨B1, 3, (out.flatMap encI), c1 * 1⟩] [] ∧ whX (F_spec_l1Set_l1 row) k (out, k_) = some z) fuel ⟨[], 0, none, 0, (FF.cons rfl (FF.cons rfl (FF.cons rfl FF.nil))), (hS2.sel [0] rfl rfl), hz⟩ ?_
  rintro k_1 f w ⟨out, k_, B1, c1, hf, hS1, hL⟩
  obtain ⟨k_2, y, rfl, hb, hL1⟩ := whX_go hL
  unfold F_spec_l1Set_l1 at hb
  refine cw_seq ?_
  refine cw_seq ?_
  refine cw_region ?_
  refine sq 5 rfl rfl (Y_move (v := .int .i64 row) rfl (hf.get 0 0 rfl)) ?_
  refine sq 6 rfl rfl (Y_move (v := .int .i64 k_) rfl (hf.get 4 2 rfl)) ?_
  refine sq 7 rfl rfl (Y_conv (k := .i64) (a := k_) (T := 3) (T' := 63) k_us_3 k_int_63_u64 rfl rfl) ?_
  obtain ⟨hsh, hb⟩ := chk_inv hb
  refine sq 8 rfl rfl (Y_shr (k := .i64) (a := row) (k' := .u64) (b := (IntKind.u64.wrap k_)) rfl rfl rfl hsh) ?_
  refine sq 9 rfl rfl (Y_gt (k := .i64) (a := (shrK .i64 row (IntKind.u64.wrap k_))) (b := 0) rfl rfl rfl) ?_
  refine rw_nil ?_
  refine cw_cond (b := (decide (0 < (shrK .i64 row (IntKind.u64.wrap k_))))) rfl (fun hb1 => ?_) (fun hb1 => ?_)
  · skip
    have hF2 := ct hb hb1
    refine cw_skip ?_
    refine cw_seq ?_
    obtain ⟨z1, hz1, hF3⟩ := bind_inv hF2
    refine cw_mid (fun f w => ∃ (out1 : List Int) (B2 : Option Addr) (c2 : Nat), out1 = z1 ∧ FF f [(0, .int .i64 row), (3, .slice B2 out1.length c2), (4, .int .i64 k_)] ∧ ST w0 [] w [⟨B2, 3, (out1.flatMap encI), c2 * 1⟩] []) ?_ ?_
    · skip
      refine cw_block ?_
      refine cw_seq ?_
      refine cw_region ?_
      refine sq 12 rfl rfl (Y_move (v := .int .i64 row) rfl (hf.get 0 0 rfl)) ?_
      refine sq 13 rfl rfl (Y_move (v := .int .i64 k_) rfl (hf.get 4 2 rfl)) ?_
      refine sq 14 rfl rfl (Y_conv (k := .i64) (a := k_) (T := 3) (T' := 63) k_us_3 k_int_63_u64 rfl rfl) ?_
      obtain ⟨hsh1, hz1⟩ := chk_inv hz1
      refine sq 15 rfl rfl (Y_shr (k := .i64) (a := row) (k' := .u64) (b := (IntKind.u64.wrap k_)) rfl rfl rfl hsh1) ?_
      refine sq 16 rfl rfl (Y_band (k := .i64) (a := (shrK .i64 row (IntKind.u64.wrap k_))) (b := 1) rfl rfl rfl) ?_
      refine sq 17 rfl rfl (Y_eq (k := .i64) (a := (bits .and .i64 (shrK .i64 row (IntKind.u64.wrap k_)) 1)) (b := 1) rfl rfl rfl) ?_
      refine rw_nil ?_
      refine cw_cond (b := ((bits .and .i64 (shrK .i64 row (IntKind.u64.wrap k_)) 1) == 1)) rfl (fun hb2 => ?_) (fun hb2 => ?_)
      · skip
        have hF4 := ct hz1 hb2
        refine cw_region ?_
        refine sq 18 rfl rfl (Y_move (v := .slice B1 out.length c1) rfl (hf.get 3 1 rfl)) ?_
        refine sq 19 rfl rfl (Y_move (v := .int .i64 k_) rfl (hf.get 4 2 rfl)) ?_
        refine ss 20 rfl rfl (Ys_bslice (s := 1) (len := 1) (vs := [(0, .int .i64 k_)]) (cs := [.int .i64 k_]) (zs := [.int .i64 0]) (m := 1) hS1 k_sl_48_3 k_sz_3_1 k_zc_3 rfl (mpc rfl mpn) rfl rfl rfl (by kernel_rfl) (by kernel_rfl) rfl) ?_
        rintro _ w_ ⟨b, rfl, hS4⟩
        have hS4 : ST w0 [] _ [⟨B1, 3, (out.flatMap encI), c1 * 1⟩, ⟨some ⟨b, 0, none⟩, 3, ([k_].flatMap encI), 1 * 1⟩] [] := hS4
        obtain ⟨hap, hF4⟩ := chk_inv hF4
        refine ss 21 rfl rfl (Ys_append (s := 1) (by' := 8) (i := 0) (nn := out.length) (c := c1) (k := 1) (len := (out ++ [k_]).length) (B := B1) (xs := ([k_].flatMap encI)) (cs' := ((out ++ [k_]).flatMap encI)) hS4 k_sl_48_3 k_sz_3_1 k_by_3_8 k_zero_3 rfl (by decide) rfl rfl rfl rfl (fm_lenn (l := out) encI_len rfl) rfl (hS4.cf (i := 1) rfl) (fm_lenn (l := [k_]) encI_len rfl) (fm_one' (enc := encI) encI_one [k_]) (by have := hap; omega) (by have := hap; simp only [maxLen]; omega) (fm_app _ _) (app_len (l := out) (l' := [k_]) rfl rfl)) ?_
        rintro _ w_1 ⟨B3, c3, rfl, hS5⟩
        have hS5 : ST w0 [] _ [⟨B3, 3, ((out ++ [k_]).flatMap encI), c3 * 1⟩, ⟨some ⟨b, 0, none⟩, 3, ([k_].flatMap encI), 1 * 1⟩] [] := hS5
        refine sq 3 rfl rfl (Y_assign (v := .slice B3 ((out ++ [k_]).length) c3) rfl rfl) ?_
        refine rw_nil ?_
        exact ⟨(out ++ [k_]), B3, c3, (some_inj hF4), (FF.cons (hf.get 0 0 rfl) (FF.cons rfl (FF.cons (hf.get 4 2 rfl) FF.nil))), (hS5.sel [0] rfl rfl)⟩
      · skip
        have hF5 := cf' hz1 hb2
        refine cw_skip ?_
        exact ⟨out, B1, c1, (some_inj hF5), (FF.cons (hf.get 0 0 rfl) (FF.cons (hf.get 3 1 rfl) (FF.cons (hf.get 4 2 rfl) FF.nil))), (hS1.sel [0] rfl rfl)⟩
    rintro f w ⟨out1, B2, c2, rfl, hf1, hS3⟩
    refine cw_region ?_
    refine sq 10 rfl rfl (Y_move (v := .int .i64 k_) rfl (hf1.get 4 2 rfl)) ?_
    refine sq 11 rfl rfl (Y_add (k := .i64) (a := k_) (b := 1) rfl rfl rfl) ?_
    refine sq 4 rfl rfl (Y_assign (v := .int .i64 (IntKind.i64.wrap (k_ + 1))) rfl rfl) ?_
    refine rw_nil ?_
    obtain rfl := some_inj hF3
    exact ⟨k_2, Nat.lt_succ_self _, out1, (IntKind.i64.wrap (k_ + 1)), B2, c2, (FF.cons (hf1.get 0 0 rfl) (FF.cons (hf1.get 3 1 rfl) (FF.cons rfl FF.nil))), (hS3.sel [0] rfl rfl), hL1⟩
  · skip
    have hF6 := cf' hb hb1
    refine cw_exit rfl ?_
    obtain rfl := some_inj hF6
    obtain rfl := some_inj hL1
    refine cw_seq ?_
    refine cw_region ?_
    refine sq 22 rfl rfl (Y_move (v := .slice B1 out.length c1) rfl (hf.get 3 1 rfl)) ?_
    refine sq 2 rfl rfl (Y_assign (v := .slice B1 out.length c1) rfl rfl) ?_
    refine rw_nil ?_
    refine cw_ret ?_
    obtain rfl := some_inj hF1
    exact ret1 Try.results123 (v1 := .slice B1 out.length c1) (resAt_tmp rfl) ⟨B1, c1, rfl, (ST.subR (R' := []) (hS1.sel [0] rfl rfl) (fun _ h => by cases h))⟩

theorem c_spec_l1Put (l : List Int) (n1 : Int) (B : Option Addr) (c n : Nat) (w0 : World) (hn : l.length = n) (hS : ST w0 (bl [⟨B, 3, (l.flatMap encI), c * 1⟩]) w0 [⟨B, 3, (l.flatMap encI), c * 1⟩] []) {r_ : List Int} (hF : F_spec_l1Put l n1 = some r_) :
    CV Try.prog 163 #[.slice B n c, .int .i64 n1] w0 (fun v w' => ∃ (B1 : Option Addr) (c1 : Nat), v = .slice B1 r_.length c1 ∧ ST w0 (bl [⟨B, 3, (l.flatMap encI), c * 1⟩]) w' [⟨B1, 3, (r_.flatMap encI), c1 * 1⟩] []) := by
  subst hn
  unfold F_spec_l1Put at hF
  refine cv_of_cw 48 Try.func163 rfl Try.ntmps163 rfl ?_
  refine cw_seq ?_
  refine cw_region ?_
  refine sq 4 rfl rfl (Y_assign (v := .slice none 0 0) rfl rfl) ?_
  refine rw_nil ?_
  refine cw_seq ?_
  refine cw_region ?_
  refine sq 5 rfl rfl (Y_assign (v := .int .i64 0) rfl rfl) ?_
  refine rw_nil ?_
  refine cw_seq ?_
  obtain ⟨z, hz, hF1⟩ := bind_inv hF
  refine cw_block ?_
  refine cw_loop (fun k f w => ∃ (k_ : Int), FF f [(0, .slice B l.length c), (1, .int .i64 n1), (5, .int .i64 k_)] ∧ ST w0 (bl [⟨B, 3, (l.flatMap encI), c * 1⟩]) w [⟨B, 3, (l.flatMap encI), c * 1⟩] [] ∧ whX (F_spec_l1Put_l1 l n1) k k_ = some z) fuel ⟨0, (FF.cons rfl (FF.cons rfl (FF.cons rfl FF.nil))), (hS.sel [0] rfl rfl), hz⟩ ?_
  rintro k_1 f w ⟨k_, hf, hS1, hL⟩
  obtain ⟨k_2, y, rfl, hb, hL1⟩ := whX_go hL
  unfold F_spec_l1Put_l1 at hb
  refine cw_seq ?_
  refine cw_seq ?_
  refine cw_region ?_
  refine sq 7 rfl rfl (Y_move (v := .int .i64 k_) rfl (hf.get 5 2 rfl)) ?_
  refine sq 8 rfl rfl (Y_move (v := .slice B l.length c) rfl (hf.get 0 0 rfl)) ?_
  refine sq 9 rfl rfl (Y_len (B := B) (m := l.length) (c := c) k_sl_48_3 rfl rfl) ?_
  refine sq 10 rfl rfl (Y_lt (k := .i64) (a := k_) (b := (l.length : Int)) rfl rfl rfl) ?_
  refine sq 11 rfl rfl (Y_move (v := .bool (decide (k_ < (l.length : Int)))) rfl rfl) ?_
  refine sgq 12 (B := (decide (k_ < (l.length : Int)))) (v := .slice B l.length c) rfl rfl (wt_t (gd_of (t := 11) (by kernel_rfl) rfl)) (fun hg => (Y_move (v := .slice B l.length c) rfl (hf.get 0 0 rfl))) ?_
  refine sgq 13 (B := (decide (k_ < (l.length : Int)))) (v := .int .i64 k_) rfl rfl (wt_t (gd_of (t := 11) (by kernel_rfl) rfl)) (fun hg1 => (Y_move (v := .int .i64 k_) rfl (hf.get 5 2 rfl))) ?_
  obtain ⟨x, hx, hb⟩ := bind_inv hb
  refine sgq 14 (B := (decide (k_ < (l.length : Int)))) (v := pt B (k_.toNat * 1)) rfl rfl (wt_t (gd_of (t := 11) (by kernel_rfl) rfl)) (fun hg2 => (Y_index (B := B) (m := l.length) (c := c) (k := .i64) (i := k_) k_sl_48_3 k_sz_3_1 rfl (gv_of (B := (decide (k_ < (l.length : Int)))) (v := .slice B l.length c) hg2) (gv_of (B := (decide (k_ < (l.length : Int)))) (v := .int .i64 k_) hg2) (gi_isSome encI_len rfl (hS1.cf (i := 0) rfl) (gb_inv hx hg2)) (getI_nn (gb_inv hx hg2)) (getI_ltI (gb_inv hx hg2) rfl))) ?_
  refine sgq 15 (B := (decide (k_ < (l.length : Int)))) (v := .int .i64 x) rfl rfl (wt_t (gd_of (t := 11) (by kernel_rfl) rfl)) (fun hg3 => (Y_load1 (B := B) (i := k_.toNat * 1) (cs := (l.flatMap encI)) (v := .int .i64 x) k_sc_3 rfl (gv_of (B := (decide (k_ < (l.length : Int)))) (v := pt B (k_.toNat * 1)) hg3) (hS1.cf (i := 0) rfl) (gi_at0 encI_len (gb_inv hx hg3) rfl))) ?_
  refine sgq 16 (B := (decide (k_ < (l.length : Int)))) (v := .int .i64 n1) rfl rfl (wt_t (gd_of (t := 11) (by kernel_rfl) rfl)) (fun hg4 => (Y_move (v := .int .i64 n1) rfl (hf.get 1 1 rfl))) ?_
  refine sgq 17 (B := (decide (k_ < (l.length : Int)))) (v := .bool (decide (x < n1))) rfl rfl (wt_t (gd_of (t := 11) (by kernel_rfl) rfl)) (fun hg5 => (Y_lt (k := .i64) (a := x) (b := n1) rfl (gv_of (B := (decide (k_ < (l.length : Int)))) (v := .int .i64 x) hg5) (gv_of (B := (decide (k_ < (l.length : Int)))) (v := .int .i64 n1) hg5))) ?_
  refine sq 18 rfl rfl (Y_and (b := (decide (k_ < (l.length : Int)))) (z := (decide (x < n1))) rfl rfl rfl rfl) ?_
  refine rw_nil ?_
  refine cw_cond (b := ((decide (k_ < (l.length : Int))) && (decide (x < n1)))) rfl (fun hb1 => ?_) (fun hb1 => ?_)
  · skip
    have hF2 := ct hb hb1
    refine cw_skip ?_
    refine cw_block ?_
    refine cw_region ?_
    refine sq 19 rfl rfl (Y_move (v := .int .i64 k_) rfl (hf.get 5 2 rfl)) ?_
    refine sq 20 rfl rfl (Y_add (k := .i64) (a := k_) (b := 1) rfl rfl rfl) ?_
    refine sq 5 rfl rfl (Y_assign (v := .int .i64 (IntKind.i64.wrap (k_ + 1))) rfl rfl) ?_
    refine rw_nil ?_
    obtain rfl := some_inj hF2
    exact ⟨k_2, Nat.lt_succ_self _, (IntKind.i64.wrap (k_ + 1)), (FF.cons (hf.get 0 0 rfl) (FF.cons (hf.get 1 1 rfl) (FF.cons rfl FF.nil))), (hS1.sel [0] rfl rfl), hL1⟩
  · skip
    have hF3 := cf' hb hb1
    refine cw_exit rfl ?_
    obtain rfl := some_inj hF3
    obtain rfl := some_inj hL1
    refine cw_seq ?_
    refine cw_seq ?_
    refine cw_region ?_
    refine sq 21 rfl rfl (Y_move (v := .int .i64 k_) rfl (hf.get 5 2 rfl)) ?_
    refine sq 22 rfl rfl (Y_move (v := .slice B l.length c) rfl (hf.get 0 0 rfl)) ?_
    refine sq 23 rfl rfl (Y_len (B := B) (m := l.length) (c := c) k_sl_48_3 rfl rfl) ?_
    refine sq 24 rfl rfl (Y_lt (k := .i64) (a := k_) (b := (l.length : Int)) rfl rfl rfl) ?_
    refine sq 25 rfl rfl (Y_move (v := .bool (decide (k_ < (l.length : Int)))) rfl rfl) ?_
    refine sgq 26 (B := (decide (k_ < (l.length : Int)))) (v := .slice B l.length c) rfl rfl (wt_t (gd_of (t := 25) (by kernel_rfl) rfl)) (fun hg6 => (Y_move (v := .slice B l.length c) rfl (hf.get 0 0 rfl))) ?_
    refine sgq 27 (B := (decide (k_ < (l.length : Int)))) (v := .int .i64 k_) rfl rfl (wt_t (gd_of (t := 25) (by kernel_rfl) rfl)) (fun hg7 => (Y_move (v := .int .i64 k_) rfl (hf.get 5 2 rfl))) ?_
    obtain ⟨x1, hx1, hF1⟩ := bind_inv hF1
    refine sgq 28 (B := (decide (k_ < (l.length : Int)))) (v := pt B (k_.toNat * 1)) rfl rfl (wt_t (gd_of (t := 25) (by kernel_rfl) rfl)) (fun hg8 => (Y_index (B := B) (m := l.length) (c := c) (k := .i64) (i := k_) k_sl_48_3 k_sz_3_1 rfl (gv_of (B := (decide (k_ < (l.length : Int)))) (v := .slice B l.length c) hg8) (gv_of (B := (decide (k_ < (l.length : Int)))) (v := .int .i64 k_) hg8) (gi_isSome encI_len rfl (hS1.cf (i := 0) rfl) (gb_inv hx1 hg8)) (getI_nn (gb_inv hx1 hg8)) (getI_ltI (gb_inv hx1 hg8) rfl))) ?_
    refine sgq 29 (B := (decide (k_ < (l.length : Int)))) (v := .int .i64 x1) rfl rfl (wt_t (gd_of (t := 25) (by kernel_rfl) rfl)) (fun hg9 => (Y_load1 (B := B) (i := k_.toNat * 1) (cs := (l.flatMap encI)) (v := .int .i64 x1) k_sc_3 rfl (gv_of (B := (decide (k_ < (l.length : Int)))) (v := pt B (k_.toNat * 1)) hg9) (hS1.cf (i := 0) rfl) (gi_at0 encI_len (gb_inv hx1 hg9) rfl))) ?_
    refine sgq 30 (B := (decide (k_ < (l.length : Int)))) (v := .int .i64 n1) rfl rfl (wt_t (gd_of (t := 25) (by kernel_rfl) rfl)) (fun hg10 => (Y_move (v := .int .i64 n1) rfl (hf.get 1 1 rfl))) ?_
    refine sgq 31 (B := (decide (k_ < (l.length : Int)))) (v := .bool (x1 == n1)) rfl rfl (wt_t (gd_of (t := 25) (by kernel_rfl) rfl)) (fun hg11 => (Y_eq (k := .i64) (a := x1) (b := n1) rfl (gv_of (B := (decide (k_ < (l.length : Int)))) (v := .int .i64 x1) hg11) (gv_of (B := (decide (k_ < (l.length : Int)))) (v := .int .i64 n1) hg11))) ?_
    refine sq 32 rfl rfl (Y_and (b := (decide (k_ < (l.length : Int)))) (z := (x1 == n1)) rfl rfl rfl rfl) ?_
    refine rw_nil ?_
    refine cw_cond (b := ((decide (k_ < (l.length : Int))) && (x1 == n1))) rfl (fun hb2 => ?_) (fun hb2 => ?_)
    · skip
      have hF4 := ct hF1 hb2
      refine cw_seq ?_
      refine cw_region ?_
      refine sq 33 rfl rfl (Y_move (v := .slice B l.length c) rfl (hf.get 0 0 rfl)) ?_
      refine sq 4 rfl rfl (Y_assign (v := .slice B l.length c) rfl rfl) ?_
      refine rw_nil ?_
      refine cw_ret ?_
      obtain rfl := some_inj hF4
      exact ret1 Try.results163 (v1 := .slice B l.length c) (resAt_tmp rfl) ⟨B, c, rfl, (ST.subR (R' := []) (hS1.sel [0] rfl rfl) (fun _ h => by cases h))⟩
    · skip
      have hF5 := cf' hF1 hb2
      refine cw_skip ?_
      refine cw_seq ?_
      refine cw_region ?_
      refine ss 34 rfl rfl (Ys_bslice0 (s := 1) (e := 3) hS1 k_sl_48_3 k_sz_3_1 rfl) ?_
      rintro _ w_ ⟨b, rfl, hS2⟩
      have hS2 : ST w0 (bl [⟨B, 3, (l.flatMap encI), c * 1⟩]) _ [⟨B, 3, (l.flatMap encI), c * 1⟩, ⟨some ⟨b, 0, none⟩, 3, ([].flatMap encI), 0 * 1⟩] [] := hS2
      refine sq 35 rfl rfl (Y_move (v := .slice B l.length c) rfl (hf.get 0 0 rfl)) ?_
      refine sq 36 rfl rfl (Y_move (v := .int .i64 k_) rfl (hf.get 5 2 rfl)) ?_
      obtain ⟨hsl, hF5⟩ := chk_inv hF5
      have hcap : l.length ≤ c := (hS2.lencap (i := 0) rfl (fm_lenn (l := l) encI_len rfl) rfl rfl)
      have ho1 : Org w0 (bl [⟨B, 3, (l.flatMap encI), c * 1⟩]) [] [⟨B, (l.flatMap encI)⟩] := ST.orgOwn hS2 (i := 0) rfl
      have hcap1 : l.length ≤ c := (hS2.lencap (i := 0) rfl (fm_lenn (l := l) encI_len rfl) rfl rfl)
      have hS3 : ST w0 (bl [⟨B, 3, (l.flatMap encI), c * 1⟩]) _ [⟨some ⟨b, 0, none⟩, 3, ([].flatMap encI), 0 * 1⟩] [⟨B, (l.flatMap encI)⟩] := hS2.freeze (i := 0) rfl
      have hv : (List.take k_.toNat l).length = k_.toNat := (take_len rfl (by omega))
      have hq : k_.toNat ≤ c := by omega
      have ho : Org w0 (bl [⟨B, 3, (l.flatMap encI), c * 1⟩]) [] [⟨B, ((List.take k_.toNat l).flatMap encI)⟩] := org_view encI_len (q := c) ho1 (sv_zero _ _ _).symm rfl
      have hS4 : ST w0 (bl [⟨B, 3, (l.flatMap encI), c * 1⟩]) _ [⟨some ⟨b, 0, none⟩, 3, ([].flatMap encI), 0 * 1⟩] [⟨B, ((List.take k_.toNat l).flatMap encI)⟩, ⟨B, (l.flatMap encI)⟩] := ST.view encI_len hS3 (i := 0) rfl (lo := 0) (h := k_.toNat) (q := c) (by omega) (by omega) (sv_zero _ _ _).symm rfl
      refine sq 37 rfl rfl (Y_slice0 (B := B) (m := l.length) (c := c) (h := k_.toNat) (s := 1) k_sl_48_3 k_sz_3_1 rfl rfl (bnd_some rfl (nn_toNat (by omega))) (by omega)) ?_
      obtain ⟨hap, hF5⟩ := chk_inv hF5
      refine ss 38 rfl rfl (Ys_append (s := 1) (by' := 8) (i := 0) (nn := 0) (c := 0) (k := k_.toNat) (len := (List.take k_.toNat l).length) (B := some ⟨b, 0, none⟩) (xs := ((List.take k_.toNat l).flatMap encI)) (cs' := ((List.take k_.toNat l).flatMap encI)) hS4 k_sl_48_3 k_sz_3_1 k_by_3_8 k_zero_3 rfl (by decide) rfl rfl rfl rfl (fm_lenn (l := []) encI_len rfl) rfl (hS4.rf (i := 0) rfl) (fm_lenn (l := (List.take k_.toNat l)) encI_len hv) (fm_one' (enc := encI) encI_one (List.take k_.toNat l)) (by have := hap; omega) (by have := hap; simp only [maxLen]; omega) rfl (app_len0 (l := (List.take k_.toNat l)) hv)) ?_
      rintro _ w_1 ⟨B2, c2, rfl, hS5⟩
      refine sq 6 rfl rfl (Y_assign (v := .slice B2 ((List.take k_.toNat l).length) c2) rfl rfl) ?_
      refine rw_nil ?_
      refine cw_seq ?_
      refine cw_region ?_
      refine sq 39 rfl rfl (Y_move (v := .slice B2 ((List.take k_.toNat l).length) c2) rfl rfl) ?_
      refine sq 40 rfl rfl (Y_move (v := .int .i64 n1) rfl (hf.get 1 1 rfl)) ?_
      refine ss 41 rfl rfl (Ys_bslice (s := 1) (len := 1) (vs := [(0, .int .i64 n1)]) (cs := [.int .i64 n1]) (zs := [.int .i64 0]) (m := 1) hS5 k_sl_48_3 k_sz_3_1 k_zc_3 rfl (mpc rfl mpn) rfl rfl rfl (by kernel_rfl) (by kernel_rfl) rfl) ?_
      rintro _ w_2 ⟨b1, rfl, hS6⟩
      have hS6 : ST w0 (bl [⟨B, 3, (l.flatMap encI), c * 1⟩]) _ [⟨B2, 3, ((List.take k_.toNat l).flatMap encI), c2 * 1⟩, ⟨some ⟨b1, 0, none⟩, 3, ([n1].flatMap encI), 1 * 1⟩] [⟨B, ((List.take k_.toNat l).flatMap encI)⟩, ⟨B, (l.flatMap encI)⟩] := hS6
      obtain ⟨hap1, hF5⟩ := chk_inv hF5
      refine ss 42 rfl rfl (Ys_append (s := 1) (by' := 8) (i := 0) (nn := (List.take k_.toNat l).length) (c := c2) (k := 1) (len := ((List.take k_.toNat l) ++ [n1]).length) (B := B2) (xs := ([n1].flatMap encI)) (cs' := (((List.take k_.toNat l) ++ [n1]).flatMap encI)) hS6 k_sl_48_3 k_sz_3_1 k_by_3_8 k_zero_3 rfl (by decide) rfl rfl rfl rfl (fm_lenn (l := (List.take k_.toNat l)) encI_len rfl) rfl (hS6.cf (i := 1) rfl) (fm_lenn (l := [n1]) encI_len rfl) (fm_one' (enc := encI) encI_one [n1]) (by have := hap1; omega) (by have := hap1; simp only [maxLen]; omega) (fm_app _ _) (app_len (l := (List.take k_.toNat l)) (l' := [n1]) rfl rfl)) ?_
      rintro _ w_3 ⟨B3, c3, rfl, hS7⟩
      have hS7 : ST w0 (bl [⟨B, 3, (l.flatMap encI), c * 1⟩]) _ [⟨B3, 3, (((List.take k_.toNat l) ++ [n1]).flatMap encI), c3 * 1⟩, ⟨some ⟨b1, 0, none⟩, 3, ([n1].flatMap encI), 1 * 1⟩] [⟨B, ((List.take k_.toNat l).flatMap encI)⟩, ⟨B, (l.flatMap encI)⟩] := hS7
      refine sq 6 rfl rfl (Y_assign (v := .slice B3 (((List.take k_.toNat l) ++ [n1]).length) c3) rfl rfl) ?_
      refine rw_nil ?_
      refine cw_seq ?_
      refine cw_region ?_
      refine sq 43 rfl rfl (Y_move (v := .slice B3 (((List.take k_.toNat l) ++ [n1]).length) c3) rfl rfl) ?_
      refine sq 44 rfl rfl (Y_move (v := .slice B l.length c) rfl (hf.get 0 0 rfl)) ?_
      refine sq 45 rfl rfl (Y_move (v := .int .i64 k_) rfl (hf.get 5 2 rfl)) ?_
      obtain ⟨hsl1, hF5⟩ := chk_inv hF5
      have hcap2 : l.length ≤ c := hcap1
      have hv1 : (List.drop k_.toNat l).length = (l.length - k_.toNat) := (drop_len rfl)
      have hq1 : (l.length - k_.toNat) ≤ (c - k_.toNat) := by omega
      have ho2 : Org w0 (bl [⟨B, 3, (l.flatMap encI), c * 1⟩]) [] [⟨(sv B k_.toNat c 1), ((List.drop k_.toNat l).flatMap encI)⟩] := org_view encI_len (q := c) ho1 rfl (take_all rfl _)
      have hS8 : ST w0 (bl [⟨B, 3, (l.flatMap encI), c * 1⟩]) _ [⟨B3, 3, (((List.take k_.toNat l) ++ [n1]).flatMap encI), c3 * 1⟩, ⟨some ⟨b1, 0, none⟩, 3, ([n1].flatMap encI), 1 * 1⟩] [⟨(sv B k_.toNat c 1), ((List.drop k_.toNat l).flatMap encI)⟩, ⟨B, ((List.take k_.toNat l).flatMap encI)⟩, ⟨B, (l.flatMap encI)⟩] := ST.view encI_len hS7 (i := 1) rfl (lo := k_.toNat) (h := l.length) (q := c) (by omega) (by omega) rfl (take_all rfl _)
      refine sq 46 rfl rfl (Y_slice1 (B := B) (m := l.length) (c := c) (l := k_.toNat) (h := l.length) (s := 1) k_sl_48_3 k_sz_3_1 rfl rfl rfl (bnd_some rfl (nn_toNat (by omega))) (by omega) (by omega)) ?_
      obtain ⟨hap2, hF5⟩ := chk_inv hF5
      refine ss 47 rfl rfl (Ys_append (s := 1) (by' := 8) (i := 0) (nn := ((List.take k_.toNat l) ++ [n1]).length) (c := c3) (k := (l.length - k_.toNat)) (len := (((List.take k_.toNat l) ++ [n1]) ++ (List.drop k_.toNat l)).length) (B := B3) (xs := ((List.drop k_.toNat l).flatMap encI)) (cs' := ((((List.take k_.toNat l) ++ [n1]) ++ (List.drop k_.toNat l)).flatMap encI)) hS8 k_sl_48_3 k_sz_3_1 k_by_3_8 k_zero_3 rfl (by decide) rfl rfl rfl rfl (fm_lenn (l := ((List.take k_.toNat l) ++ [n1])) encI_len rfl) rfl (hS8.rf (i := 0) rfl) (fm_lenn (l := (List.drop k_.toNat l)) encI_len hv1) (fm_one' (enc := encI) encI_one (List.drop k_.toNat l)) (by have := hap2; omega) (by have := hap2; simp only [maxLen]; omega) (fm_app _ _) (app_len (l := ((List.take k_.toNat l) ++ [n1])) (l' := (List.drop k_.toNat l)) rfl hv1)) ?_
      rintro _ w_4 ⟨B4, c4, rfl, hS9⟩
      have hS9 : ST w0 (bl [⟨B, 3, (l.flatMap encI), c * 1⟩]) _ [⟨B4, 3, ((((List.take k_.toNat l) ++ [n1]) ++ (List.drop k_.toNat l)).flatMap encI), c4 * 1⟩, ⟨some ⟨b1, 0, none⟩, 3, ([n1].flatMap encI), 1 * 1⟩] [⟨(sv B k_.toNat c 1), ((List.drop k_.toNat l).flatMap encI)⟩, ⟨B, ((List.take k_.toNat l).flatMap encI)⟩, ⟨B, (l.flatMap encI)⟩] := hS9
      refine sq 4 rfl rfl (Y_assign (v := .slice B4 ((((List.take k_.toNat l) ++ [n1]) ++ (List.drop k_.toNat l)).length) c4) rfl rfl) ?_
      refine rw_nil ?_
      refine cw_ret ?_
      obtain rfl := some_inj hF5
      exact ret1 Try.results163 (v1 := .slice B4 ((((List.take k_.toNat l) ++ [n1]) ++ (List.drop k_.toNat l)).length) c4) (resAt_tmp rfl) ⟨B4, c4, rfl, (ST.subR (R' := []) (hS9.sel [0] rfl rfl) (fun _ h => by cases h))⟩

theorem c_spec_l13Parity (n : Int)  (w0 : World)  (hS : ST w0 [] w0 [] []) {r_ : Int} (hF : F_spec_l13Parity n = some r_) :
    CV Try.prog 132 #[.int .i64 n] w0 (fun v w' => v = .int .i64 r_ ∧ ST w0 [] w' [] []) := by
  unfold F_spec_l13Parity at hF
  refine cv_of_cw 7 Try.func132 rfl Try.ntmps132 rfl ?_
  refine cw_seq ?_
  refine cw_region ?_
  refine sq 2 rfl rfl (Y_assign (v := .int .i64 0) rfl rfl) ?_
  refine rw_nil ?_
  refine cw_seq ?_
  refine cw_region ?_
  refine sq 3 rfl rfl (Y_move (v := .int .i64 n) rfl rfl) ?_
  obtain ⟨r_1, hc, hF⟩ := bind_inv hF
  refine sc 4 rfl rfl (Yc_func (g := 123) (vs := [.int .i64 n]) k_call_123 rfl (mc rfl mn) (c_spec_l1Set n _  (hS.inn0 [] rfl) hc)) ?_
  rintro _ w_ ⟨B, c, rfl, hd⟩
  have hS1 := hS.out0 hd
  refine sq 5 rfl rfl (Y_len (B := B) (m := r_1.length) (c := c) k_sl_48_3 rfl rfl) ?_
  refine sq 6 rfl rfl (Y_rem (k := .i64) (a := (r_1.length : Int)) (b := 2) rfl rfl rfl (by decide)) ?_
  refine sq 2 rfl rfl (Y_assign (v := .int .i64 (Int.tmod (r_1.length : Int) 2)) rfl rfl) ?_
  refine rw_nil ?_
  refine cw_ret ?_
  obtain rfl := some_inj hF
  exact ret1 Try.results132 (v1 := .int .i64 (Int.tmod (r_1.length : Int) 2)) (resAt_tmp rfl) ⟨rfl, (ST.subR (R' := []) (hS1.sel [] rfl rfl) (fun _ h => by cases h))⟩

theorem c_spec_l15Affine (n : Int) (a : Int) (turned : Int)  (w0 : World)  (hS : ST w0 [] w0 [] []) {r_ : Int} (hF : F_spec_l15Affine n a turned = some r_) :
    CV Try.prog 164 #[.int .i64 n, .int .i64 a, .int .i64 turned] w0 (fun v w' => v = .int .i64 r_ ∧ ST w0 [] w' [] []) := by
  unfold F_spec_l15Affine at hF
  refine cv_of_cw 29 Try.func164 rfl Try.ntmps164 rfl ?_
  refine cw_seq ?_
  refine cw_region ?_
  refine sq 6 rfl rfl (Y_assign (v := .int .i64 0) rfl rfl) ?_
  refine rw_nil ?_
  refine cw_seq ?_
  refine cw_region ?_
  refine sq 7 rfl rfl (Y_assign (v := .int .i64 0) rfl rfl) ?_
  refine rw_nil ?_
  refine cw_seq ?_
  refine cw_seq ?_
  refine cw_region ?_
  refine sq 8 rfl rfl (Y_assign (v := .int .i64 1) rfl rfl) ?_
  refine rw_nil ?_
  obtain ⟨z, hz, hF1⟩ := bind_inv hF
  refine cw_block ?_
  refine cw_loop (fun k f w => ∃ (word : Int) (m : Int), FF f [(0, .int .i64 n), (1, .int .i64 a), (2, .int .i64 turned), (7, .int .i64 word), (8, .int .i64 m)] ∧ ST w0 [] w [] [] ∧ whX (F_spec_l15Affine_l1 n a turned) k (word, m) = some z) fuel ⟨0, 1, (FF.cons rfl (FF.cons rfl (FF.cons rfl (FF.cons rfl (FF.cons rfl FF.nil))))), (hS.sel [] rfl rfl), hz⟩ ?_
  rintro k_ f w ⟨word, m, hf, hS1, hL⟩
  obtain ⟨k_1, y, rfl, hb, hL1⟩ := whX_go hL
  unfold F_spec_l15Affine_l1 at hb
  refine cw_seq ?_
  refine cw_seq ?_
  refine cw_region ?_
  refine sq 9 rfl rfl (Y_move (v := .int .i64 m) rfl (hf.get 8 4 rfl)) ?_
  refine sq 10 rfl rfl (Y_move (v := .int .i64 n) rfl (hf.get 0 0 rfl)) ?_
  refine sq 11 rfl rfl (Y_conv (k := .i64) (a := n) (T := 3) (T' := 63) k_us_3 k_int_63_u64 rfl rfl) ?_
  obtain ⟨hsh, hb⟩ := chk_inv hb
  refine sq 12 rfl rfl (Y_shl (k := .i64) (a := 1) (k' := .u64) (b := (IntKind.u64.wrap n)) rfl rfl rfl hsh) ?_
  refine sq 13 rfl rfl (Y_lt (k := .i64) (a := m) (b := (shlK .i64 1 (IntKind.u64.wrap n))) rfl rfl rfl) ?_
  refine rw_nil ?_
  refine cw_cond (b := (decide (m < (shlK .i64 1 (IntKind.u64.wrap n))))) rfl (fun hb1 => ?_) (fun hb1 => ?_)
  · skip
    have hF2 := ct hb hb1
    refine cw_skip ?_
    refine cw_seq ?_
    refine cw_block ?_
    refine cw_region ?_
    refine sq 16 rfl rfl (Y_move (v := .int .i64 word) rfl (hf.get 7 3 rfl)) ?_
    refine sq 17 rfl rfl (Y_move (v := .int .i64 m) rfl (hf.get 8 4 rfl)) ?_
    refine sq 18 rfl rfl (Y_move (v := .int .i64 a) rfl (hf.get 1 1 rfl)) ?_
    refine sq 19 rfl rfl (Y_band (k := .i64) (a := m) (b := a) rfl rfl rfl) ?_
    obtain ⟨r_1, hc, hF2⟩ := bind_inv hF2
    refine sc 20 rfl rfl (Yc_func (g := 132) (vs := [.int .i64 (bits .and .i64 m a)]) k_call_132 rfl (mc rfl mn) (c_spec_l13Parity (bits .and .i64 m a) _  (hS1.inn0 [] rfl) hc)) ?_
    rintro _ w_ ⟨rfl, hd⟩
    have hS2 := hS1.out00 hd
    refine sq 21 rfl rfl (Y_move (v := .int .i64 turned) rfl (hf.get 2 2 rfl)) ?_
    refine sq 22 rfl rfl (Y_bxor (k := .i64) (a := r_1) (b := turned) rfl rfl rfl) ?_
    refine sq 23 rfl rfl (Y_move (v := .int .i64 m) rfl (hf.get 8 4 rfl)) ?_
    refine sq 24 rfl rfl (Y_sub (k := .i64) (a := m) (b := 1) rfl rfl rfl) ?_
    refine sq 25 rfl rfl (Y_conv (k := .i64) (a := (IntKind.i64.wrap (m - 1))) (T := 3) (T' := 63) k_us_3 k_int_63_u64 rfl rfl) ?_
    obtain ⟨hsh1, hF2⟩ := chk_inv hF2
    refine sq 26 rfl rfl (Y_shl (k := .i64) (a := (bits .xor .i64 r_1 turned)) (k' := .u64) (b := (IntKind.u64.wrap (IntKind.i64.wrap (m - 1)))) rfl rfl rfl hsh1) ?_
    refine sq 27 rfl rfl (Y_bor (k := .i64) (a := word) (b := (shlK .i64 (bits .xor .i64 r_1 turned) (IntKind.u64.wrap (IntKind.i64.wrap (m - 1))))) rfl rfl rfl) ?_
    refine sq 7 rfl rfl (Y_assign (v := .int .i64 (bits .or .i64 word (shlK .i64 (bits .xor .i64 r_1 turned) (IntKind.u64.wrap (IntKind.i64.wrap (m - 1)))))) rfl rfl) ?_
    refine rw_nil ?_
    refine cw_region ?_
    refine sq 14 rfl rfl (Y_move (v := .int .i64 m) rfl (hf.get 8 4 rfl)) ?_
    refine sq 15 rfl rfl (Y_add (k := .i64) (a := m) (b := 1) rfl rfl rfl) ?_
    refine sq 8 rfl rfl (Y_assign (v := .int .i64 (IntKind.i64.wrap (m + 1))) rfl rfl) ?_
    refine rw_nil ?_
    obtain rfl := some_inj hF2
    exact ⟨k_1, Nat.lt_succ_self _, (bits .or .i64 word (shlK .i64 (bits .xor .i64 r_1 turned) (IntKind.u64.wrap (IntKind.i64.wrap (m - 1))))), (IntKind.i64.wrap (m + 1)), (FF.cons (hf.get 0 0 rfl) (FF.cons (hf.get 1 1 rfl) (FF.cons (hf.get 2 2 rfl) (FF.cons rfl (FF.cons rfl FF.nil))))), (hS2.sel [] rfl rfl), hL1⟩
  · skip
    have hF3 := cf' hb hb1
    refine cw_exit rfl ?_
    obtain rfl := some_inj hF3
    obtain rfl := some_inj hL1
    refine cw_seq ?_
    refine cw_region ?_
    refine sq 28 rfl rfl (Y_move (v := .int .i64 word) rfl (hf.get 7 3 rfl)) ?_
    refine sq 6 rfl rfl (Y_assign (v := .int .i64 word) rfl rfl) ?_
    refine rw_nil ?_
    refine cw_ret ?_
    obtain rfl := some_inj hF1
    exact ret1 Try.results164 (v1 := .int .i64 word) (resAt_tmp rfl) ⟨rfl, (ST.subR (R' := []) (hS1.sel [] rfl rfl) (fun _ h => by cases h))⟩

theorem c_spec_l15Codes (n : Int)  (w0 : World)  (hS : ST w0 [] w0 [] []) {r_ : List Int} (hF : F_spec_l15Codes n = some r_) :
    CV Try.prog 130 #[.int .i64 n] w0 (fun v w' => ∃ (B : Option Addr) (c : Nat), v = .slice B r_.length c ∧ ST w0 [] w' [⟨B, 3, (r_.flatMap encI), c * 1⟩] []) := by
  unfold F_spec_l15Codes at hF
  refine cv_of_cw 30 Try.func130 rfl Try.ntmps130 rfl ?_
  refine cw_seq ?_
  refine cw_region ?_
  refine sq 2 rfl rfl (Y_assign (v := .slice none 0 0) rfl rfl) ?_
  refine rw_nil ?_
  refine cw_seq ?_
  refine cw_region ?_
  refine ss 5 rfl rfl (Ys_bslice (s := 1) (len := 1) (vs := [(0, .int .i64 0)]) (cs := [.int .i64 0]) (zs := [.int .i64 0]) (m := 1) hS k_sl_48_3 k_sz_3_1 k_zc_3 rfl (mpc rfl mpn) rfl rfl rfl (by kernel_rfl) (by kernel_rfl) rfl) ?_
  rintro _ w_ ⟨b, rfl, hS1⟩
  refine sq 3 rfl rfl (Y_assign (v := .slice (some ⟨b, 0, none⟩) 1 1) rfl rfl) ?_
  refine rw_nil ?_
  refine cw_seq ?_
  obtain ⟨z, hz, hF1⟩ := bind_inv hF
  refine cw_mid (fun f w => ∃ (out : List Int) (B1 : Option Addr) (c1 : Nat), out = z ∧ FF f [(0, .int .i64 n), (3, .slice B1 out.length c1)] ∧ ST w0 [] w [⟨B1, 3, (out.flatMap encI), c1 * 1⟩] []) ?_ ?_
  · skip
    refine cw_seq ?_
    refine cw_region ?_
    refine sq 6 rfl rfl (Y_move (v := .int .i64 n) rfl rfl) ?_
    refine sq 7 rfl rfl (Y_ge (k := .i64) (a := n) (b := 4) rfl rfl rfl) ?_
    refine rw_nil ?_
    refine cw_cond (b := (decide (4 ≤ n))) rfl (fun hb => ?_) (fun hb => ?_)
    · skip
      have hF2 := ct hz hb
      refine cw_region ?_
      refine sq 8 rfl rfl (Y_move (v := .slice (some ⟨b, 0, none⟩) 1 1) rfl rfl) ?_
      refine sq 9 rfl rfl (Y_move (v := .int .i64 n) rfl rfl) ?_
      obtain ⟨r_1, hc, hF2⟩ := bind_inv hF2
      refine sc 10 rfl rfl (Yc_func (g := 164) (vs := [.int .i64 n, .int .i64 0, .int .i64 1]) k_call_164 rfl (mc rfl (mc rfl (mc rfl mn))) (c_spec_l15Affine n 0 1 _  (hS1.inn0 [] rfl) hc)) ?_
      rintro _ w_1 ⟨rfl, hd⟩
      have hS3 := hS1.out00 hd
      obtain ⟨r_2, hc1, hF2⟩ := bind_inv hF2
      refine sc 11 rfl rfl (Yc_func (g := 163) (vs := [.slice (some ⟨b, 0, none⟩) 1 1, .int .i64 r_1]) k_call_163 rfl (mc rfl (mc rfl mn)) (c_spec_l1Put [0] r_1 (some ⟨b, 0, none⟩) 1 1 _ rfl (hS3.inn [true] rfl [] rfl) hc1)) ?_
      rintro _ w_2 ⟨B2, c2, rfl, hd1⟩
      have hS4 := hS3.out [true] rfl hd1
      refine sq 3 rfl rfl (Y_assign (v := .slice B2 r_2.length c2) rfl rfl) ?_
      refine rw_nil ?_
      exact ⟨r_2, B2, c2, (some_inj hF2), (FF.cons rfl (FF.cons rfl FF.nil)), (hS4.sel [0] rfl rfl)⟩
    · skip
      have hF3 := cf' hz hb
      refine cw_skip ?_
      exact ⟨[0], some ⟨b, 0, none⟩, 1, (some_inj hF3), (FF.cons rfl (FF.cons rfl FF.nil)), (hS1.sel [0] rfl rfl)⟩
  rintro f w ⟨out, B1, c1, rfl, hf, hS2⟩
  refine cw_seq ?_
  refine cw_seq ?_
  refine cw_region ?_
  refine sq 4 rfl rfl (Y_assign (v := .int .i64 1) rfl rfl) ?_
  refine rw_nil ?_
  obtain ⟨z1, hz1, hF4⟩ := bind_inv hF1
  refine cw_block ?_
  refine cw_loop (fun k f w => ∃ (out1 : List Int) (a : Int) (B3 : Option Addr) (c3 : Nat), FF f [(0, .int .i64 n), (3, .slice B3 out1.length c3), (4, .int .i64 a)] ∧ ST w0 [] w [⟨B3, 3, (out1.flatMap encI), c3 * 1⟩] [] ∧ whX (F_spec_l15Codes_l1 n) k (out1, a) = some z1) fuel ⟨out, 1, B1, c1, (FF.cons (hf.get 0 0 rfl) (FF.cons (hf.get 3 1 rfl) (FF.cons rfl FF.nil))), (hS2.sel [0] rfl rfl), hz1⟩ ?_
  rintro k_ f w ⟨out1, a, B3, c3, hf1, hS5, hL⟩
  obtain ⟨k_1, y, rfl, hb1, hL1⟩ := whX_go hL
  unfold F_spec_l15Codes_l1 at hb1
  refine cw_seq ?_
  refine cw_seq ?_
  refine cw_region ?_
  refine sq 12 rfl rfl (Y_move (v := .int .i64 n) rfl (hf1.get 0 0 rfl)) ?_
  refine sq 13 rfl rfl (Y_eq (k := .i64) (a := n) (b := 5) rfl rfl rfl) ?_
  refine sq 14 rfl rfl (Y_move (v := .bool (n == 5)) rfl rfl) ?_
  refine sgq 15 (B := (n == 5)) (v := .int .i64 a) rfl rfl (wt_t (gd_of (t := 14) (by kernel_rfl) rfl)) (fun hg => (Y_move (v := .int .i64 a) rfl (hf1.get 4 2 rfl))) ?_
  refine sgq 16 (B := (n == 5)) (v := .bool (decide (a < 32))) rfl rfl (wt_t (gd_of (t := 14) (by kernel_rfl) rfl)) (fun hg1 => (Y_lt (k := .i64) (a := a) (b := 32) rfl (gv_of (B := (n == 5)) (v := .int .i64 a) hg1) rfl)) ?_
  refine sq 17 rfl rfl (Y_and (b := (n == 5)) (z := (decide (a < 32))) rfl rfl rfl rfl) ?_
  refine rw_nil ?_
  refine cw_cond (b := ((n == 5) && (decide (a < 32)))) rfl (fun hb2 => ?_) (fun hb2 => ?_)
  · skip
    have hF5 := ct hb1 hb2
    refine cw_skip ?_
    refine cw_seq ?_
    refine cw_block ?_
    refine cw_region ?_
    refine sq 20 rfl rfl (Y_move (v := .slice B3 out1.length c3) rfl (hf1.get 3 1 rfl)) ?_
    refine sq 21 rfl rfl (Y_move (v := .int .i64 n) rfl (hf1.get 0 0 rfl)) ?_
    refine sq 22 rfl rfl (Y_move (v := .int .i64 a) rfl (hf1.get 4 2 rfl)) ?_
    obtain ⟨r_3, hc2, hF5⟩ := bind_inv hF5
    refine sc 23 rfl rfl (Yc_func (g := 164) (vs := [.int .i64 n, .int .i64 a, .int .i64 0]) k_call_164 rfl (mc rfl (mc rfl (mc rfl mn))) (c_spec_l15Affine n a 0 _  (hS5.inn0 [] rfl) hc2)) ?_
    rintro _ w_3 ⟨rfl, hd2⟩
    have hS6 := hS5.out00 hd2
    obtain ⟨r_4, hc3, hF5⟩ := bind_inv hF5
    refine sc 24 rfl rfl (Yc_func (g := 163) (vs := [.slice B3 out1.length c3, .int .i64 r_3]) k_call_163 rfl (mc rfl (mc rfl mn)) (c_spec_l1Put out1 r_3 B3 c3 out1.length _ rfl (hS6.inn [true] rfl [] rfl) hc3)) ?_
    rintro _ w_4 ⟨B4, c4, rfl, hd3⟩
    have hS7 := hS6.out [true] rfl hd3
    refine sq 25 rfl rfl (Y_move (v := .int .i64 n) rfl (hf1.get 0 0 rfl)) ?_
    refine sq 26 rfl rfl (Y_move (v := .int .i64 a) rfl (hf1.get 4 2 rfl)) ?_
    obtain ⟨r_5, hc4, hF5⟩ := bind_inv hF5
    refine sc 27 rfl rfl (Yc_func (g := 164) (vs := [.int .i64 n, .int .i64 a, .int .i64 1]) k_call_164 rfl (mc rfl (mc rfl (mc rfl mn))) (c_spec_l15Affine n a 1 _  (hS7.inn0 [] rfl) hc4)) ?_
    rintro _ w_5 ⟨rfl, hd4⟩
    have hS8 := hS7.out00 hd4
    obtain ⟨r_6, hc5, hF5⟩ := bind_inv hF5
    refine sc 28 rfl rfl (Yc_func (g := 163) (vs := [.slice B4 r_4.length c4, .int .i64 r_5]) k_call_163 rfl (mc rfl (mc rfl mn)) (c_spec_l1Put r_4 r_5 B4 c4 r_4.length _ rfl (hS8.inn [true] rfl [] rfl) hc5)) ?_
    rintro _ w_6 ⟨B5, c5, rfl, hd5⟩
    have hS9 := hS8.out [true] rfl hd5
    refine sq 3 rfl rfl (Y_assign (v := .slice B5 r_6.length c5) rfl rfl) ?_
    refine rw_nil ?_
    refine cw_region ?_
    refine sq 18 rfl rfl (Y_move (v := .int .i64 a) rfl (hf1.get 4 2 rfl)) ?_
    refine sq 19 rfl rfl (Y_add (k := .i64) (a := a) (b := 1) rfl rfl rfl) ?_
    refine sq 4 rfl rfl (Y_assign (v := .int .i64 (IntKind.i64.wrap (a + 1))) rfl rfl) ?_
    refine rw_nil ?_
    obtain rfl := some_inj hF5
    exact ⟨k_1, Nat.lt_succ_self _, r_6, (IntKind.i64.wrap (a + 1)), B5, c5, (FF.cons (hf1.get 0 0 rfl) (FF.cons rfl (FF.cons rfl FF.nil))), (hS9.sel [0] rfl rfl), hL1⟩
  · skip
    have hF6 := cf' hb1 hb2
    refine cw_exit rfl ?_
    obtain rfl := some_inj hF6
    obtain rfl := some_inj hL1
    refine cw_seq ?_
    refine cw_region ?_
    refine sq 29 rfl rfl (Y_move (v := .slice B3 out1.length c3) rfl (hf1.get 3 1 rfl)) ?_
    refine sq 2 rfl rfl (Y_assign (v := .slice B3 out1.length c3) rfl rfl) ?_
    refine rw_nil ?_
    refine cw_ret ?_
    obtain rfl := some_inj hF4
    exact ret1 Try.results130 (v1 := .slice B3 out1.length c3) (resAt_tmp rfl) ⟨B3, c3, rfl, (ST.subR (R' := []) (hS5.sel [0] rfl rfl) (fun _ h => by cases h))⟩

theorem c_spec_l1Cur_oddWord (c : Tl1Cur) (n1 : Int) (B : Option Addr) (B1 : Option Addr) (c1 n : Nat) (w0 : World) (hn : c.code.length = n) (hS : ST w0 (bl [⟨B, 87, [.slice B1 n c1, .int .i64 c.at_, .int .u64 c.seed], 3⟩]) w0 [⟨B, 87, [.slice B1 n c1, .int .i64 c.at_, .int .u64 c.seed], 3⟩] [⟨B1, (c.code.flatMap enc_u8)⟩]) {r_ : Int} {m : Tl1Cur} (hF : F_spec_l1Cur_oddWord c n1 = some (r_, m)) :
    CV Try.prog 129 #[pt B 0, .int .i64 n1] w0 (fun v w' => v = .int .i64 r_ ∧ ST w0 (bl [⟨B, 87, [.slice B1 n c1, .int .i64 c.at_, .int .u64 c.seed], 3⟩]) w' [⟨B, 87, [.slice B1 n c1, .int .i64 m.at_, .int .u64 m.seed], 3⟩] []) := by
  subst hn
  unfold F_spec_l1Cur_oddWord at hF
  refine cv_of_cw 55 Try.func129 rfl Try.ntmps129 rfl ?_
  refine cw_seq ?_
  refine cw_region ?_
  refine sq 4 rfl rfl (Y_assign (v := .int .i64 0) rfl rfl) ?_
  refine rw_nil ?_
  refine cw_seq ?_
  refine cw_region ?_
  refine sq 8 rfl rfl (Y_move (v := pt B 0) rfl rfl) ?_
  obtain ⟨⟨r_1, m1⟩, hc, hF⟩ := bind_inv hF
  refine sc 9 rfl rfl (Yc_func (g := 69) (vs := [pt B 0, .int .i64 65536]) k_call_69 rfl (mc rfl (mc rfl mn)) (c_spec_l1Cur_pick c 65536 B B1 c1 c.code.length _ rfl (hS.inn [true] rfl [(true, 0)] rfl) hc)) ?_
  rintro _ w_ ⟨rfl, hd⟩
  have hS1 := hS.out [true] rfl hd
  refine sq 10 rfl rfl (Y_move (v := pt B 0) rfl rfl) ?_
  obtain ⟨⟨r_2, m2⟩, hc1, hF⟩ := bind_inv hF
  refine sc 11 rfl rfl (Yc_func (g := 69) (vs := [pt B 0, .int .i64 32768]) k_call_69 rfl (mc rfl (mc rfl mn)) (c_spec_l1Cur_pick (Tl1Cur.mk c.code m1.at_ m1.seed) 32768 B B1 c1 c.code.length _ rfl (hS1.inn [true] rfl [(true, 0)] rfl) hc1)) ?_
  rintro _ w_1 ⟨rfl, hd1⟩
  have hS2 := hS1.out [true] rfl hd1
  refine sq 12 rfl rfl (Y_mul (k := .i64) (a := 65536) (b := r_2) rfl rfl rfl) ?_
  refine sq 13 rfl rfl (Y_add (k := .i64) (a := r_1) (b := (IntKind.i64.wrap (65536 * r_2))) rfl rfl rfl) ?_
  refine sq 14 rfl rfl (Y_move (v := .int .i64 n1) rfl rfl) ?_
  refine sq 15 rfl rfl (Y_conv (k := .i64) (a := n1) (T := 3) (T' := 63) k_us_3 k_int_63_u64 rfl rfl) ?_
  obtain ⟨hsh, hF⟩ := chk_inv hF
  refine sq 16 rfl rfl (Y_shl (k := .u64) (a := 1) (k' := .u64) (b := (IntKind.u64.wrap n1)) rfl rfl rfl hsh) ?_
  refine sq 17 rfl rfl (Y_sub (k := .u64) (a := (shlK .u64 1 (IntKind.u64.wrap n1))) (b := 1) rfl rfl rfl) ?_
  obtain ⟨hsh1, hF⟩ := chk_inv hF
  refine sq 18 rfl rfl (Y_shl (k := .i64) (a := 1) (k' := .u64) (b := (IntKind.u64.wrap ((shlK .u64 1 (IntKind.u64.wrap n1)) - 1))) rfl rfl rfl hsh1) ?_
  refine sq 19 rfl rfl (Y_sub (k := .i64) (a := (shlK .i64 1 (IntKind.u64.wrap ((shlK .u64 1 (IntKind.u64.wrap n1)) - 1)))) (b := 1) rfl rfl rfl) ?_
  refine sq 20 rfl rfl (Y_band (k := .i64) (a := (IntKind.i64.wrap (r_1 + (IntKind.i64.wrap (65536 * r_2))))) (b := (IntKind.i64.wrap ((shlK .i64 1 (IntKind.u64.wrap ((shlK .u64 1 (IntKind.u64.wrap n1)) - 1))) - 1))) rfl rfl rfl) ?_
  refine sq 5 rfl rfl (Y_assign (v := .int .i64 (bits .and .i64 (IntKind.i64.wrap (r_1 + (IntKind.i64.wrap (65536 * r_2)))) (IntKind.i64.wrap ((shlK .i64 1 (IntKind.u64.wrap ((shlK .u64 1 (IntKind.u64.wrap n1)) - 1))) - 1)))) rfl rfl) ?_
  refine rw_nil ?_
  refine cw_seq ?_
  obtain ⟨z, hz, hF1⟩ := bind_inv hF
  refine cw_mid (fun f w => ∃ (at_ : Int) (seed : Int) (w_2 : Int), (at_, seed, w_2) = z ∧ FF f [(5, .int .i64 w_2)] ∧ ST w0 (bl [⟨B, 87, [.slice B1 c.code.length c1, .int .i64 c.at_, .int .u64 c.seed], 3⟩]) w [⟨B, 87, [.slice B1 c.code.length c1, .int .i64 at_, .int .u64 seed], 3⟩] [⟨B1, (c.code.flatMap enc_u8)⟩]) ?_ ?_
  · skip
    refine cw_seq ?_
    refine cw_region ?_
    refine sq 21 rfl rfl (Y_move (v := pt B 0) rfl rfl) ?_
    obtain ⟨⟨r_3, m3⟩, hc2, hz⟩ := bind_inv hz
    refine sc 22 rfl rfl (Yc_func (g := 69) (vs := [pt B 0, .int .i64 3]) k_call_69 rfl (mc rfl (mc rfl mn)) (c_spec_l1Cur_pick (Tl1Cur.mk c.code m2.at_ m2.seed) 3 B B1 c1 c.code.length _ rfl (hS2.inn [true] rfl [(true, 0)] rfl) hc2)) ?_
    rintro _ w_3 ⟨rfl, hd2⟩
    have hS4 := hS2.out [true] rfl hd2
    refine rw_nil ?_
    refine cw_block ?_
    refine cw_seq ?_
    refine cw_region ?_
    refine sq 24 rfl rfl (Y_eq (k := .i64) (a := r_3) (b := 0) rfl rfl rfl) ?_
    refine sq 23 rfl rfl (Y_assign (v := .bool (r_3 == 0)) rfl rfl) ?_
    refine rw_nil ?_
    refine cw_cond (b := (r_3 == 0)) rfl (fun hb => ?_) (fun hb => ?_)
    · skip
      have hF2 := ct hz hb
      refine cw_seq ?_
      refine cw_region ?_
      refine sq 25 rfl rfl (Y_move (v := .int .i64 n1) rfl rfl) ?_
      obtain ⟨r_4, hc3, hF2⟩ := bind_inv hF2
      refine sc 26 rfl rfl (Yc_func (g := 130) (vs := [.int .i64 n1]) k_call_130 rfl (mc rfl mn) (c_spec_l15Codes n1 _  (hS4.inn0 [] rfl) hc3)) ?_
      rintro _ w_4 ⟨B2, c2, rfl, hd3⟩
      have hS5 := hS4.out0 hd3
      have hS5 : ST w0 (bl [⟨B, 87, [.slice B1 c.code.length c1, .int .i64 c.at_, .int .u64 c.seed], 3⟩]) _ [⟨B, 87, [.slice B1 c.code.length c1, .int .i64 m3.at_, .int .u64 m3.seed], 3⟩, ⟨B2, 3, (r_4.flatMap encI), c2 * 1⟩] [⟨B1, (c.code.flatMap enc_u8)⟩] := hS5
      refine sq 6 rfl rfl (Y_assign (v := .slice B2 r_4.length c2) rfl rfl) ?_
      refine rw_nil ?_
      refine cw_region ?_
      refine sq 27 rfl rfl (Y_move (v := .slice B2 r_4.length c2) rfl rfl) ?_
      refine sq 28 rfl rfl (Y_move (v := pt B 0) rfl rfl) ?_
      refine sq 29 rfl rfl (Y_move (v := .slice B2 r_4.length c2) rfl rfl) ?_
      refine sq 30 rfl rfl (Y_len (B := B2) (m := r_4.length) (c := c2) k_sl_48_3 rfl rfl) ?_
      obtain ⟨⟨r_5, m4⟩, hc4, hF2⟩ := bind_inv hF2
      refine sc 31 rfl rfl (Yc_func (g := 69) (vs := [pt B 0, .int .i64 (r_4.length : Int)]) k_call_69 rfl (mc rfl (mc rfl mn)) (c_spec_l1Cur_pick (Tl1Cur.mk c.code m3.at_ m3.seed) (r_4.length : Int) B B1 c1 c.code.length _ rfl (hS5.inn [true, false] rfl [(true, 0)] rfl) hc4)) ?_
      rintro _ w_5 ⟨rfl, hd4⟩
      have hS6 := hS5.out [true, false] rfl hd4
      have hS6 : ST w0 (bl [⟨B, 87, [.slice B1 c.code.length c1, .int .i64 c.at_, .int .u64 c.seed], 3⟩]) _ [⟨B2, 3, (r_4.flatMap encI), c2 * 1⟩, ⟨B, 87, [.slice B1 c.code.length c1, .int .i64 m4.at_, .int .u64 m4.seed], 3⟩] [⟨B1, (c.code.flatMap enc_u8)⟩] := hS6
      obtain ⟨x, hx, hF2⟩ := bind_inv hF2
      refine sq 32 rfl rfl (Y_index (B := B2) (m := r_4.length) (c := c2) (k := .i64) (i := r_5) k_sl_48_3 k_sz_3_1 rfl rfl rfl (gi_isSome encI_len rfl (hS6.cf (i := 0) rfl) hx) (getI_nn hx) (getI_ltI hx rfl)) ?_
      refine sq 33 rfl rfl (Y_load1 (B := B2) (i := r_5.toNat * 1) (cs := (r_4.flatMap encI)) (v := .int .i64 x) k_sc_3 rfl rfl (hS6.cf (i := 0) rfl) (gi_at0 encI_len hx rfl)) ?_
      refine sq 5 rfl rfl (Y_assign (v := .int .i64 x) rfl rfl) ?_
      refine rw_nil ?_
      exact ⟨m4.at_, m4.seed, x, (some_inj hF2), (FF.cons rfl FF.nil), (hS6.sel [1] rfl rfl)⟩
    · skip
      have hF3 := cf' hz hb
      refine cw_seq ?_
      refine cw_region ?_
      refine sq 35 rfl rfl (Y_eq (k := .i64) (a := r_3) (b := 1) rfl rfl rfl) ?_
      refine sq 34 rfl rfl (Y_assign (v := .bool (r_3 == 1)) rfl rfl) ?_
      refine rw_nil ?_
      refine cw_cond (b := (r_3 == 1)) rfl (fun hb1 => ?_) (fun hb1 => ?_)
      · skip
        have hF4 := ct hF3 hb1
        refine cw_seq ?_
        refine cw_region ?_
        refine sq 36 rfl rfl (Y_move (v := .int .i64 n1) rfl rfl) ?_
        obtain ⟨r_6, hc5, hF4⟩ := bind_inv hF4
        refine sc 37 rfl rfl (Yc_func (g := 130) (vs := [.int .i64 n1]) k_call_130 rfl (mc rfl mn) (c_spec_l15Codes n1 _  (hS4.inn0 [] rfl) hc5)) ?_
        rintro _ w_6 ⟨B3, c3, rfl, hd5⟩
        have hS7 := hS4.out0 hd5
        have hS7 : ST w0 (bl [⟨B, 87, [.slice B1 c.code.length c1, .int .i64 c.at_, .int .u64 c.seed], 3⟩]) _ [⟨B, 87, [.slice B1 c.code.length c1, .int .i64 m3.at_, .int .u64 m3.seed], 3⟩, ⟨B3, 3, (r_6.flatMap encI), c3 * 1⟩] [⟨B1, (c.code.flatMap enc_u8)⟩] := hS7
        refine sq 7 rfl rfl (Y_assign (v := .slice B3 r_6.length c3) rfl rfl) ?_
        refine rw_nil ?_
        obtain ⟨⟨r_7, m5⟩, hc6, hF4⟩ := bind_inv hF4
        obtain ⟨x1, hx1, hF4⟩ := bind_inv hF4
        obtain ⟨hsh2, hF4⟩ := chk_inv hF4
        obtain ⟨⟨r_8, m6⟩, hc7, hF4⟩ := bind_inv hF4
        obtain ⟨hsh3, hF4⟩ := chk_inv hF4
        refine ra_start (ST.sel hS7 [1] rfl rfl).fn (by kernel_rfl) ?_
        have hS10 := hS7.drew
        refine ra_q 0 38 (v := .slice B3 r_6.length c3) rfl rfl rfl (by kernel_rfl) (by kernel_rfl) (by kernel_rfl) (ST.sel hS10 [1] rfl rfl) (fun w' hw' => (Y_move (v := .slice B3 r_6.length c3) rfl rfl)) ?_
        refine ra_q 1 39 (v := pt B 0) rfl rfl rfl (by kernel_rfl) (by kernel_rfl) (by kernel_rfl) (ST.sel hS10 [1] rfl rfl) (fun w' hw' => (Y_move (v := pt B 0) rfl rfl)) ?_
        refine ra_q 2 40 (v := .slice B3 r_6.length c3) rfl rfl rfl (by kernel_rfl) (by kernel_rfl) (by kernel_rfl) (ST.sel hS10 [1] rfl rfl) (fun w' hw' => (Y_move (v := .slice B3 r_6.length c3) rfl rfl)) ?_
        refine ra_q 3 41 (v := .int .i64 (r_6.length : Int)) rfl rfl rfl (by kernel_rfl) (by kernel_rfl) (by kernel_rfl) (ST.sel hS10 [1] rfl rfl) (fun w' hw' => (Y_len (B := B3) (m := r_6.length) (c := c3) k_sl_48_3 rfl rfl)) ?_
        refine ra_q 7 45 (v := pt B 0) rfl rfl rfl (by kernel_rfl) (by kernel_rfl) (by kernel_rfl) (ST.sel hS10 [1] rfl rfl) (fun w' hw' => (Y_move (v := pt B 0) rfl rfl)) ?_
        refine ra_q 8 46 (v := .int .i64 n1) rfl rfl rfl (by kernel_rfl) (by kernel_rfl) (by kernel_rfl) (ST.sel hS10 [1] rfl rfl) (fun w' hw' => (Y_move (v := .int .i64 n1) rfl rfl)) ?_
        refine ra_q 9 47 (v := .int .u64 (IntKind.u64.wrap n1)) rfl rfl rfl (by kernel_rfl) (by kernel_rfl) (by kernel_rfl) (ST.sel hS10 [1] rfl rfl) (fun w' hw' => (Y_conv (k := .i64) (a := n1) (T := 3) (T' := 63) k_us_3 k_int_63_u64 rfl rfl)) ?_
        refine ra_q 10 48 (v := .int .i64 (shlK .i64 1 (IntKind.u64.wrap n1))) rfl rfl rfl (by kernel_rfl) (by kernel_rfl) (by kernel_rfl) (ST.sel hS10 [1] rfl rfl) (fun w' hw' => (Y_shl (k := .i64) (a := 1) (k' := .u64) (b := (IntKind.u64.wrap n1)) rfl rfl rfl hsh2)) ?_
        refine ra_q 11 49 (v := .int .i64 (IntKind.i64.wrap ((shlK .i64 1 (IntKind.u64.wrap n1)) - 1))) rfl rfl rfl (by kernel_rfl) (by kernel_rfl) (by kernel_rfl) (ST.sel hS10 [1] rfl rfl) (fun w' hw' => (Y_sub (k := .i64) (a := (shlK .i64 1 (IntKind.u64.wrap n1))) (b := 1) rfl rfl rfl)) ?_
        refine ra_all (rs := [4]) (by kernel_rfl) rfl ?_
        refine ra_c 42 (i := 4) rfl rfl rfl (Yc_func (g := 69) (vs := [pt B 0, .int .i64 (r_6.length : Int)]) k_call_69 rfl (mc rfl (mc rfl mn)) (c_spec_l1Cur_pick (Tl1Cur.mk c.code m3.at_ m3.seed) (r_6.length : Int) B B1 c1 c.code.length _ rfl (hS10.inn [true, false] rfl [(true, 0)] rfl) hc6)) ?_ ?_
        · rintro _ w_7 ⟨rfl, hd6⟩
          have hS11 := hS10.out [true, false] rfl hd6
          have hS11 : ST w0 (bl [⟨B, 87, [.slice B1 c.code.length c1, .int .i64 c.at_, .int .u64 c.seed], 3⟩]) _ [⟨B3, 3, (r_6.flatMap encI), c3 * 1⟩, ⟨B, 87, [.slice B1 c.code.length c1, .int .i64 m5.at_, .int .u64 m5.seed], 3⟩] [⟨B1, (c.code.flatMap enc_u8)⟩] := hS11
          refine ⟨(ST.sel hS11 [0] rfl rfl), ?_⟩
          refine ra_q 5 43 (v := pt B3 (r_7.toNat * 1)) rfl rfl rfl (by kernel_rfl) (by kernel_rfl) (by kernel_rfl) (ST.sel hS11 [0] rfl rfl) (fun w' hw' => (Y_index (B := B3) (m := r_6.length) (c := c3) (k := .i64) (i := r_7) k_sl_48_3 k_sz_3_1 rfl rfl rfl (gi_isSome encI_len rfl (ST.cf hw' (i := 0) rfl) hx1) (getI_nn hx1) (getI_ltI hx1 rfl))) ?_
          refine ra_q 6 44 (v := .int .i64 x1) rfl rfl rfl (by kernel_rfl) (by kernel_rfl) (by kernel_rfl) (ST.sel hS11 [0] rfl rfl) (fun w' hw' => (Y_load1 (B := B3) (i := r_7.toNat * 1) (cs := (r_6.flatMap encI)) (v := .int .i64 x1) k_sc_3 rfl rfl (ST.cf hw' (i := 0) rfl) (gi_at0 encI_len hx1 rfl))) ?_
          refine ra_all (rs := [12]) (by kernel_rfl) rfl ?_
          refine ra_c 50 (i := 12) rfl rfl rfl (Yc_func (g := 69) (vs := [pt B 0, .int .i64 (IntKind.i64.wrap ((shlK .i64 1 (IntKind.u64.wrap n1)) - 1))]) k_call_69 rfl (mc rfl (mc rfl mn)) (c_spec_l1Cur_pick (Tl1Cur.mk c.code m5.at_ m5.seed) (IntKind.i64.wrap ((shlK .i64 1 (IntKind.u64.wrap n1)) - 1)) B B1 c1 c.code.length _ rfl (hS11.inn [false, true] rfl [(true, 0)] rfl) hc7)) ?_ ?_
          · rintro _ w_8 ⟨rfl, hd7⟩
            have hS12 := hS11.out [false, true] rfl hd7
            have hS12 : ST w0 (bl [⟨B, 87, [.slice B1 c.code.length c1, .int .i64 c.at_, .int .u64 c.seed], 3⟩]) _ [⟨B3, 3, (r_6.flatMap encI), c3 * 1⟩, ⟨B, 87, [.slice B1 c.code.length c1, .int .i64 m6.at_, .int .u64 m6.seed], 3⟩] [⟨B1, (c.code.flatMap enc_u8)⟩] := hS12
            refine ⟨(ST.sel hS12 [0] rfl rfl), ?_⟩
            refine ra_q 13 51 (v := .int .u64 (IntKind.u64.wrap r_8)) rfl rfl rfl (by kernel_rfl) (by kernel_rfl) (by kernel_rfl) (ST.sel hS12 [0] rfl rfl) (fun w' hw' => (Y_conv (k := .i64) (a := r_8) (T := 3) (T' := 63) k_us_3 k_int_63_u64 rfl rfl)) ?_
            refine ra_q 14 52 (v := .int .i64 (shlK .i64 1 (IntKind.u64.wrap r_8))) rfl rfl rfl (by kernel_rfl) (by kernel_rfl) (by kernel_rfl) (ST.sel hS12 [0] rfl rfl) (fun w' hw' => (Y_shl (k := .i64) (a := 1) (k' := .u64) (b := (IntKind.u64.wrap r_8)) rfl rfl rfl hsh3)) ?_
            refine ra_q 15 53 (v := .int .i64 (bits .xor .i64 x1 (shlK .i64 1 (IntKind.u64.wrap r_8)))) rfl rfl rfl (by kernel_rfl) (by kernel_rfl) (by kernel_rfl) (ST.sel hS12 [0] rfl rfl) (fun w' hw' => (Y_bxor (k := .i64) (a := x1) (b := (shlK .i64 1 (IntKind.u64.wrap r_8))) rfl rfl rfl)) ?_
            refine ra_q 16 5 (v := .int .i64 (bits .xor .i64 x1 (shlK .i64 1 (IntKind.u64.wrap r_8)))) rfl rfl rfl (by kernel_rfl) (by kernel_rfl) (by kernel_rfl) (ST.sel hS12 [0] rfl rfl) (fun w' hw' => (Y_assign (v := .int .i64 (bits .xor .i64 x1 (shlK .i64 1 (IntKind.u64.wrap r_8)))) rfl rfl)) ?_
            refine ra_done (by kernel_rfl) ?_
            exact ⟨m6.at_, m6.seed, (bits .xor .i64 x1 (shlK .i64 1 (IntKind.u64.wrap r_8))), (some_inj hF4), (FF.cons rfl FF.nil), (hS12.sel [1] rfl rfl)⟩
          exact allR_nil
        exact allR_nil
      · skip
        have hF5 := cf' hF3 hb1
        refine cw_skip ?_
        exact ⟨m3.at_, m3.seed, (bits .and .i64 (IntKind.i64.wrap (r_1 + (IntKind.i64.wrap (65536 * r_2)))) (IntKind.i64.wrap ((shlK .i64 1 (IntKind.u64.wrap ((shlK .u64 1 (IntKind.u64.wrap n1)) - 1))) - 1))), (some_inj hF5), (FF.cons rfl FF.nil), (hS4.sel [0] rfl rfl)⟩
  rintro f w ⟨at_, seed, w_2, rfl, hf, hS3⟩
  refine cw_seq ?_
  refine cw_region ?_
  refine sq 54 rfl rfl (Y_move (v := .int .i64 w_2) rfl (hf.get 5 0 rfl)) ?_
  refine sq 4 rfl rfl (Y_assign (v := .int .i64 w_2) rfl rfl) ?_
  refine rw_nil ?_
  refine cw_ret ?_
  obtain ⟨rfl, rfl⟩ := pr2 (some_inj hF1)
  exact ret1 Try.results129 (v1 := .int .i64 w_2) (resAt_tmp rfl) ⟨rfl, (ST.subR (R' := []) (hS3.sel [0] rfl rfl) (fun _ h => by cases h))⟩
end Go.VK
