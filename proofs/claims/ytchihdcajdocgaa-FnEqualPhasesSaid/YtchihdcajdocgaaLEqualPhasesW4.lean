/- Walks: each Go function returns what its Lean function says. By program. -/
import Derived.Test.YtchihdcajdocgaaLEqualPhasesFa
import Derived.Test.YtchihdcajdocgaaLEqualPhasesW3
set_option linter.unusedVariables false
set_option maxRecDepth 100000
set_option maxHeartbeats 1000000
namespace Go.VK
open Go.RowKit
open Go.Proofs
attribute [local irreducible] CW RW RA CV Y Yw Yc Ys RetOf
attribute [local irreducible] F_laws_qInts F_impl_within F_impl_areTerms F_slices_IndexFunc_int_int F_slices_ContainsFunc_int_int F_impl_IsValidLinear_1 F_slices_Clone_int_int F_impl_rankOf_1 F_slices_Delete_int_int F_impl_rankOf F_impl_IsValidLinear F_impl_IsValidPhasePoly F_math_bits_OnesCount64 F_math_bits_OnesCount F_impl_parityOf F_impl_PhaseAt F_spec_l1Cur_next F_spec_l1Cur_pick F_spec_l1Cur_one F_spec_l1Cur_among F_spec_l13List F_spec_l12Identity F_spec_l1Own F_spec_l12CX F_spec_l1Cur_linear F_spec_l1Cur_phasePoly F_spec_l1Cur_anyLinear F_spec_l1Cur_anyPhasePoly F_spec_l13By F_spec_l1Set F_spec_l1Put F_spec_l13Parity F_spec_l15Affine F_spec_l15Codes F_spec_l1Cur_oddWord F_spec_l1Cur_reducible F_spec_l15Shift F_spec_l1Cur_relative F_spec_DrawEqualPhases F_impl_coefficients_add F_impl_coefficients_terms F_impl_bitsIn F_impl_MonomialsOf F_slices_Equal_int_int F_slices_Equal_impl_Term_impl_Term F_impl_EqualPhases F_spec_l1In F_spec_l1All F_spec_l12Rank F_spec_l12Valid F_spec_l13Valid F_spec_l1Same F_spec_l15SameTerms F_spec_l15Monomials F_spec_EqualPhases F_spec_DrawIsValidPhasePoly F_spec_DrawMonomialsOf F_spec_MonomialsOf F_laws_qTerms F_laws_FnEqualPhases
theorem c_spec_l12Rank (rows : List Int) (B : Option Addr) (c n : Nat) (w0 : World) (hn : rows.length = n) (hS : ST w0 [] w0 [] [⟨B, (rows.flatMap encI)⟩]) {r_ : Int} (hF : F_spec_l12Rank rows = some r_) :
    CV Try.prog 155 #[.slice B n c] w0 (fun v w' => v = .int .i64 r_ ∧ ST w0 [] w' [] []) := by
  subst hn
  unfold F_spec_l12Rank at hF
  refine cv_of_cw 80 Try.func155 rfl Try.ntmps155 rfl ?_
  refine cw_seq ?_
  refine cw_region ?_
  refine sq 2 rfl rfl (Y_assign (v := .int .i64 0) rfl rfl) ?_
  refine rw_nil ?_
  refine cw_seq ?_
  refine cw_region ?_
  refine sq 10 rfl rfl (Y_move (v := .slice B rows.length c) rfl rfl) ?_
  obtain ⟨r_1, hc, hF⟩ := bind_inv hF
  refine sc 11 rfl rfl (Yc_func (g := 165) (vs := [.slice B rows.length c]) k_call_165 rfl (mc rfl mn) (c_spec_l1Own rows B c rows.length _ rfl (hS.inn0 [(true, 0)] rfl) hc)) ?_
  rintro _ w_ ⟨B1, c1, rfl, hd⟩
  have hS1 := hS.out0 hd
  refine sq 3 rfl rfl (Y_assign (v := .slice B1 r_1.length c1) rfl rfl) ?_
  refine rw_nil ?_
  refine cw_seq ?_
  refine cw_region ?_
  refine sq 4 rfl rfl (Y_assign (v := .int .i64 0) rfl rfl) ?_
  refine rw_nil ?_
  refine cw_seq ?_
  refine cw_seq ?_
  refine cw_region ?_
  refine sq 5 rfl rfl (Y_assign (v := .int .i64 0) rfl rfl) ?_
  refine rw_nil ?_
  obtain ⟨z, hz, hF1⟩ := bind_inv hF
  refine cw_block ?_
  refine cw_loop (fun k f w => ∃ (bit : Nat) (l : List Int) (rank : Int), FF f [(3, .slice B1 r_1.length c1), (4, .int .i64 rank), (5, .int .i64 (bit : Int))] ∧ l.length = r_1.length ∧ ST w0 [] w [⟨B1, 3, (l.flatMap encI), c1 * 1⟩] [⟨B, (rows.flatMap encI)⟩] ∧ bit + k = 10 ∧ forN (F_spec_l12Rank_l1 r_1) k bit (l, rank) = some z) 10 ⟨0, r_1, 0, (FF.cons rfl (FF.cons rfl (FF.cons rfl FF.nil))), rfl, (hS1.sel [0] rfl rfl), Nat.zero_add _, hz⟩ ?_
  rintro k_ f w ⟨bit, l, rank, hf, hl, hS2, hik, hL⟩
  refine cw_seq ?_
  refine cw_seq ?_
  refine cw_region ?_
  refine sq 12 rfl rfl (Y_move (v := .int .i64 (bit : Int)) rfl (hf.get 5 2 rfl)) ?_
  refine sq 13 rfl rfl (Y_lt (k := .i64) (a := (bit : Int)) (b := 10) rfl rfl rfl) ?_
  refine rw_nil ?_
  refine cw_cond (b := (decide ((bit : Int) < 10))) rfl (fun hlt => ?_) (fun hlt => ?_)
  · skip
    have hlt1 : bit < 10 := by have h := of_decide_eq_true hlt; omega
    obtain ⟨k_1, rfl⟩ : ∃ k2, k_ = k2 + 1 := ⟨k_ - 1, by omega⟩
    obtain ⟨y, hb, hL1⟩ := forN_go hL
    unfold F_spec_l12Rank_l1 at hb
    refine cw_skip ?_
    refine cw_seq ?_
    obtain ⟨z1, hz1, hF2⟩ := bind_inv hb
    refine cw_mid (fun f w => ∃ (l1 : List Int) (rank1 : Int), (l1, rank1) = z1 ∧ FF f [(3, .slice B1 r_1.length c1), (4, .int .i64 rank1), (5, .int .i64 (bit : Int))] ∧ l1.length = r_1.length ∧ ST w0 [] w [⟨B1, 3, (l1.flatMap encI), c1 * 1⟩] [⟨B, (rows.flatMap encI)⟩]) ?_ ?_
    · skip
      refine cw_block ?_
      refine cw_seq ?_
      refine cw_region ?_
      refine sq 6 rfl rfl (Y_assign (v := .int .i64 (-1)) rfl rfl) ?_
      refine rw_nil ?_
      refine cw_seq ?_
      refine cw_seq ?_
      refine cw_region ?_
      refine sq 16 rfl rfl (Y_move (v := .int .i64 rank) rfl (hf.get 4 1 rfl)) ?_
      refine sq 7 rfl rfl (Y_assign (v := .int .i64 rank) rfl rfl) ?_
      refine rw_nil ?_
      obtain ⟨z2, hz2, hF3⟩ := bind_inv hz1
      refine cw_mid (fun f w => ∃ (at_ : Int) (i1 : Int), .inl (at_, i1) = z2 ∧ FF f [(3, .slice B1 r_1.length c1), (4, .int .i64 rank), (5, .int .i64 (bit : Int)), (6, .int .i64 at_)] ∧ ST w0 [] w [⟨B1, 3, (l.flatMap encI), c1 * 1⟩] [⟨B, (rows.flatMap encI)⟩]) ?_ ?_
      · skip
        refine cw_block ?_
        refine cw_loop (fun k f w => ∃ (at_1 : Int) (i2 : Int), FF f [(3, .slice B1 r_1.length c1), (4, .int .i64 rank), (5, .int .i64 (bit : Int)), (6, .int .i64 at_1), (7, .int .i64 i2)] ∧ ST w0 [] w [⟨B1, 3, (l.flatMap encI), c1 * 1⟩] [⟨B, (rows.flatMap encI)⟩] ∧ whX (F_spec_l12Rank_l2 r_1 l bit) k (at_1, i2) = some z2) fuel ⟨(-1), rank, (FF.cons (hf.get 3 0 rfl) (FF.cons (hf.get 4 1 rfl) (FF.cons (hf.get 5 2 rfl) (FF.cons rfl (FF.cons rfl FF.nil))))), (hS2.sel [0] rfl rfl), hz2⟩ ?_
        rintro k_2 f w ⟨at_1, i2, hf3, hS5, hL2⟩
        obtain ⟨k_3, y1, rfl, hb1, hL3⟩ := whX_go hL2
        unfold F_spec_l12Rank_l2 at hb1
        refine cw_seq ?_
        refine cw_seq ?_
        refine cw_region ?_
        refine sq 17 rfl rfl (Y_move (v := .int .i64 i2) rfl (hf3.get 7 4 rfl)) ?_
        refine sq 18 rfl rfl (Y_move (v := .slice B1 r_1.length c1) rfl (hf3.get 3 0 rfl)) ?_
        refine sq 19 rfl rfl (Y_len (B := B1) (m := r_1.length) (c := c1) k_sl_48_3 rfl rfl) ?_
        refine sq 20 rfl rfl (Y_lt (k := .i64) (a := i2) (b := (r_1.length : Int)) rfl rfl rfl) ?_
        refine rw_nil ?_
        refine cw_cond (b := (decide (i2 < (r_1.length : Int)))) rfl (fun hb2 => ?_) (fun hb2 => ?_)
        · skip
          have hF4 := ct hb1 hb2
          refine cw_skip ?_
          refine cw_seq ?_
          refine cw_block ?_
          refine cw_seq ?_
          refine cw_region ?_
          refine sq 23 rfl rfl (Y_move (v := .slice B1 r_1.length c1) rfl (hf3.get 3 0 rfl)) ?_
          refine sq 24 rfl rfl (Y_move (v := .int .i64 i2) rfl (hf3.get 7 4 rfl)) ?_
          obtain ⟨x, hx, hF4⟩ := bind_inv hF4
          refine sq 25 rfl rfl (Y_index (B := B1) (m := r_1.length) (c := c1) (k := .i64) (i := i2) k_sl_48_3 k_sz_3_1 rfl rfl rfl (gi_isSome encI_len rfl (hS5.cf (i := 0) rfl) hx) (getI_nn hx) (getI_ltI hx hl)) ?_
          refine sq 26 rfl rfl (Y_load1 (B := B1) (i := i2.toNat * 1) (cs := (l.flatMap encI)) (v := .int .i64 x) k_sc_3 rfl rfl (hS5.cf (i := 0) rfl) (gi_at0 encI_len hx rfl)) ?_
          refine sq 27 rfl rfl (Y_move (v := .int .i64 (bit : Int)) rfl (hf3.get 5 2 rfl)) ?_
          refine sq 28 rfl rfl (Y_conv (k := .i64) (a := (bit : Int)) (T := 3) (T' := 63) k_us_3 k_int_63_u64 rfl rfl) ?_
          obtain ⟨hsh, hF4⟩ := chk_inv hF4
          refine sq 29 rfl rfl (Y_shr (k := .i64) (a := x) (k' := .u64) (b := (IntKind.u64.wrap (bit : Int))) rfl rfl rfl hsh) ?_
          refine sq 30 rfl rfl (Y_band (k := .i64) (a := (shrK .i64 x (IntKind.u64.wrap (bit : Int)))) (b := 1) rfl rfl rfl) ?_
          refine sq 31 rfl rfl (Y_eq (k := .i64) (a := (bits .and .i64 (shrK .i64 x (IntKind.u64.wrap (bit : Int))) 1)) (b := 1) rfl rfl rfl) ?_
          refine rw_nil ?_
          refine cw_cond (b := ((bits .and .i64 (shrK .i64 x (IntKind.u64.wrap (bit : Int))) 1) == 1)) rfl (fun hb3 => ?_) (fun hb3 => ?_)
          · skip
            have hF5 := ct hF4 hb3
            refine cw_seq ?_
            refine cw_region ?_
            refine sq 32 rfl rfl (Y_move (v := .int .i64 i2) rfl (hf3.get 7 4 rfl)) ?_
            refine sq 6 rfl rfl (Y_assign (v := .int .i64 i2) rfl rfl) ?_
            refine rw_nil ?_
            refine cw_exit rfl ?_
            obtain rfl := some_inj hF5
            exact ⟨i2, i2, (some_inj hL3), (FF.cons (hf3.get 3 0 rfl) (FF.cons (hf3.get 4 1 rfl) (FF.cons (hf3.get 5 2 rfl) (FF.cons rfl FF.nil)))), (hS5.sel [0] rfl rfl)⟩
          · skip
            have hF6 := cf' hF4 hb3
            refine cw_skip ?_
            refine cw_region ?_
            refine sq 21 rfl rfl (Y_move (v := .int .i64 i2) rfl (hf3.get 7 4 rfl)) ?_
            refine sq 22 rfl rfl (Y_add (k := .i64) (a := i2) (b := 1) rfl rfl rfl) ?_
            refine sq 7 rfl rfl (Y_assign (v := .int .i64 (IntKind.i64.wrap (i2 + 1))) rfl rfl) ?_
            refine rw_nil ?_
            obtain rfl := some_inj hF6
            exact ⟨k_3, Nat.lt_succ_self _, at_1, (IntKind.i64.wrap (i2 + 1)), (FF.cons (hf3.get 3 0 rfl) (FF.cons (hf3.get 4 1 rfl) (FF.cons (hf3.get 5 2 rfl) (FF.cons (hf3.get 6 3 rfl) (FF.cons rfl FF.nil))))), (hS5.sel [0] rfl rfl), hL3⟩
        · skip
          have hF7 := cf' hb1 hb2
          refine cw_exit rfl ?_
          obtain rfl := some_inj hF7
          exact ⟨at_1, i2, (some_inj hL3), (FF.cons (hf3.get 3 0 rfl) (FF.cons (hf3.get 4 1 rfl) (FF.cons (hf3.get 5 2 rfl) (FF.cons (hf3.get 6 3 rfl) FF.nil)))), (hS5.sel [0] rfl rfl)⟩
      rintro f w ⟨at_, i1, rfl, hf2, hS4⟩
      refine cw_seq ?_
      refine cw_seq ?_
      refine cw_region ?_
      refine sq 33 rfl rfl (Y_move (v := .int .i64 at_) rfl (hf2.get 6 3 rfl)) ?_
      refine sq 34 rfl rfl (Y_lt (k := .i64) (a := at_) (b := 0) rfl rfl rfl) ?_
      refine rw_nil ?_
      refine cw_cond (b := (decide (at_ < 0))) rfl (fun hb4 => ?_) (fun hb4 => ?_)
      · skip
        have hF8 := ct hF3 hb4
        refine cw_exit rfl ?_
        exact ⟨l, rank, (some_inj hF8), (FF.cons (hf2.get 3 0 rfl) (FF.cons (hf2.get 4 1 rfl) (FF.cons (hf2.get 5 2 rfl) FF.nil))), hl, (hS4.sel [0] rfl rfl)⟩
      · skip
        have hF9 := cf' hF3 hb4
        refine cw_skip ?_
        refine cw_seq ?_
        refine cw_region ?_
        refine sq 35 rfl rfl (Y_move (v := .slice B1 r_1.length c1) rfl (hf2.get 3 0 rfl)) ?_
        refine sq 36 rfl rfl (Y_move (v := .int .i64 at_) rfl (hf2.get 6 3 rfl)) ?_
        obtain ⟨x1, hx1, hF9⟩ := bind_inv hF9
        refine sq 37 rfl rfl (Y_index (B := B1) (m := r_1.length) (c := c1) (k := .i64) (i := at_) k_sl_48_3 k_sz_3_1 rfl rfl rfl (gi_isSome encI_len rfl (hS4.cf (i := 0) rfl) hx1) (getI_nn hx1) (getI_ltI hx1 hl)) ?_
        refine sq 38 rfl rfl (Y_load1 (B := B1) (i := at_.toNat * 1) (cs := (l.flatMap encI)) (v := .int .i64 x1) k_sc_3 rfl rfl (hS4.cf (i := 0) rfl) (gi_at0 encI_len hx1 rfl)) ?_
        refine sq 8 rfl rfl (Y_assign (v := .int .i64 x1) rfl rfl) ?_
        refine rw_nil ?_
        refine cw_seq ?_
        refine cw_region ?_
        refine sq 39 rfl rfl (Y_move (v := .slice B1 r_1.length c1) rfl (hf2.get 3 0 rfl)) ?_
        refine sq 40 rfl rfl (Y_move (v := .int .i64 at_) rfl (hf2.get 6 3 rfl)) ?_
        refine sq 41 rfl rfl (Y_move (v := .slice B1 r_1.length c1) rfl (hf2.get 3 0 rfl)) ?_
        refine sq 42 rfl rfl (Y_move (v := .int .i64 rank) rfl (hf2.get 4 1 rfl)) ?_
        obtain ⟨x2, hx2, hF9⟩ := bind_inv hF9
        refine sq 43 rfl rfl (Y_index (B := B1) (m := r_1.length) (c := c1) (k := .i64) (i := rank) k_sl_48_3 k_sz_3_1 rfl rfl rfl (gi_isSome encI_len rfl (hS4.cf (i := 0) rfl) hx2) (getI_nn hx2) (getI_ltI hx2 hl)) ?_
        refine sq 44 rfl rfl (Y_load1 (B := B1) (i := rank.toNat * 1) (cs := (l.flatMap encI)) (v := .int .i64 x2) k_sc_3 rfl rfl (hS4.cf (i := 0) rfl) (gi_at0 encI_len hx2 rfl)) ?_
        refine sq 45 rfl rfl (Y_index (B := B1) (m := r_1.length) (c := c1) (k := .i64) (i := at_) k_sl_48_3 k_sz_3_1 rfl rfl rfl (gi_isSome encI_len rfl (hS4.cf (i := 0) rfl) hx1) (getI_nn hx1) (getI_ltI hx1 hl)) ?_
        refine ss0 rfl rfl (Ys_store (i := 0) (s := 1) (B := B1) (T' := 3) (v := .int .i64 x2) (vs := [.int .i64 x2]) (k := at_.toNat * 1) (cs' := ((l.set at_.toNat x2).flatMap encI)) hS4 k_sz_3_1 rfl rfl rfl rfl rfl rfl rfl (gi_fit0 encI_len hx1) (gi_set encI_len hx1 x2 rfl) rfl) ?_
        rintro _ w_1 ⟨rfl, hS6⟩
        refine rw_nil ?_
        refine cw_seq ?_
        refine cw_region ?_
        refine sq 46 rfl rfl (Y_move (v := .slice B1 r_1.length c1) rfl (hf2.get 3 0 rfl)) ?_
        refine sq 47 rfl rfl (Y_move (v := .int .i64 rank) rfl (hf2.get 4 1 rfl)) ?_
        refine sq 48 rfl rfl (Y_move (v := .int .i64 x1) rfl rfl) ?_
        obtain ⟨x3, hx3, hF9⟩ := bind_inv hF9
        refine sq 49 rfl rfl (Y_index (B := B1) (m := r_1.length) (c := c1) (k := .i64) (i := rank) k_sl_48_3 k_sz_3_1 rfl rfl rfl (gi_isSome encI_len rfl (hS6.cf (i := 0) rfl) hx3) (getI_nn hx3) (getI_ltI hx3 (set_len _ _ _ hl))) ?_
        refine ss0 rfl rfl (Ys_store (i := 0) (s := 1) (B := B1) (T' := 3) (v := .int .i64 x1) (vs := [.int .i64 x1]) (k := rank.toNat * 1) (cs' := (((l.set at_.toNat x2).set rank.toNat x1).flatMap encI)) hS6 k_sz_3_1 rfl rfl rfl rfl rfl rfl rfl (gi_fit0 encI_len hx3) (gi_set encI_len hx3 x1 rfl) rfl) ?_
        rintro _ w_2 ⟨rfl, hS7⟩
        refine rw_nil ?_
        refine cw_seq ?_
        refine cw_seq ?_
        refine cw_region ?_
        refine sq 50 rfl rfl (Y_move (v := .slice B1 r_1.length c1) rfl (hf2.get 3 0 rfl)) ?_
        refine sq 51 rfl rfl (Y_len (B := B1) (m := r_1.length) (c := c1) k_sl_48_3 rfl rfl) ?_
        refine sq 52 rfl rfl (Y_move (v := .int .i64 0) rfl rfl) ?_
        refine rw_nil ?_
        obtain ⟨hN, hF9⟩ := chk_inv hF9
        obtain ⟨z3, hz3, hF10⟩ := bind_inv hF9
        refine cw_block ?_
        refine cw_loop (fun k f w => ∃ (i3 : Nat) (l2 : List Int), FF f [(3, .slice B1 r_1.length c1), (4, .int .i64 rank), (5, .int .i64 (bit : Int)), (8, .int .i64 x1), (51, .int .i64 (r_1.length : Int)), (52, .int .i64 (i3 : Int))] ∧ l2.length = r_1.length ∧ ST w0 [] w [⟨B1, 3, (l2.flatMap encI), c1 * 1⟩] [⟨B, (rows.flatMap encI)⟩] ∧ i3 + k = r_1.length ∧ forN (F_spec_l12Rank_l3 rank bit x1) k i3 l2 = some z3) r_1.length ⟨0, ((l.set at_.toNat x2).set rank.toNat x1), (FF.cons (hf2.get 3 0 rfl) (FF.cons (hf2.get 4 1 rfl) (FF.cons (hf2.get 5 2 rfl) (FF.cons rfl (FF.cons rfl (FF.cons rfl FF.nil)))))), (set_len _ _ _ (set_len _ _ _ hl)), (hS7.sel [0] rfl rfl), Nat.zero_add _, hz3⟩ ?_
        rintro k_4 f w ⟨i3, l2, hf4, hl2, hS8, hik2, hL4⟩
        refine cw_seq ?_
        refine cw_region ?_
        refine sq 53 rfl rfl (Y_lt (k := .i64) (a := (i3 : Int)) (b := (r_1.length : Int)) rfl (hf4.get 52 5 rfl) (hf4.get 51 4 rfl)) ?_
        refine rw_nil ?_
        refine cw_seq ?_
        refine cw_cond (b := (decide ((i3 : Int) < (r_1.length : Int)))) rfl (fun hlt2 => ?_) (fun hlt2 => ?_)
        · skip
          have hlt3 : i3 < r_1.length := by have h := of_decide_eq_true hlt2; omega
          obtain ⟨k_5, rfl⟩ : ∃ k2, k_4 = k2 + 1 := ⟨k_4 - 1, by omega⟩
          obtain ⟨y2, hb5, hL5⟩ := forN_go hL4
          unfold F_spec_l12Rank_l3 at hb5
          refine cw_skip ?_
          refine cw_seq ?_
          obtain ⟨z4, hz4, hF11⟩ := bind_inv hb5
          refine cw_mid (fun f w => ∃ (l3 : List Int), l3 = z4 ∧ FF f [(3, .slice B1 r_1.length c1), (4, .int .i64 rank), (5, .int .i64 (bit : Int)), (8, .int .i64 x1), (51, .int .i64 (r_1.length : Int)), (52, .int .i64 (i3 : Int))] ∧ l3.length = r_1.length ∧ ST w0 [] w [⟨B1, 3, (l3.flatMap encI), c1 * 1⟩] [⟨B, (rows.flatMap encI)⟩]) ?_ ?_
          · skip
            refine cw_block ?_
            refine cw_seq ?_
            refine cw_region ?_
            refine sq 54 rfl rfl (Y_move (v := .int .i64 (i3 : Int)) rfl (hf4.get 52 5 rfl)) ?_
            refine sq 9 rfl rfl (Y_assign (v := .int .i64 (i3 : Int)) rfl rfl) ?_
            refine rw_nil ?_
            refine cw_seq ?_
            refine cw_region ?_
            refine sq 55 rfl rfl (Y_move (v := .int .i64 (i3 : Int)) rfl rfl) ?_
            refine sq 56 rfl rfl (Y_move (v := .int .i64 rank) rfl (hf4.get 4 1 rfl)) ?_
            refine sq 57 rfl rfl (Y_ne (k := .i64) (a := (i3 : Int)) (b := rank) rfl rfl rfl) ?_
            refine sq 58 rfl rfl (Y_move (v := .bool ((i3 : Int) != rank)) rfl rfl) ?_
            refine sgq 59 (B := ((i3 : Int) != rank)) (v := .slice B1 r_1.length c1) rfl rfl (wt_t (gd_of (t := 58) (by kernel_rfl) rfl)) (fun hg => (Y_move (v := .slice B1 r_1.length c1) rfl (hf4.get 3 0 rfl))) ?_
            refine sgq 60 (B := ((i3 : Int) != rank)) (v := .int .i64 (i3 : Int)) rfl rfl (wt_t (gd_of (t := 58) (by kernel_rfl) rfl)) (fun hg1 => (Y_move (v := .int .i64 (i3 : Int)) rfl rfl)) ?_
            obtain ⟨x4, hx4, hz4⟩ := bind_inv hz4
            refine sgq 61 (B := ((i3 : Int) != rank)) (v := pt B1 ((i3 : Int).toNat * 1)) rfl rfl (wt_t (gd_of (t := 58) (by kernel_rfl) rfl)) (fun hg2 => (Y_index (B := B1) (m := r_1.length) (c := c1) (k := .i64) (i := (i3 : Int)) k_sl_48_3 k_sz_3_1 rfl (gv_of (B := ((i3 : Int) != rank)) (v := .slice B1 r_1.length c1) hg2) (gv_of (B := ((i3 : Int) != rank)) (v := .int .i64 (i3 : Int)) hg2) (gi_isSome encI_len rfl (hS8.cf (i := 0) rfl) (gb_inv hx4 hg2)) (getI_nn (gb_inv hx4 hg2)) (getI_ltI (gb_inv hx4 hg2) hl2))) ?_
            refine sgq 62 (B := ((i3 : Int) != rank)) (v := .int .i64 x4) rfl rfl (wt_t (gd_of (t := 58) (by kernel_rfl) rfl)) (fun hg3 => (Y_load1 (B := B1) (i := (i3 : Int).toNat * 1) (cs := (l2.flatMap encI)) (v := .int .i64 x4) k_sc_3 rfl (gv_of (B := ((i3 : Int) != rank)) (v := pt B1 ((i3 : Int).toNat * 1)) hg3) (hS8.cf (i := 0) rfl) (gi_at0 encI_len (gb_inv hx4 hg3) rfl))) ?_
            refine sgq 63 (B := ((i3 : Int) != rank)) (v := .int .i64 (bit : Int)) rfl rfl (wt_t (gd_of (t := 58) (by kernel_rfl) rfl)) (fun hg4 => (Y_move (v := .int .i64 (bit : Int)) rfl (hf4.get 5 2 rfl))) ?_
            refine sgq 64 (B := ((i3 : Int) != rank)) (v := .int .u64 (IntKind.u64.wrap (bit : Int))) rfl rfl (wt_t (gd_of (t := 58) (by kernel_rfl) rfl)) (fun hg5 => (Y_conv (k := .i64) (a := (bit : Int)) (T := 3) (T' := 63) k_us_3 k_int_63_u64 rfl (gv_of (B := ((i3 : Int) != rank)) (v := .int .i64 (bit : Int)) hg5))) ?_
            obtain ⟨hsh1, hz4⟩ := chk_inv hz4
            refine sgq 65 (B := ((i3 : Int) != rank)) (v := .int .i64 (shrK .i64 x4 (IntKind.u64.wrap (bit : Int)))) rfl rfl (wt_t (gd_of (t := 58) (by kernel_rfl) rfl)) (fun hg6 => (Y_shr (k := .i64) (a := x4) (k' := .u64) (b := (IntKind.u64.wrap (bit : Int))) rfl (gv_of (B := ((i3 : Int) != rank)) (v := .int .i64 x4) hg6) (gv_of (B := ((i3 : Int) != rank)) (v := .int .u64 (IntKind.u64.wrap (bit : Int))) hg6) (hsh1 hg6))) ?_
            refine sgq 66 (B := ((i3 : Int) != rank)) (v := .int .i64 (bits .and .i64 (shrK .i64 x4 (IntKind.u64.wrap (bit : Int))) 1)) rfl rfl (wt_t (gd_of (t := 58) (by kernel_rfl) rfl)) (fun hg7 => (Y_band (k := .i64) (a := (shrK .i64 x4 (IntKind.u64.wrap (bit : Int)))) (b := 1) rfl (gv_of (B := ((i3 : Int) != rank)) (v := .int .i64 (shrK .i64 x4 (IntKind.u64.wrap (bit : Int)))) hg7) rfl)) ?_
            refine sgq 67 (B := ((i3 : Int) != rank)) (v := .bool ((bits .and .i64 (shrK .i64 x4 (IntKind.u64.wrap (bit : Int))) 1) == 1)) rfl rfl (wt_t (gd_of (t := 58) (by kernel_rfl) rfl)) (fun hg8 => (Y_eq (k := .i64) (a := (bits .and .i64 (shrK .i64 x4 (IntKind.u64.wrap (bit : Int))) 1)) (b := 1) rfl (gv_of (B := ((i3 : Int) != rank)) (v := .int .i64 (bits .and .i64 (shrK .i64 x4 (IntKind.u64.wrap (bit : Int))) 1)) hg8) rfl)) ?_
            refine sq 68 rfl rfl (Y_and (b := ((i3 : Int) != rank)) (z := ((bits .and .i64 (shrK .i64 x4 (IntKind.u64.wrap (bit : Int))) 1) == 1)) rfl rfl rfl rfl) ?_
            refine rw_nil ?_
            refine cw_cond (b := (((i3 : Int) != rank) && ((bits .and .i64 (shrK .i64 x4 (IntKind.u64.wrap (bit : Int))) 1) == 1))) rfl (fun hb6 => ?_) (fun hb6 => ?_)
            · skip
              have hF12 := ct hz4 hb6
              refine cw_region ?_
              refine sq 69 rfl rfl (Y_move (v := .slice B1 r_1.length c1) rfl (hf4.get 3 0 rfl)) ?_
              refine sq 70 rfl rfl (Y_move (v := .int .i64 (i3 : Int)) rfl rfl) ?_
              obtain ⟨x5, hx5, hF12⟩ := bind_inv hF12
              refine sq 71 rfl rfl (Y_index (B := B1) (m := r_1.length) (c := c1) (k := .i64) (i := (i3 : Int)) k_sl_48_3 k_sz_3_1 rfl rfl rfl (gi_isSome encI_len rfl (hS8.cf (i := 0) rfl) hx5) (getI_nn hx5) (getI_ltI hx5 hl2)) ?_
              refine sq 72 rfl rfl (Y_load1 (B := B1) (i := (i3 : Int).toNat * 1) (cs := (l2.flatMap encI)) (v := .int .i64 x5) k_sc_3 rfl rfl (hS8.cf (i := 0) rfl) (gi_at0 encI_len hx5 rfl)) ?_
              refine sq 73 rfl rfl (Y_move (v := .int .i64 x1) rfl (hf4.get 8 3 rfl)) ?_
              refine sq 74 rfl rfl (Y_bxor (k := .i64) (a := x5) (b := x1) rfl rfl rfl) ?_
              refine sq 75 rfl rfl (Y_index (B := B1) (m := r_1.length) (c := c1) (k := .i64) (i := (i3 : Int)) k_sl_48_3 k_sz_3_1 rfl rfl rfl (gi_isSome encI_len rfl (hS8.cf (i := 0) rfl) hx5) (getI_nn hx5) (getI_ltI hx5 hl2)) ?_
              refine ss0 rfl rfl (Ys_store (i := 0) (s := 1) (B := B1) (T' := 3) (v := .int .i64 (bits .xor .i64 x5 x1)) (vs := [.int .i64 (bits .xor .i64 x5 x1)]) (k := (i3 : Int).toNat * 1) (cs' := ((l2.set (i3 : Int).toNat (bits .xor .i64 x5 x1)).flatMap encI)) hS8 k_sz_3_1 rfl rfl rfl rfl rfl rfl rfl (gi_fit0 encI_len hx5) (gi_set encI_len hx5 (bits .xor .i64 x5 x1) rfl) rfl) ?_
              rintro _ w_3 ⟨rfl, hS10⟩
              refine rw_nil ?_
              exact ⟨(l2.set (i3 : Int).toNat (bits .xor .i64 x5 x1)), (some_inj hF12), (FF.cons (hf4.get 3 0 rfl) (FF.cons (hf4.get 4 1 rfl) (FF.cons (hf4.get 5 2 rfl) (FF.cons (hf4.get 8 3 rfl) (FF.cons (hf4.get 51 4 rfl) (FF.cons (hf4.get 52 5 rfl) FF.nil)))))), (set_len _ _ _ hl2), (hS10.sel [0] rfl rfl)⟩
            · skip
              have hF13 := cf' hz4 hb6
              refine cw_skip ?_
              exact ⟨l2, (some_inj hF13), (FF.cons (hf4.get 3 0 rfl) (FF.cons (hf4.get 4 1 rfl) (FF.cons (hf4.get 5 2 rfl) (FF.cons (hf4.get 8 3 rfl) (FF.cons (hf4.get 51 4 rfl) (FF.cons (hf4.get 52 5 rfl) FF.nil)))))), hl2, (hS8.sel [0] rfl rfl)⟩
          rintro f w ⟨l3, rfl, hf5, hl3, hS9⟩
          refine cw_region ?_
          refine sq 76 rfl rfl (Y_add (k := .i64) (a := (i3 : Int)) (b := 1) rfl (hf5.get 52 5 rfl) rfl) ?_
          refine sq 52 rfl rfl (Y_move (v := .int .i64 (IntKind.i64.wrap ((i3 : Int) + 1))) rfl rfl) ?_
          refine rw_nil ?_
          obtain rfl := some_inj hF11
          exact ⟨k_5, Nat.lt_succ_self _, i3 + 1, l3, (FF.cons (hf5.get 3 0 rfl) (FF.cons (hf5.get 4 1 rfl) (FF.cons (hf5.get 5 2 rfl) (FF.cons (hf5.get 8 3 rfl) (FF.cons (hf5.get 51 4 rfl) (FF.cons (congrArg (Value.int .i64) (wr_succ hlt3 hN)) FF.nil)))))), hl3, (hS9.sel [0] rfl rfl), (by omega), hL5⟩
        · skip
          obtain rfl : k_4 = 0 := by have h := of_decide_eq_false hlt2; omega
          refine cw_exit rfl ?_
          obtain rfl := some_inj hL4
          refine cw_region ?_
          refine sq 77 rfl rfl (Y_move (v := .int .i64 rank) rfl (hf4.get 4 1 rfl)) ?_
          refine sq 78 rfl rfl (Y_add (k := .i64) (a := rank) (b := 1) rfl rfl rfl) ?_
          refine sq 4 rfl rfl (Y_assign (v := .int .i64 (IntKind.i64.wrap (rank + 1))) rfl rfl) ?_
          refine rw_nil ?_
          exact ⟨l2, (IntKind.i64.wrap (rank + 1)), (some_inj hF10), (FF.cons (hf4.get 3 0 rfl) (FF.cons rfl (FF.cons (hf4.get 5 2 rfl) FF.nil))), hl2, (hS8.sel [0] rfl rfl)⟩
    rintro f w ⟨l1, rank1, rfl, hf1, hl1, hS3⟩
    refine cw_region ?_
    refine sq 14 rfl rfl (Y_move (v := .int .i64 (bit : Int)) rfl (hf1.get 5 2 rfl)) ?_
    refine sq 15 rfl rfl (Y_add (k := .i64) (a := (bit : Int)) (b := 1) rfl rfl rfl) ?_
    refine sq 5 rfl rfl (Y_assign (v := .int .i64 (IntKind.i64.wrap ((bit : Int) + 1))) rfl rfl) ?_
    refine rw_nil ?_
    obtain rfl := some_inj hF2
    exact ⟨k_1, Nat.lt_succ_self _, bit + 1, l1, rank1, (FF.cons (hf1.get 3 0 rfl) (FF.cons (hf1.get 4 1 rfl) (FF.cons (congrArg (Value.int .i64) (wr_succ hlt1 (show 10 ≤ 9223372036854775807 by decide))) FF.nil))), hl1, (hS3.sel [0] rfl rfl), (by omega), hL1⟩
  · skip
    obtain rfl : k_ = 0 := by have h := of_decide_eq_false hlt; omega
    refine cw_exit rfl ?_
    obtain rfl := some_inj hL
    refine cw_seq ?_
    refine cw_region ?_
    refine sq 79 rfl rfl (Y_move (v := .int .i64 rank) rfl (hf.get 4 1 rfl)) ?_
    refine sq 2 rfl rfl (Y_assign (v := .int .i64 rank) rfl rfl) ?_
    refine rw_nil ?_
    refine cw_ret ?_
    obtain rfl := some_inj hF1
    exact ret1 Try.results155 (v1 := .int .i64 rank) (resAt_tmp rfl) ⟨rfl, (ST.subR (R' := []) (hS2.sel [] rfl rfl) (fun _ h => by cases h))⟩

theorem c_spec_l12Valid (m : TLinear) (B : Option Addr) (c n : Nat) (w0 : World) (hn : m.Rows.length = n) (hS : ST w0 [] w0 [] [⟨B, (m.Rows.flatMap encI)⟩]) {r_ : Bool} (hF : F_spec_l12Valid m = some r_) :
    CV Try.prog 122 #[.agg #[.slice B n c]] w0 (fun v w' => v = .bool r_ ∧ ST w0 [] w' [] []) := by
  subst hn
  unfold F_spec_l12Valid at hF
  refine cv_of_cw 25 Try.func122 rfl Try.ntmps122 rfl ?_
  refine cw_seq ?_
  refine cw_region ?_
  refine ss 1 rfl rfl (Ys_box (T := 50) (v := .agg #[.slice B m.Rows.length c]) (cs := [.slice B m.Rows.length c]) (m := 1) hS rfl rfl rfl rfl) ?_
  rintro _ w_ ⟨b, rfl, hS1⟩
  refine sq 2 rfl rfl (Y_assign (v := .bool false) rfl rfl) ?_
  refine rw_nil ?_
  refine cw_seq ?_
  refine cw_region ?_
  refine sq 4 rfl rfl (Y_fieldAddr (B := some ⟨b, 0, none⟩) (i := 0) (s := 0) k_fd_50_0_0_48 k_sz_48_1 rfl rfl) ?_
  refine sq 5 rfl rfl (Y_load1 (B := some ⟨b, 0, none⟩) (i := 0) (cs := [.slice B m.Rows.length c]) (v := .slice B m.Rows.length c) k_sc_48 rfl rfl (hS1.cf (i := 0) rfl) rfl) ?_
  refine sq 6 rfl rfl (Y_len (B := B) (m := m.Rows.length) (c := c) k_sl_48_3 rfl rfl) ?_
  refine sq 3 rfl rfl (Y_assign (v := .int .i64 (m.Rows.length : Int)) rfl rfl) ?_
  refine rw_nil ?_
  refine cw_seq ?_
  refine cw_region ?_
  refine sq 7 rfl rfl (Y_move (v := .int .i64 (m.Rows.length : Int)) rfl rfl) ?_
  obtain ⟨r_1, hc, hF⟩ := bind_inv hF
  refine sc 8 rfl rfl (Yc_func (g := 96) (vs := [.int .i64 (m.Rows.length : Int), .int .i64 1, .int .i64 5]) k_call_96 rfl (mc rfl (mc rfl (mc rfl mn))) (c_spec_l1In (m.Rows.length : Int) 1 5 _  (hS1.inn0 [] rfl) hc)) ?_
  rintro _ w_1 ⟨rfl, hd⟩
  have hS2 := hS1.out00 hd
  refine sq 9 rfl rfl (Y_move (v := .bool r_1) rfl rfl) ?_
  refine sgq 10 (B := r_1) (v := pt (some ⟨b, 0, none⟩) 0) rfl rfl (wt_t (gd_of (t := 9) (by kernel_rfl) rfl)) (fun hg => (Y_fieldAddr (B := some ⟨b, 0, none⟩) (i := 0) (s := 0) k_fd_50_0_0_48 k_sz_48_1 rfl rfl)) ?_
  refine sgq 11 (B := r_1) (v := .slice B m.Rows.length c) rfl rfl (wt_t (gd_of (t := 9) (by kernel_rfl) rfl)) (fun hg1 => (Y_load1 (B := some ⟨b, 0, none⟩) (i := 0) (cs := [.slice B m.Rows.length c]) (v := .slice B m.Rows.length c) k_sc_48 rfl (gv_of (B := r_1) (v := pt (some ⟨b, 0, none⟩) 0) hg1) (hS2.cf (i := 0) rfl) rfl)) ?_
  refine sgq 12 (B := r_1) (v := .int .i64 (m.Rows.length : Int)) rfl rfl (wt_t (gd_of (t := 9) (by kernel_rfl) rfl)) (fun hg2 => (Y_move (v := .int .i64 (m.Rows.length : Int)) rfl rfl)) ?_
  refine sgq 13 (B := r_1) (v := .int .u64 (IntKind.u64.wrap (m.Rows.length : Int))) rfl rfl (wt_t (gd_of (t := 9) (by kernel_rfl) rfl)) (fun hg3 => (Y_conv (k := .i64) (a := (m.Rows.length : Int)) (T := 3) (T' := 63) k_us_3 k_int_63_u64 rfl (gv_of (B := r_1) (v := .int .i64 (m.Rows.length : Int)) hg3))) ?_
  obtain ⟨hsh, hF⟩ := chk_inv hF
  refine sgq 14 (B := r_1) (v := .int .i64 (shlK .i64 1 (IntKind.u64.wrap (m.Rows.length : Int)))) rfl rfl (wt_t (gd_of (t := 9) (by kernel_rfl) rfl)) (fun hg4 => (Y_shl (k := .i64) (a := 1) (k' := .u64) (b := (IntKind.u64.wrap (m.Rows.length : Int))) rfl rfl (gv_of (B := r_1) (v := .int .u64 (IntKind.u64.wrap (m.Rows.length : Int))) hg4) (hsh hg4))) ?_
  refine sgq 15 (B := r_1) (v := .int .i64 (IntKind.i64.wrap ((shlK .i64 1 (IntKind.u64.wrap (m.Rows.length : Int))) - 1))) rfl rfl (wt_t (gd_of (t := 9) (by kernel_rfl) rfl)) (fun hg5 => (Y_sub (k := .i64) (a := (shlK .i64 1 (IntKind.u64.wrap (m.Rows.length : Int)))) (b := 1) rfl (gv_of (B := r_1) (v := .int .i64 (shlK .i64 1 (IntKind.u64.wrap (m.Rows.length : Int)))) hg5) rfl)) ?_
  obtain ⟨r_2, hc1, hF⟩ := bind_inv hF
  refine sgc 16 (B := r_1) (v := .bool r_2) (F := hS2.fn) rfl rfl (wt_t (gd_of (t := 9) (by kernel_rfl) rfl)) hS2 (fun hg6 => (Yc_func (g := 154) (vs := [.slice B m.Rows.length c, .int .i64 0, .int .i64 (IntKind.i64.wrap ((shlK .i64 1 (IntKind.u64.wrap (m.Rows.length : Int))) - 1))]) k_call_154 rfl (mc (gv_of (B := r_1) (v := .slice B m.Rows.length c) hg6) (mc rfl (mc (gv_of (B := r_1) (v := .int .i64 (IntKind.i64.wrap ((shlK .i64 1 (IntKind.u64.wrap (m.Rows.length : Int))) - 1))) hg6) mn))) (CV.mono (c_spec_l1All m.Rows 0 (IntKind.i64.wrap ((shlK .i64 1 (IntKind.u64.wrap (m.Rows.length : Int))) - 1)) B c m.Rows.length _ rfl (hS2.inn0 [(true, 0)] rfl) (gb_inv hc1 hg6)) (by rintro _ _ ⟨rfl, h⟩; exact ⟨rfl, hS2.out00 h⟩)))) ?_
  rintro w_2 hS3
  have hS3 : ST _ _ w_2 _ _ := hS3
  refine sq 17 rfl rfl (Y_and (b := r_1) (z := r_2) rfl rfl rfl rfl) ?_
  refine sq 18 rfl rfl (Y_move (v := .bool (r_1 && r_2)) rfl rfl) ?_
  refine sgq 19 (B := (r_1 && r_2)) (v := pt (some ⟨b, 0, none⟩) 0) rfl rfl (wt_t (gd_of (t := 18) (by kernel_rfl) rfl)) (fun hg7 => (Y_fieldAddr (B := some ⟨b, 0, none⟩) (i := 0) (s := 0) k_fd_50_0_0_48 k_sz_48_1 rfl rfl)) ?_
  refine sgq 20 (B := (r_1 && r_2)) (v := .slice B m.Rows.length c) rfl rfl (wt_t (gd_of (t := 18) (by kernel_rfl) rfl)) (fun hg8 => (Y_load1 (B := some ⟨b, 0, none⟩) (i := 0) (cs := [.slice B m.Rows.length c]) (v := .slice B m.Rows.length c) k_sc_48 rfl (gv_of (B := (r_1 && r_2)) (v := pt (some ⟨b, 0, none⟩) 0) hg8) (hS3.cf (i := 0) rfl) rfl)) ?_
  obtain ⟨r_3, hc2, hF⟩ := bind_inv hF
  refine sgc 21 (B := (r_1 && r_2)) (v := .int .i64 r_3) (F := hS3.fn) rfl rfl (wt_t (gd_of (t := 18) (by kernel_rfl) rfl)) hS3 (fun hg9 => (Yc_func (g := 155) (vs := [.slice B m.Rows.length c]) k_call_155 rfl (mc (gv_of (B := (r_1 && r_2)) (v := .slice B m.Rows.length c) hg9) mn) (CV.mono (c_spec_l12Rank m.Rows B c m.Rows.length _ rfl (hS3.inn0 [(true, 0)] rfl) (gb_inv hc2 hg9)) (by rintro _ _ ⟨rfl, h⟩; exact ⟨rfl, hS3.out00 h⟩)))) ?_
  rintro w_3 hS4
  have hS4 : ST _ _ w_3 _ _ := hS4
  refine sgq 22 (B := (r_1 && r_2)) (v := .int .i64 (m.Rows.length : Int)) rfl rfl (wt_t (gd_of (t := 18) (by kernel_rfl) rfl)) (fun hg10 => (Y_move (v := .int .i64 (m.Rows.length : Int)) rfl rfl)) ?_
  refine sgq 23 (B := (r_1 && r_2)) (v := .bool (r_3 == (m.Rows.length : Int))) rfl rfl (wt_t (gd_of (t := 18) (by kernel_rfl) rfl)) (fun hg11 => (Y_eq (k := .i64) (a := r_3) (b := (m.Rows.length : Int)) rfl (gv_of (B := (r_1 && r_2)) (v := .int .i64 r_3) hg11) (gv_of (B := (r_1 && r_2)) (v := .int .i64 (m.Rows.length : Int)) hg11))) ?_
  refine sq 24 rfl rfl (Y_and (b := (r_1 && r_2)) (z := (r_3 == (m.Rows.length : Int))) rfl rfl rfl rfl) ?_
  refine sq 2 rfl rfl (Y_assign (v := .bool ((r_1 && r_2) && (r_3 == (m.Rows.length : Int)))) rfl rfl) ?_
  refine rw_nil ?_
  refine cw_ret ?_
  obtain rfl := some_inj hF
  exact ret1 Try.results122 (v1 := .bool ((r_1 && r_2) && (r_3 == (m.Rows.length : Int)))) (resAt_tmp rfl) ⟨rfl, (ST.subR (R' := []) (hS4.sel [] rfl rfl) (fun _ h => by cases h))⟩

theorem c_spec_l13Valid (p : TPhasePoly) (B : Option Addr) (c n : Nat) (B1 : Option Addr) (c1 n1 : Nat) (w0 : World) (hn : p.Terms.length = n) (hn1 : p.Out.Rows.length = n1) (hS : ST w0 [] w0 [] [⟨B, (p.Terms.flatMap enc_Term)⟩, ⟨B1, (p.Out.Rows.flatMap encI)⟩]) {r_ : Bool} (hF : F_spec_l13Valid p = some r_) :
    CV Try.prog 76 #[.agg #[.int .i64 p.Qubits, .int .i64 p.Phase, .slice B n c, .slice B1 n1 c1]] w0 (fun v w' => v = .bool r_ ∧ ST w0 [] w' [] []) := by
  subst hn
  subst hn1
  unfold F_spec_l13Valid at hF
  refine cv_of_cw 70 Try.func76 rfl Try.ntmps76 rfl ?_
  refine cw_seq ?_
  refine cw_region ?_
  refine ss 1 rfl rfl (Ys_box (T := 52) (v := .agg #[.int .i64 p.Qubits, .int .i64 p.Phase, .slice B p.Terms.length c, .slice B1 p.Out.Rows.length c1]) (cs := [.int .i64 p.Qubits, .int .i64 p.Phase, .slice B p.Terms.length c, .slice B1 p.Out.Rows.length c1]) (m := 4) hS rfl rfl rfl rfl) ?_
  rintro _ w_ ⟨b, rfl, hS1⟩
  refine sq 2 rfl rfl (Y_assign (v := .bool false) rfl rfl) ?_
  refine rw_nil ?_
  refine cw_seq ?_
  refine cw_seq ?_
  refine cw_region ?_
  refine sq 5 rfl rfl (Y_fieldAddr (B := some ⟨b, 0, none⟩) (i := 0) (s := 0) k_fd_52_0_0_3 k_sz_3_1 rfl rfl) ?_
  refine sq 6 rfl rfl (Y_load1 (B := some ⟨b, 0, none⟩) (i := 0) (cs := [.int .i64 p.Qubits, .int .i64 p.Phase, .slice B p.Terms.length c, .slice B1 p.Out.Rows.length c1]) (v := .int .i64 p.Qubits) k_sc_3 rfl rfl (hS1.cf (i := 0) rfl) rfl) ?_
  obtain ⟨r_1, hc, hF⟩ := bind_inv hF
  refine sc 7 rfl rfl (Yc_func (g := 96) (vs := [.int .i64 p.Qubits, .int .i64 1, .int .i64 5]) k_call_96 rfl (mc rfl (mc rfl (mc rfl mn))) (c_spec_l1In p.Qubits 1 5 _  (hS1.inn0 [] rfl) hc)) ?_
  rintro _ w_1 ⟨rfl, hd⟩
  have hS2 := hS1.out00 hd
  refine sq 8 rfl rfl (Y_not (p := r_1) rfl rfl) ?_
  refine sq 9 rfl rfl (Y_move (v := .bool (!r_1)) rfl rfl) ?_
  refine sgq 10 (B := (!(!r_1))) (v := pt (some ⟨b, 0, none⟩) 1) rfl rfl (wt_f (gd_of (t := 9) (by kernel_rfl) rfl)) (fun hg => (Y_fieldAddr (B := some ⟨b, 0, none⟩) (i := 0) (s := 0) k_fd_52_1_1_3 k_sz_3_1 rfl rfl)) ?_
  refine sgq 11 (B := (!(!r_1))) (v := .int .i64 p.Phase) rfl rfl (wt_f (gd_of (t := 9) (by kernel_rfl) rfl)) (fun hg1 => (Y_load1 (B := some ⟨b, 0, none⟩) (i := 1) (cs := [.int .i64 p.Qubits, .int .i64 p.Phase, .slice B p.Terms.length c, .slice B1 p.Out.Rows.length c1]) (v := .int .i64 p.Phase) k_sc_3 rfl (gv_of (B := (!(!r_1))) (v := pt (some ⟨b, 0, none⟩) 1) hg1) (hS2.cf (i := 0) rfl) rfl)) ?_
  obtain ⟨r_2, hc1, hF⟩ := bind_inv hF
  refine sgc 12 (B := (!(!r_1))) (v := .bool r_2) (F := hS2.fn) rfl rfl (wt_f (gd_of (t := 9) (by kernel_rfl) rfl)) hS2 (fun hg2 => (Yc_func (g := 96) (vs := [.int .i64 p.Phase, .int .i64 0, .int .i64 7]) k_call_96 rfl (mc (gv_of (B := (!(!r_1))) (v := .int .i64 p.Phase) hg2) (mc rfl (mc rfl mn))) (CV.mono (c_spec_l1In p.Phase 0 7 _  (hS2.inn0 [] rfl) (gb_inv hc1 hg2)) (by rintro _ _ ⟨rfl, h⟩; exact ⟨rfl, hS2.out00 h⟩)))) ?_
  rintro w_2 hS3
  have hS3 : ST _ _ w_2 _ _ := hS3
  refine sgq 13 (B := (!(!r_1))) (v := .bool (!r_2)) rfl rfl (wt_f (gd_of (t := 9) (by kernel_rfl) rfl)) (fun hg3 => (Y_not (p := r_2) rfl (gv_of (B := (!(!r_1))) (v := .bool r_2) hg3))) ?_
  refine sq 14 rfl rfl (Y_or (b := (!r_1)) (z := (!r_2)) rfl rfl rfl rfl) ?_
  refine sq 15 rfl rfl (Y_move (v := .bool ((!r_1) || (!r_2))) rfl rfl) ?_
  refine sgq 16 (B := (!((!r_1) || (!r_2)))) (v := pt (some ⟨b, 0, none⟩) 3) rfl rfl (wt_f (gd_of (t := 15) (by kernel_rfl) rfl)) (fun hg4 => (Y_fieldAddr (B := some ⟨b, 0, none⟩) (i := 0) (s := 0) k_fd_52_3_3_50 k_sz_50_1 rfl rfl)) ?_
  refine sgq 17 (B := (!((!r_1) || (!r_2)))) (v := pt (some ⟨b, 0, none⟩) 3) rfl rfl (wt_f (gd_of (t := 15) (by kernel_rfl) rfl)) (fun hg5 => (Y_fieldAddr (B := some ⟨b, 0, none⟩) (i := 3) (s := 0) k_fd_50_0_0_48 k_sz_48_1 rfl (gv_of (B := (!((!r_1) || (!r_2)))) (v := pt (some ⟨b, 0, none⟩) 3) hg5))) ?_
  refine sgq 18 (B := (!((!r_1) || (!r_2)))) (v := .slice B1 p.Out.Rows.length c1) rfl rfl (wt_f (gd_of (t := 15) (by kernel_rfl) rfl)) (fun hg6 => (Y_load1 (B := some ⟨b, 0, none⟩) (i := 3) (cs := [.int .i64 p.Qubits, .int .i64 p.Phase, .slice B p.Terms.length c, .slice B1 p.Out.Rows.length c1]) (v := .slice B1 p.Out.Rows.length c1) k_sc_48 rfl (gv_of (B := (!((!r_1) || (!r_2)))) (v := pt (some ⟨b, 0, none⟩) 3) hg6) (hS3.cf (i := 0) rfl) rfl)) ?_
  refine sgq 19 (B := (!((!r_1) || (!r_2)))) (v := .int .i64 (p.Out.Rows.length : Int)) rfl rfl (wt_f (gd_of (t := 15) (by kernel_rfl) rfl)) (fun hg7 => (Y_len (B := B1) (m := p.Out.Rows.length) (c := c1) k_sl_48_3 rfl (gv_of (B := (!((!r_1) || (!r_2)))) (v := .slice B1 p.Out.Rows.length c1) hg7))) ?_
  refine sgq 20 (B := (!((!r_1) || (!r_2)))) (v := pt (some ⟨b, 0, none⟩) 0) rfl rfl (wt_f (gd_of (t := 15) (by kernel_rfl) rfl)) (fun hg8 => (Y_fieldAddr (B := some ⟨b, 0, none⟩) (i := 0) (s := 0) k_fd_52_0_0_3 k_sz_3_1 rfl rfl)) ?_
  refine sgq 21 (B := (!((!r_1) || (!r_2)))) (v := .int .i64 p.Qubits) rfl rfl (wt_f (gd_of (t := 15) (by kernel_rfl) rfl)) (fun hg9 => (Y_load1 (B := some ⟨b, 0, none⟩) (i := 0) (cs := [.int .i64 p.Qubits, .int .i64 p.Phase, .slice B p.Terms.length c, .slice B1 p.Out.Rows.length c1]) (v := .int .i64 p.Qubits) k_sc_3 rfl (gv_of (B := (!((!r_1) || (!r_2)))) (v := pt (some ⟨b, 0, none⟩) 0) hg9) (hS3.cf (i := 0) rfl) rfl)) ?_
  refine sgq 22 (B := (!((!r_1) || (!r_2)))) (v := .bool ((p.Out.Rows.length : Int) != p.Qubits)) rfl rfl (wt_f (gd_of (t := 15) (by kernel_rfl) rfl)) (fun hg10 => (Y_ne (k := .i64) (a := (p.Out.Rows.length : Int)) (b := p.Qubits) rfl (gv_of (B := (!((!r_1) || (!r_2)))) (v := .int .i64 (p.Out.Rows.length : Int)) hg10) (gv_of (B := (!((!r_1) || (!r_2)))) (v := .int .i64 p.Qubits) hg10))) ?_
  refine sq 23 rfl rfl (Y_or (b := ((!r_1) || (!r_2))) (z := ((p.Out.Rows.length : Int) != p.Qubits)) rfl rfl rfl rfl) ?_
  refine sq 24 rfl rfl (Y_move (v := .bool (((!r_1) || (!r_2)) || ((p.Out.Rows.length : Int) != p.Qubits))) rfl rfl) ?_
  refine sgq 25 (B := (!(((!r_1) || (!r_2)) || ((p.Out.Rows.length : Int) != p.Qubits)))) (v := pt (some ⟨b, 0, none⟩) 3) rfl rfl (wt_f (gd_of (t := 24) (by kernel_rfl) rfl)) (fun hg11 => (Y_fieldAddr (B := some ⟨b, 0, none⟩) (i := 0) (s := 0) k_fd_52_3_3_50 k_sz_50_1 rfl rfl)) ?_
  refine sgq 26 (B := (!(((!r_1) || (!r_2)) || ((p.Out.Rows.length : Int) != p.Qubits)))) (v := .agg #[.slice B1 p.Out.Rows.length c1]) rfl rfl (wt_f (gd_of (t := 24) (by kernel_rfl) rfl)) (fun hg12 => (Y_loadA (B := some ⟨b, 0, none⟩) (i := 3) (cs := [.int .i64 p.Qubits, .int .i64 p.Phase, .slice B p.Terms.length c, .slice B1 p.Out.Rows.length c1]) (vs := [.slice B1 p.Out.Rows.length c1]) k_ag_50 k_sz_50_1 rfl (gv_of (B := (!(((!r_1) || (!r_2)) || ((p.Out.Rows.length : Int) != p.Qubits)))) (v := pt (some ⟨b, 0, none⟩) 3) hg12) (hS3.cf (i := 0) rfl) rfl rfl)) ?_
  obtain ⟨r_3, hc2, hF⟩ := bind_inv hF
  refine sgc 27 (B := (!(((!r_1) || (!r_2)) || ((p.Out.Rows.length : Int) != p.Qubits)))) (v := .bool r_3) (F := hS3.fn) rfl rfl (wt_f (gd_of (t := 24) (by kernel_rfl) rfl)) hS3 (fun hg13 => (Yc_func (g := 122) (vs := [.agg #[.slice B1 p.Out.Rows.length c1]]) k_call_122 rfl (mc (gv_of (B := (!(((!r_1) || (!r_2)) || ((p.Out.Rows.length : Int) != p.Qubits)))) (v := .agg #[.slice B1 p.Out.Rows.length c1]) hg13) mn) (CV.mono (c_spec_l12Valid p.Out B1 c1 p.Out.Rows.length _ rfl (hS3.inn0 [(true, 1)] rfl) (gb_inv hc2 hg13)) (by rintro _ _ ⟨rfl, h⟩; exact ⟨rfl, hS3.out00 h⟩)))) ?_
  rintro w_3 hS4
  have hS4 : ST _ _ w_3 _ _ := hS4
  refine sgq 28 (B := (!(((!r_1) || (!r_2)) || ((p.Out.Rows.length : Int) != p.Qubits)))) (v := .bool (!r_3)) rfl rfl (wt_f (gd_of (t := 24) (by kernel_rfl) rfl)) (fun hg14 => (Y_not (p := r_3) rfl (gv_of (B := (!(((!r_1) || (!r_2)) || ((p.Out.Rows.length : Int) != p.Qubits)))) (v := .bool r_3) hg14))) ?_
  refine sq 29 rfl rfl (Y_or (b := (((!r_1) || (!r_2)) || ((p.Out.Rows.length : Int) != p.Qubits))) (z := (!r_3)) rfl rfl rfl rfl) ?_
  refine rw_nil ?_
  refine cw_cond (b := ((((!r_1) || (!r_2)) || ((p.Out.Rows.length : Int) != p.Qubits)) || (!r_3))) rfl (fun hb => ?_) (fun hb => ?_)
  · skip
    have hF1 := ct hF hb
    refine cw_seq ?_
    refine cw_region ?_
    refine sq 2 rfl rfl (Y_assign (v := .bool false) rfl rfl) ?_
    refine rw_nil ?_
    refine cw_ret ?_
    obtain rfl := some_inj hF1
    exact ret1 Try.results76 (v1 := .bool false) (resAt_tmp rfl) ⟨rfl, (ST.subR (R' := []) (hS4.sel [] rfl rfl) (fun _ h => by cases h))⟩
  · skip
    have hF2 := cf' hF hb
    refine cw_skip ?_
    refine cw_seq ?_
    refine cw_seq ?_
    refine cw_region ?_
    refine sq 30 rfl rfl (Y_fieldAddr (B := some ⟨b, 0, none⟩) (i := 0) (s := 0) k_fd_52_2_2_47 k_sz_47_1 rfl rfl) ?_
    refine sq 31 rfl rfl (Y_load1 (B := some ⟨b, 0, none⟩) (i := 2) (cs := [.int .i64 p.Qubits, .int .i64 p.Phase, .slice B p.Terms.length c, .slice B1 p.Out.Rows.length c1]) (v := .slice B p.Terms.length c) k_sc_47 rfl rfl (hS4.cf (i := 0) rfl) rfl) ?_
    refine sq 32 rfl rfl (Y_len (B := B) (m := p.Terms.length) (c := c) k_sl_47_104 rfl rfl) ?_
    refine sq 33 rfl rfl (Y_move (v := .int .i64 0) rfl rfl) ?_
    refine rw_nil ?_
    obtain ⟨hN, hF2⟩ := chk_inv hF2
    obtain ⟨z, hz, hF3⟩ := bind_inv hF2
    refine cw_block ?_
    refine cw_loop (fun k f w => ∃ (i : Nat), FF f [(1, pt (some ⟨b, 0, none⟩) 0), (31, .slice B p.Terms.length c), (32, .int .i64 (p.Terms.length : Int)), (33, .int .i64 (i : Int))] ∧ ST w0 [] w [⟨some ⟨b, 0, none⟩, 52, [.int .i64 p.Qubits, .int .i64 p.Phase, .slice B p.Terms.length c, .slice B1 p.Out.Rows.length c1], 4⟩] [⟨B, (p.Terms.flatMap enc_Term)⟩, ⟨B1, (p.Out.Rows.flatMap encI)⟩] ∧ i + k = p.Terms.length ∧ forX (F_spec_l13Valid_l1 p) k i () = some z) p.Terms.length ⟨0, (FF.cons rfl (FF.cons rfl (FF.cons rfl (FF.cons rfl FF.nil)))), (hS4.sel [0] rfl rfl), Nat.zero_add _, hz⟩ ?_
    rintro k_ f w ⟨i, hf, hS5, hik, hL⟩
    refine cw_seq ?_
    refine cw_region ?_
    refine sq 34 rfl rfl (Y_lt (k := .i64) (a := (i : Int)) (b := (p.Terms.length : Int)) rfl (hf.get 33 3 rfl) (hf.get 32 2 rfl)) ?_
    refine rw_nil ?_
    refine cw_seq ?_
    refine cw_cond (b := (decide ((i : Int) < (p.Terms.length : Int)))) rfl (fun hlt => ?_) (fun hlt => ?_)
    · skip
      have hlt1 : i < p.Terms.length := by have h := of_decide_eq_true hlt; omega
      obtain ⟨k_1, rfl⟩ : ∃ k2, k_ = k2 + 1 := ⟨k_ - 1, by omega⟩
      obtain ⟨y, hb1, hL1⟩ := forX_go hL
      unfold F_spec_l13Valid_l1 at hb1
      refine cw_skip ?_
      refine cw_seq ?_
      refine cw_block ?_
      refine cw_seq ?_
      refine cw_region ?_
      refine sq 35 rfl rfl (Y_move (v := .int .i64 (i : Int)) rfl (hf.get 33 3 rfl)) ?_
      obtain ⟨x, hx, hb1⟩ := bind_inv hb1
      refine sq 36 rfl rfl (Y_index (B := B) (m := p.Terms.length) (c := c) (k := .i64) (i := (i : Int)) k_sl_47_104 k_sz_104_2 rfl (hf.get 31 1 rfl) (hf.get 33 3 rfl) (gi_isSome enc_Term_len rfl (hS5.rf (i := 0) rfl) hx) (getI_nn hx) (getI_ltI hx rfl)) ?_
      refine sq 37 rfl rfl (Y_loadA (B := B) (i := (i : Int).toNat * 2) (cs := (p.Terms.flatMap enc_Term)) (vs := [.int .i64 x.Mask, .int .i64 x.Coef]) k_ag_104 k_sz_104_2 rfl rfl (hS5.rf (i := 0) rfl) (enc_Term_len x) (gi_seg enc_Term_len hx)) ?_
      refine ss 4 rfl rfl (Ys_alloc (T := 104) (cs := [.int .i64 0, .int .i64 0]) (m := 2) hS5 k_zero_104 rfl rfl rfl) ?_
      rintro _ w_4 ⟨b1, rfl, hS6⟩
      have hS6 : ST w0 [] _ [⟨some ⟨b, 0, none⟩, 52, [.int .i64 p.Qubits, .int .i64 p.Phase, .slice B p.Terms.length c, .slice B1 p.Out.Rows.length c1], 4⟩, ⟨some ⟨b1, 0, none⟩, 104, [.int .i64 0, .int .i64 0], 2⟩] [⟨B, (p.Terms.flatMap enc_Term)⟩, ⟨B1, (p.Out.Rows.flatMap encI)⟩] := hS6
      refine sq 3 rfl rfl (Y_assign (v := .int .i64 (i : Int)) rfl rfl) ?_
      refine ss0 rfl rfl (Ys_store (i := 1) (s := 2) (B := some ⟨b1, 0, none⟩) (T' := 104) (v := .agg #[.int .i64 x.Mask, .int .i64 x.Coef]) (vs := [.int .i64 x.Mask, .int .i64 x.Coef]) (k := 0) (cs' := [.int .i64 x.Mask, .int .i64 x.Coef]) hS6 k_sz_104_2 rfl rfl rfl rfl rfl rfl rfl (Nat.le_of_ble_eq_true rfl) rfl rfl) ?_
      rintro _ w_5 ⟨rfl, hS7⟩
      have hS7 : ST w0 [] _ [⟨some ⟨b, 0, none⟩, 52, [.int .i64 p.Qubits, .int .i64 p.Phase, .slice B p.Terms.length c, .slice B1 p.Out.Rows.length c1], 4⟩, ⟨some ⟨b1, 0, none⟩, 104, [.int .i64 x.Mask, .int .i64 x.Coef], 2⟩] [⟨B, (p.Terms.flatMap enc_Term)⟩, ⟨B1, (p.Out.Rows.flatMap encI)⟩] := hS7
      refine rw_nil ?_
      refine cw_seq ?_
      obtain ⟨hsh, hb1⟩ := chk_inv hb1
      obtain ⟨r_4, hc3, hb1⟩ := bind_inv hb1
      obtain ⟨r_5, hc4, hb1⟩ := bind_inv hb1
      obtain ⟨x1, hx1, hb1⟩ := bind_inv hb1
      refine ra_start (ST.sel hS7 [0, 1] rfl rfl).fn (by kernel_rfl) ?_
      have hS10 := hS7.drew
      refine ra_q 0 38 (v := pt (some ⟨b1, 0, none⟩) 0) rfl rfl rfl (by kernel_rfl) (by kernel_rfl) (by kernel_rfl) (ST.sel hS10 [0, 1] rfl rfl) (fun w' hw' => (Y_fieldAddr (B := some ⟨b1, 0, none⟩) (i := 0) (s := 0) k_fd_104_0_0_3 k_sz_3_1 rfl rfl)) ?_
      refine ra_q 1 39 (v := .int .i64 x.Mask) rfl rfl rfl (by kernel_rfl) (by kernel_rfl) (by kernel_rfl) (ST.sel hS10 [0, 1] rfl rfl) (fun w' hw' => (Y_load1 (B := some ⟨b1, 0, none⟩) (i := 0) (cs := [.int .i64 x.Mask, .int .i64 x.Coef]) (v := .int .i64 x.Mask) k_sc_3 rfl rfl (ST.cf hw' (i := 1) rfl) rfl)) ?_
      refine ra_q 2 40 (v := pt (some ⟨b, 0, none⟩) 0) rfl rfl rfl (by kernel_rfl) (by kernel_rfl) (by kernel_rfl) (ST.sel hS10 [0, 1] rfl rfl) (fun w' hw' => (Y_fieldAddr (B := some ⟨b, 0, none⟩) (i := 0) (s := 0) k_fd_52_0_0_3 k_sz_3_1 rfl (hf.get 1 0 rfl))) ?_
      refine ra_q 3 41 (v := .int .i64 p.Qubits) rfl rfl rfl (by kernel_rfl) (by kernel_rfl) (by kernel_rfl) (ST.sel hS10 [0, 1] rfl rfl) (fun w' hw' => (Y_load1 (B := some ⟨b, 0, none⟩) (i := 0) (cs := [.int .i64 p.Qubits, .int .i64 p.Phase, .slice B p.Terms.length c, .slice B1 p.Out.Rows.length c1]) (v := .int .i64 p.Qubits) k_sc_3 rfl rfl (ST.cf hw' (i := 0) rfl) rfl)) ?_
      refine ra_q 4 42 (v := .int .u64 (IntKind.u64.wrap p.Qubits)) rfl rfl rfl (by kernel_rfl) (by kernel_rfl) (by kernel_rfl) (ST.sel hS10 [0, 1] rfl rfl) (fun w' hw' => (Y_conv (k := .i64) (a := p.Qubits) (T := 3) (T' := 63) k_us_3 k_int_63_u64 rfl rfl)) ?_
      refine ra_q 5 43 (v := .int .i64 (shlK .i64 1 (IntKind.u64.wrap p.Qubits))) rfl rfl rfl (by kernel_rfl) (by kernel_rfl) (by kernel_rfl) (ST.sel hS10 [0, 1] rfl rfl) (fun w' hw' => (Y_shl (k := .i64) (a := 1) (k' := .u64) (b := (IntKind.u64.wrap p.Qubits)) rfl rfl rfl hsh)) ?_
      refine ra_q 6 44 (v := .int .i64 (IntKind.i64.wrap ((shlK .i64 1 (IntKind.u64.wrap p.Qubits)) - 1))) rfl rfl rfl (by kernel_rfl) (by kernel_rfl) (by kernel_rfl) (ST.sel hS10 [0, 1] rfl rfl) (fun w' hw' => (Y_sub (k := .i64) (a := (shlK .i64 1 (IntKind.u64.wrap p.Qubits))) (b := 1) rfl rfl rfl)) ?_
      refine ra_all (rs := [7]) (by kernel_rfl) rfl ?_
      refine ra_c 45 (i := 7) rfl rfl rfl (Yc_func (g := 96) (vs := [.int .i64 x.Mask, .int .i64 1, .int .i64 (IntKind.i64.wrap ((shlK .i64 1 (IntKind.u64.wrap p.Qubits)) - 1))]) k_call_96 rfl (mc rfl (mc rfl (mc rfl mn))) (c_spec_l1In x.Mask 1 (IntKind.i64.wrap ((shlK .i64 1 (IntKind.u64.wrap p.Qubits)) - 1)) _  (hS10.inn0 [] rfl) hc3)) ?_ ?_
      · rintro _ w_6 ⟨rfl, hd1⟩
        have hS11 := hS10.out00 hd1
        have hS11 : ST w0 [] _ [⟨some ⟨b, 0, none⟩, 52, [.int .i64 p.Qubits, .int .i64 p.Phase, .slice B p.Terms.length c, .slice B1 p.Out.Rows.length c1], 4⟩, ⟨some ⟨b1, 0, none⟩, 104, [.int .i64 x.Mask, .int .i64 x.Coef], 2⟩] [⟨B, (p.Terms.flatMap enc_Term)⟩, ⟨B1, (p.Out.Rows.flatMap encI)⟩] := hS11
        refine ⟨(ST.sel hS11 [0, 1] rfl rfl), ?_⟩
        refine ra_q 8 46 (v := .bool (!r_4)) rfl rfl rfl (by kernel_rfl) (by kernel_rfl) (by kernel_rfl) (ST.sel hS11 [0, 1] rfl rfl) (fun w' hw' => (Y_not (p := r_4) rfl rfl)) ?_
        refine ra_q 9 47 (v := .bool (!r_4)) rfl rfl rfl (by kernel_rfl) (by kernel_rfl) (by kernel_rfl) (ST.sel hS11 [0, 1] rfl rfl) (fun w' hw' => (Y_move (v := .bool (!r_4)) rfl rfl)) ?_
        refine ra_gq 10 48 (B := (!(!r_4))) (v := pt (some ⟨b1, 0, none⟩) 1) rfl rfl rfl (wt_f (gd_of (t := 47) (by kernel_rfl) rfl)) (by kernel_rfl) (by kernel_rfl) (by kernel_rfl) (ST.sel hS11 [0, 1] rfl rfl) (fun hg15 w' hw' => (Y_fieldAddr (B := some ⟨b1, 0, none⟩) (i := 0) (s := 0) k_fd_104_1_1_3 k_sz_3_1 rfl rfl)) ?_
        refine ra_gq 11 49 (B := (!(!r_4))) (v := .int .i64 x.Coef) rfl rfl rfl (wt_f (gd_of (t := 47) (by kernel_rfl) rfl)) (by kernel_rfl) (by kernel_rfl) (by kernel_rfl) (ST.sel hS11 [0, 1] rfl rfl) (fun hg16 w' hw' => (Y_load1 (B := some ⟨b1, 0, none⟩) (i := 1) (cs := [.int .i64 x.Mask, .int .i64 x.Coef]) (v := .int .i64 x.Coef) k_sc_3 rfl (gv_of (B := (!(!r_4))) (v := pt (some ⟨b1, 0, none⟩) 1) hg16) (ST.cf hw' (i := 1) rfl) rfl)) ?_
        refine ra_all (rs := [12]) (by kernel_rfl) rfl ?_
        refine ra_gc 50 (i := 12) (B := (!(!r_4))) (v := .bool r_5) (F := hS11.fn) rfl rfl rfl (wt_f (gd_of (t := 47) (by kernel_rfl) rfl)) hS11 (fun hg17 => (Yc_func (g := 96) (vs := [.int .i64 x.Coef, .int .i64 1, .int .i64 7]) k_call_96 rfl (mc (gv_of (B := (!(!r_4))) (v := .int .i64 x.Coef) hg17) (mc rfl (mc rfl mn))) (CV.mono (c_spec_l1In x.Coef 1 7 _  (hS11.inn0 [] rfl) (gb_inv hc4 hg17)) (by rintro _ _ ⟨rfl, h⟩; exact ⟨rfl, hS11.out00 h⟩)))) ?_ ?_
        · rintro w_7 hS12
          have hS12 : ST _ _ w_7 _ _ := hS12
          refine ⟨(ST.sel hS12 [0, 1] rfl rfl), ?_⟩
          refine ra_gq 13 51 (B := (!(!r_4))) (v := .bool (!r_5)) rfl rfl rfl (wt_f (gd_of (t := 47) (by kernel_rfl) rfl)) (by kernel_rfl) (by kernel_rfl) (by kernel_rfl) (ST.sel hS12 [0, 1] rfl rfl) (fun hg18 w' hw' => (Y_not (p := r_5) rfl (gv_of (B := (!(!r_4))) (v := .bool r_5) hg18))) ?_
          refine ra_q 14 52 (v := .bool ((!r_4) || (!r_5))) rfl rfl rfl (by kernel_rfl) (by kernel_rfl) (by kernel_rfl) (ST.sel hS12 [0, 1] rfl rfl) (fun w' hw' => (Y_or (b := (!r_4)) (z := (!r_5)) rfl rfl rfl rfl)) ?_
          refine ra_q 15 53 (v := .bool ((!r_4) || (!r_5))) rfl rfl rfl (by kernel_rfl) (by kernel_rfl) (by kernel_rfl) (ST.sel hS12 [0, 1] rfl rfl) (fun w' hw' => (Y_move (v := .bool ((!r_4) || (!r_5))) rfl rfl)) ?_
          refine ra_gq 16 54 (B := (!((!r_4) || (!r_5)))) (v := .int .i64 (i : Int)) rfl rfl rfl (wt_f (gd_of (t := 53) (by kernel_rfl) rfl)) (by kernel_rfl) (by kernel_rfl) (by kernel_rfl) (ST.sel hS12 [0, 1] rfl rfl) (fun hg19 w' hw' => (Y_move (v := .int .i64 (i : Int)) rfl rfl)) ?_
          refine ra_gq 17 55 (B := (!((!r_4) || (!r_5)))) (v := .bool (decide (0 < (i : Int)))) rfl rfl rfl (wt_f (gd_of (t := 53) (by kernel_rfl) rfl)) (by kernel_rfl) (by kernel_rfl) (by kernel_rfl) (ST.sel hS12 [0, 1] rfl rfl) (fun hg20 w' hw' => (Y_gt (k := .i64) (a := (i : Int)) (b := 0) rfl (gv_of (B := (!((!r_4) || (!r_5)))) (v := .int .i64 (i : Int)) hg20) rfl)) ?_
          refine ra_gq 18 56 (B := (!((!r_4) || (!r_5)))) (v := .bool (decide (0 < (i : Int)))) rfl rfl rfl (wt_f (gd_of (t := 53) (by kernel_rfl) rfl)) (by kernel_rfl) (by kernel_rfl) (by kernel_rfl) (ST.sel hS12 [0, 1] rfl rfl) (fun hg21 w' hw' => (Y_move (v := .bool (decide (0 < (i : Int)))) rfl (gv_of (B := (!((!r_4) || (!r_5)))) (v := .bool (decide (0 < (i : Int)))) hg21))) ?_
          refine ra_gq 19 57 (B := ((!((!r_4) || (!r_5))) && (decide (0 < (i : Int))))) (v := pt (some ⟨b, 0, none⟩) 2) rfl rfl rfl (wt_gt (gd_of (t := 56) (by kernel_rfl) rfl)) (by kernel_rfl) (by kernel_rfl) (by kernel_rfl) (ST.sel hS12 [0, 1] rfl rfl) (fun hg22 w' hw' => (Y_fieldAddr (B := some ⟨b, 0, none⟩) (i := 0) (s := 0) k_fd_52_2_2_47 k_sz_47_1 rfl (hf.get 1 0 rfl))) ?_
          refine ra_gq 20 58 (B := ((!((!r_4) || (!r_5))) && (decide (0 < (i : Int))))) (v := .slice B p.Terms.length c) rfl rfl rfl (wt_gt (gd_of (t := 56) (by kernel_rfl) rfl)) (by kernel_rfl) (by kernel_rfl) (by kernel_rfl) (ST.sel hS12 [0, 1] rfl rfl) (fun hg23 w' hw' => (Y_load1 (B := some ⟨b, 0, none⟩) (i := 2) (cs := [.int .i64 p.Qubits, .int .i64 p.Phase, .slice B p.Terms.length c, .slice B1 p.Out.Rows.length c1]) (v := .slice B p.Terms.length c) k_sc_47 rfl (gv_of (B := ((!((!r_4) || (!r_5))) && (decide (0 < (i : Int))))) (v := pt (some ⟨b, 0, none⟩) 2) hg23) (ST.cf hw' (i := 0) rfl) rfl)) ?_
          refine ra_gq 21 59 (B := ((!((!r_4) || (!r_5))) && (decide (0 < (i : Int))))) (v := .int .i64 (i : Int)) rfl rfl rfl (wt_gt (gd_of (t := 56) (by kernel_rfl) rfl)) (by kernel_rfl) (by kernel_rfl) (by kernel_rfl) (ST.sel hS12 [0, 1] rfl rfl) (fun hg24 w' hw' => (Y_move (v := .int .i64 (i : Int)) rfl rfl)) ?_
          refine ra_gq 22 60 (B := ((!((!r_4) || (!r_5))) && (decide (0 < (i : Int))))) (v := .int .i64 (IntKind.i64.wrap ((i : Int) - 1))) rfl rfl rfl (wt_gt (gd_of (t := 56) (by kernel_rfl) rfl)) (by kernel_rfl) (by kernel_rfl) (by kernel_rfl) (ST.sel hS12 [0, 1] rfl rfl) (fun hg25 w' hw' => (Y_sub (k := .i64) (a := (i : Int)) (b := 1) rfl (gv_of (B := ((!((!r_4) || (!r_5))) && (decide (0 < (i : Int))))) (v := .int .i64 (i : Int)) hg25) rfl)) ?_
          refine ra_gq 23 61 (B := ((!((!r_4) || (!r_5))) && (decide (0 < (i : Int))))) (v := pt B ((IntKind.i64.wrap ((i : Int) - 1)).toNat * 2)) rfl rfl rfl (wt_gt (gd_of (t := 56) (by kernel_rfl) rfl)) (by kernel_rfl) (by kernel_rfl) (by kernel_rfl) (ST.sel hS12 [0, 1] rfl rfl) (fun hg26 w' hw' => (Y_index (B := B) (m := p.Terms.length) (c := c) (k := .i64) (i := (IntKind.i64.wrap ((i : Int) - 1))) k_sl_47_104 k_sz_104_2 rfl (gv_of (B := ((!((!r_4) || (!r_5))) && (decide (0 < (i : Int))))) (v := .slice B p.Terms.length c) hg26) (gv_of (B := ((!((!r_4) || (!r_5))) && (decide (0 < (i : Int))))) (v := .int .i64 (IntKind.i64.wrap ((i : Int) - 1))) hg26) (gi_isSome enc_Term_len rfl (ST.rf hw' (i := 0) rfl) (gb_inv hx1 hg26)) (getI_nn (gb_inv hx1 hg26)) (getI_ltI (gb_inv hx1 hg26) rfl))) ?_
          refine ra_gq 24 62 (B := ((!((!r_4) || (!r_5))) && (decide (0 < (i : Int))))) (v := pt B ((IntKind.i64.wrap ((i : Int) - 1)).toNat * 2 + 0)) rfl rfl rfl (wt_gt (gd_of (t := 56) (by kernel_rfl) rfl)) (by kernel_rfl) (by kernel_rfl) (by kernel_rfl) (ST.sel hS12 [0, 1] rfl rfl) (fun hg27 w' hw' => (Y_fieldAddr (B := B) (i := (IntKind.i64.wrap ((i : Int) - 1)).toNat * 2) (s := 0) k_fd_104_0_0_3 k_sz_3_1 rfl (gv_of (B := ((!((!r_4) || (!r_5))) && (decide (0 < (i : Int))))) (v := pt B ((IntKind.i64.wrap ((i : Int) - 1)).toNat * 2)) hg27))) ?_
          refine ra_gq 25 63 (B := ((!((!r_4) || (!r_5))) && (decide (0 < (i : Int))))) (v := .int .i64 x1.Mask) rfl rfl rfl (wt_gt (gd_of (t := 56) (by kernel_rfl) rfl)) (by kernel_rfl) (by kernel_rfl) (by kernel_rfl) (ST.sel hS12 [0, 1] rfl rfl) (fun hg28 w' hw' => (Y_load1 (B := B) (i := (IntKind.i64.wrap ((i : Int) - 1)).toNat * 2 + 0) (cs := (p.Terms.flatMap enc_Term)) (v := .int .i64 x1.Mask) k_sc_3 rfl (gv_of (B := ((!((!r_4) || (!r_5))) && (decide (0 < (i : Int))))) (v := pt B ((IntKind.i64.wrap ((i : Int) - 1)).toNat * 2 + 0)) hg28) (ST.rf hw' (i := 0) rfl) (gi_at enc_Term_len (gb_inv hx1 hg28) rfl))) ?_
          refine ra_gq 26 64 (B := ((!((!r_4) || (!r_5))) && (decide (0 < (i : Int))))) (v := pt (some ⟨b1, 0, none⟩) 0) rfl rfl rfl (wt_gt (gd_of (t := 56) (by kernel_rfl) rfl)) (by kernel_rfl) (by kernel_rfl) (by kernel_rfl) (ST.sel hS12 [0, 1] rfl rfl) (fun hg29 w' hw' => (Y_fieldAddr (B := some ⟨b1, 0, none⟩) (i := 0) (s := 0) k_fd_104_0_0_3 k_sz_3_1 rfl rfl)) ?_
          refine ra_gq 27 65 (B := ((!((!r_4) || (!r_5))) && (decide (0 < (i : Int))))) (v := .int .i64 x.Mask) rfl rfl rfl (wt_gt (gd_of (t := 56) (by kernel_rfl) rfl)) (by kernel_rfl) (by kernel_rfl) (by kernel_rfl) (ST.sel hS12 [0, 1] rfl rfl) (fun hg30 w' hw' => (Y_load1 (B := some ⟨b1, 0, none⟩) (i := 0) (cs := [.int .i64 x.Mask, .int .i64 x.Coef]) (v := .int .i64 x.Mask) k_sc_3 rfl (gv_of (B := ((!((!r_4) || (!r_5))) && (decide (0 < (i : Int))))) (v := pt (some ⟨b1, 0, none⟩) 0) hg30) (ST.cf hw' (i := 1) rfl) rfl)) ?_
          refine ra_gq 28 66 (B := ((!((!r_4) || (!r_5))) && (decide (0 < (i : Int))))) (v := .bool (decide (x.Mask ≤ x1.Mask))) rfl rfl rfl (wt_gt (gd_of (t := 56) (by kernel_rfl) rfl)) (by kernel_rfl) (by kernel_rfl) (by kernel_rfl) (ST.sel hS12 [0, 1] rfl rfl) (fun hg31 w' hw' => (Y_ge (k := .i64) (a := x1.Mask) (b := x.Mask) rfl (gv_of (B := ((!((!r_4) || (!r_5))) && (decide (0 < (i : Int))))) (v := .int .i64 x1.Mask) hg31) (gv_of (B := ((!((!r_4) || (!r_5))) && (decide (0 < (i : Int))))) (v := .int .i64 x.Mask) hg31))) ?_
          refine ra_gq 29 67 (B := (!((!r_4) || (!r_5)))) (v := .bool ((decide (0 < (i : Int))) && (decide (x.Mask ≤ x1.Mask)))) rfl rfl rfl (wt_f (gd_of (t := 53) (by kernel_rfl) rfl)) (by kernel_rfl) (by kernel_rfl) (by kernel_rfl) (ST.sel hS12 [0, 1] rfl rfl) (fun hg32 w' hw' => (Y_and (b := (decide (0 < (i : Int)))) (z := (decide (x.Mask ≤ x1.Mask))) rfl (gv_of (B := (!((!r_4) || (!r_5)))) (v := .bool (decide (0 < (i : Int)))) hg32) (gv_and (B := (!((!r_4) || (!r_5)))) (C := (decide (0 < (i : Int)))) (v := .bool (decide (x.Mask ≤ x1.Mask))) hg32) rfl)) ?_
          refine ra_q 30 68 (v := .bool (((!r_4) || (!r_5)) || ((decide (0 < (i : Int))) && (decide (x.Mask ≤ x1.Mask))))) rfl rfl rfl (by kernel_rfl) (by kernel_rfl) (by kernel_rfl) (ST.sel hS12 [0, 1] rfl rfl) (fun w' hw' => (Y_or (b := ((!r_4) || (!r_5))) (z := ((decide (0 < (i : Int))) && (decide (x.Mask ≤ x1.Mask)))) rfl rfl rfl rfl)) ?_
          refine ra_done (by kernel_rfl) ?_
          refine cw_cond (b := (((!r_4) || (!r_5)) || ((decide (0 < (i : Int))) && (decide (x.Mask ≤ x1.Mask))))) rfl (fun hb2 => ?_) (fun hb2 => ?_)
          · skip
            have hF4 := ct hb1 hb2
            refine cw_seq ?_
            refine cw_region ?_
            refine sq 2 rfl rfl (Y_assign (v := .bool false) rfl rfl) ?_
            refine rw_nil ?_
            refine cw_ret ?_
            obtain rfl := some_inj hF4
            obtain rfl := some_inj hL1
            obtain rfl := some_inj hF3
            exact ret1 Try.results76 (v1 := .bool false) (resAt_tmp rfl) ⟨rfl, (ST.subR (R' := []) (hS12.sel [] rfl rfl) (fun _ h => by cases h))⟩
          · skip
            have hF5 := cf' hb1 hb2
            refine cw_skip ?_
            refine cw_region ?_
            refine sq 69 rfl rfl (Y_add (k := .i64) (a := (i : Int)) (b := 1) rfl (hf.get 33 3 rfl) rfl) ?_
            refine sq 33 rfl rfl (Y_move (v := .int .i64 (IntKind.i64.wrap ((i : Int) + 1))) rfl rfl) ?_
            refine rw_nil ?_
            obtain rfl := some_inj hF5
            exact ⟨k_1, Nat.lt_succ_self _, i + 1, (FF.cons (hf.get 1 0 rfl) (FF.cons (hf.get 31 1 rfl) (FF.cons (hf.get 32 2 rfl) (FF.cons (congrArg (Value.int .i64) (wr_succ hlt1 hN)) FF.nil)))), (hS12.sel [0] rfl rfl), (by omega), hL1⟩
        exact allR_nil
      exact allR_nil
    · skip
      obtain rfl : k_ = 0 := by have h := of_decide_eq_false hlt; omega
      refine cw_exit rfl ?_
      obtain rfl := some_inj hL
      refine cw_seq ?_
      refine cw_region ?_
      refine sq 2 rfl rfl (Y_assign (v := .bool true) rfl rfl) ?_
      refine rw_nil ?_
      refine cw_ret ?_
      obtain rfl := some_inj hF3
      exact ret1 Try.results76 (v1 := .bool true) (resAt_tmp rfl) ⟨rfl, (ST.subR (R' := []) (hS5.sel [] rfl rfl) (fun _ h => by cases h))⟩

theorem c_spec_l1Same (a : List Int) (b : List Int) (B : Option Addr) (c n : Nat) (B1 : Option Addr) (c1 n1 : Nat) (w0 : World) (hn : a.length = n) (hn1 : b.length = n1) (hS : ST w0 [] w0 [] [⟨B, (a.flatMap encI)⟩, ⟨B1, (b.flatMap encI)⟩]) {r_ : Bool} (hF : F_spec_l1Same a b = some r_) :
    CV Try.prog 91 #[.slice B n c, .slice B1 n1 c1] w0 (fun v w' => v = .bool r_ ∧ ST w0 [] w' [] []) := by
  subst hn
  subst hn1
  unfold F_spec_l1Same at hF
  refine cv_of_cw 26 Try.func91 rfl Try.ntmps91 rfl ?_
  refine cw_seq ?_
  refine cw_region ?_
  refine sq 4 rfl rfl (Y_assign (v := .bool false) rfl rfl) ?_
  refine rw_nil ?_
  refine cw_seq ?_
  refine cw_seq ?_
  refine cw_region ?_
  refine sq 6 rfl rfl (Y_move (v := .slice B a.length c) rfl rfl) ?_
  refine sq 7 rfl rfl (Y_len (B := B) (m := a.length) (c := c) k_sl_48_3 rfl rfl) ?_
  refine sq 8 rfl rfl (Y_move (v := .slice B1 b.length c1) rfl rfl) ?_
  refine sq 9 rfl rfl (Y_len (B := B1) (m := b.length) (c := c1) k_sl_48_3 rfl rfl) ?_
  refine sq 10 rfl rfl (Y_ne (k := .i64) (a := (a.length : Int)) (b := (b.length : Int)) rfl rfl rfl) ?_
  refine rw_nil ?_
  refine cw_cond (b := ((a.length : Int) != (b.length : Int))) rfl (fun hb => ?_) (fun hb => ?_)
  · skip
    have hF1 := ct hF hb
    refine cw_seq ?_
    refine cw_region ?_
    refine sq 4 rfl rfl (Y_assign (v := .bool false) rfl rfl) ?_
    refine rw_nil ?_
    refine cw_ret ?_
    obtain rfl := some_inj hF1
    exact ret1 Try.results91 (v1 := .bool false) (resAt_tmp rfl) ⟨rfl, (ST.subR (R' := []) (hS.sel [] rfl rfl) (fun _ h => by cases h))⟩
  · skip
    have hF2 := cf' hF hb
    refine cw_skip ?_
    refine cw_seq ?_
    refine cw_seq ?_
    refine cw_region ?_
    refine sq 11 rfl rfl (Y_move (v := .slice B a.length c) rfl rfl) ?_
    refine sq 12 rfl rfl (Y_len (B := B) (m := a.length) (c := c) k_sl_48_3 rfl rfl) ?_
    refine sq 13 rfl rfl (Y_move (v := .int .i64 0) rfl rfl) ?_
    refine rw_nil ?_
    obtain ⟨hN, hF2⟩ := chk_inv hF2
    obtain ⟨z, hz, hF3⟩ := bind_inv hF2
    refine cw_block ?_
    refine cw_loop (fun k f w => ∃ (i : Nat), FF f [(0, .slice B a.length c), (1, .slice B1 b.length c1), (12, .int .i64 (a.length : Int)), (13, .int .i64 (i : Int))] ∧ ST w0 [] w [] [⟨B, (a.flatMap encI)⟩, ⟨B1, (b.flatMap encI)⟩] ∧ i + k = a.length ∧ forX (F_spec_l1Same_l1 a b) k i () = some z) a.length ⟨0, (FF.cons rfl (FF.cons rfl (FF.cons rfl (FF.cons rfl FF.nil)))), (hS.sel [] rfl rfl), Nat.zero_add _, hz⟩ ?_
    rintro k_ f w ⟨i, hf, hS1, hik, hL⟩
    refine cw_seq ?_
    refine cw_region ?_
    refine sq 14 rfl rfl (Y_lt (k := .i64) (a := (i : Int)) (b := (a.length : Int)) rfl (hf.get 13 3 rfl) (hf.get 12 2 rfl)) ?_
    refine rw_nil ?_
    refine cw_seq ?_
    refine cw_cond (b := (decide ((i : Int) < (a.length : Int)))) rfl (fun hlt => ?_) (fun hlt => ?_)
    · skip
      have hlt1 : i < a.length := by have h := of_decide_eq_true hlt; omega
      obtain ⟨k_1, rfl⟩ : ∃ k2, k_ = k2 + 1 := ⟨k_ - 1, by omega⟩
      obtain ⟨y, hb1, hL1⟩ := forX_go hL
      unfold F_spec_l1Same_l1 at hb1
      refine cw_skip ?_
      refine cw_seq ?_
      refine cw_block ?_
      refine cw_seq ?_
      refine cw_region ?_
      refine sq 15 rfl rfl (Y_move (v := .int .i64 (i : Int)) rfl (hf.get 13 3 rfl)) ?_
      refine sq 5 rfl rfl (Y_assign (v := .int .i64 (i : Int)) rfl rfl) ?_
      refine rw_nil ?_
      refine cw_seq ?_
      obtain ⟨x, hx, hb1⟩ := bind_inv hb1
      obtain ⟨x1, hx1, hb1⟩ := bind_inv hb1
      refine ra_start (ST.sel hS1 [] rfl rfl).fn (by kernel_rfl) ?_
      have hS2 := hS1.drew
      refine ra_q 0 16 (v := .slice B a.length c) rfl rfl rfl (by kernel_rfl) (by kernel_rfl) (by kernel_rfl) (ST.sel hS2 [] rfl rfl) (fun w' hw' => (Y_move (v := .slice B a.length c) rfl (hf.get 0 0 rfl))) ?_
      refine ra_q 1 17 (v := .int .i64 (i : Int)) rfl rfl rfl (by kernel_rfl) (by kernel_rfl) (by kernel_rfl) (ST.sel hS2 [] rfl rfl) (fun w' hw' => (Y_move (v := .int .i64 (i : Int)) rfl rfl)) ?_
      refine ra_q 2 18 (v := pt B ((i : Int).toNat * 1)) rfl rfl rfl (by kernel_rfl) (by kernel_rfl) (by kernel_rfl) (ST.sel hS2 [] rfl rfl) (fun w' hw' => (Y_index (B := B) (m := a.length) (c := c) (k := .i64) (i := (i : Int)) k_sl_48_3 k_sz_3_1 rfl rfl rfl (gi_isSome encI_len rfl (ST.rf hw' (i := 0) rfl) hx) (getI_nn hx) (getI_ltI hx rfl))) ?_
      refine ra_q 3 19 (v := .int .i64 x) rfl rfl rfl (by kernel_rfl) (by kernel_rfl) (by kernel_rfl) (ST.sel hS2 [] rfl rfl) (fun w' hw' => (Y_load1 (B := B) (i := (i : Int).toNat * 1) (cs := (a.flatMap encI)) (v := .int .i64 x) k_sc_3 rfl rfl (ST.rf hw' (i := 0) rfl) (gi_at0 encI_len hx rfl))) ?_
      refine ra_q 4 20 (v := .slice B1 b.length c1) rfl rfl rfl (by kernel_rfl) (by kernel_rfl) (by kernel_rfl) (ST.sel hS2 [] rfl rfl) (fun w' hw' => (Y_move (v := .slice B1 b.length c1) rfl (hf.get 1 1 rfl))) ?_
      refine ra_q 5 21 (v := .int .i64 (i : Int)) rfl rfl rfl (by kernel_rfl) (by kernel_rfl) (by kernel_rfl) (ST.sel hS2 [] rfl rfl) (fun w' hw' => (Y_move (v := .int .i64 (i : Int)) rfl rfl)) ?_
      refine ra_q 6 22 (v := pt B1 ((i : Int).toNat * 1)) rfl rfl rfl (by kernel_rfl) (by kernel_rfl) (by kernel_rfl) (ST.sel hS2 [] rfl rfl) (fun w' hw' => (Y_index (B := B1) (m := b.length) (c := c1) (k := .i64) (i := (i : Int)) k_sl_48_3 k_sz_3_1 rfl rfl rfl (gi_isSome encI_len rfl (ST.rf hw' (i := 1) rfl) hx1) (getI_nn hx1) (getI_ltI hx1 rfl))) ?_
      refine ra_q 7 23 (v := .int .i64 x1) rfl rfl rfl (by kernel_rfl) (by kernel_rfl) (by kernel_rfl) (ST.sel hS2 [] rfl rfl) (fun w' hw' => (Y_load1 (B := B1) (i := (i : Int).toNat * 1) (cs := (b.flatMap encI)) (v := .int .i64 x1) k_sc_3 rfl rfl (ST.rf hw' (i := 1) rfl) (gi_at0 encI_len hx1 rfl))) ?_
      refine ra_q 8 24 (v := .bool (x != x1)) rfl rfl rfl (by kernel_rfl) (by kernel_rfl) (by kernel_rfl) (ST.sel hS2 [] rfl rfl) (fun w' hw' => (Y_ne (k := .i64) (a := x) (b := x1) rfl rfl rfl)) ?_
      refine ra_done (by kernel_rfl) ?_
      refine cw_cond (b := (x != x1)) rfl (fun hb2 => ?_) (fun hb2 => ?_)
      · skip
        have hF4 := ct hb1 hb2
        refine cw_seq ?_
        refine cw_region ?_
        refine sq 4 rfl rfl (Y_assign (v := .bool false) rfl rfl) ?_
        refine rw_nil ?_
        refine cw_ret ?_
        obtain rfl := some_inj hF4
        obtain rfl := some_inj hL1
        obtain rfl := some_inj hF3
        exact ret1 Try.results91 (v1 := .bool false) (resAt_tmp rfl) ⟨rfl, (ST.subR (R' := []) (hS2.sel [] rfl rfl) (fun _ h => by cases h))⟩
      · skip
        have hF5 := cf' hb1 hb2
        refine cw_skip ?_
        refine cw_region ?_
        refine sq 25 rfl rfl (Y_add (k := .i64) (a := (i : Int)) (b := 1) rfl (hf.get 13 3 rfl) rfl) ?_
        refine sq 13 rfl rfl (Y_move (v := .int .i64 (IntKind.i64.wrap ((i : Int) + 1))) rfl rfl) ?_
        refine rw_nil ?_
        obtain rfl := some_inj hF5
        exact ⟨k_1, Nat.lt_succ_self _, i + 1, (FF.cons (hf.get 0 0 rfl) (FF.cons (hf.get 1 1 rfl) (FF.cons (hf.get 12 2 rfl) (FF.cons (congrArg (Value.int .i64) (wr_succ hlt1 hN)) FF.nil)))), (hS2.sel [] rfl rfl), (by omega), hL1⟩
    · skip
      obtain rfl : k_ = 0 := by have h := of_decide_eq_false hlt; omega
      refine cw_exit rfl ?_
      obtain rfl := some_inj hL
      refine cw_seq ?_
      refine cw_region ?_
      refine sq 4 rfl rfl (Y_assign (v := .bool true) rfl rfl) ?_
      refine rw_nil ?_
      refine cw_ret ?_
      obtain rfl := some_inj hF3
      exact ret1 Try.results91 (v1 := .bool true) (resAt_tmp rfl) ⟨rfl, (ST.subR (R' := []) (hS1.sel [] rfl rfl) (fun _ h => by cases h))⟩

theorem c_spec_l15SameTerms (a : List TTerm) (b : List TTerm) (B : Option Addr) (c n : Nat) (B1 : Option Addr) (c1 n1 : Nat) (w0 : World) (hn : a.length = n) (hn1 : b.length = n1) (hS : ST w0 [] w0 [] [⟨B, (a.flatMap enc_Term)⟩, ⟨B1, (b.flatMap enc_Term)⟩]) {r_ : Bool} (hF : F_spec_l15SameTerms a b = some r_) :
    CV Try.prog 92 #[.slice B n c, .slice B1 n1 c1] w0 (fun v w' => v = .bool r_ ∧ ST w0 [] w' [] []) := by
  subst hn
  subst hn1
  unfold F_spec_l15SameTerms at hF
  refine cv_of_cw 26 Try.func92 rfl Try.ntmps92 rfl ?_
  refine cw_seq ?_
  refine cw_region ?_
  refine sq 4 rfl rfl (Y_assign (v := .bool false) rfl rfl) ?_
  refine rw_nil ?_
  refine cw_seq ?_
  refine cw_seq ?_
  refine cw_region ?_
  refine sq 6 rfl rfl (Y_move (v := .slice B a.length c) rfl rfl) ?_
  refine sq 7 rfl rfl (Y_len (B := B) (m := a.length) (c := c) k_sl_47_104 rfl rfl) ?_
  refine sq 8 rfl rfl (Y_move (v := .slice B1 b.length c1) rfl rfl) ?_
  refine sq 9 rfl rfl (Y_len (B := B1) (m := b.length) (c := c1) k_sl_47_104 rfl rfl) ?_
  refine sq 10 rfl rfl (Y_ne (k := .i64) (a := (a.length : Int)) (b := (b.length : Int)) rfl rfl rfl) ?_
  refine rw_nil ?_
  refine cw_cond (b := ((a.length : Int) != (b.length : Int))) rfl (fun hb => ?_) (fun hb => ?_)
  · skip
    have hF1 := ct hF hb
    refine cw_seq ?_
    refine cw_region ?_
    refine sq 4 rfl rfl (Y_assign (v := .bool false) rfl rfl) ?_
    refine rw_nil ?_
    refine cw_ret ?_
    obtain rfl := some_inj hF1
    exact ret1 Try.results92 (v1 := .bool false) (resAt_tmp rfl) ⟨rfl, (ST.subR (R' := []) (hS.sel [] rfl rfl) (fun _ h => by cases h))⟩
  · skip
    have hF2 := cf' hF hb
    refine cw_skip ?_
    refine cw_seq ?_
    refine cw_seq ?_
    refine cw_region ?_
    refine sq 11 rfl rfl (Y_move (v := .slice B a.length c) rfl rfl) ?_
    refine sq 12 rfl rfl (Y_len (B := B) (m := a.length) (c := c) k_sl_47_104 rfl rfl) ?_
    refine sq 13 rfl rfl (Y_move (v := .int .i64 0) rfl rfl) ?_
    refine rw_nil ?_
    obtain ⟨hN, hF2⟩ := chk_inv hF2
    obtain ⟨z, hz, hF3⟩ := bind_inv hF2
    refine cw_block ?_
    refine cw_loop (fun k f w => ∃ (i : Nat), FF f [(0, .slice B a.length c), (1, .slice B1 b.length c1), (12, .int .i64 (a.length : Int)), (13, .int .i64 (i : Int))] ∧ ST w0 [] w [] [⟨B, (a.flatMap enc_Term)⟩, ⟨B1, (b.flatMap enc_Term)⟩] ∧ i + k = a.length ∧ forX (F_spec_l15SameTerms_l1 a b) k i () = some z) a.length ⟨0, (FF.cons rfl (FF.cons rfl (FF.cons rfl (FF.cons rfl FF.nil)))), (hS.sel [] rfl rfl), Nat.zero_add _, hz⟩ ?_
    rintro k_ f w ⟨i, hf, hS1, hik, hL⟩
    refine cw_seq ?_
    refine cw_region ?_
    refine sq 14 rfl rfl (Y_lt (k := .i64) (a := (i : Int)) (b := (a.length : Int)) rfl (hf.get 13 3 rfl) (hf.get 12 2 rfl)) ?_
    refine rw_nil ?_
    refine cw_seq ?_
    refine cw_cond (b := (decide ((i : Int) < (a.length : Int)))) rfl (fun hlt => ?_) (fun hlt => ?_)
    · skip
      have hlt1 : i < a.length := by have h := of_decide_eq_true hlt; omega
      obtain ⟨k_1, rfl⟩ : ∃ k2, k_ = k2 + 1 := ⟨k_ - 1, by omega⟩
      obtain ⟨y, hb1, hL1⟩ := forX_go hL
      unfold F_spec_l15SameTerms_l1 at hb1
      refine cw_skip ?_
      refine cw_seq ?_
      refine cw_block ?_
      refine cw_seq ?_
      refine cw_region ?_
      refine sq 15 rfl rfl (Y_move (v := .int .i64 (i : Int)) rfl (hf.get 13 3 rfl)) ?_
      refine sq 5 rfl rfl (Y_assign (v := .int .i64 (i : Int)) rfl rfl) ?_
      refine rw_nil ?_
      refine cw_seq ?_
      obtain ⟨x, hx, hb1⟩ := bind_inv hb1
      obtain ⟨x1, hx1, hb1⟩ := bind_inv hb1
      refine ra_start (ST.sel hS1 [] rfl rfl).fn (by kernel_rfl) ?_
      have hS2 := hS1.drew
      refine ra_q 0 16 (v := .slice B a.length c) rfl rfl rfl (by kernel_rfl) (by kernel_rfl) (by kernel_rfl) (ST.sel hS2 [] rfl rfl) (fun w' hw' => (Y_move (v := .slice B a.length c) rfl (hf.get 0 0 rfl))) ?_
      refine ra_q 1 17 (v := .int .i64 (i : Int)) rfl rfl rfl (by kernel_rfl) (by kernel_rfl) (by kernel_rfl) (ST.sel hS2 [] rfl rfl) (fun w' hw' => (Y_move (v := .int .i64 (i : Int)) rfl rfl)) ?_
      refine ra_q 2 18 (v := pt B ((i : Int).toNat * 2)) rfl rfl rfl (by kernel_rfl) (by kernel_rfl) (by kernel_rfl) (ST.sel hS2 [] rfl rfl) (fun w' hw' => (Y_index (B := B) (m := a.length) (c := c) (k := .i64) (i := (i : Int)) k_sl_47_104 k_sz_104_2 rfl rfl rfl (gi_isSome enc_Term_len rfl (ST.rf hw' (i := 0) rfl) hx) (getI_nn hx) (getI_ltI hx rfl))) ?_
      refine ra_q 3 19 (v := .agg #[.int .i64 x.Mask, .int .i64 x.Coef]) rfl rfl rfl (by kernel_rfl) (by kernel_rfl) (by kernel_rfl) (ST.sel hS2 [] rfl rfl) (fun w' hw' => (Y_loadA (B := B) (i := (i : Int).toNat * 2) (cs := (a.flatMap enc_Term)) (vs := [.int .i64 x.Mask, .int .i64 x.Coef]) k_ag_104 k_sz_104_2 rfl rfl (ST.rf hw' (i := 0) rfl) (enc_Term_len x) (gi_seg enc_Term_len hx))) ?_
      refine ra_q 4 20 (v := .slice B1 b.length c1) rfl rfl rfl (by kernel_rfl) (by kernel_rfl) (by kernel_rfl) (ST.sel hS2 [] rfl rfl) (fun w' hw' => (Y_move (v := .slice B1 b.length c1) rfl (hf.get 1 1 rfl))) ?_
      refine ra_q 5 21 (v := .int .i64 (i : Int)) rfl rfl rfl (by kernel_rfl) (by kernel_rfl) (by kernel_rfl) (ST.sel hS2 [] rfl rfl) (fun w' hw' => (Y_move (v := .int .i64 (i : Int)) rfl rfl)) ?_
      refine ra_q 6 22 (v := pt B1 ((i : Int).toNat * 2)) rfl rfl rfl (by kernel_rfl) (by kernel_rfl) (by kernel_rfl) (ST.sel hS2 [] rfl rfl) (fun w' hw' => (Y_index (B := B1) (m := b.length) (c := c1) (k := .i64) (i := (i : Int)) k_sl_47_104 k_sz_104_2 rfl rfl rfl (gi_isSome enc_Term_len rfl (ST.rf hw' (i := 1) rfl) hx1) (getI_nn hx1) (getI_ltI hx1 rfl))) ?_
      refine ra_q 7 23 (v := .agg #[.int .i64 x1.Mask, .int .i64 x1.Coef]) rfl rfl rfl (by kernel_rfl) (by kernel_rfl) (by kernel_rfl) (ST.sel hS2 [] rfl rfl) (fun w' hw' => (Y_loadA (B := B1) (i := (i : Int).toNat * 2) (cs := (b.flatMap enc_Term)) (vs := [.int .i64 x1.Mask, .int .i64 x1.Coef]) k_ag_104 k_sz_104_2 rfl rfl (ST.rf hw' (i := 1) rfl) (enc_Term_len x1) (gi_seg enc_Term_len hx1))) ?_
      refine ra_q 8 24 (v := .bool (!((x.Mask == x1.Mask) && ((x.Coef == x1.Coef) && true)))) rfl rfl rfl (by kernel_rfl) (by kernel_rfl) (by kernel_rfl) (ST.sel hS2 [] rfl rfl) (fun w' hw' => (Y_neA (xs := #[.int .i64 x.Mask, .int .i64 x.Coef]) (ys := #[.int .i64 x1.Mask, .int .i64 x1.Coef]) (b := ((x.Mask == x1.Mask) && ((x.Coef == x1.Coef) && true))) k_eg_104 rfl rfl rfl (eqr_struct (xs := [.int .i64 x.Mask, .int .i64 x.Coef]) (ys := [.int .i64 x1.Mask, .int .i64 x1.Coef]) k_st_104 k_ho_104 (pts_sc k_sc_3 rfl rfl (eqr_int k_int_3_i64) (pts_sc k_sc_3 rfl rfl (eqr_int k_int_3_i64) pts_nil))))) ?_
      refine ra_done (by kernel_rfl) ?_
      refine cw_cond (b := (!((x.Mask == x1.Mask) && ((x.Coef == x1.Coef) && true)))) rfl (fun hb2 => ?_) (fun hb2 => ?_)
      · skip
        have hF4 := ct hb1 hb2
        refine cw_seq ?_
        refine cw_region ?_
        refine sq 4 rfl rfl (Y_assign (v := .bool false) rfl rfl) ?_
        refine rw_nil ?_
        refine cw_ret ?_
        obtain rfl := some_inj hF4
        obtain rfl := some_inj hL1
        obtain rfl := some_inj hF3
        exact ret1 Try.results92 (v1 := .bool false) (resAt_tmp rfl) ⟨rfl, (ST.subR (R' := []) (hS2.sel [] rfl rfl) (fun _ h => by cases h))⟩
      · skip
        have hF5 := cf' hb1 hb2
        refine cw_skip ?_
        refine cw_region ?_
        refine sq 25 rfl rfl (Y_add (k := .i64) (a := (i : Int)) (b := 1) rfl (hf.get 13 3 rfl) rfl) ?_
        refine sq 13 rfl rfl (Y_move (v := .int .i64 (IntKind.i64.wrap ((i : Int) + 1))) rfl rfl) ?_
        refine rw_nil ?_
        obtain rfl := some_inj hF5
        exact ⟨k_1, Nat.lt_succ_self _, i + 1, (FF.cons (hf.get 0 0 rfl) (FF.cons (hf.get 1 1 rfl) (FF.cons (hf.get 12 2 rfl) (FF.cons (congrArg (Value.int .i64) (wr_succ hlt1 hN)) FF.nil)))), (hS2.sel [] rfl rfl), (by omega), hL1⟩
    · skip
      obtain rfl : k_ = 0 := by have h := of_decide_eq_false hlt; omega
      refine cw_exit rfl ?_
      obtain rfl := some_inj hL
      refine cw_seq ?_
      refine cw_region ?_
      refine sq 4 rfl rfl (Y_assign (v := .bool true) rfl rfl) ?_
      refine rw_nil ?_
      refine cw_ret ?_
      obtain rfl := some_inj hF3
      exact ret1 Try.results92 (v1 := .bool true) (resAt_tmp rfl) ⟨rfl, (ST.subR (R' := []) (hS1.sel [] rfl rfl) (fun _ h => by cases h))⟩

theorem c_spec_l15Monomials (p : TPhasePoly) (B : Option Addr) (c n : Nat) (B1 : Option Addr) (c1 n1 : Nat) (w0 : World) (hn : p.Terms.length = n) (hn1 : p.Out.Rows.length = n1) (hS : ST w0 [] w0 [] [⟨B, (p.Terms.flatMap enc_Term)⟩, ⟨B1, (p.Out.Rows.flatMap encI)⟩]) {r_ : List TTerm} (hF : F_spec_l15Monomials p = some r_) :
    CV Try.prog 93 #[.agg #[.int .i64 p.Qubits, .int .i64 p.Phase, .slice B n c, .slice B1 n1 c1]] w0 (fun v w' => ∃ (B2 : Option Addr) (c2 : Nat), v = .slice B2 r_.length c2 ∧ ST w0 [] w' [⟨B2, 104, (r_.flatMap enc_Term), c2 * 2⟩] []) := by
  subst hn
  subst hn1
  unfold F_spec_l15Monomials at hF
  refine cv_of_cw 54 Try.func93 rfl Try.ntmps93 rfl ?_
  refine cw_seq ?_
  refine cw_region ?_
  refine ss 1 rfl rfl (Ys_box (T := 52) (v := .agg #[.int .i64 p.Qubits, .int .i64 p.Phase, .slice B p.Terms.length c, .slice B1 p.Out.Rows.length c1]) (cs := [.int .i64 p.Qubits, .int .i64 p.Phase, .slice B p.Terms.length c, .slice B1 p.Out.Rows.length c1]) (m := 4) hS rfl rfl rfl rfl) ?_
  rintro _ w_ ⟨b, rfl, hS1⟩
  refine sq 2 rfl rfl (Y_assign (v := .slice none 0 0) rfl rfl) ?_
  refine rw_nil ?_
  refine cw_seq ?_
  refine cw_region ?_
  refine sq 8 rfl rfl (Y_fieldAddr (B := some ⟨b, 0, none⟩) (i := 0) (s := 0) k_fd_52_0_0_3 k_sz_3_1 rfl rfl) ?_
  refine sq 9 rfl rfl (Y_load1 (B := some ⟨b, 0, none⟩) (i := 0) (cs := [.int .i64 p.Qubits, .int .i64 p.Phase, .slice B p.Terms.length c, .slice B1 p.Out.Rows.length c1]) (v := .int .i64 p.Qubits) k_sc_3 rfl rfl (hS1.cf (i := 0) rfl) rfl) ?_
  refine sq 10 rfl rfl (Y_conv (k := .i64) (a := p.Qubits) (T := 3) (T' := 63) k_us_3 k_int_63_u64 rfl rfl) ?_
  obtain ⟨hsh, hF⟩ := chk_inv hF
  refine sq 11 rfl rfl (Y_shl (k := .i64) (a := 1) (k' := .u64) (b := (IntKind.u64.wrap p.Qubits)) rfl rfl rfl hsh) ?_
  obtain ⟨hmk, hF⟩ := chk_inv hF
  refine ss 12 rfl rfl (Ys_make (s := 1) (by' := 8) (nn := (shlK .i64 1 (IntKind.u64.wrap p.Qubits)).toNat) (a := (shlK .i64 1 (IntKind.u64.wrap p.Qubits))) (b := (shlK .i64 1 (IntKind.u64.wrap p.Qubits))) (cs := ((List.replicate ((shlK .i64 1 (IntKind.u64.wrap p.Qubits)).toNat) 0).flatMap encI)) hS1 k_sl_48_3 k_sz_3_1 k_by_3_8 k_zero_3 rfl rfl rfl rfl hmk.1 rfl (by have := hmk; omega) (by have := hmk; omega) (by omega) (fm_rep (enc := encI) (d := 0) rfl _)) ?_
  rintro _ w_1 ⟨b1, rfl, hS2⟩
  have hS2 : ST w0 [] _ [⟨some ⟨b, 0, none⟩, 52, [.int .i64 p.Qubits, .int .i64 p.Phase, .slice B p.Terms.length c, .slice B1 p.Out.Rows.length c1], 4⟩, ⟨some ⟨b1, 0, none⟩, 3, ((List.replicate ((shlK .i64 1 (IntKind.u64.wrap p.Qubits)).toNat) 0).flatMap encI), ((shlK .i64 1 (IntKind.u64.wrap p.Qubits)).toNat) * 1⟩] [⟨B, (p.Terms.flatMap enc_Term)⟩, ⟨B1, (p.Out.Rows.flatMap encI)⟩] := hS2
  refine sq 3 rfl rfl (Y_assign (v := .slice (some ⟨b1, 0, none⟩) ((shlK .i64 1 (IntKind.u64.wrap p.Qubits)).toNat) ((shlK .i64 1 (IntKind.u64.wrap p.Qubits)).toNat)) rfl rfl) ?_
  refine rw_nil ?_
  refine cw_seq ?_
  refine cw_seq ?_
  refine cw_region ?_
  refine sq 13 rfl rfl (Y_move (v := .slice (some ⟨b1, 0, none⟩) ((shlK .i64 1 (IntKind.u64.wrap p.Qubits)).toNat) ((shlK .i64 1 (IntKind.u64.wrap p.Qubits)).toNat)) rfl rfl) ?_
  refine sq 14 rfl rfl (Y_len (B := some ⟨b1, 0, none⟩) (m := (shlK .i64 1 (IntKind.u64.wrap p.Qubits)).toNat) (c := (shlK .i64 1 (IntKind.u64.wrap p.Qubits)).toNat) k_sl_48_3 rfl rfl) ?_
  refine sq 15 rfl rfl (Y_move (v := .int .i64 0) rfl rfl) ?_
  refine rw_nil ?_
  obtain ⟨hN, hF⟩ := chk_inv hF
  obtain ⟨z, hz, hF1⟩ := bind_inv hF
  refine cw_block ?_
  refine cw_loop (fun k f w => ∃ (i : Nat) (by_ : List Int), FF f [(1, pt (some ⟨b, 0, none⟩) 0), (3, .slice (some ⟨b1, 0, none⟩) ((shlK .i64 1 (IntKind.u64.wrap p.Qubits)).toNat) ((shlK .i64 1 (IntKind.u64.wrap p.Qubits)).toNat)), (14, .int .i64 ((shlK .i64 1 (IntKind.u64.wrap p.Qubits)).toNat : Int)), (15, .int .i64 (i : Int))] ∧ by_.length = (shlK .i64 1 (IntKind.u64.wrap p.Qubits)).toNat ∧ ST w0 [] w [⟨some ⟨b, 0, none⟩, 52, [.int .i64 p.Qubits, .int .i64 p.Phase, .slice B p.Terms.length c, .slice B1 p.Out.Rows.length c1], 4⟩, ⟨some ⟨b1, 0, none⟩, 3, (by_.flatMap encI), ((shlK .i64 1 (IntKind.u64.wrap p.Qubits)).toNat) * 1⟩] [⟨B, (p.Terms.flatMap enc_Term)⟩, ⟨B1, (p.Out.Rows.flatMap encI)⟩] ∧ i + k = (shlK .i64 1 (IntKind.u64.wrap p.Qubits)).toNat ∧ forN (F_spec_l15Monomials_l1 p) k i by_ = some z) ((shlK .i64 1 (IntKind.u64.wrap p.Qubits)).toNat) ⟨0, (List.replicate ((shlK .i64 1 (IntKind.u64.wrap p.Qubits)).toNat) 0), (FF.cons rfl (FF.cons rfl (FF.cons rfl (FF.cons rfl FF.nil)))), List.length_replicate, (hS2.sel [0, 1] rfl rfl), Nat.zero_add _, hz⟩ ?_
  rintro k_ f w ⟨i, by_, hf, hl, hS3, hik, hL⟩
  refine cw_seq ?_
  refine cw_region ?_
  refine sq 16 rfl rfl (Y_lt (k := .i64) (a := (i : Int)) (b := ((shlK .i64 1 (IntKind.u64.wrap p.Qubits)).toNat : Int)) rfl (hf.get 15 3 rfl) (hf.get 14 2 rfl)) ?_
  refine rw_nil ?_
  refine cw_seq ?_
  refine cw_cond (b := (decide ((i : Int) < ((shlK .i64 1 (IntKind.u64.wrap p.Qubits)).toNat : Int)))) rfl (fun hlt => ?_) (fun hlt => ?_)
  · skip
    have hlt1 : i < (shlK .i64 1 (IntKind.u64.wrap p.Qubits)).toNat := by have h := of_decide_eq_true hlt; omega
    obtain ⟨k_1, rfl⟩ : ∃ k2, k_ = k2 + 1 := ⟨k_ - 1, by omega⟩
    obtain ⟨y, hb, hL1⟩ := forN_go hL
    unfold F_spec_l15Monomials_l1 at hb
    refine cw_skip ?_
    refine cw_seq ?_
    obtain ⟨z1, hz1, hF2⟩ := bind_inv hb
    refine cw_mid (fun f w => ∃ (by_1 : List Int), by_1 = z1 ∧ FF f [(1, pt (some ⟨b, 0, none⟩) 0), (3, .slice (some ⟨b1, 0, none⟩) ((shlK .i64 1 (IntKind.u64.wrap p.Qubits)).toNat) ((shlK .i64 1 (IntKind.u64.wrap p.Qubits)).toNat)), (14, .int .i64 ((shlK .i64 1 (IntKind.u64.wrap p.Qubits)).toNat : Int)), (15, .int .i64 (i : Int))] ∧ by_1.length = (shlK .i64 1 (IntKind.u64.wrap p.Qubits)).toNat ∧ ST w0 [] w [⟨some ⟨b, 0, none⟩, 52, [.int .i64 p.Qubits, .int .i64 p.Phase, .slice B p.Terms.length c, .slice B1 p.Out.Rows.length c1], 4⟩, ⟨some ⟨b1, 0, none⟩, 3, (by_1.flatMap encI), ((shlK .i64 1 (IntKind.u64.wrap p.Qubits)).toNat) * 1⟩] [⟨B, (p.Terms.flatMap enc_Term)⟩, ⟨B1, (p.Out.Rows.flatMap encI)⟩]) ?_ ?_
    · skip
      refine cw_block ?_
      refine cw_seq ?_
      refine cw_region ?_
      refine sq 17 rfl rfl (Y_move (v := .int .i64 (i : Int)) rfl (hf.get 15 3 rfl)) ?_
      refine sq 4 rfl rfl (Y_assign (v := .int .i64 (i : Int)) rfl rfl) ?_
      refine rw_nil ?_
      refine cw_seq ?_
      refine cw_region ?_
      refine sq 18 rfl rfl (Y_move (v := .int .i64 (i : Int)) rfl rfl) ?_
      obtain ⟨r_1, hc, hz1⟩ := bind_inv hz1
      refine sc 19 rfl rfl (Yc_func (g := 123) (vs := [.int .i64 (i : Int)]) k_call_123 rfl (mc rfl mn) (c_spec_l1Set (i : Int) _  (hS3.inn0 [] rfl) hc)) ?_
      rintro _ w_2 ⟨B3, c3, rfl, hd⟩
      have hS5 := hS3.out0 hd
      have hS5 : ST w0 [] _ [⟨some ⟨b, 0, none⟩, 52, [.int .i64 p.Qubits, .int .i64 p.Phase, .slice B p.Terms.length c, .slice B1 p.Out.Rows.length c1], 4⟩, ⟨some ⟨b1, 0, none⟩, 3, (by_.flatMap encI), ((shlK .i64 1 (IntKind.u64.wrap p.Qubits)).toNat) * 1⟩, ⟨B3, 3, (r_1.flatMap encI), c3 * 1⟩] [⟨B, (p.Terms.flatMap enc_Term)⟩, ⟨B1, (p.Out.Rows.flatMap encI)⟩] := hS5
      refine sq 20 rfl rfl (Y_len (B := B3) (m := r_1.length) (c := c3) k_sl_48_3 rfl rfl) ?_
      refine sq 5 rfl rfl (Y_assign (v := .int .i64 (r_1.length : Int)) rfl rfl) ?_
      refine rw_nil ?_
      refine cw_seq ?_
      refine cw_seq ?_
      refine cw_region ?_
      refine sq 21 rfl rfl (Y_move (v := .int .i64 (r_1.length : Int)) rfl rfl) ?_
      obtain ⟨r_2, hc1, hz1⟩ := bind_inv hz1
      refine sc 22 rfl rfl (Yc_func (g := 96) (vs := [.int .i64 (r_1.length : Int), .int .i64 1, .int .i64 3]) k_call_96 rfl (mc rfl (mc rfl (mc rfl mn))) (c_spec_l1In (r_1.length : Int) 1 3 _  (hS5.inn0 [] rfl) hc1)) ?_
      rintro _ w_3 ⟨rfl, hd1⟩
      have hS6 := hS5.out00 hd1
      have hS6 : ST w0 [] _ [⟨some ⟨b, 0, none⟩, 52, [.int .i64 p.Qubits, .int .i64 p.Phase, .slice B p.Terms.length c, .slice B1 p.Out.Rows.length c1], 4⟩, ⟨some ⟨b1, 0, none⟩, 3, (by_.flatMap encI), ((shlK .i64 1 (IntKind.u64.wrap p.Qubits)).toNat) * 1⟩, ⟨B3, 3, (r_1.flatMap encI), c3 * 1⟩] [⟨B, (p.Terms.flatMap enc_Term)⟩, ⟨B1, (p.Out.Rows.flatMap encI)⟩] := hS6
      refine sq 23 rfl rfl (Y_not (p := r_2) rfl rfl) ?_
      refine rw_nil ?_
      refine cw_cond (b := (!r_2)) rfl (fun hb1 => ?_) (fun hb1 => ?_)
      · skip
        have hF3 := ct hz1 hb1
        refine cw_exit rfl ?_
        exact ⟨by_, (some_inj hF3), (FF.cons (hf.get 1 0 rfl) (FF.cons (hf.get 3 1 rfl) (FF.cons (hf.get 14 2 rfl) (FF.cons (hf.get 15 3 rfl) FF.nil)))), hl, (hS6.sel [0, 1] rfl rfl)⟩
      · skip
        have hF4 := cf' hz1 hb1
        refine cw_skip ?_
        refine cw_seq ?_
        refine cw_region ?_
        refine sq 24 rfl rfl (Y_fieldAddr (B := some ⟨b, 0, none⟩) (i := 0) (s := 0) k_fd_52_2_2_47 k_sz_47_1 rfl (hf.get 1 0 rfl)) ?_
        refine sq 25 rfl rfl (Y_load1 (B := some ⟨b, 0, none⟩) (i := 2) (cs := [.int .i64 p.Qubits, .int .i64 p.Phase, .slice B p.Terms.length c, .slice B1 p.Out.Rows.length c1]) (v := .slice B p.Terms.length c) k_sc_47 rfl rfl (hS6.cf (i := 0) rfl) rfl) ?_
        refine sq 26 rfl rfl (Y_len (B := B) (m := p.Terms.length) (c := c) k_sl_47_104 rfl rfl) ?_
        refine sq 27 rfl rfl (Y_move (v := .int .i64 0) rfl rfl) ?_
        refine rw_nil ?_
        obtain ⟨hN1, hF4⟩ := chk_inv hF4
        obtain ⟨z2, hz2, hF5⟩ := bind_inv hF4
        refine cw_block ?_
        refine cw_loop (fun k f w => ∃ (i1 : Nat) (by_2 : List Int), FF f [(1, pt (some ⟨b, 0, none⟩) 0), (3, .slice (some ⟨b1, 0, none⟩) ((shlK .i64 1 (IntKind.u64.wrap p.Qubits)).toNat) ((shlK .i64 1 (IntKind.u64.wrap p.Qubits)).toNat)), (4, .int .i64 (i : Int)), (5, .int .i64 (r_1.length : Int)), (14, .int .i64 ((shlK .i64 1 (IntKind.u64.wrap p.Qubits)).toNat : Int)), (15, .int .i64 (i : Int)), (25, .slice B p.Terms.length c), (26, .int .i64 (p.Terms.length : Int)), (27, .int .i64 (i1 : Int))] ∧ by_2.length = (shlK .i64 1 (IntKind.u64.wrap p.Qubits)).toNat ∧ ST w0 [] w [⟨some ⟨b, 0, none⟩, 52, [.int .i64 p.Qubits, .int .i64 p.Phase, .slice B p.Terms.length c, .slice B1 p.Out.Rows.length c1], 4⟩, ⟨some ⟨b1, 0, none⟩, 3, (by_2.flatMap encI), ((shlK .i64 1 (IntKind.u64.wrap p.Qubits)).toNat) * 1⟩] [⟨B, (p.Terms.flatMap enc_Term)⟩, ⟨B1, (p.Out.Rows.flatMap encI)⟩] ∧ i1 + k = p.Terms.length ∧ forN (F_spec_l15Monomials_l2 p i r_1) k i1 by_2 = some z2) p.Terms.length ⟨0, by_, (FF.cons (hf.get 1 0 rfl) (FF.cons (hf.get 3 1 rfl) (FF.cons rfl (FF.cons rfl (FF.cons (hf.get 14 2 rfl) (FF.cons (hf.get 15 3 rfl) (FF.cons rfl (FF.cons rfl (FF.cons rfl FF.nil))))))))), hl, (hS6.sel [0, 1] rfl rfl), Nat.zero_add _, hz2⟩ ?_
        rintro k_2 f w ⟨i1, by_2, hf2, hl2, hS7, hik1, hL2⟩
        refine cw_seq ?_
        refine cw_region ?_
        refine sq 28 rfl rfl (Y_lt (k := .i64) (a := (i1 : Int)) (b := (p.Terms.length : Int)) rfl (hf2.get 27 8 rfl) (hf2.get 26 7 rfl)) ?_
        refine rw_nil ?_
        refine cw_seq ?_
        refine cw_cond (b := (decide ((i1 : Int) < (p.Terms.length : Int)))) rfl (fun hlt2 => ?_) (fun hlt2 => ?_)
        · skip
          have hlt3 : i1 < p.Terms.length := by have h := of_decide_eq_true hlt2; omega
          obtain ⟨k_3, rfl⟩ : ∃ k2, k_2 = k2 + 1 := ⟨k_2 - 1, by omega⟩
          obtain ⟨y1, hb2, hL3⟩ := forN_go hL2
          unfold F_spec_l15Monomials_l2 at hb2
          refine cw_skip ?_
          refine cw_seq ?_
          obtain ⟨z3, hz3, hF6⟩ := bind_inv hb2
          refine cw_mid (fun f w => ∃ (by_3 : List Int), by_3 = z3 ∧ FF f [(1, pt (some ⟨b, 0, none⟩) 0), (3, .slice (some ⟨b1, 0, none⟩) ((shlK .i64 1 (IntKind.u64.wrap p.Qubits)).toNat) ((shlK .i64 1 (IntKind.u64.wrap p.Qubits)).toNat)), (4, .int .i64 (i : Int)), (5, .int .i64 (r_1.length : Int)), (14, .int .i64 ((shlK .i64 1 (IntKind.u64.wrap p.Qubits)).toNat : Int)), (15, .int .i64 (i : Int)), (25, .slice B p.Terms.length c), (26, .int .i64 (p.Terms.length : Int)), (27, .int .i64 (i1 : Int))] ∧ by_3.length = (shlK .i64 1 (IntKind.u64.wrap p.Qubits)).toNat ∧ ST w0 [] w [⟨some ⟨b, 0, none⟩, 52, [.int .i64 p.Qubits, .int .i64 p.Phase, .slice B p.Terms.length c, .slice B1 p.Out.Rows.length c1], 4⟩, ⟨some ⟨b1, 0, none⟩, 3, (by_3.flatMap encI), ((shlK .i64 1 (IntKind.u64.wrap p.Qubits)).toNat) * 1⟩] [⟨B, (p.Terms.flatMap enc_Term)⟩, ⟨B1, (p.Out.Rows.flatMap encI)⟩]) ?_ ?_
          · skip
            refine cw_block ?_
            refine cw_seq ?_
            refine cw_region ?_
            obtain ⟨x, hx, hz3⟩ := bind_inv hz3
            refine sq 29 rfl rfl (Y_index (B := B) (m := p.Terms.length) (c := c) (k := .i64) (i := (i1 : Int)) k_sl_47_104 k_sz_104_2 rfl (hf2.get 25 6 rfl) (hf2.get 27 8 rfl) (gi_isSome enc_Term_len rfl (hS7.rf (i := 0) rfl) hx) (getI_nn hx) (getI_ltI hx rfl)) ?_
            refine sq 30 rfl rfl (Y_loadA (B := B) (i := (i1 : Int).toNat * 2) (cs := (p.Terms.flatMap enc_Term)) (vs := [.int .i64 x.Mask, .int .i64 x.Coef]) k_ag_104 k_sz_104_2 rfl rfl (hS7.rf (i := 0) rfl) (enc_Term_len x) (gi_seg enc_Term_len hx)) ?_
            refine ss 7 rfl rfl (Ys_alloc (T := 104) (cs := [.int .i64 0, .int .i64 0]) (m := 2) hS7 k_zero_104 rfl rfl rfl) ?_
            rintro _ w_4 ⟨b2, rfl, hS9⟩
            have hS9 : ST w0 [] _ [⟨some ⟨b, 0, none⟩, 52, [.int .i64 p.Qubits, .int .i64 p.Phase, .slice B p.Terms.length c, .slice B1 p.Out.Rows.length c1], 4⟩, ⟨some ⟨b1, 0, none⟩, 3, (by_2.flatMap encI), ((shlK .i64 1 (IntKind.u64.wrap p.Qubits)).toNat) * 1⟩, ⟨some ⟨b2, 0, none⟩, 104, [.int .i64 0, .int .i64 0], 2⟩] [⟨B, (p.Terms.flatMap enc_Term)⟩, ⟨B1, (p.Out.Rows.flatMap encI)⟩] := hS9
            refine ss0 rfl rfl (Ys_store (i := 2) (s := 2) (B := some ⟨b2, 0, none⟩) (T' := 104) (v := .agg #[.int .i64 x.Mask, .int .i64 x.Coef]) (vs := [.int .i64 x.Mask, .int .i64 x.Coef]) (k := 0) (cs' := [.int .i64 x.Mask, .int .i64 x.Coef]) hS9 k_sz_104_2 rfl rfl rfl rfl rfl rfl rfl (Nat.le_of_ble_eq_true rfl) rfl rfl) ?_
            rintro _ w_5 ⟨rfl, hS10⟩
            have hS10 : ST w0 [] _ [⟨some ⟨b, 0, none⟩, 52, [.int .i64 p.Qubits, .int .i64 p.Phase, .slice B p.Terms.length c, .slice B1 p.Out.Rows.length c1], 4⟩, ⟨some ⟨b1, 0, none⟩, 3, (by_2.flatMap encI), ((shlK .i64 1 (IntKind.u64.wrap p.Qubits)).toNat) * 1⟩, ⟨some ⟨b2, 0, none⟩, 104, [.int .i64 x.Mask, .int .i64 x.Coef], 2⟩] [⟨B, (p.Terms.flatMap enc_Term)⟩, ⟨B1, (p.Out.Rows.flatMap encI)⟩] := hS10
            refine rw_nil ?_
            refine cw_seq ?_
            refine cw_region ?_
            refine sq 31 rfl rfl (Y_fieldAddr (B := some ⟨b2, 0, none⟩) (i := 0) (s := 0) k_fd_104_0_0_3 k_sz_3_1 rfl rfl) ?_
            refine sq 32 rfl rfl (Y_load1 (B := some ⟨b2, 0, none⟩) (i := 0) (cs := [.int .i64 x.Mask, .int .i64 x.Coef]) (v := .int .i64 x.Mask) k_sc_3 rfl rfl (hS10.cf (i := 2) rfl) rfl) ?_
            refine sq 33 rfl rfl (Y_move (v := .int .i64 (i : Int)) rfl (hf2.get 4 2 rfl)) ?_
            refine sq 34 rfl rfl (Y_band (k := .i64) (a := x.Mask) (b := (i : Int)) rfl rfl rfl) ?_
            refine sq 35 rfl rfl (Y_move (v := .int .i64 (i : Int)) rfl (hf2.get 4 2 rfl)) ?_
            refine sq 36 rfl rfl (Y_eq (k := .i64) (a := (bits .and .i64 x.Mask (i : Int))) (b := (i : Int)) rfl rfl rfl) ?_
            refine rw_nil ?_
            refine cw_cond (b := ((bits .and .i64 x.Mask (i : Int)) == (i : Int))) rfl (fun hb3 => ?_) (fun hb3 => ?_)
            · skip
              have hF7 := ct hz3 hb3
              obtain ⟨x1, hx1, hF7⟩ := bind_inv hF7
              obtain ⟨x2, hx2, hF7⟩ := bind_inv hF7
              refine cw_mid (fun f w => FF f [(1, pt (some ⟨b, 0, none⟩) 0), (3, .slice (some ⟨b1, 0, none⟩) ((shlK .i64 1 (IntKind.u64.wrap p.Qubits)).toNat) ((shlK .i64 1 (IntKind.u64.wrap p.Qubits)).toNat)), (4, .int .i64 (i : Int)), (5, .int .i64 (r_1.length : Int)), (14, .int .i64 ((shlK .i64 1 (IntKind.u64.wrap p.Qubits)).toNat : Int)), (15, .int .i64 (i : Int)), (25, .slice B p.Terms.length c), (26, .int .i64 (p.Terms.length : Int)), (27, .int .i64 (i1 : Int))] ∧ ST w0 [] w [⟨some ⟨b, 0, none⟩, 52, [.int .i64 p.Qubits, .int .i64 p.Phase, .slice B p.Terms.length c, .slice B1 p.Out.Rows.length c1], 4⟩, ⟨some ⟨b1, 0, none⟩, 3, ((by_2.set (i : Int).toNat (IntKind.i64.wrap (x1 + (IntKind.i64.wrap (x2 * x.Coef))))).flatMap encI), ((shlK .i64 1 (IntKind.u64.wrap p.Qubits)).toNat) * 1⟩] [⟨B, (p.Terms.flatMap enc_Term)⟩, ⟨B1, (p.Out.Rows.flatMap encI)⟩]) ?_ ?_
              · skip
                refine ra_start (ST.sel hS10 [0, 2] rfl rfl).fn (by kernel_rfl) ?_
                have hS12 := hS10.drew
                refine ra_q 0 37 (v := .slice (some ⟨b1, 0, none⟩) ((shlK .i64 1 (IntKind.u64.wrap p.Qubits)).toNat) ((shlK .i64 1 (IntKind.u64.wrap p.Qubits)).toNat)) rfl rfl rfl (by kernel_rfl) (by kernel_rfl) (by kernel_rfl) (ST.sel hS12 [0, 2] rfl rfl) (fun w' hw' => (Y_move (v := .slice (some ⟨b1, 0, none⟩) ((shlK .i64 1 (IntKind.u64.wrap p.Qubits)).toNat) ((shlK .i64 1 (IntKind.u64.wrap p.Qubits)).toNat)) rfl (hf2.get 3 1 rfl))) ?_
                refine ra_q 1 38 (v := .int .i64 (i : Int)) rfl rfl rfl (by kernel_rfl) (by kernel_rfl) (by kernel_rfl) (ST.sel hS12 [0, 2] rfl rfl) (fun w' hw' => (Y_move (v := .int .i64 (i : Int)) rfl (hf2.get 4 2 rfl))) ?_
                refine ra_q 5 42 (v := .int .i64 (r_1.length : Int)) rfl rfl rfl (by kernel_rfl) (by kernel_rfl) (by kernel_rfl) (ST.sel hS12 [0, 2] rfl rfl) (fun w' hw' => (Y_move (v := .int .i64 (r_1.length : Int)) rfl (hf2.get 5 3 rfl))) ?_
                refine ra_q 8 45 (v := pt (some ⟨b2, 0, none⟩) 1) rfl rfl rfl (by kernel_rfl) (by kernel_rfl) (by kernel_rfl) (ST.sel hS12 [0, 2] rfl rfl) (fun w' hw' => (Y_fieldAddr (B := some ⟨b2, 0, none⟩) (i := 0) (s := 0) k_fd_104_1_1_3 k_sz_3_1 rfl rfl)) ?_
                refine ra_q 9 46 (v := .int .i64 x.Coef) rfl rfl rfl (by kernel_rfl) (by kernel_rfl) (by kernel_rfl) (ST.sel hS12 [0, 2] rfl rfl) (fun w' hw' => (Y_load1 (B := some ⟨b2, 0, none⟩) (i := 1) (cs := [.int .i64 x.Mask, .int .i64 x.Coef]) (v := .int .i64 x.Coef) k_sc_3 rfl rfl (ST.cf hw' (i := 1) rfl) rfl)) ?_
                refine ra_all (rs := [2, 4]) (by kernel_rfl) rfl ?_
                refine ra_y 39 (i := 2) (v := pt (some ⟨b1, 0, none⟩) ((i : Int).toNat * 1)) rfl rfl rfl (Y_index (B := some ⟨b1, 0, none⟩) (m := (shlK .i64 1 (IntKind.u64.wrap p.Qubits)).toNat) (c := (shlK .i64 1 (IntKind.u64.wrap p.Qubits)).toNat) (k := .i64) (i := (i : Int)) k_sl_48_3 k_sz_3_1 rfl rfl rfl (gi_isSome encI_len rfl (hS12.cf (i := 1) rfl) hx1) (getI_nn hx1) (getI_ltI hx1 hl2)) (ST.sel hS12 [0, 2] rfl rfl) ?_ ?_
                · skip
                  refine ra_all (rs := [3, 4]) (by kernel_rfl) rfl ?_
                  refine ra_y 40 (i := 3) (v := .int .i64 x1) rfl rfl rfl (Y_load1 (B := some ⟨b1, 0, none⟩) (i := (i : Int).toNat * 1) (cs := (by_2.flatMap encI)) (v := .int .i64 x1) k_sc_3 rfl rfl (hS12.cf (i := 1) rfl) (gi_at0 encI_len hx1 rfl)) (ST.sel hS12 [0, 2] rfl rfl) ?_ ?_
                  · skip
                    refine ra_all (rs := [4]) (by kernel_rfl) rfl ?_
                    refine ra_s 41 (i := 4) rfl rfl rfl (Ys_bslice (s := 1) (len := 4) (vs := [(0, .int .i64 0), (1, .int .i64 1), (2, .int .i64 (-2)), (3, .int .i64 4)]) (cs := [.int .i64 0, .int .i64 1, .int .i64 (-2), .int .i64 4]) (zs := [.int .i64 0, .int .i64 0, .int .i64 0, .int .i64 0]) (m := 4) hS12 k_sl_48_3 k_sz_3_1 k_zc_3 rfl (mpc rfl (mpc rfl (mpc rfl (mpc rfl mpn)))) rfl rfl rfl (by kernel_rfl) (by kernel_rfl) rfl) ?_ ?_
                    · rintro _ w_6 ⟨b3, rfl, hS13⟩
                      have hS13 : ST w0 [] _ [⟨some ⟨b, 0, none⟩, 52, [.int .i64 p.Qubits, .int .i64 p.Phase, .slice B p.Terms.length c, .slice B1 p.Out.Rows.length c1], 4⟩, ⟨some ⟨b1, 0, none⟩, 3, (by_2.flatMap encI), ((shlK .i64 1 (IntKind.u64.wrap p.Qubits)).toNat) * 1⟩, ⟨some ⟨b2, 0, none⟩, 104, [.int .i64 x.Mask, .int .i64 x.Coef], 2⟩, ⟨some ⟨b3, 0, none⟩, 3, ([0, 1, (-2), 4].flatMap encI), 4 * 1⟩] [⟨B, (p.Terms.flatMap enc_Term)⟩, ⟨B1, (p.Out.Rows.flatMap encI)⟩] := hS13
                      refine ⟨(ST.sel hS13 [0, 2] rfl rfl), ?_⟩
                      refine ra_all (rs := [6]) (by kernel_rfl) rfl ?_
                      refine ra_y 43 (i := 6) (v := pt (some ⟨b3, 0, none⟩) ((r_1.length : Int).toNat * 1)) rfl rfl rfl (Y_index (B := some ⟨b3, 0, none⟩) (m := 4) (c := 4) (k := .i64) (i := (r_1.length : Int)) k_sl_48_3 k_sz_3_1 rfl rfl rfl (gi_isSome encI_len rfl (hS13.cf (i := 3) rfl) hx2) (getI_nn hx2) (getI_ltI hx2 rfl)) (ST.sel hS13 [0, 2] rfl rfl) ?_ ?_
                      · skip
                        refine ra_all (rs := [7]) (by kernel_rfl) rfl ?_
                        refine ra_y 44 (i := 7) (v := .int .i64 x2) rfl rfl rfl (Y_load1 (B := some ⟨b3, 0, none⟩) (i := (r_1.length : Int).toNat * 1) (cs := ([0, 1, (-2), 4].flatMap encI)) (v := .int .i64 x2) k_sc_3 rfl rfl (hS13.cf (i := 3) rfl) (gi_at0 encI_len hx2 rfl)) (ST.sel hS13 [0, 2] rfl rfl) ?_ ?_
                        · skip
                          refine ra_q 10 47 (v := .int .i64 (IntKind.i64.wrap (x2 * x.Coef))) rfl rfl rfl (by kernel_rfl) (by kernel_rfl) (by kernel_rfl) (ST.sel hS13 [0, 2] rfl rfl) (fun w' hw' => (Y_mul (k := .i64) (a := x2) (b := x.Coef) rfl rfl rfl)) ?_
                          refine ra_q 11 48 (v := .int .i64 (IntKind.i64.wrap (x1 + (IntKind.i64.wrap (x2 * x.Coef))))) rfl rfl rfl (by kernel_rfl) (by kernel_rfl) (by kernel_rfl) (ST.sel hS13 [0, 2] rfl rfl) (fun w' hw' => (Y_add (k := .i64) (a := x1) (b := (IntKind.i64.wrap (x2 * x.Coef))) rfl rfl rfl)) ?_
                          refine ra_all (rs := [12]) (by kernel_rfl) rfl ?_
                          refine ra_y 49 (i := 12) (v := pt (some ⟨b1, 0, none⟩) ((i : Int).toNat * 1)) rfl rfl rfl (Y_index (B := some ⟨b1, 0, none⟩) (m := (shlK .i64 1 (IntKind.u64.wrap p.Qubits)).toNat) (c := (shlK .i64 1 (IntKind.u64.wrap p.Qubits)).toNat) (k := .i64) (i := (i : Int)) k_sl_48_3 k_sz_3_1 rfl rfl rfl (gi_isSome encI_len rfl (hS13.cf (i := 1) rfl) hx1) (getI_nn hx1) (getI_ltI hx1 hl2)) (ST.sel hS13 [0, 2] rfl rfl) ?_ ?_
                          · skip
                            refine ra_all (rs := [13]) (by kernel_rfl) rfl ?_
                            refine ra_s0 (i := 13) rfl rfl rfl (Ys_store (i := 1) (s := 1) (B := some ⟨b1, 0, none⟩) (T' := 3) (v := .int .i64 (IntKind.i64.wrap (x1 + (IntKind.i64.wrap (x2 * x.Coef))))) (vs := [.int .i64 (IntKind.i64.wrap (x1 + (IntKind.i64.wrap (x2 * x.Coef))))]) (k := (i : Int).toNat * 1) (cs' := ((by_2.set (i : Int).toNat (IntKind.i64.wrap (x1 + (IntKind.i64.wrap (x2 * x.Coef))))).flatMap encI)) hS13 k_sz_3_1 rfl rfl rfl rfl rfl rfl rfl (gi_fit0 encI_len hx1) (gi_set encI_len hx1 (IntKind.i64.wrap (x1 + (IntKind.i64.wrap (x2 * x.Coef)))) rfl) rfl) ?_ ?_
                            · rintro _ w_7 ⟨rfl, hS14⟩
                              have hS14 : ST w0 [] _ [⟨some ⟨b, 0, none⟩, 52, [.int .i64 p.Qubits, .int .i64 p.Phase, .slice B p.Terms.length c, .slice B1 p.Out.Rows.length c1], 4⟩, ⟨some ⟨b1, 0, none⟩, 3, ((by_2.set (i : Int).toNat (IntKind.i64.wrap (x1 + (IntKind.i64.wrap (x2 * x.Coef))))).flatMap encI), ((shlK .i64 1 (IntKind.u64.wrap p.Qubits)).toNat) * 1⟩, ⟨some ⟨b2, 0, none⟩, 104, [.int .i64 x.Mask, .int .i64 x.Coef], 2⟩, ⟨some ⟨b3, 0, none⟩, 3, ([0, 1, (-2), 4].flatMap encI), 4 * 1⟩] [⟨B, (p.Terms.flatMap enc_Term)⟩, ⟨B1, (p.Out.Rows.flatMap encI)⟩] := hS14
                              refine ⟨(ST.sel hS14 [0, 2] rfl rfl), ?_⟩
                              refine ra_done (by kernel_rfl) ?_
                              exact ⟨(FF.cons (hf2.get 1 0 rfl) (FF.cons (hf2.get 3 1 rfl) (FF.cons (hf2.get 4 2 rfl) (FF.cons (hf2.get 5 3 rfl) (FF.cons (hf2.get 14 4 rfl) (FF.cons (hf2.get 15 5 rfl) (FF.cons (hf2.get 25 6 rfl) (FF.cons (hf2.get 26 7 rfl) (FF.cons (hf2.get 27 8 rfl) FF.nil))))))))), (hS14.sel [0, 1] rfl rfl)⟩
                            exact allR_nil
                          exact allR_nil
                        exact allR_nil
                      exact allR_nil
                    exact allR_nil
                  refine ra_s 41 (i := 4) rfl rfl rfl (Ys_bslice (s := 1) (len := 4) (vs := [(0, .int .i64 0), (1, .int .i64 1), (2, .int .i64 (-2)), (3, .int .i64 4)]) (cs := [.int .i64 0, .int .i64 1, .int .i64 (-2), .int .i64 4]) (zs := [.int .i64 0, .int .i64 0, .int .i64 0, .int .i64 0]) (m := 4) hS12 k_sl_48_3 k_sz_3_1 k_zc_3 rfl (mpc rfl (mpc rfl (mpc rfl (mpc rfl mpn)))) rfl rfl rfl (by kernel_rfl) (by kernel_rfl) rfl) ?_ ?_
                  · rintro _ w_8 ⟨b3, rfl, hS15⟩
                    have hS15 : ST w0 [] _ [⟨some ⟨b, 0, none⟩, 52, [.int .i64 p.Qubits, .int .i64 p.Phase, .slice B p.Terms.length c, .slice B1 p.Out.Rows.length c1], 4⟩, ⟨some ⟨b1, 0, none⟩, 3, (by_2.flatMap encI), ((shlK .i64 1 (IntKind.u64.wrap p.Qubits)).toNat) * 1⟩, ⟨some ⟨b2, 0, none⟩, 104, [.int .i64 x.Mask, .int .i64 x.Coef], 2⟩, ⟨some ⟨b3, 0, none⟩, 3, ([0, 1, (-2), 4].flatMap encI), 4 * 1⟩] [⟨B, (p.Terms.flatMap enc_Term)⟩, ⟨B1, (p.Out.Rows.flatMap encI)⟩] := hS15
                    refine ⟨(ST.sel hS15 [0, 2] rfl rfl), ?_⟩
                    refine ra_all (rs := [3, 6]) (by kernel_rfl) rfl ?_
                    refine ra_y 40 (i := 3) (v := .int .i64 x1) rfl rfl rfl (Y_load1 (B := some ⟨b1, 0, none⟩) (i := (i : Int).toNat * 1) (cs := (by_2.flatMap encI)) (v := .int .i64 x1) k_sc_3 rfl rfl (hS15.cf (i := 1) rfl) (gi_at0 encI_len hx1 rfl)) (ST.sel hS15 [0, 2] rfl rfl) ?_ ?_
                    · skip
                      refine ra_all (rs := [6]) (by kernel_rfl) rfl ?_
                      refine ra_y 43 (i := 6) (v := pt (some ⟨b3, 0, none⟩) ((r_1.length : Int).toNat * 1)) rfl rfl rfl (Y_index (B := some ⟨b3, 0, none⟩) (m := 4) (c := 4) (k := .i64) (i := (r_1.length : Int)) k_sl_48_3 k_sz_3_1 rfl rfl rfl (gi_isSome encI_len rfl (hS15.cf (i := 3) rfl) hx2) (getI_nn hx2) (getI_ltI hx2 rfl)) (ST.sel hS15 [0, 2] rfl rfl) ?_ ?_
                      · skip
                        refine ra_all (rs := [7]) (by kernel_rfl) rfl ?_
                        refine ra_y 44 (i := 7) (v := .int .i64 x2) rfl rfl rfl (Y_load1 (B := some ⟨b3, 0, none⟩) (i := (r_1.length : Int).toNat * 1) (cs := ([0, 1, (-2), 4].flatMap encI)) (v := .int .i64 x2) k_sc_3 rfl rfl (hS15.cf (i := 3) rfl) (gi_at0 encI_len hx2 rfl)) (ST.sel hS15 [0, 2] rfl rfl) ?_ ?_
                        · skip
                          refine ra_q 10 47 (v := .int .i64 (IntKind.i64.wrap (x2 * x.Coef))) rfl rfl rfl (by kernel_rfl) (by kernel_rfl) (by kernel_rfl) (ST.sel hS15 [0, 2] rfl rfl) (fun w' hw' => (Y_mul (k := .i64) (a := x2) (b := x.Coef) rfl rfl rfl)) ?_
                          refine ra_q 11 48 (v := .int .i64 (IntKind.i64.wrap (x1 + (IntKind.i64.wrap (x2 * x.Coef))))) rfl rfl rfl (by kernel_rfl) (by kernel_rfl) (by kernel_rfl) (ST.sel hS15 [0, 2] rfl rfl) (fun w' hw' => (Y_add (k := .i64) (a := x1) (b := (IntKind.i64.wrap (x2 * x.Coef))) rfl rfl rfl)) ?_
                          refine ra_all (rs := [12]) (by kernel_rfl) rfl ?_
                          refine ra_y 49 (i := 12) (v := pt (some ⟨b1, 0, none⟩) ((i : Int).toNat * 1)) rfl rfl rfl (Y_index (B := some ⟨b1, 0, none⟩) (m := (shlK .i64 1 (IntKind.u64.wrap p.Qubits)).toNat) (c := (shlK .i64 1 (IntKind.u64.wrap p.Qubits)).toNat) (k := .i64) (i := (i : Int)) k_sl_48_3 k_sz_3_1 rfl rfl rfl (gi_isSome encI_len rfl (hS15.cf (i := 1) rfl) hx1) (getI_nn hx1) (getI_ltI hx1 hl2)) (ST.sel hS15 [0, 2] rfl rfl) ?_ ?_
                          · skip
                            refine ra_all (rs := [13]) (by kernel_rfl) rfl ?_
                            refine ra_s0 (i := 13) rfl rfl rfl (Ys_store (i := 1) (s := 1) (B := some ⟨b1, 0, none⟩) (T' := 3) (v := .int .i64 (IntKind.i64.wrap (x1 + (IntKind.i64.wrap (x2 * x.Coef))))) (vs := [.int .i64 (IntKind.i64.wrap (x1 + (IntKind.i64.wrap (x2 * x.Coef))))]) (k := (i : Int).toNat * 1) (cs' := ((by_2.set (i : Int).toNat (IntKind.i64.wrap (x1 + (IntKind.i64.wrap (x2 * x.Coef))))).flatMap encI)) hS15 k_sz_3_1 rfl rfl rfl rfl rfl rfl rfl (gi_fit0 encI_len hx1) (gi_set encI_len hx1 (IntKind.i64.wrap (x1 + (IntKind.i64.wrap (x2 * x.Coef)))) rfl) rfl) ?_ ?_
                            · rintro _ w_9 ⟨rfl, hS16⟩
                              have hS16 : ST w0 [] _ [⟨some ⟨b, 0, none⟩, 52, [.int .i64 p.Qubits, .int .i64 p.Phase, .slice B p.Terms.length c, .slice B1 p.Out.Rows.length c1], 4⟩, ⟨some ⟨b1, 0, none⟩, 3, ((by_2.set (i : Int).toNat (IntKind.i64.wrap (x1 + (IntKind.i64.wrap (x2 * x.Coef))))).flatMap encI), ((shlK .i64 1 (IntKind.u64.wrap p.Qubits)).toNat) * 1⟩, ⟨some ⟨b2, 0, none⟩, 104, [.int .i64 x.Mask, .int .i64 x.Coef], 2⟩, ⟨some ⟨b3, 0, none⟩, 3, ([0, 1, (-2), 4].flatMap encI), 4 * 1⟩] [⟨B, (p.Terms.flatMap enc_Term)⟩, ⟨B1, (p.Out.Rows.flatMap encI)⟩] := hS16
                              refine ⟨(ST.sel hS16 [0, 2] rfl rfl), ?_⟩
                              refine ra_done (by kernel_rfl) ?_
                              exact ⟨(FF.cons (hf2.get 1 0 rfl) (FF.cons (hf2.get 3 1 rfl) (FF.cons (hf2.get 4 2 rfl) (FF.cons (hf2.get 5 3 rfl) (FF.cons (hf2.get 14 4 rfl) (FF.cons (hf2.get 15 5 rfl) (FF.cons (hf2.get 25 6 rfl) (FF.cons (hf2.get 26 7 rfl) (FF.cons (hf2.get 27 8 rfl) FF.nil))))))))), (hS16.sel [0, 1] rfl rfl)⟩
                            exact allR_nil
                          exact allR_nil
                        exact allR_nil
                      exact allR_nil
                    refine ra_y 43 (i := 6) (v := pt (some ⟨b3, 0, none⟩) ((r_1.length : Int).toNat * 1)) rfl rfl rfl (Y_index (B := some ⟨b3, 0, none⟩) (m := 4) (c := 4) (k := .i64) (i := (r_1.length : Int)) k_sl_48_3 k_sz_3_1 rfl rfl rfl (gi_isSome encI_len rfl (hS15.cf (i := 3) rfl) hx2) (getI_nn hx2) (getI_ltI hx2 rfl)) (ST.sel hS15 [0, 2] rfl rfl) ?_ ?_
                    · skip
                      refine ra_all (rs := [3, 7]) (by kernel_rfl) rfl ?_
                      refine ra_y 40 (i := 3) (v := .int .i64 x1) rfl rfl rfl (Y_load1 (B := some ⟨b1, 0, none⟩) (i := (i : Int).toNat * 1) (cs := (by_2.flatMap encI)) (v := .int .i64 x1) k_sc_3 rfl rfl (hS15.cf (i := 1) rfl) (gi_at0 encI_len hx1 rfl)) (ST.sel hS15 [0, 2] rfl rfl) ?_ ?_
                      · skip
                        refine ra_all (rs := [7]) (by kernel_rfl) rfl ?_
                        refine ra_y 44 (i := 7) (v := .int .i64 x2) rfl rfl rfl (Y_load1 (B := some ⟨b3, 0, none⟩) (i := (r_1.length : Int).toNat * 1) (cs := ([0, 1, (-2), 4].flatMap encI)) (v := .int .i64 x2) k_sc_3 rfl rfl (hS15.cf (i := 3) rfl) (gi_at0 encI_len hx2 rfl)) (ST.sel hS15 [0, 2] rfl rfl) ?_ ?_
                        · skip
                          refine ra_q 10 47 (v := .int .i64 (IntKind.i64.wrap (x2 * x.Coef))) rfl rfl rfl (by kernel_rfl) (by kernel_rfl) (by kernel_rfl) (ST.sel hS15 [0, 2] rfl rfl) (fun w' hw' => (Y_mul (k := .i64) (a := x2) (b := x.Coef) rfl rfl rfl)) ?_
                          refine ra_q 11 48 (v := .int .i64 (IntKind.i64.wrap (x1 + (IntKind.i64.wrap (x2 * x.Coef))))) rfl rfl rfl (by kernel_rfl) (by kernel_rfl) (by kernel_rfl) (ST.sel hS15 [0, 2] rfl rfl) (fun w' hw' => (Y_add (k := .i64) (a := x1) (b := (IntKind.i64.wrap (x2 * x.Coef))) rfl rfl rfl)) ?_
                          refine ra_all (rs := [12]) (by kernel_rfl) rfl ?_
                          refine ra_y 49 (i := 12) (v := pt (some ⟨b1, 0, none⟩) ((i : Int).toNat * 1)) rfl rfl rfl (Y_index (B := some ⟨b1, 0, none⟩) (m := (shlK .i64 1 (IntKind.u64.wrap p.Qubits)).toNat) (c := (shlK .i64 1 (IntKind.u64.wrap p.Qubits)).toNat) (k := .i64) (i := (i : Int)) k_sl_48_3 k_sz_3_1 rfl rfl rfl (gi_isSome encI_len rfl (hS15.cf (i := 1) rfl) hx1) (getI_nn hx1) (getI_ltI hx1 hl2)) (ST.sel hS15 [0, 2] rfl rfl) ?_ ?_
                          · skip
                            refine ra_all (rs := [13]) (by kernel_rfl) rfl ?_
                            refine ra_s0 (i := 13) rfl rfl rfl (Ys_store (i := 1) (s := 1) (B := some ⟨b1, 0, none⟩) (T' := 3) (v := .int .i64 (IntKind.i64.wrap (x1 + (IntKind.i64.wrap (x2 * x.Coef))))) (vs := [.int .i64 (IntKind.i64.wrap (x1 + (IntKind.i64.wrap (x2 * x.Coef))))]) (k := (i : Int).toNat * 1) (cs' := ((by_2.set (i : Int).toNat (IntKind.i64.wrap (x1 + (IntKind.i64.wrap (x2 * x.Coef))))).flatMap encI)) hS15 k_sz_3_1 rfl rfl rfl rfl rfl rfl rfl (gi_fit0 encI_len hx1) (gi_set encI_len hx1 (IntKind.i64.wrap (x1 + (IntKind.i64.wrap (x2 * x.Coef)))) rfl) rfl) ?_ ?_
                            · rintro _ w_10 ⟨rfl, hS17⟩
                              have hS17 : ST w0 [] _ [⟨some ⟨b, 0, none⟩, 52, [.int .i64 p.Qubits, .int .i64 p.Phase, .slice B p.Terms.length c, .slice B1 p.Out.Rows.length c1], 4⟩, ⟨some ⟨b1, 0, none⟩, 3, ((by_2.set (i : Int).toNat (IntKind.i64.wrap (x1 + (IntKind.i64.wrap (x2 * x.Coef))))).flatMap encI), ((shlK .i64 1 (IntKind.u64.wrap p.Qubits)).toNat) * 1⟩, ⟨some ⟨b2, 0, none⟩, 104, [.int .i64 x.Mask, .int .i64 x.Coef], 2⟩, ⟨some ⟨b3, 0, none⟩, 3, ([0, 1, (-2), 4].flatMap encI), 4 * 1⟩] [⟨B, (p.Terms.flatMap enc_Term)⟩, ⟨B1, (p.Out.Rows.flatMap encI)⟩] := hS17
                              refine ⟨(ST.sel hS17 [0, 2] rfl rfl), ?_⟩
                              refine ra_done (by kernel_rfl) ?_
                              exact ⟨(FF.cons (hf2.get 1 0 rfl) (FF.cons (hf2.get 3 1 rfl) (FF.cons (hf2.get 4 2 rfl) (FF.cons (hf2.get 5 3 rfl) (FF.cons (hf2.get 14 4 rfl) (FF.cons (hf2.get 15 5 rfl) (FF.cons (hf2.get 25 6 rfl) (FF.cons (hf2.get 26 7 rfl) (FF.cons (hf2.get 27 8 rfl) FF.nil))))))))), (hS17.sel [0, 1] rfl rfl)⟩
                            exact allR_nil
                          exact allR_nil
                        exact allR_nil
                      refine ra_y 44 (i := 7) (v := .int .i64 x2) rfl rfl rfl (Y_load1 (B := some ⟨b3, 0, none⟩) (i := (r_1.length : Int).toNat * 1) (cs := ([0, 1, (-2), 4].flatMap encI)) (v := .int .i64 x2) k_sc_3 rfl rfl (hS15.cf (i := 3) rfl) (gi_at0 encI_len hx2 rfl)) (ST.sel hS15 [0, 2] rfl rfl) ?_ ?_
                      · skip
                        refine ra_q 10 47 (v := .int .i64 (IntKind.i64.wrap (x2 * x.Coef))) rfl rfl rfl (by kernel_rfl) (by kernel_rfl) (by kernel_rfl) (ST.sel hS15 [0, 2] rfl rfl) (fun w' hw' => (Y_mul (k := .i64) (a := x2) (b := x.Coef) rfl rfl rfl)) ?_
                        refine ra_all (rs := [3]) (by kernel_rfl) rfl ?_
                        refine ra_y 40 (i := 3) (v := .int .i64 x1) rfl rfl rfl (Y_load1 (B := some ⟨b1, 0, none⟩) (i := (i : Int).toNat * 1) (cs := (by_2.flatMap encI)) (v := .int .i64 x1) k_sc_3 rfl rfl (hS15.cf (i := 1) rfl) (gi_at0 encI_len hx1 rfl)) (ST.sel hS15 [0, 2] rfl rfl) ?_ ?_
                        · skip
                          refine ra_q 11 48 (v := .int .i64 (IntKind.i64.wrap (x1 + (IntKind.i64.wrap (x2 * x.Coef))))) rfl rfl rfl (by kernel_rfl) (by kernel_rfl) (by kernel_rfl) (ST.sel hS15 [0, 2] rfl rfl) (fun w' hw' => (Y_add (k := .i64) (a := x1) (b := (IntKind.i64.wrap (x2 * x.Coef))) rfl rfl rfl)) ?_
                          refine ra_all (rs := [12]) (by kernel_rfl) rfl ?_
                          refine ra_y 49 (i := 12) (v := pt (some ⟨b1, 0, none⟩) ((i : Int).toNat * 1)) rfl rfl rfl (Y_index (B := some ⟨b1, 0, none⟩) (m := (shlK .i64 1 (IntKind.u64.wrap p.Qubits)).toNat) (c := (shlK .i64 1 (IntKind.u64.wrap p.Qubits)).toNat) (k := .i64) (i := (i : Int)) k_sl_48_3 k_sz_3_1 rfl rfl rfl (gi_isSome encI_len rfl (hS15.cf (i := 1) rfl) hx1) (getI_nn hx1) (getI_ltI hx1 hl2)) (ST.sel hS15 [0, 2] rfl rfl) ?_ ?_
                          · skip
                            refine ra_all (rs := [13]) (by kernel_rfl) rfl ?_
                            refine ra_s0 (i := 13) rfl rfl rfl (Ys_store (i := 1) (s := 1) (B := some ⟨b1, 0, none⟩) (T' := 3) (v := .int .i64 (IntKind.i64.wrap (x1 + (IntKind.i64.wrap (x2 * x.Coef))))) (vs := [.int .i64 (IntKind.i64.wrap (x1 + (IntKind.i64.wrap (x2 * x.Coef))))]) (k := (i : Int).toNat * 1) (cs' := ((by_2.set (i : Int).toNat (IntKind.i64.wrap (x1 + (IntKind.i64.wrap (x2 * x.Coef))))).flatMap encI)) hS15 k_sz_3_1 rfl rfl rfl rfl rfl rfl rfl (gi_fit0 encI_len hx1) (gi_set encI_len hx1 (IntKind.i64.wrap (x1 + (IntKind.i64.wrap (x2 * x.Coef)))) rfl) rfl) ?_ ?_
                            · rintro _ w_11 ⟨rfl, hS18⟩
                              have hS18 : ST w0 [] _ [⟨some ⟨b, 0, none⟩, 52, [.int .i64 p.Qubits, .int .i64 p.Phase, .slice B p.Terms.length c, .slice B1 p.Out.Rows.length c1], 4⟩, ⟨some ⟨b1, 0, none⟩, 3, ((by_2.set (i : Int).toNat (IntKind.i64.wrap (x1 + (IntKind.i64.wrap (x2 * x.Coef))))).flatMap encI), ((shlK .i64 1 (IntKind.u64.wrap p.Qubits)).toNat) * 1⟩, ⟨some ⟨b2, 0, none⟩, 104, [.int .i64 x.Mask, .int .i64 x.Coef], 2⟩, ⟨some ⟨b3, 0, none⟩, 3, ([0, 1, (-2), 4].flatMap encI), 4 * 1⟩] [⟨B, (p.Terms.flatMap enc_Term)⟩, ⟨B1, (p.Out.Rows.flatMap encI)⟩] := hS18
                              refine ⟨(ST.sel hS18 [0, 2] rfl rfl), ?_⟩
                              refine ra_done (by kernel_rfl) ?_
                              exact ⟨(FF.cons (hf2.get 1 0 rfl) (FF.cons (hf2.get 3 1 rfl) (FF.cons (hf2.get 4 2 rfl) (FF.cons (hf2.get 5 3 rfl) (FF.cons (hf2.get 14 4 rfl) (FF.cons (hf2.get 15 5 rfl) (FF.cons (hf2.get 25 6 rfl) (FF.cons (hf2.get 26 7 rfl) (FF.cons (hf2.get 27 8 rfl) FF.nil))))))))), (hS18.sel [0, 1] rfl rfl)⟩
                            exact allR_nil
                          exact allR_nil
                        exact allR_nil
                      exact allR_nil
                    exact allR_nil
                  exact allR_nil
                refine ra_s 41 (i := 4) rfl rfl rfl (Ys_bslice (s := 1) (len := 4) (vs := [(0, .int .i64 0), (1, .int .i64 1), (2, .int .i64 (-2)), (3, .int .i64 4)]) (cs := [.int .i64 0, .int .i64 1, .int .i64 (-2), .int .i64 4]) (zs := [.int .i64 0, .int .i64 0, .int .i64 0, .int .i64 0]) (m := 4) hS12 k_sl_48_3 k_sz_3_1 k_zc_3 rfl (mpc rfl (mpc rfl (mpc rfl (mpc rfl mpn)))) rfl rfl rfl (by kernel_rfl) (by kernel_rfl) rfl) ?_ ?_
                · rintro _ w_12 ⟨b3, rfl, hS19⟩
                  have hS19 : ST w0 [] _ [⟨some ⟨b, 0, none⟩, 52, [.int .i64 p.Qubits, .int .i64 p.Phase, .slice B p.Terms.length c, .slice B1 p.Out.Rows.length c1], 4⟩, ⟨some ⟨b1, 0, none⟩, 3, (by_2.flatMap encI), ((shlK .i64 1 (IntKind.u64.wrap p.Qubits)).toNat) * 1⟩, ⟨some ⟨b2, 0, none⟩, 104, [.int .i64 x.Mask, .int .i64 x.Coef], 2⟩, ⟨some ⟨b3, 0, none⟩, 3, ([0, 1, (-2), 4].flatMap encI), 4 * 1⟩] [⟨B, (p.Terms.flatMap enc_Term)⟩, ⟨B1, (p.Out.Rows.flatMap encI)⟩] := hS19
                  refine ⟨(ST.sel hS19 [0, 2] rfl rfl), ?_⟩
                  refine ra_all (rs := [2, 6]) (by kernel_rfl) rfl ?_
                  refine ra_y 39 (i := 2) (v := pt (some ⟨b1, 0, none⟩) ((i : Int).toNat * 1)) rfl rfl rfl (Y_index (B := some ⟨b1, 0, none⟩) (m := (shlK .i64 1 (IntKind.u64.wrap p.Qubits)).toNat) (c := (shlK .i64 1 (IntKind.u64.wrap p.Qubits)).toNat) (k := .i64) (i := (i : Int)) k_sl_48_3 k_sz_3_1 rfl rfl rfl (gi_isSome encI_len rfl (hS19.cf (i := 1) rfl) hx1) (getI_nn hx1) (getI_ltI hx1 hl2)) (ST.sel hS19 [0, 2] rfl rfl) ?_ ?_
                  · skip
                    refine ra_all (rs := [3, 6]) (by kernel_rfl) rfl ?_
                    refine ra_y 40 (i := 3) (v := .int .i64 x1) rfl rfl rfl (Y_load1 (B := some ⟨b1, 0, none⟩) (i := (i : Int).toNat * 1) (cs := (by_2.flatMap encI)) (v := .int .i64 x1) k_sc_3 rfl rfl (hS19.cf (i := 1) rfl) (gi_at0 encI_len hx1 rfl)) (ST.sel hS19 [0, 2] rfl rfl) ?_ ?_
                    · skip
                      refine ra_all (rs := [6]) (by kernel_rfl) rfl ?_
                      refine ra_y 43 (i := 6) (v := pt (some ⟨b3, 0, none⟩) ((r_1.length : Int).toNat * 1)) rfl rfl rfl (Y_index (B := some ⟨b3, 0, none⟩) (m := 4) (c := 4) (k := .i64) (i := (r_1.length : Int)) k_sl_48_3 k_sz_3_1 rfl rfl rfl (gi_isSome encI_len rfl (hS19.cf (i := 3) rfl) hx2) (getI_nn hx2) (getI_ltI hx2 rfl)) (ST.sel hS19 [0, 2] rfl rfl) ?_ ?_
                      · skip
                        refine ra_all (rs := [7]) (by kernel_rfl) rfl ?_
                        refine ra_y 44 (i := 7) (v := .int .i64 x2) rfl rfl rfl (Y_load1 (B := some ⟨b3, 0, none⟩) (i := (r_1.length : Int).toNat * 1) (cs := ([0, 1, (-2), 4].flatMap encI)) (v := .int .i64 x2) k_sc_3 rfl rfl (hS19.cf (i := 3) rfl) (gi_at0 encI_len hx2 rfl)) (ST.sel hS19 [0, 2] rfl rfl) ?_ ?_
                        · skip
                          refine ra_q 10 47 (v := .int .i64 (IntKind.i64.wrap (x2 * x.Coef))) rfl rfl rfl (by kernel_rfl) (by kernel_rfl) (by kernel_rfl) (ST.sel hS19 [0, 2] rfl rfl) (fun w' hw' => (Y_mul (k := .i64) (a := x2) (b := x.Coef) rfl rfl rfl)) ?_
                          refine ra_q 11 48 (v := .int .i64 (IntKind.i64.wrap (x1 + (IntKind.i64.wrap (x2 * x.Coef))))) rfl rfl rfl (by kernel_rfl) (by kernel_rfl) (by kernel_rfl) (ST.sel hS19 [0, 2] rfl rfl) (fun w' hw' => (Y_add (k := .i64) (a := x1) (b := (IntKind.i64.wrap (x2 * x.Coef))) rfl rfl rfl)) ?_
                          refine ra_all (rs := [12]) (by kernel_rfl) rfl ?_
                          refine ra_y 49 (i := 12) (v := pt (some ⟨b1, 0, none⟩) ((i : Int).toNat * 1)) rfl rfl rfl (Y_index (B := some ⟨b1, 0, none⟩) (m := (shlK .i64 1 (IntKind.u64.wrap p.Qubits)).toNat) (c := (shlK .i64 1 (IntKind.u64.wrap p.Qubits)).toNat) (k := .i64) (i := (i : Int)) k_sl_48_3 k_sz_3_1 rfl rfl rfl (gi_isSome encI_len rfl (hS19.cf (i := 1) rfl) hx1) (getI_nn hx1) (getI_ltI hx1 hl2)) (ST.sel hS19 [0, 2] rfl rfl) ?_ ?_
                          · skip
                            refine ra_all (rs := [13]) (by kernel_rfl) rfl ?_
                            refine ra_s0 (i := 13) rfl rfl rfl (Ys_store (i := 1) (s := 1) (B := some ⟨b1, 0, none⟩) (T' := 3) (v := .int .i64 (IntKind.i64.wrap (x1 + (IntKind.i64.wrap (x2 * x.Coef))))) (vs := [.int .i64 (IntKind.i64.wrap (x1 + (IntKind.i64.wrap (x2 * x.Coef))))]) (k := (i : Int).toNat * 1) (cs' := ((by_2.set (i : Int).toNat (IntKind.i64.wrap (x1 + (IntKind.i64.wrap (x2 * x.Coef))))).flatMap encI)) hS19 k_sz_3_1 rfl rfl rfl rfl rfl rfl rfl (gi_fit0 encI_len hx1) (gi_set encI_len hx1 (IntKind.i64.wrap (x1 + (IntKind.i64.wrap (x2 * x.Coef)))) rfl) rfl) ?_ ?_
                            · rintro _ w_13 ⟨rfl, hS20⟩
                              have hS20 : ST w0 [] _ [⟨some ⟨b, 0, none⟩, 52, [.int .i64 p.Qubits, .int .i64 p.Phase, .slice B p.Terms.length c, .slice B1 p.Out.Rows.length c1], 4⟩, ⟨some ⟨b1, 0, none⟩, 3, ((by_2.set (i : Int).toNat (IntKind.i64.wrap (x1 + (IntKind.i64.wrap (x2 * x.Coef))))).flatMap encI), ((shlK .i64 1 (IntKind.u64.wrap p.Qubits)).toNat) * 1⟩, ⟨some ⟨b2, 0, none⟩, 104, [.int .i64 x.Mask, .int .i64 x.Coef], 2⟩, ⟨some ⟨b3, 0, none⟩, 3, ([0, 1, (-2), 4].flatMap encI), 4 * 1⟩] [⟨B, (p.Terms.flatMap enc_Term)⟩, ⟨B1, (p.Out.Rows.flatMap encI)⟩] := hS20
                              refine ⟨(ST.sel hS20 [0, 2] rfl rfl), ?_⟩
                              refine ra_done (by kernel_rfl) ?_
                              exact ⟨(FF.cons (hf2.get 1 0 rfl) (FF.cons (hf2.get 3 1 rfl) (FF.cons (hf2.get 4 2 rfl) (FF.cons (hf2.get 5 3 rfl) (FF.cons (hf2.get 14 4 rfl) (FF.cons (hf2.get 15 5 rfl) (FF.cons (hf2.get 25 6 rfl) (FF.cons (hf2.get 26 7 rfl) (FF.cons (hf2.get 27 8 rfl) FF.nil))))))))), (hS20.sel [0, 1] rfl rfl)⟩
                            exact allR_nil
                          exact allR_nil
                        exact allR_nil
                      exact allR_nil
                    refine ra_y 43 (i := 6) (v := pt (some ⟨b3, 0, none⟩) ((r_1.length : Int).toNat * 1)) rfl rfl rfl (Y_index (B := some ⟨b3, 0, none⟩) (m := 4) (c := 4) (k := .i64) (i := (r_1.length : Int)) k_sl_48_3 k_sz_3_1 rfl rfl rfl (gi_isSome encI_len rfl (hS19.cf (i := 3) rfl) hx2) (getI_nn hx2) (getI_ltI hx2 rfl)) (ST.sel hS19 [0, 2] rfl rfl) ?_ ?_
                    · skip
                      refine ra_all (rs := [3, 7]) (by kernel_rfl) rfl ?_
                      refine ra_y 40 (i := 3) (v := .int .i64 x1) rfl rfl rfl (Y_load1 (B := some ⟨b1, 0, none⟩) (i := (i : Int).toNat * 1) (cs := (by_2.flatMap encI)) (v := .int .i64 x1) k_sc_3 rfl rfl (hS19.cf (i := 1) rfl) (gi_at0 encI_len hx1 rfl)) (ST.sel hS19 [0, 2] rfl rfl) ?_ ?_
                      · skip
                        refine ra_all (rs := [7]) (by kernel_rfl) rfl ?_
                        refine ra_y 44 (i := 7) (v := .int .i64 x2) rfl rfl rfl (Y_load1 (B := some ⟨b3, 0, none⟩) (i := (r_1.length : Int).toNat * 1) (cs := ([0, 1, (-2), 4].flatMap encI)) (v := .int .i64 x2) k_sc_3 rfl rfl (hS19.cf (i := 3) rfl) (gi_at0 encI_len hx2 rfl)) (ST.sel hS19 [0, 2] rfl rfl) ?_ ?_
                        · skip
                          refine ra_q 10 47 (v := .int .i64 (IntKind.i64.wrap (x2 * x.Coef))) rfl rfl rfl (by kernel_rfl) (by kernel_rfl) (by kernel_rfl) (ST.sel hS19 [0, 2] rfl rfl) (fun w' hw' => (Y_mul (k := .i64) (a := x2) (b := x.Coef) rfl rfl rfl)) ?_
                          refine ra_q 11 48 (v := .int .i64 (IntKind.i64.wrap (x1 + (IntKind.i64.wrap (x2 * x.Coef))))) rfl rfl rfl (by kernel_rfl) (by kernel_rfl) (by kernel_rfl) (ST.sel hS19 [0, 2] rfl rfl) (fun w' hw' => (Y_add (k := .i64) (a := x1) (b := (IntKind.i64.wrap (x2 * x.Coef))) rfl rfl rfl)) ?_
                          refine ra_all (rs := [12]) (by kernel_rfl) rfl ?_
                          refine ra_y 49 (i := 12) (v := pt (some ⟨b1, 0, none⟩) ((i : Int).toNat * 1)) rfl rfl rfl (Y_index (B := some ⟨b1, 0, none⟩) (m := (shlK .i64 1 (IntKind.u64.wrap p.Qubits)).toNat) (c := (shlK .i64 1 (IntKind.u64.wrap p.Qubits)).toNat) (k := .i64) (i := (i : Int)) k_sl_48_3 k_sz_3_1 rfl rfl rfl (gi_isSome encI_len rfl (hS19.cf (i := 1) rfl) hx1) (getI_nn hx1) (getI_ltI hx1 hl2)) (ST.sel hS19 [0, 2] rfl rfl) ?_ ?_
                          · skip
                            refine ra_all (rs := [13]) (by kernel_rfl) rfl ?_
                            refine ra_s0 (i := 13) rfl rfl rfl (Ys_store (i := 1) (s := 1) (B := some ⟨b1, 0, none⟩) (T' := 3) (v := .int .i64 (IntKind.i64.wrap (x1 + (IntKind.i64.wrap (x2 * x.Coef))))) (vs := [.int .i64 (IntKind.i64.wrap (x1 + (IntKind.i64.wrap (x2 * x.Coef))))]) (k := (i : Int).toNat * 1) (cs' := ((by_2.set (i : Int).toNat (IntKind.i64.wrap (x1 + (IntKind.i64.wrap (x2 * x.Coef))))).flatMap encI)) hS19 k_sz_3_1 rfl rfl rfl rfl rfl rfl rfl (gi_fit0 encI_len hx1) (gi_set encI_len hx1 (IntKind.i64.wrap (x1 + (IntKind.i64.wrap (x2 * x.Coef)))) rfl) rfl) ?_ ?_
                            · rintro _ w_14 ⟨rfl, hS21⟩
                              have hS21 : ST w0 [] _ [⟨some ⟨b, 0, none⟩, 52, [.int .i64 p.Qubits, .int .i64 p.Phase, .slice B p.Terms.length c, .slice B1 p.Out.Rows.length c1], 4⟩, ⟨some ⟨b1, 0, none⟩, 3, ((by_2.set (i : Int).toNat (IntKind.i64.wrap (x1 + (IntKind.i64.wrap (x2 * x.Coef))))).flatMap encI), ((shlK .i64 1 (IntKind.u64.wrap p.Qubits)).toNat) * 1⟩, ⟨some ⟨b2, 0, none⟩, 104, [.int .i64 x.Mask, .int .i64 x.Coef], 2⟩, ⟨some ⟨b3, 0, none⟩, 3, ([0, 1, (-2), 4].flatMap encI), 4 * 1⟩] [⟨B, (p.Terms.flatMap enc_Term)⟩, ⟨B1, (p.Out.Rows.flatMap encI)⟩] := hS21
                              refine ⟨(ST.sel hS21 [0, 2] rfl rfl), ?_⟩
                              refine ra_done (by kernel_rfl) ?_
                              exact ⟨(FF.cons (hf2.get 1 0 rfl) (FF.cons (hf2.get 3 1 rfl) (FF.cons (hf2.get 4 2 rfl) (FF.cons (hf2.get 5 3 rfl) (FF.cons (hf2.get 14 4 rfl) (FF.cons (hf2.get 15 5 rfl) (FF.cons (hf2.get 25 6 rfl) (FF.cons (hf2.get 26 7 rfl) (FF.cons (hf2.get 27 8 rfl) FF.nil))))))))), (hS21.sel [0, 1] rfl rfl)⟩
                            exact allR_nil
                          exact allR_nil
                        exact allR_nil
                      refine ra_y 44 (i := 7) (v := .int .i64 x2) rfl rfl rfl (Y_load1 (B := some ⟨b3, 0, none⟩) (i := (r_1.length : Int).toNat * 1) (cs := ([0, 1, (-2), 4].flatMap encI)) (v := .int .i64 x2) k_sc_3 rfl rfl (hS19.cf (i := 3) rfl) (gi_at0 encI_len hx2 rfl)) (ST.sel hS19 [0, 2] rfl rfl) ?_ ?_
                      · skip
                        refine ra_q 10 47 (v := .int .i64 (IntKind.i64.wrap (x2 * x.Coef))) rfl rfl rfl (by kernel_rfl) (by kernel_rfl) (by kernel_rfl) (ST.sel hS19 [0, 2] rfl rfl) (fun w' hw' => (Y_mul (k := .i64) (a := x2) (b := x.Coef) rfl rfl rfl)) ?_
                        refine ra_all (rs := [3]) (by kernel_rfl) rfl ?_
                        refine ra_y 40 (i := 3) (v := .int .i64 x1) rfl rfl rfl (Y_load1 (B := some ⟨b1, 0, none⟩) (i := (i : Int).toNat * 1) (cs := (by_2.flatMap encI)) (v := .int .i64 x1) k_sc_3 rfl rfl (hS19.cf (i := 1) rfl) (gi_at0 encI_len hx1 rfl)) (ST.sel hS19 [0, 2] rfl rfl) ?_ ?_
                        · skip
                          refine ra_q 11 48 (v := .int .i64 (IntKind.i64.wrap (x1 + (IntKind.i64.wrap (x2 * x.Coef))))) rfl rfl rfl (by kernel_rfl) (by kernel_rfl) (by kernel_rfl) (ST.sel hS19 [0, 2] rfl rfl) (fun w' hw' => (Y_add (k := .i64) (a := x1) (b := (IntKind.i64.wrap (x2 * x.Coef))) rfl rfl rfl)) ?_
                          refine ra_all (rs := [12]) (by kernel_rfl) rfl ?_
                          refine ra_y 49 (i := 12) (v := pt (some ⟨b1, 0, none⟩) ((i : Int).toNat * 1)) rfl rfl rfl (Y_index (B := some ⟨b1, 0, none⟩) (m := (shlK .i64 1 (IntKind.u64.wrap p.Qubits)).toNat) (c := (shlK .i64 1 (IntKind.u64.wrap p.Qubits)).toNat) (k := .i64) (i := (i : Int)) k_sl_48_3 k_sz_3_1 rfl rfl rfl (gi_isSome encI_len rfl (hS19.cf (i := 1) rfl) hx1) (getI_nn hx1) (getI_ltI hx1 hl2)) (ST.sel hS19 [0, 2] rfl rfl) ?_ ?_
                          · skip
                            refine ra_all (rs := [13]) (by kernel_rfl) rfl ?_
                            refine ra_s0 (i := 13) rfl rfl rfl (Ys_store (i := 1) (s := 1) (B := some ⟨b1, 0, none⟩) (T' := 3) (v := .int .i64 (IntKind.i64.wrap (x1 + (IntKind.i64.wrap (x2 * x.Coef))))) (vs := [.int .i64 (IntKind.i64.wrap (x1 + (IntKind.i64.wrap (x2 * x.Coef))))]) (k := (i : Int).toNat * 1) (cs' := ((by_2.set (i : Int).toNat (IntKind.i64.wrap (x1 + (IntKind.i64.wrap (x2 * x.Coef))))).flatMap encI)) hS19 k_sz_3_1 rfl rfl rfl rfl rfl rfl rfl (gi_fit0 encI_len hx1) (gi_set encI_len hx1 (IntKind.i64.wrap (x1 + (IntKind.i64.wrap (x2 * x.Coef)))) rfl) rfl) ?_ ?_
                            · rintro _ w_15 ⟨rfl, hS22⟩
                              have hS22 : ST w0 [] _ [⟨some ⟨b, 0, none⟩, 52, [.int .i64 p.Qubits, .int .i64 p.Phase, .slice B p.Terms.length c, .slice B1 p.Out.Rows.length c1], 4⟩, ⟨some ⟨b1, 0, none⟩, 3, ((by_2.set (i : Int).toNat (IntKind.i64.wrap (x1 + (IntKind.i64.wrap (x2 * x.Coef))))).flatMap encI), ((shlK .i64 1 (IntKind.u64.wrap p.Qubits)).toNat) * 1⟩, ⟨some ⟨b2, 0, none⟩, 104, [.int .i64 x.Mask, .int .i64 x.Coef], 2⟩, ⟨some ⟨b3, 0, none⟩, 3, ([0, 1, (-2), 4].flatMap encI), 4 * 1⟩] [⟨B, (p.Terms.flatMap enc_Term)⟩, ⟨B1, (p.Out.Rows.flatMap encI)⟩] := hS22
                              refine ⟨(ST.sel hS22 [0, 2] rfl rfl), ?_⟩
                              refine ra_done (by kernel_rfl) ?_
                              exact ⟨(FF.cons (hf2.get 1 0 rfl) (FF.cons (hf2.get 3 1 rfl) (FF.cons (hf2.get 4 2 rfl) (FF.cons (hf2.get 5 3 rfl) (FF.cons (hf2.get 14 4 rfl) (FF.cons (hf2.get 15 5 rfl) (FF.cons (hf2.get 25 6 rfl) (FF.cons (hf2.get 26 7 rfl) (FF.cons (hf2.get 27 8 rfl) FF.nil))))))))), (hS22.sel [0, 1] rfl rfl)⟩
                            exact allR_nil
                          exact allR_nil
                        exact allR_nil
                      exact allR_nil
                    exact allR_nil
                  refine ra_y 43 (i := 6) (v := pt (some ⟨b3, 0, none⟩) ((r_1.length : Int).toNat * 1)) rfl rfl rfl (Y_index (B := some ⟨b3, 0, none⟩) (m := 4) (c := 4) (k := .i64) (i := (r_1.length : Int)) k_sl_48_3 k_sz_3_1 rfl rfl rfl (gi_isSome encI_len rfl (hS19.cf (i := 3) rfl) hx2) (getI_nn hx2) (getI_ltI hx2 rfl)) (ST.sel hS19 [0, 2] rfl rfl) ?_ ?_
                  · skip
                    refine ra_all (rs := [2, 7]) (by kernel_rfl) rfl ?_
                    refine ra_y 39 (i := 2) (v := pt (some ⟨b1, 0, none⟩) ((i : Int).toNat * 1)) rfl rfl rfl (Y_index (B := some ⟨b1, 0, none⟩) (m := (shlK .i64 1 (IntKind.u64.wrap p.Qubits)).toNat) (c := (shlK .i64 1 (IntKind.u64.wrap p.Qubits)).toNat) (k := .i64) (i := (i : Int)) k_sl_48_3 k_sz_3_1 rfl rfl rfl (gi_isSome encI_len rfl (hS19.cf (i := 1) rfl) hx1) (getI_nn hx1) (getI_ltI hx1 hl2)) (ST.sel hS19 [0, 2] rfl rfl) ?_ ?_
                    · skip
                      refine ra_all (rs := [3, 7]) (by kernel_rfl) rfl ?_
                      refine ra_y 40 (i := 3) (v := .int .i64 x1) rfl rfl rfl (Y_load1 (B := some ⟨b1, 0, none⟩) (i := (i : Int).toNat * 1) (cs := (by_2.flatMap encI)) (v := .int .i64 x1) k_sc_3 rfl rfl (hS19.cf (i := 1) rfl) (gi_at0 encI_len hx1 rfl)) (ST.sel hS19 [0, 2] rfl rfl) ?_ ?_
                      · skip
                        refine ra_all (rs := [7]) (by kernel_rfl) rfl ?_
                        refine ra_y 44 (i := 7) (v := .int .i64 x2) rfl rfl rfl (Y_load1 (B := some ⟨b3, 0, none⟩) (i := (r_1.length : Int).toNat * 1) (cs := ([0, 1, (-2), 4].flatMap encI)) (v := .int .i64 x2) k_sc_3 rfl rfl (hS19.cf (i := 3) rfl) (gi_at0 encI_len hx2 rfl)) (ST.sel hS19 [0, 2] rfl rfl) ?_ ?_
                        · skip
                          refine ra_q 10 47 (v := .int .i64 (IntKind.i64.wrap (x2 * x.Coef))) rfl rfl rfl (by kernel_rfl) (by kernel_rfl) (by kernel_rfl) (ST.sel hS19 [0, 2] rfl rfl) (fun w' hw' => (Y_mul (k := .i64) (a := x2) (b := x.Coef) rfl rfl rfl)) ?_
                          refine ra_q 11 48 (v := .int .i64 (IntKind.i64.wrap (x1 + (IntKind.i64.wrap (x2 * x.Coef))))) rfl rfl rfl (by kernel_rfl) (by kernel_rfl) (by kernel_rfl) (ST.sel hS19 [0, 2] rfl rfl) (fun w' hw' => (Y_add (k := .i64) (a := x1) (b := (IntKind.i64.wrap (x2 * x.Coef))) rfl rfl rfl)) ?_
                          refine ra_all (rs := [12]) (by kernel_rfl) rfl ?_
                          refine ra_y 49 (i := 12) (v := pt (some ⟨b1, 0, none⟩) ((i : Int).toNat * 1)) rfl rfl rfl (Y_index (B := some ⟨b1, 0, none⟩) (m := (shlK .i64 1 (IntKind.u64.wrap p.Qubits)).toNat) (c := (shlK .i64 1 (IntKind.u64.wrap p.Qubits)).toNat) (k := .i64) (i := (i : Int)) k_sl_48_3 k_sz_3_1 rfl rfl rfl (gi_isSome encI_len rfl (hS19.cf (i := 1) rfl) hx1) (getI_nn hx1) (getI_ltI hx1 hl2)) (ST.sel hS19 [0, 2] rfl rfl) ?_ ?_
                          · skip
                            refine ra_all (rs := [13]) (by kernel_rfl) rfl ?_
                            refine ra_s0 (i := 13) rfl rfl rfl (Ys_store (i := 1) (s := 1) (B := some ⟨b1, 0, none⟩) (T' := 3) (v := .int .i64 (IntKind.i64.wrap (x1 + (IntKind.i64.wrap (x2 * x.Coef))))) (vs := [.int .i64 (IntKind.i64.wrap (x1 + (IntKind.i64.wrap (x2 * x.Coef))))]) (k := (i : Int).toNat * 1) (cs' := ((by_2.set (i : Int).toNat (IntKind.i64.wrap (x1 + (IntKind.i64.wrap (x2 * x.Coef))))).flatMap encI)) hS19 k_sz_3_1 rfl rfl rfl rfl rfl rfl rfl (gi_fit0 encI_len hx1) (gi_set encI_len hx1 (IntKind.i64.wrap (x1 + (IntKind.i64.wrap (x2 * x.Coef)))) rfl) rfl) ?_ ?_
                            · rintro _ w_16 ⟨rfl, hS23⟩
                              have hS23 : ST w0 [] _ [⟨some ⟨b, 0, none⟩, 52, [.int .i64 p.Qubits, .int .i64 p.Phase, .slice B p.Terms.length c, .slice B1 p.Out.Rows.length c1], 4⟩, ⟨some ⟨b1, 0, none⟩, 3, ((by_2.set (i : Int).toNat (IntKind.i64.wrap (x1 + (IntKind.i64.wrap (x2 * x.Coef))))).flatMap encI), ((shlK .i64 1 (IntKind.u64.wrap p.Qubits)).toNat) * 1⟩, ⟨some ⟨b2, 0, none⟩, 104, [.int .i64 x.Mask, .int .i64 x.Coef], 2⟩, ⟨some ⟨b3, 0, none⟩, 3, ([0, 1, (-2), 4].flatMap encI), 4 * 1⟩] [⟨B, (p.Terms.flatMap enc_Term)⟩, ⟨B1, (p.Out.Rows.flatMap encI)⟩] := hS23
                              refine ⟨(ST.sel hS23 [0, 2] rfl rfl), ?_⟩
                              refine ra_done (by kernel_rfl) ?_
                              exact ⟨(FF.cons (hf2.get 1 0 rfl) (FF.cons (hf2.get 3 1 rfl) (FF.cons (hf2.get 4 2 rfl) (FF.cons (hf2.get 5 3 rfl) (FF.cons (hf2.get 14 4 rfl) (FF.cons (hf2.get 15 5 rfl) (FF.cons (hf2.get 25 6 rfl) (FF.cons (hf2.get 26 7 rfl) (FF.cons (hf2.get 27 8 rfl) FF.nil))))))))), (hS23.sel [0, 1] rfl rfl)⟩
                            exact allR_nil
                          exact allR_nil
                        exact allR_nil
                      refine ra_y 44 (i := 7) (v := .int .i64 x2) rfl rfl rfl (Y_load1 (B := some ⟨b3, 0, none⟩) (i := (r_1.length : Int).toNat * 1) (cs := ([0, 1, (-2), 4].flatMap encI)) (v := .int .i64 x2) k_sc_3 rfl rfl (hS19.cf (i := 3) rfl) (gi_at0 encI_len hx2 rfl)) (ST.sel hS19 [0, 2] rfl rfl) ?_ ?_
                      · skip
                        refine ra_q 10 47 (v := .int .i64 (IntKind.i64.wrap (x2 * x.Coef))) rfl rfl rfl (by kernel_rfl) (by kernel_rfl) (by kernel_rfl) (ST.sel hS19 [0, 2] rfl rfl) (fun w' hw' => (Y_mul (k := .i64) (a := x2) (b := x.Coef) rfl rfl rfl)) ?_
                        refine ra_all (rs := [3]) (by kernel_rfl) rfl ?_
                        refine ra_y 40 (i := 3) (v := .int .i64 x1) rfl rfl rfl (Y_load1 (B := some ⟨b1, 0, none⟩) (i := (i : Int).toNat * 1) (cs := (by_2.flatMap encI)) (v := .int .i64 x1) k_sc_3 rfl rfl (hS19.cf (i := 1) rfl) (gi_at0 encI_len hx1 rfl)) (ST.sel hS19 [0, 2] rfl rfl) ?_ ?_
                        · skip
                          refine ra_q 11 48 (v := .int .i64 (IntKind.i64.wrap (x1 + (IntKind.i64.wrap (x2 * x.Coef))))) rfl rfl rfl (by kernel_rfl) (by kernel_rfl) (by kernel_rfl) (ST.sel hS19 [0, 2] rfl rfl) (fun w' hw' => (Y_add (k := .i64) (a := x1) (b := (IntKind.i64.wrap (x2 * x.Coef))) rfl rfl rfl)) ?_
                          refine ra_all (rs := [12]) (by kernel_rfl) rfl ?_
                          refine ra_y 49 (i := 12) (v := pt (some ⟨b1, 0, none⟩) ((i : Int).toNat * 1)) rfl rfl rfl (Y_index (B := some ⟨b1, 0, none⟩) (m := (shlK .i64 1 (IntKind.u64.wrap p.Qubits)).toNat) (c := (shlK .i64 1 (IntKind.u64.wrap p.Qubits)).toNat) (k := .i64) (i := (i : Int)) k_sl_48_3 k_sz_3_1 rfl rfl rfl (gi_isSome encI_len rfl (hS19.cf (i := 1) rfl) hx1) (getI_nn hx1) (getI_ltI hx1 hl2)) (ST.sel hS19 [0, 2] rfl rfl) ?_ ?_
                          · skip
                            refine ra_all (rs := [13]) (by kernel_rfl) rfl ?_
                            refine ra_s0 (i := 13) rfl rfl rfl (Ys_store (i := 1) (s := 1) (B := some ⟨b1, 0, none⟩) (T' := 3) (v := .int .i64 (IntKind.i64.wrap (x1 + (IntKind.i64.wrap (x2 * x.Coef))))) (vs := [.int .i64 (IntKind.i64.wrap (x1 + (IntKind.i64.wrap (x2 * x.Coef))))]) (k := (i : Int).toNat * 1) (cs' := ((by_2.set (i : Int).toNat (IntKind.i64.wrap (x1 + (IntKind.i64.wrap (x2 * x.Coef))))).flatMap encI)) hS19 k_sz_3_1 rfl rfl rfl rfl rfl rfl rfl (gi_fit0 encI_len hx1) (gi_set encI_len hx1 (IntKind.i64.wrap (x1 + (IntKind.i64.wrap (x2 * x.Coef)))) rfl) rfl) ?_ ?_
                            · rintro _ w_17 ⟨rfl, hS24⟩
                              have hS24 : ST w0 [] _ [⟨some ⟨b, 0, none⟩, 52, [.int .i64 p.Qubits, .int .i64 p.Phase, .slice B p.Terms.length c, .slice B1 p.Out.Rows.length c1], 4⟩, ⟨some ⟨b1, 0, none⟩, 3, ((by_2.set (i : Int).toNat (IntKind.i64.wrap (x1 + (IntKind.i64.wrap (x2 * x.Coef))))).flatMap encI), ((shlK .i64 1 (IntKind.u64.wrap p.Qubits)).toNat) * 1⟩, ⟨some ⟨b2, 0, none⟩, 104, [.int .i64 x.Mask, .int .i64 x.Coef], 2⟩, ⟨some ⟨b3, 0, none⟩, 3, ([0, 1, (-2), 4].flatMap encI), 4 * 1⟩] [⟨B, (p.Terms.flatMap enc_Term)⟩, ⟨B1, (p.Out.Rows.flatMap encI)⟩] := hS24
                              refine ⟨(ST.sel hS24 [0, 2] rfl rfl), ?_⟩
                              refine ra_done (by kernel_rfl) ?_
                              exact ⟨(FF.cons (hf2.get 1 0 rfl) (FF.cons (hf2.get 3 1 rfl) (FF.cons (hf2.get 4 2 rfl) (FF.cons (hf2.get 5 3 rfl) (FF.cons (hf2.get 14 4 rfl) (FF.cons (hf2.get 15 5 rfl) (FF.cons (hf2.get 25 6 rfl) (FF.cons (hf2.get 26 7 rfl) (FF.cons (hf2.get 27 8 rfl) FF.nil))))))))), (hS24.sel [0, 1] rfl rfl)⟩
                            exact allR_nil
                          exact allR_nil
                        exact allR_nil
                      exact allR_nil
                    refine ra_y 44 (i := 7) (v := .int .i64 x2) rfl rfl rfl (Y_load1 (B := some ⟨b3, 0, none⟩) (i := (r_1.length : Int).toNat * 1) (cs := ([0, 1, (-2), 4].flatMap encI)) (v := .int .i64 x2) k_sc_3 rfl rfl (hS19.cf (i := 3) rfl) (gi_at0 encI_len hx2 rfl)) (ST.sel hS19 [0, 2] rfl rfl) ?_ ?_
                    · skip
                      refine ra_q 10 47 (v := .int .i64 (IntKind.i64.wrap (x2 * x.Coef))) rfl rfl rfl (by kernel_rfl) (by kernel_rfl) (by kernel_rfl) (ST.sel hS19 [0, 2] rfl rfl) (fun w' hw' => (Y_mul (k := .i64) (a := x2) (b := x.Coef) rfl rfl rfl)) ?_
                      refine ra_all (rs := [2]) (by kernel_rfl) rfl ?_
                      refine ra_y 39 (i := 2) (v := pt (some ⟨b1, 0, none⟩) ((i : Int).toNat * 1)) rfl rfl rfl (Y_index (B := some ⟨b1, 0, none⟩) (m := (shlK .i64 1 (IntKind.u64.wrap p.Qubits)).toNat) (c := (shlK .i64 1 (IntKind.u64.wrap p.Qubits)).toNat) (k := .i64) (i := (i : Int)) k_sl_48_3 k_sz_3_1 rfl rfl rfl (gi_isSome encI_len rfl (hS19.cf (i := 1) rfl) hx1) (getI_nn hx1) (getI_ltI hx1 hl2)) (ST.sel hS19 [0, 2] rfl rfl) ?_ ?_
                      · skip
                        refine ra_all (rs := [3]) (by kernel_rfl) rfl ?_
                        refine ra_y 40 (i := 3) (v := .int .i64 x1) rfl rfl rfl (Y_load1 (B := some ⟨b1, 0, none⟩) (i := (i : Int).toNat * 1) (cs := (by_2.flatMap encI)) (v := .int .i64 x1) k_sc_3 rfl rfl (hS19.cf (i := 1) rfl) (gi_at0 encI_len hx1 rfl)) (ST.sel hS19 [0, 2] rfl rfl) ?_ ?_
                        · skip
                          refine ra_q 11 48 (v := .int .i64 (IntKind.i64.wrap (x1 + (IntKind.i64.wrap (x2 * x.Coef))))) rfl rfl rfl (by kernel_rfl) (by kernel_rfl) (by kernel_rfl) (ST.sel hS19 [0, 2] rfl rfl) (fun w' hw' => (Y_add (k := .i64) (a := x1) (b := (IntKind.i64.wrap (x2 * x.Coef))) rfl rfl rfl)) ?_
                          refine ra_all (rs := [12]) (by kernel_rfl) rfl ?_
                          refine ra_y 49 (i := 12) (v := pt (some ⟨b1, 0, none⟩) ((i : Int).toNat * 1)) rfl rfl rfl (Y_index (B := some ⟨b1, 0, none⟩) (m := (shlK .i64 1 (IntKind.u64.wrap p.Qubits)).toNat) (c := (shlK .i64 1 (IntKind.u64.wrap p.Qubits)).toNat) (k := .i64) (i := (i : Int)) k_sl_48_3 k_sz_3_1 rfl rfl rfl (gi_isSome encI_len rfl (hS19.cf (i := 1) rfl) hx1) (getI_nn hx1) (getI_ltI hx1 hl2)) (ST.sel hS19 [0, 2] rfl rfl) ?_ ?_
                          · skip
                            refine ra_all (rs := [13]) (by kernel_rfl) rfl ?_
                            refine ra_s0 (i := 13) rfl rfl rfl (Ys_store (i := 1) (s := 1) (B := some ⟨b1, 0, none⟩) (T' := 3) (v := .int .i64 (IntKind.i64.wrap (x1 + (IntKind.i64.wrap (x2 * x.Coef))))) (vs := [.int .i64 (IntKind.i64.wrap (x1 + (IntKind.i64.wrap (x2 * x.Coef))))]) (k := (i : Int).toNat * 1) (cs' := ((by_2.set (i : Int).toNat (IntKind.i64.wrap (x1 + (IntKind.i64.wrap (x2 * x.Coef))))).flatMap encI)) hS19 k_sz_3_1 rfl rfl rfl rfl rfl rfl rfl (gi_fit0 encI_len hx1) (gi_set encI_len hx1 (IntKind.i64.wrap (x1 + (IntKind.i64.wrap (x2 * x.Coef)))) rfl) rfl) ?_ ?_
                            · rintro _ w_18 ⟨rfl, hS25⟩
                              have hS25 : ST w0 [] _ [⟨some ⟨b, 0, none⟩, 52, [.int .i64 p.Qubits, .int .i64 p.Phase, .slice B p.Terms.length c, .slice B1 p.Out.Rows.length c1], 4⟩, ⟨some ⟨b1, 0, none⟩, 3, ((by_2.set (i : Int).toNat (IntKind.i64.wrap (x1 + (IntKind.i64.wrap (x2 * x.Coef))))).flatMap encI), ((shlK .i64 1 (IntKind.u64.wrap p.Qubits)).toNat) * 1⟩, ⟨some ⟨b2, 0, none⟩, 104, [.int .i64 x.Mask, .int .i64 x.Coef], 2⟩, ⟨some ⟨b3, 0, none⟩, 3, ([0, 1, (-2), 4].flatMap encI), 4 * 1⟩] [⟨B, (p.Terms.flatMap enc_Term)⟩, ⟨B1, (p.Out.Rows.flatMap encI)⟩] := hS25
                              refine ⟨(ST.sel hS25 [0, 2] rfl rfl), ?_⟩
                              refine ra_done (by kernel_rfl) ?_
                              exact ⟨(FF.cons (hf2.get 1 0 rfl) (FF.cons (hf2.get 3 1 rfl) (FF.cons (hf2.get 4 2 rfl) (FF.cons (hf2.get 5 3 rfl) (FF.cons (hf2.get 14 4 rfl) (FF.cons (hf2.get 15 5 rfl) (FF.cons (hf2.get 25 6 rfl) (FF.cons (hf2.get 26 7 rfl) (FF.cons (hf2.get 27 8 rfl) FF.nil))))))))), (hS25.sel [0, 1] rfl rfl)⟩
                            exact allR_nil
                          exact allR_nil
                        exact allR_nil
                      exact allR_nil
                    exact allR_nil
                  exact allR_nil
                exact allR_nil
              rintro f w ⟨hf4, hS11⟩
              exact ⟨(by_2.set (i : Int).toNat (IntKind.i64.wrap (x1 + (IntKind.i64.wrap (x2 * x.Coef))))), (some_inj hF7), (FF.cons (hf4.get 1 0 rfl) (FF.cons (hf4.get 3 1 rfl) (FF.cons (hf4.get 4 2 rfl) (FF.cons (hf4.get 5 3 rfl) (FF.cons (hf4.get 14 4 rfl) (FF.cons (hf4.get 15 5 rfl) (FF.cons (hf4.get 25 6 rfl) (FF.cons (hf4.get 26 7 rfl) (FF.cons (hf4.get 27 8 rfl) FF.nil))))))))), (set_len _ _ _ hl2), (hS11.sel [0, 1] rfl rfl)⟩
            · skip
              have hF8 := cf' hz3 hb3
              refine cw_skip ?_
              exact ⟨by_2, (some_inj hF8), (FF.cons (hf2.get 1 0 rfl) (FF.cons (hf2.get 3 1 rfl) (FF.cons (hf2.get 4 2 rfl) (FF.cons (hf2.get 5 3 rfl) (FF.cons (hf2.get 14 4 rfl) (FF.cons (hf2.get 15 5 rfl) (FF.cons (hf2.get 25 6 rfl) (FF.cons (hf2.get 26 7 rfl) (FF.cons (hf2.get 27 8 rfl) FF.nil))))))))), hl2, (hS10.sel [0, 1] rfl rfl)⟩
          rintro f w ⟨by_3, rfl, hf3, hl3, hS8⟩
          refine cw_region ?_
          refine sq 50 rfl rfl (Y_add (k := .i64) (a := (i1 : Int)) (b := 1) rfl (hf3.get 27 8 rfl) rfl) ?_
          refine sq 27 rfl rfl (Y_move (v := .int .i64 (IntKind.i64.wrap ((i1 : Int) + 1))) rfl rfl) ?_
          refine rw_nil ?_
          obtain rfl := some_inj hF6
          exact ⟨k_3, Nat.lt_succ_self _, i1 + 1, by_3, (FF.cons (hf3.get 1 0 rfl) (FF.cons (hf3.get 3 1 rfl) (FF.cons (hf3.get 4 2 rfl) (FF.cons (hf3.get 5 3 rfl) (FF.cons (hf3.get 14 4 rfl) (FF.cons (hf3.get 15 5 rfl) (FF.cons (hf3.get 25 6 rfl) (FF.cons (hf3.get 26 7 rfl) (FF.cons (congrArg (Value.int .i64) (wr_succ hlt3 hN1)) FF.nil))))))))), hl3, (hS8.sel [0, 1] rfl rfl), (by omega), hL3⟩
        · skip
          obtain rfl : k_2 = 0 := by have h := of_decide_eq_false hlt2; omega
          refine cw_exit rfl ?_
          obtain rfl := some_inj hL2
          exact ⟨by_2, (some_inj hF5), (FF.cons (hf2.get 1 0 rfl) (FF.cons (hf2.get 3 1 rfl) (FF.cons (hf2.get 14 4 rfl) (FF.cons (hf2.get 15 5 rfl) FF.nil)))), hl2, (hS7.sel [0, 1] rfl rfl)⟩
    rintro f w ⟨by_1, rfl, hf1, hl1, hS4⟩
    refine cw_region ?_
    refine sq 51 rfl rfl (Y_add (k := .i64) (a := (i : Int)) (b := 1) rfl (hf1.get 15 3 rfl) rfl) ?_
    refine sq 15 rfl rfl (Y_move (v := .int .i64 (IntKind.i64.wrap ((i : Int) + 1))) rfl rfl) ?_
    refine rw_nil ?_
    obtain rfl := some_inj hF2
    exact ⟨k_1, Nat.lt_succ_self _, i + 1, by_1, (FF.cons (hf1.get 1 0 rfl) (FF.cons (hf1.get 3 1 rfl) (FF.cons (hf1.get 14 2 rfl) (FF.cons (congrArg (Value.int .i64) (wr_succ hlt1 hN)) FF.nil)))), hl1, (hS4.sel [0, 1] rfl rfl), (by omega), hL1⟩
  · skip
    obtain rfl : k_ = 0 := by have h := of_decide_eq_false hlt; omega
    refine cw_exit rfl ?_
    obtain rfl := some_inj hL
    refine cw_seq ?_
    refine cw_region ?_
    refine sq 52 rfl rfl (Y_move (v := .slice (some ⟨b1, 0, none⟩) ((shlK .i64 1 (IntKind.u64.wrap p.Qubits)).toNat) ((shlK .i64 1 (IntKind.u64.wrap p.Qubits)).toNat)) rfl (hf.get 3 1 rfl)) ?_
    obtain ⟨r_3, hc2, hF1⟩ := bind_inv hF1
    refine sc 53 rfl rfl (Yc_func (g := 79) (vs := [.slice (some ⟨b1, 0, none⟩) ((shlK .i64 1 (IntKind.u64.wrap p.Qubits)).toNat) ((shlK .i64 1 (IntKind.u64.wrap p.Qubits)).toNat)]) k_call_79 rfl (mc rfl mn) (c_spec_l13List by_ (some ⟨b1, 0, none⟩) ((shlK .i64 1 (IntKind.u64.wrap p.Qubits)).toNat) ((shlK .i64 1 (IntKind.u64.wrap p.Qubits)).toNat) _ hl (hS3.inn0 [(false, 1)] rfl) hc2)) ?_
    rintro _ w_19 ⟨B4, c4, rfl, hd2⟩
    have hS26 := hS3.out0 hd2
    have hS26 : ST w0 [] _ [⟨some ⟨b, 0, none⟩, 52, [.int .i64 p.Qubits, .int .i64 p.Phase, .slice B p.Terms.length c, .slice B1 p.Out.Rows.length c1], 4⟩, ⟨some ⟨b1, 0, none⟩, 3, (by_.flatMap encI), ((shlK .i64 1 (IntKind.u64.wrap p.Qubits)).toNat) * 1⟩, ⟨B4, 104, (r_3.flatMap enc_Term), c4 * 2⟩] [⟨B, (p.Terms.flatMap enc_Term)⟩, ⟨B1, (p.Out.Rows.flatMap encI)⟩] := hS26
    refine sq 2 rfl rfl (Y_assign (v := .slice B4 r_3.length c4) rfl rfl) ?_
    refine rw_nil ?_
    refine cw_ret ?_
    obtain rfl := some_inj hF1
    exact ret1 Try.results93 (v1 := .slice B4 r_3.length c4) (resAt_tmp rfl) ⟨B4, c4, rfl, (ST.subR (R' := []) (hS26.sel [2] rfl rfl) (fun _ h => by cases h))⟩

theorem c_spec_EqualPhases (p : TPhasePoly) (q : TPhasePoly) (B : Option Addr) (c n : Nat) (B1 : Option Addr) (c1 n1 : Nat) (B2 : Option Addr) (c2 n2 : Nat) (B3 : Option Addr) (c3 n3 : Nat) (w0 : World) (hn : p.Terms.length = n) (hn1 : p.Out.Rows.length = n1) (hn2 : q.Terms.length = n2) (hn3 : q.Out.Rows.length = n3) (hS : ST w0 [] w0 [] [⟨B, (p.Terms.flatMap enc_Term)⟩, ⟨B1, (p.Out.Rows.flatMap encI)⟩, ⟨B2, (q.Terms.flatMap enc_Term)⟩, ⟨B3, (q.Out.Rows.flatMap encI)⟩]) {r_ : Bool} {r_1 : Bool} (hF : F_spec_EqualPhases p q = some (r_, r_1)) :
    CV Try.prog 35 #[.agg #[.int .i64 p.Qubits, .int .i64 p.Phase, .slice B n c, .slice B1 n1 c1], .agg #[.int .i64 q.Qubits, .int .i64 q.Phase, .slice B2 n2 c2, .slice B3 n3 c3]] w0 (fun v w' => v = .tuple #[.bool r_, .bool r_1] ∧ ST w0 [] w' [] []) := by
  subst hn
  subst hn1
  subst hn2
  subst hn3
  unfold F_spec_EqualPhases at hF
  refine cv_of_cw 42 Try.func35 rfl Try.ntmps35 rfl ?_
  refine cw_seq ?_
  refine cw_region ?_
  refine ss 2 rfl rfl (Ys_box (T := 52) (v := .agg #[.int .i64 p.Qubits, .int .i64 p.Phase, .slice B p.Terms.length c, .slice B1 p.Out.Rows.length c1]) (cs := [.int .i64 p.Qubits, .int .i64 p.Phase, .slice B p.Terms.length c, .slice B1 p.Out.Rows.length c1]) (m := 4) hS rfl rfl rfl rfl) ?_
  rintro _ w_ ⟨b, rfl, hS1⟩
  refine ss 3 rfl rfl (Ys_box (T := 52) (v := .agg #[.int .i64 q.Qubits, .int .i64 q.Phase, .slice B2 q.Terms.length c2, .slice B3 q.Out.Rows.length c3]) (cs := [.int .i64 q.Qubits, .int .i64 q.Phase, .slice B2 q.Terms.length c2, .slice B3 q.Out.Rows.length c3]) (m := 4) hS1 rfl rfl rfl rfl) ?_
  rintro _ w_1 ⟨b1, rfl, hS2⟩
  have hS2 : ST w0 [] _ [⟨some ⟨b, 0, none⟩, 52, [.int .i64 p.Qubits, .int .i64 p.Phase, .slice B p.Terms.length c, .slice B1 p.Out.Rows.length c1], 4⟩, ⟨some ⟨b1, 0, none⟩, 52, [.int .i64 q.Qubits, .int .i64 q.Phase, .slice B2 q.Terms.length c2, .slice B3 q.Out.Rows.length c3], 4⟩] [⟨B, (p.Terms.flatMap enc_Term)⟩, ⟨B1, (p.Out.Rows.flatMap encI)⟩, ⟨B2, (q.Terms.flatMap enc_Term)⟩, ⟨B3, (q.Out.Rows.flatMap encI)⟩] := hS2
  refine sq 4 rfl rfl (Y_assign (v := .bool false) rfl rfl) ?_
  refine sq 5 rfl rfl (Y_assign (v := .bool false) rfl rfl) ?_
  refine rw_nil ?_
  refine cw_seq ?_
  refine cw_seq ?_
  refine cw_region ?_
  refine sq 6 rfl rfl (Y_loadA (B := some ⟨b, 0, none⟩) (i := 0) (cs := [.int .i64 p.Qubits, .int .i64 p.Phase, .slice B p.Terms.length c, .slice B1 p.Out.Rows.length c1]) (vs := [.int .i64 p.Qubits, .int .i64 p.Phase, .slice B p.Terms.length c, .slice B1 p.Out.Rows.length c1]) k_ag_52 k_sz_52_4 rfl rfl (hS2.cf (i := 0) rfl) rfl rfl) ?_
  obtain ⟨r_2, hc, hF⟩ := bind_inv hF
  refine sc 7 rfl rfl (Yc_func (g := 76) (vs := [.agg #[.int .i64 p.Qubits, .int .i64 p.Phase, .slice B p.Terms.length c, .slice B1 p.Out.Rows.length c1]]) k_call_76 rfl (mc rfl mn) (c_spec_l13Valid p B c p.Terms.length B1 c1 p.Out.Rows.length _ rfl rfl (hS2.inn0 [(true, 0), (true, 1)] rfl) hc)) ?_
  rintro _ w_2 ⟨rfl, hd⟩
  have hS3 := hS2.out00 hd
  have hS3 : ST w0 [] _ [⟨some ⟨b, 0, none⟩, 52, [.int .i64 p.Qubits, .int .i64 p.Phase, .slice B p.Terms.length c, .slice B1 p.Out.Rows.length c1], 4⟩, ⟨some ⟨b1, 0, none⟩, 52, [.int .i64 q.Qubits, .int .i64 q.Phase, .slice B2 q.Terms.length c2, .slice B3 q.Out.Rows.length c3], 4⟩] [⟨B, (p.Terms.flatMap enc_Term)⟩, ⟨B1, (p.Out.Rows.flatMap encI)⟩, ⟨B2, (q.Terms.flatMap enc_Term)⟩, ⟨B3, (q.Out.Rows.flatMap encI)⟩] := hS3
  refine sq 8 rfl rfl (Y_not (p := r_2) rfl rfl) ?_
  refine sq 9 rfl rfl (Y_move (v := .bool (!r_2)) rfl rfl) ?_
  refine sgq 10 (B := (!(!r_2))) (v := .agg #[.int .i64 q.Qubits, .int .i64 q.Phase, .slice B2 q.Terms.length c2, .slice B3 q.Out.Rows.length c3]) rfl rfl (wt_f (gd_of (t := 9) (by kernel_rfl) rfl)) (fun hg => (Y_loadA (B := some ⟨b1, 0, none⟩) (i := 0) (cs := [.int .i64 q.Qubits, .int .i64 q.Phase, .slice B2 q.Terms.length c2, .slice B3 q.Out.Rows.length c3]) (vs := [.int .i64 q.Qubits, .int .i64 q.Phase, .slice B2 q.Terms.length c2, .slice B3 q.Out.Rows.length c3]) k_ag_52 k_sz_52_4 rfl rfl (hS3.cf (i := 1) rfl) rfl rfl)) ?_
  obtain ⟨r_3, hc1, hF⟩ := bind_inv hF
  refine sgc 11 (B := (!(!r_2))) (v := .bool r_3) (F := hS3.fn) rfl rfl (wt_f (gd_of (t := 9) (by kernel_rfl) rfl)) hS3 (fun hg1 => (Yc_func (g := 76) (vs := [.agg #[.int .i64 q.Qubits, .int .i64 q.Phase, .slice B2 q.Terms.length c2, .slice B3 q.Out.Rows.length c3]]) k_call_76 rfl (mc (gv_of (B := (!(!r_2))) (v := .agg #[.int .i64 q.Qubits, .int .i64 q.Phase, .slice B2 q.Terms.length c2, .slice B3 q.Out.Rows.length c3]) hg1) mn) (CV.mono (c_spec_l13Valid q B2 c2 q.Terms.length B3 c3 q.Out.Rows.length _ rfl rfl (hS3.inn0 [(true, 2), (true, 3)] rfl) (gb_inv hc1 hg1)) (by rintro _ _ ⟨rfl, h⟩; exact ⟨rfl, hS3.out00 h⟩)))) ?_
  rintro w_3 hS4
  have hS4 : ST _ _ w_3 _ _ := hS4
  refine sgq 12 (B := (!(!r_2))) (v := .bool (!r_3)) rfl rfl (wt_f (gd_of (t := 9) (by kernel_rfl) rfl)) (fun hg2 => (Y_not (p := r_3) rfl (gv_of (B := (!(!r_2))) (v := .bool r_3) hg2))) ?_
  refine sq 13 rfl rfl (Y_or (b := (!r_2)) (z := (!r_3)) rfl rfl rfl rfl) ?_
  refine sq 14 rfl rfl (Y_move (v := .bool ((!r_2) || (!r_3))) rfl rfl) ?_
  refine sgq 15 (B := (!((!r_2) || (!r_3)))) (v := pt (some ⟨b, 0, none⟩) 0) rfl rfl (wt_f (gd_of (t := 14) (by kernel_rfl) rfl)) (fun hg3 => (Y_fieldAddr (B := some ⟨b, 0, none⟩) (i := 0) (s := 0) k_fd_52_0_0_3 k_sz_3_1 rfl rfl)) ?_
  refine sgq 16 (B := (!((!r_2) || (!r_3)))) (v := .int .i64 p.Qubits) rfl rfl (wt_f (gd_of (t := 14) (by kernel_rfl) rfl)) (fun hg4 => (Y_load1 (B := some ⟨b, 0, none⟩) (i := 0) (cs := [.int .i64 p.Qubits, .int .i64 p.Phase, .slice B p.Terms.length c, .slice B1 p.Out.Rows.length c1]) (v := .int .i64 p.Qubits) k_sc_3 rfl (gv_of (B := (!((!r_2) || (!r_3)))) (v := pt (some ⟨b, 0, none⟩) 0) hg4) (hS4.cf (i := 0) rfl) rfl)) ?_
  refine sgq 17 (B := (!((!r_2) || (!r_3)))) (v := pt (some ⟨b1, 0, none⟩) 0) rfl rfl (wt_f (gd_of (t := 14) (by kernel_rfl) rfl)) (fun hg5 => (Y_fieldAddr (B := some ⟨b1, 0, none⟩) (i := 0) (s := 0) k_fd_52_0_0_3 k_sz_3_1 rfl rfl)) ?_
  refine sgq 18 (B := (!((!r_2) || (!r_3)))) (v := .int .i64 q.Qubits) rfl rfl (wt_f (gd_of (t := 14) (by kernel_rfl) rfl)) (fun hg6 => (Y_load1 (B := some ⟨b1, 0, none⟩) (i := 0) (cs := [.int .i64 q.Qubits, .int .i64 q.Phase, .slice B2 q.Terms.length c2, .slice B3 q.Out.Rows.length c3]) (v := .int .i64 q.Qubits) k_sc_3 rfl (gv_of (B := (!((!r_2) || (!r_3)))) (v := pt (some ⟨b1, 0, none⟩) 0) hg6) (hS4.cf (i := 1) rfl) rfl)) ?_
  refine sgq 19 (B := (!((!r_2) || (!r_3)))) (v := .bool (p.Qubits != q.Qubits)) rfl rfl (wt_f (gd_of (t := 14) (by kernel_rfl) rfl)) (fun hg7 => (Y_ne (k := .i64) (a := p.Qubits) (b := q.Qubits) rfl (gv_of (B := (!((!r_2) || (!r_3)))) (v := .int .i64 p.Qubits) hg7) (gv_of (B := (!((!r_2) || (!r_3)))) (v := .int .i64 q.Qubits) hg7))) ?_
  refine sq 20 rfl rfl (Y_or (b := ((!r_2) || (!r_3))) (z := (p.Qubits != q.Qubits)) rfl rfl rfl rfl) ?_
  refine rw_nil ?_
  refine cw_cond (b := (((!r_2) || (!r_3)) || (p.Qubits != q.Qubits))) rfl (fun hb => ?_) (fun hb => ?_)
  · skip
    have hF1 := ct hF hb
    refine cw_seq ?_
    refine cw_region ?_
    refine sq 4 rfl rfl (Y_assign (v := .bool false) rfl rfl) ?_
    refine sq 5 rfl rfl (Y_assign (v := .bool false) rfl rfl) ?_
    refine rw_nil ?_
    refine cw_ret ?_
    obtain ⟨rfl, rfl⟩ := pr2 (some_inj hF1)
    exact ret2 Try.results35 (v1 := .bool false) (resAt_tmp rfl) (v2 := .bool false) (resAt_tmp rfl) ⟨rfl, (ST.subR (R' := []) (hS4.sel [] rfl rfl) (fun _ h => by cases h))⟩
  · skip
    have hF2 := cf' hF hb
    refine cw_skip ?_
    refine cw_seq ?_
    obtain ⟨r_4, hc2, hF2⟩ := bind_inv hF2
    refine cw_split (B := ((p.Phase == q.Phase) && r_4)) (fun hb1 => ?_) (fun hb1 => ?_)
    · skip
      have hF3 := ct hF2 hb1
      obtain ⟨r_5, hc3, hF3⟩ := bind_inv hF3
      obtain ⟨r_6, hc4, hF3⟩ := bind_inv hF3
      obtain ⟨r_7, hc5, hF3⟩ := bind_inv hF3
      refine ra_start (ST.sel hS4 [0, 1] rfl rfl).fn (by kernel_rfl) ?_
      have hS9 := hS4.drew
      refine ra_q 0 21 (v := pt (some ⟨b, 0, none⟩) 1) rfl rfl rfl (by kernel_rfl) (by kernel_rfl) (by kernel_rfl) (ST.sel hS9 [0, 1] rfl rfl) (fun w' hw' => (Y_fieldAddr (B := some ⟨b, 0, none⟩) (i := 0) (s := 0) k_fd_52_1_1_3 k_sz_3_1 rfl rfl)) ?_
      refine ra_q 1 22 (v := .int .i64 p.Phase) rfl rfl rfl (by kernel_rfl) (by kernel_rfl) (by kernel_rfl) (ST.sel hS9 [0, 1] rfl rfl) (fun w' hw' => (Y_load1 (B := some ⟨b, 0, none⟩) (i := 1) (cs := [.int .i64 p.Qubits, .int .i64 p.Phase, .slice B p.Terms.length c, .slice B1 p.Out.Rows.length c1]) (v := .int .i64 p.Phase) k_sc_3 rfl rfl (ST.cf hw' (i := 0) rfl) rfl)) ?_
      refine ra_q 2 23 (v := pt (some ⟨b1, 0, none⟩) 1) rfl rfl rfl (by kernel_rfl) (by kernel_rfl) (by kernel_rfl) (ST.sel hS9 [0, 1] rfl rfl) (fun w' hw' => (Y_fieldAddr (B := some ⟨b1, 0, none⟩) (i := 0) (s := 0) k_fd_52_1_1_3 k_sz_3_1 rfl rfl)) ?_
      refine ra_q 3 24 (v := .int .i64 q.Phase) rfl rfl rfl (by kernel_rfl) (by kernel_rfl) (by kernel_rfl) (ST.sel hS9 [0, 1] rfl rfl) (fun w' hw' => (Y_load1 (B := some ⟨b1, 0, none⟩) (i := 1) (cs := [.int .i64 q.Qubits, .int .i64 q.Phase, .slice B2 q.Terms.length c2, .slice B3 q.Out.Rows.length c3]) (v := .int .i64 q.Phase) k_sc_3 rfl rfl (ST.cf hw' (i := 1) rfl) rfl)) ?_
      refine ra_q 4 25 (v := .bool (p.Phase == q.Phase)) rfl rfl rfl (by kernel_rfl) (by kernel_rfl) (by kernel_rfl) (ST.sel hS9 [0, 1] rfl rfl) (fun w' hw' => (Y_eq (k := .i64) (a := p.Phase) (b := q.Phase) rfl rfl rfl)) ?_
      refine ra_q 5 26 (v := .bool (p.Phase == q.Phase)) rfl rfl rfl (by kernel_rfl) (by kernel_rfl) (by kernel_rfl) (ST.sel hS9 [0, 1] rfl rfl) (fun w' hw' => (Y_move (v := .bool (p.Phase == q.Phase)) rfl rfl)) ?_
      refine ra_gq 6 27 (B := (p.Phase == q.Phase)) (v := pt (some ⟨b, 0, none⟩) 3) rfl rfl rfl (wt_t (gd_of (t := 26) (by kernel_rfl) rfl)) (by kernel_rfl) (by kernel_rfl) (by kernel_rfl) (ST.sel hS9 [0, 1] rfl rfl) (fun hg8 w' hw' => (Y_fieldAddr (B := some ⟨b, 0, none⟩) (i := 0) (s := 0) k_fd_52_3_3_50 k_sz_50_1 rfl rfl)) ?_
      refine ra_gq 7 28 (B := (p.Phase == q.Phase)) (v := pt (some ⟨b, 0, none⟩) 3) rfl rfl rfl (wt_t (gd_of (t := 26) (by kernel_rfl) rfl)) (by kernel_rfl) (by kernel_rfl) (by kernel_rfl) (ST.sel hS9 [0, 1] rfl rfl) (fun hg9 w' hw' => (Y_fieldAddr (B := some ⟨b, 0, none⟩) (i := 3) (s := 0) k_fd_50_0_0_48 k_sz_48_1 rfl (gv_of (B := (p.Phase == q.Phase)) (v := pt (some ⟨b, 0, none⟩) 3) hg9))) ?_
      refine ra_gq 8 29 (B := (p.Phase == q.Phase)) (v := .slice B1 p.Out.Rows.length c1) rfl rfl rfl (wt_t (gd_of (t := 26) (by kernel_rfl) rfl)) (by kernel_rfl) (by kernel_rfl) (by kernel_rfl) (ST.sel hS9 [0, 1] rfl rfl) (fun hg10 w' hw' => (Y_load1 (B := some ⟨b, 0, none⟩) (i := 3) (cs := [.int .i64 p.Qubits, .int .i64 p.Phase, .slice B p.Terms.length c, .slice B1 p.Out.Rows.length c1]) (v := .slice B1 p.Out.Rows.length c1) k_sc_48 rfl (gv_of (B := (p.Phase == q.Phase)) (v := pt (some ⟨b, 0, none⟩) 3) hg10) (ST.cf hw' (i := 0) rfl) rfl)) ?_
      refine ra_gq 9 30 (B := (p.Phase == q.Phase)) (v := pt (some ⟨b1, 0, none⟩) 3) rfl rfl rfl (wt_t (gd_of (t := 26) (by kernel_rfl) rfl)) (by kernel_rfl) (by kernel_rfl) (by kernel_rfl) (ST.sel hS9 [0, 1] rfl rfl) (fun hg11 w' hw' => (Y_fieldAddr (B := some ⟨b1, 0, none⟩) (i := 0) (s := 0) k_fd_52_3_3_50 k_sz_50_1 rfl rfl)) ?_
      refine ra_gq 10 31 (B := (p.Phase == q.Phase)) (v := pt (some ⟨b1, 0, none⟩) 3) rfl rfl rfl (wt_t (gd_of (t := 26) (by kernel_rfl) rfl)) (by kernel_rfl) (by kernel_rfl) (by kernel_rfl) (ST.sel hS9 [0, 1] rfl rfl) (fun hg12 w' hw' => (Y_fieldAddr (B := some ⟨b1, 0, none⟩) (i := 3) (s := 0) k_fd_50_0_0_48 k_sz_48_1 rfl (gv_of (B := (p.Phase == q.Phase)) (v := pt (some ⟨b1, 0, none⟩) 3) hg12))) ?_
      refine ra_gq 11 32 (B := (p.Phase == q.Phase)) (v := .slice B3 q.Out.Rows.length c3) rfl rfl rfl (wt_t (gd_of (t := 26) (by kernel_rfl) rfl)) (by kernel_rfl) (by kernel_rfl) (by kernel_rfl) (ST.sel hS9 [0, 1] rfl rfl) (fun hg13 w' hw' => (Y_load1 (B := some ⟨b1, 0, none⟩) (i := 3) (cs := [.int .i64 q.Qubits, .int .i64 q.Phase, .slice B2 q.Terms.length c2, .slice B3 q.Out.Rows.length c3]) (v := .slice B3 q.Out.Rows.length c3) k_sc_48 rfl (gv_of (B := (p.Phase == q.Phase)) (v := pt (some ⟨b1, 0, none⟩) 3) hg13) (ST.cf hw' (i := 1) rfl) rfl)) ?_
      refine ra_all (rs := [12]) (by kernel_rfl) rfl ?_
      refine ra_gc 33 (i := 12) (B := (p.Phase == q.Phase)) (v := .bool r_4) (F := hS9.fn) rfl rfl rfl (wt_t (gd_of (t := 26) (by kernel_rfl) rfl)) hS9 (fun hg14 => (Yc_func (g := 91) (vs := [.slice B1 p.Out.Rows.length c1, .slice B3 q.Out.Rows.length c3]) k_call_91 rfl (mc (gv_of (B := (p.Phase == q.Phase)) (v := .slice B1 p.Out.Rows.length c1) hg14) (mc (gv_of (B := (p.Phase == q.Phase)) (v := .slice B3 q.Out.Rows.length c3) hg14) mn)) (CV.mono (c_spec_l1Same p.Out.Rows q.Out.Rows B1 c1 p.Out.Rows.length B3 c3 q.Out.Rows.length _ rfl rfl (hS9.inn0 [(true, 1), (true, 3)] rfl) (gb_inv hc2 hg14)) (by rintro _ _ ⟨rfl, h⟩; exact ⟨rfl, hS9.out00 h⟩)))) ?_ ?_
      · rintro w_4 hS10
        have hS10 : ST _ _ w_4 _ _ := hS10
        refine ⟨(ST.sel hS10 [0, 1] rfl rfl), ?_⟩
        refine ra_q 13 34 (v := .bool ((p.Phase == q.Phase) && r_4)) rfl rfl rfl (by kernel_rfl) (by kernel_rfl) (by kernel_rfl) (ST.sel hS10 [0, 1] rfl rfl) (fun w' hw' => (Y_and (b := (p.Phase == q.Phase)) (z := r_4) rfl rfl rfl rfl)) ?_
        refine ra_q 14 35 (v := .bool ((p.Phase == q.Phase) && r_4)) rfl rfl rfl (by kernel_rfl) (by kernel_rfl) (by kernel_rfl) (ST.sel hS10 [0, 1] rfl rfl) (fun w' hw' => (Y_move (v := .bool ((p.Phase == q.Phase) && r_4)) rfl rfl)) ?_
        refine ra_gq 15 36 (B := ((p.Phase == q.Phase) && r_4)) (v := .agg #[.int .i64 p.Qubits, .int .i64 p.Phase, .slice B p.Terms.length c, .slice B1 p.Out.Rows.length c1]) rfl rfl rfl (wt_t (gd_of (t := 35) (by kernel_rfl) rfl)) (by kernel_rfl) (by kernel_rfl) (by kernel_rfl) (ST.sel hS10 [0, 1] rfl rfl) (fun hg15 w' hw' => (Y_loadA (B := some ⟨b, 0, none⟩) (i := 0) (cs := [.int .i64 p.Qubits, .int .i64 p.Phase, .slice B p.Terms.length c, .slice B1 p.Out.Rows.length c1]) (vs := [.int .i64 p.Qubits, .int .i64 p.Phase, .slice B p.Terms.length c, .slice B1 p.Out.Rows.length c1]) k_ag_52 k_sz_52_4 rfl rfl (ST.cf hw' (i := 0) rfl) rfl rfl)) ?_
        refine ra_qg 17 38 (B := ((p.Phase == q.Phase) && r_4)) (v := .agg #[.int .i64 q.Qubits, .int .i64 q.Phase, .slice B2 q.Terms.length c2, .slice B3 q.Out.Rows.length c3]) rfl rfl rfl (wt_t (gd_of (t := 35) (by kernel_rfl) rfl)) hb1 (by kernel_rfl) (by kernel_rfl) (by kernel_rfl) (ST.sel hS10 [0, 1] rfl rfl) (fun w' hw' => (Y_loadA (B := some ⟨b1, 0, none⟩) (i := 0) (cs := [.int .i64 q.Qubits, .int .i64 q.Phase, .slice B2 q.Terms.length c2, .slice B3 q.Out.Rows.length c3]) (vs := [.int .i64 q.Qubits, .int .i64 q.Phase, .slice B2 q.Terms.length c2, .slice B3 q.Out.Rows.length c3]) k_ag_52 k_sz_52_4 rfl rfl (ST.cf hw' (i := 1) rfl) rfl rfl)) ?_
        refine ra_all (rs := [16]) (by kernel_rfl) rfl ?_
        refine ra_cg 37 (i := 16) rfl rfl rfl (wt_t (gd_of (t := 35) (by kernel_rfl) rfl)) hb1 (Yc_func (g := 93) (vs := [.agg #[.int .i64 p.Qubits, .int .i64 p.Phase, .slice B p.Terms.length c, .slice B1 p.Out.Rows.length c1]]) k_call_93 rfl (mc (gv_of (B := ((p.Phase == q.Phase) && r_4)) (v := .agg #[.int .i64 p.Qubits, .int .i64 p.Phase, .slice B p.Terms.length c, .slice B1 p.Out.Rows.length c1]) hb1) mn) (c_spec_l15Monomials p B c p.Terms.length B1 c1 p.Out.Rows.length _ rfl rfl (hS10.inn0 [(true, 0), (true, 1)] rfl) hc3)) ?_ ?_
        · rintro _ w_5 ⟨B4, c4, rfl, hd1⟩
          have hS11 := hS10.out0 hd1
          have hS11 : ST w0 [] _ [⟨some ⟨b, 0, none⟩, 52, [.int .i64 p.Qubits, .int .i64 p.Phase, .slice B p.Terms.length c, .slice B1 p.Out.Rows.length c1], 4⟩, ⟨some ⟨b1, 0, none⟩, 52, [.int .i64 q.Qubits, .int .i64 q.Phase, .slice B2 q.Terms.length c2, .slice B3 q.Out.Rows.length c3], 4⟩, ⟨B4, 104, (r_5.flatMap enc_Term), c4 * 2⟩] [⟨B, (p.Terms.flatMap enc_Term)⟩, ⟨B1, (p.Out.Rows.flatMap encI)⟩, ⟨B2, (q.Terms.flatMap enc_Term)⟩, ⟨B3, (q.Out.Rows.flatMap encI)⟩] := hS11
          refine ⟨(ST.sel hS11 [0, 1] rfl rfl), ?_⟩
          refine ra_all (rs := [18]) (by kernel_rfl) rfl ?_
          refine ra_cg 39 (i := 18) rfl rfl rfl (wt_t (gd_of (t := 35) (by kernel_rfl) rfl)) hb1 (Yc_func (g := 93) (vs := [.agg #[.int .i64 q.Qubits, .int .i64 q.Phase, .slice B2 q.Terms.length c2, .slice B3 q.Out.Rows.length c3]]) k_call_93 rfl (mc rfl mn) (c_spec_l15Monomials q B2 c2 q.Terms.length B3 c3 q.Out.Rows.length _ rfl rfl (hS11.inn0 [(true, 2), (true, 3)] rfl) hc4)) ?_ ?_
          · rintro _ w_6 ⟨B5, c5, rfl, hd2⟩
            have hS12 := hS11.out0 hd2
            have hS12 : ST w0 [] _ [⟨some ⟨b, 0, none⟩, 52, [.int .i64 p.Qubits, .int .i64 p.Phase, .slice B p.Terms.length c, .slice B1 p.Out.Rows.length c1], 4⟩, ⟨some ⟨b1, 0, none⟩, 52, [.int .i64 q.Qubits, .int .i64 q.Phase, .slice B2 q.Terms.length c2, .slice B3 q.Out.Rows.length c3], 4⟩, ⟨B4, 104, (r_5.flatMap enc_Term), c4 * 2⟩, ⟨B5, 104, (r_6.flatMap enc_Term), c5 * 2⟩] [⟨B, (p.Terms.flatMap enc_Term)⟩, ⟨B1, (p.Out.Rows.flatMap encI)⟩, ⟨B2, (q.Terms.flatMap enc_Term)⟩, ⟨B3, (q.Out.Rows.flatMap encI)⟩] := hS12
            refine ⟨(ST.sel hS12 [0, 1] rfl rfl), ?_⟩
            refine ra_all (rs := [19]) (by kernel_rfl) rfl ?_
            refine ra_cg 40 (i := 19) rfl rfl rfl (wt_t (gd_of (t := 35) (by kernel_rfl) rfl)) hb1 (Yc_func (g := 92) (vs := [.slice B4 r_5.length c4, .slice B5 r_6.length c5]) k_call_92 rfl (mc rfl (mc rfl mn)) (c_spec_l15SameTerms r_5 r_6 B4 c4 r_5.length B5 c5 r_6.length _ rfl rfl (hS12.inn0 [(false, 2), (false, 3)] rfl) hc5)) ?_ ?_
            · rintro _ w_7 ⟨rfl, hd3⟩
              have hS13 := hS12.out00 hd3
              have hS13 : ST w0 [] _ [⟨some ⟨b, 0, none⟩, 52, [.int .i64 p.Qubits, .int .i64 p.Phase, .slice B p.Terms.length c, .slice B1 p.Out.Rows.length c1], 4⟩, ⟨some ⟨b1, 0, none⟩, 52, [.int .i64 q.Qubits, .int .i64 q.Phase, .slice B2 q.Terms.length c2, .slice B3 q.Out.Rows.length c3], 4⟩, ⟨B4, 104, (r_5.flatMap enc_Term), c4 * 2⟩, ⟨B5, 104, (r_6.flatMap enc_Term), c5 * 2⟩] [⟨B, (p.Terms.flatMap enc_Term)⟩, ⟨B1, (p.Out.Rows.flatMap encI)⟩, ⟨B2, (q.Terms.flatMap enc_Term)⟩, ⟨B3, (q.Out.Rows.flatMap encI)⟩] := hS13
              refine ⟨(ST.sel hS13 [0, 1] rfl rfl), ?_⟩
              refine ra_q 20 41 (v := .bool r_7) rfl rfl rfl (by kernel_rfl) (by kernel_rfl) (by kernel_rfl) (ST.sel hS13 [0, 1] rfl rfl) (fun w' hw' => (Y_pickT (b := ((p.Phase == q.Phase) && r_4)) (v := .bool r_7) rfl rfl hb1 rfl)) ?_
              refine ra_q 21 4 (v := .bool r_7) rfl rfl rfl (by kernel_rfl) (by kernel_rfl) (by kernel_rfl) (ST.sel hS13 [0, 1] rfl rfl) (fun w' hw' => (Y_assign (v := .bool r_7) rfl rfl)) ?_
              refine ra_q 22 5 (v := .bool true) rfl rfl rfl (by kernel_rfl) (by kernel_rfl) (by kernel_rfl) (ST.sel hS13 [0, 1] rfl rfl) (fun w' hw' => (Y_assign (v := .bool true) rfl rfl)) ?_
              refine ra_done (by kernel_rfl) ?_
              refine cw_ret ?_
              obtain ⟨rfl, rfl⟩ := pr2 (some_inj hF3)
              exact ret2 Try.results35 (v1 := .bool r_7) (resAt_tmp rfl) (v2 := .bool true) (resAt_tmp rfl) ⟨rfl, (ST.subR (R' := []) (hS13.sel [] rfl rfl) (fun _ h => by cases h))⟩
            exact allR_nil
          exact allR_nil
        exact allR_nil
      exact allR_nil
    · skip
      have hF4 := cf' hF2 hb1
      refine ra_start (ST.sel hS4 [0, 1] rfl rfl).fn (by kernel_rfl) ?_
      have hS14 := hS4.drew
      refine ra_q 0 21 (v := pt (some ⟨b, 0, none⟩) 1) rfl rfl rfl (by kernel_rfl) (by kernel_rfl) (by kernel_rfl) (ST.sel hS14 [0, 1] rfl rfl) (fun w' hw' => (Y_fieldAddr (B := some ⟨b, 0, none⟩) (i := 0) (s := 0) k_fd_52_1_1_3 k_sz_3_1 rfl rfl)) ?_
      refine ra_q 1 22 (v := .int .i64 p.Phase) rfl rfl rfl (by kernel_rfl) (by kernel_rfl) (by kernel_rfl) (ST.sel hS14 [0, 1] rfl rfl) (fun w' hw' => (Y_load1 (B := some ⟨b, 0, none⟩) (i := 1) (cs := [.int .i64 p.Qubits, .int .i64 p.Phase, .slice B p.Terms.length c, .slice B1 p.Out.Rows.length c1]) (v := .int .i64 p.Phase) k_sc_3 rfl rfl (ST.cf hw' (i := 0) rfl) rfl)) ?_
      refine ra_q 2 23 (v := pt (some ⟨b1, 0, none⟩) 1) rfl rfl rfl (by kernel_rfl) (by kernel_rfl) (by kernel_rfl) (ST.sel hS14 [0, 1] rfl rfl) (fun w' hw' => (Y_fieldAddr (B := some ⟨b1, 0, none⟩) (i := 0) (s := 0) k_fd_52_1_1_3 k_sz_3_1 rfl rfl)) ?_
      refine ra_q 3 24 (v := .int .i64 q.Phase) rfl rfl rfl (by kernel_rfl) (by kernel_rfl) (by kernel_rfl) (ST.sel hS14 [0, 1] rfl rfl) (fun w' hw' => (Y_load1 (B := some ⟨b1, 0, none⟩) (i := 1) (cs := [.int .i64 q.Qubits, .int .i64 q.Phase, .slice B2 q.Terms.length c2, .slice B3 q.Out.Rows.length c3]) (v := .int .i64 q.Phase) k_sc_3 rfl rfl (ST.cf hw' (i := 1) rfl) rfl)) ?_
      refine ra_q 4 25 (v := .bool (p.Phase == q.Phase)) rfl rfl rfl (by kernel_rfl) (by kernel_rfl) (by kernel_rfl) (ST.sel hS14 [0, 1] rfl rfl) (fun w' hw' => (Y_eq (k := .i64) (a := p.Phase) (b := q.Phase) rfl rfl rfl)) ?_
      refine ra_q 5 26 (v := .bool (p.Phase == q.Phase)) rfl rfl rfl (by kernel_rfl) (by kernel_rfl) (by kernel_rfl) (ST.sel hS14 [0, 1] rfl rfl) (fun w' hw' => (Y_move (v := .bool (p.Phase == q.Phase)) rfl rfl)) ?_
      refine ra_gq 6 27 (B := (p.Phase == q.Phase)) (v := pt (some ⟨b, 0, none⟩) 3) rfl rfl rfl (wt_t (gd_of (t := 26) (by kernel_rfl) rfl)) (by kernel_rfl) (by kernel_rfl) (by kernel_rfl) (ST.sel hS14 [0, 1] rfl rfl) (fun hg8 w' hw' => (Y_fieldAddr (B := some ⟨b, 0, none⟩) (i := 0) (s := 0) k_fd_52_3_3_50 k_sz_50_1 rfl rfl)) ?_
      refine ra_gq 7 28 (B := (p.Phase == q.Phase)) (v := pt (some ⟨b, 0, none⟩) 3) rfl rfl rfl (wt_t (gd_of (t := 26) (by kernel_rfl) rfl)) (by kernel_rfl) (by kernel_rfl) (by kernel_rfl) (ST.sel hS14 [0, 1] rfl rfl) (fun hg9 w' hw' => (Y_fieldAddr (B := some ⟨b, 0, none⟩) (i := 3) (s := 0) k_fd_50_0_0_48 k_sz_48_1 rfl (gv_of (B := (p.Phase == q.Phase)) (v := pt (some ⟨b, 0, none⟩) 3) hg9))) ?_
      refine ra_gq 8 29 (B := (p.Phase == q.Phase)) (v := .slice B1 p.Out.Rows.length c1) rfl rfl rfl (wt_t (gd_of (t := 26) (by kernel_rfl) rfl)) (by kernel_rfl) (by kernel_rfl) (by kernel_rfl) (ST.sel hS14 [0, 1] rfl rfl) (fun hg10 w' hw' => (Y_load1 (B := some ⟨b, 0, none⟩) (i := 3) (cs := [.int .i64 p.Qubits, .int .i64 p.Phase, .slice B p.Terms.length c, .slice B1 p.Out.Rows.length c1]) (v := .slice B1 p.Out.Rows.length c1) k_sc_48 rfl (gv_of (B := (p.Phase == q.Phase)) (v := pt (some ⟨b, 0, none⟩) 3) hg10) (ST.cf hw' (i := 0) rfl) rfl)) ?_
      refine ra_gq 9 30 (B := (p.Phase == q.Phase)) (v := pt (some ⟨b1, 0, none⟩) 3) rfl rfl rfl (wt_t (gd_of (t := 26) (by kernel_rfl) rfl)) (by kernel_rfl) (by kernel_rfl) (by kernel_rfl) (ST.sel hS14 [0, 1] rfl rfl) (fun hg11 w' hw' => (Y_fieldAddr (B := some ⟨b1, 0, none⟩) (i := 0) (s := 0) k_fd_52_3_3_50 k_sz_50_1 rfl rfl)) ?_
      refine ra_gq 10 31 (B := (p.Phase == q.Phase)) (v := pt (some ⟨b1, 0, none⟩) 3) rfl rfl rfl (wt_t (gd_of (t := 26) (by kernel_rfl) rfl)) (by kernel_rfl) (by kernel_rfl) (by kernel_rfl) (ST.sel hS14 [0, 1] rfl rfl) (fun hg12 w' hw' => (Y_fieldAddr (B := some ⟨b1, 0, none⟩) (i := 3) (s := 0) k_fd_50_0_0_48 k_sz_48_1 rfl (gv_of (B := (p.Phase == q.Phase)) (v := pt (some ⟨b1, 0, none⟩) 3) hg12))) ?_
      refine ra_gq 11 32 (B := (p.Phase == q.Phase)) (v := .slice B3 q.Out.Rows.length c3) rfl rfl rfl (wt_t (gd_of (t := 26) (by kernel_rfl) rfl)) (by kernel_rfl) (by kernel_rfl) (by kernel_rfl) (ST.sel hS14 [0, 1] rfl rfl) (fun hg13 w' hw' => (Y_load1 (B := some ⟨b1, 0, none⟩) (i := 3) (cs := [.int .i64 q.Qubits, .int .i64 q.Phase, .slice B2 q.Terms.length c2, .slice B3 q.Out.Rows.length c3]) (v := .slice B3 q.Out.Rows.length c3) k_sc_48 rfl (gv_of (B := (p.Phase == q.Phase)) (v := pt (some ⟨b1, 0, none⟩) 3) hg13) (ST.cf hw' (i := 1) rfl) rfl)) ?_
      refine ra_all (rs := [12]) (by kernel_rfl) rfl ?_
      refine ra_gc 33 (i := 12) (B := (p.Phase == q.Phase)) (v := .bool r_4) (F := hS14.fn) rfl rfl rfl (wt_t (gd_of (t := 26) (by kernel_rfl) rfl)) hS14 (fun hg14 => (Yc_func (g := 91) (vs := [.slice B1 p.Out.Rows.length c1, .slice B3 q.Out.Rows.length c3]) k_call_91 rfl (mc (gv_of (B := (p.Phase == q.Phase)) (v := .slice B1 p.Out.Rows.length c1) hg14) (mc (gv_of (B := (p.Phase == q.Phase)) (v := .slice B3 q.Out.Rows.length c3) hg14) mn)) (CV.mono (c_spec_l1Same p.Out.Rows q.Out.Rows B1 c1 p.Out.Rows.length B3 c3 q.Out.Rows.length _ rfl rfl (hS14.inn0 [(true, 1), (true, 3)] rfl) (gb_inv hc2 hg14)) (by rintro _ _ ⟨rfl, h⟩; exact ⟨rfl, hS14.out00 h⟩)))) ?_ ?_
      · rintro w_8 hS15
        have hS15 : ST _ _ w_8 _ _ := hS15
        refine ⟨(ST.sel hS15 [0, 1] rfl rfl), ?_⟩
        refine ra_q 13 34 (v := .bool ((p.Phase == q.Phase) && r_4)) rfl rfl rfl (by kernel_rfl) (by kernel_rfl) (by kernel_rfl) (ST.sel hS15 [0, 1] rfl rfl) (fun w' hw' => (Y_and (b := (p.Phase == q.Phase)) (z := r_4) rfl rfl rfl rfl)) ?_
        refine ra_q 14 35 (v := .bool ((p.Phase == q.Phase) && r_4)) rfl rfl rfl (by kernel_rfl) (by kernel_rfl) (by kernel_rfl) (ST.sel hS15 [0, 1] rfl rfl) (fun w' hw' => (Y_move (v := .bool ((p.Phase == q.Phase) && r_4)) rfl rfl)) ?_
        refine ra_gq 15 36 (B := ((p.Phase == q.Phase) && r_4)) (v := .agg #[.int .i64 p.Qubits, .int .i64 p.Phase, .slice B p.Terms.length c, .slice B1 p.Out.Rows.length c1]) rfl rfl rfl (wt_t (gd_of (t := 35) (by kernel_rfl) rfl)) (by kernel_rfl) (by kernel_rfl) (by kernel_rfl) (ST.sel hS15 [0, 1] rfl rfl) (fun hg15 w' hw' => (Y_loadA (B := some ⟨b, 0, none⟩) (i := 0) (cs := [.int .i64 p.Qubits, .int .i64 p.Phase, .slice B p.Terms.length c, .slice B1 p.Out.Rows.length c1]) (vs := [.int .i64 p.Qubits, .int .i64 p.Phase, .slice B p.Terms.length c, .slice B1 p.Out.Rows.length c1]) k_ag_52 k_sz_52_4 rfl rfl (ST.cf hw' (i := 0) rfl) rfl rfl)) ?_
        refine ra_gq 16 37 (B := ((p.Phase == q.Phase) && r_4)) (v := undef) rfl rfl rfl (wt_t (gd_of (t := 35) (by kernel_rfl) rfl)) (by kernel_rfl) (by kernel_rfl) (by kernel_rfl) (ST.sel hS15 [0, 1] rfl rfl) (fun hg _ _ => nomatch (hg.symm.trans hb1)) ?_
        refine ra_gq 17 38 (B := ((p.Phase == q.Phase) && r_4)) (v := undef) rfl rfl rfl (wt_t (gd_of (t := 35) (by kernel_rfl) rfl)) (by kernel_rfl) (by kernel_rfl) (by kernel_rfl) (ST.sel hS15 [0, 1] rfl rfl) (fun hg _ _ => nomatch (hg.symm.trans hb1)) ?_
        refine ra_gq 18 39 (B := ((p.Phase == q.Phase) && r_4)) (v := undef) rfl rfl rfl (wt_t (gd_of (t := 35) (by kernel_rfl) rfl)) (by kernel_rfl) (by kernel_rfl) (by kernel_rfl) (ST.sel hS15 [0, 1] rfl rfl) (fun hg _ _ => nomatch (hg.symm.trans hb1)) ?_
        refine ra_gq 19 40 (B := ((p.Phase == q.Phase) && r_4)) (v := undef) rfl rfl rfl (wt_t (gd_of (t := 35) (by kernel_rfl) rfl)) (by kernel_rfl) (by kernel_rfl) (by kernel_rfl) (ST.sel hS15 [0, 1] rfl rfl) (fun hg _ _ => nomatch (hg.symm.trans hb1)) ?_
        refine ra_q 20 41 (v := .bool false) rfl rfl rfl (by kernel_rfl) (by kernel_rfl) (by kernel_rfl) (ST.sel hS15 [0, 1] rfl rfl) (fun w' hw' => (Y_pickF (b := ((p.Phase == q.Phase) && r_4)) (v := .bool false) rfl rfl hb1 rfl)) ?_
        refine ra_q 21 4 (v := .bool false) rfl rfl rfl (by kernel_rfl) (by kernel_rfl) (by kernel_rfl) (ST.sel hS15 [0, 1] rfl rfl) (fun w' hw' => (Y_assign (v := .bool false) rfl rfl)) ?_
        refine ra_q 22 5 (v := .bool true) rfl rfl rfl (by kernel_rfl) (by kernel_rfl) (by kernel_rfl) (ST.sel hS15 [0, 1] rfl rfl) (fun w' hw' => (Y_assign (v := .bool true) rfl rfl)) ?_
        refine ra_done (by kernel_rfl) ?_
        refine cw_ret ?_
        obtain ⟨rfl, rfl⟩ := pr2 (some_inj hF4)
        exact ret2 Try.results35 (v1 := .bool false) (resAt_tmp rfl) (v2 := .bool true) (resAt_tmp rfl) ⟨rfl, (ST.subR (R' := []) (hS15.sel [] rfl rfl) (fun _ h => by cases h))⟩
      exact allR_nil

theorem c_spec_DrawIsValidPhasePoly (code : List Int) (B : Option Addr) (c n : Nat) (w0 : World) (hn : code.length = n) (hS : ST w0 [] w0 [] [⟨B, (code.flatMap enc_u8)⟩]) {r_ : TPhasePoly} (hF : F_spec_DrawIsValidPhasePoly code = some r_) :
    CV Try.prog 94 #[.slice B n c] w0 (fun v w' => ∃ (B1 : Option Addr) (c1 : Nat) (B2 : Option Addr) (c2 : Nat), v = .agg #[.int .i64 r_.Qubits, .int .i64 r_.Phase, .slice B1 r_.Terms.length c1, .slice B2 r_.Out.Rows.length c2] ∧ r_.Out.Rows.length ≤ c2 ∧ Org w0 [] [⟨B, (code.flatMap enc_u8)⟩] [⟨B2, (r_.Out.Rows.flatMap encI)⟩] ∧ ST w0 [] w' [⟨B1, 104, (r_.Terms.flatMap enc_Term), c1 * 2⟩] [⟨B2, (r_.Out.Rows.flatMap encI)⟩]) := by
  subst hn
  unfold F_spec_DrawIsValidPhasePoly at hF
  refine cv_of_cw 9 Try.func94 rfl Try.ntmps94 rfl ?_
  refine cw_seq ?_
  refine cw_region ?_
  refine ss 2 rfl rfl (Ys_alloc (T := 52) (cs := [.int .i64 0, .int .i64 0, .slice none 0 0, .slice none 0 0]) (m := 4) hS k_zero_52 rfl rfl rfl) ?_
  rintro _ w_ ⟨b, rfl, hS1⟩
  refine rw_nil ?_
  refine cw_seq ?_
  refine cw_region ?_
  refine sq 4 rfl rfl (Y_move (v := .slice B code.length c) rfl rfl) ?_
  refine sq 5 rfl rfl (Y_buildS (zs := [.slice none 0 0, .int .i64 0, .int .u64 0]) (vs := [(0, .slice B code.length c)]) (cs := [.slice B code.length c, .int .i64 0, .int .u64 0]) k_pl_87 k_zero_87 rfl (mpc rfl mpn) rfl) ?_
  refine ss 6 rfl rfl (Ys_box (T := 87) (v := .agg #[.slice B code.length c, .int .i64 0, .int .u64 0]) (cs := [.slice B code.length c, .int .i64 0, .int .u64 0]) (m := 3) hS1 rfl rfl rfl rfl) ?_
  rintro _ w_1 ⟨b1, rfl, hS2⟩
  have hS2 : ST w0 [] _ [⟨some ⟨b, 0, none⟩, 52, [.int .i64 0, .int .i64 0, .slice none 0 0, .slice none 0 0], 4⟩, ⟨some ⟨b1, 0, none⟩, 87, [.slice B code.length c, .int .i64 0, .int .u64 0], 3⟩] [⟨B, (code.flatMap enc_u8)⟩] := hS2
  refine sq 3 rfl rfl (Y_assign (v := pt (some ⟨b1, 0, none⟩) 0) rfl rfl) ?_
  refine rw_nil ?_
  refine cw_seq ?_
  refine cw_region ?_
  refine sq 7 rfl rfl (Y_move (v := pt (some ⟨b1, 0, none⟩) 0) rfl rfl) ?_
  obtain ⟨⟨r_1, m⟩, hc, hF⟩ := bind_inv hF
  refine sc 8 rfl rfl (Yc_func (g := 71) (vs := [pt (some ⟨b1, 0, none⟩) 0]) k_call_71 rfl (mc rfl mn) (c_spec_l1Cur_anyPhasePoly (Tl1Cur.mk code 0 0) (some ⟨b1, 0, none⟩) B c code.length _ rfl (hS2.inn [false, true] rfl [(true, 0)] rfl) hc)) ?_
  rintro _ w_2 ⟨B3, c3, B4, c4, rfl, hq, ho, hd⟩
  have hS3 := ST.outR hS2 [false, true] rfl hd ho (subc (mem_at (i := 0) rfl) (fun _ h => by cases h))
  have ho1 : Org w0 [] [⟨B, (code.flatMap enc_u8)⟩] [⟨B4, (r_1.Out.Rows.flatMap encI)⟩] := org_trans hS2 (msk_mem (mask := [false, true]) rfl) ho (org_cons (org_mem (i := 0) rfl) org_nil)
  have hS4 : ST w0 [] _ [⟨some ⟨b, 0, none⟩, 52, [.int .i64 0, .int .i64 0, .slice none 0 0, .slice none 0 0], 4⟩, ⟨some ⟨b1, 0, none⟩, 87, [.slice B code.length c, .int .i64 m.at_, .int .u64 m.seed], 3⟩, ⟨B3, 104, (r_1.Terms.flatMap enc_Term), c3 * 2⟩] [⟨B4, (r_1.Out.Rows.flatMap encI)⟩, ⟨B, (code.flatMap enc_u8)⟩] := hS3
  have hS4 : ST w0 [] _ [⟨some ⟨b, 0, none⟩, 52, [.int .i64 0, .int .i64 0, .slice none 0 0, .slice none 0 0], 4⟩, ⟨some ⟨b1, 0, none⟩, 87, [.slice B code.length c, .int .i64 m.at_, .int .u64 m.seed], 3⟩, ⟨B3, 104, (r_1.Terms.flatMap enc_Term), c3 * 2⟩] [⟨B4, (r_1.Out.Rows.flatMap encI)⟩, ⟨B, (code.flatMap enc_u8)⟩] := hS4
  refine ss0 rfl rfl (Ys_store (i := 0) (s := 4) (B := some ⟨b, 0, none⟩) (T' := 52) (v := .agg #[.int .i64 r_1.Qubits, .int .i64 r_1.Phase, .slice B3 r_1.Terms.length c3, .slice B4 r_1.Out.Rows.length c4]) (vs := [.int .i64 r_1.Qubits, .int .i64 r_1.Phase, .slice B3 r_1.Terms.length c3, .slice B4 r_1.Out.Rows.length c4]) (k := 0) (cs' := [.int .i64 r_1.Qubits, .int .i64 r_1.Phase, .slice B3 r_1.Terms.length c3, .slice B4 r_1.Out.Rows.length c4]) hS4 k_sz_52_4 rfl rfl rfl rfl rfl rfl rfl (Nat.le_of_ble_eq_true rfl) rfl rfl) ?_
  rintro _ w_3 ⟨rfl, hS5⟩
  have hS5 : ST w0 [] _ [⟨some ⟨b, 0, none⟩, 52, [.int .i64 r_1.Qubits, .int .i64 r_1.Phase, .slice B3 r_1.Terms.length c3, .slice B4 r_1.Out.Rows.length c4], 4⟩, ⟨some ⟨b1, 0, none⟩, 87, [.slice B code.length c, .int .i64 m.at_, .int .u64 m.seed], 3⟩, ⟨B3, 104, (r_1.Terms.flatMap enc_Term), c3 * 2⟩] [⟨B4, (r_1.Out.Rows.flatMap encI)⟩, ⟨B, (code.flatMap enc_u8)⟩] := hS5
  refine rw_nil ?_
  refine cw_ret ?_
  obtain rfl := some_inj hF
  exact ret1 Try.results94 (v1 := .agg #[.int .i64 r_1.Qubits, .int .i64 r_1.Phase, .slice B3 r_1.Terms.length c3, .slice B4 r_1.Out.Rows.length c4]) (resAt_cellA (B := some ⟨b, 0, none⟩) (i := 0) (cs := [.int .i64 r_1.Qubits, .int .i64 r_1.Phase, .slice B3 r_1.Terms.length c3, .slice B4 r_1.Out.Rows.length c4]) (vs := [.int .i64 r_1.Qubits, .int .i64 r_1.Phase, .slice B3 r_1.Terms.length c3, .slice B4 r_1.Out.Rows.length c4]) rfl k_ag_52 k_sz_52_4 (hS5.cf (i := 0) rfl) rfl rfl) ⟨B3, c3, B4, c4, rfl, (len_le rfl hq), (org_cons (org_sub ho1 (subc (mem_at (i := 0) rfl) (fun _ h => by cases h))) org_nil), (ST.subR (R' := [⟨B4, (r_1.Out.Rows.flatMap encI)⟩]) (hS5.sel [2] rfl rfl) (subc (mem_at (i := 0) rfl) (fun _ h => by cases h)))⟩

theorem c_spec_DrawMonomialsOf (code : List Int) (B : Option Addr) (c n : Nat) (w0 : World) (hn : code.length = n) (hS : ST w0 [] w0 [] [⟨B, (code.flatMap enc_u8)⟩]) {r_ : TPhasePoly} (hF : F_spec_DrawMonomialsOf code = some r_) :
    CV Try.prog 36 #[.slice B n c] w0 (fun v w' => ∃ (B1 : Option Addr) (c1 : Nat) (B2 : Option Addr) (c2 : Nat), v = .agg #[.int .i64 r_.Qubits, .int .i64 r_.Phase, .slice B1 r_.Terms.length c1, .slice B2 r_.Out.Rows.length c2] ∧ r_.Out.Rows.length ≤ c2 ∧ Org w0 [] [⟨B, (code.flatMap enc_u8)⟩] [⟨B2, (r_.Out.Rows.flatMap encI)⟩] ∧ ST w0 [] w' [⟨B1, 104, (r_.Terms.flatMap enc_Term), c1 * 2⟩] [⟨B2, (r_.Out.Rows.flatMap encI)⟩]) := by
  subst hn
  unfold F_spec_DrawMonomialsOf at hF
  refine cv_of_cw 5 Try.func36 rfl Try.ntmps36 rfl ?_
  refine cw_seq ?_
  refine cw_region ?_
  refine ss 2 rfl rfl (Ys_alloc (T := 52) (cs := [.int .i64 0, .int .i64 0, .slice none 0 0, .slice none 0 0]) (m := 4) hS k_zero_52 rfl rfl rfl) ?_
  rintro _ w_ ⟨b, rfl, hS1⟩
  refine rw_nil ?_
  refine cw_seq ?_
  refine cw_region ?_
  refine sq 3 rfl rfl (Y_move (v := .slice B code.length c) rfl rfl) ?_
  obtain ⟨r_1, hc, hF⟩ := bind_inv hF
  refine sc 4 rfl rfl (Yc_func (g := 94) (vs := [.slice B code.length c]) k_call_94 rfl (mc rfl mn) (c_spec_DrawIsValidPhasePoly code B c code.length _ rfl (hS1.inn0 [(true, 0)] rfl) hc)) ?_
  rintro _ w_1 ⟨B3, c3, B4, c4, rfl, hq, ho, hd⟩
  have hS2 := ST.outR0 hS1 hd ho (subc (mem_at (i := 0) rfl) (fun _ h => by cases h))
  have ho1 : Org w0 [] [⟨B, (code.flatMap enc_u8)⟩] [⟨B4, (r_1.Out.Rows.flatMap encI)⟩] := org_trans0 hS1 ho (org_cons (org_mem (i := 0) rfl) org_nil)
  have hS3 : ST w0 [] _ [⟨some ⟨b, 0, none⟩, 52, [.int .i64 0, .int .i64 0, .slice none 0 0, .slice none 0 0], 4⟩, ⟨B3, 104, (r_1.Terms.flatMap enc_Term), c3 * 2⟩] [⟨B4, (r_1.Out.Rows.flatMap encI)⟩, ⟨B, (code.flatMap enc_u8)⟩] := hS2
  have hS3 : ST w0 [] _ [⟨some ⟨b, 0, none⟩, 52, [.int .i64 0, .int .i64 0, .slice none 0 0, .slice none 0 0], 4⟩, ⟨B3, 104, (r_1.Terms.flatMap enc_Term), c3 * 2⟩] [⟨B4, (r_1.Out.Rows.flatMap encI)⟩, ⟨B, (code.flatMap enc_u8)⟩] := hS3
  refine ss0 rfl rfl (Ys_store (i := 0) (s := 4) (B := some ⟨b, 0, none⟩) (T' := 52) (v := .agg #[.int .i64 r_1.Qubits, .int .i64 r_1.Phase, .slice B3 r_1.Terms.length c3, .slice B4 r_1.Out.Rows.length c4]) (vs := [.int .i64 r_1.Qubits, .int .i64 r_1.Phase, .slice B3 r_1.Terms.length c3, .slice B4 r_1.Out.Rows.length c4]) (k := 0) (cs' := [.int .i64 r_1.Qubits, .int .i64 r_1.Phase, .slice B3 r_1.Terms.length c3, .slice B4 r_1.Out.Rows.length c4]) hS3 k_sz_52_4 rfl rfl rfl rfl rfl rfl rfl (Nat.le_of_ble_eq_true rfl) rfl rfl) ?_
  rintro _ w_2 ⟨rfl, hS4⟩
  have hS4 : ST w0 [] _ [⟨some ⟨b, 0, none⟩, 52, [.int .i64 r_1.Qubits, .int .i64 r_1.Phase, .slice B3 r_1.Terms.length c3, .slice B4 r_1.Out.Rows.length c4], 4⟩, ⟨B3, 104, (r_1.Terms.flatMap enc_Term), c3 * 2⟩] [⟨B4, (r_1.Out.Rows.flatMap encI)⟩, ⟨B, (code.flatMap enc_u8)⟩] := hS4
  refine rw_nil ?_
  refine cw_ret ?_
  obtain rfl := some_inj hF
  exact ret1 Try.results36 (v1 := .agg #[.int .i64 r_1.Qubits, .int .i64 r_1.Phase, .slice B3 r_1.Terms.length c3, .slice B4 r_1.Out.Rows.length c4]) (resAt_cellA (B := some ⟨b, 0, none⟩) (i := 0) (cs := [.int .i64 r_1.Qubits, .int .i64 r_1.Phase, .slice B3 r_1.Terms.length c3, .slice B4 r_1.Out.Rows.length c4]) (vs := [.int .i64 r_1.Qubits, .int .i64 r_1.Phase, .slice B3 r_1.Terms.length c3, .slice B4 r_1.Out.Rows.length c4]) rfl k_ag_52 k_sz_52_4 (hS4.cf (i := 0) rfl) rfl rfl) ⟨B3, c3, B4, c4, rfl, (len_le rfl hq), (org_cons (org_sub ho1 (subc (mem_at (i := 0) rfl) (fun _ h => by cases h))) org_nil), (ST.subR (R' := [⟨B4, (r_1.Out.Rows.flatMap encI)⟩]) (hS4.sel [1] rfl rfl) (subc (mem_at (i := 0) rfl) (fun _ h => by cases h)))⟩

theorem c_spec_MonomialsOf (p : TPhasePoly) (B : Option Addr) (c n : Nat) (B1 : Option Addr) (c1 n1 : Nat) (w0 : World) (hn : p.Terms.length = n) (hn1 : p.Out.Rows.length = n1) (hS : ST w0 [] w0 [] [⟨B, (p.Terms.flatMap enc_Term)⟩, ⟨B1, (p.Out.Rows.flatMap encI)⟩]) {r_ : List TTerm} {r_1 : Bool} (hF : F_spec_MonomialsOf p = some (r_, r_1)) :
    CV Try.prog 38 #[.agg #[.int .i64 p.Qubits, .int .i64 p.Phase, .slice B n c, .slice B1 n1 c1]] w0 (fun v w' => ∃ (B2 : Option Addr) (c2 : Nat), v = .tuple #[.slice B2 r_.length c2, .bool r_1] ∧ ST w0 [] w' [⟨B2, 104, (r_.flatMap enc_Term), c2 * 2⟩] []) := by
  subst hn
  subst hn1
  unfold F_spec_MonomialsOf at hF
  refine cv_of_cw 9 Try.func38 rfl Try.ntmps38 rfl ?_
  refine cw_seq ?_
  refine cw_region ?_
  refine ss 1 rfl rfl (Ys_box (T := 52) (v := .agg #[.int .i64 p.Qubits, .int .i64 p.Phase, .slice B p.Terms.length c, .slice B1 p.Out.Rows.length c1]) (cs := [.int .i64 p.Qubits, .int .i64 p.Phase, .slice B p.Terms.length c, .slice B1 p.Out.Rows.length c1]) (m := 4) hS rfl rfl rfl rfl) ?_
  rintro _ w_ ⟨b, rfl, hS1⟩
  refine sq 2 rfl rfl (Y_assign (v := .slice none 0 0) rfl rfl) ?_
  refine sq 3 rfl rfl (Y_assign (v := .bool false) rfl rfl) ?_
  refine rw_nil ?_
  refine cw_seq ?_
  refine cw_seq ?_
  refine cw_region ?_
  refine sq 4 rfl rfl (Y_loadA (B := some ⟨b, 0, none⟩) (i := 0) (cs := [.int .i64 p.Qubits, .int .i64 p.Phase, .slice B p.Terms.length c, .slice B1 p.Out.Rows.length c1]) (vs := [.int .i64 p.Qubits, .int .i64 p.Phase, .slice B p.Terms.length c, .slice B1 p.Out.Rows.length c1]) k_ag_52 k_sz_52_4 rfl rfl (hS1.cf (i := 0) rfl) rfl rfl) ?_
  obtain ⟨r_2, hc, hF⟩ := bind_inv hF
  refine sc 5 rfl rfl (Yc_func (g := 76) (vs := [.agg #[.int .i64 p.Qubits, .int .i64 p.Phase, .slice B p.Terms.length c, .slice B1 p.Out.Rows.length c1]]) k_call_76 rfl (mc rfl mn) (c_spec_l13Valid p B c p.Terms.length B1 c1 p.Out.Rows.length _ rfl rfl (hS1.inn0 [(true, 0), (true, 1)] rfl) hc)) ?_
  rintro _ w_1 ⟨rfl, hd⟩
  have hS2 := hS1.out00 hd
  refine sq 6 rfl rfl (Y_not (p := r_2) rfl rfl) ?_
  refine rw_nil ?_
  refine cw_cond (b := (!r_2)) rfl (fun hb => ?_) (fun hb => ?_)
  · skip
    have hF1 := ct hF hb
    refine cw_seq ?_
    refine cw_region ?_
    refine sq 2 rfl rfl (Y_assign (v := .slice none 0 0) rfl rfl) ?_
    refine sq 3 rfl rfl (Y_assign (v := .bool false) rfl rfl) ?_
    refine rw_nil ?_
    refine cw_ret ?_
    have hS3 := hS2.addNil 104
    obtain ⟨rfl, rfl⟩ := pr2 (some_inj hF1)
    exact ret2 Try.results38 (v1 := .slice none 0 0) (resAt_tmp rfl) (v2 := .bool false) (resAt_tmp rfl) ⟨none, 0, rfl, (ST.subR (R' := []) (hS3.sel [1] rfl rfl) (fun _ h => by cases h))⟩
  · skip
    have hF2 := cf' hF hb
    refine cw_skip ?_
    refine cw_seq ?_
    refine cw_region ?_
    refine sq 7 rfl rfl (Y_loadA (B := some ⟨b, 0, none⟩) (i := 0) (cs := [.int .i64 p.Qubits, .int .i64 p.Phase, .slice B p.Terms.length c, .slice B1 p.Out.Rows.length c1]) (vs := [.int .i64 p.Qubits, .int .i64 p.Phase, .slice B p.Terms.length c, .slice B1 p.Out.Rows.length c1]) k_ag_52 k_sz_52_4 rfl rfl (hS2.cf (i := 0) rfl) rfl rfl) ?_
    obtain ⟨r_3, hc1, hF2⟩ := bind_inv hF2
    refine sc 8 rfl rfl (Yc_func (g := 93) (vs := [.agg #[.int .i64 p.Qubits, .int .i64 p.Phase, .slice B p.Terms.length c, .slice B1 p.Out.Rows.length c1]]) k_call_93 rfl (mc rfl mn) (c_spec_l15Monomials p B c p.Terms.length B1 c1 p.Out.Rows.length _ rfl rfl (hS2.inn0 [(true, 0), (true, 1)] rfl) hc1)) ?_
    rintro _ w_2 ⟨B3, c3, rfl, hd1⟩
    have hS4 := hS2.out0 hd1
    have hS4 : ST w0 [] _ [⟨some ⟨b, 0, none⟩, 52, [.int .i64 p.Qubits, .int .i64 p.Phase, .slice B p.Terms.length c, .slice B1 p.Out.Rows.length c1], 4⟩, ⟨B3, 104, (r_3.flatMap enc_Term), c3 * 2⟩] [⟨B, (p.Terms.flatMap enc_Term)⟩, ⟨B1, (p.Out.Rows.flatMap encI)⟩] := hS4
    refine sq 2 rfl rfl (Y_assign (v := .slice B3 r_3.length c3) rfl rfl) ?_
    refine sq 3 rfl rfl (Y_assign (v := .bool true) rfl rfl) ?_
    refine rw_nil ?_
    refine cw_ret ?_
    obtain ⟨rfl, rfl⟩ := pr2 (some_inj hF2)
    exact ret2 Try.results38 (v1 := .slice B3 r_3.length c3) (resAt_tmp rfl) (v2 := .bool true) (resAt_tmp rfl) ⟨B3, c3, rfl, (ST.subR (R' := []) (hS4.sel [1] rfl rfl) (fun _ h => by cases h))⟩

theorem c_laws_qTerms (a : List TTerm) (b : List TTerm) (B : Option Addr) (c n : Nat) (B1 : Option Addr) (c1 n1 : Nat) (w0 : World) (hn : a.length = n) (hn1 : b.length = n1) (hS : ST w0 [] w0 [] [⟨B, (a.flatMap enc_Term)⟩, ⟨B1, (b.flatMap enc_Term)⟩]) {r_ : Bool} (hF : F_laws_qTerms a b = some r_) :
    CV Try.prog 39 #[.slice B n c, .slice B1 n1 c1] w0 (fun v w' => v = .bool r_ ∧ ST w0 [] w' [] []) := by
  subst hn
  subst hn1
  unfold F_laws_qTerms at hF
  refine cv_of_cw 26 Try.func39 rfl Try.ntmps39 rfl ?_
  refine cw_seq ?_
  refine cw_region ?_
  refine sq 4 rfl rfl (Y_assign (v := .bool false) rfl rfl) ?_
  refine rw_nil ?_
  refine cw_seq ?_
  refine cw_seq ?_
  refine cw_region ?_
  refine sq 6 rfl rfl (Y_move (v := .slice B a.length c) rfl rfl) ?_
  refine sq 7 rfl rfl (Y_len (B := B) (m := a.length) (c := c) k_sl_47_104 rfl rfl) ?_
  refine sq 8 rfl rfl (Y_move (v := .slice B1 b.length c1) rfl rfl) ?_
  refine sq 9 rfl rfl (Y_len (B := B1) (m := b.length) (c := c1) k_sl_47_104 rfl rfl) ?_
  refine sq 10 rfl rfl (Y_ne (k := .i64) (a := (a.length : Int)) (b := (b.length : Int)) rfl rfl rfl) ?_
  refine rw_nil ?_
  refine cw_cond (b := ((a.length : Int) != (b.length : Int))) rfl (fun hb => ?_) (fun hb => ?_)
  · skip
    have hF1 := ct hF hb
    refine cw_seq ?_
    refine cw_region ?_
    refine sq 4 rfl rfl (Y_assign (v := .bool false) rfl rfl) ?_
    refine rw_nil ?_
    refine cw_ret ?_
    obtain rfl := some_inj hF1
    exact ret1 Try.results39 (v1 := .bool false) (resAt_tmp rfl) ⟨rfl, (ST.subR (R' := []) (hS.sel [] rfl rfl) (fun _ h => by cases h))⟩
  · skip
    have hF2 := cf' hF hb
    refine cw_skip ?_
    refine cw_seq ?_
    refine cw_seq ?_
    refine cw_region ?_
    refine sq 11 rfl rfl (Y_move (v := .slice B a.length c) rfl rfl) ?_
    refine sq 12 rfl rfl (Y_len (B := B) (m := a.length) (c := c) k_sl_47_104 rfl rfl) ?_
    refine sq 13 rfl rfl (Y_move (v := .int .i64 0) rfl rfl) ?_
    refine rw_nil ?_
    obtain ⟨hN, hF2⟩ := chk_inv hF2
    obtain ⟨z, hz, hF3⟩ := bind_inv hF2
    refine cw_block ?_
    refine cw_loop (fun k f w => ∃ (i : Nat), FF f [(0, .slice B a.length c), (1, .slice B1 b.length c1), (12, .int .i64 (a.length : Int)), (13, .int .i64 (i : Int))] ∧ ST w0 [] w [] [⟨B, (a.flatMap enc_Term)⟩, ⟨B1, (b.flatMap enc_Term)⟩] ∧ i + k = a.length ∧ forX (F_laws_qTerms_l1 a b) k i () = some z) a.length ⟨0, (FF.cons rfl (FF.cons rfl (FF.cons rfl (FF.cons rfl FF.nil)))), (hS.sel [] rfl rfl), Nat.zero_add _, hz⟩ ?_
    rintro k_ f w ⟨i, hf, hS1, hik, hL⟩
    refine cw_seq ?_
    refine cw_region ?_
    refine sq 14 rfl rfl (Y_lt (k := .i64) (a := (i : Int)) (b := (a.length : Int)) rfl (hf.get 13 3 rfl) (hf.get 12 2 rfl)) ?_
    refine rw_nil ?_
    refine cw_seq ?_
    refine cw_cond (b := (decide ((i : Int) < (a.length : Int)))) rfl (fun hlt => ?_) (fun hlt => ?_)
    · skip
      have hlt1 : i < a.length := by have h := of_decide_eq_true hlt; omega
      obtain ⟨k_1, rfl⟩ : ∃ k2, k_ = k2 + 1 := ⟨k_ - 1, by omega⟩
      obtain ⟨y, hb1, hL1⟩ := forX_go hL
      unfold F_laws_qTerms_l1 at hb1
      refine cw_skip ?_
      refine cw_seq ?_
      refine cw_block ?_
      refine cw_seq ?_
      refine cw_region ?_
      refine sq 15 rfl rfl (Y_move (v := .int .i64 (i : Int)) rfl (hf.get 13 3 rfl)) ?_
      refine sq 5 rfl rfl (Y_assign (v := .int .i64 (i : Int)) rfl rfl) ?_
      refine rw_nil ?_
      refine cw_seq ?_
      obtain ⟨x, hx, hb1⟩ := bind_inv hb1
      obtain ⟨x1, hx1, hb1⟩ := bind_inv hb1
      refine ra_start (ST.sel hS1 [] rfl rfl).fn (by kernel_rfl) ?_
      have hS2 := hS1.drew
      refine ra_q 0 16 (v := .slice B a.length c) rfl rfl rfl (by kernel_rfl) (by kernel_rfl) (by kernel_rfl) (ST.sel hS2 [] rfl rfl) (fun w' hw' => (Y_move (v := .slice B a.length c) rfl (hf.get 0 0 rfl))) ?_
      refine ra_q 1 17 (v := .int .i64 (i : Int)) rfl rfl rfl (by kernel_rfl) (by kernel_rfl) (by kernel_rfl) (ST.sel hS2 [] rfl rfl) (fun w' hw' => (Y_move (v := .int .i64 (i : Int)) rfl rfl)) ?_
      refine ra_q 2 18 (v := pt B ((i : Int).toNat * 2)) rfl rfl rfl (by kernel_rfl) (by kernel_rfl) (by kernel_rfl) (ST.sel hS2 [] rfl rfl) (fun w' hw' => (Y_index (B := B) (m := a.length) (c := c) (k := .i64) (i := (i : Int)) k_sl_47_104 k_sz_104_2 rfl rfl rfl (gi_isSome enc_Term_len rfl (ST.rf hw' (i := 0) rfl) hx) (getI_nn hx) (getI_ltI hx rfl))) ?_
      refine ra_q 3 19 (v := .agg #[.int .i64 x.Mask, .int .i64 x.Coef]) rfl rfl rfl (by kernel_rfl) (by kernel_rfl) (by kernel_rfl) (ST.sel hS2 [] rfl rfl) (fun w' hw' => (Y_loadA (B := B) (i := (i : Int).toNat * 2) (cs := (a.flatMap enc_Term)) (vs := [.int .i64 x.Mask, .int .i64 x.Coef]) k_ag_104 k_sz_104_2 rfl rfl (ST.rf hw' (i := 0) rfl) (enc_Term_len x) (gi_seg enc_Term_len hx))) ?_
      refine ra_q 4 20 (v := .slice B1 b.length c1) rfl rfl rfl (by kernel_rfl) (by kernel_rfl) (by kernel_rfl) (ST.sel hS2 [] rfl rfl) (fun w' hw' => (Y_move (v := .slice B1 b.length c1) rfl (hf.get 1 1 rfl))) ?_
      refine ra_q 5 21 (v := .int .i64 (i : Int)) rfl rfl rfl (by kernel_rfl) (by kernel_rfl) (by kernel_rfl) (ST.sel hS2 [] rfl rfl) (fun w' hw' => (Y_move (v := .int .i64 (i : Int)) rfl rfl)) ?_
      refine ra_q 6 22 (v := pt B1 ((i : Int).toNat * 2)) rfl rfl rfl (by kernel_rfl) (by kernel_rfl) (by kernel_rfl) (ST.sel hS2 [] rfl rfl) (fun w' hw' => (Y_index (B := B1) (m := b.length) (c := c1) (k := .i64) (i := (i : Int)) k_sl_47_104 k_sz_104_2 rfl rfl rfl (gi_isSome enc_Term_len rfl (ST.rf hw' (i := 1) rfl) hx1) (getI_nn hx1) (getI_ltI hx1 rfl))) ?_
      refine ra_q 7 23 (v := .agg #[.int .i64 x1.Mask, .int .i64 x1.Coef]) rfl rfl rfl (by kernel_rfl) (by kernel_rfl) (by kernel_rfl) (ST.sel hS2 [] rfl rfl) (fun w' hw' => (Y_loadA (B := B1) (i := (i : Int).toNat * 2) (cs := (b.flatMap enc_Term)) (vs := [.int .i64 x1.Mask, .int .i64 x1.Coef]) k_ag_104 k_sz_104_2 rfl rfl (ST.rf hw' (i := 1) rfl) (enc_Term_len x1) (gi_seg enc_Term_len hx1))) ?_
      refine ra_q 8 24 (v := .bool (!((x.Mask == x1.Mask) && ((x.Coef == x1.Coef) && true)))) rfl rfl rfl (by kernel_rfl) (by kernel_rfl) (by kernel_rfl) (ST.sel hS2 [] rfl rfl) (fun w' hw' => (Y_neA (xs := #[.int .i64 x.Mask, .int .i64 x.Coef]) (ys := #[.int .i64 x1.Mask, .int .i64 x1.Coef]) (b := ((x.Mask == x1.Mask) && ((x.Coef == x1.Coef) && true))) k_eg_104 rfl rfl rfl (eqr_struct (xs := [.int .i64 x.Mask, .int .i64 x.Coef]) (ys := [.int .i64 x1.Mask, .int .i64 x1.Coef]) k_st_104 k_ho_104 (pts_sc k_sc_3 rfl rfl (eqr_int k_int_3_i64) (pts_sc k_sc_3 rfl rfl (eqr_int k_int_3_i64) pts_nil))))) ?_
      refine ra_done (by kernel_rfl) ?_
      refine cw_cond (b := (!((x.Mask == x1.Mask) && ((x.Coef == x1.Coef) && true)))) rfl (fun hb2 => ?_) (fun hb2 => ?_)
      · skip
        have hF4 := ct hb1 hb2
        refine cw_seq ?_
        refine cw_region ?_
        refine sq 4 rfl rfl (Y_assign (v := .bool false) rfl rfl) ?_
        refine rw_nil ?_
        refine cw_ret ?_
        obtain rfl := some_inj hF4
        obtain rfl := some_inj hL1
        obtain rfl := some_inj hF3
        exact ret1 Try.results39 (v1 := .bool false) (resAt_tmp rfl) ⟨rfl, (ST.subR (R' := []) (hS2.sel [] rfl rfl) (fun _ h => by cases h))⟩
      · skip
        have hF5 := cf' hb1 hb2
        refine cw_skip ?_
        refine cw_region ?_
        refine sq 25 rfl rfl (Y_add (k := .i64) (a := (i : Int)) (b := 1) rfl (hf.get 13 3 rfl) rfl) ?_
        refine sq 13 rfl rfl (Y_move (v := .int .i64 (IntKind.i64.wrap ((i : Int) + 1))) rfl rfl) ?_
        refine rw_nil ?_
        obtain rfl := some_inj hF5
        exact ⟨k_1, Nat.lt_succ_self _, i + 1, (FF.cons (hf.get 0 0 rfl) (FF.cons (hf.get 1 1 rfl) (FF.cons (hf.get 12 2 rfl) (FF.cons (congrArg (Value.int .i64) (wr_succ hlt1 hN)) FF.nil)))), (hS2.sel [] rfl rfl), (by omega), hL1⟩
    · skip
      obtain rfl : k_ = 0 := by have h := of_decide_eq_false hlt; omega
      refine cw_exit rfl ?_
      obtain rfl := some_inj hL
      refine cw_seq ?_
      refine cw_region ?_
      refine sq 4 rfl rfl (Y_assign (v := .bool true) rfl rfl) ?_
      refine rw_nil ?_
      refine cw_ret ?_
      obtain rfl := some_inj hF3
      exact ret1 Try.results39 (v1 := .bool true) (resAt_tmp rfl) ⟨rfl, (ST.subR (R' := []) (hS1.sel [] rfl rfl) (fun _ h => by cases h))⟩

theorem c_laws_FnEqualPhases (code : List Int) (more : List Int) (B : Option Addr) (c n : Nat) (B1 : Option Addr) (c1 n1 : Nat) (w0 : World) (hn : code.length = n) (hn1 : more.length = n1) (hS : ST w0 [] w0 [] [⟨B, (code.flatMap enc_u8)⟩, ⟨B1, (more.flatMap enc_u8)⟩]) {r_ : Bool} (hF : F_laws_FnEqualPhases code more = some r_) :
    CV Try.prog 6 #[.slice B n c, .slice B1 n1 c1] w0 (fun v w' => v = .bool r_ ∧ ST w0 [] w' [] []) := by
  subst hn
  subst hn1
  unfold F_laws_FnEqualPhases at hF
  refine cv_of_cw 114 Try.func6 rfl Try.ntmps6 rfl ?_
  refine cw_seq ?_
  refine cw_region ?_
  refine sq 4 rfl rfl (Y_assign (v := .bool false) rfl rfl) ?_
  refine rw_nil ?_
  refine cw_seq ?_
  refine cw_seq ?_
  refine cw_region ?_
  refine sq 22 rfl rfl (Y_move (v := .slice B code.length c) rfl rfl) ?_
  refine sq 23 rfl rfl (Y_len (B := B) (m := code.length) (c := c) k_sl_34_5 rfl rfl) ?_
  refine sq 24 rfl rfl (Y_move (v := .slice B1 more.length c1) rfl rfl) ?_
  refine sq 25 rfl rfl (Y_len (B := B1) (m := more.length) (c := c1) k_sl_34_5 rfl rfl) ?_
  refine sq 26 rfl rfl (Y_add (k := .i64) (a := (code.length : Int)) (b := (more.length : Int)) rfl rfl rfl) ?_
  refine sq 27 rfl rfl (Y_gt (k := .i64) (a := (IntKind.i64.wrap ((code.length : Int) + (more.length : Int)))) (b := 1048576) rfl rfl rfl) ?_
  refine rw_nil ?_
  refine cw_cond (b := (decide (1048576 < (IntKind.i64.wrap ((code.length : Int) + (more.length : Int)))))) rfl (fun hb => ?_) (fun hb => ?_)
  · skip
    have hF1 := ct hF hb
    refine cw_seq ?_
    refine cw_region ?_
    refine sq 4 rfl rfl (Y_assign (v := .bool true) rfl rfl) ?_
    refine rw_nil ?_
    refine cw_ret ?_
    obtain rfl := some_inj hF1
    exact ret1 Try.results6 (v1 := .bool true) (resAt_tmp rfl) ⟨rfl, (ST.subR (R' := []) (hS.sel [] rfl rfl) (fun _ h => by cases h))⟩
  · skip
    have hF2 := cf' hF hb
    refine cw_skip ?_
    refine cw_seq ?_
    refine cw_region ?_
    refine sq 29 rfl rfl (Y_move (v := .slice B code.length c) rfl rfl) ?_
    obtain ⟨⟨r_1, r_2⟩, hc, hF2⟩ := bind_inv hF2
    refine sc 30 rfl rfl (Yc_func (g := 33) (vs := [.slice B code.length c]) k_call_33 rfl (mc rfl mn) (c_spec_DrawEqualPhases code B c code.length _ rfl (hS.inn0 [(true, 0)] rfl) hc)) ?_
    rintro _ w_ ⟨B2, c2, B3, c3, B4, c4, B5, c5, rfl, hq, ho, hd⟩
    have hS1 := ST.outR0 hS hd ho (subc (mem_at (i := 0) rfl) (fun _ h => by cases h))
    have ho1 : Org w0 [] [⟨B, (code.flatMap enc_u8)⟩, ⟨B1, (more.flatMap enc_u8)⟩] [⟨B5, (r_2.Out.Rows.flatMap encI)⟩] := org_trans0 hS ho (org_cons (org_mem (i := 0) rfl) org_nil)
    have hS2 : ST w0 [] _ [⟨B2, 104, (r_1.Terms.flatMap enc_Term), c2 * 2⟩, ⟨B3, 3, (r_1.Out.Rows.flatMap encI), c3 * 1⟩, ⟨B4, 104, (r_2.Terms.flatMap enc_Term), c4 * 2⟩] [⟨B5, (r_2.Out.Rows.flatMap encI)⟩, ⟨B, (code.flatMap enc_u8)⟩, ⟨B1, (more.flatMap enc_u8)⟩] := hS1
    have hS2 : ST w0 [] _ [⟨B2, 104, (r_1.Terms.flatMap enc_Term), c2 * 2⟩, ⟨B3, 3, (r_1.Out.Rows.flatMap encI), c3 * 1⟩, ⟨B4, 104, (r_2.Terms.flatMap enc_Term), c4 * 2⟩] [⟨B5, (r_2.Out.Rows.flatMap encI)⟩, ⟨B, (code.flatMap enc_u8)⟩, ⟨B1, (more.flatMap enc_u8)⟩] := hS2
    refine sq 28 rfl rfl (Y_move (v := .tuple #[.agg #[.int .i64 r_1.Qubits, .int .i64 r_1.Phase, .slice B2 r_1.Terms.length c2, .slice B3 r_1.Out.Rows.length c3], .agg #[.int .i64 r_2.Qubits, .int .i64 r_2.Phase, .slice B4 r_2.Terms.length c4, .slice B5 r_2.Out.Rows.length c5]]) rfl rfl) ?_
    refine sq 31 rfl rfl (Y_extract (v := .agg #[.int .i64 r_1.Qubits, .int .i64 r_1.Phase, .slice B2 r_1.Terms.length c2, .slice B3 r_1.Out.Rows.length c3]) rfl rfl rfl) ?_
    refine sq 32 rfl rfl (Y_extract (v := .agg #[.int .i64 r_2.Qubits, .int .i64 r_2.Phase, .slice B4 r_2.Terms.length c4, .slice B5 r_2.Out.Rows.length c5]) rfl rfl rfl) ?_
    refine ss 5 rfl rfl (Ys_alloc (T := 52) (cs := [.int .i64 0, .int .i64 0, .slice none 0 0, .slice none 0 0]) (m := 4) hS2 k_zero_52 rfl rfl rfl) ?_
    rintro _ w_1 ⟨b, rfl, hS3⟩
    have hS3 : ST w0 [] _ [⟨B2, 104, (r_1.Terms.flatMap enc_Term), c2 * 2⟩, ⟨B3, 3, (r_1.Out.Rows.flatMap encI), c3 * 1⟩, ⟨B4, 104, (r_2.Terms.flatMap enc_Term), c4 * 2⟩, ⟨some ⟨b, 0, none⟩, 52, [.int .i64 0, .int .i64 0, .slice none 0 0, .slice none 0 0], 4⟩] [⟨B5, (r_2.Out.Rows.flatMap encI)⟩, ⟨B, (code.flatMap enc_u8)⟩, ⟨B1, (more.flatMap enc_u8)⟩] := hS3
    refine ss 6 rfl rfl (Ys_alloc (T := 52) (cs := [.int .i64 0, .int .i64 0, .slice none 0 0, .slice none 0 0]) (m := 4) hS3 k_zero_52 rfl rfl rfl) ?_
    rintro _ w_2 ⟨b1, rfl, hS4⟩
    have hS4 : ST w0 [] _ [⟨B2, 104, (r_1.Terms.flatMap enc_Term), c2 * 2⟩, ⟨B3, 3, (r_1.Out.Rows.flatMap encI), c3 * 1⟩, ⟨B4, 104, (r_2.Terms.flatMap enc_Term), c4 * 2⟩, ⟨some ⟨b, 0, none⟩, 52, [.int .i64 0, .int .i64 0, .slice none 0 0, .slice none 0 0], 4⟩, ⟨some ⟨b1, 0, none⟩, 52, [.int .i64 0, .int .i64 0, .slice none 0 0, .slice none 0 0], 4⟩] [⟨B5, (r_2.Out.Rows.flatMap encI)⟩, ⟨B, (code.flatMap enc_u8)⟩, ⟨B1, (more.flatMap enc_u8)⟩] := hS4
    refine ss0 rfl rfl (Ys_store (i := 3) (s := 4) (B := some ⟨b, 0, none⟩) (T' := 52) (v := .agg #[.int .i64 r_1.Qubits, .int .i64 r_1.Phase, .slice B2 r_1.Terms.length c2, .slice B3 r_1.Out.Rows.length c3]) (vs := [.int .i64 r_1.Qubits, .int .i64 r_1.Phase, .slice B2 r_1.Terms.length c2, .slice B3 r_1.Out.Rows.length c3]) (k := 0) (cs' := [.int .i64 r_1.Qubits, .int .i64 r_1.Phase, .slice B2 r_1.Terms.length c2, .slice B3 r_1.Out.Rows.length c3]) hS4 k_sz_52_4 rfl rfl rfl rfl rfl rfl rfl (Nat.le_of_ble_eq_true rfl) rfl rfl) ?_
    rintro _ w_3 ⟨rfl, hS5⟩
    have hS5 : ST w0 [] _ [⟨B2, 104, (r_1.Terms.flatMap enc_Term), c2 * 2⟩, ⟨B3, 3, (r_1.Out.Rows.flatMap encI), c3 * 1⟩, ⟨B4, 104, (r_2.Terms.flatMap enc_Term), c4 * 2⟩, ⟨some ⟨b, 0, none⟩, 52, [.int .i64 r_1.Qubits, .int .i64 r_1.Phase, .slice B2 r_1.Terms.length c2, .slice B3 r_1.Out.Rows.length c3], 4⟩, ⟨some ⟨b1, 0, none⟩, 52, [.int .i64 0, .int .i64 0, .slice none 0 0, .slice none 0 0], 4⟩] [⟨B5, (r_2.Out.Rows.flatMap encI)⟩, ⟨B, (code.flatMap enc_u8)⟩, ⟨B1, (more.flatMap enc_u8)⟩] := hS5
    refine ss0 rfl rfl (Ys_store (i := 4) (s := 4) (B := some ⟨b1, 0, none⟩) (T' := 52) (v := .agg #[.int .i64 r_2.Qubits, .int .i64 r_2.Phase, .slice B4 r_2.Terms.length c4, .slice B5 r_2.Out.Rows.length c5]) (vs := [.int .i64 r_2.Qubits, .int .i64 r_2.Phase, .slice B4 r_2.Terms.length c4, .slice B5 r_2.Out.Rows.length c5]) (k := 0) (cs' := [.int .i64 r_2.Qubits, .int .i64 r_2.Phase, .slice B4 r_2.Terms.length c4, .slice B5 r_2.Out.Rows.length c5]) hS5 k_sz_52_4 rfl rfl rfl rfl rfl rfl rfl (Nat.le_of_ble_eq_true rfl) rfl rfl) ?_
    rintro _ w_4 ⟨rfl, hS6⟩
    have hS6 : ST w0 [] _ [⟨B2, 104, (r_1.Terms.flatMap enc_Term), c2 * 2⟩, ⟨B3, 3, (r_1.Out.Rows.flatMap encI), c3 * 1⟩, ⟨B4, 104, (r_2.Terms.flatMap enc_Term), c4 * 2⟩, ⟨some ⟨b, 0, none⟩, 52, [.int .i64 r_1.Qubits, .int .i64 r_1.Phase, .slice B2 r_1.Terms.length c2, .slice B3 r_1.Out.Rows.length c3], 4⟩, ⟨some ⟨b1, 0, none⟩, 52, [.int .i64 r_2.Qubits, .int .i64 r_2.Phase, .slice B4 r_2.Terms.length c4, .slice B5 r_2.Out.Rows.length c5], 4⟩] [⟨B5, (r_2.Out.Rows.flatMap encI)⟩, ⟨B, (code.flatMap enc_u8)⟩, ⟨B1, (more.flatMap enc_u8)⟩] := hS6
    refine rw_nil ?_
    refine cw_seq ?_
    refine cw_region ?_
    refine sq 34 rfl rfl (Y_loadA (B := some ⟨b, 0, none⟩) (i := 0) (cs := [.int .i64 r_1.Qubits, .int .i64 r_1.Phase, .slice B2 r_1.Terms.length c2, .slice B3 r_1.Out.Rows.length c3]) (vs := [.int .i64 r_1.Qubits, .int .i64 r_1.Phase, .slice B2 r_1.Terms.length c2, .slice B3 r_1.Out.Rows.length c3]) k_ag_52 k_sz_52_4 rfl rfl (hS6.cf (i := 3) rfl) rfl rfl) ?_
    refine sq 35 rfl rfl (Y_loadA (B := some ⟨b1, 0, none⟩) (i := 0) (cs := [.int .i64 r_2.Qubits, .int .i64 r_2.Phase, .slice B4 r_2.Terms.length c4, .slice B5 r_2.Out.Rows.length c5]) (vs := [.int .i64 r_2.Qubits, .int .i64 r_2.Phase, .slice B4 r_2.Terms.length c4, .slice B5 r_2.Out.Rows.length c5]) k_ag_52 k_sz_52_4 rfl rfl (hS6.cf (i := 4) rfl) rfl rfl) ?_
    obtain ⟨⟨r_3, r_4⟩, hc1, hF2⟩ := bind_inv hF2
    refine sc 36 rfl rfl (Yc_func (g := 34) (vs := [.agg #[.int .i64 r_1.Qubits, .int .i64 r_1.Phase, .slice B2 r_1.Terms.length c2, .slice B3 r_1.Out.Rows.length c3], .agg #[.int .i64 r_2.Qubits, .int .i64 r_2.Phase, .slice B4 r_2.Terms.length c4, .slice B5 r_2.Out.Rows.length c5]]) k_call_34 rfl (mc rfl (mc rfl mn)) (c_impl_EqualPhases r_1 r_2 B2 c2 r_1.Terms.length B3 c3 r_1.Out.Rows.length B4 c4 r_2.Terms.length B5 c5 r_2.Out.Rows.length _ rfl rfl rfl rfl (hS6.inn0 [(false, 0), (false, 1), (false, 2), (true, 0)] rfl) hc1)) ?_
    rintro _ w_5 ⟨rfl, hd1⟩
    have hS7 := hS6.out00 hd1
    have hS7 : ST w0 [] _ [⟨B2, 104, (r_1.Terms.flatMap enc_Term), c2 * 2⟩, ⟨B3, 3, (r_1.Out.Rows.flatMap encI), c3 * 1⟩, ⟨B4, 104, (r_2.Terms.flatMap enc_Term), c4 * 2⟩, ⟨some ⟨b, 0, none⟩, 52, [.int .i64 r_1.Qubits, .int .i64 r_1.Phase, .slice B2 r_1.Terms.length c2, .slice B3 r_1.Out.Rows.length c3], 4⟩, ⟨some ⟨b1, 0, none⟩, 52, [.int .i64 r_2.Qubits, .int .i64 r_2.Phase, .slice B4 r_2.Terms.length c4, .slice B5 r_2.Out.Rows.length c5], 4⟩] [⟨B5, (r_2.Out.Rows.flatMap encI)⟩, ⟨B, (code.flatMap enc_u8)⟩, ⟨B1, (more.flatMap enc_u8)⟩] := hS7
    refine sq 33 rfl rfl (Y_move (v := .tuple #[.bool r_3, .bool r_4]) rfl rfl) ?_
    refine sq 37 rfl rfl (Y_extract (v := .bool r_3) rfl rfl rfl) ?_
    refine sq 38 rfl rfl (Y_extract (v := .bool r_4) rfl rfl rfl) ?_
    refine sq 7 rfl rfl (Y_assign (v := .bool r_3) rfl rfl) ?_
    refine sq 8 rfl rfl (Y_assign (v := .bool r_4) rfl rfl) ?_
    refine rw_nil ?_
    refine cw_seq ?_
    refine cw_region ?_
    refine sq 40 rfl rfl (Y_loadA (B := some ⟨b, 0, none⟩) (i := 0) (cs := [.int .i64 r_1.Qubits, .int .i64 r_1.Phase, .slice B2 r_1.Terms.length c2, .slice B3 r_1.Out.Rows.length c3]) (vs := [.int .i64 r_1.Qubits, .int .i64 r_1.Phase, .slice B2 r_1.Terms.length c2, .slice B3 r_1.Out.Rows.length c3]) k_ag_52 k_sz_52_4 rfl rfl (hS7.cf (i := 3) rfl) rfl rfl) ?_
    refine sq 41 rfl rfl (Y_loadA (B := some ⟨b1, 0, none⟩) (i := 0) (cs := [.int .i64 r_2.Qubits, .int .i64 r_2.Phase, .slice B4 r_2.Terms.length c4, .slice B5 r_2.Out.Rows.length c5]) (vs := [.int .i64 r_2.Qubits, .int .i64 r_2.Phase, .slice B4 r_2.Terms.length c4, .slice B5 r_2.Out.Rows.length c5]) k_ag_52 k_sz_52_4 rfl rfl (hS7.cf (i := 4) rfl) rfl rfl) ?_
    obtain ⟨⟨r_5, r_6⟩, hc2, hF2⟩ := bind_inv hF2
    refine sc 42 rfl rfl (Yc_func (g := 35) (vs := [.agg #[.int .i64 r_1.Qubits, .int .i64 r_1.Phase, .slice B2 r_1.Terms.length c2, .slice B3 r_1.Out.Rows.length c3], .agg #[.int .i64 r_2.Qubits, .int .i64 r_2.Phase, .slice B4 r_2.Terms.length c4, .slice B5 r_2.Out.Rows.length c5]]) k_call_35 rfl (mc rfl (mc rfl mn)) (c_spec_EqualPhases r_1 r_2 B2 c2 r_1.Terms.length B3 c3 r_1.Out.Rows.length B4 c4 r_2.Terms.length B5 c5 r_2.Out.Rows.length _ rfl rfl rfl rfl (hS7.inn0 [(false, 0), (false, 1), (false, 2), (true, 0)] rfl) hc2)) ?_
    rintro _ w_6 ⟨rfl, hd2⟩
    have hS8 := hS7.out00 hd2
    have hS8 : ST w0 [] _ [⟨B2, 104, (r_1.Terms.flatMap enc_Term), c2 * 2⟩, ⟨B3, 3, (r_1.Out.Rows.flatMap encI), c3 * 1⟩, ⟨B4, 104, (r_2.Terms.flatMap enc_Term), c4 * 2⟩, ⟨some ⟨b, 0, none⟩, 52, [.int .i64 r_1.Qubits, .int .i64 r_1.Phase, .slice B2 r_1.Terms.length c2, .slice B3 r_1.Out.Rows.length c3], 4⟩, ⟨some ⟨b1, 0, none⟩, 52, [.int .i64 r_2.Qubits, .int .i64 r_2.Phase, .slice B4 r_2.Terms.length c4, .slice B5 r_2.Out.Rows.length c5], 4⟩] [⟨B5, (r_2.Out.Rows.flatMap encI)⟩, ⟨B, (code.flatMap enc_u8)⟩, ⟨B1, (more.flatMap enc_u8)⟩] := hS8
    refine sq 39 rfl rfl (Y_move (v := .tuple #[.bool r_5, .bool r_6]) rfl rfl) ?_
    refine sq 43 rfl rfl (Y_extract (v := .bool r_5) rfl rfl rfl) ?_
    refine sq 44 rfl rfl (Y_extract (v := .bool r_6) rfl rfl rfl) ?_
    refine sq 9 rfl rfl (Y_assign (v := .bool r_5) rfl rfl) ?_
    refine sq 10 rfl rfl (Y_assign (v := .bool r_6) rfl rfl) ?_
    refine rw_nil ?_
    refine cw_seq ?_
    refine cw_region ?_
    refine sq 45 rfl rfl (Y_move (v := .slice B1 more.length c1) rfl rfl) ?_
    obtain ⟨r_7, hc3, hF2⟩ := bind_inv hF2
    refine sc 46 rfl rfl (Yc_func (g := 36) (vs := [.slice B1 more.length c1]) k_call_36 rfl (mc rfl mn) (c_spec_DrawMonomialsOf more B1 c1 more.length _ rfl (hS8.inn0 [(true, 2)] rfl) hc3)) ?_
    rintro _ w_7 ⟨B6, c6, B7, c7, rfl, hq1, ho2, hd3⟩
    have hS9 := ST.outR0 hS8 hd3 ho2 (subc (mem_at (i := 2) rfl) (fun _ h => by cases h))
    have ho3 : Org w0 [] [⟨B, (code.flatMap enc_u8)⟩, ⟨B1, (more.flatMap enc_u8)⟩] [⟨B7, (r_7.Out.Rows.flatMap encI)⟩] := org_trans0 hS8 ho2 (org_cons (org_mem (i := 1) rfl) org_nil)
    have hS10 : ST w0 [] _ [⟨B2, 104, (r_1.Terms.flatMap enc_Term), c2 * 2⟩, ⟨B3, 3, (r_1.Out.Rows.flatMap encI), c3 * 1⟩, ⟨B4, 104, (r_2.Terms.flatMap enc_Term), c4 * 2⟩, ⟨some ⟨b, 0, none⟩, 52, [.int .i64 r_1.Qubits, .int .i64 r_1.Phase, .slice B2 r_1.Terms.length c2, .slice B3 r_1.Out.Rows.length c3], 4⟩, ⟨some ⟨b1, 0, none⟩, 52, [.int .i64 r_2.Qubits, .int .i64 r_2.Phase, .slice B4 r_2.Terms.length c4, .slice B5 r_2.Out.Rows.length c5], 4⟩, ⟨B6, 104, (r_7.Terms.flatMap enc_Term), c6 * 2⟩] [⟨B7, (r_7.Out.Rows.flatMap encI)⟩, ⟨B5, (r_2.Out.Rows.flatMap encI)⟩, ⟨B, (code.flatMap enc_u8)⟩, ⟨B1, (more.flatMap enc_u8)⟩] := hS9
    have hS10 : ST w0 [] _ [⟨B2, 104, (r_1.Terms.flatMap enc_Term), c2 * 2⟩, ⟨B3, 3, (r_1.Out.Rows.flatMap encI), c3 * 1⟩, ⟨B4, 104, (r_2.Terms.flatMap enc_Term), c4 * 2⟩, ⟨some ⟨b, 0, none⟩, 52, [.int .i64 r_1.Qubits, .int .i64 r_1.Phase, .slice B2 r_1.Terms.length c2, .slice B3 r_1.Out.Rows.length c3], 4⟩, ⟨some ⟨b1, 0, none⟩, 52, [.int .i64 r_2.Qubits, .int .i64 r_2.Phase, .slice B4 r_2.Terms.length c4, .slice B5 r_2.Out.Rows.length c5], 4⟩, ⟨B6, 104, (r_7.Terms.flatMap enc_Term), c6 * 2⟩] [⟨B7, (r_7.Out.Rows.flatMap encI)⟩, ⟨B5, (r_2.Out.Rows.flatMap encI)⟩, ⟨B, (code.flatMap enc_u8)⟩, ⟨B1, (more.flatMap enc_u8)⟩] := hS10
    refine ss 11 rfl rfl (Ys_alloc (T := 52) (cs := [.int .i64 0, .int .i64 0, .slice none 0 0, .slice none 0 0]) (m := 4) hS10 k_zero_52 rfl rfl rfl) ?_
    rintro _ w_8 ⟨b2, rfl, hS11⟩
    have hS11 : ST w0 [] _ [⟨B2, 104, (r_1.Terms.flatMap enc_Term), c2 * 2⟩, ⟨B3, 3, (r_1.Out.Rows.flatMap encI), c3 * 1⟩, ⟨B4, 104, (r_2.Terms.flatMap enc_Term), c4 * 2⟩, ⟨some ⟨b, 0, none⟩, 52, [.int .i64 r_1.Qubits, .int .i64 r_1.Phase, .slice B2 r_1.Terms.length c2, .slice B3 r_1.Out.Rows.length c3], 4⟩, ⟨some ⟨b1, 0, none⟩, 52, [.int .i64 r_2.Qubits, .int .i64 r_2.Phase, .slice B4 r_2.Terms.length c4, .slice B5 r_2.Out.Rows.length c5], 4⟩, ⟨B6, 104, (r_7.Terms.flatMap enc_Term), c6 * 2⟩, ⟨some ⟨b2, 0, none⟩, 52, [.int .i64 0, .int .i64 0, .slice none 0 0, .slice none 0 0], 4⟩] [⟨B7, (r_7.Out.Rows.flatMap encI)⟩, ⟨B5, (r_2.Out.Rows.flatMap encI)⟩, ⟨B, (code.flatMap enc_u8)⟩, ⟨B1, (more.flatMap enc_u8)⟩] := hS11
    refine ss0 rfl rfl (Ys_store (i := 6) (s := 4) (B := some ⟨b2, 0, none⟩) (T' := 52) (v := .agg #[.int .i64 r_7.Qubits, .int .i64 r_7.Phase, .slice B6 r_7.Terms.length c6, .slice B7 r_7.Out.Rows.length c7]) (vs := [.int .i64 r_7.Qubits, .int .i64 r_7.Phase, .slice B6 r_7.Terms.length c6, .slice B7 r_7.Out.Rows.length c7]) (k := 0) (cs' := [.int .i64 r_7.Qubits, .int .i64 r_7.Phase, .slice B6 r_7.Terms.length c6, .slice B7 r_7.Out.Rows.length c7]) hS11 k_sz_52_4 rfl rfl rfl rfl rfl rfl rfl (Nat.le_of_ble_eq_true rfl) rfl rfl) ?_
    rintro _ w_9 ⟨rfl, hS12⟩
    have hS12 : ST w0 [] _ [⟨B2, 104, (r_1.Terms.flatMap enc_Term), c2 * 2⟩, ⟨B3, 3, (r_1.Out.Rows.flatMap encI), c3 * 1⟩, ⟨B4, 104, (r_2.Terms.flatMap enc_Term), c4 * 2⟩, ⟨some ⟨b, 0, none⟩, 52, [.int .i64 r_1.Qubits, .int .i64 r_1.Phase, .slice B2 r_1.Terms.length c2, .slice B3 r_1.Out.Rows.length c3], 4⟩, ⟨some ⟨b1, 0, none⟩, 52, [.int .i64 r_2.Qubits, .int .i64 r_2.Phase, .slice B4 r_2.Terms.length c4, .slice B5 r_2.Out.Rows.length c5], 4⟩, ⟨B6, 104, (r_7.Terms.flatMap enc_Term), c6 * 2⟩, ⟨some ⟨b2, 0, none⟩, 52, [.int .i64 r_7.Qubits, .int .i64 r_7.Phase, .slice B6 r_7.Terms.length c6, .slice B7 r_7.Out.Rows.length c7], 4⟩] [⟨B7, (r_7.Out.Rows.flatMap encI)⟩, ⟨B5, (r_2.Out.Rows.flatMap encI)⟩, ⟨B, (code.flatMap enc_u8)⟩, ⟨B1, (more.flatMap enc_u8)⟩] := hS12
    refine rw_nil ?_
    refine cw_seq ?_
    refine cw_region ?_
    refine sq 48 rfl rfl (Y_loadA (B := some ⟨b2, 0, none⟩) (i := 0) (cs := [.int .i64 r_7.Qubits, .int .i64 r_7.Phase, .slice B6 r_7.Terms.length c6, .slice B7 r_7.Out.Rows.length c7]) (vs := [.int .i64 r_7.Qubits, .int .i64 r_7.Phase, .slice B6 r_7.Terms.length c6, .slice B7 r_7.Out.Rows.length c7]) k_ag_52 k_sz_52_4 rfl rfl (hS12.cf (i := 6) rfl) rfl rfl) ?_
    obtain ⟨⟨r_8, r_9⟩, hc4, hF2⟩ := bind_inv hF2
    refine sc 49 rfl rfl (Yc_func (g := 37) (vs := [.agg #[.int .i64 r_7.Qubits, .int .i64 r_7.Phase, .slice B6 r_7.Terms.length c6, .slice B7 r_7.Out.Rows.length c7]]) k_call_37 rfl (mc rfl mn) (c_impl_MonomialsOf r_7 B6 c6 r_7.Terms.length B7 c7 r_7.Out.Rows.length _ rfl rfl (hS12.inn0 [(false, 5), (true, 0)] rfl) hc4)) ?_
    rintro _ w_10 ⟨B8, c8, rfl, hd4⟩
    have hS13 := hS12.out0 hd4
    have hS13 : ST w0 [] _ [⟨B2, 104, (r_1.Terms.flatMap enc_Term), c2 * 2⟩, ⟨B3, 3, (r_1.Out.Rows.flatMap encI), c3 * 1⟩, ⟨B4, 104, (r_2.Terms.flatMap enc_Term), c4 * 2⟩, ⟨some ⟨b, 0, none⟩, 52, [.int .i64 r_1.Qubits, .int .i64 r_1.Phase, .slice B2 r_1.Terms.length c2, .slice B3 r_1.Out.Rows.length c3], 4⟩, ⟨some ⟨b1, 0, none⟩, 52, [.int .i64 r_2.Qubits, .int .i64 r_2.Phase, .slice B4 r_2.Terms.length c4, .slice B5 r_2.Out.Rows.length c5], 4⟩, ⟨B6, 104, (r_7.Terms.flatMap enc_Term), c6 * 2⟩, ⟨some ⟨b2, 0, none⟩, 52, [.int .i64 r_7.Qubits, .int .i64 r_7.Phase, .slice B6 r_7.Terms.length c6, .slice B7 r_7.Out.Rows.length c7], 4⟩, ⟨B8, 104, (r_8.flatMap enc_Term), c8 * 2⟩] [⟨B7, (r_7.Out.Rows.flatMap encI)⟩, ⟨B5, (r_2.Out.Rows.flatMap encI)⟩, ⟨B, (code.flatMap enc_u8)⟩, ⟨B1, (more.flatMap enc_u8)⟩] := hS13
    refine sq 47 rfl rfl (Y_move (v := .tuple #[.slice B8 r_8.length c8, .bool r_9]) rfl rfl) ?_
    refine sq 50 rfl rfl (Y_extract (v := .slice B8 r_8.length c8) rfl rfl rfl) ?_
    refine sq 51 rfl rfl (Y_extract (v := .bool r_9) rfl rfl rfl) ?_
    refine sq 12 rfl rfl (Y_assign (v := .slice B8 r_8.length c8) rfl rfl) ?_
    refine sq 13 rfl rfl (Y_assign (v := .bool r_9) rfl rfl) ?_
    refine rw_nil ?_
    refine cw_seq ?_
    refine cw_region ?_
    refine sq 53 rfl rfl (Y_loadA (B := some ⟨b2, 0, none⟩) (i := 0) (cs := [.int .i64 r_7.Qubits, .int .i64 r_7.Phase, .slice B6 r_7.Terms.length c6, .slice B7 r_7.Out.Rows.length c7]) (vs := [.int .i64 r_7.Qubits, .int .i64 r_7.Phase, .slice B6 r_7.Terms.length c6, .slice B7 r_7.Out.Rows.length c7]) k_ag_52 k_sz_52_4 rfl rfl (hS13.cf (i := 6) rfl) rfl rfl) ?_
    obtain ⟨⟨r_10, r_11⟩, hc5, hF2⟩ := bind_inv hF2
    refine sc 54 rfl rfl (Yc_func (g := 38) (vs := [.agg #[.int .i64 r_7.Qubits, .int .i64 r_7.Phase, .slice B6 r_7.Terms.length c6, .slice B7 r_7.Out.Rows.length c7]]) k_call_38 rfl (mc rfl mn) (c_spec_MonomialsOf r_7 B6 c6 r_7.Terms.length B7 c7 r_7.Out.Rows.length _ rfl rfl (hS13.inn0 [(false, 5), (true, 0)] rfl) hc5)) ?_
    rintro _ w_11 ⟨B9, c9, rfl, hd5⟩
    have hS14 := hS13.out0 hd5
    have hS14 : ST w0 [] _ [⟨B2, 104, (r_1.Terms.flatMap enc_Term), c2 * 2⟩, ⟨B3, 3, (r_1.Out.Rows.flatMap encI), c3 * 1⟩, ⟨B4, 104, (r_2.Terms.flatMap enc_Term), c4 * 2⟩, ⟨some ⟨b, 0, none⟩, 52, [.int .i64 r_1.Qubits, .int .i64 r_1.Phase, .slice B2 r_1.Terms.length c2, .slice B3 r_1.Out.Rows.length c3], 4⟩, ⟨some ⟨b1, 0, none⟩, 52, [.int .i64 r_2.Qubits, .int .i64 r_2.Phase, .slice B4 r_2.Terms.length c4, .slice B5 r_2.Out.Rows.length c5], 4⟩, ⟨B6, 104, (r_7.Terms.flatMap enc_Term), c6 * 2⟩, ⟨some ⟨b2, 0, none⟩, 52, [.int .i64 r_7.Qubits, .int .i64 r_7.Phase, .slice B6 r_7.Terms.length c6, .slice B7 r_7.Out.Rows.length c7], 4⟩, ⟨B8, 104, (r_8.flatMap enc_Term), c8 * 2⟩, ⟨B9, 104, (r_10.flatMap enc_Term), c9 * 2⟩] [⟨B7, (r_7.Out.Rows.flatMap encI)⟩, ⟨B5, (r_2.Out.Rows.flatMap encI)⟩, ⟨B, (code.flatMap enc_u8)⟩, ⟨B1, (more.flatMap enc_u8)⟩] := hS14
    refine sq 52 rfl rfl (Y_move (v := .tuple #[.slice B9 r_10.length c9, .bool r_11]) rfl rfl) ?_
    refine sq 55 rfl rfl (Y_extract (v := .slice B9 r_10.length c9) rfl rfl rfl) ?_
    refine sq 56 rfl rfl (Y_extract (v := .bool r_11) rfl rfl rfl) ?_
    refine sq 14 rfl rfl (Y_assign (v := .slice B9 r_10.length c9) rfl rfl) ?_
    refine sq 15 rfl rfl (Y_assign (v := .bool r_11) rfl rfl) ?_
    refine rw_nil ?_
    refine cw_seq ?_
    refine cw_seq ?_
    refine cw_region ?_
    refine sq 57 rfl rfl (Y_move (v := .bool r_4) rfl rfl) ?_
    refine sq 58 rfl rfl (Y_move (v := .bool r_6) rfl rfl) ?_
    refine sq 59 rfl rfl (Y_bne (p := r_4) (q := r_6) k_und_4 rfl rfl rfl) ?_
    refine sq 60 rfl rfl (Y_move (v := .bool (!(r_4 == r_6))) rfl rfl) ?_
    refine sgq 61 (B := (!(!(r_4 == r_6)))) (v := .bool r_3) rfl rfl (wt_f (gd_of (t := 60) (by kernel_rfl) rfl)) (fun hg => (Y_move (v := .bool r_3) rfl rfl)) ?_
    refine sgq 62 (B := (!(!(r_4 == r_6)))) (v := .bool r_5) rfl rfl (wt_f (gd_of (t := 60) (by kernel_rfl) rfl)) (fun hg1 => (Y_move (v := .bool r_5) rfl rfl)) ?_
    refine sgq 63 (B := (!(!(r_4 == r_6)))) (v := .bool (!(r_3 == r_5))) rfl rfl (wt_f (gd_of (t := 60) (by kernel_rfl) rfl)) (fun hg2 => (Y_bne (p := r_3) (q := r_5) k_und_4 rfl (gv_of (B := (!(!(r_4 == r_6)))) (v := .bool r_3) hg2) (gv_of (B := (!(!(r_4 == r_6)))) (v := .bool r_5) hg2))) ?_
    refine sq 64 rfl rfl (Y_or (b := (!(r_4 == r_6))) (z := (!(r_3 == r_5))) rfl rfl rfl rfl) ?_
    refine sq 65 rfl rfl (Y_move (v := .bool ((!(r_4 == r_6)) || (!(r_3 == r_5)))) rfl rfl) ?_
    refine sgq 66 (B := (!((!(r_4 == r_6)) || (!(r_3 == r_5))))) (v := .bool r_9) rfl rfl (wt_f (gd_of (t := 65) (by kernel_rfl) rfl)) (fun hg3 => (Y_move (v := .bool r_9) rfl rfl)) ?_
    refine sgq 67 (B := (!((!(r_4 == r_6)) || (!(r_3 == r_5))))) (v := .bool r_11) rfl rfl (wt_f (gd_of (t := 65) (by kernel_rfl) rfl)) (fun hg4 => (Y_move (v := .bool r_11) rfl rfl)) ?_
    refine sgq 68 (B := (!((!(r_4 == r_6)) || (!(r_3 == r_5))))) (v := .bool (!(r_9 == r_11))) rfl rfl (wt_f (gd_of (t := 65) (by kernel_rfl) rfl)) (fun hg5 => (Y_bne (p := r_9) (q := r_11) k_und_4 rfl (gv_of (B := (!((!(r_4 == r_6)) || (!(r_3 == r_5))))) (v := .bool r_9) hg5) (gv_of (B := (!((!(r_4 == r_6)) || (!(r_3 == r_5))))) (v := .bool r_11) hg5))) ?_
    refine sq 69 rfl rfl (Y_or (b := ((!(r_4 == r_6)) || (!(r_3 == r_5)))) (z := (!(r_9 == r_11))) rfl rfl rfl rfl) ?_
    refine sq 70 rfl rfl (Y_move (v := .bool (((!(r_4 == r_6)) || (!(r_3 == r_5))) || (!(r_9 == r_11)))) rfl rfl) ?_
    refine sgq 71 (B := (!(((!(r_4 == r_6)) || (!(r_3 == r_5))) || (!(r_9 == r_11))))) (v := .slice B8 r_8.length c8) rfl rfl (wt_f (gd_of (t := 70) (by kernel_rfl) rfl)) (fun hg6 => (Y_move (v := .slice B8 r_8.length c8) rfl rfl)) ?_
    refine sgq 72 (B := (!(((!(r_4 == r_6)) || (!(r_3 == r_5))) || (!(r_9 == r_11))))) (v := .slice B9 r_10.length c9) rfl rfl (wt_f (gd_of (t := 70) (by kernel_rfl) rfl)) (fun hg7 => (Y_move (v := .slice B9 r_10.length c9) rfl rfl)) ?_
    obtain ⟨r_12, hc6, hF2⟩ := bind_inv hF2
    refine sgc 73 (B := (!(((!(r_4 == r_6)) || (!(r_3 == r_5))) || (!(r_9 == r_11))))) (v := .bool r_12) (F := hS14.fn) rfl rfl (wt_f (gd_of (t := 70) (by kernel_rfl) rfl)) hS14 (fun hg8 => (Yc_func (g := 39) (vs := [.slice B8 r_8.length c8, .slice B9 r_10.length c9]) k_call_39 rfl (mc (gv_of (B := (!(((!(r_4 == r_6)) || (!(r_3 == r_5))) || (!(r_9 == r_11))))) (v := .slice B8 r_8.length c8) hg8) (mc (gv_of (B := (!(((!(r_4 == r_6)) || (!(r_3 == r_5))) || (!(r_9 == r_11))))) (v := .slice B9 r_10.length c9) hg8) mn)) (CV.mono (c_laws_qTerms r_8 r_10 B8 c8 r_8.length B9 c9 r_10.length _ rfl rfl (hS14.inn0 [(false, 7), (false, 8)] rfl) (gb_inv hc6 hg8)) (by rintro _ _ ⟨rfl, h⟩; exact ⟨rfl, hS14.out00 h⟩)))) ?_
    rintro w_12 hS15
    have hS15 : ST _ _ w_12 _ _ := hS15
    refine sgq 74 (B := (!(((!(r_4 == r_6)) || (!(r_3 == r_5))) || (!(r_9 == r_11))))) (v := .bool (!r_12)) rfl rfl (wt_f (gd_of (t := 70) (by kernel_rfl) rfl)) (fun hg9 => (Y_not (p := r_12) rfl (gv_of (B := (!(((!(r_4 == r_6)) || (!(r_3 == r_5))) || (!(r_9 == r_11))))) (v := .bool r_12) hg9))) ?_
    refine sq 75 rfl rfl (Y_or (b := (((!(r_4 == r_6)) || (!(r_3 == r_5))) || (!(r_9 == r_11)))) (z := (!r_12)) rfl rfl rfl rfl) ?_
    refine rw_nil ?_
    refine cw_cond (b := ((((!(r_4 == r_6)) || (!(r_3 == r_5))) || (!(r_9 == r_11))) || (!r_12))) rfl (fun hb1 => ?_) (fun hb1 => ?_)
    · skip
      have hF3 := ct hF2 hb1
      refine cw_seq ?_
      refine cw_region ?_
      refine sq 4 rfl rfl (Y_assign (v := .bool false) rfl rfl) ?_
      refine rw_nil ?_
      refine cw_ret ?_
      obtain rfl := some_inj hF3
      exact ret1 Try.results6 (v1 := .bool false) (resAt_tmp rfl) ⟨rfl, (ST.subR (R' := []) (hS15.sel [] rfl rfl) (fun _ h => by cases h))⟩
    · skip
      have hF4 := cf' hF2 hb1
      refine cw_skip ?_
      refine cw_seq ?_
      refine cw_seq ?_
      refine cw_region ?_
      refine sq 76 rfl rfl (Y_move (v := .bool r_4) rfl rfl) ?_
      refine sq 77 rfl rfl (Y_not (p := r_4) rfl rfl) ?_
      refine rw_nil ?_
      refine cw_cond (b := (!r_4)) rfl (fun hb2 => ?_) (fun hb2 => ?_)
      · skip
        have hF5 := ct hF4 hb2
        refine cw_seq ?_
        refine cw_region ?_
        refine sq 4 rfl rfl (Y_assign (v := .bool true) rfl rfl) ?_
        refine rw_nil ?_
        refine cw_ret ?_
        obtain rfl := some_inj hF5
        exact ret1 Try.results6 (v1 := .bool true) (resAt_tmp rfl) ⟨rfl, (ST.subR (R' := []) (hS15.sel [] rfl rfl) (fun _ h => by cases h))⟩
      · skip
        have hF6 := cf' hF4 hb2
        refine cw_skip ?_
        refine cw_seq ?_
        refine cw_region ?_
        refine sq 78 rfl rfl (Y_fieldAddr (B := some ⟨b, 0, none⟩) (i := 0) (s := 0) k_fd_52_3_3_50 k_sz_50_1 rfl rfl) ?_
        refine sq 79 rfl rfl (Y_fieldAddr (B := some ⟨b, 0, none⟩) (i := 3) (s := 0) k_fd_50_0_0_48 k_sz_48_1 rfl rfl) ?_
        refine sq 80 rfl rfl (Y_load1 (B := some ⟨b, 0, none⟩) (i := 3) (cs := [.int .i64 r_1.Qubits, .int .i64 r_1.Phase, .slice B2 r_1.Terms.length c2, .slice B3 r_1.Out.Rows.length c3]) (v := .slice B3 r_1.Out.Rows.length c3) k_sc_48 rfl rfl (hS15.cf (i := 3) rfl) rfl) ?_
        refine sq 81 rfl rfl (Y_fieldAddr (B := some ⟨b1, 0, none⟩) (i := 0) (s := 0) k_fd_52_3_3_50 k_sz_50_1 rfl rfl) ?_
        refine sq 82 rfl rfl (Y_fieldAddr (B := some ⟨b1, 0, none⟩) (i := 3) (s := 0) k_fd_50_0_0_48 k_sz_48_1 rfl rfl) ?_
        refine sq 83 rfl rfl (Y_load1 (B := some ⟨b1, 0, none⟩) (i := 3) (cs := [.int .i64 r_2.Qubits, .int .i64 r_2.Phase, .slice B4 r_2.Terms.length c4, .slice B5 r_2.Out.Rows.length c5]) (v := .slice B5 r_2.Out.Rows.length c5) k_sc_48 rfl rfl (hS15.cf (i := 4) rfl) rfl) ?_
        obtain ⟨r_13, hc7, hF6⟩ := bind_inv hF6
        refine sc 84 rfl rfl (Yc_func (g := 29) (vs := [.slice B3 r_1.Out.Rows.length c3, .slice B5 r_2.Out.Rows.length c5]) k_call_29 rfl (mc rfl (mc rfl mn)) (c_laws_qInts r_1.Out.Rows r_2.Out.Rows B3 c3 r_1.Out.Rows.length B5 c5 r_2.Out.Rows.length _ rfl rfl (hS15.inn0 [(false, 1), (true, 1)] rfl) hc7)) ?_
        rintro _ w_13 ⟨rfl, hd6⟩
        have hS16 := hS15.out00 hd6
        have hS16 : ST w0 [] _ [⟨B2, 104, (r_1.Terms.flatMap enc_Term), c2 * 2⟩, ⟨B3, 3, (r_1.Out.Rows.flatMap encI), c3 * 1⟩, ⟨B4, 104, (r_2.Terms.flatMap enc_Term), c4 * 2⟩, ⟨some ⟨b, 0, none⟩, 52, [.int .i64 r_1.Qubits, .int .i64 r_1.Phase, .slice B2 r_1.Terms.length c2, .slice B3 r_1.Out.Rows.length c3], 4⟩, ⟨some ⟨b1, 0, none⟩, 52, [.int .i64 r_2.Qubits, .int .i64 r_2.Phase, .slice B4 r_2.Terms.length c4, .slice B5 r_2.Out.Rows.length c5], 4⟩, ⟨B6, 104, (r_7.Terms.flatMap enc_Term), c6 * 2⟩, ⟨some ⟨b2, 0, none⟩, 52, [.int .i64 r_7.Qubits, .int .i64 r_7.Phase, .slice B6 r_7.Terms.length c6, .slice B7 r_7.Out.Rows.length c7], 4⟩, ⟨B8, 104, (r_8.flatMap enc_Term), c8 * 2⟩, ⟨B9, 104, (r_10.flatMap enc_Term), c9 * 2⟩] [⟨B7, (r_7.Out.Rows.flatMap encI)⟩, ⟨B5, (r_2.Out.Rows.flatMap encI)⟩, ⟨B, (code.flatMap enc_u8)⟩, ⟨B1, (more.flatMap enc_u8)⟩] := hS16
        refine sq 16 rfl rfl (Y_assign (v := .bool r_13) rfl rfl) ?_
        refine rw_nil ?_
        refine cw_seq ?_
        refine cw_seq ?_
        refine cw_region ?_
        refine sq 17 rfl rfl (Y_assign (v := .int .i64 0) rfl rfl) ?_
        refine rw_nil ?_
        obtain ⟨hN, hF6⟩ := chk_inv hF6
        obtain ⟨z, hz, hF7⟩ := bind_inv hF6
        refine cw_block ?_
        refine cw_loop (fun k f w => ∃ (bits_ : Nat) (same : Bool), FF f [(5, pt (some ⟨b, 0, none⟩) 0), (6, pt (some ⟨b1, 0, none⟩) 0), (7, .bool r_3), (16, .bool same), (17, .int .i64 (bits_ : Int))] ∧ ST w0 [] w [⟨some ⟨b, 0, none⟩, 52, [.int .i64 r_1.Qubits, .int .i64 r_1.Phase, .slice B2 r_1.Terms.length c2, .slice B3 r_1.Out.Rows.length c3], 4⟩, ⟨B2, 104, (r_1.Terms.flatMap enc_Term), c2 * 2⟩, ⟨B3, 3, (r_1.Out.Rows.flatMap encI), c3 * 1⟩, ⟨some ⟨b1, 0, none⟩, 52, [.int .i64 r_2.Qubits, .int .i64 r_2.Phase, .slice B4 r_2.Terms.length c4, .slice B5 r_2.Out.Rows.length c5], 4⟩, ⟨B4, 104, (r_2.Terms.flatMap enc_Term), c4 * 2⟩] [⟨B7, (r_7.Out.Rows.flatMap encI)⟩, ⟨B5, (r_2.Out.Rows.flatMap encI)⟩, ⟨B, (code.flatMap enc_u8)⟩, ⟨B1, (more.flatMap enc_u8)⟩] ∧ bits_ + k = (shlK .i64 1 (IntKind.u64.wrap r_1.Qubits)).toNat ∧ forN (F_laws_FnEqualPhases_l1 r_1 r_2) k bits_ same = some z) ((shlK .i64 1 (IntKind.u64.wrap r_1.Qubits)).toNat) ⟨0, r_13, (FF.cons rfl (FF.cons rfl (FF.cons rfl (FF.cons rfl (FF.cons rfl FF.nil))))), (hS16.sel [3, 0, 1, 4, 2] rfl rfl), Nat.zero_add _, hz⟩ ?_
        rintro k_ f w ⟨bits_, same, hf, hS17, hik, hL⟩
        refine cw_seq ?_
        refine cw_seq ?_
        refine cw_region ?_
        refine sq 85 rfl rfl (Y_move (v := .int .i64 (bits_ : Int)) rfl (hf.get 17 4 rfl)) ?_
        refine sq 86 rfl rfl (Y_fieldAddr (B := some ⟨b, 0, none⟩) (i := 0) (s := 0) k_fd_52_0_0_3 k_sz_3_1 rfl (hf.get 5 0 rfl)) ?_
        refine sq 87 rfl rfl (Y_load1 (B := some ⟨b, 0, none⟩) (i := 0) (cs := [.int .i64 r_1.Qubits, .int .i64 r_1.Phase, .slice B2 r_1.Terms.length c2, .slice B3 r_1.Out.Rows.length c3]) (v := .int .i64 r_1.Qubits) k_sc_3 rfl rfl (hS17.cf (i := 0) rfl) rfl) ?_
        refine sq 88 rfl rfl (Y_conv (k := .i64) (a := r_1.Qubits) (T := 3) (T' := 63) k_us_3 k_int_63_u64 rfl rfl) ?_
        refine sq 89 rfl rfl (Y_shl (k := .i64) (a := 1) (k' := .u64) (b := (IntKind.u64.wrap r_1.Qubits)) rfl rfl rfl (Int.emod_nonneg _ (by decide))) ?_
        refine sq 90 rfl rfl (Y_lt (k := .i64) (a := (bits_ : Int)) (b := (shlK .i64 1 (IntKind.u64.wrap r_1.Qubits))) rfl rfl rfl) ?_
        refine rw_nil ?_
        refine cw_cond (b := (decide ((bits_ : Int) < (shlK .i64 1 (IntKind.u64.wrap r_1.Qubits))))) rfl (fun hlt => ?_) (fun hlt => ?_)
        · skip
          have hlt1 : bits_ < (shlK .i64 1 (IntKind.u64.wrap r_1.Qubits)).toNat := by have h := of_decide_eq_true hlt; omega
          obtain ⟨k_1, rfl⟩ : ∃ k2, k_ = k2 + 1 := ⟨k_ - 1, by omega⟩
          obtain ⟨y, hb3, hL1⟩ := forN_go hL
          unfold F_laws_FnEqualPhases_l1 at hb3
          refine cw_skip ?_
          refine cw_seq ?_
          refine cw_block ?_
          refine cw_seq ?_
          refine cw_region ?_
          refine sq 94 rfl rfl (Y_loadA (B := some ⟨b, 0, none⟩) (i := 0) (cs := [.int .i64 r_1.Qubits, .int .i64 r_1.Phase, .slice B2 r_1.Terms.length c2, .slice B3 r_1.Out.Rows.length c3]) (vs := [.int .i64 r_1.Qubits, .int .i64 r_1.Phase, .slice B2 r_1.Terms.length c2, .slice B3 r_1.Out.Rows.length c3]) k_ag_52 k_sz_52_4 rfl (hf.get 5 0 rfl) (hS17.cf (i := 0) rfl) rfl rfl) ?_
          refine sq 95 rfl rfl (Y_move (v := .int .i64 (bits_ : Int)) rfl (hf.get 17 4 rfl)) ?_
          obtain ⟨⟨r_14, r_15⟩, hc8, hb3⟩ := bind_inv hb3
          refine sc 96 rfl rfl (Yc_func (g := 31) (vs := [.agg #[.int .i64 r_1.Qubits, .int .i64 r_1.Phase, .slice B2 r_1.Terms.length c2, .slice B3 r_1.Out.Rows.length c3], .int .i64 (bits_ : Int)]) k_call_31 rfl (mc rfl (mc rfl mn)) (c_impl_PhaseAt r_1 (bits_ : Int) B2 c2 r_1.Terms.length B3 c3 r_1.Out.Rows.length _ rfl rfl (hS17.inn0 [(false, 1), (false, 2)] rfl) hc8)) ?_
          rintro _ w_14 ⟨rfl, hd7⟩
          have hS18 := hS17.out00 hd7
          have hS18 : ST w0 [] _ [⟨some ⟨b, 0, none⟩, 52, [.int .i64 r_1.Qubits, .int .i64 r_1.Phase, .slice B2 r_1.Terms.length c2, .slice B3 r_1.Out.Rows.length c3], 4⟩, ⟨B2, 104, (r_1.Terms.flatMap enc_Term), c2 * 2⟩, ⟨B3, 3, (r_1.Out.Rows.flatMap encI), c3 * 1⟩, ⟨some ⟨b1, 0, none⟩, 52, [.int .i64 r_2.Qubits, .int .i64 r_2.Phase, .slice B4 r_2.Terms.length c4, .slice B5 r_2.Out.Rows.length c5], 4⟩, ⟨B4, 104, (r_2.Terms.flatMap enc_Term), c4 * 2⟩] [⟨B7, (r_7.Out.Rows.flatMap encI)⟩, ⟨B5, (r_2.Out.Rows.flatMap encI)⟩, ⟨B, (code.flatMap enc_u8)⟩, ⟨B1, (more.flatMap enc_u8)⟩] := hS18
          refine sq 93 rfl rfl (Y_move (v := .tuple #[.int .i64 r_14, .bool r_15]) rfl rfl) ?_
          refine sq 97 rfl rfl (Y_extract (v := .int .i64 r_14) rfl rfl rfl) ?_
          refine sq 98 rfl rfl (Y_extract (v := .bool r_15) rfl rfl rfl) ?_
          refine sq 18 rfl rfl (Y_assign (v := .int .i64 r_14) rfl rfl) ?_
          refine sq 19 rfl rfl (Y_assign (v := .bool r_15) rfl rfl) ?_
          refine rw_nil ?_
          refine cw_seq ?_
          refine cw_region ?_
          refine sq 100 rfl rfl (Y_loadA (B := some ⟨b1, 0, none⟩) (i := 0) (cs := [.int .i64 r_2.Qubits, .int .i64 r_2.Phase, .slice B4 r_2.Terms.length c4, .slice B5 r_2.Out.Rows.length c5]) (vs := [.int .i64 r_2.Qubits, .int .i64 r_2.Phase, .slice B4 r_2.Terms.length c4, .slice B5 r_2.Out.Rows.length c5]) k_ag_52 k_sz_52_4 rfl (hf.get 6 1 rfl) (hS18.cf (i := 3) rfl) rfl rfl) ?_
          refine sq 101 rfl rfl (Y_move (v := .int .i64 (bits_ : Int)) rfl (hf.get 17 4 rfl)) ?_
          obtain ⟨⟨r_16, r_17⟩, hc9, hb3⟩ := bind_inv hb3
          refine sc 102 rfl rfl (Yc_func (g := 31) (vs := [.agg #[.int .i64 r_2.Qubits, .int .i64 r_2.Phase, .slice B4 r_2.Terms.length c4, .slice B5 r_2.Out.Rows.length c5], .int .i64 (bits_ : Int)]) k_call_31 rfl (mc rfl (mc rfl mn)) (c_impl_PhaseAt r_2 (bits_ : Int) B4 c4 r_2.Terms.length B5 c5 r_2.Out.Rows.length _ rfl rfl (hS18.inn0 [(false, 4), (true, 1)] rfl) hc9)) ?_
          rintro _ w_15 ⟨rfl, hd8⟩
          have hS19 := hS18.out00 hd8
          have hS19 : ST w0 [] _ [⟨some ⟨b, 0, none⟩, 52, [.int .i64 r_1.Qubits, .int .i64 r_1.Phase, .slice B2 r_1.Terms.length c2, .slice B3 r_1.Out.Rows.length c3], 4⟩, ⟨B2, 104, (r_1.Terms.flatMap enc_Term), c2 * 2⟩, ⟨B3, 3, (r_1.Out.Rows.flatMap encI), c3 * 1⟩, ⟨some ⟨b1, 0, none⟩, 52, [.int .i64 r_2.Qubits, .int .i64 r_2.Phase, .slice B4 r_2.Terms.length c4, .slice B5 r_2.Out.Rows.length c5], 4⟩, ⟨B4, 104, (r_2.Terms.flatMap enc_Term), c4 * 2⟩] [⟨B7, (r_7.Out.Rows.flatMap encI)⟩, ⟨B5, (r_2.Out.Rows.flatMap encI)⟩, ⟨B, (code.flatMap enc_u8)⟩, ⟨B1, (more.flatMap enc_u8)⟩] := hS19
          refine sq 99 rfl rfl (Y_move (v := .tuple #[.int .i64 r_16, .bool r_17]) rfl rfl) ?_
          refine sq 103 rfl rfl (Y_extract (v := .int .i64 r_16) rfl rfl rfl) ?_
          refine sq 104 rfl rfl (Y_extract (v := .bool r_17) rfl rfl rfl) ?_
          refine sq 20 rfl rfl (Y_assign (v := .int .i64 r_16) rfl rfl) ?_
          refine sq 21 rfl rfl (Y_assign (v := .bool r_17) rfl rfl) ?_
          refine rw_nil ?_
          refine cw_region ?_
          refine sq 105 rfl rfl (Y_move (v := .bool same) rfl (hf.get 16 3 rfl)) ?_
          refine sq 106 rfl rfl (Y_move (v := .bool same) rfl rfl) ?_
          refine sgq 107 (B := same) (v := .int .i64 r_14) rfl rfl (wt_t (gd_of (t := 106) (by kernel_rfl) rfl)) (fun hg10 => (Y_move (v := .int .i64 r_14) rfl rfl)) ?_
          refine sgq 108 (B := same) (v := .int .i64 r_16) rfl rfl (wt_t (gd_of (t := 106) (by kernel_rfl) rfl)) (fun hg11 => (Y_move (v := .int .i64 r_16) rfl rfl)) ?_
          refine sgq 109 (B := same) (v := .bool (r_14 == r_16)) rfl rfl (wt_t (gd_of (t := 106) (by kernel_rfl) rfl)) (fun hg12 => (Y_eq (k := .i64) (a := r_14) (b := r_16) rfl (gv_of (B := same) (v := .int .i64 r_14) hg12) (gv_of (B := same) (v := .int .i64 r_16) hg12))) ?_
          refine sq 110 rfl rfl (Y_and (b := same) (z := (r_14 == r_16)) rfl rfl rfl rfl) ?_
          refine sq 16 rfl rfl (Y_assign (v := .bool (same && (r_14 == r_16))) rfl rfl) ?_
          refine rw_nil ?_
          refine cw_region ?_
          refine sq 91 rfl rfl (Y_move (v := .int .i64 (bits_ : Int)) rfl (hf.get 17 4 rfl)) ?_
          refine sq 92 rfl rfl (Y_add (k := .i64) (a := (bits_ : Int)) (b := 1) rfl rfl rfl) ?_
          refine sq 17 rfl rfl (Y_assign (v := .int .i64 (IntKind.i64.wrap ((bits_ : Int) + 1))) rfl rfl) ?_
          refine rw_nil ?_
          obtain rfl := some_inj hb3
          exact ⟨k_1, Nat.lt_succ_self _, bits_ + 1, (same && (r_14 == r_16)), (FF.cons (hf.get 5 0 rfl) (FF.cons (hf.get 6 1 rfl) (FF.cons (hf.get 7 2 rfl) (FF.cons rfl (FF.cons (congrArg (Value.int .i64) (wr_succ hlt1 hN)) FF.nil))))), (hS19.sel [0, 1, 2, 3, 4] rfl rfl), (by omega), hL1⟩
        · skip
          obtain rfl : k_ = 0 := by have h := of_decide_eq_false hlt; omega
          refine cw_exit rfl ?_
          obtain rfl := some_inj hL
          refine cw_seq ?_
          refine cw_region ?_
          refine sq 111 rfl rfl (Y_move (v := .bool r_3) rfl (hf.get 7 2 rfl)) ?_
          refine sq 112 rfl rfl (Y_move (v := .bool same) rfl (hf.get 16 3 rfl)) ?_
          refine sq 113 rfl rfl (Y_beq (p := r_3) (q := same) k_und_4 rfl rfl rfl) ?_
          refine sq 4 rfl rfl (Y_assign (v := .bool (r_3 == same)) rfl rfl) ?_
          refine rw_nil ?_
          refine cw_ret ?_
          obtain rfl := some_inj hF7
          exact ret1 Try.results6 (v1 := .bool (r_3 == same)) (resAt_tmp rfl) ⟨rfl, (ST.subR (R' := []) (hS17.sel [] rfl rfl) (fun _ h => by cases h))⟩
end Go.VK
