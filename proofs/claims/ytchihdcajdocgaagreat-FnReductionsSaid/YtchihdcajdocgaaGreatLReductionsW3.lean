/- Walks: each Go function returns what its Lean function says. By program. -/
import Derived.Test.YtchihdcajdocgaaGreatLReductionsFa
import Derived.Test.YtchihdcajdocgaaGreatLReductionsShelf
import Derived.Test.YtchihdcajdocgaaGreatLReductionsW2
set_option linter.unusedVariables false
set_option maxRecDepth 100000
set_option maxHeartbeats 4000000
namespace Go.VK
open Go.RowKit
open Go.Proofs
open Go.IntKind
attribute [local irreducible] CW RW RA CV Y Yw Yc Ys RetOf
attribute [local irreducible] F_laws_qTerms F_laws_qInts F_laws_qPoly F_spec_l1Cur_next F_spec_l1Cur_pick F_spec_l1Cur_one F_spec_l13List F_spec_l1Put F_spec_l1Set F_spec_l13Parity F_spec_l15Affine F_spec_l15Codes F_spec_l1Cur_oddWord F_spec_l1Cur_among F_spec_l13By F_spec_l12Identity F_spec_l1Own F_spec_l12CX F_spec_l1Cur_linear F_spec_l1Cur_phasePoly F_spec_l1Cur_reducible F_spec_l1Cur_anyLinear F_spec_l1Cur_anyPhasePoly F_spec_DrawLeastT F_spec_DrawReduceT F_impl_within F_impl_areTerms F_slices_IndexFunc_int_int F_slices_ContainsFunc_int_int F_impl_IsValidLinear_1 F_slices_Clone_int_int F_impl_rankOf_1 F_slices_Delete_int_int F_impl_rankOf F_impl_IsValidLinear F_impl_IsValidPhasePoly F_math_bits_OnesCount64 F_math_bits_OnesCount F_impl_bitsIn F_slices_Sort_int_int F_impl_codeWords F_impl_nearest F_impl_oddWord F_impl_coefficients_add F_impl_coefficients_terms F_slices_Index_int_int F_slices_Contains_int_int F_impl_isWord F_impl_IsCodeWord F_impl_ShiftBy F_impl_ReduceT F_spec_l1In F_spec_l1All F_spec_l12Rank F_spec_l12Valid F_spec_l13Valid F_spec_l15Nearest F_spec_l15Odd F_spec_l15Shift F_spec_ReduceT F_spec_l1Cur_relative F_spec_DrawCheckReduction F_impl_LeastT F_slices_Equal_int_int F_slices_Equal_impl_Term_impl_Term F_impl_equalPolys F_impl_oddTerms F_impl_CheckReduction F_spec_l1Has F_spec_l1Same F_spec_l15SameTerms F_spec_l15Same F_spec_l13Odd F_spec_l15Least F_spec_CheckReduction F_impl_MonomialsOf F_impl_EqualPhases F_impl_OddTerms F_laws_FnReductions
theorem c_spec_l12Rank (rows : List Int) (B : Option Addr) (c n : Nat) (w0 : World) (hn : rows.length = n) (hS : ST w0 [] w0 [] [⟨B, (rows.flatMap encI)⟩]) {r_ : Int} (hF : F_spec_l12Rank rows = some r_) :
  CV Tryz.prog 235 #[.slice B n c] w0 (fun v w' => v = vi r_ ∧ ST w0 [] w' [] []) := by
 subst hn
 unfold F_spec_l12Rank at hF
 refine cv_of_cw 80 Tryz.func235 rfl Tryz.ntmps235 rfl ?_
 refine cw_seq (cw_region ?_)
 refine sQ 2 (Y_assign (v := vi 0) rfl rfl) (rw_nil (cw_seq (cw_region ?_)))
 refine sQ 10 (Y_move (v := .slice B rows.length c) rfl rfl) ?_
 obtain ⟨r_1, hc, hF⟩ := bind_inv hF
 refine sc 11 rfl rfl (Yc_func (g := 177) (vs := [.slice B rows.length c]) k_call_177 rfl (mc rfl mn) (c_spec_l1Own rows B c rows.length _ rfl (hS.inn0 [(true, 0)] rfl) hc)) ?_
 rintro _ w_ ⟨B1, c1, rfl, hd⟩
 have hS1 := hS.out0 hd
 refine sQ 3 (Y_assign (v := .slice B1 r_1.length c1) rfl rfl) (rw_nil (cw_seq (cw_region ?_)))
 refine sQ 4 (Y_assign (v := vi 0) rfl rfl) (rw_nil (cw_seq (cw_seq (cw_region ?_))))
 refine sQ 5 (Y_assign (v := vi 0) rfl rfl) (rw_nil ?_)
 obtain ⟨z, hz, hF1⟩ := bind_inv hF
 refine cw_block ?_
 refine cw_loop (fun k f w => ∃ (bit : Nat) (l : List Int) (rank : Int), FF f [(3, .slice B1 r_1.length c1), (4, vi rank), (5, vi (bit : Int))] ∧ l.length = r_1.length ∧ ST w0 [] w [⟨B1, 3, (l.flatMap encI), c1 * 1⟩] [⟨B, (rows.flatMap encI)⟩] ∧ bit + k = 10 ∧ forN (F_spec_l12Rank_l1 r_1) k bit (l, rank) = some z) 10 ⟨0, r_1, 0, (FF.cons rfl (FF.cons rfl (FF.cons rfl FF.nil))), rfl, (hS1.sel [0] rfl rfl), Nat.zero_add _, hz⟩ ?_
 rintro k_ f w ⟨bit, l, rank, hf, hl, hS2, hik, hL⟩
 refine cw_seq (cw_seq (cw_region ?_))
 refine sQ 12 (Y_move (v := vi (bit : Int)) rfl (hf.get 5 2 rfl)) ?_
 refine sQ 13 (Y_lt (k := .i64) (a := (bit : Int)) (b := 10) rfl rfl rfl) (rw_nil ?_)
 refine cw_cond (b := (decide ((bit : Int) < 10))) rfl (fun hlt => ?_) (fun hlt => ?_)
 ·skip
  have hlt1 : bit < 10 := by have h := of_decide_eq_true hlt; omega
  obtain ⟨k_1, rfl⟩ : ∃ k2, k_ = k2 + 1 := ⟨k_ - 1, by omega⟩
  obtain ⟨y, hb, hL1⟩ := forN_go hL
  unfold F_spec_l12Rank_l1 at hb
  refine cw_skip (cw_seq ?_)
  obtain ⟨z1, hz1, hF2⟩ := bind_inv hb
  refine cw_mid (fun f w => ∃ (l1 : List Int) (rank1 : Int), (l1, rank1) = z1 ∧ FF f [(3, .slice B1 r_1.length c1), (4, vi rank1), (5, vi (bit : Int))] ∧ l1.length = r_1.length ∧ ST w0 [] w [⟨B1, 3, (l1.flatMap encI), c1 * 1⟩] [⟨B, (rows.flatMap encI)⟩]) ?_ ?_
  ·skip
   refine cw_block (cw_seq (cw_region ?_))
   refine sQ 6 (Y_assign (v := vi (-1)) rfl rfl) (rw_nil (cw_seq (cw_seq (cw_region ?_))))
   refine sQ 16 (Y_move (v := vi rank) rfl (hf.get 4 1 rfl)) ?_
   refine sQ 7 (Y_assign (v := vi rank) rfl rfl) (rw_nil ?_)
   obtain ⟨z2, hz2, hF3⟩ := bind_inv hz1
   refine cw_mid (fun f w => ∃ (at_ : Int) (i1 : Int), .inl (at_, i1) = z2 ∧ FF f [(3, .slice B1 r_1.length c1), (4, vi rank), (5, vi (bit : Int)), (6, vi at_)] ∧ ST w0 [] w [⟨B1, 3, (l.flatMap encI), c1 * 1⟩] [⟨B, (rows.flatMap encI)⟩]) ?_ ?_
   ·skip
    refine cw_block ?_
    refine cw_loop (fun k f w => ∃ (at_1 : Int) (i2 : Int), FF f [(3, .slice B1 r_1.length c1), (4, vi rank), (5, vi (bit : Int)), (6, vi at_1), (7, vi i2)] ∧ ST w0 [] w [⟨B1, 3, (l.flatMap encI), c1 * 1⟩] [⟨B, (rows.flatMap encI)⟩] ∧ whX (F_spec_l12Rank_l2 r_1 l bit) k (at_1, i2) = some z2) fuel ⟨(-1), rank, (FF.cons (hf.get 3 0 rfl) (FF.cons (hf.get 4 1 rfl) (FF.cons (hf.get 5 2 rfl) (FF.cons rfl (FF.cons rfl FF.nil))))), (hS2.sel [0] rfl rfl), hz2⟩ ?_
    rintro k_2 f w ⟨at_1, i2, hf3, hS5, hL2⟩
    obtain ⟨k_3, y1, rfl, hb1, hL3⟩ := whX_go hL2
    unfold F_spec_l12Rank_l2 at hb1
    refine cw_seq (cw_seq (cw_region ?_))
    refine sQ 17 (Y_move (v := vi i2) rfl (hf3.get 7 4 rfl)) ?_
    refine sQ 18 (Y_move (v := .slice B1 r_1.length c1) rfl (hf3.get 3 0 rfl)) ?_
    refine sQ 19 (Y_len (B := B1) (m := r_1.length) (c := c1) k_sl_66_3 rfl rfl) ?_
    refine sQ 20 (Y_lt (k := .i64) (a := i2) (b := (r_1.length : Int)) rfl rfl rfl) (rw_nil ?_)
    refine cw_cond (b := (decide (i2 < (r_1.length : Int)))) rfl (fun hb2 => ?_) (fun hb2 => ?_)
    ·skip
     have hF4 := ct hb1 hb2
     refine cw_skip (cw_seq (cw_block (cw_seq (cw_region ?_))))
     refine sQ 23 (Y_move (v := .slice B1 r_1.length c1) rfl (hf3.get 3 0 rfl)) ?_
     refine sQ 24 (Y_move (v := vi i2) rfl (hf3.get 7 4 rfl)) ?_
     obtain ⟨x, hx, hF4⟩ := bind_inv hF4
     refine sQ 25 (Y_index (B := B1) (m := r_1.length) (c := c1) (k := .i64) (i := i2) k_sl_66_3 k_sz_3_1 rfl rfl rfl (gi_isSome encI_len rfl (hS5.cf (i := 0) rfl) hx) (getI_nn hx) (getI_ltI hx hl)) ?_
     refine sQ 26 (Y_load1 (B := B1) (i := i2.toNat * 1) (cs := (l.flatMap encI)) (v := vi x) k_sc_3 rfl rfl (hS5.cf (i := 0) rfl) (gi_at0 encI_len hx rfl)) ?_
     refine sQ 27 (Y_move (v := vi (bit : Int)) rfl (hf3.get 5 2 rfl)) ?_
     refine sQ 28 (Y_conv (k := .i64) (a := (bit : Int)) (T := 3) (T' := 76) k_us_3 k_int_76_u64 rfl rfl) ?_
     obtain ⟨hsh, hF4⟩ := chk_inv hF4
     refine sQ 29 (Y_shr (k := .i64) (a := x) (k' := .u64) (b := (IntKind.u64.wrap (bit : Int))) rfl rfl rfl hsh) ?_
     refine sQ 30 (Y_band (k := .i64) (a := (shrK .i64 x (IntKind.u64.wrap (bit : Int)))) (b := 1) rfl rfl rfl) ?_
     refine sQ 31 (Y_eq (k := .i64) (a := (bits .and .i64 (shrK .i64 x (IntKind.u64.wrap (bit : Int))) 1)) (b := 1) rfl rfl rfl) (rw_nil ?_)
     refine cw_cond (b := ((bits .and .i64 (shrK .i64 x (IntKind.u64.wrap (bit : Int))) 1) == 1)) rfl (fun hb3 => ?_) (fun hb3 => ?_)
     ·skip
      have hF5 := ct hF4 hb3
      refine cw_seq (cw_region ?_)
      refine sQ 32 (Y_move (v := vi i2) rfl (hf3.get 7 4 rfl)) ?_
      refine sQ 6 (Y_assign (v := vi i2) rfl rfl) (rw_nil ?_)
      refine cw_exit rfl ?_
      obtain rfl := some_inj hF5
      exact ⟨i2, i2, (some_inj hL3), (FF.cons (hf3.get 3 0 rfl) (FF.cons (hf3.get 4 1 rfl) (FF.cons (hf3.get 5 2 rfl) (FF.cons rfl FF.nil)))), (hS5.sel [0] rfl rfl)⟩
     ·skip
      have hF6 := cf' hF4 hb3
      refine cw_skip (cw_region ?_)
      refine sQ 21 (Y_move (v := vi i2) rfl (hf3.get 7 4 rfl)) ?_
      refine sQ 22 (Y_add (k := .i64) (a := i2) (b := 1) rfl rfl rfl) ?_
      refine sQ 7 (Y_assign (v := vi (i64.wrap (i2 + 1))) rfl rfl) (rw_nil ?_)
      obtain rfl := some_inj hF6
      exact ⟨k_3, Nat.lt_succ_self _, at_1, (i64.wrap (i2 + 1)), (FF.cons (hf3.get 3 0 rfl) (FF.cons (hf3.get 4 1 rfl) (FF.cons (hf3.get 5 2 rfl) (FF.cons (hf3.get 6 3 rfl) (FF.cons rfl FF.nil))))), (hS5.sel [0] rfl rfl), hL3⟩
    ·skip
     have hF7 := cf' hb1 hb2
     refine cw_exit rfl ?_
     obtain rfl := some_inj hF7
     exact ⟨at_1, i2, (some_inj hL3), (FF.cons (hf3.get 3 0 rfl) (FF.cons (hf3.get 4 1 rfl) (FF.cons (hf3.get 5 2 rfl) (FF.cons (hf3.get 6 3 rfl) FF.nil)))), (hS5.sel [0] rfl rfl)⟩
   rintro f w ⟨at_, i1, rfl, hf2, hS4⟩
   refine cw_seq (cw_seq (cw_region ?_))
   refine sQ 33 (Y_move (v := vi at_) rfl (hf2.get 6 3 rfl)) ?_
   refine sQ 34 (Y_lt (k := .i64) (a := at_) (b := 0) rfl rfl rfl) (rw_nil ?_)
   refine cw_cond (b := (decide (at_ < 0))) rfl (fun hb4 => ?_) (fun hb4 => ?_)
   ·skip
    have hF8 := ct hF3 hb4
    refine cw_exit rfl ?_
    exact ⟨l, rank, (some_inj hF8), (FF.cons (hf2.get 3 0 rfl) (FF.cons (hf2.get 4 1 rfl) (FF.cons (hf2.get 5 2 rfl) FF.nil))), hl, (hS4.sel [0] rfl rfl)⟩
   ·skip
    have hF9 := cf' hF3 hb4
    refine cw_skip (cw_seq (cw_region ?_))
    refine sQ 35 (Y_move (v := .slice B1 r_1.length c1) rfl (hf2.get 3 0 rfl)) ?_
    refine sQ 36 (Y_move (v := vi at_) rfl (hf2.get 6 3 rfl)) ?_
    obtain ⟨x1, hx1, hF9⟩ := bind_inv hF9
    refine sQ 37 (Y_index (B := B1) (m := r_1.length) (c := c1) (k := .i64) (i := at_) k_sl_66_3 k_sz_3_1 rfl rfl rfl (gi_isSome encI_len rfl (hS4.cf (i := 0) rfl) hx1) (getI_nn hx1) (getI_ltI hx1 hl)) ?_
    refine sQ 38 (Y_load1 (B := B1) (i := at_.toNat * 1) (cs := (l.flatMap encI)) (v := vi x1) k_sc_3 rfl rfl (hS4.cf (i := 0) rfl) (gi_at0 encI_len hx1 rfl)) ?_
    refine sQ 8 (Y_assign (v := vi x1) rfl rfl) (rw_nil (cw_seq (cw_region ?_)))
    refine sQ 39 (Y_move (v := .slice B1 r_1.length c1) rfl (hf2.get 3 0 rfl)) ?_
    refine sQ 40 (Y_move (v := vi at_) rfl (hf2.get 6 3 rfl)) ?_
    refine sQ 41 (Y_move (v := .slice B1 r_1.length c1) rfl (hf2.get 3 0 rfl)) ?_
    refine sQ 42 (Y_move (v := vi rank) rfl (hf2.get 4 1 rfl)) ?_
    obtain ⟨x2, hx2, hF9⟩ := bind_inv hF9
    refine sQ 43 (Y_index (B := B1) (m := r_1.length) (c := c1) (k := .i64) (i := rank) k_sl_66_3 k_sz_3_1 rfl rfl rfl (gi_isSome encI_len rfl (hS4.cf (i := 0) rfl) hx2) (getI_nn hx2) (getI_ltI hx2 hl)) ?_
    refine sQ 44 (Y_load1 (B := B1) (i := rank.toNat * 1) (cs := (l.flatMap encI)) (v := vi x2) k_sc_3 rfl rfl (hS4.cf (i := 0) rfl) (gi_at0 encI_len hx2 rfl)) ?_
    refine sQ 45 (Y_index (B := B1) (m := r_1.length) (c := c1) (k := .i64) (i := at_) k_sl_66_3 k_sz_3_1 rfl rfl rfl (gi_isSome encI_len rfl (hS4.cf (i := 0) rfl) hx1) (getI_nn hx1) (getI_ltI hx1 hl)) ?_
    refine s0 (Ys_store (i := 0) (s := 1) (B := B1) (T' := 3) (v := vi x2) (vs := [vi x2]) (k := at_.toNat * 1) (cs' := ((l.set at_.toNat x2).flatMap encI)) hS4 k_sz_3_1 rfl rfl rfl rfl rfl rfl rfl (gi_fit0 encI_len hx1) (gi_set encI_len hx1 x2 rfl) rfl) ?_
    rintro _ w_1 ⟨rfl, hS6⟩
    refine rw_nil (cw_seq (cw_region ?_))
    refine sQ 46 (Y_move (v := .slice B1 r_1.length c1) rfl (hf2.get 3 0 rfl)) ?_
    refine sQ 47 (Y_move (v := vi rank) rfl (hf2.get 4 1 rfl)) ?_
    refine sQ 48 (Y_move (v := vi x1) rfl rfl) ?_
    obtain ⟨x3, hx3, hF9⟩ := bind_inv hF9
    refine sQ 49 (Y_index (B := B1) (m := r_1.length) (c := c1) (k := .i64) (i := rank) k_sl_66_3 k_sz_3_1 rfl rfl rfl (gi_isSome encI_len rfl (hS6.cf (i := 0) rfl) hx3) (getI_nn hx3) (getI_ltI hx3 (set_len _ _ _ hl))) ?_
    refine s0 (Ys_store (i := 0) (s := 1) (B := B1) (T' := 3) (v := vi x1) (vs := [vi x1]) (k := rank.toNat * 1) (cs' := (((l.set at_.toNat x2).set rank.toNat x1).flatMap encI)) hS6 k_sz_3_1 rfl rfl rfl rfl rfl rfl rfl (gi_fit0 encI_len hx3) (gi_set encI_len hx3 x1 rfl) rfl) ?_
    rintro _ w_2 ⟨rfl, hS7⟩
    refine rw_nil (cw_seq (cw_seq (cw_region ?_)))
    refine sQ 50 (Y_move (v := .slice B1 r_1.length c1) rfl (hf2.get 3 0 rfl)) ?_
    refine sQ 51 (Y_len (B := B1) (m := r_1.length) (c := c1) k_sl_66_3 rfl rfl) ?_
    refine sQ 52 (Y_move (v := vi 0) rfl rfl) (rw_nil ?_)
    obtain ⟨hN, hF9⟩ := chk_inv hF9
    obtain ⟨z3, hz3, hF10⟩ := bind_inv hF9
    refine cw_block ?_
    refine cw_loop (fun k f w => ∃ (i3 : Nat) (l2 : List Int), FF f [(3, .slice B1 r_1.length c1), (4, vi rank), (5, vi (bit : Int)), (8, vi x1), (51, vi (r_1.length : Int)), (52, vi (i3 : Int))] ∧ l2.length = r_1.length ∧ ST w0 [] w [⟨B1, 3, (l2.flatMap encI), c1 * 1⟩] [⟨B, (rows.flatMap encI)⟩] ∧ i3 + k = r_1.length ∧ forN (F_spec_l12Rank_l3 rank bit x1) k i3 l2 = some z3) r_1.length ⟨0, ((l.set at_.toNat x2).set rank.toNat x1), (FF.cons (hf2.get 3 0 rfl) (FF.cons (hf2.get 4 1 rfl) (FF.cons (hf2.get 5 2 rfl) (FF.cons rfl (FF.cons rfl (FF.cons rfl FF.nil)))))), (set_len _ _ _ (set_len _ _ _ hl)), (hS7.sel [0] rfl rfl), Nat.zero_add _, hz3⟩ ?_
    rintro k_4 f w ⟨i3, l2, hf4, hl2, hS8, hik2, hL4⟩
    refine cw_seq (cw_region ?_)
    refine sQ 53 (Y_lt (k := .i64) (a := (i3 : Int)) (b := (r_1.length : Int)) rfl (hf4.get 52 5 rfl) (hf4.get 51 4 rfl)) (rw_nil (cw_seq ?_))
    refine cw_cond (b := (decide ((i3 : Int) < (r_1.length : Int)))) rfl (fun hlt2 => ?_) (fun hlt2 => ?_)
    ·skip
     have hlt3 : i3 < r_1.length := by have h := of_decide_eq_true hlt2; omega
     obtain ⟨k_5, rfl⟩ : ∃ k2, k_4 = k2 + 1 := ⟨k_4 - 1, by omega⟩
     obtain ⟨y2, hb5, hL5⟩ := forN_go hL4
     unfold F_spec_l12Rank_l3 at hb5
     refine cw_skip (cw_seq ?_)
     obtain ⟨z4, hz4, hF11⟩ := bind_inv hb5
     refine cw_mid (fun f w => ∃ (l3 : List Int), l3 = z4 ∧ FF f [(3, .slice B1 r_1.length c1), (4, vi rank), (5, vi (bit : Int)), (8, vi x1), (51, vi (r_1.length : Int)), (52, vi (i3 : Int))] ∧ l3.length = r_1.length ∧ ST w0 [] w [⟨B1, 3, (l3.flatMap encI), c1 * 1⟩] [⟨B, (rows.flatMap encI)⟩]) ?_ ?_
     ·skip
      refine cw_block (cw_seq (cw_region ?_))
      refine sQ 54 (Y_move (v := vi (i3 : Int)) rfl (hf4.get 52 5 rfl)) ?_
      refine sQ 9 (Y_assign (v := vi (i3 : Int)) rfl rfl) (rw_nil (cw_seq (cw_region ?_)))
      refine sQ 55 (Y_move (v := vi (i3 : Int)) rfl rfl) ?_
      refine sQ 56 (Y_move (v := vi rank) rfl (hf4.get 4 1 rfl)) ?_
      refine sQ 57 (Y_ne (k := .i64) (a := (i3 : Int)) (b := rank) rfl rfl rfl) ?_
      refine sQ 58 (Y_move (v := .bool ((i3 : Int) != rank)) rfl rfl) ?_
      refine sgq 59 (B := ((i3 : Int) != rank)) (v := .slice B1 r_1.length c1) rfl rfl (uT_ 58) (fun hg => (Y_move (v := .slice B1 r_1.length c1) rfl (hf4.get 3 0 rfl))) ?_
      refine sgq 60 (B := ((i3 : Int) != rank)) (v := vi (i3 : Int)) rfl rfl (uT_ 58) (fun hg1 => (Y_move (v := vi (i3 : Int)) rfl rfl)) ?_
      obtain ⟨x4, hx4, hz4⟩ := bind_inv hz4
      refine sgq 61 (B := ((i3 : Int) != rank)) (v := pt B1 ((i3 : Int).toNat * 1)) rfl rfl (uT_ 58) (fun hg2 => (Y_index (B := B1) (m := r_1.length) (c := c1) (k := .i64) (i := (i3 : Int)) k_sl_66_3 k_sz_3_1 rfl (gv_of (v := .slice B1 r_1.length c1) hg2) (gv_of (v := vi (i3 : Int)) hg2) (gi_isSome encI_len rfl (hS8.cf (i := 0) rfl) (gb_inv hx4 hg2)) (getI_nn (gb_inv hx4 hg2)) (getI_ltI (gb_inv hx4 hg2) hl2))) ?_
      refine sgq 62 (B := ((i3 : Int) != rank)) (v := vi x4) rfl rfl (uT_ 58) (fun hg3 => (Y_load1 (B := B1) (i := (i3 : Int).toNat * 1) (cs := (l2.flatMap encI)) (v := vi x4) k_sc_3 rfl (gv_of (v := pt B1 ((i3 : Int).toNat * 1)) hg3) (hS8.cf (i := 0) rfl) (gi_at0 encI_len (gb_inv hx4 hg3) rfl))) ?_
      refine sgq 63 (B := ((i3 : Int) != rank)) (v := vi (bit : Int)) rfl rfl (uT_ 58) (fun hg4 => (Y_move (v := vi (bit : Int)) rfl (hf4.get 5 2 rfl))) ?_
      refine sgq 64 (B := ((i3 : Int) != rank)) (v := .int .u64 (IntKind.u64.wrap (bit : Int))) rfl rfl (uT_ 58) (fun hg5 => (Y_conv (k := .i64) (a := (bit : Int)) (T := 3) (T' := 76) k_us_3 k_int_76_u64 rfl (gv_of (v := vi (bit : Int)) hg5))) ?_
      obtain ⟨hsh1, hz4⟩ := chk_inv hz4
      refine sgq 65 (B := ((i3 : Int) != rank)) (v := vi (shrK .i64 x4 (IntKind.u64.wrap (bit : Int)))) rfl rfl (uT_ 58) (fun hg6 => (Y_shr (k := .i64) (a := x4) (k' := .u64) (b := (IntKind.u64.wrap (bit : Int))) rfl (gv_of (v := vi x4) hg6) (gv_of (v := .int .u64 (IntKind.u64.wrap (bit : Int))) hg6) (hsh1 hg6))) ?_
      refine sgq 66 (B := ((i3 : Int) != rank)) (v := vi (bits .and .i64 (shrK .i64 x4 (IntKind.u64.wrap (bit : Int))) 1)) rfl rfl (uT_ 58) (fun hg7 => (Y_band (k := .i64) (a := (shrK .i64 x4 (IntKind.u64.wrap (bit : Int)))) (b := 1) rfl (gv_of (v := vi (shrK .i64 x4 (IntKind.u64.wrap (bit : Int)))) hg7) rfl)) ?_
      refine sgq 67 (B := ((i3 : Int) != rank)) (v := .bool ((bits .and .i64 (shrK .i64 x4 (IntKind.u64.wrap (bit : Int))) 1) == 1)) rfl rfl (uT_ 58) (fun hg8 => (Y_eq (k := .i64) (a := (bits .and .i64 (shrK .i64 x4 (IntKind.u64.wrap (bit : Int))) 1)) (b := 1) rfl (gv_of (v := vi (bits .and .i64 (shrK .i64 x4 (IntKind.u64.wrap (bit : Int))) 1)) hg8) rfl)) ?_
      refine sQ 68 (Y_and (b := ((i3 : Int) != rank)) (z := ((bits .and .i64 (shrK .i64 x4 (IntKind.u64.wrap (bit : Int))) 1) == 1)) rfl rfl rfl rfl) (rw_nil ?_)
      refine cw_cond (b := (((i3 : Int) != rank) && ((bits .and .i64 (shrK .i64 x4 (IntKind.u64.wrap (bit : Int))) 1) == 1))) rfl (fun hb6 => ?_) (fun hb6 => ?_)
      ·skip
       have hF12 := ct hz4 hb6
       refine cw_region ?_
       refine sQ 69 (Y_move (v := .slice B1 r_1.length c1) rfl (hf4.get 3 0 rfl)) ?_
       refine sQ 70 (Y_move (v := vi (i3 : Int)) rfl rfl) ?_
       obtain ⟨x5, hx5, hF12⟩ := bind_inv hF12
       refine sQ 71 (Y_index (B := B1) (m := r_1.length) (c := c1) (k := .i64) (i := (i3 : Int)) k_sl_66_3 k_sz_3_1 rfl rfl rfl (gi_isSome encI_len rfl (hS8.cf (i := 0) rfl) hx5) (getI_nn hx5) (getI_ltI hx5 hl2)) ?_
       refine sQ 72 (Y_load1 (B := B1) (i := (i3 : Int).toNat * 1) (cs := (l2.flatMap encI)) (v := vi x5) k_sc_3 rfl rfl (hS8.cf (i := 0) rfl) (gi_at0 encI_len hx5 rfl)) ?_
       refine sQ 73 (Y_move (v := vi x1) rfl (hf4.get 8 3 rfl)) ?_
       refine sQ 74 (Y_bxor (k := .i64) (a := x5) (b := x1) rfl rfl rfl) ?_
       refine sQ 75 (Y_index (B := B1) (m := r_1.length) (c := c1) (k := .i64) (i := (i3 : Int)) k_sl_66_3 k_sz_3_1 rfl rfl rfl (gi_isSome encI_len rfl (hS8.cf (i := 0) rfl) hx5) (getI_nn hx5) (getI_ltI hx5 hl2)) ?_
       refine s0 (Ys_store (i := 0) (s := 1) (B := B1) (T' := 3) (v := vi (bits .xor .i64 x5 x1)) (vs := [vi (bits .xor .i64 x5 x1)]) (k := (i3 : Int).toNat * 1) (cs' := ((l2.set (i3 : Int).toNat (bits .xor .i64 x5 x1)).flatMap encI)) hS8 k_sz_3_1 rfl rfl rfl rfl rfl rfl rfl (gi_fit0 encI_len hx5) (gi_set encI_len hx5 (bits .xor .i64 x5 x1) rfl) rfl) ?_
       rintro _ w_3 ⟨rfl, hS10⟩
       refine rw_nil ?_
       exact ⟨(l2.set (i3 : Int).toNat (bits .xor .i64 x5 x1)), (some_inj hF12), (FF.cons (hf4.get 3 0 rfl) (FF.cons (hf4.get 4 1 rfl) (FF.cons (hf4.get 5 2 rfl) (FF.cons (hf4.get 8 3 rfl) (FF.cons (hf4.get 51 4 rfl) (FF.cons (hf4.get 52 5 rfl) FF.nil)))))), (set_len _ _ _ hl2), (hS10.sel [0] rfl rfl)⟩
      ·skip
       have hF13 := cf' hz4 hb6
       refine cw_skip ?_
       exact ⟨l2, (some_inj hF13), (FF.cons (hf4.get 3 0 rfl) (FF.cons (hf4.get 4 1 rfl) (FF.cons (hf4.get 5 2 rfl) (FF.cons (hf4.get 8 3 rfl) (FF.cons (hf4.get 51 4 rfl) (FF.cons (hf4.get 52 5 rfl) FF.nil)))))), hl2, (hS8.sel [0] rfl rfl)⟩
     rintro f w ⟨l3, rfl, hf5, hl3, hS9⟩
     refine cw_region ?_
     refine sQ 76 (Y_add (k := .i64) (a := (i3 : Int)) (b := 1) rfl (hf5.get 52 5 rfl) rfl) ?_
     refine sQ 52 (Y_move (v := vi (i64.wrap ((i3 : Int) + 1))) rfl rfl) (rw_nil ?_)
     obtain rfl := some_inj hF11
     exact ⟨k_5, Nat.lt_succ_self _, i3 + 1, l3, (FF.cons (hf5.get 3 0 rfl) (FF.cons (hf5.get 4 1 rfl) (FF.cons (hf5.get 5 2 rfl) (FF.cons (hf5.get 8 3 rfl) (FF.cons (hf5.get 51 4 rfl) (FF.cons (congrArg (Value.int .i64) (wr_succ hlt3 hN)) FF.nil)))))), hl3, (hS9.sel [0] rfl rfl), (by omega), hL5⟩
    ·skip
     obtain rfl : k_4 = 0 := by have h := of_decide_eq_false hlt2; omega
     refine cw_exit rfl ?_
     obtain rfl := some_inj hL4
     refine cw_region ?_
     refine sQ 77 (Y_move (v := vi rank) rfl (hf4.get 4 1 rfl)) ?_
     refine sQ 78 (Y_add (k := .i64) (a := rank) (b := 1) rfl rfl rfl) ?_
     refine sQ 4 (Y_assign (v := vi (i64.wrap (rank + 1))) rfl rfl) (rw_nil ?_)
     exact ⟨l2, (i64.wrap (rank + 1)), (some_inj hF10), (FF.cons (hf4.get 3 0 rfl) (FF.cons rfl (FF.cons (hf4.get 5 2 rfl) FF.nil))), hl2, (hS8.sel [0] rfl rfl)⟩
  rintro f w ⟨l1, rank1, rfl, hf1, hl1, hS3⟩
  refine cw_region ?_
  refine sQ 14 (Y_move (v := vi (bit : Int)) rfl (hf1.get 5 2 rfl)) ?_
  refine sQ 15 (Y_add (k := .i64) (a := (bit : Int)) (b := 1) rfl rfl rfl) ?_
  refine sQ 5 (Y_assign (v := vi (i64.wrap ((bit : Int) + 1))) rfl rfl) (rw_nil ?_)
  obtain rfl := some_inj hF2
  exact ⟨k_1, Nat.lt_succ_self _, bit + 1, l1, rank1, (FF.cons (hf1.get 3 0 rfl) (FF.cons (hf1.get 4 1 rfl) (FF.cons (congrArg (Value.int .i64) (wr_succ hlt1 (show 10 ≤ 9223372036854775807 by decide))) FF.nil))), hl1, (hS3.sel [0] rfl rfl), (by omega), hL1⟩
 ·skip
  obtain rfl : k_ = 0 := by have h := of_decide_eq_false hlt; omega
  refine cw_exit rfl ?_
  obtain rfl := some_inj hL
  refine cw_seq (cw_region ?_)
  refine sQ 79 (Y_move (v := vi rank) rfl (hf.get 4 1 rfl)) ?_
  refine sQ 2 (Y_assign (v := vi rank) rfl rfl) (rw_nil (cw_ret ?_))
  obtain rfl := some_inj hF1
  exact ret1 Tryz.results235 (v1 := vi rank) (resAt_tmp rfl) ⟨rfl, (hS2.sN [])⟩

theorem c_spec_l12Valid (m : TLinear) (B : Option Addr) (c n : Nat) (w0 : World) (hn : m.Rows.length = n) (hS : ST w0 [] w0 [] [⟨B, (m.Rows.flatMap encI)⟩]) {r_ : Bool} (hF : F_spec_l12Valid m = some r_) :
  CV Tryz.prog 189 #[.agg #[.slice B n c]] w0 (fun v w' => v = .bool r_ ∧ ST w0 [] w' [] []) := by
 subst hn
 unfold F_spec_l12Valid at hF
 refine cv_of_cw 25 Tryz.func189 rfl Tryz.ntmps189 rfl ?_
 refine cw_seq (cw_region ?_)
 refine sS 1 (Ys_box (T := 68) (v := .agg #[.slice B m.Rows.length c]) (cs := [.slice B m.Rows.length c]) (m := 1) hS rfl rfl rfl rfl) ?_
 rintro _ w_ ⟨b, rfl, hS1⟩
 refine sQ 2 (Y_assign (v := .bool false) rfl rfl) (rw_nil (cw_seq (cw_region ?_)))
 refine sQ 4 (Y_fieldAddr (B := aD b) (i := 0) (s := 0) k_fd_68_0_0_66 k_sz_66_1 rfl rfl) ?_
 refine sQ 5 (Y_load1 (B := aD b) (i := 0) (cs := [.slice B m.Rows.length c]) (v := .slice B m.Rows.length c) k_sc_66 rfl rfl (hS1.cf (i := 0) rfl) rfl) ?_
 refine sQ 6 (Y_len (B := B) (m := m.Rows.length) (c := c) k_sl_66_3 rfl rfl) ?_
 refine sQ 3 (Y_assign (v := vi (m.Rows.length : Int)) rfl rfl) (rw_nil (cw_seq (cw_region ?_)))
 refine sQ 7 (Y_move (v := vi (m.Rows.length : Int)) rfl rfl) ?_
 obtain ⟨r_1, hc, hF⟩ := bind_inv hF
 refine sc 8 rfl rfl (Yc_func (g := 51) (vs := [vi (m.Rows.length : Int), vi 1, vi 5]) k_call_51 rfl (mc rfl (mc rfl (mc rfl mn))) (c_spec_l1In (m.Rows.length : Int) 1 5 _  (hS1.inn0 [] rfl) hc)) ?_
 rintro _ w_1 ⟨rfl, hd⟩
 have hS2 := hS1.out00 hd
 refine sQ 9 (Y_move (v := .bool r_1) rfl rfl) ?_
 refine sgq 10 (B := r_1) (v := pt (aD b) 0) rfl rfl (uT_ 9) (fun hg => (Y_fieldAddr (B := aD b) (i := 0) (s := 0) k_fd_68_0_0_66 k_sz_66_1 rfl rfl)) ?_
 refine sgq 11 (B := r_1) (v := .slice B m.Rows.length c) rfl rfl (uT_ 9) (fun hg1 => (Y_load1 (B := aD b) (i := 0) (cs := [.slice B m.Rows.length c]) (v := .slice B m.Rows.length c) k_sc_66 rfl (gv_of (v := pt (aD b) 0) hg1) (hS2.cf (i := 0) rfl) rfl)) ?_
 refine sgq 12 (B := r_1) (v := vi (m.Rows.length : Int)) rfl rfl (uT_ 9) (fun hg2 => (Y_move (v := vi (m.Rows.length : Int)) rfl rfl)) ?_
 refine sgq 13 (B := r_1) (v := .int .u64 (IntKind.u64.wrap (m.Rows.length : Int))) rfl rfl (uT_ 9) (fun hg3 => (Y_conv (k := .i64) (a := (m.Rows.length : Int)) (T := 3) (T' := 76) k_us_3 k_int_76_u64 rfl (gv_of (v := vi (m.Rows.length : Int)) hg3))) ?_
 obtain ⟨hsh, hF⟩ := chk_inv hF
 refine sgq 14 (B := r_1) (v := vi (shlK .i64 1 (IntKind.u64.wrap (m.Rows.length : Int)))) rfl rfl (uT_ 9) (fun hg4 => (Y_shl (k := .i64) (a := 1) (k' := .u64) (b := (IntKind.u64.wrap (m.Rows.length : Int))) rfl rfl (gv_of (v := .int .u64 (IntKind.u64.wrap (m.Rows.length : Int))) hg4) (hsh hg4))) ?_
 refine sgq 15 (B := r_1) (v := vi (i64.wrap ((shlK .i64 1 (IntKind.u64.wrap (m.Rows.length : Int))) - 1))) rfl rfl (uT_ 9) (fun hg5 => (Y_sub (k := .i64) (a := (shlK .i64 1 (IntKind.u64.wrap (m.Rows.length : Int)))) (b := 1) rfl (gv_of (v := vi (shlK .i64 1 (IntKind.u64.wrap (m.Rows.length : Int)))) hg5) rfl)) ?_
 obtain ⟨r_2, hc1, hF⟩ := bind_inv hF
 refine sgc 16 (B := r_1) (v := .bool r_2) (F := hS2.fn) rfl rfl (uT_ 9) hS2 (fun hg6 => (Yc_func (g := 173) (vs := [.slice B m.Rows.length c, vi 0, vi (i64.wrap ((shlK .i64 1 (IntKind.u64.wrap (m.Rows.length : Int))) - 1))]) k_call_173 rfl (mc (gv_of (v := .slice B m.Rows.length c) hg6) (mc rfl (mc (gv_of (v := vi (i64.wrap ((shlK .i64 1 (IntKind.u64.wrap (m.Rows.length : Int))) - 1))) hg6) mn))) (CV.mono (c_spec_l1All m.Rows 0 (i64.wrap ((shlK .i64 1 (IntKind.u64.wrap (m.Rows.length : Int))) - 1)) B c m.Rows.length _ rfl (hS2.inn0 [(true, 0)] rfl) (gb_inv hc1 hg6)) (by rintro _ _ ⟨rfl, h⟩; exact ⟨rfl, hS2.out00 h⟩)))) ?_
 rintro w_2 hS3
 refine sQ 17 (Y_and (b := r_1) (z := r_2) rfl rfl rfl rfl) ?_
 refine sQ 18 (Y_move (v := .bool (r_1 && r_2)) rfl rfl) ?_
 refine sgq 19 (B := (r_1 && r_2)) (v := pt (aD b) 0) rfl rfl (uT_ 18) (fun hg7 => (Y_fieldAddr (B := aD b) (i := 0) (s := 0) k_fd_68_0_0_66 k_sz_66_1 rfl rfl)) ?_
 refine sgq 20 (B := (r_1 && r_2)) (v := .slice B m.Rows.length c) rfl rfl (uT_ 18) (fun hg8 => (Y_load1 (B := aD b) (i := 0) (cs := [.slice B m.Rows.length c]) (v := .slice B m.Rows.length c) k_sc_66 rfl (gv_of (v := pt (aD b) 0) hg8) (hS3.cf (i := 0) rfl) rfl)) ?_
 obtain ⟨r_3, hc2, hF⟩ := bind_inv hF
 refine sgc 21 (B := (r_1 && r_2)) (v := vi r_3) (F := hS3.fn) rfl rfl (uT_ 18) hS3 (fun hg9 => (Yc_func (g := 235) (vs := [.slice B m.Rows.length c]) k_call_235 rfl (mc (gv_of (v := .slice B m.Rows.length c) hg9) mn) (CV.mono (c_spec_l12Rank m.Rows B c m.Rows.length _ rfl (hS3.inn0 [(true, 0)] rfl) (gb_inv hc2 hg9)) (by rintro _ _ ⟨rfl, h⟩; exact ⟨rfl, hS3.out00 h⟩)))) ?_
 rintro w_3 hS4
 refine sgq 22 (B := (r_1 && r_2)) (v := vi (m.Rows.length : Int)) rfl rfl (uT_ 18) (fun hg10 => (Y_move (v := vi (m.Rows.length : Int)) rfl rfl)) ?_
 refine sgq 23 (B := (r_1 && r_2)) (v := .bool (r_3 == (m.Rows.length : Int))) rfl rfl (uT_ 18) (fun hg11 => (Y_eq (k := .i64) (a := r_3) (b := (m.Rows.length : Int)) rfl (gv_of (v := vi r_3) hg11) (gv_of (v := vi (m.Rows.length : Int)) hg11))) ?_
 refine sQ 24 (Y_and (b := (r_1 && r_2)) (z := (r_3 == (m.Rows.length : Int))) rfl rfl rfl rfl) ?_
 refine sQ 2 (Y_assign (v := .bool ((r_1 && r_2) && (r_3 == (m.Rows.length : Int)))) rfl rfl) (rw_nil (cw_ret ?_))
 obtain rfl := some_inj hF
 exact ret1 Tryz.results189 (v1 := .bool ((r_1 && r_2) && (r_3 == (m.Rows.length : Int)))) (resAt_tmp rfl) ⟨rfl, (hS4.sN [])⟩

theorem c_spec_l13Valid (p : TPhasePoly) (B : Option Addr) (c n : Nat) (B1 : Option Addr) (c1 n1 : Nat) (w0 : World) (hn : p.Terms.length = n) (hn1 : p.Out.Rows.length = n1) (hS : ST w0 [] w0 [] [⟨B, (p.Terms.flatMap eN0)⟩, ⟨B1, (p.Out.Rows.flatMap encI)⟩]) {r_ : Bool} (hF : F_spec_l13Valid p = some r_) :
  CV Tryz.prog 113 #[.agg #[vi p.Qubits, vi p.Phase, .slice B n c, .slice B1 n1 c1]] w0 (fun v w' => v = .bool r_ ∧ ST w0 [] w' [] []) := by
 subst hn
 subst hn1
 unfold F_spec_l13Valid at hF
 refine cv_of_cw 70 Tryz.func113 rfl Tryz.ntmps113 rfl ?_
 refine cw_seq (cw_region ?_)
 refine sS 1 (Ys_box (T := 70) (v := .agg #[vi p.Qubits, vi p.Phase, .slice B p.Terms.length c, .slice B1 p.Out.Rows.length c1]) (cs := [vi p.Qubits, vi p.Phase, .slice B p.Terms.length c, .slice B1 p.Out.Rows.length c1]) (m := 4) hS rfl rfl rfl rfl) ?_
 rintro _ w_ ⟨b, rfl, hS1⟩
 refine sQ 2 (Y_assign (v := .bool false) rfl rfl) (rw_nil (cw_seq (cw_seq (cw_region ?_))))
 refine sQ 5 (Y_fieldAddr (B := aD b) (i := 0) (s := 0) k_fd_70_0_0_3 k_sz_3_1 rfl rfl) ?_
 refine sQ 6 (Y_load1 (B := aD b) (i := 0) (cs := [vi p.Qubits, vi p.Phase, .slice B p.Terms.length c, .slice B1 p.Out.Rows.length c1]) (v := vi p.Qubits) k_sc_3 rfl rfl (hS1.cf (i := 0) rfl) rfl) ?_
 obtain ⟨r_1, hc, hF⟩ := bind_inv hF
 refine sc 7 rfl rfl (Yc_func (g := 51) (vs := [vi p.Qubits, vi 1, vi 5]) k_call_51 rfl (mc rfl (mc rfl (mc rfl mn))) (c_spec_l1In p.Qubits 1 5 _  (hS1.inn0 [] rfl) hc)) ?_
 rintro _ w_1 ⟨rfl, hd⟩
 have hS2 := hS1.out00 hd
 refine sQ 8 (Y_not (p := r_1) rfl rfl) ?_
 refine sQ 9 (Y_move (v := .bool (!r_1)) rfl rfl) ?_
 refine sgq 10 (B := (!(!r_1))) (v := pt (aD b) 1) rfl rfl (uF_ 9) (fun hg => (Y_fieldAddr (B := aD b) (i := 0) (s := 0) k_fd_70_1_1_3 k_sz_3_1 rfl rfl)) ?_
 refine sgq 11 (B := (!(!r_1))) (v := vi p.Phase) rfl rfl (uF_ 9) (fun hg1 => (Y_load1 (B := aD b) (i := 1) (cs := [vi p.Qubits, vi p.Phase, .slice B p.Terms.length c, .slice B1 p.Out.Rows.length c1]) (v := vi p.Phase) k_sc_3 rfl (gv_of (v := pt (aD b) 1) hg1) (hS2.cf (i := 0) rfl) rfl)) ?_
 obtain ⟨r_2, hc1, hF⟩ := bind_inv hF
 refine sgc 12 (B := (!(!r_1))) (v := .bool r_2) (F := hS2.fn) rfl rfl (uF_ 9) hS2 (fun hg2 => (Yc_func (g := 51) (vs := [vi p.Phase, vi 0, vi 7]) k_call_51 rfl (mc (gv_of (v := vi p.Phase) hg2) (mc rfl (mc rfl mn))) (CV.mono (c_spec_l1In p.Phase 0 7 _  (hS2.inn0 [] rfl) (gb_inv hc1 hg2)) (by rintro _ _ ⟨rfl, h⟩; exact ⟨rfl, hS2.out00 h⟩)))) ?_
 rintro w_2 hS3
 refine sgq 13 (B := (!(!r_1))) (v := .bool (!r_2)) rfl rfl (uF_ 9) (fun hg3 => (Y_not (p := r_2) rfl (gv_of (v := .bool r_2) hg3))) ?_
 refine sQ 14 (Y_or (b := (!r_1)) (z := (!r_2)) rfl rfl rfl rfl) ?_
 refine sQ 15 (Y_move (v := .bool ((!r_1) || (!r_2))) rfl rfl) ?_
 refine sgq 16 (B := (!((!r_1) || (!r_2)))) (v := pt (aD b) 3) rfl rfl (uF_ 15) (fun hg4 => (Y_fieldAddr (B := aD b) (i := 0) (s := 0) k_fd_70_3_3_68 k_sz_68_1 rfl rfl)) ?_
 refine sgq 17 (B := (!((!r_1) || (!r_2)))) (v := pt (aD b) 3) rfl rfl (uF_ 15) (fun hg5 => (Y_fieldAddr (B := aD b) (i := 3) (s := 0) k_fd_68_0_0_66 k_sz_66_1 rfl (gv_of (v := pt (aD b) 3) hg5))) ?_
 refine sgq 18 (B := (!((!r_1) || (!r_2)))) (v := .slice B1 p.Out.Rows.length c1) rfl rfl (uF_ 15) (fun hg6 => (Y_load1 (B := aD b) (i := 3) (cs := [vi p.Qubits, vi p.Phase, .slice B p.Terms.length c, .slice B1 p.Out.Rows.length c1]) (v := .slice B1 p.Out.Rows.length c1) k_sc_66 rfl (gv_of (v := pt (aD b) 3) hg6) (hS3.cf (i := 0) rfl) rfl)) ?_
 refine sgq 19 (B := (!((!r_1) || (!r_2)))) (v := vi (p.Out.Rows.length : Int)) rfl rfl (uF_ 15) (fun hg7 => (Y_len (B := B1) (m := p.Out.Rows.length) (c := c1) k_sl_66_3 rfl (gv_of (v := .slice B1 p.Out.Rows.length c1) hg7))) ?_
 refine sgq 20 (B := (!((!r_1) || (!r_2)))) (v := pt (aD b) 0) rfl rfl (uF_ 15) (fun hg8 => (Y_fieldAddr (B := aD b) (i := 0) (s := 0) k_fd_70_0_0_3 k_sz_3_1 rfl rfl)) ?_
 refine sgq 21 (B := (!((!r_1) || (!r_2)))) (v := vi p.Qubits) rfl rfl (uF_ 15) (fun hg9 => (Y_load1 (B := aD b) (i := 0) (cs := [vi p.Qubits, vi p.Phase, .slice B p.Terms.length c, .slice B1 p.Out.Rows.length c1]) (v := vi p.Qubits) k_sc_3 rfl (gv_of (v := pt (aD b) 0) hg9) (hS3.cf (i := 0) rfl) rfl)) ?_
 refine sgq 22 (B := (!((!r_1) || (!r_2)))) (v := .bool ((p.Out.Rows.length : Int) != p.Qubits)) rfl rfl (uF_ 15) (fun hg10 => (Y_ne (k := .i64) (a := (p.Out.Rows.length : Int)) (b := p.Qubits) rfl (gv_of (v := vi (p.Out.Rows.length : Int)) hg10) (gv_of (v := vi p.Qubits) hg10))) ?_
 refine sQ 23 (Y_or (b := ((!r_1) || (!r_2))) (z := ((p.Out.Rows.length : Int) != p.Qubits)) rfl rfl rfl rfl) ?_
 refine sQ 24 (Y_move (v := .bool (((!r_1) || (!r_2)) || ((p.Out.Rows.length : Int) != p.Qubits))) rfl rfl) ?_
 refine sgq 25 (B := (!(((!r_1) || (!r_2)) || ((p.Out.Rows.length : Int) != p.Qubits)))) (v := pt (aD b) 3) rfl rfl (uF_ 24) (fun hg11 => (Y_fieldAddr (B := aD b) (i := 0) (s := 0) k_fd_70_3_3_68 k_sz_68_1 rfl rfl)) ?_
 refine sgq 26 (B := (!(((!r_1) || (!r_2)) || ((p.Out.Rows.length : Int) != p.Qubits)))) (v := .agg #[.slice B1 p.Out.Rows.length c1]) rfl rfl (uF_ 24) (fun hg12 => (Y_loadA (B := aD b) (i := 3) (cs := [vi p.Qubits, vi p.Phase, .slice B p.Terms.length c, .slice B1 p.Out.Rows.length c1]) (vs := [.slice B1 p.Out.Rows.length c1]) k_ag_68 k_sz_68_1 rfl (gv_of (v := pt (aD b) 3) hg12) (hS3.cf (i := 0) rfl) rfl rfl)) ?_
 obtain ⟨r_3, hc2, hF⟩ := bind_inv hF
 refine sgc 27 (B := (!(((!r_1) || (!r_2)) || ((p.Out.Rows.length : Int) != p.Qubits)))) (v := .bool r_3) (F := hS3.fn) rfl rfl (uF_ 24) hS3 (fun hg13 => (Yc_func (g := 189) (vs := [.agg #[.slice B1 p.Out.Rows.length c1]]) k_call_189 rfl (mc (gv_of (v := .agg #[.slice B1 p.Out.Rows.length c1]) hg13) mn) (CV.mono (c_spec_l12Valid p.Out B1 c1 p.Out.Rows.length _ rfl (hS3.inn0 [(true, 1)] rfl) (gb_inv hc2 hg13)) (by rintro _ _ ⟨rfl, h⟩; exact ⟨rfl, hS3.out00 h⟩)))) ?_
 rintro w_3 hS4
 refine sgq 28 (B := (!(((!r_1) || (!r_2)) || ((p.Out.Rows.length : Int) != p.Qubits)))) (v := .bool (!r_3)) rfl rfl (uF_ 24) (fun hg14 => (Y_not (p := r_3) rfl (gv_of (v := .bool r_3) hg14))) ?_
 refine sQ 29 (Y_or (b := (((!r_1) || (!r_2)) || ((p.Out.Rows.length : Int) != p.Qubits))) (z := (!r_3)) rfl rfl rfl rfl) (rw_nil ?_)
 refine cw_cond (b := ((((!r_1) || (!r_2)) || ((p.Out.Rows.length : Int) != p.Qubits)) || (!r_3))) rfl (fun hb => ?_) (fun hb => ?_)
 ·skip
  have hF1 := ct hF hb
  refine cw_seq (cw_region ?_)
  refine sQ 2 (Y_assign (v := .bool false) rfl rfl) (rw_nil (cw_ret ?_))
  obtain rfl := some_inj hF1
  exact ret1 Tryz.results113 (v1 := .bool false) (resAt_tmp rfl) ⟨rfl, (hS4.sN [])⟩
 ·skip
  have hF2 := cf' hF hb
  refine cw_skip (cw_seq (cw_seq (cw_region ?_)))
  refine sQ 30 (Y_fieldAddr (B := aD b) (i := 0) (s := 0) k_fd_70_2_2_65 k_sz_65_1 rfl rfl) ?_
  refine sQ 31 (Y_load1 (B := aD b) (i := 2) (cs := [vi p.Qubits, vi p.Phase, .slice B p.Terms.length c, .slice B1 p.Out.Rows.length c1]) (v := .slice B p.Terms.length c) k_sc_65 rfl rfl (hS4.cf (i := 0) rfl) rfl) ?_
  refine sQ 32 (Y_len (B := B) (m := p.Terms.length) (c := c) k_sl_65_136 rfl rfl) ?_
  refine sQ 33 (Y_move (v := vi 0) rfl rfl) (rw_nil ?_)
  obtain ⟨hN, hF2⟩ := chk_inv hF2
  obtain ⟨z, hz, hF3⟩ := bind_inv hF2
  refine cw_block ?_
  refine cw_loop (fun k f w => ∃ (i : Nat), FF f [(1, pt (aD b) 0), (31, .slice B p.Terms.length c), (32, vi (p.Terms.length : Int)), (33, vi (i : Int))] ∧ ST w0 [] w [⟨aD b, 70, [vi p.Qubits, vi p.Phase, .slice B p.Terms.length c, .slice B1 p.Out.Rows.length c1], 4⟩] [⟨B, (p.Terms.flatMap eN0)⟩, ⟨B1, (p.Out.Rows.flatMap encI)⟩] ∧ i + k = p.Terms.length ∧ forX (F_spec_l13Valid_l1 p) k i () = some z) p.Terms.length ⟨0, (FF.cons rfl (FF.cons rfl (FF.cons rfl (FF.cons rfl FF.nil)))), (hS4.sel [0] rfl rfl), Nat.zero_add _, hz⟩ ?_
  rintro k_ f w ⟨i, hf, hS5, hik, hL⟩
  refine cw_seq (cw_region ?_)
  refine sQ 34 (Y_lt (k := .i64) (a := (i : Int)) (b := (p.Terms.length : Int)) rfl (hf.get 33 3 rfl) (hf.get 32 2 rfl)) (rw_nil (cw_seq ?_))
  refine cw_cond (b := (decide ((i : Int) < (p.Terms.length : Int)))) rfl (fun hlt => ?_) (fun hlt => ?_)
  ·skip
   have hlt1 : i < p.Terms.length := by have h := of_decide_eq_true hlt; omega
   obtain ⟨k_1, rfl⟩ : ∃ k2, k_ = k2 + 1 := ⟨k_ - 1, by omega⟩
   obtain ⟨y, hb1, hL1⟩ := forX_go hL
   unfold F_spec_l13Valid_l1 at hb1
   refine cw_skip (cw_seq (cw_block (cw_seq (cw_region ?_))))
   refine sQ 35 (Y_move (v := vi (i : Int)) rfl (hf.get 33 3 rfl)) ?_
   obtain ⟨x, hx, hb1⟩ := bind_inv hb1
   refine sQ 36 (Y_index (B := B) (m := p.Terms.length) (c := c) (k := .i64) (i := (i : Int)) k_sl_65_136 k_sz_136_2 rfl (hf.get 31 1 rfl) (hf.get 33 3 rfl) (gi_isSome eN1 rfl (hS5.rf (i := 0) rfl) hx) (getI_nn hx) (getI_ltI hx rfl)) ?_
   refine sQ 37 (Y_loadA (B := B) (i := (i : Int).toNat * 2) (cs := (p.Terms.flatMap eN0)) (vs := [vi x.Mask, vi x.Coef]) k_ag_136 k_sz_136_2 rfl rfl (hS5.rf (i := 0) rfl) (eN1 x) (gi_seg eN1 hx)) ?_
   refine sS 4 (Ys_alloc (T := 136) (cs := [vi 0, vi 0]) (m := 2) hS5 k_zero_136 rfl rfl rfl) ?_
   rintro _ w_4 ⟨b1, rfl, hS6⟩
   refine sQ 3 (Y_assign (v := vi (i : Int)) rfl rfl) ?_
   refine s0 (Ys_store (i := 1) (s := 2) (B := aD b1) (T' := 136) (v := .agg #[vi x.Mask, vi x.Coef]) (vs := [vi x.Mask, vi x.Coef]) (k := 0) (cs' := [vi x.Mask, vi x.Coef]) hS6 k_sz_136_2 rfl rfl rfl rfl rfl rfl rfl (lB rfl) rfl rfl) ?_
   rintro _ w_5 ⟨rfl, hS7⟩
   refine rw_nil (cw_seq ?_)
   obtain ⟨hsh, hb1⟩ := chk_inv hb1
   obtain ⟨r_4, hc3, hb1⟩ := bind_inv hb1
   obtain ⟨r_5, hc4, hb1⟩ := bind_inv hb1
   obtain ⟨x1, hx1, hb1⟩ := bind_inv hb1
   refine ra_start (hS7.se [0, 1]).fn (by kernel_rfl) ?_
   have hS10 := hS7.drew
   refine rq 0 38 (v := pt (aD b1) 0) rfl (hS10.se [0, 1]) (fun w' hw' => (Y_fieldAddr (B := aD b1) (i := 0) (s := 0) k_fd_136_0_0_3 k_sz_3_1 rfl rfl)) ?_
   refine rq 1 39 (v := vi x.Mask) rfl (hS10.se [0, 1]) (fun w' hw' => (Y_load1 (B := aD b1) (i := 0) (cs := [vi x.Mask, vi x.Coef]) (v := vi x.Mask) k_sc_3 rfl rfl (ST.cf hw' (i := 1) rfl) rfl)) ?_
   refine rq 2 40 (v := pt (aD b) 0) rfl (hS10.se [0, 1]) (fun w' hw' => (Y_fieldAddr (B := aD b) (i := 0) (s := 0) k_fd_70_0_0_3 k_sz_3_1 rfl (hf.get 1 0 rfl))) ?_
   refine rq 3 41 (v := vi p.Qubits) rfl (hS10.se [0, 1]) (fun w' hw' => (Y_load1 (B := aD b) (i := 0) (cs := [vi p.Qubits, vi p.Phase, .slice B p.Terms.length c, .slice B1 p.Out.Rows.length c1]) (v := vi p.Qubits) k_sc_3 rfl rfl (ST.cf hw' (i := 0) rfl) rfl)) ?_
   refine rq 4 42 (v := .int .u64 (IntKind.u64.wrap p.Qubits)) rfl (hS10.se [0, 1]) (fun w' hw' => (Y_conv (k := .i64) (a := p.Qubits) (T := 3) (T' := 76) k_us_3 k_int_76_u64 rfl rfl)) ?_
   refine rq 5 43 (v := vi (shlK .i64 1 (IntKind.u64.wrap p.Qubits))) rfl (hS10.se [0, 1]) (fun w' hw' => (Y_shl (k := .i64) (a := 1) (k' := .u64) (b := (IntKind.u64.wrap p.Qubits)) rfl rfl rfl hsh)) ?_
   refine rq 6 44 (v := vi (i64.wrap ((shlK .i64 1 (IntKind.u64.wrap p.Qubits)) - 1))) rfl (hS10.se [0, 1]) (fun w' hw' => (Y_sub (k := .i64) (a := (shlK .i64 1 (IntKind.u64.wrap p.Qubits))) (b := 1) rfl rfl rfl)) ?_
   refine rA [7] ?_
   refine ra_c 45 (i := 7) rfl rfl rfl (Yc_func (g := 51) (vs := [vi x.Mask, vi 1, vi (i64.wrap ((shlK .i64 1 (IntKind.u64.wrap p.Qubits)) - 1))]) k_call_51 rfl (mc rfl (mc rfl (mc rfl mn))) (c_spec_l1In x.Mask 1 (i64.wrap ((shlK .i64 1 (IntKind.u64.wrap p.Qubits)) - 1)) _  (hS10.inn0 [] rfl) hc3)) ?_ ?_
   ·rintro _ w_6 ⟨rfl, hd1⟩
    have hS11 := hS10.out00 hd1
    refine ⟨(hS11.se [0, 1]), ?_⟩
    refine rq 8 46 (v := .bool (!r_4)) rfl (hS11.se [0, 1]) (fun w' hw' => (Y_not (p := r_4) rfl rfl)) ?_
    refine rq 9 47 (v := .bool (!r_4)) rfl (hS11.se [0, 1]) (fun w' hw' => (Y_move (v := .bool (!r_4)) rfl rfl)) ?_
    refine ra_gq 10 48 (B := (!(!r_4))) (v := pt (aD b1) 1) rfl rfl rfl (uF_ 47) (by kernel_rfl) (by kernel_rfl) (by kernel_rfl) (hS11.se [0, 1]) (fun hg15 w' hw' => (Y_fieldAddr (B := aD b1) (i := 0) (s := 0) k_fd_136_1_1_3 k_sz_3_1 rfl rfl)) ?_
    refine ra_gq 11 49 (B := (!(!r_4))) (v := vi x.Coef) rfl rfl rfl (uF_ 47) (by kernel_rfl) (by kernel_rfl) (by kernel_rfl) (hS11.se [0, 1]) (fun hg16 w' hw' => (Y_load1 (B := aD b1) (i := 1) (cs := [vi x.Mask, vi x.Coef]) (v := vi x.Coef) k_sc_3 rfl (gv_of (v := pt (aD b1) 1) hg16) (ST.cf hw' (i := 1) rfl) rfl)) ?_
    refine rA [12] ?_
    refine ra_gc 50 (i := 12) (B := (!(!r_4))) (v := .bool r_5) (F := hS11.fn) rfl rfl rfl (uF_ 47) hS11 (fun hg17 => (Yc_func (g := 51) (vs := [vi x.Coef, vi 1, vi 7]) k_call_51 rfl (mc (gv_of (v := vi x.Coef) hg17) (mc rfl (mc rfl mn))) (CV.mono (c_spec_l1In x.Coef 1 7 _  (hS11.inn0 [] rfl) (gb_inv hc4 hg17)) (by rintro _ _ ⟨rfl, h⟩; exact ⟨rfl, hS11.out00 h⟩)))) ?_ ?_
    ·rintro w_7 hS12
     refine ⟨(hS12.se [0, 1]), ?_⟩
     refine ra_gq 13 51 (B := (!(!r_4))) (v := .bool (!r_5)) rfl rfl rfl (uF_ 47) (by kernel_rfl) (by kernel_rfl) (by kernel_rfl) (hS12.se [0, 1]) (fun hg18 w' hw' => (Y_not (p := r_5) rfl (gv_of (v := .bool r_5) hg18))) ?_
     refine rq 14 52 (v := .bool ((!r_4) || (!r_5))) rfl (hS12.se [0, 1]) (fun w' hw' => (Y_or (b := (!r_4)) (z := (!r_5)) rfl rfl rfl rfl)) ?_
     refine rq 15 53 (v := .bool ((!r_4) || (!r_5))) rfl (hS12.se [0, 1]) (fun w' hw' => (Y_move (v := .bool ((!r_4) || (!r_5))) rfl rfl)) ?_
     refine ra_gq 16 54 (B := (!((!r_4) || (!r_5)))) (v := vi (i : Int)) rfl rfl rfl (uF_ 53) (by kernel_rfl) (by kernel_rfl) (by kernel_rfl) (hS12.se [0, 1]) (fun hg19 w' hw' => (Y_move (v := vi (i : Int)) rfl rfl)) ?_
     refine ra_gq 17 55 (B := (!((!r_4) || (!r_5)))) (v := .bool (decide (0 < (i : Int)))) rfl rfl rfl (uF_ 53) (by kernel_rfl) (by kernel_rfl) (by kernel_rfl) (hS12.se [0, 1]) (fun hg20 w' hw' => (Y_gt (k := .i64) (a := (i : Int)) (b := 0) rfl (gv_of (v := vi (i : Int)) hg20) rfl)) ?_
     refine ra_gq 18 56 (B := (!((!r_4) || (!r_5)))) (v := .bool (decide (0 < (i : Int)))) rfl rfl rfl (uF_ 53) (by kernel_rfl) (by kernel_rfl) (by kernel_rfl) (hS12.se [0, 1]) (fun hg21 w' hw' => (Y_move (v := .bool (decide (0 < (i : Int)))) rfl (gv_of (v := .bool (decide (0 < (i : Int)))) hg21))) ?_
     refine ra_gq 19 57 (B := ((!((!r_4) || (!r_5))) && (decide (0 < (i : Int))))) (v := pt (aD b) 2) rfl rfl rfl (wt_gt (gd_of (t := 56) (by kernel_rfl) rfl)) (by kernel_rfl) (by kernel_rfl) (by kernel_rfl) (hS12.se [0, 1]) (fun hg22 w' hw' => (Y_fieldAddr (B := aD b) (i := 0) (s := 0) k_fd_70_2_2_65 k_sz_65_1 rfl (hf.get 1 0 rfl))) ?_
     refine ra_gq 20 58 (B := ((!((!r_4) || (!r_5))) && (decide (0 < (i : Int))))) (v := .slice B p.Terms.length c) rfl rfl rfl (wt_gt (gd_of (t := 56) (by kernel_rfl) rfl)) (by kernel_rfl) (by kernel_rfl) (by kernel_rfl) (hS12.se [0, 1]) (fun hg23 w' hw' => (Y_load1 (B := aD b) (i := 2) (cs := [vi p.Qubits, vi p.Phase, .slice B p.Terms.length c, .slice B1 p.Out.Rows.length c1]) (v := .slice B p.Terms.length c) k_sc_65 rfl (gv_of (v := pt (aD b) 2) hg23) (ST.cf hw' (i := 0) rfl) rfl)) ?_
     refine ra_gq 21 59 (B := ((!((!r_4) || (!r_5))) && (decide (0 < (i : Int))))) (v := vi (i : Int)) rfl rfl rfl (wt_gt (gd_of (t := 56) (by kernel_rfl) rfl)) (by kernel_rfl) (by kernel_rfl) (by kernel_rfl) (hS12.se [0, 1]) (fun hg24 w' hw' => (Y_move (v := vi (i : Int)) rfl rfl)) ?_
     refine ra_gq 22 60 (B := ((!((!r_4) || (!r_5))) && (decide (0 < (i : Int))))) (v := vi (i64.wrap ((i : Int) - 1))) rfl rfl rfl (wt_gt (gd_of (t := 56) (by kernel_rfl) rfl)) (by kernel_rfl) (by kernel_rfl) (by kernel_rfl) (hS12.se [0, 1]) (fun hg25 w' hw' => (Y_sub (k := .i64) (a := (i : Int)) (b := 1) rfl (gv_of (v := vi (i : Int)) hg25) rfl)) ?_
     refine ra_gq 23 61 (B := ((!((!r_4) || (!r_5))) && (decide (0 < (i : Int))))) (v := pt B ((i64.wrap ((i : Int) - 1)).toNat * 2)) rfl rfl rfl (wt_gt (gd_of (t := 56) (by kernel_rfl) rfl)) (by kernel_rfl) (by kernel_rfl) (by kernel_rfl) (hS12.se [0, 1]) (fun hg26 w' hw' => (Y_index (B := B) (m := p.Terms.length) (c := c) (k := .i64) (i := (i64.wrap ((i : Int) - 1))) k_sl_65_136 k_sz_136_2 rfl (gv_of (v := .slice B p.Terms.length c) hg26) (gv_of (v := vi (i64.wrap ((i : Int) - 1))) hg26) (gi_isSome eN1 rfl (ST.rf hw' (i := 0) rfl) (gb_inv hx1 hg26)) (getI_nn (gb_inv hx1 hg26)) (getI_ltI (gb_inv hx1 hg26) rfl))) ?_
     refine ra_gq 24 62 (B := ((!((!r_4) || (!r_5))) && (decide (0 < (i : Int))))) (v := pt B ((i64.wrap ((i : Int) - 1)).toNat * 2 + 0)) rfl rfl rfl (wt_gt (gd_of (t := 56) (by kernel_rfl) rfl)) (by kernel_rfl) (by kernel_rfl) (by kernel_rfl) (hS12.se [0, 1]) (fun hg27 w' hw' => (Y_fieldAddr (B := B) (i := (i64.wrap ((i : Int) - 1)).toNat * 2) (s := 0) k_fd_136_0_0_3 k_sz_3_1 rfl (gv_of (v := pt B ((i64.wrap ((i : Int) - 1)).toNat * 2)) hg27))) ?_
     refine ra_gq 25 63 (B := ((!((!r_4) || (!r_5))) && (decide (0 < (i : Int))))) (v := vi x1.Mask) rfl rfl rfl (wt_gt (gd_of (t := 56) (by kernel_rfl) rfl)) (by kernel_rfl) (by kernel_rfl) (by kernel_rfl) (hS12.se [0, 1]) (fun hg28 w' hw' => (Y_load1 (B := B) (i := (i64.wrap ((i : Int) - 1)).toNat * 2 + 0) (cs := (p.Terms.flatMap eN0)) (v := vi x1.Mask) k_sc_3 rfl (gv_of (v := pt B ((i64.wrap ((i : Int) - 1)).toNat * 2 + 0)) hg28) (ST.rf hw' (i := 0) rfl) (gi_at eN1 (gb_inv hx1 hg28) rfl))) ?_
     refine ra_gq 26 64 (B := ((!((!r_4) || (!r_5))) && (decide (0 < (i : Int))))) (v := pt (aD b1) 0) rfl rfl rfl (wt_gt (gd_of (t := 56) (by kernel_rfl) rfl)) (by kernel_rfl) (by kernel_rfl) (by kernel_rfl) (hS12.se [0, 1]) (fun hg29 w' hw' => (Y_fieldAddr (B := aD b1) (i := 0) (s := 0) k_fd_136_0_0_3 k_sz_3_1 rfl rfl)) ?_
     refine ra_gq 27 65 (B := ((!((!r_4) || (!r_5))) && (decide (0 < (i : Int))))) (v := vi x.Mask) rfl rfl rfl (wt_gt (gd_of (t := 56) (by kernel_rfl) rfl)) (by kernel_rfl) (by kernel_rfl) (by kernel_rfl) (hS12.se [0, 1]) (fun hg30 w' hw' => (Y_load1 (B := aD b1) (i := 0) (cs := [vi x.Mask, vi x.Coef]) (v := vi x.Mask) k_sc_3 rfl (gv_of (v := pt (aD b1) 0) hg30) (ST.cf hw' (i := 1) rfl) rfl)) ?_
     refine ra_gq 28 66 (B := ((!((!r_4) || (!r_5))) && (decide (0 < (i : Int))))) (v := .bool (decide (x.Mask ≤ x1.Mask))) rfl rfl rfl (wt_gt (gd_of (t := 56) (by kernel_rfl) rfl)) (by kernel_rfl) (by kernel_rfl) (by kernel_rfl) (hS12.se [0, 1]) (fun hg31 w' hw' => (Y_ge (k := .i64) (a := x1.Mask) (b := x.Mask) rfl (gv_of (v := vi x1.Mask) hg31) (gv_of (v := vi x.Mask) hg31))) ?_
     refine ra_gq 29 67 (B := (!((!r_4) || (!r_5)))) (v := .bool ((decide (0 < (i : Int))) && (decide (x.Mask ≤ x1.Mask)))) rfl rfl rfl (uF_ 53) (by kernel_rfl) (by kernel_rfl) (by kernel_rfl) (hS12.se [0, 1]) (fun hg32 w' hw' => (Y_and (b := (decide (0 < (i : Int)))) (z := (decide (x.Mask ≤ x1.Mask))) rfl (gv_of (v := .bool (decide (0 < (i : Int)))) hg32) (gv_and (B := (!((!r_4) || (!r_5)))) (C := (decide (0 < (i : Int)))) (v := .bool (decide (x.Mask ≤ x1.Mask))) hg32) rfl)) ?_
     refine rq 30 68 (v := .bool (((!r_4) || (!r_5)) || ((decide (0 < (i : Int))) && (decide (x.Mask ≤ x1.Mask))))) rfl (hS12.se [0, 1]) (fun w' hw' => (Y_or (b := ((!r_4) || (!r_5))) (z := ((decide (0 < (i : Int))) && (decide (x.Mask ≤ x1.Mask)))) rfl rfl rfl rfl)) ?_
     refine ra_done (by kernel_rfl) ?_
     refine cw_cond (b := (((!r_4) || (!r_5)) || ((decide (0 < (i : Int))) && (decide (x.Mask ≤ x1.Mask))))) rfl (fun hb2 => ?_) (fun hb2 => ?_)
     ·skip
      have hF4 := ct hb1 hb2
      refine cw_seq (cw_region ?_)
      refine sQ 2 (Y_assign (v := .bool false) rfl rfl) (rw_nil (cw_ret ?_))
      obtain rfl := some_inj hF4
      obtain rfl := some_inj hL1
      obtain rfl := some_inj hF3
      exact ret1 Tryz.results113 (v1 := .bool false) (resAt_tmp rfl) ⟨rfl, (hS12.sN [])⟩
     ·skip
      have hF5 := cf' hb1 hb2
      refine cw_skip (cw_region ?_)
      refine sQ 69 (Y_add (k := .i64) (a := (i : Int)) (b := 1) rfl (hf.get 33 3 rfl) rfl) ?_
      refine sQ 33 (Y_move (v := vi (i64.wrap ((i : Int) + 1))) rfl rfl) (rw_nil ?_)
      obtain rfl := some_inj hF5
      exact ⟨k_1, Nat.lt_succ_self _, i + 1, (FF.cons (hf.get 1 0 rfl) (FF.cons (hf.get 31 1 rfl) (FF.cons (hf.get 32 2 rfl) (FF.cons (congrArg (Value.int .i64) (wr_succ hlt1 hN)) FF.nil)))), (hS12.sel [0] rfl rfl), (by omega), hL1⟩
    exact allR_nil
   exact allR_nil
  ·skip
   obtain rfl : k_ = 0 := by have h := of_decide_eq_false hlt; omega
   refine cw_exit rfl ?_
   obtain rfl := some_inj hL
   refine cw_seq (cw_region ?_)
   refine sQ 2 (Y_assign (v := .bool true) rfl rfl) (rw_nil (cw_ret ?_))
   obtain rfl := some_inj hF3
   exact ret1 Tryz.results113 (v1 := .bool true) (resAt_tmp rfl) ⟨rfl, (hS5.sN [])⟩

theorem c_spec_l15Nearest (n : Int) (word : Int)  (w0 : World)  (hS : ST w0 [] w0 [] []) {r_ : Int} {r_1 : Int} (hF : F_spec_l15Nearest n word = some (r_, r_1)) :
  CV Tryz.prog 114 #[vi n, vi word] w0 (fun v w' => v = .tuple #[vi r_, vi r_1] ∧ ST w0 [] w' [] []) := by
 unfold F_spec_l15Nearest at hF
 refine cv_of_cw 34 Tryz.func114 rfl Tryz.ntmps114 rfl ?_
 refine cw_seq (cw_region ?_)
 refine sQ 4 (Y_assign (v := vi 0) rfl rfl) ?_
 refine sQ 5 (Y_assign (v := vi 0) rfl rfl) (rw_nil (cw_seq (cw_region ?_)))
 refine sQ 11 (Y_move (v := vi word) rfl rfl) ?_
 obtain ⟨r_2, hc, hF⟩ := bind_inv hF
 refine sc 12 rfl rfl (Yc_func (g := 190) (vs := [vi word]) k_call_190 rfl (mc rfl mn) (c_spec_l1Set word _  (hS.inn0 [] rfl) hc)) ?_
 rintro _ w_ ⟨B, c, rfl, hd⟩
 have hS1 := hS.out0 hd
 refine sQ 13 (Y_len (B := B) (m := r_2.length) (c := c) k_sl_66_3 rfl rfl) ?_
 refine sQ 6 (Y_assign (v := vi 0) rfl rfl) ?_
 refine sQ 7 (Y_assign (v := vi (r_2.length : Int)) rfl rfl) (rw_nil (cw_seq (cw_seq (cw_region ?_))))
 refine sQ 14 (Y_move (v := vi n) rfl rfl) ?_
 obtain ⟨r_3, hc1, hF⟩ := bind_inv hF
 refine sc 15 rfl rfl (Yc_func (g := 119) (vs := [vi n]) k_call_119 rfl (mc rfl mn) (c_spec_l15Codes n _  (hS1.inn0 [] rfl) hc1)) ?_
 rintro _ w_1 ⟨B1, c1, rfl, hd1⟩
 have hS2 := hS1.out0 hd1
 refine sQ 16 (Y_len (B := B1) (m := r_3.length) (c := c1) k_sl_66_3 rfl rfl) ?_
 refine sQ 17 (Y_move (v := vi 0) rfl rfl) (rw_nil ?_)
 obtain ⟨hN, hF⟩ := chk_inv hF
 obtain ⟨z, hz, hF1⟩ := bind_inv hF
 refine cw_block ?_
 refine cw_loop (fun k f w => ∃ (i : Nat) (best : Int) (least : Int), FF f [(1, vi word), (6, vi best), (7, vi least), (15, .slice B1 r_3.length c1), (16, vi (r_3.length : Int)), (17, vi (i : Int))] ∧ ST w0 [] w [⟨B1, 3, (r_3.flatMap encI), c1 * 1⟩] [] ∧ i + k = r_3.length ∧ forN (F_spec_l15Nearest_l1 r_3 word) k i (best, least) = some z) r_3.length ⟨0, 0, (r_2.length : Int), (FF.cons rfl (FF.cons rfl (FF.cons rfl (FF.cons rfl (FF.cons rfl (FF.cons rfl FF.nil)))))), (hS2.sel [1] rfl rfl), Nat.zero_add _, hz⟩ ?_
 rintro k_ f w ⟨i, best, least, hf, hS3, hik, hL⟩
 refine cw_seq (cw_region ?_)
 refine sQ 18 (Y_lt (k := .i64) (a := (i : Int)) (b := (r_3.length : Int)) rfl (hf.get 17 5 rfl) (hf.get 16 4 rfl)) (rw_nil (cw_seq ?_))
 refine cw_cond (b := (decide ((i : Int) < (r_3.length : Int)))) rfl (fun hlt => ?_) (fun hlt => ?_)
 ·skip
  have hlt1 : i < r_3.length := by have h := of_decide_eq_true hlt; omega
  obtain ⟨k_1, rfl⟩ : ∃ k2, k_ = k2 + 1 := ⟨k_ - 1, by omega⟩
  obtain ⟨y, hb, hL1⟩ := forN_go hL
  unfold F_spec_l15Nearest_l1 at hb
  refine cw_skip (cw_seq ?_)
  obtain ⟨z1, hz1, hF2⟩ := bind_inv hb
  refine cw_mid (fun f w => ∃ (best1 : Int) (least1 : Int), (best1, least1) = z1 ∧ FF f [(1, vi word), (6, vi best1), (7, vi least1), (15, .slice B1 r_3.length c1), (16, vi (r_3.length : Int)), (17, vi (i : Int))] ∧ ST w0 [] w [⟨B1, 3, (r_3.flatMap encI), c1 * 1⟩] []) ?_ ?_
  ·skip
   refine cw_block (cw_seq (cw_region ?_))
   obtain ⟨x, hx, hz1⟩ := bind_inv hz1
   refine sQ 19 (Y_index (B := B1) (m := r_3.length) (c := c1) (k := .i64) (i := (i : Int)) k_sl_66_3 k_sz_3_1 rfl (hf.get 15 3 rfl) (hf.get 17 5 rfl) (gi_isSome encI_len rfl (hS3.cf (i := 0) rfl) hx) (getI_nn hx) (getI_ltI hx rfl)) ?_
   refine sQ 20 (Y_load1 (B := B1) (i := (i : Int).toNat * 1) (cs := (r_3.flatMap encI)) (v := vi x) k_sc_3 rfl rfl (hS3.cf (i := 0) rfl) (gi_at0 encI_len hx rfl)) ?_
   refine sQ 9 (Y_assign (v := vi x) rfl rfl) (rw_nil (cw_seq (cw_region ?_)))
   refine sQ 21 (Y_move (v := vi word) rfl (hf.get 1 0 rfl)) ?_
   refine sQ 22 (Y_move (v := vi x) rfl rfl) ?_
   refine sQ 23 (Y_bxor (k := .i64) (a := word) (b := x) rfl rfl rfl) ?_
   obtain ⟨r_4, hc2, hz1⟩ := bind_inv hz1
   refine sc 24 rfl rfl (Yc_func (g := 190) (vs := [vi (bits .xor .i64 word x)]) k_call_190 rfl (mc rfl mn) (c_spec_l1Set (bits .xor .i64 word x) _  (hS3.inn0 [] rfl) hc2)) ?_
   rintro _ w_2 ⟨B2, c2, rfl, hd2⟩
   have hS5 := hS3.out0 hd2
   refine sQ 25 (Y_len (B := B2) (m := r_4.length) (c := c2) k_sl_66_3 rfl rfl) ?_
   refine sQ 10 (Y_assign (v := vi (r_4.length : Int)) rfl rfl) (rw_nil (cw_seq (cw_region ?_)))
   refine sQ 26 (Y_move (v := vi (r_4.length : Int)) rfl rfl) ?_
   refine sQ 27 (Y_move (v := vi least) rfl (hf.get 7 2 rfl)) ?_
   refine sQ 28 (Y_lt (k := .i64) (a := (r_4.length : Int)) (b := least) rfl rfl rfl) (rw_nil ?_)
   refine cw_cond (b := (decide ((r_4.length : Int) < least))) rfl (fun hb1 => ?_) (fun hb1 => ?_)
   ·skip
    have hF3 := ct hz1 hb1
    refine cw_seq (cw_region ?_)
    refine sQ 29 (Y_move (v := vi x) rfl rfl) ?_
    refine sQ 6 (Y_assign (v := vi x) rfl rfl) (rw_nil (cw_region ?_))
    refine sQ 30 (Y_move (v := vi (r_4.length : Int)) rfl rfl) ?_
    refine sQ 7 (Y_assign (v := vi (r_4.length : Int)) rfl rfl) (rw_nil ?_)
    exact ⟨x, (r_4.length : Int), (some_inj hF3), (FF.cons (hf.get 1 0 rfl) (FF.cons rfl (FF.cons rfl (FF.cons (hf.get 15 3 rfl) (FF.cons (hf.get 16 4 rfl) (FF.cons (hf.get 17 5 rfl) FF.nil)))))), (hS5.sel [0] rfl rfl)⟩
   ·skip
    have hF4 := cf' hz1 hb1
    refine cw_skip ?_
    exact ⟨best, least, (some_inj hF4), (FF.cons (hf.get 1 0 rfl) (FF.cons (hf.get 6 1 rfl) (FF.cons (hf.get 7 2 rfl) (FF.cons (hf.get 15 3 rfl) (FF.cons (hf.get 16 4 rfl) (FF.cons (hf.get 17 5 rfl) FF.nil)))))), (hS5.sel [0] rfl rfl)⟩
  rintro f w ⟨best1, least1, rfl, hf1, hS4⟩
  refine cw_region ?_
  refine sQ 31 (Y_add (k := .i64) (a := (i : Int)) (b := 1) rfl (hf1.get 17 5 rfl) rfl) ?_
  refine sQ 17 (Y_move (v := vi (i64.wrap ((i : Int) + 1))) rfl rfl) (rw_nil ?_)
  obtain rfl := some_inj hF2
  exact ⟨k_1, Nat.lt_succ_self _, i + 1, best1, least1, (FF.cons (hf1.get 1 0 rfl) (FF.cons (hf1.get 6 1 rfl) (FF.cons (hf1.get 7 2 rfl) (FF.cons (hf1.get 15 3 rfl) (FF.cons (hf1.get 16 4 rfl) (FF.cons (congrArg (Value.int .i64) (wr_succ hlt1 hN)) FF.nil)))))), (hS4.sel [0] rfl rfl), (by omega), hL1⟩
 ·skip
  obtain rfl : k_ = 0 := by have h := of_decide_eq_false hlt; omega
  refine cw_exit rfl ?_
  obtain rfl := some_inj hL
  refine cw_seq (cw_region ?_)
  refine sQ 32 (Y_move (v := vi best) rfl (hf.get 6 1 rfl)) ?_
  refine sQ 33 (Y_move (v := vi least) rfl (hf.get 7 2 rfl)) ?_
  refine sQ 4 (Y_assign (v := vi best) rfl rfl) ?_
  refine sQ 5 (Y_assign (v := vi least) rfl rfl) (rw_nil (cw_ret ?_))
  obtain ⟨rfl, rfl⟩ := pr2 (some_inj hF1)
  exact ret2 Tryz.results114 (v1 := vi best) (resAt_tmp rfl) (v2 := vi least) (resAt_tmp rfl) ⟨rfl, (hS3.sN [])⟩

theorem c_spec_l15Odd (p : TPhasePoly) (B : Option Addr) (c n : Nat) (B1 : Option Addr) (c1 n1 : Nat) (w0 : World) (hn : p.Terms.length = n) (hn1 : p.Out.Rows.length = n1) (hS : ST w0 [] w0 [] [⟨B, (p.Terms.flatMap eN0)⟩, ⟨B1, (p.Out.Rows.flatMap encI)⟩]) {r_ : Int} (hF : F_spec_l15Odd p = some r_) :
  CV Tryz.prog 115 #[.agg #[vi p.Qubits, vi p.Phase, .slice B n c, .slice B1 n1 c1]] w0 (fun v w' => v = vi r_ ∧ ST w0 [] w' [] []) := by
 subst hn
 subst hn1
 unfold F_spec_l15Odd at hF
 refine cv_of_cw 25 Tryz.func115 rfl Tryz.ntmps115 rfl ?_
 refine cw_seq (cw_region ?_)
 refine sS 1 (Ys_box (T := 70) (v := .agg #[vi p.Qubits, vi p.Phase, .slice B p.Terms.length c, .slice B1 p.Out.Rows.length c1]) (cs := [vi p.Qubits, vi p.Phase, .slice B p.Terms.length c, .slice B1 p.Out.Rows.length c1]) (m := 4) hS rfl rfl rfl rfl) ?_
 rintro _ w_ ⟨b, rfl, hS1⟩
 refine sQ 2 (Y_assign (v := vi 0) rfl rfl) (rw_nil (cw_seq (cw_region ?_)))
 refine sQ 3 (Y_assign (v := vi 0) rfl rfl) (rw_nil (cw_seq (cw_seq (cw_region ?_))))
 refine sQ 6 (Y_fieldAddr (B := aD b) (i := 0) (s := 0) k_fd_70_2_2_65 k_sz_65_1 rfl rfl) ?_
 refine sQ 7 (Y_load1 (B := aD b) (i := 2) (cs := [vi p.Qubits, vi p.Phase, .slice B p.Terms.length c, .slice B1 p.Out.Rows.length c1]) (v := .slice B p.Terms.length c) k_sc_65 rfl rfl (hS1.cf (i := 0) rfl) rfl) ?_
 refine sQ 8 (Y_len (B := B) (m := p.Terms.length) (c := c) k_sl_65_136 rfl rfl) ?_
 refine sQ 9 (Y_move (v := vi 0) rfl rfl) (rw_nil ?_)
 obtain ⟨hN, hF⟩ := chk_inv hF
 obtain ⟨z, hz, hF1⟩ := bind_inv hF
 refine cw_block ?_
 refine cw_loop (fun k f w => ∃ (i : Nat) (word : Int), FF f [(3, vi word), (7, .slice B p.Terms.length c), (8, vi (p.Terms.length : Int)), (9, vi (i : Int))] ∧ ST w0 [] w [] [⟨B, (p.Terms.flatMap eN0)⟩, ⟨B1, (p.Out.Rows.flatMap encI)⟩] ∧ i + k = p.Terms.length ∧ forN (F_spec_l15Odd_l1 p) k i word = some z) p.Terms.length ⟨0, 0, (FF.cons rfl (FF.cons rfl (FF.cons rfl (FF.cons rfl FF.nil)))), (hS1.sel [] rfl rfl), Nat.zero_add _, hz⟩ ?_
 rintro k_ f w ⟨i, word, hf, hS2, hik, hL⟩
 refine cw_seq (cw_region ?_)
 refine sQ 10 (Y_lt (k := .i64) (a := (i : Int)) (b := (p.Terms.length : Int)) rfl (hf.get 9 3 rfl) (hf.get 8 2 rfl)) (rw_nil (cw_seq ?_))
 refine cw_cond (b := (decide ((i : Int) < (p.Terms.length : Int)))) rfl (fun hlt => ?_) (fun hlt => ?_)
 ·skip
  have hlt1 : i < p.Terms.length := by have h := of_decide_eq_true hlt; omega
  obtain ⟨k_1, rfl⟩ : ∃ k2, k_ = k2 + 1 := ⟨k_ - 1, by omega⟩
  obtain ⟨y, hb, hL1⟩ := forN_go hL
  unfold F_spec_l15Odd_l1 at hb
  refine cw_skip (cw_seq (cw_block (cw_seq (cw_region ?_))))
  obtain ⟨x, hx, hb⟩ := bind_inv hb
  refine sQ 11 (Y_index (B := B) (m := p.Terms.length) (c := c) (k := .i64) (i := (i : Int)) k_sl_65_136 k_sz_136_2 rfl (hf.get 7 1 rfl) (hf.get 9 3 rfl) (gi_isSome eN1 rfl (hS2.rf (i := 0) rfl) hx) (getI_nn hx) (getI_ltI hx rfl)) ?_
  refine sQ 12 (Y_loadA (B := B) (i := (i : Int).toNat * 2) (cs := (p.Terms.flatMap eN0)) (vs := [vi x.Mask, vi x.Coef]) k_ag_136 k_sz_136_2 rfl rfl (hS2.rf (i := 0) rfl) (eN1 x) (gi_seg eN1 hx)) ?_
  refine sS 5 (Ys_alloc (T := 136) (cs := [vi 0, vi 0]) (m := 2) hS2 k_zero_136 rfl rfl rfl) ?_
  rintro _ w_1 ⟨b1, rfl, hS3⟩
  refine s0 (Ys_store (i := 0) (s := 2) (B := aD b1) (T' := 136) (v := .agg #[vi x.Mask, vi x.Coef]) (vs := [vi x.Mask, vi x.Coef]) (k := 0) (cs' := [vi x.Mask, vi x.Coef]) hS3 k_sz_136_2 rfl rfl rfl rfl rfl rfl rfl (lB rfl) rfl rfl) ?_
  rintro _ w_2 ⟨rfl, hS4⟩
  refine rw_nil (cw_region ?_)
  refine sQ 13 (Y_move (v := vi word) rfl (hf.get 3 0 rfl)) ?_
  refine sQ 14 (Y_fieldAddr (B := aD b1) (i := 0) (s := 0) k_fd_136_1_1_3 k_sz_3_1 rfl rfl) ?_
  refine sQ 15 (Y_load1 (B := aD b1) (i := 1) (cs := [vi x.Mask, vi x.Coef]) (v := vi x.Coef) k_sc_3 rfl rfl (hS4.cf (i := 0) rfl) rfl) ?_
  refine sQ 16 (Y_rem (k := .i64) (a := x.Coef) (b := 2) rfl rfl rfl (by decide)) ?_
  refine sQ 17 (Y_fieldAddr (B := aD b1) (i := 0) (s := 0) k_fd_136_0_0_3 k_sz_3_1 rfl rfl) ?_
  refine sQ 18 (Y_load1 (B := aD b1) (i := 0) (cs := [vi x.Mask, vi x.Coef]) (v := vi x.Mask) k_sc_3 rfl rfl (hS4.cf (i := 0) rfl) rfl) ?_
  refine sQ 19 (Y_sub (k := .i64) (a := x.Mask) (b := 1) rfl rfl rfl) ?_
  refine sQ 20 (Y_conv (k := .i64) (a := (i64.wrap (x.Mask - 1))) (T := 3) (T' := 76) k_us_3 k_int_76_u64 rfl rfl) ?_
  obtain ⟨hsh, hb⟩ := chk_inv hb
  refine sQ 21 (Y_shl (k := .i64) (a := (Int.tmod x.Coef 2)) (k' := .u64) (b := (IntKind.u64.wrap (i64.wrap (x.Mask - 1)))) rfl rfl rfl hsh) ?_
  refine sQ 22 (Y_bor (k := .i64) (a := word) (b := (shlK .i64 (Int.tmod x.Coef 2) (IntKind.u64.wrap (i64.wrap (x.Mask - 1))))) rfl rfl rfl) ?_
  refine sQ 3 (Y_assign (v := vi (bits .or .i64 word (shlK .i64 (Int.tmod x.Coef 2) (IntKind.u64.wrap (i64.wrap (x.Mask - 1)))))) rfl rfl) (rw_nil (cw_region ?_))
  refine sQ 23 (Y_add (k := .i64) (a := (i : Int)) (b := 1) rfl (hf.get 9 3 rfl) rfl) ?_
  refine sQ 9 (Y_move (v := vi (i64.wrap ((i : Int) + 1))) rfl rfl) (rw_nil ?_)
  obtain rfl := some_inj hb
  exact ⟨k_1, Nat.lt_succ_self _, i + 1, (bits .or .i64 word (shlK .i64 (Int.tmod x.Coef 2) (IntKind.u64.wrap (i64.wrap (x.Mask - 1))))), (FF.cons rfl (FF.cons (hf.get 7 1 rfl) (FF.cons (hf.get 8 2 rfl) (FF.cons (congrArg (Value.int .i64) (wr_succ hlt1 hN)) FF.nil)))), (hS4.sel [] rfl rfl), (by omega), hL1⟩
 ·skip
  obtain rfl : k_ = 0 := by have h := of_decide_eq_false hlt; omega
  refine cw_exit rfl ?_
  obtain rfl := some_inj hL
  refine cw_seq (cw_region ?_)
  refine sQ 24 (Y_move (v := vi word) rfl (hf.get 3 0 rfl)) ?_
  refine sQ 2 (Y_assign (v := vi word) rfl rfl) (rw_nil (cw_ret ?_))
  obtain rfl := some_inj hF1
  exact ret1 Tryz.results115 (v1 := vi word) (resAt_tmp rfl) ⟨rfl, (hS2.sN [])⟩

theorem c_spec_l15Shift (p : TPhasePoly) (word : Int) (B : Option Addr) (c n : Nat) (B1 : Option Addr) (c1 n1 : Nat) (w0 : World) (hn : p.Terms.length = n) (hn1 : p.Out.Rows.length = n1) (hS : ST w0 [] w0 [] [⟨B, (p.Terms.flatMap eN0)⟩, ⟨B1, (p.Out.Rows.flatMap encI)⟩]) {r_ : TPhasePoly} (hF : F_spec_l15Shift p word = some r_) :
  CV Tryz.prog 116 #[.agg #[vi p.Qubits, vi p.Phase, .slice B n c, .slice B1 n1 c1], vi word] w0 (fun v w' => ∃ (B2 : Option Addr) (c2 : Nat) (B3 : Option Addr) (c3 : Nat), v = .agg #[vi r_.Qubits, vi r_.Phase, .slice B2 r_.Terms.length c2, .slice B3 r_.Out.Rows.length c3] ∧ ST w0 [] w' [⟨B2, 136, (r_.Terms.flatMap eN0), c2 * 2⟩, ⟨B3, 3, (r_.Out.Rows.flatMap encI), c3 * 1⟩] []) := by
 subst hn
 subst hn1
 unfold F_spec_l15Shift at hF
 refine cv_of_cw 37 Tryz.func116 rfl Tryz.ntmps116 rfl ?_
 refine cw_seq (cw_region ?_)
 refine sS 2 (Ys_box (T := 70) (v := .agg #[vi p.Qubits, vi p.Phase, .slice B p.Terms.length c, .slice B1 p.Out.Rows.length c1]) (cs := [vi p.Qubits, vi p.Phase, .slice B p.Terms.length c, .slice B1 p.Out.Rows.length c1]) (m := 4) hS rfl rfl rfl rfl) ?_
 rintro _ w_ ⟨b, rfl, hS1⟩
 refine sS 4 (Ys_alloc (T := 70) (cs := [vi 0, vi 0, .slice none 0 0, .slice none 0 0]) (m := 4) hS1 k_zero_70 rfl rfl rfl) ?_
 rintro _ w_1 ⟨b1, rfl, hS2⟩
 refine rw_nil (cw_seq (cw_region ?_))
 refine sQ 8 (Y_loadA (B := aD b) (i := 0) (cs := [vi p.Qubits, vi p.Phase, .slice B p.Terms.length c, .slice B1 p.Out.Rows.length c1]) (vs := [vi p.Qubits, vi p.Phase, .slice B p.Terms.length c, .slice B1 p.Out.Rows.length c1]) k_ag_70 k_sz_70_4 rfl rfl (hS2.cf (i := 0) rfl) rfl rfl) ?_
 obtain ⟨r_1, hc, hF⟩ := bind_inv hF
 refine sc 9 rfl rfl (Yc_func (g := 191) (vs := [.agg #[vi p.Qubits, vi p.Phase, .slice B p.Terms.length c, .slice B1 p.Out.Rows.length c1]]) k_call_191 rfl (mc rfl mn) (c_spec_l13By p B c p.Terms.length B1 c1 p.Out.Rows.length _ rfl rfl (hS2.inn0 [(true, 0), (true, 1)] rfl) hc)) ?_
 rintro _ w_2 ⟨B4, c4, rfl, hd⟩
 have hS3 := hS2.out0 hd
 refine sQ 5 (Y_assign (v := .slice B4 r_1.length c4) rfl rfl) (rw_nil (cw_seq (cw_seq (cw_region ?_))))
 refine sQ 10 (Y_move (v := vi word) rfl rfl) ?_
 obtain ⟨r_2, hc1, hF⟩ := bind_inv hF
 refine sc 11 rfl rfl (Yc_func (g := 190) (vs := [vi word]) k_call_190 rfl (mc rfl mn) (c_spec_l1Set word _  (hS3.inn0 [] rfl) hc1)) ?_
 rintro _ w_3 ⟨B5, c5, rfl, hd1⟩
 have hS4 := hS3.out0 hd1
 refine sQ 12 (Y_len (B := B5) (m := r_2.length) (c := c5) k_sl_66_3 rfl rfl) ?_
 refine sQ 13 (Y_move (v := vi 0) rfl rfl) (rw_nil ?_)
 obtain ⟨hN, hF⟩ := chk_inv hF
 obtain ⟨z, hz, hF1⟩ := bind_inv hF
 refine cw_block ?_
 refine cw_loop (fun k f w => ∃ (i : Nat) (by_ : List Int), FF f [(2, pt (aD b) 0), (4, pt (aD b1) 0), (5, .slice B4 r_1.length c4), (11, .slice B5 r_2.length c5), (12, vi (r_2.length : Int)), (13, vi (i : Int))] ∧ by_.length = r_1.length ∧ ST w0 [] w [⟨aD b, 70, [vi p.Qubits, vi p.Phase, .slice B p.Terms.length c, .slice B1 p.Out.Rows.length c1], 4⟩, ⟨aD b1, 70, [vi 0, vi 0, .slice none 0 0, .slice none 0 0], 4⟩, ⟨B4, 3, (by_.flatMap encI), c4 * 1⟩, ⟨B5, 3, (r_2.flatMap encI), c5 * 1⟩] [⟨B, (p.Terms.flatMap eN0)⟩, ⟨B1, (p.Out.Rows.flatMap encI)⟩] ∧ i + k = r_2.length ∧ forN (F_spec_l15Shift_l1 r_2) k i by_ = some z) r_2.length ⟨0, r_1, (FF.cons rfl (FF.cons rfl (FF.cons rfl (FF.cons rfl (FF.cons rfl (FF.cons rfl FF.nil)))))), rfl, (hS4.sel [0, 1, 2, 3] rfl rfl), Nat.zero_add _, hz⟩ ?_
 rintro k_ f w ⟨i, by_, hf, hl, hS5, hik, hL⟩
 refine cw_seq (cw_region ?_)
 refine sQ 14 (Y_lt (k := .i64) (a := (i : Int)) (b := (r_2.length : Int)) rfl (hf.get 13 5 rfl) (hf.get 12 4 rfl)) (rw_nil (cw_seq ?_))
 refine cw_cond (b := (decide ((i : Int) < (r_2.length : Int)))) rfl (fun hlt => ?_) (fun hlt => ?_)
 ·skip
  have hlt1 : i < r_2.length := by have h := of_decide_eq_true hlt; omega
  obtain ⟨k_1, rfl⟩ : ∃ k2, k_ = k2 + 1 := ⟨k_ - 1, by omega⟩
  obtain ⟨y, hb, hL1⟩ := forN_go hL
  unfold F_spec_l15Shift_l1 at hb
  refine cw_skip (cw_seq (cw_block (cw_seq (cw_region ?_))))
  obtain ⟨x, hx, hb⟩ := bind_inv hb
  refine sQ 15 (Y_index (B := B5) (m := r_2.length) (c := c5) (k := .i64) (i := (i : Int)) k_sl_66_3 k_sz_3_1 rfl (hf.get 11 3 rfl) (hf.get 13 5 rfl) (gi_isSome encI_len rfl (hS5.cf (i := 3) rfl) hx) (getI_nn hx) (getI_ltI hx rfl)) ?_
  refine sQ 16 (Y_load1 (B := B5) (i := (i : Int).toNat * 1) (cs := (r_2.flatMap encI)) (v := vi x) k_sc_3 rfl rfl (hS5.cf (i := 3) rfl) (gi_at0 encI_len hx rfl)) ?_
  refine sQ 7 (Y_assign (v := vi x) rfl rfl) (rw_nil (cw_region ?_))
  refine sQ 17 (Y_move (v := .slice B4 r_1.length c4) rfl (hf.get 5 2 rfl)) ?_
  refine sQ 18 (Y_move (v := vi x) rfl rfl) ?_
  refine sQ 19 (Y_add (k := .i64) (a := x) (b := 1) rfl rfl rfl) ?_
  obtain ⟨x1, hx1, hb⟩ := bind_inv hb
  refine sQ 20 (Y_index (B := B4) (m := r_1.length) (c := c4) (k := .i64) (i := (i64.wrap (x + 1))) k_sl_66_3 k_sz_3_1 rfl rfl rfl (gi_isSome encI_len rfl (hS5.cf (i := 2) rfl) hx1) (getI_nn hx1) (getI_ltI hx1 hl)) ?_
  refine sQ 21 (Y_load1 (B := B4) (i := (i64.wrap (x + 1)).toNat * 1) (cs := (by_.flatMap encI)) (v := vi x1) k_sc_3 rfl rfl (hS5.cf (i := 2) rfl) (gi_at0 encI_len hx1 rfl)) ?_
  refine sQ 22 (Y_sub (k := .i64) (a := x1) (b := 1) rfl rfl rfl) ?_
  refine sQ 23 (Y_index (B := B4) (m := r_1.length) (c := c4) (k := .i64) (i := (i64.wrap (x + 1))) k_sl_66_3 k_sz_3_1 rfl rfl rfl (gi_isSome encI_len rfl (hS5.cf (i := 2) rfl) hx1) (getI_nn hx1) (getI_ltI hx1 hl)) ?_
  refine s0 (Ys_store (i := 2) (s := 1) (B := B4) (T' := 3) (v := vi (i64.wrap (x1 - 1))) (vs := [vi (i64.wrap (x1 - 1))]) (k := (i64.wrap (x + 1)).toNat * 1) (cs' := ((by_.set (i64.wrap (x + 1)).toNat (i64.wrap (x1 - 1))).flatMap encI)) hS5 k_sz_3_1 rfl rfl rfl rfl rfl rfl rfl (gi_fit0 encI_len hx1) (gi_set encI_len hx1 (i64.wrap (x1 - 1)) rfl) rfl) ?_
  rintro _ w_4 ⟨rfl, hS6⟩
  refine rw_nil (cw_region ?_)
  refine sQ 24 (Y_add (k := .i64) (a := (i : Int)) (b := 1) rfl (hf.get 13 5 rfl) rfl) ?_
  refine sQ 13 (Y_move (v := vi (i64.wrap ((i : Int) + 1))) rfl rfl) (rw_nil ?_)
  obtain rfl := some_inj hb
  exact ⟨k_1, Nat.lt_succ_self _, i + 1, (by_.set (i64.wrap (x + 1)).toNat (i64.wrap (x1 - 1))), (FF.cons (hf.get 2 0 rfl) (FF.cons (hf.get 4 1 rfl) (FF.cons (hf.get 5 2 rfl) (FF.cons (hf.get 11 3 rfl) (FF.cons (hf.get 12 4 rfl) (FF.cons (congrArg (Value.int .i64) (wr_succ hlt1 hN)) FF.nil)))))), (set_len _ _ _ hl), (hS6.sel [0, 1, 2, 3] rfl rfl), (by omega), hL1⟩
 ·skip
  obtain rfl : k_ = 0 := by have h := of_decide_eq_false hlt; omega
  refine cw_exit rfl ?_
  obtain rfl := some_inj hL
  refine cw_seq ?_
  obtain ⟨r_3, hc2, hF1⟩ := bind_inv hF1
  obtain ⟨r_4, hc3, hF1⟩ := bind_inv hF1
  refine ra_start (hS5.se [0, 2, 3]).fn (by kernel_rfl) ?_
  have hS9 := hS5.drew
  refine rq 0 25 (v := pt (aD b) 0) rfl (hS9.se [0, 2, 3]) (fun w' hw' => (Y_fieldAddr (B := aD b) (i := 0) (s := 0) k_fd_70_0_0_3 k_sz_3_1 rfl (hf.get 2 0 rfl))) ?_
  refine rq 1 26 (v := vi p.Qubits) rfl (hS9.se [0, 2, 3]) (fun w' hw' => (Y_load1 (B := aD b) (i := 0) (cs := [vi p.Qubits, vi p.Phase, .slice B p.Terms.length c, .slice B1 p.Out.Rows.length c1]) (v := vi p.Qubits) k_sc_3 rfl rfl (ST.cf hw' (i := 0) rfl) rfl)) ?_
  refine rq 2 27 (v := pt (aD b) 1) rfl (hS9.se [0, 2, 3]) (fun w' hw' => (Y_fieldAddr (B := aD b) (i := 0) (s := 0) k_fd_70_1_1_3 k_sz_3_1 rfl (hf.get 2 0 rfl))) ?_
  refine rq 3 28 (v := vi p.Phase) rfl (hS9.se [0, 2, 3]) (fun w' hw' => (Y_load1 (B := aD b) (i := 1) (cs := [vi p.Qubits, vi p.Phase, .slice B p.Terms.length c, .slice B1 p.Out.Rows.length c1]) (v := vi p.Phase) k_sc_3 rfl rfl (ST.cf hw' (i := 0) rfl) rfl)) ?_
  refine rq 4 29 (v := .slice B4 r_1.length c4) rfl (hS9.se [0, 2, 3]) (fun w' hw' => (Y_move (v := .slice B4 r_1.length c4) rfl (hf.get 5 2 rfl))) ?_
  refine rq 6 31 (v := pt (aD b) 3) rfl (hS9.se [0, 2, 3]) (fun w' hw' => (Y_fieldAddr (B := aD b) (i := 0) (s := 0) k_fd_70_3_3_68 k_sz_68_1 rfl (hf.get 2 0 rfl))) ?_
  refine rq 7 32 (v := pt (aD b) 3) rfl (hS9.se [0, 2, 3]) (fun w' hw' => (Y_fieldAddr (B := aD b) (i := 3) (s := 0) k_fd_68_0_0_66 k_sz_66_1 rfl rfl)) ?_
  refine rq 8 33 (v := .slice B1 p.Out.Rows.length c1) rfl (hS9.se [0, 2, 3]) (fun w' hw' => (Y_load1 (B := aD b) (i := 3) (cs := [vi p.Qubits, vi p.Phase, .slice B p.Terms.length c, .slice B1 p.Out.Rows.length c1]) (v := .slice B1 p.Out.Rows.length c1) k_sc_66 rfl rfl (ST.cf hw' (i := 0) rfl) rfl)) ?_
  refine rA [5] ?_
  refine ra_c 30 (i := 5) rfl rfl rfl (Yc_func (g := 99) (vs := [.slice B4 r_1.length c4]) k_call_99 rfl (mc rfl mn) (c_spec_l13List by_ B4 c4 r_1.length _ hl (hS9.inn0 [(false, 2)] rfl) hc2)) ?_ ?_
  ·rintro _ w_5 ⟨B6, c6, rfl, hd2⟩
   have hS10 := hS9.out0 hd2
   refine ⟨(hS10.se [0, 2, 3]), ?_⟩
   refine rA [9] ?_
   refine ra_c 34 (i := 9) rfl rfl rfl (Yc_func (g := 177) (vs := [.slice B1 p.Out.Rows.length c1]) k_call_177 rfl (mc rfl mn) (c_spec_l1Own p.Out.Rows B1 c1 p.Out.Rows.length _ rfl (hS10.inn0 [(true, 1)] rfl) hc3)) ?_ ?_
   ·rintro _ w_6 ⟨B7, c7, rfl, hd3⟩
    have hS11 := hS10.out0 hd3
    refine ⟨(hS11.se [0, 2, 3]), ?_⟩
    refine rq 10 35 (v := .agg #[.slice B7 r_4.length c7]) rfl (hS11.se [0, 2, 3]) (fun w' hw' => (Y_buildS (zs := [.slice none 0 0]) (vs := [(0, .slice B7 r_4.length c7)]) (cs := [.slice B7 r_4.length c7]) k_pl_68 k_zero_68 rfl (mpc rfl mpn) rfl)) ?_
    refine rq 11 36 (v := .agg #[vi p.Qubits, vi p.Phase, .slice B6 r_3.length c6, .slice B7 r_4.length c7]) rfl (hS11.se [0, 2, 3]) (fun w' hw' => (Y_buildS (zs := [vi 0, vi 0, .slice none 0 0, .slice none 0 0]) (vs := [(0, vi p.Qubits), (1, vi p.Phase), (2, .slice B6 r_3.length c6), (3, .agg #[.slice B7 r_4.length c7])]) (cs := [vi p.Qubits, vi p.Phase, .slice B6 r_3.length c6, .slice B7 r_4.length c7]) k_pl_70 k_zero_70 rfl (mpc rfl (mpc rfl (mpc rfl (mpc rfl mpn)))) rfl)) ?_
    refine rA [12] ?_
    refine ra_s0 (i := 12) rfl rfl rfl (Ys_store (i := 1) (s := 4) (B := aD b1) (T' := 70) (v := .agg #[vi p.Qubits, vi p.Phase, .slice B6 r_3.length c6, .slice B7 r_4.length c7]) (vs := [vi p.Qubits, vi p.Phase, .slice B6 r_3.length c6, .slice B7 r_4.length c7]) (k := 0) (cs' := [vi p.Qubits, vi p.Phase, .slice B6 r_3.length c6, .slice B7 r_4.length c7]) hS11 k_sz_70_4 rfl (hf.get 4 1 rfl) rfl rfl rfl rfl rfl (lB rfl) rfl rfl) ?_ ?_
    ·rintro _ w_7 ⟨rfl, hS12⟩
     refine ⟨(hS12.se [0, 2, 3]), ?_⟩
     refine ra_done (by kernel_rfl) ?_
     refine cw_ret ?_
     obtain rfl := some_inj hF1
     exact ret1 Tryz.results116 (v1 := .agg #[vi p.Qubits, vi p.Phase, .slice B6 r_3.length c6, .slice B7 r_4.length c7]) (resAt_cellA (B := aD b1) (i := 0) (cs := [vi p.Qubits, vi p.Phase, .slice B6 r_3.length c6, .slice B7 r_4.length c7]) (vs := [vi p.Qubits, vi p.Phase, .slice B6 r_3.length c6, .slice B7 r_4.length c7]) (hf.get 4 1 rfl) k_ag_70 k_sz_70_4 (hS12.cf (i := 1) rfl) rfl rfl) ⟨B6, c6, B7, c7, rfl, (hS12.sN [4, 5])⟩
    exact allR_nil
   exact allR_nil
  exact allR_nil

theorem c_spec_ReduceT (p : TPhasePoly) (B : Option Addr) (c n : Nat) (B1 : Option Addr) (c1 n1 : Nat) (w0 : World) (hn : p.Terms.length = n) (hn1 : p.Out.Rows.length = n1) (hS : ST w0 [] w0 [] [⟨B, (p.Terms.flatMap eN0)⟩, ⟨B1, (p.Out.Rows.flatMap encI)⟩]) {r_ : TPhasePoly} {r_1 : Int} {r_2 : Bool} (hF : F_spec_ReduceT p = some (r_, r_1, r_2)) :
  CV Tryz.prog 44 #[.agg #[vi p.Qubits, vi p.Phase, .slice B n c, .slice B1 n1 c1]] w0 (fun v w' => ∃ (B2 : Option Addr) (c2 : Nat) (B3 : Option Addr) (c3 : Nat), v = .tuple #[.agg #[vi r_.Qubits, vi r_.Phase, .slice B2 r_.Terms.length c2, .slice B3 r_.Out.Rows.length c3], vi r_1, .bool r_2] ∧ ST w0 [] w' [⟨B2, 136, (r_.Terms.flatMap eN0), c2 * 2⟩, ⟨B3, 3, (r_.Out.Rows.flatMap encI), c3 * 1⟩] []) := by
 subst hn
 subst hn1
 unfold F_spec_ReduceT at hF
 refine cv_of_cw 23 Tryz.func44 rfl Tryz.ntmps44 rfl ?_
 refine cw_seq (cw_region ?_)
 refine sS 1 (Ys_box (T := 70) (v := .agg #[vi p.Qubits, vi p.Phase, .slice B p.Terms.length c, .slice B1 p.Out.Rows.length c1]) (cs := [vi p.Qubits, vi p.Phase, .slice B p.Terms.length c, .slice B1 p.Out.Rows.length c1]) (m := 4) hS rfl rfl rfl rfl) ?_
 rintro _ w_ ⟨b, rfl, hS1⟩
 refine sS 2 (Ys_alloc (T := 70) (cs := [vi 0, vi 0, .slice none 0 0, .slice none 0 0]) (m := 4) hS1 k_zero_70 rfl rfl rfl) ?_
 rintro _ w_1 ⟨b1, rfl, hS2⟩
 refine sQ 3 (Y_assign (v := vi 0) rfl rfl) ?_
 refine sQ 4 (Y_assign (v := .bool false) rfl rfl) (rw_nil (cw_seq (cw_seq (cw_region ?_))))
 refine sQ 7 (Y_loadA (B := aD b) (i := 0) (cs := [vi p.Qubits, vi p.Phase, .slice B p.Terms.length c, .slice B1 p.Out.Rows.length c1]) (vs := [vi p.Qubits, vi p.Phase, .slice B p.Terms.length c, .slice B1 p.Out.Rows.length c1]) k_ag_70 k_sz_70_4 rfl rfl (hS2.cf (i := 0) rfl) rfl rfl) ?_
 obtain ⟨r_3, hc, hF⟩ := bind_inv hF
 refine sc 8 rfl rfl (Yc_func (g := 113) (vs := [.agg #[vi p.Qubits, vi p.Phase, .slice B p.Terms.length c, .slice B1 p.Out.Rows.length c1]]) k_call_113 rfl (mc rfl mn) (c_spec_l13Valid p B c p.Terms.length B1 c1 p.Out.Rows.length _ rfl rfl (hS2.inn0 [(true, 0), (true, 1)] rfl) hc)) ?_
 rintro _ w_2 ⟨rfl, hd⟩
 have hS3 := hS2.out00 hd
 refine sQ 9 (Y_not (p := r_3) rfl rfl) (rw_nil ?_)
 refine cw_cond (b := (!r_3)) rfl (fun hb => ?_) (fun hb => ?_)
 ·skip
  have hF1 := ct hF hb
  refine cw_seq (cw_region ?_)
  refine sQ 10 (Y_buildS (zs := [vi 0, vi 0, .slice none 0 0, .slice none 0 0]) (vs := []) (cs := [vi 0, vi 0, .slice none 0 0, .slice none 0 0]) k_pl_70 k_zero_70 rfl mpn rfl) ?_
  refine s0 (Ys_store (i := 1) (s := 4) (B := aD b1) (T' := 70) (v := .agg #[vi 0, vi 0, .slice none 0 0, .slice none 0 0]) (vs := [vi 0, vi 0, .slice none 0 0, .slice none 0 0]) (k := 0) (cs' := [vi 0, vi 0, .slice none 0 0, .slice none 0 0]) hS3 k_sz_70_4 rfl rfl rfl rfl rfl rfl rfl (lB rfl) rfl rfl) ?_
  rintro _ w_3 ⟨rfl, hS4⟩
  refine sQ 3 (Y_assign (v := vi 0) rfl rfl) ?_
  refine sQ 4 (Y_assign (v := .bool false) rfl rfl) (rw_nil (cw_ret ?_))
  have hS5 := hS4.addNil 136
  have hS6 := hS5.addNil 3
  obtain ⟨rfl, rfl, rfl⟩ := pr3 (some_inj hF1)
  exact ret3 Tryz.results44 (v1 := .agg #[vi 0, vi 0, .slice none 0 0, .slice none 0 0]) (resAt_cellA (B := aD b1) (i := 0) (cs := [vi 0, vi 0, .slice none 0 0, .slice none 0 0]) (vs := [vi 0, vi 0, .slice none 0 0, .slice none 0 0]) rfl k_ag_70 k_sz_70_4 (hS6.cf (i := 1) rfl) rfl rfl) (v2 := vi 0) (resAt_tmp rfl) (v3 := .bool false) (resAt_tmp rfl) ⟨none, 0, none, 0, rfl, (hS6.sN [2, 3])⟩
 ·skip
  have hF2 := cf' hF hb
  refine cw_skip (cw_seq ?_)
  obtain ⟨r_4, hc1, hF2⟩ := bind_inv hF2
  obtain ⟨⟨r_5, r_6⟩, hc2, hF2⟩ := bind_inv hF2
  refine ra_start (hS3.se [0, 1]).fn (by kernel_rfl) ?_
  have hS9 := hS3.drew
  refine rq 0 12 (v := pt (aD b) 0) rfl (hS9.se [0, 1]) (fun w' hw' => (Y_fieldAddr (B := aD b) (i := 0) (s := 0) k_fd_70_0_0_3 k_sz_3_1 rfl rfl)) ?_
  refine rq 1 13 (v := vi p.Qubits) rfl (hS9.se [0, 1]) (fun w' hw' => (Y_load1 (B := aD b) (i := 0) (cs := [vi p.Qubits, vi p.Phase, .slice B p.Terms.length c, .slice B1 p.Out.Rows.length c1]) (v := vi p.Qubits) k_sc_3 rfl rfl (ST.cf hw' (i := 0) rfl) rfl)) ?_
  refine rq 2 14 (v := .agg #[vi p.Qubits, vi p.Phase, .slice B p.Terms.length c, .slice B1 p.Out.Rows.length c1]) rfl (hS9.se [0, 1]) (fun w' hw' => (Y_loadA (B := aD b) (i := 0) (cs := [vi p.Qubits, vi p.Phase, .slice B p.Terms.length c, .slice B1 p.Out.Rows.length c1]) (vs := [vi p.Qubits, vi p.Phase, .slice B p.Terms.length c, .slice B1 p.Out.Rows.length c1]) k_ag_70 k_sz_70_4 rfl rfl (ST.cf hw' (i := 0) rfl) rfl rfl)) ?_
  refine rA [3] ?_
  refine ra_c 15 (i := 3) rfl rfl rfl (Yc_func (g := 115) (vs := [.agg #[vi p.Qubits, vi p.Phase, .slice B p.Terms.length c, .slice B1 p.Out.Rows.length c1]]) k_call_115 rfl (mc rfl mn) (c_spec_l15Odd p B c p.Terms.length B1 c1 p.Out.Rows.length _ rfl rfl (hS9.inn0 [(true, 0), (true, 1)] rfl) hc1)) ?_ ?_
  ·rintro _ w_4 ⟨rfl, hd1⟩
   have hS10 := hS9.out00 hd1
   refine ⟨(hS10.se [0, 1]), ?_⟩
   refine rA [4] ?_
   refine ra_c 16 (i := 4) rfl rfl rfl (Yc_func (g := 114) (vs := [vi p.Qubits, vi r_4]) k_call_114 rfl (mc rfl (mc rfl mn)) (c_spec_l15Nearest p.Qubits r_4 _  (hS10.inn0 [] rfl) hc2)) ?_ ?_
   ·rintro _ w_5 ⟨rfl, hd2⟩
    have hS11 := hS10.out00 hd2
    refine ⟨(hS11.se [0, 1]), ?_⟩
    refine rq 5 11 (v := .tuple #[vi r_5, vi r_6]) rfl (hS11.se [0, 1]) (fun w' hw' => (Y_move (v := .tuple #[vi r_5, vi r_6]) rfl rfl)) ?_
    refine rq 6 17 (v := vi r_5) rfl (hS11.se [0, 1]) (fun w' hw' => (Y_extract (v := vi r_5) rfl rfl rfl)) ?_
    refine rq 7 18 (v := vi r_6) rfl (hS11.se [0, 1]) (fun w' hw' => (Y_extract (v := vi r_6) rfl rfl rfl)) ?_
    refine rq 8 5 (v := vi r_5) rfl (hS11.se [0, 1]) (fun w' hw' => (Y_assign (v := vi r_5) rfl rfl)) ?_
    refine rq 9 6 (v := vi r_6) rfl (hS11.se [0, 1]) (fun w' hw' => (Y_assign (v := vi r_6) rfl rfl)) ?_
    refine ra_done (by kernel_rfl) ?_
    refine cw_seq (cw_region ?_)
    refine sQ 19 (Y_loadA (B := aD b) (i := 0) (cs := [vi p.Qubits, vi p.Phase, .slice B p.Terms.length c, .slice B1 p.Out.Rows.length c1]) (vs := [vi p.Qubits, vi p.Phase, .slice B p.Terms.length c, .slice B1 p.Out.Rows.length c1]) k_ag_70 k_sz_70_4 rfl rfl (hS11.cf (i := 0) rfl) rfl rfl) ?_
    refine sQ 20 (Y_move (v := vi r_5) rfl rfl) ?_
    obtain ⟨r_7, hc3, hF2⟩ := bind_inv hF2
    refine sc 21 rfl rfl (Yc_func (g := 116) (vs := [.agg #[vi p.Qubits, vi p.Phase, .slice B p.Terms.length c, .slice B1 p.Out.Rows.length c1], vi r_5]) k_call_116 rfl (mc rfl (mc rfl mn)) (c_spec_l15Shift p r_5 B c p.Terms.length B1 c1 p.Out.Rows.length _ rfl rfl (hS11.inn0 [(true, 0), (true, 1)] rfl) hc3)) ?_
    rintro _ w_6 ⟨B4, c4, B5, c5, rfl, hd3⟩
    have hS12 := hS11.out0 hd3
    refine sQ 22 (Y_move (v := vi r_5) rfl rfl) ?_
    refine s0 (Ys_store (i := 1) (s := 4) (B := aD b1) (T' := 70) (v := .agg #[vi r_7.Qubits, vi r_7.Phase, .slice B4 r_7.Terms.length c4, .slice B5 r_7.Out.Rows.length c5]) (vs := [vi r_7.Qubits, vi r_7.Phase, .slice B4 r_7.Terms.length c4, .slice B5 r_7.Out.Rows.length c5]) (k := 0) (cs' := [vi r_7.Qubits, vi r_7.Phase, .slice B4 r_7.Terms.length c4, .slice B5 r_7.Out.Rows.length c5]) hS12 k_sz_70_4 rfl rfl rfl rfl rfl rfl rfl (lB rfl) rfl rfl) ?_
    rintro _ w_7 ⟨rfl, hS13⟩
    refine sQ 3 (Y_assign (v := vi r_5) rfl rfl) ?_
    refine sQ 4 (Y_assign (v := .bool true) rfl rfl) (rw_nil (cw_ret ?_))
    obtain ⟨rfl, rfl, rfl⟩ := pr3 (some_inj hF2)
    exact ret3 Tryz.results44 (v1 := .agg #[vi r_7.Qubits, vi r_7.Phase, .slice B4 r_7.Terms.length c4, .slice B5 r_7.Out.Rows.length c5]) (resAt_cellA (B := aD b1) (i := 0) (cs := [vi r_7.Qubits, vi r_7.Phase, .slice B4 r_7.Terms.length c4, .slice B5 r_7.Out.Rows.length c5]) (vs := [vi r_7.Qubits, vi r_7.Phase, .slice B4 r_7.Terms.length c4, .slice B5 r_7.Out.Rows.length c5]) rfl k_ag_70 k_sz_70_4 (hS13.cf (i := 1) rfl) rfl rfl) (v2 := vi r_5) (resAt_tmp rfl) (v3 := .bool true) (resAt_tmp rfl) ⟨B4, c4, B5, c5, rfl, (hS13.sN [2, 3])⟩
   exact allR_nil
  exact allR_nil

theorem c_spec_l1Cur_relative (c : Tl1Cur) (p : TPhasePoly) (B : Option Addr) (B1 : Option Addr) (c1 n : Nat) (B2 : Option Addr) (c2 n1 : Nat) (B3 : Option Addr) (c3 n2 : Nat) (w0 : World) (hn : c.code.length = n) (hn1 : p.Terms.length = n1) (hn2 : p.Out.Rows.length = n2) (hS : ST w0 (bl [⟨B, 112, [.slice B1 n c1, vi c.at_, .int .u64 c.seed], 3⟩]) w0 [⟨B, 112, [.slice B1 n c1, vi c.at_, .int .u64 c.seed], 3⟩] [⟨B1, (c.code.flatMap enc_u8)⟩, ⟨B2, (p.Terms.flatMap eN0)⟩, ⟨B3, (p.Out.Rows.flatMap encI)⟩]) {r_ : TPhasePoly} {m : Tl1Cur} (hF : F_spec_l1Cur_relative c p = some (r_, m)) :
  CV Tryz.prog 120 #[pt B 0, .agg #[vi p.Qubits, vi p.Phase, .slice B2 n1 c2, .slice B3 n2 c3]] w0 (fun v w' => ∃ (B4 : Option Addr) (c4 : Nat) (B5 : Option Addr) (c5 : Nat), v = .agg #[vi r_.Qubits, vi r_.Phase, .slice B4 r_.Terms.length c4, .slice B5 r_.Out.Rows.length c5] ∧ ST w0 (bl [⟨B, 112, [.slice B1 n c1, vi c.at_, .int .u64 c.seed], 3⟩]) w' [⟨B, 112, [.slice B1 n c1, vi m.at_, .int .u64 m.seed], 3⟩, ⟨B4, 136, (r_.Terms.flatMap eN0), c4 * 2⟩, ⟨B5, 3, (r_.Out.Rows.flatMap encI), c5 * 1⟩] []) := by
 subst hn
 subst hn1
 subst hn2
 unfold F_spec_l1Cur_relative at hF
 refine cv_of_cw 82 Tryz.func120 rfl Tryz.ntmps120 rfl ?_
 refine cw_seq (cw_region ?_)
 refine sS 3 (Ys_box (T := 70) (v := .agg #[vi p.Qubits, vi p.Phase, .slice B2 p.Terms.length c2, .slice B3 p.Out.Rows.length c3]) (cs := [vi p.Qubits, vi p.Phase, .slice B2 p.Terms.length c2, .slice B3 p.Out.Rows.length c3]) (m := 4) hS rfl rfl rfl rfl) ?_
 rintro _ w_ ⟨b, rfl, hS1⟩
 refine sS 4 (Ys_alloc (T := 70) (cs := [vi 0, vi 0, .slice none 0 0, .slice none 0 0]) (m := 4) hS1 k_zero_70 rfl rfl rfl) ?_
 rintro _ w_1 ⟨b1, rfl, hS2⟩
 refine rw_nil (cw_seq (cw_region ?_))
 refine sQ 11 (Y_fieldAddr (B := aD b) (i := 0) (s := 0) k_fd_70_0_0_3 k_sz_3_1 rfl rfl) ?_
 refine sQ 12 (Y_load1 (B := aD b) (i := 0) (cs := [vi p.Qubits, vi p.Phase, .slice B2 p.Terms.length c2, .slice B3 p.Out.Rows.length c3]) (v := vi p.Qubits) k_sc_3 rfl rfl (hS2.cf (i := 1) rfl) rfl) ?_
 obtain ⟨r_1, hc, hF⟩ := bind_inv hF
 refine sc 13 rfl rfl (Yc_func (g := 119) (vs := [vi p.Qubits]) k_call_119 rfl (mc rfl mn) (c_spec_l15Codes p.Qubits _  (hS2.inn0 [] rfl) hc)) ?_
 rintro _ w_2 ⟨B6, c6, rfl, hd⟩
 have hS3 := hS2.out0 hd
 refine sQ 5 (Y_assign (v := .slice B6 r_1.length c6) rfl rfl) (rw_nil (cw_seq ?_))
 obtain ⟨⟨r_2, m1⟩, hc1, hF⟩ := bind_inv hF
 obtain ⟨x, hx, hF⟩ := bind_inv hF
 obtain ⟨r_3, hc2, hF⟩ := bind_inv hF
 refine cw_mid (fun f w => ∃ (B9 : Option Addr) (B10 : Option Addr) (c9 : Nat) (B11 : Option Addr) (c10 : Nat), FF f [(0, pt B 0), (3, pt (aD b) 0), (4, pt (aD b1) 0), (6, pt B9 0)] ∧ ST w0 (bl [⟨B, 112, [.slice B1 c.code.length c1, vi c.at_, .int .u64 c.seed], 3⟩]) w [⟨B, 112, [.slice B1 c.code.length c1, vi m1.at_, .int .u64 m1.seed], 3⟩, ⟨aD b, 70, [vi p.Qubits, vi p.Phase, .slice B2 p.Terms.length c2, .slice B3 p.Out.Rows.length c3], 4⟩, ⟨aD b1, 70, [vi 0, vi 0, .slice none 0 0, .slice none 0 0], 4⟩, ⟨B9, 70, [vi r_3.Qubits, vi r_3.Phase, .slice B10 r_3.Terms.length c9, .slice B11 r_3.Out.Rows.length c10], 4⟩, ⟨B10, 136, (r_3.Terms.flatMap eN0), c9 * 2⟩, ⟨B11, 3, (r_3.Out.Rows.flatMap encI), c10 * 1⟩] [⟨B1, (c.code.flatMap enc_u8)⟩, ⟨B2, (p.Terms.flatMap eN0)⟩, ⟨B3, (p.Out.Rows.flatMap encI)⟩]) ?_ ?_
 ·skip
  refine ra_start (hS3.se [1, 2, 3]).fn (by kernel_rfl) ?_
  have hS7 := hS3.drew
  refine rq 0 14 (v := .agg #[vi p.Qubits, vi p.Phase, .slice B2 p.Terms.length c2, .slice B3 p.Out.Rows.length c3]) rfl (hS7.se [1, 2, 3]) (fun w' hw' => (Y_loadA (B := aD b) (i := 0) (cs := [vi p.Qubits, vi p.Phase, .slice B2 p.Terms.length c2, .slice B3 p.Out.Rows.length c3]) (vs := [vi p.Qubits, vi p.Phase, .slice B2 p.Terms.length c2, .slice B3 p.Out.Rows.length c3]) k_ag_70 k_sz_70_4 rfl rfl (ST.cf hw' (i := 0) rfl) rfl rfl)) ?_
  refine rq 1 15 (v := .slice B6 r_1.length c6) rfl (hS7.se [1, 2, 3]) (fun w' hw' => (Y_move (v := .slice B6 r_1.length c6) rfl rfl)) ?_
  refine rq 2 16 (v := pt B 0) rfl (hS7.se [1, 2, 3]) (fun w' hw' => (Y_move (v := pt B 0) rfl rfl)) ?_
  refine rq 3 17 (v := .slice B6 r_1.length c6) rfl (hS7.se [1, 2, 3]) (fun w' hw' => (Y_move (v := .slice B6 r_1.length c6) rfl rfl)) ?_
  refine rq 4 18 (v := vi (r_1.length : Int)) rfl (hS7.se [1, 2, 3]) (fun w' hw' => (Y_len (B := B6) (m := r_1.length) (c := c6) k_sl_66_3 rfl rfl)) ?_
  refine rA [5, 9] ?_
  refine ra_c 19 (i := 5) rfl rfl rfl (Yc_func (g := 71) (vs := [pt B 0, vi (r_1.length : Int)]) k_call_71 rfl (mc rfl (mc rfl mn)) (c_spec_l1Cur_pick c (r_1.length : Int) B B1 c1 c.code.length _ rfl (hS7.inn [true, false, false, false] rfl [(true, 0)] rfl) hc1)) ?_ ?_
  ·rintro _ w_3 ⟨rfl, hd1⟩
   have hS8 := hS7.out [true, false, false, false] rfl hd1
   refine ⟨(hS8.se [0, 1, 2]), ?_⟩
   refine rq 6 20 (v := pt B6 (r_2.toNat * 1)) rfl (hS8.se [0, 1, 2]) (fun w' hw' => (Y_index (B := B6) (m := r_1.length) (c := c6) (k := .i64) (i := r_2) k_sl_66_3 k_sz_3_1 rfl rfl rfl (gi_isSome encI_len rfl (ST.cf hw' (i := 2) rfl) hx) (getI_nn hx) (getI_ltI hx rfl))) ?_
   refine rq 7 21 (v := vi x) rfl (hS8.se [0, 1, 2]) (fun w' hw' => (Y_load1 (B := B6) (i := r_2.toNat * 1) (cs := (r_1.flatMap encI)) (v := vi x) k_sc_3 rfl rfl (ST.cf hw' (i := 2) rfl) (gi_at0 encI_len hx rfl))) ?_
   refine rA [8, 9] ?_
   refine ra_c 22 (i := 8) rfl rfl rfl (Yc_func (g := 116) (vs := [.agg #[vi p.Qubits, vi p.Phase, .slice B2 p.Terms.length c2, .slice B3 p.Out.Rows.length c3], vi x]) k_call_116 rfl (mc rfl (mc rfl mn)) (c_spec_l15Shift p x B2 c2 p.Terms.length B3 c3 p.Out.Rows.length _ rfl rfl (hS8.inn0 [(true, 1), (true, 2)] rfl) hc2)) ?_ ?_
   ·rintro _ w_4 ⟨B7, c7, B8, c8, rfl, hd2⟩
    have hS9 := hS8.out0 hd2
    refine ⟨(hS9.se [0, 1, 2]), ?_⟩
    refine rA [9] ?_
    refine ra_s 6 (i := 9) rfl rfl rfl (Ys_alloc (T := 70) (cs := [vi 0, vi 0, .slice none 0 0, .slice none 0 0]) (m := 4) hS9 k_zero_70 rfl rfl rfl) ?_ ?_
    ·rintro _ w_5 ⟨b2, rfl, hS10⟩
     refine ⟨(hS10.se [0, 1, 2]), ?_⟩
     refine rA [10] ?_
     refine ra_s0 (i := 10) rfl rfl rfl (Ys_store (i := 6) (s := 4) (B := aD b2) (T' := 70) (v := .agg #[vi r_3.Qubits, vi r_3.Phase, .slice B7 r_3.Terms.length c7, .slice B8 r_3.Out.Rows.length c8]) (vs := [vi r_3.Qubits, vi r_3.Phase, .slice B7 r_3.Terms.length c7, .slice B8 r_3.Out.Rows.length c8]) (k := 0) (cs' := [vi r_3.Qubits, vi r_3.Phase, .slice B7 r_3.Terms.length c7, .slice B8 r_3.Out.Rows.length c8]) hS10 k_sz_70_4 rfl rfl rfl rfl rfl rfl rfl (lB rfl) rfl rfl) ?_ ?_
     ·rintro _ w_6 ⟨rfl, hS11⟩
      refine ⟨(hS11.se [0, 1, 2]), ?_⟩
      refine ra_done (by kernel_rfl) ?_
      exact ⟨aD b2, B7, c7, B8, c8, (FF.cons rfl (FF.cons rfl (FF.cons rfl (FF.cons rfl FF.nil)))), (hS11.sel [3, 0, 1, 6, 4, 5] rfl rfl)⟩
     exact allR_nil
    exact allR_nil
   refine ra_s 6 (i := 9) rfl rfl rfl (Ys_alloc (T := 70) (cs := [vi 0, vi 0, .slice none 0 0, .slice none 0 0]) (m := 4) hS8 k_zero_70 rfl rfl rfl) ?_ ?_
   ·rintro _ w_7 ⟨b2, rfl, hS12⟩
    refine ⟨(hS12.se [0, 1, 2]), ?_⟩
    refine rA [8] ?_
    refine ra_c 22 (i := 8) rfl rfl rfl (Yc_func (g := 116) (vs := [.agg #[vi p.Qubits, vi p.Phase, .slice B2 p.Terms.length c2, .slice B3 p.Out.Rows.length c3], vi x]) k_call_116 rfl (mc rfl (mc rfl mn)) (c_spec_l15Shift p x B2 c2 p.Terms.length B3 c3 p.Out.Rows.length _ rfl rfl (hS12.inn0 [(true, 1), (true, 2)] rfl) hc2)) ?_ ?_
    ·rintro _ w_8 ⟨B7, c7, B8, c8, rfl, hd3⟩
     have hS13 := hS12.out0 hd3
     refine ⟨(hS13.se [0, 1, 2]), ?_⟩
     refine rA [10] ?_
     refine ra_s0 (i := 10) rfl rfl rfl (Ys_store (i := 4) (s := 4) (B := aD b2) (T' := 70) (v := .agg #[vi r_3.Qubits, vi r_3.Phase, .slice B7 r_3.Terms.length c7, .slice B8 r_3.Out.Rows.length c8]) (vs := [vi r_3.Qubits, vi r_3.Phase, .slice B7 r_3.Terms.length c7, .slice B8 r_3.Out.Rows.length c8]) (k := 0) (cs' := [vi r_3.Qubits, vi r_3.Phase, .slice B7 r_3.Terms.length c7, .slice B8 r_3.Out.Rows.length c8]) hS13 k_sz_70_4 rfl rfl rfl rfl rfl rfl rfl (lB rfl) rfl rfl) ?_ ?_
     ·rintro _ w_9 ⟨rfl, hS14⟩
      refine ⟨(hS14.se [0, 1, 2]), ?_⟩
      refine ra_done (by kernel_rfl) ?_
      exact ⟨aD b2, B7, c7, B8, c8, (FF.cons rfl (FF.cons rfl (FF.cons rfl (FF.cons rfl FF.nil)))), (hS14.sel [3, 0, 1, 4, 5, 6] rfl rfl)⟩
     exact allR_nil
    exact allR_nil
   exact allR_nil
  refine ra_s 6 (i := 9) rfl rfl rfl (Ys_alloc (T := 70) (cs := [vi 0, vi 0, .slice none 0 0, .slice none 0 0]) (m := 4) hS7 k_zero_70 rfl rfl rfl) ?_ ?_
  ·rintro _ w_10 ⟨b2, rfl, hS15⟩
   refine ⟨(hS15.se [1, 2, 3]), ?_⟩
   refine rA [5] ?_
   refine ra_c 19 (i := 5) rfl rfl rfl (Yc_func (g := 71) (vs := [pt B 0, vi (r_1.length : Int)]) k_call_71 rfl (mc rfl (mc rfl mn)) (c_spec_l1Cur_pick c (r_1.length : Int) B B1 c1 c.code.length _ rfl (hS15.inn [true, false, false, false, false] rfl [(true, 0)] rfl) hc1)) ?_ ?_
   ·rintro _ w_11 ⟨rfl, hd4⟩
    have hS16 := hS15.out [true, false, false, false, false] rfl hd4
    refine ⟨(hS16.se [0, 1, 2]), ?_⟩
    refine rq 6 20 (v := pt B6 (r_2.toNat * 1)) rfl (hS16.se [0, 1, 2]) (fun w' hw' => (Y_index (B := B6) (m := r_1.length) (c := c6) (k := .i64) (i := r_2) k_sl_66_3 k_sz_3_1 rfl rfl rfl (gi_isSome encI_len rfl (ST.cf hw' (i := 2) rfl) hx) (getI_nn hx) (getI_ltI hx rfl))) ?_
    refine rq 7 21 (v := vi x) rfl (hS16.se [0, 1, 2]) (fun w' hw' => (Y_load1 (B := B6) (i := r_2.toNat * 1) (cs := (r_1.flatMap encI)) (v := vi x) k_sc_3 rfl rfl (ST.cf hw' (i := 2) rfl) (gi_at0 encI_len hx rfl))) ?_
    refine rA [8] ?_
    refine ra_c 22 (i := 8) rfl rfl rfl (Yc_func (g := 116) (vs := [.agg #[vi p.Qubits, vi p.Phase, .slice B2 p.Terms.length c2, .slice B3 p.Out.Rows.length c3], vi x]) k_call_116 rfl (mc rfl (mc rfl mn)) (c_spec_l15Shift p x B2 c2 p.Terms.length B3 c3 p.Out.Rows.length _ rfl rfl (hS16.inn0 [(true, 1), (true, 2)] rfl) hc2)) ?_ ?_
    ·rintro _ w_12 ⟨B7, c7, B8, c8, rfl, hd5⟩
     have hS17 := hS16.out0 hd5
     refine ⟨(hS17.se [0, 1, 2]), ?_⟩
     refine rA [10] ?_
     refine ra_s0 (i := 10) rfl rfl rfl (Ys_store (i := 3) (s := 4) (B := aD b2) (T' := 70) (v := .agg #[vi r_3.Qubits, vi r_3.Phase, .slice B7 r_3.Terms.length c7, .slice B8 r_3.Out.Rows.length c8]) (vs := [vi r_3.Qubits, vi r_3.Phase, .slice B7 r_3.Terms.length c7, .slice B8 r_3.Out.Rows.length c8]) (k := 0) (cs' := [vi r_3.Qubits, vi r_3.Phase, .slice B7 r_3.Terms.length c7, .slice B8 r_3.Out.Rows.length c8]) hS17 k_sz_70_4 rfl rfl rfl rfl rfl rfl rfl (lB rfl) rfl rfl) ?_ ?_
     ·rintro _ w_13 ⟨rfl, hS18⟩
      refine ⟨(hS18.se [0, 1, 2]), ?_⟩
      refine ra_done (by kernel_rfl) ?_
      exact ⟨aD b2, B7, c7, B8, c8, (FF.cons rfl (FF.cons rfl (FF.cons rfl (FF.cons rfl FF.nil)))), (hS18.sel [4, 0, 1, 3, 5, 6] rfl rfl)⟩
     exact allR_nil
    exact allR_nil
   exact allR_nil
  exact allR_nil
 rintro f w ⟨B9, B10, c9, B11, c10, hf, hS6⟩
 refine cw_seq (cw_region ?_)
 refine sQ 23 (Y_loadA (B := B9) (i := 0) (cs := [vi r_3.Qubits, vi r_3.Phase, .slice B10 r_3.Terms.length c9, .slice B11 r_3.Out.Rows.length c10]) (vs := [vi r_3.Qubits, vi r_3.Phase, .slice B10 r_3.Terms.length c9, .slice B11 r_3.Out.Rows.length c10]) k_ag_70 k_sz_70_4 rfl (hf.get 6 3 rfl) (hS6.cf (i := 3) rfl) rfl rfl) ?_
 obtain ⟨r_4, hc3, hF⟩ := bind_inv hF
 refine sc 24 rfl rfl (Yc_func (g := 191) (vs := [.agg #[vi r_3.Qubits, vi r_3.Phase, .slice B10 r_3.Terms.length c9, .slice B11 r_3.Out.Rows.length c10]]) k_call_191 rfl (mc rfl mn) (c_spec_l13By r_3 B10 c9 r_3.Terms.length B11 c10 r_3.Out.Rows.length _ rfl rfl (hS6.inn0 [(false, 4), (false, 5)] rfl) hc3)) ?_
 rintro _ w_14 ⟨B12, c11, rfl, hd6⟩
 have hS19 := hS6.out0 hd6
 refine sQ 7 (Y_assign (v := .slice B12 r_4.length c11) rfl rfl) (rw_nil (cw_seq ?_))
 obtain ⟨z, hz, hF1⟩ := bind_inv hF
 refine cw_mid (fun f w => ∃ (at_ : Int) (seed : Int) (by_ : List Int), (at_, seed, by_) = z ∧ FF f [(0, pt B 0), (4, pt (aD b1) 0), (6, pt B9 0), (7, .slice B12 r_4.length c11)] ∧ by_.length = r_4.length ∧ ST w0 (bl [⟨B, 112, [.slice B1 c.code.length c1, vi c.at_, .int .u64 c.seed], 3⟩]) w [⟨B, 112, [.slice B1 c.code.length c1, vi at_, .int .u64 seed], 3⟩, ⟨aD b1, 70, [vi 0, vi 0, .slice none 0 0, .slice none 0 0], 4⟩, ⟨B9, 70, [vi r_3.Qubits, vi r_3.Phase, .slice B10 r_3.Terms.length c9, .slice B11 r_3.Out.Rows.length c10], 4⟩, ⟨B10, 136, (r_3.Terms.flatMap eN0), c9 * 2⟩, ⟨B11, 3, (r_3.Out.Rows.flatMap encI), c10 * 1⟩, ⟨B12, 3, (by_.flatMap encI), c11 * 1⟩] [⟨B1, (c.code.flatMap enc_u8)⟩, ⟨B2, (p.Terms.flatMap eN0)⟩, ⟨B3, (p.Out.Rows.flatMap encI)⟩]) ?_ ?_
 ·skip
  refine cw_seq (cw_region ?_)
  refine sQ 25 (Y_fieldAddr (B := aD b) (i := 0) (s := 0) k_fd_70_0_0_3 k_sz_3_1 rfl (hf.get 3 1 rfl)) ?_
  refine sQ 26 (Y_load1 (B := aD b) (i := 0) (cs := [vi p.Qubits, vi p.Phase, .slice B2 p.Terms.length c2, .slice B3 p.Out.Rows.length c3]) (v := vi p.Qubits) k_sc_3 rfl rfl (hS19.cf (i := 1) rfl) rfl) ?_
  refine sQ 8 (Y_assign (v := vi p.Qubits) rfl rfl) (rw_nil (cw_seq (cw_region ?_)))
  refine sQ 27 (Y_move (v := vi p.Qubits) rfl rfl) ?_
  refine sQ 28 (Y_ge (k := .i64) (a := p.Qubits) (b := 3) rfl rfl rfl) ?_
  refine sQ 29 (Y_move (v := .bool (decide (3 ≤ p.Qubits))) rfl rfl) ?_
  refine sgq 30 (B := (decide (3 ≤ p.Qubits))) (v := pt B 0) rfl rfl (uT_ 29) (fun hg => (Y_move (v := pt B 0) rfl (hf.get 0 0 rfl))) ?_
  refine rw_split (B := (decide (3 ≤ p.Qubits))) (fun hb => ?_) (fun hb => ?_)
  ·skip
   have hF2 := ct hz hb
   obtain ⟨⟨r_5, m2⟩, hc4, hF2⟩ := bind_inv hF2
   refine scg 31 rfl rfl (uT_ 29) hb (Yc_func (g := 90) (vs := [pt B 0, vi 2]) k_call_90 rfl (mc (gv_of (v := pt B 0) hb) (mc rfl mn)) (c_spec_l1Cur_one (Tl1Cur.mk c.code m1.at_ m1.seed) 2 B B1 c1 c.code.length _ rfl (hS19.inn [true, false, false, false, false, false, false] rfl [(true, 0)] rfl) hc4)) ?_
   rintro _ w_15 ⟨rfl, hd7⟩
   have hS21 := hS19.out [true, false, false, false, false, false, false] rfl hd7
   refine sQ 32 (Y_pickT (b := (decide (3 ≤ p.Qubits))) (v := .bool r_5) rfl rfl hb rfl) (rw_nil ?_)
   refine cw_cond (b := r_5) rfl (fun hb1 => ?_) (fun hb1 => ?_)
   ·skip
    have hF3 := ct hF2 hb1
    refine cw_seq (cw_region ?_)
    refine sQ 9 (Y_assign (v := vi 0) rfl rfl) (rw_nil (cw_seq ?_))
    obtain ⟨z1, hz1, hF4⟩ := bind_inv hF3
    refine cw_mid (fun f w => ∃ (at_1 : Int) (seed1 : Int) (a : Int), (at_1, seed1, a) = z1 ∧ FF f [(0, pt B 0), (4, pt (aD b1) 0), (6, pt B9 0), (7, .slice B12 r_4.length c11), (8, vi p.Qubits), (9, vi a)] ∧ ST w0 (bl [⟨B, 112, [.slice B1 c.code.length c1, vi c.at_, .int .u64 c.seed], 3⟩]) w [⟨B, 112, [.slice B1 c.code.length c1, vi at_1, .int .u64 seed1], 3⟩, ⟨aD b1, 70, [vi 0, vi 0, .slice none 0 0, .slice none 0 0], 4⟩, ⟨B9, 70, [vi r_3.Qubits, vi r_3.Phase, .slice B10 r_3.Terms.length c9, .slice B11 r_3.Out.Rows.length c10], 4⟩, ⟨B10, 136, (r_3.Terms.flatMap eN0), c9 * 2⟩, ⟨B11, 3, (r_3.Out.Rows.flatMap encI), c10 * 1⟩, ⟨B12, 3, (r_4.flatMap encI), c11 * 1⟩] [⟨B1, (c.code.flatMap enc_u8)⟩, ⟨B2, (p.Terms.flatMap eN0)⟩, ⟨B3, (p.Out.Rows.flatMap encI)⟩]) ?_ ?_
    ·skip
     refine cw_seq (cw_region ?_)
     refine sQ 33 (Y_move (v := vi p.Qubits) rfl rfl) ?_
     refine sQ 34 (Y_ge (k := .i64) (a := p.Qubits) (b := 4) rfl rfl rfl) (rw_nil ?_)
     refine cw_cond (b := (decide (4 ≤ p.Qubits))) rfl (fun hb2 => ?_) (fun hb2 => ?_)
     ·skip
      have hF5 := ct hz1 hb2
      refine cw_region ?_
      refine sQ 35 (Y_move (v := pt B 0) rfl (hf.get 0 0 rfl)) ?_
      refine sQ 36 (Y_move (v := vi p.Qubits) rfl rfl) ?_
      refine sQ 37 (Y_conv (k := .i64) (a := p.Qubits) (T := 3) (T' := 76) k_us_3 k_int_76_u64 rfl rfl) ?_
      obtain ⟨hsh, hF5⟩ := chk_inv hF5
      refine sQ 38 (Y_shl (k := .i64) (a := 1) (k' := .u64) (b := (IntKind.u64.wrap p.Qubits)) rfl rfl rfl hsh) ?_
      obtain ⟨⟨r_6, m3⟩, hc5, hF5⟩ := bind_inv hF5
      refine sc 39 rfl rfl (Yc_func (g := 71) (vs := [pt B 0, vi (shlK .i64 1 (IntKind.u64.wrap p.Qubits))]) k_call_71 rfl (mc rfl (mc rfl mn)) (c_spec_l1Cur_pick (Tl1Cur.mk c.code m2.at_ m2.seed) (shlK .i64 1 (IntKind.u64.wrap p.Qubits)) B B1 c1 c.code.length _ rfl (hS21.inn [false, false, false, false, false, false, true] rfl [(true, 0)] rfl) hc5)) ?_
      rintro _ w_16 ⟨rfl, hd8⟩
      have hS23 := hS21.out [false, false, false, false, false, false, true] rfl hd8
      refine sQ 9 (Y_assign (v := vi r_6) rfl rfl) (rw_nil ?_)
      exact ⟨m3.at_, m3.seed, r_6, (some_inj hF5), (FF.cons (hf.get 0 0 rfl) (FF.cons (hf.get 4 2 rfl) (FF.cons (hf.get 6 3 rfl) (FF.cons rfl (FF.cons rfl (FF.cons rfl FF.nil)))))), (hS23.sel [6, 1, 2, 3, 4, 5] rfl rfl)⟩
     ·skip
      have hF6 := cf' hz1 hb2
      refine cw_skip ?_
      exact ⟨m2.at_, m2.seed, 0, (some_inj hF6), (FF.cons (hf.get 0 0 rfl) (FF.cons (hf.get 4 2 rfl) (FF.cons (hf.get 6 3 rfl) (FF.cons rfl (FF.cons rfl (FF.cons rfl FF.nil)))))), (hS21.sel [6, 1, 2, 3, 4, 5] rfl rfl)⟩
    rintro f w ⟨at_1, seed1, a, rfl, hf2, hS22⟩
    refine cw_seq (cw_region ?_)
    refine sQ 10 (Y_assign (v := vi 1) rfl rfl) (rw_nil ?_)
    obtain ⟨z2, hz2, hF7⟩ := bind_inv hF4
    refine cw_block ?_
    refine cw_loop (fun k f w => ∃ (by_1 : List Int) (m4 : Int), FF f [(0, pt B 0), (4, pt (aD b1) 0), (6, pt B9 0), (7, .slice B12 r_4.length c11), (8, vi p.Qubits), (9, vi a), (10, vi m4)] ∧ by_1.length = r_4.length ∧ ST w0 (bl [⟨B, 112, [.slice B1 c.code.length c1, vi c.at_, .int .u64 c.seed], 3⟩]) w [⟨B, 112, [.slice B1 c.code.length c1, vi at_1, .int .u64 seed1], 3⟩, ⟨aD b1, 70, [vi 0, vi 0, .slice none 0 0, .slice none 0 0], 4⟩, ⟨B9, 70, [vi r_3.Qubits, vi r_3.Phase, .slice B10 r_3.Terms.length c9, .slice B11 r_3.Out.Rows.length c10], 4⟩, ⟨B10, 136, (r_3.Terms.flatMap eN0), c9 * 2⟩, ⟨B11, 3, (r_3.Out.Rows.flatMap encI), c10 * 1⟩, ⟨B12, 3, (by_1.flatMap encI), c11 * 1⟩] [⟨B1, (c.code.flatMap enc_u8)⟩, ⟨B2, (p.Terms.flatMap eN0)⟩, ⟨B3, (p.Out.Rows.flatMap encI)⟩] ∧ whX (F_spec_l1Cur_relative_l1 p a) k (by_1, m4) = some z2) fuel ⟨r_4, 1, (FF.cons (hf2.get 0 0 rfl) (FF.cons (hf2.get 4 1 rfl) (FF.cons (hf2.get 6 2 rfl) (FF.cons (hf2.get 7 3 rfl) (FF.cons (hf2.get 8 4 rfl) (FF.cons (hf2.get 9 5 rfl) (FF.cons rfl FF.nil))))))), rfl, (hS22.sel [0, 1, 2, 3, 4, 5] rfl rfl), hz2⟩ ?_
    rintro k_ f w ⟨by_1, m4, hf3, hl1, hS24, hL⟩
    obtain ⟨k_1, y, rfl, hb3, hL1⟩ := whX_go hL
    unfold F_spec_l1Cur_relative_l1 at hb3
    refine cw_seq (cw_seq (cw_region ?_))
    refine sQ 40 (Y_move (v := vi m4) rfl (hf3.get 10 6 rfl)) ?_
    refine sQ 41 (Y_move (v := vi p.Qubits) rfl (hf3.get 8 4 rfl)) ?_
    refine sQ 42 (Y_conv (k := .i64) (a := p.Qubits) (T := 3) (T' := 76) k_us_3 k_int_76_u64 rfl rfl) ?_
    obtain ⟨hsh1, hb3⟩ := chk_inv hb3
    refine sQ 43 (Y_shl (k := .i64) (a := 1) (k' := .u64) (b := (IntKind.u64.wrap p.Qubits)) rfl rfl rfl hsh1) ?_
    refine sQ 44 (Y_lt (k := .i64) (a := m4) (b := (shlK .i64 1 (IntKind.u64.wrap p.Qubits))) rfl rfl rfl) (rw_nil ?_)
    refine cw_cond (b := (decide (m4 < (shlK .i64 1 (IntKind.u64.wrap p.Qubits))))) rfl (fun hb4 => ?_) (fun hb4 => ?_)
    ·skip
     have hF8 := ct hb3 hb4
     refine cw_skip (cw_seq (cw_block ?_))
     obtain ⟨x1, hx1, hF8⟩ := bind_inv hF8
     obtain ⟨r_7, hc6, hF8⟩ := bind_inv hF8
     refine cw_mid (fun f w => FF f [(0, pt B 0), (4, pt (aD b1) 0), (6, pt B9 0), (7, .slice B12 r_4.length c11), (8, vi p.Qubits), (9, vi a), (10, vi m4)] ∧ ST w0 (bl [⟨B, 112, [.slice B1 c.code.length c1, vi c.at_, .int .u64 c.seed], 3⟩]) w [⟨B, 112, [.slice B1 c.code.length c1, vi at_1, .int .u64 seed1], 3⟩, ⟨aD b1, 70, [vi 0, vi 0, .slice none 0 0, .slice none 0 0], 4⟩, ⟨B9, 70, [vi r_3.Qubits, vi r_3.Phase, .slice B10 r_3.Terms.length c9, .slice B11 r_3.Out.Rows.length c10], 4⟩, ⟨B10, 136, (r_3.Terms.flatMap eN0), c9 * 2⟩, ⟨B11, 3, (r_3.Out.Rows.flatMap encI), c10 * 1⟩, ⟨B12, 3, ((by_1.set m4.toNat (i64.wrap (x1 + (i64.wrap (2 * (i64.wrap (1 - r_7))))))).flatMap encI), c11 * 1⟩] [⟨B1, (c.code.flatMap enc_u8)⟩, ⟨B2, (p.Terms.flatMap eN0)⟩, ⟨B3, (p.Out.Rows.flatMap encI)⟩]) ?_ ?_
     ·skip
      refine ra_start (hS24.se [0, 1, 2, 3, 4]).fn (by kernel_rfl) ?_
      have hS27 := hS24.drew
      refine rq 0 47 (v := .slice B12 r_4.length c11) rfl (hS27.se [0, 1, 2, 3, 4]) (fun w' hw' => (Y_move (v := .slice B12 r_4.length c11) rfl (hf3.get 7 3 rfl))) ?_
      refine rq 1 48 (v := vi m4) rfl (hS27.se [0, 1, 2, 3, 4]) (fun w' hw' => (Y_move (v := vi m4) rfl (hf3.get 10 6 rfl))) ?_
      refine rq 4 51 (v := vi m4) rfl (hS27.se [0, 1, 2, 3, 4]) (fun w' hw' => (Y_move (v := vi m4) rfl (hf3.get 10 6 rfl))) ?_
      refine rq 5 52 (v := vi a) rfl (hS27.se [0, 1, 2, 3, 4]) (fun w' hw' => (Y_move (v := vi a) rfl (hf3.get 9 5 rfl))) ?_
      refine rq 6 53 (v := vi (bits .and .i64 m4 a)) rfl (hS27.se [0, 1, 2, 3, 4]) (fun w' hw' => (Y_band (k := .i64) (a := m4) (b := a) rfl rfl rfl)) ?_
      refine rA [2, 7] ?_
      refine ra_y 49 (i := 2) (v := pt B12 (m4.toNat * 1)) rfl rfl rfl (Y_index (B := B12) (m := r_4.length) (c := c11) (k := .i64) (i := m4) k_sl_66_3 k_sz_3_1 rfl rfl rfl (gi_isSome encI_len rfl (hS27.cf (i := 5) rfl) hx1) (getI_nn hx1) (getI_ltI hx1 hl1)) (hS27.se [0, 1, 2, 3, 4]) ?_ ?_
      ·skip
       refine rA [3, 7] ?_
       refine ra_y 50 (i := 3) (v := vi x1) rfl rfl rfl (Y_load1 (B := B12) (i := m4.toNat * 1) (cs := (by_1.flatMap encI)) (v := vi x1) k_sc_3 rfl rfl (hS27.cf (i := 5) rfl) (gi_at0 encI_len hx1 rfl)) (hS27.se [0, 1, 2, 3, 4]) ?_ ?_
       ·skip
        refine rA [7] ?_
        refine ra_c 54 (i := 7) rfl rfl rfl (Yc_func (g := 194) (vs := [vi (bits .and .i64 m4 a)]) k_call_194 rfl (mc rfl mn) (c_spec_l13Parity (bits .and .i64 m4 a) _  (hS27.inn0 [] rfl) hc6)) ?_ ?_
        ·rintro _ w_17 ⟨rfl, hd9⟩
         have hS28 := hS27.out00 hd9
         refine ⟨(hS28.se [0, 1, 2, 3, 4]), ?_⟩
         refine rq 8 55 (v := vi (i64.wrap (1 - r_7))) rfl (hS28.se [0, 1, 2, 3, 4]) (fun w' hw' => (Y_sub (k := .i64) (a := 1) (b := r_7) rfl rfl rfl)) ?_
         refine rq 9 56 (v := vi (i64.wrap (2 * (i64.wrap (1 - r_7))))) rfl (hS28.se [0, 1, 2, 3, 4]) (fun w' hw' => (Y_mul (k := .i64) (a := 2) (b := (i64.wrap (1 - r_7))) rfl rfl rfl)) ?_
         refine rq 10 57 (v := vi (i64.wrap (x1 + (i64.wrap (2 * (i64.wrap (1 - r_7))))))) rfl (hS28.se [0, 1, 2, 3, 4]) (fun w' hw' => (Y_add (k := .i64) (a := x1) (b := (i64.wrap (2 * (i64.wrap (1 - r_7))))) rfl rfl rfl)) ?_
         refine rA [11] ?_
         refine ra_y 58 (i := 11) (v := pt B12 (m4.toNat * 1)) rfl rfl rfl (Y_index (B := B12) (m := r_4.length) (c := c11) (k := .i64) (i := m4) k_sl_66_3 k_sz_3_1 rfl rfl rfl (gi_isSome encI_len rfl (hS28.cf (i := 5) rfl) hx1) (getI_nn hx1) (getI_ltI hx1 hl1)) (hS28.se [0, 1, 2, 3, 4]) ?_ ?_
         ·skip
          refine rA [12] ?_
          refine ra_s0 (i := 12) rfl rfl rfl (Ys_store (i := 5) (s := 1) (B := B12) (T' := 3) (v := vi (i64.wrap (x1 + (i64.wrap (2 * (i64.wrap (1 - r_7))))))) (vs := [vi (i64.wrap (x1 + (i64.wrap (2 * (i64.wrap (1 - r_7))))))]) (k := m4.toNat * 1) (cs' := ((by_1.set m4.toNat (i64.wrap (x1 + (i64.wrap (2 * (i64.wrap (1 - r_7))))))).flatMap encI)) hS28 k_sz_3_1 rfl rfl rfl rfl rfl rfl rfl (gi_fit0 encI_len hx1) (gi_set encI_len hx1 (i64.wrap (x1 + (i64.wrap (2 * (i64.wrap (1 - r_7)))))) rfl) rfl) ?_ ?_
          ·rintro _ w_18 ⟨rfl, hS29⟩
           refine ⟨(hS29.se [0, 1, 2, 3, 4]), ?_⟩
           refine ra_done (by kernel_rfl) ?_
           exact ⟨(FF.cons (hf3.get 0 0 rfl) (FF.cons (hf3.get 4 1 rfl) (FF.cons (hf3.get 6 2 rfl) (FF.cons (hf3.get 7 3 rfl) (FF.cons (hf3.get 8 4 rfl) (FF.cons (hf3.get 9 5 rfl) (FF.cons (hf3.get 10 6 rfl) FF.nil))))))), (hS29.sel [0, 1, 2, 3, 4, 5] rfl rfl)⟩
          exact allR_nil
         exact allR_nil
        exact allR_nil
       refine ra_c 54 (i := 7) rfl rfl rfl (Yc_func (g := 194) (vs := [vi (bits .and .i64 m4 a)]) k_call_194 rfl (mc rfl mn) (c_spec_l13Parity (bits .and .i64 m4 a) _  (hS27.inn0 [] rfl) hc6)) ?_ ?_
       ·rintro _ w_19 ⟨rfl, hd10⟩
        have hS30 := hS27.out00 hd10
        refine ⟨(hS30.se [0, 1, 2, 3, 4]), ?_⟩
        refine rq 8 55 (v := vi (i64.wrap (1 - r_7))) rfl (hS30.se [0, 1, 2, 3, 4]) (fun w' hw' => (Y_sub (k := .i64) (a := 1) (b := r_7) rfl rfl rfl)) ?_
        refine rq 9 56 (v := vi (i64.wrap (2 * (i64.wrap (1 - r_7))))) rfl (hS30.se [0, 1, 2, 3, 4]) (fun w' hw' => (Y_mul (k := .i64) (a := 2) (b := (i64.wrap (1 - r_7))) rfl rfl rfl)) ?_
        refine rA [3] ?_
        refine ra_y 50 (i := 3) (v := vi x1) rfl rfl rfl (Y_load1 (B := B12) (i := m4.toNat * 1) (cs := (by_1.flatMap encI)) (v := vi x1) k_sc_3 rfl rfl (hS30.cf (i := 5) rfl) (gi_at0 encI_len hx1 rfl)) (hS30.se [0, 1, 2, 3, 4]) ?_ ?_
        ·skip
         refine rq 10 57 (v := vi (i64.wrap (x1 + (i64.wrap (2 * (i64.wrap (1 - r_7))))))) rfl (hS30.se [0, 1, 2, 3, 4]) (fun w' hw' => (Y_add (k := .i64) (a := x1) (b := (i64.wrap (2 * (i64.wrap (1 - r_7))))) rfl rfl rfl)) ?_
         refine rA [11] ?_
         refine ra_y 58 (i := 11) (v := pt B12 (m4.toNat * 1)) rfl rfl rfl (Y_index (B := B12) (m := r_4.length) (c := c11) (k := .i64) (i := m4) k_sl_66_3 k_sz_3_1 rfl rfl rfl (gi_isSome encI_len rfl (hS30.cf (i := 5) rfl) hx1) (getI_nn hx1) (getI_ltI hx1 hl1)) (hS30.se [0, 1, 2, 3, 4]) ?_ ?_
         ·skip
          refine rA [12] ?_
          refine ra_s0 (i := 12) rfl rfl rfl (Ys_store (i := 5) (s := 1) (B := B12) (T' := 3) (v := vi (i64.wrap (x1 + (i64.wrap (2 * (i64.wrap (1 - r_7))))))) (vs := [vi (i64.wrap (x1 + (i64.wrap (2 * (i64.wrap (1 - r_7))))))]) (k := m4.toNat * 1) (cs' := ((by_1.set m4.toNat (i64.wrap (x1 + (i64.wrap (2 * (i64.wrap (1 - r_7))))))).flatMap encI)) hS30 k_sz_3_1 rfl rfl rfl rfl rfl rfl rfl (gi_fit0 encI_len hx1) (gi_set encI_len hx1 (i64.wrap (x1 + (i64.wrap (2 * (i64.wrap (1 - r_7)))))) rfl) rfl) ?_ ?_
          ·rintro _ w_20 ⟨rfl, hS31⟩
           refine ⟨(hS31.se [0, 1, 2, 3, 4]), ?_⟩
           refine ra_done (by kernel_rfl) ?_
           exact ⟨(FF.cons (hf3.get 0 0 rfl) (FF.cons (hf3.get 4 1 rfl) (FF.cons (hf3.get 6 2 rfl) (FF.cons (hf3.get 7 3 rfl) (FF.cons (hf3.get 8 4 rfl) (FF.cons (hf3.get 9 5 rfl) (FF.cons (hf3.get 10 6 rfl) FF.nil))))))), (hS31.sel [0, 1, 2, 3, 4, 5] rfl rfl)⟩
          exact allR_nil
         exact allR_nil
        exact allR_nil
       exact allR_nil
      refine ra_c 54 (i := 7) rfl rfl rfl (Yc_func (g := 194) (vs := [vi (bits .and .i64 m4 a)]) k_call_194 rfl (mc rfl mn) (c_spec_l13Parity (bits .and .i64 m4 a) _  (hS27.inn0 [] rfl) hc6)) ?_ ?_
      ·rintro _ w_21 ⟨rfl, hd11⟩
       have hS32 := hS27.out00 hd11
       refine ⟨(hS32.se [0, 1, 2, 3, 4]), ?_⟩
       refine rq 8 55 (v := vi (i64.wrap (1 - r_7))) rfl (hS32.se [0, 1, 2, 3, 4]) (fun w' hw' => (Y_sub (k := .i64) (a := 1) (b := r_7) rfl rfl rfl)) ?_
       refine rq 9 56 (v := vi (i64.wrap (2 * (i64.wrap (1 - r_7))))) rfl (hS32.se [0, 1, 2, 3, 4]) (fun w' hw' => (Y_mul (k := .i64) (a := 2) (b := (i64.wrap (1 - r_7))) rfl rfl rfl)) ?_
       refine rA [2] ?_
       refine ra_y 49 (i := 2) (v := pt B12 (m4.toNat * 1)) rfl rfl rfl (Y_index (B := B12) (m := r_4.length) (c := c11) (k := .i64) (i := m4) k_sl_66_3 k_sz_3_1 rfl rfl rfl (gi_isSome encI_len rfl (hS32.cf (i := 5) rfl) hx1) (getI_nn hx1) (getI_ltI hx1 hl1)) (hS32.se [0, 1, 2, 3, 4]) ?_ ?_
       ·skip
        refine rA [3] ?_
        refine ra_y 50 (i := 3) (v := vi x1) rfl rfl rfl (Y_load1 (B := B12) (i := m4.toNat * 1) (cs := (by_1.flatMap encI)) (v := vi x1) k_sc_3 rfl rfl (hS32.cf (i := 5) rfl) (gi_at0 encI_len hx1 rfl)) (hS32.se [0, 1, 2, 3, 4]) ?_ ?_
        ·skip
         refine rq 10 57 (v := vi (i64.wrap (x1 + (i64.wrap (2 * (i64.wrap (1 - r_7))))))) rfl (hS32.se [0, 1, 2, 3, 4]) (fun w' hw' => (Y_add (k := .i64) (a := x1) (b := (i64.wrap (2 * (i64.wrap (1 - r_7))))) rfl rfl rfl)) ?_
         refine rA [11] ?_
         refine ra_y 58 (i := 11) (v := pt B12 (m4.toNat * 1)) rfl rfl rfl (Y_index (B := B12) (m := r_4.length) (c := c11) (k := .i64) (i := m4) k_sl_66_3 k_sz_3_1 rfl rfl rfl (gi_isSome encI_len rfl (hS32.cf (i := 5) rfl) hx1) (getI_nn hx1) (getI_ltI hx1 hl1)) (hS32.se [0, 1, 2, 3, 4]) ?_ ?_
         ·skip
          refine rA [12] ?_
          refine ra_s0 (i := 12) rfl rfl rfl (Ys_store (i := 5) (s := 1) (B := B12) (T' := 3) (v := vi (i64.wrap (x1 + (i64.wrap (2 * (i64.wrap (1 - r_7))))))) (vs := [vi (i64.wrap (x1 + (i64.wrap (2 * (i64.wrap (1 - r_7))))))]) (k := m4.toNat * 1) (cs' := ((by_1.set m4.toNat (i64.wrap (x1 + (i64.wrap (2 * (i64.wrap (1 - r_7))))))).flatMap encI)) hS32 k_sz_3_1 rfl rfl rfl rfl rfl rfl rfl (gi_fit0 encI_len hx1) (gi_set encI_len hx1 (i64.wrap (x1 + (i64.wrap (2 * (i64.wrap (1 - r_7)))))) rfl) rfl) ?_ ?_
          ·rintro _ w_22 ⟨rfl, hS33⟩
           refine ⟨(hS33.se [0, 1, 2, 3, 4]), ?_⟩
           refine ra_done (by kernel_rfl) ?_
           exact ⟨(FF.cons (hf3.get 0 0 rfl) (FF.cons (hf3.get 4 1 rfl) (FF.cons (hf3.get 6 2 rfl) (FF.cons (hf3.get 7 3 rfl) (FF.cons (hf3.get 8 4 rfl) (FF.cons (hf3.get 9 5 rfl) (FF.cons (hf3.get 10 6 rfl) FF.nil))))))), (hS33.sel [0, 1, 2, 3, 4, 5] rfl rfl)⟩
          exact allR_nil
         exact allR_nil
        exact allR_nil
       exact allR_nil
      exact allR_nil
     rintro f w ⟨hf4, hS26⟩
     refine cw_region ?_
     refine sQ 45 (Y_move (v := vi m4) rfl (hf4.get 10 6 rfl)) ?_
     refine sQ 46 (Y_add (k := .i64) (a := m4) (b := 1) rfl rfl rfl) ?_
     refine sQ 10 (Y_assign (v := vi (i64.wrap (m4 + 1))) rfl rfl) (rw_nil ?_)
     obtain rfl := some_inj hF8
     exact ⟨k_1, Nat.lt_succ_self _, (by_1.set m4.toNat (i64.wrap (x1 + (i64.wrap (2 * (i64.wrap (1 - r_7))))))), (i64.wrap (m4 + 1)), (FF.cons (hf4.get 0 0 rfl) (FF.cons (hf4.get 4 1 rfl) (FF.cons (hf4.get 6 2 rfl) (FF.cons (hf4.get 7 3 rfl) (FF.cons (hf4.get 8 4 rfl) (FF.cons (hf4.get 9 5 rfl) (FF.cons rfl FF.nil))))))), (set_len _ _ _ hl1), (hS26.sel [0, 1, 2, 3, 4, 5] rfl rfl), hL1⟩
    ·skip
     have hF9 := cf' hb3 hb4
     refine cw_exit rfl ?_
     obtain rfl := some_inj hF9
     obtain rfl := some_inj hL1
     exact ⟨at_1, seed1, by_1, (some_inj hF7), (FF.cons (hf3.get 0 0 rfl) (FF.cons (hf3.get 4 1 rfl) (FF.cons (hf3.get 6 2 rfl) (FF.cons (hf3.get 7 3 rfl) FF.nil)))), hl1, (hS24.sel [0, 1, 2, 3, 4, 5] rfl rfl)⟩
   ·skip
    have hF10 := cf' hF2 hb1
    refine cw_skip ?_
    exact ⟨m2.at_, m2.seed, r_4, (some_inj hF10), (FF.cons (hf.get 0 0 rfl) (FF.cons (hf.get 4 2 rfl) (FF.cons (hf.get 6 3 rfl) (FF.cons rfl FF.nil)))), rfl, (hS21.sel [6, 1, 2, 3, 4, 5] rfl rfl)⟩
  ·skip
   have hF11 := cf' hz hb
   refine sgn 31 rfl rfl (uT_ 29) hb ?_
   refine sQ 32 (Y_pickF (b := (decide (3 ≤ p.Qubits))) (v := .bool false) rfl rfl hb rfl) (rw_nil ?_)
   refine cw_cond (b := false) rfl (fun h => by cases h) (fun _ => ?_)
   refine cw_skip ?_
   exact ⟨m1.at_, m1.seed, r_4, (some_inj hF11), (FF.cons (hf.get 0 0 rfl) (FF.cons (hf.get 4 2 rfl) (FF.cons (hf.get 6 3 rfl) (FF.cons rfl FF.nil)))), rfl, (hS19.sel [0, 2, 3, 4, 5, 6] rfl rfl)⟩
 rintro f w ⟨at_, seed, by_, rfl, hf1, hl, hS20⟩
 refine cw_seq ?_
 obtain ⟨z3, hz3, hF12⟩ := bind_inv hF1
 refine cw_mid (fun f w => ∃ (at_2 : Int) (seed2 : Int) (by_2 : List Int), (at_2, seed2, by_2) = z3 ∧ FF f [(0, pt B 0), (4, pt (aD b1) 0), (6, pt B9 0), (7, .slice B12 r_4.length c11)] ∧ by_2.length = r_4.length ∧ ST w0 (bl [⟨B, 112, [.slice B1 c.code.length c1, vi c.at_, .int .u64 c.seed], 3⟩]) w [⟨B, 112, [.slice B1 c.code.length c1, vi at_2, .int .u64 seed2], 3⟩, ⟨aD b1, 70, [vi 0, vi 0, .slice none 0 0, .slice none 0 0], 4⟩, ⟨B9, 70, [vi r_3.Qubits, vi r_3.Phase, .slice B10 r_3.Terms.length c9, .slice B11 r_3.Out.Rows.length c10], 4⟩, ⟨B10, 136, (r_3.Terms.flatMap eN0), c9 * 2⟩, ⟨B11, 3, (r_3.Out.Rows.flatMap encI), c10 * 1⟩, ⟨B12, 3, (by_2.flatMap encI), c11 * 1⟩] [⟨B1, (c.code.flatMap enc_u8)⟩, ⟨B2, (p.Terms.flatMap eN0)⟩, ⟨B3, (p.Out.Rows.flatMap encI)⟩]) ?_ ?_
 ·skip
  refine cw_seq (cw_region ?_)
  refine sQ 59 (Y_move (v := pt B 0) rfl (hf1.get 0 0 rfl)) ?_
  obtain ⟨⟨r_8, m5⟩, hc7, hz3⟩ := bind_inv hz3
  refine sc 60 rfl rfl (Yc_func (g := 90) (vs := [pt B 0, vi 3]) k_call_90 rfl (mc rfl (mc rfl mn)) (c_spec_l1Cur_one (Tl1Cur.mk c.code at_ seed) 3 B B1 c1 c.code.length _ rfl (hS20.inn [true, false, false, false, false, false] rfl [(true, 0)] rfl) hc7)) ?_
  rintro _ w_23 ⟨rfl, hd12⟩
  have hS35 := hS20.out [true, false, false, false, false, false] rfl hd12
  refine rw_nil ?_
  refine cw_cond (b := r_8) rfl (fun hb5 => ?_) (fun hb5 => ?_)
  ·skip
   have hF13 := ct hz3 hb5
   obtain ⟨⟨r_9, m6⟩, hc8, hF13⟩ := bind_inv hF13
   obtain ⟨x2, hx2, hF13⟩ := bind_inv hF13
   obtain ⟨⟨r_10, m7⟩, hc9, hF13⟩ := bind_inv hF13
   refine cw_mid (fun f w => FF f [(0, pt B 0), (4, pt (aD b1) 0), (6, pt B9 0), (7, .slice B12 r_4.length c11)] ∧ ST w0 (bl [⟨B, 112, [.slice B1 c.code.length c1, vi c.at_, .int .u64 c.seed], 3⟩]) w [⟨B, 112, [.slice B1 c.code.length c1, vi m7.at_, .int .u64 m7.seed], 3⟩, ⟨aD b1, 70, [vi 0, vi 0, .slice none 0 0, .slice none 0 0], 4⟩, ⟨B9, 70, [vi r_3.Qubits, vi r_3.Phase, .slice B10 r_3.Terms.length c9, .slice B11 r_3.Out.Rows.length c10], 4⟩, ⟨B10, 136, (r_3.Terms.flatMap eN0), c9 * 2⟩, ⟨B11, 3, (r_3.Out.Rows.flatMap encI), c10 * 1⟩, ⟨B12, 3, ((by_.set r_9.toNat (i64.wrap (x2 + (i64.wrap (1 + r_10))))).flatMap encI), c11 * 1⟩] [⟨B1, (c.code.flatMap enc_u8)⟩, ⟨B2, (p.Terms.flatMap eN0)⟩, ⟨B3, (p.Out.Rows.flatMap encI)⟩]) ?_ ?_
   ·skip
    refine ra_start (hS35.se [0, 1, 2, 3]).fn (by kernel_rfl) ?_
    have hS39 := hS35.drew
    refine rq 0 61 (v := .slice B12 r_4.length c11) rfl (hS39.se [0, 1, 2, 3]) (fun w' hw' => (Y_move (v := .slice B12 r_4.length c11) rfl (hf1.get 7 3 rfl))) ?_
    refine rq 1 62 (v := pt B 0) rfl (hS39.se [0, 1, 2, 3]) (fun w' hw' => (Y_move (v := pt B 0) rfl (hf1.get 0 0 rfl))) ?_
    refine rq 2 63 (v := .slice B12 r_4.length c11) rfl (hS39.se [0, 1, 2, 3]) (fun w' hw' => (Y_move (v := .slice B12 r_4.length c11) rfl (hf1.get 7 3 rfl))) ?_
    refine rq 3 64 (v := vi (r_4.length : Int)) rfl (hS39.se [0, 1, 2, 3]) (fun w' hw' => (Y_len (B := B12) (m := r_4.length) (c := c11) k_sl_66_3 rfl rfl)) ?_
    refine rq 7 68 (v := pt B 0) rfl (hS39.se [0, 1, 2, 3]) (fun w' hw' => (Y_move (v := pt B 0) rfl (hf1.get 0 0 rfl))) ?_
    refine rA [4] ?_
    refine ra_c 65 (i := 4) rfl rfl rfl (Yc_func (g := 71) (vs := [pt B 0, vi (r_4.length : Int)]) k_call_71 rfl (mc rfl (mc rfl mn)) (c_spec_l1Cur_pick (Tl1Cur.mk c.code m5.at_ m5.seed) (r_4.length : Int) B B1 c1 c.code.length _ rfl (hS39.inn [false, false, false, false, false, true] rfl [(true, 0)] rfl) hc8)) ?_ ?_
    ·rintro _ w_24 ⟨rfl, hd13⟩
     have hS40 := hS39.out [false, false, false, false, false, true] rfl hd13
     refine ⟨(hS40.se [0, 1, 2, 3]), ?_⟩
     refine rA [5, 8] ?_
     refine ra_y 66 (i := 5) (v := pt B12 (r_9.toNat * 1)) rfl rfl rfl (Y_index (B := B12) (m := r_4.length) (c := c11) (k := .i64) (i := r_9) k_sl_66_3 k_sz_3_1 rfl rfl rfl (gi_isSome encI_len rfl (hS40.cf (i := 4) rfl) hx2) (getI_nn hx2) (getI_ltI hx2 hl)) (hS40.se [0, 1, 2, 3]) ?_ ?_
     ·skip
      refine rA [6, 8] ?_
      refine ra_y 67 (i := 6) (v := vi x2) rfl rfl rfl (Y_load1 (B := B12) (i := r_9.toNat * 1) (cs := (by_.flatMap encI)) (v := vi x2) k_sc_3 rfl rfl (hS40.cf (i := 4) rfl) (gi_at0 encI_len hx2 rfl)) (hS40.se [0, 1, 2, 3]) ?_ ?_
      ·skip
       refine rA [8] ?_
       refine ra_c 69 (i := 8) rfl rfl rfl (Yc_func (g := 71) (vs := [pt B 0, vi 7]) k_call_71 rfl (mc rfl (mc rfl mn)) (c_spec_l1Cur_pick (Tl1Cur.mk c.code m6.at_ m6.seed) 7 B B1 c1 c.code.length _ rfl (hS40.inn [false, false, false, false, false, true] rfl [(true, 0)] rfl) hc9)) ?_ ?_
       ·rintro _ w_25 ⟨rfl, hd14⟩
        have hS41 := hS40.out [false, false, false, false, false, true] rfl hd14
        refine ⟨(hS41.se [0, 1, 2, 3]), ?_⟩
        refine rq 9 70 (v := vi (i64.wrap (1 + r_10))) rfl (hS41.se [0, 1, 2, 3]) (fun w' hw' => (Y_add (k := .i64) (a := 1) (b := r_10) rfl rfl rfl)) ?_
        refine rq 10 71 (v := vi (i64.wrap (x2 + (i64.wrap (1 + r_10))))) rfl (hS41.se [0, 1, 2, 3]) (fun w' hw' => (Y_add (k := .i64) (a := x2) (b := (i64.wrap (1 + r_10))) rfl rfl rfl)) ?_
        refine rA [11] ?_
        refine ra_y 72 (i := 11) (v := pt B12 (r_9.toNat * 1)) rfl rfl rfl (Y_index (B := B12) (m := r_4.length) (c := c11) (k := .i64) (i := r_9) k_sl_66_3 k_sz_3_1 rfl rfl rfl (gi_isSome encI_len rfl (hS41.cf (i := 4) rfl) hx2) (getI_nn hx2) (getI_ltI hx2 hl)) (hS41.se [0, 1, 2, 3]) ?_ ?_
        ·skip
         refine rA [12] ?_
         refine ra_s0 (i := 12) rfl rfl rfl (Ys_store (i := 4) (s := 1) (B := B12) (T' := 3) (v := vi (i64.wrap (x2 + (i64.wrap (1 + r_10))))) (vs := [vi (i64.wrap (x2 + (i64.wrap (1 + r_10))))]) (k := r_9.toNat * 1) (cs' := ((by_.set r_9.toNat (i64.wrap (x2 + (i64.wrap (1 + r_10))))).flatMap encI)) hS41 k_sz_3_1 rfl rfl rfl rfl rfl rfl rfl (gi_fit0 encI_len hx2) (gi_set encI_len hx2 (i64.wrap (x2 + (i64.wrap (1 + r_10)))) rfl) rfl) ?_ ?_
         ·rintro _ w_26 ⟨rfl, hS42⟩
          refine ⟨(hS42.se [0, 1, 2, 3]), ?_⟩
          refine ra_done (by kernel_rfl) ?_
          exact ⟨(FF.cons (hf1.get 0 0 rfl) (FF.cons (hf1.get 4 1 rfl) (FF.cons (hf1.get 6 2 rfl) (FF.cons (hf1.get 7 3 rfl) FF.nil)))), (hS42.sel [5, 0, 1, 2, 3, 4] rfl rfl)⟩
         exact allR_nil
        exact allR_nil
       exact allR_nil
      refine ra_c 69 (i := 8) rfl rfl rfl (Yc_func (g := 71) (vs := [pt B 0, vi 7]) k_call_71 rfl (mc rfl (mc rfl mn)) (c_spec_l1Cur_pick (Tl1Cur.mk c.code m6.at_ m6.seed) 7 B B1 c1 c.code.length _ rfl (hS40.inn [false, false, false, false, false, true] rfl [(true, 0)] rfl) hc9)) ?_ ?_
      ·rintro _ w_27 ⟨rfl, hd15⟩
       have hS43 := hS40.out [false, false, false, false, false, true] rfl hd15
       refine ⟨(hS43.se [0, 1, 2, 3]), ?_⟩
       refine rq 9 70 (v := vi (i64.wrap (1 + r_10))) rfl (hS43.se [0, 1, 2, 3]) (fun w' hw' => (Y_add (k := .i64) (a := 1) (b := r_10) rfl rfl rfl)) ?_
       refine rA [6] ?_
       refine ra_y 67 (i := 6) (v := vi x2) rfl rfl rfl (Y_load1 (B := B12) (i := r_9.toNat * 1) (cs := (by_.flatMap encI)) (v := vi x2) k_sc_3 rfl rfl (hS43.cf (i := 4) rfl) (gi_at0 encI_len hx2 rfl)) (hS43.se [0, 1, 2, 3]) ?_ ?_
       ·skip
        refine rq 10 71 (v := vi (i64.wrap (x2 + (i64.wrap (1 + r_10))))) rfl (hS43.se [0, 1, 2, 3]) (fun w' hw' => (Y_add (k := .i64) (a := x2) (b := (i64.wrap (1 + r_10))) rfl rfl rfl)) ?_
        refine rA [11] ?_
        refine ra_y 72 (i := 11) (v := pt B12 (r_9.toNat * 1)) rfl rfl rfl (Y_index (B := B12) (m := r_4.length) (c := c11) (k := .i64) (i := r_9) k_sl_66_3 k_sz_3_1 rfl rfl rfl (gi_isSome encI_len rfl (hS43.cf (i := 4) rfl) hx2) (getI_nn hx2) (getI_ltI hx2 hl)) (hS43.se [0, 1, 2, 3]) ?_ ?_
        ·skip
         refine rA [12] ?_
         refine ra_s0 (i := 12) rfl rfl rfl (Ys_store (i := 4) (s := 1) (B := B12) (T' := 3) (v := vi (i64.wrap (x2 + (i64.wrap (1 + r_10))))) (vs := [vi (i64.wrap (x2 + (i64.wrap (1 + r_10))))]) (k := r_9.toNat * 1) (cs' := ((by_.set r_9.toNat (i64.wrap (x2 + (i64.wrap (1 + r_10))))).flatMap encI)) hS43 k_sz_3_1 rfl rfl rfl rfl rfl rfl rfl (gi_fit0 encI_len hx2) (gi_set encI_len hx2 (i64.wrap (x2 + (i64.wrap (1 + r_10)))) rfl) rfl) ?_ ?_
         ·rintro _ w_28 ⟨rfl, hS44⟩
          refine ⟨(hS44.se [0, 1, 2, 3]), ?_⟩
          refine ra_done (by kernel_rfl) ?_
          exact ⟨(FF.cons (hf1.get 0 0 rfl) (FF.cons (hf1.get 4 1 rfl) (FF.cons (hf1.get 6 2 rfl) (FF.cons (hf1.get 7 3 rfl) FF.nil)))), (hS44.sel [5, 0, 1, 2, 3, 4] rfl rfl)⟩
         exact allR_nil
        exact allR_nil
       exact allR_nil
      exact allR_nil
     refine ra_c 69 (i := 8) rfl rfl rfl (Yc_func (g := 71) (vs := [pt B 0, vi 7]) k_call_71 rfl (mc rfl (mc rfl mn)) (c_spec_l1Cur_pick (Tl1Cur.mk c.code m6.at_ m6.seed) 7 B B1 c1 c.code.length _ rfl (hS40.inn [false, false, false, false, false, true] rfl [(true, 0)] rfl) hc9)) ?_ ?_
     ·rintro _ w_29 ⟨rfl, hd16⟩
      have hS45 := hS40.out [false, false, false, false, false, true] rfl hd16
      have hS45 : ST w0 (bl [⟨B, 112, [.slice B1 c.code.length c1, vi c.at_, .int .u64 c.seed], 3⟩]) _ [⟨aD b1, 70, [vi 0, vi 0, .slice none 0 0, .slice none 0 0], 4⟩, ⟨B9, 70, [vi r_3.Qubits, vi r_3.Phase, .slice B10 r_3.Terms.length c9, .slice B11 r_3.Out.Rows.length c10], 4⟩, ⟨B10, 136, (r_3.Terms.flatMap eN0), c9 * 2⟩, ⟨B11, 3, (r_3.Out.Rows.flatMap encI), c10 * 1⟩, ⟨B12, 3, (by_.flatMap encI), c11 * 1⟩, ⟨B, 112, [.slice B1 c.code.length c1, vi m7.at_, .int .u64 m7.seed], 3⟩] [⟨B1, (c.code.flatMap enc_u8)⟩, ⟨B2, (p.Terms.flatMap eN0)⟩, ⟨B3, (p.Out.Rows.flatMap encI)⟩] := hS45
      refine ⟨(hS45.se [0, 1, 2, 3]), ?_⟩
      refine rq 9 70 (v := vi (i64.wrap (1 + r_10))) rfl (hS45.se [0, 1, 2, 3]) (fun w' hw' => (Y_add (k := .i64) (a := 1) (b := r_10) rfl rfl rfl)) ?_
      refine rA [5] ?_
      refine ra_y 66 (i := 5) (v := pt B12 (r_9.toNat * 1)) rfl rfl rfl (Y_index (B := B12) (m := r_4.length) (c := c11) (k := .i64) (i := r_9) k_sl_66_3 k_sz_3_1 rfl rfl rfl (gi_isSome encI_len rfl (hS45.cf (i := 4) rfl) hx2) (getI_nn hx2) (getI_ltI hx2 hl)) (hS45.se [0, 1, 2, 3]) ?_ ?_
      ·skip
       refine rA [6] ?_
       refine ra_y 67 (i := 6) (v := vi x2) rfl rfl rfl (Y_load1 (B := B12) (i := r_9.toNat * 1) (cs := (by_.flatMap encI)) (v := vi x2) k_sc_3 rfl rfl (hS45.cf (i := 4) rfl) (gi_at0 encI_len hx2 rfl)) (hS45.se [0, 1, 2, 3]) ?_ ?_
       ·skip
        refine rq 10 71 (v := vi (i64.wrap (x2 + (i64.wrap (1 + r_10))))) rfl (hS45.se [0, 1, 2, 3]) (fun w' hw' => (Y_add (k := .i64) (a := x2) (b := (i64.wrap (1 + r_10))) rfl rfl rfl)) ?_
        refine rA [11] ?_
        refine ra_y 72 (i := 11) (v := pt B12 (r_9.toNat * 1)) rfl rfl rfl (Y_index (B := B12) (m := r_4.length) (c := c11) (k := .i64) (i := r_9) k_sl_66_3 k_sz_3_1 rfl rfl rfl (gi_isSome encI_len rfl (hS45.cf (i := 4) rfl) hx2) (getI_nn hx2) (getI_ltI hx2 hl)) (hS45.se [0, 1, 2, 3]) ?_ ?_
        ·skip
         refine rA [12] ?_
         refine ra_s0 (i := 12) rfl rfl rfl (Ys_store (i := 4) (s := 1) (B := B12) (T' := 3) (v := vi (i64.wrap (x2 + (i64.wrap (1 + r_10))))) (vs := [vi (i64.wrap (x2 + (i64.wrap (1 + r_10))))]) (k := r_9.toNat * 1) (cs' := ((by_.set r_9.toNat (i64.wrap (x2 + (i64.wrap (1 + r_10))))).flatMap encI)) hS45 k_sz_3_1 rfl rfl rfl rfl rfl rfl rfl (gi_fit0 encI_len hx2) (gi_set encI_len hx2 (i64.wrap (x2 + (i64.wrap (1 + r_10)))) rfl) rfl) ?_ ?_
         ·rintro _ w_30 ⟨rfl, hS46⟩
          refine ⟨(hS46.se [0, 1, 2, 3]), ?_⟩
          refine ra_done (by kernel_rfl) ?_
          exact ⟨(FF.cons (hf1.get 0 0 rfl) (FF.cons (hf1.get 4 1 rfl) (FF.cons (hf1.get 6 2 rfl) (FF.cons (hf1.get 7 3 rfl) FF.nil)))), (hS46.sel [5, 0, 1, 2, 3, 4] rfl rfl)⟩
         exact allR_nil
        exact allR_nil
       exact allR_nil
      exact allR_nil
     exact allR_nil
    exact allR_nil
   rintro f w ⟨hf6, hS38⟩
   exact ⟨m7.at_, m7.seed, (by_.set r_9.toNat (i64.wrap (x2 + (i64.wrap (1 + r_10))))), (some_inj hF13), (FF.cons (hf6.get 0 0 rfl) (FF.cons (hf6.get 4 1 rfl) (FF.cons (hf6.get 6 2 rfl) (FF.cons (hf6.get 7 3 rfl) FF.nil)))), (set_len _ _ _ hl), (hS38.sel [0, 1, 2, 3, 4, 5] rfl rfl)⟩
  ·skip
   have hF14 := cf' hz3 hb5
   refine cw_skip ?_
   exact ⟨m5.at_, m5.seed, by_, (some_inj hF14), (FF.cons (hf1.get 0 0 rfl) (FF.cons (hf1.get 4 1 rfl) (FF.cons (hf1.get 6 2 rfl) (FF.cons (hf1.get 7 3 rfl) FF.nil)))), hl, (hS35.sel [5, 0, 1, 2, 3, 4] rfl rfl)⟩
 rintro f w ⟨at_2, seed2, by_2, rfl, hf5, hl2, hS34⟩
 refine cw_seq (cw_region ?_)
 refine sQ 73 (Y_move (v := .slice B12 r_4.length c11) rfl (hf5.get 7 3 rfl)) ?_
 obtain ⟨r_11, hc10, hF12⟩ := bind_inv hF12
 refine sc 74 rfl rfl (Yc_func (g := 99) (vs := [.slice B12 r_4.length c11]) k_call_99 rfl (mc rfl mn) (c_spec_l13List by_2 B12 c11 r_4.length _ hl2 (hS34.inn0 [(false, 5)] rfl) hc10)) ?_
 rintro _ w_31 ⟨B13, c12, rfl, hd17⟩
 have hS47 := hS34.out0 hd17
 refine sQ 75 (Y_fieldAddr (B := B9) (i := 0) (s := 0) k_fd_70_2_2_65 k_sz_65_1 rfl (hf5.get 6 2 rfl)) ?_
 refine s0 (Ys_store (i := 2) (s := 1) (B := B9) (T' := 70) (v := .slice B13 r_11.length c12) (vs := [.slice B13 r_11.length c12]) (k := 2) (cs' := [vi r_3.Qubits, vi r_3.Phase, .slice B13 r_11.length c12, .slice B11 r_3.Out.Rows.length c10]) hS47 k_sz_65_1 rfl rfl rfl rfl rfl rfl rfl (lB rfl) rfl rfl) ?_
 rintro _ w_32 ⟨rfl, hS48⟩
 refine rw_nil (cw_seq ?_)
 obtain ⟨z4, hz4, hF15⟩ := bind_inv hF12
 refine cw_mid (fun f w => ∃ (at_3 : Int) (seed3 : Int) (Phase : Int), (at_3, seed3, Phase) = z4 ∧ FF f [(4, pt (aD b1) 0), (6, pt B9 0)] ∧ ST w0 (bl [⟨B, 112, [.slice B1 c.code.length c1, vi c.at_, .int .u64 c.seed], 3⟩]) w [⟨B, 112, [.slice B1 c.code.length c1, vi at_3, .int .u64 seed3], 3⟩, ⟨aD b1, 70, [vi 0, vi 0, .slice none 0 0, .slice none 0 0], 4⟩, ⟨B9, 70, [vi r_3.Qubits, vi Phase, .slice B13 r_11.length c12, .slice B11 r_3.Out.Rows.length c10], 4⟩, ⟨B13, 136, (r_11.flatMap eN0), c12 * 2⟩, ⟨B11, 3, (r_3.Out.Rows.flatMap encI), c10 * 1⟩] [⟨B1, (c.code.flatMap enc_u8)⟩, ⟨B2, (p.Terms.flatMap eN0)⟩, ⟨B3, (p.Out.Rows.flatMap encI)⟩]) ?_ ?_
 ·skip
  refine cw_seq (cw_region ?_)
  refine sQ 76 (Y_move (v := pt B 0) rfl (hf5.get 0 0 rfl)) ?_
  obtain ⟨⟨r_12, m8⟩, hc11, hz4⟩ := bind_inv hz4
  refine sc 77 rfl rfl (Yc_func (g := 90) (vs := [pt B 0, vi 12]) k_call_90 rfl (mc rfl (mc rfl mn)) (c_spec_l1Cur_one (Tl1Cur.mk c.code at_2 seed2) 12 B B1 c1 c.code.length _ rfl (hS48.inn [true, false, false, false, false, false, false] rfl [(true, 0)] rfl) hc11)) ?_
  rintro _ w_33 ⟨rfl, hd18⟩
  have hS50 := hS48.out [true, false, false, false, false, false, false] rfl hd18
  refine rw_nil ?_
  refine cw_cond (b := r_12) rfl (fun hb6 => ?_) (fun hb6 => ?_)
  ·skip
   have hF16 := ct hz4 hb6
   refine cw_region ?_
   refine sQ 78 (Y_move (v := pt B 0) rfl (hf5.get 0 0 rfl)) ?_
   obtain ⟨⟨r_13, m9⟩, hc12, hF16⟩ := bind_inv hF16
   refine sc 79 rfl rfl (Yc_func (g := 71) (vs := [pt B 0, vi 8]) k_call_71 rfl (mc rfl (mc rfl mn)) (c_spec_l1Cur_pick (Tl1Cur.mk c.code m8.at_ m8.seed) 8 B B1 c1 c.code.length _ rfl (hS50.inn [false, false, false, false, false, false, true] rfl [(true, 0)] rfl) hc12)) ?_
   rintro _ w_34 ⟨rfl, hd19⟩
   have hS51 := hS50.out [false, false, false, false, false, false, true] rfl hd19
   refine sQ 80 (Y_fieldAddr (B := B9) (i := 0) (s := 0) k_fd_70_1_1_3 k_sz_3_1 rfl (hf5.get 6 2 rfl)) ?_
   refine s0 (Ys_store (i := 1) (s := 1) (B := B9) (T' := 70) (v := vi r_13) (vs := [vi r_13]) (k := 1) (cs' := [vi r_3.Qubits, vi r_13, .slice B13 r_11.length c12, .slice B11 r_3.Out.Rows.length c10]) hS51 k_sz_3_1 rfl rfl rfl rfl rfl rfl rfl (lB rfl) rfl rfl) ?_
   rintro _ w_35 ⟨rfl, hS52⟩
   refine rw_nil ?_
   exact ⟨m9.at_, m9.seed, r_13, (some_inj hF16), (FF.cons (hf5.get 4 1 rfl) (FF.cons (hf5.get 6 2 rfl) FF.nil)), (hS52.sel [6, 0, 1, 5, 3] rfl rfl)⟩
  ·skip
   have hF17 := cf' hz4 hb6
   refine cw_skip ?_
   exact ⟨m8.at_, m8.seed, r_3.Phase, (some_inj hF17), (FF.cons (hf5.get 4 1 rfl) (FF.cons (hf5.get 6 2 rfl) FF.nil)), (hS50.sel [6, 0, 1, 5, 3] rfl rfl)⟩
 rintro f w ⟨at_3, seed3, Phase, rfl, hf7, hS49⟩
 refine cw_seq (cw_region ?_)
 refine sQ 81 (Y_loadA (B := B9) (i := 0) (cs := [vi r_3.Qubits, vi Phase, .slice B13 r_11.length c12, .slice B11 r_3.Out.Rows.length c10]) (vs := [vi r_3.Qubits, vi Phase, .slice B13 r_11.length c12, .slice B11 r_3.Out.Rows.length c10]) k_ag_70 k_sz_70_4 rfl (hf7.get 6 1 rfl) (hS49.cf (i := 2) rfl) rfl rfl) ?_
 refine s0 (Ys_store (i := 1) (s := 4) (B := aD b1) (T' := 70) (v := .agg #[vi r_3.Qubits, vi Phase, .slice B13 r_11.length c12, .slice B11 r_3.Out.Rows.length c10]) (vs := [vi r_3.Qubits, vi Phase, .slice B13 r_11.length c12, .slice B11 r_3.Out.Rows.length c10]) (k := 0) (cs' := [vi r_3.Qubits, vi Phase, .slice B13 r_11.length c12, .slice B11 r_3.Out.Rows.length c10]) hS49 k_sz_70_4 rfl (hf7.get 4 0 rfl) rfl rfl rfl rfl rfl (lB rfl) rfl rfl) ?_
 rintro _ w_36 ⟨rfl, hS53⟩
 refine rw_nil (cw_ret ?_)
 obtain ⟨rfl, rfl⟩ := pr2 (some_inj hF15)
 exact ret1 Tryz.results120 (v1 := .agg #[vi r_3.Qubits, vi Phase, .slice B13 r_11.length c12, .slice B11 r_3.Out.Rows.length c10]) (resAt_cellA (B := aD b1) (i := 0) (cs := [vi r_3.Qubits, vi Phase, .slice B13 r_11.length c12, .slice B11 r_3.Out.Rows.length c10]) (vs := [vi r_3.Qubits, vi Phase, .slice B13 r_11.length c12, .slice B11 r_3.Out.Rows.length c10]) (hf7.get 4 0 rfl) k_ag_70 k_sz_70_4 (hS53.cf (i := 1) rfl) rfl rfl) ⟨B13, c12, B11, c10, rfl, (hS53.sN [0, 3, 4])⟩

theorem c_spec_DrawCheckReduction (code : List Int) (B : Option Addr) (c n : Nat) (w0 : World) (hn : code.length = n) (hS : ST w0 [] w0 [] [⟨B, (code.flatMap enc_u8)⟩]) {r_ : TPhasePoly} {r_1 : Int} {r_2 : TPhasePoly} (hF : F_spec_DrawCheckReduction code = some (r_, r_1, r_2)) :
  CV Tryz.prog 45 #[.slice B n c] w0 (fun v w' => ∃ (B1 : Option Addr) (c1 : Nat) (B2 : Option Addr) (c2 : Nat) (B3 : Option Addr) (c3 : Nat) (B4 : Option Addr) (c4 : Nat), v = .tuple #[.agg #[vi r_.Qubits, vi r_.Phase, .slice B1 r_.Terms.length c1, .slice B2 r_.Out.Rows.length c2], vi r_1, .agg #[vi r_2.Qubits, vi r_2.Phase, .slice B3 r_2.Terms.length c3, .slice B4 r_2.Out.Rows.length c4]] ∧ r_2.Out.Rows.length ≤ c4 ∧ Org w0 [] [⟨B, (code.flatMap enc_u8)⟩] [⟨B4, (r_2.Out.Rows.flatMap encI)⟩] ∧ ST w0 [] w' [⟨B1, 136, (r_.Terms.flatMap eN0), c1 * 2⟩, ⟨B2, 3, (r_.Out.Rows.flatMap encI), c2 * 1⟩, ⟨B3, 136, (r_2.Terms.flatMap eN0), c3 * 2⟩] [⟨B4, (r_2.Out.Rows.flatMap encI)⟩]) := by
 subst hn
 unfold F_spec_DrawCheckReduction at hF
 refine cv_of_cw 57 Tryz.func45 rfl Tryz.ntmps45 rfl ?_
 refine cw_seq (cw_region ?_)
 refine sS 2 (Ys_alloc (T := 70) (cs := [vi 0, vi 0, .slice none 0 0, .slice none 0 0]) (m := 4) hS k_zero_70 rfl rfl rfl) ?_
 rintro _ w_ ⟨b, rfl, hS1⟩
 refine sQ 3 (Y_assign (v := vi 0) rfl rfl) ?_
 refine sS 4 (Ys_alloc (T := 70) (cs := [vi 0, vi 0, .slice none 0 0, .slice none 0 0]) (m := 4) hS1 k_zero_70 rfl rfl rfl) ?_
 rintro _ w_1 ⟨b1, rfl, hS2⟩
 refine rw_nil (cw_seq (cw_region ?_))
 refine sQ 11 (Y_move (v := .slice B code.length c) rfl rfl) ?_
 refine sQ 12 (Y_buildS (zs := [.slice none 0 0, vi 0, .int .u64 0]) (vs := [(0, .slice B code.length c)]) (cs := [.slice B code.length c, vi 0, .int .u64 0]) k_pl_112 k_zero_112 rfl (mpc rfl mpn) rfl) ?_
 refine sS 13 (Ys_box (T := 112) (v := .agg #[.slice B code.length c, vi 0, .int .u64 0]) (cs := [.slice B code.length c, vi 0, .int .u64 0]) (m := 3) hS2 rfl rfl rfl rfl) ?_
 rintro _ w_2 ⟨b2, rfl, hS3⟩
 refine sQ 5 (Y_assign (v := pt (aD b2) 0) rfl rfl) (rw_nil (cw_seq (cw_region ?_)))
 refine sQ 14 (Y_move (v := pt (aD b2) 0) rfl rfl) ?_
 obtain ⟨⟨r_3, m⟩, hc, hF⟩ := bind_inv hF
 refine sc 15 rfl rfl (Yc_func (g := 117) (vs := [pt (aD b2) 0]) k_call_117 rfl (mc rfl mn) (c_spec_l1Cur_reducible (Tl1Cur.mk code 0 0) (aD b2) B c code.length _ rfl (hS3.inn [false, false, true] rfl [(true, 0)] rfl) hc)) ?_
 rintro _ w_3 ⟨B5, c5, B6, c6, rfl, hd⟩
 have hS4 := hS3.out [false, false, true] rfl hd
 refine sS 6 (Ys_alloc (T := 70) (cs := [vi 0, vi 0, .slice none 0 0, .slice none 0 0]) (m := 4) hS4 k_zero_70 rfl rfl rfl) ?_
 rintro _ w_4 ⟨b3, rfl, hS5⟩
 refine s0 (Ys_store (i := 5) (s := 4) (B := aD b3) (T' := 70) (v := .agg #[vi r_3.Qubits, vi r_3.Phase, .slice B5 r_3.Terms.length c5, .slice B6 r_3.Out.Rows.length c6]) (vs := [vi r_3.Qubits, vi r_3.Phase, .slice B5 r_3.Terms.length c5, .slice B6 r_3.Out.Rows.length c6]) (k := 0) (cs' := [vi r_3.Qubits, vi r_3.Phase, .slice B5 r_3.Terms.length c5, .slice B6 r_3.Out.Rows.length c6]) hS5 k_sz_70_4 rfl rfl rfl rfl rfl rfl rfl (lB rfl) rfl rfl) ?_
 rintro _ w_5 ⟨rfl, hS6⟩
 refine rw_nil (cw_seq (cw_region ?_))
 refine sQ 17 (Y_loadA (B := aD b3) (i := 0) (cs := [vi r_3.Qubits, vi r_3.Phase, .slice B5 r_3.Terms.length c5, .slice B6 r_3.Out.Rows.length c6]) (vs := [vi r_3.Qubits, vi r_3.Phase, .slice B5 r_3.Terms.length c5, .slice B6 r_3.Out.Rows.length c6]) k_ag_70 k_sz_70_4 rfl rfl (hS6.cf (i := 5) rfl) rfl rfl) ?_
 obtain ⟨⟨r_4, r_5, r_6⟩, hc1, hF⟩ := bind_inv hF
 refine sc 18 rfl rfl (Yc_func (g := 44) (vs := [.agg #[vi r_3.Qubits, vi r_3.Phase, .slice B5 r_3.Terms.length c5, .slice B6 r_3.Out.Rows.length c6]]) k_call_44 rfl (mc rfl mn) (c_spec_ReduceT r_3 B5 c5 r_3.Terms.length B6 c6 r_3.Out.Rows.length _ rfl rfl (hS6.inn0 [(false, 3), (false, 4)] rfl) hc1)) ?_
 rintro _ w_6 ⟨B7, c7, B8, c8, rfl, hd1⟩
 have hS7 := hS6.out0 hd1
 refine sQ 16 (Y_move (v := .tuple #[.agg #[vi r_4.Qubits, vi r_4.Phase, .slice B7 r_4.Terms.length c7, .slice B8 r_4.Out.Rows.length c8], vi r_5, .bool r_6]) rfl rfl) ?_
 refine sQ 19 (Y_extract (v := .agg #[vi r_4.Qubits, vi r_4.Phase, .slice B7 r_4.Terms.length c7, .slice B8 r_4.Out.Rows.length c8]) rfl rfl rfl) ?_
 refine sQ 20 (Y_extract (v := vi r_5) rfl rfl rfl) ?_
 refine sQ 21 (Y_extract (v := .bool r_6) rfl rfl rfl) ?_
 refine sS 7 (Ys_alloc (T := 70) (cs := [vi 0, vi 0, .slice none 0 0, .slice none 0 0]) (m := 4) hS7 k_zero_70 rfl rfl rfl) ?_
 rintro _ w_7 ⟨b4, rfl, hS8⟩
 refine s0 (Ys_store (i := 8) (s := 4) (B := aD b4) (T' := 70) (v := .agg #[vi r_4.Qubits, vi r_4.Phase, .slice B7 r_4.Terms.length c7, .slice B8 r_4.Out.Rows.length c8]) (vs := [vi r_4.Qubits, vi r_4.Phase, .slice B7 r_4.Terms.length c7, .slice B8 r_4.Out.Rows.length c8]) (k := 0) (cs' := [vi r_4.Qubits, vi r_4.Phase, .slice B7 r_4.Terms.length c7, .slice B8 r_4.Out.Rows.length c8]) hS8 k_sz_70_4 rfl rfl rfl rfl rfl rfl rfl (lB rfl) rfl rfl) ?_
 rintro _ w_8 ⟨rfl, hS9⟩
 refine sQ 8 (Y_assign (v := vi r_5) rfl rfl) ?_
 refine sQ 9 (Y_assign (v := .bool r_6) rfl rfl) (rw_nil (cw_seq ?_))
 obtain ⟨z, hz, hF1⟩ := bind_inv hF
 refine cw_mid (fun f w => ∃ (Qubits : Int) (Phase : Int) (Terms : List TTerm) (Out : List Int) (w_9 : Int) (B9 : Option Addr) (c9 : Nat) (B10 : Option Addr) (c10 : Nat), (Qubits, Phase, Terms, Out, w_9) = z ∧ FF f [(2, pt (aD b) 0), (4, pt (aD b1) 0), (6, pt (aD b3) 0), (7, pt (aD b4) 0), (8, vi w_9)] ∧ Org w0 [] [⟨B, (code.flatMap enc_u8)⟩] [⟨B10, (Out.flatMap encI)⟩] ∧ Out.length ≤ c10 ∧ ST w0 [] w [⟨aD b, 70, [vi 0, vi 0, .slice none 0 0, .slice none 0 0], 4⟩, ⟨aD b1, 70, [vi 0, vi 0, .slice none 0 0, .slice none 0 0], 4⟩, ⟨aD b3, 70, [vi r_3.Qubits, vi r_3.Phase, .slice B5 r_3.Terms.length c5, .slice B6 r_3.Out.Rows.length c6], 4⟩, ⟨B5, 136, (r_3.Terms.flatMap eN0), c5 * 2⟩, ⟨B6, 3, (r_3.Out.Rows.flatMap encI), c6 * 1⟩, ⟨aD b4, 70, [vi Qubits, vi Phase, .slice B9 Terms.length c9, .slice B10 Out.length c10], 4⟩, ⟨B9, 136, (Terms.flatMap eN0), c9 * 2⟩] [⟨B10, (Out.flatMap encI)⟩, ⟨B, (code.flatMap enc_u8)⟩]) ?_ ?_
 ·skip
  refine cw_seq (cw_region ?_)
  refine sQ 22 (Y_move (v := pt (aD b2) 0) rfl rfl) ?_
  obtain ⟨⟨r_7, m1⟩, hc2, hz⟩ := bind_inv hz
  refine sc 23 rfl rfl (Yc_func (g := 71) (vs := [pt (aD b2) 0, vi 8]) k_call_71 rfl (mc rfl (mc rfl mn)) (c_spec_l1Cur_pick (Tl1Cur.mk code m.at_ m.seed) 8 (aD b2) B c code.length _ rfl (hS9.inn [false, false, true, false, false, false, false, false, false] rfl [(true, 0)] rfl) hc2)) ?_
  rintro _ w_10 ⟨rfl, hd2⟩
  have hS11 := hS9.out [false, false, true, false, false, false, false, false, false] rfl hd2
  refine rw_nil (cw_block (cw_seq (cw_region ?_)))
  refine sQ 25 (Y_eq (k := .i64) (a := r_7) (b := 0) rfl rfl rfl) ?_
  refine sQ 24 (Y_assign (v := .bool (r_7 == 0)) rfl rfl) (rw_nil ?_)
  refine cw_cond (b := (r_7 == 0)) rfl (fun hb => ?_) (fun hb => ?_)
  ·skip
   have hF2 := ct hz hb
   refine cw_region ?_
   refine sQ 26 (Y_move (v := pt (aD b2) 0) rfl rfl) ?_
   refine sQ 27 (Y_fieldAddr (B := aD b3) (i := 0) (s := 0) k_fd_70_0_0_3 k_sz_3_1 rfl rfl) ?_
   refine sQ 28 (Y_load1 (B := aD b3) (i := 0) (cs := [vi r_3.Qubits, vi r_3.Phase, .slice B5 r_3.Terms.length c5, .slice B6 r_3.Out.Rows.length c6]) (v := vi r_3.Qubits) k_sc_3 rfl rfl (hS11.cf (i := 4) rfl) rfl) ?_
   obtain ⟨⟨r_8, m2⟩, hc3, hF2⟩ := bind_inv hF2
   refine sc 29 rfl rfl (Yc_func (g := 118) (vs := [pt (aD b2) 0, vi r_3.Qubits]) k_call_118 rfl (mc rfl (mc rfl mn)) (c_spec_l1Cur_oddWord (Tl1Cur.mk code m1.at_ m1.seed) r_3.Qubits (aD b2) B c code.length _ rfl (hS11.inn [false, false, false, false, false, false, false, false, true] rfl [(true, 0)] rfl) hc3)) ?_
   rintro _ w_11 ⟨rfl, hd3⟩
   have hS12 := hS11.out [false, false, false, false, false, false, false, false, true] rfl hd3
   refine sQ 8 (Y_assign (v := vi r_8) rfl rfl) (rw_nil ?_)
   have ho1 : Org w0 [] [⟨B, (code.flatMap enc_u8)⟩] [⟨B8, (r_4.Out.Rows.flatMap encI)⟩] := ST.orgOwn hS12 (i := 6) rfl
   have hcap : r_4.Out.Rows.length ≤ c8 := (hS12.lencap (i := 6) rfl (fm_lenn (l := r_4.Out.Rows) encI_len rfl) rfl rfl)
   have hS13 : ST w0 [] _ [⟨aD b, 70, [vi 0, vi 0, .slice none 0 0, .slice none 0 0], 4⟩, ⟨aD b1, 70, [vi 0, vi 0, .slice none 0 0, .slice none 0 0], 4⟩, ⟨B5, 136, (r_3.Terms.flatMap eN0), c5 * 2⟩, ⟨B6, 3, (r_3.Out.Rows.flatMap encI), c6 * 1⟩, ⟨aD b3, 70, [vi r_3.Qubits, vi r_3.Phase, .slice B5 r_3.Terms.length c5, .slice B6 r_3.Out.Rows.length c6], 4⟩, ⟨B7, 136, (r_4.Terms.flatMap eN0), c7 * 2⟩, ⟨aD b4, 70, [vi r_4.Qubits, vi r_4.Phase, .slice B7 r_4.Terms.length c7, .slice B8 r_4.Out.Rows.length c8], 4⟩, ⟨aD b2, 112, [.slice B code.length c, vi m2.at_, .int .u64 m2.seed], 3⟩] [⟨B8, (r_4.Out.Rows.flatMap encI)⟩, ⟨B, (code.flatMap enc_u8)⟩] := hS12.freeze (i := 6) rfl
   exact ⟨r_4.Qubits, r_4.Phase, r_4.Terms, r_4.Out.Rows, r_8, B7, c7, B8, c8, (some_inj hF2), (FF.cons rfl (FF.cons rfl (FF.cons rfl (FF.cons rfl (FF.cons rfl FF.nil))))), ho1, (len_le rfl hcap), (hS13.sel [0, 1, 4, 2, 3, 6, 5] rfl rfl)⟩
  ·skip
   have hF3 := cf' hz hb
   refine cw_seq (cw_region ?_)
   refine sQ 31 (Y_eq (k := .i64) (a := r_7) (b := 1) rfl rfl rfl) ?_
   refine sQ 30 (Y_assign (v := .bool (r_7 == 1)) rfl rfl) (rw_nil ?_)
   refine cw_cond (b := (r_7 == 1)) rfl (fun hb1 => ?_) (fun hb1 => ?_)
   ·skip
    have hF4 := ct hF3 hb1
    refine cw_seq (cw_region ?_)
    refine sQ 32 (Y_fieldAddr (B := aD b3) (i := 0) (s := 0) k_fd_70_0_0_3 k_sz_3_1 rfl rfl) ?_
    refine sQ 33 (Y_load1 (B := aD b3) (i := 0) (cs := [vi r_3.Qubits, vi r_3.Phase, .slice B5 r_3.Terms.length c5, .slice B6 r_3.Out.Rows.length c6]) (v := vi r_3.Qubits) k_sc_3 rfl rfl (hS11.cf (i := 4) rfl) rfl) ?_
    obtain ⟨r_9, hc4, hF4⟩ := bind_inv hF4
    refine sc 34 rfl rfl (Yc_func (g := 119) (vs := [vi r_3.Qubits]) k_call_119 rfl (mc rfl mn) (c_spec_l15Codes r_3.Qubits _  (hS11.inn0 [] rfl) hc4)) ?_
    rintro _ w_12 ⟨B11, c11, rfl, hd4⟩
    have hS14 := hS11.out0 hd4
    refine sQ 10 (Y_assign (v := .slice B11 r_9.length c11) rfl rfl) (rw_nil (cw_seq (cw_region ?_)))
    refine sQ 35 (Y_move (v := .slice B11 r_9.length c11) rfl rfl) ?_
    refine sQ 36 (Y_move (v := pt (aD b2) 0) rfl rfl) ?_
    refine sQ 37 (Y_move (v := .slice B11 r_9.length c11) rfl rfl) ?_
    refine sQ 38 (Y_len (B := B11) (m := r_9.length) (c := c11) k_sl_66_3 rfl rfl) ?_
    obtain ⟨⟨r_10, m3⟩, hc5, hF4⟩ := bind_inv hF4
    refine sc 39 rfl rfl (Yc_func (g := 71) (vs := [pt (aD b2) 0, vi (r_9.length : Int)]) k_call_71 rfl (mc rfl (mc rfl mn)) (c_spec_l1Cur_pick (Tl1Cur.mk code m1.at_ m1.seed) (r_9.length : Int) (aD b2) B c code.length _ rfl (hS14.inn [false, false, false, false, false, false, false, false, true, false] rfl [(true, 0)] rfl) hc5)) ?_
    rintro _ w_13 ⟨rfl, hd5⟩
    have hS15 := hS14.out [false, false, false, false, false, false, false, false, true, false] rfl hd5
    obtain ⟨x, hx, hF4⟩ := bind_inv hF4
    refine sQ 40 (Y_index (B := B11) (m := r_9.length) (c := c11) (k := .i64) (i := r_10) k_sl_66_3 k_sz_3_1 rfl rfl rfl (gi_isSome encI_len rfl (hS15.cf (i := 8) rfl) hx) (getI_nn hx) (getI_ltI hx rfl)) ?_
    refine sQ 41 (Y_load1 (B := B11) (i := r_10.toNat * 1) (cs := (r_9.flatMap encI)) (v := vi x) k_sc_3 rfl rfl (hS15.cf (i := 8) rfl) (gi_at0 encI_len hx rfl)) ?_
    refine sQ 8 (Y_assign (v := vi x) rfl rfl) (rw_nil (cw_region ?_))
    refine sQ 42 (Y_loadA (B := aD b3) (i := 0) (cs := [vi r_3.Qubits, vi r_3.Phase, .slice B5 r_3.Terms.length c5, .slice B6 r_3.Out.Rows.length c6]) (vs := [vi r_3.Qubits, vi r_3.Phase, .slice B5 r_3.Terms.length c5, .slice B6 r_3.Out.Rows.length c6]) k_ag_70 k_sz_70_4 rfl rfl (hS15.cf (i := 4) rfl) rfl rfl) ?_
    refine sQ 43 (Y_move (v := vi x) rfl rfl) ?_
    obtain ⟨r_11, hc6, hF4⟩ := bind_inv hF4
    refine sc 44 rfl rfl (Yc_func (g := 116) (vs := [.agg #[vi r_3.Qubits, vi r_3.Phase, .slice B5 r_3.Terms.length c5, .slice B6 r_3.Out.Rows.length c6], vi x]) k_call_116 rfl (mc rfl (mc rfl mn)) (c_spec_l15Shift r_3 x B5 c5 r_3.Terms.length B6 c6 r_3.Out.Rows.length _ rfl rfl (hS15.inn0 [(false, 2), (false, 3)] rfl) hc6)) ?_
    rintro _ w_14 ⟨B12, c12, B13, c13, rfl, hd6⟩
    have hS16 := hS15.out0 hd6
    refine s0 (Ys_store (i := 7) (s := 4) (B := aD b4) (T' := 70) (v := .agg #[vi r_11.Qubits, vi r_11.Phase, .slice B12 r_11.Terms.length c12, .slice B13 r_11.Out.Rows.length c13]) (vs := [vi r_11.Qubits, vi r_11.Phase, .slice B12 r_11.Terms.length c12, .slice B13 r_11.Out.Rows.length c13]) (k := 0) (cs' := [vi r_11.Qubits, vi r_11.Phase, .slice B12 r_11.Terms.length c12, .slice B13 r_11.Out.Rows.length c13]) hS16 k_sz_70_4 rfl rfl rfl rfl rfl rfl rfl (lB rfl) rfl rfl) ?_
    rintro _ w_15 ⟨rfl, hS17⟩
    refine rw_nil ?_
    have ho2 : Org w0 [] [⟨B, (code.flatMap enc_u8)⟩] [⟨B13, (r_11.Out.Rows.flatMap encI)⟩] := ST.orgOwn hS17 (i := 11) rfl
    have hcap1 : r_11.Out.Rows.length ≤ c13 := (hS17.lencap (i := 11) rfl (fm_lenn (l := r_11.Out.Rows) encI_len rfl) rfl rfl)
    have hS18 : ST w0 [] _ [⟨aD b, 70, [vi 0, vi 0, .slice none 0 0, .slice none 0 0], 4⟩, ⟨aD b1, 70, [vi 0, vi 0, .slice none 0 0, .slice none 0 0], 4⟩, ⟨B5, 136, (r_3.Terms.flatMap eN0), c5 * 2⟩, ⟨B6, 3, (r_3.Out.Rows.flatMap encI), c6 * 1⟩, ⟨aD b3, 70, [vi r_3.Qubits, vi r_3.Phase, .slice B5 r_3.Terms.length c5, .slice B6 r_3.Out.Rows.length c6], 4⟩, ⟨B7, 136, (r_4.Terms.flatMap eN0), c7 * 2⟩, ⟨B8, 3, (r_4.Out.Rows.flatMap encI), c8 * 1⟩, ⟨aD b4, 70, [vi r_11.Qubits, vi r_11.Phase, .slice B12 r_11.Terms.length c12, .slice B13 r_11.Out.Rows.length c13], 4⟩, ⟨B11, 3, (r_9.flatMap encI), c11 * 1⟩, ⟨aD b2, 112, [.slice B code.length c, vi m3.at_, .int .u64 m3.seed], 3⟩, ⟨B12, 136, (r_11.Terms.flatMap eN0), c12 * 2⟩] [⟨B13, (r_11.Out.Rows.flatMap encI)⟩, ⟨B, (code.flatMap enc_u8)⟩] := hS17.freeze (i := 11) rfl
    exact ⟨r_11.Qubits, r_11.Phase, r_11.Terms, r_11.Out.Rows, x, B12, c12, B13, c13, (some_inj hF4), (FF.cons rfl (FF.cons rfl (FF.cons rfl (FF.cons rfl (FF.cons rfl FF.nil))))), ho2, (len_le rfl hcap1), (hS18.sel [0, 1, 4, 2, 3, 7, 10] rfl rfl)⟩
   ·skip
    have hF5 := cf' hF3 hb1
    refine cw_seq (cw_region ?_)
    refine sQ 46 (Y_eq (k := .i64) (a := r_7) (b := 2) rfl rfl rfl) ?_
    refine sQ 45 (Y_assign (v := .bool (r_7 == 2)) rfl rfl) (rw_nil ?_)
    refine cw_cond (b := (r_7 == 2)) rfl (fun hb2 => ?_) (fun hb2 => ?_)
    ·skip
     have hF6 := ct hF5 hb2
     refine cw_region ?_
     refine sQ 47 (Y_move (v := pt (aD b2) 0) rfl rfl) ?_
     refine sQ 48 (Y_loadA (B := aD b4) (i := 0) (cs := [vi r_4.Qubits, vi r_4.Phase, .slice B7 r_4.Terms.length c7, .slice B8 r_4.Out.Rows.length c8]) (vs := [vi r_4.Qubits, vi r_4.Phase, .slice B7 r_4.Terms.length c7, .slice B8 r_4.Out.Rows.length c8]) k_ag_70 k_sz_70_4 rfl rfl (hS11.cf (i := 7) rfl) rfl rfl) ?_
     obtain ⟨⟨r_12, m4⟩, hc7, hF6⟩ := bind_inv hF6
     refine sc 49 rfl rfl (Yc_func (g := 120) (vs := [pt (aD b2) 0, .agg #[vi r_4.Qubits, vi r_4.Phase, .slice B7 r_4.Terms.length c7, .slice B8 r_4.Out.Rows.length c8]]) k_call_120 rfl (mc rfl (mc rfl mn)) (c_spec_l1Cur_relative (Tl1Cur.mk code m1.at_ m1.seed) r_4 (aD b2) B c code.length B7 c7 r_4.Terms.length B8 c8 r_4.Out.Rows.length _ rfl rfl rfl (hS11.inn [false, false, false, false, false, false, false, false, true] rfl [(true, 0), (false, 5), (false, 6)] rfl) hc7)) ?_
     rintro _ w_16 ⟨B14, c14, B15, c15, rfl, hd7⟩
     have hS19 := hS11.out [false, false, false, false, false, false, false, false, true] rfl hd7
     refine s0 (Ys_store (i := 7) (s := 4) (B := aD b4) (T' := 70) (v := .agg #[vi r_12.Qubits, vi r_12.Phase, .slice B14 r_12.Terms.length c14, .slice B15 r_12.Out.Rows.length c15]) (vs := [vi r_12.Qubits, vi r_12.Phase, .slice B14 r_12.Terms.length c14, .slice B15 r_12.Out.Rows.length c15]) (k := 0) (cs' := [vi r_12.Qubits, vi r_12.Phase, .slice B14 r_12.Terms.length c14, .slice B15 r_12.Out.Rows.length c15]) hS19 k_sz_70_4 rfl rfl rfl rfl rfl rfl rfl (lB rfl) rfl rfl) ?_
     rintro _ w_17 ⟨rfl, hS20⟩
     refine rw_nil ?_
     have ho3 : Org w0 [] [⟨B, (code.flatMap enc_u8)⟩] [⟨B15, (r_12.Out.Rows.flatMap encI)⟩] := ST.orgOwn hS20 (i := 10) rfl
     have hcap2 : r_12.Out.Rows.length ≤ c15 := (hS20.lencap (i := 10) rfl (fm_lenn (l := r_12.Out.Rows) encI_len rfl) rfl rfl)
     have hS21 : ST w0 [] _ [⟨aD b, 70, [vi 0, vi 0, .slice none 0 0, .slice none 0 0], 4⟩, ⟨aD b1, 70, [vi 0, vi 0, .slice none 0 0, .slice none 0 0], 4⟩, ⟨B5, 136, (r_3.Terms.flatMap eN0), c5 * 2⟩, ⟨B6, 3, (r_3.Out.Rows.flatMap encI), c6 * 1⟩, ⟨aD b3, 70, [vi r_3.Qubits, vi r_3.Phase, .slice B5 r_3.Terms.length c5, .slice B6 r_3.Out.Rows.length c6], 4⟩, ⟨B7, 136, (r_4.Terms.flatMap eN0), c7 * 2⟩, ⟨B8, 3, (r_4.Out.Rows.flatMap encI), c8 * 1⟩, ⟨aD b4, 70, [vi r_12.Qubits, vi r_12.Phase, .slice B14 r_12.Terms.length c14, .slice B15 r_12.Out.Rows.length c15], 4⟩, ⟨aD b2, 112, [.slice B code.length c, vi m4.at_, .int .u64 m4.seed], 3⟩, ⟨B14, 136, (r_12.Terms.flatMap eN0), c14 * 2⟩] [⟨B15, (r_12.Out.Rows.flatMap encI)⟩, ⟨B, (code.flatMap enc_u8)⟩] := hS20.freeze (i := 10) rfl
     exact ⟨r_12.Qubits, r_12.Phase, r_12.Terms, r_12.Out.Rows, r_5, B14, c14, B15, c15, (some_inj hF6), (FF.cons rfl (FF.cons rfl (FF.cons rfl (FF.cons rfl (FF.cons rfl FF.nil))))), ho3, (len_le rfl hcap2), (hS21.sel [0, 1, 4, 2, 3, 7, 9] rfl rfl)⟩
    ·skip
     have hF7 := cf' hF5 hb2
     refine cw_seq (cw_region ?_)
     refine sQ 51 (Y_eq (k := .i64) (a := r_7) (b := 3) rfl rfl rfl) ?_
     refine sQ 50 (Y_assign (v := .bool (r_7 == 3)) rfl rfl) (rw_nil ?_)
     refine cw_cond (b := (r_7 == 3)) rfl (fun hb3 => ?_) (fun hb3 => ?_)
     ·skip
      have hF8 := ct hF7 hb3
      refine cw_region ?_
      refine sQ 52 (Y_move (v := pt (aD b2) 0) rfl rfl) ?_
      obtain ⟨⟨r_13, m5⟩, hc8, hF8⟩ := bind_inv hF8
      refine sc 53 rfl rfl (Yc_func (g := 121) (vs := [pt (aD b2) 0]) k_call_121 rfl (mc rfl mn) (c_spec_l1Cur_anyPhasePoly (Tl1Cur.mk code m1.at_ m1.seed) (aD b2) B c code.length _ rfl (hS11.inn [false, false, false, false, false, false, false, false, true] rfl [(true, 0)] rfl) hc8)) ?_
      rintro _ w_18 ⟨B16, c16, B17, c17, rfl, hq1, ho4, hd8⟩
      have hS22 := ST.outR hS11 [false, false, false, false, false, false, false, false, true] rfl hd8 ho4 (subc (mem_at (i := 0) rfl) (fun _ h => by cases h))
      have ho5 : Org w0 [] [⟨B, (code.flatMap enc_u8)⟩] [⟨B17, (r_13.Out.Rows.flatMap encI)⟩] := org_trans hS11 (msk_mem (mask := [false, false, false, false, false, false, false, false, true]) rfl) ho4 (org_cons (org_mem (i := 0) rfl) org_nil)
      have hS23 : ST w0 [] _ [⟨aD b, 70, [vi 0, vi 0, .slice none 0 0, .slice none 0 0], 4⟩, ⟨aD b1, 70, [vi 0, vi 0, .slice none 0 0, .slice none 0 0], 4⟩, ⟨B5, 136, (r_3.Terms.flatMap eN0), c5 * 2⟩, ⟨B6, 3, (r_3.Out.Rows.flatMap encI), c6 * 1⟩, ⟨aD b3, 70, [vi r_3.Qubits, vi r_3.Phase, .slice B5 r_3.Terms.length c5, .slice B6 r_3.Out.Rows.length c6], 4⟩, ⟨B7, 136, (r_4.Terms.flatMap eN0), c7 * 2⟩, ⟨B8, 3, (r_4.Out.Rows.flatMap encI), c8 * 1⟩, ⟨aD b4, 70, [vi r_4.Qubits, vi r_4.Phase, .slice B7 r_4.Terms.length c7, .slice B8 r_4.Out.Rows.length c8], 4⟩, ⟨aD b2, 112, [.slice B code.length c, vi m5.at_, .int .u64 m5.seed], 3⟩, ⟨B16, 136, (r_13.Terms.flatMap eN0), c16 * 2⟩] [⟨B17, (r_13.Out.Rows.flatMap encI)⟩, ⟨B, (code.flatMap enc_u8)⟩] := hS22
      refine s0 (Ys_store (i := 7) (s := 4) (B := aD b4) (T' := 70) (v := .agg #[vi r_13.Qubits, vi r_13.Phase, .slice B16 r_13.Terms.length c16, .slice B17 r_13.Out.Rows.length c17]) (vs := [vi r_13.Qubits, vi r_13.Phase, .slice B16 r_13.Terms.length c16, .slice B17 r_13.Out.Rows.length c17]) (k := 0) (cs' := [vi r_13.Qubits, vi r_13.Phase, .slice B16 r_13.Terms.length c16, .slice B17 r_13.Out.Rows.length c17]) hS23 k_sz_70_4 rfl rfl rfl rfl rfl rfl rfl (lB rfl) rfl rfl) ?_
      rintro _ w_19 ⟨rfl, hS24⟩
      refine rw_nil ?_
      exact ⟨r_13.Qubits, r_13.Phase, r_13.Terms, r_13.Out.Rows, r_5, B16, c16, B17, c17, (some_inj hF8), (FF.cons rfl (FF.cons rfl (FF.cons rfl (FF.cons rfl (FF.cons rfl FF.nil))))), (org_sub ho5 (subc (mem_at (i := 0) rfl) (fun _ h => by cases h))), (len_le rfl hq1), (hS24.sel [0, 1, 4, 2, 3, 7, 9] rfl rfl)⟩
     ·skip
      have hF9 := cf' hF7 hb3
      refine cw_skip ?_
      have ho6 : Org w0 [] [⟨B, (code.flatMap enc_u8)⟩] [⟨B8, (r_4.Out.Rows.flatMap encI)⟩] := ST.orgOwn hS11 (i := 6) rfl
      have hcap3 : r_4.Out.Rows.length ≤ c8 := (hS11.lencap (i := 6) rfl (fm_lenn (l := r_4.Out.Rows) encI_len rfl) rfl rfl)
      have hS25 : ST w0 [] _ [⟨aD b, 70, [vi 0, vi 0, .slice none 0 0, .slice none 0 0], 4⟩, ⟨aD b1, 70, [vi 0, vi 0, .slice none 0 0, .slice none 0 0], 4⟩, ⟨B5, 136, (r_3.Terms.flatMap eN0), c5 * 2⟩, ⟨B6, 3, (r_3.Out.Rows.flatMap encI), c6 * 1⟩, ⟨aD b3, 70, [vi r_3.Qubits, vi r_3.Phase, .slice B5 r_3.Terms.length c5, .slice B6 r_3.Out.Rows.length c6], 4⟩, ⟨B7, 136, (r_4.Terms.flatMap eN0), c7 * 2⟩, ⟨aD b4, 70, [vi r_4.Qubits, vi r_4.Phase, .slice B7 r_4.Terms.length c7, .slice B8 r_4.Out.Rows.length c8], 4⟩, ⟨aD b2, 112, [.slice B code.length c, vi m1.at_, .int .u64 m1.seed], 3⟩] [⟨B8, (r_4.Out.Rows.flatMap encI)⟩, ⟨B, (code.flatMap enc_u8)⟩] := hS11.freeze (i := 6) rfl
      exact ⟨r_4.Qubits, r_4.Phase, r_4.Terms, r_4.Out.Rows, r_5, B7, c7, B8, c8, (some_inj hF9), (FF.cons rfl (FF.cons rfl (FF.cons rfl (FF.cons rfl (FF.cons rfl FF.nil))))), ho6, (len_le rfl hcap3), (hS25.sel [0, 1, 4, 2, 3, 6, 5] rfl rfl)⟩
 rintro f w ⟨Qubits, Phase, Terms, Out, w_9, B9, c9, B10, c10, rfl, hf, ho, hq, hS10⟩
 refine cw_seq ?_
 refine ra_start (hS10.se [2, 3, 4, 5, 6]).fn (by kernel_rfl) ?_
 have hS26 := hS10.drew
 refine rq 0 54 (v := .agg #[vi r_3.Qubits, vi r_3.Phase, .slice B5 r_3.Terms.length c5, .slice B6 r_3.Out.Rows.length c6]) rfl (hS26.se [2, 3, 4, 5, 6]) (fun w' hw' => (Y_loadA (B := aD b3) (i := 0) (cs := [vi r_3.Qubits, vi r_3.Phase, .slice B5 r_3.Terms.length c5, .slice B6 r_3.Out.Rows.length c6]) (vs := [vi r_3.Qubits, vi r_3.Phase, .slice B5 r_3.Terms.length c5, .slice B6 r_3.Out.Rows.length c6]) k_ag_70 k_sz_70_4 rfl (hf.get 6 2 rfl) (ST.cf hw' (i := 0) rfl) rfl rfl)) ?_
 refine rq 1 55 (v := vi w_9) rfl (hS26.se [2, 3, 4, 5, 6]) (fun w' hw' => (Y_move (v := vi w_9) rfl (hf.get 8 4 rfl))) ?_
 refine rq 2 56 (v := .agg #[vi Qubits, vi Phase, .slice B9 Terms.length c9, .slice B10 Out.length c10]) rfl (hS26.se [2, 3, 4, 5, 6]) (fun w' hw' => (Y_loadA (B := aD b4) (i := 0) (cs := [vi Qubits, vi Phase, .slice B9 Terms.length c9, .slice B10 Out.length c10]) (vs := [vi Qubits, vi Phase, .slice B9 Terms.length c9, .slice B10 Out.length c10]) k_ag_70 k_sz_70_4 rfl (hf.get 7 3 rfl) (ST.cf hw' (i := 3) rfl) rfl rfl)) ?_
 refine rA [3] ?_
 refine ra_s0 (i := 3) rfl rfl rfl (Ys_store (i := 0) (s := 4) (B := aD b) (T' := 70) (v := .agg #[vi r_3.Qubits, vi r_3.Phase, .slice B5 r_3.Terms.length c5, .slice B6 r_3.Out.Rows.length c6]) (vs := [vi r_3.Qubits, vi r_3.Phase, .slice B5 r_3.Terms.length c5, .slice B6 r_3.Out.Rows.length c6]) (k := 0) (cs' := [vi r_3.Qubits, vi r_3.Phase, .slice B5 r_3.Terms.length c5, .slice B6 r_3.Out.Rows.length c6]) hS26 k_sz_70_4 rfl (hf.get 2 0 rfl) rfl rfl rfl rfl rfl (lB rfl) rfl rfl) ?_ ?_
 ·rintro _ w_20 ⟨rfl, hS27⟩
  refine ⟨(hS27.se [2, 3, 4, 5, 6]), ?_⟩
  refine rq 4 3 (v := vi w_9) rfl (hS27.se [2, 3, 4, 5, 6]) (fun w' hw' => (Y_assign (v := vi w_9) rfl rfl)) ?_
  refine rA [5] ?_
  refine ra_s0 (i := 5) rfl rfl rfl (Ys_store (i := 1) (s := 4) (B := aD b1) (T' := 70) (v := .agg #[vi Qubits, vi Phase, .slice B9 Terms.length c9, .slice B10 Out.length c10]) (vs := [vi Qubits, vi Phase, .slice B9 Terms.length c9, .slice B10 Out.length c10]) (k := 0) (cs' := [vi Qubits, vi Phase, .slice B9 Terms.length c9, .slice B10 Out.length c10]) hS27 k_sz_70_4 rfl (hf.get 4 1 rfl) rfl rfl rfl rfl rfl (lB rfl) rfl rfl) ?_ ?_
  ·rintro _ w_21 ⟨rfl, hS28⟩
   refine ⟨(hS28.se [2, 3, 4, 5, 6]), ?_⟩
   refine ra_done (by kernel_rfl) ?_
   refine cw_ret ?_
   obtain ⟨rfl, rfl, rfl⟩ := pr3 (some_inj hF1)
   exact ret3 Tryz.results45 (v1 := .agg #[vi r_3.Qubits, vi r_3.Phase, .slice B5 r_3.Terms.length c5, .slice B6 r_3.Out.Rows.length c6]) (resAt_cellA (B := aD b) (i := 0) (cs := [vi r_3.Qubits, vi r_3.Phase, .slice B5 r_3.Terms.length c5, .slice B6 r_3.Out.Rows.length c6]) (vs := [vi r_3.Qubits, vi r_3.Phase, .slice B5 r_3.Terms.length c5, .slice B6 r_3.Out.Rows.length c6]) (hf.get 2 0 rfl) k_ag_70 k_sz_70_4 (hS28.cf (i := 0) rfl) rfl rfl) (v2 := vi w_9) (resAt_tmp rfl) (v3 := .agg #[vi Qubits, vi Phase, .slice B9 Terms.length c9, .slice B10 Out.length c10]) (resAt_cellA (B := aD b1) (i := 0) (cs := [vi Qubits, vi Phase, .slice B9 Terms.length c9, .slice B10 Out.length c10]) (vs := [vi Qubits, vi Phase, .slice B9 Terms.length c9, .slice B10 Out.length c10]) (hf.get 4 1 rfl) k_ag_70 k_sz_70_4 (hS28.cf (i := 1) rfl) rfl rfl) ⟨B5, c5, B6, c6, B9, c9, B10, c10, rfl, (len_le rfl hq), (org_cons ho org_nil), (ST.subR (R' := [⟨B10, (Out.flatMap encI)⟩]) (hS28.sel [3, 4, 6] rfl rfl) (subc (mem_at (i := 0) rfl) (fun _ h => by cases h)))⟩
  exact allR_nil
 exact allR_nil

theorem c_impl_LeastT (p : TPhasePoly) (B : Option Addr) (c n : Nat) (B1 : Option Addr) (c1 n1 : Nat) (w0 : World) (hn : p.Terms.length = n) (hn1 : p.Out.Rows.length = n1) (hS : ST w0 [] w0 [] [⟨B, (p.Terms.flatMap eN0)⟩, ⟨B1, (p.Out.Rows.flatMap encI)⟩]) {r_ : Int} {r_1 : Bool} (hF : F_impl_LeastT p = some (r_, r_1)) :
  CV Tryz.prog 50 #[.agg #[vi p.Qubits, vi p.Phase, .slice B n c, .slice B1 n1 c1]] w0 (fun v w' => v = .tuple #[vi r_, .bool r_1] ∧ ST w0 [] w' [] []) := by
 subst hn
 subst hn1
 unfold F_impl_LeastT at hF
 refine cv_of_cw 18 Tryz.func50 rfl Tryz.ntmps50 rfl ?_
 refine cw_seq (cw_region ?_)
 refine sS 1 (Ys_box (T := 70) (v := .agg #[vi p.Qubits, vi p.Phase, .slice B p.Terms.length c, .slice B1 p.Out.Rows.length c1]) (cs := [vi p.Qubits, vi p.Phase, .slice B p.Terms.length c, .slice B1 p.Out.Rows.length c1]) (m := 4) hS rfl rfl rfl rfl) ?_
 rintro _ w_ ⟨b, rfl, hS1⟩
 refine sQ 2 (Y_assign (v := vi 0) rfl rfl) ?_
 refine sQ 3 (Y_assign (v := .bool false) rfl rfl) (rw_nil (cw_seq (cw_seq (cw_region ?_))))
 refine sQ 6 (Y_loadA (B := aD b) (i := 0) (cs := [vi p.Qubits, vi p.Phase, .slice B p.Terms.length c, .slice B1 p.Out.Rows.length c1]) (vs := [vi p.Qubits, vi p.Phase, .slice B p.Terms.length c, .slice B1 p.Out.Rows.length c1]) k_ag_70 k_sz_70_4 rfl rfl (hS1.cf (i := 0) rfl) rfl rfl) ?_
 obtain ⟨r_2, hc, hF⟩ := bind_inv hF
 refine sc 7 rfl rfl (Yc_func (g := 102) (vs := [.agg #[vi p.Qubits, vi p.Phase, .slice B p.Terms.length c, .slice B1 p.Out.Rows.length c1]]) k_call_102 rfl (mc rfl mn) (c_impl_IsValidPhasePoly p B c p.Terms.length B1 c1 p.Out.Rows.length _ rfl rfl (hS1.inn0 [(true, 0), (true, 1)] rfl) hc)) ?_
 rintro _ w_1 ⟨rfl, hd⟩
 have hS2 := hS1.out00 hd
 refine sQ 8 (Y_not (p := r_2) rfl rfl) (rw_nil ?_)
 refine cw_cond (b := (!r_2)) rfl (fun hb => ?_) (fun hb => ?_)
 ·skip
  have hF1 := ct hF hb
  refine cw_seq (cw_region ?_)
  refine sQ 2 (Y_assign (v := vi 0) rfl rfl) ?_
  refine sQ 3 (Y_assign (v := .bool false) rfl rfl) (rw_nil (cw_ret ?_))
  obtain ⟨rfl, rfl⟩ := pr2 (some_inj hF1)
  exact ret2 Tryz.results50 (v1 := vi 0) (resAt_tmp rfl) (v2 := .bool false) (resAt_tmp rfl) ⟨rfl, (hS2.sN [])⟩
 ·skip
  have hF2 := cf' hF hb
  refine cw_skip (cw_seq ?_)
  obtain ⟨r_3, hc1, hF2⟩ := bind_inv hF2
  obtain ⟨⟨r_4, r_5⟩, hc2, hF2⟩ := bind_inv hF2
  refine ra_start (hS2.se [0]).fn (by kernel_rfl) ?_
  have hS5 := hS2.drew
  refine rq 0 10 (v := pt (aD b) 0) rfl (hS5.se [0]) (fun w' hw' => (Y_fieldAddr (B := aD b) (i := 0) (s := 0) k_fd_70_0_0_3 k_sz_3_1 rfl rfl)) ?_
  refine rq 1 11 (v := vi p.Qubits) rfl (hS5.se [0]) (fun w' hw' => (Y_load1 (B := aD b) (i := 0) (cs := [vi p.Qubits, vi p.Phase, .slice B p.Terms.length c, .slice B1 p.Out.Rows.length c1]) (v := vi p.Qubits) k_sc_3 rfl rfl (ST.cf hw' (i := 0) rfl) rfl)) ?_
  refine rq 2 12 (v := .agg #[vi p.Qubits, vi p.Phase, .slice B p.Terms.length c, .slice B1 p.Out.Rows.length c1]) rfl (hS5.se [0]) (fun w' hw' => (Y_loadA (B := aD b) (i := 0) (cs := [vi p.Qubits, vi p.Phase, .slice B p.Terms.length c, .slice B1 p.Out.Rows.length c1]) (vs := [vi p.Qubits, vi p.Phase, .slice B p.Terms.length c, .slice B1 p.Out.Rows.length c1]) k_ag_70 k_sz_70_4 rfl rfl (ST.cf hw' (i := 0) rfl) rfl rfl)) ?_
  refine rA [3] ?_
  refine ra_c 13 (i := 3) rfl rfl rfl (Yc_func (g := 111) (vs := [.agg #[vi p.Qubits, vi p.Phase, .slice B p.Terms.length c, .slice B1 p.Out.Rows.length c1]]) k_call_111 rfl (mc rfl mn) (c_impl_oddWord p B c p.Terms.length B1 c1 p.Out.Rows.length _ rfl rfl (hS5.inn0 [(true, 0), (true, 1)] rfl) hc1)) ?_ ?_
  ·rintro _ w_2 ⟨rfl, hd1⟩
   have hS6 := hS5.out00 hd1
   refine ⟨(hS6.se [0]), ?_⟩
   refine rA [4] ?_
   refine ra_c 14 (i := 4) rfl rfl rfl (Yc_func (g := 110) (vs := [vi p.Qubits, vi r_3]) k_call_110 rfl (mc rfl (mc rfl mn)) (c_impl_nearest p.Qubits r_3 _  (hS6.inn0 [] rfl) hc2)) ?_ ?_
   ·rintro _ w_3 ⟨rfl, hd2⟩
    have hS7 := hS6.out00 hd2
    refine ⟨(hS7.se [0]), ?_⟩
    refine rq 5 9 (v := .tuple #[vi r_4, vi r_5]) rfl (hS7.se [0]) (fun w' hw' => (Y_move (v := .tuple #[vi r_4, vi r_5]) rfl rfl)) ?_
    refine rq 6 15 (v := vi r_4) rfl (hS7.se [0]) (fun w' hw' => (Y_extract (v := vi r_4) rfl rfl rfl)) ?_
    refine rq 7 16 (v := vi r_5) rfl (hS7.se [0]) (fun w' hw' => (Y_extract (v := vi r_5) rfl rfl rfl)) ?_
    refine rq 8 4 (v := vi r_4) rfl (hS7.se [0]) (fun w' hw' => (Y_assign (v := vi r_4) rfl rfl)) ?_
    refine rq 9 5 (v := vi r_5) rfl (hS7.se [0]) (fun w' hw' => (Y_assign (v := vi r_5) rfl rfl)) ?_
    refine ra_done (by kernel_rfl) ?_
    refine cw_seq (cw_region ?_)
    refine sQ 17 (Y_move (v := vi r_5) rfl rfl) ?_
    refine sQ 2 (Y_assign (v := vi r_5) rfl rfl) ?_
    refine sQ 3 (Y_assign (v := .bool true) rfl rfl) (rw_nil (cw_ret ?_))
    obtain ⟨rfl, rfl⟩ := pr2 (some_inj hF2)
    exact ret2 Tryz.results50 (v1 := vi r_5) (resAt_tmp rfl) (v2 := .bool true) (resAt_tmp rfl) ⟨rfl, (hS7.sN [])⟩
   exact allR_nil
  exact allR_nil

theorem c_slices_Equal_int_int (s1 : List Int) (s2 : List Int) (B : Option Addr) (c n : Nat) (B1 : Option Addr) (c1 n1 : Nat) (w0 : World) (hn : s1.length = n) (hn1 : s2.length = n1) (hS : ST w0 [] w0 [] [⟨B, (s1.flatMap encI)⟩, ⟨B1, (s2.flatMap encI)⟩]) {r_ : Bool} (hF : F_slices_Equal_int_int s1 s2 = some r_) :
  CV Tryz.prog 129 #[.slice B n c, .slice B1 n1 c1] w0 (fun v w' => v = .bool r_ ∧ ST w0 [] w' [] []) := by
 subst hn
 subst hn1
 unfold F_slices_Equal_int_int at hF
 refine cv_of_cw 26 Tryz.func129 rfl Tryz.ntmps129 rfl ?_
 refine cw_seq (cw_region ?_)
 refine sQ 4 (Y_assign (v := .bool false) rfl rfl) (rw_nil (cw_seq (cw_seq (cw_region ?_))))
 refine sQ 6 (Y_move (v := .slice B s1.length c) rfl rfl) ?_
 refine sQ 7 (Y_len (B := B) (m := s1.length) (c := c) k_sl_66_3 rfl rfl) ?_
 refine sQ 8 (Y_move (v := .slice B1 s2.length c1) rfl rfl) ?_
 refine sQ 9 (Y_len (B := B1) (m := s2.length) (c := c1) k_sl_66_3 rfl rfl) ?_
 refine sQ 10 (Y_ne (k := .i64) (a := (s1.length : Int)) (b := (s2.length : Int)) rfl rfl rfl) (rw_nil ?_)
 refine cw_cond (b := ((s1.length : Int) != (s2.length : Int))) rfl (fun hb => ?_) (fun hb => ?_)
 ·skip
  have hF1 := ct hF hb
  refine cw_seq (cw_region ?_)
  refine sQ 4 (Y_assign (v := .bool false) rfl rfl) (rw_nil (cw_ret ?_))
  obtain rfl := some_inj hF1
  exact ret1 Tryz.results129 (v1 := .bool false) (resAt_tmp rfl) ⟨rfl, (hS.sN [])⟩
 ·skip
  have hF2 := cf' hF hb
  refine cw_skip (cw_seq (cw_seq (cw_region ?_)))
  refine sQ 11 (Y_move (v := .slice B s1.length c) rfl rfl) ?_
  refine sQ 12 (Y_len (B := B) (m := s1.length) (c := c) k_sl_66_3 rfl rfl) ?_
  refine sQ 13 (Y_move (v := vi 0) rfl rfl) (rw_nil ?_)
  obtain ⟨hN, hF2⟩ := chk_inv hF2
  obtain ⟨z, hz, hF3⟩ := bind_inv hF2
  refine cw_block ?_
  refine cw_loop (fun k f w => ∃ (i : Nat), FF f [(0, .slice B s1.length c), (1, .slice B1 s2.length c1), (12, vi (s1.length : Int)), (13, vi (i : Int))] ∧ ST w0 [] w [] [⟨B, (s1.flatMap encI)⟩, ⟨B1, (s2.flatMap encI)⟩] ∧ i + k = s1.length ∧ forX (F_slices_Equal_int_int_l1 s1 s2) k i () = some z) s1.length ⟨0, (FF.cons rfl (FF.cons rfl (FF.cons rfl (FF.cons rfl FF.nil)))), (hS.sel [] rfl rfl), Nat.zero_add _, hz⟩ ?_
  rintro k_ f w ⟨i, hf, hS1, hik, hL⟩
  refine cw_seq (cw_region ?_)
  refine sQ 14 (Y_lt (k := .i64) (a := (i : Int)) (b := (s1.length : Int)) rfl (hf.get 13 3 rfl) (hf.get 12 2 rfl)) (rw_nil (cw_seq ?_))
  refine cw_cond (b := (decide ((i : Int) < (s1.length : Int)))) rfl (fun hlt => ?_) (fun hlt => ?_)
  ·skip
   have hlt1 : i < s1.length := by have h := of_decide_eq_true hlt; omega
   obtain ⟨k_1, rfl⟩ : ∃ k2, k_ = k2 + 1 := ⟨k_ - 1, by omega⟩
   obtain ⟨y, hb1, hL1⟩ := forX_go hL
   unfold F_slices_Equal_int_int_l1 at hb1
   refine cw_skip (cw_seq (cw_block (cw_seq (cw_region ?_))))
   refine sQ 15 (Y_move (v := vi (i : Int)) rfl (hf.get 13 3 rfl)) ?_
   refine sQ 5 (Y_assign (v := vi (i : Int)) rfl rfl) (rw_nil (cw_seq ?_))
   obtain ⟨x, hx, hb1⟩ := bind_inv hb1
   obtain ⟨x1, hx1, hb1⟩ := bind_inv hb1
   refine ra_start (hS1.se []).fn (by kernel_rfl) ?_
   have hS2 := hS1.drew
   refine rq 0 16 (v := .slice B s1.length c) rfl (hS2.se []) (fun w' hw' => (Y_move (v := .slice B s1.length c) rfl (hf.get 0 0 rfl))) ?_
   refine rq 1 17 (v := vi (i : Int)) rfl (hS2.se []) (fun w' hw' => (Y_move (v := vi (i : Int)) rfl rfl)) ?_
   refine rq 2 18 (v := pt B ((i : Int).toNat * 1)) rfl (hS2.se []) (fun w' hw' => (Y_index (B := B) (m := s1.length) (c := c) (k := .i64) (i := (i : Int)) k_sl_66_3 k_sz_3_1 rfl rfl rfl (gi_isSome encI_len rfl (ST.rf hw' (i := 0) rfl) hx) (getI_nn hx) (getI_ltI hx rfl))) ?_
   refine rq 3 19 (v := vi x) rfl (hS2.se []) (fun w' hw' => (Y_load1 (B := B) (i := (i : Int).toNat * 1) (cs := (s1.flatMap encI)) (v := vi x) k_sc_3 rfl rfl (ST.rf hw' (i := 0) rfl) (gi_at0 encI_len hx rfl))) ?_
   refine rq 4 20 (v := .slice B1 s2.length c1) rfl (hS2.se []) (fun w' hw' => (Y_move (v := .slice B1 s2.length c1) rfl (hf.get 1 1 rfl))) ?_
   refine rq 5 21 (v := vi (i : Int)) rfl (hS2.se []) (fun w' hw' => (Y_move (v := vi (i : Int)) rfl rfl)) ?_
   refine rq 6 22 (v := pt B1 ((i : Int).toNat * 1)) rfl (hS2.se []) (fun w' hw' => (Y_index (B := B1) (m := s2.length) (c := c1) (k := .i64) (i := (i : Int)) k_sl_66_3 k_sz_3_1 rfl rfl rfl (gi_isSome encI_len rfl (ST.rf hw' (i := 1) rfl) hx1) (getI_nn hx1) (getI_ltI hx1 rfl))) ?_
   refine rq 7 23 (v := vi x1) rfl (hS2.se []) (fun w' hw' => (Y_load1 (B := B1) (i := (i : Int).toNat * 1) (cs := (s2.flatMap encI)) (v := vi x1) k_sc_3 rfl rfl (ST.rf hw' (i := 1) rfl) (gi_at0 encI_len hx1 rfl))) ?_
   refine rq 8 24 (v := .bool (x != x1)) rfl (hS2.se []) (fun w' hw' => (Y_ne (k := .i64) (a := x) (b := x1) rfl rfl rfl)) ?_
   refine ra_done (by kernel_rfl) ?_
   refine cw_cond (b := (x != x1)) rfl (fun hb2 => ?_) (fun hb2 => ?_)
   ·skip
    have hF4 := ct hb1 hb2
    refine cw_seq (cw_region ?_)
    refine sQ 4 (Y_assign (v := .bool false) rfl rfl) (rw_nil (cw_ret ?_))
    obtain rfl := some_inj hF4
    obtain rfl := some_inj hL1
    obtain rfl := some_inj hF3
    exact ret1 Tryz.results129 (v1 := .bool false) (resAt_tmp rfl) ⟨rfl, (hS2.sN [])⟩
   ·skip
    have hF5 := cf' hb1 hb2
    refine cw_skip (cw_region ?_)
    refine sQ 25 (Y_add (k := .i64) (a := (i : Int)) (b := 1) rfl (hf.get 13 3 rfl) rfl) ?_
    refine sQ 13 (Y_move (v := vi (i64.wrap ((i : Int) + 1))) rfl rfl) (rw_nil ?_)
    obtain rfl := some_inj hF5
    exact ⟨k_1, Nat.lt_succ_self _, i + 1, (FF.cons (hf.get 0 0 rfl) (FF.cons (hf.get 1 1 rfl) (FF.cons (hf.get 12 2 rfl) (FF.cons (congrArg (Value.int .i64) (wr_succ hlt1 hN)) FF.nil)))), (hS2.sel [] rfl rfl), (by omega), hL1⟩
  ·skip
   obtain rfl : k_ = 0 := by have h := of_decide_eq_false hlt; omega
   refine cw_exit rfl ?_
   obtain rfl := some_inj hL
   refine cw_seq (cw_region ?_)
   refine sQ 4 (Y_assign (v := .bool true) rfl rfl) (rw_nil (cw_ret ?_))
   obtain rfl := some_inj hF3
   exact ret1 Tryz.results129 (v1 := .bool true) (resAt_tmp rfl) ⟨rfl, (hS1.sN [])⟩

theorem c_slices_Equal_impl_Term_impl_Term (s1 : List TTerm) (s2 : List TTerm) (B : Option Addr) (c n : Nat) (B1 : Option Addr) (c1 n1 : Nat) (w0 : World) (hn : s1.length = n) (hn1 : s2.length = n1) (hS : ST w0 [] w0 [] [⟨B, (s1.flatMap eN0)⟩, ⟨B1, (s2.flatMap eN0)⟩]) {r_ : Bool} (hF : F_slices_Equal_impl_Term_impl_Term s1 s2 = some r_) :
  CV Tryz.prog 130 #[.slice B n c, .slice B1 n1 c1] w0 (fun v w' => v = .bool r_ ∧ ST w0 [] w' [] []) := by
 subst hn
 subst hn1
 unfold F_slices_Equal_impl_Term_impl_Term at hF
 refine cv_of_cw 26 Tryz.func130 rfl Tryz.ntmps130 rfl ?_
 refine cw_seq (cw_region ?_)
 refine sQ 4 (Y_assign (v := .bool false) rfl rfl) (rw_nil (cw_seq (cw_seq (cw_region ?_))))
 refine sQ 6 (Y_move (v := .slice B s1.length c) rfl rfl) ?_
 refine sQ 7 (Y_len (B := B) (m := s1.length) (c := c) k_sl_65_136 rfl rfl) ?_
 refine sQ 8 (Y_move (v := .slice B1 s2.length c1) rfl rfl) ?_
 refine sQ 9 (Y_len (B := B1) (m := s2.length) (c := c1) k_sl_65_136 rfl rfl) ?_
 refine sQ 10 (Y_ne (k := .i64) (a := (s1.length : Int)) (b := (s2.length : Int)) rfl rfl rfl) (rw_nil ?_)
 refine cw_cond (b := ((s1.length : Int) != (s2.length : Int))) rfl (fun hb => ?_) (fun hb => ?_)
 ·skip
  have hF1 := ct hF hb
  refine cw_seq (cw_region ?_)
  refine sQ 4 (Y_assign (v := .bool false) rfl rfl) (rw_nil (cw_ret ?_))
  obtain rfl := some_inj hF1
  exact ret1 Tryz.results130 (v1 := .bool false) (resAt_tmp rfl) ⟨rfl, (hS.sN [])⟩
 ·skip
  have hF2 := cf' hF hb
  refine cw_skip (cw_seq (cw_seq (cw_region ?_)))
  refine sQ 11 (Y_move (v := .slice B s1.length c) rfl rfl) ?_
  refine sQ 12 (Y_len (B := B) (m := s1.length) (c := c) k_sl_65_136 rfl rfl) ?_
  refine sQ 13 (Y_move (v := vi 0) rfl rfl) (rw_nil ?_)
  obtain ⟨hN, hF2⟩ := chk_inv hF2
  obtain ⟨z, hz, hF3⟩ := bind_inv hF2
  refine cw_block ?_
  refine cw_loop (fun k f w => ∃ (i : Nat), FF f [(0, .slice B s1.length c), (1, .slice B1 s2.length c1), (12, vi (s1.length : Int)), (13, vi (i : Int))] ∧ ST w0 [] w [] [⟨B, (s1.flatMap eN0)⟩, ⟨B1, (s2.flatMap eN0)⟩] ∧ i + k = s1.length ∧ forX (F_slices_Equal_impl_Term_impl_Term_l1 s1 s2) k i () = some z) s1.length ⟨0, (FF.cons rfl (FF.cons rfl (FF.cons rfl (FF.cons rfl FF.nil)))), (hS.sel [] rfl rfl), Nat.zero_add _, hz⟩ ?_
  rintro k_ f w ⟨i, hf, hS1, hik, hL⟩
  refine cw_seq (cw_region ?_)
  refine sQ 14 (Y_lt (k := .i64) (a := (i : Int)) (b := (s1.length : Int)) rfl (hf.get 13 3 rfl) (hf.get 12 2 rfl)) (rw_nil (cw_seq ?_))
  refine cw_cond (b := (decide ((i : Int) < (s1.length : Int)))) rfl (fun hlt => ?_) (fun hlt => ?_)
  ·skip
   have hlt1 : i < s1.length := by have h := of_decide_eq_true hlt; omega
   obtain ⟨k_1, rfl⟩ : ∃ k2, k_ = k2 + 1 := ⟨k_ - 1, by omega⟩
   obtain ⟨y, hb1, hL1⟩ := forX_go hL
   unfold F_slices_Equal_impl_Term_impl_Term_l1 at hb1
   refine cw_skip (cw_seq (cw_block (cw_seq (cw_region ?_))))
   refine sQ 15 (Y_move (v := vi (i : Int)) rfl (hf.get 13 3 rfl)) ?_
   refine sQ 5 (Y_assign (v := vi (i : Int)) rfl rfl) (rw_nil (cw_seq ?_))
   obtain ⟨x, hx, hb1⟩ := bind_inv hb1
   obtain ⟨x1, hx1, hb1⟩ := bind_inv hb1
   refine ra_start (hS1.se []).fn (by kernel_rfl) ?_
   have hS2 := hS1.drew
   refine rq 0 16 (v := .slice B s1.length c) rfl (hS2.se []) (fun w' hw' => (Y_move (v := .slice B s1.length c) rfl (hf.get 0 0 rfl))) ?_
   refine rq 1 17 (v := vi (i : Int)) rfl (hS2.se []) (fun w' hw' => (Y_move (v := vi (i : Int)) rfl rfl)) ?_
   refine rq 2 18 (v := pt B ((i : Int).toNat * 2)) rfl (hS2.se []) (fun w' hw' => (Y_index (B := B) (m := s1.length) (c := c) (k := .i64) (i := (i : Int)) k_sl_65_136 k_sz_136_2 rfl rfl rfl (gi_isSome eN1 rfl (ST.rf hw' (i := 0) rfl) hx) (getI_nn hx) (getI_ltI hx rfl))) ?_
   refine rq 3 19 (v := .agg #[vi x.Mask, vi x.Coef]) rfl (hS2.se []) (fun w' hw' => (Y_loadA (B := B) (i := (i : Int).toNat * 2) (cs := (s1.flatMap eN0)) (vs := [vi x.Mask, vi x.Coef]) k_ag_136 k_sz_136_2 rfl rfl (ST.rf hw' (i := 0) rfl) (eN1 x) (gi_seg eN1 hx))) ?_
   refine rq 4 20 (v := .slice B1 s2.length c1) rfl (hS2.se []) (fun w' hw' => (Y_move (v := .slice B1 s2.length c1) rfl (hf.get 1 1 rfl))) ?_
   refine rq 5 21 (v := vi (i : Int)) rfl (hS2.se []) (fun w' hw' => (Y_move (v := vi (i : Int)) rfl rfl)) ?_
   refine rq 6 22 (v := pt B1 ((i : Int).toNat * 2)) rfl (hS2.se []) (fun w' hw' => (Y_index (B := B1) (m := s2.length) (c := c1) (k := .i64) (i := (i : Int)) k_sl_65_136 k_sz_136_2 rfl rfl rfl (gi_isSome eN1 rfl (ST.rf hw' (i := 1) rfl) hx1) (getI_nn hx1) (getI_ltI hx1 rfl))) ?_
   refine rq 7 23 (v := .agg #[vi x1.Mask, vi x1.Coef]) rfl (hS2.se []) (fun w' hw' => (Y_loadA (B := B1) (i := (i : Int).toNat * 2) (cs := (s2.flatMap eN0)) (vs := [vi x1.Mask, vi x1.Coef]) k_ag_136 k_sz_136_2 rfl rfl (ST.rf hw' (i := 1) rfl) (eN1 x1) (gi_seg eN1 hx1))) ?_
   refine rq 8 24 (v := .bool (!((x.Mask == x1.Mask) && ((x.Coef == x1.Coef) && true)))) rfl (hS2.se []) (fun w' hw' => (Y_neA (xs := #[vi x.Mask, vi x.Coef]) (ys := #[vi x1.Mask, vi x1.Coef]) (b := ((x.Mask == x1.Mask) && ((x.Coef == x1.Coef) && true))) k_eg_136 rfl rfl rfl (eqr_struct (xs := [vi x.Mask, vi x.Coef]) (ys := [vi x1.Mask, vi x1.Coef]) k_st_136 k_ho_136 (pts_sc k_sc_3 rfl rfl (eqr_int k_int_3_i64) (pts_sc k_sc_3 rfl rfl (eqr_int k_int_3_i64) pts_nil))))) ?_
   refine ra_done (by kernel_rfl) ?_
   refine cw_cond (b := (!((x.Mask == x1.Mask) && ((x.Coef == x1.Coef) && true)))) rfl (fun hb2 => ?_) (fun hb2 => ?_)
   ·skip
    have hF4 := ct hb1 hb2
    refine cw_seq (cw_region ?_)
    refine sQ 4 (Y_assign (v := .bool false) rfl rfl) (rw_nil (cw_ret ?_))
    obtain rfl := some_inj hF4
    obtain rfl := some_inj hL1
    obtain rfl := some_inj hF3
    exact ret1 Tryz.results130 (v1 := .bool false) (resAt_tmp rfl) ⟨rfl, (hS2.sN [])⟩
   ·skip
    have hF5 := cf' hb1 hb2
    refine cw_skip (cw_region ?_)
    refine sQ 25 (Y_add (k := .i64) (a := (i : Int)) (b := 1) rfl (hf.get 13 3 rfl) rfl) ?_
    refine sQ 13 (Y_move (v := vi (i64.wrap ((i : Int) + 1))) rfl rfl) (rw_nil ?_)
    obtain rfl := some_inj hF5
    exact ⟨k_1, Nat.lt_succ_self _, i + 1, (FF.cons (hf.get 0 0 rfl) (FF.cons (hf.get 1 1 rfl) (FF.cons (hf.get 12 2 rfl) (FF.cons (congrArg (Value.int .i64) (wr_succ hlt1 hN)) FF.nil)))), (hS2.sel [] rfl rfl), (by omega), hL1⟩
  ·skip
   obtain rfl : k_ = 0 := by have h := of_decide_eq_false hlt; omega
   refine cw_exit rfl ?_
   obtain rfl := some_inj hL
   refine cw_seq (cw_region ?_)
   refine sQ 4 (Y_assign (v := .bool true) rfl rfl) (rw_nil (cw_ret ?_))
   obtain rfl := some_inj hF3
   exact ret1 Tryz.results130 (v1 := .bool true) (resAt_tmp rfl) ⟨rfl, (hS1.sN [])⟩

theorem c_impl_equalPolys (p : TPhasePoly) (q : TPhasePoly) (B : Option Addr) (c n : Nat) (B1 : Option Addr) (c1 n1 : Nat) (B2 : Option Addr) (c2 n2 : Nat) (B3 : Option Addr) (c3 n3 : Nat) (w0 : World) (hn : p.Terms.length = n) (hn1 : p.Out.Rows.length = n1) (hn2 : q.Terms.length = n2) (hn3 : q.Out.Rows.length = n3) (hS : ST w0 [] w0 [] [⟨B, (p.Terms.flatMap eN0)⟩, ⟨B1, (p.Out.Rows.flatMap encI)⟩, ⟨B2, (q.Terms.flatMap eN0)⟩, ⟨B3, (q.Out.Rows.flatMap encI)⟩]) {r_ : Bool} (hF : F_impl_equalPolys p q = some r_) :
  CV Tryz.prog 122 #[.agg #[vi p.Qubits, vi p.Phase, .slice B n c, .slice B1 n1 c1], .agg #[vi q.Qubits, vi q.Phase, .slice B2 n2 c2, .slice B3 n3 c3]] w0 (fun v w' => v = .bool r_ ∧ ST w0 [] w' [] []) := by
 subst hn
 subst hn1
 subst hn2
 subst hn3
 unfold F_impl_equalPolys at hF
 refine cv_of_cw 33 Tryz.func122 rfl Tryz.ntmps122 rfl ?_
 refine cw_seq (cw_region ?_)
 refine sS 2 (Ys_box (T := 70) (v := .agg #[vi p.Qubits, vi p.Phase, .slice B p.Terms.length c, .slice B1 p.Out.Rows.length c1]) (cs := [vi p.Qubits, vi p.Phase, .slice B p.Terms.length c, .slice B1 p.Out.Rows.length c1]) (m := 4) hS rfl rfl rfl rfl) ?_
 rintro _ w_ ⟨b, rfl, hS1⟩
 refine sS 3 (Ys_box (T := 70) (v := .agg #[vi q.Qubits, vi q.Phase, .slice B2 q.Terms.length c2, .slice B3 q.Out.Rows.length c3]) (cs := [vi q.Qubits, vi q.Phase, .slice B2 q.Terms.length c2, .slice B3 q.Out.Rows.length c3]) (m := 4) hS1 rfl rfl rfl rfl) ?_
 rintro _ w_1 ⟨b1, rfl, hS2⟩
 refine sQ 4 (Y_assign (v := .bool false) rfl rfl) (rw_nil (cw_seq (cw_region ?_)))
 refine sQ 5 (Y_fieldAddr (B := aD b) (i := 0) (s := 0) k_fd_70_0_0_3 k_sz_3_1 rfl rfl) ?_
 refine sQ 6 (Y_load1 (B := aD b) (i := 0) (cs := [vi p.Qubits, vi p.Phase, .slice B p.Terms.length c, .slice B1 p.Out.Rows.length c1]) (v := vi p.Qubits) k_sc_3 rfl rfl (hS2.cf (i := 0) rfl) rfl) ?_
 refine sQ 7 (Y_fieldAddr (B := aD b1) (i := 0) (s := 0) k_fd_70_0_0_3 k_sz_3_1 rfl rfl) ?_
 refine sQ 8 (Y_load1 (B := aD b1) (i := 0) (cs := [vi q.Qubits, vi q.Phase, .slice B2 q.Terms.length c2, .slice B3 q.Out.Rows.length c3]) (v := vi q.Qubits) k_sc_3 rfl rfl (hS2.cf (i := 1) rfl) rfl) ?_
 refine sQ 9 (Y_eq (k := .i64) (a := p.Qubits) (b := q.Qubits) rfl rfl rfl) ?_
 refine sQ 10 (Y_move (v := .bool (p.Qubits == q.Qubits)) rfl rfl) ?_
 refine sgq 11 (B := (p.Qubits == q.Qubits)) (v := pt (aD b) 1) rfl rfl (uT_ 10) (fun hg => (Y_fieldAddr (B := aD b) (i := 0) (s := 0) k_fd_70_1_1_3 k_sz_3_1 rfl rfl)) ?_
 refine sgq 12 (B := (p.Qubits == q.Qubits)) (v := vi p.Phase) rfl rfl (uT_ 10) (fun hg1 => (Y_load1 (B := aD b) (i := 1) (cs := [vi p.Qubits, vi p.Phase, .slice B p.Terms.length c, .slice B1 p.Out.Rows.length c1]) (v := vi p.Phase) k_sc_3 rfl (gv_of (v := pt (aD b) 1) hg1) (hS2.cf (i := 0) rfl) rfl)) ?_
 refine sgq 13 (B := (p.Qubits == q.Qubits)) (v := pt (aD b1) 1) rfl rfl (uT_ 10) (fun hg2 => (Y_fieldAddr (B := aD b1) (i := 0) (s := 0) k_fd_70_1_1_3 k_sz_3_1 rfl rfl)) ?_
 refine sgq 14 (B := (p.Qubits == q.Qubits)) (v := vi q.Phase) rfl rfl (uT_ 10) (fun hg3 => (Y_load1 (B := aD b1) (i := 1) (cs := [vi q.Qubits, vi q.Phase, .slice B2 q.Terms.length c2, .slice B3 q.Out.Rows.length c3]) (v := vi q.Phase) k_sc_3 rfl (gv_of (v := pt (aD b1) 1) hg3) (hS2.cf (i := 1) rfl) rfl)) ?_
 refine sgq 15 (B := (p.Qubits == q.Qubits)) (v := .bool (p.Phase == q.Phase)) rfl rfl (uT_ 10) (fun hg4 => (Y_eq (k := .i64) (a := p.Phase) (b := q.Phase) rfl (gv_of (v := vi p.Phase) hg4) (gv_of (v := vi q.Phase) hg4))) ?_
 refine sQ 16 (Y_and (b := (p.Qubits == q.Qubits)) (z := (p.Phase == q.Phase)) rfl rfl rfl rfl) ?_
 refine sQ 17 (Y_move (v := .bool ((p.Qubits == q.Qubits) && (p.Phase == q.Phase))) rfl rfl) ?_
 refine sgq 18 (B := ((p.Qubits == q.Qubits) && (p.Phase == q.Phase))) (v := pt (aD b) 2) rfl rfl (uT_ 17) (fun hg5 => (Y_fieldAddr (B := aD b) (i := 0) (s := 0) k_fd_70_2_2_65 k_sz_65_1 rfl rfl)) ?_
 refine sgq 19 (B := ((p.Qubits == q.Qubits) && (p.Phase == q.Phase))) (v := .slice B p.Terms.length c) rfl rfl (uT_ 17) (fun hg6 => (Y_load1 (B := aD b) (i := 2) (cs := [vi p.Qubits, vi p.Phase, .slice B p.Terms.length c, .slice B1 p.Out.Rows.length c1]) (v := .slice B p.Terms.length c) k_sc_65 rfl (gv_of (v := pt (aD b) 2) hg6) (hS2.cf (i := 0) rfl) rfl)) ?_
 refine sgq 20 (B := ((p.Qubits == q.Qubits) && (p.Phase == q.Phase))) (v := pt (aD b1) 2) rfl rfl (uT_ 17) (fun hg7 => (Y_fieldAddr (B := aD b1) (i := 0) (s := 0) k_fd_70_2_2_65 k_sz_65_1 rfl rfl)) ?_
 refine sgq 21 (B := ((p.Qubits == q.Qubits) && (p.Phase == q.Phase))) (v := .slice B2 q.Terms.length c2) rfl rfl (uT_ 17) (fun hg8 => (Y_load1 (B := aD b1) (i := 2) (cs := [vi q.Qubits, vi q.Phase, .slice B2 q.Terms.length c2, .slice B3 q.Out.Rows.length c3]) (v := .slice B2 q.Terms.length c2) k_sc_65 rfl (gv_of (v := pt (aD b1) 2) hg8) (hS2.cf (i := 1) rfl) rfl)) ?_
 obtain ⟨r_1, hc, hF⟩ := bind_inv hF
 refine sgc 22 (B := ((p.Qubits == q.Qubits) && (p.Phase == q.Phase))) (v := .bool r_1) (F := hS2.fn) rfl rfl (uT_ 17) hS2 (fun hg9 => (Yc_func (g := 130) (vs := [.slice B p.Terms.length c, .slice B2 q.Terms.length c2]) k_call_130 rfl (mc (gv_of (v := .slice B p.Terms.length c) hg9) (mc (gv_of (v := .slice B2 q.Terms.length c2) hg9) mn)) (CV.mono (c_slices_Equal_impl_Term_impl_Term p.Terms q.Terms B c p.Terms.length B2 c2 q.Terms.length _ rfl rfl (hS2.inn0 [(true, 0), (true, 2)] rfl) (gb_inv hc hg9)) (by rintro _ _ ⟨rfl, h⟩; exact ⟨rfl, hS2.out00 h⟩)))) ?_
 rintro w_2 hS3
 refine sQ 23 (Y_and (b := ((p.Qubits == q.Qubits) && (p.Phase == q.Phase))) (z := r_1) rfl rfl rfl rfl) ?_
 refine sQ 24 (Y_move (v := .bool (((p.Qubits == q.Qubits) && (p.Phase == q.Phase)) && r_1)) rfl rfl) ?_
 refine sgq 25 (B := (((p.Qubits == q.Qubits) && (p.Phase == q.Phase)) && r_1)) (v := pt (aD b) 3) rfl rfl (uT_ 24) (fun hg10 => (Y_fieldAddr (B := aD b) (i := 0) (s := 0) k_fd_70_3_3_68 k_sz_68_1 rfl rfl)) ?_
 refine sgq 26 (B := (((p.Qubits == q.Qubits) && (p.Phase == q.Phase)) && r_1)) (v := pt (aD b) 3) rfl rfl (uT_ 24) (fun hg11 => (Y_fieldAddr (B := aD b) (i := 3) (s := 0) k_fd_68_0_0_66 k_sz_66_1 rfl (gv_of (v := pt (aD b) 3) hg11))) ?_
 refine sgq 27 (B := (((p.Qubits == q.Qubits) && (p.Phase == q.Phase)) && r_1)) (v := .slice B1 p.Out.Rows.length c1) rfl rfl (uT_ 24) (fun hg12 => (Y_load1 (B := aD b) (i := 3) (cs := [vi p.Qubits, vi p.Phase, .slice B p.Terms.length c, .slice B1 p.Out.Rows.length c1]) (v := .slice B1 p.Out.Rows.length c1) k_sc_66 rfl (gv_of (v := pt (aD b) 3) hg12) (hS3.cf (i := 0) rfl) rfl)) ?_
 refine sgq 28 (B := (((p.Qubits == q.Qubits) && (p.Phase == q.Phase)) && r_1)) (v := pt (aD b1) 3) rfl rfl (uT_ 24) (fun hg13 => (Y_fieldAddr (B := aD b1) (i := 0) (s := 0) k_fd_70_3_3_68 k_sz_68_1 rfl rfl)) ?_
 refine sgq 29 (B := (((p.Qubits == q.Qubits) && (p.Phase == q.Phase)) && r_1)) (v := pt (aD b1) 3) rfl rfl (uT_ 24) (fun hg14 => (Y_fieldAddr (B := aD b1) (i := 3) (s := 0) k_fd_68_0_0_66 k_sz_66_1 rfl (gv_of (v := pt (aD b1) 3) hg14))) ?_
 refine sgq 30 (B := (((p.Qubits == q.Qubits) && (p.Phase == q.Phase)) && r_1)) (v := .slice B3 q.Out.Rows.length c3) rfl rfl (uT_ 24) (fun hg15 => (Y_load1 (B := aD b1) (i := 3) (cs := [vi q.Qubits, vi q.Phase, .slice B2 q.Terms.length c2, .slice B3 q.Out.Rows.length c3]) (v := .slice B3 q.Out.Rows.length c3) k_sc_66 rfl (gv_of (v := pt (aD b1) 3) hg15) (hS3.cf (i := 1) rfl) rfl)) ?_
 obtain ⟨r_2, hc1, hF⟩ := bind_inv hF
 refine sgc 31 (B := (((p.Qubits == q.Qubits) && (p.Phase == q.Phase)) && r_1)) (v := .bool r_2) (F := hS3.fn) rfl rfl (uT_ 24) hS3 (fun hg16 => (Yc_func (g := 129) (vs := [.slice B1 p.Out.Rows.length c1, .slice B3 q.Out.Rows.length c3]) k_call_129 rfl (mc (gv_of (v := .slice B1 p.Out.Rows.length c1) hg16) (mc (gv_of (v := .slice B3 q.Out.Rows.length c3) hg16) mn)) (CV.mono (c_slices_Equal_int_int p.Out.Rows q.Out.Rows B1 c1 p.Out.Rows.length B3 c3 q.Out.Rows.length _ rfl rfl (hS3.inn0 [(true, 1), (true, 3)] rfl) (gb_inv hc1 hg16)) (by rintro _ _ ⟨rfl, h⟩; exact ⟨rfl, hS3.out00 h⟩)))) ?_
 rintro w_3 hS4
 refine sQ 32 (Y_and (b := (((p.Qubits == q.Qubits) && (p.Phase == q.Phase)) && r_1)) (z := r_2) rfl rfl rfl rfl) ?_
 refine sQ 4 (Y_assign (v := .bool ((((p.Qubits == q.Qubits) && (p.Phase == q.Phase)) && r_1) && r_2)) rfl rfl) (rw_nil (cw_ret ?_))
 obtain rfl := some_inj hF
 exact ret1 Tryz.results122 (v1 := .bool ((((p.Qubits == q.Qubits) && (p.Phase == q.Phase)) && r_1) && r_2)) (resAt_tmp rfl) ⟨rfl, (hS4.sN [])⟩

theorem c_impl_oddTerms (terms : List TTerm) (B : Option Addr) (c n : Nat) (w0 : World) (hn : terms.length = n) (hS : ST w0 [] w0 [] [⟨B, (terms.flatMap eN0)⟩]) {r_ : Int} (hF : F_impl_oddTerms terms = some r_) :
  CV Tryz.prog 123 #[.slice B n c] w0 (fun v w' => v = vi r_ ∧ ST w0 [] w' [] []) := by
 subst hn
 unfold F_impl_oddTerms at hF
 refine cv_of_cw 19 Tryz.func123 rfl Tryz.ntmps123 rfl ?_
 refine cw_seq (cw_region ?_)
 refine sQ 2 (Y_assign (v := vi 0) rfl rfl) (rw_nil (cw_seq (cw_region ?_)))
 refine sQ 3 (Y_assign (v := vi 0) rfl rfl) (rw_nil (cw_seq (cw_seq (cw_region ?_))))
 refine sQ 6 (Y_move (v := .slice B terms.length c) rfl rfl) ?_
 refine sQ 7 (Y_len (B := B) (m := terms.length) (c := c) k_sl_65_136 rfl rfl) ?_
 refine sQ 8 (Y_move (v := vi 0) rfl rfl) (rw_nil ?_)
 obtain ⟨hN, hF⟩ := chk_inv hF
 obtain ⟨z, hz, hF1⟩ := bind_inv hF
 refine cw_block ?_
 refine cw_loop (fun k f w => ∃ (i : Nat) (count : Int), FF f [(3, vi count), (6, .slice B terms.length c), (7, vi (terms.length : Int)), (8, vi (i : Int))] ∧ ST w0 [] w [] [⟨B, (terms.flatMap eN0)⟩] ∧ i + k = terms.length ∧ forN (F_impl_oddTerms_l1 terms) k i count = some z) terms.length ⟨0, 0, (FF.cons rfl (FF.cons rfl (FF.cons rfl (FF.cons rfl FF.nil)))), (hS.sel [] rfl rfl), Nat.zero_add _, hz⟩ ?_
 rintro k_ f w ⟨i, count, hf, hS1, hik, hL⟩
 refine cw_seq (cw_region ?_)
 refine sQ 9 (Y_lt (k := .i64) (a := (i : Int)) (b := (terms.length : Int)) rfl (hf.get 8 3 rfl) (hf.get 7 2 rfl)) (rw_nil (cw_seq ?_))
 refine cw_cond (b := (decide ((i : Int) < (terms.length : Int)))) rfl (fun hlt => ?_) (fun hlt => ?_)
 ·skip
  have hlt1 : i < terms.length := by have h := of_decide_eq_true hlt; omega
  obtain ⟨k_1, rfl⟩ : ∃ k2, k_ = k2 + 1 := ⟨k_ - 1, by omega⟩
  obtain ⟨y, hb, hL1⟩ := forN_go hL
  unfold F_impl_oddTerms_l1 at hb
  refine cw_skip (cw_seq (cw_block (cw_seq (cw_region ?_))))
  obtain ⟨x, hx, hb⟩ := bind_inv hb
  refine sQ 10 (Y_index (B := B) (m := terms.length) (c := c) (k := .i64) (i := (i : Int)) k_sl_65_136 k_sz_136_2 rfl (hf.get 6 1 rfl) (hf.get 8 3 rfl) (gi_isSome eN1 rfl (hS1.rf (i := 0) rfl) hx) (getI_nn hx) (getI_ltI hx rfl)) ?_
  refine sQ 11 (Y_loadA (B := B) (i := (i : Int).toNat * 2) (cs := (terms.flatMap eN0)) (vs := [vi x.Mask, vi x.Coef]) k_ag_136 k_sz_136_2 rfl rfl (hS1.rf (i := 0) rfl) (eN1 x) (gi_seg eN1 hx)) ?_
  refine sS 5 (Ys_alloc (T := 136) (cs := [vi 0, vi 0]) (m := 2) hS1 k_zero_136 rfl rfl rfl) ?_
  rintro _ w_ ⟨b, rfl, hS2⟩
  refine s0 (Ys_store (i := 0) (s := 2) (B := aD b) (T' := 136) (v := .agg #[vi x.Mask, vi x.Coef]) (vs := [vi x.Mask, vi x.Coef]) (k := 0) (cs' := [vi x.Mask, vi x.Coef]) hS2 k_sz_136_2 rfl rfl rfl rfl rfl rfl rfl (lB rfl) rfl rfl) ?_
  rintro _ w_1 ⟨rfl, hS3⟩
  refine rw_nil (cw_region ?_)
  refine sQ 12 (Y_move (v := vi count) rfl (hf.get 3 0 rfl)) ?_
  refine sQ 13 (Y_fieldAddr (B := aD b) (i := 0) (s := 0) k_fd_136_1_1_3 k_sz_3_1 rfl rfl) ?_
  refine sQ 14 (Y_load1 (B := aD b) (i := 1) (cs := [vi x.Mask, vi x.Coef]) (v := vi x.Coef) k_sc_3 rfl rfl (hS3.cf (i := 0) rfl) rfl) ?_
  refine sQ 15 (Y_rem (k := .i64) (a := x.Coef) (b := 2) rfl rfl rfl (by decide)) ?_
  refine sQ 16 (Y_add (k := .i64) (a := count) (b := (Int.tmod x.Coef 2)) rfl rfl rfl) ?_
  refine sQ 3 (Y_assign (v := vi (i64.wrap (count + (Int.tmod x.Coef 2)))) rfl rfl) (rw_nil (cw_region ?_))
  refine sQ 17 (Y_add (k := .i64) (a := (i : Int)) (b := 1) rfl (hf.get 8 3 rfl) rfl) ?_
  refine sQ 8 (Y_move (v := vi (i64.wrap ((i : Int) + 1))) rfl rfl) (rw_nil ?_)
  obtain rfl := some_inj hb
  exact ⟨k_1, Nat.lt_succ_self _, i + 1, (i64.wrap (count + (Int.tmod x.Coef 2))), (FF.cons rfl (FF.cons (hf.get 6 1 rfl) (FF.cons (hf.get 7 2 rfl) (FF.cons (congrArg (Value.int .i64) (wr_succ hlt1 hN)) FF.nil)))), (hS3.sel [] rfl rfl), (by omega), hL1⟩
 ·skip
  obtain rfl : k_ = 0 := by have h := of_decide_eq_false hlt; omega
  refine cw_exit rfl ?_
  obtain rfl := some_inj hL
  refine cw_seq (cw_region ?_)
  refine sQ 18 (Y_move (v := vi count) rfl (hf.get 3 0 rfl)) ?_
  refine sQ 2 (Y_assign (v := vi count) rfl rfl) (rw_nil (cw_ret ?_))
  obtain rfl := some_inj hF1
  exact ret1 Tryz.results123 (v1 := vi count) (resAt_tmp rfl) ⟨rfl, (hS1.sN [])⟩

theorem c_impl_CheckReduction (p : TPhasePoly) (word : Int) (q : TPhasePoly) (B : Option Addr) (c n : Nat) (B1 : Option Addr) (c1 n1 : Nat) (B2 : Option Addr) (c2 n2 : Nat) (B3 : Option Addr) (c3 n3 : Nat) (w0 : World) (hn : p.Terms.length = n) (hn1 : p.Out.Rows.length = n1) (hn2 : q.Terms.length = n2) (hn3 : q.Out.Rows.length = n3) (hS : ST w0 [] w0 [] [⟨B, (p.Terms.flatMap eN0)⟩, ⟨B1, (p.Out.Rows.flatMap encI)⟩, ⟨B2, (q.Terms.flatMap eN0)⟩, ⟨B3, (q.Out.Rows.flatMap encI)⟩]) {r_ : Int} {r_1 : Bool} (hF : F_impl_CheckReduction p word q = some (r_, r_1)) :
  CV Tryz.prog 46 #[.agg #[vi p.Qubits, vi p.Phase, .slice B n c, .slice B1 n1 c1], vi word, .agg #[vi q.Qubits, vi q.Phase, .slice B2 n2 c2, .slice B3 n3 c3]] w0 (fun v w' => v = .tuple #[vi r_, .bool r_1] ∧ ST w0 [] w' [] []) := by
 subst hn
 subst hn1
 subst hn2
 subst hn3
 unfold F_impl_CheckReduction at hF
 refine cv_of_cw 45 Tryz.func46 rfl Tryz.ntmps46 rfl ?_
 refine cw_seq (cw_region ?_)
 refine sS 3 (Ys_box (T := 70) (v := .agg #[vi p.Qubits, vi p.Phase, .slice B p.Terms.length c, .slice B1 p.Out.Rows.length c1]) (cs := [vi p.Qubits, vi p.Phase, .slice B p.Terms.length c, .slice B1 p.Out.Rows.length c1]) (m := 4) hS rfl rfl rfl rfl) ?_
 rintro _ w_ ⟨b, rfl, hS1⟩
 refine sS 5 (Ys_box (T := 70) (v := .agg #[vi q.Qubits, vi q.Phase, .slice B2 q.Terms.length c2, .slice B3 q.Out.Rows.length c3]) (cs := [vi q.Qubits, vi q.Phase, .slice B2 q.Terms.length c2, .slice B3 q.Out.Rows.length c3]) (m := 4) hS1 rfl rfl rfl rfl) ?_
 rintro _ w_1 ⟨b1, rfl, hS2⟩
 refine sQ 6 (Y_assign (v := vi 0) rfl rfl) ?_
 refine sQ 7 (Y_assign (v := .bool false) rfl rfl) (rw_nil (cw_seq (cw_seq (cw_region ?_))))
 refine sQ 12 (Y_loadA (B := aD b) (i := 0) (cs := [vi p.Qubits, vi p.Phase, .slice B p.Terms.length c, .slice B1 p.Out.Rows.length c1]) (vs := [vi p.Qubits, vi p.Phase, .slice B p.Terms.length c, .slice B1 p.Out.Rows.length c1]) k_ag_70 k_sz_70_4 rfl rfl (hS2.cf (i := 0) rfl) rfl rfl) ?_
 obtain ⟨r_2, hc, hF⟩ := bind_inv hF
 refine sc 13 rfl rfl (Yc_func (g := 102) (vs := [.agg #[vi p.Qubits, vi p.Phase, .slice B p.Terms.length c, .slice B1 p.Out.Rows.length c1]]) k_call_102 rfl (mc rfl mn) (c_impl_IsValidPhasePoly p B c p.Terms.length B1 c1 p.Out.Rows.length _ rfl rfl (hS2.inn0 [(true, 0), (true, 1)] rfl) hc)) ?_
 rintro _ w_2 ⟨rfl, hd⟩
 have hS3 := hS2.out00 hd
 refine sQ 14 (Y_not (p := r_2) rfl rfl) ?_
 refine sQ 15 (Y_move (v := .bool (!r_2)) rfl rfl) ?_
 refine sgq 16 (B := (!(!r_2))) (v := .agg #[vi q.Qubits, vi q.Phase, .slice B2 q.Terms.length c2, .slice B3 q.Out.Rows.length c3]) rfl rfl (uF_ 15) (fun hg => (Y_loadA (B := aD b1) (i := 0) (cs := [vi q.Qubits, vi q.Phase, .slice B2 q.Terms.length c2, .slice B3 q.Out.Rows.length c3]) (vs := [vi q.Qubits, vi q.Phase, .slice B2 q.Terms.length c2, .slice B3 q.Out.Rows.length c3]) k_ag_70 k_sz_70_4 rfl rfl (hS3.cf (i := 1) rfl) rfl rfl)) ?_
 obtain ⟨r_3, hc1, hF⟩ := bind_inv hF
 refine sgc 17 (B := (!(!r_2))) (v := .bool r_3) (F := hS3.fn) rfl rfl (uF_ 15) hS3 (fun hg1 => (Yc_func (g := 102) (vs := [.agg #[vi q.Qubits, vi q.Phase, .slice B2 q.Terms.length c2, .slice B3 q.Out.Rows.length c3]]) k_call_102 rfl (mc (gv_of (v := .agg #[vi q.Qubits, vi q.Phase, .slice B2 q.Terms.length c2, .slice B3 q.Out.Rows.length c3]) hg1) mn) (CV.mono (c_impl_IsValidPhasePoly q B2 c2 q.Terms.length B3 c3 q.Out.Rows.length _ rfl rfl (hS3.inn0 [(true, 2), (true, 3)] rfl) (gb_inv hc1 hg1)) (by rintro _ _ ⟨rfl, h⟩; exact ⟨rfl, hS3.out00 h⟩)))) ?_
 rintro w_3 hS4
 refine sgq 18 (B := (!(!r_2))) (v := .bool (!r_3)) rfl rfl (uF_ 15) (fun hg2 => (Y_not (p := r_3) rfl (gv_of (v := .bool r_3) hg2))) ?_
 refine sQ 19 (Y_or (b := (!r_2)) (z := (!r_3)) rfl rfl rfl rfl) (rw_nil ?_)
 refine cw_cond (b := ((!r_2) || (!r_3))) rfl (fun hb => ?_) (fun hb => ?_)
 ·skip
  have hF1 := ct hF hb
  refine cw_seq (cw_region ?_)
  refine sQ 6 (Y_assign (v := vi 0) rfl rfl) ?_
  refine sQ 7 (Y_assign (v := .bool false) rfl rfl) (rw_nil (cw_ret ?_))
  obtain ⟨rfl, rfl⟩ := pr2 (some_inj hF1)
  exact ret2 Tryz.results46 (v1 := vi 0) (resAt_tmp rfl) (v2 := .bool false) (resAt_tmp rfl) ⟨rfl, (hS4.sN [])⟩
 ·skip
  have hF2 := cf' hF hb
  refine cw_skip (cw_seq (cw_region ?_))
  refine sQ 21 (Y_loadA (B := aD b) (i := 0) (cs := [vi p.Qubits, vi p.Phase, .slice B p.Terms.length c, .slice B1 p.Out.Rows.length c1]) (vs := [vi p.Qubits, vi p.Phase, .slice B p.Terms.length c, .slice B1 p.Out.Rows.length c1]) k_ag_70 k_sz_70_4 rfl rfl (hS4.cf (i := 0) rfl) rfl rfl) ?_
  refine sQ 22 (Y_move (v := vi word) rfl rfl) ?_
  obtain ⟨⟨r_4, r_5⟩, hc2, hF2⟩ := bind_inv hF2
  refine sc 23 rfl rfl (Yc_func (g := 112) (vs := [.agg #[vi p.Qubits, vi p.Phase, .slice B p.Terms.length c, .slice B1 p.Out.Rows.length c1], vi word]) k_call_112 rfl (mc rfl (mc rfl mn)) (c_impl_ShiftBy p word B c p.Terms.length B1 c1 p.Out.Rows.length _ rfl rfl (hS4.inn0 [(true, 0), (true, 1)] rfl) hc2)) ?_
  rintro _ w_4 ⟨B4, c4, B5, c5, rfl, hd1⟩
  have hS5 := hS4.out0 hd1
  refine sQ 20 (Y_move (v := .tuple #[.agg #[vi r_4.Qubits, vi r_4.Phase, .slice B4 r_4.Terms.length c4, .slice B5 r_4.Out.Rows.length c5], .bool r_5]) rfl rfl) ?_
  refine sQ 24 (Y_extract (v := .agg #[vi r_4.Qubits, vi r_4.Phase, .slice B4 r_4.Terms.length c4, .slice B5 r_4.Out.Rows.length c5]) rfl rfl rfl) ?_
  refine sQ 25 (Y_extract (v := .bool r_5) rfl rfl rfl) ?_
  refine sS 8 (Ys_alloc (T := 70) (cs := [vi 0, vi 0, .slice none 0 0, .slice none 0 0]) (m := 4) hS5 k_zero_70 rfl rfl rfl) ?_
  rintro _ w_5 ⟨b2, rfl, hS6⟩
  refine s0 (Ys_store (i := 4) (s := 4) (B := aD b2) (T' := 70) (v := .agg #[vi r_4.Qubits, vi r_4.Phase, .slice B4 r_4.Terms.length c4, .slice B5 r_4.Out.Rows.length c5]) (vs := [vi r_4.Qubits, vi r_4.Phase, .slice B4 r_4.Terms.length c4, .slice B5 r_4.Out.Rows.length c5]) (k := 0) (cs' := [vi r_4.Qubits, vi r_4.Phase, .slice B4 r_4.Terms.length c4, .slice B5 r_4.Out.Rows.length c5]) hS6 k_sz_70_4 rfl rfl rfl rfl rfl rfl rfl (lB rfl) rfl rfl) ?_
  rintro _ w_6 ⟨rfl, hS7⟩
  refine sQ 9 (Y_assign (v := .bool r_5) rfl rfl) (rw_nil (cw_seq (cw_region ?_)))
  refine sQ 27 (Y_loadA (B := aD b) (i := 0) (cs := [vi p.Qubits, vi p.Phase, .slice B p.Terms.length c, .slice B1 p.Out.Rows.length c1]) (vs := [vi p.Qubits, vi p.Phase, .slice B p.Terms.length c, .slice B1 p.Out.Rows.length c1]) k_ag_70 k_sz_70_4 rfl rfl (hS7.cf (i := 0) rfl) rfl rfl) ?_
  obtain ⟨⟨r_6, r_7⟩, hc3, hF2⟩ := bind_inv hF2
  refine sc 28 rfl rfl (Yc_func (g := 50) (vs := [.agg #[vi p.Qubits, vi p.Phase, .slice B p.Terms.length c, .slice B1 p.Out.Rows.length c1]]) k_call_50 rfl (mc rfl mn) (c_impl_LeastT p B c p.Terms.length B1 c1 p.Out.Rows.length _ rfl rfl (hS7.inn0 [(true, 0), (true, 1)] rfl) hc3)) ?_
  rintro _ w_7 ⟨rfl, hd2⟩
  have hS8 := hS7.out00 hd2
  refine sQ 26 (Y_move (v := .tuple #[vi r_6, .bool r_7]) rfl rfl) ?_
  refine sQ 29 (Y_extract (v := vi r_6) rfl rfl rfl) ?_
  refine sQ 30 (Y_extract (v := .bool r_7) rfl rfl rfl) ?_
  refine sQ 10 (Y_assign (v := vi r_6) rfl rfl) ?_
  refine sQ 11 (Y_assign (v := .bool r_7) rfl rfl) (rw_nil (cw_seq (cw_block (cw_seq (cw_region ?_)))))
  refine sQ 32 (Y_move (v := .bool r_5) rfl rfl) ?_
  refine sQ 33 (Y_not (p := r_5) rfl rfl) ?_
  refine sQ 31 (Y_assign (v := .bool (!r_5)) rfl rfl) (rw_nil ?_)
  refine cw_cond (b := (!r_5)) rfl (fun hb1 => ?_) (fun hb1 => ?_)
  ·skip
   have hF3 := ct hF2 hb1
   refine cw_seq (cw_region ?_)
   refine sQ 6 (Y_assign (v := vi 1) rfl rfl) ?_
   refine sQ 7 (Y_assign (v := .bool true) rfl rfl) (rw_nil (cw_ret ?_))
   obtain ⟨rfl, rfl⟩ := pr2 (some_inj hF3)
   exact ret2 Tryz.results46 (v1 := vi 1) (resAt_tmp rfl) (v2 := .bool true) (resAt_tmp rfl) ⟨rfl, (hS8.sN [])⟩
  ·skip
   have hF4 := cf' hF2 hb1
   refine cw_seq (cw_region ?_)
   refine sQ 35 (Y_loadA (B := aD b2) (i := 0) (cs := [vi r_4.Qubits, vi r_4.Phase, .slice B4 r_4.Terms.length c4, .slice B5 r_4.Out.Rows.length c5]) (vs := [vi r_4.Qubits, vi r_4.Phase, .slice B4 r_4.Terms.length c4, .slice B5 r_4.Out.Rows.length c5]) k_ag_70 k_sz_70_4 rfl rfl (hS8.cf (i := 4) rfl) rfl rfl) ?_
   refine sQ 36 (Y_loadA (B := aD b1) (i := 0) (cs := [vi q.Qubits, vi q.Phase, .slice B2 q.Terms.length c2, .slice B3 q.Out.Rows.length c3]) (vs := [vi q.Qubits, vi q.Phase, .slice B2 q.Terms.length c2, .slice B3 q.Out.Rows.length c3]) k_ag_70 k_sz_70_4 rfl rfl (hS8.cf (i := 1) rfl) rfl rfl) ?_
   obtain ⟨r_8, hc4, hF4⟩ := bind_inv hF4
   refine sc 37 rfl rfl (Yc_func (g := 122) (vs := [.agg #[vi r_4.Qubits, vi r_4.Phase, .slice B4 r_4.Terms.length c4, .slice B5 r_4.Out.Rows.length c5], .agg #[vi q.Qubits, vi q.Phase, .slice B2 q.Terms.length c2, .slice B3 q.Out.Rows.length c3]]) k_call_122 rfl (mc rfl (mc rfl mn)) (c_impl_equalPolys r_4 q B4 c4 r_4.Terms.length B5 c5 r_4.Out.Rows.length B2 c2 q.Terms.length B3 c3 q.Out.Rows.length _ rfl rfl rfl rfl (hS8.inn0 [(false, 2), (false, 3), (true, 2), (true, 3)] rfl) hc4)) ?_
   rintro _ w_8 ⟨rfl, hd3⟩
   have hS9 := hS8.out00 hd3
   refine sQ 38 (Y_not (p := r_8) rfl rfl) ?_
   refine sQ 34 (Y_assign (v := .bool (!r_8)) rfl rfl) (rw_nil ?_)
   refine cw_cond (b := (!r_8)) rfl (fun hb2 => ?_) (fun hb2 => ?_)
   ·skip
    have hF5 := ct hF4 hb2
    refine cw_seq (cw_region ?_)
    refine sQ 6 (Y_assign (v := vi 2) rfl rfl) ?_
    refine sQ 7 (Y_assign (v := .bool true) rfl rfl) (rw_nil (cw_ret ?_))
    obtain ⟨rfl, rfl⟩ := pr2 (some_inj hF5)
    exact ret2 Tryz.results46 (v1 := vi 2) (resAt_tmp rfl) (v2 := .bool true) (resAt_tmp rfl) ⟨rfl, (hS9.sN [])⟩
   ·skip
    have hF6 := cf' hF4 hb2
    refine cw_seq (cw_region ?_)
    refine sQ 40 (Y_fieldAddr (B := aD b1) (i := 0) (s := 0) k_fd_70_2_2_65 k_sz_65_1 rfl rfl) ?_
    refine sQ 41 (Y_load1 (B := aD b1) (i := 2) (cs := [vi q.Qubits, vi q.Phase, .slice B2 q.Terms.length c2, .slice B3 q.Out.Rows.length c3]) (v := .slice B2 q.Terms.length c2) k_sc_65 rfl rfl (hS9.cf (i := 1) rfl) rfl) ?_
    obtain ⟨r_9, hc5, hF6⟩ := bind_inv hF6
    refine sc 42 rfl rfl (Yc_func (g := 123) (vs := [.slice B2 q.Terms.length c2]) k_call_123 rfl (mc rfl mn) (c_impl_oddTerms q.Terms B2 c2 q.Terms.length _ rfl (hS9.inn0 [(true, 2)] rfl) hc5)) ?_
    rintro _ w_9 ⟨rfl, hd4⟩
    have hS10 := hS9.out00 hd4
    refine sQ 43 (Y_move (v := vi r_6) rfl rfl) ?_
    refine sQ 44 (Y_ne (k := .i64) (a := r_9) (b := r_6) rfl rfl rfl) ?_
    refine sQ 39 (Y_assign (v := .bool (r_9 != r_6)) rfl rfl) (rw_nil ?_)
    refine cw_cond (b := (r_9 != r_6)) rfl (fun hb3 => ?_) (fun hb3 => ?_)
    ·skip
     have hF7 := ct hF6 hb3
     refine cw_seq (cw_region ?_)
     refine sQ 6 (Y_assign (v := vi 3) rfl rfl) ?_
     refine sQ 7 (Y_assign (v := .bool true) rfl rfl) (rw_nil (cw_ret ?_))
     obtain ⟨rfl, rfl⟩ := pr2 (some_inj hF7)
     exact ret2 Tryz.results46 (v1 := vi 3) (resAt_tmp rfl) (v2 := .bool true) (resAt_tmp rfl) ⟨rfl, (hS10.sN [])⟩
    ·skip
     have hF8 := cf' hF6 hb3
     refine cw_skip (cw_seq (cw_region ?_))
     refine sQ 6 (Y_assign (v := vi 0) rfl rfl) ?_
     refine sQ 7 (Y_assign (v := .bool true) rfl rfl) (rw_nil (cw_ret ?_))
     obtain ⟨rfl, rfl⟩ := pr2 (some_inj hF8)
     exact ret2 Tryz.results46 (v1 := vi 0) (resAt_tmp rfl) (v2 := .bool true) (resAt_tmp rfl) ⟨rfl, (hS10.sN [])⟩

theorem c_spec_l1Has (l : List Int) (n1 : Int) (B : Option Addr) (c n : Nat) (w0 : World) (hn : l.length = n) (hS : ST w0 [] w0 [] [⟨B, (l.flatMap encI)⟩]) {r_ : Bool} (hF : F_spec_l1Has l n1 = some r_) :
  CV Tryz.prog 124 #[.slice B n c, vi n1] w0 (fun v w' => v = .bool r_ ∧ ST w0 [] w' [] []) := by
 subst hn
 unfold F_spec_l1Has at hF
 refine cv_of_cw 17 Tryz.func124 rfl Tryz.ntmps124 rfl ?_
 refine cw_seq (cw_region ?_)
 refine sQ 4 (Y_assign (v := .bool false) rfl rfl) (rw_nil (cw_seq (cw_seq (cw_region ?_))))
 refine sQ 7 (Y_move (v := .slice B l.length c) rfl rfl) ?_
 refine sQ 8 (Y_len (B := B) (m := l.length) (c := c) k_sl_66_3 rfl rfl) ?_
 refine sQ 9 (Y_move (v := vi 0) rfl rfl) (rw_nil ?_)
 obtain ⟨hN, hF⟩ := chk_inv hF
 obtain ⟨z, hz, hF1⟩ := bind_inv hF
 refine cw_block ?_
 refine cw_loop (fun k f w => ∃ (i : Nat), FF f [(1, vi n1), (7, .slice B l.length c), (8, vi (l.length : Int)), (9, vi (i : Int))] ∧ ST w0 [] w [] [⟨B, (l.flatMap encI)⟩] ∧ i + k = l.length ∧ forX (F_spec_l1Has_l1 l n1) k i () = some z) l.length ⟨0, (FF.cons rfl (FF.cons rfl (FF.cons rfl (FF.cons rfl FF.nil)))), (hS.sel [] rfl rfl), Nat.zero_add _, hz⟩ ?_
 rintro k_ f w ⟨i, hf, hS1, hik, hL⟩
 refine cw_seq (cw_region ?_)
 refine sQ 10 (Y_lt (k := .i64) (a := (i : Int)) (b := (l.length : Int)) rfl (hf.get 9 3 rfl) (hf.get 8 2 rfl)) (rw_nil (cw_seq ?_))
 refine cw_cond (b := (decide ((i : Int) < (l.length : Int)))) rfl (fun hlt => ?_) (fun hlt => ?_)
 ·skip
  have hlt1 : i < l.length := by have h := of_decide_eq_true hlt; omega
  obtain ⟨k_1, rfl⟩ : ∃ k2, k_ = k2 + 1 := ⟨k_ - 1, by omega⟩
  obtain ⟨y, hb, hL1⟩ := forX_go hL
  unfold F_spec_l1Has_l1 at hb
  refine cw_skip (cw_seq (cw_block (cw_seq (cw_region ?_))))
  obtain ⟨x, hx, hb⟩ := bind_inv hb
  refine sQ 11 (Y_index (B := B) (m := l.length) (c := c) (k := .i64) (i := (i : Int)) k_sl_66_3 k_sz_3_1 rfl (hf.get 7 1 rfl) (hf.get 9 3 rfl) (gi_isSome encI_len rfl (hS1.rf (i := 0) rfl) hx) (getI_nn hx) (getI_ltI hx rfl)) ?_
  refine sQ 12 (Y_load1 (B := B) (i := (i : Int).toNat * 1) (cs := (l.flatMap encI)) (v := vi x) k_sc_3 rfl rfl (hS1.rf (i := 0) rfl) (gi_at0 encI_len hx rfl)) ?_
  refine sQ 6 (Y_assign (v := vi x) rfl rfl) (rw_nil (cw_seq (cw_region ?_)))
  refine sQ 13 (Y_move (v := vi x) rfl rfl) ?_
  refine sQ 14 (Y_move (v := vi n1) rfl (hf.get 1 0 rfl)) ?_
  refine sQ 15 (Y_eq (k := .i64) (a := x) (b := n1) rfl rfl rfl) (rw_nil ?_)
  refine cw_cond (b := (x == n1)) rfl (fun hb1 => ?_) (fun hb1 => ?_)
  ·skip
   have hF2 := ct hb hb1
   refine cw_seq (cw_region ?_)
   refine sQ 4 (Y_assign (v := .bool true) rfl rfl) (rw_nil (cw_ret ?_))
   obtain rfl := some_inj hF2
   obtain rfl := some_inj hL1
   obtain rfl := some_inj hF1
   exact ret1 Tryz.results124 (v1 := .bool true) (resAt_tmp rfl) ⟨rfl, (hS1.sN [])⟩
  ·skip
   have hF3 := cf' hb hb1
   refine cw_skip (cw_region ?_)
   refine sQ 16 (Y_add (k := .i64) (a := (i : Int)) (b := 1) rfl (hf.get 9 3 rfl) rfl) ?_
   refine sQ 9 (Y_move (v := vi (i64.wrap ((i : Int) + 1))) rfl rfl) (rw_nil ?_)
   obtain rfl := some_inj hF3
   exact ⟨k_1, Nat.lt_succ_self _, i + 1, (FF.cons (hf.get 1 0 rfl) (FF.cons (hf.get 7 1 rfl) (FF.cons (hf.get 8 2 rfl) (FF.cons (congrArg (Value.int .i64) (wr_succ hlt1 hN)) FF.nil)))), (hS1.sel [] rfl rfl), (by omega), hL1⟩
 ·skip
  obtain rfl : k_ = 0 := by have h := of_decide_eq_false hlt; omega
  refine cw_exit rfl ?_
  obtain rfl := some_inj hL
  refine cw_seq (cw_region ?_)
  refine sQ 4 (Y_assign (v := .bool false) rfl rfl) (rw_nil (cw_ret ?_))
  obtain rfl := some_inj hF1
  exact ret1 Tryz.results124 (v1 := .bool false) (resAt_tmp rfl) ⟨rfl, (hS1.sN [])⟩

theorem c_spec_l1Same (a : List Int) (b : List Int) (B : Option Addr) (c n : Nat) (B1 : Option Addr) (c1 n1 : Nat) (w0 : World) (hn : a.length = n) (hn1 : b.length = n1) (hS : ST w0 [] w0 [] [⟨B, (a.flatMap encI)⟩, ⟨B1, (b.flatMap encI)⟩]) {r_ : Bool} (hF : F_spec_l1Same a b = some r_) :
  CV Tryz.prog 196 #[.slice B n c, .slice B1 n1 c1] w0 (fun v w' => v = .bool r_ ∧ ST w0 [] w' [] []) := by
 subst hn
 subst hn1
 unfold F_spec_l1Same at hF
 refine cv_of_cw 26 Tryz.func196 rfl Tryz.ntmps196 rfl ?_
 refine cw_seq (cw_region ?_)
 refine sQ 4 (Y_assign (v := .bool false) rfl rfl) (rw_nil (cw_seq (cw_seq (cw_region ?_))))
 refine sQ 6 (Y_move (v := .slice B a.length c) rfl rfl) ?_
 refine sQ 7 (Y_len (B := B) (m := a.length) (c := c) k_sl_66_3 rfl rfl) ?_
 refine sQ 8 (Y_move (v := .slice B1 b.length c1) rfl rfl) ?_
 refine sQ 9 (Y_len (B := B1) (m := b.length) (c := c1) k_sl_66_3 rfl rfl) ?_
 refine sQ 10 (Y_ne (k := .i64) (a := (a.length : Int)) (b := (b.length : Int)) rfl rfl rfl) (rw_nil ?_)
 refine cw_cond (b := ((a.length : Int) != (b.length : Int))) rfl (fun hb => ?_) (fun hb => ?_)
 ·skip
  have hF1 := ct hF hb
  refine cw_seq (cw_region ?_)
  refine sQ 4 (Y_assign (v := .bool false) rfl rfl) (rw_nil (cw_ret ?_))
  obtain rfl := some_inj hF1
  exact ret1 Tryz.results196 (v1 := .bool false) (resAt_tmp rfl) ⟨rfl, (hS.sN [])⟩
 ·skip
  have hF2 := cf' hF hb
  refine cw_skip (cw_seq (cw_seq (cw_region ?_)))
  refine sQ 11 (Y_move (v := .slice B a.length c) rfl rfl) ?_
  refine sQ 12 (Y_len (B := B) (m := a.length) (c := c) k_sl_66_3 rfl rfl) ?_
  refine sQ 13 (Y_move (v := vi 0) rfl rfl) (rw_nil ?_)
  obtain ⟨hN, hF2⟩ := chk_inv hF2
  obtain ⟨z, hz, hF3⟩ := bind_inv hF2
  refine cw_block ?_
  refine cw_loop (fun k f w => ∃ (i : Nat), FF f [(0, .slice B a.length c), (1, .slice B1 b.length c1), (12, vi (a.length : Int)), (13, vi (i : Int))] ∧ ST w0 [] w [] [⟨B, (a.flatMap encI)⟩, ⟨B1, (b.flatMap encI)⟩] ∧ i + k = a.length ∧ forX (F_spec_l1Same_l1 a b) k i () = some z) a.length ⟨0, (FF.cons rfl (FF.cons rfl (FF.cons rfl (FF.cons rfl FF.nil)))), (hS.sel [] rfl rfl), Nat.zero_add _, hz⟩ ?_
  rintro k_ f w ⟨i, hf, hS1, hik, hL⟩
  refine cw_seq (cw_region ?_)
  refine sQ 14 (Y_lt (k := .i64) (a := (i : Int)) (b := (a.length : Int)) rfl (hf.get 13 3 rfl) (hf.get 12 2 rfl)) (rw_nil (cw_seq ?_))
  refine cw_cond (b := (decide ((i : Int) < (a.length : Int)))) rfl (fun hlt => ?_) (fun hlt => ?_)
  ·skip
   have hlt1 : i < a.length := by have h := of_decide_eq_true hlt; omega
   obtain ⟨k_1, rfl⟩ : ∃ k2, k_ = k2 + 1 := ⟨k_ - 1, by omega⟩
   obtain ⟨y, hb1, hL1⟩ := forX_go hL
   unfold F_spec_l1Same_l1 at hb1
   refine cw_skip (cw_seq (cw_block (cw_seq (cw_region ?_))))
   refine sQ 15 (Y_move (v := vi (i : Int)) rfl (hf.get 13 3 rfl)) ?_
   refine sQ 5 (Y_assign (v := vi (i : Int)) rfl rfl) (rw_nil (cw_seq ?_))
   obtain ⟨x, hx, hb1⟩ := bind_inv hb1
   obtain ⟨x1, hx1, hb1⟩ := bind_inv hb1
   refine ra_start (hS1.se []).fn (by kernel_rfl) ?_
   have hS2 := hS1.drew
   refine rq 0 16 (v := .slice B a.length c) rfl (hS2.se []) (fun w' hw' => (Y_move (v := .slice B a.length c) rfl (hf.get 0 0 rfl))) ?_
   refine rq 1 17 (v := vi (i : Int)) rfl (hS2.se []) (fun w' hw' => (Y_move (v := vi (i : Int)) rfl rfl)) ?_
   refine rq 2 18 (v := pt B ((i : Int).toNat * 1)) rfl (hS2.se []) (fun w' hw' => (Y_index (B := B) (m := a.length) (c := c) (k := .i64) (i := (i : Int)) k_sl_66_3 k_sz_3_1 rfl rfl rfl (gi_isSome encI_len rfl (ST.rf hw' (i := 0) rfl) hx) (getI_nn hx) (getI_ltI hx rfl))) ?_
   refine rq 3 19 (v := vi x) rfl (hS2.se []) (fun w' hw' => (Y_load1 (B := B) (i := (i : Int).toNat * 1) (cs := (a.flatMap encI)) (v := vi x) k_sc_3 rfl rfl (ST.rf hw' (i := 0) rfl) (gi_at0 encI_len hx rfl))) ?_
   refine rq 4 20 (v := .slice B1 b.length c1) rfl (hS2.se []) (fun w' hw' => (Y_move (v := .slice B1 b.length c1) rfl (hf.get 1 1 rfl))) ?_
   refine rq 5 21 (v := vi (i : Int)) rfl (hS2.se []) (fun w' hw' => (Y_move (v := vi (i : Int)) rfl rfl)) ?_
   refine rq 6 22 (v := pt B1 ((i : Int).toNat * 1)) rfl (hS2.se []) (fun w' hw' => (Y_index (B := B1) (m := b.length) (c := c1) (k := .i64) (i := (i : Int)) k_sl_66_3 k_sz_3_1 rfl rfl rfl (gi_isSome encI_len rfl (ST.rf hw' (i := 1) rfl) hx1) (getI_nn hx1) (getI_ltI hx1 rfl))) ?_
   refine rq 7 23 (v := vi x1) rfl (hS2.se []) (fun w' hw' => (Y_load1 (B := B1) (i := (i : Int).toNat * 1) (cs := (b.flatMap encI)) (v := vi x1) k_sc_3 rfl rfl (ST.rf hw' (i := 1) rfl) (gi_at0 encI_len hx1 rfl))) ?_
   refine rq 8 24 (v := .bool (x != x1)) rfl (hS2.se []) (fun w' hw' => (Y_ne (k := .i64) (a := x) (b := x1) rfl rfl rfl)) ?_
   refine ra_done (by kernel_rfl) ?_
   refine cw_cond (b := (x != x1)) rfl (fun hb2 => ?_) (fun hb2 => ?_)
   ·skip
    have hF4 := ct hb1 hb2
    refine cw_seq (cw_region ?_)
    refine sQ 4 (Y_assign (v := .bool false) rfl rfl) (rw_nil (cw_ret ?_))
    obtain rfl := some_inj hF4
    obtain rfl := some_inj hL1
    obtain rfl := some_inj hF3
    exact ret1 Tryz.results196 (v1 := .bool false) (resAt_tmp rfl) ⟨rfl, (hS2.sN [])⟩
   ·skip
    have hF5 := cf' hb1 hb2
    refine cw_skip (cw_region ?_)
    refine sQ 25 (Y_add (k := .i64) (a := (i : Int)) (b := 1) rfl (hf.get 13 3 rfl) rfl) ?_
    refine sQ 13 (Y_move (v := vi (i64.wrap ((i : Int) + 1))) rfl rfl) (rw_nil ?_)
    obtain rfl := some_inj hF5
    exact ⟨k_1, Nat.lt_succ_self _, i + 1, (FF.cons (hf.get 0 0 rfl) (FF.cons (hf.get 1 1 rfl) (FF.cons (hf.get 12 2 rfl) (FF.cons (congrArg (Value.int .i64) (wr_succ hlt1 hN)) FF.nil)))), (hS2.sel [] rfl rfl), (by omega), hL1⟩
  ·skip
   obtain rfl : k_ = 0 := by have h := of_decide_eq_false hlt; omega
   refine cw_exit rfl ?_
   obtain rfl := some_inj hL
   refine cw_seq (cw_region ?_)
   refine sQ 4 (Y_assign (v := .bool true) rfl rfl) (rw_nil (cw_ret ?_))
   obtain rfl := some_inj hF3
   exact ret1 Tryz.results196 (v1 := .bool true) (resAt_tmp rfl) ⟨rfl, (hS1.sN [])⟩

theorem c_spec_l15SameTerms (a : List TTerm) (b : List TTerm) (B : Option Addr) (c n : Nat) (B1 : Option Addr) (c1 n1 : Nat) (w0 : World) (hn : a.length = n) (hn1 : b.length = n1) (hS : ST w0 [] w0 [] [⟨B, (a.flatMap eN0)⟩, ⟨B1, (b.flatMap eN0)⟩]) {r_ : Bool} (hF : F_spec_l15SameTerms a b = some r_) :
  CV Tryz.prog 197 #[.slice B n c, .slice B1 n1 c1] w0 (fun v w' => v = .bool r_ ∧ ST w0 [] w' [] []) := by
 subst hn
 subst hn1
 unfold F_spec_l15SameTerms at hF
 refine cv_of_cw 26 Tryz.func197 rfl Tryz.ntmps197 rfl ?_
 refine cw_seq (cw_region ?_)
 refine sQ 4 (Y_assign (v := .bool false) rfl rfl) (rw_nil (cw_seq (cw_seq (cw_region ?_))))
 refine sQ 6 (Y_move (v := .slice B a.length c) rfl rfl) ?_
 refine sQ 7 (Y_len (B := B) (m := a.length) (c := c) k_sl_65_136 rfl rfl) ?_
 refine sQ 8 (Y_move (v := .slice B1 b.length c1) rfl rfl) ?_
 refine sQ 9 (Y_len (B := B1) (m := b.length) (c := c1) k_sl_65_136 rfl rfl) ?_
 refine sQ 10 (Y_ne (k := .i64) (a := (a.length : Int)) (b := (b.length : Int)) rfl rfl rfl) (rw_nil ?_)
 refine cw_cond (b := ((a.length : Int) != (b.length : Int))) rfl (fun hb => ?_) (fun hb => ?_)
 ·skip
  have hF1 := ct hF hb
  refine cw_seq (cw_region ?_)
  refine sQ 4 (Y_assign (v := .bool false) rfl rfl) (rw_nil (cw_ret ?_))
  obtain rfl := some_inj hF1
  exact ret1 Tryz.results197 (v1 := .bool false) (resAt_tmp rfl) ⟨rfl, (hS.sN [])⟩
 ·skip
  have hF2 := cf' hF hb
  refine cw_skip (cw_seq (cw_seq (cw_region ?_)))
  refine sQ 11 (Y_move (v := .slice B a.length c) rfl rfl) ?_
  refine sQ 12 (Y_len (B := B) (m := a.length) (c := c) k_sl_65_136 rfl rfl) ?_
  refine sQ 13 (Y_move (v := vi 0) rfl rfl) (rw_nil ?_)
  obtain ⟨hN, hF2⟩ := chk_inv hF2
  obtain ⟨z, hz, hF3⟩ := bind_inv hF2
  refine cw_block ?_
  refine cw_loop (fun k f w => ∃ (i : Nat), FF f [(0, .slice B a.length c), (1, .slice B1 b.length c1), (12, vi (a.length : Int)), (13, vi (i : Int))] ∧ ST w0 [] w [] [⟨B, (a.flatMap eN0)⟩, ⟨B1, (b.flatMap eN0)⟩] ∧ i + k = a.length ∧ forX (F_spec_l15SameTerms_l1 a b) k i () = some z) a.length ⟨0, (FF.cons rfl (FF.cons rfl (FF.cons rfl (FF.cons rfl FF.nil)))), (hS.sel [] rfl rfl), Nat.zero_add _, hz⟩ ?_
  rintro k_ f w ⟨i, hf, hS1, hik, hL⟩
  refine cw_seq (cw_region ?_)
  refine sQ 14 (Y_lt (k := .i64) (a := (i : Int)) (b := (a.length : Int)) rfl (hf.get 13 3 rfl) (hf.get 12 2 rfl)) (rw_nil (cw_seq ?_))
  refine cw_cond (b := (decide ((i : Int) < (a.length : Int)))) rfl (fun hlt => ?_) (fun hlt => ?_)
  ·skip
   have hlt1 : i < a.length := by have h := of_decide_eq_true hlt; omega
   obtain ⟨k_1, rfl⟩ : ∃ k2, k_ = k2 + 1 := ⟨k_ - 1, by omega⟩
   obtain ⟨y, hb1, hL1⟩ := forX_go hL
   unfold F_spec_l15SameTerms_l1 at hb1
   refine cw_skip (cw_seq (cw_block (cw_seq (cw_region ?_))))
   refine sQ 15 (Y_move (v := vi (i : Int)) rfl (hf.get 13 3 rfl)) ?_
   refine sQ 5 (Y_assign (v := vi (i : Int)) rfl rfl) (rw_nil (cw_seq ?_))
   obtain ⟨x, hx, hb1⟩ := bind_inv hb1
   obtain ⟨x1, hx1, hb1⟩ := bind_inv hb1
   refine ra_start (hS1.se []).fn (by kernel_rfl) ?_
   have hS2 := hS1.drew
   refine rq 0 16 (v := .slice B a.length c) rfl (hS2.se []) (fun w' hw' => (Y_move (v := .slice B a.length c) rfl (hf.get 0 0 rfl))) ?_
   refine rq 1 17 (v := vi (i : Int)) rfl (hS2.se []) (fun w' hw' => (Y_move (v := vi (i : Int)) rfl rfl)) ?_
   refine rq 2 18 (v := pt B ((i : Int).toNat * 2)) rfl (hS2.se []) (fun w' hw' => (Y_index (B := B) (m := a.length) (c := c) (k := .i64) (i := (i : Int)) k_sl_65_136 k_sz_136_2 rfl rfl rfl (gi_isSome eN1 rfl (ST.rf hw' (i := 0) rfl) hx) (getI_nn hx) (getI_ltI hx rfl))) ?_
   refine rq 3 19 (v := .agg #[vi x.Mask, vi x.Coef]) rfl (hS2.se []) (fun w' hw' => (Y_loadA (B := B) (i := (i : Int).toNat * 2) (cs := (a.flatMap eN0)) (vs := [vi x.Mask, vi x.Coef]) k_ag_136 k_sz_136_2 rfl rfl (ST.rf hw' (i := 0) rfl) (eN1 x) (gi_seg eN1 hx))) ?_
   refine rq 4 20 (v := .slice B1 b.length c1) rfl (hS2.se []) (fun w' hw' => (Y_move (v := .slice B1 b.length c1) rfl (hf.get 1 1 rfl))) ?_
   refine rq 5 21 (v := vi (i : Int)) rfl (hS2.se []) (fun w' hw' => (Y_move (v := vi (i : Int)) rfl rfl)) ?_
   refine rq 6 22 (v := pt B1 ((i : Int).toNat * 2)) rfl (hS2.se []) (fun w' hw' => (Y_index (B := B1) (m := b.length) (c := c1) (k := .i64) (i := (i : Int)) k_sl_65_136 k_sz_136_2 rfl rfl rfl (gi_isSome eN1 rfl (ST.rf hw' (i := 1) rfl) hx1) (getI_nn hx1) (getI_ltI hx1 rfl))) ?_
   refine rq 7 23 (v := .agg #[vi x1.Mask, vi x1.Coef]) rfl (hS2.se []) (fun w' hw' => (Y_loadA (B := B1) (i := (i : Int).toNat * 2) (cs := (b.flatMap eN0)) (vs := [vi x1.Mask, vi x1.Coef]) k_ag_136 k_sz_136_2 rfl rfl (ST.rf hw' (i := 1) rfl) (eN1 x1) (gi_seg eN1 hx1))) ?_
   refine rq 8 24 (v := .bool (!((x.Mask == x1.Mask) && ((x.Coef == x1.Coef) && true)))) rfl (hS2.se []) (fun w' hw' => (Y_neA (xs := #[vi x.Mask, vi x.Coef]) (ys := #[vi x1.Mask, vi x1.Coef]) (b := ((x.Mask == x1.Mask) && ((x.Coef == x1.Coef) && true))) k_eg_136 rfl rfl rfl (eqr_struct (xs := [vi x.Mask, vi x.Coef]) (ys := [vi x1.Mask, vi x1.Coef]) k_st_136 k_ho_136 (pts_sc k_sc_3 rfl rfl (eqr_int k_int_3_i64) (pts_sc k_sc_3 rfl rfl (eqr_int k_int_3_i64) pts_nil))))) ?_
   refine ra_done (by kernel_rfl) ?_
   refine cw_cond (b := (!((x.Mask == x1.Mask) && ((x.Coef == x1.Coef) && true)))) rfl (fun hb2 => ?_) (fun hb2 => ?_)
   ·skip
    have hF4 := ct hb1 hb2
    refine cw_seq (cw_region ?_)
    refine sQ 4 (Y_assign (v := .bool false) rfl rfl) (rw_nil (cw_ret ?_))
    obtain rfl := some_inj hF4
    obtain rfl := some_inj hL1
    obtain rfl := some_inj hF3
    exact ret1 Tryz.results197 (v1 := .bool false) (resAt_tmp rfl) ⟨rfl, (hS2.sN [])⟩
   ·skip
    have hF5 := cf' hb1 hb2
    refine cw_skip (cw_region ?_)
    refine sQ 25 (Y_add (k := .i64) (a := (i : Int)) (b := 1) rfl (hf.get 13 3 rfl) rfl) ?_
    refine sQ 13 (Y_move (v := vi (i64.wrap ((i : Int) + 1))) rfl rfl) (rw_nil ?_)
    obtain rfl := some_inj hF5
    exact ⟨k_1, Nat.lt_succ_self _, i + 1, (FF.cons (hf.get 0 0 rfl) (FF.cons (hf.get 1 1 rfl) (FF.cons (hf.get 12 2 rfl) (FF.cons (congrArg (Value.int .i64) (wr_succ hlt1 hN)) FF.nil)))), (hS2.sel [] rfl rfl), (by omega), hL1⟩
  ·skip
   obtain rfl : k_ = 0 := by have h := of_decide_eq_false hlt; omega
   refine cw_exit rfl ?_
   obtain rfl := some_inj hL
   refine cw_seq (cw_region ?_)
   refine sQ 4 (Y_assign (v := .bool true) rfl rfl) (rw_nil (cw_ret ?_))
   obtain rfl := some_inj hF3
   exact ret1 Tryz.results197 (v1 := .bool true) (resAt_tmp rfl) ⟨rfl, (hS1.sN [])⟩

theorem c_spec_l15Same (p : TPhasePoly) (q : TPhasePoly) (B : Option Addr) (c n : Nat) (B1 : Option Addr) (c1 n1 : Nat) (B2 : Option Addr) (c2 n2 : Nat) (B3 : Option Addr) (c3 n3 : Nat) (w0 : World) (hn : p.Terms.length = n) (hn1 : p.Out.Rows.length = n1) (hn2 : q.Terms.length = n2) (hn3 : q.Out.Rows.length = n3) (hS : ST w0 [] w0 [] [⟨B, (p.Terms.flatMap eN0)⟩, ⟨B1, (p.Out.Rows.flatMap encI)⟩, ⟨B2, (q.Terms.flatMap eN0)⟩, ⟨B3, (q.Out.Rows.flatMap encI)⟩]) {r_ : Bool} (hF : F_spec_l15Same p q = some r_) :
  CV Tryz.prog 125 #[.agg #[vi p.Qubits, vi p.Phase, .slice B n c, .slice B1 n1 c1], .agg #[vi q.Qubits, vi q.Phase, .slice B2 n2 c2, .slice B3 n3 c3]] w0 (fun v w' => v = .bool r_ ∧ ST w0 [] w' [] []) := by
 subst hn
 subst hn1
 subst hn2
 subst hn3
 unfold F_spec_l15Same at hF
 refine cv_of_cw 33 Tryz.func125 rfl Tryz.ntmps125 rfl ?_
 refine cw_seq (cw_region ?_)
 refine sS 2 (Ys_box (T := 70) (v := .agg #[vi p.Qubits, vi p.Phase, .slice B p.Terms.length c, .slice B1 p.Out.Rows.length c1]) (cs := [vi p.Qubits, vi p.Phase, .slice B p.Terms.length c, .slice B1 p.Out.Rows.length c1]) (m := 4) hS rfl rfl rfl rfl) ?_
 rintro _ w_ ⟨b, rfl, hS1⟩
 refine sS 3 (Ys_box (T := 70) (v := .agg #[vi q.Qubits, vi q.Phase, .slice B2 q.Terms.length c2, .slice B3 q.Out.Rows.length c3]) (cs := [vi q.Qubits, vi q.Phase, .slice B2 q.Terms.length c2, .slice B3 q.Out.Rows.length c3]) (m := 4) hS1 rfl rfl rfl rfl) ?_
 rintro _ w_1 ⟨b1, rfl, hS2⟩
 refine sQ 4 (Y_assign (v := .bool false) rfl rfl) (rw_nil (cw_seq (cw_region ?_)))
 refine sQ 5 (Y_fieldAddr (B := aD b) (i := 0) (s := 0) k_fd_70_0_0_3 k_sz_3_1 rfl rfl) ?_
 refine sQ 6 (Y_load1 (B := aD b) (i := 0) (cs := [vi p.Qubits, vi p.Phase, .slice B p.Terms.length c, .slice B1 p.Out.Rows.length c1]) (v := vi p.Qubits) k_sc_3 rfl rfl (hS2.cf (i := 0) rfl) rfl) ?_
 refine sQ 7 (Y_fieldAddr (B := aD b1) (i := 0) (s := 0) k_fd_70_0_0_3 k_sz_3_1 rfl rfl) ?_
 refine sQ 8 (Y_load1 (B := aD b1) (i := 0) (cs := [vi q.Qubits, vi q.Phase, .slice B2 q.Terms.length c2, .slice B3 q.Out.Rows.length c3]) (v := vi q.Qubits) k_sc_3 rfl rfl (hS2.cf (i := 1) rfl) rfl) ?_
 refine sQ 9 (Y_eq (k := .i64) (a := p.Qubits) (b := q.Qubits) rfl rfl rfl) ?_
 refine sQ 10 (Y_move (v := .bool (p.Qubits == q.Qubits)) rfl rfl) ?_
 refine sgq 11 (B := (p.Qubits == q.Qubits)) (v := pt (aD b) 1) rfl rfl (uT_ 10) (fun hg => (Y_fieldAddr (B := aD b) (i := 0) (s := 0) k_fd_70_1_1_3 k_sz_3_1 rfl rfl)) ?_
 refine sgq 12 (B := (p.Qubits == q.Qubits)) (v := vi p.Phase) rfl rfl (uT_ 10) (fun hg1 => (Y_load1 (B := aD b) (i := 1) (cs := [vi p.Qubits, vi p.Phase, .slice B p.Terms.length c, .slice B1 p.Out.Rows.length c1]) (v := vi p.Phase) k_sc_3 rfl (gv_of (v := pt (aD b) 1) hg1) (hS2.cf (i := 0) rfl) rfl)) ?_
 refine sgq 13 (B := (p.Qubits == q.Qubits)) (v := pt (aD b1) 1) rfl rfl (uT_ 10) (fun hg2 => (Y_fieldAddr (B := aD b1) (i := 0) (s := 0) k_fd_70_1_1_3 k_sz_3_1 rfl rfl)) ?_
 refine sgq 14 (B := (p.Qubits == q.Qubits)) (v := vi q.Phase) rfl rfl (uT_ 10) (fun hg3 => (Y_load1 (B := aD b1) (i := 1) (cs := [vi q.Qubits, vi q.Phase, .slice B2 q.Terms.length c2, .slice B3 q.Out.Rows.length c3]) (v := vi q.Phase) k_sc_3 rfl (gv_of (v := pt (aD b1) 1) hg3) (hS2.cf (i := 1) rfl) rfl)) ?_
 refine sgq 15 (B := (p.Qubits == q.Qubits)) (v := .bool (p.Phase == q.Phase)) rfl rfl (uT_ 10) (fun hg4 => (Y_eq (k := .i64) (a := p.Phase) (b := q.Phase) rfl (gv_of (v := vi p.Phase) hg4) (gv_of (v := vi q.Phase) hg4))) ?_
 refine sQ 16 (Y_and (b := (p.Qubits == q.Qubits)) (z := (p.Phase == q.Phase)) rfl rfl rfl rfl) ?_
 refine sQ 17 (Y_move (v := .bool ((p.Qubits == q.Qubits) && (p.Phase == q.Phase))) rfl rfl) ?_
 refine sgq 18 (B := ((p.Qubits == q.Qubits) && (p.Phase == q.Phase))) (v := pt (aD b) 3) rfl rfl (uT_ 17) (fun hg5 => (Y_fieldAddr (B := aD b) (i := 0) (s := 0) k_fd_70_3_3_68 k_sz_68_1 rfl rfl)) ?_
 refine sgq 19 (B := ((p.Qubits == q.Qubits) && (p.Phase == q.Phase))) (v := pt (aD b) 3) rfl rfl (uT_ 17) (fun hg6 => (Y_fieldAddr (B := aD b) (i := 3) (s := 0) k_fd_68_0_0_66 k_sz_66_1 rfl (gv_of (v := pt (aD b) 3) hg6))) ?_
 refine sgq 20 (B := ((p.Qubits == q.Qubits) && (p.Phase == q.Phase))) (v := .slice B1 p.Out.Rows.length c1) rfl rfl (uT_ 17) (fun hg7 => (Y_load1 (B := aD b) (i := 3) (cs := [vi p.Qubits, vi p.Phase, .slice B p.Terms.length c, .slice B1 p.Out.Rows.length c1]) (v := .slice B1 p.Out.Rows.length c1) k_sc_66 rfl (gv_of (v := pt (aD b) 3) hg7) (hS2.cf (i := 0) rfl) rfl)) ?_
 refine sgq 21 (B := ((p.Qubits == q.Qubits) && (p.Phase == q.Phase))) (v := pt (aD b1) 3) rfl rfl (uT_ 17) (fun hg8 => (Y_fieldAddr (B := aD b1) (i := 0) (s := 0) k_fd_70_3_3_68 k_sz_68_1 rfl rfl)) ?_
 refine sgq 22 (B := ((p.Qubits == q.Qubits) && (p.Phase == q.Phase))) (v := pt (aD b1) 3) rfl rfl (uT_ 17) (fun hg9 => (Y_fieldAddr (B := aD b1) (i := 3) (s := 0) k_fd_68_0_0_66 k_sz_66_1 rfl (gv_of (v := pt (aD b1) 3) hg9))) ?_
 refine sgq 23 (B := ((p.Qubits == q.Qubits) && (p.Phase == q.Phase))) (v := .slice B3 q.Out.Rows.length c3) rfl rfl (uT_ 17) (fun hg10 => (Y_load1 (B := aD b1) (i := 3) (cs := [vi q.Qubits, vi q.Phase, .slice B2 q.Terms.length c2, .slice B3 q.Out.Rows.length c3]) (v := .slice B3 q.Out.Rows.length c3) k_sc_66 rfl (gv_of (v := pt (aD b1) 3) hg10) (hS2.cf (i := 1) rfl) rfl)) ?_
 obtain ⟨r_1, hc, hF⟩ := bind_inv hF
 refine sgc 24 (B := ((p.Qubits == q.Qubits) && (p.Phase == q.Phase))) (v := .bool r_1) (F := hS2.fn) rfl rfl (uT_ 17) hS2 (fun hg11 => (Yc_func (g := 196) (vs := [.slice B1 p.Out.Rows.length c1, .slice B3 q.Out.Rows.length c3]) k_call_196 rfl (mc (gv_of (v := .slice B1 p.Out.Rows.length c1) hg11) (mc (gv_of (v := .slice B3 q.Out.Rows.length c3) hg11) mn)) (CV.mono (c_spec_l1Same p.Out.Rows q.Out.Rows B1 c1 p.Out.Rows.length B3 c3 q.Out.Rows.length _ rfl rfl (hS2.inn0 [(true, 1), (true, 3)] rfl) (gb_inv hc hg11)) (by rintro _ _ ⟨rfl, h⟩; exact ⟨rfl, hS2.out00 h⟩)))) ?_
 rintro w_2 hS3
 refine sQ 25 (Y_and (b := ((p.Qubits == q.Qubits) && (p.Phase == q.Phase))) (z := r_1) rfl rfl rfl rfl) ?_
 refine sQ 26 (Y_move (v := .bool (((p.Qubits == q.Qubits) && (p.Phase == q.Phase)) && r_1)) rfl rfl) ?_
 refine sgq 27 (B := (((p.Qubits == q.Qubits) && (p.Phase == q.Phase)) && r_1)) (v := pt (aD b) 2) rfl rfl (uT_ 26) (fun hg12 => (Y_fieldAddr (B := aD b) (i := 0) (s := 0) k_fd_70_2_2_65 k_sz_65_1 rfl rfl)) ?_
 refine sgq 28 (B := (((p.Qubits == q.Qubits) && (p.Phase == q.Phase)) && r_1)) (v := .slice B p.Terms.length c) rfl rfl (uT_ 26) (fun hg13 => (Y_load1 (B := aD b) (i := 2) (cs := [vi p.Qubits, vi p.Phase, .slice B p.Terms.length c, .slice B1 p.Out.Rows.length c1]) (v := .slice B p.Terms.length c) k_sc_65 rfl (gv_of (v := pt (aD b) 2) hg13) (hS3.cf (i := 0) rfl) rfl)) ?_
 refine sgq 29 (B := (((p.Qubits == q.Qubits) && (p.Phase == q.Phase)) && r_1)) (v := pt (aD b1) 2) rfl rfl (uT_ 26) (fun hg14 => (Y_fieldAddr (B := aD b1) (i := 0) (s := 0) k_fd_70_2_2_65 k_sz_65_1 rfl rfl)) ?_
 refine sgq 30 (B := (((p.Qubits == q.Qubits) && (p.Phase == q.Phase)) && r_1)) (v := .slice B2 q.Terms.length c2) rfl rfl (uT_ 26) (fun hg15 => (Y_load1 (B := aD b1) (i := 2) (cs := [vi q.Qubits, vi q.Phase, .slice B2 q.Terms.length c2, .slice B3 q.Out.Rows.length c3]) (v := .slice B2 q.Terms.length c2) k_sc_65 rfl (gv_of (v := pt (aD b1) 2) hg15) (hS3.cf (i := 1) rfl) rfl)) ?_
 obtain ⟨r_2, hc1, hF⟩ := bind_inv hF
 refine sgc 31 (B := (((p.Qubits == q.Qubits) && (p.Phase == q.Phase)) && r_1)) (v := .bool r_2) (F := hS3.fn) rfl rfl (uT_ 26) hS3 (fun hg16 => (Yc_func (g := 197) (vs := [.slice B p.Terms.length c, .slice B2 q.Terms.length c2]) k_call_197 rfl (mc (gv_of (v := .slice B p.Terms.length c) hg16) (mc (gv_of (v := .slice B2 q.Terms.length c2) hg16) mn)) (CV.mono (c_spec_l15SameTerms p.Terms q.Terms B c p.Terms.length B2 c2 q.Terms.length _ rfl rfl (hS3.inn0 [(true, 0), (true, 2)] rfl) (gb_inv hc1 hg16)) (by rintro _ _ ⟨rfl, h⟩; exact ⟨rfl, hS3.out00 h⟩)))) ?_
 rintro w_3 hS4
 refine sQ 32 (Y_and (b := (((p.Qubits == q.Qubits) && (p.Phase == q.Phase)) && r_1)) (z := r_2) rfl rfl rfl rfl) ?_
 refine sQ 4 (Y_assign (v := .bool ((((p.Qubits == q.Qubits) && (p.Phase == q.Phase)) && r_1) && r_2)) rfl rfl) (rw_nil (cw_ret ?_))
 obtain rfl := some_inj hF
 exact ret1 Tryz.results125 (v1 := .bool ((((p.Qubits == q.Qubits) && (p.Phase == q.Phase)) && r_1) && r_2)) (resAt_tmp rfl) ⟨rfl, (hS4.sN [])⟩

theorem c_spec_l13Odd (p : TPhasePoly) (B : Option Addr) (c n : Nat) (B1 : Option Addr) (c1 n1 : Nat) (w0 : World) (hn : p.Terms.length = n) (hn1 : p.Out.Rows.length = n1) (hS : ST w0 [] w0 [] [⟨B, (p.Terms.flatMap eN0)⟩, ⟨B1, (p.Out.Rows.flatMap encI)⟩]) {r_ : Int} (hF : F_spec_l13Odd p = some r_) :
  CV Tryz.prog 126 #[.agg #[vi p.Qubits, vi p.Phase, .slice B n c, .slice B1 n1 c1]] w0 (fun v w' => v = vi r_ ∧ ST w0 [] w' [] []) := by
 subst hn
 subst hn1
 unfold F_spec_l13Odd at hF
 refine cv_of_cw 20 Tryz.func126 rfl Tryz.ntmps126 rfl ?_
 refine cw_seq (cw_region ?_)
 refine sS 1 (Ys_box (T := 70) (v := .agg #[vi p.Qubits, vi p.Phase, .slice B p.Terms.length c, .slice B1 p.Out.Rows.length c1]) (cs := [vi p.Qubits, vi p.Phase, .slice B p.Terms.length c, .slice B1 p.Out.Rows.length c1]) (m := 4) hS rfl rfl rfl rfl) ?_
 rintro _ w_ ⟨b, rfl, hS1⟩
 refine sQ 2 (Y_assign (v := vi 0) rfl rfl) (rw_nil (cw_seq (cw_region ?_)))
 refine sQ 3 (Y_assign (v := vi 0) rfl rfl) (rw_nil (cw_seq (cw_seq (cw_region ?_))))
 refine sQ 6 (Y_fieldAddr (B := aD b) (i := 0) (s := 0) k_fd_70_2_2_65 k_sz_65_1 rfl rfl) ?_
 refine sQ 7 (Y_load1 (B := aD b) (i := 2) (cs := [vi p.Qubits, vi p.Phase, .slice B p.Terms.length c, .slice B1 p.Out.Rows.length c1]) (v := .slice B p.Terms.length c) k_sc_65 rfl rfl (hS1.cf (i := 0) rfl) rfl) ?_
 refine sQ 8 (Y_len (B := B) (m := p.Terms.length) (c := c) k_sl_65_136 rfl rfl) ?_
 refine sQ 9 (Y_move (v := vi 0) rfl rfl) (rw_nil ?_)
 obtain ⟨hN, hF⟩ := chk_inv hF
 obtain ⟨z, hz, hF1⟩ := bind_inv hF
 refine cw_block ?_
 refine cw_loop (fun k f w => ∃ (i : Nat) (n2 : Int), FF f [(3, vi n2), (7, .slice B p.Terms.length c), (8, vi (p.Terms.length : Int)), (9, vi (i : Int))] ∧ ST w0 [] w [] [⟨B, (p.Terms.flatMap eN0)⟩, ⟨B1, (p.Out.Rows.flatMap encI)⟩] ∧ i + k = p.Terms.length ∧ forN (F_spec_l13Odd_l1 p) k i n2 = some z) p.Terms.length ⟨0, 0, (FF.cons rfl (FF.cons rfl (FF.cons rfl (FF.cons rfl FF.nil)))), (hS1.sel [] rfl rfl), Nat.zero_add _, hz⟩ ?_
 rintro k_ f w ⟨i, n2, hf, hS2, hik, hL⟩
 refine cw_seq (cw_region ?_)
 refine sQ 10 (Y_lt (k := .i64) (a := (i : Int)) (b := (p.Terms.length : Int)) rfl (hf.get 9 3 rfl) (hf.get 8 2 rfl)) (rw_nil (cw_seq ?_))
 refine cw_cond (b := (decide ((i : Int) < (p.Terms.length : Int)))) rfl (fun hlt => ?_) (fun hlt => ?_)
 ·skip
  have hlt1 : i < p.Terms.length := by have h := of_decide_eq_true hlt; omega
  obtain ⟨k_1, rfl⟩ : ∃ k2, k_ = k2 + 1 := ⟨k_ - 1, by omega⟩
  obtain ⟨y, hb, hL1⟩ := forN_go hL
  unfold F_spec_l13Odd_l1 at hb
  refine cw_skip (cw_seq (cw_block (cw_seq (cw_region ?_))))
  obtain ⟨x, hx, hb⟩ := bind_inv hb
  refine sQ 11 (Y_index (B := B) (m := p.Terms.length) (c := c) (k := .i64) (i := (i : Int)) k_sl_65_136 k_sz_136_2 rfl (hf.get 7 1 rfl) (hf.get 9 3 rfl) (gi_isSome eN1 rfl (hS2.rf (i := 0) rfl) hx) (getI_nn hx) (getI_ltI hx rfl)) ?_
  refine sQ 12 (Y_loadA (B := B) (i := (i : Int).toNat * 2) (cs := (p.Terms.flatMap eN0)) (vs := [vi x.Mask, vi x.Coef]) k_ag_136 k_sz_136_2 rfl rfl (hS2.rf (i := 0) rfl) (eN1 x) (gi_seg eN1 hx)) ?_
  refine sS 5 (Ys_alloc (T := 136) (cs := [vi 0, vi 0]) (m := 2) hS2 k_zero_136 rfl rfl rfl) ?_
  rintro _ w_1 ⟨b1, rfl, hS3⟩
  refine s0 (Ys_store (i := 0) (s := 2) (B := aD b1) (T' := 136) (v := .agg #[vi x.Mask, vi x.Coef]) (vs := [vi x.Mask, vi x.Coef]) (k := 0) (cs' := [vi x.Mask, vi x.Coef]) hS3 k_sz_136_2 rfl rfl rfl rfl rfl rfl rfl (lB rfl) rfl rfl) ?_
  rintro _ w_2 ⟨rfl, hS4⟩
  refine rw_nil (cw_region ?_)
  refine sQ 13 (Y_move (v := vi n2) rfl (hf.get 3 0 rfl)) ?_
  refine sQ 14 (Y_fieldAddr (B := aD b1) (i := 0) (s := 0) k_fd_136_1_1_3 k_sz_3_1 rfl rfl) ?_
  refine sQ 15 (Y_load1 (B := aD b1) (i := 1) (cs := [vi x.Mask, vi x.Coef]) (v := vi x.Coef) k_sc_3 rfl rfl (hS4.cf (i := 0) rfl) rfl) ?_
  refine sQ 16 (Y_rem (k := .i64) (a := x.Coef) (b := 2) rfl rfl rfl (by decide)) ?_
  refine sQ 17 (Y_add (k := .i64) (a := n2) (b := (Int.tmod x.Coef 2)) rfl rfl rfl) ?_
  refine sQ 3 (Y_assign (v := vi (i64.wrap (n2 + (Int.tmod x.Coef 2)))) rfl rfl) (rw_nil (cw_region ?_))
  refine sQ 18 (Y_add (k := .i64) (a := (i : Int)) (b := 1) rfl (hf.get 9 3 rfl) rfl) ?_
  refine sQ 9 (Y_move (v := vi (i64.wrap ((i : Int) + 1))) rfl rfl) (rw_nil ?_)
  obtain rfl := some_inj hb
  exact ⟨k_1, Nat.lt_succ_self _, i + 1, (i64.wrap (n2 + (Int.tmod x.Coef 2))), (FF.cons rfl (FF.cons (hf.get 7 1 rfl) (FF.cons (hf.get 8 2 rfl) (FF.cons (congrArg (Value.int .i64) (wr_succ hlt1 hN)) FF.nil)))), (hS4.sel [] rfl rfl), (by omega), hL1⟩
 ·skip
  obtain rfl : k_ = 0 := by have h := of_decide_eq_false hlt; omega
  refine cw_exit rfl ?_
  obtain rfl := some_inj hL
  refine cw_seq (cw_region ?_)
  refine sQ 19 (Y_move (v := vi n2) rfl (hf.get 3 0 rfl)) ?_
  refine sQ 2 (Y_assign (v := vi n2) rfl rfl) (rw_nil (cw_ret ?_))
  obtain rfl := some_inj hF1
  exact ret1 Tryz.results126 (v1 := vi n2) (resAt_tmp rfl) ⟨rfl, (hS2.sN [])⟩

theorem c_spec_l15Least (p : TPhasePoly) (B : Option Addr) (c n : Nat) (B1 : Option Addr) (c1 n1 : Nat) (w0 : World) (hn : p.Terms.length = n) (hn1 : p.Out.Rows.length = n1) (hS : ST w0 [] w0 [] [⟨B, (p.Terms.flatMap eN0)⟩, ⟨B1, (p.Out.Rows.flatMap encI)⟩]) {r_ : Int} (hF : F_spec_l15Least p = some r_) :
  CV Tryz.prog 127 #[.agg #[vi p.Qubits, vi p.Phase, .slice B n c, .slice B1 n1 c1]] w0 (fun v w' => v = vi r_ ∧ ST w0 [] w' [] []) := by
 subst hn
 subst hn1
 unfold F_spec_l15Least at hF
 refine cv_of_cw 14 Tryz.func127 rfl Tryz.ntmps127 rfl ?_
 refine cw_seq (cw_region ?_)
 refine sS 1 (Ys_box (T := 70) (v := .agg #[vi p.Qubits, vi p.Phase, .slice B p.Terms.length c, .slice B1 p.Out.Rows.length c1]) (cs := [vi p.Qubits, vi p.Phase, .slice B p.Terms.length c, .slice B1 p.Out.Rows.length c1]) (m := 4) hS rfl rfl rfl rfl) ?_
 rintro _ w_ ⟨b, rfl, hS1⟩
 refine sQ 2 (Y_assign (v := vi 0) rfl rfl) (rw_nil (cw_seq ?_))
 obtain ⟨r_1, hc, hF⟩ := bind_inv hF
 obtain ⟨⟨r_2, r_3⟩, hc1, hF⟩ := bind_inv hF
 refine ra_start (hS1.se [0]).fn (by kernel_rfl) ?_
 have hS4 := hS1.drew
 refine rq 0 6 (v := pt (aD b) 0) rfl (hS4.se [0]) (fun w' hw' => (Y_fieldAddr (B := aD b) (i := 0) (s := 0) k_fd_70_0_0_3 k_sz_3_1 rfl rfl)) ?_
 refine rq 1 7 (v := vi p.Qubits) rfl (hS4.se [0]) (fun w' hw' => (Y_load1 (B := aD b) (i := 0) (cs := [vi p.Qubits, vi p.Phase, .slice B p.Terms.length c, .slice B1 p.Out.Rows.length c1]) (v := vi p.Qubits) k_sc_3 rfl rfl (ST.cf hw' (i := 0) rfl) rfl)) ?_
 refine rq 2 8 (v := .agg #[vi p.Qubits, vi p.Phase, .slice B p.Terms.length c, .slice B1 p.Out.Rows.length c1]) rfl (hS4.se [0]) (fun w' hw' => (Y_loadA (B := aD b) (i := 0) (cs := [vi p.Qubits, vi p.Phase, .slice B p.Terms.length c, .slice B1 p.Out.Rows.length c1]) (vs := [vi p.Qubits, vi p.Phase, .slice B p.Terms.length c, .slice B1 p.Out.Rows.length c1]) k_ag_70 k_sz_70_4 rfl rfl (ST.cf hw' (i := 0) rfl) rfl rfl)) ?_
 refine rA [3] ?_
 refine ra_c 9 (i := 3) rfl rfl rfl (Yc_func (g := 115) (vs := [.agg #[vi p.Qubits, vi p.Phase, .slice B p.Terms.length c, .slice B1 p.Out.Rows.length c1]]) k_call_115 rfl (mc rfl mn) (c_spec_l15Odd p B c p.Terms.length B1 c1 p.Out.Rows.length _ rfl rfl (hS4.inn0 [(true, 0), (true, 1)] rfl) hc)) ?_ ?_
 ·rintro _ w_1 ⟨rfl, hd⟩
  have hS5 := hS4.out00 hd
  refine ⟨(hS5.se [0]), ?_⟩
  refine rA [4] ?_
  refine ra_c 10 (i := 4) rfl rfl rfl (Yc_func (g := 114) (vs := [vi p.Qubits, vi r_1]) k_call_114 rfl (mc rfl (mc rfl mn)) (c_spec_l15Nearest p.Qubits r_1 _  (hS5.inn0 [] rfl) hc1)) ?_ ?_
  ·rintro _ w_2 ⟨rfl, hd1⟩
   have hS6 := hS5.out00 hd1
   refine ⟨(hS6.se [0]), ?_⟩
   refine rq 5 5 (v := .tuple #[vi r_2, vi r_3]) rfl (hS6.se [0]) (fun w' hw' => (Y_move (v := .tuple #[vi r_2, vi r_3]) rfl rfl)) ?_
   refine rq 6 11 (v := vi r_2) rfl (hS6.se [0]) (fun w' hw' => (Y_extract (v := vi r_2) rfl rfl rfl)) ?_
   refine rq 7 12 (v := vi r_3) rfl (hS6.se [0]) (fun w' hw' => (Y_extract (v := vi r_3) rfl rfl rfl)) ?_
   refine rq 8 3 (v := vi r_2) rfl (hS6.se [0]) (fun w' hw' => (Y_assign (v := vi r_2) rfl rfl)) ?_
   refine rq 9 4 (v := vi r_3) rfl (hS6.se [0]) (fun w' hw' => (Y_assign (v := vi r_3) rfl rfl)) ?_
   refine ra_done (by kernel_rfl) ?_
   refine cw_seq (cw_region ?_)
   refine sQ 13 (Y_move (v := vi r_3) rfl rfl) ?_
   refine sQ 2 (Y_assign (v := vi r_3) rfl rfl) (rw_nil (cw_ret ?_))
   obtain rfl := some_inj hF
   exact ret1 Tryz.results127 (v1 := vi r_3) (resAt_tmp rfl) ⟨rfl, (hS6.sN [])⟩
  exact allR_nil
 exact allR_nil

theorem c_spec_CheckReduction (p : TPhasePoly) (word : Int) (q : TPhasePoly) (B : Option Addr) (c n : Nat) (B1 : Option Addr) (c1 n1 : Nat) (B2 : Option Addr) (c2 n2 : Nat) (B3 : Option Addr) (c3 n3 : Nat) (w0 : World) (hn : p.Terms.length = n) (hn1 : p.Out.Rows.length = n1) (hn2 : q.Terms.length = n2) (hn3 : q.Out.Rows.length = n3) (hS : ST w0 [] w0 [] [⟨B, (p.Terms.flatMap eN0)⟩, ⟨B1, (p.Out.Rows.flatMap encI)⟩, ⟨B2, (q.Terms.flatMap eN0)⟩, ⟨B3, (q.Out.Rows.flatMap encI)⟩]) {r_ : Int} {r_1 : Bool} (hF : F_spec_CheckReduction p word q = some (r_, r_1)) :
  CV Tryz.prog 47 #[.agg #[vi p.Qubits, vi p.Phase, .slice B n c, .slice B1 n1 c1], vi word, .agg #[vi q.Qubits, vi q.Phase, .slice B2 n2 c2, .slice B3 n3 c3]] w0 (fun v w' => v = .tuple #[vi r_, .bool r_1] ∧ ST w0 [] w' [] []) := by
 subst hn
 subst hn1
 subst hn2
 subst hn3
 unfold F_spec_CheckReduction at hF
 refine cv_of_cw 36 Tryz.func47 rfl Tryz.ntmps47 rfl ?_
 refine cw_seq (cw_region ?_)
 refine sS 3 (Ys_box (T := 70) (v := .agg #[vi p.Qubits, vi p.Phase, .slice B p.Terms.length c, .slice B1 p.Out.Rows.length c1]) (cs := [vi p.Qubits, vi p.Phase, .slice B p.Terms.length c, .slice B1 p.Out.Rows.length c1]) (m := 4) hS rfl rfl rfl rfl) ?_
 rintro _ w_ ⟨b, rfl, hS1⟩
 refine sS 5 (Ys_box (T := 70) (v := .agg #[vi q.Qubits, vi q.Phase, .slice B2 q.Terms.length c2, .slice B3 q.Out.Rows.length c3]) (cs := [vi q.Qubits, vi q.Phase, .slice B2 q.Terms.length c2, .slice B3 q.Out.Rows.length c3]) (m := 4) hS1 rfl rfl rfl rfl) ?_
 rintro _ w_1 ⟨b1, rfl, hS2⟩
 refine sQ 6 (Y_assign (v := vi 0) rfl rfl) ?_
 refine sQ 7 (Y_assign (v := .bool false) rfl rfl) (rw_nil (cw_seq (cw_seq (cw_region ?_))))
 refine sQ 8 (Y_loadA (B := aD b) (i := 0) (cs := [vi p.Qubits, vi p.Phase, .slice B p.Terms.length c, .slice B1 p.Out.Rows.length c1]) (vs := [vi p.Qubits, vi p.Phase, .slice B p.Terms.length c, .slice B1 p.Out.Rows.length c1]) k_ag_70 k_sz_70_4 rfl rfl (hS2.cf (i := 0) rfl) rfl rfl) ?_
 obtain ⟨r_2, hc, hF⟩ := bind_inv hF
 refine sc 9 rfl rfl (Yc_func (g := 113) (vs := [.agg #[vi p.Qubits, vi p.Phase, .slice B p.Terms.length c, .slice B1 p.Out.Rows.length c1]]) k_call_113 rfl (mc rfl mn) (c_spec_l13Valid p B c p.Terms.length B1 c1 p.Out.Rows.length _ rfl rfl (hS2.inn0 [(true, 0), (true, 1)] rfl) hc)) ?_
 rintro _ w_2 ⟨rfl, hd⟩
 have hS3 := hS2.out00 hd
 refine sQ 10 (Y_not (p := r_2) rfl rfl) ?_
 refine sQ 11 (Y_move (v := .bool (!r_2)) rfl rfl) ?_
 refine sgq 12 (B := (!(!r_2))) (v := .agg #[vi q.Qubits, vi q.Phase, .slice B2 q.Terms.length c2, .slice B3 q.Out.Rows.length c3]) rfl rfl (uF_ 11) (fun hg => (Y_loadA (B := aD b1) (i := 0) (cs := [vi q.Qubits, vi q.Phase, .slice B2 q.Terms.length c2, .slice B3 q.Out.Rows.length c3]) (vs := [vi q.Qubits, vi q.Phase, .slice B2 q.Terms.length c2, .slice B3 q.Out.Rows.length c3]) k_ag_70 k_sz_70_4 rfl rfl (hS3.cf (i := 1) rfl) rfl rfl)) ?_
 obtain ⟨r_3, hc1, hF⟩ := bind_inv hF
 refine sgc 13 (B := (!(!r_2))) (v := .bool r_3) (F := hS3.fn) rfl rfl (uF_ 11) hS3 (fun hg1 => (Yc_func (g := 113) (vs := [.agg #[vi q.Qubits, vi q.Phase, .slice B2 q.Terms.length c2, .slice B3 q.Out.Rows.length c3]]) k_call_113 rfl (mc (gv_of (v := .agg #[vi q.Qubits, vi q.Phase, .slice B2 q.Terms.length c2, .slice B3 q.Out.Rows.length c3]) hg1) mn) (CV.mono (c_spec_l13Valid q B2 c2 q.Terms.length B3 c3 q.Out.Rows.length _ rfl rfl (hS3.inn0 [(true, 2), (true, 3)] rfl) (gb_inv hc1 hg1)) (by rintro _ _ ⟨rfl, h⟩; exact ⟨rfl, hS3.out00 h⟩)))) ?_
 rintro w_3 hS4
 refine sgq 14 (B := (!(!r_2))) (v := .bool (!r_3)) rfl rfl (uF_ 11) (fun hg2 => (Y_not (p := r_3) rfl (gv_of (v := .bool r_3) hg2))) ?_
 refine sQ 15 (Y_or (b := (!r_2)) (z := (!r_3)) rfl rfl rfl rfl) (rw_nil ?_)
 refine cw_cond (b := ((!r_2) || (!r_3))) rfl (fun hb => ?_) (fun hb => ?_)
 ·skip
  have hF1 := ct hF hb
  refine cw_seq (cw_region ?_)
  refine sQ 6 (Y_assign (v := vi 0) rfl rfl) ?_
  refine sQ 7 (Y_assign (v := .bool false) rfl rfl) (rw_nil (cw_ret ?_))
  obtain ⟨rfl, rfl⟩ := pr2 (some_inj hF1)
  exact ret2 Tryz.results47 (v1 := vi 0) (resAt_tmp rfl) (v2 := .bool false) (resAt_tmp rfl) ⟨rfl, (hS4.sN [])⟩
 ·skip
  have hF2 := cf' hF hb
  refine cw_skip (cw_seq (cw_block (cw_seq (cw_region ?_))))
  refine sQ 17 (Y_fieldAddr (B := aD b) (i := 0) (s := 0) k_fd_70_0_0_3 k_sz_3_1 rfl rfl) ?_
  refine sQ 18 (Y_load1 (B := aD b) (i := 0) (cs := [vi p.Qubits, vi p.Phase, .slice B p.Terms.length c, .slice B1 p.Out.Rows.length c1]) (v := vi p.Qubits) k_sc_3 rfl rfl (hS4.cf (i := 0) rfl) rfl) ?_
  obtain ⟨r_4, hc2, hF2⟩ := bind_inv hF2
  refine sc 19 rfl rfl (Yc_func (g := 119) (vs := [vi p.Qubits]) k_call_119 rfl (mc rfl mn) (c_spec_l15Codes p.Qubits _  (hS4.inn0 [] rfl) hc2)) ?_
  rintro _ w_4 ⟨B4, c4, rfl, hd1⟩
  have hS5 := hS4.out0 hd1
  refine sQ 20 (Y_move (v := vi word) rfl rfl) ?_
  obtain ⟨r_5, hc3, hF2⟩ := bind_inv hF2
  refine sc 21 rfl rfl (Yc_func (g := 124) (vs := [.slice B4 r_4.length c4, vi word]) k_call_124 rfl (mc rfl (mc rfl mn)) (c_spec_l1Has r_4 word B4 c4 r_4.length _ rfl (hS5.inn0 [(false, 2)] rfl) hc3)) ?_
  rintro _ w_5 ⟨rfl, hd2⟩
  have hS6 := hS5.out00 hd2
  refine sQ 22 (Y_not (p := r_5) rfl rfl) ?_
  refine sQ 16 (Y_assign (v := .bool (!r_5)) rfl rfl) (rw_nil ?_)
  refine cw_cond (b := (!r_5)) rfl (fun hb1 => ?_) (fun hb1 => ?_)
  ·skip
   have hF3 := ct hF2 hb1
   refine cw_seq (cw_region ?_)
   refine sQ 6 (Y_assign (v := vi 1) rfl rfl) ?_
   refine sQ 7 (Y_assign (v := .bool true) rfl rfl) (rw_nil (cw_ret ?_))
   obtain ⟨rfl, rfl⟩ := pr2 (some_inj hF3)
   exact ret2 Tryz.results47 (v1 := vi 1) (resAt_tmp rfl) (v2 := .bool true) (resAt_tmp rfl) ⟨rfl, (hS6.sN [])⟩
  ·skip
   have hF4 := cf' hF2 hb1
   refine cw_seq ?_
   obtain ⟨r_6, hc4, hF4⟩ := bind_inv hF4
   obtain ⟨r_7, hc5, hF4⟩ := bind_inv hF4
   refine ra_start (hS6.se [0, 1, 2]).fn (by kernel_rfl) ?_
   have hS9 := hS6.drew
   refine rq 0 24 (v := .agg #[vi p.Qubits, vi p.Phase, .slice B p.Terms.length c, .slice B1 p.Out.Rows.length c1]) rfl (hS9.se [0, 1, 2]) (fun w' hw' => (Y_loadA (B := aD b) (i := 0) (cs := [vi p.Qubits, vi p.Phase, .slice B p.Terms.length c, .slice B1 p.Out.Rows.length c1]) (vs := [vi p.Qubits, vi p.Phase, .slice B p.Terms.length c, .slice B1 p.Out.Rows.length c1]) k_ag_70 k_sz_70_4 rfl rfl (ST.cf hw' (i := 0) rfl) rfl rfl)) ?_
   refine rq 1 25 (v := vi word) rfl (hS9.se [0, 1, 2]) (fun w' hw' => (Y_move (v := vi word) rfl rfl)) ?_
   refine rq 3 27 (v := .agg #[vi q.Qubits, vi q.Phase, .slice B2 q.Terms.length c2, .slice B3 q.Out.Rows.length c3]) rfl (hS9.se [0, 1, 2]) (fun w' hw' => (Y_loadA (B := aD b1) (i := 0) (cs := [vi q.Qubits, vi q.Phase, .slice B2 q.Terms.length c2, .slice B3 q.Out.Rows.length c3]) (vs := [vi q.Qubits, vi q.Phase, .slice B2 q.Terms.length c2, .slice B3 q.Out.Rows.length c3]) k_ag_70 k_sz_70_4 rfl rfl (ST.cf hw' (i := 1) rfl) rfl rfl)) ?_
   refine rA [2] ?_
   refine ra_c 26 (i := 2) rfl rfl rfl (Yc_func (g := 116) (vs := [.agg #[vi p.Qubits, vi p.Phase, .slice B p.Terms.length c, .slice B1 p.Out.Rows.length c1], vi word]) k_call_116 rfl (mc rfl (mc rfl mn)) (c_spec_l15Shift p word B c p.Terms.length B1 c1 p.Out.Rows.length _ rfl rfl (hS9.inn0 [(true, 0), (true, 1)] rfl) hc4)) ?_ ?_
   ·rintro _ w_6 ⟨B5, c5, B6, c6, rfl, hd3⟩
    have hS10 := hS9.out0 hd3
    refine ⟨(hS10.se [0, 1, 2]), ?_⟩
    refine rA [4] ?_
    refine ra_c 28 (i := 4) rfl rfl rfl (Yc_func (g := 125) (vs := [.agg #[vi r_6.Qubits, vi r_6.Phase, .slice B5 r_6.Terms.length c5, .slice B6 r_6.Out.Rows.length c6], .agg #[vi q.Qubits, vi q.Phase, .slice B2 q.Terms.length c2, .slice B3 q.Out.Rows.length c3]]) k_call_125 rfl (mc rfl (mc rfl mn)) (c_spec_l15Same r_6 q B5 c5 r_6.Terms.length B6 c6 r_6.Out.Rows.length B2 c2 q.Terms.length B3 c3 q.Out.Rows.length _ rfl rfl rfl rfl (hS10.inn0 [(false, 3), (false, 4), (true, 2), (true, 3)] rfl) hc5)) ?_ ?_
    ·rintro _ w_7 ⟨rfl, hd4⟩
     have hS11 := hS10.out00 hd4
     refine ⟨(hS11.se [0, 1, 2]), ?_⟩
     refine rq 5 29 (v := .bool (!r_7)) rfl (hS11.se [0, 1, 2]) (fun w' hw' => (Y_not (p := r_7) rfl rfl)) ?_
     refine rq 6 23 (v := .bool (!r_7)) rfl (hS11.se [0, 1, 2]) (fun w' hw' => (Y_assign (v := .bool (!r_7)) rfl rfl)) ?_
     refine ra_done (by kernel_rfl) ?_
     refine cw_cond (b := (!r_7)) rfl (fun hb2 => ?_) (fun hb2 => ?_)
     ·skip
      have hF5 := ct hF4 hb2
      refine cw_seq (cw_region ?_)
      refine sQ 6 (Y_assign (v := vi 2) rfl rfl) ?_
      refine sQ 7 (Y_assign (v := .bool true) rfl rfl) (rw_nil (cw_ret ?_))
      obtain ⟨rfl, rfl⟩ := pr2 (some_inj hF5)
      exact ret2 Tryz.results47 (v1 := vi 2) (resAt_tmp rfl) (v2 := .bool true) (resAt_tmp rfl) ⟨rfl, (hS11.sN [])⟩
     ·skip
      have hF6 := cf' hF4 hb2
      refine cw_seq ?_
      obtain ⟨r_8, hc6, hF6⟩ := bind_inv hF6
      obtain ⟨r_9, hc7, hF6⟩ := bind_inv hF6
      refine ra_start (hS11.se [0, 1, 2, 3, 4]).fn (by kernel_rfl) ?_
      have hS14 := hS11.drew
      refine rq 0 31 (v := .agg #[vi q.Qubits, vi q.Phase, .slice B2 q.Terms.length c2, .slice B3 q.Out.Rows.length c3]) rfl (hS14.se [0, 1, 2, 3, 4]) (fun w' hw' => (Y_loadA (B := aD b1) (i := 0) (cs := [vi q.Qubits, vi q.Phase, .slice B2 q.Terms.length c2, .slice B3 q.Out.Rows.length c3]) (vs := [vi q.Qubits, vi q.Phase, .slice B2 q.Terms.length c2, .slice B3 q.Out.Rows.length c3]) k_ag_70 k_sz_70_4 rfl rfl (ST.cf hw' (i := 1) rfl) rfl rfl)) ?_
      refine rq 2 33 (v := .agg #[vi p.Qubits, vi p.Phase, .slice B p.Terms.length c, .slice B1 p.Out.Rows.length c1]) rfl (hS14.se [0, 1, 2, 3, 4]) (fun w' hw' => (Y_loadA (B := aD b) (i := 0) (cs := [vi p.Qubits, vi p.Phase, .slice B p.Terms.length c, .slice B1 p.Out.Rows.length c1]) (vs := [vi p.Qubits, vi p.Phase, .slice B p.Terms.length c, .slice B1 p.Out.Rows.length c1]) k_ag_70 k_sz_70_4 rfl rfl (ST.cf hw' (i := 0) rfl) rfl rfl)) ?_
      refine rA [1] ?_
      refine ra_c 32 (i := 1) rfl rfl rfl (Yc_func (g := 126) (vs := [.agg #[vi q.Qubits, vi q.Phase, .slice B2 q.Terms.length c2, .slice B3 q.Out.Rows.length c3]]) k_call_126 rfl (mc rfl mn) (c_spec_l13Odd q B2 c2 q.Terms.length B3 c3 q.Out.Rows.length _ rfl rfl (hS14.inn0 [(true, 2), (true, 3)] rfl) hc6)) ?_ ?_
      ·rintro _ w_8 ⟨rfl, hd5⟩
       have hS15 := hS14.out00 hd5
       refine ⟨(hS15.se [0, 1, 2, 3, 4]), ?_⟩
       refine rA [3] ?_
       refine ra_c 34 (i := 3) rfl rfl rfl (Yc_func (g := 127) (vs := [.agg #[vi p.Qubits, vi p.Phase, .slice B p.Terms.length c, .slice B1 p.Out.Rows.length c1]]) k_call_127 rfl (mc rfl mn) (c_spec_l15Least p B c p.Terms.length B1 c1 p.Out.Rows.length _ rfl rfl (hS15.inn0 [(true, 0), (true, 1)] rfl) hc7)) ?_ ?_
       ·rintro _ w_9 ⟨rfl, hd6⟩
        have hS16 := hS15.out00 hd6
        refine ⟨(hS16.se [0, 1, 2, 3, 4]), ?_⟩
        refine rq 4 35 (v := .bool (r_8 != r_9)) rfl (hS16.se [0, 1, 2, 3, 4]) (fun w' hw' => (Y_ne (k := .i64) (a := r_8) (b := r_9) rfl rfl rfl)) ?_
        refine rq 5 30 (v := .bool (r_8 != r_9)) rfl (hS16.se [0, 1, 2, 3, 4]) (fun w' hw' => (Y_assign (v := .bool (r_8 != r_9)) rfl rfl)) ?_
        refine ra_done (by kernel_rfl) ?_
        refine cw_cond (b := (r_8 != r_9)) rfl (fun hb3 => ?_) (fun hb3 => ?_)
        ·skip
         have hF7 := ct hF6 hb3
         refine cw_seq (cw_region ?_)
         refine sQ 6 (Y_assign (v := vi 3) rfl rfl) ?_
         refine sQ 7 (Y_assign (v := .bool true) rfl rfl) (rw_nil (cw_ret ?_))
         obtain ⟨rfl, rfl⟩ := pr2 (some_inj hF7)
         exact ret2 Tryz.results47 (v1 := vi 3) (resAt_tmp rfl) (v2 := .bool true) (resAt_tmp rfl) ⟨rfl, (hS16.sN [])⟩
        ·skip
         have hF8 := cf' hF6 hb3
         refine cw_skip (cw_seq (cw_region ?_))
         refine sQ 6 (Y_assign (v := vi 0) rfl rfl) ?_
         refine sQ 7 (Y_assign (v := .bool true) rfl rfl) (rw_nil (cw_ret ?_))
         obtain ⟨rfl, rfl⟩ := pr2 (some_inj hF8)
         exact ret2 Tryz.results47 (v1 := vi 0) (resAt_tmp rfl) (v2 := .bool true) (resAt_tmp rfl) ⟨rfl, (hS16.sN [])⟩
       exact allR_nil
      exact allR_nil
    exact allR_nil
   exact allR_nil
end Go.VK
