/- Walks: each Go function returns what its Lean function says. By program. -/
import Derived.Test.YtchihdcajdocgaaGreatLReductionsFa
import Derived.Test.YtchihdcajdocgaaGreatLReductionsShelf
import Derived.Test.YtchihdcajdocgaaGreatLReductionsW1
set_option linter.unusedVariables false
set_option maxRecDepth 100000
set_option maxHeartbeats 4000000
namespace Go.VK
open Go.RowKit
open Go.Proofs
open Go.IntKind
attribute [local irreducible] CW RW RA CV Y Yw Yc Ys RetOf
attribute [local irreducible] F_laws_qTerms F_laws_qInts F_laws_qPoly F_spec_l1Cur_next F_spec_l1Cur_pick F_spec_l1Cur_one F_spec_l13List F_spec_l1Put F_spec_l1Set F_spec_l13Parity F_spec_l15Affine F_spec_l15Codes F_spec_l1Cur_oddWord F_spec_l1Cur_among F_spec_l13By F_spec_l12Identity F_spec_l1Own F_spec_l12CX F_spec_l1Cur_linear F_spec_l1Cur_phasePoly F_spec_l1Cur_reducible F_spec_l1Cur_anyLinear F_spec_l1Cur_anyPhasePoly F_spec_DrawLeastT F_spec_DrawReduceT F_impl_within F_impl_areTerms F_slices_IndexFunc_int_int F_slices_ContainsFunc_int_int F_impl_IsValidLinear_1 F_slices_Clone_int_int F_impl_rankOf_1 F_slices_Delete_int_int F_impl_rankOf F_impl_IsValidLinear F_impl_IsValidPhasePoly F_math_bits_OnesCount64 F_math_bits_OnesCount F_impl_bitsIn F_slices_Sort_int_int F_impl_codeWords F_impl_nearest F_impl_oddWord F_impl_coefficients_add F_impl_coefficients_terms F_slices_Index_int_int F_slices_Contains_int_int F_impl_isWord F_impl_IsCodeWord F_impl_ShiftBy F_impl_ReduceT F_spec_l1In F_spec_l1All F_spec_l12Rank F_spec_l12Valid F_spec_l13Valid F_spec_l15Nearest F_spec_l15Odd F_spec_l15Shift F_spec_ReduceT F_spec_l1Cur_relative F_spec_DrawCheckReduction F_impl_LeastT F_slices_Equal_int_int F_slices_Equal_impl_Term_impl_Term F_impl_equalPolys F_impl_oddTerms F_impl_CheckReduction F_spec_l1Has F_spec_l1Same F_spec_l15SameTerms F_spec_l15Same F_spec_l13Odd F_spec_l15Least F_spec_CheckReduction F_impl_MonomialsOf F_impl_EqualPhases F_impl_OddTerms F_laws_FnReductions
theorem c_impl_areTerms (n : Int) (terms : List TTerm) (B : Option Addr) (c n1 : Nat) (w0 : World) (hn : terms.length = n1) (hS : ST w0 [] w0 [] [⟨B, (terms.flatMap eN0)⟩]) {r_ : Bool} (hF : F_impl_areTerms n terms = some r_) :
  CV Tryz.prog 178 #[vi n, .slice B n1 c] w0 (fun v w' => v = .bool r_ ∧ ST w0 [] w' [] []) := by
 subst hn
 unfold F_impl_areTerms at hF
 refine cv_of_cw 43 Tryz.func178 rfl Tryz.ntmps178 rfl ?_
 refine cw_seq (cw_region ?_)
 refine sQ 4 (Y_assign (v := .bool false) rfl rfl) (rw_nil (cw_seq (cw_seq (cw_region ?_))))
 refine sQ 7 (Y_move (v := .slice B terms.length c) rfl rfl) ?_
 refine sQ 8 (Y_len (B := B) (m := terms.length) (c := c) k_sl_65_136 rfl rfl) ?_
 refine sQ 9 (Y_move (v := vi 0) rfl rfl) (rw_nil ?_)
 obtain ⟨hN, hF⟩ := chk_inv hF
 obtain ⟨z, hz, hF1⟩ := bind_inv hF
 refine cw_block ?_
 refine cw_loop (fun k f w => ∃ (i : Nat), FF f [(0, vi n), (1, .slice B terms.length c), (7, .slice B terms.length c), (8, vi (terms.length : Int)), (9, vi (i : Int))] ∧ ST w0 [] w [] [⟨B, (terms.flatMap eN0)⟩] ∧ i + k = terms.length ∧ forX (F_impl_areTerms_l1 terms n) k i () = some z) terms.length ⟨0, (FF.cons rfl (FF.cons rfl (FF.cons rfl (FF.cons rfl (FF.cons rfl FF.nil))))), (hS.sel [] rfl rfl), Nat.zero_add _, hz⟩ ?_
 rintro k_ f w ⟨i, hf, hS1, hik, hL⟩
 refine cw_seq (cw_region ?_)
 refine sQ 10 (Y_lt (k := .i64) (a := (i : Int)) (b := (terms.length : Int)) rfl (hf.get 9 4 rfl) (hf.get 8 3 rfl)) (rw_nil (cw_seq ?_))
 refine cw_cond (b := (decide ((i : Int) < (terms.length : Int)))) rfl (fun hlt => ?_) (fun hlt => ?_)
 ·skip
  have hlt1 : i < terms.length := by have h := of_decide_eq_true hlt; omega
  obtain ⟨k_1, rfl⟩ : ∃ k2, k_ = k2 + 1 := ⟨k_ - 1, by omega⟩
  obtain ⟨y, hb, hL1⟩ := forX_go hL
  unfold F_impl_areTerms_l1 at hb
  refine cw_skip (cw_seq (cw_block (cw_seq (cw_region ?_))))
  refine sQ 11 (Y_move (v := vi (i : Int)) rfl (hf.get 9 4 rfl)) ?_
  obtain ⟨x, hx, hb⟩ := bind_inv hb
  refine sQ 12 (Y_index (B := B) (m := terms.length) (c := c) (k := .i64) (i := (i : Int)) k_sl_65_136 k_sz_136_2 rfl (hf.get 7 2 rfl) (hf.get 9 4 rfl) (gi_isSome eN1 rfl (hS1.rf (i := 0) rfl) hx) (getI_nn hx) (getI_ltI hx rfl)) ?_
  refine sQ 13 (Y_loadA (B := B) (i := (i : Int).toNat * 2) (cs := (terms.flatMap eN0)) (vs := [vi x.Mask, vi x.Coef]) k_ag_136 k_sz_136_2 rfl rfl (hS1.rf (i := 0) rfl) (eN1 x) (gi_seg eN1 hx)) ?_
  refine sS 6 (Ys_alloc (T := 136) (cs := [vi 0, vi 0]) (m := 2) hS1 k_zero_136 rfl rfl rfl) ?_
  rintro _ w_ ⟨b, rfl, hS2⟩
  refine sQ 5 (Y_assign (v := vi (i : Int)) rfl rfl) ?_
  refine s0 (Ys_store (i := 0) (s := 2) (B := aD b) (T' := 136) (v := .agg #[vi x.Mask, vi x.Coef]) (vs := [vi x.Mask, vi x.Coef]) (k := 0) (cs' := [vi x.Mask, vi x.Coef]) hS2 k_sz_136_2 rfl rfl rfl rfl rfl rfl rfl (lB rfl) rfl rfl) ?_
  rintro _ w_1 ⟨rfl, hS3⟩
  refine rw_nil (cw_seq ?_)
  obtain ⟨hsh, hb⟩ := chk_inv hb
  obtain ⟨r_1, hc, hb⟩ := bind_inv hb
  obtain ⟨r_2, hc1, hb⟩ := bind_inv hb
  obtain ⟨x1, hx1, hb⟩ := bind_inv hb
  refine ra_start (hS3.se [0]).fn (by kernel_rfl) ?_
  have hS6 := hS3.drew
  refine rq 0 14 (v := pt (aD b) 0) rfl (hS6.se [0]) (fun w' hw' => (Y_fieldAddr (B := aD b) (i := 0) (s := 0) k_fd_136_0_0_3 k_sz_3_1 rfl rfl)) ?_
  refine rq 1 15 (v := vi x.Mask) rfl (hS6.se [0]) (fun w' hw' => (Y_load1 (B := aD b) (i := 0) (cs := [vi x.Mask, vi x.Coef]) (v := vi x.Mask) k_sc_3 rfl rfl (ST.cf hw' (i := 0) rfl) rfl)) ?_
  refine rq 2 16 (v := vi n) rfl (hS6.se [0]) (fun w' hw' => (Y_move (v := vi n) rfl (hf.get 0 0 rfl))) ?_
  refine rq 3 17 (v := vi (shlK .i64 1 n)) rfl (hS6.se [0]) (fun w' hw' => (Y_shl (k := .i64) (a := 1) (k' := .i64) (b := n) rfl rfl rfl hsh)) ?_
  refine rq 4 18 (v := vi (i64.wrap ((shlK .i64 1 n) - 1))) rfl (hS6.se [0]) (fun w' hw' => (Y_sub (k := .i64) (a := (shlK .i64 1 n)) (b := 1) rfl rfl rfl)) ?_
  refine rA [5] ?_
  refine ra_c 19 (i := 5) rfl rfl rfl (Yc_func (g := 74) (vs := [vi x.Mask, vi 1, vi (i64.wrap ((shlK .i64 1 n) - 1))]) k_call_74 rfl (mc rfl (mc rfl (mc rfl mn))) (c_impl_within x.Mask 1 (i64.wrap ((shlK .i64 1 n) - 1)) _  (hS6.inn0 [] rfl) hc)) ?_ ?_
  ·rintro _ w_2 ⟨rfl, hd⟩
   have hS7 := hS6.out00 hd
   refine ⟨(hS7.se [0]), ?_⟩
   refine rq 6 20 (v := .bool (!r_1)) rfl (hS7.se [0]) (fun w' hw' => (Y_not (p := r_1) rfl rfl)) ?_
   refine rq 7 21 (v := .bool (!r_1)) rfl (hS7.se [0]) (fun w' hw' => (Y_move (v := .bool (!r_1)) rfl rfl)) ?_
   refine ra_gq 8 22 (B := (!(!r_1))) (v := pt (aD b) 1) rfl rfl rfl (uF_ 21) (by kernel_rfl) (by kernel_rfl) (by kernel_rfl) (hS7.se [0]) (fun hg w' hw' => (Y_fieldAddr (B := aD b) (i := 0) (s := 0) k_fd_136_1_1_3 k_sz_3_1 rfl rfl)) ?_
   refine ra_gq 9 23 (B := (!(!r_1))) (v := vi x.Coef) rfl rfl rfl (uF_ 21) (by kernel_rfl) (by kernel_rfl) (by kernel_rfl) (hS7.se [0]) (fun hg1 w' hw' => (Y_load1 (B := aD b) (i := 1) (cs := [vi x.Mask, vi x.Coef]) (v := vi x.Coef) k_sc_3 rfl (gv_of (v := pt (aD b) 1) hg1) (ST.cf hw' (i := 0) rfl) rfl)) ?_
   refine rA [10] ?_
   refine ra_gc 24 (i := 10) (B := (!(!r_1))) (v := .bool r_2) (F := hS7.fn) rfl rfl rfl (uF_ 21) hS7 (fun hg2 => (Yc_func (g := 74) (vs := [vi x.Coef, vi 1, vi 7]) k_call_74 rfl (mc (gv_of (v := vi x.Coef) hg2) (mc rfl (mc rfl mn))) (CV.mono (c_impl_within x.Coef 1 7 _  (hS7.inn0 [] rfl) (gb_inv hc1 hg2)) (by rintro _ _ ⟨rfl, h⟩; exact ⟨rfl, hS7.out00 h⟩)))) ?_ ?_
   ·rintro w_3 hS8
    refine ⟨(hS8.se [0]), ?_⟩
    refine ra_gq 11 25 (B := (!(!r_1))) (v := .bool (!r_2)) rfl rfl rfl (uF_ 21) (by kernel_rfl) (by kernel_rfl) (by kernel_rfl) (hS8.se [0]) (fun hg3 w' hw' => (Y_not (p := r_2) rfl (gv_of (v := .bool r_2) hg3))) ?_
    refine rq 12 26 (v := .bool ((!r_1) || (!r_2))) rfl (hS8.se [0]) (fun w' hw' => (Y_or (b := (!r_1)) (z := (!r_2)) rfl rfl rfl rfl)) ?_
    refine rq 13 27 (v := .bool ((!r_1) || (!r_2))) rfl (hS8.se [0]) (fun w' hw' => (Y_move (v := .bool ((!r_1) || (!r_2))) rfl rfl)) ?_
    refine ra_gq 14 28 (B := (!((!r_1) || (!r_2)))) (v := vi (i : Int)) rfl rfl rfl (uF_ 27) (by kernel_rfl) (by kernel_rfl) (by kernel_rfl) (hS8.se [0]) (fun hg4 w' hw' => (Y_move (v := vi (i : Int)) rfl rfl)) ?_
    refine ra_gq 15 29 (B := (!((!r_1) || (!r_2)))) (v := .bool (decide (0 < (i : Int)))) rfl rfl rfl (uF_ 27) (by kernel_rfl) (by kernel_rfl) (by kernel_rfl) (hS8.se [0]) (fun hg5 w' hw' => (Y_gt (k := .i64) (a := (i : Int)) (b := 0) rfl (gv_of (v := vi (i : Int)) hg5) rfl)) ?_
    refine ra_gq 16 30 (B := (!((!r_1) || (!r_2)))) (v := .bool (decide (0 < (i : Int)))) rfl rfl rfl (uF_ 27) (by kernel_rfl) (by kernel_rfl) (by kernel_rfl) (hS8.se [0]) (fun hg6 w' hw' => (Y_move (v := .bool (decide (0 < (i : Int)))) rfl (gv_of (v := .bool (decide (0 < (i : Int)))) hg6))) ?_
    refine ra_gq 17 31 (B := ((!((!r_1) || (!r_2))) && (decide (0 < (i : Int))))) (v := .slice B terms.length c) rfl rfl rfl (wt_gt (gd_of (t := 30) (by kernel_rfl) rfl)) (by kernel_rfl) (by kernel_rfl) (by kernel_rfl) (hS8.se [0]) (fun hg7 w' hw' => (Y_move (v := .slice B terms.length c) rfl (hf.get 1 1 rfl))) ?_
    refine ra_gq 18 32 (B := ((!((!r_1) || (!r_2))) && (decide (0 < (i : Int))))) (v := vi (i : Int)) rfl rfl rfl (wt_gt (gd_of (t := 30) (by kernel_rfl) rfl)) (by kernel_rfl) (by kernel_rfl) (by kernel_rfl) (hS8.se [0]) (fun hg8 w' hw' => (Y_move (v := vi (i : Int)) rfl rfl)) ?_
    refine ra_gq 19 33 (B := ((!((!r_1) || (!r_2))) && (decide (0 < (i : Int))))) (v := vi (i64.wrap ((i : Int) - 1))) rfl rfl rfl (wt_gt (gd_of (t := 30) (by kernel_rfl) rfl)) (by kernel_rfl) (by kernel_rfl) (by kernel_rfl) (hS8.se [0]) (fun hg9 w' hw' => (Y_sub (k := .i64) (a := (i : Int)) (b := 1) rfl (gv_of (v := vi (i : Int)) hg9) rfl)) ?_
    refine ra_gq 20 34 (B := ((!((!r_1) || (!r_2))) && (decide (0 < (i : Int))))) (v := pt B ((i64.wrap ((i : Int) - 1)).toNat * 2)) rfl rfl rfl (wt_gt (gd_of (t := 30) (by kernel_rfl) rfl)) (by kernel_rfl) (by kernel_rfl) (by kernel_rfl) (hS8.se [0]) (fun hg10 w' hw' => (Y_index (B := B) (m := terms.length) (c := c) (k := .i64) (i := (i64.wrap ((i : Int) - 1))) k_sl_65_136 k_sz_136_2 rfl (gv_of (v := .slice B terms.length c) hg10) (gv_of (v := vi (i64.wrap ((i : Int) - 1))) hg10) (gi_isSome eN1 rfl (ST.rf hw' (i := 0) rfl) (gb_inv hx1 hg10)) (getI_nn (gb_inv hx1 hg10)) (getI_ltI (gb_inv hx1 hg10) rfl))) ?_
    refine ra_gq 21 35 (B := ((!((!r_1) || (!r_2))) && (decide (0 < (i : Int))))) (v := pt B ((i64.wrap ((i : Int) - 1)).toNat * 2 + 0)) rfl rfl rfl (wt_gt (gd_of (t := 30) (by kernel_rfl) rfl)) (by kernel_rfl) (by kernel_rfl) (by kernel_rfl) (hS8.se [0]) (fun hg11 w' hw' => (Y_fieldAddr (B := B) (i := (i64.wrap ((i : Int) - 1)).toNat * 2) (s := 0) k_fd_136_0_0_3 k_sz_3_1 rfl (gv_of (v := pt B ((i64.wrap ((i : Int) - 1)).toNat * 2)) hg11))) ?_
    refine ra_gq 22 36 (B := ((!((!r_1) || (!r_2))) && (decide (0 < (i : Int))))) (v := vi x1.Mask) rfl rfl rfl (wt_gt (gd_of (t := 30) (by kernel_rfl) rfl)) (by kernel_rfl) (by kernel_rfl) (by kernel_rfl) (hS8.se [0]) (fun hg12 w' hw' => (Y_load1 (B := B) (i := (i64.wrap ((i : Int) - 1)).toNat * 2 + 0) (cs := (terms.flatMap eN0)) (v := vi x1.Mask) k_sc_3 rfl (gv_of (v := pt B ((i64.wrap ((i : Int) - 1)).toNat * 2 + 0)) hg12) (ST.rf hw' (i := 0) rfl) (gi_at eN1 (gb_inv hx1 hg12) rfl))) ?_
    refine ra_gq 23 37 (B := ((!((!r_1) || (!r_2))) && (decide (0 < (i : Int))))) (v := pt (aD b) 0) rfl rfl rfl (wt_gt (gd_of (t := 30) (by kernel_rfl) rfl)) (by kernel_rfl) (by kernel_rfl) (by kernel_rfl) (hS8.se [0]) (fun hg13 w' hw' => (Y_fieldAddr (B := aD b) (i := 0) (s := 0) k_fd_136_0_0_3 k_sz_3_1 rfl rfl)) ?_
    refine ra_gq 24 38 (B := ((!((!r_1) || (!r_2))) && (decide (0 < (i : Int))))) (v := vi x.Mask) rfl rfl rfl (wt_gt (gd_of (t := 30) (by kernel_rfl) rfl)) (by kernel_rfl) (by kernel_rfl) (by kernel_rfl) (hS8.se [0]) (fun hg14 w' hw' => (Y_load1 (B := aD b) (i := 0) (cs := [vi x.Mask, vi x.Coef]) (v := vi x.Mask) k_sc_3 rfl (gv_of (v := pt (aD b) 0) hg14) (ST.cf hw' (i := 0) rfl) rfl)) ?_
    refine ra_gq 25 39 (B := ((!((!r_1) || (!r_2))) && (decide (0 < (i : Int))))) (v := .bool (decide (x.Mask ≤ x1.Mask))) rfl rfl rfl (wt_gt (gd_of (t := 30) (by kernel_rfl) rfl)) (by kernel_rfl) (by kernel_rfl) (by kernel_rfl) (hS8.se [0]) (fun hg15 w' hw' => (Y_ge (k := .i64) (a := x1.Mask) (b := x.Mask) rfl (gv_of (v := vi x1.Mask) hg15) (gv_of (v := vi x.Mask) hg15))) ?_
    refine ra_gq 26 40 (B := (!((!r_1) || (!r_2)))) (v := .bool ((decide (0 < (i : Int))) && (decide (x.Mask ≤ x1.Mask)))) rfl rfl rfl (uF_ 27) (by kernel_rfl) (by kernel_rfl) (by kernel_rfl) (hS8.se [0]) (fun hg16 w' hw' => (Y_and (b := (decide (0 < (i : Int)))) (z := (decide (x.Mask ≤ x1.Mask))) rfl (gv_of (v := .bool (decide (0 < (i : Int)))) hg16) (gv_and (B := (!((!r_1) || (!r_2)))) (C := (decide (0 < (i : Int)))) (v := .bool (decide (x.Mask ≤ x1.Mask))) hg16) rfl)) ?_
    refine rq 27 41 (v := .bool (((!r_1) || (!r_2)) || ((decide (0 < (i : Int))) && (decide (x.Mask ≤ x1.Mask))))) rfl (hS8.se [0]) (fun w' hw' => (Y_or (b := ((!r_1) || (!r_2))) (z := ((decide (0 < (i : Int))) && (decide (x.Mask ≤ x1.Mask)))) rfl rfl rfl rfl)) ?_
    refine ra_done (by kernel_rfl) ?_
    refine cw_cond (b := (((!r_1) || (!r_2)) || ((decide (0 < (i : Int))) && (decide (x.Mask ≤ x1.Mask))))) rfl (fun hb1 => ?_) (fun hb1 => ?_)
    ·skip
     have hF2 := ct hb hb1
     refine cw_seq (cw_region ?_)
     refine sQ 4 (Y_assign (v := .bool false) rfl rfl) (rw_nil (cw_ret ?_))
     obtain rfl := some_inj hF2
     obtain rfl := some_inj hL1
     obtain rfl := some_inj hF1
     exact ret1 Tryz.results178 (v1 := .bool false) (resAt_tmp rfl) ⟨rfl, (hS8.sN [])⟩
    ·skip
     have hF3 := cf' hb hb1
     refine cw_skip (cw_region ?_)
     refine sQ 42 (Y_add (k := .i64) (a := (i : Int)) (b := 1) rfl (hf.get 9 4 rfl) rfl) ?_
     refine sQ 9 (Y_move (v := vi (i64.wrap ((i : Int) + 1))) rfl rfl) (rw_nil ?_)
     obtain rfl := some_inj hF3
     exact ⟨k_1, Nat.lt_succ_self _, i + 1, (FF.cons (hf.get 0 0 rfl) (FF.cons (hf.get 1 1 rfl) (FF.cons (hf.get 7 2 rfl) (FF.cons (hf.get 8 3 rfl) (FF.cons (congrArg (Value.int .i64) (wr_succ hlt1 hN)) FF.nil))))), (hS8.sel [] rfl rfl), (by omega), hL1⟩
   exact allR_nil
  exact allR_nil
 ·skip
  obtain rfl : k_ = 0 := by have h := of_decide_eq_false hlt; omega
  refine cw_exit rfl ?_
  obtain rfl := some_inj hL
  refine cw_seq (cw_region ?_)
  refine sQ 4 (Y_assign (v := .bool true) rfl rfl) (rw_nil (cw_ret ?_))
  obtain rfl := some_inj hF1
  exact ret1 Tryz.results178 (v1 := .bool true) (resAt_tmp rfl) ⟨rfl, (hS1.sN [])⟩

theorem c_slices_IndexFunc_int_int (s : List Int) (f_ : Int → Option (Bool)) (B : Option Addr) (c n : Nat) (kf : Nat) (caps : Array Value) (Rf : List Ro) (w0 : World) (hn : s.length = n) (hk : callB Tryz.prog kf = true) (hp : ∀ (w : World), ST w [] w [] Rf → ∀ (x : Int) (y : Bool), f_ x = some y → CV Tryz.prog kf ((vi x) :: caps.toList).toArray w (fun v w' => v = .bool y ∧ ST w [] w' [] [])) (hS : ST w0 [] w0 [] (⟨B, (s.flatMap encI)⟩ :: Rf)) {r_ : Int} (hF : F_slices_IndexFunc_int_int s f_ = some r_) :
  CV Tryz.prog 239 #[.slice B n c, .func (.func kf) #[] caps] w0 (fun v w' => v = vi r_ ∧ ST w0 [] w' [] []) := by
 subst hn
 unfold F_slices_IndexFunc_int_int at hF
 refine cv_of_cw 19 Tryz.func239 rfl Tryz.ntmps239 rfl ?_
 refine cw_seq (cw_region ?_)
 refine sQ 4 (Y_assign (v := vi 0) rfl rfl) (rw_nil (cw_seq (cw_seq (cw_region ?_))))
 refine sQ 6 (Y_move (v := .slice B s.length c) rfl rfl) ?_
 refine sQ 7 (Y_len (B := B) (m := s.length) (c := c) k_sl_66_3 rfl rfl) ?_
 refine sQ 8 (Y_move (v := vi 0) rfl rfl) (rw_nil ?_)
 obtain ⟨hN, hF⟩ := chk_inv hF
 obtain ⟨z, hz, hF1⟩ := bind_inv hF
 refine cw_block ?_
 refine cw_loop (fun k f w => ∃ (i : Nat), FF f [(0, .slice B s.length c), (1, .func (.func kf) #[] caps), (7, vi (s.length : Int)), (8, vi (i : Int))] ∧ ST w0 [] w [] (⟨B, (s.flatMap encI)⟩ :: Rf) ∧ i + k = s.length ∧ forX (F_slices_IndexFunc_int_int_l1 s f_) k i () = some z) s.length ⟨0, (FF.cons rfl (FF.cons rfl (FF.cons rfl (FF.cons rfl FF.nil)))), (hS.sel [] rfl rfl), Nat.zero_add _, hz⟩ ?_
 rintro k_ f w ⟨i, hf, hS1, hik, hL⟩
 refine cw_seq (cw_region ?_)
 refine sQ 9 (Y_lt (k := .i64) (a := (i : Int)) (b := (s.length : Int)) rfl (hf.get 8 3 rfl) (hf.get 7 2 rfl)) (rw_nil (cw_seq ?_))
 refine cw_cond (b := (decide ((i : Int) < (s.length : Int)))) rfl (fun hlt => ?_) (fun hlt => ?_)
 ·skip
  have hlt1 : i < s.length := by have h := of_decide_eq_true hlt; omega
  obtain ⟨k_1, rfl⟩ : ∃ k2, k_ = k2 + 1 := ⟨k_ - 1, by omega⟩
  obtain ⟨y1, hb, hL1⟩ := forX_go hL
  unfold F_slices_IndexFunc_int_int_l1 at hb
  refine cw_skip (cw_seq (cw_block (cw_seq (cw_region ?_))))
  refine sQ 10 (Y_move (v := vi (i : Int)) rfl (hf.get 8 3 rfl)) ?_
  refine sQ 5 (Y_assign (v := vi (i : Int)) rfl rfl) (rw_nil (cw_seq (cw_region ?_)))
  refine sQ 11 (Y_move (v := .func (.func kf) #[] caps) rfl (hf.get 1 1 rfl)) ?_
  refine sQ 12 (Y_move (v := .slice B s.length c) rfl (hf.get 0 0 rfl)) ?_
  refine sQ 13 (Y_move (v := vi (i : Int)) rfl rfl) ?_
  obtain ⟨x1, hx, hb⟩ := bind_inv hb
  refine sQ 14 (Y_index (B := B) (m := s.length) (c := c) (k := .i64) (i := (i : Int)) k_sl_66_3 k_sz_3_1 rfl rfl rfl (gi_isSome encI_len rfl (hS1.rf (i := 0) rfl) hx) (getI_nn hx) (getI_ltI hx rfl)) ?_
  refine sQ 15 (Y_load1 (B := B) (i := (i : Int).toNat * 1) (cs := (s.flatMap encI)) (v := vi x1) k_sc_3 rfl rfl (hS1.rf (i := 0) rfl) (gi_at0 encI_len hx rfl)) ?_
  obtain ⟨r_1, hc, hb⟩ := bind_inv hb
  refine sc 16 rfl rfl (Yc_clos (g := kf) (vs := (vi x1) :: caps.toList) hk rfl rfl (clo_args (mc rfl mn)) (hp _ (hS1.innS (fun _ h => mOd (i := 1) h)) x1 r_1 hc)) ?_
  rintro _ w_ ⟨rfl, hd⟩
  have hS2 := hS1.out00 hd
  refine rw_nil ?_
  refine cw_cond (b := r_1) rfl (fun hb1 => ?_) (fun hb1 => ?_)
  ·skip
   have hF2 := ct hb hb1
   refine cw_seq (cw_region ?_)
   refine sQ 17 (Y_move (v := vi (i : Int)) rfl rfl) ?_
   refine sQ 4 (Y_assign (v := vi (i : Int)) rfl rfl) (rw_nil (cw_ret ?_))
   obtain rfl := some_inj hF2
   obtain rfl := some_inj hL1
   obtain rfl := some_inj hF1
   exact ret1 Tryz.results239 (v1 := vi (i : Int)) (resAt_tmp rfl) ⟨rfl, (hS2.sN [])⟩
  ·skip
   have hF3 := cf' hb hb1
   refine cw_skip (cw_region ?_)
   refine sQ 18 (Y_add (k := .i64) (a := (i : Int)) (b := 1) rfl (hf.get 8 3 rfl) rfl) ?_
   refine sQ 8 (Y_move (v := vi (i64.wrap ((i : Int) + 1))) rfl rfl) (rw_nil ?_)
   obtain rfl := some_inj hF3
   exact ⟨k_1, Nat.lt_succ_self _, i + 1, (FF.cons (hf.get 0 0 rfl) (FF.cons (hf.get 1 1 rfl) (FF.cons (hf.get 7 2 rfl) (FF.cons (congrArg (Value.int .i64) (wr_succ hlt1 hN)) FF.nil)))), (hS2.sel [] rfl rfl), (by omega), hL1⟩
 ·skip
  obtain rfl : k_ = 0 := by have h := of_decide_eq_false hlt; omega
  refine cw_exit rfl ?_
  obtain rfl := some_inj hL
  refine cw_seq (cw_region ?_)
  refine sQ 4 (Y_assign (v := vi (-1)) rfl rfl) (rw_nil (cw_ret ?_))
  obtain rfl := some_inj hF1
  exact ret1 Tryz.results239 (v1 := vi (-1)) (resAt_tmp rfl) ⟨rfl, (hS1.sN [])⟩

theorem c_slices_ContainsFunc_int_int (s : List Int) (f_ : Int → Option (Bool)) (B : Option Addr) (c n : Nat) (kf : Nat) (caps : Array Value) (Rf : List Ro) (w0 : World) (hn : s.length = n) (hk : callB Tryz.prog kf = true) (hp : ∀ (w : World), ST w [] w [] Rf → ∀ (x : Int) (y : Bool), f_ x = some y → CV Tryz.prog kf ((vi x) :: caps.toList).toArray w (fun v w' => v = .bool y ∧ ST w [] w' [] [])) (hS : ST w0 [] w0 [] (⟨B, (s.flatMap encI)⟩ :: Rf)) {r_ : Bool} (hF : F_slices_ContainsFunc_int_int s f_ = some r_) :
  CV Tryz.prog 201 #[.slice B n c, .func (.func kf) #[] caps] w0 (fun v w' => v = .bool r_ ∧ ST w0 [] w' [] []) := by
 subst hn
 unfold F_slices_ContainsFunc_int_int at hF
 refine cv_of_cw 9 Tryz.func201 rfl Tryz.ntmps201 rfl ?_
 refine cw_seq (cw_region ?_)
 refine sQ 4 (Y_assign (v := .bool false) rfl rfl) (rw_nil (cw_seq (cw_region ?_)))
 refine sQ 5 (Y_move (v := .slice B s.length c) rfl rfl) ?_
 refine sQ 6 (Y_move (v := .func (.func kf) #[] caps) rfl rfl) ?_
 obtain ⟨r_1, hc, hF⟩ := bind_inv hF
 refine sc 7 rfl rfl (Yc_func (g := 239) (vs := [.slice B s.length c, .func (.func kf) #[] caps]) k_call_239 rfl (mc rfl (mc rfl mn)) (c_slices_IndexFunc_int_int s f_ B c s.length kf caps Rf _ rfl hk hp (hS.innS (subc (mem_at (i := 0) rfl) (fun _ h => mOd (i := 1) h))) hc)) ?_
 rintro _ w_ ⟨rfl, hd⟩
 have hS1 := hS.out00 hd
 refine sQ 8 (Y_ge (k := .i64) (a := r_1) (b := 0) rfl rfl rfl) ?_
 refine sQ 4 (Y_assign (v := .bool (decide (0 ≤ r_1))) rfl rfl) (rw_nil (cw_ret ?_))
 obtain rfl := some_inj hF
 exact ret1 Tryz.results201 (v1 := .bool (decide (0 ≤ r_1))) (resAt_tmp rfl) ⟨rfl, (hS1.sN [])⟩

theorem c_impl_IsValidLinear_1 (row : Int) (p : Int) (B : Option Addr) (w0 : World)  (hS : ST w0 [] w0 [] [⟨B, [vi p]⟩]) {r_ : Bool} (hF : F_impl_IsValidLinear_1 row p = some r_) :
  CV Tryz.prog 228 #[vi row, pt B 0] w0 (fun v w' => v = .bool r_ ∧ ST w0 [] w' [] []) := by
 unfold F_impl_IsValidLinear_1 at hF
 refine cv_of_cw 10 Tryz.func228 rfl Tryz.ntmps228 rfl ?_
 refine cw_seq (cw_region ?_)
 refine sQ 3 (Y_assign (v := .bool false) rfl rfl) (rw_nil (cw_seq (cw_region ?_)))
 refine sQ 4 (Y_move (v := vi row) rfl rfl) ?_
 refine sQ 5 (Y_load1 (B := B) (i := 0) (cs := [vi p]) (v := vi p) k_sc_3 rfl rfl (hS.rf (i := 0) rfl) rfl) ?_
 obtain ⟨hsh, hF⟩ := chk_inv hF
 refine sQ 6 (Y_shl (k := .i64) (a := 1) (k' := .i64) (b := p) rfl rfl rfl hsh) ?_
 refine sQ 7 (Y_sub (k := .i64) (a := (shlK .i64 1 p)) (b := 1) rfl rfl rfl) ?_
 obtain ⟨r_1, hc, hF⟩ := bind_inv hF
 refine sc 8 rfl rfl (Yc_func (g := 74) (vs := [vi row, vi 0, vi (i64.wrap ((shlK .i64 1 p) - 1))]) k_call_74 rfl (mc rfl (mc rfl (mc rfl mn))) (c_impl_within row 0 (i64.wrap ((shlK .i64 1 p) - 1)) _  (hS.inn0 [] rfl) hc)) ?_
 rintro _ w_ ⟨rfl, hd⟩
 have hS1 := hS.out00 hd
 refine sQ 9 (Y_not (p := r_1) rfl rfl) ?_
 refine sQ 3 (Y_assign (v := .bool (!r_1)) rfl rfl) (rw_nil (cw_ret ?_))
 obtain rfl := some_inj hF
 exact ret1 Tryz.results228 (v1 := .bool (!r_1)) (resAt_tmp rfl) ⟨rfl, (hS1.sN [])⟩

theorem c_slices_Clone_int_int (s : List Int) (B : Option Addr) (c n : Nat) (w0 : World) (hn : s.length = n) (hS : ST w0 [] w0 [] [⟨B, (s.flatMap encI)⟩]) {r_ : List Int} (hF : F_slices_Clone_int_int s = some r_) :
  CV Tryz.prog 188 #[.slice B n c] w0 (fun v w' => ∃ (B1 : Option Addr) (c1 : Nat), v = .slice B1 r_.length c1 ∧ ST w0 [] w' [⟨B1, 3, (r_.flatMap encI), c1 * 1⟩] []) := by
 subst hn
 unfold F_slices_Clone_int_int at hF
 refine cv_of_cw 8 Tryz.func188 rfl Tryz.ntmps188 rfl ?_
 refine cw_seq (cw_region ?_)
 refine sQ 2 (Y_assign (v := .slice none 0 0) rfl rfl) (rw_nil (cw_seq (cw_seq (cw_region ?_))))
 refine sQ 3 (Y_move (v := .slice B s.length c) rfl rfl) ?_
 refine sQ 4 (Y_nileql (B := B) (m := s.length) (c := c) k_sl_66_3 rfl rfl rfl) (rw_nil ?_)
 refine cw_cond (b := B.isNone) rfl (fun hb => ?_) (fun hb => ?_)
 ·skip
  have hl : s = [] := nil_cont encI_len (hS.rf (i := 0) rfl) rfl hb
  rw [hl] at hF
  have hF1 : (some ([])) = some r_ := by simpa [chk] using hF
  subst hl
  refine cw_seq (cw_region ?_)
  refine sQ 2 (Y_assign (v := .slice none 0 0) rfl rfl) (rw_nil (cw_ret ?_))
  have hS1 := hS.addNil 3
  obtain rfl := some_inj hF1
  exact ret1 Tryz.results188 (v1 := .slice none 0 0) (resAt_tmp rfl) ⟨none, 0, rfl, (hS1.sN [0])⟩
 ·skip
  refine cw_skip (cw_seq (cw_region ?_))
  refine sS 5 (Ys_bslice0 (s := 1) (e := 3) hS k_sl_66_3 k_sz_3_1 rfl) ?_
  rintro _ w_ ⟨b, rfl, hS2⟩
  refine sQ 6 (Y_move (v := .slice B s.length c) rfl rfl) ?_
  obtain ⟨hap, hF⟩ := chk_inv hF
  refine sS 7 (Ys_append (s := 1) (by' := 8) (i := 0) (nn := 0) (c := 0) (k := s.length) (len := s.length) (B := aD b) (xs := (s.flatMap encI)) (cs' := (s.flatMap encI)) hS2 k_sl_66_3 k_sz_3_1 k_by_3_8 k_zero_3 rfl (by decide) rfl rfl rfl rfl (fm_lenn (l := []) encI_len rfl) rfl (hS2.rf (i := 0) rfl) (fm_lenn (l := s) encI_len rfl) (fm_one' (enc := encI) encI_one s) (by have := hap; omega) (by have := hap; simp only [maxLen]; omega) rfl (app_len0 (l := s) rfl)) ?_
  rintro _ w_1 ⟨B2, c2, rfl, hS3⟩
  refine sQ 2 (Y_assign (v := .slice B2 s.length c2) rfl rfl) (rw_nil (cw_ret ?_))
  obtain rfl := some_inj hF
  exact ret1 Tryz.results188 (v1 := .slice B2 s.length c2) (resAt_tmp rfl) ⟨B2, c2, rfl, (hS3.sN [0])⟩

theorem c_impl_rankOf_1 (row : Int) (p : Int) (B : Option Addr) (w0 : World)  (hS : ST w0 [] w0 [] [⟨B, [vi p]⟩]) {r_ : Bool} (hF : F_impl_rankOf_1 row p = some r_) :
  CV Tryz.prog 249 #[vi row, pt B 0] w0 (fun v w' => v = .bool r_ ∧ ST w0 [] w' [] []) := by
 unfold F_impl_rankOf_1 at hF
 refine cv_of_cw 9 Tryz.func249 rfl Tryz.ntmps249 rfl ?_
 refine cw_seq (cw_region ?_)
 refine sQ 3 (Y_assign (v := .bool false) rfl rfl) (rw_nil (cw_seq (cw_region ?_)))
 refine sQ 4 (Y_move (v := vi row) rfl rfl) ?_
 refine sQ 5 (Y_load1 (B := B) (i := 0) (cs := [vi p]) (v := vi p) k_sc_3 rfl rfl (hS.rf (i := 0) rfl) rfl) ?_
 obtain ⟨hsh, hF⟩ := chk_inv hF
 refine sQ 6 (Y_shr (k := .i64) (a := row) (k' := .i64) (b := p) rfl rfl rfl hsh) ?_
 refine sQ 7 (Y_band (k := .i64) (a := (shrK .i64 row p)) (b := 1) rfl rfl rfl) ?_
 refine sQ 8 (Y_eq (k := .i64) (a := (bits .and .i64 (shrK .i64 row p) 1)) (b := 1) rfl rfl rfl) ?_
 refine sQ 3 (Y_assign (v := .bool ((bits .and .i64 (shrK .i64 row p) 1) == 1)) rfl rfl) (rw_nil (cw_ret ?_))
 obtain rfl := some_inj hF
 exact ret1 Tryz.results249 (v1 := .bool ((bits .and .i64 (shrK .i64 row p) 1) == 1)) (resAt_tmp rfl) ⟨rfl, (hS.sN [])⟩

theorem c_slices_Delete_int_int (s : List Int) (i : Int) (j : Int) (B : Option Addr) (c n : Nat) (w0 : World) (hn : s.length = n) (hS : ST w0 (bl [⟨B, 3, (s.flatMap encI), c * 1⟩]) w0 [⟨B, 3, (s.flatMap encI), c * 1⟩] []) {r_ : List Int} (hF : F_slices_Delete_int_int s i j = some r_) :
  CV Tryz.prog 250 #[.slice B n c, vi i, vi j] w0 (fun v w' => ∃ (B1 : Option Addr) (c1 : Nat), v = .slice B1 r_.length c1 ∧ ST w0 (bl [⟨B, 3, (s.flatMap encI), c * 1⟩]) w' [⟨B1, 3, (r_.flatMap encI), c1 * 1⟩] []) := by
 subst hn
 unfold F_slices_Delete_int_int at hF
 refine cv_of_cw 33 Tryz.func250 rfl Tryz.ntmps250 rfl ?_
 refine cw_seq (cw_region ?_)
 refine sQ 6 (Y_assign (v := .slice none 0 0) rfl rfl) (rw_nil (cw_seq (cw_region ?_)))
 refine sQ 8 (Y_move (v := .slice B s.length c) rfl rfl) ?_
 refine sQ 9 (Y_move (v := vi i) rfl rfl) ?_
 refine sQ 10 (Y_move (v := vi j) rfl rfl) ?_
 refine sQ 11 (Y_move (v := .slice B s.length c) rfl rfl) ?_
 refine sQ 12 (Y_len (B := B) (m := s.length) (c := c) k_sl_66_3 rfl rfl) ?_
 obtain ⟨hsl, hF⟩ := chk_inv hF
 have hcap : s.length ≤ c := hS.lencap (i := 0) rfl (fm_lenn (l := s) encI_len rfl) rfl rfl
 refine sQ 13 (Y_slice (B := B) (m := s.length) (c := c) (l := i.toNat) (h := j.toNat) (q := s.length) (s := 1) k_sl_66_3 k_sz_3_1 rfl rfl ⟨_, _, rfl, rfl⟩ ⟨_, _, rfl, (Int.toNat_of_nonneg (by omega)).symm⟩ ⟨_, _, rfl, (Int.toNat_of_nonneg (by omega)).symm⟩ rfl (by omega) (by omega) (by omega)) (rw_nil (cw_seq (cw_seq (cw_region ?_))))
 refine sQ 14 (Y_move (v := vi i) rfl rfl) ?_
 refine sQ 15 (Y_move (v := vi j) rfl rfl) ?_
 refine sQ 16 (Y_eq (k := .i64) (a := i) (b := j) rfl rfl rfl) (rw_nil ?_)
 refine cw_cond (b := (i == j)) rfl (fun hb => ?_) (fun hb => ?_)
 ·skip
  have hF1 := ct hF hb
  refine cw_seq (cw_region ?_)
  refine sQ 17 (Y_move (v := .slice B s.length c) rfl rfl) ?_
  refine sQ 6 (Y_assign (v := .slice B s.length c) rfl rfl) (rw_nil (cw_ret ?_))
  obtain rfl := some_inj hF1
  exact ret1 Tryz.results250 (v1 := .slice B s.length c) (resAt_tmp rfl) ⟨B, c, rfl, (hS.sN [0])⟩
 ·skip
  have hF2 := cf' hF hb
  refine cw_skip (cw_seq (cw_region ?_))
  refine sQ 18 (Y_move (v := .slice B s.length c) rfl rfl) ?_
  refine sQ 19 (Y_len (B := B) (m := s.length) (c := c) k_sl_66_3 rfl rfl) ?_
  refine sQ 7 (Y_assign (v := vi (s.length : Int)) rfl rfl) (rw_nil (cw_seq ?_))
  obtain ⟨hij, hF2⟩ := chk_inv hF2
  refine ra_start (hS.se []).fn (by kernel_rfl) ?_
  have hS1 := hS.drew
  refine rq 0 20 (v := .slice B s.length c) rfl (hS1.se []) (fun w' hw' => (Y_move (v := .slice B s.length c) rfl rfl)) ?_
  refine rq 1 21 (v := vi i) rfl (hS1.se []) (fun w' hw' => (Y_move (v := vi i) rfl rfl)) ?_
  refine rq 2 22 (v := .slice (sv B 0 c 1) (i.toNat - 0) (c - 0)) rfl (hS1.se []) (fun w' hw' => (Y_slice (B := B) (m := s.length) (c := c) (l := 0) (h := i.toNat) (q := c) (s := 1) k_sl_66_3 k_sz_3_1 rfl rfl rfl ⟨_, _, rfl, (Int.toNat_of_nonneg (by omega)).symm⟩ rfl rfl (by omega) (by omega) (by omega))) ?_
  refine rq 3 23 (v := .slice B s.length c) rfl (hS1.se []) (fun w' hw' => (Y_move (v := .slice B s.length c) rfl rfl)) ?_
  refine rq 4 24 (v := vi j) rfl (hS1.se []) (fun w' hw' => (Y_move (v := vi j) rfl rfl)) ?_
  refine rq 5 25 (v := .slice (sv B j.toNat c 1) (s.length - j.toNat) (c - j.toNat)) rfl (hS1.se []) (fun w' hw' => (Y_slice (B := B) (m := s.length) (c := c) (l := j.toNat) (h := s.length) (q := c) (s := 1) k_sl_66_3 k_sz_3_1 rfl rfl rfl rfl ⟨_, _, rfl, (Int.toNat_of_nonneg (by omega)).symm⟩ rfl (by omega) (by omega) (by omega))) ?_
  refine rA [6] ?_
  refine ra_s 26 (i := 6) rfl rfl rfl (Ys_cut (enc := encI) (s := 1) (k := 0) (i := i.toNat) (j := j.toNat) (m := s.length) (c := c) (B := B) (l := s) hS1 k_sl_66_3 k_sz_3_1 rfl rfl rfl rfl rfl rfl encI_len encI_one (by omega) (by omega)) ?_ ?_
  ·rintro _ w_ ⟨rfl, hS2⟩
   refine ⟨(hS2.se []), ?_⟩
   refine rq 7 0 (v := .slice B (i.toNat + (s.length - j.toNat)) c) rfl (hS2.se []) (fun w' hw' => (Y_assign (v := .slice B (i.toNat + (s.length - j.toNat)) c) rfl rfl)) ?_
   refine ra_done (by kernel_rfl) ?_
   refine cw_seq (cw_region ?_)
   refine sQ 27 (Y_move (v := .slice B (i.toNat + (s.length - j.toNat)) c) rfl rfl) ?_
   refine sQ 28 (Y_move (v := .slice B (i.toNat + (s.length - j.toNat)) c) rfl rfl) ?_
   refine sQ 29 (Y_len (B := B) (m := (i.toNat + (s.length - j.toNat))) (c := c) k_sl_66_3 rfl rfl) ?_
   refine sQ 30 (Y_move (v := vi (s.length : Int)) rfl rfl) ?_
   refine sQ 31 (Y_slice (B := B) (m := (i.toNat + (s.length - j.toNat))) (c := c) (l := (i.toNat + (s.length - j.toNat))) (h := s.length) (q := c) (s := 1) k_sl_66_3 k_sz_3_1 rfl rfl rfl ⟨_, _, rfl, rfl⟩ ⟨_, _, rfl, rfl⟩ rfl (by omega) (by omega) (by omega)) ?_
   refine s0 (Ys_clear (s := 1) (k := 0) (p := (i.toNat + (s.length - j.toNat))) (h := s.length) (c := c) (m := c * 1) (B := B) (cs := ((List.take i.toNat s ++ List.drop j.toNat s).flatMap encI)) (z := vi 0) hS2 k_sl_66_3 k_sz_3_1 rfl k_zero_3 rfl rfl rfl rfl rfl (fm_lenn (l := (List.take i.toNat s ++ List.drop j.toNat s)) encI_len (cut_len rfl (by omega))) rfl (by omega) (by omega)) ?_
   rintro _ w_1 ⟨rfl, hS3⟩
   refine rw_nil (cw_seq (cw_region ?_))
   refine sQ 32 (Y_move (v := .slice B (i.toNat + (s.length - j.toNat)) c) rfl rfl) ?_
   refine sQ 6 (Y_assign (v := .slice B (i.toNat + (s.length - j.toNat)) c) rfl rfl) (rw_nil (cw_ret ?_))
   obtain rfl := some_inj hF2
   exact ret1 Tryz.results250 (v1 := .slice B (i.toNat + (s.length - j.toNat)) c) (resAt_tmp rfl) ⟨B, c, (sl_eqv (cut_len rfl (by omega))), (hS3.sN [0])⟩
  exact allR_nil

theorem c_impl_rankOf (rows : List Int) (B : Option Addr) (c n : Nat) (w0 : World) (hn : rows.length = n) (hS : ST w0 [] w0 [] [⟨B, (rows.flatMap encI)⟩]) {r_ : Int} (hF : F_impl_rankOf rows = some r_) :
  CV Tryz.prog 229 #[.slice B n c] w0 (fun v w' => v = vi r_ ∧ ST w0 [] w' [] []) := by
 subst hn
 unfold F_impl_rankOf at hF
 refine cv_of_cw 52 Tryz.func229 rfl Tryz.ntmps229 rfl ?_
 refine cw_seq (cw_region ?_)
 refine sQ 2 (Y_assign (v := vi 0) rfl rfl) (rw_nil (cw_seq (cw_region ?_)))
 refine sQ 10 (Y_move (v := .slice B rows.length c) rfl rfl) ?_
 obtain ⟨r_1, hc, hF⟩ := bind_inv hF
 refine sc 11 rfl rfl (Yc_func (g := 188) (vs := [.slice B rows.length c]) k_call_188 rfl (mc rfl mn) (c_slices_Clone_int_int rows B c rows.length _ rfl (hS.inn0 [(true, 0)] rfl) hc)) ?_
 rintro _ w_ ⟨B1, c1, rfl, hd⟩
 have hS1 := hS.out0 hd
 refine sQ 3 (Y_assign (v := .slice B1 r_1.length c1) rfl rfl) ?_
 refine sQ 4 (Y_assign (v := vi 0) rfl rfl) (rw_nil (cw_seq (cw_seq (cw_region ?_))))
 refine sQ 12 (Y_move (v := vi 0) rfl rfl) (rw_nil ?_)
 obtain ⟨z, hz, hF1⟩ := bind_inv hF
 refine cw_block ?_
 refine cw_loop (fun k f w => ∃ (i : Nat) (left : List Int) (rank : Int) (B2 : Option Addr) (c2 : Nat), FF f [(3, .slice B2 left.length c2), (4, vi rank), (12, vi (i : Int))] ∧ ST w0 [] w [⟨B2, 3, (left.flatMap encI), c2 * 1⟩] [⟨B, (rows.flatMap encI)⟩] ∧ i + k = 10 ∧ forN F_impl_rankOf_l1 k i (left, rank) = some z) 10 ⟨0, r_1, 0, B1, c1, (FF.cons rfl (FF.cons rfl (FF.cons rfl FF.nil))), (hS1.sel [0] rfl rfl), Nat.zero_add _, hz⟩ ?_
 rintro k_ f w ⟨i, left, rank, B2, c2, hf, hS2, hik, hL⟩
 refine cw_seq (cw_region ?_)
 refine sQ 13 (Y_lt (k := .i64) (a := (i : Int)) (b := 10) rfl (hf.get 12 2 rfl) rfl) (rw_nil (cw_seq ?_))
 refine cw_cond (b := (decide ((i : Int) < 10))) rfl (fun hlt => ?_) (fun hlt => ?_)
 ·skip
  have hlt1 : i < 10 := by have h := of_decide_eq_true hlt; omega
  obtain ⟨k_1, rfl⟩ : ∃ k2, k_ = k2 + 1 := ⟨k_ - 1, by omega⟩
  obtain ⟨y, hb, hL1⟩ := forN_go hL
  unfold F_impl_rankOf_l1 at hb
  refine cw_skip (cw_seq ?_)
  obtain ⟨z1, hz1, hF2⟩ := bind_inv hb
  refine cw_mid (fun f w => ∃ (left1 : List Int) (rank1 : Int) (B3 : Option Addr) (c3 : Nat), (left1, rank1) = z1 ∧ FF f [(3, .slice B3 left1.length c3), (4, vi rank1), (12, vi (i : Int))] ∧ ST w0 [] w [⟨B3, 3, (left1.flatMap encI), c3 * 1⟩] [⟨B, (rows.flatMap encI)⟩]) ?_ ?_
  ·skip
   refine cw_block (cw_seq (cw_region ?_))
   refine sQ 14 (Y_move (v := vi (i : Int)) rfl (hf.get 12 2 rfl)) ?_
   refine sS 5 (Ys_alloc (T := 3) (cs := [vi 0]) (m := 1) hS2 k_zero_3 rfl rfl rfl) ?_
   rintro _ w_1 ⟨b, rfl, hS4⟩
   refine s0 (Ys_store (i := 1) (s := 1) (B := aD b) (T' := 3) (v := vi (i : Int)) (vs := [vi (i : Int)]) (k := 0) (cs' := [vi (i : Int)]) hS4 k_sz_3_1 rfl rfl rfl rfl rfl rfl rfl (lB rfl) rfl rfl) ?_
   rintro _ w_2 ⟨rfl, hS5⟩
   refine rw_nil (cw_seq (cw_region ?_))
   refine sQ 15 (Y_move (v := .slice B2 left.length c2) rfl (hf.get 3 0 rfl)) ?_
   refine sQ 16 (Y_makeFunc (cs := [pt (aD b) 0]) rfl rfl (mc rfl mn)) ?_
   obtain ⟨r_2, hc1, hz1⟩ := bind_inv hz1
   refine sc 17 rfl rfl (Yc_func (g := 239) (vs := [.slice B2 left.length c2, .func (.func 249) #[] #[pt (aD b) 0]]) k_call_239 rfl (mc rfl (mc rfl mn)) (c_slices_IndexFunc_int_int left (fun x_0 => F_impl_rankOf_1 x_0 (i : Int)) B2 c2 left.length 249 (#[pt (aD b) 0]) [⟨aD b, [vi (i : Int)]⟩] _ rfl k_call_249 (fun w hw x_0 y_0 h_ => c_impl_rankOf_1 x_0 (i : Int) (aD b) w  hw h_) (hS5.inn0 [(false, 0), (false, 1)] rfl) hc1)) ?_
   rintro _ w_3 ⟨rfl, hd1⟩
   have hS6 := hS5.out00 hd1
   refine sQ 6 (Y_assign (v := vi r_2) rfl rfl) (rw_nil (cw_seq (cw_seq (cw_region ?_))))
   refine sQ 18 (Y_move (v := vi r_2) rfl rfl) ?_
   refine sQ 19 (Y_lt (k := .i64) (a := r_2) (b := 0) rfl rfl rfl) (rw_nil ?_)
   refine cw_cond (b := (decide (r_2 < 0))) rfl (fun hb1 => ?_) (fun hb1 => ?_)
   ·skip
    have hF3 := ct hz1 hb1
    refine cw_exit rfl ?_
    exact ⟨left, rank, B2, c2, (some_inj hF3), (FF.cons (hf.get 3 0 rfl) (FF.cons (hf.get 4 1 rfl) (FF.cons (hf.get 12 2 rfl) FF.nil))), (hS6.sel [0] rfl rfl)⟩
   ·skip
    have hF4 := cf' hz1 hb1
    refine cw_skip (cw_seq (cw_region ?_))
    refine sQ 20 (Y_move (v := .slice B2 left.length c2) rfl (hf.get 3 0 rfl)) ?_
    refine sQ 21 (Y_move (v := vi r_2) rfl rfl) ?_
    obtain ⟨x, hx, hF4⟩ := bind_inv hF4
    refine sQ 22 (Y_index (B := B2) (m := left.length) (c := c2) (k := .i64) (i := r_2) k_sl_66_3 k_sz_3_1 rfl rfl rfl (gi_isSome encI_len rfl (hS6.cf (i := 0) rfl) hx) (getI_nn hx) (getI_ltI hx rfl)) ?_
    refine sQ 23 (Y_load1 (B := B2) (i := r_2.toNat * 1) (cs := (left.flatMap encI)) (v := vi x) k_sc_3 rfl rfl (hS6.cf (i := 0) rfl) (gi_at0 encI_len hx rfl)) ?_
    refine sQ 7 (Y_assign (v := vi x) rfl rfl) (rw_nil (cw_seq (cw_region ?_)))
    refine sQ 24 (Y_move (v := .slice B2 left.length c2) rfl (hf.get 3 0 rfl)) ?_
    refine sQ 25 (Y_move (v := vi r_2) rfl rfl) ?_
    refine sQ 26 (Y_move (v := vi r_2) rfl rfl) ?_
    refine sQ 27 (Y_add (k := .i64) (a := r_2) (b := 1) rfl rfl rfl) ?_
    obtain ⟨r_3, hc2, hF4⟩ := bind_inv hF4
    refine sc 28 rfl rfl (Yc_func (g := 250) (vs := [.slice B2 left.length c2, vi r_2, vi (i64.wrap (r_2 + 1))]) k_call_250 rfl (mc rfl (mc rfl (mc rfl mn))) (c_slices_Delete_int_int left r_2 (i64.wrap (r_2 + 1)) B2 c2 left.length _ rfl (hS6.inn [true, false] rfl [] rfl) hc2)) ?_
    rintro _ w_4 ⟨B4, c4, rfl, hd2⟩
    have hS7 := hS6.out [true, false] rfl hd2
    refine sQ 3 (Y_assign (v := .slice B4 r_3.length c4) rfl rfl) (rw_nil (cw_seq (cw_seq (cw_region ?_))))
    refine sQ 29 (Y_move (v := .slice B4 r_3.length c4) rfl rfl) ?_
    refine sQ 30 (Y_len (B := B4) (m := r_3.length) (c := c4) k_sl_66_3 rfl rfl) ?_
    refine sQ 31 (Y_move (v := vi 0) rfl rfl) (rw_nil ?_)
    obtain ⟨hN, hF4⟩ := chk_inv hF4
    obtain ⟨z2, hz2, hF5⟩ := bind_inv hF4
    refine cw_block ?_
    refine cw_loop (fun k f w => ∃ (i1 : Nat) (left2 : List Int), FF f [(3, .slice B4 r_3.length c4), (4, vi rank), (5, pt (aD b) 0), (7, vi x), (12, vi (i : Int)), (29, .slice B4 r_3.length c4), (30, vi (r_3.length : Int)), (31, vi (i1 : Int))] ∧ left2.length = r_3.length ∧ ST w0 [] w [⟨B4, 3, (left2.flatMap encI), c4 * 1⟩, ⟨aD b, 3, [vi (i : Int)], 1⟩] [⟨B, (rows.flatMap encI)⟩] ∧ i1 + k = r_3.length ∧ forN (F_impl_rankOf_l2 i x) k i1 left2 = some z2) r_3.length ⟨0, r_3, (FF.cons rfl (FF.cons (hf.get 4 1 rfl) (FF.cons rfl (FF.cons rfl (FF.cons (hf.get 12 2 rfl) (FF.cons rfl (FF.cons rfl (FF.cons rfl FF.nil)))))))), rfl, (hS7.sel [1, 0] rfl rfl), Nat.zero_add _, hz2⟩ ?_
    rintro k_2 f w ⟨i1, left2, hf2, hl, hS8, hik1, hL2⟩
    refine cw_seq (cw_region ?_)
    refine sQ 32 (Y_lt (k := .i64) (a := (i1 : Int)) (b := (r_3.length : Int)) rfl (hf2.get 31 7 rfl) (hf2.get 30 6 rfl)) (rw_nil (cw_seq ?_))
    refine cw_cond (b := (decide ((i1 : Int) < (r_3.length : Int)))) rfl (fun hlt2 => ?_) (fun hlt2 => ?_)
    ·skip
     have hlt3 : i1 < r_3.length := by have h := of_decide_eq_true hlt2; omega
     obtain ⟨k_3, rfl⟩ : ∃ k2, k_2 = k2 + 1 := ⟨k_2 - 1, by omega⟩
     obtain ⟨y1, hb2, hL3⟩ := forN_go hL2
     unfold F_impl_rankOf_l2 at hb2
     refine cw_skip (cw_seq ?_)
     obtain ⟨z3, hz3, hF6⟩ := bind_inv hb2
     refine cw_mid (fun f w => ∃ (left3 : List Int), left3 = z3 ∧ FF f [(3, .slice B4 r_3.length c4), (4, vi rank), (5, pt (aD b) 0), (7, vi x), (12, vi (i : Int)), (29, .slice B4 r_3.length c4), (30, vi (r_3.length : Int)), (31, vi (i1 : Int))] ∧ left3.length = r_3.length ∧ ST w0 [] w [⟨B4, 3, (left3.flatMap encI), c4 * 1⟩, ⟨aD b, 3, [vi (i : Int)], 1⟩] [⟨B, (rows.flatMap encI)⟩]) ?_ ?_
     ·skip
      refine cw_block (cw_seq (cw_region ?_))
      refine sQ 33 (Y_move (v := vi (i1 : Int)) rfl (hf2.get 31 7 rfl)) ?_
      obtain ⟨x1, hx1, hz3⟩ := bind_inv hz3
      refine sQ 34 (Y_index (B := B4) (m := r_3.length) (c := c4) (k := .i64) (i := (i1 : Int)) k_sl_66_3 k_sz_3_1 rfl (hf2.get 29 5 rfl) (hf2.get 31 7 rfl) (gi_isSome encI_len rfl (hS8.cf (i := 0) rfl) hx1) (getI_nn hx1) (getI_ltI hx1 hl)) ?_
      refine sQ 35 (Y_load1 (B := B4) (i := (i1 : Int).toNat * 1) (cs := (left2.flatMap encI)) (v := vi x1) k_sc_3 rfl rfl (hS8.cf (i := 0) rfl) (gi_at0 encI_len hx1 rfl)) ?_
      refine sQ 8 (Y_assign (v := vi (i1 : Int)) rfl rfl) ?_
      refine sQ 9 (Y_assign (v := vi x1) rfl rfl) (rw_nil (cw_seq (cw_region ?_)))
      refine sQ 36 (Y_move (v := vi x1) rfl rfl) ?_
      refine sQ 37 (Y_load1 (B := aD b) (i := 0) (cs := [vi (i : Int)]) (v := vi (i : Int)) k_sc_3 rfl (hf2.get 5 2 rfl) (hS8.cf (i := 1) rfl) rfl) ?_
      obtain ⟨hsh, hz3⟩ := chk_inv hz3
      refine sQ 38 (Y_shr (k := .i64) (a := x1) (k' := .i64) (b := (i : Int)) rfl rfl rfl hsh) ?_
      refine sQ 39 (Y_band (k := .i64) (a := (shrK .i64 x1 (i : Int))) (b := 1) rfl rfl rfl) ?_
      refine sQ 40 (Y_eq (k := .i64) (a := (bits .and .i64 (shrK .i64 x1 (i : Int)) 1)) (b := 1) rfl rfl rfl) (rw_nil ?_)
      refine cw_cond (b := ((bits .and .i64 (shrK .i64 x1 (i : Int)) 1) == 1)) rfl (fun hb3 => ?_) (fun hb3 => ?_)
      ·skip
       have hF7 := ct hz3 hb3
       refine cw_region ?_
       refine sQ 41 (Y_move (v := .slice B4 r_3.length c4) rfl (hf2.get 3 0 rfl)) ?_
       refine sQ 42 (Y_move (v := vi (i1 : Int)) rfl rfl) ?_
       refine sQ 43 (Y_move (v := vi x1) rfl rfl) ?_
       refine sQ 44 (Y_move (v := vi x) rfl (hf2.get 7 3 rfl)) ?_
       refine sQ 45 (Y_bxor (k := .i64) (a := x1) (b := x) rfl rfl rfl) ?_
       refine sQ 46 (Y_index (B := B4) (m := r_3.length) (c := c4) (k := .i64) (i := (i1 : Int)) k_sl_66_3 k_sz_3_1 rfl rfl rfl (gi_isSome encI_len rfl (hS8.cf (i := 0) rfl) hx1) (getI_nn hx1) (getI_ltI hx1 hl)) ?_
       refine s0 (Ys_store (i := 0) (s := 1) (B := B4) (T' := 3) (v := vi (bits .xor .i64 x1 x)) (vs := [vi (bits .xor .i64 x1 x)]) (k := (i1 : Int).toNat * 1) (cs' := ((left2.set (i1 : Int).toNat (bits .xor .i64 x1 x)).flatMap encI)) hS8 k_sz_3_1 rfl rfl rfl rfl rfl rfl rfl (gi_fit0 encI_len hx1) (gi_set encI_len hx1 (bits .xor .i64 x1 x) rfl) rfl) ?_
       rintro _ w_5 ⟨rfl, hS10⟩
       refine rw_nil ?_
       exact ⟨(left2.set (i1 : Int).toNat (bits .xor .i64 x1 x)), (some_inj hF7), (FF.cons (hf2.get 3 0 rfl) (FF.cons (hf2.get 4 1 rfl) (FF.cons (hf2.get 5 2 rfl) (FF.cons (hf2.get 7 3 rfl) (FF.cons (hf2.get 12 4 rfl) (FF.cons (hf2.get 29 5 rfl) (FF.cons (hf2.get 30 6 rfl) (FF.cons (hf2.get 31 7 rfl) FF.nil)))))))), (set_len _ _ _ hl), (hS10.sel [0, 1] rfl rfl)⟩
      ·skip
       have hF8 := cf' hz3 hb3
       refine cw_skip ?_
       exact ⟨left2, (some_inj hF8), (FF.cons (hf2.get 3 0 rfl) (FF.cons (hf2.get 4 1 rfl) (FF.cons (hf2.get 5 2 rfl) (FF.cons (hf2.get 7 3 rfl) (FF.cons (hf2.get 12 4 rfl) (FF.cons (hf2.get 29 5 rfl) (FF.cons (hf2.get 30 6 rfl) (FF.cons (hf2.get 31 7 rfl) FF.nil)))))))), hl, (hS8.sel [0, 1] rfl rfl)⟩
     rintro f w ⟨left3, rfl, hf3, hl1, hS9⟩
     refine cw_region ?_
     refine sQ 47 (Y_add (k := .i64) (a := (i1 : Int)) (b := 1) rfl (hf3.get 31 7 rfl) rfl) ?_
     refine sQ 31 (Y_move (v := vi (i64.wrap ((i1 : Int) + 1))) rfl rfl) (rw_nil ?_)
     obtain rfl := some_inj hF6
     exact ⟨k_3, Nat.lt_succ_self _, i1 + 1, left3, (FF.cons (hf3.get 3 0 rfl) (FF.cons (hf3.get 4 1 rfl) (FF.cons (hf3.get 5 2 rfl) (FF.cons (hf3.get 7 3 rfl) (FF.cons (hf3.get 12 4 rfl) (FF.cons (hf3.get 29 5 rfl) (FF.cons (hf3.get 30 6 rfl) (FF.cons (congrArg (Value.int .i64) (wr_succ hlt3 hN)) FF.nil)))))))), hl1, (hS9.sel [0, 1] rfl rfl), (by omega), hL3⟩
    ·skip
     obtain rfl : k_2 = 0 := by have h := of_decide_eq_false hlt2; omega
     refine cw_exit rfl ?_
     obtain rfl := some_inj hL2
     refine cw_region ?_
     refine sQ 48 (Y_move (v := vi rank) rfl (hf2.get 4 1 rfl)) ?_
     refine sQ 49 (Y_add (k := .i64) (a := rank) (b := 1) rfl rfl rfl) ?_
     refine sQ 4 (Y_assign (v := vi (i64.wrap (rank + 1))) rfl rfl) (rw_nil ?_)
     exact ⟨left2, (i64.wrap (rank + 1)), B4, c4, (some_inj hF5), (FF.cons (sl_len hl (hf2.get 3 0 rfl)) (FF.cons rfl (FF.cons (hf2.get 12 4 rfl) FF.nil))), (hS8.sel [0] rfl rfl)⟩
  rintro f w ⟨left1, rank1, B3, c3, rfl, hf1, hS3⟩
  refine cw_region ?_
  refine sQ 50 (Y_add (k := .i64) (a := (i : Int)) (b := 1) rfl (hf1.get 12 2 rfl) rfl) ?_
  refine sQ 12 (Y_move (v := vi (i64.wrap ((i : Int) + 1))) rfl rfl) (rw_nil ?_)
  obtain rfl := some_inj hF2
  exact ⟨k_1, Nat.lt_succ_self _, i + 1, left1, rank1, B3, c3, (FF.cons (hf1.get 3 0 rfl) (FF.cons (hf1.get 4 1 rfl) (FF.cons (congrArg (Value.int .i64) (wr_succ hlt1 (show 10 ≤ 9223372036854775807 by decide))) FF.nil))), (hS3.sel [0] rfl rfl), (by omega), hL1⟩
 ·skip
  obtain rfl : k_ = 0 := by have h := of_decide_eq_false hlt; omega
  refine cw_exit rfl ?_
  obtain rfl := some_inj hL
  refine cw_seq (cw_region ?_)
  refine sQ 51 (Y_move (v := vi rank) rfl (hf.get 4 1 rfl)) ?_
  refine sQ 2 (Y_assign (v := vi rank) rfl rfl) (rw_nil (cw_ret ?_))
  obtain rfl := some_inj hF1
  exact ret1 Tryz.results229 (v1 := vi rank) (resAt_tmp rfl) ⟨rfl, (hS2.sN [])⟩

theorem c_impl_IsValidLinear (m : TLinear) (B : Option Addr) (c n : Nat) (w0 : World) (hn : m.Rows.length = n) (hS : ST w0 [] w0 [] [⟨B, (m.Rows.flatMap encI)⟩]) {r_ : Bool} (hF : F_impl_IsValidLinear m = some r_) :
  CV Tryz.prog 179 #[.agg #[.slice B n c]] w0 (fun v w' => v = .bool r_ ∧ ST w0 [] w' [] []) := by
 subst hn
 unfold F_impl_IsValidLinear at hF
 refine cv_of_cw 23 Tryz.func179 rfl Tryz.ntmps179 rfl ?_
 refine cw_seq (cw_region ?_)
 refine sS 1 (Ys_box (T := 68) (v := .agg #[.slice B m.Rows.length c]) (cs := [.slice B m.Rows.length c]) (m := 1) hS rfl rfl rfl rfl) ?_
 rintro _ w_ ⟨b, rfl, hS1⟩
 refine sQ 2 (Y_assign (v := .bool false) rfl rfl) (rw_nil (cw_seq (cw_region ?_)))
 refine sQ 4 (Y_fieldAddr (B := aD b) (i := 0) (s := 0) k_fd_68_0_0_66 k_sz_66_1 rfl rfl) ?_
 refine sQ 5 (Y_load1 (B := aD b) (i := 0) (cs := [.slice B m.Rows.length c]) (v := .slice B m.Rows.length c) k_sc_66 rfl rfl (hS1.cf (i := 0) rfl) rfl) ?_
 refine sQ 6 (Y_len (B := B) (m := m.Rows.length) (c := c) k_sl_66_3 rfl rfl) ?_
 refine sS 3 (Ys_alloc (T := 3) (cs := [vi 0]) (m := 1) hS1 k_zero_3 rfl rfl rfl) ?_
 rintro _ w_1 ⟨b1, rfl, hS2⟩
 refine s0 (Ys_store (i := 1) (s := 1) (B := aD b1) (T' := 3) (v := vi (m.Rows.length : Int)) (vs := [vi (m.Rows.length : Int)]) (k := 0) (cs' := [vi (m.Rows.length : Int)]) hS2 k_sz_3_1 rfl rfl rfl rfl rfl rfl rfl (lB rfl) rfl rfl) ?_
 rintro _ w_2 ⟨rfl, hS3⟩
 refine rw_nil (cw_seq ?_)
 obtain ⟨r_1, hc, hF⟩ := bind_inv hF
 obtain ⟨r_2, hc1, hF⟩ := bind_inv hF
 obtain ⟨r_3, hc2, hF⟩ := bind_inv hF
 refine ra_start (hS3.se [0, 1]).fn (by kernel_rfl) ?_
 have hS7 := hS3.drew
 refine rq 0 7 (v := vi (m.Rows.length : Int)) rfl (hS7.se [0, 1]) (fun w' hw' => (Y_load1 (B := aD b1) (i := 0) (cs := [vi (m.Rows.length : Int)]) (v := vi (m.Rows.length : Int)) k_sc_3 rfl rfl (ST.cf hw' (i := 1) rfl) rfl)) ?_
 refine rA [1] ?_
 refine ra_c 8 (i := 1) rfl rfl rfl (Yc_func (g := 74) (vs := [vi (m.Rows.length : Int), vi 1, vi 5]) k_call_74 rfl (mc rfl (mc rfl (mc rfl mn))) (c_impl_within (m.Rows.length : Int) 1 5 _  (hS7.inn0 [] rfl) hc)) ?_ ?_
 ·rintro _ w_3 ⟨rfl, hd⟩
  have hS8 := hS7.out00 hd
  refine ⟨(hS8.se [0, 1]), ?_⟩
  refine rq 2 9 (v := .bool r_1) rfl (hS8.se [0, 1]) (fun w' hw' => (Y_move (v := .bool r_1) rfl rfl)) ?_
  refine ra_gq 3 10 (B := r_1) (v := pt (aD b) 0) rfl rfl rfl (uT_ 9) (by kernel_rfl) (by kernel_rfl) (by kernel_rfl) (hS8.se [0, 1]) (fun hg w' hw' => (Y_fieldAddr (B := aD b) (i := 0) (s := 0) k_fd_68_0_0_66 k_sz_66_1 rfl rfl)) ?_
  refine ra_gq 4 11 (B := r_1) (v := .slice B m.Rows.length c) rfl rfl rfl (uT_ 9) (by kernel_rfl) (by kernel_rfl) (by kernel_rfl) (hS8.se [0, 1]) (fun hg1 w' hw' => (Y_load1 (B := aD b) (i := 0) (cs := [.slice B m.Rows.length c]) (v := .slice B m.Rows.length c) k_sc_66 rfl (gv_of (v := pt (aD b) 0) hg1) (ST.cf hw' (i := 0) rfl) rfl)) ?_
  refine ra_gq 5 12 (B := r_1) (v := .func (.func 228) #[] #[pt (aD b1) 0]) rfl rfl rfl (uT_ 9) (by kernel_rfl) (by kernel_rfl) (by kernel_rfl) (hS8.se [0, 1]) (fun hg2 w' hw' => (Y_makeFunc (cs := [pt (aD b1) 0]) rfl rfl (mc rfl mn))) ?_
  refine rA [6] ?_
  refine ra_gc 13 (i := 6) (B := r_1) (v := .bool r_2) (F := hS8.fn) rfl rfl rfl (uT_ 9) hS8 (fun hg3 => (Yc_func (g := 201) (vs := [.slice B m.Rows.length c, .func (.func 228) #[] #[pt (aD b1) 0]]) k_call_201 rfl (mc (gv_of (v := .slice B m.Rows.length c) hg3) (mc (gv_of (v := .func (.func 228) #[] #[pt (aD b1) 0]) hg3) mn)) (CV.mono (c_slices_ContainsFunc_int_int m.Rows (fun x_0 => F_impl_IsValidLinear_1 x_0 (m.Rows.length : Int)) B c m.Rows.length 228 (#[pt (aD b1) 0]) [⟨aD b1, [vi (m.Rows.length : Int)]⟩] _ rfl k_call_228 (fun w hw x_0 y_0 h_ => c_impl_IsValidLinear_1 x_0 (m.Rows.length : Int) (aD b1) w  hw h_) (hS8.inn0 [(true, 0), (false, 1)] rfl) (gb_inv hc1 hg3)) (by rintro _ _ ⟨rfl, h⟩; exact ⟨rfl, hS8.out00 h⟩)))) ?_ ?_
  ·rintro w_4 hS9
   refine ⟨(hS9.se [0, 1]), ?_⟩
   refine ra_gq 7 14 (B := r_1) (v := .bool (!r_2)) rfl rfl rfl (uT_ 9) (by kernel_rfl) (by kernel_rfl) (by kernel_rfl) (hS9.se [0, 1]) (fun hg4 w' hw' => (Y_not (p := r_2) rfl (gv_of (v := .bool r_2) hg4))) ?_
   refine rq 8 15 (v := .bool (r_1 && (!r_2))) rfl (hS9.se [0, 1]) (fun w' hw' => (Y_and (b := r_1) (z := (!r_2)) rfl rfl rfl rfl)) ?_
   refine rq 9 16 (v := .bool (r_1 && (!r_2))) rfl (hS9.se [0, 1]) (fun w' hw' => (Y_move (v := .bool (r_1 && (!r_2))) rfl rfl)) ?_
   refine ra_gq 10 17 (B := (r_1 && (!r_2))) (v := pt (aD b) 0) rfl rfl rfl (uT_ 16) (by kernel_rfl) (by kernel_rfl) (by kernel_rfl) (hS9.se [0, 1]) (fun hg5 w' hw' => (Y_fieldAddr (B := aD b) (i := 0) (s := 0) k_fd_68_0_0_66 k_sz_66_1 rfl rfl)) ?_
   refine ra_gq 11 18 (B := (r_1 && (!r_2))) (v := .slice B m.Rows.length c) rfl rfl rfl (uT_ 16) (by kernel_rfl) (by kernel_rfl) (by kernel_rfl) (hS9.se [0, 1]) (fun hg6 w' hw' => (Y_load1 (B := aD b) (i := 0) (cs := [.slice B m.Rows.length c]) (v := .slice B m.Rows.length c) k_sc_66 rfl (gv_of (v := pt (aD b) 0) hg6) (ST.cf hw' (i := 0) rfl) rfl)) ?_
   refine ra_gq 13 20 (B := (r_1 && (!r_2))) (v := vi (m.Rows.length : Int)) rfl rfl rfl (uT_ 16) (by kernel_rfl) (by kernel_rfl) (by kernel_rfl) (hS9.se [0, 1]) (fun hg8 w' hw' => (Y_load1 (B := aD b1) (i := 0) (cs := [vi (m.Rows.length : Int)]) (v := vi (m.Rows.length : Int)) k_sc_3 rfl rfl (ST.cf hw' (i := 1) rfl) rfl)) ?_
   refine rA [12] ?_
   refine ra_gc 19 (i := 12) (B := (r_1 && (!r_2))) (v := vi r_3) (F := hS9.fn) rfl rfl rfl (uT_ 16) hS9 (fun hg7 => (Yc_func (g := 229) (vs := [.slice B m.Rows.length c]) k_call_229 rfl (mc (gv_of (v := .slice B m.Rows.length c) hg7) mn) (CV.mono (c_impl_rankOf m.Rows B c m.Rows.length _ rfl (hS9.inn0 [(true, 0)] rfl) (gb_inv hc2 hg7)) (by rintro _ _ ⟨rfl, h⟩; exact ⟨rfl, hS9.out00 h⟩)))) ?_ ?_
   ·rintro w_5 hS10
    refine ⟨(hS10.se [0, 1]), ?_⟩
    refine ra_gq 14 21 (B := (r_1 && (!r_2))) (v := .bool (r_3 == (m.Rows.length : Int))) rfl rfl rfl (uT_ 16) (by kernel_rfl) (by kernel_rfl) (by kernel_rfl) (hS10.se [0, 1]) (fun hg9 w' hw' => (Y_eq (k := .i64) (a := r_3) (b := (m.Rows.length : Int)) rfl (gv_of (v := vi r_3) hg9) (gv_of (v := vi (m.Rows.length : Int)) hg9))) ?_
    refine rq 15 22 (v := .bool ((r_1 && (!r_2)) && (r_3 == (m.Rows.length : Int)))) rfl (hS10.se [0, 1]) (fun w' hw' => (Y_and (b := (r_1 && (!r_2))) (z := (r_3 == (m.Rows.length : Int))) rfl rfl rfl rfl)) ?_
    refine rq 16 2 (v := .bool ((r_1 && (!r_2)) && (r_3 == (m.Rows.length : Int)))) rfl (hS10.se [0, 1]) (fun w' hw' => (Y_assign (v := .bool ((r_1 && (!r_2)) && (r_3 == (m.Rows.length : Int)))) rfl rfl)) ?_
    refine ra_done (by kernel_rfl) ?_
    refine cw_ret ?_
    obtain rfl := some_inj hF
    exact ret1 Tryz.results179 (v1 := .bool ((r_1 && (!r_2)) && (r_3 == (m.Rows.length : Int)))) (resAt_tmp rfl) ⟨rfl, (hS10.sN [])⟩
   exact allR_nil
  exact allR_nil
 exact allR_nil

theorem c_impl_IsValidPhasePoly (p : TPhasePoly) (B : Option Addr) (c n : Nat) (B1 : Option Addr) (c1 n1 : Nat) (w0 : World) (hn : p.Terms.length = n) (hn1 : p.Out.Rows.length = n1) (hS : ST w0 [] w0 [] [⟨B, (p.Terms.flatMap eN0)⟩, ⟨B1, (p.Out.Rows.flatMap encI)⟩]) {r_ : Bool} (hF : F_impl_IsValidPhasePoly p = some r_) :
  CV Tryz.prog 102 #[.agg #[vi p.Qubits, vi p.Phase, .slice B n c, .slice B1 n1 c1]] w0 (fun v w' => v = .bool r_ ∧ ST w0 [] w' [] []) := by
 subst hn
 subst hn1
 unfold F_impl_IsValidPhasePoly at hF
 refine cv_of_cw 32 Tryz.func102 rfl Tryz.ntmps102 rfl ?_
 refine cw_seq (cw_region ?_)
 refine sS 1 (Ys_box (T := 70) (v := .agg #[vi p.Qubits, vi p.Phase, .slice B p.Terms.length c, .slice B1 p.Out.Rows.length c1]) (cs := [vi p.Qubits, vi p.Phase, .slice B p.Terms.length c, .slice B1 p.Out.Rows.length c1]) (m := 4) hS rfl rfl rfl rfl) ?_
 rintro _ w_ ⟨b, rfl, hS1⟩
 refine sQ 2 (Y_assign (v := .bool false) rfl rfl) (rw_nil (cw_seq (cw_region ?_)))
 refine sQ 3 (Y_fieldAddr (B := aD b) (i := 0) (s := 0) k_fd_70_0_0_3 k_sz_3_1 rfl rfl) ?_
 refine sQ 4 (Y_load1 (B := aD b) (i := 0) (cs := [vi p.Qubits, vi p.Phase, .slice B p.Terms.length c, .slice B1 p.Out.Rows.length c1]) (v := vi p.Qubits) k_sc_3 rfl rfl (hS1.cf (i := 0) rfl) rfl) ?_
 obtain ⟨r_1, hc, hF⟩ := bind_inv hF
 refine sc 5 rfl rfl (Yc_func (g := 74) (vs := [vi p.Qubits, vi 1, vi 5]) k_call_74 rfl (mc rfl (mc rfl (mc rfl mn))) (c_impl_within p.Qubits 1 5 _  (hS1.inn0 [] rfl) hc)) ?_
 rintro _ w_1 ⟨rfl, hd⟩
 have hS2 := hS1.out00 hd
 refine sQ 6 (Y_move (v := .bool r_1) rfl rfl) ?_
 refine sgq 7 (B := r_1) (v := pt (aD b) 1) rfl rfl (uT_ 6) (fun hg => (Y_fieldAddr (B := aD b) (i := 0) (s := 0) k_fd_70_1_1_3 k_sz_3_1 rfl rfl)) ?_
 refine sgq 8 (B := r_1) (v := vi p.Phase) rfl rfl (uT_ 6) (fun hg1 => (Y_load1 (B := aD b) (i := 1) (cs := [vi p.Qubits, vi p.Phase, .slice B p.Terms.length c, .slice B1 p.Out.Rows.length c1]) (v := vi p.Phase) k_sc_3 rfl (gv_of (v := pt (aD b) 1) hg1) (hS2.cf (i := 0) rfl) rfl)) ?_
 obtain ⟨r_2, hc1, hF⟩ := bind_inv hF
 refine sgc 9 (B := r_1) (v := .bool r_2) (F := hS2.fn) rfl rfl (uT_ 6) hS2 (fun hg2 => (Yc_func (g := 74) (vs := [vi p.Phase, vi 0, vi 7]) k_call_74 rfl (mc (gv_of (v := vi p.Phase) hg2) (mc rfl (mc rfl mn))) (CV.mono (c_impl_within p.Phase 0 7 _  (hS2.inn0 [] rfl) (gb_inv hc1 hg2)) (by rintro _ _ ⟨rfl, h⟩; exact ⟨rfl, hS2.out00 h⟩)))) ?_
 rintro w_2 hS3
 refine sQ 10 (Y_and (b := r_1) (z := r_2) rfl rfl rfl rfl) ?_
 refine sQ 11 (Y_move (v := .bool (r_1 && r_2)) rfl rfl) ?_
 refine sgq 12 (B := (r_1 && r_2)) (v := pt (aD b) 0) rfl rfl (uT_ 11) (fun hg3 => (Y_fieldAddr (B := aD b) (i := 0) (s := 0) k_fd_70_0_0_3 k_sz_3_1 rfl rfl)) ?_
 refine sgq 13 (B := (r_1 && r_2)) (v := vi p.Qubits) rfl rfl (uT_ 11) (fun hg4 => (Y_load1 (B := aD b) (i := 0) (cs := [vi p.Qubits, vi p.Phase, .slice B p.Terms.length c, .slice B1 p.Out.Rows.length c1]) (v := vi p.Qubits) k_sc_3 rfl (gv_of (v := pt (aD b) 0) hg4) (hS3.cf (i := 0) rfl) rfl)) ?_
 refine sgq 14 (B := (r_1 && r_2)) (v := pt (aD b) 2) rfl rfl (uT_ 11) (fun hg5 => (Y_fieldAddr (B := aD b) (i := 0) (s := 0) k_fd_70_2_2_65 k_sz_65_1 rfl rfl)) ?_
 refine sgq 15 (B := (r_1 && r_2)) (v := .slice B p.Terms.length c) rfl rfl (uT_ 11) (fun hg6 => (Y_load1 (B := aD b) (i := 2) (cs := [vi p.Qubits, vi p.Phase, .slice B p.Terms.length c, .slice B1 p.Out.Rows.length c1]) (v := .slice B p.Terms.length c) k_sc_65 rfl (gv_of (v := pt (aD b) 2) hg6) (hS3.cf (i := 0) rfl) rfl)) ?_
 obtain ⟨r_3, hc2, hF⟩ := bind_inv hF
 refine sgc 16 (B := (r_1 && r_2)) (v := .bool r_3) (F := hS3.fn) rfl rfl (uT_ 11) hS3 (fun hg7 => (Yc_func (g := 178) (vs := [vi p.Qubits, .slice B p.Terms.length c]) k_call_178 rfl (mc (gv_of (v := vi p.Qubits) hg7) (mc (gv_of (v := .slice B p.Terms.length c) hg7) mn)) (CV.mono (c_impl_areTerms p.Qubits p.Terms B c p.Terms.length _ rfl (hS3.inn0 [(true, 0)] rfl) (gb_inv hc2 hg7)) (by rintro _ _ ⟨rfl, h⟩; exact ⟨rfl, hS3.out00 h⟩)))) ?_
 rintro w_3 hS4
 refine sQ 17 (Y_and (b := (r_1 && r_2)) (z := r_3) rfl rfl rfl rfl) ?_
 refine sQ 18 (Y_move (v := .bool ((r_1 && r_2) && r_3)) rfl rfl) ?_
 refine sgq 19 (B := ((r_1 && r_2) && r_3)) (v := pt (aD b) 3) rfl rfl (uT_ 18) (fun hg8 => (Y_fieldAddr (B := aD b) (i := 0) (s := 0) k_fd_70_3_3_68 k_sz_68_1 rfl rfl)) ?_
 refine sgq 20 (B := ((r_1 && r_2) && r_3)) (v := pt (aD b) 3) rfl rfl (uT_ 18) (fun hg9 => (Y_fieldAddr (B := aD b) (i := 3) (s := 0) k_fd_68_0_0_66 k_sz_66_1 rfl (gv_of (v := pt (aD b) 3) hg9))) ?_
 refine sgq 21 (B := ((r_1 && r_2) && r_3)) (v := .slice B1 p.Out.Rows.length c1) rfl rfl (uT_ 18) (fun hg10 => (Y_load1 (B := aD b) (i := 3) (cs := [vi p.Qubits, vi p.Phase, .slice B p.Terms.length c, .slice B1 p.Out.Rows.length c1]) (v := .slice B1 p.Out.Rows.length c1) k_sc_66 rfl (gv_of (v := pt (aD b) 3) hg10) (hS4.cf (i := 0) rfl) rfl)) ?_
 refine sgq 22 (B := ((r_1 && r_2) && r_3)) (v := vi (p.Out.Rows.length : Int)) rfl rfl (uT_ 18) (fun hg11 => (Y_len (B := B1) (m := p.Out.Rows.length) (c := c1) k_sl_66_3 rfl (gv_of (v := .slice B1 p.Out.Rows.length c1) hg11))) ?_
 refine sgq 23 (B := ((r_1 && r_2) && r_3)) (v := pt (aD b) 0) rfl rfl (uT_ 18) (fun hg12 => (Y_fieldAddr (B := aD b) (i := 0) (s := 0) k_fd_70_0_0_3 k_sz_3_1 rfl rfl)) ?_
 refine sgq 24 (B := ((r_1 && r_2) && r_3)) (v := vi p.Qubits) rfl rfl (uT_ 18) (fun hg13 => (Y_load1 (B := aD b) (i := 0) (cs := [vi p.Qubits, vi p.Phase, .slice B p.Terms.length c, .slice B1 p.Out.Rows.length c1]) (v := vi p.Qubits) k_sc_3 rfl (gv_of (v := pt (aD b) 0) hg13) (hS4.cf (i := 0) rfl) rfl)) ?_
 refine sgq 25 (B := ((r_1 && r_2) && r_3)) (v := .bool ((p.Out.Rows.length : Int) == p.Qubits)) rfl rfl (uT_ 18) (fun hg14 => (Y_eq (k := .i64) (a := (p.Out.Rows.length : Int)) (b := p.Qubits) rfl (gv_of (v := vi (p.Out.Rows.length : Int)) hg14) (gv_of (v := vi p.Qubits) hg14))) ?_
 refine sQ 26 (Y_and (b := ((r_1 && r_2) && r_3)) (z := ((p.Out.Rows.length : Int) == p.Qubits)) rfl rfl rfl rfl) ?_
 refine sQ 27 (Y_move (v := .bool (((r_1 && r_2) && r_3) && ((p.Out.Rows.length : Int) == p.Qubits))) rfl rfl) ?_
 refine sgq 28 (B := (((r_1 && r_2) && r_3) && ((p.Out.Rows.length : Int) == p.Qubits))) (v := pt (aD b) 3) rfl rfl (uT_ 27) (fun hg15 => (Y_fieldAddr (B := aD b) (i := 0) (s := 0) k_fd_70_3_3_68 k_sz_68_1 rfl rfl)) ?_
 refine sgq 29 (B := (((r_1 && r_2) && r_3) && ((p.Out.Rows.length : Int) == p.Qubits))) (v := .agg #[.slice B1 p.Out.Rows.length c1]) rfl rfl (uT_ 27) (fun hg16 => (Y_loadA (B := aD b) (i := 3) (cs := [vi p.Qubits, vi p.Phase, .slice B p.Terms.length c, .slice B1 p.Out.Rows.length c1]) (vs := [.slice B1 p.Out.Rows.length c1]) k_ag_68 k_sz_68_1 rfl (gv_of (v := pt (aD b) 3) hg16) (hS4.cf (i := 0) rfl) rfl rfl)) ?_
 obtain ⟨r_4, hc3, hF⟩ := bind_inv hF
 refine sgc 30 (B := (((r_1 && r_2) && r_3) && ((p.Out.Rows.length : Int) == p.Qubits))) (v := .bool r_4) (F := hS4.fn) rfl rfl (uT_ 27) hS4 (fun hg17 => (Yc_func (g := 179) (vs := [.agg #[.slice B1 p.Out.Rows.length c1]]) k_call_179 rfl (mc (gv_of (v := .agg #[.slice B1 p.Out.Rows.length c1]) hg17) mn) (CV.mono (c_impl_IsValidLinear p.Out B1 c1 p.Out.Rows.length _ rfl (hS4.inn0 [(true, 1)] rfl) (gb_inv hc3 hg17)) (by rintro _ _ ⟨rfl, h⟩; exact ⟨rfl, hS4.out00 h⟩)))) ?_
 rintro w_4 hS5
 refine sQ 31 (Y_and (b := (((r_1 && r_2) && r_3) && ((p.Out.Rows.length : Int) == p.Qubits))) (z := r_4) rfl rfl rfl rfl) ?_
 refine sQ 2 (Y_assign (v := .bool ((((r_1 && r_2) && r_3) && ((p.Out.Rows.length : Int) == p.Qubits)) && r_4)) rfl rfl) (rw_nil (cw_ret ?_))
 obtain rfl := some_inj hF
 exact ret1 Tryz.results102 (v1 := .bool ((((r_1 && r_2) && r_3) && ((p.Out.Rows.length : Int) == p.Qubits)) && r_4)) (resAt_tmp rfl) ⟨rfl, (hS5.sN [])⟩

theorem c_math_bits_OnesCount64 (x : Int)  (w0 : World)  (hS : ST w0 [] w0 [] []) {r_ : Int} (hF : F_math_bits_OnesCount64 x = some r_) :
  CV Tryz.prog 233 #[.int .u64 x] w0 (fun v w' => v = vi r_ ∧ ST w0 [] w' [] []) := by
 unfold F_math_bits_OnesCount64 at hF
 refine cv_of_cw 35 Tryz.func233 rfl Tryz.ntmps233 rfl ?_
 refine cw_seq (cw_region ?_)
 refine sQ 2 (Y_assign (v := vi 0) rfl rfl) (rw_nil (cw_seq (cw_region ?_)))
 refine sQ 3 (Y_move (v := .int .u64 x) rfl rfl) ?_
 refine sQ 4 (Y_shr (k := .u64) (a := x) (k' := .u64) (b := 1) rfl rfl rfl (by decide)) ?_
 refine sQ 5 (Y_band (k := .u64) (a := (shrK .u64 x 1)) (b := 6148914691236517205) rfl rfl rfl) ?_
 refine sQ 6 (Y_move (v := .int .u64 x) rfl rfl) ?_
 refine sQ 7 (Y_band (k := .u64) (a := x) (b := 6148914691236517205) rfl rfl rfl) ?_
 refine sQ 8 (Y_add (k := .u64) (a := (bits .and .u64 (shrK .u64 x 1) 6148914691236517205)) (b := (bits .and .u64 x 6148914691236517205)) rfl rfl rfl) ?_
 refine sQ 0 (Y_assign (v := .int .u64 (IntKind.u64.wrap ((bits .and .u64 (shrK .u64 x 1) 6148914691236517205) + (bits .and .u64 x 6148914691236517205)))) rfl rfl) (rw_nil (cw_seq (cw_region ?_)))
 refine sQ 9 (Y_move (v := .int .u64 (IntKind.u64.wrap ((bits .and .u64 (shrK .u64 x 1) 6148914691236517205) + (bits .and .u64 x 6148914691236517205)))) rfl rfl) ?_
 refine sQ 10 (Y_shr (k := .u64) (a := (IntKind.u64.wrap ((bits .and .u64 (shrK .u64 x 1) 6148914691236517205) + (bits .and .u64 x 6148914691236517205)))) (k' := .u64) (b := 2) rfl rfl rfl (by decide)) ?_
 refine sQ 11 (Y_band (k := .u64) (a := (shrK .u64 (IntKind.u64.wrap ((bits .and .u64 (shrK .u64 x 1) 6148914691236517205) + (bits .and .u64 x 6148914691236517205))) 2)) (b := 3689348814741910323) rfl rfl rfl) ?_
 refine sQ 12 (Y_move (v := .int .u64 (IntKind.u64.wrap ((bits .and .u64 (shrK .u64 x 1) 6148914691236517205) + (bits .and .u64 x 6148914691236517205)))) rfl rfl) ?_
 refine sQ 13 (Y_band (k := .u64) (a := (IntKind.u64.wrap ((bits .and .u64 (shrK .u64 x 1) 6148914691236517205) + (bits .and .u64 x 6148914691236517205)))) (b := 3689348814741910323) rfl rfl rfl) ?_
 refine sQ 14 (Y_add (k := .u64) (a := (bits .and .u64 (shrK .u64 (IntKind.u64.wrap ((bits .and .u64 (shrK .u64 x 1) 6148914691236517205) + (bits .and .u64 x 6148914691236517205))) 2) 3689348814741910323)) (b := (bits .and .u64 (IntKind.u64.wrap ((bits .and .u64 (shrK .u64 x 1) 6148914691236517205) + (bits .and .u64 x 6148914691236517205))) 3689348814741910323)) rfl rfl rfl) ?_
 refine sQ 0 (Y_assign (v := .int .u64 (IntKind.u64.wrap ((bits .and .u64 (shrK .u64 (IntKind.u64.wrap ((bits .and .u64 (shrK .u64 x 1) 6148914691236517205) + (bits .and .u64 x 6148914691236517205))) 2) 3689348814741910323) + (bits .and .u64 (IntKind.u64.wrap ((bits .and .u64 (shrK .u64 x 1) 6148914691236517205) + (bits .and .u64 x 6148914691236517205))) 3689348814741910323)))) rfl rfl) (rw_nil (cw_seq (cw_region ?_)))
 refine sQ 15 (Y_move (v := .int .u64 (IntKind.u64.wrap ((bits .and .u64 (shrK .u64 (IntKind.u64.wrap ((bits .and .u64 (shrK .u64 x 1) 6148914691236517205) + (bits .and .u64 x 6148914691236517205))) 2) 3689348814741910323) + (bits .and .u64 (IntKind.u64.wrap ((bits .and .u64 (shrK .u64 x 1) 6148914691236517205) + (bits .and .u64 x 6148914691236517205))) 3689348814741910323)))) rfl rfl) ?_
 refine sQ 16 (Y_shr (k := .u64) (a := (IntKind.u64.wrap ((bits .and .u64 (shrK .u64 (IntKind.u64.wrap ((bits .and .u64 (shrK .u64 x 1) 6148914691236517205) + (bits .and .u64 x 6148914691236517205))) 2) 3689348814741910323) + (bits .and .u64 (IntKind.u64.wrap ((bits .and .u64 (shrK .u64 x 1) 6148914691236517205) + (bits .and .u64 x 6148914691236517205))) 3689348814741910323)))) (k' := .u64) (b := 4) rfl rfl rfl (by decide)) ?_
 refine sQ 17 (Y_move (v := .int .u64 (IntKind.u64.wrap ((bits .and .u64 (shrK .u64 (IntKind.u64.wrap ((bits .and .u64 (shrK .u64 x 1) 6148914691236517205) + (bits .and .u64 x 6148914691236517205))) 2) 3689348814741910323) + (bits .and .u64 (IntKind.u64.wrap ((bits .and .u64 (shrK .u64 x 1) 6148914691236517205) + (bits .and .u64 x 6148914691236517205))) 3689348814741910323)))) rfl rfl) ?_
 refine sQ 18 (Y_add (k := .u64) (a := (shrK .u64 (IntKind.u64.wrap ((bits .and .u64 (shrK .u64 (IntKind.u64.wrap ((bits .and .u64 (shrK .u64 x 1) 6148914691236517205) + (bits .and .u64 x 6148914691236517205))) 2) 3689348814741910323) + (bits .and .u64 (IntKind.u64.wrap ((bits .and .u64 (shrK .u64 x 1) 6148914691236517205) + (bits .and .u64 x 6148914691236517205))) 3689348814741910323))) 4)) (b := (IntKind.u64.wrap ((bits .and .u64 (shrK .u64 (IntKind.u64.wrap ((bits .and .u64 (shrK .u64 x 1) 6148914691236517205) + (bits .and .u64 x 6148914691236517205))) 2) 3689348814741910323) + (bits .and .u64 (IntKind.u64.wrap ((bits .and .u64 (shrK .u64 x 1) 6148914691236517205) + (bits .and .u64 x 6148914691236517205))) 3689348814741910323)))) rfl rfl rfl) ?_
 refine sQ 19 (Y_band (k := .u64) (a := (IntKind.u64.wrap ((shrK .u64 (IntKind.u64.wrap ((bits .and .u64 (shrK .u64 (IntKind.u64.wrap ((bits .and .u64 (shrK .u64 x 1) 6148914691236517205) + (bits .and .u64 x 6148914691236517205))) 2) 3689348814741910323) + (bits .and .u64 (IntKind.u64.wrap ((bits .and .u64 (shrK .u64 x 1) 6148914691236517205) + (bits .and .u64 x 6148914691236517205))) 3689348814741910323))) 4) + (IntKind.u64.wrap ((bits .and .u64 (shrK .u64 (IntKind.u64.wrap ((bits .and .u64 (shrK .u64 x 1) 6148914691236517205) + (bits .and .u64 x 6148914691236517205))) 2) 3689348814741910323) + (bits .and .u64 (IntKind.u64.wrap ((bits .and .u64 (shrK .u64 x 1) 6148914691236517205) + (bits .and .u64 x 6148914691236517205))) 3689348814741910323)))))) (b := 1085102592571150095) rfl rfl rfl) ?_
 refine sQ 0 (Y_assign (v := .int .u64 (bits .and .u64 (IntKind.u64.wrap ((shrK .u64 (IntKind.u64.wrap ((bits .and .u64 (shrK .u64 (IntKind.u64.wrap ((bits .and .u64 (shrK .u64 x 1) 6148914691236517205) + (bits .and .u64 x 6148914691236517205))) 2) 3689348814741910323) + (bits .and .u64 (IntKind.u64.wrap ((bits .and .u64 (shrK .u64 x 1) 6148914691236517205) + (bits .and .u64 x 6148914691236517205))) 3689348814741910323))) 4) + (IntKind.u64.wrap ((bits .and .u64 (shrK .u64 (IntKind.u64.wrap ((bits .and .u64 (shrK .u64 x 1) 6148914691236517205) + (bits .and .u64 x 6148914691236517205))) 2) 3689348814741910323) + (bits .and .u64 (IntKind.u64.wrap ((bits .and .u64 (shrK .u64 x 1) 6148914691236517205) + (bits .and .u64 x 6148914691236517205))) 3689348814741910323))))) 1085102592571150095)) rfl rfl) (rw_nil (cw_seq (cw_region ?_)))
 refine sQ 20 (Y_move (v := .int .u64 (bits .and .u64 (IntKind.u64.wrap ((shrK .u64 (IntKind.u64.wrap ((bits .and .u64 (shrK .u64 (IntKind.u64.wrap ((bits .and .u64 (shrK .u64 x 1) 6148914691236517205) + (bits .and .u64 x 6148914691236517205))) 2) 3689348814741910323) + (bits .and .u64 (IntKind.u64.wrap ((bits .and .u64 (shrK .u64 x 1) 6148914691236517205) + (bits .and .u64 x 6148914691236517205))) 3689348814741910323))) 4) + (IntKind.u64.wrap ((bits .and .u64 (shrK .u64 (IntKind.u64.wrap ((bits .and .u64 (shrK .u64 x 1) 6148914691236517205) + (bits .and .u64 x 6148914691236517205))) 2) 3689348814741910323) + (bits .and .u64 (IntKind.u64.wrap ((bits .and .u64 (shrK .u64 x 1) 6148914691236517205) + (bits .and .u64 x 6148914691236517205))) 3689348814741910323))))) 1085102592571150095)) rfl rfl) ?_
 refine sQ 21 (Y_move (v := .int .u64 (bits .and .u64 (IntKind.u64.wrap ((shrK .u64 (IntKind.u64.wrap ((bits .and .u64 (shrK .u64 (IntKind.u64.wrap ((bits .and .u64 (shrK .u64 x 1) 6148914691236517205) + (bits .and .u64 x 6148914691236517205))) 2) 3689348814741910323) + (bits .and .u64 (IntKind.u64.wrap ((bits .and .u64 (shrK .u64 x 1) 6148914691236517205) + (bits .and .u64 x 6148914691236517205))) 3689348814741910323))) 4) + (IntKind.u64.wrap ((bits .and .u64 (shrK .u64 (IntKind.u64.wrap ((bits .and .u64 (shrK .u64 x 1) 6148914691236517205) + (bits .and .u64 x 6148914691236517205))) 2) 3689348814741910323) + (bits .and .u64 (IntKind.u64.wrap ((bits .and .u64 (shrK .u64 x 1) 6148914691236517205) + (bits .and .u64 x 6148914691236517205))) 3689348814741910323))))) 1085102592571150095)) rfl rfl) ?_
 refine sQ 22 (Y_shr (k := .u64) (a := (bits .and .u64 (IntKind.u64.wrap ((shrK .u64 (IntKind.u64.wrap ((bits .and .u64 (shrK .u64 (IntKind.u64.wrap ((bits .and .u64 (shrK .u64 x 1) 6148914691236517205) + (bits .and .u64 x 6148914691236517205))) 2) 3689348814741910323) + (bits .and .u64 (IntKind.u64.wrap ((bits .and .u64 (shrK .u64 x 1) 6148914691236517205) + (bits .and .u64 x 6148914691236517205))) 3689348814741910323))) 4) + (IntKind.u64.wrap ((bits .and .u64 (shrK .u64 (IntKind.u64.wrap ((bits .and .u64 (shrK .u64 x 1) 6148914691236517205) + (bits .and .u64 x 6148914691236517205))) 2) 3689348814741910323) + (bits .and .u64 (IntKind.u64.wrap ((bits .and .u64 (shrK .u64 x 1) 6148914691236517205) + (bits .and .u64 x 6148914691236517205))) 3689348814741910323))))) 1085102592571150095)) (k' := .u64) (b := 8) rfl rfl rfl (by decide)) ?_
 refine sQ 23 (Y_add (k := .u64) (a := (bits .and .u64 (IntKind.u64.wrap ((shrK .u64 (IntKind.u64.wrap ((bits .and .u64 (shrK .u64 (IntKind.u64.wrap ((bits .and .u64 (shrK .u64 x 1) 6148914691236517205) + (bits .and .u64 x 6148914691236517205))) 2) 3689348814741910323) + (bits .and .u64 (IntKind.u64.wrap ((bits .and .u64 (shrK .u64 x 1) 6148914691236517205) + (bits .and .u64 x 6148914691236517205))) 3689348814741910323))) 4) + (IntKind.u64.wrap ((bits .and .u64 (shrK .u64 (IntKind.u64.wrap ((bits .and .u64 (shrK .u64 x 1) 6148914691236517205) + (bits .and .u64 x 6148914691236517205))) 2) 3689348814741910323) + (bits .and .u64 (IntKind.u64.wrap ((bits .and .u64 (shrK .u64 x 1) 6148914691236517205) + (bits .and .u64 x 6148914691236517205))) 3689348814741910323))))) 1085102592571150095)) (b := (shrK .u64 (bits .and .u64 (IntKind.u64.wrap ((shrK .u64 (IntKind.u64.wrap ((bits .and .u64 (shrK .u64 (IntKind.u64.wrap ((bits .and .u64 (shrK .u64 x 1) 6148914691236517205) + (bits .and .u64 x 6148914691236517205))) 2) 3689348814741910323) + (bits .and .u64 (IntKind.u64.wrap ((bits .and .u64 (shrK .u64 x 1) 6148914691236517205) + (bits .and .u64 x 6148914691236517205))) 3689348814741910323))) 4) + (IntKind.u64.wrap ((bits .and .u64 (shrK .u64 (IntKind.u64.wrap ((bits .and .u64 (shrK .u64 x 1) 6148914691236517205) + (bits .and .u64 x 6148914691236517205))) 2) 3689348814741910323) + (bits .and .u64 (IntKind.u64.wrap ((bits .and .u64 (shrK .u64 x 1) 6148914691236517205) + (bits .and .u64 x 6148914691236517205))) 3689348814741910323))))) 1085102592571150095) 8)) rfl rfl rfl) ?_
 refine sQ 0 (Y_assign (v := .int .u64 (IntKind.u64.wrap ((bits .and .u64 (IntKind.u64.wrap ((shrK .u64 (IntKind.u64.wrap ((bits .and .u64 (shrK .u64 (IntKind.u64.wrap ((bits .and .u64 (shrK .u64 x 1) 6148914691236517205) + (bits .and .u64 x 6148914691236517205))) 2) 3689348814741910323) + (bits .and .u64 (IntKind.u64.wrap ((bits .and .u64 (shrK .u64 x 1) 6148914691236517205) + (bits .and .u64 x 6148914691236517205))) 3689348814741910323))) 4) + (IntKind.u64.wrap ((bits .and .u64 (shrK .u64 (IntKind.u64.wrap ((bits .and .u64 (shrK .u64 x 1) 6148914691236517205) + (bits .and .u64 x 6148914691236517205))) 2) 3689348814741910323) + (bits .and .u64 (IntKind.u64.wrap ((bits .and .u64 (shrK .u64 x 1) 6148914691236517205) + (bits .and .u64 x 6148914691236517205))) 3689348814741910323))))) 1085102592571150095) + (shrK .u64 (bits .and .u64 (IntKind.u64.wrap ((shrK .u64 (IntKind.u64.wrap ((bits .and .u64 (shrK .u64 (IntKind.u64.wrap ((bits .and .u64 (shrK .u64 x 1) 6148914691236517205) + (bits .and .u64 x 6148914691236517205))) 2) 3689348814741910323) + (bits .and .u64 (IntKind.u64.wrap ((bits .and .u64 (shrK .u64 x 1) 6148914691236517205) + (bits .and .u64 x 6148914691236517205))) 3689348814741910323))) 4) + (IntKind.u64.wrap ((bits .and .u64 (shrK .u64 (IntKind.u64.wrap ((bits .and .u64 (shrK .u64 x 1) 6148914691236517205) + (bits .and .u64 x 6148914691236517205))) 2) 3689348814741910323) + (bits .and .u64 (IntKind.u64.wrap ((bits .and .u64 (shrK .u64 x 1) 6148914691236517205) + (bits .and .u64 x 6148914691236517205))) 3689348814741910323))))) 1085102592571150095) 8)))) rfl rfl) (rw_nil (cw_seq (cw_region ?_)))
 refine sQ 24 (Y_move (v := .int .u64 (IntKind.u64.wrap ((bits .and .u64 (IntKind.u64.wrap ((shrK .u64 (IntKind.u64.wrap ((bits .and .u64 (shrK .u64 (IntKind.u64.wrap ((bits .and .u64 (shrK .u64 x 1) 6148914691236517205) + (bits .and .u64 x 6148914691236517205))) 2) 3689348814741910323) + (bits .and .u64 (IntKind.u64.wrap ((bits .and .u64 (shrK .u64 x 1) 6148914691236517205) + (bits .and .u64 x 6148914691236517205))) 3689348814741910323))) 4) + (IntKind.u64.wrap ((bits .and .u64 (shrK .u64 (IntKind.u64.wrap ((bits .and .u64 (shrK .u64 x 1) 6148914691236517205) + (bits .and .u64 x 6148914691236517205))) 2) 3689348814741910323) + (bits .and .u64 (IntKind.u64.wrap ((bits .and .u64 (shrK .u64 x 1) 6148914691236517205) + (bits .and .u64 x 6148914691236517205))) 3689348814741910323))))) 1085102592571150095) + (shrK .u64 (bits .and .u64 (IntKind.u64.wrap ((shrK .u64 (IntKind.u64.wrap ((bits .and .u64 (shrK .u64 (IntKind.u64.wrap ((bits .and .u64 (shrK .u64 x 1) 6148914691236517205) + (bits .and .u64 x 6148914691236517205))) 2) 3689348814741910323) + (bits .and .u64 (IntKind.u64.wrap ((bits .and .u64 (shrK .u64 x 1) 6148914691236517205) + (bits .and .u64 x 6148914691236517205))) 3689348814741910323))) 4) + (IntKind.u64.wrap ((bits .and .u64 (shrK .u64 (IntKind.u64.wrap ((bits .and .u64 (shrK .u64 x 1) 6148914691236517205) + (bits .and .u64 x 6148914691236517205))) 2) 3689348814741910323) + (bits .and .u64 (IntKind.u64.wrap ((bits .and .u64 (shrK .u64 x 1) 6148914691236517205) + (bits .and .u64 x 6148914691236517205))) 3689348814741910323))))) 1085102592571150095) 8)))) rfl rfl) ?_
 refine sQ 25 (Y_move (v := .int .u64 (IntKind.u64.wrap ((bits .and .u64 (IntKind.u64.wrap ((shrK .u64 (IntKind.u64.wrap ((bits .and .u64 (shrK .u64 (IntKind.u64.wrap ((bits .and .u64 (shrK .u64 x 1) 6148914691236517205) + (bits .and .u64 x 6148914691236517205))) 2) 3689348814741910323) + (bits .and .u64 (IntKind.u64.wrap ((bits .and .u64 (shrK .u64 x 1) 6148914691236517205) + (bits .and .u64 x 6148914691236517205))) 3689348814741910323))) 4) + (IntKind.u64.wrap ((bits .and .u64 (shrK .u64 (IntKind.u64.wrap ((bits .and .u64 (shrK .u64 x 1) 6148914691236517205) + (bits .and .u64 x 6148914691236517205))) 2) 3689348814741910323) + (bits .and .u64 (IntKind.u64.wrap ((bits .and .u64 (shrK .u64 x 1) 6148914691236517205) + (bits .and .u64 x 6148914691236517205))) 3689348814741910323))))) 1085102592571150095) + (shrK .u64 (bits .and .u64 (IntKind.u64.wrap ((shrK .u64 (IntKind.u64.wrap ((bits .and .u64 (shrK .u64 (IntKind.u64.wrap ((bits .and .u64 (shrK .u64 x 1) 6148914691236517205) + (bits .and .u64 x 6148914691236517205))) 2) 3689348814741910323) + (bits .and .u64 (IntKind.u64.wrap ((bits .and .u64 (shrK .u64 x 1) 6148914691236517205) + (bits .and .u64 x 6148914691236517205))) 3689348814741910323))) 4) + (IntKind.u64.wrap ((bits .and .u64 (shrK .u64 (IntKind.u64.wrap ((bits .and .u64 (shrK .u64 x 1) 6148914691236517205) + (bits .and .u64 x 6148914691236517205))) 2) 3689348814741910323) + (bits .and .u64 (IntKind.u64.wrap ((bits .and .u64 (shrK .u64 x 1) 6148914691236517205) + (bits .and .u64 x 6148914691236517205))) 3689348814741910323))))) 1085102592571150095) 8)))) rfl rfl) ?_
 refine sQ 26 (Y_shr (k := .u64) (a := (IntKind.u64.wrap ((bits .and .u64 (IntKind.u64.wrap ((shrK .u64 (IntKind.u64.wrap ((bits .and .u64 (shrK .u64 (IntKind.u64.wrap ((bits .and .u64 (shrK .u64 x 1) 6148914691236517205) + (bits .and .u64 x 6148914691236517205))) 2) 3689348814741910323) + (bits .and .u64 (IntKind.u64.wrap ((bits .and .u64 (shrK .u64 x 1) 6148914691236517205) + (bits .and .u64 x 6148914691236517205))) 3689348814741910323))) 4) + (IntKind.u64.wrap ((bits .and .u64 (shrK .u64 (IntKind.u64.wrap ((bits .and .u64 (shrK .u64 x 1) 6148914691236517205) + (bits .and .u64 x 6148914691236517205))) 2) 3689348814741910323) + (bits .and .u64 (IntKind.u64.wrap ((bits .and .u64 (shrK .u64 x 1) 6148914691236517205) + (bits .and .u64 x 6148914691236517205))) 3689348814741910323))))) 1085102592571150095) + (shrK .u64 (bits .and .u64 (IntKind.u64.wrap ((shrK .u64 (IntKind.u64.wrap ((bits .and .u64 (shrK .u64 (IntKind.u64.wrap ((bits .and .u64 (shrK .u64 x 1) 6148914691236517205) + (bits .and .u64 x 6148914691236517205))) 2) 3689348814741910323) + (bits .and .u64 (IntKind.u64.wrap ((bits .and .u64 (shrK .u64 x 1) 6148914691236517205) + (bits .and .u64 x 6148914691236517205))) 3689348814741910323))) 4) + (IntKind.u64.wrap ((bits .and .u64 (shrK .u64 (IntKind.u64.wrap ((bits .and .u64 (shrK .u64 x 1) 6148914691236517205) + (bits .and .u64 x 6148914691236517205))) 2) 3689348814741910323) + (bits .and .u64 (IntKind.u64.wrap ((bits .and .u64 (shrK .u64 x 1) 6148914691236517205) + (bits .and .u64 x 6148914691236517205))) 3689348814741910323))))) 1085102592571150095) 8)))) (k' := .u64) (b := 16) rfl rfl rfl (by decide)) ?_
 refine sQ 27 (Y_add (k := .u64) (a := (IntKind.u64.wrap ((bits .and .u64 (IntKind.u64.wrap ((shrK .u64 (IntKind.u64.wrap ((bits .and .u64 (shrK .u64 (IntKind.u64.wrap ((bits .and .u64 (shrK .u64 x 1) 6148914691236517205) + (bits .and .u64 x 6148914691236517205))) 2) 3689348814741910323) + (bits .and .u64 (IntKind.u64.wrap ((bits .and .u64 (shrK .u64 x 1) 6148914691236517205) + (bits .and .u64 x 6148914691236517205))) 3689348814741910323))) 4) + (IntKind.u64.wrap ((bits .and .u64 (shrK .u64 (IntKind.u64.wrap ((bits .and .u64 (shrK .u64 x 1) 6148914691236517205) + (bits .and .u64 x 6148914691236517205))) 2) 3689348814741910323) + (bits .and .u64 (IntKind.u64.wrap ((bits .and .u64 (shrK .u64 x 1) 6148914691236517205) + (bits .and .u64 x 6148914691236517205))) 3689348814741910323))))) 1085102592571150095) + (shrK .u64 (bits .and .u64 (IntKind.u64.wrap ((shrK .u64 (IntKind.u64.wrap ((bits .and .u64 (shrK .u64 (IntKind.u64.wrap ((bits .and .u64 (shrK .u64 x 1) 6148914691236517205) + (bits .and .u64 x 6148914691236517205))) 2) 3689348814741910323) + (bits .and .u64 (IntKind.u64.wrap ((bits .and .u64 (shrK .u64 x 1) 6148914691236517205) + (bits .and .u64 x 6148914691236517205))) 3689348814741910323))) 4) + (IntKind.u64.wrap ((bits .and .u64 (shrK .u64 (IntKind.u64.wrap ((bits .and .u64 (shrK .u64 x 1) 6148914691236517205) + (bits .and .u64 x 6148914691236517205))) 2) 3689348814741910323) + (bits .and .u64 (IntKind.u64.wrap ((bits .and .u64 (shrK .u64 x 1) 6148914691236517205) + (bits .and .u64 x 6148914691236517205))) 3689348814741910323))))) 1085102592571150095) 8)))) (b := (shrK .u64 (IntKind.u64.wrap ((bits .and .u64 (IntKind.u64.wrap ((shrK .u64 (IntKind.u64.wrap ((bits .and .u64 (shrK .u64 (IntKind.u64.wrap ((bits .and .u64 (shrK .u64 x 1) 6148914691236517205) + (bits .and .u64 x 6148914691236517205))) 2) 3689348814741910323) + (bits .and .u64 (IntKind.u64.wrap ((bits .and .u64 (shrK .u64 x 1) 6148914691236517205) + (bits .and .u64 x 6148914691236517205))) 3689348814741910323))) 4) + (IntKind.u64.wrap ((bits .and .u64 (shrK .u64 (IntKind.u64.wrap ((bits .and .u64 (shrK .u64 x 1) 6148914691236517205) + (bits .and .u64 x 6148914691236517205))) 2) 3689348814741910323) + (bits .and .u64 (IntKind.u64.wrap ((bits .and .u64 (shrK .u64 x 1) 6148914691236517205) + (bits .and .u64 x 6148914691236517205))) 3689348814741910323))))) 1085102592571150095) + (shrK .u64 (bits .and .u64 (IntKind.u64.wrap ((shrK .u64 (IntKind.u64.wrap ((bits .and .u64 (shrK .u64 (IntKind.u64.wrap ((bits .and .u64 (shrK .u64 x 1) 6148914691236517205) + (bits .and .u64 x 6148914691236517205))) 2) 3689348814741910323) + (bits .and .u64 (IntKind.u64.wrap ((bits .and .u64 (shrK .u64 x 1) 6148914691236517205) + (bits .and .u64 x 6148914691236517205))) 3689348814741910323))) 4) + (IntKind.u64.wrap ((bits .and .u64 (shrK .u64 (IntKind.u64.wrap ((bits .and .u64 (shrK .u64 x 1) 6148914691236517205) + (bits .and .u64 x 6148914691236517205))) 2) 3689348814741910323) + (bits .and .u64 (IntKind.u64.wrap ((bits .and .u64 (shrK .u64 x 1) 6148914691236517205) + (bits .and .u64 x 6148914691236517205))) 3689348814741910323))))) 1085102592571150095) 8))) 16)) rfl rfl rfl) ?_
 refine sQ 0 (Y_assign (v := .int .u64 (IntKind.u64.wrap ((IntKind.u64.wrap ((bits .and .u64 (IntKind.u64.wrap ((shrK .u64 (IntKind.u64.wrap ((bits .and .u64 (shrK .u64 (IntKind.u64.wrap ((bits .and .u64 (shrK .u64 x 1) 6148914691236517205) + (bits .and .u64 x 6148914691236517205))) 2) 3689348814741910323) + (bits .and .u64 (IntKind.u64.wrap ((bits .and .u64 (shrK .u64 x 1) 6148914691236517205) + (bits .and .u64 x 6148914691236517205))) 3689348814741910323))) 4) + (IntKind.u64.wrap ((bits .and .u64 (shrK .u64 (IntKind.u64.wrap ((bits .and .u64 (shrK .u64 x 1) 6148914691236517205) + (bits .and .u64 x 6148914691236517205))) 2) 3689348814741910323) + (bits .and .u64 (IntKind.u64.wrap ((bits .and .u64 (shrK .u64 x 1) 6148914691236517205) + (bits .and .u64 x 6148914691236517205))) 3689348814741910323))))) 1085102592571150095) + (shrK .u64 (bits .and .u64 (IntKind.u64.wrap ((shrK .u64 (IntKind.u64.wrap ((bits .and .u64 (shrK .u64 (IntKind.u64.wrap ((bits .and .u64 (shrK .u64 x 1) 6148914691236517205) + (bits .and .u64 x 6148914691236517205))) 2) 3689348814741910323) + (bits .and .u64 (IntKind.u64.wrap ((bits .and .u64 (shrK .u64 x 1) 6148914691236517205) + (bits .and .u64 x 6148914691236517205))) 3689348814741910323))) 4) + (IntKind.u64.wrap ((bits .and .u64 (shrK .u64 (IntKind.u64.wrap ((bits .and .u64 (shrK .u64 x 1) 6148914691236517205) + (bits .and .u64 x 6148914691236517205))) 2) 3689348814741910323) + (bits .and .u64 (IntKind.u64.wrap ((bits .and .u64 (shrK .u64 x 1) 6148914691236517205) + (bits .and .u64 x 6148914691236517205))) 3689348814741910323))))) 1085102592571150095) 8))) + (shrK .u64 (IntKind.u64.wrap ((bits .and .u64 (IntKind.u64.wrap ((shrK .u64 (IntKind.u64.wrap ((bits .and .u64 (shrK .u64 (IntKind.u64.wrap ((bits .and .u64 (shrK .u64 x 1) 6148914691236517205) + (bits .and .u64 x 6148914691236517205))) 2) 3689348814741910323) + (bits .and .u64 (IntKind.u64.wrap ((bits .and .u64 (shrK .u64 x 1) 6148914691236517205) + (bits .and .u64 x 6148914691236517205))) 3689348814741910323))) 4) + (IntKind.u64.wrap ((bits .and .u64 (shrK .u64 (IntKind.u64.wrap ((bits .and .u64 (shrK .u64 x 1) 6148914691236517205) + (bits .and .u64 x 6148914691236517205))) 2) 3689348814741910323) + (bits .and .u64 (IntKind.u64.wrap ((bits .and .u64 (shrK .u64 x 1) 6148914691236517205) + (bits .and .u64 x 6148914691236517205))) 3689348814741910323))))) 1085102592571150095) + (shrK .u64 (bits .and .u64 (IntKind.u64.wrap ((shrK .u64 (IntKind.u64.wrap ((bits .and .u64 (shrK .u64 (IntKind.u64.wrap ((bits .and .u64 (shrK .u64 x 1) 6148914691236517205) + (bits .and .u64 x 6148914691236517205))) 2) 3689348814741910323) + (bits .and .u64 (IntKind.u64.wrap ((bits .and .u64 (shrK .u64 x 1) 6148914691236517205) + (bits .and .u64 x 6148914691236517205))) 3689348814741910323))) 4) + (IntKind.u64.wrap ((bits .and .u64 (shrK .u64 (IntKind.u64.wrap ((bits .and .u64 (shrK .u64 x 1) 6148914691236517205) + (bits .and .u64 x 6148914691236517205))) 2) 3689348814741910323) + (bits .and .u64 (IntKind.u64.wrap ((bits .and .u64 (shrK .u64 x 1) 6148914691236517205) + (bits .and .u64 x 6148914691236517205))) 3689348814741910323))))) 1085102592571150095) 8))) 16)))) rfl rfl) (rw_nil (cw_seq (cw_region ?_)))
 refine sQ 28 (Y_move (v := .int .u64 (IntKind.u64.wrap ((IntKind.u64.wrap ((bits .and .u64 (IntKind.u64.wrap ((shrK .u64 (IntKind.u64.wrap ((bits .and .u64 (shrK .u64 (IntKind.u64.wrap ((bits .and .u64 (shrK .u64 x 1) 6148914691236517205) + (bits .and .u64 x 6148914691236517205))) 2) 3689348814741910323) + (bits .and .u64 (IntKind.u64.wrap ((bits .and .u64 (shrK .u64 x 1) 6148914691236517205) + (bits .and .u64 x 6148914691236517205))) 3689348814741910323))) 4) + (IntKind.u64.wrap ((bits .and .u64 (shrK .u64 (IntKind.u64.wrap ((bits .and .u64 (shrK .u64 x 1) 6148914691236517205) + (bits .and .u64 x 6148914691236517205))) 2) 3689348814741910323) + (bits .and .u64 (IntKind.u64.wrap ((bits .and .u64 (shrK .u64 x 1) 6148914691236517205) + (bits .and .u64 x 6148914691236517205))) 3689348814741910323))))) 1085102592571150095) + (shrK .u64 (bits .and .u64 (IntKind.u64.wrap ((shrK .u64 (IntKind.u64.wrap ((bits .and .u64 (shrK .u64 (IntKind.u64.wrap ((bits .and .u64 (shrK .u64 x 1) 6148914691236517205) + (bits .and .u64 x 6148914691236517205))) 2) 3689348814741910323) + (bits .and .u64 (IntKind.u64.wrap ((bits .and .u64 (shrK .u64 x 1) 6148914691236517205) + (bits .and .u64 x 6148914691236517205))) 3689348814741910323))) 4) + (IntKind.u64.wrap ((bits .and .u64 (shrK .u64 (IntKind.u64.wrap ((bits .and .u64 (shrK .u64 x 1) 6148914691236517205) + (bits .and .u64 x 6148914691236517205))) 2) 3689348814741910323) + (bits .and .u64 (IntKind.u64.wrap ((bits .and .u64 (shrK .u64 x 1) 6148914691236517205) + (bits .and .u64 x 6148914691236517205))) 3689348814741910323))))) 1085102592571150095) 8))) + (shrK .u64 (IntKind.u64.wrap ((bits .and .u64 (IntKind.u64.wrap ((shrK .u64 (IntKind.u64.wrap ((bits .and .u64 (shrK .u64 (IntKind.u64.wrap ((bits .and .u64 (shrK .u64 x 1) 6148914691236517205) + (bits .and .u64 x 6148914691236517205))) 2) 3689348814741910323) + (bits .and .u64 (IntKind.u64.wrap ((bits .and .u64 (shrK .u64 x 1) 6148914691236517205) + (bits .and .u64 x 6148914691236517205))) 3689348814741910323))) 4) + (IntKind.u64.wrap ((bits .and .u64 (shrK .u64 (IntKind.u64.wrap ((bits .and .u64 (shrK .u64 x 1) 6148914691236517205) + (bits .and .u64 x 6148914691236517205))) 2) 3689348814741910323) + (bits .and .u64 (IntKind.u64.wrap ((bits .and .u64 (shrK .u64 x 1) 6148914691236517205) + (bits .and .u64 x 6148914691236517205))) 3689348814741910323))))) 1085102592571150095) + (shrK .u64 (bits .and .u64 (IntKind.u64.wrap ((shrK .u64 (IntKind.u64.wrap ((bits .and .u64 (shrK .u64 (IntKind.u64.wrap ((bits .and .u64 (shrK .u64 x 1) 6148914691236517205) + (bits .and .u64 x 6148914691236517205))) 2) 3689348814741910323) + (bits .and .u64 (IntKind.u64.wrap ((bits .and .u64 (shrK .u64 x 1) 6148914691236517205) + (bits .and .u64 x 6148914691236517205))) 3689348814741910323))) 4) + (IntKind.u64.wrap ((bits .and .u64 (shrK .u64 (IntKind.u64.wrap ((bits .and .u64 (shrK .u64 x 1) 6148914691236517205) + (bits .and .u64 x 6148914691236517205))) 2) 3689348814741910323) + (bits .and .u64 (IntKind.u64.wrap ((bits .and .u64 (shrK .u64 x 1) 6148914691236517205) + (bits .and .u64 x 6148914691236517205))) 3689348814741910323))))) 1085102592571150095) 8))) 16)))) rfl rfl) ?_
 refine sQ 29 (Y_move (v := .int .u64 (IntKind.u64.wrap ((IntKind.u64.wrap ((bits .and .u64 (IntKind.u64.wrap ((shrK .u64 (IntKind.u64.wrap ((bits .and .u64 (shrK .u64 (IntKind.u64.wrap ((bits .and .u64 (shrK .u64 x 1) 6148914691236517205) + (bits .and .u64 x 6148914691236517205))) 2) 3689348814741910323) + (bits .and .u64 (IntKind.u64.wrap ((bits .and .u64 (shrK .u64 x 1) 6148914691236517205) + (bits .and .u64 x 6148914691236517205))) 3689348814741910323))) 4) + (IntKind.u64.wrap ((bits .and .u64 (shrK .u64 (IntKind.u64.wrap ((bits .and .u64 (shrK .u64 x 1) 6148914691236517205) + (bits .and .u64 x 6148914691236517205))) 2) 3689348814741910323) + (bits .and .u64 (IntKind.u64.wrap ((bits .and .u64 (shrK .u64 x 1) 6148914691236517205) + (bits .and .u64 x 6148914691236517205))) 3689348814741910323))))) 1085102592571150095) + (shrK .u64 (bits .and .u64 (IntKind.u64.wrap ((shrK .u64 (IntKind.u64.wrap ((bits .and .u64 (shrK .u64 (IntKind.u64.wrap ((bits .and .u64 (shrK .u64 x 1) 6148914691236517205) + (bits .and .u64 x 6148914691236517205))) 2) 3689348814741910323) + (bits .and .u64 (IntKind.u64.wrap ((bits .and .u64 (shrK .u64 x 1) 6148914691236517205) + (bits .and .u64 x 6148914691236517205))) 3689348814741910323))) 4) + (IntKind.u64.wrap ((bits .and .u64 (shrK .u64 (IntKind.u64.wrap ((bits .and .u64 (shrK .u64 x 1) 6148914691236517205) + (bits .and .u64 x 6148914691236517205))) 2) 3689348814741910323) + (bits .and .u64 (IntKind.u64.wrap ((bits .and .u64 (shrK .u64 x 1) 6148914691236517205) + (bits .and .u64 x 6148914691236517205))) 3689348814741910323))))) 1085102592571150095) 8))) + (shrK .u64 (IntKind.u64.wrap ((bits .and .u64 (IntKind.u64.wrap ((shrK .u64 (IntKind.u64.wrap ((bits .and .u64 (shrK .u64 (IntKind.u64.wrap ((bits .and .u64 (shrK .u64 x 1) 6148914691236517205) + (bits .and .u64 x 6148914691236517205))) 2) 3689348814741910323) + (bits .and .u64 (IntKind.u64.wrap ((bits .and .u64 (shrK .u64 x 1) 6148914691236517205) + (bits .and .u64 x 6148914691236517205))) 3689348814741910323))) 4) + (IntKind.u64.wrap ((bits .and .u64 (shrK .u64 (IntKind.u64.wrap ((bits .and .u64 (shrK .u64 x 1) 6148914691236517205) + (bits .and .u64 x 6148914691236517205))) 2) 3689348814741910323) + (bits .and .u64 (IntKind.u64.wrap ((bits .and .u64 (shrK .u64 x 1) 6148914691236517205) + (bits .and .u64 x 6148914691236517205))) 3689348814741910323))))) 1085102592571150095) + (shrK .u64 (bits .and .u64 (IntKind.u64.wrap ((shrK .u64 (IntKind.u64.wrap ((bits .and .u64 (shrK .u64 (IntKind.u64.wrap ((bits .and .u64 (shrK .u64 x 1) 6148914691236517205) + (bits .and .u64 x 6148914691236517205))) 2) 3689348814741910323) + (bits .and .u64 (IntKind.u64.wrap ((bits .and .u64 (shrK .u64 x 1) 6148914691236517205) + (bits .and .u64 x 6148914691236517205))) 3689348814741910323))) 4) + (IntKind.u64.wrap ((bits .and .u64 (shrK .u64 (IntKind.u64.wrap ((bits .and .u64 (shrK .u64 x 1) 6148914691236517205) + (bits .and .u64 x 6148914691236517205))) 2) 3689348814741910323) + (bits .and .u64 (IntKind.u64.wrap ((bits .and .u64 (shrK .u64 x 1) 6148914691236517205) + (bits .and .u64 x 6148914691236517205))) 3689348814741910323))))) 1085102592571150095) 8))) 16)))) rfl rfl) ?_
 refine sQ 30 (Y_shr (k := .u64) (a := (IntKind.u64.wrap ((IntKind.u64.wrap ((bits .and .u64 (IntKind.u64.wrap ((shrK .u64 (IntKind.u64.wrap ((bits .and .u64 (shrK .u64 (IntKind.u64.wrap ((bits .and .u64 (shrK .u64 x 1) 6148914691236517205) + (bits .and .u64 x 6148914691236517205))) 2) 3689348814741910323) + (bits .and .u64 (IntKind.u64.wrap ((bits .and .u64 (shrK .u64 x 1) 6148914691236517205) + (bits .and .u64 x 6148914691236517205))) 3689348814741910323))) 4) + (IntKind.u64.wrap ((bits .and .u64 (shrK .u64 (IntKind.u64.wrap ((bits .and .u64 (shrK .u64 x 1) 6148914691236517205) + (bits .and .u64 x 6148914691236517205))) 2) 3689348814741910323) + (bits .and .u64 (IntKind.u64.wrap ((bits .and .u64 (shrK .u64 x 1) 6148914691236517205) + (bits .and .u64 x 6148914691236517205))) 3689348814741910323))))) 1085102592571150095) + (shrK .u64 (bits .and .u64 (IntKind.u64.wrap ((shrK .u64 (IntKind.u64.wrap ((bits .and .u64 (shrK .u64 (IntKind.u64.wrap ((bits .and .u64 (shrK .u64 x 1) 6148914691236517205) + (bits .and .u64 x 6148914691236517205))) 2) 3689348814741910323) + (bits .and .u64 (IntKind.u64.wrap ((bits .and .u64 (shrK .u64 x 1) 6148914691236517205) + (bits .and .u64 x 6148914691236517205))) 3689348814741910323))) 4) + (IntKind.u64.wrap ((bits .and .u64 (shrK .u64 (IntKind.u64.wrap ((bits .and .u64 (shrK .u64 x 1) 6148914691236517205) + (bits .and .u64 x 6148914691236517205))) 2) 3689348814741910323) + (bits .and .u64 (IntKind.u64.wrap ((bits .and .u64 (shrK .u64 x 1) 6148914691236517205) + (bits .and .u64 x 6148914691236517205))) 3689348814741910323))))) 1085102592571150095) 8))) + (shrK .u64 (IntKind.u64.wrap ((bits .and .u64 (IntKind.u64.wrap ((shrK .u64 (IntKind.u64.wrap ((bits .and .u64 (shrK .u64 (IntKind.u64.wrap ((bits .and .u64 (shrK .u64 x 1) 6148914691236517205) + (bits .and .u64 x 6148914691236517205))) 2) 3689348814741910323) + (bits .and .u64 (IntKind.u64.wrap ((bits .and .u64 (shrK .u64 x 1) 6148914691236517205) + (bits .and .u64 x 6148914691236517205))) 3689348814741910323))) 4) + (IntKind.u64.wrap ((bits .and .u64 (shrK .u64 (IntKind.u64.wrap ((bits .and .u64 (shrK .u64 x 1) 6148914691236517205) + (bits .and .u64 x 6148914691236517205))) 2) 3689348814741910323) + (bits .and .u64 (IntKind.u64.wrap ((bits .and .u64 (shrK .u64 x 1) 6148914691236517205) + (bits .and .u64 x 6148914691236517205))) 3689348814741910323))))) 1085102592571150095) + (shrK .u64 (bits .and .u64 (IntKind.u64.wrap ((shrK .u64 (IntKind.u64.wrap ((bits .and .u64 (shrK .u64 (IntKind.u64.wrap ((bits .and .u64 (shrK .u64 x 1) 6148914691236517205) + (bits .and .u64 x 6148914691236517205))) 2) 3689348814741910323) + (bits .and .u64 (IntKind.u64.wrap ((bits .and .u64 (shrK .u64 x 1) 6148914691236517205) + (bits .and .u64 x 6148914691236517205))) 3689348814741910323))) 4) + (IntKind.u64.wrap ((bits .and .u64 (shrK .u64 (IntKind.u64.wrap ((bits .and .u64 (shrK .u64 x 1) 6148914691236517205) + (bits .and .u64 x 6148914691236517205))) 2) 3689348814741910323) + (bits .and .u64 (IntKind.u64.wrap ((bits .and .u64 (shrK .u64 x 1) 6148914691236517205) + (bits .and .u64 x 6148914691236517205))) 3689348814741910323))))) 1085102592571150095) 8))) 16)))) (k' := .u64) (b := 32) rfl rfl rfl (by decide)) ?_
 refine sQ 31 (Y_add (k := .u64) (a := (IntKind.u64.wrap ((IntKind.u64.wrap ((bits .and .u64 (IntKind.u64.wrap ((shrK .u64 (IntKind.u64.wrap ((bits .and .u64 (shrK .u64 (IntKind.u64.wrap ((bits .and .u64 (shrK .u64 x 1) 6148914691236517205) + (bits .and .u64 x 6148914691236517205))) 2) 3689348814741910323) + (bits .and .u64 (IntKind.u64.wrap ((bits .and .u64 (shrK .u64 x 1) 6148914691236517205) + (bits .and .u64 x 6148914691236517205))) 3689348814741910323))) 4) + (IntKind.u64.wrap ((bits .and .u64 (shrK .u64 (IntKind.u64.wrap ((bits .and .u64 (shrK .u64 x 1) 6148914691236517205) + (bits .and .u64 x 6148914691236517205))) 2) 3689348814741910323) + (bits .and .u64 (IntKind.u64.wrap ((bits .and .u64 (shrK .u64 x 1) 6148914691236517205) + (bits .and .u64 x 6148914691236517205))) 3689348814741910323))))) 1085102592571150095) + (shrK .u64 (bits .and .u64 (IntKind.u64.wrap ((shrK .u64 (IntKind.u64.wrap ((bits .and .u64 (shrK .u64 (IntKind.u64.wrap ((bits .and .u64 (shrK .u64 x 1) 6148914691236517205) + (bits .and .u64 x 6148914691236517205))) 2) 3689348814741910323) + (bits .and .u64 (IntKind.u64.wrap ((bits .and .u64 (shrK .u64 x 1) 6148914691236517205) + (bits .and .u64 x 6148914691236517205))) 3689348814741910323))) 4) + (IntKind.u64.wrap ((bits .and .u64 (shrK .u64 (IntKind.u64.wrap ((bits .and .u64 (shrK .u64 x 1) 6148914691236517205) + (bits .and .u64 x 6148914691236517205))) 2) 3689348814741910323) + (bits .and .u64 (IntKind.u64.wrap ((bits .and .u64 (shrK .u64 x 1) 6148914691236517205) + (bits .and .u64 x 6148914691236517205))) 3689348814741910323))))) 1085102592571150095) 8))) + (shrK .u64 (IntKind.u64.wrap ((bits .and .u64 (IntKind.u64.wrap ((shrK .u64 (IntKind.u64.wrap ((bits .and .u64 (shrK .u64 (IntKind.u64.wrap ((bits .and .u64 (shrK .u64 x 1) 6148914691236517205) + (bits .and .u64 x 6148914691236517205))) 2) 3689348814741910323) + (bits .and .u64 (IntKind.u64.wrap ((bits .and .u64 (shrK .u64 x 1) 6148914691236517205) + (bits .and .u64 x 6148914691236517205))) 3689348814741910323))) 4) + (IntKind.u64.wrap ((bits .and .u64 (shrK .u64 (IntKind.u64.wrap ((bits .and .u64 (shrK .u64 x 1) 6148914691236517205) + (bits .and .u64 x 6148914691236517205))) 2) 3689348814741910323) + (bits .and .u64 (IntKind.u64.wrap ((bits .and .u64 (shrK .u64 x 1) 6148914691236517205) + (bits .and .u64 x 6148914691236517205))) 3689348814741910323))))) 1085102592571150095) + (shrK .u64 (bits .and .u64 (IntKind.u64.wrap ((shrK .u64 (IntKind.u64.wrap ((bits .and .u64 (shrK .u64 (IntKind.u64.wrap ((bits .and .u64 (shrK .u64 x 1) 6148914691236517205) + (bits .and .u64 x 6148914691236517205))) 2) 3689348814741910323) + (bits .and .u64 (IntKind.u64.wrap ((bits .and .u64 (shrK .u64 x 1) 6148914691236517205) + (bits .and .u64 x 6148914691236517205))) 3689348814741910323))) 4) + (IntKind.u64.wrap ((bits .and .u64 (shrK .u64 (IntKind.u64.wrap ((bits .and .u64 (shrK .u64 x 1) 6148914691236517205) + (bits .and .u64 x 6148914691236517205))) 2) 3689348814741910323) + (bits .and .u64 (IntKind.u64.wrap ((bits .and .u64 (shrK .u64 x 1) 6148914691236517205) + (bits .and .u64 x 6148914691236517205))) 3689348814741910323))))) 1085102592571150095) 8))) 16)))) (b := (shrK .u64 (IntKind.u64.wrap ((IntKind.u64.wrap ((bits .and .u64 (IntKind.u64.wrap ((shrK .u64 (IntKind.u64.wrap ((bits .and .u64 (shrK .u64 (IntKind.u64.wrap ((bits .and .u64 (shrK .u64 x 1) 6148914691236517205) + (bits .and .u64 x 6148914691236517205))) 2) 3689348814741910323) + (bits .and .u64 (IntKind.u64.wrap ((bits .and .u64 (shrK .u64 x 1) 6148914691236517205) + (bits .and .u64 x 6148914691236517205))) 3689348814741910323))) 4) + (IntKind.u64.wrap ((bits .and .u64 (shrK .u64 (IntKind.u64.wrap ((bits .and .u64 (shrK .u64 x 1) 6148914691236517205) + (bits .and .u64 x 6148914691236517205))) 2) 3689348814741910323) + (bits .and .u64 (IntKind.u64.wrap ((bits .and .u64 (shrK .u64 x 1) 6148914691236517205) + (bits .and .u64 x 6148914691236517205))) 3689348814741910323))))) 1085102592571150095) + (shrK .u64 (bits .and .u64 (IntKind.u64.wrap ((shrK .u64 (IntKind.u64.wrap ((bits .and .u64 (shrK .u64 (IntKind.u64.wrap ((bits .and .u64 (shrK .u64 x 1) 6148914691236517205) + (bits .and .u64 x 6148914691236517205))) 2) 3689348814741910323) + (bits .and .u64 (IntKind.u64.wrap ((bits .and .u64 (shrK .u64 x 1) 6148914691236517205) + (bits .and .u64 x 6148914691236517205))) 3689348814741910323))) 4) + (IntKind.u64.wrap ((bits .and .u64 (shrK .u64 (IntKind.u64.wrap ((bits .and .u64 (shrK .u64 x 1) 6148914691236517205) + (bits .and .u64 x 6148914691236517205))) 2) 3689348814741910323) + (bits .and .u64 (IntKind.u64.wrap ((bits .and .u64 (shrK .u64 x 1) 6148914691236517205) + (bits .and .u64 x 6148914691236517205))) 3689348814741910323))))) 1085102592571150095) 8))) + (shrK .u64 (IntKind.u64.wrap ((bits .and .u64 (IntKind.u64.wrap ((shrK .u64 (IntKind.u64.wrap ((bits .and .u64 (shrK .u64 (IntKind.u64.wrap ((bits .and .u64 (shrK .u64 x 1) 6148914691236517205) + (bits .and .u64 x 6148914691236517205))) 2) 3689348814741910323) + (bits .and .u64 (IntKind.u64.wrap ((bits .and .u64 (shrK .u64 x 1) 6148914691236517205) + (bits .and .u64 x 6148914691236517205))) 3689348814741910323))) 4) + (IntKind.u64.wrap ((bits .and .u64 (shrK .u64 (IntKind.u64.wrap ((bits .and .u64 (shrK .u64 x 1) 6148914691236517205) + (bits .and .u64 x 6148914691236517205))) 2) 3689348814741910323) + (bits .and .u64 (IntKind.u64.wrap ((bits .and .u64 (shrK .u64 x 1) 6148914691236517205) + (bits .and .u64 x 6148914691236517205))) 3689348814741910323))))) 1085102592571150095) + (shrK .u64 (bits .and .u64 (IntKind.u64.wrap ((shrK .u64 (IntKind.u64.wrap ((bits .and .u64 (shrK .u64 (IntKind.u64.wrap ((bits .and .u64 (shrK .u64 x 1) 6148914691236517205) + (bits .and .u64 x 6148914691236517205))) 2) 3689348814741910323) + (bits .and .u64 (IntKind.u64.wrap ((bits .and .u64 (shrK .u64 x 1) 6148914691236517205) + (bits .and .u64 x 6148914691236517205))) 3689348814741910323))) 4) + (IntKind.u64.wrap ((bits .and .u64 (shrK .u64 (IntKind.u64.wrap ((bits .and .u64 (shrK .u64 x 1) 6148914691236517205) + (bits .and .u64 x 6148914691236517205))) 2) 3689348814741910323) + (bits .and .u64 (IntKind.u64.wrap ((bits .and .u64 (shrK .u64 x 1) 6148914691236517205) + (bits .and .u64 x 6148914691236517205))) 3689348814741910323))))) 1085102592571150095) 8))) 16))) 32)) rfl rfl rfl) ?_
 refine sQ 0 (Y_assign (v := .int .u64 (IntKind.u64.wrap ((IntKind.u64.wrap ((IntKind.u64.wrap ((bits .and .u64 (IntKind.u64.wrap ((shrK .u64 (IntKind.u64.wrap ((bits .and .u64 (shrK .u64 (IntKind.u64.wrap ((bits .and .u64 (shrK .u64 x 1) 6148914691236517205) + (bits .and .u64 x 6148914691236517205))) 2) 3689348814741910323) + (bits .and .u64 (IntKind.u64.wrap ((bits .and .u64 (shrK .u64 x 1) 6148914691236517205) + (bits .and .u64 x 6148914691236517205))) 3689348814741910323))) 4) + (IntKind.u64.wrap ((bits .and .u64 (shrK .u64 (IntKind.u64.wrap ((bits .and .u64 (shrK .u64 x 1) 6148914691236517205) + (bits .and .u64 x 6148914691236517205))) 2) 3689348814741910323) + (bits .and .u64 (IntKind.u64.wrap ((bits .and .u64 (shrK .u64 x 1) 6148914691236517205) + (bits .and .u64 x 6148914691236517205))) 3689348814741910323))))) 1085102592571150095) + (shrK .u64 (bits .and .u64 (IntKind.u64.wrap ((shrK .u64 (IntKind.u64.wrap ((bits .and .u64 (shrK .u64 (IntKind.u64.wrap ((bits .and .u64 (shrK .u64 x 1) 6148914691236517205) + (bits .and .u64 x 6148914691236517205))) 2) 3689348814741910323) + (bits .and .u64 (IntKind.u64.wrap ((bits .and .u64 (shrK .u64 x 1) 6148914691236517205) + (bits .and .u64 x 6148914691236517205))) 3689348814741910323))) 4) + (IntKind.u64.wrap ((bits .and .u64 (shrK .u64 (IntKind.u64.wrap ((bits .and .u64 (shrK .u64 x 1) 6148914691236517205) + (bits .and .u64 x 6148914691236517205))) 2) 3689348814741910323) + (bits .and .u64 (IntKind.u64.wrap ((bits .and .u64 (shrK .u64 x 1) 6148914691236517205) + (bits .and .u64 x 6148914691236517205))) 3689348814741910323))))) 1085102592571150095) 8))) + (shrK .u64 (IntKind.u64.wrap ((bits .and .u64 (IntKind.u64.wrap ((shrK .u64 (IntKind.u64.wrap ((bits .and .u64 (shrK .u64 (IntKind.u64.wrap ((bits .and .u64 (shrK .u64 x 1) 6148914691236517205) + (bits .and .u64 x 6148914691236517205))) 2) 3689348814741910323) + (bits .and .u64 (IntKind.u64.wrap ((bits .and .u64 (shrK .u64 x 1) 6148914691236517205) + (bits .and .u64 x 6148914691236517205))) 3689348814741910323))) 4) + (IntKind.u64.wrap ((bits .and .u64 (shrK .u64 (IntKind.u64.wrap ((bits .and .u64 (shrK .u64 x 1) 6148914691236517205) + (bits .and .u64 x 6148914691236517205))) 2) 3689348814741910323) + (bits .and .u64 (IntKind.u64.wrap ((bits .and .u64 (shrK .u64 x 1) 6148914691236517205) + (bits .and .u64 x 6148914691236517205))) 3689348814741910323))))) 1085102592571150095) + (shrK .u64 (bits .and .u64 (IntKind.u64.wrap ((shrK .u64 (IntKind.u64.wrap ((bits .and .u64 (shrK .u64 (IntKind.u64.wrap ((bits .and .u64 (shrK .u64 x 1) 6148914691236517205) + (bits .and .u64 x 6148914691236517205))) 2) 3689348814741910323) + (bits .and .u64 (IntKind.u64.wrap ((bits .and .u64 (shrK .u64 x 1) 6148914691236517205) + (bits .and .u64 x 6148914691236517205))) 3689348814741910323))) 4) + (IntKind.u64.wrap ((bits .and .u64 (shrK .u64 (IntKind.u64.wrap ((bits .and .u64 (shrK .u64 x 1) 6148914691236517205) + (bits .and .u64 x 6148914691236517205))) 2) 3689348814741910323) + (bits .and .u64 (IntKind.u64.wrap ((bits .and .u64 (shrK .u64 x 1) 6148914691236517205) + (bits .and .u64 x 6148914691236517205))) 3689348814741910323))))) 1085102592571150095) 8))) 16))) + (shrK .u64 (IntKind.u64.wrap ((IntKind.u64.wrap ((bits .and .u64 (IntKind.u64.wrap ((shrK .u64 (IntKind.u64.wrap ((bits .and .u64 (shrK .u64 (IntKind.u64.wrap ((bits .and .u64 (shrK .u64 x 1) 6148914691236517205) + (bits .and .u64 x 6148914691236517205))) 2) 3689348814741910323) + (bits .and .u64 (IntKind.u64.wrap ((bits .and .u64 (shrK .u64 x 1) 6148914691236517205) + (bits .and .u64 x 6148914691236517205))) 3689348814741910323))) 4) + (IntKind.u64.wrap ((bits .and .u64 (shrK .u64 (IntKind.u64.wrap ((bits .and .u64 (shrK .u64 x 1) 6148914691236517205) + (bits .and .u64 x 6148914691236517205))) 2) 3689348814741910323) + (bits .and .u64 (IntKind.u64.wrap ((bits .and .u64 (shrK .u64 x 1) 6148914691236517205) + (bits .and .u64 x 6148914691236517205))) 3689348814741910323))))) 1085102592571150095) + (shrK .u64 (bits .and .u64 (IntKind.u64.wrap ((shrK .u64 (IntKind.u64.wrap ((bits .and .u64 (shrK .u64 (IntKind.u64.wrap ((bits .and .u64 (shrK .u64 x 1) 6148914691236517205) + (bits .and .u64 x 6148914691236517205))) 2) 3689348814741910323) + (bits .and .u64 (IntKind.u64.wrap ((bits .and .u64 (shrK .u64 x 1) 6148914691236517205) + (bits .and .u64 x 6148914691236517205))) 3689348814741910323))) 4) + (IntKind.u64.wrap ((bits .and .u64 (shrK .u64 (IntKind.u64.wrap ((bits .and .u64 (shrK .u64 x 1) 6148914691236517205) + (bits .and .u64 x 6148914691236517205))) 2) 3689348814741910323) + (bits .and .u64 (IntKind.u64.wrap ((bits .and .u64 (shrK .u64 x 1) 6148914691236517205) + (bits .and .u64 x 6148914691236517205))) 3689348814741910323))))) 1085102592571150095) 8))) + (shrK .u64 (IntKind.u64.wrap ((bits .and .u64 (IntKind.u64.wrap ((shrK .u64 (IntKind.u64.wrap ((bits .and .u64 (shrK .u64 (IntKind.u64.wrap ((bits .and .u64 (shrK .u64 x 1) 6148914691236517205) + (bits .and .u64 x 6148914691236517205))) 2) 3689348814741910323) + (bits .and .u64 (IntKind.u64.wrap ((bits .and .u64 (shrK .u64 x 1) 6148914691236517205) + (bits .and .u64 x 6148914691236517205))) 3689348814741910323))) 4) + (IntKind.u64.wrap ((bits .and .u64 (shrK .u64 (IntKind.u64.wrap ((bits .and .u64 (shrK .u64 x 1) 6148914691236517205) + (bits .and .u64 x 6148914691236517205))) 2) 3689348814741910323) + (bits .and .u64 (IntKind.u64.wrap ((bits .and .u64 (shrK .u64 x 1) 6148914691236517205) + (bits .and .u64 x 6148914691236517205))) 3689348814741910323))))) 1085102592571150095) + (shrK .u64 (bits .and .u64 (IntKind.u64.wrap ((shrK .u64 (IntKind.u64.wrap ((bits .and .u64 (shrK .u64 (IntKind.u64.wrap ((bits .and .u64 (shrK .u64 x 1) 6148914691236517205) + (bits .and .u64 x 6148914691236517205))) 2) 3689348814741910323) + (bits .and .u64 (IntKind.u64.wrap ((bits .and .u64 (shrK .u64 x 1) 6148914691236517205) + (bits .and .u64 x 6148914691236517205))) 3689348814741910323))) 4) + (IntKind.u64.wrap ((bits .and .u64 (shrK .u64 (IntKind.u64.wrap ((bits .and .u64 (shrK .u64 x 1) 6148914691236517205) + (bits .and .u64 x 6148914691236517205))) 2) 3689348814741910323) + (bits .and .u64 (IntKind.u64.wrap ((bits .and .u64 (shrK .u64 x 1) 6148914691236517205) + (bits .and .u64 x 6148914691236517205))) 3689348814741910323))))) 1085102592571150095) 8))) 16))) 32)))) rfl rfl) (rw_nil (cw_seq (cw_region ?_)))
 refine sQ 32 (Y_move (v := .int .u64 (IntKind.u64.wrap ((IntKind.u64.wrap ((IntKind.u64.wrap ((bits .and .u64 (IntKind.u64.wrap ((shrK .u64 (IntKind.u64.wrap ((bits .and .u64 (shrK .u64 (IntKind.u64.wrap ((bits .and .u64 (shrK .u64 x 1) 6148914691236517205) + (bits .and .u64 x 6148914691236517205))) 2) 3689348814741910323) + (bits .and .u64 (IntKind.u64.wrap ((bits .and .u64 (shrK .u64 x 1) 6148914691236517205) + (bits .and .u64 x 6148914691236517205))) 3689348814741910323))) 4) + (IntKind.u64.wrap ((bits .and .u64 (shrK .u64 (IntKind.u64.wrap ((bits .and .u64 (shrK .u64 x 1) 6148914691236517205) + (bits .and .u64 x 6148914691236517205))) 2) 3689348814741910323) + (bits .and .u64 (IntKind.u64.wrap ((bits .and .u64 (shrK .u64 x 1) 6148914691236517205) + (bits .and .u64 x 6148914691236517205))) 3689348814741910323))))) 1085102592571150095) + (shrK .u64 (bits .and .u64 (IntKind.u64.wrap ((shrK .u64 (IntKind.u64.wrap ((bits .and .u64 (shrK .u64 (IntKind.u64.wrap ((bits .and .u64 (shrK .u64 x 1) 6148914691236517205) + (bits .and .u64 x 6148914691236517205))) 2) 3689348814741910323) + (bits .and .u64 (IntKind.u64.wrap ((bits .and .u64 (shrK .u64 x 1) 6148914691236517205) + (bits .and .u64 x 6148914691236517205))) 3689348814741910323))) 4) + (IntKind.u64.wrap ((bits .and .u64 (shrK .u64 (IntKind.u64.wrap ((bits .and .u64 (shrK .u64 x 1) 6148914691236517205) + (bits .and .u64 x 6148914691236517205))) 2) 3689348814741910323) + (bits .and .u64 (IntKind.u64.wrap ((bits .and .u64 (shrK .u64 x 1) 6148914691236517205) + (bits .and .u64 x 6148914691236517205))) 3689348814741910323))))) 1085102592571150095) 8))) + (shrK .u64 (IntKind.u64.wrap ((bits .and .u64 (IntKind.u64.wrap ((shrK .u64 (IntKind.u64.wrap ((bits .and .u64 (shrK .u64 (IntKind.u64.wrap ((bits .and .u64 (shrK .u64 x 1) 6148914691236517205) + (bits .and .u64 x 6148914691236517205))) 2) 3689348814741910323) + (bits .and .u64 (IntKind.u64.wrap ((bits .and .u64 (shrK .u64 x 1) 6148914691236517205) + (bits .and .u64 x 6148914691236517205))) 3689348814741910323))) 4) + (IntKind.u64.wrap ((bits .and .u64 (shrK .u64 (IntKind.u64.wrap ((bits .and .u64 (shrK .u64 x 1) 6148914691236517205) + (bits .and .u64 x 6148914691236517205))) 2) 3689348814741910323) + (bits .and .u64 (IntKind.u64.wrap ((bits .and .u64 (shrK .u64 x 1) 6148914691236517205) + (bits .and .u64 x 6148914691236517205))) 3689348814741910323))))) 1085102592571150095) + (shrK .u64 (bits .and .u64 (IntKind.u64.wrap ((shrK .u64 (IntKind.u64.wrap ((bits .and .u64 (shrK .u64 (IntKind.u64.wrap ((bits .and .u64 (shrK .u64 x 1) 6148914691236517205) + (bits .and .u64 x 6148914691236517205))) 2) 3689348814741910323) + (bits .and .u64 (IntKind.u64.wrap ((bits .and .u64 (shrK .u64 x 1) 6148914691236517205) + (bits .and .u64 x 6148914691236517205))) 3689348814741910323))) 4) + (IntKind.u64.wrap ((bits .and .u64 (shrK .u64 (IntKind.u64.wrap ((bits .and .u64 (shrK .u64 x 1) 6148914691236517205) + (bits .and .u64 x 6148914691236517205))) 2) 3689348814741910323) + (bits .and .u64 (IntKind.u64.wrap ((bits .and .u64 (shrK .u64 x 1) 6148914691236517205) + (bits .and .u64 x 6148914691236517205))) 3689348814741910323))))) 1085102592571150095) 8))) 16))) + (shrK .u64 (IntKind.u64.wrap ((IntKind.u64.wrap ((bits .and .u64 (IntKind.u64.wrap ((shrK .u64 (IntKind.u64.wrap ((bits .and .u64 (shrK .u64 (IntKind.u64.wrap ((bits .and .u64 (shrK .u64 x 1) 6148914691236517205) + (bits .and .u64 x 6148914691236517205))) 2) 3689348814741910323) + (bits .and .u64 (IntKind.u64.wrap ((bits .and .u64 (shrK .u64 x 1) 6148914691236517205) + (bits .and .u64 x 6148914691236517205))) 3689348814741910323))) 4) + (IntKind.u64.wrap ((bits .and .u64 (shrK .u64 (IntKind.u64.wrap ((bits .and .u64 (shrK .u64 x 1) 6148914691236517205) + (bits .and .u64 x 6148914691236517205))) 2) 3689348814741910323) + (bits .and .u64 (IntKind.u64.wrap ((bits .and .u64 (shrK .u64 x 1) 6148914691236517205) + (bits .and .u64 x 6148914691236517205))) 3689348814741910323))))) 1085102592571150095) + (shrK .u64 (bits .and .u64 (IntKind.u64.wrap ((shrK .u64 (IntKind.u64.wrap ((bits .and .u64 (shrK .u64 (IntKind.u64.wrap ((bits .and .u64 (shrK .u64 x 1) 6148914691236517205) + (bits .and .u64 x 6148914691236517205))) 2) 3689348814741910323) + (bits .and .u64 (IntKind.u64.wrap ((bits .and .u64 (shrK .u64 x 1) 6148914691236517205) + (bits .and .u64 x 6148914691236517205))) 3689348814741910323))) 4) + (IntKind.u64.wrap ((bits .and .u64 (shrK .u64 (IntKind.u64.wrap ((bits .and .u64 (shrK .u64 x 1) 6148914691236517205) + (bits .and .u64 x 6148914691236517205))) 2) 3689348814741910323) + (bits .and .u64 (IntKind.u64.wrap ((bits .and .u64 (shrK .u64 x 1) 6148914691236517205) + (bits .and .u64 x 6148914691236517205))) 3689348814741910323))))) 1085102592571150095) 8))) + (shrK .u64 (IntKind.u64.wrap ((bits .and .u64 (IntKind.u64.wrap ((shrK .u64 (IntKind.u64.wrap ((bits .and .u64 (shrK .u64 (IntKind.u64.wrap ((bits .and .u64 (shrK .u64 x 1) 6148914691236517205) + (bits .and .u64 x 6148914691236517205))) 2) 3689348814741910323) + (bits .and .u64 (IntKind.u64.wrap ((bits .and .u64 (shrK .u64 x 1) 6148914691236517205) + (bits .and .u64 x 6148914691236517205))) 3689348814741910323))) 4) + (IntKind.u64.wrap ((bits .and .u64 (shrK .u64 (IntKind.u64.wrap ((bits .and .u64 (shrK .u64 x 1) 6148914691236517205) + (bits .and .u64 x 6148914691236517205))) 2) 3689348814741910323) + (bits .and .u64 (IntKind.u64.wrap ((bits .and .u64 (shrK .u64 x 1) 6148914691236517205) + (bits .and .u64 x 6148914691236517205))) 3689348814741910323))))) 1085102592571150095) + (shrK .u64 (bits .and .u64 (IntKind.u64.wrap ((shrK .u64 (IntKind.u64.wrap ((bits .and .u64 (shrK .u64 (IntKind.u64.wrap ((bits .and .u64 (shrK .u64 x 1) 6148914691236517205) + (bits .and .u64 x 6148914691236517205))) 2) 3689348814741910323) + (bits .and .u64 (IntKind.u64.wrap ((bits .and .u64 (shrK .u64 x 1) 6148914691236517205) + (bits .and .u64 x 6148914691236517205))) 3689348814741910323))) 4) + (IntKind.u64.wrap ((bits .and .u64 (shrK .u64 (IntKind.u64.wrap ((bits .and .u64 (shrK .u64 x 1) 6148914691236517205) + (bits .and .u64 x 6148914691236517205))) 2) 3689348814741910323) + (bits .and .u64 (IntKind.u64.wrap ((bits .and .u64 (shrK .u64 x 1) 6148914691236517205) + (bits .and .u64 x 6148914691236517205))) 3689348814741910323))))) 1085102592571150095) 8))) 16))) 32)))) rfl rfl) ?_
 refine sQ 33 (Y_conv (k := .u64) (a := (IntKind.u64.wrap ((IntKind.u64.wrap ((IntKind.u64.wrap ((bits .and .u64 (IntKind.u64.wrap ((shrK .u64 (IntKind.u64.wrap ((bits .and .u64 (shrK .u64 (IntKind.u64.wrap ((bits .and .u64 (shrK .u64 x 1) 6148914691236517205) + (bits .and .u64 x 6148914691236517205))) 2) 3689348814741910323) + (bits .and .u64 (IntKind.u64.wrap ((bits .and .u64 (shrK .u64 x 1) 6148914691236517205) + (bits .and .u64 x 6148914691236517205))) 3689348814741910323))) 4) + (IntKind.u64.wrap ((bits .and .u64 (shrK .u64 (IntKind.u64.wrap ((bits .and .u64 (shrK .u64 x 1) 6148914691236517205) + (bits .and .u64 x 6148914691236517205))) 2) 3689348814741910323) + (bits .and .u64 (IntKind.u64.wrap ((bits .and .u64 (shrK .u64 x 1) 6148914691236517205) + (bits .and .u64 x 6148914691236517205))) 3689348814741910323))))) 1085102592571150095) + (shrK .u64 (bits .and .u64 (IntKind.u64.wrap ((shrK .u64 (IntKind.u64.wrap ((bits .and .u64 (shrK .u64 (IntKind.u64.wrap ((bits .and .u64 (shrK .u64 x 1) 6148914691236517205) + (bits .and .u64 x 6148914691236517205))) 2) 3689348814741910323) + (bits .and .u64 (IntKind.u64.wrap ((bits .and .u64 (shrK .u64 x 1) 6148914691236517205) + (bits .and .u64 x 6148914691236517205))) 3689348814741910323))) 4) + (IntKind.u64.wrap ((bits .and .u64 (shrK .u64 (IntKind.u64.wrap ((bits .and .u64 (shrK .u64 x 1) 6148914691236517205) + (bits .and .u64 x 6148914691236517205))) 2) 3689348814741910323) + (bits .and .u64 (IntKind.u64.wrap ((bits .and .u64 (shrK .u64 x 1) 6148914691236517205) + (bits .and .u64 x 6148914691236517205))) 3689348814741910323))))) 1085102592571150095) 8))) + (shrK .u64 (IntKind.u64.wrap ((bits .and .u64 (IntKind.u64.wrap ((shrK .u64 (IntKind.u64.wrap ((bits .and .u64 (shrK .u64 (IntKind.u64.wrap ((bits .and .u64 (shrK .u64 x 1) 6148914691236517205) + (bits .and .u64 x 6148914691236517205))) 2) 3689348814741910323) + (bits .and .u64 (IntKind.u64.wrap ((bits .and .u64 (shrK .u64 x 1) 6148914691236517205) + (bits .and .u64 x 6148914691236517205))) 3689348814741910323))) 4) + (IntKind.u64.wrap ((bits .and .u64 (shrK .u64 (IntKind.u64.wrap ((bits .and .u64 (shrK .u64 x 1) 6148914691236517205) + (bits .and .u64 x 6148914691236517205))) 2) 3689348814741910323) + (bits .and .u64 (IntKind.u64.wrap ((bits .and .u64 (shrK .u64 x 1) 6148914691236517205) + (bits .and .u64 x 6148914691236517205))) 3689348814741910323))))) 1085102592571150095) + (shrK .u64 (bits .and .u64 (IntKind.u64.wrap ((shrK .u64 (IntKind.u64.wrap ((bits .and .u64 (shrK .u64 (IntKind.u64.wrap ((bits .and .u64 (shrK .u64 x 1) 6148914691236517205) + (bits .and .u64 x 6148914691236517205))) 2) 3689348814741910323) + (bits .and .u64 (IntKind.u64.wrap ((bits .and .u64 (shrK .u64 x 1) 6148914691236517205) + (bits .and .u64 x 6148914691236517205))) 3689348814741910323))) 4) + (IntKind.u64.wrap ((bits .and .u64 (shrK .u64 (IntKind.u64.wrap ((bits .and .u64 (shrK .u64 x 1) 6148914691236517205) + (bits .and .u64 x 6148914691236517205))) 2) 3689348814741910323) + (bits .and .u64 (IntKind.u64.wrap ((bits .and .u64 (shrK .u64 x 1) 6148914691236517205) + (bits .and .u64 x 6148914691236517205))) 3689348814741910323))))) 1085102592571150095) 8))) 16))) + (shrK .u64 (IntKind.u64.wrap ((IntKind.u64.wrap ((bits .and .u64 (IntKind.u64.wrap ((shrK .u64 (IntKind.u64.wrap ((bits .and .u64 (shrK .u64 (IntKind.u64.wrap ((bits .and .u64 (shrK .u64 x 1) 6148914691236517205) + (bits .and .u64 x 6148914691236517205))) 2) 3689348814741910323) + (bits .and .u64 (IntKind.u64.wrap ((bits .and .u64 (shrK .u64 x 1) 6148914691236517205) + (bits .and .u64 x 6148914691236517205))) 3689348814741910323))) 4) + (IntKind.u64.wrap ((bits .and .u64 (shrK .u64 (IntKind.u64.wrap ((bits .and .u64 (shrK .u64 x 1) 6148914691236517205) + (bits .and .u64 x 6148914691236517205))) 2) 3689348814741910323) + (bits .and .u64 (IntKind.u64.wrap ((bits .and .u64 (shrK .u64 x 1) 6148914691236517205) + (bits .and .u64 x 6148914691236517205))) 3689348814741910323))))) 1085102592571150095) + (shrK .u64 (bits .and .u64 (IntKind.u64.wrap ((shrK .u64 (IntKind.u64.wrap ((bits .and .u64 (shrK .u64 (IntKind.u64.wrap ((bits .and .u64 (shrK .u64 x 1) 6148914691236517205) + (bits .and .u64 x 6148914691236517205))) 2) 3689348814741910323) + (bits .and .u64 (IntKind.u64.wrap ((bits .and .u64 (shrK .u64 x 1) 6148914691236517205) + (bits .and .u64 x 6148914691236517205))) 3689348814741910323))) 4) + (IntKind.u64.wrap ((bits .and .u64 (shrK .u64 (IntKind.u64.wrap ((bits .and .u64 (shrK .u64 x 1) 6148914691236517205) + (bits .and .u64 x 6148914691236517205))) 2) 3689348814741910323) + (bits .and .u64 (IntKind.u64.wrap ((bits .and .u64 (shrK .u64 x 1) 6148914691236517205) + (bits .and .u64 x 6148914691236517205))) 3689348814741910323))))) 1085102592571150095) 8))) + (shrK .u64 (IntKind.u64.wrap ((bits .and .u64 (IntKind.u64.wrap ((shrK .u64 (IntKind.u64.wrap ((bits .and .u64 (shrK .u64 (IntKind.u64.wrap ((bits .and .u64 (shrK .u64 x 1) 6148914691236517205) + (bits .and .u64 x 6148914691236517205))) 2) 3689348814741910323) + (bits .and .u64 (IntKind.u64.wrap ((bits .and .u64 (shrK .u64 x 1) 6148914691236517205) + (bits .and .u64 x 6148914691236517205))) 3689348814741910323))) 4) + (IntKind.u64.wrap ((bits .and .u64 (shrK .u64 (IntKind.u64.wrap ((bits .and .u64 (shrK .u64 x 1) 6148914691236517205) + (bits .and .u64 x 6148914691236517205))) 2) 3689348814741910323) + (bits .and .u64 (IntKind.u64.wrap ((bits .and .u64 (shrK .u64 x 1) 6148914691236517205) + (bits .and .u64 x 6148914691236517205))) 3689348814741910323))))) 1085102592571150095) + (shrK .u64 (bits .and .u64 (IntKind.u64.wrap ((shrK .u64 (IntKind.u64.wrap ((bits .and .u64 (shrK .u64 (IntKind.u64.wrap ((bits .and .u64 (shrK .u64 x 1) 6148914691236517205) + (bits .and .u64 x 6148914691236517205))) 2) 3689348814741910323) + (bits .and .u64 (IntKind.u64.wrap ((bits .and .u64 (shrK .u64 x 1) 6148914691236517205) + (bits .and .u64 x 6148914691236517205))) 3689348814741910323))) 4) + (IntKind.u64.wrap ((bits .and .u64 (shrK .u64 (IntKind.u64.wrap ((bits .and .u64 (shrK .u64 x 1) 6148914691236517205) + (bits .and .u64 x 6148914691236517205))) 2) 3689348814741910323) + (bits .and .u64 (IntKind.u64.wrap ((bits .and .u64 (shrK .u64 x 1) 6148914691236517205) + (bits .and .u64 x 6148914691236517205))) 3689348814741910323))))) 1085102592571150095) 8))) 16))) 32)))) (T := 110) (T' := 3) k_us_110 k_int_3_i64 rfl rfl) ?_
 refine sQ 34 (Y_band (k := .i64) (a := (i64.wrap (IntKind.u64.wrap ((IntKind.u64.wrap ((IntKind.u64.wrap ((bits .and .u64 (IntKind.u64.wrap ((shrK .u64 (IntKind.u64.wrap ((bits .and .u64 (shrK .u64 (IntKind.u64.wrap ((bits .and .u64 (shrK .u64 x 1) 6148914691236517205) + (bits .and .u64 x 6148914691236517205))) 2) 3689348814741910323) + (bits .and .u64 (IntKind.u64.wrap ((bits .and .u64 (shrK .u64 x 1) 6148914691236517205) + (bits .and .u64 x 6148914691236517205))) 3689348814741910323))) 4) + (IntKind.u64.wrap ((bits .and .u64 (shrK .u64 (IntKind.u64.wrap ((bits .and .u64 (shrK .u64 x 1) 6148914691236517205) + (bits .and .u64 x 6148914691236517205))) 2) 3689348814741910323) + (bits .and .u64 (IntKind.u64.wrap ((bits .and .u64 (shrK .u64 x 1) 6148914691236517205) + (bits .and .u64 x 6148914691236517205))) 3689348814741910323))))) 1085102592571150095) + (shrK .u64 (bits .and .u64 (IntKind.u64.wrap ((shrK .u64 (IntKind.u64.wrap ((bits .and .u64 (shrK .u64 (IntKind.u64.wrap ((bits .and .u64 (shrK .u64 x 1) 6148914691236517205) + (bits .and .u64 x 6148914691236517205))) 2) 3689348814741910323) + (bits .and .u64 (IntKind.u64.wrap ((bits .and .u64 (shrK .u64 x 1) 6148914691236517205) + (bits .and .u64 x 6148914691236517205))) 3689348814741910323))) 4) + (IntKind.u64.wrap ((bits .and .u64 (shrK .u64 (IntKind.u64.wrap ((bits .and .u64 (shrK .u64 x 1) 6148914691236517205) + (bits .and .u64 x 6148914691236517205))) 2) 3689348814741910323) + (bits .and .u64 (IntKind.u64.wrap ((bits .and .u64 (shrK .u64 x 1) 6148914691236517205) + (bits .and .u64 x 6148914691236517205))) 3689348814741910323))))) 1085102592571150095) 8))) + (shrK .u64 (IntKind.u64.wrap ((bits .and .u64 (IntKind.u64.wrap ((shrK .u64 (IntKind.u64.wrap ((bits .and .u64 (shrK .u64 (IntKind.u64.wrap ((bits .and .u64 (shrK .u64 x 1) 6148914691236517205) + (bits .and .u64 x 6148914691236517205))) 2) 3689348814741910323) + (bits .and .u64 (IntKind.u64.wrap ((bits .and .u64 (shrK .u64 x 1) 6148914691236517205) + (bits .and .u64 x 6148914691236517205))) 3689348814741910323))) 4) + (IntKind.u64.wrap ((bits .and .u64 (shrK .u64 (IntKind.u64.wrap ((bits .and .u64 (shrK .u64 x 1) 6148914691236517205) + (bits .and .u64 x 6148914691236517205))) 2) 3689348814741910323) + (bits .and .u64 (IntKind.u64.wrap ((bits .and .u64 (shrK .u64 x 1) 6148914691236517205) + (bits .and .u64 x 6148914691236517205))) 3689348814741910323))))) 1085102592571150095) + (shrK .u64 (bits .and .u64 (IntKind.u64.wrap ((shrK .u64 (IntKind.u64.wrap ((bits .and .u64 (shrK .u64 (IntKind.u64.wrap ((bits .and .u64 (shrK .u64 x 1) 6148914691236517205) + (bits .and .u64 x 6148914691236517205))) 2) 3689348814741910323) + (bits .and .u64 (IntKind.u64.wrap ((bits .and .u64 (shrK .u64 x 1) 6148914691236517205) + (bits .and .u64 x 6148914691236517205))) 3689348814741910323))) 4) + (IntKind.u64.wrap ((bits .and .u64 (shrK .u64 (IntKind.u64.wrap ((bits .and .u64 (shrK .u64 x 1) 6148914691236517205) + (bits .and .u64 x 6148914691236517205))) 2) 3689348814741910323) + (bits .and .u64 (IntKind.u64.wrap ((bits .and .u64 (shrK .u64 x 1) 6148914691236517205) + (bits .and .u64 x 6148914691236517205))) 3689348814741910323))))) 1085102592571150095) 8))) 16))) + (shrK .u64 (IntKind.u64.wrap ((IntKind.u64.wrap ((bits .and .u64 (IntKind.u64.wrap ((shrK .u64 (IntKind.u64.wrap ((bits .and .u64 (shrK .u64 (IntKind.u64.wrap ((bits .and .u64 (shrK .u64 x 1) 6148914691236517205) + (bits .and .u64 x 6148914691236517205))) 2) 3689348814741910323) + (bits .and .u64 (IntKind.u64.wrap ((bits .and .u64 (shrK .u64 x 1) 6148914691236517205) + (bits .and .u64 x 6148914691236517205))) 3689348814741910323))) 4) + (IntKind.u64.wrap ((bits .and .u64 (shrK .u64 (IntKind.u64.wrap ((bits .and .u64 (shrK .u64 x 1) 6148914691236517205) + (bits .and .u64 x 6148914691236517205))) 2) 3689348814741910323) + (bits .and .u64 (IntKind.u64.wrap ((bits .and .u64 (shrK .u64 x 1) 6148914691236517205) + (bits .and .u64 x 6148914691236517205))) 3689348814741910323))))) 1085102592571150095) + (shrK .u64 (bits .and .u64 (IntKind.u64.wrap ((shrK .u64 (IntKind.u64.wrap ((bits .and .u64 (shrK .u64 (IntKind.u64.wrap ((bits .and .u64 (shrK .u64 x 1) 6148914691236517205) + (bits .and .u64 x 6148914691236517205))) 2) 3689348814741910323) + (bits .and .u64 (IntKind.u64.wrap ((bits .and .u64 (shrK .u64 x 1) 6148914691236517205) + (bits .and .u64 x 6148914691236517205))) 3689348814741910323))) 4) + (IntKind.u64.wrap ((bits .and .u64 (shrK .u64 (IntKind.u64.wrap ((bits .and .u64 (shrK .u64 x 1) 6148914691236517205) + (bits .and .u64 x 6148914691236517205))) 2) 3689348814741910323) + (bits .and .u64 (IntKind.u64.wrap ((bits .and .u64 (shrK .u64 x 1) 6148914691236517205) + (bits .and .u64 x 6148914691236517205))) 3689348814741910323))))) 1085102592571150095) 8))) + (shrK .u64 (IntKind.u64.wrap ((bits .and .u64 (IntKind.u64.wrap ((shrK .u64 (IntKind.u64.wrap ((bits .and .u64 (shrK .u64 (IntKind.u64.wrap ((bits .and .u64 (shrK .u64 x 1) 6148914691236517205) + (bits .and .u64 x 6148914691236517205))) 2) 3689348814741910323) + (bits .and .u64 (IntKind.u64.wrap ((bits .and .u64 (shrK .u64 x 1) 6148914691236517205) + (bits .and .u64 x 6148914691236517205))) 3689348814741910323))) 4) + (IntKind.u64.wrap ((bits .and .u64 (shrK .u64 (IntKind.u64.wrap ((bits .and .u64 (shrK .u64 x 1) 6148914691236517205) + (bits .and .u64 x 6148914691236517205))) 2) 3689348814741910323) + (bits .and .u64 (IntKind.u64.wrap ((bits .and .u64 (shrK .u64 x 1) 6148914691236517205) + (bits .and .u64 x 6148914691236517205))) 3689348814741910323))))) 1085102592571150095) + (shrK .u64 (bits .and .u64 (IntKind.u64.wrap ((shrK .u64 (IntKind.u64.wrap ((bits .and .u64 (shrK .u64 (IntKind.u64.wrap ((bits .and .u64 (shrK .u64 x 1) 6148914691236517205) + (bits .and .u64 x 6148914691236517205))) 2) 3689348814741910323) + (bits .and .u64 (IntKind.u64.wrap ((bits .and .u64 (shrK .u64 x 1) 6148914691236517205) + (bits .and .u64 x 6148914691236517205))) 3689348814741910323))) 4) + (IntKind.u64.wrap ((bits .and .u64 (shrK .u64 (IntKind.u64.wrap ((bits .and .u64 (shrK .u64 x 1) 6148914691236517205) + (bits .and .u64 x 6148914691236517205))) 2) 3689348814741910323) + (bits .and .u64 (IntKind.u64.wrap ((bits .and .u64 (shrK .u64 x 1) 6148914691236517205) + (bits .and .u64 x 6148914691236517205))) 3689348814741910323))))) 1085102592571150095) 8))) 16))) 32))))) (b := 127) rfl rfl rfl) ?_
 refine sQ 2 (Y_assign (v := vi (bits .and .i64 (i64.wrap (IntKind.u64.wrap ((IntKind.u64.wrap ((IntKind.u64.wrap ((bits .and .u64 (IntKind.u64.wrap ((shrK .u64 (IntKind.u64.wrap ((bits .and .u64 (shrK .u64 (IntKind.u64.wrap ((bits .and .u64 (shrK .u64 x 1) 6148914691236517205) + (bits .and .u64 x 6148914691236517205))) 2) 3689348814741910323) + (bits .and .u64 (IntKind.u64.wrap ((bits .and .u64 (shrK .u64 x 1) 6148914691236517205) + (bits .and .u64 x 6148914691236517205))) 3689348814741910323))) 4) + (IntKind.u64.wrap ((bits .and .u64 (shrK .u64 (IntKind.u64.wrap ((bits .and .u64 (shrK .u64 x 1) 6148914691236517205) + (bits .and .u64 x 6148914691236517205))) 2) 3689348814741910323) + (bits .and .u64 (IntKind.u64.wrap ((bits .and .u64 (shrK .u64 x 1) 6148914691236517205) + (bits .and .u64 x 6148914691236517205))) 3689348814741910323))))) 1085102592571150095) + (shrK .u64 (bits .and .u64 (IntKind.u64.wrap ((shrK .u64 (IntKind.u64.wrap ((bits .and .u64 (shrK .u64 (IntKind.u64.wrap ((bits .and .u64 (shrK .u64 x 1) 6148914691236517205) + (bits .and .u64 x 6148914691236517205))) 2) 3689348814741910323) + (bits .and .u64 (IntKind.u64.wrap ((bits .and .u64 (shrK .u64 x 1) 6148914691236517205) + (bits .and .u64 x 6148914691236517205))) 3689348814741910323))) 4) + (IntKind.u64.wrap ((bits .and .u64 (shrK .u64 (IntKind.u64.wrap ((bits .and .u64 (shrK .u64 x 1) 6148914691236517205) + (bits .and .u64 x 6148914691236517205))) 2) 3689348814741910323) + (bits .and .u64 (IntKind.u64.wrap ((bits .and .u64 (shrK .u64 x 1) 6148914691236517205) + (bits .and .u64 x 6148914691236517205))) 3689348814741910323))))) 1085102592571150095) 8))) + (shrK .u64 (IntKind.u64.wrap ((bits .and .u64 (IntKind.u64.wrap ((shrK .u64 (IntKind.u64.wrap ((bits .and .u64 (shrK .u64 (IntKind.u64.wrap ((bits .and .u64 (shrK .u64 x 1) 6148914691236517205) + (bits .and .u64 x 6148914691236517205))) 2) 3689348814741910323) + (bits .and .u64 (IntKind.u64.wrap ((bits .and .u64 (shrK .u64 x 1) 6148914691236517205) + (bits .and .u64 x 6148914691236517205))) 3689348814741910323))) 4) + (IntKind.u64.wrap ((bits .and .u64 (shrK .u64 (IntKind.u64.wrap ((bits .and .u64 (shrK .u64 x 1) 6148914691236517205) + (bits .and .u64 x 6148914691236517205))) 2) 3689348814741910323) + (bits .and .u64 (IntKind.u64.wrap ((bits .and .u64 (shrK .u64 x 1) 6148914691236517205) + (bits .and .u64 x 6148914691236517205))) 3689348814741910323))))) 1085102592571150095) + (shrK .u64 (bits .and .u64 (IntKind.u64.wrap ((shrK .u64 (IntKind.u64.wrap ((bits .and .u64 (shrK .u64 (IntKind.u64.wrap ((bits .and .u64 (shrK .u64 x 1) 6148914691236517205) + (bits .and .u64 x 6148914691236517205))) 2) 3689348814741910323) + (bits .and .u64 (IntKind.u64.wrap ((bits .and .u64 (shrK .u64 x 1) 6148914691236517205) + (bits .and .u64 x 6148914691236517205))) 3689348814741910323))) 4) + (IntKind.u64.wrap ((bits .and .u64 (shrK .u64 (IntKind.u64.wrap ((bits .and .u64 (shrK .u64 x 1) 6148914691236517205) + (bits .and .u64 x 6148914691236517205))) 2) 3689348814741910323) + (bits .and .u64 (IntKind.u64.wrap ((bits .and .u64 (shrK .u64 x 1) 6148914691236517205) + (bits .and .u64 x 6148914691236517205))) 3689348814741910323))))) 1085102592571150095) 8))) 16))) + (shrK .u64 (IntKind.u64.wrap ((IntKind.u64.wrap ((bits .and .u64 (IntKind.u64.wrap ((shrK .u64 (IntKind.u64.wrap ((bits .and .u64 (shrK .u64 (IntKind.u64.wrap ((bits .and .u64 (shrK .u64 x 1) 6148914691236517205) + (bits .and .u64 x 6148914691236517205))) 2) 3689348814741910323) + (bits .and .u64 (IntKind.u64.wrap ((bits .and .u64 (shrK .u64 x 1) 6148914691236517205) + (bits .and .u64 x 6148914691236517205))) 3689348814741910323))) 4) + (IntKind.u64.wrap ((bits .and .u64 (shrK .u64 (IntKind.u64.wrap ((bits .and .u64 (shrK .u64 x 1) 6148914691236517205) + (bits .and .u64 x 6148914691236517205))) 2) 3689348814741910323) + (bits .and .u64 (IntKind.u64.wrap ((bits .and .u64 (shrK .u64 x 1) 6148914691236517205) + (bits .and .u64 x 6148914691236517205))) 3689348814741910323))))) 1085102592571150095) + (shrK .u64 (bits .and .u64 (IntKind.u64.wrap ((shrK .u64 (IntKind.u64.wrap ((bits .and .u64 (shrK .u64 (IntKind.u64.wrap ((bits .and .u64 (shrK .u64 x 1) 6148914691236517205) + (bits .and .u64 x 6148914691236517205))) 2) 3689348814741910323) + (bits .and .u64 (IntKind.u64.wrap ((bits .and .u64 (shrK .u64 x 1) 6148914691236517205) + (bits .and .u64 x 6148914691236517205))) 3689348814741910323))) 4) + (IntKind.u64.wrap ((bits .and .u64 (shrK .u64 (IntKind.u64.wrap ((bits .and .u64 (shrK .u64 x 1) 6148914691236517205) + (bits .and .u64 x 6148914691236517205))) 2) 3689348814741910323) + (bits .and .u64 (IntKind.u64.wrap ((bits .and .u64 (shrK .u64 x 1) 6148914691236517205) + (bits .and .u64 x 6148914691236517205))) 3689348814741910323))))) 1085102592571150095) 8))) + (shrK .u64 (IntKind.u64.wrap ((bits .and .u64 (IntKind.u64.wrap ((shrK .u64 (IntKind.u64.wrap ((bits .and .u64 (shrK .u64 (IntKind.u64.wrap ((bits .and .u64 (shrK .u64 x 1) 6148914691236517205) + (bits .and .u64 x 6148914691236517205))) 2) 3689348814741910323) + (bits .and .u64 (IntKind.u64.wrap ((bits .and .u64 (shrK .u64 x 1) 6148914691236517205) + (bits .and .u64 x 6148914691236517205))) 3689348814741910323))) 4) + (IntKind.u64.wrap ((bits .and .u64 (shrK .u64 (IntKind.u64.wrap ((bits .and .u64 (shrK .u64 x 1) 6148914691236517205) + (bits .and .u64 x 6148914691236517205))) 2) 3689348814741910323) + (bits .and .u64 (IntKind.u64.wrap ((bits .and .u64 (shrK .u64 x 1) 6148914691236517205) + (bits .and .u64 x 6148914691236517205))) 3689348814741910323))))) 1085102592571150095) + (shrK .u64 (bits .and .u64 (IntKind.u64.wrap ((shrK .u64 (IntKind.u64.wrap ((bits .and .u64 (shrK .u64 (IntKind.u64.wrap ((bits .and .u64 (shrK .u64 x 1) 6148914691236517205) + (bits .and .u64 x 6148914691236517205))) 2) 3689348814741910323) + (bits .and .u64 (IntKind.u64.wrap ((bits .and .u64 (shrK .u64 x 1) 6148914691236517205) + (bits .and .u64 x 6148914691236517205))) 3689348814741910323))) 4) + (IntKind.u64.wrap ((bits .and .u64 (shrK .u64 (IntKind.u64.wrap ((bits .and .u64 (shrK .u64 x 1) 6148914691236517205) + (bits .and .u64 x 6148914691236517205))) 2) 3689348814741910323) + (bits .and .u64 (IntKind.u64.wrap ((bits .and .u64 (shrK .u64 x 1) 6148914691236517205) + (bits .and .u64 x 6148914691236517205))) 3689348814741910323))))) 1085102592571150095) 8))) 16))) 32)))) 127)) rfl rfl) (rw_nil (cw_ret ?_))
 obtain rfl := some_inj hF
 exact ret1 Tryz.results233 (v1 := vi (bits .and .i64 (i64.wrap (IntKind.u64.wrap ((IntKind.u64.wrap ((IntKind.u64.wrap ((bits .and .u64 (IntKind.u64.wrap ((shrK .u64 (IntKind.u64.wrap ((bits .and .u64 (shrK .u64 (IntKind.u64.wrap ((bits .and .u64 (shrK .u64 x 1) 6148914691236517205) + (bits .and .u64 x 6148914691236517205))) 2) 3689348814741910323) + (bits .and .u64 (IntKind.u64.wrap ((bits .and .u64 (shrK .u64 x 1) 6148914691236517205) + (bits .and .u64 x 6148914691236517205))) 3689348814741910323))) 4) + (IntKind.u64.wrap ((bits .and .u64 (shrK .u64 (IntKind.u64.wrap ((bits .and .u64 (shrK .u64 x 1) 6148914691236517205) + (bits .and .u64 x 6148914691236517205))) 2) 3689348814741910323) + (bits .and .u64 (IntKind.u64.wrap ((bits .and .u64 (shrK .u64 x 1) 6148914691236517205) + (bits .and .u64 x 6148914691236517205))) 3689348814741910323))))) 1085102592571150095) + (shrK .u64 (bits .and .u64 (IntKind.u64.wrap ((shrK .u64 (IntKind.u64.wrap ((bits .and .u64 (shrK .u64 (IntKind.u64.wrap ((bits .and .u64 (shrK .u64 x 1) 6148914691236517205) + (bits .and .u64 x 6148914691236517205))) 2) 3689348814741910323) + (bits .and .u64 (IntKind.u64.wrap ((bits .and .u64 (shrK .u64 x 1) 6148914691236517205) + (bits .and .u64 x 6148914691236517205))) 3689348814741910323))) 4) + (IntKind.u64.wrap ((bits .and .u64 (shrK .u64 (IntKind.u64.wrap ((bits .and .u64 (shrK .u64 x 1) 6148914691236517205) + (bits .and .u64 x 6148914691236517205))) 2) 3689348814741910323) + (bits .and .u64 (IntKind.u64.wrap ((bits .and .u64 (shrK .u64 x 1) 6148914691236517205) + (bits .and .u64 x 6148914691236517205))) 3689348814741910323))))) 1085102592571150095) 8))) + (shrK .u64 (IntKind.u64.wrap ((bits .and .u64 (IntKind.u64.wrap ((shrK .u64 (IntKind.u64.wrap ((bits .and .u64 (shrK .u64 (IntKind.u64.wrap ((bits .and .u64 (shrK .u64 x 1) 6148914691236517205) + (bits .and .u64 x 6148914691236517205))) 2) 3689348814741910323) + (bits .and .u64 (IntKind.u64.wrap ((bits .and .u64 (shrK .u64 x 1) 6148914691236517205) + (bits .and .u64 x 6148914691236517205))) 3689348814741910323))) 4) + (IntKind.u64.wrap ((bits .and .u64 (shrK .u64 (IntKind.u64.wrap ((bits .and .u64 (shrK .u64 x 1) 6148914691236517205) + (bits .and .u64 x 6148914691236517205))) 2) 3689348814741910323) + (bits .and .u64 (IntKind.u64.wrap ((bits .and .u64 (shrK .u64 x 1) 6148914691236517205) + (bits .and .u64 x 6148914691236517205))) 3689348814741910323))))) 1085102592571150095) + (shrK .u64 (bits .and .u64 (IntKind.u64.wrap ((shrK .u64 (IntKind.u64.wrap ((bits .and .u64 (shrK .u64 (IntKind.u64.wrap ((bits .and .u64 (shrK .u64 x 1) 6148914691236517205) + (bits .and .u64 x 6148914691236517205))) 2) 3689348814741910323) + (bits .and .u64 (IntKind.u64.wrap ((bits .and .u64 (shrK .u64 x 1) 6148914691236517205) + (bits .and .u64 x 6148914691236517205))) 3689348814741910323))) 4) + (IntKind.u64.wrap ((bits .and .u64 (shrK .u64 (IntKind.u64.wrap ((bits .and .u64 (shrK .u64 x 1) 6148914691236517205) + (bits .and .u64 x 6148914691236517205))) 2) 3689348814741910323) + (bits .and .u64 (IntKind.u64.wrap ((bits .and .u64 (shrK .u64 x 1) 6148914691236517205) + (bits .and .u64 x 6148914691236517205))) 3689348814741910323))))) 1085102592571150095) 8))) 16))) + (shrK .u64 (IntKind.u64.wrap ((IntKind.u64.wrap ((bits .and .u64 (IntKind.u64.wrap ((shrK .u64 (IntKind.u64.wrap ((bits .and .u64 (shrK .u64 (IntKind.u64.wrap ((bits .and .u64 (shrK .u64 x 1) 6148914691236517205) + (bits .and .u64 x 6148914691236517205))) 2) 3689348814741910323) + (bits .and .u64 (IntKind.u64.wrap ((bits .and .u64 (shrK .u64 x 1) 6148914691236517205) + (bits .and .u64 x 6148914691236517205))) 3689348814741910323))) 4) + (IntKind.u64.wrap ((bits .and .u64 (shrK .u64 (IntKind.u64.wrap ((bits .and .u64 (shrK .u64 x 1) 6148914691236517205) + (bits .and .u64 x 6148914691236517205))) 2) 3689348814741910323) + (bits .and .u64 (IntKind.u64.wrap ((bits .and .u64 (shrK .u64 x 1) 6148914691236517205) + (bits .and .u64 x 6148914691236517205))) 3689348814741910323))))) 1085102592571150095) + (shrK .u64 (bits .and .u64 (IntKind.u64.wrap ((shrK .u64 (IntKind.u64.wrap ((bits .and .u64 (shrK .u64 (IntKind.u64.wrap ((bits .and .u64 (shrK .u64 x 1) 6148914691236517205) + (bits .and .u64 x 6148914691236517205))) 2) 3689348814741910323) + (bits .and .u64 (IntKind.u64.wrap ((bits .and .u64 (shrK .u64 x 1) 6148914691236517205) + (bits .and .u64 x 6148914691236517205))) 3689348814741910323))) 4) + (IntKind.u64.wrap ((bits .and .u64 (shrK .u64 (IntKind.u64.wrap ((bits .and .u64 (shrK .u64 x 1) 6148914691236517205) + (bits .and .u64 x 6148914691236517205))) 2) 3689348814741910323) + (bits .and .u64 (IntKind.u64.wrap ((bits .and .u64 (shrK .u64 x 1) 6148914691236517205) + (bits .and .u64 x 6148914691236517205))) 3689348814741910323))))) 1085102592571150095) 8))) + (shrK .u64 (IntKind.u64.wrap ((bits .and .u64 (IntKind.u64.wrap ((shrK .u64 (IntKind.u64.wrap ((bits .and .u64 (shrK .u64 (IntKind.u64.wrap ((bits .and .u64 (shrK .u64 x 1) 6148914691236517205) + (bits .and .u64 x 6148914691236517205))) 2) 3689348814741910323) + (bits .and .u64 (IntKind.u64.wrap ((bits .and .u64 (shrK .u64 x 1) 6148914691236517205) + (bits .and .u64 x 6148914691236517205))) 3689348814741910323))) 4) + (IntKind.u64.wrap ((bits .and .u64 (shrK .u64 (IntKind.u64.wrap ((bits .and .u64 (shrK .u64 x 1) 6148914691236517205) + (bits .and .u64 x 6148914691236517205))) 2) 3689348814741910323) + (bits .and .u64 (IntKind.u64.wrap ((bits .and .u64 (shrK .u64 x 1) 6148914691236517205) + (bits .and .u64 x 6148914691236517205))) 3689348814741910323))))) 1085102592571150095) + (shrK .u64 (bits .and .u64 (IntKind.u64.wrap ((shrK .u64 (IntKind.u64.wrap ((bits .and .u64 (shrK .u64 (IntKind.u64.wrap ((bits .and .u64 (shrK .u64 x 1) 6148914691236517205) + (bits .and .u64 x 6148914691236517205))) 2) 3689348814741910323) + (bits .and .u64 (IntKind.u64.wrap ((bits .and .u64 (shrK .u64 x 1) 6148914691236517205) + (bits .and .u64 x 6148914691236517205))) 3689348814741910323))) 4) + (IntKind.u64.wrap ((bits .and .u64 (shrK .u64 (IntKind.u64.wrap ((bits .and .u64 (shrK .u64 x 1) 6148914691236517205) + (bits .and .u64 x 6148914691236517205))) 2) 3689348814741910323) + (bits .and .u64 (IntKind.u64.wrap ((bits .and .u64 (shrK .u64 x 1) 6148914691236517205) + (bits .and .u64 x 6148914691236517205))) 3689348814741910323))))) 1085102592571150095) 8))) 16))) 32)))) 127)) (resAt_tmp rfl) ⟨rfl, (hS.sN [])⟩

theorem c_math_bits_OnesCount (x : Int)  (w0 : World)  (hS : ST w0 [] w0 [] []) {r_ : Int} (hF : F_math_bits_OnesCount x = some r_) :
  CV Tryz.prog 184 #[.int .u64 x] w0 (fun v w' => v = vi r_ ∧ ST w0 [] w' [] []) := by
 unfold F_math_bits_OnesCount at hF
 refine cv_of_cw 8 Tryz.func184 rfl Tryz.ntmps184 rfl ?_
 refine cw_seq (cw_region ?_)
 refine sQ 2 (Y_assign (v := vi 0) rfl rfl) (rw_nil (cw_seq ?_))
 refine cw_cond (b := false) rfl (fun h => by cases h) (fun _ => ?_)
 refine cw_skip (cw_seq (cw_region ?_))
 refine sQ 6 (Y_move (v := .int .u64 x) rfl rfl) ?_
 obtain ⟨r_1, hc, hF⟩ := bind_inv hF
 refine sc 7 rfl rfl (Yc_func (g := 233) (vs := [.int .u64 x]) k_call_233 rfl (mc rfl mn) (c_math_bits_OnesCount64 x _  (hS.inn0 [] rfl) hc)) ?_
 rintro _ w_ ⟨rfl, hd⟩
 have hS1 := hS.out00 hd
 refine sQ 2 (Y_assign (v := vi r_1) rfl rfl) (rw_nil (cw_ret ?_))
 obtain rfl := some_inj hF
 exact ret1 Tryz.results184 (v1 := vi r_1) (resAt_tmp rfl) ⟨rfl, (hS1.sN [])⟩

theorem c_impl_bitsIn (mask : Int)  (w0 : World)  (hS : ST w0 [] w0 [] []) {r_ : Int} (hF : F_impl_bitsIn mask = some r_) :
  CV Tryz.prog 186 #[vi mask] w0 (fun v w' => v = vi r_ ∧ ST w0 [] w' [] []) := by
 unfold F_impl_bitsIn at hF
 refine cv_of_cw 6 Tryz.func186 rfl Tryz.ntmps186 rfl ?_
 refine cw_seq (cw_region ?_)
 refine sQ 2 (Y_assign (v := vi 0) rfl rfl) (rw_nil (cw_seq (cw_region ?_)))
 refine sQ 3 (Y_move (v := vi mask) rfl rfl) ?_
 refine sQ 4 (Y_conv (k := .i64) (a := mask) (T := 3) (T' := 76) k_us_3 k_int_76_u64 rfl rfl) ?_
 obtain ⟨r_1, hc, hF⟩ := bind_inv hF
 refine sc 5 rfl rfl (Yc_func (g := 184) (vs := [.int .u64 (IntKind.u64.wrap mask)]) k_call_184 rfl (mc rfl mn) (c_math_bits_OnesCount (IntKind.u64.wrap mask) _  (hS.inn0 [] rfl) hc)) ?_
 rintro _ w_ ⟨rfl, hd⟩
 have hS1 := hS.out00 hd
 refine sQ 2 (Y_assign (v := vi r_1) rfl rfl) (rw_nil (cw_ret ?_))
 obtain rfl := some_inj hF
 exact ret1 Tryz.results186 (v1 := vi r_1) (resAt_tmp rfl) ⟨rfl, (hS1.sN [])⟩

theorem c_slices_Sort_int_int (x : List Int) (B : Option Addr) (c n : Nat) (w0 : World) (hn : x.length = n) (hS : ST w0 (bl [⟨B, 3, x.flatMap encI, c * 1⟩]) w0 [⟨B, 3, x.flatMap encI, c * 1⟩] []) {m : List Int} (hF : F_slices_Sort_int_int x = some m) :
  CV Tryz.prog 205 #[.slice B n c] w0 (fun v w' => v = .tuple #[] ∧ m.length = n ∧ ST w0 (bl [⟨B, 3, x.flatMap encI, c * 1⟩]) w' [⟨B, 3, m.flatMap encI, c * 1⟩] []) :=
 sort_contract Tryz.slices_Sort_int Tryz.slices_Sort_int_none x 3 B c n w0 hn hS hF

theorem c_impl_codeWords (n : Int)  (w0 : World)  (hS : ST w0 [] w0 [] []) {r_ : List Int} (hF : F_impl_codeWords n = some r_) :
  CV Tryz.prog 185 #[vi n] w0 (fun v w' => ∃ (B : Option Addr) (c : Nat), v = .slice B r_.length c ∧ ST w0 [] w' [⟨B, 3, (r_.flatMap encI), c * 1⟩] []) := by
 unfold F_impl_codeWords at hF
 refine cv_of_cw 58 Tryz.func185 rfl Tryz.ntmps185 rfl ?_
 refine cw_seq (cw_region ?_)
 refine sQ 2 (Y_assign (v := .slice none 0 0) rfl rfl) (rw_nil (cw_seq (cw_region ?_)))
 refine sS 9 (Ys_bslice (s := 1) (len := 1) (vs := [(0, vi 0)]) (cs := [vi 0]) (zs := [vi 0]) (m := 1) hS k_sl_66_3 k_sz_3_1 k_zc_3 rfl (mpc rfl mpn) rfl rfl rfl (by kernel_rfl) (by kernel_rfl) rfl) ?_
 rintro _ w_ ⟨b, rfl, hS1⟩
 refine sQ 3 (Y_assign (v := .slice (aD b) 1 1) rfl rfl) (rw_nil (cw_seq (cw_seq (cw_region ?_))))
 refine sQ 10 (Y_move (v := vi n) rfl rfl) ?_
 obtain ⟨hsh, hF⟩ := chk_inv hF
 refine sQ 11 (Y_shl (k := .i64) (a := 1) (k' := .i64) (b := n) rfl rfl rfl hsh) ?_
 refine sQ 12 (Y_move (v := vi 0) rfl rfl) (rw_nil ?_)
 obtain ⟨hN, hF⟩ := chk_inv hF
 obtain ⟨z, hz, hF1⟩ := bind_inv hF
 refine cw_block ?_
 refine cw_loop (fun k f w => ∃ (i : Nat) (out : List Int) (B1 : Option Addr) (c1 : Nat), FF f [(0, vi n), (3, .slice B1 out.length c1), (11, vi (shlK .i64 1 n)), (12, vi (i : Int))] ∧ ST w0 [] w [⟨B1, 3, (out.flatMap encI), c1 * 1⟩] [] ∧ i + k = (shlK .i64 1 n).toNat ∧ forN (F_impl_codeWords_l1 n) k i out = some z) ((shlK .i64 1 n).toNat) ⟨0, [0], aD b, 1, (FF.cons rfl (FF.cons rfl (FF.cons rfl (FF.cons rfl FF.nil)))), (hS1.sel [0] rfl rfl), Nat.zero_add _, hz⟩ ?_
 rintro k_ f w ⟨i, out, B1, c1, hf, hS2, hik, hL⟩
 refine cw_seq (cw_region ?_)
 refine sQ 13 (Y_lt (k := .i64) (a := (i : Int)) (b := (shlK .i64 1 n)) rfl (hf.get 12 3 rfl) (hf.get 11 2 rfl)) (rw_nil (cw_seq ?_))
 refine cw_cond (b := (decide ((i : Int) < (shlK .i64 1 n)))) rfl (fun hlt => ?_) (fun hlt => ?_)
 ·skip
  have hlt1 : i < (shlK .i64 1 n).toNat := by have h := of_decide_eq_true hlt; omega
  obtain ⟨k_1, rfl⟩ : ∃ k2, k_ = k2 + 1 := ⟨k_ - 1, by omega⟩
  obtain ⟨y, hb, hL1⟩ := forN_go hL
  unfold F_impl_codeWords_l1 at hb
  refine cw_skip (cw_seq ?_)
  obtain ⟨z1, hz1, hF2⟩ := bind_inv hb
  refine cw_mid (fun f w => ∃ (out1 : List Int) (B2 : Option Addr) (c2 : Nat), out1 = z1 ∧ FF f [(0, vi n), (3, .slice B2 out1.length c2), (11, vi (shlK .i64 1 n)), (12, vi (i : Int))] ∧ ST w0 [] w [⟨B2, 3, (out1.flatMap encI), c2 * 1⟩] []) ?_ ?_
  ·skip
   refine cw_block (cw_seq (cw_region ?_))
   refine sQ 14 (Y_move (v := vi (i : Int)) rfl (hf.get 12 3 rfl)) ?_
   refine sQ 4 (Y_assign (v := vi (i : Int)) rfl rfl) (rw_nil (cw_seq (cw_seq (cw_region ?_))))
   refine sQ 15 (Y_move (v := vi n) rfl (hf.get 0 0 rfl)) ?_
   refine sQ 16 (Y_lt (k := .i64) (a := n) (b := 4) rfl rfl rfl) ?_
   refine sQ 17 (Y_move (v := .bool (decide (n < 4))) rfl rfl) ?_
   refine sgq 18 (B := (!(decide (n < 4)))) (v := vi (i : Int)) rfl rfl (uF_ 17) (fun hg => (Y_move (v := vi (i : Int)) rfl rfl)) ?_
   obtain ⟨r_1, hc, hz1⟩ := bind_inv hz1
   refine sgc 19 (B := (!(decide (n < 4)))) (v := vi r_1) (F := hS2.fn) rfl rfl (uF_ 17) hS2 (fun hg1 => (Yc_func (g := 186) (vs := [vi (i : Int)]) k_call_186 rfl (mc (gv_of (v := vi (i : Int)) hg1) mn) (CV.mono (c_impl_bitsIn (i : Int) _  (hS2.inn0 [] rfl) (gb_inv hc hg1)) (by rintro _ _ ⟨rfl, h⟩; exact ⟨rfl, hS2.out00 h⟩)))) ?_
   rintro w_1 hS4
   refine sgq 20 (B := (!(decide (n < 4)))) (v := vi n) rfl rfl (uF_ 17) (fun hg2 => (Y_move (v := vi n) rfl (hf.get 0 0 rfl))) ?_
   refine sgq 21 (B := (!(decide (n < 4)))) (v := vi (i64.wrap (n - 4))) rfl rfl (uF_ 17) (fun hg3 => (Y_sub (k := .i64) (a := n) (b := 4) rfl (gv_of (v := vi n) hg3) rfl)) ?_
   refine sgq 22 (B := (!(decide (n < 4)))) (v := .bool (decide ((i64.wrap (n - 4)) < r_1))) rfl rfl (uF_ 17) (fun hg4 => (Y_gt (k := .i64) (a := r_1) (b := (i64.wrap (n - 4))) rfl (gv_of (v := vi r_1) hg4) (gv_of (v := vi (i64.wrap (n - 4))) hg4))) ?_
   refine sQ 23 (Y_or (b := (decide (n < 4))) (z := (decide ((i64.wrap (n - 4)) < r_1))) rfl rfl rfl rfl) (rw_nil ?_)
   refine cw_cond (b := ((decide (n < 4)) || (decide ((i64.wrap (n - 4)) < r_1)))) rfl (fun hb1 => ?_) (fun hb1 => ?_)
   ·skip
    have hF3 := ct hz1 hb1
    refine cw_exit rfl ?_
    exact ⟨out, B1, c1, (some_inj hF3), (FF.cons (hf.get 0 0 rfl) (FF.cons (hf.get 3 1 rfl) (FF.cons (hf.get 11 2 rfl) (FF.cons (hf.get 12 3 rfl) FF.nil)))), (hS4.sel [0] rfl rfl)⟩
   ·skip
    have hF4 := cf' hz1 hb1
    refine cw_skip (cw_seq (cw_region ?_))
    refine sQ 5 (Y_assign (v := vi 0) rfl rfl) (rw_nil (cw_seq (cw_seq (cw_region ?_))))
    refine sQ 6 (Y_assign (v := vi 1) rfl rfl) (rw_nil ?_)
    obtain ⟨z2, hz2, hF5⟩ := bind_inv hF4
    refine cw_block ?_
    refine cw_loop (fun k f w => ∃ (word : Int) (mask : Int), FF f [(0, vi n), (3, .slice B1 out.length c1), (4, vi (i : Int)), (5, vi word), (6, vi mask), (11, vi (shlK .i64 1 n)), (12, vi (i : Int))] ∧ ST w0 [] w [⟨B1, 3, (out.flatMap encI), c1 * 1⟩] [] ∧ whX (F_impl_codeWords_l2 n i) k (word, mask) = some z2) fuel ⟨0, 1, (FF.cons (hf.get 0 0 rfl) (FF.cons (hf.get 3 1 rfl) (FF.cons rfl (FF.cons rfl (FF.cons rfl (FF.cons (hf.get 11 2 rfl) (FF.cons (hf.get 12 3 rfl) FF.nil))))))), (hS4.sel [0] rfl rfl), hz2⟩ ?_
    rintro k_2 f w ⟨word, mask, hf2, hS5, hL2⟩
    obtain ⟨k_3, y1, rfl, hb2, hL3⟩ := whX_go hL2
    unfold F_impl_codeWords_l2 at hb2
    refine cw_seq (cw_seq (cw_region ?_))
    refine sQ 24 (Y_move (v := vi mask) rfl (hf2.get 6 4 rfl)) ?_
    refine sQ 25 (Y_move (v := vi n) rfl (hf2.get 0 0 rfl)) ?_
    obtain ⟨hsh1, hb2⟩ := chk_inv hb2
    refine sQ 26 (Y_shl (k := .i64) (a := 1) (k' := .i64) (b := n) rfl rfl rfl hsh1) ?_
    refine sQ 27 (Y_lt (k := .i64) (a := mask) (b := (shlK .i64 1 n)) rfl rfl rfl) (rw_nil ?_)
    refine cw_cond (b := (decide (mask < (shlK .i64 1 n)))) rfl (fun hb3 => ?_) (fun hb3 => ?_)
    ·skip
     have hF6 := ct hb2 hb3
     refine cw_skip (cw_seq ?_)
     obtain ⟨z3, hz3, hF7⟩ := bind_inv hF6
     refine cw_mid (fun f w => ∃ (word1 : Int), word1 = z3 ∧ FF f [(0, vi n), (3, .slice B1 out.length c1), (4, vi (i : Int)), (5, vi word1), (6, vi mask), (11, vi (shlK .i64 1 n)), (12, vi (i : Int))] ∧ ST w0 [] w [⟨B1, 3, (out.flatMap encI), c1 * 1⟩] []) ?_ ?_
     ·skip
      refine cw_block (cw_seq (cw_region ?_))
      refine sQ 30 (Y_move (v := vi mask) rfl (hf2.get 6 4 rfl)) ?_
      refine sQ 31 (Y_move (v := vi (i : Int)) rfl (hf2.get 4 2 rfl)) ?_
      refine sQ 32 (Y_band (k := .i64) (a := mask) (b := (i : Int)) rfl rfl rfl) ?_
      refine sQ 33 (Y_move (v := vi (i : Int)) rfl (hf2.get 4 2 rfl)) ?_
      refine sQ 34 (Y_eq (k := .i64) (a := (bits .and .i64 mask (i : Int))) (b := (i : Int)) rfl rfl rfl) (rw_nil ?_)
      refine cw_cond (b := ((bits .and .i64 mask (i : Int)) == (i : Int))) rfl (fun hb4 => ?_) (fun hb4 => ?_)
      ·skip
       have hF8 := ct hz3 hb4
       refine cw_region ?_
       refine sQ 35 (Y_move (v := vi word) rfl (hf2.get 5 3 rfl)) ?_
       refine sQ 36 (Y_move (v := vi mask) rfl (hf2.get 6 4 rfl)) ?_
       refine sQ 37 (Y_sub (k := .i64) (a := mask) (b := 1) rfl rfl rfl) ?_
       obtain ⟨hsh2, hF8⟩ := chk_inv hF8
       refine sQ 38 (Y_shl (k := .i64) (a := 1) (k' := .i64) (b := (i64.wrap (mask - 1))) rfl rfl rfl hsh2) ?_
       refine sQ 39 (Y_bor (k := .i64) (a := word) (b := (shlK .i64 1 (i64.wrap (mask - 1)))) rfl rfl rfl) ?_
       refine sQ 5 (Y_assign (v := vi (bits .or .i64 word (shlK .i64 1 (i64.wrap (mask - 1))))) rfl rfl) (rw_nil ?_)
       exact ⟨(bits .or .i64 word (shlK .i64 1 (i64.wrap (mask - 1)))), (some_inj hF8), (FF.cons (hf2.get 0 0 rfl) (FF.cons (hf2.get 3 1 rfl) (FF.cons (hf2.get 4 2 rfl) (FF.cons rfl (FF.cons (hf2.get 6 4 rfl) (FF.cons (hf2.get 11 5 rfl) (FF.cons (hf2.get 12 6 rfl) FF.nil))))))), (hS5.sel [0] rfl rfl)⟩
      ·skip
       have hF9 := cf' hz3 hb4
       refine cw_skip ?_
       exact ⟨word, (some_inj hF9), (FF.cons (hf2.get 0 0 rfl) (FF.cons (hf2.get 3 1 rfl) (FF.cons (hf2.get 4 2 rfl) (FF.cons (hf2.get 5 3 rfl) (FF.cons (hf2.get 6 4 rfl) (FF.cons (hf2.get 11 5 rfl) (FF.cons (hf2.get 12 6 rfl) FF.nil))))))), (hS5.sel [0] rfl rfl)⟩
     rintro f w ⟨word1, rfl, hf3, hS6⟩
     refine cw_region ?_
     refine sQ 28 (Y_move (v := vi mask) rfl (hf3.get 6 4 rfl)) ?_
     refine sQ 29 (Y_add (k := .i64) (a := mask) (b := 1) rfl rfl rfl) ?_
     refine sQ 6 (Y_assign (v := vi (i64.wrap (mask + 1))) rfl rfl) (rw_nil ?_)
     obtain rfl := some_inj hF7
     exact ⟨k_3, Nat.lt_succ_self _, word1, (i64.wrap (mask + 1)), (FF.cons (hf3.get 0 0 rfl) (FF.cons (hf3.get 3 1 rfl) (FF.cons (hf3.get 4 2 rfl) (FF.cons (hf3.get 5 3 rfl) (FF.cons rfl (FF.cons (hf3.get 11 5 rfl) (FF.cons (hf3.get 12 6 rfl) FF.nil))))))), (hS6.sel [0] rfl rfl), hL3⟩
    ·skip
     have hF10 := cf' hb2 hb3
     refine cw_exit rfl ?_
     obtain rfl := some_inj hF10
     obtain rfl := some_inj hL3
     refine cw_seq (cw_region ?_)
     refine sQ 40 (Y_move (v := .slice B1 out.length c1) rfl (hf2.get 3 1 rfl)) ?_
     obtain ⟨r_2, hc1, hF5⟩ := bind_inv hF5
     refine sc 41 rfl rfl (Yc_func (g := 188) (vs := [.slice B1 out.length c1]) k_call_188 rfl (mc rfl mn) (c_slices_Clone_int_int out B1 c1 out.length _ rfl (hS5.inn0 [(false, 0)] rfl) hc1)) ?_
     rintro _ w_2 ⟨B3, c3, rfl, hd⟩
     have hS7 := hS5.out0 hd
     refine sQ 42 (Y_len (B := B3) (m := r_2.length) (c := c3) k_sl_66_3 rfl rfl) ?_
     refine sQ 43 (Y_move (v := vi 0) rfl rfl) (rw_nil ?_)
     obtain ⟨hN1, hF5⟩ := chk_inv hF5
     obtain ⟨z4, hz4, hF11⟩ := bind_inv hF5
     refine cw_block ?_
     refine cw_loop (fun k f w => ∃ (i1 : Nat) (out2 : List Int) (B4 : Option Addr) (c4 : Nat), FF f [(0, vi n), (3, .slice B4 out2.length c4), (5, vi word), (11, vi (shlK .i64 1 n)), (12, vi (i : Int)), (41, .slice B3 r_2.length c3), (42, vi (r_2.length : Int)), (43, vi (i1 : Int))] ∧ ST w0 [] w [⟨B4, 3, (out2.flatMap encI), c4 * 1⟩, ⟨B3, 3, (r_2.flatMap encI), c3 * 1⟩] [] ∧ i1 + k = r_2.length ∧ forN (F_impl_codeWords_l3 r_2 word) k i1 out2 = some z4) r_2.length ⟨0, out, B1, c1, (FF.cons (hf2.get 0 0 rfl) (FF.cons (hf2.get 3 1 rfl) (FF.cons (hf2.get 5 3 rfl) (FF.cons (hf2.get 11 5 rfl) (FF.cons (hf2.get 12 6 rfl) (FF.cons rfl (FF.cons rfl (FF.cons rfl FF.nil)))))))), (hS7.sel [0, 1] rfl rfl), Nat.zero_add _, hz4⟩ ?_
     rintro k_4 f w ⟨i1, out2, B4, c4, hf4, hS8, hik2, hL4⟩
     refine cw_seq (cw_region ?_)
     refine sQ 44 (Y_lt (k := .i64) (a := (i1 : Int)) (b := (r_2.length : Int)) rfl (hf4.get 43 7 rfl) (hf4.get 42 6 rfl)) (rw_nil (cw_seq ?_))
     refine cw_cond (b := (decide ((i1 : Int) < (r_2.length : Int)))) rfl (fun hlt2 => ?_) (fun hlt2 => ?_)
     ·skip
      have hlt3 : i1 < r_2.length := by have h := of_decide_eq_true hlt2; omega
      obtain ⟨k_5, rfl⟩ : ∃ k2, k_4 = k2 + 1 := ⟨k_4 - 1, by omega⟩
      obtain ⟨y2, hb5, hL5⟩ := forN_go hL4
      unfold F_impl_codeWords_l3 at hb5
      refine cw_skip (cw_seq (cw_block (cw_seq (cw_region ?_))))
      obtain ⟨x, hx, hb5⟩ := bind_inv hb5
      refine sQ 45 (Y_index (B := B3) (m := r_2.length) (c := c3) (k := .i64) (i := (i1 : Int)) k_sl_66_3 k_sz_3_1 rfl (hf4.get 41 5 rfl) (hf4.get 43 7 rfl) (gi_isSome encI_len rfl (hS8.cf (i := 1) rfl) hx) (getI_nn hx) (getI_ltI hx rfl)) ?_
      refine sQ 46 (Y_load1 (B := B3) (i := (i1 : Int).toNat * 1) (cs := (r_2.flatMap encI)) (v := vi x) k_sc_3 rfl rfl (hS8.cf (i := 1) rfl) (gi_at0 encI_len hx rfl)) ?_
      refine sQ 8 (Y_assign (v := vi x) rfl rfl) (rw_nil (cw_region ?_))
      refine sQ 47 (Y_move (v := .slice B4 out2.length c4) rfl (hf4.get 3 1 rfl)) ?_
      refine sQ 48 (Y_move (v := vi x) rfl rfl) ?_
      refine sQ 49 (Y_move (v := vi word) rfl (hf4.get 5 2 rfl)) ?_
      refine sQ 50 (Y_bxor (k := .i64) (a := x) (b := word) rfl rfl rfl) ?_
      refine sS 51 (Ys_bslice (s := 1) (len := 1) (vs := [(0, vi (bits .xor .i64 x word))]) (cs := [vi (bits .xor .i64 x word)]) (zs := [vi 0]) (m := 1) hS8 k_sl_66_3 k_sz_3_1 k_zc_3 rfl (mpc rfl mpn) rfl rfl rfl (by kernel_rfl) (by kernel_rfl) rfl) ?_
      rintro _ w_3 ⟨b1, rfl, hS9⟩
      obtain ⟨hap, hb5⟩ := chk_inv hb5
      refine sS 52 (Ys_append (s := 1) (by' := 8) (i := 0) (nn := out2.length) (c := c4) (k := 1) (len := (out2 ++ [(bits .xor .i64 x word)]).length) (B := B4) (xs := ([(bits .xor .i64 x word)].flatMap encI)) (cs' := ((out2 ++ [(bits .xor .i64 x word)]).flatMap encI)) hS9 k_sl_66_3 k_sz_3_1 k_by_3_8 k_zero_3 rfl (by decide) rfl rfl rfl rfl (fm_lenn (l := out2) encI_len rfl) rfl (hS9.cf (i := 2) rfl) (fm_lenn (l := [(bits .xor .i64 x word)]) encI_len rfl) (fm_one' (enc := encI) encI_one [(bits .xor .i64 x word)]) (by have := hap; omega) (by have := hap; simp only [maxLen]; omega) (fm_app _ _) (app_len (l := out2) (l' := [(bits .xor .i64 x word)]) rfl rfl)) ?_
      rintro _ w_4 ⟨B5, c5, rfl, hS10⟩
      refine sQ 3 (Y_assign (v := .slice B5 ((out2 ++ [(bits .xor .i64 x word)]).length) c5) rfl rfl) (rw_nil (cw_region ?_))
      refine sQ 53 (Y_add (k := .i64) (a := (i1 : Int)) (b := 1) rfl (hf4.get 43 7 rfl) rfl) ?_
      refine sQ 43 (Y_move (v := vi (i64.wrap ((i1 : Int) + 1))) rfl rfl) (rw_nil ?_)
      obtain rfl := some_inj hb5
      exact ⟨k_5, Nat.lt_succ_self _, i1 + 1, (out2 ++ [(bits .xor .i64 x word)]), B5, c5, (FF.cons (hf4.get 0 0 rfl) (FF.cons rfl (FF.cons (hf4.get 5 2 rfl) (FF.cons (hf4.get 11 3 rfl) (FF.cons (hf4.get 12 4 rfl) (FF.cons (hf4.get 41 5 rfl) (FF.cons (hf4.get 42 6 rfl) (FF.cons (congrArg (Value.int .i64) (wr_succ hlt3 hN1)) FF.nil)))))))), (hS10.sel [0, 1] rfl rfl), (by omega), hL5⟩
     ·skip
      obtain rfl : k_4 = 0 := by have h := of_decide_eq_false hlt2; omega
      refine cw_exit rfl ?_
      obtain rfl := some_inj hL4
      exact ⟨out2, B4, c4, (some_inj hF11), (FF.cons (hf4.get 0 0 rfl) (FF.cons (hf4.get 3 1 rfl) (FF.cons (hf4.get 11 3 rfl) (FF.cons (hf4.get 12 4 rfl) FF.nil)))), (hS8.sel [0] rfl rfl)⟩
  rintro f w ⟨out1, B2, c2, rfl, hf1, hS3⟩
  refine cw_region ?_
  refine sQ 54 (Y_add (k := .i64) (a := (i : Int)) (b := 1) rfl (hf1.get 12 3 rfl) rfl) ?_
  refine sQ 12 (Y_move (v := vi (i64.wrap ((i : Int) + 1))) rfl rfl) (rw_nil ?_)
  obtain rfl := some_inj hF2
  exact ⟨k_1, Nat.lt_succ_self _, i + 1, out1, B2, c2, (FF.cons (hf1.get 0 0 rfl) (FF.cons (hf1.get 3 1 rfl) (FF.cons (hf1.get 11 2 rfl) (FF.cons (congrArg (Value.int .i64) (wr_succ hlt1 hN)) FF.nil)))), (hS3.sel [0] rfl rfl), (by omega), hL1⟩
 ·skip
  obtain rfl : k_ = 0 := by have h := of_decide_eq_false hlt; omega
  refine cw_exit rfl ?_
  obtain rfl := some_inj hL
  refine cw_seq (cw_region ?_)
  refine sQ 55 (Y_move (v := .slice B1 out.length c1) rfl (hf.get 3 1 rfl)) ?_
  obtain ⟨m, hc2, hF1⟩ := bind_inv hF1
  refine sc 56 rfl rfl (Yc_func (g := 205) (vs := [.slice B1 out.length c1]) k_call_205 rfl (mc rfl mn) (c_slices_Sort_int_int out B1 c1 out.length _ rfl (hS2.inn [true] rfl [] rfl) hc2)) ?_
  rintro _ w_5 ⟨rfl, hl, hd1⟩
  have hS11 := hS2.out [true] rfl hd1
  refine rw_nil (cw_seq (cw_region ?_))
  refine sQ 57 (Y_move (v := .slice B1 out.length c1) rfl (hf.get 3 1 rfl)) ?_
  refine sQ 2 (Y_assign (v := .slice B1 out.length c1) rfl rfl) (rw_nil (cw_ret ?_))
  obtain rfl := some_inj hF1
  exact ret1 Tryz.results185 (v1 := .slice B1 out.length c1) (resAt_tmp rfl) ⟨B1, c1, (sl_eqv hl), (hS11.sN [0])⟩

theorem c_impl_nearest (n : Int) (word : Int)  (w0 : World)  (hS : ST w0 [] w0 [] []) {r_ : Int} {r_1 : Int} (hF : F_impl_nearest n word = some (r_, r_1)) :
  CV Tryz.prog 110 #[vi n, vi word] w0 (fun v w' => v = .tuple #[vi r_, vi r_1] ∧ ST w0 [] w' [] []) := by
 unfold F_impl_nearest at hF
 refine cv_of_cw 32 Tryz.func110 rfl Tryz.ntmps110 rfl ?_
 refine cw_seq (cw_region ?_)
 refine sQ 4 (Y_assign (v := vi 0) rfl rfl) ?_
 refine sQ 5 (Y_assign (v := vi 0) rfl rfl) (rw_nil (cw_seq ?_))
 obtain ⟨hsh, hF⟩ := chk_inv hF
 refine ra_start (hS.se []).fn (by kernel_rfl) ?_
 have hS1 := hS.drew
 refine rq 0 11 (v := vi n) rfl (hS1.se []) (fun w' hw' => (Y_move (v := vi n) rfl rfl)) ?_
 refine rq 1 12 (v := vi (shlK .i64 1 n)) rfl (hS1.se []) (fun w' hw' => (Y_shl (k := .i64) (a := 1) (k' := .i64) (b := n) rfl rfl rfl hsh)) ?_
 refine rq 2 6 (v := vi 0) rfl (hS1.se []) (fun w' hw' => (Y_assign (v := vi 0) rfl rfl)) ?_
 refine rq 3 7 (v := vi (shlK .i64 1 n)) rfl (hS1.se []) (fun w' hw' => (Y_assign (v := vi (shlK .i64 1 n)) rfl rfl)) ?_
 refine ra_done (by kernel_rfl) ?_
 refine cw_seq (cw_seq (cw_region ?_))
 refine sQ 13 (Y_move (v := vi n) rfl rfl) ?_
 obtain ⟨r_2, hc, hF⟩ := bind_inv hF
 refine sc 14 rfl rfl (Yc_func (g := 185) (vs := [vi n]) k_call_185 rfl (mc rfl mn) (c_impl_codeWords n _  (hS1.inn0 [] rfl) hc)) ?_
 rintro _ w_ ⟨B, c, rfl, hd⟩
 have hS2 := hS1.out0 hd
 refine sQ 15 (Y_len (B := B) (m := r_2.length) (c := c) k_sl_66_3 rfl rfl) ?_
 refine sQ 16 (Y_move (v := vi 0) rfl rfl) (rw_nil ?_)
 obtain ⟨hN, hF⟩ := chk_inv hF
 obtain ⟨z, hz, hF1⟩ := bind_inv hF
 refine cw_block ?_
 refine cw_loop (fun k f w => ∃ (i : Nat) (best : Int) (least : Int), FF f [(1, vi word), (6, vi best), (7, vi least), (14, .slice B r_2.length c), (15, vi (r_2.length : Int)), (16, vi (i : Int))] ∧ ST w0 [] w [⟨B, 3, (r_2.flatMap encI), c * 1⟩] [] ∧ i + k = r_2.length ∧ forN (F_impl_nearest_l1 r_2 word) k i (best, least) = some z) r_2.length ⟨0, 0, (shlK .i64 1 n), (FF.cons rfl (FF.cons rfl (FF.cons rfl (FF.cons rfl (FF.cons rfl (FF.cons rfl FF.nil)))))), (hS2.sel [0] rfl rfl), Nat.zero_add _, hz⟩ ?_
 rintro k_ f w ⟨i, best, least, hf, hS3, hik, hL⟩
 refine cw_seq (cw_region ?_)
 refine sQ 17 (Y_lt (k := .i64) (a := (i : Int)) (b := (r_2.length : Int)) rfl (hf.get 16 5 rfl) (hf.get 15 4 rfl)) (rw_nil (cw_seq ?_))
 refine cw_cond (b := (decide ((i : Int) < (r_2.length : Int)))) rfl (fun hlt => ?_) (fun hlt => ?_)
 ·skip
  have hlt1 : i < r_2.length := by have h := of_decide_eq_true hlt; omega
  obtain ⟨k_1, rfl⟩ : ∃ k2, k_ = k2 + 1 := ⟨k_ - 1, by omega⟩
  obtain ⟨y, hb, hL1⟩ := forN_go hL
  unfold F_impl_nearest_l1 at hb
  refine cw_skip (cw_seq ?_)
  obtain ⟨z1, hz1, hF2⟩ := bind_inv hb
  refine cw_mid (fun f w => ∃ (best1 : Int) (least1 : Int), (best1, least1) = z1 ∧ FF f [(1, vi word), (6, vi best1), (7, vi least1), (14, .slice B r_2.length c), (15, vi (r_2.length : Int)), (16, vi (i : Int))] ∧ ST w0 [] w [⟨B, 3, (r_2.flatMap encI), c * 1⟩] []) ?_ ?_
  ·skip
   refine cw_block (cw_seq (cw_region ?_))
   obtain ⟨x, hx, hz1⟩ := bind_inv hz1
   refine sQ 18 (Y_index (B := B) (m := r_2.length) (c := c) (k := .i64) (i := (i : Int)) k_sl_66_3 k_sz_3_1 rfl (hf.get 14 3 rfl) (hf.get 16 5 rfl) (gi_isSome encI_len rfl (hS3.cf (i := 0) rfl) hx) (getI_nn hx) (getI_ltI hx rfl)) ?_
   refine sQ 19 (Y_load1 (B := B) (i := (i : Int).toNat * 1) (cs := (r_2.flatMap encI)) (v := vi x) k_sc_3 rfl rfl (hS3.cf (i := 0) rfl) (gi_at0 encI_len hx rfl)) ?_
   refine sQ 9 (Y_assign (v := vi x) rfl rfl) (rw_nil (cw_seq (cw_region ?_)))
   refine sQ 20 (Y_move (v := vi x) rfl rfl) ?_
   refine sQ 21 (Y_move (v := vi word) rfl (hf.get 1 0 rfl)) ?_
   refine sQ 22 (Y_bxor (k := .i64) (a := x) (b := word) rfl rfl rfl) ?_
   obtain ⟨r_3, hc1, hz1⟩ := bind_inv hz1
   refine sc 23 rfl rfl (Yc_func (g := 186) (vs := [vi (bits .xor .i64 x word)]) k_call_186 rfl (mc rfl mn) (c_impl_bitsIn (bits .xor .i64 x word) _  (hS3.inn0 [] rfl) hc1)) ?_
   rintro _ w_1 ⟨rfl, hd1⟩
   have hS5 := hS3.out00 hd1
   refine sQ 10 (Y_assign (v := vi r_3) rfl rfl) (rw_nil (cw_seq (cw_region ?_)))
   refine sQ 24 (Y_move (v := vi r_3) rfl rfl) ?_
   refine sQ 25 (Y_move (v := vi least) rfl (hf.get 7 2 rfl)) ?_
   refine sQ 26 (Y_lt (k := .i64) (a := r_3) (b := least) rfl rfl rfl) (rw_nil ?_)
   refine cw_cond (b := (decide (r_3 < least))) rfl (fun hb1 => ?_) (fun hb1 => ?_)
   ·skip
    have hF3 := ct hz1 hb1
    refine cw_region ?_
    refine sQ 27 (Y_move (v := vi x) rfl rfl) ?_
    refine sQ 28 (Y_move (v := vi r_3) rfl rfl) ?_
    refine sQ 6 (Y_assign (v := vi x) rfl rfl) ?_
    refine sQ 7 (Y_assign (v := vi r_3) rfl rfl) (rw_nil ?_)
    exact ⟨x, r_3, (some_inj hF3), (FF.cons (hf.get 1 0 rfl) (FF.cons rfl (FF.cons rfl (FF.cons (hf.get 14 3 rfl) (FF.cons (hf.get 15 4 rfl) (FF.cons (hf.get 16 5 rfl) FF.nil)))))), (hS5.sel [0] rfl rfl)⟩
   ·skip
    have hF4 := cf' hz1 hb1
    refine cw_skip ?_
    exact ⟨best, least, (some_inj hF4), (FF.cons (hf.get 1 0 rfl) (FF.cons (hf.get 6 1 rfl) (FF.cons (hf.get 7 2 rfl) (FF.cons (hf.get 14 3 rfl) (FF.cons (hf.get 15 4 rfl) (FF.cons (hf.get 16 5 rfl) FF.nil)))))), (hS5.sel [0] rfl rfl)⟩
  rintro f w ⟨best1, least1, rfl, hf1, hS4⟩
  refine cw_region ?_
  refine sQ 29 (Y_add (k := .i64) (a := (i : Int)) (b := 1) rfl (hf1.get 16 5 rfl) rfl) ?_
  refine sQ 16 (Y_move (v := vi (i64.wrap ((i : Int) + 1))) rfl rfl) (rw_nil ?_)
  obtain rfl := some_inj hF2
  exact ⟨k_1, Nat.lt_succ_self _, i + 1, best1, least1, (FF.cons (hf1.get 1 0 rfl) (FF.cons (hf1.get 6 1 rfl) (FF.cons (hf1.get 7 2 rfl) (FF.cons (hf1.get 14 3 rfl) (FF.cons (hf1.get 15 4 rfl) (FF.cons (congrArg (Value.int .i64) (wr_succ hlt1 hN)) FF.nil)))))), (hS4.sel [0] rfl rfl), (by omega), hL1⟩
 ·skip
  obtain rfl : k_ = 0 := by have h := of_decide_eq_false hlt; omega
  refine cw_exit rfl ?_
  obtain rfl := some_inj hL
  refine cw_seq (cw_region ?_)
  refine sQ 30 (Y_move (v := vi best) rfl (hf.get 6 1 rfl)) ?_
  refine sQ 31 (Y_move (v := vi least) rfl (hf.get 7 2 rfl)) ?_
  refine sQ 4 (Y_assign (v := vi best) rfl rfl) ?_
  refine sQ 5 (Y_assign (v := vi least) rfl rfl) (rw_nil (cw_ret ?_))
  obtain ⟨rfl, rfl⟩ := pr2 (some_inj hF1)
  exact ret2 Tryz.results110 (v1 := vi best) (resAt_tmp rfl) (v2 := vi least) (resAt_tmp rfl) ⟨rfl, (hS3.sN [])⟩

theorem c_impl_oddWord (p : TPhasePoly) (B : Option Addr) (c n : Nat) (B1 : Option Addr) (c1 n1 : Nat) (w0 : World) (hn : p.Terms.length = n) (hn1 : p.Out.Rows.length = n1) (hS : ST w0 [] w0 [] [⟨B, (p.Terms.flatMap eN0)⟩, ⟨B1, (p.Out.Rows.flatMap encI)⟩]) {r_ : Int} (hF : F_impl_oddWord p = some r_) :
  CV Tryz.prog 111 #[.agg #[vi p.Qubits, vi p.Phase, .slice B n c, .slice B1 n1 c1]] w0 (fun v w' => v = vi r_ ∧ ST w0 [] w' [] []) := by
 subst hn
 subst hn1
 unfold F_impl_oddWord at hF
 refine cv_of_cw 25 Tryz.func111 rfl Tryz.ntmps111 rfl ?_
 refine cw_seq (cw_region ?_)
 refine sS 1 (Ys_box (T := 70) (v := .agg #[vi p.Qubits, vi p.Phase, .slice B p.Terms.length c, .slice B1 p.Out.Rows.length c1]) (cs := [vi p.Qubits, vi p.Phase, .slice B p.Terms.length c, .slice B1 p.Out.Rows.length c1]) (m := 4) hS rfl rfl rfl rfl) ?_
 rintro _ w_ ⟨b, rfl, hS1⟩
 refine sQ 2 (Y_assign (v := vi 0) rfl rfl) (rw_nil (cw_seq (cw_region ?_)))
 refine sQ 3 (Y_assign (v := vi 0) rfl rfl) (rw_nil (cw_seq (cw_seq (cw_region ?_))))
 refine sQ 6 (Y_fieldAddr (B := aD b) (i := 0) (s := 0) k_fd_70_2_2_65 k_sz_65_1 rfl rfl) ?_
 refine sQ 7 (Y_load1 (B := aD b) (i := 2) (cs := [vi p.Qubits, vi p.Phase, .slice B p.Terms.length c, .slice B1 p.Out.Rows.length c1]) (v := .slice B p.Terms.length c) k_sc_65 rfl rfl (hS1.cf (i := 0) rfl) rfl) ?_
 refine sQ 8 (Y_len (B := B) (m := p.Terms.length) (c := c) k_sl_65_136 rfl rfl) ?_
 refine sQ 9 (Y_move (v := vi 0) rfl rfl) (rw_nil ?_)
 obtain ⟨hN, hF⟩ := chk_inv hF
 obtain ⟨z, hz, hF1⟩ := bind_inv hF
 refine cw_block ?_
 refine cw_loop (fun k f w => ∃ (i : Nat) (word : Int), FF f [(3, vi word), (7, .slice B p.Terms.length c), (8, vi (p.Terms.length : Int)), (9, vi (i : Int))] ∧ ST w0 [] w [] [⟨B, (p.Terms.flatMap eN0)⟩, ⟨B1, (p.Out.Rows.flatMap encI)⟩] ∧ i + k = p.Terms.length ∧ forN (F_impl_oddWord_l1 p) k i word = some z) p.Terms.length ⟨0, 0, (FF.cons rfl (FF.cons rfl (FF.cons rfl (FF.cons rfl FF.nil)))), (hS1.sel [] rfl rfl), Nat.zero_add _, hz⟩ ?_
 rintro k_ f w ⟨i, word, hf, hS2, hik, hL⟩
 refine cw_seq (cw_region ?_)
 refine sQ 10 (Y_lt (k := .i64) (a := (i : Int)) (b := (p.Terms.length : Int)) rfl (hf.get 9 3 rfl) (hf.get 8 2 rfl)) (rw_nil (cw_seq ?_))
 refine cw_cond (b := (decide ((i : Int) < (p.Terms.length : Int)))) rfl (fun hlt => ?_) (fun hlt => ?_)
 ·skip
  have hlt1 : i < p.Terms.length := by have h := of_decide_eq_true hlt; omega
  obtain ⟨k_1, rfl⟩ : ∃ k2, k_ = k2 + 1 := ⟨k_ - 1, by omega⟩
  obtain ⟨y, hb, hL1⟩ := forN_go hL
  unfold F_impl_oddWord_l1 at hb
  refine cw_skip (cw_seq ?_)
  obtain ⟨z1, hz1, hF2⟩ := bind_inv hb
  refine cw_mid (fun f w => ∃ (word1 : Int), word1 = z1 ∧ FF f [(3, vi word1), (7, .slice B p.Terms.length c), (8, vi (p.Terms.length : Int)), (9, vi (i : Int))] ∧ ST w0 [] w [] [⟨B, (p.Terms.flatMap eN0)⟩, ⟨B1, (p.Out.Rows.flatMap encI)⟩]) ?_ ?_
  ·skip
   refine cw_block (cw_seq (cw_region ?_))
   obtain ⟨x, hx, hz1⟩ := bind_inv hz1
   refine sQ 11 (Y_index (B := B) (m := p.Terms.length) (c := c) (k := .i64) (i := (i : Int)) k_sl_65_136 k_sz_136_2 rfl (hf.get 7 1 rfl) (hf.get 9 3 rfl) (gi_isSome eN1 rfl (hS2.rf (i := 0) rfl) hx) (getI_nn hx) (getI_ltI hx rfl)) ?_
   refine sQ 12 (Y_loadA (B := B) (i := (i : Int).toNat * 2) (cs := (p.Terms.flatMap eN0)) (vs := [vi x.Mask, vi x.Coef]) k_ag_136 k_sz_136_2 rfl rfl (hS2.rf (i := 0) rfl) (eN1 x) (gi_seg eN1 hx)) ?_
   refine sS 5 (Ys_alloc (T := 136) (cs := [vi 0, vi 0]) (m := 2) hS2 k_zero_136 rfl rfl rfl) ?_
   rintro _ w_1 ⟨b1, rfl, hS4⟩
   refine s0 (Ys_store (i := 0) (s := 2) (B := aD b1) (T' := 136) (v := .agg #[vi x.Mask, vi x.Coef]) (vs := [vi x.Mask, vi x.Coef]) (k := 0) (cs' := [vi x.Mask, vi x.Coef]) hS4 k_sz_136_2 rfl rfl rfl rfl rfl rfl rfl (lB rfl) rfl rfl) ?_
   rintro _ w_2 ⟨rfl, hS5⟩
   refine rw_nil (cw_seq (cw_region ?_))
   refine sQ 13 (Y_fieldAddr (B := aD b1) (i := 0) (s := 0) k_fd_136_1_1_3 k_sz_3_1 rfl rfl) ?_
   refine sQ 14 (Y_load1 (B := aD b1) (i := 1) (cs := [vi x.Mask, vi x.Coef]) (v := vi x.Coef) k_sc_3 rfl rfl (hS5.cf (i := 0) rfl) rfl) ?_
   refine sQ 15 (Y_rem (k := .i64) (a := x.Coef) (b := 2) rfl rfl rfl (by decide)) ?_
   refine sQ 16 (Y_eq (k := .i64) (a := (Int.tmod x.Coef 2)) (b := 1) rfl rfl rfl) (rw_nil ?_)
   refine cw_cond (b := ((Int.tmod x.Coef 2) == 1)) rfl (fun hb1 => ?_) (fun hb1 => ?_)
   ·skip
    have hF3 := ct hz1 hb1
    refine cw_region ?_
    refine sQ 17 (Y_move (v := vi word) rfl (hf.get 3 0 rfl)) ?_
    refine sQ 18 (Y_fieldAddr (B := aD b1) (i := 0) (s := 0) k_fd_136_0_0_3 k_sz_3_1 rfl rfl) ?_
    refine sQ 19 (Y_load1 (B := aD b1) (i := 0) (cs := [vi x.Mask, vi x.Coef]) (v := vi x.Mask) k_sc_3 rfl rfl (hS5.cf (i := 0) rfl) rfl) ?_
    refine sQ 20 (Y_sub (k := .i64) (a := x.Mask) (b := 1) rfl rfl rfl) ?_
    obtain ⟨hsh, hF3⟩ := chk_inv hF3
    refine sQ 21 (Y_shl (k := .i64) (a := 1) (k' := .i64) (b := (i64.wrap (x.Mask - 1))) rfl rfl rfl hsh) ?_
    refine sQ 22 (Y_bor (k := .i64) (a := word) (b := (shlK .i64 1 (i64.wrap (x.Mask - 1)))) rfl rfl rfl) ?_
    refine sQ 3 (Y_assign (v := vi (bits .or .i64 word (shlK .i64 1 (i64.wrap (x.Mask - 1))))) rfl rfl) (rw_nil ?_)
    exact ⟨(bits .or .i64 word (shlK .i64 1 (i64.wrap (x.Mask - 1)))), (some_inj hF3), (FF.cons rfl (FF.cons (hf.get 7 1 rfl) (FF.cons (hf.get 8 2 rfl) (FF.cons (hf.get 9 3 rfl) FF.nil)))), (hS5.sel [] rfl rfl)⟩
   ·skip
    have hF4 := cf' hz1 hb1
    refine cw_skip ?_
    exact ⟨word, (some_inj hF4), (FF.cons (hf.get 3 0 rfl) (FF.cons (hf.get 7 1 rfl) (FF.cons (hf.get 8 2 rfl) (FF.cons (hf.get 9 3 rfl) FF.nil)))), (hS5.sel [] rfl rfl)⟩
  rintro f w ⟨word1, rfl, hf1, hS3⟩
  refine cw_region ?_
  refine sQ 23 (Y_add (k := .i64) (a := (i : Int)) (b := 1) rfl (hf1.get 9 3 rfl) rfl) ?_
  refine sQ 9 (Y_move (v := vi (i64.wrap ((i : Int) + 1))) rfl rfl) (rw_nil ?_)
  obtain rfl := some_inj hF2
  exact ⟨k_1, Nat.lt_succ_self _, i + 1, word1, (FF.cons (hf1.get 3 0 rfl) (FF.cons (hf1.get 7 1 rfl) (FF.cons (hf1.get 8 2 rfl) (FF.cons (congrArg (Value.int .i64) (wr_succ hlt1 hN)) FF.nil)))), (hS3.sel [] rfl rfl), (by omega), hL1⟩
 ·skip
  obtain rfl : k_ = 0 := by have h := of_decide_eq_false hlt; omega
  refine cw_exit rfl ?_
  obtain rfl := some_inj hL
  refine cw_seq (cw_region ?_)
  refine sQ 24 (Y_move (v := vi word) rfl (hf.get 3 0 rfl)) ?_
  refine sQ 2 (Y_assign (v := vi word) rfl rfl) (rw_nil (cw_ret ?_))
  obtain rfl := some_inj hF1
  exact ret1 Tryz.results111 (v1 := vi word) (resAt_tmp rfl) ⟨rfl, (hS2.sN [])⟩

theorem c_impl_coefficients_add (c : List Int) (mask : Int) (coef : Int) (B : Option Addr) (w0 : World) (hlen : c.length = 32) (hS : ST w0 (bl [⟨B, 127, (c.flatMap encI), 32⟩]) w0 [⟨B, 127, (c.flatMap encI), 32⟩] []) {m : List Int} (hF : F_impl_coefficients_add c mask coef = some m) :
  CV Tryz.prog 93 #[pt B 0, vi mask, vi coef] w0 (fun v w' => v = .tuple #[] ∧ m.length = 32 ∧ ST w0 (bl [⟨B, 127, (c.flatMap encI), 32⟩]) w' [⟨B, 127, (m.flatMap encI), 32⟩] []) := by
 unfold F_impl_coefficients_add at hF
 refine cv_of_cw 20 Tryz.func93 rfl Tryz.ntmps93 rfl ?_
 obtain ⟨x, hx, hF⟩ := bind_inv hF
 refine ra_start (hS.se []).fn (by kernel_rfl) ?_
 have hS1 := hS.drew
 refine rq 0 6 (v := pt B 0) rfl (hS1.se []) (fun w' hw' => (Y_move (v := pt B 0) rfl rfl)) ?_
 refine rq 1 7 (v := vi mask) rfl (hS1.se []) (fun w' hw' => (Y_move (v := vi mask) rfl rfl)) ?_
 refine rq 2 8 (v := pt B 0) rfl (hS1.se []) (fun w' hw' => (Y_move (v := pt B 0) rfl rfl)) ?_
 refine rq 3 9 (v := vi mask) rfl (hS1.se []) (fun w' hw' => (Y_move (v := vi mask) rfl rfl)) ?_
 refine rq 4 10 (v := pt B 0) rfl (hS1.se []) (fun w' hw' => (Y_nilCheck (B := B) (i := 0) rfl rfl)) ?_
 refine rq 5 11 (v := pt B (mask.toNat * 1)) rfl (hS1.se []) (fun w' hw' => (Y_indexArr0 (B := B) (k := .i64) (i := mask) k_ar_127_32_3 k_sz_3_1 rfl rfl rfl (getI_nn hx) (getI_ltI hx hlen))) ?_
 refine rq 7 13 (v := vi coef) rfl (hS1.se []) (fun w' hw' => (Y_move (v := vi coef) rfl rfl)) ?_
 refine rq 12 18 (v := pt B 0) rfl (hS1.se []) (fun w' hw' => (Y_nilCheck (B := B) (i := 0) rfl rfl)) ?_
 refine rA [6] ?_
 refine ra_y 12 (i := 6) (v := vi x) rfl rfl rfl (Y_load1 (B := B) (i := mask.toNat * 1) (cs := (c.flatMap encI)) (v := vi x) k_sc_3 rfl rfl (hS1.cf (i := 0) rfl) (gi_at0 encI_len hx rfl)) (hS1.se []) ?_ ?_
 ·skip
  refine rq 8 14 (v := vi (i64.wrap (x + coef))) rfl (hS1.se []) (fun w' hw' => (Y_add (k := .i64) (a := x) (b := coef) rfl rfl rfl)) ?_
  refine rq 9 15 (v := vi (Int.tmod (i64.wrap (x + coef)) 8)) rfl (hS1.se []) (fun w' hw' => (Y_rem (k := .i64) (a := (i64.wrap (x + coef))) (b := 8) rfl rfl rfl (by decide))) ?_
  refine rq 10 16 (v := vi (i64.wrap ((Int.tmod (i64.wrap (x + coef)) 8) + 8))) rfl (hS1.se []) (fun w' hw' => (Y_add (k := .i64) (a := (Int.tmod (i64.wrap (x + coef)) 8)) (b := 8) rfl rfl rfl)) ?_
  refine rq 11 17 (v := vi (Int.tmod (i64.wrap ((Int.tmod (i64.wrap (x + coef)) 8) + 8)) 8)) rfl (hS1.se []) (fun w' hw' => (Y_rem (k := .i64) (a := (i64.wrap ((Int.tmod (i64.wrap (x + coef)) 8) + 8))) (b := 8) rfl rfl rfl (by decide))) ?_
  refine rq 13 19 (v := pt B (mask.toNat * 1)) rfl (hS1.se []) (fun w' hw' => (Y_indexArr0 (B := B) (k := .i64) (i := mask) k_ar_127_32_3 k_sz_3_1 rfl rfl rfl (getI_nn hx) (getI_ltI hx hlen))) ?_
  refine rA [14] ?_
  refine ra_s0 (i := 14) rfl rfl rfl (Ys_store (i := 0) (s := 1) (B := B) (T' := 127) (v := vi (Int.tmod (i64.wrap ((Int.tmod (i64.wrap (x + coef)) 8) + 8)) 8)) (vs := [vi (Int.tmod (i64.wrap ((Int.tmod (i64.wrap (x + coef)) 8) + 8)) 8)]) (k := mask.toNat * 1) (cs' := ((c.set mask.toNat (Int.tmod (i64.wrap ((Int.tmod (i64.wrap (x + coef)) 8) + 8)) 8)).flatMap encI)) hS1 k_sz_3_1 rfl rfl rfl rfl rfl rfl rfl (gi_fit0 encI_len hx) (gi_set encI_len hx (Int.tmod (i64.wrap ((Int.tmod (i64.wrap (x + coef)) 8) + 8)) 8) rfl) rfl) ?_ ?_
  ·rintro _ w_ ⟨rfl, hS2⟩
   refine ⟨(hS2.se []), ?_⟩
   refine ra_done (by kernel_rfl) ?_
   obtain rfl := some_inj hF
   exact ret0 Tryz.results93  ⟨rfl, (set_len _ _ _ hlen), (hS2.sN [0])⟩
  exact allR_nil
 exact allR_nil

theorem c_impl_coefficients_terms (c : List Int)  (w0 : World) (hlen : c.length = 32) (hS : ST w0 [] w0 [] []) {r_ : List TTerm} (hF : F_impl_coefficients_terms c = some r_) :
  CV Tryz.prog 95 #[.agg (c.flatMap encI).toArray] w0 (fun v w' => ∃ (B : Option Addr) (c1 : Nat), v = .slice B r_.length c1 ∧ ST w0 [] w' [⟨B, 136, (r_.flatMap eN0), c1 * 2⟩] []) := by
 unfold F_impl_coefficients_terms at hF
 refine cv_of_cw 26 Tryz.func95 rfl Tryz.ntmps95 rfl ?_
 refine cw_seq (cw_region ?_)
 refine sS 1 (Ys_box (T := 127) (v := .agg (c.flatMap encI).toArray) (cs := (c.flatMap encI)) (m := 32) hS rfl rfl rfl (fm_lenn2 encI_len hlen rfl)) ?_
 rintro _ w_ ⟨b, rfl, hS1⟩
 refine sQ 2 (Y_assign (v := .slice none 0 0) rfl rfl) (rw_nil (cw_seq (cw_region ?_)))
 refine sS 6 (Ys_bslice0 (s := 2) (e := 136) hS1 k_sl_65_136 k_sz_136_2 rfl) ?_
 rintro _ w_1 ⟨b1, rfl, hS2⟩
 refine sQ 3 (Y_assign (v := .slice (aD b1) 0 0) rfl rfl) (rw_nil (cw_seq (cw_seq (cw_region ?_))))
 refine sQ 7 (Y_loadA (B := aD b) (i := 0) (cs := (c.flatMap encI)) (vs := (c.flatMap encI)) k_ag_127 k_sz_127_32 rfl rfl (hS2.cf (i := 0) rfl) (fm_lenn2 encI_len hlen rfl) (fm_whole encI_len hlen rfl)) ?_
 refine sQ 8 (Y_move (v := vi 0) rfl rfl) (rw_nil ?_)
 obtain ⟨z, hz, hF1⟩ := bind_inv hF
 refine cw_block ?_
 refine cw_loop (fun k f w => ∃ (i : Nat) (out : List TTerm) (B1 : Option Addr) (c2 : Nat), FF f [(3, .slice B1 out.length c2), (7, .agg (c.flatMap encI).toArray), (8, vi (i : Int))] ∧ ST w0 [] w [⟨B1, 136, (out.flatMap eN0), c2 * 2⟩] [] ∧ i + k = 32 ∧ forN (F_impl_coefficients_terms_l1 c) k i out = some z) 32 ⟨0, [], aD b1, 0, (FF.cons rfl (FF.cons rfl (FF.cons rfl FF.nil))), (hS2.sel [1] rfl rfl), Nat.zero_add _, hz⟩ ?_
 rintro k_ f w ⟨i, out, B1, c2, hf, hS3, hik, hL⟩
 refine cw_seq (cw_region ?_)
 refine sQ 9 (Y_lt (k := .i64) (a := (i : Int)) (b := 32) rfl (hf.get 8 2 rfl) rfl) (rw_nil (cw_seq ?_))
 refine cw_cond (b := (decide ((i : Int) < 32))) rfl (fun hlt => ?_) (fun hlt => ?_)
 ·skip
  have hlt1 : i < 32 := by have h := of_decide_eq_true hlt; omega
  obtain ⟨k_1, rfl⟩ : ∃ k2, k_ = k2 + 1 := ⟨k_ - 1, by omega⟩
  obtain ⟨y, hb, hL1⟩ := forN_go hL
  unfold F_impl_coefficients_terms_l1 at hb
  refine cw_skip (cw_seq ?_)
  obtain ⟨z1, hz1, hF2⟩ := bind_inv hb
  refine cw_mid (fun f w => ∃ (out1 : List TTerm) (B2 : Option Addr) (c3 : Nat), out1 = z1 ∧ FF f [(3, .slice B2 out1.length c3), (7, .agg (c.flatMap encI).toArray), (8, vi (i : Int))] ∧ ST w0 [] w [⟨B2, 136, (out1.flatMap eN0), c3 * 2⟩] []) ?_ ?_
  ·skip
   refine cw_block (cw_seq (cw_region ?_))
   refine sQ 10 (Y_move (v := vi (i : Int)) rfl (hf.get 8 2 rfl)) ?_
   obtain ⟨x, hx, hz1⟩ := bind_inv hz1
   refine sQ 11 (Y_idx1 (cl := (c.flatMap encI)) (k := .i64) (i := (i : Int)) (v := vi x) k_ar_127_32_3 k_sz_3_1 k_sc_3 rfl (hf.get 7 1 rfl) (hf.get 8 2 rfl) (getI_nn hx) (getI_ltI hx hlen) (gi_at0 encI_len hx rfl)) ?_
   refine sQ 4 (Y_assign (v := vi (i : Int)) rfl rfl) ?_
   refine sQ 5 (Y_assign (v := vi x) rfl rfl) (rw_nil (cw_seq (cw_region ?_)))
   refine sQ 12 (Y_move (v := vi (i : Int)) rfl rfl) ?_
   refine sQ 13 (Y_gt (k := .i64) (a := (i : Int)) (b := 0) rfl rfl rfl) ?_
   refine sQ 14 (Y_move (v := .bool (decide (0 < (i : Int)))) rfl rfl) ?_
   refine sgq 15 (B := (decide (0 < (i : Int)))) (v := vi x) rfl rfl (uT_ 14) (fun hg => (Y_move (v := vi x) rfl rfl)) ?_
   refine sgq 16 (B := (decide (0 < (i : Int)))) (v := .bool (decide (0 < x))) rfl rfl (uT_ 14) (fun hg1 => (Y_gt (k := .i64) (a := x) (b := 0) rfl (gv_of (v := vi x) hg1) rfl)) ?_
   refine sQ 17 (Y_and (b := (decide (0 < (i : Int)))) (z := (decide (0 < x))) rfl rfl rfl rfl) (rw_nil ?_)
   refine cw_cond (b := ((decide (0 < (i : Int))) && (decide (0 < x)))) rfl (fun hb1 => ?_) (fun hb1 => ?_)
   ·skip
    have hF3 := ct hz1 hb1
    refine cw_region ?_
    refine sQ 18 (Y_move (v := .slice B1 out.length c2) rfl (hf.get 3 0 rfl)) ?_
    refine sQ 19 (Y_move (v := vi (i : Int)) rfl rfl) ?_
    refine sQ 20 (Y_move (v := vi x) rfl rfl) ?_
    refine sQ 21 (Y_buildS (zs := [vi 0, vi 0]) (vs := [(0, vi (i : Int)), (1, vi x)]) (cs := [vi (i : Int), vi x]) k_pl_136 k_zero_136 rfl (mpc rfl (mpc rfl mpn)) rfl) ?_
    refine sS 22 (Ys_bslice (s := 2) (len := 1) (vs := [(0, .agg #[vi (i : Int), vi x])]) (cs := [vi (i : Int), vi x]) (zs := [vi 0, vi 0]) (m := 2) hS3 k_sl_65_136 k_sz_136_2 k_zc_136 rfl (mpc rfl mpn) rfl rfl rfl (by kernel_rfl) (by kernel_rfl) rfl) ?_
    rintro _ w_2 ⟨b2, rfl, hS5⟩
    obtain ⟨hap, hF3⟩ := chk_inv hF3
    refine sS 23 (Ys_append (s := 2) (by' := 16) (i := 0) (nn := out.length) (c := c2) (k := 1) (len := (out ++ [(TTerm.mk (i : Int) x)]).length) (B := B1) (xs := ([(TTerm.mk (i : Int) x)].flatMap eN0)) (cs' := ((out ++ [(TTerm.mk (i : Int) x)]).flatMap eN0)) hS5 k_sl_65_136 k_sz_136_2 k_by_136_16 k_zero_136 rfl (by decide) rfl rfl rfl rfl (fm_lenn (l := out) eN1 rfl) rfl (hS5.cf (i := 1) rfl) (fm_lenn (l := [(TTerm.mk (i : Int) x)]) eN1 rfl) (fm_one' (enc := eN0) enc_Term_one [(TTerm.mk (i : Int) x)]) (by have := hap; omega) (by have := hap; simp only [maxLen]; omega) (fm_app _ _) (app_len (l := out) (l' := [(TTerm.mk (i : Int) x)]) rfl rfl)) ?_
    rintro _ w_3 ⟨B3, c4, rfl, hS6⟩
    refine sQ 3 (Y_assign (v := .slice B3 ((out ++ [(TTerm.mk (i : Int) x)]).length) c4) rfl rfl) (rw_nil ?_)
    exact ⟨(out ++ [(TTerm.mk (i : Int) x)]), B3, c4, (some_inj hF3), (FF.cons rfl (FF.cons (hf.get 7 1 rfl) (FF.cons (hf.get 8 2 rfl) FF.nil))), (hS6.sel [0] rfl rfl)⟩
   ·skip
    have hF4 := cf' hz1 hb1
    refine cw_skip ?_
    exact ⟨out, B1, c2, (some_inj hF4), (FF.cons (hf.get 3 0 rfl) (FF.cons (hf.get 7 1 rfl) (FF.cons (hf.get 8 2 rfl) FF.nil))), (hS3.sel [0] rfl rfl)⟩
  rintro f w ⟨out1, B2, c3, rfl, hf1, hS4⟩
  refine cw_region ?_
  refine sQ 24 (Y_add (k := .i64) (a := (i : Int)) (b := 1) rfl (hf1.get 8 2 rfl) rfl) ?_
  refine sQ 8 (Y_move (v := vi (i64.wrap ((i : Int) + 1))) rfl rfl) (rw_nil ?_)
  obtain rfl := some_inj hF2
  exact ⟨k_1, Nat.lt_succ_self _, i + 1, out1, B2, c3, (FF.cons (hf1.get 3 0 rfl) (FF.cons (hf1.get 7 1 rfl) (FF.cons (congrArg (Value.int .i64) (wr_succ hlt1 (show 32 ≤ 9223372036854775807 by decide))) FF.nil))), (hS4.sel [0] rfl rfl), (by omega), hL1⟩
 ·skip
  obtain rfl : k_ = 0 := by have h := of_decide_eq_false hlt; omega
  refine cw_exit rfl ?_
  obtain rfl := some_inj hL
  refine cw_seq (cw_region ?_)
  refine sQ 25 (Y_move (v := .slice B1 out.length c2) rfl (hf.get 3 0 rfl)) ?_
  refine sQ 2 (Y_assign (v := .slice B1 out.length c2) rfl rfl) (rw_nil (cw_ret ?_))
  obtain rfl := some_inj hF1
  exact ret1 Tryz.results95 (v1 := .slice B1 out.length c2) (resAt_tmp rfl) ⟨B1, c2, rfl, (hS3.sN [0])⟩

theorem c_slices_Index_int_int (s : List Int) (v_ : Int) (B : Option Addr) (c n : Nat) (w0 : World) (hn : s.length = n) (hS : ST w0 [] w0 [] [⟨B, (s.flatMap encI)⟩]) {r_ : Int} (hF : F_slices_Index_int_int s v_ = some r_) :
  CV Tryz.prog 240 #[.slice B n c, vi v_] w0 (fun v w' => v = vi r_ ∧ ST w0 [] w' [] []) := by
 subst hn
 unfold F_slices_Index_int_int at hF
 refine cv_of_cw 19 Tryz.func240 rfl Tryz.ntmps240 rfl ?_
 refine cw_seq (cw_region ?_)
 refine sQ 4 (Y_assign (v := vi 0) rfl rfl) (rw_nil (cw_seq (cw_seq (cw_region ?_))))
 refine sQ 6 (Y_move (v := .slice B s.length c) rfl rfl) ?_
 refine sQ 7 (Y_len (B := B) (m := s.length) (c := c) k_sl_66_3 rfl rfl) ?_
 refine sQ 8 (Y_move (v := vi 0) rfl rfl) (rw_nil ?_)
 obtain ⟨hN, hF⟩ := chk_inv hF
 obtain ⟨z, hz, hF1⟩ := bind_inv hF
 refine cw_block ?_
 refine cw_loop (fun k f w => ∃ (i : Nat), FF f [(0, .slice B s.length c), (1, vi v_), (7, vi (s.length : Int)), (8, vi (i : Int))] ∧ ST w0 [] w [] [⟨B, (s.flatMap encI)⟩] ∧ i + k = s.length ∧ forX (F_slices_Index_int_int_l1 s v_) k i () = some z) s.length ⟨0, (FF.cons rfl (FF.cons rfl (FF.cons rfl (FF.cons rfl FF.nil)))), (hS.sel [] rfl rfl), Nat.zero_add _, hz⟩ ?_
 rintro k_ f w ⟨i, hf, hS1, hik, hL⟩
 refine cw_seq (cw_region ?_)
 refine sQ 9 (Y_lt (k := .i64) (a := (i : Int)) (b := (s.length : Int)) rfl (hf.get 8 3 rfl) (hf.get 7 2 rfl)) (rw_nil (cw_seq ?_))
 refine cw_cond (b := (decide ((i : Int) < (s.length : Int)))) rfl (fun hlt => ?_) (fun hlt => ?_)
 ·skip
  have hlt1 : i < s.length := by have h := of_decide_eq_true hlt; omega
  obtain ⟨k_1, rfl⟩ : ∃ k2, k_ = k2 + 1 := ⟨k_ - 1, by omega⟩
  obtain ⟨y, hb, hL1⟩ := forX_go hL
  unfold F_slices_Index_int_int_l1 at hb
  refine cw_skip (cw_seq (cw_block (cw_seq (cw_region ?_))))
  refine sQ 10 (Y_move (v := vi (i : Int)) rfl (hf.get 8 3 rfl)) ?_
  refine sQ 5 (Y_assign (v := vi (i : Int)) rfl rfl) (rw_nil (cw_seq (cw_region ?_)))
  refine sQ 11 (Y_move (v := vi v_) rfl (hf.get 1 1 rfl)) ?_
  refine sQ 12 (Y_move (v := .slice B s.length c) rfl (hf.get 0 0 rfl)) ?_
  refine sQ 13 (Y_move (v := vi (i : Int)) rfl rfl) ?_
  obtain ⟨x, hx, hb⟩ := bind_inv hb
  refine sQ 14 (Y_index (B := B) (m := s.length) (c := c) (k := .i64) (i := (i : Int)) k_sl_66_3 k_sz_3_1 rfl rfl rfl (gi_isSome encI_len rfl (hS1.rf (i := 0) rfl) hx) (getI_nn hx) (getI_ltI hx rfl)) ?_
  refine sQ 15 (Y_load1 (B := B) (i := (i : Int).toNat * 1) (cs := (s.flatMap encI)) (v := vi x) k_sc_3 rfl rfl (hS1.rf (i := 0) rfl) (gi_at0 encI_len hx rfl)) ?_
  refine sQ 16 (Y_eq (k := .i64) (a := v_) (b := x) rfl rfl rfl) (rw_nil ?_)
  refine cw_cond (b := (v_ == x)) rfl (fun hb1 => ?_) (fun hb1 => ?_)
  ·skip
   have hF2 := ct hb hb1
   refine cw_seq (cw_region ?_)
   refine sQ 17 (Y_move (v := vi (i : Int)) rfl rfl) ?_
   refine sQ 4 (Y_assign (v := vi (i : Int)) rfl rfl) (rw_nil (cw_ret ?_))
   obtain rfl := some_inj hF2
   obtain rfl := some_inj hL1
   obtain rfl := some_inj hF1
   exact ret1 Tryz.results240 (v1 := vi (i : Int)) (resAt_tmp rfl) ⟨rfl, (hS1.sN [])⟩
  ·skip
   have hF3 := cf' hb hb1
   refine cw_skip (cw_region ?_)
   refine sQ 18 (Y_add (k := .i64) (a := (i : Int)) (b := 1) rfl (hf.get 8 3 rfl) rfl) ?_
   refine sQ 8 (Y_move (v := vi (i64.wrap ((i : Int) + 1))) rfl rfl) (rw_nil ?_)
   obtain rfl := some_inj hF3
   exact ⟨k_1, Nat.lt_succ_self _, i + 1, (FF.cons (hf.get 0 0 rfl) (FF.cons (hf.get 1 1 rfl) (FF.cons (hf.get 7 2 rfl) (FF.cons (congrArg (Value.int .i64) (wr_succ hlt1 hN)) FF.nil)))), (hS1.sel [] rfl rfl), (by omega), hL1⟩
 ·skip
  obtain rfl : k_ = 0 := by have h := of_decide_eq_false hlt; omega
  refine cw_exit rfl ?_
  obtain rfl := some_inj hL
  refine cw_seq (cw_region ?_)
  refine sQ 4 (Y_assign (v := vi (-1)) rfl rfl) (rw_nil (cw_ret ?_))
  obtain rfl := some_inj hF1
  exact ret1 Tryz.results240 (v1 := vi (-1)) (resAt_tmp rfl) ⟨rfl, (hS1.sN [])⟩

theorem c_slices_Contains_int_int (s : List Int) (v_ : Int) (B : Option Addr) (c n : Nat) (w0 : World) (hn : s.length = n) (hS : ST w0 [] w0 [] [⟨B, (s.flatMap encI)⟩]) {r_ : Bool} (hF : F_slices_Contains_int_int s v_ = some r_) :
  CV Tryz.prog 203 #[.slice B n c, vi v_] w0 (fun v w' => v = .bool r_ ∧ ST w0 [] w' [] []) := by
 subst hn
 unfold F_slices_Contains_int_int at hF
 refine cv_of_cw 9 Tryz.func203 rfl Tryz.ntmps203 rfl ?_
 refine cw_seq (cw_region ?_)
 refine sQ 4 (Y_assign (v := .bool false) rfl rfl) (rw_nil (cw_seq (cw_region ?_)))
 refine sQ 5 (Y_move (v := .slice B s.length c) rfl rfl) ?_
 refine sQ 6 (Y_move (v := vi v_) rfl rfl) ?_
 obtain ⟨r_1, hc, hF⟩ := bind_inv hF
 refine sc 7 rfl rfl (Yc_func (g := 240) (vs := [.slice B s.length c, vi v_]) k_call_240 rfl (mc rfl (mc rfl mn)) (c_slices_Index_int_int s v_ B c s.length _ rfl (hS.inn0 [(true, 0)] rfl) hc)) ?_
 rintro _ w_ ⟨rfl, hd⟩
 have hS1 := hS.out00 hd
 refine sQ 8 (Y_ge (k := .i64) (a := r_1) (b := 0) rfl rfl rfl) ?_
 refine sQ 4 (Y_assign (v := .bool (decide (0 ≤ r_1))) rfl rfl) (rw_nil (cw_ret ?_))
 obtain rfl := some_inj hF
 exact ret1 Tryz.results203 (v1 := .bool (decide (0 ≤ r_1))) (resAt_tmp rfl) ⟨rfl, (hS1.sN [])⟩

theorem c_impl_isWord (n : Int) (word : Int)  (w0 : World)  (hS : ST w0 [] w0 [] []) {r_ : Bool} (hF : F_impl_isWord n word = some r_) :
  CV Tryz.prog 234 #[vi n, vi word] w0 (fun v w' => v = .bool r_ ∧ ST w0 [] w' [] []) := by
 unfold F_impl_isWord at hF
 refine cv_of_cw 16 Tryz.func234 rfl Tryz.ntmps234 rfl ?_
 refine cw_seq (cw_region ?_)
 refine sQ 4 (Y_assign (v := .bool false) rfl rfl) (rw_nil (cw_seq (cw_region ?_)))
 refine sQ 5 (Y_move (v := vi n) rfl rfl) ?_
 obtain ⟨r_1, hc, hF⟩ := bind_inv hF
 refine sc 6 rfl rfl (Yc_func (g := 74) (vs := [vi n, vi 1, vi 5]) k_call_74 rfl (mc rfl (mc rfl (mc rfl mn))) (c_impl_within n 1 5 _  (hS.inn0 [] rfl) hc)) ?_
 rintro _ w_ ⟨rfl, hd⟩
 have hS1 := hS.out00 hd
 refine sQ 7 (Y_move (v := .bool r_1) rfl rfl) ?_
 refine sgq 8 (B := r_1) (v := vi word) rfl rfl (uT_ 7) (fun hg => (Y_move (v := vi word) rfl rfl)) ?_
 refine sgq 9 (B := r_1) (v := vi n) rfl rfl (uT_ 7) (fun hg1 => (Y_move (v := vi n) rfl rfl)) ?_
 obtain ⟨hsh, hF⟩ := chk_inv hF
 refine sgq 10 (B := r_1) (v := .int .u64 (shlK .u64 1 n)) rfl rfl (uT_ 7) (fun hg2 => (Y_shl (k := .u64) (a := 1) (k' := .i64) (b := n) rfl rfl (gv_of (v := vi n) hg2) (hsh hg2))) ?_
 refine sgq 11 (B := r_1) (v := .int .u64 (IntKind.u64.wrap ((shlK .u64 1 n) - 1))) rfl rfl (uT_ 7) (fun hg3 => (Y_sub (k := .u64) (a := (shlK .u64 1 n)) (b := 1) rfl (gv_of (v := .int .u64 (shlK .u64 1 n)) hg3) rfl)) ?_
 obtain ⟨hsh1, hF⟩ := chk_inv hF
 refine sgq 12 (B := r_1) (v := vi (shlK .i64 1 (IntKind.u64.wrap ((shlK .u64 1 n) - 1)))) rfl rfl (uT_ 7) (fun hg4 => (Y_shl (k := .i64) (a := 1) (k' := .u64) (b := (IntKind.u64.wrap ((shlK .u64 1 n) - 1))) rfl rfl (gv_of (v := .int .u64 (IntKind.u64.wrap ((shlK .u64 1 n) - 1))) hg4) (hsh1 hg4))) ?_
 refine sgq 13 (B := r_1) (v := vi (i64.wrap ((shlK .i64 1 (IntKind.u64.wrap ((shlK .u64 1 n) - 1))) - 1))) rfl rfl (uT_ 7) (fun hg5 => (Y_sub (k := .i64) (a := (shlK .i64 1 (IntKind.u64.wrap ((shlK .u64 1 n) - 1)))) (b := 1) rfl (gv_of (v := vi (shlK .i64 1 (IntKind.u64.wrap ((shlK .u64 1 n) - 1)))) hg5) rfl)) ?_
 obtain ⟨r_2, hc1, hF⟩ := bind_inv hF
 refine sgc 14 (B := r_1) (v := .bool r_2) (F := hS1.fn) rfl rfl (uT_ 7) hS1 (fun hg6 => (Yc_func (g := 74) (vs := [vi word, vi 0, vi (i64.wrap ((shlK .i64 1 (IntKind.u64.wrap ((shlK .u64 1 n) - 1))) - 1))]) k_call_74 rfl (mc (gv_of (v := vi word) hg6) (mc rfl (mc (gv_of (v := vi (i64.wrap ((shlK .i64 1 (IntKind.u64.wrap ((shlK .u64 1 n) - 1))) - 1))) hg6) mn))) (CV.mono (c_impl_within word 0 (i64.wrap ((shlK .i64 1 (IntKind.u64.wrap ((shlK .u64 1 n) - 1))) - 1)) _  (hS1.inn0 [] rfl) (gb_inv hc1 hg6)) (by rintro _ _ ⟨rfl, h⟩; exact ⟨rfl, hS1.out00 h⟩)))) ?_
 rintro w_1 hS2
 refine sQ 15 (Y_and (b := r_1) (z := r_2) rfl rfl rfl rfl) ?_
 refine sQ 4 (Y_assign (v := .bool (r_1 && r_2)) rfl rfl) (rw_nil (cw_ret ?_))
 obtain rfl := some_inj hF
 exact ret1 Tryz.results234 (v1 := .bool (r_1 && r_2)) (resAt_tmp rfl) ⟨rfl, (hS2.sN [])⟩

theorem c_impl_IsCodeWord (n : Int) (word : Int)  (w0 : World)  (hS : ST w0 [] w0 [] []) {r_ : Bool} {r_1 : Bool} (hF : F_impl_IsCodeWord n word = some (r_, r_1)) :
  CV Tryz.prog 187 #[vi n, vi word] w0 (fun v w' => v = .tuple #[.bool r_, .bool r_1] ∧ ST w0 [] w' [] []) := by
 unfold F_impl_IsCodeWord at hF
 refine cv_of_cw 14 Tryz.func187 rfl Tryz.ntmps187 rfl ?_
 refine cw_seq (cw_region ?_)
 refine sQ 4 (Y_assign (v := .bool false) rfl rfl) ?_
 refine sQ 5 (Y_assign (v := .bool false) rfl rfl) (rw_nil (cw_seq (cw_seq (cw_region ?_))))
 refine sQ 6 (Y_move (v := vi n) rfl rfl) ?_
 refine sQ 7 (Y_move (v := vi word) rfl rfl) ?_
 obtain ⟨r_2, hc, hF⟩ := bind_inv hF
 refine sc 8 rfl rfl (Yc_func (g := 234) (vs := [vi n, vi word]) k_call_234 rfl (mc rfl (mc rfl mn)) (c_impl_isWord n word _  (hS.inn0 [] rfl) hc)) ?_
 rintro _ w_ ⟨rfl, hd⟩
 have hS1 := hS.out00 hd
 refine sQ 9 (Y_not (p := r_2) rfl rfl) (rw_nil ?_)
 refine cw_cond (b := (!r_2)) rfl (fun hb => ?_) (fun hb => ?_)
 ·skip
  have hF1 := ct hF hb
  refine cw_seq (cw_region ?_)
  refine sQ 4 (Y_assign (v := .bool false) rfl rfl) ?_
  refine sQ 5 (Y_assign (v := .bool false) rfl rfl) (rw_nil (cw_ret ?_))
  obtain ⟨rfl, rfl⟩ := pr2 (some_inj hF1)
  exact ret2 Tryz.results187 (v1 := .bool false) (resAt_tmp rfl) (v2 := .bool false) (resAt_tmp rfl) ⟨rfl, (hS1.sN [])⟩
 ·skip
  have hF2 := cf' hF hb
  refine cw_skip (cw_seq (cw_region ?_))
  refine sQ 10 (Y_move (v := vi n) rfl rfl) ?_
  obtain ⟨r_3, hc1, hF2⟩ := bind_inv hF2
  refine sc 11 rfl rfl (Yc_func (g := 185) (vs := [vi n]) k_call_185 rfl (mc rfl mn) (c_impl_codeWords n _  (hS1.inn0 [] rfl) hc1)) ?_
  rintro _ w_1 ⟨B, c, rfl, hd1⟩
  have hS2 := hS1.out0 hd1
  refine sQ 12 (Y_move (v := vi word) rfl rfl) ?_
  obtain ⟨r_4, hc2, hF2⟩ := bind_inv hF2
  refine sc 13 rfl rfl (Yc_func (g := 203) (vs := [.slice B r_3.length c, vi word]) k_call_203 rfl (mc rfl (mc rfl mn)) (c_slices_Contains_int_int r_3 word B c r_3.length _ rfl (hS2.inn0 [(false, 0)] rfl) hc2)) ?_
  rintro _ w_2 ⟨rfl, hd2⟩
  have hS3 := hS2.out00 hd2
  refine sQ 4 (Y_assign (v := .bool r_4) rfl rfl) ?_
  refine sQ 5 (Y_assign (v := .bool true) rfl rfl) (rw_nil (cw_ret ?_))
  obtain ⟨rfl, rfl⟩ := pr2 (some_inj hF2)
  exact ret2 Tryz.results187 (v1 := .bool r_4) (resAt_tmp rfl) (v2 := .bool true) (resAt_tmp rfl) ⟨rfl, (hS3.sN [])⟩

theorem c_impl_ShiftBy (p : TPhasePoly) (word : Int) (B : Option Addr) (c n : Nat) (B1 : Option Addr) (c1 n1 : Nat) (w0 : World) (hn : p.Terms.length = n) (hn1 : p.Out.Rows.length = n1) (hS : ST w0 [] w0 [] [⟨B, (p.Terms.flatMap eN0)⟩, ⟨B1, (p.Out.Rows.flatMap encI)⟩]) {r_ : TPhasePoly} {r_1 : Bool} (hF : F_impl_ShiftBy p word = some (r_, r_1)) :
  CV Tryz.prog 112 #[.agg #[vi p.Qubits, vi p.Phase, .slice B n c, .slice B1 n1 c1], vi word] w0 (fun v w' => ∃ (B2 : Option Addr) (c2 : Nat) (B3 : Option Addr) (c3 : Nat), v = .tuple #[.agg #[vi r_.Qubits, vi r_.Phase, .slice B2 r_.Terms.length c2, .slice B3 r_.Out.Rows.length c3], .bool r_1] ∧ ST w0 [] w' [⟨B2, 136, (r_.Terms.flatMap eN0), c2 * 2⟩, ⟨B3, 3, (r_.Out.Rows.flatMap encI), c3 * 1⟩] []) := by
 subst hn
 subst hn1
 unfold F_impl_ShiftBy at hF
 refine cv_of_cw 72 Tryz.func112 rfl Tryz.ntmps112 rfl ?_
 refine cw_seq (cw_region ?_)
 refine sS 2 (Ys_box (T := 70) (v := .agg #[vi p.Qubits, vi p.Phase, .slice B p.Terms.length c, .slice B1 p.Out.Rows.length c1]) (cs := [vi p.Qubits, vi p.Phase, .slice B p.Terms.length c, .slice B1 p.Out.Rows.length c1]) (m := 4) hS rfl rfl rfl rfl) ?_
 rintro _ w_ ⟨b, rfl, hS1⟩
 refine sS 4 (Ys_alloc (T := 70) (cs := [vi 0, vi 0, .slice none 0 0, .slice none 0 0]) (m := 4) hS1 k_zero_70 rfl rfl rfl) ?_
 rintro _ w_1 ⟨b1, rfl, hS2⟩
 refine sQ 5 (Y_assign (v := .bool false) rfl rfl) (rw_nil (cw_seq (cw_seq (cw_region ?_))))
 refine sQ 13 (Y_fieldAddr (B := aD b) (i := 0) (s := 0) k_fd_70_0_0_3 k_sz_3_1 rfl rfl) ?_
 refine sQ 14 (Y_load1 (B := aD b) (i := 0) (cs := [vi p.Qubits, vi p.Phase, .slice B p.Terms.length c, .slice B1 p.Out.Rows.length c1]) (v := vi p.Qubits) k_sc_3 rfl rfl (hS2.cf (i := 0) rfl) rfl) ?_
 refine sQ 15 (Y_move (v := vi word) rfl rfl) ?_
 obtain ⟨⟨r_2, r_3⟩, hc, hF⟩ := bind_inv hF
 refine sc 16 rfl rfl (Yc_func (g := 187) (vs := [vi p.Qubits, vi word]) k_call_187 rfl (mc rfl (mc rfl mn)) (c_impl_IsCodeWord p.Qubits word _  (hS2.inn0 [] rfl) hc)) ?_
 rintro _ w_2 ⟨rfl, hd⟩
 have hS3 := hS2.out00 hd
 refine sQ 12 (Y_move (v := .tuple #[.bool r_2, .bool r_3]) rfl rfl) ?_
 refine sQ 17 (Y_extract (v := .bool r_2) rfl rfl rfl) ?_
 refine sQ 18 (Y_extract (v := .bool r_3) rfl rfl rfl) ?_
 refine sQ 6 (Y_assign (v := .bool r_2) rfl rfl) ?_
 refine sQ 7 (Y_assign (v := .bool r_3) rfl rfl) (rw_nil (cw_seq (cw_region ?_)))
 refine sQ 19 (Y_loadA (B := aD b) (i := 0) (cs := [vi p.Qubits, vi p.Phase, .slice B p.Terms.length c, .slice B1 p.Out.Rows.length c1]) (vs := [vi p.Qubits, vi p.Phase, .slice B p.Terms.length c, .slice B1 p.Out.Rows.length c1]) k_ag_70 k_sz_70_4 rfl rfl (hS3.cf (i := 0) rfl) rfl rfl) ?_
 obtain ⟨r_4, hc1, hF⟩ := bind_inv hF
 refine sc 20 rfl rfl (Yc_func (g := 102) (vs := [.agg #[vi p.Qubits, vi p.Phase, .slice B p.Terms.length c, .slice B1 p.Out.Rows.length c1]]) k_call_102 rfl (mc rfl mn) (c_impl_IsValidPhasePoly p B c p.Terms.length B1 c1 p.Out.Rows.length _ rfl rfl (hS3.inn0 [(true, 0), (true, 1)] rfl) hc1)) ?_
 rintro _ w_3 ⟨rfl, hd1⟩
 have hS4 := hS3.out00 hd1
 refine sQ 21 (Y_not (p := r_4) rfl rfl) ?_
 refine sQ 22 (Y_move (v := .bool (!r_4)) rfl rfl) ?_
 refine sgq 23 (B := (!(!r_4))) (v := .bool r_3) rfl rfl (uF_ 22) (fun hg => (Y_move (v := .bool r_3) rfl rfl)) ?_
 refine sgq 24 (B := (!(!r_4))) (v := .bool (!r_3)) rfl rfl (uF_ 22) (fun hg1 => (Y_not (p := r_3) rfl (gv_of (v := .bool r_3) hg1))) ?_
 refine sQ 25 (Y_or (b := (!r_4)) (z := (!r_3)) rfl rfl rfl rfl) ?_
 refine sQ 26 (Y_move (v := .bool ((!r_4) || (!r_3))) rfl rfl) ?_
 refine sgq 27 (B := (!((!r_4) || (!r_3)))) (v := .bool r_2) rfl rfl (uF_ 26) (fun hg2 => (Y_move (v := .bool r_2) rfl rfl)) ?_
 refine sgq 28 (B := (!((!r_4) || (!r_3)))) (v := .bool (!r_2)) rfl rfl (uF_ 26) (fun hg3 => (Y_not (p := r_2) rfl (gv_of (v := .bool r_2) hg3))) ?_
 refine sQ 29 (Y_or (b := ((!r_4) || (!r_3))) (z := (!r_2)) rfl rfl rfl rfl) (rw_nil ?_)
 refine cw_cond (b := (((!r_4) || (!r_3)) || (!r_2))) rfl (fun hb => ?_) (fun hb => ?_)
 ·skip
  have hF1 := ct hF hb
  refine cw_seq (cw_region ?_)
  refine sQ 30 (Y_buildS (zs := [vi 0, vi 0, .slice none 0 0, .slice none 0 0]) (vs := []) (cs := [vi 0, vi 0, .slice none 0 0, .slice none 0 0]) k_pl_70 k_zero_70 rfl mpn rfl) ?_
  refine s0 (Ys_store (i := 1) (s := 4) (B := aD b1) (T' := 70) (v := .agg #[vi 0, vi 0, .slice none 0 0, .slice none 0 0]) (vs := [vi 0, vi 0, .slice none 0 0, .slice none 0 0]) (k := 0) (cs' := [vi 0, vi 0, .slice none 0 0, .slice none 0 0]) hS4 k_sz_70_4 rfl rfl rfl rfl rfl rfl rfl (lB rfl) rfl rfl) ?_
  rintro _ w_4 ⟨rfl, hS5⟩
  refine sQ 5 (Y_assign (v := .bool false) rfl rfl) (rw_nil (cw_ret ?_))
  have hS6 := hS5.addNil 136
  have hS7 := hS6.addNil 3
  obtain ⟨rfl, rfl⟩ := pr2 (some_inj hF1)
  exact ret2 Tryz.results112 (v1 := .agg #[vi 0, vi 0, .slice none 0 0, .slice none 0 0]) (resAt_cellA (B := aD b1) (i := 0) (cs := [vi 0, vi 0, .slice none 0 0, .slice none 0 0]) (vs := [vi 0, vi 0, .slice none 0 0, .slice none 0 0]) rfl k_ag_70 k_sz_70_4 (hS7.cf (i := 1) rfl) rfl rfl) (v2 := .bool false) (resAt_tmp rfl) ⟨none, 0, none, 0, rfl, (hS7.sN [2, 3])⟩
 ·skip
  have hF2 := cf' hF hb
  refine cw_skip (cw_seq (cw_region ?_))
  refine sQ 31 (show Y _ _ _ _ _ (.agg ((List.replicate 32 0).flatMap encI).toArray) from Y_buildA (zs := [vi 0, vi 0, vi 0, vi 0, vi 0, vi 0, vi 0, vi 0, vi 0, vi 0, vi 0, vi 0, vi 0, vi 0, vi 0, vi 0, vi 0, vi 0, vi 0, vi 0, vi 0, vi 0, vi 0, vi 0, vi 0, vi 0, vi 0, vi 0, vi 0, vi 0, vi 0, vi 0]) (vs := []) (cs := [vi 0, vi 0, vi 0, vi 0, vi 0, vi 0, vi 0, vi 0, vi 0, vi 0, vi 0, vi 0, vi 0, vi 0, vi 0, vi 0, vi 0, vi 0, vi 0, vi 0, vi 0, vi 0, vi 0, vi 0, vi 0, vi 0, vi 0, vi 0, vi 0, vi 0, vi 0, vi 0]) k_ar_127_32_3 k_sz_3_1 k_zero_127 rfl rfl rfl) ?_
  refine sS 8 (Ys_alloc (T := 127) (cs := ((List.replicate 32 0).flatMap encI)) (m := 32) hS4 k_zero_127 rfl rfl rfl) ?_
  rintro _ w_5 ⟨b2, rfl, hS8⟩
  refine s0 (Ys_store (i := 2) (s := 32) (B := aD b2) (T' := 127) (v := .agg ((List.replicate 32 0).flatMap encI).toArray) (vs := ((List.replicate 32 0).flatMap encI)) (k := 0) (cs' := ((List.replicate 32 0).flatMap encI)) hS8 k_sz_127_32 rfl rfl rfl rfl (fm_lenn2 encI_len (List.length_replicate (n := 32)) rfl) (fm_one' encI_one _) rfl (fm_fit encI_len (List.length_replicate (n := 32)) rfl) (fm_spl encI_len (List.length_replicate (n := 32)) (List.length_replicate (n := 32))) rfl) ?_
  rintro _ w_6 ⟨rfl, hS9⟩
  refine rw_nil (cw_seq (cw_seq (cw_region ?_)))
  refine sQ 32 (Y_fieldAddr (B := aD b) (i := 0) (s := 0) k_fd_70_2_2_65 k_sz_65_1 rfl rfl) ?_
  refine sQ 33 (Y_load1 (B := aD b) (i := 2) (cs := [vi p.Qubits, vi p.Phase, .slice B p.Terms.length c, .slice B1 p.Out.Rows.length c1]) (v := .slice B p.Terms.length c) k_sc_65 rfl rfl (hS9.cf (i := 0) rfl) rfl) ?_
  refine sQ 34 (Y_len (B := B) (m := p.Terms.length) (c := c) k_sl_65_136 rfl rfl) ?_
  refine sQ 35 (Y_move (v := vi 0) rfl rfl) (rw_nil ?_)
  obtain ⟨hN, hF2⟩ := chk_inv hF2
  obtain ⟨z, hz, hF3⟩ := bind_inv hF2
  refine cw_block ?_
  refine cw_loop (fun k f w => ∃ (i : Nat) (sums : List Int), FF f [(1, vi word), (2, pt (aD b) 0), (4, pt (aD b1) 0), (8, pt (aD b2) 0), (33, .slice B p.Terms.length c), (34, vi (p.Terms.length : Int)), (35, vi (i : Int))] ∧ sums.length = 32 ∧ ST w0 [] w [⟨aD b, 70, [vi p.Qubits, vi p.Phase, .slice B p.Terms.length c, .slice B1 p.Out.Rows.length c1], 4⟩, ⟨aD b1, 70, [vi 0, vi 0, .slice none 0 0, .slice none 0 0], 4⟩, ⟨aD b2, 127, (sums.flatMap encI), 32⟩] [⟨B, (p.Terms.flatMap eN0)⟩, ⟨B1, (p.Out.Rows.flatMap encI)⟩] ∧ i + k = p.Terms.length ∧ forN (F_impl_ShiftBy_l1 p) k i sums = some z) p.Terms.length ⟨0, (List.replicate 32 0), (FF.cons rfl (FF.cons rfl (FF.cons rfl (FF.cons rfl (FF.cons rfl (FF.cons rfl (FF.cons rfl FF.nil))))))), (List.length_replicate (n := 32)), (hS9.sel [0, 1, 2] rfl rfl), Nat.zero_add _, hz⟩ ?_
  rintro k_ f w ⟨i, sums, hf, hl, hS10, hik, hL⟩
  refine cw_seq (cw_region ?_)
  refine sQ 36 (Y_lt (k := .i64) (a := (i : Int)) (b := (p.Terms.length : Int)) rfl (hf.get 35 6 rfl) (hf.get 34 5 rfl)) (rw_nil (cw_seq ?_))
  refine cw_cond (b := (decide ((i : Int) < (p.Terms.length : Int)))) rfl (fun hlt => ?_) (fun hlt => ?_)
  ·skip
   have hlt1 : i < p.Terms.length := by have h := of_decide_eq_true hlt; omega
   obtain ⟨k_1, rfl⟩ : ∃ k2, k_ = k2 + 1 := ⟨k_ - 1, by omega⟩
   obtain ⟨y, hb1, hL1⟩ := forN_go hL
   unfold F_impl_ShiftBy_l1 at hb1
   refine cw_skip (cw_seq (cw_block (cw_seq (cw_region ?_))))
   obtain ⟨x, hx, hb1⟩ := bind_inv hb1
   refine sQ 37 (Y_index (B := B) (m := p.Terms.length) (c := c) (k := .i64) (i := (i : Int)) k_sl_65_136 k_sz_136_2 rfl (hf.get 33 4 rfl) (hf.get 35 6 rfl) (gi_isSome eN1 rfl (hS10.rf (i := 0) rfl) hx) (getI_nn hx) (getI_ltI hx rfl)) ?_
   refine sQ 38 (Y_loadA (B := B) (i := (i : Int).toNat * 2) (cs := (p.Terms.flatMap eN0)) (vs := [vi x.Mask, vi x.Coef]) k_ag_136 k_sz_136_2 rfl rfl (hS10.rf (i := 0) rfl) (eN1 x) (gi_seg eN1 hx)) ?_
   refine sS 10 (Ys_alloc (T := 136) (cs := [vi 0, vi 0]) (m := 2) hS10 k_zero_136 rfl rfl rfl) ?_
   rintro _ w_7 ⟨b3, rfl, hS11⟩
   refine s0 (Ys_store (i := 3) (s := 2) (B := aD b3) (T' := 136) (v := .agg #[vi x.Mask, vi x.Coef]) (vs := [vi x.Mask, vi x.Coef]) (k := 0) (cs' := [vi x.Mask, vi x.Coef]) hS11 k_sz_136_2 rfl rfl rfl rfl rfl rfl rfl (lB rfl) rfl rfl) ?_
   rintro _ w_8 ⟨rfl, hS12⟩
   refine rw_nil (cw_region ?_)
   refine sQ 39 (Y_fieldAddr (B := aD b3) (i := 0) (s := 0) k_fd_136_0_0_3 k_sz_3_1 rfl rfl) ?_
   refine sQ 40 (Y_load1 (B := aD b3) (i := 0) (cs := [vi x.Mask, vi x.Coef]) (v := vi x.Mask) k_sc_3 rfl rfl (hS12.cf (i := 3) rfl) rfl) ?_
   refine sQ 41 (Y_fieldAddr (B := aD b3) (i := 0) (s := 0) k_fd_136_1_1_3 k_sz_3_1 rfl rfl) ?_
   refine sQ 42 (Y_load1 (B := aD b3) (i := 1) (cs := [vi x.Mask, vi x.Coef]) (v := vi x.Coef) k_sc_3 rfl rfl (hS12.cf (i := 3) rfl) rfl) ?_
   obtain ⟨m, hc2, hb1⟩ := bind_inv hb1
   refine sc 43 rfl rfl (Yc_func (g := 93) (vs := [pt (aD b2) 0, vi x.Mask, vi x.Coef]) k_call_93 rfl (mc (hf.get 8 3 rfl) (mc rfl (mc rfl mn))) (c_impl_coefficients_add sums x.Mask x.Coef (aD b2) _ hl (hS12.inn [false, false, true, false] rfl [] rfl) hc2)) ?_
   rintro _ w_9 ⟨rfl, hl1, hd2⟩
   have hS13 := hS12.out [false, false, true, false] rfl hd2
   refine rw_nil (cw_region ?_)
   refine sQ 44 (Y_add (k := .i64) (a := (i : Int)) (b := 1) rfl (hf.get 35 6 rfl) rfl) ?_
   refine sQ 35 (Y_move (v := vi (i64.wrap ((i : Int) + 1))) rfl rfl) (rw_nil ?_)
   obtain rfl := some_inj hb1
   exact ⟨k_1, Nat.lt_succ_self _, i + 1, m, (FF.cons (hf.get 1 0 rfl) (FF.cons (hf.get 2 1 rfl) (FF.cons (hf.get 4 2 rfl) (FF.cons (hf.get 8 3 rfl) (FF.cons (hf.get 33 4 rfl) (FF.cons (hf.get 34 5 rfl) (FF.cons (congrArg (Value.int .i64) (wr_succ hlt1 hN)) FF.nil))))))), hl1, (hS13.sel [0, 1, 3] rfl rfl), (by omega), hL1⟩
  ·skip
   obtain rfl : k_ = 0 := by have h := of_decide_eq_false hlt; omega
   refine cw_exit rfl ?_
   obtain rfl := some_inj hL
   refine cw_seq (cw_seq (cw_region ?_))
   refine sQ 11 (Y_assign (v := vi 1) rfl rfl) (rw_nil ?_)
   obtain ⟨z1, hz1, hF4⟩ := bind_inv hF3
   refine cw_block ?_
   refine cw_loop (fun k f w => ∃ (sums1 : List Int) (mask : Int), FF f [(1, vi word), (2, pt (aD b) 0), (4, pt (aD b1) 0), (8, pt (aD b2) 0), (11, vi mask)] ∧ sums1.length = 32 ∧ ST w0 [] w [⟨aD b, 70, [vi p.Qubits, vi p.Phase, .slice B p.Terms.length c, .slice B1 p.Out.Rows.length c1], 4⟩, ⟨aD b1, 70, [vi 0, vi 0, .slice none 0 0, .slice none 0 0], 4⟩, ⟨aD b2, 127, (sums1.flatMap encI), 32⟩] [⟨B, (p.Terms.flatMap eN0)⟩, ⟨B1, (p.Out.Rows.flatMap encI)⟩] ∧ whX (F_impl_ShiftBy_l2 p word) k (sums1, mask) = some z1) fuel ⟨sums, 1, (FF.cons (hf.get 1 0 rfl) (FF.cons (hf.get 2 1 rfl) (FF.cons (hf.get 4 2 rfl) (FF.cons (hf.get 8 3 rfl) (FF.cons rfl FF.nil))))), hl, (hS10.sel [0, 1, 2] rfl rfl), hz1⟩ ?_
   rintro k_2 f w ⟨sums1, mask, hf1, hl2, hS14, hL2⟩
   obtain ⟨k_3, y1, rfl, hb2, hL3⟩ := whX_go hL2
   unfold F_impl_ShiftBy_l2 at hb2
   refine cw_seq (cw_seq (cw_region ?_))
   refine sQ 45 (Y_move (v := vi mask) rfl (hf1.get 11 4 rfl)) ?_
   refine sQ 46 (Y_fieldAddr (B := aD b) (i := 0) (s := 0) k_fd_70_0_0_3 k_sz_3_1 rfl (hf1.get 2 1 rfl)) ?_
   refine sQ 47 (Y_load1 (B := aD b) (i := 0) (cs := [vi p.Qubits, vi p.Phase, .slice B p.Terms.length c, .slice B1 p.Out.Rows.length c1]) (v := vi p.Qubits) k_sc_3 rfl rfl (hS14.cf (i := 0) rfl) rfl) ?_
   obtain ⟨hsh, hb2⟩ := chk_inv hb2
   refine sQ 48 (Y_shl (k := .i64) (a := 1) (k' := .i64) (b := p.Qubits) rfl rfl rfl hsh) ?_
   refine sQ 49 (Y_lt (k := .i64) (a := mask) (b := (shlK .i64 1 p.Qubits)) rfl rfl rfl) (rw_nil ?_)
   refine cw_cond (b := (decide (mask < (shlK .i64 1 p.Qubits)))) rfl (fun hb3 => ?_) (fun hb3 => ?_)
   ·skip
    have hF5 := ct hb2 hb3
    refine cw_skip (cw_seq ?_)
    obtain ⟨z2, hz2, hF6⟩ := bind_inv hF5
    refine cw_mid (fun f w => ∃ (sums2 : List Int), sums2 = z2 ∧ FF f [(1, vi word), (2, pt (aD b) 0), (4, pt (aD b1) 0), (8, pt (aD b2) 0), (11, vi mask)] ∧ sums2.length = 32 ∧ ST w0 [] w [⟨aD b, 70, [vi p.Qubits, vi p.Phase, .slice B p.Terms.length c, .slice B1 p.Out.Rows.length c1], 4⟩, ⟨aD b1, 70, [vi 0, vi 0, .slice none 0 0, .slice none 0 0], 4⟩, ⟨aD b2, 127, (sums2.flatMap encI), 32⟩] [⟨B, (p.Terms.flatMap eN0)⟩, ⟨B1, (p.Out.Rows.flatMap encI)⟩]) ?_ ?_
    ·skip
     refine cw_block (cw_seq (cw_region ?_))
     refine sQ 52 (Y_move (v := vi word) rfl (hf1.get 1 0 rfl)) ?_
     refine sQ 53 (Y_move (v := vi mask) rfl (hf1.get 11 4 rfl)) ?_
     refine sQ 54 (Y_sub (k := .i64) (a := mask) (b := 1) rfl rfl rfl) ?_
     obtain ⟨hsh1, hz2⟩ := chk_inv hz2
     refine sQ 55 (Y_shr (k := .i64) (a := word) (k' := .i64) (b := (i64.wrap (mask - 1))) rfl rfl rfl hsh1) ?_
     refine sQ 56 (Y_band (k := .i64) (a := (shrK .i64 word (i64.wrap (mask - 1)))) (b := 1) rfl rfl rfl) ?_
     refine sQ 57 (Y_eq (k := .i64) (a := (bits .and .i64 (shrK .i64 word (i64.wrap (mask - 1))) 1)) (b := 1) rfl rfl rfl) (rw_nil ?_)
     refine cw_cond (b := ((bits .and .i64 (shrK .i64 word (i64.wrap (mask - 1))) 1) == 1)) rfl (fun hb4 => ?_) (fun hb4 => ?_)
     ·skip
      have hF7 := ct hz2 hb4
      refine cw_region ?_
      refine sQ 58 (Y_move (v := vi mask) rfl (hf1.get 11 4 rfl)) ?_
      obtain ⟨m1, hc3, hF7⟩ := bind_inv hF7
      refine sc 59 rfl rfl (Yc_func (g := 93) (vs := [pt (aD b2) 0, vi mask, vi (-1)]) k_call_93 rfl (mc (hf1.get 8 3 rfl) (mc rfl (mc rfl mn))) (c_impl_coefficients_add sums1 mask (-1) (aD b2) _ hl2 (hS14.inn [false, false, true] rfl [] rfl) hc3)) ?_
      rintro _ w_10 ⟨rfl, hl4, hd3⟩
      have hS16 := hS14.out [false, false, true] rfl hd3
      refine rw_nil ?_
      exact ⟨m1, (some_inj hF7), (FF.cons (hf1.get 1 0 rfl) (FF.cons (hf1.get 2 1 rfl) (FF.cons (hf1.get 4 2 rfl) (FF.cons (hf1.get 8 3 rfl) (FF.cons (hf1.get 11 4 rfl) FF.nil))))), hl4, (hS16.sel [0, 1, 2] rfl rfl)⟩
     ·skip
      have hF8 := cf' hz2 hb4
      refine cw_skip ?_
      exact ⟨sums1, (some_inj hF8), (FF.cons (hf1.get 1 0 rfl) (FF.cons (hf1.get 2 1 rfl) (FF.cons (hf1.get 4 2 rfl) (FF.cons (hf1.get 8 3 rfl) (FF.cons (hf1.get 11 4 rfl) FF.nil))))), hl2, (hS14.sel [0, 1, 2] rfl rfl)⟩
    rintro f w ⟨sums2, rfl, hf2, hl3, hS15⟩
    refine cw_region ?_
    refine sQ 50 (Y_move (v := vi mask) rfl (hf2.get 11 4 rfl)) ?_
    refine sQ 51 (Y_add (k := .i64) (a := mask) (b := 1) rfl rfl rfl) ?_
    refine sQ 11 (Y_assign (v := vi (i64.wrap (mask + 1))) rfl rfl) (rw_nil ?_)
    obtain rfl := some_inj hF6
    exact ⟨k_3, Nat.lt_succ_self _, sums2, (i64.wrap (mask + 1)), (FF.cons (hf2.get 1 0 rfl) (FF.cons (hf2.get 2 1 rfl) (FF.cons (hf2.get 4 2 rfl) (FF.cons (hf2.get 8 3 rfl) (FF.cons rfl FF.nil))))), hl3, (hS15.sel [0, 1, 2] rfl rfl), hL3⟩
   ·skip
    have hF9 := cf' hb2 hb3
    refine cw_exit rfl ?_
    obtain rfl := some_inj hF9
    obtain rfl := some_inj hL3
    refine cw_seq ?_
    obtain ⟨r_5, hc4, hF4⟩ := bind_inv hF4
    obtain ⟨r_6, hc5, hF4⟩ := bind_inv hF4
    refine ra_start (hS14.se [0, 2]).fn (by kernel_rfl) ?_
    have hS19 := hS14.drew
    refine rq 0 60 (v := pt (aD b) 0) rfl (hS19.se [0, 2]) (fun w' hw' => (Y_fieldAddr (B := aD b) (i := 0) (s := 0) k_fd_70_0_0_3 k_sz_3_1 rfl (hf1.get 2 1 rfl))) ?_
    refine rq 1 61 (v := vi p.Qubits) rfl (hS19.se [0, 2]) (fun w' hw' => (Y_load1 (B := aD b) (i := 0) (cs := [vi p.Qubits, vi p.Phase, .slice B p.Terms.length c, .slice B1 p.Out.Rows.length c1]) (v := vi p.Qubits) k_sc_3 rfl rfl (ST.cf hw' (i := 0) rfl) rfl)) ?_
    refine rq 2 62 (v := pt (aD b) 1) rfl (hS19.se [0, 2]) (fun w' hw' => (Y_fieldAddr (B := aD b) (i := 0) (s := 0) k_fd_70_1_1_3 k_sz_3_1 rfl (hf1.get 2 1 rfl))) ?_
    refine rq 3 63 (v := vi p.Phase) rfl (hS19.se [0, 2]) (fun w' hw' => (Y_load1 (B := aD b) (i := 1) (cs := [vi p.Qubits, vi p.Phase, .slice B p.Terms.length c, .slice B1 p.Out.Rows.length c1]) (v := vi p.Phase) k_sc_3 rfl rfl (ST.cf hw' (i := 0) rfl) rfl)) ?_
    refine rq 4 64 (v := .agg (sums1.flatMap encI).toArray) rfl (hS19.se [0, 2]) (fun w' hw' => (Y_loadA (B := aD b2) (i := 0) (cs := (sums1.flatMap encI)) (vs := (sums1.flatMap encI)) k_ag_127 k_sz_127_32 rfl (hf1.get 8 3 rfl) (ST.cf hw' (i := 1) rfl) (fm_lenn2 encI_len hl2 rfl) (fm_whole encI_len hl2 rfl))) ?_
    refine rq 6 66 (v := pt (aD b) 3) rfl (hS19.se [0, 2]) (fun w' hw' => (Y_fieldAddr (B := aD b) (i := 0) (s := 0) k_fd_70_3_3_68 k_sz_68_1 rfl (hf1.get 2 1 rfl))) ?_
    refine rq 7 67 (v := pt (aD b) 3) rfl (hS19.se [0, 2]) (fun w' hw' => (Y_fieldAddr (B := aD b) (i := 3) (s := 0) k_fd_68_0_0_66 k_sz_66_1 rfl rfl)) ?_
    refine rq 8 68 (v := .slice B1 p.Out.Rows.length c1) rfl (hS19.se [0, 2]) (fun w' hw' => (Y_load1 (B := aD b) (i := 3) (cs := [vi p.Qubits, vi p.Phase, .slice B p.Terms.length c, .slice B1 p.Out.Rows.length c1]) (v := .slice B1 p.Out.Rows.length c1) k_sc_66 rfl rfl (ST.cf hw' (i := 0) rfl) rfl)) ?_
    refine rA [5] ?_
    refine ra_c 65 (i := 5) rfl rfl rfl (Yc_func (g := 95) (vs := [.agg (sums1.flatMap encI).toArray]) k_call_95 rfl (mc rfl mn) (c_impl_coefficients_terms sums1 _ hl2 (hS19.inn0 [] rfl) hc4)) ?_ ?_
    ·rintro _ w_11 ⟨B4, c4, rfl, hd4⟩
     have hS20 := hS19.out0 hd4
     refine ⟨(hS20.se [0, 2]), ?_⟩
     refine rA [9] ?_
     refine ra_c 69 (i := 9) rfl rfl rfl (Yc_func (g := 188) (vs := [.slice B1 p.Out.Rows.length c1]) k_call_188 rfl (mc rfl mn) (c_slices_Clone_int_int p.Out.Rows B1 c1 p.Out.Rows.length _ rfl (hS20.inn0 [(true, 1)] rfl) hc5)) ?_ ?_
     ·rintro _ w_12 ⟨B5, c5, rfl, hd5⟩
      have hS21 := hS20.out0 hd5
      refine ⟨(hS21.se [0, 2]), ?_⟩
      refine rq 10 70 (v := .agg #[.slice B5 r_6.length c5]) rfl (hS21.se [0, 2]) (fun w' hw' => (Y_buildS (zs := [.slice none 0 0]) (vs := [(0, .slice B5 r_6.length c5)]) (cs := [.slice B5 r_6.length c5]) k_pl_68 k_zero_68 rfl (mpc rfl mpn) rfl)) ?_
      refine rq 11 71 (v := .agg #[vi p.Qubits, vi p.Phase, .slice B4 r_5.length c4, .slice B5 r_6.length c5]) rfl (hS21.se [0, 2]) (fun w' hw' => (Y_buildS (zs := [vi 0, vi 0, .slice none 0 0, .slice none 0 0]) (vs := [(0, vi p.Qubits), (1, vi p.Phase), (2, .slice B4 r_5.length c4), (3, .agg #[.slice B5 r_6.length c5])]) (cs := [vi p.Qubits, vi p.Phase, .slice B4 r_5.length c4, .slice B5 r_6.length c5]) k_pl_70 k_zero_70 rfl (mpc rfl (mpc rfl (mpc rfl (mpc rfl mpn)))) rfl)) ?_
      refine rA [12] ?_
      refine ra_s0 (i := 12) rfl rfl rfl (Ys_store (i := 1) (s := 4) (B := aD b1) (T' := 70) (v := .agg #[vi p.Qubits, vi p.Phase, .slice B4 r_5.length c4, .slice B5 r_6.length c5]) (vs := [vi p.Qubits, vi p.Phase, .slice B4 r_5.length c4, .slice B5 r_6.length c5]) (k := 0) (cs' := [vi p.Qubits, vi p.Phase, .slice B4 r_5.length c4, .slice B5 r_6.length c5]) hS21 k_sz_70_4 rfl (hf1.get 4 2 rfl) rfl rfl rfl rfl rfl (lB rfl) rfl rfl) ?_ ?_
      ·rintro _ w_13 ⟨rfl, hS22⟩
       refine ⟨(hS22.se [0, 2]), ?_⟩
       refine rq 13 5 (v := .bool true) rfl (hS22.se [0, 2]) (fun w' hw' => (Y_assign (v := .bool true) rfl rfl)) ?_
       refine ra_done (by kernel_rfl) ?_
       refine cw_ret ?_
       obtain ⟨rfl, rfl⟩ := pr2 (some_inj hF4)
       exact ret2 Tryz.results112 (v1 := .agg #[vi p.Qubits, vi p.Phase, .slice B4 r_5.length c4, .slice B5 r_6.length c5]) (resAt_cellA (B := aD b1) (i := 0) (cs := [vi p.Qubits, vi p.Phase, .slice B4 r_5.length c4, .slice B5 r_6.length c5]) (vs := [vi p.Qubits, vi p.Phase, .slice B4 r_5.length c4, .slice B5 r_6.length c5]) (hf1.get 4 2 rfl) k_ag_70 k_sz_70_4 (hS22.cf (i := 1) rfl) rfl rfl) (v2 := .bool true) (resAt_tmp rfl) ⟨B4, c4, B5, c5, rfl, (hS22.sN [3, 4])⟩
      exact allR_nil
     exact allR_nil
    exact allR_nil

theorem c_impl_ReduceT (p : TPhasePoly) (B : Option Addr) (c n : Nat) (B1 : Option Addr) (c1 n1 : Nat) (w0 : World) (hn : p.Terms.length = n) (hn1 : p.Out.Rows.length = n1) (hS : ST w0 [] w0 [] [⟨B, (p.Terms.flatMap eN0)⟩, ⟨B1, (p.Out.Rows.flatMap encI)⟩]) {r_ : TPhasePoly} {r_1 : Int} {r_2 : Bool} (hF : F_impl_ReduceT p = some (r_, r_1, r_2)) :
  CV Tryz.prog 43 #[.agg #[vi p.Qubits, vi p.Phase, .slice B n c, .slice B1 n1 c1]] w0 (fun v w' => ∃ (B2 : Option Addr) (c2 : Nat) (B3 : Option Addr) (c3 : Nat), v = .tuple #[.agg #[vi r_.Qubits, vi r_.Phase, .slice B2 r_.Terms.length c2, .slice B3 r_.Out.Rows.length c3], vi r_1, .bool r_2] ∧ ST w0 [] w' [⟨B2, 136, (r_.Terms.flatMap eN0), c2 * 2⟩, ⟨B3, 3, (r_.Out.Rows.flatMap encI), c3 * 1⟩] []) := by
 subst hn
 subst hn1
 unfold F_impl_ReduceT at hF
 refine cv_of_cw 30 Tryz.func43 rfl Tryz.ntmps43 rfl ?_
 refine cw_seq (cw_region ?_)
 refine sS 1 (Ys_box (T := 70) (v := .agg #[vi p.Qubits, vi p.Phase, .slice B p.Terms.length c, .slice B1 p.Out.Rows.length c1]) (cs := [vi p.Qubits, vi p.Phase, .slice B p.Terms.length c, .slice B1 p.Out.Rows.length c1]) (m := 4) hS rfl rfl rfl rfl) ?_
 rintro _ w_ ⟨b, rfl, hS1⟩
 refine sS 2 (Ys_alloc (T := 70) (cs := [vi 0, vi 0, .slice none 0 0, .slice none 0 0]) (m := 4) hS1 k_zero_70 rfl rfl rfl) ?_
 rintro _ w_1 ⟨b1, rfl, hS2⟩
 refine sQ 3 (Y_assign (v := vi 0) rfl rfl) ?_
 refine sQ 4 (Y_assign (v := .bool false) rfl rfl) (rw_nil (cw_seq (cw_seq (cw_region ?_))))
 refine sQ 9 (Y_loadA (B := aD b) (i := 0) (cs := [vi p.Qubits, vi p.Phase, .slice B p.Terms.length c, .slice B1 p.Out.Rows.length c1]) (vs := [vi p.Qubits, vi p.Phase, .slice B p.Terms.length c, .slice B1 p.Out.Rows.length c1]) k_ag_70 k_sz_70_4 rfl rfl (hS2.cf (i := 0) rfl) rfl rfl) ?_
 obtain ⟨r_3, hc, hF⟩ := bind_inv hF
 refine sc 10 rfl rfl (Yc_func (g := 102) (vs := [.agg #[vi p.Qubits, vi p.Phase, .slice B p.Terms.length c, .slice B1 p.Out.Rows.length c1]]) k_call_102 rfl (mc rfl mn) (c_impl_IsValidPhasePoly p B c p.Terms.length B1 c1 p.Out.Rows.length _ rfl rfl (hS2.inn0 [(true, 0), (true, 1)] rfl) hc)) ?_
 rintro _ w_2 ⟨rfl, hd⟩
 have hS3 := hS2.out00 hd
 refine sQ 11 (Y_not (p := r_3) rfl rfl) (rw_nil ?_)
 refine cw_cond (b := (!r_3)) rfl (fun hb => ?_) (fun hb => ?_)
 ·skip
  have hF1 := ct hF hb
  refine cw_seq (cw_region ?_)
  refine sQ 12 (Y_buildS (zs := [vi 0, vi 0, .slice none 0 0, .slice none 0 0]) (vs := []) (cs := [vi 0, vi 0, .slice none 0 0, .slice none 0 0]) k_pl_70 k_zero_70 rfl mpn rfl) ?_
  refine s0 (Ys_store (i := 1) (s := 4) (B := aD b1) (T' := 70) (v := .agg #[vi 0, vi 0, .slice none 0 0, .slice none 0 0]) (vs := [vi 0, vi 0, .slice none 0 0, .slice none 0 0]) (k := 0) (cs' := [vi 0, vi 0, .slice none 0 0, .slice none 0 0]) hS3 k_sz_70_4 rfl rfl rfl rfl rfl rfl rfl (lB rfl) rfl rfl) ?_
  rintro _ w_3 ⟨rfl, hS4⟩
  refine sQ 3 (Y_assign (v := vi 0) rfl rfl) ?_
  refine sQ 4 (Y_assign (v := .bool false) rfl rfl) (rw_nil (cw_ret ?_))
  have hS5 := hS4.addNil 136
  have hS6 := hS5.addNil 3
  obtain ⟨rfl, rfl, rfl⟩ := pr3 (some_inj hF1)
  exact ret3 Tryz.results43 (v1 := .agg #[vi 0, vi 0, .slice none 0 0, .slice none 0 0]) (resAt_cellA (B := aD b1) (i := 0) (cs := [vi 0, vi 0, .slice none 0 0, .slice none 0 0]) (vs := [vi 0, vi 0, .slice none 0 0, .slice none 0 0]) rfl k_ag_70 k_sz_70_4 (hS6.cf (i := 1) rfl) rfl rfl) (v2 := vi 0) (resAt_tmp rfl) (v3 := .bool false) (resAt_tmp rfl) ⟨none, 0, none, 0, rfl, (hS6.sN [2, 3])⟩
 ·skip
  have hF2 := cf' hF hb
  refine cw_skip (cw_seq ?_)
  obtain ⟨r_4, hc1, hF2⟩ := bind_inv hF2
  obtain ⟨⟨r_5, r_6⟩, hc2, hF2⟩ := bind_inv hF2
  refine ra_start (hS3.se [0, 1]).fn (by kernel_rfl) ?_
  have hS9 := hS3.drew
  refine rq 0 14 (v := pt (aD b) 0) rfl (hS9.se [0, 1]) (fun w' hw' => (Y_fieldAddr (B := aD b) (i := 0) (s := 0) k_fd_70_0_0_3 k_sz_3_1 rfl rfl)) ?_
  refine rq 1 15 (v := vi p.Qubits) rfl (hS9.se [0, 1]) (fun w' hw' => (Y_load1 (B := aD b) (i := 0) (cs := [vi p.Qubits, vi p.Phase, .slice B p.Terms.length c, .slice B1 p.Out.Rows.length c1]) (v := vi p.Qubits) k_sc_3 rfl rfl (ST.cf hw' (i := 0) rfl) rfl)) ?_
  refine rq 2 16 (v := .agg #[vi p.Qubits, vi p.Phase, .slice B p.Terms.length c, .slice B1 p.Out.Rows.length c1]) rfl (hS9.se [0, 1]) (fun w' hw' => (Y_loadA (B := aD b) (i := 0) (cs := [vi p.Qubits, vi p.Phase, .slice B p.Terms.length c, .slice B1 p.Out.Rows.length c1]) (vs := [vi p.Qubits, vi p.Phase, .slice B p.Terms.length c, .slice B1 p.Out.Rows.length c1]) k_ag_70 k_sz_70_4 rfl rfl (ST.cf hw' (i := 0) rfl) rfl rfl)) ?_
  refine rA [3] ?_
  refine ra_c 17 (i := 3) rfl rfl rfl (Yc_func (g := 111) (vs := [.agg #[vi p.Qubits, vi p.Phase, .slice B p.Terms.length c, .slice B1 p.Out.Rows.length c1]]) k_call_111 rfl (mc rfl mn) (c_impl_oddWord p B c p.Terms.length B1 c1 p.Out.Rows.length _ rfl rfl (hS9.inn0 [(true, 0), (true, 1)] rfl) hc1)) ?_ ?_
  ·rintro _ w_4 ⟨rfl, hd1⟩
   have hS10 := hS9.out00 hd1
   refine ⟨(hS10.se [0, 1]), ?_⟩
   refine rA [4] ?_
   refine ra_c 18 (i := 4) rfl rfl rfl (Yc_func (g := 110) (vs := [vi p.Qubits, vi r_4]) k_call_110 rfl (mc rfl (mc rfl mn)) (c_impl_nearest p.Qubits r_4 _  (hS10.inn0 [] rfl) hc2)) ?_ ?_
   ·rintro _ w_5 ⟨rfl, hd2⟩
    have hS11 := hS10.out00 hd2
    refine ⟨(hS11.se [0, 1]), ?_⟩
    refine rq 5 13 (v := .tuple #[vi r_5, vi r_6]) rfl (hS11.se [0, 1]) (fun w' hw' => (Y_move (v := .tuple #[vi r_5, vi r_6]) rfl rfl)) ?_
    refine rq 6 19 (v := vi r_5) rfl (hS11.se [0, 1]) (fun w' hw' => (Y_extract (v := vi r_5) rfl rfl rfl)) ?_
    refine rq 7 20 (v := vi r_6) rfl (hS11.se [0, 1]) (fun w' hw' => (Y_extract (v := vi r_6) rfl rfl rfl)) ?_
    refine rq 8 5 (v := vi r_5) rfl (hS11.se [0, 1]) (fun w' hw' => (Y_assign (v := vi r_5) rfl rfl)) ?_
    refine rq 9 6 (v := vi r_6) rfl (hS11.se [0, 1]) (fun w' hw' => (Y_assign (v := vi r_6) rfl rfl)) ?_
    refine ra_done (by kernel_rfl) ?_
    refine cw_seq (cw_region ?_)
    refine sQ 22 (Y_loadA (B := aD b) (i := 0) (cs := [vi p.Qubits, vi p.Phase, .slice B p.Terms.length c, .slice B1 p.Out.Rows.length c1]) (vs := [vi p.Qubits, vi p.Phase, .slice B p.Terms.length c, .slice B1 p.Out.Rows.length c1]) k_ag_70 k_sz_70_4 rfl rfl (hS11.cf (i := 0) rfl) rfl rfl) ?_
    refine sQ 23 (Y_move (v := vi r_5) rfl rfl) ?_
    obtain ⟨⟨r_7, r_8⟩, hc3, hF2⟩ := bind_inv hF2
    refine sc 24 rfl rfl (Yc_func (g := 112) (vs := [.agg #[vi p.Qubits, vi p.Phase, .slice B p.Terms.length c, .slice B1 p.Out.Rows.length c1], vi r_5]) k_call_112 rfl (mc rfl (mc rfl mn)) (c_impl_ShiftBy p r_5 B c p.Terms.length B1 c1 p.Out.Rows.length _ rfl rfl (hS11.inn0 [(true, 0), (true, 1)] rfl) hc3)) ?_
    rintro _ w_6 ⟨B4, c4, B5, c5, rfl, hd3⟩
    have hS12 := hS11.out0 hd3
    refine sQ 21 (Y_move (v := .tuple #[.agg #[vi r_7.Qubits, vi r_7.Phase, .slice B4 r_7.Terms.length c4, .slice B5 r_7.Out.Rows.length c5], .bool r_8]) rfl rfl) ?_
    refine sQ 25 (Y_extract (v := .agg #[vi r_7.Qubits, vi r_7.Phase, .slice B4 r_7.Terms.length c4, .slice B5 r_7.Out.Rows.length c5]) rfl rfl rfl) ?_
    refine sQ 26 (Y_extract (v := .bool r_8) rfl rfl rfl) ?_
    refine sS 7 (Ys_alloc (T := 70) (cs := [vi 0, vi 0, .slice none 0 0, .slice none 0 0]) (m := 4) hS12 k_zero_70 rfl rfl rfl) ?_
    rintro _ w_7 ⟨b2, rfl, hS13⟩
    refine s0 (Ys_store (i := 4) (s := 4) (B := aD b2) (T' := 70) (v := .agg #[vi r_7.Qubits, vi r_7.Phase, .slice B4 r_7.Terms.length c4, .slice B5 r_7.Out.Rows.length c5]) (vs := [vi r_7.Qubits, vi r_7.Phase, .slice B4 r_7.Terms.length c4, .slice B5 r_7.Out.Rows.length c5]) (k := 0) (cs' := [vi r_7.Qubits, vi r_7.Phase, .slice B4 r_7.Terms.length c4, .slice B5 r_7.Out.Rows.length c5]) hS13 k_sz_70_4 rfl rfl rfl rfl rfl rfl rfl (lB rfl) rfl rfl) ?_
    rintro _ w_8 ⟨rfl, hS14⟩
    refine sQ 8 (Y_assign (v := .bool r_8) rfl rfl) (rw_nil (cw_seq (cw_region ?_)))
    refine sQ 27 (Y_loadA (B := aD b2) (i := 0) (cs := [vi r_7.Qubits, vi r_7.Phase, .slice B4 r_7.Terms.length c4, .slice B5 r_7.Out.Rows.length c5]) (vs := [vi r_7.Qubits, vi r_7.Phase, .slice B4 r_7.Terms.length c4, .slice B5 r_7.Out.Rows.length c5]) k_ag_70 k_sz_70_4 rfl rfl (hS14.cf (i := 4) rfl) rfl rfl) ?_
    refine sQ 28 (Y_move (v := vi r_5) rfl rfl) ?_
    refine sQ 29 (Y_move (v := .bool r_8) rfl rfl) ?_
    refine s0 (Ys_store (i := 1) (s := 4) (B := aD b1) (T' := 70) (v := .agg #[vi r_7.Qubits, vi r_7.Phase, .slice B4 r_7.Terms.length c4, .slice B5 r_7.Out.Rows.length c5]) (vs := [vi r_7.Qubits, vi r_7.Phase, .slice B4 r_7.Terms.length c4, .slice B5 r_7.Out.Rows.length c5]) (k := 0) (cs' := [vi r_7.Qubits, vi r_7.Phase, .slice B4 r_7.Terms.length c4, .slice B5 r_7.Out.Rows.length c5]) hS14 k_sz_70_4 rfl rfl rfl rfl rfl rfl rfl (lB rfl) rfl rfl) ?_
    rintro _ w_9 ⟨rfl, hS15⟩
    refine sQ 3 (Y_assign (v := vi r_5) rfl rfl) ?_
    refine sQ 4 (Y_assign (v := .bool r_8) rfl rfl) (rw_nil (cw_ret ?_))
    obtain ⟨rfl, rfl, rfl⟩ := pr3 (some_inj hF2)
    exact ret3 Tryz.results43 (v1 := .agg #[vi r_7.Qubits, vi r_7.Phase, .slice B4 r_7.Terms.length c4, .slice B5 r_7.Out.Rows.length c5]) (resAt_cellA (B := aD b1) (i := 0) (cs := [vi r_7.Qubits, vi r_7.Phase, .slice B4 r_7.Terms.length c4, .slice B5 r_7.Out.Rows.length c5]) (vs := [vi r_7.Qubits, vi r_7.Phase, .slice B4 r_7.Terms.length c4, .slice B5 r_7.Out.Rows.length c5]) rfl k_ag_70 k_sz_70_4 (hS15.cf (i := 1) rfl) rfl rfl) (v2 := vi r_5) (resAt_tmp rfl) (v3 := .bool r_8) (resAt_tmp rfl) ⟨B4, c4, B5, c5, rfl, (hS15.sN [2, 3])⟩
   exact allR_nil
  exact allR_nil

theorem c_spec_l1In (n : Int) (lo : Int) (hi : Int)  (w0 : World)  (hS : ST w0 [] w0 [] []) {r_ : Bool} (hF : F_spec_l1In n lo hi = some r_) :
  CV Tryz.prog 51 #[vi n, vi lo, vi hi] w0 (fun v w' => v = .bool r_ ∧ ST w0 [] w' [] []) := by
 unfold F_spec_l1In at hF
 refine cv_of_cw 15 Tryz.func51 rfl Tryz.ntmps51 rfl ?_
 refine cw_seq (cw_region ?_)
 refine sQ 6 (Y_assign (v := .bool false) rfl rfl) (rw_nil (cw_seq (cw_region ?_)))
 refine sQ 7 (Y_move (v := vi n) rfl rfl) ?_
 refine sQ 8 (Y_move (v := vi lo) rfl rfl) ?_
 refine sQ 9 (Y_ge (k := .i64) (a := n) (b := lo) rfl rfl rfl) ?_
 refine sQ 10 (Y_move (v := .bool (decide (lo ≤ n))) rfl rfl) ?_
 refine sgq 11 (B := (decide (lo ≤ n))) (v := vi n) rfl rfl (uT_ 10) (fun hg => (Y_move (v := vi n) rfl rfl)) ?_
 refine sgq 12 (B := (decide (lo ≤ n))) (v := vi hi) rfl rfl (uT_ 10) (fun hg1 => (Y_move (v := vi hi) rfl rfl)) ?_
 refine sgq 13 (B := (decide (lo ≤ n))) (v := .bool (decide (n ≤ hi))) rfl rfl (uT_ 10) (fun hg2 => (Y_le (k := .i64) (a := n) (b := hi) rfl (gv_of (v := vi n) hg2) (gv_of (v := vi hi) hg2))) ?_
 refine sQ 14 (Y_and (b := (decide (lo ≤ n))) (z := (decide (n ≤ hi))) rfl rfl rfl rfl) ?_
 refine sQ 6 (Y_assign (v := .bool ((decide (lo ≤ n)) && (decide (n ≤ hi)))) rfl rfl) (rw_nil (cw_ret ?_))
 obtain rfl := some_inj hF
 exact ret1 Tryz.results51 (v1 := .bool ((decide (lo ≤ n)) && (decide (n ≤ hi)))) (resAt_tmp rfl) ⟨rfl, (hS.sN [])⟩

theorem c_spec_l1All (l : List Int) (lo : Int) (hi : Int) (B : Option Addr) (c n : Nat) (w0 : World) (hn : l.length = n) (hS : ST w0 [] w0 [] [⟨B, (l.flatMap encI)⟩]) {r_ : Bool} (hF : F_spec_l1All l lo hi = some r_) :
  CV Tryz.prog 173 #[.slice B n c, vi lo, vi hi] w0 (fun v w' => v = .bool r_ ∧ ST w0 [] w' [] []) := by
 subst hn
 unfold F_spec_l1All at hF
 refine cv_of_cw 21 Tryz.func173 rfl Tryz.ntmps173 rfl ?_
 refine cw_seq (cw_region ?_)
 refine sQ 6 (Y_assign (v := .bool false) rfl rfl) (rw_nil (cw_seq (cw_seq (cw_region ?_))))
 refine sQ 9 (Y_move (v := .slice B l.length c) rfl rfl) ?_
 refine sQ 10 (Y_len (B := B) (m := l.length) (c := c) k_sl_66_3 rfl rfl) ?_
 refine sQ 11 (Y_move (v := vi 0) rfl rfl) (rw_nil ?_)
 obtain ⟨hN, hF⟩ := chk_inv hF
 obtain ⟨z, hz, hF1⟩ := bind_inv hF
 refine cw_block ?_
 refine cw_loop (fun k f w => ∃ (i : Nat), FF f [(1, vi lo), (2, vi hi), (9, .slice B l.length c), (10, vi (l.length : Int)), (11, vi (i : Int))] ∧ ST w0 [] w [] [⟨B, (l.flatMap encI)⟩] ∧ i + k = l.length ∧ forX (F_spec_l1All_l1 l lo hi) k i () = some z) l.length ⟨0, (FF.cons rfl (FF.cons rfl (FF.cons rfl (FF.cons rfl (FF.cons rfl FF.nil))))), (hS.sel [] rfl rfl), Nat.zero_add _, hz⟩ ?_
 rintro k_ f w ⟨i, hf, hS1, hik, hL⟩
 refine cw_seq (cw_region ?_)
 refine sQ 12 (Y_lt (k := .i64) (a := (i : Int)) (b := (l.length : Int)) rfl (hf.get 11 4 rfl) (hf.get 10 3 rfl)) (rw_nil (cw_seq ?_))
 refine cw_cond (b := (decide ((i : Int) < (l.length : Int)))) rfl (fun hlt => ?_) (fun hlt => ?_)
 ·skip
  have hlt1 : i < l.length := by have h := of_decide_eq_true hlt; omega
  obtain ⟨k_1, rfl⟩ : ∃ k2, k_ = k2 + 1 := ⟨k_ - 1, by omega⟩
  obtain ⟨y, hb, hL1⟩ := forX_go hL
  unfold F_spec_l1All_l1 at hb
  refine cw_skip (cw_seq (cw_block (cw_seq (cw_region ?_))))
  obtain ⟨x, hx, hb⟩ := bind_inv hb
  refine sQ 13 (Y_index (B := B) (m := l.length) (c := c) (k := .i64) (i := (i : Int)) k_sl_66_3 k_sz_3_1 rfl (hf.get 9 2 rfl) (hf.get 11 4 rfl) (gi_isSome encI_len rfl (hS1.rf (i := 0) rfl) hx) (getI_nn hx) (getI_ltI hx rfl)) ?_
  refine sQ 14 (Y_load1 (B := B) (i := (i : Int).toNat * 1) (cs := (l.flatMap encI)) (v := vi x) k_sc_3 rfl rfl (hS1.rf (i := 0) rfl) (gi_at0 encI_len hx rfl)) ?_
  refine sQ 8 (Y_assign (v := vi x) rfl rfl) (rw_nil (cw_seq (cw_region ?_)))
  refine sQ 15 (Y_move (v := vi x) rfl rfl) ?_
  refine sQ 16 (Y_move (v := vi lo) rfl (hf.get 1 0 rfl)) ?_
  refine sQ 17 (Y_move (v := vi hi) rfl (hf.get 2 1 rfl)) ?_
  obtain ⟨r_1, hc, hb⟩ := bind_inv hb
  refine sc 18 rfl rfl (Yc_func (g := 51) (vs := [vi x, vi lo, vi hi]) k_call_51 rfl (mc rfl (mc rfl (mc rfl mn))) (c_spec_l1In x lo hi _  (hS1.inn0 [] rfl) hc)) ?_
  rintro _ w_ ⟨rfl, hd⟩
  have hS2 := hS1.out00 hd
  refine sQ 19 (Y_not (p := r_1) rfl rfl) (rw_nil ?_)
  refine cw_cond (b := (!r_1)) rfl (fun hb1 => ?_) (fun hb1 => ?_)
  ·skip
   have hF2 := ct hb hb1
   refine cw_seq (cw_region ?_)
   refine sQ 6 (Y_assign (v := .bool false) rfl rfl) (rw_nil (cw_ret ?_))
   obtain rfl := some_inj hF2
   obtain rfl := some_inj hL1
   obtain rfl := some_inj hF1
   exact ret1 Tryz.results173 (v1 := .bool false) (resAt_tmp rfl) ⟨rfl, (hS2.sN [])⟩
  ·skip
   have hF3 := cf' hb hb1
   refine cw_skip (cw_region ?_)
   refine sQ 20 (Y_add (k := .i64) (a := (i : Int)) (b := 1) rfl (hf.get 11 4 rfl) rfl) ?_
   refine sQ 11 (Y_move (v := vi (i64.wrap ((i : Int) + 1))) rfl rfl) (rw_nil ?_)
   obtain rfl := some_inj hF3
   exact ⟨k_1, Nat.lt_succ_self _, i + 1, (FF.cons (hf.get 1 0 rfl) (FF.cons (hf.get 2 1 rfl) (FF.cons (hf.get 9 2 rfl) (FF.cons (hf.get 10 3 rfl) (FF.cons (congrArg (Value.int .i64) (wr_succ hlt1 hN)) FF.nil))))), (hS2.sel [] rfl rfl), (by omega), hL1⟩
 ·skip
  obtain rfl : k_ = 0 := by have h := of_decide_eq_false hlt; omega
  refine cw_exit rfl ?_
  obtain rfl := some_inj hL
  refine cw_seq (cw_region ?_)
  refine sQ 6 (Y_assign (v := .bool true) rfl rfl) (rw_nil (cw_ret ?_))
  obtain rfl := some_inj hF1
  exact ret1 Tryz.results173 (v1 := .bool true) (resAt_tmp rfl) ⟨rfl, (hS1.sN [])⟩
end Go.VK
