/- Walks: each Go function returns what its Lean function says. By program. -/
import Derived.Test.YtchihdcajdocgaaGreatLReductionsFa
import Derived.Test.YtchihdcajdocgaaGreatLReductionsShelf
set_option linter.unusedVariables false
set_option maxRecDepth 100000
set_option maxHeartbeats 4000000
namespace Go.VK
open Go.RowKit
open Go.Proofs
open Go.IntKind
attribute [local irreducible] CW RW RA CV Y Yw Yc Ys RetOf
attribute [local irreducible] F_laws_qTerms F_laws_qInts F_laws_qPoly F_spec_l1Cur_next F_spec_l1Cur_pick F_spec_l1Cur_one F_spec_l13List F_spec_l1Put F_spec_l1Set F_spec_l13Parity F_spec_l15Affine F_spec_l15Codes F_spec_l1Cur_oddWord F_spec_l1Cur_among F_spec_l13By F_spec_l12Identity F_spec_l1Own F_spec_l12CX F_spec_l1Cur_linear F_spec_l1Cur_phasePoly F_spec_l1Cur_reducible F_spec_l1Cur_anyLinear F_spec_l1Cur_anyPhasePoly F_spec_DrawLeastT F_spec_DrawReduceT F_impl_within F_impl_areTerms F_slices_IndexFunc_int_int F_slices_ContainsFunc_int_int F_impl_IsValidLinear_1 F_slices_Clone_int_int F_impl_rankOf_1 F_slices_Delete_int_int F_impl_rankOf F_impl_IsValidLinear F_impl_IsValidPhasePoly F_math_bits_OnesCount64 F_math_bits_OnesCount F_impl_bitsIn F_slices_Sort_int_int F_impl_codeWords F_impl_nearest F_impl_oddWord F_impl_coefficients_add F_impl_coefficients_terms F_slices_Index_int_int F_slices_Contains_int_int F_impl_isWord F_impl_IsCodeWord F_impl_ShiftBy F_impl_ReduceT F_spec_l1In F_spec_l1All F_spec_l12Rank F_spec_l12Valid F_spec_l13Valid F_spec_l15Nearest F_spec_l15Odd F_spec_l15Shift F_spec_ReduceT F_spec_l1Cur_relative F_spec_DrawCheckReduction F_impl_LeastT F_slices_Equal_int_int F_slices_Equal_impl_Term_impl_Term F_impl_equalPolys F_impl_oddTerms F_impl_CheckReduction F_spec_l1Has F_spec_l1Same F_spec_l15SameTerms F_spec_l15Same F_spec_l13Odd F_spec_l15Least F_spec_CheckReduction F_impl_MonomialsOf F_impl_EqualPhases F_impl_OddTerms F_laws_FnReductions
theorem c_laws_qTerms (a : List TTerm) (b : List TTerm) (B : Option Addr) (c n : Nat) (B1 : Option Addr) (c1 n1 : Nat) (w0 : World) (hn : a.length = n) (hn1 : b.length = n1) (hS : ST w0 [] w0 [] [⟨B, (a.flatMap eN0)⟩, ⟨B1, (b.flatMap eN0)⟩]) {r_ : Bool} (hF : F_laws_qTerms a b = some r_) :
  CV Tryz.prog 100 #[.slice B n c, .slice B1 n1 c1] w0 (fun v w' => v = .bool r_ ∧ ST w0 [] w' [] []) := by
 subst hn
 subst hn1
 unfold F_laws_qTerms at hF
 refine cv_of_cw 26 Tryz.func100 rfl Tryz.ntmps100 rfl ?_
 refine cw_seq (cw_region ?_)
 refine sQ 4 (Y_assign (v := .bool false) rfl rfl) (rw_nil (cw_seq (cw_seq (cw_region ?_))))
 refine sQ 6 (Y_move (v := .slice B a.length c) rfl rfl) ?_
 refine sQ 7 (Y_len (B := B) (m := a.length) (c := c) k_sl_65_136 rfl rfl) ?_
 refine sQ 8 (Y_move (v := .slice B1 b.length c1) rfl rfl) ?_
 refine sQ 9 (Y_len (B := B1) (m := b.length) (c := c1) k_sl_65_136 rfl rfl) ?_
 refine sQ 10 (Y_ne (k := .i64) (a := (a.length : Int)) (b := (b.length : Int)) rfl rfl rfl) (rw_nil ?_)
 refine cw_cond (b := ((a.length : Int) != (b.length : Int))) rfl (fun hb => ?_) (fun hb => ?_)
 ·skip
  have hF1 := ct hF hb
  refine cw_seq (cw_region ?_)
  refine sQ 4 (Y_assign (v := .bool false) rfl rfl) (rw_nil (cw_ret ?_))
  obtain rfl := some_inj hF1
  exact ret1 Tryz.results100 (v1 := .bool false) (resAt_tmp rfl) ⟨rfl, (hS.sN [])⟩
 ·skip
  have hF2 := cf' hF hb
  refine cw_skip (cw_seq (cw_seq (cw_region ?_)))
  refine sQ 11 (Y_move (v := .slice B a.length c) rfl rfl) ?_
  refine sQ 12 (Y_len (B := B) (m := a.length) (c := c) k_sl_65_136 rfl rfl) ?_
  refine sQ 13 (Y_move (v := vi 0) rfl rfl) (rw_nil ?_)
  obtain ⟨hN, hF2⟩ := chk_inv hF2
  obtain ⟨z, hz, hF3⟩ := bind_inv hF2
  refine cw_block ?_
  refine cw_loop (fun k f w => ∃ (i : Nat), FF f [(0, .slice B a.length c), (1, .slice B1 b.length c1), (12, vi (a.length : Int)), (13, vi (i : Int))] ∧ ST w0 [] w [] [⟨B, (a.flatMap eN0)⟩, ⟨B1, (b.flatMap eN0)⟩] ∧ i + k = a.length ∧ forX (F_laws_qTerms_l1 a b) k i () = some z) a.length ⟨0, (FF.cons rfl (FF.cons rfl (FF.cons rfl (FF.cons rfl FF.nil)))), (hS.sel [] rfl rfl), Nat.zero_add _, hz⟩ ?_
  rintro k_ f w ⟨i, hf, hS1, hik, hL⟩
  refine cw_seq (cw_region ?_)
  refine sQ 14 (Y_lt (k := .i64) (a := (i : Int)) (b := (a.length : Int)) rfl (hf.get 13 3 rfl) (hf.get 12 2 rfl)) (rw_nil (cw_seq ?_))
  refine cw_cond (b := (decide ((i : Int) < (a.length : Int)))) rfl (fun hlt => ?_) (fun hlt => ?_)
  ·skip
   have hlt1 : i < a.length := by have h := of_decide_eq_true hlt; omega
   obtain ⟨k_1, rfl⟩ : ∃ k2, k_ = k2 + 1 := ⟨k_ - 1, by omega⟩
   obtain ⟨y, hb1, hL1⟩ := forX_go hL
   unfold F_laws_qTerms_l1 at hb1
   refine cw_skip (cw_seq (cw_block (cw_seq (cw_region ?_))))
   refine sQ 15 (Y_move (v := vi (i : Int)) rfl (hf.get 13 3 rfl)) ?_
   refine sQ 5 (Y_assign (v := vi (i : Int)) rfl rfl) (rw_nil (cw_seq ?_))
   obtain ⟨x, hx, hb1⟩ := bind_inv hb1
   obtain ⟨x1, hx1, hb1⟩ := bind_inv hb1
   refine ra_start (hS1.se []).fn (by kernel_rfl) ?_
   have hS2 := hS1.drew
   refine rq 0 16 (v := .slice B a.length c) rfl (hS2.se []) (fun w' hw' => (Y_move (v := .slice B a.length c) rfl (hf.get 0 0 rfl))) ?_
   refine rq 1 17 (v := vi (i : Int)) rfl (hS2.se []) (fun w' hw' => (Y_move (v := vi (i : Int)) rfl rfl)) ?_
   refine rq 2 18 (v := pt B ((i : Int).toNat * 2)) rfl (hS2.se []) (fun w' hw' => (Y_index (B := B) (m := a.length) (c := c) (k := .i64) (i := (i : Int)) k_sl_65_136 k_sz_136_2 rfl rfl rfl (gi_isSome eN1 rfl (ST.rf hw' (i := 0) rfl) hx) (getI_nn hx) (getI_ltI hx rfl))) ?_
   refine rq 3 19 (v := .agg #[vi x.Mask, vi x.Coef]) rfl (hS2.se []) (fun w' hw' => (Y_loadA (B := B) (i := (i : Int).toNat * 2) (cs := (a.flatMap eN0)) (vs := [vi x.Mask, vi x.Coef]) k_ag_136 k_sz_136_2 rfl rfl (ST.rf hw' (i := 0) rfl) (eN1 x) (gi_seg eN1 hx))) ?_
   refine rq 4 20 (v := .slice B1 b.length c1) rfl (hS2.se []) (fun w' hw' => (Y_move (v := .slice B1 b.length c1) rfl (hf.get 1 1 rfl))) ?_
   refine rq 5 21 (v := vi (i : Int)) rfl (hS2.se []) (fun w' hw' => (Y_move (v := vi (i : Int)) rfl rfl)) ?_
   refine rq 6 22 (v := pt B1 ((i : Int).toNat * 2)) rfl (hS2.se []) (fun w' hw' => (Y_index (B := B1) (m := b.length) (c := c1) (k := .i64) (i := (i : Int)) k_sl_65_136 k_sz_136_2 rfl rfl rfl (gi_isSome eN1 rfl (ST.rf hw' (i := 1) rfl) hx1) (getI_nn hx1) (getI_ltI hx1 rfl))) ?_
   refine rq 7 23 (v := .agg #[vi x1.Mask, vi x1.Coef]) rfl (hS2.se []) (fun w' hw' => (Y_loadA (B := B1) (i := (i : Int).toNat * 2) (cs := (b.flatMap eN0)) (vs := [vi x1.Mask, vi x1.Coef]) k_ag_136 k_sz_136_2 rfl rfl (ST.rf hw' (i := 1) rfl) (eN1 x1) (gi_seg eN1 hx1))) ?_
   refine rq 8 24 (v := .bool (!((x.Mask == x1.Mask) && ((x.Coef == x1.Coef) && true)))) rfl (hS2.se []) (fun w' hw' => (Y_neA (xs := #[vi x.Mask, vi x.Coef]) (ys := #[vi x1.Mask, vi x1.Coef]) (b := ((x.Mask == x1.Mask) && ((x.Coef == x1.Coef) && true))) k_eg_136 rfl rfl rfl (eqr_struct (xs := [vi x.Mask, vi x.Coef]) (ys := [vi x1.Mask, vi x1.Coef]) k_st_136 k_ho_136 (pts_sc k_sc_3 rfl rfl (eqr_int k_int_3_i64) (pts_sc k_sc_3 rfl rfl (eqr_int k_int_3_i64) pts_nil))))) ?_
   refine ra_done (by kernel_rfl) ?_
   refine cw_cond (b := (!((x.Mask == x1.Mask) && ((x.Coef == x1.Coef) && true)))) rfl (fun hb2 => ?_) (fun hb2 => ?_)
   ·skip
    have hF4 := ct hb1 hb2
    refine cw_seq (cw_region ?_)
    refine sQ 4 (Y_assign (v := .bool false) rfl rfl) (rw_nil (cw_ret ?_))
    obtain rfl := some_inj hF4
    obtain rfl := some_inj hL1
    obtain rfl := some_inj hF3
    exact ret1 Tryz.results100 (v1 := .bool false) (resAt_tmp rfl) ⟨rfl, (hS2.sN [])⟩
   ·skip
    have hF5 := cf' hb1 hb2
    refine cw_skip (cw_region ?_)
    refine sQ 25 (Y_add (k := .i64) (a := (i : Int)) (b := 1) rfl (hf.get 13 3 rfl) rfl) ?_
    refine sQ 13 (Y_move (v := vi (i64.wrap ((i : Int) + 1))) rfl rfl) (rw_nil ?_)
    obtain rfl := some_inj hF5
    exact ⟨k_1, Nat.lt_succ_self _, i + 1, (FF.cons (hf.get 0 0 rfl) (FF.cons (hf.get 1 1 rfl) (FF.cons (hf.get 12 2 rfl) (FF.cons (congrArg (Value.int .i64) (wr_succ hlt1 hN)) FF.nil)))), (hS2.sel [] rfl rfl), (by omega), hL1⟩
  ·skip
   obtain rfl : k_ = 0 := by have h := of_decide_eq_false hlt; omega
   refine cw_exit rfl ?_
   obtain rfl := some_inj hL
   refine cw_seq (cw_region ?_)
   refine sQ 4 (Y_assign (v := .bool true) rfl rfl) (rw_nil (cw_ret ?_))
   obtain rfl := some_inj hF3
   exact ret1 Tryz.results100 (v1 := .bool true) (resAt_tmp rfl) ⟨rfl, (hS1.sN [])⟩

theorem c_laws_qInts (a : List Int) (b : List Int) (B : Option Addr) (c n : Nat) (B1 : Option Addr) (c1 n1 : Nat) (w0 : World) (hn : a.length = n) (hn1 : b.length = n1) (hS : ST w0 [] w0 [] [⟨B, (a.flatMap encI)⟩, ⟨B1, (b.flatMap encI)⟩]) {r_ : Bool} (hF : F_laws_qInts a b = some r_) :
  CV Tryz.prog 101 #[.slice B n c, .slice B1 n1 c1] w0 (fun v w' => v = .bool r_ ∧ ST w0 [] w' [] []) := by
 subst hn
 subst hn1
 unfold F_laws_qInts at hF
 refine cv_of_cw 26 Tryz.func101 rfl Tryz.ntmps101 rfl ?_
 refine cw_seq (cw_region ?_)
 refine sQ 4 (Y_assign (v := .bool false) rfl rfl) (rw_nil (cw_seq (cw_seq (cw_region ?_))))
 refine sQ 6 (Y_move (v := .slice B a.length c) rfl rfl) ?_
 refine sQ 7 (Y_len (B := B) (m := a.length) (c := c) k_sl_66_3 rfl rfl) ?_
 refine sQ 8 (Y_move (v := .slice B1 b.length c1) rfl rfl) ?_
 refine sQ 9 (Y_len (B := B1) (m := b.length) (c := c1) k_sl_66_3 rfl rfl) ?_
 refine sQ 10 (Y_ne (k := .i64) (a := (a.length : Int)) (b := (b.length : Int)) rfl rfl rfl) (rw_nil ?_)
 refine cw_cond (b := ((a.length : Int) != (b.length : Int))) rfl (fun hb => ?_) (fun hb => ?_)
 ·skip
  have hF1 := ct hF hb
  refine cw_seq (cw_region ?_)
  refine sQ 4 (Y_assign (v := .bool false) rfl rfl) (rw_nil (cw_ret ?_))
  obtain rfl := some_inj hF1
  exact ret1 Tryz.results101 (v1 := .bool false) (resAt_tmp rfl) ⟨rfl, (hS.sN [])⟩
 ·skip
  have hF2 := cf' hF hb
  refine cw_skip (cw_seq (cw_seq (cw_region ?_)))
  refine sQ 11 (Y_move (v := .slice B a.length c) rfl rfl) ?_
  refine sQ 12 (Y_len (B := B) (m := a.length) (c := c) k_sl_66_3 rfl rfl) ?_
  refine sQ 13 (Y_move (v := vi 0) rfl rfl) (rw_nil ?_)
  obtain ⟨hN, hF2⟩ := chk_inv hF2
  obtain ⟨z, hz, hF3⟩ := bind_inv hF2
  refine cw_block ?_
  refine cw_loop (fun k f w => ∃ (i : Nat), FF f [(0, .slice B a.length c), (1, .slice B1 b.length c1), (12, vi (a.length : Int)), (13, vi (i : Int))] ∧ ST w0 [] w [] [⟨B, (a.flatMap encI)⟩, ⟨B1, (b.flatMap encI)⟩] ∧ i + k = a.length ∧ forX (F_laws_qInts_l1 a b) k i () = some z) a.length ⟨0, (FF.cons rfl (FF.cons rfl (FF.cons rfl (FF.cons rfl FF.nil)))), (hS.sel [] rfl rfl), Nat.zero_add _, hz⟩ ?_
  rintro k_ f w ⟨i, hf, hS1, hik, hL⟩
  refine cw_seq (cw_region ?_)
  refine sQ 14 (Y_lt (k := .i64) (a := (i : Int)) (b := (a.length : Int)) rfl (hf.get 13 3 rfl) (hf.get 12 2 rfl)) (rw_nil (cw_seq ?_))
  refine cw_cond (b := (decide ((i : Int) < (a.length : Int)))) rfl (fun hlt => ?_) (fun hlt => ?_)
  ·skip
   have hlt1 : i < a.length := by have h := of_decide_eq_true hlt; omega
   obtain ⟨k_1, rfl⟩ : ∃ k2, k_ = k2 + 1 := ⟨k_ - 1, by omega⟩
   obtain ⟨y, hb1, hL1⟩ := forX_go hL
   unfold F_laws_qInts_l1 at hb1
   refine cw_skip (cw_seq (cw_block (cw_seq (cw_region ?_))))
   refine sQ 15 (Y_move (v := vi (i : Int)) rfl (hf.get 13 3 rfl)) ?_
   refine sQ 5 (Y_assign (v := vi (i : Int)) rfl rfl) (rw_nil (cw_seq ?_))
   obtain ⟨x, hx, hb1⟩ := bind_inv hb1
   obtain ⟨x1, hx1, hb1⟩ := bind_inv hb1
   refine ra_start (hS1.se []).fn (by kernel_rfl) ?_
   have hS2 := hS1.drew
   refine rq 0 16 (v := .slice B a.length c) rfl (hS2.se []) (fun w' hw' => (Y_move (v := .slice B a.length c) rfl (hf.get 0 0 rfl))) ?_
   refine rq 1 17 (v := vi (i : Int)) rfl (hS2.se []) (fun w' hw' => (Y_move (v := vi (i : Int)) rfl rfl)) ?_
   refine rq 2 18 (v := pt B ((i : Int).toNat * 1)) rfl (hS2.se []) (fun w' hw' => (Y_index (B := B) (m := a.length) (c := c) (k := .i64) (i := (i : Int)) k_sl_66_3 k_sz_3_1 rfl rfl rfl (gi_isSome encI_len rfl (ST.rf hw' (i := 0) rfl) hx) (getI_nn hx) (getI_ltI hx rfl))) ?_
   refine rq 3 19 (v := vi x) rfl (hS2.se []) (fun w' hw' => (Y_load1 (B := B) (i := (i : Int).toNat * 1) (cs := (a.flatMap encI)) (v := vi x) k_sc_3 rfl rfl (ST.rf hw' (i := 0) rfl) (gi_at0 encI_len hx rfl))) ?_
   refine rq 4 20 (v := .slice B1 b.length c1) rfl (hS2.se []) (fun w' hw' => (Y_move (v := .slice B1 b.length c1) rfl (hf.get 1 1 rfl))) ?_
   refine rq 5 21 (v := vi (i : Int)) rfl (hS2.se []) (fun w' hw' => (Y_move (v := vi (i : Int)) rfl rfl)) ?_
   refine rq 6 22 (v := pt B1 ((i : Int).toNat * 1)) rfl (hS2.se []) (fun w' hw' => (Y_index (B := B1) (m := b.length) (c := c1) (k := .i64) (i := (i : Int)) k_sl_66_3 k_sz_3_1 rfl rfl rfl (gi_isSome encI_len rfl (ST.rf hw' (i := 1) rfl) hx1) (getI_nn hx1) (getI_ltI hx1 rfl))) ?_
   refine rq 7 23 (v := vi x1) rfl (hS2.se []) (fun w' hw' => (Y_load1 (B := B1) (i := (i : Int).toNat * 1) (cs := (b.flatMap encI)) (v := vi x1) k_sc_3 rfl rfl (ST.rf hw' (i := 1) rfl) (gi_at0 encI_len hx1 rfl))) ?_
   refine rq 8 24 (v := .bool (x != x1)) rfl (hS2.se []) (fun w' hw' => (Y_ne (k := .i64) (a := x) (b := x1) rfl rfl rfl)) ?_
   refine ra_done (by kernel_rfl) ?_
   refine cw_cond (b := (x != x1)) rfl (fun hb2 => ?_) (fun hb2 => ?_)
   ·skip
    have hF4 := ct hb1 hb2
    refine cw_seq (cw_region ?_)
    refine sQ 4 (Y_assign (v := .bool false) rfl rfl) (rw_nil (cw_ret ?_))
    obtain rfl := some_inj hF4
    obtain rfl := some_inj hL1
    obtain rfl := some_inj hF3
    exact ret1 Tryz.results101 (v1 := .bool false) (resAt_tmp rfl) ⟨rfl, (hS2.sN [])⟩
   ·skip
    have hF5 := cf' hb1 hb2
    refine cw_skip (cw_region ?_)
    refine sQ 25 (Y_add (k := .i64) (a := (i : Int)) (b := 1) rfl (hf.get 13 3 rfl) rfl) ?_
    refine sQ 13 (Y_move (v := vi (i64.wrap ((i : Int) + 1))) rfl rfl) (rw_nil ?_)
    obtain rfl := some_inj hF5
    exact ⟨k_1, Nat.lt_succ_self _, i + 1, (FF.cons (hf.get 0 0 rfl) (FF.cons (hf.get 1 1 rfl) (FF.cons (hf.get 12 2 rfl) (FF.cons (congrArg (Value.int .i64) (wr_succ hlt1 hN)) FF.nil)))), (hS2.sel [] rfl rfl), (by omega), hL1⟩
  ·skip
   obtain rfl : k_ = 0 := by have h := of_decide_eq_false hlt; omega
   refine cw_exit rfl ?_
   obtain rfl := some_inj hL
   refine cw_seq (cw_region ?_)
   refine sQ 4 (Y_assign (v := .bool true) rfl rfl) (rw_nil (cw_ret ?_))
   obtain rfl := some_inj hF3
   exact ret1 Tryz.results101 (v1 := .bool true) (resAt_tmp rfl) ⟨rfl, (hS1.sN [])⟩

theorem c_laws_qPoly (p : TPhasePoly) (q : TPhasePoly) (B : Option Addr) (c n : Nat) (B1 : Option Addr) (c1 n1 : Nat) (B2 : Option Addr) (c2 n2 : Nat) (B3 : Option Addr) (c3 n3 : Nat) (w0 : World) (hn : p.Terms.length = n) (hn1 : p.Out.Rows.length = n1) (hn2 : q.Terms.length = n2) (hn3 : q.Out.Rows.length = n3) (hS : ST w0 [] w0 [] [⟨B, (p.Terms.flatMap eN0)⟩, ⟨B1, (p.Out.Rows.flatMap encI)⟩, ⟨B2, (q.Terms.flatMap eN0)⟩, ⟨B3, (q.Out.Rows.flatMap encI)⟩]) {r_ : Bool} (hF : F_laws_qPoly p q = some r_) :
  CV Tryz.prog 35 #[.agg #[vi p.Qubits, vi p.Phase, .slice B n c, .slice B1 n1 c1], .agg #[vi q.Qubits, vi q.Phase, .slice B2 n2 c2, .slice B3 n3 c3]] w0 (fun v w' => v = .bool r_ ∧ ST w0 [] w' [] []) := by
 subst hn
 subst hn1
 subst hn2
 subst hn3
 unfold F_laws_qPoly at hF
 refine cv_of_cw 33 Tryz.func35 rfl Tryz.ntmps35 rfl ?_
 refine cw_seq (cw_region ?_)
 refine sS 2 (Ys_box (T := 70) (v := .agg #[vi p.Qubits, vi p.Phase, .slice B p.Terms.length c, .slice B1 p.Out.Rows.length c1]) (cs := [vi p.Qubits, vi p.Phase, .slice B p.Terms.length c, .slice B1 p.Out.Rows.length c1]) (m := 4) hS rfl rfl rfl rfl) ?_
 rintro _ w_ ⟨b, rfl, hS1⟩
 refine sS 3 (Ys_box (T := 70) (v := .agg #[vi q.Qubits, vi q.Phase, .slice B2 q.Terms.length c2, .slice B3 q.Out.Rows.length c3]) (cs := [vi q.Qubits, vi q.Phase, .slice B2 q.Terms.length c2, .slice B3 q.Out.Rows.length c3]) (m := 4) hS1 rfl rfl rfl rfl) ?_
 rintro _ w_1 ⟨b1, rfl, hS2⟩
 refine sQ 4 (Y_assign (v := .bool false) rfl rfl) (rw_nil (cw_seq (cw_region ?_)))
 refine sQ 5 (Y_fieldAddr (B := aD b) (i := 0) (s := 0) k_fd_70_0_0_3 k_sz_3_1 rfl rfl) ?_
 refine sQ 6 (Y_load1 (B := aD b) (i := 0) (cs := [vi p.Qubits, vi p.Phase, .slice B p.Terms.length c, .slice B1 p.Out.Rows.length c1]) (v := vi p.Qubits) k_sc_3 rfl rfl (hS2.cf (i := 0) rfl) rfl) ?_
 refine sQ 7 (Y_fieldAddr (B := aD b1) (i := 0) (s := 0) k_fd_70_0_0_3 k_sz_3_1 rfl rfl) ?_
 refine sQ 8 (Y_load1 (B := aD b1) (i := 0) (cs := [vi q.Qubits, vi q.Phase, .slice B2 q.Terms.length c2, .slice B3 q.Out.Rows.length c3]) (v := vi q.Qubits) k_sc_3 rfl rfl (hS2.cf (i := 1) rfl) rfl) ?_
 refine sQ 9 (Y_eq (k := .i64) (a := p.Qubits) (b := q.Qubits) rfl rfl rfl) ?_
 refine sQ 10 (Y_move (v := .bool (p.Qubits == q.Qubits)) rfl rfl) ?_
 refine sgq 11 (B := (p.Qubits == q.Qubits)) (v := pt (aD b) 1) rfl rfl (uT_ 10) (fun hg => (Y_fieldAddr (B := aD b) (i := 0) (s := 0) k_fd_70_1_1_3 k_sz_3_1 rfl rfl)) ?_
 refine sgq 12 (B := (p.Qubits == q.Qubits)) (v := vi p.Phase) rfl rfl (uT_ 10) (fun hg1 => (Y_load1 (B := aD b) (i := 1) (cs := [vi p.Qubits, vi p.Phase, .slice B p.Terms.length c, .slice B1 p.Out.Rows.length c1]) (v := vi p.Phase) k_sc_3 rfl (gv_of (v := pt (aD b) 1) hg1) (hS2.cf (i := 0) rfl) rfl)) ?_
 refine sgq 13 (B := (p.Qubits == q.Qubits)) (v := pt (aD b1) 1) rfl rfl (uT_ 10) (fun hg2 => (Y_fieldAddr (B := aD b1) (i := 0) (s := 0) k_fd_70_1_1_3 k_sz_3_1 rfl rfl)) ?_
 refine sgq 14 (B := (p.Qubits == q.Qubits)) (v := vi q.Phase) rfl rfl (uT_ 10) (fun hg3 => (Y_load1 (B := aD b1) (i := 1) (cs := [vi q.Qubits, vi q.Phase, .slice B2 q.Terms.length c2, .slice B3 q.Out.Rows.length c3]) (v := vi q.Phase) k_sc_3 rfl (gv_of (v := pt (aD b1) 1) hg3) (hS2.cf (i := 1) rfl) rfl)) ?_
 refine sgq 15 (B := (p.Qubits == q.Qubits)) (v := .bool (p.Phase == q.Phase)) rfl rfl (uT_ 10) (fun hg4 => (Y_eq (k := .i64) (a := p.Phase) (b := q.Phase) rfl (gv_of (v := vi p.Phase) hg4) (gv_of (v := vi q.Phase) hg4))) ?_
 refine sQ 16 (Y_and (b := (p.Qubits == q.Qubits)) (z := (p.Phase == q.Phase)) rfl rfl rfl rfl) ?_
 refine sQ 17 (Y_move (v := .bool ((p.Qubits == q.Qubits) && (p.Phase == q.Phase))) rfl rfl) ?_
 refine sgq 18 (B := ((p.Qubits == q.Qubits) && (p.Phase == q.Phase))) (v := pt (aD b) 2) rfl rfl (uT_ 17) (fun hg5 => (Y_fieldAddr (B := aD b) (i := 0) (s := 0) k_fd_70_2_2_65 k_sz_65_1 rfl rfl)) ?_
 refine sgq 19 (B := ((p.Qubits == q.Qubits) && (p.Phase == q.Phase))) (v := .slice B p.Terms.length c) rfl rfl (uT_ 17) (fun hg6 => (Y_load1 (B := aD b) (i := 2) (cs := [vi p.Qubits, vi p.Phase, .slice B p.Terms.length c, .slice B1 p.Out.Rows.length c1]) (v := .slice B p.Terms.length c) k_sc_65 rfl (gv_of (v := pt (aD b) 2) hg6) (hS2.cf (i := 0) rfl) rfl)) ?_
 refine sgq 20 (B := ((p.Qubits == q.Qubits) && (p.Phase == q.Phase))) (v := pt (aD b1) 2) rfl rfl (uT_ 17) (fun hg7 => (Y_fieldAddr (B := aD b1) (i := 0) (s := 0) k_fd_70_2_2_65 k_sz_65_1 rfl rfl)) ?_
 refine sgq 21 (B := ((p.Qubits == q.Qubits) && (p.Phase == q.Phase))) (v := .slice B2 q.Terms.length c2) rfl rfl (uT_ 17) (fun hg8 => (Y_load1 (B := aD b1) (i := 2) (cs := [vi q.Qubits, vi q.Phase, .slice B2 q.Terms.length c2, .slice B3 q.Out.Rows.length c3]) (v := .slice B2 q.Terms.length c2) k_sc_65 rfl (gv_of (v := pt (aD b1) 2) hg8) (hS2.cf (i := 1) rfl) rfl)) ?_
 obtain ⟨r_1, hc, hF⟩ := bind_inv hF
 refine sgc 22 (B := ((p.Qubits == q.Qubits) && (p.Phase == q.Phase))) (v := .bool r_1) (F := hS2.fn) rfl rfl (uT_ 17) hS2 (fun hg9 => (Yc_func (g := 100) (vs := [.slice B p.Terms.length c, .slice B2 q.Terms.length c2]) k_call_100 rfl (mc (gv_of (v := .slice B p.Terms.length c) hg9) (mc (gv_of (v := .slice B2 q.Terms.length c2) hg9) mn)) (CV.mono (c_laws_qTerms p.Terms q.Terms B c p.Terms.length B2 c2 q.Terms.length _ rfl rfl (hS2.inn0 [(true, 0), (true, 2)] rfl) (gb_inv hc hg9)) (by rintro _ _ ⟨rfl, h⟩; exact ⟨rfl, hS2.out00 h⟩)))) ?_
 rintro w_2 hS3
 refine sQ 23 (Y_and (b := ((p.Qubits == q.Qubits) && (p.Phase == q.Phase))) (z := r_1) rfl rfl rfl rfl) ?_
 refine sQ 24 (Y_move (v := .bool (((p.Qubits == q.Qubits) && (p.Phase == q.Phase)) && r_1)) rfl rfl) ?_
 refine sgq 25 (B := (((p.Qubits == q.Qubits) && (p.Phase == q.Phase)) && r_1)) (v := pt (aD b) 3) rfl rfl (uT_ 24) (fun hg10 => (Y_fieldAddr (B := aD b) (i := 0) (s := 0) k_fd_70_3_3_68 k_sz_68_1 rfl rfl)) ?_
 refine sgq 26 (B := (((p.Qubits == q.Qubits) && (p.Phase == q.Phase)) && r_1)) (v := pt (aD b) 3) rfl rfl (uT_ 24) (fun hg11 => (Y_fieldAddr (B := aD b) (i := 3) (s := 0) k_fd_68_0_0_66 k_sz_66_1 rfl (gv_of (v := pt (aD b) 3) hg11))) ?_
 refine sgq 27 (B := (((p.Qubits == q.Qubits) && (p.Phase == q.Phase)) && r_1)) (v := .slice B1 p.Out.Rows.length c1) rfl rfl (uT_ 24) (fun hg12 => (Y_load1 (B := aD b) (i := 3) (cs := [vi p.Qubits, vi p.Phase, .slice B p.Terms.length c, .slice B1 p.Out.Rows.length c1]) (v := .slice B1 p.Out.Rows.length c1) k_sc_66 rfl (gv_of (v := pt (aD b) 3) hg12) (hS3.cf (i := 0) rfl) rfl)) ?_
 refine sgq 28 (B := (((p.Qubits == q.Qubits) && (p.Phase == q.Phase)) && r_1)) (v := pt (aD b1) 3) rfl rfl (uT_ 24) (fun hg13 => (Y_fieldAddr (B := aD b1) (i := 0) (s := 0) k_fd_70_3_3_68 k_sz_68_1 rfl rfl)) ?_
 refine sgq 29 (B := (((p.Qubits == q.Qubits) && (p.Phase == q.Phase)) && r_1)) (v := pt (aD b1) 3) rfl rfl (uT_ 24) (fun hg14 => (Y_fieldAddr (B := aD b1) (i := 3) (s := 0) k_fd_68_0_0_66 k_sz_66_1 rfl (gv_of (v := pt (aD b1) 3) hg14))) ?_
 refine sgq 30 (B := (((p.Qubits == q.Qubits) && (p.Phase == q.Phase)) && r_1)) (v := .slice B3 q.Out.Rows.length c3) rfl rfl (uT_ 24) (fun hg15 => (Y_load1 (B := aD b1) (i := 3) (cs := [vi q.Qubits, vi q.Phase, .slice B2 q.Terms.length c2, .slice B3 q.Out.Rows.length c3]) (v := .slice B3 q.Out.Rows.length c3) k_sc_66 rfl (gv_of (v := pt (aD b1) 3) hg15) (hS3.cf (i := 1) rfl) rfl)) ?_
 obtain ⟨r_2, hc1, hF⟩ := bind_inv hF
 refine sgc 31 (B := (((p.Qubits == q.Qubits) && (p.Phase == q.Phase)) && r_1)) (v := .bool r_2) (F := hS3.fn) rfl rfl (uT_ 24) hS3 (fun hg16 => (Yc_func (g := 101) (vs := [.slice B1 p.Out.Rows.length c1, .slice B3 q.Out.Rows.length c3]) k_call_101 rfl (mc (gv_of (v := .slice B1 p.Out.Rows.length c1) hg16) (mc (gv_of (v := .slice B3 q.Out.Rows.length c3) hg16) mn)) (CV.mono (c_laws_qInts p.Out.Rows q.Out.Rows B1 c1 p.Out.Rows.length B3 c3 q.Out.Rows.length _ rfl rfl (hS3.inn0 [(true, 1), (true, 3)] rfl) (gb_inv hc1 hg16)) (by rintro _ _ ⟨rfl, h⟩; exact ⟨rfl, hS3.out00 h⟩)))) ?_
 rintro w_3 hS4
 refine sQ 32 (Y_and (b := (((p.Qubits == q.Qubits) && (p.Phase == q.Phase)) && r_1)) (z := r_2) rfl rfl rfl rfl) ?_
 refine sQ 4 (Y_assign (v := .bool ((((p.Qubits == q.Qubits) && (p.Phase == q.Phase)) && r_1) && r_2)) rfl rfl) (rw_nil (cw_ret ?_))
 obtain rfl := some_inj hF
 exact ret1 Tryz.results35 (v1 := .bool ((((p.Qubits == q.Qubits) && (p.Phase == q.Phase)) && r_1) && r_2)) (resAt_tmp rfl) ⟨rfl, (hS4.sN [])⟩

theorem c_spec_l1Cur_next (c : Tl1Cur) (B : Option Addr) (B1 : Option Addr) (c1 n : Nat) (w0 : World) (hn : c.code.length = n) (hS : ST w0 (bl [⟨B, 112, [.slice B1 n c1, vi c.at_, .int .u64 c.seed], 3⟩]) w0 [⟨B, 112, [.slice B1 n c1, vi c.at_, .int .u64 c.seed], 3⟩] [⟨B1, (c.code.flatMap enc_u8)⟩]) {r_ : Int} {m : Tl1Cur} (hF : F_spec_l1Cur_next c = some (r_, m)) :
  CV Tryz.prog 154 #[pt B 0] w0 (fun v w' => v = vi r_ ∧ ST w0 (bl [⟨B, 112, [.slice B1 n c1, vi c.at_, .int .u64 c.seed], 3⟩]) w' [⟨B, 112, [.slice B1 n c1, vi m.at_, .int .u64 m.seed], 3⟩] []) := by
 subst hn
 unfold F_spec_l1Cur_next at hF
 refine cv_of_cw 62 Tryz.func154 rfl Tryz.ntmps154 rfl ?_
 refine cw_seq (cw_region ?_)
 refine sQ 2 (Y_assign (v := vi 0) rfl rfl) (rw_nil (cw_seq (cw_region ?_)))
 refine sQ 3 (Y_assign (v := vi 0) rfl rfl) (rw_nil (cw_seq ?_))
 obtain ⟨z, hz, hF1⟩ := bind_inv hF
 refine cw_mid (fun f w => ∃ (b : Int), b = z ∧ FF f [(0, pt B 0), (3, vi b)] ∧ ST w0 (bl [⟨B, 112, [.slice B1 c.code.length c1, vi c.at_, .int .u64 c.seed], 3⟩]) w [⟨B, 112, [.slice B1 c.code.length c1, vi c.at_, .int .u64 c.seed], 3⟩] [⟨B1, (c.code.flatMap enc_u8)⟩]) ?_ ?_
 ·skip
  refine cw_seq ?_
  refine ra_start (hS.se [0]).fn (by kernel_rfl) ?_
  have hS2 := hS.drew
  refine rq 0 4 (v := pt B 0) rfl (hS2.se [0]) (fun w' hw' => (Y_move (v := pt B 0) rfl rfl)) ?_
  refine rq 1 5 (v := pt B 0) rfl (hS2.se [0]) (fun w' hw' => (Y_nilCheck (B := B) (i := 0) rfl rfl)) ?_
  refine rq 2 6 (v := pt B 1) rfl (hS2.se [0]) (fun w' hw' => (Y_fieldAddr (B := B) (i := 0) (s := 0) k_fd_112_1_1_3 k_sz_3_1 rfl rfl)) ?_
  refine rq 3 7 (v := vi c.at_) rfl (hS2.se [0]) (fun w' hw' => (Y_load1 (B := B) (i := 1) (cs := [.slice B1 c.code.length c1, vi c.at_, .int .u64 c.seed]) (v := vi c.at_) k_sc_3 rfl rfl (ST.cf hw' (i := 0) rfl) rfl)) ?_
  refine rq 4 8 (v := pt B 0) rfl (hS2.se [0]) (fun w' hw' => (Y_move (v := pt B 0) rfl rfl)) ?_
  refine rq 5 9 (v := pt B 0) rfl (hS2.se [0]) (fun w' hw' => (Y_nilCheck (B := B) (i := 0) rfl rfl)) ?_
  refine rq 6 10 (v := pt B 0) rfl (hS2.se [0]) (fun w' hw' => (Y_fieldAddr (B := B) (i := 0) (s := 0) k_fd_112_0_0_29 k_sz_29_1 rfl rfl)) ?_
  refine rq 7 11 (v := .slice B1 c.code.length c1) rfl (hS2.se [0]) (fun w' hw' => (Y_load1 (B := B) (i := 0) (cs := [.slice B1 c.code.length c1, vi c.at_, .int .u64 c.seed]) (v := .slice B1 c.code.length c1) k_sc_29 rfl rfl (ST.cf hw' (i := 0) rfl) rfl)) ?_
  refine rq 8 12 (v := vi (c.code.length : Int)) rfl (hS2.se [0]) (fun w' hw' => (Y_len (B := B1) (m := c.code.length) (c := c1) k_sl_29_5 rfl rfl)) ?_
  refine rq 9 13 (v := .bool (decide (c.at_ < (c.code.length : Int)))) rfl (hS2.se [0]) (fun w' hw' => (Y_lt (k := .i64) (a := c.at_) (b := (c.code.length : Int)) rfl rfl rfl)) ?_
  refine ra_done (by kernel_rfl) ?_
  refine cw_cond (b := (decide (c.at_ < (c.code.length : Int)))) rfl (fun hb => ?_) (fun hb => ?_)
  ·skip
   have hF2 := ct hz hb
   obtain ⟨x, hx, hF2⟩ := bind_inv hF2
   refine ra_start (hS2.se [0]).fn (by kernel_rfl) ?_
   have hS3 := hS2.drew
   refine rq 0 14 (v := pt B 0) rfl (hS3.se [0]) (fun w' hw' => (Y_move (v := pt B 0) rfl rfl)) ?_
   refine rq 1 15 (v := pt B 0) rfl (hS3.se [0]) (fun w' hw' => (Y_nilCheck (B := B) (i := 0) rfl rfl)) ?_
   refine rq 2 16 (v := pt B 0) rfl (hS3.se [0]) (fun w' hw' => (Y_fieldAddr (B := B) (i := 0) (s := 0) k_fd_112_0_0_29 k_sz_29_1 rfl rfl)) ?_
   refine rq 3 17 (v := .slice B1 c.code.length c1) rfl (hS3.se [0]) (fun w' hw' => (Y_load1 (B := B) (i := 0) (cs := [.slice B1 c.code.length c1, vi c.at_, .int .u64 c.seed]) (v := .slice B1 c.code.length c1) k_sc_29 rfl rfl (ST.cf hw' (i := 0) rfl) rfl)) ?_
   refine rq 4 18 (v := pt B 0) rfl (hS3.se [0]) (fun w' hw' => (Y_move (v := pt B 0) rfl rfl)) ?_
   refine rq 5 19 (v := pt B 0) rfl (hS3.se [0]) (fun w' hw' => (Y_nilCheck (B := B) (i := 0) rfl rfl)) ?_
   refine rq 6 20 (v := pt B 1) rfl (hS3.se [0]) (fun w' hw' => (Y_fieldAddr (B := B) (i := 0) (s := 0) k_fd_112_1_1_3 k_sz_3_1 rfl rfl)) ?_
   refine rq 7 21 (v := vi c.at_) rfl (hS3.se [0]) (fun w' hw' => (Y_load1 (B := B) (i := 1) (cs := [.slice B1 c.code.length c1, vi c.at_, .int .u64 c.seed]) (v := vi c.at_) k_sc_3 rfl rfl (ST.cf hw' (i := 0) rfl) rfl)) ?_
   refine rq 8 22 (v := pt B1 (c.at_.toNat * 1)) rfl (hS3.se [0]) (fun w' hw' => (Y_index (B := B1) (m := c.code.length) (c := c1) (k := .i64) (i := c.at_) k_sl_29_5 k_sz_5_1 rfl rfl rfl (gi_isSome enc_u8_len rfl (ST.rf hw' (i := 0) rfl) hx) (getI_nn hx) (getI_ltI hx rfl))) ?_
   refine rq 9 23 (v := .int .u8 x) rfl (hS3.se [0]) (fun w' hw' => (Y_load1 (B := B1) (i := c.at_.toNat * 1) (cs := (c.code.flatMap enc_u8)) (v := .int .u8 x) k_sc_5 rfl rfl (ST.rf hw' (i := 0) rfl) (gi_at0 enc_u8_len hx rfl))) ?_
   refine rq 10 24 (v := vi (i64.wrap x)) rfl (hS3.se [0]) (fun w' hw' => (Y_conv (k := .u8) (a := x) (T := 5) (T' := 3) k_us_5 k_int_3_i64 rfl rfl)) ?_
   refine rq 11 3 (v := vi (i64.wrap x)) rfl (hS3.se [0]) (fun w' hw' => (Y_assign (v := vi (i64.wrap x)) rfl rfl)) ?_
   refine ra_done (by kernel_rfl) ?_
   exact ⟨(i64.wrap x), (some_inj hF2), (FF.cons rfl (FF.cons rfl FF.nil)), (hS3.sel [0] rfl rfl)⟩
  ·skip
   have hF3 := cf' hz hb
   refine cw_skip ?_
   exact ⟨0, (some_inj hF3), (FF.cons rfl (FF.cons rfl FF.nil)), (hS2.sel [0] rfl rfl)⟩
 rintro f w ⟨b, rfl, hf, hS1⟩
 refine cw_seq (cw_region ?_)
 refine sQ 25 (Y_move (v := pt B 0) rfl (hf.get 0 0 rfl)) ?_
 refine sQ 26 (Y_nilCheck (B := B) (i := 0) rfl rfl) ?_
 refine sQ 27 (Y_fieldAddr (B := B) (i := 0) (s := 0) k_fd_112_1_1_3 k_sz_3_1 rfl rfl) ?_
 refine sQ 28 (Y_load1 (B := B) (i := 1) (cs := [.slice B1 c.code.length c1, vi c.at_, .int .u64 c.seed]) (v := vi c.at_) k_sc_3 rfl rfl (hS1.cf (i := 0) rfl) rfl) ?_
 refine sQ 29 (Y_add (k := .i64) (a := c.at_) (b := 1) rfl rfl rfl) ?_
 refine sQ 30 (Y_nilCheck (B := B) (i := 0) rfl rfl) ?_
 refine sQ 31 (Y_fieldAddr (B := B) (i := 0) (s := 0) k_fd_112_1_1_3 k_sz_3_1 rfl rfl) ?_
 refine s0 (Ys_store (i := 0) (s := 1) (B := B) (T' := 112) (v := vi (i64.wrap (c.at_ + 1))) (vs := [vi (i64.wrap (c.at_ + 1))]) (k := 1) (cs' := [.slice B1 c.code.length c1, vi (i64.wrap (c.at_ + 1)), .int .u64 c.seed]) hS1 k_sz_3_1 rfl rfl rfl rfl rfl rfl rfl (lB rfl) rfl rfl) ?_
 rintro _ w_ ⟨rfl, hS4⟩
 refine rw_nil (cw_seq (cw_region ?_))
 refine sQ 32 (Y_move (v := pt B 0) rfl (hf.get 0 0 rfl)) ?_
 refine sQ 33 (Y_move (v := pt B 0) rfl (hf.get 0 0 rfl)) ?_
 refine sQ 34 (Y_nilCheck (B := B) (i := 0) rfl rfl) ?_
 refine sQ 35 (Y_fieldAddr (B := B) (i := 0) (s := 0) k_fd_112_2_2_110 k_sz_110_1 rfl rfl) ?_
 refine sQ 36 (Y_load1 (B := B) (i := 2) (cs := [.slice B1 c.code.length c1, vi (i64.wrap (c.at_ + 1)), .int .u64 c.seed]) (v := .int .u64 c.seed) k_sc_110 rfl rfl (hS4.cf (i := 0) rfl) rfl) ?_
 refine sQ 37 (Y_mul (k := .u64) (a := c.seed) (b := 6364136223846793005) rfl rfl rfl) ?_
 refine sQ 38 (Y_move (v := vi b) rfl (hf.get 3 1 rfl)) ?_
 refine sQ 39 (Y_conv (k := .i64) (a := b) (T := 3) (T' := 110) k_us_3 k_int_110_u64 rfl rfl) ?_
 refine sQ 40 (Y_add (k := .u64) (a := (IntKind.u64.wrap (c.seed * 6364136223846793005))) (b := (IntKind.u64.wrap b)) rfl rfl rfl) ?_
 refine sQ 41 (Y_add (k := .u64) (a := (IntKind.u64.wrap ((IntKind.u64.wrap (c.seed * 6364136223846793005)) + (IntKind.u64.wrap b)))) (b := 1442695040888963407) rfl rfl rfl) ?_
 refine sQ 42 (Y_nilCheck (B := B) (i := 0) rfl rfl) ?_
 refine sQ 43 (Y_fieldAddr (B := B) (i := 0) (s := 0) k_fd_112_2_2_110 k_sz_110_1 rfl rfl) ?_
 refine s0 (Ys_store (i := 0) (s := 1) (B := B) (T' := 112) (v := .int .u64 (IntKind.u64.wrap ((IntKind.u64.wrap ((IntKind.u64.wrap (c.seed * 6364136223846793005)) + (IntKind.u64.wrap b))) + 1442695040888963407))) (vs := [.int .u64 (IntKind.u64.wrap ((IntKind.u64.wrap ((IntKind.u64.wrap (c.seed * 6364136223846793005)) + (IntKind.u64.wrap b))) + 1442695040888963407))]) (k := 2) (cs' := [.slice B1 c.code.length c1, vi (i64.wrap (c.at_ + 1)), .int .u64 (IntKind.u64.wrap ((IntKind.u64.wrap ((IntKind.u64.wrap (c.seed * 6364136223846793005)) + (IntKind.u64.wrap b))) + 1442695040888963407))]) hS4 k_sz_110_1 rfl rfl rfl rfl rfl rfl rfl (lB rfl) rfl rfl) ?_
 rintro _ w_1 ⟨rfl, hS5⟩
 refine rw_nil (cw_seq (cw_seq ?_))
 refine ra_start (hS5.se [0]).fn (by kernel_rfl) ?_
 have hS6 := hS5.drew
 refine rq 0 44 (v := pt B 0) rfl (hS6.se [0]) (fun w' hw' => (Y_move (v := pt B 0) rfl (hf.get 0 0 rfl))) ?_
 refine rq 1 45 (v := pt B 0) rfl (hS6.se [0]) (fun w' hw' => (Y_nilCheck (B := B) (i := 0) rfl rfl)) ?_
 refine rq 2 46 (v := pt B 1) rfl (hS6.se [0]) (fun w' hw' => (Y_fieldAddr (B := B) (i := 0) (s := 0) k_fd_112_1_1_3 k_sz_3_1 rfl rfl)) ?_
 refine rq 3 47 (v := vi (i64.wrap (c.at_ + 1))) rfl (hS6.se [0]) (fun w' hw' => (Y_load1 (B := B) (i := 1) (cs := [.slice B1 c.code.length c1, vi (i64.wrap (c.at_ + 1)), .int .u64 (IntKind.u64.wrap ((IntKind.u64.wrap ((IntKind.u64.wrap (c.seed * 6364136223846793005)) + (IntKind.u64.wrap b))) + 1442695040888963407))]) (v := vi (i64.wrap (c.at_ + 1))) k_sc_3 rfl rfl (ST.cf hw' (i := 0) rfl) rfl)) ?_
 refine rq 4 48 (v := pt B 0) rfl (hS6.se [0]) (fun w' hw' => (Y_move (v := pt B 0) rfl (hf.get 0 0 rfl))) ?_
 refine rq 5 49 (v := pt B 0) rfl (hS6.se [0]) (fun w' hw' => (Y_nilCheck (B := B) (i := 0) rfl rfl)) ?_
 refine rq 6 50 (v := pt B 0) rfl (hS6.se [0]) (fun w' hw' => (Y_fieldAddr (B := B) (i := 0) (s := 0) k_fd_112_0_0_29 k_sz_29_1 rfl rfl)) ?_
 refine rq 7 51 (v := .slice B1 c.code.length c1) rfl (hS6.se [0]) (fun w' hw' => (Y_load1 (B := B) (i := 0) (cs := [.slice B1 c.code.length c1, vi (i64.wrap (c.at_ + 1)), .int .u64 (IntKind.u64.wrap ((IntKind.u64.wrap ((IntKind.u64.wrap (c.seed * 6364136223846793005)) + (IntKind.u64.wrap b))) + 1442695040888963407))]) (v := .slice B1 c.code.length c1) k_sc_29 rfl rfl (ST.cf hw' (i := 0) rfl) rfl)) ?_
 refine rq 8 52 (v := vi (c.code.length : Int)) rfl (hS6.se [0]) (fun w' hw' => (Y_len (B := B1) (m := c.code.length) (c := c1) k_sl_29_5 rfl rfl)) ?_
 refine rq 9 53 (v := .bool (decide ((i64.wrap (c.at_ + 1)) ≤ (c.code.length : Int)))) rfl (hS6.se [0]) (fun w' hw' => (Y_le (k := .i64) (a := (i64.wrap (c.at_ + 1))) (b := (c.code.length : Int)) rfl rfl rfl)) ?_
 refine ra_done (by kernel_rfl) ?_
 refine cw_cond (b := (decide ((i64.wrap (c.at_ + 1)) ≤ (c.code.length : Int)))) rfl (fun hb1 => ?_) (fun hb1 => ?_)
 ·skip
  have hF4 := ct hF1 hb1
  refine cw_seq (cw_region ?_)
  refine sQ 54 (Y_move (v := vi b) rfl (hf.get 3 1 rfl)) ?_
  refine sQ 2 (Y_assign (v := vi b) rfl rfl) (rw_nil (cw_ret ?_))
  obtain ⟨rfl, rfl⟩ := pr2 (some_inj hF4)
  exact ret1 Tryz.results154 (v1 := vi b) (resAt_tmp rfl) ⟨rfl, (hS6.sN [0])⟩
 ·skip
  have hF5 := cf' hF1 hb1
  refine cw_skip (cw_seq (cw_region ?_))
  refine sQ 55 (Y_move (v := pt B 0) rfl (hf.get 0 0 rfl)) ?_
  refine sQ 56 (Y_nilCheck (B := B) (i := 0) rfl rfl) ?_
  refine sQ 57 (Y_fieldAddr (B := B) (i := 0) (s := 0) k_fd_112_2_2_110 k_sz_110_1 rfl rfl) ?_
  refine sQ 58 (Y_load1 (B := B) (i := 2) (cs := [.slice B1 c.code.length c1, vi (i64.wrap (c.at_ + 1)), .int .u64 (IntKind.u64.wrap ((IntKind.u64.wrap ((IntKind.u64.wrap (c.seed * 6364136223846793005)) + (IntKind.u64.wrap b))) + 1442695040888963407))]) (v := .int .u64 (IntKind.u64.wrap ((IntKind.u64.wrap ((IntKind.u64.wrap (c.seed * 6364136223846793005)) + (IntKind.u64.wrap b))) + 1442695040888963407))) k_sc_110 rfl rfl (hS6.cf (i := 0) rfl) rfl) ?_
  refine sQ 59 (Y_shr (k := .u64) (a := (IntKind.u64.wrap ((IntKind.u64.wrap ((IntKind.u64.wrap (c.seed * 6364136223846793005)) + (IntKind.u64.wrap b))) + 1442695040888963407))) (k' := .u64) (b := 40) rfl rfl rfl (by decide)) ?_
  refine sQ 60 (Y_band (k := .u64) (a := (shrK .u64 (IntKind.u64.wrap ((IntKind.u64.wrap ((IntKind.u64.wrap (c.seed * 6364136223846793005)) + (IntKind.u64.wrap b))) + 1442695040888963407)) 40)) (b := 255) rfl rfl rfl) ?_
  refine sQ 61 (Y_conv (k := .u64) (a := (bits .and .u64 (shrK .u64 (IntKind.u64.wrap ((IntKind.u64.wrap ((IntKind.u64.wrap (c.seed * 6364136223846793005)) + (IntKind.u64.wrap b))) + 1442695040888963407)) 40) 255)) (T := 110) (T' := 3) k_us_110 k_int_3_i64 rfl rfl) ?_
  refine sQ 2 (Y_assign (v := vi (i64.wrap (bits .and .u64 (shrK .u64 (IntKind.u64.wrap ((IntKind.u64.wrap ((IntKind.u64.wrap (c.seed * 6364136223846793005)) + (IntKind.u64.wrap b))) + 1442695040888963407)) 40) 255))) rfl rfl) (rw_nil (cw_ret ?_))
  obtain ⟨rfl, rfl⟩ := pr2 (some_inj hF5)
  exact ret1 Tryz.results154 (v1 := vi (i64.wrap (bits .and .u64 (shrK .u64 (IntKind.u64.wrap ((IntKind.u64.wrap ((IntKind.u64.wrap (c.seed * 6364136223846793005)) + (IntKind.u64.wrap b))) + 1442695040888963407)) 40) 255))) (resAt_tmp rfl) ⟨rfl, (hS6.sN [0])⟩

theorem c_spec_l1Cur_pick (c : Tl1Cur) (n1 : Int) (B : Option Addr) (B1 : Option Addr) (c1 n : Nat) (w0 : World) (hn : c.code.length = n) (hS : ST w0 (bl [⟨B, 112, [.slice B1 n c1, vi c.at_, .int .u64 c.seed], 3⟩]) w0 [⟨B, 112, [.slice B1 n c1, vi c.at_, .int .u64 c.seed], 3⟩] [⟨B1, (c.code.flatMap enc_u8)⟩]) {r_ : Int} {m : Tl1Cur} (hF : F_spec_l1Cur_pick c n1 = some (r_, m)) :
  CV Tryz.prog 71 #[pt B 0, vi n1] w0 (fun v w' => v = vi r_ ∧ ST w0 (bl [⟨B, 112, [.slice B1 n c1, vi c.at_, .int .u64 c.seed], 3⟩]) w' [⟨B, 112, [.slice B1 n c1, vi m.at_, .int .u64 m.seed], 3⟩] []) := by
 subst hn
 unfold F_spec_l1Cur_pick at hF
 refine cv_of_cw 20 Tryz.func71 rfl Tryz.ntmps71 rfl ?_
 refine cw_seq (cw_region ?_)
 refine sQ 4 (Y_assign (v := vi 0) rfl rfl) (rw_nil (cw_seq (cw_seq (cw_region ?_))))
 refine sQ 6 (Y_move (v := vi n1) rfl rfl) ?_
 refine sQ 7 (Y_le (k := .i64) (a := n1) (b := 1) rfl rfl rfl) (rw_nil ?_)
 refine cw_cond (b := (decide (n1 ≤ 1))) rfl (fun hb => ?_) (fun hb => ?_)
 ·skip
  have hF1 := ct hF hb
  refine cw_seq (cw_region ?_)
  refine sQ 4 (Y_assign (v := vi 0) rfl rfl) (rw_nil (cw_ret ?_))
  obtain ⟨rfl, rfl⟩ := pr2 (some_inj hF1)
  exact ret1 Tryz.results71 (v1 := vi 0) (resAt_tmp rfl) ⟨rfl, (hS.sN [0])⟩
 ·skip
  have hF2 := cf' hF hb
  refine cw_skip (cw_seq (cw_region ?_))
  refine sQ 8 (Y_move (v := pt B 0) rfl rfl) ?_
  obtain ⟨⟨r_1, m1⟩, hc, hF2⟩ := bind_inv hF2
  refine sc 9 rfl rfl (Yc_func (g := 154) (vs := [pt B 0]) k_call_154 rfl (mc rfl mn) (c_spec_l1Cur_next c B B1 c1 c.code.length _ rfl (hS.inn [true] rfl [(true, 0)] rfl) hc)) ?_
  rintro _ w_ ⟨rfl, hd⟩
  have hS1 := hS.out [true] rfl hd
  refine sQ 5 (Y_assign (v := vi r_1) rfl rfl) (rw_nil (cw_seq ?_))
  obtain ⟨z, hz, hF3⟩ := bind_inv hF2
  refine cw_mid (fun f w => ∃ (at_ : Int) (seed : Int) (x : Int), (at_, seed, x) = z ∧ FF f [(1, vi n1), (5, vi x)] ∧ ST w0 (bl [⟨B, 112, [.slice B1 c.code.length c1, vi c.at_, .int .u64 c.seed], 3⟩]) w [⟨B, 112, [.slice B1 c.code.length c1, vi at_, .int .u64 seed], 3⟩] [⟨B1, (c.code.flatMap enc_u8)⟩]) ?_ ?_
  ·skip
   refine cw_seq (cw_region ?_)
   refine sQ 10 (Y_move (v := vi n1) rfl rfl) ?_
   refine sQ 11 (Y_gt (k := .i64) (a := n1) (b := 200) rfl rfl rfl) (rw_nil ?_)
   refine cw_cond (b := (decide (200 < n1))) rfl (fun hb1 => ?_) (fun hb1 => ?_)
   ·skip
    have hF4 := ct hz hb1
    refine cw_region ?_
    refine sQ 12 (Y_move (v := vi r_1) rfl rfl) ?_
    refine sQ 13 (Y_mul (k := .i64) (a := r_1) (b := 256) rfl rfl rfl) ?_
    refine sQ 14 (Y_move (v := pt B 0) rfl rfl) ?_
    obtain ⟨⟨r_2, m2⟩, hc1, hF4⟩ := bind_inv hF4
    refine sc 15 rfl rfl (Yc_func (g := 154) (vs := [pt B 0]) k_call_154 rfl (mc rfl mn) (c_spec_l1Cur_next (Tl1Cur.mk c.code m1.at_ m1.seed) B B1 c1 c.code.length _ rfl (hS1.inn [true] rfl [(true, 0)] rfl) hc1)) ?_
    rintro _ w_1 ⟨rfl, hd1⟩
    have hS3 := hS1.out [true] rfl hd1
    refine sQ 16 (Y_add (k := .i64) (a := (i64.wrap (r_1 * 256))) (b := r_2) rfl rfl rfl) ?_
    refine sQ 5 (Y_assign (v := vi (i64.wrap ((i64.wrap (r_1 * 256)) + r_2))) rfl rfl) (rw_nil ?_)
    exact ⟨m2.at_, m2.seed, (i64.wrap ((i64.wrap (r_1 * 256)) + r_2)), (some_inj hF4), (FF.cons rfl (FF.cons rfl FF.nil)), (hS3.sel [0] rfl rfl)⟩
   ·skip
    have hF5 := cf' hz hb1
    refine cw_skip ?_
    exact ⟨m1.at_, m1.seed, r_1, (some_inj hF5), (FF.cons rfl (FF.cons rfl FF.nil)), (hS1.sel [0] rfl rfl)⟩
  rintro f w ⟨at_, seed, x, rfl, hf, hS2⟩
  refine cw_seq (cw_region ?_)
  refine sQ 17 (Y_move (v := vi x) rfl (hf.get 5 1 rfl)) ?_
  refine sQ 18 (Y_move (v := vi n1) rfl (hf.get 1 0 rfl)) ?_
  obtain ⟨hne, hF3⟩ := chk_inv hF3
  refine sQ 19 (Y_rem (k := .i64) (a := x) (b := n1) rfl rfl rfl hne) ?_
  refine sQ 4 (Y_assign (v := vi (Int.tmod x n1)) rfl rfl) (rw_nil (cw_ret ?_))
  obtain ⟨rfl, rfl⟩ := pr2 (some_inj hF3)
  exact ret1 Tryz.results71 (v1 := vi (Int.tmod x n1)) (resAt_tmp rfl) ⟨rfl, (hS2.sN [0])⟩

theorem c_spec_l1Cur_one (c : Tl1Cur) (n1 : Int) (B : Option Addr) (B1 : Option Addr) (c1 n : Nat) (w0 : World) (hn : c.code.length = n) (hS : ST w0 (bl [⟨B, 112, [.slice B1 n c1, vi c.at_, .int .u64 c.seed], 3⟩]) w0 [⟨B, 112, [.slice B1 n c1, vi c.at_, .int .u64 c.seed], 3⟩] [⟨B1, (c.code.flatMap enc_u8)⟩]) {r_ : Bool} {m : Tl1Cur} (hF : F_spec_l1Cur_one c n1 = some (r_, m)) :
  CV Tryz.prog 90 #[pt B 0, vi n1] w0 (fun v w' => v = .bool r_ ∧ ST w0 (bl [⟨B, 112, [.slice B1 n c1, vi c.at_, .int .u64 c.seed], 3⟩]) w' [⟨B, 112, [.slice B1 n c1, vi m.at_, .int .u64 m.seed], 3⟩] []) := by
 subst hn
 unfold F_spec_l1Cur_one at hF
 refine cv_of_cw 9 Tryz.func90 rfl Tryz.ntmps90 rfl ?_
 refine cw_seq (cw_region ?_)
 refine sQ 4 (Y_assign (v := .bool false) rfl rfl) (rw_nil (cw_seq (cw_region ?_)))
 refine sQ 5 (Y_move (v := pt B 0) rfl rfl) ?_
 refine sQ 6 (Y_move (v := vi n1) rfl rfl) ?_
 obtain ⟨⟨r_1, m1⟩, hc, hF⟩ := bind_inv hF
 refine sc 7 rfl rfl (Yc_func (g := 71) (vs := [pt B 0, vi n1]) k_call_71 rfl (mc rfl (mc rfl mn)) (c_spec_l1Cur_pick c n1 B B1 c1 c.code.length _ rfl (hS.inn [true] rfl [(true, 0)] rfl) hc)) ?_
 rintro _ w_ ⟨rfl, hd⟩
 have hS1 := hS.out [true] rfl hd
 refine sQ 8 (Y_eq (k := .i64) (a := r_1) (b := 0) rfl rfl rfl) ?_
 refine sQ 4 (Y_assign (v := .bool (r_1 == 0)) rfl rfl) (rw_nil (cw_ret ?_))
 obtain ⟨rfl, rfl⟩ := pr2 (some_inj hF)
 exact ret1 Tryz.results90 (v1 := .bool (r_1 == 0)) (resAt_tmp rfl) ⟨rfl, (hS1.sN [0])⟩

theorem c_spec_l13List (by_ : List Int) (B : Option Addr) (c n : Nat) (w0 : World) (hn : by_.length = n) (hS : ST w0 [] w0 [] [⟨B, (by_.flatMap encI)⟩]) {r_ : List TTerm} (hF : F_spec_l13List by_ = some r_) :
  CV Tryz.prog 99 #[.slice B n c] w0 (fun v w' => ∃ (B1 : Option Addr) (c1 : Nat), v = .slice B1 r_.length c1 ∧ ST w0 [] w' [⟨B1, 136, (r_.flatMap eN0), c1 * 2⟩] []) := by
 subst hn
 unfold F_spec_l13List at hF
 refine cv_of_cw 31 Tryz.func99 rfl Tryz.ntmps99 rfl ?_
 refine cw_seq (cw_region ?_)
 refine sQ 2 (Y_assign (v := .slice none 0 0) rfl rfl) (rw_nil (cw_seq (cw_region ?_)))
 refine sQ 3 (Y_assign (v := .slice none 0 0) rfl rfl) (rw_nil (cw_seq (cw_seq (cw_region ?_))))
 refine sQ 6 (Y_move (v := .slice B by_.length c) rfl rfl) ?_
 refine sQ 7 (Y_len (B := B) (m := by_.length) (c := c) k_sl_66_3 rfl rfl) ?_
 refine sQ 8 (Y_move (v := vi 0) rfl rfl) (rw_nil ?_)
 obtain ⟨hN, hF⟩ := chk_inv hF
 obtain ⟨z, hz, hF1⟩ := bind_inv hF
 have hS2 := hS.addNil 136
 refine cw_block ?_
 refine cw_loop (fun k f w => ∃ (i : Nat) (out : List TTerm) (B2 : Option Addr) (c2 : Nat), FF f [(3, .slice B2 out.length c2), (6, .slice B by_.length c), (7, vi (by_.length : Int)), (8, vi (i : Int))] ∧ ST w0 [] w [⟨B2, 136, (out.flatMap eN0), c2 * 2⟩] [⟨B, (by_.flatMap encI)⟩] ∧ i + k = by_.length ∧ forN (F_spec_l13List_l1 by_) k i out = some z) by_.length ⟨0, [], none, 0, (FF.cons rfl (FF.cons rfl (FF.cons rfl (FF.cons rfl FF.nil)))), (hS2.sel [0] rfl rfl), Nat.zero_add _, hz⟩ ?_
 rintro k_ f w ⟨i, out, B2, c2, hf, hS1, hik, hL⟩
 refine cw_seq (cw_region ?_)
 refine sQ 9 (Y_lt (k := .i64) (a := (i : Int)) (b := (by_.length : Int)) rfl (hf.get 8 3 rfl) (hf.get 7 2 rfl)) (rw_nil (cw_seq ?_))
 refine cw_cond (b := (decide ((i : Int) < (by_.length : Int)))) rfl (fun hlt => ?_) (fun hlt => ?_)
 ·skip
  have hlt1 : i < by_.length := by have h := of_decide_eq_true hlt; omega
  obtain ⟨k_1, rfl⟩ : ∃ k2, k_ = k2 + 1 := ⟨k_ - 1, by omega⟩
  obtain ⟨y, hb, hL1⟩ := forN_go hL
  unfold F_spec_l13List_l1 at hb
  refine cw_skip (cw_seq ?_)
  obtain ⟨z1, hz1, hF2⟩ := bind_inv hb
  refine cw_mid (fun f w => ∃ (out1 : List TTerm) (B3 : Option Addr) (c3 : Nat), out1 = z1 ∧ FF f [(3, .slice B3 out1.length c3), (6, .slice B by_.length c), (7, vi (by_.length : Int)), (8, vi (i : Int))] ∧ ST w0 [] w [⟨B3, 136, (out1.flatMap eN0), c3 * 2⟩] [⟨B, (by_.flatMap encI)⟩]) ?_ ?_
  ·skip
   refine cw_block (cw_seq (cw_region ?_))
   refine sQ 10 (Y_move (v := vi (i : Int)) rfl (hf.get 8 3 rfl)) ?_
   obtain ⟨x, hx, hz1⟩ := bind_inv hz1
   refine sQ 11 (Y_index (B := B) (m := by_.length) (c := c) (k := .i64) (i := (i : Int)) k_sl_66_3 k_sz_3_1 rfl (hf.get 6 1 rfl) (hf.get 8 3 rfl) (gi_isSome encI_len rfl (hS1.rf (i := 0) rfl) hx) (getI_nn hx) (getI_ltI hx rfl)) ?_
   refine sQ 12 (Y_load1 (B := B) (i := (i : Int).toNat * 1) (cs := (by_.flatMap encI)) (v := vi x) k_sc_3 rfl rfl (hS1.rf (i := 0) rfl) (gi_at0 encI_len hx rfl)) ?_
   refine sQ 4 (Y_assign (v := vi (i : Int)) rfl rfl) ?_
   refine sQ 5 (Y_assign (v := vi x) rfl rfl) (rw_nil (cw_seq (cw_region ?_)))
   refine sQ 13 (Y_move (v := vi x) rfl rfl) ?_
   refine sQ 14 (Y_rem (k := .i64) (a := x) (b := 8) rfl rfl rfl (by decide)) ?_
   refine sQ 15 (Y_add (k := .i64) (a := (Int.tmod x 8)) (b := 8) rfl rfl rfl) ?_
   refine sQ 16 (Y_rem (k := .i64) (a := (i64.wrap ((Int.tmod x 8) + 8))) (b := 8) rfl rfl rfl (by decide)) ?_
   refine sQ 5 (Y_assign (v := vi (Int.tmod (i64.wrap ((Int.tmod x 8) + 8)) 8)) rfl rfl) (rw_nil (cw_seq (cw_region ?_)))
   refine sQ 17 (Y_move (v := vi (i : Int)) rfl rfl) ?_
   refine sQ 18 (Y_gt (k := .i64) (a := (i : Int)) (b := 0) rfl rfl rfl) ?_
   refine sQ 19 (Y_move (v := .bool (decide (0 < (i : Int)))) rfl rfl) ?_
   refine sgq 20 (B := (decide (0 < (i : Int)))) (v := vi (Int.tmod (i64.wrap ((Int.tmod x 8) + 8)) 8)) rfl rfl (uT_ 19) (fun hg => (Y_move (v := vi (Int.tmod (i64.wrap ((Int.tmod x 8) + 8)) 8)) rfl rfl)) ?_
   refine sgq 21 (B := (decide (0 < (i : Int)))) (v := .bool (decide (0 < (Int.tmod (i64.wrap ((Int.tmod x 8) + 8)) 8)))) rfl rfl (uT_ 19) (fun hg1 => (Y_gt (k := .i64) (a := (Int.tmod (i64.wrap ((Int.tmod x 8) + 8)) 8)) (b := 0) rfl (gv_of (v := vi (Int.tmod (i64.wrap ((Int.tmod x 8) + 8)) 8)) hg1) rfl)) ?_
   refine sQ 22 (Y_and (b := (decide (0 < (i : Int)))) (z := (decide (0 < (Int.tmod (i64.wrap ((Int.tmod x 8) + 8)) 8)))) rfl rfl rfl rfl) (rw_nil ?_)
   refine cw_cond (b := ((decide (0 < (i : Int))) && (decide (0 < (Int.tmod (i64.wrap ((Int.tmod x 8) + 8)) 8))))) rfl (fun hb1 => ?_) (fun hb1 => ?_)
   ·skip
    have hF3 := ct hz1 hb1
    refine cw_region ?_
    refine sQ 23 (Y_move (v := .slice B2 out.length c2) rfl (hf.get 3 0 rfl)) ?_
    refine sQ 24 (Y_move (v := vi (i : Int)) rfl rfl) ?_
    refine sQ 25 (Y_move (v := vi (Int.tmod (i64.wrap ((Int.tmod x 8) + 8)) 8)) rfl rfl) ?_
    refine sQ 26 (Y_buildS (zs := [vi 0, vi 0]) (vs := [(0, vi (i : Int)), (1, vi (Int.tmod (i64.wrap ((Int.tmod x 8) + 8)) 8))]) (cs := [vi (i : Int), vi (Int.tmod (i64.wrap ((Int.tmod x 8) + 8)) 8)]) k_pl_136 k_zero_136 rfl (mpc rfl (mpc rfl mpn)) rfl) ?_
    refine sS 27 (Ys_bslice (s := 2) (len := 1) (vs := [(0, .agg #[vi (i : Int), vi (Int.tmod (i64.wrap ((Int.tmod x 8) + 8)) 8)])]) (cs := [vi (i : Int), vi (Int.tmod (i64.wrap ((Int.tmod x 8) + 8)) 8)]) (zs := [vi 0, vi 0]) (m := 2) hS1 k_sl_65_136 k_sz_136_2 k_zc_136 rfl (mpc rfl mpn) rfl rfl rfl (by kernel_rfl) (by kernel_rfl) rfl) ?_
    rintro _ w_ ⟨b, rfl, hS4⟩
    obtain ⟨hap, hF3⟩ := chk_inv hF3
    refine sS 28 (Ys_append (s := 2) (by' := 16) (i := 0) (nn := out.length) (c := c2) (k := 1) (len := (out ++ [(TTerm.mk (i : Int) (Int.tmod (i64.wrap ((Int.tmod x 8) + 8)) 8))]).length) (B := B2) (xs := ([(TTerm.mk (i : Int) (Int.tmod (i64.wrap ((Int.tmod x 8) + 8)) 8))].flatMap eN0)) (cs' := ((out ++ [(TTerm.mk (i : Int) (Int.tmod (i64.wrap ((Int.tmod x 8) + 8)) 8))]).flatMap eN0)) hS4 k_sl_65_136 k_sz_136_2 k_by_136_16 k_zero_136 rfl (by decide) rfl rfl rfl rfl (fm_lenn (l := out) eN1 rfl) rfl (hS4.cf (i := 1) rfl) (fm_lenn (l := [(TTerm.mk (i : Int) (Int.tmod (i64.wrap ((Int.tmod x 8) + 8)) 8))]) eN1 rfl) (fm_one' (enc := eN0) enc_Term_one [(TTerm.mk (i : Int) (Int.tmod (i64.wrap ((Int.tmod x 8) + 8)) 8))]) (by have := hap; omega) (by have := hap; simp only [maxLen]; omega) (fm_app _ _) (app_len (l := out) (l' := [(TTerm.mk (i : Int) (Int.tmod (i64.wrap ((Int.tmod x 8) + 8)) 8))]) rfl rfl)) ?_
    rintro _ w_1 ⟨B4, c4, rfl, hS5⟩
    refine sQ 3 (Y_assign (v := .slice B4 ((out ++ [(TTerm.mk (i : Int) (Int.tmod (i64.wrap ((Int.tmod x 8) + 8)) 8))]).length) c4) rfl rfl) (rw_nil ?_)
    exact ⟨(out ++ [(TTerm.mk (i : Int) (Int.tmod (i64.wrap ((Int.tmod x 8) + 8)) 8))]), B4, c4, (some_inj hF3), (FF.cons rfl (FF.cons (hf.get 6 1 rfl) (FF.cons (hf.get 7 2 rfl) (FF.cons (hf.get 8 3 rfl) FF.nil)))), (hS5.sel [0] rfl rfl)⟩
   ·skip
    have hF4 := cf' hz1 hb1
    refine cw_skip ?_
    exact ⟨out, B2, c2, (some_inj hF4), (FF.cons (hf.get 3 0 rfl) (FF.cons (hf.get 6 1 rfl) (FF.cons (hf.get 7 2 rfl) (FF.cons (hf.get 8 3 rfl) FF.nil)))), (hS1.sel [0] rfl rfl)⟩
  rintro f w ⟨out1, B3, c3, rfl, hf1, hS3⟩
  refine cw_region ?_
  refine sQ 29 (Y_add (k := .i64) (a := (i : Int)) (b := 1) rfl (hf1.get 8 3 rfl) rfl) ?_
  refine sQ 8 (Y_move (v := vi (i64.wrap ((i : Int) + 1))) rfl rfl) (rw_nil ?_)
  obtain rfl := some_inj hF2
  exact ⟨k_1, Nat.lt_succ_self _, i + 1, out1, B3, c3, (FF.cons (hf1.get 3 0 rfl) (FF.cons (hf1.get 6 1 rfl) (FF.cons (hf1.get 7 2 rfl) (FF.cons (congrArg (Value.int .i64) (wr_succ hlt1 hN)) FF.nil)))), (hS3.sel [0] rfl rfl), (by omega), hL1⟩
 ·skip
  obtain rfl : k_ = 0 := by have h := of_decide_eq_false hlt; omega
  refine cw_exit rfl ?_
  obtain rfl := some_inj hL
  refine cw_seq (cw_region ?_)
  refine sQ 30 (Y_move (v := .slice B2 out.length c2) rfl (hf.get 3 0 rfl)) ?_
  refine sQ 2 (Y_assign (v := .slice B2 out.length c2) rfl rfl) (rw_nil (cw_ret ?_))
  obtain rfl := some_inj hF1
  exact ret1 Tryz.results99 (v1 := .slice B2 out.length c2) (resAt_tmp rfl) ⟨B2, c2, rfl, (hS1.sN [0])⟩

theorem c_spec_l1Put (l : List Int) (n1 : Int) (B : Option Addr) (c n : Nat) (w0 : World) (hn : l.length = n) (hS : ST w0 (bl [⟨B, 3, (l.flatMap encI), c * 1⟩]) w0 [⟨B, 3, (l.flatMap encI), c * 1⟩] []) {r_ : List Int} (hF : F_spec_l1Put l n1 = some r_) :
  CV Tryz.prog 133 #[.slice B n c, vi n1] w0 (fun v w' => ∃ (B1 : Option Addr) (c1 : Nat), v = .slice B1 r_.length c1 ∧ ST w0 (bl [⟨B, 3, (l.flatMap encI), c * 1⟩]) w' [⟨B1, 3, (r_.flatMap encI), c1 * 1⟩] []) := by
 subst hn
 unfold F_spec_l1Put at hF
 refine cv_of_cw 48 Tryz.func133 rfl Tryz.ntmps133 rfl ?_
 refine cw_seq (cw_region ?_)
 refine sQ 4 (Y_assign (v := .slice none 0 0) rfl rfl) (rw_nil (cw_seq (cw_region ?_)))
 refine sQ 5 (Y_assign (v := vi 0) rfl rfl) (rw_nil (cw_seq ?_))
 obtain ⟨z, hz, hF1⟩ := bind_inv hF
 refine cw_block ?_
 refine cw_loop (fun k f w => ∃ (k_ : Int), FF f [(0, .slice B l.length c), (1, vi n1), (5, vi k_)] ∧ ST w0 (bl [⟨B, 3, (l.flatMap encI), c * 1⟩]) w [⟨B, 3, (l.flatMap encI), c * 1⟩] [] ∧ whX (F_spec_l1Put_l1 l n1) k k_ = some z) fuel ⟨0, (FF.cons rfl (FF.cons rfl (FF.cons rfl FF.nil))), (hS.sel [0] rfl rfl), hz⟩ ?_
 rintro k_1 f w ⟨k_, hf, hS1, hL⟩
 obtain ⟨k_2, y, rfl, hb, hL1⟩ := whX_go hL
 unfold F_spec_l1Put_l1 at hb
 refine cw_seq (cw_seq (cw_region ?_))
 refine sQ 7 (Y_move (v := vi k_) rfl (hf.get 5 2 rfl)) ?_
 refine sQ 8 (Y_move (v := .slice B l.length c) rfl (hf.get 0 0 rfl)) ?_
 refine sQ 9 (Y_len (B := B) (m := l.length) (c := c) k_sl_66_3 rfl rfl) ?_
 refine sQ 10 (Y_lt (k := .i64) (a := k_) (b := (l.length : Int)) rfl rfl rfl) ?_
 refine sQ 11 (Y_move (v := .bool (decide (k_ < (l.length : Int)))) rfl rfl) ?_
 refine sgq 12 (B := (decide (k_ < (l.length : Int)))) (v := .slice B l.length c) rfl rfl (uT_ 11) (fun hg => (Y_move (v := .slice B l.length c) rfl (hf.get 0 0 rfl))) ?_
 refine sgq 13 (B := (decide (k_ < (l.length : Int)))) (v := vi k_) rfl rfl (uT_ 11) (fun hg1 => (Y_move (v := vi k_) rfl (hf.get 5 2 rfl))) ?_
 obtain ⟨x, hx, hb⟩ := bind_inv hb
 refine sgq 14 (B := (decide (k_ < (l.length : Int)))) (v := pt B (k_.toNat * 1)) rfl rfl (uT_ 11) (fun hg2 => (Y_index (B := B) (m := l.length) (c := c) (k := .i64) (i := k_) k_sl_66_3 k_sz_3_1 rfl (gv_of (v := .slice B l.length c) hg2) (gv_of (v := vi k_) hg2) (gi_isSome encI_len rfl (hS1.cf (i := 0) rfl) (gb_inv hx hg2)) (getI_nn (gb_inv hx hg2)) (getI_ltI (gb_inv hx hg2) rfl))) ?_
 refine sgq 15 (B := (decide (k_ < (l.length : Int)))) (v := vi x) rfl rfl (uT_ 11) (fun hg3 => (Y_load1 (B := B) (i := k_.toNat * 1) (cs := (l.flatMap encI)) (v := vi x) k_sc_3 rfl (gv_of (v := pt B (k_.toNat * 1)) hg3) (hS1.cf (i := 0) rfl) (gi_at0 encI_len (gb_inv hx hg3) rfl))) ?_
 refine sgq 16 (B := (decide (k_ < (l.length : Int)))) (v := vi n1) rfl rfl (uT_ 11) (fun hg4 => (Y_move (v := vi n1) rfl (hf.get 1 1 rfl))) ?_
 refine sgq 17 (B := (decide (k_ < (l.length : Int)))) (v := .bool (decide (x < n1))) rfl rfl (uT_ 11) (fun hg5 => (Y_lt (k := .i64) (a := x) (b := n1) rfl (gv_of (v := vi x) hg5) (gv_of (v := vi n1) hg5))) ?_
 refine sQ 18 (Y_and (b := (decide (k_ < (l.length : Int)))) (z := (decide (x < n1))) rfl rfl rfl rfl) (rw_nil ?_)
 refine cw_cond (b := ((decide (k_ < (l.length : Int))) && (decide (x < n1)))) rfl (fun hb1 => ?_) (fun hb1 => ?_)
 ·skip
  have hF2 := ct hb hb1
  refine cw_skip (cw_block (cw_region ?_))
  refine sQ 19 (Y_move (v := vi k_) rfl (hf.get 5 2 rfl)) ?_
  refine sQ 20 (Y_add (k := .i64) (a := k_) (b := 1) rfl rfl rfl) ?_
  refine sQ 5 (Y_assign (v := vi (i64.wrap (k_ + 1))) rfl rfl) (rw_nil ?_)
  obtain rfl := some_inj hF2
  exact ⟨k_2, Nat.lt_succ_self _, (i64.wrap (k_ + 1)), (FF.cons (hf.get 0 0 rfl) (FF.cons (hf.get 1 1 rfl) (FF.cons rfl FF.nil))), (hS1.sel [0] rfl rfl), hL1⟩
 ·skip
  have hF3 := cf' hb hb1
  refine cw_exit rfl ?_
  obtain rfl := some_inj hF3
  obtain rfl := some_inj hL1
  refine cw_seq (cw_seq (cw_region ?_))
  refine sQ 21 (Y_move (v := vi k_) rfl (hf.get 5 2 rfl)) ?_
  refine sQ 22 (Y_move (v := .slice B l.length c) rfl (hf.get 0 0 rfl)) ?_
  refine sQ 23 (Y_len (B := B) (m := l.length) (c := c) k_sl_66_3 rfl rfl) ?_
  refine sQ 24 (Y_lt (k := .i64) (a := k_) (b := (l.length : Int)) rfl rfl rfl) ?_
  refine sQ 25 (Y_move (v := .bool (decide (k_ < (l.length : Int)))) rfl rfl) ?_
  refine sgq 26 (B := (decide (k_ < (l.length : Int)))) (v := .slice B l.length c) rfl rfl (uT_ 25) (fun hg6 => (Y_move (v := .slice B l.length c) rfl (hf.get 0 0 rfl))) ?_
  refine sgq 27 (B := (decide (k_ < (l.length : Int)))) (v := vi k_) rfl rfl (uT_ 25) (fun hg7 => (Y_move (v := vi k_) rfl (hf.get 5 2 rfl))) ?_
  obtain ⟨x1, hx1, hF1⟩ := bind_inv hF1
  refine sgq 28 (B := (decide (k_ < (l.length : Int)))) (v := pt B (k_.toNat * 1)) rfl rfl (uT_ 25) (fun hg8 => (Y_index (B := B) (m := l.length) (c := c) (k := .i64) (i := k_) k_sl_66_3 k_sz_3_1 rfl (gv_of (v := .slice B l.length c) hg8) (gv_of (v := vi k_) hg8) (gi_isSome encI_len rfl (hS1.cf (i := 0) rfl) (gb_inv hx1 hg8)) (getI_nn (gb_inv hx1 hg8)) (getI_ltI (gb_inv hx1 hg8) rfl))) ?_
  refine sgq 29 (B := (decide (k_ < (l.length : Int)))) (v := vi x1) rfl rfl (uT_ 25) (fun hg9 => (Y_load1 (B := B) (i := k_.toNat * 1) (cs := (l.flatMap encI)) (v := vi x1) k_sc_3 rfl (gv_of (v := pt B (k_.toNat * 1)) hg9) (hS1.cf (i := 0) rfl) (gi_at0 encI_len (gb_inv hx1 hg9) rfl))) ?_
  refine sgq 30 (B := (decide (k_ < (l.length : Int)))) (v := vi n1) rfl rfl (uT_ 25) (fun hg10 => (Y_move (v := vi n1) rfl (hf.get 1 1 rfl))) ?_
  refine sgq 31 (B := (decide (k_ < (l.length : Int)))) (v := .bool (x1 == n1)) rfl rfl (uT_ 25) (fun hg11 => (Y_eq (k := .i64) (a := x1) (b := n1) rfl (gv_of (v := vi x1) hg11) (gv_of (v := vi n1) hg11))) ?_
  refine sQ 32 (Y_and (b := (decide (k_ < (l.length : Int)))) (z := (x1 == n1)) rfl rfl rfl rfl) (rw_nil ?_)
  refine cw_cond (b := ((decide (k_ < (l.length : Int))) && (x1 == n1))) rfl (fun hb2 => ?_) (fun hb2 => ?_)
  ·skip
   have hF4 := ct hF1 hb2
   refine cw_seq (cw_region ?_)
   refine sQ 33 (Y_move (v := .slice B l.length c) rfl (hf.get 0 0 rfl)) ?_
   refine sQ 4 (Y_assign (v := .slice B l.length c) rfl rfl) (rw_nil (cw_ret ?_))
   obtain rfl := some_inj hF4
   exact ret1 Tryz.results133 (v1 := .slice B l.length c) (resAt_tmp rfl) ⟨B, c, rfl, (hS1.sN [0])⟩
  ·skip
   have hF5 := cf' hF1 hb2
   refine cw_skip (cw_seq (cw_region ?_))
   refine sS 34 (Ys_bslice0 (s := 1) (e := 3) hS1 k_sl_66_3 k_sz_3_1 rfl) ?_
   rintro _ w_ ⟨b, rfl, hS2⟩
   refine sQ 35 (Y_move (v := .slice B l.length c) rfl (hf.get 0 0 rfl)) ?_
   refine sQ 36 (Y_move (v := vi k_) rfl (hf.get 5 2 rfl)) ?_
   obtain ⟨hsl, hF5⟩ := chk_inv hF5
   have hcap : l.length ≤ c := (hS2.lencap (i := 0) rfl (fm_lenn (l := l) encI_len rfl) rfl rfl)
   have ho1 : Org w0 (bl [⟨B, 3, (l.flatMap encI), c * 1⟩]) [] [⟨B, (l.flatMap encI)⟩] := ST.orgOwn hS2 (i := 0) rfl
   have hcap1 : l.length ≤ c := (hS2.lencap (i := 0) rfl (fm_lenn (l := l) encI_len rfl) rfl rfl)
   have hS3 : ST w0 (bl [⟨B, 3, (l.flatMap encI), c * 1⟩]) _ [⟨aD b, 3, ([].flatMap encI), 0 * 1⟩] [⟨B, (l.flatMap encI)⟩] := hS2.freeze (i := 0) rfl
   have hv : (List.take k_.toNat l).length = k_.toNat := (take_len rfl (by omega))
   have hq : k_.toNat ≤ c := by omega
   have ho : Org w0 (bl [⟨B, 3, (l.flatMap encI), c * 1⟩]) [] [⟨B, ((List.take k_.toNat l).flatMap encI)⟩] := org_view encI_len (q := c) ho1 (sv_zero _ _ _).symm rfl
   have hS4 : ST w0 (bl [⟨B, 3, (l.flatMap encI), c * 1⟩]) _ [⟨aD b, 3, ([].flatMap encI), 0 * 1⟩] [⟨B, ((List.take k_.toNat l).flatMap encI)⟩, ⟨B, (l.flatMap encI)⟩] := ST.view encI_len hS3 (i := 0) rfl (lo := 0) (h := k_.toNat) (q := c) (by omega) (by omega) (sv_zero _ _ _).symm rfl
   refine sQ 37 (Y_slice0 (B := B) (m := l.length) (c := c) (h := k_.toNat) (s := 1) k_sl_66_3 k_sz_3_1 rfl rfl (bnd_some rfl (nn_toNat (by omega))) (by omega)) ?_
   obtain ⟨hap, hF5⟩ := chk_inv hF5
   refine sS 38 (Ys_append (s := 1) (by' := 8) (i := 0) (nn := 0) (c := 0) (k := k_.toNat) (len := (List.take k_.toNat l).length) (B := aD b) (xs := ((List.take k_.toNat l).flatMap encI)) (cs' := ((List.take k_.toNat l).flatMap encI)) hS4 k_sl_66_3 k_sz_3_1 k_by_3_8 k_zero_3 rfl (by decide) rfl rfl rfl rfl (fm_lenn (l := []) encI_len rfl) rfl (hS4.rf (i := 0) rfl) (fm_lenn (l := (List.take k_.toNat l)) encI_len hv) (fm_one' (enc := encI) encI_one (List.take k_.toNat l)) (by have := hap; omega) (by have := hap; simp only [maxLen]; omega) rfl (app_len0 (l := (List.take k_.toNat l)) hv)) ?_
   rintro _ w_1 ⟨B2, c2, rfl, hS5⟩
   refine sQ 6 (Y_assign (v := .slice B2 ((List.take k_.toNat l).length) c2) rfl rfl) (rw_nil (cw_seq (cw_region ?_)))
   refine sQ 39 (Y_move (v := .slice B2 ((List.take k_.toNat l).length) c2) rfl rfl) ?_
   refine sQ 40 (Y_move (v := vi n1) rfl (hf.get 1 1 rfl)) ?_
   refine sS 41 (Ys_bslice (s := 1) (len := 1) (vs := [(0, vi n1)]) (cs := [vi n1]) (zs := [vi 0]) (m := 1) hS5 k_sl_66_3 k_sz_3_1 k_zc_3 rfl (mpc rfl mpn) rfl rfl rfl (by kernel_rfl) (by kernel_rfl) rfl) ?_
   rintro _ w_2 ⟨b1, rfl, hS6⟩
   obtain ⟨hap1, hF5⟩ := chk_inv hF5
   refine sS 42 (Ys_append (s := 1) (by' := 8) (i := 0) (nn := (List.take k_.toNat l).length) (c := c2) (k := 1) (len := ((List.take k_.toNat l) ++ [n1]).length) (B := B2) (xs := ([n1].flatMap encI)) (cs' := (((List.take k_.toNat l) ++ [n1]).flatMap encI)) hS6 k_sl_66_3 k_sz_3_1 k_by_3_8 k_zero_3 rfl (by decide) rfl rfl rfl rfl (fm_lenn (l := (List.take k_.toNat l)) encI_len rfl) rfl (hS6.cf (i := 1) rfl) (fm_lenn (l := [n1]) encI_len rfl) (fm_one' (enc := encI) encI_one [n1]) (by have := hap1; omega) (by have := hap1; simp only [maxLen]; omega) (fm_app _ _) (app_len (l := (List.take k_.toNat l)) (l' := [n1]) rfl rfl)) ?_
   rintro _ w_3 ⟨B3, c3, rfl, hS7⟩
   refine sQ 6 (Y_assign (v := .slice B3 (((List.take k_.toNat l) ++ [n1]).length) c3) rfl rfl) (rw_nil (cw_seq (cw_region ?_)))
   refine sQ 43 (Y_move (v := .slice B3 (((List.take k_.toNat l) ++ [n1]).length) c3) rfl rfl) ?_
   refine sQ 44 (Y_move (v := .slice B l.length c) rfl (hf.get 0 0 rfl)) ?_
   refine sQ 45 (Y_move (v := vi k_) rfl (hf.get 5 2 rfl)) ?_
   obtain ⟨hsl1, hF5⟩ := chk_inv hF5
   have hcap2 : l.length ≤ c := hcap1
   have hv1 : (List.drop k_.toNat l).length = (l.length - k_.toNat) := (drop_len rfl)
   have hq1 : (l.length - k_.toNat) ≤ (c - k_.toNat) := by omega
   have ho2 : Org w0 (bl [⟨B, 3, (l.flatMap encI), c * 1⟩]) [] [⟨(sv B k_.toNat c 1), ((List.drop k_.toNat l).flatMap encI)⟩] := org_view encI_len (q := c) ho1 rfl (take_all rfl _)
   have hS8 : ST w0 (bl [⟨B, 3, (l.flatMap encI), c * 1⟩]) _ [⟨B3, 3, (((List.take k_.toNat l) ++ [n1]).flatMap encI), c3 * 1⟩, ⟨aD b1, 3, ([n1].flatMap encI), 1 * 1⟩] [⟨(sv B k_.toNat c 1), ((List.drop k_.toNat l).flatMap encI)⟩, ⟨B, ((List.take k_.toNat l).flatMap encI)⟩, ⟨B, (l.flatMap encI)⟩] := ST.view encI_len hS7 (i := 1) rfl (lo := k_.toNat) (h := l.length) (q := c) (by omega) (by omega) rfl (take_all rfl _)
   refine sQ 46 (Y_slice1 (B := B) (m := l.length) (c := c) (l := k_.toNat) (h := l.length) (s := 1) k_sl_66_3 k_sz_3_1 rfl rfl rfl (bnd_some rfl (nn_toNat (by omega))) (by omega) (by omega)) ?_
   obtain ⟨hap2, hF5⟩ := chk_inv hF5
   refine sS 47 (Ys_append (s := 1) (by' := 8) (i := 0) (nn := ((List.take k_.toNat l) ++ [n1]).length) (c := c3) (k := (l.length - k_.toNat)) (len := (((List.take k_.toNat l) ++ [n1]) ++ (List.drop k_.toNat l)).length) (B := B3) (xs := ((List.drop k_.toNat l).flatMap encI)) (cs' := ((((List.take k_.toNat l) ++ [n1]) ++ (List.drop k_.toNat l)).flatMap encI)) hS8 k_sl_66_3 k_sz_3_1 k_by_3_8 k_zero_3 rfl (by decide) rfl rfl rfl rfl (fm_lenn (l := ((List.take k_.toNat l) ++ [n1])) encI_len rfl) rfl (hS8.rf (i := 0) rfl) (fm_lenn (l := (List.drop k_.toNat l)) encI_len hv1) (fm_one' (enc := encI) encI_one (List.drop k_.toNat l)) (by have := hap2; omega) (by have := hap2; simp only [maxLen]; omega) (fm_app _ _) (app_len (l := ((List.take k_.toNat l) ++ [n1])) (l' := (List.drop k_.toNat l)) rfl hv1)) ?_
   rintro _ w_4 ⟨B4, c4, rfl, hS9⟩
   refine sQ 4 (Y_assign (v := .slice B4 ((((List.take k_.toNat l) ++ [n1]) ++ (List.drop k_.toNat l)).length) c4) rfl rfl) (rw_nil (cw_ret ?_))
   obtain rfl := some_inj hF5
   exact ret1 Tryz.results133 (v1 := .slice B4 ((((List.take k_.toNat l) ++ [n1]) ++ (List.drop k_.toNat l)).length) c4) (resAt_tmp rfl) ⟨B4, c4, rfl, (hS9.sN [0])⟩

theorem c_spec_l1Set (row : Int)  (w0 : World)  (hS : ST w0 [] w0 [] []) {r_ : List Int} (hF : F_spec_l1Set row = some r_) :
  CV Tryz.prog 190 #[vi row] w0 (fun v w' => ∃ (B : Option Addr) (c : Nat), v = .slice B r_.length c ∧ ST w0 [] w' [⟨B, 3, (r_.flatMap encI), c * 1⟩] []) := by
 unfold F_spec_l1Set at hF
 refine cv_of_cw 23 Tryz.func190 rfl Tryz.ntmps190 rfl ?_
 refine cw_seq (cw_region ?_)
 refine sQ 2 (Y_assign (v := .slice none 0 0) rfl rfl) (rw_nil (cw_seq (cw_region ?_)))
 refine sQ 3 (Y_assign (v := .slice none 0 0) rfl rfl) (rw_nil (cw_seq (cw_seq (cw_region ?_))))
 refine sQ 4 (Y_assign (v := vi 0) rfl rfl) (rw_nil ?_)
 obtain ⟨z, hz, hF1⟩ := bind_inv hF
 have hS2 := hS.addNil 3
 refine cw_block ?_
 refine cw_loop (fun k f w => ∃ (out : List Int) (k_ : Int) (B1 : Option Addr) (c1 : Nat), FF f [(0, vi row), (3, .slice B1 out.length c1), (4, vi k_)] ∧ ST w0 [] w [⟨B1, 3, (out.flatMap encI), c1 * 1⟩] [] ∧ whX (F_spec_l1Set_l1 row) k (out, k_) = some z) fuel ⟨[], 0, none, 0, (FF.cons rfl (FF.cons rfl (FF.cons rfl FF.nil))), (hS2.sel [0] rfl rfl), hz⟩ ?_
 rintro k_1 f w ⟨out, k_, B1, c1, hf, hS1, hL⟩
 obtain ⟨k_2, y, rfl, hb, hL1⟩ := whX_go hL
 unfold F_spec_l1Set_l1 at hb
 refine cw_seq (cw_seq (cw_region ?_))
 refine sQ 5 (Y_move (v := vi row) rfl (hf.get 0 0 rfl)) ?_
 refine sQ 6 (Y_move (v := vi k_) rfl (hf.get 4 2 rfl)) ?_
 refine sQ 7 (Y_conv (k := .i64) (a := k_) (T := 3) (T' := 76) k_us_3 k_int_76_u64 rfl rfl) ?_
 obtain ⟨hsh, hb⟩ := chk_inv hb
 refine sQ 8 (Y_shr (k := .i64) (a := row) (k' := .u64) (b := (IntKind.u64.wrap k_)) rfl rfl rfl hsh) ?_
 refine sQ 9 (Y_gt (k := .i64) (a := (shrK .i64 row (IntKind.u64.wrap k_))) (b := 0) rfl rfl rfl) (rw_nil ?_)
 refine cw_cond (b := (decide (0 < (shrK .i64 row (IntKind.u64.wrap k_))))) rfl (fun hb1 => ?_) (fun hb1 => ?_)
 ·skip
  have hF2 := ct hb hb1
  refine cw_skip (cw_seq ?_)
  obtain ⟨z1, hz1, hF3⟩ := bind_inv hF2
  refine cw_mid (fun f w => ∃ (out1 : List Int) (B2 : Option Addr) (c2 : Nat), out1 = z1 ∧ FF f [(0, vi row), (3, .slice B2 out1.length c2), (4, vi k_)] ∧ ST w0 [] w [⟨B2, 3, (out1.flatMap encI), c2 * 1⟩] []) ?_ ?_
  ·skip
   refine cw_block (cw_seq (cw_region ?_))
   refine sQ 12 (Y_move (v := vi row) rfl (hf.get 0 0 rfl)) ?_
   refine sQ 13 (Y_move (v := vi k_) rfl (hf.get 4 2 rfl)) ?_
   refine sQ 14 (Y_conv (k := .i64) (a := k_) (T := 3) (T' := 76) k_us_3 k_int_76_u64 rfl rfl) ?_
   obtain ⟨hsh1, hz1⟩ := chk_inv hz1
   refine sQ 15 (Y_shr (k := .i64) (a := row) (k' := .u64) (b := (IntKind.u64.wrap k_)) rfl rfl rfl hsh1) ?_
   refine sQ 16 (Y_band (k := .i64) (a := (shrK .i64 row (IntKind.u64.wrap k_))) (b := 1) rfl rfl rfl) ?_
   refine sQ 17 (Y_eq (k := .i64) (a := (bits .and .i64 (shrK .i64 row (IntKind.u64.wrap k_)) 1)) (b := 1) rfl rfl rfl) (rw_nil ?_)
   refine cw_cond (b := ((bits .and .i64 (shrK .i64 row (IntKind.u64.wrap k_)) 1) == 1)) rfl (fun hb2 => ?_) (fun hb2 => ?_)
   ·skip
    have hF4 := ct hz1 hb2
    refine cw_region ?_
    refine sQ 18 (Y_move (v := .slice B1 out.length c1) rfl (hf.get 3 1 rfl)) ?_
    refine sQ 19 (Y_move (v := vi k_) rfl (hf.get 4 2 rfl)) ?_
    refine sS 20 (Ys_bslice (s := 1) (len := 1) (vs := [(0, vi k_)]) (cs := [vi k_]) (zs := [vi 0]) (m := 1) hS1 k_sl_66_3 k_sz_3_1 k_zc_3 rfl (mpc rfl mpn) rfl rfl rfl (by kernel_rfl) (by kernel_rfl) rfl) ?_
    rintro _ w_ ⟨b, rfl, hS4⟩
    obtain ⟨hap, hF4⟩ := chk_inv hF4
    refine sS 21 (Ys_append (s := 1) (by' := 8) (i := 0) (nn := out.length) (c := c1) (k := 1) (len := (out ++ [k_]).length) (B := B1) (xs := ([k_].flatMap encI)) (cs' := ((out ++ [k_]).flatMap encI)) hS4 k_sl_66_3 k_sz_3_1 k_by_3_8 k_zero_3 rfl (by decide) rfl rfl rfl rfl (fm_lenn (l := out) encI_len rfl) rfl (hS4.cf (i := 1) rfl) (fm_lenn (l := [k_]) encI_len rfl) (fm_one' (enc := encI) encI_one [k_]) (by have := hap; omega) (by have := hap; simp only [maxLen]; omega) (fm_app _ _) (app_len (l := out) (l' := [k_]) rfl rfl)) ?_
    rintro _ w_1 ⟨B3, c3, rfl, hS5⟩
    refine sQ 3 (Y_assign (v := .slice B3 ((out ++ [k_]).length) c3) rfl rfl) (rw_nil ?_)
    exact ⟨(out ++ [k_]), B3, c3, (some_inj hF4), (FF.cons (hf.get 0 0 rfl) (FF.cons rfl (FF.cons (hf.get 4 2 rfl) FF.nil))), (hS5.sel [0] rfl rfl)⟩
   ·skip
    have hF5 := cf' hz1 hb2
    refine cw_skip ?_
    exact ⟨out, B1, c1, (some_inj hF5), (FF.cons (hf.get 0 0 rfl) (FF.cons (hf.get 3 1 rfl) (FF.cons (hf.get 4 2 rfl) FF.nil))), (hS1.sel [0] rfl rfl)⟩
  rintro f w ⟨out1, B2, c2, rfl, hf1, hS3⟩
  refine cw_region ?_
  refine sQ 10 (Y_move (v := vi k_) rfl (hf1.get 4 2 rfl)) ?_
  refine sQ 11 (Y_add (k := .i64) (a := k_) (b := 1) rfl rfl rfl) ?_
  refine sQ 4 (Y_assign (v := vi (i64.wrap (k_ + 1))) rfl rfl) (rw_nil ?_)
  obtain rfl := some_inj hF3
  exact ⟨k_2, Nat.lt_succ_self _, out1, (i64.wrap (k_ + 1)), B2, c2, (FF.cons (hf1.get 0 0 rfl) (FF.cons (hf1.get 3 1 rfl) (FF.cons rfl FF.nil))), (hS3.sel [0] rfl rfl), hL1⟩
 ·skip
  have hF6 := cf' hb hb1
  refine cw_exit rfl ?_
  obtain rfl := some_inj hF6
  obtain rfl := some_inj hL1
  refine cw_seq (cw_region ?_)
  refine sQ 22 (Y_move (v := .slice B1 out.length c1) rfl (hf.get 3 1 rfl)) ?_
  refine sQ 2 (Y_assign (v := .slice B1 out.length c1) rfl rfl) (rw_nil (cw_ret ?_))
  obtain rfl := some_inj hF1
  exact ret1 Tryz.results190 (v1 := .slice B1 out.length c1) (resAt_tmp rfl) ⟨B1, c1, rfl, (hS1.sN [0])⟩

theorem c_spec_l13Parity (n : Int)  (w0 : World)  (hS : ST w0 [] w0 [] []) {r_ : Int} (hF : F_spec_l13Parity n = some r_) :
  CV Tryz.prog 194 #[vi n] w0 (fun v w' => v = vi r_ ∧ ST w0 [] w' [] []) := by
 unfold F_spec_l13Parity at hF
 refine cv_of_cw 7 Tryz.func194 rfl Tryz.ntmps194 rfl ?_
 refine cw_seq (cw_region ?_)
 refine sQ 2 (Y_assign (v := vi 0) rfl rfl) (rw_nil (cw_seq (cw_region ?_)))
 refine sQ 3 (Y_move (v := vi n) rfl rfl) ?_
 obtain ⟨r_1, hc, hF⟩ := bind_inv hF
 refine sc 4 rfl rfl (Yc_func (g := 190) (vs := [vi n]) k_call_190 rfl (mc rfl mn) (c_spec_l1Set n _  (hS.inn0 [] rfl) hc)) ?_
 rintro _ w_ ⟨B, c, rfl, hd⟩
 have hS1 := hS.out0 hd
 refine sQ 5 (Y_len (B := B) (m := r_1.length) (c := c) k_sl_66_3 rfl rfl) ?_
 refine sQ 6 (Y_rem (k := .i64) (a := (r_1.length : Int)) (b := 2) rfl rfl rfl (by decide)) ?_
 refine sQ 2 (Y_assign (v := vi (Int.tmod (r_1.length : Int) 2)) rfl rfl) (rw_nil (cw_ret ?_))
 obtain rfl := some_inj hF
 exact ret1 Tryz.results194 (v1 := vi (Int.tmod (r_1.length : Int) 2)) (resAt_tmp rfl) ⟨rfl, (hS1.sN [])⟩

theorem c_spec_l15Affine (n : Int) (a : Int) (turned : Int)  (w0 : World)  (hS : ST w0 [] w0 [] []) {r_ : Int} (hF : F_spec_l15Affine n a turned = some r_) :
  CV Tryz.prog 193 #[vi n, vi a, vi turned] w0 (fun v w' => v = vi r_ ∧ ST w0 [] w' [] []) := by
 unfold F_spec_l15Affine at hF
 refine cv_of_cw 29 Tryz.func193 rfl Tryz.ntmps193 rfl ?_
 refine cw_seq (cw_region ?_)
 refine sQ 6 (Y_assign (v := vi 0) rfl rfl) (rw_nil (cw_seq (cw_region ?_)))
 refine sQ 7 (Y_assign (v := vi 0) rfl rfl) (rw_nil (cw_seq (cw_seq (cw_region ?_))))
 refine sQ 8 (Y_assign (v := vi 1) rfl rfl) (rw_nil ?_)
 obtain ⟨z, hz, hF1⟩ := bind_inv hF
 refine cw_block ?_
 refine cw_loop (fun k f w => ∃ (word : Int) (m : Int), FF f [(0, vi n), (1, vi a), (2, vi turned), (7, vi word), (8, vi m)] ∧ ST w0 [] w [] [] ∧ whX (F_spec_l15Affine_l1 n a turned) k (word, m) = some z) fuel ⟨0, 1, (FF.cons rfl (FF.cons rfl (FF.cons rfl (FF.cons rfl (FF.cons rfl FF.nil))))), (hS.sel [] rfl rfl), hz⟩ ?_
 rintro k_ f w ⟨word, m, hf, hS1, hL⟩
 obtain ⟨k_1, y, rfl, hb, hL1⟩ := whX_go hL
 unfold F_spec_l15Affine_l1 at hb
 refine cw_seq (cw_seq (cw_region ?_))
 refine sQ 9 (Y_move (v := vi m) rfl (hf.get 8 4 rfl)) ?_
 refine sQ 10 (Y_move (v := vi n) rfl (hf.get 0 0 rfl)) ?_
 refine sQ 11 (Y_conv (k := .i64) (a := n) (T := 3) (T' := 76) k_us_3 k_int_76_u64 rfl rfl) ?_
 obtain ⟨hsh, hb⟩ := chk_inv hb
 refine sQ 12 (Y_shl (k := .i64) (a := 1) (k' := .u64) (b := (IntKind.u64.wrap n)) rfl rfl rfl hsh) ?_
 refine sQ 13 (Y_lt (k := .i64) (a := m) (b := (shlK .i64 1 (IntKind.u64.wrap n))) rfl rfl rfl) (rw_nil ?_)
 refine cw_cond (b := (decide (m < (shlK .i64 1 (IntKind.u64.wrap n))))) rfl (fun hb1 => ?_) (fun hb1 => ?_)
 ·skip
  have hF2 := ct hb hb1
  refine cw_skip (cw_seq (cw_block (cw_region ?_)))
  refine sQ 16 (Y_move (v := vi word) rfl (hf.get 7 3 rfl)) ?_
  refine sQ 17 (Y_move (v := vi m) rfl (hf.get 8 4 rfl)) ?_
  refine sQ 18 (Y_move (v := vi a) rfl (hf.get 1 1 rfl)) ?_
  refine sQ 19 (Y_band (k := .i64) (a := m) (b := a) rfl rfl rfl) ?_
  obtain ⟨r_1, hc, hF2⟩ := bind_inv hF2
  refine sc 20 rfl rfl (Yc_func (g := 194) (vs := [vi (bits .and .i64 m a)]) k_call_194 rfl (mc rfl mn) (c_spec_l13Parity (bits .and .i64 m a) _  (hS1.inn0 [] rfl) hc)) ?_
  rintro _ w_ ⟨rfl, hd⟩
  have hS2 := hS1.out00 hd
  refine sQ 21 (Y_move (v := vi turned) rfl (hf.get 2 2 rfl)) ?_
  refine sQ 22 (Y_bxor (k := .i64) (a := r_1) (b := turned) rfl rfl rfl) ?_
  refine sQ 23 (Y_move (v := vi m) rfl (hf.get 8 4 rfl)) ?_
  refine sQ 24 (Y_sub (k := .i64) (a := m) (b := 1) rfl rfl rfl) ?_
  refine sQ 25 (Y_conv (k := .i64) (a := (i64.wrap (m - 1))) (T := 3) (T' := 76) k_us_3 k_int_76_u64 rfl rfl) ?_
  obtain ⟨hsh1, hF2⟩ := chk_inv hF2
  refine sQ 26 (Y_shl (k := .i64) (a := (bits .xor .i64 r_1 turned)) (k' := .u64) (b := (IntKind.u64.wrap (i64.wrap (m - 1)))) rfl rfl rfl hsh1) ?_
  refine sQ 27 (Y_bor (k := .i64) (a := word) (b := (shlK .i64 (bits .xor .i64 r_1 turned) (IntKind.u64.wrap (i64.wrap (m - 1))))) rfl rfl rfl) ?_
  refine sQ 7 (Y_assign (v := vi (bits .or .i64 word (shlK .i64 (bits .xor .i64 r_1 turned) (IntKind.u64.wrap (i64.wrap (m - 1)))))) rfl rfl) (rw_nil (cw_region ?_))
  refine sQ 14 (Y_move (v := vi m) rfl (hf.get 8 4 rfl)) ?_
  refine sQ 15 (Y_add (k := .i64) (a := m) (b := 1) rfl rfl rfl) ?_
  refine sQ 8 (Y_assign (v := vi (i64.wrap (m + 1))) rfl rfl) (rw_nil ?_)
  obtain rfl := some_inj hF2
  exact ⟨k_1, Nat.lt_succ_self _, (bits .or .i64 word (shlK .i64 (bits .xor .i64 r_1 turned) (IntKind.u64.wrap (i64.wrap (m - 1))))), (i64.wrap (m + 1)), (FF.cons (hf.get 0 0 rfl) (FF.cons (hf.get 1 1 rfl) (FF.cons (hf.get 2 2 rfl) (FF.cons rfl (FF.cons rfl FF.nil))))), (hS2.sel [] rfl rfl), hL1⟩
 ·skip
  have hF3 := cf' hb hb1
  refine cw_exit rfl ?_
  obtain rfl := some_inj hF3
  obtain rfl := some_inj hL1
  refine cw_seq (cw_region ?_)
  refine sQ 28 (Y_move (v := vi word) rfl (hf.get 7 3 rfl)) ?_
  refine sQ 6 (Y_assign (v := vi word) rfl rfl) (rw_nil (cw_ret ?_))
  obtain rfl := some_inj hF1
  exact ret1 Tryz.results193 (v1 := vi word) (resAt_tmp rfl) ⟨rfl, (hS1.sN [])⟩

theorem c_spec_l15Codes (n : Int)  (w0 : World)  (hS : ST w0 [] w0 [] []) {r_ : List Int} (hF : F_spec_l15Codes n = some r_) :
  CV Tryz.prog 119 #[vi n] w0 (fun v w' => ∃ (B : Option Addr) (c : Nat), v = .slice B r_.length c ∧ ST w0 [] w' [⟨B, 3, (r_.flatMap encI), c * 1⟩] []) := by
 unfold F_spec_l15Codes at hF
 refine cv_of_cw 30 Tryz.func119 rfl Tryz.ntmps119 rfl ?_
 refine cw_seq (cw_region ?_)
 refine sQ 2 (Y_assign (v := .slice none 0 0) rfl rfl) (rw_nil (cw_seq (cw_region ?_)))
 refine sS 5 (Ys_bslice (s := 1) (len := 1) (vs := [(0, vi 0)]) (cs := [vi 0]) (zs := [vi 0]) (m := 1) hS k_sl_66_3 k_sz_3_1 k_zc_3 rfl (mpc rfl mpn) rfl rfl rfl (by kernel_rfl) (by kernel_rfl) rfl) ?_
 rintro _ w_ ⟨b, rfl, hS1⟩
 refine sQ 3 (Y_assign (v := .slice (aD b) 1 1) rfl rfl) (rw_nil (cw_seq ?_))
 obtain ⟨z, hz, hF1⟩ := bind_inv hF
 refine cw_mid (fun f w => ∃ (out : List Int) (B1 : Option Addr) (c1 : Nat), out = z ∧ FF f [(0, vi n), (3, .slice B1 out.length c1)] ∧ ST w0 [] w [⟨B1, 3, (out.flatMap encI), c1 * 1⟩] []) ?_ ?_
 ·skip
  refine cw_seq (cw_region ?_)
  refine sQ 6 (Y_move (v := vi n) rfl rfl) ?_
  refine sQ 7 (Y_ge (k := .i64) (a := n) (b := 4) rfl rfl rfl) (rw_nil ?_)
  refine cw_cond (b := (decide (4 ≤ n))) rfl (fun hb => ?_) (fun hb => ?_)
  ·skip
   have hF2 := ct hz hb
   refine cw_region ?_
   refine sQ 8 (Y_move (v := .slice (aD b) 1 1) rfl rfl) ?_
   refine sQ 9 (Y_move (v := vi n) rfl rfl) ?_
   obtain ⟨r_1, hc, hF2⟩ := bind_inv hF2
   refine sc 10 rfl rfl (Yc_func (g := 193) (vs := [vi n, vi 0, vi 1]) k_call_193 rfl (mc rfl (mc rfl (mc rfl mn))) (c_spec_l15Affine n 0 1 _  (hS1.inn0 [] rfl) hc)) ?_
   rintro _ w_1 ⟨rfl, hd⟩
   have hS3 := hS1.out00 hd
   obtain ⟨r_2, hc1, hF2⟩ := bind_inv hF2
   refine sc 11 rfl rfl (Yc_func (g := 133) (vs := [.slice (aD b) 1 1, vi r_1]) k_call_133 rfl (mc rfl (mc rfl mn)) (c_spec_l1Put [0] r_1 (aD b) 1 1 _ rfl (hS3.inn [true] rfl [] rfl) hc1)) ?_
   rintro _ w_2 ⟨B2, c2, rfl, hd1⟩
   have hS4 := hS3.out [true] rfl hd1
   refine sQ 3 (Y_assign (v := .slice B2 r_2.length c2) rfl rfl) (rw_nil ?_)
   exact ⟨r_2, B2, c2, (some_inj hF2), (FF.cons rfl (FF.cons rfl FF.nil)), (hS4.sel [0] rfl rfl)⟩
  ·skip
   have hF3 := cf' hz hb
   refine cw_skip ?_
   exact ⟨[0], aD b, 1, (some_inj hF3), (FF.cons rfl (FF.cons rfl FF.nil)), (hS1.sel [0] rfl rfl)⟩
 rintro f w ⟨out, B1, c1, rfl, hf, hS2⟩
 refine cw_seq (cw_seq (cw_region ?_))
 refine sQ 4 (Y_assign (v := vi 1) rfl rfl) (rw_nil ?_)
 obtain ⟨z1, hz1, hF4⟩ := bind_inv hF1
 refine cw_block ?_
 refine cw_loop (fun k f w => ∃ (out1 : List Int) (a : Int) (B3 : Option Addr) (c3 : Nat), FF f [(0, vi n), (3, .slice B3 out1.length c3), (4, vi a)] ∧ ST w0 [] w [⟨B3, 3, (out1.flatMap encI), c3 * 1⟩] [] ∧ whX (F_spec_l15Codes_l1 n) k (out1, a) = some z1) fuel ⟨out, 1, B1, c1, (FF.cons (hf.get 0 0 rfl) (FF.cons (hf.get 3 1 rfl) (FF.cons rfl FF.nil))), (hS2.sel [0] rfl rfl), hz1⟩ ?_
 rintro k_ f w ⟨out1, a, B3, c3, hf1, hS5, hL⟩
 obtain ⟨k_1, y, rfl, hb1, hL1⟩ := whX_go hL
 unfold F_spec_l15Codes_l1 at hb1
 refine cw_seq (cw_seq (cw_region ?_))
 refine sQ 12 (Y_move (v := vi n) rfl (hf1.get 0 0 rfl)) ?_
 refine sQ 13 (Y_eq (k := .i64) (a := n) (b := 5) rfl rfl rfl) ?_
 refine sQ 14 (Y_move (v := .bool (n == 5)) rfl rfl) ?_
 refine sgq 15 (B := (n == 5)) (v := vi a) rfl rfl (uT_ 14) (fun hg => (Y_move (v := vi a) rfl (hf1.get 4 2 rfl))) ?_
 refine sgq 16 (B := (n == 5)) (v := .bool (decide (a < 32))) rfl rfl (uT_ 14) (fun hg1 => (Y_lt (k := .i64) (a := a) (b := 32) rfl (gv_of (v := vi a) hg1) rfl)) ?_
 refine sQ 17 (Y_and (b := (n == 5)) (z := (decide (a < 32))) rfl rfl rfl rfl) (rw_nil ?_)
 refine cw_cond (b := ((n == 5) && (decide (a < 32)))) rfl (fun hb2 => ?_) (fun hb2 => ?_)
 ·skip
  have hF5 := ct hb1 hb2
  refine cw_skip (cw_seq (cw_block (cw_region ?_)))
  refine sQ 20 (Y_move (v := .slice B3 out1.length c3) rfl (hf1.get 3 1 rfl)) ?_
  refine sQ 21 (Y_move (v := vi n) rfl (hf1.get 0 0 rfl)) ?_
  refine sQ 22 (Y_move (v := vi a) rfl (hf1.get 4 2 rfl)) ?_
  obtain ⟨r_3, hc2, hF5⟩ := bind_inv hF5
  refine sc 23 rfl rfl (Yc_func (g := 193) (vs := [vi n, vi a, vi 0]) k_call_193 rfl (mc rfl (mc rfl (mc rfl mn))) (c_spec_l15Affine n a 0 _  (hS5.inn0 [] rfl) hc2)) ?_
  rintro _ w_3 ⟨rfl, hd2⟩
  have hS6 := hS5.out00 hd2
  obtain ⟨r_4, hc3, hF5⟩ := bind_inv hF5
  refine sc 24 rfl rfl (Yc_func (g := 133) (vs := [.slice B3 out1.length c3, vi r_3]) k_call_133 rfl (mc rfl (mc rfl mn)) (c_spec_l1Put out1 r_3 B3 c3 out1.length _ rfl (hS6.inn [true] rfl [] rfl) hc3)) ?_
  rintro _ w_4 ⟨B4, c4, rfl, hd3⟩
  have hS7 := hS6.out [true] rfl hd3
  refine sQ 25 (Y_move (v := vi n) rfl (hf1.get 0 0 rfl)) ?_
  refine sQ 26 (Y_move (v := vi a) rfl (hf1.get 4 2 rfl)) ?_
  obtain ⟨r_5, hc4, hF5⟩ := bind_inv hF5
  refine sc 27 rfl rfl (Yc_func (g := 193) (vs := [vi n, vi a, vi 1]) k_call_193 rfl (mc rfl (mc rfl (mc rfl mn))) (c_spec_l15Affine n a 1 _  (hS7.inn0 [] rfl) hc4)) ?_
  rintro _ w_5 ⟨rfl, hd4⟩
  have hS8 := hS7.out00 hd4
  obtain ⟨r_6, hc5, hF5⟩ := bind_inv hF5
  refine sc 28 rfl rfl (Yc_func (g := 133) (vs := [.slice B4 r_4.length c4, vi r_5]) k_call_133 rfl (mc rfl (mc rfl mn)) (c_spec_l1Put r_4 r_5 B4 c4 r_4.length _ rfl (hS8.inn [true] rfl [] rfl) hc5)) ?_
  rintro _ w_6 ⟨B5, c5, rfl, hd5⟩
  have hS9 := hS8.out [true] rfl hd5
  refine sQ 3 (Y_assign (v := .slice B5 r_6.length c5) rfl rfl) (rw_nil (cw_region ?_))
  refine sQ 18 (Y_move (v := vi a) rfl (hf1.get 4 2 rfl)) ?_
  refine sQ 19 (Y_add (k := .i64) (a := a) (b := 1) rfl rfl rfl) ?_
  refine sQ 4 (Y_assign (v := vi (i64.wrap (a + 1))) rfl rfl) (rw_nil ?_)
  obtain rfl := some_inj hF5
  exact ⟨k_1, Nat.lt_succ_self _, r_6, (i64.wrap (a + 1)), B5, c5, (FF.cons (hf1.get 0 0 rfl) (FF.cons rfl (FF.cons rfl FF.nil))), (hS9.sel [0] rfl rfl), hL1⟩
 ·skip
  have hF6 := cf' hb1 hb2
  refine cw_exit rfl ?_
  obtain rfl := some_inj hF6
  obtain rfl := some_inj hL1
  refine cw_seq (cw_region ?_)
  refine sQ 29 (Y_move (v := .slice B3 out1.length c3) rfl (hf1.get 3 1 rfl)) ?_
  refine sQ 2 (Y_assign (v := .slice B3 out1.length c3) rfl rfl) (rw_nil (cw_ret ?_))
  obtain rfl := some_inj hF4
  exact ret1 Tryz.results119 (v1 := .slice B3 out1.length c3) (resAt_tmp rfl) ⟨B3, c3, rfl, (hS5.sN [0])⟩

theorem c_spec_l1Cur_oddWord (c : Tl1Cur) (n1 : Int) (B : Option Addr) (B1 : Option Addr) (c1 n : Nat) (w0 : World) (hn : c.code.length = n) (hS : ST w0 (bl [⟨B, 112, [.slice B1 n c1, vi c.at_, .int .u64 c.seed], 3⟩]) w0 [⟨B, 112, [.slice B1 n c1, vi c.at_, .int .u64 c.seed], 3⟩] [⟨B1, (c.code.flatMap enc_u8)⟩]) {r_ : Int} {m : Tl1Cur} (hF : F_spec_l1Cur_oddWord c n1 = some (r_, m)) :
  CV Tryz.prog 118 #[pt B 0, vi n1] w0 (fun v w' => v = vi r_ ∧ ST w0 (bl [⟨B, 112, [.slice B1 n c1, vi c.at_, .int .u64 c.seed], 3⟩]) w' [⟨B, 112, [.slice B1 n c1, vi m.at_, .int .u64 m.seed], 3⟩] []) := by
 subst hn
 unfold F_spec_l1Cur_oddWord at hF
 refine cv_of_cw 55 Tryz.func118 rfl Tryz.ntmps118 rfl ?_
 refine cw_seq (cw_region ?_)
 refine sQ 4 (Y_assign (v := vi 0) rfl rfl) (rw_nil (cw_seq (cw_region ?_)))
 refine sQ 8 (Y_move (v := pt B 0) rfl rfl) ?_
 obtain ⟨⟨r_1, m1⟩, hc, hF⟩ := bind_inv hF
 refine sc 9 rfl rfl (Yc_func (g := 71) (vs := [pt B 0, vi 65536]) k_call_71 rfl (mc rfl (mc rfl mn)) (c_spec_l1Cur_pick c 65536 B B1 c1 c.code.length _ rfl (hS.inn [true] rfl [(true, 0)] rfl) hc)) ?_
 rintro _ w_ ⟨rfl, hd⟩
 have hS1 := hS.out [true] rfl hd
 refine sQ 10 (Y_move (v := pt B 0) rfl rfl) ?_
 obtain ⟨⟨r_2, m2⟩, hc1, hF⟩ := bind_inv hF
 refine sc 11 rfl rfl (Yc_func (g := 71) (vs := [pt B 0, vi 32768]) k_call_71 rfl (mc rfl (mc rfl mn)) (c_spec_l1Cur_pick (Tl1Cur.mk c.code m1.at_ m1.seed) 32768 B B1 c1 c.code.length _ rfl (hS1.inn [true] rfl [(true, 0)] rfl) hc1)) ?_
 rintro _ w_1 ⟨rfl, hd1⟩
 have hS2 := hS1.out [true] rfl hd1
 refine sQ 12 (Y_mul (k := .i64) (a := 65536) (b := r_2) rfl rfl rfl) ?_
 refine sQ 13 (Y_add (k := .i64) (a := r_1) (b := (i64.wrap (65536 * r_2))) rfl rfl rfl) ?_
 refine sQ 14 (Y_move (v := vi n1) rfl rfl) ?_
 refine sQ 15 (Y_conv (k := .i64) (a := n1) (T := 3) (T' := 76) k_us_3 k_int_76_u64 rfl rfl) ?_
 obtain ⟨hsh, hF⟩ := chk_inv hF
 refine sQ 16 (Y_shl (k := .u64) (a := 1) (k' := .u64) (b := (IntKind.u64.wrap n1)) rfl rfl rfl hsh) ?_
 refine sQ 17 (Y_sub (k := .u64) (a := (shlK .u64 1 (IntKind.u64.wrap n1))) (b := 1) rfl rfl rfl) ?_
 obtain ⟨hsh1, hF⟩ := chk_inv hF
 refine sQ 18 (Y_shl (k := .i64) (a := 1) (k' := .u64) (b := (IntKind.u64.wrap ((shlK .u64 1 (IntKind.u64.wrap n1)) - 1))) rfl rfl rfl hsh1) ?_
 refine sQ 19 (Y_sub (k := .i64) (a := (shlK .i64 1 (IntKind.u64.wrap ((shlK .u64 1 (IntKind.u64.wrap n1)) - 1)))) (b := 1) rfl rfl rfl) ?_
 refine sQ 20 (Y_band (k := .i64) (a := (i64.wrap (r_1 + (i64.wrap (65536 * r_2))))) (b := (i64.wrap ((shlK .i64 1 (IntKind.u64.wrap ((shlK .u64 1 (IntKind.u64.wrap n1)) - 1))) - 1))) rfl rfl rfl) ?_
 refine sQ 5 (Y_assign (v := vi (bits .and .i64 (i64.wrap (r_1 + (i64.wrap (65536 * r_2)))) (i64.wrap ((shlK .i64 1 (IntKind.u64.wrap ((shlK .u64 1 (IntKind.u64.wrap n1)) - 1))) - 1)))) rfl rfl) (rw_nil (cw_seq ?_))
 obtain ⟨z, hz, hF1⟩ := bind_inv hF
 refine cw_mid (fun f w => ∃ (at_ : Int) (seed : Int) (w_2 : Int), (at_, seed, w_2) = z ∧ FF f [(5, vi w_2)] ∧ ST w0 (bl [⟨B, 112, [.slice B1 c.code.length c1, vi c.at_, .int .u64 c.seed], 3⟩]) w [⟨B, 112, [.slice B1 c.code.length c1, vi at_, .int .u64 seed], 3⟩] [⟨B1, (c.code.flatMap enc_u8)⟩]) ?_ ?_
 ·skip
  refine cw_seq (cw_region ?_)
  refine sQ 21 (Y_move (v := pt B 0) rfl rfl) ?_
  obtain ⟨⟨r_3, m3⟩, hc2, hz⟩ := bind_inv hz
  refine sc 22 rfl rfl (Yc_func (g := 71) (vs := [pt B 0, vi 3]) k_call_71 rfl (mc rfl (mc rfl mn)) (c_spec_l1Cur_pick (Tl1Cur.mk c.code m2.at_ m2.seed) 3 B B1 c1 c.code.length _ rfl (hS2.inn [true] rfl [(true, 0)] rfl) hc2)) ?_
  rintro _ w_3 ⟨rfl, hd2⟩
  have hS4 := hS2.out [true] rfl hd2
  refine rw_nil (cw_block (cw_seq (cw_region ?_)))
  refine sQ 24 (Y_eq (k := .i64) (a := r_3) (b := 0) rfl rfl rfl) ?_
  refine sQ 23 (Y_assign (v := .bool (r_3 == 0)) rfl rfl) (rw_nil ?_)
  refine cw_cond (b := (r_3 == 0)) rfl (fun hb => ?_) (fun hb => ?_)
  ·skip
   have hF2 := ct hz hb
   refine cw_seq (cw_region ?_)
   refine sQ 25 (Y_move (v := vi n1) rfl rfl) ?_
   obtain ⟨r_4, hc3, hF2⟩ := bind_inv hF2
   refine sc 26 rfl rfl (Yc_func (g := 119) (vs := [vi n1]) k_call_119 rfl (mc rfl mn) (c_spec_l15Codes n1 _  (hS4.inn0 [] rfl) hc3)) ?_
   rintro _ w_4 ⟨B2, c2, rfl, hd3⟩
   have hS5 := hS4.out0 hd3
   refine sQ 6 (Y_assign (v := .slice B2 r_4.length c2) rfl rfl) (rw_nil (cw_region ?_))
   refine sQ 27 (Y_move (v := .slice B2 r_4.length c2) rfl rfl) ?_
   refine sQ 28 (Y_move (v := pt B 0) rfl rfl) ?_
   refine sQ 29 (Y_move (v := .slice B2 r_4.length c2) rfl rfl) ?_
   refine sQ 30 (Y_len (B := B2) (m := r_4.length) (c := c2) k_sl_66_3 rfl rfl) ?_
   obtain ⟨⟨r_5, m4⟩, hc4, hF2⟩ := bind_inv hF2
   refine sc 31 rfl rfl (Yc_func (g := 71) (vs := [pt B 0, vi (r_4.length : Int)]) k_call_71 rfl (mc rfl (mc rfl mn)) (c_spec_l1Cur_pick (Tl1Cur.mk c.code m3.at_ m3.seed) (r_4.length : Int) B B1 c1 c.code.length _ rfl (hS5.inn [true, false] rfl [(true, 0)] rfl) hc4)) ?_
   rintro _ w_5 ⟨rfl, hd4⟩
   have hS6 := hS5.out [true, false] rfl hd4
   obtain ⟨x, hx, hF2⟩ := bind_inv hF2
   refine sQ 32 (Y_index (B := B2) (m := r_4.length) (c := c2) (k := .i64) (i := r_5) k_sl_66_3 k_sz_3_1 rfl rfl rfl (gi_isSome encI_len rfl (hS6.cf (i := 0) rfl) hx) (getI_nn hx) (getI_ltI hx rfl)) ?_
   refine sQ 33 (Y_load1 (B := B2) (i := r_5.toNat * 1) (cs := (r_4.flatMap encI)) (v := vi x) k_sc_3 rfl rfl (hS6.cf (i := 0) rfl) (gi_at0 encI_len hx rfl)) ?_
   refine sQ 5 (Y_assign (v := vi x) rfl rfl) (rw_nil ?_)
   exact ⟨m4.at_, m4.seed, x, (some_inj hF2), (FF.cons rfl FF.nil), (hS6.sel [1] rfl rfl)⟩
  ·skip
   have hF3 := cf' hz hb
   refine cw_seq (cw_region ?_)
   refine sQ 35 (Y_eq (k := .i64) (a := r_3) (b := 1) rfl rfl rfl) ?_
   refine sQ 34 (Y_assign (v := .bool (r_3 == 1)) rfl rfl) (rw_nil ?_)
   refine cw_cond (b := (r_3 == 1)) rfl (fun hb1 => ?_) (fun hb1 => ?_)
   ·skip
    have hF4 := ct hF3 hb1
    refine cw_seq (cw_region ?_)
    refine sQ 36 (Y_move (v := vi n1) rfl rfl) ?_
    obtain ⟨r_6, hc5, hF4⟩ := bind_inv hF4
    refine sc 37 rfl rfl (Yc_func (g := 119) (vs := [vi n1]) k_call_119 rfl (mc rfl mn) (c_spec_l15Codes n1 _  (hS4.inn0 [] rfl) hc5)) ?_
    rintro _ w_6 ⟨B3, c3, rfl, hd5⟩
    have hS7 := hS4.out0 hd5
    refine sQ 7 (Y_assign (v := .slice B3 r_6.length c3) rfl rfl) (rw_nil ?_)
    obtain ⟨⟨r_7, m5⟩, hc6, hF4⟩ := bind_inv hF4
    obtain ⟨x1, hx1, hF4⟩ := bind_inv hF4
    obtain ⟨hsh2, hF4⟩ := chk_inv hF4
    obtain ⟨⟨r_8, m6⟩, hc7, hF4⟩ := bind_inv hF4
    obtain ⟨hsh3, hF4⟩ := chk_inv hF4
    refine ra_start (hS7.se [1]).fn (by kernel_rfl) ?_
    have hS10 := hS7.drew
    refine rq 0 38 (v := .slice B3 r_6.length c3) rfl (hS10.se [1]) (fun w' hw' => (Y_move (v := .slice B3 r_6.length c3) rfl rfl)) ?_
    refine rq 1 39 (v := pt B 0) rfl (hS10.se [1]) (fun w' hw' => (Y_move (v := pt B 0) rfl rfl)) ?_
    refine rq 2 40 (v := .slice B3 r_6.length c3) rfl (hS10.se [1]) (fun w' hw' => (Y_move (v := .slice B3 r_6.length c3) rfl rfl)) ?_
    refine rq 3 41 (v := vi (r_6.length : Int)) rfl (hS10.se [1]) (fun w' hw' => (Y_len (B := B3) (m := r_6.length) (c := c3) k_sl_66_3 rfl rfl)) ?_
    refine rq 7 45 (v := pt B 0) rfl (hS10.se [1]) (fun w' hw' => (Y_move (v := pt B 0) rfl rfl)) ?_
    refine rq 8 46 (v := vi n1) rfl (hS10.se [1]) (fun w' hw' => (Y_move (v := vi n1) rfl rfl)) ?_
    refine rq 9 47 (v := .int .u64 (IntKind.u64.wrap n1)) rfl (hS10.se [1]) (fun w' hw' => (Y_conv (k := .i64) (a := n1) (T := 3) (T' := 76) k_us_3 k_int_76_u64 rfl rfl)) ?_
    refine rq 10 48 (v := vi (shlK .i64 1 (IntKind.u64.wrap n1))) rfl (hS10.se [1]) (fun w' hw' => (Y_shl (k := .i64) (a := 1) (k' := .u64) (b := (IntKind.u64.wrap n1)) rfl rfl rfl hsh2)) ?_
    refine rq 11 49 (v := vi (i64.wrap ((shlK .i64 1 (IntKind.u64.wrap n1)) - 1))) rfl (hS10.se [1]) (fun w' hw' => (Y_sub (k := .i64) (a := (shlK .i64 1 (IntKind.u64.wrap n1))) (b := 1) rfl rfl rfl)) ?_
    refine rA [4] ?_
    refine ra_c 42 (i := 4) rfl rfl rfl (Yc_func (g := 71) (vs := [pt B 0, vi (r_6.length : Int)]) k_call_71 rfl (mc rfl (mc rfl mn)) (c_spec_l1Cur_pick (Tl1Cur.mk c.code m3.at_ m3.seed) (r_6.length : Int) B B1 c1 c.code.length _ rfl (hS10.inn [true, false] rfl [(true, 0)] rfl) hc6)) ?_ ?_
    ·rintro _ w_7 ⟨rfl, hd6⟩
     have hS11 := hS10.out [true, false] rfl hd6
     refine ⟨(hS11.se [0]), ?_⟩
     refine rq 5 43 (v := pt B3 (r_7.toNat * 1)) rfl (hS11.se [0]) (fun w' hw' => (Y_index (B := B3) (m := r_6.length) (c := c3) (k := .i64) (i := r_7) k_sl_66_3 k_sz_3_1 rfl rfl rfl (gi_isSome encI_len rfl (ST.cf hw' (i := 0) rfl) hx1) (getI_nn hx1) (getI_ltI hx1 rfl))) ?_
     refine rq 6 44 (v := vi x1) rfl (hS11.se [0]) (fun w' hw' => (Y_load1 (B := B3) (i := r_7.toNat * 1) (cs := (r_6.flatMap encI)) (v := vi x1) k_sc_3 rfl rfl (ST.cf hw' (i := 0) rfl) (gi_at0 encI_len hx1 rfl))) ?_
     refine rA [12] ?_
     refine ra_c 50 (i := 12) rfl rfl rfl (Yc_func (g := 71) (vs := [pt B 0, vi (i64.wrap ((shlK .i64 1 (IntKind.u64.wrap n1)) - 1))]) k_call_71 rfl (mc rfl (mc rfl mn)) (c_spec_l1Cur_pick (Tl1Cur.mk c.code m5.at_ m5.seed) (i64.wrap ((shlK .i64 1 (IntKind.u64.wrap n1)) - 1)) B B1 c1 c.code.length _ rfl (hS11.inn [false, true] rfl [(true, 0)] rfl) hc7)) ?_ ?_
     ·rintro _ w_8 ⟨rfl, hd7⟩
      have hS12 := hS11.out [false, true] rfl hd7
      refine ⟨(hS12.se [0]), ?_⟩
      refine rq 13 51 (v := .int .u64 (IntKind.u64.wrap r_8)) rfl (hS12.se [0]) (fun w' hw' => (Y_conv (k := .i64) (a := r_8) (T := 3) (T' := 76) k_us_3 k_int_76_u64 rfl rfl)) ?_
      refine rq 14 52 (v := vi (shlK .i64 1 (IntKind.u64.wrap r_8))) rfl (hS12.se [0]) (fun w' hw' => (Y_shl (k := .i64) (a := 1) (k' := .u64) (b := (IntKind.u64.wrap r_8)) rfl rfl rfl hsh3)) ?_
      refine rq 15 53 (v := vi (bits .xor .i64 x1 (shlK .i64 1 (IntKind.u64.wrap r_8)))) rfl (hS12.se [0]) (fun w' hw' => (Y_bxor (k := .i64) (a := x1) (b := (shlK .i64 1 (IntKind.u64.wrap r_8))) rfl rfl rfl)) ?_
      refine rq 16 5 (v := vi (bits .xor .i64 x1 (shlK .i64 1 (IntKind.u64.wrap r_8)))) rfl (hS12.se [0]) (fun w' hw' => (Y_assign (v := vi (bits .xor .i64 x1 (shlK .i64 1 (IntKind.u64.wrap r_8)))) rfl rfl)) ?_
      refine ra_done (by kernel_rfl) ?_
      exact ⟨m6.at_, m6.seed, (bits .xor .i64 x1 (shlK .i64 1 (IntKind.u64.wrap r_8))), (some_inj hF4), (FF.cons rfl FF.nil), (hS12.sel [1] rfl rfl)⟩
     exact allR_nil
    exact allR_nil
   ·skip
    have hF5 := cf' hF3 hb1
    refine cw_skip ?_
    exact ⟨m3.at_, m3.seed, (bits .and .i64 (i64.wrap (r_1 + (i64.wrap (65536 * r_2)))) (i64.wrap ((shlK .i64 1 (IntKind.u64.wrap ((shlK .u64 1 (IntKind.u64.wrap n1)) - 1))) - 1))), (some_inj hF5), (FF.cons rfl FF.nil), (hS4.sel [0] rfl rfl)⟩
 rintro f w ⟨at_, seed, w_2, rfl, hf, hS3⟩
 refine cw_seq (cw_region ?_)
 refine sQ 54 (Y_move (v := vi w_2) rfl (hf.get 5 0 rfl)) ?_
 refine sQ 4 (Y_assign (v := vi w_2) rfl rfl) (rw_nil (cw_ret ?_))
 obtain ⟨rfl, rfl⟩ := pr2 (some_inj hF1)
 exact ret1 Tryz.results118 (v1 := vi w_2) (resAt_tmp rfl) ⟨rfl, (hS3.sN [0])⟩

theorem c_spec_l1Cur_among (c : Tl1Cur) (list : List Int) (B : Option Addr) (B1 : Option Addr) (c1 n : Nat) (B2 : Option Addr) (c2 n1 : Nat) (w0 : World) (hn : c.code.length = n) (hn1 : list.length = n1) (hS : ST w0 (bl [⟨B, 112, [.slice B1 n c1, vi c.at_, .int .u64 c.seed], 3⟩]) w0 [⟨B, 112, [.slice B1 n c1, vi c.at_, .int .u64 c.seed], 3⟩] [⟨B1, (c.code.flatMap enc_u8)⟩, ⟨B2, (list.flatMap encI)⟩]) {r_ : Int} {m : Tl1Cur} (hF : F_spec_l1Cur_among c list = some (r_, m)) :
  CV Tryz.prog 153 #[pt B 0, .slice B2 n1 c2] w0 (fun v w' => v = vi r_ ∧ ST w0 (bl [⟨B, 112, [.slice B1 n c1, vi c.at_, .int .u64 c.seed], 3⟩]) w' [⟨B, 112, [.slice B1 n c1, vi m.at_, .int .u64 m.seed], 3⟩] []) := by
 subst hn
 subst hn1
 unfold F_spec_l1Cur_among at hF
 refine cv_of_cw 12 Tryz.func153 rfl Tryz.ntmps153 rfl ?_
 refine cw_seq (cw_region ?_)
 refine sQ 4 (Y_assign (v := vi 0) rfl rfl) (rw_nil (cw_seq (cw_region ?_)))
 refine sQ 5 (Y_move (v := .slice B2 list.length c2) rfl rfl) ?_
 refine sQ 6 (Y_move (v := pt B 0) rfl rfl) ?_
 refine sQ 7 (Y_move (v := .slice B2 list.length c2) rfl rfl) ?_
 refine sQ 8 (Y_len (B := B2) (m := list.length) (c := c2) k_sl_66_3 rfl rfl) ?_
 obtain ⟨⟨r_1, m1⟩, hc, hF⟩ := bind_inv hF
 refine sc 9 rfl rfl (Yc_func (g := 71) (vs := [pt B 0, vi (list.length : Int)]) k_call_71 rfl (mc rfl (mc rfl mn)) (c_spec_l1Cur_pick c (list.length : Int) B B1 c1 c.code.length _ rfl (hS.inn [true] rfl [(true, 0)] rfl) hc)) ?_
 rintro _ w_ ⟨rfl, hd⟩
 have hS1 := hS.out [true] rfl hd
 obtain ⟨x, hx, hF⟩ := bind_inv hF
 refine sQ 10 (Y_index (B := B2) (m := list.length) (c := c2) (k := .i64) (i := r_1) k_sl_66_3 k_sz_3_1 rfl rfl rfl (gi_isSome encI_len rfl (hS1.rf (i := 1) rfl) hx) (getI_nn hx) (getI_ltI hx rfl)) ?_
 refine sQ 11 (Y_load1 (B := B2) (i := r_1.toNat * 1) (cs := (list.flatMap encI)) (v := vi x) k_sc_3 rfl rfl (hS1.rf (i := 1) rfl) (gi_at0 encI_len hx rfl)) ?_
 refine sQ 4 (Y_assign (v := vi x) rfl rfl) (rw_nil (cw_ret ?_))
 obtain ⟨rfl, rfl⟩ := pr2 (some_inj hF)
 exact ret1 Tryz.results153 (v1 := vi x) (resAt_tmp rfl) ⟨rfl, (hS1.sN [0])⟩

theorem c_spec_l13By (p : TPhasePoly) (B : Option Addr) (c n : Nat) (B1 : Option Addr) (c1 n1 : Nat) (w0 : World) (hn : p.Terms.length = n) (hn1 : p.Out.Rows.length = n1) (hS : ST w0 [] w0 [] [⟨B, (p.Terms.flatMap eN0)⟩, ⟨B1, (p.Out.Rows.flatMap encI)⟩]) {r_ : List Int} (hF : F_spec_l13By p = some r_) :
  CV Tryz.prog 191 #[.agg #[vi p.Qubits, vi p.Phase, .slice B n c, .slice B1 n1 c1]] w0 (fun v w' => ∃ (B2 : Option Addr) (c2 : Nat), v = .slice B2 r_.length c2 ∧ ST w0 [] w' [⟨B2, 3, (r_.flatMap encI), c2 * 1⟩] []) := by
 subst hn
 subst hn1
 unfold F_spec_l13By at hF
 refine cv_of_cw 26 Tryz.func191 rfl Tryz.ntmps191 rfl ?_
 refine cw_seq (cw_region ?_)
 refine sS 1 (Ys_box (T := 70) (v := .agg #[vi p.Qubits, vi p.Phase, .slice B p.Terms.length c, .slice B1 p.Out.Rows.length c1]) (cs := [vi p.Qubits, vi p.Phase, .slice B p.Terms.length c, .slice B1 p.Out.Rows.length c1]) (m := 4) hS rfl rfl rfl rfl) ?_
 rintro _ w_ ⟨b, rfl, hS1⟩
 refine sQ 2 (Y_assign (v := .slice none 0 0) rfl rfl) (rw_nil (cw_seq (cw_region ?_)))
 refine sQ 6 (Y_fieldAddr (B := aD b) (i := 0) (s := 0) k_fd_70_0_0_3 k_sz_3_1 rfl rfl) ?_
 refine sQ 7 (Y_load1 (B := aD b) (i := 0) (cs := [vi p.Qubits, vi p.Phase, .slice B p.Terms.length c, .slice B1 p.Out.Rows.length c1]) (v := vi p.Qubits) k_sc_3 rfl rfl (hS1.cf (i := 0) rfl) rfl) ?_
 refine sQ 8 (Y_conv (k := .i64) (a := p.Qubits) (T := 3) (T' := 76) k_us_3 k_int_76_u64 rfl rfl) ?_
 obtain ⟨hsh, hF⟩ := chk_inv hF
 refine sQ 9 (Y_shl (k := .i64) (a := 1) (k' := .u64) (b := (IntKind.u64.wrap p.Qubits)) rfl rfl rfl hsh) ?_
 obtain ⟨hmk, hF⟩ := chk_inv hF
 refine sS 10 (Ys_make (s := 1) (by' := 8) (nn := (shlK .i64 1 (IntKind.u64.wrap p.Qubits)).toNat) (a := (shlK .i64 1 (IntKind.u64.wrap p.Qubits))) (b := (shlK .i64 1 (IntKind.u64.wrap p.Qubits))) (cs := ((List.replicate ((shlK .i64 1 (IntKind.u64.wrap p.Qubits)).toNat) 0).flatMap encI)) hS1 k_sl_66_3 k_sz_3_1 k_by_3_8 k_zero_3 rfl rfl rfl rfl hmk.1 rfl (by have := hmk; omega) (by have := hmk; omega) (by omega) (fm_rep (enc := encI) (d := 0) rfl _)) ?_
 rintro _ w_1 ⟨b1, rfl, hS2⟩
 refine sQ 3 (Y_assign (v := .slice (aD b1) ((shlK .i64 1 (IntKind.u64.wrap p.Qubits)).toNat) ((shlK .i64 1 (IntKind.u64.wrap p.Qubits)).toNat)) rfl rfl) (rw_nil (cw_seq (cw_seq (cw_region ?_))))
 refine sQ 11 (Y_fieldAddr (B := aD b) (i := 0) (s := 0) k_fd_70_2_2_65 k_sz_65_1 rfl rfl) ?_
 refine sQ 12 (Y_load1 (B := aD b) (i := 2) (cs := [vi p.Qubits, vi p.Phase, .slice B p.Terms.length c, .slice B1 p.Out.Rows.length c1]) (v := .slice B p.Terms.length c) k_sc_65 rfl rfl (hS2.cf (i := 0) rfl) rfl) ?_
 refine sQ 13 (Y_len (B := B) (m := p.Terms.length) (c := c) k_sl_65_136 rfl rfl) ?_
 refine sQ 14 (Y_move (v := vi 0) rfl rfl) (rw_nil ?_)
 obtain ⟨hN, hF⟩ := chk_inv hF
 obtain ⟨z, hz, hF1⟩ := bind_inv hF
 refine cw_block ?_
 refine cw_loop (fun k f w => ∃ (i : Nat) (by_ : List Int), FF f [(3, .slice (aD b1) ((shlK .i64 1 (IntKind.u64.wrap p.Qubits)).toNat) ((shlK .i64 1 (IntKind.u64.wrap p.Qubits)).toNat)), (12, .slice B p.Terms.length c), (13, vi (p.Terms.length : Int)), (14, vi (i : Int))] ∧ by_.length = (shlK .i64 1 (IntKind.u64.wrap p.Qubits)).toNat ∧ ST w0 [] w [⟨aD b1, 3, (by_.flatMap encI), ((shlK .i64 1 (IntKind.u64.wrap p.Qubits)).toNat) * 1⟩] [⟨B, (p.Terms.flatMap eN0)⟩, ⟨B1, (p.Out.Rows.flatMap encI)⟩] ∧ i + k = p.Terms.length ∧ forN (F_spec_l13By_l1 p) k i by_ = some z) p.Terms.length ⟨0, (List.replicate ((shlK .i64 1 (IntKind.u64.wrap p.Qubits)).toNat) 0), (FF.cons rfl (FF.cons rfl (FF.cons rfl (FF.cons rfl FF.nil)))), List.length_replicate, (hS2.sel [1] rfl rfl), Nat.zero_add _, hz⟩ ?_
 rintro k_ f w ⟨i, by_, hf, hl, hS3, hik, hL⟩
 refine cw_seq (cw_region ?_)
 refine sQ 15 (Y_lt (k := .i64) (a := (i : Int)) (b := (p.Terms.length : Int)) rfl (hf.get 14 3 rfl) (hf.get 13 2 rfl)) (rw_nil (cw_seq ?_))
 refine cw_cond (b := (decide ((i : Int) < (p.Terms.length : Int)))) rfl (fun hlt => ?_) (fun hlt => ?_)
 ·skip
  have hlt1 : i < p.Terms.length := by have h := of_decide_eq_true hlt; omega
  obtain ⟨k_1, rfl⟩ : ∃ k2, k_ = k2 + 1 := ⟨k_ - 1, by omega⟩
  obtain ⟨y, hb, hL1⟩ := forN_go hL
  unfold F_spec_l13By_l1 at hb
  refine cw_skip (cw_seq (cw_block (cw_seq (cw_region ?_))))
  obtain ⟨x, hx, hb⟩ := bind_inv hb
  refine sQ 16 (Y_index (B := B) (m := p.Terms.length) (c := c) (k := .i64) (i := (i : Int)) k_sl_65_136 k_sz_136_2 rfl (hf.get 12 1 rfl) (hf.get 14 3 rfl) (gi_isSome eN1 rfl (hS3.rf (i := 0) rfl) hx) (getI_nn hx) (getI_ltI hx rfl)) ?_
  refine sQ 17 (Y_loadA (B := B) (i := (i : Int).toNat * 2) (cs := (p.Terms.flatMap eN0)) (vs := [vi x.Mask, vi x.Coef]) k_ag_136 k_sz_136_2 rfl rfl (hS3.rf (i := 0) rfl) (eN1 x) (gi_seg eN1 hx)) ?_
  refine sS 5 (Ys_alloc (T := 136) (cs := [vi 0, vi 0]) (m := 2) hS3 k_zero_136 rfl rfl rfl) ?_
  rintro _ w_2 ⟨b2, rfl, hS4⟩
  refine s0 (Ys_store (i := 1) (s := 2) (B := aD b2) (T' := 136) (v := .agg #[vi x.Mask, vi x.Coef]) (vs := [vi x.Mask, vi x.Coef]) (k := 0) (cs' := [vi x.Mask, vi x.Coef]) hS4 k_sz_136_2 rfl rfl rfl rfl rfl rfl rfl (lB rfl) rfl rfl) ?_
  rintro _ w_3 ⟨rfl, hS5⟩
  refine rw_nil (cw_region ?_)
  refine sQ 18 (Y_move (v := .slice (aD b1) ((shlK .i64 1 (IntKind.u64.wrap p.Qubits)).toNat) ((shlK .i64 1 (IntKind.u64.wrap p.Qubits)).toNat)) rfl (hf.get 3 0 rfl)) ?_
  refine sQ 19 (Y_fieldAddr (B := aD b2) (i := 0) (s := 0) k_fd_136_0_0_3 k_sz_3_1 rfl rfl) ?_
  refine sQ 20 (Y_load1 (B := aD b2) (i := 0) (cs := [vi x.Mask, vi x.Coef]) (v := vi x.Mask) k_sc_3 rfl rfl (hS5.cf (i := 1) rfl) rfl) ?_
  refine sQ 21 (Y_fieldAddr (B := aD b2) (i := 0) (s := 0) k_fd_136_1_1_3 k_sz_3_1 rfl rfl) ?_
  refine sQ 22 (Y_load1 (B := aD b2) (i := 1) (cs := [vi x.Mask, vi x.Coef]) (v := vi x.Coef) k_sc_3 rfl rfl (hS5.cf (i := 1) rfl) rfl) ?_
  obtain ⟨x1, hx1, hb⟩ := bind_inv hb
  refine sQ 23 (Y_index (B := aD b1) (m := (shlK .i64 1 (IntKind.u64.wrap p.Qubits)).toNat) (c := (shlK .i64 1 (IntKind.u64.wrap p.Qubits)).toNat) (k := .i64) (i := x.Mask) k_sl_66_3 k_sz_3_1 rfl rfl rfl (gi_isSome encI_len rfl (hS5.cf (i := 0) rfl) hx1) (getI_nn hx1) (getI_ltI hx1 hl)) ?_
  refine s0 (Ys_store (i := 0) (s := 1) (B := aD b1) (T' := 3) (v := vi x.Coef) (vs := [vi x.Coef]) (k := x.Mask.toNat * 1) (cs' := ((by_.set x.Mask.toNat x.Coef).flatMap encI)) hS5 k_sz_3_1 rfl rfl rfl rfl rfl rfl rfl (gi_fit0 encI_len hx1) (gi_set encI_len hx1 x.Coef rfl) rfl) ?_
  rintro _ w_4 ⟨rfl, hS6⟩
  refine rw_nil (cw_region ?_)
  refine sQ 24 (Y_add (k := .i64) (a := (i : Int)) (b := 1) rfl (hf.get 14 3 rfl) rfl) ?_
  refine sQ 14 (Y_move (v := vi (i64.wrap ((i : Int) + 1))) rfl rfl) (rw_nil ?_)
  obtain rfl := some_inj hb
  exact ⟨k_1, Nat.lt_succ_self _, i + 1, (by_.set x.Mask.toNat x.Coef), (FF.cons (hf.get 3 0 rfl) (FF.cons (hf.get 12 1 rfl) (FF.cons (hf.get 13 2 rfl) (FF.cons (congrArg (Value.int .i64) (wr_succ hlt1 hN)) FF.nil)))), (set_len _ _ _ hl), (hS6.sel [0] rfl rfl), (by omega), hL1⟩
 ·skip
  obtain rfl : k_ = 0 := by have h := of_decide_eq_false hlt; omega
  refine cw_exit rfl ?_
  obtain rfl := some_inj hL
  refine cw_seq (cw_region ?_)
  refine sQ 25 (Y_move (v := .slice (aD b1) ((shlK .i64 1 (IntKind.u64.wrap p.Qubits)).toNat) ((shlK .i64 1 (IntKind.u64.wrap p.Qubits)).toNat)) rfl (hf.get 3 0 rfl)) ?_
  refine sQ 2 (Y_assign (v := .slice (aD b1) ((shlK .i64 1 (IntKind.u64.wrap p.Qubits)).toNat) ((shlK .i64 1 (IntKind.u64.wrap p.Qubits)).toNat)) rfl rfl) (rw_nil (cw_ret ?_))
  obtain rfl := some_inj hF1
  exact ret1 Tryz.results191 (v1 := .slice (aD b1) ((shlK .i64 1 (IntKind.u64.wrap p.Qubits)).toNat) ((shlK .i64 1 (IntKind.u64.wrap p.Qubits)).toNat)) (resAt_tmp rfl) ⟨aD b1, (shlK .i64 1 (IntKind.u64.wrap p.Qubits)).toNat, (sl_eqv hl), (hS3.sN [0])⟩

theorem c_spec_l12Identity (n : Int)  (w0 : World)  (hS : ST w0 [] w0 [] []) {r_ : TLinear} (hF : F_spec_l12Identity n = some r_) :
  CV Tryz.prog 96 #[vi n] w0 (fun v w' => ∃ (B : Option Addr) (c : Nat), v = .agg #[.slice B r_.Rows.length c] ∧ ST w0 [] w' [⟨B, 3, (r_.Rows.flatMap encI), c * 1⟩] []) := by
 unfold F_spec_l12Identity at hF
 refine cv_of_cw 19 Tryz.func96 rfl Tryz.ntmps96 rfl ?_
 refine cw_seq (cw_region ?_)
 refine sS 2 (Ys_alloc (T := 68) (cs := [.slice none 0 0]) (m := 1) hS k_zero_68 rfl rfl rfl) ?_
 rintro _ w_ ⟨b, rfl, hS1⟩
 refine rw_nil (cw_seq (cw_region ?_))
 refine sS 3 (Ys_alloc (T := 68) (cs := [.slice none 0 0]) (m := 1) hS1 k_zero_68 rfl rfl rfl) ?_
 rintro _ w_1 ⟨b1, rfl, hS2⟩
 refine rw_nil (cw_seq (cw_seq (cw_region ?_)))
 refine sQ 4 (Y_assign (v := vi 0) rfl rfl) (rw_nil ?_)
 obtain ⟨hN, hF⟩ := chk_inv hF
 obtain ⟨z, hz, hF1⟩ := bind_inv hF
 have hS4 := hS2.addNil 3
 refine cw_block ?_
 refine cw_loop (fun k f w => ∃ (i1 : Nat) (Rows : List Int) (B1 : Option Addr) (c1 : Nat), FF f [(0, vi n), (2, pt (aD b) 0), (3, pt (aD b1) 0), (4, vi (i1 : Int))] ∧ ST w0 [] w [⟨aD b, 68, [.slice none 0 0], 1⟩, ⟨aD b1, 68, [.slice B1 Rows.length c1], 1⟩, ⟨B1, 3, (Rows.flatMap encI), c1 * 1⟩] [] ∧ i1 + k = n.toNat ∧ forN F_spec_l12Identity_l1 k i1 Rows = some z) n.toNat ⟨0, [], none, 0, (FF.cons rfl (FF.cons rfl (FF.cons rfl (FF.cons rfl FF.nil)))), (hS4.sel [0, 1, 2] rfl rfl), Nat.zero_add _, hz⟩ ?_
 rintro k_ f w ⟨i1, Rows, B1, c1, hf, hS3, hik, hL⟩
 refine cw_seq (cw_seq (cw_region ?_))
 refine sQ 5 (Y_move (v := vi (i1 : Int)) rfl (hf.get 4 3 rfl)) ?_
 refine sQ 6 (Y_move (v := vi n) rfl (hf.get 0 0 rfl)) ?_
 refine sQ 7 (Y_lt (k := .i64) (a := (i1 : Int)) (b := n) rfl rfl rfl) (rw_nil ?_)
 refine cw_cond (b := (decide ((i1 : Int) < n))) rfl (fun hlt => ?_) (fun hlt => ?_)
 ·skip
  have hlt1 : i1 < n.toNat := by have h := of_decide_eq_true hlt; omega
  obtain ⟨k_1, rfl⟩ : ∃ k2, k_ = k2 + 1 := ⟨k_ - 1, by omega⟩
  obtain ⟨y, hb, hL1⟩ := forN_go hL
  unfold F_spec_l12Identity_l1 at hb
  refine cw_skip (cw_seq (cw_block (cw_region ?_)))
  refine sQ 10 (Y_fieldAddr (B := aD b1) (i := 0) (s := 0) k_fd_68_0_0_66 k_sz_66_1 rfl (hf.get 3 2 rfl)) ?_
  refine sQ 11 (Y_load1 (B := aD b1) (i := 0) (cs := [.slice B1 Rows.length c1]) (v := .slice B1 Rows.length c1) k_sc_66 rfl rfl (hS3.cf (i := 1) rfl) rfl) ?_
  refine sQ 12 (Y_move (v := vi (i1 : Int)) rfl (hf.get 4 3 rfl)) ?_
  refine sQ 13 (Y_conv (k := .i64) (a := (i1 : Int)) (T := 3) (T' := 76) k_us_3 k_int_76_u64 rfl rfl) ?_
  obtain ⟨hsh, hb⟩ := chk_inv hb
  refine sQ 14 (Y_shl (k := .i64) (a := 1) (k' := .u64) (b := (IntKind.u64.wrap (i1 : Int))) rfl rfl rfl hsh) ?_
  refine sS 15 (Ys_bslice (s := 1) (len := 1) (vs := [(0, vi (shlK .i64 1 (IntKind.u64.wrap (i1 : Int))))]) (cs := [vi (shlK .i64 1 (IntKind.u64.wrap (i1 : Int)))]) (zs := [vi 0]) (m := 1) hS3 k_sl_66_3 k_sz_3_1 k_zc_3 rfl (mpc rfl mpn) rfl rfl rfl (by kernel_rfl) (by kernel_rfl) rfl) ?_
  rintro _ w_2 ⟨b2, rfl, hS5⟩
  obtain ⟨hap, hb⟩ := chk_inv hb
  refine sS 16 (Ys_append (s := 1) (by' := 8) (i := 2) (nn := Rows.length) (c := c1) (k := 1) (len := (Rows ++ [(shlK .i64 1 (IntKind.u64.wrap (i1 : Int)))]).length) (B := B1) (xs := ([(shlK .i64 1 (IntKind.u64.wrap (i1 : Int)))].flatMap encI)) (cs' := ((Rows ++ [(shlK .i64 1 (IntKind.u64.wrap (i1 : Int)))]).flatMap encI)) hS5 k_sl_66_3 k_sz_3_1 k_by_3_8 k_zero_3 rfl (by decide) rfl rfl rfl rfl (fm_lenn (l := Rows) encI_len rfl) rfl (hS5.cf (i := 3) rfl) (fm_lenn (l := [(shlK .i64 1 (IntKind.u64.wrap (i1 : Int)))]) encI_len rfl) (fm_one' (enc := encI) encI_one [(shlK .i64 1 (IntKind.u64.wrap (i1 : Int)))]) (by have := hap; omega) (by have := hap; simp only [maxLen]; omega) (fm_app _ _) (app_len (l := Rows) (l' := [(shlK .i64 1 (IntKind.u64.wrap (i1 : Int)))]) rfl rfl)) ?_
  rintro _ w_3 ⟨B2, c2, rfl, hS6⟩
  refine sQ 17 (Y_fieldAddr (B := aD b1) (i := 0) (s := 0) k_fd_68_0_0_66 k_sz_66_1 rfl (hf.get 3 2 rfl)) ?_
  refine s0 (Ys_store (i := 1) (s := 1) (B := aD b1) (T' := 68) (v := .slice B2 ((Rows ++ [(shlK .i64 1 (IntKind.u64.wrap (i1 : Int)))]).length) c2) (vs := [.slice B2 ((Rows ++ [(shlK .i64 1 (IntKind.u64.wrap (i1 : Int)))]).length) c2]) (k := 0) (cs' := [.slice B2 ((Rows ++ [(shlK .i64 1 (IntKind.u64.wrap (i1 : Int)))]).length) c2]) hS6 k_sz_66_1 rfl rfl rfl rfl rfl rfl rfl (lB rfl) rfl rfl) ?_
  rintro _ w_4 ⟨rfl, hS7⟩
  refine rw_nil (cw_region ?_)
  refine sQ 8 (Y_move (v := vi (i1 : Int)) rfl (hf.get 4 3 rfl)) ?_
  refine sQ 9 (Y_add (k := .i64) (a := (i1 : Int)) (b := 1) rfl rfl rfl) ?_
  refine sQ 4 (Y_assign (v := vi (i64.wrap ((i1 : Int) + 1))) rfl rfl) (rw_nil ?_)
  obtain rfl := some_inj hb
  exact ⟨k_1, Nat.lt_succ_self _, i1 + 1, (Rows ++ [(shlK .i64 1 (IntKind.u64.wrap (i1 : Int)))]), B2, c2, (FF.cons (hf.get 0 0 rfl) (FF.cons (hf.get 2 1 rfl) (FF.cons (hf.get 3 2 rfl) (FF.cons (congrArg (Value.int .i64) (wr_succ hlt1 hN)) FF.nil)))), (hS7.sel [0, 1, 2] rfl rfl), (by omega), hL1⟩
 ·skip
  obtain rfl : k_ = 0 := by have h := of_decide_eq_false hlt; omega
  refine cw_exit rfl ?_
  obtain rfl := some_inj hL
  refine cw_seq (cw_region ?_)
  refine sQ 18 (Y_loadA (B := aD b1) (i := 0) (cs := [.slice B1 Rows.length c1]) (vs := [.slice B1 Rows.length c1]) k_ag_68 k_sz_68_1 rfl (hf.get 3 2 rfl) (hS3.cf (i := 1) rfl) rfl rfl) ?_
  refine s0 (Ys_store (i := 0) (s := 1) (B := aD b) (T' := 68) (v := .agg #[.slice B1 Rows.length c1]) (vs := [.slice B1 Rows.length c1]) (k := 0) (cs' := [.slice B1 Rows.length c1]) hS3 k_sz_68_1 rfl (hf.get 2 1 rfl) rfl rfl rfl rfl rfl (lB rfl) rfl rfl) ?_
  rintro _ w_5 ⟨rfl, hS8⟩
  refine rw_nil (cw_ret ?_)
  obtain rfl := some_inj hF1
  exact ret1 Tryz.results96 (v1 := .agg #[.slice B1 Rows.length c1]) (resAt_cellA (B := aD b) (i := 0) (cs := [.slice B1 Rows.length c1]) (vs := [.slice B1 Rows.length c1]) (hf.get 2 1 rfl) k_ag_68 k_sz_68_1 (hS8.cf (i := 0) rfl) rfl rfl) ⟨B1, c1, rfl, (hS8.sN [2])⟩

theorem c_spec_l1Own (l : List Int) (B : Option Addr) (c n : Nat) (w0 : World) (hn : l.length = n) (hS : ST w0 [] w0 [] [⟨B, (l.flatMap encI)⟩]) {r_ : List Int} (hF : F_spec_l1Own l = some r_) :
  CV Tryz.prog 177 #[.slice B n c] w0 (fun v w' => ∃ (B1 : Option Addr) (c1 : Nat), v = .slice B1 r_.length c1 ∧ ST w0 [] w' [⟨B1, 3, (r_.flatMap encI), c1 * 1⟩] []) := by
 subst hn
 unfold F_spec_l1Own at hF
 refine cv_of_cw 6 Tryz.func177 rfl Tryz.ntmps177 rfl ?_
 refine cw_seq (cw_region ?_)
 refine sQ 2 (Y_assign (v := .slice none 0 0) rfl rfl) (rw_nil (cw_seq (cw_region ?_)))
 refine sS 3 (Ys_bslice0 (s := 1) (e := 3) hS k_sl_66_3 k_sz_3_1 rfl) ?_
 rintro _ w_ ⟨b, rfl, hS1⟩
 refine sQ 4 (Y_move (v := .slice B l.length c) rfl rfl) ?_
 obtain ⟨hap, hF⟩ := chk_inv hF
 refine sS 5 (Ys_append (s := 1) (by' := 8) (i := 0) (nn := 0) (c := 0) (k := l.length) (len := l.length) (B := aD b) (xs := (l.flatMap encI)) (cs' := (l.flatMap encI)) hS1 k_sl_66_3 k_sz_3_1 k_by_3_8 k_zero_3 rfl (by decide) rfl rfl rfl rfl (fm_lenn (l := []) encI_len rfl) rfl (hS1.rf (i := 0) rfl) (fm_lenn (l := l) encI_len rfl) (fm_one' (enc := encI) encI_one l) (by have := hap; omega) (by have := hap; simp only [maxLen]; omega) rfl (app_len0 (l := l) rfl)) ?_
 rintro _ w_1 ⟨B2, c2, rfl, hS2⟩
 refine sQ 2 (Y_assign (v := .slice B2 l.length c2) rfl rfl) (rw_nil (cw_ret ?_))
 obtain rfl := some_inj hF
 exact ret1 Tryz.results177 (v1 := .slice B2 l.length c2) (resAt_tmp rfl) ⟨B2, c2, rfl, (hS2.sN [0])⟩

theorem c_spec_l12CX (m : TLinear) (a : Int) (b : Int) (B : Option Addr) (c n : Nat) (w0 : World) (hn : m.Rows.length = n) (hS : ST w0 [] w0 [] [⟨B, (m.Rows.flatMap encI)⟩]) {r_ : TLinear} (hF : F_spec_l12CX m a b = some r_) :
  CV Tryz.prog 97 #[.agg #[.slice B n c], vi a, vi b] w0 (fun v w' => ∃ (B1 : Option Addr) (c1 : Nat), v = .agg #[.slice B1 r_.Rows.length c1] ∧ ST w0 [] w' [⟨B1, 3, (r_.Rows.flatMap encI), c1 * 1⟩] []) := by
 subst hn
 unfold F_spec_l12CX at hF
 refine cv_of_cw 25 Tryz.func97 rfl Tryz.ntmps97 rfl ?_
 refine cw_seq (cw_region ?_)
 refine sS 3 (Ys_box (T := 68) (v := .agg #[.slice B m.Rows.length c]) (cs := [.slice B m.Rows.length c]) (m := 1) hS rfl rfl rfl rfl) ?_
 rintro _ w_ ⟨b1, rfl, hS1⟩
 refine sS 6 (Ys_alloc (T := 68) (cs := [.slice none 0 0]) (m := 1) hS1 k_zero_68 rfl rfl rfl) ?_
 rintro _ w_1 ⟨b2, rfl, hS2⟩
 refine rw_nil (cw_seq (cw_region ?_))
 refine sQ 8 (Y_fieldAddr (B := aD b1) (i := 0) (s := 0) k_fd_68_0_0_66 k_sz_66_1 rfl rfl) ?_
 refine sQ 9 (Y_load1 (B := aD b1) (i := 0) (cs := [.slice B m.Rows.length c]) (v := .slice B m.Rows.length c) k_sc_66 rfl rfl (hS2.cf (i := 0) rfl) rfl) ?_
 obtain ⟨r_1, hc, hF⟩ := bind_inv hF
 refine sc 10 rfl rfl (Yc_func (g := 177) (vs := [.slice B m.Rows.length c]) k_call_177 rfl (mc rfl mn) (c_spec_l1Own m.Rows B c m.Rows.length _ rfl (hS2.inn0 [(true, 0)] rfl) hc)) ?_
 rintro _ w_2 ⟨B2, c2, rfl, hd⟩
 have hS3 := hS2.out0 hd
 refine sQ 11 (Y_buildS (zs := [.slice none 0 0]) (vs := [(0, .slice B2 r_1.length c2)]) (cs := [.slice B2 r_1.length c2]) k_pl_68 k_zero_68 rfl (mpc rfl mpn) rfl) ?_
 refine sS 7 (Ys_alloc (T := 68) (cs := [.slice none 0 0]) (m := 1) hS3 k_zero_68 rfl rfl rfl) ?_
 rintro _ w_3 ⟨b3, rfl, hS4⟩
 refine s0 (Ys_store (i := 3) (s := 1) (B := aD b3) (T' := 68) (v := .agg #[.slice B2 r_1.length c2]) (vs := [.slice B2 r_1.length c2]) (k := 0) (cs' := [.slice B2 r_1.length c2]) hS4 k_sz_68_1 rfl rfl rfl rfl rfl rfl rfl (lB rfl) rfl rfl) ?_
 rintro _ w_4 ⟨rfl, hS5⟩
 refine rw_nil (cw_seq ?_)
 obtain ⟨x, hx, hF⟩ := bind_inv hF
 obtain ⟨x1, hx1, hF⟩ := bind_inv hF
 refine cw_mid (fun f w => FF f [(6, pt (aD b2) 0), (7, pt (aD b3) 0)] ∧ ST w0 [] w [⟨aD b2, 68, [.slice none 0 0], 1⟩, ⟨aD b3, 68, [.slice B2 r_1.length c2], 1⟩, ⟨B2, 3, ((r_1.set b.toNat (bits .xor .i64 x x1)).flatMap encI), c2 * 1⟩] [⟨B, (m.Rows.flatMap encI)⟩]) ?_ ?_
 ·skip
  refine ra_start (hS5.se [0, 1, 3]).fn (by kernel_rfl) ?_
  have hS7 := hS5.drew
  refine rq 0 12 (v := pt (aD b3) 0) rfl (hS7.se [0, 1, 3]) (fun w' hw' => (Y_fieldAddr (B := aD b3) (i := 0) (s := 0) k_fd_68_0_0_66 k_sz_66_1 rfl rfl)) ?_
  refine rq 1 13 (v := .slice B2 r_1.length c2) rfl (hS7.se [0, 1, 3]) (fun w' hw' => (Y_load1 (B := aD b3) (i := 0) (cs := [.slice B2 r_1.length c2]) (v := .slice B2 r_1.length c2) k_sc_66 rfl rfl (ST.cf hw' (i := 2) rfl) rfl)) ?_
  refine rq 2 14 (v := vi b) rfl (hS7.se [0, 1, 3]) (fun w' hw' => (Y_move (v := vi b) rfl rfl)) ?_
  refine rq 5 17 (v := pt (aD b3) 0) rfl (hS7.se [0, 1, 3]) (fun w' hw' => (Y_fieldAddr (B := aD b3) (i := 0) (s := 0) k_fd_68_0_0_66 k_sz_66_1 rfl rfl)) ?_
  refine rq 6 18 (v := .slice B2 r_1.length c2) rfl (hS7.se [0, 1, 3]) (fun w' hw' => (Y_load1 (B := aD b3) (i := 0) (cs := [.slice B2 r_1.length c2]) (v := .slice B2 r_1.length c2) k_sc_66 rfl rfl (ST.cf hw' (i := 2) rfl) rfl)) ?_
  refine rq 7 19 (v := vi a) rfl (hS7.se [0, 1, 3]) (fun w' hw' => (Y_move (v := vi a) rfl rfl)) ?_
  refine rA [3, 8] ?_
  refine ra_y 15 (i := 3) (v := pt B2 (b.toNat * 1)) rfl rfl rfl (Y_index (B := B2) (m := r_1.length) (c := c2) (k := .i64) (i := b) k_sl_66_3 k_sz_3_1 rfl rfl rfl (gi_isSome encI_len rfl (hS7.cf (i := 2) rfl) hx) (getI_nn hx) (getI_ltI hx rfl)) (hS7.se [0, 1, 3]) ?_ ?_
  ·skip
   refine rA [4, 8] ?_
   refine ra_y 16 (i := 4) (v := vi x) rfl rfl rfl (Y_load1 (B := B2) (i := b.toNat * 1) (cs := (r_1.flatMap encI)) (v := vi x) k_sc_3 rfl rfl (hS7.cf (i := 2) rfl) (gi_at0 encI_len hx rfl)) (hS7.se [0, 1, 3]) ?_ ?_
   ·skip
    refine rA [8] ?_
    refine ra_y 20 (i := 8) (v := pt B2 (a.toNat * 1)) rfl rfl rfl (Y_index (B := B2) (m := r_1.length) (c := c2) (k := .i64) (i := a) k_sl_66_3 k_sz_3_1 rfl rfl rfl (gi_isSome encI_len rfl (hS7.cf (i := 2) rfl) hx1) (getI_nn hx1) (getI_ltI hx1 rfl)) (hS7.se [0, 1, 3]) ?_ ?_
    ·skip
     refine rA [9] ?_
     refine ra_y 21 (i := 9) (v := vi x1) rfl rfl rfl (Y_load1 (B := B2) (i := a.toNat * 1) (cs := (r_1.flatMap encI)) (v := vi x1) k_sc_3 rfl rfl (hS7.cf (i := 2) rfl) (gi_at0 encI_len hx1 rfl)) (hS7.se [0, 1, 3]) ?_ ?_
     ·skip
      refine rq 10 22 (v := vi (bits .xor .i64 x x1)) rfl (hS7.se [0, 1, 3]) (fun w' hw' => (Y_bxor (k := .i64) (a := x) (b := x1) rfl rfl rfl)) ?_
      refine rA [11] ?_
      refine ra_y 23 (i := 11) (v := pt B2 (b.toNat * 1)) rfl rfl rfl (Y_index (B := B2) (m := r_1.length) (c := c2) (k := .i64) (i := b) k_sl_66_3 k_sz_3_1 rfl rfl rfl (gi_isSome encI_len rfl (hS7.cf (i := 2) rfl) hx) (getI_nn hx) (getI_ltI hx rfl)) (hS7.se [0, 1, 3]) ?_ ?_
      ·skip
       refine rA [12] ?_
       refine ra_s0 (i := 12) rfl rfl rfl (Ys_store (i := 2) (s := 1) (B := B2) (T' := 3) (v := vi (bits .xor .i64 x x1)) (vs := [vi (bits .xor .i64 x x1)]) (k := b.toNat * 1) (cs' := ((r_1.set b.toNat (bits .xor .i64 x x1)).flatMap encI)) hS7 k_sz_3_1 rfl rfl rfl rfl rfl rfl rfl (gi_fit0 encI_len hx) (gi_set encI_len hx (bits .xor .i64 x x1) rfl) rfl) ?_ ?_
       ·rintro _ w_5 ⟨rfl, hS8⟩
        refine ⟨(hS8.se [0, 1, 3]), ?_⟩
        refine ra_done (by kernel_rfl) ?_
        exact ⟨(FF.cons rfl (FF.cons rfl FF.nil)), (hS8.sel [1, 3, 2] rfl rfl)⟩
       exact allR_nil
      exact allR_nil
     exact allR_nil
    exact allR_nil
   refine ra_y 20 (i := 8) (v := pt B2 (a.toNat * 1)) rfl rfl rfl (Y_index (B := B2) (m := r_1.length) (c := c2) (k := .i64) (i := a) k_sl_66_3 k_sz_3_1 rfl rfl rfl (gi_isSome encI_len rfl (hS7.cf (i := 2) rfl) hx1) (getI_nn hx1) (getI_ltI hx1 rfl)) (hS7.se [0, 1, 3]) ?_ ?_
   ·skip
    refine rA [4, 9] ?_
    refine ra_y 16 (i := 4) (v := vi x) rfl rfl rfl (Y_load1 (B := B2) (i := b.toNat * 1) (cs := (r_1.flatMap encI)) (v := vi x) k_sc_3 rfl rfl (hS7.cf (i := 2) rfl) (gi_at0 encI_len hx rfl)) (hS7.se [0, 1, 3]) ?_ ?_
    ·skip
     refine rA [9] ?_
     refine ra_y 21 (i := 9) (v := vi x1) rfl rfl rfl (Y_load1 (B := B2) (i := a.toNat * 1) (cs := (r_1.flatMap encI)) (v := vi x1) k_sc_3 rfl rfl (hS7.cf (i := 2) rfl) (gi_at0 encI_len hx1 rfl)) (hS7.se [0, 1, 3]) ?_ ?_
     ·skip
      refine rq 10 22 (v := vi (bits .xor .i64 x x1)) rfl (hS7.se [0, 1, 3]) (fun w' hw' => (Y_bxor (k := .i64) (a := x) (b := x1) rfl rfl rfl)) ?_
      refine rA [11] ?_
      refine ra_y 23 (i := 11) (v := pt B2 (b.toNat * 1)) rfl rfl rfl (Y_index (B := B2) (m := r_1.length) (c := c2) (k := .i64) (i := b) k_sl_66_3 k_sz_3_1 rfl rfl rfl (gi_isSome encI_len rfl (hS7.cf (i := 2) rfl) hx) (getI_nn hx) (getI_ltI hx rfl)) (hS7.se [0, 1, 3]) ?_ ?_
      ·skip
       refine rA [12] ?_
       refine ra_s0 (i := 12) rfl rfl rfl (Ys_store (i := 2) (s := 1) (B := B2) (T' := 3) (v := vi (bits .xor .i64 x x1)) (vs := [vi (bits .xor .i64 x x1)]) (k := b.toNat * 1) (cs' := ((r_1.set b.toNat (bits .xor .i64 x x1)).flatMap encI)) hS7 k_sz_3_1 rfl rfl rfl rfl rfl rfl rfl (gi_fit0 encI_len hx) (gi_set encI_len hx (bits .xor .i64 x x1) rfl) rfl) ?_ ?_
       ·rintro _ w_6 ⟨rfl, hS9⟩
        refine ⟨(hS9.se [0, 1, 3]), ?_⟩
        refine ra_done (by kernel_rfl) ?_
        exact ⟨(FF.cons rfl (FF.cons rfl FF.nil)), (hS9.sel [1, 3, 2] rfl rfl)⟩
       exact allR_nil
      exact allR_nil
     exact allR_nil
    refine ra_y 21 (i := 9) (v := vi x1) rfl rfl rfl (Y_load1 (B := B2) (i := a.toNat * 1) (cs := (r_1.flatMap encI)) (v := vi x1) k_sc_3 rfl rfl (hS7.cf (i := 2) rfl) (gi_at0 encI_len hx1 rfl)) (hS7.se [0, 1, 3]) ?_ ?_
    ·skip
     refine rA [4] ?_
     refine ra_y 16 (i := 4) (v := vi x) rfl rfl rfl (Y_load1 (B := B2) (i := b.toNat * 1) (cs := (r_1.flatMap encI)) (v := vi x) k_sc_3 rfl rfl (hS7.cf (i := 2) rfl) (gi_at0 encI_len hx rfl)) (hS7.se [0, 1, 3]) ?_ ?_
     ·skip
      refine rq 10 22 (v := vi (bits .xor .i64 x x1)) rfl (hS7.se [0, 1, 3]) (fun w' hw' => (Y_bxor (k := .i64) (a := x) (b := x1) rfl rfl rfl)) ?_
      refine rA [11] ?_
      refine ra_y 23 (i := 11) (v := pt B2 (b.toNat * 1)) rfl rfl rfl (Y_index (B := B2) (m := r_1.length) (c := c2) (k := .i64) (i := b) k_sl_66_3 k_sz_3_1 rfl rfl rfl (gi_isSome encI_len rfl (hS7.cf (i := 2) rfl) hx) (getI_nn hx) (getI_ltI hx rfl)) (hS7.se [0, 1, 3]) ?_ ?_
      ·skip
       refine rA [12] ?_
       refine ra_s0 (i := 12) rfl rfl rfl (Ys_store (i := 2) (s := 1) (B := B2) (T' := 3) (v := vi (bits .xor .i64 x x1)) (vs := [vi (bits .xor .i64 x x1)]) (k := b.toNat * 1) (cs' := ((r_1.set b.toNat (bits .xor .i64 x x1)).flatMap encI)) hS7 k_sz_3_1 rfl rfl rfl rfl rfl rfl rfl (gi_fit0 encI_len hx) (gi_set encI_len hx (bits .xor .i64 x x1) rfl) rfl) ?_ ?_
       ·rintro _ w_7 ⟨rfl, hS10⟩
        refine ⟨(hS10.se [0, 1, 3]), ?_⟩
        refine ra_done (by kernel_rfl) ?_
        exact ⟨(FF.cons rfl (FF.cons rfl FF.nil)), (hS10.sel [1, 3, 2] rfl rfl)⟩
       exact allR_nil
      exact allR_nil
     exact allR_nil
    exact allR_nil
   exact allR_nil
  refine ra_y 20 (i := 8) (v := pt B2 (a.toNat * 1)) rfl rfl rfl (Y_index (B := B2) (m := r_1.length) (c := c2) (k := .i64) (i := a) k_sl_66_3 k_sz_3_1 rfl rfl rfl (gi_isSome encI_len rfl (hS7.cf (i := 2) rfl) hx1) (getI_nn hx1) (getI_ltI hx1 rfl)) (hS7.se [0, 1, 3]) ?_ ?_
  ·skip
   refine rA [3, 9] ?_
   refine ra_y 15 (i := 3) (v := pt B2 (b.toNat * 1)) rfl rfl rfl (Y_index (B := B2) (m := r_1.length) (c := c2) (k := .i64) (i := b) k_sl_66_3 k_sz_3_1 rfl rfl rfl (gi_isSome encI_len rfl (hS7.cf (i := 2) rfl) hx) (getI_nn hx) (getI_ltI hx rfl)) (hS7.se [0, 1, 3]) ?_ ?_
   ·skip
    refine rA [4, 9] ?_
    refine ra_y 16 (i := 4) (v := vi x) rfl rfl rfl (Y_load1 (B := B2) (i := b.toNat * 1) (cs := (r_1.flatMap encI)) (v := vi x) k_sc_3 rfl rfl (hS7.cf (i := 2) rfl) (gi_at0 encI_len hx rfl)) (hS7.se [0, 1, 3]) ?_ ?_
    ·skip
     refine rA [9] ?_
     refine ra_y 21 (i := 9) (v := vi x1) rfl rfl rfl (Y_load1 (B := B2) (i := a.toNat * 1) (cs := (r_1.flatMap encI)) (v := vi x1) k_sc_3 rfl rfl (hS7.cf (i := 2) rfl) (gi_at0 encI_len hx1 rfl)) (hS7.se [0, 1, 3]) ?_ ?_
     ·skip
      refine rq 10 22 (v := vi (bits .xor .i64 x x1)) rfl (hS7.se [0, 1, 3]) (fun w' hw' => (Y_bxor (k := .i64) (a := x) (b := x1) rfl rfl rfl)) ?_
      refine rA [11] ?_
      refine ra_y 23 (i := 11) (v := pt B2 (b.toNat * 1)) rfl rfl rfl (Y_index (B := B2) (m := r_1.length) (c := c2) (k := .i64) (i := b) k_sl_66_3 k_sz_3_1 rfl rfl rfl (gi_isSome encI_len rfl (hS7.cf (i := 2) rfl) hx) (getI_nn hx) (getI_ltI hx rfl)) (hS7.se [0, 1, 3]) ?_ ?_
      ·skip
       refine rA [12] ?_
       refine ra_s0 (i := 12) rfl rfl rfl (Ys_store (i := 2) (s := 1) (B := B2) (T' := 3) (v := vi (bits .xor .i64 x x1)) (vs := [vi (bits .xor .i64 x x1)]) (k := b.toNat * 1) (cs' := ((r_1.set b.toNat (bits .xor .i64 x x1)).flatMap encI)) hS7 k_sz_3_1 rfl rfl rfl rfl rfl rfl rfl (gi_fit0 encI_len hx) (gi_set encI_len hx (bits .xor .i64 x x1) rfl) rfl) ?_ ?_
       ·rintro _ w_8 ⟨rfl, hS11⟩
        refine ⟨(hS11.se [0, 1, 3]), ?_⟩
        refine ra_done (by kernel_rfl) ?_
        exact ⟨(FF.cons rfl (FF.cons rfl FF.nil)), (hS11.sel [1, 3, 2] rfl rfl)⟩
       exact allR_nil
      exact allR_nil
     exact allR_nil
    refine ra_y 21 (i := 9) (v := vi x1) rfl rfl rfl (Y_load1 (B := B2) (i := a.toNat * 1) (cs := (r_1.flatMap encI)) (v := vi x1) k_sc_3 rfl rfl (hS7.cf (i := 2) rfl) (gi_at0 encI_len hx1 rfl)) (hS7.se [0, 1, 3]) ?_ ?_
    ·skip
     refine rA [4] ?_
     refine ra_y 16 (i := 4) (v := vi x) rfl rfl rfl (Y_load1 (B := B2) (i := b.toNat * 1) (cs := (r_1.flatMap encI)) (v := vi x) k_sc_3 rfl rfl (hS7.cf (i := 2) rfl) (gi_at0 encI_len hx rfl)) (hS7.se [0, 1, 3]) ?_ ?_
     ·skip
      refine rq 10 22 (v := vi (bits .xor .i64 x x1)) rfl (hS7.se [0, 1, 3]) (fun w' hw' => (Y_bxor (k := .i64) (a := x) (b := x1) rfl rfl rfl)) ?_
      refine rA [11] ?_
      refine ra_y 23 (i := 11) (v := pt B2 (b.toNat * 1)) rfl rfl rfl (Y_index (B := B2) (m := r_1.length) (c := c2) (k := .i64) (i := b) k_sl_66_3 k_sz_3_1 rfl rfl rfl (gi_isSome encI_len rfl (hS7.cf (i := 2) rfl) hx) (getI_nn hx) (getI_ltI hx rfl)) (hS7.se [0, 1, 3]) ?_ ?_
      ·skip
       refine rA [12] ?_
       refine ra_s0 (i := 12) rfl rfl rfl (Ys_store (i := 2) (s := 1) (B := B2) (T' := 3) (v := vi (bits .xor .i64 x x1)) (vs := [vi (bits .xor .i64 x x1)]) (k := b.toNat * 1) (cs' := ((r_1.set b.toNat (bits .xor .i64 x x1)).flatMap encI)) hS7 k_sz_3_1 rfl rfl rfl rfl rfl rfl rfl (gi_fit0 encI_len hx) (gi_set encI_len hx (bits .xor .i64 x x1) rfl) rfl) ?_ ?_
       ·rintro _ w_9 ⟨rfl, hS12⟩
        refine ⟨(hS12.se [0, 1, 3]), ?_⟩
        refine ra_done (by kernel_rfl) ?_
        exact ⟨(FF.cons rfl (FF.cons rfl FF.nil)), (hS12.sel [1, 3, 2] rfl rfl)⟩
       exact allR_nil
      exact allR_nil
     exact allR_nil
    exact allR_nil
   refine ra_y 21 (i := 9) (v := vi x1) rfl rfl rfl (Y_load1 (B := B2) (i := a.toNat * 1) (cs := (r_1.flatMap encI)) (v := vi x1) k_sc_3 rfl rfl (hS7.cf (i := 2) rfl) (gi_at0 encI_len hx1 rfl)) (hS7.se [0, 1, 3]) ?_ ?_
   ·skip
    refine rA [3] ?_
    refine ra_y 15 (i := 3) (v := pt B2 (b.toNat * 1)) rfl rfl rfl (Y_index (B := B2) (m := r_1.length) (c := c2) (k := .i64) (i := b) k_sl_66_3 k_sz_3_1 rfl rfl rfl (gi_isSome encI_len rfl (hS7.cf (i := 2) rfl) hx) (getI_nn hx) (getI_ltI hx rfl)) (hS7.se [0, 1, 3]) ?_ ?_
    ·skip
     refine rA [4] ?_
     refine ra_y 16 (i := 4) (v := vi x) rfl rfl rfl (Y_load1 (B := B2) (i := b.toNat * 1) (cs := (r_1.flatMap encI)) (v := vi x) k_sc_3 rfl rfl (hS7.cf (i := 2) rfl) (gi_at0 encI_len hx rfl)) (hS7.se [0, 1, 3]) ?_ ?_
     ·skip
      refine rq 10 22 (v := vi (bits .xor .i64 x x1)) rfl (hS7.se [0, 1, 3]) (fun w' hw' => (Y_bxor (k := .i64) (a := x) (b := x1) rfl rfl rfl)) ?_
      refine rA [11] ?_
      refine ra_y 23 (i := 11) (v := pt B2 (b.toNat * 1)) rfl rfl rfl (Y_index (B := B2) (m := r_1.length) (c := c2) (k := .i64) (i := b) k_sl_66_3 k_sz_3_1 rfl rfl rfl (gi_isSome encI_len rfl (hS7.cf (i := 2) rfl) hx) (getI_nn hx) (getI_ltI hx rfl)) (hS7.se [0, 1, 3]) ?_ ?_
      ·skip
       refine rA [12] ?_
       refine ra_s0 (i := 12) rfl rfl rfl (Ys_store (i := 2) (s := 1) (B := B2) (T' := 3) (v := vi (bits .xor .i64 x x1)) (vs := [vi (bits .xor .i64 x x1)]) (k := b.toNat * 1) (cs' := ((r_1.set b.toNat (bits .xor .i64 x x1)).flatMap encI)) hS7 k_sz_3_1 rfl rfl rfl rfl rfl rfl rfl (gi_fit0 encI_len hx) (gi_set encI_len hx (bits .xor .i64 x x1) rfl) rfl) ?_ ?_
       ·rintro _ w_10 ⟨rfl, hS13⟩
        refine ⟨(hS13.se [0, 1, 3]), ?_⟩
        refine ra_done (by kernel_rfl) ?_
        exact ⟨(FF.cons rfl (FF.cons rfl FF.nil)), (hS13.sel [1, 3, 2] rfl rfl)⟩
       exact allR_nil
      exact allR_nil
     exact allR_nil
    exact allR_nil
   exact allR_nil
  exact allR_nil
 rintro f w ⟨hf, hS6⟩
 refine cw_seq (cw_region ?_)
 refine sQ 24 (Y_loadA (B := aD b3) (i := 0) (cs := [.slice B2 r_1.length c2]) (vs := [.slice B2 r_1.length c2]) k_ag_68 k_sz_68_1 rfl (hf.get 7 1 rfl) (hS6.cf (i := 1) rfl) rfl rfl) ?_
 refine s0 (Ys_store (i := 0) (s := 1) (B := aD b2) (T' := 68) (v := .agg #[.slice B2 r_1.length c2]) (vs := [.slice B2 r_1.length c2]) (k := 0) (cs' := [.slice B2 r_1.length c2]) hS6 k_sz_68_1 rfl (hf.get 6 0 rfl) rfl rfl rfl rfl rfl (lB rfl) rfl rfl) ?_
 rintro _ w_11 ⟨rfl, hS14⟩
 refine rw_nil (cw_ret ?_)
 obtain rfl := some_inj hF
 exact ret1 Tryz.results97 (v1 := .agg #[.slice B2 r_1.length c2]) (resAt_cellA (B := aD b2) (i := 0) (cs := [.slice B2 r_1.length c2]) (vs := [.slice B2 r_1.length c2]) (hf.get 6 0 rfl) k_ag_68 k_sz_68_1 (hS14.cf (i := 0) rfl) rfl rfl) ⟨B2, c2, (by simp [(set_len _ _ _ rfl)]), (hS14.sN [2])⟩

theorem c_spec_l1Cur_linear (c : Tl1Cur) (n1 : Int) (B : Option Addr) (B1 : Option Addr) (c1 n : Nat) (w0 : World) (hn : c.code.length = n) (hS : ST w0 (bl [⟨B, 112, [.slice B1 n c1, vi c.at_, .int .u64 c.seed], 3⟩]) w0 [⟨B, 112, [.slice B1 n c1, vi c.at_, .int .u64 c.seed], 3⟩] [⟨B1, (c.code.flatMap enc_u8)⟩]) {r_ : TLinear} {m : Tl1Cur} (hF : F_spec_l1Cur_linear c n1 = some (r_, m)) :
  CV Tryz.prog 236 #[pt B 0, vi n1] w0 (fun v w' => ∃ (B2 : Option Addr) (c2 : Nat), v = .agg #[.slice B2 r_.Rows.length c2] ∧ ST w0 (bl [⟨B, 112, [.slice B1 n c1, vi c.at_, .int .u64 c.seed], 3⟩]) w' [⟨B, 112, [.slice B1 n c1, vi m.at_, .int .u64 m.seed], 3⟩, ⟨B2, 3, (r_.Rows.flatMap encI), c2 * 1⟩] []) := by
 subst hn
 unfold F_spec_l1Cur_linear at hF
 refine cv_of_cw 36 Tryz.func236 rfl Tryz.ntmps236 rfl ?_
 refine cw_seq (cw_region ?_)
 refine sS 4 (Ys_alloc (T := 68) (cs := [.slice none 0 0]) (m := 1) hS k_zero_68 rfl rfl rfl) ?_
 rintro _ w_ ⟨b, rfl, hS1⟩
 refine rw_nil (cw_seq (cw_region ?_))
 refine sQ 8 (Y_move (v := vi n1) rfl rfl) ?_
 obtain ⟨r_1, hc, hF⟩ := bind_inv hF
 refine sc 9 rfl rfl (Yc_func (g := 96) (vs := [vi n1]) k_call_96 rfl (mc rfl mn) (c_spec_l12Identity n1 _  (hS1.inn0 [] rfl) hc)) ?_
 rintro _ w_1 ⟨B3, c3, rfl, hd⟩
 have hS2 := hS1.out0 hd
 refine sS 5 (Ys_alloc (T := 68) (cs := [.slice none 0 0]) (m := 1) hS2 k_zero_68 rfl rfl rfl) ?_
 rintro _ w_2 ⟨b1, rfl, hS3⟩
 refine s0 (Ys_store (i := 3) (s := 1) (B := aD b1) (T' := 68) (v := .agg #[.slice B3 r_1.Rows.length c3]) (vs := [.slice B3 r_1.Rows.length c3]) (k := 0) (cs' := [.slice B3 r_1.Rows.length c3]) hS3 k_sz_68_1 rfl rfl rfl rfl rfl rfl rfl (lB rfl) rfl rfl) ?_
 rintro _ w_3 ⟨rfl, hS4⟩
 refine rw_nil (cw_seq (cw_seq (cw_region ?_)))
 refine sQ 10 (Y_move (v := pt B 0) rfl rfl) ?_
 obtain ⟨⟨r_2, m1⟩, hc1, hF⟩ := bind_inv hF
 refine sc 11 rfl rfl (Yc_func (g := 71) (vs := [pt B 0, vi 8]) k_call_71 rfl (mc rfl (mc rfl mn)) (c_spec_l1Cur_pick c 8 B B1 c1 c.code.length _ rfl (hS4.inn [true, false, false, false] rfl [(true, 0)] rfl) hc1)) ?_
 rintro _ w_4 ⟨rfl, hd1⟩
 have hS5 := hS4.out [true, false, false, false] rfl hd1
 refine sQ 6 (Y_assign (v := vi r_2) rfl rfl) (rw_nil ?_)
 obtain ⟨z, hz, hF1⟩ := bind_inv hF
 refine cw_block ?_
 refine cw_loop (fun k f w => ∃ (at_ : Int) (seed : Int) (Rows : List Int) (k_ : Int) (B4 : Option Addr) (c4 : Nat), FF f [(0, pt B 0), (1, vi n1), (4, pt (aD b) 0), (5, pt (aD b1) 0), (6, vi k_)] ∧ ST w0 (bl [⟨B, 112, [.slice B1 c.code.length c1, vi c.at_, .int .u64 c.seed], 3⟩]) w [⟨B, 112, [.slice B1 c.code.length c1, vi at_, .int .u64 seed], 3⟩, ⟨aD b, 68, [.slice none 0 0], 1⟩, ⟨aD b1, 68, [.slice B4 Rows.length c4], 1⟩, ⟨B4, 3, (Rows.flatMap encI), c4 * 1⟩] [⟨B1, (c.code.flatMap enc_u8)⟩] ∧ whX (F_spec_l1Cur_linear_l1 n1 c) k (at_, seed, Rows, k_) = some z) fuel ⟨m1.at_, m1.seed, r_1.Rows, r_2, B3, c3, (FF.cons rfl (FF.cons rfl (FF.cons rfl (FF.cons rfl (FF.cons rfl FF.nil))))), (hS5.sel [3, 0, 2, 1] rfl rfl), hz⟩ ?_
 rintro k_1 f w ⟨at_, seed, Rows, k_, B4, c4, hf, hS6, hL⟩
 obtain ⟨k_2, y, rfl, hb, hL1⟩ := whX_go hL
 unfold F_spec_l1Cur_linear_l1 at hb
 refine cw_seq (cw_seq (cw_region ?_))
 refine sQ 12 (Y_move (v := vi k_) rfl (hf.get 6 4 rfl)) ?_
 refine sQ 13 (Y_gt (k := .i64) (a := k_) (b := 0) rfl rfl rfl) ?_
 refine sQ 14 (Y_move (v := .bool (decide (0 < k_))) rfl rfl) ?_
 refine sgq 15 (B := (decide (0 < k_))) (v := vi n1) rfl rfl (uT_ 14) (fun hg => (Y_move (v := vi n1) rfl (hf.get 1 1 rfl))) ?_
 refine sgq 16 (B := (decide (0 < k_))) (v := .bool (decide (1 < n1))) rfl rfl (uT_ 14) (fun hg1 => (Y_gt (k := .i64) (a := n1) (b := 1) rfl (gv_of (v := vi n1) hg1) rfl)) ?_
 refine sQ 17 (Y_and (b := (decide (0 < k_))) (z := (decide (1 < n1))) rfl rfl rfl rfl) (rw_nil ?_)
 refine cw_cond (b := ((decide (0 < k_)) && (decide (1 < n1)))) rfl (fun hb1 => ?_) (fun hb1 => ?_)
 ·skip
  have hF2 := ct hb hb1
  refine cw_skip (cw_seq (cw_block (cw_seq (cw_region ?_))))
  refine sQ 20 (Y_move (v := pt B 0) rfl (hf.get 0 0 rfl)) ?_
  refine sQ 21 (Y_move (v := vi n1) rfl (hf.get 1 1 rfl)) ?_
  obtain ⟨⟨r_3, m2⟩, hc2, hF2⟩ := bind_inv hF2
  refine sc 22 rfl rfl (Yc_func (g := 71) (vs := [pt B 0, vi n1]) k_call_71 rfl (mc rfl (mc rfl mn)) (c_spec_l1Cur_pick (Tl1Cur.mk c.code at_ seed) n1 B B1 c1 c.code.length _ rfl (hS6.inn [true, false, false, false] rfl [(true, 0)] rfl) hc2)) ?_
  rintro _ w_5 ⟨rfl, hd2⟩
  have hS7 := hS6.out [true, false, false, false] rfl hd2
  refine sQ 7 (Y_assign (v := vi r_3) rfl rfl) (rw_nil ?_)
  obtain ⟨⟨r_4, m3⟩, hc3, hF2⟩ := bind_inv hF2
  obtain ⟨hne, hF2⟩ := chk_inv hF2
  obtain ⟨r_5, hc4, hF2⟩ := bind_inv hF2
  refine cw_mid (fun f w => ∃ (B6 : Option Addr) (c6 : Nat), FF f [(0, pt B 0), (1, vi n1), (4, pt (aD b) 0), (5, pt (aD b1) 0), (6, vi k_)] ∧ ST w0 (bl [⟨B, 112, [.slice B1 c.code.length c1, vi c.at_, .int .u64 c.seed], 3⟩]) w [⟨B, 112, [.slice B1 c.code.length c1, vi m3.at_, .int .u64 m3.seed], 3⟩, ⟨aD b, 68, [.slice none 0 0], 1⟩, ⟨aD b1, 68, [.slice B6 r_5.Rows.length c6], 1⟩, ⟨B6, 3, (r_5.Rows.flatMap encI), c6 * 1⟩] [⟨B1, (c.code.flatMap enc_u8)⟩]) ?_ ?_
  ·skip
   refine ra_start (hS7.se [0, 2]).fn (by kernel_rfl) ?_
   have hS11 := hS7.drew
   refine rq 1 24 (v := vi r_3) rfl (hS11.se [0, 2]) (fun w' hw' => (Y_move (v := vi r_3) rfl rfl)) ?_
   refine rq 2 25 (v := vi r_3) rfl (hS11.se [0, 2]) (fun w' hw' => (Y_move (v := vi r_3) rfl rfl)) ?_
   refine rq 3 26 (v := vi (i64.wrap (r_3 + 1))) rfl (hS11.se [0, 2]) (fun w' hw' => (Y_add (k := .i64) (a := r_3) (b := 1) rfl rfl rfl)) ?_
   refine rq 4 27 (v := pt B 0) rfl (hS11.se [0, 2]) (fun w' hw' => (Y_move (v := pt B 0) rfl (hf.get 0 0 rfl))) ?_
   refine rq 5 28 (v := vi n1) rfl (hS11.se [0, 2]) (fun w' hw' => (Y_move (v := vi n1) rfl (hf.get 1 1 rfl))) ?_
   refine rq 6 29 (v := vi (i64.wrap (n1 - 1))) rfl (hS11.se [0, 2]) (fun w' hw' => (Y_sub (k := .i64) (a := n1) (b := 1) rfl rfl rfl)) ?_
   refine rq 9 32 (v := vi n1) rfl (hS11.se [0, 2]) (fun w' hw' => (Y_move (v := vi n1) rfl (hf.get 1 1 rfl))) ?_
   refine rA [0, 7] ?_
   refine ra_y 23 (i := 0) (v := .agg #[.slice B4 Rows.length c4]) rfl rfl rfl (Y_loadA (B := aD b1) (i := 0) (cs := [.slice B4 Rows.length c4]) (vs := [.slice B4 Rows.length c4]) k_ag_68 k_sz_68_1 rfl (hf.get 5 3 rfl) (hS11.cf (i := 1) rfl) rfl rfl) (hS11.se [0, 2]) ?_ ?_
   ·skip
    refine rA [7] ?_
    refine ra_c 30 (i := 7) rfl rfl rfl (Yc_func (g := 71) (vs := [pt B 0, vi (i64.wrap (n1 - 1))]) k_call_71 rfl (mc rfl (mc rfl mn)) (c_spec_l1Cur_pick (Tl1Cur.mk c.code m2.at_ m2.seed) (i64.wrap (n1 - 1)) B B1 c1 c.code.length _ rfl (hS11.inn [false, false, false, true] rfl [(true, 0)] rfl) hc3)) ?_ ?_
    ·rintro _ w_6 ⟨rfl, hd3⟩
     have hS12 := hS11.out [false, false, false, true] rfl hd3
     refine ⟨(hS12.se [0, 2]), ?_⟩
     refine rq 8 31 (v := vi (i64.wrap ((i64.wrap (r_3 + 1)) + r_4))) rfl (hS12.se [0, 2]) (fun w' hw' => (Y_add (k := .i64) (a := (i64.wrap (r_3 + 1))) (b := r_4) rfl rfl rfl)) ?_
     refine rq 10 33 (v := vi (Int.tmod (i64.wrap ((i64.wrap (r_3 + 1)) + r_4)) n1)) rfl (hS12.se [0, 2]) (fun w' hw' => (Y_rem (k := .i64) (a := (i64.wrap ((i64.wrap (r_3 + 1)) + r_4))) (b := n1) rfl rfl rfl hne)) ?_
     refine rA [11] ?_
     refine ra_c 34 (i := 11) rfl rfl rfl (Yc_func (g := 97) (vs := [.agg #[.slice B4 Rows.length c4], vi r_3, vi (Int.tmod (i64.wrap ((i64.wrap (r_3 + 1)) + r_4)) n1)]) k_call_97 rfl (mc rfl (mc rfl (mc rfl mn))) (c_spec_l12CX (TLinear.mk Rows) r_3 (Int.tmod (i64.wrap ((i64.wrap (r_3 + 1)) + r_4)) n1) B4 c4 Rows.length _ rfl (hS12.inn0 [(false, 2)] rfl) hc4)) ?_ ?_
     ·rintro _ w_7 ⟨B5, c5, rfl, hd4⟩
      have hS13 := hS12.out0 hd4
      refine ⟨(hS13.se [0, 2]), ?_⟩
      refine rA [12] ?_
      refine ra_s0 (i := 12) rfl rfl rfl (Ys_store (i := 1) (s := 1) (B := aD b1) (T' := 68) (v := .agg #[.slice B5 r_5.Rows.length c5]) (vs := [.slice B5 r_5.Rows.length c5]) (k := 0) (cs' := [.slice B5 r_5.Rows.length c5]) hS13 k_sz_68_1 rfl (hf.get 5 3 rfl) rfl rfl rfl rfl rfl (lB rfl) rfl rfl) ?_ ?_
      ·rintro _ w_8 ⟨rfl, hS14⟩
       refine ⟨(hS14.se [0, 2]), ?_⟩
       refine ra_done (by kernel_rfl) ?_
       exact ⟨B5, c5, (FF.cons (hf.get 0 0 rfl) (FF.cons (hf.get 1 1 rfl) (FF.cons (hf.get 4 2 rfl) (FF.cons (hf.get 5 3 rfl) (FF.cons (hf.get 6 4 rfl) FF.nil))))), (hS14.sel [3, 0, 1, 4] rfl rfl)⟩
      exact allR_nil
     exact allR_nil
    exact allR_nil
   refine ra_c 30 (i := 7) rfl rfl rfl (Yc_func (g := 71) (vs := [pt B 0, vi (i64.wrap (n1 - 1))]) k_call_71 rfl (mc rfl (mc rfl mn)) (c_spec_l1Cur_pick (Tl1Cur.mk c.code m2.at_ m2.seed) (i64.wrap (n1 - 1)) B B1 c1 c.code.length _ rfl (hS11.inn [false, false, false, true] rfl [(true, 0)] rfl) hc3)) ?_ ?_
   ·rintro _ w_9 ⟨rfl, hd5⟩
    have hS15 := hS11.out [false, false, false, true] rfl hd5
    refine ⟨(hS15.se [0, 2]), ?_⟩
    refine rq 8 31 (v := vi (i64.wrap ((i64.wrap (r_3 + 1)) + r_4))) rfl (hS15.se [0, 2]) (fun w' hw' => (Y_add (k := .i64) (a := (i64.wrap (r_3 + 1))) (b := r_4) rfl rfl rfl)) ?_
    refine rq 10 33 (v := vi (Int.tmod (i64.wrap ((i64.wrap (r_3 + 1)) + r_4)) n1)) rfl (hS15.se [0, 2]) (fun w' hw' => (Y_rem (k := .i64) (a := (i64.wrap ((i64.wrap (r_3 + 1)) + r_4))) (b := n1) rfl rfl rfl hne)) ?_
    refine rA [0] ?_
    refine ra_y 23 (i := 0) (v := .agg #[.slice B4 Rows.length c4]) rfl rfl rfl (Y_loadA (B := aD b1) (i := 0) (cs := [.slice B4 Rows.length c4]) (vs := [.slice B4 Rows.length c4]) k_ag_68 k_sz_68_1 rfl (hf.get 5 3 rfl) (hS15.cf (i := 1) rfl) rfl rfl) (hS15.se [0, 2]) ?_ ?_
    ·skip
     refine rA [11] ?_
     refine ra_c 34 (i := 11) rfl rfl rfl (Yc_func (g := 97) (vs := [.agg #[.slice B4 Rows.length c4], vi r_3, vi (Int.tmod (i64.wrap ((i64.wrap (r_3 + 1)) + r_4)) n1)]) k_call_97 rfl (mc rfl (mc rfl (mc rfl mn))) (c_spec_l12CX (TLinear.mk Rows) r_3 (Int.tmod (i64.wrap ((i64.wrap (r_3 + 1)) + r_4)) n1) B4 c4 Rows.length _ rfl (hS15.inn0 [(false, 2)] rfl) hc4)) ?_ ?_
     ·rintro _ w_10 ⟨B5, c5, rfl, hd6⟩
      have hS16 := hS15.out0 hd6
      refine ⟨(hS16.se [0, 2]), ?_⟩
      refine rA [12] ?_
      refine ra_s0 (i := 12) rfl rfl rfl (Ys_store (i := 1) (s := 1) (B := aD b1) (T' := 68) (v := .agg #[.slice B5 r_5.Rows.length c5]) (vs := [.slice B5 r_5.Rows.length c5]) (k := 0) (cs' := [.slice B5 r_5.Rows.length c5]) hS16 k_sz_68_1 rfl (hf.get 5 3 rfl) rfl rfl rfl rfl rfl (lB rfl) rfl rfl) ?_ ?_
      ·rintro _ w_11 ⟨rfl, hS17⟩
       refine ⟨(hS17.se [0, 2]), ?_⟩
       refine ra_done (by kernel_rfl) ?_
       exact ⟨B5, c5, (FF.cons (hf.get 0 0 rfl) (FF.cons (hf.get 1 1 rfl) (FF.cons (hf.get 4 2 rfl) (FF.cons (hf.get 5 3 rfl) (FF.cons (hf.get 6 4 rfl) FF.nil))))), (hS17.sel [3, 0, 1, 4] rfl rfl)⟩
      exact allR_nil
     exact allR_nil
    exact allR_nil
   exact allR_nil
  rintro f w ⟨B6, c6, hf1, hS10⟩
  refine cw_region ?_
  refine sQ 18 (Y_move (v := vi k_) rfl (hf1.get 6 4 rfl)) ?_
  refine sQ 19 (Y_sub (k := .i64) (a := k_) (b := 1) rfl rfl rfl) ?_
  refine sQ 6 (Y_assign (v := vi (i64.wrap (k_ - 1))) rfl rfl) (rw_nil ?_)
  obtain rfl := some_inj hF2
  exact ⟨k_2, Nat.lt_succ_self _, m3.at_, m3.seed, r_5.Rows, (i64.wrap (k_ - 1)), B6, c6, (FF.cons (hf1.get 0 0 rfl) (FF.cons (hf1.get 1 1 rfl) (FF.cons (hf1.get 4 2 rfl) (FF.cons (hf1.get 5 3 rfl) (FF.cons rfl FF.nil))))), (hS10.sel [0, 1, 2, 3] rfl rfl), hL1⟩
 ·skip
  have hF3 := cf' hb hb1
  refine cw_exit rfl ?_
  obtain rfl := some_inj hF3
  obtain rfl := some_inj hL1
  refine cw_seq (cw_region ?_)
  refine sQ 35 (Y_loadA (B := aD b1) (i := 0) (cs := [.slice B4 Rows.length c4]) (vs := [.slice B4 Rows.length c4]) k_ag_68 k_sz_68_1 rfl (hf.get 5 3 rfl) (hS6.cf (i := 2) rfl) rfl rfl) ?_
  refine s0 (Ys_store (i := 1) (s := 1) (B := aD b) (T' := 68) (v := .agg #[.slice B4 Rows.length c4]) (vs := [.slice B4 Rows.length c4]) (k := 0) (cs' := [.slice B4 Rows.length c4]) hS6 k_sz_68_1 rfl (hf.get 4 2 rfl) rfl rfl rfl rfl rfl (lB rfl) rfl rfl) ?_
  rintro _ w_12 ⟨rfl, hS18⟩
  refine rw_nil (cw_ret ?_)
  obtain ⟨rfl, rfl⟩ := pr2 (some_inj hF1)
  exact ret1 Tryz.results236 (v1 := .agg #[.slice B4 Rows.length c4]) (resAt_cellA (B := aD b) (i := 0) (cs := [.slice B4 Rows.length c4]) (vs := [.slice B4 Rows.length c4]) (hf.get 4 2 rfl) k_ag_68 k_sz_68_1 (hS18.cf (i := 1) rfl) rfl rfl) ⟨B4, c4, rfl, (hS18.sN [0, 3])⟩

theorem c_spec_l1Cur_phasePoly (c : Tl1Cur) (n1 : Int) (B : Option Addr) (B1 : Option Addr) (c1 n : Nat) (w0 : World) (hn : c.code.length = n) (hS : ST w0 (bl [⟨B, 112, [.slice B1 n c1, vi c.at_, .int .u64 c.seed], 3⟩]) w0 [⟨B, 112, [.slice B1 n c1, vi c.at_, .int .u64 c.seed], 3⟩] [⟨B1, (c.code.flatMap enc_u8)⟩]) {r_ : TPhasePoly} {m : Tl1Cur} (hF : F_spec_l1Cur_phasePoly c n1 = some (r_, m)) :
  CV Tryz.prog 192 #[pt B 0, vi n1] w0 (fun v w' => ∃ (B2 : Option Addr) (c2 : Nat) (B3 : Option Addr) (c3 : Nat), v = .agg #[vi r_.Qubits, vi r_.Phase, .slice B2 r_.Terms.length c2, .slice B3 r_.Out.Rows.length c3] ∧ ST w0 (bl [⟨B, 112, [.slice B1 n c1, vi c.at_, .int .u64 c.seed], 3⟩]) w' [⟨B, 112, [.slice B1 n c1, vi m.at_, .int .u64 m.seed], 3⟩, ⟨B2, 136, (r_.Terms.flatMap eN0), c2 * 2⟩, ⟨B3, 3, (r_.Out.Rows.flatMap encI), c3 * 1⟩] []) := by
 subst hn
 unfold F_spec_l1Cur_phasePoly at hF
 refine cv_of_cw 48 Tryz.func192 rfl Tryz.ntmps192 rfl ?_
 refine cw_seq (cw_region ?_)
 refine sS 4 (Ys_alloc (T := 70) (cs := [vi 0, vi 0, .slice none 0 0, .slice none 0 0]) (m := 4) hS k_zero_70 rfl rfl rfl) ?_
 rintro _ w_ ⟨b, rfl, hS1⟩
 refine rw_nil (cw_seq (cw_region ?_))
 refine sQ 8 (Y_move (v := vi n1) rfl rfl) ?_
 refine sQ 9 (Y_conv (k := .i64) (a := n1) (T := 3) (T' := 76) k_us_3 k_int_76_u64 rfl rfl) ?_
 obtain ⟨hsh, hF⟩ := chk_inv hF
 refine sQ 10 (Y_shl (k := .i64) (a := 1) (k' := .u64) (b := (IntKind.u64.wrap n1)) rfl rfl rfl hsh) ?_
 obtain ⟨hmk, hF⟩ := chk_inv hF
 refine sS 11 (Ys_make (s := 1) (by' := 8) (nn := (shlK .i64 1 (IntKind.u64.wrap n1)).toNat) (a := (shlK .i64 1 (IntKind.u64.wrap n1))) (b := (shlK .i64 1 (IntKind.u64.wrap n1))) (cs := ((List.replicate ((shlK .i64 1 (IntKind.u64.wrap n1)).toNat) 0).flatMap encI)) hS1 k_sl_66_3 k_sz_3_1 k_by_3_8 k_zero_3 rfl rfl rfl rfl hmk.1 rfl (by have := hmk; omega) (by have := hmk; omega) (by omega) (fm_rep (enc := encI) (d := 0) rfl _)) ?_
 rintro _ w_1 ⟨b1, rfl, hS2⟩
 refine sQ 5 (Y_assign (v := .slice (aD b1) ((shlK .i64 1 (IntKind.u64.wrap n1)).toNat) ((shlK .i64 1 (IntKind.u64.wrap n1)).toNat)) rfl rfl) (rw_nil (cw_seq (cw_seq (cw_region ?_))))
 refine sQ 12 (Y_move (v := pt B 0) rfl rfl) ?_
 obtain ⟨⟨r_1, m1⟩, hc, hF⟩ := bind_inv hF
 refine sc 13 rfl rfl (Yc_func (g := 71) (vs := [pt B 0, vi 6]) k_call_71 rfl (mc rfl (mc rfl mn)) (c_spec_l1Cur_pick c 6 B B1 c1 c.code.length _ rfl (hS2.inn [true, false, false] rfl [(true, 0)] rfl) hc)) ?_
 rintro _ w_2 ⟨rfl, hd⟩
 have hS3 := hS2.out [true, false, false] rfl hd
 refine sQ 6 (Y_assign (v := vi r_1) rfl rfl) (rw_nil ?_)
 obtain ⟨z, hz, hF1⟩ := bind_inv hF
 refine cw_block ?_
 refine cw_loop (fun k f w => ∃ (at_ : Int) (seed : Int) (by_ : List Int) (k_ : Int), FF f [(0, pt B 0), (1, vi n1), (4, pt (aD b) 0), (5, .slice (aD b1) ((shlK .i64 1 (IntKind.u64.wrap n1)).toNat) ((shlK .i64 1 (IntKind.u64.wrap n1)).toNat)), (6, vi k_)] ∧ by_.length = (shlK .i64 1 (IntKind.u64.wrap n1)).toNat ∧ ST w0 (bl [⟨B, 112, [.slice B1 c.code.length c1, vi c.at_, .int .u64 c.seed], 3⟩]) w [⟨B, 112, [.slice B1 c.code.length c1, vi at_, .int .u64 seed], 3⟩, ⟨aD b, 70, [vi 0, vi 0, .slice none 0 0, .slice none 0 0], 4⟩, ⟨aD b1, 3, (by_.flatMap encI), ((shlK .i64 1 (IntKind.u64.wrap n1)).toNat) * 1⟩] [⟨B1, (c.code.flatMap enc_u8)⟩] ∧ whX (F_spec_l1Cur_phasePoly_l1 c n1) k (at_, seed, by_, k_) = some z) fuel ⟨m1.at_, m1.seed, (List.replicate ((shlK .i64 1 (IntKind.u64.wrap n1)).toNat) 0), r_1, (FF.cons rfl (FF.cons rfl (FF.cons rfl (FF.cons rfl (FF.cons rfl FF.nil))))), List.length_replicate, (hS3.sel [2, 0, 1] rfl rfl), hz⟩ ?_
 rintro k_1 f w ⟨at_, seed, by_, k_, hf, hl, hS4, hL⟩
 obtain ⟨k_2, y, rfl, hb, hL1⟩ := whX_go hL
 unfold F_spec_l1Cur_phasePoly_l1 at hb
 refine cw_seq (cw_seq (cw_region ?_))
 refine sQ 14 (Y_move (v := vi k_) rfl (hf.get 6 4 rfl)) ?_
 refine sQ 15 (Y_gt (k := .i64) (a := k_) (b := 0) rfl rfl rfl) (rw_nil ?_)
 refine cw_cond (b := (decide (0 < k_))) rfl (fun hb1 => ?_) (fun hb1 => ?_)
 ·skip
  have hF2 := ct hb hb1
  refine cw_skip (cw_seq (cw_block (cw_region ?_)))
  refine sQ 18 (Y_move (v := .slice (aD b1) ((shlK .i64 1 (IntKind.u64.wrap n1)).toNat) ((shlK .i64 1 (IntKind.u64.wrap n1)).toNat)) rfl (hf.get 5 3 rfl)) ?_
  refine sQ 19 (Y_move (v := pt B 0) rfl (hf.get 0 0 rfl)) ?_
  refine sQ 20 (Y_move (v := .slice (aD b1) ((shlK .i64 1 (IntKind.u64.wrap n1)).toNat) ((shlK .i64 1 (IntKind.u64.wrap n1)).toNat)) rfl (hf.get 5 3 rfl)) ?_
  refine sQ 21 (Y_len (B := aD b1) (m := (shlK .i64 1 (IntKind.u64.wrap n1)).toNat) (c := (shlK .i64 1 (IntKind.u64.wrap n1)).toNat) k_sl_66_3 rfl rfl) ?_
  obtain ⟨⟨r_2, m2⟩, hc1, hF2⟩ := bind_inv hF2
  refine sc 22 rfl rfl (Yc_func (g := 71) (vs := [pt B 0, vi ((shlK .i64 1 (IntKind.u64.wrap n1)).toNat : Int)]) k_call_71 rfl (mc rfl (mc rfl mn)) (c_spec_l1Cur_pick (Tl1Cur.mk c.code at_ seed) ((shlK .i64 1 (IntKind.u64.wrap n1)).toNat : Int) B B1 c1 c.code.length _ rfl (hS4.inn [true, false, false] rfl [(true, 0)] rfl) hc1)) ?_
  rintro _ w_3 ⟨rfl, hd1⟩
  have hS5 := hS4.out [true, false, false] rfl hd1
  refine sQ 23 (Y_move (v := pt B 0) rfl (hf.get 0 0 rfl)) ?_
  obtain ⟨⟨r_3, m3⟩, hc2, hF2⟩ := bind_inv hF2
  refine sc 24 rfl rfl (Yc_func (g := 71) (vs := [pt B 0, vi 8]) k_call_71 rfl (mc rfl (mc rfl mn)) (c_spec_l1Cur_pick (Tl1Cur.mk c.code m2.at_ m2.seed) 8 B B1 c1 c.code.length _ rfl (hS5.inn [false, false, true] rfl [(true, 0)] rfl) hc2)) ?_
  rintro _ w_4 ⟨rfl, hd2⟩
  have hS6 := hS5.out [false, false, true] rfl hd2
  obtain ⟨x, hx, hF2⟩ := bind_inv hF2
  refine sQ 25 (Y_index (B := aD b1) (m := (shlK .i64 1 (IntKind.u64.wrap n1)).toNat) (c := (shlK .i64 1 (IntKind.u64.wrap n1)).toNat) (k := .i64) (i := r_2) k_sl_66_3 k_sz_3_1 rfl rfl rfl (gi_isSome encI_len rfl (hS6.cf (i := 1) rfl) hx) (getI_nn hx) (getI_ltI hx hl)) ?_
  refine s0 (Ys_store (i := 1) (s := 1) (B := aD b1) (T' := 3) (v := vi r_3) (vs := [vi r_3]) (k := r_2.toNat * 1) (cs' := ((by_.set r_2.toNat r_3).flatMap encI)) hS6 k_sz_3_1 rfl rfl rfl rfl rfl rfl rfl (gi_fit0 encI_len hx) (gi_set encI_len hx r_3 rfl) rfl) ?_
  rintro _ w_5 ⟨rfl, hS7⟩
  refine rw_nil (cw_region ?_)
  refine sQ 16 (Y_move (v := vi k_) rfl (hf.get 6 4 rfl)) ?_
  refine sQ 17 (Y_sub (k := .i64) (a := k_) (b := 1) rfl rfl rfl) ?_
  refine sQ 6 (Y_assign (v := vi (i64.wrap (k_ - 1))) rfl rfl) (rw_nil ?_)
  obtain rfl := some_inj hF2
  exact ⟨k_2, Nat.lt_succ_self _, m3.at_, m3.seed, (by_.set r_2.toNat r_3), (i64.wrap (k_ - 1)), (FF.cons (hf.get 0 0 rfl) (FF.cons (hf.get 1 1 rfl) (FF.cons (hf.get 4 2 rfl) (FF.cons (hf.get 5 3 rfl) (FF.cons rfl FF.nil))))), (set_len _ _ _ hl), (hS7.sel [2, 0, 1] rfl rfl), hL1⟩
 ·skip
  have hF3 := cf' hb hb1
  refine cw_exit rfl ?_
  obtain rfl := some_inj hF3
  obtain rfl := some_inj hL1
  refine cw_seq ?_
  obtain ⟨z1, hz1, hF4⟩ := bind_inv hF1
  refine cw_mid (fun f w => ∃ (at_1 : Int) (seed1 : Int) (by_1 : List Int), (at_1, seed1, by_1) = z1 ∧ FF f [(0, pt B 0), (1, vi n1), (4, pt (aD b) 0), (5, .slice (aD b1) ((shlK .i64 1 (IntKind.u64.wrap n1)).toNat) ((shlK .i64 1 (IntKind.u64.wrap n1)).toNat))] ∧ by_1.length = (shlK .i64 1 (IntKind.u64.wrap n1)).toNat ∧ ST w0 (bl [⟨B, 112, [.slice B1 c.code.length c1, vi c.at_, .int .u64 c.seed], 3⟩]) w [⟨B, 112, [.slice B1 c.code.length c1, vi at_1, .int .u64 seed1], 3⟩, ⟨aD b, 70, [vi 0, vi 0, .slice none 0 0, .slice none 0 0], 4⟩, ⟨aD b1, 3, (by_1.flatMap encI), ((shlK .i64 1 (IntKind.u64.wrap n1)).toNat) * 1⟩] [⟨B1, (c.code.flatMap enc_u8)⟩]) ?_ ?_
  ·skip
   refine cw_seq (cw_region ?_)
   refine sQ 26 (Y_move (v := pt B 0) rfl (hf.get 0 0 rfl)) ?_
   obtain ⟨⟨r_4, m4⟩, hc3, hz1⟩ := bind_inv hz1
   refine sc 27 rfl rfl (Yc_func (g := 90) (vs := [pt B 0, vi 6]) k_call_90 rfl (mc rfl (mc rfl mn)) (c_spec_l1Cur_one (Tl1Cur.mk c.code at_ seed) 6 B B1 c1 c.code.length _ rfl (hS4.inn [true, false, false] rfl [(true, 0)] rfl) hc3)) ?_
   rintro _ w_6 ⟨rfl, hd3⟩
   have hS9 := hS4.out [true, false, false] rfl hd3
   refine rw_nil ?_
   refine cw_cond (b := r_4) rfl (fun hb2 => ?_) (fun hb2 => ?_)
   ·skip
    have hF5 := ct hz1 hb2
    refine cw_seq (cw_region ?_)
    refine sQ 28 (Y_move (v := .slice (aD b1) ((shlK .i64 1 (IntKind.u64.wrap n1)).toNat) ((shlK .i64 1 (IntKind.u64.wrap n1)).toNat)) rfl (hf.get 5 3 rfl)) ?_
    refine sQ 29 (Y_len (B := aD b1) (m := (shlK .i64 1 (IntKind.u64.wrap n1)).toNat) (c := (shlK .i64 1 (IntKind.u64.wrap n1)).toNat) k_sl_66_3 rfl rfl) ?_
    refine sQ 30 (Y_move (v := vi 0) rfl rfl) (rw_nil ?_)
    obtain ⟨hN, hF5⟩ := chk_inv hF5
    obtain ⟨z2, hz2, hF6⟩ := bind_inv hF5
    refine cw_block ?_
    refine cw_loop (fun k f w => ∃ (i : Nat) (at_2 : Int) (seed2 : Int) (by_2 : List Int), FF f [(0, pt B 0), (1, vi n1), (4, pt (aD b) 0), (5, .slice (aD b1) ((shlK .i64 1 (IntKind.u64.wrap n1)).toNat) ((shlK .i64 1 (IntKind.u64.wrap n1)).toNat)), (29, vi ((shlK .i64 1 (IntKind.u64.wrap n1)).toNat : Int)), (30, vi (i : Int))] ∧ by_2.length = (shlK .i64 1 (IntKind.u64.wrap n1)).toNat ∧ ST w0 (bl [⟨B, 112, [.slice B1 c.code.length c1, vi c.at_, .int .u64 c.seed], 3⟩]) w [⟨B, 112, [.slice B1 c.code.length c1, vi at_2, .int .u64 seed2], 3⟩, ⟨aD b, 70, [vi 0, vi 0, .slice none 0 0, .slice none 0 0], 4⟩, ⟨aD b1, 3, (by_2.flatMap encI), ((shlK .i64 1 (IntKind.u64.wrap n1)).toNat) * 1⟩] [⟨B1, (c.code.flatMap enc_u8)⟩] ∧ i + k = (shlK .i64 1 (IntKind.u64.wrap n1)).toNat ∧ forN (F_spec_l1Cur_phasePoly_l2 c at_ seed) k i (at_2, seed2, by_2) = some z2) ((shlK .i64 1 (IntKind.u64.wrap n1)).toNat) ⟨0, m4.at_, m4.seed, by_, (FF.cons (hf.get 0 0 rfl) (FF.cons (hf.get 1 1 rfl) (FF.cons (hf.get 4 2 rfl) (FF.cons (hf.get 5 3 rfl) (FF.cons rfl (FF.cons rfl FF.nil)))))), hl, (hS9.sel [2, 0, 1] rfl rfl), Nat.zero_add _, hz2⟩ ?_
    rintro k_3 f w ⟨i, at_2, seed2, by_2, hf2, hl2, hS10, hik1, hL2⟩
    refine cw_seq (cw_region ?_)
    refine sQ 31 (Y_lt (k := .i64) (a := (i : Int)) (b := ((shlK .i64 1 (IntKind.u64.wrap n1)).toNat : Int)) rfl (hf2.get 30 5 rfl) (hf2.get 29 4 rfl)) (rw_nil (cw_seq ?_))
    refine cw_cond (b := (decide ((i : Int) < ((shlK .i64 1 (IntKind.u64.wrap n1)).toNat : Int)))) rfl (fun hlt => ?_) (fun hlt => ?_)
    ·skip
     have hlt1 : i < (shlK .i64 1 (IntKind.u64.wrap n1)).toNat := by have h := of_decide_eq_true hlt; omega
     obtain ⟨k_4, rfl⟩ : ∃ k2, k_3 = k2 + 1 := ⟨k_3 - 1, by omega⟩
     obtain ⟨y1, hb3, hL3⟩ := forN_go hL2
     unfold F_spec_l1Cur_phasePoly_l2 at hb3
     refine cw_skip (cw_seq (cw_block (cw_seq (cw_region ?_))))
     refine sQ 32 (Y_move (v := vi (i : Int)) rfl (hf2.get 30 5 rfl)) ?_
     refine sQ 7 (Y_assign (v := vi (i : Int)) rfl rfl) (rw_nil (cw_region ?_))
     refine sQ 33 (Y_move (v := .slice (aD b1) ((shlK .i64 1 (IntKind.u64.wrap n1)).toNat) ((shlK .i64 1 (IntKind.u64.wrap n1)).toNat)) rfl (hf2.get 5 3 rfl)) ?_
     refine sQ 34 (Y_move (v := vi (i : Int)) rfl rfl) ?_
     refine sQ 35 (Y_move (v := pt B 0) rfl (hf2.get 0 0 rfl)) ?_
     obtain ⟨⟨r_5, m5⟩, hc4, hb3⟩ := bind_inv hb3
     refine sc 36 rfl rfl (Yc_func (g := 71) (vs := [pt B 0, vi 8]) k_call_71 rfl (mc rfl (mc rfl mn)) (c_spec_l1Cur_pick (Tl1Cur.mk c.code at_2 seed2) 8 B B1 c1 c.code.length _ rfl (hS10.inn [true, false, false] rfl [(true, 0)] rfl) hc4)) ?_
     rintro _ w_7 ⟨rfl, hd4⟩
     have hS11 := hS10.out [true, false, false] rfl hd4
     obtain ⟨x1, hx1, hb3⟩ := bind_inv hb3
     refine sQ 37 (Y_index (B := aD b1) (m := (shlK .i64 1 (IntKind.u64.wrap n1)).toNat) (c := (shlK .i64 1 (IntKind.u64.wrap n1)).toNat) (k := .i64) (i := (i : Int)) k_sl_66_3 k_sz_3_1 rfl rfl rfl (gi_isSome encI_len rfl (hS11.cf (i := 1) rfl) hx1) (getI_nn hx1) (getI_ltI hx1 hl2)) ?_
     refine s0 (Ys_store (i := 1) (s := 1) (B := aD b1) (T' := 3) (v := vi r_5) (vs := [vi r_5]) (k := (i : Int).toNat * 1) (cs' := ((by_2.set (i : Int).toNat r_5).flatMap encI)) hS11 k_sz_3_1 rfl rfl rfl rfl rfl rfl rfl (gi_fit0 encI_len hx1) (gi_set encI_len hx1 r_5 rfl) rfl) ?_
     rintro _ w_8 ⟨rfl, hS12⟩
     refine rw_nil (cw_region ?_)
     refine sQ 38 (Y_add (k := .i64) (a := (i : Int)) (b := 1) rfl (hf2.get 30 5 rfl) rfl) ?_
     refine sQ 30 (Y_move (v := vi (i64.wrap ((i : Int) + 1))) rfl rfl) (rw_nil ?_)
     obtain rfl := some_inj hb3
     exact ⟨k_4, Nat.lt_succ_self _, i + 1, m5.at_, m5.seed, (by_2.set (i : Int).toNat r_5), (FF.cons (hf2.get 0 0 rfl) (FF.cons (hf2.get 1 1 rfl) (FF.cons (hf2.get 4 2 rfl) (FF.cons (hf2.get 5 3 rfl) (FF.cons (hf2.get 29 4 rfl) (FF.cons (congrArg (Value.int .i64) (wr_succ hlt1 hN)) FF.nil)))))), (set_len _ _ _ hl2), (hS12.sel [2, 0, 1] rfl rfl), (by omega), hL3⟩
    ·skip
     obtain rfl : k_3 = 0 := by have h := of_decide_eq_false hlt; omega
     refine cw_exit rfl ?_
     obtain rfl := some_inj hL2
     exact ⟨at_2, seed2, by_2, (some_inj hF6), (FF.cons (hf2.get 0 0 rfl) (FF.cons (hf2.get 1 1 rfl) (FF.cons (hf2.get 4 2 rfl) (FF.cons (hf2.get 5 3 rfl) FF.nil)))), hl2, (hS10.sel [0, 1, 2] rfl rfl)⟩
   ·skip
    have hF7 := cf' hz1 hb2
    refine cw_skip ?_
    exact ⟨m4.at_, m4.seed, by_, (some_inj hF7), (FF.cons (hf.get 0 0 rfl) (FF.cons (hf.get 1 1 rfl) (FF.cons (hf.get 4 2 rfl) (FF.cons (hf.get 5 3 rfl) FF.nil)))), hl, (hS9.sel [2, 0, 1] rfl rfl)⟩
  rintro f w ⟨at_1, seed1, by_1, rfl, hf1, hl1, hS8⟩
  refine cw_seq (cw_region ?_)
  refine sQ 39 (Y_move (v := vi n1) rfl (hf1.get 1 1 rfl)) ?_
  refine sQ 40 (Y_move (v := pt B 0) rfl (hf1.get 0 0 rfl)) ?_
  obtain ⟨⟨r_6, m6⟩, hc5, hF4⟩ := bind_inv hF4
  refine sc 41 rfl rfl (Yc_func (g := 71) (vs := [pt B 0, vi 8]) k_call_71 rfl (mc rfl (mc rfl mn)) (c_spec_l1Cur_pick (Tl1Cur.mk c.code at_1 seed1) 8 B B1 c1 c.code.length _ rfl (hS8.inn [true, false, false] rfl [(true, 0)] rfl) hc5)) ?_
  rintro _ w_9 ⟨rfl, hd5⟩
  have hS13 := hS8.out [true, false, false] rfl hd5
  refine sQ 42 (Y_move (v := .slice (aD b1) ((shlK .i64 1 (IntKind.u64.wrap n1)).toNat) ((shlK .i64 1 (IntKind.u64.wrap n1)).toNat)) rfl (hf1.get 5 3 rfl)) ?_
  obtain ⟨r_7, hc6, hF4⟩ := bind_inv hF4
  refine sc 43 rfl rfl (Yc_func (g := 99) (vs := [.slice (aD b1) ((shlK .i64 1 (IntKind.u64.wrap n1)).toNat) ((shlK .i64 1 (IntKind.u64.wrap n1)).toNat)]) k_call_99 rfl (mc rfl mn) (c_spec_l13List by_1 (aD b1) ((shlK .i64 1 (IntKind.u64.wrap n1)).toNat) ((shlK .i64 1 (IntKind.u64.wrap n1)).toNat) _ hl1 (hS13.inn0 [(false, 1)] rfl) hc6)) ?_
  rintro _ w_10 ⟨B4, c4, rfl, hd6⟩
  have hS14 := hS13.out0 hd6
  refine sQ 44 (Y_move (v := pt B 0) rfl (hf1.get 0 0 rfl)) ?_
  refine sQ 45 (Y_move (v := vi n1) rfl (hf1.get 1 1 rfl)) ?_
  obtain ⟨⟨r_8, m7⟩, hc7, hF4⟩ := bind_inv hF4
  refine sc 46 rfl rfl (Yc_func (g := 236) (vs := [pt B 0, vi n1]) k_call_236 rfl (mc rfl (mc rfl mn)) (c_spec_l1Cur_linear (Tl1Cur.mk c.code m6.at_ m6.seed) n1 B B1 c1 c.code.length _ rfl (hS14.inn [false, false, true, false] rfl [(true, 0)] rfl) hc7)) ?_
  rintro _ w_11 ⟨B5, c5, rfl, hd7⟩
  have hS15 := hS14.out [false, false, true, false] rfl hd7
  refine sQ 47 (Y_buildS (zs := [vi 0, vi 0, .slice none 0 0, .slice none 0 0]) (vs := [(0, vi n1), (1, vi r_6), (2, .slice B4 r_7.length c4), (3, .agg #[.slice B5 r_8.Rows.length c5])]) (cs := [vi n1, vi r_6, .slice B4 r_7.length c4, .slice B5 r_8.Rows.length c5]) k_pl_70 k_zero_70 rfl (mpc rfl (mpc rfl (mpc rfl (mpc rfl mpn)))) rfl) ?_
  refine s0 (Ys_store (i := 0) (s := 4) (B := aD b) (T' := 70) (v := .agg #[vi n1, vi r_6, .slice B4 r_7.length c4, .slice B5 r_8.Rows.length c5]) (vs := [vi n1, vi r_6, .slice B4 r_7.length c4, .slice B5 r_8.Rows.length c5]) (k := 0) (cs' := [vi n1, vi r_6, .slice B4 r_7.length c4, .slice B5 r_8.Rows.length c5]) hS15 k_sz_70_4 rfl (hf1.get 4 2 rfl) rfl rfl rfl rfl rfl (lB rfl) rfl rfl) ?_
  rintro _ w_12 ⟨rfl, hS16⟩
  refine rw_nil (cw_ret ?_)
  obtain ⟨rfl, rfl⟩ := pr2 (some_inj hF4)
  exact ret1 Tryz.results192 (v1 := .agg #[vi n1, vi r_6, .slice B4 r_7.length c4, .slice B5 r_8.Rows.length c5]) (resAt_cellA (B := aD b) (i := 0) (cs := [vi n1, vi r_6, .slice B4 r_7.length c4, .slice B5 r_8.Rows.length c5]) (vs := [vi n1, vi r_6, .slice B4 r_7.length c4, .slice B5 r_8.Rows.length c5]) (hf1.get 4 2 rfl) k_ag_70 k_sz_70_4 (hS16.cf (i := 0) rfl) rfl rfl) ⟨B4, c4, B5, c5, rfl, (hS16.sN [3, 2, 4])⟩

theorem c_spec_l1Cur_reducible (c : Tl1Cur) (B : Option Addr) (B1 : Option Addr) (c1 n : Nat) (w0 : World) (hn : c.code.length = n) (hS : ST w0 (bl [⟨B, 112, [.slice B1 n c1, vi c.at_, .int .u64 c.seed], 3⟩]) w0 [⟨B, 112, [.slice B1 n c1, vi c.at_, .int .u64 c.seed], 3⟩] [⟨B1, (c.code.flatMap enc_u8)⟩]) {r_ : TPhasePoly} {m : Tl1Cur} (hF : F_spec_l1Cur_reducible c = some (r_, m)) :
  CV Tryz.prog 117 #[pt B 0] w0 (fun v w' => ∃ (B2 : Option Addr) (c2 : Nat) (B3 : Option Addr) (c3 : Nat), v = .agg #[vi r_.Qubits, vi r_.Phase, .slice B2 r_.Terms.length c2, .slice B3 r_.Out.Rows.length c3] ∧ ST w0 (bl [⟨B, 112, [.slice B1 n c1, vi c.at_, .int .u64 c.seed], 3⟩]) w' [⟨B, 112, [.slice B1 n c1, vi m.at_, .int .u64 m.seed], 3⟩, ⟨B2, 136, (r_.Terms.flatMap eN0), c2 * 2⟩, ⟨B3, 3, (r_.Out.Rows.flatMap encI), c3 * 1⟩] []) := by
 subst hn
 unfold F_spec_l1Cur_reducible at hF
 refine cv_of_cw 36 Tryz.func117 rfl Tryz.ntmps117 rfl ?_
 refine cw_seq (cw_region ?_)
 refine sS 2 (Ys_alloc (T := 70) (cs := [vi 0, vi 0, .slice none 0 0, .slice none 0 0]) (m := 4) hS k_zero_70 rfl rfl rfl) ?_
 rintro _ w_ ⟨b, rfl, hS1⟩
 refine rw_nil (cw_seq (cw_region ?_))
 refine sQ 7 (Y_move (v := pt B 0) rfl rfl) ?_
 refine sQ 8 (Y_move (v := pt B 0) rfl rfl) ?_
 refine sS 9 (Ys_bslice (s := 1) (len := 6) (vs := [(0, vi 2), (1, vi 3), (2, vi 4), (3, vi 4), (4, vi 4), (5, vi 5)]) (cs := [vi 2, vi 3, vi 4, vi 4, vi 4, vi 5]) (zs := [vi 0, vi 0, vi 0, vi 0, vi 0, vi 0]) (m := 6) hS1 k_sl_66_3 k_sz_3_1 k_zc_3 rfl (mpc rfl (mpc rfl (mpc rfl (mpc rfl (mpc rfl (mpc rfl mpn)))))) rfl rfl rfl (by kernel_rfl) (by kernel_rfl) rfl) ?_
 rintro _ w_1 ⟨b1, rfl, hS2⟩
 obtain ⟨⟨r_1, m1⟩, hc, hF⟩ := bind_inv hF
 refine sc 10 rfl rfl (Yc_func (g := 153) (vs := [pt B 0, .slice (aD b1) 6 6]) k_call_153 rfl (mc rfl (mc rfl mn)) (c_spec_l1Cur_among c [2, 3, 4, 4, 4, 5] B B1 c1 c.code.length (aD b1) 6 6 _ rfl rfl (hS2.inn [true, false, false] rfl [(true, 0), (false, 1)] rfl) hc)) ?_
 rintro _ w_2 ⟨rfl, hd⟩
 have hS3 := hS2.out [true, false, false] rfl hd
 obtain ⟨⟨r_2, m2⟩, hc1, hF⟩ := bind_inv hF
 refine sc 11 rfl rfl (Yc_func (g := 192) (vs := [pt B 0, vi r_1]) k_call_192 rfl (mc rfl (mc rfl mn)) (c_spec_l1Cur_phasePoly (Tl1Cur.mk c.code m1.at_ m1.seed) r_1 B B1 c1 c.code.length _ rfl (hS3.inn [false, false, true] rfl [(true, 0)] rfl) hc1)) ?_
 rintro _ w_3 ⟨B4, c4, B5, c5, rfl, hd1⟩
 have hS4 := hS3.out [false, false, true] rfl hd1
 refine sS 3 (Ys_alloc (T := 70) (cs := [vi 0, vi 0, .slice none 0 0, .slice none 0 0]) (m := 4) hS4 k_zero_70 rfl rfl rfl) ?_
 rintro _ w_4 ⟨b2, rfl, hS5⟩
 refine s0 (Ys_store (i := 5) (s := 4) (B := aD b2) (T' := 70) (v := .agg #[vi r_2.Qubits, vi r_2.Phase, .slice B4 r_2.Terms.length c4, .slice B5 r_2.Out.Rows.length c5]) (vs := [vi r_2.Qubits, vi r_2.Phase, .slice B4 r_2.Terms.length c4, .slice B5 r_2.Out.Rows.length c5]) (k := 0) (cs' := [vi r_2.Qubits, vi r_2.Phase, .slice B4 r_2.Terms.length c4, .slice B5 r_2.Out.Rows.length c5]) hS5 k_sz_70_4 rfl rfl rfl rfl rfl rfl rfl (lB rfl) rfl rfl) ?_
 rintro _ w_5 ⟨rfl, hS6⟩
 refine rw_nil (cw_seq (cw_region ?_))
 refine sQ 12 (Y_loadA (B := aD b2) (i := 0) (cs := [vi r_2.Qubits, vi r_2.Phase, .slice B4 r_2.Terms.length c4, .slice B5 r_2.Out.Rows.length c5]) (vs := [vi r_2.Qubits, vi r_2.Phase, .slice B4 r_2.Terms.length c4, .slice B5 r_2.Out.Rows.length c5]) k_ag_70 k_sz_70_4 rfl rfl (hS6.cf (i := 5) rfl) rfl rfl) ?_
 obtain ⟨r_3, hc2, hF⟩ := bind_inv hF
 refine sc 13 rfl rfl (Yc_func (g := 191) (vs := [.agg #[vi r_2.Qubits, vi r_2.Phase, .slice B4 r_2.Terms.length c4, .slice B5 r_2.Out.Rows.length c5]]) k_call_191 rfl (mc rfl mn) (c_spec_l13By r_2 B4 c4 r_2.Terms.length B5 c5 r_2.Out.Rows.length _ rfl rfl (hS6.inn0 [(false, 3), (false, 4)] rfl) hc2)) ?_
 rintro _ w_6 ⟨B6, c6, rfl, hd2⟩
 have hS7 := hS6.out0 hd2
 refine sQ 4 (Y_assign (v := .slice B6 r_3.length c6) rfl rfl) (rw_nil (cw_seq (cw_seq (cw_region ?_))))
 refine sQ 14 (Y_move (v := pt B 0) rfl rfl) ?_
 refine sQ 15 (Y_fieldAddr (B := aD b2) (i := 0) (s := 0) k_fd_70_0_0_3 k_sz_3_1 rfl rfl) ?_
 refine sQ 16 (Y_load1 (B := aD b2) (i := 0) (cs := [vi r_2.Qubits, vi r_2.Phase, .slice B4 r_2.Terms.length c4, .slice B5 r_2.Out.Rows.length c5]) (v := vi r_2.Qubits) k_sc_3 rfl rfl (hS7.cf (i := 5) rfl) rfl) ?_
 obtain ⟨⟨r_4, m3⟩, hc3, hF⟩ := bind_inv hF
 refine sc 17 rfl rfl (Yc_func (g := 118) (vs := [pt B 0, vi r_2.Qubits]) k_call_118 rfl (mc rfl (mc rfl mn)) (c_spec_l1Cur_oddWord (Tl1Cur.mk c.code m2.at_ m2.seed) r_2.Qubits B B1 c1 c.code.length _ rfl (hS7.inn [false, false, true, false, false, false, false] rfl [(true, 0)] rfl) hc3)) ?_
 rintro _ w_7 ⟨rfl, hd3⟩
 have hS8 := hS7.out [false, false, true, false, false, false, false] rfl hd3
 obtain ⟨r_5, hc4, hF⟩ := bind_inv hF
 refine sc 18 rfl rfl (Yc_func (g := 190) (vs := [vi r_4]) k_call_190 rfl (mc rfl mn) (c_spec_l1Set r_4 _  (hS8.inn0 [] rfl) hc4)) ?_
 rintro _ w_8 ⟨B7, c7, rfl, hd4⟩
 have hS9 := hS8.out0 hd4
 refine sQ 19 (Y_len (B := B7) (m := r_5.length) (c := c7) k_sl_66_3 rfl rfl) ?_
 refine sQ 20 (Y_move (v := vi 0) rfl rfl) (rw_nil ?_)
 obtain ⟨hN, hF⟩ := chk_inv hF
 obtain ⟨z, hz, hF1⟩ := bind_inv hF
 refine cw_block ?_
 refine cw_loop (fun k f w => ∃ (i : Nat) (by_ : List Int), FF f [(2, pt (aD b) 0), (3, pt (aD b2) 0), (4, .slice B6 r_3.length c6), (18, .slice B7 r_5.length c7), (19, vi (r_5.length : Int)), (20, vi (i : Int))] ∧ by_.length = r_3.length ∧ ST w0 (bl [⟨B, 112, [.slice B1 c.code.length c1, vi c.at_, .int .u64 c.seed], 3⟩]) w [⟨B, 112, [.slice B1 c.code.length c1, vi m3.at_, .int .u64 m3.seed], 3⟩, ⟨aD b, 70, [vi 0, vi 0, .slice none 0 0, .slice none 0 0], 4⟩, ⟨aD b2, 70, [vi r_2.Qubits, vi r_2.Phase, .slice B4 r_2.Terms.length c4, .slice B5 r_2.Out.Rows.length c5], 4⟩, ⟨B4, 136, (r_2.Terms.flatMap eN0), c4 * 2⟩, ⟨B5, 3, (r_2.Out.Rows.flatMap encI), c5 * 1⟩, ⟨B6, 3, (by_.flatMap encI), c6 * 1⟩, ⟨B7, 3, (r_5.flatMap encI), c7 * 1⟩] [⟨B1, (c.code.flatMap enc_u8)⟩] ∧ i + k = r_5.length ∧ forN (F_spec_l1Cur_reducible_l1 r_5) k i by_ = some z) r_5.length ⟨0, r_3, (FF.cons rfl (FF.cons rfl (FF.cons rfl (FF.cons rfl (FF.cons rfl (FF.cons rfl FF.nil)))))), rfl, (hS9.sel [6, 0, 4, 2, 3, 5, 7] rfl rfl), Nat.zero_add _, hz⟩ ?_
 rintro k_ f w ⟨i, by_, hf, hl, hS10, hik, hL⟩
 refine cw_seq (cw_region ?_)
 refine sQ 21 (Y_lt (k := .i64) (a := (i : Int)) (b := (r_5.length : Int)) rfl (hf.get 20 5 rfl) (hf.get 19 4 rfl)) (rw_nil (cw_seq ?_))
 refine cw_cond (b := (decide ((i : Int) < (r_5.length : Int)))) rfl (fun hlt => ?_) (fun hlt => ?_)
 ·skip
  have hlt1 : i < r_5.length := by have h := of_decide_eq_true hlt; omega
  obtain ⟨k_1, rfl⟩ : ∃ k2, k_ = k2 + 1 := ⟨k_ - 1, by omega⟩
  obtain ⟨y, hb, hL1⟩ := forN_go hL
  unfold F_spec_l1Cur_reducible_l1 at hb
  refine cw_skip (cw_seq (cw_block (cw_seq (cw_region ?_))))
  obtain ⟨x, hx, hb⟩ := bind_inv hb
  refine sQ 22 (Y_index (B := B7) (m := r_5.length) (c := c7) (k := .i64) (i := (i : Int)) k_sl_66_3 k_sz_3_1 rfl (hf.get 18 3 rfl) (hf.get 20 5 rfl) (gi_isSome encI_len rfl (hS10.cf (i := 6) rfl) hx) (getI_nn hx) (getI_ltI hx rfl)) ?_
  refine sQ 23 (Y_load1 (B := B7) (i := (i : Int).toNat * 1) (cs := (r_5.flatMap encI)) (v := vi x) k_sc_3 rfl rfl (hS10.cf (i := 6) rfl) (gi_at0 encI_len hx rfl)) ?_
  refine sQ 6 (Y_assign (v := vi x) rfl rfl) (rw_nil (cw_region ?_))
  refine sQ 24 (Y_move (v := .slice B6 r_3.length c6) rfl (hf.get 4 2 rfl)) ?_
  refine sQ 25 (Y_move (v := vi x) rfl rfl) ?_
  refine sQ 26 (Y_add (k := .i64) (a := x) (b := 1) rfl rfl rfl) ?_
  obtain ⟨x1, hx1, hb⟩ := bind_inv hb
  refine sQ 27 (Y_index (B := B6) (m := r_3.length) (c := c6) (k := .i64) (i := (i64.wrap (x + 1))) k_sl_66_3 k_sz_3_1 rfl rfl rfl (gi_isSome encI_len rfl (hS10.cf (i := 5) rfl) hx1) (getI_nn hx1) (getI_ltI hx1 hl)) ?_
  refine sQ 28 (Y_load1 (B := B6) (i := (i64.wrap (x + 1)).toNat * 1) (cs := (by_.flatMap encI)) (v := vi x1) k_sc_3 rfl rfl (hS10.cf (i := 5) rfl) (gi_at0 encI_len hx1 rfl)) ?_
  refine sQ 29 (Y_add (k := .i64) (a := x1) (b := 1) rfl rfl rfl) ?_
  refine sQ 30 (Y_index (B := B6) (m := r_3.length) (c := c6) (k := .i64) (i := (i64.wrap (x + 1))) k_sl_66_3 k_sz_3_1 rfl rfl rfl (gi_isSome encI_len rfl (hS10.cf (i := 5) rfl) hx1) (getI_nn hx1) (getI_ltI hx1 hl)) ?_
  refine s0 (Ys_store (i := 5) (s := 1) (B := B6) (T' := 3) (v := vi (i64.wrap (x1 + 1))) (vs := [vi (i64.wrap (x1 + 1))]) (k := (i64.wrap (x + 1)).toNat * 1) (cs' := ((by_.set (i64.wrap (x + 1)).toNat (i64.wrap (x1 + 1))).flatMap encI)) hS10 k_sz_3_1 rfl rfl rfl rfl rfl rfl rfl (gi_fit0 encI_len hx1) (gi_set encI_len hx1 (i64.wrap (x1 + 1)) rfl) rfl) ?_
  rintro _ w_9 ⟨rfl, hS11⟩
  refine rw_nil (cw_region ?_)
  refine sQ 31 (Y_add (k := .i64) (a := (i : Int)) (b := 1) rfl (hf.get 20 5 rfl) rfl) ?_
  refine sQ 20 (Y_move (v := vi (i64.wrap ((i : Int) + 1))) rfl rfl) (rw_nil ?_)
  obtain rfl := some_inj hb
  exact ⟨k_1, Nat.lt_succ_self _, i + 1, (by_.set (i64.wrap (x + 1)).toNat (i64.wrap (x1 + 1))), (FF.cons (hf.get 2 0 rfl) (FF.cons (hf.get 3 1 rfl) (FF.cons (hf.get 4 2 rfl) (FF.cons (hf.get 18 3 rfl) (FF.cons (hf.get 19 4 rfl) (FF.cons (congrArg (Value.int .i64) (wr_succ hlt1 hN)) FF.nil)))))), (set_len _ _ _ hl), (hS11.sel [0, 1, 2, 3, 4, 5, 6] rfl rfl), (by omega), hL1⟩
 ·skip
  obtain rfl : k_ = 0 := by have h := of_decide_eq_false hlt; omega
  refine cw_exit rfl ?_
  obtain rfl := some_inj hL
  refine cw_seq (cw_region ?_)
  refine sQ 32 (Y_move (v := .slice B6 r_3.length c6) rfl (hf.get 4 2 rfl)) ?_
  obtain ⟨r_6, hc5, hF1⟩ := bind_inv hF1
  refine sc 33 rfl rfl (Yc_func (g := 99) (vs := [.slice B6 r_3.length c6]) k_call_99 rfl (mc rfl mn) (c_spec_l13List by_ B6 c6 r_3.length _ hl (hS10.inn0 [(false, 5)] rfl) hc5)) ?_
  rintro _ w_10 ⟨B8, c8, rfl, hd5⟩
  have hS12 := hS10.out0 hd5
  refine sQ 34 (Y_fieldAddr (B := aD b2) (i := 0) (s := 0) k_fd_70_2_2_65 k_sz_65_1 rfl (hf.get 3 1 rfl)) ?_
  refine s0 (Ys_store (i := 2) (s := 1) (B := aD b2) (T' := 70) (v := .slice B8 r_6.length c8) (vs := [.slice B8 r_6.length c8]) (k := 2) (cs' := [vi r_2.Qubits, vi r_2.Phase, .slice B8 r_6.length c8, .slice B5 r_2.Out.Rows.length c5]) hS12 k_sz_65_1 rfl rfl rfl rfl rfl rfl rfl (lB rfl) rfl rfl) ?_
  rintro _ w_11 ⟨rfl, hS13⟩
  refine rw_nil (cw_seq (cw_region ?_))
  refine sQ 35 (Y_loadA (B := aD b2) (i := 0) (cs := [vi r_2.Qubits, vi r_2.Phase, .slice B8 r_6.length c8, .slice B5 r_2.Out.Rows.length c5]) (vs := [vi r_2.Qubits, vi r_2.Phase, .slice B8 r_6.length c8, .slice B5 r_2.Out.Rows.length c5]) k_ag_70 k_sz_70_4 rfl (hf.get 3 1 rfl) (hS13.cf (i := 2) rfl) rfl rfl) ?_
  refine s0 (Ys_store (i := 1) (s := 4) (B := aD b) (T' := 70) (v := .agg #[vi r_2.Qubits, vi r_2.Phase, .slice B8 r_6.length c8, .slice B5 r_2.Out.Rows.length c5]) (vs := [vi r_2.Qubits, vi r_2.Phase, .slice B8 r_6.length c8, .slice B5 r_2.Out.Rows.length c5]) (k := 0) (cs' := [vi r_2.Qubits, vi r_2.Phase, .slice B8 r_6.length c8, .slice B5 r_2.Out.Rows.length c5]) hS13 k_sz_70_4 rfl (hf.get 2 0 rfl) rfl rfl rfl rfl rfl (lB rfl) rfl rfl) ?_
  rintro _ w_12 ⟨rfl, hS14⟩
  refine rw_nil (cw_ret ?_)
  obtain ⟨rfl, rfl⟩ := pr2 (some_inj hF1)
  exact ret1 Tryz.results117 (v1 := .agg #[vi r_2.Qubits, vi r_2.Phase, .slice B8 r_6.length c8, .slice B5 r_2.Out.Rows.length c5]) (resAt_cellA (B := aD b) (i := 0) (cs := [vi r_2.Qubits, vi r_2.Phase, .slice B8 r_6.length c8, .slice B5 r_2.Out.Rows.length c5]) (vs := [vi r_2.Qubits, vi r_2.Phase, .slice B8 r_6.length c8, .slice B5 r_2.Out.Rows.length c5]) (hf.get 2 0 rfl) k_ag_70 k_sz_70_4 (hS14.cf (i := 1) rfl) rfl rfl) ⟨B8, c8, B5, c5, rfl, (hS14.sN [0, 7, 4])⟩

theorem c_spec_l1Cur_anyLinear (c : Tl1Cur) (B : Option Addr) (B1 : Option Addr) (c1 n : Nat) (w0 : World) (hn : c.code.length = n) (hS : ST w0 (bl [⟨B, 112, [.slice B1 n c1, vi c.at_, .int .u64 c.seed], 3⟩]) w0 [⟨B, 112, [.slice B1 n c1, vi c.at_, .int .u64 c.seed], 3⟩] [⟨B1, (c.code.flatMap enc_u8)⟩]) {r_ : TLinear} {m : Tl1Cur} (hF : F_spec_l1Cur_anyLinear c = some (r_, m)) :
  CV Tryz.prog 195 #[pt B 0] w0 (fun v w' => ∃ (B2 : Option Addr) (c2 : Nat), v = .agg #[.slice B2 r_.Rows.length c2] ∧ r_.Rows.length ≤ c2 ∧ Org w0 (bl [⟨B, 112, [.slice B1 n c1, vi c.at_, .int .u64 c.seed], 3⟩]) [⟨B1, (c.code.flatMap enc_u8)⟩] [⟨B2, (r_.Rows.flatMap encI)⟩] ∧ ST w0 (bl [⟨B, 112, [.slice B1 n c1, vi c.at_, .int .u64 c.seed], 3⟩]) w' [⟨B, 112, [.slice B1 n c1, vi m.at_, .int .u64 m.seed], 3⟩] [⟨B2, (r_.Rows.flatMap encI)⟩]) := by
 subst hn
 unfold F_spec_l1Cur_anyLinear at hF
 refine cv_of_cw 35 Tryz.func195 rfl Tryz.ntmps195 rfl ?_
 refine cw_seq (cw_region ?_)
 refine sS 2 (Ys_alloc (T := 68) (cs := [.slice none 0 0]) (m := 1) hS k_zero_68 rfl rfl rfl) ?_
 rintro _ w_ ⟨b, rfl, hS1⟩
 refine rw_nil (cw_seq (cw_region ?_))
 refine sQ 4 (Y_move (v := pt B 0) rfl rfl) ?_
 refine sQ 5 (Y_move (v := pt B 0) rfl rfl) ?_
 obtain ⟨⟨r_1, m1⟩, hc, hF⟩ := bind_inv hF
 refine sc 6 rfl rfl (Yc_func (g := 71) (vs := [pt B 0, vi 5]) k_call_71 rfl (mc rfl (mc rfl mn)) (c_spec_l1Cur_pick c 5 B B1 c1 c.code.length _ rfl (hS1.inn [true, false] rfl [(true, 0)] rfl) hc)) ?_
 rintro _ w_1 ⟨rfl, hd⟩
 have hS2 := hS1.out [true, false] rfl hd
 refine sQ 7 (Y_add (k := .i64) (a := 1) (b := r_1) rfl rfl rfl) ?_
 obtain ⟨⟨r_2, m2⟩, hc1, hF⟩ := bind_inv hF
 refine sc 8 rfl rfl (Yc_func (g := 236) (vs := [pt B 0, vi (i64.wrap (1 + r_1))]) k_call_236 rfl (mc rfl (mc rfl mn)) (c_spec_l1Cur_linear (Tl1Cur.mk c.code m1.at_ m1.seed) (i64.wrap (1 + r_1)) B B1 c1 c.code.length _ rfl (hS2.inn [false, true] rfl [(true, 0)] rfl) hc1)) ?_
 rintro _ w_2 ⟨B3, c3, rfl, hd1⟩
 have hS3 := hS2.out [false, true] rfl hd1
 refine sS 3 (Ys_alloc (T := 68) (cs := [.slice none 0 0]) (m := 1) hS3 k_zero_68 rfl rfl rfl) ?_
 rintro _ w_3 ⟨b1, rfl, hS4⟩
 refine s0 (Ys_store (i := 3) (s := 1) (B := aD b1) (T' := 68) (v := .agg #[.slice B3 r_2.Rows.length c3]) (vs := [.slice B3 r_2.Rows.length c3]) (k := 0) (cs' := [.slice B3 r_2.Rows.length c3]) hS4 k_sz_68_1 rfl rfl rfl rfl rfl rfl rfl (lB rfl) rfl rfl) ?_
 rintro _ w_4 ⟨rfl, hS5⟩
 refine rw_nil (cw_seq ?_)
 obtain ⟨z, hz, hF1⟩ := bind_inv hF
 refine cw_mid (fun f w => ∃ (at_ : Int) (seed : Int) (Rows : List Int) (B4 : Option Addr) (c4 : Nat), (at_, seed, Rows) = z ∧ FF f [(2, pt (aD b) 0), (3, pt (aD b1) 0)] ∧ Org w0 (bl [⟨B, 112, [.slice B1 c.code.length c1, vi c.at_, .int .u64 c.seed], 3⟩]) [⟨B1, (c.code.flatMap enc_u8)⟩] [⟨B4, (Rows.flatMap encI)⟩] ∧ Rows.length ≤ c4 ∧ ST w0 (bl [⟨B, 112, [.slice B1 c.code.length c1, vi c.at_, .int .u64 c.seed], 3⟩]) w [⟨B, 112, [.slice B1 c.code.length c1, vi at_, .int .u64 seed], 3⟩, ⟨aD b, 68, [.slice none 0 0], 1⟩, ⟨aD b1, 68, [.slice B4 Rows.length c4], 1⟩] [⟨B4, (Rows.flatMap encI)⟩, ⟨B1, (c.code.flatMap enc_u8)⟩]) ?_ ?_
 ·skip
  refine cw_seq (cw_region ?_)
  refine sQ 9 (Y_move (v := pt B 0) rfl rfl) ?_
  obtain ⟨⟨r_3, m3⟩, hc2, hz⟩ := bind_inv hz
  refine sc 10 rfl rfl (Yc_func (g := 71) (vs := [pt B 0, vi 12]) k_call_71 rfl (mc rfl (mc rfl mn)) (c_spec_l1Cur_pick (Tl1Cur.mk c.code m2.at_ m2.seed) 12 B B1 c1 c.code.length _ rfl (hS5.inn [false, true, false, false] rfl [(true, 0)] rfl) hc2)) ?_
  rintro _ w_5 ⟨rfl, hd2⟩
  have hS7 := hS5.out [false, true, false, false] rfl hd2
  refine rw_nil (cw_block (cw_seq (cw_region ?_)))
  refine sQ 12 (Y_eq (k := .i64) (a := r_3) (b := 0) rfl rfl rfl) ?_
  refine sQ 11 (Y_assign (v := .bool (r_3 == 0)) rfl rfl) (rw_nil ?_)
  refine cw_cond (b := (r_3 == 0)) rfl (fun hb => ?_) (fun hb => ?_)
  ·skip
   have hF2 := ct hz hb
   obtain ⟨⟨r_4, m4⟩, hc3, hF2⟩ := bind_inv hF2
   obtain ⟨x, hx, hF2⟩ := bind_inv hF2
   refine ra_start (hS7.se [0, 2]).fn (by kernel_rfl) ?_
   have hS9 := hS7.drew
   refine rq 0 13 (v := pt (aD b1) 0) rfl (hS9.se [0, 2]) (fun w' hw' => (Y_fieldAddr (B := aD b1) (i := 0) (s := 0) k_fd_68_0_0_66 k_sz_66_1 rfl rfl)) ?_
   refine rq 1 14 (v := .slice B3 r_2.Rows.length c3) rfl (hS9.se [0, 2]) (fun w' hw' => (Y_load1 (B := aD b1) (i := 0) (cs := [.slice B3 r_2.Rows.length c3]) (v := .slice B3 r_2.Rows.length c3) k_sc_66 rfl rfl (ST.cf hw' (i := 1) rfl) rfl)) ?_
   refine rq 2 15 (v := pt B 0) rfl (hS9.se [0, 2]) (fun w' hw' => (Y_move (v := pt B 0) rfl rfl)) ?_
   refine rA [3] ?_
   refine ra_s 16 (i := 3) rfl rfl rfl (Ys_bslice (s := 1) (len := 5) (vs := [(0, vi (-1)), (1, vi 0), (2, vi 31), (3, vi 32), (4, vi 3)]) (cs := [vi (-1), vi 0, vi 31, vi 32, vi 3]) (zs := kZ_) (m := 5) hS9 k_sl_66_3 k_sz_3_1 k_zc_3 rfl (mpc rfl (mpc rfl (mpc rfl (mpc rfl (mpc rfl mpn))))) rfl rfl rfl (by kernel_rfl) (by kernel_rfl) rfl) ?_ ?_
   ·rintro _ w_6 ⟨b2, rfl, hS10⟩
    refine ⟨(hS10.se [0, 2]), ?_⟩
    refine rA [4] ?_
    refine ra_c 17 (i := 4) rfl rfl rfl (Yc_func (g := 153) (vs := [pt B 0, .slice (aD b2) 5 5]) k_call_153 rfl (mc rfl (mc rfl mn)) (c_spec_l1Cur_among (Tl1Cur.mk c.code m3.at_ m3.seed) [(-1), 0, 31, 32, 3] B B1 c1 c.code.length (aD b2) 5 5 _ rfl rfl (hS10.inn [false, false, false, true, false] rfl [(true, 0), (false, 3)] rfl) hc3)) ?_ ?_
    ·rintro _ w_7 ⟨rfl, hd3⟩
     have hS11 := hS10.out [false, false, false, true, false] rfl hd3
     refine ⟨(hS11.se [0, 2]), ?_⟩
     refine rA [5] ?_
     refine ra_y 18 (i := 5) (v := pt B3 ((0 : Int).toNat * 1)) rfl rfl rfl (Y_index (B := B3) (m := r_2.Rows.length) (c := c3) (k := .i64) (i := 0) k_sl_66_3 k_sz_3_1 rfl rfl rfl (gi_isSome encI_len rfl (hS11.cf (i := 1) rfl) hx) (getI_nn hx) (getI_ltI hx rfl)) (hS11.se [0, 2]) ?_ ?_
     ·skip
      refine rA [6] ?_
      refine ra_s0 (i := 6) rfl rfl rfl (Ys_store (i := 1) (s := 1) (B := B3) (T' := 3) (v := vi r_4) (vs := [vi r_4]) (k := (0 : Int).toNat * 1) (cs' := ((r_2.Rows.set (0 : Int).toNat r_4).flatMap encI)) hS11 k_sz_3_1 rfl rfl rfl rfl rfl rfl rfl (gi_fit0 encI_len hx) (gi_set encI_len hx r_4 rfl) rfl) ?_ ?_
      ·rintro _ w_8 ⟨rfl, hS12⟩
       refine ⟨(hS12.se [0, 2]), ?_⟩
       refine ra_done (by kernel_rfl) ?_
       have ho1 : Org w0 (bl [⟨B, 112, [.slice B1 c.code.length c1, vi c.at_, .int .u64 c.seed], 3⟩]) [⟨B1, (c.code.flatMap enc_u8)⟩] [⟨B3, ((r_2.Rows.set (0 : Int).toNat r_4).flatMap encI)⟩] := ST.orgOwn hS12 (i := 1) rfl
       have hcap : r_2.Rows.length ≤ c3 := (hS12.lencap (i := 1) rfl (fm_lenn (l := (r_2.Rows.set (0 : Int).toNat r_4)) encI_len (set_len _ _ _ rfl)) rfl rfl)
       have hS13 : ST w0 (bl [⟨B, 112, [.slice B1 c.code.length c1, vi c.at_, .int .u64 c.seed], 3⟩]) _ [⟨aD b, 68, [.slice none 0 0], 1⟩, ⟨aD b1, 68, [.slice B3 r_2.Rows.length c3], 1⟩, ⟨aD b2, 3, ([(-1), 0, 31, 32, 3].flatMap encI), 5 * 1⟩, ⟨B, 112, [.slice B1 c.code.length c1, vi m4.at_, .int .u64 m4.seed], 3⟩] [⟨B3, ((r_2.Rows.set (0 : Int).toNat r_4).flatMap encI)⟩, ⟨B1, (c.code.flatMap enc_u8)⟩] := hS12.freeze (i := 1) rfl
       exact ⟨m4.at_, m4.seed, (r_2.Rows.set (0 : Int).toNat r_4), B3, c3, (some_inj hF2), (FF.cons rfl (FF.cons rfl FF.nil)), ho1, (len_le (set_len _ _ _ rfl) hcap), (by rw [((set_len _ _ _ rfl) : (r_2.Rows.set (0 : Int).toNat r_4).length = r_2.Rows.length)]; exact hS13.sel [3, 0, 1] rfl rfl)⟩
      exact allR_nil
     exact allR_nil
    exact allR_nil
   exact allR_nil
  ·skip
   have hF3 := cf' hz hb
   refine cw_seq (cw_region ?_)
   refine sQ 20 (Y_eq (k := .i64) (a := r_3) (b := 1) rfl rfl rfl) ?_
   refine sQ 19 (Y_assign (v := .bool (r_3 == 1)) rfl rfl) (rw_nil ?_)
   refine cw_cond (b := (r_3 == 1)) rfl (fun hb1 => ?_) (fun hb1 => ?_)
   ·skip
    have hF4 := ct hF3 hb1
    obtain ⟨⟨r_5, m5⟩, hc4, hF4⟩ := bind_inv hF4
    obtain ⟨hap, hF4⟩ := chk_inv hF4
    refine cw_mid (fun f w => ∃ (B6 : Option Addr) (c6 : Nat), FF f [(2, pt (aD b) 0), (3, pt (aD b1) 0)] ∧ ST w0 (bl [⟨B, 112, [.slice B1 c.code.length c1, vi c.at_, .int .u64 c.seed], 3⟩]) w [⟨B, 112, [.slice B1 c.code.length c1, vi m5.at_, .int .u64 m5.seed], 3⟩, ⟨aD b, 68, [.slice none 0 0], 1⟩, ⟨aD b1, 68, [.slice B6 ((r_2.Rows ++ [r_5]).length) c6], 1⟩, ⟨B6, 3, ((r_2.Rows ++ [r_5]).flatMap encI), c6 * 1⟩] [⟨B1, (c.code.flatMap enc_u8)⟩]) ?_ ?_
    ·skip
     refine ra_start (hS7.se [0]).fn (by kernel_rfl) ?_
     have hS16 := hS7.drew
     refine rq 0 21 (v := pt (aD b1) 0) rfl (hS16.se [0]) (fun w' hw' => (Y_fieldAddr (B := aD b1) (i := 0) (s := 0) k_fd_68_0_0_66 k_sz_66_1 rfl rfl)) ?_
     refine rq 2 23 (v := pt B 0) rfl (hS16.se [0]) (fun w' hw' => (Y_move (v := pt B 0) rfl rfl)) ?_
     refine rA [1, 3] ?_
     refine ra_y 22 (i := 1) (v := .slice B3 r_2.Rows.length c3) rfl rfl rfl (Y_load1 (B := aD b1) (i := 0) (cs := [.slice B3 r_2.Rows.length c3]) (v := .slice B3 r_2.Rows.length c3) k_sc_66 rfl rfl (hS16.cf (i := 2) rfl) rfl) (hS16.se [0]) ?_ ?_
     ·skip
      refine rA [3] ?_
      refine ra_c 24 (i := 3) rfl rfl rfl (Yc_func (g := 71) (vs := [pt B 0, vi 70]) k_call_71 rfl (mc rfl (mc rfl mn)) (c_spec_l1Cur_pick (Tl1Cur.mk c.code m3.at_ m3.seed) 70 B B1 c1 c.code.length _ rfl (hS16.inn [false, false, false, true] rfl [(true, 0)] rfl) hc4)) ?_ ?_
      ·rintro _ w_9 ⟨rfl, hd4⟩
       have hS17 := hS16.out [false, false, false, true] rfl hd4
       refine ⟨(hS17.se [0]), ?_⟩
       refine rA [4] ?_
       refine ra_s 25 (i := 4) rfl rfl rfl (Ys_bslice (s := 1) (len := 1) (vs := [(0, vi r_5)]) (cs := [vi r_5]) (zs := [vi 0]) (m := 1) hS17 k_sl_66_3 k_sz_3_1 k_zc_3 rfl (mpc rfl mpn) rfl rfl rfl (by kernel_rfl) (by kernel_rfl) rfl) ?_ ?_
       ·rintro _ w_10 ⟨b3, rfl, hS18⟩
        refine ⟨(hS18.se [0]), ?_⟩
        refine rA [5] ?_
        refine ra_s 26 (i := 5) rfl rfl rfl (Ys_append (s := 1) (by' := 8) (i := 1) (nn := r_2.Rows.length) (c := c3) (k := 1) (len := (r_2.Rows ++ [r_5]).length) (B := B3) (xs := ([r_5].flatMap encI)) (cs' := ((r_2.Rows ++ [r_5]).flatMap encI)) hS18 k_sl_66_3 k_sz_3_1 k_by_3_8 k_zero_3 rfl (by decide) rfl rfl rfl rfl (fm_lenn (l := r_2.Rows) encI_len rfl) rfl (hS18.cf (i := 4) rfl) (fm_lenn (l := [r_5]) encI_len rfl) (fm_one' (enc := encI) encI_one [r_5]) (by have := hap; omega) (by have := hap; simp only [maxLen]; omega) (fm_app _ _) (app_len (l := r_2.Rows) (l' := [r_5]) rfl rfl)) ?_ ?_
        ·rintro _ w_11 ⟨B5, c5, rfl, hS19⟩
         refine ⟨(hS19.se [0]), ?_⟩
         refine rq 6 27 (v := pt (aD b1) 0) rfl (hS19.se [0]) (fun w' hw' => (Y_fieldAddr (B := aD b1) (i := 0) (s := 0) k_fd_68_0_0_66 k_sz_66_1 rfl rfl)) ?_
         refine rA [7] ?_
         refine ra_s0 (i := 7) rfl rfl rfl (Ys_store (i := 2) (s := 1) (B := aD b1) (T' := 68) (v := .slice B5 ((r_2.Rows ++ [r_5]).length) c5) (vs := [.slice B5 ((r_2.Rows ++ [r_5]).length) c5]) (k := 0) (cs' := [.slice B5 ((r_2.Rows ++ [r_5]).length) c5]) hS19 k_sz_66_1 rfl rfl rfl rfl rfl rfl rfl (lB rfl) rfl rfl) ?_ ?_
         ·rintro _ w_12 ⟨rfl, hS20⟩
          refine ⟨(hS20.se [0]), ?_⟩
          refine ra_done (by kernel_rfl) ?_
          exact ⟨B5, c5, (FF.cons rfl (FF.cons rfl FF.nil)), (hS20.sel [3, 0, 2, 1] rfl rfl)⟩
         exact allR_nil
        exact allR_nil
       exact allR_nil
      exact allR_nil
     refine ra_c 24 (i := 3) rfl rfl rfl (Yc_func (g := 71) (vs := [pt B 0, vi 70]) k_call_71 rfl (mc rfl (mc rfl mn)) (c_spec_l1Cur_pick (Tl1Cur.mk c.code m3.at_ m3.seed) 70 B B1 c1 c.code.length _ rfl (hS16.inn [false, false, false, true] rfl [(true, 0)] rfl) hc4)) ?_ ?_
     ·rintro _ w_13 ⟨rfl, hd5⟩
      have hS21 := hS16.out [false, false, false, true] rfl hd5
      refine ⟨(hS21.se [0]), ?_⟩
      refine rA [1, 4] ?_
      refine ra_y 22 (i := 1) (v := .slice B3 r_2.Rows.length c3) rfl rfl rfl (Y_load1 (B := aD b1) (i := 0) (cs := [.slice B3 r_2.Rows.length c3]) (v := .slice B3 r_2.Rows.length c3) k_sc_66 rfl rfl (hS21.cf (i := 2) rfl) rfl) (hS21.se [0]) ?_ ?_
      ·skip
       refine rA [4] ?_
       refine ra_s 25 (i := 4) rfl rfl rfl (Ys_bslice (s := 1) (len := 1) (vs := [(0, vi r_5)]) (cs := [vi r_5]) (zs := [vi 0]) (m := 1) hS21 k_sl_66_3 k_sz_3_1 k_zc_3 rfl (mpc rfl mpn) rfl rfl rfl (by kernel_rfl) (by kernel_rfl) rfl) ?_ ?_
       ·rintro _ w_14 ⟨b3, rfl, hS22⟩
        refine ⟨(hS22.se [0]), ?_⟩
        refine rA [5] ?_
        refine ra_s 26 (i := 5) rfl rfl rfl (Ys_append (s := 1) (by' := 8) (i := 1) (nn := r_2.Rows.length) (c := c3) (k := 1) (len := (r_2.Rows ++ [r_5]).length) (B := B3) (xs := ([r_5].flatMap encI)) (cs' := ((r_2.Rows ++ [r_5]).flatMap encI)) hS22 k_sl_66_3 k_sz_3_1 k_by_3_8 k_zero_3 rfl (by decide) rfl rfl rfl rfl (fm_lenn (l := r_2.Rows) encI_len rfl) rfl (hS22.cf (i := 4) rfl) (fm_lenn (l := [r_5]) encI_len rfl) (fm_one' (enc := encI) encI_one [r_5]) (by have := hap; omega) (by have := hap; simp only [maxLen]; omega) (fm_app _ _) (app_len (l := r_2.Rows) (l' := [r_5]) rfl rfl)) ?_ ?_
        ·rintro _ w_15 ⟨B5, c5, rfl, hS23⟩
         refine ⟨(hS23.se [0]), ?_⟩
         refine rq 6 27 (v := pt (aD b1) 0) rfl (hS23.se [0]) (fun w' hw' => (Y_fieldAddr (B := aD b1) (i := 0) (s := 0) k_fd_68_0_0_66 k_sz_66_1 rfl rfl)) ?_
         refine rA [7] ?_
         refine ra_s0 (i := 7) rfl rfl rfl (Ys_store (i := 2) (s := 1) (B := aD b1) (T' := 68) (v := .slice B5 ((r_2.Rows ++ [r_5]).length) c5) (vs := [.slice B5 ((r_2.Rows ++ [r_5]).length) c5]) (k := 0) (cs' := [.slice B5 ((r_2.Rows ++ [r_5]).length) c5]) hS23 k_sz_66_1 rfl rfl rfl rfl rfl rfl rfl (lB rfl) rfl rfl) ?_ ?_
         ·rintro _ w_16 ⟨rfl, hS24⟩
          refine ⟨(hS24.se [0]), ?_⟩
          refine ra_done (by kernel_rfl) ?_
          exact ⟨B5, c5, (FF.cons rfl (FF.cons rfl FF.nil)), (hS24.sel [3, 0, 2, 1] rfl rfl)⟩
         exact allR_nil
        exact allR_nil
       exact allR_nil
      refine ra_s 25 (i := 4) rfl rfl rfl (Ys_bslice (s := 1) (len := 1) (vs := [(0, vi r_5)]) (cs := [vi r_5]) (zs := [vi 0]) (m := 1) hS21 k_sl_66_3 k_sz_3_1 k_zc_3 rfl (mpc rfl mpn) rfl rfl rfl (by kernel_rfl) (by kernel_rfl) rfl) ?_ ?_
      ·rintro _ w_17 ⟨b3, rfl, hS25⟩
       refine ⟨(hS25.se [0]), ?_⟩
       refine rA [1] ?_
       refine ra_y 22 (i := 1) (v := .slice B3 r_2.Rows.length c3) rfl rfl rfl (Y_load1 (B := aD b1) (i := 0) (cs := [.slice B3 r_2.Rows.length c3]) (v := .slice B3 r_2.Rows.length c3) k_sc_66 rfl rfl (hS25.cf (i := 2) rfl) rfl) (hS25.se [0]) ?_ ?_
       ·skip
        refine rA [5] ?_
        refine ra_s 26 (i := 5) rfl rfl rfl (Ys_append (s := 1) (by' := 8) (i := 1) (nn := r_2.Rows.length) (c := c3) (k := 1) (len := (r_2.Rows ++ [r_5]).length) (B := B3) (xs := ([r_5].flatMap encI)) (cs' := ((r_2.Rows ++ [r_5]).flatMap encI)) hS25 k_sl_66_3 k_sz_3_1 k_by_3_8 k_zero_3 rfl (by decide) rfl rfl rfl rfl (fm_lenn (l := r_2.Rows) encI_len rfl) rfl (hS25.cf (i := 4) rfl) (fm_lenn (l := [r_5]) encI_len rfl) (fm_one' (enc := encI) encI_one [r_5]) (by have := hap; omega) (by have := hap; simp only [maxLen]; omega) (fm_app _ _) (app_len (l := r_2.Rows) (l' := [r_5]) rfl rfl)) ?_ ?_
        ·rintro _ w_18 ⟨B5, c5, rfl, hS26⟩
         refine ⟨(hS26.se [0]), ?_⟩
         refine rq 6 27 (v := pt (aD b1) 0) rfl (hS26.se [0]) (fun w' hw' => (Y_fieldAddr (B := aD b1) (i := 0) (s := 0) k_fd_68_0_0_66 k_sz_66_1 rfl rfl)) ?_
         refine rA [7] ?_
         refine ra_s0 (i := 7) rfl rfl rfl (Ys_store (i := 2) (s := 1) (B := aD b1) (T' := 68) (v := .slice B5 ((r_2.Rows ++ [r_5]).length) c5) (vs := [.slice B5 ((r_2.Rows ++ [r_5]).length) c5]) (k := 0) (cs' := [.slice B5 ((r_2.Rows ++ [r_5]).length) c5]) hS26 k_sz_66_1 rfl rfl rfl rfl rfl rfl rfl (lB rfl) rfl rfl) ?_ ?_
         ·rintro _ w_19 ⟨rfl, hS27⟩
          refine ⟨(hS27.se [0]), ?_⟩
          refine ra_done (by kernel_rfl) ?_
          exact ⟨B5, c5, (FF.cons rfl (FF.cons rfl FF.nil)), (hS27.sel [3, 0, 2, 1] rfl rfl)⟩
         exact allR_nil
        exact allR_nil
       exact allR_nil
      exact allR_nil
     exact allR_nil
    rintro f w ⟨B6, c6, hf1, hS15⟩
    have ho2 : Org w0 (bl [⟨B, 112, [.slice B1 c.code.length c1, vi c.at_, .int .u64 c.seed], 3⟩]) [⟨B1, (c.code.flatMap enc_u8)⟩] [⟨B6, ((r_2.Rows ++ [r_5]).flatMap encI)⟩] := ST.orgOwn hS15 (i := 3) rfl
    have hcap1 : (r_2.Rows ++ [r_5]).length ≤ c6 := (hS15.lencap (i := 3) rfl (fm_lenn (l := (r_2.Rows ++ [r_5])) encI_len rfl) rfl rfl)
    have hS28 : ST w0 (bl [⟨B, 112, [.slice B1 c.code.length c1, vi c.at_, .int .u64 c.seed], 3⟩]) _ [⟨B, 112, [.slice B1 c.code.length c1, vi m5.at_, .int .u64 m5.seed], 3⟩, ⟨aD b, 68, [.slice none 0 0], 1⟩, ⟨aD b1, 68, [.slice B6 ((r_2.Rows ++ [r_5]).length) c6], 1⟩] [⟨B6, ((r_2.Rows ++ [r_5]).flatMap encI)⟩, ⟨B1, (c.code.flatMap enc_u8)⟩] := hS15.freeze (i := 3) rfl
    exact ⟨m5.at_, m5.seed, (r_2.Rows ++ [r_5]), B6, c6, (some_inj hF4), (FF.cons (hf1.get 2 0 rfl) (FF.cons (hf1.get 3 1 rfl) FF.nil)), ho2, (len_le rfl hcap1), (hS28.sel [0, 1, 2] rfl rfl)⟩
   ·skip
    have hF5 := cf' hF3 hb1
    refine cw_seq (cw_region ?_)
    refine sQ 29 (Y_eq (k := .i64) (a := r_3) (b := 2) rfl rfl rfl) ?_
    refine sQ 28 (Y_assign (v := .bool (r_3 == 2)) rfl rfl) (rw_nil ?_)
    refine cw_cond (b := (r_3 == 2)) rfl (fun hb2 => ?_) (fun hb2 => ?_)
    ·skip
     have hF6 := ct hF5 hb2
     refine cw_region ?_
     refine sQ 30 (Y_fieldAddr (B := aD b1) (i := 0) (s := 0) k_fd_68_0_0_66 k_sz_66_1 rfl rfl) ?_
     refine sQ 31 (Y_load1 (B := aD b1) (i := 0) (cs := [.slice B3 r_2.Rows.length c3]) (v := .slice B3 r_2.Rows.length c3) k_sc_66 rfl rfl (hS7.cf (i := 2) rfl) rfl) ?_
     obtain ⟨hsl, hF6⟩ := chk_inv hF6
     have hcap2 : r_2.Rows.length ≤ c3 := (hS7.lencap (i := 1) rfl (fm_lenn (l := r_2.Rows) encI_len rfl) rfl rfl)
     have ho4 : Org w0 (bl [⟨B, 112, [.slice B1 c.code.length c1, vi c.at_, .int .u64 c.seed], 3⟩]) [⟨B1, (c.code.flatMap enc_u8)⟩] [⟨B3, (r_2.Rows.flatMap encI)⟩] := ST.orgOwn hS7 (i := 1) rfl
     have hcap3 : r_2.Rows.length ≤ c3 := (hS7.lencap (i := 1) rfl (fm_lenn (l := r_2.Rows) encI_len rfl) rfl rfl)
     have hS29 : ST w0 (bl [⟨B, 112, [.slice B1 c.code.length c1, vi c.at_, .int .u64 c.seed], 3⟩]) _ [⟨aD b, 68, [.slice none 0 0], 1⟩, ⟨aD b1, 68, [.slice B3 r_2.Rows.length c3], 1⟩, ⟨B, 112, [.slice B1 c.code.length c1, vi m3.at_, .int .u64 m3.seed], 3⟩] [⟨B3, (r_2.Rows.flatMap encI)⟩, ⟨B1, (c.code.flatMap enc_u8)⟩] := hS7.freeze (i := 1) rfl
     have hv : (List.drop 1 r_2.Rows).length = (r_2.Rows.length - 1) := (drop_len rfl)
     have hq1 : (r_2.Rows.length - 1) ≤ (c3 - 1) := by omega
     have ho3 : Org w0 (bl [⟨B, 112, [.slice B1 c.code.length c1, vi c.at_, .int .u64 c.seed], 3⟩]) [⟨B1, (c.code.flatMap enc_u8)⟩] [⟨(sv B3 1 c3 1), ((List.drop 1 r_2.Rows).flatMap encI)⟩] := org_view encI_len (q := c3) ho4 rfl (take_all rfl _)
     have hS30 : ST w0 (bl [⟨B, 112, [.slice B1 c.code.length c1, vi c.at_, .int .u64 c.seed], 3⟩]) _ [⟨aD b, 68, [.slice none 0 0], 1⟩, ⟨aD b1, 68, [.slice B3 r_2.Rows.length c3], 1⟩, ⟨B, 112, [.slice B1 c.code.length c1, vi m3.at_, .int .u64 m3.seed], 3⟩] [⟨(sv B3 1 c3 1), ((List.drop 1 r_2.Rows).flatMap encI)⟩, ⟨B3, (r_2.Rows.flatMap encI)⟩, ⟨B1, (c.code.flatMap enc_u8)⟩] := ST.view encI_len hS29 (i := 0) rfl (lo := 1) (h := r_2.Rows.length) (q := c3) (by omega) (by omega) rfl (take_all rfl _)
     refine sQ 32 (Y_slice1 (B := B3) (m := r_2.Rows.length) (c := c3) (l := 1) (h := r_2.Rows.length) (s := 1) k_sl_66_3 k_sz_3_1 rfl rfl rfl (bnd_some rfl rfl) (by omega) (by omega)) ?_
     refine sQ 33 (Y_fieldAddr (B := aD b1) (i := 0) (s := 0) k_fd_68_0_0_66 k_sz_66_1 rfl rfl) ?_
     refine s0 (Ys_store (i := 1) (s := 1) (B := aD b1) (T' := 68) (v := .slice (sv B3 1 c3 1) (r_2.Rows.length - 1) (c3 - 1)) (vs := [.slice (sv B3 1 c3 1) (r_2.Rows.length - 1) (c3 - 1)]) (k := 0) (cs' := [.slice (sv B3 1 c3 1) (r_2.Rows.length - 1) (c3 - 1)]) hS30 k_sz_66_1 rfl rfl rfl rfl rfl rfl rfl (lB rfl) rfl rfl) ?_
     rintro _ w_20 ⟨rfl, hS31⟩
     refine rw_nil ?_
     have hS32 : ST w0 (bl [⟨B, 112, [.slice B1 c.code.length c1, vi c.at_, .int .u64 c.seed], 3⟩]) _ [⟨aD b, 68, [.slice none 0 0], 1⟩, ⟨aD b1, 68, [.slice (sv B3 1 c3 1) (r_2.Rows.length - 1) (c3 - 1)], 1⟩, ⟨B, 112, [.slice B1 c.code.length c1, vi m3.at_, .int .u64 m3.seed], 3⟩] [⟨(sv B3 1 c3 1), ((List.drop 1 r_2.Rows).flatMap encI)⟩, ⟨B1, (c.code.flatMap enc_u8)⟩] := ST.subR hS31 (subc (mem_at (i := 0) rfl) (subc (mem_at (i := 2) rfl) (fun _ h => by cases h)))
     exact ⟨m3.at_, m3.seed, (List.drop 1 r_2.Rows), (sv B3 1 c3 1), (c3 - 1), (some_inj hF6), (FF.cons rfl (FF.cons rfl FF.nil)), ho3, (len_le hv hq1), (by rw [(hv : (List.drop 1 r_2.Rows).length = (r_2.Rows.length - 1))]; exact hS32.sel [2, 0, 1] rfl rfl)⟩
    ·skip
     have hF7 := cf' hF5 hb2
     refine cw_skip ?_
     have ho5 : Org w0 (bl [⟨B, 112, [.slice B1 c.code.length c1, vi c.at_, .int .u64 c.seed], 3⟩]) [⟨B1, (c.code.flatMap enc_u8)⟩] [⟨B3, (r_2.Rows.flatMap encI)⟩] := ST.orgOwn hS7 (i := 1) rfl
     have hcap4 : r_2.Rows.length ≤ c3 := (hS7.lencap (i := 1) rfl (fm_lenn (l := r_2.Rows) encI_len rfl) rfl rfl)
     have hS33 : ST w0 (bl [⟨B, 112, [.slice B1 c.code.length c1, vi c.at_, .int .u64 c.seed], 3⟩]) _ [⟨aD b, 68, [.slice none 0 0], 1⟩, ⟨aD b1, 68, [.slice B3 r_2.Rows.length c3], 1⟩, ⟨B, 112, [.slice B1 c.code.length c1, vi m3.at_, .int .u64 m3.seed], 3⟩] [⟨B3, (r_2.Rows.flatMap encI)⟩, ⟨B1, (c.code.flatMap enc_u8)⟩] := hS7.freeze (i := 1) rfl
     exact ⟨m3.at_, m3.seed, r_2.Rows, B3, c3, (some_inj hF7), (FF.cons rfl (FF.cons rfl FF.nil)), ho5, (len_le rfl hcap4), (hS33.sel [2, 0, 1] rfl rfl)⟩
 rintro f w ⟨at_, seed, Rows, B4, c4, rfl, hf, ho, hq, hS6⟩
 refine cw_seq (cw_region ?_)
 refine sQ 34 (Y_loadA (B := aD b1) (i := 0) (cs := [.slice B4 Rows.length c4]) (vs := [.slice B4 Rows.length c4]) k_ag_68 k_sz_68_1 rfl (hf.get 3 1 rfl) (hS6.cf (i := 2) rfl) rfl rfl) ?_
 refine s0 (Ys_store (i := 1) (s := 1) (B := aD b) (T' := 68) (v := .agg #[.slice B4 Rows.length c4]) (vs := [.slice B4 Rows.length c4]) (k := 0) (cs' := [.slice B4 Rows.length c4]) hS6 k_sz_68_1 rfl (hf.get 2 0 rfl) rfl rfl rfl rfl rfl (lB rfl) rfl rfl) ?_
 rintro _ w_21 ⟨rfl, hS34⟩
 refine rw_nil (cw_ret ?_)
 obtain ⟨rfl, rfl⟩ := pr2 (some_inj hF1)
 exact ret1 Tryz.results195 (v1 := .agg #[.slice B4 Rows.length c4]) (resAt_cellA (B := aD b) (i := 0) (cs := [.slice B4 Rows.length c4]) (vs := [.slice B4 Rows.length c4]) (hf.get 2 0 rfl) k_ag_68 k_sz_68_1 (hS34.cf (i := 1) rfl) rfl rfl) ⟨B4, c4, rfl, (len_le rfl hq), (org_cons ho org_nil), (ST.subR (R' := [⟨B4, (Rows.flatMap encI)⟩]) (hS34.sel [0] rfl rfl) (subc (mem_at (i := 0) rfl) (fun _ h => by cases h)))⟩

theorem c_spec_l1Cur_anyPhasePoly (c : Tl1Cur) (B : Option Addr) (B1 : Option Addr) (c1 n : Nat) (w0 : World) (hn : c.code.length = n) (hS : ST w0 (bl [⟨B, 112, [.slice B1 n c1, vi c.at_, .int .u64 c.seed], 3⟩]) w0 [⟨B, 112, [.slice B1 n c1, vi c.at_, .int .u64 c.seed], 3⟩] [⟨B1, (c.code.flatMap enc_u8)⟩]) {r_ : TPhasePoly} {m : Tl1Cur} (hF : F_spec_l1Cur_anyPhasePoly c = some (r_, m)) :
  CV Tryz.prog 121 #[pt B 0] w0 (fun v w' => ∃ (B2 : Option Addr) (c2 : Nat) (B3 : Option Addr) (c3 : Nat), v = .agg #[vi r_.Qubits, vi r_.Phase, .slice B2 r_.Terms.length c2, .slice B3 r_.Out.Rows.length c3] ∧ r_.Out.Rows.length ≤ c3 ∧ Org w0 (bl [⟨B, 112, [.slice B1 n c1, vi c.at_, .int .u64 c.seed], 3⟩]) [⟨B1, (c.code.flatMap enc_u8)⟩] [⟨B3, (r_.Out.Rows.flatMap encI)⟩] ∧ ST w0 (bl [⟨B, 112, [.slice B1 n c1, vi c.at_, .int .u64 c.seed], 3⟩]) w' [⟨B, 112, [.slice B1 n c1, vi m.at_, .int .u64 m.seed], 3⟩, ⟨B2, 136, (r_.Terms.flatMap eN0), c2 * 2⟩] [⟨B3, (r_.Out.Rows.flatMap encI)⟩]) := by
 subst hn
 unfold F_spec_l1Cur_anyPhasePoly at hF
 refine cv_of_cw 40 Tryz.func121 rfl Tryz.ntmps121 rfl ?_
 refine cw_seq (cw_region ?_)
 refine sS 2 (Ys_alloc (T := 70) (cs := [vi 0, vi 0, .slice none 0 0, .slice none 0 0]) (m := 4) hS k_zero_70 rfl rfl rfl) ?_
 rintro _ w_ ⟨b, rfl, hS1⟩
 refine rw_nil (cw_seq (cw_region ?_))
 refine sQ 4 (Y_move (v := pt B 0) rfl rfl) ?_
 refine sQ 5 (Y_move (v := pt B 0) rfl rfl) ?_
 obtain ⟨⟨r_1, m1⟩, hc, hF⟩ := bind_inv hF
 refine sc 6 rfl rfl (Yc_func (g := 71) (vs := [pt B 0, vi 5]) k_call_71 rfl (mc rfl (mc rfl mn)) (c_spec_l1Cur_pick c 5 B B1 c1 c.code.length _ rfl (hS1.inn [true, false] rfl [(true, 0)] rfl) hc)) ?_
 rintro _ w_1 ⟨rfl, hd⟩
 have hS2 := hS1.out [true, false] rfl hd
 refine sQ 7 (Y_add (k := .i64) (a := 1) (b := r_1) rfl rfl rfl) ?_
 obtain ⟨⟨r_2, m2⟩, hc1, hF⟩ := bind_inv hF
 refine sc 8 rfl rfl (Yc_func (g := 192) (vs := [pt B 0, vi (i64.wrap (1 + r_1))]) k_call_192 rfl (mc rfl (mc rfl mn)) (c_spec_l1Cur_phasePoly (Tl1Cur.mk c.code m1.at_ m1.seed) (i64.wrap (1 + r_1)) B B1 c1 c.code.length _ rfl (hS2.inn [false, true] rfl [(true, 0)] rfl) hc1)) ?_
 rintro _ w_2 ⟨B4, c4, B5, c5, rfl, hd1⟩
 have hS3 := hS2.out [false, true] rfl hd1
 refine sS 3 (Ys_alloc (T := 70) (cs := [vi 0, vi 0, .slice none 0 0, .slice none 0 0]) (m := 4) hS3 k_zero_70 rfl rfl rfl) ?_
 rintro _ w_3 ⟨b1, rfl, hS4⟩
 refine s0 (Ys_store (i := 4) (s := 4) (B := aD b1) (T' := 70) (v := .agg #[vi r_2.Qubits, vi r_2.Phase, .slice B4 r_2.Terms.length c4, .slice B5 r_2.Out.Rows.length c5]) (vs := [vi r_2.Qubits, vi r_2.Phase, .slice B4 r_2.Terms.length c4, .slice B5 r_2.Out.Rows.length c5]) (k := 0) (cs' := [vi r_2.Qubits, vi r_2.Phase, .slice B4 r_2.Terms.length c4, .slice B5 r_2.Out.Rows.length c5]) hS4 k_sz_70_4 rfl rfl rfl rfl rfl rfl rfl (lB rfl) rfl rfl) ?_
 rintro _ w_4 ⟨rfl, hS5⟩
 refine rw_nil (cw_seq ?_)
 obtain ⟨z, hz, hF1⟩ := bind_inv hF
 refine cw_mid (fun f w => ∃ (at_ : Int) (seed : Int) (Qubits : Int) (Phase : Int) (Terms : List TTerm) (Out : List Int) (B6 : Option Addr) (c6 : Nat) (B7 : Option Addr) (c7 : Nat), (at_, seed, Qubits, Phase, Terms, Out) = z ∧ FF f [(2, pt (aD b) 0), (3, pt (aD b1) 0)] ∧ Org w0 (bl [⟨B, 112, [.slice B1 c.code.length c1, vi c.at_, .int .u64 c.seed], 3⟩]) [⟨B1, (c.code.flatMap enc_u8)⟩] [⟨B7, (Out.flatMap encI)⟩] ∧ Out.length ≤ c7 ∧ ST w0 (bl [⟨B, 112, [.slice B1 c.code.length c1, vi c.at_, .int .u64 c.seed], 3⟩]) w [⟨B, 112, [.slice B1 c.code.length c1, vi at_, .int .u64 seed], 3⟩, ⟨aD b, 70, [vi 0, vi 0, .slice none 0 0, .slice none 0 0], 4⟩, ⟨aD b1, 70, [vi Qubits, vi Phase, .slice B6 Terms.length c6, .slice B7 Out.length c7], 4⟩, ⟨B6, 136, (Terms.flatMap eN0), c6 * 2⟩] [⟨B7, (Out.flatMap encI)⟩, ⟨B1, (c.code.flatMap enc_u8)⟩]) ?_ ?_
 ·skip
  refine cw_seq (cw_region ?_)
  refine sQ 9 (Y_move (v := pt B 0) rfl rfl) ?_
  obtain ⟨⟨r_3, m3⟩, hc2, hz⟩ := bind_inv hz
  refine sc 10 rfl rfl (Yc_func (g := 71) (vs := [pt B 0, vi 16]) k_call_71 rfl (mc rfl (mc rfl mn)) (c_spec_l1Cur_pick (Tl1Cur.mk c.code m2.at_ m2.seed) 16 B B1 c1 c.code.length _ rfl (hS5.inn [false, true, false, false, false] rfl [(true, 0)] rfl) hc2)) ?_
  rintro _ w_5 ⟨rfl, hd2⟩
  have hS7 := hS5.out [false, true, false, false, false] rfl hd2
  refine rw_nil (cw_block (cw_seq (cw_region ?_)))
  refine sQ 12 (Y_eq (k := .i64) (a := r_3) (b := 0) rfl rfl rfl) ?_
  refine sQ 11 (Y_assign (v := .bool (r_3 == 0)) rfl rfl) (rw_nil ?_)
  refine cw_cond (b := (r_3 == 0)) rfl (fun hb => ?_) (fun hb => ?_)
  ·skip
   have hF2 := ct hz hb
   refine cw_region ?_
   refine sQ 13 (Y_move (v := pt B 0) rfl rfl) ?_
   refine sS 14 (Ys_bslice (s := 1) (len := 3) (vs := [(0, vi (-1)), (1, vi 8), (2, vi 0)]) (cs := [vi (-1), vi 8, vi 0]) (zs := [vi 0, vi 0, vi 0]) (m := 3) hS7 k_sl_66_3 k_sz_3_1 k_zc_3 rfl (mpc rfl (mpc rfl (mpc rfl mpn))) rfl rfl rfl (by kernel_rfl) (by kernel_rfl) rfl) ?_
   rintro _ w_6 ⟨b2, rfl, hS8⟩
   obtain ⟨⟨r_4, m4⟩, hc3, hF2⟩ := bind_inv hF2
   refine sc 15 rfl rfl (Yc_func (g := 153) (vs := [pt B 0, .slice (aD b2) 3 3]) k_call_153 rfl (mc rfl (mc rfl mn)) (c_spec_l1Cur_among (Tl1Cur.mk c.code m3.at_ m3.seed) [(-1), 8, 0] B B1 c1 c.code.length (aD b2) 3 3 _ rfl rfl (hS8.inn [false, false, false, false, true, false] rfl [(true, 0), (false, 4)] rfl) hc3)) ?_
   rintro _ w_7 ⟨rfl, hd3⟩
   have hS9 := hS8.out [false, false, false, false, true, false] rfl hd3
   have hS9 : ST w0 (bl [⟨B, 112, [.slice B1 c.code.length c1, vi c.at_, .int .u64 c.seed], 3⟩]) _ [⟨aD b, 70, [vi 0, vi 0, .slice none 0 0, .slice none 0 0], 4⟩, ⟨B4, 136, (r_2.Terms.flatMap eN0), c4 * 2⟩, ⟨B5, 3, (r_2.Out.Rows.flatMap encI), c5 * 1⟩, ⟨aD b1, 70, [vi r_2.Qubits, vi r_2.Phase, .slice B4 r_2.Terms.length c4, .slice B5 r_2.Out.Rows.length c5], 4⟩, ⟨aD b2, 3, ([(-1), 8, 0].flatMap encI), 3 * 1⟩, ⟨B, 112, [.slice B1 c.code.length c1, vi m4.at_, .int .u64 m4.seed], 3⟩] [⟨B1, (c.code.flatMap enc_u8)⟩] := hS9
   refine sQ 16 (Y_fieldAddr (B := aD b1) (i := 0) (s := 0) k_fd_70_1_1_3 k_sz_3_1 rfl rfl) ?_
   refine s0 (Ys_store (i := 3) (s := 1) (B := aD b1) (T' := 70) (v := vi r_4) (vs := [vi r_4]) (k := 1) (cs' := [vi r_2.Qubits, vi r_4, .slice B4 r_2.Terms.length c4, .slice B5 r_2.Out.Rows.length c5]) hS9 k_sz_3_1 rfl rfl rfl rfl rfl rfl rfl (lB rfl) rfl rfl) ?_
   rintro _ w_8 ⟨rfl, hS10⟩
   refine rw_nil ?_
   have ho1 : Org w0 (bl [⟨B, 112, [.slice B1 c.code.length c1, vi c.at_, .int .u64 c.seed], 3⟩]) [⟨B1, (c.code.flatMap enc_u8)⟩] [⟨B5, (r_2.Out.Rows.flatMap encI)⟩] := ST.orgOwn hS10 (i := 2) rfl
   have hcap : r_2.Out.Rows.length ≤ c5 := (hS10.lencap (i := 2) rfl (fm_lenn (l := r_2.Out.Rows) encI_len rfl) rfl rfl)
   have hS11 : ST w0 (bl [⟨B, 112, [.slice B1 c.code.length c1, vi c.at_, .int .u64 c.seed], 3⟩]) _ [⟨aD b, 70, [vi 0, vi 0, .slice none 0 0, .slice none 0 0], 4⟩, ⟨B4, 136, (r_2.Terms.flatMap eN0), c4 * 2⟩, ⟨aD b1, 70, [vi r_2.Qubits, vi r_4, .slice B4 r_2.Terms.length c4, .slice B5 r_2.Out.Rows.length c5], 4⟩, ⟨aD b2, 3, ([(-1), 8, 0].flatMap encI), 3 * 1⟩, ⟨B, 112, [.slice B1 c.code.length c1, vi m4.at_, .int .u64 m4.seed], 3⟩] [⟨B5, (r_2.Out.Rows.flatMap encI)⟩, ⟨B1, (c.code.flatMap enc_u8)⟩] := hS10.freeze (i := 2) rfl
   exact ⟨m4.at_, m4.seed, r_2.Qubits, r_4, r_2.Terms, r_2.Out.Rows, B4, c4, B5, c5, (some_inj hF2), (FF.cons rfl (FF.cons rfl FF.nil)), ho1, (len_le rfl hcap), (hS11.sel [4, 0, 2, 1] rfl rfl)⟩
  ·skip
   have hF3 := cf' hz hb
   refine cw_seq (cw_region ?_)
   refine sQ 18 (Y_eq (k := .i64) (a := r_3) (b := 1) rfl rfl rfl) ?_
   refine sQ 17 (Y_assign (v := .bool (r_3 == 1)) rfl rfl) (rw_nil ?_)
   refine cw_cond (b := (r_3 == 1)) rfl (fun hb1 => ?_) (fun hb1 => ?_)
   ·skip
    have hF4 := ct hF3 hb1
    obtain ⟨⟨r_5, m5⟩, hc4, hF4⟩ := bind_inv hF4
    obtain ⟨⟨r_6, m6⟩, hc5, hF4⟩ := bind_inv hF4
    obtain ⟨hap, hF4⟩ := chk_inv hF4
    refine cw_mid (fun f w => ∃ (B9 : Option Addr) (c9 : Nat), FF f [(2, pt (aD b) 0), (3, pt (aD b1) 0)] ∧ ST w0 (bl [⟨B, 112, [.slice B1 c.code.length c1, vi c.at_, .int .u64 c.seed], 3⟩]) w [⟨B, 112, [.slice B1 c.code.length c1, vi m6.at_, .int .u64 m6.seed], 3⟩, ⟨aD b, 70, [vi 0, vi 0, .slice none 0 0, .slice none 0 0], 4⟩, ⟨aD b1, 70, [vi r_2.Qubits, vi r_2.Phase, .slice B9 ((r_2.Terms ++ [(TTerm.mk r_5 r_6)]).length) c9, .slice B5 r_2.Out.Rows.length c5], 4⟩, ⟨B9, 136, ((r_2.Terms ++ [(TTerm.mk r_5 r_6)]).flatMap eN0), c9 * 2⟩, ⟨B5, 3, (r_2.Out.Rows.flatMap encI), c5 * 1⟩] [⟨B1, (c.code.flatMap enc_u8)⟩]) ?_ ?_
    ·skip
     refine ra_start (hS7.se [0, 2]).fn (by kernel_rfl) ?_
     have hS15 := hS7.drew
     refine rq 0 19 (v := pt (aD b1) 2) rfl (hS15.se [0, 2]) (fun w' hw' => (Y_fieldAddr (B := aD b1) (i := 0) (s := 0) k_fd_70_2_2_65 k_sz_65_1 rfl rfl)) ?_
     refine rq 2 21 (v := pt B 0) rfl (hS15.se [0, 2]) (fun w' hw' => (Y_move (v := pt B 0) rfl rfl)) ?_
     refine rq 4 23 (v := pt B 0) rfl (hS15.se [0, 2]) (fun w' hw' => (Y_move (v := pt B 0) rfl rfl)) ?_
     refine rA [1, 3] ?_
     refine ra_y 20 (i := 1) (v := .slice B4 r_2.Terms.length c4) rfl rfl rfl (Y_load1 (B := aD b1) (i := 2) (cs := [vi r_2.Qubits, vi r_2.Phase, .slice B4 r_2.Terms.length c4, .slice B5 r_2.Out.Rows.length c5]) (v := .slice B4 r_2.Terms.length c4) k_sc_65 rfl rfl (hS15.cf (i := 3) rfl) rfl) (hS15.se [0, 2]) ?_ ?_
     ·skip
      refine rA [3] ?_
      refine ra_c 22 (i := 3) rfl rfl rfl (Yc_func (g := 71) (vs := [pt B 0, vi 33]) k_call_71 rfl (mc rfl (mc rfl mn)) (c_spec_l1Cur_pick (Tl1Cur.mk c.code m3.at_ m3.seed) 33 B B1 c1 c.code.length _ rfl (hS15.inn [false, false, false, false, true] rfl [(true, 0)] rfl) hc4)) ?_ ?_
      ·rintro _ w_9 ⟨rfl, hd4⟩
       have hS16 := hS15.out [false, false, false, false, true] rfl hd4
       refine ⟨(hS16.se [0, 2]), ?_⟩
       refine rA [5] ?_
       refine ra_c 24 (i := 5) rfl rfl rfl (Yc_func (g := 71) (vs := [pt B 0, vi 9]) k_call_71 rfl (mc rfl (mc rfl mn)) (c_spec_l1Cur_pick (Tl1Cur.mk c.code m5.at_ m5.seed) 9 B B1 c1 c.code.length _ rfl (hS16.inn [false, false, false, false, true] rfl [(true, 0)] rfl) hc5)) ?_ ?_
       ·rintro _ w_10 ⟨rfl, hd5⟩
        have hS17 := hS16.out [false, false, false, false, true] rfl hd5
        refine ⟨(hS17.se [0, 2]), ?_⟩
        refine rq 6 25 (v := .agg #[vi r_5, vi r_6]) rfl (hS17.se [0, 2]) (fun w' hw' => (Y_buildS (zs := [vi 0, vi 0]) (vs := [(0, vi r_5), (1, vi r_6)]) (cs := [vi r_5, vi r_6]) k_pl_136 k_zero_136 rfl (mpc rfl (mpc rfl mpn)) rfl)) ?_
        refine rA [7] ?_
        refine ra_s 26 (i := 7) rfl rfl rfl (Ys_bslice (s := 2) (len := 1) (vs := [(0, .agg #[vi r_5, vi r_6])]) (cs := [vi r_5, vi r_6]) (zs := [vi 0, vi 0]) (m := 2) hS17 k_sl_65_136 k_sz_136_2 k_zc_136 rfl (mpc rfl mpn) rfl rfl rfl (by kernel_rfl) (by kernel_rfl) rfl) ?_ ?_
        ·rintro _ w_11 ⟨b3, rfl, hS18⟩
         refine ⟨(hS18.se [0, 2]), ?_⟩
         refine rA [8] ?_
         refine ra_s 27 (i := 8) rfl rfl rfl (Ys_append (s := 2) (by' := 16) (i := 1) (nn := r_2.Terms.length) (c := c4) (k := 1) (len := (r_2.Terms ++ [(TTerm.mk r_5 r_6)]).length) (B := B4) (xs := ([(TTerm.mk r_5 r_6)].flatMap eN0)) (cs' := ((r_2.Terms ++ [(TTerm.mk r_5 r_6)]).flatMap eN0)) hS18 k_sl_65_136 k_sz_136_2 k_by_136_16 k_zero_136 rfl (by decide) rfl rfl rfl rfl (fm_lenn (l := r_2.Terms) eN1 rfl) rfl (hS18.cf (i := 5) rfl) (fm_lenn (l := [(TTerm.mk r_5 r_6)]) eN1 rfl) (fm_one' (enc := eN0) enc_Term_one [(TTerm.mk r_5 r_6)]) (by have := hap; omega) (by have := hap; simp only [maxLen]; omega) (fm_app _ _) (app_len (l := r_2.Terms) (l' := [(TTerm.mk r_5 r_6)]) rfl rfl)) ?_ ?_
         ·rintro _ w_12 ⟨B8, c8, rfl, hS19⟩
          refine ⟨(hS19.se [0, 2]), ?_⟩
          refine rq 9 28 (v := pt (aD b1) 2) rfl (hS19.se [0, 2]) (fun w' hw' => (Y_fieldAddr (B := aD b1) (i := 0) (s := 0) k_fd_70_2_2_65 k_sz_65_1 rfl rfl)) ?_
          refine rA [10] ?_
          refine ra_s0 (i := 10) rfl rfl rfl (Ys_store (i := 3) (s := 1) (B := aD b1) (T' := 70) (v := .slice B8 ((r_2.Terms ++ [(TTerm.mk r_5 r_6)]).length) c8) (vs := [.slice B8 ((r_2.Terms ++ [(TTerm.mk r_5 r_6)]).length) c8]) (k := 2) (cs' := [vi r_2.Qubits, vi r_2.Phase, .slice B8 ((r_2.Terms ++ [(TTerm.mk r_5 r_6)]).length) c8, .slice B5 r_2.Out.Rows.length c5]) hS19 k_sz_65_1 rfl rfl rfl rfl rfl rfl rfl (lB rfl) rfl rfl) ?_ ?_
          ·rintro _ w_13 ⟨rfl, hS20⟩
           refine ⟨(hS20.se [0, 2]), ?_⟩
           refine ra_done (by kernel_rfl) ?_
           exact ⟨B8, c8, (FF.cons rfl (FF.cons rfl FF.nil)), (hS20.sel [4, 0, 3, 1, 2] rfl rfl)⟩
          exact allR_nil
         exact allR_nil
        exact allR_nil
       exact allR_nil
      exact allR_nil
     refine ra_c 22 (i := 3) rfl rfl rfl (Yc_func (g := 71) (vs := [pt B 0, vi 33]) k_call_71 rfl (mc rfl (mc rfl mn)) (c_spec_l1Cur_pick (Tl1Cur.mk c.code m3.at_ m3.seed) 33 B B1 c1 c.code.length _ rfl (hS15.inn [false, false, false, false, true] rfl [(true, 0)] rfl) hc4)) ?_ ?_
     ·rintro _ w_14 ⟨rfl, hd6⟩
      have hS21 := hS15.out [false, false, false, false, true] rfl hd6
      refine ⟨(hS21.se [0, 2]), ?_⟩
      refine rA [1, 5] ?_
      refine ra_y 20 (i := 1) (v := .slice B4 r_2.Terms.length c4) rfl rfl rfl (Y_load1 (B := aD b1) (i := 2) (cs := [vi r_2.Qubits, vi r_2.Phase, .slice B4 r_2.Terms.length c4, .slice B5 r_2.Out.Rows.length c5]) (v := .slice B4 r_2.Terms.length c4) k_sc_65 rfl rfl (hS21.cf (i := 3) rfl) rfl) (hS21.se [0, 2]) ?_ ?_
      ·skip
       refine rA [5] ?_
       refine ra_c 24 (i := 5) rfl rfl rfl (Yc_func (g := 71) (vs := [pt B 0, vi 9]) k_call_71 rfl (mc rfl (mc rfl mn)) (c_spec_l1Cur_pick (Tl1Cur.mk c.code m5.at_ m5.seed) 9 B B1 c1 c.code.length _ rfl (hS21.inn [false, false, false, false, true] rfl [(true, 0)] rfl) hc5)) ?_ ?_
       ·rintro _ w_15 ⟨rfl, hd7⟩
        have hS22 := hS21.out [false, false, false, false, true] rfl hd7
        have hS22 : ST w0 (bl [⟨B, 112, [.slice B1 c.code.length c1, vi c.at_, .int .u64 c.seed], 3⟩]) _ [⟨aD b, 70, [vi 0, vi 0, .slice none 0 0, .slice none 0 0], 4⟩, ⟨B4, 136, (r_2.Terms.flatMap eN0), c4 * 2⟩, ⟨B5, 3, (r_2.Out.Rows.flatMap encI), c5 * 1⟩, ⟨aD b1, 70, [vi r_2.Qubits, vi r_2.Phase, .slice B4 r_2.Terms.length c4, .slice B5 r_2.Out.Rows.length c5], 4⟩, ⟨B, 112, [.slice B1 c.code.length c1, vi m6.at_, .int .u64 m6.seed], 3⟩] [⟨B1, (c.code.flatMap enc_u8)⟩] := hS22
        refine ⟨(hS22.se [0, 2]), ?_⟩
        refine rq 6 25 (v := .agg #[vi r_5, vi r_6]) rfl (hS22.se [0, 2]) (fun w' hw' => (Y_buildS (zs := [vi 0, vi 0]) (vs := [(0, vi r_5), (1, vi r_6)]) (cs := [vi r_5, vi r_6]) k_pl_136 k_zero_136 rfl (mpc rfl (mpc rfl mpn)) rfl)) ?_
        refine rA [7] ?_
        refine ra_s 26 (i := 7) rfl rfl rfl (Ys_bslice (s := 2) (len := 1) (vs := [(0, .agg #[vi r_5, vi r_6])]) (cs := [vi r_5, vi r_6]) (zs := [vi 0, vi 0]) (m := 2) hS22 k_sl_65_136 k_sz_136_2 k_zc_136 rfl (mpc rfl mpn) rfl rfl rfl (by kernel_rfl) (by kernel_rfl) rfl) ?_ ?_
        ·rintro _ w_16 ⟨b3, rfl, hS23⟩
         refine ⟨(hS23.se [0, 2]), ?_⟩
         refine rA [8] ?_
         refine ra_s 27 (i := 8) rfl rfl rfl (Ys_append (s := 2) (by' := 16) (i := 1) (nn := r_2.Terms.length) (c := c4) (k := 1) (len := (r_2.Terms ++ [(TTerm.mk r_5 r_6)]).length) (B := B4) (xs := ([(TTerm.mk r_5 r_6)].flatMap eN0)) (cs' := ((r_2.Terms ++ [(TTerm.mk r_5 r_6)]).flatMap eN0)) hS23 k_sl_65_136 k_sz_136_2 k_by_136_16 k_zero_136 rfl (by decide) rfl rfl rfl rfl (fm_lenn (l := r_2.Terms) eN1 rfl) rfl (hS23.cf (i := 5) rfl) (fm_lenn (l := [(TTerm.mk r_5 r_6)]) eN1 rfl) (fm_one' (enc := eN0) enc_Term_one [(TTerm.mk r_5 r_6)]) (by have := hap; omega) (by have := hap; simp only [maxLen]; omega) (fm_app _ _) (app_len (l := r_2.Terms) (l' := [(TTerm.mk r_5 r_6)]) rfl rfl)) ?_ ?_
         ·rintro _ w_17 ⟨B8, c8, rfl, hS24⟩
          refine ⟨(hS24.se [0, 2]), ?_⟩
          refine rq 9 28 (v := pt (aD b1) 2) rfl (hS24.se [0, 2]) (fun w' hw' => (Y_fieldAddr (B := aD b1) (i := 0) (s := 0) k_fd_70_2_2_65 k_sz_65_1 rfl rfl)) ?_
          refine rA [10] ?_
          refine ra_s0 (i := 10) rfl rfl rfl (Ys_store (i := 3) (s := 1) (B := aD b1) (T' := 70) (v := .slice B8 ((r_2.Terms ++ [(TTerm.mk r_5 r_6)]).length) c8) (vs := [.slice B8 ((r_2.Terms ++ [(TTerm.mk r_5 r_6)]).length) c8]) (k := 2) (cs' := [vi r_2.Qubits, vi r_2.Phase, .slice B8 ((r_2.Terms ++ [(TTerm.mk r_5 r_6)]).length) c8, .slice B5 r_2.Out.Rows.length c5]) hS24 k_sz_65_1 rfl rfl rfl rfl rfl rfl rfl (lB rfl) rfl rfl) ?_ ?_
          ·rintro _ w_18 ⟨rfl, hS25⟩
           refine ⟨(hS25.se [0, 2]), ?_⟩
           refine ra_done (by kernel_rfl) ?_
           exact ⟨B8, c8, (FF.cons rfl (FF.cons rfl FF.nil)), (hS25.sel [4, 0, 3, 1, 2] rfl rfl)⟩
          exact allR_nil
         exact allR_nil
        exact allR_nil
       exact allR_nil
      refine ra_c 24 (i := 5) rfl rfl rfl (Yc_func (g := 71) (vs := [pt B 0, vi 9]) k_call_71 rfl (mc rfl (mc rfl mn)) (c_spec_l1Cur_pick (Tl1Cur.mk c.code m5.at_ m5.seed) 9 B B1 c1 c.code.length _ rfl (hS21.inn [false, false, false, false, true] rfl [(true, 0)] rfl) hc5)) ?_ ?_
      ·rintro _ w_19 ⟨rfl, hd8⟩
       have hS26 := hS21.out [false, false, false, false, true] rfl hd8
       refine ⟨(hS26.se [0, 2]), ?_⟩
       refine rq 6 25 (v := .agg #[vi r_5, vi r_6]) rfl (hS26.se [0, 2]) (fun w' hw' => (Y_buildS (zs := [vi 0, vi 0]) (vs := [(0, vi r_5), (1, vi r_6)]) (cs := [vi r_5, vi r_6]) k_pl_136 k_zero_136 rfl (mpc rfl (mpc rfl mpn)) rfl)) ?_
       refine rA [1, 7] ?_
       refine ra_y 20 (i := 1) (v := .slice B4 r_2.Terms.length c4) rfl rfl rfl (Y_load1 (B := aD b1) (i := 2) (cs := [vi r_2.Qubits, vi r_2.Phase, .slice B4 r_2.Terms.length c4, .slice B5 r_2.Out.Rows.length c5]) (v := .slice B4 r_2.Terms.length c4) k_sc_65 rfl rfl (hS26.cf (i := 3) rfl) rfl) (hS26.se [0, 2]) ?_ ?_
       ·skip
        refine rA [7] ?_
        refine ra_s 26 (i := 7) rfl rfl rfl (Ys_bslice (s := 2) (len := 1) (vs := [(0, .agg #[vi r_5, vi r_6])]) (cs := [vi r_5, vi r_6]) (zs := [vi 0, vi 0]) (m := 2) hS26 k_sl_65_136 k_sz_136_2 k_zc_136 rfl (mpc rfl mpn) rfl rfl rfl (by kernel_rfl) (by kernel_rfl) rfl) ?_ ?_
        ·rintro _ w_20 ⟨b3, rfl, hS27⟩
         refine ⟨(hS27.se [0, 2]), ?_⟩
         refine rA [8] ?_
         refine ra_s 27 (i := 8) rfl rfl rfl (Ys_append (s := 2) (by' := 16) (i := 1) (nn := r_2.Terms.length) (c := c4) (k := 1) (len := (r_2.Terms ++ [(TTerm.mk r_5 r_6)]).length) (B := B4) (xs := ([(TTerm.mk r_5 r_6)].flatMap eN0)) (cs' := ((r_2.Terms ++ [(TTerm.mk r_5 r_6)]).flatMap eN0)) hS27 k_sl_65_136 k_sz_136_2 k_by_136_16 k_zero_136 rfl (by decide) rfl rfl rfl rfl (fm_lenn (l := r_2.Terms) eN1 rfl) rfl (hS27.cf (i := 5) rfl) (fm_lenn (l := [(TTerm.mk r_5 r_6)]) eN1 rfl) (fm_one' (enc := eN0) enc_Term_one [(TTerm.mk r_5 r_6)]) (by have := hap; omega) (by have := hap; simp only [maxLen]; omega) (fm_app _ _) (app_len (l := r_2.Terms) (l' := [(TTerm.mk r_5 r_6)]) rfl rfl)) ?_ ?_
         ·rintro _ w_21 ⟨B8, c8, rfl, hS28⟩
          refine ⟨(hS28.se [0, 2]), ?_⟩
          refine rq 9 28 (v := pt (aD b1) 2) rfl (hS28.se [0, 2]) (fun w' hw' => (Y_fieldAddr (B := aD b1) (i := 0) (s := 0) k_fd_70_2_2_65 k_sz_65_1 rfl rfl)) ?_
          refine rA [10] ?_
          refine ra_s0 (i := 10) rfl rfl rfl (Ys_store (i := 3) (s := 1) (B := aD b1) (T' := 70) (v := .slice B8 ((r_2.Terms ++ [(TTerm.mk r_5 r_6)]).length) c8) (vs := [.slice B8 ((r_2.Terms ++ [(TTerm.mk r_5 r_6)]).length) c8]) (k := 2) (cs' := [vi r_2.Qubits, vi r_2.Phase, .slice B8 ((r_2.Terms ++ [(TTerm.mk r_5 r_6)]).length) c8, .slice B5 r_2.Out.Rows.length c5]) hS28 k_sz_65_1 rfl rfl rfl rfl rfl rfl rfl (lB rfl) rfl rfl) ?_ ?_
          ·rintro _ w_22 ⟨rfl, hS29⟩
           refine ⟨(hS29.se [0, 2]), ?_⟩
           refine ra_done (by kernel_rfl) ?_
           exact ⟨B8, c8, (FF.cons rfl (FF.cons rfl FF.nil)), (hS29.sel [4, 0, 3, 1, 2] rfl rfl)⟩
          exact allR_nil
         exact allR_nil
        exact allR_nil
       refine ra_s 26 (i := 7) rfl rfl rfl (Ys_bslice (s := 2) (len := 1) (vs := [(0, .agg #[vi r_5, vi r_6])]) (cs := [vi r_5, vi r_6]) (zs := [vi 0, vi 0]) (m := 2) hS26 k_sl_65_136 k_sz_136_2 k_zc_136 rfl (mpc rfl mpn) rfl rfl rfl (by kernel_rfl) (by kernel_rfl) rfl) ?_ ?_
       ·rintro _ w_23 ⟨b3, rfl, hS30⟩
        have hS30 : ST w0 (bl [⟨B, 112, [.slice B1 c.code.length c1, vi c.at_, .int .u64 c.seed], 3⟩]) _ [⟨aD b, 70, [vi 0, vi 0, .slice none 0 0, .slice none 0 0], 4⟩, ⟨B4, 136, (r_2.Terms.flatMap eN0), c4 * 2⟩, ⟨B5, 3, (r_2.Out.Rows.flatMap encI), c5 * 1⟩, ⟨aD b1, 70, [vi r_2.Qubits, vi r_2.Phase, .slice B4 r_2.Terms.length c4, .slice B5 r_2.Out.Rows.length c5], 4⟩, ⟨B, 112, [.slice B1 c.code.length c1, vi m6.at_, .int .u64 m6.seed], 3⟩, ⟨aD b3, 136, ([(TTerm.mk r_5 r_6)].flatMap eN0), 1 * 2⟩] [⟨B1, (c.code.flatMap enc_u8)⟩] := hS30
        refine ⟨(hS30.se [0, 2]), ?_⟩
        refine rA [1] ?_
        refine ra_y 20 (i := 1) (v := .slice B4 r_2.Terms.length c4) rfl rfl rfl (Y_load1 (B := aD b1) (i := 2) (cs := [vi r_2.Qubits, vi r_2.Phase, .slice B4 r_2.Terms.length c4, .slice B5 r_2.Out.Rows.length c5]) (v := .slice B4 r_2.Terms.length c4) k_sc_65 rfl rfl (hS30.cf (i := 3) rfl) rfl) (hS30.se [0, 2]) ?_ ?_
        ·skip
         refine rA [8] ?_
         refine ra_s 27 (i := 8) rfl rfl rfl (Ys_append (s := 2) (by' := 16) (i := 1) (nn := r_2.Terms.length) (c := c4) (k := 1) (len := (r_2.Terms ++ [(TTerm.mk r_5 r_6)]).length) (B := B4) (xs := ([(TTerm.mk r_5 r_6)].flatMap eN0)) (cs' := ((r_2.Terms ++ [(TTerm.mk r_5 r_6)]).flatMap eN0)) hS30 k_sl_65_136 k_sz_136_2 k_by_136_16 k_zero_136 rfl (by decide) rfl rfl rfl rfl (fm_lenn (l := r_2.Terms) eN1 rfl) rfl (hS30.cf (i := 5) rfl) (fm_lenn (l := [(TTerm.mk r_5 r_6)]) eN1 rfl) (fm_one' (enc := eN0) enc_Term_one [(TTerm.mk r_5 r_6)]) (by have := hap; omega) (by have := hap; simp only [maxLen]; omega) (fm_app _ _) (app_len (l := r_2.Terms) (l' := [(TTerm.mk r_5 r_6)]) rfl rfl)) ?_ ?_
         ·rintro _ w_24 ⟨B8, c8, rfl, hS31⟩
          refine ⟨(hS31.se [0, 2]), ?_⟩
          refine rq 9 28 (v := pt (aD b1) 2) rfl (hS31.se [0, 2]) (fun w' hw' => (Y_fieldAddr (B := aD b1) (i := 0) (s := 0) k_fd_70_2_2_65 k_sz_65_1 rfl rfl)) ?_
          refine rA [10] ?_
          refine ra_s0 (i := 10) rfl rfl rfl (Ys_store (i := 3) (s := 1) (B := aD b1) (T' := 70) (v := .slice B8 ((r_2.Terms ++ [(TTerm.mk r_5 r_6)]).length) c8) (vs := [.slice B8 ((r_2.Terms ++ [(TTerm.mk r_5 r_6)]).length) c8]) (k := 2) (cs' := [vi r_2.Qubits, vi r_2.Phase, .slice B8 ((r_2.Terms ++ [(TTerm.mk r_5 r_6)]).length) c8, .slice B5 r_2.Out.Rows.length c5]) hS31 k_sz_65_1 rfl rfl rfl rfl rfl rfl rfl (lB rfl) rfl rfl) ?_ ?_
          ·rintro _ w_25 ⟨rfl, hS32⟩
           refine ⟨(hS32.se [0, 2]), ?_⟩
           refine ra_done (by kernel_rfl) ?_
           exact ⟨B8, c8, (FF.cons rfl (FF.cons rfl FF.nil)), (hS32.sel [4, 0, 3, 1, 2] rfl rfl)⟩
          exact allR_nil
         exact allR_nil
        exact allR_nil
       exact allR_nil
      exact allR_nil
     exact allR_nil
    rintro f w ⟨B9, c9, hf1, hS14⟩
    have ho2 : Org w0 (bl [⟨B, 112, [.slice B1 c.code.length c1, vi c.at_, .int .u64 c.seed], 3⟩]) [⟨B1, (c.code.flatMap enc_u8)⟩] [⟨B5, (r_2.Out.Rows.flatMap encI)⟩] := ST.orgOwn hS14 (i := 4) rfl
    have hcap1 : r_2.Out.Rows.length ≤ c5 := (hS14.lencap (i := 4) rfl (fm_lenn (l := r_2.Out.Rows) encI_len rfl) rfl rfl)
    have hS33 : ST w0 (bl [⟨B, 112, [.slice B1 c.code.length c1, vi c.at_, .int .u64 c.seed], 3⟩]) _ [⟨B, 112, [.slice B1 c.code.length c1, vi m6.at_, .int .u64 m6.seed], 3⟩, ⟨aD b, 70, [vi 0, vi 0, .slice none 0 0, .slice none 0 0], 4⟩, ⟨aD b1, 70, [vi r_2.Qubits, vi r_2.Phase, .slice B9 ((r_2.Terms ++ [(TTerm.mk r_5 r_6)]).length) c9, .slice B5 r_2.Out.Rows.length c5], 4⟩, ⟨B9, 136, ((r_2.Terms ++ [(TTerm.mk r_5 r_6)]).flatMap eN0), c9 * 2⟩] [⟨B5, (r_2.Out.Rows.flatMap encI)⟩, ⟨B1, (c.code.flatMap enc_u8)⟩] := hS14.freeze (i := 4) rfl
    exact ⟨m6.at_, m6.seed, r_2.Qubits, r_2.Phase, (r_2.Terms ++ [(TTerm.mk r_5 r_6)]), r_2.Out.Rows, B9, c9, B5, c5, (some_inj hF4), (FF.cons (hf1.get 2 0 rfl) (FF.cons (hf1.get 3 1 rfl) FF.nil)), ho2, (len_le rfl hcap1), (hS33.sel [0, 1, 2, 3] rfl rfl)⟩
   ·skip
    have hF5 := cf' hF3 hb1
    refine cw_seq (cw_region ?_)
    refine sQ 30 (Y_eq (k := .i64) (a := r_3) (b := 2) rfl rfl rfl) ?_
    refine sQ 29 (Y_assign (v := .bool (r_3 == 2)) rfl rfl) (rw_nil ?_)
    refine cw_cond (b := (r_3 == 2)) rfl (fun hb2 => ?_) (fun hb2 => ?_)
    ·skip
     have hF6 := ct hF5 hb2
     refine cw_region ?_
     refine sQ 31 (Y_move (v := pt B 0) rfl rfl) ?_
     obtain ⟨⟨r_7, m7⟩, hc6, hF6⟩ := bind_inv hF6
     refine sc 32 rfl rfl (Yc_func (g := 195) (vs := [pt B 0]) k_call_195 rfl (mc rfl mn) (c_spec_l1Cur_anyLinear (Tl1Cur.mk c.code m3.at_ m3.seed) B B1 c1 c.code.length _ rfl (hS7.inn [false, false, false, false, true] rfl [(true, 0)] rfl) hc6)) ?_
     rintro _ w_26 ⟨B10, c10, rfl, hq1, ho3, hd9⟩
     have hS34 := ST.outR hS7 [false, false, false, false, true] rfl hd9 ho3 (subc (mem_at (i := 0) rfl) (fun _ h => by cases h))
     have ho4 : Org w0 (bl [⟨B, 112, [.slice B1 c.code.length c1, vi c.at_, .int .u64 c.seed], 3⟩]) [⟨B1, (c.code.flatMap enc_u8)⟩] [⟨B10, (r_7.Rows.flatMap encI)⟩] := org_trans hS7 (msk_mem (mask := [false, false, false, false, true]) rfl) ho3 (org_cons (org_mem (i := 0) rfl) org_nil)
     have hS35 : ST w0 (bl [⟨B, 112, [.slice B1 c.code.length c1, vi c.at_, .int .u64 c.seed], 3⟩]) _ [⟨aD b, 70, [vi 0, vi 0, .slice none 0 0, .slice none 0 0], 4⟩, ⟨B4, 136, (r_2.Terms.flatMap eN0), c4 * 2⟩, ⟨B5, 3, (r_2.Out.Rows.flatMap encI), c5 * 1⟩, ⟨aD b1, 70, [vi r_2.Qubits, vi r_2.Phase, .slice B4 r_2.Terms.length c4, .slice B5 r_2.Out.Rows.length c5], 4⟩, ⟨B, 112, [.slice B1 c.code.length c1, vi m7.at_, .int .u64 m7.seed], 3⟩] [⟨B10, (r_7.Rows.flatMap encI)⟩, ⟨B1, (c.code.flatMap enc_u8)⟩] := hS34
     refine sQ 33 (Y_fieldAddr (B := aD b1) (i := 0) (s := 0) k_fd_70_3_3_68 k_sz_68_1 rfl rfl) ?_
     refine s0 (Ys_store (i := 3) (s := 1) (B := aD b1) (T' := 70) (v := .agg #[.slice B10 r_7.Rows.length c10]) (vs := [.slice B10 r_7.Rows.length c10]) (k := 3) (cs' := [vi r_2.Qubits, vi r_2.Phase, .slice B4 r_2.Terms.length c4, .slice B10 r_7.Rows.length c10]) hS35 k_sz_68_1 rfl rfl rfl rfl rfl rfl rfl (lB rfl) rfl rfl) ?_
     rintro _ w_27 ⟨rfl, hS36⟩
     refine rw_nil ?_
     exact ⟨m7.at_, m7.seed, r_2.Qubits, r_2.Phase, r_2.Terms, r_7.Rows, B4, c4, B10, c10, (some_inj hF6), (FF.cons rfl (FF.cons rfl FF.nil)), (org_sub ho4 (subc (mem_at (i := 0) rfl) (fun _ h => by cases h))), (len_le rfl hq1), (hS36.sel [4, 0, 3, 1] rfl rfl)⟩
    ·skip
     have hF7 := cf' hF5 hb2
     refine cw_seq (cw_region ?_)
     refine sQ 35 (Y_eq (k := .i64) (a := r_3) (b := 3) rfl rfl rfl) ?_
     refine sQ 34 (Y_assign (v := .bool (r_3 == 3)) rfl rfl) (rw_nil ?_)
     refine cw_cond (b := (r_3 == 3)) rfl (fun hb3 => ?_) (fun hb3 => ?_)
     ·skip
      have hF8 := ct hF7 hb3
      refine cw_region ?_
      refine sQ 36 (Y_move (v := pt B 0) rfl rfl) ?_
      obtain ⟨⟨r_8, m8⟩, hc7, hF8⟩ := bind_inv hF8
      refine sc 37 rfl rfl (Yc_func (g := 71) (vs := [pt B 0, vi 7]) k_call_71 rfl (mc rfl (mc rfl mn)) (c_spec_l1Cur_pick (Tl1Cur.mk c.code m3.at_ m3.seed) 7 B B1 c1 c.code.length _ rfl (hS7.inn [false, false, false, false, true] rfl [(true, 0)] rfl) hc7)) ?_
      rintro _ w_28 ⟨rfl, hd10⟩
      have hS37 := hS7.out [false, false, false, false, true] rfl hd10
      refine sQ 38 (Y_fieldAddr (B := aD b1) (i := 0) (s := 0) k_fd_70_0_0_3 k_sz_3_1 rfl rfl) ?_
      refine s0 (Ys_store (i := 3) (s := 1) (B := aD b1) (T' := 70) (v := vi r_8) (vs := [vi r_8]) (k := 0) (cs' := [vi r_8, vi r_2.Phase, .slice B4 r_2.Terms.length c4, .slice B5 r_2.Out.Rows.length c5]) hS37 k_sz_3_1 rfl rfl rfl rfl rfl rfl rfl (lB rfl) rfl rfl) ?_
      rintro _ w_29 ⟨rfl, hS38⟩
      refine rw_nil ?_
      have ho5 : Org w0 (bl [⟨B, 112, [.slice B1 c.code.length c1, vi c.at_, .int .u64 c.seed], 3⟩]) [⟨B1, (c.code.flatMap enc_u8)⟩] [⟨B5, (r_2.Out.Rows.flatMap encI)⟩] := ST.orgOwn hS38 (i := 2) rfl
      have hcap2 : r_2.Out.Rows.length ≤ c5 := (hS38.lencap (i := 2) rfl (fm_lenn (l := r_2.Out.Rows) encI_len rfl) rfl rfl)
      have hS39 : ST w0 (bl [⟨B, 112, [.slice B1 c.code.length c1, vi c.at_, .int .u64 c.seed], 3⟩]) _ [⟨aD b, 70, [vi 0, vi 0, .slice none 0 0, .slice none 0 0], 4⟩, ⟨B4, 136, (r_2.Terms.flatMap eN0), c4 * 2⟩, ⟨aD b1, 70, [vi r_8, vi r_2.Phase, .slice B4 r_2.Terms.length c4, .slice B5 r_2.Out.Rows.length c5], 4⟩, ⟨B, 112, [.slice B1 c.code.length c1, vi m8.at_, .int .u64 m8.seed], 3⟩] [⟨B5, (r_2.Out.Rows.flatMap encI)⟩, ⟨B1, (c.code.flatMap enc_u8)⟩] := hS38.freeze (i := 2) rfl
      exact ⟨m8.at_, m8.seed, r_8, r_2.Phase, r_2.Terms, r_2.Out.Rows, B4, c4, B5, c5, (some_inj hF8), (FF.cons rfl (FF.cons rfl FF.nil)), ho5, (len_le rfl hcap2), (hS39.sel [3, 0, 2, 1] rfl rfl)⟩
     ·skip
      have hF9 := cf' hF7 hb3
      refine cw_skip ?_
      have ho6 : Org w0 (bl [⟨B, 112, [.slice B1 c.code.length c1, vi c.at_, .int .u64 c.seed], 3⟩]) [⟨B1, (c.code.flatMap enc_u8)⟩] [⟨B5, (r_2.Out.Rows.flatMap encI)⟩] := ST.orgOwn hS7 (i := 2) rfl
      have hcap3 : r_2.Out.Rows.length ≤ c5 := (hS7.lencap (i := 2) rfl (fm_lenn (l := r_2.Out.Rows) encI_len rfl) rfl rfl)
      have hS40 : ST w0 (bl [⟨B, 112, [.slice B1 c.code.length c1, vi c.at_, .int .u64 c.seed], 3⟩]) _ [⟨aD b, 70, [vi 0, vi 0, .slice none 0 0, .slice none 0 0], 4⟩, ⟨B4, 136, (r_2.Terms.flatMap eN0), c4 * 2⟩, ⟨aD b1, 70, [vi r_2.Qubits, vi r_2.Phase, .slice B4 r_2.Terms.length c4, .slice B5 r_2.Out.Rows.length c5], 4⟩, ⟨B, 112, [.slice B1 c.code.length c1, vi m3.at_, .int .u64 m3.seed], 3⟩] [⟨B5, (r_2.Out.Rows.flatMap encI)⟩, ⟨B1, (c.code.flatMap enc_u8)⟩] := hS7.freeze (i := 2) rfl
      exact ⟨m3.at_, m3.seed, r_2.Qubits, r_2.Phase, r_2.Terms, r_2.Out.Rows, B4, c4, B5, c5, (some_inj hF9), (FF.cons rfl (FF.cons rfl FF.nil)), ho6, (len_le rfl hcap3), (hS40.sel [3, 0, 2, 1] rfl rfl)⟩
 rintro f w ⟨at_, seed, Qubits, Phase, Terms, Out, B6, c6, B7, c7, rfl, hf, ho, hq, hS6⟩
 refine cw_seq (cw_region ?_)
 refine sQ 39 (Y_loadA (B := aD b1) (i := 0) (cs := [vi Qubits, vi Phase, .slice B6 Terms.length c6, .slice B7 Out.length c7]) (vs := [vi Qubits, vi Phase, .slice B6 Terms.length c6, .slice B7 Out.length c7]) k_ag_70 k_sz_70_4 rfl (hf.get 3 1 rfl) (hS6.cf (i := 2) rfl) rfl rfl) ?_
 refine s0 (Ys_store (i := 1) (s := 4) (B := aD b) (T' := 70) (v := .agg #[vi Qubits, vi Phase, .slice B6 Terms.length c6, .slice B7 Out.length c7]) (vs := [vi Qubits, vi Phase, .slice B6 Terms.length c6, .slice B7 Out.length c7]) (k := 0) (cs' := [vi Qubits, vi Phase, .slice B6 Terms.length c6, .slice B7 Out.length c7]) hS6 k_sz_70_4 rfl (hf.get 2 0 rfl) rfl rfl rfl rfl rfl (lB rfl) rfl rfl) ?_
 rintro _ w_30 ⟨rfl, hS41⟩
 refine rw_nil (cw_ret ?_)
 obtain ⟨rfl, rfl⟩ := pr2 (some_inj hF1)
 exact ret1 Tryz.results121 (v1 := .agg #[vi Qubits, vi Phase, .slice B6 Terms.length c6, .slice B7 Out.length c7]) (resAt_cellA (B := aD b) (i := 0) (cs := [vi Qubits, vi Phase, .slice B6 Terms.length c6, .slice B7 Out.length c7]) (vs := [vi Qubits, vi Phase, .slice B6 Terms.length c6, .slice B7 Out.length c7]) (hf.get 2 0 rfl) k_ag_70 k_sz_70_4 (hS41.cf (i := 1) rfl) rfl rfl) ⟨B6, c6, B7, c7, rfl, (len_le rfl hq), (org_cons ho org_nil), (ST.subR (R' := [⟨B7, (Out.flatMap encI)⟩]) (hS41.sel [0, 3] rfl rfl) (subc (mem_at (i := 0) rfl) (fun _ h => by cases h)))⟩

theorem c_spec_DrawLeastT (code : List Int) (B : Option Addr) (c n : Nat) (w0 : World) (hn : code.length = n) (hS : ST w0 [] w0 [] [⟨B, (code.flatMap enc_u8)⟩]) {r_ : TPhasePoly} (hF : F_spec_DrawLeastT code = some r_) :
  CV Tryz.prog 109 #[.slice B n c] w0 (fun v w' => ∃ (B1 : Option Addr) (c1 : Nat) (B2 : Option Addr) (c2 : Nat), v = .agg #[vi r_.Qubits, vi r_.Phase, .slice B1 r_.Terms.length c1, .slice B2 r_.Out.Rows.length c2] ∧ r_.Out.Rows.length ≤ c2 ∧ Org w0 [] [⟨B, (code.flatMap enc_u8)⟩] [⟨B2, (r_.Out.Rows.flatMap encI)⟩] ∧ ST w0 [] w' [⟨B1, 136, (r_.Terms.flatMap eN0), c1 * 2⟩] [⟨B2, (r_.Out.Rows.flatMap encI)⟩]) := by
 subst hn
 unfold F_spec_DrawLeastT at hF
 refine cv_of_cw 13 Tryz.func109 rfl Tryz.ntmps109 rfl ?_
 refine cw_seq (cw_region ?_)
 refine sS 2 (Ys_alloc (T := 70) (cs := [vi 0, vi 0, .slice none 0 0, .slice none 0 0]) (m := 4) hS k_zero_70 rfl rfl rfl) ?_
 rintro _ w_ ⟨b, rfl, hS1⟩
 refine rw_nil (cw_seq (cw_region ?_))
 refine sQ 4 (Y_move (v := .slice B code.length c) rfl rfl) ?_
 refine sQ 5 (Y_buildS (zs := [.slice none 0 0, vi 0, .int .u64 0]) (vs := [(0, .slice B code.length c)]) (cs := [.slice B code.length c, vi 0, .int .u64 0]) k_pl_112 k_zero_112 rfl (mpc rfl mpn) rfl) ?_
 refine sS 6 (Ys_box (T := 112) (v := .agg #[.slice B code.length c, vi 0, .int .u64 0]) (cs := [.slice B code.length c, vi 0, .int .u64 0]) (m := 3) hS1 rfl rfl rfl rfl) ?_
 rintro _ w_1 ⟨b1, rfl, hS2⟩
 refine sQ 3 (Y_assign (v := pt (aD b1) 0) rfl rfl) (rw_nil (cw_seq (cw_seq (cw_region ?_))))
 refine sQ 7 (Y_move (v := pt (aD b1) 0) rfl rfl) ?_
 obtain ⟨⟨r_1, m⟩, hc, hF⟩ := bind_inv hF
 refine sc 8 rfl rfl (Yc_func (g := 90) (vs := [pt (aD b1) 0, vi 8]) k_call_90 rfl (mc rfl (mc rfl mn)) (c_spec_l1Cur_one (Tl1Cur.mk code 0 0) 8 (aD b1) B c code.length _ rfl (hS2.inn [false, true] rfl [(true, 0)] rfl) hc)) ?_
 rintro _ w_2 ⟨rfl, hd⟩
 have hS3 := hS2.out [false, true] rfl hd
 refine rw_nil ?_
 refine cw_cond (b := r_1) rfl (fun hb => ?_) (fun hb => ?_)
 ·skip
  have hF1 := ct hF hb
  refine cw_seq (cw_region ?_)
  refine sQ 9 (Y_move (v := pt (aD b1) 0) rfl rfl) ?_
  obtain ⟨⟨r_2, m1⟩, hc1, hF1⟩ := bind_inv hF1
  refine sc 10 rfl rfl (Yc_func (g := 121) (vs := [pt (aD b1) 0]) k_call_121 rfl (mc rfl mn) (c_spec_l1Cur_anyPhasePoly (Tl1Cur.mk code m.at_ m.seed) (aD b1) B c code.length _ rfl (hS3.inn [false, true] rfl [(true, 0)] rfl) hc1)) ?_
  rintro _ w_3 ⟨B3, c3, B4, c4, rfl, hq, ho, hd1⟩
  have hS4 := ST.outR hS3 [false, true] rfl hd1 ho (subc (mem_at (i := 0) rfl) (fun _ h => by cases h))
  have ho1 : Org w0 [] [⟨B, (code.flatMap enc_u8)⟩] [⟨B4, (r_2.Out.Rows.flatMap encI)⟩] := org_trans hS3 (msk_mem (mask := [false, true]) rfl) ho (org_cons (org_mem (i := 0) rfl) org_nil)
  have hS5 : ST w0 [] _ [⟨aD b, 70, [vi 0, vi 0, .slice none 0 0, .slice none 0 0], 4⟩, ⟨aD b1, 112, [.slice B code.length c, vi m1.at_, .int .u64 m1.seed], 3⟩, ⟨B3, 136, (r_2.Terms.flatMap eN0), c3 * 2⟩] [⟨B4, (r_2.Out.Rows.flatMap encI)⟩, ⟨B, (code.flatMap enc_u8)⟩] := hS4
  refine s0 (Ys_store (i := 0) (s := 4) (B := aD b) (T' := 70) (v := .agg #[vi r_2.Qubits, vi r_2.Phase, .slice B3 r_2.Terms.length c3, .slice B4 r_2.Out.Rows.length c4]) (vs := [vi r_2.Qubits, vi r_2.Phase, .slice B3 r_2.Terms.length c3, .slice B4 r_2.Out.Rows.length c4]) (k := 0) (cs' := [vi r_2.Qubits, vi r_2.Phase, .slice B3 r_2.Terms.length c3, .slice B4 r_2.Out.Rows.length c4]) hS5 k_sz_70_4 rfl rfl rfl rfl rfl rfl rfl (lB rfl) rfl rfl) ?_
  rintro _ w_4 ⟨rfl, hS6⟩
  refine rw_nil (cw_ret ?_)
  obtain rfl := some_inj hF1
  exact ret1 Tryz.results109 (v1 := .agg #[vi r_2.Qubits, vi r_2.Phase, .slice B3 r_2.Terms.length c3, .slice B4 r_2.Out.Rows.length c4]) (resAt_cellA (B := aD b) (i := 0) (cs := [vi r_2.Qubits, vi r_2.Phase, .slice B3 r_2.Terms.length c3, .slice B4 r_2.Out.Rows.length c4]) (vs := [vi r_2.Qubits, vi r_2.Phase, .slice B3 r_2.Terms.length c3, .slice B4 r_2.Out.Rows.length c4]) rfl k_ag_70 k_sz_70_4 (hS6.cf (i := 0) rfl) rfl rfl) ⟨B3, c3, B4, c4, rfl, (len_le rfl hq), (org_cons (org_sub ho1 (subc (mem_at (i := 0) rfl) (fun _ h => by cases h))) org_nil), (ST.subR (R' := [⟨B4, (r_2.Out.Rows.flatMap encI)⟩]) (hS6.sel [2] rfl rfl) (subc (mem_at (i := 0) rfl) (fun _ h => by cases h)))⟩
 ·skip
  have hF2 := cf' hF hb
  refine cw_skip (cw_seq (cw_region ?_))
  refine sQ 11 (Y_move (v := pt (aD b1) 0) rfl rfl) ?_
  obtain ⟨⟨r_3, m2⟩, hc2, hF2⟩ := bind_inv hF2
  refine sc 12 rfl rfl (Yc_func (g := 117) (vs := [pt (aD b1) 0]) k_call_117 rfl (mc rfl mn) (c_spec_l1Cur_reducible (Tl1Cur.mk code m.at_ m.seed) (aD b1) B c code.length _ rfl (hS3.inn [false, true] rfl [(true, 0)] rfl) hc2)) ?_
  rintro _ w_5 ⟨B5, c5, B6, c6, rfl, hd2⟩
  have hS7 := hS3.out [false, true] rfl hd2
  refine s0 (Ys_store (i := 0) (s := 4) (B := aD b) (T' := 70) (v := .agg #[vi r_3.Qubits, vi r_3.Phase, .slice B5 r_3.Terms.length c5, .slice B6 r_3.Out.Rows.length c6]) (vs := [vi r_3.Qubits, vi r_3.Phase, .slice B5 r_3.Terms.length c5, .slice B6 r_3.Out.Rows.length c6]) (k := 0) (cs' := [vi r_3.Qubits, vi r_3.Phase, .slice B5 r_3.Terms.length c5, .slice B6 r_3.Out.Rows.length c6]) hS7 k_sz_70_4 rfl rfl rfl rfl rfl rfl rfl (lB rfl) rfl rfl) ?_
  rintro _ w_6 ⟨rfl, hS8⟩
  refine rw_nil (cw_ret ?_)
  have ho2 : Org w0 [] [⟨B, (code.flatMap enc_u8)⟩] [⟨B6, (r_3.Out.Rows.flatMap encI)⟩] := ST.orgOwn hS8 (i := 3) rfl
  have hcap : r_3.Out.Rows.length ≤ c6 := (hS8.lencap (i := 3) rfl (fm_lenn (l := r_3.Out.Rows) encI_len rfl) rfl rfl)
  have hS9 : ST w0 [] _ [⟨aD b, 70, [vi r_3.Qubits, vi r_3.Phase, .slice B5 r_3.Terms.length c5, .slice B6 r_3.Out.Rows.length c6], 4⟩, ⟨aD b1, 112, [.slice B code.length c, vi m2.at_, .int .u64 m2.seed], 3⟩, ⟨B5, 136, (r_3.Terms.flatMap eN0), c5 * 2⟩] [⟨B6, (r_3.Out.Rows.flatMap encI)⟩, ⟨B, (code.flatMap enc_u8)⟩] := hS8.freeze (i := 3) rfl
  obtain rfl := some_inj hF2
  exact ret1 Tryz.results109 (v1 := .agg #[vi r_3.Qubits, vi r_3.Phase, .slice B5 r_3.Terms.length c5, .slice B6 r_3.Out.Rows.length c6]) (resAt_cellA (B := aD b) (i := 0) (cs := [vi r_3.Qubits, vi r_3.Phase, .slice B5 r_3.Terms.length c5, .slice B6 r_3.Out.Rows.length c6]) (vs := [vi r_3.Qubits, vi r_3.Phase, .slice B5 r_3.Terms.length c5, .slice B6 r_3.Out.Rows.length c6]) rfl k_ag_70 k_sz_70_4 (hS9.cf (i := 0) rfl) rfl rfl) ⟨B5, c5, B6, c6, rfl, (len_le rfl hcap), (org_cons ho2 org_nil), (ST.subR (R' := [⟨B6, (r_3.Out.Rows.flatMap encI)⟩]) (hS9.sel [2] rfl rfl) (subc (mem_at (i := 0) rfl) (fun _ h => by cases h)))⟩

theorem c_spec_DrawReduceT (code : List Int) (B : Option Addr) (c n : Nat) (w0 : World) (hn : code.length = n) (hS : ST w0 [] w0 [] [⟨B, (code.flatMap enc_u8)⟩]) {r_ : TPhasePoly} (hF : F_spec_DrawReduceT code = some r_) :
  CV Tryz.prog 42 #[.slice B n c] w0 (fun v w' => ∃ (B1 : Option Addr) (c1 : Nat) (B2 : Option Addr) (c2 : Nat), v = .agg #[vi r_.Qubits, vi r_.Phase, .slice B1 r_.Terms.length c1, .slice B2 r_.Out.Rows.length c2] ∧ r_.Out.Rows.length ≤ c2 ∧ Org w0 [] [⟨B, (code.flatMap enc_u8)⟩] [⟨B2, (r_.Out.Rows.flatMap encI)⟩] ∧ ST w0 [] w' [⟨B1, 136, (r_.Terms.flatMap eN0), c1 * 2⟩] [⟨B2, (r_.Out.Rows.flatMap encI)⟩]) := by
 subst hn
 unfold F_spec_DrawReduceT at hF
 refine cv_of_cw 5 Tryz.func42 rfl Tryz.ntmps42 rfl ?_
 refine cw_seq (cw_region ?_)
 refine sS 2 (Ys_alloc (T := 70) (cs := [vi 0, vi 0, .slice none 0 0, .slice none 0 0]) (m := 4) hS k_zero_70 rfl rfl rfl) ?_
 rintro _ w_ ⟨b, rfl, hS1⟩
 refine rw_nil (cw_seq (cw_region ?_))
 refine sQ 3 (Y_move (v := .slice B code.length c) rfl rfl) ?_
 obtain ⟨r_1, hc, hF⟩ := bind_inv hF
 refine sc 4 rfl rfl (Yc_func (g := 109) (vs := [.slice B code.length c]) k_call_109 rfl (mc rfl mn) (c_spec_DrawLeastT code B c code.length _ rfl (hS1.inn0 [(true, 0)] rfl) hc)) ?_
 rintro _ w_1 ⟨B3, c3, B4, c4, rfl, hq, ho, hd⟩
 have hS2 := ST.outR0 hS1 hd ho (subc (mem_at (i := 0) rfl) (fun _ h => by cases h))
 have ho1 : Org w0 [] [⟨B, (code.flatMap enc_u8)⟩] [⟨B4, (r_1.Out.Rows.flatMap encI)⟩] := org_trans0 hS1 ho (org_cons (org_mem (i := 0) rfl) org_nil)
 have hS3 : ST w0 [] _ [⟨aD b, 70, [vi 0, vi 0, .slice none 0 0, .slice none 0 0], 4⟩, ⟨B3, 136, (r_1.Terms.flatMap eN0), c3 * 2⟩] [⟨B4, (r_1.Out.Rows.flatMap encI)⟩, ⟨B, (code.flatMap enc_u8)⟩] := hS2
 refine s0 (Ys_store (i := 0) (s := 4) (B := aD b) (T' := 70) (v := .agg #[vi r_1.Qubits, vi r_1.Phase, .slice B3 r_1.Terms.length c3, .slice B4 r_1.Out.Rows.length c4]) (vs := [vi r_1.Qubits, vi r_1.Phase, .slice B3 r_1.Terms.length c3, .slice B4 r_1.Out.Rows.length c4]) (k := 0) (cs' := [vi r_1.Qubits, vi r_1.Phase, .slice B3 r_1.Terms.length c3, .slice B4 r_1.Out.Rows.length c4]) hS3 k_sz_70_4 rfl rfl rfl rfl rfl rfl rfl (lB rfl) rfl rfl) ?_
 rintro _ w_2 ⟨rfl, hS4⟩
 refine rw_nil (cw_ret ?_)
 obtain rfl := some_inj hF
 exact ret1 Tryz.results42 (v1 := .agg #[vi r_1.Qubits, vi r_1.Phase, .slice B3 r_1.Terms.length c3, .slice B4 r_1.Out.Rows.length c4]) (resAt_cellA (B := aD b) (i := 0) (cs := [vi r_1.Qubits, vi r_1.Phase, .slice B3 r_1.Terms.length c3, .slice B4 r_1.Out.Rows.length c4]) (vs := [vi r_1.Qubits, vi r_1.Phase, .slice B3 r_1.Terms.length c3, .slice B4 r_1.Out.Rows.length c4]) rfl k_ag_70 k_sz_70_4 (hS4.cf (i := 0) rfl) rfl rfl) ⟨B3, c3, B4, c4, rfl, (len_le rfl hq), (org_cons (org_sub ho1 (subc (mem_at (i := 0) rfl) (fun _ h => by cases h))) org_nil), (ST.subR (R' := [⟨B4, (r_1.Out.Rows.flatMap encI)⟩]) (hS4.sel [1] rfl rfl) (subc (mem_at (i := 0) rfl) (fun _ h => by cases h)))⟩

theorem c_impl_within (n : Int) (low : Int) (high : Int)  (w0 : World)  (hS : ST w0 [] w0 [] []) {r_ : Bool} (hF : F_impl_within n low high = some r_) :
  CV Tryz.prog 74 #[vi n, vi low, vi high] w0 (fun v w' => v = .bool r_ ∧ ST w0 [] w' [] []) := by
 unfold F_impl_within at hF
 refine cv_of_cw 15 Tryz.func74 rfl Tryz.ntmps74 rfl ?_
 refine cw_seq (cw_region ?_)
 refine sQ 6 (Y_assign (v := .bool false) rfl rfl) (rw_nil (cw_seq (cw_region ?_)))
 refine sQ 7 (Y_move (v := vi low) rfl rfl) ?_
 refine sQ 8 (Y_move (v := vi n) rfl rfl) ?_
 refine sQ 9 (Y_le (k := .i64) (a := low) (b := n) rfl rfl rfl) ?_
 refine sQ 10 (Y_move (v := .bool (decide (low ≤ n))) rfl rfl) ?_
 refine sgq 11 (B := (decide (low ≤ n))) (v := vi n) rfl rfl (uT_ 10) (fun hg => (Y_move (v := vi n) rfl rfl)) ?_
 refine sgq 12 (B := (decide (low ≤ n))) (v := vi high) rfl rfl (uT_ 10) (fun hg1 => (Y_move (v := vi high) rfl rfl)) ?_
 refine sgq 13 (B := (decide (low ≤ n))) (v := .bool (decide (n ≤ high))) rfl rfl (uT_ 10) (fun hg2 => (Y_le (k := .i64) (a := n) (b := high) rfl (gv_of (v := vi n) hg2) (gv_of (v := vi high) hg2))) ?_
 refine sQ 14 (Y_and (b := (decide (low ≤ n))) (z := (decide (n ≤ high))) rfl rfl rfl rfl) ?_
 refine sQ 6 (Y_assign (v := .bool ((decide (low ≤ n)) && (decide (n ≤ high)))) rfl rfl) (rw_nil (cw_ret ?_))
 obtain rfl := some_inj hF
 exact ret1 Tryz.results74 (v1 := .bool ((decide (low ≤ n)) && (decide (n ≤ high)))) (resAt_tmp rfl) ⟨rfl, (hS.sN [])⟩
end Go.VK
