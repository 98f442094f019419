/- Walks: each Go function returns what its Lean function says. By program. -/
import Derived.Test.YtklicjfbpikobaaDoorReducePathSumFa
import Derived.Test.YtklicjfbpikobaaDoorReducePathSumShelf
import Derived.Test.YtklicjfbpikobaaDoorLibT
import Derived.WalkKit
set_option linter.unusedVariables false
set_option maxRecDepth 100000
set_option maxHeartbeats 4000000
namespace Go.VK
open Go.RowKit
open Go.Proofs
open Go.IntKind
attribute [local irreducible] CW RW RA CV Y Yw Yc Ys RetOf
attribute [local irreducible] F_laws_szTermS F_laws_szAffineS F_laws_szPathSum F_laws_toTerm F_laws_toTermS F_laws_toAffine F_laws_toAffineS F_laws_toPathSum F_laws_eqTerm F_laws_eqTermS F_laws_eqAffine F_laws_eqAffineS F_laws_eqPathSum F_laws_markTermS F_laws_markAffineS F_laws_markPathSum F_laws_heldTermS F_laws_heldAffineS F_laws_heldPathSum F_spec_l1In F_spec_l1Set F_spec_l21Valid F_spec_l21Rule F_spec_l21Drop F_spec_l21Sum_add F_spec_l21Sum_times F_spec_l21Replace F_spec_l21Without F_spec_l21Step F_spec_l21Reduce F_spec_l21Own F_spec_ReducePathSum F_slices_IndexFunc_impl_Affine_impl_Affine F_slices_ContainsFunc_impl_Affine_impl_Affine F_impl_within F_math_bits_OnesCount64 F_math_bits_OnesCount F_impl_bitsIn F_impl_isAffine F_impl_IsValidPathSum_1 F_impl_IsValidPathSum F_impl_ReduceStep_1 F_impl_PathSum_around F_math_bits_TrailingZeros64 F_math_bits_TrailingZeros F_impl_dropped F_impl_PathSum_without F_impl_polyOf F_impl_polynomial_add F_impl_bitsOf F_impl_polynomial_expand F_impl_polynomial_terms F_impl_PathSum_stripped F_impl_PathSum_substituted F_impl_PathSum_ruled F_impl_ReduceStep F_slices_Clone_impl_Term_impl_Term F_slices_Clone_impl_Affine_impl_Affine F_impl_ReducePathSum F_laws_FnExactReducePathSum
theorem c_laws_szTermS (a : List TTerm) (left : Int) (B : Option Addr) (c n : Nat) (w0 : World) (hn : a.length = n) (hS : ST w0 [] w0 [] [⟨B, (a.flatMap eN0)⟩]) {r_ : Int} (hF : F_laws_szTermS a left = some r_) :
  CV Tryd.prog 14 #[.slice B n c, vi left] w0 (fun v w' => v = vi r_ ∧ ST w0 [] w' [] []) := by
 subst hn
 unfold F_laws_szTermS at hF
 refine cv_of_cw 12 Tryd.func14 rfl Tryd.ntmps14 rfl ?_
 refine cw_seq (cw_region ?_)
 refine sQ 4 (Y_assign (v := vi 0) rfl rfl) (rw_nil (cw_seq (cw_region ?_)))
 refine sQ 5 (Y_move (v := vi left) rfl rfl) ?_
 refine sQ 6 (Y_move (v := .slice B a.length c) rfl rfl) ?_
 refine sQ 7 (Y_len (B := B) (m := a.length) (c := c) k_sl_22_73 rfl rfl) ?_
 refine sQ 8 (Y_sub (k := .i64) (a := left) (b := (a.length : Int)) rfl rfl rfl) ?_
 refine sQ 1 (Y_assign (v := vi (i64.wrap (left - (a.length : Int)))) rfl rfl) (rw_nil (cw_seq (cw_seq (cw_region ?_))))
 refine sQ 9 (Y_move (v := vi (i64.wrap (left - (a.length : Int)))) rfl rfl) ?_
 refine sQ 10 (Y_lt (k := .i64) (a := (i64.wrap (left - (a.length : Int)))) (b := 0) rfl rfl rfl) (rw_nil ?_)
 refine cw_cond (b := (decide ((i64.wrap (left - (a.length : Int))) < 0))) rfl (fun hb => ?_) (fun hb => ?_)
 ·skip
  have hF1 := ct hF hb
  refine cw_seq (cw_region ?_)
  refine sQ 4 (Y_assign (v := vi (-1)) rfl rfl) (rw_nil (cw_ret ?_))
  obtain rfl := some_inj hF1
  exact ret1 Tryd.results14 (v1 := vi (-1)) (resAt_tmp rfl) ⟨rfl, (hS.sN [])⟩
 ·skip
  have hF2 := cf' hF hb
  refine cw_skip (cw_seq (cw_region ?_))
  refine sQ 11 (Y_move (v := vi (i64.wrap (left - (a.length : Int)))) rfl rfl) ?_
  refine sQ 4 (Y_assign (v := vi (i64.wrap (left - (a.length : Int)))) rfl rfl) (rw_nil (cw_ret ?_))
  obtain rfl := some_inj hF2
  exact ret1 Tryd.results14 (v1 := vi (i64.wrap (left - (a.length : Int)))) (resAt_tmp rfl) ⟨rfl, (hS.sN [])⟩

theorem c_laws_szAffineS (a : List TAffine) (left : Int) (B : Option Addr) (c n : Nat) (w0 : World) (hn : a.length = n) (hS : ST w0 [] w0 [] [⟨B, (a.flatMap eN1)⟩]) {r_ : Int} (hF : F_laws_szAffineS a left = some r_) :
  CV Tryd.prog 15 #[.slice B n c, vi left] w0 (fun v w' => v = vi r_ ∧ ST w0 [] w' [] []) := by
 subst hn
 unfold F_laws_szAffineS at hF
 refine cv_of_cw 12 Tryd.func15 rfl Tryd.ntmps15 rfl ?_
 refine cw_seq (cw_region ?_)
 refine sQ 4 (Y_assign (v := vi 0) rfl rfl) (rw_nil (cw_seq (cw_region ?_)))
 refine sQ 5 (Y_move (v := vi left) rfl rfl) ?_
 refine sQ 6 (Y_move (v := .slice B a.length c) rfl rfl) ?_
 refine sQ 7 (Y_len (B := B) (m := a.length) (c := c) k_sl_23_75 rfl rfl) ?_
 refine sQ 8 (Y_sub (k := .i64) (a := left) (b := (a.length : Int)) rfl rfl rfl) ?_
 refine sQ 1 (Y_assign (v := vi (i64.wrap (left - (a.length : Int)))) rfl rfl) (rw_nil (cw_seq (cw_seq (cw_region ?_))))
 refine sQ 9 (Y_move (v := vi (i64.wrap (left - (a.length : Int)))) rfl rfl) ?_
 refine sQ 10 (Y_lt (k := .i64) (a := (i64.wrap (left - (a.length : Int)))) (b := 0) rfl rfl rfl) (rw_nil ?_)
 refine cw_cond (b := (decide ((i64.wrap (left - (a.length : Int))) < 0))) rfl (fun hb => ?_) (fun hb => ?_)
 ·skip
  have hF1 := ct hF hb
  refine cw_seq (cw_region ?_)
  refine sQ 4 (Y_assign (v := vi (-1)) rfl rfl) (rw_nil (cw_ret ?_))
  obtain rfl := some_inj hF1
  exact ret1 Tryd.results15 (v1 := vi (-1)) (resAt_tmp rfl) ⟨rfl, (hS.sN [])⟩
 ·skip
  have hF2 := cf' hF hb
  refine cw_skip (cw_seq (cw_region ?_))
  refine sQ 11 (Y_move (v := vi (i64.wrap (left - (a.length : Int)))) rfl rfl) ?_
  refine sQ 4 (Y_assign (v := vi (i64.wrap (left - (a.length : Int)))) rfl rfl) (rw_nil (cw_ret ?_))
  obtain rfl := some_inj hF2
  exact ret1 Tryd.results15 (v1 := vi (i64.wrap (left - (a.length : Int)))) (resAt_tmp rfl) ⟨rfl, (hS.sN [])⟩

theorem c_laws_szPathSum (a : TPathSum) (left : Int) (B : Option Addr) (c n : Nat) (B1 : Option Addr) (c1 n1 : Nat) (w0 : World) (hn : a.Terms.length = n) (hn1 : a.Out.length = n1) (hS : ST w0 [] w0 [] [⟨B, (a.Terms.flatMap eN0)⟩, ⟨B1, (a.Out.flatMap eN1)⟩]) {r_ : Int} (hF : F_laws_szPathSum a left = some r_) :
  CV Tryd.prog 5 #[.agg #[vi a.Ins, vi a.Vars, vi a.Root, vi a.Phase, .slice B n c, .slice B1 n1 c1], vi left] w0 (fun v w' => v = vi r_ ∧ ST w0 [] w' [] []) := by
 subst hn
 subst hn1
 unfold F_laws_szPathSum at hF
 refine cv_of_cw 18 Tryd.func5 rfl Tryd.ntmps5 rfl ?_
 refine cw_seq (cw_region ?_)
 refine sS 2 (Ys_box (T := 25) (v := .agg #[vi a.Ins, vi a.Vars, vi a.Root, vi a.Phase, .slice B a.Terms.length c, .slice B1 a.Out.length c1]) (cs := [vi a.Ins, vi a.Vars, vi a.Root, vi a.Phase, .slice B a.Terms.length c, .slice B1 a.Out.length c1]) (m := 6) hS rfl rfl rfl rfl) ?_
 rintro _ w_ ⟨b, rfl, hS1⟩
 refine sQ 4 (Y_assign (v := vi 0) rfl rfl) (rw_nil (cw_seq (cw_region ?_)))
 refine sQ 5 (Y_fieldAddr (B := aD b) (i := 0) (s := 0) k_fd_25_4_4_22 k_sz_22_1 rfl rfl) ?_
 refine sQ 6 (Y_load1 (B := aD b) (i := 4) (cs := [vi a.Ins, vi a.Vars, vi a.Root, vi a.Phase, .slice B a.Terms.length c, .slice B1 a.Out.length c1]) (v := .slice B a.Terms.length c) k_sc_22 rfl rfl (hS1.cf (i := 0) rfl) rfl) ?_
 refine sQ 7 (Y_move (v := vi left) rfl rfl) ?_
 obtain ⟨r_1, hc, hF⟩ := bind_inv hF
 refine sc 8 rfl rfl (Yc_func (g := 14) (vs := [.slice B a.Terms.length c, vi left]) k_call_14 rfl (mc rfl (mc rfl mn)) (c_laws_szTermS a.Terms left B c a.Terms.length _ rfl (hS1.inn0 [(true, 0)] rfl) hc)) ?_
 rintro _ w_1 ⟨rfl, hd⟩
 have hS2 := hS1.out00 hd
 refine sQ 1 (Y_assign (v := vi r_1) rfl rfl) (rw_nil (cw_seq (cw_seq (cw_region ?_))))
 refine sQ 9 (Y_move (v := vi r_1) rfl rfl) ?_
 refine sQ 10 (Y_lt (k := .i64) (a := r_1) (b := 0) rfl rfl rfl) (rw_nil ?_)
 refine cw_cond (b := (decide (r_1 < 0))) rfl (fun hb => ?_) (fun hb => ?_)
 ·skip
  have hF1 := ct hF hb
  refine cw_seq (cw_region ?_)
  refine sQ 4 (Y_assign (v := vi (-1)) rfl rfl) (rw_nil (cw_ret ?_))
  obtain rfl := some_inj hF1
  exact ret1 Tryd.results5 (v1 := vi (-1)) (resAt_tmp rfl) ⟨rfl, (hS2.sN [])⟩
 ·skip
  have hF2 := cf' hF hb
  refine cw_skip (cw_seq (cw_region ?_))
  refine sQ 11 (Y_fieldAddr (B := aD b) (i := 0) (s := 0) k_fd_25_5_5_23 k_sz_23_1 rfl rfl) ?_
  refine sQ 12 (Y_load1 (B := aD b) (i := 5) (cs := [vi a.Ins, vi a.Vars, vi a.Root, vi a.Phase, .slice B a.Terms.length c, .slice B1 a.Out.length c1]) (v := .slice B1 a.Out.length c1) k_sc_23 rfl rfl (hS2.cf (i := 0) rfl) rfl) ?_
  refine sQ 13 (Y_move (v := vi r_1) rfl rfl) ?_
  obtain ⟨r_2, hc1, hF2⟩ := bind_inv hF2
  refine sc 14 rfl rfl (Yc_func (g := 15) (vs := [.slice B1 a.Out.length c1, vi r_1]) k_call_15 rfl (mc rfl (mc rfl mn)) (c_laws_szAffineS a.Out r_1 B1 c1 a.Out.length _ rfl (hS2.inn0 [(true, 1)] rfl) hc1)) ?_
  rintro _ w_2 ⟨rfl, hd1⟩
  have hS3 := hS2.out00 hd1
  refine sQ 1 (Y_assign (v := vi r_2) rfl rfl) (rw_nil (cw_seq (cw_seq (cw_region ?_))))
  refine sQ 15 (Y_move (v := vi r_2) rfl rfl) ?_
  refine sQ 16 (Y_lt (k := .i64) (a := r_2) (b := 0) rfl rfl rfl) (rw_nil ?_)
  refine cw_cond (b := (decide (r_2 < 0))) rfl (fun hb1 => ?_) (fun hb1 => ?_)
  ·skip
   have hF3 := ct hF2 hb1
   refine cw_seq (cw_region ?_)
   refine sQ 4 (Y_assign (v := vi (-1)) rfl rfl) (rw_nil (cw_ret ?_))
   obtain rfl := some_inj hF3
   exact ret1 Tryd.results5 (v1 := vi (-1)) (resAt_tmp rfl) ⟨rfl, (hS3.sN [])⟩
  ·skip
   have hF4 := cf' hF2 hb1
   refine cw_skip (cw_seq (cw_region ?_))
   refine sQ 17 (Y_move (v := vi r_2) rfl rfl) ?_
   refine sQ 4 (Y_assign (v := vi r_2) rfl rfl) (rw_nil (cw_ret ?_))
   obtain rfl := some_inj hF4
   exact ret1 Tryd.results5 (v1 := vi r_2) (resAt_tmp rfl) ⟨rfl, (hS3.sN [])⟩

theorem c_laws_toTerm (a : TTerm)  (w0 : World)  (hS : ST w0 [] w0 [] []) {r_ : TTerm} (hF : F_laws_toTerm a = some r_) :
  CV Tryd.prog 42 #[.agg #[vi a.Mask, vi a.Coef]] w0 (fun v w' => v = .agg #[vi r_.Mask, vi r_.Coef] ∧ ST w0 [] w' [] []) := by
 unfold F_laws_toTerm at hF
 refine cv_of_cw 11 Tryd.func42 rfl Tryd.ntmps42 rfl ?_
 refine cw_seq (cw_region ?_)
 refine sS 1 (Ys_box (T := 73) (v := .agg #[vi a.Mask, vi a.Coef]) (cs := [vi a.Mask, vi a.Coef]) (m := 2) hS rfl rfl rfl rfl) ?_
 rintro _ w_ ⟨b, rfl, hS1⟩
 refine sS 2 (Ys_alloc (T := 56) (cs := [vi 0, vi 0]) (m := 2) hS1 k_zero_56 rfl rfl rfl) ?_
 rintro _ w_1 ⟨b1, rfl, hS2⟩
 refine rw_nil (cw_seq (cw_region ?_))
 refine sS 3 (Ys_alloc (T := 56) (cs := [vi 0, vi 0]) (m := 2) hS2 k_zero_56 rfl rfl rfl) ?_
 rintro _ w_2 ⟨b2, rfl, hS3⟩
 refine rw_nil (cw_seq (cw_region ?_))
 refine sQ 4 (Y_fieldAddr (B := aD b) (i := 0) (s := 0) k_fd_73_0_0_3 k_sz_3_1 rfl rfl) ?_
 refine sQ 5 (Y_load1 (B := aD b) (i := 0) (cs := [vi a.Mask, vi a.Coef]) (v := vi a.Mask) k_sc_3 rfl rfl (hS3.cf (i := 0) rfl) rfl) ?_
 refine sQ 6 (Y_fieldAddr (B := aD b2) (i := 0) (s := 0) k_fd_56_0_0_3 k_sz_3_1 rfl rfl) ?_
 refine s0 (Ys_store (i := 2) (s := 1) (B := aD b2) (T' := 56) (v := vi a.Mask) (vs := [vi a.Mask]) (k := 0) (cs' := [vi a.Mask, vi 0]) hS3 k_sz_3_1 rfl rfl rfl rfl rfl rfl rfl (lB rfl) rfl rfl) ?_
 rintro _ w_3 ⟨rfl, hS4⟩
 refine rw_nil (cw_seq (cw_region ?_))
 refine sQ 7 (Y_fieldAddr (B := aD b) (i := 0) (s := 0) k_fd_73_1_1_3 k_sz_3_1 rfl rfl) ?_
 refine sQ 8 (Y_load1 (B := aD b) (i := 1) (cs := [vi a.Mask, vi a.Coef]) (v := vi a.Coef) k_sc_3 rfl rfl (hS4.cf (i := 0) rfl) rfl) ?_
 refine sQ 9 (Y_fieldAddr (B := aD b2) (i := 0) (s := 0) k_fd_56_1_1_3 k_sz_3_1 rfl rfl) ?_
 refine s0 (Ys_store (i := 2) (s := 1) (B := aD b2) (T' := 56) (v := vi a.Coef) (vs := [vi a.Coef]) (k := 1) (cs' := [vi a.Mask, vi a.Coef]) hS4 k_sz_3_1 rfl rfl rfl rfl rfl rfl rfl (lB rfl) rfl rfl) ?_
 rintro _ w_4 ⟨rfl, hS5⟩
 refine rw_nil (cw_seq (cw_region ?_))
 refine sQ 10 (Y_loadA (B := aD b2) (i := 0) (cs := [vi a.Mask, vi a.Coef]) (vs := [vi a.Mask, vi a.Coef]) k_ag_56 k_sz_56_2 rfl rfl (hS5.cf (i := 2) rfl) rfl rfl) ?_
 refine s0 (Ys_store (i := 1) (s := 2) (B := aD b1) (T' := 56) (v := .agg #[vi a.Mask, vi a.Coef]) (vs := [vi a.Mask, vi a.Coef]) (k := 0) (cs' := [vi a.Mask, vi a.Coef]) hS5 k_sz_56_2 rfl rfl rfl rfl rfl rfl rfl (lB rfl) rfl rfl) ?_
 rintro _ w_5 ⟨rfl, hS6⟩
 refine rw_nil (cw_ret ?_)
 obtain rfl := some_inj hF
 exact ret1 Tryd.results42 (v1 := .agg #[vi a.Mask, vi a.Coef]) (resAt_cellA (B := aD b1) (i := 0) (cs := [vi a.Mask, vi a.Coef]) (vs := [vi a.Mask, vi a.Coef]) rfl k_ag_56 k_sz_56_2 (hS6.cf (i := 1) rfl) rfl rfl) ⟨rfl, (hS6.sN [])⟩

theorem c_laws_toTermS (a : List TTerm) (B : Option Addr) (c n : Nat) (w0 : World) (hn : a.length = n) (hS : ST w0 [] w0 [] [⟨B, (a.flatMap eN0)⟩]) {r_ : List TTerm} (hF : F_laws_toTermS a = some r_) :
  CV Tryd.prog 18 #[.slice B n c] w0 (fun v w' => ∃ (B1 : Option Addr) (c1 : Nat), v = .slice B1 r_.length c1 ∧ ST w0 [] w' [⟨B1, 56, (r_.flatMap eN0), c1 * 2⟩] []) := by
 subst hn
 unfold F_laws_toTermS at hF
 refine cv_of_cw 23 Tryd.func18 rfl Tryd.ntmps18 rfl ?_
 refine cw_seq (cw_region ?_)
 refine sQ 2 (Y_assign (v := .slice none 0 0) rfl rfl) (rw_nil (cw_seq (cw_region ?_)))
 refine sQ 5 (Y_move (v := .slice B a.length c) rfl rfl) ?_
 refine sQ 6 (Y_len (B := B) (m := a.length) (c := c) k_sl_22_73 rfl rfl) ?_
 obtain ⟨hmk, hF⟩ := chk_inv hF
 refine sS 7 (Ys_make (s := 2) (by' := 16) (nn := a.length) (a := (a.length : Int)) (b := (a.length : Int)) (cs := ((List.replicate a.length (TTerm.mk 0 0)).flatMap eN0)) hS k_sl_27_56 k_sz_56_2 k_by_56_16 k_zero_56 rfl rfl rfl rfl hmk.1 rfl (by have := hmk; omega) (by have := hmk; omega) (by omega) (fm_rep (enc := eN0) (d := (TTerm.mk 0 0)) rfl _)) ?_
 rintro _ w_ ⟨b, rfl, hS1⟩
 refine sQ 3 (Y_assign (v := .slice (aD b) a.length a.length) rfl rfl) (rw_nil (cw_seq (cw_seq (cw_region ?_))))
 refine sQ 4 (Y_assign (v := vi 0) rfl rfl) (rw_nil ?_)
 obtain ⟨hN, hF⟩ := chk_inv hF
 obtain ⟨z, hz, hF1⟩ := bind_inv hF
 refine cw_block ?_
 refine cw_loop (fun k f w => ∃ (i1 : Nat) (out : List TTerm), FF f [(0, .slice B a.length c), (3, .slice (aD b) a.length a.length), (4, vi (i1 : Int))] ∧ out.length = a.length ∧ ST w0 [] w [⟨aD b, 56, (out.flatMap eN0), a.length * 2⟩] [⟨B, (a.flatMap eN0)⟩] ∧ i1 + k = a.length ∧ forN (F_laws_toTermS_l1 a) k i1 out = some z) a.length ⟨0, (List.replicate a.length (TTerm.mk 0 0)), (FF.cons rfl (FF.cons rfl (FF.cons rfl FF.nil))), List.length_replicate, (hS1.sel [0] rfl rfl), Nat.zero_add _, hz⟩ ?_
 rintro k_ f w ⟨i1, out, hf, hl, hS2, hik, hL⟩
 refine cw_seq (cw_seq (cw_region ?_))
 refine sQ 8 (Y_move (v := vi (i1 : Int)) rfl (hf.get 4 2 rfl)) ?_
 refine sQ 9 (Y_move (v := .slice B a.length c) rfl (hf.get 0 0 rfl)) ?_
 refine sQ 10 (Y_len (B := B) (m := a.length) (c := c) k_sl_22_73 rfl rfl) ?_
 refine sQ 11 (Y_lt (k := .i64) (a := (i1 : Int)) (b := (a.length : Int)) rfl rfl rfl) (rw_nil ?_)
 refine cw_cond (b := (decide ((i1 : Int) < (a.length : Int)))) rfl (fun hlt => ?_) (fun hlt => ?_)
 ·skip
  have hlt1 : i1 < a.length := by have h := of_decide_eq_true hlt; omega
  obtain ⟨k_1, rfl⟩ : ∃ k2, k_ = k2 + 1 := ⟨k_ - 1, by omega⟩
  obtain ⟨y, hb, hL1⟩ := forN_go hL
  unfold F_laws_toTermS_l1 at hb
  refine cw_skip (cw_seq (cw_block (cw_region ?_)))
  refine sQ 14 (Y_move (v := .slice (aD b) a.length a.length) rfl (hf.get 3 1 rfl)) ?_
  refine sQ 15 (Y_move (v := vi (i1 : Int)) rfl (hf.get 4 2 rfl)) ?_
  refine sQ 16 (Y_move (v := .slice B a.length c) rfl (hf.get 0 0 rfl)) ?_
  refine sQ 17 (Y_move (v := vi (i1 : Int)) rfl (hf.get 4 2 rfl)) ?_
  obtain ⟨x, hx, hb⟩ := bind_inv hb
  refine sQ 18 (Y_index (B := B) (m := a.length) (c := c) (k := .i64) (i := (i1 : Int)) k_sl_22_73 k_sz_73_2 rfl rfl rfl (gi_isSome eN2 rfl (hS2.rf (i := 0) rfl) hx) (getI_nn hx) (getI_ltI hx rfl)) ?_
  refine sQ 19 (Y_loadA (B := B) (i := (i1 : Int).toNat * 2) (cs := (a.flatMap eN0)) (vs := [vi x.Mask, vi x.Coef]) k_ag_73 k_sz_73_2 rfl rfl (hS2.rf (i := 0) rfl) (eN2 x) (gi_seg eN2 hx)) ?_
  obtain ⟨r_1, hc, hb⟩ := bind_inv hb
  refine sc 20 rfl rfl (Yc_func (g := 42) (vs := [.agg #[vi x.Mask, vi x.Coef]]) k_call_42 rfl (mc rfl mn) (c_laws_toTerm x _  (hS2.inn0 [] rfl) hc)) ?_
  rintro _ w_1 ⟨rfl, hd⟩
  have hS3 := hS2.out00 hd
  obtain ⟨x1, hx1, hb⟩ := bind_inv hb
  refine sQ 21 (Y_index (B := aD b) (m := a.length) (c := a.length) (k := .i64) (i := (i1 : Int)) k_sl_27_56 k_sz_56_2 rfl rfl rfl (gi_isSome eN2 rfl (hS3.cf (i := 0) rfl) hx1) (getI_nn hx1) (getI_ltI hx1 hl)) ?_
  refine s0 (Ys_store (i := 0) (s := 2) (B := aD b) (T' := 56) (v := .agg #[vi r_1.Mask, vi r_1.Coef]) (vs := [vi r_1.Mask, vi r_1.Coef]) (k := (i1 : Int).toNat * 2) (cs' := ((out.set (i1 : Int).toNat r_1).flatMap eN0)) hS3 k_sz_56_2 rfl rfl rfl rfl rfl rfl rfl (gi_fit0 eN2 hx1) (gi_set eN2 hx1 r_1 rfl) rfl) ?_
  rintro _ w_2 ⟨rfl, hS4⟩
  refine rw_nil (cw_region ?_)
  refine sQ 12 (Y_move (v := vi (i1 : Int)) rfl (hf.get 4 2 rfl)) ?_
  refine sQ 13 (Y_add (k := .i64) (a := (i1 : Int)) (b := 1) rfl rfl rfl) ?_
  refine sQ 4 (Y_assign (v := vi (i64.wrap ((i1 : Int) + 1))) rfl rfl) (rw_nil ?_)
  obtain rfl := some_inj hb
  exact ⟨k_1, Nat.lt_succ_self _, i1 + 1, (out.set (i1 : Int).toNat r_1), (FF.cons (hf.get 0 0 rfl) (FF.cons (hf.get 3 1 rfl) (FF.cons (congrArg (Value.int .i64) (wr_succ hlt1 hN)) FF.nil))), (set_len _ _ _ hl), (hS4.sel [0] rfl rfl), (by omega), hL1⟩
 ·skip
  obtain rfl : k_ = 0 := by have h := of_decide_eq_false hlt; omega
  refine cw_exit rfl ?_
  obtain rfl := some_inj hL
  refine cw_seq (cw_region ?_)
  refine sQ 22 (Y_move (v := .slice (aD b) a.length a.length) rfl (hf.get 3 1 rfl)) ?_
  refine sQ 2 (Y_assign (v := .slice (aD b) a.length a.length) rfl rfl) (rw_nil (cw_ret ?_))
  obtain rfl := some_inj hF1
  exact ret1 Tryd.results18 (v1 := .slice (aD b) a.length a.length) (resAt_tmp rfl) ⟨aD b, a.length, (sl_eqv hl), (hS2.sN [0])⟩

theorem c_laws_toAffine (a : TAffine)  (w0 : World)  (hS : ST w0 [] w0 [] []) {r_ : TAffine} (hF : F_laws_toAffine a = some r_) :
  CV Tryd.prog 43 #[.agg #[vi a.Mask, vi a.Turn]] w0 (fun v w' => v = .agg #[vi r_.Mask, vi r_.Turn] ∧ ST w0 [] w' [] []) := by
 unfold F_laws_toAffine at hF
 refine cv_of_cw 11 Tryd.func43 rfl Tryd.ntmps43 rfl ?_
 refine cw_seq (cw_region ?_)
 refine sS 1 (Ys_box (T := 75) (v := .agg #[vi a.Mask, vi a.Turn]) (cs := [vi a.Mask, vi a.Turn]) (m := 2) hS rfl rfl rfl rfl) ?_
 rintro _ w_ ⟨b, rfl, hS1⟩
 refine sS 2 (Ys_alloc (T := 44) (cs := [vi 0, vi 0]) (m := 2) hS1 k_zero_44 rfl rfl rfl) ?_
 rintro _ w_1 ⟨b1, rfl, hS2⟩
 refine rw_nil (cw_seq (cw_region ?_))
 refine sS 3 (Ys_alloc (T := 44) (cs := [vi 0, vi 0]) (m := 2) hS2 k_zero_44 rfl rfl rfl) ?_
 rintro _ w_2 ⟨b2, rfl, hS3⟩
 refine rw_nil (cw_seq (cw_region ?_))
 refine sQ 4 (Y_fieldAddr (B := aD b) (i := 0) (s := 0) k_fd_75_0_0_3 k_sz_3_1 rfl rfl) ?_
 refine sQ 5 (Y_load1 (B := aD b) (i := 0) (cs := [vi a.Mask, vi a.Turn]) (v := vi a.Mask) k_sc_3 rfl rfl (hS3.cf (i := 0) rfl) rfl) ?_
 refine sQ 6 (Y_fieldAddr (B := aD b2) (i := 0) (s := 0) k_fd_44_0_0_3 k_sz_3_1 rfl rfl) ?_
 refine s0 (Ys_store (i := 2) (s := 1) (B := aD b2) (T' := 44) (v := vi a.Mask) (vs := [vi a.Mask]) (k := 0) (cs' := [vi a.Mask, vi 0]) hS3 k_sz_3_1 rfl rfl rfl rfl rfl rfl rfl (lB rfl) rfl rfl) ?_
 rintro _ w_3 ⟨rfl, hS4⟩
 refine rw_nil (cw_seq (cw_region ?_))
 refine sQ 7 (Y_fieldAddr (B := aD b) (i := 0) (s := 0) k_fd_75_1_1_3 k_sz_3_1 rfl rfl) ?_
 refine sQ 8 (Y_load1 (B := aD b) (i := 1) (cs := [vi a.Mask, vi a.Turn]) (v := vi a.Turn) k_sc_3 rfl rfl (hS4.cf (i := 0) rfl) rfl) ?_
 refine sQ 9 (Y_fieldAddr (B := aD b2) (i := 0) (s := 0) k_fd_44_1_1_3 k_sz_3_1 rfl rfl) ?_
 refine s0 (Ys_store (i := 2) (s := 1) (B := aD b2) (T' := 44) (v := vi a.Turn) (vs := [vi a.Turn]) (k := 1) (cs' := [vi a.Mask, vi a.Turn]) hS4 k_sz_3_1 rfl rfl rfl rfl rfl rfl rfl (lB rfl) rfl rfl) ?_
 rintro _ w_4 ⟨rfl, hS5⟩
 refine rw_nil (cw_seq (cw_region ?_))
 refine sQ 10 (Y_loadA (B := aD b2) (i := 0) (cs := [vi a.Mask, vi a.Turn]) (vs := [vi a.Mask, vi a.Turn]) k_ag_44 k_sz_44_2 rfl rfl (hS5.cf (i := 2) rfl) rfl rfl) ?_
 refine s0 (Ys_store (i := 1) (s := 2) (B := aD b1) (T' := 44) (v := .agg #[vi a.Mask, vi a.Turn]) (vs := [vi a.Mask, vi a.Turn]) (k := 0) (cs' := [vi a.Mask, vi a.Turn]) hS5 k_sz_44_2 rfl rfl rfl rfl rfl rfl rfl (lB rfl) rfl rfl) ?_
 rintro _ w_5 ⟨rfl, hS6⟩
 refine rw_nil (cw_ret ?_)
 obtain rfl := some_inj hF
 exact ret1 Tryd.results43 (v1 := .agg #[vi a.Mask, vi a.Turn]) (resAt_cellA (B := aD b1) (i := 0) (cs := [vi a.Mask, vi a.Turn]) (vs := [vi a.Mask, vi a.Turn]) rfl k_ag_44 k_sz_44_2 (hS6.cf (i := 1) rfl) rfl rfl) ⟨rfl, (hS6.sN [])⟩

theorem c_laws_toAffineS (a : List TAffine) (B : Option Addr) (c n : Nat) (w0 : World) (hn : a.length = n) (hS : ST w0 [] w0 [] [⟨B, (a.flatMap eN1)⟩]) {r_ : List TAffine} (hF : F_laws_toAffineS a = some r_) :
  CV Tryd.prog 19 #[.slice B n c] w0 (fun v w' => ∃ (B1 : Option Addr) (c1 : Nat), v = .slice B1 r_.length c1 ∧ ST w0 [] w' [⟨B1, 44, (r_.flatMap eN1), c1 * 2⟩] []) := by
 subst hn
 unfold F_laws_toAffineS at hF
 refine cv_of_cw 23 Tryd.func19 rfl Tryd.ntmps19 rfl ?_
 refine cw_seq (cw_region ?_)
 refine sQ 2 (Y_assign (v := .slice none 0 0) rfl rfl) (rw_nil (cw_seq (cw_region ?_)))
 refine sQ 5 (Y_move (v := .slice B a.length c) rfl rfl) ?_
 refine sQ 6 (Y_len (B := B) (m := a.length) (c := c) k_sl_23_75 rfl rfl) ?_
 obtain ⟨hmk, hF⟩ := chk_inv hF
 refine sS 7 (Ys_make (s := 2) (by' := 16) (nn := a.length) (a := (a.length : Int)) (b := (a.length : Int)) (cs := ((List.replicate a.length (TAffine.mk 0 0)).flatMap eN1)) hS k_sl_28_44 k_sz_44_2 k_by_44_16 k_zero_44 rfl rfl rfl rfl hmk.1 rfl (by have := hmk; omega) (by have := hmk; omega) (by omega) (fm_rep (enc := eN1) (d := (TAffine.mk 0 0)) rfl _)) ?_
 rintro _ w_ ⟨b, rfl, hS1⟩
 refine sQ 3 (Y_assign (v := .slice (aD b) a.length a.length) rfl rfl) (rw_nil (cw_seq (cw_seq (cw_region ?_))))
 refine sQ 4 (Y_assign (v := vi 0) rfl rfl) (rw_nil ?_)
 obtain ⟨hN, hF⟩ := chk_inv hF
 obtain ⟨z, hz, hF1⟩ := bind_inv hF
 refine cw_block ?_
 refine cw_loop (fun k f w => ∃ (i1 : Nat) (out : List TAffine), FF f [(0, .slice B a.length c), (3, .slice (aD b) a.length a.length), (4, vi (i1 : Int))] ∧ out.length = a.length ∧ ST w0 [] w [⟨aD b, 44, (out.flatMap eN1), a.length * 2⟩] [⟨B, (a.flatMap eN1)⟩] ∧ i1 + k = a.length ∧ forN (F_laws_toAffineS_l1 a) k i1 out = some z) a.length ⟨0, (List.replicate a.length (TAffine.mk 0 0)), (FF.cons rfl (FF.cons rfl (FF.cons rfl FF.nil))), List.length_replicate, (hS1.sel [0] rfl rfl), Nat.zero_add _, hz⟩ ?_
 rintro k_ f w ⟨i1, out, hf, hl, hS2, hik, hL⟩
 refine cw_seq (cw_seq (cw_region ?_))
 refine sQ 8 (Y_move (v := vi (i1 : Int)) rfl (hf.get 4 2 rfl)) ?_
 refine sQ 9 (Y_move (v := .slice B a.length c) rfl (hf.get 0 0 rfl)) ?_
 refine sQ 10 (Y_len (B := B) (m := a.length) (c := c) k_sl_23_75 rfl rfl) ?_
 refine sQ 11 (Y_lt (k := .i64) (a := (i1 : Int)) (b := (a.length : Int)) rfl rfl rfl) (rw_nil ?_)
 refine cw_cond (b := (decide ((i1 : Int) < (a.length : Int)))) rfl (fun hlt => ?_) (fun hlt => ?_)
 ·skip
  have hlt1 : i1 < a.length := by have h := of_decide_eq_true hlt; omega
  obtain ⟨k_1, rfl⟩ : ∃ k2, k_ = k2 + 1 := ⟨k_ - 1, by omega⟩
  obtain ⟨y, hb, hL1⟩ := forN_go hL
  unfold F_laws_toAffineS_l1 at hb
  refine cw_skip (cw_seq (cw_block (cw_region ?_)))
  refine sQ 14 (Y_move (v := .slice (aD b) a.length a.length) rfl (hf.get 3 1 rfl)) ?_
  refine sQ 15 (Y_move (v := vi (i1 : Int)) rfl (hf.get 4 2 rfl)) ?_
  refine sQ 16 (Y_move (v := .slice B a.length c) rfl (hf.get 0 0 rfl)) ?_
  refine sQ 17 (Y_move (v := vi (i1 : Int)) rfl (hf.get 4 2 rfl)) ?_
  obtain ⟨x, hx, hb⟩ := bind_inv hb
  refine sQ 18 (Y_index (B := B) (m := a.length) (c := c) (k := .i64) (i := (i1 : Int)) k_sl_23_75 k_sz_75_2 rfl rfl rfl (gi_isSome enc_Affine_len rfl (hS2.rf (i := 0) rfl) hx) (getI_nn hx) (getI_ltI hx rfl)) ?_
  refine sQ 19 (Y_loadA (B := B) (i := (i1 : Int).toNat * 2) (cs := (a.flatMap eN1)) (vs := [vi x.Mask, vi x.Turn]) k_ag_75 k_sz_75_2 rfl rfl (hS2.rf (i := 0) rfl) (enc_Affine_len x) (gi_seg enc_Affine_len hx)) ?_
  obtain ⟨r_1, hc, hb⟩ := bind_inv hb
  refine sc 20 rfl rfl (Yc_func (g := 43) (vs := [.agg #[vi x.Mask, vi x.Turn]]) k_call_43 rfl (mc rfl mn) (c_laws_toAffine x _  (hS2.inn0 [] rfl) hc)) ?_
  rintro _ w_1 ⟨rfl, hd⟩
  have hS3 := hS2.out00 hd
  obtain ⟨x1, hx1, hb⟩ := bind_inv hb
  refine sQ 21 (Y_index (B := aD b) (m := a.length) (c := a.length) (k := .i64) (i := (i1 : Int)) k_sl_28_44 k_sz_44_2 rfl rfl rfl (gi_isSome enc_Affine_len rfl (hS3.cf (i := 0) rfl) hx1) (getI_nn hx1) (getI_ltI hx1 hl)) ?_
  refine s0 (Ys_store (i := 0) (s := 2) (B := aD b) (T' := 44) (v := .agg #[vi r_1.Mask, vi r_1.Turn]) (vs := [vi r_1.Mask, vi r_1.Turn]) (k := (i1 : Int).toNat * 2) (cs' := ((out.set (i1 : Int).toNat r_1).flatMap eN1)) hS3 k_sz_44_2 rfl rfl rfl rfl rfl rfl rfl (gi_fit0 enc_Affine_len hx1) (gi_set enc_Affine_len hx1 r_1 rfl) rfl) ?_
  rintro _ w_2 ⟨rfl, hS4⟩
  refine rw_nil (cw_region ?_)
  refine sQ 12 (Y_move (v := vi (i1 : Int)) rfl (hf.get 4 2 rfl)) ?_
  refine sQ 13 (Y_add (k := .i64) (a := (i1 : Int)) (b := 1) rfl rfl rfl) ?_
  refine sQ 4 (Y_assign (v := vi (i64.wrap ((i1 : Int) + 1))) rfl rfl) (rw_nil ?_)
  obtain rfl := some_inj hb
  exact ⟨k_1, Nat.lt_succ_self _, i1 + 1, (out.set (i1 : Int).toNat r_1), (FF.cons (hf.get 0 0 rfl) (FF.cons (hf.get 3 1 rfl) (FF.cons (congrArg (Value.int .i64) (wr_succ hlt1 hN)) FF.nil))), (set_len _ _ _ hl), (hS4.sel [0] rfl rfl), (by omega), hL1⟩
 ·skip
  obtain rfl : k_ = 0 := by have h := of_decide_eq_false hlt; omega
  refine cw_exit rfl ?_
  obtain rfl := some_inj hL
  refine cw_seq (cw_region ?_)
  refine sQ 22 (Y_move (v := .slice (aD b) a.length a.length) rfl (hf.get 3 1 rfl)) ?_
  refine sQ 2 (Y_assign (v := .slice (aD b) a.length a.length) rfl rfl) (rw_nil (cw_ret ?_))
  obtain rfl := some_inj hF1
  exact ret1 Tryd.results19 (v1 := .slice (aD b) a.length a.length) (resAt_tmp rfl) ⟨aD b, a.length, (sl_eqv hl), (hS2.sN [0])⟩

theorem c_laws_toPathSum (a : TPathSum) (B : Option Addr) (c n : Nat) (B1 : Option Addr) (c1 n1 : Nat) (w0 : World) (hn : a.Terms.length = n) (hn1 : a.Out.length = n1) (hS : ST w0 [] w0 [] [⟨B, (a.Terms.flatMap eN0)⟩, ⟨B1, (a.Out.flatMap eN1)⟩]) {r_ : TPathSum} (hF : F_laws_toPathSum a = some r_) :
  CV Tryd.prog 7 #[.agg #[vi a.Ins, vi a.Vars, vi a.Root, vi a.Phase, .slice B n c, .slice B1 n1 c1]] w0 (fun v w' => ∃ (B2 : Option Addr) (c2 : Nat) (B3 : Option Addr) (c3 : Nat), v = .agg #[vi r_.Ins, vi r_.Vars, vi r_.Root, vi r_.Phase, .slice B2 r_.Terms.length c2, .slice B3 r_.Out.length c3] ∧ ST w0 [] w' [⟨B2, 56, (r_.Terms.flatMap eN0), c2 * 2⟩, ⟨B3, 44, (r_.Out.flatMap eN1), c3 * 2⟩] []) := by
 subst hn
 subst hn1
 unfold F_laws_toPathSum at hF
 refine cv_of_cw 25 Tryd.func7 rfl Tryd.ntmps7 rfl ?_
 refine cw_seq (cw_region ?_)
 refine sS 1 (Ys_box (T := 25) (v := .agg #[vi a.Ins, vi a.Vars, vi a.Root, vi a.Phase, .slice B a.Terms.length c, .slice B1 a.Out.length c1]) (cs := [vi a.Ins, vi a.Vars, vi a.Root, vi a.Phase, .slice B a.Terms.length c, .slice B1 a.Out.length c1]) (m := 6) hS rfl rfl rfl rfl) ?_
 rintro _ w_ ⟨b, rfl, hS1⟩
 refine sS 2 (Ys_alloc (T := 30) (cs := [vi 0, vi 0, vi 0, vi 0, .slice none 0 0, .slice none 0 0]) (m := 6) hS1 k_zero_30 rfl rfl rfl) ?_
 rintro _ w_1 ⟨b1, rfl, hS2⟩
 refine rw_nil (cw_seq (cw_region ?_))
 refine sS 3 (Ys_alloc (T := 30) (cs := [vi 0, vi 0, vi 0, vi 0, .slice none 0 0, .slice none 0 0]) (m := 6) hS2 k_zero_30 rfl rfl rfl) ?_
 rintro _ w_2 ⟨b2, rfl, hS3⟩
 refine rw_nil (cw_seq (cw_region ?_))
 refine sQ 4 (Y_fieldAddr (B := aD b) (i := 0) (s := 0) k_fd_25_0_0_3 k_sz_3_1 rfl rfl) ?_
 refine sQ 5 (Y_load1 (B := aD b) (i := 0) (cs := [vi a.Ins, vi a.Vars, vi a.Root, vi a.Phase, .slice B a.Terms.length c, .slice B1 a.Out.length c1]) (v := vi a.Ins) k_sc_3 rfl rfl (hS3.cf (i := 0) rfl) rfl) ?_
 refine sQ 6 (Y_fieldAddr (B := aD b2) (i := 0) (s := 0) k_fd_30_0_0_3 k_sz_3_1 rfl rfl) ?_
 refine s0 (Ys_store (i := 2) (s := 1) (B := aD b2) (T' := 30) (v := vi a.Ins) (vs := [vi a.Ins]) (k := 0) (cs' := [vi a.Ins, vi 0, vi 0, vi 0, .slice none 0 0, .slice none 0 0]) hS3 k_sz_3_1 rfl rfl rfl rfl rfl rfl rfl (lB rfl) rfl rfl) ?_
 rintro _ w_3 ⟨rfl, hS4⟩
 refine rw_nil (cw_seq (cw_region ?_))
 refine sQ 7 (Y_fieldAddr (B := aD b) (i := 0) (s := 0) k_fd_25_1_1_3 k_sz_3_1 rfl rfl) ?_
 refine sQ 8 (Y_load1 (B := aD b) (i := 1) (cs := [vi a.Ins, vi a.Vars, vi a.Root, vi a.Phase, .slice B a.Terms.length c, .slice B1 a.Out.length c1]) (v := vi a.Vars) k_sc_3 rfl rfl (hS4.cf (i := 0) rfl) rfl) ?_
 refine sQ 9 (Y_fieldAddr (B := aD b2) (i := 0) (s := 0) k_fd_30_1_1_3 k_sz_3_1 rfl rfl) ?_
 refine s0 (Ys_store (i := 2) (s := 1) (B := aD b2) (T' := 30) (v := vi a.Vars) (vs := [vi a.Vars]) (k := 1) (cs' := [vi a.Ins, vi a.Vars, vi 0, vi 0, .slice none 0 0, .slice none 0 0]) hS4 k_sz_3_1 rfl rfl rfl rfl rfl rfl rfl (lB rfl) rfl rfl) ?_
 rintro _ w_4 ⟨rfl, hS5⟩
 refine rw_nil (cw_seq (cw_region ?_))
 refine sQ 10 (Y_fieldAddr (B := aD b) (i := 0) (s := 0) k_fd_25_2_2_3 k_sz_3_1 rfl rfl) ?_
 refine sQ 11 (Y_load1 (B := aD b) (i := 2) (cs := [vi a.Ins, vi a.Vars, vi a.Root, vi a.Phase, .slice B a.Terms.length c, .slice B1 a.Out.length c1]) (v := vi a.Root) k_sc_3 rfl rfl (hS5.cf (i := 0) rfl) rfl) ?_
 refine sQ 12 (Y_fieldAddr (B := aD b2) (i := 0) (s := 0) k_fd_30_2_2_3 k_sz_3_1 rfl rfl) ?_
 refine s0 (Ys_store (i := 2) (s := 1) (B := aD b2) (T' := 30) (v := vi a.Root) (vs := [vi a.Root]) (k := 2) (cs' := [vi a.Ins, vi a.Vars, vi a.Root, vi 0, .slice none 0 0, .slice none 0 0]) hS5 k_sz_3_1 rfl rfl rfl rfl rfl rfl rfl (lB rfl) rfl rfl) ?_
 rintro _ w_5 ⟨rfl, hS6⟩
 refine rw_nil (cw_seq (cw_region ?_))
 refine sQ 13 (Y_fieldAddr (B := aD b) (i := 0) (s := 0) k_fd_25_3_3_3 k_sz_3_1 rfl rfl) ?_
 refine sQ 14 (Y_load1 (B := aD b) (i := 3) (cs := [vi a.Ins, vi a.Vars, vi a.Root, vi a.Phase, .slice B a.Terms.length c, .slice B1 a.Out.length c1]) (v := vi a.Phase) k_sc_3 rfl rfl (hS6.cf (i := 0) rfl) rfl) ?_
 refine sQ 15 (Y_fieldAddr (B := aD b2) (i := 0) (s := 0) k_fd_30_3_3_3 k_sz_3_1 rfl rfl) ?_
 refine s0 (Ys_store (i := 2) (s := 1) (B := aD b2) (T' := 30) (v := vi a.Phase) (vs := [vi a.Phase]) (k := 3) (cs' := [vi a.Ins, vi a.Vars, vi a.Root, vi a.Phase, .slice none 0 0, .slice none 0 0]) hS6 k_sz_3_1 rfl rfl rfl rfl rfl rfl rfl (lB rfl) rfl rfl) ?_
 rintro _ w_6 ⟨rfl, hS7⟩
 refine rw_nil (cw_seq (cw_region ?_))
 refine sQ 16 (Y_fieldAddr (B := aD b) (i := 0) (s := 0) k_fd_25_4_4_22 k_sz_22_1 rfl rfl) ?_
 refine sQ 17 (Y_load1 (B := aD b) (i := 4) (cs := [vi a.Ins, vi a.Vars, vi a.Root, vi a.Phase, .slice B a.Terms.length c, .slice B1 a.Out.length c1]) (v := .slice B a.Terms.length c) k_sc_22 rfl rfl (hS7.cf (i := 0) rfl) rfl) ?_
 obtain ⟨r_1, hc, hF⟩ := bind_inv hF
 refine sc 18 rfl rfl (Yc_func (g := 18) (vs := [.slice B a.Terms.length c]) k_call_18 rfl (mc rfl mn) (c_laws_toTermS a.Terms B c a.Terms.length _ rfl (hS7.inn0 [(true, 0)] rfl) hc)) ?_
 rintro _ w_7 ⟨B4, c4, rfl, hd⟩
 have hS8 := hS7.out0 hd
 refine sQ 19 (Y_fieldAddr (B := aD b2) (i := 0) (s := 0) k_fd_30_4_4_27 k_sz_27_1 rfl rfl) ?_
 refine s0 (Ys_store (i := 2) (s := 1) (B := aD b2) (T' := 30) (v := .slice B4 r_1.length c4) (vs := [.slice B4 r_1.length c4]) (k := 4) (cs' := [vi a.Ins, vi a.Vars, vi a.Root, vi a.Phase, .slice B4 r_1.length c4, .slice none 0 0]) hS8 k_sz_27_1 rfl rfl rfl rfl rfl rfl rfl (lB rfl) rfl rfl) ?_
 rintro _ w_8 ⟨rfl, hS9⟩
 refine rw_nil (cw_seq (cw_region ?_))
 refine sQ 20 (Y_fieldAddr (B := aD b) (i := 0) (s := 0) k_fd_25_5_5_23 k_sz_23_1 rfl rfl) ?_
 refine sQ 21 (Y_load1 (B := aD b) (i := 5) (cs := [vi a.Ins, vi a.Vars, vi a.Root, vi a.Phase, .slice B a.Terms.length c, .slice B1 a.Out.length c1]) (v := .slice B1 a.Out.length c1) k_sc_23 rfl rfl (hS9.cf (i := 0) rfl) rfl) ?_
 obtain ⟨r_2, hc1, hF⟩ := bind_inv hF
 refine sc 22 rfl rfl (Yc_func (g := 19) (vs := [.slice B1 a.Out.length c1]) k_call_19 rfl (mc rfl mn) (c_laws_toAffineS a.Out B1 c1 a.Out.length _ rfl (hS9.inn0 [(true, 1)] rfl) hc1)) ?_
 rintro _ w_9 ⟨B5, c5, rfl, hd1⟩
 have hS10 := hS9.out0 hd1
 refine sQ 23 (Y_fieldAddr (B := aD b2) (i := 0) (s := 0) k_fd_30_5_5_28 k_sz_28_1 rfl rfl) ?_
 refine s0 (Ys_store (i := 2) (s := 1) (B := aD b2) (T' := 30) (v := .slice B5 r_2.length c5) (vs := [.slice B5 r_2.length c5]) (k := 5) (cs' := [vi a.Ins, vi a.Vars, vi a.Root, vi a.Phase, .slice B4 r_1.length c4, .slice B5 r_2.length c5]) hS10 k_sz_28_1 rfl rfl rfl rfl rfl rfl rfl (lB rfl) rfl rfl) ?_
 rintro _ w_10 ⟨rfl, hS11⟩
 refine rw_nil (cw_seq (cw_region ?_))
 refine sQ 24 (Y_loadA (B := aD b2) (i := 0) (cs := [vi a.Ins, vi a.Vars, vi a.Root, vi a.Phase, .slice B4 r_1.length c4, .slice B5 r_2.length c5]) (vs := [vi a.Ins, vi a.Vars, vi a.Root, vi a.Phase, .slice B4 r_1.length c4, .slice B5 r_2.length c5]) k_ag_30 k_sz_30_6 rfl rfl (hS11.cf (i := 2) rfl) rfl rfl) ?_
 refine s0 (Ys_store (i := 1) (s := 6) (B := aD b1) (T' := 30) (v := .agg #[vi a.Ins, vi a.Vars, vi a.Root, vi a.Phase, .slice B4 r_1.length c4, .slice B5 r_2.length c5]) (vs := [vi a.Ins, vi a.Vars, vi a.Root, vi a.Phase, .slice B4 r_1.length c4, .slice B5 r_2.length c5]) (k := 0) (cs' := [vi a.Ins, vi a.Vars, vi a.Root, vi a.Phase, .slice B4 r_1.length c4, .slice B5 r_2.length c5]) hS11 k_sz_30_6 rfl rfl rfl rfl rfl rfl rfl (lB rfl) rfl rfl) ?_
 rintro _ w_11 ⟨rfl, hS12⟩
 refine rw_nil (cw_ret ?_)
 obtain rfl := some_inj hF
 exact ret1 Tryd.results7 (v1 := .agg #[vi a.Ins, vi a.Vars, vi a.Root, vi a.Phase, .slice B4 r_1.length c4, .slice B5 r_2.length c5]) (resAt_cellA (B := aD b1) (i := 0) (cs := [vi a.Ins, vi a.Vars, vi a.Root, vi a.Phase, .slice B4 r_1.length c4, .slice B5 r_2.length c5]) (vs := [vi a.Ins, vi a.Vars, vi a.Root, vi a.Phase, .slice B4 r_1.length c4, .slice B5 r_2.length c5]) rfl k_ag_30 k_sz_30_6 (hS12.cf (i := 1) rfl) rfl rfl) ⟨B4, c4, B5, c5, rfl, (hS12.sN [3, 4])⟩

theorem c_laws_eqTerm (a : TTerm) (b : TTerm)  (w0 : World)  (hS : ST w0 [] w0 [] []) {r_ : Bool} (hF : F_laws_eqTerm a b = some r_) :
  CV Tryd.prog 55 #[.agg #[vi a.Mask, vi a.Coef], .agg #[vi b.Mask, vi b.Coef]] w0 (fun v w' => v = .bool r_ ∧ ST w0 [] w' [] []) := by
 unfold F_laws_eqTerm at hF
 refine cv_of_cw 15 Tryd.func55 rfl Tryd.ntmps55 rfl ?_
 refine cw_seq (cw_region ?_)
 refine sS 2 (Ys_box (T := 56) (v := .agg #[vi a.Mask, vi a.Coef]) (cs := [vi a.Mask, vi a.Coef]) (m := 2) hS rfl rfl rfl rfl) ?_
 rintro _ w_ ⟨b1, rfl, hS1⟩
 refine sS 3 (Ys_box (T := 56) (v := .agg #[vi b.Mask, vi b.Coef]) (cs := [vi b.Mask, vi b.Coef]) (m := 2) hS1 rfl rfl rfl rfl) ?_
 rintro _ w_1 ⟨b2, rfl, hS2⟩
 refine sQ 4 (Y_assign (v := .bool false) rfl rfl) (rw_nil (cw_seq (cw_seq (cw_region ?_))))
 refine sQ 5 (Y_fieldAddr (B := aD b1) (i := 0) (s := 0) k_fd_56_0_0_3 k_sz_3_1 rfl rfl) ?_
 refine sQ 6 (Y_load1 (B := aD b1) (i := 0) (cs := [vi a.Mask, vi a.Coef]) (v := vi a.Mask) k_sc_3 rfl rfl (hS2.cf (i := 0) rfl) rfl) ?_
 refine sQ 7 (Y_fieldAddr (B := aD b2) (i := 0) (s := 0) k_fd_56_0_0_3 k_sz_3_1 rfl rfl) ?_
 refine sQ 8 (Y_load1 (B := aD b2) (i := 0) (cs := [vi b.Mask, vi b.Coef]) (v := vi b.Mask) k_sc_3 rfl rfl (hS2.cf (i := 1) rfl) rfl) ?_
 refine sQ 9 (Y_ne (k := .i64) (a := a.Mask) (b := b.Mask) rfl rfl rfl) (rw_nil ?_)
 refine cw_cond (b := (a.Mask != b.Mask)) rfl (fun hb => ?_) (fun hb => ?_)
 ·skip
  have hF1 := ct hF hb
  refine cw_seq (cw_region ?_)
  refine sQ 4 (Y_assign (v := .bool false) rfl rfl) (rw_nil (cw_ret ?_))
  obtain rfl := some_inj hF1
  exact ret1 Tryd.results55 (v1 := .bool false) (resAt_tmp rfl) ⟨rfl, (hS2.sN [])⟩
 ·skip
  have hF2 := cf' hF hb
  refine cw_skip (cw_seq (cw_seq (cw_region ?_)))
  refine sQ 10 (Y_fieldAddr (B := aD b1) (i := 0) (s := 0) k_fd_56_1_1_3 k_sz_3_1 rfl rfl) ?_
  refine sQ 11 (Y_load1 (B := aD b1) (i := 1) (cs := [vi a.Mask, vi a.Coef]) (v := vi a.Coef) k_sc_3 rfl rfl (hS2.cf (i := 0) rfl) rfl) ?_
  refine sQ 12 (Y_fieldAddr (B := aD b2) (i := 0) (s := 0) k_fd_56_1_1_3 k_sz_3_1 rfl rfl) ?_
  refine sQ 13 (Y_load1 (B := aD b2) (i := 1) (cs := [vi b.Mask, vi b.Coef]) (v := vi b.Coef) k_sc_3 rfl rfl (hS2.cf (i := 1) rfl) rfl) ?_
  refine sQ 14 (Y_ne (k := .i64) (a := a.Coef) (b := b.Coef) rfl rfl rfl) (rw_nil ?_)
  refine cw_cond (b := (a.Coef != b.Coef)) rfl (fun hb1 => ?_) (fun hb1 => ?_)
  ·skip
   have hF3 := ct hF2 hb1
   refine cw_seq (cw_region ?_)
   refine sQ 4 (Y_assign (v := .bool false) rfl rfl) (rw_nil (cw_ret ?_))
   obtain rfl := some_inj hF3
   exact ret1 Tryd.results55 (v1 := .bool false) (resAt_tmp rfl) ⟨rfl, (hS2.sN [])⟩
  ·skip
   have hF4 := cf' hF2 hb1
   refine cw_skip (cw_seq (cw_region ?_))
   refine sQ 4 (Y_assign (v := .bool true) rfl rfl) (rw_nil (cw_ret ?_))
   obtain rfl := some_inj hF4
   exact ret1 Tryd.results55 (v1 := .bool true) (resAt_tmp rfl) ⟨rfl, (hS2.sN [])⟩

theorem c_laws_eqTermS (a : List TTerm) (b : List TTerm) (B : Option Addr) (c n : Nat) (B1 : Option Addr) (c1 n1 : Nat) (w0 : World) (hn : a.length = n) (hn1 : b.length = n1) (hS : ST w0 [] w0 [] [⟨B, (a.flatMap eN0)⟩, ⟨B1, (b.flatMap eN0)⟩]) {r_ : Bool} (hF : F_laws_eqTermS a b = some r_) :
  CV Tryd.prog 24 #[.slice B n c, .slice B1 n1 c1] w0 (fun v w' => v = .bool r_ ∧ ST w0 [] w' [] []) := by
 subst hn
 subst hn1
 unfold F_laws_eqTermS at hF
 refine cv_of_cw 27 Tryd.func24 rfl Tryd.ntmps24 rfl ?_
 refine cw_seq (cw_region ?_)
 refine sQ 4 (Y_assign (v := .bool false) rfl rfl) (rw_nil (cw_seq (cw_seq (cw_region ?_))))
 refine sQ 6 (Y_move (v := .slice B a.length c) rfl rfl) ?_
 refine sQ 7 (Y_len (B := B) (m := a.length) (c := c) k_sl_27_56 rfl rfl) ?_
 refine sQ 8 (Y_move (v := .slice B1 b.length c1) rfl rfl) ?_
 refine sQ 9 (Y_len (B := B1) (m := b.length) (c := c1) k_sl_27_56 rfl rfl) ?_
 refine sQ 10 (Y_ne (k := .i64) (a := (a.length : Int)) (b := (b.length : Int)) rfl rfl rfl) (rw_nil ?_)
 refine cw_cond (b := ((a.length : Int) != (b.length : Int))) rfl (fun hb => ?_) (fun hb => ?_)
 ·skip
  have hF1 := ct hF hb
  refine cw_seq (cw_region ?_)
  refine sQ 4 (Y_assign (v := .bool false) rfl rfl) (rw_nil (cw_ret ?_))
  obtain rfl := some_inj hF1
  exact ret1 Tryd.results24 (v1 := .bool false) (resAt_tmp rfl) ⟨rfl, (hS.sN [])⟩
 ·skip
  have hF2 := cf' hF hb
  refine cw_skip (cw_seq (cw_seq (cw_region ?_)))
  refine sQ 5 (Y_assign (v := vi 0) rfl rfl) (rw_nil ?_)
  obtain ⟨hN, hF2⟩ := chk_inv hF2
  obtain ⟨z, hz, hF3⟩ := bind_inv hF2
  refine cw_block ?_
  refine cw_loop (fun k f w => ∃ (i1 : Nat), FF f [(0, .slice B a.length c), (1, .slice B1 b.length c1), (5, vi (i1 : Int))] ∧ ST w0 [] w [] [⟨B, (a.flatMap eN0)⟩, ⟨B1, (b.flatMap eN0)⟩] ∧ i1 + k = a.length ∧ forX (F_laws_eqTermS_l1 a b) k i1 () = some z) a.length ⟨0, (FF.cons rfl (FF.cons rfl (FF.cons rfl FF.nil))), (hS.sel [] rfl rfl), Nat.zero_add _, hz⟩ ?_
  rintro k_ f w ⟨i1, hf, hS1, hik, hL⟩
  refine cw_seq (cw_seq (cw_region ?_))
  refine sQ 11 (Y_move (v := vi (i1 : Int)) rfl (hf.get 5 2 rfl)) ?_
  refine sQ 12 (Y_move (v := .slice B a.length c) rfl (hf.get 0 0 rfl)) ?_
  refine sQ 13 (Y_len (B := B) (m := a.length) (c := c) k_sl_27_56 rfl rfl) ?_
  refine sQ 14 (Y_lt (k := .i64) (a := (i1 : Int)) (b := (a.length : Int)) rfl rfl rfl) (rw_nil ?_)
  refine cw_cond (b := (decide ((i1 : Int) < (a.length : Int)))) rfl (fun hlt => ?_) (fun hlt => ?_)
  ·skip
   have hlt1 : i1 < a.length := by have h := of_decide_eq_true hlt; omega
   obtain ⟨k_1, rfl⟩ : ∃ k2, k_ = k2 + 1 := ⟨k_ - 1, by omega⟩
   obtain ⟨y, hb1, hL1⟩ := forX_go hL
   unfold F_laws_eqTermS_l1 at hb1
   refine cw_skip (cw_seq (cw_block (cw_seq ?_)))
   obtain ⟨x, hx, hb1⟩ := bind_inv hb1
   obtain ⟨x1, hx1, hb1⟩ := bind_inv hb1
   obtain ⟨r_1, hc, hb1⟩ := bind_inv hb1
   refine ra_start (hS1.se []).fn (by kernel_rfl) ?_
   have hS3 := hS1.drew
   refine rq 0 17 (v := .slice B a.length c) rfl (hS3.se []) (fun w' hw' => (Y_move (v := .slice B a.length c) rfl (hf.get 0 0 rfl))) ?_
   refine rq 1 18 (v := vi (i1 : Int)) rfl (hS3.se []) (fun w' hw' => (Y_move (v := vi (i1 : Int)) rfl (hf.get 5 2 rfl))) ?_
   refine rq 2 19 (v := pt B ((i1 : Int).toNat * 2)) rfl (hS3.se []) (fun w' hw' => (Y_index (B := B) (m := a.length) (c := c) (k := .i64) (i := (i1 : Int)) k_sl_27_56 k_sz_56_2 rfl rfl rfl (gi_isSome eN2 rfl (ST.rf hw' (i := 0) rfl) hx) (getI_nn hx) (getI_ltI hx rfl))) ?_
   refine rq 3 20 (v := .agg #[vi x.Mask, vi x.Coef]) rfl (hS3.se []) (fun w' hw' => (Y_loadA (B := B) (i := (i1 : Int).toNat * 2) (cs := (a.flatMap eN0)) (vs := [vi x.Mask, vi x.Coef]) k_ag_56 k_sz_56_2 rfl rfl (ST.rf hw' (i := 0) rfl) (eN2 x) (gi_seg eN2 hx))) ?_
   refine rq 4 21 (v := .slice B1 b.length c1) rfl (hS3.se []) (fun w' hw' => (Y_move (v := .slice B1 b.length c1) rfl (hf.get 1 1 rfl))) ?_
   refine rq 5 22 (v := vi (i1 : Int)) rfl (hS3.se []) (fun w' hw' => (Y_move (v := vi (i1 : Int)) rfl (hf.get 5 2 rfl))) ?_
   refine rq 6 23 (v := pt B1 ((i1 : Int).toNat * 2)) rfl (hS3.se []) (fun w' hw' => (Y_index (B := B1) (m := b.length) (c := c1) (k := .i64) (i := (i1 : Int)) k_sl_27_56 k_sz_56_2 rfl rfl rfl (gi_isSome eN2 rfl (ST.rf hw' (i := 1) rfl) hx1) (getI_nn hx1) (getI_ltI hx1 rfl))) ?_
   refine rq 7 24 (v := .agg #[vi x1.Mask, vi x1.Coef]) rfl (hS3.se []) (fun w' hw' => (Y_loadA (B := B1) (i := (i1 : Int).toNat * 2) (cs := (b.flatMap eN0)) (vs := [vi x1.Mask, vi x1.Coef]) k_ag_56 k_sz_56_2 rfl rfl (ST.rf hw' (i := 1) rfl) (eN2 x1) (gi_seg eN2 hx1))) ?_
   refine rA [8] ?_
   refine ra_c 25 (i := 8) rfl rfl rfl (Yc_func (g := 55) (vs := [.agg #[vi x.Mask, vi x.Coef], .agg #[vi x1.Mask, vi x1.Coef]]) k_call_55 rfl (mc rfl (mc rfl mn)) (c_laws_eqTerm x x1 _  (hS3.inn0 [] rfl) hc)) ?_ ?_
   ·rintro _ w_ ⟨rfl, hd⟩
    have hS4 := hS3.out00 hd
    refine ⟨(hS4.se []), ?_⟩
    refine rq 9 26 (v := .bool (!r_1)) rfl (hS4.se []) (fun w' hw' => (Y_not (p := r_1) rfl rfl)) ?_
    refine ra_done (by kernel_rfl) ?_
    refine cw_cond (b := (!r_1)) rfl (fun hb2 => ?_) (fun hb2 => ?_)
    ·skip
     have hF4 := ct hb1 hb2
     refine cw_seq (cw_region ?_)
     refine sQ 4 (Y_assign (v := .bool false) rfl rfl) (rw_nil (cw_ret ?_))
     obtain rfl := some_inj hF4
     obtain rfl := some_inj hL1
     obtain rfl := some_inj hF3
     exact ret1 Tryd.results24 (v1 := .bool false) (resAt_tmp rfl) ⟨rfl, (hS4.sN [])⟩
    ·skip
     have hF5 := cf' hb1 hb2
     refine cw_skip (cw_region ?_)
     refine sQ 15 (Y_move (v := vi (i1 : Int)) rfl (hf.get 5 2 rfl)) ?_
     refine sQ 16 (Y_add (k := .i64) (a := (i1 : Int)) (b := 1) rfl rfl rfl) ?_
     refine sQ 5 (Y_assign (v := vi (i64.wrap ((i1 : Int) + 1))) rfl rfl) (rw_nil ?_)
     obtain rfl := some_inj hF5
     exact ⟨k_1, Nat.lt_succ_self _, i1 + 1, (FF.cons (hf.get 0 0 rfl) (FF.cons (hf.get 1 1 rfl) (FF.cons (congrArg (Value.int .i64) (wr_succ hlt1 hN)) FF.nil))), (hS4.sel [] rfl rfl), (by omega), hL1⟩
   exact allR_nil
  ·skip
   obtain rfl : k_ = 0 := by have h := of_decide_eq_false hlt; omega
   refine cw_exit rfl ?_
   obtain rfl := some_inj hL
   refine cw_seq (cw_region ?_)
   refine sQ 4 (Y_assign (v := .bool true) rfl rfl) (rw_nil (cw_ret ?_))
   obtain rfl := some_inj hF3
   exact ret1 Tryd.results24 (v1 := .bool true) (resAt_tmp rfl) ⟨rfl, (hS1.sN [])⟩

theorem c_laws_eqAffine (a : TAffine) (b : TAffine)  (w0 : World)  (hS : ST w0 [] w0 [] []) {r_ : Bool} (hF : F_laws_eqAffine a b = some r_) :
  CV Tryd.prog 56 #[.agg #[vi a.Mask, vi a.Turn], .agg #[vi b.Mask, vi b.Turn]] w0 (fun v w' => v = .bool r_ ∧ ST w0 [] w' [] []) := by
 unfold F_laws_eqAffine at hF
 refine cv_of_cw 15 Tryd.func56 rfl Tryd.ntmps56 rfl ?_
 refine cw_seq (cw_region ?_)
 refine sS 2 (Ys_box (T := 44) (v := .agg #[vi a.Mask, vi a.Turn]) (cs := [vi a.Mask, vi a.Turn]) (m := 2) hS rfl rfl rfl rfl) ?_
 rintro _ w_ ⟨b1, rfl, hS1⟩
 refine sS 3 (Ys_box (T := 44) (v := .agg #[vi b.Mask, vi b.Turn]) (cs := [vi b.Mask, vi b.Turn]) (m := 2) hS1 rfl rfl rfl rfl) ?_
 rintro _ w_1 ⟨b2, rfl, hS2⟩
 refine sQ 4 (Y_assign (v := .bool false) rfl rfl) (rw_nil (cw_seq (cw_seq (cw_region ?_))))
 refine sQ 5 (Y_fieldAddr (B := aD b1) (i := 0) (s := 0) k_fd_44_0_0_3 k_sz_3_1 rfl rfl) ?_
 refine sQ 6 (Y_load1 (B := aD b1) (i := 0) (cs := [vi a.Mask, vi a.Turn]) (v := vi a.Mask) k_sc_3 rfl rfl (hS2.cf (i := 0) rfl) rfl) ?_
 refine sQ 7 (Y_fieldAddr (B := aD b2) (i := 0) (s := 0) k_fd_44_0_0_3 k_sz_3_1 rfl rfl) ?_
 refine sQ 8 (Y_load1 (B := aD b2) (i := 0) (cs := [vi b.Mask, vi b.Turn]) (v := vi b.Mask) k_sc_3 rfl rfl (hS2.cf (i := 1) rfl) rfl) ?_
 refine sQ 9 (Y_ne (k := .i64) (a := a.Mask) (b := b.Mask) rfl rfl rfl) (rw_nil ?_)
 refine cw_cond (b := (a.Mask != b.Mask)) rfl (fun hb => ?_) (fun hb => ?_)
 ·skip
  have hF1 := ct hF hb
  refine cw_seq (cw_region ?_)
  refine sQ 4 (Y_assign (v := .bool false) rfl rfl) (rw_nil (cw_ret ?_))
  obtain rfl := some_inj hF1
  exact ret1 Tryd.results56 (v1 := .bool false) (resAt_tmp rfl) ⟨rfl, (hS2.sN [])⟩
 ·skip
  have hF2 := cf' hF hb
  refine cw_skip (cw_seq (cw_seq (cw_region ?_)))
  refine sQ 10 (Y_fieldAddr (B := aD b1) (i := 0) (s := 0) k_fd_44_1_1_3 k_sz_3_1 rfl rfl) ?_
  refine sQ 11 (Y_load1 (B := aD b1) (i := 1) (cs := [vi a.Mask, vi a.Turn]) (v := vi a.Turn) k_sc_3 rfl rfl (hS2.cf (i := 0) rfl) rfl) ?_
  refine sQ 12 (Y_fieldAddr (B := aD b2) (i := 0) (s := 0) k_fd_44_1_1_3 k_sz_3_1 rfl rfl) ?_
  refine sQ 13 (Y_load1 (B := aD b2) (i := 1) (cs := [vi b.Mask, vi b.Turn]) (v := vi b.Turn) k_sc_3 rfl rfl (hS2.cf (i := 1) rfl) rfl) ?_
  refine sQ 14 (Y_ne (k := .i64) (a := a.Turn) (b := b.Turn) rfl rfl rfl) (rw_nil ?_)
  refine cw_cond (b := (a.Turn != b.Turn)) rfl (fun hb1 => ?_) (fun hb1 => ?_)
  ·skip
   have hF3 := ct hF2 hb1
   refine cw_seq (cw_region ?_)
   refine sQ 4 (Y_assign (v := .bool false) rfl rfl) (rw_nil (cw_ret ?_))
   obtain rfl := some_inj hF3
   exact ret1 Tryd.results56 (v1 := .bool false) (resAt_tmp rfl) ⟨rfl, (hS2.sN [])⟩
  ·skip
   have hF4 := cf' hF2 hb1
   refine cw_skip (cw_seq (cw_region ?_))
   refine sQ 4 (Y_assign (v := .bool true) rfl rfl) (rw_nil (cw_ret ?_))
   obtain rfl := some_inj hF4
   exact ret1 Tryd.results56 (v1 := .bool true) (resAt_tmp rfl) ⟨rfl, (hS2.sN [])⟩

theorem c_laws_eqAffineS (a : List TAffine) (b : List TAffine) (B : Option Addr) (c n : Nat) (B1 : Option Addr) (c1 n1 : Nat) (w0 : World) (hn : a.length = n) (hn1 : b.length = n1) (hS : ST w0 [] w0 [] [⟨B, (a.flatMap eN1)⟩, ⟨B1, (b.flatMap eN1)⟩]) {r_ : Bool} (hF : F_laws_eqAffineS a b = some r_) :
  CV Tryd.prog 25 #[.slice B n c, .slice B1 n1 c1] w0 (fun v w' => v = .bool r_ ∧ ST w0 [] w' [] []) := by
 subst hn
 subst hn1
 unfold F_laws_eqAffineS at hF
 refine cv_of_cw 27 Tryd.func25 rfl Tryd.ntmps25 rfl ?_
 refine cw_seq (cw_region ?_)
 refine sQ 4 (Y_assign (v := .bool false) rfl rfl) (rw_nil (cw_seq (cw_seq (cw_region ?_))))
 refine sQ 6 (Y_move (v := .slice B a.length c) rfl rfl) ?_
 refine sQ 7 (Y_len (B := B) (m := a.length) (c := c) k_sl_28_44 rfl rfl) ?_
 refine sQ 8 (Y_move (v := .slice B1 b.length c1) rfl rfl) ?_
 refine sQ 9 (Y_len (B := B1) (m := b.length) (c := c1) k_sl_28_44 rfl rfl) ?_
 refine sQ 10 (Y_ne (k := .i64) (a := (a.length : Int)) (b := (b.length : Int)) rfl rfl rfl) (rw_nil ?_)
 refine cw_cond (b := ((a.length : Int) != (b.length : Int))) rfl (fun hb => ?_) (fun hb => ?_)
 ·skip
  have hF1 := ct hF hb
  refine cw_seq (cw_region ?_)
  refine sQ 4 (Y_assign (v := .bool false) rfl rfl) (rw_nil (cw_ret ?_))
  obtain rfl := some_inj hF1
  exact ret1 Tryd.results25 (v1 := .bool false) (resAt_tmp rfl) ⟨rfl, (hS.sN [])⟩
 ·skip
  have hF2 := cf' hF hb
  refine cw_skip (cw_seq (cw_seq (cw_region ?_)))
  refine sQ 5 (Y_assign (v := vi 0) rfl rfl) (rw_nil ?_)
  obtain ⟨hN, hF2⟩ := chk_inv hF2
  obtain ⟨z, hz, hF3⟩ := bind_inv hF2
  refine cw_block ?_
  refine cw_loop (fun k f w => ∃ (i1 : Nat), FF f [(0, .slice B a.length c), (1, .slice B1 b.length c1), (5, vi (i1 : Int))] ∧ ST w0 [] w [] [⟨B, (a.flatMap eN1)⟩, ⟨B1, (b.flatMap eN1)⟩] ∧ i1 + k = a.length ∧ forX (F_laws_eqAffineS_l1 a b) k i1 () = some z) a.length ⟨0, (FF.cons rfl (FF.cons rfl (FF.cons rfl FF.nil))), (hS.sel [] rfl rfl), Nat.zero_add _, hz⟩ ?_
  rintro k_ f w ⟨i1, hf, hS1, hik, hL⟩
  refine cw_seq (cw_seq (cw_region ?_))
  refine sQ 11 (Y_move (v := vi (i1 : Int)) rfl (hf.get 5 2 rfl)) ?_
  refine sQ 12 (Y_move (v := .slice B a.length c) rfl (hf.get 0 0 rfl)) ?_
  refine sQ 13 (Y_len (B := B) (m := a.length) (c := c) k_sl_28_44 rfl rfl) ?_
  refine sQ 14 (Y_lt (k := .i64) (a := (i1 : Int)) (b := (a.length : Int)) rfl rfl rfl) (rw_nil ?_)
  refine cw_cond (b := (decide ((i1 : Int) < (a.length : Int)))) rfl (fun hlt => ?_) (fun hlt => ?_)
  ·skip
   have hlt1 : i1 < a.length := by have h := of_decide_eq_true hlt; omega
   obtain ⟨k_1, rfl⟩ : ∃ k2, k_ = k2 + 1 := ⟨k_ - 1, by omega⟩
   obtain ⟨y, hb1, hL1⟩ := forX_go hL
   unfold F_laws_eqAffineS_l1 at hb1
   refine cw_skip (cw_seq (cw_block (cw_seq ?_)))
   obtain ⟨x, hx, hb1⟩ := bind_inv hb1
   obtain ⟨x1, hx1, hb1⟩ := bind_inv hb1
   obtain ⟨r_1, hc, hb1⟩ := bind_inv hb1
   refine ra_start (hS1.se []).fn (by kernel_rfl) ?_
   have hS3 := hS1.drew
   refine rq 0 17 (v := .slice B a.length c) rfl (hS3.se []) (fun w' hw' => (Y_move (v := .slice B a.length c) rfl (hf.get 0 0 rfl))) ?_
   refine rq 1 18 (v := vi (i1 : Int)) rfl (hS3.se []) (fun w' hw' => (Y_move (v := vi (i1 : Int)) rfl (hf.get 5 2 rfl))) ?_
   refine rq 2 19 (v := pt B ((i1 : Int).toNat * 2)) rfl (hS3.se []) (fun w' hw' => (Y_index (B := B) (m := a.length) (c := c) (k := .i64) (i := (i1 : Int)) k_sl_28_44 k_sz_44_2 rfl rfl rfl (gi_isSome enc_Affine_len rfl (ST.rf hw' (i := 0) rfl) hx) (getI_nn hx) (getI_ltI hx rfl))) ?_
   refine rq 3 20 (v := .agg #[vi x.Mask, vi x.Turn]) rfl (hS3.se []) (fun w' hw' => (Y_loadA (B := B) (i := (i1 : Int).toNat * 2) (cs := (a.flatMap eN1)) (vs := [vi x.Mask, vi x.Turn]) k_ag_44 k_sz_44_2 rfl rfl (ST.rf hw' (i := 0) rfl) (enc_Affine_len x) (gi_seg enc_Affine_len hx))) ?_
   refine rq 4 21 (v := .slice B1 b.length c1) rfl (hS3.se []) (fun w' hw' => (Y_move (v := .slice B1 b.length c1) rfl (hf.get 1 1 rfl))) ?_
   refine rq 5 22 (v := vi (i1 : Int)) rfl (hS3.se []) (fun w' hw' => (Y_move (v := vi (i1 : Int)) rfl (hf.get 5 2 rfl))) ?_
   refine rq 6 23 (v := pt B1 ((i1 : Int).toNat * 2)) rfl (hS3.se []) (fun w' hw' => (Y_index (B := B1) (m := b.length) (c := c1) (k := .i64) (i := (i1 : Int)) k_sl_28_44 k_sz_44_2 rfl rfl rfl (gi_isSome enc_Affine_len rfl (ST.rf hw' (i := 1) rfl) hx1) (getI_nn hx1) (getI_ltI hx1 rfl))) ?_
   refine rq 7 24 (v := .agg #[vi x1.Mask, vi x1.Turn]) rfl (hS3.se []) (fun w' hw' => (Y_loadA (B := B1) (i := (i1 : Int).toNat * 2) (cs := (b.flatMap eN1)) (vs := [vi x1.Mask, vi x1.Turn]) k_ag_44 k_sz_44_2 rfl rfl (ST.rf hw' (i := 1) rfl) (enc_Affine_len x1) (gi_seg enc_Affine_len hx1))) ?_
   refine rA [8] ?_
   refine ra_c 25 (i := 8) rfl rfl rfl (Yc_func (g := 56) (vs := [.agg #[vi x.Mask, vi x.Turn], .agg #[vi x1.Mask, vi x1.Turn]]) k_call_56 rfl (mc rfl (mc rfl mn)) (c_laws_eqAffine x x1 _  (hS3.inn0 [] rfl) hc)) ?_ ?_
   ·rintro _ w_ ⟨rfl, hd⟩
    have hS4 := hS3.out00 hd
    refine ⟨(hS4.se []), ?_⟩
    refine rq 9 26 (v := .bool (!r_1)) rfl (hS4.se []) (fun w' hw' => (Y_not (p := r_1) rfl rfl)) ?_
    refine ra_done (by kernel_rfl) ?_
    refine cw_cond (b := (!r_1)) rfl (fun hb2 => ?_) (fun hb2 => ?_)
    ·skip
     have hF4 := ct hb1 hb2
     refine cw_seq (cw_region ?_)
     refine sQ 4 (Y_assign (v := .bool false) rfl rfl) (rw_nil (cw_ret ?_))
     obtain rfl := some_inj hF4
     obtain rfl := some_inj hL1
     obtain rfl := some_inj hF3
     exact ret1 Tryd.results25 (v1 := .bool false) (resAt_tmp rfl) ⟨rfl, (hS4.sN [])⟩
    ·skip
     have hF5 := cf' hb1 hb2
     refine cw_skip (cw_region ?_)
     refine sQ 15 (Y_move (v := vi (i1 : Int)) rfl (hf.get 5 2 rfl)) ?_
     refine sQ 16 (Y_add (k := .i64) (a := (i1 : Int)) (b := 1) rfl rfl rfl) ?_
     refine sQ 5 (Y_assign (v := vi (i64.wrap ((i1 : Int) + 1))) rfl rfl) (rw_nil ?_)
     obtain rfl := some_inj hF5
     exact ⟨k_1, Nat.lt_succ_self _, i1 + 1, (FF.cons (hf.get 0 0 rfl) (FF.cons (hf.get 1 1 rfl) (FF.cons (congrArg (Value.int .i64) (wr_succ hlt1 hN)) FF.nil))), (hS4.sel [] rfl rfl), (by omega), hL1⟩
   exact allR_nil
  ·skip
   obtain rfl : k_ = 0 := by have h := of_decide_eq_false hlt; omega
   refine cw_exit rfl ?_
   obtain rfl := some_inj hL
   refine cw_seq (cw_region ?_)
   refine sQ 4 (Y_assign (v := .bool true) rfl rfl) (rw_nil (cw_ret ?_))
   obtain rfl := some_inj hF3
   exact ret1 Tryd.results25 (v1 := .bool true) (resAt_tmp rfl) ⟨rfl, (hS1.sN [])⟩

theorem c_laws_eqPathSum (a : TPathSum) (b : TPathSum) (B : Option Addr) (c n : Nat) (B1 : Option Addr) (c1 n1 : Nat) (B2 : Option Addr) (c2 n2 : Nat) (B3 : Option Addr) (c3 n3 : Nat) (w0 : World) (hn : a.Terms.length = n) (hn1 : a.Out.length = n1) (hn2 : b.Terms.length = n2) (hn3 : b.Out.length = n3) (hS : ST w0 [] w0 [] [⟨B, (a.Terms.flatMap eN0)⟩, ⟨B1, (a.Out.flatMap eN1)⟩, ⟨B2, (b.Terms.flatMap eN0)⟩, ⟨B3, (b.Out.flatMap eN1)⟩]) {r_ : Bool} (hF : F_laws_eqPathSum a b = some r_) :
  CV Tryd.prog 9 #[.agg #[vi a.Ins, vi a.Vars, vi a.Root, vi a.Phase, .slice B n c, .slice B1 n1 c1], .agg #[vi b.Ins, vi b.Vars, vi b.Root, vi b.Phase, .slice B2 n2 c2, .slice B3 n3 c3]] w0 (fun v w' => v = .bool r_ ∧ ST w0 [] w' [] []) := by
 subst hn
 subst hn1
 subst hn2
 subst hn3
 unfold F_laws_eqPathSum at hF
 refine cv_of_cw 37 Tryd.func9 rfl Tryd.ntmps9 rfl ?_
 refine cw_seq (cw_region ?_)
 refine sS 2 (Ys_box (T := 30) (v := .agg #[vi a.Ins, vi a.Vars, vi a.Root, vi a.Phase, .slice B a.Terms.length c, .slice B1 a.Out.length c1]) (cs := [vi a.Ins, vi a.Vars, vi a.Root, vi a.Phase, .slice B a.Terms.length c, .slice B1 a.Out.length c1]) (m := 6) hS rfl rfl rfl rfl) ?_
 rintro _ w_ ⟨b1, rfl, hS1⟩
 refine sS 3 (Ys_box (T := 30) (v := .agg #[vi b.Ins, vi b.Vars, vi b.Root, vi b.Phase, .slice B2 b.Terms.length c2, .slice B3 b.Out.length c3]) (cs := [vi b.Ins, vi b.Vars, vi b.Root, vi b.Phase, .slice B2 b.Terms.length c2, .slice B3 b.Out.length c3]) (m := 6) hS1 rfl rfl rfl rfl) ?_
 rintro _ w_1 ⟨b2, rfl, hS2⟩
 refine sQ 4 (Y_assign (v := .bool false) rfl rfl) (rw_nil (cw_seq (cw_seq (cw_region ?_))))
 refine sQ 5 (Y_fieldAddr (B := aD b1) (i := 0) (s := 0) k_fd_30_0_0_3 k_sz_3_1 rfl rfl) ?_
 refine sQ 6 (Y_load1 (B := aD b1) (i := 0) (cs := [vi a.Ins, vi a.Vars, vi a.Root, vi a.Phase, .slice B a.Terms.length c, .slice B1 a.Out.length c1]) (v := vi a.Ins) k_sc_3 rfl rfl (hS2.cf (i := 0) rfl) rfl) ?_
 refine sQ 7 (Y_fieldAddr (B := aD b2) (i := 0) (s := 0) k_fd_30_0_0_3 k_sz_3_1 rfl rfl) ?_
 refine sQ 8 (Y_load1 (B := aD b2) (i := 0) (cs := [vi b.Ins, vi b.Vars, vi b.Root, vi b.Phase, .slice B2 b.Terms.length c2, .slice B3 b.Out.length c3]) (v := vi b.Ins) k_sc_3 rfl rfl (hS2.cf (i := 1) rfl) rfl) ?_
 refine sQ 9 (Y_ne (k := .i64) (a := a.Ins) (b := b.Ins) rfl rfl rfl) (rw_nil ?_)
 refine cw_cond (b := (a.Ins != b.Ins)) rfl (fun hb => ?_) (fun hb => ?_)
 ·skip
  have hF1 := ct hF hb
  refine cw_seq (cw_region ?_)
  refine sQ 4 (Y_assign (v := .bool false) rfl rfl) (rw_nil (cw_ret ?_))
  obtain rfl := some_inj hF1
  exact ret1 Tryd.results9 (v1 := .bool false) (resAt_tmp rfl) ⟨rfl, (hS2.sN [])⟩
 ·skip
  have hF2 := cf' hF hb
  refine cw_skip (cw_seq (cw_seq (cw_region ?_)))
  refine sQ 10 (Y_fieldAddr (B := aD b1) (i := 0) (s := 0) k_fd_30_1_1_3 k_sz_3_1 rfl rfl) ?_
  refine sQ 11 (Y_load1 (B := aD b1) (i := 1) (cs := [vi a.Ins, vi a.Vars, vi a.Root, vi a.Phase, .slice B a.Terms.length c, .slice B1 a.Out.length c1]) (v := vi a.Vars) k_sc_3 rfl rfl (hS2.cf (i := 0) rfl) rfl) ?_
  refine sQ 12 (Y_fieldAddr (B := aD b2) (i := 0) (s := 0) k_fd_30_1_1_3 k_sz_3_1 rfl rfl) ?_
  refine sQ 13 (Y_load1 (B := aD b2) (i := 1) (cs := [vi b.Ins, vi b.Vars, vi b.Root, vi b.Phase, .slice B2 b.Terms.length c2, .slice B3 b.Out.length c3]) (v := vi b.Vars) k_sc_3 rfl rfl (hS2.cf (i := 1) rfl) rfl) ?_
  refine sQ 14 (Y_ne (k := .i64) (a := a.Vars) (b := b.Vars) rfl rfl rfl) (rw_nil ?_)
  refine cw_cond (b := (a.Vars != b.Vars)) rfl (fun hb1 => ?_) (fun hb1 => ?_)
  ·skip
   have hF3 := ct hF2 hb1
   refine cw_seq (cw_region ?_)
   refine sQ 4 (Y_assign (v := .bool false) rfl rfl) (rw_nil (cw_ret ?_))
   obtain rfl := some_inj hF3
   exact ret1 Tryd.results9 (v1 := .bool false) (resAt_tmp rfl) ⟨rfl, (hS2.sN [])⟩
  ·skip
   have hF4 := cf' hF2 hb1
   refine cw_skip (cw_seq (cw_seq (cw_region ?_)))
   refine sQ 15 (Y_fieldAddr (B := aD b1) (i := 0) (s := 0) k_fd_30_2_2_3 k_sz_3_1 rfl rfl) ?_
   refine sQ 16 (Y_load1 (B := aD b1) (i := 2) (cs := [vi a.Ins, vi a.Vars, vi a.Root, vi a.Phase, .slice B a.Terms.length c, .slice B1 a.Out.length c1]) (v := vi a.Root) k_sc_3 rfl rfl (hS2.cf (i := 0) rfl) rfl) ?_
   refine sQ 17 (Y_fieldAddr (B := aD b2) (i := 0) (s := 0) k_fd_30_2_2_3 k_sz_3_1 rfl rfl) ?_
   refine sQ 18 (Y_load1 (B := aD b2) (i := 2) (cs := [vi b.Ins, vi b.Vars, vi b.Root, vi b.Phase, .slice B2 b.Terms.length c2, .slice B3 b.Out.length c3]) (v := vi b.Root) k_sc_3 rfl rfl (hS2.cf (i := 1) rfl) rfl) ?_
   refine sQ 19 (Y_ne (k := .i64) (a := a.Root) (b := b.Root) rfl rfl rfl) (rw_nil ?_)
   refine cw_cond (b := (a.Root != b.Root)) rfl (fun hb2 => ?_) (fun hb2 => ?_)
   ·skip
    have hF5 := ct hF4 hb2
    refine cw_seq (cw_region ?_)
    refine sQ 4 (Y_assign (v := .bool false) rfl rfl) (rw_nil (cw_ret ?_))
    obtain rfl := some_inj hF5
    exact ret1 Tryd.results9 (v1 := .bool false) (resAt_tmp rfl) ⟨rfl, (hS2.sN [])⟩
   ·skip
    have hF6 := cf' hF4 hb2
    refine cw_skip (cw_seq (cw_seq (cw_region ?_)))
    refine sQ 20 (Y_fieldAddr (B := aD b1) (i := 0) (s := 0) k_fd_30_3_3_3 k_sz_3_1 rfl rfl) ?_
    refine sQ 21 (Y_load1 (B := aD b1) (i := 3) (cs := [vi a.Ins, vi a.Vars, vi a.Root, vi a.Phase, .slice B a.Terms.length c, .slice B1 a.Out.length c1]) (v := vi a.Phase) k_sc_3 rfl rfl (hS2.cf (i := 0) rfl) rfl) ?_
    refine sQ 22 (Y_fieldAddr (B := aD b2) (i := 0) (s := 0) k_fd_30_3_3_3 k_sz_3_1 rfl rfl) ?_
    refine sQ 23 (Y_load1 (B := aD b2) (i := 3) (cs := [vi b.Ins, vi b.Vars, vi b.Root, vi b.Phase, .slice B2 b.Terms.length c2, .slice B3 b.Out.length c3]) (v := vi b.Phase) k_sc_3 rfl rfl (hS2.cf (i := 1) rfl) rfl) ?_
    refine sQ 24 (Y_ne (k := .i64) (a := a.Phase) (b := b.Phase) rfl rfl rfl) (rw_nil ?_)
    refine cw_cond (b := (a.Phase != b.Phase)) rfl (fun hb3 => ?_) (fun hb3 => ?_)
    ·skip
     have hF7 := ct hF6 hb3
     refine cw_seq (cw_region ?_)
     refine sQ 4 (Y_assign (v := .bool false) rfl rfl) (rw_nil (cw_ret ?_))
     obtain rfl := some_inj hF7
     exact ret1 Tryd.results9 (v1 := .bool false) (resAt_tmp rfl) ⟨rfl, (hS2.sN [])⟩
    ·skip
     have hF8 := cf' hF6 hb3
     refine cw_skip (cw_seq (cw_seq (cw_region ?_)))
     refine sQ 25 (Y_fieldAddr (B := aD b1) (i := 0) (s := 0) k_fd_30_4_4_27 k_sz_27_1 rfl rfl) ?_
     refine sQ 26 (Y_load1 (B := aD b1) (i := 4) (cs := [vi a.Ins, vi a.Vars, vi a.Root, vi a.Phase, .slice B a.Terms.length c, .slice B1 a.Out.length c1]) (v := .slice B a.Terms.length c) k_sc_27 rfl rfl (hS2.cf (i := 0) rfl) rfl) ?_
     refine sQ 27 (Y_fieldAddr (B := aD b2) (i := 0) (s := 0) k_fd_30_4_4_27 k_sz_27_1 rfl rfl) ?_
     refine sQ 28 (Y_load1 (B := aD b2) (i := 4) (cs := [vi b.Ins, vi b.Vars, vi b.Root, vi b.Phase, .slice B2 b.Terms.length c2, .slice B3 b.Out.length c3]) (v := .slice B2 b.Terms.length c2) k_sc_27 rfl rfl (hS2.cf (i := 1) rfl) rfl) ?_
     obtain ⟨r_1, hc, hF8⟩ := bind_inv hF8
     refine sc 29 rfl rfl (Yc_func (g := 24) (vs := [.slice B a.Terms.length c, .slice B2 b.Terms.length c2]) k_call_24 rfl (mc rfl (mc rfl mn)) (c_laws_eqTermS a.Terms b.Terms B c a.Terms.length B2 c2 b.Terms.length _ rfl rfl (hS2.inn0 [(true, 0), (true, 2)] rfl) hc)) ?_
     rintro _ w_2 ⟨rfl, hd⟩
     have hS3 := hS2.out00 hd
     refine sQ 30 (Y_not (p := r_1) rfl rfl) (rw_nil ?_)
     refine cw_cond (b := (!r_1)) rfl (fun hb4 => ?_) (fun hb4 => ?_)
     ·skip
      have hF9 := ct hF8 hb4
      refine cw_seq (cw_region ?_)
      refine sQ 4 (Y_assign (v := .bool false) rfl rfl) (rw_nil (cw_ret ?_))
      obtain rfl := some_inj hF9
      exact ret1 Tryd.results9 (v1 := .bool false) (resAt_tmp rfl) ⟨rfl, (hS3.sN [])⟩
     ·skip
      have hF10 := cf' hF8 hb4
      refine cw_skip (cw_seq (cw_seq (cw_region ?_)))
      refine sQ 31 (Y_fieldAddr (B := aD b1) (i := 0) (s := 0) k_fd_30_5_5_28 k_sz_28_1 rfl rfl) ?_
      refine sQ 32 (Y_load1 (B := aD b1) (i := 5) (cs := [vi a.Ins, vi a.Vars, vi a.Root, vi a.Phase, .slice B a.Terms.length c, .slice B1 a.Out.length c1]) (v := .slice B1 a.Out.length c1) k_sc_28 rfl rfl (hS3.cf (i := 0) rfl) rfl) ?_
      refine sQ 33 (Y_fieldAddr (B := aD b2) (i := 0) (s := 0) k_fd_30_5_5_28 k_sz_28_1 rfl rfl) ?_
      refine sQ 34 (Y_load1 (B := aD b2) (i := 5) (cs := [vi b.Ins, vi b.Vars, vi b.Root, vi b.Phase, .slice B2 b.Terms.length c2, .slice B3 b.Out.length c3]) (v := .slice B3 b.Out.length c3) k_sc_28 rfl rfl (hS3.cf (i := 1) rfl) rfl) ?_
      obtain ⟨r_2, hc1, hF10⟩ := bind_inv hF10
      refine sc 35 rfl rfl (Yc_func (g := 25) (vs := [.slice B1 a.Out.length c1, .slice B3 b.Out.length c3]) k_call_25 rfl (mc rfl (mc rfl mn)) (c_laws_eqAffineS a.Out b.Out B1 c1 a.Out.length B3 c3 b.Out.length _ rfl rfl (hS3.inn0 [(true, 1), (true, 3)] rfl) hc1)) ?_
      rintro _ w_3 ⟨rfl, hd1⟩
      have hS4 := hS3.out00 hd1
      refine sQ 36 (Y_not (p := r_2) rfl rfl) (rw_nil ?_)
      refine cw_cond (b := (!r_2)) rfl (fun hb5 => ?_) (fun hb5 => ?_)
      ·skip
       have hF11 := ct hF10 hb5
       refine cw_seq (cw_region ?_)
       refine sQ 4 (Y_assign (v := .bool false) rfl rfl) (rw_nil (cw_ret ?_))
       obtain rfl := some_inj hF11
       exact ret1 Tryd.results9 (v1 := .bool false) (resAt_tmp rfl) ⟨rfl, (hS4.sN [])⟩
      ·skip
       have hF12 := cf' hF10 hb5
       refine cw_skip (cw_seq (cw_region ?_))
       refine sQ 4 (Y_assign (v := .bool true) rfl rfl) (rw_nil (cw_ret ?_))
       obtain rfl := some_inj hF12
       exact ret1 Tryd.results9 (v1 := .bool true) (resAt_tmp rfl) ⟨rfl, (hS4.sN [])⟩

theorem c_laws_markTermS (a : List TTerm) (k_ : Int) (B : Option Addr) (c n : Nat) (w0 : World) (hn : a.length = n) (hS : ST w0 (bl [⟨B, 56, (a.flatMap eN0), c * 2⟩]) w0 [⟨B, 56, (a.flatMap eN0), c * 2⟩] []) {r_ : Int} {m : List TTerm} (hF : F_laws_markTermS a k_ = some (r_, m)) :
  CV Tryd.prog 26 #[.slice B n c, vi k_] w0 (fun v w' => v = vi r_ ∧ m.length = n ∧ ST w0 (bl [⟨B, 56, (a.flatMap eN0), c * 2⟩]) w' [⟨B, 56, (m.flatMap eN0), c * 2⟩] []) := by
 subst hn
 unfold F_laws_markTermS at hF
 refine cv_of_cw 27 Tryd.func26 rfl Tryd.ntmps26 rfl ?_
 refine cw_seq (cw_region ?_)
 refine sQ 4 (Y_assign (v := vi 0) rfl rfl) (rw_nil (cw_seq (cw_seq (cw_region ?_))))
 refine sQ 5 (Y_assign (v := vi 0) rfl rfl) (rw_nil ?_)
 obtain ⟨hN, hF⟩ := chk_inv hF
 obtain ⟨z, hz, hF1⟩ := bind_inv hF
 refine cw_block ?_
 refine cw_loop (fun k f w => ∃ (i1 : Nat) (m1 : List TTerm) (k_1 : Int), FF f [(0, .slice B a.length c), (1, vi k_1), (5, vi (i1 : Int))] ∧ m1.length = a.length ∧ ST w0 (bl [⟨B, 56, (a.flatMap eN0), c * 2⟩]) w [⟨B, 56, (m1.flatMap eN0), c * 2⟩] [] ∧ i1 + k = a.length ∧ forN F_laws_markTermS_l1 k i1 (m1, k_1) = some z) a.length ⟨0, a, k_, (FF.cons rfl (FF.cons rfl (FF.cons rfl FF.nil))), rfl, (hS.sel [0] rfl rfl), Nat.zero_add _, hz⟩ ?_
 rintro k_2 f w ⟨i1, m1, k_1, hf, hl, hS1, hik, hL⟩
 refine cw_seq (cw_seq (cw_region ?_))
 refine sQ 6 (Y_move (v := vi (i1 : Int)) rfl (hf.get 5 2 rfl)) ?_
 refine sQ 7 (Y_move (v := .slice B a.length c) rfl (hf.get 0 0 rfl)) ?_
 refine sQ 8 (Y_len (B := B) (m := a.length) (c := c) k_sl_27_56 rfl rfl) ?_
 refine sQ 9 (Y_lt (k := .i64) (a := (i1 : Int)) (b := (a.length : Int)) rfl rfl rfl) (rw_nil ?_)
 refine cw_cond (b := (decide ((i1 : Int) < (a.length : Int)))) rfl (fun hlt => ?_) (fun hlt => ?_)
 ·skip
  have hlt1 : i1 < a.length := by have h := of_decide_eq_true hlt; omega
  obtain ⟨k_3, rfl⟩ : ∃ k2, k_2 = k2 + 1 := ⟨k_2 - 1, by omega⟩
  obtain ⟨y, hb, hL1⟩ := forN_go hL
  unfold F_laws_markTermS_l1 at hb
  refine cw_skip (cw_seq (cw_block (cw_seq (cw_region ?_))))
  refine sQ 12 (Y_move (v := .slice B a.length c) rfl (hf.get 0 0 rfl)) ?_
  refine sQ 13 (Y_move (v := vi (i1 : Int)) rfl (hf.get 5 2 rfl)) ?_
  refine sQ 14 (Y_move (v := vi k_1) rfl (hf.get 1 1 rfl)) ?_
  obtain ⟨x, hx, hb⟩ := bind_inv hb
  refine sQ 15 (Y_index (B := B) (m := a.length) (c := c) (k := .i64) (i := (i1 : Int)) k_sl_27_56 k_sz_56_2 rfl rfl rfl (gi_isSome eN2 rfl (hS1.cf (i := 0) rfl) hx) (getI_nn hx) (getI_ltI hx hl)) ?_
  refine sQ 16 (Y_fieldAddr (B := B) (i := (i1 : Int).toNat * 2) (s := 0) k_fd_56_0_0_3 k_sz_3_1 rfl rfl) ?_
  refine s0 (Ys_store (i := 0) (s := 1) (B := B) (T' := 56) (v := vi k_1) (vs := [vi k_1]) (k := (i1 : Int).toNat * 2 + 0) (cs' := ((m1.set (i1 : Int).toNat (TTerm.mk k_1 x.Coef)).flatMap eN0)) hS1 k_sz_3_1 rfl rfl rfl rfl rfl rfl rfl (gi_fit eN2 hx (j := 0) (k := 1) (by decide)) (gi_setf eN2 hx (TTerm.mk k_1 x.Coef) rfl (lB rfl)) rfl) ?_
  rintro _ w_ ⟨rfl, hS2⟩
  refine rw_nil (cw_seq (cw_region ?_))
  refine sQ 17 (Y_move (v := vi k_1) rfl (hf.get 1 1 rfl)) ?_
  refine sQ 18 (Y_add (k := .i64) (a := k_1) (b := 1) rfl rfl rfl) ?_
  refine sQ 1 (Y_assign (v := vi (i64.wrap (k_1 + 1))) rfl rfl) (rw_nil (cw_seq (cw_region ?_)))
  refine sQ 19 (Y_move (v := .slice B a.length c) rfl (hf.get 0 0 rfl)) ?_
  refine sQ 20 (Y_move (v := vi (i1 : Int)) rfl (hf.get 5 2 rfl)) ?_
  refine sQ 21 (Y_move (v := vi (i64.wrap (k_1 + 1))) rfl rfl) ?_
  refine sQ 22 (Y_index (B := B) (m := a.length) (c := c) (k := .i64) (i := (i1 : Int)) k_sl_27_56 k_sz_56_2 rfl rfl rfl (gi_isSome eN2 rfl (hS2.cf (i := 0) rfl) (getI_set (y := (TTerm.mk k_1 x.Coef)) hx)) (getI_nn (getI_set (y := (TTerm.mk k_1 x.Coef)) hx)) (getI_ltI (getI_set (y := (TTerm.mk k_1 x.Coef)) hx) (set_len _ _ _ hl))) ?_
  refine sQ 23 (Y_fieldAddr (B := B) (i := (i1 : Int).toNat * 2) (s := 0) k_fd_56_1_1_3 k_sz_3_1 rfl rfl) ?_
  refine s0 (Ys_store (i := 0) (s := 1) (B := B) (T' := 56) (v := vi (i64.wrap (k_1 + 1))) (vs := [vi (i64.wrap (k_1 + 1))]) (k := (i1 : Int).toNat * 2 + 1) (cs' := (((m1.set (i1 : Int).toNat (TTerm.mk k_1 x.Coef)).set (i1 : Int).toNat (TTerm.mk k_1 (i64.wrap (k_1 + 1)))).flatMap eN0)) hS2 k_sz_3_1 rfl rfl rfl rfl rfl rfl rfl (gi_fit eN2 (getI_set (y := (TTerm.mk k_1 x.Coef)) hx) (j := 1) (k := 1) (by decide)) (gi_setf eN2 (getI_set (y := (TTerm.mk k_1 x.Coef)) hx) (TTerm.mk k_1 (i64.wrap (k_1 + 1))) rfl (lB rfl)) rfl) ?_
  rintro _ w_1 ⟨rfl, hS3⟩
  refine rw_nil (cw_region ?_)
  refine sQ 24 (Y_move (v := vi (i64.wrap (k_1 + 1))) rfl rfl) ?_
  refine sQ 25 (Y_add (k := .i64) (a := (i64.wrap (k_1 + 1))) (b := 1) rfl rfl rfl) ?_
  refine sQ 1 (Y_assign (v := vi (i64.wrap ((i64.wrap (k_1 + 1)) + 1))) rfl rfl) (rw_nil (cw_region ?_))
  refine sQ 10 (Y_move (v := vi (i1 : Int)) rfl (hf.get 5 2 rfl)) ?_
  refine sQ 11 (Y_add (k := .i64) (a := (i1 : Int)) (b := 1) rfl rfl rfl) ?_
  refine sQ 5 (Y_assign (v := vi (i64.wrap ((i1 : Int) + 1))) rfl rfl) (rw_nil ?_)
  obtain rfl := some_inj hb
  exact ⟨k_3, Nat.lt_succ_self _, i1 + 1, ((m1.set (i1 : Int).toNat (TTerm.mk k_1 x.Coef)).set (i1 : Int).toNat (TTerm.mk k_1 (i64.wrap (k_1 + 1)))), (i64.wrap ((i64.wrap (k_1 + 1)) + 1)), (FF.cons (hf.get 0 0 rfl) (FF.cons rfl (FF.cons (congrArg (Value.int .i64) (wr_succ hlt1 hN)) FF.nil))), (set_len _ _ _ (set_len _ _ _ hl)), (hS3.sel [0] rfl rfl), (by omega), hL1⟩
 ·skip
  obtain rfl : k_2 = 0 := by have h := of_decide_eq_false hlt; omega
  refine cw_exit rfl ?_
  obtain rfl := some_inj hL
  refine cw_seq (cw_region ?_)
  refine sQ 26 (Y_move (v := vi k_1) rfl (hf.get 1 1 rfl)) ?_
  refine sQ 4 (Y_assign (v := vi k_1) rfl rfl) (rw_nil (cw_ret ?_))
  obtain ⟨rfl, rfl⟩ := pr2 (some_inj hF1)
  exact ret1 Tryd.results26 (v1 := vi k_1) (resAt_tmp rfl) ⟨rfl, hl, (hS1.sN [0])⟩

theorem c_laws_markAffineS (a : List TAffine) (k_ : Int) (B : Option Addr) (c n : Nat) (w0 : World) (hn : a.length = n) (hS : ST w0 (bl [⟨B, 44, (a.flatMap eN1), c * 2⟩]) w0 [⟨B, 44, (a.flatMap eN1), c * 2⟩] []) {r_ : Int} {m : List TAffine} (hF : F_laws_markAffineS a k_ = some (r_, m)) :
  CV Tryd.prog 27 #[.slice B n c, vi k_] w0 (fun v w' => v = vi r_ ∧ m.length = n ∧ ST w0 (bl [⟨B, 44, (a.flatMap eN1), c * 2⟩]) w' [⟨B, 44, (m.flatMap eN1), c * 2⟩] []) := by
 subst hn
 unfold F_laws_markAffineS at hF
 refine cv_of_cw 27 Tryd.func27 rfl Tryd.ntmps27 rfl ?_
 refine cw_seq (cw_region ?_)
 refine sQ 4 (Y_assign (v := vi 0) rfl rfl) (rw_nil (cw_seq (cw_seq (cw_region ?_))))
 refine sQ 5 (Y_assign (v := vi 0) rfl rfl) (rw_nil ?_)
 obtain ⟨hN, hF⟩ := chk_inv hF
 obtain ⟨z, hz, hF1⟩ := bind_inv hF
 refine cw_block ?_
 refine cw_loop (fun k f w => ∃ (i1 : Nat) (m1 : List TAffine) (k_1 : Int), FF f [(0, .slice B a.length c), (1, vi k_1), (5, vi (i1 : Int))] ∧ m1.length = a.length ∧ ST w0 (bl [⟨B, 44, (a.flatMap eN1), c * 2⟩]) w [⟨B, 44, (m1.flatMap eN1), c * 2⟩] [] ∧ i1 + k = a.length ∧ forN F_laws_markAffineS_l1 k i1 (m1, k_1) = some z) a.length ⟨0, a, k_, (FF.cons rfl (FF.cons rfl (FF.cons rfl FF.nil))), rfl, (hS.sel [0] rfl rfl), Nat.zero_add _, hz⟩ ?_
 rintro k_2 f w ⟨i1, m1, k_1, hf, hl, hS1, hik, hL⟩
 refine cw_seq (cw_seq (cw_region ?_))
 refine sQ 6 (Y_move (v := vi (i1 : Int)) rfl (hf.get 5 2 rfl)) ?_
 refine sQ 7 (Y_move (v := .slice B a.length c) rfl (hf.get 0 0 rfl)) ?_
 refine sQ 8 (Y_len (B := B) (m := a.length) (c := c) k_sl_28_44 rfl rfl) ?_
 refine sQ 9 (Y_lt (k := .i64) (a := (i1 : Int)) (b := (a.length : Int)) rfl rfl rfl) (rw_nil ?_)
 refine cw_cond (b := (decide ((i1 : Int) < (a.length : Int)))) rfl (fun hlt => ?_) (fun hlt => ?_)
 ·skip
  have hlt1 : i1 < a.length := by have h := of_decide_eq_true hlt; omega
  obtain ⟨k_3, rfl⟩ : ∃ k2, k_2 = k2 + 1 := ⟨k_2 - 1, by omega⟩
  obtain ⟨y, hb, hL1⟩ := forN_go hL
  unfold F_laws_markAffineS_l1 at hb
  refine cw_skip (cw_seq (cw_block (cw_seq (cw_region ?_))))
  refine sQ 12 (Y_move (v := .slice B a.length c) rfl (hf.get 0 0 rfl)) ?_
  refine sQ 13 (Y_move (v := vi (i1 : Int)) rfl (hf.get 5 2 rfl)) ?_
  refine sQ 14 (Y_move (v := vi k_1) rfl (hf.get 1 1 rfl)) ?_
  obtain ⟨x, hx, hb⟩ := bind_inv hb
  refine sQ 15 (Y_index (B := B) (m := a.length) (c := c) (k := .i64) (i := (i1 : Int)) k_sl_28_44 k_sz_44_2 rfl rfl rfl (gi_isSome enc_Affine_len rfl (hS1.cf (i := 0) rfl) hx) (getI_nn hx) (getI_ltI hx hl)) ?_
  refine sQ 16 (Y_fieldAddr (B := B) (i := (i1 : Int).toNat * 2) (s := 0) k_fd_44_0_0_3 k_sz_3_1 rfl rfl) ?_
  refine s0 (Ys_store (i := 0) (s := 1) (B := B) (T' := 44) (v := vi k_1) (vs := [vi k_1]) (k := (i1 : Int).toNat * 2 + 0) (cs' := ((m1.set (i1 : Int).toNat (TAffine.mk k_1 x.Turn)).flatMap eN1)) hS1 k_sz_3_1 rfl rfl rfl rfl rfl rfl rfl (gi_fit enc_Affine_len hx (j := 0) (k := 1) (by decide)) (gi_setf enc_Affine_len hx (TAffine.mk k_1 x.Turn) rfl (lB rfl)) rfl) ?_
  rintro _ w_ ⟨rfl, hS2⟩
  refine rw_nil (cw_seq (cw_region ?_))
  refine sQ 17 (Y_move (v := vi k_1) rfl (hf.get 1 1 rfl)) ?_
  refine sQ 18 (Y_add (k := .i64) (a := k_1) (b := 1) rfl rfl rfl) ?_
  refine sQ 1 (Y_assign (v := vi (i64.wrap (k_1 + 1))) rfl rfl) (rw_nil (cw_seq (cw_region ?_)))
  refine sQ 19 (Y_move (v := .slice B a.length c) rfl (hf.get 0 0 rfl)) ?_
  refine sQ 20 (Y_move (v := vi (i1 : Int)) rfl (hf.get 5 2 rfl)) ?_
  refine sQ 21 (Y_move (v := vi (i64.wrap (k_1 + 1))) rfl rfl) ?_
  refine sQ 22 (Y_index (B := B) (m := a.length) (c := c) (k := .i64) (i := (i1 : Int)) k_sl_28_44 k_sz_44_2 rfl rfl rfl (gi_isSome enc_Affine_len rfl (hS2.cf (i := 0) rfl) (getI_set (y := (TAffine.mk k_1 x.Turn)) hx)) (getI_nn (getI_set (y := (TAffine.mk k_1 x.Turn)) hx)) (getI_ltI (getI_set (y := (TAffine.mk k_1 x.Turn)) hx) (set_len _ _ _ hl))) ?_
  refine sQ 23 (Y_fieldAddr (B := B) (i := (i1 : Int).toNat * 2) (s := 0) k_fd_44_1_1_3 k_sz_3_1 rfl rfl) ?_
  refine s0 (Ys_store (i := 0) (s := 1) (B := B) (T' := 44) (v := vi (i64.wrap (k_1 + 1))) (vs := [vi (i64.wrap (k_1 + 1))]) (k := (i1 : Int).toNat * 2 + 1) (cs' := (((m1.set (i1 : Int).toNat (TAffine.mk k_1 x.Turn)).set (i1 : Int).toNat (TAffine.mk k_1 (i64.wrap (k_1 + 1)))).flatMap eN1)) hS2 k_sz_3_1 rfl rfl rfl rfl rfl rfl rfl (gi_fit enc_Affine_len (getI_set (y := (TAffine.mk k_1 x.Turn)) hx) (j := 1) (k := 1) (by decide)) (gi_setf enc_Affine_len (getI_set (y := (TAffine.mk k_1 x.Turn)) hx) (TAffine.mk k_1 (i64.wrap (k_1 + 1))) rfl (lB rfl)) rfl) ?_
  rintro _ w_1 ⟨rfl, hS3⟩
  refine rw_nil (cw_region ?_)
  refine sQ 24 (Y_move (v := vi (i64.wrap (k_1 + 1))) rfl rfl) ?_
  refine sQ 25 (Y_add (k := .i64) (a := (i64.wrap (k_1 + 1))) (b := 1) rfl rfl rfl) ?_
  refine sQ 1 (Y_assign (v := vi (i64.wrap ((i64.wrap (k_1 + 1)) + 1))) rfl rfl) (rw_nil (cw_region ?_))
  refine sQ 10 (Y_move (v := vi (i1 : Int)) rfl (hf.get 5 2 rfl)) ?_
  refine sQ 11 (Y_add (k := .i64) (a := (i1 : Int)) (b := 1) rfl rfl rfl) ?_
  refine sQ 5 (Y_assign (v := vi (i64.wrap ((i1 : Int) + 1))) rfl rfl) (rw_nil ?_)
  obtain rfl := some_inj hb
  exact ⟨k_3, Nat.lt_succ_self _, i1 + 1, ((m1.set (i1 : Int).toNat (TAffine.mk k_1 x.Turn)).set (i1 : Int).toNat (TAffine.mk k_1 (i64.wrap (k_1 + 1)))), (i64.wrap ((i64.wrap (k_1 + 1)) + 1)), (FF.cons (hf.get 0 0 rfl) (FF.cons rfl (FF.cons (congrArg (Value.int .i64) (wr_succ hlt1 hN)) FF.nil))), (set_len _ _ _ (set_len _ _ _ hl)), (hS3.sel [0] rfl rfl), (by omega), hL1⟩
 ·skip
  obtain rfl : k_2 = 0 := by have h := of_decide_eq_false hlt; omega
  refine cw_exit rfl ?_
  obtain rfl := some_inj hL
  refine cw_seq (cw_region ?_)
  refine sQ 26 (Y_move (v := vi k_1) rfl (hf.get 1 1 rfl)) ?_
  refine sQ 4 (Y_assign (v := vi k_1) rfl rfl) (rw_nil (cw_ret ?_))
  obtain ⟨rfl, rfl⟩ := pr2 (some_inj hF1)
  exact ret1 Tryd.results27 (v1 := vi k_1) (resAt_tmp rfl) ⟨rfl, hl, (hS1.sN [0])⟩

theorem c_laws_markPathSum (a : TPathSum) (k_ : Int) (B : Option Addr) (c n : Nat) (B1 : Option Addr) (c1 n1 : Nat) (w0 : World) (hn : a.Terms.length = n) (hn1 : a.Out.length = n1) (hS : ST w0 (bl [⟨B, 56, (a.Terms.flatMap eN0), c * 2⟩, ⟨B1, 44, (a.Out.flatMap eN1), c1 * 2⟩]) w0 [⟨B, 56, (a.Terms.flatMap eN0), c * 2⟩, ⟨B1, 44, (a.Out.flatMap eN1), c1 * 2⟩] []) {r_ : Int} {m : List TTerm} {m1 : List TAffine} (hF : F_laws_markPathSum a k_ = some (r_, m, m1)) :
  CV Tryd.prog 10 #[.agg #[vi a.Ins, vi a.Vars, vi a.Root, vi a.Phase, .slice B n c, .slice B1 n1 c1], vi k_] w0 (fun v w' => v = vi r_ ∧ m.length = n ∧ m1.length = n1 ∧ ST w0 (bl [⟨B, 56, (a.Terms.flatMap eN0), c * 2⟩, ⟨B1, 44, (a.Out.flatMap eN1), c1 * 2⟩]) w' [⟨B, 56, (m.flatMap eN0), c * 2⟩, ⟨B1, 44, (m1.flatMap eN1), c1 * 2⟩] []) := by
 subst hn
 subst hn1
 unfold F_laws_markPathSum at hF
 refine cv_of_cw 14 Tryd.func10 rfl Tryd.ntmps10 rfl ?_
 refine cw_seq (cw_region ?_)
 refine sS 2 (Ys_box (T := 30) (v := .agg #[vi a.Ins, vi a.Vars, vi a.Root, vi a.Phase, .slice B a.Terms.length c, .slice B1 a.Out.length c1]) (cs := [vi a.Ins, vi a.Vars, vi a.Root, vi a.Phase, .slice B a.Terms.length c, .slice B1 a.Out.length c1]) (m := 6) hS rfl rfl rfl rfl) ?_
 rintro _ w_ ⟨b, rfl, hS1⟩
 refine sQ 4 (Y_assign (v := vi 0) rfl rfl) (rw_nil (cw_seq (cw_region ?_)))
 refine sQ 5 (Y_fieldAddr (B := aD b) (i := 0) (s := 0) k_fd_30_4_4_27 k_sz_27_1 rfl rfl) ?_
 refine sQ 6 (Y_load1 (B := aD b) (i := 4) (cs := [vi a.Ins, vi a.Vars, vi a.Root, vi a.Phase, .slice B a.Terms.length c, .slice B1 a.Out.length c1]) (v := .slice B a.Terms.length c) k_sc_27 rfl rfl (hS1.cf (i := 2) rfl) rfl) ?_
 refine sQ 7 (Y_move (v := vi k_) rfl rfl) ?_
 obtain ⟨⟨r_1, m2⟩, hc, hF⟩ := bind_inv hF
 refine sc 8 rfl rfl (Yc_func (g := 26) (vs := [.slice B a.Terms.length c, vi k_]) k_call_26 rfl (mc rfl (mc rfl mn)) (c_laws_markTermS a.Terms k_ B c a.Terms.length _ rfl (hS1.inn [true, false, false] rfl [] rfl) hc)) ?_
 rintro _ w_1 ⟨rfl, hl, hd⟩
 have hS2 := hS1.out [true, false, false] rfl hd
 refine sQ 1 (Y_assign (v := vi r_1) rfl rfl) (rw_nil (cw_seq (cw_region ?_)))
 refine sQ 9 (Y_fieldAddr (B := aD b) (i := 0) (s := 0) k_fd_30_5_5_28 k_sz_28_1 rfl rfl) ?_
 refine sQ 10 (Y_load1 (B := aD b) (i := 5) (cs := [vi a.Ins, vi a.Vars, vi a.Root, vi a.Phase, .slice B a.Terms.length c, .slice B1 a.Out.length c1]) (v := .slice B1 a.Out.length c1) k_sc_28 rfl rfl (hS2.cf (i := 1) rfl) rfl) ?_
 refine sQ 11 (Y_move (v := vi r_1) rfl rfl) ?_
 obtain ⟨⟨r_2, m3⟩, hc1, hF⟩ := bind_inv hF
 refine sc 12 rfl rfl (Yc_func (g := 27) (vs := [.slice B1 a.Out.length c1, vi r_1]) k_call_27 rfl (mc rfl (mc rfl mn)) (c_laws_markAffineS a.Out r_1 B1 c1 a.Out.length _ rfl (hS2.inn [true, false, false] rfl [] rfl) hc1)) ?_
 rintro _ w_2 ⟨rfl, hl1, hd1⟩
 have hS3 := hS2.out [true, false, false] rfl hd1
 refine sQ 1 (Y_assign (v := vi r_2) rfl rfl) (rw_nil (cw_seq (cw_region ?_)))
 refine sQ 13 (Y_move (v := vi r_2) rfl rfl) ?_
 refine sQ 4 (Y_assign (v := vi r_2) rfl rfl) (rw_nil (cw_ret ?_))
 obtain ⟨rfl, rfl, rfl⟩ := pr3 (some_inj hF)
 exact ret1 Tryd.results10 (v1 := vi r_2) (resAt_tmp rfl) ⟨rfl, hl, hl1, (hS3.sN [1, 2])⟩

theorem c_laws_heldTermS (a : List TTerm) (k_ : Int) (B : Option Addr) (c n : Nat) (w0 : World) (hn : a.length = n) (hS : ST w0 [] w0 [] [⟨B, (a.flatMap eN0)⟩]) {r_ : Int} (hF : F_laws_heldTermS a k_ = some r_) :
  CV Tryd.prog 28 #[.slice B n c, vi k_] w0 (fun v w' => v = vi r_ ∧ ST w0 [] w' [] []) := by
 subst hn
 unfold F_laws_heldTermS at hF
 refine cv_of_cw 31 Tryd.func28 rfl Tryd.ntmps28 rfl ?_
 refine cw_seq (cw_region ?_)
 refine sQ 4 (Y_assign (v := vi 0) rfl rfl) (rw_nil (cw_seq (cw_seq (cw_region ?_))))
 refine sQ 5 (Y_assign (v := vi 0) rfl rfl) (rw_nil ?_)
 obtain ⟨hN, hF⟩ := chk_inv hF
 obtain ⟨z, hz, hF1⟩ := bind_inv hF
 refine cw_block ?_
 refine cw_loop (fun k f w => ∃ (i1 : Nat) (k_1 : Int), FF f [(0, .slice B a.length c), (1, vi k_1), (5, vi (i1 : Int))] ∧ ST w0 [] w [] [⟨B, (a.flatMap eN0)⟩] ∧ i1 + k = a.length ∧ forX (F_laws_heldTermS_l1 a) k i1 k_1 = some z) a.length ⟨0, k_, (FF.cons rfl (FF.cons rfl (FF.cons rfl FF.nil))), (hS.sel [] rfl rfl), Nat.zero_add _, hz⟩ ?_
 rintro k_2 f w ⟨i1, k_1, hf, hS1, hik, hL⟩
 refine cw_seq (cw_seq (cw_region ?_))
 refine sQ 6 (Y_move (v := vi (i1 : Int)) rfl (hf.get 5 2 rfl)) ?_
 refine sQ 7 (Y_move (v := .slice B a.length c) rfl (hf.get 0 0 rfl)) ?_
 refine sQ 8 (Y_len (B := B) (m := a.length) (c := c) k_sl_27_56 rfl rfl) ?_
 refine sQ 9 (Y_lt (k := .i64) (a := (i1 : Int)) (b := (a.length : Int)) rfl rfl rfl) (rw_nil ?_)
 refine cw_cond (b := (decide ((i1 : Int) < (a.length : Int)))) rfl (fun hlt => ?_) (fun hlt => ?_)
 ·skip
  have hlt1 : i1 < a.length := by have h := of_decide_eq_true hlt; omega
  obtain ⟨k_3, rfl⟩ : ∃ k2, k_2 = k2 + 1 := ⟨k_2 - 1, by omega⟩
  obtain ⟨y, hb, hL1⟩ := forX_go hL
  unfold F_laws_heldTermS_l1 at hb
  refine cw_skip (cw_seq (cw_block (cw_seq (cw_seq (cw_region ?_)))))
  refine sQ 12 (Y_move (v := .slice B a.length c) rfl (hf.get 0 0 rfl)) ?_
  refine sQ 13 (Y_move (v := vi (i1 : Int)) rfl (hf.get 5 2 rfl)) ?_
  obtain ⟨x, hx, hb⟩ := bind_inv hb
  refine sQ 14 (Y_index (B := B) (m := a.length) (c := c) (k := .i64) (i := (i1 : Int)) k_sl_27_56 k_sz_56_2 rfl rfl rfl (gi_isSome eN2 rfl (hS1.rf (i := 0) rfl) hx) (getI_nn hx) (getI_ltI hx rfl)) ?_
  refine sQ 15 (Y_fieldAddr (B := B) (i := (i1 : Int).toNat * 2) (s := 0) k_fd_56_0_0_3 k_sz_3_1 rfl rfl) ?_
  refine sQ 16 (Y_load1 (B := B) (i := (i1 : Int).toNat * 2 + 0) (cs := (a.flatMap eN0)) (v := vi x.Mask) k_sc_3 rfl rfl (hS1.rf (i := 0) rfl) (gi_at eN2 hx rfl)) ?_
  refine sQ 17 (Y_move (v := vi k_1) rfl (hf.get 1 1 rfl)) ?_
  refine sQ 18 (Y_ne (k := .i64) (a := x.Mask) (b := k_1) rfl rfl rfl) (rw_nil ?_)
  refine cw_cond (b := (x.Mask != k_1)) rfl (fun hb1 => ?_) (fun hb1 => ?_)
  ·skip
   have hF2 := ct hb hb1
   refine cw_seq (cw_region ?_)
   refine sQ 4 (Y_assign (v := vi (-1)) rfl rfl) (rw_nil (cw_ret ?_))
   obtain rfl := some_inj hF2
   obtain rfl := some_inj hL1
   obtain rfl := some_inj hF1
   exact ret1 Tryd.results28 (v1 := vi (-1)) (resAt_tmp rfl) ⟨rfl, (hS1.sN [])⟩
  ·skip
   have hF3 := cf' hb hb1
   refine cw_skip (cw_seq (cw_region ?_))
   refine sQ 19 (Y_move (v := vi k_1) rfl (hf.get 1 1 rfl)) ?_
   refine sQ 20 (Y_add (k := .i64) (a := k_1) (b := 1) rfl rfl rfl) ?_
   refine sQ 1 (Y_assign (v := vi (i64.wrap (k_1 + 1))) rfl rfl) (rw_nil (cw_seq (cw_seq (cw_region ?_))))
   refine sQ 21 (Y_move (v := .slice B a.length c) rfl (hf.get 0 0 rfl)) ?_
   refine sQ 22 (Y_move (v := vi (i1 : Int)) rfl (hf.get 5 2 rfl)) ?_
   refine sQ 23 (Y_index (B := B) (m := a.length) (c := c) (k := .i64) (i := (i1 : Int)) k_sl_27_56 k_sz_56_2 rfl rfl rfl (gi_isSome eN2 rfl (hS1.rf (i := 0) rfl) hx) (getI_nn hx) (getI_ltI hx rfl)) ?_
   refine sQ 24 (Y_fieldAddr (B := B) (i := (i1 : Int).toNat * 2) (s := 0) k_fd_56_1_1_3 k_sz_3_1 rfl rfl) ?_
   refine sQ 25 (Y_load1 (B := B) (i := (i1 : Int).toNat * 2 + 1) (cs := (a.flatMap eN0)) (v := vi x.Coef) k_sc_3 rfl rfl (hS1.rf (i := 0) rfl) (gi_at eN2 hx rfl)) ?_
   refine sQ 26 (Y_move (v := vi (i64.wrap (k_1 + 1))) rfl rfl) ?_
   refine sQ 27 (Y_ne (k := .i64) (a := x.Coef) (b := (i64.wrap (k_1 + 1))) rfl rfl rfl) (rw_nil ?_)
   refine cw_cond (b := (x.Coef != (i64.wrap (k_1 + 1)))) rfl (fun hb2 => ?_) (fun hb2 => ?_)
   ·skip
    have hF4 := ct hF3 hb2
    refine cw_seq (cw_region ?_)
    refine sQ 4 (Y_assign (v := vi (-1)) rfl rfl) (rw_nil (cw_ret ?_))
    obtain rfl := some_inj hF4
    obtain rfl := some_inj hL1
    obtain rfl := some_inj hF1
    exact ret1 Tryd.results28 (v1 := vi (-1)) (resAt_tmp rfl) ⟨rfl, (hS1.sN [])⟩
   ·skip
    have hF5 := cf' hF3 hb2
    refine cw_skip (cw_region ?_)
    refine sQ 28 (Y_move (v := vi (i64.wrap (k_1 + 1))) rfl rfl) ?_
    refine sQ 29 (Y_add (k := .i64) (a := (i64.wrap (k_1 + 1))) (b := 1) rfl rfl rfl) ?_
    refine sQ 1 (Y_assign (v := vi (i64.wrap ((i64.wrap (k_1 + 1)) + 1))) rfl rfl) (rw_nil (cw_region ?_))
    refine sQ 10 (Y_move (v := vi (i1 : Int)) rfl (hf.get 5 2 rfl)) ?_
    refine sQ 11 (Y_add (k := .i64) (a := (i1 : Int)) (b := 1) rfl rfl rfl) ?_
    refine sQ 5 (Y_assign (v := vi (i64.wrap ((i1 : Int) + 1))) rfl rfl) (rw_nil ?_)
    obtain rfl := some_inj hF5
    exact ⟨k_3, Nat.lt_succ_self _, i1 + 1, (i64.wrap ((i64.wrap (k_1 + 1)) + 1)), (FF.cons (hf.get 0 0 rfl) (FF.cons rfl (FF.cons (congrArg (Value.int .i64) (wr_succ hlt1 hN)) FF.nil))), (hS1.sel [] rfl rfl), (by omega), hL1⟩
 ·skip
  obtain rfl : k_2 = 0 := by have h := of_decide_eq_false hlt; omega
  refine cw_exit rfl ?_
  obtain rfl := some_inj hL
  refine cw_seq (cw_region ?_)
  refine sQ 30 (Y_move (v := vi k_1) rfl (hf.get 1 1 rfl)) ?_
  refine sQ 4 (Y_assign (v := vi k_1) rfl rfl) (rw_nil (cw_ret ?_))
  obtain rfl := some_inj hF1
  exact ret1 Tryd.results28 (v1 := vi k_1) (resAt_tmp rfl) ⟨rfl, (hS1.sN [])⟩

theorem c_laws_heldAffineS (a : List TAffine) (k_ : Int) (B : Option Addr) (c n : Nat) (w0 : World) (hn : a.length = n) (hS : ST w0 [] w0 [] [⟨B, (a.flatMap eN1)⟩]) {r_ : Int} (hF : F_laws_heldAffineS a k_ = some r_) :
  CV Tryd.prog 29 #[.slice B n c, vi k_] w0 (fun v w' => v = vi r_ ∧ ST w0 [] w' [] []) := by
 subst hn
 unfold F_laws_heldAffineS at hF
 refine cv_of_cw 31 Tryd.func29 rfl Tryd.ntmps29 rfl ?_
 refine cw_seq (cw_region ?_)
 refine sQ 4 (Y_assign (v := vi 0) rfl rfl) (rw_nil (cw_seq (cw_seq (cw_region ?_))))
 refine sQ 5 (Y_assign (v := vi 0) rfl rfl) (rw_nil ?_)
 obtain ⟨hN, hF⟩ := chk_inv hF
 obtain ⟨z, hz, hF1⟩ := bind_inv hF
 refine cw_block ?_
 refine cw_loop (fun k f w => ∃ (i1 : Nat) (k_1 : Int), FF f [(0, .slice B a.length c), (1, vi k_1), (5, vi (i1 : Int))] ∧ ST w0 [] w [] [⟨B, (a.flatMap eN1)⟩] ∧ i1 + k = a.length ∧ forX (F_laws_heldAffineS_l1 a) k i1 k_1 = some z) a.length ⟨0, k_, (FF.cons rfl (FF.cons rfl (FF.cons rfl FF.nil))), (hS.sel [] rfl rfl), Nat.zero_add _, hz⟩ ?_
 rintro k_2 f w ⟨i1, k_1, hf, hS1, hik, hL⟩
 refine cw_seq (cw_seq (cw_region ?_))
 refine sQ 6 (Y_move (v := vi (i1 : Int)) rfl (hf.get 5 2 rfl)) ?_
 refine sQ 7 (Y_move (v := .slice B a.length c) rfl (hf.get 0 0 rfl)) ?_
 refine sQ 8 (Y_len (B := B) (m := a.length) (c := c) k_sl_28_44 rfl rfl) ?_
 refine sQ 9 (Y_lt (k := .i64) (a := (i1 : Int)) (b := (a.length : Int)) rfl rfl rfl) (rw_nil ?_)
 refine cw_cond (b := (decide ((i1 : Int) < (a.length : Int)))) rfl (fun hlt => ?_) (fun hlt => ?_)
 ·skip
  have hlt1 : i1 < a.length := by have h := of_decide_eq_true hlt; omega
  obtain ⟨k_3, rfl⟩ : ∃ k2, k_2 = k2 + 1 := ⟨k_2 - 1, by omega⟩
  obtain ⟨y, hb, hL1⟩ := forX_go hL
  unfold F_laws_heldAffineS_l1 at hb
  refine cw_skip (cw_seq (cw_block (cw_seq (cw_seq (cw_region ?_)))))
  refine sQ 12 (Y_move (v := .slice B a.length c) rfl (hf.get 0 0 rfl)) ?_
  refine sQ 13 (Y_move (v := vi (i1 : Int)) rfl (hf.get 5 2 rfl)) ?_
  obtain ⟨x, hx, hb⟩ := bind_inv hb
  refine sQ 14 (Y_index (B := B) (m := a.length) (c := c) (k := .i64) (i := (i1 : Int)) k_sl_28_44 k_sz_44_2 rfl rfl rfl (gi_isSome enc_Affine_len rfl (hS1.rf (i := 0) rfl) hx) (getI_nn hx) (getI_ltI hx rfl)) ?_
  refine sQ 15 (Y_fieldAddr (B := B) (i := (i1 : Int).toNat * 2) (s := 0) k_fd_44_0_0_3 k_sz_3_1 rfl rfl) ?_
  refine sQ 16 (Y_load1 (B := B) (i := (i1 : Int).toNat * 2 + 0) (cs := (a.flatMap eN1)) (v := vi x.Mask) k_sc_3 rfl rfl (hS1.rf (i := 0) rfl) (gi_at enc_Affine_len hx rfl)) ?_
  refine sQ 17 (Y_move (v := vi k_1) rfl (hf.get 1 1 rfl)) ?_
  refine sQ 18 (Y_ne (k := .i64) (a := x.Mask) (b := k_1) rfl rfl rfl) (rw_nil ?_)
  refine cw_cond (b := (x.Mask != k_1)) rfl (fun hb1 => ?_) (fun hb1 => ?_)
  ·skip
   have hF2 := ct hb hb1
   refine cw_seq (cw_region ?_)
   refine sQ 4 (Y_assign (v := vi (-1)) rfl rfl) (rw_nil (cw_ret ?_))
   obtain rfl := some_inj hF2
   obtain rfl := some_inj hL1
   obtain rfl := some_inj hF1
   exact ret1 Tryd.results29 (v1 := vi (-1)) (resAt_tmp rfl) ⟨rfl, (hS1.sN [])⟩
  ·skip
   have hF3 := cf' hb hb1
   refine cw_skip (cw_seq (cw_region ?_))
   refine sQ 19 (Y_move (v := vi k_1) rfl (hf.get 1 1 rfl)) ?_
   refine sQ 20 (Y_add (k := .i64) (a := k_1) (b := 1) rfl rfl rfl) ?_
   refine sQ 1 (Y_assign (v := vi (i64.wrap (k_1 + 1))) rfl rfl) (rw_nil (cw_seq (cw_seq (cw_region ?_))))
   refine sQ 21 (Y_move (v := .slice B a.length c) rfl (hf.get 0 0 rfl)) ?_
   refine sQ 22 (Y_move (v := vi (i1 : Int)) rfl (hf.get 5 2 rfl)) ?_
   refine sQ 23 (Y_index (B := B) (m := a.length) (c := c) (k := .i64) (i := (i1 : Int)) k_sl_28_44 k_sz_44_2 rfl rfl rfl (gi_isSome enc_Affine_len rfl (hS1.rf (i := 0) rfl) hx) (getI_nn hx) (getI_ltI hx rfl)) ?_
   refine sQ 24 (Y_fieldAddr (B := B) (i := (i1 : Int).toNat * 2) (s := 0) k_fd_44_1_1_3 k_sz_3_1 rfl rfl) ?_
   refine sQ 25 (Y_load1 (B := B) (i := (i1 : Int).toNat * 2 + 1) (cs := (a.flatMap eN1)) (v := vi x.Turn) k_sc_3 rfl rfl (hS1.rf (i := 0) rfl) (gi_at enc_Affine_len hx rfl)) ?_
   refine sQ 26 (Y_move (v := vi (i64.wrap (k_1 + 1))) rfl rfl) ?_
   refine sQ 27 (Y_ne (k := .i64) (a := x.Turn) (b := (i64.wrap (k_1 + 1))) rfl rfl rfl) (rw_nil ?_)
   refine cw_cond (b := (x.Turn != (i64.wrap (k_1 + 1)))) rfl (fun hb2 => ?_) (fun hb2 => ?_)
   ·skip
    have hF4 := ct hF3 hb2
    refine cw_seq (cw_region ?_)
    refine sQ 4 (Y_assign (v := vi (-1)) rfl rfl) (rw_nil (cw_ret ?_))
    obtain rfl := some_inj hF4
    obtain rfl := some_inj hL1
    obtain rfl := some_inj hF1
    exact ret1 Tryd.results29 (v1 := vi (-1)) (resAt_tmp rfl) ⟨rfl, (hS1.sN [])⟩
   ·skip
    have hF5 := cf' hF3 hb2
    refine cw_skip (cw_region ?_)
    refine sQ 28 (Y_move (v := vi (i64.wrap (k_1 + 1))) rfl rfl) ?_
    refine sQ 29 (Y_add (k := .i64) (a := (i64.wrap (k_1 + 1))) (b := 1) rfl rfl rfl) ?_
    refine sQ 1 (Y_assign (v := vi (i64.wrap ((i64.wrap (k_1 + 1)) + 1))) rfl rfl) (rw_nil (cw_region ?_))
    refine sQ 10 (Y_move (v := vi (i1 : Int)) rfl (hf.get 5 2 rfl)) ?_
    refine sQ 11 (Y_add (k := .i64) (a := (i1 : Int)) (b := 1) rfl rfl rfl) ?_
    refine sQ 5 (Y_assign (v := vi (i64.wrap ((i1 : Int) + 1))) rfl rfl) (rw_nil ?_)
    obtain rfl := some_inj hF5
    exact ⟨k_3, Nat.lt_succ_self _, i1 + 1, (i64.wrap ((i64.wrap (k_1 + 1)) + 1)), (FF.cons (hf.get 0 0 rfl) (FF.cons rfl (FF.cons (congrArg (Value.int .i64) (wr_succ hlt1 hN)) FF.nil))), (hS1.sel [] rfl rfl), (by omega), hL1⟩
 ·skip
  obtain rfl : k_2 = 0 := by have h := of_decide_eq_false hlt; omega
  refine cw_exit rfl ?_
  obtain rfl := some_inj hL
  refine cw_seq (cw_region ?_)
  refine sQ 30 (Y_move (v := vi k_1) rfl (hf.get 1 1 rfl)) ?_
  refine sQ 4 (Y_assign (v := vi k_1) rfl rfl) (rw_nil (cw_ret ?_))
  obtain rfl := some_inj hF1
  exact ret1 Tryd.results29 (v1 := vi k_1) (resAt_tmp rfl) ⟨rfl, (hS1.sN [])⟩

theorem c_laws_heldPathSum (a : TPathSum) (k_ : Int) (B : Option Addr) (c n : Nat) (B1 : Option Addr) (c1 n1 : Nat) (w0 : World) (hn : a.Terms.length = n) (hn1 : a.Out.length = n1) (hS : ST w0 [] w0 [] [⟨B, (a.Terms.flatMap eN0)⟩, ⟨B1, (a.Out.flatMap eN1)⟩]) {r_ : Int} (hF : F_laws_heldPathSum a k_ = some r_) :
  CV Tryd.prog 11 #[.agg #[vi a.Ins, vi a.Vars, vi a.Root, vi a.Phase, .slice B n c, .slice B1 n1 c1], vi k_] w0 (fun v w' => v = vi r_ ∧ ST w0 [] w' [] []) := by
 subst hn
 subst hn1
 unfold F_laws_heldPathSum at hF
 refine cv_of_cw 18 Tryd.func11 rfl Tryd.ntmps11 rfl ?_
 refine cw_seq (cw_region ?_)
 refine sS 2 (Ys_box (T := 30) (v := .agg #[vi a.Ins, vi a.Vars, vi a.Root, vi a.Phase, .slice B a.Terms.length c, .slice B1 a.Out.length c1]) (cs := [vi a.Ins, vi a.Vars, vi a.Root, vi a.Phase, .slice B a.Terms.length c, .slice B1 a.Out.length c1]) (m := 6) hS rfl rfl rfl rfl) ?_
 rintro _ w_ ⟨b, rfl, hS1⟩
 refine sQ 4 (Y_assign (v := vi 0) rfl rfl) (rw_nil (cw_seq (cw_region ?_)))
 refine sQ 5 (Y_fieldAddr (B := aD b) (i := 0) (s := 0) k_fd_30_4_4_27 k_sz_27_1 rfl rfl) ?_
 refine sQ 6 (Y_load1 (B := aD b) (i := 4) (cs := [vi a.Ins, vi a.Vars, vi a.Root, vi a.Phase, .slice B a.Terms.length c, .slice B1 a.Out.length c1]) (v := .slice B a.Terms.length c) k_sc_27 rfl rfl (hS1.cf (i := 0) rfl) rfl) ?_
 refine sQ 7 (Y_move (v := vi k_) rfl rfl) ?_
 obtain ⟨r_1, hc, hF⟩ := bind_inv hF
 refine sc 8 rfl rfl (Yc_func (g := 28) (vs := [.slice B a.Terms.length c, vi k_]) k_call_28 rfl (mc rfl (mc rfl mn)) (c_laws_heldTermS a.Terms k_ B c a.Terms.length _ rfl (hS1.inn0 [(true, 0)] rfl) hc)) ?_
 rintro _ w_1 ⟨rfl, hd⟩
 have hS2 := hS1.out00 hd
 refine sQ 1 (Y_assign (v := vi r_1) rfl rfl) (rw_nil (cw_seq (cw_seq (cw_region ?_))))
 refine sQ 9 (Y_move (v := vi r_1) rfl rfl) ?_
 refine sQ 10 (Y_lt (k := .i64) (a := r_1) (b := 0) rfl rfl rfl) (rw_nil ?_)
 refine cw_cond (b := (decide (r_1 < 0))) rfl (fun hb => ?_) (fun hb => ?_)
 ·skip
  have hF1 := ct hF hb
  refine cw_seq (cw_region ?_)
  refine sQ 4 (Y_assign (v := vi (-1)) rfl rfl) (rw_nil (cw_ret ?_))
  obtain rfl := some_inj hF1
  exact ret1 Tryd.results11 (v1 := vi (-1)) (resAt_tmp rfl) ⟨rfl, (hS2.sN [])⟩
 ·skip
  have hF2 := cf' hF hb
  refine cw_skip (cw_seq (cw_region ?_))
  refine sQ 11 (Y_fieldAddr (B := aD b) (i := 0) (s := 0) k_fd_30_5_5_28 k_sz_28_1 rfl rfl) ?_
  refine sQ 12 (Y_load1 (B := aD b) (i := 5) (cs := [vi a.Ins, vi a.Vars, vi a.Root, vi a.Phase, .slice B a.Terms.length c, .slice B1 a.Out.length c1]) (v := .slice B1 a.Out.length c1) k_sc_28 rfl rfl (hS2.cf (i := 0) rfl) rfl) ?_
  refine sQ 13 (Y_move (v := vi r_1) rfl rfl) ?_
  obtain ⟨r_2, hc1, hF2⟩ := bind_inv hF2
  refine sc 14 rfl rfl (Yc_func (g := 29) (vs := [.slice B1 a.Out.length c1, vi r_1]) k_call_29 rfl (mc rfl (mc rfl mn)) (c_laws_heldAffineS a.Out r_1 B1 c1 a.Out.length _ rfl (hS2.inn0 [(true, 1)] rfl) hc1)) ?_
  rintro _ w_2 ⟨rfl, hd1⟩
  have hS3 := hS2.out00 hd1
  refine sQ 1 (Y_assign (v := vi r_2) rfl rfl) (rw_nil (cw_seq (cw_seq (cw_region ?_))))
  refine sQ 15 (Y_move (v := vi r_2) rfl rfl) ?_
  refine sQ 16 (Y_lt (k := .i64) (a := r_2) (b := 0) rfl rfl rfl) (rw_nil ?_)
  refine cw_cond (b := (decide (r_2 < 0))) rfl (fun hb1 => ?_) (fun hb1 => ?_)
  ·skip
   have hF3 := ct hF2 hb1
   refine cw_seq (cw_region ?_)
   refine sQ 4 (Y_assign (v := vi (-1)) rfl rfl) (rw_nil (cw_ret ?_))
   obtain rfl := some_inj hF3
   exact ret1 Tryd.results11 (v1 := vi (-1)) (resAt_tmp rfl) ⟨rfl, (hS3.sN [])⟩
  ·skip
   have hF4 := cf' hF2 hb1
   refine cw_skip (cw_seq (cw_region ?_))
   refine sQ 17 (Y_move (v := vi r_2) rfl rfl) ?_
   refine sQ 4 (Y_assign (v := vi r_2) rfl rfl) (rw_nil (cw_ret ?_))
   obtain rfl := some_inj hF4
   exact ret1 Tryd.results11 (v1 := vi r_2) (resAt_tmp rfl) ⟨rfl, (hS3.sN [])⟩

theorem c_spec_l1In (n : Int) (lo : Int) (hi : Int)  (w0 : World)  (hS : ST w0 [] w0 [] []) {r_ : Bool} (hF : F_spec_l1In n lo hi = some r_) :
  CV Tryd.prog 34 #[vi n, vi lo, vi hi] w0 (fun v w' => v = .bool r_ ∧ ST w0 [] w' [] []) := by
 unfold F_spec_l1In at hF
 refine cv_of_cw 15 Tryd.func34 rfl Tryd.ntmps34 rfl ?_
 refine cw_seq (cw_region ?_)
 refine sQ 6 (Y_assign (v := .bool false) rfl rfl) (rw_nil (cw_seq (cw_region ?_)))
 refine sQ 7 (Y_move (v := vi n) rfl rfl) ?_
 refine sQ 8 (Y_move (v := vi lo) rfl rfl) ?_
 refine sQ 9 (Y_ge (k := .i64) (a := n) (b := lo) rfl rfl rfl) ?_
 refine sQ 10 (Y_move (v := .bool (decide (lo ≤ n))) rfl rfl) ?_
 refine sgq 11 (B := (decide (lo ≤ n))) (v := vi n) rfl rfl (uT_ 10) (fun hg => (Y_move (v := vi n) rfl rfl)) ?_
 refine sgq 12 (B := (decide (lo ≤ n))) (v := vi hi) rfl rfl (uT_ 10) (fun hg1 => (Y_move (v := vi hi) rfl rfl)) ?_
 refine sgq 13 (B := (decide (lo ≤ n))) (v := .bool (decide (n ≤ hi))) rfl rfl (uT_ 10) (fun hg2 => (Y_le (k := .i64) (a := n) (b := hi) rfl (gv_of (v := vi n) hg2) (gv_of (v := vi hi) hg2))) ?_
 refine sQ 14 (Y_and (b := (decide (lo ≤ n))) (z := (decide (n ≤ hi))) rfl rfl rfl rfl) ?_
 refine sQ 6 (Y_assign (v := .bool ((decide (lo ≤ n)) && (decide (n ≤ hi)))) rfl rfl) (rw_nil (cw_ret ?_))
 obtain rfl := some_inj hF
 exact ret1 Tryd.results34 (v1 := .bool ((decide (lo ≤ n)) && (decide (n ≤ hi)))) (resAt_tmp rfl) ⟨rfl, (hS.sN [])⟩

theorem c_spec_l1Set (row : Int)  (w0 : World)  (hS : ST w0 [] w0 [] []) {r_ : List Int} (hF : F_spec_l1Set row = some r_) :
  CV Tryd.prog 35 #[vi row] w0 (fun v w' => ∃ (B : Option Addr) (c : Nat), v = .slice B r_.length c ∧ ST w0 [] w' [⟨B, 3, (r_.flatMap encI), c * 1⟩] []) := by
 unfold F_spec_l1Set at hF
 refine cv_of_cw 23 Tryd.func35 rfl Tryd.ntmps35 rfl ?_
 refine cw_seq (cw_region ?_)
 refine sQ 2 (Y_assign (v := .slice none 0 0) rfl rfl) (rw_nil (cw_seq (cw_region ?_)))
 refine sQ 3 (Y_assign (v := .slice none 0 0) rfl rfl) (rw_nil (cw_seq (cw_seq (cw_region ?_))))
 refine sQ 4 (Y_assign (v := vi 0) rfl rfl) (rw_nil ?_)
 obtain ⟨z, hz, hF1⟩ := bind_inv hF
 have hS2 := hS.addNil 3
 refine cw_block ?_
 refine cw_loop (fun k f w => ∃ (out : List Int) (k_ : Int) (B1 : Option Addr) (c1 : Nat), FF f [(0, vi row), (3, .slice B1 out.length c1), (4, vi k_)] ∧ ST w0 [] w [⟨B1, 3, (out.flatMap encI), c1 * 1⟩] [] ∧ whX (F_spec_l1Set_l1 row) k (out, k_) = some z) fuel ⟨[], 0, none, 0, (FF.cons rfl (FF.cons rfl (FF.cons rfl FF.nil))), (hS2.sel [0] rfl rfl), hz⟩ ?_
 rintro k_1 f w ⟨out, k_, B1, c1, hf, hS1, hL⟩
 obtain ⟨k_2, y, rfl, hb, hL1⟩ := whX_go hL
 unfold F_spec_l1Set_l1 at hb
 refine cw_seq (cw_seq (cw_region ?_))
 refine sQ 5 (Y_move (v := vi row) rfl (hf.get 0 0 rfl)) ?_
 refine sQ 6 (Y_move (v := vi k_) rfl (hf.get 4 2 rfl)) ?_
 refine sQ 7 (Y_conv (k := .i64) (a := k_) (T := 3) (T' := 59) k_us_3 k_int_59_u64 rfl rfl) ?_
 obtain ⟨hsh, hb⟩ := chk_inv hb
 refine sQ 8 (Y_shr (k := .i64) (a := row) (k' := .u64) (b := (IntKind.u64.wrap k_)) rfl rfl rfl hsh) ?_
 refine sQ 9 (Y_gt (k := .i64) (a := (shrK .i64 row (IntKind.u64.wrap k_))) (b := 0) rfl rfl rfl) (rw_nil ?_)
 refine cw_cond (b := (decide (0 < (shrK .i64 row (IntKind.u64.wrap k_))))) rfl (fun hb1 => ?_) (fun hb1 => ?_)
 ·skip
  have hF2 := ct hb hb1
  refine cw_skip (cw_seq ?_)
  obtain ⟨z1, hz1, hF3⟩ := bind_inv hF2
  refine cw_mid (fun f w => ∃ (out1 : List Int) (B2 : Option Addr) (c2 : Nat), out1 = z1 ∧ FF f [(0, vi row), (3, .slice B2 out1.length c2), (4, vi k_)] ∧ ST w0 [] w [⟨B2, 3, (out1.flatMap encI), c2 * 1⟩] []) ?_ ?_
  ·skip
   refine cw_block (cw_seq (cw_region ?_))
   refine sQ 12 (Y_move (v := vi row) rfl (hf.get 0 0 rfl)) ?_
   refine sQ 13 (Y_move (v := vi k_) rfl (hf.get 4 2 rfl)) ?_
   refine sQ 14 (Y_conv (k := .i64) (a := k_) (T := 3) (T' := 59) k_us_3 k_int_59_u64 rfl rfl) ?_
   obtain ⟨hsh1, hz1⟩ := chk_inv hz1
   refine sQ 15 (Y_shr (k := .i64) (a := row) (k' := .u64) (b := (IntKind.u64.wrap k_)) rfl rfl rfl hsh1) ?_
   refine sQ 16 (Y_band (k := .i64) (a := (shrK .i64 row (IntKind.u64.wrap k_))) (b := 1) rfl rfl rfl) ?_
   refine sQ 17 (Y_eq (k := .i64) (a := (bits .and .i64 (shrK .i64 row (IntKind.u64.wrap k_)) 1)) (b := 1) rfl rfl rfl) (rw_nil ?_)
   refine cw_cond (b := ((bits .and .i64 (shrK .i64 row (IntKind.u64.wrap k_)) 1) == 1)) rfl (fun hb2 => ?_) (fun hb2 => ?_)
   ·skip
    have hF4 := ct hz1 hb2
    refine cw_region ?_
    refine sQ 18 (Y_move (v := .slice B1 out.length c1) rfl (hf.get 3 1 rfl)) ?_
    refine sQ 19 (Y_move (v := vi k_) rfl (hf.get 4 2 rfl)) ?_
    refine sS 20 (Ys_bslice (s := 1) (len := 1) (vs := [(0, vi k_)]) (cs := [vi k_]) (zs := [vi 0]) (m := 1) hS1 k_sl_60_3 k_sz_3_1 k_zc_3 rfl (mpc rfl mpn) rfl rfl rfl (by kernel_rfl) (by kernel_rfl) rfl) ?_
    rintro _ w_ ⟨b, rfl, hS4⟩
    obtain ⟨hap, hF4⟩ := chk_inv hF4
    refine sS 21 (Ys_append (s := 1) (by' := 8) (i := 0) (nn := out.length) (c := c1) (k := 1) (len := (out ++ [k_]).length) (B := B1) (xs := ([k_].flatMap encI)) (cs' := ((out ++ [k_]).flatMap encI)) hS4 k_sl_60_3 k_sz_3_1 k_by_3_8 k_zero_3 rfl (by decide) rfl rfl rfl rfl (fm_lenn (l := out) encI_len rfl) rfl (hS4.cf (i := 1) rfl) (fm_lenn (l := [k_]) encI_len rfl) (fm_one' (enc := encI) encI_one [k_]) (by have := hap; omega) (by have := hap; simp only [maxLen]; omega) (fm_app _ _) (app_len (l := out) (l' := [k_]) rfl rfl)) ?_
    rintro _ w_1 ⟨B3, c3, rfl, hS5⟩
    refine sQ 3 (Y_assign (v := .slice B3 ((out ++ [k_]).length) c3) rfl rfl) (rw_nil ?_)
    exact ⟨(out ++ [k_]), B3, c3, (some_inj hF4), (FF.cons (hf.get 0 0 rfl) (FF.cons rfl (FF.cons (hf.get 4 2 rfl) FF.nil))), (hS5.sel [0] rfl rfl)⟩
   ·skip
    have hF5 := cf' hz1 hb2
    refine cw_skip ?_
    exact ⟨out, B1, c1, (some_inj hF5), (FF.cons (hf.get 0 0 rfl) (FF.cons (hf.get 3 1 rfl) (FF.cons (hf.get 4 2 rfl) FF.nil))), (hS1.sel [0] rfl rfl)⟩
  rintro f w ⟨out1, B2, c2, rfl, hf1, hS3⟩
  refine cw_region ?_
  refine sQ 10 (Y_move (v := vi k_) rfl (hf1.get 4 2 rfl)) ?_
  refine sQ 11 (Y_add (k := .i64) (a := k_) (b := 1) rfl rfl rfl) ?_
  refine sQ 4 (Y_assign (v := vi (i64.wrap (k_ + 1))) rfl rfl) (rw_nil ?_)
  obtain rfl := some_inj hF3
  exact ⟨k_2, Nat.lt_succ_self _, out1, (i64.wrap (k_ + 1)), B2, c2, (FF.cons (hf1.get 0 0 rfl) (FF.cons (hf1.get 3 1 rfl) (FF.cons rfl FF.nil))), (hS3.sel [0] rfl rfl), hL1⟩
 ·skip
  have hF6 := cf' hb hb1
  refine cw_exit rfl ?_
  obtain rfl := some_inj hF6
  obtain rfl := some_inj hL1
  refine cw_seq (cw_region ?_)
  refine sQ 22 (Y_move (v := .slice B1 out.length c1) rfl (hf.get 3 1 rfl)) ?_
  refine sQ 2 (Y_assign (v := .slice B1 out.length c1) rfl rfl) (rw_nil (cw_ret ?_))
  obtain rfl := some_inj hF1
  exact ret1 Tryd.results35 (v1 := .slice B1 out.length c1) (resAt_tmp rfl) ⟨B1, c1, rfl, (hS1.sN [0])⟩

theorem c_spec_l21Valid (p : TPathSum) (B : Option Addr) (c n : Nat) (B1 : Option Addr) (c1 n1 : Nat) (w0 : World) (hn : p.Terms.length = n) (hn1 : p.Out.length = n1) (hS : ST w0 [] w0 [] [⟨B, (p.Terms.flatMap eN0)⟩, ⟨B1, (p.Out.flatMap eN1)⟩]) {r_ : Bool} (hF : F_spec_l21Valid p = some r_) :
  CV Tryd.prog 16 #[.agg #[vi p.Ins, vi p.Vars, vi p.Root, vi p.Phase, .slice B n c, .slice B1 n1 c1]] w0 (fun v w' => v = .bool r_ ∧ ST w0 [] w' [] []) := by
 subst hn
 subst hn1
 unfold F_spec_l21Valid at hF
 refine cv_of_cw 124 Tryd.func16 rfl Tryd.ntmps16 rfl ?_
 refine cw_seq (cw_region ?_)
 refine sS 1 (Ys_box (T := 30) (v := .agg #[vi p.Ins, vi p.Vars, vi p.Root, vi p.Phase, .slice B p.Terms.length c, .slice B1 p.Out.length c1]) (cs := [vi p.Ins, vi p.Vars, vi p.Root, vi p.Phase, .slice B p.Terms.length c, .slice B1 p.Out.length c1]) (m := 6) hS rfl rfl rfl rfl) ?_
 rintro _ w_ ⟨b, rfl, hS1⟩
 refine sQ 2 (Y_assign (v := .bool false) rfl rfl) (rw_nil (cw_seq (cw_region ?_)))
 refine sQ 9 (Y_fieldAddr (B := aD b) (i := 0) (s := 0) k_fd_30_0_0_3 k_sz_3_1 rfl rfl) ?_
 refine sQ 10 (Y_load1 (B := aD b) (i := 0) (cs := [vi p.Ins, vi p.Vars, vi p.Root, vi p.Phase, .slice B p.Terms.length c, .slice B1 p.Out.length c1]) (v := vi p.Ins) k_sc_3 rfl rfl (hS1.cf (i := 0) rfl) rfl) ?_
 refine sQ 11 (Y_fieldAddr (B := aD b) (i := 0) (s := 0) k_fd_30_1_1_3 k_sz_3_1 rfl rfl) ?_
 refine sQ 12 (Y_load1 (B := aD b) (i := 1) (cs := [vi p.Ins, vi p.Vars, vi p.Root, vi p.Phase, .slice B p.Terms.length c, .slice B1 p.Out.length c1]) (v := vi p.Vars) k_sc_3 rfl rfl (hS1.cf (i := 0) rfl) rfl) ?_
 refine sQ 13 (Y_add (k := .i64) (a := p.Ins) (b := p.Vars) rfl rfl rfl) ?_
 refine sQ 3 (Y_assign (v := vi (i64.wrap (p.Ins + p.Vars))) rfl rfl) (rw_nil (cw_seq (cw_seq (cw_region ?_))))
 refine sQ 14 (Y_fieldAddr (B := aD b) (i := 0) (s := 0) k_fd_30_0_0_3 k_sz_3_1 rfl rfl) ?_
 refine sQ 15 (Y_load1 (B := aD b) (i := 0) (cs := [vi p.Ins, vi p.Vars, vi p.Root, vi p.Phase, .slice B p.Terms.length c, .slice B1 p.Out.length c1]) (v := vi p.Ins) k_sc_3 rfl rfl (hS1.cf (i := 0) rfl) rfl) ?_
 obtain ⟨r_1, hc, hF⟩ := bind_inv hF
 refine sc 16 rfl rfl (Yc_func (g := 34) (vs := [vi p.Ins, vi 1, vi 5]) k_call_34 rfl (mc rfl (mc rfl (mc rfl mn))) (c_spec_l1In p.Ins 1 5 _  (hS1.inn0 [] rfl) hc)) ?_
 rintro _ w_1 ⟨rfl, hd⟩
 have hS2 := hS1.out00 hd
 refine sQ 17 (Y_not (p := r_1) rfl rfl) ?_
 refine sQ 18 (Y_move (v := .bool (!r_1)) rfl rfl) ?_
 refine sgq 19 (B := (!(!r_1))) (v := pt (aD b) 1) rfl rfl (uF_ 18) (fun hg => (Y_fieldAddr (B := aD b) (i := 0) (s := 0) k_fd_30_1_1_3 k_sz_3_1 rfl rfl)) ?_
 refine sgq 20 (B := (!(!r_1))) (v := vi p.Vars) rfl rfl (uF_ 18) (fun hg1 => (Y_load1 (B := aD b) (i := 1) (cs := [vi p.Ins, vi p.Vars, vi p.Root, vi p.Phase, .slice B p.Terms.length c, .slice B1 p.Out.length c1]) (v := vi p.Vars) k_sc_3 rfl (gv_of (v := pt (aD b) 1) hg1) (hS2.cf (i := 0) rfl) rfl)) ?_
 refine sgq 21 (B := (!(!r_1))) (v := pt (aD b) 0) rfl rfl (uF_ 18) (fun hg2 => (Y_fieldAddr (B := aD b) (i := 0) (s := 0) k_fd_30_0_0_3 k_sz_3_1 rfl rfl)) ?_
 refine sgq 22 (B := (!(!r_1))) (v := vi p.Ins) rfl rfl (uF_ 18) (fun hg3 => (Y_load1 (B := aD b) (i := 0) (cs := [vi p.Ins, vi p.Vars, vi p.Root, vi p.Phase, .slice B p.Terms.length c, .slice B1 p.Out.length c1]) (v := vi p.Ins) k_sc_3 rfl (gv_of (v := pt (aD b) 0) hg3) (hS2.cf (i := 0) rfl) rfl)) ?_
 refine sgq 23 (B := (!(!r_1))) (v := vi (i64.wrap (24 - p.Ins))) rfl rfl (uF_ 18) (fun hg4 => (Y_sub (k := .i64) (a := 24) (b := p.Ins) rfl rfl (gv_of (v := vi p.Ins) hg4))) ?_
 obtain ⟨r_2, hc1, hF⟩ := bind_inv hF
 refine sgc 24 (B := (!(!r_1))) (v := .bool r_2) (F := hS2.fn) rfl rfl (uF_ 18) hS2 (fun hg5 => (Yc_func (g := 34) (vs := [vi p.Vars, vi 0, vi (i64.wrap (24 - p.Ins))]) k_call_34 rfl (mc (gv_of (v := vi p.Vars) hg5) (mc rfl (mc (gv_of (v := vi (i64.wrap (24 - p.Ins))) hg5) mn))) (CV.mono (c_spec_l1In p.Vars 0 (i64.wrap (24 - p.Ins)) _  (hS2.inn0 [] rfl) (gb_inv hc1 hg5)) (by rintro _ _ ⟨rfl, h⟩; exact ⟨rfl, hS2.out00 h⟩)))) ?_
 rintro w_2 hS3
 refine sgq 25 (B := (!(!r_1))) (v := .bool (!r_2)) rfl rfl (uF_ 18) (fun hg6 => (Y_not (p := r_2) rfl (gv_of (v := .bool r_2) hg6))) ?_
 refine sQ 26 (Y_or (b := (!r_1)) (z := (!r_2)) rfl rfl rfl rfl) ?_
 refine sQ 27 (Y_move (v := .bool ((!r_1) || (!r_2))) rfl rfl) ?_
 refine sgq 28 (B := (!((!r_1) || (!r_2)))) (v := pt (aD b) 2) rfl rfl (uF_ 27) (fun hg7 => (Y_fieldAddr (B := aD b) (i := 0) (s := 0) k_fd_30_2_2_3 k_sz_3_1 rfl rfl)) ?_
 refine sgq 29 (B := (!((!r_1) || (!r_2)))) (v := vi p.Root) rfl rfl (uF_ 27) (fun hg8 => (Y_load1 (B := aD b) (i := 2) (cs := [vi p.Ins, vi p.Vars, vi p.Root, vi p.Phase, .slice B p.Terms.length c, .slice B1 p.Out.length c1]) (v := vi p.Root) k_sc_3 rfl (gv_of (v := pt (aD b) 2) hg8) (hS3.cf (i := 0) rfl) rfl)) ?_
 obtain ⟨r_3, hc2, hF⟩ := bind_inv hF
 refine sgc 30 (B := (!((!r_1) || (!r_2)))) (v := .bool r_3) (F := hS3.fn) rfl rfl (uF_ 27) hS3 (fun hg9 => (Yc_func (g := 34) (vs := [vi p.Root, vi (-60), vi 60]) k_call_34 rfl (mc (gv_of (v := vi p.Root) hg9) (mc rfl (mc rfl mn))) (CV.mono (c_spec_l1In p.Root (-60) 60 _  (hS3.inn0 [] rfl) (gb_inv hc2 hg9)) (by rintro _ _ ⟨rfl, h⟩; exact ⟨rfl, hS3.out00 h⟩)))) ?_
 rintro w_3 hS4
 refine sgq 31 (B := (!((!r_1) || (!r_2)))) (v := .bool (!r_3)) rfl rfl (uF_ 27) (fun hg10 => (Y_not (p := r_3) rfl (gv_of (v := .bool r_3) hg10))) ?_
 refine sQ 32 (Y_or (b := ((!r_1) || (!r_2))) (z := (!r_3)) rfl rfl rfl rfl) ?_
 refine sQ 33 (Y_move (v := .bool (((!r_1) || (!r_2)) || (!r_3))) rfl rfl) ?_
 refine sgq 34 (B := (!(((!r_1) || (!r_2)) || (!r_3)))) (v := pt (aD b) 3) rfl rfl (uF_ 33) (fun hg11 => (Y_fieldAddr (B := aD b) (i := 0) (s := 0) k_fd_30_3_3_3 k_sz_3_1 rfl rfl)) ?_
 refine sgq 35 (B := (!(((!r_1) || (!r_2)) || (!r_3)))) (v := vi p.Phase) rfl rfl (uF_ 33) (fun hg12 => (Y_load1 (B := aD b) (i := 3) (cs := [vi p.Ins, vi p.Vars, vi p.Root, vi p.Phase, .slice B p.Terms.length c, .slice B1 p.Out.length c1]) (v := vi p.Phase) k_sc_3 rfl (gv_of (v := pt (aD b) 3) hg12) (hS4.cf (i := 0) rfl) rfl)) ?_
 obtain ⟨r_4, hc3, hF⟩ := bind_inv hF
 refine sgc 36 (B := (!(((!r_1) || (!r_2)) || (!r_3)))) (v := .bool r_4) (F := hS4.fn) rfl rfl (uF_ 33) hS4 (fun hg13 => (Yc_func (g := 34) (vs := [vi p.Phase, vi 0, vi 7]) k_call_34 rfl (mc (gv_of (v := vi p.Phase) hg13) (mc rfl (mc rfl mn))) (CV.mono (c_spec_l1In p.Phase 0 7 _  (hS4.inn0 [] rfl) (gb_inv hc3 hg13)) (by rintro _ _ ⟨rfl, h⟩; exact ⟨rfl, hS4.out00 h⟩)))) ?_
 rintro w_4 hS5
 refine sgq 37 (B := (!(((!r_1) || (!r_2)) || (!r_3)))) (v := .bool (!r_4)) rfl rfl (uF_ 33) (fun hg14 => (Y_not (p := r_4) rfl (gv_of (v := .bool r_4) hg14))) ?_
 refine sQ 38 (Y_or (b := (((!r_1) || (!r_2)) || (!r_3))) (z := (!r_4)) rfl rfl rfl rfl) ?_
 refine sQ 39 (Y_move (v := .bool ((((!r_1) || (!r_2)) || (!r_3)) || (!r_4))) rfl rfl) ?_
 refine sgq 40 (B := (!((((!r_1) || (!r_2)) || (!r_3)) || (!r_4)))) (v := pt (aD b) 5) rfl rfl (uF_ 39) (fun hg15 => (Y_fieldAddr (B := aD b) (i := 0) (s := 0) k_fd_30_5_5_28 k_sz_28_1 rfl rfl)) ?_
 refine sgq 41 (B := (!((((!r_1) || (!r_2)) || (!r_3)) || (!r_4)))) (v := .slice B1 p.Out.length c1) rfl rfl (uF_ 39) (fun hg16 => (Y_load1 (B := aD b) (i := 5) (cs := [vi p.Ins, vi p.Vars, vi p.Root, vi p.Phase, .slice B p.Terms.length c, .slice B1 p.Out.length c1]) (v := .slice B1 p.Out.length c1) k_sc_28 rfl (gv_of (v := pt (aD b) 5) hg16) (hS5.cf (i := 0) rfl) rfl)) ?_
 refine sgq 42 (B := (!((((!r_1) || (!r_2)) || (!r_3)) || (!r_4)))) (v := vi (p.Out.length : Int)) rfl rfl (uF_ 39) (fun hg17 => (Y_len (B := B1) (m := p.Out.length) (c := c1) k_sl_28_44 rfl (gv_of (v := .slice B1 p.Out.length c1) hg17))) ?_
 refine sgq 43 (B := (!((((!r_1) || (!r_2)) || (!r_3)) || (!r_4)))) (v := pt (aD b) 0) rfl rfl (uF_ 39) (fun hg18 => (Y_fieldAddr (B := aD b) (i := 0) (s := 0) k_fd_30_0_0_3 k_sz_3_1 rfl rfl)) ?_
 refine sgq 44 (B := (!((((!r_1) || (!r_2)) || (!r_3)) || (!r_4)))) (v := vi p.Ins) rfl rfl (uF_ 39) (fun hg19 => (Y_load1 (B := aD b) (i := 0) (cs := [vi p.Ins, vi p.Vars, vi p.Root, vi p.Phase, .slice B p.Terms.length c, .slice B1 p.Out.length c1]) (v := vi p.Ins) k_sc_3 rfl (gv_of (v := pt (aD b) 0) hg19) (hS5.cf (i := 0) rfl) rfl)) ?_
 refine sgq 45 (B := (!((((!r_1) || (!r_2)) || (!r_3)) || (!r_4)))) (v := .bool ((p.Out.length : Int) != p.Ins)) rfl rfl (uF_ 39) (fun hg20 => (Y_ne (k := .i64) (a := (p.Out.length : Int)) (b := p.Ins) rfl (gv_of (v := vi (p.Out.length : Int)) hg20) (gv_of (v := vi p.Ins) hg20))) ?_
 refine sQ 46 (Y_or (b := ((((!r_1) || (!r_2)) || (!r_3)) || (!r_4))) (z := ((p.Out.length : Int) != p.Ins)) rfl rfl rfl rfl) (rw_nil ?_)
 refine cw_cond (b := (((((!r_1) || (!r_2)) || (!r_3)) || (!r_4)) || ((p.Out.length : Int) != p.Ins))) rfl (fun hb => ?_) (fun hb => ?_)
 ·skip
  have hF1 := ct hF hb
  refine cw_seq (cw_region ?_)
  refine sQ 2 (Y_assign (v := .bool false) rfl rfl) (rw_nil (cw_ret ?_))
  obtain rfl := some_inj hF1
  exact ret1 Tryd.results16 (v1 := .bool false) (resAt_tmp rfl) ⟨rfl, (hS5.sN [])⟩
 ·skip
  have hF2 := cf' hF hb
  refine cw_skip (cw_seq (cw_seq (cw_region ?_)))
  refine sQ 47 (Y_fieldAddr (B := aD b) (i := 0) (s := 0) k_fd_30_4_4_27 k_sz_27_1 rfl rfl) ?_
  refine sQ 48 (Y_load1 (B := aD b) (i := 4) (cs := [vi p.Ins, vi p.Vars, vi p.Root, vi p.Phase, .slice B p.Terms.length c, .slice B1 p.Out.length c1]) (v := .slice B p.Terms.length c) k_sc_27 rfl rfl (hS5.cf (i := 0) rfl) rfl) ?_
  refine sQ 49 (Y_len (B := B) (m := p.Terms.length) (c := c) k_sl_27_56 rfl rfl) ?_
  refine sQ 50 (Y_move (v := vi 0) rfl rfl) (rw_nil ?_)
  obtain ⟨hN, hF2⟩ := chk_inv hF2
  obtain ⟨z, hz, hF3⟩ := bind_inv hF2
  refine cw_block ?_
  refine cw_loop (fun k f w => ∃ (i : Nat), FF f [(1, pt (aD b) 0), (3, vi (i64.wrap (p.Ins + p.Vars))), (48, .slice B p.Terms.length c), (49, vi (p.Terms.length : Int)), (50, vi (i : Int))] ∧ ST w0 [] w [⟨aD b, 30, [vi p.Ins, vi p.Vars, vi p.Root, vi p.Phase, .slice B p.Terms.length c, .slice B1 p.Out.length c1], 6⟩] [⟨B, (p.Terms.flatMap eN0)⟩, ⟨B1, (p.Out.flatMap eN1)⟩] ∧ i + k = p.Terms.length ∧ forX (F_spec_l21Valid_l1 p) k i () = some z) p.Terms.length ⟨0, (FF.cons rfl (FF.cons rfl (FF.cons rfl (FF.cons rfl (FF.cons rfl FF.nil))))), (hS5.sel [0] rfl rfl), Nat.zero_add _, hz⟩ ?_
  rintro k_ f w ⟨i, hf, hS6, hik, hL⟩
  refine cw_seq (cw_region ?_)
  refine sQ 51 (Y_lt (k := .i64) (a := (i : Int)) (b := (p.Terms.length : Int)) rfl (hf.get 50 4 rfl) (hf.get 49 3 rfl)) (rw_nil (cw_seq ?_))
  refine cw_cond (b := (decide ((i : Int) < (p.Terms.length : Int)))) rfl (fun hlt => ?_) (fun hlt => ?_)
  ·skip
   have hlt1 : i < p.Terms.length := by have h := of_decide_eq_true hlt; omega
   obtain ⟨k_1, rfl⟩ : ∃ k2, k_ = k2 + 1 := ⟨k_ - 1, by omega⟩
   obtain ⟨y, hb1, hL1⟩ := forX_go hL
   unfold F_spec_l21Valid_l1 at hb1
   refine cw_skip (cw_seq (cw_block (cw_seq (cw_region ?_))))
   refine sQ 52 (Y_move (v := vi (i : Int)) rfl (hf.get 50 4 rfl)) ?_
   obtain ⟨x, hx, hb1⟩ := bind_inv hb1
   refine sQ 53 (Y_index (B := B) (m := p.Terms.length) (c := c) (k := .i64) (i := (i : Int)) k_sl_27_56 k_sz_56_2 rfl (hf.get 48 2 rfl) (hf.get 50 4 rfl) (gi_isSome eN2 rfl (hS6.rf (i := 0) rfl) hx) (getI_nn hx) (getI_ltI hx rfl)) ?_
   refine sQ 54 (Y_loadA (B := B) (i := (i : Int).toNat * 2) (cs := (p.Terms.flatMap eN0)) (vs := [vi x.Mask, vi x.Coef]) k_ag_56 k_sz_56_2 rfl rfl (hS6.rf (i := 0) rfl) (eN2 x) (gi_seg eN2 hx)) ?_
   refine sS 5 (Ys_alloc (T := 56) (cs := [vi 0, vi 0]) (m := 2) hS6 k_zero_56 rfl rfl rfl) ?_
   rintro _ w_5 ⟨b1, rfl, hS7⟩
   refine sQ 4 (Y_assign (v := vi (i : Int)) rfl rfl) ?_
   refine s0 (Ys_store (i := 1) (s := 2) (B := aD b1) (T' := 56) (v := .agg #[vi x.Mask, vi x.Coef]) (vs := [vi x.Mask, vi x.Coef]) (k := 0) (cs' := [vi x.Mask, vi x.Coef]) hS7 k_sz_56_2 rfl rfl rfl rfl rfl rfl rfl (lB rfl) rfl rfl) ?_
   rintro _ w_6 ⟨rfl, hS8⟩
   refine rw_nil (cw_seq (cw_seq ?_))
   obtain ⟨hsh, hb1⟩ := chk_inv hb1
   obtain ⟨r_5, hc4, hb1⟩ := bind_inv hb1
   obtain ⟨r_6, hc5, hb1⟩ := bind_inv hb1
   obtain ⟨x1, hx1, hb1⟩ := bind_inv hb1
   refine ra_start (hS8.se [0, 1]).fn (by kernel_rfl) ?_
   have hS11 := hS8.drew
   refine rq 0 55 (v := pt (aD b1) 0) rfl (hS11.se [0, 1]) (fun w' hw' => (Y_fieldAddr (B := aD b1) (i := 0) (s := 0) k_fd_56_0_0_3 k_sz_3_1 rfl rfl)) ?_
   refine rq 1 56 (v := vi x.Mask) rfl (hS11.se [0, 1]) (fun w' hw' => (Y_load1 (B := aD b1) (i := 0) (cs := [vi x.Mask, vi x.Coef]) (v := vi x.Mask) k_sc_3 rfl rfl (ST.cf hw' (i := 1) rfl) rfl)) ?_
   refine rq 2 57 (v := vi (i64.wrap (p.Ins + p.Vars))) rfl (hS11.se [0, 1]) (fun w' hw' => (Y_move (v := vi (i64.wrap (p.Ins + p.Vars))) rfl (hf.get 3 1 rfl))) ?_
   refine rq 3 58 (v := .int .u64 (IntKind.u64.wrap (i64.wrap (p.Ins + p.Vars)))) rfl (hS11.se [0, 1]) (fun w' hw' => (Y_conv (k := .i64) (a := (i64.wrap (p.Ins + p.Vars))) (T := 3) (T' := 59) k_us_3 k_int_59_u64 rfl rfl)) ?_
   refine rq 4 59 (v := vi (shlK .i64 1 (IntKind.u64.wrap (i64.wrap (p.Ins + p.Vars))))) rfl (hS11.se [0, 1]) (fun w' hw' => (Y_shl (k := .i64) (a := 1) (k' := .u64) (b := (IntKind.u64.wrap (i64.wrap (p.Ins + p.Vars)))) rfl rfl rfl hsh)) ?_
   refine rq 5 60 (v := vi (i64.wrap ((shlK .i64 1 (IntKind.u64.wrap (i64.wrap (p.Ins + p.Vars)))) - 1))) rfl (hS11.se [0, 1]) (fun w' hw' => (Y_sub (k := .i64) (a := (shlK .i64 1 (IntKind.u64.wrap (i64.wrap (p.Ins + p.Vars))))) (b := 1) rfl rfl rfl)) ?_
   refine rA [6] ?_
   refine ra_c 61 (i := 6) rfl rfl rfl (Yc_func (g := 34) (vs := [vi x.Mask, vi 1, vi (i64.wrap ((shlK .i64 1 (IntKind.u64.wrap (i64.wrap (p.Ins + p.Vars)))) - 1))]) k_call_34 rfl (mc rfl (mc rfl (mc rfl mn))) (c_spec_l1In x.Mask 1 (i64.wrap ((shlK .i64 1 (IntKind.u64.wrap (i64.wrap (p.Ins + p.Vars)))) - 1)) _  (hS11.inn0 [] rfl) hc4)) ?_ ?_
   ·rintro _ w_7 ⟨rfl, hd1⟩
    have hS12 := hS11.out00 hd1
    refine ⟨(hS12.se [0, 1]), ?_⟩
    refine rq 7 62 (v := .bool (!r_5)) rfl (hS12.se [0, 1]) (fun w' hw' => (Y_not (p := r_5) rfl rfl)) ?_
    refine rq 8 63 (v := .bool (!r_5)) rfl (hS12.se [0, 1]) (fun w' hw' => (Y_move (v := .bool (!r_5)) rfl rfl)) ?_
    refine ra_gq 9 64 (B := (!(!r_5))) (v := pt (aD b1) 1) rfl rfl rfl (uF_ 63) (by kernel_rfl) (by kernel_rfl) (by kernel_rfl) (hS12.se [0, 1]) (fun hg21 w' hw' => (Y_fieldAddr (B := aD b1) (i := 0) (s := 0) k_fd_56_1_1_3 k_sz_3_1 rfl rfl)) ?_
    refine ra_gq 10 65 (B := (!(!r_5))) (v := vi x.Coef) rfl rfl rfl (uF_ 63) (by kernel_rfl) (by kernel_rfl) (by kernel_rfl) (hS12.se [0, 1]) (fun hg22 w' hw' => (Y_load1 (B := aD b1) (i := 1) (cs := [vi x.Mask, vi x.Coef]) (v := vi x.Coef) k_sc_3 rfl (gv_of (v := pt (aD b1) 1) hg22) (ST.cf hw' (i := 1) rfl) rfl)) ?_
    refine rA [11] ?_
    refine ra_gc 66 (i := 11) (B := (!(!r_5))) (v := .bool r_6) (F := hS12.fn) rfl rfl rfl (uF_ 63) hS12 (fun hg23 => (Yc_func (g := 34) (vs := [vi x.Coef, vi 1, vi 7]) k_call_34 rfl (mc (gv_of (v := vi x.Coef) hg23) (mc rfl (mc rfl mn))) (CV.mono (c_spec_l1In x.Coef 1 7 _  (hS12.inn0 [] rfl) (gb_inv hc5 hg23)) (by rintro _ _ ⟨rfl, h⟩; exact ⟨rfl, hS12.out00 h⟩)))) ?_ ?_
    ·rintro w_8 hS13
     refine ⟨(hS13.se [0, 1]), ?_⟩
     refine ra_gq 12 67 (B := (!(!r_5))) (v := .bool (!r_6)) rfl rfl rfl (uF_ 63) (by kernel_rfl) (by kernel_rfl) (by kernel_rfl) (hS13.se [0, 1]) (fun hg24 w' hw' => (Y_not (p := r_6) rfl (gv_of (v := .bool r_6) hg24))) ?_
     refine rq 13 68 (v := .bool ((!r_5) || (!r_6))) rfl (hS13.se [0, 1]) (fun w' hw' => (Y_or (b := (!r_5)) (z := (!r_6)) rfl rfl rfl rfl)) ?_
     refine rq 14 69 (v := .bool ((!r_5) || (!r_6))) rfl (hS13.se [0, 1]) (fun w' hw' => (Y_move (v := .bool ((!r_5) || (!r_6))) rfl rfl)) ?_
     refine ra_gq 15 70 (B := (!((!r_5) || (!r_6)))) (v := vi (i : Int)) rfl rfl rfl (uF_ 69) (by kernel_rfl) (by kernel_rfl) (by kernel_rfl) (hS13.se [0, 1]) (fun hg25 w' hw' => (Y_move (v := vi (i : Int)) rfl rfl)) ?_
     refine ra_gq 16 71 (B := (!((!r_5) || (!r_6)))) (v := .bool (decide (0 < (i : Int)))) rfl rfl rfl (uF_ 69) (by kernel_rfl) (by kernel_rfl) (by kernel_rfl) (hS13.se [0, 1]) (fun hg26 w' hw' => (Y_gt (k := .i64) (a := (i : Int)) (b := 0) rfl (gv_of (v := vi (i : Int)) hg26) rfl)) ?_
     refine ra_gq 17 72 (B := (!((!r_5) || (!r_6)))) (v := .bool (decide (0 < (i : Int)))) rfl rfl rfl (uF_ 69) (by kernel_rfl) (by kernel_rfl) (by kernel_rfl) (hS13.se [0, 1]) (fun hg27 w' hw' => (Y_move (v := .bool (decide (0 < (i : Int)))) rfl (gv_of (v := .bool (decide (0 < (i : Int)))) hg27))) ?_
     refine ra_gq 18 73 (B := ((!((!r_5) || (!r_6))) && (decide (0 < (i : Int))))) (v := pt (aD b) 4) rfl rfl rfl (wt_gt (gd_of (t := 72) (by kernel_rfl) rfl)) (by kernel_rfl) (by kernel_rfl) (by kernel_rfl) (hS13.se [0, 1]) (fun hg28 w' hw' => (Y_fieldAddr (B := aD b) (i := 0) (s := 0) k_fd_30_4_4_27 k_sz_27_1 rfl (hf.get 1 0 rfl))) ?_
     refine ra_gq 19 74 (B := ((!((!r_5) || (!r_6))) && (decide (0 < (i : Int))))) (v := .slice B p.Terms.length c) rfl rfl rfl (wt_gt (gd_of (t := 72) (by kernel_rfl) rfl)) (by kernel_rfl) (by kernel_rfl) (by kernel_rfl) (hS13.se [0, 1]) (fun hg29 w' hw' => (Y_load1 (B := aD b) (i := 4) (cs := [vi p.Ins, vi p.Vars, vi p.Root, vi p.Phase, .slice B p.Terms.length c, .slice B1 p.Out.length c1]) (v := .slice B p.Terms.length c) k_sc_27 rfl (gv_of (v := pt (aD b) 4) hg29) (ST.cf hw' (i := 0) rfl) rfl)) ?_
     refine ra_gq 20 75 (B := ((!((!r_5) || (!r_6))) && (decide (0 < (i : Int))))) (v := vi (i : Int)) rfl rfl rfl (wt_gt (gd_of (t := 72) (by kernel_rfl) rfl)) (by kernel_rfl) (by kernel_rfl) (by kernel_rfl) (hS13.se [0, 1]) (fun hg30 w' hw' => (Y_move (v := vi (i : Int)) rfl rfl)) ?_
     refine ra_gq 21 76 (B := ((!((!r_5) || (!r_6))) && (decide (0 < (i : Int))))) (v := vi (i64.wrap ((i : Int) - 1))) rfl rfl rfl (wt_gt (gd_of (t := 72) (by kernel_rfl) rfl)) (by kernel_rfl) (by kernel_rfl) (by kernel_rfl) (hS13.se [0, 1]) (fun hg31 w' hw' => (Y_sub (k := .i64) (a := (i : Int)) (b := 1) rfl (gv_of (v := vi (i : Int)) hg31) rfl)) ?_
     refine ra_gq 22 77 (B := ((!((!r_5) || (!r_6))) && (decide (0 < (i : Int))))) (v := pt B ((i64.wrap ((i : Int) - 1)).toNat * 2)) rfl rfl rfl (wt_gt (gd_of (t := 72) (by kernel_rfl) rfl)) (by kernel_rfl) (by kernel_rfl) (by kernel_rfl) (hS13.se [0, 1]) (fun hg32 w' hw' => (Y_index (B := B) (m := p.Terms.length) (c := c) (k := .i64) (i := (i64.wrap ((i : Int) - 1))) k_sl_27_56 k_sz_56_2 rfl (gv_of (v := .slice B p.Terms.length c) hg32) (gv_of (v := vi (i64.wrap ((i : Int) - 1))) hg32) (gi_isSome eN2 rfl (ST.rf hw' (i := 0) rfl) (gb_inv hx1 hg32)) (getI_nn (gb_inv hx1 hg32)) (getI_ltI (gb_inv hx1 hg32) rfl))) ?_
     refine ra_gq 23 78 (B := ((!((!r_5) || (!r_6))) && (decide (0 < (i : Int))))) (v := pt B ((i64.wrap ((i : Int) - 1)).toNat * 2 + 0)) rfl rfl rfl (wt_gt (gd_of (t := 72) (by kernel_rfl) rfl)) (by kernel_rfl) (by kernel_rfl) (by kernel_rfl) (hS13.se [0, 1]) (fun hg33 w' hw' => (Y_fieldAddr (B := B) (i := (i64.wrap ((i : Int) - 1)).toNat * 2) (s := 0) k_fd_56_0_0_3 k_sz_3_1 rfl (gv_of (v := pt B ((i64.wrap ((i : Int) - 1)).toNat * 2)) hg33))) ?_
     refine ra_gq 24 79 (B := ((!((!r_5) || (!r_6))) && (decide (0 < (i : Int))))) (v := vi x1.Mask) rfl rfl rfl (wt_gt (gd_of (t := 72) (by kernel_rfl) rfl)) (by kernel_rfl) (by kernel_rfl) (by kernel_rfl) (hS13.se [0, 1]) (fun hg34 w' hw' => (Y_load1 (B := B) (i := (i64.wrap ((i : Int) - 1)).toNat * 2 + 0) (cs := (p.Terms.flatMap eN0)) (v := vi x1.Mask) k_sc_3 rfl (gv_of (v := pt B ((i64.wrap ((i : Int) - 1)).toNat * 2 + 0)) hg34) (ST.rf hw' (i := 0) rfl) (gi_at eN2 (gb_inv hx1 hg34) rfl))) ?_
     refine ra_gq 25 80 (B := ((!((!r_5) || (!r_6))) && (decide (0 < (i : Int))))) (v := pt (aD b1) 0) rfl rfl rfl (wt_gt (gd_of (t := 72) (by kernel_rfl) rfl)) (by kernel_rfl) (by kernel_rfl) (by kernel_rfl) (hS13.se [0, 1]) (fun hg35 w' hw' => (Y_fieldAddr (B := aD b1) (i := 0) (s := 0) k_fd_56_0_0_3 k_sz_3_1 rfl rfl)) ?_
     refine ra_gq 26 81 (B := ((!((!r_5) || (!r_6))) && (decide (0 < (i : Int))))) (v := vi x.Mask) rfl rfl rfl (wt_gt (gd_of (t := 72) (by kernel_rfl) rfl)) (by kernel_rfl) (by kernel_rfl) (by kernel_rfl) (hS13.se [0, 1]) (fun hg36 w' hw' => (Y_load1 (B := aD b1) (i := 0) (cs := [vi x.Mask, vi x.Coef]) (v := vi x.Mask) k_sc_3 rfl (gv_of (v := pt (aD b1) 0) hg36) (ST.cf hw' (i := 1) rfl) rfl)) ?_
     refine ra_gq 27 82 (B := ((!((!r_5) || (!r_6))) && (decide (0 < (i : Int))))) (v := .bool (decide (x.Mask ≤ x1.Mask))) rfl rfl rfl (wt_gt (gd_of (t := 72) (by kernel_rfl) rfl)) (by kernel_rfl) (by kernel_rfl) (by kernel_rfl) (hS13.se [0, 1]) (fun hg37 w' hw' => (Y_ge (k := .i64) (a := x1.Mask) (b := x.Mask) rfl (gv_of (v := vi x1.Mask) hg37) (gv_of (v := vi x.Mask) hg37))) ?_
     refine ra_gq 28 83 (B := (!((!r_5) || (!r_6)))) (v := .bool ((decide (0 < (i : Int))) && (decide (x.Mask ≤ x1.Mask)))) rfl rfl rfl (uF_ 69) (by kernel_rfl) (by kernel_rfl) (by kernel_rfl) (hS13.se [0, 1]) (fun hg38 w' hw' => (Y_and (b := (decide (0 < (i : Int)))) (z := (decide (x.Mask ≤ x1.Mask))) rfl (gv_of (v := .bool (decide (0 < (i : Int)))) hg38) (gv_and (B := (!((!r_5) || (!r_6)))) (C := (decide (0 < (i : Int)))) (v := .bool (decide (x.Mask ≤ x1.Mask))) hg38) rfl)) ?_
     refine rq 29 84 (v := .bool (((!r_5) || (!r_6)) || ((decide (0 < (i : Int))) && (decide (x.Mask ≤ x1.Mask))))) rfl (hS13.se [0, 1]) (fun w' hw' => (Y_or (b := ((!r_5) || (!r_6))) (z := ((decide (0 < (i : Int))) && (decide (x.Mask ≤ x1.Mask)))) rfl rfl rfl rfl)) ?_
     refine ra_done (by kernel_rfl) ?_
     refine cw_cond (b := (((!r_5) || (!r_6)) || ((decide (0 < (i : Int))) && (decide (x.Mask ≤ x1.Mask))))) rfl (fun hb2 => ?_) (fun hb2 => ?_)
     ·skip
      have hF4 := ct hb1 hb2
      refine cw_seq (cw_region ?_)
      refine sQ 2 (Y_assign (v := .bool false) rfl rfl) (rw_nil (cw_ret ?_))
      obtain rfl := some_inj hF4
      obtain rfl := some_inj hL1
      obtain rfl := some_inj hF3
      exact ret1 Tryd.results16 (v1 := .bool false) (resAt_tmp rfl) ⟨rfl, (hS13.sN [])⟩
     ·skip
      have hF5 := cf' hb1 hb2
      refine cw_skip (cw_seq (cw_region ?_))
      refine sQ 85 (Y_fieldAddr (B := aD b1) (i := 0) (s := 0) k_fd_56_0_0_3 k_sz_3_1 rfl rfl) ?_
      refine sQ 86 (Y_load1 (B := aD b1) (i := 0) (cs := [vi x.Mask, vi x.Coef]) (v := vi x.Mask) k_sc_3 rfl rfl (hS13.cf (i := 1) rfl) rfl) ?_
      obtain ⟨r_7, hc6, hF5⟩ := bind_inv hF5
      refine sc 87 rfl rfl (Yc_func (g := 35) (vs := [vi x.Mask]) k_call_35 rfl (mc rfl mn) (c_spec_l1Set x.Mask _  (hS13.inn0 [] rfl) hc6)) ?_
      rintro _ w_9 ⟨B2, c2, rfl, hd2⟩
      have hS14 := hS13.out0 hd2
      refine sQ 88 (Y_len (B := B2) (m := r_7.length) (c := c2) k_sl_60_3 rfl rfl) ?_
      refine sQ 6 (Y_assign (v := vi (r_7.length : Int)) rfl rfl) (rw_nil (cw_seq ?_))
      refine cw_split (B := (!(decide (3 < (r_7.length : Int))))) (fun hb3 => ?_) (fun hb3 => ?_)
      ·skip
       have hF6 := ct hF5 hb3
       obtain ⟨x2, hx2, hF6⟩ := bind_inv hF6
       obtain ⟨hne, hF6⟩ := chk_inv hF6
       refine ra_start (hS14.se [0, 1, 2]).fn (by kernel_rfl) ?_
       have hS15 := hS14.drew
       refine rq 0 89 (v := vi (r_7.length : Int)) rfl (hS15.se [0, 1, 2]) (fun w' hw' => (Y_move (v := vi (r_7.length : Int)) rfl rfl)) ?_
       refine rq 1 90 (v := .bool (decide (3 < (r_7.length : Int)))) rfl (hS15.se [0, 1, 2]) (fun w' hw' => (Y_gt (k := .i64) (a := (r_7.length : Int)) (b := 3) rfl rfl rfl)) ?_
       refine rq 2 91 (v := .bool (decide (3 < (r_7.length : Int)))) rfl (hS15.se [0, 1, 2]) (fun w' hw' => (Y_move (v := .bool (decide (3 < (r_7.length : Int)))) rfl rfl)) ?_
       refine ra_gq 3 92 (B := (!(decide (3 < (r_7.length : Int))))) (v := pt (aD b1) 1) rfl rfl rfl (uF_ 91) (by kernel_rfl) (by kernel_rfl) (by kernel_rfl) (hS15.se [0, 1, 2]) (fun hg39 w' hw' => (Y_fieldAddr (B := aD b1) (i := 0) (s := 0) k_fd_56_1_1_3 k_sz_3_1 rfl rfl)) ?_
       refine ra_gq 4 93 (B := (!(decide (3 < (r_7.length : Int))))) (v := vi x.Coef) rfl rfl rfl (uF_ 91) (by kernel_rfl) (by kernel_rfl) (by kernel_rfl) (hS15.se [0, 1, 2]) (fun hg40 w' hw' => (Y_load1 (B := aD b1) (i := 1) (cs := [vi x.Mask, vi x.Coef]) (v := vi x.Coef) k_sc_3 rfl (gv_of (v := pt (aD b1) 1) hg40) (ST.cf hw' (i := 1) rfl) rfl)) ?_
       refine ra_qg 6 95 (B := (!(decide (3 < (r_7.length : Int))))) (v := vi (r_7.length : Int)) rfl rfl rfl (uF_ 91) hb3 (by kernel_rfl) (by kernel_rfl) (by kernel_rfl) (hS15.se [0, 1, 2]) (fun w' hw' => (Y_move (v := vi (r_7.length : Int)) rfl rfl)) ?_
       refine rA [5] ?_
       refine ra_sg 94 (i := 5) rfl rfl rfl (uF_ 91) hb3 (Ys_bslice (s := 1) (len := 4) (vs := [(0, vi 1), (1, vi 1), (2, vi 2), (3, vi 4)]) (cs := [vi 1, vi 1, vi 2, vi 4]) (zs := [vi 0, vi 0, vi 0, vi 0]) (m := 4) hS15 k_sl_60_3 k_sz_3_1 k_zc_3 rfl (mpc rfl (mpc rfl (mpc rfl (mpc rfl mpn)))) rfl rfl rfl (by kernel_rfl) (by kernel_rfl) rfl) ?_ ?_
       ·rintro _ w_10 ⟨b2, rfl, hS16⟩
        refine ⟨(hS16.se [0, 1, 2]), ?_⟩
        refine rA [7] ?_
        refine ra_yg 96 (i := 7) (v := pt (aD b2) ((r_7.length : Int).toNat * 1)) rfl rfl rfl (uF_ 91) hb3 (Y_index (B := aD b2) (m := 4) (c := 4) (k := .i64) (i := (r_7.length : Int)) k_sl_60_3 k_sz_3_1 rfl rfl rfl (gi_isSome encI_len rfl (hS16.cf (i := 3) rfl) hx2) (getI_nn hx2) (getI_ltI hx2 rfl)) (hS16.se [0, 1, 2]) ?_ ?_
        ·skip
         refine rA [8] ?_
         refine ra_yg 97 (i := 8) (v := vi x2) rfl rfl rfl (uF_ 91) hb3 (Y_load1 (B := aD b2) (i := (r_7.length : Int).toNat * 1) (cs := ([1, 1, 2, 4].flatMap encI)) (v := vi x2) k_sc_3 rfl rfl (hS16.cf (i := 3) rfl) (gi_at0 encI_len hx2 rfl)) (hS16.se [0, 1, 2]) ?_ ?_
         ·skip
          refine ra_qg 9 98 (B := (!(decide (3 < (r_7.length : Int))))) (v := vi (Int.tmod x.Coef x2)) rfl rfl rfl (uF_ 91) hb3 (by kernel_rfl) (by kernel_rfl) (by kernel_rfl) (hS16.se [0, 1, 2]) (fun w' hw' => (Y_rem (k := .i64) (a := x.Coef) (b := x2) rfl (gv_of (v := vi x.Coef) hb3) rfl hne)) ?_
          refine ra_qg 10 99 (B := (!(decide (3 < (r_7.length : Int))))) (v := .bool ((Int.tmod x.Coef x2) != 0)) rfl rfl rfl (uF_ 91) hb3 (by kernel_rfl) (by kernel_rfl) (by kernel_rfl) (hS16.se [0, 1, 2]) (fun w' hw' => (Y_ne (k := .i64) (a := (Int.tmod x.Coef x2)) (b := 0) rfl rfl rfl)) ?_
          refine rq 11 100 (v := .bool ((Int.tmod x.Coef x2) != 0)) rfl (hS16.se [0, 1, 2]) (fun w' hw' => (Y_pickF (b := (decide (3 < (r_7.length : Int)))) (v := .bool ((Int.tmod x.Coef x2) != 0)) rfl rfl (nt hb3) rfl)) ?_
          refine ra_done (by kernel_rfl) ?_
          refine cw_cond (b := ((Int.tmod x.Coef x2) != 0)) rfl (fun hb4 => ?_) (fun hb4 => ?_)
          ·skip
           have hF7 := ct hF6 hb4
           refine cw_seq (cw_region ?_)
           refine sQ 2 (Y_assign (v := .bool false) rfl rfl) (rw_nil (cw_ret ?_))
           obtain rfl := some_inj hF7
           obtain rfl := some_inj hL1
           obtain rfl := some_inj hF3
           exact ret1 Tryd.results16 (v1 := .bool false) (resAt_tmp rfl) ⟨rfl, (hS16.sN [])⟩
          ·skip
           have hF8 := cf' hF6 hb4
           refine cw_skip (cw_region ?_)
           refine sQ 101 (Y_add (k := .i64) (a := (i : Int)) (b := 1) rfl (hf.get 50 4 rfl) rfl) ?_
           refine sQ 50 (Y_move (v := vi (i64.wrap ((i : Int) + 1))) rfl rfl) (rw_nil ?_)
           obtain rfl := some_inj hF8
           exact ⟨k_1, Nat.lt_succ_self _, i + 1, (FF.cons (hf.get 1 0 rfl) (FF.cons (hf.get 3 1 rfl) (FF.cons (hf.get 48 2 rfl) (FF.cons (hf.get 49 3 rfl) (FF.cons (congrArg (Value.int .i64) (wr_succ hlt1 hN)) FF.nil))))), (hS16.sel [0] rfl rfl), (by omega), hL1⟩
         exact allR_nil
        exact allR_nil
       exact allR_nil
      ·skip
       have hF9 := cf' hF5 hb3
       refine ra_start (hS14.se [0, 1, 2]).fn (by kernel_rfl) ?_
       have hS17 := hS14.drew
       refine rq 0 89 (v := vi (r_7.length : Int)) rfl (hS17.se [0, 1, 2]) (fun w' hw' => (Y_move (v := vi (r_7.length : Int)) rfl rfl)) ?_
       refine rq 1 90 (v := .bool (decide (3 < (r_7.length : Int)))) rfl (hS17.se [0, 1, 2]) (fun w' hw' => (Y_gt (k := .i64) (a := (r_7.length : Int)) (b := 3) rfl rfl rfl)) ?_
       refine rq 2 91 (v := .bool (decide (3 < (r_7.length : Int)))) rfl (hS17.se [0, 1, 2]) (fun w' hw' => (Y_move (v := .bool (decide (3 < (r_7.length : Int)))) rfl rfl)) ?_
       refine ra_gq 3 92 (B := (!(decide (3 < (r_7.length : Int))))) (v := pt (aD b1) 1) rfl rfl rfl (uF_ 91) (by kernel_rfl) (by kernel_rfl) (by kernel_rfl) (hS17.se [0, 1, 2]) (fun hg39 w' hw' => (Y_fieldAddr (B := aD b1) (i := 0) (s := 0) k_fd_56_1_1_3 k_sz_3_1 rfl rfl)) ?_
       refine ra_gq 4 93 (B := (!(decide (3 < (r_7.length : Int))))) (v := vi x.Coef) rfl rfl rfl (uF_ 91) (by kernel_rfl) (by kernel_rfl) (by kernel_rfl) (hS17.se [0, 1, 2]) (fun hg40 w' hw' => (Y_load1 (B := aD b1) (i := 1) (cs := [vi x.Mask, vi x.Coef]) (v := vi x.Coef) k_sc_3 rfl (gv_of (v := pt (aD b1) 1) hg40) (ST.cf hw' (i := 1) rfl) rfl)) ?_
       refine ra_gq 5 94 (B := (!(decide (3 < (r_7.length : Int))))) (v := undef) rfl rfl rfl (uF_ 91) (by kernel_rfl) (by kernel_rfl) (by kernel_rfl) (hS17.se [0, 1, 2]) (fun hg _ _ => nomatch (hg.symm.trans hb3)) ?_
       refine ra_gq 6 95 (B := (!(decide (3 < (r_7.length : Int))))) (v := undef) rfl rfl rfl (uF_ 91) (by kernel_rfl) (by kernel_rfl) (by kernel_rfl) (hS17.se [0, 1, 2]) (fun hg _ _ => nomatch (hg.symm.trans hb3)) ?_
       refine ra_gq 7 96 (B := (!(decide (3 < (r_7.length : Int))))) (v := undef) rfl rfl rfl (uF_ 91) (by kernel_rfl) (by kernel_rfl) (by kernel_rfl) (hS17.se [0, 1, 2]) (fun hg _ _ => nomatch (hg.symm.trans hb3)) ?_
       refine ra_gq 8 97 (B := (!(decide (3 < (r_7.length : Int))))) (v := undef) rfl rfl rfl (uF_ 91) (by kernel_rfl) (by kernel_rfl) (by kernel_rfl) (hS17.se [0, 1, 2]) (fun hg _ _ => nomatch (hg.symm.trans hb3)) ?_
       refine ra_gq 9 98 (B := (!(decide (3 < (r_7.length : Int))))) (v := undef) rfl rfl rfl (uF_ 91) (by kernel_rfl) (by kernel_rfl) (by kernel_rfl) (hS17.se [0, 1, 2]) (fun hg _ _ => nomatch (hg.symm.trans hb3)) ?_
       refine ra_gq 10 99 (B := (!(decide (3 < (r_7.length : Int))))) (v := undef) rfl rfl rfl (uF_ 91) (by kernel_rfl) (by kernel_rfl) (by kernel_rfl) (hS17.se [0, 1, 2]) (fun hg _ _ => nomatch (hg.symm.trans hb3)) ?_
       refine rq 11 100 (v := .bool true) rfl (hS17.se [0, 1, 2]) (fun w' hw' => (Y_pickT (b := (decide (3 < (r_7.length : Int)))) (v := .bool true) rfl rfl (nf hb3) rfl)) ?_
       refine ra_done (by kernel_rfl) ?_
       refine cw_cond (b := true) rfl (fun _ => ?_) (fun h => by cases h)
       refine cw_seq (cw_region ?_)
       refine sQ 2 (Y_assign (v := .bool false) rfl rfl) (rw_nil (cw_ret ?_))
       obtain rfl := some_inj hF9
       obtain rfl := some_inj hL1
       obtain rfl := some_inj hF3
       exact ret1 Tryd.results16 (v1 := .bool false) (resAt_tmp rfl) ⟨rfl, (hS17.sN [])⟩
    exact allR_nil
   exact allR_nil
  ·skip
   obtain rfl : k_ = 0 := by have h := of_decide_eq_false hlt; omega
   refine cw_exit rfl ?_
   obtain rfl := some_inj hL
   refine cw_seq (cw_seq (cw_region ?_))
   refine sQ 102 (Y_fieldAddr (B := aD b) (i := 0) (s := 0) k_fd_30_5_5_28 k_sz_28_1 rfl (hf.get 1 0 rfl)) ?_
   refine sQ 103 (Y_load1 (B := aD b) (i := 5) (cs := [vi p.Ins, vi p.Vars, vi p.Root, vi p.Phase, .slice B p.Terms.length c, .slice B1 p.Out.length c1]) (v := .slice B1 p.Out.length c1) k_sc_28 rfl rfl (hS6.cf (i := 0) rfl) rfl) ?_
   refine sQ 104 (Y_len (B := B1) (m := p.Out.length) (c := c1) k_sl_28_44 rfl rfl) ?_
   refine sQ 105 (Y_move (v := vi 0) rfl rfl) (rw_nil ?_)
   obtain ⟨hN1, hF3⟩ := chk_inv hF3
   obtain ⟨z1, hz1, hF10⟩ := bind_inv hF3
   refine cw_block ?_
   refine cw_loop (fun k f w => ∃ (i1 : Nat), FF f [(3, vi (i64.wrap (p.Ins + p.Vars))), (103, .slice B1 p.Out.length c1), (104, vi (p.Out.length : Int)), (105, vi (i1 : Int))] ∧ ST w0 [] w [] [⟨B, (p.Terms.flatMap eN0)⟩, ⟨B1, (p.Out.flatMap eN1)⟩] ∧ i1 + k = p.Out.length ∧ forX (F_spec_l21Valid_l2 p) k i1 () = some z1) p.Out.length ⟨0, (FF.cons (hf.get 3 1 rfl) (FF.cons rfl (FF.cons rfl (FF.cons rfl FF.nil)))), (hS6.sel [] rfl rfl), Nat.zero_add _, hz1⟩ ?_
   rintro k_2 f w ⟨i1, hf1, hS18, hik1, hL2⟩
   refine cw_seq (cw_region ?_)
   refine sQ 106 (Y_lt (k := .i64) (a := (i1 : Int)) (b := (p.Out.length : Int)) rfl (hf1.get 105 3 rfl) (hf1.get 104 2 rfl)) (rw_nil (cw_seq ?_))
   refine cw_cond (b := (decide ((i1 : Int) < (p.Out.length : Int)))) rfl (fun hlt2 => ?_) (fun hlt2 => ?_)
   ·skip
    have hlt3 : i1 < p.Out.length := by have h := of_decide_eq_true hlt2; omega
    obtain ⟨k_3, rfl⟩ : ∃ k2, k_2 = k2 + 1 := ⟨k_2 - 1, by omega⟩
    obtain ⟨y1, hb5, hL3⟩ := forX_go hL2
    unfold F_spec_l21Valid_l2 at hb5
    refine cw_skip (cw_seq (cw_block (cw_seq (cw_region ?_))))
    obtain ⟨x3, hx3, hb5⟩ := bind_inv hb5
    refine sQ 107 (Y_index (B := B1) (m := p.Out.length) (c := c1) (k := .i64) (i := (i1 : Int)) k_sl_28_44 k_sz_44_2 rfl (hf1.get 103 1 rfl) (hf1.get 105 3 rfl) (gi_isSome enc_Affine_len rfl (hS18.rf (i := 1) rfl) hx3) (getI_nn hx3) (getI_ltI hx3 rfl)) ?_
    refine sQ 108 (Y_loadA (B := B1) (i := (i1 : Int).toNat * 2) (cs := (p.Out.flatMap eN1)) (vs := [vi x3.Mask, vi x3.Turn]) k_ag_44 k_sz_44_2 rfl rfl (hS18.rf (i := 1) rfl) (enc_Affine_len x3) (gi_seg enc_Affine_len hx3)) ?_
    refine sS 8 (Ys_alloc (T := 44) (cs := [vi 0, vi 0]) (m := 2) hS18 k_zero_44 rfl rfl rfl) ?_
    rintro _ w_11 ⟨b3, rfl, hS19⟩
    refine s0 (Ys_store (i := 0) (s := 2) (B := aD b3) (T' := 44) (v := .agg #[vi x3.Mask, vi x3.Turn]) (vs := [vi x3.Mask, vi x3.Turn]) (k := 0) (cs' := [vi x3.Mask, vi x3.Turn]) hS19 k_sz_44_2 rfl rfl rfl rfl rfl rfl rfl (lB rfl) rfl rfl) ?_
    rintro _ w_12 ⟨rfl, hS20⟩
    refine rw_nil (cw_seq (cw_region ?_))
    refine sQ 109 (Y_fieldAddr (B := aD b3) (i := 0) (s := 0) k_fd_44_0_0_3 k_sz_3_1 rfl rfl) ?_
    refine sQ 110 (Y_load1 (B := aD b3) (i := 0) (cs := [vi x3.Mask, vi x3.Turn]) (v := vi x3.Mask) k_sc_3 rfl rfl (hS20.cf (i := 0) rfl) rfl) ?_
    refine sQ 111 (Y_move (v := vi (i64.wrap (p.Ins + p.Vars))) rfl (hf1.get 3 0 rfl)) ?_
    refine sQ 112 (Y_conv (k := .i64) (a := (i64.wrap (p.Ins + p.Vars))) (T := 3) (T' := 59) k_us_3 k_int_59_u64 rfl rfl) ?_
    obtain ⟨hsh1, hb5⟩ := chk_inv hb5
    refine sQ 113 (Y_shl (k := .i64) (a := 1) (k' := .u64) (b := (IntKind.u64.wrap (i64.wrap (p.Ins + p.Vars)))) rfl rfl rfl hsh1) ?_
    refine sQ 114 (Y_sub (k := .i64) (a := (shlK .i64 1 (IntKind.u64.wrap (i64.wrap (p.Ins + p.Vars))))) (b := 1) rfl rfl rfl) ?_
    obtain ⟨r_8, hc7, hb5⟩ := bind_inv hb5
    refine sc 115 rfl rfl (Yc_func (g := 34) (vs := [vi x3.Mask, vi 0, vi (i64.wrap ((shlK .i64 1 (IntKind.u64.wrap (i64.wrap (p.Ins + p.Vars)))) - 1))]) k_call_34 rfl (mc rfl (mc rfl (mc rfl mn))) (c_spec_l1In x3.Mask 0 (i64.wrap ((shlK .i64 1 (IntKind.u64.wrap (i64.wrap (p.Ins + p.Vars)))) - 1)) _  (hS20.inn0 [] rfl) hc7)) ?_
    rintro _ w_13 ⟨rfl, hd3⟩
    have hS21 := hS20.out00 hd3
    refine sQ 116 (Y_not (p := r_8) rfl rfl) ?_
    refine sQ 117 (Y_move (v := .bool (!r_8)) rfl rfl) ?_
    refine sgq 118 (B := (!(!r_8))) (v := pt (aD b3) 1) rfl rfl (uF_ 117) (fun hg41 => (Y_fieldAddr (B := aD b3) (i := 0) (s := 0) k_fd_44_1_1_3 k_sz_3_1 rfl rfl)) ?_
    refine sgq 119 (B := (!(!r_8))) (v := vi x3.Turn) rfl rfl (uF_ 117) (fun hg42 => (Y_load1 (B := aD b3) (i := 1) (cs := [vi x3.Mask, vi x3.Turn]) (v := vi x3.Turn) k_sc_3 rfl (gv_of (v := pt (aD b3) 1) hg42) (hS21.cf (i := 0) rfl) rfl)) ?_
    obtain ⟨r_9, hc8, hb5⟩ := bind_inv hb5
    refine sgc 120 (B := (!(!r_8))) (v := .bool r_9) (F := hS21.fn) rfl rfl (uF_ 117) hS21 (fun hg43 => (Yc_func (g := 34) (vs := [vi x3.Turn, vi 0, vi 1]) k_call_34 rfl (mc (gv_of (v := vi x3.Turn) hg43) (mc rfl (mc rfl mn))) (CV.mono (c_spec_l1In x3.Turn 0 1 _  (hS21.inn0 [] rfl) (gb_inv hc8 hg43)) (by rintro _ _ ⟨rfl, h⟩; exact ⟨rfl, hS21.out00 h⟩)))) ?_
    rintro w_14 hS22
    refine sgq 121 (B := (!(!r_8))) (v := .bool (!r_9)) rfl rfl (uF_ 117) (fun hg44 => (Y_not (p := r_9) rfl (gv_of (v := .bool r_9) hg44))) ?_
    refine sQ 122 (Y_or (b := (!r_8)) (z := (!r_9)) rfl rfl rfl rfl) (rw_nil ?_)
    refine cw_cond (b := ((!r_8) || (!r_9))) rfl (fun hb6 => ?_) (fun hb6 => ?_)
    ·skip
     have hF11 := ct hb5 hb6
     refine cw_seq (cw_region ?_)
     refine sQ 2 (Y_assign (v := .bool false) rfl rfl) (rw_nil (cw_ret ?_))
     obtain rfl := some_inj hF11
     obtain rfl := some_inj hL3
     obtain rfl := some_inj hF10
     exact ret1 Tryd.results16 (v1 := .bool false) (resAt_tmp rfl) ⟨rfl, (hS22.sN [])⟩
    ·skip
     have hF12 := cf' hb5 hb6
     refine cw_skip (cw_region ?_)
     refine sQ 123 (Y_add (k := .i64) (a := (i1 : Int)) (b := 1) rfl (hf1.get 105 3 rfl) rfl) ?_
     refine sQ 105 (Y_move (v := vi (i64.wrap ((i1 : Int) + 1))) rfl rfl) (rw_nil ?_)
     obtain rfl := some_inj hF12
     exact ⟨k_3, Nat.lt_succ_self _, i1 + 1, (FF.cons (hf1.get 3 0 rfl) (FF.cons (hf1.get 103 1 rfl) (FF.cons (hf1.get 104 2 rfl) (FF.cons (congrArg (Value.int .i64) (wr_succ hlt3 hN1)) FF.nil)))), (hS22.sel [] rfl rfl), (by omega), hL3⟩
   ·skip
    obtain rfl : k_2 = 0 := by have h := of_decide_eq_false hlt2; omega
    refine cw_exit rfl ?_
    obtain rfl := some_inj hL2
    refine cw_seq (cw_region ?_)
    refine sQ 2 (Y_assign (v := .bool true) rfl rfl) (rw_nil (cw_ret ?_))
    obtain rfl := some_inj hF10
    exact ret1 Tryd.results16 (v1 := .bool true) (resAt_tmp rfl) ⟨rfl, (hS18.sN [])⟩

theorem c_spec_l21Rule (p : TPathSum) (y : Int) (B : Option Addr) (c n : Nat) (B1 : Option Addr) (c1 n1 : Nat) (w0 : World) (hn : p.Terms.length = n) (hn1 : p.Out.length = n1) (hS : ST w0 [] w0 [] [⟨B, (p.Terms.flatMap eN0)⟩, ⟨B1, (p.Out.flatMap eN1)⟩]) {r_ : Int} {r_1 : Int} {r_2 : Int} (hF : F_spec_l21Rule p y = some (r_, r_1, r_2)) :
  CV Tryd.prog 36 #[.agg #[vi p.Ins, vi p.Vars, vi p.Root, vi p.Phase, .slice B n c, .slice B1 n1 c1], vi y] w0 (fun v w' => v = .tuple #[vi r_, vi r_1, vi r_2] ∧ ST w0 [] w' [] []) := by
 subst hn
 subst hn1
 unfold F_spec_l21Rule at hF
 refine cv_of_cw 103 Tryd.func36 rfl Tryd.ntmps36 rfl ?_
 refine cw_seq (cw_region ?_)
 refine sS 2 (Ys_box (T := 30) (v := .agg #[vi p.Ins, vi p.Vars, vi p.Root, vi p.Phase, .slice B p.Terms.length c, .slice B1 p.Out.length c1]) (cs := [vi p.Ins, vi p.Vars, vi p.Root, vi p.Phase, .slice B p.Terms.length c, .slice B1 p.Out.length c1]) (m := 6) hS rfl rfl rfl rfl) ?_
 rintro _ w_ ⟨b, rfl, hS1⟩
 refine sQ 4 (Y_assign (v := vi 0) rfl rfl) ?_
 refine sQ 5 (Y_assign (v := vi 0) rfl rfl) ?_
 refine sQ 6 (Y_assign (v := vi 0) rfl rfl) (rw_nil (cw_seq (cw_region ?_)))
 refine sQ 7 (Y_assign (v := vi 0) rfl rfl) ?_
 refine sQ 8 (Y_assign (v := vi 0) rfl rfl) (rw_nil (cw_seq (cw_seq (cw_region ?_))))
 refine sQ 14 (Y_fieldAddr (B := aD b) (i := 0) (s := 0) k_fd_30_5_5_28 k_sz_28_1 rfl rfl) ?_
 refine sQ 15 (Y_load1 (B := aD b) (i := 5) (cs := [vi p.Ins, vi p.Vars, vi p.Root, vi p.Phase, .slice B p.Terms.length c, .slice B1 p.Out.length c1]) (v := .slice B1 p.Out.length c1) k_sc_28 rfl rfl (hS1.cf (i := 0) rfl) rfl) ?_
 refine sQ 16 (Y_len (B := B1) (m := p.Out.length) (c := c1) k_sl_28_44 rfl rfl) ?_
 refine sQ 17 (Y_move (v := vi 0) rfl rfl) (rw_nil ?_)
 obtain ⟨hN, hF⟩ := chk_inv hF
 obtain ⟨z, hz, hF1⟩ := bind_inv hF
 refine cw_block ?_
 refine cw_loop (fun k f w => ∃ (i : Nat), FF f [(1, vi y), (2, pt (aD b) 0), (7, vi 0), (8, vi 0), (15, .slice B1 p.Out.length c1), (16, vi (p.Out.length : Int)), (17, vi (i : Int))] ∧ ST w0 [] w [⟨aD b, 30, [vi p.Ins, vi p.Vars, vi p.Root, vi p.Phase, .slice B p.Terms.length c, .slice B1 p.Out.length c1], 6⟩] [⟨B, (p.Terms.flatMap eN0)⟩, ⟨B1, (p.Out.flatMap eN1)⟩] ∧ i + k = p.Out.length ∧ forX (F_spec_l21Rule_l1 p y) k i () = some z) p.Out.length ⟨0, (FF.cons rfl (FF.cons rfl (FF.cons rfl (FF.cons rfl (FF.cons rfl (FF.cons rfl (FF.cons rfl FF.nil))))))), (hS1.sel [0] rfl rfl), Nat.zero_add _, hz⟩ ?_
 rintro k_ f w ⟨i, hf, hS2, hik, hL⟩
 refine cw_seq (cw_region ?_)
 refine sQ 18 (Y_lt (k := .i64) (a := (i : Int)) (b := (p.Out.length : Int)) rfl (hf.get 17 6 rfl) (hf.get 16 5 rfl)) (rw_nil (cw_seq ?_))
 refine cw_cond (b := (decide ((i : Int) < (p.Out.length : Int)))) rfl (fun hlt => ?_) (fun hlt => ?_)
 ·skip
  have hlt1 : i < p.Out.length := by have h := of_decide_eq_true hlt; omega
  obtain ⟨k_1, rfl⟩ : ∃ k2, k_ = k2 + 1 := ⟨k_ - 1, by omega⟩
  obtain ⟨y1, hb, hL1⟩ := forX_go hL
  unfold F_spec_l21Rule_l1 at hb
  refine cw_skip (cw_seq (cw_block (cw_seq (cw_region ?_))))
  obtain ⟨x, hx, hb⟩ := bind_inv hb
  refine sQ 19 (Y_index (B := B1) (m := p.Out.length) (c := c1) (k := .i64) (i := (i : Int)) k_sl_28_44 k_sz_44_2 rfl (hf.get 15 4 rfl) (hf.get 17 6 rfl) (gi_isSome enc_Affine_len rfl (hS2.rf (i := 1) rfl) hx) (getI_nn hx) (getI_ltI hx rfl)) ?_
  refine sQ 20 (Y_loadA (B := B1) (i := (i : Int).toNat * 2) (cs := (p.Out.flatMap eN1)) (vs := [vi x.Mask, vi x.Turn]) k_ag_44 k_sz_44_2 rfl rfl (hS2.rf (i := 1) rfl) (enc_Affine_len x) (gi_seg enc_Affine_len hx)) ?_
  refine sS 10 (Ys_alloc (T := 44) (cs := [vi 0, vi 0]) (m := 2) hS2 k_zero_44 rfl rfl rfl) ?_
  rintro _ w_1 ⟨b1, rfl, hS3⟩
  refine s0 (Ys_store (i := 1) (s := 2) (B := aD b1) (T' := 44) (v := .agg #[vi x.Mask, vi x.Turn]) (vs := [vi x.Mask, vi x.Turn]) (k := 0) (cs' := [vi x.Mask, vi x.Turn]) hS3 k_sz_44_2 rfl rfl rfl rfl rfl rfl rfl (lB rfl) rfl rfl) ?_
  rintro _ w_2 ⟨rfl, hS4⟩
  refine rw_nil (cw_seq (cw_region ?_))
  refine sQ 21 (Y_fieldAddr (B := aD b1) (i := 0) (s := 0) k_fd_44_0_0_3 k_sz_3_1 rfl rfl) ?_
  refine sQ 22 (Y_load1 (B := aD b1) (i := 0) (cs := [vi x.Mask, vi x.Turn]) (v := vi x.Mask) k_sc_3 rfl rfl (hS4.cf (i := 1) rfl) rfl) ?_
  refine sQ 23 (Y_move (v := vi y) rfl (hf.get 1 0 rfl)) ?_
  refine sQ 24 (Y_conv (k := .i64) (a := y) (T := 3) (T' := 59) k_us_3 k_int_59_u64 rfl rfl) ?_
  obtain ⟨hsh, hb⟩ := chk_inv hb
  refine sQ 25 (Y_shr (k := .i64) (a := x.Mask) (k' := .u64) (b := (IntKind.u64.wrap y)) rfl rfl rfl hsh) ?_
  refine sQ 26 (Y_band (k := .i64) (a := (shrK .i64 x.Mask (IntKind.u64.wrap y))) (b := 1) rfl rfl rfl) ?_
  refine sQ 27 (Y_eq (k := .i64) (a := (bits .and .i64 (shrK .i64 x.Mask (IntKind.u64.wrap y)) 1)) (b := 1) rfl rfl rfl) (rw_nil ?_)
  refine cw_cond (b := ((bits .and .i64 (shrK .i64 x.Mask (IntKind.u64.wrap y)) 1) == 1)) rfl (fun hb1 => ?_) (fun hb1 => ?_)
  ·skip
   have hF2 := ct hb hb1
   refine cw_seq (cw_region ?_)
   refine sQ 4 (Y_assign (v := vi 0) rfl rfl) ?_
   refine sQ 5 (Y_assign (v := vi 0) rfl rfl) ?_
   refine sQ 6 (Y_assign (v := vi 0) rfl rfl) (rw_nil (cw_ret ?_))
   obtain rfl := some_inj hF2
   obtain rfl := some_inj hL1
   obtain ⟨rfl, rfl, rfl⟩ := pr3 (some_inj hF1)
   exact ret3 Tryd.results36 (v1 := vi 0) (resAt_tmp rfl) (v2 := vi 0) (resAt_tmp rfl) (v3 := vi 0) (resAt_tmp rfl) ⟨rfl, (hS4.sN [])⟩
  ·skip
   have hF3 := cf' hb hb1
   refine cw_skip (cw_region ?_)
   refine sQ 28 (Y_add (k := .i64) (a := (i : Int)) (b := 1) rfl (hf.get 17 6 rfl) rfl) ?_
   refine sQ 17 (Y_move (v := vi (i64.wrap ((i : Int) + 1))) rfl rfl) (rw_nil ?_)
   obtain rfl := some_inj hF3
   exact ⟨k_1, Nat.lt_succ_self _, i + 1, (FF.cons (hf.get 1 0 rfl) (FF.cons (hf.get 2 1 rfl) (FF.cons (hf.get 7 2 rfl) (FF.cons (hf.get 8 3 rfl) (FF.cons (hf.get 15 4 rfl) (FF.cons (hf.get 16 5 rfl) (FF.cons (congrArg (Value.int .i64) (wr_succ hlt1 hN)) FF.nil))))))), (hS4.sel [0] rfl rfl), (by omega), hL1⟩
 ·skip
  obtain rfl : k_ = 0 := by have h := of_decide_eq_false hlt; omega
  refine cw_exit rfl ?_
  obtain rfl := some_inj hL
  refine cw_seq (cw_seq (cw_region ?_))
  refine sQ 29 (Y_fieldAddr (B := aD b) (i := 0) (s := 0) k_fd_30_4_4_27 k_sz_27_1 rfl (hf.get 2 1 rfl)) ?_
  refine sQ 30 (Y_load1 (B := aD b) (i := 4) (cs := [vi p.Ins, vi p.Vars, vi p.Root, vi p.Phase, .slice B p.Terms.length c, .slice B1 p.Out.length c1]) (v := .slice B p.Terms.length c) k_sc_27 rfl rfl (hS2.cf (i := 0) rfl) rfl) ?_
  refine sQ 31 (Y_len (B := B) (m := p.Terms.length) (c := c) k_sl_27_56 rfl rfl) ?_
  refine sQ 32 (Y_move (v := vi 0) rfl rfl) (rw_nil ?_)
  obtain ⟨hN1, hF1⟩ := chk_inv hF1
  obtain ⟨z1, hz1, hF4⟩ := bind_inv hF1
  refine cw_block ?_
  refine cw_loop (fun k f w => ∃ (i1 : Nat) (c2 : Int) (z2 : Int), FF f [(1, vi y), (2, pt (aD b) 0), (7, vi c2), (8, vi z2), (30, .slice B p.Terms.length c), (31, vi (p.Terms.length : Int)), (32, vi (i1 : Int))] ∧ ST w0 [] w [⟨aD b, 30, [vi p.Ins, vi p.Vars, vi p.Root, vi p.Phase, .slice B p.Terms.length c, .slice B1 p.Out.length c1], 6⟩] [⟨B, (p.Terms.flatMap eN0)⟩, ⟨B1, (p.Out.flatMap eN1)⟩] ∧ i1 + k = p.Terms.length ∧ forX (F_spec_l21Rule_l2 p y) k i1 (c2, z2) = some z1) p.Terms.length ⟨0, 0, 0, (FF.cons (hf.get 1 0 rfl) (FF.cons (hf.get 2 1 rfl) (FF.cons (hf.get 7 2 rfl) (FF.cons (hf.get 8 3 rfl) (FF.cons rfl (FF.cons rfl (FF.cons rfl FF.nil))))))), (hS2.sel [0] rfl rfl), Nat.zero_add _, hz1⟩ ?_
  rintro k_2 f w ⟨i1, c2, z2, hf1, hS5, hik1, hL2⟩
  refine cw_seq (cw_region ?_)
  refine sQ 33 (Y_lt (k := .i64) (a := (i1 : Int)) (b := (p.Terms.length : Int)) rfl (hf1.get 32 6 rfl) (hf1.get 31 5 rfl)) (rw_nil (cw_seq ?_))
  refine cw_cond (b := (decide ((i1 : Int) < (p.Terms.length : Int)))) rfl (fun hlt2 => ?_) (fun hlt2 => ?_)
  ·skip
   have hlt3 : i1 < p.Terms.length := by have h := of_decide_eq_true hlt2; omega
   obtain ⟨k_3, rfl⟩ : ∃ k2, k_2 = k2 + 1 := ⟨k_2 - 1, by omega⟩
   obtain ⟨y2, hb2, hL3⟩ := forX_go hL2
   unfold F_spec_l21Rule_l2 at hb2
   refine cw_skip (cw_seq ?_)
   obtain ⟨z3, hz2, hF5⟩ := bind_inv hb2
   refine cw_mid (fun f w => ∃ (c3 : Int) (z4 : Int), .inl (c3, z4) = z3 ∧ FF f [(1, vi y), (2, pt (aD b) 0), (7, vi c3), (8, vi z4), (30, .slice B p.Terms.length c), (31, vi (p.Terms.length : Int)), (32, vi (i1 : Int))] ∧ ST w0 [] w [⟨aD b, 30, [vi p.Ins, vi p.Vars, vi p.Root, vi p.Phase, .slice B p.Terms.length c, .slice B1 p.Out.length c1], 6⟩] [⟨B, (p.Terms.flatMap eN0)⟩, ⟨B1, (p.Out.flatMap eN1)⟩]) ?_ ?_
   ·skip
    refine cw_block (cw_seq (cw_region ?_))
    obtain ⟨x1, hx1, hz2⟩ := bind_inv hz2
    refine sQ 34 (Y_index (B := B) (m := p.Terms.length) (c := c) (k := .i64) (i := (i1 : Int)) k_sl_27_56 k_sz_56_2 rfl (hf1.get 30 4 rfl) (hf1.get 32 6 rfl) (gi_isSome eN2 rfl (hS5.rf (i := 0) rfl) hx1) (getI_nn hx1) (getI_ltI hx1 rfl)) ?_
    refine sQ 35 (Y_loadA (B := B) (i := (i1 : Int).toNat * 2) (cs := (p.Terms.flatMap eN0)) (vs := [vi x1.Mask, vi x1.Coef]) k_ag_56 k_sz_56_2 rfl rfl (hS5.rf (i := 0) rfl) (eN2 x1) (gi_seg eN2 hx1)) ?_
    refine sS 12 (Ys_alloc (T := 56) (cs := [vi 0, vi 0]) (m := 2) hS5 k_zero_56 rfl rfl rfl) ?_
    rintro _ w_3 ⟨b2, rfl, hS7⟩
    refine s0 (Ys_store (i := 1) (s := 2) (B := aD b2) (T' := 56) (v := .agg #[vi x1.Mask, vi x1.Coef]) (vs := [vi x1.Mask, vi x1.Coef]) (k := 0) (cs' := [vi x1.Mask, vi x1.Coef]) hS7 k_sz_56_2 rfl rfl rfl rfl rfl rfl rfl (lB rfl) rfl rfl) ?_
    rintro _ w_4 ⟨rfl, hS8⟩
    refine rw_nil (cw_seq (cw_seq (cw_region ?_)))
    refine sQ 36 (Y_fieldAddr (B := aD b2) (i := 0) (s := 0) k_fd_56_0_0_3 k_sz_3_1 rfl rfl) ?_
    refine sQ 37 (Y_load1 (B := aD b2) (i := 0) (cs := [vi x1.Mask, vi x1.Coef]) (v := vi x1.Mask) k_sc_3 rfl rfl (hS8.cf (i := 1) rfl) rfl) ?_
    refine sQ 38 (Y_move (v := vi y) rfl (hf1.get 1 0 rfl)) ?_
    refine sQ 39 (Y_conv (k := .i64) (a := y) (T := 3) (T' := 59) k_us_3 k_int_59_u64 rfl rfl) ?_
    obtain ⟨hsh1, hz2⟩ := chk_inv hz2
    refine sQ 40 (Y_shr (k := .i64) (a := x1.Mask) (k' := .u64) (b := (IntKind.u64.wrap y)) rfl rfl rfl hsh1) ?_
    refine sQ 41 (Y_band (k := .i64) (a := (shrK .i64 x1.Mask (IntKind.u64.wrap y))) (b := 1) rfl rfl rfl) ?_
    refine sQ 42 (Y_eq (k := .i64) (a := (bits .and .i64 (shrK .i64 x1.Mask (IntKind.u64.wrap y)) 1)) (b := 0) rfl rfl rfl) (rw_nil ?_)
    refine cw_cond (b := ((bits .and .i64 (shrK .i64 x1.Mask (IntKind.u64.wrap y)) 1) == 0)) rfl (fun hb3 => ?_) (fun hb3 => ?_)
    ·skip
     have hF6 := ct hz2 hb3
     refine cw_exit rfl ?_
     exact ⟨c2, z2, (some_inj hF6), (FF.cons (hf1.get 1 0 rfl) (FF.cons (hf1.get 2 1 rfl) (FF.cons (hf1.get 7 2 rfl) (FF.cons (hf1.get 8 3 rfl) (FF.cons (hf1.get 30 4 rfl) (FF.cons (hf1.get 31 5 rfl) (FF.cons (hf1.get 32 6 rfl) FF.nil))))))), (hS8.sel [0] rfl rfl)⟩
    ·skip
     have hF7 := cf' hz2 hb3
     refine cw_skip (cw_seq (cw_region ?_))
     refine sQ 43 (Y_fieldAddr (B := aD b2) (i := 0) (s := 0) k_fd_56_0_0_3 k_sz_3_1 rfl rfl) ?_
     refine sQ 44 (Y_load1 (B := aD b2) (i := 0) (cs := [vi x1.Mask, vi x1.Coef]) (v := vi x1.Mask) k_sc_3 rfl rfl (hS8.cf (i := 1) rfl) rfl) ?_
     refine sQ 45 (Y_move (v := vi y) rfl (hf1.get 1 0 rfl)) ?_
     refine sQ 46 (Y_conv (k := .i64) (a := y) (T := 3) (T' := 59) k_us_3 k_int_59_u64 rfl rfl) ?_
     obtain ⟨hsh2, hF7⟩ := chk_inv hF7
     refine sQ 47 (Y_shl (k := .i64) (a := 1) (k' := .u64) (b := (IntKind.u64.wrap y)) rfl rfl rfl hsh2) ?_
     refine sQ 48 (Y_bxor (k := .i64) (a := x1.Mask) (b := (shlK .i64 1 (IntKind.u64.wrap y))) rfl rfl rfl) ?_
     refine sQ 13 (Y_assign (v := vi (bits .xor .i64 x1.Mask (shlK .i64 1 (IntKind.u64.wrap y)))) rfl rfl) (rw_nil (cw_block (cw_seq (cw_region ?_))))
     refine sQ 50 (Y_move (v := vi (bits .xor .i64 x1.Mask (shlK .i64 1 (IntKind.u64.wrap y)))) rfl rfl) ?_
     refine sQ 51 (Y_eq (k := .i64) (a := (bits .xor .i64 x1.Mask (shlK .i64 1 (IntKind.u64.wrap y)))) (b := 0) rfl rfl rfl) ?_
     refine sQ 49 (Y_assign (v := .bool ((bits .xor .i64 x1.Mask (shlK .i64 1 (IntKind.u64.wrap y))) == 0)) rfl rfl) (rw_nil ?_)
     refine cw_cond (b := ((bits .xor .i64 x1.Mask (shlK .i64 1 (IntKind.u64.wrap y))) == 0)) rfl (fun hb4 => ?_) (fun hb4 => ?_)
     ·skip
      have hF8 := ct hF7 hb4
      refine cw_region ?_
      refine sQ 52 (Y_fieldAddr (B := aD b2) (i := 0) (s := 0) k_fd_56_1_1_3 k_sz_3_1 rfl rfl) ?_
      refine sQ 53 (Y_load1 (B := aD b2) (i := 1) (cs := [vi x1.Mask, vi x1.Coef]) (v := vi x1.Coef) k_sc_3 rfl rfl (hS8.cf (i := 1) rfl) rfl) ?_
      refine sQ 7 (Y_assign (v := vi x1.Coef) rfl rfl) (rw_nil ?_)
      exact ⟨x1.Coef, z2, (some_inj hF8), (FF.cons (hf1.get 1 0 rfl) (FF.cons (hf1.get 2 1 rfl) (FF.cons rfl (FF.cons (hf1.get 8 3 rfl) (FF.cons (hf1.get 30 4 rfl) (FF.cons (hf1.get 31 5 rfl) (FF.cons (hf1.get 32 6 rfl) FF.nil))))))), (hS8.sel [0] rfl rfl)⟩
     ·skip
      have hF9 := cf' hF7 hb4
      refine cw_seq (cw_region ?_)
      refine sQ 55 (Y_move (v := vi (bits .xor .i64 x1.Mask (shlK .i64 1 (IntKind.u64.wrap y)))) rfl rfl) ?_
      obtain ⟨r_3, hc, hF9⟩ := bind_inv hF9
      refine sc 56 rfl rfl (Yc_func (g := 35) (vs := [vi (bits .xor .i64 x1.Mask (shlK .i64 1 (IntKind.u64.wrap y)))]) k_call_35 rfl (mc rfl mn) (c_spec_l1Set (bits .xor .i64 x1.Mask (shlK .i64 1 (IntKind.u64.wrap y))) _  (hS8.inn0 [] rfl) hc)) ?_
      rintro _ w_5 ⟨B2, c4, rfl, hd⟩
      have hS9 := hS8.out0 hd
      refine sQ 57 (Y_len (B := B2) (m := r_3.length) (c := c4) k_sl_60_3 rfl rfl) ?_
      refine sQ 58 (Y_eq (k := .i64) (a := (r_3.length : Int)) (b := 1) rfl rfl rfl) ?_
      refine sQ 59 (Y_move (v := .bool ((r_3.length : Int) == 1)) rfl rfl) ?_
      refine sgq 60 (B := ((r_3.length : Int) == 1)) (v := pt (aD b2) 1) rfl rfl (uT_ 59) (fun hg => (Y_fieldAddr (B := aD b2) (i := 0) (s := 0) k_fd_56_1_1_3 k_sz_3_1 rfl rfl)) ?_
      refine sgq 61 (B := ((r_3.length : Int) == 1)) (v := vi x1.Coef) rfl rfl (uT_ 59) (fun hg1 => (Y_load1 (B := aD b2) (i := 1) (cs := [vi x1.Mask, vi x1.Coef]) (v := vi x1.Coef) k_sc_3 rfl (gv_of (v := pt (aD b2) 1) hg1) (hS9.cf (i := 1) rfl) rfl)) ?_
      refine sgq 62 (B := ((r_3.length : Int) == 1)) (v := .bool (x1.Coef == 4)) rfl rfl (uT_ 59) (fun hg2 => (Y_eq (k := .i64) (a := x1.Coef) (b := 4) rfl (gv_of (v := vi x1.Coef) hg2) rfl)) ?_
      refine sQ 63 (Y_and (b := ((r_3.length : Int) == 1)) (z := (x1.Coef == 4)) rfl rfl rfl rfl) ?_
      refine sQ 54 (Y_assign (v := .bool (((r_3.length : Int) == 1) && (x1.Coef == 4))) rfl rfl) (rw_nil ?_)
      refine cw_cond (b := (((r_3.length : Int) == 1) && (x1.Coef == 4))) rfl (fun hb5 => ?_) (fun hb5 => ?_)
      ·skip
       have hF10 := ct hF9 hb5
       refine cw_region ?_
       refine sQ 64 (Y_move (v := vi z2) rfl (hf1.get 8 3 rfl)) ?_
       refine sQ 65 (Y_move (v := vi (bits .xor .i64 x1.Mask (shlK .i64 1 (IntKind.u64.wrap y)))) rfl rfl) ?_
       refine sQ 66 (Y_bor (k := .i64) (a := z2) (b := (bits .xor .i64 x1.Mask (shlK .i64 1 (IntKind.u64.wrap y)))) rfl rfl rfl) ?_
       refine sQ 8 (Y_assign (v := vi (bits .or .i64 z2 (bits .xor .i64 x1.Mask (shlK .i64 1 (IntKind.u64.wrap y))))) rfl rfl) (rw_nil ?_)
       exact ⟨c2, (bits .or .i64 z2 (bits .xor .i64 x1.Mask (shlK .i64 1 (IntKind.u64.wrap y)))), (some_inj hF10), (FF.cons (hf1.get 1 0 rfl) (FF.cons (hf1.get 2 1 rfl) (FF.cons (hf1.get 7 2 rfl) (FF.cons rfl (FF.cons (hf1.get 30 4 rfl) (FF.cons (hf1.get 31 5 rfl) (FF.cons (hf1.get 32 6 rfl) FF.nil))))))), (hS9.sel [0] rfl rfl)⟩
      ·skip
       have hF11 := cf' hF9 hb5
       refine cw_seq (cw_region ?_)
       refine sQ 4 (Y_assign (v := vi 0) rfl rfl) ?_
       refine sQ 5 (Y_assign (v := vi 0) rfl rfl) ?_
       refine sQ 6 (Y_assign (v := vi 0) rfl rfl) (rw_nil (cw_ret ?_))
       obtain rfl := some_inj hF11
       obtain rfl := some_inj hF5
       obtain rfl := some_inj hL3
       obtain ⟨rfl, rfl, rfl⟩ := pr3 (some_inj hF4)
       exact ret3 Tryd.results36 (v1 := vi 0) (resAt_tmp rfl) (v2 := vi 0) (resAt_tmp rfl) (v3 := vi 0) (resAt_tmp rfl) ⟨rfl, (hS9.sN [])⟩
   rintro f w ⟨c3, z4, rfl, hf2, hS6⟩
   refine cw_region ?_
   refine sQ 67 (Y_add (k := .i64) (a := (i1 : Int)) (b := 1) rfl (hf2.get 32 6 rfl) rfl) ?_
   refine sQ 32 (Y_move (v := vi (i64.wrap ((i1 : Int) + 1))) rfl rfl) (rw_nil ?_)
   obtain rfl := some_inj hF5
   exact ⟨k_3, Nat.lt_succ_self _, i1 + 1, c3, z4, (FF.cons (hf2.get 1 0 rfl) (FF.cons (hf2.get 2 1 rfl) (FF.cons (hf2.get 7 2 rfl) (FF.cons (hf2.get 8 3 rfl) (FF.cons (hf2.get 30 4 rfl) (FF.cons (hf2.get 31 5 rfl) (FF.cons (congrArg (Value.int .i64) (wr_succ hlt3 hN1)) FF.nil))))))), (hS6.sel [0] rfl rfl), (by omega), hL3⟩
  ·skip
   obtain rfl : k_2 = 0 := by have h := of_decide_eq_false hlt2; omega
   refine cw_exit rfl ?_
   obtain rfl := some_inj hL2
   refine cw_seq (cw_block (cw_seq (cw_region ?_)))
   refine sQ 69 (Y_move (v := vi c2) rfl (hf1.get 7 2 rfl)) ?_
   refine sQ 70 (Y_eq (k := .i64) (a := c2) (b := 0) rfl rfl rfl) ?_
   refine sQ 71 (Y_move (v := .bool (c2 == 0)) rfl rfl) ?_
   refine sgq 72 (B := (c2 == 0)) (v := vi z2) rfl rfl (uT_ 71) (fun hg3 => (Y_move (v := vi z2) rfl (hf1.get 8 3 rfl))) ?_
   refine sgq 73 (B := (c2 == 0)) (v := .bool (z2 == 0)) rfl rfl (uT_ 71) (fun hg4 => (Y_eq (k := .i64) (a := z2) (b := 0) rfl (gv_of (v := vi z2) hg4) rfl)) ?_
   refine sQ 74 (Y_and (b := (c2 == 0)) (z := (z2 == 0)) rfl rfl rfl rfl) ?_
   refine sQ 68 (Y_assign (v := .bool ((c2 == 0) && (z2 == 0))) rfl rfl) (rw_nil ?_)
   refine cw_cond (b := ((c2 == 0) && (z2 == 0))) rfl (fun hb6 => ?_) (fun hb6 => ?_)
   ·skip
    have hF12 := ct hF4 hb6
    refine cw_seq (cw_region ?_)
    refine sQ 75 (Y_move (v := vi c2) rfl (hf1.get 7 2 rfl)) ?_
    refine sQ 76 (Y_move (v := vi z2) rfl (hf1.get 8 3 rfl)) ?_
    refine sQ 4 (Y_assign (v := vi 1) rfl rfl) ?_
    refine sQ 5 (Y_assign (v := vi c2) rfl rfl) ?_
    refine sQ 6 (Y_assign (v := vi z2) rfl rfl) (rw_nil (cw_ret ?_))
    obtain ⟨rfl, rfl, rfl⟩ := pr3 (some_inj hF12)
    exact ret3 Tryd.results36 (v1 := vi 1) (resAt_tmp rfl) (v2 := vi c2) (resAt_tmp rfl) (v3 := vi z2) (resAt_tmp rfl) ⟨rfl, (hS5.sN [])⟩
   ·skip
    have hF13 := cf' hF4 hb6
    refine cw_seq (cw_region ?_)
    refine sQ 78 (Y_move (v := vi c2) rfl (hf1.get 7 2 rfl)) ?_
    refine sQ 79 (Y_eq (k := .i64) (a := c2) (b := 2) rfl rfl rfl) ?_
    refine sQ 80 (Y_move (v := .bool (c2 == 2)) rfl rfl) ?_
    refine sgq 81 (B := (!(c2 == 2))) (v := vi c2) rfl rfl (uF_ 80) (fun hg5 => (Y_move (v := vi c2) rfl (hf1.get 7 2 rfl))) ?_
    refine sgq 82 (B := (!(c2 == 2))) (v := .bool (c2 == 6)) rfl rfl (uF_ 80) (fun hg6 => (Y_eq (k := .i64) (a := c2) (b := 6) rfl (gv_of (v := vi c2) hg6) rfl)) ?_
    refine sQ 83 (Y_or (b := (c2 == 2)) (z := (c2 == 6)) rfl rfl rfl rfl) ?_
    refine sQ 77 (Y_assign (v := .bool ((c2 == 2) || (c2 == 6))) rfl rfl) (rw_nil ?_)
    refine cw_cond (b := ((c2 == 2) || (c2 == 6))) rfl (fun hb7 => ?_) (fun hb7 => ?_)
    ·skip
     have hF14 := ct hF13 hb7
     refine cw_seq (cw_region ?_)
     refine sQ 84 (Y_move (v := vi c2) rfl (hf1.get 7 2 rfl)) ?_
     refine sQ 85 (Y_move (v := vi z2) rfl (hf1.get 8 3 rfl)) ?_
     refine sQ 4 (Y_assign (v := vi 2) rfl rfl) ?_
     refine sQ 5 (Y_assign (v := vi c2) rfl rfl) ?_
     refine sQ 6 (Y_assign (v := vi z2) rfl rfl) (rw_nil (cw_ret ?_))
     obtain ⟨rfl, rfl, rfl⟩ := pr3 (some_inj hF14)
     exact ret3 Tryd.results36 (v1 := vi 2) (resAt_tmp rfl) (v2 := vi c2) (resAt_tmp rfl) (v3 := vi z2) (resAt_tmp rfl) ⟨rfl, (hS5.sN [])⟩
    ·skip
     have hF15 := cf' hF13 hb7
     refine cw_seq (cw_region ?_)
     refine sQ 87 (Y_move (v := vi c2) rfl (hf1.get 7 2 rfl)) ?_
     refine sQ 88 (Y_eq (k := .i64) (a := c2) (b := 0) rfl rfl rfl) ?_
     refine sQ 89 (Y_move (v := .bool (c2 == 0)) rfl rfl) ?_
     refine sgq 90 (B := (!(c2 == 0))) (v := vi c2) rfl rfl (uF_ 89) (fun hg7 => (Y_move (v := vi c2) rfl (hf1.get 7 2 rfl))) ?_
     refine sgq 91 (B := (!(c2 == 0))) (v := .bool (c2 == 4)) rfl rfl (uF_ 89) (fun hg8 => (Y_eq (k := .i64) (a := c2) (b := 4) rfl (gv_of (v := vi c2) hg8) rfl)) ?_
     refine sQ 92 (Y_or (b := (c2 == 0)) (z := (c2 == 4)) rfl rfl rfl rfl) ?_
     refine sQ 93 (Y_move (v := .bool ((c2 == 0) || (c2 == 4))) rfl rfl) ?_
     refine sgq 94 (B := ((c2 == 0) || (c2 == 4))) (v := vi z2) rfl rfl (uT_ 93) (fun hg9 => (Y_move (v := vi z2) rfl (hf1.get 8 3 rfl))) ?_
     refine sgq 95 (B := ((c2 == 0) || (c2 == 4))) (v := pt (aD b) 0) rfl rfl (uT_ 93) (fun hg10 => (Y_fieldAddr (B := aD b) (i := 0) (s := 0) k_fd_30_0_0_3 k_sz_3_1 rfl (hf1.get 2 1 rfl))) ?_
     refine sgq 96 (B := ((c2 == 0) || (c2 == 4))) (v := vi p.Ins) rfl rfl (uT_ 93) (fun hg11 => (Y_load1 (B := aD b) (i := 0) (cs := [vi p.Ins, vi p.Vars, vi p.Root, vi p.Phase, .slice B p.Terms.length c, .slice B1 p.Out.length c1]) (v := vi p.Ins) k_sc_3 rfl (gv_of (v := pt (aD b) 0) hg11) (hS5.cf (i := 0) rfl) rfl)) ?_
     refine sgq 97 (B := ((c2 == 0) || (c2 == 4))) (v := .int .u64 (IntKind.u64.wrap p.Ins)) rfl rfl (uT_ 93) (fun hg12 => (Y_conv (k := .i64) (a := p.Ins) (T := 3) (T' := 59) k_us_3 k_int_59_u64 rfl (gv_of (v := vi p.Ins) hg12))) ?_
     obtain ⟨hsh3, hF15⟩ := chk_inv hF15
     refine sgq 98 (B := ((c2 == 0) || (c2 == 4))) (v := vi (shrK .i64 z2 (IntKind.u64.wrap p.Ins))) rfl rfl (uT_ 93) (fun hg13 => (Y_shr (k := .i64) (a := z2) (k' := .u64) (b := (IntKind.u64.wrap p.Ins)) rfl (gv_of (v := vi z2) hg13) (gv_of (v := .int .u64 (IntKind.u64.wrap p.Ins)) hg13) (hsh3 hg13))) ?_
     refine sgq 99 (B := ((c2 == 0) || (c2 == 4))) (v := .bool (decide (0 < (shrK .i64 z2 (IntKind.u64.wrap p.Ins))))) rfl rfl (uT_ 93) (fun hg14 => (Y_gt (k := .i64) (a := (shrK .i64 z2 (IntKind.u64.wrap p.Ins))) (b := 0) rfl (gv_of (v := vi (shrK .i64 z2 (IntKind.u64.wrap p.Ins))) hg14) rfl)) ?_
     refine sQ 100 (Y_and (b := ((c2 == 0) || (c2 == 4))) (z := (decide (0 < (shrK .i64 z2 (IntKind.u64.wrap p.Ins))))) rfl rfl rfl rfl) ?_
     refine sQ 86 (Y_assign (v := .bool (((c2 == 0) || (c2 == 4)) && (decide (0 < (shrK .i64 z2 (IntKind.u64.wrap p.Ins)))))) rfl rfl) (rw_nil ?_)
     refine cw_cond (b := (((c2 == 0) || (c2 == 4)) && (decide (0 < (shrK .i64 z2 (IntKind.u64.wrap p.Ins)))))) rfl (fun hb8 => ?_) (fun hb8 => ?_)
     ·skip
      have hF16 := ct hF15 hb8
      refine cw_seq (cw_region ?_)
      refine sQ 101 (Y_move (v := vi c2) rfl (hf1.get 7 2 rfl)) ?_
      refine sQ 102 (Y_move (v := vi z2) rfl (hf1.get 8 3 rfl)) ?_
      refine sQ 4 (Y_assign (v := vi 3) rfl rfl) ?_
      refine sQ 5 (Y_assign (v := vi c2) rfl rfl) ?_
      refine sQ 6 (Y_assign (v := vi z2) rfl rfl) (rw_nil (cw_ret ?_))
      obtain ⟨rfl, rfl, rfl⟩ := pr3 (some_inj hF16)
      exact ret3 Tryd.results36 (v1 := vi 3) (resAt_tmp rfl) (v2 := vi c2) (resAt_tmp rfl) (v3 := vi z2) (resAt_tmp rfl) ⟨rfl, (hS5.sN [])⟩
     ·skip
      have hF17 := cf' hF15 hb8
      refine cw_skip (cw_seq (cw_region ?_))
      refine sQ 4 (Y_assign (v := vi 0) rfl rfl) ?_
      refine sQ 5 (Y_assign (v := vi 0) rfl rfl) ?_
      refine sQ 6 (Y_assign (v := vi 0) rfl rfl) (rw_nil (cw_ret ?_))
      obtain ⟨rfl, rfl, rfl⟩ := pr3 (some_inj hF17)
      exact ret3 Tryd.results36 (v1 := vi 0) (resAt_tmp rfl) (v2 := vi 0) (resAt_tmp rfl) (v3 := vi 0) (resAt_tmp rfl) ⟨rfl, (hS5.sN [])⟩

theorem c_spec_l21Drop (mask : Int) (v_ : Int)  (w0 : World)  (hS : ST w0 [] w0 [] []) {r_ : Int} (hF : F_spec_l21Drop mask v_ = some r_) :
  CV Tryd.prog 38 #[vi mask, vi v_] w0 (fun v w' => v = vi r_ ∧ ST w0 [] w' [] []) := by
 unfold F_spec_l21Drop at hF
 refine cv_of_cw 20 Tryd.func38 rfl Tryd.ntmps38 rfl ?_
 refine cw_seq (cw_region ?_)
 refine sQ 4 (Y_assign (v := vi 0) rfl rfl) (rw_nil (cw_seq (cw_region ?_)))
 refine sQ 5 (Y_move (v := vi mask) rfl rfl) ?_
 refine sQ 6 (Y_move (v := vi v_) rfl rfl) ?_
 refine sQ 7 (Y_conv (k := .i64) (a := v_) (T := 3) (T' := 59) k_us_3 k_int_59_u64 rfl rfl) ?_
 obtain ⟨hsh, hF⟩ := chk_inv hF
 refine sQ 8 (Y_shl (k := .i64) (a := 1) (k' := .u64) (b := (IntKind.u64.wrap v_)) rfl rfl rfl hsh) ?_
 refine sQ 9 (Y_sub (k := .i64) (a := (shlK .i64 1 (IntKind.u64.wrap v_))) (b := 1) rfl rfl rfl) ?_
 refine sQ 10 (Y_band (k := .i64) (a := mask) (b := (i64.wrap ((shlK .i64 1 (IntKind.u64.wrap v_)) - 1))) rfl rfl rfl) ?_
 refine sQ 11 (Y_move (v := vi mask) rfl rfl) ?_
 refine sQ 12 (Y_move (v := vi v_) rfl rfl) ?_
 refine sQ 13 (Y_add (k := .i64) (a := v_) (b := 1) rfl rfl rfl) ?_
 refine sQ 14 (Y_conv (k := .i64) (a := (i64.wrap (v_ + 1))) (T := 3) (T' := 59) k_us_3 k_int_59_u64 rfl rfl) ?_
 obtain ⟨hsh1, hF⟩ := chk_inv hF
 refine sQ 15 (Y_shr (k := .i64) (a := mask) (k' := .u64) (b := (IntKind.u64.wrap (i64.wrap (v_ + 1)))) rfl rfl rfl hsh1) ?_
 refine sQ 16 (Y_move (v := vi v_) rfl rfl) ?_
 refine sQ 17 (Y_conv (k := .i64) (a := v_) (T := 3) (T' := 59) k_us_3 k_int_59_u64 rfl rfl) ?_
 obtain ⟨hsh2, hF⟩ := chk_inv hF
 refine sQ 18 (Y_shl (k := .i64) (a := (shrK .i64 mask (IntKind.u64.wrap (i64.wrap (v_ + 1))))) (k' := .u64) (b := (IntKind.u64.wrap v_)) rfl rfl rfl hsh2) ?_
 refine sQ 19 (Y_bor (k := .i64) (a := (bits .and .i64 mask (i64.wrap ((shlK .i64 1 (IntKind.u64.wrap v_)) - 1)))) (b := (shlK .i64 (shrK .i64 mask (IntKind.u64.wrap (i64.wrap (v_ + 1)))) (IntKind.u64.wrap v_))) rfl rfl rfl) ?_
 refine sQ 4 (Y_assign (v := vi (bits .or .i64 (bits .and .i64 mask (i64.wrap ((shlK .i64 1 (IntKind.u64.wrap v_)) - 1))) (shlK .i64 (shrK .i64 mask (IntKind.u64.wrap (i64.wrap (v_ + 1)))) (IntKind.u64.wrap v_)))) rfl rfl) (rw_nil (cw_ret ?_))
 obtain rfl := some_inj hF
 exact ret1 Tryd.results38 (v1 := vi (bits .or .i64 (bits .and .i64 mask (i64.wrap ((shlK .i64 1 (IntKind.u64.wrap v_)) - 1))) (shlK .i64 (shrK .i64 mask (IntKind.u64.wrap (i64.wrap (v_ + 1)))) (IntKind.u64.wrap v_)))) (resAt_tmp rfl) ⟨rfl, (hS.sN [])⟩

theorem c_spec_l21Sum_add (s : Tl21Sum) (mask : Int) (k_ : Int) (B : Option Addr) (B1 : Option Addr) (c n : Nat) (w0 : World) (hn : s.terms.length = n) (hq : n ≤ c) (hS : ST w0 (bl [⟨B, 68, [vi s.phase, .slice B1 n c], 2⟩, ⟨B1, 56, (s.terms.flatMap eN0), c * 2⟩]) w0 [⟨B, 68, [vi s.phase, .slice B1 n c], 2⟩, ⟨B1, 56, (s.terms.flatMap eN0), c * 2⟩] []) {m : Tl21Sum} (hF : F_spec_l21Sum_add s mask k_ = some m) :
  CV Tryd.prog 39 #[pt B 0, vi mask, vi k_] w0 (fun v w' => ∃ (B2 : Option Addr) (c1 : Nat), v = .tuple #[] ∧ ST w0 (bl [⟨B, 68, [vi s.phase, .slice B1 n c], 2⟩, ⟨B1, 56, (s.terms.flatMap eN0), c * 2⟩]) w' [⟨B, 68, [vi m.phase, .slice B2 m.terms.length c1], 2⟩, ⟨B2, 56, (m.terms.flatMap eN0), c1 * 2⟩] []) := by
 subst hn
 unfold F_spec_l21Sum_add at hF
 refine cv_of_cw 154 Tryd.func39 rfl Tryd.ntmps39 rfl ?_
 refine cw_seq (cw_region ?_)
 refine sQ 9 (Y_move (v := vi k_) rfl rfl) ?_
 refine sQ 10 (Y_rem (k := .i64) (a := k_) (b := 8) rfl rfl rfl (by decide)) ?_
 refine sQ 11 (Y_add (k := .i64) (a := (Int.tmod k_ 8)) (b := 8) rfl rfl rfl) ?_
 refine sQ 12 (Y_rem (k := .i64) (a := (i64.wrap ((Int.tmod k_ 8) + 8))) (b := 8) rfl rfl rfl (by decide)) ?_
 refine sQ 2 (Y_assign (v := vi (Int.tmod (i64.wrap ((Int.tmod k_ 8) + 8)) 8)) rfl rfl) (rw_nil (cw_seq (cw_seq (cw_region ?_))))
 refine sQ 13 (Y_move (v := vi mask) rfl rfl) ?_
 refine sQ 14 (Y_eq (k := .i64) (a := mask) (b := 0) rfl rfl rfl) (rw_nil ?_)
 refine cw_cond (b := (mask == 0)) rfl (fun hb => ?_) (fun hb => ?_)
 ·skip
  have hF1 := ct hF hb
  refine cw_seq (cw_region ?_)
  refine sQ 15 (Y_move (v := pt B 0) rfl rfl) ?_
  refine sQ 16 (Y_move (v := pt B 0) rfl rfl) ?_
  refine sQ 17 (Y_nilCheck (B := B) (i := 0) rfl rfl) ?_
  refine sQ 18 (Y_fieldAddr (B := B) (i := 0) (s := 0) k_fd_68_0_0_3 k_sz_3_1 rfl rfl) ?_
  refine sQ 19 (Y_load1 (B := B) (i := 0) (cs := [vi s.phase, .slice B1 s.terms.length c]) (v := vi s.phase) k_sc_3 rfl rfl (hS.cf (i := 0) rfl) rfl) ?_
  refine sQ 20 (Y_move (v := vi (Int.tmod (i64.wrap ((Int.tmod k_ 8) + 8)) 8)) rfl rfl) ?_
  refine sQ 21 (Y_add (k := .i64) (a := s.phase) (b := (Int.tmod (i64.wrap ((Int.tmod k_ 8) + 8)) 8)) rfl rfl rfl) ?_
  refine sQ 22 (Y_rem (k := .i64) (a := (i64.wrap (s.phase + (Int.tmod (i64.wrap ((Int.tmod k_ 8) + 8)) 8)))) (b := 8) rfl rfl rfl (by decide)) ?_
  refine sQ 23 (Y_nilCheck (B := B) (i := 0) rfl rfl) ?_
  refine sQ 24 (Y_fieldAddr (B := B) (i := 0) (s := 0) k_fd_68_0_0_3 k_sz_3_1 rfl rfl) ?_
  refine s0 (Ys_store (i := 0) (s := 1) (B := B) (T' := 68) (v := vi (Int.tmod (i64.wrap (s.phase + (Int.tmod (i64.wrap ((Int.tmod k_ 8) + 8)) 8))) 8)) (vs := [vi (Int.tmod (i64.wrap (s.phase + (Int.tmod (i64.wrap ((Int.tmod k_ 8) + 8)) 8))) 8)]) (k := 0) (cs' := [vi (Int.tmod (i64.wrap (s.phase + (Int.tmod (i64.wrap ((Int.tmod k_ 8) + 8)) 8))) 8), .slice B1 s.terms.length c]) hS k_sz_3_1 rfl rfl rfl rfl rfl rfl rfl (lB rfl) rfl rfl) ?_
  rintro _ w_ ⟨rfl, hS1⟩
  refine rw_nil (cw_ret ?_)
  obtain rfl := some_inj hF1
  exact ret0 Tryd.results39  ⟨B1, c, rfl, (hS1.sN [0, 1])⟩
 ·skip
  have hF2 := cf' hF hb
  refine cw_skip (cw_seq (cw_seq (cw_region ?_)))
  refine sQ 25 (Y_move (v := vi (Int.tmod (i64.wrap ((Int.tmod k_ 8) + 8)) 8)) rfl rfl) ?_
  refine sQ 26 (Y_eq (k := .i64) (a := (Int.tmod (i64.wrap ((Int.tmod k_ 8) + 8)) 8)) (b := 0) rfl rfl rfl) (rw_nil ?_)
  refine cw_cond (b := ((Int.tmod (i64.wrap ((Int.tmod k_ 8) + 8)) 8) == 0)) rfl (fun hb1 => ?_) (fun hb1 => ?_)
  ·skip
   have hF3 := ct hF2 hb1
   refine cw_ret ?_
   obtain rfl := some_inj hF3
   exact ret0 Tryd.results39  ⟨B1, c, rfl, (hS.sN [0, 1])⟩
  ·skip
   have hF4 := cf' hF2 hb1
   refine cw_skip (cw_seq (cw_region ?_))
   refine sQ 6 (Y_assign (v := vi 0) rfl rfl) (rw_nil (cw_seq ?_))
   obtain ⟨z, hz, hF5⟩ := bind_inv hF4
   refine cw_block ?_
   refine cw_loop (fun k f w => ∃ (at_ : Int), FF f [(0, pt B 0), (1, vi mask), (2, vi (Int.tmod (i64.wrap ((Int.tmod k_ 8) + 8)) 8)), (6, vi at_)] ∧ ST w0 (bl [⟨B, 68, [vi s.phase, .slice B1 s.terms.length c], 2⟩, ⟨B1, 56, (s.terms.flatMap eN0), c * 2⟩]) w [⟨B, 68, [vi s.phase, .slice B1 s.terms.length c], 2⟩, ⟨B1, 56, (s.terms.flatMap eN0), c * 2⟩] [] ∧ whX (F_spec_l21Sum_add_l1 s mask) k at_ = some z) fuel ⟨0, (FF.cons rfl (FF.cons rfl (FF.cons rfl (FF.cons rfl FF.nil)))), (hS.sel [0, 1] rfl rfl), hz⟩ ?_
   rintro k_1 f w ⟨at_, hf, hS2, hL⟩
   obtain ⟨k_2, y, rfl, hb2, hL1⟩ := whX_go hL
   unfold F_spec_l21Sum_add_l1 at hb2
   refine cw_seq (cw_seq (cw_region ?_))
   refine sQ 27 (Y_move (v := vi at_) rfl (hf.get 6 3 rfl)) ?_
   refine sQ 28 (Y_move (v := pt B 0) rfl (hf.get 0 0 rfl)) ?_
   refine sQ 29 (Y_nilCheck (B := B) (i := 0) rfl rfl) ?_
   refine sQ 30 (Y_fieldAddr (B := B) (i := 0) (s := 0) k_fd_68_1_1_27 k_sz_27_1 rfl rfl) ?_
   refine sQ 31 (Y_load1 (B := B) (i := 1) (cs := [vi s.phase, .slice B1 s.terms.length c]) (v := .slice B1 s.terms.length c) k_sc_27 rfl rfl (hS2.cf (i := 0) rfl) rfl) ?_
   refine sQ 32 (Y_len (B := B1) (m := s.terms.length) (c := c) k_sl_27_56 rfl rfl) ?_
   refine sQ 33 (Y_lt (k := .i64) (a := at_) (b := (s.terms.length : Int)) rfl rfl rfl) ?_
   refine sQ 34 (Y_move (v := .bool (decide (at_ < (s.terms.length : Int)))) rfl rfl) ?_
   refine sgq 35 (B := (decide (at_ < (s.terms.length : Int)))) (v := pt B 0) rfl rfl (uT_ 34) (fun hg => (Y_move (v := pt B 0) rfl (hf.get 0 0 rfl))) ?_
   refine sgq 36 (B := (decide (at_ < (s.terms.length : Int)))) (v := pt B 0) rfl rfl (uT_ 34) (fun hg1 => (Y_nilCheck (B := B) (i := 0) rfl (gv_of (v := pt B 0) hg1))) ?_
   refine sgq 37 (B := (decide (at_ < (s.terms.length : Int)))) (v := pt B 1) rfl rfl (uT_ 34) (fun hg2 => (Y_fieldAddr (B := B) (i := 0) (s := 0) k_fd_68_1_1_27 k_sz_27_1 rfl (gv_of (v := pt B 0) hg2))) ?_
   refine sgq 38 (B := (decide (at_ < (s.terms.length : Int)))) (v := .slice B1 s.terms.length c) rfl rfl (uT_ 34) (fun hg3 => (Y_load1 (B := B) (i := 1) (cs := [vi s.phase, .slice B1 s.terms.length c]) (v := .slice B1 s.terms.length c) k_sc_27 rfl (gv_of (v := pt B 1) hg3) (hS2.cf (i := 0) rfl) rfl)) ?_
   refine sgq 39 (B := (decide (at_ < (s.terms.length : Int)))) (v := vi at_) rfl rfl (uT_ 34) (fun hg4 => (Y_move (v := vi at_) rfl (hf.get 6 3 rfl))) ?_
   obtain ⟨x, hx, hb2⟩ := bind_inv hb2
   refine sgq 40 (B := (decide (at_ < (s.terms.length : Int)))) (v := pt B1 (at_.toNat * 2)) rfl rfl (uT_ 34) (fun hg5 => (Y_index (B := B1) (m := s.terms.length) (c := c) (k := .i64) (i := at_) k_sl_27_56 k_sz_56_2 rfl (gv_of (v := .slice B1 s.terms.length c) hg5) (gv_of (v := vi at_) hg5) (gi_isSome eN2 rfl (hS2.cf (i := 1) rfl) (gb_inv hx hg5)) (getI_nn (gb_inv hx hg5)) (getI_ltI (gb_inv hx hg5) rfl))) ?_
   refine sgq 41 (B := (decide (at_ < (s.terms.length : Int)))) (v := pt B1 (at_.toNat * 2 + 0)) rfl rfl (uT_ 34) (fun hg6 => (Y_fieldAddr (B := B1) (i := at_.toNat * 2) (s := 0) k_fd_56_0_0_3 k_sz_3_1 rfl (gv_of (v := pt B1 (at_.toNat * 2)) hg6))) ?_
   refine sgq 42 (B := (decide (at_ < (s.terms.length : Int)))) (v := vi x.Mask) rfl rfl (uT_ 34) (fun hg7 => (Y_load1 (B := B1) (i := at_.toNat * 2 + 0) (cs := (s.terms.flatMap eN0)) (v := vi x.Mask) k_sc_3 rfl (gv_of (v := pt B1 (at_.toNat * 2 + 0)) hg7) (hS2.cf (i := 1) rfl) (gi_at eN2 (gb_inv hx hg7) rfl))) ?_
   refine sgq 43 (B := (decide (at_ < (s.terms.length : Int)))) (v := vi mask) rfl rfl (uT_ 34) (fun hg8 => (Y_move (v := vi mask) rfl (hf.get 1 1 rfl))) ?_
   refine sgq 44 (B := (decide (at_ < (s.terms.length : Int)))) (v := .bool (decide (x.Mask < mask))) rfl rfl (uT_ 34) (fun hg9 => (Y_lt (k := .i64) (a := x.Mask) (b := mask) rfl (gv_of (v := vi x.Mask) hg9) (gv_of (v := vi mask) hg9))) ?_
   refine sQ 45 (Y_and (b := (decide (at_ < (s.terms.length : Int)))) (z := (decide (x.Mask < mask))) rfl rfl rfl rfl) (rw_nil ?_)
   refine cw_cond (b := ((decide (at_ < (s.terms.length : Int))) && (decide (x.Mask < mask)))) rfl (fun hb3 => ?_) (fun hb3 => ?_)
   ·skip
    have hF6 := ct hb2 hb3
    refine cw_skip (cw_block (cw_region ?_))
    refine sQ 46 (Y_move (v := vi at_) rfl (hf.get 6 3 rfl)) ?_
    refine sQ 47 (Y_add (k := .i64) (a := at_) (b := 1) rfl rfl rfl) ?_
    refine sQ 6 (Y_assign (v := vi (i64.wrap (at_ + 1))) rfl rfl) (rw_nil ?_)
    obtain rfl := some_inj hF6
    exact ⟨k_2, Nat.lt_succ_self _, (i64.wrap (at_ + 1)), (FF.cons (hf.get 0 0 rfl) (FF.cons (hf.get 1 1 rfl) (FF.cons (hf.get 2 2 rfl) (FF.cons rfl FF.nil)))), (hS2.sel [0, 1] rfl rfl), hL1⟩
   ·skip
    have hF7 := cf' hb2 hb3
    refine cw_exit rfl ?_
    obtain rfl := some_inj hF7
    obtain rfl := some_inj hL1
    refine cw_seq (cw_seq (cw_region ?_))
    refine sQ 48 (Y_move (v := vi at_) rfl (hf.get 6 3 rfl)) ?_
    refine sQ 49 (Y_move (v := pt B 0) rfl (hf.get 0 0 rfl)) ?_
    refine sQ 50 (Y_nilCheck (B := B) (i := 0) rfl rfl) ?_
    refine sQ 51 (Y_fieldAddr (B := B) (i := 0) (s := 0) k_fd_68_1_1_27 k_sz_27_1 rfl rfl) ?_
    refine sQ 52 (Y_load1 (B := B) (i := 1) (cs := [vi s.phase, .slice B1 s.terms.length c]) (v := .slice B1 s.terms.length c) k_sc_27 rfl rfl (hS2.cf (i := 0) rfl) rfl) ?_
    refine sQ 53 (Y_len (B := B1) (m := s.terms.length) (c := c) k_sl_27_56 rfl rfl) ?_
    refine sQ 54 (Y_lt (k := .i64) (a := at_) (b := (s.terms.length : Int)) rfl rfl rfl) ?_
    refine sQ 55 (Y_move (v := .bool (decide (at_ < (s.terms.length : Int)))) rfl rfl) ?_
    refine sgq 56 (B := (decide (at_ < (s.terms.length : Int)))) (v := pt B 0) rfl rfl (uT_ 55) (fun hg10 => (Y_move (v := pt B 0) rfl (hf.get 0 0 rfl))) ?_
    refine sgq 57 (B := (decide (at_ < (s.terms.length : Int)))) (v := pt B 0) rfl rfl (uT_ 55) (fun hg11 => (Y_nilCheck (B := B) (i := 0) rfl (gv_of (v := pt B 0) hg11))) ?_
    refine sgq 58 (B := (decide (at_ < (s.terms.length : Int)))) (v := pt B 1) rfl rfl (uT_ 55) (fun hg12 => (Y_fieldAddr (B := B) (i := 0) (s := 0) k_fd_68_1_1_27 k_sz_27_1 rfl (gv_of (v := pt B 0) hg12))) ?_
    refine sgq 59 (B := (decide (at_ < (s.terms.length : Int)))) (v := .slice B1 s.terms.length c) rfl rfl (uT_ 55) (fun hg13 => (Y_load1 (B := B) (i := 1) (cs := [vi s.phase, .slice B1 s.terms.length c]) (v := .slice B1 s.terms.length c) k_sc_27 rfl (gv_of (v := pt B 1) hg13) (hS2.cf (i := 0) rfl) rfl)) ?_
    refine sgq 60 (B := (decide (at_ < (s.terms.length : Int)))) (v := vi at_) rfl rfl (uT_ 55) (fun hg14 => (Y_move (v := vi at_) rfl (hf.get 6 3 rfl))) ?_
    obtain ⟨x1, hx1, hF5⟩ := bind_inv hF5
    refine sgq 61 (B := (decide (at_ < (s.terms.length : Int)))) (v := pt B1 (at_.toNat * 2)) rfl rfl (uT_ 55) (fun hg15 => (Y_index (B := B1) (m := s.terms.length) (c := c) (k := .i64) (i := at_) k_sl_27_56 k_sz_56_2 rfl (gv_of (v := .slice B1 s.terms.length c) hg15) (gv_of (v := vi at_) hg15) (gi_isSome eN2 rfl (hS2.cf (i := 1) rfl) (gb_inv hx1 hg15)) (getI_nn (gb_inv hx1 hg15)) (getI_ltI (gb_inv hx1 hg15) rfl))) ?_
    refine sgq 62 (B := (decide (at_ < (s.terms.length : Int)))) (v := pt B1 (at_.toNat * 2 + 0)) rfl rfl (uT_ 55) (fun hg16 => (Y_fieldAddr (B := B1) (i := at_.toNat * 2) (s := 0) k_fd_56_0_0_3 k_sz_3_1 rfl (gv_of (v := pt B1 (at_.toNat * 2)) hg16))) ?_
    refine sgq 63 (B := (decide (at_ < (s.terms.length : Int)))) (v := vi x1.Mask) rfl rfl (uT_ 55) (fun hg17 => (Y_load1 (B := B1) (i := at_.toNat * 2 + 0) (cs := (s.terms.flatMap eN0)) (v := vi x1.Mask) k_sc_3 rfl (gv_of (v := pt B1 (at_.toNat * 2 + 0)) hg17) (hS2.cf (i := 1) rfl) (gi_at eN2 (gb_inv hx1 hg17) rfl))) ?_
    refine sgq 64 (B := (decide (at_ < (s.terms.length : Int)))) (v := vi mask) rfl rfl (uT_ 55) (fun hg18 => (Y_move (v := vi mask) rfl (hf.get 1 1 rfl))) ?_
    refine sgq 65 (B := (decide (at_ < (s.terms.length : Int)))) (v := .bool (x1.Mask == mask)) rfl rfl (uT_ 55) (fun hg19 => (Y_eq (k := .i64) (a := x1.Mask) (b := mask) rfl (gv_of (v := vi x1.Mask) hg19) (gv_of (v := vi mask) hg19))) ?_
    refine sQ 66 (Y_and (b := (decide (at_ < (s.terms.length : Int)))) (z := (x1.Mask == mask)) rfl rfl rfl rfl) (rw_nil ?_)
    refine cw_cond (b := ((decide (at_ < (s.terms.length : Int))) && (x1.Mask == mask))) rfl (fun hb4 => ?_) (fun hb4 => ?_)
    ·skip
     have hF8 := ct hF5 hb4
     refine cw_seq (cw_region ?_)
     refine sQ 67 (Y_move (v := vi (Int.tmod (i64.wrap ((Int.tmod k_ 8) + 8)) 8)) rfl (hf.get 2 2 rfl)) ?_
     refine sQ 68 (Y_move (v := pt B 0) rfl (hf.get 0 0 rfl)) ?_
     refine sQ 69 (Y_nilCheck (B := B) (i := 0) rfl rfl) ?_
     refine sQ 70 (Y_fieldAddr (B := B) (i := 0) (s := 0) k_fd_68_1_1_27 k_sz_27_1 rfl rfl) ?_
     refine sQ 71 (Y_load1 (B := B) (i := 1) (cs := [vi s.phase, .slice B1 s.terms.length c]) (v := .slice B1 s.terms.length c) k_sc_27 rfl rfl (hS2.cf (i := 0) rfl) rfl) ?_
     refine sQ 72 (Y_move (v := vi at_) rfl (hf.get 6 3 rfl)) ?_
     obtain ⟨x2, hx2, hF8⟩ := bind_inv hF8
     refine sQ 73 (Y_index (B := B1) (m := s.terms.length) (c := c) (k := .i64) (i := at_) k_sl_27_56 k_sz_56_2 rfl rfl rfl (gi_isSome eN2 rfl (hS2.cf (i := 1) rfl) hx2) (getI_nn hx2) (getI_ltI hx2 rfl)) ?_
     refine sQ 74 (Y_fieldAddr (B := B1) (i := at_.toNat * 2) (s := 0) k_fd_56_1_1_3 k_sz_3_1 rfl rfl) ?_
     refine sQ 75 (Y_load1 (B := B1) (i := at_.toNat * 2 + 1) (cs := (s.terms.flatMap eN0)) (v := vi x2.Coef) k_sc_3 rfl rfl (hS2.cf (i := 1) rfl) (gi_at eN2 hx2 rfl)) ?_
     refine sQ 76 (Y_add (k := .i64) (a := (Int.tmod (i64.wrap ((Int.tmod k_ 8) + 8)) 8)) (b := x2.Coef) rfl rfl rfl) ?_
     refine sQ 77 (Y_rem (k := .i64) (a := (i64.wrap ((Int.tmod (i64.wrap ((Int.tmod k_ 8) + 8)) 8) + x2.Coef))) (b := 8) rfl rfl rfl (by decide)) ?_
     refine sQ 2 (Y_assign (v := vi (Int.tmod (i64.wrap ((Int.tmod (i64.wrap ((Int.tmod k_ 8) + 8)) 8) + x2.Coef)) 8)) rfl rfl) (rw_nil (cw_seq (cw_region ?_)))
     refine sS 78 (Ys_bslice0 (s := 2) (e := 56) hS2 k_sl_27_56 k_sz_56_2 rfl) ?_
     rintro _ w_1 ⟨b, rfl, hS3⟩
     refine sQ 79 (Y_move (v := pt B 0) rfl (hf.get 0 0 rfl)) ?_
     refine sQ 80 (Y_nilCheck (B := B) (i := 0) rfl rfl) ?_
     refine sQ 81 (Y_fieldAddr (B := B) (i := 0) (s := 0) k_fd_68_1_1_27 k_sz_27_1 rfl rfl) ?_
     refine sQ 82 (Y_load1 (B := B) (i := 1) (cs := [vi s.phase, .slice B1 s.terms.length c]) (v := .slice B1 s.terms.length c) k_sc_27 rfl rfl (hS3.cf (i := 0) rfl) rfl) ?_
     refine sQ 83 (Y_move (v := vi at_) rfl (hf.get 6 3 rfl)) ?_
     refine sQ 84 (Y_add (k := .i64) (a := at_) (b := 1) rfl rfl rfl) ?_
     obtain ⟨hsl, hF8⟩ := chk_inv hF8
     have hcap : s.terms.length ≤ c := (hS3.lencap (i := 1) rfl (fm_lenn (l := s.terms) eN2 rfl) rfl rfl)
     have ho1 : Org w0 (bl [⟨B, 68, [vi s.phase, .slice B1 s.terms.length c], 2⟩, ⟨B1, 56, (s.terms.flatMap eN0), c * 2⟩]) [] [⟨B1, (s.terms.flatMap eN0)⟩] := ST.orgOwn hS3 (i := 1) rfl
     have hcap1 : s.terms.length ≤ c := (hS3.lencap (i := 1) rfl (fm_lenn (l := s.terms) eN2 rfl) rfl rfl)
     have hS4 : ST w0 (bl [⟨B, 68, [vi s.phase, .slice B1 s.terms.length c], 2⟩, ⟨B1, 56, (s.terms.flatMap eN0), c * 2⟩]) _ [⟨B, 68, [vi s.phase, .slice B1 s.terms.length c], 2⟩, ⟨aD b, 56, ([].flatMap eN0), 0 * 2⟩] [⟨B1, (s.terms.flatMap eN0)⟩] := hS3.freeze (i := 1) rfl
     have hv : (List.drop ((i64.wrap (at_ + 1)).toNat) s.terms).length = (s.terms.length - (i64.wrap (at_ + 1)).toNat) := (drop_len rfl)
     have hq1 : (s.terms.length - (i64.wrap (at_ + 1)).toNat) ≤ (c - (i64.wrap (at_ + 1)).toNat) := by omega
     have ho : Org w0 (bl [⟨B, 68, [vi s.phase, .slice B1 s.terms.length c], 2⟩, ⟨B1, 56, (s.terms.flatMap eN0), c * 2⟩]) [] [⟨(sv B1 ((i64.wrap (at_ + 1)).toNat) c 2), ((List.drop ((i64.wrap (at_ + 1)).toNat) s.terms).flatMap eN0)⟩] := org_view eN2 (q := c) ho1 rfl (take_all rfl _)
     have hS5 : ST w0 (bl [⟨B, 68, [vi s.phase, .slice B1 s.terms.length c], 2⟩, ⟨B1, 56, (s.terms.flatMap eN0), c * 2⟩]) _ [⟨B, 68, [vi s.phase, .slice B1 s.terms.length c], 2⟩, ⟨aD b, 56, ([].flatMap eN0), 0 * 2⟩] [⟨(sv B1 ((i64.wrap (at_ + 1)).toNat) c 2), ((List.drop ((i64.wrap (at_ + 1)).toNat) s.terms).flatMap eN0)⟩, ⟨B1, (s.terms.flatMap eN0)⟩] := ST.view eN2 hS4 (i := 0) rfl (lo := (i64.wrap (at_ + 1)).toNat) (h := s.terms.length) (q := c) (by omega) (by omega) rfl (take_all rfl _)
     refine sQ 85 (Y_slice1 (B := B1) (m := s.terms.length) (c := c) (l := (i64.wrap (at_ + 1)).toNat) (h := s.terms.length) (s := 2) k_sl_27_56 k_sz_56_2 rfl rfl rfl (bnd_some rfl (nn_toNat (by omega))) (by omega) (by omega)) ?_
     obtain ⟨hap, hF8⟩ := chk_inv hF8
     refine sS 86 (Ys_append (s := 2) (by' := 16) (i := 1) (nn := 0) (c := 0) (k := (s.terms.length - (i64.wrap (at_ + 1)).toNat)) (len := (List.drop ((i64.wrap (at_ + 1)).toNat) s.terms).length) (B := aD b) (xs := ((List.drop ((i64.wrap (at_ + 1)).toNat) s.terms).flatMap eN0)) (cs' := ((List.drop ((i64.wrap (at_ + 1)).toNat) s.terms).flatMap eN0)) hS5 k_sl_27_56 k_sz_56_2 k_by_56_16 k_zero_56 rfl (by decide) rfl rfl rfl rfl (fm_lenn (l := []) eN2 rfl) rfl (hS5.rf (i := 0) rfl) (fm_lenn (l := (List.drop ((i64.wrap (at_ + 1)).toNat) s.terms)) eN2 hv) (fm_one' (enc := eN0) enc_Term_one (List.drop ((i64.wrap (at_ + 1)).toNat) s.terms)) (by have := hap; omega) (by have := hap; simp only [maxLen]; omega) rfl (app_len0 (l := (List.drop ((i64.wrap (at_ + 1)).toNat) s.terms)) hv)) ?_
     rintro _ w_2 ⟨B3, c2, rfl, hS6⟩
     refine sQ 7 (Y_assign (v := .slice B3 ((List.drop ((i64.wrap (at_ + 1)).toNat) s.terms).length) c2) rfl rfl) (rw_nil (cw_seq (cw_region ?_)))
     refine sQ 87 (Y_move (v := pt B 0) rfl (hf.get 0 0 rfl)) ?_
     refine sS 88 (Ys_bslice0 (s := 2) (e := 56) hS6 k_sl_27_56 k_sz_56_2 rfl) ?_
     rintro _ w_3 ⟨b1, rfl, hS7⟩
     refine sQ 89 (Y_move (v := pt B 0) rfl (hf.get 0 0 rfl)) ?_
     refine sQ 90 (Y_nilCheck (B := B) (i := 0) rfl rfl) ?_
     refine sQ 91 (Y_fieldAddr (B := B) (i := 0) (s := 0) k_fd_68_1_1_27 k_sz_27_1 rfl rfl) ?_
     refine sQ 92 (Y_load1 (B := B) (i := 1) (cs := [vi s.phase, .slice B1 s.terms.length c]) (v := .slice B1 s.terms.length c) k_sc_27 rfl rfl (hS7.cf (i := 0) rfl) rfl) ?_
     refine sQ 93 (Y_move (v := vi at_) rfl (hf.get 6 3 rfl)) ?_
     obtain ⟨hsl1, hF8⟩ := chk_inv hF8
     have hcap2 : s.terms.length ≤ c := hcap1
     have hv1 : (List.take at_.toNat s.terms).length = at_.toNat := (take_len rfl (by omega))
     have hq2 : at_.toNat ≤ c := by omega
     have ho2 : Org w0 (bl [⟨B, 68, [vi s.phase, .slice B1 s.terms.length c], 2⟩, ⟨B1, 56, (s.terms.flatMap eN0), c * 2⟩]) [] [⟨B1, ((List.take at_.toNat s.terms).flatMap eN0)⟩] := org_view eN2 (q := c) ho1 (sv_zero _ _ _).symm rfl
     have hS8 : ST w0 (bl [⟨B, 68, [vi s.phase, .slice B1 s.terms.length c], 2⟩, ⟨B1, 56, (s.terms.flatMap eN0), c * 2⟩]) _ [⟨B, 68, [vi s.phase, .slice B1 s.terms.length c], 2⟩, ⟨B3, 56, ((List.drop ((i64.wrap (at_ + 1)).toNat) s.terms).flatMap eN0), c2 * 2⟩, ⟨aD b1, 56, ([].flatMap eN0), 0 * 2⟩] [⟨B1, ((List.take at_.toNat s.terms).flatMap eN0)⟩, ⟨(sv B1 ((i64.wrap (at_ + 1)).toNat) c 2), ((List.drop ((i64.wrap (at_ + 1)).toNat) s.terms).flatMap eN0)⟩, ⟨B1, (s.terms.flatMap eN0)⟩] := ST.view eN2 hS7 (i := 1) rfl (lo := 0) (h := at_.toNat) (q := c) (by omega) (by omega) (sv_zero _ _ _).symm rfl
     refine sQ 94 (Y_slice0 (B := B1) (m := s.terms.length) (c := c) (h := at_.toNat) (s := 2) k_sl_27_56 k_sz_56_2 rfl rfl (bnd_some rfl (nn_toNat (by omega))) (by omega)) ?_
     obtain ⟨hap1, hF8⟩ := chk_inv hF8
     refine sS 95 (Ys_append (s := 2) (by' := 16) (i := 2) (nn := 0) (c := 0) (k := at_.toNat) (len := (List.take at_.toNat s.terms).length) (B := aD b1) (xs := ((List.take at_.toNat s.terms).flatMap eN0)) (cs' := ((List.take at_.toNat s.terms).flatMap eN0)) hS8 k_sl_27_56 k_sz_56_2 k_by_56_16 k_zero_56 rfl (by decide) rfl rfl rfl rfl (fm_lenn (l := []) eN2 rfl) rfl (hS8.rf (i := 0) rfl) (fm_lenn (l := (List.take at_.toNat s.terms)) eN2 hv1) (fm_one' (enc := eN0) enc_Term_one (List.take at_.toNat s.terms)) (by have := hap1; omega) (by have := hap1; simp only [maxLen]; omega) rfl (app_len0 (l := (List.take at_.toNat s.terms)) hv1)) ?_
     rintro _ w_4 ⟨B4, c3, rfl, hS9⟩
     refine sQ 96 (Y_nilCheck (B := B) (i := 0) rfl rfl) ?_
     refine sQ 97 (Y_fieldAddr (B := B) (i := 0) (s := 0) k_fd_68_1_1_27 k_sz_27_1 rfl rfl) ?_
     refine s0 (Ys_store (i := 0) (s := 1) (B := B) (T' := 68) (v := .slice B4 ((List.take at_.toNat s.terms).length) c3) (vs := [.slice B4 ((List.take at_.toNat s.terms).length) c3]) (k := 1) (cs' := [vi s.phase, .slice B4 ((List.take at_.toNat s.terms).length) c3]) hS9 k_sz_27_1 rfl rfl rfl rfl rfl rfl rfl (lB rfl) rfl rfl) ?_
     rintro _ w_5 ⟨rfl, hS10⟩
     refine rw_nil (cw_seq ?_)
     obtain ⟨z1, hz1, hF9⟩ := bind_inv hF8
     refine cw_mid (fun f w => ∃ (terms : List TTerm) (B5 : Option Addr) (c4 : Nat), terms = z1 ∧ FF f [(0, pt B 0), (7, .slice B3 ((List.drop ((i64.wrap (at_ + 1)).toNat) s.terms).length) c2)] ∧ ST w0 (bl [⟨B, 68, [vi s.phase, .slice B1 s.terms.length c], 2⟩, ⟨B1, 56, (s.terms.flatMap eN0), c * 2⟩]) w [⟨B, 68, [vi s.phase, .slice B5 terms.length c4], 2⟩, ⟨B5, 56, (terms.flatMap eN0), c4 * 2⟩, ⟨B3, 56, ((List.drop ((i64.wrap (at_ + 1)).toNat) s.terms).flatMap eN0), c2 * 2⟩] [⟨B1, ((List.take at_.toNat s.terms).flatMap eN0)⟩, ⟨(sv B1 ((i64.wrap (at_ + 1)).toNat) c 2), ((List.drop ((i64.wrap (at_ + 1)).toNat) s.terms).flatMap eN0)⟩, ⟨B1, (s.terms.flatMap eN0)⟩]) ?_ ?_
     ·skip
      refine cw_seq (cw_region ?_)
      refine sQ 98 (Y_move (v := vi (Int.tmod (i64.wrap ((Int.tmod (i64.wrap ((Int.tmod k_ 8) + 8)) 8) + x2.Coef)) 8)) rfl rfl) ?_
      refine sQ 99 (Y_gt (k := .i64) (a := (Int.tmod (i64.wrap ((Int.tmod (i64.wrap ((Int.tmod k_ 8) + 8)) 8) + x2.Coef)) 8)) (b := 0) rfl rfl rfl) (rw_nil ?_)
      refine cw_cond (b := (decide (0 < (Int.tmod (i64.wrap ((Int.tmod (i64.wrap ((Int.tmod k_ 8) + 8)) 8) + x2.Coef)) 8)))) rfl (fun hb5 => ?_) (fun hb5 => ?_)
      ·skip
       have hF10 := ct hz1 hb5
       refine cw_region ?_
       refine sQ 100 (Y_move (v := pt B 0) rfl (hf.get 0 0 rfl)) ?_
       refine sQ 101 (Y_move (v := pt B 0) rfl (hf.get 0 0 rfl)) ?_
       refine sQ 102 (Y_nilCheck (B := B) (i := 0) rfl rfl) ?_
       refine sQ 103 (Y_fieldAddr (B := B) (i := 0) (s := 0) k_fd_68_1_1_27 k_sz_27_1 rfl rfl) ?_
       refine sQ 104 (Y_load1 (B := B) (i := 1) (cs := [vi s.phase, .slice B4 ((List.take at_.toNat s.terms).length) c3]) (v := .slice B4 ((List.take at_.toNat s.terms).length) c3) k_sc_27 rfl rfl (hS10.cf (i := 0) rfl) rfl) ?_
       refine sQ 105 (Y_move (v := vi mask) rfl (hf.get 1 1 rfl)) ?_
       refine sQ 106 (Y_move (v := vi (Int.tmod (i64.wrap ((Int.tmod (i64.wrap ((Int.tmod k_ 8) + 8)) 8) + x2.Coef)) 8)) rfl rfl) ?_
       refine sQ 107 (Y_buildS (zs := [vi 0, vi 0]) (vs := [(0, vi mask), (1, vi (Int.tmod (i64.wrap ((Int.tmod (i64.wrap ((Int.tmod k_ 8) + 8)) 8) + x2.Coef)) 8))]) (cs := [vi mask, vi (Int.tmod (i64.wrap ((Int.tmod (i64.wrap ((Int.tmod k_ 8) + 8)) 8) + x2.Coef)) 8)]) k_pl_56 k_zero_56 rfl (mpc rfl (mpc rfl mpn)) rfl) ?_
       refine sS 108 (Ys_bslice (s := 2) (len := 1) (vs := [(0, .agg #[vi mask, vi (Int.tmod (i64.wrap ((Int.tmod (i64.wrap ((Int.tmod k_ 8) + 8)) 8) + x2.Coef)) 8)])]) (cs := [vi mask, vi (Int.tmod (i64.wrap ((Int.tmod (i64.wrap ((Int.tmod k_ 8) + 8)) 8) + x2.Coef)) 8)]) (zs := [vi 0, vi 0]) (m := 2) hS10 k_sl_27_56 k_sz_56_2 k_zc_56 rfl (mpc rfl mpn) rfl rfl rfl (by kernel_rfl) (by kernel_rfl) rfl) ?_
       rintro _ w_6 ⟨b2, rfl, hS12⟩
       obtain ⟨hap2, hF10⟩ := chk_inv hF10
       refine sS 109 (Ys_append (s := 2) (by' := 16) (i := 2) (nn := (List.take at_.toNat s.terms).length) (c := c3) (k := 1) (len := ((List.take at_.toNat s.terms) ++ [(TTerm.mk mask (Int.tmod (i64.wrap ((Int.tmod (i64.wrap ((Int.tmod k_ 8) + 8)) 8) + x2.Coef)) 8))]).length) (B := B4) (xs := ([(TTerm.mk mask (Int.tmod (i64.wrap ((Int.tmod (i64.wrap ((Int.tmod k_ 8) + 8)) 8) + x2.Coef)) 8))].flatMap eN0)) (cs' := (((List.take at_.toNat s.terms) ++ [(TTerm.mk mask (Int.tmod (i64.wrap ((Int.tmod (i64.wrap ((Int.tmod k_ 8) + 8)) 8) + x2.Coef)) 8))]).flatMap eN0)) hS12 k_sl_27_56 k_sz_56_2 k_by_56_16 k_zero_56 rfl (by decide) rfl rfl rfl rfl (fm_lenn (l := (List.take at_.toNat s.terms)) eN2 rfl) rfl (hS12.cf (i := 3) rfl) (fm_lenn (l := [(TTerm.mk mask (Int.tmod (i64.wrap ((Int.tmod (i64.wrap ((Int.tmod k_ 8) + 8)) 8) + x2.Coef)) 8))]) eN2 rfl) (fm_one' (enc := eN0) enc_Term_one [(TTerm.mk mask (Int.tmod (i64.wrap ((Int.tmod (i64.wrap ((Int.tmod k_ 8) + 8)) 8) + x2.Coef)) 8))]) (by have := hap2; omega) (by have := hap2; simp only [maxLen]; omega) (fm_app _ _) (app_len (l := (List.take at_.toNat s.terms)) (l' := [(TTerm.mk mask (Int.tmod (i64.wrap ((Int.tmod (i64.wrap ((Int.tmod k_ 8) + 8)) 8) + x2.Coef)) 8))]) rfl rfl)) ?_
       rintro _ w_7 ⟨B6, c5, rfl, hS13⟩
       refine sQ 110 (Y_nilCheck (B := B) (i := 0) rfl rfl) ?_
       refine sQ 111 (Y_fieldAddr (B := B) (i := 0) (s := 0) k_fd_68_1_1_27 k_sz_27_1 rfl rfl) ?_
       refine s0 (Ys_store (i := 0) (s := 1) (B := B) (T' := 68) (v := .slice B6 (((List.take at_.toNat s.terms) ++ [(TTerm.mk mask (Int.tmod (i64.wrap ((Int.tmod (i64.wrap ((Int.tmod k_ 8) + 8)) 8) + x2.Coef)) 8))]).length) c5) (vs := [.slice B6 (((List.take at_.toNat s.terms) ++ [(TTerm.mk mask (Int.tmod (i64.wrap ((Int.tmod (i64.wrap ((Int.tmod k_ 8) + 8)) 8) + x2.Coef)) 8))]).length) c5]) (k := 1) (cs' := [vi s.phase, .slice B6 (((List.take at_.toNat s.terms) ++ [(TTerm.mk mask (Int.tmod (i64.wrap ((Int.tmod (i64.wrap ((Int.tmod k_ 8) + 8)) 8) + x2.Coef)) 8))]).length) c5]) hS13 k_sz_27_1 rfl rfl rfl rfl rfl rfl rfl (lB rfl) rfl rfl) ?_
       rintro _ w_8 ⟨rfl, hS14⟩
       refine rw_nil ?_
       exact ⟨((List.take at_.toNat s.terms) ++ [(TTerm.mk mask (Int.tmod (i64.wrap ((Int.tmod (i64.wrap ((Int.tmod k_ 8) + 8)) 8) + x2.Coef)) 8))]), B6, c5, (some_inj hF10), (FF.cons (hf.get 0 0 rfl) (FF.cons rfl FF.nil)), (hS14.sel [0, 2, 1] rfl rfl)⟩
      ·skip
       have hF11 := cf' hz1 hb5
       refine cw_skip ?_
       exact ⟨(List.take at_.toNat s.terms), B4, c3, (some_inj hF11), (FF.cons (hf.get 0 0 rfl) (FF.cons rfl FF.nil)), (hS10.sel [0, 2, 1] rfl rfl)⟩
     rintro f w ⟨terms, B5, c4, rfl, hf1, hS11⟩
     refine cw_seq (cw_region ?_)
     refine sQ 112 (Y_move (v := pt B 0) rfl (hf1.get 0 0 rfl)) ?_
     refine sQ 113 (Y_move (v := pt B 0) rfl (hf1.get 0 0 rfl)) ?_
     refine sQ 114 (Y_nilCheck (B := B) (i := 0) rfl rfl) ?_
     refine sQ 115 (Y_fieldAddr (B := B) (i := 0) (s := 0) k_fd_68_1_1_27 k_sz_27_1 rfl rfl) ?_
     refine sQ 116 (Y_load1 (B := B) (i := 1) (cs := [vi s.phase, .slice B5 terms.length c4]) (v := .slice B5 terms.length c4) k_sc_27 rfl rfl (hS11.cf (i := 0) rfl) rfl) ?_
     refine sQ 117 (Y_move (v := .slice B3 ((List.drop ((i64.wrap (at_ + 1)).toNat) s.terms).length) c2) rfl (hf1.get 7 1 rfl)) ?_
     obtain ⟨hap3, hF9⟩ := chk_inv hF9
     refine sS 118 (Ys_append (s := 2) (by' := 16) (i := 1) (nn := terms.length) (c := c4) (k := (List.drop ((i64.wrap (at_ + 1)).toNat) s.terms).length) (len := (terms ++ (List.drop ((i64.wrap (at_ + 1)).toNat) s.terms)).length) (B := B5) (xs := ((List.drop ((i64.wrap (at_ + 1)).toNat) s.terms).flatMap eN0)) (cs' := ((terms ++ (List.drop ((i64.wrap (at_ + 1)).toNat) s.terms)).flatMap eN0)) hS11 k_sl_27_56 k_sz_56_2 k_by_56_16 k_zero_56 rfl (by decide) rfl rfl rfl rfl (fm_lenn (l := terms) eN2 rfl) rfl (hS11.cf (i := 2) rfl) (fm_lenn (l := (List.drop ((i64.wrap (at_ + 1)).toNat) s.terms)) eN2 rfl) (fm_one' (enc := eN0) enc_Term_one (List.drop ((i64.wrap (at_ + 1)).toNat) s.terms)) (by have := hap3; omega) (by have := hap3; simp only [maxLen]; omega) (fm_app _ _) (app_len (l := terms) (l' := (List.drop ((i64.wrap (at_ + 1)).toNat) s.terms)) rfl rfl)) ?_
     rintro _ w_9 ⟨B7, c6, rfl, hS15⟩
     refine sQ 119 (Y_nilCheck (B := B) (i := 0) rfl rfl) ?_
     refine sQ 120 (Y_fieldAddr (B := B) (i := 0) (s := 0) k_fd_68_1_1_27 k_sz_27_1 rfl rfl) ?_
     refine s0 (Ys_store (i := 0) (s := 1) (B := B) (T' := 68) (v := .slice B7 ((terms ++ (List.drop ((i64.wrap (at_ + 1)).toNat) s.terms)).length) c6) (vs := [.slice B7 ((terms ++ (List.drop ((i64.wrap (at_ + 1)).toNat) s.terms)).length) c6]) (k := 1) (cs' := [vi s.phase, .slice B7 ((terms ++ (List.drop ((i64.wrap (at_ + 1)).toNat) s.terms)).length) c6]) hS15 k_sz_27_1 rfl rfl rfl rfl rfl rfl rfl (lB rfl) rfl rfl) ?_
     rintro _ w_10 ⟨rfl, hS16⟩
     refine rw_nil (cw_ret ?_)
     obtain rfl := some_inj hF9
     exact ret0 Tryd.results39  ⟨B7, c6, rfl, (hS16.sN [0, 1])⟩
    ·skip
     have hF12 := cf' hF5 hb4
     refine cw_skip (cw_seq (cw_region ?_))
     refine sS 121 (Ys_bslice0 (s := 2) (e := 56) hS2 k_sl_27_56 k_sz_56_2 rfl) ?_
     rintro _ w_11 ⟨b3, rfl, hS17⟩
     refine sQ 122 (Y_move (v := pt B 0) rfl (hf.get 0 0 rfl)) ?_
     refine sQ 123 (Y_nilCheck (B := B) (i := 0) rfl rfl) ?_
     refine sQ 124 (Y_fieldAddr (B := B) (i := 0) (s := 0) k_fd_68_1_1_27 k_sz_27_1 rfl rfl) ?_
     refine sQ 125 (Y_load1 (B := B) (i := 1) (cs := [vi s.phase, .slice B1 s.terms.length c]) (v := .slice B1 s.terms.length c) k_sc_27 rfl rfl (hS17.cf (i := 0) rfl) rfl) ?_
     refine sQ 126 (Y_move (v := vi at_) rfl (hf.get 6 3 rfl)) ?_
     obtain ⟨hsl2, hF12⟩ := chk_inv hF12
     have hcap3 : s.terms.length ≤ c := (hS17.lencap (i := 1) rfl (fm_lenn (l := s.terms) eN2 rfl) rfl rfl)
     have ho4 : Org w0 (bl [⟨B, 68, [vi s.phase, .slice B1 s.terms.length c], 2⟩, ⟨B1, 56, (s.terms.flatMap eN0), c * 2⟩]) [] [⟨B1, (s.terms.flatMap eN0)⟩] := ST.orgOwn hS17 (i := 1) rfl
     have hcap4 : s.terms.length ≤ c := (hS17.lencap (i := 1) rfl (fm_lenn (l := s.terms) eN2 rfl) rfl rfl)
     have hS18 : ST w0 (bl [⟨B, 68, [vi s.phase, .slice B1 s.terms.length c], 2⟩, ⟨B1, 56, (s.terms.flatMap eN0), c * 2⟩]) _ [⟨B, 68, [vi s.phase, .slice B1 s.terms.length c], 2⟩, ⟨aD b3, 56, ([].flatMap eN0), 0 * 2⟩] [⟨B1, (s.terms.flatMap eN0)⟩] := hS17.freeze (i := 1) rfl
     have hv2 : (List.drop at_.toNat s.terms).length = (s.terms.length - at_.toNat) := (drop_len rfl)
     have hq3 : (s.terms.length - at_.toNat) ≤ (c - at_.toNat) := by omega
     have ho3 : Org w0 (bl [⟨B, 68, [vi s.phase, .slice B1 s.terms.length c], 2⟩, ⟨B1, 56, (s.terms.flatMap eN0), c * 2⟩]) [] [⟨(sv B1 at_.toNat c 2), ((List.drop at_.toNat s.terms).flatMap eN0)⟩] := org_view eN2 (q := c) ho4 rfl (take_all rfl _)
     have hS19 : ST w0 (bl [⟨B, 68, [vi s.phase, .slice B1 s.terms.length c], 2⟩, ⟨B1, 56, (s.terms.flatMap eN0), c * 2⟩]) _ [⟨B, 68, [vi s.phase, .slice B1 s.terms.length c], 2⟩, ⟨aD b3, 56, ([].flatMap eN0), 0 * 2⟩] [⟨(sv B1 at_.toNat c 2), ((List.drop at_.toNat s.terms).flatMap eN0)⟩, ⟨B1, (s.terms.flatMap eN0)⟩] := ST.view eN2 hS18 (i := 0) rfl (lo := at_.toNat) (h := s.terms.length) (q := c) (by omega) (by omega) rfl (take_all rfl _)
     refine sQ 127 (Y_slice1 (B := B1) (m := s.terms.length) (c := c) (l := at_.toNat) (h := s.terms.length) (s := 2) k_sl_27_56 k_sz_56_2 rfl rfl rfl (bnd_some rfl (nn_toNat (by omega))) (by omega) (by omega)) ?_
     obtain ⟨hap4, hF12⟩ := chk_inv hF12
     refine sS 128 (Ys_append (s := 2) (by' := 16) (i := 1) (nn := 0) (c := 0) (k := (s.terms.length - at_.toNat)) (len := (List.drop at_.toNat s.terms).length) (B := aD b3) (xs := ((List.drop at_.toNat s.terms).flatMap eN0)) (cs' := ((List.drop at_.toNat s.terms).flatMap eN0)) hS19 k_sl_27_56 k_sz_56_2 k_by_56_16 k_zero_56 rfl (by decide) rfl rfl rfl rfl (fm_lenn (l := []) eN2 rfl) rfl (hS19.rf (i := 0) rfl) (fm_lenn (l := (List.drop at_.toNat s.terms)) eN2 hv2) (fm_one' (enc := eN0) enc_Term_one (List.drop at_.toNat s.terms)) (by have := hap4; omega) (by have := hap4; simp only [maxLen]; omega) rfl (app_len0 (l := (List.drop at_.toNat s.terms)) hv2)) ?_
     rintro _ w_12 ⟨B8, c7, rfl, hS20⟩
     refine sQ 8 (Y_assign (v := .slice B8 ((List.drop at_.toNat s.terms).length) c7) rfl rfl) (rw_nil (cw_seq (cw_region ?_)))
     refine sQ 129 (Y_move (v := pt B 0) rfl (hf.get 0 0 rfl)) ?_
     refine sS 130 (Ys_bslice0 (s := 2) (e := 56) hS20 k_sl_27_56 k_sz_56_2 rfl) ?_
     rintro _ w_13 ⟨b4, rfl, hS21⟩
     refine sQ 131 (Y_move (v := pt B 0) rfl (hf.get 0 0 rfl)) ?_
     refine sQ 132 (Y_nilCheck (B := B) (i := 0) rfl rfl) ?_
     refine sQ 133 (Y_fieldAddr (B := B) (i := 0) (s := 0) k_fd_68_1_1_27 k_sz_27_1 rfl rfl) ?_
     refine sQ 134 (Y_load1 (B := B) (i := 1) (cs := [vi s.phase, .slice B1 s.terms.length c]) (v := .slice B1 s.terms.length c) k_sc_27 rfl rfl (hS21.cf (i := 0) rfl) rfl) ?_
     refine sQ 135 (Y_move (v := vi at_) rfl (hf.get 6 3 rfl)) ?_
     obtain ⟨hsl3, hF12⟩ := chk_inv hF12
     have hcap5 : s.terms.length ≤ c := hcap4
     have hv3 : (List.take at_.toNat s.terms).length = at_.toNat := (take_len rfl (by omega))
     have hq4 : at_.toNat ≤ c := by omega
     have ho5 : Org w0 (bl [⟨B, 68, [vi s.phase, .slice B1 s.terms.length c], 2⟩, ⟨B1, 56, (s.terms.flatMap eN0), c * 2⟩]) [] [⟨B1, ((List.take at_.toNat s.terms).flatMap eN0)⟩] := org_view eN2 (q := c) ho4 (sv_zero _ _ _).symm rfl
     have hS22 : ST w0 (bl [⟨B, 68, [vi s.phase, .slice B1 s.terms.length c], 2⟩, ⟨B1, 56, (s.terms.flatMap eN0), c * 2⟩]) _ [⟨B, 68, [vi s.phase, .slice B1 s.terms.length c], 2⟩, ⟨B8, 56, ((List.drop at_.toNat s.terms).flatMap eN0), c7 * 2⟩, ⟨aD b4, 56, ([].flatMap eN0), 0 * 2⟩] [⟨B1, ((List.take at_.toNat s.terms).flatMap eN0)⟩, ⟨(sv B1 at_.toNat c 2), ((List.drop at_.toNat s.terms).flatMap eN0)⟩, ⟨B1, (s.terms.flatMap eN0)⟩] := ST.view eN2 hS21 (i := 1) rfl (lo := 0) (h := at_.toNat) (q := c) (by omega) (by omega) (sv_zero _ _ _).symm rfl
     refine sQ 136 (Y_slice0 (B := B1) (m := s.terms.length) (c := c) (h := at_.toNat) (s := 2) k_sl_27_56 k_sz_56_2 rfl rfl (bnd_some rfl (nn_toNat (by omega))) (by omega)) ?_
     obtain ⟨hap5, hF12⟩ := chk_inv hF12
     refine sS 137 (Ys_append (s := 2) (by' := 16) (i := 2) (nn := 0) (c := 0) (k := at_.toNat) (len := (List.take at_.toNat s.terms).length) (B := aD b4) (xs := ((List.take at_.toNat s.terms).flatMap eN0)) (cs' := ((List.take at_.toNat s.terms).flatMap eN0)) hS22 k_sl_27_56 k_sz_56_2 k_by_56_16 k_zero_56 rfl (by decide) rfl rfl rfl rfl (fm_lenn (l := []) eN2 rfl) rfl (hS22.rf (i := 0) rfl) (fm_lenn (l := (List.take at_.toNat s.terms)) eN2 hv3) (fm_one' (enc := eN0) enc_Term_one (List.take at_.toNat s.terms)) (by have := hap5; omega) (by have := hap5; simp only [maxLen]; omega) rfl (app_len0 (l := (List.take at_.toNat s.terms)) hv3)) ?_
     rintro _ w_14 ⟨B9, c8, rfl, hS23⟩
     refine sQ 138 (Y_move (v := vi mask) rfl (hf.get 1 1 rfl)) ?_
     refine sQ 139 (Y_move (v := vi (Int.tmod (i64.wrap ((Int.tmod k_ 8) + 8)) 8)) rfl (hf.get 2 2 rfl)) ?_
     refine sQ 140 (Y_buildS (zs := [vi 0, vi 0]) (vs := [(0, vi mask), (1, vi (Int.tmod (i64.wrap ((Int.tmod k_ 8) + 8)) 8))]) (cs := [vi mask, vi (Int.tmod (i64.wrap ((Int.tmod k_ 8) + 8)) 8)]) k_pl_56 k_zero_56 rfl (mpc rfl (mpc rfl mpn)) rfl) ?_
     refine sS 141 (Ys_bslice (s := 2) (len := 1) (vs := [(0, .agg #[vi mask, vi (Int.tmod (i64.wrap ((Int.tmod k_ 8) + 8)) 8)])]) (cs := [vi mask, vi (Int.tmod (i64.wrap ((Int.tmod k_ 8) + 8)) 8)]) (zs := [vi 0, vi 0]) (m := 2) hS23 k_sl_27_56 k_sz_56_2 k_zc_56 rfl (mpc rfl mpn) rfl rfl rfl (by kernel_rfl) (by kernel_rfl) rfl) ?_
     rintro _ w_15 ⟨b5, rfl, hS24⟩
     obtain ⟨hap6, hF12⟩ := chk_inv hF12
     refine sS 142 (Ys_append (s := 2) (by' := 16) (i := 2) (nn := (List.take at_.toNat s.terms).length) (c := c8) (k := 1) (len := ((List.take at_.toNat s.terms) ++ [(TTerm.mk mask (Int.tmod (i64.wrap ((Int.tmod k_ 8) + 8)) 8))]).length) (B := B9) (xs := ([(TTerm.mk mask (Int.tmod (i64.wrap ((Int.tmod k_ 8) + 8)) 8))].flatMap eN0)) (cs' := (((List.take at_.toNat s.terms) ++ [(TTerm.mk mask (Int.tmod (i64.wrap ((Int.tmod k_ 8) + 8)) 8))]).flatMap eN0)) hS24 k_sl_27_56 k_sz_56_2 k_by_56_16 k_zero_56 rfl (by decide) rfl rfl rfl rfl (fm_lenn (l := (List.take at_.toNat s.terms)) eN2 rfl) rfl (hS24.cf (i := 3) rfl) (fm_lenn (l := [(TTerm.mk mask (Int.tmod (i64.wrap ((Int.tmod k_ 8) + 8)) 8))]) eN2 rfl) (fm_one' (enc := eN0) enc_Term_one [(TTerm.mk mask (Int.tmod (i64.wrap ((Int.tmod k_ 8) + 8)) 8))]) (by have := hap6; omega) (by have := hap6; simp only [maxLen]; omega) (fm_app _ _) (app_len (l := (List.take at_.toNat s.terms)) (l' := [(TTerm.mk mask (Int.tmod (i64.wrap ((Int.tmod k_ 8) + 8)) 8))]) rfl rfl)) ?_
     rintro _ w_16 ⟨B10, c9, rfl, hS25⟩
     refine sQ 143 (Y_nilCheck (B := B) (i := 0) rfl rfl) ?_
     refine sQ 144 (Y_fieldAddr (B := B) (i := 0) (s := 0) k_fd_68_1_1_27 k_sz_27_1 rfl rfl) ?_
     refine s0 (Ys_store (i := 0) (s := 1) (B := B) (T' := 68) (v := .slice B10 (((List.take at_.toNat s.terms) ++ [(TTerm.mk mask (Int.tmod (i64.wrap ((Int.tmod k_ 8) + 8)) 8))]).length) c9) (vs := [.slice B10 (((List.take at_.toNat s.terms) ++ [(TTerm.mk mask (Int.tmod (i64.wrap ((Int.tmod k_ 8) + 8)) 8))]).length) c9]) (k := 1) (cs' := [vi s.phase, .slice B10 (((List.take at_.toNat s.terms) ++ [(TTerm.mk mask (Int.tmod (i64.wrap ((Int.tmod k_ 8) + 8)) 8))]).length) c9]) hS25 k_sz_27_1 rfl rfl rfl rfl rfl rfl rfl (lB rfl) rfl rfl) ?_
     rintro _ w_17 ⟨rfl, hS26⟩
     refine rw_nil (cw_region ?_)
     refine sQ 145 (Y_move (v := pt B 0) rfl (hf.get 0 0 rfl)) ?_
     refine sQ 146 (Y_move (v := pt B 0) rfl (hf.get 0 0 rfl)) ?_
     refine sQ 147 (Y_nilCheck (B := B) (i := 0) rfl rfl) ?_
     refine sQ 148 (Y_fieldAddr (B := B) (i := 0) (s := 0) k_fd_68_1_1_27 k_sz_27_1 rfl rfl) ?_
     refine sQ 149 (Y_load1 (B := B) (i := 1) (cs := [vi s.phase, .slice B10 (((List.take at_.toNat s.terms) ++ [(TTerm.mk mask (Int.tmod (i64.wrap ((Int.tmod k_ 8) + 8)) 8))]).length) c9]) (v := .slice B10 (((List.take at_.toNat s.terms) ++ [(TTerm.mk mask (Int.tmod (i64.wrap ((Int.tmod k_ 8) + 8)) 8))]).length) c9) k_sc_27 rfl rfl (hS26.cf (i := 0) rfl) rfl) ?_
     refine sQ 150 (Y_move (v := .slice B8 ((List.drop at_.toNat s.terms).length) c7) rfl rfl) ?_
     obtain ⟨hap7, hF12⟩ := chk_inv hF12
     refine sS 151 (Ys_append (s := 2) (by' := 16) (i := 2) (nn := ((List.take at_.toNat s.terms) ++ [(TTerm.mk mask (Int.tmod (i64.wrap ((Int.tmod k_ 8) + 8)) 8))]).length) (c := c9) (k := (List.drop at_.toNat s.terms).length) (len := (((List.take at_.toNat s.terms) ++ [(TTerm.mk mask (Int.tmod (i64.wrap ((Int.tmod k_ 8) + 8)) 8))]) ++ (List.drop at_.toNat s.terms)).length) (B := B10) (xs := ((List.drop at_.toNat s.terms).flatMap eN0)) (cs' := ((((List.take at_.toNat s.terms) ++ [(TTerm.mk mask (Int.tmod (i64.wrap ((Int.tmod k_ 8) + 8)) 8))]) ++ (List.drop at_.toNat s.terms)).flatMap eN0)) hS26 k_sl_27_56 k_sz_56_2 k_by_56_16 k_zero_56 rfl (by decide) rfl rfl rfl rfl (fm_lenn (l := ((List.take at_.toNat s.terms) ++ [(TTerm.mk mask (Int.tmod (i64.wrap ((Int.tmod k_ 8) + 8)) 8))])) eN2 rfl) rfl (hS26.cf (i := 1) rfl) (fm_lenn (l := (List.drop at_.toNat s.terms)) eN2 rfl) (fm_one' (enc := eN0) enc_Term_one (List.drop at_.toNat s.terms)) (by have := hap7; omega) (by have := hap7; simp only [maxLen]; omega) (fm_app _ _) (app_len (l := ((List.take at_.toNat s.terms) ++ [(TTerm.mk mask (Int.tmod (i64.wrap ((Int.tmod k_ 8) + 8)) 8))])) (l' := (List.drop at_.toNat s.terms)) rfl rfl)) ?_
     rintro _ w_18 ⟨B11, c10, rfl, hS27⟩
     refine sQ 152 (Y_nilCheck (B := B) (i := 0) rfl rfl) ?_
     refine sQ 153 (Y_fieldAddr (B := B) (i := 0) (s := 0) k_fd_68_1_1_27 k_sz_27_1 rfl rfl) ?_
     refine s0 (Ys_store (i := 0) (s := 1) (B := B) (T' := 68) (v := .slice B11 ((((List.take at_.toNat s.terms) ++ [(TTerm.mk mask (Int.tmod (i64.wrap ((Int.tmod k_ 8) + 8)) 8))]) ++ (List.drop at_.toNat s.terms)).length) c10) (vs := [.slice B11 ((((List.take at_.toNat s.terms) ++ [(TTerm.mk mask (Int.tmod (i64.wrap ((Int.tmod k_ 8) + 8)) 8))]) ++ (List.drop at_.toNat s.terms)).length) c10]) (k := 1) (cs' := [vi s.phase, .slice B11 ((((List.take at_.toNat s.terms) ++ [(TTerm.mk mask (Int.tmod (i64.wrap ((Int.tmod k_ 8) + 8)) 8))]) ++ (List.drop at_.toNat s.terms)).length) c10]) hS27 k_sz_27_1 rfl rfl rfl rfl rfl rfl rfl (lB rfl) rfl rfl) ?_
     rintro _ w_19 ⟨rfl, hS28⟩
     refine rw_nil ?_
     obtain rfl := some_inj hF12
     exact ret0 Tryd.results39  ⟨B11, c10, rfl, (hS28.sN [0, 2])⟩

theorem c_spec_l21Sum_times (s : Tl21Sum) (mask : Int) (k_ : Int) (by_ : TAffine) (B : Option Addr) (B1 : Option Addr) (c n : Nat) (w0 : World) (hn : s.terms.length = n) (hS : ST w0 (bl [⟨B, 68, [vi s.phase, .slice B1 n c], 2⟩, ⟨B1, 56, (s.terms.flatMap eN0), c * 2⟩]) w0 [⟨B, 68, [vi s.phase, .slice B1 n c], 2⟩, ⟨B1, 56, (s.terms.flatMap eN0), c * 2⟩] []) {m : Tl21Sum} (hF : F_spec_l21Sum_times s mask k_ by_ = some m) :
  CV Tryd.prog 40 #[pt B 0, vi mask, vi k_, .agg #[vi by_.Mask, vi by_.Turn]] w0 (fun v w' => ∃ (B2 : Option Addr) (c1 : Nat), v = .tuple #[] ∧ ST w0 (bl [⟨B, 68, [vi s.phase, .slice B1 n c], 2⟩, ⟨B1, 56, (s.terms.flatMap eN0), c * 2⟩]) w' [⟨B, 68, [vi m.phase, .slice B2 m.terms.length c1], 2⟩, ⟨B2, 56, (m.terms.flatMap eN0), c1 * 2⟩] []) := by
 subst hn
 unfold F_spec_l21Sum_times at hF
 refine cv_of_cw 92 Tryd.func40 rfl Tryd.ntmps40 rfl ?_
 refine cw_seq (cw_region ?_)
 refine sS 7 (Ys_box (T := 44) (v := .agg #[vi by_.Mask, vi by_.Turn]) (cs := [vi by_.Mask, vi by_.Turn]) (m := 2) hS rfl rfl rfl rfl) ?_
 rintro _ w_ ⟨b, rfl, hS1⟩
 refine rw_nil (cw_seq ?_)
 obtain ⟨z, hz, hF1⟩ := bind_inv hF
 refine cw_mid (fun f w => ∃ (phase : Int) (terms : List TTerm) (k_1 : Int) (B3 : Option Addr) (c2 : Nat), (phase, terms, k_1) = z ∧ FF f [(0, pt B 0), (1, vi mask), (2, vi k_1), (7, pt (aD b) 0)] ∧ ST w0 (bl [⟨B, 68, [vi s.phase, .slice B1 s.terms.length c], 2⟩, ⟨B1, 56, (s.terms.flatMap eN0), c * 2⟩]) w [⟨B, 68, [vi phase, .slice B3 terms.length c2], 2⟩, ⟨B3, 56, (terms.flatMap eN0), c2 * 2⟩, ⟨aD b, 44, [vi by_.Mask, vi by_.Turn], 2⟩] []) ?_ ?_
 ·skip
  refine cw_seq (cw_region ?_)
  refine sQ 15 (Y_fieldAddr (B := aD b) (i := 0) (s := 0) k_fd_44_1_1_3 k_sz_3_1 rfl rfl) ?_
  refine sQ 16 (Y_load1 (B := aD b) (i := 1) (cs := [vi by_.Mask, vi by_.Turn]) (v := vi by_.Turn) k_sc_3 rfl rfl (hS1.cf (i := 2) rfl) rfl) ?_
  refine sQ 17 (Y_eq (k := .i64) (a := by_.Turn) (b := 1) rfl rfl rfl) (rw_nil ?_)
  refine cw_cond (b := (by_.Turn == 1)) rfl (fun hb => ?_) (fun hb => ?_)
  ·skip
   have hF2 := ct hz hb
   refine cw_seq (cw_region ?_)
   refine sQ 18 (Y_move (v := pt B 0) rfl rfl) ?_
   refine sQ 19 (Y_move (v := vi mask) rfl rfl) ?_
   refine sQ 20 (Y_move (v := vi k_) rfl rfl) ?_
   obtain ⟨m1, hc, hF2⟩ := bind_inv hF2
   refine sc 21 rfl rfl (Yc_func (g := 39) (vs := [pt B 0, vi mask, vi k_]) k_call_39 rfl (mc rfl (mc rfl (mc rfl mn))) (c_spec_l21Sum_add s mask k_ B B1 c s.terms.length _ rfl (hS1.lencap (i := 1) rfl (fm_lenn (l := s.terms) eN2 rfl) rfl rfl) (hS1.inn [true, true, false] rfl [] rfl) hc)) ?_
   rintro _ w_1 ⟨B4, c3, rfl, hd⟩
   have hS3 := hS1.out [true, true, false] rfl hd
   refine rw_nil (cw_region ?_)
   refine sQ 22 (Y_move (v := vi k_) rfl rfl) ?_
   refine sQ 23 (Y_neg (k := .i64) (a := k_) rfl rfl) ?_
   refine sQ 2 (Y_assign (v := vi (i64.wrap (-k_))) rfl rfl) (rw_nil ?_)
   exact ⟨m1.phase, m1.terms, (i64.wrap (-k_)), B4, c3, (some_inj hF2), (FF.cons rfl (FF.cons rfl (FF.cons rfl (FF.cons rfl FF.nil)))), (hS3.sel [1, 2, 0] rfl rfl)⟩
  ·skip
   have hF3 := cf' hz hb
   refine cw_skip ?_
   exact ⟨s.phase, s.terms, k_, B1, c, (some_inj hF3), (FF.cons rfl (FF.cons rfl (FF.cons rfl (FF.cons rfl FF.nil)))), (hS1.sel [0, 1, 2] rfl rfl)⟩
 rintro f w ⟨phase, terms, k_1, B3, c2, rfl, hf, hS2⟩
 refine cw_seq (cw_region ?_)
 refine sQ 24 (Y_fieldAddr (B := aD b) (i := 0) (s := 0) k_fd_44_0_0_3 k_sz_3_1 rfl (hf.get 7 3 rfl)) ?_
 refine sQ 25 (Y_load1 (B := aD b) (i := 0) (cs := [vi by_.Mask, vi by_.Turn]) (v := vi by_.Mask) k_sc_3 rfl rfl (hS2.cf (i := 2) rfl) rfl) ?_
 obtain ⟨r_, hc1, hF1⟩ := bind_inv hF1
 refine sc 26 rfl rfl (Yc_func (g := 35) (vs := [vi by_.Mask]) k_call_35 rfl (mc rfl mn) (c_spec_l1Set by_.Mask _  (hS2.inn0 [] rfl) hc1)) ?_
 rintro _ w_2 ⟨B5, c4, rfl, hd1⟩
 have hS4 := hS2.out0 hd1
 refine sQ 8 (Y_assign (v := .slice B5 r_.length c4) rfl rfl) (rw_nil (cw_seq (cw_region ?_)))
 refine sQ 27 (Y_move (v := .slice B5 r_.length c4) rfl rfl) ?_
 refine sQ 28 (Y_len (B := B5) (m := r_.length) (c := c4) k_sl_60_3 rfl rfl) ?_
 refine sQ 29 (Y_move (v := vi 0) rfl rfl) (rw_nil ?_)
 obtain ⟨hN, hF1⟩ := chk_inv hF1
 obtain ⟨z1, hz1, hF4⟩ := bind_inv hF1
 have ho1 : Org w0 (bl [⟨B, 68, [vi s.phase, .slice B1 s.terms.length c], 2⟩, ⟨B1, 56, (s.terms.flatMap eN0), c * 2⟩]) [] [⟨B5, (r_.flatMap encI)⟩] := ST.orgOwn hS4 (i := 3) rfl
 have hcap : r_.length ≤ c4 := (hS4.lencap (i := 3) rfl (fm_lenn (l := r_) encI_len rfl) rfl rfl)
 have hS6 : ST w0 (bl [⟨B, 68, [vi s.phase, .slice B1 s.terms.length c], 2⟩, ⟨B1, 56, (s.terms.flatMap eN0), c * 2⟩]) _ [⟨B, 68, [vi phase, .slice B3 terms.length c2], 2⟩, ⟨B3, 56, (terms.flatMap eN0), c2 * 2⟩, ⟨aD b, 44, [vi by_.Mask, vi by_.Turn], 2⟩] [⟨B5, (r_.flatMap encI)⟩] := hS4.freeze (i := 3) rfl
 refine cw_block ?_
 refine cw_loop (fun k f w => ∃ (i : Nat) (phase1 : Int) (terms1 : List TTerm) (B6 : Option Addr) (c5 : Nat), FF f [(0, pt B 0), (1, vi mask), (2, vi k_1), (8, .slice B5 r_.length c4), (27, .slice B5 r_.length c4), (28, vi (r_.length : Int)), (29, vi (i : Int))] ∧ Org w0 (bl [⟨B, 68, [vi s.phase, .slice B1 s.terms.length c], 2⟩, ⟨B1, 56, (s.terms.flatMap eN0), c * 2⟩]) [] [⟨B5, (r_.flatMap encI)⟩] ∧ r_.length ≤ c4 ∧ ST w0 (bl [⟨B, 68, [vi s.phase, .slice B1 s.terms.length c], 2⟩, ⟨B1, 56, (s.terms.flatMap eN0), c * 2⟩]) w [⟨B, 68, [vi phase1, .slice B6 terms1.length c5], 2⟩, ⟨B6, 56, (terms1.flatMap eN0), c5 * 2⟩] [⟨B5, (r_.flatMap encI)⟩] ∧ i + k = r_.length ∧ forN (F_spec_l21Sum_times_l1 r_ mask k_1) k i (phase1, terms1) = some z1) r_.length ⟨0, phase, terms, B3, c2, (FF.cons (hf.get 0 0 rfl) (FF.cons (hf.get 1 1 rfl) (FF.cons (hf.get 2 2 rfl) (FF.cons rfl (FF.cons rfl (FF.cons rfl (FF.cons rfl FF.nil))))))), ho1, (len_le rfl hcap), (hS6.sel [0, 1] rfl rfl), Nat.zero_add _, hz1⟩ ?_
 rintro k_2 f w ⟨i, phase1, terms1, B6, c5, hf1, ho, hq, hS5, hik, hL⟩
 refine cw_seq (cw_region ?_)
 refine sQ 30 (Y_lt (k := .i64) (a := (i : Int)) (b := (r_.length : Int)) rfl (hf1.get 29 6 rfl) (hf1.get 28 5 rfl)) (rw_nil (cw_seq ?_))
 refine cw_cond (b := (decide ((i : Int) < (r_.length : Int)))) rfl (fun hlt => ?_) (fun hlt => ?_)
 ·skip
  have hlt1 : i < r_.length := by have h := of_decide_eq_true hlt; omega
  obtain ⟨k_3, rfl⟩ : ∃ k2, k_2 = k2 + 1 := ⟨k_2 - 1, by omega⟩
  obtain ⟨y, hb1, hL1⟩ := forN_go hL
  unfold F_spec_l21Sum_times_l1 at hb1
  refine cw_skip (cw_seq (cw_block (cw_seq (cw_region ?_))))
  refine sQ 31 (Y_move (v := vi (i : Int)) rfl (hf1.get 29 6 rfl)) ?_
  obtain ⟨x, hx, hb1⟩ := bind_inv hb1
  refine sQ 32 (Y_index (B := B5) (m := r_.length) (c := c4) (k := .i64) (i := (i : Int)) k_sl_60_3 k_sz_3_1 rfl (hf1.get 27 4 rfl) (hf1.get 29 6 rfl) (gi_isSome encI_len rfl (hS5.rf (i := 0) rfl) hx) (getI_nn hx) (getI_ltI hx rfl)) ?_
  refine sQ 33 (Y_load1 (B := B5) (i := (i : Int).toNat * 1) (cs := (r_.flatMap encI)) (v := vi x) k_sc_3 rfl rfl (hS5.rf (i := 0) rfl) (gi_at0 encI_len hx rfl)) ?_
  refine sQ 9 (Y_assign (v := vi (i : Int)) rfl rfl) ?_
  refine sQ 10 (Y_assign (v := vi x) rfl rfl) (rw_nil (cw_seq (cw_region ?_)))
  refine sQ 34 (Y_move (v := pt B 0) rfl (hf1.get 0 0 rfl)) ?_
  refine sQ 35 (Y_move (v := vi mask) rfl (hf1.get 1 1 rfl)) ?_
  refine sQ 36 (Y_move (v := vi x) rfl rfl) ?_
  refine sQ 37 (Y_conv (k := .i64) (a := x) (T := 3) (T' := 59) k_us_3 k_int_59_u64 rfl rfl) ?_
  obtain ⟨hsh, hb1⟩ := chk_inv hb1
  refine sQ 38 (Y_shl (k := .i64) (a := 1) (k' := .u64) (b := (IntKind.u64.wrap x)) rfl rfl rfl hsh) ?_
  refine sQ 39 (Y_bor (k := .i64) (a := mask) (b := (shlK .i64 1 (IntKind.u64.wrap x))) rfl rfl rfl) ?_
  refine sQ 40 (Y_move (v := vi k_1) rfl (hf1.get 2 2 rfl)) ?_
  obtain ⟨m2, hc2, hb1⟩ := bind_inv hb1
  refine sc 41 rfl rfl (Yc_func (g := 39) (vs := [pt B 0, vi (bits .or .i64 mask (shlK .i64 1 (IntKind.u64.wrap x))), vi k_1]) k_call_39 rfl (mc rfl (mc rfl (mc rfl mn))) (c_spec_l21Sum_add (Tl21Sum.mk phase1 terms1) (bits .or .i64 mask (shlK .i64 1 (IntKind.u64.wrap x))) k_1 B B6 c5 terms1.length _ rfl (hS5.lencap (i := 1) rfl (fm_lenn (l := terms1) eN2 rfl) rfl rfl) (hS5.inn [true, true] rfl [] rfl) hc2)) ?_
  rintro _ w_3 ⟨B7, c6, rfl, hd2⟩
  have hS7 := hS5.out [true, true] rfl hd2
  refine rw_nil (cw_seq (cw_region ?_))
  refine sQ 42 (Y_move (v := .slice B5 r_.length c4) rfl (hf1.get 8 3 rfl)) ?_
  refine sQ 43 (Y_move (v := vi (i : Int)) rfl rfl) ?_
  obtain ⟨hsl, hb1⟩ := chk_inv hb1
  have hcap1 : r_.length ≤ c4 := hq
  have hv : (List.take i r_).length = i := (take_len rfl (by omega))
  have hq1 : i ≤ c4 := by omega
  have ho2 : Org w0 (bl [⟨B, 68, [vi s.phase, .slice B1 s.terms.length c], 2⟩, ⟨B1, 56, (s.terms.flatMap eN0), c * 2⟩]) [] [⟨B5, ((List.take i r_).flatMap encI)⟩] := org_view encI_len (q := c4) ho (sv_zero _ _ _).symm rfl
  have hS8 : ST w0 (bl [⟨B, 68, [vi s.phase, .slice B1 s.terms.length c], 2⟩, ⟨B1, 56, (s.terms.flatMap eN0), c * 2⟩]) _ [⟨B, 68, [vi m2.phase, .slice B7 m2.terms.length c6], 2⟩, ⟨B7, 56, (m2.terms.flatMap eN0), c6 * 2⟩] [⟨B5, ((List.take i r_).flatMap encI)⟩, ⟨B5, (r_.flatMap encI)⟩] := ST.view encI_len hS7 (i := 0) rfl (lo := 0) (h := i) (q := c4) (by omega) (by omega) (sv_zero _ _ _).symm rfl
  refine sQ 44 (Y_slice0 (B := B5) (m := r_.length) (c := c4) (h := i) (s := 1) k_sl_60_3 k_sz_3_1 rfl rfl (bnd_some rfl rfl) (by omega)) ?_
  refine sQ 45 (Y_len (B := B5) (m := i) (c := c4) k_sl_60_3 rfl rfl) ?_
  refine sQ 46 (Y_move (v := vi 0) rfl rfl) (rw_nil ?_)
  obtain ⟨hN1, hb1⟩ := chk_inv hb1
  obtain ⟨z2, hz2, hF5⟩ := bind_inv hb1
  refine cw_block ?_
  refine cw_loop (fun k f w => ∃ (i1 : Nat) (phase2 : Int) (terms2 : List TTerm) (B8 : Option Addr) (c7 : Nat), FF f [(0, pt B 0), (1, vi mask), (2, vi k_1), (8, .slice B5 r_.length c4), (10, vi x), (27, .slice B5 r_.length c4), (28, vi (r_.length : Int)), (29, vi (i : Int)), (44, .slice B5 i c4), (45, vi (i : Int)), (46, vi (i1 : Int))] ∧ ST w0 (bl [⟨B, 68, [vi s.phase, .slice B1 s.terms.length c], 2⟩, ⟨B1, 56, (s.terms.flatMap eN0), c * 2⟩]) w [⟨B, 68, [vi phase2, .slice B8 terms2.length c7], 2⟩, ⟨B8, 56, (terms2.flatMap eN0), c7 * 2⟩] [⟨B5, ((List.take i r_).flatMap encI)⟩, ⟨B5, (r_.flatMap encI)⟩] ∧ i1 + k = i ∧ forN (F_spec_l21Sum_times_l2 i r_ x mask k_1) k i1 (phase2, terms2) = some z2) i ⟨0, m2.phase, m2.terms, B7, c6, (FF.cons (hf1.get 0 0 rfl) (FF.cons (hf1.get 1 1 rfl) (FF.cons (hf1.get 2 2 rfl) (FF.cons (hf1.get 8 3 rfl) (FF.cons rfl (FF.cons (hf1.get 27 4 rfl) (FF.cons (hf1.get 28 5 rfl) (FF.cons (hf1.get 29 6 rfl) (FF.cons rfl (FF.cons rfl (FF.cons rfl FF.nil))))))))))), (hS8.sel [0, 1] rfl rfl), Nat.zero_add _, hz2⟩ ?_
  rintro k_4 f w ⟨i1, phase2, terms2, B8, c7, hf2, hS9, hik1, hL2⟩
  refine cw_seq (cw_region ?_)
  refine sQ 47 (Y_lt (k := .i64) (a := (i1 : Int)) (b := (i : Int)) rfl (hf2.get 46 10 rfl) (hf2.get 45 9 rfl)) (rw_nil (cw_seq ?_))
  refine cw_cond (b := (decide ((i1 : Int) < (i : Int)))) rfl (fun hlt2 => ?_) (fun hlt2 => ?_)
  ·skip
   have hlt3 : i1 < i := by have h := of_decide_eq_true hlt2; omega
   obtain ⟨k_5, rfl⟩ : ∃ k2, k_4 = k2 + 1 := ⟨k_4 - 1, by omega⟩
   obtain ⟨y1, hb2, hL3⟩ := forN_go hL2
   unfold F_spec_l21Sum_times_l2 at hb2
   refine cw_skip (cw_seq (cw_block (cw_seq (cw_region ?_))))
   refine sQ 48 (Y_move (v := vi (i1 : Int)) rfl (hf2.get 46 10 rfl)) ?_
   obtain ⟨x1, hx1, hb2⟩ := bind_inv hb2
   refine sQ 49 (Y_index (B := B5) (m := i) (c := c4) (k := .i64) (i := (i1 : Int)) k_sl_60_3 k_sz_3_1 rfl (hf2.get 44 8 rfl) (hf2.get 46 10 rfl) (gi_isSome encI_len rfl (hS9.rf (i := 0) rfl) hx1) (getI_nn hx1) (getI_ltI hx1 hv)) ?_
   refine sQ 50 (Y_load1 (B := B5) (i := (i1 : Int).toNat * 1) (cs := ((List.take i r_).flatMap encI)) (v := vi x1) k_sc_3 rfl rfl (hS9.rf (i := 0) rfl) (gi_at0 encI_len hx1 rfl)) ?_
   refine sQ 11 (Y_assign (v := vi (i1 : Int)) rfl rfl) ?_
   refine sQ 12 (Y_assign (v := vi x1) rfl rfl) (rw_nil (cw_seq (cw_region ?_)))
   refine sQ 51 (Y_move (v := pt B 0) rfl (hf2.get 0 0 rfl)) ?_
   refine sQ 52 (Y_move (v := vi mask) rfl (hf2.get 1 1 rfl)) ?_
   refine sQ 53 (Y_move (v := vi x) rfl (hf2.get 10 4 rfl)) ?_
   refine sQ 54 (Y_conv (k := .i64) (a := x) (T := 3) (T' := 59) k_us_3 k_int_59_u64 rfl rfl) ?_
   obtain ⟨hsh1, hb2⟩ := chk_inv hb2
   refine sQ 55 (Y_shl (k := .i64) (a := 1) (k' := .u64) (b := (IntKind.u64.wrap x)) rfl rfl rfl hsh1) ?_
   refine sQ 56 (Y_bor (k := .i64) (a := mask) (b := (shlK .i64 1 (IntKind.u64.wrap x))) rfl rfl rfl) ?_
   refine sQ 57 (Y_move (v := vi x1) rfl rfl) ?_
   refine sQ 58 (Y_conv (k := .i64) (a := x1) (T := 3) (T' := 59) k_us_3 k_int_59_u64 rfl rfl) ?_
   obtain ⟨hsh2, hb2⟩ := chk_inv hb2
   refine sQ 59 (Y_shl (k := .i64) (a := 1) (k' := .u64) (b := (IntKind.u64.wrap x1)) rfl rfl rfl hsh2) ?_
   refine sQ 60 (Y_bor (k := .i64) (a := (bits .or .i64 mask (shlK .i64 1 (IntKind.u64.wrap x)))) (b := (shlK .i64 1 (IntKind.u64.wrap x1))) rfl rfl rfl) ?_
   refine sQ 61 (Y_move (v := vi k_1) rfl (hf2.get 2 2 rfl)) ?_
   refine sQ 62 (Y_mul (k := .i64) (a := (-2)) (b := k_1) rfl rfl rfl) ?_
   obtain ⟨m3, hc3, hb2⟩ := bind_inv hb2
   refine sc 63 rfl rfl (Yc_func (g := 39) (vs := [pt B 0, vi (bits .or .i64 (bits .or .i64 mask (shlK .i64 1 (IntKind.u64.wrap x))) (shlK .i64 1 (IntKind.u64.wrap x1))), vi (i64.wrap ((-2) * k_1))]) k_call_39 rfl (mc rfl (mc rfl (mc rfl mn))) (c_spec_l21Sum_add (Tl21Sum.mk phase2 terms2) (bits .or .i64 (bits .or .i64 mask (shlK .i64 1 (IntKind.u64.wrap x))) (shlK .i64 1 (IntKind.u64.wrap x1))) (i64.wrap ((-2) * k_1)) B B8 c7 terms2.length _ rfl (hS9.lencap (i := 1) rfl (fm_lenn (l := terms2) eN2 rfl) rfl rfl) (hS9.inn [true, true] rfl [] rfl) hc3)) ?_
   rintro _ w_4 ⟨B9, c8, rfl, hd3⟩
   have hS10 := hS9.out [true, true] rfl hd3
   refine rw_nil (cw_seq (cw_region ?_))
   refine sQ 64 (Y_move (v := .slice B5 r_.length c4) rfl (hf2.get 8 3 rfl)) ?_
   refine sQ 65 (Y_move (v := vi (i1 : Int)) rfl rfl) ?_
   obtain ⟨hsl1, hb2⟩ := chk_inv hb2
   have hcap2 : r_.length ≤ c4 := hq
   have hv1 : (List.take i1 r_).length = i1 := (take_len rfl (by omega))
   have hq2 : i1 ≤ c4 := by omega
   have ho3 : Org w0 (bl [⟨B, 68, [vi s.phase, .slice B1 s.terms.length c], 2⟩, ⟨B1, 56, (s.terms.flatMap eN0), c * 2⟩]) [] [⟨B5, ((List.take i1 r_).flatMap encI)⟩] := org_view encI_len (q := c4) ho (sv_zero _ _ _).symm rfl
   have hS11 : ST w0 (bl [⟨B, 68, [vi s.phase, .slice B1 s.terms.length c], 2⟩, ⟨B1, 56, (s.terms.flatMap eN0), c * 2⟩]) _ [⟨B, 68, [vi m3.phase, .slice B9 m3.terms.length c8], 2⟩, ⟨B9, 56, (m3.terms.flatMap eN0), c8 * 2⟩] [⟨B5, ((List.take i1 r_).flatMap encI)⟩, ⟨B5, ((List.take i r_).flatMap encI)⟩, ⟨B5, (r_.flatMap encI)⟩] := ST.view encI_len hS10 (i := 1) rfl (lo := 0) (h := i1) (q := c4) (by omega) (by omega) (sv_zero _ _ _).symm rfl
   refine sQ 66 (Y_slice0 (B := B5) (m := r_.length) (c := c4) (h := i1) (s := 1) k_sl_60_3 k_sz_3_1 rfl rfl (bnd_some rfl rfl) (by omega)) ?_
   refine sQ 67 (Y_len (B := B5) (m := i1) (c := c4) k_sl_60_3 rfl rfl) ?_
   refine sQ 68 (Y_move (v := vi 0) rfl rfl) (rw_nil ?_)
   obtain ⟨hN2, hb2⟩ := chk_inv hb2
   obtain ⟨z3, hz3, hF6⟩ := bind_inv hb2
   refine cw_block ?_
   refine cw_loop (fun k f w => ∃ (i2 : Nat) (phase3 : Int) (terms3 : List TTerm) (B10 : Option Addr) (c9 : Nat), FF f [(0, pt B 0), (1, vi mask), (2, vi k_1), (8, .slice B5 r_.length c4), (10, vi x), (12, vi x1), (27, .slice B5 r_.length c4), (28, vi (r_.length : Int)), (29, vi (i : Int)), (44, .slice B5 i c4), (45, vi (i : Int)), (46, vi (i1 : Int)), (66, .slice B5 i1 c4), (67, vi (i1 : Int)), (68, vi (i2 : Int))] ∧ ST w0 (bl [⟨B, 68, [vi s.phase, .slice B1 s.terms.length c], 2⟩, ⟨B1, 56, (s.terms.flatMap eN0), c * 2⟩]) w [⟨B, 68, [vi phase3, .slice B10 terms3.length c9], 2⟩, ⟨B10, 56, (terms3.flatMap eN0), c9 * 2⟩] [⟨B5, ((List.take i1 r_).flatMap encI)⟩, ⟨B5, ((List.take i r_).flatMap encI)⟩, ⟨B5, (r_.flatMap encI)⟩] ∧ i2 + k = i1 ∧ forN (F_spec_l21Sum_times_l3 i1 r_ x x1 mask k_1) k i2 (phase3, terms3) = some z3) i1 ⟨0, m3.phase, m3.terms, B9, c8, (FF.cons (hf2.get 0 0 rfl) (FF.cons (hf2.get 1 1 rfl) (FF.cons (hf2.get 2 2 rfl) (FF.cons (hf2.get 8 3 rfl) (FF.cons (hf2.get 10 4 rfl) (FF.cons rfl (FF.cons (hf2.get 27 5 rfl) (FF.cons (hf2.get 28 6 rfl) (FF.cons (hf2.get 29 7 rfl) (FF.cons (hf2.get 44 8 rfl) (FF.cons (hf2.get 45 9 rfl) (FF.cons (hf2.get 46 10 rfl) (FF.cons rfl (FF.cons rfl (FF.cons rfl FF.nil))))))))))))))), (hS11.sel [0, 1] rfl rfl), Nat.zero_add _, hz3⟩ ?_
   rintro k_6 f w ⟨i2, phase3, terms3, B10, c9, hf3, hS12, hik2, hL4⟩
   refine cw_seq (cw_region ?_)
   refine sQ 69 (Y_lt (k := .i64) (a := (i2 : Int)) (b := (i1 : Int)) rfl (hf3.get 68 14 rfl) (hf3.get 67 13 rfl)) (rw_nil (cw_seq ?_))
   refine cw_cond (b := (decide ((i2 : Int) < (i1 : Int)))) rfl (fun hlt4 => ?_) (fun hlt4 => ?_)
   ·skip
    have hlt5 : i2 < i1 := by have h := of_decide_eq_true hlt4; omega
    obtain ⟨k_7, rfl⟩ : ∃ k2, k_6 = k2 + 1 := ⟨k_6 - 1, by omega⟩
    obtain ⟨y2, hb3, hL5⟩ := forN_go hL4
    unfold F_spec_l21Sum_times_l3 at hb3
    refine cw_skip (cw_seq (cw_block (cw_seq (cw_region ?_))))
    obtain ⟨x2, hx2, hb3⟩ := bind_inv hb3
    refine sQ 70 (Y_index (B := B5) (m := i1) (c := c4) (k := .i64) (i := (i2 : Int)) k_sl_60_3 k_sz_3_1 rfl (hf3.get 66 12 rfl) (hf3.get 68 14 rfl) (gi_isSome encI_len rfl (hS12.rf (i := 0) rfl) hx2) (getI_nn hx2) (getI_ltI hx2 hv1)) ?_
    refine sQ 71 (Y_load1 (B := B5) (i := (i2 : Int).toNat * 1) (cs := ((List.take i1 r_).flatMap encI)) (v := vi x2) k_sc_3 rfl rfl (hS12.rf (i := 0) rfl) (gi_at0 encI_len hx2 rfl)) ?_
    refine sQ 14 (Y_assign (v := vi x2) rfl rfl) (rw_nil (cw_region ?_))
    refine sQ 72 (Y_move (v := pt B 0) rfl (hf3.get 0 0 rfl)) ?_
    refine sQ 73 (Y_move (v := vi mask) rfl (hf3.get 1 1 rfl)) ?_
    refine sQ 74 (Y_move (v := vi x) rfl (hf3.get 10 4 rfl)) ?_
    refine sQ 75 (Y_conv (k := .i64) (a := x) (T := 3) (T' := 59) k_us_3 k_int_59_u64 rfl rfl) ?_
    obtain ⟨hsh3, hb3⟩ := chk_inv hb3
    refine sQ 76 (Y_shl (k := .i64) (a := 1) (k' := .u64) (b := (IntKind.u64.wrap x)) rfl rfl rfl hsh3) ?_
    refine sQ 77 (Y_bor (k := .i64) (a := mask) (b := (shlK .i64 1 (IntKind.u64.wrap x))) rfl rfl rfl) ?_
    refine sQ 78 (Y_move (v := vi x1) rfl (hf3.get 12 5 rfl)) ?_
    refine sQ 79 (Y_conv (k := .i64) (a := x1) (T := 3) (T' := 59) k_us_3 k_int_59_u64 rfl rfl) ?_
    obtain ⟨hsh4, hb3⟩ := chk_inv hb3
    refine sQ 80 (Y_shl (k := .i64) (a := 1) (k' := .u64) (b := (IntKind.u64.wrap x1)) rfl rfl rfl hsh4) ?_
    refine sQ 81 (Y_bor (k := .i64) (a := (bits .or .i64 mask (shlK .i64 1 (IntKind.u64.wrap x)))) (b := (shlK .i64 1 (IntKind.u64.wrap x1))) rfl rfl rfl) ?_
    refine sQ 82 (Y_move (v := vi x2) rfl rfl) ?_
    refine sQ 83 (Y_conv (k := .i64) (a := x2) (T := 3) (T' := 59) k_us_3 k_int_59_u64 rfl rfl) ?_
    obtain ⟨hsh5, hb3⟩ := chk_inv hb3
    refine sQ 84 (Y_shl (k := .i64) (a := 1) (k' := .u64) (b := (IntKind.u64.wrap x2)) rfl rfl rfl hsh5) ?_
    refine sQ 85 (Y_bor (k := .i64) (a := (bits .or .i64 (bits .or .i64 mask (shlK .i64 1 (IntKind.u64.wrap x))) (shlK .i64 1 (IntKind.u64.wrap x1)))) (b := (shlK .i64 1 (IntKind.u64.wrap x2))) rfl rfl rfl) ?_
    refine sQ 86 (Y_move (v := vi k_1) rfl (hf3.get 2 2 rfl)) ?_
    refine sQ 87 (Y_mul (k := .i64) (a := 4) (b := k_1) rfl rfl rfl) ?_
    obtain ⟨m4, hc4, hb3⟩ := bind_inv hb3
    refine sc 88 rfl rfl (Yc_func (g := 39) (vs := [pt B 0, vi (bits .or .i64 (bits .or .i64 (bits .or .i64 mask (shlK .i64 1 (IntKind.u64.wrap x))) (shlK .i64 1 (IntKind.u64.wrap x1))) (shlK .i64 1 (IntKind.u64.wrap x2))), vi (i64.wrap (4 * k_1))]) k_call_39 rfl (mc rfl (mc rfl (mc rfl mn))) (c_spec_l21Sum_add (Tl21Sum.mk phase3 terms3) (bits .or .i64 (bits .or .i64 (bits .or .i64 mask (shlK .i64 1 (IntKind.u64.wrap x))) (shlK .i64 1 (IntKind.u64.wrap x1))) (shlK .i64 1 (IntKind.u64.wrap x2))) (i64.wrap (4 * k_1)) B B10 c9 terms3.length _ rfl (hS12.lencap (i := 1) rfl (fm_lenn (l := terms3) eN2 rfl) rfl rfl) (hS12.inn [true, true] rfl [] rfl) hc4)) ?_
    rintro _ w_5 ⟨B11, c10, rfl, hd4⟩
    have hS13 := hS12.out [true, true] rfl hd4
    refine rw_nil (cw_region ?_)
    refine sQ 89 (Y_add (k := .i64) (a := (i2 : Int)) (b := 1) rfl (hf3.get 68 14 rfl) rfl) ?_
    refine sQ 68 (Y_move (v := vi (i64.wrap ((i2 : Int) + 1))) rfl rfl) (rw_nil ?_)
    obtain rfl := some_inj hb3
    exact ⟨k_7, Nat.lt_succ_self _, i2 + 1, m4.phase, m4.terms, B11, c10, (FF.cons (hf3.get 0 0 rfl) (FF.cons (hf3.get 1 1 rfl) (FF.cons (hf3.get 2 2 rfl) (FF.cons (hf3.get 8 3 rfl) (FF.cons (hf3.get 10 4 rfl) (FF.cons (hf3.get 12 5 rfl) (FF.cons (hf3.get 27 6 rfl) (FF.cons (hf3.get 28 7 rfl) (FF.cons (hf3.get 29 8 rfl) (FF.cons (hf3.get 44 9 rfl) (FF.cons (hf3.get 45 10 rfl) (FF.cons (hf3.get 46 11 rfl) (FF.cons (hf3.get 66 12 rfl) (FF.cons (hf3.get 67 13 rfl) (FF.cons (congrArg (Value.int .i64) (wr_succ hlt5 hN2)) FF.nil))))))))))))))), (hS13.sel [0, 1] rfl rfl), (by omega), hL5⟩
   ·skip
    obtain rfl : k_6 = 0 := by have h := of_decide_eq_false hlt4; omega
    refine cw_exit rfl ?_
    obtain rfl := some_inj hL4
    refine cw_region ?_
    refine sQ 90 (Y_add (k := .i64) (a := (i1 : Int)) (b := 1) rfl (hf3.get 46 11 rfl) rfl) ?_
    refine sQ 46 (Y_move (v := vi (i64.wrap ((i1 : Int) + 1))) rfl rfl) (rw_nil ?_)
    obtain rfl := some_inj hF6
    have hS14 : ST w0 (bl [⟨B, 68, [vi s.phase, .slice B1 s.terms.length c], 2⟩, ⟨B1, 56, (s.terms.flatMap eN0), c * 2⟩]) _ [⟨B, 68, [vi phase3, .slice B10 terms3.length c9], 2⟩, ⟨B10, 56, (terms3.flatMap eN0), c9 * 2⟩] [⟨B5, ((List.take i r_).flatMap encI)⟩, ⟨B5, (r_.flatMap encI)⟩] := ST.subR hS12 (subc (mem_at (i := 1) rfl) (subc (mem_at (i := 2) rfl) (fun _ h => by cases h)))
    exact ⟨k_5, Nat.lt_succ_self _, i1 + 1, phase3, terms3, B10, c9, (FF.cons (hf3.get 0 0 rfl) (FF.cons (hf3.get 1 1 rfl) (FF.cons (hf3.get 2 2 rfl) (FF.cons (hf3.get 8 3 rfl) (FF.cons (hf3.get 10 4 rfl) (FF.cons (hf3.get 27 6 rfl) (FF.cons (hf3.get 28 7 rfl) (FF.cons (hf3.get 29 8 rfl) (FF.cons (hf3.get 44 9 rfl) (FF.cons (hf3.get 45 10 rfl) (FF.cons (congrArg (Value.int .i64) (wr_succ hlt3 hN1)) FF.nil))))))))))), (hS14.sel [0, 1] rfl rfl), (by omega), hL3⟩
  ·skip
   obtain rfl : k_4 = 0 := by have h := of_decide_eq_false hlt2; omega
   refine cw_exit rfl ?_
   obtain rfl := some_inj hL2
   refine cw_region ?_
   refine sQ 91 (Y_add (k := .i64) (a := (i : Int)) (b := 1) rfl (hf2.get 29 7 rfl) rfl) ?_
   refine sQ 29 (Y_move (v := vi (i64.wrap ((i : Int) + 1))) rfl rfl) (rw_nil ?_)
   obtain rfl := some_inj hF5
   have hS15 : ST w0 (bl [⟨B, 68, [vi s.phase, .slice B1 s.terms.length c], 2⟩, ⟨B1, 56, (s.terms.flatMap eN0), c * 2⟩]) _ [⟨B, 68, [vi phase2, .slice B8 terms2.length c7], 2⟩, ⟨B8, 56, (terms2.flatMap eN0), c7 * 2⟩] [⟨B5, (r_.flatMap encI)⟩] := ST.subR hS9 (subc (mem_at (i := 1) rfl) (fun _ h => by cases h))
   exact ⟨k_3, Nat.lt_succ_self _, i + 1, phase2, terms2, B8, c7, (FF.cons (hf2.get 0 0 rfl) (FF.cons (hf2.get 1 1 rfl) (FF.cons (hf2.get 2 2 rfl) (FF.cons (hf2.get 8 3 rfl) (FF.cons (hf2.get 27 5 rfl) (FF.cons (hf2.get 28 6 rfl) (FF.cons (congrArg (Value.int .i64) (wr_succ hlt1 hN)) FF.nil))))))), ho, (len_le rfl hq), (hS15.sel [0, 1] rfl rfl), (by omega), hL1⟩
 ·skip
  obtain rfl : k_2 = 0 := by have h := of_decide_eq_false hlt; omega
  refine cw_exit rfl ?_
  obtain rfl := some_inj hL
  obtain rfl := some_inj hF4
  exact ret0 Tryd.results40  ⟨B6, c5, rfl, (hS5.sN [0, 1])⟩
end Go.VK
