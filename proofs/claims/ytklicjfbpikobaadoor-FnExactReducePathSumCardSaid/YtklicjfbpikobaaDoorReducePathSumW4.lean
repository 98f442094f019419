/- Walks: each Go function returns what its Lean function says. By program. -/
import Derived.Test.YtklicjfbpikobaaDoorReducePathSumFa
import Derived.Test.YtklicjfbpikobaaDoorReducePathSumShelf
import Derived.Test.YtklicjfbpikobaaDoorLibT
import Derived.WalkKit
import Derived.Test.YtklicjfbpikobaaDoorReducePathSumW3
set_option linter.unusedVariables false
set_option maxRecDepth 100000
set_option maxHeartbeats 4000000
namespace Go.VK
open Go.RowKit
open Go.Proofs
open Go.IntKind
attribute [local irreducible] CW RW RA CV Y Yw Yc Ys RetOf
attribute [local irreducible] F_laws_szTermS F_laws_szAffineS F_laws_szPathSum F_laws_toTerm F_laws_toTermS F_laws_toAffine F_laws_toAffineS F_laws_toPathSum F_laws_eqTerm F_laws_eqTermS F_laws_eqAffine F_laws_eqAffineS F_laws_eqPathSum F_laws_markTermS F_laws_markAffineS F_laws_markPathSum F_laws_heldTermS F_laws_heldAffineS F_laws_heldPathSum F_spec_l1In F_spec_l1Set F_spec_l21Valid F_spec_l21Rule F_spec_l21Drop F_spec_l21Sum_add F_spec_l21Sum_times F_spec_l21Replace F_spec_l21Without F_spec_l21Step F_spec_l21Reduce F_spec_l21Own F_spec_ReducePathSum F_slices_IndexFunc_impl_Affine_impl_Affine F_slices_ContainsFunc_impl_Affine_impl_Affine F_impl_within F_math_bits_OnesCount64 F_math_bits_OnesCount F_impl_bitsIn F_impl_isAffine F_impl_IsValidPathSum_1 F_impl_IsValidPathSum F_impl_ReduceStep_1 F_impl_PathSum_around F_math_bits_TrailingZeros64 F_math_bits_TrailingZeros F_impl_dropped F_impl_PathSum_without F_impl_polyOf F_impl_polynomial_add F_impl_bitsOf F_impl_polynomial_expand F_impl_polynomial_terms F_impl_PathSum_stripped F_impl_PathSum_substituted F_impl_PathSum_ruled F_impl_ReduceStep F_slices_Clone_impl_Term_impl_Term F_slices_Clone_impl_Affine_impl_Affine F_impl_ReducePathSum F_laws_FnExactReducePathSum
theorem c_laws_FnExactReducePathSum (aP : TPathSum) (B : Option Addr) (c n : Nat) (B1 : Option Addr) (c1 n1 : Nat) (w0 : World) (hn : aP.Terms.length = n) (hn1 : aP.Out.length = n1) (hS : ST w0 [] w0 [] [⟨B, (aP.Terms.flatMap eN0)⟩, ⟨B1, (aP.Out.flatMap eN1)⟩, ⟨(aD 0), (gl0.flatMap enc_u8)⟩, ⟨(aD 1), (gl1.flatMap enc_u8)⟩]) {r_ : Bool} (hF : F_laws_FnExactReducePathSum aP = some r_) :
  CV Tryd.prog 4 #[.agg #[vi aP.Ins, vi aP.Vars, vi aP.Root, vi aP.Phase, .slice B n c, .slice B1 n1 c1]] w0 (fun v w' => v = .bool r_ ∧ ST w0 [] w' [] []) := by
 subst hn
 subst hn1
 unfold F_laws_FnExactReducePathSum at hF
 refine cv_of_cw 117 Tryd.func4 rfl Tryd.ntmps4 rfl ?_
 refine cw_seq (cw_region ?_)
 refine sS 1 (Ys_box (T := 25) (v := .agg #[vi aP.Ins, vi aP.Vars, vi aP.Root, vi aP.Phase, .slice B aP.Terms.length c, .slice B1 aP.Out.length c1]) (cs := [vi aP.Ins, vi aP.Vars, vi aP.Root, vi aP.Phase, .slice B aP.Terms.length c, .slice B1 aP.Out.length c1]) (m := 6) hS rfl rfl rfl rfl) ?_
 rintro _ w_ ⟨b, rfl, hS1⟩
 refine sQ 2 (Y_assign (v := .bool false) rfl rfl) (rw_nil (cw_seq (cw_region ?_)))
 refine sQ 3 (Y_assign (v := vi 1048576) rfl rfl) (rw_nil (cw_seq (cw_region ?_)))
 refine sQ 17 (Y_loadA (B := aD b) (i := 0) (cs := [vi aP.Ins, vi aP.Vars, vi aP.Root, vi aP.Phase, .slice B aP.Terms.length c, .slice B1 aP.Out.length c1]) (vs := [vi aP.Ins, vi aP.Vars, vi aP.Root, vi aP.Phase, .slice B aP.Terms.length c, .slice B1 aP.Out.length c1]) k_ag_25 k_sz_25_6 rfl rfl (hS1.cf (i := 0) rfl) rfl rfl) ?_
 refine sQ 18 (Y_move (v := vi 1048576) rfl rfl) ?_
 obtain ⟨r_1, hc, hF⟩ := bind_inv hF
 refine sc 19 rfl rfl (Yc_func (g := 5) (vs := [.agg #[vi aP.Ins, vi aP.Vars, vi aP.Root, vi aP.Phase, .slice B aP.Terms.length c, .slice B1 aP.Out.length c1], vi 1048576]) k_call_5 rfl (mc rfl (mc rfl mn)) (c_laws_szPathSum aP 1048576 B c aP.Terms.length B1 c1 aP.Out.length _ rfl rfl (hS1.inn0 [(true, 0), (true, 1)] rfl) hc)) ?_
 rintro _ w_1 ⟨rfl, hd⟩
 have hS2 := hS1.out00 hd
 refine sQ 3 (Y_assign (v := vi r_1) rfl rfl) (rw_nil (cw_seq (cw_seq (cw_region ?_))))
 refine sQ 20 (Y_move (v := vi r_1) rfl rfl) ?_
 refine sQ 21 (Y_lt (k := .i64) (a := r_1) (b := 0) rfl rfl rfl) (rw_nil ?_)
 refine cw_cond (b := (decide (r_1 < 0))) rfl (fun hb => ?_) (fun hb => ?_)
 ·skip
  have hF1 := ct hF hb
  refine cw_seq (cw_region ?_)
  refine sQ 2 (Y_assign (v := .bool true) rfl rfl) (rw_nil (cw_ret ?_))
  obtain rfl := some_inj hF1
  exact ret1 Tryd.results4 (v1 := .bool true) (resAt_tmp rfl) ⟨rfl, (hS2.sN [])⟩
 ·skip
  have hF2 := cf' hF hb
  refine cw_skip (cw_seq (cw_region ?_))
  refine sQ 23 (Y_loadA (B := aD b) (i := 0) (cs := [vi aP.Ins, vi aP.Vars, vi aP.Root, vi aP.Phase, .slice B aP.Terms.length c, .slice B1 aP.Out.length c1]) (vs := [vi aP.Ins, vi aP.Vars, vi aP.Root, vi aP.Phase, .slice B aP.Terms.length c, .slice B1 aP.Out.length c1]) k_ag_25 k_sz_25_6 rfl rfl (hS2.cf (i := 0) rfl) rfl rfl) ?_
  obtain ⟨r_2, hc1, hF2⟩ := bind_inv hF2
  refine sc 24 rfl rfl (Yc_func (g := 7) (vs := [.agg #[vi aP.Ins, vi aP.Vars, vi aP.Root, vi aP.Phase, .slice B aP.Terms.length c, .slice B1 aP.Out.length c1]]) k_call_7 rfl (mc rfl mn) (c_laws_toPathSum aP B c aP.Terms.length B1 c1 aP.Out.length _ rfl rfl (hS2.inn0 [(true, 0), (true, 1)] rfl) hc1)) ?_
  rintro _ w_2 ⟨B2, c2, B3, c3, rfl, hd1⟩
  have hS3 := hS2.out0 hd1
  obtain ⟨⟨r_3, r_4, r_5⟩, hc2, hF2⟩ := bind_inv hF2
  refine sc 25 rfl rfl (Yc_func (g := 12) (vs := [.agg #[vi r_2.Ins, vi r_2.Vars, vi r_2.Root, vi r_2.Phase, .slice B2 r_2.Terms.length c2, .slice B3 r_2.Out.length c3]]) k_call_12 rfl (mc rfl mn) (c_spec_ReducePathSum r_2 B2 c2 r_2.Terms.length B3 c3 r_2.Out.length _ rfl rfl (hS3.inn [false, true, true] rfl [] rfl) hc2)) ?_
  rintro _ w_3 ⟨B4, c4, B5, c5, rfl, hd2⟩
  have hS4 := hS3.out [false, true, true] rfl hd2
  have hS4 : ST w0 [] _ [⟨aD b, 25, [vi aP.Ins, vi aP.Vars, vi aP.Root, vi aP.Phase, .slice B aP.Terms.length c, .slice B1 aP.Out.length c1], 6⟩, ⟨B4, 56, (r_3.Terms.flatMap eN0), c4 * 2⟩, ⟨B5, 44, (r_3.Out.flatMap eN1), c5 * 2⟩] [⟨B, (aP.Terms.flatMap eN0)⟩, ⟨B1, (aP.Out.flatMap eN1)⟩, ⟨(aD 0), (gl0.flatMap enc_u8)⟩, ⟨(aD 1), (gl1.flatMap enc_u8)⟩] := hS4
  refine sQ 22 (Y_move (v := .tuple #[.agg #[vi r_3.Ins, vi r_3.Vars, vi r_3.Root, vi r_3.Phase, .slice B4 r_3.Terms.length c4, .slice B5 r_3.Out.length c5], vi r_4, .bool r_5]) rfl rfl) ?_
  refine sQ 26 (Y_extract (v := .agg #[vi r_3.Ins, vi r_3.Vars, vi r_3.Root, vi r_3.Phase, .slice B4 r_3.Terms.length c4, .slice B5 r_3.Out.length c5]) rfl rfl rfl) ?_
  refine sQ 27 (Y_extract (v := vi r_4) rfl rfl rfl) ?_
  refine sQ 28 (Y_extract (v := .bool r_5) rfl rfl rfl) ?_
  refine sS 4 (Ys_alloc (T := 30) (cs := [vi 0, vi 0, vi 0, vi 0, .slice none 0 0, .slice none 0 0]) (m := 6) hS4 k_zero_30 rfl rfl rfl) ?_
  rintro _ w_4 ⟨b1, rfl, hS5⟩
  refine s0 (Ys_store (i := 3) (s := 6) (B := aD b1) (T' := 30) (v := .agg #[vi r_3.Ins, vi r_3.Vars, vi r_3.Root, vi r_3.Phase, .slice B4 r_3.Terms.length c4, .slice B5 r_3.Out.length c5]) (vs := [vi r_3.Ins, vi r_3.Vars, vi r_3.Root, vi r_3.Phase, .slice B4 r_3.Terms.length c4, .slice B5 r_3.Out.length c5]) (k := 0) (cs' := [vi r_3.Ins, vi r_3.Vars, vi r_3.Root, vi r_3.Phase, .slice B4 r_3.Terms.length c4, .slice B5 r_3.Out.length c5]) hS5 k_sz_30_6 rfl rfl rfl rfl rfl rfl rfl (lB rfl) rfl rfl) ?_
  rintro _ w_5 ⟨rfl, hS6⟩
  have hS6 : ST w0 [] _ [⟨aD b, 25, [vi aP.Ins, vi aP.Vars, vi aP.Root, vi aP.Phase, .slice B aP.Terms.length c, .slice B1 aP.Out.length c1], 6⟩, ⟨B4, 56, (r_3.Terms.flatMap eN0), c4 * 2⟩, ⟨B5, 44, (r_3.Out.flatMap eN1), c5 * 2⟩, ⟨aD b1, 30, [vi r_3.Ins, vi r_3.Vars, vi r_3.Root, vi r_3.Phase, .slice B4 r_3.Terms.length c4, .slice B5 r_3.Out.length c5], 6⟩] [⟨B, (aP.Terms.flatMap eN0)⟩, ⟨B1, (aP.Out.flatMap eN1)⟩, ⟨(aD 0), (gl0.flatMap enc_u8)⟩, ⟨(aD 1), (gl1.flatMap enc_u8)⟩] := hS6
  refine sQ 5 (Y_assign (v := vi r_4) rfl rfl) ?_
  refine sQ 6 (Y_assign (v := .bool r_5) rfl rfl) (rw_nil (cw_seq (cw_region ?_)))
  refine sQ 29 (Y_loadA (B := aD b) (i := 0) (cs := [vi aP.Ins, vi aP.Vars, vi aP.Root, vi aP.Phase, .slice B aP.Terms.length c, .slice B1 aP.Out.length c1]) (vs := [vi aP.Ins, vi aP.Vars, vi aP.Root, vi aP.Phase, .slice B aP.Terms.length c, .slice B1 aP.Out.length c1]) k_ag_25 k_sz_25_6 rfl rfl (hS6.cf (i := 0) rfl) rfl rfl) ?_
  obtain ⟨r_6, hc3, hF2⟩ := bind_inv hF2
  refine sc 30 rfl rfl (Yc_func (g := 7) (vs := [.agg #[vi aP.Ins, vi aP.Vars, vi aP.Root, vi aP.Phase, .slice B aP.Terms.length c, .slice B1 aP.Out.length c1]]) k_call_7 rfl (mc rfl mn) (c_laws_toPathSum aP B c aP.Terms.length B1 c1 aP.Out.length _ rfl rfl (hS6.inn0 [(true, 0), (true, 1)] rfl) hc3)) ?_
  rintro _ w_6 ⟨B6, c6, B7, c7, rfl, hd3⟩
  have hS7 := hS6.out0 hd3
  refine sS 7 (Ys_alloc (T := 30) (cs := [vi 0, vi 0, vi 0, vi 0, .slice none 0 0, .slice none 0 0]) (m := 6) hS7 k_zero_30 rfl rfl rfl) ?_
  rintro _ w_7 ⟨b2, rfl, hS8⟩
  have hS8 : ST w0 [] _ [⟨aD b, 25, [vi aP.Ins, vi aP.Vars, vi aP.Root, vi aP.Phase, .slice B aP.Terms.length c, .slice B1 aP.Out.length c1], 6⟩, ⟨B4, 56, (r_3.Terms.flatMap eN0), c4 * 2⟩, ⟨B5, 44, (r_3.Out.flatMap eN1), c5 * 2⟩, ⟨aD b1, 30, [vi r_3.Ins, vi r_3.Vars, vi r_3.Root, vi r_3.Phase, .slice B4 r_3.Terms.length c4, .slice B5 r_3.Out.length c5], 6⟩, ⟨B6, 56, (r_6.Terms.flatMap eN0), c6 * 2⟩, ⟨B7, 44, (r_6.Out.flatMap eN1), c7 * 2⟩, ⟨aD b2, 30, [vi 0, vi 0, vi 0, vi 0, .slice none 0 0, .slice none 0 0], 6⟩] [⟨B, (aP.Terms.flatMap eN0)⟩, ⟨B1, (aP.Out.flatMap eN1)⟩, ⟨(aD 0), (gl0.flatMap enc_u8)⟩, ⟨(aD 1), (gl1.flatMap enc_u8)⟩] := hS8
  refine s0 (Ys_store (i := 6) (s := 6) (B := aD b2) (T' := 30) (v := .agg #[vi r_6.Ins, vi r_6.Vars, vi r_6.Root, vi r_6.Phase, .slice B6 r_6.Terms.length c6, .slice B7 r_6.Out.length c7]) (vs := [vi r_6.Ins, vi r_6.Vars, vi r_6.Root, vi r_6.Phase, .slice B6 r_6.Terms.length c6, .slice B7 r_6.Out.length c7]) (k := 0) (cs' := [vi r_6.Ins, vi r_6.Vars, vi r_6.Root, vi r_6.Phase, .slice B6 r_6.Terms.length c6, .slice B7 r_6.Out.length c7]) hS8 k_sz_30_6 rfl rfl rfl rfl rfl rfl rfl (lB rfl) rfl rfl) ?_
  rintro _ w_8 ⟨rfl, hS9⟩
  refine rw_nil (cw_seq (cw_region ?_))
  refine sQ 32 (Y_loadA (B := aD b2) (i := 0) (cs := [vi r_6.Ins, vi r_6.Vars, vi r_6.Root, vi r_6.Phase, .slice B6 r_6.Terms.length c6, .slice B7 r_6.Out.length c7]) (vs := [vi r_6.Ins, vi r_6.Vars, vi r_6.Root, vi r_6.Phase, .slice B6 r_6.Terms.length c6, .slice B7 r_6.Out.length c7]) k_ag_30 k_sz_30_6 rfl rfl (hS9.cf (i := 6) rfl) rfl rfl) ?_
  obtain ⟨⟨r_7, r_8, r_9⟩, hc4, hF2⟩ := bind_inv hF2
  refine sc 33 rfl rfl (Yc_func (g := 13) (vs := [.agg #[vi r_6.Ins, vi r_6.Vars, vi r_6.Root, vi r_6.Phase, .slice B6 r_6.Terms.length c6, .slice B7 r_6.Out.length c7]]) k_call_13 rfl (mc rfl mn) (c_impl_ReducePathSum r_6 B6 c6 r_6.Terms.length B7 c7 r_6.Out.length _ rfl rfl (hS9.inn0 [(false, 4), (false, 5), (true, 2), (true, 3)] rfl) hc4)) ?_
  rintro _ w_9 ⟨B8, c8, B9, c9, rfl, hd4⟩
  have hS10 := hS9.out0 hd4
  have hS10 : ST w0 [] _ [⟨aD b, 25, [vi aP.Ins, vi aP.Vars, vi aP.Root, vi aP.Phase, .slice B aP.Terms.length c, .slice B1 aP.Out.length c1], 6⟩, ⟨B4, 56, (r_3.Terms.flatMap eN0), c4 * 2⟩, ⟨B5, 44, (r_3.Out.flatMap eN1), c5 * 2⟩, ⟨aD b1, 30, [vi r_3.Ins, vi r_3.Vars, vi r_3.Root, vi r_3.Phase, .slice B4 r_3.Terms.length c4, .slice B5 r_3.Out.length c5], 6⟩, ⟨B6, 56, (r_6.Terms.flatMap eN0), c6 * 2⟩, ⟨B7, 44, (r_6.Out.flatMap eN1), c7 * 2⟩, ⟨aD b2, 30, [vi r_6.Ins, vi r_6.Vars, vi r_6.Root, vi r_6.Phase, .slice B6 r_6.Terms.length c6, .slice B7 r_6.Out.length c7], 6⟩, ⟨B8, 56, (r_7.Terms.flatMap eN0), c8 * 2⟩, ⟨B9, 44, (r_7.Out.flatMap eN1), c9 * 2⟩] [⟨B, (aP.Terms.flatMap eN0)⟩, ⟨B1, (aP.Out.flatMap eN1)⟩, ⟨(aD 0), (gl0.flatMap enc_u8)⟩, ⟨(aD 1), (gl1.flatMap enc_u8)⟩] := hS10
  refine sQ 31 (Y_move (v := .tuple #[.agg #[vi r_7.Ins, vi r_7.Vars, vi r_7.Root, vi r_7.Phase, .slice B8 r_7.Terms.length c8, .slice B9 r_7.Out.length c9], vi r_8, .bool r_9]) rfl rfl) ?_
  refine sQ 34 (Y_extract (v := .agg #[vi r_7.Ins, vi r_7.Vars, vi r_7.Root, vi r_7.Phase, .slice B8 r_7.Terms.length c8, .slice B9 r_7.Out.length c9]) rfl rfl rfl) ?_
  refine sQ 35 (Y_extract (v := vi r_8) rfl rfl rfl) ?_
  refine sQ 36 (Y_extract (v := .bool r_9) rfl rfl rfl) ?_
  refine sS 8 (Ys_alloc (T := 30) (cs := [vi 0, vi 0, vi 0, vi 0, .slice none 0 0, .slice none 0 0]) (m := 6) hS10 k_zero_30 rfl rfl rfl) ?_
  rintro _ w_10 ⟨b3, rfl, hS11⟩
  refine s0 (Ys_store (i := 9) (s := 6) (B := aD b3) (T' := 30) (v := .agg #[vi r_7.Ins, vi r_7.Vars, vi r_7.Root, vi r_7.Phase, .slice B8 r_7.Terms.length c8, .slice B9 r_7.Out.length c9]) (vs := [vi r_7.Ins, vi r_7.Vars, vi r_7.Root, vi r_7.Phase, .slice B8 r_7.Terms.length c8, .slice B9 r_7.Out.length c9]) (k := 0) (cs' := [vi r_7.Ins, vi r_7.Vars, vi r_7.Root, vi r_7.Phase, .slice B8 r_7.Terms.length c8, .slice B9 r_7.Out.length c9]) hS11 k_sz_30_6 rfl rfl rfl rfl rfl rfl rfl (lB rfl) rfl rfl) ?_
  rintro _ w_11 ⟨rfl, hS12⟩
  have hS12 : ST w0 [] _ [⟨aD b, 25, [vi aP.Ins, vi aP.Vars, vi aP.Root, vi aP.Phase, .slice B aP.Terms.length c, .slice B1 aP.Out.length c1], 6⟩, ⟨B4, 56, (r_3.Terms.flatMap eN0), c4 * 2⟩, ⟨B5, 44, (r_3.Out.flatMap eN1), c5 * 2⟩, ⟨aD b1, 30, [vi r_3.Ins, vi r_3.Vars, vi r_3.Root, vi r_3.Phase, .slice B4 r_3.Terms.length c4, .slice B5 r_3.Out.length c5], 6⟩, ⟨B6, 56, (r_6.Terms.flatMap eN0), c6 * 2⟩, ⟨B7, 44, (r_6.Out.flatMap eN1), c7 * 2⟩, ⟨aD b2, 30, [vi r_6.Ins, vi r_6.Vars, vi r_6.Root, vi r_6.Phase, .slice B6 r_6.Terms.length c6, .slice B7 r_6.Out.length c7], 6⟩, ⟨B8, 56, (r_7.Terms.flatMap eN0), c8 * 2⟩, ⟨B9, 44, (r_7.Out.flatMap eN1), c9 * 2⟩, ⟨aD b3, 30, [vi r_7.Ins, vi r_7.Vars, vi r_7.Root, vi r_7.Phase, .slice B8 r_7.Terms.length c8, .slice B9 r_7.Out.length c9], 6⟩] [⟨B, (aP.Terms.flatMap eN0)⟩, ⟨B1, (aP.Out.flatMap eN1)⟩, ⟨(aD 0), (gl0.flatMap enc_u8)⟩, ⟨(aD 1), (gl1.flatMap enc_u8)⟩] := hS12
  refine sQ 9 (Y_assign (v := vi r_8) rfl rfl) ?_
  refine sQ 10 (Y_assign (v := .bool r_9) rfl rfl) (rw_nil (cw_seq (cw_seq (cw_region ?_))))
  refine sQ 37 (Y_loadA (B := aD b3) (i := 0) (cs := [vi r_7.Ins, vi r_7.Vars, vi r_7.Root, vi r_7.Phase, .slice B8 r_7.Terms.length c8, .slice B9 r_7.Out.length c9]) (vs := [vi r_7.Ins, vi r_7.Vars, vi r_7.Root, vi r_7.Phase, .slice B8 r_7.Terms.length c8, .slice B9 r_7.Out.length c9]) k_ag_30 k_sz_30_6 rfl rfl (hS12.cf (i := 9) rfl) rfl rfl) ?_
  refine sQ 38 (Y_loadA (B := aD b1) (i := 0) (cs := [vi r_3.Ins, vi r_3.Vars, vi r_3.Root, vi r_3.Phase, .slice B4 r_3.Terms.length c4, .slice B5 r_3.Out.length c5]) (vs := [vi r_3.Ins, vi r_3.Vars, vi r_3.Root, vi r_3.Phase, .slice B4 r_3.Terms.length c4, .slice B5 r_3.Out.length c5]) k_ag_30 k_sz_30_6 rfl rfl (hS12.cf (i := 3) rfl) rfl rfl) ?_
  obtain ⟨r_10, hc5, hF2⟩ := bind_inv hF2
  refine sc 39 rfl rfl (Yc_func (g := 9) (vs := [.agg #[vi r_7.Ins, vi r_7.Vars, vi r_7.Root, vi r_7.Phase, .slice B8 r_7.Terms.length c8, .slice B9 r_7.Out.length c9], .agg #[vi r_3.Ins, vi r_3.Vars, vi r_3.Root, vi r_3.Phase, .slice B4 r_3.Terms.length c4, .slice B5 r_3.Out.length c5]]) k_call_9 rfl (mc rfl (mc rfl mn)) (c_laws_eqPathSum r_7 r_3 B8 c8 r_7.Terms.length B9 c9 r_7.Out.length B4 c4 r_3.Terms.length B5 c5 r_3.Out.length _ rfl rfl rfl rfl (hS12.inn0 [(false, 7), (false, 8), (false, 1), (false, 2)] rfl) hc5)) ?_
  rintro _ w_12 ⟨rfl, hd5⟩
  have hS13 := hS12.out00 hd5
  refine sQ 40 (Y_not (p := r_10) rfl rfl) ?_
  refine sQ 41 (Y_move (v := .bool (!r_10)) rfl rfl) ?_
  refine sgq 42 (B := (!(!r_10))) (v := vi r_8) rfl rfl (uF_ 41) (fun hg => (Y_move (v := vi r_8) rfl rfl)) ?_
  refine sgq 43 (B := (!(!r_10))) (v := vi r_4) rfl rfl (uF_ 41) (fun hg1 => (Y_move (v := vi r_4) rfl rfl)) ?_
  refine sgq 44 (B := (!(!r_10))) (v := .bool (r_8 != r_4)) rfl rfl (uF_ 41) (fun hg2 => (Y_ne (k := .i64) (a := r_8) (b := r_4) rfl (gv_of (v := vi r_8) hg2) (gv_of (v := vi r_4) hg2))) ?_
  refine sQ 45 (Y_or (b := (!r_10)) (z := (r_8 != r_4)) rfl rfl rfl rfl) ?_
  refine sQ 46 (Y_move (v := .bool ((!r_10) || (r_8 != r_4))) rfl rfl) ?_
  refine sgq 47 (B := (!((!r_10) || (r_8 != r_4)))) (v := .bool r_9) rfl rfl (uF_ 46) (fun hg3 => (Y_move (v := .bool r_9) rfl rfl)) ?_
  refine sgq 48 (B := (!((!r_10) || (r_8 != r_4)))) (v := .bool r_5) rfl rfl (uF_ 46) (fun hg4 => (Y_move (v := .bool r_5) rfl rfl)) ?_
  refine sgq 49 (B := (!((!r_10) || (r_8 != r_4)))) (v := .bool (!(r_9 == r_5))) rfl rfl (uF_ 46) (fun hg5 => (Y_bne (p := r_9) (q := r_5) k_und_4 rfl (gv_of (v := .bool r_9) hg5) (gv_of (v := .bool r_5) hg5))) ?_
  refine sQ 50 (Y_or (b := ((!r_10) || (r_8 != r_4))) (z := (!(r_9 == r_5))) rfl rfl rfl rfl) (rw_nil ?_)
  refine cw_cond (b := (((!r_10) || (r_8 != r_4)) || (!(r_9 == r_5)))) rfl (fun hb1 => ?_) (fun hb1 => ?_)
  ·skip
   have hF3 := ct hF2 hb1
   refine cw_seq (cw_region ?_)
   refine sQ 2 (Y_assign (v := .bool false) rfl rfl) (rw_nil (cw_ret ?_))
   obtain rfl := some_inj hF3
   exact ret1 Tryd.results4 (v1 := .bool false) (resAt_tmp rfl) ⟨rfl, (hS13.sN [])⟩
  ·skip
   have hF4 := cf' hF2 hb1
   refine cw_skip (cw_seq (cw_seq ?_))
   obtain ⟨r_11, hc6, hF4⟩ := bind_inv hF4
   obtain ⟨r_12, hc7, hF4⟩ := bind_inv hF4
   refine ra_start (hS13.se [0, 1, 2, 3, 4, 5, 6, 7, 8, 9]).fn (by kernel_rfl) ?_
   have hS16 := hS13.drew
   refine rq 0 51 (v := .agg #[vi r_6.Ins, vi r_6.Vars, vi r_6.Root, vi r_6.Phase, .slice B6 r_6.Terms.length c6, .slice B7 r_6.Out.length c7]) rfl (hS16.se [0, 1, 2, 3, 4, 5, 6, 7, 8, 9]) (fun w' hw' => (Y_loadA (B := aD b2) (i := 0) (cs := [vi r_6.Ins, vi r_6.Vars, vi r_6.Root, vi r_6.Phase, .slice B6 r_6.Terms.length c6, .slice B7 r_6.Out.length c7]) (vs := [vi r_6.Ins, vi r_6.Vars, vi r_6.Root, vi r_6.Phase, .slice B6 r_6.Terms.length c6, .slice B7 r_6.Out.length c7]) k_ag_30 k_sz_30_6 rfl rfl (ST.cf hw' (i := 6) rfl) rfl rfl)) ?_
   refine rq 1 52 (v := .agg #[vi aP.Ins, vi aP.Vars, vi aP.Root, vi aP.Phase, .slice B aP.Terms.length c, .slice B1 aP.Out.length c1]) rfl (hS16.se [0, 1, 2, 3, 4, 5, 6, 7, 8, 9]) (fun w' hw' => (Y_loadA (B := aD b) (i := 0) (cs := [vi aP.Ins, vi aP.Vars, vi aP.Root, vi aP.Phase, .slice B aP.Terms.length c, .slice B1 aP.Out.length c1]) (vs := [vi aP.Ins, vi aP.Vars, vi aP.Root, vi aP.Phase, .slice B aP.Terms.length c, .slice B1 aP.Out.length c1]) k_ag_25 k_sz_25_6 rfl rfl (ST.cf hw' (i := 0) rfl) rfl rfl)) ?_
   refine rA [2] ?_
   refine ra_c 53 (i := 2) rfl rfl rfl (Yc_func (g := 7) (vs := [.agg #[vi aP.Ins, vi aP.Vars, vi aP.Root, vi aP.Phase, .slice B aP.Terms.length c, .slice B1 aP.Out.length c1]]) k_call_7 rfl (mc rfl mn) (c_laws_toPathSum aP B c aP.Terms.length B1 c1 aP.Out.length _ rfl rfl (hS16.inn0 [(true, 0), (true, 1)] rfl) hc6)) ?_ ?_
   ·rintro _ w_13 ⟨B10, c10, B11, c11, rfl, hd6⟩
    have hS17 := hS16.out0 hd6
    have hS17 : ST w0 [] _ [⟨aD b, 25, [vi aP.Ins, vi aP.Vars, vi aP.Root, vi aP.Phase, .slice B aP.Terms.length c, .slice B1 aP.Out.length c1], 6⟩, ⟨B4, 56, (r_3.Terms.flatMap eN0), c4 * 2⟩, ⟨B5, 44, (r_3.Out.flatMap eN1), c5 * 2⟩, ⟨aD b1, 30, [vi r_3.Ins, vi r_3.Vars, vi r_3.Root, vi r_3.Phase, .slice B4 r_3.Terms.length c4, .slice B5 r_3.Out.length c5], 6⟩, ⟨B6, 56, (r_6.Terms.flatMap eN0), c6 * 2⟩, ⟨B7, 44, (r_6.Out.flatMap eN1), c7 * 2⟩, ⟨aD b2, 30, [vi r_6.Ins, vi r_6.Vars, vi r_6.Root, vi r_6.Phase, .slice B6 r_6.Terms.length c6, .slice B7 r_6.Out.length c7], 6⟩, ⟨B8, 56, (r_7.Terms.flatMap eN0), c8 * 2⟩, ⟨B9, 44, (r_7.Out.flatMap eN1), c9 * 2⟩, ⟨aD b3, 30, [vi r_7.Ins, vi r_7.Vars, vi r_7.Root, vi r_7.Phase, .slice B8 r_7.Terms.length c8, .slice B9 r_7.Out.length c9], 6⟩, ⟨B10, 56, (r_11.Terms.flatMap eN0), c10 * 2⟩, ⟨B11, 44, (r_11.Out.flatMap eN1), c11 * 2⟩] [⟨B, (aP.Terms.flatMap eN0)⟩, ⟨B1, (aP.Out.flatMap eN1)⟩, ⟨(aD 0), (gl0.flatMap enc_u8)⟩, ⟨(aD 1), (gl1.flatMap enc_u8)⟩] := hS17
    refine ⟨(hS17.se [0, 1, 2, 3, 4, 5, 6, 7, 8, 9]), ?_⟩
    refine rA [3] ?_
    refine ra_c 54 (i := 3) rfl rfl rfl (Yc_func (g := 9) (vs := [.agg #[vi r_6.Ins, vi r_6.Vars, vi r_6.Root, vi r_6.Phase, .slice B6 r_6.Terms.length c6, .slice B7 r_6.Out.length c7], .agg #[vi r_11.Ins, vi r_11.Vars, vi r_11.Root, vi r_11.Phase, .slice B10 r_11.Terms.length c10, .slice B11 r_11.Out.length c11]]) k_call_9 rfl (mc rfl (mc rfl mn)) (c_laws_eqPathSum r_6 r_11 B6 c6 r_6.Terms.length B7 c7 r_6.Out.length B10 c10 r_11.Terms.length B11 c11 r_11.Out.length _ rfl rfl rfl rfl (hS17.inn0 [(false, 4), (false, 5), (false, 10), (false, 11)] rfl) hc7)) ?_ ?_
    ·rintro _ w_14 ⟨rfl, hd7⟩
     have hS18 := hS17.out00 hd7
     refine ⟨(hS18.se [0, 1, 2, 3, 4, 5, 6, 7, 8, 9]), ?_⟩
     refine rq 4 55 (v := .bool (!r_12)) rfl (hS18.se [0, 1, 2, 3, 4, 5, 6, 7, 8, 9]) (fun w' hw' => (Y_not (p := r_12) rfl rfl)) ?_
     refine ra_done (by kernel_rfl) ?_
     refine cw_cond (b := (!r_12)) rfl (fun hb2 => ?_) (fun hb2 => ?_)
     ·skip
      have hF5 := ct hF4 hb2
      refine cw_seq (cw_region ?_)
      refine sQ 2 (Y_assign (v := .bool false) rfl rfl) (rw_nil (cw_ret ?_))
      obtain rfl := some_inj hF5
      exact ret1 Tryd.results4 (v1 := .bool false) (resAt_tmp rfl) ⟨rfl, (hS18.sN [])⟩
     ·skip
      have hF6 := cf' hF4 hb2
      refine cw_skip (cw_seq (cw_region ?_))
      refine sQ 11 (Y_assign (v := vi 1) rfl rfl) (rw_nil (cw_seq (cw_region ?_)))
      refine sQ 56 (Y_loadA (B := aD b2) (i := 0) (cs := [vi r_6.Ins, vi r_6.Vars, vi r_6.Root, vi r_6.Phase, .slice B6 r_6.Terms.length c6, .slice B7 r_6.Out.length c7]) (vs := [vi r_6.Ins, vi r_6.Vars, vi r_6.Root, vi r_6.Phase, .slice B6 r_6.Terms.length c6, .slice B7 r_6.Out.length c7]) k_ag_30 k_sz_30_6 rfl rfl (hS18.cf (i := 6) rfl) rfl rfl) ?_
      refine sQ 57 (Y_move (v := vi 1) rfl rfl) ?_
      obtain ⟨⟨r_13, m, m1⟩, hc8, hF6⟩ := bind_inv hF6
      refine sc 58 rfl rfl (Yc_func (g := 10) (vs := [.agg #[vi r_6.Ins, vi r_6.Vars, vi r_6.Root, vi r_6.Phase, .slice B6 r_6.Terms.length c6, .slice B7 r_6.Out.length c7], vi 1]) k_call_10 rfl (mc rfl (mc rfl mn)) (c_laws_markPathSum r_6 1 B6 c6 r_6.Terms.length B7 c7 r_6.Out.length _ rfl rfl (hS18.inn [false, false, false, false, true, true, false, false, false, false, false, false] rfl [] rfl) hc8)) ?_
      rintro _ w_15 ⟨rfl, hl, hl1, hd8⟩
      have hS19 := hS18.out [false, false, false, false, true, true, false, false, false, false, false, false] rfl hd8
      have hS19 : ST w0 [] _ [⟨aD b, 25, [vi aP.Ins, vi aP.Vars, vi aP.Root, vi aP.Phase, .slice B aP.Terms.length c, .slice B1 aP.Out.length c1], 6⟩, ⟨B4, 56, (r_3.Terms.flatMap eN0), c4 * 2⟩, ⟨B5, 44, (r_3.Out.flatMap eN1), c5 * 2⟩, ⟨aD b1, 30, [vi r_3.Ins, vi r_3.Vars, vi r_3.Root, vi r_3.Phase, .slice B4 r_3.Terms.length c4, .slice B5 r_3.Out.length c5], 6⟩, ⟨aD b2, 30, [vi r_6.Ins, vi r_6.Vars, vi r_6.Root, vi r_6.Phase, .slice B6 r_6.Terms.length c6, .slice B7 r_6.Out.length c7], 6⟩, ⟨B8, 56, (r_7.Terms.flatMap eN0), c8 * 2⟩, ⟨B9, 44, (r_7.Out.flatMap eN1), c9 * 2⟩, ⟨aD b3, 30, [vi r_7.Ins, vi r_7.Vars, vi r_7.Root, vi r_7.Phase, .slice B8 r_7.Terms.length c8, .slice B9 r_7.Out.length c9], 6⟩, ⟨B10, 56, (r_11.Terms.flatMap eN0), c10 * 2⟩, ⟨B11, 44, (r_11.Out.flatMap eN1), c11 * 2⟩, ⟨B6, 56, (m.flatMap eN0), c6 * 2⟩, ⟨B7, 44, (m1.flatMap eN1), c7 * 2⟩] [⟨B, (aP.Terms.flatMap eN0)⟩, ⟨B1, (aP.Out.flatMap eN1)⟩, ⟨(aD 0), (gl0.flatMap enc_u8)⟩, ⟨(aD 1), (gl1.flatMap enc_u8)⟩] := hS19
      refine sQ 11 (Y_assign (v := vi r_13) rfl rfl) (rw_nil (cw_seq (cw_seq (cw_region ?_))))
      refine sQ 59 (Y_move (v := vi r_13) rfl rfl) ?_
      refine sQ 60 (Y_lt (k := .i64) (a := r_13) (b := 0) rfl rfl rfl) ?_
      refine sQ 61 (Y_move (v := .bool (decide (r_13 < 0))) rfl rfl) ?_
      refine sgq 62 (B := (!(decide (r_13 < 0)))) (v := .agg #[vi r_7.Ins, vi r_7.Vars, vi r_7.Root, vi r_7.Phase, .slice B8 r_7.Terms.length c8, .slice B9 r_7.Out.length c9]) rfl rfl (uF_ 61) (fun hg6 => (Y_loadA (B := aD b3) (i := 0) (cs := [vi r_7.Ins, vi r_7.Vars, vi r_7.Root, vi r_7.Phase, .slice B8 r_7.Terms.length c8, .slice B9 r_7.Out.length c9]) (vs := [vi r_7.Ins, vi r_7.Vars, vi r_7.Root, vi r_7.Phase, .slice B8 r_7.Terms.length c8, .slice B9 r_7.Out.length c9]) k_ag_30 k_sz_30_6 rfl rfl (hS19.cf (i := 7) rfl) rfl rfl)) ?_
      refine sgq 63 (B := (!(decide (r_13 < 0)))) (v := .agg #[vi r_3.Ins, vi r_3.Vars, vi r_3.Root, vi r_3.Phase, .slice B4 r_3.Terms.length c4, .slice B5 r_3.Out.length c5]) rfl rfl (uF_ 61) (fun hg7 => (Y_loadA (B := aD b1) (i := 0) (cs := [vi r_3.Ins, vi r_3.Vars, vi r_3.Root, vi r_3.Phase, .slice B4 r_3.Terms.length c4, .slice B5 r_3.Out.length c5]) (vs := [vi r_3.Ins, vi r_3.Vars, vi r_3.Root, vi r_3.Phase, .slice B4 r_3.Terms.length c4, .slice B5 r_3.Out.length c5]) k_ag_30 k_sz_30_6 rfl rfl (hS19.cf (i := 3) rfl) rfl rfl)) ?_
      obtain ⟨r_14, hc9, hF6⟩ := bind_inv hF6
      refine sgc 64 (B := (!(decide (r_13 < 0)))) (v := .bool r_14) (F := hS19.fn) rfl rfl (uF_ 61) hS19 (fun hg8 => (Yc_func (g := 9) (vs := [.agg #[vi r_7.Ins, vi r_7.Vars, vi r_7.Root, vi r_7.Phase, .slice B8 r_7.Terms.length c8, .slice B9 r_7.Out.length c9], .agg #[vi r_3.Ins, vi r_3.Vars, vi r_3.Root, vi r_3.Phase, .slice B4 r_3.Terms.length c4, .slice B5 r_3.Out.length c5]]) k_call_9 rfl (mc (gv_of (v := .agg #[vi r_7.Ins, vi r_7.Vars, vi r_7.Root, vi r_7.Phase, .slice B8 r_7.Terms.length c8, .slice B9 r_7.Out.length c9]) hg8) (mc (gv_of (v := .agg #[vi r_3.Ins, vi r_3.Vars, vi r_3.Root, vi r_3.Phase, .slice B4 r_3.Terms.length c4, .slice B5 r_3.Out.length c5]) hg8) mn)) (CV.mono (c_laws_eqPathSum r_7 r_3 B8 c8 r_7.Terms.length B9 c9 r_7.Out.length B4 c4 r_3.Terms.length B5 c5 r_3.Out.length _ rfl rfl rfl rfl (hS19.inn0 [(false, 5), (false, 6), (false, 1), (false, 2)] rfl) (gb_inv hc9 hg8)) (by rintro _ _ ⟨rfl, h⟩; exact ⟨rfl, hS19.out00 h⟩)))) ?_
      rintro w_16 hS20
      refine sgq 65 (B := (!(decide (r_13 < 0)))) (v := .bool (!r_14)) rfl rfl (uF_ 61) (fun hg9 => (Y_not (p := r_14) rfl (gv_of (v := .bool r_14) hg9))) ?_
      refine sQ 66 (Y_or (b := (decide (r_13 < 0))) (z := (!r_14)) rfl rfl rfl rfl) ?_
      refine sQ 67 (Y_move (v := .bool ((decide (r_13 < 0)) || (!r_14))) rfl rfl) ?_
      refine sgq 68 (B := (!((decide (r_13 < 0)) || (!r_14)))) (v := vi r_8) rfl rfl (uF_ 67) (fun hg10 => (Y_move (v := vi r_8) rfl rfl)) ?_
      refine sgq 69 (B := (!((decide (r_13 < 0)) || (!r_14)))) (v := vi r_4) rfl rfl (uF_ 67) (fun hg11 => (Y_move (v := vi r_4) rfl rfl)) ?_
      refine sgq 70 (B := (!((decide (r_13 < 0)) || (!r_14)))) (v := .bool (r_8 != r_4)) rfl rfl (uF_ 67) (fun hg12 => (Y_ne (k := .i64) (a := r_8) (b := r_4) rfl (gv_of (v := vi r_8) hg12) (gv_of (v := vi r_4) hg12))) ?_
      refine sQ 71 (Y_or (b := ((decide (r_13 < 0)) || (!r_14))) (z := (r_8 != r_4)) rfl rfl rfl rfl) ?_
      refine sQ 72 (Y_move (v := .bool (((decide (r_13 < 0)) || (!r_14)) || (r_8 != r_4))) rfl rfl) ?_
      refine sgq 73 (B := (!(((decide (r_13 < 0)) || (!r_14)) || (r_8 != r_4)))) (v := .bool r_9) rfl rfl (uF_ 72) (fun hg13 => (Y_move (v := .bool r_9) rfl rfl)) ?_
      refine sgq 74 (B := (!(((decide (r_13 < 0)) || (!r_14)) || (r_8 != r_4)))) (v := .bool r_5) rfl rfl (uF_ 72) (fun hg14 => (Y_move (v := .bool r_5) rfl rfl)) ?_
      refine sgq 75 (B := (!(((decide (r_13 < 0)) || (!r_14)) || (r_8 != r_4)))) (v := .bool (!(r_9 == r_5))) rfl rfl (uF_ 72) (fun hg15 => (Y_bne (p := r_9) (q := r_5) k_und_4 rfl (gv_of (v := .bool r_9) hg15) (gv_of (v := .bool r_5) hg15))) ?_
      refine sQ 76 (Y_or (b := (((decide (r_13 < 0)) || (!r_14)) || (r_8 != r_4))) (z := (!(r_9 == r_5))) rfl rfl rfl rfl) (rw_nil ?_)
      refine cw_cond (b := ((((decide (r_13 < 0)) || (!r_14)) || (r_8 != r_4)) || (!(r_9 == r_5)))) rfl (fun hb3 => ?_) (fun hb3 => ?_)
      ·skip
       have hF7 := ct hF6 hb3
       refine cw_seq (cw_region ?_)
       refine sQ 2 (Y_assign (v := .bool false) rfl rfl) (rw_nil (cw_ret ?_))
       obtain rfl := some_inj hF7
       exact ret1 Tryd.results4 (v1 := .bool false) (resAt_tmp rfl) ⟨rfl, (hS20.sN [])⟩
      ·skip
       have hF8 := cf' hF6 hb3
       refine cw_skip (cw_seq (cw_region ?_))
       refine sQ 12 (Y_assign (v := vi 1) rfl rfl) (rw_nil (cw_seq (cw_region ?_)))
       refine sQ 77 (Y_loadA (B := aD b3) (i := 0) (cs := [vi r_7.Ins, vi r_7.Vars, vi r_7.Root, vi r_7.Phase, .slice B8 r_7.Terms.length c8, .slice B9 r_7.Out.length c9]) (vs := [vi r_7.Ins, vi r_7.Vars, vi r_7.Root, vi r_7.Phase, .slice B8 r_7.Terms.length c8, .slice B9 r_7.Out.length c9]) k_ag_30 k_sz_30_6 rfl rfl (hS20.cf (i := 7) rfl) rfl rfl) ?_
       refine sQ 78 (Y_move (v := vi 1) rfl rfl) ?_
       obtain ⟨⟨r_15, m2, m3⟩, hc10, hF8⟩ := bind_inv hF8
       refine sc 79 rfl rfl (Yc_func (g := 10) (vs := [.agg #[vi r_7.Ins, vi r_7.Vars, vi r_7.Root, vi r_7.Phase, .slice B8 r_7.Terms.length c8, .slice B9 r_7.Out.length c9], vi 1]) k_call_10 rfl (mc rfl (mc rfl mn)) (c_laws_markPathSum r_7 1 B8 c8 r_7.Terms.length B9 c9 r_7.Out.length _ rfl rfl (hS20.inn [false, false, false, false, false, true, true, false, false, false, false, false] rfl [] rfl) hc10)) ?_
       rintro _ w_17 ⟨rfl, hl2, hl3, hd9⟩
       have hS21 := hS20.out [false, false, false, false, false, true, true, false, false, false, false, false] rfl hd9
       have hS21 : ST w0 [] _ [⟨aD b, 25, [vi aP.Ins, vi aP.Vars, vi aP.Root, vi aP.Phase, .slice B aP.Terms.length c, .slice B1 aP.Out.length c1], 6⟩, ⟨B4, 56, (r_3.Terms.flatMap eN0), c4 * 2⟩, ⟨B5, 44, (r_3.Out.flatMap eN1), c5 * 2⟩, ⟨aD b1, 30, [vi r_3.Ins, vi r_3.Vars, vi r_3.Root, vi r_3.Phase, .slice B4 r_3.Terms.length c4, .slice B5 r_3.Out.length c5], 6⟩, ⟨aD b2, 30, [vi r_6.Ins, vi r_6.Vars, vi r_6.Root, vi r_6.Phase, .slice B6 r_6.Terms.length c6, .slice B7 r_6.Out.length c7], 6⟩, ⟨aD b3, 30, [vi r_7.Ins, vi r_7.Vars, vi r_7.Root, vi r_7.Phase, .slice B8 r_7.Terms.length c8, .slice B9 r_7.Out.length c9], 6⟩, ⟨B10, 56, (r_11.Terms.flatMap eN0), c10 * 2⟩, ⟨B11, 44, (r_11.Out.flatMap eN1), c11 * 2⟩, ⟨B6, 56, (m.flatMap eN0), c6 * 2⟩, ⟨B7, 44, (m1.flatMap eN1), c7 * 2⟩, ⟨B8, 56, (m2.flatMap eN0), c8 * 2⟩, ⟨B9, 44, (m3.flatMap eN1), c9 * 2⟩] [⟨B, (aP.Terms.flatMap eN0)⟩, ⟨B1, (aP.Out.flatMap eN1)⟩, ⟨(aD 0), (gl0.flatMap enc_u8)⟩, ⟨(aD 1), (gl1.flatMap enc_u8)⟩] := hS21
       refine sQ 12 (Y_assign (v := vi r_15) rfl rfl) (rw_nil (cw_seq (cw_region ?_)))
       refine sQ 13 (Y_assign (v := vi 1) rfl rfl) (rw_nil (cw_seq (cw_region ?_)))
       refine sQ 80 (Y_loadA (B := aD b3) (i := 0) (cs := [vi r_7.Ins, vi r_7.Vars, vi r_7.Root, vi r_7.Phase, .slice B8 r_7.Terms.length c8, .slice B9 r_7.Out.length c9]) (vs := [vi r_7.Ins, vi r_7.Vars, vi r_7.Root, vi r_7.Phase, .slice B8 r_7.Terms.length c8, .slice B9 r_7.Out.length c9]) k_ag_30 k_sz_30_6 rfl rfl (hS21.cf (i := 5) rfl) rfl rfl) ?_
       refine sQ 81 (Y_move (v := vi 1) rfl rfl) ?_
       obtain ⟨r_16, hc11, hF8⟩ := bind_inv hF8
       refine sc 82 rfl rfl (Yc_func (g := 11) (vs := [.agg #[vi r_7.Ins, vi r_7.Vars, vi r_7.Root, vi r_7.Phase, .slice B8 r_7.Terms.length c8, .slice B9 r_7.Out.length c9], vi 1]) k_call_11 rfl (mc rfl (mc rfl mn)) (c_laws_heldPathSum (TPathSum.mk r_7.Ins r_7.Vars r_7.Root r_7.Phase m2 m3) 1 B8 c8 r_7.Terms.length B9 c9 r_7.Out.length _ hl2 hl3 (hS21.inn0 [(false, 10), (false, 11)] rfl) hc11)) ?_
       rintro _ w_18 ⟨rfl, hd10⟩
       have hS22 := hS21.out00 hd10
       refine sQ 13 (Y_assign (v := vi r_16) rfl rfl) (rw_nil (cw_seq (cw_seq (cw_region ?_))))
       refine sQ 83 (Y_move (v := vi r_16) rfl rfl) ?_
       refine sQ 84 (Y_lt (k := .i64) (a := r_16) (b := 0) rfl rfl rfl) (rw_nil ?_)
       refine cw_cond (b := (decide (r_16 < 0))) rfl (fun hb4 => ?_) (fun hb4 => ?_)
       ·skip
        have hF9 := ct hF8 hb4
        refine cw_seq (cw_region ?_)
        refine sQ 2 (Y_assign (v := .bool false) rfl rfl) (rw_nil (cw_ret ?_))
        obtain rfl := some_inj hF9
        exact ret1 Tryd.results4 (v1 := .bool false) (resAt_tmp rfl) ⟨rfl, (hS22.sN [])⟩
       ·skip
        have hF10 := cf' hF8 hb4
        refine cw_skip (cw_seq (cw_seq (cw_region ?_)))
        refine sQ 85 (Y_move (v := vi r_16) rfl rfl) ?_
        refine sQ 86 (Y_move (v := vi r_15) rfl rfl) ?_
        refine sQ 87 (Y_ne (k := .i64) (a := r_16) (b := r_15) rfl rfl rfl) (rw_nil ?_)
        refine cw_cond (b := (r_16 != r_15)) rfl (fun hb5 => ?_) (fun hb5 => ?_)
        ·skip
         have hF11 := ct hF10 hb5
         refine cw_seq (cw_region ?_)
         refine sQ 2 (Y_assign (v := .bool false) rfl rfl) (rw_nil (cw_ret ?_))
         obtain rfl := some_inj hF11
         exact ret1 Tryd.results4 (v1 := .bool false) (resAt_tmp rfl) ⟨rfl, (hS22.sN [])⟩
        ·skip
         have hF12 := cf' hF10 hb5
         refine cw_skip (cw_seq (cw_region ?_))
         refine sQ 89 (Y_loadA (B := aD b) (i := 0) (cs := [vi aP.Ins, vi aP.Vars, vi aP.Root, vi aP.Phase, .slice B aP.Terms.length c, .slice B1 aP.Out.length c1]) (vs := [vi aP.Ins, vi aP.Vars, vi aP.Root, vi aP.Phase, .slice B aP.Terms.length c, .slice B1 aP.Out.length c1]) k_ag_25 k_sz_25_6 rfl rfl (hS22.cf (i := 0) rfl) rfl rfl) ?_
         obtain ⟨r_17, hc12, hF12⟩ := bind_inv hF12
         refine sc 90 rfl rfl (Yc_func (g := 7) (vs := [.agg #[vi aP.Ins, vi aP.Vars, vi aP.Root, vi aP.Phase, .slice B aP.Terms.length c, .slice B1 aP.Out.length c1]]) k_call_7 rfl (mc rfl mn) (c_laws_toPathSum aP B c aP.Terms.length B1 c1 aP.Out.length _ rfl rfl (hS22.inn0 [(true, 0), (true, 1)] rfl) hc12)) ?_
         rintro _ w_19 ⟨B12, c12, B13, c13, rfl, hd11⟩
         have hS23 := hS22.out0 hd11
         have hS23 : ST w0 [] _ [⟨aD b, 25, [vi aP.Ins, vi aP.Vars, vi aP.Root, vi aP.Phase, .slice B aP.Terms.length c, .slice B1 aP.Out.length c1], 6⟩, ⟨B4, 56, (r_3.Terms.flatMap eN0), c4 * 2⟩, ⟨B5, 44, (r_3.Out.flatMap eN1), c5 * 2⟩, ⟨aD b1, 30, [vi r_3.Ins, vi r_3.Vars, vi r_3.Root, vi r_3.Phase, .slice B4 r_3.Terms.length c4, .slice B5 r_3.Out.length c5], 6⟩, ⟨aD b2, 30, [vi r_6.Ins, vi r_6.Vars, vi r_6.Root, vi r_6.Phase, .slice B6 r_6.Terms.length c6, .slice B7 r_6.Out.length c7], 6⟩, ⟨aD b3, 30, [vi r_7.Ins, vi r_7.Vars, vi r_7.Root, vi r_7.Phase, .slice B8 r_7.Terms.length c8, .slice B9 r_7.Out.length c9], 6⟩, ⟨B10, 56, (r_11.Terms.flatMap eN0), c10 * 2⟩, ⟨B11, 44, (r_11.Out.flatMap eN1), c11 * 2⟩, ⟨B6, 56, (m.flatMap eN0), c6 * 2⟩, ⟨B7, 44, (m1.flatMap eN1), c7 * 2⟩, ⟨B8, 56, (m2.flatMap eN0), c8 * 2⟩, ⟨B9, 44, (m3.flatMap eN1), c9 * 2⟩, ⟨B12, 56, (r_17.Terms.flatMap eN0), c12 * 2⟩, ⟨B13, 44, (r_17.Out.flatMap eN1), c13 * 2⟩] [⟨B, (aP.Terms.flatMap eN0)⟩, ⟨B1, (aP.Out.flatMap eN1)⟩, ⟨(aD 0), (gl0.flatMap enc_u8)⟩, ⟨(aD 1), (gl1.flatMap enc_u8)⟩] := hS23
         obtain ⟨⟨r_18, r_19, r_20⟩, hc13, hF12⟩ := bind_inv hF12
         refine sc 91 rfl rfl (Yc_func (g := 13) (vs := [.agg #[vi r_17.Ins, vi r_17.Vars, vi r_17.Root, vi r_17.Phase, .slice B12 r_17.Terms.length c12, .slice B13 r_17.Out.length c13]]) k_call_13 rfl (mc rfl mn) (c_impl_ReducePathSum r_17 B12 c12 r_17.Terms.length B13 c13 r_17.Out.length _ rfl rfl (hS23.inn0 [(false, 12), (false, 13), (true, 2), (true, 3)] rfl) hc13)) ?_
         rintro _ w_20 ⟨B14, c14, B15, c15, rfl, hd12⟩
         have hS24 := hS23.out0 hd12
         refine sQ 88 (Y_move (v := .tuple #[.agg #[vi r_18.Ins, vi r_18.Vars, vi r_18.Root, vi r_18.Phase, .slice B14 r_18.Terms.length c14, .slice B15 r_18.Out.length c15], vi r_19, .bool r_20]) rfl rfl) ?_
         refine sQ 92 (Y_extract (v := .agg #[vi r_18.Ins, vi r_18.Vars, vi r_18.Root, vi r_18.Phase, .slice B14 r_18.Terms.length c14, .slice B15 r_18.Out.length c15]) rfl rfl rfl) ?_
         refine sQ 93 (Y_extract (v := vi r_19) rfl rfl rfl) ?_
         refine sQ 94 (Y_extract (v := .bool r_20) rfl rfl rfl) ?_
         refine sS 14 (Ys_alloc (T := 30) (cs := [vi 0, vi 0, vi 0, vi 0, .slice none 0 0, .slice none 0 0]) (m := 6) hS24 k_zero_30 rfl rfl rfl) ?_
         rintro _ w_21 ⟨b4, rfl, hS25⟩
         have hS25 : ST w0 [] _ [⟨aD b, 25, [vi aP.Ins, vi aP.Vars, vi aP.Root, vi aP.Phase, .slice B aP.Terms.length c, .slice B1 aP.Out.length c1], 6⟩, ⟨B4, 56, (r_3.Terms.flatMap eN0), c4 * 2⟩, ⟨B5, 44, (r_3.Out.flatMap eN1), c5 * 2⟩, ⟨aD b1, 30, [vi r_3.Ins, vi r_3.Vars, vi r_3.Root, vi r_3.Phase, .slice B4 r_3.Terms.length c4, .slice B5 r_3.Out.length c5], 6⟩, ⟨aD b2, 30, [vi r_6.Ins, vi r_6.Vars, vi r_6.Root, vi r_6.Phase, .slice B6 r_6.Terms.length c6, .slice B7 r_6.Out.length c7], 6⟩, ⟨aD b3, 30, [vi r_7.Ins, vi r_7.Vars, vi r_7.Root, vi r_7.Phase, .slice B8 r_7.Terms.length c8, .slice B9 r_7.Out.length c9], 6⟩, ⟨B10, 56, (r_11.Terms.flatMap eN0), c10 * 2⟩, ⟨B11, 44, (r_11.Out.flatMap eN1), c11 * 2⟩, ⟨B6, 56, (m.flatMap eN0), c6 * 2⟩, ⟨B7, 44, (m1.flatMap eN1), c7 * 2⟩, ⟨B8, 56, (m2.flatMap eN0), c8 * 2⟩, ⟨B9, 44, (m3.flatMap eN1), c9 * 2⟩, ⟨B12, 56, (r_17.Terms.flatMap eN0), c12 * 2⟩, ⟨B13, 44, (r_17.Out.flatMap eN1), c13 * 2⟩, ⟨B14, 56, (r_18.Terms.flatMap eN0), c14 * 2⟩, ⟨B15, 44, (r_18.Out.flatMap eN1), c15 * 2⟩, ⟨aD b4, 30, [vi 0, vi 0, vi 0, vi 0, .slice none 0 0, .slice none 0 0], 6⟩] [⟨B, (aP.Terms.flatMap eN0)⟩, ⟨B1, (aP.Out.flatMap eN1)⟩, ⟨(aD 0), (gl0.flatMap enc_u8)⟩, ⟨(aD 1), (gl1.flatMap enc_u8)⟩] := hS25
         refine s0 (Ys_store (i := 16) (s := 6) (B := aD b4) (T' := 30) (v := .agg #[vi r_18.Ins, vi r_18.Vars, vi r_18.Root, vi r_18.Phase, .slice B14 r_18.Terms.length c14, .slice B15 r_18.Out.length c15]) (vs := [vi r_18.Ins, vi r_18.Vars, vi r_18.Root, vi r_18.Phase, .slice B14 r_18.Terms.length c14, .slice B15 r_18.Out.length c15]) (k := 0) (cs' := [vi r_18.Ins, vi r_18.Vars, vi r_18.Root, vi r_18.Phase, .slice B14 r_18.Terms.length c14, .slice B15 r_18.Out.length c15]) hS25 k_sz_30_6 rfl rfl rfl rfl rfl rfl rfl (lB rfl) rfl rfl) ?_
         rintro _ w_22 ⟨rfl, hS26⟩
         refine sQ 15 (Y_assign (v := vi r_19) rfl rfl) ?_
         refine sQ 16 (Y_assign (v := .bool r_20) rfl rfl) (rw_nil (cw_seq (cw_seq (cw_region ?_))))
         refine sQ 95 (Y_loadA (B := aD b4) (i := 0) (cs := [vi r_18.Ins, vi r_18.Vars, vi r_18.Root, vi r_18.Phase, .slice B14 r_18.Terms.length c14, .slice B15 r_18.Out.length c15]) (vs := [vi r_18.Ins, vi r_18.Vars, vi r_18.Root, vi r_18.Phase, .slice B14 r_18.Terms.length c14, .slice B15 r_18.Out.length c15]) k_ag_30 k_sz_30_6 rfl rfl (hS26.cf (i := 16) rfl) rfl rfl) ?_
         refine sQ 96 (Y_loadA (B := aD b1) (i := 0) (cs := [vi r_3.Ins, vi r_3.Vars, vi r_3.Root, vi r_3.Phase, .slice B4 r_3.Terms.length c4, .slice B5 r_3.Out.length c5]) (vs := [vi r_3.Ins, vi r_3.Vars, vi r_3.Root, vi r_3.Phase, .slice B4 r_3.Terms.length c4, .slice B5 r_3.Out.length c5]) k_ag_30 k_sz_30_6 rfl rfl (hS26.cf (i := 3) rfl) rfl rfl) ?_
         obtain ⟨r_21, hc14, hF12⟩ := bind_inv hF12
         refine sc 97 rfl rfl (Yc_func (g := 9) (vs := [.agg #[vi r_18.Ins, vi r_18.Vars, vi r_18.Root, vi r_18.Phase, .slice B14 r_18.Terms.length c14, .slice B15 r_18.Out.length c15], .agg #[vi r_3.Ins, vi r_3.Vars, vi r_3.Root, vi r_3.Phase, .slice B4 r_3.Terms.length c4, .slice B5 r_3.Out.length c5]]) k_call_9 rfl (mc rfl (mc rfl mn)) (c_laws_eqPathSum r_18 r_3 B14 c14 r_18.Terms.length B15 c15 r_18.Out.length B4 c4 r_3.Terms.length B5 c5 r_3.Out.length _ rfl rfl rfl rfl (hS26.inn0 [(false, 14), (false, 15), (false, 1), (false, 2)] rfl) hc14)) ?_
         rintro _ w_23 ⟨rfl, hd13⟩
         have hS27 := hS26.out00 hd13
         have hS27 : ST w0 [] _ [⟨aD b, 25, [vi aP.Ins, vi aP.Vars, vi aP.Root, vi aP.Phase, .slice B aP.Terms.length c, .slice B1 aP.Out.length c1], 6⟩, ⟨B4, 56, (r_3.Terms.flatMap eN0), c4 * 2⟩, ⟨B5, 44, (r_3.Out.flatMap eN1), c5 * 2⟩, ⟨aD b1, 30, [vi r_3.Ins, vi r_3.Vars, vi r_3.Root, vi r_3.Phase, .slice B4 r_3.Terms.length c4, .slice B5 r_3.Out.length c5], 6⟩, ⟨aD b2, 30, [vi r_6.Ins, vi r_6.Vars, vi r_6.Root, vi r_6.Phase, .slice B6 r_6.Terms.length c6, .slice B7 r_6.Out.length c7], 6⟩, ⟨aD b3, 30, [vi r_7.Ins, vi r_7.Vars, vi r_7.Root, vi r_7.Phase, .slice B8 r_7.Terms.length c8, .slice B9 r_7.Out.length c9], 6⟩, ⟨B10, 56, (r_11.Terms.flatMap eN0), c10 * 2⟩, ⟨B11, 44, (r_11.Out.flatMap eN1), c11 * 2⟩, ⟨B6, 56, (m.flatMap eN0), c6 * 2⟩, ⟨B7, 44, (m1.flatMap eN1), c7 * 2⟩, ⟨B8, 56, (m2.flatMap eN0), c8 * 2⟩, ⟨B9, 44, (m3.flatMap eN1), c9 * 2⟩, ⟨B12, 56, (r_17.Terms.flatMap eN0), c12 * 2⟩, ⟨B13, 44, (r_17.Out.flatMap eN1), c13 * 2⟩, ⟨B14, 56, (r_18.Terms.flatMap eN0), c14 * 2⟩, ⟨B15, 44, (r_18.Out.flatMap eN1), c15 * 2⟩, ⟨aD b4, 30, [vi r_18.Ins, vi r_18.Vars, vi r_18.Root, vi r_18.Phase, .slice B14 r_18.Terms.length c14, .slice B15 r_18.Out.length c15], 6⟩] [⟨B, (aP.Terms.flatMap eN0)⟩, ⟨B1, (aP.Out.flatMap eN1)⟩, ⟨(aD 0), (gl0.flatMap enc_u8)⟩, ⟨(aD 1), (gl1.flatMap enc_u8)⟩] := hS27
         refine sQ 98 (Y_not (p := r_21) rfl rfl) ?_
         refine sQ 99 (Y_move (v := .bool (!r_21)) rfl rfl) ?_
         refine sgq 100 (B := (!(!r_21))) (v := vi r_19) rfl rfl (uF_ 99) (fun hg16 => (Y_move (v := vi r_19) rfl rfl)) ?_
         refine sgq 101 (B := (!(!r_21))) (v := vi r_4) rfl rfl (uF_ 99) (fun hg17 => (Y_move (v := vi r_4) rfl rfl)) ?_
         refine sgq 102 (B := (!(!r_21))) (v := .bool (r_19 != r_4)) rfl rfl (uF_ 99) (fun hg18 => (Y_ne (k := .i64) (a := r_19) (b := r_4) rfl (gv_of (v := vi r_19) hg18) (gv_of (v := vi r_4) hg18))) ?_
         refine sQ 103 (Y_or (b := (!r_21)) (z := (r_19 != r_4)) rfl rfl rfl rfl) ?_
         refine sQ 104 (Y_move (v := .bool ((!r_21) || (r_19 != r_4))) rfl rfl) ?_
         refine sgq 105 (B := (!((!r_21) || (r_19 != r_4)))) (v := .bool r_20) rfl rfl (uF_ 104) (fun hg19 => (Y_move (v := .bool r_20) rfl rfl)) ?_
         refine sgq 106 (B := (!((!r_21) || (r_19 != r_4)))) (v := .bool r_5) rfl rfl (uF_ 104) (fun hg20 => (Y_move (v := .bool r_5) rfl rfl)) ?_
         refine sgq 107 (B := (!((!r_21) || (r_19 != r_4)))) (v := .bool (!(r_20 == r_5))) rfl rfl (uF_ 104) (fun hg21 => (Y_bne (p := r_20) (q := r_5) k_und_4 rfl (gv_of (v := .bool r_20) hg21) (gv_of (v := .bool r_5) hg21))) ?_
         refine sQ 108 (Y_or (b := ((!r_21) || (r_19 != r_4))) (z := (!(r_20 == r_5))) rfl rfl rfl rfl) (rw_nil ?_)
         refine cw_cond (b := (((!r_21) || (r_19 != r_4)) || (!(r_20 == r_5)))) rfl (fun hb6 => ?_) (fun hb6 => ?_)
         ·skip
          have hF13 := ct hF12 hb6
          refine cw_seq (cw_region ?_)
          refine sQ 2 (Y_assign (v := .bool false) rfl rfl) (rw_nil (cw_ret ?_))
          obtain rfl := some_inj hF13
          exact ret1 Tryd.results4 (v1 := .bool false) (resAt_tmp rfl) ⟨rfl, (hS27.sN [])⟩
         ·skip
          have hF14 := cf' hF12 hb6
          refine cw_skip (cw_seq (cw_region ?_))
          refine sQ 13 (Y_assign (v := vi 1) rfl rfl) (rw_nil (cw_seq (cw_region ?_)))
          refine sQ 109 (Y_loadA (B := aD b3) (i := 0) (cs := [vi r_7.Ins, vi r_7.Vars, vi r_7.Root, vi r_7.Phase, .slice B8 r_7.Terms.length c8, .slice B9 r_7.Out.length c9]) (vs := [vi r_7.Ins, vi r_7.Vars, vi r_7.Root, vi r_7.Phase, .slice B8 r_7.Terms.length c8, .slice B9 r_7.Out.length c9]) k_ag_30 k_sz_30_6 rfl rfl (hS27.cf (i := 5) rfl) rfl rfl) ?_
          refine sQ 110 (Y_move (v := vi 1) rfl rfl) ?_
          obtain ⟨r_22, hc15, hF14⟩ := bind_inv hF14
          refine sc 111 rfl rfl (Yc_func (g := 11) (vs := [.agg #[vi r_7.Ins, vi r_7.Vars, vi r_7.Root, vi r_7.Phase, .slice B8 r_7.Terms.length c8, .slice B9 r_7.Out.length c9], vi 1]) k_call_11 rfl (mc rfl (mc rfl mn)) (c_laws_heldPathSum (TPathSum.mk r_7.Ins r_7.Vars r_7.Root r_7.Phase m2 m3) 1 B8 c8 r_7.Terms.length B9 c9 r_7.Out.length _ hl2 hl3 (hS27.inn0 [(false, 10), (false, 11)] rfl) hc15)) ?_
          rintro _ w_24 ⟨rfl, hd14⟩
          have hS28 := hS27.out00 hd14
          refine sQ 13 (Y_assign (v := vi r_22) rfl rfl) (rw_nil (cw_seq (cw_seq (cw_region ?_))))
          refine sQ 112 (Y_move (v := vi r_22) rfl rfl) ?_
          refine sQ 113 (Y_lt (k := .i64) (a := r_22) (b := 0) rfl rfl rfl) (rw_nil ?_)
          refine cw_cond (b := (decide (r_22 < 0))) rfl (fun hb7 => ?_) (fun hb7 => ?_)
          ·skip
           have hF15 := ct hF14 hb7
           refine cw_seq (cw_region ?_)
           refine sQ 2 (Y_assign (v := .bool false) rfl rfl) (rw_nil (cw_ret ?_))
           obtain rfl := some_inj hF15
           exact ret1 Tryd.results4 (v1 := .bool false) (resAt_tmp rfl) ⟨rfl, (hS28.sN [])⟩
          ·skip
           have hF16 := cf' hF14 hb7
           refine cw_skip (cw_seq (cw_seq (cw_region ?_)))
           refine sQ 114 (Y_move (v := vi r_22) rfl rfl) ?_
           refine sQ 115 (Y_move (v := vi r_15) rfl rfl) ?_
           refine sQ 116 (Y_ne (k := .i64) (a := r_22) (b := r_15) rfl rfl rfl) (rw_nil ?_)
           refine cw_cond (b := (r_22 != r_15)) rfl (fun hb8 => ?_) (fun hb8 => ?_)
           ·skip
            have hF17 := ct hF16 hb8
            refine cw_seq (cw_region ?_)
            refine sQ 2 (Y_assign (v := .bool false) rfl rfl) (rw_nil (cw_ret ?_))
            obtain rfl := some_inj hF17
            exact ret1 Tryd.results4 (v1 := .bool false) (resAt_tmp rfl) ⟨rfl, (hS28.sN [])⟩
           ·skip
            have hF18 := cf' hF16 hb8
            refine cw_skip (cw_seq (cw_region ?_))
            refine sQ 2 (Y_assign (v := .bool true) rfl rfl) (rw_nil (cw_ret ?_))
            obtain rfl := some_inj hF18
            exact ret1 Tryd.results4 (v1 := .bool true) (resAt_tmp rfl) ⟨rfl, (hS28.sN [])⟩
    exact allR_nil
   exact allR_nil
end Go.VK
