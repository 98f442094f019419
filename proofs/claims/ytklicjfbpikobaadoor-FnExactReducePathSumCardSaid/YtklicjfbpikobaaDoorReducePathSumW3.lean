/- Walks: each Go function returns what its Lean function says. By program. -/
import Derived.Test.YtklicjfbpikobaaDoorReducePathSumFa
import Derived.Test.YtklicjfbpikobaaDoorReducePathSumShelf
import Derived.Test.YtklicjfbpikobaaDoorLibT
import Derived.WalkKit
import Derived.Test.YtklicjfbpikobaaDoorReducePathSumW2
set_option linter.unusedVariables false
set_option maxRecDepth 100000
set_option maxHeartbeats 4000000
namespace Go.VK
open Go.RowKit
open Go.Proofs
open Go.IntKind
attribute [local irreducible] CW RW RA CV Y Yw Yc Ys RetOf
attribute [local irreducible] F_laws_szTermS F_laws_szAffineS F_laws_szPathSum F_laws_toTerm F_laws_toTermS F_laws_toAffine F_laws_toAffineS F_laws_toPathSum F_laws_eqTerm F_laws_eqTermS F_laws_eqAffine F_laws_eqAffineS F_laws_eqPathSum F_laws_markTermS F_laws_markAffineS F_laws_markPathSum F_laws_heldTermS F_laws_heldAffineS F_laws_heldPathSum F_spec_l1In F_spec_l1Set F_spec_l21Valid F_spec_l21Rule F_spec_l21Drop F_spec_l21Sum_add F_spec_l21Sum_times F_spec_l21Replace F_spec_l21Without F_spec_l21Step F_spec_l21Reduce F_spec_l21Own F_spec_ReducePathSum F_slices_IndexFunc_impl_Affine_impl_Affine F_slices_ContainsFunc_impl_Affine_impl_Affine F_impl_within F_math_bits_OnesCount64 F_math_bits_OnesCount F_impl_bitsIn F_impl_isAffine F_impl_IsValidPathSum_1 F_impl_IsValidPathSum F_impl_ReduceStep_1 F_impl_PathSum_around F_math_bits_TrailingZeros64 F_math_bits_TrailingZeros F_impl_dropped F_impl_PathSum_without F_impl_polyOf F_impl_polynomial_add F_impl_bitsOf F_impl_polynomial_expand F_impl_polynomial_terms F_impl_PathSum_stripped F_impl_PathSum_substituted F_impl_PathSum_ruled F_impl_ReduceStep F_slices_Clone_impl_Term_impl_Term F_slices_Clone_impl_Affine_impl_Affine F_impl_ReducePathSum F_laws_FnExactReducePathSum
theorem c_impl_dropped (mask : Int) (v_ : Int)  (w0 : World)  (hS : ST w0 [] w0 [] []) {r_ : Int} (hF : F_impl_dropped mask v_ = some r_) :
  CV Tryd.prog 53 #[vi mask, vi v_] w0 (fun v w' => v = vi r_ ∧ ST w0 [] w' [] []) := by
 unfold F_impl_dropped at hF
 refine cv_of_cw 17 Tryd.func53 rfl Tryd.ntmps53 rfl ?_
 refine cw_seq (cw_region ?_)
 refine sQ 4 (Y_assign (v := vi 0) rfl rfl) (rw_nil (cw_seq ?_))
 obtain ⟨hsh, hF⟩ := chk_inv hF
 obtain ⟨hsh1, hF⟩ := chk_inv hF
 obtain ⟨hsh2, hF⟩ := chk_inv hF
 refine ra_start (hS.se []).fn (by kernel_rfl) ?_
 have hS1 := hS.drew
 refine rq 0 5 (v := vi mask) rfl (hS1.se []) (fun w' hw' => (Y_move (v := vi mask) rfl rfl)) ?_
 refine rq 1 6 (v := vi v_) rfl (hS1.se []) (fun w' hw' => (Y_move (v := vi v_) rfl rfl)) ?_
 refine rq 2 7 (v := vi (shlK .i64 1 v_)) rfl (hS1.se []) (fun w' hw' => (Y_shl (k := .i64) (a := 1) (k' := .i64) (b := v_) rfl rfl rfl hsh)) ?_
 refine rq 3 8 (v := vi (i64.wrap ((shlK .i64 1 v_) - 1))) rfl (hS1.se []) (fun w' hw' => (Y_sub (k := .i64) (a := (shlK .i64 1 v_)) (b := 1) rfl rfl rfl)) ?_
 refine rq 4 9 (v := vi (bits .and .i64 mask (i64.wrap ((shlK .i64 1 v_) - 1)))) rfl (hS1.se []) (fun w' hw' => (Y_band (k := .i64) (a := mask) (b := (i64.wrap ((shlK .i64 1 v_) - 1))) rfl rfl rfl)) ?_
 refine rq 5 10 (v := vi mask) rfl (hS1.se []) (fun w' hw' => (Y_move (v := vi mask) rfl rfl)) ?_
 refine rq 6 11 (v := vi v_) rfl (hS1.se []) (fun w' hw' => (Y_move (v := vi v_) rfl rfl)) ?_
 refine rq 7 12 (v := vi (i64.wrap (v_ + 1))) rfl (hS1.se []) (fun w' hw' => (Y_add (k := .i64) (a := v_) (b := 1) rfl rfl rfl)) ?_
 refine rq 8 13 (v := vi (shrK .i64 mask (i64.wrap (v_ + 1)))) rfl (hS1.se []) (fun w' hw' => (Y_shr (k := .i64) (a := mask) (k' := .i64) (b := (i64.wrap (v_ + 1))) rfl rfl rfl hsh1)) ?_
 refine rq 9 14 (v := vi v_) rfl (hS1.se []) (fun w' hw' => (Y_move (v := vi v_) rfl rfl)) ?_
 refine rq 10 15 (v := vi (shlK .i64 (shrK .i64 mask (i64.wrap (v_ + 1))) v_)) rfl (hS1.se []) (fun w' hw' => (Y_shl (k := .i64) (a := (shrK .i64 mask (i64.wrap (v_ + 1)))) (k' := .i64) (b := v_) rfl rfl rfl hsh2)) ?_
 refine rq 11 16 (v := vi (bits .or .i64 (bits .and .i64 mask (i64.wrap ((shlK .i64 1 v_) - 1))) (shlK .i64 (shrK .i64 mask (i64.wrap (v_ + 1))) v_))) rfl (hS1.se []) (fun w' hw' => (Y_bor (k := .i64) (a := (bits .and .i64 mask (i64.wrap ((shlK .i64 1 v_) - 1)))) (b := (shlK .i64 (shrK .i64 mask (i64.wrap (v_ + 1))) v_)) rfl rfl rfl)) ?_
 refine rq 12 4 (v := vi (bits .or .i64 (bits .and .i64 mask (i64.wrap ((shlK .i64 1 v_) - 1))) (shlK .i64 (shrK .i64 mask (i64.wrap (v_ + 1))) v_))) rfl (hS1.se []) (fun w' hw' => (Y_assign (v := vi (bits .or .i64 (bits .and .i64 mask (i64.wrap ((shlK .i64 1 v_) - 1))) (shlK .i64 (shrK .i64 mask (i64.wrap (v_ + 1))) v_))) rfl rfl)) ?_
 refine ra_done (by kernel_rfl) ?_
 refine cw_ret ?_
 obtain rfl := some_inj hF
 exact ret1 Tryd.results53 (v1 := vi (bits .or .i64 (bits .and .i64 mask (i64.wrap ((shlK .i64 1 v_) - 1))) (shlK .i64 (shrK .i64 mask (i64.wrap (v_ + 1))) v_))) (resAt_tmp rfl) ⟨rfl, (hS1.sN [])⟩

theorem c_impl_PathSum_without (p : TPathSum) (v_ : Int) (B : Option Addr) (c n : Nat) (B1 : Option Addr) (c1 n1 : Nat) (w0 : World) (hn : p.Terms.length = n) (hn1 : p.Out.length = n1) (hS : ST w0 [] w0 [] [⟨B, (p.Terms.flatMap eN0)⟩, ⟨B1, (p.Out.flatMap eN1)⟩]) {r_ : TPathSum} (hF : F_impl_PathSum_without p v_ = some r_) :
  CV Tryd.prog 51 #[.agg #[vi p.Ins, vi p.Vars, vi p.Root, vi p.Phase, .slice B n c, .slice B1 n1 c1], vi v_] w0 (fun v w' => ∃ (B2 : Option Addr) (c2 : Nat) (B3 : Option Addr) (c3 : Nat), v = .agg #[vi r_.Ins, vi r_.Vars, vi r_.Root, vi r_.Phase, .slice B2 r_.Terms.length c2, .slice B3 r_.Out.length c3] ∧ ST w0 [] w' [⟨B2, 56, (r_.Terms.flatMap eN0), c2 * 2⟩, ⟨B3, 44, (r_.Out.flatMap eN1), c3 * 2⟩] []) := by
 subst hn
 subst hn1
 unfold F_impl_PathSum_without at hF
 refine cv_of_cw 58 Tryd.func51 rfl Tryd.ntmps51 rfl ?_
 refine cw_seq (cw_region ?_)
 refine sS 2 (Ys_box (T := 30) (v := .agg #[vi p.Ins, vi p.Vars, vi p.Root, vi p.Phase, .slice B p.Terms.length c, .slice B1 p.Out.length c1]) (cs := [vi p.Ins, vi p.Vars, vi p.Root, vi p.Phase, .slice B p.Terms.length c, .slice B1 p.Out.length c1]) (m := 6) hS rfl rfl rfl rfl) ?_
 rintro _ w_ ⟨b, rfl, hS1⟩
 refine sS 4 (Ys_alloc (T := 30) (cs := [vi 0, vi 0, vi 0, vi 0, .slice none 0 0, .slice none 0 0]) (m := 6) hS1 k_zero_30 rfl rfl rfl) ?_
 rintro _ w_1 ⟨b1, rfl, hS2⟩
 refine rw_nil (cw_seq (cw_region ?_))
 refine sQ 10 (Y_loadA (B := aD b) (i := 0) (cs := [vi p.Ins, vi p.Vars, vi p.Root, vi p.Phase, .slice B p.Terms.length c, .slice B1 p.Out.length c1]) (vs := [vi p.Ins, vi p.Vars, vi p.Root, vi p.Phase, .slice B p.Terms.length c, .slice B1 p.Out.length c1]) k_ag_30 k_sz_30_6 rfl rfl (hS2.cf (i := 0) rfl) rfl rfl) ?_
 refine sS 5 (Ys_alloc (T := 30) (cs := [vi 0, vi 0, vi 0, vi 0, .slice none 0 0, .slice none 0 0]) (m := 6) hS2 k_zero_30 rfl rfl rfl) ?_
 rintro _ w_2 ⟨b2, rfl, hS3⟩
 refine s0 (Ys_store (i := 2) (s := 6) (B := aD b2) (T' := 30) (v := .agg #[vi p.Ins, vi p.Vars, vi p.Root, vi p.Phase, .slice B p.Terms.length c, .slice B1 p.Out.length c1]) (vs := [vi p.Ins, vi p.Vars, vi p.Root, vi p.Phase, .slice B p.Terms.length c, .slice B1 p.Out.length c1]) (k := 0) (cs' := [vi p.Ins, vi p.Vars, vi p.Root, vi p.Phase, .slice B p.Terms.length c, .slice B1 p.Out.length c1]) hS3 k_sz_30_6 rfl rfl rfl rfl rfl rfl rfl (lB rfl) rfl rfl) ?_
 rintro _ w_3 ⟨rfl, hS4⟩
 refine rw_nil (cw_seq (cw_region ?_))
 refine sQ 11 (Y_fieldAddr (B := aD b2) (i := 0) (s := 0) k_fd_30_1_1_3 k_sz_3_1 rfl rfl) ?_
 refine sQ 12 (Y_load1 (B := aD b2) (i := 1) (cs := [vi p.Ins, vi p.Vars, vi p.Root, vi p.Phase, .slice B p.Terms.length c, .slice B1 p.Out.length c1]) (v := vi p.Vars) k_sc_3 rfl rfl (hS4.cf (i := 2) rfl) rfl) ?_
 refine sQ 13 (Y_sub (k := .i64) (a := p.Vars) (b := 1) rfl rfl rfl) ?_
 refine sQ 14 (Y_fieldAddr (B := aD b2) (i := 0) (s := 0) k_fd_30_1_1_3 k_sz_3_1 rfl rfl) ?_
 refine s0 (Ys_store (i := 2) (s := 1) (B := aD b2) (T' := 30) (v := vi (i64.wrap (p.Vars - 1))) (vs := [vi (i64.wrap (p.Vars - 1))]) (k := 1) (cs' := [vi p.Ins, vi (i64.wrap (p.Vars - 1)), vi p.Root, vi p.Phase, .slice B p.Terms.length c, .slice B1 p.Out.length c1]) hS4 k_sz_3_1 rfl rfl rfl rfl rfl rfl rfl (lB rfl) rfl rfl) ?_
 rintro _ w_4 ⟨rfl, hS5⟩
 refine rw_nil (cw_seq (cw_region ?_))
 refine sQ 15 (Y_fieldAddr (B := aD b2) (i := 0) (s := 0) k_fd_30_4_4_27 k_sz_27_1 rfl rfl) ?_
 refine s0 (Ys_store (i := 2) (s := 1) (B := aD b2) (T' := 30) (v := .slice none 0 0) (vs := [.slice none 0 0]) (k := 4) (cs' := [vi p.Ins, vi (i64.wrap (p.Vars - 1)), vi p.Root, vi p.Phase, .slice none 0 0, .slice B1 p.Out.length c1]) hS5 k_sz_27_1 rfl rfl rfl rfl rfl rfl rfl (lB rfl) rfl rfl) ?_
 rintro _ w_5 ⟨rfl, hS6⟩
 refine sQ 16 (Y_fieldAddr (B := aD b2) (i := 0) (s := 0) k_fd_30_5_5_28 k_sz_28_1 rfl rfl) ?_
 refine s0 (Ys_store (i := 2) (s := 1) (B := aD b2) (T' := 30) (v := .slice none 0 0) (vs := [.slice none 0 0]) (k := 5) (cs' := [vi p.Ins, vi (i64.wrap (p.Vars - 1)), vi p.Root, vi p.Phase, .slice none 0 0, .slice none 0 0]) hS6 k_sz_28_1 rfl rfl rfl rfl rfl rfl rfl (lB rfl) rfl rfl) ?_
 rintro _ w_6 ⟨rfl, hS7⟩
 refine rw_nil (cw_seq (cw_seq (cw_region ?_)))
 refine sQ 17 (Y_fieldAddr (B := aD b) (i := 0) (s := 0) k_fd_30_4_4_27 k_sz_27_1 rfl rfl) ?_
 refine sQ 18 (Y_load1 (B := aD b) (i := 4) (cs := [vi p.Ins, vi p.Vars, vi p.Root, vi p.Phase, .slice B p.Terms.length c, .slice B1 p.Out.length c1]) (v := .slice B p.Terms.length c) k_sc_27 rfl rfl (hS7.cf (i := 0) rfl) rfl) ?_
 refine sQ 19 (Y_len (B := B) (m := p.Terms.length) (c := c) k_sl_27_56 rfl rfl) ?_
 refine sQ 20 (Y_move (v := vi 0) rfl rfl) (rw_nil ?_)
 obtain ⟨z, hz, hF1⟩ := bind_inv hF
 have hS9 := hS7.addNil 56
 refine cw_block ?_
 refine cw_loop (fun k f w => ∃ (Terms : List TTerm) (t : Int) (B4 : Option Addr) (c4 : Nat), FF f [(1, vi v_), (2, pt (aD b) 0), (4, pt (aD b1) 0), (5, pt (aD b2) 0), (18, .slice B p.Terms.length c), (19, vi (p.Terms.length : Int)), (20, vi t)] ∧ ST w0 [] w [⟨aD b, 30, [vi p.Ins, vi p.Vars, vi p.Root, vi p.Phase, .slice B p.Terms.length c, .slice B1 p.Out.length c1], 6⟩, ⟨aD b1, 30, [vi 0, vi 0, vi 0, vi 0, .slice none 0 0, .slice none 0 0], 6⟩, ⟨aD b2, 30, [vi p.Ins, vi (i64.wrap (p.Vars - 1)), vi p.Root, vi p.Phase, .slice B4 Terms.length c4, .slice none 0 0], 6⟩, ⟨B4, 56, (Terms.flatMap eN0), c4 * 2⟩] [⟨B, (p.Terms.flatMap eN0)⟩, ⟨B1, (p.Out.flatMap eN1)⟩] ∧ whX (F_impl_PathSum_without_l1 p v_) k (Terms, t) = some z) fuel ⟨[], 0, none, 0, (FF.cons rfl (FF.cons rfl (FF.cons rfl (FF.cons rfl (FF.cons rfl (FF.cons rfl (FF.cons rfl FF.nil))))))), (hS9.sel [0, 1, 2, 3] rfl rfl), hz⟩ ?_
 rintro k_ f w ⟨Terms, t, B4, c4, hf, hS8, hL⟩
 obtain ⟨k_1, y, rfl, hb, hL1⟩ := whX_go hL
 unfold F_impl_PathSum_without_l1 at hb
 refine cw_seq (cw_region ?_)
 refine sQ 21 (Y_lt (k := .i64) (a := t) (b := (p.Terms.length : Int)) rfl (hf.get 20 6 rfl) (hf.get 19 5 rfl)) (rw_nil (cw_seq ?_))
 refine cw_cond (b := (decide (t < (p.Terms.length : Int)))) rfl (fun hb1 => ?_) (fun hb1 => ?_)
 ·skip
  have hF2 := ct hb hb1
  refine cw_skip (cw_seq (cw_block (cw_seq (cw_region ?_))))
  obtain ⟨x, hx, hF2⟩ := bind_inv hF2
  refine sQ 22 (Y_index (B := B) (m := p.Terms.length) (c := c) (k := .i64) (i := t) k_sl_27_56 k_sz_56_2 rfl (hf.get 18 4 rfl) (hf.get 20 6 rfl) (gi_isSome eN2 rfl (hS8.rf (i := 0) rfl) hx) (getI_nn hx) (getI_ltI hx rfl)) ?_
  refine sQ 23 (Y_loadA (B := B) (i := t.toNat * 2) (cs := (p.Terms.flatMap eN0)) (vs := [vi x.Mask, vi x.Coef]) k_ag_56 k_sz_56_2 rfl rfl (hS8.rf (i := 0) rfl) (eN2 x) (gi_seg eN2 hx)) ?_
  refine sS 7 (Ys_alloc (T := 56) (cs := [vi 0, vi 0]) (m := 2) hS8 k_zero_56 rfl rfl rfl) ?_
  rintro _ w_7 ⟨b3, rfl, hS10⟩
  refine s0 (Ys_store (i := 4) (s := 2) (B := aD b3) (T' := 56) (v := .agg #[vi x.Mask, vi x.Coef]) (vs := [vi x.Mask, vi x.Coef]) (k := 0) (cs' := [vi x.Mask, vi x.Coef]) hS10 k_sz_56_2 rfl rfl rfl rfl rfl rfl rfl (lB rfl) rfl rfl) ?_
  rintro _ w_8 ⟨rfl, hS11⟩
  refine rw_nil ?_
  obtain ⟨r_1, hc, hF2⟩ := bind_inv hF2
  obtain ⟨hap, hF2⟩ := chk_inv hF2
  refine cw_mid (fun f w => ∃ (B6 : Option Addr) (c6 : Nat), FF f [(1, vi v_), (2, pt (aD b) 0), (4, pt (aD b1) 0), (5, pt (aD b2) 0), (18, .slice B p.Terms.length c), (19, vi (p.Terms.length : Int)), (20, vi t)] ∧ ST w0 [] w [⟨aD b, 30, [vi p.Ins, vi p.Vars, vi p.Root, vi p.Phase, .slice B p.Terms.length c, .slice B1 p.Out.length c1], 6⟩, ⟨aD b1, 30, [vi 0, vi 0, vi 0, vi 0, .slice none 0 0, .slice none 0 0], 6⟩, ⟨aD b2, 30, [vi p.Ins, vi (i64.wrap (p.Vars - 1)), vi p.Root, vi p.Phase, .slice B6 ((Terms ++ [(TTerm.mk r_1 x.Coef)]).length) c6, .slice none 0 0], 6⟩, ⟨B6, 56, ((Terms ++ [(TTerm.mk r_1 x.Coef)]).flatMap eN0), c6 * 2⟩] [⟨B, (p.Terms.flatMap eN0)⟩, ⟨B1, (p.Out.flatMap eN1)⟩]) ?_ ?_
  ·skip
   refine ra_start (hS11.se [0, 1, 4]).fn (by kernel_rfl) ?_
   have hS14 := hS11.drew
   refine rq 0 24 (v := pt (aD b2) 4) rfl (hS14.se [0, 1, 4]) (fun w' hw' => (Y_fieldAddr (B := aD b2) (i := 0) (s := 0) k_fd_30_4_4_27 k_sz_27_1 rfl (hf.get 5 3 rfl))) ?_
   refine rq 2 26 (v := pt (aD b3) 0) rfl (hS14.se [0, 1, 4]) (fun w' hw' => (Y_fieldAddr (B := aD b3) (i := 0) (s := 0) k_fd_56_0_0_3 k_sz_3_1 rfl rfl)) ?_
   refine rq 3 27 (v := vi x.Mask) rfl (hS14.se [0, 1, 4]) (fun w' hw' => (Y_load1 (B := aD b3) (i := 0) (cs := [vi x.Mask, vi x.Coef]) (v := vi x.Mask) k_sc_3 rfl rfl (ST.cf hw' (i := 2) rfl) rfl)) ?_
   refine rq 4 28 (v := vi v_) rfl (hS14.se [0, 1, 4]) (fun w' hw' => (Y_move (v := vi v_) rfl (hf.get 1 0 rfl))) ?_
   refine rq 6 30 (v := pt (aD b3) 1) rfl (hS14.se [0, 1, 4]) (fun w' hw' => (Y_fieldAddr (B := aD b3) (i := 0) (s := 0) k_fd_56_1_1_3 k_sz_3_1 rfl rfl)) ?_
   refine rq 7 31 (v := vi x.Coef) rfl (hS14.se [0, 1, 4]) (fun w' hw' => (Y_load1 (B := aD b3) (i := 1) (cs := [vi x.Mask, vi x.Coef]) (v := vi x.Coef) k_sc_3 rfl rfl (ST.cf hw' (i := 2) rfl) rfl)) ?_
   refine rA [1, 5] ?_
   refine ra_y 25 (i := 1) (v := .slice B4 Terms.length c4) rfl rfl rfl (Y_load1 (B := aD b2) (i := 4) (cs := [vi p.Ins, vi (i64.wrap (p.Vars - 1)), vi p.Root, vi p.Phase, .slice B4 Terms.length c4, .slice none 0 0]) (v := .slice B4 Terms.length c4) k_sc_27 rfl rfl (hS14.cf (i := 2) rfl) rfl) (hS14.se [0, 1, 4]) ?_ ?_
   ·skip
    refine rA [5] ?_
    refine ra_c 29 (i := 5) rfl rfl rfl (Yc_func (g := 53) (vs := [vi x.Mask, vi v_]) k_call_53 rfl (mc rfl (mc rfl mn)) (c_impl_dropped x.Mask v_ _  (hS14.inn0 [] rfl) hc)) ?_ ?_
    ·rintro _ w_9 ⟨rfl, hd⟩
     have hS15 := hS14.out00 hd
     refine ⟨(hS15.se [0, 1, 4]), ?_⟩
     refine rq 8 32 (v := .agg #[vi r_1, vi x.Coef]) rfl (hS15.se [0, 1, 4]) (fun w' hw' => (Y_buildS (zs := [vi 0, vi 0]) (vs := [(0, vi r_1), (1, vi x.Coef)]) (cs := [vi r_1, vi x.Coef]) k_pl_56 k_zero_56 rfl (mpc rfl (mpc rfl mpn)) rfl)) ?_
     refine rA [9] ?_
     refine ra_s 33 (i := 9) rfl rfl rfl (Ys_bslice (s := 2) (len := 1) (vs := [(0, .agg #[vi r_1, vi x.Coef])]) (cs := [vi r_1, vi x.Coef]) (zs := [vi 0, vi 0]) (m := 2) hS15 k_sl_27_56 k_sz_56_2 k_zc_56 rfl (mpc rfl mpn) rfl rfl rfl (by kernel_rfl) (by kernel_rfl) rfl) ?_ ?_
     ·rintro _ w_10 ⟨b4, rfl, hS16⟩
      refine ⟨(hS16.se [0, 1, 4]), ?_⟩
      refine rA [10] ?_
      refine ra_s 34 (i := 10) rfl rfl rfl (Ys_append (s := 2) (by' := 16) (i := 3) (nn := Terms.length) (c := c4) (k := 1) (len := (Terms ++ [(TTerm.mk r_1 x.Coef)]).length) (B := B4) (xs := ([(TTerm.mk r_1 x.Coef)].flatMap eN0)) (cs' := ((Terms ++ [(TTerm.mk r_1 x.Coef)]).flatMap eN0)) hS16 k_sl_27_56 k_sz_56_2 k_by_56_16 k_zero_56 rfl (by decide) rfl rfl rfl rfl (fm_lenn (l := Terms) eN2 rfl) rfl (hS16.cf (i := 5) rfl) (fm_lenn (l := [(TTerm.mk r_1 x.Coef)]) eN2 rfl) (fm_one' (enc := eN0) enc_Term_one [(TTerm.mk r_1 x.Coef)]) (by have := hap; omega) (by have := hap; simp only [maxLen]; omega) (fm_app _ _) (app_len (l := Terms) (l' := [(TTerm.mk r_1 x.Coef)]) rfl rfl)) ?_ ?_
      ·rintro _ w_11 ⟨B5, c5, rfl, hS17⟩
       refine ⟨(hS17.se [0, 1, 4]), ?_⟩
       refine rq 11 35 (v := pt (aD b2) 4) rfl (hS17.se [0, 1, 4]) (fun w' hw' => (Y_fieldAddr (B := aD b2) (i := 0) (s := 0) k_fd_30_4_4_27 k_sz_27_1 rfl (hf.get 5 3 rfl))) ?_
       refine rA [12] ?_
       refine ra_s0 (i := 12) rfl rfl rfl (Ys_store (i := 2) (s := 1) (B := aD b2) (T' := 30) (v := .slice B5 ((Terms ++ [(TTerm.mk r_1 x.Coef)]).length) c5) (vs := [.slice B5 ((Terms ++ [(TTerm.mk r_1 x.Coef)]).length) c5]) (k := 4) (cs' := [vi p.Ins, vi (i64.wrap (p.Vars - 1)), vi p.Root, vi p.Phase, .slice B5 ((Terms ++ [(TTerm.mk r_1 x.Coef)]).length) c5, .slice none 0 0]) hS17 k_sz_27_1 rfl rfl rfl rfl rfl rfl rfl (lB rfl) rfl rfl) ?_ ?_
       ·rintro _ w_12 ⟨rfl, hS18⟩
        refine ⟨(hS18.se [0, 1, 4]), ?_⟩
        refine ra_done (by kernel_rfl) ?_
        exact ⟨B5, c5, (FF.cons (hf.get 1 0 rfl) (FF.cons (hf.get 2 1 rfl) (FF.cons (hf.get 4 2 rfl) (FF.cons (hf.get 5 3 rfl) (FF.cons (hf.get 18 4 rfl) (FF.cons (hf.get 19 5 rfl) (FF.cons (hf.get 20 6 rfl) FF.nil))))))), (hS18.sel [0, 1, 2, 3] rfl rfl)⟩
       exact allR_nil
      exact allR_nil
     exact allR_nil
    exact allR_nil
   refine ra_c 29 (i := 5) rfl rfl rfl (Yc_func (g := 53) (vs := [vi x.Mask, vi v_]) k_call_53 rfl (mc rfl (mc rfl mn)) (c_impl_dropped x.Mask v_ _  (hS14.inn0 [] rfl) hc)) ?_ ?_
   ·rintro _ w_13 ⟨rfl, hd1⟩
    have hS19 := hS14.out00 hd1
    refine ⟨(hS19.se [0, 1, 4]), ?_⟩
    refine rq 8 32 (v := .agg #[vi r_1, vi x.Coef]) rfl (hS19.se [0, 1, 4]) (fun w' hw' => (Y_buildS (zs := [vi 0, vi 0]) (vs := [(0, vi r_1), (1, vi x.Coef)]) (cs := [vi r_1, vi x.Coef]) k_pl_56 k_zero_56 rfl (mpc rfl (mpc rfl mpn)) rfl)) ?_
    refine rA [1, 9] ?_
    refine ra_y 25 (i := 1) (v := .slice B4 Terms.length c4) rfl rfl rfl (Y_load1 (B := aD b2) (i := 4) (cs := [vi p.Ins, vi (i64.wrap (p.Vars - 1)), vi p.Root, vi p.Phase, .slice B4 Terms.length c4, .slice none 0 0]) (v := .slice B4 Terms.length c4) k_sc_27 rfl rfl (hS19.cf (i := 2) rfl) rfl) (hS19.se [0, 1, 4]) ?_ ?_
    ·skip
     refine rA [9] ?_
     refine ra_s 33 (i := 9) rfl rfl rfl (Ys_bslice (s := 2) (len := 1) (vs := [(0, .agg #[vi r_1, vi x.Coef])]) (cs := [vi r_1, vi x.Coef]) (zs := [vi 0, vi 0]) (m := 2) hS19 k_sl_27_56 k_sz_56_2 k_zc_56 rfl (mpc rfl mpn) rfl rfl rfl (by kernel_rfl) (by kernel_rfl) rfl) ?_ ?_
     ·rintro _ w_14 ⟨b4, rfl, hS20⟩
      refine ⟨(hS20.se [0, 1, 4]), ?_⟩
      refine rA [10] ?_
      refine ra_s 34 (i := 10) rfl rfl rfl (Ys_append (s := 2) (by' := 16) (i := 3) (nn := Terms.length) (c := c4) (k := 1) (len := (Terms ++ [(TTerm.mk r_1 x.Coef)]).length) (B := B4) (xs := ([(TTerm.mk r_1 x.Coef)].flatMap eN0)) (cs' := ((Terms ++ [(TTerm.mk r_1 x.Coef)]).flatMap eN0)) hS20 k_sl_27_56 k_sz_56_2 k_by_56_16 k_zero_56 rfl (by decide) rfl rfl rfl rfl (fm_lenn (l := Terms) eN2 rfl) rfl (hS20.cf (i := 5) rfl) (fm_lenn (l := [(TTerm.mk r_1 x.Coef)]) eN2 rfl) (fm_one' (enc := eN0) enc_Term_one [(TTerm.mk r_1 x.Coef)]) (by have := hap; omega) (by have := hap; simp only [maxLen]; omega) (fm_app _ _) (app_len (l := Terms) (l' := [(TTerm.mk r_1 x.Coef)]) rfl rfl)) ?_ ?_
      ·rintro _ w_15 ⟨B5, c5, rfl, hS21⟩
       refine ⟨(hS21.se [0, 1, 4]), ?_⟩
       refine rq 11 35 (v := pt (aD b2) 4) rfl (hS21.se [0, 1, 4]) (fun w' hw' => (Y_fieldAddr (B := aD b2) (i := 0) (s := 0) k_fd_30_4_4_27 k_sz_27_1 rfl (hf.get 5 3 rfl))) ?_
       refine rA [12] ?_
       refine ra_s0 (i := 12) rfl rfl rfl (Ys_store (i := 2) (s := 1) (B := aD b2) (T' := 30) (v := .slice B5 ((Terms ++ [(TTerm.mk r_1 x.Coef)]).length) c5) (vs := [.slice B5 ((Terms ++ [(TTerm.mk r_1 x.Coef)]).length) c5]) (k := 4) (cs' := [vi p.Ins, vi (i64.wrap (p.Vars - 1)), vi p.Root, vi p.Phase, .slice B5 ((Terms ++ [(TTerm.mk r_1 x.Coef)]).length) c5, .slice none 0 0]) hS21 k_sz_27_1 rfl rfl rfl rfl rfl rfl rfl (lB rfl) rfl rfl) ?_ ?_
       ·rintro _ w_16 ⟨rfl, hS22⟩
        refine ⟨(hS22.se [0, 1, 4]), ?_⟩
        refine ra_done (by kernel_rfl) ?_
        exact ⟨B5, c5, (FF.cons (hf.get 1 0 rfl) (FF.cons (hf.get 2 1 rfl) (FF.cons (hf.get 4 2 rfl) (FF.cons (hf.get 5 3 rfl) (FF.cons (hf.get 18 4 rfl) (FF.cons (hf.get 19 5 rfl) (FF.cons (hf.get 20 6 rfl) FF.nil))))))), (hS22.sel [0, 1, 2, 3] rfl rfl)⟩
       exact allR_nil
      exact allR_nil
     exact allR_nil
    refine ra_s 33 (i := 9) rfl rfl rfl (Ys_bslice (s := 2) (len := 1) (vs := [(0, .agg #[vi r_1, vi x.Coef])]) (cs := [vi r_1, vi x.Coef]) (zs := [vi 0, vi 0]) (m := 2) hS19 k_sl_27_56 k_sz_56_2 k_zc_56 rfl (mpc rfl mpn) rfl rfl rfl (by kernel_rfl) (by kernel_rfl) rfl) ?_ ?_
    ·rintro _ w_17 ⟨b4, rfl, hS23⟩
     refine ⟨(hS23.se [0, 1, 4]), ?_⟩
     refine rA [1] ?_
     refine ra_y 25 (i := 1) (v := .slice B4 Terms.length c4) rfl rfl rfl (Y_load1 (B := aD b2) (i := 4) (cs := [vi p.Ins, vi (i64.wrap (p.Vars - 1)), vi p.Root, vi p.Phase, .slice B4 Terms.length c4, .slice none 0 0]) (v := .slice B4 Terms.length c4) k_sc_27 rfl rfl (hS23.cf (i := 2) rfl) rfl) (hS23.se [0, 1, 4]) ?_ ?_
     ·skip
      refine rA [10] ?_
      refine ra_s 34 (i := 10) rfl rfl rfl (Ys_append (s := 2) (by' := 16) (i := 3) (nn := Terms.length) (c := c4) (k := 1) (len := (Terms ++ [(TTerm.mk r_1 x.Coef)]).length) (B := B4) (xs := ([(TTerm.mk r_1 x.Coef)].flatMap eN0)) (cs' := ((Terms ++ [(TTerm.mk r_1 x.Coef)]).flatMap eN0)) hS23 k_sl_27_56 k_sz_56_2 k_by_56_16 k_zero_56 rfl (by decide) rfl rfl rfl rfl (fm_lenn (l := Terms) eN2 rfl) rfl (hS23.cf (i := 5) rfl) (fm_lenn (l := [(TTerm.mk r_1 x.Coef)]) eN2 rfl) (fm_one' (enc := eN0) enc_Term_one [(TTerm.mk r_1 x.Coef)]) (by have := hap; omega) (by have := hap; simp only [maxLen]; omega) (fm_app _ _) (app_len (l := Terms) (l' := [(TTerm.mk r_1 x.Coef)]) rfl rfl)) ?_ ?_
      ·rintro _ w_18 ⟨B5, c5, rfl, hS24⟩
       refine ⟨(hS24.se [0, 1, 4]), ?_⟩
       refine rq 11 35 (v := pt (aD b2) 4) rfl (hS24.se [0, 1, 4]) (fun w' hw' => (Y_fieldAddr (B := aD b2) (i := 0) (s := 0) k_fd_30_4_4_27 k_sz_27_1 rfl (hf.get 5 3 rfl))) ?_
       refine rA [12] ?_
       refine ra_s0 (i := 12) rfl rfl rfl (Ys_store (i := 2) (s := 1) (B := aD b2) (T' := 30) (v := .slice B5 ((Terms ++ [(TTerm.mk r_1 x.Coef)]).length) c5) (vs := [.slice B5 ((Terms ++ [(TTerm.mk r_1 x.Coef)]).length) c5]) (k := 4) (cs' := [vi p.Ins, vi (i64.wrap (p.Vars - 1)), vi p.Root, vi p.Phase, .slice B5 ((Terms ++ [(TTerm.mk r_1 x.Coef)]).length) c5, .slice none 0 0]) hS24 k_sz_27_1 rfl rfl rfl rfl rfl rfl rfl (lB rfl) rfl rfl) ?_ ?_
       ·rintro _ w_19 ⟨rfl, hS25⟩
        refine ⟨(hS25.se [0, 1, 4]), ?_⟩
        refine ra_done (by kernel_rfl) ?_
        exact ⟨B5, c5, (FF.cons (hf.get 1 0 rfl) (FF.cons (hf.get 2 1 rfl) (FF.cons (hf.get 4 2 rfl) (FF.cons (hf.get 5 3 rfl) (FF.cons (hf.get 18 4 rfl) (FF.cons (hf.get 19 5 rfl) (FF.cons (hf.get 20 6 rfl) FF.nil))))))), (hS25.sel [0, 1, 2, 3] rfl rfl)⟩
       exact allR_nil
      exact allR_nil
     exact allR_nil
    exact allR_nil
   exact allR_nil
  rintro f w ⟨B6, c6, hf1, hS13⟩
  refine cw_region ?_
  refine sQ 36 (Y_add (k := .i64) (a := t) (b := 1) rfl (hf1.get 20 6 rfl) rfl) ?_
  refine sQ 20 (Y_move (v := vi (i64.wrap (t + 1))) rfl rfl) (rw_nil ?_)
  obtain rfl := some_inj hF2
  exact ⟨k_1, Nat.lt_succ_self _, (Terms ++ [(TTerm.mk r_1 x.Coef)]), (i64.wrap (t + 1)), B6, c6, (FF.cons (hf1.get 1 0 rfl) (FF.cons (hf1.get 2 1 rfl) (FF.cons (hf1.get 4 2 rfl) (FF.cons (hf1.get 5 3 rfl) (FF.cons (hf1.get 18 4 rfl) (FF.cons (hf1.get 19 5 rfl) (FF.cons rfl FF.nil))))))), (hS13.sel [0, 1, 2, 3] rfl rfl), hL1⟩
 ·skip
  have hF3 := cf' hb hb1
  refine cw_exit rfl ?_
  obtain rfl := some_inj hF3
  obtain rfl := some_inj hL1
  refine cw_seq (cw_seq (cw_region ?_))
  refine sQ 37 (Y_fieldAddr (B := aD b) (i := 0) (s := 0) k_fd_30_5_5_28 k_sz_28_1 rfl (hf.get 2 1 rfl)) ?_
  refine sQ 38 (Y_load1 (B := aD b) (i := 5) (cs := [vi p.Ins, vi p.Vars, vi p.Root, vi p.Phase, .slice B p.Terms.length c, .slice B1 p.Out.length c1]) (v := .slice B1 p.Out.length c1) k_sc_28 rfl rfl (hS8.cf (i := 0) rfl) rfl) ?_
  refine sQ 39 (Y_len (B := B1) (m := p.Out.length) (c := c1) k_sl_28_44 rfl rfl) ?_
  refine sQ 40 (Y_move (v := vi 0) rfl rfl) (rw_nil ?_)
  obtain ⟨z1, hz1, hF4⟩ := bind_inv hF1
  have hS27 := hS8.addNil 44
  refine cw_block ?_
  refine cw_loop (fun k f w => ∃ (Out : List TAffine) (t1 : Int) (B7 : Option Addr) (c7 : Nat), FF f [(1, vi v_), (4, pt (aD b1) 0), (5, pt (aD b2) 0), (38, .slice B1 p.Out.length c1), (39, vi (p.Out.length : Int)), (40, vi t1)] ∧ ST w0 [] w [⟨aD b1, 30, [vi 0, vi 0, vi 0, vi 0, .slice none 0 0, .slice none 0 0], 6⟩, ⟨aD b2, 30, [vi p.Ins, vi (i64.wrap (p.Vars - 1)), vi p.Root, vi p.Phase, .slice B4 Terms.length c4, .slice B7 Out.length c7], 6⟩, ⟨B4, 56, (Terms.flatMap eN0), c4 * 2⟩, ⟨B7, 44, (Out.flatMap eN1), c7 * 2⟩] [⟨B, (p.Terms.flatMap eN0)⟩, ⟨B1, (p.Out.flatMap eN1)⟩] ∧ whX (F_impl_PathSum_without_l2 p v_) k (Out, t1) = some z1) fuel ⟨[], 0, none, 0, (FF.cons (hf.get 1 0 rfl) (FF.cons (hf.get 4 2 rfl) (FF.cons (hf.get 5 3 rfl) (FF.cons rfl (FF.cons rfl (FF.cons rfl FF.nil)))))), (hS27.sel [1, 2, 3, 4] rfl rfl), hz1⟩ ?_
  rintro k_2 f w ⟨Out, t1, B7, c7, hf2, hS26, hL2⟩
  obtain ⟨k_3, y1, rfl, hb2, hL3⟩ := whX_go hL2
  unfold F_impl_PathSum_without_l2 at hb2
  refine cw_seq (cw_region ?_)
  refine sQ 41 (Y_lt (k := .i64) (a := t1) (b := (p.Out.length : Int)) rfl (hf2.get 40 5 rfl) (hf2.get 39 4 rfl)) (rw_nil (cw_seq ?_))
  refine cw_cond (b := (decide (t1 < (p.Out.length : Int)))) rfl (fun hb3 => ?_) (fun hb3 => ?_)
  ·skip
   have hF5 := ct hb2 hb3
   refine cw_skip (cw_seq (cw_block (cw_seq (cw_region ?_))))
   obtain ⟨x1, hx1, hF5⟩ := bind_inv hF5
   refine sQ 42 (Y_index (B := B1) (m := p.Out.length) (c := c1) (k := .i64) (i := t1) k_sl_28_44 k_sz_44_2 rfl (hf2.get 38 3 rfl) (hf2.get 40 5 rfl) (gi_isSome enc_Affine_len rfl (hS26.rf (i := 1) rfl) hx1) (getI_nn hx1) (getI_ltI hx1 rfl)) ?_
   refine sQ 43 (Y_loadA (B := B1) (i := t1.toNat * 2) (cs := (p.Out.flatMap eN1)) (vs := [vi x1.Mask, vi x1.Turn]) k_ag_44 k_sz_44_2 rfl rfl (hS26.rf (i := 1) rfl) (enc_Affine_len x1) (gi_seg enc_Affine_len hx1)) ?_
   refine sS 9 (Ys_alloc (T := 44) (cs := [vi 0, vi 0]) (m := 2) hS26 k_zero_44 rfl rfl rfl) ?_
   rintro _ w_20 ⟨b5, rfl, hS28⟩
   refine s0 (Ys_store (i := 4) (s := 2) (B := aD b5) (T' := 44) (v := .agg #[vi x1.Mask, vi x1.Turn]) (vs := [vi x1.Mask, vi x1.Turn]) (k := 0) (cs' := [vi x1.Mask, vi x1.Turn]) hS28 k_sz_44_2 rfl rfl rfl rfl rfl rfl rfl (lB rfl) rfl rfl) ?_
   rintro _ w_21 ⟨rfl, hS29⟩
   refine rw_nil ?_
   obtain ⟨r_2, hc1, hF5⟩ := bind_inv hF5
   obtain ⟨hap1, hF5⟩ := chk_inv hF5
   refine cw_mid (fun f w => ∃ (B9 : Option Addr) (c9 : Nat), FF f [(1, vi v_), (4, pt (aD b1) 0), (5, pt (aD b2) 0), (38, .slice B1 p.Out.length c1), (39, vi (p.Out.length : Int)), (40, vi t1)] ∧ ST w0 [] w [⟨aD b1, 30, [vi 0, vi 0, vi 0, vi 0, .slice none 0 0, .slice none 0 0], 6⟩, ⟨aD b2, 30, [vi p.Ins, vi (i64.wrap (p.Vars - 1)), vi p.Root, vi p.Phase, .slice B4 Terms.length c4, .slice B9 ((Out ++ [(TAffine.mk r_2 x1.Turn)]).length) c9], 6⟩, ⟨B4, 56, (Terms.flatMap eN0), c4 * 2⟩, ⟨B9, 44, ((Out ++ [(TAffine.mk r_2 x1.Turn)]).flatMap eN1), c9 * 2⟩] [⟨B, (p.Terms.flatMap eN0)⟩, ⟨B1, (p.Out.flatMap eN1)⟩]) ?_ ?_
   ·skip
    refine ra_start (hS29.se [0, 2, 4]).fn (by kernel_rfl) ?_
    have hS32 := hS29.drew
    refine rq 0 44 (v := pt (aD b2) 5) rfl (hS32.se [0, 2, 4]) (fun w' hw' => (Y_fieldAddr (B := aD b2) (i := 0) (s := 0) k_fd_30_5_5_28 k_sz_28_1 rfl (hf2.get 5 2 rfl))) ?_
    refine rq 2 46 (v := pt (aD b5) 0) rfl (hS32.se [0, 2, 4]) (fun w' hw' => (Y_fieldAddr (B := aD b5) (i := 0) (s := 0) k_fd_44_0_0_3 k_sz_3_1 rfl rfl)) ?_
    refine rq 3 47 (v := vi x1.Mask) rfl (hS32.se [0, 2, 4]) (fun w' hw' => (Y_load1 (B := aD b5) (i := 0) (cs := [vi x1.Mask, vi x1.Turn]) (v := vi x1.Mask) k_sc_3 rfl rfl (ST.cf hw' (i := 2) rfl) rfl)) ?_
    refine rq 4 48 (v := vi v_) rfl (hS32.se [0, 2, 4]) (fun w' hw' => (Y_move (v := vi v_) rfl (hf2.get 1 0 rfl))) ?_
    refine rq 6 50 (v := pt (aD b5) 1) rfl (hS32.se [0, 2, 4]) (fun w' hw' => (Y_fieldAddr (B := aD b5) (i := 0) (s := 0) k_fd_44_1_1_3 k_sz_3_1 rfl rfl)) ?_
    refine rq 7 51 (v := vi x1.Turn) rfl (hS32.se [0, 2, 4]) (fun w' hw' => (Y_load1 (B := aD b5) (i := 1) (cs := [vi x1.Mask, vi x1.Turn]) (v := vi x1.Turn) k_sc_3 rfl rfl (ST.cf hw' (i := 2) rfl) rfl)) ?_
    refine rA [1, 5] ?_
    refine ra_y 45 (i := 1) (v := .slice B7 Out.length c7) rfl rfl rfl (Y_load1 (B := aD b2) (i := 5) (cs := [vi p.Ins, vi (i64.wrap (p.Vars - 1)), vi p.Root, vi p.Phase, .slice B4 Terms.length c4, .slice B7 Out.length c7]) (v := .slice B7 Out.length c7) k_sc_28 rfl rfl (hS32.cf (i := 1) rfl) rfl) (hS32.se [0, 2, 4]) ?_ ?_
    ·skip
     refine rA [5] ?_
     refine ra_c 49 (i := 5) rfl rfl rfl (Yc_func (g := 53) (vs := [vi x1.Mask, vi v_]) k_call_53 rfl (mc rfl (mc rfl mn)) (c_impl_dropped x1.Mask v_ _  (hS32.inn0 [] rfl) hc1)) ?_ ?_
     ·rintro _ w_22 ⟨rfl, hd2⟩
      have hS33 := hS32.out00 hd2
      refine ⟨(hS33.se [0, 2, 4]), ?_⟩
      refine rq 8 52 (v := .agg #[vi r_2, vi x1.Turn]) rfl (hS33.se [0, 2, 4]) (fun w' hw' => (Y_buildS (zs := [vi 0, vi 0]) (vs := [(0, vi r_2), (1, vi x1.Turn)]) (cs := [vi r_2, vi x1.Turn]) k_pl_44 k_zero_44 rfl (mpc rfl (mpc rfl mpn)) rfl)) ?_
      refine rA [9] ?_
      refine ra_s 53 (i := 9) rfl rfl rfl (Ys_bslice (s := 2) (len := 1) (vs := [(0, .agg #[vi r_2, vi x1.Turn])]) (cs := [vi r_2, vi x1.Turn]) (zs := [vi 0, vi 0]) (m := 2) hS33 k_sl_28_44 k_sz_44_2 k_zc_44 rfl (mpc rfl mpn) rfl rfl rfl (by kernel_rfl) (by kernel_rfl) rfl) ?_ ?_
      ·rintro _ w_23 ⟨b6, rfl, hS34⟩
       refine ⟨(hS34.se [0, 2, 4]), ?_⟩
       refine rA [10] ?_
       refine ra_s 54 (i := 10) rfl rfl rfl (Ys_append (s := 2) (by' := 16) (i := 3) (nn := Out.length) (c := c7) (k := 1) (len := (Out ++ [(TAffine.mk r_2 x1.Turn)]).length) (B := B7) (xs := ([(TAffine.mk r_2 x1.Turn)].flatMap eN1)) (cs' := ((Out ++ [(TAffine.mk r_2 x1.Turn)]).flatMap eN1)) hS34 k_sl_28_44 k_sz_44_2 k_by_44_16 k_zero_44 rfl (by decide) rfl rfl rfl rfl (fm_lenn (l := Out) enc_Affine_len rfl) rfl (hS34.cf (i := 5) rfl) (fm_lenn (l := [(TAffine.mk r_2 x1.Turn)]) enc_Affine_len rfl) (fm_one' (enc := eN1) enc_Affine_one [(TAffine.mk r_2 x1.Turn)]) (by have := hap1; omega) (by have := hap1; simp only [maxLen]; omega) (fm_app _ _) (app_len (l := Out) (l' := [(TAffine.mk r_2 x1.Turn)]) rfl rfl)) ?_ ?_
       ·rintro _ w_24 ⟨B8, c8, rfl, hS35⟩
        refine ⟨(hS35.se [0, 2, 4]), ?_⟩
        refine rq 11 55 (v := pt (aD b2) 5) rfl (hS35.se [0, 2, 4]) (fun w' hw' => (Y_fieldAddr (B := aD b2) (i := 0) (s := 0) k_fd_30_5_5_28 k_sz_28_1 rfl (hf2.get 5 2 rfl))) ?_
        refine rA [12] ?_
        refine ra_s0 (i := 12) rfl rfl rfl (Ys_store (i := 1) (s := 1) (B := aD b2) (T' := 30) (v := .slice B8 ((Out ++ [(TAffine.mk r_2 x1.Turn)]).length) c8) (vs := [.slice B8 ((Out ++ [(TAffine.mk r_2 x1.Turn)]).length) c8]) (k := 5) (cs' := [vi p.Ins, vi (i64.wrap (p.Vars - 1)), vi p.Root, vi p.Phase, .slice B4 Terms.length c4, .slice B8 ((Out ++ [(TAffine.mk r_2 x1.Turn)]).length) c8]) hS35 k_sz_28_1 rfl rfl rfl rfl rfl rfl rfl (lB rfl) rfl rfl) ?_ ?_
        ·rintro _ w_25 ⟨rfl, hS36⟩
         refine ⟨(hS36.se [0, 2, 4]), ?_⟩
         refine ra_done (by kernel_rfl) ?_
         exact ⟨B8, c8, (FF.cons (hf2.get 1 0 rfl) (FF.cons (hf2.get 4 1 rfl) (FF.cons (hf2.get 5 2 rfl) (FF.cons (hf2.get 38 3 rfl) (FF.cons (hf2.get 39 4 rfl) (FF.cons (hf2.get 40 5 rfl) FF.nil)))))), (hS36.sel [0, 1, 2, 3] rfl rfl)⟩
        exact allR_nil
       exact allR_nil
      exact allR_nil
     exact allR_nil
    refine ra_c 49 (i := 5) rfl rfl rfl (Yc_func (g := 53) (vs := [vi x1.Mask, vi v_]) k_call_53 rfl (mc rfl (mc rfl mn)) (c_impl_dropped x1.Mask v_ _  (hS32.inn0 [] rfl) hc1)) ?_ ?_
    ·rintro _ w_26 ⟨rfl, hd3⟩
     have hS37 := hS32.out00 hd3
     refine ⟨(hS37.se [0, 2, 4]), ?_⟩
     refine rq 8 52 (v := .agg #[vi r_2, vi x1.Turn]) rfl (hS37.se [0, 2, 4]) (fun w' hw' => (Y_buildS (zs := [vi 0, vi 0]) (vs := [(0, vi r_2), (1, vi x1.Turn)]) (cs := [vi r_2, vi x1.Turn]) k_pl_44 k_zero_44 rfl (mpc rfl (mpc rfl mpn)) rfl)) ?_
     refine rA [1, 9] ?_
     refine ra_y 45 (i := 1) (v := .slice B7 Out.length c7) rfl rfl rfl (Y_load1 (B := aD b2) (i := 5) (cs := [vi p.Ins, vi (i64.wrap (p.Vars - 1)), vi p.Root, vi p.Phase, .slice B4 Terms.length c4, .slice B7 Out.length c7]) (v := .slice B7 Out.length c7) k_sc_28 rfl rfl (hS37.cf (i := 1) rfl) rfl) (hS37.se [0, 2, 4]) ?_ ?_
     ·skip
      refine rA [9] ?_
      refine ra_s 53 (i := 9) rfl rfl rfl (Ys_bslice (s := 2) (len := 1) (vs := [(0, .agg #[vi r_2, vi x1.Turn])]) (cs := [vi r_2, vi x1.Turn]) (zs := [vi 0, vi 0]) (m := 2) hS37 k_sl_28_44 k_sz_44_2 k_zc_44 rfl (mpc rfl mpn) rfl rfl rfl (by kernel_rfl) (by kernel_rfl) rfl) ?_ ?_
      ·rintro _ w_27 ⟨b6, rfl, hS38⟩
       refine ⟨(hS38.se [0, 2, 4]), ?_⟩
       refine rA [10] ?_
       refine ra_s 54 (i := 10) rfl rfl rfl (Ys_append (s := 2) (by' := 16) (i := 3) (nn := Out.length) (c := c7) (k := 1) (len := (Out ++ [(TAffine.mk r_2 x1.Turn)]).length) (B := B7) (xs := ([(TAffine.mk r_2 x1.Turn)].flatMap eN1)) (cs' := ((Out ++ [(TAffine.mk r_2 x1.Turn)]).flatMap eN1)) hS38 k_sl_28_44 k_sz_44_2 k_by_44_16 k_zero_44 rfl (by decide) rfl rfl rfl rfl (fm_lenn (l := Out) enc_Affine_len rfl) rfl (hS38.cf (i := 5) rfl) (fm_lenn (l := [(TAffine.mk r_2 x1.Turn)]) enc_Affine_len rfl) (fm_one' (enc := eN1) enc_Affine_one [(TAffine.mk r_2 x1.Turn)]) (by have := hap1; omega) (by have := hap1; simp only [maxLen]; omega) (fm_app _ _) (app_len (l := Out) (l' := [(TAffine.mk r_2 x1.Turn)]) rfl rfl)) ?_ ?_
       ·rintro _ w_28 ⟨B8, c8, rfl, hS39⟩
        refine ⟨(hS39.se [0, 2, 4]), ?_⟩
        refine rq 11 55 (v := pt (aD b2) 5) rfl (hS39.se [0, 2, 4]) (fun w' hw' => (Y_fieldAddr (B := aD b2) (i := 0) (s := 0) k_fd_30_5_5_28 k_sz_28_1 rfl (hf2.get 5 2 rfl))) ?_
        refine rA [12] ?_
        refine ra_s0 (i := 12) rfl rfl rfl (Ys_store (i := 1) (s := 1) (B := aD b2) (T' := 30) (v := .slice B8 ((Out ++ [(TAffine.mk r_2 x1.Turn)]).length) c8) (vs := [.slice B8 ((Out ++ [(TAffine.mk r_2 x1.Turn)]).length) c8]) (k := 5) (cs' := [vi p.Ins, vi (i64.wrap (p.Vars - 1)), vi p.Root, vi p.Phase, .slice B4 Terms.length c4, .slice B8 ((Out ++ [(TAffine.mk r_2 x1.Turn)]).length) c8]) hS39 k_sz_28_1 rfl rfl rfl rfl rfl rfl rfl (lB rfl) rfl rfl) ?_ ?_
        ·rintro _ w_29 ⟨rfl, hS40⟩
         refine ⟨(hS40.se [0, 2, 4]), ?_⟩
         refine ra_done (by kernel_rfl) ?_
         exact ⟨B8, c8, (FF.cons (hf2.get 1 0 rfl) (FF.cons (hf2.get 4 1 rfl) (FF.cons (hf2.get 5 2 rfl) (FF.cons (hf2.get 38 3 rfl) (FF.cons (hf2.get 39 4 rfl) (FF.cons (hf2.get 40 5 rfl) FF.nil)))))), (hS40.sel [0, 1, 2, 3] rfl rfl)⟩
        exact allR_nil
       exact allR_nil
      exact allR_nil
     refine ra_s 53 (i := 9) rfl rfl rfl (Ys_bslice (s := 2) (len := 1) (vs := [(0, .agg #[vi r_2, vi x1.Turn])]) (cs := [vi r_2, vi x1.Turn]) (zs := [vi 0, vi 0]) (m := 2) hS37 k_sl_28_44 k_sz_44_2 k_zc_44 rfl (mpc rfl mpn) rfl rfl rfl (by kernel_rfl) (by kernel_rfl) rfl) ?_ ?_
     ·rintro _ w_30 ⟨b6, rfl, hS41⟩
      have hS41 : ST w0 [] _ [⟨aD b1, 30, [vi 0, vi 0, vi 0, vi 0, .slice none 0 0, .slice none 0 0], 6⟩, ⟨aD b2, 30, [vi p.Ins, vi (i64.wrap (p.Vars - 1)), vi p.Root, vi p.Phase, .slice B4 Terms.length c4, .slice B7 Out.length c7], 6⟩, ⟨B4, 56, (Terms.flatMap eN0), c4 * 2⟩, ⟨B7, 44, (Out.flatMap eN1), c7 * 2⟩, ⟨aD b5, 44, [vi x1.Mask, vi x1.Turn], 2⟩, ⟨aD b6, 44, ([(TAffine.mk r_2 x1.Turn)].flatMap eN1), 1 * 2⟩] [⟨B, (p.Terms.flatMap eN0)⟩, ⟨B1, (p.Out.flatMap eN1)⟩] := hS41
      refine ⟨(hS41.se [0, 2, 4]), ?_⟩
      refine rA [1] ?_
      refine ra_y 45 (i := 1) (v := .slice B7 Out.length c7) rfl rfl rfl (Y_load1 (B := aD b2) (i := 5) (cs := [vi p.Ins, vi (i64.wrap (p.Vars - 1)), vi p.Root, vi p.Phase, .slice B4 Terms.length c4, .slice B7 Out.length c7]) (v := .slice B7 Out.length c7) k_sc_28 rfl rfl (hS41.cf (i := 1) rfl) rfl) (hS41.se [0, 2, 4]) ?_ ?_
      ·skip
       refine rA [10] ?_
       refine ra_s 54 (i := 10) rfl rfl rfl (Ys_append (s := 2) (by' := 16) (i := 3) (nn := Out.length) (c := c7) (k := 1) (len := (Out ++ [(TAffine.mk r_2 x1.Turn)]).length) (B := B7) (xs := ([(TAffine.mk r_2 x1.Turn)].flatMap eN1)) (cs' := ((Out ++ [(TAffine.mk r_2 x1.Turn)]).flatMap eN1)) hS41 k_sl_28_44 k_sz_44_2 k_by_44_16 k_zero_44 rfl (by decide) rfl rfl rfl rfl (fm_lenn (l := Out) enc_Affine_len rfl) rfl (hS41.cf (i := 5) rfl) (fm_lenn (l := [(TAffine.mk r_2 x1.Turn)]) enc_Affine_len rfl) (fm_one' (enc := eN1) enc_Affine_one [(TAffine.mk r_2 x1.Turn)]) (by have := hap1; omega) (by have := hap1; simp only [maxLen]; omega) (fm_app _ _) (app_len (l := Out) (l' := [(TAffine.mk r_2 x1.Turn)]) rfl rfl)) ?_ ?_
       ·rintro _ w_31 ⟨B8, c8, rfl, hS42⟩
        refine ⟨(hS42.se [0, 2, 4]), ?_⟩
        refine rq 11 55 (v := pt (aD b2) 5) rfl (hS42.se [0, 2, 4]) (fun w' hw' => (Y_fieldAddr (B := aD b2) (i := 0) (s := 0) k_fd_30_5_5_28 k_sz_28_1 rfl (hf2.get 5 2 rfl))) ?_
        refine rA [12] ?_
        refine ra_s0 (i := 12) rfl rfl rfl (Ys_store (i := 1) (s := 1) (B := aD b2) (T' := 30) (v := .slice B8 ((Out ++ [(TAffine.mk r_2 x1.Turn)]).length) c8) (vs := [.slice B8 ((Out ++ [(TAffine.mk r_2 x1.Turn)]).length) c8]) (k := 5) (cs' := [vi p.Ins, vi (i64.wrap (p.Vars - 1)), vi p.Root, vi p.Phase, .slice B4 Terms.length c4, .slice B8 ((Out ++ [(TAffine.mk r_2 x1.Turn)]).length) c8]) hS42 k_sz_28_1 rfl rfl rfl rfl rfl rfl rfl (lB rfl) rfl rfl) ?_ ?_
        ·rintro _ w_32 ⟨rfl, hS43⟩
         refine ⟨(hS43.se [0, 2, 4]), ?_⟩
         refine ra_done (by kernel_rfl) ?_
         exact ⟨B8, c8, (FF.cons (hf2.get 1 0 rfl) (FF.cons (hf2.get 4 1 rfl) (FF.cons (hf2.get 5 2 rfl) (FF.cons (hf2.get 38 3 rfl) (FF.cons (hf2.get 39 4 rfl) (FF.cons (hf2.get 40 5 rfl) FF.nil)))))), (hS43.sel [0, 1, 2, 3] rfl rfl)⟩
        exact allR_nil
       exact allR_nil
      exact allR_nil
     exact allR_nil
    exact allR_nil
   rintro f w ⟨B9, c9, hf3, hS31⟩
   refine cw_region ?_
   refine sQ 56 (Y_add (k := .i64) (a := t1) (b := 1) rfl (hf3.get 40 5 rfl) rfl) ?_
   refine sQ 40 (Y_move (v := vi (i64.wrap (t1 + 1))) rfl rfl) (rw_nil ?_)
   obtain rfl := some_inj hF5
   exact ⟨k_3, Nat.lt_succ_self _, (Out ++ [(TAffine.mk r_2 x1.Turn)]), (i64.wrap (t1 + 1)), B9, c9, (FF.cons (hf3.get 1 0 rfl) (FF.cons (hf3.get 4 1 rfl) (FF.cons (hf3.get 5 2 rfl) (FF.cons (hf3.get 38 3 rfl) (FF.cons (hf3.get 39 4 rfl) (FF.cons rfl FF.nil)))))), (hS31.sel [0, 1, 2, 3] rfl rfl), hL3⟩
  ·skip
   have hF6 := cf' hb2 hb3
   refine cw_exit rfl ?_
   obtain rfl := some_inj hF6
   obtain rfl := some_inj hL3
   refine cw_seq (cw_region ?_)
   refine sQ 57 (Y_loadA (B := aD b2) (i := 0) (cs := [vi p.Ins, vi (i64.wrap (p.Vars - 1)), vi p.Root, vi p.Phase, .slice B4 Terms.length c4, .slice B7 Out.length c7]) (vs := [vi p.Ins, vi (i64.wrap (p.Vars - 1)), vi p.Root, vi p.Phase, .slice B4 Terms.length c4, .slice B7 Out.length c7]) k_ag_30 k_sz_30_6 rfl (hf2.get 5 2 rfl) (hS26.cf (i := 1) rfl) rfl rfl) ?_
   refine s0 (Ys_store (i := 0) (s := 6) (B := aD b1) (T' := 30) (v := .agg #[vi p.Ins, vi (i64.wrap (p.Vars - 1)), vi p.Root, vi p.Phase, .slice B4 Terms.length c4, .slice B7 Out.length c7]) (vs := [vi p.Ins, vi (i64.wrap (p.Vars - 1)), vi p.Root, vi p.Phase, .slice B4 Terms.length c4, .slice B7 Out.length c7]) (k := 0) (cs' := [vi p.Ins, vi (i64.wrap (p.Vars - 1)), vi p.Root, vi p.Phase, .slice B4 Terms.length c4, .slice B7 Out.length c7]) hS26 k_sz_30_6 rfl (hf2.get 4 1 rfl) rfl rfl rfl rfl rfl (lB rfl) rfl rfl) ?_
   rintro _ w_33 ⟨rfl, hS44⟩
   refine rw_nil (cw_ret ?_)
   obtain rfl := some_inj hF4
   exact ret1 Tryd.results51 (v1 := .agg #[vi p.Ins, vi (i64.wrap (p.Vars - 1)), vi p.Root, vi p.Phase, .slice B4 Terms.length c4, .slice B7 Out.length c7]) (resAt_cellA (B := aD b1) (i := 0) (cs := [vi p.Ins, vi (i64.wrap (p.Vars - 1)), vi p.Root, vi p.Phase, .slice B4 Terms.length c4, .slice B7 Out.length c7]) (vs := [vi p.Ins, vi (i64.wrap (p.Vars - 1)), vi p.Root, vi p.Phase, .slice B4 Terms.length c4, .slice B7 Out.length c7]) (hf2.get 4 1 rfl) k_ag_30 k_sz_30_6 (hS44.cf (i := 0) rfl) rfl rfl) ⟨B4, c4, B7, c7, rfl, (hS44.sN [2, 3])⟩

theorem c_impl_polyOf (p : TPathSum) (B : Option Addr) (c n : Nat) (B1 : Option Addr) (c1 n1 : Nat) (w0 : World) (hn : p.Terms.length = n) (hn1 : p.Out.length = n1) (hS : ST w0 [] w0 [] [⟨B, (p.Terms.flatMap eN0)⟩, ⟨B1, (p.Out.flatMap eN1)⟩]) {r_ : List (Int × Int)} (hF : F_impl_polyOf p = some r_) :
  CV Tryd.prog 60 #[.agg #[vi p.Ins, vi p.Vars, vi p.Root, vi p.Phase, .slice B n c, .slice B1 n1 c1]] w0 (fun v w' => ∃ (g : Nat), v = .map (some g) ∧ ST w0 [] w' [⟨(aD g), .mp (mpE (Value.int .i64) (Value.int .i64) r_), [], 0⟩] []) := by
 subst hn
 subst hn1
 unfold F_impl_polyOf at hF
 refine cv_of_cw 24 Tryd.func60 rfl Tryd.ntmps60 rfl ?_
 refine cw_seq (cw_region ?_)
 refine sS 1 (Ys_box (T := 30) (v := .agg #[vi p.Ins, vi p.Vars, vi p.Root, vi p.Phase, .slice B p.Terms.length c, .slice B1 p.Out.length c1]) (cs := [vi p.Ins, vi p.Vars, vi p.Root, vi p.Phase, .slice B p.Terms.length c, .slice B1 p.Out.length c1]) (m := 6) hS rfl rfl rfl rfl) ?_
 rintro _ w_ ⟨b, rfl, hS1⟩
 refine sQ 2 (Y_assign (v := (.map none)) rfl rfl) (rw_nil (cw_seq (cw_region ?_)))
 refine sS 6 (Ys_mkMap (T := 93) hS1 rfl) ?_
 rintro _ w_1 ⟨g1, rfl, hS2⟩
 refine sQ 7 (Y_fieldAddr (B := aD b) (i := 0) (s := 0) k_fd_30_3_3_3 k_sz_3_1 rfl rfl) ?_
 refine sQ 8 (Y_load1 (B := aD b) (i := 3) (cs := [vi p.Ins, vi p.Vars, vi p.Root, vi p.Phase, .slice B p.Terms.length c, .slice B1 p.Out.length c1]) (v := vi p.Phase) k_sc_3 rfl rfl (hS2.cf (i := 0) rfl) rfl) ?_
 refine s0 (Ys_mapIns (kE := (Value.int .i64)) (vE := (Value.int .i64)) (l := ([] : List (Int × Int))) (a := 0) (b := p.Phase) (g := g1) (i := 1) hS2 (keyInt k_int_3_i64) k_map_93_3_3 rfl rfl rfl rfl rfl rfl) ?_
 rintro _ w_2 ⟨rfl, hS3⟩
 refine sQ 9 (Y_move (v := .map (some g1)) rfl rfl) ?_
 refine sQ 3 (Y_assign (v := .map (some g1)) rfl rfl) (rw_nil (cw_seq (cw_seq (cw_region ?_))))
 refine sQ 10 (Y_fieldAddr (B := aD b) (i := 0) (s := 0) k_fd_30_4_4_27 k_sz_27_1 rfl rfl) ?_
 refine sQ 11 (Y_load1 (B := aD b) (i := 4) (cs := [vi p.Ins, vi p.Vars, vi p.Root, vi p.Phase, .slice B p.Terms.length c, .slice B1 p.Out.length c1]) (v := .slice B p.Terms.length c) k_sc_27 rfl rfl (hS3.cf (i := 0) rfl) rfl) ?_
 refine sQ 12 (Y_len (B := B) (m := p.Terms.length) (c := c) k_sl_27_56 rfl rfl) ?_
 refine sQ 13 (Y_move (v := vi 0) rfl rfl) (rw_nil ?_)
 obtain ⟨hN, hF⟩ := chk_inv hF
 obtain ⟨z, hz, hF1⟩ := bind_inv hF
 refine cw_block ?_
 refine cw_loop (fun k f w => ∃ (i : Nat) (out : List (Int × Int)), FF f [(3, .map (some g1)), (11, .slice B p.Terms.length c), (12, vi (p.Terms.length : Int)), (13, vi (i : Int))] ∧ ST w0 [] w [⟨(aD g1), .mp (mpE (Value.int .i64) (Value.int .i64) out), [], 0⟩] [⟨B, (p.Terms.flatMap eN0)⟩, ⟨B1, (p.Out.flatMap eN1)⟩] ∧ i + k = p.Terms.length ∧ forN (F_impl_polyOf_l1 p) k i out = some z) p.Terms.length ⟨0, (mput ([] : List (Int × Int)) 0 p.Phase), (FF.cons rfl (FF.cons rfl (FF.cons rfl (FF.cons rfl FF.nil)))), (hS3.sel [1] rfl rfl), Nat.zero_add _, hz⟩ ?_
 rintro k_ f w ⟨i, out, hf, hS4, hik, hL⟩
 refine cw_seq (cw_region ?_)
 refine sQ 14 (Y_lt (k := .i64) (a := (i : Int)) (b := (p.Terms.length : Int)) rfl (hf.get 13 3 rfl) (hf.get 12 2 rfl)) (rw_nil (cw_seq ?_))
 refine cw_cond (b := (decide ((i : Int) < (p.Terms.length : Int)))) rfl (fun hlt => ?_) (fun hlt => ?_)
 ·skip
  have hlt1 : i < p.Terms.length := by have h := of_decide_eq_true hlt; omega
  obtain ⟨k_1, rfl⟩ : ∃ k2, k_ = k2 + 1 := ⟨k_ - 1, by omega⟩
  obtain ⟨y, hb, hL1⟩ := forN_go hL
  unfold F_impl_polyOf_l1 at hb
  refine cw_skip (cw_seq (cw_block (cw_seq (cw_region ?_))))
  obtain ⟨x, hx, hb⟩ := bind_inv hb
  refine sQ 15 (Y_index (B := B) (m := p.Terms.length) (c := c) (k := .i64) (i := (i : Int)) k_sl_27_56 k_sz_56_2 rfl (hf.get 11 1 rfl) (hf.get 13 3 rfl) (gi_isSome eN2 rfl (hS4.rf (i := 0) rfl) hx) (getI_nn hx) (getI_ltI hx rfl)) ?_
  refine sQ 16 (Y_loadA (B := B) (i := (i : Int).toNat * 2) (cs := (p.Terms.flatMap eN0)) (vs := [vi x.Mask, vi x.Coef]) k_ag_56 k_sz_56_2 rfl rfl (hS4.rf (i := 0) rfl) (eN2 x) (gi_seg eN2 hx)) ?_
  refine sS 5 (Ys_alloc (T := 56) (cs := [vi 0, vi 0]) (m := 2) hS4 k_zero_56 rfl rfl rfl) ?_
  rintro _ w_3 ⟨b1, rfl, hS5⟩
  refine s0 (Ys_store (i := 1) (s := 2) (B := aD b1) (T' := 56) (v := .agg #[vi x.Mask, vi x.Coef]) (vs := [vi x.Mask, vi x.Coef]) (k := 0) (cs' := [vi x.Mask, vi x.Coef]) hS5 k_sz_56_2 rfl rfl rfl rfl rfl rfl rfl (lB rfl) rfl rfl) ?_
  rintro _ w_4 ⟨rfl, hS6⟩
  refine rw_nil (cw_region ?_)
  refine sQ 17 (Y_move (v := .map (some g1)) rfl (hf.get 3 0 rfl)) ?_
  refine sQ 18 (Y_fieldAddr (B := aD b1) (i := 0) (s := 0) k_fd_56_0_0_3 k_sz_3_1 rfl rfl) ?_
  refine sQ 19 (Y_load1 (B := aD b1) (i := 0) (cs := [vi x.Mask, vi x.Coef]) (v := vi x.Mask) k_sc_3 rfl rfl (hS6.cf (i := 1) rfl) rfl) ?_
  refine sQ 20 (Y_fieldAddr (B := aD b1) (i := 0) (s := 0) k_fd_56_1_1_3 k_sz_3_1 rfl rfl) ?_
  refine sQ 21 (Y_load1 (B := aD b1) (i := 1) (cs := [vi x.Mask, vi x.Coef]) (v := vi x.Coef) k_sc_3 rfl rfl (hS6.cf (i := 1) rfl) rfl) ?_
  refine s0 (Ys_mapPut (kE := (Value.int .i64)) (vE := (Value.int .i64)) (l := out) (a := x.Mask) (b := x.Coef) (g := g1) (i := 0) hS6 (keyInt k_int_3_i64) k_map_93_3_3 rfl rfl rfl rfl rfl rfl) ?_
  rintro _ w_5 ⟨rfl, hS7⟩
  refine rw_nil (cw_region ?_)
  refine sQ 22 (Y_add (k := .i64) (a := (i : Int)) (b := 1) rfl (hf.get 13 3 rfl) rfl) ?_
  refine sQ 13 (Y_move (v := vi (i64.wrap ((i : Int) + 1))) rfl rfl) (rw_nil ?_)
  obtain rfl := some_inj hb
  exact ⟨k_1, Nat.lt_succ_self _, i + 1, (mput out x.Mask x.Coef), (FF.cons (hf.get 3 0 rfl) (FF.cons (hf.get 11 1 rfl) (FF.cons (hf.get 12 2 rfl) (FF.cons (congrArg (Value.int .i64) (wr_succ hlt1 hN)) FF.nil)))), (hS7.sel [0] rfl rfl), (by omega), hL1⟩
 ·skip
  obtain rfl : k_ = 0 := by have h := of_decide_eq_false hlt; omega
  refine cw_exit rfl ?_
  obtain rfl := some_inj hL
  refine cw_seq (cw_region ?_)
  refine sQ 23 (Y_move (v := .map (some g1)) rfl (hf.get 3 0 rfl)) ?_
  refine sQ 2 (Y_assign (v := .map (some g1)) rfl rfl) (rw_nil (cw_ret ?_))
  obtain rfl := some_inj hF1
  exact ret1 Tryd.results60 (v1 := .map (some g1)) (resAt_tmp rfl) ⟨g1, rfl, (hS4.sN [0])⟩

theorem c_impl_polynomial_add (p : List (Int × Int)) (mask : Int) (coef : Int) (g : Nat) (w0 : World)  (hS : ST w0 (bl [⟨(aD g), .mp (mpE (Value.int .i64) (Value.int .i64) p), [], 0⟩]) w0 [⟨(aD g), .mp (mpE (Value.int .i64) (Value.int .i64) p), [], 0⟩] []) {m : List (Int × Int)} (hF : F_impl_polynomial_add p mask coef = some m) :
  CV Tryd.prog 63 #[.map (some g), vi mask, vi coef] w0 (fun v w' => v = .tuple #[] ∧ ST w0 (bl [⟨(aD g), .mp (mpE (Value.int .i64) (Value.int .i64) p), [], 0⟩]) w' [⟨(aD g), .mp (mpE (Value.int .i64) (Value.int .i64) m), [], 0⟩] []) := by
 unfold F_impl_polynomial_add at hF
 refine cv_of_cw 16 Tryd.func63 rfl Tryd.ntmps63 rfl ?_
 refine cw_region ?_
 refine sQ 6 (Y_move (v := .map (some g)) rfl rfl) ?_
 refine sQ 7 (Y_move (v := vi mask) rfl rfl) ?_
 refine sQ 8 (Y_move (v := .map (some g)) rfl rfl) ?_
 refine sQ 9 (Y_move (v := vi mask) rfl rfl) ?_
 refine sQ 10 (Y_mapGet (kE := (Value.int .i64)) (vE := (Value.int .i64)) (l := p) (a := mask) (d := 0) (g := g) (i := 0) hS (keyInt k_int_3_i64) k_map_93_3_3 k_zero_3 rfl rfl rfl rfl) ?_
 refine sQ 11 (Y_move (v := vi coef) rfl rfl) ?_
 refine sQ 12 (Y_add (k := .i64) (a := (mgt p mask 0)) (b := coef) rfl rfl rfl) ?_
 refine sQ 13 (Y_rem (k := .i64) (a := (i64.wrap ((mgt p mask 0) + coef))) (b := 8) rfl rfl rfl (by decide)) ?_
 refine sQ 14 (Y_add (k := .i64) (a := (Int.tmod (i64.wrap ((mgt p mask 0) + coef)) 8)) (b := 8) rfl rfl rfl) ?_
 refine sQ 15 (Y_rem (k := .i64) (a := (i64.wrap ((Int.tmod (i64.wrap ((mgt p mask 0) + coef)) 8) + 8))) (b := 8) rfl rfl rfl (by decide)) ?_
 refine s0 (Ys_mapPut (kE := (Value.int .i64)) (vE := (Value.int .i64)) (l := p) (a := mask) (b := (Int.tmod (i64.wrap ((Int.tmod (i64.wrap ((mgt p mask 0) + coef)) 8) + 8)) 8)) (g := g) (i := 0) hS (keyInt k_int_3_i64) k_map_93_3_3 rfl rfl rfl rfl rfl rfl) ?_
 rintro _ w_ ⟨rfl, hS1⟩
 refine rw_nil ?_
 obtain rfl := some_inj hF
 exact ret0 Tryd.results63  ⟨rfl, (hS1.sN [0])⟩

theorem c_impl_bitsOf (mask : Int)  (w0 : World)  (hS : ST w0 [] w0 [] []) {r_ : List Int} (hF : F_impl_bitsOf mask = some r_) :
  CV Tryd.prog 66 #[vi mask] w0 (fun v w' => ∃ (B : Option Addr) (c : Nat), v = .slice B r_.length c ∧ ST w0 [] w' [⟨B, 3, (r_.flatMap encI), c * 1⟩] []) := by
 unfold F_impl_bitsOf at hF
 refine cv_of_cw 20 Tryd.func66 rfl Tryd.ntmps66 rfl ?_
 refine cw_seq (cw_region ?_)
 refine sQ 2 (Y_assign (v := .slice none 0 0) rfl rfl) (rw_nil (cw_seq (cw_region ?_)))
 refine sS 5 (Ys_bslice0 (s := 1) (e := 3) hS k_sl_60_3 k_sz_3_1 rfl) ?_
 rintro _ w_ ⟨b, rfl, hS1⟩
 refine sQ 3 (Y_assign (v := .slice (aD b) 0 0) rfl rfl) (rw_nil (cw_seq ?_))
 obtain ⟨z, hz, hF1⟩ := bind_inv hF
 refine cw_block ?_
 refine cw_loop (fun k f w => ∃ (mask1 : Int) (out : List Int) (B1 : Option Addr) (c1 : Nat), FF f [(0, vi mask1), (3, .slice B1 out.length c1)] ∧ ST w0 [] w [⟨B1, 3, (out.flatMap encI), c1 * 1⟩] [] ∧ whX F_impl_bitsOf_l1 k (mask1, out) = some z) fuel ⟨mask, [], aD b, 0, (FF.cons rfl (FF.cons rfl FF.nil)), (hS1.sel [0] rfl rfl), hz⟩ ?_
 rintro k_ f w ⟨mask1, out, B1, c1, hf, hS2, hL⟩
 obtain ⟨k_1, y, rfl, hb, hL1⟩ := whX_go hL
 unfold F_impl_bitsOf_l1 at hb
 refine cw_seq (cw_seq (cw_region ?_))
 refine sQ 6 (Y_move (v := vi mask1) rfl (hf.get 0 0 rfl)) ?_
 refine sQ 7 (Y_ne (k := .i64) (a := mask1) (b := 0) rfl rfl rfl) (rw_nil ?_)
 refine cw_cond (b := (mask1 != 0)) rfl (fun hb1 => ?_) (fun hb1 => ?_)
 ·skip
  have hF2 := ct hb hb1
  refine cw_skip (cw_block (cw_seq (cw_region ?_)))
  refine sQ 8 (Y_move (v := vi mask1) rfl (hf.get 0 0 rfl)) ?_
  refine sQ 9 (Y_move (v := vi mask1) rfl (hf.get 0 0 rfl)) ?_
  refine sQ 10 (Y_neg (k := .i64) (a := mask1) rfl rfl) ?_
  refine sQ 11 (Y_band (k := .i64) (a := mask1) (b := (i64.wrap (-mask1))) rfl rfl rfl) ?_
  refine sQ 4 (Y_assign (v := vi (bits .and .i64 mask1 (i64.wrap (-mask1)))) rfl rfl) (rw_nil (cw_seq (cw_region ?_)))
  refine sQ 12 (Y_move (v := .slice B1 out.length c1) rfl (hf.get 3 1 rfl)) ?_
  refine sQ 13 (Y_move (v := vi (bits .and .i64 mask1 (i64.wrap (-mask1)))) rfl rfl) ?_
  refine sS 14 (Ys_bslice (s := 1) (len := 1) (vs := [(0, vi (bits .and .i64 mask1 (i64.wrap (-mask1))))]) (cs := [vi (bits .and .i64 mask1 (i64.wrap (-mask1)))]) (zs := [vi 0]) (m := 1) hS2 k_sl_60_3 k_sz_3_1 k_zc_3 rfl (mpc rfl mpn) rfl rfl rfl (by kernel_rfl) (by kernel_rfl) rfl) ?_
  rintro _ w_1 ⟨b1, rfl, hS3⟩
  obtain ⟨hap, hF2⟩ := chk_inv hF2
  refine sS 15 (Ys_append (s := 1) (by' := 8) (i := 0) (nn := out.length) (c := c1) (k := 1) (len := (out ++ [(bits .and .i64 mask1 (i64.wrap (-mask1)))]).length) (B := B1) (xs := ([(bits .and .i64 mask1 (i64.wrap (-mask1)))].flatMap encI)) (cs' := ((out ++ [(bits .and .i64 mask1 (i64.wrap (-mask1)))]).flatMap encI)) hS3 k_sl_60_3 k_sz_3_1 k_by_3_8 k_zero_3 rfl (by decide) rfl rfl rfl rfl (fm_lenn (l := out) encI_len rfl) rfl (hS3.cf (i := 1) rfl) (fm_lenn (l := [(bits .and .i64 mask1 (i64.wrap (-mask1)))]) encI_len rfl) (fm_one' (enc := encI) encI_one [(bits .and .i64 mask1 (i64.wrap (-mask1)))]) (by have := hap; omega) (by have := hap; simp only [maxLen]; omega) (fm_app _ _) (app_len (l := out) (l' := [(bits .and .i64 mask1 (i64.wrap (-mask1)))]) rfl rfl)) ?_
  rintro _ w_2 ⟨B2, c2, rfl, hS4⟩
  refine sQ 3 (Y_assign (v := .slice B2 ((out ++ [(bits .and .i64 mask1 (i64.wrap (-mask1)))]).length) c2) rfl rfl) (rw_nil (cw_region ?_))
  refine sQ 16 (Y_move (v := vi mask1) rfl (hf.get 0 0 rfl)) ?_
  refine sQ 17 (Y_move (v := vi (bits .and .i64 mask1 (i64.wrap (-mask1)))) rfl rfl) ?_
  refine sQ 18 (Y_bxor (k := .i64) (a := mask1) (b := (bits .and .i64 mask1 (i64.wrap (-mask1)))) rfl rfl rfl) ?_
  refine sQ 0 (Y_assign (v := vi (bits .xor .i64 mask1 (bits .and .i64 mask1 (i64.wrap (-mask1))))) rfl rfl) (rw_nil ?_)
  obtain rfl := some_inj hF2
  exact ⟨k_1, Nat.lt_succ_self _, (bits .xor .i64 mask1 (bits .and .i64 mask1 (i64.wrap (-mask1)))), (out ++ [(bits .and .i64 mask1 (i64.wrap (-mask1)))]), B2, c2, (FF.cons rfl (FF.cons rfl FF.nil)), (hS4.sel [0] rfl rfl), hL1⟩
 ·skip
  have hF3 := cf' hb hb1
  refine cw_exit rfl ?_
  obtain rfl := some_inj hF3
  obtain rfl := some_inj hL1
  refine cw_seq (cw_region ?_)
  refine sQ 19 (Y_move (v := .slice B1 out.length c1) rfl (hf.get 3 1 rfl)) ?_
  refine sQ 2 (Y_assign (v := .slice B1 out.length c1) rfl rfl) (rw_nil (cw_ret ?_))
  obtain rfl := some_inj hF1
  exact ret1 Tryd.results66 (v1 := .slice B1 out.length c1) (resAt_tmp rfl) ⟨B1, c1, rfl, (hS2.sN [0])⟩

theorem c_impl_polynomial_expand (p : List (Int × Int)) (coef : Int) (a : TAffine) (rest_ : Int) (g : Nat) (w0 : World)  (hS : ST w0 (bl [⟨(aD g), .mp (mpE (Value.int .i64) (Value.int .i64) p), [], 0⟩]) w0 [⟨(aD g), .mp (mpE (Value.int .i64) (Value.int .i64) p), [], 0⟩] []) {m : List (Int × Int)} (hF : F_impl_polynomial_expand p coef a rest_ = some m) :
  CV Tryd.prog 61 #[.map (some g), vi coef, .agg #[vi a.Mask, vi a.Turn], vi rest_] w0 (fun v w' => v = .tuple #[] ∧ ST w0 (bl [⟨(aD g), .mp (mpE (Value.int .i64) (Value.int .i64) p), [], 0⟩]) w' [⟨(aD g), .mp (mpE (Value.int .i64) (Value.int .i64) m), [], 0⟩] []) := by
 unfold F_impl_polynomial_expand at hF
 refine cv_of_cw 80 Tryd.func61 rfl Tryd.ntmps61 rfl ?_
 refine cw_seq (cw_region ?_)
 refine sS 6 (Ys_box (T := 44) (v := .agg #[vi a.Mask, vi a.Turn]) (cs := [vi a.Mask, vi a.Turn]) (m := 2) hS rfl rfl rfl rfl) ?_
 rintro _ w_ ⟨b, rfl, hS1⟩
 refine rw_nil (cw_seq ?_)
 obtain ⟨z, hz, hF1⟩ := bind_inv hF
 refine cw_mid (fun f w => ∃ (m1 : List (Int × Int)) (coef1 : Int), (m1, coef1) = z ∧ FF f [(0, .map (some g)), (1, vi coef1), (3, vi rest_), (6, pt (aD b) 0)] ∧ ST w0 (bl [⟨(aD g), .mp (mpE (Value.int .i64) (Value.int .i64) p), [], 0⟩]) w [⟨(aD g), .mp (mpE (Value.int .i64) (Value.int .i64) m1), [], 0⟩, ⟨aD b, 44, [vi a.Mask, vi a.Turn], 2⟩] []) ?_ ?_
 ·skip
  refine cw_seq (cw_region ?_)
  refine sQ 15 (Y_fieldAddr (B := aD b) (i := 0) (s := 0) k_fd_44_1_1_3 k_sz_3_1 rfl rfl) ?_
  refine sQ 16 (Y_load1 (B := aD b) (i := 1) (cs := [vi a.Mask, vi a.Turn]) (v := vi a.Turn) k_sc_3 rfl rfl (hS1.cf (i := 1) rfl) rfl) ?_
  refine sQ 17 (Y_eq (k := .i64) (a := a.Turn) (b := 1) rfl rfl rfl) (rw_nil ?_)
  refine cw_cond (b := (a.Turn == 1)) rfl (fun hb => ?_) (fun hb => ?_)
  ·skip
   have hF2 := ct hz hb
   refine cw_seq (cw_region ?_)
   refine sQ 18 (Y_move (v := .map (some g)) rfl rfl) ?_
   refine sQ 19 (Y_move (v := vi rest_) rfl rfl) ?_
   refine sQ 20 (Y_move (v := vi coef) rfl rfl) ?_
   obtain ⟨m2, hc, hF2⟩ := bind_inv hF2
   refine sc 21 rfl rfl (Yc_func (g := 63) (vs := [.map (some g), vi rest_, vi coef]) k_call_63 rfl (mc rfl (mc rfl (mc rfl mn))) (c_impl_polynomial_add p rest_ coef g _  (hS1.inn [true, false] rfl [] rfl) hc)) ?_
   rintro _ w_1 ⟨rfl, hd⟩
   have hS3 := hS1.out [true, false] rfl hd
   refine rw_nil (cw_region ?_)
   refine sQ 22 (Y_move (v := vi coef) rfl rfl) ?_
   refine sQ 23 (Y_neg (k := .i64) (a := coef) rfl rfl) ?_
   refine sQ 1 (Y_assign (v := vi (i64.wrap (-coef))) rfl rfl) (rw_nil ?_)
   exact ⟨m2, (i64.wrap (-coef)), (some_inj hF2), (FF.cons rfl (FF.cons rfl (FF.cons rfl (FF.cons rfl FF.nil)))), (hS3.sel [1, 0] rfl rfl)⟩
  ·skip
   have hF3 := cf' hz hb
   refine cw_skip ?_
   exact ⟨p, coef, (some_inj hF3), (FF.cons rfl (FF.cons rfl (FF.cons rfl (FF.cons rfl FF.nil)))), (hS1.sel [0, 1] rfl rfl)⟩
 rintro f w ⟨m1, coef1, rfl, hf, hS2⟩
 refine cw_seq (cw_region ?_)
 refine sQ 24 (Y_fieldAddr (B := aD b) (i := 0) (s := 0) k_fd_44_0_0_3 k_sz_3_1 rfl (hf.get 6 3 rfl)) ?_
 refine sQ 25 (Y_load1 (B := aD b) (i := 0) (cs := [vi a.Mask, vi a.Turn]) (v := vi a.Mask) k_sc_3 rfl rfl (hS2.cf (i := 1) rfl) rfl) ?_
 obtain ⟨r_, hc1, hF1⟩ := bind_inv hF1
 refine sc 26 rfl rfl (Yc_func (g := 66) (vs := [vi a.Mask]) k_call_66 rfl (mc rfl mn) (c_impl_bitsOf a.Mask _  (hS2.inn0 [] rfl) hc1)) ?_
 rintro _ w_2 ⟨B, c, rfl, hd1⟩
 have hS4 := hS2.out0 hd1
 refine sQ 8 (Y_assign (v := .slice B r_.length c) rfl rfl) (rw_nil (cw_seq (cw_region ?_)))
 refine sQ 27 (Y_move (v := .slice B r_.length c) rfl rfl) ?_
 refine sQ 28 (Y_len (B := B) (m := r_.length) (c := c) k_sl_60_3 rfl rfl) ?_
 refine sQ 29 (Y_move (v := vi 0) rfl rfl) (rw_nil ?_)
 obtain ⟨hN, hF1⟩ := chk_inv hF1
 obtain ⟨z1, hz1, hF4⟩ := bind_inv hF1
 have ho1 : Org w0 (bl [⟨(aD g), .mp (mpE (Value.int .i64) (Value.int .i64) p), [], 0⟩]) [] [⟨B, (r_.flatMap encI)⟩] := ST.orgOwn hS4 (i := 2) rfl
 have hcap : r_.length ≤ c := (hS4.lencap (i := 2) rfl (fm_lenn (l := r_) encI_len rfl) rfl rfl)
 have hS6 : ST w0 (bl [⟨(aD g), .mp (mpE (Value.int .i64) (Value.int .i64) p), [], 0⟩]) _ [⟨(aD g), .mp (mpE (Value.int .i64) (Value.int .i64) m1), [], 0⟩, ⟨aD b, 44, [vi a.Mask, vi a.Turn], 2⟩] [⟨B, (r_.flatMap encI)⟩] := hS4.freeze (i := 2) rfl
 refine cw_block ?_
 refine cw_loop (fun k f w => ∃ (i : Nat) (m3 : List (Int × Int)), FF f [(0, .map (some g)), (1, vi coef1), (3, vi rest_), (8, .slice B r_.length c), (27, .slice B r_.length c), (28, vi (r_.length : Int)), (29, vi (i : Int))] ∧ Org w0 (bl [⟨(aD g), .mp (mpE (Value.int .i64) (Value.int .i64) p), [], 0⟩]) [] [⟨B, (r_.flatMap encI)⟩] ∧ r_.length ≤ c ∧ ST w0 (bl [⟨(aD g), .mp (mpE (Value.int .i64) (Value.int .i64) p), [], 0⟩]) w [⟨(aD g), .mp (mpE (Value.int .i64) (Value.int .i64) m3), [], 0⟩] [⟨B, (r_.flatMap encI)⟩] ∧ i + k = r_.length ∧ forN (F_impl_polynomial_expand_l1 r_ rest_ coef1) k i m3 = some z1) r_.length ⟨0, m1, (FF.cons (hf.get 0 0 rfl) (FF.cons (hf.get 1 1 rfl) (FF.cons (hf.get 3 2 rfl) (FF.cons rfl (FF.cons rfl (FF.cons rfl (FF.cons rfl FF.nil))))))), ho1, (len_le rfl hcap), (hS6.sel [0] rfl rfl), Nat.zero_add _, hz1⟩ ?_
 rintro k_ f w ⟨i, m3, hf1, ho, hq, hS5, hik, hL⟩
 refine cw_seq (cw_region ?_)
 refine sQ 30 (Y_lt (k := .i64) (a := (i : Int)) (b := (r_.length : Int)) rfl (hf1.get 29 6 rfl) (hf1.get 28 5 rfl)) (rw_nil (cw_seq ?_))
 refine cw_cond (b := (decide ((i : Int) < (r_.length : Int)))) rfl (fun hlt => ?_) (fun hlt => ?_)
 ·skip
  have hlt1 : i < r_.length := by have h := of_decide_eq_true hlt; omega
  obtain ⟨k_1, rfl⟩ : ∃ k2, k_ = k2 + 1 := ⟨k_ - 1, by omega⟩
  obtain ⟨y, hb1, hL1⟩ := forN_go hL
  unfold F_impl_polynomial_expand_l1 at hb1
  refine cw_skip (cw_seq (cw_block (cw_seq (cw_region ?_))))
  refine sQ 31 (Y_move (v := vi (i : Int)) rfl (hf1.get 29 6 rfl)) ?_
  obtain ⟨x, hx, hb1⟩ := bind_inv hb1
  refine sQ 32 (Y_index (B := B) (m := r_.length) (c := c) (k := .i64) (i := (i : Int)) k_sl_60_3 k_sz_3_1 rfl (hf1.get 27 4 rfl) (hf1.get 29 6 rfl) (gi_isSome encI_len rfl (hS5.rf (i := 0) rfl) hx) (getI_nn hx) (getI_ltI hx rfl)) ?_
  refine sQ 33 (Y_load1 (B := B) (i := (i : Int).toNat * 1) (cs := (r_.flatMap encI)) (v := vi x) k_sc_3 rfl rfl (hS5.rf (i := 0) rfl) (gi_at0 encI_len hx rfl)) ?_
  refine sQ 9 (Y_assign (v := vi (i : Int)) rfl rfl) ?_
  refine sQ 10 (Y_assign (v := vi x) rfl rfl) (rw_nil (cw_seq (cw_region ?_)))
  refine sQ 34 (Y_move (v := .map (some g)) rfl (hf1.get 0 0 rfl)) ?_
  refine sQ 35 (Y_move (v := vi rest_) rfl (hf1.get 3 2 rfl)) ?_
  refine sQ 36 (Y_move (v := vi x) rfl rfl) ?_
  refine sQ 37 (Y_bor (k := .i64) (a := rest_) (b := x) rfl rfl rfl) ?_
  refine sQ 38 (Y_move (v := vi coef1) rfl (hf1.get 1 1 rfl)) ?_
  obtain ⟨m4, hc2, hb1⟩ := bind_inv hb1
  refine sc 39 rfl rfl (Yc_func (g := 63) (vs := [.map (some g), vi (bits .or .i64 rest_ x), vi coef1]) k_call_63 rfl (mc rfl (mc rfl (mc rfl mn))) (c_impl_polynomial_add m3 (bits .or .i64 rest_ x) coef1 g _  (hS5.inn [true] rfl [] rfl) hc2)) ?_
  rintro _ w_3 ⟨rfl, hd2⟩
  have hS7 := hS5.out [true] rfl hd2
  refine rw_nil (cw_seq (cw_region ?_))
  refine sQ 40 (Y_move (v := .slice B r_.length c) rfl (hf1.get 8 3 rfl)) ?_
  refine sQ 41 (Y_move (v := vi (i : Int)) rfl rfl) ?_
  obtain ⟨hsl, hb1⟩ := chk_inv hb1
  have hcap1 : r_.length ≤ c := hq
  have hv : (List.take i r_).length = i := (take_len rfl (by omega))
  have hq1 : i ≤ c := by omega
  have ho2 : Org w0 (bl [⟨(aD g), .mp (mpE (Value.int .i64) (Value.int .i64) p), [], 0⟩]) [] [⟨B, ((List.take i r_).flatMap encI)⟩] := org_view encI_len (q := c) ho (sv_zero _ _ _).symm rfl
  have hS8 : ST w0 (bl [⟨(aD g), .mp (mpE (Value.int .i64) (Value.int .i64) p), [], 0⟩]) _ [⟨(aD g), .mp (mpE (Value.int .i64) (Value.int .i64) m4), [], 0⟩] [⟨B, ((List.take i r_).flatMap encI)⟩, ⟨B, (r_.flatMap encI)⟩] := ST.view encI_len hS7 (i := 0) rfl (lo := 0) (h := i) (q := c) (by omega) (by omega) (sv_zero _ _ _).symm rfl
  refine sQ 42 (Y_slice0 (B := B) (m := r_.length) (c := c) (h := i) (s := 1) k_sl_60_3 k_sz_3_1 rfl rfl (bnd_some rfl rfl) (by omega)) ?_
  refine sQ 43 (Y_len (B := B) (m := i) (c := c) k_sl_60_3 rfl rfl) ?_
  refine sQ 44 (Y_move (v := vi 0) rfl rfl) (rw_nil ?_)
  obtain ⟨hN1, hb1⟩ := chk_inv hb1
  obtain ⟨z2, hz2, hF5⟩ := bind_inv hb1
  refine cw_block ?_
  refine cw_loop (fun k f w => ∃ (i1 : Nat) (m5 : List (Int × Int)), FF f [(0, .map (some g)), (1, vi coef1), (3, vi rest_), (8, .slice B r_.length c), (10, vi x), (27, .slice B r_.length c), (28, vi (r_.length : Int)), (29, vi (i : Int)), (42, .slice B i c), (43, vi (i : Int)), (44, vi (i1 : Int))] ∧ ST w0 (bl [⟨(aD g), .mp (mpE (Value.int .i64) (Value.int .i64) p), [], 0⟩]) w [⟨(aD g), .mp (mpE (Value.int .i64) (Value.int .i64) m5), [], 0⟩] [⟨B, ((List.take i r_).flatMap encI)⟩, ⟨B, (r_.flatMap encI)⟩] ∧ i1 + k = i ∧ forN (F_impl_polynomial_expand_l2 i r_ rest_ x coef1) k i1 m5 = some z2) i ⟨0, m4, (FF.cons (hf1.get 0 0 rfl) (FF.cons (hf1.get 1 1 rfl) (FF.cons (hf1.get 3 2 rfl) (FF.cons (hf1.get 8 3 rfl) (FF.cons rfl (FF.cons (hf1.get 27 4 rfl) (FF.cons (hf1.get 28 5 rfl) (FF.cons (hf1.get 29 6 rfl) (FF.cons rfl (FF.cons rfl (FF.cons rfl FF.nil))))))))))), (hS8.sel [0] rfl rfl), Nat.zero_add _, hz2⟩ ?_
  rintro k_2 f w ⟨i1, m5, hf2, hS9, hik1, hL2⟩
  refine cw_seq (cw_region ?_)
  refine sQ 45 (Y_lt (k := .i64) (a := (i1 : Int)) (b := (i : Int)) rfl (hf2.get 44 10 rfl) (hf2.get 43 9 rfl)) (rw_nil (cw_seq ?_))
  refine cw_cond (b := (decide ((i1 : Int) < (i : Int)))) rfl (fun hlt2 => ?_) (fun hlt2 => ?_)
  ·skip
   have hlt3 : i1 < i := by have h := of_decide_eq_true hlt2; omega
   obtain ⟨k_3, rfl⟩ : ∃ k2, k_2 = k2 + 1 := ⟨k_2 - 1, by omega⟩
   obtain ⟨y1, hb2, hL3⟩ := forN_go hL2
   unfold F_impl_polynomial_expand_l2 at hb2
   refine cw_skip (cw_seq (cw_block (cw_seq (cw_region ?_))))
   refine sQ 46 (Y_move (v := vi (i1 : Int)) rfl (hf2.get 44 10 rfl)) ?_
   obtain ⟨x1, hx1, hb2⟩ := bind_inv hb2
   refine sQ 47 (Y_index (B := B) (m := i) (c := c) (k := .i64) (i := (i1 : Int)) k_sl_60_3 k_sz_3_1 rfl (hf2.get 42 8 rfl) (hf2.get 44 10 rfl) (gi_isSome encI_len rfl (hS9.rf (i := 0) rfl) hx1) (getI_nn hx1) (getI_ltI hx1 hv)) ?_
   refine sQ 48 (Y_load1 (B := B) (i := (i1 : Int).toNat * 1) (cs := ((List.take i r_).flatMap encI)) (v := vi x1) k_sc_3 rfl rfl (hS9.rf (i := 0) rfl) (gi_at0 encI_len hx1 rfl)) ?_
   refine sQ 11 (Y_assign (v := vi (i1 : Int)) rfl rfl) ?_
   refine sQ 12 (Y_assign (v := vi x1) rfl rfl) (rw_nil (cw_seq (cw_region ?_)))
   refine sQ 49 (Y_move (v := .map (some g)) rfl (hf2.get 0 0 rfl)) ?_
   refine sQ 50 (Y_move (v := vi rest_) rfl (hf2.get 3 2 rfl)) ?_
   refine sQ 51 (Y_move (v := vi x) rfl (hf2.get 10 4 rfl)) ?_
   refine sQ 52 (Y_bor (k := .i64) (a := rest_) (b := x) rfl rfl rfl) ?_
   refine sQ 53 (Y_move (v := vi x1) rfl rfl) ?_
   refine sQ 54 (Y_bor (k := .i64) (a := (bits .or .i64 rest_ x)) (b := x1) rfl rfl rfl) ?_
   refine sQ 55 (Y_move (v := vi coef1) rfl (hf2.get 1 1 rfl)) ?_
   refine sQ 56 (Y_mul (k := .i64) (a := (-2)) (b := coef1) rfl rfl rfl) ?_
   obtain ⟨m6, hc3, hb2⟩ := bind_inv hb2
   refine sc 57 rfl rfl (Yc_func (g := 63) (vs := [.map (some g), vi (bits .or .i64 (bits .or .i64 rest_ x) x1), vi (i64.wrap ((-2) * coef1))]) k_call_63 rfl (mc rfl (mc rfl (mc rfl mn))) (c_impl_polynomial_add m5 (bits .or .i64 (bits .or .i64 rest_ x) x1) (i64.wrap ((-2) * coef1)) g _  (hS9.inn [true] rfl [] rfl) hc3)) ?_
   rintro _ w_4 ⟨rfl, hd3⟩
   have hS10 := hS9.out [true] rfl hd3
   refine rw_nil (cw_seq (cw_region ?_))
   refine sQ 58 (Y_move (v := .slice B r_.length c) rfl (hf2.get 8 3 rfl)) ?_
   refine sQ 59 (Y_move (v := vi (i1 : Int)) rfl rfl) ?_
   obtain ⟨hsl1, hb2⟩ := chk_inv hb2
   have hcap2 : r_.length ≤ c := hq
   have hv1 : (List.take i1 r_).length = i1 := (take_len rfl (by omega))
   have hq2 : i1 ≤ c := by omega
   have ho3 : Org w0 (bl [⟨(aD g), .mp (mpE (Value.int .i64) (Value.int .i64) p), [], 0⟩]) [] [⟨B, ((List.take i1 r_).flatMap encI)⟩] := org_view encI_len (q := c) ho (sv_zero _ _ _).symm rfl
   have hS11 : ST w0 (bl [⟨(aD g), .mp (mpE (Value.int .i64) (Value.int .i64) p), [], 0⟩]) _ [⟨(aD g), .mp (mpE (Value.int .i64) (Value.int .i64) m6), [], 0⟩] [⟨B, ((List.take i1 r_).flatMap encI)⟩, ⟨B, ((List.take i r_).flatMap encI)⟩, ⟨B, (r_.flatMap encI)⟩] := ST.view encI_len hS10 (i := 1) rfl (lo := 0) (h := i1) (q := c) (by omega) (by omega) (sv_zero _ _ _).symm rfl
   refine sQ 60 (Y_slice0 (B := B) (m := r_.length) (c := c) (h := i1) (s := 1) k_sl_60_3 k_sz_3_1 rfl rfl (bnd_some rfl rfl) (by omega)) ?_
   refine sQ 61 (Y_len (B := B) (m := i1) (c := c) k_sl_60_3 rfl rfl) ?_
   refine sQ 62 (Y_move (v := vi 0) rfl rfl) (rw_nil ?_)
   obtain ⟨hN2, hb2⟩ := chk_inv hb2
   obtain ⟨z3, hz3, hF6⟩ := bind_inv hb2
   refine cw_block ?_
   refine cw_loop (fun k f w => ∃ (i2 : Nat) (m7 : List (Int × Int)), FF f [(0, .map (some g)), (1, vi coef1), (3, vi rest_), (8, .slice B r_.length c), (10, vi x), (12, vi x1), (27, .slice B r_.length c), (28, vi (r_.length : Int)), (29, vi (i : Int)), (42, .slice B i c), (43, vi (i : Int)), (44, vi (i1 : Int)), (60, .slice B i1 c), (61, vi (i1 : Int)), (62, vi (i2 : Int))] ∧ ST w0 (bl [⟨(aD g), .mp (mpE (Value.int .i64) (Value.int .i64) p), [], 0⟩]) w [⟨(aD g), .mp (mpE (Value.int .i64) (Value.int .i64) m7), [], 0⟩] [⟨B, ((List.take i1 r_).flatMap encI)⟩, ⟨B, ((List.take i r_).flatMap encI)⟩, ⟨B, (r_.flatMap encI)⟩] ∧ i2 + k = i1 ∧ forN (F_impl_polynomial_expand_l3 i1 r_ rest_ x x1 coef1) k i2 m7 = some z3) i1 ⟨0, m6, (FF.cons (hf2.get 0 0 rfl) (FF.cons (hf2.get 1 1 rfl) (FF.cons (hf2.get 3 2 rfl) (FF.cons (hf2.get 8 3 rfl) (FF.cons (hf2.get 10 4 rfl) (FF.cons rfl (FF.cons (hf2.get 27 5 rfl) (FF.cons (hf2.get 28 6 rfl) (FF.cons (hf2.get 29 7 rfl) (FF.cons (hf2.get 42 8 rfl) (FF.cons (hf2.get 43 9 rfl) (FF.cons (hf2.get 44 10 rfl) (FF.cons rfl (FF.cons rfl (FF.cons rfl FF.nil))))))))))))))), (hS11.sel [0] rfl rfl), Nat.zero_add _, hz3⟩ ?_
   rintro k_4 f w ⟨i2, m7, hf3, hS12, hik2, hL4⟩
   refine cw_seq (cw_region ?_)
   refine sQ 63 (Y_lt (k := .i64) (a := (i2 : Int)) (b := (i1 : Int)) rfl (hf3.get 62 14 rfl) (hf3.get 61 13 rfl)) (rw_nil (cw_seq ?_))
   refine cw_cond (b := (decide ((i2 : Int) < (i1 : Int)))) rfl (fun hlt4 => ?_) (fun hlt4 => ?_)
   ·skip
    have hlt5 : i2 < i1 := by have h := of_decide_eq_true hlt4; omega
    obtain ⟨k_5, rfl⟩ : ∃ k2, k_4 = k2 + 1 := ⟨k_4 - 1, by omega⟩
    obtain ⟨y2, hb3, hL5⟩ := forN_go hL4
    unfold F_impl_polynomial_expand_l3 at hb3
    refine cw_skip (cw_seq (cw_block (cw_seq (cw_region ?_))))
    obtain ⟨x2, hx2, hb3⟩ := bind_inv hb3
    refine sQ 64 (Y_index (B := B) (m := i1) (c := c) (k := .i64) (i := (i2 : Int)) k_sl_60_3 k_sz_3_1 rfl (hf3.get 60 12 rfl) (hf3.get 62 14 rfl) (gi_isSome encI_len rfl (hS12.rf (i := 0) rfl) hx2) (getI_nn hx2) (getI_ltI hx2 hv1)) ?_
    refine sQ 65 (Y_load1 (B := B) (i := (i2 : Int).toNat * 1) (cs := ((List.take i1 r_).flatMap encI)) (v := vi x2) k_sc_3 rfl rfl (hS12.rf (i := 0) rfl) (gi_at0 encI_len hx2 rfl)) ?_
    refine sQ 14 (Y_assign (v := vi x2) rfl rfl) (rw_nil (cw_region ?_))
    refine sQ 66 (Y_move (v := .map (some g)) rfl (hf3.get 0 0 rfl)) ?_
    refine sQ 67 (Y_move (v := vi rest_) rfl (hf3.get 3 2 rfl)) ?_
    refine sQ 68 (Y_move (v := vi x) rfl (hf3.get 10 4 rfl)) ?_
    refine sQ 69 (Y_bor (k := .i64) (a := rest_) (b := x) rfl rfl rfl) ?_
    refine sQ 70 (Y_move (v := vi x1) rfl (hf3.get 12 5 rfl)) ?_
    refine sQ 71 (Y_bor (k := .i64) (a := (bits .or .i64 rest_ x)) (b := x1) rfl rfl rfl) ?_
    refine sQ 72 (Y_move (v := vi x2) rfl rfl) ?_
    refine sQ 73 (Y_bor (k := .i64) (a := (bits .or .i64 (bits .or .i64 rest_ x) x1)) (b := x2) rfl rfl rfl) ?_
    refine sQ 74 (Y_move (v := vi coef1) rfl (hf3.get 1 1 rfl)) ?_
    refine sQ 75 (Y_mul (k := .i64) (a := 4) (b := coef1) rfl rfl rfl) ?_
    obtain ⟨m8, hc4, hb3⟩ := bind_inv hb3
    refine sc 76 rfl rfl (Yc_func (g := 63) (vs := [.map (some g), vi (bits .or .i64 (bits .or .i64 (bits .or .i64 rest_ x) x1) x2), vi (i64.wrap (4 * coef1))]) k_call_63 rfl (mc rfl (mc rfl (mc rfl mn))) (c_impl_polynomial_add m7 (bits .or .i64 (bits .or .i64 (bits .or .i64 rest_ x) x1) x2) (i64.wrap (4 * coef1)) g _  (hS12.inn [true] rfl [] rfl) hc4)) ?_
    rintro _ w_5 ⟨rfl, hd4⟩
    have hS13 := hS12.out [true] rfl hd4
    refine rw_nil (cw_region ?_)
    refine sQ 77 (Y_add (k := .i64) (a := (i2 : Int)) (b := 1) rfl (hf3.get 62 14 rfl) rfl) ?_
    refine sQ 62 (Y_move (v := vi (i64.wrap ((i2 : Int) + 1))) rfl rfl) (rw_nil ?_)
    obtain rfl := some_inj hb3
    exact ⟨k_5, Nat.lt_succ_self _, i2 + 1, m8, (FF.cons (hf3.get 0 0 rfl) (FF.cons (hf3.get 1 1 rfl) (FF.cons (hf3.get 3 2 rfl) (FF.cons (hf3.get 8 3 rfl) (FF.cons (hf3.get 10 4 rfl) (FF.cons (hf3.get 12 5 rfl) (FF.cons (hf3.get 27 6 rfl) (FF.cons (hf3.get 28 7 rfl) (FF.cons (hf3.get 29 8 rfl) (FF.cons (hf3.get 42 9 rfl) (FF.cons (hf3.get 43 10 rfl) (FF.cons (hf3.get 44 11 rfl) (FF.cons (hf3.get 60 12 rfl) (FF.cons (hf3.get 61 13 rfl) (FF.cons (congrArg (Value.int .i64) (wr_succ hlt5 hN2)) FF.nil))))))))))))))), (hS13.sel [0] rfl rfl), (by omega), hL5⟩
   ·skip
    obtain rfl : k_4 = 0 := by have h := of_decide_eq_false hlt4; omega
    refine cw_exit rfl ?_
    obtain rfl := some_inj hL4
    refine cw_region ?_
    refine sQ 78 (Y_add (k := .i64) (a := (i1 : Int)) (b := 1) rfl (hf3.get 44 11 rfl) rfl) ?_
    refine sQ 44 (Y_move (v := vi (i64.wrap ((i1 : Int) + 1))) rfl rfl) (rw_nil ?_)
    obtain rfl := some_inj hF6
    have hS14 : ST w0 (bl [⟨(aD g), .mp (mpE (Value.int .i64) (Value.int .i64) p), [], 0⟩]) _ [⟨(aD g), .mp (mpE (Value.int .i64) (Value.int .i64) m7), [], 0⟩] [⟨B, ((List.take i r_).flatMap encI)⟩, ⟨B, (r_.flatMap encI)⟩] := ST.subR hS12 (subc (mem_at (i := 1) rfl) (subc (mem_at (i := 2) rfl) (fun _ h => by cases h)))
    exact ⟨k_3, Nat.lt_succ_self _, i1 + 1, m7, (FF.cons (hf3.get 0 0 rfl) (FF.cons (hf3.get 1 1 rfl) (FF.cons (hf3.get 3 2 rfl) (FF.cons (hf3.get 8 3 rfl) (FF.cons (hf3.get 10 4 rfl) (FF.cons (hf3.get 27 6 rfl) (FF.cons (hf3.get 28 7 rfl) (FF.cons (hf3.get 29 8 rfl) (FF.cons (hf3.get 42 9 rfl) (FF.cons (hf3.get 43 10 rfl) (FF.cons (congrArg (Value.int .i64) (wr_succ hlt3 hN1)) FF.nil))))))))))), (hS14.sel [0] rfl rfl), (by omega), hL3⟩
  ·skip
   obtain rfl : k_2 = 0 := by have h := of_decide_eq_false hlt2; omega
   refine cw_exit rfl ?_
   obtain rfl := some_inj hL2
   refine cw_region ?_
   refine sQ 79 (Y_add (k := .i64) (a := (i : Int)) (b := 1) rfl (hf2.get 29 7 rfl) rfl) ?_
   refine sQ 29 (Y_move (v := vi (i64.wrap ((i : Int) + 1))) rfl rfl) (rw_nil ?_)
   obtain rfl := some_inj hF5
   have hS15 : ST w0 (bl [⟨(aD g), .mp (mpE (Value.int .i64) (Value.int .i64) p), [], 0⟩]) _ [⟨(aD g), .mp (mpE (Value.int .i64) (Value.int .i64) m5), [], 0⟩] [⟨B, (r_.flatMap encI)⟩] := ST.subR hS9 (subc (mem_at (i := 1) rfl) (fun _ h => by cases h))
   exact ⟨k_1, Nat.lt_succ_self _, i + 1, m5, (FF.cons (hf2.get 0 0 rfl) (FF.cons (hf2.get 1 1 rfl) (FF.cons (hf2.get 3 2 rfl) (FF.cons (hf2.get 8 3 rfl) (FF.cons (hf2.get 27 5 rfl) (FF.cons (hf2.get 28 6 rfl) (FF.cons (congrArg (Value.int .i64) (wr_succ hlt1 hN)) FF.nil))))))), ho, (len_le rfl hq), (hS15.sel [0] rfl rfl), (by omega), hL1⟩
 ·skip
  obtain rfl : k_ = 0 := by have h := of_decide_eq_false hlt; omega
  refine cw_exit rfl ?_
  obtain rfl := some_inj hL
  obtain rfl := some_inj hF4
  exact ret0 Tryd.results61  ⟨rfl, (hS5.sN [0])⟩

def tmO (dl : List MapEntry) : List TTerm := dl.filterMap fun e => tmF (enK e, enV e)
theorem tmO_snoc (dl : List MapEntry) (e : MapEntry) : tmO (dl ++ [e]) = if 0 < enK e ∧ 0 < enV e then tmO dl ++ [⟨enK e, enV e⟩] else tmO dl := by
 unfold tmO
 rw [List.filterMap_append]
 by_cases h : 0 < enK e ∧ 0 < enV e
 ·rw [if_pos h]
  simp [tmF, h]
 ·rw [if_neg h]
  simp [tmF, h]
theorem tmO_es {es : Array MapEntry} {ck : Nat} {p : List (Int × Int)} (hM : MapIs es ck (mpE (Value.int .i64) (Value.int .i64) p)) : tmO es.toList = p.filterMap tmF := by
 rw [← ent_list hM, List.filterMap_map]; rfl
theorem tmF_key {p : List (Int × Int)} (h : p.Pairwise fun a b => a.1 ≠ b.1) : (p.filterMap tmF).Pairwise fun a b => a.Mask ≠ b.Mask := by
 rw [List.pairwise_filterMap]
 refine h.imp fun {a b} hab x hx y hy => ?_
 unfold tmF at hx hy
 split at hx <;> split at hy
 ·cases hx; cases hy; exact hab
 ·cases hy
 ·cases hx
 ·cases hx
set_option maxHeartbeats 1000000 in
theorem cl_terms (x y : TTerm) (W : World) : Calls Tryd.prog 68 #[.agg (eN0 x).toArray, .agg (eN0 y).toArray] W fun e w' => e = .returned (vi (i64.wrap (x.Mask - y.Mask))) ∧ ∃ q os', w' = Go.Sort.grow (W.drewN q) os' := by
 show Calls Tryd.prog 68 #[.agg #[vi x.Mask, vi x.Coef], .agg #[vi y.Mask, vi y.Coef]] W _
 go_enter Tryd.func68, Tryd.ntmps68
 go_wp2
 go_ret
 rw [show i64.wrap (x.Mask - y.Mask) = RowKit.wrap64 (x.Mask - y.Mask) from by rw [IntKind.wrap_i64]; unfold RowKit.wrap64; rfl]
 exact ⟨rfl, 0, _, by rw [Go.Sort.alloc_eq_grow, Go.Sort.alloc_eq_grow, Go.Sort.grow_grow]; rfl⟩
theorem c_impl_polynomial_terms (p : List (Int × Int)) (g : Nat) (w0 : World)  (hS : ST w0 (bl [⟨(aD g), .mp (mpE (Value.int .i64) (Value.int .i64) p), [], 0⟩]) w0 [⟨(aD g), .mp (mpE (Value.int .i64) (Value.int .i64) p), [], 0⟩] []) {r_ : List TTerm} (hF : F_impl_polynomial_terms p = some r_) :
  CV Tryd.prog 62 #[.map (some g)] w0 (fun v w' => ∃ (B : Option Addr) (c : Nat), v = .slice B r_.length c ∧ ST w0 (bl [⟨(aD g), .mp (mpE (Value.int .i64) (Value.int .i64) p), [], 0⟩]) w' [⟨(aD g), .mp (mpE (Value.int .i64) (Value.int .i64) p), [], 0⟩, ⟨B, 56, (r_.flatMap eN0), c * 2⟩] []) := by
 unfold F_impl_polynomial_terms at hF
 obtain ⟨⟨hlen, hrng⟩, hF⟩ := chk_inv hF
 obtain rfl := some_inj hF
 refine cv_of_cw 29 Tryd.func62 rfl Tryd.ntmps62 rfl ?_
 refine cw_seq (cw_region ?_)
 refine sQ 2 (Y_assign (v := .slice none 0 0) rfl rfl) (rw_nil (cw_seq (cw_region ?_)))
 refine sS 6 (Ys_bslice0 (s := 2) (e := 56) hS k_sl_27_56 k_sz_56_2 rfl) ?_
 rintro _ w_ ⟨b, rfl, hS1⟩
 refine sQ 3 (Y_assign (v := .slice (aD b) 0 0) rfl rfl) (rw_nil (cw_seq (cw_seq (cw_region ?_))))
 refine sQ 7 (Y_move (v := .map (some g)) rfl rfl) ?_
 refine sS 8 (Ys_range (g := g) (i := 0) (lv := mpE (Value.int .i64) (Value.int .i64) p) hS1 k_map_93_3_3 rfl rfl rfl) ?_
 rintro _ w_1 ⟨r, es, ck, rfl, hM, hS2⟩
 refine rw_nil ?_
 have hst := (MapKept.stamped_iff es ck).1 hM.2
 have hes : es.toList.length = p.length := by rw [← ent_list hM, List.length_map]
 have hkp := tmF_key (mp_pair hM)
 refine cw_block ?_
 refine cw_loop (fun k f w => ∃ (dl rl : List MapEntry) (B : Option Addr) (c : Nat), FF f [(3, .slice B (tmO dl).length c), (8, .pointer (aD r))] ∧ (dl ++ rl).Perm es.toList ∧ k = rl.length ∧
  ST w0 (bl [⟨(aD g), .mp (mpE (Value.int .i64) (Value.int .i64) p), [], 0⟩]) w [⟨(aD g), .ob (.map es ck), [], 0⟩, ⟨B, 56, ((tmO dl).flatMap eN0), c * 2⟩, ⟨(aD r), .ob (.mapIter (some g) ck (dl.map (·.born)).toArray ck), [], 0⟩] []) es.toList.length ⟨[], es.toList, aD b, 0, (FF.cons rfl (FF.cons rfl FF.nil)), .refl _, rfl, hS2⟩ ?_
 rintro k_ f w ⟨dl, rl, B, c, hf, hp, rfl, hS3⟩
 refine cw_seq (cw_region ?_)
 refine sS 9 (Ys_next (g := g) (r := r) (i := 0) (j := 2) hS3 rfl (hf.get 8 1 rfl) rfl rfl hst.1 (Nat.le_refl _)) ?_
 rintro _ w_2 (⟨rfl, h0, hS4⟩ | ⟨e, he, rfl, hS4⟩)
 ·refine sQ 10 (Y_extract (v := .bool false) rfl rfl rfl) ?_
  refine rw_nil (cw_seq ?_)
  refine cw_cond (b := false) rfl (fun h => by cases h) (fun _ => ?_)
  refine cw_exit rfl ?_
  obtain rfl := left_nil hst.2.1 hp h0
  rw [List.append_nil] at hp
  have hpp : (tmO dl).Perm (p.filterMap tmF) := by rw [← tmO_es hM]; exact hp.filterMap _
  have hdd : (tmO dl).Pairwise fun a b => a.Mask ≠ b.Mask := (hpp.pairwise_iff (fun {a b} h => Ne.symm h)).2 hkp
  have hll : (tmO dl).length ≤ p.length := by rw [hpp.length_eq]; exact List.length_filterMap_le _ _
  have hrr : ∀ x ∈ tmO dl, 0 ≤ x.Mask ∧ x.Mask < 4611686018427387904 := fun x hx => by
   obtain ⟨q, hq, hqx⟩ := List.mem_filterMap.1 (hpp.mem_iff.1 hx)
   have := hrng q hq
   unfold tmF at hqx
   split at hqx
   ·cases hqx
    exact ⟨by simp only; omega, this⟩
   ·cases hqx
  have hso : ((tmO dl).mergeSort fun a b => decide (a.Mask ≤ b.Mask)) = termsOf p := sort_perm hpp hkp
  refine cw_seq (cw_region ?_)
  refine sQ 26 (Y_move (v := .slice B (tmO dl).length c) rfl (hf.get 3 0 rfl)) ?_
  refine sc 27 rfl rfl (Yc_func (g := 67) (vs := [.slice B (tmO dl).length c, .func (.func 68) #[] #[]]) k_call_67 rfl (mc rfl (mc rfl mn)) (sortf_c Tryd.sortf67 67 rfl (key := TTerm.Mask) eN2 (by decide) enc_Term_one (run_isAgg_agg k_ag_56) (run_sizeOf k_sz_56_2) 68 (enters_of Tryd.func68 (by kernel_rfl) rfl) cl_terms hrr hdd (by omega) (n := (tmO dl).length) (c := c) (k := 1) (B := B) rfl rfl hS4)) ?_
  rintro _ w_3 ⟨rfl, hS5⟩
  rw [hso] at hS5
  refine rw_nil (cw_seq (cw_region ?_))
  refine sQ 28 (Y_move (v := .slice B (tmO dl).length c) rfl (hf.get 3 0 rfl)) ?_
  refine sQ 2 (Y_assign (v := .slice B (tmO dl).length c) rfl rfl) (rw_nil (cw_ret ?_))
  have hl : (tmO dl).length = (termsOf p).length := by rw [← hso, List.length_mergeSort]
  exact ret1 Tryd.results62 (v1 := .slice B (tmO dl).length c) (resAt_tmp rfl) ⟨B, c, by rw [hl], ((hS5.mapIn (i := 0) (g := g) rfl hM rfl).sel [0, 1] rfl rfl)⟩
 ·refine sQ 10 (Y_extract (v := .bool true) rfl rfl rfl) ?_
  refine rw_nil (cw_seq ?_)
  refine cw_cond (b := true) rfl (fun _ => ?_) (fun h => by cases h)
  refine cw_skip ?_
  obtain ⟨hem, ra, rb, rfl⟩ := left_mem hp he
  obtain ⟨hk1, hv1⟩ := ent_int hM hem
  have hsn := tmO_snoc dl e
  have hbo : ((dl ++ [e]).map (·.born)).toArray = (dl.map (·.born)).toArray.push e.born := by simp
  generalize enK e = a at hk1 hsn
  generalize enV e = b2 at hv1 hsn
  have hdl : (tmO dl).length < p.length := by
   have h1 : (tmO dl).length ≤ dl.length := List.length_filterMap_le _ _
   have h2 := hp.length_eq
   simp only [List.length_append, List.length_cons] at h2
   omega
  refine cw_block (cw_seq (cw_region ?_))
  refine sQ 11 (Y_entry2 (g := g) (r := r) (i := 0) (j := 2) (kv := vi a) (vv := vi b2) hS4 rfl (hf.get 8 1 rfl) rfl rfl hem hst.2.1 hk1 hv1) ?_
  refine sQ 12 (Y_extract (v := vi a) rfl rfl rfl) ?_
  refine sQ 13 (Y_extract (v := vi b2) rfl rfl rfl) ?_
  refine sQ 4 (Y_assign (v := vi a) rfl rfl) ?_
  refine sQ 5 (Y_assign (v := vi b2) rfl rfl) (rw_nil (cw_seq (cw_region ?_)))
  refine sQ 14 (Y_move (v := vi a) rfl rfl) ?_
  refine sQ 15 (Y_gt (k := .i64) (a := a) (b := 0) rfl rfl rfl) ?_
  refine sQ 16 (Y_move (v := .bool (decide (0 < a))) rfl rfl) ?_
  refine sgq 17 (B := (decide (0 < a))) (v := vi b2) rfl rfl (uT_ 16) (fun hg => (Y_move (v := vi b2) rfl rfl)) ?_
  refine sgq 18 (B := (decide (0 < a))) (v := .bool (decide (0 < b2))) rfl rfl (uT_ 16) (fun hg1 => (Y_gt (k := .i64) (a := b2) (b := 0) rfl (gv_of (v := vi b2) hg1) rfl)) ?_
  refine sQ 19 (Y_and (b := (decide (0 < a))) (z := (decide (0 < b2))) rfl rfl rfl rfl) (rw_nil ?_)
  refine cw_cond (b := ((decide (0 < a)) && (decide (0 < b2)))) rfl (fun hb => ?_) (fun hb => ?_)
  ·have hb' : 0 < a ∧ 0 < b2 := by simpa using hb
   rw [if_pos hb'] at hsn
   refine cw_region ?_
   refine sQ 20 (Y_move (v := .slice B ((tmO dl).length) c) rfl (hf.get 3 0 rfl)) ?_
   refine sQ 21 (Y_move (v := vi a) rfl rfl) ?_
   refine sQ 22 (Y_move (v := vi b2) rfl rfl) ?_
   refine sQ 23 (Y_buildS (zs := [vi 0, vi 0]) (vs := [(0, vi a), (1, vi b2)]) (cs := [vi a, vi b2]) k_pl_56 k_zero_56 rfl (mpc rfl (mpc rfl mpn)) rfl) ?_
   refine sS 24 (Ys_bslice (s := 2) (len := 1) (vs := [(0, .agg #[vi a, vi b2])]) (cs := [vi a, vi b2]) (zs := [vi 0, vi 0]) (m := 2) hS4 k_sl_27_56 k_sz_56_2 k_zc_56 rfl (mpc rfl mpn) rfl rfl rfl (by kernel_rfl) (by kernel_rfl) rfl) ?_
   rintro _ w_4 ⟨b, rfl, hS5⟩
   refine sS 25 (Ys_append (s := 2) (by' := 16) (i := 1) (nn := (tmO dl).length) (c := c) (k := 1) (len := ((tmO dl) ++ [(TTerm.mk a b2)]).length) (B := B) (xs := ([(TTerm.mk a b2)].flatMap eN0)) (cs' := (((tmO dl) ++ [(TTerm.mk a b2)]).flatMap eN0)) hS5 k_sl_27_56 k_sz_56_2 k_by_56_16 k_zero_56 rfl (by decide) rfl rfl rfl rfl (fm_lenn (l := (tmO dl)) eN2 rfl) rfl (hS5.cf (i := 3) rfl) (fm_lenn (l := [(TTerm.mk a b2)]) eN2 rfl) (fm_one' (enc := eN0) enc_Term_one [(TTerm.mk a b2)]) (by omega) (by simp only [maxLen]; omega) (fm_app _ _) (app_len (l := (tmO dl)) (l' := [(TTerm.mk a b2)]) rfl rfl)) ?_
   rintro _ w_5 ⟨B2, c2, rfl, hS6⟩
   refine sQ 3 (Y_assign (v := .slice B2 (((tmO dl) ++ [(TTerm.mk a b2)]).length) c2) rfl rfl) (rw_nil ?_)
   have hS7 := (hS6.sel [0, 1, 2] rfl rfl)
   refine ⟨(ra ++ rb).length, by simp, dl ++ [e], ra ++ rb, B2, c2, (FF.cons (by rw [hsn]; rfl) (FF.cons (hf.get 8 1 rfl) FF.nil)), left_step hp, rfl, ?_⟩
   rw [hsn, hbo]; exact hS7
  ·have hb' : ¬ (0 < a ∧ 0 < b2) := by simpa using hb
   rw [if_neg hb'] at hsn
   refine cw_skip ?_
   refine ⟨(ra ++ rb).length, by simp, dl ++ [e], ra ++ rb, B, c, (FF.cons (by rw [hsn]; exact hf.get 3 0 rfl) (FF.cons (hf.get 8 1 rfl) FF.nil)), left_step hp, rfl, ?_⟩
   rw [hsn, hbo]; exact hS4

theorem c_impl_PathSum_stripped (p : TPathSum) (y : Int) (coef : Int) (set_ : Int) (B : Option Addr) (c n : Nat) (B1 : Option Addr) (c1 n1 : Nat) (w0 : World) (hn : p.Terms.length = n) (hn1 : p.Out.length = n1) (hS : ST w0 [] w0 [] [⟨B, (p.Terms.flatMap eN0)⟩, ⟨B1, (p.Out.flatMap eN1)⟩]) {r_ : TPathSum} (hF : F_impl_PathSum_stripped p y coef set_ = some r_) :
  CV Tryd.prog 52 #[.agg #[vi p.Ins, vi p.Vars, vi p.Root, vi p.Phase, .slice B n c, .slice B1 n1 c1], vi y, vi coef, vi set_] w0 (fun v w' => ∃ (B2 : Option Addr) (c2 : Nat) (B3 : Option Addr) (c3 : Nat), v = .agg #[vi r_.Ins, vi r_.Vars, vi r_.Root, vi r_.Phase, .slice B2 r_.Terms.length c2, .slice B3 r_.Out.length c3] ∧ ST w0 [] w' [⟨B2, 56, (r_.Terms.flatMap eN0), c2 * 2⟩, ⟨B3, 44, (r_.Out.flatMap eN1), c3 * 2⟩] []) := by
 subst hn
 subst hn1
 unfold F_impl_PathSum_stripped at hF
 refine cv_of_cw 47 Tryd.func52 rfl Tryd.ntmps52 rfl ?_
 refine cw_seq (cw_region ?_)
 refine sS 4 (Ys_box (T := 30) (v := .agg #[vi p.Ins, vi p.Vars, vi p.Root, vi p.Phase, .slice B p.Terms.length c, .slice B1 p.Out.length c1]) (cs := [vi p.Ins, vi p.Vars, vi p.Root, vi p.Phase, .slice B p.Terms.length c, .slice B1 p.Out.length c1]) (m := 6) hS rfl rfl rfl rfl) ?_
 rintro _ w_ ⟨b, rfl, hS1⟩
 refine sS 8 (Ys_alloc (T := 30) (cs := [vi 0, vi 0, vi 0, vi 0, .slice none 0 0, .slice none 0 0]) (m := 6) hS1 k_zero_30 rfl rfl rfl) ?_
 rintro _ w_1 ⟨b1, rfl, hS2⟩
 refine rw_nil (cw_seq (cw_region ?_))
 refine sQ 13 (Y_loadA (B := aD b) (i := 0) (cs := [vi p.Ins, vi p.Vars, vi p.Root, vi p.Phase, .slice B p.Terms.length c, .slice B1 p.Out.length c1]) (vs := [vi p.Ins, vi p.Vars, vi p.Root, vi p.Phase, .slice B p.Terms.length c, .slice B1 p.Out.length c1]) k_ag_30 k_sz_30_6 rfl rfl (hS2.cf (i := 0) rfl) rfl rfl) ?_
 obtain ⟨r_1, hc, hF⟩ := bind_inv hF
 refine sc 14 rfl rfl (Yc_func (g := 60) (vs := [.agg #[vi p.Ins, vi p.Vars, vi p.Root, vi p.Phase, .slice B p.Terms.length c, .slice B1 p.Out.length c1]]) k_call_60 rfl (mc rfl mn) (c_impl_polyOf p B c p.Terms.length B1 c1 p.Out.length _ rfl rfl (hS2.inn0 [(true, 0), (true, 1)] rfl) hc)) ?_
 rintro _ w_2 ⟨g, rfl, hd⟩
 have hS3 := hS2.out0 hd
 refine sQ 9 (Y_assign (v := .map (some g)) rfl rfl) (rw_nil (cw_seq (cw_seq (cw_region ?_))))
 refine sQ 15 (Y_fieldAddr (B := aD b) (i := 0) (s := 0) k_fd_30_4_4_27 k_sz_27_1 rfl rfl) ?_
 refine sQ 16 (Y_load1 (B := aD b) (i := 4) (cs := [vi p.Ins, vi p.Vars, vi p.Root, vi p.Phase, .slice B p.Terms.length c, .slice B1 p.Out.length c1]) (v := .slice B p.Terms.length c) k_sc_27 rfl rfl (hS3.cf (i := 0) rfl) rfl) ?_
 refine sQ 17 (Y_len (B := B) (m := p.Terms.length) (c := c) k_sl_27_56 rfl rfl) ?_
 refine sQ 18 (Y_move (v := vi 0) rfl rfl) (rw_nil ?_)
 obtain ⟨hN, hF⟩ := chk_inv hF
 obtain ⟨z, hz, hF1⟩ := bind_inv hF
 refine cw_block ?_
 refine cw_loop (fun k f w => ∃ (i : Nat) (poly : List (Int × Int)), FF f [(1, vi y), (2, vi coef), (3, vi set_), (4, pt (aD b) 0), (8, pt (aD b1) 0), (9, .map (some g)), (16, .slice B p.Terms.length c), (17, vi (p.Terms.length : Int)), (18, vi (i : Int))] ∧ ST w0 [] w [⟨aD b, 30, [vi p.Ins, vi p.Vars, vi p.Root, vi p.Phase, .slice B p.Terms.length c, .slice B1 p.Out.length c1], 6⟩, ⟨aD b1, 30, [vi 0, vi 0, vi 0, vi 0, .slice none 0 0, .slice none 0 0], 6⟩, ⟨(aD g), .mp (mpE (Value.int .i64) (Value.int .i64) poly), [], 0⟩] [⟨B, (p.Terms.flatMap eN0)⟩, ⟨B1, (p.Out.flatMap eN1)⟩] ∧ i + k = p.Terms.length ∧ forN (F_impl_PathSum_stripped_l1 p y) k i poly = some z) p.Terms.length ⟨0, r_1, (FF.cons rfl (FF.cons rfl (FF.cons rfl (FF.cons rfl (FF.cons rfl (FF.cons rfl (FF.cons rfl (FF.cons rfl (FF.cons rfl FF.nil))))))))), (hS3.sel [0, 1, 2] rfl rfl), Nat.zero_add _, hz⟩ ?_
 rintro k_ f w ⟨i, poly, hf, hS4, hik, hL⟩
 refine cw_seq (cw_region ?_)
 refine sQ 19 (Y_lt (k := .i64) (a := (i : Int)) (b := (p.Terms.length : Int)) rfl (hf.get 18 8 rfl) (hf.get 17 7 rfl)) (rw_nil (cw_seq ?_))
 refine cw_cond (b := (decide ((i : Int) < (p.Terms.length : Int)))) rfl (fun hlt => ?_) (fun hlt => ?_)
 ·skip
  have hlt1 : i < p.Terms.length := by have h := of_decide_eq_true hlt; omega
  obtain ⟨k_1, rfl⟩ : ∃ k2, k_ = k2 + 1 := ⟨k_ - 1, by omega⟩
  obtain ⟨y1, hb, hL1⟩ := forN_go hL
  unfold F_impl_PathSum_stripped_l1 at hb
  refine cw_skip (cw_seq ?_)
  obtain ⟨z1, hz1, hF2⟩ := bind_inv hb
  refine cw_mid (fun f w => ∃ (poly1 : List (Int × Int)), poly1 = z1 ∧ FF f [(1, vi y), (2, vi coef), (3, vi set_), (4, pt (aD b) 0), (8, pt (aD b1) 0), (9, .map (some g)), (16, .slice B p.Terms.length c), (17, vi (p.Terms.length : Int)), (18, vi (i : Int))] ∧ ST w0 [] w [⟨aD b, 30, [vi p.Ins, vi p.Vars, vi p.Root, vi p.Phase, .slice B p.Terms.length c, .slice B1 p.Out.length c1], 6⟩, ⟨aD b1, 30, [vi 0, vi 0, vi 0, vi 0, .slice none 0 0, .slice none 0 0], 6⟩, ⟨(aD g), .mp (mpE (Value.int .i64) (Value.int .i64) poly1), [], 0⟩] [⟨B, (p.Terms.flatMap eN0)⟩, ⟨B1, (p.Out.flatMap eN1)⟩]) ?_ ?_
  ·skip
   refine cw_block (cw_seq (cw_region ?_))
   obtain ⟨x, hx, hz1⟩ := bind_inv hz1
   refine sQ 20 (Y_index (B := B) (m := p.Terms.length) (c := c) (k := .i64) (i := (i : Int)) k_sl_27_56 k_sz_56_2 rfl (hf.get 16 6 rfl) (hf.get 18 8 rfl) (gi_isSome eN2 rfl (hS4.rf (i := 0) rfl) hx) (getI_nn hx) (getI_ltI hx rfl)) ?_
   refine sQ 21 (Y_loadA (B := B) (i := (i : Int).toNat * 2) (cs := (p.Terms.flatMap eN0)) (vs := [vi x.Mask, vi x.Coef]) k_ag_56 k_sz_56_2 rfl rfl (hS4.rf (i := 0) rfl) (eN2 x) (gi_seg eN2 hx)) ?_
   refine sS 11 (Ys_alloc (T := 56) (cs := [vi 0, vi 0]) (m := 2) hS4 k_zero_56 rfl rfl rfl) ?_
   rintro _ w_3 ⟨b2, rfl, hS6⟩
   refine s0 (Ys_store (i := 3) (s := 2) (B := aD b2) (T' := 56) (v := .agg #[vi x.Mask, vi x.Coef]) (vs := [vi x.Mask, vi x.Coef]) (k := 0) (cs' := [vi x.Mask, vi x.Coef]) hS6 k_sz_56_2 rfl rfl rfl rfl rfl rfl rfl (lB rfl) rfl rfl) ?_
   rintro _ w_4 ⟨rfl, hS7⟩
   refine rw_nil (cw_seq (cw_region ?_))
   refine sQ 22 (Y_fieldAddr (B := aD b2) (i := 0) (s := 0) k_fd_56_0_0_3 k_sz_3_1 rfl rfl) ?_
   refine sQ 23 (Y_load1 (B := aD b2) (i := 0) (cs := [vi x.Mask, vi x.Coef]) (v := vi x.Mask) k_sc_3 rfl rfl (hS7.cf (i := 3) rfl) rfl) ?_
   refine sQ 24 (Y_move (v := vi y) rfl (hf.get 1 0 rfl)) ?_
   obtain ⟨hsh, hz1⟩ := chk_inv hz1
   refine sQ 25 (Y_shr (k := .i64) (a := x.Mask) (k' := .i64) (b := y) rfl rfl rfl hsh) ?_
   refine sQ 26 (Y_band (k := .i64) (a := (shrK .i64 x.Mask y)) (b := 1) rfl rfl rfl) ?_
   refine sQ 27 (Y_eq (k := .i64) (a := (bits .and .i64 (shrK .i64 x.Mask y) 1)) (b := 1) rfl rfl rfl) (rw_nil ?_)
   refine cw_cond (b := ((bits .and .i64 (shrK .i64 x.Mask y) 1) == 1)) rfl (fun hb1 => ?_) (fun hb1 => ?_)
   ·skip
    have hF3 := ct hz1 hb1
    refine cw_region ?_
    refine sQ 28 (Y_move (v := .map (some g)) rfl (hf.get 9 5 rfl)) ?_
    refine sQ 29 (Y_fieldAddr (B := aD b2) (i := 0) (s := 0) k_fd_56_0_0_3 k_sz_3_1 rfl rfl) ?_
    refine sQ 30 (Y_load1 (B := aD b2) (i := 0) (cs := [vi x.Mask, vi x.Coef]) (v := vi x.Mask) k_sc_3 rfl rfl (hS7.cf (i := 3) rfl) rfl) ?_
    refine s0 (Ys_mapDel (kE := (Value.int .i64)) (vE := (Value.int .i64)) (l := poly) (a := x.Mask) (g := g) (i := 2) hS7 (keyInt k_int_3_i64) k_map_93_3_3 rfl rfl rfl rfl rfl) ?_
    rintro _ w_5 ⟨rfl, hS8⟩
    refine rw_nil ?_
    exact ⟨(mdel poly x.Mask), (some_inj hF3), (FF.cons (hf.get 1 0 rfl) (FF.cons (hf.get 2 1 rfl) (FF.cons (hf.get 3 2 rfl) (FF.cons (hf.get 4 3 rfl) (FF.cons (hf.get 8 4 rfl) (FF.cons (hf.get 9 5 rfl) (FF.cons (hf.get 16 6 rfl) (FF.cons (hf.get 17 7 rfl) (FF.cons (hf.get 18 8 rfl) FF.nil))))))))), (hS8.sel [0, 1, 2] rfl rfl)⟩
   ·skip
    have hF4 := cf' hz1 hb1
    refine cw_skip ?_
    exact ⟨poly, (some_inj hF4), (FF.cons (hf.get 1 0 rfl) (FF.cons (hf.get 2 1 rfl) (FF.cons (hf.get 3 2 rfl) (FF.cons (hf.get 4 3 rfl) (FF.cons (hf.get 8 4 rfl) (FF.cons (hf.get 9 5 rfl) (FF.cons (hf.get 16 6 rfl) (FF.cons (hf.get 17 7 rfl) (FF.cons (hf.get 18 8 rfl) FF.nil))))))))), (hS7.sel [0, 1, 2] rfl rfl)⟩
  rintro f w ⟨poly1, rfl, hf1, hS5⟩
  refine cw_region ?_
  refine sQ 31 (Y_add (k := .i64) (a := (i : Int)) (b := 1) rfl (hf1.get 18 8 rfl) rfl) ?_
  refine sQ 18 (Y_move (v := vi (i64.wrap ((i : Int) + 1))) rfl rfl) (rw_nil ?_)
  obtain rfl := some_inj hF2
  exact ⟨k_1, Nat.lt_succ_self _, i + 1, poly1, (FF.cons (hf1.get 1 0 rfl) (FF.cons (hf1.get 2 1 rfl) (FF.cons (hf1.get 3 2 rfl) (FF.cons (hf1.get 4 3 rfl) (FF.cons (hf1.get 8 4 rfl) (FF.cons (hf1.get 9 5 rfl) (FF.cons (hf1.get 16 6 rfl) (FF.cons (hf1.get 17 7 rfl) (FF.cons (congrArg (Value.int .i64) (wr_succ hlt1 hN)) FF.nil))))))))), (hS5.sel [0, 1, 2] rfl rfl), (by omega), hL1⟩
 ·skip
  obtain rfl : k_ = 0 := by have h := of_decide_eq_false hlt; omega
  refine cw_exit rfl ?_
  obtain rfl := some_inj hL
  refine cw_seq (cw_region ?_)
  refine sQ 32 (Y_move (v := .map (some g)) rfl (hf.get 9 5 rfl)) ?_
  refine sQ 33 (Y_move (v := vi coef) rfl (hf.get 2 1 rfl)) ?_
  refine sQ 34 (Y_move (v := vi set_) rfl (hf.get 3 2 rfl)) ?_
  refine sQ 35 (Y_buildS (zs := [vi 0, vi 0]) (vs := [(0, vi set_)]) (cs := [vi set_, vi 0]) k_pl_44 k_zero_44 rfl (mpc rfl mpn) rfl) ?_
  obtain ⟨m, hc1, hF1⟩ := bind_inv hF1
  refine sc 36 rfl rfl (Yc_func (g := 61) (vs := [.map (some g), vi coef, .agg #[vi set_, vi 0], vi 0]) k_call_61 rfl (mc rfl (mc rfl (mc rfl (mc rfl mn)))) (c_impl_polynomial_expand poly coef (TAffine.mk set_ 0) 0 g _  (hS4.inn [false, false, true] rfl [] rfl) hc1)) ?_
  rintro _ w_6 ⟨rfl, hd1⟩
  have hS9 := hS4.out [false, false, true] rfl hd1
  refine rw_nil (cw_seq (cw_region ?_))
  refine sQ 37 (Y_loadA (B := aD b) (i := 0) (cs := [vi p.Ins, vi p.Vars, vi p.Root, vi p.Phase, .slice B p.Terms.length c, .slice B1 p.Out.length c1]) (vs := [vi p.Ins, vi p.Vars, vi p.Root, vi p.Phase, .slice B p.Terms.length c, .slice B1 p.Out.length c1]) k_ag_30 k_sz_30_6 rfl (hf.get 4 3 rfl) (hS9.cf (i := 0) rfl) rfl rfl) ?_
  refine sS 12 (Ys_alloc (T := 30) (cs := [vi 0, vi 0, vi 0, vi 0, .slice none 0 0, .slice none 0 0]) (m := 6) hS9 k_zero_30 rfl rfl rfl) ?_
  rintro _ w_7 ⟨b3, rfl, hS10⟩
  refine s0 (Ys_store (i := 3) (s := 6) (B := aD b3) (T' := 30) (v := .agg #[vi p.Ins, vi p.Vars, vi p.Root, vi p.Phase, .slice B p.Terms.length c, .slice B1 p.Out.length c1]) (vs := [vi p.Ins, vi p.Vars, vi p.Root, vi p.Phase, .slice B p.Terms.length c, .slice B1 p.Out.length c1]) (k := 0) (cs' := [vi p.Ins, vi p.Vars, vi p.Root, vi p.Phase, .slice B p.Terms.length c, .slice B1 p.Out.length c1]) hS10 k_sz_30_6 rfl rfl rfl rfl rfl rfl rfl (lB rfl) rfl rfl) ?_
  rintro _ w_8 ⟨rfl, hS11⟩
  refine rw_nil (cw_seq ?_)
  obtain ⟨r_2, hc2, hF1⟩ := bind_inv hF1
  refine cw_mid (fun f w => ∃ (B5 : Option Addr) (c5 : Nat), FF f [(1, vi y), (8, pt (aD b1) 0), (12, pt (aD b3) 0)] ∧ ST w0 [] w [⟨aD b1, 30, [vi 0, vi 0, vi 0, vi 0, .slice none 0 0, .slice none 0 0], 6⟩, ⟨aD b3, 30, [vi p.Ins, vi p.Vars, vi p.Root, vi (mgt m 0 0), .slice B5 r_2.length c5, .slice B1 p.Out.length c1], 6⟩, ⟨B5, 56, (r_2.flatMap eN0), c5 * 2⟩] [⟨B, (p.Terms.flatMap eN0)⟩, ⟨B1, (p.Out.flatMap eN1)⟩]) ?_ ?_
  ·skip
   refine ra_start (hS11.se [0, 1]).fn (by kernel_rfl) ?_
   have hS14 := hS11.drew
   refine rq 0 38 (v := .map (some g)) rfl (hS14.se [0, 1]) (fun w' hw' => (Y_move (v := .map (some g)) rfl (hf.get 9 5 rfl))) ?_
   refine rq 2 40 (v := .map (some g)) rfl (hS14.se [0, 1]) (fun w' hw' => (Y_move (v := .map (some g)) rfl (hf.get 9 5 rfl))) ?_
   refine rA [1, 3] ?_
   refine ra_y 39 (i := 1) (v := vi (mgt m 0 0)) rfl rfl rfl (Y_mapGet (kE := (Value.int .i64)) (vE := (Value.int .i64)) (l := m) (a := 0) (d := 0) (g := g) (i := 2) hS14 (keyInt k_int_3_i64) k_map_93_3_3 k_zero_3 rfl rfl rfl rfl) (hS14.se [0, 1]) ?_ ?_
   ·skip
    refine rq 4 42 (v := pt (aD b3) 3) rfl (hS14.se [0, 1]) (fun w' hw' => (Y_fieldAddr (B := aD b3) (i := 0) (s := 0) k_fd_30_3_3_3 k_sz_3_1 rfl rfl)) ?_
    refine rA [3] ?_
    refine ra_c 41 (i := 3) rfl rfl rfl (Yc_func (g := 62) (vs := [.map (some g)]) k_call_62 rfl (mc rfl mn) (c_impl_polynomial_terms m g _  (hS14.inn [false, false, true, false] rfl [] rfl) hc2)) ?_ ?_
    ·rintro _ w_9 ⟨B4, c4, rfl, hd2⟩
     have hS15 := hS14.out [false, false, true, false] rfl hd2
     refine ⟨(hS15.se [0, 1]), ?_⟩
     refine rA [5] ?_
     refine ra_s0 (i := 5) rfl rfl rfl (Ys_store (i := 2) (s := 1) (B := aD b3) (T' := 30) (v := vi (mgt m 0 0)) (vs := [vi (mgt m 0 0)]) (k := 3) (cs' := [vi p.Ins, vi p.Vars, vi p.Root, vi (mgt m 0 0), .slice B p.Terms.length c, .slice B1 p.Out.length c1]) hS15 k_sz_3_1 rfl rfl rfl rfl rfl rfl rfl (lB rfl) rfl rfl) ?_ ?_
     ·rintro _ w_10 ⟨rfl, hS16⟩
      refine ⟨(hS16.se [0, 1]), ?_⟩
      refine rq 6 43 (v := pt (aD b3) 4) rfl (hS16.se [0, 1]) (fun w' hw' => (Y_fieldAddr (B := aD b3) (i := 0) (s := 0) k_fd_30_4_4_27 k_sz_27_1 rfl rfl)) ?_
      refine rA [7] ?_
      refine ra_s0 (i := 7) rfl rfl rfl (Ys_store (i := 2) (s := 1) (B := aD b3) (T' := 30) (v := .slice B4 r_2.length c4) (vs := [.slice B4 r_2.length c4]) (k := 4) (cs' := [vi p.Ins, vi p.Vars, vi p.Root, vi (mgt m 0 0), .slice B4 r_2.length c4, .slice B1 p.Out.length c1]) hS16 k_sz_27_1 rfl rfl rfl rfl rfl rfl rfl (lB rfl) rfl rfl) ?_ ?_
      ·rintro _ w_11 ⟨rfl, hS17⟩
       refine ⟨(hS17.se [0, 1]), ?_⟩
       refine ra_done (by kernel_rfl) ?_
       exact ⟨B4, c4, (FF.cons (hf.get 1 0 rfl) (FF.cons (hf.get 8 4 rfl) (FF.cons rfl FF.nil))), (hS17.sel [1, 2, 4] rfl rfl)⟩
      exact allR_nil
     exact allR_nil
    exact allR_nil
   refine ra_c 41 (i := 3) rfl rfl rfl (Yc_func (g := 62) (vs := [.map (some g)]) k_call_62 rfl (mc rfl mn) (c_impl_polynomial_terms m g _  (hS14.inn [false, false, true, false] rfl [] rfl) hc2)) ?_ ?_
   ·rintro _ w_12 ⟨B4, c4, rfl, hd3⟩
    have hS18 := hS14.out [false, false, true, false] rfl hd3
    refine ⟨(hS18.se [0, 1]), ?_⟩
    refine rA [1] ?_
    refine ra_y 39 (i := 1) (v := vi (mgt m 0 0)) rfl rfl rfl (Y_mapGet (kE := (Value.int .i64)) (vE := (Value.int .i64)) (l := m) (a := 0) (d := 0) (g := g) (i := 3) hS18 (keyInt k_int_3_i64) k_map_93_3_3 k_zero_3 rfl rfl rfl rfl) (hS18.se [0, 1]) ?_ ?_
    ·skip
     refine rq 4 42 (v := pt (aD b3) 3) rfl (hS18.se [0, 1]) (fun w' hw' => (Y_fieldAddr (B := aD b3) (i := 0) (s := 0) k_fd_30_3_3_3 k_sz_3_1 rfl rfl)) ?_
     refine rA [5] ?_
     refine ra_s0 (i := 5) rfl rfl rfl (Ys_store (i := 2) (s := 1) (B := aD b3) (T' := 30) (v := vi (mgt m 0 0)) (vs := [vi (mgt m 0 0)]) (k := 3) (cs' := [vi p.Ins, vi p.Vars, vi p.Root, vi (mgt m 0 0), .slice B p.Terms.length c, .slice B1 p.Out.length c1]) hS18 k_sz_3_1 rfl rfl rfl rfl rfl rfl rfl (lB rfl) rfl rfl) ?_ ?_
     ·rintro _ w_13 ⟨rfl, hS19⟩
      refine ⟨(hS19.se [0, 1]), ?_⟩
      refine rq 6 43 (v := pt (aD b3) 4) rfl (hS19.se [0, 1]) (fun w' hw' => (Y_fieldAddr (B := aD b3) (i := 0) (s := 0) k_fd_30_4_4_27 k_sz_27_1 rfl rfl)) ?_
      refine rA [7] ?_
      refine ra_s0 (i := 7) rfl rfl rfl (Ys_store (i := 2) (s := 1) (B := aD b3) (T' := 30) (v := .slice B4 r_2.length c4) (vs := [.slice B4 r_2.length c4]) (k := 4) (cs' := [vi p.Ins, vi p.Vars, vi p.Root, vi (mgt m 0 0), .slice B4 r_2.length c4, .slice B1 p.Out.length c1]) hS19 k_sz_27_1 rfl rfl rfl rfl rfl rfl rfl (lB rfl) rfl rfl) ?_ ?_
      ·rintro _ w_14 ⟨rfl, hS20⟩
       refine ⟨(hS20.se [0, 1]), ?_⟩
       refine ra_done (by kernel_rfl) ?_
       exact ⟨B4, c4, (FF.cons (hf.get 1 0 rfl) (FF.cons (hf.get 8 4 rfl) (FF.cons rfl FF.nil))), (hS20.sel [1, 2, 4] rfl rfl)⟩
      exact allR_nil
     exact allR_nil
    exact allR_nil
   exact allR_nil
  rintro f w ⟨B5, c5, hf2, hS13⟩
  refine cw_seq (cw_region ?_)
  refine sQ 44 (Y_loadA (B := aD b3) (i := 0) (cs := [vi p.Ins, vi p.Vars, vi p.Root, vi (mgt m 0 0), .slice B5 r_2.length c5, .slice B1 p.Out.length c1]) (vs := [vi p.Ins, vi p.Vars, vi p.Root, vi (mgt m 0 0), .slice B5 r_2.length c5, .slice B1 p.Out.length c1]) k_ag_30 k_sz_30_6 rfl (hf2.get 12 2 rfl) (hS13.cf (i := 1) rfl) rfl rfl) ?_
  refine sQ 45 (Y_move (v := vi y) rfl (hf2.get 1 0 rfl)) ?_
  obtain ⟨r_3, hc3, hF1⟩ := bind_inv hF1
  refine sc 46 rfl rfl (Yc_func (g := 51) (vs := [.agg #[vi p.Ins, vi p.Vars, vi p.Root, vi (mgt m 0 0), .slice B5 r_2.length c5, .slice B1 p.Out.length c1], vi y]) k_call_51 rfl (mc rfl (mc rfl mn)) (c_impl_PathSum_without (TPathSum.mk p.Ins p.Vars p.Root (mgt m 0 0) r_2 p.Out) y B5 c5 r_2.length B1 c1 p.Out.length _ rfl rfl (hS13.inn0 [(false, 2), (true, 1)] rfl) hc3)) ?_
  rintro _ w_15 ⟨B6, c6, B7, c7, rfl, hd4⟩
  have hS21 := hS13.out0 hd4
  refine s0 (Ys_store (i := 0) (s := 6) (B := aD b1) (T' := 30) (v := .agg #[vi r_3.Ins, vi r_3.Vars, vi r_3.Root, vi r_3.Phase, .slice B6 r_3.Terms.length c6, .slice B7 r_3.Out.length c7]) (vs := [vi r_3.Ins, vi r_3.Vars, vi r_3.Root, vi r_3.Phase, .slice B6 r_3.Terms.length c6, .slice B7 r_3.Out.length c7]) (k := 0) (cs' := [vi r_3.Ins, vi r_3.Vars, vi r_3.Root, vi r_3.Phase, .slice B6 r_3.Terms.length c6, .slice B7 r_3.Out.length c7]) hS21 k_sz_30_6 rfl (hf2.get 8 1 rfl) rfl rfl rfl rfl rfl (lB rfl) rfl rfl) ?_
  rintro _ w_16 ⟨rfl, hS22⟩
  refine rw_nil (cw_ret ?_)
  obtain rfl := some_inj hF1
  exact ret1 Tryd.results52 (v1 := .agg #[vi r_3.Ins, vi r_3.Vars, vi r_3.Root, vi r_3.Phase, .slice B6 r_3.Terms.length c6, .slice B7 r_3.Out.length c7]) (resAt_cellA (B := aD b1) (i := 0) (cs := [vi r_3.Ins, vi r_3.Vars, vi r_3.Root, vi r_3.Phase, .slice B6 r_3.Terms.length c6, .slice B7 r_3.Out.length c7]) (vs := [vi r_3.Ins, vi r_3.Vars, vi r_3.Root, vi r_3.Phase, .slice B6 r_3.Terms.length c6, .slice B7 r_3.Out.length c7]) (hf2.get 8 1 rfl) k_ag_30 k_sz_30_6 (hS22.cf (i := 0) rfl) rfl rfl) ⟨B6, c6, B7, c7, rfl, (hS22.sN [3, 4])⟩

theorem c_impl_PathSum_substituted (p : TPathSum) (v_ : Int) (by_ : TAffine) (B : Option Addr) (c n : Nat) (B1 : Option Addr) (c1 n1 : Nat) (w0 : World) (hn : p.Terms.length = n) (hn1 : p.Out.length = n1) (hS : ST w0 [] w0 [] [⟨B, (p.Terms.flatMap eN0)⟩, ⟨B1, (p.Out.flatMap eN1)⟩]) {r_ : TPathSum} (hF : F_impl_PathSum_substituted p v_ by_ = some r_) :
  CV Tryd.prog 54 #[.agg #[vi p.Ins, vi p.Vars, vi p.Root, vi p.Phase, .slice B n c, .slice B1 n1 c1], vi v_, .agg #[vi by_.Mask, vi by_.Turn]] w0 (fun v w' => ∃ (B2 : Option Addr) (c2 : Nat) (B3 : Option Addr) (c3 : Nat), v = .agg #[vi r_.Ins, vi r_.Vars, vi r_.Root, vi r_.Phase, .slice B2 r_.Terms.length c2, .slice B3 r_.Out.length c3] ∧ ST w0 [] w' [⟨B2, 56, (r_.Terms.flatMap eN0), c2 * 2⟩, ⟨B3, 44, (r_.Out.flatMap eN1), c3 * 2⟩] []) := by
 subst hn
 subst hn1
 unfold F_impl_PathSum_substituted at hF
 refine cv_of_cw 92 Tryd.func54 rfl Tryd.ntmps54 rfl ?_
 refine cw_seq (cw_region ?_)
 refine sS 3 (Ys_box (T := 30) (v := .agg #[vi p.Ins, vi p.Vars, vi p.Root, vi p.Phase, .slice B p.Terms.length c, .slice B1 p.Out.length c1]) (cs := [vi p.Ins, vi p.Vars, vi p.Root, vi p.Phase, .slice B p.Terms.length c, .slice B1 p.Out.length c1]) (m := 6) hS rfl rfl rfl rfl) ?_
 rintro _ w_ ⟨b, rfl, hS1⟩
 refine sS 5 (Ys_box (T := 44) (v := .agg #[vi by_.Mask, vi by_.Turn]) (cs := [vi by_.Mask, vi by_.Turn]) (m := 2) hS1 rfl rfl rfl rfl) ?_
 rintro _ w_1 ⟨b1, rfl, hS2⟩
 refine sS 6 (Ys_alloc (T := 30) (cs := [vi 0, vi 0, vi 0, vi 0, .slice none 0 0, .slice none 0 0]) (m := 6) hS2 k_zero_30 rfl rfl rfl) ?_
 rintro _ w_2 ⟨b2, rfl, hS3⟩
 refine rw_nil (cw_seq (cw_region ?_))
 refine sS 13 (Ys_mkMap (T := 93) hS3 rfl) ?_
 rintro _ w_3 ⟨g, rfl, hS4⟩
 refine sQ 14 (Y_fieldAddr (B := aD b) (i := 0) (s := 0) k_fd_30_3_3_3 k_sz_3_1 rfl rfl) ?_
 refine sQ 15 (Y_load1 (B := aD b) (i := 3) (cs := [vi p.Ins, vi p.Vars, vi p.Root, vi p.Phase, .slice B p.Terms.length c, .slice B1 p.Out.length c1]) (v := vi p.Phase) k_sc_3 rfl rfl (hS4.cf (i := 0) rfl) rfl) ?_
 refine s0 (Ys_mapIns (kE := (Value.int .i64)) (vE := (Value.int .i64)) (l := ([] : List (Int × Int))) (a := 0) (b := p.Phase) (g := g) (i := 3) hS4 (keyInt k_int_3_i64) k_map_93_3_3 rfl rfl rfl rfl rfl rfl) ?_
 rintro _ w_4 ⟨rfl, hS5⟩
 refine sQ 16 (Y_move (v := .map (some g)) rfl rfl) ?_
 refine sQ 7 (Y_assign (v := .map (some g)) rfl rfl) (rw_nil (cw_seq (cw_seq (cw_region ?_))))
 refine sQ 17 (Y_fieldAddr (B := aD b) (i := 0) (s := 0) k_fd_30_4_4_27 k_sz_27_1 rfl rfl) ?_
 refine sQ 18 (Y_load1 (B := aD b) (i := 4) (cs := [vi p.Ins, vi p.Vars, vi p.Root, vi p.Phase, .slice B p.Terms.length c, .slice B1 p.Out.length c1]) (v := .slice B p.Terms.length c) k_sc_27 rfl rfl (hS5.cf (i := 0) rfl) rfl) ?_
 refine sQ 19 (Y_len (B := B) (m := p.Terms.length) (c := c) k_sl_27_56 rfl rfl) ?_
 refine sQ 20 (Y_move (v := vi 0) rfl rfl) (rw_nil ?_)
 obtain ⟨hN, hF⟩ := chk_inv hF
 obtain ⟨z, hz, hF1⟩ := bind_inv hF
 refine cw_block ?_
 refine cw_loop (fun k f w => ∃ (i : Nat) (poly : List (Int × Int)), FF f [(1, vi v_), (3, pt (aD b) 0), (5, pt (aD b1) 0), (6, pt (aD b2) 0), (7, .map (some g)), (18, .slice B p.Terms.length c), (19, vi (p.Terms.length : Int)), (20, vi (i : Int))] ∧ ST w0 [] w [⟨aD b, 30, [vi p.Ins, vi p.Vars, vi p.Root, vi p.Phase, .slice B p.Terms.length c, .slice B1 p.Out.length c1], 6⟩, ⟨aD b1, 44, [vi by_.Mask, vi by_.Turn], 2⟩, ⟨aD b2, 30, [vi 0, vi 0, vi 0, vi 0, .slice none 0 0, .slice none 0 0], 6⟩, ⟨(aD g), .mp (mpE (Value.int .i64) (Value.int .i64) poly), [], 0⟩] [⟨B, (p.Terms.flatMap eN0)⟩, ⟨B1, (p.Out.flatMap eN1)⟩] ∧ i + k = p.Terms.length ∧ forN (F_impl_PathSum_substituted_l1 p v_ by_) k i poly = some z) p.Terms.length ⟨0, (mput ([] : List (Int × Int)) 0 p.Phase), (FF.cons rfl (FF.cons rfl (FF.cons rfl (FF.cons rfl (FF.cons rfl (FF.cons rfl (FF.cons rfl (FF.cons rfl FF.nil)))))))), (hS5.sel [0, 1, 2, 3] rfl rfl), Nat.zero_add _, hz⟩ ?_
 rintro k_ f w ⟨i, poly, hf, hS6, hik, hL⟩
 refine cw_seq (cw_region ?_)
 refine sQ 21 (Y_lt (k := .i64) (a := (i : Int)) (b := (p.Terms.length : Int)) rfl (hf.get 20 7 rfl) (hf.get 19 6 rfl)) (rw_nil (cw_seq ?_))
 refine cw_cond (b := (decide ((i : Int) < (p.Terms.length : Int)))) rfl (fun hlt => ?_) (fun hlt => ?_)
 ·skip
  have hlt1 : i < p.Terms.length := by have h := of_decide_eq_true hlt; omega
  obtain ⟨k_1, rfl⟩ : ∃ k2, k_ = k2 + 1 := ⟨k_ - 1, by omega⟩
  obtain ⟨y, hb, hL1⟩ := forN_go hL
  unfold F_impl_PathSum_substituted_l1 at hb
  refine cw_skip (cw_seq ?_)
  obtain ⟨z1, hz1, hF2⟩ := bind_inv hb
  refine cw_mid (fun f w => ∃ (poly1 : List (Int × Int)), poly1 = z1 ∧ FF f [(1, vi v_), (3, pt (aD b) 0), (5, pt (aD b1) 0), (6, pt (aD b2) 0), (7, .map (some g)), (18, .slice B p.Terms.length c), (19, vi (p.Terms.length : Int)), (20, vi (i : Int))] ∧ ST w0 [] w [⟨aD b, 30, [vi p.Ins, vi p.Vars, vi p.Root, vi p.Phase, .slice B p.Terms.length c, .slice B1 p.Out.length c1], 6⟩, ⟨aD b1, 44, [vi by_.Mask, vi by_.Turn], 2⟩, ⟨aD b2, 30, [vi 0, vi 0, vi 0, vi 0, .slice none 0 0, .slice none 0 0], 6⟩, ⟨(aD g), .mp (mpE (Value.int .i64) (Value.int .i64) poly1), [], 0⟩] [⟨B, (p.Terms.flatMap eN0)⟩, ⟨B1, (p.Out.flatMap eN1)⟩]) ?_ ?_
  ·skip
   refine cw_block (cw_seq (cw_region ?_))
   obtain ⟨x, hx, hz1⟩ := bind_inv hz1
   refine sQ 22 (Y_index (B := B) (m := p.Terms.length) (c := c) (k := .i64) (i := (i : Int)) k_sl_27_56 k_sz_56_2 rfl (hf.get 18 5 rfl) (hf.get 20 7 rfl) (gi_isSome eN2 rfl (hS6.rf (i := 0) rfl) hx) (getI_nn hx) (getI_ltI hx rfl)) ?_
   refine sQ 23 (Y_loadA (B := B) (i := (i : Int).toNat * 2) (cs := (p.Terms.flatMap eN0)) (vs := [vi x.Mask, vi x.Coef]) k_ag_56 k_sz_56_2 rfl rfl (hS6.rf (i := 0) rfl) (eN2 x) (gi_seg eN2 hx)) ?_
   refine sS 9 (Ys_alloc (T := 56) (cs := [vi 0, vi 0]) (m := 2) hS6 k_zero_56 rfl rfl rfl) ?_
   rintro _ w_5 ⟨b3, rfl, hS8⟩
   refine s0 (Ys_store (i := 4) (s := 2) (B := aD b3) (T' := 56) (v := .agg #[vi x.Mask, vi x.Coef]) (vs := [vi x.Mask, vi x.Coef]) (k := 0) (cs' := [vi x.Mask, vi x.Coef]) hS8 k_sz_56_2 rfl rfl rfl rfl rfl rfl rfl (lB rfl) rfl rfl) ?_
   rintro _ w_6 ⟨rfl, hS9⟩
   refine rw_nil (cw_seq (cw_region ?_))
   refine sQ 24 (Y_fieldAddr (B := aD b3) (i := 0) (s := 0) k_fd_56_0_0_3 k_sz_3_1 rfl rfl) ?_
   refine sQ 25 (Y_load1 (B := aD b3) (i := 0) (cs := [vi x.Mask, vi x.Coef]) (v := vi x.Mask) k_sc_3 rfl rfl (hS9.cf (i := 4) rfl) rfl) ?_
   refine sQ 26 (Y_move (v := vi v_) rfl (hf.get 1 0 rfl)) ?_
   obtain ⟨hsh, hz1⟩ := chk_inv hz1
   refine sQ 27 (Y_shr (k := .i64) (a := x.Mask) (k' := .i64) (b := v_) rfl rfl rfl hsh) ?_
   refine sQ 28 (Y_band (k := .i64) (a := (shrK .i64 x.Mask v_)) (b := 1) rfl rfl rfl) ?_
   refine sQ 29 (Y_eq (k := .i64) (a := (bits .and .i64 (shrK .i64 x.Mask v_) 1)) (b := 1) rfl rfl rfl) (rw_nil ?_)
   refine cw_cond (b := ((bits .and .i64 (shrK .i64 x.Mask v_) 1) == 1)) rfl (fun hb1 => ?_) (fun hb1 => ?_)
   ·skip
    have hF3 := ct hz1 hb1
    obtain ⟨hsh1, hF3⟩ := chk_inv hF3
    obtain ⟨m, hc, hF3⟩ := bind_inv hF3
    refine ra_start (hS9.se [0, 1, 2, 4]).fn (by kernel_rfl) ?_
    have hS11 := hS9.drew
    refine rq 0 30 (v := .map (some g)) rfl (hS11.se [0, 1, 2, 4]) (fun w' hw' => (Y_move (v := .map (some g)) rfl (hf.get 7 4 rfl))) ?_
    refine rq 1 31 (v := pt (aD b3) 1) rfl (hS11.se [0, 1, 2, 4]) (fun w' hw' => (Y_fieldAddr (B := aD b3) (i := 0) (s := 0) k_fd_56_1_1_3 k_sz_3_1 rfl rfl)) ?_
    refine rq 2 32 (v := vi x.Coef) rfl (hS11.se [0, 1, 2, 4]) (fun w' hw' => (Y_load1 (B := aD b3) (i := 1) (cs := [vi x.Mask, vi x.Coef]) (v := vi x.Coef) k_sc_3 rfl rfl (ST.cf hw' (i := 3) rfl) rfl)) ?_
    refine rq 3 33 (v := .agg #[vi by_.Mask, vi by_.Turn]) rfl (hS11.se [0, 1, 2, 4]) (fun w' hw' => (Y_loadA (B := aD b1) (i := 0) (cs := [vi by_.Mask, vi by_.Turn]) (vs := [vi by_.Mask, vi by_.Turn]) k_ag_44 k_sz_44_2 rfl (hf.get 5 2 rfl) (ST.cf hw' (i := 1) rfl) rfl rfl)) ?_
    refine rq 4 34 (v := pt (aD b3) 0) rfl (hS11.se [0, 1, 2, 4]) (fun w' hw' => (Y_fieldAddr (B := aD b3) (i := 0) (s := 0) k_fd_56_0_0_3 k_sz_3_1 rfl rfl)) ?_
    refine rq 5 35 (v := vi x.Mask) rfl (hS11.se [0, 1, 2, 4]) (fun w' hw' => (Y_load1 (B := aD b3) (i := 0) (cs := [vi x.Mask, vi x.Coef]) (v := vi x.Mask) k_sc_3 rfl rfl (ST.cf hw' (i := 3) rfl) rfl)) ?_
    refine rq 6 36 (v := vi v_) rfl (hS11.se [0, 1, 2, 4]) (fun w' hw' => (Y_move (v := vi v_) rfl (hf.get 1 0 rfl))) ?_
    refine rq 7 37 (v := vi (shlK .i64 1 v_)) rfl (hS11.se [0, 1, 2, 4]) (fun w' hw' => (Y_shl (k := .i64) (a := 1) (k' := .i64) (b := v_) rfl rfl rfl hsh1)) ?_
    refine rq 8 38 (v := vi (bits .xor .i64 x.Mask (shlK .i64 1 v_))) rfl (hS11.se [0, 1, 2, 4]) (fun w' hw' => (Y_bxor (k := .i64) (a := x.Mask) (b := (shlK .i64 1 v_)) rfl rfl rfl)) ?_
    refine rA [9] ?_
    refine ra_c 39 (i := 9) rfl rfl rfl (Yc_func (g := 61) (vs := [.map (some g), vi x.Coef, .agg #[vi by_.Mask, vi by_.Turn], vi (bits .xor .i64 x.Mask (shlK .i64 1 v_))]) k_call_61 rfl (mc rfl (mc rfl (mc rfl (mc rfl mn)))) (c_impl_polynomial_expand poly x.Coef by_ (bits .xor .i64 x.Mask (shlK .i64 1 v_)) g _  (hS11.inn [false, false, false, true, false] rfl [] rfl) hc)) ?_ ?_
    ·rintro _ w_7 ⟨rfl, hd⟩
     have hS12 := hS11.out [false, false, false, true, false] rfl hd
     refine ⟨(hS12.se [0, 1, 2, 3]), ?_⟩
     refine ra_done (by kernel_rfl) ?_
     exact ⟨m, (some_inj hF3), (FF.cons (hf.get 1 0 rfl) (FF.cons (hf.get 3 1 rfl) (FF.cons (hf.get 5 2 rfl) (FF.cons (hf.get 6 3 rfl) (FF.cons (hf.get 7 4 rfl) (FF.cons (hf.get 18 5 rfl) (FF.cons (hf.get 19 6 rfl) (FF.cons (hf.get 20 7 rfl) FF.nil)))))))), (hS12.sel [0, 1, 2, 4] rfl rfl)⟩
    exact allR_nil
   ·skip
    have hF4 := cf' hz1 hb1
    refine cw_region ?_
    refine sQ 40 (Y_move (v := .map (some g)) rfl (hf.get 7 4 rfl)) ?_
    refine sQ 41 (Y_fieldAddr (B := aD b3) (i := 0) (s := 0) k_fd_56_0_0_3 k_sz_3_1 rfl rfl) ?_
    refine sQ 42 (Y_load1 (B := aD b3) (i := 0) (cs := [vi x.Mask, vi x.Coef]) (v := vi x.Mask) k_sc_3 rfl rfl (hS9.cf (i := 4) rfl) rfl) ?_
    refine sQ 43 (Y_fieldAddr (B := aD b3) (i := 0) (s := 0) k_fd_56_1_1_3 k_sz_3_1 rfl rfl) ?_
    refine sQ 44 (Y_load1 (B := aD b3) (i := 1) (cs := [vi x.Mask, vi x.Coef]) (v := vi x.Coef) k_sc_3 rfl rfl (hS9.cf (i := 4) rfl) rfl) ?_
    obtain ⟨m1, hc1, hF4⟩ := bind_inv hF4
    refine sc 45 rfl rfl (Yc_func (g := 63) (vs := [.map (some g), vi x.Mask, vi x.Coef]) k_call_63 rfl (mc rfl (mc rfl (mc rfl mn))) (c_impl_polynomial_add poly x.Mask x.Coef g _  (hS9.inn [false, false, false, true, false] rfl [] rfl) hc1)) ?_
    rintro _ w_8 ⟨rfl, hd1⟩
    have hS13 := hS9.out [false, false, false, true, false] rfl hd1
    refine rw_nil ?_
    exact ⟨m1, (some_inj hF4), (FF.cons (hf.get 1 0 rfl) (FF.cons (hf.get 3 1 rfl) (FF.cons (hf.get 5 2 rfl) (FF.cons (hf.get 6 3 rfl) (FF.cons (hf.get 7 4 rfl) (FF.cons (hf.get 18 5 rfl) (FF.cons (hf.get 19 6 rfl) (FF.cons (hf.get 20 7 rfl) FF.nil)))))))), (hS13.sel [0, 1, 2, 4] rfl rfl)⟩
  rintro f w ⟨poly1, rfl, hf1, hS7⟩
  refine cw_region ?_
  refine sQ 46 (Y_add (k := .i64) (a := (i : Int)) (b := 1) rfl (hf1.get 20 7 rfl) rfl) ?_
  refine sQ 20 (Y_move (v := vi (i64.wrap ((i : Int) + 1))) rfl rfl) (rw_nil ?_)
  obtain rfl := some_inj hF2
  exact ⟨k_1, Nat.lt_succ_self _, i + 1, poly1, (FF.cons (hf1.get 1 0 rfl) (FF.cons (hf1.get 3 1 rfl) (FF.cons (hf1.get 5 2 rfl) (FF.cons (hf1.get 6 3 rfl) (FF.cons (hf1.get 7 4 rfl) (FF.cons (hf1.get 18 5 rfl) (FF.cons (hf1.get 19 6 rfl) (FF.cons (congrArg (Value.int .i64) (wr_succ hlt1 hN)) FF.nil)))))))), (hS7.sel [0, 1, 2, 3] rfl rfl), (by omega), hL1⟩
 ·skip
  obtain rfl : k_ = 0 := by have h := of_decide_eq_false hlt; omega
  refine cw_exit rfl ?_
  obtain rfl := some_inj hL
  refine cw_seq (cw_region ?_)
  refine sQ 47 (Y_loadA (B := aD b) (i := 0) (cs := [vi p.Ins, vi p.Vars, vi p.Root, vi p.Phase, .slice B p.Terms.length c, .slice B1 p.Out.length c1]) (vs := [vi p.Ins, vi p.Vars, vi p.Root, vi p.Phase, .slice B p.Terms.length c, .slice B1 p.Out.length c1]) k_ag_30 k_sz_30_6 rfl (hf.get 3 1 rfl) (hS6.cf (i := 0) rfl) rfl rfl) ?_
  refine sS 10 (Ys_alloc (T := 30) (cs := [vi 0, vi 0, vi 0, vi 0, .slice none 0 0, .slice none 0 0]) (m := 6) hS6 k_zero_30 rfl rfl rfl) ?_
  rintro _ w_9 ⟨b4, rfl, hS14⟩
  refine s0 (Ys_store (i := 4) (s := 6) (B := aD b4) (T' := 30) (v := .agg #[vi p.Ins, vi p.Vars, vi p.Root, vi p.Phase, .slice B p.Terms.length c, .slice B1 p.Out.length c1]) (vs := [vi p.Ins, vi p.Vars, vi p.Root, vi p.Phase, .slice B p.Terms.length c, .slice B1 p.Out.length c1]) (k := 0) (cs' := [vi p.Ins, vi p.Vars, vi p.Root, vi p.Phase, .slice B p.Terms.length c, .slice B1 p.Out.length c1]) hS14 k_sz_30_6 rfl rfl rfl rfl rfl rfl rfl (lB rfl) rfl rfl) ?_
  rintro _ w_10 ⟨rfl, hS15⟩
  refine rw_nil (cw_seq ?_)
  obtain ⟨r_1, hc2, hF1⟩ := bind_inv hF1
  refine cw_mid (fun f w => ∃ (B5 : Option Addr) (c5 : Nat), FF f [(1, vi v_), (3, pt (aD b) 0), (5, pt (aD b1) 0), (6, pt (aD b2) 0), (10, pt (aD b4) 0)] ∧ ST w0 [] w [⟨aD b, 30, [vi p.Ins, vi p.Vars, vi p.Root, vi p.Phase, .slice B p.Terms.length c, .slice B1 p.Out.length c1], 6⟩, ⟨aD b1, 44, [vi by_.Mask, vi by_.Turn], 2⟩, ⟨aD b2, 30, [vi 0, vi 0, vi 0, vi 0, .slice none 0 0, .slice none 0 0], 6⟩, ⟨aD b4, 30, [vi p.Ins, vi p.Vars, vi p.Root, vi (mgt poly 0 0), .slice B5 r_1.length c5, .slice none 0 0], 6⟩, ⟨B5, 56, (r_1.flatMap eN0), c5 * 2⟩] [⟨B, (p.Terms.flatMap eN0)⟩, ⟨B1, (p.Out.flatMap eN1)⟩]) ?_ ?_
  ·skip
   refine ra_start (hS15.se [0, 1, 2]).fn (by kernel_rfl) ?_
   have hS18 := hS15.drew
   refine rq 0 48 (v := .map (some g)) rfl (hS18.se [0, 1, 2]) (fun w' hw' => (Y_move (v := .map (some g)) rfl (hf.get 7 4 rfl))) ?_
   refine rq 2 50 (v := .map (some g)) rfl (hS18.se [0, 1, 2]) (fun w' hw' => (Y_move (v := .map (some g)) rfl (hf.get 7 4 rfl))) ?_
   refine rA [1, 3] ?_
   refine ra_y 49 (i := 1) (v := vi (mgt poly 0 0)) rfl rfl rfl (Y_mapGet (kE := (Value.int .i64)) (vE := (Value.int .i64)) (l := poly) (a := 0) (d := 0) (g := g) (i := 3) hS18 (keyInt k_int_3_i64) k_map_93_3_3 k_zero_3 rfl rfl rfl rfl) (hS18.se [0, 1, 2]) ?_ ?_
   ·skip
    refine rq 4 52 (v := pt (aD b4) 3) rfl (hS18.se [0, 1, 2]) (fun w' hw' => (Y_fieldAddr (B := aD b4) (i := 0) (s := 0) k_fd_30_3_3_3 k_sz_3_1 rfl rfl)) ?_
    refine rA [3] ?_
    refine ra_c 51 (i := 3) rfl rfl rfl (Yc_func (g := 62) (vs := [.map (some g)]) k_call_62 rfl (mc rfl mn) (c_impl_polynomial_terms poly g _  (hS18.inn [false, false, false, true, false] rfl [] rfl) hc2)) ?_ ?_
    ·rintro _ w_11 ⟨B4, c4, rfl, hd2⟩
     have hS19 := hS18.out [false, false, false, true, false] rfl hd2
     refine ⟨(hS19.se [0, 1, 2]), ?_⟩
     refine rA [5] ?_
     refine ra_s0 (i := 5) rfl rfl rfl (Ys_store (i := 3) (s := 1) (B := aD b4) (T' := 30) (v := vi (mgt poly 0 0)) (vs := [vi (mgt poly 0 0)]) (k := 3) (cs' := [vi p.Ins, vi p.Vars, vi p.Root, vi (mgt poly 0 0), .slice B p.Terms.length c, .slice B1 p.Out.length c1]) hS19 k_sz_3_1 rfl rfl rfl rfl rfl rfl rfl (lB rfl) rfl rfl) ?_ ?_
     ·rintro _ w_12 ⟨rfl, hS20⟩
      refine ⟨(hS20.se [0, 1, 2]), ?_⟩
      refine rq 6 53 (v := pt (aD b4) 4) rfl (hS20.se [0, 1, 2]) (fun w' hw' => (Y_fieldAddr (B := aD b4) (i := 0) (s := 0) k_fd_30_4_4_27 k_sz_27_1 rfl rfl)) ?_
      refine rA [7] ?_
      refine ra_s0 (i := 7) rfl rfl rfl (Ys_store (i := 3) (s := 1) (B := aD b4) (T' := 30) (v := .slice B4 r_1.length c4) (vs := [.slice B4 r_1.length c4]) (k := 4) (cs' := [vi p.Ins, vi p.Vars, vi p.Root, vi (mgt poly 0 0), .slice B4 r_1.length c4, .slice B1 p.Out.length c1]) hS20 k_sz_27_1 rfl rfl rfl rfl rfl rfl rfl (lB rfl) rfl rfl) ?_ ?_
      ·rintro _ w_13 ⟨rfl, hS21⟩
       refine ⟨(hS21.se [0, 1, 2]), ?_⟩
       refine rq 8 54 (v := pt (aD b4) 5) rfl (hS21.se [0, 1, 2]) (fun w' hw' => (Y_fieldAddr (B := aD b4) (i := 0) (s := 0) k_fd_30_5_5_28 k_sz_28_1 rfl rfl)) ?_
       refine rA [9] ?_
       refine ra_s0 (i := 9) rfl rfl rfl (Ys_store (i := 3) (s := 1) (B := aD b4) (T' := 30) (v := .slice none 0 0) (vs := [.slice none 0 0]) (k := 5) (cs' := [vi p.Ins, vi p.Vars, vi p.Root, vi (mgt poly 0 0), .slice B4 r_1.length c4, .slice none 0 0]) hS21 k_sz_28_1 rfl rfl rfl rfl rfl rfl rfl (lB rfl) rfl rfl) ?_ ?_
       ·rintro _ w_14 ⟨rfl, hS22⟩
        refine ⟨(hS22.se [0, 1, 2]), ?_⟩
        refine ra_done (by kernel_rfl) ?_
        exact ⟨B4, c4, (FF.cons (hf.get 1 0 rfl) (FF.cons (hf.get 3 1 rfl) (FF.cons (hf.get 5 2 rfl) (FF.cons (hf.get 6 3 rfl) (FF.cons rfl FF.nil))))), (hS22.sel [0, 1, 2, 3, 5] rfl rfl)⟩
       exact allR_nil
      exact allR_nil
     exact allR_nil
    exact allR_nil
   refine ra_c 51 (i := 3) rfl rfl rfl (Yc_func (g := 62) (vs := [.map (some g)]) k_call_62 rfl (mc rfl mn) (c_impl_polynomial_terms poly g _  (hS18.inn [false, false, false, true, false] rfl [] rfl) hc2)) ?_ ?_
   ·rintro _ w_15 ⟨B4, c4, rfl, hd3⟩
    have hS23 := hS18.out [false, false, false, true, false] rfl hd3
    refine ⟨(hS23.se [0, 1, 2]), ?_⟩
    refine rA [1] ?_
    refine ra_y 49 (i := 1) (v := vi (mgt poly 0 0)) rfl rfl rfl (Y_mapGet (kE := (Value.int .i64)) (vE := (Value.int .i64)) (l := poly) (a := 0) (d := 0) (g := g) (i := 4) hS23 (keyInt k_int_3_i64) k_map_93_3_3 k_zero_3 rfl rfl rfl rfl) (hS23.se [0, 1, 2]) ?_ ?_
    ·skip
     refine rq 4 52 (v := pt (aD b4) 3) rfl (hS23.se [0, 1, 2]) (fun w' hw' => (Y_fieldAddr (B := aD b4) (i := 0) (s := 0) k_fd_30_3_3_3 k_sz_3_1 rfl rfl)) ?_
     refine rA [5] ?_
     refine ra_s0 (i := 5) rfl rfl rfl (Ys_store (i := 3) (s := 1) (B := aD b4) (T' := 30) (v := vi (mgt poly 0 0)) (vs := [vi (mgt poly 0 0)]) (k := 3) (cs' := [vi p.Ins, vi p.Vars, vi p.Root, vi (mgt poly 0 0), .slice B p.Terms.length c, .slice B1 p.Out.length c1]) hS23 k_sz_3_1 rfl rfl rfl rfl rfl rfl rfl (lB rfl) rfl rfl) ?_ ?_
     ·rintro _ w_16 ⟨rfl, hS24⟩
      refine ⟨(hS24.se [0, 1, 2]), ?_⟩
      refine rq 6 53 (v := pt (aD b4) 4) rfl (hS24.se [0, 1, 2]) (fun w' hw' => (Y_fieldAddr (B := aD b4) (i := 0) (s := 0) k_fd_30_4_4_27 k_sz_27_1 rfl rfl)) ?_
      refine rA [7] ?_
      refine ra_s0 (i := 7) rfl rfl rfl (Ys_store (i := 3) (s := 1) (B := aD b4) (T' := 30) (v := .slice B4 r_1.length c4) (vs := [.slice B4 r_1.length c4]) (k := 4) (cs' := [vi p.Ins, vi p.Vars, vi p.Root, vi (mgt poly 0 0), .slice B4 r_1.length c4, .slice B1 p.Out.length c1]) hS24 k_sz_27_1 rfl rfl rfl rfl rfl rfl rfl (lB rfl) rfl rfl) ?_ ?_
      ·rintro _ w_17 ⟨rfl, hS25⟩
       refine ⟨(hS25.se [0, 1, 2]), ?_⟩
       refine rq 8 54 (v := pt (aD b4) 5) rfl (hS25.se [0, 1, 2]) (fun w' hw' => (Y_fieldAddr (B := aD b4) (i := 0) (s := 0) k_fd_30_5_5_28 k_sz_28_1 rfl rfl)) ?_
       refine rA [9] ?_
       refine ra_s0 (i := 9) rfl rfl rfl (Ys_store (i := 3) (s := 1) (B := aD b4) (T' := 30) (v := .slice none 0 0) (vs := [.slice none 0 0]) (k := 5) (cs' := [vi p.Ins, vi p.Vars, vi p.Root, vi (mgt poly 0 0), .slice B4 r_1.length c4, .slice none 0 0]) hS25 k_sz_28_1 rfl rfl rfl rfl rfl rfl rfl (lB rfl) rfl rfl) ?_ ?_
       ·rintro _ w_18 ⟨rfl, hS26⟩
        refine ⟨(hS26.se [0, 1, 2]), ?_⟩
        refine ra_done (by kernel_rfl) ?_
        exact ⟨B4, c4, (FF.cons (hf.get 1 0 rfl) (FF.cons (hf.get 3 1 rfl) (FF.cons (hf.get 5 2 rfl) (FF.cons (hf.get 6 3 rfl) (FF.cons rfl FF.nil))))), (hS26.sel [0, 1, 2, 3, 5] rfl rfl)⟩
       exact allR_nil
      exact allR_nil
     exact allR_nil
    exact allR_nil
   exact allR_nil
  rintro f w ⟨B5, c5, hf2, hS17⟩
  refine cw_seq (cw_seq (cw_region ?_))
  refine sQ 55 (Y_fieldAddr (B := aD b) (i := 0) (s := 0) k_fd_30_5_5_28 k_sz_28_1 rfl (hf2.get 3 1 rfl)) ?_
  refine sQ 56 (Y_load1 (B := aD b) (i := 5) (cs := [vi p.Ins, vi p.Vars, vi p.Root, vi p.Phase, .slice B p.Terms.length c, .slice B1 p.Out.length c1]) (v := .slice B1 p.Out.length c1) k_sc_28 rfl rfl (hS17.cf (i := 0) rfl) rfl) ?_
  refine sQ 57 (Y_len (B := B1) (m := p.Out.length) (c := c1) k_sl_28_44 rfl rfl) ?_
  refine sQ 58 (Y_move (v := vi 0) rfl rfl) (rw_nil ?_)
  obtain ⟨z2, hz2, hF5⟩ := bind_inv hF1
  have hS28 := hS17.addNil 44
  refine cw_block ?_
  refine cw_loop (fun k f w => ∃ (Out : List TAffine) (t : Int) (B6 : Option Addr) (c6 : Nat), FF f [(1, vi v_), (5, pt (aD b1) 0), (6, pt (aD b2) 0), (10, pt (aD b4) 0), (56, .slice B1 p.Out.length c1), (57, vi (p.Out.length : Int)), (58, vi t)] ∧ ST w0 [] w [⟨aD b1, 44, [vi by_.Mask, vi by_.Turn], 2⟩, ⟨aD b2, 30, [vi 0, vi 0, vi 0, vi 0, .slice none 0 0, .slice none 0 0], 6⟩, ⟨aD b4, 30, [vi p.Ins, vi p.Vars, vi p.Root, vi (mgt poly 0 0), .slice B5 r_1.length c5, .slice B6 Out.length c6], 6⟩, ⟨B5, 56, (r_1.flatMap eN0), c5 * 2⟩, ⟨B6, 44, (Out.flatMap eN1), c6 * 2⟩] [⟨B, (p.Terms.flatMap eN0)⟩, ⟨B1, (p.Out.flatMap eN1)⟩] ∧ whX (F_impl_PathSum_substituted_l2 p v_ by_) k (Out, t) = some z2) fuel ⟨[], 0, none, 0, (FF.cons (hf2.get 1 0 rfl) (FF.cons (hf2.get 5 2 rfl) (FF.cons (hf2.get 6 3 rfl) (FF.cons (hf2.get 10 4 rfl) (FF.cons rfl (FF.cons rfl (FF.cons rfl FF.nil))))))), (hS28.sel [1, 2, 3, 4, 5] rfl rfl), hz2⟩ ?_
  rintro k_2 f w ⟨Out, t, B6, c6, hf3, hS27, hL2⟩
  obtain ⟨k_3, y1, rfl, hb2, hL3⟩ := whX_go hL2
  unfold F_impl_PathSum_substituted_l2 at hb2
  refine cw_seq (cw_region ?_)
  refine sQ 59 (Y_lt (k := .i64) (a := t) (b := (p.Out.length : Int)) rfl (hf3.get 58 6 rfl) (hf3.get 57 5 rfl)) (rw_nil (cw_seq ?_))
  refine cw_cond (b := (decide (t < (p.Out.length : Int)))) rfl (fun hb3 => ?_) (fun hb3 => ?_)
  ·skip
   have hF6 := ct hb2 hb3
   refine cw_skip (cw_seq (cw_block (cw_seq (cw_region ?_))))
   obtain ⟨x1, hx1, hF6⟩ := bind_inv hF6
   refine sQ 60 (Y_index (B := B1) (m := p.Out.length) (c := c1) (k := .i64) (i := t) k_sl_28_44 k_sz_44_2 rfl (hf3.get 56 4 rfl) (hf3.get 58 6 rfl) (gi_isSome enc_Affine_len rfl (hS27.rf (i := 1) rfl) hx1) (getI_nn hx1) (getI_ltI hx1 rfl)) ?_
   refine sQ 61 (Y_loadA (B := B1) (i := t.toNat * 2) (cs := (p.Out.flatMap eN1)) (vs := [vi x1.Mask, vi x1.Turn]) k_ag_44 k_sz_44_2 rfl rfl (hS27.rf (i := 1) rfl) (enc_Affine_len x1) (gi_seg enc_Affine_len hx1)) ?_
   refine sS 12 (Ys_alloc (T := 44) (cs := [vi 0, vi 0]) (m := 2) hS27 k_zero_44 rfl rfl rfl) ?_
   rintro _ w_19 ⟨b5, rfl, hS29⟩
   refine s0 (Ys_store (i := 5) (s := 2) (B := aD b5) (T' := 44) (v := .agg #[vi x1.Mask, vi x1.Turn]) (vs := [vi x1.Mask, vi x1.Turn]) (k := 0) (cs' := [vi x1.Mask, vi x1.Turn]) hS29 k_sz_44_2 rfl rfl rfl rfl rfl rfl rfl (lB rfl) rfl rfl) ?_
   rintro _ w_20 ⟨rfl, hS30⟩
   refine rw_nil (cw_seq ?_)
   obtain ⟨z3, hz3, hF7⟩ := bind_inv hF6
   refine cw_mid (fun f w => ∃ (Mask : Int) (Turn : Int), (Mask, Turn) = z3 ∧ FF f [(1, vi v_), (5, pt (aD b1) 0), (6, pt (aD b2) 0), (10, pt (aD b4) 0), (12, pt (aD b5) 0), (56, .slice B1 p.Out.length c1), (57, vi (p.Out.length : Int)), (58, vi t)] ∧ ST w0 [] w [⟨aD b1, 44, [vi by_.Mask, vi by_.Turn], 2⟩, ⟨aD b2, 30, [vi 0, vi 0, vi 0, vi 0, .slice none 0 0, .slice none 0 0], 6⟩, ⟨aD b4, 30, [vi p.Ins, vi p.Vars, vi p.Root, vi (mgt poly 0 0), .slice B5 r_1.length c5, .slice B6 Out.length c6], 6⟩, ⟨B5, 56, (r_1.flatMap eN0), c5 * 2⟩, ⟨B6, 44, (Out.flatMap eN1), c6 * 2⟩, ⟨aD b5, 44, [vi Mask, vi Turn], 2⟩] [⟨B, (p.Terms.flatMap eN0)⟩, ⟨B1, (p.Out.flatMap eN1)⟩]) ?_ ?_
   ·skip
    refine cw_seq (cw_region ?_)
    refine sQ 62 (Y_fieldAddr (B := aD b5) (i := 0) (s := 0) k_fd_44_0_0_3 k_sz_3_1 rfl rfl) ?_
    refine sQ 63 (Y_load1 (B := aD b5) (i := 0) (cs := [vi x1.Mask, vi x1.Turn]) (v := vi x1.Mask) k_sc_3 rfl rfl (hS30.cf (i := 5) rfl) rfl) ?_
    refine sQ 64 (Y_move (v := vi v_) rfl (hf3.get 1 0 rfl)) ?_
    obtain ⟨hsh2, hz3⟩ := chk_inv hz3
    refine sQ 65 (Y_shr (k := .i64) (a := x1.Mask) (k' := .i64) (b := v_) rfl rfl rfl hsh2) ?_
    refine sQ 66 (Y_band (k := .i64) (a := (shrK .i64 x1.Mask v_)) (b := 1) rfl rfl rfl) ?_
    refine sQ 67 (Y_eq (k := .i64) (a := (bits .and .i64 (shrK .i64 x1.Mask v_) 1)) (b := 1) rfl rfl rfl) (rw_nil ?_)
    refine cw_cond (b := ((bits .and .i64 (shrK .i64 x1.Mask v_) 1) == 1)) rfl (fun hb4 => ?_) (fun hb4 => ?_)
    ·skip
     have hF8 := ct hz3 hb4
     obtain ⟨hsh3, hF8⟩ := chk_inv hF8
     refine cw_mid (fun f w => FF f [(1, vi v_), (5, pt (aD b1) 0), (6, pt (aD b2) 0), (10, pt (aD b4) 0), (12, pt (aD b5) 0), (56, .slice B1 p.Out.length c1), (57, vi (p.Out.length : Int)), (58, vi t)] ∧ ST w0 [] w [⟨aD b1, 44, [vi by_.Mask, vi by_.Turn], 2⟩, ⟨aD b2, 30, [vi 0, vi 0, vi 0, vi 0, .slice none 0 0, .slice none 0 0], 6⟩, ⟨aD b4, 30, [vi p.Ins, vi p.Vars, vi p.Root, vi (mgt poly 0 0), .slice B5 r_1.length c5, .slice B6 Out.length c6], 6⟩, ⟨B5, 56, (r_1.flatMap eN0), c5 * 2⟩, ⟨B6, 44, (Out.flatMap eN1), c6 * 2⟩, ⟨aD b5, 44, [vi (bits .xor .i64 (bits .xor .i64 x1.Mask (shlK .i64 1 v_)) by_.Mask), vi (bits .xor .i64 x1.Turn by_.Turn)], 2⟩] [⟨B, (p.Terms.flatMap eN0)⟩, ⟨B1, (p.Out.flatMap eN1)⟩]) ?_ ?_
     ·skip
      refine ra_start (hS30.se [0, 1, 2, 3, 4]).fn (by kernel_rfl) ?_
      have hS33 := hS30.drew
      refine rq 0 68 (v := pt (aD b5) 0) rfl (hS33.se [0, 1, 2, 3, 4]) (fun w' hw' => (Y_fieldAddr (B := aD b5) (i := 0) (s := 0) k_fd_44_0_0_3 k_sz_3_1 rfl rfl)) ?_
      refine rq 2 70 (v := vi v_) rfl (hS33.se [0, 1, 2, 3, 4]) (fun w' hw' => (Y_move (v := vi v_) rfl (hf3.get 1 0 rfl))) ?_
      refine rq 3 71 (v := vi (shlK .i64 1 v_)) rfl (hS33.se [0, 1, 2, 3, 4]) (fun w' hw' => (Y_shl (k := .i64) (a := 1) (k' := .i64) (b := v_) rfl rfl rfl hsh3)) ?_
      refine rq 5 73 (v := pt (aD b1) 0) rfl (hS33.se [0, 1, 2, 3, 4]) (fun w' hw' => (Y_fieldAddr (B := aD b1) (i := 0) (s := 0) k_fd_44_0_0_3 k_sz_3_1 rfl (hf3.get 5 1 rfl))) ?_
      refine rq 6 74 (v := vi by_.Mask) rfl (hS33.se [0, 1, 2, 3, 4]) (fun w' hw' => (Y_load1 (B := aD b1) (i := 0) (cs := [vi by_.Mask, vi by_.Turn]) (v := vi by_.Mask) k_sc_3 rfl rfl (ST.cf hw' (i := 0) rfl) rfl)) ?_
      refine rq 8 76 (v := pt (aD b5) 1) rfl (hS33.se [0, 1, 2, 3, 4]) (fun w' hw' => (Y_fieldAddr (B := aD b5) (i := 0) (s := 0) k_fd_44_1_1_3 k_sz_3_1 rfl rfl)) ?_
      refine rq 10 78 (v := pt (aD b1) 1) rfl (hS33.se [0, 1, 2, 3, 4]) (fun w' hw' => (Y_fieldAddr (B := aD b1) (i := 0) (s := 0) k_fd_44_1_1_3 k_sz_3_1 rfl (hf3.get 5 1 rfl))) ?_
      refine rq 11 79 (v := vi by_.Turn) rfl (hS33.se [0, 1, 2, 3, 4]) (fun w' hw' => (Y_load1 (B := aD b1) (i := 1) (cs := [vi by_.Mask, vi by_.Turn]) (v := vi by_.Turn) k_sc_3 rfl rfl (ST.cf hw' (i := 0) rfl) rfl)) ?_
      refine rA [1, 9] ?_
      refine ra_y 69 (i := 1) (v := vi x1.Mask) rfl rfl rfl (Y_load1 (B := aD b5) (i := 0) (cs := [vi x1.Mask, vi x1.Turn]) (v := vi x1.Mask) k_sc_3 rfl rfl (hS33.cf (i := 5) rfl) rfl) (hS33.se [0, 1, 2, 3, 4]) ?_ ?_
      ·skip
       refine rq 4 72 (v := vi (bits .xor .i64 x1.Mask (shlK .i64 1 v_))) rfl (hS33.se [0, 1, 2, 3, 4]) (fun w' hw' => (Y_bxor (k := .i64) (a := x1.Mask) (b := (shlK .i64 1 v_)) rfl rfl rfl)) ?_
       refine rq 7 75 (v := vi (bits .xor .i64 (bits .xor .i64 x1.Mask (shlK .i64 1 v_)) by_.Mask)) rfl (hS33.se [0, 1, 2, 3, 4]) (fun w' hw' => (Y_bxor (k := .i64) (a := (bits .xor .i64 x1.Mask (shlK .i64 1 v_))) (b := by_.Mask) rfl rfl rfl)) ?_
       refine rA [9] ?_
       refine ra_y 77 (i := 9) (v := vi x1.Turn) rfl rfl rfl (Y_load1 (B := aD b5) (i := 1) (cs := [vi x1.Mask, vi x1.Turn]) (v := vi x1.Turn) k_sc_3 rfl rfl (hS33.cf (i := 5) rfl) rfl) (hS33.se [0, 1, 2, 3, 4]) ?_ ?_
       ·skip
        refine rq 12 80 (v := vi (bits .xor .i64 x1.Turn by_.Turn)) rfl (hS33.se [0, 1, 2, 3, 4]) (fun w' hw' => (Y_bxor (k := .i64) (a := x1.Turn) (b := by_.Turn) rfl rfl rfl)) ?_
        refine rq 13 81 (v := .agg #[vi (bits .xor .i64 (bits .xor .i64 x1.Mask (shlK .i64 1 v_)) by_.Mask), vi (bits .xor .i64 x1.Turn by_.Turn)]) rfl (hS33.se [0, 1, 2, 3, 4]) (fun w' hw' => (Y_buildS (zs := [vi 0, vi 0]) (vs := [(0, vi (bits .xor .i64 (bits .xor .i64 x1.Mask (shlK .i64 1 v_)) by_.Mask)), (1, vi (bits .xor .i64 x1.Turn by_.Turn))]) (cs := [vi (bits .xor .i64 (bits .xor .i64 x1.Mask (shlK .i64 1 v_)) by_.Mask), vi (bits .xor .i64 x1.Turn by_.Turn)]) k_pl_44 k_zero_44 rfl (mpc rfl (mpc rfl mpn)) rfl)) ?_
        refine rA [14] ?_
        refine ra_s0 (i := 14) rfl rfl rfl (Ys_store (i := 5) (s := 2) (B := aD b5) (T' := 44) (v := .agg #[vi (bits .xor .i64 (bits .xor .i64 x1.Mask (shlK .i64 1 v_)) by_.Mask), vi (bits .xor .i64 x1.Turn by_.Turn)]) (vs := [vi (bits .xor .i64 (bits .xor .i64 x1.Mask (shlK .i64 1 v_)) by_.Mask), vi (bits .xor .i64 x1.Turn by_.Turn)]) (k := 0) (cs' := [vi (bits .xor .i64 (bits .xor .i64 x1.Mask (shlK .i64 1 v_)) by_.Mask), vi (bits .xor .i64 x1.Turn by_.Turn)]) hS33 k_sz_44_2 rfl rfl rfl rfl rfl rfl rfl (lB rfl) rfl rfl) ?_ ?_
        ·rintro _ w_21 ⟨rfl, hS34⟩
         refine ⟨(hS34.se [0, 1, 2, 3, 4]), ?_⟩
         refine ra_done (by kernel_rfl) ?_
         exact ⟨(FF.cons (hf3.get 1 0 rfl) (FF.cons (hf3.get 5 1 rfl) (FF.cons (hf3.get 6 2 rfl) (FF.cons (hf3.get 10 3 rfl) (FF.cons rfl (FF.cons (hf3.get 56 4 rfl) (FF.cons (hf3.get 57 5 rfl) (FF.cons (hf3.get 58 6 rfl) FF.nil)))))))), (hS34.sel [0, 1, 2, 3, 4, 5] rfl rfl)⟩
        exact allR_nil
       exact allR_nil
      refine ra_y 77 (i := 9) (v := vi x1.Turn) rfl rfl rfl (Y_load1 (B := aD b5) (i := 1) (cs := [vi x1.Mask, vi x1.Turn]) (v := vi x1.Turn) k_sc_3 rfl rfl (hS33.cf (i := 5) rfl) rfl) (hS33.se [0, 1, 2, 3, 4]) ?_ ?_
      ·skip
       refine rq 12 80 (v := vi (bits .xor .i64 x1.Turn by_.Turn)) rfl (hS33.se [0, 1, 2, 3, 4]) (fun w' hw' => (Y_bxor (k := .i64) (a := x1.Turn) (b := by_.Turn) rfl rfl rfl)) ?_
       refine rA [1] ?_
       refine ra_y 69 (i := 1) (v := vi x1.Mask) rfl rfl rfl (Y_load1 (B := aD b5) (i := 0) (cs := [vi x1.Mask, vi x1.Turn]) (v := vi x1.Mask) k_sc_3 rfl rfl (hS33.cf (i := 5) rfl) rfl) (hS33.se [0, 1, 2, 3, 4]) ?_ ?_
       ·skip
        refine rq 4 72 (v := vi (bits .xor .i64 x1.Mask (shlK .i64 1 v_))) rfl (hS33.se [0, 1, 2, 3, 4]) (fun w' hw' => (Y_bxor (k := .i64) (a := x1.Mask) (b := (shlK .i64 1 v_)) rfl rfl rfl)) ?_
        refine rq 7 75 (v := vi (bits .xor .i64 (bits .xor .i64 x1.Mask (shlK .i64 1 v_)) by_.Mask)) rfl (hS33.se [0, 1, 2, 3, 4]) (fun w' hw' => (Y_bxor (k := .i64) (a := (bits .xor .i64 x1.Mask (shlK .i64 1 v_))) (b := by_.Mask) rfl rfl rfl)) ?_
        refine rq 13 81 (v := .agg #[vi (bits .xor .i64 (bits .xor .i64 x1.Mask (shlK .i64 1 v_)) by_.Mask), vi (bits .xor .i64 x1.Turn by_.Turn)]) rfl (hS33.se [0, 1, 2, 3, 4]) (fun w' hw' => (Y_buildS (zs := [vi 0, vi 0]) (vs := [(0, vi (bits .xor .i64 (bits .xor .i64 x1.Mask (shlK .i64 1 v_)) by_.Mask)), (1, vi (bits .xor .i64 x1.Turn by_.Turn))]) (cs := [vi (bits .xor .i64 (bits .xor .i64 x1.Mask (shlK .i64 1 v_)) by_.Mask), vi (bits .xor .i64 x1.Turn by_.Turn)]) k_pl_44 k_zero_44 rfl (mpc rfl (mpc rfl mpn)) rfl)) ?_
        refine rA [14] ?_
        refine ra_s0 (i := 14) rfl rfl rfl (Ys_store (i := 5) (s := 2) (B := aD b5) (T' := 44) (v := .agg #[vi (bits .xor .i64 (bits .xor .i64 x1.Mask (shlK .i64 1 v_)) by_.Mask), vi (bits .xor .i64 x1.Turn by_.Turn)]) (vs := [vi (bits .xor .i64 (bits .xor .i64 x1.Mask (shlK .i64 1 v_)) by_.Mask), vi (bits .xor .i64 x1.Turn by_.Turn)]) (k := 0) (cs' := [vi (bits .xor .i64 (bits .xor .i64 x1.Mask (shlK .i64 1 v_)) by_.Mask), vi (bits .xor .i64 x1.Turn by_.Turn)]) hS33 k_sz_44_2 rfl rfl rfl rfl rfl rfl rfl (lB rfl) rfl rfl) ?_ ?_
        ·rintro _ w_22 ⟨rfl, hS35⟩
         refine ⟨(hS35.se [0, 1, 2, 3, 4]), ?_⟩
         refine ra_done (by kernel_rfl) ?_
         exact ⟨(FF.cons (hf3.get 1 0 rfl) (FF.cons (hf3.get 5 1 rfl) (FF.cons (hf3.get 6 2 rfl) (FF.cons (hf3.get 10 3 rfl) (FF.cons rfl (FF.cons (hf3.get 56 4 rfl) (FF.cons (hf3.get 57 5 rfl) (FF.cons (hf3.get 58 6 rfl) FF.nil)))))))), (hS35.sel [0, 1, 2, 3, 4, 5] rfl rfl)⟩
        exact allR_nil
       exact allR_nil
      exact allR_nil
     rintro f w ⟨hf5, hS32⟩
     exact ⟨(bits .xor .i64 (bits .xor .i64 x1.Mask (shlK .i64 1 v_)) by_.Mask), (bits .xor .i64 x1.Turn by_.Turn), (some_inj hF8), (FF.cons (hf5.get 1 0 rfl) (FF.cons (hf5.get 5 1 rfl) (FF.cons (hf5.get 6 2 rfl) (FF.cons (hf5.get 10 3 rfl) (FF.cons (hf5.get 12 4 rfl) (FF.cons (hf5.get 56 5 rfl) (FF.cons (hf5.get 57 6 rfl) (FF.cons (hf5.get 58 7 rfl) FF.nil)))))))), (hS32.sel [0, 1, 2, 3, 4, 5] rfl rfl)⟩
    ·skip
     have hF9 := cf' hz3 hb4
     refine cw_skip ?_
     exact ⟨x1.Mask, x1.Turn, (some_inj hF9), (FF.cons (hf3.get 1 0 rfl) (FF.cons (hf3.get 5 1 rfl) (FF.cons (hf3.get 6 2 rfl) (FF.cons (hf3.get 10 3 rfl) (FF.cons rfl (FF.cons (hf3.get 56 4 rfl) (FF.cons (hf3.get 57 5 rfl) (FF.cons (hf3.get 58 6 rfl) FF.nil)))))))), (hS30.sel [0, 1, 2, 3, 4, 5] rfl rfl)⟩
   rintro f w ⟨Mask, Turn, rfl, hf4, hS31⟩
   refine cw_region ?_
   refine sQ 82 (Y_fieldAddr (B := aD b4) (i := 0) (s := 0) k_fd_30_5_5_28 k_sz_28_1 rfl (hf4.get 10 3 rfl)) ?_
   refine sQ 83 (Y_load1 (B := aD b4) (i := 5) (cs := [vi p.Ins, vi p.Vars, vi p.Root, vi (mgt poly 0 0), .slice B5 r_1.length c5, .slice B6 Out.length c6]) (v := .slice B6 Out.length c6) k_sc_28 rfl rfl (hS31.cf (i := 2) rfl) rfl) ?_
   refine sQ 84 (Y_loadA (B := aD b5) (i := 0) (cs := [vi Mask, vi Turn]) (vs := [vi Mask, vi Turn]) k_ag_44 k_sz_44_2 rfl (hf4.get 12 4 rfl) (hS31.cf (i := 5) rfl) rfl rfl) ?_
   refine sS 85 (Ys_bslice (s := 2) (len := 1) (vs := [(0, .agg #[vi Mask, vi Turn])]) (cs := [vi Mask, vi Turn]) (zs := [vi 0, vi 0]) (m := 2) hS31 k_sl_28_44 k_sz_44_2 k_zc_44 rfl (mpc rfl mpn) rfl rfl rfl (by kernel_rfl) (by kernel_rfl) rfl) ?_
   rintro _ w_23 ⟨b6, rfl, hS36⟩
   obtain ⟨hap, hF7⟩ := chk_inv hF7
   refine sS 86 (Ys_append (s := 2) (by' := 16) (i := 4) (nn := Out.length) (c := c6) (k := 1) (len := (Out ++ [(TAffine.mk Mask Turn)]).length) (B := B6) (xs := ([(TAffine.mk Mask Turn)].flatMap eN1)) (cs' := ((Out ++ [(TAffine.mk Mask Turn)]).flatMap eN1)) hS36 k_sl_28_44 k_sz_44_2 k_by_44_16 k_zero_44 rfl (by decide) rfl rfl rfl rfl (fm_lenn (l := Out) enc_Affine_len rfl) rfl (hS36.cf (i := 6) rfl) (fm_lenn (l := [(TAffine.mk Mask Turn)]) enc_Affine_len rfl) (fm_one' (enc := eN1) enc_Affine_one [(TAffine.mk Mask Turn)]) (by have := hap; omega) (by have := hap; simp only [maxLen]; omega) (fm_app _ _) (app_len (l := Out) (l' := [(TAffine.mk Mask Turn)]) rfl rfl)) ?_
   rintro _ w_24 ⟨B7, c7, rfl, hS37⟩
   refine sQ 87 (Y_fieldAddr (B := aD b4) (i := 0) (s := 0) k_fd_30_5_5_28 k_sz_28_1 rfl (hf4.get 10 3 rfl)) ?_
   refine s0 (Ys_store (i := 2) (s := 1) (B := aD b4) (T' := 30) (v := .slice B7 ((Out ++ [(TAffine.mk Mask Turn)]).length) c7) (vs := [.slice B7 ((Out ++ [(TAffine.mk Mask Turn)]).length) c7]) (k := 5) (cs' := [vi p.Ins, vi p.Vars, vi p.Root, vi (mgt poly 0 0), .slice B5 r_1.length c5, .slice B7 ((Out ++ [(TAffine.mk Mask Turn)]).length) c7]) hS37 k_sz_28_1 rfl rfl rfl rfl rfl rfl rfl (lB rfl) rfl rfl) ?_
   rintro _ w_25 ⟨rfl, hS38⟩
   refine rw_nil (cw_region ?_)
   refine sQ 88 (Y_add (k := .i64) (a := t) (b := 1) rfl (hf4.get 58 7 rfl) rfl) ?_
   refine sQ 58 (Y_move (v := vi (i64.wrap (t + 1))) rfl rfl) (rw_nil ?_)
   obtain rfl := some_inj hF7
   exact ⟨k_3, Nat.lt_succ_self _, (Out ++ [(TAffine.mk Mask Turn)]), (i64.wrap (t + 1)), B7, c7, (FF.cons (hf4.get 1 0 rfl) (FF.cons (hf4.get 5 1 rfl) (FF.cons (hf4.get 6 2 rfl) (FF.cons (hf4.get 10 3 rfl) (FF.cons (hf4.get 56 5 rfl) (FF.cons (hf4.get 57 6 rfl) (FF.cons rfl FF.nil))))))), (hS38.sel [0, 1, 2, 3, 4] rfl rfl), hL3⟩
  ·skip
   have hF10 := cf' hb2 hb3
   refine cw_exit rfl ?_
   obtain rfl := some_inj hF10
   obtain rfl := some_inj hL3
   refine cw_seq (cw_region ?_)
   refine sQ 89 (Y_loadA (B := aD b4) (i := 0) (cs := [vi p.Ins, vi p.Vars, vi p.Root, vi (mgt poly 0 0), .slice B5 r_1.length c5, .slice B6 Out.length c6]) (vs := [vi p.Ins, vi p.Vars, vi p.Root, vi (mgt poly 0 0), .slice B5 r_1.length c5, .slice B6 Out.length c6]) k_ag_30 k_sz_30_6 rfl (hf3.get 10 3 rfl) (hS27.cf (i := 2) rfl) rfl rfl) ?_
   refine sQ 90 (Y_move (v := vi v_) rfl (hf3.get 1 0 rfl)) ?_
   obtain ⟨r_2, hc3, hF5⟩ := bind_inv hF5
   refine sc 91 rfl rfl (Yc_func (g := 51) (vs := [.agg #[vi p.Ins, vi p.Vars, vi p.Root, vi (mgt poly 0 0), .slice B5 r_1.length c5, .slice B6 Out.length c6], vi v_]) k_call_51 rfl (mc rfl (mc rfl mn)) (c_impl_PathSum_without (TPathSum.mk p.Ins p.Vars p.Root (mgt poly 0 0) r_1 Out) v_ B5 c5 r_1.length B6 c6 Out.length _ rfl rfl (hS27.inn0 [(false, 3), (false, 4)] rfl) hc3)) ?_
   rintro _ w_26 ⟨B8, c8, B9, c9, rfl, hd4⟩
   have hS39 := hS27.out0 hd4
   refine s0 (Ys_store (i := 1) (s := 6) (B := aD b2) (T' := 30) (v := .agg #[vi r_2.Ins, vi r_2.Vars, vi r_2.Root, vi r_2.Phase, .slice B8 r_2.Terms.length c8, .slice B9 r_2.Out.length c9]) (vs := [vi r_2.Ins, vi r_2.Vars, vi r_2.Root, vi r_2.Phase, .slice B8 r_2.Terms.length c8, .slice B9 r_2.Out.length c9]) (k := 0) (cs' := [vi r_2.Ins, vi r_2.Vars, vi r_2.Root, vi r_2.Phase, .slice B8 r_2.Terms.length c8, .slice B9 r_2.Out.length c9]) hS39 k_sz_30_6 rfl (hf3.get 6 2 rfl) rfl rfl rfl rfl rfl (lB rfl) rfl rfl) ?_
   rintro _ w_27 ⟨rfl, hS40⟩
   refine rw_nil (cw_ret ?_)
   obtain rfl := some_inj hF5
   exact ret1 Tryd.results54 (v1 := .agg #[vi r_2.Ins, vi r_2.Vars, vi r_2.Root, vi r_2.Phase, .slice B8 r_2.Terms.length c8, .slice B9 r_2.Out.length c9]) (resAt_cellA (B := aD b2) (i := 0) (cs := [vi r_2.Ins, vi r_2.Vars, vi r_2.Root, vi r_2.Phase, .slice B8 r_2.Terms.length c8, .slice B9 r_2.Out.length c9]) (vs := [vi r_2.Ins, vi r_2.Vars, vi r_2.Root, vi r_2.Phase, .slice B8 r_2.Terms.length c8, .slice B9 r_2.Out.length c9]) (hf3.get 6 2 rfl) k_ag_30 k_sz_30_6 (hS40.cf (i := 1) rfl) rfl rfl) ⟨B8, c8, B9, c9, rfl, (hS40.sN [5, 6])⟩

theorem c_impl_PathSum_ruled (p : TPathSum) (y : Int) (B : Option Addr) (c n : Nat) (B1 : Option Addr) (c1 n1 : Nat) (w0 : World) (hn : p.Terms.length = n) (hn1 : p.Out.length = n1) (hS : ST w0 [] w0 [] [⟨B, (p.Terms.flatMap eN0)⟩, ⟨B1, (p.Out.flatMap eN1)⟩, ⟨(aD 0), (gl0.flatMap enc_u8)⟩, ⟨(aD 1), (gl1.flatMap enc_u8)⟩]) {r_ : TPathSum} {r_1 : Int} (hF : F_impl_PathSum_ruled p y = some (r_, r_1)) :
  CV Tryd.prog 23 #[.agg #[vi p.Ins, vi p.Vars, vi p.Root, vi p.Phase, .slice B n c, .slice B1 n1 c1], vi y] w0 (fun v w' => ∃ (B2 : Option Addr) (c2 : Nat) (B3 : Option Addr) (c3 : Nat), v = .tuple #[.agg #[vi r_.Ins, vi r_.Vars, vi r_.Root, vi r_.Phase, .slice B2 r_.Terms.length c2, .slice B3 r_.Out.length c3], vi r_1] ∧ ST w0 [] w' [⟨B2, 56, (r_.Terms.flatMap eN0), c2 * 2⟩, ⟨B3, 44, (r_.Out.flatMap eN1), c3 * 2⟩] []) := by
 subst hn
 subst hn1
 unfold F_impl_PathSum_ruled at hF
 refine cv_of_cw 108 Tryd.func23 rfl Tryd.ntmps23 rfl ?_
 refine cw_seq (cw_region ?_)
 refine sS 2 (Ys_box (T := 30) (v := .agg #[vi p.Ins, vi p.Vars, vi p.Root, vi p.Phase, .slice B p.Terms.length c, .slice B1 p.Out.length c1]) (cs := [vi p.Ins, vi p.Vars, vi p.Root, vi p.Phase, .slice B p.Terms.length c, .slice B1 p.Out.length c1]) (m := 6) hS rfl rfl rfl rfl) ?_
 rintro _ w_ ⟨b, rfl, hS1⟩
 refine sS 4 (Ys_alloc (T := 30) (cs := [vi 0, vi 0, vi 0, vi 0, .slice none 0 0, .slice none 0 0]) (m := 6) hS1 k_zero_30 rfl rfl rfl) ?_
 rintro _ w_1 ⟨b1, rfl, hS2⟩
 refine sQ 5 (Y_assign (v := vi 0) rfl rfl) (rw_nil (cw_seq (cw_region ?_)))
 refine sQ 16 (Y_loadA (B := aD b) (i := 0) (cs := [vi p.Ins, vi p.Vars, vi p.Root, vi p.Phase, .slice B p.Terms.length c, .slice B1 p.Out.length c1]) (vs := [vi p.Ins, vi p.Vars, vi p.Root, vi p.Phase, .slice B p.Terms.length c, .slice B1 p.Out.length c1]) k_ag_30 k_sz_30_6 rfl rfl (hS2.cf (i := 0) rfl) rfl rfl) ?_
 refine sQ 17 (Y_move (v := vi y) rfl rfl) ?_
 obtain ⟨⟨r_2, r_3, r_4, r_5⟩, hc, hF⟩ := bind_inv hF
 refine sc 18 rfl rfl (Yc_func (g := 49) (vs := [.agg #[vi p.Ins, vi p.Vars, vi p.Root, vi p.Phase, .slice B p.Terms.length c, .slice B1 p.Out.length c1], vi y]) k_call_49 rfl (mc rfl (mc rfl mn)) (c_impl_PathSum_around p y B c p.Terms.length B1 c1 p.Out.length _ rfl rfl (hS2.inn0 [(true, 0), (true, 1)] rfl) hc)) ?_
 rintro _ w_2 ⟨rfl, hd⟩
 have hS3 := hS2.out00 hd
 refine sQ 15 (Y_move (v := .tuple #[vi r_2, vi r_3, .bool r_4, .bool r_5]) rfl rfl) ?_
 refine sQ 19 (Y_extract (v := vi r_2) rfl rfl rfl) ?_
 refine sQ 20 (Y_extract (v := vi r_3) rfl rfl rfl) ?_
 refine sQ 21 (Y_extract (v := .bool r_4) rfl rfl rfl) ?_
 refine sQ 22 (Y_extract (v := .bool r_5) rfl rfl rfl) ?_
 refine sQ 6 (Y_assign (v := vi r_2) rfl rfl) ?_
 refine sQ 7 (Y_assign (v := vi r_3) rfl rfl) ?_
 refine sQ 8 (Y_assign (v := .bool r_4) rfl rfl) ?_
 refine sQ 9 (Y_assign (v := .bool r_5) rfl rfl) (rw_nil (cw_seq (cw_region ?_)))
 refine sQ 23 (Y_move (v := vi r_3) rfl rfl) ?_
 refine sQ 24 (Y_fieldAddr (B := aD b) (i := 0) (s := 0) k_fd_30_0_0_3 k_sz_3_1 rfl rfl) ?_
 refine sQ 25 (Y_load1 (B := aD b) (i := 0) (cs := [vi p.Ins, vi p.Vars, vi p.Root, vi p.Phase, .slice B p.Terms.length c, .slice B1 p.Out.length c1]) (v := vi p.Ins) k_sc_3 rfl rfl (hS3.cf (i := 0) rfl) rfl) ?_
 obtain ⟨hsh, hF⟩ := chk_inv hF
 refine sQ 26 (Y_shl (k := .i64) (a := 1) (k' := .i64) (b := p.Ins) rfl rfl rfl hsh) ?_
 refine sQ 27 (Y_sub (k := .i64) (a := (shlK .i64 1 p.Ins)) (b := 1) rfl rfl rfl) ?_
 refine sQ 28 (Y_bandNot (k := .i64) (a := r_3) (b := (i64.wrap ((shlK .i64 1 p.Ins) - 1))) rfl rfl rfl) ?_
 refine sQ 29 (Y_conv (k := .i64) (a := (bits .andNot .i64 r_3 (i64.wrap ((shlK .i64 1 p.Ins) - 1)))) (T := 3) (T' := 59) k_us_3 k_int_59_u64 rfl rfl) ?_
 obtain ⟨r_6, hc1, hF⟩ := bind_inv hF
 refine sc 30 rfl rfl (Yc_func (g := 50) (vs := [.int .u64 (IntKind.u64.wrap (bits .andNot .i64 r_3 (i64.wrap ((shlK .i64 1 p.Ins) - 1))))]) k_call_50 rfl (mc rfl mn) (c_math_bits_TrailingZeros (IntKind.u64.wrap (bits .andNot .i64 r_3 (i64.wrap ((shlK .i64 1 p.Ins) - 1)))) _  (hS3.inn0 [(true, 2), (true, 3)] rfl) hc1)) ?_
 rintro _ w_3 ⟨rfl, hd1⟩
 have hS4 := hS3.out00 hd1
 refine sQ 10 (Y_assign (v := vi r_6) rfl rfl) (rw_nil (cw_seq (cw_block (cw_seq (cw_region ?_)))))
 refine sQ 32 (Y_move (v := .bool r_4) rfl rfl) ?_
 refine sQ 33 (Y_not (p := r_4) rfl rfl) ?_
 refine sQ 31 (Y_assign (v := .bool (!r_4)) rfl rfl) (rw_nil ?_)
 refine cw_cond (b := (!r_4)) rfl (fun hb => ?_) (fun hb => ?_)
 ·skip
  have hF1 := ct hF hb
  refine cw_seq (cw_region ?_)
  refine sQ 34 (Y_loadA (B := aD b) (i := 0) (cs := [vi p.Ins, vi p.Vars, vi p.Root, vi p.Phase, .slice B p.Terms.length c, .slice B1 p.Out.length c1]) (vs := [vi p.Ins, vi p.Vars, vi p.Root, vi p.Phase, .slice B p.Terms.length c, .slice B1 p.Out.length c1]) k_ag_30 k_sz_30_6 rfl rfl (hS4.cf (i := 0) rfl) rfl rfl) ?_
  refine sQ 35 (Y_move (v := vi y) rfl rfl) ?_
  obtain ⟨r_7, hc2, hF1⟩ := bind_inv hF1
  refine sc 36 rfl rfl (Yc_func (g := 51) (vs := [.agg #[vi p.Ins, vi p.Vars, vi p.Root, vi p.Phase, .slice B p.Terms.length c, .slice B1 p.Out.length c1], vi y]) k_call_51 rfl (mc rfl (mc rfl mn)) (c_impl_PathSum_without p y B c p.Terms.length B1 c1 p.Out.length _ rfl rfl (hS4.inn0 [(true, 0), (true, 1)] rfl) hc2)) ?_
  rintro _ w_4 ⟨B4, c4, B5, c5, rfl, hd2⟩
  have hS5 := hS4.out0 hd2
  refine sS 11 (Ys_alloc (T := 30) (cs := [vi 0, vi 0, vi 0, vi 0, .slice none 0 0, .slice none 0 0]) (m := 6) hS5 k_zero_30 rfl rfl rfl) ?_
  rintro _ w_5 ⟨b2, rfl, hS6⟩
  refine s0 (Ys_store (i := 4) (s := 6) (B := aD b2) (T' := 30) (v := .agg #[vi r_7.Ins, vi r_7.Vars, vi r_7.Root, vi r_7.Phase, .slice B4 r_7.Terms.length c4, .slice B5 r_7.Out.length c5]) (vs := [vi r_7.Ins, vi r_7.Vars, vi r_7.Root, vi r_7.Phase, .slice B4 r_7.Terms.length c4, .slice B5 r_7.Out.length c5]) (k := 0) (cs' := [vi r_7.Ins, vi r_7.Vars, vi r_7.Root, vi r_7.Phase, .slice B4 r_7.Terms.length c4, .slice B5 r_7.Out.length c5]) hS6 k_sz_30_6 rfl rfl rfl rfl rfl rfl rfl (lB rfl) rfl rfl) ?_
  rintro _ w_6 ⟨rfl, hS7⟩
  refine rw_nil (cw_seq (cw_region ?_))
  refine sQ 37 (Y_fieldAddr (B := aD b2) (i := 0) (s := 0) k_fd_30_2_2_3 k_sz_3_1 rfl rfl) ?_
  refine sQ 38 (Y_load1 (B := aD b2) (i := 2) (cs := [vi r_7.Ins, vi r_7.Vars, vi r_7.Root, vi r_7.Phase, .slice B4 r_7.Terms.length c4, .slice B5 r_7.Out.length c5]) (v := vi r_7.Root) k_sc_3 rfl rfl (hS7.cf (i := 4) rfl) rfl) ?_
  refine sQ 39 (Y_sub (k := .i64) (a := r_7.Root) (b := 2) rfl rfl rfl) ?_
  refine sQ 40 (Y_fieldAddr (B := aD b2) (i := 0) (s := 0) k_fd_30_2_2_3 k_sz_3_1 rfl rfl) ?_
  refine s0 (Ys_store (i := 4) (s := 1) (B := aD b2) (T' := 30) (v := vi (i64.wrap (r_7.Root - 2))) (vs := [vi (i64.wrap (r_7.Root - 2))]) (k := 2) (cs' := [vi r_7.Ins, vi r_7.Vars, vi (i64.wrap (r_7.Root - 2)), vi r_7.Phase, .slice B4 r_7.Terms.length c4, .slice B5 r_7.Out.length c5]) hS7 k_sz_3_1 rfl rfl rfl rfl rfl rfl rfl (lB rfl) rfl rfl) ?_
  rintro _ w_7 ⟨rfl, hS8⟩
  refine rw_nil (cw_seq (cw_region ?_))
  refine sQ 41 (Y_loadA (B := aD b2) (i := 0) (cs := [vi r_7.Ins, vi r_7.Vars, vi (i64.wrap (r_7.Root - 2)), vi r_7.Phase, .slice B4 r_7.Terms.length c4, .slice B5 r_7.Out.length c5]) (vs := [vi r_7.Ins, vi r_7.Vars, vi (i64.wrap (r_7.Root - 2)), vi r_7.Phase, .slice B4 r_7.Terms.length c4, .slice B5 r_7.Out.length c5]) k_ag_30 k_sz_30_6 rfl rfl (hS8.cf (i := 4) rfl) rfl rfl) ?_
  refine s0 (Ys_store (i := 1) (s := 6) (B := aD b1) (T' := 30) (v := .agg #[vi r_7.Ins, vi r_7.Vars, vi (i64.wrap (r_7.Root - 2)), vi r_7.Phase, .slice B4 r_7.Terms.length c4, .slice B5 r_7.Out.length c5]) (vs := [vi r_7.Ins, vi r_7.Vars, vi (i64.wrap (r_7.Root - 2)), vi r_7.Phase, .slice B4 r_7.Terms.length c4, .slice B5 r_7.Out.length c5]) (k := 0) (cs' := [vi r_7.Ins, vi r_7.Vars, vi (i64.wrap (r_7.Root - 2)), vi r_7.Phase, .slice B4 r_7.Terms.length c4, .slice B5 r_7.Out.length c5]) hS8 k_sz_30_6 rfl rfl rfl rfl rfl rfl rfl (lB rfl) rfl rfl) ?_
  rintro _ w_8 ⟨rfl, hS9⟩
  refine sQ 5 (Y_assign (v := vi 1) rfl rfl) (rw_nil (cw_ret ?_))
  obtain ⟨rfl, rfl⟩ := pr2 (some_inj hF1)
  exact ret2 Tryd.results23 (v1 := .agg #[vi r_7.Ins, vi r_7.Vars, vi (i64.wrap (r_7.Root - 2)), vi r_7.Phase, .slice B4 r_7.Terms.length c4, .slice B5 r_7.Out.length c5]) (resAt_cellA (B := aD b1) (i := 0) (cs := [vi r_7.Ins, vi r_7.Vars, vi (i64.wrap (r_7.Root - 2)), vi r_7.Phase, .slice B4 r_7.Terms.length c4, .slice B5 r_7.Out.length c5]) (vs := [vi r_7.Ins, vi r_7.Vars, vi (i64.wrap (r_7.Root - 2)), vi r_7.Phase, .slice B4 r_7.Terms.length c4, .slice B5 r_7.Out.length c5]) rfl k_ag_30 k_sz_30_6 (hS9.cf (i := 1) rfl) rfl rfl) (v2 := vi 1) (resAt_tmp rfl) ⟨B4, c4, B5, c5, rfl, (hS9.sN [2, 3])⟩
 ·skip
  have hF2 := cf' hF hb
  refine cw_seq (cw_region ?_)
  refine sQ 43 (Y_move (v := .bool r_5) rfl rfl) ?_
  refine sQ 44 (Y_move (v := .bool r_5) rfl rfl) ?_
  refine sgq 45 (B := r_5) (v := vi r_2) rfl rfl (uT_ 44) (fun hg => (Y_move (v := vi r_2) rfl rfl)) ?_
  refine sgq 46 (B := r_5) (v := vi (Int.tmod r_2 4)) rfl rfl (uT_ 44) (fun hg1 => (Y_rem (k := .i64) (a := r_2) (b := 4) rfl (gv_of (v := vi r_2) hg1) rfl (by decide))) ?_
  refine sgq 47 (B := r_5) (v := .bool ((Int.tmod r_2 4) == 2)) rfl rfl (uT_ 44) (fun hg2 => (Y_eq (k := .i64) (a := (Int.tmod r_2 4)) (b := 2) rfl (gv_of (v := vi (Int.tmod r_2 4)) hg2) rfl)) ?_
  refine sQ 48 (Y_and (b := r_5) (z := ((Int.tmod r_2 4) == 2)) rfl rfl rfl rfl) ?_
  refine sQ 42 (Y_assign (v := .bool (r_5 && ((Int.tmod r_2 4) == 2))) rfl rfl) (rw_nil ?_)
  refine cw_cond (b := (r_5 && ((Int.tmod r_2 4) == 2))) rfl (fun hb1 => ?_) (fun hb1 => ?_)
  ·skip
   have hF3 := ct hF2 hb1
   refine cw_seq (cw_region ?_)
   refine sQ 49 (Y_loadA (B := aD b) (i := 0) (cs := [vi p.Ins, vi p.Vars, vi p.Root, vi p.Phase, .slice B p.Terms.length c, .slice B1 p.Out.length c1]) (vs := [vi p.Ins, vi p.Vars, vi p.Root, vi p.Phase, .slice B p.Terms.length c, .slice B1 p.Out.length c1]) k_ag_30 k_sz_30_6 rfl rfl (hS4.cf (i := 0) rfl) rfl rfl) ?_
   refine sQ 50 (Y_move (v := vi y) rfl rfl) ?_
   refine sQ 51 (Y_move (v := vi r_2) rfl rfl) ?_
   refine sQ 52 (Y_sub (k := .i64) (a := 8) (b := r_2) rfl rfl rfl) ?_
   refine sQ 53 (Y_move (v := vi r_3) rfl rfl) ?_
   obtain ⟨r_8, hc3, hF3⟩ := bind_inv hF3
   refine sc 54 rfl rfl (Yc_func (g := 52) (vs := [.agg #[vi p.Ins, vi p.Vars, vi p.Root, vi p.Phase, .slice B p.Terms.length c, .slice B1 p.Out.length c1], vi y, vi (i64.wrap (8 - r_2)), vi r_3]) k_call_52 rfl (mc rfl (mc rfl (mc rfl (mc rfl mn)))) (c_impl_PathSum_stripped p y (i64.wrap (8 - r_2)) r_3 B c p.Terms.length B1 c1 p.Out.length _ rfl rfl (hS4.inn0 [(true, 0), (true, 1)] rfl) hc3)) ?_
   rintro _ w_9 ⟨B6, c6, B7, c7, rfl, hd3⟩
   have hS10 := hS4.out0 hd3
   refine sS 12 (Ys_alloc (T := 30) (cs := [vi 0, vi 0, vi 0, vi 0, .slice none 0 0, .slice none 0 0]) (m := 6) hS10 k_zero_30 rfl rfl rfl) ?_
   rintro _ w_10 ⟨b3, rfl, hS11⟩
   refine s0 (Ys_store (i := 4) (s := 6) (B := aD b3) (T' := 30) (v := .agg #[vi r_8.Ins, vi r_8.Vars, vi r_8.Root, vi r_8.Phase, .slice B6 r_8.Terms.length c6, .slice B7 r_8.Out.length c7]) (vs := [vi r_8.Ins, vi r_8.Vars, vi r_8.Root, vi r_8.Phase, .slice B6 r_8.Terms.length c6, .slice B7 r_8.Out.length c7]) (k := 0) (cs' := [vi r_8.Ins, vi r_8.Vars, vi r_8.Root, vi r_8.Phase, .slice B6 r_8.Terms.length c6, .slice B7 r_8.Out.length c7]) hS11 k_sz_30_6 rfl rfl rfl rfl rfl rfl rfl (lB rfl) rfl rfl) ?_
   rintro _ w_11 ⟨rfl, hS12⟩
   refine rw_nil (cw_seq (cw_region ?_))
   refine sQ 55 (Y_fieldAddr (B := aD b3) (i := 0) (s := 0) k_fd_30_2_2_3 k_sz_3_1 rfl rfl) ?_
   refine sQ 56 (Y_load1 (B := aD b3) (i := 2) (cs := [vi r_8.Ins, vi r_8.Vars, vi r_8.Root, vi r_8.Phase, .slice B6 r_8.Terms.length c6, .slice B7 r_8.Out.length c7]) (v := vi r_8.Root) k_sc_3 rfl rfl (hS12.cf (i := 4) rfl) rfl) ?_
   refine sQ 57 (Y_sub (k := .i64) (a := r_8.Root) (b := 1) rfl rfl rfl) ?_
   refine sQ 58 (Y_fieldAddr (B := aD b3) (i := 0) (s := 0) k_fd_30_2_2_3 k_sz_3_1 rfl rfl) ?_
   refine s0 (Ys_store (i := 4) (s := 1) (B := aD b3) (T' := 30) (v := vi (i64.wrap (r_8.Root - 1))) (vs := [vi (i64.wrap (r_8.Root - 1))]) (k := 2) (cs' := [vi r_8.Ins, vi r_8.Vars, vi (i64.wrap (r_8.Root - 1)), vi r_8.Phase, .slice B6 r_8.Terms.length c6, .slice B7 r_8.Out.length c7]) hS12 k_sz_3_1 rfl rfl rfl rfl rfl rfl rfl (lB rfl) rfl rfl) ?_
   rintro _ w_12 ⟨rfl, hS13⟩
   refine rw_nil (cw_seq ?_)
   obtain ⟨x, hx, hF3⟩ := bind_inv hF3
   refine ra_start (hS13.se [0, 1, 2, 3]).fn (by kernel_rfl) ?_
   have hS14 := hS13.drew
   refine rq 0 59 (v := pt (aD b3) 3) rfl (hS14.se [0, 1, 2, 3]) (fun w' hw' => (Y_fieldAddr (B := aD b3) (i := 0) (s := 0) k_fd_30_3_3_3 k_sz_3_1 rfl rfl)) ?_
   refine rq 2 61 (v := .agg (([0, 0, 1, 0, 0, 0, 7] : List Int).flatMap encI).toArray) rfl (hS14.se [0, 1, 2, 3]) (fun w' hw' => (show Y _ _ _ _ _ (.agg (([0, 0, 1, 0, 0, 0, 7] : List Int).flatMap encI).toArray) from Y_buildA (zs := [vi 0, vi 0, vi 0, vi 0, vi 0, vi 0, vi 0]) (vs := [(2, vi 1), (6, vi 7)]) (cs := [vi 0, vi 0, vi 1, vi 0, vi 0, vi 0, vi 7]) k_ar_84_7_3 k_sz_3_1 k_zero_84 rfl (mpc rfl (mpc rfl mpn)) (by kernel_rfl))) ?_
   refine rq 3 62 (v := vi r_2) rfl (hS14.se [0, 1, 2, 3]) (fun w' hw' => (Y_move (v := vi r_2) rfl rfl)) ?_
   refine rq 4 63 (v := vi x) rfl (hS14.se [0, 1, 2, 3]) (fun w' hw' => (Y_idx1 (cl := (([0, 0, 1, 0, 0, 0, 7] : List Int).flatMap encI)) (k := .i64) (i := r_2) (v := vi x) k_ar_84_7_3 k_sz_3_1 k_sc_3 rfl rfl rfl (getI_nn hx) (getI_ltI hx rfl) (gi_at0 encI_len hx rfl))) ?_
   refine rA [1] ?_
   refine ra_y 60 (i := 1) (v := vi r_8.Phase) rfl rfl rfl (Y_load1 (B := aD b3) (i := 3) (cs := [vi r_8.Ins, vi r_8.Vars, vi (i64.wrap (r_8.Root - 1)), vi r_8.Phase, .slice B6 r_8.Terms.length c6, .slice B7 r_8.Out.length c7]) (v := vi r_8.Phase) k_sc_3 rfl rfl (hS14.cf (i := 4) rfl) rfl) (hS14.se [0, 1, 2, 3]) ?_ ?_
   ·skip
    refine rq 5 64 (v := vi (i64.wrap (r_8.Phase + x))) rfl (hS14.se [0, 1, 2, 3]) (fun w' hw' => (Y_add (k := .i64) (a := r_8.Phase) (b := x) rfl rfl rfl)) ?_
    refine rq 6 65 (v := vi (Int.tmod (i64.wrap (r_8.Phase + x)) 8)) rfl (hS14.se [0, 1, 2, 3]) (fun w' hw' => (Y_rem (k := .i64) (a := (i64.wrap (r_8.Phase + x))) (b := 8) rfl rfl rfl (by decide))) ?_
    refine rq 7 66 (v := pt (aD b3) 3) rfl (hS14.se [0, 1, 2, 3]) (fun w' hw' => (Y_fieldAddr (B := aD b3) (i := 0) (s := 0) k_fd_30_3_3_3 k_sz_3_1 rfl rfl)) ?_
    refine rA [8] ?_
    refine ra_s0 (i := 8) rfl rfl rfl (Ys_store (i := 4) (s := 1) (B := aD b3) (T' := 30) (v := vi (Int.tmod (i64.wrap (r_8.Phase + x)) 8)) (vs := [vi (Int.tmod (i64.wrap (r_8.Phase + x)) 8)]) (k := 3) (cs' := [vi r_8.Ins, vi r_8.Vars, vi (i64.wrap (r_8.Root - 1)), vi (Int.tmod (i64.wrap (r_8.Phase + x)) 8), .slice B6 r_8.Terms.length c6, .slice B7 r_8.Out.length c7]) hS14 k_sz_3_1 rfl rfl rfl rfl rfl rfl rfl (lB rfl) rfl rfl) ?_ ?_
    ·rintro _ w_13 ⟨rfl, hS15⟩
     refine ⟨(hS15.se [0, 1, 2, 3]), ?_⟩
     refine ra_done (by kernel_rfl) ?_
     refine cw_seq (cw_region ?_)
     refine sQ 67 (Y_loadA (B := aD b3) (i := 0) (cs := [vi r_8.Ins, vi r_8.Vars, vi (i64.wrap (r_8.Root - 1)), vi (Int.tmod (i64.wrap (r_8.Phase + x)) 8), .slice B6 r_8.Terms.length c6, .slice B7 r_8.Out.length c7]) (vs := [vi r_8.Ins, vi r_8.Vars, vi (i64.wrap (r_8.Root - 1)), vi (Int.tmod (i64.wrap (r_8.Phase + x)) 8), .slice B6 r_8.Terms.length c6, .slice B7 r_8.Out.length c7]) k_ag_30 k_sz_30_6 rfl rfl (hS15.cf (i := 4) rfl) rfl rfl) ?_
     refine s0 (Ys_store (i := 1) (s := 6) (B := aD b1) (T' := 30) (v := .agg #[vi r_8.Ins, vi r_8.Vars, vi (i64.wrap (r_8.Root - 1)), vi (Int.tmod (i64.wrap (r_8.Phase + x)) 8), .slice B6 r_8.Terms.length c6, .slice B7 r_8.Out.length c7]) (vs := [vi r_8.Ins, vi r_8.Vars, vi (i64.wrap (r_8.Root - 1)), vi (Int.tmod (i64.wrap (r_8.Phase + x)) 8), .slice B6 r_8.Terms.length c6, .slice B7 r_8.Out.length c7]) (k := 0) (cs' := [vi r_8.Ins, vi r_8.Vars, vi (i64.wrap (r_8.Root - 1)), vi (Int.tmod (i64.wrap (r_8.Phase + x)) 8), .slice B6 r_8.Terms.length c6, .slice B7 r_8.Out.length c7]) hS15 k_sz_30_6 rfl rfl rfl rfl rfl rfl rfl (lB rfl) rfl rfl) ?_
     rintro _ w_14 ⟨rfl, hS16⟩
     refine sQ 5 (Y_assign (v := vi 2) rfl rfl) (rw_nil (cw_ret ?_))
     obtain ⟨rfl, rfl⟩ := pr2 (some_inj hF3)
     exact ret2 Tryd.results23 (v1 := .agg #[vi r_8.Ins, vi r_8.Vars, vi (i64.wrap (r_8.Root - 1)), vi (Int.tmod (i64.wrap (r_8.Phase + x)) 8), .slice B6 r_8.Terms.length c6, .slice B7 r_8.Out.length c7]) (resAt_cellA (B := aD b1) (i := 0) (cs := [vi r_8.Ins, vi r_8.Vars, vi (i64.wrap (r_8.Root - 1)), vi (Int.tmod (i64.wrap (r_8.Phase + x)) 8), .slice B6 r_8.Terms.length c6, .slice B7 r_8.Out.length c7]) (vs := [vi r_8.Ins, vi r_8.Vars, vi (i64.wrap (r_8.Root - 1)), vi (Int.tmod (i64.wrap (r_8.Phase + x)) 8), .slice B6 r_8.Terms.length c6, .slice B7 r_8.Out.length c7]) rfl k_ag_30 k_sz_30_6 (hS16.cf (i := 1) rfl) rfl rfl) (v2 := vi 2) (resAt_tmp rfl) ⟨B6, c6, B7, c7, rfl, (hS16.sN [2, 3])⟩
    exact allR_nil
   exact allR_nil
  ·skip
   have hF4 := cf' hF2 hb1
   refine cw_seq (cw_region ?_)
   refine sQ 69 (Y_move (v := .bool r_5) rfl rfl) ?_
   refine sQ 70 (Y_move (v := .bool r_5) rfl rfl) ?_
   refine sgq 71 (B := r_5) (v := vi r_2) rfl rfl (uT_ 70) (fun hg3 => (Y_move (v := vi r_2) rfl rfl)) ?_
   refine sgq 72 (B := r_5) (v := vi (Int.tmod r_2 4)) rfl rfl (uT_ 70) (fun hg4 => (Y_rem (k := .i64) (a := r_2) (b := 4) rfl (gv_of (v := vi r_2) hg4) rfl (by decide))) ?_
   refine sgq 73 (B := r_5) (v := .bool ((Int.tmod r_2 4) == 0)) rfl rfl (uT_ 70) (fun hg5 => (Y_eq (k := .i64) (a := (Int.tmod r_2 4)) (b := 0) rfl (gv_of (v := vi (Int.tmod r_2 4)) hg5) rfl)) ?_
   refine sQ 74 (Y_and (b := r_5) (z := ((Int.tmod r_2 4) == 0)) rfl rfl rfl rfl) ?_
   refine sQ 75 (Y_move (v := .bool (r_5 && ((Int.tmod r_2 4) == 0))) rfl rfl) ?_
   refine sgq 76 (B := (r_5 && ((Int.tmod r_2 4) == 0))) (v := vi r_3) rfl rfl (uT_ 75) (fun hg6 => (Y_move (v := vi r_3) rfl rfl)) ?_
   refine sgq 77 (B := (r_5 && ((Int.tmod r_2 4) == 0))) (v := pt (aD b) 0) rfl rfl (uT_ 75) (fun hg7 => (Y_fieldAddr (B := aD b) (i := 0) (s := 0) k_fd_30_0_0_3 k_sz_3_1 rfl rfl)) ?_
   refine sgq 78 (B := (r_5 && ((Int.tmod r_2 4) == 0))) (v := vi p.Ins) rfl rfl (uT_ 75) (fun hg8 => (Y_load1 (B := aD b) (i := 0) (cs := [vi p.Ins, vi p.Vars, vi p.Root, vi p.Phase, .slice B p.Terms.length c, .slice B1 p.Out.length c1]) (v := vi p.Ins) k_sc_3 rfl (gv_of (v := pt (aD b) 0) hg8) (hS4.cf (i := 0) rfl) rfl)) ?_
   obtain ⟨hsh1, hF4⟩ := chk_inv hF4
   refine sgq 79 (B := (r_5 && ((Int.tmod r_2 4) == 0))) (v := vi (shrK .i64 r_3 p.Ins)) rfl rfl (uT_ 75) (fun hg9 => (Y_shr (k := .i64) (a := r_3) (k' := .i64) (b := p.Ins) rfl (gv_of (v := vi r_3) hg9) (gv_of (v := vi p.Ins) hg9) (hsh1 hg9))) ?_
   refine sgq 80 (B := (r_5 && ((Int.tmod r_2 4) == 0))) (v := .bool ((shrK .i64 r_3 p.Ins) != 0)) rfl rfl (uT_ 75) (fun hg10 => (Y_ne (k := .i64) (a := (shrK .i64 r_3 p.Ins)) (b := 0) rfl (gv_of (v := vi (shrK .i64 r_3 p.Ins)) hg10) rfl)) ?_
   refine sQ 81 (Y_and (b := (r_5 && ((Int.tmod r_2 4) == 0))) (z := ((shrK .i64 r_3 p.Ins) != 0)) rfl rfl rfl rfl) ?_
   refine sQ 68 (Y_assign (v := .bool ((r_5 && ((Int.tmod r_2 4) == 0)) && ((shrK .i64 r_3 p.Ins) != 0))) rfl rfl) (rw_nil ?_)
   refine cw_cond (b := ((r_5 && ((Int.tmod r_2 4) == 0)) && ((shrK .i64 r_3 p.Ins) != 0))) rfl (fun hb2 => ?_) (fun hb2 => ?_)
   ·skip
    have hF5 := ct hF4 hb2
    refine cw_seq (cw_region ?_)
    refine sQ 82 (Y_loadA (B := aD b) (i := 0) (cs := [vi p.Ins, vi p.Vars, vi p.Root, vi p.Phase, .slice B p.Terms.length c, .slice B1 p.Out.length c1]) (vs := [vi p.Ins, vi p.Vars, vi p.Root, vi p.Phase, .slice B p.Terms.length c, .slice B1 p.Out.length c1]) k_ag_30 k_sz_30_6 rfl rfl (hS4.cf (i := 0) rfl) rfl rfl) ?_
    refine sQ 83 (Y_move (v := vi y) rfl rfl) ?_
    obtain ⟨r_9, hc4, hF5⟩ := bind_inv hF5
    refine sc 84 rfl rfl (Yc_func (g := 52) (vs := [.agg #[vi p.Ins, vi p.Vars, vi p.Root, vi p.Phase, .slice B p.Terms.length c, .slice B1 p.Out.length c1], vi y, vi 0, vi 0]) k_call_52 rfl (mc rfl (mc rfl (mc rfl (mc rfl mn)))) (c_impl_PathSum_stripped p y 0 0 B c p.Terms.length B1 c1 p.Out.length _ rfl rfl (hS4.inn0 [(true, 0), (true, 1)] rfl) hc4)) ?_
    rintro _ w_15 ⟨B8, c8, B9, c9, rfl, hd4⟩
    have hS17 := hS4.out0 hd4
    refine sS 13 (Ys_alloc (T := 30) (cs := [vi 0, vi 0, vi 0, vi 0, .slice none 0 0, .slice none 0 0]) (m := 6) hS17 k_zero_30 rfl rfl rfl) ?_
    rintro _ w_16 ⟨b4, rfl, hS18⟩
    refine s0 (Ys_store (i := 4) (s := 6) (B := aD b4) (T' := 30) (v := .agg #[vi r_9.Ins, vi r_9.Vars, vi r_9.Root, vi r_9.Phase, .slice B8 r_9.Terms.length c8, .slice B9 r_9.Out.length c9]) (vs := [vi r_9.Ins, vi r_9.Vars, vi r_9.Root, vi r_9.Phase, .slice B8 r_9.Terms.length c8, .slice B9 r_9.Out.length c9]) (k := 0) (cs' := [vi r_9.Ins, vi r_9.Vars, vi r_9.Root, vi r_9.Phase, .slice B8 r_9.Terms.length c8, .slice B9 r_9.Out.length c9]) hS18 k_sz_30_6 rfl rfl rfl rfl rfl rfl rfl (lB rfl) rfl rfl) ?_
    rintro _ w_17 ⟨rfl, hS19⟩
    refine rw_nil (cw_seq (cw_region ?_))
    refine sQ 85 (Y_move (v := vi r_3) rfl rfl) ?_
    refine sQ 86 (Y_move (v := vi r_6) rfl rfl) ?_
    obtain ⟨hsh2, hF5⟩ := chk_inv hF5
    refine sQ 87 (Y_shl (k := .i64) (a := 1) (k' := .i64) (b := r_6) rfl rfl rfl hsh2) ?_
    refine sQ 88 (Y_bxor (k := .i64) (a := r_3) (b := (shlK .i64 1 r_6)) rfl rfl rfl) ?_
    refine sQ 89 (Y_move (v := vi y) rfl rfl) ?_
    obtain ⟨r_10, hc5, hF5⟩ := bind_inv hF5
    refine sc 90 rfl rfl (Yc_func (g := 53) (vs := [vi (bits .xor .i64 r_3 (shlK .i64 1 r_6)), vi y]) k_call_53 rfl (mc rfl (mc rfl mn)) (c_impl_dropped (bits .xor .i64 r_3 (shlK .i64 1 r_6)) y _  (hS19.inn0 [] rfl) hc5)) ?_
    rintro _ w_18 ⟨rfl, hd5⟩
    have hS20 := hS19.out00 hd5
    refine sQ 14 (Y_assign (v := vi r_10) rfl rfl) (rw_nil (cw_seq ?_))
    obtain ⟨z, hz, hF6⟩ := bind_inv hF5
    refine cw_mid (fun f w => ∃ (inner : Int), inner = z ∧ FF f [(4, pt (aD b1) 0), (6, vi r_2), (10, vi inner), (13, pt (aD b4) 0), (14, vi r_10)] ∧ ST w0 [] w [⟨aD b1, 30, [vi 0, vi 0, vi 0, vi 0, .slice none 0 0, .slice none 0 0], 6⟩, ⟨aD b4, 30, [vi r_9.Ins, vi r_9.Vars, vi r_9.Root, vi r_9.Phase, .slice B8 r_9.Terms.length c8, .slice B9 r_9.Out.length c9], 6⟩, ⟨B8, 56, (r_9.Terms.flatMap eN0), c8 * 2⟩, ⟨B9, 44, (r_9.Out.flatMap eN1), c9 * 2⟩] [⟨B, (p.Terms.flatMap eN0)⟩, ⟨B1, (p.Out.flatMap eN1)⟩, ⟨(aD 0), (gl0.flatMap enc_u8)⟩, ⟨(aD 1), (gl1.flatMap enc_u8)⟩]) ?_ ?_
    ·skip
     refine cw_seq (cw_region ?_)
     refine sQ 91 (Y_move (v := vi r_6) rfl rfl) ?_
     refine sQ 92 (Y_move (v := vi y) rfl rfl) ?_
     refine sQ 93 (Y_gt (k := .i64) (a := r_6) (b := y) rfl rfl rfl) (rw_nil ?_)
     refine cw_cond (b := (decide (y < r_6))) rfl (fun hb3 => ?_) (fun hb3 => ?_)
     ·skip
      have hF7 := ct hz hb3
      refine cw_region ?_
      refine sQ 94 (Y_move (v := vi r_6) rfl rfl) ?_
      refine sQ 95 (Y_sub (k := .i64) (a := r_6) (b := 1) rfl rfl rfl) ?_
      refine sQ 10 (Y_assign (v := vi (i64.wrap (r_6 - 1))) rfl rfl) (rw_nil ?_)
      exact ⟨(i64.wrap (r_6 - 1)), (some_inj hF7), (FF.cons rfl (FF.cons rfl (FF.cons rfl (FF.cons rfl (FF.cons rfl FF.nil))))), (hS20.sel [1, 4, 2, 3] rfl rfl)⟩
     ·skip
      have hF8 := cf' hz hb3
      refine cw_skip ?_
      exact ⟨r_6, (some_inj hF8), (FF.cons rfl (FF.cons rfl (FF.cons rfl (FF.cons rfl (FF.cons rfl FF.nil))))), (hS20.sel [1, 4, 2, 3] rfl rfl)⟩
    rintro f w ⟨inner, rfl, hf, hS21⟩
    refine cw_seq (cw_region ?_)
    refine sQ 96 (Y_fieldAddr (B := aD b4) (i := 0) (s := 0) k_fd_30_2_2_3 k_sz_3_1 rfl (hf.get 13 3 rfl)) ?_
    refine sQ 97 (Y_load1 (B := aD b4) (i := 2) (cs := [vi r_9.Ins, vi r_9.Vars, vi r_9.Root, vi r_9.Phase, .slice B8 r_9.Terms.length c8, .slice B9 r_9.Out.length c9]) (v := vi r_9.Root) k_sc_3 rfl rfl (hS21.cf (i := 1) rfl) rfl) ?_
    refine sQ 98 (Y_sub (k := .i64) (a := r_9.Root) (b := 2) rfl rfl rfl) ?_
    refine sQ 99 (Y_fieldAddr (B := aD b4) (i := 0) (s := 0) k_fd_30_2_2_3 k_sz_3_1 rfl (hf.get 13 3 rfl)) ?_
    refine s0 (Ys_store (i := 1) (s := 1) (B := aD b4) (T' := 30) (v := vi (i64.wrap (r_9.Root - 2))) (vs := [vi (i64.wrap (r_9.Root - 2))]) (k := 2) (cs' := [vi r_9.Ins, vi r_9.Vars, vi (i64.wrap (r_9.Root - 2)), vi r_9.Phase, .slice B8 r_9.Terms.length c8, .slice B9 r_9.Out.length c9]) hS21 k_sz_3_1 rfl rfl rfl rfl rfl rfl rfl (lB rfl) rfl rfl) ?_
    rintro _ w_19 ⟨rfl, hS22⟩
    refine rw_nil (cw_seq (cw_region ?_))
    refine sQ 100 (Y_loadA (B := aD b4) (i := 0) (cs := [vi r_9.Ins, vi r_9.Vars, vi (i64.wrap (r_9.Root - 2)), vi r_9.Phase, .slice B8 r_9.Terms.length c8, .slice B9 r_9.Out.length c9]) (vs := [vi r_9.Ins, vi r_9.Vars, vi (i64.wrap (r_9.Root - 2)), vi r_9.Phase, .slice B8 r_9.Terms.length c8, .slice B9 r_9.Out.length c9]) k_ag_30 k_sz_30_6 rfl (hf.get 13 3 rfl) (hS22.cf (i := 1) rfl) rfl rfl) ?_
    refine sQ 101 (Y_move (v := vi inner) rfl (hf.get 10 2 rfl)) ?_
    refine sQ 102 (Y_move (v := vi r_10) rfl (hf.get 14 4 rfl)) ?_
    refine sQ 103 (Y_move (v := vi r_2) rfl (hf.get 6 1 rfl)) ?_
    refine sQ 104 (Y_quo (k := .i64) (a := r_2) (b := 4) rfl rfl rfl (by decide)) ?_
    refine sQ 105 (Y_buildS (zs := [vi 0, vi 0]) (vs := [(0, vi r_10), (1, vi (i64.wrap (Int.tdiv r_2 4)))]) (cs := [vi r_10, vi (i64.wrap (Int.tdiv r_2 4))]) k_pl_44 k_zero_44 rfl (mpc rfl (mpc rfl mpn)) rfl) ?_
    obtain ⟨r_11, hc6, hF6⟩ := bind_inv hF6
    refine sc 106 rfl rfl (Yc_func (g := 54) (vs := [.agg #[vi r_9.Ins, vi r_9.Vars, vi (i64.wrap (r_9.Root - 2)), vi r_9.Phase, .slice B8 r_9.Terms.length c8, .slice B9 r_9.Out.length c9], vi inner, .agg #[vi r_10, vi (i64.wrap (Int.tdiv r_2 4))]]) k_call_54 rfl (mc rfl (mc rfl (mc rfl mn))) (c_impl_PathSum_substituted (TPathSum.mk r_9.Ins r_9.Vars (i64.wrap (r_9.Root - 2)) r_9.Phase r_9.Terms r_9.Out) inner (TAffine.mk r_10 (i64.wrap (Int.tdiv r_2 4))) B8 c8 r_9.Terms.length B9 c9 r_9.Out.length _ rfl rfl (hS22.inn0 [(false, 2), (false, 3)] rfl) hc6)) ?_
    rintro _ w_20 ⟨B10, c10, B11, c11, rfl, hd6⟩
    have hS23 := hS22.out0 hd6
    refine s0 (Ys_store (i := 0) (s := 6) (B := aD b1) (T' := 30) (v := .agg #[vi r_11.Ins, vi r_11.Vars, vi r_11.Root, vi r_11.Phase, .slice B10 r_11.Terms.length c10, .slice B11 r_11.Out.length c11]) (vs := [vi r_11.Ins, vi r_11.Vars, vi r_11.Root, vi r_11.Phase, .slice B10 r_11.Terms.length c10, .slice B11 r_11.Out.length c11]) (k := 0) (cs' := [vi r_11.Ins, vi r_11.Vars, vi r_11.Root, vi r_11.Phase, .slice B10 r_11.Terms.length c10, .slice B11 r_11.Out.length c11]) hS23 k_sz_30_6 rfl (hf.get 4 0 rfl) rfl rfl rfl rfl rfl (lB rfl) rfl rfl) ?_
    rintro _ w_21 ⟨rfl, hS24⟩
    refine sQ 5 (Y_assign (v := vi 3) rfl rfl) (rw_nil (cw_ret ?_))
    obtain ⟨rfl, rfl⟩ := pr2 (some_inj hF6)
    exact ret2 Tryd.results23 (v1 := .agg #[vi r_11.Ins, vi r_11.Vars, vi r_11.Root, vi r_11.Phase, .slice B10 r_11.Terms.length c10, .slice B11 r_11.Out.length c11]) (resAt_cellA (B := aD b1) (i := 0) (cs := [vi r_11.Ins, vi r_11.Vars, vi r_11.Root, vi r_11.Phase, .slice B10 r_11.Terms.length c10, .slice B11 r_11.Out.length c11]) (vs := [vi r_11.Ins, vi r_11.Vars, vi r_11.Root, vi r_11.Phase, .slice B10 r_11.Terms.length c10, .slice B11 r_11.Out.length c11]) (hf.get 4 0 rfl) k_ag_30 k_sz_30_6 (hS24.cf (i := 0) rfl) rfl rfl) (v2 := vi 3) (resAt_tmp rfl) ⟨B10, c10, B11, c11, rfl, (hS24.sN [4, 5])⟩
   ·skip
    have hF9 := cf' hF4 hb2
    refine cw_skip (cw_seq (cw_region ?_))
    refine sQ 107 (Y_buildS (zs := [vi 0, vi 0, vi 0, vi 0, .slice none 0 0, .slice none 0 0]) (vs := []) (cs := [vi 0, vi 0, vi 0, vi 0, .slice none 0 0, .slice none 0 0]) k_pl_30 k_zero_30 rfl mpn rfl) ?_
    refine s0 (Ys_store (i := 1) (s := 6) (B := aD b1) (T' := 30) (v := .agg #[vi 0, vi 0, vi 0, vi 0, .slice none 0 0, .slice none 0 0]) (vs := [vi 0, vi 0, vi 0, vi 0, .slice none 0 0, .slice none 0 0]) (k := 0) (cs' := [vi 0, vi 0, vi 0, vi 0, .slice none 0 0, .slice none 0 0]) hS4 k_sz_30_6 rfl rfl rfl rfl rfl rfl rfl (lB rfl) rfl rfl) ?_
    rintro _ w_22 ⟨rfl, hS25⟩
    refine sQ 5 (Y_assign (v := vi 0) rfl rfl) (rw_nil (cw_ret ?_))
    have hS26 := hS25.addNil 56
    have hS27 := hS26.addNil 44
    obtain ⟨rfl, rfl⟩ := pr2 (some_inj hF9)
    exact ret2 Tryd.results23 (v1 := .agg #[vi 0, vi 0, vi 0, vi 0, .slice none 0 0, .slice none 0 0]) (resAt_cellA (B := aD b1) (i := 0) (cs := [vi 0, vi 0, vi 0, vi 0, .slice none 0 0, .slice none 0 0]) (vs := [vi 0, vi 0, vi 0, vi 0, .slice none 0 0, .slice none 0 0]) rfl k_ag_30 k_sz_30_6 (hS27.cf (i := 1) rfl) rfl rfl) (v2 := vi 0) (resAt_tmp rfl) ⟨none, 0, none, 0, rfl, (hS27.sN [2, 3])⟩

theorem c_impl_ReduceStep (p : TPathSum) (B : Option Addr) (c n : Nat) (B1 : Option Addr) (c1 n1 : Nat) (w0 : World) (hn : p.Terms.length = n) (hn1 : p.Out.length = n1) (hS : ST w0 [] w0 [] [⟨B, (p.Terms.flatMap eN0)⟩, ⟨B1, (p.Out.flatMap eN1)⟩, ⟨(aD 0), (gl0.flatMap enc_u8)⟩, ⟨(aD 1), (gl1.flatMap enc_u8)⟩]) {r_ : TPathSum} {r_1 : Int} {r_2 : Bool} (hF : F_impl_ReduceStep p = some (r_, r_1, r_2)) :
  CV Tryd.prog 8 #[.agg #[vi p.Ins, vi p.Vars, vi p.Root, vi p.Phase, .slice B n c, .slice B1 n1 c1]] w0 (fun v w' => ∃ (B2 : Option Addr) (c2 : Nat) (B3 : Option Addr) (c3 : Nat), v = .tuple #[.agg #[vi r_.Ins, vi r_.Vars, vi r_.Root, vi r_.Phase, .slice B2 r_.Terms.length c2, .slice B3 r_.Out.length c3], vi r_1, .bool r_2] ∧ ST w0 [] w' [⟨B2, 56, (r_.Terms.flatMap eN0), c2 * 2⟩, ⟨B3, 44, (r_.Out.flatMap eN1), c3 * 2⟩] []) := by
 subst hn
 subst hn1
 unfold F_impl_ReduceStep at hF
 refine cv_of_cw 43 Tryd.func8 rfl Tryd.ntmps8 rfl ?_
 refine cw_seq (cw_region ?_)
 refine sS 1 (Ys_box (T := 30) (v := .agg #[vi p.Ins, vi p.Vars, vi p.Root, vi p.Phase, .slice B p.Terms.length c, .slice B1 p.Out.length c1]) (cs := [vi p.Ins, vi p.Vars, vi p.Root, vi p.Phase, .slice B p.Terms.length c, .slice B1 p.Out.length c1]) (m := 6) hS rfl rfl rfl rfl) ?_
 rintro _ w_ ⟨b, rfl, hS1⟩
 refine sS 2 (Ys_alloc (T := 30) (cs := [vi 0, vi 0, vi 0, vi 0, .slice none 0 0, .slice none 0 0]) (m := 6) hS1 k_zero_30 rfl rfl rfl) ?_
 rintro _ w_1 ⟨b1, rfl, hS2⟩
 refine sQ 3 (Y_assign (v := vi 0) rfl rfl) ?_
 refine sQ 4 (Y_assign (v := .bool false) rfl rfl) (rw_nil (cw_seq (cw_seq (cw_region ?_))))
 refine sQ 8 (Y_loadA (B := aD b) (i := 0) (cs := [vi p.Ins, vi p.Vars, vi p.Root, vi p.Phase, .slice B p.Terms.length c, .slice B1 p.Out.length c1]) (vs := [vi p.Ins, vi p.Vars, vi p.Root, vi p.Phase, .slice B p.Terms.length c, .slice B1 p.Out.length c1]) k_ag_30 k_sz_30_6 rfl rfl (hS2.cf (i := 0) rfl) rfl rfl) ?_
 obtain ⟨r_3, hc, hF⟩ := bind_inv hF
 refine sc 9 rfl rfl (Yc_func (g := 20) (vs := [.agg #[vi p.Ins, vi p.Vars, vi p.Root, vi p.Phase, .slice B p.Terms.length c, .slice B1 p.Out.length c1]]) k_call_20 rfl (mc rfl mn) (c_impl_IsValidPathSum p B c p.Terms.length B1 c1 p.Out.length _ rfl rfl (hS2.inn0 [(true, 0), (true, 1)] rfl) hc)) ?_
 rintro _ w_2 ⟨rfl, hd⟩
 have hS3 := hS2.out00 hd
 refine sQ 10 (Y_not (p := r_3) rfl rfl) (rw_nil ?_)
 refine cw_cond (b := (!r_3)) rfl (fun hb => ?_) (fun hb => ?_)
 ·skip
  have hF1 := ct hF hb
  refine cw_seq (cw_region ?_)
  refine sQ 11 (Y_buildS (zs := [vi 0, vi 0, vi 0, vi 0, .slice none 0 0, .slice none 0 0]) (vs := []) (cs := [vi 0, vi 0, vi 0, vi 0, .slice none 0 0, .slice none 0 0]) k_pl_30 k_zero_30 rfl mpn rfl) ?_
  refine s0 (Ys_store (i := 1) (s := 6) (B := aD b1) (T' := 30) (v := .agg #[vi 0, vi 0, vi 0, vi 0, .slice none 0 0, .slice none 0 0]) (vs := [vi 0, vi 0, vi 0, vi 0, .slice none 0 0, .slice none 0 0]) (k := 0) (cs' := [vi 0, vi 0, vi 0, vi 0, .slice none 0 0, .slice none 0 0]) hS3 k_sz_30_6 rfl rfl rfl rfl rfl rfl rfl (lB rfl) rfl rfl) ?_
  rintro _ w_3 ⟨rfl, hS4⟩
  refine sQ 3 (Y_assign (v := vi 0) rfl rfl) ?_
  refine sQ 4 (Y_assign (v := .bool false) rfl rfl) (rw_nil (cw_ret ?_))
  have hS5 := hS4.addNil 56
  have hS6 := hS5.addNil 44
  obtain ⟨rfl, rfl, rfl⟩ := pr3 (some_inj hF1)
  exact ret3 Tryd.results8 (v1 := .agg #[vi 0, vi 0, vi 0, vi 0, .slice none 0 0, .slice none 0 0]) (resAt_cellA (B := aD b1) (i := 0) (cs := [vi 0, vi 0, vi 0, vi 0, .slice none 0 0, .slice none 0 0]) (vs := [vi 0, vi 0, vi 0, vi 0, .slice none 0 0, .slice none 0 0]) rfl k_ag_30 k_sz_30_6 (hS6.cf (i := 1) rfl) rfl rfl) (v2 := vi 0) (resAt_tmp rfl) (v3 := .bool false) (resAt_tmp rfl) ⟨none, 0, none, 0, rfl, (hS6.sN [2, 3])⟩
 ·skip
  have hF2 := cf' hF hb
  refine cw_skip (cw_seq (cw_seq (cw_region ?_)))
  refine sQ 12 (Y_fieldAddr (B := aD b) (i := 0) (s := 0) k_fd_30_0_0_3 k_sz_3_1 rfl rfl) ?_
  refine sQ 13 (Y_load1 (B := aD b) (i := 0) (cs := [vi p.Ins, vi p.Vars, vi p.Root, vi p.Phase, .slice B p.Terms.length c, .slice B1 p.Out.length c1]) (v := vi p.Ins) k_sc_3 rfl rfl (hS3.cf (i := 0) rfl) rfl) ?_
  refine sS 5 (Ys_alloc (T := 3) (cs := [vi 0]) (m := 1) hS3 k_zero_3 rfl rfl rfl) ?_
  rintro _ w_4 ⟨b2, rfl, hS7⟩
  refine s0 (Ys_store (i := 2) (s := 1) (B := aD b2) (T' := 3) (v := vi p.Ins) (vs := [vi p.Ins]) (k := 0) (cs' := [vi p.Ins]) hS7 k_sz_3_1 rfl rfl rfl rfl rfl rfl rfl (lB rfl) rfl rfl) ?_
  rintro _ w_5 ⟨rfl, hS8⟩
  refine rw_nil ?_
  obtain ⟨z, hz, hF3⟩ := bind_inv hF2
  refine cw_block ?_
  refine cw_loop (fun k f w => ∃ (y : Int) (B4 : Option Addr), FF f [(1, pt (aD b) 0), (2, pt (aD b1) 0), (5, pt B4 0)] ∧ ST w0 [] w [⟨aD b, 30, [vi p.Ins, vi p.Vars, vi p.Root, vi p.Phase, .slice B p.Terms.length c, .slice B1 p.Out.length c1], 6⟩, ⟨aD b1, 30, [vi 0, vi 0, vi 0, vi 0, .slice none 0 0, .slice none 0 0], 6⟩, ⟨B4, 3, [vi y], 1⟩] [⟨B, (p.Terms.flatMap eN0)⟩, ⟨B1, (p.Out.flatMap eN1)⟩, ⟨(aD 0), (gl0.flatMap enc_u8)⟩, ⟨(aD 1), (gl1.flatMap enc_u8)⟩] ∧ whX (F_impl_ReduceStep_l1 p) k y = some z) fuel ⟨p.Ins, aD b2, (FF.cons rfl (FF.cons rfl (FF.cons rfl FF.nil))), (hS8.sel [0, 1, 2] rfl rfl), hz⟩ ?_
  rintro k_ f w ⟨y, B4, hf, hS9, hL⟩
  obtain ⟨k_1, y1, rfl, hb1, hL1⟩ := whX_go hL
  unfold F_impl_ReduceStep_l1 at hb1
  refine cw_seq (cw_seq (cw_region ?_))
  refine sQ 14 (Y_load1 (B := B4) (i := 0) (cs := [vi y]) (v := vi y) k_sc_3 rfl (hf.get 5 2 rfl) (hS9.cf (i := 2) rfl) rfl) ?_
  refine sQ 15 (Y_fieldAddr (B := aD b) (i := 0) (s := 0) k_fd_30_0_0_3 k_sz_3_1 rfl (hf.get 1 0 rfl)) ?_
  refine sQ 16 (Y_load1 (B := aD b) (i := 0) (cs := [vi p.Ins, vi p.Vars, vi p.Root, vi p.Phase, .slice B p.Terms.length c, .slice B1 p.Out.length c1]) (v := vi p.Ins) k_sc_3 rfl rfl (hS9.cf (i := 0) rfl) rfl) ?_
  refine sQ 17 (Y_fieldAddr (B := aD b) (i := 0) (s := 0) k_fd_30_1_1_3 k_sz_3_1 rfl (hf.get 1 0 rfl)) ?_
  refine sQ 18 (Y_load1 (B := aD b) (i := 1) (cs := [vi p.Ins, vi p.Vars, vi p.Root, vi p.Phase, .slice B p.Terms.length c, .slice B1 p.Out.length c1]) (v := vi p.Vars) k_sc_3 rfl rfl (hS9.cf (i := 0) rfl) rfl) ?_
  refine sQ 19 (Y_add (k := .i64) (a := p.Ins) (b := p.Vars) rfl rfl rfl) ?_
  refine sQ 20 (Y_lt (k := .i64) (a := y) (b := (i64.wrap (p.Ins + p.Vars))) rfl rfl rfl) (rw_nil ?_)
  refine cw_cond (b := (decide (y < (i64.wrap (p.Ins + p.Vars))))) rfl (fun hb2 => ?_) (fun hb2 => ?_)
  ·skip
   have hF4 := ct hb1 hb2
   refine cw_skip (cw_seq ?_)
   obtain ⟨z1, hz1, hF5⟩ := bind_inv hF4
   refine cw_mid (fun f w => .inl () = z1 ∧ FF f [(1, pt (aD b) 0), (2, pt (aD b1) 0), (5, pt B4 0)] ∧ ST w0 [] w [⟨aD b, 30, [vi p.Ins, vi p.Vars, vi p.Root, vi p.Phase, .slice B p.Terms.length c, .slice B1 p.Out.length c1], 6⟩, ⟨aD b1, 30, [vi 0, vi 0, vi 0, vi 0, .slice none 0 0, .slice none 0 0], 6⟩, ⟨B4, 3, [vi y], 1⟩] [⟨B, (p.Terms.flatMap eN0)⟩, ⟨B1, (p.Out.flatMap eN1)⟩, ⟨(aD 0), (gl0.flatMap enc_u8)⟩, ⟨(aD 1), (gl1.flatMap enc_u8)⟩]) ?_ ?_
   ·skip
    refine cw_block (cw_seq (cw_seq (cw_region ?_)))
    refine sQ 23 (Y_fieldAddr (B := aD b) (i := 0) (s := 0) k_fd_30_5_5_28 k_sz_28_1 rfl (hf.get 1 0 rfl)) ?_
    refine sQ 24 (Y_load1 (B := aD b) (i := 5) (cs := [vi p.Ins, vi p.Vars, vi p.Root, vi p.Phase, .slice B p.Terms.length c, .slice B1 p.Out.length c1]) (v := .slice B1 p.Out.length c1) k_sc_28 rfl rfl (hS9.cf (i := 0) rfl) rfl) ?_
    refine sQ 25 (Y_makeFunc (cs := [pt B4 0]) rfl rfl (mc (hf.get 5 2 rfl) mn)) ?_
    obtain ⟨r_4, hc1, hz1⟩ := bind_inv hz1
    refine sc 26 rfl rfl (Yc_func (g := 21) (vs := [.slice B1 p.Out.length c1, .func (.func 22) #[] #[pt B4 0]]) k_call_21 rfl (mc rfl (mc rfl mn)) (c_slices_ContainsFunc_impl_Affine_impl_Affine p.Out (fun x_0 => F_impl_ReduceStep_1 x_0 y) B1 c1 p.Out.length 22 (#[pt B4 0]) [⟨B4, [vi y]⟩] _ rfl k_call_22 (fun w hw x_0 y_0 h_ => c_impl_ReduceStep_1 x_0 y B4 w  hw h_) (hS9.inn0 [(true, 1), (false, 2)] rfl) hc1)) ?_
    rintro _ w_6 ⟨rfl, hd1⟩
    have hS11 := hS9.out00 hd1
    refine rw_nil ?_
    refine cw_cond (b := r_4) rfl (fun hb3 => ?_) (fun hb3 => ?_)
    ·skip
     have hF6 := ct hz1 hb3
     refine cw_exit rfl ?_
     exact ⟨(some_inj hF6), (FF.cons (hf.get 1 0 rfl) (FF.cons (hf.get 2 1 rfl) (FF.cons (hf.get 5 2 rfl) FF.nil))), (hS11.sel [0, 1, 2] rfl rfl)⟩
    ·skip
     have hF7 := cf' hz1 hb3
     refine cw_skip (cw_seq (cw_region ?_))
     refine sQ 28 (Y_loadA (B := aD b) (i := 0) (cs := [vi p.Ins, vi p.Vars, vi p.Root, vi p.Phase, .slice B p.Terms.length c, .slice B1 p.Out.length c1]) (vs := [vi p.Ins, vi p.Vars, vi p.Root, vi p.Phase, .slice B p.Terms.length c, .slice B1 p.Out.length c1]) k_ag_30 k_sz_30_6 rfl (hf.get 1 0 rfl) (hS11.cf (i := 0) rfl) rfl rfl) ?_
     refine sQ 29 (Y_load1 (B := B4) (i := 0) (cs := [vi y]) (v := vi y) k_sc_3 rfl (hf.get 5 2 rfl) (hS11.cf (i := 2) rfl) rfl) ?_
     obtain ⟨⟨r_5, r_6⟩, hc2, hF7⟩ := bind_inv hF7
     refine sc 30 rfl rfl (Yc_func (g := 23) (vs := [.agg #[vi p.Ins, vi p.Vars, vi p.Root, vi p.Phase, .slice B p.Terms.length c, .slice B1 p.Out.length c1], vi y]) k_call_23 rfl (mc rfl (mc rfl mn)) (c_impl_PathSum_ruled p y B c p.Terms.length B1 c1 p.Out.length _ rfl rfl (hS11.inn0 [(true, 0), (true, 1), (true, 2), (true, 3)] rfl) hc2)) ?_
     rintro _ w_7 ⟨B5, c4, B6, c5, rfl, hd2⟩
     have hS12 := hS11.out0 hd2
     refine sQ 27 (Y_move (v := .tuple #[.agg #[vi r_5.Ins, vi r_5.Vars, vi r_5.Root, vi r_5.Phase, .slice B5 r_5.Terms.length c4, .slice B6 r_5.Out.length c5], vi r_6]) rfl rfl) ?_
     refine sQ 31 (Y_extract (v := .agg #[vi r_5.Ins, vi r_5.Vars, vi r_5.Root, vi r_5.Phase, .slice B5 r_5.Terms.length c4, .slice B6 r_5.Out.length c5]) rfl rfl rfl) ?_
     refine sQ 32 (Y_extract (v := vi r_6) rfl rfl rfl) ?_
     refine sS 6 (Ys_alloc (T := 30) (cs := [vi 0, vi 0, vi 0, vi 0, .slice none 0 0, .slice none 0 0]) (m := 6) hS12 k_zero_30 rfl rfl rfl) ?_
     rintro _ w_8 ⟨b3, rfl, hS13⟩
     refine s0 (Ys_store (i := 5) (s := 6) (B := aD b3) (T' := 30) (v := .agg #[vi r_5.Ins, vi r_5.Vars, vi r_5.Root, vi r_5.Phase, .slice B5 r_5.Terms.length c4, .slice B6 r_5.Out.length c5]) (vs := [vi r_5.Ins, vi r_5.Vars, vi r_5.Root, vi r_5.Phase, .slice B5 r_5.Terms.length c4, .slice B6 r_5.Out.length c5]) (k := 0) (cs' := [vi r_5.Ins, vi r_5.Vars, vi r_5.Root, vi r_5.Phase, .slice B5 r_5.Terms.length c4, .slice B6 r_5.Out.length c5]) hS13 k_sz_30_6 rfl rfl rfl rfl rfl rfl rfl (lB rfl) rfl rfl) ?_
     rintro _ w_9 ⟨rfl, hS14⟩
     refine sQ 7 (Y_assign (v := vi r_6) rfl rfl) (rw_nil (cw_seq (cw_seq (cw_region ?_))))
     refine sQ 33 (Y_move (v := vi r_6) rfl rfl) ?_
     refine sQ 34 (Y_eq (k := .i64) (a := r_6) (b := 0) rfl rfl rfl) (rw_nil ?_)
     refine cw_cond (b := (r_6 == 0)) rfl (fun hb4 => ?_) (fun hb4 => ?_)
     ·skip
      have hF8 := ct hF7 hb4
      refine cw_exit rfl ?_
      exact ⟨(some_inj hF8), (FF.cons (hf.get 1 0 rfl) (FF.cons (hf.get 2 1 rfl) (FF.cons (hf.get 5 2 rfl) FF.nil))), (hS14.sel [0, 1, 2] rfl rfl)⟩
     ·skip
      have hF9 := cf' hF7 hb4
      refine cw_skip (cw_seq (cw_seq (cw_region ?_)))
      refine sQ 35 (Y_loadA (B := aD b3) (i := 0) (cs := [vi r_5.Ins, vi r_5.Vars, vi r_5.Root, vi r_5.Phase, .slice B5 r_5.Terms.length c4, .slice B6 r_5.Out.length c5]) (vs := [vi r_5.Ins, vi r_5.Vars, vi r_5.Root, vi r_5.Phase, .slice B5 r_5.Terms.length c4, .slice B6 r_5.Out.length c5]) k_ag_30 k_sz_30_6 rfl rfl (hS14.cf (i := 5) rfl) rfl rfl) ?_
      obtain ⟨r_7, hc3, hF9⟩ := bind_inv hF9
      refine sc 36 rfl rfl (Yc_func (g := 20) (vs := [.agg #[vi r_5.Ins, vi r_5.Vars, vi r_5.Root, vi r_5.Phase, .slice B5 r_5.Terms.length c4, .slice B6 r_5.Out.length c5]]) k_call_20 rfl (mc rfl mn) (c_impl_IsValidPathSum r_5 B5 c4 r_5.Terms.length B6 c5 r_5.Out.length _ rfl rfl (hS14.inn0 [(false, 3), (false, 4)] rfl) hc3)) ?_
      rintro _ w_10 ⟨rfl, hd3⟩
      have hS15 := hS14.out00 hd3
      refine sQ 37 (Y_not (p := r_7) rfl rfl) (rw_nil ?_)
      refine cw_cond (b := (!r_7)) rfl (fun hb5 => ?_) (fun hb5 => ?_)
      ·skip
       have hF10 := ct hF9 hb5
       refine cw_seq (cw_region ?_)
       refine sQ 38 (Y_buildS (zs := [vi 0, vi 0, vi 0, vi 0, .slice none 0 0, .slice none 0 0]) (vs := []) (cs := [vi 0, vi 0, vi 0, vi 0, .slice none 0 0, .slice none 0 0]) k_pl_30 k_zero_30 rfl mpn rfl) ?_
       refine s0 (Ys_store (i := 1) (s := 6) (B := aD b1) (T' := 30) (v := .agg #[vi 0, vi 0, vi 0, vi 0, .slice none 0 0, .slice none 0 0]) (vs := [vi 0, vi 0, vi 0, vi 0, .slice none 0 0, .slice none 0 0]) (k := 0) (cs' := [vi 0, vi 0, vi 0, vi 0, .slice none 0 0, .slice none 0 0]) hS15 k_sz_30_6 rfl (hf.get 2 1 rfl) rfl rfl rfl rfl rfl (lB rfl) rfl rfl) ?_
       rintro _ w_11 ⟨rfl, hS16⟩
       refine sQ 3 (Y_assign (v := vi 0) rfl rfl) ?_
       refine sQ 4 (Y_assign (v := .bool false) rfl rfl) (rw_nil (cw_ret ?_))
       have hS17 := hS16.addNil 56
       have hS18 := hS17.addNil 44
       obtain rfl := some_inj hF10
       obtain rfl := some_inj hF5
       obtain rfl := some_inj hL1
       obtain ⟨rfl, rfl, rfl⟩ := pr3 (some_inj hF3)
       exact ret3 Tryd.results8 (v1 := .agg #[vi 0, vi 0, vi 0, vi 0, .slice none 0 0, .slice none 0 0]) (resAt_cellA (B := aD b1) (i := 0) (cs := [vi 0, vi 0, vi 0, vi 0, .slice none 0 0, .slice none 0 0]) (vs := [vi 0, vi 0, vi 0, vi 0, .slice none 0 0, .slice none 0 0]) (hf.get 2 1 rfl) k_ag_30 k_sz_30_6 (hS18.cf (i := 1) rfl) rfl rfl) (v2 := vi 0) (resAt_tmp rfl) (v3 := .bool false) (resAt_tmp rfl) ⟨none, 0, none, 0, rfl, (hS18.sN [6, 7])⟩
      ·skip
       have hF11 := cf' hF9 hb5
       refine cw_skip (cw_seq (cw_region ?_))
       refine sQ 39 (Y_loadA (B := aD b3) (i := 0) (cs := [vi r_5.Ins, vi r_5.Vars, vi r_5.Root, vi r_5.Phase, .slice B5 r_5.Terms.length c4, .slice B6 r_5.Out.length c5]) (vs := [vi r_5.Ins, vi r_5.Vars, vi r_5.Root, vi r_5.Phase, .slice B5 r_5.Terms.length c4, .slice B6 r_5.Out.length c5]) k_ag_30 k_sz_30_6 rfl rfl (hS15.cf (i := 5) rfl) rfl rfl) ?_
       refine sQ 40 (Y_move (v := vi r_6) rfl rfl) ?_
       refine s0 (Ys_store (i := 1) (s := 6) (B := aD b1) (T' := 30) (v := .agg #[vi r_5.Ins, vi r_5.Vars, vi r_5.Root, vi r_5.Phase, .slice B5 r_5.Terms.length c4, .slice B6 r_5.Out.length c5]) (vs := [vi r_5.Ins, vi r_5.Vars, vi r_5.Root, vi r_5.Phase, .slice B5 r_5.Terms.length c4, .slice B6 r_5.Out.length c5]) (k := 0) (cs' := [vi r_5.Ins, vi r_5.Vars, vi r_5.Root, vi r_5.Phase, .slice B5 r_5.Terms.length c4, .slice B6 r_5.Out.length c5]) hS15 k_sz_30_6 rfl (hf.get 2 1 rfl) rfl rfl rfl rfl rfl (lB rfl) rfl rfl) ?_
       rintro _ w_12 ⟨rfl, hS19⟩
       refine sQ 3 (Y_assign (v := vi r_6) rfl rfl) ?_
       refine sQ 4 (Y_assign (v := .bool true) rfl rfl) (rw_nil (cw_ret ?_))
       obtain rfl := some_inj hF11
       obtain rfl := some_inj hF5
       obtain rfl := some_inj hL1
       obtain ⟨rfl, rfl, rfl⟩ := pr3 (some_inj hF3)
       exact ret3 Tryd.results8 (v1 := .agg #[vi r_5.Ins, vi r_5.Vars, vi r_5.Root, vi r_5.Phase, .slice B5 r_5.Terms.length c4, .slice B6 r_5.Out.length c5]) (resAt_cellA (B := aD b1) (i := 0) (cs := [vi r_5.Ins, vi r_5.Vars, vi r_5.Root, vi r_5.Phase, .slice B5 r_5.Terms.length c4, .slice B6 r_5.Out.length c5]) (vs := [vi r_5.Ins, vi r_5.Vars, vi r_5.Root, vi r_5.Phase, .slice B5 r_5.Terms.length c4, .slice B6 r_5.Out.length c5]) (hf.get 2 1 rfl) k_ag_30 k_sz_30_6 (hS19.cf (i := 1) rfl) rfl rfl) (v2 := vi r_6) (resAt_tmp rfl) (v3 := .bool true) (resAt_tmp rfl) ⟨B5, c4, B6, c5, rfl, (hS19.sN [3, 4])⟩
   rintro f w ⟨rfl, hf1, hS10⟩
   refine cw_seq (cw_seq (cw_region ?_))
   refine sQ 41 (Y_load1 (B := B4) (i := 0) (cs := [vi y]) (v := vi y) k_sc_3 rfl (hf1.get 5 2 rfl) (hS10.cf (i := 2) rfl) rfl) (rw_nil (cw_region ?_))
   refine sS 5 (Ys_alloc (T := 3) (cs := [vi 0]) (m := 1) hS10 k_zero_3 rfl rfl rfl) ?_
   rintro _ w_13 ⟨b4, rfl, hS20⟩
   refine s0 (Ys_store (i := 3) (s := 1) (B := aD b4) (T' := 3) (v := vi y) (vs := [vi y]) (k := 0) (cs' := [vi y]) hS20 k_sz_3_1 rfl rfl rfl rfl rfl rfl rfl (lB rfl) rfl rfl) ?_
   rintro _ w_14 ⟨rfl, hS21⟩
   refine rw_nil (cw_region ?_)
   refine sQ 21 (Y_load1 (B := aD b4) (i := 0) (cs := [vi y]) (v := vi y) k_sc_3 rfl rfl (hS21.cf (i := 3) rfl) rfl) ?_
   refine sQ 22 (Y_add (k := .i64) (a := y) (b := 1) rfl rfl rfl) ?_
   refine s0 (Ys_store (i := 3) (s := 1) (B := aD b4) (T' := 3) (v := vi (i64.wrap (y + 1))) (vs := [vi (i64.wrap (y + 1))]) (k := 0) (cs' := [vi (i64.wrap (y + 1))]) hS21 k_sz_3_1 rfl rfl rfl rfl rfl rfl rfl (lB rfl) rfl rfl) ?_
   rintro _ w_15 ⟨rfl, hS22⟩
   refine rw_nil ?_
   obtain rfl := some_inj hF5
   exact ⟨k_1, Nat.lt_succ_self _, (i64.wrap (y + 1)), aD b4, (FF.cons (hf1.get 1 0 rfl) (FF.cons (hf1.get 2 1 rfl) (FF.cons rfl FF.nil))), (hS22.sel [0, 1, 3] rfl rfl), hL1⟩
  ·skip
   have hF12 := cf' hb1 hb2
   refine cw_exit rfl ?_
   obtain rfl := some_inj hF12
   obtain rfl := some_inj hL1
   refine cw_seq (cw_region ?_)
   refine sQ 42 (Y_buildS (zs := [vi 0, vi 0, vi 0, vi 0, .slice none 0 0, .slice none 0 0]) (vs := []) (cs := [vi 0, vi 0, vi 0, vi 0, .slice none 0 0, .slice none 0 0]) k_pl_30 k_zero_30 rfl mpn rfl) ?_
   refine s0 (Ys_store (i := 1) (s := 6) (B := aD b1) (T' := 30) (v := .agg #[vi 0, vi 0, vi 0, vi 0, .slice none 0 0, .slice none 0 0]) (vs := [vi 0, vi 0, vi 0, vi 0, .slice none 0 0, .slice none 0 0]) (k := 0) (cs' := [vi 0, vi 0, vi 0, vi 0, .slice none 0 0, .slice none 0 0]) hS9 k_sz_30_6 rfl (hf.get 2 1 rfl) rfl rfl rfl rfl rfl (lB rfl) rfl rfl) ?_
   rintro _ w_16 ⟨rfl, hS23⟩
   refine sQ 3 (Y_assign (v := vi 0) rfl rfl) ?_
   refine sQ 4 (Y_assign (v := .bool false) rfl rfl) (rw_nil (cw_ret ?_))
   have hS24 := hS23.addNil 56
   have hS25 := hS24.addNil 44
   obtain ⟨rfl, rfl, rfl⟩ := pr3 (some_inj hF3)
   exact ret3 Tryd.results8 (v1 := .agg #[vi 0, vi 0, vi 0, vi 0, .slice none 0 0, .slice none 0 0]) (resAt_cellA (B := aD b1) (i := 0) (cs := [vi 0, vi 0, vi 0, vi 0, .slice none 0 0, .slice none 0 0]) (vs := [vi 0, vi 0, vi 0, vi 0, .slice none 0 0, .slice none 0 0]) (hf.get 2 1 rfl) k_ag_30 k_sz_30_6 (hS25.cf (i := 1) rfl) rfl rfl) (v2 := vi 0) (resAt_tmp rfl) (v3 := .bool false) (resAt_tmp rfl) ⟨none, 0, none, 0, rfl, (hS25.sN [3, 4])⟩

theorem c_slices_Clone_impl_Term_impl_Term (s : List TTerm) (B : Option Addr) (c n : Nat) (w0 : World) (hn : s.length = n) (hS : ST w0 [] w0 [] [⟨B, (s.flatMap eN0)⟩]) {r_ : List TTerm} (hF : F_slices_Clone_impl_Term_impl_Term s = some r_) :
  CV Tryd.prog 32 #[.slice B n c] w0 (fun v w' => ∃ (B1 : Option Addr) (c1 : Nat), v = .slice B1 r_.length c1 ∧ ST w0 [] w' [⟨B1, 56, (r_.flatMap eN0), c1 * 2⟩] []) := by
 subst hn
 unfold F_slices_Clone_impl_Term_impl_Term at hF
 refine cv_of_cw 8 Tryd.func32 rfl Tryd.ntmps32 rfl ?_
 refine cw_seq (cw_region ?_)
 refine sQ 2 (Y_assign (v := .slice none 0 0) rfl rfl) (rw_nil (cw_seq (cw_seq (cw_region ?_))))
 refine sQ 3 (Y_move (v := .slice B s.length c) rfl rfl) ?_
 refine sQ 4 (Y_nileql (B := B) (m := s.length) (c := c) k_sl_27_56 rfl rfl rfl) (rw_nil ?_)
 refine cw_cond (b := B.isNone) rfl (fun hb => ?_) (fun hb => ?_)
 ·skip
  have hl : s = [] := nil_cont eN2 (hS.rf (i := 0) rfl) rfl hb
  rw [hl] at hF
  have hF1 : (some ([])) = some r_ := by simpa [chk] using hF
  subst hl
  refine cw_seq (cw_region ?_)
  refine sQ 2 (Y_assign (v := .slice none 0 0) rfl rfl) (rw_nil (cw_ret ?_))
  have hS1 := hS.addNil 56
  obtain rfl := some_inj hF1
  exact ret1 Tryd.results32 (v1 := .slice none 0 0) (resAt_tmp rfl) ⟨none, 0, rfl, (hS1.sN [0])⟩
 ·skip
  refine cw_skip (cw_seq (cw_region ?_))
  refine sS 5 (Ys_bslice0 (s := 2) (e := 56) hS k_sl_27_56 k_sz_56_2 rfl) ?_
  rintro _ w_ ⟨b, rfl, hS2⟩
  refine sQ 6 (Y_move (v := .slice B s.length c) rfl rfl) ?_
  obtain ⟨hap, hF⟩ := chk_inv hF
  refine sS 7 (Ys_append (s := 2) (by' := 16) (i := 0) (nn := 0) (c := 0) (k := s.length) (len := s.length) (B := aD b) (xs := (s.flatMap eN0)) (cs' := (s.flatMap eN0)) hS2 k_sl_27_56 k_sz_56_2 k_by_56_16 k_zero_56 rfl (by decide) rfl rfl rfl rfl (fm_lenn (l := []) eN2 rfl) rfl (hS2.rf (i := 0) rfl) (fm_lenn (l := s) eN2 rfl) (fm_one' (enc := eN0) enc_Term_one s) (by have := hap; omega) (by have := hap; simp only [maxLen]; omega) rfl (app_len0 (l := s) rfl)) ?_
  rintro _ w_1 ⟨B2, c2, rfl, hS3⟩
  refine sQ 2 (Y_assign (v := .slice B2 s.length c2) rfl rfl) (rw_nil (cw_ret ?_))
  obtain rfl := some_inj hF
  exact ret1 Tryd.results32 (v1 := .slice B2 s.length c2) (resAt_tmp rfl) ⟨B2, c2, rfl, (hS3.sN [0])⟩

theorem c_slices_Clone_impl_Affine_impl_Affine (s : List TAffine) (B : Option Addr) (c n : Nat) (w0 : World) (hn : s.length = n) (hS : ST w0 [] w0 [] [⟨B, (s.flatMap eN1)⟩]) {r_ : List TAffine} (hF : F_slices_Clone_impl_Affine_impl_Affine s = some r_) :
  CV Tryd.prog 33 #[.slice B n c] w0 (fun v w' => ∃ (B1 : Option Addr) (c1 : Nat), v = .slice B1 r_.length c1 ∧ ST w0 [] w' [⟨B1, 44, (r_.flatMap eN1), c1 * 2⟩] []) := by
 subst hn
 unfold F_slices_Clone_impl_Affine_impl_Affine at hF
 refine cv_of_cw 8 Tryd.func33 rfl Tryd.ntmps33 rfl ?_
 refine cw_seq (cw_region ?_)
 refine sQ 2 (Y_assign (v := .slice none 0 0) rfl rfl) (rw_nil (cw_seq (cw_seq (cw_region ?_))))
 refine sQ 3 (Y_move (v := .slice B s.length c) rfl rfl) ?_
 refine sQ 4 (Y_nileql (B := B) (m := s.length) (c := c) k_sl_28_44 rfl rfl rfl) (rw_nil ?_)
 refine cw_cond (b := B.isNone) rfl (fun hb => ?_) (fun hb => ?_)
 ·skip
  have hl : s = [] := nil_cont enc_Affine_len (hS.rf (i := 0) rfl) rfl hb
  rw [hl] at hF
  have hF1 : (some ([])) = some r_ := by simpa [chk] using hF
  subst hl
  refine cw_seq (cw_region ?_)
  refine sQ 2 (Y_assign (v := .slice none 0 0) rfl rfl) (rw_nil (cw_ret ?_))
  have hS1 := hS.addNil 44
  obtain rfl := some_inj hF1
  exact ret1 Tryd.results33 (v1 := .slice none 0 0) (resAt_tmp rfl) ⟨none, 0, rfl, (hS1.sN [0])⟩
 ·skip
  refine cw_skip (cw_seq (cw_region ?_))
  refine sS 5 (Ys_bslice0 (s := 2) (e := 44) hS k_sl_28_44 k_sz_44_2 rfl) ?_
  rintro _ w_ ⟨b, rfl, hS2⟩
  refine sQ 6 (Y_move (v := .slice B s.length c) rfl rfl) ?_
  obtain ⟨hap, hF⟩ := chk_inv hF
  refine sS 7 (Ys_append (s := 2) (by' := 16) (i := 0) (nn := 0) (c := 0) (k := s.length) (len := s.length) (B := aD b) (xs := (s.flatMap eN1)) (cs' := (s.flatMap eN1)) hS2 k_sl_28_44 k_sz_44_2 k_by_44_16 k_zero_44 rfl (by decide) rfl rfl rfl rfl (fm_lenn (l := []) enc_Affine_len rfl) rfl (hS2.rf (i := 0) rfl) (fm_lenn (l := s) enc_Affine_len rfl) (fm_one' (enc := eN1) enc_Affine_one s) (by have := hap; omega) (by have := hap; simp only [maxLen]; omega) rfl (app_len0 (l := s) rfl)) ?_
  rintro _ w_1 ⟨B2, c2, rfl, hS3⟩
  refine sQ 2 (Y_assign (v := .slice B2 s.length c2) rfl rfl) (rw_nil (cw_ret ?_))
  obtain rfl := some_inj hF
  exact ret1 Tryd.results33 (v1 := .slice B2 s.length c2) (resAt_tmp rfl) ⟨B2, c2, rfl, (hS3.sN [0])⟩

theorem c_impl_ReducePathSum (p : TPathSum) (B : Option Addr) (c n : Nat) (B1 : Option Addr) (c1 n1 : Nat) (w0 : World) (hn : p.Terms.length = n) (hn1 : p.Out.length = n1) (hS : ST w0 [] w0 [] [⟨B, (p.Terms.flatMap eN0)⟩, ⟨B1, (p.Out.flatMap eN1)⟩, ⟨(aD 0), (gl0.flatMap enc_u8)⟩, ⟨(aD 1), (gl1.flatMap enc_u8)⟩]) {r_ : TPathSum} {r_1 : Int} {r_2 : Bool} (hF : F_impl_ReducePathSum p = some (r_, r_1, r_2)) :
  CV Tryd.prog 13 #[.agg #[vi p.Ins, vi p.Vars, vi p.Root, vi p.Phase, .slice B n c, .slice B1 n1 c1]] w0 (fun v w' => ∃ (B2 : Option Addr) (c2 : Nat) (B3 : Option Addr) (c3 : Nat), v = .tuple #[.agg #[vi r_.Ins, vi r_.Vars, vi r_.Root, vi r_.Phase, .slice B2 r_.Terms.length c2, .slice B3 r_.Out.length c3], vi r_1, .bool r_2] ∧ ST w0 [] w' [⟨B2, 56, (r_.Terms.flatMap eN0), c2 * 2⟩, ⟨B3, 44, (r_.Out.flatMap eN1), c3 * 2⟩] []) := by
 subst hn
 subst hn1
 unfold F_impl_ReducePathSum at hF
 refine cv_of_cw 36 Tryd.func13 rfl Tryd.ntmps13 rfl ?_
 refine cw_seq (cw_region ?_)
 refine sS 1 (Ys_box (T := 30) (v := .agg #[vi p.Ins, vi p.Vars, vi p.Root, vi p.Phase, .slice B p.Terms.length c, .slice B1 p.Out.length c1]) (cs := [vi p.Ins, vi p.Vars, vi p.Root, vi p.Phase, .slice B p.Terms.length c, .slice B1 p.Out.length c1]) (m := 6) hS rfl rfl rfl rfl) ?_
 rintro _ w_ ⟨b, rfl, hS1⟩
 refine sS 2 (Ys_alloc (T := 30) (cs := [vi 0, vi 0, vi 0, vi 0, .slice none 0 0, .slice none 0 0]) (m := 6) hS1 k_zero_30 rfl rfl rfl) ?_
 rintro _ w_1 ⟨b1, rfl, hS2⟩
 refine sQ 3 (Y_assign (v := vi 0) rfl rfl) ?_
 refine sQ 4 (Y_assign (v := .bool false) rfl rfl) (rw_nil (cw_seq (cw_seq (cw_region ?_))))
 refine sQ 10 (Y_loadA (B := aD b) (i := 0) (cs := [vi p.Ins, vi p.Vars, vi p.Root, vi p.Phase, .slice B p.Terms.length c, .slice B1 p.Out.length c1]) (vs := [vi p.Ins, vi p.Vars, vi p.Root, vi p.Phase, .slice B p.Terms.length c, .slice B1 p.Out.length c1]) k_ag_30 k_sz_30_6 rfl rfl (hS2.cf (i := 0) rfl) rfl rfl) ?_
 obtain ⟨r_3, hc, hF⟩ := bind_inv hF
 refine sc 11 rfl rfl (Yc_func (g := 20) (vs := [.agg #[vi p.Ins, vi p.Vars, vi p.Root, vi p.Phase, .slice B p.Terms.length c, .slice B1 p.Out.length c1]]) k_call_20 rfl (mc rfl mn) (c_impl_IsValidPathSum p B c p.Terms.length B1 c1 p.Out.length _ rfl rfl (hS2.inn0 [(true, 0), (true, 1)] rfl) hc)) ?_
 rintro _ w_2 ⟨rfl, hd⟩
 have hS3 := hS2.out00 hd
 refine sQ 12 (Y_not (p := r_3) rfl rfl) (rw_nil ?_)
 refine cw_cond (b := (!r_3)) rfl (fun hb => ?_) (fun hb => ?_)
 ·skip
  have hF1 := ct hF hb
  refine cw_seq (cw_region ?_)
  refine sQ 13 (Y_buildS (zs := [vi 0, vi 0, vi 0, vi 0, .slice none 0 0, .slice none 0 0]) (vs := []) (cs := [vi 0, vi 0, vi 0, vi 0, .slice none 0 0, .slice none 0 0]) k_pl_30 k_zero_30 rfl mpn rfl) ?_
  refine s0 (Ys_store (i := 1) (s := 6) (B := aD b1) (T' := 30) (v := .agg #[vi 0, vi 0, vi 0, vi 0, .slice none 0 0, .slice none 0 0]) (vs := [vi 0, vi 0, vi 0, vi 0, .slice none 0 0, .slice none 0 0]) (k := 0) (cs' := [vi 0, vi 0, vi 0, vi 0, .slice none 0 0, .slice none 0 0]) hS3 k_sz_30_6 rfl rfl rfl rfl rfl rfl rfl (lB rfl) rfl rfl) ?_
  rintro _ w_3 ⟨rfl, hS4⟩
  refine sQ 3 (Y_assign (v := vi 0) rfl rfl) ?_
  refine sQ 4 (Y_assign (v := .bool false) rfl rfl) (rw_nil (cw_ret ?_))
  have hS5 := hS4.addNil 56
  have hS6 := hS5.addNil 44
  obtain ⟨rfl, rfl, rfl⟩ := pr3 (some_inj hF1)
  exact ret3 Tryd.results13 (v1 := .agg #[vi 0, vi 0, vi 0, vi 0, .slice none 0 0, .slice none 0 0]) (resAt_cellA (B := aD b1) (i := 0) (cs := [vi 0, vi 0, vi 0, vi 0, .slice none 0 0, .slice none 0 0]) (vs := [vi 0, vi 0, vi 0, vi 0, .slice none 0 0, .slice none 0 0]) rfl k_ag_30 k_sz_30_6 (hS6.cf (i := 1) rfl) rfl rfl) (v2 := vi 0) (resAt_tmp rfl) (v3 := .bool false) (resAt_tmp rfl) ⟨none, 0, none, 0, rfl, (hS6.sN [2, 3])⟩
 ·skip
  have hF2 := cf' hF hb
  refine cw_skip (cw_seq (cw_region ?_))
  refine sQ 14 (Y_loadA (B := aD b) (i := 0) (cs := [vi p.Ins, vi p.Vars, vi p.Root, vi p.Phase, .slice B p.Terms.length c, .slice B1 p.Out.length c1]) (vs := [vi p.Ins, vi p.Vars, vi p.Root, vi p.Phase, .slice B p.Terms.length c, .slice B1 p.Out.length c1]) k_ag_30 k_sz_30_6 rfl rfl (hS3.cf (i := 0) rfl) rfl rfl) ?_
  refine sS 5 (Ys_alloc (T := 30) (cs := [vi 0, vi 0, vi 0, vi 0, .slice none 0 0, .slice none 0 0]) (m := 6) hS3 k_zero_30 rfl rfl rfl) ?_
  rintro _ w_4 ⟨b2, rfl, hS7⟩
  refine s0 (Ys_store (i := 2) (s := 6) (B := aD b2) (T' := 30) (v := .agg #[vi p.Ins, vi p.Vars, vi p.Root, vi p.Phase, .slice B p.Terms.length c, .slice B1 p.Out.length c1]) (vs := [vi p.Ins, vi p.Vars, vi p.Root, vi p.Phase, .slice B p.Terms.length c, .slice B1 p.Out.length c1]) (k := 0) (cs' := [vi p.Ins, vi p.Vars, vi p.Root, vi p.Phase, .slice B p.Terms.length c, .slice B1 p.Out.length c1]) hS7 k_sz_30_6 rfl rfl rfl rfl rfl rfl rfl (lB rfl) rfl rfl) ?_
  rintro _ w_5 ⟨rfl, hS8⟩
  refine rw_nil (cw_seq ?_)
  obtain ⟨r_4, hc1, hF2⟩ := bind_inv hF2
  obtain ⟨r_5, hc2, hF2⟩ := bind_inv hF2
  refine ra_start (hS8.se [0, 1]).fn (by kernel_rfl) ?_
  have hS11 := hS8.drew
  refine rq 0 15 (v := pt (aD b) 4) rfl (hS11.se [0, 1]) (fun w' hw' => (Y_fieldAddr (B := aD b) (i := 0) (s := 0) k_fd_30_4_4_27 k_sz_27_1 rfl rfl)) ?_
  refine rq 1 16 (v := .slice B p.Terms.length c) rfl (hS11.se [0, 1]) (fun w' hw' => (Y_load1 (B := aD b) (i := 4) (cs := [vi p.Ins, vi p.Vars, vi p.Root, vi p.Phase, .slice B p.Terms.length c, .slice B1 p.Out.length c1]) (v := .slice B p.Terms.length c) k_sc_27 rfl rfl (ST.cf hw' (i := 0) rfl) rfl)) ?_
  refine rq 3 18 (v := pt (aD b) 5) rfl (hS11.se [0, 1]) (fun w' hw' => (Y_fieldAddr (B := aD b) (i := 0) (s := 0) k_fd_30_5_5_28 k_sz_28_1 rfl rfl)) ?_
  refine rq 4 19 (v := .slice B1 p.Out.length c1) rfl (hS11.se [0, 1]) (fun w' hw' => (Y_load1 (B := aD b) (i := 5) (cs := [vi p.Ins, vi p.Vars, vi p.Root, vi p.Phase, .slice B p.Terms.length c, .slice B1 p.Out.length c1]) (v := .slice B1 p.Out.length c1) k_sc_28 rfl rfl (ST.cf hw' (i := 0) rfl) rfl)) ?_
  refine rA [2] ?_
  refine ra_c 17 (i := 2) rfl rfl rfl (Yc_func (g := 32) (vs := [.slice B p.Terms.length c]) k_call_32 rfl (mc rfl mn) (c_slices_Clone_impl_Term_impl_Term p.Terms B c p.Terms.length _ rfl (hS11.inn0 [(true, 0)] rfl) hc1)) ?_ ?_
  ·rintro _ w_6 ⟨B4, c4, rfl, hd1⟩
   have hS12 := hS11.out0 hd1
   refine ⟨(hS12.se [0, 1]), ?_⟩
   refine rq 6 21 (v := pt (aD b2) 4) rfl (hS12.se [0, 1]) (fun w' hw' => (Y_fieldAddr (B := aD b2) (i := 0) (s := 0) k_fd_30_4_4_27 k_sz_27_1 rfl rfl)) ?_
   refine rA [5] ?_
   refine ra_c 20 (i := 5) rfl rfl rfl (Yc_func (g := 33) (vs := [.slice B1 p.Out.length c1]) k_call_33 rfl (mc rfl mn) (c_slices_Clone_impl_Affine_impl_Affine p.Out B1 c1 p.Out.length _ rfl (hS12.inn0 [(true, 1)] rfl) hc2)) ?_ ?_
   ·rintro _ w_7 ⟨B5, c5, rfl, hd2⟩
    have hS13 := hS12.out0 hd2
    refine ⟨(hS13.se [0, 1]), ?_⟩
    refine rA [7] ?_
    refine ra_s0 (i := 7) rfl rfl rfl (Ys_store (i := 2) (s := 1) (B := aD b2) (T' := 30) (v := .slice B4 r_4.length c4) (vs := [.slice B4 r_4.length c4]) (k := 4) (cs' := [vi p.Ins, vi p.Vars, vi p.Root, vi p.Phase, .slice B4 r_4.length c4, .slice B1 p.Out.length c1]) hS13 k_sz_27_1 rfl rfl rfl rfl rfl rfl rfl (lB rfl) rfl rfl) ?_ ?_
    ·rintro _ w_8 ⟨rfl, hS14⟩
     refine ⟨(hS14.se [0, 1]), ?_⟩
     refine rq 8 22 (v := pt (aD b2) 5) rfl (hS14.se [0, 1]) (fun w' hw' => (Y_fieldAddr (B := aD b2) (i := 0) (s := 0) k_fd_30_5_5_28 k_sz_28_1 rfl rfl)) ?_
     refine rA [9] ?_
     refine ra_s0 (i := 9) rfl rfl rfl (Ys_store (i := 2) (s := 1) (B := aD b2) (T' := 30) (v := .slice B5 r_5.length c5) (vs := [.slice B5 r_5.length c5]) (k := 5) (cs' := [vi p.Ins, vi p.Vars, vi p.Root, vi p.Phase, .slice B4 r_4.length c4, .slice B5 r_5.length c5]) hS14 k_sz_28_1 rfl rfl rfl rfl rfl rfl rfl (lB rfl) rfl rfl) ?_ ?_
     ·rintro _ w_9 ⟨rfl, hS15⟩
      refine ⟨(hS15.se [0, 1]), ?_⟩
      refine ra_done (by kernel_rfl) ?_
      refine cw_seq (cw_region ?_)
      refine sQ 6 (Y_assign (v := vi 0) rfl rfl) (rw_nil ?_)
      obtain ⟨z, hz, hF3⟩ := bind_inv hF2
      refine cw_mid (fun f w => False) ?_ ?_
      ·skip
       refine cw_block ?_
       refine cw_loop (fun k f w => ∃ (Ins : Int) (Vars : Int) (Root : Int) (Phase : Int) (Terms : List TTerm) (Out : List TAffine) (count : Int) (B6 : Option Addr) (c6 : Nat) (B7 : Option Addr) (c7 : Nat), FF f [(2, pt (aD b1) 0), (5, pt (aD b2) 0), (6, vi count)] ∧ ST w0 [] w [⟨aD b1, 30, [vi 0, vi 0, vi 0, vi 0, .slice none 0 0, .slice none 0 0], 6⟩, ⟨aD b2, 30, [vi Ins, vi Vars, vi Root, vi Phase, .slice B6 Terms.length c6, .slice B7 Out.length c7], 6⟩, ⟨B6, 56, (Terms.flatMap eN0), c6 * 2⟩, ⟨B7, 44, (Out.flatMap eN1), c7 * 2⟩] [⟨B, (p.Terms.flatMap eN0)⟩, ⟨B1, (p.Out.flatMap eN1)⟩, ⟨(aD 0), (gl0.flatMap enc_u8)⟩, ⟨(aD 1), (gl1.flatMap enc_u8)⟩] ∧ whX F_impl_ReducePathSum_l1 k (Ins, Vars, Root, Phase, Terms, Out, count) = some z) fuel ⟨p.Ins, p.Vars, p.Root, p.Phase, r_4, r_5, 0, B4, c4, B5, c5, (FF.cons rfl (FF.cons rfl (FF.cons rfl FF.nil))), (hS15.sel [1, 2, 3, 4] rfl rfl), hz⟩ ?_
       rintro k_ f w ⟨Ins, Vars, Root, Phase, Terms, Out, count, B6, c6, B7, c7, hf, hS16, hL⟩
       obtain ⟨k_1, y, rfl, hb1, hL1⟩ := whX_go hL
       unfold F_impl_ReducePathSum_l1 at hb1
       refine cw_seq (cw_block (cw_seq (cw_region ?_)))
       refine sQ 26 (Y_loadA (B := aD b2) (i := 0) (cs := [vi Ins, vi Vars, vi Root, vi Phase, .slice B6 Terms.length c6, .slice B7 Out.length c7]) (vs := [vi Ins, vi Vars, vi Root, vi Phase, .slice B6 Terms.length c6, .slice B7 Out.length c7]) k_ag_30 k_sz_30_6 rfl (hf.get 5 1 rfl) (hS16.cf (i := 1) rfl) rfl rfl) ?_
       obtain ⟨⟨r_6, r_7, r_8⟩, hc3, hb1⟩ := bind_inv hb1
       refine sc 27 rfl rfl (Yc_func (g := 8) (vs := [.agg #[vi Ins, vi Vars, vi Root, vi Phase, .slice B6 Terms.length c6, .slice B7 Out.length c7]]) k_call_8 rfl (mc rfl mn) (c_impl_ReduceStep (TPathSum.mk Ins Vars Root Phase Terms Out) B6 c6 Terms.length B7 c7 Out.length _ rfl rfl (hS16.inn0 [(false, 2), (false, 3), (true, 2), (true, 3)] rfl) hc3)) ?_
       rintro _ w_10 ⟨B8, c8, B9, c9, rfl, hd3⟩
       have hS17 := hS16.out0 hd3
       refine sQ 25 (Y_move (v := .tuple #[.agg #[vi r_6.Ins, vi r_6.Vars, vi r_6.Root, vi r_6.Phase, .slice B8 r_6.Terms.length c8, .slice B9 r_6.Out.length c9], vi r_7, .bool r_8]) rfl rfl) ?_
       refine sQ 28 (Y_extract (v := .agg #[vi r_6.Ins, vi r_6.Vars, vi r_6.Root, vi r_6.Phase, .slice B8 r_6.Terms.length c8, .slice B9 r_6.Out.length c9]) rfl rfl rfl) ?_
       refine sQ 29 (Y_extract (v := vi r_7) rfl rfl rfl) ?_
       refine sQ 30 (Y_extract (v := .bool r_8) rfl rfl rfl) ?_
       refine sS 7 (Ys_alloc (T := 30) (cs := [vi 0, vi 0, vi 0, vi 0, .slice none 0 0, .slice none 0 0]) (m := 6) hS17 k_zero_30 rfl rfl rfl) ?_
       rintro _ w_11 ⟨b3, rfl, hS18⟩
       refine s0 (Ys_store (i := 6) (s := 6) (B := aD b3) (T' := 30) (v := .agg #[vi r_6.Ins, vi r_6.Vars, vi r_6.Root, vi r_6.Phase, .slice B8 r_6.Terms.length c8, .slice B9 r_6.Out.length c9]) (vs := [vi r_6.Ins, vi r_6.Vars, vi r_6.Root, vi r_6.Phase, .slice B8 r_6.Terms.length c8, .slice B9 r_6.Out.length c9]) (k := 0) (cs' := [vi r_6.Ins, vi r_6.Vars, vi r_6.Root, vi r_6.Phase, .slice B8 r_6.Terms.length c8, .slice B9 r_6.Out.length c9]) hS18 k_sz_30_6 rfl rfl rfl rfl rfl rfl rfl (lB rfl) rfl rfl) ?_
       rintro _ w_12 ⟨rfl, hS19⟩
       refine sQ 8 (Y_assign (v := vi r_7) rfl rfl) ?_
       refine sQ 9 (Y_assign (v := .bool r_8) rfl rfl) (rw_nil (cw_seq (cw_seq (cw_region ?_))))
       refine sQ 31 (Y_move (v := .bool r_8) rfl rfl) ?_
       refine sQ 32 (Y_not (p := r_8) rfl rfl) (rw_nil ?_)
       refine cw_cond (b := (!r_8)) rfl (fun hb2 => ?_) (fun hb2 => ?_)
       ·skip
        have hF4 := ct hb1 hb2
        refine cw_seq (cw_region ?_)
        refine sQ 33 (Y_loadA (B := aD b2) (i := 0) (cs := [vi Ins, vi Vars, vi Root, vi Phase, .slice B6 Terms.length c6, .slice B7 Out.length c7]) (vs := [vi Ins, vi Vars, vi Root, vi Phase, .slice B6 Terms.length c6, .slice B7 Out.length c7]) k_ag_30 k_sz_30_6 rfl (hf.get 5 1 rfl) (hS19.cf (i := 1) rfl) rfl rfl) ?_
        refine sQ 34 (Y_move (v := vi count) rfl (hf.get 6 2 rfl)) ?_
        refine s0 (Ys_store (i := 0) (s := 6) (B := aD b1) (T' := 30) (v := .agg #[vi Ins, vi Vars, vi Root, vi Phase, .slice B6 Terms.length c6, .slice B7 Out.length c7]) (vs := [vi Ins, vi Vars, vi Root, vi Phase, .slice B6 Terms.length c6, .slice B7 Out.length c7]) (k := 0) (cs' := [vi Ins, vi Vars, vi Root, vi Phase, .slice B6 Terms.length c6, .slice B7 Out.length c7]) hS19 k_sz_30_6 rfl (hf.get 2 0 rfl) rfl rfl rfl rfl rfl (lB rfl) rfl rfl) ?_
        rintro _ w_13 ⟨rfl, hS20⟩
        refine sQ 3 (Y_assign (v := vi count) rfl rfl) ?_
        refine sQ 4 (Y_assign (v := .bool true) rfl rfl) (rw_nil (cw_ret ?_))
        obtain rfl := some_inj hF4
        obtain rfl := some_inj hL1
        obtain ⟨rfl, rfl, rfl⟩ := pr3 (some_inj hF3)
        exact ret3 Tryd.results13 (v1 := .agg #[vi Ins, vi Vars, vi Root, vi Phase, .slice B6 Terms.length c6, .slice B7 Out.length c7]) (resAt_cellA (B := aD b1) (i := 0) (cs := [vi Ins, vi Vars, vi Root, vi Phase, .slice B6 Terms.length c6, .slice B7 Out.length c7]) (vs := [vi Ins, vi Vars, vi Root, vi Phase, .slice B6 Terms.length c6, .slice B7 Out.length c7]) (hf.get 2 0 rfl) k_ag_30 k_sz_30_6 (hS20.cf (i := 0) rfl) rfl rfl) (v2 := vi count) (resAt_tmp rfl) (v3 := .bool true) (resAt_tmp rfl) ⟨B6, c6, B7, c7, rfl, (hS20.sN [2, 3])⟩
       ·skip
        have hF5 := cf' hb1 hb2
        refine cw_skip (cw_region ?_)
        refine sQ 35 (Y_loadA (B := aD b3) (i := 0) (cs := [vi r_6.Ins, vi r_6.Vars, vi r_6.Root, vi r_6.Phase, .slice B8 r_6.Terms.length c8, .slice B9 r_6.Out.length c9]) (vs := [vi r_6.Ins, vi r_6.Vars, vi r_6.Root, vi r_6.Phase, .slice B8 r_6.Terms.length c8, .slice B9 r_6.Out.length c9]) k_ag_30 k_sz_30_6 rfl rfl (hS19.cf (i := 6) rfl) rfl rfl) ?_
        refine s0 (Ys_store (i := 1) (s := 6) (B := aD b2) (T' := 30) (v := .agg #[vi r_6.Ins, vi r_6.Vars, vi r_6.Root, vi r_6.Phase, .slice B8 r_6.Terms.length c8, .slice B9 r_6.Out.length c9]) (vs := [vi r_6.Ins, vi r_6.Vars, vi r_6.Root, vi r_6.Phase, .slice B8 r_6.Terms.length c8, .slice B9 r_6.Out.length c9]) (k := 0) (cs' := [vi r_6.Ins, vi r_6.Vars, vi r_6.Root, vi r_6.Phase, .slice B8 r_6.Terms.length c8, .slice B9 r_6.Out.length c9]) hS19 k_sz_30_6 rfl (hf.get 5 1 rfl) rfl rfl rfl rfl rfl (lB rfl) rfl rfl) ?_
        rintro _ w_14 ⟨rfl, hS21⟩
        refine rw_nil (cw_region ?_)
        refine sQ 23 (Y_move (v := vi count) rfl (hf.get 6 2 rfl)) ?_
        refine sQ 24 (Y_add (k := .i64) (a := count) (b := 1) rfl rfl rfl) ?_
        refine sQ 6 (Y_assign (v := vi (i64.wrap (count + 1))) rfl rfl) (rw_nil ?_)
        obtain rfl := some_inj hF5
        exact ⟨k_1, Nat.lt_succ_self _, r_6.Ins, r_6.Vars, r_6.Root, r_6.Phase, r_6.Terms, r_6.Out, (i64.wrap (count + 1)), B8, c8, B9, c9, (FF.cons (hf.get 2 0 rfl) (FF.cons (hf.get 5 1 rfl) (FF.cons rfl FF.nil))), (hS21.sel [0, 1, 4, 5] rfl rfl), hL1⟩
      rintro _ _ h
      exact h.elim
     exact allR_nil
    exact allR_nil
   exact allR_nil
  exact allR_nil
end Go.VK
