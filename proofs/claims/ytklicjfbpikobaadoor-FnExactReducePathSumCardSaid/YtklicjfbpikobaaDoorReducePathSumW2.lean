/- Walks: each Go function returns what its Lean function says. By program. -/
import Derived.Test.YtklicjfbpikobaaDoorReducePathSumFa
import Derived.Test.YtklicjfbpikobaaDoorReducePathSumShelf
import Derived.Test.YtklicjfbpikobaaDoorLibT
import Derived.WalkKit
import Derived.Test.YtklicjfbpikobaaDoorReducePathSumW1
set_option linter.unusedVariables false
set_option maxRecDepth 100000
set_option maxHeartbeats 4000000
namespace Go.VK
open Go.RowKit
open Go.Proofs
open Go.IntKind
attribute [local irreducible] CW RW RA CV Y Yw Yc Ys RetOf
attribute [local irreducible] F_laws_szTermS F_laws_szAffineS F_laws_szPathSum F_laws_toTerm F_laws_toTermS F_laws_toAffine F_laws_toAffineS F_laws_toPathSum F_laws_eqTerm F_laws_eqTermS F_laws_eqAffine F_laws_eqAffineS F_laws_eqPathSum F_laws_markTermS F_laws_markAffineS F_laws_markPathSum F_laws_heldTermS F_laws_heldAffineS F_laws_heldPathSum F_spec_l1In F_spec_l1Set F_spec_l21Valid F_spec_l21Rule F_spec_l21Drop F_spec_l21Sum_add F_spec_l21Sum_times F_spec_l21Replace F_spec_l21Without F_spec_l21Step F_spec_l21Reduce F_spec_l21Own F_spec_ReducePathSum F_slices_IndexFunc_impl_Affine_impl_Affine F_slices_ContainsFunc_impl_Affine_impl_Affine F_impl_within F_math_bits_OnesCount64 F_math_bits_OnesCount F_impl_bitsIn F_impl_isAffine F_impl_IsValidPathSum_1 F_impl_IsValidPathSum F_impl_ReduceStep_1 F_impl_PathSum_around F_math_bits_TrailingZeros64 F_math_bits_TrailingZeros F_impl_dropped F_impl_PathSum_without F_impl_polyOf F_impl_polynomial_add F_impl_bitsOf F_impl_polynomial_expand F_impl_polynomial_terms F_impl_PathSum_stripped F_impl_PathSum_substituted F_impl_PathSum_ruled F_impl_ReduceStep F_slices_Clone_impl_Term_impl_Term F_slices_Clone_impl_Affine_impl_Affine F_impl_ReducePathSum F_laws_FnExactReducePathSum
theorem c_spec_l21Replace (p : TPathSum) (v_ : Int) (by_ : TAffine) (B : Option Addr) (c n : Nat) (B1 : Option Addr) (c1 n1 : Nat) (w0 : World) (hn : p.Terms.length = n) (hn1 : p.Out.length = n1) (hS : ST w0 [] w0 [] [⟨B, (p.Terms.flatMap eN0)⟩, ⟨B1, (p.Out.flatMap eN1)⟩]) {r_ : TPathSum} (hF : F_spec_l21Replace p v_ by_ = some r_) :
  CV Tryd.prog 41 #[.agg #[vi p.Ins, vi p.Vars, vi p.Root, vi p.Phase, .slice B n c, .slice B1 n1 c1], vi v_, .agg #[vi by_.Mask, vi by_.Turn]] w0 (fun v w' => ∃ (B2 : Option Addr) (c2 : Nat) (B3 : Option Addr) (c3 : Nat), v = .agg #[vi r_.Ins, vi r_.Vars, vi r_.Root, vi r_.Phase, .slice B2 r_.Terms.length c2, .slice B3 r_.Out.length c3] ∧ ST w0 [] w' [⟨B2, 56, (r_.Terms.flatMap eN0), c2 * 2⟩, ⟨B3, 44, (r_.Out.flatMap eN1), c3 * 2⟩] []) := by
 subst hn
 subst hn1
 unfold F_spec_l21Replace at hF
 refine cv_of_cw 114 Tryd.func41 rfl Tryd.ntmps41 rfl ?_
 refine cw_seq (cw_region ?_)
 refine sS 3 (Ys_box (T := 30) (v := .agg #[vi p.Ins, vi p.Vars, vi p.Root, vi p.Phase, .slice B p.Terms.length c, .slice B1 p.Out.length c1]) (cs := [vi p.Ins, vi p.Vars, vi p.Root, vi p.Phase, .slice B p.Terms.length c, .slice B1 p.Out.length c1]) (m := 6) hS rfl rfl rfl rfl) ?_
 rintro _ w_ ⟨b, rfl, hS1⟩
 refine sS 5 (Ys_box (T := 44) (v := .agg #[vi by_.Mask, vi by_.Turn]) (cs := [vi by_.Mask, vi by_.Turn]) (m := 2) hS1 rfl rfl rfl rfl) ?_
 rintro _ w_1 ⟨b1, rfl, hS2⟩
 refine sS 6 (Ys_alloc (T := 30) (cs := [vi 0, vi 0, vi 0, vi 0, .slice none 0 0, .slice none 0 0]) (m := 6) hS2 k_zero_30 rfl rfl rfl) ?_
 rintro _ w_2 ⟨b2, rfl, hS3⟩
 refine rw_nil (cw_seq (cw_region ?_))
 refine sQ 13 (Y_fieldAddr (B := aD b) (i := 0) (s := 0) k_fd_30_3_3_3 k_sz_3_1 rfl rfl) ?_
 refine sQ 14 (Y_load1 (B := aD b) (i := 3) (cs := [vi p.Ins, vi p.Vars, vi p.Root, vi p.Phase, .slice B p.Terms.length c, .slice B1 p.Out.length c1]) (v := vi p.Phase) k_sc_3 rfl rfl (hS3.cf (i := 0) rfl) rfl) ?_
 refine sQ 15 (Y_buildS (zs := [vi 0, .slice none 0 0]) (vs := [(0, vi p.Phase)]) (cs := [vi p.Phase, .slice none 0 0]) k_pl_68 k_zero_68 rfl (mpc rfl mpn) rfl) ?_
 refine sS 16 (Ys_box (T := 68) (v := .agg #[vi p.Phase, .slice none 0 0]) (cs := [vi p.Phase, .slice none 0 0]) (m := 2) hS3 rfl rfl rfl rfl) ?_
 rintro _ w_3 ⟨b3, rfl, hS4⟩
 refine sQ 7 (Y_assign (v := pt (aD b3) 0) rfl rfl) (rw_nil (cw_seq (cw_seq (cw_region ?_))))
 refine sQ 17 (Y_fieldAddr (B := aD b) (i := 0) (s := 0) k_fd_30_4_4_27 k_sz_27_1 rfl rfl) ?_
 refine sQ 18 (Y_load1 (B := aD b) (i := 4) (cs := [vi p.Ins, vi p.Vars, vi p.Root, vi p.Phase, .slice B p.Terms.length c, .slice B1 p.Out.length c1]) (v := .slice B p.Terms.length c) k_sc_27 rfl rfl (hS4.cf (i := 0) rfl) rfl) ?_
 refine sQ 19 (Y_len (B := B) (m := p.Terms.length) (c := c) k_sl_27_56 rfl rfl) ?_
 refine sQ 20 (Y_move (v := vi 0) rfl rfl) (rw_nil ?_)
 obtain ⟨hN, hF⟩ := chk_inv hF
 obtain ⟨z, hz, hF1⟩ := bind_inv hF
 have hS6 := hS4.addNil 56
 refine cw_block ?_
 refine cw_loop (fun k f w => ∃ (i : Nat) (phase : Int) (terms : List TTerm) (B4 : Option Addr) (c4 : Nat), FF f [(1, vi v_), (3, pt (aD b) 0), (5, pt (aD b1) 0), (6, pt (aD b2) 0), (7, pt (aD b3) 0), (18, .slice B p.Terms.length c), (19, vi (p.Terms.length : Int)), (20, vi (i : Int))] ∧ ST w0 [] w [⟨aD b, 30, [vi p.Ins, vi p.Vars, vi p.Root, vi p.Phase, .slice B p.Terms.length c, .slice B1 p.Out.length c1], 6⟩, ⟨aD b1, 44, [vi by_.Mask, vi by_.Turn], 2⟩, ⟨aD b2, 30, [vi 0, vi 0, vi 0, vi 0, .slice none 0 0, .slice none 0 0], 6⟩, ⟨aD b3, 68, [vi phase, .slice B4 terms.length c4], 2⟩, ⟨B4, 56, (terms.flatMap eN0), c4 * 2⟩] [⟨B, (p.Terms.flatMap eN0)⟩, ⟨B1, (p.Out.flatMap eN1)⟩] ∧ i + k = p.Terms.length ∧ forN (F_spec_l21Replace_l1 p v_ by_) k i (phase, terms) = some z) p.Terms.length ⟨0, p.Phase, [], none, 0, (FF.cons rfl (FF.cons rfl (FF.cons rfl (FF.cons rfl (FF.cons rfl (FF.cons rfl (FF.cons rfl (FF.cons rfl FF.nil)))))))), (hS6.sel [0, 1, 2, 3, 4] rfl rfl), Nat.zero_add _, hz⟩ ?_
 rintro k_ f w ⟨i, phase, terms, B4, c4, hf, hS5, hik, hL⟩
 refine cw_seq (cw_region ?_)
 refine sQ 21 (Y_lt (k := .i64) (a := (i : Int)) (b := (p.Terms.length : Int)) rfl (hf.get 20 7 rfl) (hf.get 19 6 rfl)) (rw_nil (cw_seq ?_))
 refine cw_cond (b := (decide ((i : Int) < (p.Terms.length : Int)))) rfl (fun hlt => ?_) (fun hlt => ?_)
 ·skip
  have hlt1 : i < p.Terms.length := by have h := of_decide_eq_true hlt; omega
  obtain ⟨k_1, rfl⟩ : ∃ k2, k_ = k2 + 1 := ⟨k_ - 1, by omega⟩
  obtain ⟨y, hb, hL1⟩ := forN_go hL
  unfold F_spec_l21Replace_l1 at hb
  refine cw_skip (cw_seq ?_)
  obtain ⟨z1, hz1, hF2⟩ := bind_inv hb
  refine cw_mid (fun f w => ∃ (phase1 : Int) (terms1 : List TTerm) (B5 : Option Addr) (c5 : Nat), (phase1, terms1) = z1 ∧ FF f [(1, vi v_), (3, pt (aD b) 0), (5, pt (aD b1) 0), (6, pt (aD b2) 0), (7, pt (aD b3) 0), (18, .slice B p.Terms.length c), (19, vi (p.Terms.length : Int)), (20, vi (i : Int))] ∧ ST w0 [] w [⟨aD b, 30, [vi p.Ins, vi p.Vars, vi p.Root, vi p.Phase, .slice B p.Terms.length c, .slice B1 p.Out.length c1], 6⟩, ⟨aD b1, 44, [vi by_.Mask, vi by_.Turn], 2⟩, ⟨aD b2, 30, [vi 0, vi 0, vi 0, vi 0, .slice none 0 0, .slice none 0 0], 6⟩, ⟨aD b3, 68, [vi phase1, .slice B5 terms1.length c5], 2⟩, ⟨B5, 56, (terms1.flatMap eN0), c5 * 2⟩] [⟨B, (p.Terms.flatMap eN0)⟩, ⟨B1, (p.Out.flatMap eN1)⟩]) ?_ ?_
  ·skip
   refine cw_block (cw_seq (cw_region ?_))
   obtain ⟨x, hx, hz1⟩ := bind_inv hz1
   refine sQ 22 (Y_index (B := B) (m := p.Terms.length) (c := c) (k := .i64) (i := (i : Int)) k_sl_27_56 k_sz_56_2 rfl (hf.get 18 5 rfl) (hf.get 20 7 rfl) (gi_isSome eN2 rfl (hS5.rf (i := 0) rfl) hx) (getI_nn hx) (getI_ltI hx rfl)) ?_
   refine sQ 23 (Y_loadA (B := B) (i := (i : Int).toNat * 2) (cs := (p.Terms.flatMap eN0)) (vs := [vi x.Mask, vi x.Coef]) k_ag_56 k_sz_56_2 rfl rfl (hS5.rf (i := 0) rfl) (eN2 x) (gi_seg eN2 hx)) ?_
   refine sS 9 (Ys_alloc (T := 56) (cs := [vi 0, vi 0]) (m := 2) hS5 k_zero_56 rfl rfl rfl) ?_
   rintro _ w_4 ⟨b4, rfl, hS8⟩
   refine s0 (Ys_store (i := 5) (s := 2) (B := aD b4) (T' := 56) (v := .agg #[vi x.Mask, vi x.Coef]) (vs := [vi x.Mask, vi x.Coef]) (k := 0) (cs' := [vi x.Mask, vi x.Coef]) hS8 k_sz_56_2 rfl rfl rfl rfl rfl rfl rfl (lB rfl) rfl rfl) ?_
   rintro _ w_5 ⟨rfl, hS9⟩
   refine rw_nil (cw_seq (cw_region ?_))
   refine sQ 24 (Y_fieldAddr (B := aD b4) (i := 0) (s := 0) k_fd_56_0_0_3 k_sz_3_1 rfl rfl) ?_
   refine sQ 25 (Y_load1 (B := aD b4) (i := 0) (cs := [vi x.Mask, vi x.Coef]) (v := vi x.Mask) k_sc_3 rfl rfl (hS9.cf (i := 5) rfl) rfl) ?_
   refine sQ 26 (Y_move (v := vi v_) rfl (hf.get 1 0 rfl)) ?_
   refine sQ 27 (Y_conv (k := .i64) (a := v_) (T := 3) (T' := 59) k_us_3 k_int_59_u64 rfl rfl) ?_
   obtain ⟨hsh, hz1⟩ := chk_inv hz1
   refine sQ 28 (Y_shr (k := .i64) (a := x.Mask) (k' := .u64) (b := (IntKind.u64.wrap v_)) rfl rfl rfl hsh) ?_
   refine sQ 29 (Y_band (k := .i64) (a := (shrK .i64 x.Mask (IntKind.u64.wrap v_))) (b := 1) rfl rfl rfl) ?_
   refine sQ 30 (Y_eq (k := .i64) (a := (bits .and .i64 (shrK .i64 x.Mask (IntKind.u64.wrap v_)) 1)) (b := 0) rfl rfl rfl) (rw_nil ?_)
   refine cw_cond (b := ((bits .and .i64 (shrK .i64 x.Mask (IntKind.u64.wrap v_)) 1) == 0)) rfl (fun hb1 => ?_) (fun hb1 => ?_)
   ·skip
    have hF3 := ct hz1 hb1
    obtain ⟨r_1, hc, hF3⟩ := bind_inv hF3
    obtain ⟨m, hc1, hF3⟩ := bind_inv hF3
    refine ra_start (hS9.se [0, 1, 2, 5]).fn (by kernel_rfl) ?_
    have hS12 := hS9.drew
    refine rq 0 31 (v := pt (aD b3) 0) rfl (hS12.se [0, 1, 2, 5]) (fun w' hw' => (Y_move (v := pt (aD b3) 0) rfl (hf.get 7 4 rfl))) ?_
    refine rq 1 32 (v := pt (aD b4) 0) rfl (hS12.se [0, 1, 2, 5]) (fun w' hw' => (Y_fieldAddr (B := aD b4) (i := 0) (s := 0) k_fd_56_0_0_3 k_sz_3_1 rfl rfl)) ?_
    refine rq 2 33 (v := vi x.Mask) rfl (hS12.se [0, 1, 2, 5]) (fun w' hw' => (Y_load1 (B := aD b4) (i := 0) (cs := [vi x.Mask, vi x.Coef]) (v := vi x.Mask) k_sc_3 rfl rfl (ST.cf hw' (i := 3) rfl) rfl)) ?_
    refine rq 3 34 (v := vi v_) rfl (hS12.se [0, 1, 2, 5]) (fun w' hw' => (Y_move (v := vi v_) rfl (hf.get 1 0 rfl))) ?_
    refine rq 5 36 (v := pt (aD b4) 1) rfl (hS12.se [0, 1, 2, 5]) (fun w' hw' => (Y_fieldAddr (B := aD b4) (i := 0) (s := 0) k_fd_56_1_1_3 k_sz_3_1 rfl rfl)) ?_
    refine rq 6 37 (v := vi x.Coef) rfl (hS12.se [0, 1, 2, 5]) (fun w' hw' => (Y_load1 (B := aD b4) (i := 1) (cs := [vi x.Mask, vi x.Coef]) (v := vi x.Coef) k_sc_3 rfl rfl (ST.cf hw' (i := 3) rfl) rfl)) ?_
    refine rA [4] ?_
    refine ra_c 35 (i := 4) rfl rfl rfl (Yc_func (g := 38) (vs := [vi x.Mask, vi v_]) k_call_38 rfl (mc rfl (mc rfl mn)) (c_spec_l21Drop x.Mask v_ _  (hS12.inn0 [] rfl) hc)) ?_ ?_
    ·rintro _ w_6 ⟨rfl, hd⟩
     have hS13 := hS12.out00 hd
     refine ⟨(hS13.se [0, 1, 2, 5]), ?_⟩
     refine rA [7] ?_
     refine ra_c 38 (i := 7) rfl rfl rfl (Yc_func (g := 39) (vs := [pt (aD b3) 0, vi r_1, vi x.Coef]) k_call_39 rfl (mc rfl (mc rfl (mc rfl mn))) (c_spec_l21Sum_add (Tl21Sum.mk phase terms) r_1 x.Coef (aD b3) B4 c4 terms.length _ rfl (hS13.lencap (i := 4) rfl (fm_lenn (l := terms) eN2 rfl) rfl rfl) (hS13.inn [false, false, false, true, true, false] rfl [] rfl) hc1)) ?_ ?_
     ·rintro _ w_7 ⟨B6, c6, rfl, hd1⟩
      have hS14 := hS13.out [false, false, false, true, true, false] rfl hd1
      refine ⟨(hS14.se [0, 1, 2, 3]), ?_⟩
      refine ra_done (by kernel_rfl) ?_
      exact ⟨m.phase, m.terms, B6, c6, (some_inj hF3), (FF.cons (hf.get 1 0 rfl) (FF.cons (hf.get 3 1 rfl) (FF.cons (hf.get 5 2 rfl) (FF.cons (hf.get 6 3 rfl) (FF.cons (hf.get 7 4 rfl) (FF.cons (hf.get 18 5 rfl) (FF.cons (hf.get 19 6 rfl) (FF.cons (hf.get 20 7 rfl) FF.nil)))))))), (hS14.sel [0, 1, 2, 4, 5] rfl rfl)⟩
     exact allR_nil
    exact allR_nil
   ·skip
    have hF4 := cf' hz1 hb1
    obtain ⟨r_2, hc2, hF4⟩ := bind_inv hF4
    obtain ⟨r_3, hc3, hF4⟩ := bind_inv hF4
    obtain ⟨m1, hc4, hF4⟩ := bind_inv hF4
    refine ra_start (hS9.se [0, 1, 2, 5]).fn (by kernel_rfl) ?_
    have hS18 := hS9.drew
    refine rq 0 39 (v := pt (aD b3) 0) rfl (hS18.se [0, 1, 2, 5]) (fun w' hw' => (Y_move (v := pt (aD b3) 0) rfl (hf.get 7 4 rfl))) ?_
    refine rq 1 40 (v := pt (aD b4) 0) rfl (hS18.se [0, 1, 2, 5]) (fun w' hw' => (Y_fieldAddr (B := aD b4) (i := 0) (s := 0) k_fd_56_0_0_3 k_sz_3_1 rfl rfl)) ?_
    refine rq 2 41 (v := vi x.Mask) rfl (hS18.se [0, 1, 2, 5]) (fun w' hw' => (Y_load1 (B := aD b4) (i := 0) (cs := [vi x.Mask, vi x.Coef]) (v := vi x.Mask) k_sc_3 rfl rfl (ST.cf hw' (i := 3) rfl) rfl)) ?_
    refine rq 3 42 (v := vi v_) rfl (hS18.se [0, 1, 2, 5]) (fun w' hw' => (Y_move (v := vi v_) rfl (hf.get 1 0 rfl))) ?_
    refine rq 5 44 (v := pt (aD b4) 1) rfl (hS18.se [0, 1, 2, 5]) (fun w' hw' => (Y_fieldAddr (B := aD b4) (i := 0) (s := 0) k_fd_56_1_1_3 k_sz_3_1 rfl rfl)) ?_
    refine rq 6 45 (v := vi x.Coef) rfl (hS18.se [0, 1, 2, 5]) (fun w' hw' => (Y_load1 (B := aD b4) (i := 1) (cs := [vi x.Mask, vi x.Coef]) (v := vi x.Coef) k_sc_3 rfl rfl (ST.cf hw' (i := 3) rfl) rfl)) ?_
    refine rq 7 46 (v := pt (aD b1) 0) rfl (hS18.se [0, 1, 2, 5]) (fun w' hw' => (Y_fieldAddr (B := aD b1) (i := 0) (s := 0) k_fd_44_0_0_3 k_sz_3_1 rfl (hf.get 5 2 rfl))) ?_
    refine rq 8 47 (v := vi by_.Mask) rfl (hS18.se [0, 1, 2, 5]) (fun w' hw' => (Y_load1 (B := aD b1) (i := 0) (cs := [vi by_.Mask, vi by_.Turn]) (v := vi by_.Mask) k_sc_3 rfl rfl (ST.cf hw' (i := 1) rfl) rfl)) ?_
    refine rq 9 48 (v := vi v_) rfl (hS18.se [0, 1, 2, 5]) (fun w' hw' => (Y_move (v := vi v_) rfl (hf.get 1 0 rfl))) ?_
    refine rq 11 50 (v := pt (aD b1) 1) rfl (hS18.se [0, 1, 2, 5]) (fun w' hw' => (Y_fieldAddr (B := aD b1) (i := 0) (s := 0) k_fd_44_1_1_3 k_sz_3_1 rfl (hf.get 5 2 rfl))) ?_
    refine rq 12 51 (v := vi by_.Turn) rfl (hS18.se [0, 1, 2, 5]) (fun w' hw' => (Y_load1 (B := aD b1) (i := 1) (cs := [vi by_.Mask, vi by_.Turn]) (v := vi by_.Turn) k_sc_3 rfl rfl (ST.cf hw' (i := 1) rfl) rfl)) ?_
    refine rA [4] ?_
    refine ra_c 43 (i := 4) rfl rfl rfl (Yc_func (g := 38) (vs := [vi x.Mask, vi v_]) k_call_38 rfl (mc rfl (mc rfl mn)) (c_spec_l21Drop x.Mask v_ _  (hS18.inn0 [] rfl) hc2)) ?_ ?_
    ·rintro _ w_8 ⟨rfl, hd2⟩
     have hS19 := hS18.out00 hd2
     refine ⟨(hS19.se [0, 1, 2, 5]), ?_⟩
     refine rA [10] ?_
     refine ra_c 49 (i := 10) rfl rfl rfl (Yc_func (g := 38) (vs := [vi by_.Mask, vi v_]) k_call_38 rfl (mc rfl (mc rfl mn)) (c_spec_l21Drop by_.Mask v_ _  (hS19.inn0 [] rfl) hc3)) ?_ ?_
     ·rintro _ w_9 ⟨rfl, hd3⟩
      have hS20 := hS19.out00 hd3
      refine ⟨(hS20.se [0, 1, 2, 5]), ?_⟩
      refine rq 13 52 (v := .agg #[vi r_3, vi by_.Turn]) rfl (hS20.se [0, 1, 2, 5]) (fun w' hw' => (Y_buildS (zs := [vi 0, vi 0]) (vs := [(0, vi r_3), (1, vi by_.Turn)]) (cs := [vi r_3, vi by_.Turn]) k_pl_44 k_zero_44 rfl (mpc rfl (mpc rfl mpn)) rfl)) ?_
      refine rA [14] ?_
      refine ra_c 53 (i := 14) rfl rfl rfl (Yc_func (g := 40) (vs := [pt (aD b3) 0, vi r_2, vi x.Coef, .agg #[vi r_3, vi by_.Turn]]) k_call_40 rfl (mc rfl (mc rfl (mc rfl (mc rfl mn)))) (c_spec_l21Sum_times (Tl21Sum.mk phase terms) r_2 x.Coef (TAffine.mk r_3 by_.Turn) (aD b3) B4 c4 terms.length _ rfl (hS20.inn [false, false, false, true, true, false] rfl [] rfl) hc4)) ?_ ?_
      ·rintro _ w_10 ⟨B7, c7, rfl, hd4⟩
       have hS21 := hS20.out [false, false, false, true, true, false] rfl hd4
       refine ⟨(hS21.se [0, 1, 2, 3]), ?_⟩
       refine ra_done (by kernel_rfl) ?_
       exact ⟨m1.phase, m1.terms, B7, c7, (some_inj hF4), (FF.cons (hf.get 1 0 rfl) (FF.cons (hf.get 3 1 rfl) (FF.cons (hf.get 5 2 rfl) (FF.cons (hf.get 6 3 rfl) (FF.cons (hf.get 7 4 rfl) (FF.cons (hf.get 18 5 rfl) (FF.cons (hf.get 19 6 rfl) (FF.cons (hf.get 20 7 rfl) FF.nil)))))))), (hS21.sel [0, 1, 2, 4, 5] rfl rfl)⟩
      exact allR_nil
     exact allR_nil
    exact allR_nil
  rintro f w ⟨phase1, terms1, B5, c5, rfl, hf1, hS7⟩
  refine cw_region ?_
  refine sQ 54 (Y_add (k := .i64) (a := (i : Int)) (b := 1) rfl (hf1.get 20 7 rfl) rfl) ?_
  refine sQ 20 (Y_move (v := vi (i64.wrap ((i : Int) + 1))) rfl rfl) (rw_nil ?_)
  obtain rfl := some_inj hF2
  exact ⟨k_1, Nat.lt_succ_self _, i + 1, phase1, terms1, B5, c5, (FF.cons (hf1.get 1 0 rfl) (FF.cons (hf1.get 3 1 rfl) (FF.cons (hf1.get 5 2 rfl) (FF.cons (hf1.get 6 3 rfl) (FF.cons (hf1.get 7 4 rfl) (FF.cons (hf1.get 18 5 rfl) (FF.cons (hf1.get 19 6 rfl) (FF.cons (congrArg (Value.int .i64) (wr_succ hlt1 hN)) FF.nil)))))))), (hS7.sel [0, 1, 2, 3, 4] rfl rfl), (by omega), hL1⟩
 ·skip
  obtain rfl : k_ = 0 := by have h := of_decide_eq_false hlt; omega
  refine cw_exit rfl ?_
  obtain rfl := some_inj hL
  refine cw_seq ?_
  refine ra_start (hS5.se [0, 1, 2, 3, 4]).fn (by kernel_rfl) ?_
  have hS22 := hS5.drew
  refine rq 0 55 (v := pt (aD b) 0) rfl (hS22.se [0, 1, 2, 3, 4]) (fun w' hw' => (Y_fieldAddr (B := aD b) (i := 0) (s := 0) k_fd_30_0_0_3 k_sz_3_1 rfl (hf.get 3 1 rfl))) ?_
  refine rq 1 56 (v := vi p.Ins) rfl (hS22.se [0, 1, 2, 3, 4]) (fun w' hw' => (Y_load1 (B := aD b) (i := 0) (cs := [vi p.Ins, vi p.Vars, vi p.Root, vi p.Phase, .slice B p.Terms.length c, .slice B1 p.Out.length c1]) (v := vi p.Ins) k_sc_3 rfl rfl (ST.cf hw' (i := 0) rfl) rfl)) ?_
  refine rq 2 57 (v := pt (aD b) 1) rfl (hS22.se [0, 1, 2, 3, 4]) (fun w' hw' => (Y_fieldAddr (B := aD b) (i := 0) (s := 0) k_fd_30_1_1_3 k_sz_3_1 rfl (hf.get 3 1 rfl))) ?_
  refine rq 3 58 (v := vi p.Vars) rfl (hS22.se [0, 1, 2, 3, 4]) (fun w' hw' => (Y_load1 (B := aD b) (i := 1) (cs := [vi p.Ins, vi p.Vars, vi p.Root, vi p.Phase, .slice B p.Terms.length c, .slice B1 p.Out.length c1]) (v := vi p.Vars) k_sc_3 rfl rfl (ST.cf hw' (i := 0) rfl) rfl)) ?_
  refine rq 4 59 (v := vi (i64.wrap (p.Vars - 1))) rfl (hS22.se [0, 1, 2, 3, 4]) (fun w' hw' => (Y_sub (k := .i64) (a := p.Vars) (b := 1) rfl rfl rfl)) ?_
  refine rq 5 60 (v := pt (aD b) 2) rfl (hS22.se [0, 1, 2, 3, 4]) (fun w' hw' => (Y_fieldAddr (B := aD b) (i := 0) (s := 0) k_fd_30_2_2_3 k_sz_3_1 rfl (hf.get 3 1 rfl))) ?_
  refine rq 6 61 (v := vi p.Root) rfl (hS22.se [0, 1, 2, 3, 4]) (fun w' hw' => (Y_load1 (B := aD b) (i := 2) (cs := [vi p.Ins, vi p.Vars, vi p.Root, vi p.Phase, .slice B p.Terms.length c, .slice B1 p.Out.length c1]) (v := vi p.Root) k_sc_3 rfl rfl (ST.cf hw' (i := 0) rfl) rfl)) ?_
  refine rq 7 62 (v := pt (aD b3) 0) rfl (hS22.se [0, 1, 2, 3, 4]) (fun w' hw' => (Y_move (v := pt (aD b3) 0) rfl (hf.get 7 4 rfl))) ?_
  refine rq 8 63 (v := pt (aD b3) 0) rfl (hS22.se [0, 1, 2, 3, 4]) (fun w' hw' => (Y_nilCheck (B := aD b3) (i := 0) rfl rfl)) ?_
  refine rq 9 64 (v := pt (aD b3) 0) rfl (hS22.se [0, 1, 2, 3, 4]) (fun w' hw' => (Y_fieldAddr (B := aD b3) (i := 0) (s := 0) k_fd_68_0_0_3 k_sz_3_1 rfl rfl)) ?_
  refine rq 10 65 (v := vi phase) rfl (hS22.se [0, 1, 2, 3, 4]) (fun w' hw' => (Y_load1 (B := aD b3) (i := 0) (cs := [vi phase, .slice B4 terms.length c4]) (v := vi phase) k_sc_3 rfl rfl (ST.cf hw' (i := 3) rfl) rfl)) ?_
  refine rq 11 66 (v := pt (aD b3) 0) rfl (hS22.se [0, 1, 2, 3, 4]) (fun w' hw' => (Y_move (v := pt (aD b3) 0) rfl (hf.get 7 4 rfl))) ?_
  refine rq 12 67 (v := pt (aD b3) 0) rfl (hS22.se [0, 1, 2, 3, 4]) (fun w' hw' => (Y_nilCheck (B := aD b3) (i := 0) rfl rfl)) ?_
  refine rq 13 68 (v := pt (aD b3) 1) rfl (hS22.se [0, 1, 2, 3, 4]) (fun w' hw' => (Y_fieldAddr (B := aD b3) (i := 0) (s := 0) k_fd_68_1_1_27 k_sz_27_1 rfl rfl)) ?_
  refine rq 14 69 (v := .slice B4 terms.length c4) rfl (hS22.se [0, 1, 2, 3, 4]) (fun w' hw' => (Y_load1 (B := aD b3) (i := 1) (cs := [vi phase, .slice B4 terms.length c4]) (v := .slice B4 terms.length c4) k_sc_27 rfl rfl (ST.cf hw' (i := 3) rfl) rfl)) ?_
  refine rq 15 70 (v := .agg #[vi p.Ins, vi (i64.wrap (p.Vars - 1)), vi p.Root, vi phase, .slice B4 terms.length c4, .slice none 0 0]) rfl (hS22.se [0, 1, 2, 3, 4]) (fun w' hw' => (Y_buildS (zs := [vi 0, vi 0, vi 0, vi 0, .slice none 0 0, .slice none 0 0]) (vs := [(0, vi p.Ins), (1, vi (i64.wrap (p.Vars - 1))), (2, vi p.Root), (3, vi phase), (4, .slice B4 terms.length c4)]) (cs := [vi p.Ins, vi (i64.wrap (p.Vars - 1)), vi p.Root, vi phase, .slice B4 terms.length c4, .slice none 0 0]) k_pl_30 k_zero_30 rfl (mpc rfl (mpc rfl (mpc rfl (mpc rfl (mpc rfl mpn))))) rfl)) ?_
  refine rA [16] ?_
  refine ra_s 10 (i := 16) rfl rfl rfl (Ys_alloc (T := 30) (cs := [vi 0, vi 0, vi 0, vi 0, .slice none 0 0, .slice none 0 0]) (m := 6) hS22 k_zero_30 rfl rfl rfl) ?_ ?_
  ·rintro _ w_11 ⟨b5, rfl, hS23⟩
   refine ⟨(hS23.se [0, 1, 2, 3, 4]), ?_⟩
   refine rA [17] ?_
   refine ra_s0 (i := 17) rfl rfl rfl (Ys_store (i := 5) (s := 6) (B := aD b5) (T' := 30) (v := .agg #[vi p.Ins, vi (i64.wrap (p.Vars - 1)), vi p.Root, vi phase, .slice B4 terms.length c4, .slice none 0 0]) (vs := [vi p.Ins, vi (i64.wrap (p.Vars - 1)), vi p.Root, vi phase, .slice B4 terms.length c4, .slice none 0 0]) (k := 0) (cs' := [vi p.Ins, vi (i64.wrap (p.Vars - 1)), vi p.Root, vi phase, .slice B4 terms.length c4, .slice none 0 0]) hS23 k_sz_30_6 rfl rfl rfl rfl rfl rfl rfl (lB rfl) rfl rfl) ?_ ?_
   ·rintro _ w_12 ⟨rfl, hS24⟩
    refine ⟨(hS24.se [0, 1, 2, 3, 4]), ?_⟩
    refine ra_done (by kernel_rfl) ?_
    refine cw_seq (cw_seq (cw_region ?_))
    refine sQ 71 (Y_fieldAddr (B := aD b) (i := 0) (s := 0) k_fd_30_5_5_28 k_sz_28_1 rfl (hf.get 3 1 rfl)) ?_
    refine sQ 72 (Y_load1 (B := aD b) (i := 5) (cs := [vi p.Ins, vi p.Vars, vi p.Root, vi p.Phase, .slice B p.Terms.length c, .slice B1 p.Out.length c1]) (v := .slice B1 p.Out.length c1) k_sc_28 rfl rfl (hS24.cf (i := 0) rfl) rfl) ?_
    refine sQ 73 (Y_len (B := B1) (m := p.Out.length) (c := c1) k_sl_28_44 rfl rfl) ?_
    refine sQ 74 (Y_move (v := vi 0) rfl rfl) (rw_nil ?_)
    obtain ⟨z2, hz2, hF5⟩ := bind_inv hF1
    have hS26 := hS24.addNil 44
    refine cw_block ?_
    refine cw_loop (fun k f w => ∃ (Out : List TAffine) (t : Int) (B8 : Option Addr) (c8 : Nat), FF f [(1, vi v_), (5, pt (aD b1) 0), (6, pt (aD b2) 0), (10, pt (aD b5) 0), (72, .slice B1 p.Out.length c1), (73, vi (p.Out.length : Int)), (74, vi t)] ∧ ST w0 [] w [⟨aD b1, 44, [vi by_.Mask, vi by_.Turn], 2⟩, ⟨aD b2, 30, [vi 0, vi 0, vi 0, vi 0, .slice none 0 0, .slice none 0 0], 6⟩, ⟨aD b5, 30, [vi p.Ins, vi (i64.wrap (p.Vars - 1)), vi p.Root, vi phase, .slice B4 terms.length c4, .slice B8 Out.length c8], 6⟩, ⟨B4, 56, (terms.flatMap eN0), c4 * 2⟩, ⟨B8, 44, (Out.flatMap eN1), c8 * 2⟩] [⟨B, (p.Terms.flatMap eN0)⟩, ⟨B1, (p.Out.flatMap eN1)⟩] ∧ whX (F_spec_l21Replace_l2 p v_ by_) k (Out, t) = some z2) fuel ⟨[], 0, none, 0, (FF.cons (hf.get 1 0 rfl) (FF.cons (hf.get 5 2 rfl) (FF.cons (hf.get 6 3 rfl) (FF.cons rfl (FF.cons rfl (FF.cons rfl (FF.cons rfl FF.nil))))))), (hS26.sel [1, 2, 5, 4, 6] rfl rfl), hz2⟩ ?_
    rintro k_2 f w ⟨Out, t, B8, c8, hf2, hS25, hL2⟩
    obtain ⟨k_3, y1, rfl, hb2, hL3⟩ := whX_go hL2
    unfold F_spec_l21Replace_l2 at hb2
    refine cw_seq (cw_region ?_)
    refine sQ 75 (Y_lt (k := .i64) (a := t) (b := (p.Out.length : Int)) rfl (hf2.get 74 6 rfl) (hf2.get 73 5 rfl)) (rw_nil (cw_seq ?_))
    refine cw_cond (b := (decide (t < (p.Out.length : Int)))) rfl (fun hb3 => ?_) (fun hb3 => ?_)
    ·skip
     have hF6 := ct hb2 hb3
     refine cw_skip (cw_seq (cw_block (cw_seq (cw_region ?_))))
     obtain ⟨x1, hx1, hF6⟩ := bind_inv hF6
     refine sQ 76 (Y_index (B := B1) (m := p.Out.length) (c := c1) (k := .i64) (i := t) k_sl_28_44 k_sz_44_2 rfl (hf2.get 72 4 rfl) (hf2.get 74 6 rfl) (gi_isSome enc_Affine_len rfl (hS25.rf (i := 1) rfl) hx1) (getI_nn hx1) (getI_ltI hx1 rfl)) ?_
     refine sQ 77 (Y_loadA (B := B1) (i := t.toNat * 2) (cs := (p.Out.flatMap eN1)) (vs := [vi x1.Mask, vi x1.Turn]) k_ag_44 k_sz_44_2 rfl rfl (hS25.rf (i := 1) rfl) (enc_Affine_len x1) (gi_seg enc_Affine_len hx1)) ?_
     refine sS 12 (Ys_alloc (T := 44) (cs := [vi 0, vi 0]) (m := 2) hS25 k_zero_44 rfl rfl rfl) ?_
     rintro _ w_13 ⟨b6, rfl, hS27⟩
     refine s0 (Ys_store (i := 5) (s := 2) (B := aD b6) (T' := 44) (v := .agg #[vi x1.Mask, vi x1.Turn]) (vs := [vi x1.Mask, vi x1.Turn]) (k := 0) (cs' := [vi x1.Mask, vi x1.Turn]) hS27 k_sz_44_2 rfl rfl rfl rfl rfl rfl rfl (lB rfl) rfl rfl) ?_
     rintro _ w_14 ⟨rfl, hS28⟩
     refine rw_nil (cw_seq ?_)
     obtain ⟨z3, hz3, hF7⟩ := bind_inv hF6
     refine cw_mid (fun f w => ∃ (Mask : Int) (Turn : Int), (Mask, Turn) = z3 ∧ FF f [(1, vi v_), (5, pt (aD b1) 0), (6, pt (aD b2) 0), (10, pt (aD b5) 0), (12, pt (aD b6) 0), (72, .slice B1 p.Out.length c1), (73, vi (p.Out.length : Int)), (74, vi t)] ∧ ST w0 [] w [⟨aD b1, 44, [vi by_.Mask, vi by_.Turn], 2⟩, ⟨aD b2, 30, [vi 0, vi 0, vi 0, vi 0, .slice none 0 0, .slice none 0 0], 6⟩, ⟨aD b5, 30, [vi p.Ins, vi (i64.wrap (p.Vars - 1)), vi p.Root, vi phase, .slice B4 terms.length c4, .slice B8 Out.length c8], 6⟩, ⟨B4, 56, (terms.flatMap eN0), c4 * 2⟩, ⟨B8, 44, (Out.flatMap eN1), c8 * 2⟩, ⟨aD b6, 44, [vi Mask, vi Turn], 2⟩] [⟨B, (p.Terms.flatMap eN0)⟩, ⟨B1, (p.Out.flatMap eN1)⟩]) ?_ ?_
     ·skip
      refine cw_seq (cw_region ?_)
      refine sQ 78 (Y_fieldAddr (B := aD b6) (i := 0) (s := 0) k_fd_44_0_0_3 k_sz_3_1 rfl rfl) ?_
      refine sQ 79 (Y_load1 (B := aD b6) (i := 0) (cs := [vi x1.Mask, vi x1.Turn]) (v := vi x1.Mask) k_sc_3 rfl rfl (hS28.cf (i := 5) rfl) rfl) ?_
      refine sQ 80 (Y_move (v := vi v_) rfl (hf2.get 1 0 rfl)) ?_
      refine sQ 81 (Y_conv (k := .i64) (a := v_) (T := 3) (T' := 59) k_us_3 k_int_59_u64 rfl rfl) ?_
      obtain ⟨hsh1, hz3⟩ := chk_inv hz3
      refine sQ 82 (Y_shr (k := .i64) (a := x1.Mask) (k' := .u64) (b := (IntKind.u64.wrap v_)) rfl rfl rfl hsh1) ?_
      refine sQ 83 (Y_band (k := .i64) (a := (shrK .i64 x1.Mask (IntKind.u64.wrap v_))) (b := 1) rfl rfl rfl) ?_
      refine sQ 84 (Y_eq (k := .i64) (a := (bits .and .i64 (shrK .i64 x1.Mask (IntKind.u64.wrap v_)) 1)) (b := 1) rfl rfl rfl) (rw_nil ?_)
      refine cw_cond (b := ((bits .and .i64 (shrK .i64 x1.Mask (IntKind.u64.wrap v_)) 1) == 1)) rfl (fun hb4 => ?_) (fun hb4 => ?_)
      ·skip
       have hF8 := ct hz3 hb4
       refine cw_region ?_
       refine sQ 85 (Y_fieldAddr (B := aD b6) (i := 0) (s := 0) k_fd_44_0_0_3 k_sz_3_1 rfl rfl) ?_
       refine sQ 86 (Y_load1 (B := aD b6) (i := 0) (cs := [vi x1.Mask, vi x1.Turn]) (v := vi x1.Mask) k_sc_3 rfl rfl (hS28.cf (i := 5) rfl) rfl) ?_
       refine sQ 87 (Y_move (v := vi v_) rfl (hf2.get 1 0 rfl)) ?_
       refine sQ 88 (Y_conv (k := .i64) (a := v_) (T := 3) (T' := 59) k_us_3 k_int_59_u64 rfl rfl) ?_
       obtain ⟨hsh2, hF8⟩ := chk_inv hF8
       refine sQ 89 (Y_shl (k := .i64) (a := 1) (k' := .u64) (b := (IntKind.u64.wrap v_)) rfl rfl rfl hsh2) ?_
       refine sQ 90 (Y_bxor (k := .i64) (a := x1.Mask) (b := (shlK .i64 1 (IntKind.u64.wrap v_))) rfl rfl rfl) ?_
       refine sQ 91 (Y_fieldAddr (B := aD b1) (i := 0) (s := 0) k_fd_44_0_0_3 k_sz_3_1 rfl (hf2.get 5 1 rfl)) ?_
       refine sQ 92 (Y_load1 (B := aD b1) (i := 0) (cs := [vi by_.Mask, vi by_.Turn]) (v := vi by_.Mask) k_sc_3 rfl rfl (hS28.cf (i := 0) rfl) rfl) ?_
       refine sQ 93 (Y_bxor (k := .i64) (a := (bits .xor .i64 x1.Mask (shlK .i64 1 (IntKind.u64.wrap v_)))) (b := by_.Mask) rfl rfl rfl) ?_
       refine sQ 94 (Y_fieldAddr (B := aD b6) (i := 0) (s := 0) k_fd_44_1_1_3 k_sz_3_1 rfl rfl) ?_
       refine sQ 95 (Y_load1 (B := aD b6) (i := 1) (cs := [vi x1.Mask, vi x1.Turn]) (v := vi x1.Turn) k_sc_3 rfl rfl (hS28.cf (i := 5) rfl) rfl) ?_
       refine sQ 96 (Y_fieldAddr (B := aD b1) (i := 0) (s := 0) k_fd_44_1_1_3 k_sz_3_1 rfl (hf2.get 5 1 rfl)) ?_
       refine sQ 97 (Y_load1 (B := aD b1) (i := 1) (cs := [vi by_.Mask, vi by_.Turn]) (v := vi by_.Turn) k_sc_3 rfl rfl (hS28.cf (i := 0) rfl) rfl) ?_
       refine sQ 98 (Y_bxor (k := .i64) (a := x1.Turn) (b := by_.Turn) rfl rfl rfl) ?_
       refine sQ 99 (Y_buildS (zs := [vi 0, vi 0]) (vs := [(0, vi (bits .xor .i64 (bits .xor .i64 x1.Mask (shlK .i64 1 (IntKind.u64.wrap v_))) by_.Mask)), (1, vi (bits .xor .i64 x1.Turn by_.Turn))]) (cs := [vi (bits .xor .i64 (bits .xor .i64 x1.Mask (shlK .i64 1 (IntKind.u64.wrap v_))) by_.Mask), vi (bits .xor .i64 x1.Turn by_.Turn)]) k_pl_44 k_zero_44 rfl (mpc rfl (mpc rfl mpn)) rfl) ?_
       refine s0 (Ys_store (i := 5) (s := 2) (B := aD b6) (T' := 44) (v := .agg #[vi (bits .xor .i64 (bits .xor .i64 x1.Mask (shlK .i64 1 (IntKind.u64.wrap v_))) by_.Mask), vi (bits .xor .i64 x1.Turn by_.Turn)]) (vs := [vi (bits .xor .i64 (bits .xor .i64 x1.Mask (shlK .i64 1 (IntKind.u64.wrap v_))) by_.Mask), vi (bits .xor .i64 x1.Turn by_.Turn)]) (k := 0) (cs' := [vi (bits .xor .i64 (bits .xor .i64 x1.Mask (shlK .i64 1 (IntKind.u64.wrap v_))) by_.Mask), vi (bits .xor .i64 x1.Turn by_.Turn)]) hS28 k_sz_44_2 rfl rfl rfl rfl rfl rfl rfl (lB rfl) rfl rfl) ?_
       rintro _ w_15 ⟨rfl, hS30⟩
       refine rw_nil ?_
       exact ⟨(bits .xor .i64 (bits .xor .i64 x1.Mask (shlK .i64 1 (IntKind.u64.wrap v_))) by_.Mask), (bits .xor .i64 x1.Turn by_.Turn), (some_inj hF8), (FF.cons (hf2.get 1 0 rfl) (FF.cons (hf2.get 5 1 rfl) (FF.cons (hf2.get 6 2 rfl) (FF.cons (hf2.get 10 3 rfl) (FF.cons rfl (FF.cons (hf2.get 72 4 rfl) (FF.cons (hf2.get 73 5 rfl) (FF.cons (hf2.get 74 6 rfl) FF.nil)))))))), (hS30.sel [0, 1, 2, 3, 4, 5] rfl rfl)⟩
      ·skip
       have hF9 := cf' hz3 hb4
       refine cw_skip ?_
       exact ⟨x1.Mask, x1.Turn, (some_inj hF9), (FF.cons (hf2.get 1 0 rfl) (FF.cons (hf2.get 5 1 rfl) (FF.cons (hf2.get 6 2 rfl) (FF.cons (hf2.get 10 3 rfl) (FF.cons rfl (FF.cons (hf2.get 72 4 rfl) (FF.cons (hf2.get 73 5 rfl) (FF.cons (hf2.get 74 6 rfl) FF.nil)))))))), (hS28.sel [0, 1, 2, 3, 4, 5] rfl rfl)⟩
     rintro f w ⟨Mask, Turn, rfl, hf3, hS29⟩
     obtain ⟨r_4, hc5, hF7⟩ := bind_inv hF7
     obtain ⟨hap, hF7⟩ := chk_inv hF7
     refine cw_mid (fun f w => ∃ (B10 : Option Addr) (c10 : Nat), FF f [(1, vi v_), (5, pt (aD b1) 0), (6, pt (aD b2) 0), (10, pt (aD b5) 0), (72, .slice B1 p.Out.length c1), (73, vi (p.Out.length : Int)), (74, vi t)] ∧ ST w0 [] w [⟨aD b1, 44, [vi by_.Mask, vi by_.Turn], 2⟩, ⟨aD b2, 30, [vi 0, vi 0, vi 0, vi 0, .slice none 0 0, .slice none 0 0], 6⟩, ⟨aD b5, 30, [vi p.Ins, vi (i64.wrap (p.Vars - 1)), vi p.Root, vi phase, .slice B4 terms.length c4, .slice B10 ((Out ++ [(TAffine.mk r_4 Turn)]).length) c10], 6⟩, ⟨B4, 56, (terms.flatMap eN0), c4 * 2⟩, ⟨B10, 44, ((Out ++ [(TAffine.mk r_4 Turn)]).flatMap eN1), c10 * 2⟩] [⟨B, (p.Terms.flatMap eN0)⟩, ⟨B1, (p.Out.flatMap eN1)⟩]) ?_ ?_
     ·skip
      refine ra_start (hS29.se [0, 1, 3, 5]).fn (by kernel_rfl) ?_
      have hS33 := hS29.drew
      refine rq 0 100 (v := pt (aD b5) 5) rfl (hS33.se [0, 1, 3, 5]) (fun w' hw' => (Y_fieldAddr (B := aD b5) (i := 0) (s := 0) k_fd_30_5_5_28 k_sz_28_1 rfl (hf3.get 10 3 rfl))) ?_
      refine rq 2 102 (v := pt (aD b6) 0) rfl (hS33.se [0, 1, 3, 5]) (fun w' hw' => (Y_fieldAddr (B := aD b6) (i := 0) (s := 0) k_fd_44_0_0_3 k_sz_3_1 rfl (hf3.get 12 4 rfl))) ?_
      refine rq 3 103 (v := vi Mask) rfl (hS33.se [0, 1, 3, 5]) (fun w' hw' => (Y_load1 (B := aD b6) (i := 0) (cs := [vi Mask, vi Turn]) (v := vi Mask) k_sc_3 rfl rfl (ST.cf hw' (i := 3) rfl) rfl)) ?_
      refine rq 4 104 (v := vi v_) rfl (hS33.se [0, 1, 3, 5]) (fun w' hw' => (Y_move (v := vi v_) rfl (hf3.get 1 0 rfl))) ?_
      refine rq 6 106 (v := pt (aD b6) 1) rfl (hS33.se [0, 1, 3, 5]) (fun w' hw' => (Y_fieldAddr (B := aD b6) (i := 0) (s := 0) k_fd_44_1_1_3 k_sz_3_1 rfl (hf3.get 12 4 rfl))) ?_
      refine rq 7 107 (v := vi Turn) rfl (hS33.se [0, 1, 3, 5]) (fun w' hw' => (Y_load1 (B := aD b6) (i := 1) (cs := [vi Mask, vi Turn]) (v := vi Turn) k_sc_3 rfl rfl (ST.cf hw' (i := 3) rfl) rfl)) ?_
      refine rA [1, 5] ?_
      refine ra_y 101 (i := 1) (v := .slice B8 Out.length c8) rfl rfl rfl (Y_load1 (B := aD b5) (i := 5) (cs := [vi p.Ins, vi (i64.wrap (p.Vars - 1)), vi p.Root, vi phase, .slice B4 terms.length c4, .slice B8 Out.length c8]) (v := .slice B8 Out.length c8) k_sc_28 rfl rfl (hS33.cf (i := 2) rfl) rfl) (hS33.se [0, 1, 3, 5]) ?_ ?_
      ·skip
       refine rA [5] ?_
       refine ra_c 105 (i := 5) rfl rfl rfl (Yc_func (g := 38) (vs := [vi Mask, vi v_]) k_call_38 rfl (mc rfl (mc rfl mn)) (c_spec_l21Drop Mask v_ _  (hS33.inn0 [] rfl) hc5)) ?_ ?_
       ·rintro _ w_16 ⟨rfl, hd5⟩
        have hS34 := hS33.out00 hd5
        refine ⟨(hS34.se [0, 1, 3, 5]), ?_⟩
        refine rq 8 108 (v := .agg #[vi r_4, vi Turn]) rfl (hS34.se [0, 1, 3, 5]) (fun w' hw' => (Y_buildS (zs := [vi 0, vi 0]) (vs := [(0, vi r_4), (1, vi Turn)]) (cs := [vi r_4, vi Turn]) k_pl_44 k_zero_44 rfl (mpc rfl (mpc rfl mpn)) rfl)) ?_
        refine rA [9] ?_
        refine ra_s 109 (i := 9) rfl rfl rfl (Ys_bslice (s := 2) (len := 1) (vs := [(0, .agg #[vi r_4, vi Turn])]) (cs := [vi r_4, vi Turn]) (zs := [vi 0, vi 0]) (m := 2) hS34 k_sl_28_44 k_sz_44_2 k_zc_44 rfl (mpc rfl mpn) rfl rfl rfl (by kernel_rfl) (by kernel_rfl) rfl) ?_ ?_
        ·rintro _ w_17 ⟨b7, rfl, hS35⟩
         refine ⟨(hS35.se [0, 1, 3, 5]), ?_⟩
         refine rA [10] ?_
         refine ra_s 110 (i := 10) rfl rfl rfl (Ys_append (s := 2) (by' := 16) (i := 4) (nn := Out.length) (c := c8) (k := 1) (len := (Out ++ [(TAffine.mk r_4 Turn)]).length) (B := B8) (xs := ([(TAffine.mk r_4 Turn)].flatMap eN1)) (cs' := ((Out ++ [(TAffine.mk r_4 Turn)]).flatMap eN1)) hS35 k_sl_28_44 k_sz_44_2 k_by_44_16 k_zero_44 rfl (by decide) rfl rfl rfl rfl (fm_lenn (l := Out) enc_Affine_len rfl) rfl (hS35.cf (i := 6) rfl) (fm_lenn (l := [(TAffine.mk r_4 Turn)]) enc_Affine_len rfl) (fm_one' (enc := eN1) enc_Affine_one [(TAffine.mk r_4 Turn)]) (by have := hap; omega) (by have := hap; simp only [maxLen]; omega) (fm_app _ _) (app_len (l := Out) (l' := [(TAffine.mk r_4 Turn)]) rfl rfl)) ?_ ?_
         ·rintro _ w_18 ⟨B9, c9, rfl, hS36⟩
          refine ⟨(hS36.se [0, 1, 3, 5]), ?_⟩
          refine rq 11 111 (v := pt (aD b5) 5) rfl (hS36.se [0, 1, 3, 5]) (fun w' hw' => (Y_fieldAddr (B := aD b5) (i := 0) (s := 0) k_fd_30_5_5_28 k_sz_28_1 rfl (hf3.get 10 3 rfl))) ?_
          refine rA [12] ?_
          refine ra_s0 (i := 12) rfl rfl rfl (Ys_store (i := 2) (s := 1) (B := aD b5) (T' := 30) (v := .slice B9 ((Out ++ [(TAffine.mk r_4 Turn)]).length) c9) (vs := [.slice B9 ((Out ++ [(TAffine.mk r_4 Turn)]).length) c9]) (k := 5) (cs' := [vi p.Ins, vi (i64.wrap (p.Vars - 1)), vi p.Root, vi phase, .slice B4 terms.length c4, .slice B9 ((Out ++ [(TAffine.mk r_4 Turn)]).length) c9]) hS36 k_sz_28_1 rfl rfl rfl rfl rfl rfl rfl (lB rfl) rfl rfl) ?_ ?_
          ·rintro _ w_19 ⟨rfl, hS37⟩
           refine ⟨(hS37.se [0, 1, 3, 5]), ?_⟩
           refine ra_done (by kernel_rfl) ?_
           exact ⟨B9, c9, (FF.cons (hf3.get 1 0 rfl) (FF.cons (hf3.get 5 1 rfl) (FF.cons (hf3.get 6 2 rfl) (FF.cons (hf3.get 10 3 rfl) (FF.cons (hf3.get 72 5 rfl) (FF.cons (hf3.get 73 6 rfl) (FF.cons (hf3.get 74 7 rfl) FF.nil))))))), (hS37.sel [0, 1, 2, 3, 4] rfl rfl)⟩
          exact allR_nil
         exact allR_nil
        exact allR_nil
       exact allR_nil
      refine ra_c 105 (i := 5) rfl rfl rfl (Yc_func (g := 38) (vs := [vi Mask, vi v_]) k_call_38 rfl (mc rfl (mc rfl mn)) (c_spec_l21Drop Mask v_ _  (hS33.inn0 [] rfl) hc5)) ?_ ?_
      ·rintro _ w_20 ⟨rfl, hd6⟩
       have hS38 := hS33.out00 hd6
       refine ⟨(hS38.se [0, 1, 3, 5]), ?_⟩
       refine rq 8 108 (v := .agg #[vi r_4, vi Turn]) rfl (hS38.se [0, 1, 3, 5]) (fun w' hw' => (Y_buildS (zs := [vi 0, vi 0]) (vs := [(0, vi r_4), (1, vi Turn)]) (cs := [vi r_4, vi Turn]) k_pl_44 k_zero_44 rfl (mpc rfl (mpc rfl mpn)) rfl)) ?_
       refine rA [1, 9] ?_
       refine ra_y 101 (i := 1) (v := .slice B8 Out.length c8) rfl rfl rfl (Y_load1 (B := aD b5) (i := 5) (cs := [vi p.Ins, vi (i64.wrap (p.Vars - 1)), vi p.Root, vi phase, .slice B4 terms.length c4, .slice B8 Out.length c8]) (v := .slice B8 Out.length c8) k_sc_28 rfl rfl (hS38.cf (i := 2) rfl) rfl) (hS38.se [0, 1, 3, 5]) ?_ ?_
       ·skip
        refine rA [9] ?_
        refine ra_s 109 (i := 9) rfl rfl rfl (Ys_bslice (s := 2) (len := 1) (vs := [(0, .agg #[vi r_4, vi Turn])]) (cs := [vi r_4, vi Turn]) (zs := [vi 0, vi 0]) (m := 2) hS38 k_sl_28_44 k_sz_44_2 k_zc_44 rfl (mpc rfl mpn) rfl rfl rfl (by kernel_rfl) (by kernel_rfl) rfl) ?_ ?_
        ·rintro _ w_21 ⟨b7, rfl, hS39⟩
         refine ⟨(hS39.se [0, 1, 3, 5]), ?_⟩
         refine rA [10] ?_
         refine ra_s 110 (i := 10) rfl rfl rfl (Ys_append (s := 2) (by' := 16) (i := 4) (nn := Out.length) (c := c8) (k := 1) (len := (Out ++ [(TAffine.mk r_4 Turn)]).length) (B := B8) (xs := ([(TAffine.mk r_4 Turn)].flatMap eN1)) (cs' := ((Out ++ [(TAffine.mk r_4 Turn)]).flatMap eN1)) hS39 k_sl_28_44 k_sz_44_2 k_by_44_16 k_zero_44 rfl (by decide) rfl rfl rfl rfl (fm_lenn (l := Out) enc_Affine_len rfl) rfl (hS39.cf (i := 6) rfl) (fm_lenn (l := [(TAffine.mk r_4 Turn)]) enc_Affine_len rfl) (fm_one' (enc := eN1) enc_Affine_one [(TAffine.mk r_4 Turn)]) (by have := hap; omega) (by have := hap; simp only [maxLen]; omega) (fm_app _ _) (app_len (l := Out) (l' := [(TAffine.mk r_4 Turn)]) rfl rfl)) ?_ ?_
         ·rintro _ w_22 ⟨B9, c9, rfl, hS40⟩
          refine ⟨(hS40.se [0, 1, 3, 5]), ?_⟩
          refine rq 11 111 (v := pt (aD b5) 5) rfl (hS40.se [0, 1, 3, 5]) (fun w' hw' => (Y_fieldAddr (B := aD b5) (i := 0) (s := 0) k_fd_30_5_5_28 k_sz_28_1 rfl (hf3.get 10 3 rfl))) ?_
          refine rA [12] ?_
          refine ra_s0 (i := 12) rfl rfl rfl (Ys_store (i := 2) (s := 1) (B := aD b5) (T' := 30) (v := .slice B9 ((Out ++ [(TAffine.mk r_4 Turn)]).length) c9) (vs := [.slice B9 ((Out ++ [(TAffine.mk r_4 Turn)]).length) c9]) (k := 5) (cs' := [vi p.Ins, vi (i64.wrap (p.Vars - 1)), vi p.Root, vi phase, .slice B4 terms.length c4, .slice B9 ((Out ++ [(TAffine.mk r_4 Turn)]).length) c9]) hS40 k_sz_28_1 rfl rfl rfl rfl rfl rfl rfl (lB rfl) rfl rfl) ?_ ?_
          ·rintro _ w_23 ⟨rfl, hS41⟩
           refine ⟨(hS41.se [0, 1, 3, 5]), ?_⟩
           refine ra_done (by kernel_rfl) ?_
           exact ⟨B9, c9, (FF.cons (hf3.get 1 0 rfl) (FF.cons (hf3.get 5 1 rfl) (FF.cons (hf3.get 6 2 rfl) (FF.cons (hf3.get 10 3 rfl) (FF.cons (hf3.get 72 5 rfl) (FF.cons (hf3.get 73 6 rfl) (FF.cons (hf3.get 74 7 rfl) FF.nil))))))), (hS41.sel [0, 1, 2, 3, 4] rfl rfl)⟩
          exact allR_nil
         exact allR_nil
        exact allR_nil
       refine ra_s 109 (i := 9) rfl rfl rfl (Ys_bslice (s := 2) (len := 1) (vs := [(0, .agg #[vi r_4, vi Turn])]) (cs := [vi r_4, vi Turn]) (zs := [vi 0, vi 0]) (m := 2) hS38 k_sl_28_44 k_sz_44_2 k_zc_44 rfl (mpc rfl mpn) rfl rfl rfl (by kernel_rfl) (by kernel_rfl) rfl) ?_ ?_
       ·rintro _ w_24 ⟨b7, rfl, hS42⟩
        refine ⟨(hS42.se [0, 1, 3, 5]), ?_⟩
        refine rA [1] ?_
        refine ra_y 101 (i := 1) (v := .slice B8 Out.length c8) rfl rfl rfl (Y_load1 (B := aD b5) (i := 5) (cs := [vi p.Ins, vi (i64.wrap (p.Vars - 1)), vi p.Root, vi phase, .slice B4 terms.length c4, .slice B8 Out.length c8]) (v := .slice B8 Out.length c8) k_sc_28 rfl rfl (hS42.cf (i := 2) rfl) rfl) (hS42.se [0, 1, 3, 5]) ?_ ?_
        ·skip
         refine rA [10] ?_
         refine ra_s 110 (i := 10) rfl rfl rfl (Ys_append (s := 2) (by' := 16) (i := 4) (nn := Out.length) (c := c8) (k := 1) (len := (Out ++ [(TAffine.mk r_4 Turn)]).length) (B := B8) (xs := ([(TAffine.mk r_4 Turn)].flatMap eN1)) (cs' := ((Out ++ [(TAffine.mk r_4 Turn)]).flatMap eN1)) hS42 k_sl_28_44 k_sz_44_2 k_by_44_16 k_zero_44 rfl (by decide) rfl rfl rfl rfl (fm_lenn (l := Out) enc_Affine_len rfl) rfl (hS42.cf (i := 6) rfl) (fm_lenn (l := [(TAffine.mk r_4 Turn)]) enc_Affine_len rfl) (fm_one' (enc := eN1) enc_Affine_one [(TAffine.mk r_4 Turn)]) (by have := hap; omega) (by have := hap; simp only [maxLen]; omega) (fm_app _ _) (app_len (l := Out) (l' := [(TAffine.mk r_4 Turn)]) rfl rfl)) ?_ ?_
         ·rintro _ w_25 ⟨B9, c9, rfl, hS43⟩
          refine ⟨(hS43.se [0, 1, 3, 5]), ?_⟩
          refine rq 11 111 (v := pt (aD b5) 5) rfl (hS43.se [0, 1, 3, 5]) (fun w' hw' => (Y_fieldAddr (B := aD b5) (i := 0) (s := 0) k_fd_30_5_5_28 k_sz_28_1 rfl (hf3.get 10 3 rfl))) ?_
          refine rA [12] ?_
          refine ra_s0 (i := 12) rfl rfl rfl (Ys_store (i := 2) (s := 1) (B := aD b5) (T' := 30) (v := .slice B9 ((Out ++ [(TAffine.mk r_4 Turn)]).length) c9) (vs := [.slice B9 ((Out ++ [(TAffine.mk r_4 Turn)]).length) c9]) (k := 5) (cs' := [vi p.Ins, vi (i64.wrap (p.Vars - 1)), vi p.Root, vi phase, .slice B4 terms.length c4, .slice B9 ((Out ++ [(TAffine.mk r_4 Turn)]).length) c9]) hS43 k_sz_28_1 rfl rfl rfl rfl rfl rfl rfl (lB rfl) rfl rfl) ?_ ?_
          ·rintro _ w_26 ⟨rfl, hS44⟩
           refine ⟨(hS44.se [0, 1, 3, 5]), ?_⟩
           refine ra_done (by kernel_rfl) ?_
           exact ⟨B9, c9, (FF.cons (hf3.get 1 0 rfl) (FF.cons (hf3.get 5 1 rfl) (FF.cons (hf3.get 6 2 rfl) (FF.cons (hf3.get 10 3 rfl) (FF.cons (hf3.get 72 5 rfl) (FF.cons (hf3.get 73 6 rfl) (FF.cons (hf3.get 74 7 rfl) FF.nil))))))), (hS44.sel [0, 1, 2, 3, 4] rfl rfl)⟩
          exact allR_nil
         exact allR_nil
        exact allR_nil
       exact allR_nil
      exact allR_nil
     rintro f w ⟨B10, c10, hf4, hS32⟩
     refine cw_region ?_
     refine sQ 112 (Y_add (k := .i64) (a := t) (b := 1) rfl (hf4.get 74 6 rfl) rfl) ?_
     refine sQ 74 (Y_move (v := vi (i64.wrap (t + 1))) rfl rfl) (rw_nil ?_)
     obtain rfl := some_inj hF7
     exact ⟨k_3, Nat.lt_succ_self _, (Out ++ [(TAffine.mk r_4 Turn)]), (i64.wrap (t + 1)), B10, c10, (FF.cons (hf4.get 1 0 rfl) (FF.cons (hf4.get 5 1 rfl) (FF.cons (hf4.get 6 2 rfl) (FF.cons (hf4.get 10 3 rfl) (FF.cons (hf4.get 72 4 rfl) (FF.cons (hf4.get 73 5 rfl) (FF.cons rfl FF.nil))))))), (hS32.sel [0, 1, 2, 3, 4] rfl rfl), hL3⟩
    ·skip
     have hF10 := cf' hb2 hb3
     refine cw_exit rfl ?_
     obtain rfl := some_inj hF10
     obtain rfl := some_inj hL3
     refine cw_seq (cw_region ?_)
     refine sQ 113 (Y_loadA (B := aD b5) (i := 0) (cs := [vi p.Ins, vi (i64.wrap (p.Vars - 1)), vi p.Root, vi phase, .slice B4 terms.length c4, .slice B8 Out.length c8]) (vs := [vi p.Ins, vi (i64.wrap (p.Vars - 1)), vi p.Root, vi phase, .slice B4 terms.length c4, .slice B8 Out.length c8]) k_ag_30 k_sz_30_6 rfl (hf2.get 10 3 rfl) (hS25.cf (i := 2) rfl) rfl rfl) ?_
     refine s0 (Ys_store (i := 1) (s := 6) (B := aD b2) (T' := 30) (v := .agg #[vi p.Ins, vi (i64.wrap (p.Vars - 1)), vi p.Root, vi phase, .slice B4 terms.length c4, .slice B8 Out.length c8]) (vs := [vi p.Ins, vi (i64.wrap (p.Vars - 1)), vi p.Root, vi phase, .slice B4 terms.length c4, .slice B8 Out.length c8]) (k := 0) (cs' := [vi p.Ins, vi (i64.wrap (p.Vars - 1)), vi p.Root, vi phase, .slice B4 terms.length c4, .slice B8 Out.length c8]) hS25 k_sz_30_6 rfl (hf2.get 6 2 rfl) rfl rfl rfl rfl rfl (lB rfl) rfl rfl) ?_
     rintro _ w_27 ⟨rfl, hS45⟩
     refine rw_nil (cw_ret ?_)
     obtain rfl := some_inj hF5
     exact ret1 Tryd.results41 (v1 := .agg #[vi p.Ins, vi (i64.wrap (p.Vars - 1)), vi p.Root, vi phase, .slice B4 terms.length c4, .slice B8 Out.length c8]) (resAt_cellA (B := aD b2) (i := 0) (cs := [vi p.Ins, vi (i64.wrap (p.Vars - 1)), vi p.Root, vi phase, .slice B4 terms.length c4, .slice B8 Out.length c8]) (vs := [vi p.Ins, vi (i64.wrap (p.Vars - 1)), vi p.Root, vi phase, .slice B4 terms.length c4, .slice B8 Out.length c8]) (hf2.get 6 2 rfl) k_ag_30 k_sz_30_6 (hS45.cf (i := 1) rfl) rfl rfl) ⟨B4, c4, B8, c8, rfl, (hS45.sN [3, 4])⟩
   exact allR_nil
  exact allR_nil

theorem c_spec_l21Without (p : TPathSum) (y : Int) (B : Option Addr) (c n : Nat) (B1 : Option Addr) (c1 n1 : Nat) (w0 : World) (hn : p.Terms.length = n) (hn1 : p.Out.length = n1) (hS : ST w0 [] w0 [] [⟨B, (p.Terms.flatMap eN0)⟩, ⟨B1, (p.Out.flatMap eN1)⟩]) {r_ : TPathSum} (hF : F_spec_l21Without p y = some r_) :
  CV Tryd.prog 37 #[.agg #[vi p.Ins, vi p.Vars, vi p.Root, vi p.Phase, .slice B n c, .slice B1 n1 c1], vi y] w0 (fun v w' => ∃ (B2 : Option Addr) (c2 : Nat) (B3 : Option Addr) (c3 : Nat), v = .agg #[vi r_.Ins, vi r_.Vars, vi r_.Root, vi r_.Phase, .slice B2 r_.Terms.length c2, .slice B3 r_.Out.length c3] ∧ ST w0 [] w' [⟨B2, 56, (r_.Terms.flatMap eN0), c2 * 2⟩, ⟨B3, 44, (r_.Out.flatMap eN1), c3 * 2⟩] []) := by
 subst hn
 subst hn1
 unfold F_spec_l21Without at hF
 refine cv_of_cw 9 Tryd.func37 rfl Tryd.ntmps37 rfl ?_
 refine cw_seq (cw_region ?_)
 refine sS 2 (Ys_box (T := 30) (v := .agg #[vi p.Ins, vi p.Vars, vi p.Root, vi p.Phase, .slice B p.Terms.length c, .slice B1 p.Out.length c1]) (cs := [vi p.Ins, vi p.Vars, vi p.Root, vi p.Phase, .slice B p.Terms.length c, .slice B1 p.Out.length c1]) (m := 6) hS rfl rfl rfl rfl) ?_
 rintro _ w_ ⟨b, rfl, hS1⟩
 refine sS 4 (Ys_alloc (T := 30) (cs := [vi 0, vi 0, vi 0, vi 0, .slice none 0 0, .slice none 0 0]) (m := 6) hS1 k_zero_30 rfl rfl rfl) ?_
 rintro _ w_1 ⟨b1, rfl, hS2⟩
 refine rw_nil (cw_seq (cw_region ?_))
 refine sQ 5 (Y_loadA (B := aD b) (i := 0) (cs := [vi p.Ins, vi p.Vars, vi p.Root, vi p.Phase, .slice B p.Terms.length c, .slice B1 p.Out.length c1]) (vs := [vi p.Ins, vi p.Vars, vi p.Root, vi p.Phase, .slice B p.Terms.length c, .slice B1 p.Out.length c1]) k_ag_30 k_sz_30_6 rfl rfl (hS2.cf (i := 0) rfl) rfl rfl) ?_
 refine sQ 6 (Y_move (v := vi y) rfl rfl) ?_
 refine sQ 7 (Y_buildS (zs := [vi 0, vi 0]) (vs := []) (cs := [vi 0, vi 0]) k_pl_44 k_zero_44 rfl mpn rfl) ?_
 obtain ⟨r_1, hc, hF⟩ := bind_inv hF
 refine sc 8 rfl rfl (Yc_func (g := 41) (vs := [.agg #[vi p.Ins, vi p.Vars, vi p.Root, vi p.Phase, .slice B p.Terms.length c, .slice B1 p.Out.length c1], vi y, .agg #[vi 0, vi 0]]) k_call_41 rfl (mc rfl (mc rfl (mc rfl mn))) (c_spec_l21Replace p y (TAffine.mk 0 0) B c p.Terms.length B1 c1 p.Out.length _ rfl rfl (hS2.inn0 [(true, 0), (true, 1)] rfl) hc)) ?_
 rintro _ w_2 ⟨B4, c4, B5, c5, rfl, hd⟩
 have hS3 := hS2.out0 hd
 refine s0 (Ys_store (i := 1) (s := 6) (B := aD b1) (T' := 30) (v := .agg #[vi r_1.Ins, vi r_1.Vars, vi r_1.Root, vi r_1.Phase, .slice B4 r_1.Terms.length c4, .slice B5 r_1.Out.length c5]) (vs := [vi r_1.Ins, vi r_1.Vars, vi r_1.Root, vi r_1.Phase, .slice B4 r_1.Terms.length c4, .slice B5 r_1.Out.length c5]) (k := 0) (cs' := [vi r_1.Ins, vi r_1.Vars, vi r_1.Root, vi r_1.Phase, .slice B4 r_1.Terms.length c4, .slice B5 r_1.Out.length c5]) hS3 k_sz_30_6 rfl rfl rfl rfl rfl rfl rfl (lB rfl) rfl rfl) ?_
 rintro _ w_3 ⟨rfl, hS4⟩
 refine rw_nil (cw_ret ?_)
 obtain rfl := some_inj hF
 exact ret1 Tryd.results37 (v1 := .agg #[vi r_1.Ins, vi r_1.Vars, vi r_1.Root, vi r_1.Phase, .slice B4 r_1.Terms.length c4, .slice B5 r_1.Out.length c5]) (resAt_cellA (B := aD b1) (i := 0) (cs := [vi r_1.Ins, vi r_1.Vars, vi r_1.Root, vi r_1.Phase, .slice B4 r_1.Terms.length c4, .slice B5 r_1.Out.length c5]) (vs := [vi r_1.Ins, vi r_1.Vars, vi r_1.Root, vi r_1.Phase, .slice B4 r_1.Terms.length c4, .slice B5 r_1.Out.length c5]) rfl k_ag_30 k_sz_30_6 (hS4.cf (i := 1) rfl) rfl rfl) ⟨B4, c4, B5, c5, rfl, (hS4.sN [2, 3])⟩

theorem c_spec_l21Step (p : TPathSum) (B : Option Addr) (c n : Nat) (B1 : Option Addr) (c1 n1 : Nat) (w0 : World) (hn : p.Terms.length = n) (hn1 : p.Out.length = n1) (hS : ST w0 [] w0 [] [⟨B, (p.Terms.flatMap eN0)⟩, ⟨B1, (p.Out.flatMap eN1)⟩]) {r_ : TPathSum} {r_1 : Int} {r_2 : Bool} (hF : F_spec_l21Step p = some (r_, r_1, r_2)) :
  CV Tryd.prog 17 #[.agg #[vi p.Ins, vi p.Vars, vi p.Root, vi p.Phase, .slice B n c, .slice B1 n1 c1]] w0 (fun v w' => ∃ (B2 : Option Addr) (c2 : Nat) (B3 : Option Addr) (c3 : Nat), v = .tuple #[.agg #[vi r_.Ins, vi r_.Vars, vi r_.Root, vi r_.Phase, .slice B2 r_.Terms.length c2, .slice B3 r_.Out.length c3], vi r_1, .bool r_2] ∧ ST w0 [] w' [⟨B2, 56, (r_.Terms.flatMap eN0), c2 * 2⟩, ⟨B3, 44, (r_.Out.flatMap eN1), c3 * 2⟩] []) := by
 subst hn
 subst hn1
 unfold F_spec_l21Step at hF
 refine cv_of_cw 110 Tryd.func17 rfl Tryd.ntmps17 rfl ?_
 refine cw_seq (cw_region ?_)
 refine sS 1 (Ys_box (T := 30) (v := .agg #[vi p.Ins, vi p.Vars, vi p.Root, vi p.Phase, .slice B p.Terms.length c, .slice B1 p.Out.length c1]) (cs := [vi p.Ins, vi p.Vars, vi p.Root, vi p.Phase, .slice B p.Terms.length c, .slice B1 p.Out.length c1]) (m := 6) hS rfl rfl rfl rfl) ?_
 rintro _ w_ ⟨b, rfl, hS1⟩
 refine sS 2 (Ys_alloc (T := 30) (cs := [vi 0, vi 0, vi 0, vi 0, .slice none 0 0, .slice none 0 0]) (m := 6) hS1 k_zero_30 rfl rfl rfl) ?_
 rintro _ w_1 ⟨b1, rfl, hS2⟩
 refine sQ 3 (Y_assign (v := vi 0) rfl rfl) ?_
 refine sQ 4 (Y_assign (v := .bool false) rfl rfl) (rw_nil (cw_seq (cw_seq (cw_region ?_))))
 refine sQ 12 (Y_fieldAddr (B := aD b) (i := 0) (s := 0) k_fd_30_0_0_3 k_sz_3_1 rfl rfl) ?_
 refine sQ 13 (Y_load1 (B := aD b) (i := 0) (cs := [vi p.Ins, vi p.Vars, vi p.Root, vi p.Phase, .slice B p.Terms.length c, .slice B1 p.Out.length c1]) (v := vi p.Ins) k_sc_3 rfl rfl (hS2.cf (i := 0) rfl) rfl) ?_
 refine sQ 5 (Y_assign (v := vi p.Ins) rfl rfl) (rw_nil ?_)
 obtain ⟨z, hz, hF1⟩ := bind_inv hF
 refine cw_block ?_
 refine cw_loop (fun k f w => ∃ (y : Int), FF f [(1, pt (aD b) 0), (2, pt (aD b1) 0), (5, vi y)] ∧ ST w0 [] w [⟨aD b, 30, [vi p.Ins, vi p.Vars, vi p.Root, vi p.Phase, .slice B p.Terms.length c, .slice B1 p.Out.length c1], 6⟩, ⟨aD b1, 30, [vi 0, vi 0, vi 0, vi 0, .slice none 0 0, .slice none 0 0], 6⟩] [⟨B, (p.Terms.flatMap eN0)⟩, ⟨B1, (p.Out.flatMap eN1)⟩] ∧ whX (F_spec_l21Step_l1 p) k y = some z) fuel ⟨p.Ins, (FF.cons rfl (FF.cons rfl (FF.cons rfl FF.nil))), (hS2.sel [0, 1] rfl rfl), hz⟩ ?_
 rintro k_ f w ⟨y, hf, hS3, hL⟩
 obtain ⟨k_1, y1, rfl, hb, hL1⟩ := whX_go hL
 unfold F_spec_l21Step_l1 at hb
 refine cw_seq (cw_seq (cw_region ?_))
 refine sQ 14 (Y_move (v := vi y) rfl (hf.get 5 2 rfl)) ?_
 refine sQ 15 (Y_fieldAddr (B := aD b) (i := 0) (s := 0) k_fd_30_0_0_3 k_sz_3_1 rfl (hf.get 1 0 rfl)) ?_
 refine sQ 16 (Y_load1 (B := aD b) (i := 0) (cs := [vi p.Ins, vi p.Vars, vi p.Root, vi p.Phase, .slice B p.Terms.length c, .slice B1 p.Out.length c1]) (v := vi p.Ins) k_sc_3 rfl rfl (hS3.cf (i := 0) rfl) rfl) ?_
 refine sQ 17 (Y_fieldAddr (B := aD b) (i := 0) (s := 0) k_fd_30_1_1_3 k_sz_3_1 rfl (hf.get 1 0 rfl)) ?_
 refine sQ 18 (Y_load1 (B := aD b) (i := 1) (cs := [vi p.Ins, vi p.Vars, vi p.Root, vi p.Phase, .slice B p.Terms.length c, .slice B1 p.Out.length c1]) (v := vi p.Vars) k_sc_3 rfl rfl (hS3.cf (i := 0) rfl) rfl) ?_
 refine sQ 19 (Y_add (k := .i64) (a := p.Ins) (b := p.Vars) rfl rfl rfl) ?_
 refine sQ 20 (Y_lt (k := .i64) (a := y) (b := (i64.wrap (p.Ins + p.Vars))) rfl rfl rfl) (rw_nil ?_)
 refine cw_cond (b := (decide (y < (i64.wrap (p.Ins + p.Vars))))) rfl (fun hb1 => ?_) (fun hb1 => ?_)
 ·skip
  have hF2 := ct hb hb1
  refine cw_skip (cw_seq (cw_block (cw_seq (cw_region ?_))))
  refine sQ 24 (Y_loadA (B := aD b) (i := 0) (cs := [vi p.Ins, vi p.Vars, vi p.Root, vi p.Phase, .slice B p.Terms.length c, .slice B1 p.Out.length c1]) (vs := [vi p.Ins, vi p.Vars, vi p.Root, vi p.Phase, .slice B p.Terms.length c, .slice B1 p.Out.length c1]) k_ag_30 k_sz_30_6 rfl (hf.get 1 0 rfl) (hS3.cf (i := 0) rfl) rfl rfl) ?_
  refine sQ 25 (Y_move (v := vi y) rfl (hf.get 5 2 rfl)) ?_
  obtain ⟨⟨r_3, r_4, r_5⟩, hc, hF2⟩ := bind_inv hF2
  refine sc 26 rfl rfl (Yc_func (g := 36) (vs := [.agg #[vi p.Ins, vi p.Vars, vi p.Root, vi p.Phase, .slice B p.Terms.length c, .slice B1 p.Out.length c1], vi y]) k_call_36 rfl (mc rfl (mc rfl mn)) (c_spec_l21Rule p y B c p.Terms.length B1 c1 p.Out.length _ rfl rfl (hS3.inn0 [(true, 0), (true, 1)] rfl) hc)) ?_
  rintro _ w_2 ⟨rfl, hd⟩
  have hS4 := hS3.out00 hd
  refine sQ 23 (Y_move (v := .tuple #[vi r_3, vi r_4, vi r_5]) rfl rfl) ?_
  refine sQ 27 (Y_extract (v := vi r_3) rfl rfl rfl) ?_
  refine sQ 28 (Y_extract (v := vi r_4) rfl rfl rfl) ?_
  refine sQ 29 (Y_extract (v := vi r_5) rfl rfl rfl) ?_
  refine sQ 6 (Y_assign (v := vi r_3) rfl rfl) ?_
  refine sQ 7 (Y_assign (v := vi r_4) rfl rfl) ?_
  refine sQ 8 (Y_assign (v := vi r_5) rfl rfl) (rw_nil (cw_seq (cw_seq (cw_region ?_))))
  refine sQ 30 (Y_move (v := vi r_3) rfl rfl) ?_
  refine sQ 31 (Y_eq (k := .i64) (a := r_3) (b := 0) rfl rfl rfl) (rw_nil ?_)
  refine cw_cond (b := (r_3 == 0)) rfl (fun hb2 => ?_) (fun hb2 => ?_)
  ·skip
   have hF3 := ct hF2 hb2
   refine cw_exit rfl ?_
   refine cw_region ?_
   refine sQ 21 (Y_move (v := vi y) rfl (hf.get 5 2 rfl)) ?_
   refine sQ 22 (Y_add (k := .i64) (a := y) (b := 1) rfl rfl rfl) ?_
   refine sQ 5 (Y_assign (v := vi (i64.wrap (y + 1))) rfl rfl) (rw_nil ?_)
   obtain rfl := some_inj hF3
   exact ⟨k_1, Nat.lt_succ_self _, (i64.wrap (y + 1)), (FF.cons (hf.get 1 0 rfl) (FF.cons (hf.get 2 1 rfl) (FF.cons rfl FF.nil))), (hS4.sel [0, 1] rfl rfl), hL1⟩
  ·skip
   have hF4 := cf' hF2 hb2
   refine cw_skip (cw_seq (cw_region ?_))
   refine sQ 32 (Y_loadA (B := aD b) (i := 0) (cs := [vi p.Ins, vi p.Vars, vi p.Root, vi p.Phase, .slice B p.Terms.length c, .slice B1 p.Out.length c1]) (vs := [vi p.Ins, vi p.Vars, vi p.Root, vi p.Phase, .slice B p.Terms.length c, .slice B1 p.Out.length c1]) k_ag_30 k_sz_30_6 rfl (hf.get 1 0 rfl) (hS4.cf (i := 0) rfl) rfl rfl) ?_
   refine sQ 33 (Y_move (v := vi y) rfl (hf.get 5 2 rfl)) ?_
   obtain ⟨r_6, hc1, hF4⟩ := bind_inv hF4
   refine sc 34 rfl rfl (Yc_func (g := 37) (vs := [.agg #[vi p.Ins, vi p.Vars, vi p.Root, vi p.Phase, .slice B p.Terms.length c, .slice B1 p.Out.length c1], vi y]) k_call_37 rfl (mc rfl (mc rfl mn)) (c_spec_l21Without p y B c p.Terms.length B1 c1 p.Out.length _ rfl rfl (hS4.inn0 [(true, 0), (true, 1)] rfl) hc1)) ?_
   rintro _ w_3 ⟨B4, c4, B5, c5, rfl, hd1⟩
   have hS5 := hS4.out0 hd1
   refine sS 9 (Ys_alloc (T := 30) (cs := [vi 0, vi 0, vi 0, vi 0, .slice none 0 0, .slice none 0 0]) (m := 6) hS5 k_zero_30 rfl rfl rfl) ?_
   rintro _ w_4 ⟨b2, rfl, hS6⟩
   refine s0 (Ys_store (i := 4) (s := 6) (B := aD b2) (T' := 30) (v := .agg #[vi r_6.Ins, vi r_6.Vars, vi r_6.Root, vi r_6.Phase, .slice B4 r_6.Terms.length c4, .slice B5 r_6.Out.length c5]) (vs := [vi r_6.Ins, vi r_6.Vars, vi r_6.Root, vi r_6.Phase, .slice B4 r_6.Terms.length c4, .slice B5 r_6.Out.length c5]) (k := 0) (cs' := [vi r_6.Ins, vi r_6.Vars, vi r_6.Root, vi r_6.Phase, .slice B4 r_6.Terms.length c4, .slice B5 r_6.Out.length c5]) hS6 k_sz_30_6 rfl rfl rfl rfl rfl rfl rfl (lB rfl) rfl rfl) ?_
   rintro _ w_5 ⟨rfl, hS7⟩
   refine rw_nil (cw_seq (cw_region ?_))
   refine sQ 35 (Y_move (v := vi r_5) rfl rfl) ?_
   refine sQ 36 (Y_move (v := vi y) rfl (hf.get 5 2 rfl)) ?_
   obtain ⟨r_7, hc2, hF4⟩ := bind_inv hF4
   refine sc 37 rfl rfl (Yc_func (g := 38) (vs := [vi r_5, vi y]) k_call_38 rfl (mc rfl (mc rfl mn)) (c_spec_l21Drop r_5 y _  (hS7.inn0 [] rfl) hc2)) ?_
   rintro _ w_6 ⟨rfl, hd2⟩
   have hS8 := hS7.out00 hd2
   refine sQ 8 (Y_assign (v := vi r_7) rfl rfl) (rw_nil (cw_seq ?_))
   obtain ⟨z1, hz1, hF5⟩ := bind_inv hF4
   refine cw_mid (fun f w => ∃ (Ins : Int) (Vars : Int) (Root : Int) (Phase : Int) (Terms : List TTerm) (Out : List TAffine) (B6 : Option Addr) (c6 : Nat) (B7 : Option Addr) (c7 : Nat), (Ins, Vars, Root, Phase, Terms, Out) = z1 ∧ FF f [(2, pt (aD b1) 0), (6, vi r_3), (9, pt (aD b2) 0)] ∧ ST w0 [] w [⟨aD b1, 30, [vi 0, vi 0, vi 0, vi 0, .slice none 0 0, .slice none 0 0], 6⟩, ⟨aD b2, 30, [vi Ins, vi Vars, vi Root, vi Phase, .slice B6 Terms.length c6, .slice B7 Out.length c7], 6⟩, ⟨B6, 56, (Terms.flatMap eN0), c6 * 2⟩, ⟨B7, 44, (Out.flatMap eN1), c7 * 2⟩] [⟨B, (p.Terms.flatMap eN0)⟩, ⟨B1, (p.Out.flatMap eN1)⟩]) ?_ ?_
   ·skip
    refine cw_seq (cw_region ?_)
    refine sQ 38 (Y_move (v := vi r_3) rfl rfl) (rw_nil (cw_block (cw_seq (cw_region ?_))))
    refine sQ 66 (Y_eq (k := .i64) (a := r_3) (b := 1) rfl rfl rfl) ?_
    refine sQ 65 (Y_assign (v := .bool (r_3 == 1)) rfl rfl) (rw_nil ?_)
    refine cw_cond (b := (r_3 == 1)) rfl (fun hb3 => ?_) (fun hb3 => ?_)
    ·skip
     have hF6 := ct hz1 hb3
     refine cw_region ?_
     refine sQ 67 (Y_fieldAddr (B := aD b2) (i := 0) (s := 0) k_fd_30_2_2_3 k_sz_3_1 rfl rfl) ?_
     refine sQ 68 (Y_load1 (B := aD b2) (i := 2) (cs := [vi r_6.Ins, vi r_6.Vars, vi r_6.Root, vi r_6.Phase, .slice B4 r_6.Terms.length c4, .slice B5 r_6.Out.length c5]) (v := vi r_6.Root) k_sc_3 rfl rfl (hS8.cf (i := 4) rfl) rfl) ?_
     refine sQ 69 (Y_sub (k := .i64) (a := r_6.Root) (b := 2) rfl rfl rfl) ?_
     refine sQ 70 (Y_fieldAddr (B := aD b2) (i := 0) (s := 0) k_fd_30_2_2_3 k_sz_3_1 rfl rfl) ?_
     refine s0 (Ys_store (i := 4) (s := 1) (B := aD b2) (T' := 30) (v := vi (i64.wrap (r_6.Root - 2))) (vs := [vi (i64.wrap (r_6.Root - 2))]) (k := 2) (cs' := [vi r_6.Ins, vi r_6.Vars, vi (i64.wrap (r_6.Root - 2)), vi r_6.Phase, .slice B4 r_6.Terms.length c4, .slice B5 r_6.Out.length c5]) hS8 k_sz_3_1 rfl rfl rfl rfl rfl rfl rfl (lB rfl) rfl rfl) ?_
     rintro _ w_7 ⟨rfl, hS10⟩
     refine rw_nil ?_
     exact ⟨r_6.Ins, r_6.Vars, (i64.wrap (r_6.Root - 2)), r_6.Phase, r_6.Terms, r_6.Out, B4, c4, B5, c5, (some_inj hF6), (FF.cons (hf.get 2 1 rfl) (FF.cons rfl (FF.cons rfl FF.nil))), (hS10.sel [1, 4, 2, 3] rfl rfl)⟩
    ·skip
     have hF7 := cf' hz1 hb3
     refine cw_seq (cw_region ?_)
     refine sQ 72 (Y_eq (k := .i64) (a := r_3) (b := 2) rfl rfl rfl) ?_
     refine sQ 71 (Y_assign (v := .bool (r_3 == 2)) rfl rfl) (rw_nil ?_)
     refine cw_cond (b := (r_3 == 2)) rfl (fun hb4 => ?_) (fun hb4 => ?_)
     ·skip
      have hF8 := ct hF7 hb4
      refine cw_seq (cw_region ?_)
      refine sQ 73 (Y_fieldAddr (B := aD b2) (i := 0) (s := 0) k_fd_30_2_2_3 k_sz_3_1 rfl rfl) ?_
      refine sQ 74 (Y_load1 (B := aD b2) (i := 2) (cs := [vi r_6.Ins, vi r_6.Vars, vi r_6.Root, vi r_6.Phase, .slice B4 r_6.Terms.length c4, .slice B5 r_6.Out.length c5]) (v := vi r_6.Root) k_sc_3 rfl rfl (hS8.cf (i := 4) rfl) rfl) ?_
      refine sQ 75 (Y_sub (k := .i64) (a := r_6.Root) (b := 1) rfl rfl rfl) ?_
      refine sQ 76 (Y_fieldAddr (B := aD b2) (i := 0) (s := 0) k_fd_30_2_2_3 k_sz_3_1 rfl rfl) ?_
      refine s0 (Ys_store (i := 4) (s := 1) (B := aD b2) (T' := 30) (v := vi (i64.wrap (r_6.Root - 1))) (vs := [vi (i64.wrap (r_6.Root - 1))]) (k := 2) (cs' := [vi r_6.Ins, vi r_6.Vars, vi (i64.wrap (r_6.Root - 1)), vi r_6.Phase, .slice B4 r_6.Terms.length c4, .slice B5 r_6.Out.length c5]) hS8 k_sz_3_1 rfl rfl rfl rfl rfl rfl rfl (lB rfl) rfl rfl) ?_
      rintro _ w_8 ⟨rfl, hS11⟩
      refine rw_nil (cw_seq (cw_region ?_))
      refine sQ 77 (Y_fieldAddr (B := aD b2) (i := 0) (s := 0) k_fd_30_3_3_3 k_sz_3_1 rfl rfl) ?_
      refine sQ 78 (Y_load1 (B := aD b2) (i := 3) (cs := [vi r_6.Ins, vi r_6.Vars, vi (i64.wrap (r_6.Root - 1)), vi r_6.Phase, .slice B4 r_6.Terms.length c4, .slice B5 r_6.Out.length c5]) (v := vi r_6.Phase) k_sc_3 rfl rfl (hS11.cf (i := 4) rfl) rfl) ?_
      refine sQ 79 (Y_fieldAddr (B := aD b2) (i := 0) (s := 0) k_fd_30_4_4_27 k_sz_27_1 rfl rfl) ?_
      refine sQ 80 (Y_load1 (B := aD b2) (i := 4) (cs := [vi r_6.Ins, vi r_6.Vars, vi (i64.wrap (r_6.Root - 1)), vi r_6.Phase, .slice B4 r_6.Terms.length c4, .slice B5 r_6.Out.length c5]) (v := .slice B4 r_6.Terms.length c4) k_sc_27 rfl rfl (hS11.cf (i := 4) rfl) rfl) ?_
      refine sQ 81 (Y_buildS (zs := [vi 0, .slice none 0 0]) (vs := [(0, vi r_6.Phase), (1, .slice B4 r_6.Terms.length c4)]) (cs := [vi r_6.Phase, .slice B4 r_6.Terms.length c4]) k_pl_68 k_zero_68 rfl (mpc rfl (mpc rfl mpn)) rfl) ?_
      refine sS 82 (Ys_box (T := 68) (v := .agg #[vi r_6.Phase, .slice B4 r_6.Terms.length c4]) (cs := [vi r_6.Phase, .slice B4 r_6.Terms.length c4]) (m := 2) hS11 rfl rfl rfl rfl) ?_
      rintro _ w_9 ⟨b3, rfl, hS12⟩
      refine sQ 10 (Y_assign (v := pt (aD b3) 0) rfl rfl) (rw_nil (cw_seq ?_))
      obtain ⟨z2, hz2, hF9⟩ := bind_inv hF8
      refine cw_mid (fun f w => ∃ (phase : Int) (terms : List TTerm) (B8 : Option Addr) (c8 : Nat), (phase, terms) = z2 ∧ FF f [(2, pt (aD b1) 0), (6, vi r_3), (9, pt (aD b2) 0), (10, pt (aD b3) 0)] ∧ ST w0 [] w [⟨aD b1, 30, [vi 0, vi 0, vi 0, vi 0, .slice none 0 0, .slice none 0 0], 6⟩, ⟨aD b2, 30, [vi r_6.Ins, vi r_6.Vars, vi (i64.wrap (r_6.Root - 1)), vi r_6.Phase, .slice B4 r_6.Terms.length c4, .slice B5 r_6.Out.length c5], 6⟩, ⟨B5, 44, (r_6.Out.flatMap eN1), c5 * 2⟩, ⟨aD b3, 68, [vi phase, .slice B8 terms.length c8], 2⟩, ⟨B8, 56, (terms.flatMap eN0), c8 * 2⟩] [⟨B, (p.Terms.flatMap eN0)⟩, ⟨B1, (p.Out.flatMap eN1)⟩]) ?_ ?_
      ·skip
       refine cw_seq (cw_region ?_)
       refine sQ 83 (Y_move (v := vi r_4) rfl rfl) ?_
       refine sQ 84 (Y_eq (k := .i64) (a := r_4) (b := 2) rfl rfl rfl) (rw_nil ?_)
       refine cw_cond (b := (r_4 == 2)) rfl (fun hb5 => ?_) (fun hb5 => ?_)
       ·skip
        have hF10 := ct hz2 hb5
        refine cw_seq (cw_region ?_)
        refine sQ 85 (Y_move (v := pt (aD b3) 0) rfl rfl) ?_
        obtain ⟨m, hc3, hF10⟩ := bind_inv hF10
        have hS14 := hS12.sel [0, 1, 3, 4, 5, 2] rfl rfl
        refine sc 86 rfl rfl (Yc_func (g := 39) (vs := [pt (aD b3) 0, vi 0, vi 1]) k_call_39 rfl (mc rfl (mc rfl (mc rfl mn))) (c_spec_l21Sum_add (Tl21Sum.mk r_6.Phase r_6.Terms) 0 1 (aD b3) B4 c4 r_6.Terms.length _ rfl (hS14.lencap (i := 5) rfl (fm_lenn (l := r_6.Terms) eN2 rfl) rfl rfl) (hS14.inn [false, false, false, false, true, true] rfl [] rfl) hc3)) ?_
        rintro _ w_10 ⟨B9, c9, rfl, hd3⟩
        have hS15 := hS14.out [false, false, false, false, true, true] rfl hd3
        refine rw_nil (cw_region ?_)
        refine sQ 87 (Y_move (v := pt (aD b3) 0) rfl rfl) ?_
        refine sQ 88 (Y_move (v := vi r_7) rfl rfl) ?_
        refine sQ 89 (Y_buildS (zs := [vi 0, vi 0]) (vs := [(0, vi r_7)]) (cs := [vi r_7, vi 0]) k_pl_44 k_zero_44 rfl (mpc rfl mpn) rfl) ?_
        obtain ⟨m1, hc4, hF10⟩ := bind_inv hF10
        refine sc 90 rfl rfl (Yc_func (g := 40) (vs := [pt (aD b3) 0, vi 0, vi 6, .agg #[vi r_7, vi 0]]) k_call_40 rfl (mc rfl (mc rfl (mc rfl (mc rfl mn)))) (c_spec_l21Sum_times m 0 6 (TAffine.mk r_7 0) (aD b3) B9 c9 m.terms.length _ rfl (hS15.inn [false, false, false, false, true, true] rfl [] rfl) hc4)) ?_
        rintro _ w_11 ⟨B10, c10, rfl, hd4⟩
        have hS16 := hS15.out [false, false, false, false, true, true] rfl hd4
        refine rw_nil ?_
        exact ⟨m1.phase, m1.terms, B10, c10, (some_inj hF10), (FF.cons (hf.get 2 1 rfl) (FF.cons rfl (FF.cons rfl (FF.cons rfl FF.nil)))), (hS16.sel [1, 3, 2, 4, 5] rfl rfl)⟩
       ·skip
        have hF11 := cf' hz2 hb5
        refine cw_seq (cw_region ?_)
        refine sQ 91 (Y_move (v := pt (aD b3) 0) rfl rfl) ?_
        obtain ⟨m2, hc5, hF11⟩ := bind_inv hF11
        have hS17 := hS12.sel [0, 1, 3, 4, 5, 2] rfl rfl
        refine sc 92 rfl rfl (Yc_func (g := 39) (vs := [pt (aD b3) 0, vi 0, vi 7]) k_call_39 rfl (mc rfl (mc rfl (mc rfl mn))) (c_spec_l21Sum_add (Tl21Sum.mk r_6.Phase r_6.Terms) 0 7 (aD b3) B4 c4 r_6.Terms.length _ rfl (hS17.lencap (i := 5) rfl (fm_lenn (l := r_6.Terms) eN2 rfl) rfl rfl) (hS17.inn [false, false, false, false, true, true] rfl [] rfl) hc5)) ?_
        rintro _ w_12 ⟨B11, c11, rfl, hd5⟩
        have hS18 := hS17.out [false, false, false, false, true, true] rfl hd5
        refine rw_nil (cw_region ?_)
        refine sQ 93 (Y_move (v := pt (aD b3) 0) rfl rfl) ?_
        refine sQ 94 (Y_move (v := vi r_7) rfl rfl) ?_
        refine sQ 95 (Y_buildS (zs := [vi 0, vi 0]) (vs := [(0, vi r_7)]) (cs := [vi r_7, vi 0]) k_pl_44 k_zero_44 rfl (mpc rfl mpn) rfl) ?_
        obtain ⟨m3, hc6, hF11⟩ := bind_inv hF11
        refine sc 96 rfl rfl (Yc_func (g := 40) (vs := [pt (aD b3) 0, vi 0, vi 2, .agg #[vi r_7, vi 0]]) k_call_40 rfl (mc rfl (mc rfl (mc rfl (mc rfl mn)))) (c_spec_l21Sum_times m2 0 2 (TAffine.mk r_7 0) (aD b3) B11 c11 m2.terms.length _ rfl (hS18.inn [false, false, false, false, true, true] rfl [] rfl) hc6)) ?_
        rintro _ w_13 ⟨B12, c12, rfl, hd6⟩
        have hS19 := hS18.out [false, false, false, false, true, true] rfl hd6
        refine rw_nil ?_
        exact ⟨m3.phase, m3.terms, B12, c12, (some_inj hF11), (FF.cons (hf.get 2 1 rfl) (FF.cons rfl (FF.cons rfl (FF.cons rfl FF.nil)))), (hS19.sel [1, 3, 2, 4, 5] rfl rfl)⟩
      rintro f w ⟨phase, terms, B8, c8, rfl, hf2, hS13⟩
      refine cw_seq (cw_region ?_)
      refine sQ 97 (Y_move (v := pt (aD b3) 0) rfl (hf2.get 10 3 rfl)) ?_
      refine sQ 98 (Y_nilCheck (B := aD b3) (i := 0) rfl rfl) ?_
      refine sQ 99 (Y_fieldAddr (B := aD b3) (i := 0) (s := 0) k_fd_68_0_0_3 k_sz_3_1 rfl rfl) ?_
      refine sQ 100 (Y_load1 (B := aD b3) (i := 0) (cs := [vi phase, .slice B8 terms.length c8]) (v := vi phase) k_sc_3 rfl rfl (hS13.cf (i := 3) rfl) rfl) ?_
      refine sQ 101 (Y_fieldAddr (B := aD b2) (i := 0) (s := 0) k_fd_30_3_3_3 k_sz_3_1 rfl (hf2.get 9 2 rfl)) ?_
      refine s0 (Ys_store (i := 1) (s := 1) (B := aD b2) (T' := 30) (v := vi phase) (vs := [vi phase]) (k := 3) (cs' := [vi r_6.Ins, vi r_6.Vars, vi (i64.wrap (r_6.Root - 1)), vi phase, .slice B4 r_6.Terms.length c4, .slice B5 r_6.Out.length c5]) hS13 k_sz_3_1 rfl rfl rfl rfl rfl rfl rfl (lB rfl) rfl rfl) ?_
      rintro _ w_14 ⟨rfl, hS20⟩
      refine rw_nil (cw_region ?_)
      refine sQ 102 (Y_move (v := pt (aD b3) 0) rfl (hf2.get 10 3 rfl)) ?_
      refine sQ 103 (Y_nilCheck (B := aD b3) (i := 0) rfl rfl) ?_
      refine sQ 104 (Y_fieldAddr (B := aD b3) (i := 0) (s := 0) k_fd_68_1_1_27 k_sz_27_1 rfl rfl) ?_
      refine sQ 105 (Y_load1 (B := aD b3) (i := 1) (cs := [vi phase, .slice B8 terms.length c8]) (v := .slice B8 terms.length c8) k_sc_27 rfl rfl (hS20.cf (i := 3) rfl) rfl) ?_
      refine sQ 106 (Y_fieldAddr (B := aD b2) (i := 0) (s := 0) k_fd_30_4_4_27 k_sz_27_1 rfl (hf2.get 9 2 rfl)) ?_
      refine s0 (Ys_store (i := 1) (s := 1) (B := aD b2) (T' := 30) (v := .slice B8 terms.length c8) (vs := [.slice B8 terms.length c8]) (k := 4) (cs' := [vi r_6.Ins, vi r_6.Vars, vi (i64.wrap (r_6.Root - 1)), vi phase, .slice B8 terms.length c8, .slice B5 r_6.Out.length c5]) hS20 k_sz_27_1 rfl rfl rfl rfl rfl rfl rfl (lB rfl) rfl rfl) ?_
      rintro _ w_15 ⟨rfl, hS21⟩
      refine rw_nil ?_
      exact ⟨r_6.Ins, r_6.Vars, (i64.wrap (r_6.Root - 1)), phase, terms, r_6.Out, B8, c8, B5, c5, (some_inj hF9), (FF.cons (hf2.get 2 0 rfl) (FF.cons (hf2.get 6 1 rfl) (FF.cons (hf2.get 9 2 rfl) FF.nil))), (hS21.sel [0, 1, 4, 2] rfl rfl)⟩
     ·skip
      have hF12 := cf' hF7 hb4
      refine cw_seq (cw_region ?_)
      refine sQ 39 (Y_fieldAddr (B := aD b2) (i := 0) (s := 0) k_fd_30_2_2_3 k_sz_3_1 rfl rfl) ?_
      refine sQ 40 (Y_load1 (B := aD b2) (i := 2) (cs := [vi r_6.Ins, vi r_6.Vars, vi r_6.Root, vi r_6.Phase, .slice B4 r_6.Terms.length c4, .slice B5 r_6.Out.length c5]) (v := vi r_6.Root) k_sc_3 rfl rfl (hS8.cf (i := 4) rfl) rfl) ?_
      refine sQ 41 (Y_sub (k := .i64) (a := r_6.Root) (b := 2) rfl rfl rfl) ?_
      refine sQ 42 (Y_fieldAddr (B := aD b2) (i := 0) (s := 0) k_fd_30_2_2_3 k_sz_3_1 rfl rfl) ?_
      refine s0 (Ys_store (i := 4) (s := 1) (B := aD b2) (T' := 30) (v := vi (i64.wrap (r_6.Root - 2))) (vs := [vi (i64.wrap (r_6.Root - 2))]) (k := 2) (cs' := [vi r_6.Ins, vi r_6.Vars, vi (i64.wrap (r_6.Root - 2)), vi r_6.Phase, .slice B4 r_6.Terms.length c4, .slice B5 r_6.Out.length c5]) hS8 k_sz_3_1 rfl rfl rfl rfl rfl rfl rfl (lB rfl) rfl rfl) ?_
      rintro _ w_16 ⟨rfl, hS22⟩
      refine rw_nil (cw_seq ?_)
      obtain ⟨hsh, hF12⟩ := chk_inv hF12
      obtain ⟨r_8, hc7, hF12⟩ := bind_inv hF12
      obtain ⟨x, hx, hF12⟩ := bind_inv hF12
      refine ra_start (hS22.se [0, 1, 2, 3, 4]).fn (by kernel_rfl) ?_
      have hS24 := hS22.drew
      refine rq 0 43 (v := vi r_7) rfl (hS24.se [0, 1, 2, 3, 4]) (fun w' hw' => (Y_move (v := vi r_7) rfl rfl)) ?_
      refine rq 1 44 (v := pt (aD b) 0) rfl (hS24.se [0, 1, 2, 3, 4]) (fun w' hw' => (Y_fieldAddr (B := aD b) (i := 0) (s := 0) k_fd_30_0_0_3 k_sz_3_1 rfl (hf.get 1 0 rfl))) ?_
      refine rq 2 45 (v := vi p.Ins) rfl (hS24.se [0, 1, 2, 3, 4]) (fun w' hw' => (Y_load1 (B := aD b) (i := 0) (cs := [vi p.Ins, vi p.Vars, vi p.Root, vi p.Phase, .slice B p.Terms.length c, .slice B1 p.Out.length c1]) (v := vi p.Ins) k_sc_3 rfl rfl (ST.cf hw' (i := 0) rfl) rfl)) ?_
      refine rq 3 46 (v := .int .u64 (IntKind.u64.wrap p.Ins)) rfl (hS24.se [0, 1, 2, 3, 4]) (fun w' hw' => (Y_conv (k := .i64) (a := p.Ins) (T := 3) (T' := 59) k_us_3 k_int_59_u64 rfl rfl)) ?_
      refine rq 4 47 (v := vi (shrK .i64 r_7 (IntKind.u64.wrap p.Ins))) rfl (hS24.se [0, 1, 2, 3, 4]) (fun w' hw' => (Y_shr (k := .i64) (a := r_7) (k' := .u64) (b := (IntKind.u64.wrap p.Ins)) rfl rfl rfl hsh)) ?_
      refine rq 8 51 (v := pt (aD b) 0) rfl (hS24.se [0, 1, 2, 3, 4]) (fun w' hw' => (Y_fieldAddr (B := aD b) (i := 0) (s := 0) k_fd_30_0_0_3 k_sz_3_1 rfl (hf.get 1 0 rfl))) ?_
      refine rq 9 52 (v := vi p.Ins) rfl (hS24.se [0, 1, 2, 3, 4]) (fun w' hw' => (Y_load1 (B := aD b) (i := 0) (cs := [vi p.Ins, vi p.Vars, vi p.Root, vi p.Phase, .slice B p.Terms.length c, .slice B1 p.Out.length c1]) (v := vi p.Ins) k_sc_3 rfl rfl (ST.cf hw' (i := 0) rfl) rfl)) ?_
      refine rA [5] ?_
      refine ra_c 48 (i := 5) rfl rfl rfl (Yc_func (g := 35) (vs := [vi (shrK .i64 r_7 (IntKind.u64.wrap p.Ins))]) k_call_35 rfl (mc rfl mn) (c_spec_l1Set (shrK .i64 r_7 (IntKind.u64.wrap p.Ins)) _  (hS24.inn0 [] rfl) hc7)) ?_ ?_
      ·rintro _ w_17 ⟨B13, c13, rfl, hd7⟩
       have hS25 := hS24.out0 hd7
       refine ⟨(hS25.se [0, 1, 2, 3, 4]), ?_⟩
       refine rA [6] ?_
       refine ra_y 49 (i := 6) (v := pt B13 ((0 : Int).toNat * 1)) rfl rfl rfl (Y_index (B := B13) (m := r_8.length) (c := c13) (k := .i64) (i := 0) k_sl_60_3 k_sz_3_1 rfl rfl rfl (gi_isSome encI_len rfl (hS25.cf (i := 5) rfl) hx) (getI_nn hx) (getI_ltI hx rfl)) (hS25.se [0, 1, 2, 3, 4]) ?_ ?_
       ·skip
        refine rA [7] ?_
        refine ra_y 50 (i := 7) (v := vi x) rfl rfl rfl (Y_load1 (B := B13) (i := (0 : Int).toNat * 1) (cs := (r_8.flatMap encI)) (v := vi x) k_sc_3 rfl rfl (hS25.cf (i := 5) rfl) (gi_at0 encI_len hx rfl)) (hS25.se [0, 1, 2, 3, 4]) ?_ ?_
        ·skip
         refine rq 10 53 (v := vi (i64.wrap (x + p.Ins))) rfl (hS25.se [0, 1, 2, 3, 4]) (fun w' hw' => (Y_add (k := .i64) (a := x) (b := p.Ins) rfl rfl rfl)) ?_
         refine rq 11 11 (v := vi (i64.wrap (x + p.Ins))) rfl (hS25.se [0, 1, 2, 3, 4]) (fun w' hw' => (Y_assign (v := vi (i64.wrap (x + p.Ins))) rfl rfl)) ?_
         refine ra_done (by kernel_rfl) ?_
         refine cw_region ?_
         refine sQ 54 (Y_loadA (B := aD b2) (i := 0) (cs := [vi r_6.Ins, vi r_6.Vars, vi (i64.wrap (r_6.Root - 2)), vi r_6.Phase, .slice B4 r_6.Terms.length c4, .slice B5 r_6.Out.length c5]) (vs := [vi r_6.Ins, vi r_6.Vars, vi (i64.wrap (r_6.Root - 2)), vi r_6.Phase, .slice B4 r_6.Terms.length c4, .slice B5 r_6.Out.length c5]) k_ag_30 k_sz_30_6 rfl rfl (hS25.cf (i := 4) rfl) rfl rfl) ?_
         refine sQ 55 (Y_move (v := vi (i64.wrap (x + p.Ins))) rfl rfl) ?_
         refine sQ 56 (Y_move (v := vi r_7) rfl rfl) ?_
         refine sQ 57 (Y_move (v := vi (i64.wrap (x + p.Ins))) rfl rfl) ?_
         refine sQ 58 (Y_conv (k := .i64) (a := (i64.wrap (x + p.Ins))) (T := 3) (T' := 59) k_us_3 k_int_59_u64 rfl rfl) ?_
         obtain ⟨hsh1, hF12⟩ := chk_inv hF12
         refine sQ 59 (Y_shl (k := .i64) (a := 1) (k' := .u64) (b := (IntKind.u64.wrap (i64.wrap (x + p.Ins)))) rfl rfl rfl hsh1) ?_
         refine sQ 60 (Y_bxor (k := .i64) (a := r_7) (b := (shlK .i64 1 (IntKind.u64.wrap (i64.wrap (x + p.Ins))))) rfl rfl rfl) ?_
         refine sQ 61 (Y_move (v := vi r_4) rfl rfl) ?_
         refine sQ 62 (Y_quo (k := .i64) (a := r_4) (b := 4) rfl rfl rfl (by decide)) ?_
         refine sQ 63 (Y_buildS (zs := [vi 0, vi 0]) (vs := [(0, vi (bits .xor .i64 r_7 (shlK .i64 1 (IntKind.u64.wrap (i64.wrap (x + p.Ins)))))), (1, vi (i64.wrap (Int.tdiv r_4 4)))]) (cs := [vi (bits .xor .i64 r_7 (shlK .i64 1 (IntKind.u64.wrap (i64.wrap (x + p.Ins))))), vi (i64.wrap (Int.tdiv r_4 4))]) k_pl_44 k_zero_44 rfl (mpc rfl (mpc rfl mpn)) rfl) ?_
         obtain ⟨r_9, hc8, hF12⟩ := bind_inv hF12
         refine sc 64 rfl rfl (Yc_func (g := 41) (vs := [.agg #[vi r_6.Ins, vi r_6.Vars, vi (i64.wrap (r_6.Root - 2)), vi r_6.Phase, .slice B4 r_6.Terms.length c4, .slice B5 r_6.Out.length c5], vi (i64.wrap (x + p.Ins)), .agg #[vi (bits .xor .i64 r_7 (shlK .i64 1 (IntKind.u64.wrap (i64.wrap (x + p.Ins))))), vi (i64.wrap (Int.tdiv r_4 4))]]) k_call_41 rfl (mc rfl (mc rfl (mc rfl mn))) (c_spec_l21Replace (TPathSum.mk r_6.Ins r_6.Vars (i64.wrap (r_6.Root - 2)) r_6.Phase r_6.Terms r_6.Out) (i64.wrap (x + p.Ins)) (TAffine.mk (bits .xor .i64 r_7 (shlK .i64 1 (IntKind.u64.wrap (i64.wrap (x + p.Ins))))) (i64.wrap (Int.tdiv r_4 4))) B4 c4 r_6.Terms.length B5 c5 r_6.Out.length _ rfl rfl (hS25.inn0 [(false, 2), (false, 3)] rfl) hc8)) ?_
         rintro _ w_18 ⟨B14, c14, B15, c15, rfl, hd8⟩
         have hS26 := hS25.out0 hd8
         refine s0 (Ys_store (i := 4) (s := 6) (B := aD b2) (T' := 30) (v := .agg #[vi r_9.Ins, vi r_9.Vars, vi r_9.Root, vi r_9.Phase, .slice B14 r_9.Terms.length c14, .slice B15 r_9.Out.length c15]) (vs := [vi r_9.Ins, vi r_9.Vars, vi r_9.Root, vi r_9.Phase, .slice B14 r_9.Terms.length c14, .slice B15 r_9.Out.length c15]) (k := 0) (cs' := [vi r_9.Ins, vi r_9.Vars, vi r_9.Root, vi r_9.Phase, .slice B14 r_9.Terms.length c14, .slice B15 r_9.Out.length c15]) hS26 k_sz_30_6 rfl rfl rfl rfl rfl rfl rfl (lB rfl) rfl rfl) ?_
         rintro _ w_19 ⟨rfl, hS27⟩
         refine rw_nil ?_
         exact ⟨r_9.Ins, r_9.Vars, r_9.Root, r_9.Phase, r_9.Terms, r_9.Out, B14, c14, B15, c15, (some_inj hF12), (FF.cons (hf.get 2 1 rfl) (FF.cons rfl (FF.cons rfl FF.nil))), (hS27.sel [1, 4, 6, 7] rfl rfl)⟩
        exact allR_nil
       exact allR_nil
      exact allR_nil
   rintro f w ⟨Ins, Vars, Root, Phase, Terms, Out, B6, c6, B7, c7, rfl, hf1, hS9⟩
   refine cw_seq (cw_region ?_)
   refine sQ 107 (Y_loadA (B := aD b2) (i := 0) (cs := [vi Ins, vi Vars, vi Root, vi Phase, .slice B6 Terms.length c6, .slice B7 Out.length c7]) (vs := [vi Ins, vi Vars, vi Root, vi Phase, .slice B6 Terms.length c6, .slice B7 Out.length c7]) k_ag_30 k_sz_30_6 rfl (hf1.get 9 2 rfl) (hS9.cf (i := 1) rfl) rfl rfl) ?_
   refine sQ 108 (Y_move (v := vi r_3) rfl (hf1.get 6 1 rfl)) ?_
   refine s0 (Ys_store (i := 0) (s := 6) (B := aD b1) (T' := 30) (v := .agg #[vi Ins, vi Vars, vi Root, vi Phase, .slice B6 Terms.length c6, .slice B7 Out.length c7]) (vs := [vi Ins, vi Vars, vi Root, vi Phase, .slice B6 Terms.length c6, .slice B7 Out.length c7]) (k := 0) (cs' := [vi Ins, vi Vars, vi Root, vi Phase, .slice B6 Terms.length c6, .slice B7 Out.length c7]) hS9 k_sz_30_6 rfl (hf1.get 2 0 rfl) rfl rfl rfl rfl rfl (lB rfl) rfl rfl) ?_
   rintro _ w_20 ⟨rfl, hS28⟩
   refine sQ 3 (Y_assign (v := vi r_3) rfl rfl) ?_
   refine sQ 4 (Y_assign (v := .bool true) rfl rfl) (rw_nil (cw_ret ?_))
   obtain rfl := some_inj hF5
   obtain rfl := some_inj hL1
   obtain ⟨rfl, rfl, rfl⟩ := pr3 (some_inj hF1)
   exact ret3 Tryd.results17 (v1 := .agg #[vi Ins, vi Vars, vi Root, vi Phase, .slice B6 Terms.length c6, .slice B7 Out.length c7]) (resAt_cellA (B := aD b1) (i := 0) (cs := [vi Ins, vi Vars, vi Root, vi Phase, .slice B6 Terms.length c6, .slice B7 Out.length c7]) (vs := [vi Ins, vi Vars, vi Root, vi Phase, .slice B6 Terms.length c6, .slice B7 Out.length c7]) (hf1.get 2 0 rfl) k_ag_30 k_sz_30_6 (hS28.cf (i := 0) rfl) rfl rfl) (v2 := vi r_3) (resAt_tmp rfl) (v3 := .bool true) (resAt_tmp rfl) ⟨B6, c6, B7, c7, rfl, (hS28.sN [2, 3])⟩
 ·skip
  have hF13 := cf' hb hb1
  refine cw_exit rfl ?_
  obtain rfl := some_inj hF13
  obtain rfl := some_inj hL1
  refine cw_seq (cw_region ?_)
  refine sQ 109 (Y_buildS (zs := [vi 0, vi 0, vi 0, vi 0, .slice none 0 0, .slice none 0 0]) (vs := []) (cs := [vi 0, vi 0, vi 0, vi 0, .slice none 0 0, .slice none 0 0]) k_pl_30 k_zero_30 rfl mpn rfl) ?_
  refine s0 (Ys_store (i := 1) (s := 6) (B := aD b1) (T' := 30) (v := .agg #[vi 0, vi 0, vi 0, vi 0, .slice none 0 0, .slice none 0 0]) (vs := [vi 0, vi 0, vi 0, vi 0, .slice none 0 0, .slice none 0 0]) (k := 0) (cs' := [vi 0, vi 0, vi 0, vi 0, .slice none 0 0, .slice none 0 0]) hS3 k_sz_30_6 rfl (hf.get 2 1 rfl) rfl rfl rfl rfl rfl (lB rfl) rfl rfl) ?_
  rintro _ w_21 ⟨rfl, hS29⟩
  refine sQ 3 (Y_assign (v := vi 0) rfl rfl) ?_
  refine sQ 4 (Y_assign (v := .bool false) rfl rfl) (rw_nil (cw_ret ?_))
  have hS30 := hS29.addNil 56
  have hS31 := hS30.addNil 44
  obtain ⟨rfl, rfl, rfl⟩ := pr3 (some_inj hF1)
  exact ret3 Tryd.results17 (v1 := .agg #[vi 0, vi 0, vi 0, vi 0, .slice none 0 0, .slice none 0 0]) (resAt_cellA (B := aD b1) (i := 0) (cs := [vi 0, vi 0, vi 0, vi 0, .slice none 0 0, .slice none 0 0]) (vs := [vi 0, vi 0, vi 0, vi 0, .slice none 0 0, .slice none 0 0]) (hf.get 2 1 rfl) k_ag_30 k_sz_30_6 (hS31.cf (i := 1) rfl) rfl rfl) (v2 := vi 0) (resAt_tmp rfl) (v3 := .bool false) (resAt_tmp rfl) ⟨none, 0, none, 0, rfl, (hS31.sN [2, 3])⟩

theorem c_spec_l21Reduce (p : TPathSum) (B : Option Addr) (c n : Nat) (B1 : Option Addr) (c1 n1 : Nat) (w0 : World) (hn : p.Terms.length = n) (hn1 : p.Out.length = n1) (hS : ST w0 (bl [⟨B, 56, (p.Terms.flatMap eN0), c * 2⟩, ⟨B1, 44, (p.Out.flatMap eN1), c1 * 2⟩]) w0 [⟨B, 56, (p.Terms.flatMap eN0), c * 2⟩, ⟨B1, 44, (p.Out.flatMap eN1), c1 * 2⟩] []) {r_ : TPathSum} {r_1 : Int} (hF : F_spec_l21Reduce p = some (r_, r_1)) :
  CV Tryd.prog 30 #[.agg #[vi p.Ins, vi p.Vars, vi p.Root, vi p.Phase, .slice B n c, .slice B1 n1 c1]] w0 (fun v w' => ∃ (B2 : Option Addr) (c2 : Nat) (B3 : Option Addr) (c3 : Nat), v = .tuple #[.agg #[vi r_.Ins, vi r_.Vars, vi r_.Root, vi r_.Phase, .slice B2 r_.Terms.length c2, .slice B3 r_.Out.length c3], vi r_1] ∧ ST w0 (bl [⟨B, 56, (p.Terms.flatMap eN0), c * 2⟩, ⟨B1, 44, (p.Out.flatMap eN1), c1 * 2⟩]) w' [⟨B2, 56, (r_.Terms.flatMap eN0), c2 * 2⟩, ⟨B3, 44, (r_.Out.flatMap eN1), c3 * 2⟩] []) := by
 subst hn
 subst hn1
 unfold F_spec_l21Reduce at hF
 refine cv_of_cw 26 Tryd.func30 rfl Tryd.ntmps30 rfl ?_
 refine cw_seq (cw_region ?_)
 refine sS 1 (Ys_box (T := 30) (v := .agg #[vi p.Ins, vi p.Vars, vi p.Root, vi p.Phase, .slice B p.Terms.length c, .slice B1 p.Out.length c1]) (cs := [vi p.Ins, vi p.Vars, vi p.Root, vi p.Phase, .slice B p.Terms.length c, .slice B1 p.Out.length c1]) (m := 6) hS rfl rfl rfl rfl) ?_
 rintro _ w_ ⟨b, rfl, hS1⟩
 refine sS 2 (Ys_alloc (T := 30) (cs := [vi 0, vi 0, vi 0, vi 0, .slice none 0 0, .slice none 0 0]) (m := 6) hS1 k_zero_30 rfl rfl rfl) ?_
 rintro _ w_1 ⟨b1, rfl, hS2⟩
 refine sQ 3 (Y_assign (v := vi 0) rfl rfl) (rw_nil (cw_seq (cw_region ?_)))
 refine sQ 4 (Y_assign (v := vi 0) rfl rfl) (rw_nil ?_)
 obtain ⟨z, hz, hF1⟩ := bind_inv hF
 refine cw_mid (fun f w => False) ?_ ?_
 ·skip
  refine cw_block ?_
  refine cw_loop (fun k f w => ∃ (Ins : Int) (Vars : Int) (Root : Int) (Phase : Int) (Terms : List TTerm) (Out : List TAffine) (n2 : Int) (B4 : Option Addr) (c4 : Nat) (B5 : Option Addr) (c5 : Nat), FF f [(1, pt (aD b) 0), (2, pt (aD b1) 0), (4, vi n2)] ∧ ST w0 (bl [⟨B, 56, (p.Terms.flatMap eN0), c * 2⟩, ⟨B1, 44, (p.Out.flatMap eN1), c1 * 2⟩]) w [⟨aD b, 30, [vi Ins, vi Vars, vi Root, vi Phase, .slice B4 Terms.length c4, .slice B5 Out.length c5], 6⟩, ⟨B4, 56, (Terms.flatMap eN0), c4 * 2⟩, ⟨B5, 44, (Out.flatMap eN1), c5 * 2⟩, ⟨aD b1, 30, [vi 0, vi 0, vi 0, vi 0, .slice none 0 0, .slice none 0 0], 6⟩] [] ∧ whX F_spec_l21Reduce_l1 k (Ins, Vars, Root, Phase, Terms, Out, n2) = some z) fuel ⟨p.Ins, p.Vars, p.Root, p.Phase, p.Terms, p.Out, 0, B, c, B1, c1, (FF.cons rfl (FF.cons rfl (FF.cons rfl FF.nil))), (hS2.sel [2, 0, 1, 3] rfl rfl), hz⟩ ?_
  rintro k_ f w ⟨Ins, Vars, Root, Phase, Terms, Out, n2, B4, c4, B5, c5, hf, hS3, hL⟩
  obtain ⟨k_1, y, rfl, hb, hL1⟩ := whX_go hL
  unfold F_spec_l21Reduce_l1 at hb
  refine cw_block (cw_seq (cw_region ?_))
  refine sQ 9 (Y_loadA (B := aD b) (i := 0) (cs := [vi Ins, vi Vars, vi Root, vi Phase, .slice B4 Terms.length c4, .slice B5 Out.length c5]) (vs := [vi Ins, vi Vars, vi Root, vi Phase, .slice B4 Terms.length c4, .slice B5 Out.length c5]) k_ag_30 k_sz_30_6 rfl (hf.get 1 0 rfl) (hS3.cf (i := 0) rfl) rfl rfl) ?_
  obtain ⟨⟨r_2, r_3, r_4⟩, hc, hb⟩ := bind_inv hb
  refine sc 10 rfl rfl (Yc_func (g := 17) (vs := [.agg #[vi Ins, vi Vars, vi Root, vi Phase, .slice B4 Terms.length c4, .slice B5 Out.length c5]]) k_call_17 rfl (mc rfl mn) (c_spec_l21Step (TPathSum.mk Ins Vars Root Phase Terms Out) B4 c4 Terms.length B5 c5 Out.length _ rfl rfl (hS3.inn0 [(false, 1), (false, 2)] rfl) hc)) ?_
  rintro _ w_2 ⟨B6, c6, B7, c7, rfl, hd⟩
  have hS4 := hS3.out0 hd
  refine sQ 8 (Y_move (v := .tuple #[.agg #[vi r_2.Ins, vi r_2.Vars, vi r_2.Root, vi r_2.Phase, .slice B6 r_2.Terms.length c6, .slice B7 r_2.Out.length c7], vi r_3, .bool r_4]) rfl rfl) ?_
  refine sQ 11 (Y_extract (v := .agg #[vi r_2.Ins, vi r_2.Vars, vi r_2.Root, vi r_2.Phase, .slice B6 r_2.Terms.length c6, .slice B7 r_2.Out.length c7]) rfl rfl rfl) ?_
  refine sQ 12 (Y_extract (v := vi r_3) rfl rfl rfl) ?_
  refine sQ 13 (Y_extract (v := .bool r_4) rfl rfl rfl) ?_
  refine sS 5 (Ys_alloc (T := 30) (cs := [vi 0, vi 0, vi 0, vi 0, .slice none 0 0, .slice none 0 0]) (m := 6) hS4 k_zero_30 rfl rfl rfl) ?_
  rintro _ w_3 ⟨b2, rfl, hS5⟩
  refine s0 (Ys_store (i := 6) (s := 6) (B := aD b2) (T' := 30) (v := .agg #[vi r_2.Ins, vi r_2.Vars, vi r_2.Root, vi r_2.Phase, .slice B6 r_2.Terms.length c6, .slice B7 r_2.Out.length c7]) (vs := [vi r_2.Ins, vi r_2.Vars, vi r_2.Root, vi r_2.Phase, .slice B6 r_2.Terms.length c6, .slice B7 r_2.Out.length c7]) (k := 0) (cs' := [vi r_2.Ins, vi r_2.Vars, vi r_2.Root, vi r_2.Phase, .slice B6 r_2.Terms.length c6, .slice B7 r_2.Out.length c7]) hS5 k_sz_30_6 rfl rfl rfl rfl rfl rfl rfl (lB rfl) rfl rfl) ?_
  rintro _ w_4 ⟨rfl, hS6⟩
  refine sQ 6 (Y_assign (v := vi r_3) rfl rfl) ?_
  refine sQ 7 (Y_assign (v := .bool r_4) rfl rfl) (rw_nil (cw_seq (cw_seq (cw_region ?_))))
  refine sQ 14 (Y_move (v := .bool r_4) rfl rfl) ?_
  refine sQ 15 (Y_not (p := r_4) rfl rfl) ?_
  refine sQ 16 (Y_move (v := .bool (!r_4)) rfl rfl) ?_
  refine sgq 17 (B := (!(!r_4))) (v := .agg #[vi r_2.Ins, vi r_2.Vars, vi r_2.Root, vi r_2.Phase, .slice B6 r_2.Terms.length c6, .slice B7 r_2.Out.length c7]) rfl rfl (uF_ 16) (fun hg => (Y_loadA (B := aD b2) (i := 0) (cs := [vi r_2.Ins, vi r_2.Vars, vi r_2.Root, vi r_2.Phase, .slice B6 r_2.Terms.length c6, .slice B7 r_2.Out.length c7]) (vs := [vi r_2.Ins, vi r_2.Vars, vi r_2.Root, vi r_2.Phase, .slice B6 r_2.Terms.length c6, .slice B7 r_2.Out.length c7]) k_ag_30 k_sz_30_6 rfl rfl (hS6.cf (i := 6) rfl) rfl rfl)) ?_
  obtain ⟨r_5, hc1, hb⟩ := bind_inv hb
  refine sgc 18 (B := (!(!r_4))) (v := .bool r_5) (F := hS6.fn) rfl rfl (uF_ 16) hS6 (fun hg1 => (Yc_func (g := 16) (vs := [.agg #[vi r_2.Ins, vi r_2.Vars, vi r_2.Root, vi r_2.Phase, .slice B6 r_2.Terms.length c6, .slice B7 r_2.Out.length c7]]) k_call_16 rfl (mc (gv_of (v := .agg #[vi r_2.Ins, vi r_2.Vars, vi r_2.Root, vi r_2.Phase, .slice B6 r_2.Terms.length c6, .slice B7 r_2.Out.length c7]) hg1) mn) (CV.mono (c_spec_l21Valid r_2 B6 c6 r_2.Terms.length B7 c7 r_2.Out.length _ rfl rfl (hS6.inn0 [(false, 4), (false, 5)] rfl) (gb_inv hc1 hg1)) (by rintro _ _ ⟨rfl, h⟩; exact ⟨rfl, hS6.out00 h⟩)))) ?_
  rintro w_5 hS7
  refine sgq 19 (B := (!(!r_4))) (v := .bool (!r_5)) rfl rfl (uF_ 16) (fun hg2 => (Y_not (p := r_5) rfl (gv_of (v := .bool r_5) hg2))) ?_
  refine sQ 20 (Y_or (b := (!r_4)) (z := (!r_5)) rfl rfl rfl rfl) (rw_nil ?_)
  refine cw_cond (b := ((!r_4) || (!r_5))) rfl (fun hb1 => ?_) (fun hb1 => ?_)
  ·skip
   have hF2 := ct hb hb1
   refine cw_seq (cw_region ?_)
   refine sQ 21 (Y_loadA (B := aD b) (i := 0) (cs := [vi Ins, vi Vars, vi Root, vi Phase, .slice B4 Terms.length c4, .slice B5 Out.length c5]) (vs := [vi Ins, vi Vars, vi Root, vi Phase, .slice B4 Terms.length c4, .slice B5 Out.length c5]) k_ag_30 k_sz_30_6 rfl (hf.get 1 0 rfl) (hS7.cf (i := 0) rfl) rfl rfl) ?_
   refine sQ 22 (Y_move (v := vi n2) rfl (hf.get 4 2 rfl)) ?_
   refine s0 (Ys_store (i := 3) (s := 6) (B := aD b1) (T' := 30) (v := .agg #[vi Ins, vi Vars, vi Root, vi Phase, .slice B4 Terms.length c4, .slice B5 Out.length c5]) (vs := [vi Ins, vi Vars, vi Root, vi Phase, .slice B4 Terms.length c4, .slice B5 Out.length c5]) (k := 0) (cs' := [vi Ins, vi Vars, vi Root, vi Phase, .slice B4 Terms.length c4, .slice B5 Out.length c5]) hS7 k_sz_30_6 rfl (hf.get 2 1 rfl) rfl rfl rfl rfl rfl (lB rfl) rfl rfl) ?_
   rintro _ w_6 ⟨rfl, hS8⟩
   refine sQ 3 (Y_assign (v := vi n2) rfl rfl) (rw_nil (cw_ret ?_))
   obtain rfl := some_inj hF2
   obtain rfl := some_inj hL1
   obtain ⟨rfl, rfl⟩ := pr2 (some_inj hF1)
   exact ret2 Tryd.results30 (v1 := .agg #[vi Ins, vi Vars, vi Root, vi Phase, .slice B4 Terms.length c4, .slice B5 Out.length c5]) (resAt_cellA (B := aD b1) (i := 0) (cs := [vi Ins, vi Vars, vi Root, vi Phase, .slice B4 Terms.length c4, .slice B5 Out.length c5]) (vs := [vi Ins, vi Vars, vi Root, vi Phase, .slice B4 Terms.length c4, .slice B5 Out.length c5]) (hf.get 2 1 rfl) k_ag_30 k_sz_30_6 (hS8.cf (i := 3) rfl) rfl rfl) (v2 := vi n2) (resAt_tmp rfl) ⟨B4, c4, B5, c5, rfl, (hS8.sN [1, 2])⟩
  ·skip
   have hF3 := cf' hb hb1
   refine cw_skip (cw_seq (cw_region ?_))
   refine sQ 23 (Y_loadA (B := aD b2) (i := 0) (cs := [vi r_2.Ins, vi r_2.Vars, vi r_2.Root, vi r_2.Phase, .slice B6 r_2.Terms.length c6, .slice B7 r_2.Out.length c7]) (vs := [vi r_2.Ins, vi r_2.Vars, vi r_2.Root, vi r_2.Phase, .slice B6 r_2.Terms.length c6, .slice B7 r_2.Out.length c7]) k_ag_30 k_sz_30_6 rfl rfl (hS7.cf (i := 6) rfl) rfl rfl) ?_
   refine s0 (Ys_store (i := 0) (s := 6) (B := aD b) (T' := 30) (v := .agg #[vi r_2.Ins, vi r_2.Vars, vi r_2.Root, vi r_2.Phase, .slice B6 r_2.Terms.length c6, .slice B7 r_2.Out.length c7]) (vs := [vi r_2.Ins, vi r_2.Vars, vi r_2.Root, vi r_2.Phase, .slice B6 r_2.Terms.length c6, .slice B7 r_2.Out.length c7]) (k := 0) (cs' := [vi r_2.Ins, vi r_2.Vars, vi r_2.Root, vi r_2.Phase, .slice B6 r_2.Terms.length c6, .slice B7 r_2.Out.length c7]) hS7 k_sz_30_6 rfl (hf.get 1 0 rfl) rfl rfl rfl rfl rfl (lB rfl) rfl rfl) ?_
   rintro _ w_7 ⟨rfl, hS9⟩
   refine rw_nil (cw_region ?_)
   refine sQ 24 (Y_move (v := vi n2) rfl (hf.get 4 2 rfl)) ?_
   refine sQ 25 (Y_add (k := .i64) (a := n2) (b := 1) rfl rfl rfl) ?_
   refine sQ 4 (Y_assign (v := vi (i64.wrap (n2 + 1))) rfl rfl) (rw_nil ?_)
   obtain rfl := some_inj hF3
   exact ⟨k_1, Nat.lt_succ_self _, r_2.Ins, r_2.Vars, r_2.Root, r_2.Phase, r_2.Terms, r_2.Out, (i64.wrap (n2 + 1)), B6, c6, B7, c7, (FF.cons (hf.get 1 0 rfl) (FF.cons (hf.get 2 1 rfl) (FF.cons rfl FF.nil))), (hS9.sel [0, 4, 5, 3] rfl rfl), hL1⟩
 rintro _ _ h
 exact h.elim

theorem c_spec_l21Own (p : TPathSum) (B : Option Addr) (c n : Nat) (B1 : Option Addr) (c1 n1 : Nat) (w0 : World) (hn : p.Terms.length = n) (hn1 : p.Out.length = n1) (hS : ST w0 [] w0 [] [⟨B, (p.Terms.flatMap eN0)⟩, ⟨B1, (p.Out.flatMap eN1)⟩]) {r_ : TPathSum} (hF : F_spec_l21Own p = some r_) :
  CV Tryd.prog 31 #[.agg #[vi p.Ins, vi p.Vars, vi p.Root, vi p.Phase, .slice B n c, .slice B1 n1 c1]] w0 (fun v w' => ∃ (B2 : Option Addr) (c2 : Nat) (B3 : Option Addr) (c3 : Nat), v = .agg #[vi r_.Ins, vi r_.Vars, vi r_.Root, vi r_.Phase, .slice B2 r_.Terms.length c2, .slice B3 r_.Out.length c3] ∧ ST w0 [] w' [⟨B2, 56, (r_.Terms.flatMap eN0), c2 * 2⟩, ⟨B3, 44, (r_.Out.flatMap eN1), c3 * 2⟩] []) := by
 subst hn
 subst hn1
 unfold F_spec_l21Own at hF
 refine cv_of_cw 14 Tryd.func31 rfl Tryd.ntmps31 rfl ?_
 refine cw_seq (cw_region ?_)
 refine sS 1 (Ys_box (T := 30) (v := .agg #[vi p.Ins, vi p.Vars, vi p.Root, vi p.Phase, .slice B p.Terms.length c, .slice B1 p.Out.length c1]) (cs := [vi p.Ins, vi p.Vars, vi p.Root, vi p.Phase, .slice B p.Terms.length c, .slice B1 p.Out.length c1]) (m := 6) hS rfl rfl rfl rfl) ?_
 rintro _ w_ ⟨b, rfl, hS1⟩
 refine sS 2 (Ys_alloc (T := 30) (cs := [vi 0, vi 0, vi 0, vi 0, .slice none 0 0, .slice none 0 0]) (m := 6) hS1 k_zero_30 rfl rfl rfl) ?_
 rintro _ w_1 ⟨b1, rfl, hS2⟩
 refine rw_nil (cw_seq (cw_region ?_))
 refine sS 3 (Ys_bslice0 (s := 2) (e := 56) hS2 k_sl_27_56 k_sz_56_2 rfl) ?_
 rintro _ w_2 ⟨b2, rfl, hS3⟩
 refine sQ 4 (Y_fieldAddr (B := aD b) (i := 0) (s := 0) k_fd_30_4_4_27 k_sz_27_1 rfl rfl) ?_
 refine sQ 5 (Y_load1 (B := aD b) (i := 4) (cs := [vi p.Ins, vi p.Vars, vi p.Root, vi p.Phase, .slice B p.Terms.length c, .slice B1 p.Out.length c1]) (v := .slice B p.Terms.length c) k_sc_27 rfl rfl (hS3.cf (i := 0) rfl) rfl) ?_
 obtain ⟨hap, hF⟩ := chk_inv hF
 refine sS 6 (Ys_append (s := 2) (by' := 16) (i := 2) (nn := 0) (c := 0) (k := p.Terms.length) (len := p.Terms.length) (B := aD b2) (xs := (p.Terms.flatMap eN0)) (cs' := (p.Terms.flatMap eN0)) hS3 k_sl_27_56 k_sz_56_2 k_by_56_16 k_zero_56 rfl (by decide) rfl rfl rfl rfl (fm_lenn (l := []) eN2 rfl) rfl (hS3.rf (i := 0) rfl) (fm_lenn (l := p.Terms) eN2 rfl) (fm_one' (enc := eN0) enc_Term_one p.Terms) (by have := hap; omega) (by have := hap; simp only [maxLen]; omega) rfl (app_len0 (l := p.Terms) rfl)) ?_
 rintro _ w_3 ⟨B4, c4, rfl, hS4⟩
 refine sQ 7 (Y_fieldAddr (B := aD b) (i := 0) (s := 0) k_fd_30_4_4_27 k_sz_27_1 rfl rfl) ?_
 refine s0 (Ys_store (i := 0) (s := 1) (B := aD b) (T' := 30) (v := .slice B4 p.Terms.length c4) (vs := [.slice B4 p.Terms.length c4]) (k := 4) (cs' := [vi p.Ins, vi p.Vars, vi p.Root, vi p.Phase, .slice B4 p.Terms.length c4, .slice B1 p.Out.length c1]) hS4 k_sz_27_1 rfl rfl rfl rfl rfl rfl rfl (lB rfl) rfl rfl) ?_
 rintro _ w_4 ⟨rfl, hS5⟩
 refine rw_nil (cw_seq (cw_region ?_))
 refine sS 8 (Ys_bslice0 (s := 2) (e := 44) hS5 k_sl_28_44 k_sz_44_2 rfl) ?_
 rintro _ w_5 ⟨b3, rfl, hS6⟩
 refine sQ 9 (Y_fieldAddr (B := aD b) (i := 0) (s := 0) k_fd_30_5_5_28 k_sz_28_1 rfl rfl) ?_
 refine sQ 10 (Y_load1 (B := aD b) (i := 5) (cs := [vi p.Ins, vi p.Vars, vi p.Root, vi p.Phase, .slice B4 p.Terms.length c4, .slice B1 p.Out.length c1]) (v := .slice B1 p.Out.length c1) k_sc_28 rfl rfl (hS6.cf (i := 0) rfl) rfl) ?_
 obtain ⟨hap1, hF⟩ := chk_inv hF
 refine sS 11 (Ys_append (s := 2) (by' := 16) (i := 3) (nn := 0) (c := 0) (k := p.Out.length) (len := p.Out.length) (B := aD b3) (xs := (p.Out.flatMap eN1)) (cs' := (p.Out.flatMap eN1)) hS6 k_sl_28_44 k_sz_44_2 k_by_44_16 k_zero_44 rfl (by decide) rfl rfl rfl rfl (fm_lenn (l := []) enc_Affine_len rfl) rfl (hS6.rf (i := 1) rfl) (fm_lenn (l := p.Out) enc_Affine_len rfl) (fm_one' (enc := eN1) enc_Affine_one p.Out) (by have := hap1; omega) (by have := hap1; simp only [maxLen]; omega) rfl (app_len0 (l := p.Out) rfl)) ?_
 rintro _ w_6 ⟨B5, c5, rfl, hS7⟩
 refine sQ 12 (Y_fieldAddr (B := aD b) (i := 0) (s := 0) k_fd_30_5_5_28 k_sz_28_1 rfl rfl) ?_
 refine s0 (Ys_store (i := 0) (s := 1) (B := aD b) (T' := 30) (v := .slice B5 p.Out.length c5) (vs := [.slice B5 p.Out.length c5]) (k := 5) (cs' := [vi p.Ins, vi p.Vars, vi p.Root, vi p.Phase, .slice B4 p.Terms.length c4, .slice B5 p.Out.length c5]) hS7 k_sz_28_1 rfl rfl rfl rfl rfl rfl rfl (lB rfl) rfl rfl) ?_
 rintro _ w_7 ⟨rfl, hS8⟩
 refine rw_nil (cw_seq (cw_region ?_))
 refine sQ 13 (Y_loadA (B := aD b) (i := 0) (cs := [vi p.Ins, vi p.Vars, vi p.Root, vi p.Phase, .slice B4 p.Terms.length c4, .slice B5 p.Out.length c5]) (vs := [vi p.Ins, vi p.Vars, vi p.Root, vi p.Phase, .slice B4 p.Terms.length c4, .slice B5 p.Out.length c5]) k_ag_30 k_sz_30_6 rfl rfl (hS8.cf (i := 0) rfl) rfl rfl) ?_
 refine s0 (Ys_store (i := 1) (s := 6) (B := aD b1) (T' := 30) (v := .agg #[vi p.Ins, vi p.Vars, vi p.Root, vi p.Phase, .slice B4 p.Terms.length c4, .slice B5 p.Out.length c5]) (vs := [vi p.Ins, vi p.Vars, vi p.Root, vi p.Phase, .slice B4 p.Terms.length c4, .slice B5 p.Out.length c5]) (k := 0) (cs' := [vi p.Ins, vi p.Vars, vi p.Root, vi p.Phase, .slice B4 p.Terms.length c4, .slice B5 p.Out.length c5]) hS8 k_sz_30_6 rfl rfl rfl rfl rfl rfl rfl (lB rfl) rfl rfl) ?_
 rintro _ w_8 ⟨rfl, hS9⟩
 refine rw_nil (cw_ret ?_)
 obtain rfl := some_inj hF
 exact ret1 Tryd.results31 (v1 := .agg #[vi p.Ins, vi p.Vars, vi p.Root, vi p.Phase, .slice B4 p.Terms.length c4, .slice B5 p.Out.length c5]) (resAt_cellA (B := aD b1) (i := 0) (cs := [vi p.Ins, vi p.Vars, vi p.Root, vi p.Phase, .slice B4 p.Terms.length c4, .slice B5 p.Out.length c5]) (vs := [vi p.Ins, vi p.Vars, vi p.Root, vi p.Phase, .slice B4 p.Terms.length c4, .slice B5 p.Out.length c5]) rfl k_ag_30 k_sz_30_6 (hS9.cf (i := 1) rfl) rfl rfl) ⟨B4, c4, B5, c5, rfl, (hS9.sN [2, 3])⟩

theorem c_spec_ReducePathSum (p : TPathSum) (B : Option Addr) (c n : Nat) (B1 : Option Addr) (c1 n1 : Nat) (w0 : World) (hn : p.Terms.length = n) (hn1 : p.Out.length = n1) (hS : ST w0 (bl [⟨B, 56, (p.Terms.flatMap eN0), c * 2⟩, ⟨B1, 44, (p.Out.flatMap eN1), c1 * 2⟩]) w0 [⟨B, 56, (p.Terms.flatMap eN0), c * 2⟩, ⟨B1, 44, (p.Out.flatMap eN1), c1 * 2⟩] []) {r_ : TPathSum} {r_1 : Int} {r_2 : Bool} (hF : F_spec_ReducePathSum p = some (r_, r_1, r_2)) :
  CV Tryd.prog 12 #[.agg #[vi p.Ins, vi p.Vars, vi p.Root, vi p.Phase, .slice B n c, .slice B1 n1 c1]] w0 (fun v w' => ∃ (B2 : Option Addr) (c2 : Nat) (B3 : Option Addr) (c3 : Nat), v = .tuple #[.agg #[vi r_.Ins, vi r_.Vars, vi r_.Root, vi r_.Phase, .slice B2 r_.Terms.length c2, .slice B3 r_.Out.length c3], vi r_1, .bool r_2] ∧ ST w0 (bl [⟨B, 56, (p.Terms.flatMap eN0), c * 2⟩, ⟨B1, 44, (p.Out.flatMap eN1), c1 * 2⟩]) w' [⟨B2, 56, (r_.Terms.flatMap eN0), c2 * 2⟩, ⟨B3, 44, (r_.Out.flatMap eN1), c3 * 2⟩] []) := by
 subst hn
 subst hn1
 unfold F_spec_ReducePathSum at hF
 refine cv_of_cw 19 Tryd.func12 rfl Tryd.ntmps12 rfl ?_
 refine cw_seq (cw_region ?_)
 refine sS 1 (Ys_box (T := 30) (v := .agg #[vi p.Ins, vi p.Vars, vi p.Root, vi p.Phase, .slice B p.Terms.length c, .slice B1 p.Out.length c1]) (cs := [vi p.Ins, vi p.Vars, vi p.Root, vi p.Phase, .slice B p.Terms.length c, .slice B1 p.Out.length c1]) (m := 6) hS rfl rfl rfl rfl) ?_
 rintro _ w_ ⟨b, rfl, hS1⟩
 refine sS 2 (Ys_alloc (T := 30) (cs := [vi 0, vi 0, vi 0, vi 0, .slice none 0 0, .slice none 0 0]) (m := 6) hS1 k_zero_30 rfl rfl rfl) ?_
 rintro _ w_1 ⟨b1, rfl, hS2⟩
 refine sQ 3 (Y_assign (v := vi 0) rfl rfl) ?_
 refine sQ 4 (Y_assign (v := .bool false) rfl rfl) (rw_nil (cw_seq (cw_seq (cw_region ?_))))
 refine sQ 7 (Y_loadA (B := aD b) (i := 0) (cs := [vi p.Ins, vi p.Vars, vi p.Root, vi p.Phase, .slice B p.Terms.length c, .slice B1 p.Out.length c1]) (vs := [vi p.Ins, vi p.Vars, vi p.Root, vi p.Phase, .slice B p.Terms.length c, .slice B1 p.Out.length c1]) k_ag_30 k_sz_30_6 rfl rfl (hS2.cf (i := 2) rfl) rfl rfl) ?_
 obtain ⟨r_3, hc, hF⟩ := bind_inv hF
 refine sc 8 rfl rfl (Yc_func (g := 16) (vs := [.agg #[vi p.Ins, vi p.Vars, vi p.Root, vi p.Phase, .slice B p.Terms.length c, .slice B1 p.Out.length c1]]) k_call_16 rfl (mc rfl mn) (c_spec_l21Valid p B c p.Terms.length B1 c1 p.Out.length _ rfl rfl (hS2.inn0 [(false, 0), (false, 1)] rfl) hc)) ?_
 rintro _ w_2 ⟨rfl, hd⟩
 have hS3 := hS2.out00 hd
 refine sQ 9 (Y_not (p := r_3) rfl rfl) (rw_nil ?_)
 refine cw_cond (b := (!r_3)) rfl (fun hb => ?_) (fun hb => ?_)
 ·skip
  have hF1 := ct hF hb
  refine cw_seq (cw_region ?_)
  refine sQ 10 (Y_buildS (zs := [vi 0, vi 0, vi 0, vi 0, .slice none 0 0, .slice none 0 0]) (vs := []) (cs := [vi 0, vi 0, vi 0, vi 0, .slice none 0 0, .slice none 0 0]) k_pl_30 k_zero_30 rfl mpn rfl) ?_
  refine s0 (Ys_store (i := 3) (s := 6) (B := aD b1) (T' := 30) (v := .agg #[vi 0, vi 0, vi 0, vi 0, .slice none 0 0, .slice none 0 0]) (vs := [vi 0, vi 0, vi 0, vi 0, .slice none 0 0, .slice none 0 0]) (k := 0) (cs' := [vi 0, vi 0, vi 0, vi 0, .slice none 0 0, .slice none 0 0]) hS3 k_sz_30_6 rfl rfl rfl rfl rfl rfl rfl (lB rfl) rfl rfl) ?_
  rintro _ w_3 ⟨rfl, hS4⟩
  refine sQ 3 (Y_assign (v := vi 0) rfl rfl) ?_
  refine sQ 4 (Y_assign (v := .bool false) rfl rfl) (rw_nil (cw_ret ?_))
  have hS5 := hS4.addNil 56
  have hS6 := hS5.addNil 44
  obtain ⟨rfl, rfl, rfl⟩ := pr3 (some_inj hF1)
  exact ret3 Tryd.results12 (v1 := .agg #[vi 0, vi 0, vi 0, vi 0, .slice none 0 0, .slice none 0 0]) (resAt_cellA (B := aD b1) (i := 0) (cs := [vi 0, vi 0, vi 0, vi 0, .slice none 0 0, .slice none 0 0]) (vs := [vi 0, vi 0, vi 0, vi 0, .slice none 0 0, .slice none 0 0]) rfl k_ag_30 k_sz_30_6 (hS6.cf (i := 3) rfl) rfl rfl) (v2 := vi 0) (resAt_tmp rfl) (v3 := .bool false) (resAt_tmp rfl) ⟨none, 0, none, 0, rfl, (hS6.sN [4, 5])⟩
 ·skip
  have hF2 := cf' hF hb
  refine cw_skip (cw_seq (cw_region ?_))
  refine sQ 12 (Y_loadA (B := aD b) (i := 0) (cs := [vi p.Ins, vi p.Vars, vi p.Root, vi p.Phase, .slice B p.Terms.length c, .slice B1 p.Out.length c1]) (vs := [vi p.Ins, vi p.Vars, vi p.Root, vi p.Phase, .slice B p.Terms.length c, .slice B1 p.Out.length c1]) k_ag_30 k_sz_30_6 rfl rfl (hS3.cf (i := 2) rfl) rfl rfl) ?_
  obtain ⟨⟨r_4, r_5⟩, hc1, hF2⟩ := bind_inv hF2
  refine sc 13 rfl rfl (Yc_func (g := 30) (vs := [.agg #[vi p.Ins, vi p.Vars, vi p.Root, vi p.Phase, .slice B p.Terms.length c, .slice B1 p.Out.length c1]]) k_call_30 rfl (mc rfl mn) (c_spec_l21Reduce p B c p.Terms.length B1 c1 p.Out.length _ rfl rfl (hS3.inn [true, true, false, false] rfl [] rfl) hc1)) ?_
  rintro _ w_4 ⟨B4, c4, B5, c5, rfl, hd1⟩
  have hS7 := hS3.out [true, true, false, false] rfl hd1
  refine sQ 11 (Y_move (v := .tuple #[.agg #[vi r_4.Ins, vi r_4.Vars, vi r_4.Root, vi r_4.Phase, .slice B4 r_4.Terms.length c4, .slice B5 r_4.Out.length c5], vi r_5]) rfl rfl) ?_
  refine sQ 14 (Y_extract (v := .agg #[vi r_4.Ins, vi r_4.Vars, vi r_4.Root, vi r_4.Phase, .slice B4 r_4.Terms.length c4, .slice B5 r_4.Out.length c5]) rfl rfl rfl) ?_
  refine sQ 15 (Y_extract (v := vi r_5) rfl rfl rfl) ?_
  refine sS 5 (Ys_alloc (T := 30) (cs := [vi 0, vi 0, vi 0, vi 0, .slice none 0 0, .slice none 0 0]) (m := 6) hS7 k_zero_30 rfl rfl rfl) ?_
  rintro _ w_5 ⟨b2, rfl, hS8⟩
  refine s0 (Ys_store (i := 4) (s := 6) (B := aD b2) (T' := 30) (v := .agg #[vi r_4.Ins, vi r_4.Vars, vi r_4.Root, vi r_4.Phase, .slice B4 r_4.Terms.length c4, .slice B5 r_4.Out.length c5]) (vs := [vi r_4.Ins, vi r_4.Vars, vi r_4.Root, vi r_4.Phase, .slice B4 r_4.Terms.length c4, .slice B5 r_4.Out.length c5]) (k := 0) (cs' := [vi r_4.Ins, vi r_4.Vars, vi r_4.Root, vi r_4.Phase, .slice B4 r_4.Terms.length c4, .slice B5 r_4.Out.length c5]) hS8 k_sz_30_6 rfl rfl rfl rfl rfl rfl rfl (lB rfl) rfl rfl) ?_
  rintro _ w_6 ⟨rfl, hS9⟩
  refine sQ 6 (Y_assign (v := vi r_5) rfl rfl) (rw_nil (cw_seq (cw_region ?_)))
  refine sQ 16 (Y_loadA (B := aD b2) (i := 0) (cs := [vi r_4.Ins, vi r_4.Vars, vi r_4.Root, vi r_4.Phase, .slice B4 r_4.Terms.length c4, .slice B5 r_4.Out.length c5]) (vs := [vi r_4.Ins, vi r_4.Vars, vi r_4.Root, vi r_4.Phase, .slice B4 r_4.Terms.length c4, .slice B5 r_4.Out.length c5]) k_ag_30 k_sz_30_6 rfl rfl (hS9.cf (i := 4) rfl) rfl rfl) ?_
  obtain ⟨r_6, hc2, hF2⟩ := bind_inv hF2
  refine sc 17 rfl rfl (Yc_func (g := 31) (vs := [.agg #[vi r_4.Ins, vi r_4.Vars, vi r_4.Root, vi r_4.Phase, .slice B4 r_4.Terms.length c4, .slice B5 r_4.Out.length c5]]) k_call_31 rfl (mc rfl mn) (c_spec_l21Own r_4 B4 c4 r_4.Terms.length B5 c5 r_4.Out.length _ rfl rfl (hS9.inn0 [(false, 2), (false, 3)] rfl) hc2)) ?_
  rintro _ w_7 ⟨B6, c6, B7, c7, rfl, hd2⟩
  have hS10 := hS9.out0 hd2
  refine sQ 18 (Y_move (v := vi r_5) rfl rfl) ?_
  refine s0 (Ys_store (i := 1) (s := 6) (B := aD b1) (T' := 30) (v := .agg #[vi r_6.Ins, vi r_6.Vars, vi r_6.Root, vi r_6.Phase, .slice B6 r_6.Terms.length c6, .slice B7 r_6.Out.length c7]) (vs := [vi r_6.Ins, vi r_6.Vars, vi r_6.Root, vi r_6.Phase, .slice B6 r_6.Terms.length c6, .slice B7 r_6.Out.length c7]) (k := 0) (cs' := [vi r_6.Ins, vi r_6.Vars, vi r_6.Root, vi r_6.Phase, .slice B6 r_6.Terms.length c6, .slice B7 r_6.Out.length c7]) hS10 k_sz_30_6 rfl rfl rfl rfl rfl rfl rfl (lB rfl) rfl rfl) ?_
  rintro _ w_8 ⟨rfl, hS11⟩
  refine sQ 3 (Y_assign (v := vi r_5) rfl rfl) ?_
  refine sQ 4 (Y_assign (v := .bool true) rfl rfl) (rw_nil (cw_ret ?_))
  obtain ⟨rfl, rfl, rfl⟩ := pr3 (some_inj hF2)
  exact ret3 Tryd.results12 (v1 := .agg #[vi r_6.Ins, vi r_6.Vars, vi r_6.Root, vi r_6.Phase, .slice B6 r_6.Terms.length c6, .slice B7 r_6.Out.length c7]) (resAt_cellA (B := aD b1) (i := 0) (cs := [vi r_6.Ins, vi r_6.Vars, vi r_6.Root, vi r_6.Phase, .slice B6 r_6.Terms.length c6, .slice B7 r_6.Out.length c7]) (vs := [vi r_6.Ins, vi r_6.Vars, vi r_6.Root, vi r_6.Phase, .slice B6 r_6.Terms.length c6, .slice B7 r_6.Out.length c7]) rfl k_ag_30 k_sz_30_6 (hS11.cf (i := 1) rfl) rfl rfl) (v2 := vi r_5) (resAt_tmp rfl) (v3 := .bool true) (resAt_tmp rfl) ⟨B6, c6, B7, c7, rfl, (hS11.sN [5, 6])⟩

theorem c_slices_IndexFunc_impl_Affine_impl_Affine (s : List TAffine) (f_ : TAffine → Option (Bool)) (B : Option Addr) (c n : Nat) (kf : Nat) (caps : Array Value) (Rf : List Ro) (w0 : World) (hn : s.length = n) (hk : callB Tryd.prog kf = true) (hp : ∀ (w : World), ST w [] w [] Rf → ∀ (x : TAffine) (y : Bool), f_ x = some y → CV Tryd.prog kf ((.agg #[vi x.Mask, vi x.Turn]) :: caps.toList).toArray w (fun v w' => v = .bool y ∧ ST w [] w' [] [])) (hS : ST w0 [] w0 [] (⟨B, (s.flatMap eN1)⟩ :: Rf)) {r_ : Int} (hF : F_slices_IndexFunc_impl_Affine_impl_Affine s f_ = some r_) :
  CV Tryd.prog 48 #[.slice B n c, .func (.func kf) #[] caps] w0 (fun v w' => v = vi r_ ∧ ST w0 [] w' [] []) := by
 subst hn
 unfold F_slices_IndexFunc_impl_Affine_impl_Affine at hF
 refine cv_of_cw 19 Tryd.func48 rfl Tryd.ntmps48 rfl ?_
 refine cw_seq (cw_region ?_)
 refine sQ 4 (Y_assign (v := vi 0) rfl rfl) (rw_nil (cw_seq (cw_seq (cw_region ?_))))
 refine sQ 6 (Y_move (v := .slice B s.length c) rfl rfl) ?_
 refine sQ 7 (Y_len (B := B) (m := s.length) (c := c) k_sl_28_44 rfl rfl) ?_
 refine sQ 8 (Y_move (v := vi 0) rfl rfl) (rw_nil ?_)
 obtain ⟨hN, hF⟩ := chk_inv hF
 obtain ⟨z, hz, hF1⟩ := bind_inv hF
 refine cw_block ?_
 refine cw_loop (fun k f w => ∃ (i : Nat), FF f [(0, .slice B s.length c), (1, .func (.func kf) #[] caps), (7, vi (s.length : Int)), (8, vi (i : Int))] ∧ ST w0 [] w [] (⟨B, (s.flatMap eN1)⟩ :: Rf) ∧ i + k = s.length ∧ forX (F_slices_IndexFunc_impl_Affine_impl_Affine_l1 s f_) k i () = some z) s.length ⟨0, (FF.cons rfl (FF.cons rfl (FF.cons rfl (FF.cons rfl FF.nil)))), (hS.sel [] rfl rfl), Nat.zero_add _, hz⟩ ?_
 rintro k_ f w ⟨i, hf, hS1, hik, hL⟩
 refine cw_seq (cw_region ?_)
 refine sQ 9 (Y_lt (k := .i64) (a := (i : Int)) (b := (s.length : Int)) rfl (hf.get 8 3 rfl) (hf.get 7 2 rfl)) (rw_nil (cw_seq ?_))
 refine cw_cond (b := (decide ((i : Int) < (s.length : Int)))) rfl (fun hlt => ?_) (fun hlt => ?_)
 ·skip
  have hlt1 : i < s.length := by have h := of_decide_eq_true hlt; omega
  obtain ⟨k_1, rfl⟩ : ∃ k2, k_ = k2 + 1 := ⟨k_ - 1, by omega⟩
  obtain ⟨y1, hb, hL1⟩ := forX_go hL
  unfold F_slices_IndexFunc_impl_Affine_impl_Affine_l1 at hb
  refine cw_skip (cw_seq (cw_block (cw_seq (cw_region ?_))))
  refine sQ 10 (Y_move (v := vi (i : Int)) rfl (hf.get 8 3 rfl)) ?_
  refine sQ 5 (Y_assign (v := vi (i : Int)) rfl rfl) (rw_nil (cw_seq (cw_region ?_)))
  refine sQ 11 (Y_move (v := .func (.func kf) #[] caps) rfl (hf.get 1 1 rfl)) ?_
  refine sQ 12 (Y_move (v := .slice B s.length c) rfl (hf.get 0 0 rfl)) ?_
  refine sQ 13 (Y_move (v := vi (i : Int)) rfl rfl) ?_
  obtain ⟨x1, hx, hb⟩ := bind_inv hb
  refine sQ 14 (Y_index (B := B) (m := s.length) (c := c) (k := .i64) (i := (i : Int)) k_sl_28_44 k_sz_44_2 rfl rfl rfl (gi_isSome enc_Affine_len rfl (hS1.rf (i := 0) rfl) hx) (getI_nn hx) (getI_ltI hx rfl)) ?_
  refine sQ 15 (Y_loadA (B := B) (i := (i : Int).toNat * 2) (cs := (s.flatMap eN1)) (vs := [vi x1.Mask, vi x1.Turn]) k_ag_44 k_sz_44_2 rfl rfl (hS1.rf (i := 0) rfl) (enc_Affine_len x1) (gi_seg enc_Affine_len hx)) ?_
  obtain ⟨r_1, hc, hb⟩ := bind_inv hb
  refine sc 16 rfl rfl (Yc_clos (g := kf) (vs := (.agg #[vi x1.Mask, vi x1.Turn]) :: caps.toList) hk rfl rfl (clo_args (mc rfl mn)) (hp _ (hS1.innS (fun _ h => mOd (i := 1) h)) x1 r_1 hc)) ?_
  rintro _ w_ ⟨rfl, hd⟩
  have hS2 := hS1.out00 hd
  refine rw_nil ?_
  refine cw_cond (b := r_1) rfl (fun hb1 => ?_) (fun hb1 => ?_)
  ·skip
   have hF2 := ct hb hb1
   refine cw_seq (cw_region ?_)
   refine sQ 17 (Y_move (v := vi (i : Int)) rfl rfl) ?_
   refine sQ 4 (Y_assign (v := vi (i : Int)) rfl rfl) (rw_nil (cw_ret ?_))
   obtain rfl := some_inj hF2
   obtain rfl := some_inj hL1
   obtain rfl := some_inj hF1
   exact ret1 Tryd.results48 (v1 := vi (i : Int)) (resAt_tmp rfl) ⟨rfl, (hS2.sN [])⟩
  ·skip
   have hF3 := cf' hb hb1
   refine cw_skip (cw_region ?_)
   refine sQ 18 (Y_add (k := .i64) (a := (i : Int)) (b := 1) rfl (hf.get 8 3 rfl) rfl) ?_
   refine sQ 8 (Y_move (v := vi (i64.wrap ((i : Int) + 1))) rfl rfl) (rw_nil ?_)
   obtain rfl := some_inj hF3
   exact ⟨k_1, Nat.lt_succ_self _, i + 1, (FF.cons (hf.get 0 0 rfl) (FF.cons (hf.get 1 1 rfl) (FF.cons (hf.get 7 2 rfl) (FF.cons (congrArg (Value.int .i64) (wr_succ hlt1 hN)) FF.nil)))), (hS2.sel [] rfl rfl), (by omega), hL1⟩
 ·skip
  obtain rfl : k_ = 0 := by have h := of_decide_eq_false hlt; omega
  refine cw_exit rfl ?_
  obtain rfl := some_inj hL
  refine cw_seq (cw_region ?_)
  refine sQ 4 (Y_assign (v := vi (-1)) rfl rfl) (rw_nil (cw_ret ?_))
  obtain rfl := some_inj hF1
  exact ret1 Tryd.results48 (v1 := vi (-1)) (resAt_tmp rfl) ⟨rfl, (hS1.sN [])⟩

theorem c_slices_ContainsFunc_impl_Affine_impl_Affine (s : List TAffine) (f_ : TAffine → Option (Bool)) (B : Option Addr) (c n : Nat) (kf : Nat) (caps : Array Value) (Rf : List Ro) (w0 : World) (hn : s.length = n) (hk : callB Tryd.prog kf = true) (hp : ∀ (w : World), ST w [] w [] Rf → ∀ (x : TAffine) (y : Bool), f_ x = some y → CV Tryd.prog kf ((.agg #[vi x.Mask, vi x.Turn]) :: caps.toList).toArray w (fun v w' => v = .bool y ∧ ST w [] w' [] [])) (hS : ST w0 [] w0 [] (⟨B, (s.flatMap eN1)⟩ :: Rf)) {r_ : Bool} (hF : F_slices_ContainsFunc_impl_Affine_impl_Affine s f_ = some r_) :
  CV Tryd.prog 21 #[.slice B n c, .func (.func kf) #[] caps] w0 (fun v w' => v = .bool r_ ∧ ST w0 [] w' [] []) := by
 subst hn
 unfold F_slices_ContainsFunc_impl_Affine_impl_Affine at hF
 refine cv_of_cw 9 Tryd.func21 rfl Tryd.ntmps21 rfl ?_
 refine cw_seq (cw_region ?_)
 refine sQ 4 (Y_assign (v := .bool false) rfl rfl) (rw_nil (cw_seq (cw_region ?_)))
 refine sQ 5 (Y_move (v := .slice B s.length c) rfl rfl) ?_
 refine sQ 6 (Y_move (v := .func (.func kf) #[] caps) rfl rfl) ?_
 obtain ⟨r_1, hc, hF⟩ := bind_inv hF
 refine sc 7 rfl rfl (Yc_func (g := 48) (vs := [.slice B s.length c, .func (.func kf) #[] caps]) k_call_48 rfl (mc rfl (mc rfl mn)) (c_slices_IndexFunc_impl_Affine_impl_Affine s f_ B c s.length kf caps Rf _ rfl hk hp (hS.innS (subc (mem_at (i := 0) rfl) (fun _ h => mOd (i := 1) h))) hc)) ?_
 rintro _ w_ ⟨rfl, hd⟩
 have hS1 := hS.out00 hd
 refine sQ 8 (Y_ge (k := .i64) (a := r_1) (b := 0) rfl rfl rfl) ?_
 refine sQ 4 (Y_assign (v := .bool (decide (0 ≤ r_1))) rfl rfl) (rw_nil (cw_ret ?_))
 obtain rfl := some_inj hF
 exact ret1 Tryd.results21 (v1 := .bool (decide (0 ≤ r_1))) (resAt_tmp rfl) ⟨rfl, (hS1.sN [])⟩

theorem c_impl_within (n : Int) (low : Int) (high : Int)  (w0 : World)  (hS : ST w0 [] w0 [] []) {r_ : Bool} (hF : F_impl_within n low high = some r_) :
  CV Tryd.prog 44 #[vi n, vi low, vi high] w0 (fun v w' => v = .bool r_ ∧ ST w0 [] w' [] []) := by
 unfold F_impl_within at hF
 refine cv_of_cw 15 Tryd.func44 rfl Tryd.ntmps44 rfl ?_
 refine cw_seq (cw_region ?_)
 refine sQ 6 (Y_assign (v := .bool false) rfl rfl) (rw_nil (cw_seq (cw_region ?_)))
 refine sQ 7 (Y_move (v := vi low) rfl rfl) ?_
 refine sQ 8 (Y_move (v := vi n) rfl rfl) ?_
 refine sQ 9 (Y_le (k := .i64) (a := low) (b := n) rfl rfl rfl) ?_
 refine sQ 10 (Y_move (v := .bool (decide (low ≤ n))) rfl rfl) ?_
 refine sgq 11 (B := (decide (low ≤ n))) (v := vi n) rfl rfl (uT_ 10) (fun hg => (Y_move (v := vi n) rfl rfl)) ?_
 refine sgq 12 (B := (decide (low ≤ n))) (v := vi high) rfl rfl (uT_ 10) (fun hg1 => (Y_move (v := vi high) rfl rfl)) ?_
 refine sgq 13 (B := (decide (low ≤ n))) (v := .bool (decide (n ≤ high))) rfl rfl (uT_ 10) (fun hg2 => (Y_le (k := .i64) (a := n) (b := high) rfl (gv_of (v := vi n) hg2) (gv_of (v := vi high) hg2))) ?_
 refine sQ 14 (Y_and (b := (decide (low ≤ n))) (z := (decide (n ≤ high))) rfl rfl rfl rfl) ?_
 refine sQ 6 (Y_assign (v := .bool ((decide (low ≤ n)) && (decide (n ≤ high)))) rfl rfl) (rw_nil (cw_ret ?_))
 obtain rfl := some_inj hF
 exact ret1 Tryd.results44 (v1 := .bool ((decide (low ≤ n)) && (decide (n ≤ high)))) (resAt_tmp rfl) ⟨rfl, (hS.sN [])⟩

theorem c_math_bits_OnesCount64 (x : Int)  (w0 : World)  (hS : ST w0 [] w0 [] []) {r_ : Int} (hF : F_math_bits_OnesCount64 x = some r_) :
  CV Tryd.prog 65 #[.int .u64 x] w0 (fun v w' => v = vi r_ ∧ ST w0 [] w' [] []) := by
 unfold F_math_bits_OnesCount64 at hF
 refine cv_of_cw 35 Tryd.func65 rfl Tryd.ntmps65 rfl ?_
 refine cw_seq (cw_region ?_)
 refine sQ 2 (Y_assign (v := vi 0) rfl rfl) (rw_nil (cw_seq (cw_region ?_)))
 refine sQ 3 (Y_move (v := .int .u64 x) rfl rfl) ?_
 refine sQ 4 (Y_shr (k := .u64) (a := x) (k' := .u64) (b := 1) rfl rfl rfl (by decide)) ?_
 refine sQ 5 (Y_band (k := .u64) (a := (shrK .u64 x 1)) (b := 6148914691236517205) rfl rfl rfl) ?_
 refine sQ 6 (Y_move (v := .int .u64 x) rfl rfl) ?_
 refine sQ 7 (Y_band (k := .u64) (a := x) (b := 6148914691236517205) rfl rfl rfl) ?_
 refine sQ 8 (Y_add (k := .u64) (a := (bits .and .u64 (shrK .u64 x 1) 6148914691236517205)) (b := (bits .and .u64 x 6148914691236517205)) rfl rfl rfl) ?_
 refine sQ 0 (Y_assign (v := .int .u64 (IntKind.u64.wrap ((bits .and .u64 (shrK .u64 x 1) 6148914691236517205) + (bits .and .u64 x 6148914691236517205)))) rfl rfl) (rw_nil (cw_seq (cw_region ?_)))
 refine sQ 9 (Y_move (v := .int .u64 (IntKind.u64.wrap ((bits .and .u64 (shrK .u64 x 1) 6148914691236517205) + (bits .and .u64 x 6148914691236517205)))) rfl rfl) ?_
 refine sQ 10 (Y_shr (k := .u64) (a := (IntKind.u64.wrap ((bits .and .u64 (shrK .u64 x 1) 6148914691236517205) + (bits .and .u64 x 6148914691236517205)))) (k' := .u64) (b := 2) rfl rfl rfl (by decide)) ?_
 refine sQ 11 (Y_band (k := .u64) (a := (shrK .u64 (IntKind.u64.wrap ((bits .and .u64 (shrK .u64 x 1) 6148914691236517205) + (bits .and .u64 x 6148914691236517205))) 2)) (b := 3689348814741910323) rfl rfl rfl) ?_
 refine sQ 12 (Y_move (v := .int .u64 (IntKind.u64.wrap ((bits .and .u64 (shrK .u64 x 1) 6148914691236517205) + (bits .and .u64 x 6148914691236517205)))) rfl rfl) ?_
 refine sQ 13 (Y_band (k := .u64) (a := (IntKind.u64.wrap ((bits .and .u64 (shrK .u64 x 1) 6148914691236517205) + (bits .and .u64 x 6148914691236517205)))) (b := 3689348814741910323) rfl rfl rfl) ?_
 refine sQ 14 (Y_add (k := .u64) (a := (bits .and .u64 (shrK .u64 (IntKind.u64.wrap ((bits .and .u64 (shrK .u64 x 1) 6148914691236517205) + (bits .and .u64 x 6148914691236517205))) 2) 3689348814741910323)) (b := (bits .and .u64 (IntKind.u64.wrap ((bits .and .u64 (shrK .u64 x 1) 6148914691236517205) + (bits .and .u64 x 6148914691236517205))) 3689348814741910323)) rfl rfl rfl) ?_
 refine sQ 0 (Y_assign (v := .int .u64 (IntKind.u64.wrap ((bits .and .u64 (shrK .u64 (IntKind.u64.wrap ((bits .and .u64 (shrK .u64 x 1) 6148914691236517205) + (bits .and .u64 x 6148914691236517205))) 2) 3689348814741910323) + (bits .and .u64 (IntKind.u64.wrap ((bits .and .u64 (shrK .u64 x 1) 6148914691236517205) + (bits .and .u64 x 6148914691236517205))) 3689348814741910323)))) rfl rfl) (rw_nil (cw_seq (cw_region ?_)))
 refine sQ 15 (Y_move (v := .int .u64 (IntKind.u64.wrap ((bits .and .u64 (shrK .u64 (IntKind.u64.wrap ((bits .and .u64 (shrK .u64 x 1) 6148914691236517205) + (bits .and .u64 x 6148914691236517205))) 2) 3689348814741910323) + (bits .and .u64 (IntKind.u64.wrap ((bits .and .u64 (shrK .u64 x 1) 6148914691236517205) + (bits .and .u64 x 6148914691236517205))) 3689348814741910323)))) rfl rfl) ?_
 refine sQ 16 (Y_shr (k := .u64) (a := (IntKind.u64.wrap ((bits .and .u64 (shrK .u64 (IntKind.u64.wrap ((bits .and .u64 (shrK .u64 x 1) 6148914691236517205) + (bits .and .u64 x 6148914691236517205))) 2) 3689348814741910323) + (bits .and .u64 (IntKind.u64.wrap ((bits .and .u64 (shrK .u64 x 1) 6148914691236517205) + (bits .and .u64 x 6148914691236517205))) 3689348814741910323)))) (k' := .u64) (b := 4) rfl rfl rfl (by decide)) ?_
 refine sQ 17 (Y_move (v := .int .u64 (IntKind.u64.wrap ((bits .and .u64 (shrK .u64 (IntKind.u64.wrap ((bits .and .u64 (shrK .u64 x 1) 6148914691236517205) + (bits .and .u64 x 6148914691236517205))) 2) 3689348814741910323) + (bits .and .u64 (IntKind.u64.wrap ((bits .and .u64 (shrK .u64 x 1) 6148914691236517205) + (bits .and .u64 x 6148914691236517205))) 3689348814741910323)))) rfl rfl) ?_
 refine sQ 18 (Y_add (k := .u64) (a := (shrK .u64 (IntKind.u64.wrap ((bits .and .u64 (shrK .u64 (IntKind.u64.wrap ((bits .and .u64 (shrK .u64 x 1) 6148914691236517205) + (bits .and .u64 x 6148914691236517205))) 2) 3689348814741910323) + (bits .and .u64 (IntKind.u64.wrap ((bits .and .u64 (shrK .u64 x 1) 6148914691236517205) + (bits .and .u64 x 6148914691236517205))) 3689348814741910323))) 4)) (b := (IntKind.u64.wrap ((bits .and .u64 (shrK .u64 (IntKind.u64.wrap ((bits .and .u64 (shrK .u64 x 1) 6148914691236517205) + (bits .and .u64 x 6148914691236517205))) 2) 3689348814741910323) + (bits .and .u64 (IntKind.u64.wrap ((bits .and .u64 (shrK .u64 x 1) 6148914691236517205) + (bits .and .u64 x 6148914691236517205))) 3689348814741910323)))) rfl rfl rfl) ?_
 refine sQ 19 (Y_band (k := .u64) (a := (IntKind.u64.wrap ((shrK .u64 (IntKind.u64.wrap ((bits .and .u64 (shrK .u64 (IntKind.u64.wrap ((bits .and .u64 (shrK .u64 x 1) 6148914691236517205) + (bits .and .u64 x 6148914691236517205))) 2) 3689348814741910323) + (bits .and .u64 (IntKind.u64.wrap ((bits .and .u64 (shrK .u64 x 1) 6148914691236517205) + (bits .and .u64 x 6148914691236517205))) 3689348814741910323))) 4) + (IntKind.u64.wrap ((bits .and .u64 (shrK .u64 (IntKind.u64.wrap ((bits .and .u64 (shrK .u64 x 1) 6148914691236517205) + (bits .and .u64 x 6148914691236517205))) 2) 3689348814741910323) + (bits .and .u64 (IntKind.u64.wrap ((bits .and .u64 (shrK .u64 x 1) 6148914691236517205) + (bits .and .u64 x 6148914691236517205))) 3689348814741910323)))))) (b := 1085102592571150095) rfl rfl rfl) ?_
 refine sQ 0 (Y_assign (v := .int .u64 (bits .and .u64 (IntKind.u64.wrap ((shrK .u64 (IntKind.u64.wrap ((bits .and .u64 (shrK .u64 (IntKind.u64.wrap ((bits .and .u64 (shrK .u64 x 1) 6148914691236517205) + (bits .and .u64 x 6148914691236517205))) 2) 3689348814741910323) + (bits .and .u64 (IntKind.u64.wrap ((bits .and .u64 (shrK .u64 x 1) 6148914691236517205) + (bits .and .u64 x 6148914691236517205))) 3689348814741910323))) 4) + (IntKind.u64.wrap ((bits .and .u64 (shrK .u64 (IntKind.u64.wrap ((bits .and .u64 (shrK .u64 x 1) 6148914691236517205) + (bits .and .u64 x 6148914691236517205))) 2) 3689348814741910323) + (bits .and .u64 (IntKind.u64.wrap ((bits .and .u64 (shrK .u64 x 1) 6148914691236517205) + (bits .and .u64 x 6148914691236517205))) 3689348814741910323))))) 1085102592571150095)) rfl rfl) (rw_nil (cw_seq (cw_region ?_)))
 refine sQ 20 (Y_move (v := .int .u64 (bits .and .u64 (IntKind.u64.wrap ((shrK .u64 (IntKind.u64.wrap ((bits .and .u64 (shrK .u64 (IntKind.u64.wrap ((bits .and .u64 (shrK .u64 x 1) 6148914691236517205) + (bits .and .u64 x 6148914691236517205))) 2) 3689348814741910323) + (bits .and .u64 (IntKind.u64.wrap ((bits .and .u64 (shrK .u64 x 1) 6148914691236517205) + (bits .and .u64 x 6148914691236517205))) 3689348814741910323))) 4) + (IntKind.u64.wrap ((bits .and .u64 (shrK .u64 (IntKind.u64.wrap ((bits .and .u64 (shrK .u64 x 1) 6148914691236517205) + (bits .and .u64 x 6148914691236517205))) 2) 3689348814741910323) + (bits .and .u64 (IntKind.u64.wrap ((bits .and .u64 (shrK .u64 x 1) 6148914691236517205) + (bits .and .u64 x 6148914691236517205))) 3689348814741910323))))) 1085102592571150095)) rfl rfl) ?_
 refine sQ 21 (Y_move (v := .int .u64 (bits .and .u64 (IntKind.u64.wrap ((shrK .u64 (IntKind.u64.wrap ((bits .and .u64 (shrK .u64 (IntKind.u64.wrap ((bits .and .u64 (shrK .u64 x 1) 6148914691236517205) + (bits .and .u64 x 6148914691236517205))) 2) 3689348814741910323) + (bits .and .u64 (IntKind.u64.wrap ((bits .and .u64 (shrK .u64 x 1) 6148914691236517205) + (bits .and .u64 x 6148914691236517205))) 3689348814741910323))) 4) + (IntKind.u64.wrap ((bits .and .u64 (shrK .u64 (IntKind.u64.wrap ((bits .and .u64 (shrK .u64 x 1) 6148914691236517205) + (bits .and .u64 x 6148914691236517205))) 2) 3689348814741910323) + (bits .and .u64 (IntKind.u64.wrap ((bits .and .u64 (shrK .u64 x 1) 6148914691236517205) + (bits .and .u64 x 6148914691236517205))) 3689348814741910323))))) 1085102592571150095)) rfl rfl) ?_
 refine sQ 22 (Y_shr (k := .u64) (a := (bits .and .u64 (IntKind.u64.wrap ((shrK .u64 (IntKind.u64.wrap ((bits .and .u64 (shrK .u64 (IntKind.u64.wrap ((bits .and .u64 (shrK .u64 x 1) 6148914691236517205) + (bits .and .u64 x 6148914691236517205))) 2) 3689348814741910323) + (bits .and .u64 (IntKind.u64.wrap ((bits .and .u64 (shrK .u64 x 1) 6148914691236517205) + (bits .and .u64 x 6148914691236517205))) 3689348814741910323))) 4) + (IntKind.u64.wrap ((bits .and .u64 (shrK .u64 (IntKind.u64.wrap ((bits .and .u64 (shrK .u64 x 1) 6148914691236517205) + (bits .and .u64 x 6148914691236517205))) 2) 3689348814741910323) + (bits .and .u64 (IntKind.u64.wrap ((bits .and .u64 (shrK .u64 x 1) 6148914691236517205) + (bits .and .u64 x 6148914691236517205))) 3689348814741910323))))) 1085102592571150095)) (k' := .u64) (b := 8) rfl rfl rfl (by decide)) ?_
 refine sQ 23 (Y_add (k := .u64) (a := (bits .and .u64 (IntKind.u64.wrap ((shrK .u64 (IntKind.u64.wrap ((bits .and .u64 (shrK .u64 (IntKind.u64.wrap ((bits .and .u64 (shrK .u64 x 1) 6148914691236517205) + (bits .and .u64 x 6148914691236517205))) 2) 3689348814741910323) + (bits .and .u64 (IntKind.u64.wrap ((bits .and .u64 (shrK .u64 x 1) 6148914691236517205) + (bits .and .u64 x 6148914691236517205))) 3689348814741910323))) 4) + (IntKind.u64.wrap ((bits .and .u64 (shrK .u64 (IntKind.u64.wrap ((bits .and .u64 (shrK .u64 x 1) 6148914691236517205) + (bits .and .u64 x 6148914691236517205))) 2) 3689348814741910323) + (bits .and .u64 (IntKind.u64.wrap ((bits .and .u64 (shrK .u64 x 1) 6148914691236517205) + (bits .and .u64 x 6148914691236517205))) 3689348814741910323))))) 1085102592571150095)) (b := (shrK .u64 (bits .and .u64 (IntKind.u64.wrap ((shrK .u64 (IntKind.u64.wrap ((bits .and .u64 (shrK .u64 (IntKind.u64.wrap ((bits .and .u64 (shrK .u64 x 1) 6148914691236517205) + (bits .and .u64 x 6148914691236517205))) 2) 3689348814741910323) + (bits .and .u64 (IntKind.u64.wrap ((bits .and .u64 (shrK .u64 x 1) 6148914691236517205) + (bits .and .u64 x 6148914691236517205))) 3689348814741910323))) 4) + (IntKind.u64.wrap ((bits .and .u64 (shrK .u64 (IntKind.u64.wrap ((bits .and .u64 (shrK .u64 x 1) 6148914691236517205) + (bits .and .u64 x 6148914691236517205))) 2) 3689348814741910323) + (bits .and .u64 (IntKind.u64.wrap ((bits .and .u64 (shrK .u64 x 1) 6148914691236517205) + (bits .and .u64 x 6148914691236517205))) 3689348814741910323))))) 1085102592571150095) 8)) rfl rfl rfl) ?_
 refine sQ 0 (Y_assign (v := .int .u64 (IntKind.u64.wrap ((bits .and .u64 (IntKind.u64.wrap ((shrK .u64 (IntKind.u64.wrap ((bits .and .u64 (shrK .u64 (IntKind.u64.wrap ((bits .and .u64 (shrK .u64 x 1) 6148914691236517205) + (bits .and .u64 x 6148914691236517205))) 2) 3689348814741910323) + (bits .and .u64 (IntKind.u64.wrap ((bits .and .u64 (shrK .u64 x 1) 6148914691236517205) + (bits .and .u64 x 6148914691236517205))) 3689348814741910323))) 4) + (IntKind.u64.wrap ((bits .and .u64 (shrK .u64 (IntKind.u64.wrap ((bits .and .u64 (shrK .u64 x 1) 6148914691236517205) + (bits .and .u64 x 6148914691236517205))) 2) 3689348814741910323) + (bits .and .u64 (IntKind.u64.wrap ((bits .and .u64 (shrK .u64 x 1) 6148914691236517205) + (bits .and .u64 x 6148914691236517205))) 3689348814741910323))))) 1085102592571150095) + (shrK .u64 (bits .and .u64 (IntKind.u64.wrap ((shrK .u64 (IntKind.u64.wrap ((bits .and .u64 (shrK .u64 (IntKind.u64.wrap ((bits .and .u64 (shrK .u64 x 1) 6148914691236517205) + (bits .and .u64 x 6148914691236517205))) 2) 3689348814741910323) + (bits .and .u64 (IntKind.u64.wrap ((bits .and .u64 (shrK .u64 x 1) 6148914691236517205) + (bits .and .u64 x 6148914691236517205))) 3689348814741910323))) 4) + (IntKind.u64.wrap ((bits .and .u64 (shrK .u64 (IntKind.u64.wrap ((bits .and .u64 (shrK .u64 x 1) 6148914691236517205) + (bits .and .u64 x 6148914691236517205))) 2) 3689348814741910323) + (bits .and .u64 (IntKind.u64.wrap ((bits .and .u64 (shrK .u64 x 1) 6148914691236517205) + (bits .and .u64 x 6148914691236517205))) 3689348814741910323))))) 1085102592571150095) 8)))) rfl rfl) (rw_nil (cw_seq (cw_region ?_)))
 refine sQ 24 (Y_move (v := .int .u64 (IntKind.u64.wrap ((bits .and .u64 (IntKind.u64.wrap ((shrK .u64 (IntKind.u64.wrap ((bits .and .u64 (shrK .u64 (IntKind.u64.wrap ((bits .and .u64 (shrK .u64 x 1) 6148914691236517205) + (bits .and .u64 x 6148914691236517205))) 2) 3689348814741910323) + (bits .and .u64 (IntKind.u64.wrap ((bits .and .u64 (shrK .u64 x 1) 6148914691236517205) + (bits .and .u64 x 6148914691236517205))) 3689348814741910323))) 4) + (IntKind.u64.wrap ((bits .and .u64 (shrK .u64 (IntKind.u64.wrap ((bits .and .u64 (shrK .u64 x 1) 6148914691236517205) + (bits .and .u64 x 6148914691236517205))) 2) 3689348814741910323) + (bits .and .u64 (IntKind.u64.wrap ((bits .and .u64 (shrK .u64 x 1) 6148914691236517205) + (bits .and .u64 x 6148914691236517205))) 3689348814741910323))))) 1085102592571150095) + (shrK .u64 (bits .and .u64 (IntKind.u64.wrap ((shrK .u64 (IntKind.u64.wrap ((bits .and .u64 (shrK .u64 (IntKind.u64.wrap ((bits .and .u64 (shrK .u64 x 1) 6148914691236517205) + (bits .and .u64 x 6148914691236517205))) 2) 3689348814741910323) + (bits .and .u64 (IntKind.u64.wrap ((bits .and .u64 (shrK .u64 x 1) 6148914691236517205) + (bits .and .u64 x 6148914691236517205))) 3689348814741910323))) 4) + (IntKind.u64.wrap ((bits .and .u64 (shrK .u64 (IntKind.u64.wrap ((bits .and .u64 (shrK .u64 x 1) 6148914691236517205) + (bits .and .u64 x 6148914691236517205))) 2) 3689348814741910323) + (bits .and .u64 (IntKind.u64.wrap ((bits .and .u64 (shrK .u64 x 1) 6148914691236517205) + (bits .and .u64 x 6148914691236517205))) 3689348814741910323))))) 1085102592571150095) 8)))) rfl rfl) ?_
 refine sQ 25 (Y_move (v := .int .u64 (IntKind.u64.wrap ((bits .and .u64 (IntKind.u64.wrap ((shrK .u64 (IntKind.u64.wrap ((bits .and .u64 (shrK .u64 (IntKind.u64.wrap ((bits .and .u64 (shrK .u64 x 1) 6148914691236517205) + (bits .and .u64 x 6148914691236517205))) 2) 3689348814741910323) + (bits .and .u64 (IntKind.u64.wrap ((bits .and .u64 (shrK .u64 x 1) 6148914691236517205) + (bits .and .u64 x 6148914691236517205))) 3689348814741910323))) 4) + (IntKind.u64.wrap ((bits .and .u64 (shrK .u64 (IntKind.u64.wrap ((bits .and .u64 (shrK .u64 x 1) 6148914691236517205) + (bits .and .u64 x 6148914691236517205))) 2) 3689348814741910323) + (bits .and .u64 (IntKind.u64.wrap ((bits .and .u64 (shrK .u64 x 1) 6148914691236517205) + (bits .and .u64 x 6148914691236517205))) 3689348814741910323))))) 1085102592571150095) + (shrK .u64 (bits .and .u64 (IntKind.u64.wrap ((shrK .u64 (IntKind.u64.wrap ((bits .and .u64 (shrK .u64 (IntKind.u64.wrap ((bits .and .u64 (shrK .u64 x 1) 6148914691236517205) + (bits .and .u64 x 6148914691236517205))) 2) 3689348814741910323) + (bits .and .u64 (IntKind.u64.wrap ((bits .and .u64 (shrK .u64 x 1) 6148914691236517205) + (bits .and .u64 x 6148914691236517205))) 3689348814741910323))) 4) + (IntKind.u64.wrap ((bits .and .u64 (shrK .u64 (IntKind.u64.wrap ((bits .and .u64 (shrK .u64 x 1) 6148914691236517205) + (bits .and .u64 x 6148914691236517205))) 2) 3689348814741910323) + (bits .and .u64 (IntKind.u64.wrap ((bits .and .u64 (shrK .u64 x 1) 6148914691236517205) + (bits .and .u64 x 6148914691236517205))) 3689348814741910323))))) 1085102592571150095) 8)))) rfl rfl) ?_
 refine sQ 26 (Y_shr (k := .u64) (a := (IntKind.u64.wrap ((bits .and .u64 (IntKind.u64.wrap ((shrK .u64 (IntKind.u64.wrap ((bits .and .u64 (shrK .u64 (IntKind.u64.wrap ((bits .and .u64 (shrK .u64 x 1) 6148914691236517205) + (bits .and .u64 x 6148914691236517205))) 2) 3689348814741910323) + (bits .and .u64 (IntKind.u64.wrap ((bits .and .u64 (shrK .u64 x 1) 6148914691236517205) + (bits .and .u64 x 6148914691236517205))) 3689348814741910323))) 4) + (IntKind.u64.wrap ((bits .and .u64 (shrK .u64 (IntKind.u64.wrap ((bits .and .u64 (shrK .u64 x 1) 6148914691236517205) + (bits .and .u64 x 6148914691236517205))) 2) 3689348814741910323) + (bits .and .u64 (IntKind.u64.wrap ((bits .and .u64 (shrK .u64 x 1) 6148914691236517205) + (bits .and .u64 x 6148914691236517205))) 3689348814741910323))))) 1085102592571150095) + (shrK .u64 (bits .and .u64 (IntKind.u64.wrap ((shrK .u64 (IntKind.u64.wrap ((bits .and .u64 (shrK .u64 (IntKind.u64.wrap ((bits .and .u64 (shrK .u64 x 1) 6148914691236517205) + (bits .and .u64 x 6148914691236517205))) 2) 3689348814741910323) + (bits .and .u64 (IntKind.u64.wrap ((bits .and .u64 (shrK .u64 x 1) 6148914691236517205) + (bits .and .u64 x 6148914691236517205))) 3689348814741910323))) 4) + (IntKind.u64.wrap ((bits .and .u64 (shrK .u64 (IntKind.u64.wrap ((bits .and .u64 (shrK .u64 x 1) 6148914691236517205) + (bits .and .u64 x 6148914691236517205))) 2) 3689348814741910323) + (bits .and .u64 (IntKind.u64.wrap ((bits .and .u64 (shrK .u64 x 1) 6148914691236517205) + (bits .and .u64 x 6148914691236517205))) 3689348814741910323))))) 1085102592571150095) 8)))) (k' := .u64) (b := 16) rfl rfl rfl (by decide)) ?_
 refine sQ 27 (Y_add (k := .u64) (a := (IntKind.u64.wrap ((bits .and .u64 (IntKind.u64.wrap ((shrK .u64 (IntKind.u64.wrap ((bits .and .u64 (shrK .u64 (IntKind.u64.wrap ((bits .and .u64 (shrK .u64 x 1) 6148914691236517205) + (bits .and .u64 x 6148914691236517205))) 2) 3689348814741910323) + (bits .and .u64 (IntKind.u64.wrap ((bits .and .u64 (shrK .u64 x 1) 6148914691236517205) + (bits .and .u64 x 6148914691236517205))) 3689348814741910323))) 4) + (IntKind.u64.wrap ((bits .and .u64 (shrK .u64 (IntKind.u64.wrap ((bits .and .u64 (shrK .u64 x 1) 6148914691236517205) + (bits .and .u64 x 6148914691236517205))) 2) 3689348814741910323) + (bits .and .u64 (IntKind.u64.wrap ((bits .and .u64 (shrK .u64 x 1) 6148914691236517205) + (bits .and .u64 x 6148914691236517205))) 3689348814741910323))))) 1085102592571150095) + (shrK .u64 (bits .and .u64 (IntKind.u64.wrap ((shrK .u64 (IntKind.u64.wrap ((bits .and .u64 (shrK .u64 (IntKind.u64.wrap ((bits .and .u64 (shrK .u64 x 1) 6148914691236517205) + (bits .and .u64 x 6148914691236517205))) 2) 3689348814741910323) + (bits .and .u64 (IntKind.u64.wrap ((bits .and .u64 (shrK .u64 x 1) 6148914691236517205) + (bits .and .u64 x 6148914691236517205))) 3689348814741910323))) 4) + (IntKind.u64.wrap ((bits .and .u64 (shrK .u64 (IntKind.u64.wrap ((bits .and .u64 (shrK .u64 x 1) 6148914691236517205) + (bits .and .u64 x 6148914691236517205))) 2) 3689348814741910323) + (bits .and .u64 (IntKind.u64.wrap ((bits .and .u64 (shrK .u64 x 1) 6148914691236517205) + (bits .and .u64 x 6148914691236517205))) 3689348814741910323))))) 1085102592571150095) 8)))) (b := (shrK .u64 (IntKind.u64.wrap ((bits .and .u64 (IntKind.u64.wrap ((shrK .u64 (IntKind.u64.wrap ((bits .and .u64 (shrK .u64 (IntKind.u64.wrap ((bits .and .u64 (shrK .u64 x 1) 6148914691236517205) + (bits .and .u64 x 6148914691236517205))) 2) 3689348814741910323) + (bits .and .u64 (IntKind.u64.wrap ((bits .and .u64 (shrK .u64 x 1) 6148914691236517205) + (bits .and .u64 x 6148914691236517205))) 3689348814741910323))) 4) + (IntKind.u64.wrap ((bits .and .u64 (shrK .u64 (IntKind.u64.wrap ((bits .and .u64 (shrK .u64 x 1) 6148914691236517205) + (bits .and .u64 x 6148914691236517205))) 2) 3689348814741910323) + (bits .and .u64 (IntKind.u64.wrap ((bits .and .u64 (shrK .u64 x 1) 6148914691236517205) + (bits .and .u64 x 6148914691236517205))) 3689348814741910323))))) 1085102592571150095) + (shrK .u64 (bits .and .u64 (IntKind.u64.wrap ((shrK .u64 (IntKind.u64.wrap ((bits .and .u64 (shrK .u64 (IntKind.u64.wrap ((bits .and .u64 (shrK .u64 x 1) 6148914691236517205) + (bits .and .u64 x 6148914691236517205))) 2) 3689348814741910323) + (bits .and .u64 (IntKind.u64.wrap ((bits .and .u64 (shrK .u64 x 1) 6148914691236517205) + (bits .and .u64 x 6148914691236517205))) 3689348814741910323))) 4) + (IntKind.u64.wrap ((bits .and .u64 (shrK .u64 (IntKind.u64.wrap ((bits .and .u64 (shrK .u64 x 1) 6148914691236517205) + (bits .and .u64 x 6148914691236517205))) 2) 3689348814741910323) + (bits .and .u64 (IntKind.u64.wrap ((bits .and .u64 (shrK .u64 x 1) 6148914691236517205) + (bits .and .u64 x 6148914691236517205))) 3689348814741910323))))) 1085102592571150095) 8))) 16)) rfl rfl rfl) ?_
 refine sQ 0 (Y_assign (v := .int .u64 (IntKind.u64.wrap ((IntKind.u64.wrap ((bits .and .u64 (IntKind.u64.wrap ((shrK .u64 (IntKind.u64.wrap ((bits .and .u64 (shrK .u64 (IntKind.u64.wrap ((bits .and .u64 (shrK .u64 x 1) 6148914691236517205) + (bits .and .u64 x 6148914691236517205))) 2) 3689348814741910323) + (bits .and .u64 (IntKind.u64.wrap ((bits .and .u64 (shrK .u64 x 1) 6148914691236517205) + (bits .and .u64 x 6148914691236517205))) 3689348814741910323))) 4) + (IntKind.u64.wrap ((bits .and .u64 (shrK .u64 (IntKind.u64.wrap ((bits .and .u64 (shrK .u64 x 1) 6148914691236517205) + (bits .and .u64 x 6148914691236517205))) 2) 3689348814741910323) + (bits .and .u64 (IntKind.u64.wrap ((bits .and .u64 (shrK .u64 x 1) 6148914691236517205) + (bits .and .u64 x 6148914691236517205))) 3689348814741910323))))) 1085102592571150095) + (shrK .u64 (bits .and .u64 (IntKind.u64.wrap ((shrK .u64 (IntKind.u64.wrap ((bits .and .u64 (shrK .u64 (IntKind.u64.wrap ((bits .and .u64 (shrK .u64 x 1) 6148914691236517205) + (bits .and .u64 x 6148914691236517205))) 2) 3689348814741910323) + (bits .and .u64 (IntKind.u64.wrap ((bits .and .u64 (shrK .u64 x 1) 6148914691236517205) + (bits .and .u64 x 6148914691236517205))) 3689348814741910323))) 4) + (IntKind.u64.wrap ((bits .and .u64 (shrK .u64 (IntKind.u64.wrap ((bits .and .u64 (shrK .u64 x 1) 6148914691236517205) + (bits .and .u64 x 6148914691236517205))) 2) 3689348814741910323) + (bits .and .u64 (IntKind.u64.wrap ((bits .and .u64 (shrK .u64 x 1) 6148914691236517205) + (bits .and .u64 x 6148914691236517205))) 3689348814741910323))))) 1085102592571150095) 8))) + (shrK .u64 (IntKind.u64.wrap ((bits .and .u64 (IntKind.u64.wrap ((shrK .u64 (IntKind.u64.wrap ((bits .and .u64 (shrK .u64 (IntKind.u64.wrap ((bits .and .u64 (shrK .u64 x 1) 6148914691236517205) + (bits .and .u64 x 6148914691236517205))) 2) 3689348814741910323) + (bits .and .u64 (IntKind.u64.wrap ((bits .and .u64 (shrK .u64 x 1) 6148914691236517205) + (bits .and .u64 x 6148914691236517205))) 3689348814741910323))) 4) + (IntKind.u64.wrap ((bits .and .u64 (shrK .u64 (IntKind.u64.wrap ((bits .and .u64 (shrK .u64 x 1) 6148914691236517205) + (bits .and .u64 x 6148914691236517205))) 2) 3689348814741910323) + (bits .and .u64 (IntKind.u64.wrap ((bits .and .u64 (shrK .u64 x 1) 6148914691236517205) + (bits .and .u64 x 6148914691236517205))) 3689348814741910323))))) 1085102592571150095) + (shrK .u64 (bits .and .u64 (IntKind.u64.wrap ((shrK .u64 (IntKind.u64.wrap ((bits .and .u64 (shrK .u64 (IntKind.u64.wrap ((bits .and .u64 (shrK .u64 x 1) 6148914691236517205) + (bits .and .u64 x 6148914691236517205))) 2) 3689348814741910323) + (bits .and .u64 (IntKind.u64.wrap ((bits .and .u64 (shrK .u64 x 1) 6148914691236517205) + (bits .and .u64 x 6148914691236517205))) 3689348814741910323))) 4) + (IntKind.u64.wrap ((bits .and .u64 (shrK .u64 (IntKind.u64.wrap ((bits .and .u64 (shrK .u64 x 1) 6148914691236517205) + (bits .and .u64 x 6148914691236517205))) 2) 3689348814741910323) + (bits .and .u64 (IntKind.u64.wrap ((bits .and .u64 (shrK .u64 x 1) 6148914691236517205) + (bits .and .u64 x 6148914691236517205))) 3689348814741910323))))) 1085102592571150095) 8))) 16)))) rfl rfl) (rw_nil (cw_seq (cw_region ?_)))
 refine sQ 28 (Y_move (v := .int .u64 (IntKind.u64.wrap ((IntKind.u64.wrap ((bits .and .u64 (IntKind.u64.wrap ((shrK .u64 (IntKind.u64.wrap ((bits .and .u64 (shrK .u64 (IntKind.u64.wrap ((bits .and .u64 (shrK .u64 x 1) 6148914691236517205) + (bits .and .u64 x 6148914691236517205))) 2) 3689348814741910323) + (bits .and .u64 (IntKind.u64.wrap ((bits .and .u64 (shrK .u64 x 1) 6148914691236517205) + (bits .and .u64 x 6148914691236517205))) 3689348814741910323))) 4) + (IntKind.u64.wrap ((bits .and .u64 (shrK .u64 (IntKind.u64.wrap ((bits .and .u64 (shrK .u64 x 1) 6148914691236517205) + (bits .and .u64 x 6148914691236517205))) 2) 3689348814741910323) + (bits .and .u64 (IntKind.u64.wrap ((bits .and .u64 (shrK .u64 x 1) 6148914691236517205) + (bits .and .u64 x 6148914691236517205))) 3689348814741910323))))) 1085102592571150095) + (shrK .u64 (bits .and .u64 (IntKind.u64.wrap ((shrK .u64 (IntKind.u64.wrap ((bits .and .u64 (shrK .u64 (IntKind.u64.wrap ((bits .and .u64 (shrK .u64 x 1) 6148914691236517205) + (bits .and .u64 x 6148914691236517205))) 2) 3689348814741910323) + (bits .and .u64 (IntKind.u64.wrap ((bits .and .u64 (shrK .u64 x 1) 6148914691236517205) + (bits .and .u64 x 6148914691236517205))) 3689348814741910323))) 4) + (IntKind.u64.wrap ((bits .and .u64 (shrK .u64 (IntKind.u64.wrap ((bits .and .u64 (shrK .u64 x 1) 6148914691236517205) + (bits .and .u64 x 6148914691236517205))) 2) 3689348814741910323) + (bits .and .u64 (IntKind.u64.wrap ((bits .and .u64 (shrK .u64 x 1) 6148914691236517205) + (bits .and .u64 x 6148914691236517205))) 3689348814741910323))))) 1085102592571150095) 8))) + (shrK .u64 (IntKind.u64.wrap ((bits .and .u64 (IntKind.u64.wrap ((shrK .u64 (IntKind.u64.wrap ((bits .and .u64 (shrK .u64 (IntKind.u64.wrap ((bits .and .u64 (shrK .u64 x 1) 6148914691236517205) + (bits .and .u64 x 6148914691236517205))) 2) 3689348814741910323) + (bits .and .u64 (IntKind.u64.wrap ((bits .and .u64 (shrK .u64 x 1) 6148914691236517205) + (bits .and .u64 x 6148914691236517205))) 3689348814741910323))) 4) + (IntKind.u64.wrap ((bits .and .u64 (shrK .u64 (IntKind.u64.wrap ((bits .and .u64 (shrK .u64 x 1) 6148914691236517205) + (bits .and .u64 x 6148914691236517205))) 2) 3689348814741910323) + (bits .and .u64 (IntKind.u64.wrap ((bits .and .u64 (shrK .u64 x 1) 6148914691236517205) + (bits .and .u64 x 6148914691236517205))) 3689348814741910323))))) 1085102592571150095) + (shrK .u64 (bits .and .u64 (IntKind.u64.wrap ((shrK .u64 (IntKind.u64.wrap ((bits .and .u64 (shrK .u64 (IntKind.u64.wrap ((bits .and .u64 (shrK .u64 x 1) 6148914691236517205) + (bits .and .u64 x 6148914691236517205))) 2) 3689348814741910323) + (bits .and .u64 (IntKind.u64.wrap ((bits .and .u64 (shrK .u64 x 1) 6148914691236517205) + (bits .and .u64 x 6148914691236517205))) 3689348814741910323))) 4) + (IntKind.u64.wrap ((bits .and .u64 (shrK .u64 (IntKind.u64.wrap ((bits .and .u64 (shrK .u64 x 1) 6148914691236517205) + (bits .and .u64 x 6148914691236517205))) 2) 3689348814741910323) + (bits .and .u64 (IntKind.u64.wrap ((bits .and .u64 (shrK .u64 x 1) 6148914691236517205) + (bits .and .u64 x 6148914691236517205))) 3689348814741910323))))) 1085102592571150095) 8))) 16)))) rfl rfl) ?_
 refine sQ 29 (Y_move (v := .int .u64 (IntKind.u64.wrap ((IntKind.u64.wrap ((bits .and .u64 (IntKind.u64.wrap ((shrK .u64 (IntKind.u64.wrap ((bits .and .u64 (shrK .u64 (IntKind.u64.wrap ((bits .and .u64 (shrK .u64 x 1) 6148914691236517205) + (bits .and .u64 x 6148914691236517205))) 2) 3689348814741910323) + (bits .and .u64 (IntKind.u64.wrap ((bits .and .u64 (shrK .u64 x 1) 6148914691236517205) + (bits .and .u64 x 6148914691236517205))) 3689348814741910323))) 4) + (IntKind.u64.wrap ((bits .and .u64 (shrK .u64 (IntKind.u64.wrap ((bits .and .u64 (shrK .u64 x 1) 6148914691236517205) + (bits .and .u64 x 6148914691236517205))) 2) 3689348814741910323) + (bits .and .u64 (IntKind.u64.wrap ((bits .and .u64 (shrK .u64 x 1) 6148914691236517205) + (bits .and .u64 x 6148914691236517205))) 3689348814741910323))))) 1085102592571150095) + (shrK .u64 (bits .and .u64 (IntKind.u64.wrap ((shrK .u64 (IntKind.u64.wrap ((bits .and .u64 (shrK .u64 (IntKind.u64.wrap ((bits .and .u64 (shrK .u64 x 1) 6148914691236517205) + (bits .and .u64 x 6148914691236517205))) 2) 3689348814741910323) + (bits .and .u64 (IntKind.u64.wrap ((bits .and .u64 (shrK .u64 x 1) 6148914691236517205) + (bits .and .u64 x 6148914691236517205))) 3689348814741910323))) 4) + (IntKind.u64.wrap ((bits .and .u64 (shrK .u64 (IntKind.u64.wrap ((bits .and .u64 (shrK .u64 x 1) 6148914691236517205) + (bits .and .u64 x 6148914691236517205))) 2) 3689348814741910323) + (bits .and .u64 (IntKind.u64.wrap ((bits .and .u64 (shrK .u64 x 1) 6148914691236517205) + (bits .and .u64 x 6148914691236517205))) 3689348814741910323))))) 1085102592571150095) 8))) + (shrK .u64 (IntKind.u64.wrap ((bits .and .u64 (IntKind.u64.wrap ((shrK .u64 (IntKind.u64.wrap ((bits .and .u64 (shrK .u64 (IntKind.u64.wrap ((bits .and .u64 (shrK .u64 x 1) 6148914691236517205) + (bits .and .u64 x 6148914691236517205))) 2) 3689348814741910323) + (bits .and .u64 (IntKind.u64.wrap ((bits .and .u64 (shrK .u64 x 1) 6148914691236517205) + (bits .and .u64 x 6148914691236517205))) 3689348814741910323))) 4) + (IntKind.u64.wrap ((bits .and .u64 (shrK .u64 (IntKind.u64.wrap ((bits .and .u64 (shrK .u64 x 1) 6148914691236517205) + (bits .and .u64 x 6148914691236517205))) 2) 3689348814741910323) + (bits .and .u64 (IntKind.u64.wrap ((bits .and .u64 (shrK .u64 x 1) 6148914691236517205) + (bits .and .u64 x 6148914691236517205))) 3689348814741910323))))) 1085102592571150095) + (shrK .u64 (bits .and .u64 (IntKind.u64.wrap ((shrK .u64 (IntKind.u64.wrap ((bits .and .u64 (shrK .u64 (IntKind.u64.wrap ((bits .and .u64 (shrK .u64 x 1) 6148914691236517205) + (bits .and .u64 x 6148914691236517205))) 2) 3689348814741910323) + (bits .and .u64 (IntKind.u64.wrap ((bits .and .u64 (shrK .u64 x 1) 6148914691236517205) + (bits .and .u64 x 6148914691236517205))) 3689348814741910323))) 4) + (IntKind.u64.wrap ((bits .and .u64 (shrK .u64 (IntKind.u64.wrap ((bits .and .u64 (shrK .u64 x 1) 6148914691236517205) + (bits .and .u64 x 6148914691236517205))) 2) 3689348814741910323) + (bits .and .u64 (IntKind.u64.wrap ((bits .and .u64 (shrK .u64 x 1) 6148914691236517205) + (bits .and .u64 x 6148914691236517205))) 3689348814741910323))))) 1085102592571150095) 8))) 16)))) rfl rfl) ?_
 refine sQ 30 (Y_shr (k := .u64) (a := (IntKind.u64.wrap ((IntKind.u64.wrap ((bits .and .u64 (IntKind.u64.wrap ((shrK .u64 (IntKind.u64.wrap ((bits .and .u64 (shrK .u64 (IntKind.u64.wrap ((bits .and .u64 (shrK .u64 x 1) 6148914691236517205) + (bits .and .u64 x 6148914691236517205))) 2) 3689348814741910323) + (bits .and .u64 (IntKind.u64.wrap ((bits .and .u64 (shrK .u64 x 1) 6148914691236517205) + (bits .and .u64 x 6148914691236517205))) 3689348814741910323))) 4) + (IntKind.u64.wrap ((bits .and .u64 (shrK .u64 (IntKind.u64.wrap ((bits .and .u64 (shrK .u64 x 1) 6148914691236517205) + (bits .and .u64 x 6148914691236517205))) 2) 3689348814741910323) + (bits .and .u64 (IntKind.u64.wrap ((bits .and .u64 (shrK .u64 x 1) 6148914691236517205) + (bits .and .u64 x 6148914691236517205))) 3689348814741910323))))) 1085102592571150095) + (shrK .u64 (bits .and .u64 (IntKind.u64.wrap ((shrK .u64 (IntKind.u64.wrap ((bits .and .u64 (shrK .u64 (IntKind.u64.wrap ((bits .and .u64 (shrK .u64 x 1) 6148914691236517205) + (bits .and .u64 x 6148914691236517205))) 2) 3689348814741910323) + (bits .and .u64 (IntKind.u64.wrap ((bits .and .u64 (shrK .u64 x 1) 6148914691236517205) + (bits .and .u64 x 6148914691236517205))) 3689348814741910323))) 4) + (IntKind.u64.wrap ((bits .and .u64 (shrK .u64 (IntKind.u64.wrap ((bits .and .u64 (shrK .u64 x 1) 6148914691236517205) + (bits .and .u64 x 6148914691236517205))) 2) 3689348814741910323) + (bits .and .u64 (IntKind.u64.wrap ((bits .and .u64 (shrK .u64 x 1) 6148914691236517205) + (bits .and .u64 x 6148914691236517205))) 3689348814741910323))))) 1085102592571150095) 8))) + (shrK .u64 (IntKind.u64.wrap ((bits .and .u64 (IntKind.u64.wrap ((shrK .u64 (IntKind.u64.wrap ((bits .and .u64 (shrK .u64 (IntKind.u64.wrap ((bits .and .u64 (shrK .u64 x 1) 6148914691236517205) + (bits .and .u64 x 6148914691236517205))) 2) 3689348814741910323) + (bits .and .u64 (IntKind.u64.wrap ((bits .and .u64 (shrK .u64 x 1) 6148914691236517205) + (bits .and .u64 x 6148914691236517205))) 3689348814741910323))) 4) + (IntKind.u64.wrap ((bits .and .u64 (shrK .u64 (IntKind.u64.wrap ((bits .and .u64 (shrK .u64 x 1) 6148914691236517205) + (bits .and .u64 x 6148914691236517205))) 2) 3689348814741910323) + (bits .and .u64 (IntKind.u64.wrap ((bits .and .u64 (shrK .u64 x 1) 6148914691236517205) + (bits .and .u64 x 6148914691236517205))) 3689348814741910323))))) 1085102592571150095) + (shrK .u64 (bits .and .u64 (IntKind.u64.wrap ((shrK .u64 (IntKind.u64.wrap ((bits .and .u64 (shrK .u64 (IntKind.u64.wrap ((bits .and .u64 (shrK .u64 x 1) 6148914691236517205) + (bits .and .u64 x 6148914691236517205))) 2) 3689348814741910323) + (bits .and .u64 (IntKind.u64.wrap ((bits .and .u64 (shrK .u64 x 1) 6148914691236517205) + (bits .and .u64 x 6148914691236517205))) 3689348814741910323))) 4) + (IntKind.u64.wrap ((bits .and .u64 (shrK .u64 (IntKind.u64.wrap ((bits .and .u64 (shrK .u64 x 1) 6148914691236517205) + (bits .and .u64 x 6148914691236517205))) 2) 3689348814741910323) + (bits .and .u64 (IntKind.u64.wrap ((bits .and .u64 (shrK .u64 x 1) 6148914691236517205) + (bits .and .u64 x 6148914691236517205))) 3689348814741910323))))) 1085102592571150095) 8))) 16)))) (k' := .u64) (b := 32) rfl rfl rfl (by decide)) ?_
 refine sQ 31 (Y_add (k := .u64) (a := (IntKind.u64.wrap ((IntKind.u64.wrap ((bits .and .u64 (IntKind.u64.wrap ((shrK .u64 (IntKind.u64.wrap ((bits .and .u64 (shrK .u64 (IntKind.u64.wrap ((bits .and .u64 (shrK .u64 x 1) 6148914691236517205) + (bits .and .u64 x 6148914691236517205))) 2) 3689348814741910323) + (bits .and .u64 (IntKind.u64.wrap ((bits .and .u64 (shrK .u64 x 1) 6148914691236517205) + (bits .and .u64 x 6148914691236517205))) 3689348814741910323))) 4) + (IntKind.u64.wrap ((bits .and .u64 (shrK .u64 (IntKind.u64.wrap ((bits .and .u64 (shrK .u64 x 1) 6148914691236517205) + (bits .and .u64 x 6148914691236517205))) 2) 3689348814741910323) + (bits .and .u64 (IntKind.u64.wrap ((bits .and .u64 (shrK .u64 x 1) 6148914691236517205) + (bits .and .u64 x 6148914691236517205))) 3689348814741910323))))) 1085102592571150095) + (shrK .u64 (bits .and .u64 (IntKind.u64.wrap ((shrK .u64 (IntKind.u64.wrap ((bits .and .u64 (shrK .u64 (IntKind.u64.wrap ((bits .and .u64 (shrK .u64 x 1) 6148914691236517205) + (bits .and .u64 x 6148914691236517205))) 2) 3689348814741910323) + (bits .and .u64 (IntKind.u64.wrap ((bits .and .u64 (shrK .u64 x 1) 6148914691236517205) + (bits .and .u64 x 6148914691236517205))) 3689348814741910323))) 4) + (IntKind.u64.wrap ((bits .and .u64 (shrK .u64 (IntKind.u64.wrap ((bits .and .u64 (shrK .u64 x 1) 6148914691236517205) + (bits .and .u64 x 6148914691236517205))) 2) 3689348814741910323) + (bits .and .u64 (IntKind.u64.wrap ((bits .and .u64 (shrK .u64 x 1) 6148914691236517205) + (bits .and .u64 x 6148914691236517205))) 3689348814741910323))))) 1085102592571150095) 8))) + (shrK .u64 (IntKind.u64.wrap ((bits .and .u64 (IntKind.u64.wrap ((shrK .u64 (IntKind.u64.wrap ((bits .and .u64 (shrK .u64 (IntKind.u64.wrap ((bits .and .u64 (shrK .u64 x 1) 6148914691236517205) + (bits .and .u64 x 6148914691236517205))) 2) 3689348814741910323) + (bits .and .u64 (IntKind.u64.wrap ((bits .and .u64 (shrK .u64 x 1) 6148914691236517205) + (bits .and .u64 x 6148914691236517205))) 3689348814741910323))) 4) + (IntKind.u64.wrap ((bits .and .u64 (shrK .u64 (IntKind.u64.wrap ((bits .and .u64 (shrK .u64 x 1) 6148914691236517205) + (bits .and .u64 x 6148914691236517205))) 2) 3689348814741910323) + (bits .and .u64 (IntKind.u64.wrap ((bits .and .u64 (shrK .u64 x 1) 6148914691236517205) + (bits .and .u64 x 6148914691236517205))) 3689348814741910323))))) 1085102592571150095) + (shrK .u64 (bits .and .u64 (IntKind.u64.wrap ((shrK .u64 (IntKind.u64.wrap ((bits .and .u64 (shrK .u64 (IntKind.u64.wrap ((bits .and .u64 (shrK .u64 x 1) 6148914691236517205) + (bits .and .u64 x 6148914691236517205))) 2) 3689348814741910323) + (bits .and .u64 (IntKind.u64.wrap ((bits .and .u64 (shrK .u64 x 1) 6148914691236517205) + (bits .and .u64 x 6148914691236517205))) 3689348814741910323))) 4) + (IntKind.u64.wrap ((bits .and .u64 (shrK .u64 (IntKind.u64.wrap ((bits .and .u64 (shrK .u64 x 1) 6148914691236517205) + (bits .and .u64 x 6148914691236517205))) 2) 3689348814741910323) + (bits .and .u64 (IntKind.u64.wrap ((bits .and .u64 (shrK .u64 x 1) 6148914691236517205) + (bits .and .u64 x 6148914691236517205))) 3689348814741910323))))) 1085102592571150095) 8))) 16)))) (b := (shrK .u64 (IntKind.u64.wrap ((IntKind.u64.wrap ((bits .and .u64 (IntKind.u64.wrap ((shrK .u64 (IntKind.u64.wrap ((bits .and .u64 (shrK .u64 (IntKind.u64.wrap ((bits .and .u64 (shrK .u64 x 1) 6148914691236517205) + (bits .and .u64 x 6148914691236517205))) 2) 3689348814741910323) + (bits .and .u64 (IntKind.u64.wrap ((bits .and .u64 (shrK .u64 x 1) 6148914691236517205) + (bits .and .u64 x 6148914691236517205))) 3689348814741910323))) 4) + (IntKind.u64.wrap ((bits .and .u64 (shrK .u64 (IntKind.u64.wrap ((bits .and .u64 (shrK .u64 x 1) 6148914691236517205) + (bits .and .u64 x 6148914691236517205))) 2) 3689348814741910323) + (bits .and .u64 (IntKind.u64.wrap ((bits .and .u64 (shrK .u64 x 1) 6148914691236517205) + (bits .and .u64 x 6148914691236517205))) 3689348814741910323))))) 1085102592571150095) + (shrK .u64 (bits .and .u64 (IntKind.u64.wrap ((shrK .u64 (IntKind.u64.wrap ((bits .and .u64 (shrK .u64 (IntKind.u64.wrap ((bits .and .u64 (shrK .u64 x 1) 6148914691236517205) + (bits .and .u64 x 6148914691236517205))) 2) 3689348814741910323) + (bits .and .u64 (IntKind.u64.wrap ((bits .and .u64 (shrK .u64 x 1) 6148914691236517205) + (bits .and .u64 x 6148914691236517205))) 3689348814741910323))) 4) + (IntKind.u64.wrap ((bits .and .u64 (shrK .u64 (IntKind.u64.wrap ((bits .and .u64 (shrK .u64 x 1) 6148914691236517205) + (bits .and .u64 x 6148914691236517205))) 2) 3689348814741910323) + (bits .and .u64 (IntKind.u64.wrap ((bits .and .u64 (shrK .u64 x 1) 6148914691236517205) + (bits .and .u64 x 6148914691236517205))) 3689348814741910323))))) 1085102592571150095) 8))) + (shrK .u64 (IntKind.u64.wrap ((bits .and .u64 (IntKind.u64.wrap ((shrK .u64 (IntKind.u64.wrap ((bits .and .u64 (shrK .u64 (IntKind.u64.wrap ((bits .and .u64 (shrK .u64 x 1) 6148914691236517205) + (bits .and .u64 x 6148914691236517205))) 2) 3689348814741910323) + (bits .and .u64 (IntKind.u64.wrap ((bits .and .u64 (shrK .u64 x 1) 6148914691236517205) + (bits .and .u64 x 6148914691236517205))) 3689348814741910323))) 4) + (IntKind.u64.wrap ((bits .and .u64 (shrK .u64 (IntKind.u64.wrap ((bits .and .u64 (shrK .u64 x 1) 6148914691236517205) + (bits .and .u64 x 6148914691236517205))) 2) 3689348814741910323) + (bits .and .u64 (IntKind.u64.wrap ((bits .and .u64 (shrK .u64 x 1) 6148914691236517205) + (bits .and .u64 x 6148914691236517205))) 3689348814741910323))))) 1085102592571150095) + (shrK .u64 (bits .and .u64 (IntKind.u64.wrap ((shrK .u64 (IntKind.u64.wrap ((bits .and .u64 (shrK .u64 (IntKind.u64.wrap ((bits .and .u64 (shrK .u64 x 1) 6148914691236517205) + (bits .and .u64 x 6148914691236517205))) 2) 3689348814741910323) + (bits .and .u64 (IntKind.u64.wrap ((bits .and .u64 (shrK .u64 x 1) 6148914691236517205) + (bits .and .u64 x 6148914691236517205))) 3689348814741910323))) 4) + (IntKind.u64.wrap ((bits .and .u64 (shrK .u64 (IntKind.u64.wrap ((bits .and .u64 (shrK .u64 x 1) 6148914691236517205) + (bits .and .u64 x 6148914691236517205))) 2) 3689348814741910323) + (bits .and .u64 (IntKind.u64.wrap ((bits .and .u64 (shrK .u64 x 1) 6148914691236517205) + (bits .and .u64 x 6148914691236517205))) 3689348814741910323))))) 1085102592571150095) 8))) 16))) 32)) rfl rfl rfl) ?_
 refine sQ 0 (Y_assign (v := .int .u64 (IntKind.u64.wrap ((IntKind.u64.wrap ((IntKind.u64.wrap ((bits .and .u64 (IntKind.u64.wrap ((shrK .u64 (IntKind.u64.wrap ((bits .and .u64 (shrK .u64 (IntKind.u64.wrap ((bits .and .u64 (shrK .u64 x 1) 6148914691236517205) + (bits .and .u64 x 6148914691236517205))) 2) 3689348814741910323) + (bits .and .u64 (IntKind.u64.wrap ((bits .and .u64 (shrK .u64 x 1) 6148914691236517205) + (bits .and .u64 x 6148914691236517205))) 3689348814741910323))) 4) + (IntKind.u64.wrap ((bits .and .u64 (shrK .u64 (IntKind.u64.wrap ((bits .and .u64 (shrK .u64 x 1) 6148914691236517205) + (bits .and .u64 x 6148914691236517205))) 2) 3689348814741910323) + (bits .and .u64 (IntKind.u64.wrap ((bits .and .u64 (shrK .u64 x 1) 6148914691236517205) + (bits .and .u64 x 6148914691236517205))) 3689348814741910323))))) 1085102592571150095) + (shrK .u64 (bits .and .u64 (IntKind.u64.wrap ((shrK .u64 (IntKind.u64.wrap ((bits .and .u64 (shrK .u64 (IntKind.u64.wrap ((bits .and .u64 (shrK .u64 x 1) 6148914691236517205) + (bits .and .u64 x 6148914691236517205))) 2) 3689348814741910323) + (bits .and .u64 (IntKind.u64.wrap ((bits .and .u64 (shrK .u64 x 1) 6148914691236517205) + (bits .and .u64 x 6148914691236517205))) 3689348814741910323))) 4) + (IntKind.u64.wrap ((bits .and .u64 (shrK .u64 (IntKind.u64.wrap ((bits .and .u64 (shrK .u64 x 1) 6148914691236517205) + (bits .and .u64 x 6148914691236517205))) 2) 3689348814741910323) + (bits .and .u64 (IntKind.u64.wrap ((bits .and .u64 (shrK .u64 x 1) 6148914691236517205) + (bits .and .u64 x 6148914691236517205))) 3689348814741910323))))) 1085102592571150095) 8))) + (shrK .u64 (IntKind.u64.wrap ((bits .and .u64 (IntKind.u64.wrap ((shrK .u64 (IntKind.u64.wrap ((bits .and .u64 (shrK .u64 (IntKind.u64.wrap ((bits .and .u64 (shrK .u64 x 1) 6148914691236517205) + (bits .and .u64 x 6148914691236517205))) 2) 3689348814741910323) + (bits .and .u64 (IntKind.u64.wrap ((bits .and .u64 (shrK .u64 x 1) 6148914691236517205) + (bits .and .u64 x 6148914691236517205))) 3689348814741910323))) 4) + (IntKind.u64.wrap ((bits .and .u64 (shrK .u64 (IntKind.u64.wrap ((bits .and .u64 (shrK .u64 x 1) 6148914691236517205) + (bits .and .u64 x 6148914691236517205))) 2) 3689348814741910323) + (bits .and .u64 (IntKind.u64.wrap ((bits .and .u64 (shrK .u64 x 1) 6148914691236517205) + (bits .and .u64 x 6148914691236517205))) 3689348814741910323))))) 1085102592571150095) + (shrK .u64 (bits .and .u64 (IntKind.u64.wrap ((shrK .u64 (IntKind.u64.wrap ((bits .and .u64 (shrK .u64 (IntKind.u64.wrap ((bits .and .u64 (shrK .u64 x 1) 6148914691236517205) + (bits .and .u64 x 6148914691236517205))) 2) 3689348814741910323) + (bits .and .u64 (IntKind.u64.wrap ((bits .and .u64 (shrK .u64 x 1) 6148914691236517205) + (bits .and .u64 x 6148914691236517205))) 3689348814741910323))) 4) + (IntKind.u64.wrap ((bits .and .u64 (shrK .u64 (IntKind.u64.wrap ((bits .and .u64 (shrK .u64 x 1) 6148914691236517205) + (bits .and .u64 x 6148914691236517205))) 2) 3689348814741910323) + (bits .and .u64 (IntKind.u64.wrap ((bits .and .u64 (shrK .u64 x 1) 6148914691236517205) + (bits .and .u64 x 6148914691236517205))) 3689348814741910323))))) 1085102592571150095) 8))) 16))) + (shrK .u64 (IntKind.u64.wrap ((IntKind.u64.wrap ((bits .and .u64 (IntKind.u64.wrap ((shrK .u64 (IntKind.u64.wrap ((bits .and .u64 (shrK .u64 (IntKind.u64.wrap ((bits .and .u64 (shrK .u64 x 1) 6148914691236517205) + (bits .and .u64 x 6148914691236517205))) 2) 3689348814741910323) + (bits .and .u64 (IntKind.u64.wrap ((bits .and .u64 (shrK .u64 x 1) 6148914691236517205) + (bits .and .u64 x 6148914691236517205))) 3689348814741910323))) 4) + (IntKind.u64.wrap ((bits .and .u64 (shrK .u64 (IntKind.u64.wrap ((bits .and .u64 (shrK .u64 x 1) 6148914691236517205) + (bits .and .u64 x 6148914691236517205))) 2) 3689348814741910323) + (bits .and .u64 (IntKind.u64.wrap ((bits .and .u64 (shrK .u64 x 1) 6148914691236517205) + (bits .and .u64 x 6148914691236517205))) 3689348814741910323))))) 1085102592571150095) + (shrK .u64 (bits .and .u64 (IntKind.u64.wrap ((shrK .u64 (IntKind.u64.wrap ((bits .and .u64 (shrK .u64 (IntKind.u64.wrap ((bits .and .u64 (shrK .u64 x 1) 6148914691236517205) + (bits .and .u64 x 6148914691236517205))) 2) 3689348814741910323) + (bits .and .u64 (IntKind.u64.wrap ((bits .and .u64 (shrK .u64 x 1) 6148914691236517205) + (bits .and .u64 x 6148914691236517205))) 3689348814741910323))) 4) + (IntKind.u64.wrap ((bits .and .u64 (shrK .u64 (IntKind.u64.wrap ((bits .and .u64 (shrK .u64 x 1) 6148914691236517205) + (bits .and .u64 x 6148914691236517205))) 2) 3689348814741910323) + (bits .and .u64 (IntKind.u64.wrap ((bits .and .u64 (shrK .u64 x 1) 6148914691236517205) + (bits .and .u64 x 6148914691236517205))) 3689348814741910323))))) 1085102592571150095) 8))) + (shrK .u64 (IntKind.u64.wrap ((bits .and .u64 (IntKind.u64.wrap ((shrK .u64 (IntKind.u64.wrap ((bits .and .u64 (shrK .u64 (IntKind.u64.wrap ((bits .and .u64 (shrK .u64 x 1) 6148914691236517205) + (bits .and .u64 x 6148914691236517205))) 2) 3689348814741910323) + (bits .and .u64 (IntKind.u64.wrap ((bits .and .u64 (shrK .u64 x 1) 6148914691236517205) + (bits .and .u64 x 6148914691236517205))) 3689348814741910323))) 4) + (IntKind.u64.wrap ((bits .and .u64 (shrK .u64 (IntKind.u64.wrap ((bits .and .u64 (shrK .u64 x 1) 6148914691236517205) + (bits .and .u64 x 6148914691236517205))) 2) 3689348814741910323) + (bits .and .u64 (IntKind.u64.wrap ((bits .and .u64 (shrK .u64 x 1) 6148914691236517205) + (bits .and .u64 x 6148914691236517205))) 3689348814741910323))))) 1085102592571150095) + (shrK .u64 (bits .and .u64 (IntKind.u64.wrap ((shrK .u64 (IntKind.u64.wrap ((bits .and .u64 (shrK .u64 (IntKind.u64.wrap ((bits .and .u64 (shrK .u64 x 1) 6148914691236517205) + (bits .and .u64 x 6148914691236517205))) 2) 3689348814741910323) + (bits .and .u64 (IntKind.u64.wrap ((bits .and .u64 (shrK .u64 x 1) 6148914691236517205) + (bits .and .u64 x 6148914691236517205))) 3689348814741910323))) 4) + (IntKind.u64.wrap ((bits .and .u64 (shrK .u64 (IntKind.u64.wrap ((bits .and .u64 (shrK .u64 x 1) 6148914691236517205) + (bits .and .u64 x 6148914691236517205))) 2) 3689348814741910323) + (bits .and .u64 (IntKind.u64.wrap ((bits .and .u64 (shrK .u64 x 1) 6148914691236517205) + (bits .and .u64 x 6148914691236517205))) 3689348814741910323))))) 1085102592571150095) 8))) 16))) 32)))) rfl rfl) (rw_nil (cw_seq (cw_region ?_)))
 refine sQ 32 (Y_move (v := .int .u64 (IntKind.u64.wrap ((IntKind.u64.wrap ((IntKind.u64.wrap ((bits .and .u64 (IntKind.u64.wrap ((shrK .u64 (IntKind.u64.wrap ((bits .and .u64 (shrK .u64 (IntKind.u64.wrap ((bits .and .u64 (shrK .u64 x 1) 6148914691236517205) + (bits .and .u64 x 6148914691236517205))) 2) 3689348814741910323) + (bits .and .u64 (IntKind.u64.wrap ((bits .and .u64 (shrK .u64 x 1) 6148914691236517205) + (bits .and .u64 x 6148914691236517205))) 3689348814741910323))) 4) + (IntKind.u64.wrap ((bits .and .u64 (shrK .u64 (IntKind.u64.wrap ((bits .and .u64 (shrK .u64 x 1) 6148914691236517205) + (bits .and .u64 x 6148914691236517205))) 2) 3689348814741910323) + (bits .and .u64 (IntKind.u64.wrap ((bits .and .u64 (shrK .u64 x 1) 6148914691236517205) + (bits .and .u64 x 6148914691236517205))) 3689348814741910323))))) 1085102592571150095) + (shrK .u64 (bits .and .u64 (IntKind.u64.wrap ((shrK .u64 (IntKind.u64.wrap ((bits .and .u64 (shrK .u64 (IntKind.u64.wrap ((bits .and .u64 (shrK .u64 x 1) 6148914691236517205) + (bits .and .u64 x 6148914691236517205))) 2) 3689348814741910323) + (bits .and .u64 (IntKind.u64.wrap ((bits .and .u64 (shrK .u64 x 1) 6148914691236517205) + (bits .and .u64 x 6148914691236517205))) 3689348814741910323))) 4) + (IntKind.u64.wrap ((bits .and .u64 (shrK .u64 (IntKind.u64.wrap ((bits .and .u64 (shrK .u64 x 1) 6148914691236517205) + (bits .and .u64 x 6148914691236517205))) 2) 3689348814741910323) + (bits .and .u64 (IntKind.u64.wrap ((bits .and .u64 (shrK .u64 x 1) 6148914691236517205) + (bits .and .u64 x 6148914691236517205))) 3689348814741910323))))) 1085102592571150095) 8))) + (shrK .u64 (IntKind.u64.wrap ((bits .and .u64 (IntKind.u64.wrap ((shrK .u64 (IntKind.u64.wrap ((bits .and .u64 (shrK .u64 (IntKind.u64.wrap ((bits .and .u64 (shrK .u64 x 1) 6148914691236517205) + (bits .and .u64 x 6148914691236517205))) 2) 3689348814741910323) + (bits .and .u64 (IntKind.u64.wrap ((bits .and .u64 (shrK .u64 x 1) 6148914691236517205) + (bits .and .u64 x 6148914691236517205))) 3689348814741910323))) 4) + (IntKind.u64.wrap ((bits .and .u64 (shrK .u64 (IntKind.u64.wrap ((bits .and .u64 (shrK .u64 x 1) 6148914691236517205) + (bits .and .u64 x 6148914691236517205))) 2) 3689348814741910323) + (bits .and .u64 (IntKind.u64.wrap ((bits .and .u64 (shrK .u64 x 1) 6148914691236517205) + (bits .and .u64 x 6148914691236517205))) 3689348814741910323))))) 1085102592571150095) + (shrK .u64 (bits .and .u64 (IntKind.u64.wrap ((shrK .u64 (IntKind.u64.wrap ((bits .and .u64 (shrK .u64 (IntKind.u64.wrap ((bits .and .u64 (shrK .u64 x 1) 6148914691236517205) + (bits .and .u64 x 6148914691236517205))) 2) 3689348814741910323) + (bits .and .u64 (IntKind.u64.wrap ((bits .and .u64 (shrK .u64 x 1) 6148914691236517205) + (bits .and .u64 x 6148914691236517205))) 3689348814741910323))) 4) + (IntKind.u64.wrap ((bits .and .u64 (shrK .u64 (IntKind.u64.wrap ((bits .and .u64 (shrK .u64 x 1) 6148914691236517205) + (bits .and .u64 x 6148914691236517205))) 2) 3689348814741910323) + (bits .and .u64 (IntKind.u64.wrap ((bits .and .u64 (shrK .u64 x 1) 6148914691236517205) + (bits .and .u64 x 6148914691236517205))) 3689348814741910323))))) 1085102592571150095) 8))) 16))) + (shrK .u64 (IntKind.u64.wrap ((IntKind.u64.wrap ((bits .and .u64 (IntKind.u64.wrap ((shrK .u64 (IntKind.u64.wrap ((bits .and .u64 (shrK .u64 (IntKind.u64.wrap ((bits .and .u64 (shrK .u64 x 1) 6148914691236517205) + (bits .and .u64 x 6148914691236517205))) 2) 3689348814741910323) + (bits .and .u64 (IntKind.u64.wrap ((bits .and .u64 (shrK .u64 x 1) 6148914691236517205) + (bits .and .u64 x 6148914691236517205))) 3689348814741910323))) 4) + (IntKind.u64.wrap ((bits .and .u64 (shrK .u64 (IntKind.u64.wrap ((bits .and .u64 (shrK .u64 x 1) 6148914691236517205) + (bits .and .u64 x 6148914691236517205))) 2) 3689348814741910323) + (bits .and .u64 (IntKind.u64.wrap ((bits .and .u64 (shrK .u64 x 1) 6148914691236517205) + (bits .and .u64 x 6148914691236517205))) 3689348814741910323))))) 1085102592571150095) + (shrK .u64 (bits .and .u64 (IntKind.u64.wrap ((shrK .u64 (IntKind.u64.wrap ((bits .and .u64 (shrK .u64 (IntKind.u64.wrap ((bits .and .u64 (shrK .u64 x 1) 6148914691236517205) + (bits .and .u64 x 6148914691236517205))) 2) 3689348814741910323) + (bits .and .u64 (IntKind.u64.wrap ((bits .and .u64 (shrK .u64 x 1) 6148914691236517205) + (bits .and .u64 x 6148914691236517205))) 3689348814741910323))) 4) + (IntKind.u64.wrap ((bits .and .u64 (shrK .u64 (IntKind.u64.wrap ((bits .and .u64 (shrK .u64 x 1) 6148914691236517205) + (bits .and .u64 x 6148914691236517205))) 2) 3689348814741910323) + (bits .and .u64 (IntKind.u64.wrap ((bits .and .u64 (shrK .u64 x 1) 6148914691236517205) + (bits .and .u64 x 6148914691236517205))) 3689348814741910323))))) 1085102592571150095) 8))) + (shrK .u64 (IntKind.u64.wrap ((bits .and .u64 (IntKind.u64.wrap ((shrK .u64 (IntKind.u64.wrap ((bits .and .u64 (shrK .u64 (IntKind.u64.wrap ((bits .and .u64 (shrK .u64 x 1) 6148914691236517205) + (bits .and .u64 x 6148914691236517205))) 2) 3689348814741910323) + (bits .and .u64 (IntKind.u64.wrap ((bits .and .u64 (shrK .u64 x 1) 6148914691236517205) + (bits .and .u64 x 6148914691236517205))) 3689348814741910323))) 4) + (IntKind.u64.wrap ((bits .and .u64 (shrK .u64 (IntKind.u64.wrap ((bits .and .u64 (shrK .u64 x 1) 6148914691236517205) + (bits .and .u64 x 6148914691236517205))) 2) 3689348814741910323) + (bits .and .u64 (IntKind.u64.wrap ((bits .and .u64 (shrK .u64 x 1) 6148914691236517205) + (bits .and .u64 x 6148914691236517205))) 3689348814741910323))))) 1085102592571150095) + (shrK .u64 (bits .and .u64 (IntKind.u64.wrap ((shrK .u64 (IntKind.u64.wrap ((bits .and .u64 (shrK .u64 (IntKind.u64.wrap ((bits .and .u64 (shrK .u64 x 1) 6148914691236517205) + (bits .and .u64 x 6148914691236517205))) 2) 3689348814741910323) + (bits .and .u64 (IntKind.u64.wrap ((bits .and .u64 (shrK .u64 x 1) 6148914691236517205) + (bits .and .u64 x 6148914691236517205))) 3689348814741910323))) 4) + (IntKind.u64.wrap ((bits .and .u64 (shrK .u64 (IntKind.u64.wrap ((bits .and .u64 (shrK .u64 x 1) 6148914691236517205) + (bits .and .u64 x 6148914691236517205))) 2) 3689348814741910323) + (bits .and .u64 (IntKind.u64.wrap ((bits .and .u64 (shrK .u64 x 1) 6148914691236517205) + (bits .and .u64 x 6148914691236517205))) 3689348814741910323))))) 1085102592571150095) 8))) 16))) 32)))) rfl rfl) ?_
 refine sQ 33 (Y_conv (k := .u64) (a := (IntKind.u64.wrap ((IntKind.u64.wrap ((IntKind.u64.wrap ((bits .and .u64 (IntKind.u64.wrap ((shrK .u64 (IntKind.u64.wrap ((bits .and .u64 (shrK .u64 (IntKind.u64.wrap ((bits .and .u64 (shrK .u64 x 1) 6148914691236517205) + (bits .and .u64 x 6148914691236517205))) 2) 3689348814741910323) + (bits .and .u64 (IntKind.u64.wrap ((bits .and .u64 (shrK .u64 x 1) 6148914691236517205) + (bits .and .u64 x 6148914691236517205))) 3689348814741910323))) 4) + (IntKind.u64.wrap ((bits .and .u64 (shrK .u64 (IntKind.u64.wrap ((bits .and .u64 (shrK .u64 x 1) 6148914691236517205) + (bits .and .u64 x 6148914691236517205))) 2) 3689348814741910323) + (bits .and .u64 (IntKind.u64.wrap ((bits .and .u64 (shrK .u64 x 1) 6148914691236517205) + (bits .and .u64 x 6148914691236517205))) 3689348814741910323))))) 1085102592571150095) + (shrK .u64 (bits .and .u64 (IntKind.u64.wrap ((shrK .u64 (IntKind.u64.wrap ((bits .and .u64 (shrK .u64 (IntKind.u64.wrap ((bits .and .u64 (shrK .u64 x 1) 6148914691236517205) + (bits .and .u64 x 6148914691236517205))) 2) 3689348814741910323) + (bits .and .u64 (IntKind.u64.wrap ((bits .and .u64 (shrK .u64 x 1) 6148914691236517205) + (bits .and .u64 x 6148914691236517205))) 3689348814741910323))) 4) + (IntKind.u64.wrap ((bits .and .u64 (shrK .u64 (IntKind.u64.wrap ((bits .and .u64 (shrK .u64 x 1) 6148914691236517205) + (bits .and .u64 x 6148914691236517205))) 2) 3689348814741910323) + (bits .and .u64 (IntKind.u64.wrap ((bits .and .u64 (shrK .u64 x 1) 6148914691236517205) + (bits .and .u64 x 6148914691236517205))) 3689348814741910323))))) 1085102592571150095) 8))) + (shrK .u64 (IntKind.u64.wrap ((bits .and .u64 (IntKind.u64.wrap ((shrK .u64 (IntKind.u64.wrap ((bits .and .u64 (shrK .u64 (IntKind.u64.wrap ((bits .and .u64 (shrK .u64 x 1) 6148914691236517205) + (bits .and .u64 x 6148914691236517205))) 2) 3689348814741910323) + (bits .and .u64 (IntKind.u64.wrap ((bits .and .u64 (shrK .u64 x 1) 6148914691236517205) + (bits .and .u64 x 6148914691236517205))) 3689348814741910323))) 4) + (IntKind.u64.wrap ((bits .and .u64 (shrK .u64 (IntKind.u64.wrap ((bits .and .u64 (shrK .u64 x 1) 6148914691236517205) + (bits .and .u64 x 6148914691236517205))) 2) 3689348814741910323) + (bits .and .u64 (IntKind.u64.wrap ((bits .and .u64 (shrK .u64 x 1) 6148914691236517205) + (bits .and .u64 x 6148914691236517205))) 3689348814741910323))))) 1085102592571150095) + (shrK .u64 (bits .and .u64 (IntKind.u64.wrap ((shrK .u64 (IntKind.u64.wrap ((bits .and .u64 (shrK .u64 (IntKind.u64.wrap ((bits .and .u64 (shrK .u64 x 1) 6148914691236517205) + (bits .and .u64 x 6148914691236517205))) 2) 3689348814741910323) + (bits .and .u64 (IntKind.u64.wrap ((bits .and .u64 (shrK .u64 x 1) 6148914691236517205) + (bits .and .u64 x 6148914691236517205))) 3689348814741910323))) 4) + (IntKind.u64.wrap ((bits .and .u64 (shrK .u64 (IntKind.u64.wrap ((bits .and .u64 (shrK .u64 x 1) 6148914691236517205) + (bits .and .u64 x 6148914691236517205))) 2) 3689348814741910323) + (bits .and .u64 (IntKind.u64.wrap ((bits .and .u64 (shrK .u64 x 1) 6148914691236517205) + (bits .and .u64 x 6148914691236517205))) 3689348814741910323))))) 1085102592571150095) 8))) 16))) + (shrK .u64 (IntKind.u64.wrap ((IntKind.u64.wrap ((bits .and .u64 (IntKind.u64.wrap ((shrK .u64 (IntKind.u64.wrap ((bits .and .u64 (shrK .u64 (IntKind.u64.wrap ((bits .and .u64 (shrK .u64 x 1) 6148914691236517205) + (bits .and .u64 x 6148914691236517205))) 2) 3689348814741910323) + (bits .and .u64 (IntKind.u64.wrap ((bits .and .u64 (shrK .u64 x 1) 6148914691236517205) + (bits .and .u64 x 6148914691236517205))) 3689348814741910323))) 4) + (IntKind.u64.wrap ((bits .and .u64 (shrK .u64 (IntKind.u64.wrap ((bits .and .u64 (shrK .u64 x 1) 6148914691236517205) + (bits .and .u64 x 6148914691236517205))) 2) 3689348814741910323) + (bits .and .u64 (IntKind.u64.wrap ((bits .and .u64 (shrK .u64 x 1) 6148914691236517205) + (bits .and .u64 x 6148914691236517205))) 3689348814741910323))))) 1085102592571150095) + (shrK .u64 (bits .and .u64 (IntKind.u64.wrap ((shrK .u64 (IntKind.u64.wrap ((bits .and .u64 (shrK .u64 (IntKind.u64.wrap ((bits .and .u64 (shrK .u64 x 1) 6148914691236517205) + (bits .and .u64 x 6148914691236517205))) 2) 3689348814741910323) + (bits .and .u64 (IntKind.u64.wrap ((bits .and .u64 (shrK .u64 x 1) 6148914691236517205) + (bits .and .u64 x 6148914691236517205))) 3689348814741910323))) 4) + (IntKind.u64.wrap ((bits .and .u64 (shrK .u64 (IntKind.u64.wrap ((bits .and .u64 (shrK .u64 x 1) 6148914691236517205) + (bits .and .u64 x 6148914691236517205))) 2) 3689348814741910323) + (bits .and .u64 (IntKind.u64.wrap ((bits .and .u64 (shrK .u64 x 1) 6148914691236517205) + (bits .and .u64 x 6148914691236517205))) 3689348814741910323))))) 1085102592571150095) 8))) + (shrK .u64 (IntKind.u64.wrap ((bits .and .u64 (IntKind.u64.wrap ((shrK .u64 (IntKind.u64.wrap ((bits .and .u64 (shrK .u64 (IntKind.u64.wrap ((bits .and .u64 (shrK .u64 x 1) 6148914691236517205) + (bits .and .u64 x 6148914691236517205))) 2) 3689348814741910323) + (bits .and .u64 (IntKind.u64.wrap ((bits .and .u64 (shrK .u64 x 1) 6148914691236517205) + (bits .and .u64 x 6148914691236517205))) 3689348814741910323))) 4) + (IntKind.u64.wrap ((bits .and .u64 (shrK .u64 (IntKind.u64.wrap ((bits .and .u64 (shrK .u64 x 1) 6148914691236517205) + (bits .and .u64 x 6148914691236517205))) 2) 3689348814741910323) + (bits .and .u64 (IntKind.u64.wrap ((bits .and .u64 (shrK .u64 x 1) 6148914691236517205) + (bits .and .u64 x 6148914691236517205))) 3689348814741910323))))) 1085102592571150095) + (shrK .u64 (bits .and .u64 (IntKind.u64.wrap ((shrK .u64 (IntKind.u64.wrap ((bits .and .u64 (shrK .u64 (IntKind.u64.wrap ((bits .and .u64 (shrK .u64 x 1) 6148914691236517205) + (bits .and .u64 x 6148914691236517205))) 2) 3689348814741910323) + (bits .and .u64 (IntKind.u64.wrap ((bits .and .u64 (shrK .u64 x 1) 6148914691236517205) + (bits .and .u64 x 6148914691236517205))) 3689348814741910323))) 4) + (IntKind.u64.wrap ((bits .and .u64 (shrK .u64 (IntKind.u64.wrap ((bits .and .u64 (shrK .u64 x 1) 6148914691236517205) + (bits .and .u64 x 6148914691236517205))) 2) 3689348814741910323) + (bits .and .u64 (IntKind.u64.wrap ((bits .and .u64 (shrK .u64 x 1) 6148914691236517205) + (bits .and .u64 x 6148914691236517205))) 3689348814741910323))))) 1085102592571150095) 8))) 16))) 32)))) (T := 91) (T' := 3) k_us_91 k_int_3_i64 rfl rfl) ?_
 refine sQ 34 (Y_band (k := .i64) (a := (i64.wrap (IntKind.u64.wrap ((IntKind.u64.wrap ((IntKind.u64.wrap ((bits .and .u64 (IntKind.u64.wrap ((shrK .u64 (IntKind.u64.wrap ((bits .and .u64 (shrK .u64 (IntKind.u64.wrap ((bits .and .u64 (shrK .u64 x 1) 6148914691236517205) + (bits .and .u64 x 6148914691236517205))) 2) 3689348814741910323) + (bits .and .u64 (IntKind.u64.wrap ((bits .and .u64 (shrK .u64 x 1) 6148914691236517205) + (bits .and .u64 x 6148914691236517205))) 3689348814741910323))) 4) + (IntKind.u64.wrap ((bits .and .u64 (shrK .u64 (IntKind.u64.wrap ((bits .and .u64 (shrK .u64 x 1) 6148914691236517205) + (bits .and .u64 x 6148914691236517205))) 2) 3689348814741910323) + (bits .and .u64 (IntKind.u64.wrap ((bits .and .u64 (shrK .u64 x 1) 6148914691236517205) + (bits .and .u64 x 6148914691236517205))) 3689348814741910323))))) 1085102592571150095) + (shrK .u64 (bits .and .u64 (IntKind.u64.wrap ((shrK .u64 (IntKind.u64.wrap ((bits .and .u64 (shrK .u64 (IntKind.u64.wrap ((bits .and .u64 (shrK .u64 x 1) 6148914691236517205) + (bits .and .u64 x 6148914691236517205))) 2) 3689348814741910323) + (bits .and .u64 (IntKind.u64.wrap ((bits .and .u64 (shrK .u64 x 1) 6148914691236517205) + (bits .and .u64 x 6148914691236517205))) 3689348814741910323))) 4) + (IntKind.u64.wrap ((bits .and .u64 (shrK .u64 (IntKind.u64.wrap ((bits .and .u64 (shrK .u64 x 1) 6148914691236517205) + (bits .and .u64 x 6148914691236517205))) 2) 3689348814741910323) + (bits .and .u64 (IntKind.u64.wrap ((bits .and .u64 (shrK .u64 x 1) 6148914691236517205) + (bits .and .u64 x 6148914691236517205))) 3689348814741910323))))) 1085102592571150095) 8))) + (shrK .u64 (IntKind.u64.wrap ((bits .and .u64 (IntKind.u64.wrap ((shrK .u64 (IntKind.u64.wrap ((bits .and .u64 (shrK .u64 (IntKind.u64.wrap ((bits .and .u64 (shrK .u64 x 1) 6148914691236517205) + (bits .and .u64 x 6148914691236517205))) 2) 3689348814741910323) + (bits .and .u64 (IntKind.u64.wrap ((bits .and .u64 (shrK .u64 x 1) 6148914691236517205) + (bits .and .u64 x 6148914691236517205))) 3689348814741910323))) 4) + (IntKind.u64.wrap ((bits .and .u64 (shrK .u64 (IntKind.u64.wrap ((bits .and .u64 (shrK .u64 x 1) 6148914691236517205) + (bits .and .u64 x 6148914691236517205))) 2) 3689348814741910323) + (bits .and .u64 (IntKind.u64.wrap ((bits .and .u64 (shrK .u64 x 1) 6148914691236517205) + (bits .and .u64 x 6148914691236517205))) 3689348814741910323))))) 1085102592571150095) + (shrK .u64 (bits .and .u64 (IntKind.u64.wrap ((shrK .u64 (IntKind.u64.wrap ((bits .and .u64 (shrK .u64 (IntKind.u64.wrap ((bits .and .u64 (shrK .u64 x 1) 6148914691236517205) + (bits .and .u64 x 6148914691236517205))) 2) 3689348814741910323) + (bits .and .u64 (IntKind.u64.wrap ((bits .and .u64 (shrK .u64 x 1) 6148914691236517205) + (bits .and .u64 x 6148914691236517205))) 3689348814741910323))) 4) + (IntKind.u64.wrap ((bits .and .u64 (shrK .u64 (IntKind.u64.wrap ((bits .and .u64 (shrK .u64 x 1) 6148914691236517205) + (bits .and .u64 x 6148914691236517205))) 2) 3689348814741910323) + (bits .and .u64 (IntKind.u64.wrap ((bits .and .u64 (shrK .u64 x 1) 6148914691236517205) + (bits .and .u64 x 6148914691236517205))) 3689348814741910323))))) 1085102592571150095) 8))) 16))) + (shrK .u64 (IntKind.u64.wrap ((IntKind.u64.wrap ((bits .and .u64 (IntKind.u64.wrap ((shrK .u64 (IntKind.u64.wrap ((bits .and .u64 (shrK .u64 (IntKind.u64.wrap ((bits .and .u64 (shrK .u64 x 1) 6148914691236517205) + (bits .and .u64 x 6148914691236517205))) 2) 3689348814741910323) + (bits .and .u64 (IntKind.u64.wrap ((bits .and .u64 (shrK .u64 x 1) 6148914691236517205) + (bits .and .u64 x 6148914691236517205))) 3689348814741910323))) 4) + (IntKind.u64.wrap ((bits .and .u64 (shrK .u64 (IntKind.u64.wrap ((bits .and .u64 (shrK .u64 x 1) 6148914691236517205) + (bits .and .u64 x 6148914691236517205))) 2) 3689348814741910323) + (bits .and .u64 (IntKind.u64.wrap ((bits .and .u64 (shrK .u64 x 1) 6148914691236517205) + (bits .and .u64 x 6148914691236517205))) 3689348814741910323))))) 1085102592571150095) + (shrK .u64 (bits .and .u64 (IntKind.u64.wrap ((shrK .u64 (IntKind.u64.wrap ((bits .and .u64 (shrK .u64 (IntKind.u64.wrap ((bits .and .u64 (shrK .u64 x 1) 6148914691236517205) + (bits .and .u64 x 6148914691236517205))) 2) 3689348814741910323) + (bits .and .u64 (IntKind.u64.wrap ((bits .and .u64 (shrK .u64 x 1) 6148914691236517205) + (bits .and .u64 x 6148914691236517205))) 3689348814741910323))) 4) + (IntKind.u64.wrap ((bits .and .u64 (shrK .u64 (IntKind.u64.wrap ((bits .and .u64 (shrK .u64 x 1) 6148914691236517205) + (bits .and .u64 x 6148914691236517205))) 2) 3689348814741910323) + (bits .and .u64 (IntKind.u64.wrap ((bits .and .u64 (shrK .u64 x 1) 6148914691236517205) + (bits .and .u64 x 6148914691236517205))) 3689348814741910323))))) 1085102592571150095) 8))) + (shrK .u64 (IntKind.u64.wrap ((bits .and .u64 (IntKind.u64.wrap ((shrK .u64 (IntKind.u64.wrap ((bits .and .u64 (shrK .u64 (IntKind.u64.wrap ((bits .and .u64 (shrK .u64 x 1) 6148914691236517205) + (bits .and .u64 x 6148914691236517205))) 2) 3689348814741910323) + (bits .and .u64 (IntKind.u64.wrap ((bits .and .u64 (shrK .u64 x 1) 6148914691236517205) + (bits .and .u64 x 6148914691236517205))) 3689348814741910323))) 4) + (IntKind.u64.wrap ((bits .and .u64 (shrK .u64 (IntKind.u64.wrap ((bits .and .u64 (shrK .u64 x 1) 6148914691236517205) + (bits .and .u64 x 6148914691236517205))) 2) 3689348814741910323) + (bits .and .u64 (IntKind.u64.wrap ((bits .and .u64 (shrK .u64 x 1) 6148914691236517205) + (bits .and .u64 x 6148914691236517205))) 3689348814741910323))))) 1085102592571150095) + (shrK .u64 (bits .and .u64 (IntKind.u64.wrap ((shrK .u64 (IntKind.u64.wrap ((bits .and .u64 (shrK .u64 (IntKind.u64.wrap ((bits .and .u64 (shrK .u64 x 1) 6148914691236517205) + (bits .and .u64 x 6148914691236517205))) 2) 3689348814741910323) + (bits .and .u64 (IntKind.u64.wrap ((bits .and .u64 (shrK .u64 x 1) 6148914691236517205) + (bits .and .u64 x 6148914691236517205))) 3689348814741910323))) 4) + (IntKind.u64.wrap ((bits .and .u64 (shrK .u64 (IntKind.u64.wrap ((bits .and .u64 (shrK .u64 x 1) 6148914691236517205) + (bits .and .u64 x 6148914691236517205))) 2) 3689348814741910323) + (bits .and .u64 (IntKind.u64.wrap ((bits .and .u64 (shrK .u64 x 1) 6148914691236517205) + (bits .and .u64 x 6148914691236517205))) 3689348814741910323))))) 1085102592571150095) 8))) 16))) 32))))) (b := 127) rfl rfl rfl) ?_
 refine sQ 2 (Y_assign (v := vi (bits .and .i64 (i64.wrap (IntKind.u64.wrap ((IntKind.u64.wrap ((IntKind.u64.wrap ((bits .and .u64 (IntKind.u64.wrap ((shrK .u64 (IntKind.u64.wrap ((bits .and .u64 (shrK .u64 (IntKind.u64.wrap ((bits .and .u64 (shrK .u64 x 1) 6148914691236517205) + (bits .and .u64 x 6148914691236517205))) 2) 3689348814741910323) + (bits .and .u64 (IntKind.u64.wrap ((bits .and .u64 (shrK .u64 x 1) 6148914691236517205) + (bits .and .u64 x 6148914691236517205))) 3689348814741910323))) 4) + (IntKind.u64.wrap ((bits .and .u64 (shrK .u64 (IntKind.u64.wrap ((bits .and .u64 (shrK .u64 x 1) 6148914691236517205) + (bits .and .u64 x 6148914691236517205))) 2) 3689348814741910323) + (bits .and .u64 (IntKind.u64.wrap ((bits .and .u64 (shrK .u64 x 1) 6148914691236517205) + (bits .and .u64 x 6148914691236517205))) 3689348814741910323))))) 1085102592571150095) + (shrK .u64 (bits .and .u64 (IntKind.u64.wrap ((shrK .u64 (IntKind.u64.wrap ((bits .and .u64 (shrK .u64 (IntKind.u64.wrap ((bits .and .u64 (shrK .u64 x 1) 6148914691236517205) + (bits .and .u64 x 6148914691236517205))) 2) 3689348814741910323) + (bits .and .u64 (IntKind.u64.wrap ((bits .and .u64 (shrK .u64 x 1) 6148914691236517205) + (bits .and .u64 x 6148914691236517205))) 3689348814741910323))) 4) + (IntKind.u64.wrap ((bits .and .u64 (shrK .u64 (IntKind.u64.wrap ((bits .and .u64 (shrK .u64 x 1) 6148914691236517205) + (bits .and .u64 x 6148914691236517205))) 2) 3689348814741910323) + (bits .and .u64 (IntKind.u64.wrap ((bits .and .u64 (shrK .u64 x 1) 6148914691236517205) + (bits .and .u64 x 6148914691236517205))) 3689348814741910323))))) 1085102592571150095) 8))) + (shrK .u64 (IntKind.u64.wrap ((bits .and .u64 (IntKind.u64.wrap ((shrK .u64 (IntKind.u64.wrap ((bits .and .u64 (shrK .u64 (IntKind.u64.wrap ((bits .and .u64 (shrK .u64 x 1) 6148914691236517205) + (bits .and .u64 x 6148914691236517205))) 2) 3689348814741910323) + (bits .and .u64 (IntKind.u64.wrap ((bits .and .u64 (shrK .u64 x 1) 6148914691236517205) + (bits .and .u64 x 6148914691236517205))) 3689348814741910323))) 4) + (IntKind.u64.wrap ((bits .and .u64 (shrK .u64 (IntKind.u64.wrap ((bits .and .u64 (shrK .u64 x 1) 6148914691236517205) + (bits .and .u64 x 6148914691236517205))) 2) 3689348814741910323) + (bits .and .u64 (IntKind.u64.wrap ((bits .and .u64 (shrK .u64 x 1) 6148914691236517205) + (bits .and .u64 x 6148914691236517205))) 3689348814741910323))))) 1085102592571150095) + (shrK .u64 (bits .and .u64 (IntKind.u64.wrap ((shrK .u64 (IntKind.u64.wrap ((bits .and .u64 (shrK .u64 (IntKind.u64.wrap ((bits .and .u64 (shrK .u64 x 1) 6148914691236517205) + (bits .and .u64 x 6148914691236517205))) 2) 3689348814741910323) + (bits .and .u64 (IntKind.u64.wrap ((bits .and .u64 (shrK .u64 x 1) 6148914691236517205) + (bits .and .u64 x 6148914691236517205))) 3689348814741910323))) 4) + (IntKind.u64.wrap ((bits .and .u64 (shrK .u64 (IntKind.u64.wrap ((bits .and .u64 (shrK .u64 x 1) 6148914691236517205) + (bits .and .u64 x 6148914691236517205))) 2) 3689348814741910323) + (bits .and .u64 (IntKind.u64.wrap ((bits .and .u64 (shrK .u64 x 1) 6148914691236517205) + (bits .and .u64 x 6148914691236517205))) 3689348814741910323))))) 1085102592571150095) 8))) 16))) + (shrK .u64 (IntKind.u64.wrap ((IntKind.u64.wrap ((bits .and .u64 (IntKind.u64.wrap ((shrK .u64 (IntKind.u64.wrap ((bits .and .u64 (shrK .u64 (IntKind.u64.wrap ((bits .and .u64 (shrK .u64 x 1) 6148914691236517205) + (bits .and .u64 x 6148914691236517205))) 2) 3689348814741910323) + (bits .and .u64 (IntKind.u64.wrap ((bits .and .u64 (shrK .u64 x 1) 6148914691236517205) + (bits .and .u64 x 6148914691236517205))) 3689348814741910323))) 4) + (IntKind.u64.wrap ((bits .and .u64 (shrK .u64 (IntKind.u64.wrap ((bits .and .u64 (shrK .u64 x 1) 6148914691236517205) + (bits .and .u64 x 6148914691236517205))) 2) 3689348814741910323) + (bits .and .u64 (IntKind.u64.wrap ((bits .and .u64 (shrK .u64 x 1) 6148914691236517205) + (bits .and .u64 x 6148914691236517205))) 3689348814741910323))))) 1085102592571150095) + (shrK .u64 (bits .and .u64 (IntKind.u64.wrap ((shrK .u64 (IntKind.u64.wrap ((bits .and .u64 (shrK .u64 (IntKind.u64.wrap ((bits .and .u64 (shrK .u64 x 1) 6148914691236517205) + (bits .and .u64 x 6148914691236517205))) 2) 3689348814741910323) + (bits .and .u64 (IntKind.u64.wrap ((bits .and .u64 (shrK .u64 x 1) 6148914691236517205) + (bits .and .u64 x 6148914691236517205))) 3689348814741910323))) 4) + (IntKind.u64.wrap ((bits .and .u64 (shrK .u64 (IntKind.u64.wrap ((bits .and .u64 (shrK .u64 x 1) 6148914691236517205) + (bits .and .u64 x 6148914691236517205))) 2) 3689348814741910323) + (bits .and .u64 (IntKind.u64.wrap ((bits .and .u64 (shrK .u64 x 1) 6148914691236517205) + (bits .and .u64 x 6148914691236517205))) 3689348814741910323))))) 1085102592571150095) 8))) + (shrK .u64 (IntKind.u64.wrap ((bits .and .u64 (IntKind.u64.wrap ((shrK .u64 (IntKind.u64.wrap ((bits .and .u64 (shrK .u64 (IntKind.u64.wrap ((bits .and .u64 (shrK .u64 x 1) 6148914691236517205) + (bits .and .u64 x 6148914691236517205))) 2) 3689348814741910323) + (bits .and .u64 (IntKind.u64.wrap ((bits .and .u64 (shrK .u64 x 1) 6148914691236517205) + (bits .and .u64 x 6148914691236517205))) 3689348814741910323))) 4) + (IntKind.u64.wrap ((bits .and .u64 (shrK .u64 (IntKind.u64.wrap ((bits .and .u64 (shrK .u64 x 1) 6148914691236517205) + (bits .and .u64 x 6148914691236517205))) 2) 3689348814741910323) + (bits .and .u64 (IntKind.u64.wrap ((bits .and .u64 (shrK .u64 x 1) 6148914691236517205) + (bits .and .u64 x 6148914691236517205))) 3689348814741910323))))) 1085102592571150095) + (shrK .u64 (bits .and .u64 (IntKind.u64.wrap ((shrK .u64 (IntKind.u64.wrap ((bits .and .u64 (shrK .u64 (IntKind.u64.wrap ((bits .and .u64 (shrK .u64 x 1) 6148914691236517205) + (bits .and .u64 x 6148914691236517205))) 2) 3689348814741910323) + (bits .and .u64 (IntKind.u64.wrap ((bits .and .u64 (shrK .u64 x 1) 6148914691236517205) + (bits .and .u64 x 6148914691236517205))) 3689348814741910323))) 4) + (IntKind.u64.wrap ((bits .and .u64 (shrK .u64 (IntKind.u64.wrap ((bits .and .u64 (shrK .u64 x 1) 6148914691236517205) + (bits .and .u64 x 6148914691236517205))) 2) 3689348814741910323) + (bits .and .u64 (IntKind.u64.wrap ((bits .and .u64 (shrK .u64 x 1) 6148914691236517205) + (bits .and .u64 x 6148914691236517205))) 3689348814741910323))))) 1085102592571150095) 8))) 16))) 32)))) 127)) rfl rfl) (rw_nil (cw_ret ?_))
 obtain rfl := some_inj hF
 exact ret1 Tryd.results65 (v1 := vi (bits .and .i64 (i64.wrap (IntKind.u64.wrap ((IntKind.u64.wrap ((IntKind.u64.wrap ((bits .and .u64 (IntKind.u64.wrap ((shrK .u64 (IntKind.u64.wrap ((bits .and .u64 (shrK .u64 (IntKind.u64.wrap ((bits .and .u64 (shrK .u64 x 1) 6148914691236517205) + (bits .and .u64 x 6148914691236517205))) 2) 3689348814741910323) + (bits .and .u64 (IntKind.u64.wrap ((bits .and .u64 (shrK .u64 x 1) 6148914691236517205) + (bits .and .u64 x 6148914691236517205))) 3689348814741910323))) 4) + (IntKind.u64.wrap ((bits .and .u64 (shrK .u64 (IntKind.u64.wrap ((bits .and .u64 (shrK .u64 x 1) 6148914691236517205) + (bits .and .u64 x 6148914691236517205))) 2) 3689348814741910323) + (bits .and .u64 (IntKind.u64.wrap ((bits .and .u64 (shrK .u64 x 1) 6148914691236517205) + (bits .and .u64 x 6148914691236517205))) 3689348814741910323))))) 1085102592571150095) + (shrK .u64 (bits .and .u64 (IntKind.u64.wrap ((shrK .u64 (IntKind.u64.wrap ((bits .and .u64 (shrK .u64 (IntKind.u64.wrap ((bits .and .u64 (shrK .u64 x 1) 6148914691236517205) + (bits .and .u64 x 6148914691236517205))) 2) 3689348814741910323) + (bits .and .u64 (IntKind.u64.wrap ((bits .and .u64 (shrK .u64 x 1) 6148914691236517205) + (bits .and .u64 x 6148914691236517205))) 3689348814741910323))) 4) + (IntKind.u64.wrap ((bits .and .u64 (shrK .u64 (IntKind.u64.wrap ((bits .and .u64 (shrK .u64 x 1) 6148914691236517205) + (bits .and .u64 x 6148914691236517205))) 2) 3689348814741910323) + (bits .and .u64 (IntKind.u64.wrap ((bits .and .u64 (shrK .u64 x 1) 6148914691236517205) + (bits .and .u64 x 6148914691236517205))) 3689348814741910323))))) 1085102592571150095) 8))) + (shrK .u64 (IntKind.u64.wrap ((bits .and .u64 (IntKind.u64.wrap ((shrK .u64 (IntKind.u64.wrap ((bits .and .u64 (shrK .u64 (IntKind.u64.wrap ((bits .and .u64 (shrK .u64 x 1) 6148914691236517205) + (bits .and .u64 x 6148914691236517205))) 2) 3689348814741910323) + (bits .and .u64 (IntKind.u64.wrap ((bits .and .u64 (shrK .u64 x 1) 6148914691236517205) + (bits .and .u64 x 6148914691236517205))) 3689348814741910323))) 4) + (IntKind.u64.wrap ((bits .and .u64 (shrK .u64 (IntKind.u64.wrap ((bits .and .u64 (shrK .u64 x 1) 6148914691236517205) + (bits .and .u64 x 6148914691236517205))) 2) 3689348814741910323) + (bits .and .u64 (IntKind.u64.wrap ((bits .and .u64 (shrK .u64 x 1) 6148914691236517205) + (bits .and .u64 x 6148914691236517205))) 3689348814741910323))))) 1085102592571150095) + (shrK .u64 (bits .and .u64 (IntKind.u64.wrap ((shrK .u64 (IntKind.u64.wrap ((bits .and .u64 (shrK .u64 (IntKind.u64.wrap ((bits .and .u64 (shrK .u64 x 1) 6148914691236517205) + (bits .and .u64 x 6148914691236517205))) 2) 3689348814741910323) + (bits .and .u64 (IntKind.u64.wrap ((bits .and .u64 (shrK .u64 x 1) 6148914691236517205) + (bits .and .u64 x 6148914691236517205))) 3689348814741910323))) 4) + (IntKind.u64.wrap ((bits .and .u64 (shrK .u64 (IntKind.u64.wrap ((bits .and .u64 (shrK .u64 x 1) 6148914691236517205) + (bits .and .u64 x 6148914691236517205))) 2) 3689348814741910323) + (bits .and .u64 (IntKind.u64.wrap ((bits .and .u64 (shrK .u64 x 1) 6148914691236517205) + (bits .and .u64 x 6148914691236517205))) 3689348814741910323))))) 1085102592571150095) 8))) 16))) + (shrK .u64 (IntKind.u64.wrap ((IntKind.u64.wrap ((bits .and .u64 (IntKind.u64.wrap ((shrK .u64 (IntKind.u64.wrap ((bits .and .u64 (shrK .u64 (IntKind.u64.wrap ((bits .and .u64 (shrK .u64 x 1) 6148914691236517205) + (bits .and .u64 x 6148914691236517205))) 2) 3689348814741910323) + (bits .and .u64 (IntKind.u64.wrap ((bits .and .u64 (shrK .u64 x 1) 6148914691236517205) + (bits .and .u64 x 6148914691236517205))) 3689348814741910323))) 4) + (IntKind.u64.wrap ((bits .and .u64 (shrK .u64 (IntKind.u64.wrap ((bits .and .u64 (shrK .u64 x 1) 6148914691236517205) + (bits .and .u64 x 6148914691236517205))) 2) 3689348814741910323) + (bits .and .u64 (IntKind.u64.wrap ((bits .and .u64 (shrK .u64 x 1) 6148914691236517205) + (bits .and .u64 x 6148914691236517205))) 3689348814741910323))))) 1085102592571150095) + (shrK .u64 (bits .and .u64 (IntKind.u64.wrap ((shrK .u64 (IntKind.u64.wrap ((bits .and .u64 (shrK .u64 (IntKind.u64.wrap ((bits .and .u64 (shrK .u64 x 1) 6148914691236517205) + (bits .and .u64 x 6148914691236517205))) 2) 3689348814741910323) + (bits .and .u64 (IntKind.u64.wrap ((bits .and .u64 (shrK .u64 x 1) 6148914691236517205) + (bits .and .u64 x 6148914691236517205))) 3689348814741910323))) 4) + (IntKind.u64.wrap ((bits .and .u64 (shrK .u64 (IntKind.u64.wrap ((bits .and .u64 (shrK .u64 x 1) 6148914691236517205) + (bits .and .u64 x 6148914691236517205))) 2) 3689348814741910323) + (bits .and .u64 (IntKind.u64.wrap ((bits .and .u64 (shrK .u64 x 1) 6148914691236517205) + (bits .and .u64 x 6148914691236517205))) 3689348814741910323))))) 1085102592571150095) 8))) + (shrK .u64 (IntKind.u64.wrap ((bits .and .u64 (IntKind.u64.wrap ((shrK .u64 (IntKind.u64.wrap ((bits .and .u64 (shrK .u64 (IntKind.u64.wrap ((bits .and .u64 (shrK .u64 x 1) 6148914691236517205) + (bits .and .u64 x 6148914691236517205))) 2) 3689348814741910323) + (bits .and .u64 (IntKind.u64.wrap ((bits .and .u64 (shrK .u64 x 1) 6148914691236517205) + (bits .and .u64 x 6148914691236517205))) 3689348814741910323))) 4) + (IntKind.u64.wrap ((bits .and .u64 (shrK .u64 (IntKind.u64.wrap ((bits .and .u64 (shrK .u64 x 1) 6148914691236517205) + (bits .and .u64 x 6148914691236517205))) 2) 3689348814741910323) + (bits .and .u64 (IntKind.u64.wrap ((bits .and .u64 (shrK .u64 x 1) 6148914691236517205) + (bits .and .u64 x 6148914691236517205))) 3689348814741910323))))) 1085102592571150095) + (shrK .u64 (bits .and .u64 (IntKind.u64.wrap ((shrK .u64 (IntKind.u64.wrap ((bits .and .u64 (shrK .u64 (IntKind.u64.wrap ((bits .and .u64 (shrK .u64 x 1) 6148914691236517205) + (bits .and .u64 x 6148914691236517205))) 2) 3689348814741910323) + (bits .and .u64 (IntKind.u64.wrap ((bits .and .u64 (shrK .u64 x 1) 6148914691236517205) + (bits .and .u64 x 6148914691236517205))) 3689348814741910323))) 4) + (IntKind.u64.wrap ((bits .and .u64 (shrK .u64 (IntKind.u64.wrap ((bits .and .u64 (shrK .u64 x 1) 6148914691236517205) + (bits .and .u64 x 6148914691236517205))) 2) 3689348814741910323) + (bits .and .u64 (IntKind.u64.wrap ((bits .and .u64 (shrK .u64 x 1) 6148914691236517205) + (bits .and .u64 x 6148914691236517205))) 3689348814741910323))))) 1085102592571150095) 8))) 16))) 32)))) 127)) (resAt_tmp rfl) ⟨rfl, (hS.sN [])⟩

theorem c_math_bits_OnesCount (x : Int)  (w0 : World)  (hS : ST w0 [] w0 [] []) {r_ : Int} (hF : F_math_bits_OnesCount x = some r_) :
  CV Tryd.prog 57 #[.int .u64 x] w0 (fun v w' => v = vi r_ ∧ ST w0 [] w' [] []) := by
 unfold F_math_bits_OnesCount at hF
 refine cv_of_cw 8 Tryd.func57 rfl Tryd.ntmps57 rfl ?_
 refine cw_seq (cw_region ?_)
 refine sQ 2 (Y_assign (v := vi 0) rfl rfl) (rw_nil (cw_seq ?_))
 refine cw_cond (b := false) rfl (fun h => by cases h) (fun _ => ?_)
 refine cw_skip (cw_seq (cw_region ?_))
 refine sQ 6 (Y_move (v := .int .u64 x) rfl rfl) ?_
 obtain ⟨r_1, hc, hF⟩ := bind_inv hF
 refine sc 7 rfl rfl (Yc_func (g := 65) (vs := [.int .u64 x]) k_call_65 rfl (mc rfl mn) (c_math_bits_OnesCount64 x _  (hS.inn0 [] rfl) hc)) ?_
 rintro _ w_ ⟨rfl, hd⟩
 have hS1 := hS.out00 hd
 refine sQ 2 (Y_assign (v := vi r_1) rfl rfl) (rw_nil (cw_ret ?_))
 obtain rfl := some_inj hF
 exact ret1 Tryd.results57 (v1 := vi r_1) (resAt_tmp rfl) ⟨rfl, (hS1.sN [])⟩

theorem c_impl_bitsIn (mask : Int)  (w0 : World)  (hS : ST w0 [] w0 [] []) {r_ : Int} (hF : F_impl_bitsIn mask = some r_) :
  CV Tryd.prog 45 #[vi mask] w0 (fun v w' => v = vi r_ ∧ ST w0 [] w' [] []) := by
 unfold F_impl_bitsIn at hF
 refine cv_of_cw 6 Tryd.func45 rfl Tryd.ntmps45 rfl ?_
 refine cw_seq (cw_region ?_)
 refine sQ 2 (Y_assign (v := vi 0) rfl rfl) (rw_nil (cw_seq (cw_region ?_)))
 refine sQ 3 (Y_move (v := vi mask) rfl rfl) ?_
 refine sQ 4 (Y_conv (k := .i64) (a := mask) (T := 3) (T' := 59) k_us_3 k_int_59_u64 rfl rfl) ?_
 obtain ⟨r_1, hc, hF⟩ := bind_inv hF
 refine sc 5 rfl rfl (Yc_func (g := 57) (vs := [.int .u64 (IntKind.u64.wrap mask)]) k_call_57 rfl (mc rfl mn) (c_math_bits_OnesCount (IntKind.u64.wrap mask) _  (hS.inn0 [] rfl) hc)) ?_
 rintro _ w_ ⟨rfl, hd⟩
 have hS1 := hS.out00 hd
 refine sQ 2 (Y_assign (v := vi r_1) rfl rfl) (rw_nil (cw_ret ?_))
 obtain rfl := some_inj hF
 exact ret1 Tryd.results45 (v1 := vi r_1) (resAt_tmp rfl) ⟨rfl, (hS1.sN [])⟩

theorem c_impl_isAffine (a : TAffine) (n : Int)  (w0 : World)  (hS : ST w0 [] w0 [] []) {r_ : Bool} (hF : F_impl_isAffine a n = some r_) :
  CV Tryd.prog 47 #[.agg #[vi a.Mask, vi a.Turn], vi n] w0 (fun v w' => v = .bool r_ ∧ ST w0 [] w' [] []) := by
 unfold F_impl_isAffine at hF
 refine cv_of_cw 16 Tryd.func47 rfl Tryd.ntmps47 rfl ?_
 refine cw_seq (cw_region ?_)
 refine sS 2 (Ys_box (T := 44) (v := .agg #[vi a.Mask, vi a.Turn]) (cs := [vi a.Mask, vi a.Turn]) (m := 2) hS rfl rfl rfl rfl) ?_
 rintro _ w_ ⟨b, rfl, hS1⟩
 refine sQ 4 (Y_assign (v := .bool false) rfl rfl) (rw_nil (cw_seq ?_))
 obtain ⟨hsh, hF⟩ := chk_inv hF
 obtain ⟨r_1, hc, hF⟩ := bind_inv hF
 obtain ⟨r_2, hc1, hF⟩ := bind_inv hF
 refine ra_start (hS1.se [0]).fn (by kernel_rfl) ?_
 have hS4 := hS1.drew
 refine rq 0 5 (v := pt (aD b) 0) rfl (hS4.se [0]) (fun w' hw' => (Y_fieldAddr (B := aD b) (i := 0) (s := 0) k_fd_44_0_0_3 k_sz_3_1 rfl rfl)) ?_
 refine rq 1 6 (v := vi a.Mask) rfl (hS4.se [0]) (fun w' hw' => (Y_load1 (B := aD b) (i := 0) (cs := [vi a.Mask, vi a.Turn]) (v := vi a.Mask) k_sc_3 rfl rfl (ST.cf hw' (i := 0) rfl) rfl)) ?_
 refine rq 2 7 (v := vi n) rfl (hS4.se [0]) (fun w' hw' => (Y_move (v := vi n) rfl rfl)) ?_
 refine rq 3 8 (v := vi (shlK .i64 1 n)) rfl (hS4.se [0]) (fun w' hw' => (Y_shl (k := .i64) (a := 1) (k' := .i64) (b := n) rfl rfl rfl hsh)) ?_
 refine rq 4 9 (v := vi (i64.wrap ((shlK .i64 1 n) - 1))) rfl (hS4.se [0]) (fun w' hw' => (Y_sub (k := .i64) (a := (shlK .i64 1 n)) (b := 1) rfl rfl rfl)) ?_
 refine rA [5] ?_
 refine ra_c 10 (i := 5) rfl rfl rfl (Yc_func (g := 44) (vs := [vi a.Mask, vi 0, vi (i64.wrap ((shlK .i64 1 n) - 1))]) k_call_44 rfl (mc rfl (mc rfl (mc rfl mn))) (c_impl_within a.Mask 0 (i64.wrap ((shlK .i64 1 n) - 1)) _  (hS4.inn0 [] rfl) hc)) ?_ ?_
 ·rintro _ w_1 ⟨rfl, hd⟩
  have hS5 := hS4.out00 hd
  refine ⟨(hS5.se [0]), ?_⟩
  refine rq 6 11 (v := .bool r_1) rfl (hS5.se [0]) (fun w' hw' => (Y_move (v := .bool r_1) rfl rfl)) ?_
  refine ra_gq 7 12 (B := r_1) (v := pt (aD b) 1) rfl rfl rfl (uT_ 11) (by kernel_rfl) (by kernel_rfl) (by kernel_rfl) (hS5.se [0]) (fun hg w' hw' => (Y_fieldAddr (B := aD b) (i := 0) (s := 0) k_fd_44_1_1_3 k_sz_3_1 rfl rfl)) ?_
  refine ra_gq 8 13 (B := r_1) (v := vi a.Turn) rfl rfl rfl (uT_ 11) (by kernel_rfl) (by kernel_rfl) (by kernel_rfl) (hS5.se [0]) (fun hg1 w' hw' => (Y_load1 (B := aD b) (i := 1) (cs := [vi a.Mask, vi a.Turn]) (v := vi a.Turn) k_sc_3 rfl (gv_of (v := pt (aD b) 1) hg1) (ST.cf hw' (i := 0) rfl) rfl)) ?_
  refine rA [9] ?_
  refine ra_gc 14 (i := 9) (B := r_1) (v := .bool r_2) (F := hS5.fn) rfl rfl rfl (uT_ 11) hS5 (fun hg2 => (Yc_func (g := 44) (vs := [vi a.Turn, vi 0, vi 1]) k_call_44 rfl (mc (gv_of (v := vi a.Turn) hg2) (mc rfl (mc rfl mn))) (CV.mono (c_impl_within a.Turn 0 1 _  (hS5.inn0 [] rfl) (gb_inv hc1 hg2)) (by rintro _ _ ⟨rfl, h⟩; exact ⟨rfl, hS5.out00 h⟩)))) ?_ ?_
  ·rintro w_2 hS6
   refine ⟨(hS6.se [0]), ?_⟩
   refine rq 10 15 (v := .bool (r_1 && r_2)) rfl (hS6.se [0]) (fun w' hw' => (Y_and (b := r_1) (z := r_2) rfl rfl rfl rfl)) ?_
   refine rq 11 4 (v := .bool (r_1 && r_2)) rfl (hS6.se [0]) (fun w' hw' => (Y_assign (v := .bool (r_1 && r_2)) rfl rfl)) ?_
   refine ra_done (by kernel_rfl) ?_
   refine cw_ret ?_
   obtain rfl := some_inj hF
   exact ret1 Tryd.results47 (v1 := .bool (r_1 && r_2)) (resAt_tmp rfl) ⟨rfl, (hS6.sN [])⟩
  exact allR_nil
 exact allR_nil

theorem c_impl_IsValidPathSum_1 (a : TAffine) (p : Int) (B : Option Addr) (w0 : World)  (hS : ST w0 [] w0 [] [⟨B, [vi p]⟩]) {r_ : Bool} (hF : F_impl_IsValidPathSum_1 a p = some r_) :
  CV Tryd.prog 46 #[.agg #[vi a.Mask, vi a.Turn], pt B 0] w0 (fun v w' => v = .bool r_ ∧ ST w0 [] w' [] []) := by
 unfold F_impl_IsValidPathSum_1 at hF
 refine cv_of_cw 8 Tryd.func46 rfl Tryd.ntmps46 rfl ?_
 refine cw_seq (cw_region ?_)
 refine sS 2 (Ys_box (T := 44) (v := .agg #[vi a.Mask, vi a.Turn]) (cs := [vi a.Mask, vi a.Turn]) (m := 2) hS rfl rfl rfl rfl) ?_
 rintro _ w_ ⟨b, rfl, hS1⟩
 refine sQ 3 (Y_assign (v := .bool false) rfl rfl) (rw_nil (cw_seq (cw_region ?_)))
 refine sQ 4 (Y_loadA (B := aD b) (i := 0) (cs := [vi a.Mask, vi a.Turn]) (vs := [vi a.Mask, vi a.Turn]) k_ag_44 k_sz_44_2 rfl rfl (hS1.cf (i := 0) rfl) rfl rfl) ?_
 refine sQ 5 (Y_load1 (B := B) (i := 0) (cs := [vi p]) (v := vi p) k_sc_3 rfl rfl (hS1.rf (i := 0) rfl) rfl) ?_
 obtain ⟨r_1, hc, hF⟩ := bind_inv hF
 refine sc 6 rfl rfl (Yc_func (g := 47) (vs := [.agg #[vi a.Mask, vi a.Turn], vi p]) k_call_47 rfl (mc rfl (mc rfl mn)) (c_impl_isAffine a p _  (hS1.inn0 [] rfl) hc)) ?_
 rintro _ w_1 ⟨rfl, hd⟩
 have hS2 := hS1.out00 hd
 refine sQ 7 (Y_not (p := r_1) rfl rfl) ?_
 refine sQ 3 (Y_assign (v := .bool (!r_1)) rfl rfl) (rw_nil (cw_ret ?_))
 obtain rfl := some_inj hF
 exact ret1 Tryd.results46 (v1 := .bool (!r_1)) (resAt_tmp rfl) ⟨rfl, (hS2.sN [])⟩

theorem c_impl_IsValidPathSum (p : TPathSum) (B : Option Addr) (c n : Nat) (B1 : Option Addr) (c1 n1 : Nat) (w0 : World) (hn : p.Terms.length = n) (hn1 : p.Out.length = n1) (hS : ST w0 [] w0 [] [⟨B, (p.Terms.flatMap eN0)⟩, ⟨B1, (p.Out.flatMap eN1)⟩]) {r_ : Bool} (hF : F_impl_IsValidPathSum p = some r_) :
  CV Tryd.prog 20 #[.agg #[vi p.Ins, vi p.Vars, vi p.Root, vi p.Phase, .slice B n c, .slice B1 n1 c1]] w0 (fun v w' => v = .bool r_ ∧ ST w0 [] w' [] []) := by
 subst hn
 subst hn1
 unfold F_impl_IsValidPathSum at hF
 refine cv_of_cw 104 Tryd.func20 rfl Tryd.ntmps20 rfl ?_
 refine cw_seq (cw_region ?_)
 refine sS 1 (Ys_box (T := 30) (v := .agg #[vi p.Ins, vi p.Vars, vi p.Root, vi p.Phase, .slice B p.Terms.length c, .slice B1 p.Out.length c1]) (cs := [vi p.Ins, vi p.Vars, vi p.Root, vi p.Phase, .slice B p.Terms.length c, .slice B1 p.Out.length c1]) (m := 6) hS rfl rfl rfl rfl) ?_
 rintro _ w_ ⟨b, rfl, hS1⟩
 refine sQ 2 (Y_assign (v := .bool false) rfl rfl) (rw_nil (cw_seq (cw_seq (cw_region ?_))))
 refine sQ 7 (Y_fieldAddr (B := aD b) (i := 0) (s := 0) k_fd_30_0_0_3 k_sz_3_1 rfl rfl) ?_
 refine sQ 8 (Y_load1 (B := aD b) (i := 0) (cs := [vi p.Ins, vi p.Vars, vi p.Root, vi p.Phase, .slice B p.Terms.length c, .slice B1 p.Out.length c1]) (v := vi p.Ins) k_sc_3 rfl rfl (hS1.cf (i := 0) rfl) rfl) ?_
 obtain ⟨r_1, hc, hF⟩ := bind_inv hF
 refine sc 9 rfl rfl (Yc_func (g := 44) (vs := [vi p.Ins, vi 1, vi 5]) k_call_44 rfl (mc rfl (mc rfl (mc rfl mn))) (c_impl_within p.Ins 1 5 _  (hS1.inn0 [] rfl) hc)) ?_
 rintro _ w_1 ⟨rfl, hd⟩
 have hS2 := hS1.out00 hd
 refine sQ 10 (Y_not (p := r_1) rfl rfl) ?_
 refine sQ 11 (Y_move (v := .bool (!r_1)) rfl rfl) ?_
 refine sgq 12 (B := (!(!r_1))) (v := pt (aD b) 1) rfl rfl (uF_ 11) (fun hg => (Y_fieldAddr (B := aD b) (i := 0) (s := 0) k_fd_30_1_1_3 k_sz_3_1 rfl rfl)) ?_
 refine sgq 13 (B := (!(!r_1))) (v := vi p.Vars) rfl rfl (uF_ 11) (fun hg1 => (Y_load1 (B := aD b) (i := 1) (cs := [vi p.Ins, vi p.Vars, vi p.Root, vi p.Phase, .slice B p.Terms.length c, .slice B1 p.Out.length c1]) (v := vi p.Vars) k_sc_3 rfl (gv_of (v := pt (aD b) 1) hg1) (hS2.cf (i := 0) rfl) rfl)) ?_
 refine sgq 14 (B := (!(!r_1))) (v := pt (aD b) 0) rfl rfl (uF_ 11) (fun hg2 => (Y_fieldAddr (B := aD b) (i := 0) (s := 0) k_fd_30_0_0_3 k_sz_3_1 rfl rfl)) ?_
 refine sgq 15 (B := (!(!r_1))) (v := vi p.Ins) rfl rfl (uF_ 11) (fun hg3 => (Y_load1 (B := aD b) (i := 0) (cs := [vi p.Ins, vi p.Vars, vi p.Root, vi p.Phase, .slice B p.Terms.length c, .slice B1 p.Out.length c1]) (v := vi p.Ins) k_sc_3 rfl (gv_of (v := pt (aD b) 0) hg3) (hS2.cf (i := 0) rfl) rfl)) ?_
 refine sgq 16 (B := (!(!r_1))) (v := vi (i64.wrap (24 - p.Ins))) rfl rfl (uF_ 11) (fun hg4 => (Y_sub (k := .i64) (a := 24) (b := p.Ins) rfl rfl (gv_of (v := vi p.Ins) hg4))) ?_
 obtain ⟨r_2, hc1, hF⟩ := bind_inv hF
 refine sgc 17 (B := (!(!r_1))) (v := .bool r_2) (F := hS2.fn) rfl rfl (uF_ 11) hS2 (fun hg5 => (Yc_func (g := 44) (vs := [vi p.Vars, vi 0, vi (i64.wrap (24 - p.Ins))]) k_call_44 rfl (mc (gv_of (v := vi p.Vars) hg5) (mc rfl (mc (gv_of (v := vi (i64.wrap (24 - p.Ins))) hg5) mn))) (CV.mono (c_impl_within p.Vars 0 (i64.wrap (24 - p.Ins)) _  (hS2.inn0 [] rfl) (gb_inv hc1 hg5)) (by rintro _ _ ⟨rfl, h⟩; exact ⟨rfl, hS2.out00 h⟩)))) ?_
 rintro w_2 hS3
 refine sgq 18 (B := (!(!r_1))) (v := .bool (!r_2)) rfl rfl (uF_ 11) (fun hg6 => (Y_not (p := r_2) rfl (gv_of (v := .bool r_2) hg6))) ?_
 refine sQ 19 (Y_or (b := (!r_1)) (z := (!r_2)) rfl rfl rfl rfl) ?_
 refine sQ 20 (Y_move (v := .bool ((!r_1) || (!r_2))) rfl rfl) ?_
 refine sgq 21 (B := (!((!r_1) || (!r_2)))) (v := pt (aD b) 2) rfl rfl (uF_ 20) (fun hg7 => (Y_fieldAddr (B := aD b) (i := 0) (s := 0) k_fd_30_2_2_3 k_sz_3_1 rfl rfl)) ?_
 refine sgq 22 (B := (!((!r_1) || (!r_2)))) (v := vi p.Root) rfl rfl (uF_ 20) (fun hg8 => (Y_load1 (B := aD b) (i := 2) (cs := [vi p.Ins, vi p.Vars, vi p.Root, vi p.Phase, .slice B p.Terms.length c, .slice B1 p.Out.length c1]) (v := vi p.Root) k_sc_3 rfl (gv_of (v := pt (aD b) 2) hg8) (hS3.cf (i := 0) rfl) rfl)) ?_
 obtain ⟨r_3, hc2, hF⟩ := bind_inv hF
 refine sgc 23 (B := (!((!r_1) || (!r_2)))) (v := .bool r_3) (F := hS3.fn) rfl rfl (uF_ 20) hS3 (fun hg9 => (Yc_func (g := 44) (vs := [vi p.Root, vi (-60), vi 60]) k_call_44 rfl (mc (gv_of (v := vi p.Root) hg9) (mc rfl (mc rfl mn))) (CV.mono (c_impl_within p.Root (-60) 60 _  (hS3.inn0 [] rfl) (gb_inv hc2 hg9)) (by rintro _ _ ⟨rfl, h⟩; exact ⟨rfl, hS3.out00 h⟩)))) ?_
 rintro w_3 hS4
 refine sgq 24 (B := (!((!r_1) || (!r_2)))) (v := .bool (!r_3)) rfl rfl (uF_ 20) (fun hg10 => (Y_not (p := r_3) rfl (gv_of (v := .bool r_3) hg10))) ?_
 refine sQ 25 (Y_or (b := ((!r_1) || (!r_2))) (z := (!r_3)) rfl rfl rfl rfl) ?_
 refine sQ 26 (Y_move (v := .bool (((!r_1) || (!r_2)) || (!r_3))) rfl rfl) ?_
 refine sgq 27 (B := (!(((!r_1) || (!r_2)) || (!r_3)))) (v := pt (aD b) 3) rfl rfl (uF_ 26) (fun hg11 => (Y_fieldAddr (B := aD b) (i := 0) (s := 0) k_fd_30_3_3_3 k_sz_3_1 rfl rfl)) ?_
 refine sgq 28 (B := (!(((!r_1) || (!r_2)) || (!r_3)))) (v := vi p.Phase) rfl rfl (uF_ 26) (fun hg12 => (Y_load1 (B := aD b) (i := 3) (cs := [vi p.Ins, vi p.Vars, vi p.Root, vi p.Phase, .slice B p.Terms.length c, .slice B1 p.Out.length c1]) (v := vi p.Phase) k_sc_3 rfl (gv_of (v := pt (aD b) 3) hg12) (hS4.cf (i := 0) rfl) rfl)) ?_
 obtain ⟨r_4, hc3, hF⟩ := bind_inv hF
 refine sgc 29 (B := (!(((!r_1) || (!r_2)) || (!r_3)))) (v := .bool r_4) (F := hS4.fn) rfl rfl (uF_ 26) hS4 (fun hg13 => (Yc_func (g := 44) (vs := [vi p.Phase, vi 0, vi 7]) k_call_44 rfl (mc (gv_of (v := vi p.Phase) hg13) (mc rfl (mc rfl mn))) (CV.mono (c_impl_within p.Phase 0 7 _  (hS4.inn0 [] rfl) (gb_inv hc3 hg13)) (by rintro _ _ ⟨rfl, h⟩; exact ⟨rfl, hS4.out00 h⟩)))) ?_
 rintro w_4 hS5
 refine sgq 30 (B := (!(((!r_1) || (!r_2)) || (!r_3)))) (v := .bool (!r_4)) rfl rfl (uF_ 26) (fun hg14 => (Y_not (p := r_4) rfl (gv_of (v := .bool r_4) hg14))) ?_
 refine sQ 31 (Y_or (b := (((!r_1) || (!r_2)) || (!r_3))) (z := (!r_4)) rfl rfl rfl rfl) ?_
 refine sQ 32 (Y_move (v := .bool ((((!r_1) || (!r_2)) || (!r_3)) || (!r_4))) rfl rfl) ?_
 refine sgq 33 (B := (!((((!r_1) || (!r_2)) || (!r_3)) || (!r_4)))) (v := pt (aD b) 5) rfl rfl (uF_ 32) (fun hg15 => (Y_fieldAddr (B := aD b) (i := 0) (s := 0) k_fd_30_5_5_28 k_sz_28_1 rfl rfl)) ?_
 refine sgq 34 (B := (!((((!r_1) || (!r_2)) || (!r_3)) || (!r_4)))) (v := .slice B1 p.Out.length c1) rfl rfl (uF_ 32) (fun hg16 => (Y_load1 (B := aD b) (i := 5) (cs := [vi p.Ins, vi p.Vars, vi p.Root, vi p.Phase, .slice B p.Terms.length c, .slice B1 p.Out.length c1]) (v := .slice B1 p.Out.length c1) k_sc_28 rfl (gv_of (v := pt (aD b) 5) hg16) (hS5.cf (i := 0) rfl) rfl)) ?_
 refine sgq 35 (B := (!((((!r_1) || (!r_2)) || (!r_3)) || (!r_4)))) (v := vi (p.Out.length : Int)) rfl rfl (uF_ 32) (fun hg17 => (Y_len (B := B1) (m := p.Out.length) (c := c1) k_sl_28_44 rfl (gv_of (v := .slice B1 p.Out.length c1) hg17))) ?_
 refine sgq 36 (B := (!((((!r_1) || (!r_2)) || (!r_3)) || (!r_4)))) (v := pt (aD b) 0) rfl rfl (uF_ 32) (fun hg18 => (Y_fieldAddr (B := aD b) (i := 0) (s := 0) k_fd_30_0_0_3 k_sz_3_1 rfl rfl)) ?_
 refine sgq 37 (B := (!((((!r_1) || (!r_2)) || (!r_3)) || (!r_4)))) (v := vi p.Ins) rfl rfl (uF_ 32) (fun hg19 => (Y_load1 (B := aD b) (i := 0) (cs := [vi p.Ins, vi p.Vars, vi p.Root, vi p.Phase, .slice B p.Terms.length c, .slice B1 p.Out.length c1]) (v := vi p.Ins) k_sc_3 rfl (gv_of (v := pt (aD b) 0) hg19) (hS5.cf (i := 0) rfl) rfl)) ?_
 refine sgq 38 (B := (!((((!r_1) || (!r_2)) || (!r_3)) || (!r_4)))) (v := .bool ((p.Out.length : Int) != p.Ins)) rfl rfl (uF_ 32) (fun hg20 => (Y_ne (k := .i64) (a := (p.Out.length : Int)) (b := p.Ins) rfl (gv_of (v := vi (p.Out.length : Int)) hg20) (gv_of (v := vi p.Ins) hg20))) ?_
 refine sQ 39 (Y_or (b := ((((!r_1) || (!r_2)) || (!r_3)) || (!r_4))) (z := ((p.Out.length : Int) != p.Ins)) rfl rfl rfl rfl) (rw_nil ?_)
 refine cw_cond (b := (((((!r_1) || (!r_2)) || (!r_3)) || (!r_4)) || ((p.Out.length : Int) != p.Ins))) rfl (fun hb => ?_) (fun hb => ?_)
 ·skip
  have hF1 := ct hF hb
  refine cw_seq (cw_region ?_)
  refine sQ 2 (Y_assign (v := .bool false) rfl rfl) (rw_nil (cw_ret ?_))
  obtain rfl := some_inj hF1
  exact ret1 Tryd.results20 (v1 := .bool false) (resAt_tmp rfl) ⟨rfl, (hS5.sN [])⟩
 ·skip
  have hF2 := cf' hF hb
  refine cw_skip (cw_seq (cw_region ?_))
  refine sQ 40 (Y_fieldAddr (B := aD b) (i := 0) (s := 0) k_fd_30_0_0_3 k_sz_3_1 rfl rfl) ?_
  refine sQ 41 (Y_load1 (B := aD b) (i := 0) (cs := [vi p.Ins, vi p.Vars, vi p.Root, vi p.Phase, .slice B p.Terms.length c, .slice B1 p.Out.length c1]) (v := vi p.Ins) k_sc_3 rfl rfl (hS5.cf (i := 0) rfl) rfl) ?_
  refine sQ 42 (Y_fieldAddr (B := aD b) (i := 0) (s := 0) k_fd_30_1_1_3 k_sz_3_1 rfl rfl) ?_
  refine sQ 43 (Y_load1 (B := aD b) (i := 1) (cs := [vi p.Ins, vi p.Vars, vi p.Root, vi p.Phase, .slice B p.Terms.length c, .slice B1 p.Out.length c1]) (v := vi p.Vars) k_sc_3 rfl rfl (hS5.cf (i := 0) rfl) rfl) ?_
  refine sQ 44 (Y_add (k := .i64) (a := p.Ins) (b := p.Vars) rfl rfl rfl) ?_
  refine sS 3 (Ys_alloc (T := 3) (cs := [vi 0]) (m := 1) hS5 k_zero_3 rfl rfl rfl) ?_
  rintro _ w_5 ⟨b1, rfl, hS6⟩
  refine s0 (Ys_store (i := 1) (s := 1) (B := aD b1) (T' := 3) (v := vi (i64.wrap (p.Ins + p.Vars))) (vs := [vi (i64.wrap (p.Ins + p.Vars))]) (k := 0) (cs' := [vi (i64.wrap (p.Ins + p.Vars))]) hS6 k_sz_3_1 rfl rfl rfl rfl rfl rfl rfl (lB rfl) rfl rfl) ?_
  rintro _ w_6 ⟨rfl, hS7⟩
  refine rw_nil (cw_seq (cw_seq (cw_region ?_)))
  refine sQ 45 (Y_fieldAddr (B := aD b) (i := 0) (s := 0) k_fd_30_4_4_27 k_sz_27_1 rfl rfl) ?_
  refine sQ 46 (Y_load1 (B := aD b) (i := 4) (cs := [vi p.Ins, vi p.Vars, vi p.Root, vi p.Phase, .slice B p.Terms.length c, .slice B1 p.Out.length c1]) (v := .slice B p.Terms.length c) k_sc_27 rfl rfl (hS7.cf (i := 0) rfl) rfl) ?_
  refine sQ 47 (Y_len (B := B) (m := p.Terms.length) (c := c) k_sl_27_56 rfl rfl) ?_
  refine sQ 48 (Y_move (v := vi 0) rfl rfl) (rw_nil ?_)
  obtain ⟨hN, hF2⟩ := chk_inv hF2
  obtain ⟨z, hz, hF3⟩ := bind_inv hF2
  refine cw_block ?_
  refine cw_loop (fun k f w => ∃ (i : Nat), FF f [(1, pt (aD b) 0), (3, pt (aD b1) 0), (46, .slice B p.Terms.length c), (47, vi (p.Terms.length : Int)), (48, vi (i : Int))] ∧ ST w0 [] w [⟨aD b, 30, [vi p.Ins, vi p.Vars, vi p.Root, vi p.Phase, .slice B p.Terms.length c, .slice B1 p.Out.length c1], 6⟩, ⟨aD b1, 3, [vi (i64.wrap (p.Ins + p.Vars))], 1⟩] [⟨B, (p.Terms.flatMap eN0)⟩, ⟨B1, (p.Out.flatMap eN1)⟩] ∧ i + k = p.Terms.length ∧ forX (F_impl_IsValidPathSum_l1 p) k i () = some z) p.Terms.length ⟨0, (FF.cons rfl (FF.cons rfl (FF.cons rfl (FF.cons rfl (FF.cons rfl FF.nil))))), (hS7.sel [0, 1] rfl rfl), Nat.zero_add _, hz⟩ ?_
  rintro k_ f w ⟨i, hf, hS8, hik, hL⟩
  refine cw_seq (cw_region ?_)
  refine sQ 49 (Y_lt (k := .i64) (a := (i : Int)) (b := (p.Terms.length : Int)) rfl (hf.get 48 4 rfl) (hf.get 47 3 rfl)) (rw_nil (cw_seq ?_))
  refine cw_cond (b := (decide ((i : Int) < (p.Terms.length : Int)))) rfl (fun hlt => ?_) (fun hlt => ?_)
  ·skip
   have hlt1 : i < p.Terms.length := by have h := of_decide_eq_true hlt; omega
   obtain ⟨k_1, rfl⟩ : ∃ k2, k_ = k2 + 1 := ⟨k_ - 1, by omega⟩
   obtain ⟨y, hb1, hL1⟩ := forX_go hL
   unfold F_impl_IsValidPathSum_l1 at hb1
   refine cw_skip (cw_seq (cw_block (cw_seq (cw_region ?_))))
   refine sQ 50 (Y_move (v := vi (i : Int)) rfl (hf.get 48 4 rfl)) ?_
   obtain ⟨x, hx, hb1⟩ := bind_inv hb1
   refine sQ 51 (Y_index (B := B) (m := p.Terms.length) (c := c) (k := .i64) (i := (i : Int)) k_sl_27_56 k_sz_56_2 rfl (hf.get 46 2 rfl) (hf.get 48 4 rfl) (gi_isSome eN2 rfl (hS8.rf (i := 0) rfl) hx) (getI_nn hx) (getI_ltI hx rfl)) ?_
   refine sQ 52 (Y_loadA (B := B) (i := (i : Int).toNat * 2) (cs := (p.Terms.flatMap eN0)) (vs := [vi x.Mask, vi x.Coef]) k_ag_56 k_sz_56_2 rfl rfl (hS8.rf (i := 0) rfl) (eN2 x) (gi_seg eN2 hx)) ?_
   refine sS 5 (Ys_alloc (T := 56) (cs := [vi 0, vi 0]) (m := 2) hS8 k_zero_56 rfl rfl rfl) ?_
   rintro _ w_7 ⟨b2, rfl, hS9⟩
   refine sQ 4 (Y_assign (v := vi (i : Int)) rfl rfl) ?_
   refine s0 (Ys_store (i := 2) (s := 2) (B := aD b2) (T' := 56) (v := .agg #[vi x.Mask, vi x.Coef]) (vs := [vi x.Mask, vi x.Coef]) (k := 0) (cs' := [vi x.Mask, vi x.Coef]) hS9 k_sz_56_2 rfl rfl rfl rfl rfl rfl rfl (lB rfl) rfl rfl) ?_
   rintro _ w_8 ⟨rfl, hS10⟩
   refine rw_nil (cw_seq (cw_region ?_))
   refine sQ 53 (Y_fieldAddr (B := aD b2) (i := 0) (s := 0) k_fd_56_0_0_3 k_sz_3_1 rfl rfl) ?_
   refine sQ 54 (Y_load1 (B := aD b2) (i := 0) (cs := [vi x.Mask, vi x.Coef]) (v := vi x.Mask) k_sc_3 rfl rfl (hS10.cf (i := 2) rfl) rfl) ?_
   obtain ⟨r_5, hc4, hb1⟩ := bind_inv hb1
   refine sc 55 rfl rfl (Yc_func (g := 45) (vs := [vi x.Mask]) k_call_45 rfl (mc rfl mn) (c_impl_bitsIn x.Mask _  (hS10.inn0 [] rfl) hc4)) ?_
   rintro _ w_9 ⟨rfl, hd1⟩
   have hS11 := hS10.out00 hd1
   refine sQ 6 (Y_assign (v := vi r_5) rfl rfl) (rw_nil (cw_seq ?_))
   obtain ⟨hsh, hb1⟩ := chk_inv hb1
   obtain ⟨r_6, hc5, hb1⟩ := bind_inv hb1
   obtain ⟨r_7, hc6, hb1⟩ := bind_inv hb1
   obtain ⟨hsh1, hb1⟩ := chk_inv hb1
   obtain ⟨hne, hb1⟩ := chk_inv hb1
   obtain ⟨x1, hx1, hb1⟩ := bind_inv hb1
   refine ra_start (hS11.se [0, 1, 2]).fn (by kernel_rfl) ?_
   have hS14 := hS11.drew
   refine rq 0 56 (v := pt (aD b2) 0) rfl (hS14.se [0, 1, 2]) (fun w' hw' => (Y_fieldAddr (B := aD b2) (i := 0) (s := 0) k_fd_56_0_0_3 k_sz_3_1 rfl rfl)) ?_
   refine rq 1 57 (v := vi x.Mask) rfl (hS14.se [0, 1, 2]) (fun w' hw' => (Y_load1 (B := aD b2) (i := 0) (cs := [vi x.Mask, vi x.Coef]) (v := vi x.Mask) k_sc_3 rfl rfl (ST.cf hw' (i := 2) rfl) rfl)) ?_
   refine rq 2 58 (v := vi (i64.wrap (p.Ins + p.Vars))) rfl (hS14.se [0, 1, 2]) (fun w' hw' => (Y_load1 (B := aD b1) (i := 0) (cs := [vi (i64.wrap (p.Ins + p.Vars))]) (v := vi (i64.wrap (p.Ins + p.Vars))) k_sc_3 rfl (hf.get 3 1 rfl) (ST.cf hw' (i := 1) rfl) rfl)) ?_
   refine rq 3 59 (v := vi (shlK .i64 1 (i64.wrap (p.Ins + p.Vars)))) rfl (hS14.se [0, 1, 2]) (fun w' hw' => (Y_shl (k := .i64) (a := 1) (k' := .i64) (b := (i64.wrap (p.Ins + p.Vars))) rfl rfl rfl hsh)) ?_
   refine rq 4 60 (v := vi (i64.wrap ((shlK .i64 1 (i64.wrap (p.Ins + p.Vars))) - 1))) rfl (hS14.se [0, 1, 2]) (fun w' hw' => (Y_sub (k := .i64) (a := (shlK .i64 1 (i64.wrap (p.Ins + p.Vars)))) (b := 1) rfl rfl rfl)) ?_
   refine rA [5] ?_
   refine ra_c 61 (i := 5) rfl rfl rfl (Yc_func (g := 44) (vs := [vi x.Mask, vi 1, vi (i64.wrap ((shlK .i64 1 (i64.wrap (p.Ins + p.Vars))) - 1))]) k_call_44 rfl (mc rfl (mc rfl (mc rfl mn))) (c_impl_within x.Mask 1 (i64.wrap ((shlK .i64 1 (i64.wrap (p.Ins + p.Vars))) - 1)) _  (hS14.inn0 [] rfl) hc5)) ?_ ?_
   ·rintro _ w_10 ⟨rfl, hd2⟩
    have hS15 := hS14.out00 hd2
    refine ⟨(hS15.se [0, 1, 2]), ?_⟩
    refine rq 6 62 (v := .bool (!r_6)) rfl (hS15.se [0, 1, 2]) (fun w' hw' => (Y_not (p := r_6) rfl rfl)) ?_
    refine rq 7 63 (v := .bool (!r_6)) rfl (hS15.se [0, 1, 2]) (fun w' hw' => (Y_move (v := .bool (!r_6)) rfl rfl)) ?_
    refine ra_gq 8 64 (B := (!(!r_6))) (v := vi r_5) rfl rfl rfl (uF_ 63) (by kernel_rfl) (by kernel_rfl) (by kernel_rfl) (hS15.se [0, 1, 2]) (fun hg21 w' hw' => (Y_move (v := vi r_5) rfl rfl)) ?_
    refine ra_gq 9 65 (B := (!(!r_6))) (v := .bool (decide (3 < r_5))) rfl rfl rfl (uF_ 63) (by kernel_rfl) (by kernel_rfl) (by kernel_rfl) (hS15.se [0, 1, 2]) (fun hg22 w' hw' => (Y_gt (k := .i64) (a := r_5) (b := 3) rfl (gv_of (v := vi r_5) hg22) rfl)) ?_
    refine rq 10 66 (v := .bool ((!r_6) || (decide (3 < r_5)))) rfl (hS15.se [0, 1, 2]) (fun w' hw' => (Y_or (b := (!r_6)) (z := (decide (3 < r_5))) rfl rfl rfl rfl)) ?_
    refine rq 11 67 (v := .bool ((!r_6) || (decide (3 < r_5)))) rfl (hS15.se [0, 1, 2]) (fun w' hw' => (Y_move (v := .bool ((!r_6) || (decide (3 < r_5)))) rfl rfl)) ?_
    refine ra_gq 12 68 (B := (!((!r_6) || (decide (3 < r_5))))) (v := pt (aD b2) 1) rfl rfl rfl (uF_ 67) (by kernel_rfl) (by kernel_rfl) (by kernel_rfl) (hS15.se [0, 1, 2]) (fun hg23 w' hw' => (Y_fieldAddr (B := aD b2) (i := 0) (s := 0) k_fd_56_1_1_3 k_sz_3_1 rfl rfl)) ?_
    refine ra_gq 13 69 (B := (!((!r_6) || (decide (3 < r_5))))) (v := vi x.Coef) rfl rfl rfl (uF_ 67) (by kernel_rfl) (by kernel_rfl) (by kernel_rfl) (hS15.se [0, 1, 2]) (fun hg24 w' hw' => (Y_load1 (B := aD b2) (i := 1) (cs := [vi x.Mask, vi x.Coef]) (v := vi x.Coef) k_sc_3 rfl (gv_of (v := pt (aD b2) 1) hg24) (ST.cf hw' (i := 2) rfl) rfl)) ?_
    refine rA [14] ?_
    refine ra_gc 70 (i := 14) (B := (!((!r_6) || (decide (3 < r_5))))) (v := .bool r_7) (F := hS15.fn) rfl rfl rfl (uF_ 67) hS15 (fun hg25 => (Yc_func (g := 44) (vs := [vi x.Coef, vi 1, vi 7]) k_call_44 rfl (mc (gv_of (v := vi x.Coef) hg25) (mc rfl (mc rfl mn))) (CV.mono (c_impl_within x.Coef 1 7 _  (hS15.inn0 [] rfl) (gb_inv hc6 hg25)) (by rintro _ _ ⟨rfl, h⟩; exact ⟨rfl, hS15.out00 h⟩)))) ?_ ?_
    ·rintro w_11 hS16
     refine ⟨(hS16.se [0, 1, 2]), ?_⟩
     refine ra_gq 15 71 (B := (!((!r_6) || (decide (3 < r_5))))) (v := .bool (!r_7)) rfl rfl rfl (uF_ 67) (by kernel_rfl) (by kernel_rfl) (by kernel_rfl) (hS16.se [0, 1, 2]) (fun hg26 w' hw' => (Y_not (p := r_7) rfl (gv_of (v := .bool r_7) hg26))) ?_
     refine rq 16 72 (v := .bool (((!r_6) || (decide (3 < r_5))) || (!r_7))) rfl (hS16.se [0, 1, 2]) (fun w' hw' => (Y_or (b := ((!r_6) || (decide (3 < r_5)))) (z := (!r_7)) rfl rfl rfl rfl)) ?_
     refine rq 17 73 (v := .bool (((!r_6) || (decide (3 < r_5))) || (!r_7))) rfl (hS16.se [0, 1, 2]) (fun w' hw' => (Y_move (v := .bool (((!r_6) || (decide (3 < r_5))) || (!r_7))) rfl rfl)) ?_
     refine ra_gq 18 74 (B := (!(((!r_6) || (decide (3 < r_5))) || (!r_7)))) (v := pt (aD b2) 1) rfl rfl rfl (uF_ 73) (by kernel_rfl) (by kernel_rfl) (by kernel_rfl) (hS16.se [0, 1, 2]) (fun hg27 w' hw' => (Y_fieldAddr (B := aD b2) (i := 0) (s := 0) k_fd_56_1_1_3 k_sz_3_1 rfl rfl)) ?_
     refine ra_gq 19 75 (B := (!(((!r_6) || (decide (3 < r_5))) || (!r_7)))) (v := vi x.Coef) rfl rfl rfl (uF_ 73) (by kernel_rfl) (by kernel_rfl) (by kernel_rfl) (hS16.se [0, 1, 2]) (fun hg28 w' hw' => (Y_load1 (B := aD b2) (i := 1) (cs := [vi x.Mask, vi x.Coef]) (v := vi x.Coef) k_sc_3 rfl (gv_of (v := pt (aD b2) 1) hg28) (ST.cf hw' (i := 2) rfl) rfl)) ?_
     refine ra_gq 20 76 (B := (!(((!r_6) || (decide (3 < r_5))) || (!r_7)))) (v := vi r_5) rfl rfl rfl (uF_ 73) (by kernel_rfl) (by kernel_rfl) (by kernel_rfl) (hS16.se [0, 1, 2]) (fun hg29 w' hw' => (Y_move (v := vi r_5) rfl rfl)) ?_
     refine ra_gq 21 77 (B := (!(((!r_6) || (decide (3 < r_5))) || (!r_7)))) (v := vi (i64.wrap (r_5 - 1))) rfl rfl rfl (uF_ 73) (by kernel_rfl) (by kernel_rfl) (by kernel_rfl) (hS16.se [0, 1, 2]) (fun hg30 w' hw' => (Y_sub (k := .i64) (a := r_5) (b := 1) rfl (gv_of (v := vi r_5) hg30) rfl)) ?_
     refine ra_gq 22 78 (B := (!(((!r_6) || (decide (3 < r_5))) || (!r_7)))) (v := vi (shlK .i64 1 (i64.wrap (r_5 - 1)))) rfl rfl rfl (uF_ 73) (by kernel_rfl) (by kernel_rfl) (by kernel_rfl) (hS16.se [0, 1, 2]) (fun hg31 w' hw' => (Y_shl (k := .i64) (a := 1) (k' := .i64) (b := (i64.wrap (r_5 - 1))) rfl rfl (gv_of (v := vi (i64.wrap (r_5 - 1))) hg31) (hsh1 hg31))) ?_
     refine ra_gq 23 79 (B := (!(((!r_6) || (decide (3 < r_5))) || (!r_7)))) (v := vi (Int.tmod x.Coef (shlK .i64 1 (i64.wrap (r_5 - 1))))) rfl rfl rfl (uF_ 73) (by kernel_rfl) (by kernel_rfl) (by kernel_rfl) (hS16.se [0, 1, 2]) (fun hg32 w' hw' => (Y_rem (k := .i64) (a := x.Coef) (b := (shlK .i64 1 (i64.wrap (r_5 - 1)))) rfl (gv_of (v := vi x.Coef) hg32) (gv_of (v := vi (shlK .i64 1 (i64.wrap (r_5 - 1)))) hg32) (hne hg32))) ?_
     refine ra_gq 24 80 (B := (!(((!r_6) || (decide (3 < r_5))) || (!r_7)))) (v := .bool ((Int.tmod x.Coef (shlK .i64 1 (i64.wrap (r_5 - 1)))) != 0)) rfl rfl rfl (uF_ 73) (by kernel_rfl) (by kernel_rfl) (by kernel_rfl) (hS16.se [0, 1, 2]) (fun hg33 w' hw' => (Y_ne (k := .i64) (a := (Int.tmod x.Coef (shlK .i64 1 (i64.wrap (r_5 - 1))))) (b := 0) rfl (gv_of (v := vi (Int.tmod x.Coef (shlK .i64 1 (i64.wrap (r_5 - 1))))) hg33) rfl)) ?_
     refine rq 25 81 (v := .bool ((((!r_6) || (decide (3 < r_5))) || (!r_7)) || ((Int.tmod x.Coef (shlK .i64 1 (i64.wrap (r_5 - 1)))) != 0))) rfl (hS16.se [0, 1, 2]) (fun w' hw' => (Y_or (b := (((!r_6) || (decide (3 < r_5))) || (!r_7))) (z := ((Int.tmod x.Coef (shlK .i64 1 (i64.wrap (r_5 - 1)))) != 0)) rfl rfl rfl rfl)) ?_
     refine rq 26 82 (v := .bool ((((!r_6) || (decide (3 < r_5))) || (!r_7)) || ((Int.tmod x.Coef (shlK .i64 1 (i64.wrap (r_5 - 1)))) != 0))) rfl (hS16.se [0, 1, 2]) (fun w' hw' => (Y_move (v := .bool ((((!r_6) || (decide (3 < r_5))) || (!r_7)) || ((Int.tmod x.Coef (shlK .i64 1 (i64.wrap (r_5 - 1)))) != 0))) rfl rfl)) ?_
     refine ra_gq 27 83 (B := (!((((!r_6) || (decide (3 < r_5))) || (!r_7)) || ((Int.tmod x.Coef (shlK .i64 1 (i64.wrap (r_5 - 1)))) != 0)))) (v := vi (i : Int)) rfl rfl rfl (uF_ 82) (by kernel_rfl) (by kernel_rfl) (by kernel_rfl) (hS16.se [0, 1, 2]) (fun hg34 w' hw' => (Y_move (v := vi (i : Int)) rfl rfl)) ?_
     refine ra_gq 28 84 (B := (!((((!r_6) || (decide (3 < r_5))) || (!r_7)) || ((Int.tmod x.Coef (shlK .i64 1 (i64.wrap (r_5 - 1)))) != 0)))) (v := .bool (decide (0 < (i : Int)))) rfl rfl rfl (uF_ 82) (by kernel_rfl) (by kernel_rfl) (by kernel_rfl) (hS16.se [0, 1, 2]) (fun hg35 w' hw' => (Y_gt (k := .i64) (a := (i : Int)) (b := 0) rfl (gv_of (v := vi (i : Int)) hg35) rfl)) ?_
     refine ra_gq 29 85 (B := (!((((!r_6) || (decide (3 < r_5))) || (!r_7)) || ((Int.tmod x.Coef (shlK .i64 1 (i64.wrap (r_5 - 1)))) != 0)))) (v := .bool (decide (0 < (i : Int)))) rfl rfl rfl (uF_ 82) (by kernel_rfl) (by kernel_rfl) (by kernel_rfl) (hS16.se [0, 1, 2]) (fun hg36 w' hw' => (Y_move (v := .bool (decide (0 < (i : Int)))) rfl (gv_of (v := .bool (decide (0 < (i : Int)))) hg36))) ?_
     refine ra_gq 30 86 (B := ((!((((!r_6) || (decide (3 < r_5))) || (!r_7)) || ((Int.tmod x.Coef (shlK .i64 1 (i64.wrap (r_5 - 1)))) != 0))) && (decide (0 < (i : Int))))) (v := pt (aD b) 4) rfl rfl rfl (wt_gt (gd_of (t := 85) (by kernel_rfl) rfl)) (by kernel_rfl) (by kernel_rfl) (by kernel_rfl) (hS16.se [0, 1, 2]) (fun hg37 w' hw' => (Y_fieldAddr (B := aD b) (i := 0) (s := 0) k_fd_30_4_4_27 k_sz_27_1 rfl (hf.get 1 0 rfl))) ?_
     refine ra_gq 31 87 (B := ((!((((!r_6) || (decide (3 < r_5))) || (!r_7)) || ((Int.tmod x.Coef (shlK .i64 1 (i64.wrap (r_5 - 1)))) != 0))) && (decide (0 < (i : Int))))) (v := .slice B p.Terms.length c) rfl rfl rfl (wt_gt (gd_of (t := 85) (by kernel_rfl) rfl)) (by kernel_rfl) (by kernel_rfl) (by kernel_rfl) (hS16.se [0, 1, 2]) (fun hg38 w' hw' => (Y_load1 (B := aD b) (i := 4) (cs := [vi p.Ins, vi p.Vars, vi p.Root, vi p.Phase, .slice B p.Terms.length c, .slice B1 p.Out.length c1]) (v := .slice B p.Terms.length c) k_sc_27 rfl (gv_of (v := pt (aD b) 4) hg38) (ST.cf hw' (i := 0) rfl) rfl)) ?_
     refine ra_gq 32 88 (B := ((!((((!r_6) || (decide (3 < r_5))) || (!r_7)) || ((Int.tmod x.Coef (shlK .i64 1 (i64.wrap (r_5 - 1)))) != 0))) && (decide (0 < (i : Int))))) (v := vi (i : Int)) rfl rfl rfl (wt_gt (gd_of (t := 85) (by kernel_rfl) rfl)) (by kernel_rfl) (by kernel_rfl) (by kernel_rfl) (hS16.se [0, 1, 2]) (fun hg39 w' hw' => (Y_move (v := vi (i : Int)) rfl rfl)) ?_
     refine ra_gq 33 89 (B := ((!((((!r_6) || (decide (3 < r_5))) || (!r_7)) || ((Int.tmod x.Coef (shlK .i64 1 (i64.wrap (r_5 - 1)))) != 0))) && (decide (0 < (i : Int))))) (v := vi (i64.wrap ((i : Int) - 1))) rfl rfl rfl (wt_gt (gd_of (t := 85) (by kernel_rfl) rfl)) (by kernel_rfl) (by kernel_rfl) (by kernel_rfl) (hS16.se [0, 1, 2]) (fun hg40 w' hw' => (Y_sub (k := .i64) (a := (i : Int)) (b := 1) rfl (gv_of (v := vi (i : Int)) hg40) rfl)) ?_
     refine ra_gq 34 90 (B := ((!((((!r_6) || (decide (3 < r_5))) || (!r_7)) || ((Int.tmod x.Coef (shlK .i64 1 (i64.wrap (r_5 - 1)))) != 0))) && (decide (0 < (i : Int))))) (v := pt B ((i64.wrap ((i : Int) - 1)).toNat * 2)) rfl rfl rfl (wt_gt (gd_of (t := 85) (by kernel_rfl) rfl)) (by kernel_rfl) (by kernel_rfl) (by kernel_rfl) (hS16.se [0, 1, 2]) (fun hg41 w' hw' => (Y_index (B := B) (m := p.Terms.length) (c := c) (k := .i64) (i := (i64.wrap ((i : Int) - 1))) k_sl_27_56 k_sz_56_2 rfl (gv_of (v := .slice B p.Terms.length c) hg41) (gv_of (v := vi (i64.wrap ((i : Int) - 1))) hg41) (gi_isSome eN2 rfl (ST.rf hw' (i := 0) rfl) (gb_inv hx1 hg41)) (getI_nn (gb_inv hx1 hg41)) (getI_ltI (gb_inv hx1 hg41) rfl))) ?_
     refine ra_gq 35 91 (B := ((!((((!r_6) || (decide (3 < r_5))) || (!r_7)) || ((Int.tmod x.Coef (shlK .i64 1 (i64.wrap (r_5 - 1)))) != 0))) && (decide (0 < (i : Int))))) (v := pt B ((i64.wrap ((i : Int) - 1)).toNat * 2 + 0)) rfl rfl rfl (wt_gt (gd_of (t := 85) (by kernel_rfl) rfl)) (by kernel_rfl) (by kernel_rfl) (by kernel_rfl) (hS16.se [0, 1, 2]) (fun hg42 w' hw' => (Y_fieldAddr (B := B) (i := (i64.wrap ((i : Int) - 1)).toNat * 2) (s := 0) k_fd_56_0_0_3 k_sz_3_1 rfl (gv_of (v := pt B ((i64.wrap ((i : Int) - 1)).toNat * 2)) hg42))) ?_
     refine ra_gq 36 92 (B := ((!((((!r_6) || (decide (3 < r_5))) || (!r_7)) || ((Int.tmod x.Coef (shlK .i64 1 (i64.wrap (r_5 - 1)))) != 0))) && (decide (0 < (i : Int))))) (v := vi x1.Mask) rfl rfl rfl (wt_gt (gd_of (t := 85) (by kernel_rfl) rfl)) (by kernel_rfl) (by kernel_rfl) (by kernel_rfl) (hS16.se [0, 1, 2]) (fun hg43 w' hw' => (Y_load1 (B := B) (i := (i64.wrap ((i : Int) - 1)).toNat * 2 + 0) (cs := (p.Terms.flatMap eN0)) (v := vi x1.Mask) k_sc_3 rfl (gv_of (v := pt B ((i64.wrap ((i : Int) - 1)).toNat * 2 + 0)) hg43) (ST.rf hw' (i := 0) rfl) (gi_at eN2 (gb_inv hx1 hg43) rfl))) ?_
     refine ra_gq 37 93 (B := ((!((((!r_6) || (decide (3 < r_5))) || (!r_7)) || ((Int.tmod x.Coef (shlK .i64 1 (i64.wrap (r_5 - 1)))) != 0))) && (decide (0 < (i : Int))))) (v := pt (aD b2) 0) rfl rfl rfl (wt_gt (gd_of (t := 85) (by kernel_rfl) rfl)) (by kernel_rfl) (by kernel_rfl) (by kernel_rfl) (hS16.se [0, 1, 2]) (fun hg44 w' hw' => (Y_fieldAddr (B := aD b2) (i := 0) (s := 0) k_fd_56_0_0_3 k_sz_3_1 rfl rfl)) ?_
     refine ra_gq 38 94 (B := ((!((((!r_6) || (decide (3 < r_5))) || (!r_7)) || ((Int.tmod x.Coef (shlK .i64 1 (i64.wrap (r_5 - 1)))) != 0))) && (decide (0 < (i : Int))))) (v := vi x.Mask) rfl rfl rfl (wt_gt (gd_of (t := 85) (by kernel_rfl) rfl)) (by kernel_rfl) (by kernel_rfl) (by kernel_rfl) (hS16.se [0, 1, 2]) (fun hg45 w' hw' => (Y_load1 (B := aD b2) (i := 0) (cs := [vi x.Mask, vi x.Coef]) (v := vi x.Mask) k_sc_3 rfl (gv_of (v := pt (aD b2) 0) hg45) (ST.cf hw' (i := 2) rfl) rfl)) ?_
     refine ra_gq 39 95 (B := ((!((((!r_6) || (decide (3 < r_5))) || (!r_7)) || ((Int.tmod x.Coef (shlK .i64 1 (i64.wrap (r_5 - 1)))) != 0))) && (decide (0 < (i : Int))))) (v := .bool (decide (x.Mask ≤ x1.Mask))) rfl rfl rfl (wt_gt (gd_of (t := 85) (by kernel_rfl) rfl)) (by kernel_rfl) (by kernel_rfl) (by kernel_rfl) (hS16.se [0, 1, 2]) (fun hg46 w' hw' => (Y_ge (k := .i64) (a := x1.Mask) (b := x.Mask) rfl (gv_of (v := vi x1.Mask) hg46) (gv_of (v := vi x.Mask) hg46))) ?_
     refine ra_gq 40 96 (B := (!((((!r_6) || (decide (3 < r_5))) || (!r_7)) || ((Int.tmod x.Coef (shlK .i64 1 (i64.wrap (r_5 - 1)))) != 0)))) (v := .bool ((decide (0 < (i : Int))) && (decide (x.Mask ≤ x1.Mask)))) rfl rfl rfl (uF_ 82) (by kernel_rfl) (by kernel_rfl) (by kernel_rfl) (hS16.se [0, 1, 2]) (fun hg47 w' hw' => (Y_and (b := (decide (0 < (i : Int)))) (z := (decide (x.Mask ≤ x1.Mask))) rfl (gv_of (v := .bool (decide (0 < (i : Int)))) hg47) (gv_and (B := (!((((!r_6) || (decide (3 < r_5))) || (!r_7)) || ((Int.tmod x.Coef (shlK .i64 1 (i64.wrap (r_5 - 1)))) != 0)))) (C := (decide (0 < (i : Int)))) (v := .bool (decide (x.Mask ≤ x1.Mask))) hg47) rfl)) ?_
     refine ra_q 41 97 (v := .bool (((((!r_6) || (decide (3 < r_5))) || (!r_7)) || ((Int.tmod x.Coef (shlK .i64 1 (i64.wrap (r_5 - 1)))) != 0)) || ((decide (0 < (i : Int))) && (decide (x.Mask ≤ x1.Mask))))) rfl rfl rfl (by kernel_rfl) (by kernel_rfl) (by kernel_rfl) (hS16.se [0, 1, 2]) (fun w' hw' => (Y_or (b := ((((!r_6) || (decide (3 < r_5))) || (!r_7)) || ((Int.tmod x.Coef (shlK .i64 1 (i64.wrap (r_5 - 1)))) != 0))) (z := ((decide (0 < (i : Int))) && (decide (x.Mask ≤ x1.Mask)))) rfl rfl rfl rfl)) ?_
     refine ra_done (by kernel_rfl) ?_
     refine cw_cond (b := (((((!r_6) || (decide (3 < r_5))) || (!r_7)) || ((Int.tmod x.Coef (shlK .i64 1 (i64.wrap (r_5 - 1)))) != 0)) || ((decide (0 < (i : Int))) && (decide (x.Mask ≤ x1.Mask))))) rfl (fun hb2 => ?_) (fun hb2 => ?_)
     ·skip
      have hF4 := ct hb1 hb2
      refine cw_seq (cw_region ?_)
      refine sQ 2 (Y_assign (v := .bool false) rfl rfl) (rw_nil (cw_ret ?_))
      obtain rfl := some_inj hF4
      obtain rfl := some_inj hL1
      obtain rfl := some_inj hF3
      exact ret1 Tryd.results20 (v1 := .bool false) (resAt_tmp rfl) ⟨rfl, (hS16.sN [])⟩
     ·skip
      have hF5 := cf' hb1 hb2
      refine cw_skip (cw_region ?_)
      refine sQ 98 (Y_add (k := .i64) (a := (i : Int)) (b := 1) rfl (hf.get 48 4 rfl) rfl) ?_
      refine sQ 48 (Y_move (v := vi (i64.wrap ((i : Int) + 1))) rfl rfl) (rw_nil ?_)
      obtain rfl := some_inj hF5
      exact ⟨k_1, Nat.lt_succ_self _, i + 1, (FF.cons (hf.get 1 0 rfl) (FF.cons (hf.get 3 1 rfl) (FF.cons (hf.get 46 2 rfl) (FF.cons (hf.get 47 3 rfl) (FF.cons (congrArg (Value.int .i64) (wr_succ hlt1 hN)) FF.nil))))), (hS16.sel [0, 1] rfl rfl), (by omega), hL1⟩
    exact allR_nil
   exact allR_nil
  ·skip
   obtain rfl : k_ = 0 := by have h := of_decide_eq_false hlt; omega
   refine cw_exit rfl ?_
   obtain rfl := some_inj hL
   refine cw_seq (cw_region ?_)
   refine sQ 99 (Y_fieldAddr (B := aD b) (i := 0) (s := 0) k_fd_30_5_5_28 k_sz_28_1 rfl (hf.get 1 0 rfl)) ?_
   refine sQ 100 (Y_load1 (B := aD b) (i := 5) (cs := [vi p.Ins, vi p.Vars, vi p.Root, vi p.Phase, .slice B p.Terms.length c, .slice B1 p.Out.length c1]) (v := .slice B1 p.Out.length c1) k_sc_28 rfl rfl (hS8.cf (i := 0) rfl) rfl) ?_
   refine sQ 101 (Y_makeFunc (cs := [pt (aD b1) 0]) rfl rfl (mc (hf.get 3 1 rfl) mn)) ?_
   obtain ⟨r_8, hc7, hF3⟩ := bind_inv hF3
   refine sc 102 rfl rfl (Yc_func (g := 21) (vs := [.slice B1 p.Out.length c1, .func (.func 46) #[] #[pt (aD b1) 0]]) k_call_21 rfl (mc rfl (mc rfl mn)) (c_slices_ContainsFunc_impl_Affine_impl_Affine p.Out (fun x_0 => F_impl_IsValidPathSum_1 x_0 (i64.wrap (p.Ins + p.Vars))) B1 c1 p.Out.length 46 (#[pt (aD b1) 0]) [⟨aD b1, [vi (i64.wrap (p.Ins + p.Vars))]⟩] _ rfl k_call_46 (fun w hw x_0 y_0 h_ => c_impl_IsValidPathSum_1 x_0 (i64.wrap (p.Ins + p.Vars)) (aD b1) w  hw h_) (hS8.inn0 [(true, 1), (false, 1)] rfl) hc7)) ?_
   rintro _ w_12 ⟨rfl, hd3⟩
   have hS17 := hS8.out00 hd3
   refine sQ 103 (Y_not (p := r_8) rfl rfl) ?_
   refine sQ 2 (Y_assign (v := .bool (!r_8)) rfl rfl) (rw_nil (cw_ret ?_))
   obtain rfl := some_inj hF3
   exact ret1 Tryd.results20 (v1 := .bool (!r_8)) (resAt_tmp rfl) ⟨rfl, (hS17.sN [])⟩

theorem c_impl_ReduceStep_1 (a : TAffine) (p : Int) (B : Option Addr) (w0 : World)  (hS : ST w0 [] w0 [] [⟨B, [vi p]⟩]) {r_ : Bool} (hF : F_impl_ReduceStep_1 a p = some r_) :
  CV Tryd.prog 22 #[.agg #[vi a.Mask, vi a.Turn], pt B 0] w0 (fun v w' => v = .bool r_ ∧ ST w0 [] w' [] []) := by
 unfold F_impl_ReduceStep_1 at hF
 refine cv_of_cw 10 Tryd.func22 rfl Tryd.ntmps22 rfl ?_
 refine cw_seq (cw_region ?_)
 refine sS 2 (Ys_box (T := 44) (v := .agg #[vi a.Mask, vi a.Turn]) (cs := [vi a.Mask, vi a.Turn]) (m := 2) hS rfl rfl rfl rfl) ?_
 rintro _ w_ ⟨b, rfl, hS1⟩
 refine sQ 3 (Y_assign (v := .bool false) rfl rfl) (rw_nil (cw_seq (cw_region ?_)))
 refine sQ 4 (Y_fieldAddr (B := aD b) (i := 0) (s := 0) k_fd_44_0_0_3 k_sz_3_1 rfl rfl) ?_
 refine sQ 5 (Y_load1 (B := aD b) (i := 0) (cs := [vi a.Mask, vi a.Turn]) (v := vi a.Mask) k_sc_3 rfl rfl (hS1.cf (i := 0) rfl) rfl) ?_
 refine sQ 6 (Y_load1 (B := B) (i := 0) (cs := [vi p]) (v := vi p) k_sc_3 rfl rfl (hS1.rf (i := 0) rfl) rfl) ?_
 obtain ⟨hsh, hF⟩ := chk_inv hF
 refine sQ 7 (Y_shr (k := .i64) (a := a.Mask) (k' := .i64) (b := p) rfl rfl rfl hsh) ?_
 refine sQ 8 (Y_band (k := .i64) (a := (shrK .i64 a.Mask p)) (b := 1) rfl rfl rfl) ?_
 refine sQ 9 (Y_eq (k := .i64) (a := (bits .and .i64 (shrK .i64 a.Mask p) 1)) (b := 1) rfl rfl rfl) ?_
 refine sQ 3 (Y_assign (v := .bool ((bits .and .i64 (shrK .i64 a.Mask p) 1) == 1)) rfl rfl) (rw_nil (cw_ret ?_))
 obtain rfl := some_inj hF
 exact ret1 Tryd.results22 (v1 := .bool ((bits .and .i64 (shrK .i64 a.Mask p) 1) == 1)) (resAt_tmp rfl) ⟨rfl, (hS1.sN [])⟩

theorem c_impl_PathSum_around (p : TPathSum) (y : Int) (B : Option Addr) (c n : Nat) (B1 : Option Addr) (c1 n1 : Nat) (w0 : World) (hn : p.Terms.length = n) (hn1 : p.Out.length = n1) (hS : ST w0 [] w0 [] [⟨B, (p.Terms.flatMap eN0)⟩, ⟨B1, (p.Out.flatMap eN1)⟩]) {r_ : Int} {r_1 : Int} {r_2 : Bool} {r_3 : Bool} (hF : F_impl_PathSum_around p y = some (r_, r_1, r_2, r_3)) :
  CV Tryd.prog 49 #[.agg #[vi p.Ins, vi p.Vars, vi p.Root, vi p.Phase, .slice B n c, .slice B1 n1 c1], vi y] w0 (fun v w' => v = .tuple #[vi r_, vi r_1, .bool r_2, .bool r_3] ∧ ST w0 [] w' [] []) := by
 subst hn
 subst hn1
 unfold F_impl_PathSum_around at hF
 refine cv_of_cw 55 Tryd.func49 rfl Tryd.ntmps49 rfl ?_
 refine cw_seq (cw_region ?_)
 refine sS 2 (Ys_box (T := 30) (v := .agg #[vi p.Ins, vi p.Vars, vi p.Root, vi p.Phase, .slice B p.Terms.length c, .slice B1 p.Out.length c1]) (cs := [vi p.Ins, vi p.Vars, vi p.Root, vi p.Phase, .slice B p.Terms.length c, .slice B1 p.Out.length c1]) (m := 6) hS rfl rfl rfl rfl) ?_
 rintro _ w_ ⟨b, rfl, hS1⟩
 refine sQ 4 (Y_assign (v := vi 0) rfl rfl) ?_
 refine sQ 5 (Y_assign (v := vi 0) rfl rfl) ?_
 refine sQ 6 (Y_assign (v := .bool false) rfl rfl) ?_
 refine sQ 7 (Y_assign (v := .bool false) rfl rfl) (rw_nil (cw_seq (cw_region ?_)))
 refine sQ 8 (Y_assign (v := vi 0) rfl rfl) ?_
 refine sQ 9 (Y_assign (v := vi 0) rfl rfl) ?_
 refine sQ 10 (Y_assign (v := .bool false) rfl rfl) ?_
 refine sQ 11 (Y_assign (v := .bool true) rfl rfl) (rw_nil (cw_seq (cw_seq (cw_region ?_))))
 refine sQ 15 (Y_fieldAddr (B := aD b) (i := 0) (s := 0) k_fd_30_4_4_27 k_sz_27_1 rfl rfl) ?_
 refine sQ 16 (Y_load1 (B := aD b) (i := 4) (cs := [vi p.Ins, vi p.Vars, vi p.Root, vi p.Phase, .slice B p.Terms.length c, .slice B1 p.Out.length c1]) (v := .slice B p.Terms.length c) k_sc_27 rfl rfl (hS1.cf (i := 0) rfl) rfl) ?_
 refine sQ 17 (Y_len (B := B) (m := p.Terms.length) (c := c) k_sl_27_56 rfl rfl) ?_
 refine sQ 18 (Y_move (v := vi 0) rfl rfl) (rw_nil ?_)
 obtain ⟨hN, hF⟩ := chk_inv hF
 obtain ⟨z, hz, hF1⟩ := bind_inv hF
 refine cw_block ?_
 refine cw_loop (fun k f w => ∃ (i : Nat) (coef : Int) (set_ : Int) (any : Bool) (plain : Bool), FF f [(1, vi y), (8, vi coef), (9, vi set_), (10, .bool any), (11, .bool plain), (16, .slice B p.Terms.length c), (17, vi (p.Terms.length : Int)), (18, vi (i : Int))] ∧ ST w0 [] w [] [⟨B, (p.Terms.flatMap eN0)⟩, ⟨B1, (p.Out.flatMap eN1)⟩] ∧ i + k = p.Terms.length ∧ forN (F_impl_PathSum_around_l1 p y) k i (coef, set_, any, plain) = some z) p.Terms.length ⟨0, 0, 0, false, true, (FF.cons rfl (FF.cons rfl (FF.cons rfl (FF.cons rfl (FF.cons rfl (FF.cons rfl (FF.cons rfl (FF.cons rfl FF.nil)))))))), (hS1.sel [] rfl rfl), Nat.zero_add _, hz⟩ ?_
 rintro k_ f w ⟨i, coef, set_, any, plain, hf, hS2, hik, hL⟩
 refine cw_seq (cw_region ?_)
 refine sQ 19 (Y_lt (k := .i64) (a := (i : Int)) (b := (p.Terms.length : Int)) rfl (hf.get 18 7 rfl) (hf.get 17 6 rfl)) (rw_nil (cw_seq ?_))
 refine cw_cond (b := (decide ((i : Int) < (p.Terms.length : Int)))) rfl (fun hlt => ?_) (fun hlt => ?_)
 ·skip
  have hlt1 : i < p.Terms.length := by have h := of_decide_eq_true hlt; omega
  obtain ⟨k_1, rfl⟩ : ∃ k2, k_ = k2 + 1 := ⟨k_ - 1, by omega⟩
  obtain ⟨y1, hb, hL1⟩ := forN_go hL
  unfold F_impl_PathSum_around_l1 at hb
  refine cw_skip (cw_seq ?_)
  obtain ⟨z1, hz1, hF2⟩ := bind_inv hb
  refine cw_mid (fun f w => ∃ (coef1 : Int) (set_1 : Int) (any1 : Bool) (plain1 : Bool), (coef1, set_1, any1, plain1) = z1 ∧ FF f [(1, vi y), (8, vi coef1), (9, vi set_1), (10, .bool any1), (11, .bool plain1), (16, .slice B p.Terms.length c), (17, vi (p.Terms.length : Int)), (18, vi (i : Int))] ∧ ST w0 [] w [] [⟨B, (p.Terms.flatMap eN0)⟩, ⟨B1, (p.Out.flatMap eN1)⟩]) ?_ ?_
  ·skip
   refine cw_block (cw_seq (cw_region ?_))
   obtain ⟨x, hx, hz1⟩ := bind_inv hz1
   refine sQ 20 (Y_index (B := B) (m := p.Terms.length) (c := c) (k := .i64) (i := (i : Int)) k_sl_27_56 k_sz_56_2 rfl (hf.get 16 5 rfl) (hf.get 18 7 rfl) (gi_isSome eN2 rfl (hS2.rf (i := 0) rfl) hx) (getI_nn hx) (getI_ltI hx rfl)) ?_
   refine sQ 21 (Y_loadA (B := B) (i := (i : Int).toNat * 2) (cs := (p.Terms.flatMap eN0)) (vs := [vi x.Mask, vi x.Coef]) k_ag_56 k_sz_56_2 rfl rfl (hS2.rf (i := 0) rfl) (eN2 x) (gi_seg eN2 hx)) ?_
   refine sS 13 (Ys_alloc (T := 56) (cs := [vi 0, vi 0]) (m := 2) hS2 k_zero_56 rfl rfl rfl) ?_
   rintro _ w_1 ⟨b1, rfl, hS4⟩
   refine s0 (Ys_store (i := 0) (s := 2) (B := aD b1) (T' := 56) (v := .agg #[vi x.Mask, vi x.Coef]) (vs := [vi x.Mask, vi x.Coef]) (k := 0) (cs' := [vi x.Mask, vi x.Coef]) hS4 k_sz_56_2 rfl rfl rfl rfl rfl rfl rfl (lB rfl) rfl rfl) ?_
   rintro _ w_2 ⟨rfl, hS5⟩
   refine rw_nil (cw_seq (cw_seq (cw_region ?_)))
   refine sQ 22 (Y_fieldAddr (B := aD b1) (i := 0) (s := 0) k_fd_56_0_0_3 k_sz_3_1 rfl rfl) ?_
   refine sQ 23 (Y_load1 (B := aD b1) (i := 0) (cs := [vi x.Mask, vi x.Coef]) (v := vi x.Mask) k_sc_3 rfl rfl (hS5.cf (i := 0) rfl) rfl) ?_
   refine sQ 24 (Y_move (v := vi y) rfl (hf.get 1 0 rfl)) ?_
   obtain ⟨hsh, hz1⟩ := chk_inv hz1
   refine sQ 25 (Y_shr (k := .i64) (a := x.Mask) (k' := .i64) (b := y) rfl rfl rfl hsh) ?_
   refine sQ 26 (Y_band (k := .i64) (a := (shrK .i64 x.Mask y)) (b := 1) rfl rfl rfl) ?_
   refine sQ 27 (Y_eq (k := .i64) (a := (bits .and .i64 (shrK .i64 x.Mask y) 1)) (b := 0) rfl rfl rfl) (rw_nil ?_)
   refine cw_cond (b := ((bits .and .i64 (shrK .i64 x.Mask y) 1) == 0)) rfl (fun hb1 => ?_) (fun hb1 => ?_)
   ·skip
    have hF3 := ct hz1 hb1
    refine cw_exit rfl ?_
    exact ⟨coef, set_, any, plain, (some_inj hF3), (FF.cons (hf.get 1 0 rfl) (FF.cons (hf.get 8 1 rfl) (FF.cons (hf.get 9 2 rfl) (FF.cons (hf.get 10 3 rfl) (FF.cons (hf.get 11 4 rfl) (FF.cons (hf.get 16 5 rfl) (FF.cons (hf.get 17 6 rfl) (FF.cons (hf.get 18 7 rfl) FF.nil)))))))), (hS5.sel [] rfl rfl)⟩
   ·skip
    have hF4 := cf' hz1 hb1
    refine cw_skip (cw_seq (cw_region ?_))
    refine sQ 10 (Y_assign (v := .bool true) rfl rfl) (rw_nil (cw_seq ?_))
    obtain ⟨hsh1, hF4⟩ := chk_inv hF4
    refine ra_start (hS5.se [0]).fn (by kernel_rfl) ?_
    have hS6 := hS5.drew
    refine rq 0 28 (v := pt (aD b1) 0) rfl (hS6.se [0]) (fun w' hw' => (Y_fieldAddr (B := aD b1) (i := 0) (s := 0) k_fd_56_0_0_3 k_sz_3_1 rfl rfl)) ?_
    refine rq 1 29 (v := vi x.Mask) rfl (hS6.se [0]) (fun w' hw' => (Y_load1 (B := aD b1) (i := 0) (cs := [vi x.Mask, vi x.Coef]) (v := vi x.Mask) k_sc_3 rfl rfl (ST.cf hw' (i := 0) rfl) rfl)) ?_
    refine rq 2 30 (v := vi y) rfl (hS6.se [0]) (fun w' hw' => (Y_move (v := vi y) rfl (hf.get 1 0 rfl))) ?_
    refine rq 3 31 (v := vi (shlK .i64 1 y)) rfl (hS6.se [0]) (fun w' hw' => (Y_shl (k := .i64) (a := 1) (k' := .i64) (b := y) rfl rfl rfl hsh1)) ?_
    refine rq 4 32 (v := vi (bits .xor .i64 x.Mask (shlK .i64 1 y))) rfl (hS6.se [0]) (fun w' hw' => (Y_bxor (k := .i64) (a := x.Mask) (b := (shlK .i64 1 y)) rfl rfl rfl)) ?_
    refine rq 5 14 (v := vi (bits .xor .i64 x.Mask (shlK .i64 1 y))) rfl (hS6.se [0]) (fun w' hw' => (Y_assign (v := vi (bits .xor .i64 x.Mask (shlK .i64 1 y))) rfl rfl)) ?_
    refine ra_done (by kernel_rfl) ?_
    refine cw_seq (cw_region ?_)
    refine sQ 33 (Y_move (v := vi (bits .xor .i64 x.Mask (shlK .i64 1 y))) rfl rfl) ?_
    obtain ⟨r_4, hc, hF4⟩ := bind_inv hF4
    refine sc 34 rfl rfl (Yc_func (g := 45) (vs := [vi (bits .xor .i64 x.Mask (shlK .i64 1 y))]) k_call_45 rfl (mc rfl mn) (c_impl_bitsIn (bits .xor .i64 x.Mask (shlK .i64 1 y)) _  (hS6.inn0 [] rfl) hc)) ?_
    rintro _ w_3 ⟨rfl, hd⟩
    have hS7 := hS6.out00 hd
    refine rw_nil (cw_block (cw_seq (cw_region ?_)))
    refine sQ 36 (Y_eq (k := .i64) (a := r_4) (b := 0) rfl rfl rfl) ?_
    refine sQ 35 (Y_assign (v := .bool (r_4 == 0)) rfl rfl) (rw_nil ?_)
    refine cw_cond (b := (r_4 == 0)) rfl (fun hb2 => ?_) (fun hb2 => ?_)
    ·skip
     have hF5 := ct hF4 hb2
     refine cw_region ?_
     refine sQ 37 (Y_fieldAddr (B := aD b1) (i := 0) (s := 0) k_fd_56_1_1_3 k_sz_3_1 rfl rfl) ?_
     refine sQ 38 (Y_load1 (B := aD b1) (i := 1) (cs := [vi x.Mask, vi x.Coef]) (v := vi x.Coef) k_sc_3 rfl rfl (hS7.cf (i := 0) rfl) rfl) ?_
     refine sQ 8 (Y_assign (v := vi x.Coef) rfl rfl) (rw_nil ?_)
     exact ⟨x.Coef, set_, true, plain, (some_inj hF5), (FF.cons (hf.get 1 0 rfl) (FF.cons rfl (FF.cons (hf.get 9 2 rfl) (FF.cons rfl (FF.cons (hf.get 11 4 rfl) (FF.cons (hf.get 16 5 rfl) (FF.cons (hf.get 17 6 rfl) (FF.cons (hf.get 18 7 rfl) FF.nil)))))))), (hS7.sel [] rfl rfl)⟩
    ·skip
     have hF6 := cf' hF4 hb2
     refine cw_seq (cw_region ?_)
     refine sQ 40 (Y_eq (k := .i64) (a := r_4) (b := 1) rfl rfl rfl) ?_
     refine sQ 39 (Y_assign (v := .bool (r_4 == 1)) rfl rfl) (rw_nil ?_)
     refine cw_cond (b := (r_4 == 1)) rfl (fun hb3 => ?_) (fun hb3 => ?_)
     ·skip
      have hF7 := ct hF6 hb3
      refine cw_seq (cw_region ?_)
      refine sQ 41 (Y_move (v := vi set_) rfl (hf.get 9 2 rfl)) ?_
      refine sQ 42 (Y_move (v := vi (bits .xor .i64 x.Mask (shlK .i64 1 y))) rfl rfl) ?_
      refine sQ 43 (Y_bor (k := .i64) (a := set_) (b := (bits .xor .i64 x.Mask (shlK .i64 1 y))) rfl rfl rfl) ?_
      refine sQ 9 (Y_assign (v := vi (bits .or .i64 set_ (bits .xor .i64 x.Mask (shlK .i64 1 y)))) rfl rfl) (rw_nil (cw_region ?_))
      refine sQ 44 (Y_move (v := .bool plain) rfl (hf.get 11 4 rfl)) ?_
      refine sQ 45 (Y_move (v := .bool plain) rfl rfl) ?_
      refine sgq 46 (B := plain) (v := pt (aD b1) 1) rfl rfl (uT_ 45) (fun hg => (Y_fieldAddr (B := aD b1) (i := 0) (s := 0) k_fd_56_1_1_3 k_sz_3_1 rfl rfl)) ?_
      refine sgq 47 (B := plain) (v := vi x.Coef) rfl rfl (uT_ 45) (fun hg1 => (Y_load1 (B := aD b1) (i := 1) (cs := [vi x.Mask, vi x.Coef]) (v := vi x.Coef) k_sc_3 rfl (gv_of (v := pt (aD b1) 1) hg1) (hS7.cf (i := 0) rfl) rfl)) ?_
      refine sgq 48 (B := plain) (v := .bool (x.Coef == 4)) rfl rfl (uT_ 45) (fun hg2 => (Y_eq (k := .i64) (a := x.Coef) (b := 4) rfl (gv_of (v := vi x.Coef) hg2) rfl)) ?_
      refine sQ 49 (Y_and (b := plain) (z := (x.Coef == 4)) rfl rfl rfl rfl) ?_
      refine sQ 11 (Y_assign (v := .bool (plain && (x.Coef == 4))) rfl rfl) (rw_nil ?_)
      exact ⟨coef, (bits .or .i64 set_ (bits .xor .i64 x.Mask (shlK .i64 1 y))), true, (plain && (x.Coef == 4)), (some_inj hF7), (FF.cons (hf.get 1 0 rfl) (FF.cons (hf.get 8 1 rfl) (FF.cons rfl (FF.cons rfl (FF.cons rfl (FF.cons (hf.get 16 5 rfl) (FF.cons (hf.get 17 6 rfl) (FF.cons (hf.get 18 7 rfl) FF.nil)))))))), (hS7.sel [] rfl rfl)⟩
     ·skip
      have hF8 := cf' hF6 hb3
      refine cw_region ?_
      refine sQ 11 (Y_assign (v := .bool false) rfl rfl) (rw_nil ?_)
      exact ⟨coef, set_, true, false, (some_inj hF8), (FF.cons (hf.get 1 0 rfl) (FF.cons (hf.get 8 1 rfl) (FF.cons (hf.get 9 2 rfl) (FF.cons rfl (FF.cons rfl (FF.cons (hf.get 16 5 rfl) (FF.cons (hf.get 17 6 rfl) (FF.cons (hf.get 18 7 rfl) FF.nil)))))))), (hS7.sel [] rfl rfl)⟩
  rintro f w ⟨coef1, set_1, any1, plain1, rfl, hf1, hS3⟩
  refine cw_region ?_
  refine sQ 50 (Y_add (k := .i64) (a := (i : Int)) (b := 1) rfl (hf1.get 18 7 rfl) rfl) ?_
  refine sQ 18 (Y_move (v := vi (i64.wrap ((i : Int) + 1))) rfl rfl) (rw_nil ?_)
  obtain rfl := some_inj hF2
  exact ⟨k_1, Nat.lt_succ_self _, i + 1, coef1, set_1, any1, plain1, (FF.cons (hf1.get 1 0 rfl) (FF.cons (hf1.get 8 1 rfl) (FF.cons (hf1.get 9 2 rfl) (FF.cons (hf1.get 10 3 rfl) (FF.cons (hf1.get 11 4 rfl) (FF.cons (hf1.get 16 5 rfl) (FF.cons (hf1.get 17 6 rfl) (FF.cons (congrArg (Value.int .i64) (wr_succ hlt1 hN)) FF.nil)))))))), (hS3.sel [] rfl rfl), (by omega), hL1⟩
 ·skip
  obtain rfl : k_ = 0 := by have h := of_decide_eq_false hlt; omega
  refine cw_exit rfl ?_
  obtain rfl := some_inj hL
  refine cw_seq (cw_region ?_)
  refine sQ 51 (Y_move (v := vi coef) rfl (hf.get 8 1 rfl)) ?_
  refine sQ 52 (Y_move (v := vi set_) rfl (hf.get 9 2 rfl)) ?_
  refine sQ 53 (Y_move (v := .bool any) rfl (hf.get 10 3 rfl)) ?_
  refine sQ 54 (Y_move (v := .bool plain) rfl (hf.get 11 4 rfl)) ?_
  refine sQ 4 (Y_assign (v := vi coef) rfl rfl) ?_
  refine sQ 5 (Y_assign (v := vi set_) rfl rfl) ?_
  refine sQ 6 (Y_assign (v := .bool any) rfl rfl) ?_
  refine sQ 7 (Y_assign (v := .bool plain) rfl rfl) (rw_nil (cw_ret ?_))
  obtain ⟨rfl, rfl, rfl, rfl⟩ := pr4 (some_inj hF1)
  exact ret4 Tryd.results49 (v1 := vi coef) (resAt_tmp rfl) (v2 := vi set_) (resAt_tmp rfl) (v3 := .bool any) (resAt_tmp rfl) (v4 := .bool plain) (resAt_tmp rfl) ⟨rfl, (hS2.sN [])⟩

theorem c_math_bits_TrailingZeros64 (x : Int)  (w0 : World)  (hS : ST w0 [] w0 [] [⟨(aD 1), (gl1.flatMap enc_u8)⟩]) {r_ : Int} (hF : F_math_bits_TrailingZeros64 x = some r_) :
  CV Tryd.prog 59 #[.int .u64 x] w0 (fun v w' => v = vi r_ ∧ ST w0 [] w' [] []) := by
 unfold F_math_bits_TrailingZeros64 at hF
 refine cv_of_cw 14 Tryd.func59 rfl Tryd.ntmps59 rfl ?_
 refine cw_seq (cw_region ?_)
 refine sQ 2 (Y_assign (v := vi 0) rfl rfl) (rw_nil (cw_seq (cw_seq (cw_region ?_))))
 refine sQ 3 (Y_move (v := .int .u64 x) rfl rfl) ?_
 refine sQ 4 (Y_eq (k := .u64) (a := x) (b := 0) rfl rfl rfl) (rw_nil ?_)
 refine cw_cond (b := (x == 0)) rfl (fun hb => ?_) (fun hb => ?_)
 ·skip
  have hF1 := ct hF hb
  refine cw_seq (cw_region ?_)
  refine sQ 2 (Y_assign (v := vi 64) rfl rfl) (rw_nil (cw_ret ?_))
  obtain rfl := some_inj hF1
  exact ret1 Tryd.results59 (v1 := vi 64) (resAt_tmp rfl) ⟨rfl, (hS.sN [])⟩
 ·skip
  have hF2 := cf' hF hb
  refine cw_skip (cw_seq (cw_region ?_))
  refine sQ 5 (Y_move (v := .int .u64 x) rfl rfl) ?_
  refine sQ 6 (Y_move (v := .int .u64 x) rfl rfl) ?_
  refine sQ 7 (Y_neg (k := .u64) (a := x) rfl rfl) ?_
  refine sQ 8 (Y_band (k := .u64) (a := x) (b := (IntKind.u64.wrap (-x))) rfl rfl rfl) ?_
  refine sQ 9 (Y_mul (k := .u64) (a := (bits .and .u64 x (IntKind.u64.wrap (-x)))) (b := 285870213051353865) rfl rfl rfl) ?_
  refine sQ 10 (Y_shr (k := .u64) (a := (IntKind.u64.wrap ((bits .and .u64 x (IntKind.u64.wrap (-x))) * 285870213051353865))) (k' := .u64) (b := 58) rfl rfl rfl (by decide)) ?_
  obtain ⟨x1, hx, hF2⟩ := bind_inv hF2
  refine sQ 11 (Y_indexArr0 (B := (aD 1)) (k := .u64) (i := (shrK .u64 (IntKind.u64.wrap ((bits .and .u64 x (IntKind.u64.wrap (-x))) * 285870213051353865)) 58)) k_ar_98_64_5 k_sz_5_1 rfl rfl rfl (getI_nn hx) (getI_ltI hx gl1_len)) ?_
  refine sQ 12 (Y_load1 (B := (aD 1)) (i := (shrK .u64 (IntKind.u64.wrap ((bits .and .u64 x (IntKind.u64.wrap (-x))) * 285870213051353865)) 58).toNat * 1) (cs := (gl1.flatMap enc_u8)) (v := .int .u8 x1) k_sc_5 rfl rfl (hS.rf (i := 0) rfl) (gi_at0 enc_u8_len hx rfl)) ?_
  refine sQ 13 (Y_conv (k := .u8) (a := x1) (T := 5) (T' := 3) k_us_5 k_int_3_i64 rfl rfl) ?_
  refine sQ 2 (Y_assign (v := vi (i64.wrap x1)) rfl rfl) (rw_nil (cw_ret ?_))
  obtain rfl := some_inj hF2
  exact ret1 Tryd.results59 (v1 := vi (i64.wrap x1)) (resAt_tmp rfl) ⟨rfl, (hS.sN [])⟩

theorem c_math_bits_TrailingZeros (x : Int)  (w0 : World)  (hS : ST w0 [] w0 [] [⟨(aD 0), (gl0.flatMap enc_u8)⟩, ⟨(aD 1), (gl1.flatMap enc_u8)⟩]) {r_ : Int} (hF : F_math_bits_TrailingZeros x = some r_) :
  CV Tryd.prog 50 #[.int .u64 x] w0 (fun v w' => v = vi r_ ∧ ST w0 [] w' [] []) := by
 unfold F_math_bits_TrailingZeros at hF
 refine cv_of_cw 8 Tryd.func50 rfl Tryd.ntmps50 rfl ?_
 refine cw_seq (cw_region ?_)
 refine sQ 2 (Y_assign (v := vi 0) rfl rfl) (rw_nil (cw_seq ?_))
 refine cw_cond (b := false) rfl (fun h => by cases h) (fun _ => ?_)
 refine cw_skip (cw_seq (cw_region ?_))
 refine sQ 6 (Y_move (v := .int .u64 x) rfl rfl) ?_
 obtain ⟨r_1, hc, hF⟩ := bind_inv hF
 refine sc 7 rfl rfl (Yc_func (g := 59) (vs := [.int .u64 x]) k_call_59 rfl (mc rfl mn) (c_math_bits_TrailingZeros64 x _  (hS.inn0 [(true, 1)] rfl) hc)) ?_
 rintro _ w_ ⟨rfl, hd⟩
 have hS1 := hS.out00 hd
 refine sQ 2 (Y_assign (v := vi r_1) rfl rfl) (rw_nil (cw_ret ?_))
 obtain rfl := some_inj hF
 exact ret1 Tryd.results50 (v1 := vi r_1) (resAt_tmp rfl) ⟨rfl, (hS1.sN [])⟩
end Go.VK
