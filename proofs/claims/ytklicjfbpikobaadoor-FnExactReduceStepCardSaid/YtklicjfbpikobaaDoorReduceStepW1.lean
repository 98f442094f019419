/- Walks: each Go function returns what its Lean function says. By program. -/
import Derived.Test.YtklicjfbpikobaaDoorReduceStepFa
import Derived.Test.YtklicjfbpikobaaDoorReduceStepShelf
import Derived.Test.YtklicjfbpikobaaDoorLibT
import Derived.WalkKit
set_option linter.unusedVariables false
set_option maxRecDepth 100000
set_option maxHeartbeats 4000000
namespace Go.VK
open Go.RowKit
open Go.Proofs
attribute [local irreducible] CW RW RA CV Y Yw Yc Ys RetOf
attribute [local irreducible] F_laws_szTermS F_laws_szAffineS F_laws_szPathSum F_spec_l1In F_spec_l1Set F_spec_l21Valid F_spec_l21Rule F_spec_l21Drop F_spec_l21Sum_add F_spec_l21Sum_times F_spec_l21Replace F_spec_l21Without F_spec_l21Step F_spec_ReduceStep F_laws_toTerm F_laws_toTermS F_laws_toAffine F_laws_toAffineS F_laws_toPathSum F_slices_IndexFunc_impl_Affine_impl_Affine F_slices_ContainsFunc_impl_Affine_impl_Affine F_impl_within F_math_bits_OnesCount64 F_math_bits_OnesCount F_impl_bitsIn F_impl_isAffine F_impl_IsValidPathSum_1 F_impl_IsValidPathSum F_impl_ReduceStep_1 F_impl_PathSum_around F_math_bits_TrailingZeros64 F_math_bits_TrailingZeros F_impl_dropped F_impl_PathSum_without F_impl_polyOf F_impl_polynomial_add F_impl_bitsOf F_impl_polynomial_expand F_impl_polynomial_terms F_impl_PathSum_stripped F_impl_PathSum_substituted F_impl_PathSum_ruled F_impl_ReduceStep F_laws_eqTerm F_laws_eqTermS F_laws_eqAffine F_laws_eqAffineS F_laws_eqPathSum F_laws_markTermS F_laws_markAffineS F_laws_markPathSum F_laws_heldTermS F_laws_heldAffineS F_laws_heldPathSum F_laws_FnExactReduceStep
theorem c_laws_szTermS (a : List TTerm) (left : Int) (B : Option Addr) (c n : Nat) (w0 : World) (hn : a.length = n) (hS : ST w0 [] w0 [] [⟨B, (a.flatMap enc_Term)⟩]) {r_ : Int} (hF : F_laws_szTermS a left = some r_) :
    CV Tryd.prog 14 #[.slice B n c, .int .i64 left] w0 (fun v w' => v = .int .i64 r_ ∧ ST w0 [] w' [] []) := by
  subst hn
  unfold F_laws_szTermS at hF
  refine cv_of_cw 12 Tryd.func14 rfl Tryd.ntmps14 rfl ?_
  refine cw_seq ?_
  refine cw_region ?_
  refine sq 4 rfl rfl (Y_assign (v := .int .i64 0) rfl rfl) ?_
  refine rw_nil ?_
  refine cw_seq ?_
  refine cw_region ?_
  refine sq 5 rfl rfl (Y_move (v := .int .i64 left) rfl rfl) ?_
  refine sq 6 rfl rfl (Y_move (v := .slice B a.length c) rfl rfl) ?_
  refine sq 7 rfl rfl (Y_len (B := B) (m := a.length) (c := c) k_sl_22_73 rfl rfl) ?_
  refine sq 8 rfl rfl (Y_sub (k := .i64) (a := left) (b := (a.length : Int)) rfl rfl rfl) ?_
  refine sq 1 rfl rfl (Y_assign (v := .int .i64 (IntKind.i64.wrap (left - (a.length : Int)))) rfl rfl) ?_
  refine rw_nil ?_
  refine cw_seq ?_
  refine cw_seq ?_
  refine cw_region ?_
  refine sq 9 rfl rfl (Y_move (v := .int .i64 (IntKind.i64.wrap (left - (a.length : Int)))) rfl rfl) ?_
  refine sq 10 rfl rfl (Y_lt (k := .i64) (a := (IntKind.i64.wrap (left - (a.length : Int)))) (b := 0) rfl rfl rfl) ?_
  refine rw_nil ?_
  refine cw_cond (b := (decide ((IntKind.i64.wrap (left - (a.length : Int))) < 0))) rfl (fun hb => ?_) (fun hb => ?_)
  · skip
    have hF1 := ct hF hb
    refine cw_seq ?_
    refine cw_region ?_
    refine sq 4 rfl rfl (Y_assign (v := .int .i64 (-1)) rfl rfl) ?_
    refine rw_nil ?_
    refine cw_ret ?_
    obtain rfl := some_inj hF1
    exact ret1 Tryd.results14 (v1 := .int .i64 (-1)) (resAt_tmp rfl) ⟨rfl, (ST.subR (R' := []) (hS.sel [] rfl rfl) (fun _ h => by cases h))⟩
  · skip
    have hF2 := cf' hF hb
    refine cw_skip ?_
    refine cw_seq ?_
    refine cw_region ?_
    refine sq 11 rfl rfl (Y_move (v := .int .i64 (IntKind.i64.wrap (left - (a.length : Int)))) rfl rfl) ?_
    refine sq 4 rfl rfl (Y_assign (v := .int .i64 (IntKind.i64.wrap (left - (a.length : Int)))) rfl rfl) ?_
    refine rw_nil ?_
    refine cw_ret ?_
    obtain rfl := some_inj hF2
    exact ret1 Tryd.results14 (v1 := .int .i64 (IntKind.i64.wrap (left - (a.length : Int)))) (resAt_tmp rfl) ⟨rfl, (ST.subR (R' := []) (hS.sel [] rfl rfl) (fun _ h => by cases h))⟩

theorem c_laws_szAffineS (a : List TAffine) (left : Int) (B : Option Addr) (c n : Nat) (w0 : World) (hn : a.length = n) (hS : ST w0 [] w0 [] [⟨B, (a.flatMap enc_Affine)⟩]) {r_ : Int} (hF : F_laws_szAffineS a left = some r_) :
    CV Tryd.prog 15 #[.slice B n c, .int .i64 left] w0 (fun v w' => v = .int .i64 r_ ∧ ST w0 [] w' [] []) := by
  subst hn
  unfold F_laws_szAffineS at hF
  refine cv_of_cw 12 Tryd.func15 rfl Tryd.ntmps15 rfl ?_
  refine cw_seq ?_
  refine cw_region ?_
  refine sq 4 rfl rfl (Y_assign (v := .int .i64 0) rfl rfl) ?_
  refine rw_nil ?_
  refine cw_seq ?_
  refine cw_region ?_
  refine sq 5 rfl rfl (Y_move (v := .int .i64 left) rfl rfl) ?_
  refine sq 6 rfl rfl (Y_move (v := .slice B a.length c) rfl rfl) ?_
  refine sq 7 rfl rfl (Y_len (B := B) (m := a.length) (c := c) k_sl_23_75 rfl rfl) ?_
  refine sq 8 rfl rfl (Y_sub (k := .i64) (a := left) (b := (a.length : Int)) rfl rfl rfl) ?_
  refine sq 1 rfl rfl (Y_assign (v := .int .i64 (IntKind.i64.wrap (left - (a.length : Int)))) rfl rfl) ?_
  refine rw_nil ?_
  refine cw_seq ?_
  refine cw_seq ?_
  refine cw_region ?_
  refine sq 9 rfl rfl (Y_move (v := .int .i64 (IntKind.i64.wrap (left - (a.length : Int)))) rfl rfl) ?_
  refine sq 10 rfl rfl (Y_lt (k := .i64) (a := (IntKind.i64.wrap (left - (a.length : Int)))) (b := 0) rfl rfl rfl) ?_
  refine rw_nil ?_
  refine cw_cond (b := (decide ((IntKind.i64.wrap (left - (a.length : Int))) < 0))) rfl (fun hb => ?_) (fun hb => ?_)
  · skip
    have hF1 := ct hF hb
    refine cw_seq ?_
    refine cw_region ?_
    refine sq 4 rfl rfl (Y_assign (v := .int .i64 (-1)) rfl rfl) ?_
    refine rw_nil ?_
    refine cw_ret ?_
    obtain rfl := some_inj hF1
    exact ret1 Tryd.results15 (v1 := .int .i64 (-1)) (resAt_tmp rfl) ⟨rfl, (ST.subR (R' := []) (hS.sel [] rfl rfl) (fun _ h => by cases h))⟩
  · skip
    have hF2 := cf' hF hb
    refine cw_skip ?_
    refine cw_seq ?_
    refine cw_region ?_
    refine sq 11 rfl rfl (Y_move (v := .int .i64 (IntKind.i64.wrap (left - (a.length : Int)))) rfl rfl) ?_
    refine sq 4 rfl rfl (Y_assign (v := .int .i64 (IntKind.i64.wrap (left - (a.length : Int)))) rfl rfl) ?_
    refine rw_nil ?_
    refine cw_ret ?_
    obtain rfl := some_inj hF2
    exact ret1 Tryd.results15 (v1 := .int .i64 (IntKind.i64.wrap (left - (a.length : Int)))) (resAt_tmp rfl) ⟨rfl, (ST.subR (R' := []) (hS.sel [] rfl rfl) (fun _ h => by cases h))⟩

theorem c_laws_szPathSum (a : TPathSum) (left : Int) (B : Option Addr) (c n : Nat) (B1 : Option Addr) (c1 n1 : Nat) (w0 : World) (hn : a.Terms.length = n) (hn1 : a.Out.length = n1) (hS : ST w0 [] w0 [] [⟨B, (a.Terms.flatMap enc_Term)⟩, ⟨B1, (a.Out.flatMap enc_Affine)⟩]) {r_ : Int} (hF : F_laws_szPathSum a left = some r_) :
    CV Tryd.prog 5 #[.agg #[.int .i64 a.Ins, .int .i64 a.Vars, .int .i64 a.Root, .int .i64 a.Phase, .slice B n c, .slice B1 n1 c1], .int .i64 left] w0 (fun v w' => v = .int .i64 r_ ∧ ST w0 [] w' [] []) := by
  subst hn
  subst hn1
  unfold F_laws_szPathSum at hF
  refine cv_of_cw 18 Tryd.func5 rfl Tryd.ntmps5 rfl ?_
  refine cw_seq ?_
  refine cw_region ?_
  refine ss 2 rfl rfl (Ys_box (T := 25) (v := .agg #[.int .i64 a.Ins, .int .i64 a.Vars, .int .i64 a.Root, .int .i64 a.Phase, .slice B a.Terms.length c, .slice B1 a.Out.length c1]) (cs := [.int .i64 a.Ins, .int .i64 a.Vars, .int .i64 a.Root, .int .i64 a.Phase, .slice B a.Terms.length c, .slice B1 a.Out.length c1]) (m := 6) hS rfl rfl rfl rfl) ?_
  rintro _ w_ ⟨b, rfl, hS1⟩
  refine sq 4 rfl rfl (Y_assign (v := .int .i64 0) rfl rfl) ?_
  refine rw_nil ?_
  refine cw_seq ?_
  refine cw_region ?_
  refine sq 5 rfl rfl (Y_fieldAddr (B := some ⟨b, 0, none⟩) (i := 0) (s := 0) k_fd_25_4_4_22 k_sz_22_1 rfl rfl) ?_
  refine sq 6 rfl rfl (Y_load1 (B := some ⟨b, 0, none⟩) (i := 4) (cs := [.int .i64 a.Ins, .int .i64 a.Vars, .int .i64 a.Root, .int .i64 a.Phase, .slice B a.Terms.length c, .slice B1 a.Out.length c1]) (v := .slice B a.Terms.length c) k_sc_22 rfl rfl (hS1.cf (i := 0) rfl) rfl) ?_
  refine sq 7 rfl rfl (Y_move (v := .int .i64 left) rfl rfl) ?_
  obtain ⟨r_1, hc, hF⟩ := bind_inv hF
  refine sc 8 rfl rfl (Yc_func (g := 14) (vs := [.slice B a.Terms.length c, .int .i64 left]) k_call_14 rfl (mc rfl (mc rfl mn)) (c_laws_szTermS a.Terms left B c a.Terms.length _ rfl (hS1.inn0 [(true, 0)] rfl) hc)) ?_
  rintro _ w_1 ⟨rfl, hd⟩
  have hS2 := hS1.out00 hd
  refine sq 1 rfl rfl (Y_assign (v := .int .i64 r_1) rfl rfl) ?_
  refine rw_nil ?_
  refine cw_seq ?_
  refine cw_seq ?_
  refine cw_region ?_
  refine sq 9 rfl rfl (Y_move (v := .int .i64 r_1) rfl rfl) ?_
  refine sq 10 rfl rfl (Y_lt (k := .i64) (a := r_1) (b := 0) rfl rfl rfl) ?_
  refine rw_nil ?_
  refine cw_cond (b := (decide (r_1 < 0))) rfl (fun hb => ?_) (fun hb => ?_)
  · skip
    have hF1 := ct hF hb
    refine cw_seq ?_
    refine cw_region ?_
    refine sq 4 rfl rfl (Y_assign (v := .int .i64 (-1)) rfl rfl) ?_
    refine rw_nil ?_
    refine cw_ret ?_
    obtain rfl := some_inj hF1
    exact ret1 Tryd.results5 (v1 := .int .i64 (-1)) (resAt_tmp rfl) ⟨rfl, (ST.subR (R' := []) (hS2.sel [] rfl rfl) (fun _ h => by cases h))⟩
  · skip
    have hF2 := cf' hF hb
    refine cw_skip ?_
    refine cw_seq ?_
    refine cw_region ?_
    refine sq 11 rfl rfl (Y_fieldAddr (B := some ⟨b, 0, none⟩) (i := 0) (s := 0) k_fd_25_5_5_23 k_sz_23_1 rfl rfl) ?_
    refine sq 12 rfl rfl (Y_load1 (B := some ⟨b, 0, none⟩) (i := 5) (cs := [.int .i64 a.Ins, .int .i64 a.Vars, .int .i64 a.Root, .int .i64 a.Phase, .slice B a.Terms.length c, .slice B1 a.Out.length c1]) (v := .slice B1 a.Out.length c1) k_sc_23 rfl rfl (hS2.cf (i := 0) rfl) rfl) ?_
    refine sq 13 rfl rfl (Y_move (v := .int .i64 r_1) rfl rfl) ?_
    obtain ⟨r_2, hc1, hF2⟩ := bind_inv hF2
    refine sc 14 rfl rfl (Yc_func (g := 15) (vs := [.slice B1 a.Out.length c1, .int .i64 r_1]) k_call_15 rfl (mc rfl (mc rfl mn)) (c_laws_szAffineS a.Out r_1 B1 c1 a.Out.length _ rfl (hS2.inn0 [(true, 1)] rfl) hc1)) ?_
    rintro _ w_2 ⟨rfl, hd1⟩
    have hS3 := hS2.out00 hd1
    refine sq 1 rfl rfl (Y_assign (v := .int .i64 r_2) rfl rfl) ?_
    refine rw_nil ?_
    refine cw_seq ?_
    refine cw_seq ?_
    refine cw_region ?_
    refine sq 15 rfl rfl (Y_move (v := .int .i64 r_2) rfl rfl) ?_
    refine sq 16 rfl rfl (Y_lt (k := .i64) (a := r_2) (b := 0) rfl rfl rfl) ?_
    refine rw_nil ?_
    refine cw_cond (b := (decide (r_2 < 0))) rfl (fun hb1 => ?_) (fun hb1 => ?_)
    · skip
      have hF3 := ct hF2 hb1
      refine cw_seq ?_
      refine cw_region ?_
      refine sq 4 rfl rfl (Y_assign (v := .int .i64 (-1)) rfl rfl) ?_
      refine rw_nil ?_
      refine cw_ret ?_
      obtain rfl := some_inj hF3
      exact ret1 Tryd.results5 (v1 := .int .i64 (-1)) (resAt_tmp rfl) ⟨rfl, (ST.subR (R' := []) (hS3.sel [] rfl rfl) (fun _ h => by cases h))⟩
    · skip
      have hF4 := cf' hF2 hb1
      refine cw_skip ?_
      refine cw_seq ?_
      refine cw_region ?_
      refine sq 17 rfl rfl (Y_move (v := .int .i64 r_2) rfl rfl) ?_
      refine sq 4 rfl rfl (Y_assign (v := .int .i64 r_2) rfl rfl) ?_
      refine rw_nil ?_
      refine cw_ret ?_
      obtain rfl := some_inj hF4
      exact ret1 Tryd.results5 (v1 := .int .i64 r_2) (resAt_tmp rfl) ⟨rfl, (ST.subR (R' := []) (hS3.sel [] rfl rfl) (fun _ h => by cases h))⟩

theorem c_spec_l1In (n : Int) (lo : Int) (hi : Int)  (w0 : World)  (hS : ST w0 [] w0 [] []) {r_ : Bool} (hF : F_spec_l1In n lo hi = some r_) :
    CV Tryd.prog 34 #[.int .i64 n, .int .i64 lo, .int .i64 hi] w0 (fun v w' => v = .bool r_ ∧ ST w0 [] w' [] []) := by
  unfold F_spec_l1In at hF
  refine cv_of_cw 15 Tryd.func34 rfl Tryd.ntmps34 rfl ?_
  refine cw_seq ?_
  refine cw_region ?_
  refine sq 6 rfl rfl (Y_assign (v := .bool false) rfl rfl) ?_
  refine rw_nil ?_
  refine cw_seq ?_
  refine cw_region ?_
  refine sq 7 rfl rfl (Y_move (v := .int .i64 n) rfl rfl) ?_
  refine sq 8 rfl rfl (Y_move (v := .int .i64 lo) rfl rfl) ?_
  refine sq 9 rfl rfl (Y_ge (k := .i64) (a := n) (b := lo) rfl rfl rfl) ?_
  refine sq 10 rfl rfl (Y_move (v := .bool (decide (lo ≤ n))) rfl rfl) ?_
  refine sgq 11 (B := (decide (lo ≤ n))) (v := .int .i64 n) rfl rfl (wt_t (gd_of (t := 10) (by kernel_rfl) rfl)) (fun hg => (Y_move (v := .int .i64 n) rfl rfl)) ?_
  refine sgq 12 (B := (decide (lo ≤ n))) (v := .int .i64 hi) rfl rfl (wt_t (gd_of (t := 10) (by kernel_rfl) rfl)) (fun hg1 => (Y_move (v := .int .i64 hi) rfl rfl)) ?_
  refine sgq 13 (B := (decide (lo ≤ n))) (v := .bool (decide (n ≤ hi))) rfl rfl (wt_t (gd_of (t := 10) (by kernel_rfl) rfl)) (fun hg2 => (Y_le (k := .i64) (a := n) (b := hi) rfl (gv_of (B := (decide (lo ≤ n))) (v := .int .i64 n) hg2) (gv_of (B := (decide (lo ≤ n))) (v := .int .i64 hi) hg2))) ?_
  refine sq 14 rfl rfl (Y_and (b := (decide (lo ≤ n))) (z := (decide (n ≤ hi))) rfl rfl rfl rfl) ?_
  refine sq 6 rfl rfl (Y_assign (v := .bool ((decide (lo ≤ n)) && (decide (n ≤ hi)))) rfl rfl) ?_
  refine rw_nil ?_
  refine cw_ret ?_
  obtain rfl := some_inj hF
  exact ret1 Tryd.results34 (v1 := .bool ((decide (lo ≤ n)) && (decide (n ≤ hi)))) (resAt_tmp rfl) ⟨rfl, (ST.subR (R' := []) (hS.sel [] rfl rfl) (fun _ h => by cases h))⟩

theorem c_spec_l1Set (row : Int)  (w0 : World)  (hS : ST w0 [] w0 [] []) {r_ : List Int} (hF : F_spec_l1Set row = some r_) :
    CV Tryd.prog 35 #[.int .i64 row] w0 (fun v w' => ∃ (B : Option Addr) (c : Nat), v = .slice B r_.length c ∧ ST w0 [] w' [⟨B, 3, (r_.flatMap encI), c * 1⟩] []) := by
  unfold F_spec_l1Set at hF
  refine cv_of_cw 23 Tryd.func35 rfl Tryd.ntmps35 rfl ?_
  refine cw_seq ?_
  refine cw_region ?_
  refine sq 2 rfl rfl (Y_assign (v := .slice none 0 0) rfl rfl) ?_
  refine rw_nil ?_
  refine cw_seq ?_
  refine cw_region ?_
  refine sq 3 rfl rfl (Y_assign (v := .slice none 0 0) rfl rfl) ?_
  refine rw_nil ?_
  refine cw_seq ?_
  refine cw_seq ?_
  refine cw_region ?_
  refine sq 4 rfl rfl (Y_assign (v := .int .i64 0) rfl rfl) ?_
  refine rw_nil ?_
  obtain ⟨z, hz, hF1⟩ := bind_inv hF
  have hS2 := hS.addNil 3
  refine cw_block ?_
  refine cw_loop (fun k f w => ∃ (out : List Int) (k_ : Int) (B1 : Option Addr) (c1 : Nat), FF f [(0, .int .i64 row), (3, .slice B1 out.length c1), (4, .int .i64 k_)] ∧ ST w0 [] w [⟨B1, 3, (out.flatMap encI), c1 * 1⟩] [] ∧ whX (F_spec_l1Set_l1 row) k (out, k_) = some z) fuel ⟨[], 0, none, 0, (FF.cons rfl (FF.cons rfl (FF.cons rfl FF.nil))), (hS2.sel [0] rfl rfl), hz⟩ ?_
  rintro k_1 f w ⟨out, k_, B1, c1, hf, hS1, hL⟩
  obtain ⟨k_2, y, rfl, hb, hL1⟩ := whX_go hL
  unfold F_spec_l1Set_l1 at hb
  refine cw_seq ?_
  refine cw_seq ?_
  refine cw_region ?_
  refine sq 5 rfl rfl (Y_move (v := .int .i64 row) rfl (hf.get 0 0 rfl)) ?_
  refine sq 6 rfl rfl (Y_move (v := .int .i64 k_) rfl (hf.get 4 2 rfl)) ?_
  refine sq 7 rfl rfl (Y_conv (k := .i64) (a := k_) (T := 3) (T' := 59) k_us_3 k_int_59_u64 rfl rfl) ?_
  obtain ⟨hsh, hb⟩ := chk_inv hb
  refine sq 8 rfl rfl (Y_shr (k := .i64) (a := row) (k' := .u64) (b := (IntKind.u64.wrap k_)) rfl rfl rfl hsh) ?_
  refine sq 9 rfl rfl (Y_gt (k := .i64) (a := (shrK .i64 row (IntKind.u64.wrap k_))) (b := 0) rfl rfl rfl) ?_
  refine rw_nil ?_
  refine cw_cond (b := (decide (0 < (shrK .i64 row (IntKind.u64.wrap k_))))) rfl (fun hb1 => ?_) (fun hb1 => ?_)
  · skip
    have hF2 := ct hb hb1
    refine cw_skip ?_
    refine cw_seq ?_
    obtain ⟨z1, hz1, hF3⟩ := bind_inv hF2
    refine cw_mid (fun f w => ∃ (out1 : List Int) (B2 : Option Addr) (c2 : Nat), out1 = z1 ∧ FF f [(0, .int .i64 row), (3, .slice B2 out1.length c2), (4, .int .i64 k_)] ∧ ST w0 [] w [⟨B2, 3, (out1.flatMap encI), c2 * 1⟩] []) ?_ ?_
    · skip
      refine cw_block ?_
      refine cw_seq ?_
      refine cw_region ?_
      refine sq 12 rfl rfl (Y_move (v := .int .i64 row) rfl (hf.get 0 0 rfl)) ?_
      refine sq 13 rfl rfl (Y_move (v := .int .i64 k_) rfl (hf.get 4 2 rfl)) ?_
      refine sq 14 rfl rfl (Y_conv (k := .i64) (a := k_) (T := 3) (T' := 59) k_us_3 k_int_59_u64 rfl rfl) ?_
      obtain ⟨hsh1, hz1⟩ := chk_inv hz1
      refine sq 15 rfl rfl (Y_shr (k := .i64) (a := row) (k' := .u64) (b := (IntKind.u64.wrap k_)) rfl rfl rfl hsh1) ?_
      refine sq 16 rfl rfl (Y_band (k := .i64) (a := (shrK .i64 row (IntKind.u64.wrap k_))) (b := 1) rfl rfl rfl) ?_
      refine sq 17 rfl rfl (Y_eq (k := .i64) (a := (bits .and .i64 (shrK .i64 row (IntKind.u64.wrap k_)) 1)) (b := 1) rfl rfl rfl) ?_
      refine rw_nil ?_
      refine cw_cond (b := ((bits .and .i64 (shrK .i64 row (IntKind.u64.wrap k_)) 1) == 1)) rfl (fun hb2 => ?_) (fun hb2 => ?_)
      · skip
        have hF4 := ct hz1 hb2
        refine cw_region ?_
        refine sq 18 rfl rfl (Y_move (v := .slice B1 out.length c1) rfl (hf.get 3 1 rfl)) ?_
        refine sq 19 rfl rfl (Y_move (v := .int .i64 k_) rfl (hf.get 4 2 rfl)) ?_
        refine ss 20 rfl rfl (Ys_bslice (s := 1) (len := 1) (vs := [(0, .int .i64 k_)]) (cs := [.int .i64 k_]) (zs := [.int .i64 0]) (m := 1) hS1 k_sl_60_3 k_sz_3_1 k_zc_3 rfl (mpc rfl mpn) rfl rfl rfl (by kernel_rfl) (by kernel_rfl) rfl) ?_
        rintro _ w_ ⟨b, rfl, hS4⟩
        have hS4 : ST w0 [] _ [⟨B1, 3, (out.flatMap encI), c1 * 1⟩, ⟨some ⟨b, 0, none⟩, 3, ([k_].flatMap encI), 1 * 1⟩] [] := hS4
        obtain ⟨hap, hF4⟩ := chk_inv hF4
        refine ss 21 rfl rfl (Ys_append (s := 1) (by' := 8) (i := 0) (nn := out.length) (c := c1) (k := 1) (len := (out ++ [k_]).length) (B := B1) (xs := ([k_].flatMap encI)) (cs' := ((out ++ [k_]).flatMap encI)) hS4 k_sl_60_3 k_sz_3_1 k_by_3_8 k_zero_3 rfl (by decide) rfl rfl rfl rfl (fm_lenn (l := out) encI_len rfl) rfl (hS4.cf (i := 1) rfl) (fm_lenn (l := [k_]) encI_len rfl) (fm_one' (enc := encI) encI_one [k_]) (by have := hap; omega) (by have := hap; simp only [maxLen]; omega) (fm_app _ _) (app_len (l := out) (l' := [k_]) rfl rfl)) ?_
        rintro _ w_1 ⟨B3, c3, rfl, hS5⟩
        have hS5 : ST w0 [] _ [⟨B3, 3, ((out ++ [k_]).flatMap encI), c3 * 1⟩, ⟨some ⟨b, 0, none⟩, 3, ([k_].flatMap encI), 1 * 1⟩] [] := hS5
        refine sq 3 rfl rfl (Y_assign (v := .slice B3 ((out ++ [k_]).length) c3) rfl rfl) ?_
        refine rw_nil ?_
        exact ⟨(out ++ [k_]), B3, c3, (some_inj hF4), (FF.cons (hf.get 0 0 rfl) (FF.cons rfl (FF.cons (hf.get 4 2 rfl) FF.nil))), (hS5.sel [0] rfl rfl)⟩
      · skip
        have hF5 := cf' hz1 hb2
        refine cw_skip ?_
        exact ⟨out, B1, c1, (some_inj hF5), (FF.cons (hf.get 0 0 rfl) (FF.cons (hf.get 3 1 rfl) (FF.cons (hf.get 4 2 rfl) FF.nil))), (hS1.sel [0] rfl rfl)⟩
    rintro f w ⟨out1, B2, c2, rfl, hf1, hS3⟩
    refine cw_region ?_
    refine sq 10 rfl rfl (Y_move (v := .int .i64 k_) rfl (hf1.get 4 2 rfl)) ?_
    refine sq 11 rfl rfl (Y_add (k := .i64) (a := k_) (b := 1) rfl rfl rfl) ?_
    refine sq 4 rfl rfl (Y_assign (v := .int .i64 (IntKind.i64.wrap (k_ + 1))) rfl rfl) ?_
    refine rw_nil ?_
    obtain rfl := some_inj hF3
    exact ⟨k_2, Nat.lt_succ_self _, out1, (IntKind.i64.wrap (k_ + 1)), B2, c2, (FF.cons (hf1.get 0 0 rfl) (FF.cons (hf1.get 3 1 rfl) (FF.cons rfl FF.nil))), (hS3.sel [0] rfl rfl), hL1⟩
  · skip
    have hF6 := cf' hb hb1
    refine cw_exit rfl ?_
    obtain rfl := some_inj hF6
    obtain rfl := some_inj hL1
    refine cw_seq ?_
    refine cw_region ?_
    refine sq 22 rfl rfl (Y_move (v := .slice B1 out.length c1) rfl (hf.get 3 1 rfl)) ?_
    refine sq 2 rfl rfl (Y_assign (v := .slice B1 out.length c1) rfl rfl) ?_
    refine rw_nil ?_
    refine cw_ret ?_
    obtain rfl := some_inj hF1
    exact ret1 Tryd.results35 (v1 := .slice B1 out.length c1) (resAt_tmp rfl) ⟨B1, c1, rfl, (ST.subR (R' := []) (hS1.sel [0] rfl rfl) (fun _ h => by cases h))⟩

theorem c_spec_l21Valid (p : TPathSum) (B : Option Addr) (c n : Nat) (B1 : Option Addr) (c1 n1 : Nat) (w0 : World) (hn : p.Terms.length = n) (hn1 : p.Out.length = n1) (hS : ST w0 [] w0 [] [⟨B, (p.Terms.flatMap enc_Term)⟩, ⟨B1, (p.Out.flatMap enc_Affine)⟩]) {r_ : Bool} (hF : F_spec_l21Valid p = some r_) :
    CV Tryd.prog 16 #[.agg #[.int .i64 p.Ins, .int .i64 p.Vars, .int .i64 p.Root, .int .i64 p.Phase, .slice B n c, .slice B1 n1 c1]] w0 (fun v w' => v = .bool r_ ∧ ST w0 [] w' [] []) := by
  subst hn
  subst hn1
  unfold F_spec_l21Valid at hF
  refine cv_of_cw 124 Tryd.func16 rfl Tryd.ntmps16 rfl ?_
  refine cw_seq ?_
  refine cw_region ?_
  refine ss 1 rfl rfl (Ys_box (T := 30) (v := .agg #[.int .i64 p.Ins, .int .i64 p.Vars, .int .i64 p.Root, .int .i64 p.Phase, .slice B p.Terms.length c, .slice B1 p.Out.length c1]) (cs := [.int .i64 p.Ins, .int .i64 p.Vars, .int .i64 p.Root, .int .i64 p.Phase, .slice B p.Terms.length c, .slice B1 p.Out.length c1]) (m := 6) hS rfl rfl rfl rfl) ?_
  rintro _ w_ ⟨b, rfl, hS1⟩
  refine sq 2 rfl rfl (Y_assign (v := .bool false) rfl rfl) ?_
  refine rw_nil ?_
  refine cw_seq ?_
  refine cw_region ?_
  refine sq 9 rfl rfl (Y_fieldAddr (B := some ⟨b, 0, none⟩) (i := 0) (s := 0) k_fd_30_0_0_3 k_sz_3_1 rfl rfl) ?_
  refine sq 10 rfl rfl (Y_load1 (B := some ⟨b, 0, none⟩) (i := 0) (cs := [.int .i64 p.Ins, .int .i64 p.Vars, .int .i64 p.Root, .int .i64 p.Phase, .slice B p.Terms.length c, .slice B1 p.Out.length c1]) (v := .int .i64 p.Ins) k_sc_3 rfl rfl (hS1.cf (i := 0) rfl) rfl) ?_
  refine sq 11 rfl rfl (Y_fieldAddr (B := some ⟨b, 0, none⟩) (i := 0) (s := 0) k_fd_30_1_1_3 k_sz_3_1 rfl rfl) ?_
  refine sq 12 rfl rfl (Y_load1 (B := some ⟨b, 0, none⟩) (i := 1) (cs := [.int .i64 p.Ins, .int .i64 p.Vars, .int .i64 p.Root, .int .i64 p.Phase, .slice B p.Terms.length c, .slice B1 p.Out.length c1]) (v := .int .i64 p.Vars) k_sc_3 rfl rfl (hS1.cf (i := 0) rfl) rfl) ?_
  refine sq 13 rfl rfl (Y_add (k := .i64) (a := p.Ins) (b := p.Vars) rfl rfl rfl) ?_
  refine sq 3 rfl rfl (Y_assign (v := .int .i64 (IntKind.i64.wrap (p.Ins + p.Vars))) rfl rfl) ?_
  refine rw_nil ?_
  refine cw_seq ?_
  refine cw_seq ?_
  refine cw_region ?_
  refine sq 14 rfl rfl (Y_fieldAddr (B := some ⟨b, 0, none⟩) (i := 0) (s := 0) k_fd_30_0_0_3 k_sz_3_1 rfl rfl) ?_
  refine sq 15 rfl rfl (Y_load1 (B := some ⟨b, 0, none⟩) (i := 0) (cs := [.int .i64 p.Ins, .int .i64 p.Vars, .int .i64 p.Root, .int .i64 p.Phase, .slice B p.Terms.length c, .slice B1 p.Out.length c1]) (v := .int .i64 p.Ins) k_sc_3 rfl rfl (hS1.cf (i := 0) rfl) rfl) ?_
  obtain ⟨r_1, hc, hF⟩ := bind_inv hF
  refine sc 16 rfl rfl (Yc_func (g := 34) (vs := [.int .i64 p.Ins, .int .i64 1, .int .i64 5]) k_call_34 rfl (mc rfl (mc rfl (mc rfl mn))) (c_spec_l1In p.Ins 1 5 _  (hS1.inn0 [] rfl) hc)) ?_
  rintro _ w_1 ⟨rfl, hd⟩
  have hS2 := hS1.out00 hd
  refine sq 17 rfl rfl (Y_not (p := r_1) rfl rfl) ?_
  refine sq 18 rfl rfl (Y_move (v := .bool (!r_1)) rfl rfl) ?_
  refine sgq 19 (B := (!(!r_1))) (v := pt (some ⟨b, 0, none⟩) 1) rfl rfl (wt_f (gd_of (t := 18) (by kernel_rfl) rfl)) (fun hg => (Y_fieldAddr (B := some ⟨b, 0, none⟩) (i := 0) (s := 0) k_fd_30_1_1_3 k_sz_3_1 rfl rfl)) ?_
  refine sgq 20 (B := (!(!r_1))) (v := .int .i64 p.Vars) rfl rfl (wt_f (gd_of (t := 18) (by kernel_rfl) rfl)) (fun hg1 => (Y_load1 (B := some ⟨b, 0, none⟩) (i := 1) (cs := [.int .i64 p.Ins, .int .i64 p.Vars, .int .i64 p.Root, .int .i64 p.Phase, .slice B p.Terms.length c, .slice B1 p.Out.length c1]) (v := .int .i64 p.Vars) k_sc_3 rfl (gv_of (B := (!(!r_1))) (v := pt (some ⟨b, 0, none⟩) 1) hg1) (hS2.cf (i := 0) rfl) rfl)) ?_
  refine sgq 21 (B := (!(!r_1))) (v := pt (some ⟨b, 0, none⟩) 0) rfl rfl (wt_f (gd_of (t := 18) (by kernel_rfl) rfl)) (fun hg2 => (Y_fieldAddr (B := some ⟨b, 0, none⟩) (i := 0) (s := 0) k_fd_30_0_0_3 k_sz_3_1 rfl rfl)) ?_
  refine sgq 22 (B := (!(!r_1))) (v := .int .i64 p.Ins) rfl rfl (wt_f (gd_of (t := 18) (by kernel_rfl) rfl)) (fun hg3 => (Y_load1 (B := some ⟨b, 0, none⟩) (i := 0) (cs := [.int .i64 p.Ins, .int .i64 p.Vars, .int .i64 p.Root, .int .i64 p.Phase, .slice B p.Terms.length c, .slice B1 p.Out.length c1]) (v := .int .i64 p.Ins) k_sc_3 rfl (gv_of (B := (!(!r_1))) (v := pt (some ⟨b, 0, none⟩) 0) hg3) (hS2.cf (i := 0) rfl) rfl)) ?_
  refine sgq 23 (B := (!(!r_1))) (v := .int .i64 (IntKind.i64.wrap (24 - p.Ins))) rfl rfl (wt_f (gd_of (t := 18) (by kernel_rfl) rfl)) (fun hg4 => (Y_sub (k := .i64) (a := 24) (b := p.Ins) rfl rfl (gv_of (B := (!(!r_1))) (v := .int .i64 p.Ins) hg4))) ?_
  obtain ⟨r_2, hc1, hF⟩ := bind_inv hF
  refine sgc 24 (B := (!(!r_1))) (v := .bool r_2) (F := hS2.fn) rfl rfl (wt_f (gd_of (t := 18) (by kernel_rfl) rfl)) hS2 (fun hg5 => (Yc_func (g := 34) (vs := [.int .i64 p.Vars, .int .i64 0, .int .i64 (IntKind.i64.wrap (24 - p.Ins))]) k_call_34 rfl (mc (gv_of (B := (!(!r_1))) (v := .int .i64 p.Vars) hg5) (mc rfl (mc (gv_of (B := (!(!r_1))) (v := .int .i64 (IntKind.i64.wrap (24 - p.Ins))) hg5) mn))) (CV.mono (c_spec_l1In p.Vars 0 (IntKind.i64.wrap (24 - p.Ins)) _  (hS2.inn0 [] rfl) (gb_inv hc1 hg5)) (by rintro _ _ ⟨rfl, h⟩; exact ⟨rfl, hS2.out00 h⟩)))) ?_
  rintro w_2 hS3
  have hS3 : ST _ _ w_2 _ _ := hS3
  refine sgq 25 (B := (!(!r_1))) (v := .bool (!r_2)) rfl rfl (wt_f (gd_of (t := 18) (by kernel_rfl) rfl)) (fun hg6 => (Y_not (p := r_2) rfl (gv_of (B := (!(!r_1))) (v := .bool r_2) hg6))) ?_
  refine sq 26 rfl rfl (Y_or (b := (!r_1)) (z := (!r_2)) rfl rfl rfl rfl) ?_
  refine sq 27 rfl rfl (Y_move (v := .bool ((!r_1) || (!r_2))) rfl rfl) ?_
  refine sgq 28 (B := (!((!r_1) || (!r_2)))) (v := pt (some ⟨b, 0, none⟩) 2) rfl rfl (wt_f (gd_of (t := 27) (by kernel_rfl) rfl)) (fun hg7 => (Y_fieldAddr (B := some ⟨b, 0, none⟩) (i := 0) (s := 0) k_fd_30_2_2_3 k_sz_3_1 rfl rfl)) ?_
  refine sgq 29 (B := (!((!r_1) || (!r_2)))) (v := .int .i64 p.Root) rfl rfl (wt_f (gd_of (t := 27) (by kernel_rfl) rfl)) (fun hg8 => (Y_load1 (B := some ⟨b, 0, none⟩) (i := 2) (cs := [.int .i64 p.Ins, .int .i64 p.Vars, .int .i64 p.Root, .int .i64 p.Phase, .slice B p.Terms.length c, .slice B1 p.Out.length c1]) (v := .int .i64 p.Root) k_sc_3 rfl (gv_of (B := (!((!r_1) || (!r_2)))) (v := pt (some ⟨b, 0, none⟩) 2) hg8) (hS3.cf (i := 0) rfl) rfl)) ?_
  obtain ⟨r_3, hc2, hF⟩ := bind_inv hF
  refine sgc 30 (B := (!((!r_1) || (!r_2)))) (v := .bool r_3) (F := hS3.fn) rfl rfl (wt_f (gd_of (t := 27) (by kernel_rfl) rfl)) hS3 (fun hg9 => (Yc_func (g := 34) (vs := [.int .i64 p.Root, .int .i64 (-60), .int .i64 60]) k_call_34 rfl (mc (gv_of (B := (!((!r_1) || (!r_2)))) (v := .int .i64 p.Root) hg9) (mc rfl (mc rfl mn))) (CV.mono (c_spec_l1In p.Root (-60) 60 _  (hS3.inn0 [] rfl) (gb_inv hc2 hg9)) (by rintro _ _ ⟨rfl, h⟩; exact ⟨rfl, hS3.out00 h⟩)))) ?_
  rintro w_3 hS4
  have hS4 : ST _ _ w_3 _ _ := hS4
  refine sgq 31 (B := (!((!r_1) || (!r_2)))) (v := .bool (!r_3)) rfl rfl (wt_f (gd_of (t := 27) (by kernel_rfl) rfl)) (fun hg10 => (Y_not (p := r_3) rfl (gv_of (B := (!((!r_1) || (!r_2)))) (v := .bool r_3) hg10))) ?_
  refine sq 32 rfl rfl (Y_or (b := ((!r_1) || (!r_2))) (z := (!r_3)) rfl rfl rfl rfl) ?_
  refine sq 33 rfl rfl (Y_move (v := .bool (((!r_1) || (!r_2)) || (!r_3))) rfl rfl) ?_
  refine sgq 34 (B := (!(((!r_1) || (!r_2)) || (!r_3)))) (v := pt (some ⟨b, 0, none⟩) 3) rfl rfl (wt_f (gd_of (t := 33) (by kernel_rfl) rfl)) (fun hg11 => (Y_fieldAddr (B := some ⟨b, 0, none⟩) (i := 0) (s := 0) k_fd_30_3_3_3 k_sz_3_1 rfl rfl)) ?_
  refine sgq 35 (B := (!(((!r_1) || (!r_2)) || (!r_3)))) (v := .int .i64 p.Phase) rfl rfl (wt_f (gd_of (t := 33) (by kernel_rfl) rfl)) (fun hg12 => (Y_load1 (B := some ⟨b, 0, none⟩) (i := 3) (cs := [.int .i64 p.Ins, .int .i64 p.Vars, .int .i64 p.Root, .int .i64 p.Phase, .slice B p.Terms.length c, .slice B1 p.Out.length c1]) (v := .int .i64 p.Phase) k_sc_3 rfl (gv_of (B := (!(((!r_1) || (!r_2)) || (!r_3)))) (v := pt (some ⟨b, 0, none⟩) 3) hg12) (hS4.cf (i := 0) rfl) rfl)) ?_
  obtain ⟨r_4, hc3, hF⟩ := bind_inv hF
  refine sgc 36 (B := (!(((!r_1) || (!r_2)) || (!r_3)))) (v := .bool r_4) (F := hS4.fn) rfl rfl (wt_f (gd_of (t := 33) (by kernel_rfl) rfl)) hS4 (fun hg13 => (Yc_func (g := 34) (vs := [.int .i64 p.Phase, .int .i64 0, .int .i64 7]) k_call_34 rfl (mc (gv_of (B := (!(((!r_1) || (!r_2)) || (!r_3)))) (v := .int .i64 p.Phase) hg13) (mc rfl (mc rfl mn))) (CV.mono (c_spec_l1In p.Phase 0 7 _  (hS4.inn0 [] rfl) (gb_inv hc3 hg13)) (by rintro _ _ ⟨rfl, h⟩; exact ⟨rfl, hS4.out00 h⟩)))) ?_
  rintro w_4 hS5
  have hS5 : ST _ _ w_4 _ _ := hS5
  refine sgq 37 (B := (!(((!r_1) || (!r_2)) || (!r_3)))) (v := .bool (!r_4)) rfl rfl (wt_f (gd_of (t := 33) (by kernel_rfl) rfl)) (fun hg14 => (Y_not (p := r_4) rfl (gv_of (B := (!(((!r_1) || (!r_2)) || (!r_3)))) (v := .bool r_4) hg14))) ?_
  refine sq 38 rfl rfl (Y_or (b := (((!r_1) || (!r_2)) || (!r_3))) (z := (!r_4)) rfl rfl rfl rfl) ?_
  refine sq 39 rfl rfl (Y_move (v := .bool ((((!r_1) || (!r_2)) || (!r_3)) || (!r_4))) rfl rfl) ?_
  refine sgq 40 (B := (!((((!r_1) || (!r_2)) || (!r_3)) || (!r_4)))) (v := pt (some ⟨b, 0, none⟩) 5) rfl rfl (wt_f (gd_of (t := 39) (by kernel_rfl) rfl)) (fun hg15 => (Y_fieldAddr (B := some ⟨b, 0, none⟩) (i := 0) (s := 0) k_fd_30_5_5_28 k_sz_28_1 rfl rfl)) ?_
  refine sgq 41 (B := (!((((!r_1) || (!r_2)) || (!r_3)) || (!r_4)))) (v := .slice B1 p.Out.length c1) rfl rfl (wt_f (gd_of (t := 39) (by kernel_rfl) rfl)) (fun hg16 => (Y_load1 (B := some ⟨b, 0, none⟩) (i := 5) (cs := [.int .i64 p.Ins, .int .i64 p.Vars, .int .i64 p.Root, .int .i64 p.Phase, .slice B p.Terms.length c, .slice B1 p.Out.length c1]) (v := .slice B1 p.Out.length c1) k_sc_28 rfl (gv_of (B := (!((((!r_1) || (!r_2)) || (!r_3)) || (!r_4)))) (v := pt (some ⟨b, 0, none⟩) 5) hg16) (hS5.cf (i := 0) rfl) rfl)) ?_
  refine sgq 42 (B := (!((((!r_1) || (!r_2)) || (!r_3)) || (!r_4)))) (v := .int .i64 (p.Out.length : Int)) rfl rfl (wt_f (gd_of (t := 39) (by kernel_rfl) rfl)) (fun hg17 => (Y_len (B := B1) (m := p.Out.length) (c := c1) k_sl_28_44 rfl (gv_of (B := (!((((!r_1) || (!r_2)) || (!r_3)) || (!r_4)))) (v := .slice B1 p.Out.length c1) hg17))) ?_
  refine sgq 43 (B := (!((((!r_1) || (!r_2)) || (!r_3)) || (!r_4)))) (v := pt (some ⟨b, 0, none⟩) 0) rfl rfl (wt_f (gd_of (t := 39) (by kernel_rfl) rfl)) (fun hg18 => (Y_fieldAddr (B := some ⟨b, 0, none⟩) (i := 0) (s := 0) k_fd_30_0_0_3 k_sz_3_1 rfl rfl)) ?_
  refine sgq 44 (B := (!((((!r_1) || (!r_2)) || (!r_3)) || (!r_4)))) (v := .int .i64 p.Ins) rfl rfl (wt_f (gd_of (t := 39) (by kernel_rfl) rfl)) (fun hg19 => (Y_load1 (B := some ⟨b, 0, none⟩) (i := 0) (cs := [.int .i64 p.Ins, .int .i64 p.Vars, .int .i64 p.Root, .int .i64 p.Phase, .slice B p.Terms.length c, .slice B1 p.Out.length c1]) (v := .int .i64 p.Ins) k_sc_3 rfl (gv_of (B := (!((((!r_1) || (!r_2)) || (!r_3)) || (!r_4)))) (v := pt (some ⟨b, 0, none⟩) 0) hg19) (hS5.cf (i := 0) rfl) rfl)) ?_
  refine sgq 45 (B := (!((((!r_1) || (!r_2)) || (!r_3)) || (!r_4)))) (v := .bool ((p.Out.length : Int) != p.Ins)) rfl rfl (wt_f (gd_of (t := 39) (by kernel_rfl) rfl)) (fun hg20 => (Y_ne (k := .i64) (a := (p.Out.length : Int)) (b := p.Ins) rfl (gv_of (B := (!((((!r_1) || (!r_2)) || (!r_3)) || (!r_4)))) (v := .int .i64 (p.Out.length : Int)) hg20) (gv_of (B := (!((((!r_1) || (!r_2)) || (!r_3)) || (!r_4)))) (v := .int .i64 p.Ins) hg20))) ?_
  refine sq 46 rfl rfl (Y_or (b := ((((!r_1) || (!r_2)) || (!r_3)) || (!r_4))) (z := ((p.Out.length : Int) != p.Ins)) rfl rfl rfl rfl) ?_
  refine rw_nil ?_
  refine cw_cond (b := (((((!r_1) || (!r_2)) || (!r_3)) || (!r_4)) || ((p.Out.length : Int) != p.Ins))) rfl (fun hb => ?_) (fun hb => ?_)
  · skip
    have hF1 := ct hF hb
    refine cw_seq ?_
    refine cw_region ?_
    refine sq 2 rfl rfl (Y_assign (v := .bool false) rfl rfl) ?_
    refine rw_nil ?_
    refine cw_ret ?_
    obtain rfl := some_inj hF1
    exact ret1 Tryd.results16 (v1 := .bool false) (resAt_tmp rfl) ⟨rfl, (ST.subR (R' := []) (hS5.sel [] rfl rfl) (fun _ h => by cases h))⟩
  · skip
    have hF2 := cf' hF hb
    refine cw_skip ?_
    refine cw_seq ?_
    refine cw_seq ?_
    refine cw_region ?_
    refine sq 47 rfl rfl (Y_fieldAddr (B := some ⟨b, 0, none⟩) (i := 0) (s := 0) k_fd_30_4_4_27 k_sz_27_1 rfl rfl) ?_
    refine sq 48 rfl rfl (Y_load1 (B := some ⟨b, 0, none⟩) (i := 4) (cs := [.int .i64 p.Ins, .int .i64 p.Vars, .int .i64 p.Root, .int .i64 p.Phase, .slice B p.Terms.length c, .slice B1 p.Out.length c1]) (v := .slice B p.Terms.length c) k_sc_27 rfl rfl (hS5.cf (i := 0) rfl) rfl) ?_
    refine sq 49 rfl rfl (Y_len (B := B) (m := p.Terms.length) (c := c) k_sl_27_56 rfl rfl) ?_
    refine sq 50 rfl rfl (Y_move (v := .int .i64 0) rfl rfl) ?_
    refine rw_nil ?_
    obtain ⟨hN, hF2⟩ := chk_inv hF2
    obtain ⟨z, hz, hF3⟩ := bind_inv hF2
    refine cw_block ?_
    refine cw_loop (fun k f w => ∃ (i : Nat), FF f [(1, pt (some ⟨b, 0, none⟩) 0), (3, .int .i64 (IntKind.i64.wrap (p.Ins + p.Vars))), (48, .slice B p.Terms.length c), (49, .int .i64 (p.Terms.length : Int)), (50, .int .i64 (i : Int))] ∧ ST w0 [] w [⟨some ⟨b, 0, none⟩, 30, [.int .i64 p.Ins, .int .i64 p.Vars, .int .i64 p.Root, .int .i64 p.Phase, .slice B p.Terms.length c, .slice B1 p.Out.length c1], 6⟩] [⟨B, (p.Terms.flatMap enc_Term)⟩, ⟨B1, (p.Out.flatMap enc_Affine)⟩] ∧ i + k = p.Terms.length ∧ forX (F_spec_l21Valid_l1 p) k i () = some z) p.Terms.length ⟨0, (FF.cons rfl (FF.cons rfl (FF.cons rfl (FF.cons rfl (FF.cons rfl FF.nil))))), (hS5.sel [0] rfl rfl), Nat.zero_add _, hz⟩ ?_
    rintro k_ f w ⟨i, hf, hS6, hik, hL⟩
    refine cw_seq ?_
    refine cw_region ?_
    refine sq 51 rfl rfl (Y_lt (k := .i64) (a := (i : Int)) (b := (p.Terms.length : Int)) rfl (hf.get 50 4 rfl) (hf.get 49 3 rfl)) ?_
    refine rw_nil ?_
    refine cw_seq ?_
    refine cw_cond (b := (decide ((i : Int) < (p.Terms.length : Int)))) rfl (fun hlt => ?_) (fun hlt => ?_)
    · skip
      have hlt1 : i < p.Terms.length := by have h := of_decide_eq_true hlt; omega
      obtain ⟨k_1, rfl⟩ : ∃ k2, k_ = k2 + 1 := ⟨k_ - 1, by omega⟩
      obtain ⟨y, hb1, hL1⟩ := forX_go hL
      unfold F_spec_l21Valid_l1 at hb1
      refine cw_skip ?_
      refine cw_seq ?_
      refine cw_block ?_
      refine cw_seq ?_
      refine cw_region ?_
      refine sq 52 rfl rfl (Y_move (v := .int .i64 (i : Int)) rfl (hf.get 50 4 rfl)) ?_
      obtain ⟨x, hx, hb1⟩ := bind_inv hb1
      refine sq 53 rfl rfl (Y_index (B := B) (m := p.Terms.length) (c := c) (k := .i64) (i := (i : Int)) k_sl_27_56 k_sz_56_2 rfl (hf.get 48 2 rfl) (hf.get 50 4 rfl) (gi_isSome enc_Term_len rfl (hS6.rf (i := 0) rfl) hx) (getI_nn hx) (getI_ltI hx rfl)) ?_
      refine sq 54 rfl rfl (Y_loadA (B := B) (i := (i : Int).toNat * 2) (cs := (p.Terms.flatMap enc_Term)) (vs := [.int .i64 x.Mask, .int .i64 x.Coef]) k_ag_56 k_sz_56_2 rfl rfl (hS6.rf (i := 0) rfl) (enc_Term_len x) (gi_seg enc_Term_len hx)) ?_
      refine ss 5 rfl rfl (Ys_alloc (T := 56) (cs := [.int .i64 0, .int .i64 0]) (m := 2) hS6 k_zero_56 rfl rfl rfl) ?_
      rintro _ w_5 ⟨b1, rfl, hS7⟩
      have hS7 : ST w0 [] _ [⟨some ⟨b, 0, none⟩, 30, [.int .i64 p.Ins, .int .i64 p.Vars, .int .i64 p.Root, .int .i64 p.Phase, .slice B p.Terms.length c, .slice B1 p.Out.length c1], 6⟩, ⟨some ⟨b1, 0, none⟩, 56, [.int .i64 0, .int .i64 0], 2⟩] [⟨B, (p.Terms.flatMap enc_Term)⟩, ⟨B1, (p.Out.flatMap enc_Affine)⟩] := hS7
      refine sq 4 rfl rfl (Y_assign (v := .int .i64 (i : Int)) rfl rfl) ?_
      refine ss0 rfl rfl (Ys_store (i := 1) (s := 2) (B := some ⟨b1, 0, none⟩) (T' := 56) (v := .agg #[.int .i64 x.Mask, .int .i64 x.Coef]) (vs := [.int .i64 x.Mask, .int .i64 x.Coef]) (k := 0) (cs' := [.int .i64 x.Mask, .int .i64 x.Coef]) hS7 k_sz_56_2 rfl rfl rfl rfl rfl rfl rfl (Nat.le_of_ble_eq_true rfl) rfl rfl) ?_
      rintro _ w_6 ⟨rfl, hS8⟩
      have hS8 : ST w0 [] _ [⟨some ⟨b, 0, none⟩, 30, [.int .i64 p.Ins, .int .i64 p.Vars, .int .i64 p.Root, .int .i64 p.Phase, .slice B p.Terms.length c, .slice B1 p.Out.length c1], 6⟩, ⟨some ⟨b1, 0, none⟩, 56, [.int .i64 x.Mask, .int .i64 x.Coef], 2⟩] [⟨B, (p.Terms.flatMap enc_Term)⟩, ⟨B1, (p.Out.flatMap enc_Affine)⟩] := hS8
      refine rw_nil ?_
      refine cw_seq ?_
      refine cw_seq ?_
      obtain ⟨hsh, hb1⟩ := chk_inv hb1
      obtain ⟨r_5, hc4, hb1⟩ := bind_inv hb1
      obtain ⟨r_6, hc5, hb1⟩ := bind_inv hb1
      obtain ⟨x1, hx1, hb1⟩ := bind_inv hb1
      refine ra_start (ST.sel hS8 [0, 1] rfl rfl).fn (by kernel_rfl) ?_
      have hS11 := hS8.drew
      refine ra_q 0 55 (v := pt (some ⟨b1, 0, none⟩) 0) rfl rfl rfl (by kernel_rfl) (by kernel_rfl) (by kernel_rfl) (ST.sel hS11 [0, 1] rfl rfl) (fun w' hw' => (Y_fieldAddr (B := some ⟨b1, 0, none⟩) (i := 0) (s := 0) k_fd_56_0_0_3 k_sz_3_1 rfl rfl)) ?_
      refine ra_q 1 56 (v := .int .i64 x.Mask) rfl rfl rfl (by kernel_rfl) (by kernel_rfl) (by kernel_rfl) (ST.sel hS11 [0, 1] rfl rfl) (fun w' hw' => (Y_load1 (B := some ⟨b1, 0, none⟩) (i := 0) (cs := [.int .i64 x.Mask, .int .i64 x.Coef]) (v := .int .i64 x.Mask) k_sc_3 rfl rfl (ST.cf hw' (i := 1) rfl) rfl)) ?_
      refine ra_q 2 57 (v := .int .i64 (IntKind.i64.wrap (p.Ins + p.Vars))) rfl rfl rfl (by kernel_rfl) (by kernel_rfl) (by kernel_rfl) (ST.sel hS11 [0, 1] rfl rfl) (fun w' hw' => (Y_move (v := .int .i64 (IntKind.i64.wrap (p.Ins + p.Vars))) rfl (hf.get 3 1 rfl))) ?_
      refine ra_q 3 58 (v := .int .u64 (IntKind.u64.wrap (IntKind.i64.wrap (p.Ins + p.Vars)))) rfl rfl rfl (by kernel_rfl) (by kernel_rfl) (by kernel_rfl) (ST.sel hS11 [0, 1] rfl rfl) (fun w' hw' => (Y_conv (k := .i64) (a := (IntKind.i64.wrap (p.Ins + p.Vars))) (T := 3) (T' := 59) k_us_3 k_int_59_u64 rfl rfl)) ?_
      refine ra_q 4 59 (v := .int .i64 (shlK .i64 1 (IntKind.u64.wrap (IntKind.i64.wrap (p.Ins + p.Vars))))) rfl rfl rfl (by kernel_rfl) (by kernel_rfl) (by kernel_rfl) (ST.sel hS11 [0, 1] rfl rfl) (fun w' hw' => (Y_shl (k := .i64) (a := 1) (k' := .u64) (b := (IntKind.u64.wrap (IntKind.i64.wrap (p.Ins + p.Vars)))) rfl rfl rfl hsh)) ?_
      refine ra_q 5 60 (v := .int .i64 (IntKind.i64.wrap ((shlK .i64 1 (IntKind.u64.wrap (IntKind.i64.wrap (p.Ins + p.Vars)))) - 1))) rfl rfl rfl (by kernel_rfl) (by kernel_rfl) (by kernel_rfl) (ST.sel hS11 [0, 1] rfl rfl) (fun w' hw' => (Y_sub (k := .i64) (a := (shlK .i64 1 (IntKind.u64.wrap (IntKind.i64.wrap (p.Ins + p.Vars))))) (b := 1) rfl rfl rfl)) ?_
      refine ra_all (rs := [6]) (by kernel_rfl) rfl ?_
      refine ra_c 61 (i := 6) rfl rfl rfl (Yc_func (g := 34) (vs := [.int .i64 x.Mask, .int .i64 1, .int .i64 (IntKind.i64.wrap ((shlK .i64 1 (IntKind.u64.wrap (IntKind.i64.wrap (p.Ins + p.Vars)))) - 1))]) k_call_34 rfl (mc rfl (mc rfl (mc rfl mn))) (c_spec_l1In x.Mask 1 (IntKind.i64.wrap ((shlK .i64 1 (IntKind.u64.wrap (IntKind.i64.wrap (p.Ins + p.Vars)))) - 1)) _  (hS11.inn0 [] rfl) hc4)) ?_ ?_
      · rintro _ w_7 ⟨rfl, hd1⟩
        have hS12 := hS11.out00 hd1
        have hS12 : ST w0 [] _ [⟨some ⟨b, 0, none⟩, 30, [.int .i64 p.Ins, .int .i64 p.Vars, .int .i64 p.Root, .int .i64 p.Phase, .slice B p.Terms.length c, .slice B1 p.Out.length c1], 6⟩, ⟨some ⟨b1, 0, none⟩, 56, [.int .i64 x.Mask, .int .i64 x.Coef], 2⟩] [⟨B, (p.Terms.flatMap enc_Term)⟩, ⟨B1, (p.Out.flatMap enc_Affine)⟩] := hS12
        refine ⟨(ST.sel hS12 [0, 1] rfl rfl), ?_⟩
        refine ra_q 7 62 (v := .bool (!r_5)) rfl rfl rfl (by kernel_rfl) (by kernel_rfl) (by kernel_rfl) (ST.sel hS12 [0, 1] rfl rfl) (fun w' hw' => (Y_not (p := r_5) rfl rfl)) ?_
        refine ra_q 8 63 (v := .bool (!r_5)) rfl rfl rfl (by kernel_rfl) (by kernel_rfl) (by kernel_rfl) (ST.sel hS12 [0, 1] rfl rfl) (fun w' hw' => (Y_move (v := .bool (!r_5)) rfl rfl)) ?_
        refine ra_gq 9 64 (B := (!(!r_5))) (v := pt (some ⟨b1, 0, none⟩) 1) rfl rfl rfl (wt_f (gd_of (t := 63) (by kernel_rfl) rfl)) (by kernel_rfl) (by kernel_rfl) (by kernel_rfl) (ST.sel hS12 [0, 1] rfl rfl) (fun hg21 w' hw' => (Y_fieldAddr (B := some ⟨b1, 0, none⟩) (i := 0) (s := 0) k_fd_56_1_1_3 k_sz_3_1 rfl rfl)) ?_
        refine ra_gq 10 65 (B := (!(!r_5))) (v := .int .i64 x.Coef) rfl rfl rfl (wt_f (gd_of (t := 63) (by kernel_rfl) rfl)) (by kernel_rfl) (by kernel_rfl) (by kernel_rfl) (ST.sel hS12 [0, 1] rfl rfl) (fun hg22 w' hw' => (Y_load1 (B := some ⟨b1, 0, none⟩) (i := 1) (cs := [.int .i64 x.Mask, .int .i64 x.Coef]) (v := .int .i64 x.Coef) k_sc_3 rfl (gv_of (B := (!(!r_5))) (v := pt (some ⟨b1, 0, none⟩) 1) hg22) (ST.cf hw' (i := 1) rfl) rfl)) ?_
        refine ra_all (rs := [11]) (by kernel_rfl) rfl ?_
        refine ra_gc 66 (i := 11) (B := (!(!r_5))) (v := .bool r_6) (F := hS12.fn) rfl rfl rfl (wt_f (gd_of (t := 63) (by kernel_rfl) rfl)) hS12 (fun hg23 => (Yc_func (g := 34) (vs := [.int .i64 x.Coef, .int .i64 1, .int .i64 7]) k_call_34 rfl (mc (gv_of (B := (!(!r_5))) (v := .int .i64 x.Coef) hg23) (mc rfl (mc rfl mn))) (CV.mono (c_spec_l1In x.Coef 1 7 _  (hS12.inn0 [] rfl) (gb_inv hc5 hg23)) (by rintro _ _ ⟨rfl, h⟩; exact ⟨rfl, hS12.out00 h⟩)))) ?_ ?_
        · rintro w_8 hS13
          have hS13 : ST _ _ w_8 _ _ := hS13
          refine ⟨(ST.sel hS13 [0, 1] rfl rfl), ?_⟩
          refine ra_gq 12 67 (B := (!(!r_5))) (v := .bool (!r_6)) rfl rfl rfl (wt_f (gd_of (t := 63) (by kernel_rfl) rfl)) (by kernel_rfl) (by kernel_rfl) (by kernel_rfl) (ST.sel hS13 [0, 1] rfl rfl) (fun hg24 w' hw' => (Y_not (p := r_6) rfl (gv_of (B := (!(!r_5))) (v := .bool r_6) hg24))) ?_
          refine ra_q 13 68 (v := .bool ((!r_5) || (!r_6))) rfl rfl rfl (by kernel_rfl) (by kernel_rfl) (by kernel_rfl) (ST.sel hS13 [0, 1] rfl rfl) (fun w' hw' => (Y_or (b := (!r_5)) (z := (!r_6)) rfl rfl rfl rfl)) ?_
          refine ra_q 14 69 (v := .bool ((!r_5) || (!r_6))) rfl rfl rfl (by kernel_rfl) (by kernel_rfl) (by kernel_rfl) (ST.sel hS13 [0, 1] rfl rfl) (fun w' hw' => (Y_move (v := .bool ((!r_5) || (!r_6))) rfl rfl)) ?_
          refine ra_gq 15 70 (B := (!((!r_5) || (!r_6)))) (v := .int .i64 (i : Int)) rfl rfl rfl (wt_f (gd_of (t := 69) (by kernel_rfl) rfl)) (by kernel_rfl) (by kernel_rfl) (by kernel_rfl) (ST.sel hS13 [0, 1] rfl rfl) (fun hg25 w' hw' => (Y_move (v := .int .i64 (i : Int)) rfl rfl)) ?_
          refine ra_gq 16 71 (B := (!((!r_5) || (!r_6)))) (v := .bool (decide (0 < (i : Int)))) rfl rfl rfl (wt_f (gd_of (t := 69) (by kernel_rfl) rfl)) (by kernel_rfl) (by kernel_rfl) (by kernel_rfl) (ST.sel hS13 [0, 1] rfl rfl) (fun hg26 w' hw' => (Y_gt (k := .i64) (a := (i : Int)) (b := 0) rfl (gv_of (B := (!((!r_5) || (!r_6)))) (v := .int .i64 (i : Int)) hg26) rfl)) ?_
          refine ra_gq 17 72 (B := (!((!r_5) || (!r_6)))) (v := .bool (decide (0 < (i : Int)))) rfl rfl rfl (wt_f (gd_of (t := 69) (by kernel_rfl) rfl)) (by kernel_rfl) (by kernel_rfl) (by kernel_rfl) (ST.sel hS13 [0, 1] rfl rfl) (fun hg27 w' hw' => (Y_move (v := .bool (decide (0 < (i : Int)))) rfl (gv_of (B := (!((!r_5) || (!r_6)))) (v := .bool (decide (0 < (i : Int)))) hg27))) ?_
          refine ra_gq 18 73 (B := ((!((!r_5) || (!r_6))) && (decide (0 < (i : Int))))) (v := pt (some ⟨b, 0, none⟩) 4) rfl rfl rfl (wt_gt (gd_of (t := 72) (by kernel_rfl) rfl)) (by kernel_rfl) (by kernel_rfl) (by kernel_rfl) (ST.sel hS13 [0, 1] rfl rfl) (fun hg28 w' hw' => (Y_fieldAddr (B := some ⟨b, 0, none⟩) (i := 0) (s := 0) k_fd_30_4_4_27 k_sz_27_1 rfl (hf.get 1 0 rfl))) ?_
          refine ra_gq 19 74 (B := ((!((!r_5) || (!r_6))) && (decide (0 < (i : Int))))) (v := .slice B p.Terms.length c) rfl rfl rfl (wt_gt (gd_of (t := 72) (by kernel_rfl) rfl)) (by kernel_rfl) (by kernel_rfl) (by kernel_rfl) (ST.sel hS13 [0, 1] rfl rfl) (fun hg29 w' hw' => (Y_load1 (B := some ⟨b, 0, none⟩) (i := 4) (cs := [.int .i64 p.Ins, .int .i64 p.Vars, .int .i64 p.Root, .int .i64 p.Phase, .slice B p.Terms.length c, .slice B1 p.Out.length c1]) (v := .slice B p.Terms.length c) k_sc_27 rfl (gv_of (B := ((!((!r_5) || (!r_6))) && (decide (0 < (i : Int))))) (v := pt (some ⟨b, 0, none⟩) 4) hg29) (ST.cf hw' (i := 0) rfl) rfl)) ?_
          refine ra_gq 20 75 (B := ((!((!r_5) || (!r_6))) && (decide (0 < (i : Int))))) (v := .int .i64 (i : Int)) rfl rfl rfl (wt_gt (gd_of (t := 72) (by kernel_rfl) rfl)) (by kernel_rfl) (by kernel_rfl) (by kernel_rfl) (ST.sel hS13 [0, 1] rfl rfl) (fun hg30 w' hw' => (Y_move (v := .int .i64 (i : Int)) rfl rfl)) ?_
          refine ra_gq 21 76 (B := ((!((!r_5) || (!r_6))) && (decide (0 < (i : Int))))) (v := .int .i64 (IntKind.i64.wrap ((i : Int) - 1))) rfl rfl rfl (wt_gt (gd_of (t := 72) (by kernel_rfl) rfl)) (by kernel_rfl) (by kernel_rfl) (by kernel_rfl) (ST.sel hS13 [0, 1] rfl rfl) (fun hg31 w' hw' => (Y_sub (k := .i64) (a := (i : Int)) (b := 1) rfl (gv_of (B := ((!((!r_5) || (!r_6))) && (decide (0 < (i : Int))))) (v := .int .i64 (i : Int)) hg31) rfl)) ?_
          refine ra_gq 22 77 (B := ((!((!r_5) || (!r_6))) && (decide (0 < (i : Int))))) (v := pt B ((IntKind.i64.wrap ((i : Int) - 1)).toNat * 2)) rfl rfl rfl (wt_gt (gd_of (t := 72) (by kernel_rfl) rfl)) (by kernel_rfl) (by kernel_rfl) (by kernel_rfl) (ST.sel hS13 [0, 1] rfl rfl) (fun hg32 w' hw' => (Y_index (B := B) (m := p.Terms.length) (c := c) (k := .i64) (i := (IntKind.i64.wrap ((i : Int) - 1))) k_sl_27_56 k_sz_56_2 rfl (gv_of (B := ((!((!r_5) || (!r_6))) && (decide (0 < (i : Int))))) (v := .slice B p.Terms.length c) hg32) (gv_of (B := ((!((!r_5) || (!r_6))) && (decide (0 < (i : Int))))) (v := .int .i64 (IntKind.i64.wrap ((i : Int) - 1))) hg32) (gi_isSome enc_Term_len rfl (ST.rf hw' (i := 0) rfl) (gb_inv hx1 hg32)) (getI_nn (gb_inv hx1 hg32)) (getI_ltI (gb_inv hx1 hg32) rfl))) ?_
          refine ra_gq 23 78 (B := ((!((!r_5) || (!r_6))) && (decide (0 < (i : Int))))) (v := pt B ((IntKind.i64.wrap ((i : Int) - 1)).toNat * 2 + 0)) rfl rfl rfl (wt_gt (gd_of (t := 72) (by kernel_rfl) rfl)) (by kernel_rfl) (by kernel_rfl) (by kernel_rfl) (ST.sel hS13 [0, 1] rfl rfl) (fun hg33 w' hw' => (Y_fieldAddr (B := B) (i := (IntKind.i64.wrap ((i : Int) - 1)).toNat * 2) (s := 0) k_fd_56_0_0_3 k_sz_3_1 rfl (gv_of (B := ((!((!r_5) || (!r_6))) && (decide (0 < (i : Int))))) (v := pt B ((IntKind.i64.wrap ((i : Int) - 1)).toNat * 2)) hg33))) ?_
          refine ra_gq 24 79 (B := ((!((!r_5) || (!r_6))) && (decide (0 < (i : Int))))) (v := .int .i64 x1.Mask) rfl rfl rfl (wt_gt (gd_of (t := 72) (by kernel_rfl) rfl)) (by kernel_rfl) (by kernel_rfl) (by kernel_rfl) (ST.sel hS13 [0, 1] rfl rfl) (fun hg34 w' hw' => (Y_load1 (B := B) (i := (IntKind.i64.wrap ((i : Int) - 1)).toNat * 2 + 0) (cs := (p.Terms.flatMap enc_Term)) (v := .int .i64 x1.Mask) k_sc_3 rfl (gv_of (B := ((!((!r_5) || (!r_6))) && (decide (0 < (i : Int))))) (v := pt B ((IntKind.i64.wrap ((i : Int) - 1)).toNat * 2 + 0)) hg34) (ST.rf hw' (i := 0) rfl) (gi_at enc_Term_len (gb_inv hx1 hg34) rfl))) ?_
          refine ra_gq 25 80 (B := ((!((!r_5) || (!r_6))) && (decide (0 < (i : Int))))) (v := pt (some ⟨b1, 0, none⟩) 0) rfl rfl rfl (wt_gt (gd_of (t := 72) (by kernel_rfl) rfl)) (by kernel_rfl) (by kernel_rfl) (by kernel_rfl) (ST.sel hS13 [0, 1] rfl rfl) (fun hg35 w' hw' => (Y_fieldAddr (B := some ⟨b1, 0, none⟩) (i := 0) (s := 0) k_fd_56_0_0_3 k_sz_3_1 rfl rfl)) ?_
          refine ra_gq 26 81 (B := ((!((!r_5) || (!r_6))) && (decide (0 < (i : Int))))) (v := .int .i64 x.Mask) rfl rfl rfl (wt_gt (gd_of (t := 72) (by kernel_rfl) rfl)) (by kernel_rfl) (by kernel_rfl) (by kernel_rfl) (ST.sel hS13 [0, 1] rfl rfl) (fun hg36 w' hw' => (Y_load1 (B := some ⟨b1, 0, none⟩) (i := 0) (cs := [.int .i64 x.Mask, .int .i64 x.Coef]) (v := .int .i64 x.Mask) k_sc_3 rfl (gv_of (B := ((!((!r_5) || (!r_6))) && (decide (0 < (i : Int))))) (v := pt (some ⟨b1, 0, none⟩) 0) hg36) (ST.cf hw' (i := 1) rfl) rfl)) ?_
          refine ra_gq 27 82 (B := ((!((!r_5) || (!r_6))) && (decide (0 < (i : Int))))) (v := .bool (decide (x.Mask ≤ x1.Mask))) rfl rfl rfl (wt_gt (gd_of (t := 72) (by kernel_rfl) rfl)) (by kernel_rfl) (by kernel_rfl) (by kernel_rfl) (ST.sel hS13 [0, 1] rfl rfl) (fun hg37 w' hw' => (Y_ge (k := .i64) (a := x1.Mask) (b := x.Mask) rfl (gv_of (B := ((!((!r_5) || (!r_6))) && (decide (0 < (i : Int))))) (v := .int .i64 x1.Mask) hg37) (gv_of (B := ((!((!r_5) || (!r_6))) && (decide (0 < (i : Int))))) (v := .int .i64 x.Mask) hg37))) ?_
          refine ra_gq 28 83 (B := (!((!r_5) || (!r_6)))) (v := .bool ((decide (0 < (i : Int))) && (decide (x.Mask ≤ x1.Mask)))) rfl rfl rfl (wt_f (gd_of (t := 69) (by kernel_rfl) rfl)) (by kernel_rfl) (by kernel_rfl) (by kernel_rfl) (ST.sel hS13 [0, 1] rfl rfl) (fun hg38 w' hw' => (Y_and (b := (decide (0 < (i : Int)))) (z := (decide (x.Mask ≤ x1.Mask))) rfl (gv_of (B := (!((!r_5) || (!r_6)))) (v := .bool (decide (0 < (i : Int)))) hg38) (gv_and (B := (!((!r_5) || (!r_6)))) (C := (decide (0 < (i : Int)))) (v := .bool (decide (x.Mask ≤ x1.Mask))) hg38) rfl)) ?_
          refine ra_q 29 84 (v := .bool (((!r_5) || (!r_6)) || ((decide (0 < (i : Int))) && (decide (x.Mask ≤ x1.Mask))))) rfl rfl rfl (by kernel_rfl) (by kernel_rfl) (by kernel_rfl) (ST.sel hS13 [0, 1] rfl rfl) (fun w' hw' => (Y_or (b := ((!r_5) || (!r_6))) (z := ((decide (0 < (i : Int))) && (decide (x.Mask ≤ x1.Mask)))) rfl rfl rfl rfl)) ?_
          refine ra_done (by kernel_rfl) ?_
          refine cw_cond (b := (((!r_5) || (!r_6)) || ((decide (0 < (i : Int))) && (decide (x.Mask ≤ x1.Mask))))) rfl (fun hb2 => ?_) (fun hb2 => ?_)
          · skip
            have hF4 := ct hb1 hb2
            refine cw_seq ?_
            refine cw_region ?_
            refine sq 2 rfl rfl (Y_assign (v := .bool false) rfl rfl) ?_
            refine rw_nil ?_
            refine cw_ret ?_
            obtain rfl := some_inj hF4
            obtain rfl := some_inj hL1
            obtain rfl := some_inj hF3
            exact ret1 Tryd.results16 (v1 := .bool false) (resAt_tmp rfl) ⟨rfl, (ST.subR (R' := []) (hS13.sel [] rfl rfl) (fun _ h => by cases h))⟩
          · skip
            have hF5 := cf' hb1 hb2
            refine cw_skip ?_
            refine cw_seq ?_
            refine cw_region ?_
            refine sq 85 rfl rfl (Y_fieldAddr (B := some ⟨b1, 0, none⟩) (i := 0) (s := 0) k_fd_56_0_0_3 k_sz_3_1 rfl rfl) ?_
            refine sq 86 rfl rfl (Y_load1 (B := some ⟨b1, 0, none⟩) (i := 0) (cs := [.int .i64 x.Mask, .int .i64 x.Coef]) (v := .int .i64 x.Mask) k_sc_3 rfl rfl (hS13.cf (i := 1) rfl) rfl) ?_
            obtain ⟨r_7, hc6, hF5⟩ := bind_inv hF5
            refine sc 87 rfl rfl (Yc_func (g := 35) (vs := [.int .i64 x.Mask]) k_call_35 rfl (mc rfl mn) (c_spec_l1Set x.Mask _  (hS13.inn0 [] rfl) hc6)) ?_
            rintro _ w_9 ⟨B2, c2, rfl, hd2⟩
            have hS14 := hS13.out0 hd2
            have hS14 : ST w0 [] _ [⟨some ⟨b, 0, none⟩, 30, [.int .i64 p.Ins, .int .i64 p.Vars, .int .i64 p.Root, .int .i64 p.Phase, .slice B p.Terms.length c, .slice B1 p.Out.length c1], 6⟩, ⟨some ⟨b1, 0, none⟩, 56, [.int .i64 x.Mask, .int .i64 x.Coef], 2⟩, ⟨B2, 3, (r_7.flatMap encI), c2 * 1⟩] [⟨B, (p.Terms.flatMap enc_Term)⟩, ⟨B1, (p.Out.flatMap enc_Affine)⟩] := hS14
            refine sq 88 rfl rfl (Y_len (B := B2) (m := r_7.length) (c := c2) k_sl_60_3 rfl rfl) ?_
            refine sq 6 rfl rfl (Y_assign (v := .int .i64 (r_7.length : Int)) rfl rfl) ?_
            refine rw_nil ?_
            refine cw_seq ?_
            refine cw_split (B := (!(decide (3 < (r_7.length : Int))))) (fun hb3 => ?_) (fun hb3 => ?_)
            · skip
              have hF6 := ct hF5 hb3
              obtain ⟨x2, hx2, hF6⟩ := bind_inv hF6
              obtain ⟨hne, hF6⟩ := chk_inv hF6
              refine ra_start (ST.sel hS14 [0, 1, 2] rfl rfl).fn (by kernel_rfl) ?_
              have hS15 := hS14.drew
              refine ra_q 0 89 (v := .int .i64 (r_7.length : Int)) rfl rfl rfl (by kernel_rfl) (by kernel_rfl) (by kernel_rfl) (ST.sel hS15 [0, 1, 2] rfl rfl) (fun w' hw' => (Y_move (v := .int .i64 (r_7.length : Int)) rfl rfl)) ?_
              refine ra_q 1 90 (v := .bool (decide (3 < (r_7.length : Int)))) rfl rfl rfl (by kernel_rfl) (by kernel_rfl) (by kernel_rfl) (ST.sel hS15 [0, 1, 2] rfl rfl) (fun w' hw' => (Y_gt (k := .i64) (a := (r_7.length : Int)) (b := 3) rfl rfl rfl)) ?_
              refine ra_q 2 91 (v := .bool (decide (3 < (r_7.length : Int)))) rfl rfl rfl (by kernel_rfl) (by kernel_rfl) (by kernel_rfl) (ST.sel hS15 [0, 1, 2] rfl rfl) (fun w' hw' => (Y_move (v := .bool (decide (3 < (r_7.length : Int)))) rfl rfl)) ?_
              refine ra_gq 3 92 (B := (!(decide (3 < (r_7.length : Int))))) (v := pt (some ⟨b1, 0, none⟩) 1) rfl rfl rfl (wt_f (gd_of (t := 91) (by kernel_rfl) rfl)) (by kernel_rfl) (by kernel_rfl) (by kernel_rfl) (ST.sel hS15 [0, 1, 2] rfl rfl) (fun hg39 w' hw' => (Y_fieldAddr (B := some ⟨b1, 0, none⟩) (i := 0) (s := 0) k_fd_56_1_1_3 k_sz_3_1 rfl rfl)) ?_
              refine ra_gq 4 93 (B := (!(decide (3 < (r_7.length : Int))))) (v := .int .i64 x.Coef) rfl rfl rfl (wt_f (gd_of (t := 91) (by kernel_rfl) rfl)) (by kernel_rfl) (by kernel_rfl) (by kernel_rfl) (ST.sel hS15 [0, 1, 2] rfl rfl) (fun hg40 w' hw' => (Y_load1 (B := some ⟨b1, 0, none⟩) (i := 1) (cs := [.int .i64 x.Mask, .int .i64 x.Coef]) (v := .int .i64 x.Coef) k_sc_3 rfl (gv_of (B := (!(decide (3 < (r_7.length : Int))))) (v := pt (some ⟨b1, 0, none⟩) 1) hg40) (ST.cf hw' (i := 1) rfl) rfl)) ?_
              refine ra_qg 6 95 (B := (!(decide (3 < (r_7.length : Int))))) (v := .int .i64 (r_7.length : Int)) rfl rfl rfl (wt_f (gd_of (t := 91) (by kernel_rfl) rfl)) hb3 (by kernel_rfl) (by kernel_rfl) (by kernel_rfl) (ST.sel hS15 [0, 1, 2] rfl rfl) (fun w' hw' => (Y_move (v := .int .i64 (r_7.length : Int)) rfl rfl)) ?_
              refine ra_all (rs := [5]) (by kernel_rfl) rfl ?_
              refine ra_sg 94 (i := 5) rfl rfl rfl (wt_f (gd_of (t := 91) (by kernel_rfl) rfl)) hb3 (Ys_bslice (s := 1) (len := 4) (vs := [(0, .int .i64 1), (1, .int .i64 1), (2, .int .i64 2), (3, .int .i64 4)]) (cs := [.int .i64 1, .int .i64 1, .int .i64 2, .int .i64 4]) (zs := [.int .i64 0, .int .i64 0, .int .i64 0, .int .i64 0]) (m := 4) hS15 k_sl_60_3 k_sz_3_1 k_zc_3 rfl (mpc rfl (mpc rfl (mpc rfl (mpc rfl mpn)))) rfl rfl rfl (by kernel_rfl) (by kernel_rfl) rfl) ?_ ?_
              · rintro _ w_10 ⟨b2, rfl, hS16⟩
                have hS16 : ST w0 [] _ [⟨some ⟨b, 0, none⟩, 30, [.int .i64 p.Ins, .int .i64 p.Vars, .int .i64 p.Root, .int .i64 p.Phase, .slice B p.Terms.length c, .slice B1 p.Out.length c1], 6⟩, ⟨some ⟨b1, 0, none⟩, 56, [.int .i64 x.Mask, .int .i64 x.Coef], 2⟩, ⟨B2, 3, (r_7.flatMap encI), c2 * 1⟩, ⟨some ⟨b2, 0, none⟩, 3, ([1, 1, 2, 4].flatMap encI), 4 * 1⟩] [⟨B, (p.Terms.flatMap enc_Term)⟩, ⟨B1, (p.Out.flatMap enc_Affine)⟩] := hS16
                refine ⟨(ST.sel hS16 [0, 1, 2] rfl rfl), ?_⟩
                refine ra_all (rs := [7]) (by kernel_rfl) rfl ?_
                refine ra_yg 96 (i := 7) (v := pt (some ⟨b2, 0, none⟩) ((r_7.length : Int).toNat * 1)) rfl rfl rfl (wt_f (gd_of (t := 91) (by kernel_rfl) rfl)) hb3 (Y_index (B := some ⟨b2, 0, none⟩) (m := 4) (c := 4) (k := .i64) (i := (r_7.length : Int)) k_sl_60_3 k_sz_3_1 rfl rfl rfl (gi_isSome encI_len rfl (hS16.cf (i := 3) rfl) hx2) (getI_nn hx2) (getI_ltI hx2 rfl)) (ST.sel hS16 [0, 1, 2] rfl rfl) ?_ ?_
                · skip
                  refine ra_all (rs := [8]) (by kernel_rfl) rfl ?_
                  refine ra_yg 97 (i := 8) (v := .int .i64 x2) rfl rfl rfl (wt_f (gd_of (t := 91) (by kernel_rfl) rfl)) hb3 (Y_load1 (B := some ⟨b2, 0, none⟩) (i := (r_7.length : Int).toNat * 1) (cs := ([1, 1, 2, 4].flatMap encI)) (v := .int .i64 x2) k_sc_3 rfl rfl (hS16.cf (i := 3) rfl) (gi_at0 encI_len hx2 rfl)) (ST.sel hS16 [0, 1, 2] rfl rfl) ?_ ?_
                  · skip
                    refine ra_qg 9 98 (B := (!(decide (3 < (r_7.length : Int))))) (v := .int .i64 (Int.tmod x.Coef x2)) rfl rfl rfl (wt_f (gd_of (t := 91) (by kernel_rfl) rfl)) hb3 (by kernel_rfl) (by kernel_rfl) (by kernel_rfl) (ST.sel hS16 [0, 1, 2] rfl rfl) (fun w' hw' => (Y_rem (k := .i64) (a := x.Coef) (b := x2) rfl (gv_of (B := (!(decide (3 < (r_7.length : Int))))) (v := .int .i64 x.Coef) hb3) rfl hne)) ?_
                    refine ra_qg 10 99 (B := (!(decide (3 < (r_7.length : Int))))) (v := .bool ((Int.tmod x.Coef x2) != 0)) rfl rfl rfl (wt_f (gd_of (t := 91) (by kernel_rfl) rfl)) hb3 (by kernel_rfl) (by kernel_rfl) (by kernel_rfl) (ST.sel hS16 [0, 1, 2] rfl rfl) (fun w' hw' => (Y_ne (k := .i64) (a := (Int.tmod x.Coef x2)) (b := 0) rfl rfl rfl)) ?_
                    refine ra_q 11 100 (v := .bool ((Int.tmod x.Coef x2) != 0)) rfl rfl rfl (by kernel_rfl) (by kernel_rfl) (by kernel_rfl) (ST.sel hS16 [0, 1, 2] rfl rfl) (fun w' hw' => (Y_pickF (b := (decide (3 < (r_7.length : Int)))) (v := .bool ((Int.tmod x.Coef x2) != 0)) rfl rfl (nt hb3) rfl)) ?_
                    refine ra_done (by kernel_rfl) ?_
                    refine cw_cond (b := ((Int.tmod x.Coef x2) != 0)) rfl (fun hb4 => ?_) (fun hb4 => ?_)
                    · skip
                      have hF7 := ct hF6 hb4
                      refine cw_seq ?_
                      refine cw_region ?_
                      refine sq 2 rfl rfl (Y_assign (v := .bool false) rfl rfl) ?_
                      refine rw_nil ?_
                      refine cw_ret ?_
                      obtain rfl := some_inj hF7
                      obtain rfl := some_inj hL1
                      obtain rfl := some_inj hF3
                      exact ret1 Tryd.results16 (v1 := .bool false) (resAt_tmp rfl) ⟨rfl, (ST.subR (R' := []) (hS16.sel [] rfl rfl) (fun _ h => by cases h))⟩
                    · skip
                      have hF8 := cf' hF6 hb4
                      refine cw_skip ?_
                      refine cw_region ?_
                      refine sq 101 rfl rfl (Y_add (k := .i64) (a := (i : Int)) (b := 1) rfl (hf.get 50 4 rfl) rfl) ?_
                      refine sq 50 rfl rfl (Y_move (v := .int .i64 (IntKind.i64.wrap ((i : Int) + 1))) rfl rfl) ?_
                      refine rw_nil ?_
                      obtain rfl := some_inj hF8
                      exact ⟨k_1, Nat.lt_succ_self _, i + 1, (FF.cons (hf.get 1 0 rfl) (FF.cons (hf.get 3 1 rfl) (FF.cons (hf.get 48 2 rfl) (FF.cons (hf.get 49 3 rfl) (FF.cons (congrArg (Value.int .i64) (wr_succ hlt1 hN)) FF.nil))))), (hS16.sel [0] rfl rfl), (by omega), hL1⟩
                  exact allR_nil
                exact allR_nil
              exact allR_nil
            · skip
              have hF9 := cf' hF5 hb3
              refine ra_start (ST.sel hS14 [0, 1, 2] rfl rfl).fn (by kernel_rfl) ?_
              have hS17 := hS14.drew
              refine ra_q 0 89 (v := .int .i64 (r_7.length : Int)) rfl rfl rfl (by kernel_rfl) (by kernel_rfl) (by kernel_rfl) (ST.sel hS17 [0, 1, 2] rfl rfl) (fun w' hw' => (Y_move (v := .int .i64 (r_7.length : Int)) rfl rfl)) ?_
              refine ra_q 1 90 (v := .bool (decide (3 < (r_7.length : Int)))) rfl rfl rfl (by kernel_rfl) (by kernel_rfl) (by kernel_rfl) (ST.sel hS17 [0, 1, 2] rfl rfl) (fun w' hw' => (Y_gt (k := .i64) (a := (r_7.length : Int)) (b := 3) rfl rfl rfl)) ?_
              refine ra_q 2 91 (v := .bool (decide (3 < (r_7.length : Int)))) rfl rfl rfl (by kernel_rfl) (by kernel_rfl) (by kernel_rfl) (ST.sel hS17 [0, 1, 2] rfl rfl) (fun w' hw' => (Y_move (v := .bool (decide (3 < (r_7.length : Int)))) rfl rfl)) ?_
              refine ra_gq 3 92 (B := (!(decide (3 < (r_7.length : Int))))) (v := pt (some ⟨b1, 0, none⟩) 1) rfl rfl rfl (wt_f (gd_of (t := 91) (by kernel_rfl) rfl)) (by kernel_rfl) (by kernel_rfl) (by kernel_rfl) (ST.sel hS17 [0, 1, 2] rfl rfl) (fun hg39 w' hw' => (Y_fieldAddr (B := some ⟨b1, 0, none⟩) (i := 0) (s := 0) k_fd_56_1_1_3 k_sz_3_1 rfl rfl)) ?_
              refine ra_gq 4 93 (B := (!(decide (3 < (r_7.length : Int))))) (v := .int .i64 x.Coef) rfl rfl rfl (wt_f (gd_of (t := 91) (by kernel_rfl) rfl)) (by kernel_rfl) (by kernel_rfl) (by kernel_rfl) (ST.sel hS17 [0, 1, 2] rfl rfl) (fun hg40 w' hw' => (Y_load1 (B := some ⟨b1, 0, none⟩) (i := 1) (cs := [.int .i64 x.Mask, .int .i64 x.Coef]) (v := .int .i64 x.Coef) k_sc_3 rfl (gv_of (B := (!(decide (3 < (r_7.length : Int))))) (v := pt (some ⟨b1, 0, none⟩) 1) hg40) (ST.cf hw' (i := 1) rfl) rfl)) ?_
              refine ra_gq 5 94 (B := (!(decide (3 < (r_7.length : Int))))) (v := undef) rfl rfl rfl (wt_f (gd_of (t := 91) (by kernel_rfl) rfl)) (by kernel_rfl) (by kernel_rfl) (by kernel_rfl) (ST.sel hS17 [0, 1, 2] rfl rfl) (fun hg _ _ => nomatch (hg.symm.trans hb3)) ?_
              refine ra_gq 6 95 (B := (!(decide (3 < (r_7.length : Int))))) (v := undef) rfl rfl rfl (wt_f (gd_of (t := 91) (by kernel_rfl) rfl)) (by kernel_rfl) (by kernel_rfl) (by kernel_rfl) (ST.sel hS17 [0, 1, 2] rfl rfl) (fun hg _ _ => nomatch (hg.symm.trans hb3)) ?_
              refine ra_gq 7 96 (B := (!(decide (3 < (r_7.length : Int))))) (v := undef) rfl rfl rfl (wt_f (gd_of (t := 91) (by kernel_rfl) rfl)) (by kernel_rfl) (by kernel_rfl) (by kernel_rfl) (ST.sel hS17 [0, 1, 2] rfl rfl) (fun hg _ _ => nomatch (hg.symm.trans hb3)) ?_
              refine ra_gq 8 97 (B := (!(decide (3 < (r_7.length : Int))))) (v := undef) rfl rfl rfl (wt_f (gd_of (t := 91) (by kernel_rfl) rfl)) (by kernel_rfl) (by kernel_rfl) (by kernel_rfl) (ST.sel hS17 [0, 1, 2] rfl rfl) (fun hg _ _ => nomatch (hg.symm.trans hb3)) ?_
              refine ra_gq 9 98 (B := (!(decide (3 < (r_7.length : Int))))) (v := undef) rfl rfl rfl (wt_f (gd_of (t := 91) (by kernel_rfl) rfl)) (by kernel_rfl) (by kernel_rfl) (by kernel_rfl) (ST.sel hS17 [0, 1, 2] rfl rfl) (fun hg _ _ => nomatch (hg.symm.trans hb3)) ?_
              refine ra_gq 10 99 (B := (!(decide (3 < (r_7.length : Int))))) (v := undef) rfl rfl rfl (wt_f (gd_of (t := 91) (by kernel_rfl) rfl)) (by kernel_rfl) (by kernel_rfl) (by kernel_rfl) (ST.sel hS17 [0, 1, 2] rfl rfl) (fun hg _ _ => nomatch (hg.symm.trans hb3)) ?_
              refine ra_q 11 100 (v := .bool true) rfl rfl rfl (by kernel_rfl) (by kernel_rfl) (by kernel_rfl) (ST.sel hS17 [0, 1, 2] rfl rfl) (fun w' hw' => (Y_pickT (b := (decide (3 < (r_7.length : Int)))) (v := .bool true) rfl rfl (nf hb3) rfl)) ?_
              refine ra_done (by kernel_rfl) ?_
              refine cw_cond (b := true) rfl (fun _ => ?_) (fun h => by cases h)
              refine cw_seq ?_
              refine cw_region ?_
              refine sq 2 rfl rfl (Y_assign (v := .bool false) rfl rfl) ?_
              refine rw_nil ?_
              refine cw_ret ?_
              obtain rfl := some_inj hF9
              obtain rfl := some_inj hL1
              obtain rfl := some_inj hF3
              exact ret1 Tryd.results16 (v1 := .bool false) (resAt_tmp rfl) ⟨rfl, (ST.subR (R' := []) (hS17.sel [] rfl rfl) (fun _ h => by cases h))⟩
        exact allR_nil
      exact allR_nil
    · skip
      obtain rfl : k_ = 0 := by have h := of_decide_eq_false hlt; omega
      refine cw_exit rfl ?_
      obtain rfl := some_inj hL
      refine cw_seq ?_
      refine cw_seq ?_
      refine cw_region ?_
      refine sq 102 rfl rfl (Y_fieldAddr (B := some ⟨b, 0, none⟩) (i := 0) (s := 0) k_fd_30_5_5_28 k_sz_28_1 rfl (hf.get 1 0 rfl)) ?_
      refine sq 103 rfl rfl (Y_load1 (B := some ⟨b, 0, none⟩) (i := 5) (cs := [.int .i64 p.Ins, .int .i64 p.Vars, .int .i64 p.Root, .int .i64 p.Phase, .slice B p.Terms.length c, .slice B1 p.Out.length c1]) (v := .slice B1 p.Out.length c1) k_sc_28 rfl rfl (hS6.cf (i := 0) rfl) rfl) ?_
      refine sq 104 rfl rfl (Y_len (B := B1) (m := p.Out.length) (c := c1) k_sl_28_44 rfl rfl) ?_
      refine sq 105 rfl rfl (Y_move (v := .int .i64 0) rfl rfl) ?_
      refine rw_nil ?_
      obtain ⟨hN1, hF3⟩ := chk_inv hF3
      obtain ⟨z1, hz1, hF10⟩ := bind_inv hF3
      refine cw_block ?_
      refine cw_loop (fun k f w => ∃ (i1 : Nat), FF f [(3, .int .i64 (IntKind.i64.wrap (p.Ins + p.Vars))), (103, .slice B1 p.Out.length c1), (104, .int .i64 (p.Out.length : Int)), (105, .int .i64 (i1 : Int))] ∧ ST w0 [] w [] [⟨B, (p.Terms.flatMap enc_Term)⟩, ⟨B1, (p.Out.flatMap enc_Affine)⟩] ∧ i1 + k = p.Out.length ∧ forX (F_spec_l21Valid_l2 p) k i1 () = some z1) p.Out.length ⟨0, (FF.cons (hf.get 3 1 rfl) (FF.cons rfl (FF.cons rfl (FF.cons rfl FF.nil)))), (hS6.sel [] rfl rfl), Nat.zero_add _, hz1⟩ ?_
      rintro k_2 f w ⟨i1, hf1, hS18, hik1, hL2⟩
      refine cw_seq ?_
      refine cw_region ?_
      refine sq 106 rfl rfl (Y_lt (k := .i64) (a := (i1 : Int)) (b := (p.Out.length : Int)) rfl (hf1.get 105 3 rfl) (hf1.get 104 2 rfl)) ?_
      refine rw_nil ?_
      refine cw_seq ?_
      refine cw_cond (b := (decide ((i1 : Int) < (p.Out.length : Int)))) rfl (fun hlt2 => ?_) (fun hlt2 => ?_)
      · skip
        have hlt3 : i1 < p.Out.length := by have h := of_decide_eq_true hlt2; omega
        obtain ⟨k_3, rfl⟩ : ∃ k2, k_2 = k2 + 1 := ⟨k_2 - 1, by omega⟩
        obtain ⟨y1, hb5, hL3⟩ := forX_go hL2
        unfold F_spec_l21Valid_l2 at hb5
        refine cw_skip ?_
        refine cw_seq ?_
        refine cw_block ?_
        refine cw_seq ?_
        refine cw_region ?_
        obtain ⟨x3, hx3, hb5⟩ := bind_inv hb5
        refine sq 107 rfl rfl (Y_index (B := B1) (m := p.Out.length) (c := c1) (k := .i64) (i := (i1 : Int)) k_sl_28_44 k_sz_44_2 rfl (hf1.get 103 1 rfl) (hf1.get 105 3 rfl) (gi_isSome enc_Affine_len rfl (hS18.rf (i := 1) rfl) hx3) (getI_nn hx3) (getI_ltI hx3 rfl)) ?_
        refine sq 108 rfl rfl (Y_loadA (B := B1) (i := (i1 : Int).toNat * 2) (cs := (p.Out.flatMap enc_Affine)) (vs := [.int .i64 x3.Mask, .int .i64 x3.Turn]) k_ag_44 k_sz_44_2 rfl rfl (hS18.rf (i := 1) rfl) (enc_Affine_len x3) (gi_seg enc_Affine_len hx3)) ?_
        refine ss 8 rfl rfl (Ys_alloc (T := 44) (cs := [.int .i64 0, .int .i64 0]) (m := 2) hS18 k_zero_44 rfl rfl rfl) ?_
        rintro _ w_11 ⟨b3, rfl, hS19⟩
        refine ss0 rfl rfl (Ys_store (i := 0) (s := 2) (B := some ⟨b3, 0, none⟩) (T' := 44) (v := .agg #[.int .i64 x3.Mask, .int .i64 x3.Turn]) (vs := [.int .i64 x3.Mask, .int .i64 x3.Turn]) (k := 0) (cs' := [.int .i64 x3.Mask, .int .i64 x3.Turn]) hS19 k_sz_44_2 rfl rfl rfl rfl rfl rfl rfl (Nat.le_of_ble_eq_true rfl) rfl rfl) ?_
        rintro _ w_12 ⟨rfl, hS20⟩
        refine rw_nil ?_
        refine cw_seq ?_
        refine cw_region ?_
        refine sq 109 rfl rfl (Y_fieldAddr (B := some ⟨b3, 0, none⟩) (i := 0) (s := 0) k_fd_44_0_0_3 k_sz_3_1 rfl rfl) ?_
        refine sq 110 rfl rfl (Y_load1 (B := some ⟨b3, 0, none⟩) (i := 0) (cs := [.int .i64 x3.Mask, .int .i64 x3.Turn]) (v := .int .i64 x3.Mask) k_sc_3 rfl rfl (hS20.cf (i := 0) rfl) rfl) ?_
        refine sq 111 rfl rfl (Y_move (v := .int .i64 (IntKind.i64.wrap (p.Ins + p.Vars))) rfl (hf1.get 3 0 rfl)) ?_
        refine sq 112 rfl rfl (Y_conv (k := .i64) (a := (IntKind.i64.wrap (p.Ins + p.Vars))) (T := 3) (T' := 59) k_us_3 k_int_59_u64 rfl rfl) ?_
        obtain ⟨hsh1, hb5⟩ := chk_inv hb5
        refine sq 113 rfl rfl (Y_shl (k := .i64) (a := 1) (k' := .u64) (b := (IntKind.u64.wrap (IntKind.i64.wrap (p.Ins + p.Vars)))) rfl rfl rfl hsh1) ?_
        refine sq 114 rfl rfl (Y_sub (k := .i64) (a := (shlK .i64 1 (IntKind.u64.wrap (IntKind.i64.wrap (p.Ins + p.Vars))))) (b := 1) rfl rfl rfl) ?_
        obtain ⟨r_8, hc7, hb5⟩ := bind_inv hb5
        refine sc 115 rfl rfl (Yc_func (g := 34) (vs := [.int .i64 x3.Mask, .int .i64 0, .int .i64 (IntKind.i64.wrap ((shlK .i64 1 (IntKind.u64.wrap (IntKind.i64.wrap (p.Ins + p.Vars)))) - 1))]) k_call_34 rfl (mc rfl (mc rfl (mc rfl mn))) (c_spec_l1In x3.Mask 0 (IntKind.i64.wrap ((shlK .i64 1 (IntKind.u64.wrap (IntKind.i64.wrap (p.Ins + p.Vars)))) - 1)) _  (hS20.inn0 [] rfl) hc7)) ?_
        rintro _ w_13 ⟨rfl, hd3⟩
        have hS21 := hS20.out00 hd3
        refine sq 116 rfl rfl (Y_not (p := r_8) rfl rfl) ?_
        refine sq 117 rfl rfl (Y_move (v := .bool (!r_8)) rfl rfl) ?_
        refine sgq 118 (B := (!(!r_8))) (v := pt (some ⟨b3, 0, none⟩) 1) rfl rfl (wt_f (gd_of (t := 117) (by kernel_rfl) rfl)) (fun hg41 => (Y_fieldAddr (B := some ⟨b3, 0, none⟩) (i := 0) (s := 0) k_fd_44_1_1_3 k_sz_3_1 rfl rfl)) ?_
        refine sgq 119 (B := (!(!r_8))) (v := .int .i64 x3.Turn) rfl rfl (wt_f (gd_of (t := 117) (by kernel_rfl) rfl)) (fun hg42 => (Y_load1 (B := some ⟨b3, 0, none⟩) (i := 1) (cs := [.int .i64 x3.Mask, .int .i64 x3.Turn]) (v := .int .i64 x3.Turn) k_sc_3 rfl (gv_of (B := (!(!r_8))) (v := pt (some ⟨b3, 0, none⟩) 1) hg42) (hS21.cf (i := 0) rfl) rfl)) ?_
        obtain ⟨r_9, hc8, hb5⟩ := bind_inv hb5
        refine sgc 120 (B := (!(!r_8))) (v := .bool r_9) (F := hS21.fn) rfl rfl (wt_f (gd_of (t := 117) (by kernel_rfl) rfl)) hS21 (fun hg43 => (Yc_func (g := 34) (vs := [.int .i64 x3.Turn, .int .i64 0, .int .i64 1]) k_call_34 rfl (mc (gv_of (B := (!(!r_8))) (v := .int .i64 x3.Turn) hg43) (mc rfl (mc rfl mn))) (CV.mono (c_spec_l1In x3.Turn 0 1 _  (hS21.inn0 [] rfl) (gb_inv hc8 hg43)) (by rintro _ _ ⟨rfl, h⟩; exact ⟨rfl, hS21.out00 h⟩)))) ?_
        rintro w_14 hS22
        have hS22 : ST _ _ w_14 _ _ := hS22
        refine sgq 121 (B := (!(!r_8))) (v := .bool (!r_9)) rfl rfl (wt_f (gd_of (t := 117) (by kernel_rfl) rfl)) (fun hg44 => (Y_not (p := r_9) rfl (gv_of (B := (!(!r_8))) (v := .bool r_9) hg44))) ?_
        refine sq 122 rfl rfl (Y_or (b := (!r_8)) (z := (!r_9)) rfl rfl rfl rfl) ?_
        refine rw_nil ?_
        refine cw_cond (b := ((!r_8) || (!r_9))) rfl (fun hb6 => ?_) (fun hb6 => ?_)
        · skip
          have hF11 := ct hb5 hb6
          refine cw_seq ?_
          refine cw_region ?_
          refine sq 2 rfl rfl (Y_assign (v := .bool false) rfl rfl) ?_
          refine rw_nil ?_
          refine cw_ret ?_
          obtain rfl := some_inj hF11
          obtain rfl := some_inj hL3
          obtain rfl := some_inj hF10
          exact ret1 Tryd.results16 (v1 := .bool false) (resAt_tmp rfl) ⟨rfl, (ST.subR (R' := []) (hS22.sel [] rfl rfl) (fun _ h => by cases h))⟩
        · skip
          have hF12 := cf' hb5 hb6
          refine cw_skip ?_
          refine cw_region ?_
          refine sq 123 rfl rfl (Y_add (k := .i64) (a := (i1 : Int)) (b := 1) rfl (hf1.get 105 3 rfl) rfl) ?_
          refine sq 105 rfl rfl (Y_move (v := .int .i64 (IntKind.i64.wrap ((i1 : Int) + 1))) rfl rfl) ?_
          refine rw_nil ?_
          obtain rfl := some_inj hF12
          exact ⟨k_3, Nat.lt_succ_self _, i1 + 1, (FF.cons (hf1.get 3 0 rfl) (FF.cons (hf1.get 103 1 rfl) (FF.cons (hf1.get 104 2 rfl) (FF.cons (congrArg (Value.int .i64) (wr_succ hlt3 hN1)) FF.nil)))), (hS22.sel [] rfl rfl), (by omega), hL3⟩
      · skip
        obtain rfl : k_2 = 0 := by have h := of_decide_eq_false hlt2; omega
        refine cw_exit rfl ?_
        obtain rfl := some_inj hL2
        refine cw_seq ?_
        refine cw_region ?_
        refine sq 2 rfl rfl (Y_assign (v := .bool true) rfl rfl) ?_
        refine rw_nil ?_
        refine cw_ret ?_
        obtain rfl := some_inj hF10
        exact ret1 Tryd.results16 (v1 := .bool true) (resAt_tmp rfl) ⟨rfl, (ST.subR (R' := []) (hS18.sel [] rfl rfl) (fun _ h => by cases h))⟩

theorem c_spec_l21Rule (p : TPathSum) (y : Int) (B : Option Addr) (c n : Nat) (B1 : Option Addr) (c1 n1 : Nat) (w0 : World) (hn : p.Terms.length = n) (hn1 : p.Out.length = n1) (hS : ST w0 [] w0 [] [⟨B, (p.Terms.flatMap enc_Term)⟩, ⟨B1, (p.Out.flatMap enc_Affine)⟩]) {r_ : Int} {r_1 : Int} {r_2 : Int} (hF : F_spec_l21Rule p y = some (r_, r_1, r_2)) :
    CV Tryd.prog 36 #[.agg #[.int .i64 p.Ins, .int .i64 p.Vars, .int .i64 p.Root, .int .i64 p.Phase, .slice B n c, .slice B1 n1 c1], .int .i64 y] w0 (fun v w' => v = .tuple #[.int .i64 r_, .int .i64 r_1, .int .i64 r_2] ∧ ST w0 [] w' [] []) := by
  subst hn
  subst hn1
  unfold F_spec_l21Rule at hF
  refine cv_of_cw 103 Tryd.func36 rfl Tryd.ntmps36 rfl ?_
  refine cw_seq ?_
  refine cw_region ?_
  refine ss 2 rfl rfl (Ys_box (T := 30) (v := .agg #[.int .i64 p.Ins, .int .i64 p.Vars, .int .i64 p.Root, .int .i64 p.Phase, .slice B p.Terms.length c, .slice B1 p.Out.length c1]) (cs := [.int .i64 p.Ins, .int .i64 p.Vars, .int .i64 p.Root, .int .i64 p.Phase, .slice B p.Terms.length c, .slice B1 p.Out.length c1]) (m := 6) hS rfl rfl rfl rfl) ?_
  rintro _ w_ ⟨b, rfl, hS1⟩
  refine sq 4 rfl rfl (Y_assign (v := .int .i64 0) rfl rfl) ?_
  refine sq 5 rfl rfl (Y_assign (v := .int .i64 0) rfl rfl) ?_
  refine sq 6 rfl rfl (Y_assign (v := .int .i64 0) rfl rfl) ?_
  refine rw_nil ?_
  refine cw_seq ?_
  refine cw_region ?_
  refine sq 7 rfl rfl (Y_assign (v := .int .i64 0) rfl rfl) ?_
  refine sq 8 rfl rfl (Y_assign (v := .int .i64 0) rfl rfl) ?_
  refine rw_nil ?_
  refine cw_seq ?_
  refine cw_seq ?_
  refine cw_region ?_
  refine sq 14 rfl rfl (Y_fieldAddr (B := some ⟨b, 0, none⟩) (i := 0) (s := 0) k_fd_30_5_5_28 k_sz_28_1 rfl rfl) ?_
  refine sq 15 rfl rfl (Y_load1 (B := some ⟨b, 0, none⟩) (i := 5) (cs := [.int .i64 p.Ins, .int .i64 p.Vars, .int .i64 p.Root, .int .i64 p.Phase, .slice B p.Terms.length c, .slice B1 p.Out.length c1]) (v := .slice B1 p.Out.length c1) k_sc_28 rfl rfl (hS1.cf (i := 0) rfl) rfl) ?_
  refine sq 16 rfl rfl (Y_len (B := B1) (m := p.Out.length) (c := c1) k_sl_28_44 rfl rfl) ?_
  refine sq 17 rfl rfl (Y_move (v := .int .i64 0) rfl rfl) ?_
  refine rw_nil ?_
  obtain ⟨hN, hF⟩ := chk_inv hF
  obtain ⟨z, hz, hF1⟩ := bind_inv hF
  refine cw_block ?_
  refine cw_loop (fun k f w => ∃ (i : Nat), FF f [(1, .int .i64 y), (2, pt (some ⟨b, 0, none⟩) 0), (7, .int .i64 0), (8, .int .i64 0), (15, .slice B1 p.Out.length c1), (16, .int .i64 (p.Out.length : Int)), (17, .int .i64 (i : Int))] ∧ ST w0 [] w [⟨some ⟨b, 0, none⟩, 30, [.int .i64 p.Ins, .int .i64 p.Vars, .int .i64 p.Root, .int .i64 p.Phase, .slice B p.Terms.length c, .slice B1 p.Out.length c1], 6⟩] [⟨B, (p.Terms.flatMap enc_Term)⟩, ⟨B1, (p.Out.flatMap enc_Affine)⟩] ∧ i + k = p.Out.length ∧ forX (F_spec_l21Rule_l1 p y) k i () = some z) p.Out.length ⟨0, (FF.cons rfl (FF.cons rfl (FF.cons rfl (FF.cons rfl (FF.cons rfl (FF.cons rfl (FF.cons rfl FF.nil))))))), (hS1.sel [0] rfl rfl), Nat.zero_add _, hz⟩ ?_
  rintro k_ f w ⟨i, hf, hS2, hik, hL⟩
  refine cw_seq ?_
  refine cw_region ?_
  refine sq 18 rfl rfl (Y_lt (k := .i64) (a := (i : Int)) (b := (p.Out.length : Int)) rfl (hf.get 17 6 rfl) (hf.get 16 5 rfl)) ?_
  refine rw_nil ?_
  refine cw_seq ?_
  refine cw_cond (b := (decide ((i : Int) < (p.Out.length : Int)))) rfl (fun hlt => ?_) (fun hlt => ?_)
  · skip
    have hlt1 : i < p.Out.length := by have h := of_decide_eq_true hlt; omega
    obtain ⟨k_1, rfl⟩ : ∃ k2, k_ = k2 + 1 := ⟨k_ - 1, by omega⟩
    obtain ⟨y1, hb, hL1⟩ := forX_go hL
    unfold F_spec_l21Rule_l1 at hb
    refine cw_skip ?_
    refine cw_seq ?_
    refine cw_block ?_
    refine cw_seq ?_
    refine cw_region ?_
    obtain ⟨x, hx, hb⟩ := bind_inv hb
    refine sq 19 rfl rfl (Y_index (B := B1) (m := p.Out.length) (c := c1) (k := .i64) (i := (i : Int)) k_sl_28_44 k_sz_44_2 rfl (hf.get 15 4 rfl) (hf.get 17 6 rfl) (gi_isSome enc_Affine_len rfl (hS2.rf (i := 1) rfl) hx) (getI_nn hx) (getI_ltI hx rfl)) ?_
    refine sq 20 rfl rfl (Y_loadA (B := B1) (i := (i : Int).toNat * 2) (cs := (p.Out.flatMap enc_Affine)) (vs := [.int .i64 x.Mask, .int .i64 x.Turn]) k_ag_44 k_sz_44_2 rfl rfl (hS2.rf (i := 1) rfl) (enc_Affine_len x) (gi_seg enc_Affine_len hx)) ?_
    refine ss 10 rfl rfl (Ys_alloc (T := 44) (cs := [.int .i64 0, .int .i64 0]) (m := 2) hS2 k_zero_44 rfl rfl rfl) ?_
    rintro _ w_1 ⟨b1, rfl, hS3⟩
    have hS3 : ST w0 [] _ [⟨some ⟨b, 0, none⟩, 30, [.int .i64 p.Ins, .int .i64 p.Vars, .int .i64 p.Root, .int .i64 p.Phase, .slice B p.Terms.length c, .slice B1 p.Out.length c1], 6⟩, ⟨some ⟨b1, 0, none⟩, 44, [.int .i64 0, .int .i64 0], 2⟩] [⟨B, (p.Terms.flatMap enc_Term)⟩, ⟨B1, (p.Out.flatMap enc_Affine)⟩] := hS3
    refine ss0 rfl rfl (Ys_store (i := 1) (s := 2) (B := some ⟨b1, 0, none⟩) (T' := 44) (v := .agg #[.int .i64 x.Mask, .int .i64 x.Turn]) (vs := [.int .i64 x.Mask, .int .i64 x.Turn]) (k := 0) (cs' := [.int .i64 x.Mask, .int .i64 x.Turn]) hS3 k_sz_44_2 rfl rfl rfl rfl rfl rfl rfl (Nat.le_of_ble_eq_true rfl) rfl rfl) ?_
    rintro _ w_2 ⟨rfl, hS4⟩
    have hS4 : ST w0 [] _ [⟨some ⟨b, 0, none⟩, 30, [.int .i64 p.Ins, .int .i64 p.Vars, .int .i64 p.Root, .int .i64 p.Phase, .slice B p.Terms.length c, .slice B1 p.Out.length c1], 6⟩, ⟨some ⟨b1, 0, none⟩, 44, [.int .i64 x.Mask, .int .i64 x.Turn], 2⟩] [⟨B, (p.Terms.flatMap enc_Term)⟩, ⟨B1, (p.Out.flatMap enc_Affine)⟩] := hS4
    refine rw_nil ?_
    refine cw_seq ?_
    refine cw_region ?_
    refine sq 21 rfl rfl (Y_fieldAddr (B := some ⟨b1, 0, none⟩) (i := 0) (s := 0) k_fd_44_0_0_3 k_sz_3_1 rfl rfl) ?_
    refine sq 22 rfl rfl (Y_load1 (B := some ⟨b1, 0, none⟩) (i := 0) (cs := [.int .i64 x.Mask, .int .i64 x.Turn]) (v := .int .i64 x.Mask) k_sc_3 rfl rfl (hS4.cf (i := 1) rfl) rfl) ?_
    refine sq 23 rfl rfl (Y_move (v := .int .i64 y) rfl (hf.get 1 0 rfl)) ?_
    refine sq 24 rfl rfl (Y_conv (k := .i64) (a := y) (T := 3) (T' := 59) k_us_3 k_int_59_u64 rfl rfl) ?_
    obtain ⟨hsh, hb⟩ := chk_inv hb
    refine sq 25 rfl rfl (Y_shr (k := .i64) (a := x.Mask) (k' := .u64) (b := (IntKind.u64.wrap y)) rfl rfl rfl hsh) ?_
    refine sq 26 rfl rfl (Y_band (k := .i64) (a := (shrK .i64 x.Mask (IntKind.u64.wrap y))) (b := 1) rfl rfl rfl) ?_
    refine sq 27 rfl rfl (Y_eq (k := .i64) (a := (bits .and .i64 (shrK .i64 x.Mask (IntKind.u64.wrap y)) 1)) (b := 1) rfl rfl rfl) ?_
    refine rw_nil ?_
    refine cw_cond (b := ((bits .and .i64 (shrK .i64 x.Mask (IntKind.u64.wrap y)) 1) == 1)) rfl (fun hb1 => ?_) (fun hb1 => ?_)
    · skip
      have hF2 := ct hb hb1
      refine cw_seq ?_
      refine cw_region ?_
      refine sq 4 rfl rfl (Y_assign (v := .int .i64 0) rfl rfl) ?_
      refine sq 5 rfl rfl (Y_assign (v := .int .i64 0) rfl rfl) ?_
      refine sq 6 rfl rfl (Y_assign (v := .int .i64 0) rfl rfl) ?_
      refine rw_nil ?_
      refine cw_ret ?_
      obtain rfl := some_inj hF2
      obtain rfl := some_inj hL1
      obtain ⟨rfl, rfl, rfl⟩ := pr3 (some_inj hF1)
      exact ret3 Tryd.results36 (v1 := .int .i64 0) (resAt_tmp rfl) (v2 := .int .i64 0) (resAt_tmp rfl) (v3 := .int .i64 0) (resAt_tmp rfl) ⟨rfl, (ST.subR (R' := []) (hS4.sel [] rfl rfl) (fun _ h => by cases h))⟩
    · skip
      have hF3 := cf' hb hb1
      refine cw_skip ?_
      refine cw_region ?_
      refine sq 28 rfl rfl (Y_add (k := .i64) (a := (i : Int)) (b := 1) rfl (hf.get 17 6 rfl) rfl) ?_
      refine sq 17 rfl rfl (Y_move (v := .int .i64 (IntKind.i64.wrap ((i : Int) + 1))) rfl rfl) ?_
      refine rw_nil ?_
      obtain rfl := some_inj hF3
      exact ⟨k_1, Nat.lt_succ_self _, i + 1, (FF.cons (hf.get 1 0 rfl) (FF.cons (hf.get 2 1 rfl) (FF.cons (hf.get 7 2 rfl) (FF.cons (hf.get 8 3 rfl) (FF.cons (hf.get 15 4 rfl) (FF.cons (hf.get 16 5 rfl) (FF.cons (congrArg (Value.int .i64) (wr_succ hlt1 hN)) FF.nil))))))), (hS4.sel [0] rfl rfl), (by omega), hL1⟩
  · skip
    obtain rfl : k_ = 0 := by have h := of_decide_eq_false hlt; omega
    refine cw_exit rfl ?_
    obtain rfl := some_inj hL
    refine cw_seq ?_
    refine cw_seq ?_
    refine cw_region ?_
    refine sq 29 rfl rfl (Y_fieldAddr (B := some ⟨b, 0, none⟩) (i := 0) (s := 0) k_fd_30_4_4_27 k_sz_27_1 rfl (hf.get 2 1 rfl)) ?_
    refine sq 30 rfl rfl (Y_load1 (B := some ⟨b, 0, none⟩) (i := 4) (cs := [.int .i64 p.Ins, .int .i64 p.Vars, .int .i64 p.Root, .int .i64 p.Phase, .slice B p.Terms.length c, .slice B1 p.Out.length c1]) (v := .slice B p.Terms.length c) k_sc_27 rfl rfl (hS2.cf (i := 0) rfl) rfl) ?_
    refine sq 31 rfl rfl (Y_len (B := B) (m := p.Terms.length) (c := c) k_sl_27_56 rfl rfl) ?_
    refine sq 32 rfl rfl (Y_move (v := .int .i64 0) rfl rfl) ?_
    refine rw_nil ?_
    obtain ⟨hN1, hF1⟩ := chk_inv hF1
    obtain ⟨z1, hz1, hF4⟩ := bind_inv hF1
    refine cw_block ?_
    refine cw_loop (fun k f w => ∃ (i1 : Nat) (c2 : Int) (z2 : Int), FF f [(1, .int .i64 y), (2, pt (some ⟨b, 0, none⟩) 0), (7, .int .i64 c2), (8, .int .i64 z2), (30, .slice B p.Terms.length c), (31, .int .i64 (p.Terms.length : Int)), (32, .int .i64 (i1 : Int))] ∧ ST w0 [] w [⟨some ⟨b, 0, none⟩, 30, [.int .i64 p.Ins, .int .i64 p.Vars, .int .i64 p.Root, .int .i64 p.Phase, .slice B p.Terms.length c, .slice B1 p.Out.length c1], 6⟩] [⟨B, (p.Terms.flatMap enc_Term)⟩, ⟨B1, (p.Out.flatMap enc_Affine)⟩] ∧ i1 + k = p.Terms.length ∧ forX (F_spec_l21Rule_l2 p y) k i1 (c2, z2) = some z1) p.Terms.length ⟨0, 0, 0, (FF.cons (hf.get 1 0 rfl) (FF.cons (hf.get 2 1 rfl) (FF.cons (hf.get 7 2 rfl) (FF.cons (hf.get 8 3 rfl) (FF.cons rfl (FF.cons rfl (FF.cons rfl FF.nil))))))), (hS2.sel [0] rfl rfl), Nat.zero_add _, hz1⟩ ?_
    rintro k_2 f w ⟨i1, c2, z2, hf1, hS5, hik1, hL2⟩
    refine cw_seq ?_
    refine cw_region ?_
    refine sq 33 rfl rfl (Y_lt (k := .i64) (a := (i1 : Int)) (b := (p.Terms.length : Int)) rfl (hf1.get 32 6 rfl) (hf1.get 31 5 rfl)) ?_
    refine rw_nil ?_
    refine cw_seq ?_
    refine cw_cond (b := (decide ((i1 : Int) < (p.Terms.length : Int)))) rfl (fun hlt2 => ?_) (fun hlt2 => ?_)
    · skip
      have hlt3 : i1 < p.Terms.length := by have h := of_decide_eq_true hlt2; omega
      obtain ⟨k_3, rfl⟩ : ∃ k2, k_2 = k2 + 1 := ⟨k_2 - 1, by omega⟩
      obtain ⟨y2, hb2, hL3⟩ := forX_go hL2
      unfold F_spec_l21Rule_l2 at hb2
      refine cw_skip ?_
      refine cw_seq ?_
      obtain ⟨z3, hz2, hF5⟩ := bind_inv hb2
      refine cw_mid (fun f w => ∃ (c3 : Int) (z4 : Int), .inl (c3, z4) = z3 ∧ FF f [(1, .int .i64 y), (2, pt (some ⟨b, 0, none⟩) 0), (7, .int .i64 c3), (8, .int .i64 z4), (30, .slice B p.Terms.length c), (31, .int .i64 (p.Terms.length : Int)), (32, .int .i64 (i1 : Int))] ∧ ST w0 [] w [⟨some ⟨b, 0, none⟩, 30, [.int .i64 p.Ins, .int .i64 p.Vars, .int .i64 p.Root, .int .i64 p.Phase, .slice B p.Terms.length c, .slice B1 p.Out.length c1], 6⟩] [⟨B, (p.Terms.flatMap enc_Term)⟩, ⟨B1, (p.Out.flatMap enc_Affine)⟩]) ?_ ?_
      · skip
        refine cw_block ?_
        refine cw_seq ?_
        refine cw_region ?_
        obtain ⟨x1, hx1, hz2⟩ := bind_inv hz2
        refine sq 34 rfl rfl (Y_index (B := B) (m := p.Terms.length) (c := c) (k := .i64) (i := (i1 : Int)) k_sl_27_56 k_sz_56_2 rfl (hf1.get 30 4 rfl) (hf1.get 32 6 rfl) (gi_isSome enc_Term_len rfl (hS5.rf (i := 0) rfl) hx1) (getI_nn hx1) (getI_ltI hx1 rfl)) ?_
        refine sq 35 rfl rfl (Y_loadA (B := B) (i := (i1 : Int).toNat * 2) (cs := (p.Terms.flatMap enc_Term)) (vs := [.int .i64 x1.Mask, .int .i64 x1.Coef]) k_ag_56 k_sz_56_2 rfl rfl (hS5.rf (i := 0) rfl) (enc_Term_len x1) (gi_seg enc_Term_len hx1)) ?_
        refine ss 12 rfl rfl (Ys_alloc (T := 56) (cs := [.int .i64 0, .int .i64 0]) (m := 2) hS5 k_zero_56 rfl rfl rfl) ?_
        rintro _ w_3 ⟨b2, rfl, hS7⟩
        have hS7 : ST w0 [] _ [⟨some ⟨b, 0, none⟩, 30, [.int .i64 p.Ins, .int .i64 p.Vars, .int .i64 p.Root, .int .i64 p.Phase, .slice B p.Terms.length c, .slice B1 p.Out.length c1], 6⟩, ⟨some ⟨b2, 0, none⟩, 56, [.int .i64 0, .int .i64 0], 2⟩] [⟨B, (p.Terms.flatMap enc_Term)⟩, ⟨B1, (p.Out.flatMap enc_Affine)⟩] := hS7
        refine ss0 rfl rfl (Ys_store (i := 1) (s := 2) (B := some ⟨b2, 0, none⟩) (T' := 56) (v := .agg #[.int .i64 x1.Mask, .int .i64 x1.Coef]) (vs := [.int .i64 x1.Mask, .int .i64 x1.Coef]) (k := 0) (cs' := [.int .i64 x1.Mask, .int .i64 x1.Coef]) hS7 k_sz_56_2 rfl rfl rfl rfl rfl rfl rfl (Nat.le_of_ble_eq_true rfl) rfl rfl) ?_
        rintro _ w_4 ⟨rfl, hS8⟩
        have hS8 : ST w0 [] _ [⟨some ⟨b, 0, none⟩, 30, [.int .i64 p.Ins, .int .i64 p.Vars, .int .i64 p.Root, .int .i64 p.Phase, .slice B p.Terms.length c, .slice B1 p.Out.length c1], 6⟩, ⟨some ⟨b2, 0, none⟩, 56, [.int .i64 x1.Mask, .int .i64 x1.Coef], 2⟩] [⟨B, (p.Terms.flatMap enc_Term)⟩, ⟨B1, (p.Out.flatMap enc_Affine)⟩] := hS8
        refine rw_nil ?_
        refine cw_seq ?_
        refine cw_seq ?_
        refine cw_region ?_
        refine sq 36 rfl rfl (Y_fieldAddr (B := some ⟨b2, 0, none⟩) (i := 0) (s := 0) k_fd_56_0_0_3 k_sz_3_1 rfl rfl) ?_
        refine sq 37 rfl rfl (Y_load1 (B := some ⟨b2, 0, none⟩) (i := 0) (cs := [.int .i64 x1.Mask, .int .i64 x1.Coef]) (v := .int .i64 x1.Mask) k_sc_3 rfl rfl (hS8.cf (i := 1) rfl) rfl) ?_
        refine sq 38 rfl rfl (Y_move (v := .int .i64 y) rfl (hf1.get 1 0 rfl)) ?_
        refine sq 39 rfl rfl (Y_conv (k := .i64) (a := y) (T := 3) (T' := 59) k_us_3 k_int_59_u64 rfl rfl) ?_
        obtain ⟨hsh1, hz2⟩ := chk_inv hz2
        refine sq 40 rfl rfl (Y_shr (k := .i64) (a := x1.Mask) (k' := .u64) (b := (IntKind.u64.wrap y)) rfl rfl rfl hsh1) ?_
        refine sq 41 rfl rfl (Y_band (k := .i64) (a := (shrK .i64 x1.Mask (IntKind.u64.wrap y))) (b := 1) rfl rfl rfl) ?_
        refine sq 42 rfl rfl (Y_eq (k := .i64) (a := (bits .and .i64 (shrK .i64 x1.Mask (IntKind.u64.wrap y)) 1)) (b := 0) rfl rfl rfl) ?_
        refine rw_nil ?_
        refine cw_cond (b := ((bits .and .i64 (shrK .i64 x1.Mask (IntKind.u64.wrap y)) 1) == 0)) rfl (fun hb3 => ?_) (fun hb3 => ?_)
        · skip
          have hF6 := ct hz2 hb3
          refine cw_exit rfl ?_
          exact ⟨c2, z2, (some_inj hF6), (FF.cons (hf1.get 1 0 rfl) (FF.cons (hf1.get 2 1 rfl) (FF.cons (hf1.get 7 2 rfl) (FF.cons (hf1.get 8 3 rfl) (FF.cons (hf1.get 30 4 rfl) (FF.cons (hf1.get 31 5 rfl) (FF.cons (hf1.get 32 6 rfl) FF.nil))))))), (hS8.sel [0] rfl rfl)⟩
        · skip
          have hF7 := cf' hz2 hb3
          refine cw_skip ?_
          refine cw_seq ?_
          refine cw_region ?_
          refine sq 43 rfl rfl (Y_fieldAddr (B := some ⟨b2, 0, none⟩) (i := 0) (s := 0) k_fd_56_0_0_3 k_sz_3_1 rfl rfl) ?_
          refine sq 44 rfl rfl (Y_load1 (B := some ⟨b2, 0, none⟩) (i := 0) (cs := [.int .i64 x1.Mask, .int .i64 x1.Coef]) (v := .int .i64 x1.Mask) k_sc_3 rfl rfl (hS8.cf (i := 1) rfl) rfl) ?_
          refine sq 45 rfl rfl (Y_move (v := .int .i64 y) rfl (hf1.get 1 0 rfl)) ?_
          refine sq 46 rfl rfl (Y_conv (k := .i64) (a := y) (T := 3) (T' := 59) k_us_3 k_int_59_u64 rfl rfl) ?_
          obtain ⟨hsh2, hF7⟩ := chk_inv hF7
          refine sq 47 rfl rfl (Y_shl (k := .i64) (a := 1) (k' := .u64) (b := (IntKind.u64.wrap y)) rfl rfl rfl hsh2) ?_
          refine sq 48 rfl rfl (Y_bxor (k := .i64) (a := x1.Mask) (b := (shlK .i64 1 (IntKind.u64.wrap y))) rfl rfl rfl) ?_
          refine sq 13 rfl rfl (Y_assign (v := .int .i64 (bits .xor .i64 x1.Mask (shlK .i64 1 (IntKind.u64.wrap y)))) rfl rfl) ?_
          refine rw_nil ?_
          refine cw_block ?_
          refine cw_seq ?_
          refine cw_region ?_
          refine sq 50 rfl rfl (Y_move (v := .int .i64 (bits .xor .i64 x1.Mask (shlK .i64 1 (IntKind.u64.wrap y)))) rfl rfl) ?_
          refine sq 51 rfl rfl (Y_eq (k := .i64) (a := (bits .xor .i64 x1.Mask (shlK .i64 1 (IntKind.u64.wrap y)))) (b := 0) rfl rfl rfl) ?_
          refine sq 49 rfl rfl (Y_assign (v := .bool ((bits .xor .i64 x1.Mask (shlK .i64 1 (IntKind.u64.wrap y))) == 0)) rfl rfl) ?_
          refine rw_nil ?_
          refine cw_cond (b := ((bits .xor .i64 x1.Mask (shlK .i64 1 (IntKind.u64.wrap y))) == 0)) rfl (fun hb4 => ?_) (fun hb4 => ?_)
          · skip
            have hF8 := ct hF7 hb4
            refine cw_region ?_
            refine sq 52 rfl rfl (Y_fieldAddr (B := some ⟨b2, 0, none⟩) (i := 0) (s := 0) k_fd_56_1_1_3 k_sz_3_1 rfl rfl) ?_
            refine sq 53 rfl rfl (Y_load1 (B := some ⟨b2, 0, none⟩) (i := 1) (cs := [.int .i64 x1.Mask, .int .i64 x1.Coef]) (v := .int .i64 x1.Coef) k_sc_3 rfl rfl (hS8.cf (i := 1) rfl) rfl) ?_
            refine sq 7 rfl rfl (Y_assign (v := .int .i64 x1.Coef) rfl rfl) ?_
            refine rw_nil ?_
            exact ⟨x1.Coef, z2, (some_inj hF8), (FF.cons (hf1.get 1 0 rfl) (FF.cons (hf1.get 2 1 rfl) (FF.cons rfl (FF.cons (hf1.get 8 3 rfl) (FF.cons (hf1.get 30 4 rfl) (FF.cons (hf1.get 31 5 rfl) (FF.cons (hf1.get 32 6 rfl) FF.nil))))))), (hS8.sel [0] rfl rfl)⟩
          · skip
            have hF9 := cf' hF7 hb4
            refine cw_seq ?_
            refine cw_region ?_
            refine sq 55 rfl rfl (Y_move (v := .int .i64 (bits .xor .i64 x1.Mask (shlK .i64 1 (IntKind.u64.wrap y)))) rfl rfl) ?_
            obtain ⟨r_3, hc, hF9⟩ := bind_inv hF9
            refine sc 56 rfl rfl (Yc_func (g := 35) (vs := [.int .i64 (bits .xor .i64 x1.Mask (shlK .i64 1 (IntKind.u64.wrap y)))]) k_call_35 rfl (mc rfl mn) (c_spec_l1Set (bits .xor .i64 x1.Mask (shlK .i64 1 (IntKind.u64.wrap y))) _  (hS8.inn0 [] rfl) hc)) ?_
            rintro _ w_5 ⟨B2, c4, rfl, hd⟩
            have hS9 := hS8.out0 hd
            have hS9 : ST w0 [] _ [⟨some ⟨b, 0, none⟩, 30, [.int .i64 p.Ins, .int .i64 p.Vars, .int .i64 p.Root, .int .i64 p.Phase, .slice B p.Terms.length c, .slice B1 p.Out.length c1], 6⟩, ⟨some ⟨b2, 0, none⟩, 56, [.int .i64 x1.Mask, .int .i64 x1.Coef], 2⟩, ⟨B2, 3, (r_3.flatMap encI), c4 * 1⟩] [⟨B, (p.Terms.flatMap enc_Term)⟩, ⟨B1, (p.Out.flatMap enc_Affine)⟩] := hS9
            refine sq 57 rfl rfl (Y_len (B := B2) (m := r_3.length) (c := c4) k_sl_60_3 rfl rfl) ?_
            refine sq 58 rfl rfl (Y_eq (k := .i64) (a := (r_3.length : Int)) (b := 1) rfl rfl rfl) ?_
            refine sq 59 rfl rfl (Y_move (v := .bool ((r_3.length : Int) == 1)) rfl rfl) ?_
            refine sgq 60 (B := ((r_3.length : Int) == 1)) (v := pt (some ⟨b2, 0, none⟩) 1) rfl rfl (wt_t (gd_of (t := 59) (by kernel_rfl) rfl)) (fun hg => (Y_fieldAddr (B := some ⟨b2, 0, none⟩) (i := 0) (s := 0) k_fd_56_1_1_3 k_sz_3_1 rfl rfl)) ?_
            refine sgq 61 (B := ((r_3.length : Int) == 1)) (v := .int .i64 x1.Coef) rfl rfl (wt_t (gd_of (t := 59) (by kernel_rfl) rfl)) (fun hg1 => (Y_load1 (B := some ⟨b2, 0, none⟩) (i := 1) (cs := [.int .i64 x1.Mask, .int .i64 x1.Coef]) (v := .int .i64 x1.Coef) k_sc_3 rfl (gv_of (B := ((r_3.length : Int) == 1)) (v := pt (some ⟨b2, 0, none⟩) 1) hg1) (hS9.cf (i := 1) rfl) rfl)) ?_
            refine sgq 62 (B := ((r_3.length : Int) == 1)) (v := .bool (x1.Coef == 4)) rfl rfl (wt_t (gd_of (t := 59) (by kernel_rfl) rfl)) (fun hg2 => (Y_eq (k := .i64) (a := x1.Coef) (b := 4) rfl (gv_of (B := ((r_3.length : Int) == 1)) (v := .int .i64 x1.Coef) hg2) rfl)) ?_
            refine sq 63 rfl rfl (Y_and (b := ((r_3.length : Int) == 1)) (z := (x1.Coef == 4)) rfl rfl rfl rfl) ?_
            refine sq 54 rfl rfl (Y_assign (v := .bool (((r_3.length : Int) == 1) && (x1.Coef == 4))) rfl rfl) ?_
            refine rw_nil ?_
            refine cw_cond (b := (((r_3.length : Int) == 1) && (x1.Coef == 4))) rfl (fun hb5 => ?_) (fun hb5 => ?_)
            · skip
              have hF10 := ct hF9 hb5
              refine cw_region ?_
              refine sq 64 rfl rfl (Y_move (v := .int .i64 z2) rfl (hf1.get 8 3 rfl)) ?_
              refine sq 65 rfl rfl (Y_move (v := .int .i64 (bits .xor .i64 x1.Mask (shlK .i64 1 (IntKind.u64.wrap y)))) rfl rfl) ?_
              refine sq 66 rfl rfl (Y_bor (k := .i64) (a := z2) (b := (bits .xor .i64 x1.Mask (shlK .i64 1 (IntKind.u64.wrap y)))) rfl rfl rfl) ?_
              refine sq 8 rfl rfl (Y_assign (v := .int .i64 (bits .or .i64 z2 (bits .xor .i64 x1.Mask (shlK .i64 1 (IntKind.u64.wrap y))))) rfl rfl) ?_
              refine rw_nil ?_
              exact ⟨c2, (bits .or .i64 z2 (bits .xor .i64 x1.Mask (shlK .i64 1 (IntKind.u64.wrap y)))), (some_inj hF10), (FF.cons (hf1.get 1 0 rfl) (FF.cons (hf1.get 2 1 rfl) (FF.cons (hf1.get 7 2 rfl) (FF.cons rfl (FF.cons (hf1.get 30 4 rfl) (FF.cons (hf1.get 31 5 rfl) (FF.cons (hf1.get 32 6 rfl) FF.nil))))))), (hS9.sel [0] rfl rfl)⟩
            · skip
              have hF11 := cf' hF9 hb5
              refine cw_seq ?_
              refine cw_region ?_
              refine sq 4 rfl rfl (Y_assign (v := .int .i64 0) rfl rfl) ?_
              refine sq 5 rfl rfl (Y_assign (v := .int .i64 0) rfl rfl) ?_
              refine sq 6 rfl rfl (Y_assign (v := .int .i64 0) rfl rfl) ?_
              refine rw_nil ?_
              refine cw_ret ?_
              obtain rfl := some_inj hF11
              obtain rfl := some_inj hF5
              obtain rfl := some_inj hL3
              obtain ⟨rfl, rfl, rfl⟩ := pr3 (some_inj hF4)
              exact ret3 Tryd.results36 (v1 := .int .i64 0) (resAt_tmp rfl) (v2 := .int .i64 0) (resAt_tmp rfl) (v3 := .int .i64 0) (resAt_tmp rfl) ⟨rfl, (ST.subR (R' := []) (hS9.sel [] rfl rfl) (fun _ h => by cases h))⟩
      rintro f w ⟨c3, z4, rfl, hf2, hS6⟩
      refine cw_region ?_
      refine sq 67 rfl rfl (Y_add (k := .i64) (a := (i1 : Int)) (b := 1) rfl (hf2.get 32 6 rfl) rfl) ?_
      refine sq 32 rfl rfl (Y_move (v := .int .i64 (IntKind.i64.wrap ((i1 : Int) + 1))) rfl rfl) ?_
      refine rw_nil ?_
      obtain rfl := some_inj hF5
      exact ⟨k_3, Nat.lt_succ_self _, i1 + 1, c3, z4, (FF.cons (hf2.get 1 0 rfl) (FF.cons (hf2.get 2 1 rfl) (FF.cons (hf2.get 7 2 rfl) (FF.cons (hf2.get 8 3 rfl) (FF.cons (hf2.get 30 4 rfl) (FF.cons (hf2.get 31 5 rfl) (FF.cons (congrArg (Value.int .i64) (wr_succ hlt3 hN1)) FF.nil))))))), (hS6.sel [0] rfl rfl), (by omega), hL3⟩
    · skip
      obtain rfl : k_2 = 0 := by have h := of_decide_eq_false hlt2; omega
      refine cw_exit rfl ?_
      obtain rfl := some_inj hL2
      refine cw_seq ?_
      refine cw_block ?_
      refine cw_seq ?_
      refine cw_region ?_
      refine sq 69 rfl rfl (Y_move (v := .int .i64 c2) rfl (hf1.get 7 2 rfl)) ?_
      refine sq 70 rfl rfl (Y_eq (k := .i64) (a := c2) (b := 0) rfl rfl rfl) ?_
      refine sq 71 rfl rfl (Y_move (v := .bool (c2 == 0)) rfl rfl) ?_
      refine sgq 72 (B := (c2 == 0)) (v := .int .i64 z2) rfl rfl (wt_t (gd_of (t := 71) (by kernel_rfl) rfl)) (fun hg3 => (Y_move (v := .int .i64 z2) rfl (hf1.get 8 3 rfl))) ?_
      refine sgq 73 (B := (c2 == 0)) (v := .bool (z2 == 0)) rfl rfl (wt_t (gd_of (t := 71) (by kernel_rfl) rfl)) (fun hg4 => (Y_eq (k := .i64) (a := z2) (b := 0) rfl (gv_of (B := (c2 == 0)) (v := .int .i64 z2) hg4) rfl)) ?_
      refine sq 74 rfl rfl (Y_and (b := (c2 == 0)) (z := (z2 == 0)) rfl rfl rfl rfl) ?_
      refine sq 68 rfl rfl (Y_assign (v := .bool ((c2 == 0) && (z2 == 0))) rfl rfl) ?_
      refine rw_nil ?_
      refine cw_cond (b := ((c2 == 0) && (z2 == 0))) rfl (fun hb6 => ?_) (fun hb6 => ?_)
      · skip
        have hF12 := ct hF4 hb6
        refine cw_seq ?_
        refine cw_region ?_
        refine sq 75 rfl rfl (Y_move (v := .int .i64 c2) rfl (hf1.get 7 2 rfl)) ?_
        refine sq 76 rfl rfl (Y_move (v := .int .i64 z2) rfl (hf1.get 8 3 rfl)) ?_
        refine sq 4 rfl rfl (Y_assign (v := .int .i64 1) rfl rfl) ?_
        refine sq 5 rfl rfl (Y_assign (v := .int .i64 c2) rfl rfl) ?_
        refine sq 6 rfl rfl (Y_assign (v := .int .i64 z2) rfl rfl) ?_
        refine rw_nil ?_
        refine cw_ret ?_
        obtain ⟨rfl, rfl, rfl⟩ := pr3 (some_inj hF12)
        exact ret3 Tryd.results36 (v1 := .int .i64 1) (resAt_tmp rfl) (v2 := .int .i64 c2) (resAt_tmp rfl) (v3 := .int .i64 z2) (resAt_tmp rfl) ⟨rfl, (ST.subR (R' := []) (hS5.sel [] rfl rfl) (fun _ h => by cases h))⟩
      · skip
        have hF13 := cf' hF4 hb6
        refine cw_seq ?_
        refine cw_region ?_
        refine sq 78 rfl rfl (Y_move (v := .int .i64 c2) rfl (hf1.get 7 2 rfl)) ?_
        refine sq 79 rfl rfl (Y_eq (k := .i64) (a := c2) (b := 2) rfl rfl rfl) ?_
        refine sq 80 rfl rfl (Y_move (v := .bool (c2 == 2)) rfl rfl) ?_
        refine sgq 81 (B := (!(c2 == 2))) (v := .int .i64 c2) rfl rfl (wt_f (gd_of (t := 80) (by kernel_rfl) rfl)) (fun hg5 => (Y_move (v := .int .i64 c2) rfl (hf1.get 7 2 rfl))) ?_
        refine sgq 82 (B := (!(c2 == 2))) (v := .bool (c2 == 6)) rfl rfl (wt_f (gd_of (t := 80) (by kernel_rfl) rfl)) (fun hg6 => (Y_eq (k := .i64) (a := c2) (b := 6) rfl (gv_of (B := (!(c2 == 2))) (v := .int .i64 c2) hg6) rfl)) ?_
        refine sq 83 rfl rfl (Y_or (b := (c2 == 2)) (z := (c2 == 6)) rfl rfl rfl rfl) ?_
        refine sq 77 rfl rfl (Y_assign (v := .bool ((c2 == 2) || (c2 == 6))) rfl rfl) ?_
        refine rw_nil ?_
        refine cw_cond (b := ((c2 == 2) || (c2 == 6))) rfl (fun hb7 => ?_) (fun hb7 => ?_)
        · skip
          have hF14 := ct hF13 hb7
          refine cw_seq ?_
          refine cw_region ?_
          refine sq 84 rfl rfl (Y_move (v := .int .i64 c2) rfl (hf1.get 7 2 rfl)) ?_
          refine sq 85 rfl rfl (Y_move (v := .int .i64 z2) rfl (hf1.get 8 3 rfl)) ?_
          refine sq 4 rfl rfl (Y_assign (v := .int .i64 2) rfl rfl) ?_
          refine sq 5 rfl rfl (Y_assign (v := .int .i64 c2) rfl rfl) ?_
          refine sq 6 rfl rfl (Y_assign (v := .int .i64 z2) rfl rfl) ?_
          refine rw_nil ?_
          refine cw_ret ?_
          obtain ⟨rfl, rfl, rfl⟩ := pr3 (some_inj hF14)
          exact ret3 Tryd.results36 (v1 := .int .i64 2) (resAt_tmp rfl) (v2 := .int .i64 c2) (resAt_tmp rfl) (v3 := .int .i64 z2) (resAt_tmp rfl) ⟨rfl, (ST.subR (R' := []) (hS5.sel [] rfl rfl) (fun _ h => by cases h))⟩
        · skip
          have hF15 := cf' hF13 hb7
          refine cw_seq ?_
          refine cw_region ?_
          refine sq 87 rfl rfl (Y_move (v := .int .i64 c2) rfl (hf1.get 7 2 rfl)) ?_
          refine sq 88 rfl rfl (Y_eq (k := .i64) (a := c2) (b := 0) rfl rfl rfl) ?_
          refine sq 89 rfl rfl (Y_move (v := .bool (c2 == 0)) rfl rfl) ?_
          refine sgq 90 (B := (!(c2 == 0))) (v := .int .i64 c2) rfl rfl (wt_f (gd_of (t := 89) (by kernel_rfl) rfl)) (fun hg7 => (Y_move (v := .int .i64 c2) rfl (hf1.get 7 2 rfl))) ?_
          refine sgq 91 (B := (!(c2 == 0))) (v := .bool (c2 == 4)) rfl rfl (wt_f (gd_of (t := 89) (by kernel_rfl) rfl)) (fun hg8 => (Y_eq (k := .i64) (a := c2) (b := 4) rfl (gv_of (B := (!(c2 == 0))) (v := .int .i64 c2) hg8) rfl)) ?_
          refine sq 92 rfl rfl (Y_or (b := (c2 == 0)) (z := (c2 == 4)) rfl rfl rfl rfl) ?_
          refine sq 93 rfl rfl (Y_move (v := .bool ((c2 == 0) || (c2 == 4))) rfl rfl) ?_
          refine sgq 94 (B := ((c2 == 0) || (c2 == 4))) (v := .int .i64 z2) rfl rfl (wt_t (gd_of (t := 93) (by kernel_rfl) rfl)) (fun hg9 => (Y_move (v := .int .i64 z2) rfl (hf1.get 8 3 rfl))) ?_
          refine sgq 95 (B := ((c2 == 0) || (c2 == 4))) (v := pt (some ⟨b, 0, none⟩) 0) rfl rfl (wt_t (gd_of (t := 93) (by kernel_rfl) rfl)) (fun hg10 => (Y_fieldAddr (B := some ⟨b, 0, none⟩) (i := 0) (s := 0) k_fd_30_0_0_3 k_sz_3_1 rfl (hf1.get 2 1 rfl))) ?_
          refine sgq 96 (B := ((c2 == 0) || (c2 == 4))) (v := .int .i64 p.Ins) rfl rfl (wt_t (gd_of (t := 93) (by kernel_rfl) rfl)) (fun hg11 => (Y_load1 (B := some ⟨b, 0, none⟩) (i := 0) (cs := [.int .i64 p.Ins, .int .i64 p.Vars, .int .i64 p.Root, .int .i64 p.Phase, .slice B p.Terms.length c, .slice B1 p.Out.length c1]) (v := .int .i64 p.Ins) k_sc_3 rfl (gv_of (B := ((c2 == 0) || (c2 == 4))) (v := pt (some ⟨b, 0, none⟩) 0) hg11) (hS5.cf (i := 0) rfl) rfl)) ?_
          refine sgq 97 (B := ((c2 == 0) || (c2 == 4))) (v := .int .u64 (IntKind.u64.wrap p.Ins)) rfl rfl (wt_t (gd_of (t := 93) (by kernel_rfl) rfl)) (fun hg12 => (Y_conv (k := .i64) (a := p.Ins) (T := 3) (T' := 59) k_us_3 k_int_59_u64 rfl (gv_of (B := ((c2 == 0) || (c2 == 4))) (v := .int .i64 p.Ins) hg12))) ?_
          obtain ⟨hsh3, hF15⟩ := chk_inv hF15
          refine sgq 98 (B := ((c2 == 0) || (c2 == 4))) (v := .int .i64 (shrK .i64 z2 (IntKind.u64.wrap p.Ins))) rfl rfl (wt_t (gd_of (t := 93) (by kernel_rfl) rfl)) (fun hg13 => (Y_shr (k := .i64) (a := z2) (k' := .u64) (b := (IntKind.u64.wrap p.Ins)) rfl (gv_of (B := ((c2 == 0) || (c2 == 4))) (v := .int .i64 z2) hg13) (gv_of (B := ((c2 == 0) || (c2 == 4))) (v := .int .u64 (IntKind.u64.wrap p.Ins)) hg13) (hsh3 hg13))) ?_
          refine sgq 99 (B := ((c2 == 0) || (c2 == 4))) (v := .bool (decide (0 < (shrK .i64 z2 (IntKind.u64.wrap p.Ins))))) rfl rfl (wt_t (gd_of (t := 93) (by kernel_rfl) rfl)) (fun hg14 => (Y_gt (k := .i64) (a := (shrK .i64 z2 (IntKind.u64.wrap p.Ins))) (b := 0) rfl (gv_of (B := ((c2 == 0) || (c2 == 4))) (v := .int .i64 (shrK .i64 z2 (IntKind.u64.wrap p.Ins))) hg14) rfl)) ?_
          refine sq 100 rfl rfl (Y_and (b := ((c2 == 0) || (c2 == 4))) (z := (decide (0 < (shrK .i64 z2 (IntKind.u64.wrap p.Ins))))) rfl rfl rfl rfl) ?_
          refine sq 86 rfl rfl (Y_assign (v := .bool (((c2 == 0) || (c2 == 4)) && (decide (0 < (shrK .i64 z2 (IntKind.u64.wrap p.Ins)))))) rfl rfl) ?_
          refine rw_nil ?_
          refine cw_cond (b := (((c2 == 0) || (c2 == 4)) && (decide (0 < (shrK .i64 z2 (IntKind.u64.wrap p.Ins)))))) rfl (fun hb8 => ?_) (fun hb8 => ?_)
          · skip
            have hF16 := ct hF15 hb8
            refine cw_seq ?_
            refine cw_region ?_
            refine sq 101 rfl rfl (Y_move (v := .int .i64 c2) rfl (hf1.get 7 2 rfl)) ?_
            refine sq 102 rfl rfl (Y_move (v := .int .i64 z2) rfl (hf1.get 8 3 rfl)) ?_
            refine sq 4 rfl rfl (Y_assign (v := .int .i64 3) rfl rfl) ?_
            refine sq 5 rfl rfl (Y_assign (v := .int .i64 c2) rfl rfl) ?_
            refine sq 6 rfl rfl (Y_assign (v := .int .i64 z2) rfl rfl) ?_
            refine rw_nil ?_
            refine cw_ret ?_
            obtain ⟨rfl, rfl, rfl⟩ := pr3 (some_inj hF16)
            exact ret3 Tryd.results36 (v1 := .int .i64 3) (resAt_tmp rfl) (v2 := .int .i64 c2) (resAt_tmp rfl) (v3 := .int .i64 z2) (resAt_tmp rfl) ⟨rfl, (ST.subR (R' := []) (hS5.sel [] rfl rfl) (fun _ h => by cases h))⟩
          · skip
            have hF17 := cf' hF15 hb8
            refine cw_skip ?_
            refine cw_seq ?_
            refine cw_region ?_
            refine sq 4 rfl rfl (Y_assign (v := .int .i64 0) rfl rfl) ?_
            refine sq 5 rfl rfl (Y_assign (v := .int .i64 0) rfl rfl) ?_
            refine sq 6 rfl rfl (Y_assign (v := .int .i64 0) rfl rfl) ?_
            refine rw_nil ?_
            refine cw_ret ?_
            obtain ⟨rfl, rfl, rfl⟩ := pr3 (some_inj hF17)
            exact ret3 Tryd.results36 (v1 := .int .i64 0) (resAt_tmp rfl) (v2 := .int .i64 0) (resAt_tmp rfl) (v3 := .int .i64 0) (resAt_tmp rfl) ⟨rfl, (ST.subR (R' := []) (hS5.sel [] rfl rfl) (fun _ h => by cases h))⟩

theorem c_spec_l21Drop (mask : Int) (v_ : Int)  (w0 : World)  (hS : ST w0 [] w0 [] []) {r_ : Int} (hF : F_spec_l21Drop mask v_ = some r_) :
    CV Tryd.prog 38 #[.int .i64 mask, .int .i64 v_] w0 (fun v w' => v = .int .i64 r_ ∧ ST w0 [] w' [] []) := by
  unfold F_spec_l21Drop at hF
  refine cv_of_cw 20 Tryd.func38 rfl Tryd.ntmps38 rfl ?_
  refine cw_seq ?_
  refine cw_region ?_
  refine sq 4 rfl rfl (Y_assign (v := .int .i64 0) rfl rfl) ?_
  refine rw_nil ?_
  refine cw_seq ?_
  refine cw_region ?_
  refine sq 5 rfl rfl (Y_move (v := .int .i64 mask) rfl rfl) ?_
  refine sq 6 rfl rfl (Y_move (v := .int .i64 v_) rfl rfl) ?_
  refine sq 7 rfl rfl (Y_conv (k := .i64) (a := v_) (T := 3) (T' := 59) k_us_3 k_int_59_u64 rfl rfl) ?_
  obtain ⟨hsh, hF⟩ := chk_inv hF
  refine sq 8 rfl rfl (Y_shl (k := .i64) (a := 1) (k' := .u64) (b := (IntKind.u64.wrap v_)) rfl rfl rfl hsh) ?_
  refine sq 9 rfl rfl (Y_sub (k := .i64) (a := (shlK .i64 1 (IntKind.u64.wrap v_))) (b := 1) rfl rfl rfl) ?_
  refine sq 10 rfl rfl (Y_band (k := .i64) (a := mask) (b := (IntKind.i64.wrap ((shlK .i64 1 (IntKind.u64.wrap v_)) - 1))) rfl rfl rfl) ?_
  refine sq 11 rfl rfl (Y_move (v := .int .i64 mask) rfl rfl) ?_
  refine sq 12 rfl rfl (Y_move (v := .int .i64 v_) rfl rfl) ?_
  refine sq 13 rfl rfl (Y_add (k := .i64) (a := v_) (b := 1) rfl rfl rfl) ?_
  refine sq 14 rfl rfl (Y_conv (k := .i64) (a := (IntKind.i64.wrap (v_ + 1))) (T := 3) (T' := 59) k_us_3 k_int_59_u64 rfl rfl) ?_
  obtain ⟨hsh1, hF⟩ := chk_inv hF
  refine sq 15 rfl rfl (Y_shr (k := .i64) (a := mask) (k' := .u64) (b := (IntKind.u64.wrap (IntKind.i64.wrap (v_ + 1)))) rfl rfl rfl hsh1) ?_
  refine sq 16 rfl rfl (Y_move (v := .int .i64 v_) rfl rfl) ?_
  refine sq 17 rfl rfl (Y_conv (k := .i64) (a := v_) (T := 3) (T' := 59) k_us_3 k_int_59_u64 rfl rfl) ?_
  obtain ⟨hsh2, hF⟩ := chk_inv hF
  refine sq 18 rfl rfl (Y_shl (k := .i64) (a := (shrK .i64 mask (IntKind.u64.wrap (IntKind.i64.wrap (v_ + 1))))) (k' := .u64) (b := (IntKind.u64.wrap v_)) rfl rfl rfl hsh2) ?_
  refine sq 19 rfl rfl (Y_bor (k := .i64) (a := (bits .and .i64 mask (IntKind.i64.wrap ((shlK .i64 1 (IntKind.u64.wrap v_)) - 1)))) (b := (shlK .i64 (shrK .i64 mask (IntKind.u64.wrap (IntKind.i64.wrap (v_ + 1)))) (IntKind.u64.wrap v_))) rfl rfl rfl) ?_
  refine sq 4 rfl rfl (Y_assign (v := .int .i64 (bits .or .i64 (bits .and .i64 mask (IntKind.i64.wrap ((shlK .i64 1 (IntKind.u64.wrap v_)) - 1))) (shlK .i64 (shrK .i64 mask (IntKind.u64.wrap (IntKind.i64.wrap (v_ + 1)))) (IntKind.u64.wrap v_)))) rfl rfl) ?_
  refine rw_nil ?_
  refine cw_ret ?_
  obtain rfl := some_inj hF
  exact ret1 Tryd.results38 (v1 := .int .i64 (bits .or .i64 (bits .and .i64 mask (IntKind.i64.wrap ((shlK .i64 1 (IntKind.u64.wrap v_)) - 1))) (shlK .i64 (shrK .i64 mask (IntKind.u64.wrap (IntKind.i64.wrap (v_ + 1)))) (IntKind.u64.wrap v_)))) (resAt_tmp rfl) ⟨rfl, (ST.subR (R' := []) (hS.sel [] rfl rfl) (fun _ h => by cases h))⟩

theorem c_spec_l21Sum_add (s : Tl21Sum) (mask : Int) (k_ : Int) (B : Option Addr) (B1 : Option Addr) (c n : Nat) (w0 : World) (hn : s.terms.length = n) (hq : n ≤ c) (hS : ST w0 (bl [⟨B, 68, [.int .i64 s.phase, .slice B1 n c], 2⟩, ⟨B1, 56, (s.terms.flatMap enc_Term), c * 2⟩]) w0 [⟨B, 68, [.int .i64 s.phase, .slice B1 n c], 2⟩, ⟨B1, 56, (s.terms.flatMap enc_Term), c * 2⟩] []) {m : Tl21Sum} (hF : F_spec_l21Sum_add s mask k_ = some m) :
    CV Tryd.prog 39 #[pt B 0, .int .i64 mask, .int .i64 k_] w0 (fun v w' => ∃ (B2 : Option Addr) (c1 : Nat), v = .tuple #[] ∧ ST w0 (bl [⟨B, 68, [.int .i64 s.phase, .slice B1 n c], 2⟩, ⟨B1, 56, (s.terms.flatMap enc_Term), c * 2⟩]) w' [⟨B, 68, [.int .i64 m.phase, .slice B2 m.terms.length c1], 2⟩, ⟨B2, 56, (m.terms.flatMap enc_Term), c1 * 2⟩] []) := by
  subst hn
  unfold F_spec_l21Sum_add at hF
  refine cv_of_cw 154 Tryd.func39 rfl Tryd.ntmps39 rfl ?_
  refine cw_seq ?_
  refine cw_region ?_
  refine sq 9 rfl rfl (Y_move (v := .int .i64 k_) rfl rfl) ?_
  refine sq 10 rfl rfl (Y_rem (k := .i64) (a := k_) (b := 8) rfl rfl rfl (by decide)) ?_
  refine sq 11 rfl rfl (Y_add (k := .i64) (a := (Int.tmod k_ 8)) (b := 8) rfl rfl rfl) ?_
  refine sq 12 rfl rfl (Y_rem (k := .i64) (a := (IntKind.i64.wrap ((Int.tmod k_ 8) + 8))) (b := 8) rfl rfl rfl (by decide)) ?_
  refine sq 2 rfl rfl (Y_assign (v := .int .i64 (Int.tmod (IntKind.i64.wrap ((Int.tmod k_ 8) + 8)) 8)) rfl rfl) ?_
  refine rw_nil ?_
  refine cw_seq ?_
  refine cw_seq ?_
  refine cw_region ?_
  refine sq 13 rfl rfl (Y_move (v := .int .i64 mask) rfl rfl) ?_
  refine sq 14 rfl rfl (Y_eq (k := .i64) (a := mask) (b := 0) rfl rfl rfl) ?_
  refine rw_nil ?_
  refine cw_cond (b := (mask == 0)) rfl (fun hb => ?_) (fun hb => ?_)
  · skip
    have hF1 := ct hF hb
    refine cw_seq ?_
    refine cw_region ?_
    refine sq 15 rfl rfl (Y_move (v := pt B 0) rfl rfl) ?_
    refine sq 16 rfl rfl (Y_move (v := pt B 0) rfl rfl) ?_
    refine sq 17 rfl rfl (Y_nilCheck (B := B) (i := 0) rfl rfl) ?_
    refine sq 18 rfl rfl (Y_fieldAddr (B := B) (i := 0) (s := 0) k_fd_68_0_0_3 k_sz_3_1 rfl rfl) ?_
    refine sq 19 rfl rfl (Y_load1 (B := B) (i := 0) (cs := [.int .i64 s.phase, .slice B1 s.terms.length c]) (v := .int .i64 s.phase) k_sc_3 rfl rfl (hS.cf (i := 0) rfl) rfl) ?_
    refine sq 20 rfl rfl (Y_move (v := .int .i64 (Int.tmod (IntKind.i64.wrap ((Int.tmod k_ 8) + 8)) 8)) rfl rfl) ?_
    refine sq 21 rfl rfl (Y_add (k := .i64) (a := s.phase) (b := (Int.tmod (IntKind.i64.wrap ((Int.tmod k_ 8) + 8)) 8)) rfl rfl rfl) ?_
    refine sq 22 rfl rfl (Y_rem (k := .i64) (a := (IntKind.i64.wrap (s.phase + (Int.tmod (IntKind.i64.wrap ((Int.tmod k_ 8) + 8)) 8)))) (b := 8) rfl rfl rfl (by decide)) ?_
    refine sq 23 rfl rfl (Y_nilCheck (B := B) (i := 0) rfl rfl) ?_
    refine sq 24 rfl rfl (Y_fieldAddr (B := B) (i := 0) (s := 0) k_fd_68_0_0_3 k_sz_3_1 rfl rfl) ?_
    refine ss0 rfl rfl (Ys_store (i := 0) (s := 1) (B := B) (T' := 68) (v := .int .i64 (Int.tmod (IntKind.i64.wrap (s.phase + (Int.tmod (IntKind.i64.wrap ((Int.tmod k_ 8) + 8)) 8))) 8)) (vs := [.int .i64 (Int.tmod (IntKind.i64.wrap (s.phase + (Int.tmod (IntKind.i64.wrap ((Int.tmod k_ 8) + 8)) 8))) 8)]) (k := 0) (cs' := [.int .i64 (Int.tmod (IntKind.i64.wrap (s.phase + (Int.tmod (IntKind.i64.wrap ((Int.tmod k_ 8) + 8)) 8))) 8), .slice B1 s.terms.length c]) hS k_sz_3_1 rfl rfl rfl rfl rfl rfl rfl (Nat.le_of_ble_eq_true rfl) rfl rfl) ?_
    rintro _ w_ ⟨rfl, hS1⟩
    have hS1 : ST w0 (bl [⟨B, 68, [.int .i64 s.phase, .slice B1 s.terms.length c], 2⟩, ⟨B1, 56, (s.terms.flatMap enc_Term), c * 2⟩]) _ [⟨B, 68, [.int .i64 (Int.tmod (IntKind.i64.wrap (s.phase + (Int.tmod (IntKind.i64.wrap ((Int.tmod k_ 8) + 8)) 8))) 8), .slice B1 s.terms.length c], 2⟩, ⟨B1, 56, (s.terms.flatMap enc_Term), c * 2⟩] [] := hS1
    refine rw_nil ?_
    refine cw_ret ?_
    obtain rfl := some_inj hF1
    exact ret0 Tryd.results39  ⟨B1, c, rfl, (ST.subR (R' := []) (hS1.sel [0, 1] rfl rfl) (fun _ h => by cases h))⟩
  · skip
    have hF2 := cf' hF hb
    refine cw_skip ?_
    refine cw_seq ?_
    refine cw_seq ?_
    refine cw_region ?_
    refine sq 25 rfl rfl (Y_move (v := .int .i64 (Int.tmod (IntKind.i64.wrap ((Int.tmod k_ 8) + 8)) 8)) rfl rfl) ?_
    refine sq 26 rfl rfl (Y_eq (k := .i64) (a := (Int.tmod (IntKind.i64.wrap ((Int.tmod k_ 8) + 8)) 8)) (b := 0) rfl rfl rfl) ?_
    refine rw_nil ?_
    refine cw_cond (b := ((Int.tmod (IntKind.i64.wrap ((Int.tmod k_ 8) + 8)) 8) == 0)) rfl (fun hb1 => ?_) (fun hb1 => ?_)
    · skip
      have hF3 := ct hF2 hb1
      refine cw_ret ?_
      obtain rfl := some_inj hF3
      exact ret0 Tryd.results39  ⟨B1, c, rfl, (ST.subR (R' := []) (hS.sel [0, 1] rfl rfl) (fun _ h => by cases h))⟩
    · skip
      have hF4 := cf' hF2 hb1
      refine cw_skip ?_
      refine cw_seq ?_
      refine cw_region ?_
      refine sq 6 rfl rfl (Y_assign (v := .int .i64 0) rfl rfl) ?_
      refine rw_nil ?_
      refine cw_seq ?_
      obtain ⟨z, hz, hF5⟩ := bind_inv hF4
      refine cw_block ?_
      refine cw_loop (fun k f w => ∃ (at_ : Int), FF f [(0, pt B 0), (1, .int .i64 mask), (2, .int .i64 (Int.tmod (IntKind.i64.wrap ((Int.tmod k_ 8) + 8)) 8)), (6, .int .i64 at_)] ∧ ST w0 (bl [⟨B, 68, [.int .i64 s.phase, .slice B1 s.terms.length c], 2⟩, ⟨B1, 56, (s.terms.flatMap enc_Term), c * 2⟩]) w [⟨B, 68, [.int .i64 s.phase, .slice B1 s.terms.length c], 2⟩, ⟨B1, 56, (s.terms.flatMap enc_Term), c * 2⟩] [] ∧ whX (F_spec_l21Sum_add_l1 s mask) k at_ = some z) fuel ⟨0, (FF.cons rfl (FF.cons rfl (FF.cons rfl (FF.cons rfl FF.nil)))), (hS.sel [0, 1] rfl rfl), hz⟩ ?_
      rintro k_1 f w ⟨at_, hf, hS2, hL⟩
      obtain ⟨k_2, y, rfl, hb2, hL1⟩ := whX_go hL
      unfold F_spec_l21Sum_add_l1 at hb2
      refine cw_seq ?_
      refine cw_seq ?_
      refine cw_region ?_
      refine sq 27 rfl rfl (Y_move (v := .int .i64 at_) rfl (hf.get 6 3 rfl)) ?_
      refine sq 28 rfl rfl (Y_move (v := pt B 0) rfl (hf.get 0 0 rfl)) ?_
      refine sq 29 rfl rfl (Y_nilCheck (B := B) (i := 0) rfl rfl) ?_
      refine sq 30 rfl rfl (Y_fieldAddr (B := B) (i := 0) (s := 0) k_fd_68_1_1_27 k_sz_27_1 rfl rfl) ?_
      refine sq 31 rfl rfl (Y_load1 (B := B) (i := 1) (cs := [.int .i64 s.phase, .slice B1 s.terms.length c]) (v := .slice B1 s.terms.length c) k_sc_27 rfl rfl (hS2.cf (i := 0) rfl) rfl) ?_
      refine sq 32 rfl rfl (Y_len (B := B1) (m := s.terms.length) (c := c) k_sl_27_56 rfl rfl) ?_
      refine sq 33 rfl rfl (Y_lt (k := .i64) (a := at_) (b := (s.terms.length : Int)) rfl rfl rfl) ?_
      refine sq 34 rfl rfl (Y_move (v := .bool (decide (at_ < (s.terms.length : Int)))) rfl rfl) ?_
      refine sgq 35 (B := (decide (at_ < (s.terms.length : Int)))) (v := pt B 0) rfl rfl (wt_t (gd_of (t := 34) (by kernel_rfl) rfl)) (fun hg => (Y_move (v := pt B 0) rfl (hf.get 0 0 rfl))) ?_
      refine sgq 36 (B := (decide (at_ < (s.terms.length : Int)))) (v := pt B 0) rfl rfl (wt_t (gd_of (t := 34) (by kernel_rfl) rfl)) (fun hg1 => (Y_nilCheck (B := B) (i := 0) rfl (gv_of (B := (decide (at_ < (s.terms.length : Int)))) (v := pt B 0) hg1))) ?_
      refine sgq 37 (B := (decide (at_ < (s.terms.length : Int)))) (v := pt B 1) rfl rfl (wt_t (gd_of (t := 34) (by kernel_rfl) rfl)) (fun hg2 => (Y_fieldAddr (B := B) (i := 0) (s := 0) k_fd_68_1_1_27 k_sz_27_1 rfl (gv_of (B := (decide (at_ < (s.terms.length : Int)))) (v := pt B 0) hg2))) ?_
      refine sgq 38 (B := (decide (at_ < (s.terms.length : Int)))) (v := .slice B1 s.terms.length c) rfl rfl (wt_t (gd_of (t := 34) (by kernel_rfl) rfl)) (fun hg3 => (Y_load1 (B := B) (i := 1) (cs := [.int .i64 s.phase, .slice B1 s.terms.length c]) (v := .slice B1 s.terms.length c) k_sc_27 rfl (gv_of (B := (decide (at_ < (s.terms.length : Int)))) (v := pt B 1) hg3) (hS2.cf (i := 0) rfl) rfl)) ?_
      refine sgq 39 (B := (decide (at_ < (s.terms.length : Int)))) (v := .int .i64 at_) rfl rfl (wt_t (gd_of (t := 34) (by kernel_rfl) rfl)) (fun hg4 => (Y_move (v := .int .i64 at_) rfl (hf.get 6 3 rfl))) ?_
      obtain ⟨x, hx, hb2⟩ := bind_inv hb2
      refine sgq 40 (B := (decide (at_ < (s.terms.length : Int)))) (v := pt B1 (at_.toNat * 2)) rfl rfl (wt_t (gd_of (t := 34) (by kernel_rfl) rfl)) (fun hg5 => (Y_index (B := B1) (m := s.terms.length) (c := c) (k := .i64) (i := at_) k_sl_27_56 k_sz_56_2 rfl (gv_of (B := (decide (at_ < (s.terms.length : Int)))) (v := .slice B1 s.terms.length c) hg5) (gv_of (B := (decide (at_ < (s.terms.length : Int)))) (v := .int .i64 at_) hg5) (gi_isSome enc_Term_len rfl (hS2.cf (i := 1) rfl) (gb_inv hx hg5)) (getI_nn (gb_inv hx hg5)) (getI_ltI (gb_inv hx hg5) rfl))) ?_
      refine sgq 41 (B := (decide (at_ < (s.terms.length : Int)))) (v := pt B1 (at_.toNat * 2 + 0)) rfl rfl (wt_t (gd_of (t := 34) (by kernel_rfl) rfl)) (fun hg6 => (Y_fieldAddr (B := B1) (i := at_.toNat * 2) (s := 0) k_fd_56_0_0_3 k_sz_3_1 rfl (gv_of (B := (decide (at_ < (s.terms.length : Int)))) (v := pt B1 (at_.toNat * 2)) hg6))) ?_
      refine sgq 42 (B := (decide (at_ < (s.terms.length : Int)))) (v := .int .i64 x.Mask) rfl rfl (wt_t (gd_of (t := 34) (by kernel_rfl) rfl)) (fun hg7 => (Y_load1 (B := B1) (i := at_.toNat * 2 + 0) (cs := (s.terms.flatMap enc_Term)) (v := .int .i64 x.Mask) k_sc_3 rfl (gv_of (B := (decide (at_ < (s.terms.length : Int)))) (v := pt B1 (at_.toNat * 2 + 0)) hg7) (hS2.cf (i := 1) rfl) (gi_at enc_Term_len (gb_inv hx hg7) rfl))) ?_
      refine sgq 43 (B := (decide (at_ < (s.terms.length : Int)))) (v := .int .i64 mask) rfl rfl (wt_t (gd_of (t := 34) (by kernel_rfl) rfl)) (fun hg8 => (Y_move (v := .int .i64 mask) rfl (hf.get 1 1 rfl))) ?_
      refine sgq 44 (B := (decide (at_ < (s.terms.length : Int)))) (v := .bool (decide (x.Mask < mask))) rfl rfl (wt_t (gd_of (t := 34) (by kernel_rfl) rfl)) (fun hg9 => (Y_lt (k := .i64) (a := x.Mask) (b := mask) rfl (gv_of (B := (decide (at_ < (s.terms.length : Int)))) (v := .int .i64 x.Mask) hg9) (gv_of (B := (decide (at_ < (s.terms.length : Int)))) (v := .int .i64 mask) hg9))) ?_
      refine sq 45 rfl rfl (Y_and (b := (decide (at_ < (s.terms.length : Int)))) (z := (decide (x.Mask < mask))) rfl rfl rfl rfl) ?_
      refine rw_nil ?_
      refine cw_cond (b := ((decide (at_ < (s.terms.length : Int))) && (decide (x.Mask < mask)))) rfl (fun hb3 => ?_) (fun hb3 => ?_)
      · skip
        have hF6 := ct hb2 hb3
        refine cw_skip ?_
        refine cw_block ?_
        refine cw_region ?_
        refine sq 46 rfl rfl (Y_move (v := .int .i64 at_) rfl (hf.get 6 3 rfl)) ?_
        refine sq 47 rfl rfl (Y_add (k := .i64) (a := at_) (b := 1) rfl rfl rfl) ?_
        refine sq 6 rfl rfl (Y_assign (v := .int .i64 (IntKind.i64.wrap (at_ + 1))) rfl rfl) ?_
        refine rw_nil ?_
        obtain rfl := some_inj hF6
        exact ⟨k_2, Nat.lt_succ_self _, (IntKind.i64.wrap (at_ + 1)), (FF.cons (hf.get 0 0 rfl) (FF.cons (hf.get 1 1 rfl) (FF.cons (hf.get 2 2 rfl) (FF.cons rfl FF.nil)))), (hS2.sel [0, 1] rfl rfl), hL1⟩
      · skip
        have hF7 := cf' hb2 hb3
        refine cw_exit rfl ?_
        obtain rfl := some_inj hF7
        obtain rfl := some_inj hL1
        refine cw_seq ?_
        refine cw_seq ?_
        refine cw_region ?_
        refine sq 48 rfl rfl (Y_move (v := .int .i64 at_) rfl (hf.get 6 3 rfl)) ?_
        refine sq 49 rfl rfl (Y_move (v := pt B 0) rfl (hf.get 0 0 rfl)) ?_
        refine sq 50 rfl rfl (Y_nilCheck (B := B) (i := 0) rfl rfl) ?_
        refine sq 51 rfl rfl (Y_fieldAddr (B := B) (i := 0) (s := 0) k_fd_68_1_1_27 k_sz_27_1 rfl rfl) ?_
        refine sq 52 rfl rfl (Y_load1 (B := B) (i := 1) (cs := [.int .i64 s.phase, .slice B1 s.terms.length c]) (v := .slice B1 s.terms.length c) k_sc_27 rfl rfl (hS2.cf (i := 0) rfl) rfl) ?_
        refine sq 53 rfl rfl (Y_len (B := B1) (m := s.terms.length) (c := c) k_sl_27_56 rfl rfl) ?_
        refine sq 54 rfl rfl (Y_lt (k := .i64) (a := at_) (b := (s.terms.length : Int)) rfl rfl rfl) ?_
        refine sq 55 rfl rfl (Y_move (v := .bool (decide (at_ < (s.terms.length : Int)))) rfl rfl) ?_
        refine sgq 56 (B := (decide (at_ < (s.terms.length : Int)))) (v := pt B 0) rfl rfl (wt_t (gd_of (t := 55) (by kernel_rfl) rfl)) (fun hg10 => (Y_move (v := pt B 0) rfl (hf.get 0 0 rfl))) ?_
        refine sgq 57 (B := (decide (at_ < (s.terms.length : Int)))) (v := pt B 0) rfl rfl (wt_t (gd_of (t := 55) (by kernel_rfl) rfl)) (fun hg11 => (Y_nilCheck (B := B) (i := 0) rfl (gv_of (B := (decide (at_ < (s.terms.length : Int)))) (v := pt B 0) hg11))) ?_
        refine sgq 58 (B := (decide (at_ < (s.terms.length : Int)))) (v := pt B 1) rfl rfl (wt_t (gd_of (t := 55) (by kernel_rfl) rfl)) (fun hg12 => (Y_fieldAddr (B := B) (i := 0) (s := 0) k_fd_68_1_1_27 k_sz_27_1 rfl (gv_of (B := (decide (at_ < (s.terms.length : Int)))) (v := pt B 0) hg12))) ?_
        refine sgq 59 (B := (decide (at_ < (s.terms.length : Int)))) (v := .slice B1 s.terms.length c) rfl rfl (wt_t (gd_of (t := 55) (by kernel_rfl) rfl)) (fun hg13 => (Y_load1 (B := B) (i := 1) (cs := [.int .i64 s.phase, .slice B1 s.terms.length c]) (v := .slice B1 s.terms.length c) k_sc_27 rfl (gv_of (B := (decide (at_ < (s.terms.length : Int)))) (v := pt B 1) hg13) (hS2.cf (i := 0) rfl) rfl)) ?_
        refine sgq 60 (B := (decide (at_ < (s.terms.length : Int)))) (v := .int .i64 at_) rfl rfl (wt_t (gd_of (t := 55) (by kernel_rfl) rfl)) (fun hg14 => (Y_move (v := .int .i64 at_) rfl (hf.get 6 3 rfl))) ?_
        obtain ⟨x1, hx1, hF5⟩ := bind_inv hF5
        refine sgq 61 (B := (decide (at_ < (s.terms.length : Int)))) (v := pt B1 (at_.toNat * 2)) rfl rfl (wt_t (gd_of (t := 55) (by kernel_rfl) rfl)) (fun hg15 => (Y_index (B := B1) (m := s.terms.length) (c := c) (k := .i64) (i := at_) k_sl_27_56 k_sz_56_2 rfl (gv_of (B := (decide (at_ < (s.terms.length : Int)))) (v := .slice B1 s.terms.length c) hg15) (gv_of (B := (decide (at_ < (s.terms.length : Int)))) (v := .int .i64 at_) hg15) (gi_isSome enc_Term_len rfl (hS2.cf (i := 1) rfl) (gb_inv hx1 hg15)) (getI_nn (gb_inv hx1 hg15)) (getI_ltI (gb_inv hx1 hg15) rfl))) ?_
        refine sgq 62 (B := (decide (at_ < (s.terms.length : Int)))) (v := pt B1 (at_.toNat * 2 + 0)) rfl rfl (wt_t (gd_of (t := 55) (by kernel_rfl) rfl)) (fun hg16 => (Y_fieldAddr (B := B1) (i := at_.toNat * 2) (s := 0) k_fd_56_0_0_3 k_sz_3_1 rfl (gv_of (B := (decide (at_ < (s.terms.length : Int)))) (v := pt B1 (at_.toNat * 2)) hg16))) ?_
        refine sgq 63 (B := (decide (at_ < (s.terms.length : Int)))) (v := .int .i64 x1.Mask) rfl rfl (wt_t (gd_of (t := 55) (by kernel_rfl) rfl)) (fun hg17 => (Y_load1 (B := B1) (i := at_.toNat * 2 + 0) (cs := (s.terms.flatMap enc_Term)) (v := .int .i64 x1.Mask) k_sc_3 rfl (gv_of (B := (decide (at_ < (s.terms.length : Int)))) (v := pt B1 (at_.toNat * 2 + 0)) hg17) (hS2.cf (i := 1) rfl) (gi_at enc_Term_len (gb_inv hx1 hg17) rfl))) ?_
        refine sgq 64 (B := (decide (at_ < (s.terms.length : Int)))) (v := .int .i64 mask) rfl rfl (wt_t (gd_of (t := 55) (by kernel_rfl) rfl)) (fun hg18 => (Y_move (v := .int .i64 mask) rfl (hf.get 1 1 rfl))) ?_
        refine sgq 65 (B := (decide (at_ < (s.terms.length : Int)))) (v := .bool (x1.Mask == mask)) rfl rfl (wt_t (gd_of (t := 55) (by kernel_rfl) rfl)) (fun hg19 => (Y_eq (k := .i64) (a := x1.Mask) (b := mask) rfl (gv_of (B := (decide (at_ < (s.terms.length : Int)))) (v := .int .i64 x1.Mask) hg19) (gv_of (B := (decide (at_ < (s.terms.length : Int)))) (v := .int .i64 mask) hg19))) ?_
        refine sq 66 rfl rfl (Y_and (b := (decide (at_ < (s.terms.length : Int)))) (z := (x1.Mask == mask)) rfl rfl rfl rfl) ?_
        refine rw_nil ?_
        refine cw_cond (b := ((decide (at_ < (s.terms.length : Int))) && (x1.Mask == mask))) rfl (fun hb4 => ?_) (fun hb4 => ?_)
        · skip
          have hF8 := ct hF5 hb4
          refine cw_seq ?_
          refine cw_region ?_
          refine sq 67 rfl rfl (Y_move (v := .int .i64 (Int.tmod (IntKind.i64.wrap ((Int.tmod k_ 8) + 8)) 8)) rfl (hf.get 2 2 rfl)) ?_
          refine sq 68 rfl rfl (Y_move (v := pt B 0) rfl (hf.get 0 0 rfl)) ?_
          refine sq 69 rfl rfl (Y_nilCheck (B := B) (i := 0) rfl rfl) ?_
          refine sq 70 rfl rfl (Y_fieldAddr (B := B) (i := 0) (s := 0) k_fd_68_1_1_27 k_sz_27_1 rfl rfl) ?_
          refine sq 71 rfl rfl (Y_load1 (B := B) (i := 1) (cs := [.int .i64 s.phase, .slice B1 s.terms.length c]) (v := .slice B1 s.terms.length c) k_sc_27 rfl rfl (hS2.cf (i := 0) rfl) rfl) ?_
          refine sq 72 rfl rfl (Y_move (v := .int .i64 at_) rfl (hf.get 6 3 rfl)) ?_
          obtain ⟨x2, hx2, hF8⟩ := bind_inv hF8
          refine sq 73 rfl rfl (Y_index (B := B1) (m := s.terms.length) (c := c) (k := .i64) (i := at_) k_sl_27_56 k_sz_56_2 rfl rfl rfl (gi_isSome enc_Term_len rfl (hS2.cf (i := 1) rfl) hx2) (getI_nn hx2) (getI_ltI hx2 rfl)) ?_
          refine sq 74 rfl rfl (Y_fieldAddr (B := B1) (i := at_.toNat * 2) (s := 0) k_fd_56_1_1_3 k_sz_3_1 rfl rfl) ?_
          refine sq 75 rfl rfl (Y_load1 (B := B1) (i := at_.toNat * 2 + 1) (cs := (s.terms.flatMap enc_Term)) (v := .int .i64 x2.Coef) k_sc_3 rfl rfl (hS2.cf (i := 1) rfl) (gi_at enc_Term_len hx2 rfl)) ?_
          refine sq 76 rfl rfl (Y_add (k := .i64) (a := (Int.tmod (IntKind.i64.wrap ((Int.tmod k_ 8) + 8)) 8)) (b := x2.Coef) rfl rfl rfl) ?_
          refine sq 77 rfl rfl (Y_rem (k := .i64) (a := (IntKind.i64.wrap ((Int.tmod (IntKind.i64.wrap ((Int.tmod k_ 8) + 8)) 8) + x2.Coef))) (b := 8) rfl rfl rfl (by decide)) ?_
          refine sq 2 rfl rfl (Y_assign (v := .int .i64 (Int.tmod (IntKind.i64.wrap ((Int.tmod (IntKind.i64.wrap ((Int.tmod k_ 8) + 8)) 8) + x2.Coef)) 8)) rfl rfl) ?_
          refine rw_nil ?_
          refine cw_seq ?_
          refine cw_region ?_
          refine ss 78 rfl rfl (Ys_bslice0 (s := 2) (e := 56) hS2 k_sl_27_56 k_sz_56_2 rfl) ?_
          rintro _ w_1 ⟨b, rfl, hS3⟩
          have hS3 : ST w0 (bl [⟨B, 68, [.int .i64 s.phase, .slice B1 s.terms.length c], 2⟩, ⟨B1, 56, (s.terms.flatMap enc_Term), c * 2⟩]) _ [⟨B, 68, [.int .i64 s.phase, .slice B1 s.terms.length c], 2⟩, ⟨B1, 56, (s.terms.flatMap enc_Term), c * 2⟩, ⟨some ⟨b, 0, none⟩, 56, ([].flatMap enc_Term), 0 * 2⟩] [] := hS3
          refine sq 79 rfl rfl (Y_move (v := pt B 0) rfl (hf.get 0 0 rfl)) ?_
          refine sq 80 rfl rfl (Y_nilCheck (B := B) (i := 0) rfl rfl) ?_
          refine sq 81 rfl rfl (Y_fieldAddr (B := B) (i := 0) (s := 0) k_fd_68_1_1_27 k_sz_27_1 rfl rfl) ?_
          refine sq 82 rfl rfl (Y_load1 (B := B) (i := 1) (cs := [.int .i64 s.phase, .slice B1 s.terms.length c]) (v := .slice B1 s.terms.length c) k_sc_27 rfl rfl (hS3.cf (i := 0) rfl) rfl) ?_
          refine sq 83 rfl rfl (Y_move (v := .int .i64 at_) rfl (hf.get 6 3 rfl)) ?_
          refine sq 84 rfl rfl (Y_add (k := .i64) (a := at_) (b := 1) rfl rfl rfl) ?_
          obtain ⟨hsl, hF8⟩ := chk_inv hF8
          have hcap : s.terms.length ≤ c := (hS3.lencap (i := 1) rfl (fm_lenn (l := s.terms) enc_Term_len rfl) rfl rfl)
          have ho1 : Org w0 (bl [⟨B, 68, [.int .i64 s.phase, .slice B1 s.terms.length c], 2⟩, ⟨B1, 56, (s.terms.flatMap enc_Term), c * 2⟩]) [] [⟨B1, (s.terms.flatMap enc_Term)⟩] := ST.orgOwn hS3 (i := 1) rfl
          have hcap1 : s.terms.length ≤ c := (hS3.lencap (i := 1) rfl (fm_lenn (l := s.terms) enc_Term_len rfl) rfl rfl)
          have hS4 : ST w0 (bl [⟨B, 68, [.int .i64 s.phase, .slice B1 s.terms.length c], 2⟩, ⟨B1, 56, (s.terms.flatMap enc_Term), c * 2⟩]) _ [⟨B, 68, [.int .i64 s.phase, .slice B1 s.terms.length c], 2⟩, ⟨some ⟨b, 0, none⟩, 56, ([].flatMap enc_Term), 0 * 2⟩] [⟨B1, (s.terms.flatMap enc_Term)⟩] := hS3.freeze (i := 1) rfl
          have hv : (List.drop ((IntKind.i64.wrap (at_ + 1)).toNat) s.terms).length = (s.terms.length - (IntKind.i64.wrap (at_ + 1)).toNat) := (drop_len rfl)
          have hq1 : (s.terms.length - (IntKind.i64.wrap (at_ + 1)).toNat) ≤ (c - (IntKind.i64.wrap (at_ + 1)).toNat) := by omega
          have ho : Org w0 (bl [⟨B, 68, [.int .i64 s.phase, .slice B1 s.terms.length c], 2⟩, ⟨B1, 56, (s.terms.flatMap enc_Term), c * 2⟩]) [] [⟨(sv B1 ((IntKind.i64.wrap (at_ + 1)).toNat) c 2), ((List.drop ((IntKind.i64.wrap (at_ + 1)).toNat) s.terms).flatMap enc_Term)⟩] := org_view enc_Term_len (q := c) ho1 rfl (take_all rfl _)
          have hS5 : ST w0 (bl [⟨B, 68, [.int .i64 s.phase, .slice B1 s.terms.length c], 2⟩, ⟨B1, 56, (s.terms.flatMap enc_Term), c * 2⟩]) _ [⟨B, 68, [.int .i64 s.phase, .slice B1 s.terms.length c], 2⟩, ⟨some ⟨b, 0, none⟩, 56, ([].flatMap enc_Term), 0 * 2⟩] [⟨(sv B1 ((IntKind.i64.wrap (at_ + 1)).toNat) c 2), ((List.drop ((IntKind.i64.wrap (at_ + 1)).toNat) s.terms).flatMap enc_Term)⟩, ⟨B1, (s.terms.flatMap enc_Term)⟩] := ST.view enc_Term_len hS4 (i := 0) rfl (lo := (IntKind.i64.wrap (at_ + 1)).toNat) (h := s.terms.length) (q := c) (by omega) (by omega) rfl (take_all rfl _)
          refine sq 85 rfl rfl (Y_slice1 (B := B1) (m := s.terms.length) (c := c) (l := (IntKind.i64.wrap (at_ + 1)).toNat) (h := s.terms.length) (s := 2) k_sl_27_56 k_sz_56_2 rfl rfl rfl (bnd_some rfl (nn_toNat (by omega))) (by omega) (by omega)) ?_
          obtain ⟨hap, hF8⟩ := chk_inv hF8
          refine ss 86 rfl rfl (Ys_append (s := 2) (by' := 16) (i := 1) (nn := 0) (c := 0) (k := (s.terms.length - (IntKind.i64.wrap (at_ + 1)).toNat)) (len := (List.drop ((IntKind.i64.wrap (at_ + 1)).toNat) s.terms).length) (B := some ⟨b, 0, none⟩) (xs := ((List.drop ((IntKind.i64.wrap (at_ + 1)).toNat) s.terms).flatMap enc_Term)) (cs' := ((List.drop ((IntKind.i64.wrap (at_ + 1)).toNat) s.terms).flatMap enc_Term)) hS5 k_sl_27_56 k_sz_56_2 k_by_56_16 k_zero_56 rfl (by decide) rfl rfl rfl rfl (fm_lenn (l := []) enc_Term_len rfl) rfl (hS5.rf (i := 0) rfl) (fm_lenn (l := (List.drop ((IntKind.i64.wrap (at_ + 1)).toNat) s.terms)) enc_Term_len hv) (fm_one' (enc := enc_Term) enc_Term_one (List.drop ((IntKind.i64.wrap (at_ + 1)).toNat) s.terms)) (by have := hap; omega) (by have := hap; simp only [maxLen]; omega) rfl (app_len0 (l := (List.drop ((IntKind.i64.wrap (at_ + 1)).toNat) s.terms)) hv)) ?_
          rintro _ w_2 ⟨B3, c2, rfl, hS6⟩
          have hS6 : ST w0 (bl [⟨B, 68, [.int .i64 s.phase, .slice B1 s.terms.length c], 2⟩, ⟨B1, 56, (s.terms.flatMap enc_Term), c * 2⟩]) _ [⟨B, 68, [.int .i64 s.phase, .slice B1 s.terms.length c], 2⟩, ⟨B3, 56, ((List.drop ((IntKind.i64.wrap (at_ + 1)).toNat) s.terms).flatMap enc_Term), c2 * 2⟩] [⟨(sv B1 ((IntKind.i64.wrap (at_ + 1)).toNat) c 2), ((List.drop ((IntKind.i64.wrap (at_ + 1)).toNat) s.terms).flatMap enc_Term)⟩, ⟨B1, (s.terms.flatMap enc_Term)⟩] := hS6
          refine sq 7 rfl rfl (Y_assign (v := .slice B3 ((List.drop ((IntKind.i64.wrap (at_ + 1)).toNat) s.terms).length) c2) rfl rfl) ?_
          refine rw_nil ?_
          refine cw_seq ?_
          refine cw_region ?_
          refine sq 87 rfl rfl (Y_move (v := pt B 0) rfl (hf.get 0 0 rfl)) ?_
          refine ss 88 rfl rfl (Ys_bslice0 (s := 2) (e := 56) hS6 k_sl_27_56 k_sz_56_2 rfl) ?_
          rintro _ w_3 ⟨b1, rfl, hS7⟩
          have hS7 : ST w0 (bl [⟨B, 68, [.int .i64 s.phase, .slice B1 s.terms.length c], 2⟩, ⟨B1, 56, (s.terms.flatMap enc_Term), c * 2⟩]) _ [⟨B, 68, [.int .i64 s.phase, .slice B1 s.terms.length c], 2⟩, ⟨B3, 56, ((List.drop ((IntKind.i64.wrap (at_ + 1)).toNat) s.terms).flatMap enc_Term), c2 * 2⟩, ⟨some ⟨b1, 0, none⟩, 56, ([].flatMap enc_Term), 0 * 2⟩] [⟨(sv B1 ((IntKind.i64.wrap (at_ + 1)).toNat) c 2), ((List.drop ((IntKind.i64.wrap (at_ + 1)).toNat) s.terms).flatMap enc_Term)⟩, ⟨B1, (s.terms.flatMap enc_Term)⟩] := hS7
          refine sq 89 rfl rfl (Y_move (v := pt B 0) rfl (hf.get 0 0 rfl)) ?_
          refine sq 90 rfl rfl (Y_nilCheck (B := B) (i := 0) rfl rfl) ?_
          refine sq 91 rfl rfl (Y_fieldAddr (B := B) (i := 0) (s := 0) k_fd_68_1_1_27 k_sz_27_1 rfl rfl) ?_
          refine sq 92 rfl rfl (Y_load1 (B := B) (i := 1) (cs := [.int .i64 s.phase, .slice B1 s.terms.length c]) (v := .slice B1 s.terms.length c) k_sc_27 rfl rfl (hS7.cf (i := 0) rfl) rfl) ?_
          refine sq 93 rfl rfl (Y_move (v := .int .i64 at_) rfl (hf.get 6 3 rfl)) ?_
          obtain ⟨hsl1, hF8⟩ := chk_inv hF8
          have hcap2 : s.terms.length ≤ c := hcap1
          have hv1 : (List.take at_.toNat s.terms).length = at_.toNat := (take_len rfl (by omega))
          have hq2 : at_.toNat ≤ c := by omega
          have ho2 : Org w0 (bl [⟨B, 68, [.int .i64 s.phase, .slice B1 s.terms.length c], 2⟩, ⟨B1, 56, (s.terms.flatMap enc_Term), c * 2⟩]) [] [⟨B1, ((List.take at_.toNat s.terms).flatMap enc_Term)⟩] := org_view enc_Term_len (q := c) ho1 (sv_zero _ _ _).symm rfl
          have hS8 : ST w0 (bl [⟨B, 68, [.int .i64 s.phase, .slice B1 s.terms.length c], 2⟩, ⟨B1, 56, (s.terms.flatMap enc_Term), c * 2⟩]) _ [⟨B, 68, [.int .i64 s.phase, .slice B1 s.terms.length c], 2⟩, ⟨B3, 56, ((List.drop ((IntKind.i64.wrap (at_ + 1)).toNat) s.terms).flatMap enc_Term), c2 * 2⟩, ⟨some ⟨b1, 0, none⟩, 56, ([].flatMap enc_Term), 0 * 2⟩] [⟨B1, ((List.take at_.toNat s.terms).flatMap enc_Term)⟩, ⟨(sv B1 ((IntKind.i64.wrap (at_ + 1)).toNat) c 2), ((List.drop ((IntKind.i64.wrap (at_ + 1)).toNat) s.terms).flatMap enc_Term)⟩, ⟨B1, (s.terms.flatMap enc_Term)⟩] := ST.view enc_Term_len hS7 (i := 1) rfl (lo := 0) (h := at_.toNat) (q := c) (by omega) (by omega) (sv_zero _ _ _).symm rfl
          refine sq 94 rfl rfl (Y_slice0 (B := B1) (m := s.terms.length) (c := c) (h := at_.toNat) (s := 2) k_sl_27_56 k_sz_56_2 rfl rfl (bnd_some rfl (nn_toNat (by omega))) (by omega)) ?_
          obtain ⟨hap1, hF8⟩ := chk_inv hF8
          refine ss 95 rfl rfl (Ys_append (s := 2) (by' := 16) (i := 2) (nn := 0) (c := 0) (k := at_.toNat) (len := (List.take at_.toNat s.terms).length) (B := some ⟨b1, 0, none⟩) (xs := ((List.take at_.toNat s.terms).flatMap enc_Term)) (cs' := ((List.take at_.toNat s.terms).flatMap enc_Term)) hS8 k_sl_27_56 k_sz_56_2 k_by_56_16 k_zero_56 rfl (by decide) rfl rfl rfl rfl (fm_lenn (l := []) enc_Term_len rfl) rfl (hS8.rf (i := 0) rfl) (fm_lenn (l := (List.take at_.toNat s.terms)) enc_Term_len hv1) (fm_one' (enc := enc_Term) enc_Term_one (List.take at_.toNat s.terms)) (by have := hap1; omega) (by have := hap1; simp only [maxLen]; omega) rfl (app_len0 (l := (List.take at_.toNat s.terms)) hv1)) ?_
          rintro _ w_4 ⟨B4, c3, rfl, hS9⟩
          have hS9 : ST w0 (bl [⟨B, 68, [.int .i64 s.phase, .slice B1 s.terms.length c], 2⟩, ⟨B1, 56, (s.terms.flatMap enc_Term), c * 2⟩]) _ [⟨B, 68, [.int .i64 s.phase, .slice B1 s.terms.length c], 2⟩, ⟨B3, 56, ((List.drop ((IntKind.i64.wrap (at_ + 1)).toNat) s.terms).flatMap enc_Term), c2 * 2⟩, ⟨B4, 56, ((List.take at_.toNat s.terms).flatMap enc_Term), c3 * 2⟩] [⟨B1, ((List.take at_.toNat s.terms).flatMap enc_Term)⟩, ⟨(sv B1 ((IntKind.i64.wrap (at_ + 1)).toNat) c 2), ((List.drop ((IntKind.i64.wrap (at_ + 1)).toNat) s.terms).flatMap enc_Term)⟩, ⟨B1, (s.terms.flatMap enc_Term)⟩] := hS9
          refine sq 96 rfl rfl (Y_nilCheck (B := B) (i := 0) rfl rfl) ?_
          refine sq 97 rfl rfl (Y_fieldAddr (B := B) (i := 0) (s := 0) k_fd_68_1_1_27 k_sz_27_1 rfl rfl) ?_
          refine ss0 rfl rfl (Ys_store (i := 0) (s := 1) (B := B) (T' := 68) (v := .slice B4 ((List.take at_.toNat s.terms).length) c3) (vs := [.slice B4 ((List.take at_.toNat s.terms).length) c3]) (k := 1) (cs' := [.int .i64 s.phase, .slice B4 ((List.take at_.toNat s.terms).length) c3]) hS9 k_sz_27_1 rfl rfl rfl rfl rfl rfl rfl (Nat.le_of_ble_eq_true rfl) rfl rfl) ?_
          rintro _ w_5 ⟨rfl, hS10⟩
          have hS10 : ST w0 (bl [⟨B, 68, [.int .i64 s.phase, .slice B1 s.terms.length c], 2⟩, ⟨B1, 56, (s.terms.flatMap enc_Term), c * 2⟩]) _ [⟨B, 68, [.int .i64 s.phase, .slice B4 ((List.take at_.toNat s.terms).length) c3], 2⟩, ⟨B3, 56, ((List.drop ((IntKind.i64.wrap (at_ + 1)).toNat) s.terms).flatMap enc_Term), c2 * 2⟩, ⟨B4, 56, ((List.take at_.toNat s.terms).flatMap enc_Term), c3 * 2⟩] [⟨B1, ((List.take at_.toNat s.terms).flatMap enc_Term)⟩, ⟨(sv B1 ((IntKind.i64.wrap (at_ + 1)).toNat) c 2), ((List.drop ((IntKind.i64.wrap (at_ + 1)).toNat) s.terms).flatMap enc_Term)⟩, ⟨B1, (s.terms.flatMap enc_Term)⟩] := hS10
          refine rw_nil ?_
          refine cw_seq ?_
          obtain ⟨z1, hz1, hF9⟩ := bind_inv hF8
          refine cw_mid (fun f w => ∃ (terms : List TTerm) (B5 : Option Addr) (c4 : Nat), terms = z1 ∧ FF f [(0, pt B 0), (7, .slice B3 ((List.drop ((IntKind.i64.wrap (at_ + 1)).toNat) s.terms).length) c2)] ∧ ST w0 (bl [⟨B, 68, [.int .i64 s.phase, .slice B1 s.terms.length c], 2⟩, ⟨B1, 56, (s.terms.flatMap enc_Term), c * 2⟩]) w [⟨B, 68, [.int .i64 s.phase, .slice B5 terms.length c4], 2⟩, ⟨B5, 56, (terms.flatMap enc_Term), c4 * 2⟩, ⟨B3, 56, ((List.drop ((IntKind.i64.wrap (at_ + 1)).toNat) s.terms).flatMap enc_Term), c2 * 2⟩] [⟨B1, ((List.take at_.toNat s.terms).flatMap enc_Term)⟩, ⟨(sv B1 ((IntKind.i64.wrap (at_ + 1)).toNat) c 2), ((List.drop ((IntKind.i64.wrap (at_ + 1)).toNat) s.terms).flatMap enc_Term)⟩, ⟨B1, (s.terms.flatMap enc_Term)⟩]) ?_ ?_
          · skip
            refine cw_seq ?_
            refine cw_region ?_
            refine sq 98 rfl rfl (Y_move (v := .int .i64 (Int.tmod (IntKind.i64.wrap ((Int.tmod (IntKind.i64.wrap ((Int.tmod k_ 8) + 8)) 8) + x2.Coef)) 8)) rfl rfl) ?_
            refine sq 99 rfl rfl (Y_gt (k := .i64) (a := (Int.tmod (IntKind.i64.wrap ((Int.tmod (IntKind.i64.wrap ((Int.tmod k_ 8) + 8)) 8) + x2.Coef)) 8)) (b := 0) rfl rfl rfl) ?_
            refine rw_nil ?_
            refine cw_cond (b := (decide (0 < (Int.tmod (IntKind.i64.wrap ((Int.tmod (IntKind.i64.wrap ((Int.tmod k_ 8) + 8)) 8) + x2.Coef)) 8)))) rfl (fun hb5 => ?_) (fun hb5 => ?_)
            · skip
              have hF10 := ct hz1 hb5
              refine cw_region ?_
              refine sq 100 rfl rfl (Y_move (v := pt B 0) rfl (hf.get 0 0 rfl)) ?_
              refine sq 101 rfl rfl (Y_move (v := pt B 0) rfl (hf.get 0 0 rfl)) ?_
              refine sq 102 rfl rfl (Y_nilCheck (B := B) (i := 0) rfl rfl) ?_
              refine sq 103 rfl rfl (Y_fieldAddr (B := B) (i := 0) (s := 0) k_fd_68_1_1_27 k_sz_27_1 rfl rfl) ?_
              refine sq 104 rfl rfl (Y_load1 (B := B) (i := 1) (cs := [.int .i64 s.phase, .slice B4 ((List.take at_.toNat s.terms).length) c3]) (v := .slice B4 ((List.take at_.toNat s.terms).length) c3) k_sc_27 rfl rfl (hS10.cf (i := 0) rfl) rfl) ?_
              refine sq 105 rfl rfl (Y_move (v := .int .i64 mask) rfl (hf.get 1 1 rfl)) ?_
              refine sq 106 rfl rfl (Y_move (v := .int .i64 (Int.tmod (IntKind.i64.wrap ((Int.tmod (IntKind.i64.wrap ((Int.tmod k_ 8) + 8)) 8) + x2.Coef)) 8)) rfl rfl) ?_
              refine sq 107 rfl rfl (Y_buildS (zs := [.int .i64 0, .int .i64 0]) (vs := [(0, .int .i64 mask), (1, .int .i64 (Int.tmod (IntKind.i64.wrap ((Int.tmod (IntKind.i64.wrap ((Int.tmod k_ 8) + 8)) 8) + x2.Coef)) 8))]) (cs := [.int .i64 mask, .int .i64 (Int.tmod (IntKind.i64.wrap ((Int.tmod (IntKind.i64.wrap ((Int.tmod k_ 8) + 8)) 8) + x2.Coef)) 8)]) k_pl_56 k_zero_56 rfl (mpc rfl (mpc rfl mpn)) rfl) ?_
              refine ss 108 rfl rfl (Ys_bslice (s := 2) (len := 1) (vs := [(0, .agg #[.int .i64 mask, .int .i64 (Int.tmod (IntKind.i64.wrap ((Int.tmod (IntKind.i64.wrap ((Int.tmod k_ 8) + 8)) 8) + x2.Coef)) 8)])]) (cs := [.int .i64 mask, .int .i64 (Int.tmod (IntKind.i64.wrap ((Int.tmod (IntKind.i64.wrap ((Int.tmod k_ 8) + 8)) 8) + x2.Coef)) 8)]) (zs := [.int .i64 0, .int .i64 0]) (m := 2) hS10 k_sl_27_56 k_sz_56_2 k_zc_56 rfl (mpc rfl mpn) rfl rfl rfl (by kernel_rfl) (by kernel_rfl) rfl) ?_
              rintro _ w_6 ⟨b2, rfl, hS12⟩
              have hS12 : ST w0 (bl [⟨B, 68, [.int .i64 s.phase, .slice B1 s.terms.length c], 2⟩, ⟨B1, 56, (s.terms.flatMap enc_Term), c * 2⟩]) _ [⟨B, 68, [.int .i64 s.phase, .slice B4 ((List.take at_.toNat s.terms).length) c3], 2⟩, ⟨B3, 56, ((List.drop ((IntKind.i64.wrap (at_ + 1)).toNat) s.terms).flatMap enc_Term), c2 * 2⟩, ⟨B4, 56, ((List.take at_.toNat s.terms).flatMap enc_Term), c3 * 2⟩, ⟨some ⟨b2, 0, none⟩, 56, ([(TTerm.mk mask (Int.tmod (IntKind.i64.wrap ((Int.tmod (IntKind.i64.wrap ((Int.tmod k_ 8) + 8)) 8) + x2.Coef)) 8))].flatMap enc_Term), 1 * 2⟩] [⟨B1, ((List.take at_.toNat s.terms).flatMap enc_Term)⟩, ⟨(sv B1 ((IntKind.i64.wrap (at_ + 1)).toNat) c 2), ((List.drop ((IntKind.i64.wrap (at_ + 1)).toNat) s.terms).flatMap enc_Term)⟩, ⟨B1, (s.terms.flatMap enc_Term)⟩] := hS12
              obtain ⟨hap2, hF10⟩ := chk_inv hF10
              refine ss 109 rfl rfl (Ys_append (s := 2) (by' := 16) (i := 2) (nn := (List.take at_.toNat s.terms).length) (c := c3) (k := 1) (len := ((List.take at_.toNat s.terms) ++ [(TTerm.mk mask (Int.tmod (IntKind.i64.wrap ((Int.tmod (IntKind.i64.wrap ((Int.tmod k_ 8) + 8)) 8) + x2.Coef)) 8))]).length) (B := B4) (xs := ([(TTerm.mk mask (Int.tmod (IntKind.i64.wrap ((Int.tmod (IntKind.i64.wrap ((Int.tmod k_ 8) + 8)) 8) + x2.Coef)) 8))].flatMap enc_Term)) (cs' := (((List.take at_.toNat s.terms) ++ [(TTerm.mk mask (Int.tmod (IntKind.i64.wrap ((Int.tmod (IntKind.i64.wrap ((Int.tmod k_ 8) + 8)) 8) + x2.Coef)) 8))]).flatMap enc_Term)) hS12 k_sl_27_56 k_sz_56_2 k_by_56_16 k_zero_56 rfl (by decide) rfl rfl rfl rfl (fm_lenn (l := (List.take at_.toNat s.terms)) enc_Term_len rfl) rfl (hS12.cf (i := 3) rfl) (fm_lenn (l := [(TTerm.mk mask (Int.tmod (IntKind.i64.wrap ((Int.tmod (IntKind.i64.wrap ((Int.tmod k_ 8) + 8)) 8) + x2.Coef)) 8))]) enc_Term_len rfl) (fm_one' (enc := enc_Term) enc_Term_one [(TTerm.mk mask (Int.tmod (IntKind.i64.wrap ((Int.tmod (IntKind.i64.wrap ((Int.tmod k_ 8) + 8)) 8) + x2.Coef)) 8))]) (by have := hap2; omega) (by have := hap2; simp only [maxLen]; omega) (fm_app _ _) (app_len (l := (List.take at_.toNat s.terms)) (l' := [(TTerm.mk mask (Int.tmod (IntKind.i64.wrap ((Int.tmod (IntKind.i64.wrap ((Int.tmod k_ 8) + 8)) 8) + x2.Coef)) 8))]) rfl rfl)) ?_
              rintro _ w_7 ⟨B6, c5, rfl, hS13⟩
              have hS13 : ST w0 (bl [⟨B, 68, [.int .i64 s.phase, .slice B1 s.terms.length c], 2⟩, ⟨B1, 56, (s.terms.flatMap enc_Term), c * 2⟩]) _ [⟨B, 68, [.int .i64 s.phase, .slice B4 ((List.take at_.toNat s.terms).length) c3], 2⟩, ⟨B3, 56, ((List.drop ((IntKind.i64.wrap (at_ + 1)).toNat) s.terms).flatMap enc_Term), c2 * 2⟩, ⟨B6, 56, (((List.take at_.toNat s.terms) ++ [(TTerm.mk mask (Int.tmod (IntKind.i64.wrap ((Int.tmod (IntKind.i64.wrap ((Int.tmod k_ 8) + 8)) 8) + x2.Coef)) 8))]).flatMap enc_Term), c5 * 2⟩, ⟨some ⟨b2, 0, none⟩, 56, ([(TTerm.mk mask (Int.tmod (IntKind.i64.wrap ((Int.tmod (IntKind.i64.wrap ((Int.tmod k_ 8) + 8)) 8) + x2.Coef)) 8))].flatMap enc_Term), 1 * 2⟩] [⟨B1, ((List.take at_.toNat s.terms).flatMap enc_Term)⟩, ⟨(sv B1 ((IntKind.i64.wrap (at_ + 1)).toNat) c 2), ((List.drop ((IntKind.i64.wrap (at_ + 1)).toNat) s.terms).flatMap enc_Term)⟩, ⟨B1, (s.terms.flatMap enc_Term)⟩] := hS13
              refine sq 110 rfl rfl (Y_nilCheck (B := B) (i := 0) rfl rfl) ?_
              refine sq 111 rfl rfl (Y_fieldAddr (B := B) (i := 0) (s := 0) k_fd_68_1_1_27 k_sz_27_1 rfl rfl) ?_
              refine ss0 rfl rfl (Ys_store (i := 0) (s := 1) (B := B) (T' := 68) (v := .slice B6 (((List.take at_.toNat s.terms) ++ [(TTerm.mk mask (Int.tmod (IntKind.i64.wrap ((Int.tmod (IntKind.i64.wrap ((Int.tmod k_ 8) + 8)) 8) + x2.Coef)) 8))]).length) c5) (vs := [.slice B6 (((List.take at_.toNat s.terms) ++ [(TTerm.mk mask (Int.tmod (IntKind.i64.wrap ((Int.tmod (IntKind.i64.wrap ((Int.tmod k_ 8) + 8)) 8) + x2.Coef)) 8))]).length) c5]) (k := 1) (cs' := [.int .i64 s.phase, .slice B6 (((List.take at_.toNat s.terms) ++ [(TTerm.mk mask (Int.tmod (IntKind.i64.wrap ((Int.tmod (IntKind.i64.wrap ((Int.tmod k_ 8) + 8)) 8) + x2.Coef)) 8))]).length) c5]) hS13 k_sz_27_1 rfl rfl rfl rfl rfl rfl rfl (Nat.le_of_ble_eq_true rfl) rfl rfl) ?_
              rintro _ w_8 ⟨rfl, hS14⟩
              have hS14 : ST w0 (bl [⟨B, 68, [.int .i64 s.phase, .slice B1 s.terms.length c], 2⟩, ⟨B1, 56, (s.terms.flatMap enc_Term), c * 2⟩]) _ [⟨B, 68, [.int .i64 s.phase, .slice B6 (((List.take at_.toNat s.terms) ++ [(TTerm.mk mask (Int.tmod (IntKind.i64.wrap ((Int.tmod (IntKind.i64.wrap ((Int.tmod k_ 8) + 8)) 8) + x2.Coef)) 8))]).length) c5], 2⟩, ⟨B3, 56, ((List.drop ((IntKind.i64.wrap (at_ + 1)).toNat) s.terms).flatMap enc_Term), c2 * 2⟩, ⟨B6, 56, (((List.take at_.toNat s.terms) ++ [(TTerm.mk mask (Int.tmod (IntKind.i64.wrap ((Int.tmod (IntKind.i64.wrap ((Int.tmod k_ 8) + 8)) 8) + x2.Coef)) 8))]).flatMap enc_Term), c5 * 2⟩, ⟨some ⟨b2, 0, none⟩, 56, ([(TTerm.mk mask (Int.tmod (IntKind.i64.wrap ((Int.tmod (IntKind.i64.wrap ((Int.tmod k_ 8) + 8)) 8) + x2.Coef)) 8))].flatMap enc_Term), 1 * 2⟩] [⟨B1, ((List.take at_.toNat s.terms).flatMap enc_Term)⟩, ⟨(sv B1 ((IntKind.i64.wrap (at_ + 1)).toNat) c 2), ((List.drop ((IntKind.i64.wrap (at_ + 1)).toNat) s.terms).flatMap enc_Term)⟩, ⟨B1, (s.terms.flatMap enc_Term)⟩] := hS14
              refine rw_nil ?_
              exact ⟨((List.take at_.toNat s.terms) ++ [(TTerm.mk mask (Int.tmod (IntKind.i64.wrap ((Int.tmod (IntKind.i64.wrap ((Int.tmod k_ 8) + 8)) 8) + x2.Coef)) 8))]), B6, c5, (some_inj hF10), (FF.cons (hf.get 0 0 rfl) (FF.cons rfl FF.nil)), (hS14.sel [0, 2, 1] rfl rfl)⟩
            · skip
              have hF11 := cf' hz1 hb5
              refine cw_skip ?_
              exact ⟨(List.take at_.toNat s.terms), B4, c3, (some_inj hF11), (FF.cons (hf.get 0 0 rfl) (FF.cons rfl FF.nil)), (hS10.sel [0, 2, 1] rfl rfl)⟩
          rintro f w ⟨terms, B5, c4, rfl, hf1, hS11⟩
          refine cw_seq ?_
          refine cw_region ?_
          refine sq 112 rfl rfl (Y_move (v := pt B 0) rfl (hf1.get 0 0 rfl)) ?_
          refine sq 113 rfl rfl (Y_move (v := pt B 0) rfl (hf1.get 0 0 rfl)) ?_
          refine sq 114 rfl rfl (Y_nilCheck (B := B) (i := 0) rfl rfl) ?_
          refine sq 115 rfl rfl (Y_fieldAddr (B := B) (i := 0) (s := 0) k_fd_68_1_1_27 k_sz_27_1 rfl rfl) ?_
          refine sq 116 rfl rfl (Y_load1 (B := B) (i := 1) (cs := [.int .i64 s.phase, .slice B5 terms.length c4]) (v := .slice B5 terms.length c4) k_sc_27 rfl rfl (hS11.cf (i := 0) rfl) rfl) ?_
          refine sq 117 rfl rfl (Y_move (v := .slice B3 ((List.drop ((IntKind.i64.wrap (at_ + 1)).toNat) s.terms).length) c2) rfl (hf1.get 7 1 rfl)) ?_
          obtain ⟨hap3, hF9⟩ := chk_inv hF9
          refine ss 118 rfl rfl (Ys_append (s := 2) (by' := 16) (i := 1) (nn := terms.length) (c := c4) (k := (List.drop ((IntKind.i64.wrap (at_ + 1)).toNat) s.terms).length) (len := (terms ++ (List.drop ((IntKind.i64.wrap (at_ + 1)).toNat) s.terms)).length) (B := B5) (xs := ((List.drop ((IntKind.i64.wrap (at_ + 1)).toNat) s.terms).flatMap enc_Term)) (cs' := ((terms ++ (List.drop ((IntKind.i64.wrap (at_ + 1)).toNat) s.terms)).flatMap enc_Term)) hS11 k_sl_27_56 k_sz_56_2 k_by_56_16 k_zero_56 rfl (by decide) rfl rfl rfl rfl (fm_lenn (l := terms) enc_Term_len rfl) rfl (hS11.cf (i := 2) rfl) (fm_lenn (l := (List.drop ((IntKind.i64.wrap (at_ + 1)).toNat) s.terms)) enc_Term_len rfl) (fm_one' (enc := enc_Term) enc_Term_one (List.drop ((IntKind.i64.wrap (at_ + 1)).toNat) s.terms)) (by have := hap3; omega) (by have := hap3; simp only [maxLen]; omega) (fm_app _ _) (app_len (l := terms) (l' := (List.drop ((IntKind.i64.wrap (at_ + 1)).toNat) s.terms)) rfl rfl)) ?_
          rintro _ w_9 ⟨B7, c6, rfl, hS15⟩
          have hS15 : ST w0 (bl [⟨B, 68, [.int .i64 s.phase, .slice B1 s.terms.length c], 2⟩, ⟨B1, 56, (s.terms.flatMap enc_Term), c * 2⟩]) _ [⟨B, 68, [.int .i64 s.phase, .slice B5 terms.length c4], 2⟩, ⟨B7, 56, ((terms ++ (List.drop ((IntKind.i64.wrap (at_ + 1)).toNat) s.terms)).flatMap enc_Term), c6 * 2⟩, ⟨B3, 56, ((List.drop ((IntKind.i64.wrap (at_ + 1)).toNat) s.terms).flatMap enc_Term), c2 * 2⟩] [⟨B1, ((List.take at_.toNat s.terms).flatMap enc_Term)⟩, ⟨(sv B1 ((IntKind.i64.wrap (at_ + 1)).toNat) c 2), ((List.drop ((IntKind.i64.wrap (at_ + 1)).toNat) s.terms).flatMap enc_Term)⟩, ⟨B1, (s.terms.flatMap enc_Term)⟩] := hS15
          refine sq 119 rfl rfl (Y_nilCheck (B := B) (i := 0) rfl rfl) ?_
          refine sq 120 rfl rfl (Y_fieldAddr (B := B) (i := 0) (s := 0) k_fd_68_1_1_27 k_sz_27_1 rfl rfl) ?_
          refine ss0 rfl rfl (Ys_store (i := 0) (s := 1) (B := B) (T' := 68) (v := .slice B7 ((terms ++ (List.drop ((IntKind.i64.wrap (at_ + 1)).toNat) s.terms)).length) c6) (vs := [.slice B7 ((terms ++ (List.drop ((IntKind.i64.wrap (at_ + 1)).toNat) s.terms)).length) c6]) (k := 1) (cs' := [.int .i64 s.phase, .slice B7 ((terms ++ (List.drop ((IntKind.i64.wrap (at_ + 1)).toNat) s.terms)).length) c6]) hS15 k_sz_27_1 rfl rfl rfl rfl rfl rfl rfl (Nat.le_of_ble_eq_true rfl) rfl rfl) ?_
          rintro _ w_10 ⟨rfl, hS16⟩
          have hS16 : ST w0 (bl [⟨B, 68, [.int .i64 s.phase, .slice B1 s.terms.length c], 2⟩, ⟨B1, 56, (s.terms.flatMap enc_Term), c * 2⟩]) _ [⟨B, 68, [.int .i64 s.phase, .slice B7 ((terms ++ (List.drop ((IntKind.i64.wrap (at_ + 1)).toNat) s.terms)).length) c6], 2⟩, ⟨B7, 56, ((terms ++ (List.drop ((IntKind.i64.wrap (at_ + 1)).toNat) s.terms)).flatMap enc_Term), c6 * 2⟩, ⟨B3, 56, ((List.drop ((IntKind.i64.wrap (at_ + 1)).toNat) s.terms).flatMap enc_Term), c2 * 2⟩] [⟨B1, ((List.take at_.toNat s.terms).flatMap enc_Term)⟩, ⟨(sv B1 ((IntKind.i64.wrap (at_ + 1)).toNat) c 2), ((List.drop ((IntKind.i64.wrap (at_ + 1)).toNat) s.terms).flatMap enc_Term)⟩, ⟨B1, (s.terms.flatMap enc_Term)⟩] := hS16
          refine rw_nil ?_
          refine cw_ret ?_
          obtain rfl := some_inj hF9
          exact ret0 Tryd.results39  ⟨B7, c6, rfl, (ST.subR (R' := []) (hS16.sel [0, 1] rfl rfl) (fun _ h => by cases h))⟩
        · skip
          have hF12 := cf' hF5 hb4
          refine cw_skip ?_
          refine cw_seq ?_
          refine cw_region ?_
          refine ss 121 rfl rfl (Ys_bslice0 (s := 2) (e := 56) hS2 k_sl_27_56 k_sz_56_2 rfl) ?_
          rintro _ w_11 ⟨b3, rfl, hS17⟩
          have hS17 : ST w0 (bl [⟨B, 68, [.int .i64 s.phase, .slice B1 s.terms.length c], 2⟩, ⟨B1, 56, (s.terms.flatMap enc_Term), c * 2⟩]) _ [⟨B, 68, [.int .i64 s.phase, .slice B1 s.terms.length c], 2⟩, ⟨B1, 56, (s.terms.flatMap enc_Term), c * 2⟩, ⟨some ⟨b3, 0, none⟩, 56, ([].flatMap enc_Term), 0 * 2⟩] [] := hS17
          refine sq 122 rfl rfl (Y_move (v := pt B 0) rfl (hf.get 0 0 rfl)) ?_
          refine sq 123 rfl rfl (Y_nilCheck (B := B) (i := 0) rfl rfl) ?_
          refine sq 124 rfl rfl (Y_fieldAddr (B := B) (i := 0) (s := 0) k_fd_68_1_1_27 k_sz_27_1 rfl rfl) ?_
          refine sq 125 rfl rfl (Y_load1 (B := B) (i := 1) (cs := [.int .i64 s.phase, .slice B1 s.terms.length c]) (v := .slice B1 s.terms.length c) k_sc_27 rfl rfl (hS17.cf (i := 0) rfl) rfl) ?_
          refine sq 126 rfl rfl (Y_move (v := .int .i64 at_) rfl (hf.get 6 3 rfl)) ?_
          obtain ⟨hsl2, hF12⟩ := chk_inv hF12
          have hcap3 : s.terms.length ≤ c := (hS17.lencap (i := 1) rfl (fm_lenn (l := s.terms) enc_Term_len rfl) rfl rfl)
          have ho4 : Org w0 (bl [⟨B, 68, [.int .i64 s.phase, .slice B1 s.terms.length c], 2⟩, ⟨B1, 56, (s.terms.flatMap enc_Term), c * 2⟩]) [] [⟨B1, (s.terms.flatMap enc_Term)⟩] := ST.orgOwn hS17 (i := 1) rfl
          have hcap4 : s.terms.length ≤ c := (hS17.lencap (i := 1) rfl (fm_lenn (l := s.terms) enc_Term_len rfl) rfl rfl)
          have hS18 : ST w0 (bl [⟨B, 68, [.int .i64 s.phase, .slice B1 s.terms.length c], 2⟩, ⟨B1, 56, (s.terms.flatMap enc_Term), c * 2⟩]) _ [⟨B, 68, [.int .i64 s.phase, .slice B1 s.terms.length c], 2⟩, ⟨some ⟨b3, 0, none⟩, 56, ([].flatMap enc_Term), 0 * 2⟩] [⟨B1, (s.terms.flatMap enc_Term)⟩] := hS17.freeze (i := 1) rfl
          have hv2 : (List.drop at_.toNat s.terms).length = (s.terms.length - at_.toNat) := (drop_len rfl)
          have hq3 : (s.terms.length - at_.toNat) ≤ (c - at_.toNat) := by omega
          have ho3 : Org w0 (bl [⟨B, 68, [.int .i64 s.phase, .slice B1 s.terms.length c], 2⟩, ⟨B1, 56, (s.terms.flatMap enc_Term), c * 2⟩]) [] [⟨(sv B1 at_.toNat c 2), ((List.drop at_.toNat s.terms).flatMap enc_Term)⟩] := org_view enc_Term_len (q := c) ho4 rfl (take_all rfl _)
          have hS19 : ST w0 (bl [⟨B, 68, [.int .i64 s.phase, .slice B1 s.terms.length c], 2⟩, ⟨B1, 56, (s.terms.flatMap enc_Term), c * 2⟩]) _ [⟨B, 68, [.int .i64 s.phase, .slice B1 s.terms.length c], 2⟩, ⟨some ⟨b3, 0, none⟩, 56, ([].flatMap enc_Term), 0 * 2⟩] [⟨(sv B1 at_.toNat c 2), ((List.drop at_.toNat s.terms).flatMap enc_Term)⟩, ⟨B1, (s.terms.flatMap enc_Term)⟩] := ST.view enc_Term_len hS18 (i := 0) rfl (lo := at_.toNat) (h := s.terms.length) (q := c) (by omega) (by omega) rfl (take_all rfl _)
          refine sq 127 rfl rfl (Y_slice1 (B := B1) (m := s.terms.length) (c := c) (l := at_.toNat) (h := s.terms.length) (s := 2) k_sl_27_56 k_sz_56_2 rfl rfl rfl (bnd_some rfl (nn_toNat (by omega))) (by omega) (by omega)) ?_
          obtain ⟨hap4, hF12⟩ := chk_inv hF12
          refine ss 128 rfl rfl (Ys_append (s := 2) (by' := 16) (i := 1) (nn := 0) (c := 0) (k := (s.terms.length - at_.toNat)) (len := (List.drop at_.toNat s.terms).length) (B := some ⟨b3, 0, none⟩) (xs := ((List.drop at_.toNat s.terms).flatMap enc_Term)) (cs' := ((List.drop at_.toNat s.terms).flatMap enc_Term)) hS19 k_sl_27_56 k_sz_56_2 k_by_56_16 k_zero_56 rfl (by decide) rfl rfl rfl rfl (fm_lenn (l := []) enc_Term_len rfl) rfl (hS19.rf (i := 0) rfl) (fm_lenn (l := (List.drop at_.toNat s.terms)) enc_Term_len hv2) (fm_one' (enc := enc_Term) enc_Term_one (List.drop at_.toNat s.terms)) (by have := hap4; omega) (by have := hap4; simp only [maxLen]; omega) rfl (app_len0 (l := (List.drop at_.toNat s.terms)) hv2)) ?_
          rintro _ w_12 ⟨B8, c7, rfl, hS20⟩
          have hS20 : ST w0 (bl [⟨B, 68, [.int .i64 s.phase, .slice B1 s.terms.length c], 2⟩, ⟨B1, 56, (s.terms.flatMap enc_Term), c * 2⟩]) _ [⟨B, 68, [.int .i64 s.phase, .slice B1 s.terms.length c], 2⟩, ⟨B8, 56, ((List.drop at_.toNat s.terms).flatMap enc_Term), c7 * 2⟩] [⟨(sv B1 at_.toNat c 2), ((List.drop at_.toNat s.terms).flatMap enc_Term)⟩, ⟨B1, (s.terms.flatMap enc_Term)⟩] := hS20
          refine sq 8 rfl rfl (Y_assign (v := .slice B8 ((List.drop at_.toNat s.terms).length) c7) rfl rfl) ?_
          refine rw_nil ?_
          refine cw_seq ?_
          refine cw_region ?_
          refine sq 129 rfl rfl (Y_move (v := pt B 0) rfl (hf.get 0 0 rfl)) ?_
          refine ss 130 rfl rfl (Ys_bslice0 (s := 2) (e := 56) hS20 k_sl_27_56 k_sz_56_2 rfl) ?_
          rintro _ w_13 ⟨b4, rfl, hS21⟩
          have hS21 : ST w0 (bl [⟨B, 68, [.int .i64 s.phase, .slice B1 s.terms.length c], 2⟩, ⟨B1, 56, (s.terms.flatMap enc_Term), c * 2⟩]) _ [⟨B, 68, [.int .i64 s.phase, .slice B1 s.terms.length c], 2⟩, ⟨B8, 56, ((List.drop at_.toNat s.terms).flatMap enc_Term), c7 * 2⟩, ⟨some ⟨b4, 0, none⟩, 56, ([].flatMap enc_Term), 0 * 2⟩] [⟨(sv B1 at_.toNat c 2), ((List.drop at_.toNat s.terms).flatMap enc_Term)⟩, ⟨B1, (s.terms.flatMap enc_Term)⟩] := hS21
          refine sq 131 rfl rfl (Y_move (v := pt B 0) rfl (hf.get 0 0 rfl)) ?_
          refine sq 132 rfl rfl (Y_nilCheck (B := B) (i := 0) rfl rfl) ?_
          refine sq 133 rfl rfl (Y_fieldAddr (B := B) (i := 0) (s := 0) k_fd_68_1_1_27 k_sz_27_1 rfl rfl) ?_
          refine sq 134 rfl rfl (Y_load1 (B := B) (i := 1) (cs := [.int .i64 s.phase, .slice B1 s.terms.length c]) (v := .slice B1 s.terms.length c) k_sc_27 rfl rfl (hS21.cf (i := 0) rfl) rfl) ?_
          refine sq 135 rfl rfl (Y_move (v := .int .i64 at_) rfl (hf.get 6 3 rfl)) ?_
          obtain ⟨hsl3, hF12⟩ := chk_inv hF12
          have hcap5 : s.terms.length ≤ c := hcap4
          have hv3 : (List.take at_.toNat s.terms).length = at_.toNat := (take_len rfl (by omega))
          have hq4 : at_.toNat ≤ c := by omega
          have ho5 : Org w0 (bl [⟨B, 68, [.int .i64 s.phase, .slice B1 s.terms.length c], 2⟩, ⟨B1, 56, (s.terms.flatMap enc_Term), c * 2⟩]) [] [⟨B1, ((List.take at_.toNat s.terms).flatMap enc_Term)⟩] := org_view enc_Term_len (q := c) ho4 (sv_zero _ _ _).symm rfl
          have hS22 : ST w0 (bl [⟨B, 68, [.int .i64 s.phase, .slice B1 s.terms.length c], 2⟩, ⟨B1, 56, (s.terms.flatMap enc_Term), c * 2⟩]) _ [⟨B, 68, [.int .i64 s.phase, .slice B1 s.terms.length c], 2⟩, ⟨B8, 56, ((List.drop at_.toNat s.terms).flatMap enc_Term), c7 * 2⟩, ⟨some ⟨b4, 0, none⟩, 56, ([].flatMap enc_Term), 0 * 2⟩] [⟨B1, ((List.take at_.toNat s.terms).flatMap enc_Term)⟩, ⟨(sv B1 at_.toNat c 2), ((List.drop at_.toNat s.terms).flatMap enc_Term)⟩, ⟨B1, (s.terms.flatMap enc_Term)⟩] := ST.view enc_Term_len hS21 (i := 1) rfl (lo := 0) (h := at_.toNat) (q := c) (by omega) (by omega) (sv_zero _ _ _).symm rfl
          refine sq 136 rfl rfl (Y_slice0 (B := B1) (m := s.terms.length) (c := c) (h := at_.toNat) (s := 2) k_sl_27_56 k_sz_56_2 rfl rfl (bnd_some rfl (nn_toNat (by omega))) (by omega)) ?_
          obtain ⟨hap5, hF12⟩ := chk_inv hF12
          refine ss 137 rfl rfl (Ys_append (s := 2) (by' := 16) (i := 2) (nn := 0) (c := 0) (k := at_.toNat) (len := (List.take at_.toNat s.terms).length) (B := some ⟨b4, 0, none⟩) (xs := ((List.take at_.toNat s.terms).flatMap enc_Term)) (cs' := ((List.take at_.toNat s.terms).flatMap enc_Term)) hS22 k_sl_27_56 k_sz_56_2 k_by_56_16 k_zero_56 rfl (by decide) rfl rfl rfl rfl (fm_lenn (l := []) enc_Term_len rfl) rfl (hS22.rf (i := 0) rfl) (fm_lenn (l := (List.take at_.toNat s.terms)) enc_Term_len hv3) (fm_one' (enc := enc_Term) enc_Term_one (List.take at_.toNat s.terms)) (by have := hap5; omega) (by have := hap5; simp only [maxLen]; omega) rfl (app_len0 (l := (List.take at_.toNat s.terms)) hv3)) ?_
          rintro _ w_14 ⟨B9, c8, rfl, hS23⟩
          have hS23 : ST w0 (bl [⟨B, 68, [.int .i64 s.phase, .slice B1 s.terms.length c], 2⟩, ⟨B1, 56, (s.terms.flatMap enc_Term), c * 2⟩]) _ [⟨B, 68, [.int .i64 s.phase, .slice B1 s.terms.length c], 2⟩, ⟨B8, 56, ((List.drop at_.toNat s.terms).flatMap enc_Term), c7 * 2⟩, ⟨B9, 56, ((List.take at_.toNat s.terms).flatMap enc_Term), c8 * 2⟩] [⟨B1, ((List.take at_.toNat s.terms).flatMap enc_Term)⟩, ⟨(sv B1 at_.toNat c 2), ((List.drop at_.toNat s.terms).flatMap enc_Term)⟩, ⟨B1, (s.terms.flatMap enc_Term)⟩] := hS23
          refine sq 138 rfl rfl (Y_move (v := .int .i64 mask) rfl (hf.get 1 1 rfl)) ?_
          refine sq 139 rfl rfl (Y_move (v := .int .i64 (Int.tmod (IntKind.i64.wrap ((Int.tmod k_ 8) + 8)) 8)) rfl (hf.get 2 2 rfl)) ?_
          refine sq 140 rfl rfl (Y_buildS (zs := [.int .i64 0, .int .i64 0]) (vs := [(0, .int .i64 mask), (1, .int .i64 (Int.tmod (IntKind.i64.wrap ((Int.tmod k_ 8) + 8)) 8))]) (cs := [.int .i64 mask, .int .i64 (Int.tmod (IntKind.i64.wrap ((Int.tmod k_ 8) + 8)) 8)]) k_pl_56 k_zero_56 rfl (mpc rfl (mpc rfl mpn)) rfl) ?_
          refine ss 141 rfl rfl (Ys_bslice (s := 2) (len := 1) (vs := [(0, .agg #[.int .i64 mask, .int .i64 (Int.tmod (IntKind.i64.wrap ((Int.tmod k_ 8) + 8)) 8)])]) (cs := [.int .i64 mask, .int .i64 (Int.tmod (IntKind.i64.wrap ((Int.tmod k_ 8) + 8)) 8)]) (zs := [.int .i64 0, .int .i64 0]) (m := 2) hS23 k_sl_27_56 k_sz_56_2 k_zc_56 rfl (mpc rfl mpn) rfl rfl rfl (by kernel_rfl) (by kernel_rfl) rfl) ?_
          rintro _ w_15 ⟨b5, rfl, hS24⟩
          have hS24 : ST w0 (bl [⟨B, 68, [.int .i64 s.phase, .slice B1 s.terms.length c], 2⟩, ⟨B1, 56, (s.terms.flatMap enc_Term), c * 2⟩]) _ [⟨B, 68, [.int .i64 s.phase, .slice B1 s.terms.length c], 2⟩, ⟨B8, 56, ((List.drop at_.toNat s.terms).flatMap enc_Term), c7 * 2⟩, ⟨B9, 56, ((List.take at_.toNat s.terms).flatMap enc_Term), c8 * 2⟩, ⟨some ⟨b5, 0, none⟩, 56, ([(TTerm.mk mask (Int.tmod (IntKind.i64.wrap ((Int.tmod k_ 8) + 8)) 8))].flatMap enc_Term), 1 * 2⟩] [⟨B1, ((List.take at_.toNat s.terms).flatMap enc_Term)⟩, ⟨(sv B1 at_.toNat c 2), ((List.drop at_.toNat s.terms).flatMap enc_Term)⟩, ⟨B1, (s.terms.flatMap enc_Term)⟩] := hS24
          obtain ⟨hap6, hF12⟩ := chk_inv hF12
          refine ss 142 rfl rfl (Ys_append (s := 2) (by' := 16) (i := 2) (nn := (List.take at_.toNat s.terms).length) (c := c8) (k := 1) (len := ((List.take at_.toNat s.terms) ++ [(TTerm.mk mask (Int.tmod (IntKind.i64.wrap ((Int.tmod k_ 8) + 8)) 8))]).length) (B := B9) (xs := ([(TTerm.mk mask (Int.tmod (IntKind.i64.wrap ((Int.tmod k_ 8) + 8)) 8))].flatMap enc_Term)) (cs' := (((List.take at_.toNat s.terms) ++ [(TTerm.mk mask (Int.tmod (IntKind.i64.wrap ((Int.tmod k_ 8) + 8)) 8))]).flatMap enc_Term)) hS24 k_sl_27_56 k_sz_56_2 k_by_56_16 k_zero_56 rfl (by decide) rfl rfl rfl rfl (fm_lenn (l := (List.take at_.toNat s.terms)) enc_Term_len rfl) rfl (hS24.cf (i := 3) rfl) (fm_lenn (l := [(TTerm.mk mask (Int.tmod (IntKind.i64.wrap ((Int.tmod k_ 8) + 8)) 8))]) enc_Term_len rfl) (fm_one' (enc := enc_Term) enc_Term_one [(TTerm.mk mask (Int.tmod (IntKind.i64.wrap ((Int.tmod k_ 8) + 8)) 8))]) (by have := hap6; omega) (by have := hap6; simp only [maxLen]; omega) (fm_app _ _) (app_len (l := (List.take at_.toNat s.terms)) (l' := [(TTerm.mk mask (Int.tmod (IntKind.i64.wrap ((Int.tmod k_ 8) + 8)) 8))]) rfl rfl)) ?_
          rintro _ w_16 ⟨B10, c9, rfl, hS25⟩
          have hS25 : ST w0 (bl [⟨B, 68, [.int .i64 s.phase, .slice B1 s.terms.length c], 2⟩, ⟨B1, 56, (s.terms.flatMap enc_Term), c * 2⟩]) _ [⟨B, 68, [.int .i64 s.phase, .slice B1 s.terms.length c], 2⟩, ⟨B8, 56, ((List.drop at_.toNat s.terms).flatMap enc_Term), c7 * 2⟩, ⟨B10, 56, (((List.take at_.toNat s.terms) ++ [(TTerm.mk mask (Int.tmod (IntKind.i64.wrap ((Int.tmod k_ 8) + 8)) 8))]).flatMap enc_Term), c9 * 2⟩, ⟨some ⟨b5, 0, none⟩, 56, ([(TTerm.mk mask (Int.tmod (IntKind.i64.wrap ((Int.tmod k_ 8) + 8)) 8))].flatMap enc_Term), 1 * 2⟩] [⟨B1, ((List.take at_.toNat s.terms).flatMap enc_Term)⟩, ⟨(sv B1 at_.toNat c 2), ((List.drop at_.toNat s.terms).flatMap enc_Term)⟩, ⟨B1, (s.terms.flatMap enc_Term)⟩] := hS25
          refine sq 143 rfl rfl (Y_nilCheck (B := B) (i := 0) rfl rfl) ?_
          refine sq 144 rfl rfl (Y_fieldAddr (B := B) (i := 0) (s := 0) k_fd_68_1_1_27 k_sz_27_1 rfl rfl) ?_
          refine ss0 rfl rfl (Ys_store (i := 0) (s := 1) (B := B) (T' := 68) (v := .slice B10 (((List.take at_.toNat s.terms) ++ [(TTerm.mk mask (Int.tmod (IntKind.i64.wrap ((Int.tmod k_ 8) + 8)) 8))]).length) c9) (vs := [.slice B10 (((List.take at_.toNat s.terms) ++ [(TTerm.mk mask (Int.tmod (IntKind.i64.wrap ((Int.tmod k_ 8) + 8)) 8))]).length) c9]) (k := 1) (cs' := [.int .i64 s.phase, .slice B10 (((List.take at_.toNat s.terms) ++ [(TTerm.mk mask (Int.tmod (IntKind.i64.wrap ((Int.tmod k_ 8) + 8)) 8))]).length) c9]) hS25 k_sz_27_1 rfl rfl rfl rfl rfl rfl rfl (Nat.le_of_ble_eq_true rfl) rfl rfl) ?_
          rintro _ w_17 ⟨rfl, hS26⟩
          have hS26 : ST w0 (bl [⟨B, 68, [.int .i64 s.phase, .slice B1 s.terms.length c], 2⟩, ⟨B1, 56, (s.terms.flatMap enc_Term), c * 2⟩]) _ [⟨B, 68, [.int .i64 s.phase, .slice B10 (((List.take at_.toNat s.terms) ++ [(TTerm.mk mask (Int.tmod (IntKind.i64.wrap ((Int.tmod k_ 8) + 8)) 8))]).length) c9], 2⟩, ⟨B8, 56, ((List.drop at_.toNat s.terms).flatMap enc_Term), c7 * 2⟩, ⟨B10, 56, (((List.take at_.toNat s.terms) ++ [(TTerm.mk mask (Int.tmod (IntKind.i64.wrap ((Int.tmod k_ 8) + 8)) 8))]).flatMap enc_Term), c9 * 2⟩, ⟨some ⟨b5, 0, none⟩, 56, ([(TTerm.mk mask (Int.tmod (IntKind.i64.wrap ((Int.tmod k_ 8) + 8)) 8))].flatMap enc_Term), 1 * 2⟩] [⟨B1, ((List.take at_.toNat s.terms).flatMap enc_Term)⟩, ⟨(sv B1 at_.toNat c 2), ((List.drop at_.toNat s.terms).flatMap enc_Term)⟩, ⟨B1, (s.terms.flatMap enc_Term)⟩] := hS26
          refine rw_nil ?_
          refine cw_region ?_
          refine sq 145 rfl rfl (Y_move (v := pt B 0) rfl (hf.get 0 0 rfl)) ?_
          refine sq 146 rfl rfl (Y_move (v := pt B 0) rfl (hf.get 0 0 rfl)) ?_
          refine sq 147 rfl rfl (Y_nilCheck (B := B) (i := 0) rfl rfl) ?_
          refine sq 148 rfl rfl (Y_fieldAddr (B := B) (i := 0) (s := 0) k_fd_68_1_1_27 k_sz_27_1 rfl rfl) ?_
          refine sq 149 rfl rfl (Y_load1 (B := B) (i := 1) (cs := [.int .i64 s.phase, .slice B10 (((List.take at_.toNat s.terms) ++ [(TTerm.mk mask (Int.tmod (IntKind.i64.wrap ((Int.tmod k_ 8) + 8)) 8))]).length) c9]) (v := .slice B10 (((List.take at_.toNat s.terms) ++ [(TTerm.mk mask (Int.tmod (IntKind.i64.wrap ((Int.tmod k_ 8) + 8)) 8))]).length) c9) k_sc_27 rfl rfl (hS26.cf (i := 0) rfl) rfl) ?_
          refine sq 150 rfl rfl (Y_move (v := .slice B8 ((List.drop at_.toNat s.terms).length) c7) rfl rfl) ?_
          obtain ⟨hap7, hF12⟩ := chk_inv hF12
          refine ss 151 rfl rfl (Ys_append (s := 2) (by' := 16) (i := 2) (nn := ((List.take at_.toNat s.terms) ++ [(TTerm.mk mask (Int.tmod (IntKind.i64.wrap ((Int.tmod k_ 8) + 8)) 8))]).length) (c := c9) (k := (List.drop at_.toNat s.terms).length) (len := (((List.take at_.toNat s.terms) ++ [(TTerm.mk mask (Int.tmod (IntKind.i64.wrap ((Int.tmod k_ 8) + 8)) 8))]) ++ (List.drop at_.toNat s.terms)).length) (B := B10) (xs := ((List.drop at_.toNat s.terms).flatMap enc_Term)) (cs' := ((((List.take at_.toNat s.terms) ++ [(TTerm.mk mask (Int.tmod (IntKind.i64.wrap ((Int.tmod k_ 8) + 8)) 8))]) ++ (List.drop at_.toNat s.terms)).flatMap enc_Term)) hS26 k_sl_27_56 k_sz_56_2 k_by_56_16 k_zero_56 rfl (by decide) rfl rfl rfl rfl (fm_lenn (l := ((List.take at_.toNat s.terms) ++ [(TTerm.mk mask (Int.tmod (IntKind.i64.wrap ((Int.tmod k_ 8) + 8)) 8))])) enc_Term_len rfl) rfl (hS26.cf (i := 1) rfl) (fm_lenn (l := (List.drop at_.toNat s.terms)) enc_Term_len rfl) (fm_one' (enc := enc_Term) enc_Term_one (List.drop at_.toNat s.terms)) (by have := hap7; omega) (by have := hap7; simp only [maxLen]; omega) (fm_app _ _) (app_len (l := ((List.take at_.toNat s.terms) ++ [(TTerm.mk mask (Int.tmod (IntKind.i64.wrap ((Int.tmod k_ 8) + 8)) 8))])) (l' := (List.drop at_.toNat s.terms)) rfl rfl)) ?_
          rintro _ w_18 ⟨B11, c10, rfl, hS27⟩
          have hS27 : ST w0 (bl [⟨B, 68, [.int .i64 s.phase, .slice B1 s.terms.length c], 2⟩, ⟨B1, 56, (s.terms.flatMap enc_Term), c * 2⟩]) _ [⟨B, 68, [.int .i64 s.phase, .slice B10 (((List.take at_.toNat s.terms) ++ [(TTerm.mk mask (Int.tmod (IntKind.i64.wrap ((Int.tmod k_ 8) + 8)) 8))]).length) c9], 2⟩, ⟨B8, 56, ((List.drop at_.toNat s.terms).flatMap enc_Term), c7 * 2⟩, ⟨B11, 56, ((((List.take at_.toNat s.terms) ++ [(TTerm.mk mask (Int.tmod (IntKind.i64.wrap ((Int.tmod k_ 8) + 8)) 8))]) ++ (List.drop at_.toNat s.terms)).flatMap enc_Term), c10 * 2⟩, ⟨some ⟨b5, 0, none⟩, 56, ([(TTerm.mk mask (Int.tmod (IntKind.i64.wrap ((Int.tmod k_ 8) + 8)) 8))].flatMap enc_Term), 1 * 2⟩] [⟨B1, ((List.take at_.toNat s.terms).flatMap enc_Term)⟩, ⟨(sv B1 at_.toNat c 2), ((List.drop at_.toNat s.terms).flatMap enc_Term)⟩, ⟨B1, (s.terms.flatMap enc_Term)⟩] := hS27
          refine sq 152 rfl rfl (Y_nilCheck (B := B) (i := 0) rfl rfl) ?_
          refine sq 153 rfl rfl (Y_fieldAddr (B := B) (i := 0) (s := 0) k_fd_68_1_1_27 k_sz_27_1 rfl rfl) ?_
          refine ss0 rfl rfl (Ys_store (i := 0) (s := 1) (B := B) (T' := 68) (v := .slice B11 ((((List.take at_.toNat s.terms) ++ [(TTerm.mk mask (Int.tmod (IntKind.i64.wrap ((Int.tmod k_ 8) + 8)) 8))]) ++ (List.drop at_.toNat s.terms)).length) c10) (vs := [.slice B11 ((((List.take at_.toNat s.terms) ++ [(TTerm.mk mask (Int.tmod (IntKind.i64.wrap ((Int.tmod k_ 8) + 8)) 8))]) ++ (List.drop at_.toNat s.terms)).length) c10]) (k := 1) (cs' := [.int .i64 s.phase, .slice B11 ((((List.take at_.toNat s.terms) ++ [(TTerm.mk mask (Int.tmod (IntKind.i64.wrap ((Int.tmod k_ 8) + 8)) 8))]) ++ (List.drop at_.toNat s.terms)).length) c10]) hS27 k_sz_27_1 rfl rfl rfl rfl rfl rfl rfl (Nat.le_of_ble_eq_true rfl) rfl rfl) ?_
          rintro _ w_19 ⟨rfl, hS28⟩
          have hS28 : ST w0 (bl [⟨B, 68, [.int .i64 s.phase, .slice B1 s.terms.length c], 2⟩, ⟨B1, 56, (s.terms.flatMap enc_Term), c * 2⟩]) _ [⟨B, 68, [.int .i64 s.phase, .slice B11 ((((List.take at_.toNat s.terms) ++ [(TTerm.mk mask (Int.tmod (IntKind.i64.wrap ((Int.tmod k_ 8) + 8)) 8))]) ++ (List.drop at_.toNat s.terms)).length) c10], 2⟩, ⟨B8, 56, ((List.drop at_.toNat s.terms).flatMap enc_Term), c7 * 2⟩, ⟨B11, 56, ((((List.take at_.toNat s.terms) ++ [(TTerm.mk mask (Int.tmod (IntKind.i64.wrap ((Int.tmod k_ 8) + 8)) 8))]) ++ (List.drop at_.toNat s.terms)).flatMap enc_Term), c10 * 2⟩, ⟨some ⟨b5, 0, none⟩, 56, ([(TTerm.mk mask (Int.tmod (IntKind.i64.wrap ((Int.tmod k_ 8) + 8)) 8))].flatMap enc_Term), 1 * 2⟩] [⟨B1, ((List.take at_.toNat s.terms).flatMap enc_Term)⟩, ⟨(sv B1 at_.toNat c 2), ((List.drop at_.toNat s.terms).flatMap enc_Term)⟩, ⟨B1, (s.terms.flatMap enc_Term)⟩] := hS28
          refine rw_nil ?_
          obtain rfl := some_inj hF12
          exact ret0 Tryd.results39  ⟨B11, c10, rfl, (ST.subR (R' := []) (hS28.sel [0, 2] rfl rfl) (fun _ h => by cases h))⟩

theorem c_spec_l21Sum_times (s : Tl21Sum) (mask : Int) (k_ : Int) (by_ : TAffine) (B : Option Addr) (B1 : Option Addr) (c n : Nat) (w0 : World) (hn : s.terms.length = n) (hS : ST w0 (bl [⟨B, 68, [.int .i64 s.phase, .slice B1 n c], 2⟩, ⟨B1, 56, (s.terms.flatMap enc_Term), c * 2⟩]) w0 [⟨B, 68, [.int .i64 s.phase, .slice B1 n c], 2⟩, ⟨B1, 56, (s.terms.flatMap enc_Term), c * 2⟩] []) {m : Tl21Sum} (hF : F_spec_l21Sum_times s mask k_ by_ = some m) :
    CV Tryd.prog 40 #[pt B 0, .int .i64 mask, .int .i64 k_, .agg #[.int .i64 by_.Mask, .int .i64 by_.Turn]] w0 (fun v w' => ∃ (B2 : Option Addr) (c1 : Nat), v = .tuple #[] ∧ ST w0 (bl [⟨B, 68, [.int .i64 s.phase, .slice B1 n c], 2⟩, ⟨B1, 56, (s.terms.flatMap enc_Term), c * 2⟩]) w' [⟨B, 68, [.int .i64 m.phase, .slice B2 m.terms.length c1], 2⟩, ⟨B2, 56, (m.terms.flatMap enc_Term), c1 * 2⟩] []) := by
  subst hn
  unfold F_spec_l21Sum_times at hF
  refine cv_of_cw 92 Tryd.func40 rfl Tryd.ntmps40 rfl ?_
  refine cw_seq ?_
  refine cw_region ?_
  refine ss 7 rfl rfl (Ys_box (T := 44) (v := .agg #[.int .i64 by_.Mask, .int .i64 by_.Turn]) (cs := [.int .i64 by_.Mask, .int .i64 by_.Turn]) (m := 2) hS rfl rfl rfl rfl) ?_
  rintro _ w_ ⟨b, rfl, hS1⟩
  have hS1 : ST w0 (bl [⟨B, 68, [.int .i64 s.phase, .slice B1 s.terms.length c], 2⟩, ⟨B1, 56, (s.terms.flatMap enc_Term), c * 2⟩]) _ [⟨B, 68, [.int .i64 s.phase, .slice B1 s.terms.length c], 2⟩, ⟨B1, 56, (s.terms.flatMap enc_Term), c * 2⟩, ⟨some ⟨b, 0, none⟩, 44, [.int .i64 by_.Mask, .int .i64 by_.Turn], 2⟩] [] := hS1
  refine rw_nil ?_
  refine cw_seq ?_
  obtain ⟨z, hz, hF1⟩ := bind_inv hF
  refine cw_mid (fun f w => ∃ (phase : Int) (terms : List TTerm) (k_1 : Int) (B3 : Option Addr) (c2 : Nat), (phase, terms, k_1) = z ∧ FF f [(0, pt B 0), (1, .int .i64 mask), (2, .int .i64 k_1), (7, pt (some ⟨b, 0, none⟩) 0)] ∧ ST w0 (bl [⟨B, 68, [.int .i64 s.phase, .slice B1 s.terms.length c], 2⟩, ⟨B1, 56, (s.terms.flatMap enc_Term), c * 2⟩]) w [⟨B, 68, [.int .i64 phase, .slice B3 terms.length c2], 2⟩, ⟨B3, 56, (terms.flatMap enc_Term), c2 * 2⟩, ⟨some ⟨b, 0, none⟩, 44, [.int .i64 by_.Mask, .int .i64 by_.Turn], 2⟩] []) ?_ ?_
  · skip
    refine cw_seq ?_
    refine cw_region ?_
    refine sq 15 rfl rfl (Y_fieldAddr (B := some ⟨b, 0, none⟩) (i := 0) (s := 0) k_fd_44_1_1_3 k_sz_3_1 rfl rfl) ?_
    refine sq 16 rfl rfl (Y_load1 (B := some ⟨b, 0, none⟩) (i := 1) (cs := [.int .i64 by_.Mask, .int .i64 by_.Turn]) (v := .int .i64 by_.Turn) k_sc_3 rfl rfl (hS1.cf (i := 2) rfl) rfl) ?_
    refine sq 17 rfl rfl (Y_eq (k := .i64) (a := by_.Turn) (b := 1) rfl rfl rfl) ?_
    refine rw_nil ?_
    refine cw_cond (b := (by_.Turn == 1)) rfl (fun hb => ?_) (fun hb => ?_)
    · skip
      have hF2 := ct hz hb
      refine cw_seq ?_
      refine cw_region ?_
      refine sq 18 rfl rfl (Y_move (v := pt B 0) rfl rfl) ?_
      refine sq 19 rfl rfl (Y_move (v := .int .i64 mask) rfl rfl) ?_
      refine sq 20 rfl rfl (Y_move (v := .int .i64 k_) rfl rfl) ?_
      obtain ⟨m1, hc, hF2⟩ := bind_inv hF2
      refine sc 21 rfl rfl (Yc_func (g := 39) (vs := [pt B 0, .int .i64 mask, .int .i64 k_]) k_call_39 rfl (mc rfl (mc rfl (mc rfl mn))) (c_spec_l21Sum_add s mask k_ B B1 c s.terms.length _ rfl (hS1.lencap (i := 1) rfl (fm_lenn (l := s.terms) enc_Term_len rfl) rfl rfl) (hS1.inn [true, true, false] rfl [] rfl) hc)) ?_
      rintro _ w_1 ⟨B4, c3, rfl, hd⟩
      have hS3 := hS1.out [true, true, false] rfl hd
      have hS3 : ST w0 (bl [⟨B, 68, [.int .i64 s.phase, .slice B1 s.terms.length c], 2⟩, ⟨B1, 56, (s.terms.flatMap enc_Term), c * 2⟩]) _ [⟨some ⟨b, 0, none⟩, 44, [.int .i64 by_.Mask, .int .i64 by_.Turn], 2⟩, ⟨B, 68, [.int .i64 m1.phase, .slice B4 m1.terms.length c3], 2⟩, ⟨B4, 56, (m1.terms.flatMap enc_Term), c3 * 2⟩] [] := hS3
      refine rw_nil ?_
      refine cw_region ?_
      refine sq 22 rfl rfl (Y_move (v := .int .i64 k_) rfl rfl) ?_
      refine sq 23 rfl rfl (Y_neg (k := .i64) (a := k_) rfl rfl) ?_
      refine sq 2 rfl rfl (Y_assign (v := .int .i64 (IntKind.i64.wrap (-k_))) rfl rfl) ?_
      refine rw_nil ?_
      exact ⟨m1.phase, m1.terms, (IntKind.i64.wrap (-k_)), B4, c3, (some_inj hF2), (FF.cons rfl (FF.cons rfl (FF.cons rfl (FF.cons rfl FF.nil)))), (hS3.sel [1, 2, 0] rfl rfl)⟩
    · skip
      have hF3 := cf' hz hb
      refine cw_skip ?_
      exact ⟨s.phase, s.terms, k_, B1, c, (some_inj hF3), (FF.cons rfl (FF.cons rfl (FF.cons rfl (FF.cons rfl FF.nil)))), (hS1.sel [0, 1, 2] rfl rfl)⟩
  rintro f w ⟨phase, terms, k_1, B3, c2, rfl, hf, hS2⟩
  refine cw_seq ?_
  refine cw_region ?_
  refine sq 24 rfl rfl (Y_fieldAddr (B := some ⟨b, 0, none⟩) (i := 0) (s := 0) k_fd_44_0_0_3 k_sz_3_1 rfl (hf.get 7 3 rfl)) ?_
  refine sq 25 rfl rfl (Y_load1 (B := some ⟨b, 0, none⟩) (i := 0) (cs := [.int .i64 by_.Mask, .int .i64 by_.Turn]) (v := .int .i64 by_.Mask) k_sc_3 rfl rfl (hS2.cf (i := 2) rfl) rfl) ?_
  obtain ⟨r_, hc1, hF1⟩ := bind_inv hF1
  refine sc 26 rfl rfl (Yc_func (g := 35) (vs := [.int .i64 by_.Mask]) k_call_35 rfl (mc rfl mn) (c_spec_l1Set by_.Mask _  (hS2.inn0 [] rfl) hc1)) ?_
  rintro _ w_2 ⟨B5, c4, rfl, hd1⟩
  have hS4 := hS2.out0 hd1
  have hS4 : ST w0 (bl [⟨B, 68, [.int .i64 s.phase, .slice B1 s.terms.length c], 2⟩, ⟨B1, 56, (s.terms.flatMap enc_Term), c * 2⟩]) _ [⟨B, 68, [.int .i64 phase, .slice B3 terms.length c2], 2⟩, ⟨B3, 56, (terms.flatMap enc_Term), c2 * 2⟩, ⟨some ⟨b, 0, none⟩, 44, [.int .i64 by_.Mask, .int .i64 by_.Turn], 2⟩, ⟨B5, 3, (r_.flatMap encI), c4 * 1⟩] [] := hS4
  refine sq 8 rfl rfl (Y_assign (v := .slice B5 r_.length c4) rfl rfl) ?_
  refine rw_nil ?_
  refine cw_seq ?_
  refine cw_region ?_
  refine sq 27 rfl rfl (Y_move (v := .slice B5 r_.length c4) rfl rfl) ?_
  refine sq 28 rfl rfl (Y_len (B := B5) (m := r_.length) (c := c4) k_sl_60_3 rfl rfl) ?_
  refine sq 29 rfl rfl (Y_move (v := .int .i64 0) rfl rfl) ?_
  refine rw_nil ?_
  obtain ⟨hN, hF1⟩ := chk_inv hF1
  obtain ⟨z1, hz1, hF4⟩ := bind_inv hF1
  have ho1 : Org w0 (bl [⟨B, 68, [.int .i64 s.phase, .slice B1 s.terms.length c], 2⟩, ⟨B1, 56, (s.terms.flatMap enc_Term), c * 2⟩]) [] [⟨B5, (r_.flatMap encI)⟩] := ST.orgOwn hS4 (i := 3) rfl
  have hcap : r_.length ≤ c4 := (hS4.lencap (i := 3) rfl (fm_lenn (l := r_) encI_len rfl) rfl rfl)
  have hS6 : ST w0 (bl [⟨B, 68, [.int .i64 s.phase, .slice B1 s.terms.length c], 2⟩, ⟨B1, 56, (s.terms.flatMap enc_Term), c * 2⟩]) _ [⟨B, 68, [.int .i64 phase, .slice B3 terms.length c2], 2⟩, ⟨B3, 56, (terms.flatMap enc_Term), c2 * 2⟩, ⟨some ⟨b, 0, none⟩, 44, [.int .i64 by_.Mask, .int .i64 by_.Turn], 2⟩] [⟨B5, (r_.flatMap encI)⟩] := hS4.freeze (i := 3) rfl
  refine cw_block ?_
  refine cw_loop (fun k f w => ∃ (i : Nat) (phase1 : Int) (terms1 : List TTerm) (B6 : Option Addr) (c5 : Nat), FF f [(0, pt B 0), (1, .int .i64 mask), (2, .int .i64 k_1), (8, .slice B5 r_.length c4), (27, .slice B5 r_.length c4), (28, .int .i64 (r_.length : Int)), (29, .int .i64 (i : Int))] ∧ Org w0 (bl [⟨B, 68, [.int .i64 s.phase, .slice B1 s.terms.length c], 2⟩, ⟨B1, 56, (s.terms.flatMap enc_Term), c * 2⟩]) [] [⟨B5, (r_.flatMap encI)⟩] ∧ r_.length ≤ c4 ∧ ST w0 (bl [⟨B, 68, [.int .i64 s.phase, .slice B1 s.terms.length c], 2⟩, ⟨B1, 56, (s.terms.flatMap enc_Term), c * 2⟩]) w [⟨B, 68, [.int .i64 phase1, .slice B6 terms1.length c5], 2⟩, ⟨B6, 56, (terms1.flatMap enc_Term), c5 * 2⟩] [⟨B5, (r_.flatMap encI)⟩] ∧ i + k = r_.length ∧ forN (F_spec_l21Sum_times_l1 r_ mask k_1) k i (phase1, terms1) = some z1) r_.length ⟨0, phase, terms, B3, c2, (FF.cons (hf.get 0 0 rfl) (FF.cons (hf.get 1 1 rfl) (FF.cons (hf.get 2 2 rfl) (FF.cons rfl (FF.cons rfl (FF.cons rfl (FF.cons rfl FF.nil))))))), ho1, (len_le rfl hcap), (hS6.sel [0, 1] rfl rfl), Nat.zero_add _, hz1⟩ ?_
  rintro k_2 f w ⟨i, phase1, terms1, B6, c5, hf1, ho, hq, hS5, hik, hL⟩
  refine cw_seq ?_
  refine cw_region ?_
  refine sq 30 rfl rfl (Y_lt (k := .i64) (a := (i : Int)) (b := (r_.length : Int)) rfl (hf1.get 29 6 rfl) (hf1.get 28 5 rfl)) ?_
  refine rw_nil ?_
  refine cw_seq ?_
  refine cw_cond (b := (decide ((i : Int) < (r_.length : Int)))) rfl (fun hlt => ?_) (fun hlt => ?_)
  · skip
    have hlt1 : i < r_.length := by have h := of_decide_eq_true hlt; omega
    obtain ⟨k_3, rfl⟩ : ∃ k2, k_2 = k2 + 1 := ⟨k_2 - 1, by omega⟩
    obtain ⟨y, hb1, hL1⟩ := forN_go hL
    unfold F_spec_l21Sum_times_l1 at hb1
    refine cw_skip ?_
    refine cw_seq ?_
    refine cw_block ?_
    refine cw_seq ?_
    refine cw_region ?_
    refine sq 31 rfl rfl (Y_move (v := .int .i64 (i : Int)) rfl (hf1.get 29 6 rfl)) ?_
    obtain ⟨x, hx, hb1⟩ := bind_inv hb1
    refine sq 32 rfl rfl (Y_index (B := B5) (m := r_.length) (c := c4) (k := .i64) (i := (i : Int)) k_sl_60_3 k_sz_3_1 rfl (hf1.get 27 4 rfl) (hf1.get 29 6 rfl) (gi_isSome encI_len rfl (hS5.rf (i := 0) rfl) hx) (getI_nn hx) (getI_ltI hx rfl)) ?_
    refine sq 33 rfl rfl (Y_load1 (B := B5) (i := (i : Int).toNat * 1) (cs := (r_.flatMap encI)) (v := .int .i64 x) k_sc_3 rfl rfl (hS5.rf (i := 0) rfl) (gi_at0 encI_len hx rfl)) ?_
    refine sq 9 rfl rfl (Y_assign (v := .int .i64 (i : Int)) rfl rfl) ?_
    refine sq 10 rfl rfl (Y_assign (v := .int .i64 x) rfl rfl) ?_
    refine rw_nil ?_
    refine cw_seq ?_
    refine cw_region ?_
    refine sq 34 rfl rfl (Y_move (v := pt B 0) rfl (hf1.get 0 0 rfl)) ?_
    refine sq 35 rfl rfl (Y_move (v := .int .i64 mask) rfl (hf1.get 1 1 rfl)) ?_
    refine sq 36 rfl rfl (Y_move (v := .int .i64 x) rfl rfl) ?_
    refine sq 37 rfl rfl (Y_conv (k := .i64) (a := x) (T := 3) (T' := 59) k_us_3 k_int_59_u64 rfl rfl) ?_
    obtain ⟨hsh, hb1⟩ := chk_inv hb1
    refine sq 38 rfl rfl (Y_shl (k := .i64) (a := 1) (k' := .u64) (b := (IntKind.u64.wrap x)) rfl rfl rfl hsh) ?_
    refine sq 39 rfl rfl (Y_bor (k := .i64) (a := mask) (b := (shlK .i64 1 (IntKind.u64.wrap x))) rfl rfl rfl) ?_
    refine sq 40 rfl rfl (Y_move (v := .int .i64 k_1) rfl (hf1.get 2 2 rfl)) ?_
    obtain ⟨m2, hc2, hb1⟩ := bind_inv hb1
    refine sc 41 rfl rfl (Yc_func (g := 39) (vs := [pt B 0, .int .i64 (bits .or .i64 mask (shlK .i64 1 (IntKind.u64.wrap x))), .int .i64 k_1]) k_call_39 rfl (mc rfl (mc rfl (mc rfl mn))) (c_spec_l21Sum_add (Tl21Sum.mk phase1 terms1) (bits .or .i64 mask (shlK .i64 1 (IntKind.u64.wrap x))) k_1 B B6 c5 terms1.length _ rfl (hS5.lencap (i := 1) rfl (fm_lenn (l := terms1) enc_Term_len rfl) rfl rfl) (hS5.inn [true, true] rfl [] rfl) hc2)) ?_
    rintro _ w_3 ⟨B7, c6, rfl, hd2⟩
    have hS7 := hS5.out [true, true] rfl hd2
    have hS7 : ST w0 (bl [⟨B, 68, [.int .i64 s.phase, .slice B1 s.terms.length c], 2⟩, ⟨B1, 56, (s.terms.flatMap enc_Term), c * 2⟩]) _ [⟨B, 68, [.int .i64 m2.phase, .slice B7 m2.terms.length c6], 2⟩, ⟨B7, 56, (m2.terms.flatMap enc_Term), c6 * 2⟩] [⟨B5, (r_.flatMap encI)⟩] := hS7
    refine rw_nil ?_
    refine cw_seq ?_
    refine cw_region ?_
    refine sq 42 rfl rfl (Y_move (v := .slice B5 r_.length c4) rfl (hf1.get 8 3 rfl)) ?_
    refine sq 43 rfl rfl (Y_move (v := .int .i64 (i : Int)) rfl rfl) ?_
    obtain ⟨hsl, hb1⟩ := chk_inv hb1
    have hcap1 : r_.length ≤ c4 := hq
    have hv : (List.take i r_).length = i := (take_len rfl (by omega))
    have hq1 : i ≤ c4 := by omega
    have ho2 : Org w0 (bl [⟨B, 68, [.int .i64 s.phase, .slice B1 s.terms.length c], 2⟩, ⟨B1, 56, (s.terms.flatMap enc_Term), c * 2⟩]) [] [⟨B5, ((List.take i r_).flatMap encI)⟩] := org_view encI_len (q := c4) ho (sv_zero _ _ _).symm rfl
    have hS8 : ST w0 (bl [⟨B, 68, [.int .i64 s.phase, .slice B1 s.terms.length c], 2⟩, ⟨B1, 56, (s.terms.flatMap enc_Term), c * 2⟩]) _ [⟨B, 68, [.int .i64 m2.phase, .slice B7 m2.terms.length c6], 2⟩, ⟨B7, 56, (m2.terms.flatMap enc_Term), c6 * 2⟩] [⟨B5, ((List.take i r_).flatMap encI)⟩, ⟨B5, (r_.flatMap encI)⟩] := ST.view encI_len hS7 (i := 0) rfl (lo := 0) (h := i) (q := c4) (by omega) (by omega) (sv_zero _ _ _).symm rfl
    refine sq 44 rfl rfl (Y_slice0 (B := B5) (m := r_.length) (c := c4) (h := i) (s := 1) k_sl_60_3 k_sz_3_1 rfl rfl (bnd_some rfl rfl) (by omega)) ?_
    refine sq 45 rfl rfl (Y_len (B := B5) (m := i) (c := c4) k_sl_60_3 rfl rfl) ?_
    refine sq 46 rfl rfl (Y_move (v := .int .i64 0) rfl rfl) ?_
    refine rw_nil ?_
    obtain ⟨hN1, hb1⟩ := chk_inv hb1
    obtain ⟨z2, hz2, hF5⟩ := bind_inv hb1
    refine cw_block ?_
    refine cw_loop (fun k f w => ∃ (i1 : Nat) (phase2 : Int) (terms2 : List TTerm) (B8 : Option Addr) (c7 : Nat), FF f [(0, pt B 0), (1, .int .i64 mask), (2, .int .i64 k_1), (8, .slice B5 r_.length c4), (10, .int .i64 x), (27, .slice B5 r_.length c4), (28, .int .i64 (r_.length : Int)), (29, .int .i64 (i : Int)), (44, .slice B5 i c4), (45, .int .i64 (i : Int)), (46, .int .i64 (i1 : Int))] ∧ ST w0 (bl [⟨B, 68, [.int .i64 s.phase, .slice B1 s.terms.length c], 2⟩, ⟨B1, 56, (s.terms.flatMap enc_Term), c * 2⟩]) w [⟨B, 68, [.int .i64 phase2, .slice B8 terms2.length c7], 2⟩, ⟨B8, 56, (terms2.flatMap enc_Term), c7 * 2⟩] [⟨B5, ((List.take i r_).flatMap encI)⟩, ⟨B5, (r_.flatMap encI)⟩] ∧ i1 + k = i ∧ forN (F_spec_l21Sum_times_l2 i r_ x mask k_1) k i1 (phase2, terms2) = some z2) i ⟨0, m2.phase, m2.terms, B7, c6, (FF.cons (hf1.get 0 0 rfl) (FF.cons (hf1.get 1 1 rfl) (FF.cons (hf1.get 2 2 rfl) (FF.cons (hf1.get 8 3 rfl) (FF.cons rfl (FF.cons (hf1.get 27 4 rfl) (FF.cons (hf1.get 28 5 rfl) (FF.cons (hf1.get 29 6 rfl) (FF.cons rfl (FF.cons rfl (FF.cons rfl FF.nil))))))))))), (hS8.sel [0, 1] rfl rfl), Nat.zero_add _, hz2⟩ ?_
    rintro k_4 f w ⟨i1, phase2, terms2, B8, c7, hf2, hS9, hik1, hL2⟩
    refine cw_seq ?_
    refine cw_region ?_
    refine sq 47 rfl rfl (Y_lt (k := .i64) (a := (i1 : Int)) (b := (i : Int)) rfl (hf2.get 46 10 rfl) (hf2.get 45 9 rfl)) ?_
    refine rw_nil ?_
    refine cw_seq ?_
    refine cw_cond (b := (decide ((i1 : Int) < (i : Int)))) rfl (fun hlt2 => ?_) (fun hlt2 => ?_)
    · skip
      have hlt3 : i1 < i := by have h := of_decide_eq_true hlt2; omega
      obtain ⟨k_5, rfl⟩ : ∃ k2, k_4 = k2 + 1 := ⟨k_4 - 1, by omega⟩
      obtain ⟨y1, hb2, hL3⟩ := forN_go hL2
      unfold F_spec_l21Sum_times_l2 at hb2
      refine cw_skip ?_
      refine cw_seq ?_
      refine cw_block ?_
      refine cw_seq ?_
      refine cw_region ?_
      refine sq 48 rfl rfl (Y_move (v := .int .i64 (i1 : Int)) rfl (hf2.get 46 10 rfl)) ?_
      obtain ⟨x1, hx1, hb2⟩ := bind_inv hb2
      refine sq 49 rfl rfl (Y_index (B := B5) (m := i) (c := c4) (k := .i64) (i := (i1 : Int)) k_sl_60_3 k_sz_3_1 rfl (hf2.get 44 8 rfl) (hf2.get 46 10 rfl) (gi_isSome encI_len rfl (hS9.rf (i := 0) rfl) hx1) (getI_nn hx1) (getI_ltI hx1 hv)) ?_
      refine sq 50 rfl rfl (Y_load1 (B := B5) (i := (i1 : Int).toNat * 1) (cs := ((List.take i r_).flatMap encI)) (v := .int .i64 x1) k_sc_3 rfl rfl (hS9.rf (i := 0) rfl) (gi_at0 encI_len hx1 rfl)) ?_
      refine sq 11 rfl rfl (Y_assign (v := .int .i64 (i1 : Int)) rfl rfl) ?_
      refine sq 12 rfl rfl (Y_assign (v := .int .i64 x1) rfl rfl) ?_
      refine rw_nil ?_
      refine cw_seq ?_
      refine cw_region ?_
      refine sq 51 rfl rfl (Y_move (v := pt B 0) rfl (hf2.get 0 0 rfl)) ?_
      refine sq 52 rfl rfl (Y_move (v := .int .i64 mask) rfl (hf2.get 1 1 rfl)) ?_
      refine sq 53 rfl rfl (Y_move (v := .int .i64 x) rfl (hf2.get 10 4 rfl)) ?_
      refine sq 54 rfl rfl (Y_conv (k := .i64) (a := x) (T := 3) (T' := 59) k_us_3 k_int_59_u64 rfl rfl) ?_
      obtain ⟨hsh1, hb2⟩ := chk_inv hb2
      refine sq 55 rfl rfl (Y_shl (k := .i64) (a := 1) (k' := .u64) (b := (IntKind.u64.wrap x)) rfl rfl rfl hsh1) ?_
      refine sq 56 rfl rfl (Y_bor (k := .i64) (a := mask) (b := (shlK .i64 1 (IntKind.u64.wrap x))) rfl rfl rfl) ?_
      refine sq 57 rfl rfl (Y_move (v := .int .i64 x1) rfl rfl) ?_
      refine sq 58 rfl rfl (Y_conv (k := .i64) (a := x1) (T := 3) (T' := 59) k_us_3 k_int_59_u64 rfl rfl) ?_
      obtain ⟨hsh2, hb2⟩ := chk_inv hb2
      refine sq 59 rfl rfl (Y_shl (k := .i64) (a := 1) (k' := .u64) (b := (IntKind.u64.wrap x1)) rfl rfl rfl hsh2) ?_
      refine sq 60 rfl rfl (Y_bor (k := .i64) (a := (bits .or .i64 mask (shlK .i64 1 (IntKind.u64.wrap x)))) (b := (shlK .i64 1 (IntKind.u64.wrap x1))) rfl rfl rfl) ?_
      refine sq 61 rfl rfl (Y_move (v := .int .i64 k_1) rfl (hf2.get 2 2 rfl)) ?_
      refine sq 62 rfl rfl (Y_mul (k := .i64) (a := (-2)) (b := k_1) rfl rfl rfl) ?_
      obtain ⟨m3, hc3, hb2⟩ := bind_inv hb2
      refine sc 63 rfl rfl (Yc_func (g := 39) (vs := [pt B 0, .int .i64 (bits .or .i64 (bits .or .i64 mask (shlK .i64 1 (IntKind.u64.wrap x))) (shlK .i64 1 (IntKind.u64.wrap x1))), .int .i64 (IntKind.i64.wrap ((-2) * k_1))]) k_call_39 rfl (mc rfl (mc rfl (mc rfl mn))) (c_spec_l21Sum_add (Tl21Sum.mk phase2 terms2) (bits .or .i64 (bits .or .i64 mask (shlK .i64 1 (IntKind.u64.wrap x))) (shlK .i64 1 (IntKind.u64.wrap x1))) (IntKind.i64.wrap ((-2) * k_1)) B B8 c7 terms2.length _ rfl (hS9.lencap (i := 1) rfl (fm_lenn (l := terms2) enc_Term_len rfl) rfl rfl) (hS9.inn [true, true] rfl [] rfl) hc3)) ?_
      rintro _ w_4 ⟨B9, c8, rfl, hd3⟩
      have hS10 := hS9.out [true, true] rfl hd3
      have hS10 : ST w0 (bl [⟨B, 68, [.int .i64 s.phase, .slice B1 s.terms.length c], 2⟩, ⟨B1, 56, (s.terms.flatMap enc_Term), c * 2⟩]) _ [⟨B, 68, [.int .i64 m3.phase, .slice B9 m3.terms.length c8], 2⟩, ⟨B9, 56, (m3.terms.flatMap enc_Term), c8 * 2⟩] [⟨B5, ((List.take i r_).flatMap encI)⟩, ⟨B5, (r_.flatMap encI)⟩] := hS10
      refine rw_nil ?_
      refine cw_seq ?_
      refine cw_region ?_
      refine sq 64 rfl rfl (Y_move (v := .slice B5 r_.length c4) rfl (hf2.get 8 3 rfl)) ?_
      refine sq 65 rfl rfl (Y_move (v := .int .i64 (i1 : Int)) rfl rfl) ?_
      obtain ⟨hsl1, hb2⟩ := chk_inv hb2
      have hcap2 : r_.length ≤ c4 := hq
      have hv1 : (List.take i1 r_).length = i1 := (take_len rfl (by omega))
      have hq2 : i1 ≤ c4 := by omega
      have ho3 : Org w0 (bl [⟨B, 68, [.int .i64 s.phase, .slice B1 s.terms.length c], 2⟩, ⟨B1, 56, (s.terms.flatMap enc_Term), c * 2⟩]) [] [⟨B5, ((List.take i1 r_).flatMap encI)⟩] := org_view encI_len (q := c4) ho (sv_zero _ _ _).symm rfl
      have hS11 : ST w0 (bl [⟨B, 68, [.int .i64 s.phase, .slice B1 s.terms.length c], 2⟩, ⟨B1, 56, (s.terms.flatMap enc_Term), c * 2⟩]) _ [⟨B, 68, [.int .i64 m3.phase, .slice B9 m3.terms.length c8], 2⟩, ⟨B9, 56, (m3.terms.flatMap enc_Term), c8 * 2⟩] [⟨B5, ((List.take i1 r_).flatMap encI)⟩, ⟨B5, ((List.take i r_).flatMap encI)⟩, ⟨B5, (r_.flatMap encI)⟩] := ST.view encI_len hS10 (i := 1) rfl (lo := 0) (h := i1) (q := c4) (by omega) (by omega) (sv_zero _ _ _).symm rfl
      refine sq 66 rfl rfl (Y_slice0 (B := B5) (m := r_.length) (c := c4) (h := i1) (s := 1) k_sl_60_3 k_sz_3_1 rfl rfl (bnd_some rfl rfl) (by omega)) ?_
      refine sq 67 rfl rfl (Y_len (B := B5) (m := i1) (c := c4) k_sl_60_3 rfl rfl) ?_
      refine sq 68 rfl rfl (Y_move (v := .int .i64 0) rfl rfl) ?_
      refine rw_nil ?_
      obtain ⟨hN2, hb2⟩ := chk_inv hb2
      obtain ⟨z3, hz3, hF6⟩ := bind_inv hb2
      refine cw_block ?_
      refine cw_loop (fun k f w => ∃ (i2 : Nat) (phase3 : Int) (terms3 : List TTerm) (B10 : Option Addr) (c9 : Nat), FF f [(0, pt B 0), (1, .int .i64 mask), (2, .int .i64 k_1), (8, .slice B5 r_.length c4), (10, .int .i64 x), (12, .int .i64 x1), (27, .slice B5 r_.length c4), (28, .int .i64 (r_.length : Int)), (29, .int .i64 (i : Int)), (44, .slice B5 i c4), (45, .int .i64 (i : Int)), (46, .int .i64 (i1 : Int)), (66, .slice B5 i1 c4), (67, .int .i64 (i1 : Int)), (68, .int .i64 (i2 : Int))] ∧ ST w0 (bl [⟨B, 68, [.int .i64 s.phase, .slice B1 s.terms.length c], 2⟩, ⟨B1, 56, (s.terms.flatMap enc_Term), c * 2⟩]) w [⟨B, 68, [.int .i64 phase3, .slice B10 terms3.length c9], 2⟩, ⟨B10, 56, (terms3.flatMap enc_Term), c9 * 2⟩] [⟨B5, ((List.take i1 r_).flatMap encI)⟩, ⟨B5, ((List.take i r_).flatMap encI)⟩, ⟨B5, (r_.flatMap encI)⟩] ∧ i2 + k = i1 ∧ forN (F_spec_l21Sum_times_l3 i1 r_ x x1 mask k_1) k i2 (phase3, terms3) = some z3) i1 ⟨0, m3.phase, m3.terms, B9, c8, (FF.cons (hf2.get 0 0 rfl) (FF.cons (hf2.get 1 1 rfl) (FF.cons (hf2.get 2 2 rfl) (FF.cons (hf2.get 8 3 rfl) (FF.cons (hf2.get 10 4 rfl) (FF.cons rfl (FF.cons (hf2.get 27 5 rfl) (FF.cons (hf2.get 28 6 rfl) (FF.cons (hf2.get 29 7 rfl) (FF.cons (hf2.get 44 8 rfl) (FF.cons (hf2.get 45 9 rfl) (FF.cons (hf2.get 46 10 rfl) (FF.cons rfl (FF.cons rfl (FF.cons rfl FF.nil))))))))))))))), (hS11.sel [0, 1] rfl rfl), Nat.zero_add _, hz3⟩ ?_
      rintro k_6 f w ⟨i2, phase3, terms3, B10, c9, hf3, hS12, hik2, hL4⟩
      refine cw_seq ?_
      refine cw_region ?_
      refine sq 69 rfl rfl (Y_lt (k := .i64) (a := (i2 : Int)) (b := (i1 : Int)) rfl (hf3.get 68 14 rfl) (hf3.get 67 13 rfl)) ?_
      refine rw_nil ?_
      refine cw_seq ?_
      refine cw_cond (b := (decide ((i2 : Int) < (i1 : Int)))) rfl (fun hlt4 => ?_) (fun hlt4 => ?_)
      · skip
        have hlt5 : i2 < i1 := by have h := of_decide_eq_true hlt4; omega
        obtain ⟨k_7, rfl⟩ : ∃ k2, k_6 = k2 + 1 := ⟨k_6 - 1, by omega⟩
        obtain ⟨y2, hb3, hL5⟩ := forN_go hL4
        unfold F_spec_l21Sum_times_l3 at hb3
        refine cw_skip ?_
        refine cw_seq ?_
        refine cw_block ?_
        refine cw_seq ?_
        refine cw_region ?_
        obtain ⟨x2, hx2, hb3⟩ := bind_inv hb3
        refine sq 70 rfl rfl (Y_index (B := B5) (m := i1) (c := c4) (k := .i64) (i := (i2 : Int)) k_sl_60_3 k_sz_3_1 rfl (hf3.get 66 12 rfl) (hf3.get 68 14 rfl) (gi_isSome encI_len rfl (hS12.rf (i := 0) rfl) hx2) (getI_nn hx2) (getI_ltI hx2 hv1)) ?_
        refine sq 71 rfl rfl (Y_load1 (B := B5) (i := (i2 : Int).toNat * 1) (cs := ((List.take i1 r_).flatMap encI)) (v := .int .i64 x2) k_sc_3 rfl rfl (hS12.rf (i := 0) rfl) (gi_at0 encI_len hx2 rfl)) ?_
        refine sq 14 rfl rfl (Y_assign (v := .int .i64 x2) rfl rfl) ?_
        refine rw_nil ?_
        refine cw_region ?_
        refine sq 72 rfl rfl (Y_move (v := pt B 0) rfl (hf3.get 0 0 rfl)) ?_
        refine sq 73 rfl rfl (Y_move (v := .int .i64 mask) rfl (hf3.get 1 1 rfl)) ?_
        refine sq 74 rfl rfl (Y_move (v := .int .i64 x) rfl (hf3.get 10 4 rfl)) ?_
        refine sq 75 rfl rfl (Y_conv (k := .i64) (a := x) (T := 3) (T' := 59) k_us_3 k_int_59_u64 rfl rfl) ?_
        obtain ⟨hsh3, hb3⟩ := chk_inv hb3
        refine sq 76 rfl rfl (Y_shl (k := .i64) (a := 1) (k' := .u64) (b := (IntKind.u64.wrap x)) rfl rfl rfl hsh3) ?_
        refine sq 77 rfl rfl (Y_bor (k := .i64) (a := mask) (b := (shlK .i64 1 (IntKind.u64.wrap x))) rfl rfl rfl) ?_
        refine sq 78 rfl rfl (Y_move (v := .int .i64 x1) rfl (hf3.get 12 5 rfl)) ?_
        refine sq 79 rfl rfl (Y_conv (k := .i64) (a := x1) (T := 3) (T' := 59) k_us_3 k_int_59_u64 rfl rfl) ?_
        obtain ⟨hsh4, hb3⟩ := chk_inv hb3
        refine sq 80 rfl rfl (Y_shl (k := .i64) (a := 1) (k' := .u64) (b := (IntKind.u64.wrap x1)) rfl rfl rfl hsh4) ?_
        refine sq 81 rfl rfl (Y_bor (k := .i64) (a := (bits .or .i64 mask (shlK .i64 1 (IntKind.u64.wrap x)))) (b := (shlK .i64 1 (IntKind.u64.wrap x1))) rfl rfl rfl) ?_
        refine sq 82 rfl rfl (Y_move (v := .int .i64 x2) rfl rfl) ?_
        refine sq 83 rfl rfl (Y_conv (k := .i64) (a := x2) (T := 3) (T' := 59) k_us_3 k_int_59_u64 rfl rfl) ?_
        obtain ⟨hsh5, hb3⟩ := chk_inv hb3
        refine sq 84 rfl rfl (Y_shl (k := .i64) (a := 1) (k' := .u64) (b := (IntKind.u64.wrap x2)) rfl rfl rfl hsh5) ?_
        refine sq 85 rfl rfl (Y_bor (k := .i64) (a := (bits .or .i64 (bits .or .i64 mask (shlK .i64 1 (IntKind.u64.wrap x))) (shlK .i64 1 (IntKind.u64.wrap x1)))) (b := (shlK .i64 1 (IntKind.u64.wrap x2))) rfl rfl rfl) ?_
        refine sq 86 rfl rfl (Y_move (v := .int .i64 k_1) rfl (hf3.get 2 2 rfl)) ?_
        refine sq 87 rfl rfl (Y_mul (k := .i64) (a := 4) (b := k_1) rfl rfl rfl) ?_
        obtain ⟨m4, hc4, hb3⟩ := bind_inv hb3
        refine sc 88 rfl rfl (Yc_func (g := 39) (vs := [pt B 0, .int .i64 (bits .or .i64 (bits .or .i64 (bits .or .i64 mask (shlK .i64 1 (IntKind.u64.wrap x))) (shlK .i64 1 (IntKind.u64.wrap x1))) (shlK .i64 1 (IntKind.u64.wrap x2))), .int .i64 (IntKind.i64.wrap (4 * k_1))]) k_call_39 rfl (mc rfl (mc rfl (mc rfl mn))) (c_spec_l21Sum_add (Tl21Sum.mk phase3 terms3) (bits .or .i64 (bits .or .i64 (bits .or .i64 mask (shlK .i64 1 (IntKind.u64.wrap x))) (shlK .i64 1 (IntKind.u64.wrap x1))) (shlK .i64 1 (IntKind.u64.wrap x2))) (IntKind.i64.wrap (4 * k_1)) B B10 c9 terms3.length _ rfl (hS12.lencap (i := 1) rfl (fm_lenn (l := terms3) enc_Term_len rfl) rfl rfl) (hS12.inn [true, true] rfl [] rfl) hc4)) ?_
        rintro _ w_5 ⟨B11, c10, rfl, hd4⟩
        have hS13 := hS12.out [true, true] rfl hd4
        have hS13 : ST w0 (bl [⟨B, 68, [.int .i64 s.phase, .slice B1 s.terms.length c], 2⟩, ⟨B1, 56, (s.terms.flatMap enc_Term), c * 2⟩]) _ [⟨B, 68, [.int .i64 m4.phase, .slice B11 m4.terms.length c10], 2⟩, ⟨B11, 56, (m4.terms.flatMap enc_Term), c10 * 2⟩] [⟨B5, ((List.take i1 r_).flatMap encI)⟩, ⟨B5, ((List.take i r_).flatMap encI)⟩, ⟨B5, (r_.flatMap encI)⟩] := hS13
        refine rw_nil ?_
        refine cw_region ?_
        refine sq 89 rfl rfl (Y_add (k := .i64) (a := (i2 : Int)) (b := 1) rfl (hf3.get 68 14 rfl) rfl) ?_
        refine sq 68 rfl rfl (Y_move (v := .int .i64 (IntKind.i64.wrap ((i2 : Int) + 1))) rfl rfl) ?_
        refine rw_nil ?_
        obtain rfl := some_inj hb3
        exact ⟨k_7, Nat.lt_succ_self _, i2 + 1, m4.phase, m4.terms, B11, c10, (FF.cons (hf3.get 0 0 rfl) (FF.cons (hf3.get 1 1 rfl) (FF.cons (hf3.get 2 2 rfl) (FF.cons (hf3.get 8 3 rfl) (FF.cons (hf3.get 10 4 rfl) (FF.cons (hf3.get 12 5 rfl) (FF.cons (hf3.get 27 6 rfl) (FF.cons (hf3.get 28 7 rfl) (FF.cons (hf3.get 29 8 rfl) (FF.cons (hf3.get 44 9 rfl) (FF.cons (hf3.get 45 10 rfl) (FF.cons (hf3.get 46 11 rfl) (FF.cons (hf3.get 66 12 rfl) (FF.cons (hf3.get 67 13 rfl) (FF.cons (congrArg (Value.int .i64) (wr_succ hlt5 hN2)) FF.nil))))))))))))))), (hS13.sel [0, 1] rfl rfl), (by omega), hL5⟩
      · skip
        obtain rfl : k_6 = 0 := by have h := of_decide_eq_false hlt4; omega
        refine cw_exit rfl ?_
        obtain rfl := some_inj hL4
        refine cw_region ?_
        refine sq 90 rfl rfl (Y_add (k := .i64) (a := (i1 : Int)) (b := 1) rfl (hf3.get 46 11 rfl) rfl) ?_
        refine sq 46 rfl rfl (Y_move (v := .int .i64 (IntKind.i64.wrap ((i1 : Int) + 1))) rfl rfl) ?_
        refine rw_nil ?_
        obtain rfl := some_inj hF6
        have hS14 : ST w0 (bl [⟨B, 68, [.int .i64 s.phase, .slice B1 s.terms.length c], 2⟩, ⟨B1, 56, (s.terms.flatMap enc_Term), c * 2⟩]) _ [⟨B, 68, [.int .i64 phase3, .slice B10 terms3.length c9], 2⟩, ⟨B10, 56, (terms3.flatMap enc_Term), c9 * 2⟩] [⟨B5, ((List.take i r_).flatMap encI)⟩, ⟨B5, (r_.flatMap encI)⟩] := ST.subR hS12 (subc (mem_at (i := 1) rfl) (subc (mem_at (i := 2) rfl) (fun _ h => by cases h)))
        exact ⟨k_5, Nat.lt_succ_self _, i1 + 1, phase3, terms3, B10, c9, (FF.cons (hf3.get 0 0 rfl) (FF.cons (hf3.get 1 1 rfl) (FF.cons (hf3.get 2 2 rfl) (FF.cons (hf3.get 8 3 rfl) (FF.cons (hf3.get 10 4 rfl) (FF.cons (hf3.get 27 6 rfl) (FF.cons (hf3.get 28 7 rfl) (FF.cons (hf3.get 29 8 rfl) (FF.cons (hf3.get 44 9 rfl) (FF.cons (hf3.get 45 10 rfl) (FF.cons (congrArg (Value.int .i64) (wr_succ hlt3 hN1)) FF.nil))))))))))), (hS14.sel [0, 1] rfl rfl), (by omega), hL3⟩
    · skip
      obtain rfl : k_4 = 0 := by have h := of_decide_eq_false hlt2; omega
      refine cw_exit rfl ?_
      obtain rfl := some_inj hL2
      refine cw_region ?_
      refine sq 91 rfl rfl (Y_add (k := .i64) (a := (i : Int)) (b := 1) rfl (hf2.get 29 7 rfl) rfl) ?_
      refine sq 29 rfl rfl (Y_move (v := .int .i64 (IntKind.i64.wrap ((i : Int) + 1))) rfl rfl) ?_
      refine rw_nil ?_
      obtain rfl := some_inj hF5
      have hS15 : ST w0 (bl [⟨B, 68, [.int .i64 s.phase, .slice B1 s.terms.length c], 2⟩, ⟨B1, 56, (s.terms.flatMap enc_Term), c * 2⟩]) _ [⟨B, 68, [.int .i64 phase2, .slice B8 terms2.length c7], 2⟩, ⟨B8, 56, (terms2.flatMap enc_Term), c7 * 2⟩] [⟨B5, (r_.flatMap encI)⟩] := ST.subR hS9 (subc (mem_at (i := 1) rfl) (fun _ h => by cases h))
      exact ⟨k_3, Nat.lt_succ_self _, i + 1, phase2, terms2, B8, c7, (FF.cons (hf2.get 0 0 rfl) (FF.cons (hf2.get 1 1 rfl) (FF.cons (hf2.get 2 2 rfl) (FF.cons (hf2.get 8 3 rfl) (FF.cons (hf2.get 27 5 rfl) (FF.cons (hf2.get 28 6 rfl) (FF.cons (congrArg (Value.int .i64) (wr_succ hlt1 hN)) FF.nil))))))), ho, (len_le rfl hq), (hS15.sel [0, 1] rfl rfl), (by omega), hL1⟩
  · skip
    obtain rfl : k_2 = 0 := by have h := of_decide_eq_false hlt; omega
    refine cw_exit rfl ?_
    obtain rfl := some_inj hL
    obtain rfl := some_inj hF4
    exact ret0 Tryd.results40  ⟨B6, c5, rfl, (ST.subR (R' := []) (hS5.sel [0, 1] rfl rfl) (fun _ h => by cases h))⟩
end Go.VK
