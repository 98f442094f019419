/- Walks: each Go function returns what its Lean function says. By program. -/
import Derived.Test.YtklicjfbpikobaaDoorReduceStepFa
import Derived.Test.YtklicjfbpikobaaDoorReduceStepShelf
import Derived.Test.YtklicjfbpikobaaDoorLibT
import Derived.WalkKit
import Derived.Test.YtklicjfbpikobaaDoorReduceStepW4
set_option linter.unusedVariables false
set_option maxRecDepth 100000
set_option maxHeartbeats 4000000
namespace Go.VK
open Go.RowKit
open Go.Proofs
attribute [local irreducible] CW RW RA CV Y Yw Yc Ys RetOf
attribute [local irreducible] F_laws_szTermS F_laws_szAffineS F_laws_szPathSum F_spec_l1In F_spec_l1Set F_spec_l21Valid F_spec_l21Rule F_spec_l21Drop F_spec_l21Sum_add F_spec_l21Sum_times F_spec_l21Replace F_spec_l21Without F_spec_l21Step F_spec_ReduceStep F_laws_toTerm F_laws_toTermS F_laws_toAffine F_laws_toAffineS F_laws_toPathSum F_slices_IndexFunc_impl_Affine_impl_Affine F_slices_ContainsFunc_impl_Affine_impl_Affine F_impl_within F_math_bits_OnesCount64 F_math_bits_OnesCount F_impl_bitsIn F_impl_isAffine F_impl_IsValidPathSum_1 F_impl_IsValidPathSum F_impl_ReduceStep_1 F_impl_PathSum_around F_math_bits_TrailingZeros64 F_math_bits_TrailingZeros F_impl_dropped F_impl_PathSum_without F_impl_polyOf F_impl_polynomial_add F_impl_bitsOf F_impl_polynomial_expand F_impl_polynomial_terms F_impl_PathSum_stripped F_impl_PathSum_substituted F_impl_PathSum_ruled F_impl_ReduceStep F_laws_eqTerm F_laws_eqTermS F_laws_eqAffine F_laws_eqAffineS F_laws_eqPathSum F_laws_markTermS F_laws_markAffineS F_laws_markPathSum F_laws_heldTermS F_laws_heldAffineS F_laws_heldPathSum F_laws_FnExactReduceStep
theorem c_laws_eqAffine (a : TAffine) (b : TAffine)  (w0 : World)  (hS : ST w0 [] w0 [] []) {r_ : Bool} (hF : F_laws_eqAffine a b = some r_) :
    CV Tryd.prog 56 #[.agg #[.int .i64 a.Mask, .int .i64 a.Turn], .agg #[.int .i64 b.Mask, .int .i64 b.Turn]] w0 (fun v w' => v = .bool r_ ∧ ST w0 [] w' [] []) := by
  unfold F_laws_eqAffine at hF
  refine cv_of_cw 15 Tryd.func56 rfl Tryd.ntmps56 rfl ?_
  refine cw_seq ?_
  refine cw_region ?_
  refine ss 2 rfl rfl (Ys_box (T := 44) (v := .agg #[.int .i64 a.Mask, .int .i64 a.Turn]) (cs := [.int .i64 a.Mask, .int .i64 a.Turn]) (m := 2) hS rfl rfl rfl rfl) ?_
  rintro _ w_ ⟨b1, rfl, hS1⟩
  refine ss 3 rfl rfl (Ys_box (T := 44) (v := .agg #[.int .i64 b.Mask, .int .i64 b.Turn]) (cs := [.int .i64 b.Mask, .int .i64 b.Turn]) (m := 2) hS1 rfl rfl rfl rfl) ?_
  rintro _ w_1 ⟨b2, rfl, hS2⟩
  have hS2 : ST w0 [] _ [⟨some ⟨b1, 0, none⟩, 44, [.int .i64 a.Mask, .int .i64 a.Turn], 2⟩, ⟨some ⟨b2, 0, none⟩, 44, [.int .i64 b.Mask, .int .i64 b.Turn], 2⟩] [] := hS2
  refine sq 4 rfl rfl (Y_assign (v := .bool false) rfl rfl) ?_
  refine rw_nil ?_
  refine cw_seq ?_
  refine cw_seq ?_
  refine cw_region ?_
  refine sq 5 rfl rfl (Y_fieldAddr (B := some ⟨b1, 0, none⟩) (i := 0) (s := 0) k_fd_44_0_0_3 k_sz_3_1 rfl rfl) ?_
  refine sq 6 rfl rfl (Y_load1 (B := some ⟨b1, 0, none⟩) (i := 0) (cs := [.int .i64 a.Mask, .int .i64 a.Turn]) (v := .int .i64 a.Mask) k_sc_3 rfl rfl (hS2.cf (i := 0) rfl) rfl) ?_
  refine sq 7 rfl rfl (Y_fieldAddr (B := some ⟨b2, 0, none⟩) (i := 0) (s := 0) k_fd_44_0_0_3 k_sz_3_1 rfl rfl) ?_
  refine sq 8 rfl rfl (Y_load1 (B := some ⟨b2, 0, none⟩) (i := 0) (cs := [.int .i64 b.Mask, .int .i64 b.Turn]) (v := .int .i64 b.Mask) k_sc_3 rfl rfl (hS2.cf (i := 1) rfl) rfl) ?_
  refine sq 9 rfl rfl (Y_ne (k := .i64) (a := a.Mask) (b := b.Mask) rfl rfl rfl) ?_
  refine rw_nil ?_
  refine cw_cond (b := (a.Mask != b.Mask)) rfl (fun hb => ?_) (fun hb => ?_)
  · skip
    have hF1 := ct hF hb
    refine cw_seq ?_
    refine cw_region ?_
    refine sq 4 rfl rfl (Y_assign (v := .bool false) rfl rfl) ?_
    refine rw_nil ?_
    refine cw_ret ?_
    obtain rfl := some_inj hF1
    exact ret1 Tryd.results56 (v1 := .bool false) (resAt_tmp rfl) ⟨rfl, (ST.subR (R' := []) (hS2.sel [] rfl rfl) (fun _ h => by cases h))⟩
  · skip
    have hF2 := cf' hF hb
    refine cw_skip ?_
    refine cw_seq ?_
    refine cw_seq ?_
    refine cw_region ?_
    refine sq 10 rfl rfl (Y_fieldAddr (B := some ⟨b1, 0, none⟩) (i := 0) (s := 0) k_fd_44_1_1_3 k_sz_3_1 rfl rfl) ?_
    refine sq 11 rfl rfl (Y_load1 (B := some ⟨b1, 0, none⟩) (i := 1) (cs := [.int .i64 a.Mask, .int .i64 a.Turn]) (v := .int .i64 a.Turn) k_sc_3 rfl rfl (hS2.cf (i := 0) rfl) rfl) ?_
    refine sq 12 rfl rfl (Y_fieldAddr (B := some ⟨b2, 0, none⟩) (i := 0) (s := 0) k_fd_44_1_1_3 k_sz_3_1 rfl rfl) ?_
    refine sq 13 rfl rfl (Y_load1 (B := some ⟨b2, 0, none⟩) (i := 1) (cs := [.int .i64 b.Mask, .int .i64 b.Turn]) (v := .int .i64 b.Turn) k_sc_3 rfl rfl (hS2.cf (i := 1) rfl) rfl) ?_
    refine sq 14 rfl rfl (Y_ne (k := .i64) (a := a.Turn) (b := b.Turn) rfl rfl rfl) ?_
    refine rw_nil ?_
    refine cw_cond (b := (a.Turn != b.Turn)) rfl (fun hb1 => ?_) (fun hb1 => ?_)
    · skip
      have hF3 := ct hF2 hb1
      refine cw_seq ?_
      refine cw_region ?_
      refine sq 4 rfl rfl (Y_assign (v := .bool false) rfl rfl) ?_
      refine rw_nil ?_
      refine cw_ret ?_
      obtain rfl := some_inj hF3
      exact ret1 Tryd.results56 (v1 := .bool false) (resAt_tmp rfl) ⟨rfl, (ST.subR (R' := []) (hS2.sel [] rfl rfl) (fun _ h => by cases h))⟩
    · skip
      have hF4 := cf' hF2 hb1
      refine cw_skip ?_
      refine cw_seq ?_
      refine cw_region ?_
      refine sq 4 rfl rfl (Y_assign (v := .bool true) rfl rfl) ?_
      refine rw_nil ?_
      refine cw_ret ?_
      obtain rfl := some_inj hF4
      exact ret1 Tryd.results56 (v1 := .bool true) (resAt_tmp rfl) ⟨rfl, (ST.subR (R' := []) (hS2.sel [] rfl rfl) (fun _ h => by cases h))⟩

theorem c_laws_eqAffineS (a : List TAffine) (b : List TAffine) (B : Option Addr) (c n : Nat) (B1 : Option Addr) (c1 n1 : Nat) (w0 : World) (hn : a.length = n) (hn1 : b.length = n1) (hS : ST w0 [] w0 [] [⟨B, (a.flatMap enc_Affine)⟩, ⟨B1, (b.flatMap enc_Affine)⟩]) {r_ : Bool} (hF : F_laws_eqAffineS a b = some r_) :
    CV Tryd.prog 25 #[.slice B n c, .slice B1 n1 c1] w0 (fun v w' => v = .bool r_ ∧ ST w0 [] w' [] []) := by
  subst hn
  subst hn1
  unfold F_laws_eqAffineS at hF
  refine cv_of_cw 27 Tryd.func25 rfl Tryd.ntmps25 rfl ?_
  refine cw_seq ?_
  refine cw_region ?_
  refine sq 4 rfl rfl (Y_assign (v := .bool false) rfl rfl) ?_
  refine rw_nil ?_
  refine cw_seq ?_
  refine cw_seq ?_
  refine cw_region ?_
  refine sq 6 rfl rfl (Y_move (v := .slice B a.length c) rfl rfl) ?_
  refine sq 7 rfl rfl (Y_len (B := B) (m := a.length) (c := c) k_sl_28_44 rfl rfl) ?_
  refine sq 8 rfl rfl (Y_move (v := .slice B1 b.length c1) rfl rfl) ?_
  refine sq 9 rfl rfl (Y_len (B := B1) (m := b.length) (c := c1) k_sl_28_44 rfl rfl) ?_
  refine sq 10 rfl rfl (Y_ne (k := .i64) (a := (a.length : Int)) (b := (b.length : Int)) rfl rfl rfl) ?_
  refine rw_nil ?_
  refine cw_cond (b := ((a.length : Int) != (b.length : Int))) rfl (fun hb => ?_) (fun hb => ?_)
  · skip
    have hF1 := ct hF hb
    refine cw_seq ?_
    refine cw_region ?_
    refine sq 4 rfl rfl (Y_assign (v := .bool false) rfl rfl) ?_
    refine rw_nil ?_
    refine cw_ret ?_
    obtain rfl := some_inj hF1
    exact ret1 Tryd.results25 (v1 := .bool false) (resAt_tmp rfl) ⟨rfl, (ST.subR (R' := []) (hS.sel [] rfl rfl) (fun _ h => by cases h))⟩
  · skip
    have hF2 := cf' hF hb
    refine cw_skip ?_
    refine cw_seq ?_
    refine cw_seq ?_
    refine cw_region ?_
    refine sq 5 rfl rfl (Y_assign (v := .int .i64 0) rfl rfl) ?_
    refine rw_nil ?_
    obtain ⟨hN, hF2⟩ := chk_inv hF2
    obtain ⟨z, hz, hF3⟩ := bind_inv hF2
    refine cw_block ?_
    refine cw_loop (fun k f w => ∃ (i1 : Nat), FF f [(0, .slice B a.length c), (1, .slice B1 b.length c1), (5, .int .i64 (i1 : Int))] ∧ ST w0 [] w [] [⟨B, (a.flatMap enc_Affine)⟩, ⟨B1, (b.flatMap enc_Affine)⟩] ∧ i1 + k = a.length ∧ forX (F_laws_eqAffineS_l1 a b) k i1 () = some z) a.length ⟨0, (FF.cons rfl (FF.cons rfl (FF.cons rfl FF.nil))), (hS.sel [] rfl rfl), Nat.zero_add _, hz⟩ ?_
    rintro k_ f w ⟨i1, hf, hS1, hik, hL⟩
    refine cw_seq ?_
    refine cw_seq ?_
    refine cw_region ?_
    refine sq 11 rfl rfl (Y_move (v := .int .i64 (i1 : Int)) rfl (hf.get 5 2 rfl)) ?_
    refine sq 12 rfl rfl (Y_move (v := .slice B a.length c) rfl (hf.get 0 0 rfl)) ?_
    refine sq 13 rfl rfl (Y_len (B := B) (m := a.length) (c := c) k_sl_28_44 rfl rfl) ?_
    refine sq 14 rfl rfl (Y_lt (k := .i64) (a := (i1 : Int)) (b := (a.length : Int)) rfl rfl rfl) ?_
    refine rw_nil ?_
    refine cw_cond (b := (decide ((i1 : Int) < (a.length : Int)))) rfl (fun hlt => ?_) (fun hlt => ?_)
    · skip
      have hlt1 : i1 < a.length := by have h := of_decide_eq_true hlt; omega
      obtain ⟨k_1, rfl⟩ : ∃ k2, k_ = k2 + 1 := ⟨k_ - 1, by omega⟩
      obtain ⟨y, hb1, hL1⟩ := forX_go hL
      unfold F_laws_eqAffineS_l1 at hb1
      refine cw_skip ?_
      refine cw_seq ?_
      refine cw_block ?_
      refine cw_seq ?_
      obtain ⟨x, hx, hb1⟩ := bind_inv hb1
      obtain ⟨x1, hx1, hb1⟩ := bind_inv hb1
      obtain ⟨r_1, hc, hb1⟩ := bind_inv hb1
      refine ra_start (ST.sel hS1 [] rfl rfl).fn (by kernel_rfl) ?_
      have hS3 := hS1.drew
      refine ra_q 0 17 (v := .slice B a.length c) rfl rfl rfl (by kernel_rfl) (by kernel_rfl) (by kernel_rfl) (ST.sel hS3 [] rfl rfl) (fun w' hw' => (Y_move (v := .slice B a.length c) rfl (hf.get 0 0 rfl))) ?_
      refine ra_q 1 18 (v := .int .i64 (i1 : Int)) rfl rfl rfl (by kernel_rfl) (by kernel_rfl) (by kernel_rfl) (ST.sel hS3 [] rfl rfl) (fun w' hw' => (Y_move (v := .int .i64 (i1 : Int)) rfl (hf.get 5 2 rfl))) ?_
      refine ra_q 2 19 (v := pt B ((i1 : Int).toNat * 2)) rfl rfl rfl (by kernel_rfl) (by kernel_rfl) (by kernel_rfl) (ST.sel hS3 [] rfl rfl) (fun w' hw' => (Y_index (B := B) (m := a.length) (c := c) (k := .i64) (i := (i1 : Int)) k_sl_28_44 k_sz_44_2 rfl rfl rfl (gi_isSome enc_Affine_len rfl (ST.rf hw' (i := 0) rfl) hx) (getI_nn hx) (getI_ltI hx rfl))) ?_
      refine ra_q 3 20 (v := .agg #[.int .i64 x.Mask, .int .i64 x.Turn]) rfl rfl rfl (by kernel_rfl) (by kernel_rfl) (by kernel_rfl) (ST.sel hS3 [] rfl rfl) (fun w' hw' => (Y_loadA (B := B) (i := (i1 : Int).toNat * 2) (cs := (a.flatMap enc_Affine)) (vs := [.int .i64 x.Mask, .int .i64 x.Turn]) k_ag_44 k_sz_44_2 rfl rfl (ST.rf hw' (i := 0) rfl) (enc_Affine_len x) (gi_seg enc_Affine_len hx))) ?_
      refine ra_q 4 21 (v := .slice B1 b.length c1) rfl rfl rfl (by kernel_rfl) (by kernel_rfl) (by kernel_rfl) (ST.sel hS3 [] rfl rfl) (fun w' hw' => (Y_move (v := .slice B1 b.length c1) rfl (hf.get 1 1 rfl))) ?_
      refine ra_q 5 22 (v := .int .i64 (i1 : Int)) rfl rfl rfl (by kernel_rfl) (by kernel_rfl) (by kernel_rfl) (ST.sel hS3 [] rfl rfl) (fun w' hw' => (Y_move (v := .int .i64 (i1 : Int)) rfl (hf.get 5 2 rfl))) ?_
      refine ra_q 6 23 (v := pt B1 ((i1 : Int).toNat * 2)) rfl rfl rfl (by kernel_rfl) (by kernel_rfl) (by kernel_rfl) (ST.sel hS3 [] rfl rfl) (fun w' hw' => (Y_index (B := B1) (m := b.length) (c := c1) (k := .i64) (i := (i1 : Int)) k_sl_28_44 k_sz_44_2 rfl rfl rfl (gi_isSome enc_Affine_len rfl (ST.rf hw' (i := 1) rfl) hx1) (getI_nn hx1) (getI_ltI hx1 rfl))) ?_
      refine ra_q 7 24 (v := .agg #[.int .i64 x1.Mask, .int .i64 x1.Turn]) rfl rfl rfl (by kernel_rfl) (by kernel_rfl) (by kernel_rfl) (ST.sel hS3 [] rfl rfl) (fun w' hw' => (Y_loadA (B := B1) (i := (i1 : Int).toNat * 2) (cs := (b.flatMap enc_Affine)) (vs := [.int .i64 x1.Mask, .int .i64 x1.Turn]) k_ag_44 k_sz_44_2 rfl rfl (ST.rf hw' (i := 1) rfl) (enc_Affine_len x1) (gi_seg enc_Affine_len hx1))) ?_
      refine ra_all (rs := [8]) (by kernel_rfl) rfl ?_
      refine ra_c 25 (i := 8) rfl rfl rfl (Yc_func (g := 56) (vs := [.agg #[.int .i64 x.Mask, .int .i64 x.Turn], .agg #[.int .i64 x1.Mask, .int .i64 x1.Turn]]) k_call_56 rfl (mc rfl (mc rfl mn)) (c_laws_eqAffine x x1 _  (hS3.inn0 [] rfl) hc)) ?_ ?_
      · rintro _ w_ ⟨rfl, hd⟩
        have hS4 := hS3.out00 hd
        refine ⟨(ST.sel hS4 [] rfl rfl), ?_⟩
        refine ra_q 9 26 (v := .bool (!r_1)) rfl rfl rfl (by kernel_rfl) (by kernel_rfl) (by kernel_rfl) (ST.sel hS4 [] rfl rfl) (fun w' hw' => (Y_not (p := r_1) rfl rfl)) ?_
        refine ra_done (by kernel_rfl) ?_
        refine cw_cond (b := (!r_1)) rfl (fun hb2 => ?_) (fun hb2 => ?_)
        · skip
          have hF4 := ct hb1 hb2
          refine cw_seq ?_
          refine cw_region ?_
          refine sq 4 rfl rfl (Y_assign (v := .bool false) rfl rfl) ?_
          refine rw_nil ?_
          refine cw_ret ?_
          obtain rfl := some_inj hF4
          obtain rfl := some_inj hL1
          obtain rfl := some_inj hF3
          exact ret1 Tryd.results25 (v1 := .bool false) (resAt_tmp rfl) ⟨rfl, (ST.subR (R' := []) (hS4.sel [] rfl rfl) (fun _ h => by cases h))⟩
        · skip
          have hF5 := cf' hb1 hb2
          refine cw_skip ?_
          refine cw_region ?_
          refine sq 15 rfl rfl (Y_move (v := .int .i64 (i1 : Int)) rfl (hf.get 5 2 rfl)) ?_
          refine sq 16 rfl rfl (Y_add (k := .i64) (a := (i1 : Int)) (b := 1) rfl rfl rfl) ?_
          refine sq 5 rfl rfl (Y_assign (v := .int .i64 (IntKind.i64.wrap ((i1 : Int) + 1))) rfl rfl) ?_
          refine rw_nil ?_
          obtain rfl := some_inj hF5
          exact ⟨k_1, Nat.lt_succ_self _, i1 + 1, (FF.cons (hf.get 0 0 rfl) (FF.cons (hf.get 1 1 rfl) (FF.cons (congrArg (Value.int .i64) (wr_succ hlt1 hN)) FF.nil))), (hS4.sel [] rfl rfl), (by omega), hL1⟩
      exact allR_nil
    · skip
      obtain rfl : k_ = 0 := by have h := of_decide_eq_false hlt; omega
      refine cw_exit rfl ?_
      obtain rfl := some_inj hL
      refine cw_seq ?_
      refine cw_region ?_
      refine sq 4 rfl rfl (Y_assign (v := .bool true) rfl rfl) ?_
      refine rw_nil ?_
      refine cw_ret ?_
      obtain rfl := some_inj hF3
      exact ret1 Tryd.results25 (v1 := .bool true) (resAt_tmp rfl) ⟨rfl, (ST.subR (R' := []) (hS1.sel [] rfl rfl) (fun _ h => by cases h))⟩

theorem c_laws_eqPathSum (a : TPathSum) (b : TPathSum) (B : Option Addr) (c n : Nat) (B1 : Option Addr) (c1 n1 : Nat) (B2 : Option Addr) (c2 n2 : Nat) (B3 : Option Addr) (c3 n3 : Nat) (w0 : World) (hn : a.Terms.length = n) (hn1 : a.Out.length = n1) (hn2 : b.Terms.length = n2) (hn3 : b.Out.length = n3) (hS : ST w0 [] w0 [] [⟨B, (a.Terms.flatMap enc_Term)⟩, ⟨B1, (a.Out.flatMap enc_Affine)⟩, ⟨B2, (b.Terms.flatMap enc_Term)⟩, ⟨B3, (b.Out.flatMap enc_Affine)⟩]) {r_ : Bool} (hF : F_laws_eqPathSum a b = some r_) :
    CV Tryd.prog 9 #[.agg #[.int .i64 a.Ins, .int .i64 a.Vars, .int .i64 a.Root, .int .i64 a.Phase, .slice B n c, .slice B1 n1 c1], .agg #[.int .i64 b.Ins, .int .i64 b.Vars, .int .i64 b.Root, .int .i64 b.Phase, .slice B2 n2 c2, .slice B3 n3 c3]] w0 (fun v w' => v = .bool r_ ∧ ST w0 [] w' [] []) := by
  subst hn
  subst hn1
  subst hn2
  subst hn3
  unfold F_laws_eqPathSum at hF
  refine cv_of_cw 37 Tryd.func9 rfl Tryd.ntmps9 rfl ?_
  refine cw_seq ?_
  refine cw_region ?_
  refine ss 2 rfl rfl (Ys_box (T := 30) (v := .agg #[.int .i64 a.Ins, .int .i64 a.Vars, .int .i64 a.Root, .int .i64 a.Phase, .slice B a.Terms.length c, .slice B1 a.Out.length c1]) (cs := [.int .i64 a.Ins, .int .i64 a.Vars, .int .i64 a.Root, .int .i64 a.Phase, .slice B a.Terms.length c, .slice B1 a.Out.length c1]) (m := 6) hS rfl rfl rfl rfl) ?_
  rintro _ w_ ⟨b1, rfl, hS1⟩
  refine ss 3 rfl rfl (Ys_box (T := 30) (v := .agg #[.int .i64 b.Ins, .int .i64 b.Vars, .int .i64 b.Root, .int .i64 b.Phase, .slice B2 b.Terms.length c2, .slice B3 b.Out.length c3]) (cs := [.int .i64 b.Ins, .int .i64 b.Vars, .int .i64 b.Root, .int .i64 b.Phase, .slice B2 b.Terms.length c2, .slice B3 b.Out.length c3]) (m := 6) hS1 rfl rfl rfl rfl) ?_
  rintro _ w_1 ⟨b2, rfl, hS2⟩
  have hS2 : ST w0 [] _ [⟨some ⟨b1, 0, none⟩, 30, [.int .i64 a.Ins, .int .i64 a.Vars, .int .i64 a.Root, .int .i64 a.Phase, .slice B a.Terms.length c, .slice B1 a.Out.length c1], 6⟩, ⟨some ⟨b2, 0, none⟩, 30, [.int .i64 b.Ins, .int .i64 b.Vars, .int .i64 b.Root, .int .i64 b.Phase, .slice B2 b.Terms.length c2, .slice B3 b.Out.length c3], 6⟩] [⟨B, (a.Terms.flatMap enc_Term)⟩, ⟨B1, (a.Out.flatMap enc_Affine)⟩, ⟨B2, (b.Terms.flatMap enc_Term)⟩, ⟨B3, (b.Out.flatMap enc_Affine)⟩] := hS2
  refine sq 4 rfl rfl (Y_assign (v := .bool false) rfl rfl) ?_
  refine rw_nil ?_
  refine cw_seq ?_
  refine cw_seq ?_
  refine cw_region ?_
  refine sq 5 rfl rfl (Y_fieldAddr (B := some ⟨b1, 0, none⟩) (i := 0) (s := 0) k_fd_30_0_0_3 k_sz_3_1 rfl rfl) ?_
  refine sq 6 rfl rfl (Y_load1 (B := some ⟨b1, 0, none⟩) (i := 0) (cs := [.int .i64 a.Ins, .int .i64 a.Vars, .int .i64 a.Root, .int .i64 a.Phase, .slice B a.Terms.length c, .slice B1 a.Out.length c1]) (v := .int .i64 a.Ins) k_sc_3 rfl rfl (hS2.cf (i := 0) rfl) rfl) ?_
  refine sq 7 rfl rfl (Y_fieldAddr (B := some ⟨b2, 0, none⟩) (i := 0) (s := 0) k_fd_30_0_0_3 k_sz_3_1 rfl rfl) ?_
  refine sq 8 rfl rfl (Y_load1 (B := some ⟨b2, 0, none⟩) (i := 0) (cs := [.int .i64 b.Ins, .int .i64 b.Vars, .int .i64 b.Root, .int .i64 b.Phase, .slice B2 b.Terms.length c2, .slice B3 b.Out.length c3]) (v := .int .i64 b.Ins) k_sc_3 rfl rfl (hS2.cf (i := 1) rfl) rfl) ?_
  refine sq 9 rfl rfl (Y_ne (k := .i64) (a := a.Ins) (b := b.Ins) rfl rfl rfl) ?_
  refine rw_nil ?_
  refine cw_cond (b := (a.Ins != b.Ins)) rfl (fun hb => ?_) (fun hb => ?_)
  · skip
    have hF1 := ct hF hb
    refine cw_seq ?_
    refine cw_region ?_
    refine sq 4 rfl rfl (Y_assign (v := .bool false) rfl rfl) ?_
    refine rw_nil ?_
    refine cw_ret ?_
    obtain rfl := some_inj hF1
    exact ret1 Tryd.results9 (v1 := .bool false) (resAt_tmp rfl) ⟨rfl, (ST.subR (R' := []) (hS2.sel [] rfl rfl) (fun _ h => by cases h))⟩
  · skip
    have hF2 := cf' hF hb
    refine cw_skip ?_
    refine cw_seq ?_
    refine cw_seq ?_
    refine cw_region ?_
    refine sq 10 rfl rfl (Y_fieldAddr (B := some ⟨b1, 0, none⟩) (i := 0) (s := 0) k_fd_30_1_1_3 k_sz_3_1 rfl rfl) ?_
    refine sq 11 rfl rfl (Y_load1 (B := some ⟨b1, 0, none⟩) (i := 1) (cs := [.int .i64 a.Ins, .int .i64 a.Vars, .int .i64 a.Root, .int .i64 a.Phase, .slice B a.Terms.length c, .slice B1 a.Out.length c1]) (v := .int .i64 a.Vars) k_sc_3 rfl rfl (hS2.cf (i := 0) rfl) rfl) ?_
    refine sq 12 rfl rfl (Y_fieldAddr (B := some ⟨b2, 0, none⟩) (i := 0) (s := 0) k_fd_30_1_1_3 k_sz_3_1 rfl rfl) ?_
    refine sq 13 rfl rfl (Y_load1 (B := some ⟨b2, 0, none⟩) (i := 1) (cs := [.int .i64 b.Ins, .int .i64 b.Vars, .int .i64 b.Root, .int .i64 b.Phase, .slice B2 b.Terms.length c2, .slice B3 b.Out.length c3]) (v := .int .i64 b.Vars) k_sc_3 rfl rfl (hS2.cf (i := 1) rfl) rfl) ?_
    refine sq 14 rfl rfl (Y_ne (k := .i64) (a := a.Vars) (b := b.Vars) rfl rfl rfl) ?_
    refine rw_nil ?_
    refine cw_cond (b := (a.Vars != b.Vars)) rfl (fun hb1 => ?_) (fun hb1 => ?_)
    · skip
      have hF3 := ct hF2 hb1
      refine cw_seq ?_
      refine cw_region ?_
      refine sq 4 rfl rfl (Y_assign (v := .bool false) rfl rfl) ?_
      refine rw_nil ?_
      refine cw_ret ?_
      obtain rfl := some_inj hF3
      exact ret1 Tryd.results9 (v1 := .bool false) (resAt_tmp rfl) ⟨rfl, (ST.subR (R' := []) (hS2.sel [] rfl rfl) (fun _ h => by cases h))⟩
    · skip
      have hF4 := cf' hF2 hb1
      refine cw_skip ?_
      refine cw_seq ?_
      refine cw_seq ?_
      refine cw_region ?_
      refine sq 15 rfl rfl (Y_fieldAddr (B := some ⟨b1, 0, none⟩) (i := 0) (s := 0) k_fd_30_2_2_3 k_sz_3_1 rfl rfl) ?_
      refine sq 16 rfl rfl (Y_load1 (B := some ⟨b1, 0, none⟩) (i := 2) (cs := [.int .i64 a.Ins, .int .i64 a.Vars, .int .i64 a.Root, .int .i64 a.Phase, .slice B a.Terms.length c, .slice B1 a.Out.length c1]) (v := .int .i64 a.Root) k_sc_3 rfl rfl (hS2.cf (i := 0) rfl) rfl) ?_
      refine sq 17 rfl rfl (Y_fieldAddr (B := some ⟨b2, 0, none⟩) (i := 0) (s := 0) k_fd_30_2_2_3 k_sz_3_1 rfl rfl) ?_
      refine sq 18 rfl rfl (Y_load1 (B := some ⟨b2, 0, none⟩) (i := 2) (cs := [.int .i64 b.Ins, .int .i64 b.Vars, .int .i64 b.Root, .int .i64 b.Phase, .slice B2 b.Terms.length c2, .slice B3 b.Out.length c3]) (v := .int .i64 b.Root) k_sc_3 rfl rfl (hS2.cf (i := 1) rfl) rfl) ?_
      refine sq 19 rfl rfl (Y_ne (k := .i64) (a := a.Root) (b := b.Root) rfl rfl rfl) ?_
      refine rw_nil ?_
      refine cw_cond (b := (a.Root != b.Root)) rfl (fun hb2 => ?_) (fun hb2 => ?_)
      · skip
        have hF5 := ct hF4 hb2
        refine cw_seq ?_
        refine cw_region ?_
        refine sq 4 rfl rfl (Y_assign (v := .bool false) rfl rfl) ?_
        refine rw_nil ?_
        refine cw_ret ?_
        obtain rfl := some_inj hF5
        exact ret1 Tryd.results9 (v1 := .bool false) (resAt_tmp rfl) ⟨rfl, (ST.subR (R' := []) (hS2.sel [] rfl rfl) (fun _ h => by cases h))⟩
      · skip
        have hF6 := cf' hF4 hb2
        refine cw_skip ?_
        refine cw_seq ?_
        refine cw_seq ?_
        refine cw_region ?_
        refine sq 20 rfl rfl (Y_fieldAddr (B := some ⟨b1, 0, none⟩) (i := 0) (s := 0) k_fd_30_3_3_3 k_sz_3_1 rfl rfl) ?_
        refine sq 21 rfl rfl (Y_load1 (B := some ⟨b1, 0, none⟩) (i := 3) (cs := [.int .i64 a.Ins, .int .i64 a.Vars, .int .i64 a.Root, .int .i64 a.Phase, .slice B a.Terms.length c, .slice B1 a.Out.length c1]) (v := .int .i64 a.Phase) k_sc_3 rfl rfl (hS2.cf (i := 0) rfl) rfl) ?_
        refine sq 22 rfl rfl (Y_fieldAddr (B := some ⟨b2, 0, none⟩) (i := 0) (s := 0) k_fd_30_3_3_3 k_sz_3_1 rfl rfl) ?_
        refine sq 23 rfl rfl (Y_load1 (B := some ⟨b2, 0, none⟩) (i := 3) (cs := [.int .i64 b.Ins, .int .i64 b.Vars, .int .i64 b.Root, .int .i64 b.Phase, .slice B2 b.Terms.length c2, .slice B3 b.Out.length c3]) (v := .int .i64 b.Phase) k_sc_3 rfl rfl (hS2.cf (i := 1) rfl) rfl) ?_
        refine sq 24 rfl rfl (Y_ne (k := .i64) (a := a.Phase) (b := b.Phase) rfl rfl rfl) ?_
        refine rw_nil ?_
        refine cw_cond (b := (a.Phase != b.Phase)) rfl (fun hb3 => ?_) (fun hb3 => ?_)
        · skip
          have hF7 := ct hF6 hb3
          refine cw_seq ?_
          refine cw_region ?_
          refine sq 4 rfl rfl (Y_assign (v := .bool false) rfl rfl) ?_
          refine rw_nil ?_
          refine cw_ret ?_
          obtain rfl := some_inj hF7
          exact ret1 Tryd.results9 (v1 := .bool false) (resAt_tmp rfl) ⟨rfl, (ST.subR (R' := []) (hS2.sel [] rfl rfl) (fun _ h => by cases h))⟩
        · skip
          have hF8 := cf' hF6 hb3
          refine cw_skip ?_
          refine cw_seq ?_
          refine cw_seq ?_
          refine cw_region ?_
          refine sq 25 rfl rfl (Y_fieldAddr (B := some ⟨b1, 0, none⟩) (i := 0) (s := 0) k_fd_30_4_4_27 k_sz_27_1 rfl rfl) ?_
          refine sq 26 rfl rfl (Y_load1 (B := some ⟨b1, 0, none⟩) (i := 4) (cs := [.int .i64 a.Ins, .int .i64 a.Vars, .int .i64 a.Root, .int .i64 a.Phase, .slice B a.Terms.length c, .slice B1 a.Out.length c1]) (v := .slice B a.Terms.length c) k_sc_27 rfl rfl (hS2.cf (i := 0) rfl) rfl) ?_
          refine sq 27 rfl rfl (Y_fieldAddr (B := some ⟨b2, 0, none⟩) (i := 0) (s := 0) k_fd_30_4_4_27 k_sz_27_1 rfl rfl) ?_
          refine sq 28 rfl rfl (Y_load1 (B := some ⟨b2, 0, none⟩) (i := 4) (cs := [.int .i64 b.Ins, .int .i64 b.Vars, .int .i64 b.Root, .int .i64 b.Phase, .slice B2 b.Terms.length c2, .slice B3 b.Out.length c3]) (v := .slice B2 b.Terms.length c2) k_sc_27 rfl rfl (hS2.cf (i := 1) rfl) rfl) ?_
          obtain ⟨r_1, hc, hF8⟩ := bind_inv hF8
          refine sc 29 rfl rfl (Yc_func (g := 24) (vs := [.slice B a.Terms.length c, .slice B2 b.Terms.length c2]) k_call_24 rfl (mc rfl (mc rfl mn)) (c_laws_eqTermS a.Terms b.Terms B c a.Terms.length B2 c2 b.Terms.length _ rfl rfl (hS2.inn0 [(true, 0), (true, 2)] rfl) hc)) ?_
          rintro _ w_2 ⟨rfl, hd⟩
          have hS3 := hS2.out00 hd
          have hS3 : ST w0 [] _ [⟨some ⟨b1, 0, none⟩, 30, [.int .i64 a.Ins, .int .i64 a.Vars, .int .i64 a.Root, .int .i64 a.Phase, .slice B a.Terms.length c, .slice B1 a.Out.length c1], 6⟩, ⟨some ⟨b2, 0, none⟩, 30, [.int .i64 b.Ins, .int .i64 b.Vars, .int .i64 b.Root, .int .i64 b.Phase, .slice B2 b.Terms.length c2, .slice B3 b.Out.length c3], 6⟩] [⟨B, (a.Terms.flatMap enc_Term)⟩, ⟨B1, (a.Out.flatMap enc_Affine)⟩, ⟨B2, (b.Terms.flatMap enc_Term)⟩, ⟨B3, (b.Out.flatMap enc_Affine)⟩] := hS3
          refine sq 30 rfl rfl (Y_not (p := r_1) rfl rfl) ?_
          refine rw_nil ?_
          refine cw_cond (b := (!r_1)) rfl (fun hb4 => ?_) (fun hb4 => ?_)
          · skip
            have hF9 := ct hF8 hb4
            refine cw_seq ?_
            refine cw_region ?_
            refine sq 4 rfl rfl (Y_assign (v := .bool false) rfl rfl) ?_
            refine rw_nil ?_
            refine cw_ret ?_
            obtain rfl := some_inj hF9
            exact ret1 Tryd.results9 (v1 := .bool false) (resAt_tmp rfl) ⟨rfl, (ST.subR (R' := []) (hS3.sel [] rfl rfl) (fun _ h => by cases h))⟩
          · skip
            have hF10 := cf' hF8 hb4
            refine cw_skip ?_
            refine cw_seq ?_
            refine cw_seq ?_
            refine cw_region ?_
            refine sq 31 rfl rfl (Y_fieldAddr (B := some ⟨b1, 0, none⟩) (i := 0) (s := 0) k_fd_30_5_5_28 k_sz_28_1 rfl rfl) ?_
            refine sq 32 rfl rfl (Y_load1 (B := some ⟨b1, 0, none⟩) (i := 5) (cs := [.int .i64 a.Ins, .int .i64 a.Vars, .int .i64 a.Root, .int .i64 a.Phase, .slice B a.Terms.length c, .slice B1 a.Out.length c1]) (v := .slice B1 a.Out.length c1) k_sc_28 rfl rfl (hS3.cf (i := 0) rfl) rfl) ?_
            refine sq 33 rfl rfl (Y_fieldAddr (B := some ⟨b2, 0, none⟩) (i := 0) (s := 0) k_fd_30_5_5_28 k_sz_28_1 rfl rfl) ?_
            refine sq 34 rfl rfl (Y_load1 (B := some ⟨b2, 0, none⟩) (i := 5) (cs := [.int .i64 b.Ins, .int .i64 b.Vars, .int .i64 b.Root, .int .i64 b.Phase, .slice B2 b.Terms.length c2, .slice B3 b.Out.length c3]) (v := .slice B3 b.Out.length c3) k_sc_28 rfl rfl (hS3.cf (i := 1) rfl) rfl) ?_
            obtain ⟨r_2, hc1, hF10⟩ := bind_inv hF10
            refine sc 35 rfl rfl (Yc_func (g := 25) (vs := [.slice B1 a.Out.length c1, .slice B3 b.Out.length c3]) k_call_25 rfl (mc rfl (mc rfl mn)) (c_laws_eqAffineS a.Out b.Out B1 c1 a.Out.length B3 c3 b.Out.length _ rfl rfl (hS3.inn0 [(true, 1), (true, 3)] rfl) hc1)) ?_
            rintro _ w_3 ⟨rfl, hd1⟩
            have hS4 := hS3.out00 hd1
            have hS4 : ST w0 [] _ [⟨some ⟨b1, 0, none⟩, 30, [.int .i64 a.Ins, .int .i64 a.Vars, .int .i64 a.Root, .int .i64 a.Phase, .slice B a.Terms.length c, .slice B1 a.Out.length c1], 6⟩, ⟨some ⟨b2, 0, none⟩, 30, [.int .i64 b.Ins, .int .i64 b.Vars, .int .i64 b.Root, .int .i64 b.Phase, .slice B2 b.Terms.length c2, .slice B3 b.Out.length c3], 6⟩] [⟨B, (a.Terms.flatMap enc_Term)⟩, ⟨B1, (a.Out.flatMap enc_Affine)⟩, ⟨B2, (b.Terms.flatMap enc_Term)⟩, ⟨B3, (b.Out.flatMap enc_Affine)⟩] := hS4
            refine sq 36 rfl rfl (Y_not (p := r_2) rfl rfl) ?_
            refine rw_nil ?_
            refine cw_cond (b := (!r_2)) rfl (fun hb5 => ?_) (fun hb5 => ?_)
            · skip
              have hF11 := ct hF10 hb5
              refine cw_seq ?_
              refine cw_region ?_
              refine sq 4 rfl rfl (Y_assign (v := .bool false) rfl rfl) ?_
              refine rw_nil ?_
              refine cw_ret ?_
              obtain rfl := some_inj hF11
              exact ret1 Tryd.results9 (v1 := .bool false) (resAt_tmp rfl) ⟨rfl, (ST.subR (R' := []) (hS4.sel [] rfl rfl) (fun _ h => by cases h))⟩
            · skip
              have hF12 := cf' hF10 hb5
              refine cw_skip ?_
              refine cw_seq ?_
              refine cw_region ?_
              refine sq 4 rfl rfl (Y_assign (v := .bool true) rfl rfl) ?_
              refine rw_nil ?_
              refine cw_ret ?_
              obtain rfl := some_inj hF12
              exact ret1 Tryd.results9 (v1 := .bool true) (resAt_tmp rfl) ⟨rfl, (ST.subR (R' := []) (hS4.sel [] rfl rfl) (fun _ h => by cases h))⟩

theorem c_laws_markTermS (a : List TTerm) (k_ : Int) (B : Option Addr) (c n : Nat) (w0 : World) (hn : a.length = n) (hS : ST w0 (bl [⟨B, 56, (a.flatMap enc_Term), c * 2⟩]) w0 [⟨B, 56, (a.flatMap enc_Term), c * 2⟩] []) {r_ : Int} {m : List TTerm} (hF : F_laws_markTermS a k_ = some (r_, m)) :
    CV Tryd.prog 26 #[.slice B n c, .int .i64 k_] w0 (fun v w' => v = .int .i64 r_ ∧ m.length = n ∧ ST w0 (bl [⟨B, 56, (a.flatMap enc_Term), c * 2⟩]) w' [⟨B, 56, (m.flatMap enc_Term), c * 2⟩] []) := by
  subst hn
  unfold F_laws_markTermS at hF
  refine cv_of_cw 27 Tryd.func26 rfl Tryd.ntmps26 rfl ?_
  refine cw_seq ?_
  refine cw_region ?_
  refine sq 4 rfl rfl (Y_assign (v := .int .i64 0) rfl rfl) ?_
  refine rw_nil ?_
  refine cw_seq ?_
  refine cw_seq ?_
  refine cw_region ?_
  refine sq 5 rfl rfl (Y_assign (v := .int .i64 0) rfl rfl) ?_
  refine rw_nil ?_
  obtain ⟨hN, hF⟩ := chk_inv hF
  obtain ⟨z, hz, hF1⟩ := bind_inv hF
  refine cw_block ?_
  refine cw_loop (fun k f w => ∃ (i1 : Nat) (m1 : List TTerm) (k_1 : Int), FF f [(0, .slice B a.length c), (1, .int .i64 k_1), (5, .int .i64 (i1 : Int))] ∧ m1.length = a.length ∧ ST w0 (bl [⟨B, 56, (a.flatMap enc_Term), c * 2⟩]) w [⟨B, 56, (m1.flatMap enc_Term), c * 2⟩] [] ∧ i1 + k = a.length ∧ forN F_laws_markTermS_l1 k i1 (m1, k_1) = some z) a.length ⟨0, a, k_, (FF.cons rfl (FF.cons rfl (FF.cons rfl FF.nil))), rfl, (hS.sel [0] rfl rfl), Nat.zero_add _, hz⟩ ?_
  rintro k_2 f w ⟨i1, m1, k_1, hf, hl, hS1, hik, hL⟩
  refine cw_seq ?_
  refine cw_seq ?_
  refine cw_region ?_
  refine sq 6 rfl rfl (Y_move (v := .int .i64 (i1 : Int)) rfl (hf.get 5 2 rfl)) ?_
  refine sq 7 rfl rfl (Y_move (v := .slice B a.length c) rfl (hf.get 0 0 rfl)) ?_
  refine sq 8 rfl rfl (Y_len (B := B) (m := a.length) (c := c) k_sl_27_56 rfl rfl) ?_
  refine sq 9 rfl rfl (Y_lt (k := .i64) (a := (i1 : Int)) (b := (a.length : Int)) rfl rfl rfl) ?_
  refine rw_nil ?_
  refine cw_cond (b := (decide ((i1 : Int) < (a.length : Int)))) rfl (fun hlt => ?_) (fun hlt => ?_)
  · skip
    have hlt1 : i1 < a.length := by have h := of_decide_eq_true hlt; omega
    obtain ⟨k_3, rfl⟩ : ∃ k2, k_2 = k2 + 1 := ⟨k_2 - 1, by omega⟩
    obtain ⟨y, hb, hL1⟩ := forN_go hL
    unfold F_laws_markTermS_l1 at hb
    refine cw_skip ?_
    refine cw_seq ?_
    refine cw_block ?_
    refine cw_seq ?_
    refine cw_region ?_
    refine sq 12 rfl rfl (Y_move (v := .slice B a.length c) rfl (hf.get 0 0 rfl)) ?_
    refine sq 13 rfl rfl (Y_move (v := .int .i64 (i1 : Int)) rfl (hf.get 5 2 rfl)) ?_
    refine sq 14 rfl rfl (Y_move (v := .int .i64 k_1) rfl (hf.get 1 1 rfl)) ?_
    obtain ⟨x, hx, hb⟩ := bind_inv hb
    refine sq 15 rfl rfl (Y_index (B := B) (m := a.length) (c := c) (k := .i64) (i := (i1 : Int)) k_sl_27_56 k_sz_56_2 rfl rfl rfl (gi_isSome enc_Term_len rfl (hS1.cf (i := 0) rfl) hx) (getI_nn hx) (getI_ltI hx hl)) ?_
    refine sq 16 rfl rfl (Y_fieldAddr (B := B) (i := (i1 : Int).toNat * 2) (s := 0) k_fd_56_0_0_3 k_sz_3_1 rfl rfl) ?_
    refine ss0 rfl rfl (Ys_store (i := 0) (s := 1) (B := B) (T' := 56) (v := .int .i64 k_1) (vs := [.int .i64 k_1]) (k := (i1 : Int).toNat * 2 + 0) (cs' := ((m1.set (i1 : Int).toNat (TTerm.mk k_1 x.Coef)).flatMap enc_Term)) hS1 k_sz_3_1 rfl rfl rfl rfl rfl rfl rfl (gi_fit enc_Term_len hx (j := 0) (k := 1) (by decide)) (gi_setf enc_Term_len hx (TTerm.mk k_1 x.Coef) rfl (Nat.le_of_ble_eq_true rfl)) rfl) ?_
    rintro _ w_ ⟨rfl, hS2⟩
    refine rw_nil ?_
    refine cw_seq ?_
    refine cw_region ?_
    refine sq 17 rfl rfl (Y_move (v := .int .i64 k_1) rfl (hf.get 1 1 rfl)) ?_
    refine sq 18 rfl rfl (Y_add (k := .i64) (a := k_1) (b := 1) rfl rfl rfl) ?_
    refine sq 1 rfl rfl (Y_assign (v := .int .i64 (IntKind.i64.wrap (k_1 + 1))) rfl rfl) ?_
    refine rw_nil ?_
    refine cw_seq ?_
    refine cw_region ?_
    refine sq 19 rfl rfl (Y_move (v := .slice B a.length c) rfl (hf.get 0 0 rfl)) ?_
    refine sq 20 rfl rfl (Y_move (v := .int .i64 (i1 : Int)) rfl (hf.get 5 2 rfl)) ?_
    refine sq 21 rfl rfl (Y_move (v := .int .i64 (IntKind.i64.wrap (k_1 + 1))) rfl rfl) ?_
    refine sq 22 rfl rfl (Y_index (B := B) (m := a.length) (c := c) (k := .i64) (i := (i1 : Int)) k_sl_27_56 k_sz_56_2 rfl rfl rfl (gi_isSome enc_Term_len rfl (hS2.cf (i := 0) rfl) (getI_set (y := (TTerm.mk k_1 x.Coef)) hx)) (getI_nn (getI_set (y := (TTerm.mk k_1 x.Coef)) hx)) (getI_ltI (getI_set (y := (TTerm.mk k_1 x.Coef)) hx) (set_len _ _ _ hl))) ?_
    refine sq 23 rfl rfl (Y_fieldAddr (B := B) (i := (i1 : Int).toNat * 2) (s := 0) k_fd_56_1_1_3 k_sz_3_1 rfl rfl) ?_
    refine ss0 rfl rfl (Ys_store (i := 0) (s := 1) (B := B) (T' := 56) (v := .int .i64 (IntKind.i64.wrap (k_1 + 1))) (vs := [.int .i64 (IntKind.i64.wrap (k_1 + 1))]) (k := (i1 : Int).toNat * 2 + 1) (cs' := (((m1.set (i1 : Int).toNat (TTerm.mk k_1 x.Coef)).set (i1 : Int).toNat (TTerm.mk k_1 (IntKind.i64.wrap (k_1 + 1)))).flatMap enc_Term)) hS2 k_sz_3_1 rfl rfl rfl rfl rfl rfl rfl (gi_fit enc_Term_len (getI_set (y := (TTerm.mk k_1 x.Coef)) hx) (j := 1) (k := 1) (by decide)) (gi_setf enc_Term_len (getI_set (y := (TTerm.mk k_1 x.Coef)) hx) (TTerm.mk k_1 (IntKind.i64.wrap (k_1 + 1))) rfl (Nat.le_of_ble_eq_true rfl)) rfl) ?_
    rintro _ w_1 ⟨rfl, hS3⟩
    refine rw_nil ?_
    refine cw_region ?_
    refine sq 24 rfl rfl (Y_move (v := .int .i64 (IntKind.i64.wrap (k_1 + 1))) rfl rfl) ?_
    refine sq 25 rfl rfl (Y_add (k := .i64) (a := (IntKind.i64.wrap (k_1 + 1))) (b := 1) rfl rfl rfl) ?_
    refine sq 1 rfl rfl (Y_assign (v := .int .i64 (IntKind.i64.wrap ((IntKind.i64.wrap (k_1 + 1)) + 1))) rfl rfl) ?_
    refine rw_nil ?_
    refine cw_region ?_
    refine sq 10 rfl rfl (Y_move (v := .int .i64 (i1 : Int)) rfl (hf.get 5 2 rfl)) ?_
    refine sq 11 rfl rfl (Y_add (k := .i64) (a := (i1 : Int)) (b := 1) rfl rfl rfl) ?_
    refine sq 5 rfl rfl (Y_assign (v := .int .i64 (IntKind.i64.wrap ((i1 : Int) + 1))) rfl rfl) ?_
    refine rw_nil ?_
    obtain rfl := some_inj hb
    exact ⟨k_3, Nat.lt_succ_self _, i1 + 1, ((m1.set (i1 : Int).toNat (TTerm.mk k_1 x.Coef)).set (i1 : Int).toNat (TTerm.mk k_1 (IntKind.i64.wrap (k_1 + 1)))), (IntKind.i64.wrap ((IntKind.i64.wrap (k_1 + 1)) + 1)), (FF.cons (hf.get 0 0 rfl) (FF.cons rfl (FF.cons (congrArg (Value.int .i64) (wr_succ hlt1 hN)) FF.nil))), (set_len _ _ _ (set_len _ _ _ hl)), (hS3.sel [0] rfl rfl), (by omega), hL1⟩
  · skip
    obtain rfl : k_2 = 0 := by have h := of_decide_eq_false hlt; omega
    refine cw_exit rfl ?_
    obtain rfl := some_inj hL
    refine cw_seq ?_
    refine cw_region ?_
    refine sq 26 rfl rfl (Y_move (v := .int .i64 k_1) rfl (hf.get 1 1 rfl)) ?_
    refine sq 4 rfl rfl (Y_assign (v := .int .i64 k_1) rfl rfl) ?_
    refine rw_nil ?_
    refine cw_ret ?_
    obtain ⟨rfl, rfl⟩ := pr2 (some_inj hF1)
    exact ret1 Tryd.results26 (v1 := .int .i64 k_1) (resAt_tmp rfl) ⟨rfl, hl, (ST.subR (R' := []) (hS1.sel [0] rfl rfl) (fun _ h => by cases h))⟩

theorem c_laws_markAffineS (a : List TAffine) (k_ : Int) (B : Option Addr) (c n : Nat) (w0 : World) (hn : a.length = n) (hS : ST w0 (bl [⟨B, 44, (a.flatMap enc_Affine), c * 2⟩]) w0 [⟨B, 44, (a.flatMap enc_Affine), c * 2⟩] []) {r_ : Int} {m : List TAffine} (hF : F_laws_markAffineS a k_ = some (r_, m)) :
    CV Tryd.prog 27 #[.slice B n c, .int .i64 k_] w0 (fun v w' => v = .int .i64 r_ ∧ m.length = n ∧ ST w0 (bl [⟨B, 44, (a.flatMap enc_Affine), c * 2⟩]) w' [⟨B, 44, (m.flatMap enc_Affine), c * 2⟩] []) := by
  subst hn
  unfold F_laws_markAffineS at hF
  refine cv_of_cw 27 Tryd.func27 rfl Tryd.ntmps27 rfl ?_
  refine cw_seq ?_
  refine cw_region ?_
  refine sq 4 rfl rfl (Y_assign (v := .int .i64 0) rfl rfl) ?_
  refine rw_nil ?_
  refine cw_seq ?_
  refine cw_seq ?_
  refine cw_region ?_
  refine sq 5 rfl rfl (Y_assign (v := .int .i64 0) rfl rfl) ?_
  refine rw_nil ?_
  obtain ⟨hN, hF⟩ := chk_inv hF
  obtain ⟨z, hz, hF1⟩ := bind_inv hF
  refine cw_block ?_
  refine cw_loop (fun k f w => ∃ (i1 : Nat) (m1 : List TAffine) (k_1 : Int), FF f [(0, .slice B a.length c), (1, .int .i64 k_1), (5, .int .i64 (i1 : Int))] ∧ m1.length = a.length ∧ ST w0 (bl [⟨B, 44, (a.flatMap enc_Affine), c * 2⟩]) w [⟨B, 44, (m1.flatMap enc_Affine), c * 2⟩] [] ∧ i1 + k = a.length ∧ forN F_laws_markAffineS_l1 k i1 (m1, k_1) = some z) a.length ⟨0, a, k_, (FF.cons rfl (FF.cons rfl (FF.cons rfl FF.nil))), rfl, (hS.sel [0] rfl rfl), Nat.zero_add _, hz⟩ ?_
  rintro k_2 f w ⟨i1, m1, k_1, hf, hl, hS1, hik, hL⟩
  refine cw_seq ?_
  refine cw_seq ?_
  refine cw_region ?_
  refine sq 6 rfl rfl (Y_move (v := .int .i64 (i1 : Int)) rfl (hf.get 5 2 rfl)) ?_
  refine sq 7 rfl rfl (Y_move (v := .slice B a.length c) rfl (hf.get 0 0 rfl)) ?_
  refine sq 8 rfl rfl (Y_len (B := B) (m := a.length) (c := c) k_sl_28_44 rfl rfl) ?_
  refine sq 9 rfl rfl (Y_lt (k := .i64) (a := (i1 : Int)) (b := (a.length : Int)) rfl rfl rfl) ?_
  refine rw_nil ?_
  refine cw_cond (b := (decide ((i1 : Int) < (a.length : Int)))) rfl (fun hlt => ?_) (fun hlt => ?_)
  · skip
    have hlt1 : i1 < a.length := by have h := of_decide_eq_true hlt; omega
    obtain ⟨k_3, rfl⟩ : ∃ k2, k_2 = k2 + 1 := ⟨k_2 - 1, by omega⟩
    obtain ⟨y, hb, hL1⟩ := forN_go hL
    unfold F_laws_markAffineS_l1 at hb
    refine cw_skip ?_
    refine cw_seq ?_
    refine cw_block ?_
    refine cw_seq ?_
    refine cw_region ?_
    refine sq 12 rfl rfl (Y_move (v := .slice B a.length c) rfl (hf.get 0 0 rfl)) ?_
    refine sq 13 rfl rfl (Y_move (v := .int .i64 (i1 : Int)) rfl (hf.get 5 2 rfl)) ?_
    refine sq 14 rfl rfl (Y_move (v := .int .i64 k_1) rfl (hf.get 1 1 rfl)) ?_
    obtain ⟨x, hx, hb⟩ := bind_inv hb
    refine sq 15 rfl rfl (Y_index (B := B) (m := a.length) (c := c) (k := .i64) (i := (i1 : Int)) k_sl_28_44 k_sz_44_2 rfl rfl rfl (gi_isSome enc_Affine_len rfl (hS1.cf (i := 0) rfl) hx) (getI_nn hx) (getI_ltI hx hl)) ?_
    refine sq 16 rfl rfl (Y_fieldAddr (B := B) (i := (i1 : Int).toNat * 2) (s := 0) k_fd_44_0_0_3 k_sz_3_1 rfl rfl) ?_
    refine ss0 rfl rfl (Ys_store (i := 0) (s := 1) (B := B) (T' := 44) (v := .int .i64 k_1) (vs := [.int .i64 k_1]) (k := (i1 : Int).toNat * 2 + 0) (cs' := ((m1.set (i1 : Int).toNat (TAffine.mk k_1 x.Turn)).flatMap enc_Affine)) hS1 k_sz_3_1 rfl rfl rfl rfl rfl rfl rfl (gi_fit enc_Affine_len hx (j := 0) (k := 1) (by decide)) (gi_setf enc_Affine_len hx (TAffine.mk k_1 x.Turn) rfl (Nat.le_of_ble_eq_true rfl)) rfl) ?_
    rintro _ w_ ⟨rfl, hS2⟩
    refine rw_nil ?_
    refine cw_seq ?_
    refine cw_region ?_
    refine sq 17 rfl rfl (Y_move (v := .int .i64 k_1) rfl (hf.get 1 1 rfl)) ?_
    refine sq 18 rfl rfl (Y_add (k := .i64) (a := k_1) (b := 1) rfl rfl rfl) ?_
    refine sq 1 rfl rfl (Y_assign (v := .int .i64 (IntKind.i64.wrap (k_1 + 1))) rfl rfl) ?_
    refine rw_nil ?_
    refine cw_seq ?_
    refine cw_region ?_
    refine sq 19 rfl rfl (Y_move (v := .slice B a.length c) rfl (hf.get 0 0 rfl)) ?_
    refine sq 20 rfl rfl (Y_move (v := .int .i64 (i1 : Int)) rfl (hf.get 5 2 rfl)) ?_
    refine sq 21 rfl rfl (Y_move (v := .int .i64 (IntKind.i64.wrap (k_1 + 1))) rfl rfl) ?_
    refine sq 22 rfl rfl (Y_index (B := B) (m := a.length) (c := c) (k := .i64) (i := (i1 : Int)) k_sl_28_44 k_sz_44_2 rfl rfl rfl (gi_isSome enc_Affine_len rfl (hS2.cf (i := 0) rfl) (getI_set (y := (TAffine.mk k_1 x.Turn)) hx)) (getI_nn (getI_set (y := (TAffine.mk k_1 x.Turn)) hx)) (getI_ltI (getI_set (y := (TAffine.mk k_1 x.Turn)) hx) (set_len _ _ _ hl))) ?_
    refine sq 23 rfl rfl (Y_fieldAddr (B := B) (i := (i1 : Int).toNat * 2) (s := 0) k_fd_44_1_1_3 k_sz_3_1 rfl rfl) ?_
    refine ss0 rfl rfl (Ys_store (i := 0) (s := 1) (B := B) (T' := 44) (v := .int .i64 (IntKind.i64.wrap (k_1 + 1))) (vs := [.int .i64 (IntKind.i64.wrap (k_1 + 1))]) (k := (i1 : Int).toNat * 2 + 1) (cs' := (((m1.set (i1 : Int).toNat (TAffine.mk k_1 x.Turn)).set (i1 : Int).toNat (TAffine.mk k_1 (IntKind.i64.wrap (k_1 + 1)))).flatMap enc_Affine)) hS2 k_sz_3_1 rfl rfl rfl rfl rfl rfl rfl (gi_fit enc_Affine_len (getI_set (y := (TAffine.mk k_1 x.Turn)) hx) (j := 1) (k := 1) (by decide)) (gi_setf enc_Affine_len (getI_set (y := (TAffine.mk k_1 x.Turn)) hx) (TAffine.mk k_1 (IntKind.i64.wrap (k_1 + 1))) rfl (Nat.le_of_ble_eq_true rfl)) rfl) ?_
    rintro _ w_1 ⟨rfl, hS3⟩
    refine rw_nil ?_
    refine cw_region ?_
    refine sq 24 rfl rfl (Y_move (v := .int .i64 (IntKind.i64.wrap (k_1 + 1))) rfl rfl) ?_
    refine sq 25 rfl rfl (Y_add (k := .i64) (a := (IntKind.i64.wrap (k_1 + 1))) (b := 1) rfl rfl rfl) ?_
    refine sq 1 rfl rfl (Y_assign (v := .int .i64 (IntKind.i64.wrap ((IntKind.i64.wrap (k_1 + 1)) + 1))) rfl rfl) ?_
    refine rw_nil ?_
    refine cw_region ?_
    refine sq 10 rfl rfl (Y_move (v := .int .i64 (i1 : Int)) rfl (hf.get 5 2 rfl)) ?_
    refine sq 11 rfl rfl (Y_add (k := .i64) (a := (i1 : Int)) (b := 1) rfl rfl rfl) ?_
    refine sq 5 rfl rfl (Y_assign (v := .int .i64 (IntKind.i64.wrap ((i1 : Int) + 1))) rfl rfl) ?_
    refine rw_nil ?_
    obtain rfl := some_inj hb
    exact ⟨k_3, Nat.lt_succ_self _, i1 + 1, ((m1.set (i1 : Int).toNat (TAffine.mk k_1 x.Turn)).set (i1 : Int).toNat (TAffine.mk k_1 (IntKind.i64.wrap (k_1 + 1)))), (IntKind.i64.wrap ((IntKind.i64.wrap (k_1 + 1)) + 1)), (FF.cons (hf.get 0 0 rfl) (FF.cons rfl (FF.cons (congrArg (Value.int .i64) (wr_succ hlt1 hN)) FF.nil))), (set_len _ _ _ (set_len _ _ _ hl)), (hS3.sel [0] rfl rfl), (by omega), hL1⟩
  · skip
    obtain rfl : k_2 = 0 := by have h := of_decide_eq_false hlt; omega
    refine cw_exit rfl ?_
    obtain rfl := some_inj hL
    refine cw_seq ?_
    refine cw_region ?_
    refine sq 26 rfl rfl (Y_move (v := .int .i64 k_1) rfl (hf.get 1 1 rfl)) ?_
    refine sq 4 rfl rfl (Y_assign (v := .int .i64 k_1) rfl rfl) ?_
    refine rw_nil ?_
    refine cw_ret ?_
    obtain ⟨rfl, rfl⟩ := pr2 (some_inj hF1)
    exact ret1 Tryd.results27 (v1 := .int .i64 k_1) (resAt_tmp rfl) ⟨rfl, hl, (ST.subR (R' := []) (hS1.sel [0] rfl rfl) (fun _ h => by cases h))⟩

theorem c_laws_markPathSum (a : TPathSum) (k_ : Int) (B : Option Addr) (c n : Nat) (B1 : Option Addr) (c1 n1 : Nat) (w0 : World) (hn : a.Terms.length = n) (hn1 : a.Out.length = n1) (hS : ST w0 (bl [⟨B, 56, (a.Terms.flatMap enc_Term), c * 2⟩, ⟨B1, 44, (a.Out.flatMap enc_Affine), c1 * 2⟩]) w0 [⟨B, 56, (a.Terms.flatMap enc_Term), c * 2⟩, ⟨B1, 44, (a.Out.flatMap enc_Affine), c1 * 2⟩] []) {r_ : Int} {m : List TTerm} {m1 : List TAffine} (hF : F_laws_markPathSum a k_ = some (r_, m, m1)) :
    CV Tryd.prog 10 #[.agg #[.int .i64 a.Ins, .int .i64 a.Vars, .int .i64 a.Root, .int .i64 a.Phase, .slice B n c, .slice B1 n1 c1], .int .i64 k_] w0 (fun v w' => v = .int .i64 r_ ∧ m.length = n ∧ m1.length = n1 ∧ ST w0 (bl [⟨B, 56, (a.Terms.flatMap enc_Term), c * 2⟩, ⟨B1, 44, (a.Out.flatMap enc_Affine), c1 * 2⟩]) w' [⟨B, 56, (m.flatMap enc_Term), c * 2⟩, ⟨B1, 44, (m1.flatMap enc_Affine), c1 * 2⟩] []) := by
  subst hn
  subst hn1
  unfold F_laws_markPathSum at hF
  refine cv_of_cw 14 Tryd.func10 rfl Tryd.ntmps10 rfl ?_
  refine cw_seq ?_
  refine cw_region ?_
  refine ss 2 rfl rfl (Ys_box (T := 30) (v := .agg #[.int .i64 a.Ins, .int .i64 a.Vars, .int .i64 a.Root, .int .i64 a.Phase, .slice B a.Terms.length c, .slice B1 a.Out.length c1]) (cs := [.int .i64 a.Ins, .int .i64 a.Vars, .int .i64 a.Root, .int .i64 a.Phase, .slice B a.Terms.length c, .slice B1 a.Out.length c1]) (m := 6) hS rfl rfl rfl rfl) ?_
  rintro _ w_ ⟨b, rfl, hS1⟩
  have hS1 : ST w0 (bl [⟨B, 56, (a.Terms.flatMap enc_Term), c * 2⟩, ⟨B1, 44, (a.Out.flatMap enc_Affine), c1 * 2⟩]) _ [⟨B, 56, (a.Terms.flatMap enc_Term), c * 2⟩, ⟨B1, 44, (a.Out.flatMap enc_Affine), c1 * 2⟩, ⟨some ⟨b, 0, none⟩, 30, [.int .i64 a.Ins, .int .i64 a.Vars, .int .i64 a.Root, .int .i64 a.Phase, .slice B a.Terms.length c, .slice B1 a.Out.length c1], 6⟩] [] := hS1
  refine sq 4 rfl rfl (Y_assign (v := .int .i64 0) rfl rfl) ?_
  refine rw_nil ?_
  refine cw_seq ?_
  refine cw_region ?_
  refine sq 5 rfl rfl (Y_fieldAddr (B := some ⟨b, 0, none⟩) (i := 0) (s := 0) k_fd_30_4_4_27 k_sz_27_1 rfl rfl) ?_
  refine sq 6 rfl rfl (Y_load1 (B := some ⟨b, 0, none⟩) (i := 4) (cs := [.int .i64 a.Ins, .int .i64 a.Vars, .int .i64 a.Root, .int .i64 a.Phase, .slice B a.Terms.length c, .slice B1 a.Out.length c1]) (v := .slice B a.Terms.length c) k_sc_27 rfl rfl (hS1.cf (i := 2) rfl) rfl) ?_
  refine sq 7 rfl rfl (Y_move (v := .int .i64 k_) rfl rfl) ?_
  obtain ⟨⟨r_1, m2⟩, hc, hF⟩ := bind_inv hF
  refine sc 8 rfl rfl (Yc_func (g := 26) (vs := [.slice B a.Terms.length c, .int .i64 k_]) k_call_26 rfl (mc rfl (mc rfl mn)) (c_laws_markTermS a.Terms k_ B c a.Terms.length _ rfl (hS1.inn [true, false, false] rfl [] rfl) hc)) ?_
  rintro _ w_1 ⟨rfl, hl, hd⟩
  have hS2 := hS1.out [true, false, false] rfl hd
  have hS2 : ST w0 (bl [⟨B, 56, (a.Terms.flatMap enc_Term), c * 2⟩, ⟨B1, 44, (a.Out.flatMap enc_Affine), c1 * 2⟩]) _ [⟨B1, 44, (a.Out.flatMap enc_Affine), c1 * 2⟩, ⟨some ⟨b, 0, none⟩, 30, [.int .i64 a.Ins, .int .i64 a.Vars, .int .i64 a.Root, .int .i64 a.Phase, .slice B a.Terms.length c, .slice B1 a.Out.length c1], 6⟩, ⟨B, 56, (m2.flatMap enc_Term), c * 2⟩] [] := hS2
  refine sq 1 rfl rfl (Y_assign (v := .int .i64 r_1) rfl rfl) ?_
  refine rw_nil ?_
  refine cw_seq ?_
  refine cw_region ?_
  refine sq 9 rfl rfl (Y_fieldAddr (B := some ⟨b, 0, none⟩) (i := 0) (s := 0) k_fd_30_5_5_28 k_sz_28_1 rfl rfl) ?_
  refine sq 10 rfl rfl (Y_load1 (B := some ⟨b, 0, none⟩) (i := 5) (cs := [.int .i64 a.Ins, .int .i64 a.Vars, .int .i64 a.Root, .int .i64 a.Phase, .slice B a.Terms.length c, .slice B1 a.Out.length c1]) (v := .slice B1 a.Out.length c1) k_sc_28 rfl rfl (hS2.cf (i := 1) rfl) rfl) ?_
  refine sq 11 rfl rfl (Y_move (v := .int .i64 r_1) rfl rfl) ?_
  obtain ⟨⟨r_2, m3⟩, hc1, hF⟩ := bind_inv hF
  refine sc 12 rfl rfl (Yc_func (g := 27) (vs := [.slice B1 a.Out.length c1, .int .i64 r_1]) k_call_27 rfl (mc rfl (mc rfl mn)) (c_laws_markAffineS a.Out r_1 B1 c1 a.Out.length _ rfl (hS2.inn [true, false, false] rfl [] rfl) hc1)) ?_
  rintro _ w_2 ⟨rfl, hl1, hd1⟩
  have hS3 := hS2.out [true, false, false] rfl hd1
  have hS3 : ST w0 (bl [⟨B, 56, (a.Terms.flatMap enc_Term), c * 2⟩, ⟨B1, 44, (a.Out.flatMap enc_Affine), c1 * 2⟩]) _ [⟨some ⟨b, 0, none⟩, 30, [.int .i64 a.Ins, .int .i64 a.Vars, .int .i64 a.Root, .int .i64 a.Phase, .slice B a.Terms.length c, .slice B1 a.Out.length c1], 6⟩, ⟨B, 56, (m2.flatMap enc_Term), c * 2⟩, ⟨B1, 44, (m3.flatMap enc_Affine), c1 * 2⟩] [] := hS3
  refine sq 1 rfl rfl (Y_assign (v := .int .i64 r_2) rfl rfl) ?_
  refine rw_nil ?_
  refine cw_seq ?_
  refine cw_region ?_
  refine sq 13 rfl rfl (Y_move (v := .int .i64 r_2) rfl rfl) ?_
  refine sq 4 rfl rfl (Y_assign (v := .int .i64 r_2) rfl rfl) ?_
  refine rw_nil ?_
  refine cw_ret ?_
  obtain ⟨rfl, rfl, rfl⟩ := pr3 (some_inj hF)
  exact ret1 Tryd.results10 (v1 := .int .i64 r_2) (resAt_tmp rfl) ⟨rfl, hl, hl1, (ST.subR (R' := []) (hS3.sel [1, 2] rfl rfl) (fun _ h => by cases h))⟩

theorem c_laws_heldTermS (a : List TTerm) (k_ : Int) (B : Option Addr) (c n : Nat) (w0 : World) (hn : a.length = n) (hS : ST w0 [] w0 [] [⟨B, (a.flatMap enc_Term)⟩]) {r_ : Int} (hF : F_laws_heldTermS a k_ = some r_) :
    CV Tryd.prog 28 #[.slice B n c, .int .i64 k_] w0 (fun v w' => v = .int .i64 r_ ∧ ST w0 [] w' [] []) := by
  subst hn
  unfold F_laws_heldTermS at hF
  refine cv_of_cw 31 Tryd.func28 rfl Tryd.ntmps28 rfl ?_
  refine cw_seq ?_
  refine cw_region ?_
  refine sq 4 rfl rfl (Y_assign (v := .int .i64 0) rfl rfl) ?_
  refine rw_nil ?_
  refine cw_seq ?_
  refine cw_seq ?_
  refine cw_region ?_
  refine sq 5 rfl rfl (Y_assign (v := .int .i64 0) rfl rfl) ?_
  refine rw_nil ?_
  obtain ⟨hN, hF⟩ := chk_inv hF
  obtain ⟨z, hz, hF1⟩ := bind_inv hF
  refine cw_block ?_
  refine cw_loop (fun k f w => ∃ (i1 : Nat) (k_1 : Int), FF f [(0, .slice B a.length c), (1, .int .i64 k_1), (5, .int .i64 (i1 : Int))] ∧ ST w0 [] w [] [⟨B, (a.flatMap enc_Term)⟩] ∧ i1 + k = a.length ∧ forX (F_laws_heldTermS_l1 a) k i1 k_1 = some z) a.length ⟨0, k_, (FF.cons rfl (FF.cons rfl (FF.cons rfl FF.nil))), (hS.sel [] rfl rfl), Nat.zero_add _, hz⟩ ?_
  rintro k_2 f w ⟨i1, k_1, hf, hS1, hik, hL⟩
  refine cw_seq ?_
  refine cw_seq ?_
  refine cw_region ?_
  refine sq 6 rfl rfl (Y_move (v := .int .i64 (i1 : Int)) rfl (hf.get 5 2 rfl)) ?_
  refine sq 7 rfl rfl (Y_move (v := .slice B a.length c) rfl (hf.get 0 0 rfl)) ?_
  refine sq 8 rfl rfl (Y_len (B := B) (m := a.length) (c := c) k_sl_27_56 rfl rfl) ?_
  refine sq 9 rfl rfl (Y_lt (k := .i64) (a := (i1 : Int)) (b := (a.length : Int)) rfl rfl rfl) ?_
  refine rw_nil ?_
  refine cw_cond (b := (decide ((i1 : Int) < (a.length : Int)))) rfl (fun hlt => ?_) (fun hlt => ?_)
  · skip
    have hlt1 : i1 < a.length := by have h := of_decide_eq_true hlt; omega
    obtain ⟨k_3, rfl⟩ : ∃ k2, k_2 = k2 + 1 := ⟨k_2 - 1, by omega⟩
    obtain ⟨y, hb, hL1⟩ := forX_go hL
    unfold F_laws_heldTermS_l1 at hb
    refine cw_skip ?_
    refine cw_seq ?_
    refine cw_block ?_
    refine cw_seq ?_
    refine cw_seq ?_
    refine cw_region ?_
    refine sq 12 rfl rfl (Y_move (v := .slice B a.length c) rfl (hf.get 0 0 rfl)) ?_
    refine sq 13 rfl rfl (Y_move (v := .int .i64 (i1 : Int)) rfl (hf.get 5 2 rfl)) ?_
    obtain ⟨x, hx, hb⟩ := bind_inv hb
    refine sq 14 rfl rfl (Y_index (B := B) (m := a.length) (c := c) (k := .i64) (i := (i1 : Int)) k_sl_27_56 k_sz_56_2 rfl rfl rfl (gi_isSome enc_Term_len rfl (hS1.rf (i := 0) rfl) hx) (getI_nn hx) (getI_ltI hx rfl)) ?_
    refine sq 15 rfl rfl (Y_fieldAddr (B := B) (i := (i1 : Int).toNat * 2) (s := 0) k_fd_56_0_0_3 k_sz_3_1 rfl rfl) ?_
    refine sq 16 rfl rfl (Y_load1 (B := B) (i := (i1 : Int).toNat * 2 + 0) (cs := (a.flatMap enc_Term)) (v := .int .i64 x.Mask) k_sc_3 rfl rfl (hS1.rf (i := 0) rfl) (gi_at enc_Term_len hx rfl)) ?_
    refine sq 17 rfl rfl (Y_move (v := .int .i64 k_1) rfl (hf.get 1 1 rfl)) ?_
    refine sq 18 rfl rfl (Y_ne (k := .i64) (a := x.Mask) (b := k_1) rfl rfl rfl) ?_
    refine rw_nil ?_
    refine cw_cond (b := (x.Mask != k_1)) rfl (fun hb1 => ?_) (fun hb1 => ?_)
    · skip
      have hF2 := ct hb hb1
      refine cw_seq ?_
      refine cw_region ?_
      refine sq 4 rfl rfl (Y_assign (v := .int .i64 (-1)) rfl rfl) ?_
      refine rw_nil ?_
      refine cw_ret ?_
      obtain rfl := some_inj hF2
      obtain rfl := some_inj hL1
      obtain rfl := some_inj hF1
      exact ret1 Tryd.results28 (v1 := .int .i64 (-1)) (resAt_tmp rfl) ⟨rfl, (ST.subR (R' := []) (hS1.sel [] rfl rfl) (fun _ h => by cases h))⟩
    · skip
      have hF3 := cf' hb hb1
      refine cw_skip ?_
      refine cw_seq ?_
      refine cw_region ?_
      refine sq 19 rfl rfl (Y_move (v := .int .i64 k_1) rfl (hf.get 1 1 rfl)) ?_
      refine sq 20 rfl rfl (Y_add (k := .i64) (a := k_1) (b := 1) rfl rfl rfl) ?_
      refine sq 1 rfl rfl (Y_assign (v := .int .i64 (IntKind.i64.wrap (k_1 + 1))) rfl rfl) ?_
      refine rw_nil ?_
      refine cw_seq ?_
      refine cw_seq ?_
      refine cw_region ?_
      refine sq 21 rfl rfl (Y_move (v := .slice B a.length c) rfl (hf.get 0 0 rfl)) ?_
      refine sq 22 rfl rfl (Y_move (v := .int .i64 (i1 : Int)) rfl (hf.get 5 2 rfl)) ?_
      refine sq 23 rfl rfl (Y_index (B := B) (m := a.length) (c := c) (k := .i64) (i := (i1 : Int)) k_sl_27_56 k_sz_56_2 rfl rfl rfl (gi_isSome enc_Term_len rfl (hS1.rf (i := 0) rfl) hx) (getI_nn hx) (getI_ltI hx rfl)) ?_
      refine sq 24 rfl rfl (Y_fieldAddr (B := B) (i := (i1 : Int).toNat * 2) (s := 0) k_fd_56_1_1_3 k_sz_3_1 rfl rfl) ?_
      refine sq 25 rfl rfl (Y_load1 (B := B) (i := (i1 : Int).toNat * 2 + 1) (cs := (a.flatMap enc_Term)) (v := .int .i64 x.Coef) k_sc_3 rfl rfl (hS1.rf (i := 0) rfl) (gi_at enc_Term_len hx rfl)) ?_
      refine sq 26 rfl rfl (Y_move (v := .int .i64 (IntKind.i64.wrap (k_1 + 1))) rfl rfl) ?_
      refine sq 27 rfl rfl (Y_ne (k := .i64) (a := x.Coef) (b := (IntKind.i64.wrap (k_1 + 1))) rfl rfl rfl) ?_
      refine rw_nil ?_
      refine cw_cond (b := (x.Coef != (IntKind.i64.wrap (k_1 + 1)))) rfl (fun hb2 => ?_) (fun hb2 => ?_)
      · skip
        have hF4 := ct hF3 hb2
        refine cw_seq ?_
        refine cw_region ?_
        refine sq 4 rfl rfl (Y_assign (v := .int .i64 (-1)) rfl rfl) ?_
        refine rw_nil ?_
        refine cw_ret ?_
        obtain rfl := some_inj hF4
        obtain rfl := some_inj hL1
        obtain rfl := some_inj hF1
        exact ret1 Tryd.results28 (v1 := .int .i64 (-1)) (resAt_tmp rfl) ⟨rfl, (ST.subR (R' := []) (hS1.sel [] rfl rfl) (fun _ h => by cases h))⟩
      · skip
        have hF5 := cf' hF3 hb2
        refine cw_skip ?_
        refine cw_region ?_
        refine sq 28 rfl rfl (Y_move (v := .int .i64 (IntKind.i64.wrap (k_1 + 1))) rfl rfl) ?_
        refine sq 29 rfl rfl (Y_add (k := .i64) (a := (IntKind.i64.wrap (k_1 + 1))) (b := 1) rfl rfl rfl) ?_
        refine sq 1 rfl rfl (Y_assign (v := .int .i64 (IntKind.i64.wrap ((IntKind.i64.wrap (k_1 + 1)) + 1))) rfl rfl) ?_
        refine rw_nil ?_
        refine cw_region ?_
        refine sq 10 rfl rfl (Y_move (v := .int .i64 (i1 : Int)) rfl (hf.get 5 2 rfl)) ?_
        refine sq 11 rfl rfl (Y_add (k := .i64) (a := (i1 : Int)) (b := 1) rfl rfl rfl) ?_
        refine sq 5 rfl rfl (Y_assign (v := .int .i64 (IntKind.i64.wrap ((i1 : Int) + 1))) rfl rfl) ?_
        refine rw_nil ?_
        obtain rfl := some_inj hF5
        exact ⟨k_3, Nat.lt_succ_self _, i1 + 1, (IntKind.i64.wrap ((IntKind.i64.wrap (k_1 + 1)) + 1)), (FF.cons (hf.get 0 0 rfl) (FF.cons rfl (FF.cons (congrArg (Value.int .i64) (wr_succ hlt1 hN)) FF.nil))), (hS1.sel [] rfl rfl), (by omega), hL1⟩
  · skip
    obtain rfl : k_2 = 0 := by have h := of_decide_eq_false hlt; omega
    refine cw_exit rfl ?_
    obtain rfl := some_inj hL
    refine cw_seq ?_
    refine cw_region ?_
    refine sq 30 rfl rfl (Y_move (v := .int .i64 k_1) rfl (hf.get 1 1 rfl)) ?_
    refine sq 4 rfl rfl (Y_assign (v := .int .i64 k_1) rfl rfl) ?_
    refine rw_nil ?_
    refine cw_ret ?_
    obtain rfl := some_inj hF1
    exact ret1 Tryd.results28 (v1 := .int .i64 k_1) (resAt_tmp rfl) ⟨rfl, (ST.subR (R' := []) (hS1.sel [] rfl rfl) (fun _ h => by cases h))⟩

theorem c_laws_heldAffineS (a : List TAffine) (k_ : Int) (B : Option Addr) (c n : Nat) (w0 : World) (hn : a.length = n) (hS : ST w0 [] w0 [] [⟨B, (a.flatMap enc_Affine)⟩]) {r_ : Int} (hF : F_laws_heldAffineS a k_ = some r_) :
    CV Tryd.prog 29 #[.slice B n c, .int .i64 k_] w0 (fun v w' => v = .int .i64 r_ ∧ ST w0 [] w' [] []) := by
  subst hn
  unfold F_laws_heldAffineS at hF
  refine cv_of_cw 31 Tryd.func29 rfl Tryd.ntmps29 rfl ?_
  refine cw_seq ?_
  refine cw_region ?_
  refine sq 4 rfl rfl (Y_assign (v := .int .i64 0) rfl rfl) ?_
  refine rw_nil ?_
  refine cw_seq ?_
  refine cw_seq ?_
  refine cw_region ?_
  refine sq 5 rfl rfl (Y_assign (v := .int .i64 0) rfl rfl) ?_
  refine rw_nil ?_
  obtain ⟨hN, hF⟩ := chk_inv hF
  obtain ⟨z, hz, hF1⟩ := bind_inv hF
  refine cw_block ?_
  refine cw_loop (fun k f w => ∃ (i1 : Nat) (k_1 : Int), FF f [(0, .slice B a.length c), (1, .int .i64 k_1), (5, .int .i64 (i1 : Int))] ∧ ST w0 [] w [] [⟨B, (a.flatMap enc_Affine)⟩] ∧ i1 + k = a.length ∧ forX (F_laws_heldAffineS_l1 a) k i1 k_1 = some z) a.length ⟨0, k_, (FF.cons rfl (FF.cons rfl (FF.cons rfl FF.nil))), (hS.sel [] rfl rfl), Nat.zero_add _, hz⟩ ?_
  rintro k_2 f w ⟨i1, k_1, hf, hS1, hik, hL⟩
  refine cw_seq ?_
  refine cw_seq ?_
  refine cw_region ?_
  refine sq 6 rfl rfl (Y_move (v := .int .i64 (i1 : Int)) rfl (hf.get 5 2 rfl)) ?_
  refine sq 7 rfl rfl (Y_move (v := .slice B a.length c) rfl (hf.get 0 0 rfl)) ?_
  refine sq 8 rfl rfl (Y_len (B := B) (m := a.length) (c := c) k_sl_28_44 rfl rfl) ?_
  refine sq 9 rfl rfl (Y_lt (k := .i64) (a := (i1 : Int)) (b := (a.length : Int)) rfl rfl rfl) ?_
  refine rw_nil ?_
  refine cw_cond (b := (decide ((i1 : Int) < (a.length : Int)))) rfl (fun hlt => ?_) (fun hlt => ?_)
  · skip
    have hlt1 : i1 < a.length := by have h := of_decide_eq_true hlt; omega
    obtain ⟨k_3, rfl⟩ : ∃ k2, k_2 = k2 + 1 := ⟨k_2 - 1, by omega⟩
    obtain ⟨y, hb, hL1⟩ := forX_go hL
    unfold F_laws_heldAffineS_l1 at hb
    refine cw_skip ?_
    refine cw_seq ?_
    refine cw_block ?_
    refine cw_seq ?_
    refine cw_seq ?_
    refine cw_region ?_
    refine sq 12 rfl rfl (Y_move (v := .slice B a.length c) rfl (hf.get 0 0 rfl)) ?_
    refine sq 13 rfl rfl (Y_move (v := .int .i64 (i1 : Int)) rfl (hf.get 5 2 rfl)) ?_
    obtain ⟨x, hx, hb⟩ := bind_inv hb
    refine sq 14 rfl rfl (Y_index (B := B) (m := a.length) (c := c) (k := .i64) (i := (i1 : Int)) k_sl_28_44 k_sz_44_2 rfl rfl rfl (gi_isSome enc_Affine_len rfl (hS1.rf (i := 0) rfl) hx) (getI_nn hx) (getI_ltI hx rfl)) ?_
    refine sq 15 rfl rfl (Y_fieldAddr (B := B) (i := (i1 : Int).toNat * 2) (s := 0) k_fd_44_0_0_3 k_sz_3_1 rfl rfl) ?_
    refine sq 16 rfl rfl (Y_load1 (B := B) (i := (i1 : Int).toNat * 2 + 0) (cs := (a.flatMap enc_Affine)) (v := .int .i64 x.Mask) k_sc_3 rfl rfl (hS1.rf (i := 0) rfl) (gi_at enc_Affine_len hx rfl)) ?_
    refine sq 17 rfl rfl (Y_move (v := .int .i64 k_1) rfl (hf.get 1 1 rfl)) ?_
    refine sq 18 rfl rfl (Y_ne (k := .i64) (a := x.Mask) (b := k_1) rfl rfl rfl) ?_
    refine rw_nil ?_
    refine cw_cond (b := (x.Mask != k_1)) rfl (fun hb1 => ?_) (fun hb1 => ?_)
    · skip
      have hF2 := ct hb hb1
      refine cw_seq ?_
      refine cw_region ?_
      refine sq 4 rfl rfl (Y_assign (v := .int .i64 (-1)) rfl rfl) ?_
      refine rw_nil ?_
      refine cw_ret ?_
      obtain rfl := some_inj hF2
      obtain rfl := some_inj hL1
      obtain rfl := some_inj hF1
      exact ret1 Tryd.results29 (v1 := .int .i64 (-1)) (resAt_tmp rfl) ⟨rfl, (ST.subR (R' := []) (hS1.sel [] rfl rfl) (fun _ h => by cases h))⟩
    · skip
      have hF3 := cf' hb hb1
      refine cw_skip ?_
      refine cw_seq ?_
      refine cw_region ?_
      refine sq 19 rfl rfl (Y_move (v := .int .i64 k_1) rfl (hf.get 1 1 rfl)) ?_
      refine sq 20 rfl rfl (Y_add (k := .i64) (a := k_1) (b := 1) rfl rfl rfl) ?_
      refine sq 1 rfl rfl (Y_assign (v := .int .i64 (IntKind.i64.wrap (k_1 + 1))) rfl rfl) ?_
      refine rw_nil ?_
      refine cw_seq ?_
      refine cw_seq ?_
      refine cw_region ?_
      refine sq 21 rfl rfl (Y_move (v := .slice B a.length c) rfl (hf.get 0 0 rfl)) ?_
      refine sq 22 rfl rfl (Y_move (v := .int .i64 (i1 : Int)) rfl (hf.get 5 2 rfl)) ?_
      refine sq 23 rfl rfl (Y_index (B := B) (m := a.length) (c := c) (k := .i64) (i := (i1 : Int)) k_sl_28_44 k_sz_44_2 rfl rfl rfl (gi_isSome enc_Affine_len rfl (hS1.rf (i := 0) rfl) hx) (getI_nn hx) (getI_ltI hx rfl)) ?_
      refine sq 24 rfl rfl (Y_fieldAddr (B := B) (i := (i1 : Int).toNat * 2) (s := 0) k_fd_44_1_1_3 k_sz_3_1 rfl rfl) ?_
      refine sq 25 rfl rfl (Y_load1 (B := B) (i := (i1 : Int).toNat * 2 + 1) (cs := (a.flatMap enc_Affine)) (v := .int .i64 x.Turn) k_sc_3 rfl rfl (hS1.rf (i := 0) rfl) (gi_at enc_Affine_len hx rfl)) ?_
      refine sq 26 rfl rfl (Y_move (v := .int .i64 (IntKind.i64.wrap (k_1 + 1))) rfl rfl) ?_
      refine sq 27 rfl rfl (Y_ne (k := .i64) (a := x.Turn) (b := (IntKind.i64.wrap (k_1 + 1))) rfl rfl rfl) ?_
      refine rw_nil ?_
      refine cw_cond (b := (x.Turn != (IntKind.i64.wrap (k_1 + 1)))) rfl (fun hb2 => ?_) (fun hb2 => ?_)
      · skip
        have hF4 := ct hF3 hb2
        refine cw_seq ?_
        refine cw_region ?_
        refine sq 4 rfl rfl (Y_assign (v := .int .i64 (-1)) rfl rfl) ?_
        refine rw_nil ?_
        refine cw_ret ?_
        obtain rfl := some_inj hF4
        obtain rfl := some_inj hL1
        obtain rfl := some_inj hF1
        exact ret1 Tryd.results29 (v1 := .int .i64 (-1)) (resAt_tmp rfl) ⟨rfl, (ST.subR (R' := []) (hS1.sel [] rfl rfl) (fun _ h => by cases h))⟩
      · skip
        have hF5 := cf' hF3 hb2
        refine cw_skip ?_
        refine cw_region ?_
        refine sq 28 rfl rfl (Y_move (v := .int .i64 (IntKind.i64.wrap (k_1 + 1))) rfl rfl) ?_
        refine sq 29 rfl rfl (Y_add (k := .i64) (a := (IntKind.i64.wrap (k_1 + 1))) (b := 1) rfl rfl rfl) ?_
        refine sq 1 rfl rfl (Y_assign (v := .int .i64 (IntKind.i64.wrap ((IntKind.i64.wrap (k_1 + 1)) + 1))) rfl rfl) ?_
        refine rw_nil ?_
        refine cw_region ?_
        refine sq 10 rfl rfl (Y_move (v := .int .i64 (i1 : Int)) rfl (hf.get 5 2 rfl)) ?_
        refine sq 11 rfl rfl (Y_add (k := .i64) (a := (i1 : Int)) (b := 1) rfl rfl rfl) ?_
        refine sq 5 rfl rfl (Y_assign (v := .int .i64 (IntKind.i64.wrap ((i1 : Int) + 1))) rfl rfl) ?_
        refine rw_nil ?_
        obtain rfl := some_inj hF5
        exact ⟨k_3, Nat.lt_succ_self _, i1 + 1, (IntKind.i64.wrap ((IntKind.i64.wrap (k_1 + 1)) + 1)), (FF.cons (hf.get 0 0 rfl) (FF.cons rfl (FF.cons (congrArg (Value.int .i64) (wr_succ hlt1 hN)) FF.nil))), (hS1.sel [] rfl rfl), (by omega), hL1⟩
  · skip
    obtain rfl : k_2 = 0 := by have h := of_decide_eq_false hlt; omega
    refine cw_exit rfl ?_
    obtain rfl := some_inj hL
    refine cw_seq ?_
    refine cw_region ?_
    refine sq 30 rfl rfl (Y_move (v := .int .i64 k_1) rfl (hf.get 1 1 rfl)) ?_
    refine sq 4 rfl rfl (Y_assign (v := .int .i64 k_1) rfl rfl) ?_
    refine rw_nil ?_
    refine cw_ret ?_
    obtain rfl := some_inj hF1
    exact ret1 Tryd.results29 (v1 := .int .i64 k_1) (resAt_tmp rfl) ⟨rfl, (ST.subR (R' := []) (hS1.sel [] rfl rfl) (fun _ h => by cases h))⟩

theorem c_laws_heldPathSum (a : TPathSum) (k_ : Int) (B : Option Addr) (c n : Nat) (B1 : Option Addr) (c1 n1 : Nat) (w0 : World) (hn : a.Terms.length = n) (hn1 : a.Out.length = n1) (hS : ST w0 [] w0 [] [⟨B, (a.Terms.flatMap enc_Term)⟩, ⟨B1, (a.Out.flatMap enc_Affine)⟩]) {r_ : Int} (hF : F_laws_heldPathSum a k_ = some r_) :
    CV Tryd.prog 11 #[.agg #[.int .i64 a.Ins, .int .i64 a.Vars, .int .i64 a.Root, .int .i64 a.Phase, .slice B n c, .slice B1 n1 c1], .int .i64 k_] w0 (fun v w' => v = .int .i64 r_ ∧ ST w0 [] w' [] []) := by
  subst hn
  subst hn1
  unfold F_laws_heldPathSum at hF
  refine cv_of_cw 18 Tryd.func11 rfl Tryd.ntmps11 rfl ?_
  refine cw_seq ?_
  refine cw_region ?_
  refine ss 2 rfl rfl (Ys_box (T := 30) (v := .agg #[.int .i64 a.Ins, .int .i64 a.Vars, .int .i64 a.Root, .int .i64 a.Phase, .slice B a.Terms.length c, .slice B1 a.Out.length c1]) (cs := [.int .i64 a.Ins, .int .i64 a.Vars, .int .i64 a.Root, .int .i64 a.Phase, .slice B a.Terms.length c, .slice B1 a.Out.length c1]) (m := 6) hS rfl rfl rfl rfl) ?_
  rintro _ w_ ⟨b, rfl, hS1⟩
  refine sq 4 rfl rfl (Y_assign (v := .int .i64 0) rfl rfl) ?_
  refine rw_nil ?_
  refine cw_seq ?_
  refine cw_region ?_
  refine sq 5 rfl rfl (Y_fieldAddr (B := some ⟨b, 0, none⟩) (i := 0) (s := 0) k_fd_30_4_4_27 k_sz_27_1 rfl rfl) ?_
  refine sq 6 rfl rfl (Y_load1 (B := some ⟨b, 0, none⟩) (i := 4) (cs := [.int .i64 a.Ins, .int .i64 a.Vars, .int .i64 a.Root, .int .i64 a.Phase, .slice B a.Terms.length c, .slice B1 a.Out.length c1]) (v := .slice B a.Terms.length c) k_sc_27 rfl rfl (hS1.cf (i := 0) rfl) rfl) ?_
  refine sq 7 rfl rfl (Y_move (v := .int .i64 k_) rfl rfl) ?_
  obtain ⟨r_1, hc, hF⟩ := bind_inv hF
  refine sc 8 rfl rfl (Yc_func (g := 28) (vs := [.slice B a.Terms.length c, .int .i64 k_]) k_call_28 rfl (mc rfl (mc rfl mn)) (c_laws_heldTermS a.Terms k_ B c a.Terms.length _ rfl (hS1.inn0 [(true, 0)] rfl) hc)) ?_
  rintro _ w_1 ⟨rfl, hd⟩
  have hS2 := hS1.out00 hd
  refine sq 1 rfl rfl (Y_assign (v := .int .i64 r_1) rfl rfl) ?_
  refine rw_nil ?_
  refine cw_seq ?_
  refine cw_seq ?_
  refine cw_region ?_
  refine sq 9 rfl rfl (Y_move (v := .int .i64 r_1) rfl rfl) ?_
  refine sq 10 rfl rfl (Y_lt (k := .i64) (a := r_1) (b := 0) rfl rfl rfl) ?_
  refine rw_nil ?_
  refine cw_cond (b := (decide (r_1 < 0))) rfl (fun hb => ?_) (fun hb => ?_)
  · skip
    have hF1 := ct hF hb
    refine cw_seq ?_
    refine cw_region ?_
    refine sq 4 rfl rfl (Y_assign (v := .int .i64 (-1)) rfl rfl) ?_
    refine rw_nil ?_
    refine cw_ret ?_
    obtain rfl := some_inj hF1
    exact ret1 Tryd.results11 (v1 := .int .i64 (-1)) (resAt_tmp rfl) ⟨rfl, (ST.subR (R' := []) (hS2.sel [] rfl rfl) (fun _ h => by cases h))⟩
  · skip
    have hF2 := cf' hF hb
    refine cw_skip ?_
    refine cw_seq ?_
    refine cw_region ?_
    refine sq 11 rfl rfl (Y_fieldAddr (B := some ⟨b, 0, none⟩) (i := 0) (s := 0) k_fd_30_5_5_28 k_sz_28_1 rfl rfl) ?_
    refine sq 12 rfl rfl (Y_load1 (B := some ⟨b, 0, none⟩) (i := 5) (cs := [.int .i64 a.Ins, .int .i64 a.Vars, .int .i64 a.Root, .int .i64 a.Phase, .slice B a.Terms.length c, .slice B1 a.Out.length c1]) (v := .slice B1 a.Out.length c1) k_sc_28 rfl rfl (hS2.cf (i := 0) rfl) rfl) ?_
    refine sq 13 rfl rfl (Y_move (v := .int .i64 r_1) rfl rfl) ?_
    obtain ⟨r_2, hc1, hF2⟩ := bind_inv hF2
    refine sc 14 rfl rfl (Yc_func (g := 29) (vs := [.slice B1 a.Out.length c1, .int .i64 r_1]) k_call_29 rfl (mc rfl (mc rfl mn)) (c_laws_heldAffineS a.Out r_1 B1 c1 a.Out.length _ rfl (hS2.inn0 [(true, 1)] rfl) hc1)) ?_
    rintro _ w_2 ⟨rfl, hd1⟩
    have hS3 := hS2.out00 hd1
    refine sq 1 rfl rfl (Y_assign (v := .int .i64 r_2) rfl rfl) ?_
    refine rw_nil ?_
    refine cw_seq ?_
    refine cw_seq ?_
    refine cw_region ?_
    refine sq 15 rfl rfl (Y_move (v := .int .i64 r_2) rfl rfl) ?_
    refine sq 16 rfl rfl (Y_lt (k := .i64) (a := r_2) (b := 0) rfl rfl rfl) ?_
    refine rw_nil ?_
    refine cw_cond (b := (decide (r_2 < 0))) rfl (fun hb1 => ?_) (fun hb1 => ?_)
    · skip
      have hF3 := ct hF2 hb1
      refine cw_seq ?_
      refine cw_region ?_
      refine sq 4 rfl rfl (Y_assign (v := .int .i64 (-1)) rfl rfl) ?_
      refine rw_nil ?_
      refine cw_ret ?_
      obtain rfl := some_inj hF3
      exact ret1 Tryd.results11 (v1 := .int .i64 (-1)) (resAt_tmp rfl) ⟨rfl, (ST.subR (R' := []) (hS3.sel [] rfl rfl) (fun _ h => by cases h))⟩
    · skip
      have hF4 := cf' hF2 hb1
      refine cw_skip ?_
      refine cw_seq ?_
      refine cw_region ?_
      refine sq 17 rfl rfl (Y_move (v := .int .i64 r_2) rfl rfl) ?_
      refine sq 4 rfl rfl (Y_assign (v := .int .i64 r_2) rfl rfl) ?_
      refine rw_nil ?_
      refine cw_ret ?_
      obtain rfl := some_inj hF4
      exact ret1 Tryd.results11 (v1 := .int .i64 r_2) (resAt_tmp rfl) ⟨rfl, (ST.subR (R' := []) (hS3.sel [] rfl rfl) (fun _ h => by cases h))⟩

theorem c_laws_FnExactReduceStep (aP : TPathSum) (B : Option Addr) (c n : Nat) (B1 : Option Addr) (c1 n1 : Nat) (w0 : World) (hn : aP.Terms.length = n) (hn1 : aP.Out.length = n1) (hS : ST w0 [] w0 [] [⟨B, (aP.Terms.flatMap enc_Term)⟩, ⟨B1, (aP.Out.flatMap enc_Affine)⟩, ⟨(some ⟨0, 0, none⟩), (gl0.flatMap enc_u8)⟩, ⟨(some ⟨1, 0, none⟩), (gl1.flatMap enc_u8)⟩]) {r_ : Bool} (hF : F_laws_FnExactReduceStep aP = some r_) :
    CV Tryd.prog 3 #[.agg #[.int .i64 aP.Ins, .int .i64 aP.Vars, .int .i64 aP.Root, .int .i64 aP.Phase, .slice B n c, .slice B1 n1 c1]] w0 (fun v w' => v = .bool r_ ∧ ST w0 [] w' [] []) := by
  subst hn
  subst hn1
  unfold F_laws_FnExactReduceStep at hF
  refine cv_of_cw 117 Tryd.func3 rfl Tryd.ntmps3 rfl ?_
  refine cw_seq ?_
  refine cw_region ?_
  refine ss 1 rfl rfl (Ys_box (T := 25) (v := .agg #[.int .i64 aP.Ins, .int .i64 aP.Vars, .int .i64 aP.Root, .int .i64 aP.Phase, .slice B aP.Terms.length c, .slice B1 aP.Out.length c1]) (cs := [.int .i64 aP.Ins, .int .i64 aP.Vars, .int .i64 aP.Root, .int .i64 aP.Phase, .slice B aP.Terms.length c, .slice B1 aP.Out.length c1]) (m := 6) hS rfl rfl rfl rfl) ?_
  rintro _ w_ ⟨b, rfl, hS1⟩
  refine sq 2 rfl rfl (Y_assign (v := .bool false) rfl rfl) ?_
  refine rw_nil ?_
  refine cw_seq ?_
  refine cw_region ?_
  refine sq 3 rfl rfl (Y_assign (v := .int .i64 1048576) rfl rfl) ?_
  refine rw_nil ?_
  refine cw_seq ?_
  refine cw_region ?_
  refine sq 17 rfl rfl (Y_loadA (B := some ⟨b, 0, none⟩) (i := 0) (cs := [.int .i64 aP.Ins, .int .i64 aP.Vars, .int .i64 aP.Root, .int .i64 aP.Phase, .slice B aP.Terms.length c, .slice B1 aP.Out.length c1]) (vs := [.int .i64 aP.Ins, .int .i64 aP.Vars, .int .i64 aP.Root, .int .i64 aP.Phase, .slice B aP.Terms.length c, .slice B1 aP.Out.length c1]) k_ag_25 k_sz_25_6 rfl rfl (hS1.cf (i := 0) rfl) rfl rfl) ?_
  refine sq 18 rfl rfl (Y_move (v := .int .i64 1048576) rfl rfl) ?_
  obtain ⟨r_1, hc, hF⟩ := bind_inv hF
  refine sc 19 rfl rfl (Yc_func (g := 5) (vs := [.agg #[.int .i64 aP.Ins, .int .i64 aP.Vars, .int .i64 aP.Root, .int .i64 aP.Phase, .slice B aP.Terms.length c, .slice B1 aP.Out.length c1], .int .i64 1048576]) k_call_5 rfl (mc rfl (mc rfl mn)) (c_laws_szPathSum aP 1048576 B c aP.Terms.length B1 c1 aP.Out.length _ rfl rfl (hS1.inn0 [(true, 0), (true, 1)] rfl) hc)) ?_
  rintro _ w_1 ⟨rfl, hd⟩
  have hS2 := hS1.out00 hd
  refine sq 3 rfl rfl (Y_assign (v := .int .i64 r_1) rfl rfl) ?_
  refine rw_nil ?_
  refine cw_seq ?_
  refine cw_seq ?_
  refine cw_region ?_
  refine sq 20 rfl rfl (Y_move (v := .int .i64 r_1) rfl rfl) ?_
  refine sq 21 rfl rfl (Y_lt (k := .i64) (a := r_1) (b := 0) rfl rfl rfl) ?_
  refine rw_nil ?_
  refine cw_cond (b := (decide (r_1 < 0))) rfl (fun hb => ?_) (fun hb => ?_)
  · skip
    have hF1 := ct hF hb
    refine cw_seq ?_
    refine cw_region ?_
    refine sq 2 rfl rfl (Y_assign (v := .bool true) rfl rfl) ?_
    refine rw_nil ?_
    refine cw_ret ?_
    obtain rfl := some_inj hF1
    exact ret1 Tryd.results3 (v1 := .bool true) (resAt_tmp rfl) ⟨rfl, (ST.subR (R' := []) (hS2.sel [] rfl rfl) (fun _ h => by cases h))⟩
  · skip
    have hF2 := cf' hF hb
    refine cw_skip ?_
    refine cw_seq ?_
    refine cw_region ?_
    refine sq 23 rfl rfl (Y_loadA (B := some ⟨b, 0, none⟩) (i := 0) (cs := [.int .i64 aP.Ins, .int .i64 aP.Vars, .int .i64 aP.Root, .int .i64 aP.Phase, .slice B aP.Terms.length c, .slice B1 aP.Out.length c1]) (vs := [.int .i64 aP.Ins, .int .i64 aP.Vars, .int .i64 aP.Root, .int .i64 aP.Phase, .slice B aP.Terms.length c, .slice B1 aP.Out.length c1]) k_ag_25 k_sz_25_6 rfl rfl (hS2.cf (i := 0) rfl) rfl rfl) ?_
    obtain ⟨r_2, hc1, hF2⟩ := bind_inv hF2
    refine sc 24 rfl rfl (Yc_func (g := 7) (vs := [.agg #[.int .i64 aP.Ins, .int .i64 aP.Vars, .int .i64 aP.Root, .int .i64 aP.Phase, .slice B aP.Terms.length c, .slice B1 aP.Out.length c1]]) k_call_7 rfl (mc rfl mn) (c_laws_toPathSum aP B c aP.Terms.length B1 c1 aP.Out.length _ rfl rfl (hS2.inn0 [(true, 0), (true, 1)] rfl) hc1)) ?_
    rintro _ w_2 ⟨B2, c2, B3, c3, rfl, hd1⟩
    have hS3 := hS2.out0 hd1
    have hS3 : ST w0 [] _ [⟨some ⟨b, 0, none⟩, 25, [.int .i64 aP.Ins, .int .i64 aP.Vars, .int .i64 aP.Root, .int .i64 aP.Phase, .slice B aP.Terms.length c, .slice B1 aP.Out.length c1], 6⟩, ⟨B2, 56, (r_2.Terms.flatMap enc_Term), c2 * 2⟩, ⟨B3, 44, (r_2.Out.flatMap enc_Affine), c3 * 2⟩] [⟨B, (aP.Terms.flatMap enc_Term)⟩, ⟨B1, (aP.Out.flatMap enc_Affine)⟩, ⟨(some ⟨0, 0, none⟩), (gl0.flatMap enc_u8)⟩, ⟨(some ⟨1, 0, none⟩), (gl1.flatMap enc_u8)⟩] := hS3
    obtain ⟨⟨r_3, r_4, r_5⟩, hc2, hF2⟩ := bind_inv hF2
    refine sc 25 rfl rfl (Yc_func (g := 6) (vs := [.agg #[.int .i64 r_2.Ins, .int .i64 r_2.Vars, .int .i64 r_2.Root, .int .i64 r_2.Phase, .slice B2 r_2.Terms.length c2, .slice B3 r_2.Out.length c3]]) k_call_6 rfl (mc rfl mn) (c_spec_ReduceStep r_2 B2 c2 r_2.Terms.length B3 c3 r_2.Out.length _ rfl rfl (hS3.inn0 [(false, 1), (false, 2)] rfl) hc2)) ?_
    rintro _ w_3 ⟨B4, c4, B5, c5, rfl, hd2⟩
    have hS4 := hS3.out0 hd2
    have hS4 : ST w0 [] _ [⟨some ⟨b, 0, none⟩, 25, [.int .i64 aP.Ins, .int .i64 aP.Vars, .int .i64 aP.Root, .int .i64 aP.Phase, .slice B aP.Terms.length c, .slice B1 aP.Out.length c1], 6⟩, ⟨B2, 56, (r_2.Terms.flatMap enc_Term), c2 * 2⟩, ⟨B3, 44, (r_2.Out.flatMap enc_Affine), c3 * 2⟩, ⟨B4, 56, (r_3.Terms.flatMap enc_Term), c4 * 2⟩, ⟨B5, 44, (r_3.Out.flatMap enc_Affine), c5 * 2⟩] [⟨B, (aP.Terms.flatMap enc_Term)⟩, ⟨B1, (aP.Out.flatMap enc_Affine)⟩, ⟨(some ⟨0, 0, none⟩), (gl0.flatMap enc_u8)⟩, ⟨(some ⟨1, 0, none⟩), (gl1.flatMap enc_u8)⟩] := hS4
    refine sq 22 rfl rfl (Y_move (v := .tuple #[.agg #[.int .i64 r_3.Ins, .int .i64 r_3.Vars, .int .i64 r_3.Root, .int .i64 r_3.Phase, .slice B4 r_3.Terms.length c4, .slice B5 r_3.Out.length c5], .int .i64 r_4, .bool r_5]) rfl rfl) ?_
    refine sq 26 rfl rfl (Y_extract (v := .agg #[.int .i64 r_3.Ins, .int .i64 r_3.Vars, .int .i64 r_3.Root, .int .i64 r_3.Phase, .slice B4 r_3.Terms.length c4, .slice B5 r_3.Out.length c5]) rfl rfl rfl) ?_
    refine sq 27 rfl rfl (Y_extract (v := .int .i64 r_4) rfl rfl rfl) ?_
    refine sq 28 rfl rfl (Y_extract (v := .bool r_5) rfl rfl rfl) ?_
    refine ss 4 rfl rfl (Ys_alloc (T := 30) (cs := [.int .i64 0, .int .i64 0, .int .i64 0, .int .i64 0, .slice none 0 0, .slice none 0 0]) (m := 6) hS4 k_zero_30 rfl rfl rfl) ?_
    rintro _ w_4 ⟨b1, rfl, hS5⟩
    have hS5 : ST w0 [] _ [⟨some ⟨b, 0, none⟩, 25, [.int .i64 aP.Ins, .int .i64 aP.Vars, .int .i64 aP.Root, .int .i64 aP.Phase, .slice B aP.Terms.length c, .slice B1 aP.Out.length c1], 6⟩, ⟨B2, 56, (r_2.Terms.flatMap enc_Term), c2 * 2⟩, ⟨B3, 44, (r_2.Out.flatMap enc_Affine), c3 * 2⟩, ⟨B4, 56, (r_3.Terms.flatMap enc_Term), c4 * 2⟩, ⟨B5, 44, (r_3.Out.flatMap enc_Affine), c5 * 2⟩, ⟨some ⟨b1, 0, none⟩, 30, [.int .i64 0, .int .i64 0, .int .i64 0, .int .i64 0, .slice none 0 0, .slice none 0 0], 6⟩] [⟨B, (aP.Terms.flatMap enc_Term)⟩, ⟨B1, (aP.Out.flatMap enc_Affine)⟩, ⟨(some ⟨0, 0, none⟩), (gl0.flatMap enc_u8)⟩, ⟨(some ⟨1, 0, none⟩), (gl1.flatMap enc_u8)⟩] := hS5
    refine ss0 rfl rfl (Ys_store (i := 5) (s := 6) (B := some ⟨b1, 0, none⟩) (T' := 30) (v := .agg #[.int .i64 r_3.Ins, .int .i64 r_3.Vars, .int .i64 r_3.Root, .int .i64 r_3.Phase, .slice B4 r_3.Terms.length c4, .slice B5 r_3.Out.length c5]) (vs := [.int .i64 r_3.Ins, .int .i64 r_3.Vars, .int .i64 r_3.Root, .int .i64 r_3.Phase, .slice B4 r_3.Terms.length c4, .slice B5 r_3.Out.length c5]) (k := 0) (cs' := [.int .i64 r_3.Ins, .int .i64 r_3.Vars, .int .i64 r_3.Root, .int .i64 r_3.Phase, .slice B4 r_3.Terms.length c4, .slice B5 r_3.Out.length c5]) hS5 k_sz_30_6 rfl rfl rfl rfl rfl rfl rfl (Nat.le_of_ble_eq_true rfl) rfl rfl) ?_
    rintro _ w_5 ⟨rfl, hS6⟩
    have hS6 : ST w0 [] _ [⟨some ⟨b, 0, none⟩, 25, [.int .i64 aP.Ins, .int .i64 aP.Vars, .int .i64 aP.Root, .int .i64 aP.Phase, .slice B aP.Terms.length c, .slice B1 aP.Out.length c1], 6⟩, ⟨B2, 56, (r_2.Terms.flatMap enc_Term), c2 * 2⟩, ⟨B3, 44, (r_2.Out.flatMap enc_Affine), c3 * 2⟩, ⟨B4, 56, (r_3.Terms.flatMap enc_Term), c4 * 2⟩, ⟨B5, 44, (r_3.Out.flatMap enc_Affine), c5 * 2⟩, ⟨some ⟨b1, 0, none⟩, 30, [.int .i64 r_3.Ins, .int .i64 r_3.Vars, .int .i64 r_3.Root, .int .i64 r_3.Phase, .slice B4 r_3.Terms.length c4, .slice B5 r_3.Out.length c5], 6⟩] [⟨B, (aP.Terms.flatMap enc_Term)⟩, ⟨B1, (aP.Out.flatMap enc_Affine)⟩, ⟨(some ⟨0, 0, none⟩), (gl0.flatMap enc_u8)⟩, ⟨(some ⟨1, 0, none⟩), (gl1.flatMap enc_u8)⟩] := hS6
    refine sq 5 rfl rfl (Y_assign (v := .int .i64 r_4) rfl rfl) ?_
    refine sq 6 rfl rfl (Y_assign (v := .bool r_5) rfl rfl) ?_
    refine rw_nil ?_
    refine cw_seq ?_
    refine cw_region ?_
    refine sq 29 rfl rfl (Y_loadA (B := some ⟨b, 0, none⟩) (i := 0) (cs := [.int .i64 aP.Ins, .int .i64 aP.Vars, .int .i64 aP.Root, .int .i64 aP.Phase, .slice B aP.Terms.length c, .slice B1 aP.Out.length c1]) (vs := [.int .i64 aP.Ins, .int .i64 aP.Vars, .int .i64 aP.Root, .int .i64 aP.Phase, .slice B aP.Terms.length c, .slice B1 aP.Out.length c1]) k_ag_25 k_sz_25_6 rfl rfl (hS6.cf (i := 0) rfl) rfl rfl) ?_
    obtain ⟨r_6, hc3, hF2⟩ := bind_inv hF2
    refine sc 30 rfl rfl (Yc_func (g := 7) (vs := [.agg #[.int .i64 aP.Ins, .int .i64 aP.Vars, .int .i64 aP.Root, .int .i64 aP.Phase, .slice B aP.Terms.length c, .slice B1 aP.Out.length c1]]) k_call_7 rfl (mc rfl mn) (c_laws_toPathSum aP B c aP.Terms.length B1 c1 aP.Out.length _ rfl rfl (hS6.inn0 [(true, 0), (true, 1)] rfl) hc3)) ?_
    rintro _ w_6 ⟨B6, c6, B7, c7, rfl, hd3⟩
    have hS7 := hS6.out0 hd3
    have hS7 : ST w0 [] _ [⟨some ⟨b, 0, none⟩, 25, [.int .i64 aP.Ins, .int .i64 aP.Vars, .int .i64 aP.Root, .int .i64 aP.Phase, .slice B aP.Terms.length c, .slice B1 aP.Out.length c1], 6⟩, ⟨B2, 56, (r_2.Terms.flatMap enc_Term), c2 * 2⟩, ⟨B3, 44, (r_2.Out.flatMap enc_Affine), c3 * 2⟩, ⟨B4, 56, (r_3.Terms.flatMap enc_Term), c4 * 2⟩, ⟨B5, 44, (r_3.Out.flatMap enc_Affine), c5 * 2⟩, ⟨some ⟨b1, 0, none⟩, 30, [.int .i64 r_3.Ins, .int .i64 r_3.Vars, .int .i64 r_3.Root, .int .i64 r_3.Phase, .slice B4 r_3.Terms.length c4, .slice B5 r_3.Out.length c5], 6⟩, ⟨B6, 56, (r_6.Terms.flatMap enc_Term), c6 * 2⟩, ⟨B7, 44, (r_6.Out.flatMap enc_Affine), c7 * 2⟩] [⟨B, (aP.Terms.flatMap enc_Term)⟩, ⟨B1, (aP.Out.flatMap enc_Affine)⟩, ⟨(some ⟨0, 0, none⟩), (gl0.flatMap enc_u8)⟩, ⟨(some ⟨1, 0, none⟩), (gl1.flatMap enc_u8)⟩] := hS7
    refine ss 7 rfl rfl (Ys_alloc (T := 30) (cs := [.int .i64 0, .int .i64 0, .int .i64 0, .int .i64 0, .slice none 0 0, .slice none 0 0]) (m := 6) hS7 k_zero_30 rfl rfl rfl) ?_
    rintro _ w_7 ⟨b2, rfl, hS8⟩
    have hS8 : ST w0 [] _ [⟨some ⟨b, 0, none⟩, 25, [.int .i64 aP.Ins, .int .i64 aP.Vars, .int .i64 aP.Root, .int .i64 aP.Phase, .slice B aP.Terms.length c, .slice B1 aP.Out.length c1], 6⟩, ⟨B2, 56, (r_2.Terms.flatMap enc_Term), c2 * 2⟩, ⟨B3, 44, (r_2.Out.flatMap enc_Affine), c3 * 2⟩, ⟨B4, 56, (r_3.Terms.flatMap enc_Term), c4 * 2⟩, ⟨B5, 44, (r_3.Out.flatMap enc_Affine), c5 * 2⟩, ⟨some ⟨b1, 0, none⟩, 30, [.int .i64 r_3.Ins, .int .i64 r_3.Vars, .int .i64 r_3.Root, .int .i64 r_3.Phase, .slice B4 r_3.Terms.length c4, .slice B5 r_3.Out.length c5], 6⟩, ⟨B6, 56, (r_6.Terms.flatMap enc_Term), c6 * 2⟩, ⟨B7, 44, (r_6.Out.flatMap enc_Affine), c7 * 2⟩, ⟨some ⟨b2, 0, none⟩, 30, [.int .i64 0, .int .i64 0, .int .i64 0, .int .i64 0, .slice none 0 0, .slice none 0 0], 6⟩] [⟨B, (aP.Terms.flatMap enc_Term)⟩, ⟨B1, (aP.Out.flatMap enc_Affine)⟩, ⟨(some ⟨0, 0, none⟩), (gl0.flatMap enc_u8)⟩, ⟨(some ⟨1, 0, none⟩), (gl1.flatMap enc_u8)⟩] := hS8
    refine ss0 rfl rfl (Ys_store (i := 8) (s := 6) (B := some ⟨b2, 0, none⟩) (T' := 30) (v := .agg #[.int .i64 r_6.Ins, .int .i64 r_6.Vars, .int .i64 r_6.Root, .int .i64 r_6.Phase, .slice B6 r_6.Terms.length c6, .slice B7 r_6.Out.length c7]) (vs := [.int .i64 r_6.Ins, .int .i64 r_6.Vars, .int .i64 r_6.Root, .int .i64 r_6.Phase, .slice B6 r_6.Terms.length c6, .slice B7 r_6.Out.length c7]) (k := 0) (cs' := [.int .i64 r_6.Ins, .int .i64 r_6.Vars, .int .i64 r_6.Root, .int .i64 r_6.Phase, .slice B6 r_6.Terms.length c6, .slice B7 r_6.Out.length c7]) hS8 k_sz_30_6 rfl rfl rfl rfl rfl rfl rfl (Nat.le_of_ble_eq_true rfl) rfl rfl) ?_
    rintro _ w_8 ⟨rfl, hS9⟩
    have hS9 : ST w0 [] _ [⟨some ⟨b, 0, none⟩, 25, [.int .i64 aP.Ins, .int .i64 aP.Vars, .int .i64 aP.Root, .int .i64 aP.Phase, .slice B aP.Terms.length c, .slice B1 aP.Out.length c1], 6⟩, ⟨B2, 56, (r_2.Terms.flatMap enc_Term), c2 * 2⟩, ⟨B3, 44, (r_2.Out.flatMap enc_Affine), c3 * 2⟩, ⟨B4, 56, (r_3.Terms.flatMap enc_Term), c4 * 2⟩, ⟨B5, 44, (r_3.Out.flatMap enc_Affine), c5 * 2⟩, ⟨some ⟨b1, 0, none⟩, 30, [.int .i64 r_3.Ins, .int .i64 r_3.Vars, .int .i64 r_3.Root, .int .i64 r_3.Phase, .slice B4 r_3.Terms.length c4, .slice B5 r_3.Out.length c5], 6⟩, ⟨B6, 56, (r_6.Terms.flatMap enc_Term), c6 * 2⟩, ⟨B7, 44, (r_6.Out.flatMap enc_Affine), c7 * 2⟩, ⟨some ⟨b2, 0, none⟩, 30, [.int .i64 r_6.Ins, .int .i64 r_6.Vars, .int .i64 r_6.Root, .int .i64 r_6.Phase, .slice B6 r_6.Terms.length c6, .slice B7 r_6.Out.length c7], 6⟩] [⟨B, (aP.Terms.flatMap enc_Term)⟩, ⟨B1, (aP.Out.flatMap enc_Affine)⟩, ⟨(some ⟨0, 0, none⟩), (gl0.flatMap enc_u8)⟩, ⟨(some ⟨1, 0, none⟩), (gl1.flatMap enc_u8)⟩] := hS9
    refine rw_nil ?_
    refine cw_seq ?_
    refine cw_region ?_
    refine sq 32 rfl rfl (Y_loadA (B := some ⟨b2, 0, none⟩) (i := 0) (cs := [.int .i64 r_6.Ins, .int .i64 r_6.Vars, .int .i64 r_6.Root, .int .i64 r_6.Phase, .slice B6 r_6.Terms.length c6, .slice B7 r_6.Out.length c7]) (vs := [.int .i64 r_6.Ins, .int .i64 r_6.Vars, .int .i64 r_6.Root, .int .i64 r_6.Phase, .slice B6 r_6.Terms.length c6, .slice B7 r_6.Out.length c7]) k_ag_30 k_sz_30_6 rfl rfl (hS9.cf (i := 8) rfl) rfl rfl) ?_
    obtain ⟨⟨r_7, r_8, r_9⟩, hc4, hF2⟩ := bind_inv hF2
    refine sc 33 rfl rfl (Yc_func (g := 8) (vs := [.agg #[.int .i64 r_6.Ins, .int .i64 r_6.Vars, .int .i64 r_6.Root, .int .i64 r_6.Phase, .slice B6 r_6.Terms.length c6, .slice B7 r_6.Out.length c7]]) k_call_8 rfl (mc rfl mn) (c_impl_ReduceStep r_6 B6 c6 r_6.Terms.length B7 c7 r_6.Out.length _ rfl rfl (hS9.inn0 [(false, 6), (false, 7), (true, 2), (true, 3)] rfl) hc4)) ?_
    rintro _ w_9 ⟨B8, c8, B9, c9, rfl, hd4⟩
    have hS10 := hS9.out0 hd4
    have hS10 : ST w0 [] _ [⟨some ⟨b, 0, none⟩, 25, [.int .i64 aP.Ins, .int .i64 aP.Vars, .int .i64 aP.Root, .int .i64 aP.Phase, .slice B aP.Terms.length c, .slice B1 aP.Out.length c1], 6⟩, ⟨B2, 56, (r_2.Terms.flatMap enc_Term), c2 * 2⟩, ⟨B3, 44, (r_2.Out.flatMap enc_Affine), c3 * 2⟩, ⟨B4, 56, (r_3.Terms.flatMap enc_Term), c4 * 2⟩, ⟨B5, 44, (r_3.Out.flatMap enc_Affine), c5 * 2⟩, ⟨some ⟨b1, 0, none⟩, 30, [.int .i64 r_3.Ins, .int .i64 r_3.Vars, .int .i64 r_3.Root, .int .i64 r_3.Phase, .slice B4 r_3.Terms.length c4, .slice B5 r_3.Out.length c5], 6⟩, ⟨B6, 56, (r_6.Terms.flatMap enc_Term), c6 * 2⟩, ⟨B7, 44, (r_6.Out.flatMap enc_Affine), c7 * 2⟩, ⟨some ⟨b2, 0, none⟩, 30, [.int .i64 r_6.Ins, .int .i64 r_6.Vars, .int .i64 r_6.Root, .int .i64 r_6.Phase, .slice B6 r_6.Terms.length c6, .slice B7 r_6.Out.length c7], 6⟩, ⟨B8, 56, (r_7.Terms.flatMap enc_Term), c8 * 2⟩, ⟨B9, 44, (r_7.Out.flatMap enc_Affine), c9 * 2⟩] [⟨B, (aP.Terms.flatMap enc_Term)⟩, ⟨B1, (aP.Out.flatMap enc_Affine)⟩, ⟨(some ⟨0, 0, none⟩), (gl0.flatMap enc_u8)⟩, ⟨(some ⟨1, 0, none⟩), (gl1.flatMap enc_u8)⟩] := hS10
    refine sq 31 rfl rfl (Y_move (v := .tuple #[.agg #[.int .i64 r_7.Ins, .int .i64 r_7.Vars, .int .i64 r_7.Root, .int .i64 r_7.Phase, .slice B8 r_7.Terms.length c8, .slice B9 r_7.Out.length c9], .int .i64 r_8, .bool r_9]) rfl rfl) ?_
    refine sq 34 rfl rfl (Y_extract (v := .agg #[.int .i64 r_7.Ins, .int .i64 r_7.Vars, .int .i64 r_7.Root, .int .i64 r_7.Phase, .slice B8 r_7.Terms.length c8, .slice B9 r_7.Out.length c9]) rfl rfl rfl) ?_
    refine sq 35 rfl rfl (Y_extract (v := .int .i64 r_8) rfl rfl rfl) ?_
    refine sq 36 rfl rfl (Y_extract (v := .bool r_9) rfl rfl rfl) ?_
    refine ss 8 rfl rfl (Ys_alloc (T := 30) (cs := [.int .i64 0, .int .i64 0, .int .i64 0, .int .i64 0, .slice none 0 0, .slice none 0 0]) (m := 6) hS10 k_zero_30 rfl rfl rfl) ?_
    rintro _ w_10 ⟨b3, rfl, hS11⟩
    have hS11 : ST w0 [] _ [⟨some ⟨b, 0, none⟩, 25, [.int .i64 aP.Ins, .int .i64 aP.Vars, .int .i64 aP.Root, .int .i64 aP.Phase, .slice B aP.Terms.length c, .slice B1 aP.Out.length c1], 6⟩, ⟨B2, 56, (r_2.Terms.flatMap enc_Term), c2 * 2⟩, ⟨B3, 44, (r_2.Out.flatMap enc_Affine), c3 * 2⟩, ⟨B4, 56, (r_3.Terms.flatMap enc_Term), c4 * 2⟩, ⟨B5, 44, (r_3.Out.flatMap enc_Affine), c5 * 2⟩, ⟨some ⟨b1, 0, none⟩, 30, [.int .i64 r_3.Ins, .int .i64 r_3.Vars, .int .i64 r_3.Root, .int .i64 r_3.Phase, .slice B4 r_3.Terms.length c4, .slice B5 r_3.Out.length c5], 6⟩, ⟨B6, 56, (r_6.Terms.flatMap enc_Term), c6 * 2⟩, ⟨B7, 44, (r_6.Out.flatMap enc_Affine), c7 * 2⟩, ⟨some ⟨b2, 0, none⟩, 30, [.int .i64 r_6.Ins, .int .i64 r_6.Vars, .int .i64 r_6.Root, .int .i64 r_6.Phase, .slice B6 r_6.Terms.length c6, .slice B7 r_6.Out.length c7], 6⟩, ⟨B8, 56, (r_7.Terms.flatMap enc_Term), c8 * 2⟩, ⟨B9, 44, (r_7.Out.flatMap enc_Affine), c9 * 2⟩, ⟨some ⟨b3, 0, none⟩, 30, [.int .i64 0, .int .i64 0, .int .i64 0, .int .i64 0, .slice none 0 0, .slice none 0 0], 6⟩] [⟨B, (aP.Terms.flatMap enc_Term)⟩, ⟨B1, (aP.Out.flatMap enc_Affine)⟩, ⟨(some ⟨0, 0, none⟩), (gl0.flatMap enc_u8)⟩, ⟨(some ⟨1, 0, none⟩), (gl1.flatMap enc_u8)⟩] := hS11
    refine ss0 rfl rfl (Ys_store (i := 11) (s := 6) (B := some ⟨b3, 0, none⟩) (T' := 30) (v := .agg #[.int .i64 r_7.Ins, .int .i64 r_7.Vars, .int .i64 r_7.Root, .int .i64 r_7.Phase, .slice B8 r_7.Terms.length c8, .slice B9 r_7.Out.length c9]) (vs := [.int .i64 r_7.Ins, .int .i64 r_7.Vars, .int .i64 r_7.Root, .int .i64 r_7.Phase, .slice B8 r_7.Terms.length c8, .slice B9 r_7.Out.length c9]) (k := 0) (cs' := [.int .i64 r_7.Ins, .int .i64 r_7.Vars, .int .i64 r_7.Root, .int .i64 r_7.Phase, .slice B8 r_7.Terms.length c8, .slice B9 r_7.Out.length c9]) hS11 k_sz_30_6 rfl rfl rfl rfl rfl rfl rfl (Nat.le_of_ble_eq_true rfl) rfl rfl) ?_
    rintro _ w_11 ⟨rfl, hS12⟩
    have hS12 : ST w0 [] _ [⟨some ⟨b, 0, none⟩, 25, [.int .i64 aP.Ins, .int .i64 aP.Vars, .int .i64 aP.Root, .int .i64 aP.Phase, .slice B aP.Terms.length c, .slice B1 aP.Out.length c1], 6⟩, ⟨B2, 56, (r_2.Terms.flatMap enc_Term), c2 * 2⟩, ⟨B3, 44, (r_2.Out.flatMap enc_Affine), c3 * 2⟩, ⟨B4, 56, (r_3.Terms.flatMap enc_Term), c4 * 2⟩, ⟨B5, 44, (r_3.Out.flatMap enc_Affine), c5 * 2⟩, ⟨some ⟨b1, 0, none⟩, 30, [.int .i64 r_3.Ins, .int .i64 r_3.Vars, .int .i64 r_3.Root, .int .i64 r_3.Phase, .slice B4 r_3.Terms.length c4, .slice B5 r_3.Out.length c5], 6⟩, ⟨B6, 56, (r_6.Terms.flatMap enc_Term), c6 * 2⟩, ⟨B7, 44, (r_6.Out.flatMap enc_Affine), c7 * 2⟩, ⟨some ⟨b2, 0, none⟩, 30, [.int .i64 r_6.Ins, .int .i64 r_6.Vars, .int .i64 r_6.Root, .int .i64 r_6.Phase, .slice B6 r_6.Terms.length c6, .slice B7 r_6.Out.length c7], 6⟩, ⟨B8, 56, (r_7.Terms.flatMap enc_Term), c8 * 2⟩, ⟨B9, 44, (r_7.Out.flatMap enc_Affine), c9 * 2⟩, ⟨some ⟨b3, 0, none⟩, 30, [.int .i64 r_7.Ins, .int .i64 r_7.Vars, .int .i64 r_7.Root, .int .i64 r_7.Phase, .slice B8 r_7.Terms.length c8, .slice B9 r_7.Out.length c9], 6⟩] [⟨B, (aP.Terms.flatMap enc_Term)⟩, ⟨B1, (aP.Out.flatMap enc_Affine)⟩, ⟨(some ⟨0, 0, none⟩), (gl0.flatMap enc_u8)⟩, ⟨(some ⟨1, 0, none⟩), (gl1.flatMap enc_u8)⟩] := hS12
    refine sq 9 rfl rfl (Y_assign (v := .int .i64 r_8) rfl rfl) ?_
    refine sq 10 rfl rfl (Y_assign (v := .bool r_9) rfl rfl) ?_
    refine rw_nil ?_
    refine cw_seq ?_
    refine cw_seq ?_
    refine cw_region ?_
    refine sq 37 rfl rfl (Y_loadA (B := some ⟨b3, 0, none⟩) (i := 0) (cs := [.int .i64 r_7.Ins, .int .i64 r_7.Vars, .int .i64 r_7.Root, .int .i64 r_7.Phase, .slice B8 r_7.Terms.length c8, .slice B9 r_7.Out.length c9]) (vs := [.int .i64 r_7.Ins, .int .i64 r_7.Vars, .int .i64 r_7.Root, .int .i64 r_7.Phase, .slice B8 r_7.Terms.length c8, .slice B9 r_7.Out.length c9]) k_ag_30 k_sz_30_6 rfl rfl (hS12.cf (i := 11) rfl) rfl rfl) ?_
    refine sq 38 rfl rfl (Y_loadA (B := some ⟨b1, 0, none⟩) (i := 0) (cs := [.int .i64 r_3.Ins, .int .i64 r_3.Vars, .int .i64 r_3.Root, .int .i64 r_3.Phase, .slice B4 r_3.Terms.length c4, .slice B5 r_3.Out.length c5]) (vs := [.int .i64 r_3.Ins, .int .i64 r_3.Vars, .int .i64 r_3.Root, .int .i64 r_3.Phase, .slice B4 r_3.Terms.length c4, .slice B5 r_3.Out.length c5]) k_ag_30 k_sz_30_6 rfl rfl (hS12.cf (i := 5) rfl) rfl rfl) ?_
    obtain ⟨r_10, hc5, hF2⟩ := bind_inv hF2
    refine sc 39 rfl rfl (Yc_func (g := 9) (vs := [.agg #[.int .i64 r_7.Ins, .int .i64 r_7.Vars, .int .i64 r_7.Root, .int .i64 r_7.Phase, .slice B8 r_7.Terms.length c8, .slice B9 r_7.Out.length c9], .agg #[.int .i64 r_3.Ins, .int .i64 r_3.Vars, .int .i64 r_3.Root, .int .i64 r_3.Phase, .slice B4 r_3.Terms.length c4, .slice B5 r_3.Out.length c5]]) k_call_9 rfl (mc rfl (mc rfl mn)) (c_laws_eqPathSum r_7 r_3 B8 c8 r_7.Terms.length B9 c9 r_7.Out.length B4 c4 r_3.Terms.length B5 c5 r_3.Out.length _ rfl rfl rfl rfl (hS12.inn0 [(false, 9), (false, 10), (false, 3), (false, 4)] rfl) hc5)) ?_
    rintro _ w_12 ⟨rfl, hd5⟩
    have hS13 := hS12.out00 hd5
    have hS13 : ST w0 [] _ [⟨some ⟨b, 0, none⟩, 25, [.int .i64 aP.Ins, .int .i64 aP.Vars, .int .i64 aP.Root, .int .i64 aP.Phase, .slice B aP.Terms.length c, .slice B1 aP.Out.length c1], 6⟩, ⟨B2, 56, (r_2.Terms.flatMap enc_Term), c2 * 2⟩, ⟨B3, 44, (r_2.Out.flatMap enc_Affine), c3 * 2⟩, ⟨B4, 56, (r_3.Terms.flatMap enc_Term), c4 * 2⟩, ⟨B5, 44, (r_3.Out.flatMap enc_Affine), c5 * 2⟩, ⟨some ⟨b1, 0, none⟩, 30, [.int .i64 r_3.Ins, .int .i64 r_3.Vars, .int .i64 r_3.Root, .int .i64 r_3.Phase, .slice B4 r_3.Terms.length c4, .slice B5 r_3.Out.length c5], 6⟩, ⟨B6, 56, (r_6.Terms.flatMap enc_Term), c6 * 2⟩, ⟨B7, 44, (r_6.Out.flatMap enc_Affine), c7 * 2⟩, ⟨some ⟨b2, 0, none⟩, 30, [.int .i64 r_6.Ins, .int .i64 r_6.Vars, .int .i64 r_6.Root, .int .i64 r_6.Phase, .slice B6 r_6.Terms.length c6, .slice B7 r_6.Out.length c7], 6⟩, ⟨B8, 56, (r_7.Terms.flatMap enc_Term), c8 * 2⟩, ⟨B9, 44, (r_7.Out.flatMap enc_Affine), c9 * 2⟩, ⟨some ⟨b3, 0, none⟩, 30, [.int .i64 r_7.Ins, .int .i64 r_7.Vars, .int .i64 r_7.Root, .int .i64 r_7.Phase, .slice B8 r_7.Terms.length c8, .slice B9 r_7.Out.length c9], 6⟩] [⟨B, (aP.Terms.flatMap enc_Term)⟩, ⟨B1, (aP.Out.flatMap enc_Affine)⟩, ⟨(some ⟨0, 0, none⟩), (gl0.flatMap enc_u8)⟩, ⟨(some ⟨1, 0, none⟩), (gl1.flatMap enc_u8)⟩] := hS13
    refine sq 40 rfl rfl (Y_not (p := r_10) rfl rfl) ?_
    refine sq 41 rfl rfl (Y_move (v := .bool (!r_10)) rfl rfl) ?_
    refine sgq 42 (B := (!(!r_10))) (v := .int .i64 r_8) rfl rfl (wt_f (gd_of (t := 41) (by kernel_rfl) rfl)) (fun hg => (Y_move (v := .int .i64 r_8) rfl rfl)) ?_
    refine sgq 43 (B := (!(!r_10))) (v := .int .i64 r_4) rfl rfl (wt_f (gd_of (t := 41) (by kernel_rfl) rfl)) (fun hg1 => (Y_move (v := .int .i64 r_4) rfl rfl)) ?_
    refine sgq 44 (B := (!(!r_10))) (v := .bool (r_8 != r_4)) rfl rfl (wt_f (gd_of (t := 41) (by kernel_rfl) rfl)) (fun hg2 => (Y_ne (k := .i64) (a := r_8) (b := r_4) rfl (gv_of (B := (!(!r_10))) (v := .int .i64 r_8) hg2) (gv_of (B := (!(!r_10))) (v := .int .i64 r_4) hg2))) ?_
    refine sq 45 rfl rfl (Y_or (b := (!r_10)) (z := (r_8 != r_4)) rfl rfl rfl rfl) ?_
    refine sq 46 rfl rfl (Y_move (v := .bool ((!r_10) || (r_8 != r_4))) rfl rfl) ?_
    refine sgq 47 (B := (!((!r_10) || (r_8 != r_4)))) (v := .bool r_9) rfl rfl (wt_f (gd_of (t := 46) (by kernel_rfl) rfl)) (fun hg3 => (Y_move (v := .bool r_9) rfl rfl)) ?_
    refine sgq 48 (B := (!((!r_10) || (r_8 != r_4)))) (v := .bool r_5) rfl rfl (wt_f (gd_of (t := 46) (by kernel_rfl) rfl)) (fun hg4 => (Y_move (v := .bool r_5) rfl rfl)) ?_
    refine sgq 49 (B := (!((!r_10) || (r_8 != r_4)))) (v := .bool (!(r_9 == r_5))) rfl rfl (wt_f (gd_of (t := 46) (by kernel_rfl) rfl)) (fun hg5 => (Y_bne (p := r_9) (q := r_5) k_und_4 rfl (gv_of (B := (!((!r_10) || (r_8 != r_4)))) (v := .bool r_9) hg5) (gv_of (B := (!((!r_10) || (r_8 != r_4)))) (v := .bool r_5) hg5))) ?_
    refine sq 50 rfl rfl (Y_or (b := ((!r_10) || (r_8 != r_4))) (z := (!(r_9 == r_5))) rfl rfl rfl rfl) ?_
    refine rw_nil ?_
    refine cw_cond (b := (((!r_10) || (r_8 != r_4)) || (!(r_9 == r_5)))) rfl (fun hb1 => ?_) (fun hb1 => ?_)
    · skip
      have hF3 := ct hF2 hb1
      refine cw_seq ?_
      refine cw_region ?_
      refine sq 2 rfl rfl (Y_assign (v := .bool false) rfl rfl) ?_
      refine rw_nil ?_
      refine cw_ret ?_
      obtain rfl := some_inj hF3
      exact ret1 Tryd.results3 (v1 := .bool false) (resAt_tmp rfl) ⟨rfl, (ST.subR (R' := []) (hS13.sel [] rfl rfl) (fun _ h => by cases h))⟩
    · skip
      have hF4 := cf' hF2 hb1
      refine cw_skip ?_
      refine cw_seq ?_
      refine cw_seq ?_
      obtain ⟨r_11, hc6, hF4⟩ := bind_inv hF4
      obtain ⟨r_12, hc7, hF4⟩ := bind_inv hF4
      refine ra_start (ST.sel hS13 [0, 1, 2, 3, 4, 5, 6, 7, 8, 9, 10, 11] rfl rfl).fn (by kernel_rfl) ?_
      have hS16 := hS13.drew
      refine ra_q 0 51 (v := .agg #[.int .i64 r_6.Ins, .int .i64 r_6.Vars, .int .i64 r_6.Root, .int .i64 r_6.Phase, .slice B6 r_6.Terms.length c6, .slice B7 r_6.Out.length c7]) rfl rfl rfl (by kernel_rfl) (by kernel_rfl) (by kernel_rfl) (ST.sel hS16 [0, 1, 2, 3, 4, 5, 6, 7, 8, 9, 10, 11] rfl rfl) (fun w' hw' => (Y_loadA (B := some ⟨b2, 0, none⟩) (i := 0) (cs := [.int .i64 r_6.Ins, .int .i64 r_6.Vars, .int .i64 r_6.Root, .int .i64 r_6.Phase, .slice B6 r_6.Terms.length c6, .slice B7 r_6.Out.length c7]) (vs := [.int .i64 r_6.Ins, .int .i64 r_6.Vars, .int .i64 r_6.Root, .int .i64 r_6.Phase, .slice B6 r_6.Terms.length c6, .slice B7 r_6.Out.length c7]) k_ag_30 k_sz_30_6 rfl rfl (ST.cf hw' (i := 8) rfl) rfl rfl)) ?_
      refine ra_q 1 52 (v := .agg #[.int .i64 aP.Ins, .int .i64 aP.Vars, .int .i64 aP.Root, .int .i64 aP.Phase, .slice B aP.Terms.length c, .slice B1 aP.Out.length c1]) rfl rfl rfl (by kernel_rfl) (by kernel_rfl) (by kernel_rfl) (ST.sel hS16 [0, 1, 2, 3, 4, 5, 6, 7, 8, 9, 10, 11] rfl rfl) (fun w' hw' => (Y_loadA (B := some ⟨b, 0, none⟩) (i := 0) (cs := [.int .i64 aP.Ins, .int .i64 aP.Vars, .int .i64 aP.Root, .int .i64 aP.Phase, .slice B aP.Terms.length c, .slice B1 aP.Out.length c1]) (vs := [.int .i64 aP.Ins, .int .i64 aP.Vars, .int .i64 aP.Root, .int .i64 aP.Phase, .slice B aP.Terms.length c, .slice B1 aP.Out.length c1]) k_ag_25 k_sz_25_6 rfl rfl (ST.cf hw' (i := 0) rfl) rfl rfl)) ?_
      refine ra_all (rs := [2]) (by kernel_rfl) rfl ?_
      refine ra_c 53 (i := 2) rfl rfl rfl (Yc_func (g := 7) (vs := [.agg #[.int .i64 aP.Ins, .int .i64 aP.Vars, .int .i64 aP.Root, .int .i64 aP.Phase, .slice B aP.Terms.length c, .slice B1 aP.Out.length c1]]) k_call_7 rfl (mc rfl mn) (c_laws_toPathSum aP B c aP.Terms.length B1 c1 aP.Out.length _ rfl rfl (hS16.inn0 [(true, 0), (true, 1)] rfl) hc6)) ?_ ?_
      · rintro _ w_13 ⟨B10, c10, B11, c11, rfl, hd6⟩
        have hS17 := hS16.out0 hd6
        have hS17 : ST w0 [] _ [⟨some ⟨b, 0, none⟩, 25, [.int .i64 aP.Ins, .int .i64 aP.Vars, .int .i64 aP.Root, .int .i64 aP.Phase, .slice B aP.Terms.length c, .slice B1 aP.Out.length c1], 6⟩, ⟨B2, 56, (r_2.Terms.flatMap enc_Term), c2 * 2⟩, ⟨B3, 44, (r_2.Out.flatMap enc_Affine), c3 * 2⟩, ⟨B4, 56, (r_3.Terms.flatMap enc_Term), c4 * 2⟩, ⟨B5, 44, (r_3.Out.flatMap enc_Affine), c5 * 2⟩, ⟨some ⟨b1, 0, none⟩, 30, [.int .i64 r_3.Ins, .int .i64 r_3.Vars, .int .i64 r_3.Root, .int .i64 r_3.Phase, .slice B4 r_3.Terms.length c4, .slice B5 r_3.Out.length c5], 6⟩, ⟨B6, 56, (r_6.Terms.flatMap enc_Term), c6 * 2⟩, ⟨B7, 44, (r_6.Out.flatMap enc_Affine), c7 * 2⟩, ⟨some ⟨b2, 0, none⟩, 30, [.int .i64 r_6.Ins, .int .i64 r_6.Vars, .int .i64 r_6.Root, .int .i64 r_6.Phase, .slice B6 r_6.Terms.length c6, .slice B7 r_6.Out.length c7], 6⟩, ⟨B8, 56, (r_7.Terms.flatMap enc_Term), c8 * 2⟩, ⟨B9, 44, (r_7.Out.flatMap enc_Affine), c9 * 2⟩, ⟨some ⟨b3, 0, none⟩, 30, [.int .i64 r_7.Ins, .int .i64 r_7.Vars, .int .i64 r_7.Root, .int .i64 r_7.Phase, .slice B8 r_7.Terms.length c8, .slice B9 r_7.Out.length c9], 6⟩, ⟨B10, 56, (r_11.Terms.flatMap enc_Term), c10 * 2⟩, ⟨B11, 44, (r_11.Out.flatMap enc_Affine), c11 * 2⟩] [⟨B, (aP.Terms.flatMap enc_Term)⟩, ⟨B1, (aP.Out.flatMap enc_Affine)⟩, ⟨(some ⟨0, 0, none⟩), (gl0.flatMap enc_u8)⟩, ⟨(some ⟨1, 0, none⟩), (gl1.flatMap enc_u8)⟩] := hS17
        refine ⟨(ST.sel hS17 [0, 1, 2, 3, 4, 5, 6, 7, 8, 9, 10, 11] rfl rfl), ?_⟩
        refine ra_all (rs := [3]) (by kernel_rfl) rfl ?_
        refine ra_c 54 (i := 3) rfl rfl rfl (Yc_func (g := 9) (vs := [.agg #[.int .i64 r_6.Ins, .int .i64 r_6.Vars, .int .i64 r_6.Root, .int .i64 r_6.Phase, .slice B6 r_6.Terms.length c6, .slice B7 r_6.Out.length c7], .agg #[.int .i64 r_11.Ins, .int .i64 r_11.Vars, .int .i64 r_11.Root, .int .i64 r_11.Phase, .slice B10 r_11.Terms.length c10, .slice B11 r_11.Out.length c11]]) k_call_9 rfl (mc rfl (mc rfl mn)) (c_laws_eqPathSum r_6 r_11 B6 c6 r_6.Terms.length B7 c7 r_6.Out.length B10 c10 r_11.Terms.length B11 c11 r_11.Out.length _ rfl rfl rfl rfl (hS17.inn0 [(false, 6), (false, 7), (false, 12), (false, 13)] rfl) hc7)) ?_ ?_
        · rintro _ w_14 ⟨rfl, hd7⟩
          have hS18 := hS17.out00 hd7
          have hS18 : ST w0 [] _ [⟨some ⟨b, 0, none⟩, 25, [.int .i64 aP.Ins, .int .i64 aP.Vars, .int .i64 aP.Root, .int .i64 aP.Phase, .slice B aP.Terms.length c, .slice B1 aP.Out.length c1], 6⟩, ⟨B2, 56, (r_2.Terms.flatMap enc_Term), c2 * 2⟩, ⟨B3, 44, (r_2.Out.flatMap enc_Affine), c3 * 2⟩, ⟨B4, 56, (r_3.Terms.flatMap enc_Term), c4 * 2⟩, ⟨B5, 44, (r_3.Out.flatMap enc_Affine), c5 * 2⟩, ⟨some ⟨b1, 0, none⟩, 30, [.int .i64 r_3.Ins, .int .i64 r_3.Vars, .int .i64 r_3.Root, .int .i64 r_3.Phase, .slice B4 r_3.Terms.length c4, .slice B5 r_3.Out.length c5], 6⟩, ⟨B6, 56, (r_6.Terms.flatMap enc_Term), c6 * 2⟩, ⟨B7, 44, (r_6.Out.flatMap enc_Affine), c7 * 2⟩, ⟨some ⟨b2, 0, none⟩, 30, [.int .i64 r_6.Ins, .int .i64 r_6.Vars, .int .i64 r_6.Root, .int .i64 r_6.Phase, .slice B6 r_6.Terms.length c6, .slice B7 r_6.Out.length c7], 6⟩, ⟨B8, 56, (r_7.Terms.flatMap enc_Term), c8 * 2⟩, ⟨B9, 44, (r_7.Out.flatMap enc_Affine), c9 * 2⟩, ⟨some ⟨b3, 0, none⟩, 30, [.int .i64 r_7.Ins, .int .i64 r_7.Vars, .int .i64 r_7.Root, .int .i64 r_7.Phase, .slice B8 r_7.Terms.length c8, .slice B9 r_7.Out.length c9], 6⟩, ⟨B10, 56, (r_11.Terms.flatMap enc_Term), c10 * 2⟩, ⟨B11, 44, (r_11.Out.flatMap enc_Affine), c11 * 2⟩] [⟨B, (aP.Terms.flatMap enc_Term)⟩, ⟨B1, (aP.Out.flatMap enc_Affine)⟩, ⟨(some ⟨0, 0, none⟩), (gl0.flatMap enc_u8)⟩, ⟨(some ⟨1, 0, none⟩), (gl1.flatMap enc_u8)⟩] := hS18
          refine ⟨(ST.sel hS18 [0, 1, 2, 3, 4, 5, 6, 7, 8, 9, 10, 11] rfl rfl), ?_⟩
          refine ra_q 4 55 (v := .bool (!r_12)) rfl rfl rfl (by kernel_rfl) (by kernel_rfl) (by kernel_rfl) (ST.sel hS18 [0, 1, 2, 3, 4, 5, 6, 7, 8, 9, 10, 11] rfl rfl) (fun w' hw' => (Y_not (p := r_12) rfl rfl)) ?_
          refine ra_done (by kernel_rfl) ?_
          refine cw_cond (b := (!r_12)) rfl (fun hb2 => ?_) (fun hb2 => ?_)
          · skip
            have hF5 := ct hF4 hb2
            refine cw_seq ?_
            refine cw_region ?_
            refine sq 2 rfl rfl (Y_assign (v := .bool false) rfl rfl) ?_
            refine rw_nil ?_
            refine cw_ret ?_
            obtain rfl := some_inj hF5
            exact ret1 Tryd.results3 (v1 := .bool false) (resAt_tmp rfl) ⟨rfl, (ST.subR (R' := []) (hS18.sel [] rfl rfl) (fun _ h => by cases h))⟩
          · skip
            have hF6 := cf' hF4 hb2
            refine cw_skip ?_
            refine cw_seq ?_
            refine cw_region ?_
            refine sq 11 rfl rfl (Y_assign (v := .int .i64 1) rfl rfl) ?_
            refine rw_nil ?_
            refine cw_seq ?_
            refine cw_region ?_
            refine sq 56 rfl rfl (Y_loadA (B := some ⟨b2, 0, none⟩) (i := 0) (cs := [.int .i64 r_6.Ins, .int .i64 r_6.Vars, .int .i64 r_6.Root, .int .i64 r_6.Phase, .slice B6 r_6.Terms.length c6, .slice B7 r_6.Out.length c7]) (vs := [.int .i64 r_6.Ins, .int .i64 r_6.Vars, .int .i64 r_6.Root, .int .i64 r_6.Phase, .slice B6 r_6.Terms.length c6, .slice B7 r_6.Out.length c7]) k_ag_30 k_sz_30_6 rfl rfl (hS18.cf (i := 8) rfl) rfl rfl) ?_
            refine sq 57 rfl rfl (Y_move (v := .int .i64 1) rfl rfl) ?_
            obtain ⟨⟨r_13, m, m1⟩, hc8, hF6⟩ := bind_inv hF6
            refine sc 58 rfl rfl (Yc_func (g := 10) (vs := [.agg #[.int .i64 r_6.Ins, .int .i64 r_6.Vars, .int .i64 r_6.Root, .int .i64 r_6.Phase, .slice B6 r_6.Terms.length c6, .slice B7 r_6.Out.length c7], .int .i64 1]) k_call_10 rfl (mc rfl (mc rfl mn)) (c_laws_markPathSum r_6 1 B6 c6 r_6.Terms.length B7 c7 r_6.Out.length _ rfl rfl (hS18.inn [false, false, false, false, false, false, true, true, false, false, false, false, false, false] rfl [] rfl) hc8)) ?_
            rintro _ w_15 ⟨rfl, hl, hl1, hd8⟩
            have hS19 := hS18.out [false, false, false, false, false, false, true, true, false, false, false, false, false, false] rfl hd8
            have hS19 : ST w0 [] _ [⟨some ⟨b, 0, none⟩, 25, [.int .i64 aP.Ins, .int .i64 aP.Vars, .int .i64 aP.Root, .int .i64 aP.Phase, .slice B aP.Terms.length c, .slice B1 aP.Out.length c1], 6⟩, ⟨B2, 56, (r_2.Terms.flatMap enc_Term), c2 * 2⟩, ⟨B3, 44, (r_2.Out.flatMap enc_Affine), c3 * 2⟩, ⟨B4, 56, (r_3.Terms.flatMap enc_Term), c4 * 2⟩, ⟨B5, 44, (r_3.Out.flatMap enc_Affine), c5 * 2⟩, ⟨some ⟨b1, 0, none⟩, 30, [.int .i64 r_3.Ins, .int .i64 r_3.Vars, .int .i64 r_3.Root, .int .i64 r_3.Phase, .slice B4 r_3.Terms.length c4, .slice B5 r_3.Out.length c5], 6⟩, ⟨some ⟨b2, 0, none⟩, 30, [.int .i64 r_6.Ins, .int .i64 r_6.Vars, .int .i64 r_6.Root, .int .i64 r_6.Phase, .slice B6 r_6.Terms.length c6, .slice B7 r_6.Out.length c7], 6⟩, ⟨B8, 56, (r_7.Terms.flatMap enc_Term), c8 * 2⟩, ⟨B9, 44, (r_7.Out.flatMap enc_Affine), c9 * 2⟩, ⟨some ⟨b3, 0, none⟩, 30, [.int .i64 r_7.Ins, .int .i64 r_7.Vars, .int .i64 r_7.Root, .int .i64 r_7.Phase, .slice B8 r_7.Terms.length c8, .slice B9 r_7.Out.length c9], 6⟩, ⟨B10, 56, (r_11.Terms.flatMap enc_Term), c10 * 2⟩, ⟨B11, 44, (r_11.Out.flatMap enc_Affine), c11 * 2⟩, ⟨B6, 56, (m.flatMap enc_Term), c6 * 2⟩, ⟨B7, 44, (m1.flatMap enc_Affine), c7 * 2⟩] [⟨B, (aP.Terms.flatMap enc_Term)⟩, ⟨B1, (aP.Out.flatMap enc_Affine)⟩, ⟨(some ⟨0, 0, none⟩), (gl0.flatMap enc_u8)⟩, ⟨(some ⟨1, 0, none⟩), (gl1.flatMap enc_u8)⟩] := hS19
            refine sq 11 rfl rfl (Y_assign (v := .int .i64 r_13) rfl rfl) ?_
            refine rw_nil ?_
            refine cw_seq ?_
            refine cw_seq ?_
            refine cw_region ?_
            refine sq 59 rfl rfl (Y_move (v := .int .i64 r_13) rfl rfl) ?_
            refine sq 60 rfl rfl (Y_lt (k := .i64) (a := r_13) (b := 0) rfl rfl rfl) ?_
            refine sq 61 rfl rfl (Y_move (v := .bool (decide (r_13 < 0))) rfl rfl) ?_
            refine sgq 62 (B := (!(decide (r_13 < 0)))) (v := .agg #[.int .i64 r_7.Ins, .int .i64 r_7.Vars, .int .i64 r_7.Root, .int .i64 r_7.Phase, .slice B8 r_7.Terms.length c8, .slice B9 r_7.Out.length c9]) rfl rfl (wt_f (gd_of (t := 61) (by kernel_rfl) rfl)) (fun hg6 => (Y_loadA (B := some ⟨b3, 0, none⟩) (i := 0) (cs := [.int .i64 r_7.Ins, .int .i64 r_7.Vars, .int .i64 r_7.Root, .int .i64 r_7.Phase, .slice B8 r_7.Terms.length c8, .slice B9 r_7.Out.length c9]) (vs := [.int .i64 r_7.Ins, .int .i64 r_7.Vars, .int .i64 r_7.Root, .int .i64 r_7.Phase, .slice B8 r_7.Terms.length c8, .slice B9 r_7.Out.length c9]) k_ag_30 k_sz_30_6 rfl rfl (hS19.cf (i := 9) rfl) rfl rfl)) ?_
            refine sgq 63 (B := (!(decide (r_13 < 0)))) (v := .agg #[.int .i64 r_3.Ins, .int .i64 r_3.Vars, .int .i64 r_3.Root, .int .i64 r_3.Phase, .slice B4 r_3.Terms.length c4, .slice B5 r_3.Out.length c5]) rfl rfl (wt_f (gd_of (t := 61) (by kernel_rfl) rfl)) (fun hg7 => (Y_loadA (B := some ⟨b1, 0, none⟩) (i := 0) (cs := [.int .i64 r_3.Ins, .int .i64 r_3.Vars, .int .i64 r_3.Root, .int .i64 r_3.Phase, .slice B4 r_3.Terms.length c4, .slice B5 r_3.Out.length c5]) (vs := [.int .i64 r_3.Ins, .int .i64 r_3.Vars, .int .i64 r_3.Root, .int .i64 r_3.Phase, .slice B4 r_3.Terms.length c4, .slice B5 r_3.Out.length c5]) k_ag_30 k_sz_30_6 rfl rfl (hS19.cf (i := 5) rfl) rfl rfl)) ?_
            obtain ⟨r_14, hc9, hF6⟩ := bind_inv hF6
            refine sgc 64 (B := (!(decide (r_13 < 0)))) (v := .bool r_14) (F := hS19.fn) rfl rfl (wt_f (gd_of (t := 61) (by kernel_rfl) rfl)) hS19 (fun hg8 => (Yc_func (g := 9) (vs := [.agg #[.int .i64 r_7.Ins, .int .i64 r_7.Vars, .int .i64 r_7.Root, .int .i64 r_7.Phase, .slice B8 r_7.Terms.length c8, .slice B9 r_7.Out.length c9], .agg #[.int .i64 r_3.Ins, .int .i64 r_3.Vars, .int .i64 r_3.Root, .int .i64 r_3.Phase, .slice B4 r_3.Terms.length c4, .slice B5 r_3.Out.length c5]]) k_call_9 rfl (mc (gv_of (B := (!(decide (r_13 < 0)))) (v := .agg #[.int .i64 r_7.Ins, .int .i64 r_7.Vars, .int .i64 r_7.Root, .int .i64 r_7.Phase, .slice B8 r_7.Terms.length c8, .slice B9 r_7.Out.length c9]) hg8) (mc (gv_of (B := (!(decide (r_13 < 0)))) (v := .agg #[.int .i64 r_3.Ins, .int .i64 r_3.Vars, .int .i64 r_3.Root, .int .i64 r_3.Phase, .slice B4 r_3.Terms.length c4, .slice B5 r_3.Out.length c5]) hg8) mn)) (CV.mono (c_laws_eqPathSum r_7 r_3 B8 c8 r_7.Terms.length B9 c9 r_7.Out.length B4 c4 r_3.Terms.length B5 c5 r_3.Out.length _ rfl rfl rfl rfl (hS19.inn0 [(false, 7), (false, 8), (false, 3), (false, 4)] rfl) (gb_inv hc9 hg8)) (by rintro _ _ ⟨rfl, h⟩; exact ⟨rfl, hS19.out00 h⟩)))) ?_
            rintro w_16 hS20
            have hS20 : ST _ _ w_16 _ _ := hS20
            refine sgq 65 (B := (!(decide (r_13 < 0)))) (v := .bool (!r_14)) rfl rfl (wt_f (gd_of (t := 61) (by kernel_rfl) rfl)) (fun hg9 => (Y_not (p := r_14) rfl (gv_of (B := (!(decide (r_13 < 0)))) (v := .bool r_14) hg9))) ?_
            refine sq 66 rfl rfl (Y_or (b := (decide (r_13 < 0))) (z := (!r_14)) rfl rfl rfl rfl) ?_
            refine sq 67 rfl rfl (Y_move (v := .bool ((decide (r_13 < 0)) || (!r_14))) rfl rfl) ?_
            refine sgq 68 (B := (!((decide (r_13 < 0)) || (!r_14)))) (v := .int .i64 r_8) rfl rfl (wt_f (gd_of (t := 67) (by kernel_rfl) rfl)) (fun hg10 => (Y_move (v := .int .i64 r_8) rfl rfl)) ?_
            refine sgq 69 (B := (!((decide (r_13 < 0)) || (!r_14)))) (v := .int .i64 r_4) rfl rfl (wt_f (gd_of (t := 67) (by kernel_rfl) rfl)) (fun hg11 => (Y_move (v := .int .i64 r_4) rfl rfl)) ?_
            refine sgq 70 (B := (!((decide (r_13 < 0)) || (!r_14)))) (v := .bool (r_8 != r_4)) rfl rfl (wt_f (gd_of (t := 67) (by kernel_rfl) rfl)) (fun hg12 => (Y_ne (k := .i64) (a := r_8) (b := r_4) rfl (gv_of (B := (!((decide (r_13 < 0)) || (!r_14)))) (v := .int .i64 r_8) hg12) (gv_of (B := (!((decide (r_13 < 0)) || (!r_14)))) (v := .int .i64 r_4) hg12))) ?_
            refine sq 71 rfl rfl (Y_or (b := ((decide (r_13 < 0)) || (!r_14))) (z := (r_8 != r_4)) rfl rfl rfl rfl) ?_
            refine sq 72 rfl rfl (Y_move (v := .bool (((decide (r_13 < 0)) || (!r_14)) || (r_8 != r_4))) rfl rfl) ?_
            refine sgq 73 (B := (!(((decide (r_13 < 0)) || (!r_14)) || (r_8 != r_4)))) (v := .bool r_9) rfl rfl (wt_f (gd_of (t := 72) (by kernel_rfl) rfl)) (fun hg13 => (Y_move (v := .bool r_9) rfl rfl)) ?_
            refine sgq 74 (B := (!(((decide (r_13 < 0)) || (!r_14)) || (r_8 != r_4)))) (v := .bool r_5) rfl rfl (wt_f (gd_of (t := 72) (by kernel_rfl) rfl)) (fun hg14 => (Y_move (v := .bool r_5) rfl rfl)) ?_
            refine sgq 75 (B := (!(((decide (r_13 < 0)) || (!r_14)) || (r_8 != r_4)))) (v := .bool (!(r_9 == r_5))) rfl rfl (wt_f (gd_of (t := 72) (by kernel_rfl) rfl)) (fun hg15 => (Y_bne (p := r_9) (q := r_5) k_und_4 rfl (gv_of (B := (!(((decide (r_13 < 0)) || (!r_14)) || (r_8 != r_4)))) (v := .bool r_9) hg15) (gv_of (B := (!(((decide (r_13 < 0)) || (!r_14)) || (r_8 != r_4)))) (v := .bool r_5) hg15))) ?_
            refine sq 76 rfl rfl (Y_or (b := (((decide (r_13 < 0)) || (!r_14)) || (r_8 != r_4))) (z := (!(r_9 == r_5))) rfl rfl rfl rfl) ?_
            refine rw_nil ?_
            refine cw_cond (b := ((((decide (r_13 < 0)) || (!r_14)) || (r_8 != r_4)) || (!(r_9 == r_5)))) rfl (fun hb3 => ?_) (fun hb3 => ?_)
            · skip
              have hF7 := ct hF6 hb3
              refine cw_seq ?_
              refine cw_region ?_
              refine sq 2 rfl rfl (Y_assign (v := .bool false) rfl rfl) ?_
              refine rw_nil ?_
              refine cw_ret ?_
              obtain rfl := some_inj hF7
              exact ret1 Tryd.results3 (v1 := .bool false) (resAt_tmp rfl) ⟨rfl, (ST.subR (R' := []) (hS20.sel [] rfl rfl) (fun _ h => by cases h))⟩
            · skip
              have hF8 := cf' hF6 hb3
              refine cw_skip ?_
              refine cw_seq ?_
              refine cw_region ?_
              refine sq 12 rfl rfl (Y_assign (v := .int .i64 1) rfl rfl) ?_
              refine rw_nil ?_
              refine cw_seq ?_
              refine cw_region ?_
              refine sq 77 rfl rfl (Y_loadA (B := some ⟨b3, 0, none⟩) (i := 0) (cs := [.int .i64 r_7.Ins, .int .i64 r_7.Vars, .int .i64 r_7.Root, .int .i64 r_7.Phase, .slice B8 r_7.Terms.length c8, .slice B9 r_7.Out.length c9]) (vs := [.int .i64 r_7.Ins, .int .i64 r_7.Vars, .int .i64 r_7.Root, .int .i64 r_7.Phase, .slice B8 r_7.Terms.length c8, .slice B9 r_7.Out.length c9]) k_ag_30 k_sz_30_6 rfl rfl (hS20.cf (i := 9) rfl) rfl rfl) ?_
              refine sq 78 rfl rfl (Y_move (v := .int .i64 1) rfl rfl) ?_
              obtain ⟨⟨r_15, m2, m3⟩, hc10, hF8⟩ := bind_inv hF8
              refine sc 79 rfl rfl (Yc_func (g := 10) (vs := [.agg #[.int .i64 r_7.Ins, .int .i64 r_7.Vars, .int .i64 r_7.Root, .int .i64 r_7.Phase, .slice B8 r_7.Terms.length c8, .slice B9 r_7.Out.length c9], .int .i64 1]) k_call_10 rfl (mc rfl (mc rfl mn)) (c_laws_markPathSum r_7 1 B8 c8 r_7.Terms.length B9 c9 r_7.Out.length _ rfl rfl (hS20.inn [false, false, false, false, false, false, false, true, true, false, false, false, false, false] rfl [] rfl) hc10)) ?_
              rintro _ w_17 ⟨rfl, hl2, hl3, hd9⟩
              have hS21 := hS20.out [false, false, false, false, false, false, false, true, true, false, false, false, false, false] rfl hd9
              have hS21 : ST w0 [] _ [⟨some ⟨b, 0, none⟩, 25, [.int .i64 aP.Ins, .int .i64 aP.Vars, .int .i64 aP.Root, .int .i64 aP.Phase, .slice B aP.Terms.length c, .slice B1 aP.Out.length c1], 6⟩, ⟨B2, 56, (r_2.Terms.flatMap enc_Term), c2 * 2⟩, ⟨B3, 44, (r_2.Out.flatMap enc_Affine), c3 * 2⟩, ⟨B4, 56, (r_3.Terms.flatMap enc_Term), c4 * 2⟩, ⟨B5, 44, (r_3.Out.flatMap enc_Affine), c5 * 2⟩, ⟨some ⟨b1, 0, none⟩, 30, [.int .i64 r_3.Ins, .int .i64 r_3.Vars, .int .i64 r_3.Root, .int .i64 r_3.Phase, .slice B4 r_3.Terms.length c4, .slice B5 r_3.Out.length c5], 6⟩, ⟨some ⟨b2, 0, none⟩, 30, [.int .i64 r_6.Ins, .int .i64 r_6.Vars, .int .i64 r_6.Root, .int .i64 r_6.Phase, .slice B6 r_6.Terms.length c6, .slice B7 r_6.Out.length c7], 6⟩, ⟨some ⟨b3, 0, none⟩, 30, [.int .i64 r_7.Ins, .int .i64 r_7.Vars, .int .i64 r_7.Root, .int .i64 r_7.Phase, .slice B8 r_7.Terms.length c8, .slice B9 r_7.Out.length c9], 6⟩, ⟨B10, 56, (r_11.Terms.flatMap enc_Term), c10 * 2⟩, ⟨B11, 44, (r_11.Out.flatMap enc_Affine), c11 * 2⟩, ⟨B6, 56, (m.flatMap enc_Term), c6 * 2⟩, ⟨B7, 44, (m1.flatMap enc_Affine), c7 * 2⟩, ⟨B8, 56, (m2.flatMap enc_Term), c8 * 2⟩, ⟨B9, 44, (m3.flatMap enc_Affine), c9 * 2⟩] [⟨B, (aP.Terms.flatMap enc_Term)⟩, ⟨B1, (aP.Out.flatMap enc_Affine)⟩, ⟨(some ⟨0, 0, none⟩), (gl0.flatMap enc_u8)⟩, ⟨(some ⟨1, 0, none⟩), (gl1.flatMap enc_u8)⟩] := hS21
              refine sq 12 rfl rfl (Y_assign (v := .int .i64 r_15) rfl rfl) ?_
              refine rw_nil ?_
              refine cw_seq ?_
              refine cw_region ?_
              refine sq 13 rfl rfl (Y_assign (v := .int .i64 1) rfl rfl) ?_
              refine rw_nil ?_
              refine cw_seq ?_
              refine cw_region ?_
              refine sq 80 rfl rfl (Y_loadA (B := some ⟨b3, 0, none⟩) (i := 0) (cs := [.int .i64 r_7.Ins, .int .i64 r_7.Vars, .int .i64 r_7.Root, .int .i64 r_7.Phase, .slice B8 r_7.Terms.length c8, .slice B9 r_7.Out.length c9]) (vs := [.int .i64 r_7.Ins, .int .i64 r_7.Vars, .int .i64 r_7.Root, .int .i64 r_7.Phase, .slice B8 r_7.Terms.length c8, .slice B9 r_7.Out.length c9]) k_ag_30 k_sz_30_6 rfl rfl (hS21.cf (i := 7) rfl) rfl rfl) ?_
              refine sq 81 rfl rfl (Y_move (v := .int .i64 1) rfl rfl) ?_
              obtain ⟨r_16, hc11, hF8⟩ := bind_inv hF8
              refine sc 82 rfl rfl (Yc_func (g := 11) (vs := [.agg #[.int .i64 r_7.Ins, .int .i64 r_7.Vars, .int .i64 r_7.Root, .int .i64 r_7.Phase, .slice B8 r_7.Terms.length c8, .slice B9 r_7.Out.length c9], .int .i64 1]) k_call_11 rfl (mc rfl (mc rfl mn)) (c_laws_heldPathSum (TPathSum.mk r_7.Ins r_7.Vars r_7.Root r_7.Phase m2 m3) 1 B8 c8 r_7.Terms.length B9 c9 r_7.Out.length _ hl2 hl3 (hS21.inn0 [(false, 12), (false, 13)] rfl) hc11)) ?_
              rintro _ w_18 ⟨rfl, hd10⟩
              have hS22 := hS21.out00 hd10
              have hS22 : ST w0 [] _ [⟨some ⟨b, 0, none⟩, 25, [.int .i64 aP.Ins, .int .i64 aP.Vars, .int .i64 aP.Root, .int .i64 aP.Phase, .slice B aP.Terms.length c, .slice B1 aP.Out.length c1], 6⟩, ⟨B2, 56, (r_2.Terms.flatMap enc_Term), c2 * 2⟩, ⟨B3, 44, (r_2.Out.flatMap enc_Affine), c3 * 2⟩, ⟨B4, 56, (r_3.Terms.flatMap enc_Term), c4 * 2⟩, ⟨B5, 44, (r_3.Out.flatMap enc_Affine), c5 * 2⟩, ⟨some ⟨b1, 0, none⟩, 30, [.int .i64 r_3.Ins, .int .i64 r_3.Vars, .int .i64 r_3.Root, .int .i64 r_3.Phase, .slice B4 r_3.Terms.length c4, .slice B5 r_3.Out.length c5], 6⟩, ⟨some ⟨b2, 0, none⟩, 30, [.int .i64 r_6.Ins, .int .i64 r_6.Vars, .int .i64 r_6.Root, .int .i64 r_6.Phase, .slice B6 r_6.Terms.length c6, .slice B7 r_6.Out.length c7], 6⟩, ⟨some ⟨b3, 0, none⟩, 30, [.int .i64 r_7.Ins, .int .i64 r_7.Vars, .int .i64 r_7.Root, .int .i64 r_7.Phase, .slice B8 r_7.Terms.length c8, .slice B9 r_7.Out.length c9], 6⟩, ⟨B10, 56, (r_11.Terms.flatMap enc_Term), c10 * 2⟩, ⟨B11, 44, (r_11.Out.flatMap enc_Affine), c11 * 2⟩, ⟨B6, 56, (m.flatMap enc_Term), c6 * 2⟩, ⟨B7, 44, (m1.flatMap enc_Affine), c7 * 2⟩, ⟨B8, 56, (m2.flatMap enc_Term), c8 * 2⟩, ⟨B9, 44, (m3.flatMap enc_Affine), c9 * 2⟩] [⟨B, (aP.Terms.flatMap enc_Term)⟩, ⟨B1, (aP.Out.flatMap enc_Affine)⟩, ⟨(some ⟨0, 0, none⟩), (gl0.flatMap enc_u8)⟩, ⟨(some ⟨1, 0, none⟩), (gl1.flatMap enc_u8)⟩] := hS22
              refine sq 13 rfl rfl (Y_assign (v := .int .i64 r_16) rfl rfl) ?_
              refine rw_nil ?_
              refine cw_seq ?_
              refine cw_seq ?_
              refine cw_region ?_
              refine sq 83 rfl rfl (Y_move (v := .int .i64 r_16) rfl rfl) ?_
              refine sq 84 rfl rfl (Y_lt (k := .i64) (a := r_16) (b := 0) rfl rfl rfl) ?_
              refine rw_nil ?_
              refine cw_cond (b := (decide (r_16 < 0))) rfl (fun hb4 => ?_) (fun hb4 => ?_)
              · skip
                have hF9 := ct hF8 hb4
                refine cw_seq ?_
                refine cw_region ?_
                refine sq 2 rfl rfl (Y_assign (v := .bool false) rfl rfl) ?_
                refine rw_nil ?_
                refine cw_ret ?_
                obtain rfl := some_inj hF9
                exact ret1 Tryd.results3 (v1 := .bool false) (resAt_tmp rfl) ⟨rfl, (ST.subR (R' := []) (hS22.sel [] rfl rfl) (fun _ h => by cases h))⟩
              · skip
                have hF10 := cf' hF8 hb4
                refine cw_skip ?_
                refine cw_seq ?_
                refine cw_seq ?_
                refine cw_region ?_
                refine sq 85 rfl rfl (Y_move (v := .int .i64 r_16) rfl rfl) ?_
                refine sq 86 rfl rfl (Y_move (v := .int .i64 r_15) rfl rfl) ?_
                refine sq 87 rfl rfl (Y_ne (k := .i64) (a := r_16) (b := r_15) rfl rfl rfl) ?_
                refine rw_nil ?_
                refine cw_cond (b := (r_16 != r_15)) rfl (fun hb5 => ?_) (fun hb5 => ?_)
                · skip
                  have hF11 := ct hF10 hb5
                  refine cw_seq ?_
                  refine cw_region ?_
                  refine sq 2 rfl rfl (Y_assign (v := .bool false) rfl rfl) ?_
                  refine rw_nil ?_
                  refine cw_ret ?_
                  obtain rfl := some_inj hF11
                  exact ret1 Tryd.results3 (v1 := .bool false) (resAt_tmp rfl) ⟨rfl, (ST.subR (R' := []) (hS22.sel [] rfl rfl) (fun _ h => by cases h))⟩
                · skip
                  have hF12 := cf' hF10 hb5
                  refine cw_skip ?_
                  refine cw_seq ?_
                  refine cw_region ?_
                  refine sq 89 rfl rfl (Y_loadA (B := some ⟨b, 0, none⟩) (i := 0) (cs := [.int .i64 aP.Ins, .int .i64 aP.Vars, .int .i64 aP.Root, .int .i64 aP.Phase, .slice B aP.Terms.length c, .slice B1 aP.Out.length c1]) (vs := [.int .i64 aP.Ins, .int .i64 aP.Vars, .int .i64 aP.Root, .int .i64 aP.Phase, .slice B aP.Terms.length c, .slice B1 aP.Out.length c1]) k_ag_25 k_sz_25_6 rfl rfl (hS22.cf (i := 0) rfl) rfl rfl) ?_
                  obtain ⟨r_17, hc12, hF12⟩ := bind_inv hF12
                  refine sc 90 rfl rfl (Yc_func (g := 7) (vs := [.agg #[.int .i64 aP.Ins, .int .i64 aP.Vars, .int .i64 aP.Root, .int .i64 aP.Phase, .slice B aP.Terms.length c, .slice B1 aP.Out.length c1]]) k_call_7 rfl (mc rfl mn) (c_laws_toPathSum aP B c aP.Terms.length B1 c1 aP.Out.length _ rfl rfl (hS22.inn0 [(true, 0), (true, 1)] rfl) hc12)) ?_
                  rintro _ w_19 ⟨B12, c12, B13, c13, rfl, hd11⟩
                  have hS23 := hS22.out0 hd11
                  have hS23 : ST w0 [] _ [⟨some ⟨b, 0, none⟩, 25, [.int .i64 aP.Ins, .int .i64 aP.Vars, .int .i64 aP.Root, .int .i64 aP.Phase, .slice B aP.Terms.length c, .slice B1 aP.Out.length c1], 6⟩, ⟨B2, 56, (r_2.Terms.flatMap enc_Term), c2 * 2⟩, ⟨B3, 44, (r_2.Out.flatMap enc_Affine), c3 * 2⟩, ⟨B4, 56, (r_3.Terms.flatMap enc_Term), c4 * 2⟩, ⟨B5, 44, (r_3.Out.flatMap enc_Affine), c5 * 2⟩, ⟨some ⟨b1, 0, none⟩, 30, [.int .i64 r_3.Ins, .int .i64 r_3.Vars, .int .i64 r_3.Root, .int .i64 r_3.Phase, .slice B4 r_3.Terms.length c4, .slice B5 r_3.Out.length c5], 6⟩, ⟨some ⟨b2, 0, none⟩, 30, [.int .i64 r_6.Ins, .int .i64 r_6.Vars, .int .i64 r_6.Root, .int .i64 r_6.Phase, .slice B6 r_6.Terms.length c6, .slice B7 r_6.Out.length c7], 6⟩, ⟨some ⟨b3, 0, none⟩, 30, [.int .i64 r_7.Ins, .int .i64 r_7.Vars, .int .i64 r_7.Root, .int .i64 r_7.Phase, .slice B8 r_7.Terms.length c8, .slice B9 r_7.Out.length c9], 6⟩, ⟨B10, 56, (r_11.Terms.flatMap enc_Term), c10 * 2⟩, ⟨B11, 44, (r_11.Out.flatMap enc_Affine), c11 * 2⟩, ⟨B6, 56, (m.flatMap enc_Term), c6 * 2⟩, ⟨B7, 44, (m1.flatMap enc_Affine), c7 * 2⟩, ⟨B8, 56, (m2.flatMap enc_Term), c8 * 2⟩, ⟨B9, 44, (m3.flatMap enc_Affine), c9 * 2⟩, ⟨B12, 56, (r_17.Terms.flatMap enc_Term), c12 * 2⟩, ⟨B13, 44, (r_17.Out.flatMap enc_Affine), c13 * 2⟩] [⟨B, (aP.Terms.flatMap enc_Term)⟩, ⟨B1, (aP.Out.flatMap enc_Affine)⟩, ⟨(some ⟨0, 0, none⟩), (gl0.flatMap enc_u8)⟩, ⟨(some ⟨1, 0, none⟩), (gl1.flatMap enc_u8)⟩] := hS23
                  obtain ⟨⟨r_18, r_19, r_20⟩, hc13, hF12⟩ := bind_inv hF12
                  refine sc 91 rfl rfl (Yc_func (g := 8) (vs := [.agg #[.int .i64 r_17.Ins, .int .i64 r_17.Vars, .int .i64 r_17.Root, .int .i64 r_17.Phase, .slice B12 r_17.Terms.length c12, .slice B13 r_17.Out.length c13]]) k_call_8 rfl (mc rfl mn) (c_impl_ReduceStep r_17 B12 c12 r_17.Terms.length B13 c13 r_17.Out.length _ rfl rfl (hS23.inn0 [(false, 14), (false, 15), (true, 2), (true, 3)] rfl) hc13)) ?_
                  rintro _ w_20 ⟨B14, c14, B15, c15, rfl, hd12⟩
                  have hS24 := hS23.out0 hd12
                  have hS24 : ST w0 [] _ [⟨some ⟨b, 0, none⟩, 25, [.int .i64 aP.Ins, .int .i64 aP.Vars, .int .i64 aP.Root, .int .i64 aP.Phase, .slice B aP.Terms.length c, .slice B1 aP.Out.length c1], 6⟩, ⟨B2, 56, (r_2.Terms.flatMap enc_Term), c2 * 2⟩, ⟨B3, 44, (r_2.Out.flatMap enc_Affine), c3 * 2⟩, ⟨B4, 56, (r_3.Terms.flatMap enc_Term), c4 * 2⟩, ⟨B5, 44, (r_3.Out.flatMap enc_Affine), c5 * 2⟩, ⟨some ⟨b1, 0, none⟩, 30, [.int .i64 r_3.Ins, .int .i64 r_3.Vars, .int .i64 r_3.Root, .int .i64 r_3.Phase, .slice B4 r_3.Terms.length c4, .slice B5 r_3.Out.length c5], 6⟩, ⟨some ⟨b2, 0, none⟩, 30, [.int .i64 r_6.Ins, .int .i64 r_6.Vars, .int .i64 r_6.Root, .int .i64 r_6.Phase, .slice B6 r_6.Terms.length c6, .slice B7 r_6.Out.length c7], 6⟩, ⟨some ⟨b3, 0, none⟩, 30, [.int .i64 r_7.Ins, .int .i64 r_7.Vars, .int .i64 r_7.Root, .int .i64 r_7.Phase, .slice B8 r_7.Terms.length c8, .slice B9 r_7.Out.length c9], 6⟩, ⟨B10, 56, (r_11.Terms.flatMap enc_Term), c10 * 2⟩, ⟨B11, 44, (r_11.Out.flatMap enc_Affine), c11 * 2⟩, ⟨B6, 56, (m.flatMap enc_Term), c6 * 2⟩, ⟨B7, 44, (m1.flatMap enc_Affine), c7 * 2⟩, ⟨B8, 56, (m2.flatMap enc_Term), c8 * 2⟩, ⟨B9, 44, (m3.flatMap enc_Affine), c9 * 2⟩, ⟨B12, 56, (r_17.Terms.flatMap enc_Term), c12 * 2⟩, ⟨B13, 44, (r_17.Out.flatMap enc_Affine), c13 * 2⟩, ⟨B14, 56, (r_18.Terms.flatMap enc_Term), c14 * 2⟩, ⟨B15, 44, (r_18.Out.flatMap enc_Affine), c15 * 2⟩] [⟨B, (aP.Terms.flatMap enc_Term)⟩, ⟨B1, (aP.Out.flatMap enc_Affine)⟩, ⟨(some ⟨0, 0, none⟩), (gl0.flatMap enc_u8)⟩, ⟨(some ⟨1, 0, none⟩), (gl1.flatMap enc_u8)⟩] := hS24
                  refine sq 88 rfl rfl (Y_move (v := .tuple #[.agg #[.int .i64 r_18.Ins, .int .i64 r_18.Vars, .int .i64 r_18.Root, .int .i64 r_18.Phase, .slice B14 r_18.Terms.length c14, .slice B15 r_18.Out.length c15], .int .i64 r_19, .bool r_20]) rfl rfl) ?_
                  refine sq 92 rfl rfl (Y_extract (v := .agg #[.int .i64 r_18.Ins, .int .i64 r_18.Vars, .int .i64 r_18.Root, .int .i64 r_18.Phase, .slice B14 r_18.Terms.length c14, .slice B15 r_18.Out.length c15]) rfl rfl rfl) ?_
                  refine sq 93 rfl rfl (Y_extract (v := .int .i64 r_19) rfl rfl rfl) ?_
                  refine sq 94 rfl rfl (Y_extract (v := .bool r_20) rfl rfl rfl) ?_
                  refine ss 14 rfl rfl (Ys_alloc (T := 30) (cs := [.int .i64 0, .int .i64 0, .int .i64 0, .int .i64 0, .slice none 0 0, .slice none 0 0]) (m := 6) hS24 k_zero_30 rfl rfl rfl) ?_
                  rintro _ w_21 ⟨b4, rfl, hS25⟩
                  have hS25 : ST w0 [] _ [⟨some ⟨b, 0, none⟩, 25, [.int .i64 aP.Ins, .int .i64 aP.Vars, .int .i64 aP.Root, .int .i64 aP.Phase, .slice B aP.Terms.length c, .slice B1 aP.Out.length c1], 6⟩, ⟨B2, 56, (r_2.Terms.flatMap enc_Term), c2 * 2⟩, ⟨B3, 44, (r_2.Out.flatMap enc_Affine), c3 * 2⟩, ⟨B4, 56, (r_3.Terms.flatMap enc_Term), c4 * 2⟩, ⟨B5, 44, (r_3.Out.flatMap enc_Affine), c5 * 2⟩, ⟨some ⟨b1, 0, none⟩, 30, [.int .i64 r_3.Ins, .int .i64 r_3.Vars, .int .i64 r_3.Root, .int .i64 r_3.Phase, .slice B4 r_3.Terms.length c4, .slice B5 r_3.Out.length c5], 6⟩, ⟨some ⟨b2, 0, none⟩, 30, [.int .i64 r_6.Ins, .int .i64 r_6.Vars, .int .i64 r_6.Root, .int .i64 r_6.Phase, .slice B6 r_6.Terms.length c6, .slice B7 r_6.Out.length c7], 6⟩, ⟨some ⟨b3, 0, none⟩, 30, [.int .i64 r_7.Ins, .int .i64 r_7.Vars, .int .i64 r_7.Root, .int .i64 r_7.Phase, .slice B8 r_7.Terms.length c8, .slice B9 r_7.Out.length c9], 6⟩, ⟨B10, 56, (r_11.Terms.flatMap enc_Term), c10 * 2⟩, ⟨B11, 44, (r_11.Out.flatMap enc_Affine), c11 * 2⟩, ⟨B6, 56, (m.flatMap enc_Term), c6 * 2⟩, ⟨B7, 44, (m1.flatMap enc_Affine), c7 * 2⟩, ⟨B8, 56, (m2.flatMap enc_Term), c8 * 2⟩, ⟨B9, 44, (m3.flatMap enc_Affine), c9 * 2⟩, ⟨B12, 56, (r_17.Terms.flatMap enc_Term), c12 * 2⟩, ⟨B13, 44, (r_17.Out.flatMap enc_Affine), c13 * 2⟩, ⟨B14, 56, (r_18.Terms.flatMap enc_Term), c14 * 2⟩, ⟨B15, 44, (r_18.Out.flatMap enc_Affine), c15 * 2⟩, ⟨some ⟨b4, 0, none⟩, 30, [.int .i64 0, .int .i64 0, .int .i64 0, .int .i64 0, .slice none 0 0, .slice none 0 0], 6⟩] [⟨B, (aP.Terms.flatMap enc_Term)⟩, ⟨B1, (aP.Out.flatMap enc_Affine)⟩, ⟨(some ⟨0, 0, none⟩), (gl0.flatMap enc_u8)⟩, ⟨(some ⟨1, 0, none⟩), (gl1.flatMap enc_u8)⟩] := hS25
                  refine ss0 rfl rfl (Ys_store (i := 18) (s := 6) (B := some ⟨b4, 0, none⟩) (T' := 30) (v := .agg #[.int .i64 r_18.Ins, .int .i64 r_18.Vars, .int .i64 r_18.Root, .int .i64 r_18.Phase, .slice B14 r_18.Terms.length c14, .slice B15 r_18.Out.length c15]) (vs := [.int .i64 r_18.Ins, .int .i64 r_18.Vars, .int .i64 r_18.Root, .int .i64 r_18.Phase, .slice B14 r_18.Terms.length c14, .slice B15 r_18.Out.length c15]) (k := 0) (cs' := [.int .i64 r_18.Ins, .int .i64 r_18.Vars, .int .i64 r_18.Root, .int .i64 r_18.Phase, .slice B14 r_18.Terms.length c14, .slice B15 r_18.Out.length c15]) hS25 k_sz_30_6 rfl rfl rfl rfl rfl rfl rfl (Nat.le_of_ble_eq_true rfl) rfl rfl) ?_
                  rintro _ w_22 ⟨rfl, hS26⟩
                  have hS26 : ST w0 [] _ [⟨some ⟨b, 0, none⟩, 25, [.int .i64 aP.Ins, .int .i64 aP.Vars, .int .i64 aP.Root, .int .i64 aP.Phase, .slice B aP.Terms.length c, .slice B1 aP.Out.length c1], 6⟩, ⟨B2, 56, (r_2.Terms.flatMap enc_Term), c2 * 2⟩, ⟨B3, 44, (r_2.Out.flatMap enc_Affine), c3 * 2⟩, ⟨B4, 56, (r_3.Terms.flatMap enc_Term), c4 * 2⟩, ⟨B5, 44, (r_3.Out.flatMap enc_Affine), c5 * 2⟩, ⟨some ⟨b1, 0, none⟩, 30, [.int .i64 r_3.Ins, .int .i64 r_3.Vars, .int .i64 r_3.Root, .int .i64 r_3.Phase, .slice B4 r_3.Terms.length c4, .slice B5 r_3.Out.length c5], 6⟩, ⟨some ⟨b2, 0, none⟩, 30, [.int .i64 r_6.Ins, .int .i64 r_6.Vars, .int .i64 r_6.Root, .int .i64 r_6.Phase, .slice B6 r_6.Terms.length c6, .slice B7 r_6.Out.length c7], 6⟩, ⟨some ⟨b3, 0, none⟩, 30, [.int .i64 r_7.Ins, .int .i64 r_7.Vars, .int .i64 r_7.Root, .int .i64 r_7.Phase, .slice B8 r_7.Terms.length c8, .slice B9 r_7.Out.length c9], 6⟩, ⟨B10, 56, (r_11.Terms.flatMap enc_Term), c10 * 2⟩, ⟨B11, 44, (r_11.Out.flatMap enc_Affine), c11 * 2⟩, ⟨B6, 56, (m.flatMap enc_Term), c6 * 2⟩, ⟨B7, 44, (m1.flatMap enc_Affine), c7 * 2⟩, ⟨B8, 56, (m2.flatMap enc_Term), c8 * 2⟩, ⟨B9, 44, (m3.flatMap enc_Affine), c9 * 2⟩, ⟨B12, 56, (r_17.Terms.flatMap enc_Term), c12 * 2⟩, ⟨B13, 44, (r_17.Out.flatMap enc_Affine), c13 * 2⟩, ⟨B14, 56, (r_18.Terms.flatMap enc_Term), c14 * 2⟩, ⟨B15, 44, (r_18.Out.flatMap enc_Affine), c15 * 2⟩, ⟨some ⟨b4, 0, none⟩, 30, [.int .i64 r_18.Ins, .int .i64 r_18.Vars, .int .i64 r_18.Root, .int .i64 r_18.Phase, .slice B14 r_18.Terms.length c14, .slice B15 r_18.Out.length c15], 6⟩] [⟨B, (aP.Terms.flatMap enc_Term)⟩, ⟨B1, (aP.Out.flatMap enc_Affine)⟩, ⟨(some ⟨0, 0, none⟩), (gl0.flatMap enc_u8)⟩, ⟨(some ⟨1, 0, none⟩), (gl1.flatMap enc_u8)⟩] := hS26
                  refine sq 15 rfl rfl (Y_assign (v := .int .i64 r_19) rfl rfl) ?_
                  refine sq 16 rfl rfl (Y_assign (v := .bool r_20) rfl rfl) ?_
                  refine rw_nil ?_
                  refine cw_seq ?_
                  refine cw_seq ?_
                  refine cw_region ?_
                  refine sq 95 rfl rfl (Y_loadA (B := some ⟨b4, 0, none⟩) (i := 0) (cs := [.int .i64 r_18.Ins, .int .i64 r_18.Vars, .int .i64 r_18.Root, .int .i64 r_18.Phase, .slice B14 r_18.Terms.length c14, .slice B15 r_18.Out.length c15]) (vs := [.int .i64 r_18.Ins, .int .i64 r_18.Vars, .int .i64 r_18.Root, .int .i64 r_18.Phase, .slice B14 r_18.Terms.length c14, .slice B15 r_18.Out.length c15]) k_ag_30 k_sz_30_6 rfl rfl (hS26.cf (i := 18) rfl) rfl rfl) ?_
                  refine sq 96 rfl rfl (Y_loadA (B := some ⟨b1, 0, none⟩) (i := 0) (cs := [.int .i64 r_3.Ins, .int .i64 r_3.Vars, .int .i64 r_3.Root, .int .i64 r_3.Phase, .slice B4 r_3.Terms.length c4, .slice B5 r_3.Out.length c5]) (vs := [.int .i64 r_3.Ins, .int .i64 r_3.Vars, .int .i64 r_3.Root, .int .i64 r_3.Phase, .slice B4 r_3.Terms.length c4, .slice B5 r_3.Out.length c5]) k_ag_30 k_sz_30_6 rfl rfl (hS26.cf (i := 5) rfl) rfl rfl) ?_
                  obtain ⟨r_21, hc14, hF12⟩ := bind_inv hF12
                  refine sc 97 rfl rfl (Yc_func (g := 9) (vs := [.agg #[.int .i64 r_18.Ins, .int .i64 r_18.Vars, .int .i64 r_18.Root, .int .i64 r_18.Phase, .slice B14 r_18.Terms.length c14, .slice B15 r_18.Out.length c15], .agg #[.int .i64 r_3.Ins, .int .i64 r_3.Vars, .int .i64 r_3.Root, .int .i64 r_3.Phase, .slice B4 r_3.Terms.length c4, .slice B5 r_3.Out.length c5]]) k_call_9 rfl (mc rfl (mc rfl mn)) (c_laws_eqPathSum r_18 r_3 B14 c14 r_18.Terms.length B15 c15 r_18.Out.length B4 c4 r_3.Terms.length B5 c5 r_3.Out.length _ rfl rfl rfl rfl (hS26.inn0 [(false, 16), (false, 17), (false, 3), (false, 4)] rfl) hc14)) ?_
                  rintro _ w_23 ⟨rfl, hd13⟩
                  have hS27 := hS26.out00 hd13
                  have hS27 : ST w0 [] _ [⟨some ⟨b, 0, none⟩, 25, [.int .i64 aP.Ins, .int .i64 aP.Vars, .int .i64 aP.Root, .int .i64 aP.Phase, .slice B aP.Terms.length c, .slice B1 aP.Out.length c1], 6⟩, ⟨B2, 56, (r_2.Terms.flatMap enc_Term), c2 * 2⟩, ⟨B3, 44, (r_2.Out.flatMap enc_Affine), c3 * 2⟩, ⟨B4, 56, (r_3.Terms.flatMap enc_Term), c4 * 2⟩, ⟨B5, 44, (r_3.Out.flatMap enc_Affine), c5 * 2⟩, ⟨some ⟨b1, 0, none⟩, 30, [.int .i64 r_3.Ins, .int .i64 r_3.Vars, .int .i64 r_3.Root, .int .i64 r_3.Phase, .slice B4 r_3.Terms.length c4, .slice B5 r_3.Out.length c5], 6⟩, ⟨some ⟨b2, 0, none⟩, 30, [.int .i64 r_6.Ins, .int .i64 r_6.Vars, .int .i64 r_6.Root, .int .i64 r_6.Phase, .slice B6 r_6.Terms.length c6, .slice B7 r_6.Out.length c7], 6⟩, ⟨some ⟨b3, 0, none⟩, 30, [.int .i64 r_7.Ins, .int .i64 r_7.Vars, .int .i64 r_7.Root, .int .i64 r_7.Phase, .slice B8 r_7.Terms.length c8, .slice B9 r_7.Out.length c9], 6⟩, ⟨B10, 56, (r_11.Terms.flatMap enc_Term), c10 * 2⟩, ⟨B11, 44, (r_11.Out.flatMap enc_Affine), c11 * 2⟩, ⟨B6, 56, (m.flatMap enc_Term), c6 * 2⟩, ⟨B7, 44, (m1.flatMap enc_Affine), c7 * 2⟩, ⟨B8, 56, (m2.flatMap enc_Term), c8 * 2⟩, ⟨B9, 44, (m3.flatMap enc_Affine), c9 * 2⟩, ⟨B12, 56, (r_17.Terms.flatMap enc_Term), c12 * 2⟩, ⟨B13, 44, (r_17.Out.flatMap enc_Affine), c13 * 2⟩, ⟨B14, 56, (r_18.Terms.flatMap enc_Term), c14 * 2⟩, ⟨B15, 44, (r_18.Out.flatMap enc_Affine), c15 * 2⟩, ⟨some ⟨b4, 0, none⟩, 30, [.int .i64 r_18.Ins, .int .i64 r_18.Vars, .int .i64 r_18.Root, .int .i64 r_18.Phase, .slice B14 r_18.Terms.length c14, .slice B15 r_18.Out.length c15], 6⟩] [⟨B, (aP.Terms.flatMap enc_Term)⟩, ⟨B1, (aP.Out.flatMap enc_Affine)⟩, ⟨(some ⟨0, 0, none⟩), (gl0.flatMap enc_u8)⟩, ⟨(some ⟨1, 0, none⟩), (gl1.flatMap enc_u8)⟩] := hS27
                  refine sq 98 rfl rfl (Y_not (p := r_21) rfl rfl) ?_
                  refine sq 99 rfl rfl (Y_move (v := .bool (!r_21)) rfl rfl) ?_
                  refine sgq 100 (B := (!(!r_21))) (v := .int .i64 r_19) rfl rfl (wt_f (gd_of (t := 99) (by kernel_rfl) rfl)) (fun hg16 => (Y_move (v := .int .i64 r_19) rfl rfl)) ?_
                  refine sgq 101 (B := (!(!r_21))) (v := .int .i64 r_4) rfl rfl (wt_f (gd_of (t := 99) (by kernel_rfl) rfl)) (fun hg17 => (Y_move (v := .int .i64 r_4) rfl rfl)) ?_
                  refine sgq 102 (B := (!(!r_21))) (v := .bool (r_19 != r_4)) rfl rfl (wt_f (gd_of (t := 99) (by kernel_rfl) rfl)) (fun hg18 => (Y_ne (k := .i64) (a := r_19) (b := r_4) rfl (gv_of (B := (!(!r_21))) (v := .int .i64 r_19) hg18) (gv_of (B := (!(!r_21))) (v := .int .i64 r_4) hg18))) ?_
                  refine sq 103 rfl rfl (Y_or (b := (!r_21)) (z := (r_19 != r_4)) rfl rfl rfl rfl) ?_
                  refine sq 104 rfl rfl (Y_move (v := .bool ((!r_21) || (r_19 != r_4))) rfl rfl) ?_
                  refine sgq 105 (B := (!((!r_21) || (r_19 != r_4)))) (v := .bool r_20) rfl rfl (wt_f (gd_of (t := 104) (by kernel_rfl) rfl)) (fun hg19 => (Y_move (v := .bool r_20) rfl rfl)) ?_
                  refine sgq 106 (B := (!((!r_21) || (r_19 != r_4)))) (v := .bool r_5) rfl rfl (wt_f (gd_of (t := 104) (by kernel_rfl) rfl)) (fun hg20 => (Y_move (v := .bool r_5) rfl rfl)) ?_
                  refine sgq 107 (B := (!((!r_21) || (r_19 != r_4)))) (v := .bool (!(r_20 == r_5))) rfl rfl (wt_f (gd_of (t := 104) (by kernel_rfl) rfl)) (fun hg21 => (Y_bne (p := r_20) (q := r_5) k_und_4 rfl (gv_of (B := (!((!r_21) || (r_19 != r_4)))) (v := .bool r_20) hg21) (gv_of (B := (!((!r_21) || (r_19 != r_4)))) (v := .bool r_5) hg21))) ?_
                  refine sq 108 rfl rfl (Y_or (b := ((!r_21) || (r_19 != r_4))) (z := (!(r_20 == r_5))) rfl rfl rfl rfl) ?_
                  refine rw_nil ?_
                  refine cw_cond (b := (((!r_21) || (r_19 != r_4)) || (!(r_20 == r_5)))) rfl (fun hb6 => ?_) (fun hb6 => ?_)
                  · skip
                    have hF13 := ct hF12 hb6
                    refine cw_seq ?_
                    refine cw_region ?_
                    refine sq 2 rfl rfl (Y_assign (v := .bool false) rfl rfl) ?_
                    refine rw_nil ?_
                    refine cw_ret ?_
                    obtain rfl := some_inj hF13
                    exact ret1 Tryd.results3 (v1 := .bool false) (resAt_tmp rfl) ⟨rfl, (ST.subR (R' := []) (hS27.sel [] rfl rfl) (fun _ h => by cases h))⟩
                  · skip
                    have hF14 := cf' hF12 hb6
                    refine cw_skip ?_
                    refine cw_seq ?_
                    refine cw_region ?_
                    refine sq 13 rfl rfl (Y_assign (v := .int .i64 1) rfl rfl) ?_
                    refine rw_nil ?_
                    refine cw_seq ?_
                    refine cw_region ?_
                    refine sq 109 rfl rfl (Y_loadA (B := some ⟨b3, 0, none⟩) (i := 0) (cs := [.int .i64 r_7.Ins, .int .i64 r_7.Vars, .int .i64 r_7.Root, .int .i64 r_7.Phase, .slice B8 r_7.Terms.length c8, .slice B9 r_7.Out.length c9]) (vs := [.int .i64 r_7.Ins, .int .i64 r_7.Vars, .int .i64 r_7.Root, .int .i64 r_7.Phase, .slice B8 r_7.Terms.length c8, .slice B9 r_7.Out.length c9]) k_ag_30 k_sz_30_6 rfl rfl (hS27.cf (i := 7) rfl) rfl rfl) ?_
                    refine sq 110 rfl rfl (Y_move (v := .int .i64 1) rfl rfl) ?_
                    obtain ⟨r_22, hc15, hF14⟩ := bind_inv hF14
                    refine sc 111 rfl rfl (Yc_func (g := 11) (vs := [.agg #[.int .i64 r_7.Ins, .int .i64 r_7.Vars, .int .i64 r_7.Root, .int .i64 r_7.Phase, .slice B8 r_7.Terms.length c8, .slice B9 r_7.Out.length c9], .int .i64 1]) k_call_11 rfl (mc rfl (mc rfl mn)) (c_laws_heldPathSum (TPathSum.mk r_7.Ins r_7.Vars r_7.Root r_7.Phase m2 m3) 1 B8 c8 r_7.Terms.length B9 c9 r_7.Out.length _ hl2 hl3 (hS27.inn0 [(false, 12), (false, 13)] rfl) hc15)) ?_
                    rintro _ w_24 ⟨rfl, hd14⟩
                    have hS28 := hS27.out00 hd14
                    have hS28 : ST w0 [] _ [⟨some ⟨b, 0, none⟩, 25, [.int .i64 aP.Ins, .int .i64 aP.Vars, .int .i64 aP.Root, .int .i64 aP.Phase, .slice B aP.Terms.length c, .slice B1 aP.Out.length c1], 6⟩, ⟨B2, 56, (r_2.Terms.flatMap enc_Term), c2 * 2⟩, ⟨B3, 44, (r_2.Out.flatMap enc_Affine), c3 * 2⟩, ⟨B4, 56, (r_3.Terms.flatMap enc_Term), c4 * 2⟩, ⟨B5, 44, (r_3.Out.flatMap enc_Affine), c5 * 2⟩, ⟨some ⟨b1, 0, none⟩, 30, [.int .i64 r_3.Ins, .int .i64 r_3.Vars, .int .i64 r_3.Root, .int .i64 r_3.Phase, .slice B4 r_3.Terms.length c4, .slice B5 r_3.Out.length c5], 6⟩, ⟨some ⟨b2, 0, none⟩, 30, [.int .i64 r_6.Ins, .int .i64 r_6.Vars, .int .i64 r_6.Root, .int .i64 r_6.Phase, .slice B6 r_6.Terms.length c6, .slice B7 r_6.Out.length c7], 6⟩, ⟨some ⟨b3, 0, none⟩, 30, [.int .i64 r_7.Ins, .int .i64 r_7.Vars, .int .i64 r_7.Root, .int .i64 r_7.Phase, .slice B8 r_7.Terms.length c8, .slice B9 r_7.Out.length c9], 6⟩, ⟨B10, 56, (r_11.Terms.flatMap enc_Term), c10 * 2⟩, ⟨B11, 44, (r_11.Out.flatMap enc_Affine), c11 * 2⟩, ⟨B6, 56, (m.flatMap enc_Term), c6 * 2⟩, ⟨B7, 44, (m1.flatMap enc_Affine), c7 * 2⟩, ⟨B8, 56, (m2.flatMap enc_Term), c8 * 2⟩, ⟨B9, 44, (m3.flatMap enc_Affine), c9 * 2⟩, ⟨B12, 56, (r_17.Terms.flatMap enc_Term), c12 * 2⟩, ⟨B13, 44, (r_17.Out.flatMap enc_Affine), c13 * 2⟩, ⟨B14, 56, (r_18.Terms.flatMap enc_Term), c14 * 2⟩, ⟨B15, 44, (r_18.Out.flatMap enc_Affine), c15 * 2⟩, ⟨some ⟨b4, 0, none⟩, 30, [.int .i64 r_18.Ins, .int .i64 r_18.Vars, .int .i64 r_18.Root, .int .i64 r_18.Phase, .slice B14 r_18.Terms.length c14, .slice B15 r_18.Out.length c15], 6⟩] [⟨B, (aP.Terms.flatMap enc_Term)⟩, ⟨B1, (aP.Out.flatMap enc_Affine)⟩, ⟨(some ⟨0, 0, none⟩), (gl0.flatMap enc_u8)⟩, ⟨(some ⟨1, 0, none⟩), (gl1.flatMap enc_u8)⟩] := hS28
                    refine sq 13 rfl rfl (Y_assign (v := .int .i64 r_22) rfl rfl) ?_
                    refine rw_nil ?_
                    refine cw_seq ?_
                    refine cw_seq ?_
                    refine cw_region ?_
                    refine sq 112 rfl rfl (Y_move (v := .int .i64 r_22) rfl rfl) ?_
                    refine sq 113 rfl rfl (Y_lt (k := .i64) (a := r_22) (b := 0) rfl rfl rfl) ?_
                    refine rw_nil ?_
                    refine cw_cond (b := (decide (r_22 < 0))) rfl (fun hb7 => ?_) (fun hb7 => ?_)
                    · skip
                      have hF15 := ct hF14 hb7
                      refine cw_seq ?_
                      refine cw_region ?_
                      refine sq 2 rfl rfl (Y_assign (v := .bool false) rfl rfl) ?_
                      refine rw_nil ?_
                      refine cw_ret ?_
                      obtain rfl := some_inj hF15
                      exact ret1 Tryd.results3 (v1 := .bool false) (resAt_tmp rfl) ⟨rfl, (ST.subR (R' := []) (hS28.sel [] rfl rfl) (fun _ h => by cases h))⟩
                    · skip
                      have hF16 := cf' hF14 hb7
                      refine cw_skip ?_
                      refine cw_seq ?_
                      refine cw_seq ?_
                      refine cw_region ?_
                      refine sq 114 rfl rfl (Y_move (v := .int .i64 r_22) rfl rfl) ?_
                      refine sq 115 rfl rfl (Y_move (v := .int .i64 r_15) rfl rfl) ?_
                      refine sq 116 rfl rfl (Y_ne (k := .i64) (a := r_22) (b := r_15) rfl rfl rfl) ?_
                      refine rw_nil ?_
                      refine cw_cond (b := (r_22 != r_15)) rfl (fun hb8 => ?_) (fun hb8 => ?_)
                      · skip
                        have hF17 := ct hF16 hb8
                        refine cw_seq ?_
                        refine cw_region ?_
                        refine sq 2 rfl rfl (Y_assign (v := .bool false) rfl rfl) ?_
                        refine rw_nil ?_
                        refine cw_ret ?_
                        obtain rfl := some_inj hF17
                        exact ret1 Tryd.results3 (v1 := .bool false) (resAt_tmp rfl) ⟨rfl, (ST.subR (R' := []) (hS28.sel [] rfl rfl) (fun _ h => by cases h))⟩
                      · skip
                        have hF18 := cf' hF16 hb8
                        refine cw_skip ?_
                        refine cw_seq ?_
                        refine cw_region ?_
                        refine sq 2 rfl rfl (Y_assign (v := .bool true) rfl rfl) ?_
                        refine rw_nil ?_
                        refine cw_ret ?_
                        obtain rfl := some_inj hF18
                        exact ret1 Tryd.results3 (v1 := .bool true) (resAt_tmp rfl) ⟨rfl, (ST.subR (R' := []) (hS28.sel [] rfl rfl) (fun _ h => by cases h))⟩
        exact allR_nil
      exact allR_nil
end Go.VK
