/- Walks: each Go function returns what its Lean function says. By program. -/
import Derived.Test.YtklicjfbpikobaaDoorReduceStepFa
import Derived.Test.YtklicjfbpikobaaDoorReduceStepShelf
import Derived.Test.YtklicjfbpikobaaDoorLibT
import Derived.WalkKit
import Derived.Test.YtklicjfbpikobaaDoorReduceStepW1
set_option linter.unusedVariables false
set_option maxRecDepth 100000
set_option maxHeartbeats 4000000
namespace Go.VK
open Go.RowKit
open Go.Proofs
attribute [local irreducible] CW RW RA CV Y Yw Yc Ys RetOf
attribute [local irreducible] F_laws_szTermS F_laws_szAffineS F_laws_szPathSum F_spec_l1In F_spec_l1Set F_spec_l21Valid F_spec_l21Rule F_spec_l21Drop F_spec_l21Sum_add F_spec_l21Sum_times F_spec_l21Replace F_spec_l21Without F_spec_l21Step F_spec_ReduceStep F_laws_toTerm F_laws_toTermS F_laws_toAffine F_laws_toAffineS F_laws_toPathSum F_slices_IndexFunc_impl_Affine_impl_Affine F_slices_ContainsFunc_impl_Affine_impl_Affine F_impl_within F_math_bits_OnesCount64 F_math_bits_OnesCount F_impl_bitsIn F_impl_isAffine F_impl_IsValidPathSum_1 F_impl_IsValidPathSum F_impl_ReduceStep_1 F_impl_PathSum_around F_math_bits_TrailingZeros64 F_math_bits_TrailingZeros F_impl_dropped F_impl_PathSum_without F_impl_polyOf F_impl_polynomial_add F_impl_bitsOf F_impl_polynomial_expand F_impl_polynomial_terms F_impl_PathSum_stripped F_impl_PathSum_substituted F_impl_PathSum_ruled F_impl_ReduceStep F_laws_eqTerm F_laws_eqTermS F_laws_eqAffine F_laws_eqAffineS F_laws_eqPathSum F_laws_markTermS F_laws_markAffineS F_laws_markPathSum F_laws_heldTermS F_laws_heldAffineS F_laws_heldPathSum F_laws_FnExactReduceStep
theorem c_spec_l21Replace (p : TPathSum) (v_ : Int) (by_ : TAffine) (B : Option Addr) (c n : Nat) (B1 : Option Addr) (c1 n1 : Nat) (w0 : World) (hn : p.Terms.length = n) (hn1 : p.Out.length = n1) (hS : ST w0 [] w0 [] [⟨B, (p.Terms.flatMap enc_Term)⟩, ⟨B1, (p.Out.flatMap enc_Affine)⟩]) {r_ : TPathSum} (hF : F_spec_l21Replace p v_ by_ = some r_) :
    CV Tryd.prog 41 #[.agg #[.int .i64 p.Ins, .int .i64 p.Vars, .int .i64 p.Root, .int .i64 p.Phase, .slice B n c, .slice B1 n1 c1], .int .i64 v_, .agg #[.int .i64 by_.Mask, .int .i64 by_.Turn]] w0 (fun v w' => ∃ (B2 : Option Addr) (c2 : Nat) (B3 : Option Addr) (c3 : Nat), v = .agg #[.int .i64 r_.Ins, .int .i64 r_.Vars, .int .i64 r_.Root, .int .i64 r_.Phase, .slice B2 r_.Terms.length c2, .slice B3 r_.Out.length c3] ∧ ST w0 [] w' [⟨B2, 56, (r_.Terms.flatMap enc_Term), c2 * 2⟩, ⟨B3, 44, (r_.Out.flatMap enc_Affine), c3 * 2⟩] []) := by
  subst hn
  subst hn1
  unfold F_spec_l21Replace at hF
  refine cv_of_cw 114 Tryd.func41 rfl Tryd.ntmps41 rfl ?_
  refine cw_seq ?_
  refine cw_region ?_
  refine ss 3 rfl rfl (Ys_box (T := 30) (v := .agg #[.int .i64 p.Ins, .int .i64 p.Vars, .int .i64 p.Root, .int .i64 p.Phase, .slice B p.Terms.length c, .slice B1 p.Out.length c1]) (cs := [.int .i64 p.Ins, .int .i64 p.Vars, .int .i64 p.Root, .int .i64 p.Phase, .slice B p.Terms.length c, .slice B1 p.Out.length c1]) (m := 6) hS rfl rfl rfl rfl) ?_
  rintro _ w_ ⟨b, rfl, hS1⟩
  refine ss 5 rfl rfl (Ys_box (T := 44) (v := .agg #[.int .i64 by_.Mask, .int .i64 by_.Turn]) (cs := [.int .i64 by_.Mask, .int .i64 by_.Turn]) (m := 2) hS1 rfl rfl rfl rfl) ?_
  rintro _ w_1 ⟨b1, rfl, hS2⟩
  have hS2 : ST w0 [] _ [⟨some ⟨b, 0, none⟩, 30, [.int .i64 p.Ins, .int .i64 p.Vars, .int .i64 p.Root, .int .i64 p.Phase, .slice B p.Terms.length c, .slice B1 p.Out.length c1], 6⟩, ⟨some ⟨b1, 0, none⟩, 44, [.int .i64 by_.Mask, .int .i64 by_.Turn], 2⟩] [⟨B, (p.Terms.flatMap enc_Term)⟩, ⟨B1, (p.Out.flatMap enc_Affine)⟩] := hS2
  refine ss 6 rfl rfl (Ys_alloc (T := 30) (cs := [.int .i64 0, .int .i64 0, .int .i64 0, .int .i64 0, .slice none 0 0, .slice none 0 0]) (m := 6) hS2 k_zero_30 rfl rfl rfl) ?_
  rintro _ w_2 ⟨b2, rfl, hS3⟩
  have hS3 : ST w0 [] _ [⟨some ⟨b, 0, none⟩, 30, [.int .i64 p.Ins, .int .i64 p.Vars, .int .i64 p.Root, .int .i64 p.Phase, .slice B p.Terms.length c, .slice B1 p.Out.length c1], 6⟩, ⟨some ⟨b1, 0, none⟩, 44, [.int .i64 by_.Mask, .int .i64 by_.Turn], 2⟩, ⟨some ⟨b2, 0, none⟩, 30, [.int .i64 0, .int .i64 0, .int .i64 0, .int .i64 0, .slice none 0 0, .slice none 0 0], 6⟩] [⟨B, (p.Terms.flatMap enc_Term)⟩, ⟨B1, (p.Out.flatMap enc_Affine)⟩] := hS3
  refine rw_nil ?_
  refine cw_seq ?_
  refine cw_region ?_
  refine sq 13 rfl rfl (Y_fieldAddr (B := some ⟨b, 0, none⟩) (i := 0) (s := 0) k_fd_30_3_3_3 k_sz_3_1 rfl rfl) ?_
  refine sq 14 rfl rfl (Y_load1 (B := some ⟨b, 0, none⟩) (i := 3) (cs := [.int .i64 p.Ins, .int .i64 p.Vars, .int .i64 p.Root, .int .i64 p.Phase, .slice B p.Terms.length c, .slice B1 p.Out.length c1]) (v := .int .i64 p.Phase) k_sc_3 rfl rfl (hS3.cf (i := 0) rfl) rfl) ?_
  refine sq 15 rfl rfl (Y_buildS (zs := [.int .i64 0, .slice none 0 0]) (vs := [(0, .int .i64 p.Phase)]) (cs := [.int .i64 p.Phase, .slice none 0 0]) k_pl_68 k_zero_68 rfl (mpc rfl mpn) rfl) ?_
  refine ss 16 rfl rfl (Ys_box (T := 68) (v := .agg #[.int .i64 p.Phase, .slice none 0 0]) (cs := [.int .i64 p.Phase, .slice none 0 0]) (m := 2) hS3 rfl rfl rfl rfl) ?_
  rintro _ w_3 ⟨b3, rfl, hS4⟩
  have hS4 : ST w0 [] _ [⟨some ⟨b, 0, none⟩, 30, [.int .i64 p.Ins, .int .i64 p.Vars, .int .i64 p.Root, .int .i64 p.Phase, .slice B p.Terms.length c, .slice B1 p.Out.length c1], 6⟩, ⟨some ⟨b1, 0, none⟩, 44, [.int .i64 by_.Mask, .int .i64 by_.Turn], 2⟩, ⟨some ⟨b2, 0, none⟩, 30, [.int .i64 0, .int .i64 0, .int .i64 0, .int .i64 0, .slice none 0 0, .slice none 0 0], 6⟩, ⟨some ⟨b3, 0, none⟩, 68, [.int .i64 p.Phase, .slice none 0 0], 2⟩] [⟨B, (p.Terms.flatMap enc_Term)⟩, ⟨B1, (p.Out.flatMap enc_Affine)⟩] := hS4
  refine sq 7 rfl rfl (Y_assign (v := pt (some ⟨b3, 0, none⟩) 0) rfl rfl) ?_
  refine rw_nil ?_
  refine cw_seq ?_
  refine cw_seq ?_
  refine cw_region ?_
  refine sq 17 rfl rfl (Y_fieldAddr (B := some ⟨b, 0, none⟩) (i := 0) (s := 0) k_fd_30_4_4_27 k_sz_27_1 rfl rfl) ?_
  refine sq 18 rfl rfl (Y_load1 (B := some ⟨b, 0, none⟩) (i := 4) (cs := [.int .i64 p.Ins, .int .i64 p.Vars, .int .i64 p.Root, .int .i64 p.Phase, .slice B p.Terms.length c, .slice B1 p.Out.length c1]) (v := .slice B p.Terms.length c) k_sc_27 rfl rfl (hS4.cf (i := 0) rfl) rfl) ?_
  refine sq 19 rfl rfl (Y_len (B := B) (m := p.Terms.length) (c := c) k_sl_27_56 rfl rfl) ?_
  refine sq 20 rfl rfl (Y_move (v := .int .i64 0) rfl rfl) ?_
  refine rw_nil ?_
  obtain ⟨hN, hF⟩ := chk_inv hF
  obtain ⟨z, hz, hF1⟩ := bind_inv hF
  have hS6 := hS4.addNil 56
  refine cw_block ?_
  refine cw_loop (fun k f w => ∃ (i : Nat) (phase : Int) (terms : List TTerm) (B4 : Option Addr) (c4 : Nat), FF f [(1, .int .i64 v_), (3, pt (some ⟨b, 0, none⟩) 0), (5, pt (some ⟨b1, 0, none⟩) 0), (6, pt (some ⟨b2, 0, none⟩) 0), (7, pt (some ⟨b3, 0, none⟩) 0), (18, .slice B p.Terms.length c), (19, .int .i64 (p.Terms.length : Int)), (20, .int .i64 (i : Int))] ∧ ST w0 [] w [⟨some ⟨b, 0, none⟩, 30, [.int .i64 p.Ins, .int .i64 p.Vars, .int .i64 p.Root, .int .i64 p.Phase, .slice B p.Terms.length c, .slice B1 p.Out.length c1], 6⟩, ⟨some ⟨b1, 0, none⟩, 44, [.int .i64 by_.Mask, .int .i64 by_.Turn], 2⟩, ⟨some ⟨b2, 0, none⟩, 30, [.int .i64 0, .int .i64 0, .int .i64 0, .int .i64 0, .slice none 0 0, .slice none 0 0], 6⟩, ⟨some ⟨b3, 0, none⟩, 68, [.int .i64 phase, .slice B4 terms.length c4], 2⟩, ⟨B4, 56, (terms.flatMap enc_Term), c4 * 2⟩] [⟨B, (p.Terms.flatMap enc_Term)⟩, ⟨B1, (p.Out.flatMap enc_Affine)⟩] ∧ i + k = p.Terms.length ∧ forN (F_spec_l21Replace_l1 p v_ by_) k i (phase, terms) = some z) p.Terms.length ⟨0, p.Phase, [], none, 0, (FF.cons rfl (FF.cons rfl (FF.cons rfl (FF.cons rfl (FF.cons rfl (FF.cons rfl (FF.cons rfl (FF.cons rfl FF.nil)))))))), (hS6.sel [0, 1, 2, 3, 4] rfl rfl), Nat.zero_add _, hz⟩ ?_
  rintro k_ f w ⟨i, phase, terms, B4, c4, hf, hS5, hik, hL⟩
  refine cw_seq ?_
  refine cw_region ?_
  refine sq 21 rfl rfl (Y_lt (k := .i64) (a := (i : Int)) (b := (p.Terms.length : Int)) rfl (hf.get 20 7 rfl) (hf.get 19 6 rfl)) ?_
  refine rw_nil ?_
  refine cw_seq ?_
  refine cw_cond (b := (decide ((i : Int) < (p.Terms.length : Int)))) rfl (fun hlt => ?_) (fun hlt => ?_)
  · skip
    have hlt1 : i < p.Terms.length := by have h := of_decide_eq_true hlt; omega
    obtain ⟨k_1, rfl⟩ : ∃ k2, k_ = k2 + 1 := ⟨k_ - 1, by omega⟩
    obtain ⟨y, hb, hL1⟩ := forN_go hL
    unfold F_spec_l21Replace_l1 at hb
    refine cw_skip ?_
    refine cw_seq ?_
    obtain ⟨z1, hz1, hF2⟩ := bind_inv hb
    refine cw_mid (fun f w => ∃ (phase1 : Int) (terms1 : List TTerm) (B5 : Option Addr) (c5 : Nat), (phase1, terms1) = z1 ∧ FF f [(1, .int .i64 v_), (3, pt (some ⟨b, 0, none⟩) 0), (5, pt (some ⟨b1, 0, none⟩) 0), (6, pt (some ⟨b2, 0, none⟩) 0), (7, pt (some ⟨b3, 0, none⟩) 0), (18, .slice B p.Terms.length c), (19, .int .i64 (p.Terms.length : Int)), (20, .int .i64 (i : Int))] ∧ ST w0 [] w [⟨some ⟨b, 0, none⟩, 30, [.int .i64 p.Ins, .int .i64 p.Vars, .int .i64 p.Root, .int .i64 p.Phase, .slice B p.Terms.length c, .slice B1 p.Out.length c1], 6⟩, ⟨some ⟨b1, 0, none⟩, 44, [.int .i64 by_.Mask, .int .i64 by_.Turn], 2⟩, ⟨some ⟨b2, 0, none⟩, 30, [.int .i64 0, .int .i64 0, .int .i64 0, .int .i64 0, .slice none 0 0, .slice none 0 0], 6⟩, ⟨some ⟨b3, 0, none⟩, 68, [.int .i64 phase1, .slice B5 terms1.length c5], 2⟩, ⟨B5, 56, (terms1.flatMap enc_Term), c5 * 2⟩] [⟨B, (p.Terms.flatMap enc_Term)⟩, ⟨B1, (p.Out.flatMap enc_Affine)⟩]) ?_ ?_
    · skip
      refine cw_block ?_
      refine cw_seq ?_
      refine cw_region ?_
      obtain ⟨x, hx, hz1⟩ := bind_inv hz1
      refine sq 22 rfl rfl (Y_index (B := B) (m := p.Terms.length) (c := c) (k := .i64) (i := (i : Int)) k_sl_27_56 k_sz_56_2 rfl (hf.get 18 5 rfl) (hf.get 20 7 rfl) (gi_isSome enc_Term_len rfl (hS5.rf (i := 0) rfl) hx) (getI_nn hx) (getI_ltI hx rfl)) ?_
      refine sq 23 rfl rfl (Y_loadA (B := B) (i := (i : Int).toNat * 2) (cs := (p.Terms.flatMap enc_Term)) (vs := [.int .i64 x.Mask, .int .i64 x.Coef]) k_ag_56 k_sz_56_2 rfl rfl (hS5.rf (i := 0) rfl) (enc_Term_len x) (gi_seg enc_Term_len hx)) ?_
      refine ss 9 rfl rfl (Ys_alloc (T := 56) (cs := [.int .i64 0, .int .i64 0]) (m := 2) hS5 k_zero_56 rfl rfl rfl) ?_
      rintro _ w_4 ⟨b4, rfl, hS8⟩
      have hS8 : ST w0 [] _ [⟨some ⟨b, 0, none⟩, 30, [.int .i64 p.Ins, .int .i64 p.Vars, .int .i64 p.Root, .int .i64 p.Phase, .slice B p.Terms.length c, .slice B1 p.Out.length c1], 6⟩, ⟨some ⟨b1, 0, none⟩, 44, [.int .i64 by_.Mask, .int .i64 by_.Turn], 2⟩, ⟨some ⟨b2, 0, none⟩, 30, [.int .i64 0, .int .i64 0, .int .i64 0, .int .i64 0, .slice none 0 0, .slice none 0 0], 6⟩, ⟨some ⟨b3, 0, none⟩, 68, [.int .i64 phase, .slice B4 terms.length c4], 2⟩, ⟨B4, 56, (terms.flatMap enc_Term), c4 * 2⟩, ⟨some ⟨b4, 0, none⟩, 56, [.int .i64 0, .int .i64 0], 2⟩] [⟨B, (p.Terms.flatMap enc_Term)⟩, ⟨B1, (p.Out.flatMap enc_Affine)⟩] := hS8
      refine ss0 rfl rfl (Ys_store (i := 5) (s := 2) (B := some ⟨b4, 0, none⟩) (T' := 56) (v := .agg #[.int .i64 x.Mask, .int .i64 x.Coef]) (vs := [.int .i64 x.Mask, .int .i64 x.Coef]) (k := 0) (cs' := [.int .i64 x.Mask, .int .i64 x.Coef]) hS8 k_sz_56_2 rfl rfl rfl rfl rfl rfl rfl (Nat.le_of_ble_eq_true rfl) rfl rfl) ?_
      rintro _ w_5 ⟨rfl, hS9⟩
      have hS9 : ST w0 [] _ [⟨some ⟨b, 0, none⟩, 30, [.int .i64 p.Ins, .int .i64 p.Vars, .int .i64 p.Root, .int .i64 p.Phase, .slice B p.Terms.length c, .slice B1 p.Out.length c1], 6⟩, ⟨some ⟨b1, 0, none⟩, 44, [.int .i64 by_.Mask, .int .i64 by_.Turn], 2⟩, ⟨some ⟨b2, 0, none⟩, 30, [.int .i64 0, .int .i64 0, .int .i64 0, .int .i64 0, .slice none 0 0, .slice none 0 0], 6⟩, ⟨some ⟨b3, 0, none⟩, 68, [.int .i64 phase, .slice B4 terms.length c4], 2⟩, ⟨B4, 56, (terms.flatMap enc_Term), c4 * 2⟩, ⟨some ⟨b4, 0, none⟩, 56, [.int .i64 x.Mask, .int .i64 x.Coef], 2⟩] [⟨B, (p.Terms.flatMap enc_Term)⟩, ⟨B1, (p.Out.flatMap enc_Affine)⟩] := hS9
      refine rw_nil ?_
      refine cw_seq ?_
      refine cw_region ?_
      refine sq 24 rfl rfl (Y_fieldAddr (B := some ⟨b4, 0, none⟩) (i := 0) (s := 0) k_fd_56_0_0_3 k_sz_3_1 rfl rfl) ?_
      refine sq 25 rfl rfl (Y_load1 (B := some ⟨b4, 0, none⟩) (i := 0) (cs := [.int .i64 x.Mask, .int .i64 x.Coef]) (v := .int .i64 x.Mask) k_sc_3 rfl rfl (hS9.cf (i := 5) rfl) rfl) ?_
      refine sq 26 rfl rfl (Y_move (v := .int .i64 v_) rfl (hf.get 1 0 rfl)) ?_
      refine sq 27 rfl rfl (Y_conv (k := .i64) (a := v_) (T := 3) (T' := 59) k_us_3 k_int_59_u64 rfl rfl) ?_
      obtain ⟨hsh, hz1⟩ := chk_inv hz1
      refine sq 28 rfl rfl (Y_shr (k := .i64) (a := x.Mask) (k' := .u64) (b := (IntKind.u64.wrap v_)) rfl rfl rfl hsh) ?_
      refine sq 29 rfl rfl (Y_band (k := .i64) (a := (shrK .i64 x.Mask (IntKind.u64.wrap v_))) (b := 1) rfl rfl rfl) ?_
      refine sq 30 rfl rfl (Y_eq (k := .i64) (a := (bits .and .i64 (shrK .i64 x.Mask (IntKind.u64.wrap v_)) 1)) (b := 0) rfl rfl rfl) ?_
      refine rw_nil ?_
      refine cw_cond (b := ((bits .and .i64 (shrK .i64 x.Mask (IntKind.u64.wrap v_)) 1) == 0)) rfl (fun hb1 => ?_) (fun hb1 => ?_)
      · skip
        have hF3 := ct hz1 hb1
        obtain ⟨r_1, hc, hF3⟩ := bind_inv hF3
        obtain ⟨m, hc1, hF3⟩ := bind_inv hF3
        refine ra_start (ST.sel hS9 [0, 1, 2, 5] rfl rfl).fn (by kernel_rfl) ?_
        have hS12 := hS9.drew
        refine ra_q 0 31 (v := pt (some ⟨b3, 0, none⟩) 0) rfl rfl rfl (by kernel_rfl) (by kernel_rfl) (by kernel_rfl) (ST.sel hS12 [0, 1, 2, 5] rfl rfl) (fun w' hw' => (Y_move (v := pt (some ⟨b3, 0, none⟩) 0) rfl (hf.get 7 4 rfl))) ?_
        refine ra_q 1 32 (v := pt (some ⟨b4, 0, none⟩) 0) rfl rfl rfl (by kernel_rfl) (by kernel_rfl) (by kernel_rfl) (ST.sel hS12 [0, 1, 2, 5] rfl rfl) (fun w' hw' => (Y_fieldAddr (B := some ⟨b4, 0, none⟩) (i := 0) (s := 0) k_fd_56_0_0_3 k_sz_3_1 rfl rfl)) ?_
        refine ra_q 2 33 (v := .int .i64 x.Mask) rfl rfl rfl (by kernel_rfl) (by kernel_rfl) (by kernel_rfl) (ST.sel hS12 [0, 1, 2, 5] rfl rfl) (fun w' hw' => (Y_load1 (B := some ⟨b4, 0, none⟩) (i := 0) (cs := [.int .i64 x.Mask, .int .i64 x.Coef]) (v := .int .i64 x.Mask) k_sc_3 rfl rfl (ST.cf hw' (i := 3) rfl) rfl)) ?_
        refine ra_q 3 34 (v := .int .i64 v_) rfl rfl rfl (by kernel_rfl) (by kernel_rfl) (by kernel_rfl) (ST.sel hS12 [0, 1, 2, 5] rfl rfl) (fun w' hw' => (Y_move (v := .int .i64 v_) rfl (hf.get 1 0 rfl))) ?_
        refine ra_q 5 36 (v := pt (some ⟨b4, 0, none⟩) 1) rfl rfl rfl (by kernel_rfl) (by kernel_rfl) (by kernel_rfl) (ST.sel hS12 [0, 1, 2, 5] rfl rfl) (fun w' hw' => (Y_fieldAddr (B := some ⟨b4, 0, none⟩) (i := 0) (s := 0) k_fd_56_1_1_3 k_sz_3_1 rfl rfl)) ?_
        refine ra_q 6 37 (v := .int .i64 x.Coef) rfl rfl rfl (by kernel_rfl) (by kernel_rfl) (by kernel_rfl) (ST.sel hS12 [0, 1, 2, 5] rfl rfl) (fun w' hw' => (Y_load1 (B := some ⟨b4, 0, none⟩) (i := 1) (cs := [.int .i64 x.Mask, .int .i64 x.Coef]) (v := .int .i64 x.Coef) k_sc_3 rfl rfl (ST.cf hw' (i := 3) rfl) rfl)) ?_
        refine ra_all (rs := [4]) (by kernel_rfl) rfl ?_
        refine ra_c 35 (i := 4) rfl rfl rfl (Yc_func (g := 38) (vs := [.int .i64 x.Mask, .int .i64 v_]) k_call_38 rfl (mc rfl (mc rfl mn)) (c_spec_l21Drop x.Mask v_ _  (hS12.inn0 [] rfl) hc)) ?_ ?_
        · rintro _ w_6 ⟨rfl, hd⟩
          have hS13 := hS12.out00 hd
          have hS13 : ST w0 [] _ [⟨some ⟨b, 0, none⟩, 30, [.int .i64 p.Ins, .int .i64 p.Vars, .int .i64 p.Root, .int .i64 p.Phase, .slice B p.Terms.length c, .slice B1 p.Out.length c1], 6⟩, ⟨some ⟨b1, 0, none⟩, 44, [.int .i64 by_.Mask, .int .i64 by_.Turn], 2⟩, ⟨some ⟨b2, 0, none⟩, 30, [.int .i64 0, .int .i64 0, .int .i64 0, .int .i64 0, .slice none 0 0, .slice none 0 0], 6⟩, ⟨some ⟨b3, 0, none⟩, 68, [.int .i64 phase, .slice B4 terms.length c4], 2⟩, ⟨B4, 56, (terms.flatMap enc_Term), c4 * 2⟩, ⟨some ⟨b4, 0, none⟩, 56, [.int .i64 x.Mask, .int .i64 x.Coef], 2⟩] [⟨B, (p.Terms.flatMap enc_Term)⟩, ⟨B1, (p.Out.flatMap enc_Affine)⟩] := hS13
          refine ⟨(ST.sel hS13 [0, 1, 2, 5] rfl rfl), ?_⟩
          refine ra_all (rs := [7]) (by kernel_rfl) rfl ?_
          refine ra_c 38 (i := 7) rfl rfl rfl (Yc_func (g := 39) (vs := [pt (some ⟨b3, 0, none⟩) 0, .int .i64 r_1, .int .i64 x.Coef]) k_call_39 rfl (mc rfl (mc rfl (mc rfl mn))) (c_spec_l21Sum_add (Tl21Sum.mk phase terms) r_1 x.Coef (some ⟨b3, 0, none⟩) B4 c4 terms.length _ rfl (hS13.lencap (i := 4) rfl (fm_lenn (l := terms) enc_Term_len rfl) rfl rfl) (hS13.inn [false, false, false, true, true, false] rfl [] rfl) hc1)) ?_ ?_
          · rintro _ w_7 ⟨B6, c6, rfl, hd1⟩
            have hS14 := hS13.out [false, false, false, true, true, false] rfl hd1
            have hS14 : ST w0 [] _ [⟨some ⟨b, 0, none⟩, 30, [.int .i64 p.Ins, .int .i64 p.Vars, .int .i64 p.Root, .int .i64 p.Phase, .slice B p.Terms.length c, .slice B1 p.Out.length c1], 6⟩, ⟨some ⟨b1, 0, none⟩, 44, [.int .i64 by_.Mask, .int .i64 by_.Turn], 2⟩, ⟨some ⟨b2, 0, none⟩, 30, [.int .i64 0, .int .i64 0, .int .i64 0, .int .i64 0, .slice none 0 0, .slice none 0 0], 6⟩, ⟨some ⟨b4, 0, none⟩, 56, [.int .i64 x.Mask, .int .i64 x.Coef], 2⟩, ⟨some ⟨b3, 0, none⟩, 68, [.int .i64 m.phase, .slice B6 m.terms.length c6], 2⟩, ⟨B6, 56, (m.terms.flatMap enc_Term), c6 * 2⟩] [⟨B, (p.Terms.flatMap enc_Term)⟩, ⟨B1, (p.Out.flatMap enc_Affine)⟩] := hS14
            refine ⟨(ST.sel hS14 [0, 1, 2, 3] rfl rfl), ?_⟩
            refine ra_done (by kernel_rfl) ?_
            exact ⟨m.phase, m.terms, B6, c6, (some_inj hF3), (FF.cons (hf.get 1 0 rfl) (FF.cons (hf.get 3 1 rfl) (FF.cons (hf.get 5 2 rfl) (FF.cons (hf.get 6 3 rfl) (FF.cons (hf.get 7 4 rfl) (FF.cons (hf.get 18 5 rfl) (FF.cons (hf.get 19 6 rfl) (FF.cons (hf.get 20 7 rfl) FF.nil)))))))), (hS14.sel [0, 1, 2, 4, 5] rfl rfl)⟩
          exact allR_nil
        exact allR_nil
      · skip
        have hF4 := cf' hz1 hb1
        obtain ⟨r_2, hc2, hF4⟩ := bind_inv hF4
        obtain ⟨r_3, hc3, hF4⟩ := bind_inv hF4
        obtain ⟨m1, hc4, hF4⟩ := bind_inv hF4
        refine ra_start (ST.sel hS9 [0, 1, 2, 5] rfl rfl).fn (by kernel_rfl) ?_
        have hS18 := hS9.drew
        refine ra_q 0 39 (v := pt (some ⟨b3, 0, none⟩) 0) rfl rfl rfl (by kernel_rfl) (by kernel_rfl) (by kernel_rfl) (ST.sel hS18 [0, 1, 2, 5] rfl rfl) (fun w' hw' => (Y_move (v := pt (some ⟨b3, 0, none⟩) 0) rfl (hf.get 7 4 rfl))) ?_
        refine ra_q 1 40 (v := pt (some ⟨b4, 0, none⟩) 0) rfl rfl rfl (by kernel_rfl) (by kernel_rfl) (by kernel_rfl) (ST.sel hS18 [0, 1, 2, 5] rfl rfl) (fun w' hw' => (Y_fieldAddr (B := some ⟨b4, 0, none⟩) (i := 0) (s := 0) k_fd_56_0_0_3 k_sz_3_1 rfl rfl)) ?_
        refine ra_q 2 41 (v := .int .i64 x.Mask) rfl rfl rfl (by kernel_rfl) (by kernel_rfl) (by kernel_rfl) (ST.sel hS18 [0, 1, 2, 5] rfl rfl) (fun w' hw' => (Y_load1 (B := some ⟨b4, 0, none⟩) (i := 0) (cs := [.int .i64 x.Mask, .int .i64 x.Coef]) (v := .int .i64 x.Mask) k_sc_3 rfl rfl (ST.cf hw' (i := 3) rfl) rfl)) ?_
        refine ra_q 3 42 (v := .int .i64 v_) rfl rfl rfl (by kernel_rfl) (by kernel_rfl) (by kernel_rfl) (ST.sel hS18 [0, 1, 2, 5] rfl rfl) (fun w' hw' => (Y_move (v := .int .i64 v_) rfl (hf.get 1 0 rfl))) ?_
        refine ra_q 5 44 (v := pt (some ⟨b4, 0, none⟩) 1) rfl rfl rfl (by kernel_rfl) (by kernel_rfl) (by kernel_rfl) (ST.sel hS18 [0, 1, 2, 5] rfl rfl) (fun w' hw' => (Y_fieldAddr (B := some ⟨b4, 0, none⟩) (i := 0) (s := 0) k_fd_56_1_1_3 k_sz_3_1 rfl rfl)) ?_
        refine ra_q 6 45 (v := .int .i64 x.Coef) rfl rfl rfl (by kernel_rfl) (by kernel_rfl) (by kernel_rfl) (ST.sel hS18 [0, 1, 2, 5] rfl rfl) (fun w' hw' => (Y_load1 (B := some ⟨b4, 0, none⟩) (i := 1) (cs := [.int .i64 x.Mask, .int .i64 x.Coef]) (v := .int .i64 x.Coef) k_sc_3 rfl rfl (ST.cf hw' (i := 3) rfl) rfl)) ?_
        refine ra_q 7 46 (v := pt (some ⟨b1, 0, none⟩) 0) rfl rfl rfl (by kernel_rfl) (by kernel_rfl) (by kernel_rfl) (ST.sel hS18 [0, 1, 2, 5] rfl rfl) (fun w' hw' => (Y_fieldAddr (B := some ⟨b1, 0, none⟩) (i := 0) (s := 0) k_fd_44_0_0_3 k_sz_3_1 rfl (hf.get 5 2 rfl))) ?_
        refine ra_q 8 47 (v := .int .i64 by_.Mask) rfl rfl rfl (by kernel_rfl) (by kernel_rfl) (by kernel_rfl) (ST.sel hS18 [0, 1, 2, 5] rfl rfl) (fun w' hw' => (Y_load1 (B := some ⟨b1, 0, none⟩) (i := 0) (cs := [.int .i64 by_.Mask, .int .i64 by_.Turn]) (v := .int .i64 by_.Mask) k_sc_3 rfl rfl (ST.cf hw' (i := 1) rfl) rfl)) ?_
        refine ra_q 9 48 (v := .int .i64 v_) rfl rfl rfl (by kernel_rfl) (by kernel_rfl) (by kernel_rfl) (ST.sel hS18 [0, 1, 2, 5] rfl rfl) (fun w' hw' => (Y_move (v := .int .i64 v_) rfl (hf.get 1 0 rfl))) ?_
        refine ra_q 11 50 (v := pt (some ⟨b1, 0, none⟩) 1) rfl rfl rfl (by kernel_rfl) (by kernel_rfl) (by kernel_rfl) (ST.sel hS18 [0, 1, 2, 5] rfl rfl) (fun w' hw' => (Y_fieldAddr (B := some ⟨b1, 0, none⟩) (i := 0) (s := 0) k_fd_44_1_1_3 k_sz_3_1 rfl (hf.get 5 2 rfl))) ?_
        refine ra_q 12 51 (v := .int .i64 by_.Turn) rfl rfl rfl (by kernel_rfl) (by kernel_rfl) (by kernel_rfl) (ST.sel hS18 [0, 1, 2, 5] rfl rfl) (fun w' hw' => (Y_load1 (B := some ⟨b1, 0, none⟩) (i := 1) (cs := [.int .i64 by_.Mask, .int .i64 by_.Turn]) (v := .int .i64 by_.Turn) k_sc_3 rfl rfl (ST.cf hw' (i := 1) rfl) rfl)) ?_
        refine ra_all (rs := [4]) (by kernel_rfl) rfl ?_
        refine ra_c 43 (i := 4) rfl rfl rfl (Yc_func (g := 38) (vs := [.int .i64 x.Mask, .int .i64 v_]) k_call_38 rfl (mc rfl (mc rfl mn)) (c_spec_l21Drop x.Mask v_ _  (hS18.inn0 [] rfl) hc2)) ?_ ?_
        · rintro _ w_8 ⟨rfl, hd2⟩
          have hS19 := hS18.out00 hd2
          have hS19 : ST w0 [] _ [⟨some ⟨b, 0, none⟩, 30, [.int .i64 p.Ins, .int .i64 p.Vars, .int .i64 p.Root, .int .i64 p.Phase, .slice B p.Terms.length c, .slice B1 p.Out.length c1], 6⟩, ⟨some ⟨b1, 0, none⟩, 44, [.int .i64 by_.Mask, .int .i64 by_.Turn], 2⟩, ⟨some ⟨b2, 0, none⟩, 30, [.int .i64 0, .int .i64 0, .int .i64 0, .int .i64 0, .slice none 0 0, .slice none 0 0], 6⟩, ⟨some ⟨b3, 0, none⟩, 68, [.int .i64 phase, .slice B4 terms.length c4], 2⟩, ⟨B4, 56, (terms.flatMap enc_Term), c4 * 2⟩, ⟨some ⟨b4, 0, none⟩, 56, [.int .i64 x.Mask, .int .i64 x.Coef], 2⟩] [⟨B, (p.Terms.flatMap enc_Term)⟩, ⟨B1, (p.Out.flatMap enc_Affine)⟩] := hS19
          refine ⟨(ST.sel hS19 [0, 1, 2, 5] rfl rfl), ?_⟩
          refine ra_all (rs := [10]) (by kernel_rfl) rfl ?_
          refine ra_c 49 (i := 10) rfl rfl rfl (Yc_func (g := 38) (vs := [.int .i64 by_.Mask, .int .i64 v_]) k_call_38 rfl (mc rfl (mc rfl mn)) (c_spec_l21Drop by_.Mask v_ _  (hS19.inn0 [] rfl) hc3)) ?_ ?_
          · rintro _ w_9 ⟨rfl, hd3⟩
            have hS20 := hS19.out00 hd3
            have hS20 : ST w0 [] _ [⟨some ⟨b, 0, none⟩, 30, [.int .i64 p.Ins, .int .i64 p.Vars, .int .i64 p.Root, .int .i64 p.Phase, .slice B p.Terms.length c, .slice B1 p.Out.length c1], 6⟩, ⟨some ⟨b1, 0, none⟩, 44, [.int .i64 by_.Mask, .int .i64 by_.Turn], 2⟩, ⟨some ⟨b2, 0, none⟩, 30, [.int .i64 0, .int .i64 0, .int .i64 0, .int .i64 0, .slice none 0 0, .slice none 0 0], 6⟩, ⟨some ⟨b3, 0, none⟩, 68, [.int .i64 phase, .slice B4 terms.length c4], 2⟩, ⟨B4, 56, (terms.flatMap enc_Term), c4 * 2⟩, ⟨some ⟨b4, 0, none⟩, 56, [.int .i64 x.Mask, .int .i64 x.Coef], 2⟩] [⟨B, (p.Terms.flatMap enc_Term)⟩, ⟨B1, (p.Out.flatMap enc_Affine)⟩] := hS20
            refine ⟨(ST.sel hS20 [0, 1, 2, 5] rfl rfl), ?_⟩
            refine ra_q 13 52 (v := .agg #[.int .i64 r_3, .int .i64 by_.Turn]) rfl rfl rfl (by kernel_rfl) (by kernel_rfl) (by kernel_rfl) (ST.sel hS20 [0, 1, 2, 5] rfl rfl) (fun w' hw' => (Y_buildS (zs := [.int .i64 0, .int .i64 0]) (vs := [(0, .int .i64 r_3), (1, .int .i64 by_.Turn)]) (cs := [.int .i64 r_3, .int .i64 by_.Turn]) k_pl_44 k_zero_44 rfl (mpc rfl (mpc rfl mpn)) rfl)) ?_
            refine ra_all (rs := [14]) (by kernel_rfl) rfl ?_
            refine ra_c 53 (i := 14) rfl rfl rfl (Yc_func (g := 40) (vs := [pt (some ⟨b3, 0, none⟩) 0, .int .i64 r_2, .int .i64 x.Coef, .agg #[.int .i64 r_3, .int .i64 by_.Turn]]) k_call_40 rfl (mc rfl (mc rfl (mc rfl (mc rfl mn)))) (c_spec_l21Sum_times (Tl21Sum.mk phase terms) r_2 x.Coef (TAffine.mk r_3 by_.Turn) (some ⟨b3, 0, none⟩) B4 c4 terms.length _ rfl (hS20.inn [false, false, false, true, true, false] rfl [] rfl) hc4)) ?_ ?_
            · rintro _ w_10 ⟨B7, c7, rfl, hd4⟩
              have hS21 := hS20.out [false, false, false, true, true, false] rfl hd4
              have hS21 : ST w0 [] _ [⟨some ⟨b, 0, none⟩, 30, [.int .i64 p.Ins, .int .i64 p.Vars, .int .i64 p.Root, .int .i64 p.Phase, .slice B p.Terms.length c, .slice B1 p.Out.length c1], 6⟩, ⟨some ⟨b1, 0, none⟩, 44, [.int .i64 by_.Mask, .int .i64 by_.Turn], 2⟩, ⟨some ⟨b2, 0, none⟩, 30, [.int .i64 0, .int .i64 0, .int .i64 0, .int .i64 0, .slice none 0 0, .slice none 0 0], 6⟩, ⟨some ⟨b4, 0, none⟩, 56, [.int .i64 x.Mask, .int .i64 x.Coef], 2⟩, ⟨some ⟨b3, 0, none⟩, 68, [.int .i64 m1.phase, .slice B7 m1.terms.length c7], 2⟩, ⟨B7, 56, (m1.terms.flatMap enc_Term), c7 * 2⟩] [⟨B, (p.Terms.flatMap enc_Term)⟩, ⟨B1, (p.Out.flatMap enc_Affine)⟩] := hS21
              refine ⟨(ST.sel hS21 [0, 1, 2, 3] rfl rfl), ?_⟩
              refine ra_done (by kernel_rfl) ?_
              exact ⟨m1.phase, m1.terms, B7, c7, (some_inj hF4), (FF.cons (hf.get 1 0 rfl) (FF.cons (hf.get 3 1 rfl) (FF.cons (hf.get 5 2 rfl) (FF.cons (hf.get 6 3 rfl) (FF.cons (hf.get 7 4 rfl) (FF.cons (hf.get 18 5 rfl) (FF.cons (hf.get 19 6 rfl) (FF.cons (hf.get 20 7 rfl) FF.nil)))))))), (hS21.sel [0, 1, 2, 4, 5] rfl rfl)⟩
            exact allR_nil
          exact allR_nil
        exact allR_nil
    rintro f w ⟨phase1, terms1, B5, c5, rfl, hf1, hS7⟩
    refine cw_region ?_
    refine sq 54 rfl rfl (Y_add (k := .i64) (a := (i : Int)) (b := 1) rfl (hf1.get 20 7 rfl) rfl) ?_
    refine sq 20 rfl rfl (Y_move (v := .int .i64 (IntKind.i64.wrap ((i : Int) + 1))) rfl rfl) ?_
    refine rw_nil ?_
    obtain rfl := some_inj hF2
    exact ⟨k_1, Nat.lt_succ_self _, i + 1, phase1, terms1, B5, c5, (FF.cons (hf1.get 1 0 rfl) (FF.cons (hf1.get 3 1 rfl) (FF.cons (hf1.get 5 2 rfl) (FF.cons (hf1.get 6 3 rfl) (FF.cons (hf1.get 7 4 rfl) (FF.cons (hf1.get 18 5 rfl) (FF.cons (hf1.get 19 6 rfl) (FF.cons (congrArg (Value.int .i64) (wr_succ hlt1 hN)) FF.nil)))))))), (hS7.sel [0, 1, 2, 3, 4] rfl rfl), (by omega), hL1⟩
  · skip
    obtain rfl : k_ = 0 := by have h := of_decide_eq_false hlt; omega
    refine cw_exit rfl ?_
    obtain rfl := some_inj hL
    refine cw_seq ?_
    refine ra_start (ST.sel hS5 [0, 1, 2, 3, 4] rfl rfl).fn (by kernel_rfl) ?_
    have hS22 := hS5.drew
    refine ra_q 0 55 (v := pt (some ⟨b, 0, none⟩) 0) rfl rfl rfl (by kernel_rfl) (by kernel_rfl) (by kernel_rfl) (ST.sel hS22 [0, 1, 2, 3, 4] rfl rfl) (fun w' hw' => (Y_fieldAddr (B := some ⟨b, 0, none⟩) (i := 0) (s := 0) k_fd_30_0_0_3 k_sz_3_1 rfl (hf.get 3 1 rfl))) ?_
    refine ra_q 1 56 (v := .int .i64 p.Ins) rfl rfl rfl (by kernel_rfl) (by kernel_rfl) (by kernel_rfl) (ST.sel hS22 [0, 1, 2, 3, 4] rfl rfl) (fun w' hw' => (Y_load1 (B := some ⟨b, 0, none⟩) (i := 0) (cs := [.int .i64 p.Ins, .int .i64 p.Vars, .int .i64 p.Root, .int .i64 p.Phase, .slice B p.Terms.length c, .slice B1 p.Out.length c1]) (v := .int .i64 p.Ins) k_sc_3 rfl rfl (ST.cf hw' (i := 0) rfl) rfl)) ?_
    refine ra_q 2 57 (v := pt (some ⟨b, 0, none⟩) 1) rfl rfl rfl (by kernel_rfl) (by kernel_rfl) (by kernel_rfl) (ST.sel hS22 [0, 1, 2, 3, 4] rfl rfl) (fun w' hw' => (Y_fieldAddr (B := some ⟨b, 0, none⟩) (i := 0) (s := 0) k_fd_30_1_1_3 k_sz_3_1 rfl (hf.get 3 1 rfl))) ?_
    refine ra_q 3 58 (v := .int .i64 p.Vars) rfl rfl rfl (by kernel_rfl) (by kernel_rfl) (by kernel_rfl) (ST.sel hS22 [0, 1, 2, 3, 4] rfl rfl) (fun w' hw' => (Y_load1 (B := some ⟨b, 0, none⟩) (i := 1) (cs := [.int .i64 p.Ins, .int .i64 p.Vars, .int .i64 p.Root, .int .i64 p.Phase, .slice B p.Terms.length c, .slice B1 p.Out.length c1]) (v := .int .i64 p.Vars) k_sc_3 rfl rfl (ST.cf hw' (i := 0) rfl) rfl)) ?_
    refine ra_q 4 59 (v := .int .i64 (IntKind.i64.wrap (p.Vars - 1))) rfl rfl rfl (by kernel_rfl) (by kernel_rfl) (by kernel_rfl) (ST.sel hS22 [0, 1, 2, 3, 4] rfl rfl) (fun w' hw' => (Y_sub (k := .i64) (a := p.Vars) (b := 1) rfl rfl rfl)) ?_
    refine ra_q 5 60 (v := pt (some ⟨b, 0, none⟩) 2) rfl rfl rfl (by kernel_rfl) (by kernel_rfl) (by kernel_rfl) (ST.sel hS22 [0, 1, 2, 3, 4] rfl rfl) (fun w' hw' => (Y_fieldAddr (B := some ⟨b, 0, none⟩) (i := 0) (s := 0) k_fd_30_2_2_3 k_sz_3_1 rfl (hf.get 3 1 rfl))) ?_
    refine ra_q 6 61 (v := .int .i64 p.Root) rfl rfl rfl (by kernel_rfl) (by kernel_rfl) (by kernel_rfl) (ST.sel hS22 [0, 1, 2, 3, 4] rfl rfl) (fun w' hw' => (Y_load1 (B := some ⟨b, 0, none⟩) (i := 2) (cs := [.int .i64 p.Ins, .int .i64 p.Vars, .int .i64 p.Root, .int .i64 p.Phase, .slice B p.Terms.length c, .slice B1 p.Out.length c1]) (v := .int .i64 p.Root) k_sc_3 rfl rfl (ST.cf hw' (i := 0) rfl) rfl)) ?_
    refine ra_q 7 62 (v := pt (some ⟨b3, 0, none⟩) 0) rfl rfl rfl (by kernel_rfl) (by kernel_rfl) (by kernel_rfl) (ST.sel hS22 [0, 1, 2, 3, 4] rfl rfl) (fun w' hw' => (Y_move (v := pt (some ⟨b3, 0, none⟩) 0) rfl (hf.get 7 4 rfl))) ?_
    refine ra_q 8 63 (v := pt (some ⟨b3, 0, none⟩) 0) rfl rfl rfl (by kernel_rfl) (by kernel_rfl) (by kernel_rfl) (ST.sel hS22 [0, 1, 2, 3, 4] rfl rfl) (fun w' hw' => (Y_nilCheck (B := some ⟨b3, 0, none⟩) (i := 0) rfl rfl)) ?_
    refine ra_q 9 64 (v := pt (some ⟨b3, 0, none⟩) 0) rfl rfl rfl (by kernel_rfl) (by kernel_rfl) (by kernel_rfl) (ST.sel hS22 [0, 1, 2, 3, 4] rfl rfl) (fun w' hw' => (Y_fieldAddr (B := some ⟨b3, 0, none⟩) (i := 0) (s := 0) k_fd_68_0_0_3 k_sz_3_1 rfl rfl)) ?_
    refine ra_q 10 65 (v := .int .i64 phase) rfl rfl rfl (by kernel_rfl) (by kernel_rfl) (by kernel_rfl) (ST.sel hS22 [0, 1, 2, 3, 4] rfl rfl) (fun w' hw' => (Y_load1 (B := some ⟨b3, 0, none⟩) (i := 0) (cs := [.int .i64 phase, .slice B4 terms.length c4]) (v := .int .i64 phase) k_sc_3 rfl rfl (ST.cf hw' (i := 3) rfl) rfl)) ?_
    refine ra_q 11 66 (v := pt (some ⟨b3, 0, none⟩) 0) rfl rfl rfl (by kernel_rfl) (by kernel_rfl) (by kernel_rfl) (ST.sel hS22 [0, 1, 2, 3, 4] rfl rfl) (fun w' hw' => (Y_move (v := pt (some ⟨b3, 0, none⟩) 0) rfl (hf.get 7 4 rfl))) ?_
    refine ra_q 12 67 (v := pt (some ⟨b3, 0, none⟩) 0) rfl rfl rfl (by kernel_rfl) (by kernel_rfl) (by kernel_rfl) (ST.sel hS22 [0, 1, 2, 3, 4] rfl rfl) (fun w' hw' => (Y_nilCheck (B := some ⟨b3, 0, none⟩) (i := 0) rfl rfl)) ?_
    refine ra_q 13 68 (v := pt (some ⟨b3, 0, none⟩) 1) rfl rfl rfl (by kernel_rfl) (by kernel_rfl) (by kernel_rfl) (ST.sel hS22 [0, 1, 2, 3, 4] rfl rfl) (fun w' hw' => (Y_fieldAddr (B := some ⟨b3, 0, none⟩) (i := 0) (s := 0) k_fd_68_1_1_27 k_sz_27_1 rfl rfl)) ?_
    refine ra_q 14 69 (v := .slice B4 terms.length c4) rfl rfl rfl (by kernel_rfl) (by kernel_rfl) (by kernel_rfl) (ST.sel hS22 [0, 1, 2, 3, 4] rfl rfl) (fun w' hw' => (Y_load1 (B := some ⟨b3, 0, none⟩) (i := 1) (cs := [.int .i64 phase, .slice B4 terms.length c4]) (v := .slice B4 terms.length c4) k_sc_27 rfl rfl (ST.cf hw' (i := 3) rfl) rfl)) ?_
    refine ra_q 15 70 (v := .agg #[.int .i64 p.Ins, .int .i64 (IntKind.i64.wrap (p.Vars - 1)), .int .i64 p.Root, .int .i64 phase, .slice B4 terms.length c4, .slice none 0 0]) rfl rfl rfl (by kernel_rfl) (by kernel_rfl) (by kernel_rfl) (ST.sel hS22 [0, 1, 2, 3, 4] rfl rfl) (fun w' hw' => (Y_buildS (zs := [.int .i64 0, .int .i64 0, .int .i64 0, .int .i64 0, .slice none 0 0, .slice none 0 0]) (vs := [(0, .int .i64 p.Ins), (1, .int .i64 (IntKind.i64.wrap (p.Vars - 1))), (2, .int .i64 p.Root), (3, .int .i64 phase), (4, .slice B4 terms.length c4)]) (cs := [.int .i64 p.Ins, .int .i64 (IntKind.i64.wrap (p.Vars - 1)), .int .i64 p.Root, .int .i64 phase, .slice B4 terms.length c4, .slice none 0 0]) k_pl_30 k_zero_30 rfl (mpc rfl (mpc rfl (mpc rfl (mpc rfl (mpc rfl mpn))))) rfl)) ?_
    refine ra_all (rs := [16]) (by kernel_rfl) rfl ?_
    refine ra_s 10 (i := 16) rfl rfl rfl (Ys_alloc (T := 30) (cs := [.int .i64 0, .int .i64 0, .int .i64 0, .int .i64 0, .slice none 0 0, .slice none 0 0]) (m := 6) hS22 k_zero_30 rfl rfl rfl) ?_ ?_
    · rintro _ w_11 ⟨b5, rfl, hS23⟩
      have hS23 : ST w0 [] _ [⟨some ⟨b, 0, none⟩, 30, [.int .i64 p.Ins, .int .i64 p.Vars, .int .i64 p.Root, .int .i64 p.Phase, .slice B p.Terms.length c, .slice B1 p.Out.length c1], 6⟩, ⟨some ⟨b1, 0, none⟩, 44, [.int .i64 by_.Mask, .int .i64 by_.Turn], 2⟩, ⟨some ⟨b2, 0, none⟩, 30, [.int .i64 0, .int .i64 0, .int .i64 0, .int .i64 0, .slice none 0 0, .slice none 0 0], 6⟩, ⟨some ⟨b3, 0, none⟩, 68, [.int .i64 phase, .slice B4 terms.length c4], 2⟩, ⟨B4, 56, (terms.flatMap enc_Term), c4 * 2⟩, ⟨some ⟨b5, 0, none⟩, 30, [.int .i64 0, .int .i64 0, .int .i64 0, .int .i64 0, .slice none 0 0, .slice none 0 0], 6⟩] [⟨B, (p.Terms.flatMap enc_Term)⟩, ⟨B1, (p.Out.flatMap enc_Affine)⟩] := hS23
      refine ⟨(ST.sel hS23 [0, 1, 2, 3, 4] rfl rfl), ?_⟩
      refine ra_all (rs := [17]) (by kernel_rfl) rfl ?_
      refine ra_s0 (i := 17) rfl rfl rfl (Ys_store (i := 5) (s := 6) (B := some ⟨b5, 0, none⟩) (T' := 30) (v := .agg #[.int .i64 p.Ins, .int .i64 (IntKind.i64.wrap (p.Vars - 1)), .int .i64 p.Root, .int .i64 phase, .slice B4 terms.length c4, .slice none 0 0]) (vs := [.int .i64 p.Ins, .int .i64 (IntKind.i64.wrap (p.Vars - 1)), .int .i64 p.Root, .int .i64 phase, .slice B4 terms.length c4, .slice none 0 0]) (k := 0) (cs' := [.int .i64 p.Ins, .int .i64 (IntKind.i64.wrap (p.Vars - 1)), .int .i64 p.Root, .int .i64 phase, .slice B4 terms.length c4, .slice none 0 0]) hS23 k_sz_30_6 rfl rfl rfl rfl rfl rfl rfl (Nat.le_of_ble_eq_true rfl) rfl rfl) ?_ ?_
      · rintro _ w_12 ⟨rfl, hS24⟩
        have hS24 : ST w0 [] _ [⟨some ⟨b, 0, none⟩, 30, [.int .i64 p.Ins, .int .i64 p.Vars, .int .i64 p.Root, .int .i64 p.Phase, .slice B p.Terms.length c, .slice B1 p.Out.length c1], 6⟩, ⟨some ⟨b1, 0, none⟩, 44, [.int .i64 by_.Mask, .int .i64 by_.Turn], 2⟩, ⟨some ⟨b2, 0, none⟩, 30, [.int .i64 0, .int .i64 0, .int .i64 0, .int .i64 0, .slice none 0 0, .slice none 0 0], 6⟩, ⟨some ⟨b3, 0, none⟩, 68, [.int .i64 phase, .slice B4 terms.length c4], 2⟩, ⟨B4, 56, (terms.flatMap enc_Term), c4 * 2⟩, ⟨some ⟨b5, 0, none⟩, 30, [.int .i64 p.Ins, .int .i64 (IntKind.i64.wrap (p.Vars - 1)), .int .i64 p.Root, .int .i64 phase, .slice B4 terms.length c4, .slice none 0 0], 6⟩] [⟨B, (p.Terms.flatMap enc_Term)⟩, ⟨B1, (p.Out.flatMap enc_Affine)⟩] := hS24
        refine ⟨(ST.sel hS24 [0, 1, 2, 3, 4] rfl rfl), ?_⟩
        refine ra_done (by kernel_rfl) ?_
        refine cw_seq ?_
        refine cw_seq ?_
        refine cw_region ?_
        refine sq 71 rfl rfl (Y_fieldAddr (B := some ⟨b, 0, none⟩) (i := 0) (s := 0) k_fd_30_5_5_28 k_sz_28_1 rfl (hf.get 3 1 rfl)) ?_
        refine sq 72 rfl rfl (Y_load1 (B := some ⟨b, 0, none⟩) (i := 5) (cs := [.int .i64 p.Ins, .int .i64 p.Vars, .int .i64 p.Root, .int .i64 p.Phase, .slice B p.Terms.length c, .slice B1 p.Out.length c1]) (v := .slice B1 p.Out.length c1) k_sc_28 rfl rfl (hS24.cf (i := 0) rfl) rfl) ?_
        refine sq 73 rfl rfl (Y_len (B := B1) (m := p.Out.length) (c := c1) k_sl_28_44 rfl rfl) ?_
        refine sq 74 rfl rfl (Y_move (v := .int .i64 0) rfl rfl) ?_
        refine rw_nil ?_
        obtain ⟨z2, hz2, hF5⟩ := bind_inv hF1
        have hS26 := hS24.addNil 44
        refine cw_block ?_
        refine cw_loop (fun k f w => ∃ (Out : List TAffine) (t : Int) (B8 : Option Addr) (c8 : Nat), FF f [(1, .int .i64 v_), (5, pt (some ⟨b1, 0, none⟩) 0), (6, pt (some ⟨b2, 0, none⟩) 0), (10, pt (some ⟨b5, 0, none⟩) 0), (72, .slice B1 p.Out.length c1), (73, .int .i64 (p.Out.length : Int)), (74, .int .i64 t)] ∧ ST w0 [] w [⟨some ⟨b1, 0, none⟩, 44, [.int .i64 by_.Mask, .int .i64 by_.Turn], 2⟩, ⟨some ⟨b2, 0, none⟩, 30, [.int .i64 0, .int .i64 0, .int .i64 0, .int .i64 0, .slice none 0 0, .slice none 0 0], 6⟩, ⟨some ⟨b5, 0, none⟩, 30, [.int .i64 p.Ins, .int .i64 (IntKind.i64.wrap (p.Vars - 1)), .int .i64 p.Root, .int .i64 phase, .slice B4 terms.length c4, .slice B8 Out.length c8], 6⟩, ⟨B4, 56, (terms.flatMap enc_Term), c4 * 2⟩, ⟨B8, 44, (Out.flatMap enc_Affine), c8 * 2⟩] [⟨B, (p.Terms.flatMap enc_Term)⟩, ⟨B1, (p.Out.flatMap enc_Affine)⟩] ∧ whX (F_spec_l21Replace_l2 p v_ by_) k (Out, t) = some z2) fuel ⟨[], 0, none, 0, (FF.cons (hf.get 1 0 rfl) (FF.cons (hf.get 5 2 rfl) (FF.cons (hf.get 6 3 rfl) (FF.cons rfl (FF.cons rfl (FF.cons rfl (FF.cons rfl FF.nil))))))), (hS26.sel [1, 2, 5, 4, 6] rfl rfl), hz2⟩ ?_
        rintro k_2 f w ⟨Out, t, B8, c8, hf2, hS25, hL2⟩
        obtain ⟨k_3, y1, rfl, hb2, hL3⟩ := whX_go hL2
        unfold F_spec_l21Replace_l2 at hb2
        refine cw_seq ?_
        refine cw_region ?_
        refine sq 75 rfl rfl (Y_lt (k := .i64) (a := t) (b := (p.Out.length : Int)) rfl (hf2.get 74 6 rfl) (hf2.get 73 5 rfl)) ?_
        refine rw_nil ?_
        refine cw_seq ?_
        refine cw_cond (b := (decide (t < (p.Out.length : Int)))) rfl (fun hb3 => ?_) (fun hb3 => ?_)
        · skip
          have hF6 := ct hb2 hb3
          refine cw_skip ?_
          refine cw_seq ?_
          refine cw_block ?_
          refine cw_seq ?_
          refine cw_region ?_
          obtain ⟨x1, hx1, hF6⟩ := bind_inv hF6
          refine sq 76 rfl rfl (Y_index (B := B1) (m := p.Out.length) (c := c1) (k := .i64) (i := t) k_sl_28_44 k_sz_44_2 rfl (hf2.get 72 4 rfl) (hf2.get 74 6 rfl) (gi_isSome enc_Affine_len rfl (hS25.rf (i := 1) rfl) hx1) (getI_nn hx1) (getI_ltI hx1 rfl)) ?_
          refine sq 77 rfl rfl (Y_loadA (B := B1) (i := t.toNat * 2) (cs := (p.Out.flatMap enc_Affine)) (vs := [.int .i64 x1.Mask, .int .i64 x1.Turn]) k_ag_44 k_sz_44_2 rfl rfl (hS25.rf (i := 1) rfl) (enc_Affine_len x1) (gi_seg enc_Affine_len hx1)) ?_
          refine ss 12 rfl rfl (Ys_alloc (T := 44) (cs := [.int .i64 0, .int .i64 0]) (m := 2) hS25 k_zero_44 rfl rfl rfl) ?_
          rintro _ w_13 ⟨b6, rfl, hS27⟩
          have hS27 : ST w0 [] _ [⟨some ⟨b1, 0, none⟩, 44, [.int .i64 by_.Mask, .int .i64 by_.Turn], 2⟩, ⟨some ⟨b2, 0, none⟩, 30, [.int .i64 0, .int .i64 0, .int .i64 0, .int .i64 0, .slice none 0 0, .slice none 0 0], 6⟩, ⟨some ⟨b5, 0, none⟩, 30, [.int .i64 p.Ins, .int .i64 (IntKind.i64.wrap (p.Vars - 1)), .int .i64 p.Root, .int .i64 phase, .slice B4 terms.length c4, .slice B8 Out.length c8], 6⟩, ⟨B4, 56, (terms.flatMap enc_Term), c4 * 2⟩, ⟨B8, 44, (Out.flatMap enc_Affine), c8 * 2⟩, ⟨some ⟨b6, 0, none⟩, 44, [.int .i64 0, .int .i64 0], 2⟩] [⟨B, (p.Terms.flatMap enc_Term)⟩, ⟨B1, (p.Out.flatMap enc_Affine)⟩] := hS27
          refine ss0 rfl rfl (Ys_store (i := 5) (s := 2) (B := some ⟨b6, 0, none⟩) (T' := 44) (v := .agg #[.int .i64 x1.Mask, .int .i64 x1.Turn]) (vs := [.int .i64 x1.Mask, .int .i64 x1.Turn]) (k := 0) (cs' := [.int .i64 x1.Mask, .int .i64 x1.Turn]) hS27 k_sz_44_2 rfl rfl rfl rfl rfl rfl rfl (Nat.le_of_ble_eq_true rfl) rfl rfl) ?_
          rintro _ w_14 ⟨rfl, hS28⟩
          have hS28 : ST w0 [] _ [⟨some ⟨b1, 0, none⟩, 44, [.int .i64 by_.Mask, .int .i64 by_.Turn], 2⟩, ⟨some ⟨b2, 0, none⟩, 30, [.int .i64 0, .int .i64 0, .int .i64 0, .int .i64 0, .slice none 0 0, .slice none 0 0], 6⟩, ⟨some ⟨b5, 0, none⟩, 30, [.int .i64 p.Ins, .int .i64 (IntKind.i64.wrap (p.Vars - 1)), .int .i64 p.Root, .int .i64 phase, .slice B4 terms.length c4, .slice B8 Out.length c8], 6⟩, ⟨B4, 56, (terms.flatMap enc_Term), c4 * 2⟩, ⟨B8, 44, (Out.flatMap enc_Affine), c8 * 2⟩, ⟨some ⟨b6, 0, none⟩, 44, [.int .i64 x1.Mask, .int .i64 x1.Turn], 2⟩] [⟨B, (p.Terms.flatMap enc_Term)⟩, ⟨B1, (p.Out.flatMap enc_Affine)⟩] := hS28
          refine rw_nil ?_
          refine cw_seq ?_
          obtain ⟨z3, hz3, hF7⟩ := bind_inv hF6
          refine cw_mid (fun f w => ∃ (Mask : Int) (Turn : Int), (Mask, Turn) = z3 ∧ FF f [(1, .int .i64 v_), (5, pt (some ⟨b1, 0, none⟩) 0), (6, pt (some ⟨b2, 0, none⟩) 0), (10, pt (some ⟨b5, 0, none⟩) 0), (12, pt (some ⟨b6, 0, none⟩) 0), (72, .slice B1 p.Out.length c1), (73, .int .i64 (p.Out.length : Int)), (74, .int .i64 t)] ∧ ST w0 [] w [⟨some ⟨b1, 0, none⟩, 44, [.int .i64 by_.Mask, .int .i64 by_.Turn], 2⟩, ⟨some ⟨b2, 0, none⟩, 30, [.int .i64 0, .int .i64 0, .int .i64 0, .int .i64 0, .slice none 0 0, .slice none 0 0], 6⟩, ⟨some ⟨b5, 0, none⟩, 30, [.int .i64 p.Ins, .int .i64 (IntKind.i64.wrap (p.Vars - 1)), .int .i64 p.Root, .int .i64 phase, .slice B4 terms.length c4, .slice B8 Out.length c8], 6⟩, ⟨B4, 56, (terms.flatMap enc_Term), c4 * 2⟩, ⟨B8, 44, (Out.flatMap enc_Affine), c8 * 2⟩, ⟨some ⟨b6, 0, none⟩, 44, [.int .i64 Mask, .int .i64 Turn], 2⟩] [⟨B, (p.Terms.flatMap enc_Term)⟩, ⟨B1, (p.Out.flatMap enc_Affine)⟩]) ?_ ?_
          · skip
            refine cw_seq ?_
            refine cw_region ?_
            refine sq 78 rfl rfl (Y_fieldAddr (B := some ⟨b6, 0, none⟩) (i := 0) (s := 0) k_fd_44_0_0_3 k_sz_3_1 rfl rfl) ?_
            refine sq 79 rfl rfl (Y_load1 (B := some ⟨b6, 0, none⟩) (i := 0) (cs := [.int .i64 x1.Mask, .int .i64 x1.Turn]) (v := .int .i64 x1.Mask) k_sc_3 rfl rfl (hS28.cf (i := 5) rfl) rfl) ?_
            refine sq 80 rfl rfl (Y_move (v := .int .i64 v_) rfl (hf2.get 1 0 rfl)) ?_
            refine sq 81 rfl rfl (Y_conv (k := .i64) (a := v_) (T := 3) (T' := 59) k_us_3 k_int_59_u64 rfl rfl) ?_
            obtain ⟨hsh1, hz3⟩ := chk_inv hz3
            refine sq 82 rfl rfl (Y_shr (k := .i64) (a := x1.Mask) (k' := .u64) (b := (IntKind.u64.wrap v_)) rfl rfl rfl hsh1) ?_
            refine sq 83 rfl rfl (Y_band (k := .i64) (a := (shrK .i64 x1.Mask (IntKind.u64.wrap v_))) (b := 1) rfl rfl rfl) ?_
            refine sq 84 rfl rfl (Y_eq (k := .i64) (a := (bits .and .i64 (shrK .i64 x1.Mask (IntKind.u64.wrap v_)) 1)) (b := 1) rfl rfl rfl) ?_
            refine rw_nil ?_
            refine cw_cond (b := ((bits .and .i64 (shrK .i64 x1.Mask (IntKind.u64.wrap v_)) 1) == 1)) rfl (fun hb4 => ?_) (fun hb4 => ?_)
            · skip
              have hF8 := ct hz3 hb4
              refine cw_region ?_
              refine sq 85 rfl rfl (Y_fieldAddr (B := some ⟨b6, 0, none⟩) (i := 0) (s := 0) k_fd_44_0_0_3 k_sz_3_1 rfl rfl) ?_
              refine sq 86 rfl rfl (Y_load1 (B := some ⟨b6, 0, none⟩) (i := 0) (cs := [.int .i64 x1.Mask, .int .i64 x1.Turn]) (v := .int .i64 x1.Mask) k_sc_3 rfl rfl (hS28.cf (i := 5) rfl) rfl) ?_
              refine sq 87 rfl rfl (Y_move (v := .int .i64 v_) rfl (hf2.get 1 0 rfl)) ?_
              refine sq 88 rfl rfl (Y_conv (k := .i64) (a := v_) (T := 3) (T' := 59) k_us_3 k_int_59_u64 rfl rfl) ?_
              obtain ⟨hsh2, hF8⟩ := chk_inv hF8
              refine sq 89 rfl rfl (Y_shl (k := .i64) (a := 1) (k' := .u64) (b := (IntKind.u64.wrap v_)) rfl rfl rfl hsh2) ?_
              refine sq 90 rfl rfl (Y_bxor (k := .i64) (a := x1.Mask) (b := (shlK .i64 1 (IntKind.u64.wrap v_))) rfl rfl rfl) ?_
              refine sq 91 rfl rfl (Y_fieldAddr (B := some ⟨b1, 0, none⟩) (i := 0) (s := 0) k_fd_44_0_0_3 k_sz_3_1 rfl (hf2.get 5 1 rfl)) ?_
              refine sq 92 rfl rfl (Y_load1 (B := some ⟨b1, 0, none⟩) (i := 0) (cs := [.int .i64 by_.Mask, .int .i64 by_.Turn]) (v := .int .i64 by_.Mask) k_sc_3 rfl rfl (hS28.cf (i := 0) rfl) rfl) ?_
              refine sq 93 rfl rfl (Y_bxor (k := .i64) (a := (bits .xor .i64 x1.Mask (shlK .i64 1 (IntKind.u64.wrap v_)))) (b := by_.Mask) rfl rfl rfl) ?_
              refine sq 94 rfl rfl (Y_fieldAddr (B := some ⟨b6, 0, none⟩) (i := 0) (s := 0) k_fd_44_1_1_3 k_sz_3_1 rfl rfl) ?_
              refine sq 95 rfl rfl (Y_load1 (B := some ⟨b6, 0, none⟩) (i := 1) (cs := [.int .i64 x1.Mask, .int .i64 x1.Turn]) (v := .int .i64 x1.Turn) k_sc_3 rfl rfl (hS28.cf (i := 5) rfl) rfl) ?_
              refine sq 96 rfl rfl (Y_fieldAddr (B := some ⟨b1, 0, none⟩) (i := 0) (s := 0) k_fd_44_1_1_3 k_sz_3_1 rfl (hf2.get 5 1 rfl)) ?_
              refine sq 97 rfl rfl (Y_load1 (B := some ⟨b1, 0, none⟩) (i := 1) (cs := [.int .i64 by_.Mask, .int .i64 by_.Turn]) (v := .int .i64 by_.Turn) k_sc_3 rfl rfl (hS28.cf (i := 0) rfl) rfl) ?_
              refine sq 98 rfl rfl (Y_bxor (k := .i64) (a := x1.Turn) (b := by_.Turn) rfl rfl rfl) ?_
              refine sq 99 rfl rfl (Y_buildS (zs := [.int .i64 0, .int .i64 0]) (vs := [(0, .int .i64 (bits .xor .i64 (bits .xor .i64 x1.Mask (shlK .i64 1 (IntKind.u64.wrap v_))) by_.Mask)), (1, .int .i64 (bits .xor .i64 x1.Turn by_.Turn))]) (cs := [.int .i64 (bits .xor .i64 (bits .xor .i64 x1.Mask (shlK .i64 1 (IntKind.u64.wrap v_))) by_.Mask), .int .i64 (bits .xor .i64 x1.Turn by_.Turn)]) k_pl_44 k_zero_44 rfl (mpc rfl (mpc rfl mpn)) rfl) ?_
              refine ss0 rfl rfl (Ys_store (i := 5) (s := 2) (B := some ⟨b6, 0, none⟩) (T' := 44) (v := .agg #[.int .i64 (bits .xor .i64 (bits .xor .i64 x1.Mask (shlK .i64 1 (IntKind.u64.wrap v_))) by_.Mask), .int .i64 (bits .xor .i64 x1.Turn by_.Turn)]) (vs := [.int .i64 (bits .xor .i64 (bits .xor .i64 x1.Mask (shlK .i64 1 (IntKind.u64.wrap v_))) by_.Mask), .int .i64 (bits .xor .i64 x1.Turn by_.Turn)]) (k := 0) (cs' := [.int .i64 (bits .xor .i64 (bits .xor .i64 x1.Mask (shlK .i64 1 (IntKind.u64.wrap v_))) by_.Mask), .int .i64 (bits .xor .i64 x1.Turn by_.Turn)]) hS28 k_sz_44_2 rfl rfl rfl rfl rfl rfl rfl (Nat.le_of_ble_eq_true rfl) rfl rfl) ?_
              rintro _ w_15 ⟨rfl, hS30⟩
              have hS30 : ST w0 [] _ [⟨some ⟨b1, 0, none⟩, 44, [.int .i64 by_.Mask, .int .i64 by_.Turn], 2⟩, ⟨some ⟨b2, 0, none⟩, 30, [.int .i64 0, .int .i64 0, .int .i64 0, .int .i64 0, .slice none 0 0, .slice none 0 0], 6⟩, ⟨some ⟨b5, 0, none⟩, 30, [.int .i64 p.Ins, .int .i64 (IntKind.i64.wrap (p.Vars - 1)), .int .i64 p.Root, .int .i64 phase, .slice B4 terms.length c4, .slice B8 Out.length c8], 6⟩, ⟨B4, 56, (terms.flatMap enc_Term), c4 * 2⟩, ⟨B8, 44, (Out.flatMap enc_Affine), c8 * 2⟩, ⟨some ⟨b6, 0, none⟩, 44, [.int .i64 (bits .xor .i64 (bits .xor .i64 x1.Mask (shlK .i64 1 (IntKind.u64.wrap v_))) by_.Mask), .int .i64 (bits .xor .i64 x1.Turn by_.Turn)], 2⟩] [⟨B, (p.Terms.flatMap enc_Term)⟩, ⟨B1, (p.Out.flatMap enc_Affine)⟩] := hS30
              refine rw_nil ?_
              exact ⟨(bits .xor .i64 (bits .xor .i64 x1.Mask (shlK .i64 1 (IntKind.u64.wrap v_))) by_.Mask), (bits .xor .i64 x1.Turn by_.Turn), (some_inj hF8), (FF.cons (hf2.get 1 0 rfl) (FF.cons (hf2.get 5 1 rfl) (FF.cons (hf2.get 6 2 rfl) (FF.cons (hf2.get 10 3 rfl) (FF.cons rfl (FF.cons (hf2.get 72 4 rfl) (FF.cons (hf2.get 73 5 rfl) (FF.cons (hf2.get 74 6 rfl) FF.nil)))))))), (hS30.sel [0, 1, 2, 3, 4, 5] rfl rfl)⟩
            · skip
              have hF9 := cf' hz3 hb4
              refine cw_skip ?_
              exact ⟨x1.Mask, x1.Turn, (some_inj hF9), (FF.cons (hf2.get 1 0 rfl) (FF.cons (hf2.get 5 1 rfl) (FF.cons (hf2.get 6 2 rfl) (FF.cons (hf2.get 10 3 rfl) (FF.cons rfl (FF.cons (hf2.get 72 4 rfl) (FF.cons (hf2.get 73 5 rfl) (FF.cons (hf2.get 74 6 rfl) FF.nil)))))))), (hS28.sel [0, 1, 2, 3, 4, 5] rfl rfl)⟩
          rintro f w ⟨Mask, Turn, rfl, hf3, hS29⟩
          obtain ⟨r_4, hc5, hF7⟩ := bind_inv hF7
          obtain ⟨hap, hF7⟩ := chk_inv hF7
          refine cw_mid (fun f w => ∃ (B10 : Option Addr) (c10 : Nat), FF f [(1, .int .i64 v_), (5, pt (some ⟨b1, 0, none⟩) 0), (6, pt (some ⟨b2, 0, none⟩) 0), (10, pt (some ⟨b5, 0, none⟩) 0), (72, .slice B1 p.Out.length c1), (73, .int .i64 (p.Out.length : Int)), (74, .int .i64 t)] ∧ ST w0 [] w [⟨some ⟨b1, 0, none⟩, 44, [.int .i64 by_.Mask, .int .i64 by_.Turn], 2⟩, ⟨some ⟨b2, 0, none⟩, 30, [.int .i64 0, .int .i64 0, .int .i64 0, .int .i64 0, .slice none 0 0, .slice none 0 0], 6⟩, ⟨some ⟨b5, 0, none⟩, 30, [.int .i64 p.Ins, .int .i64 (IntKind.i64.wrap (p.Vars - 1)), .int .i64 p.Root, .int .i64 phase, .slice B4 terms.length c4, .slice B10 ((Out ++ [(TAffine.mk r_4 Turn)]).length) c10], 6⟩, ⟨B4, 56, (terms.flatMap enc_Term), c4 * 2⟩, ⟨B10, 44, ((Out ++ [(TAffine.mk r_4 Turn)]).flatMap enc_Affine), c10 * 2⟩] [⟨B, (p.Terms.flatMap enc_Term)⟩, ⟨B1, (p.Out.flatMap enc_Affine)⟩]) ?_ ?_
          · skip
            refine ra_start (ST.sel hS29 [0, 1, 3, 5] rfl rfl).fn (by kernel_rfl) ?_
            have hS33 := hS29.drew
            refine ra_q 0 100 (v := pt (some ⟨b5, 0, none⟩) 5) rfl rfl rfl (by kernel_rfl) (by kernel_rfl) (by kernel_rfl) (ST.sel hS33 [0, 1, 3, 5] rfl rfl) (fun w' hw' => (Y_fieldAddr (B := some ⟨b5, 0, none⟩) (i := 0) (s := 0) k_fd_30_5_5_28 k_sz_28_1 rfl (hf3.get 10 3 rfl))) ?_
            refine ra_q 2 102 (v := pt (some ⟨b6, 0, none⟩) 0) rfl rfl rfl (by kernel_rfl) (by kernel_rfl) (by kernel_rfl) (ST.sel hS33 [0, 1, 3, 5] rfl rfl) (fun w' hw' => (Y_fieldAddr (B := some ⟨b6, 0, none⟩) (i := 0) (s := 0) k_fd_44_0_0_3 k_sz_3_1 rfl (hf3.get 12 4 rfl))) ?_
            refine ra_q 3 103 (v := .int .i64 Mask) rfl rfl rfl (by kernel_rfl) (by kernel_rfl) (by kernel_rfl) (ST.sel hS33 [0, 1, 3, 5] rfl rfl) (fun w' hw' => (Y_load1 (B := some ⟨b6, 0, none⟩) (i := 0) (cs := [.int .i64 Mask, .int .i64 Turn]) (v := .int .i64 Mask) k_sc_3 rfl rfl (ST.cf hw' (i := 3) rfl) rfl)) ?_
            refine ra_q 4 104 (v := .int .i64 v_) rfl rfl rfl (by kernel_rfl) (by kernel_rfl) (by kernel_rfl) (ST.sel hS33 [0, 1, 3, 5] rfl rfl) (fun w' hw' => (Y_move (v := .int .i64 v_) rfl (hf3.get 1 0 rfl))) ?_
            refine ra_q 6 106 (v := pt (some ⟨b6, 0, none⟩) 1) rfl rfl rfl (by kernel_rfl) (by kernel_rfl) (by kernel_rfl) (ST.sel hS33 [0, 1, 3, 5] rfl rfl) (fun w' hw' => (Y_fieldAddr (B := some ⟨b6, 0, none⟩) (i := 0) (s := 0) k_fd_44_1_1_3 k_sz_3_1 rfl (hf3.get 12 4 rfl))) ?_
            refine ra_q 7 107 (v := .int .i64 Turn) rfl rfl rfl (by kernel_rfl) (by kernel_rfl) (by kernel_rfl) (ST.sel hS33 [0, 1, 3, 5] rfl rfl) (fun w' hw' => (Y_load1 (B := some ⟨b6, 0, none⟩) (i := 1) (cs := [.int .i64 Mask, .int .i64 Turn]) (v := .int .i64 Turn) k_sc_3 rfl rfl (ST.cf hw' (i := 3) rfl) rfl)) ?_
            refine ra_all (rs := [1, 5]) (by kernel_rfl) rfl ?_
            refine ra_y 101 (i := 1) (v := .slice B8 Out.length c8) rfl rfl rfl (Y_load1 (B := some ⟨b5, 0, none⟩) (i := 5) (cs := [.int .i64 p.Ins, .int .i64 (IntKind.i64.wrap (p.Vars - 1)), .int .i64 p.Root, .int .i64 phase, .slice B4 terms.length c4, .slice B8 Out.length c8]) (v := .slice B8 Out.length c8) k_sc_28 rfl rfl (hS33.cf (i := 2) rfl) rfl) (ST.sel hS33 [0, 1, 3, 5] rfl rfl) ?_ ?_
            · skip
              refine ra_all (rs := [5]) (by kernel_rfl) rfl ?_
              refine ra_c 105 (i := 5) rfl rfl rfl (Yc_func (g := 38) (vs := [.int .i64 Mask, .int .i64 v_]) k_call_38 rfl (mc rfl (mc rfl mn)) (c_spec_l21Drop Mask v_ _  (hS33.inn0 [] rfl) hc5)) ?_ ?_
              · rintro _ w_16 ⟨rfl, hd5⟩
                have hS34 := hS33.out00 hd5
                have hS34 : ST w0 [] _ [⟨some ⟨b1, 0, none⟩, 44, [.int .i64 by_.Mask, .int .i64 by_.Turn], 2⟩, ⟨some ⟨b2, 0, none⟩, 30, [.int .i64 0, .int .i64 0, .int .i64 0, .int .i64 0, .slice none 0 0, .slice none 0 0], 6⟩, ⟨some ⟨b5, 0, none⟩, 30, [.int .i64 p.Ins, .int .i64 (IntKind.i64.wrap (p.Vars - 1)), .int .i64 p.Root, .int .i64 phase, .slice B4 terms.length c4, .slice B8 Out.length c8], 6⟩, ⟨B4, 56, (terms.flatMap enc_Term), c4 * 2⟩, ⟨B8, 44, (Out.flatMap enc_Affine), c8 * 2⟩, ⟨some ⟨b6, 0, none⟩, 44, [.int .i64 Mask, .int .i64 Turn], 2⟩] [⟨B, (p.Terms.flatMap enc_Term)⟩, ⟨B1, (p.Out.flatMap enc_Affine)⟩] := hS34
                refine ⟨(ST.sel hS34 [0, 1, 3, 5] rfl rfl), ?_⟩
                refine ra_q 8 108 (v := .agg #[.int .i64 r_4, .int .i64 Turn]) rfl rfl rfl (by kernel_rfl) (by kernel_rfl) (by kernel_rfl) (ST.sel hS34 [0, 1, 3, 5] rfl rfl) (fun w' hw' => (Y_buildS (zs := [.int .i64 0, .int .i64 0]) (vs := [(0, .int .i64 r_4), (1, .int .i64 Turn)]) (cs := [.int .i64 r_4, .int .i64 Turn]) k_pl_44 k_zero_44 rfl (mpc rfl (mpc rfl mpn)) rfl)) ?_
                refine ra_all (rs := [9]) (by kernel_rfl) rfl ?_
                refine ra_s 109 (i := 9) rfl rfl rfl (Ys_bslice (s := 2) (len := 1) (vs := [(0, .agg #[.int .i64 r_4, .int .i64 Turn])]) (cs := [.int .i64 r_4, .int .i64 Turn]) (zs := [.int .i64 0, .int .i64 0]) (m := 2) hS34 k_sl_28_44 k_sz_44_2 k_zc_44 rfl (mpc rfl mpn) rfl rfl rfl (by kernel_rfl) (by kernel_rfl) rfl) ?_ ?_
                · rintro _ w_17 ⟨b7, rfl, hS35⟩
                  have hS35 : ST w0 [] _ [⟨some ⟨b1, 0, none⟩, 44, [.int .i64 by_.Mask, .int .i64 by_.Turn], 2⟩, ⟨some ⟨b2, 0, none⟩, 30, [.int .i64 0, .int .i64 0, .int .i64 0, .int .i64 0, .slice none 0 0, .slice none 0 0], 6⟩, ⟨some ⟨b5, 0, none⟩, 30, [.int .i64 p.Ins, .int .i64 (IntKind.i64.wrap (p.Vars - 1)), .int .i64 p.Root, .int .i64 phase, .slice B4 terms.length c4, .slice B8 Out.length c8], 6⟩, ⟨B4, 56, (terms.flatMap enc_Term), c4 * 2⟩, ⟨B8, 44, (Out.flatMap enc_Affine), c8 * 2⟩, ⟨some ⟨b6, 0, none⟩, 44, [.int .i64 Mask, .int .i64 Turn], 2⟩, ⟨some ⟨b7, 0, none⟩, 44, ([(TAffine.mk r_4 Turn)].flatMap enc_Affine), 1 * 2⟩] [⟨B, (p.Terms.flatMap enc_Term)⟩, ⟨B1, (p.Out.flatMap enc_Affine)⟩] := hS35
                  refine ⟨(ST.sel hS35 [0, 1, 3, 5] rfl rfl), ?_⟩
                  refine ra_all (rs := [10]) (by kernel_rfl) rfl ?_
                  refine ra_s 110 (i := 10) rfl rfl rfl (Ys_append (s := 2) (by' := 16) (i := 4) (nn := Out.length) (c := c8) (k := 1) (len := (Out ++ [(TAffine.mk r_4 Turn)]).length) (B := B8) (xs := ([(TAffine.mk r_4 Turn)].flatMap enc_Affine)) (cs' := ((Out ++ [(TAffine.mk r_4 Turn)]).flatMap enc_Affine)) hS35 k_sl_28_44 k_sz_44_2 k_by_44_16 k_zero_44 rfl (by decide) rfl rfl rfl rfl (fm_lenn (l := Out) enc_Affine_len rfl) rfl (hS35.cf (i := 6) rfl) (fm_lenn (l := [(TAffine.mk r_4 Turn)]) enc_Affine_len rfl) (fm_one' (enc := enc_Affine) enc_Affine_one [(TAffine.mk r_4 Turn)]) (by have := hap; omega) (by have := hap; simp only [maxLen]; omega) (fm_app _ _) (app_len (l := Out) (l' := [(TAffine.mk r_4 Turn)]) rfl rfl)) ?_ ?_
                  · rintro _ w_18 ⟨B9, c9, rfl, hS36⟩
                    have hS36 : ST w0 [] _ [⟨some ⟨b1, 0, none⟩, 44, [.int .i64 by_.Mask, .int .i64 by_.Turn], 2⟩, ⟨some ⟨b2, 0, none⟩, 30, [.int .i64 0, .int .i64 0, .int .i64 0, .int .i64 0, .slice none 0 0, .slice none 0 0], 6⟩, ⟨some ⟨b5, 0, none⟩, 30, [.int .i64 p.Ins, .int .i64 (IntKind.i64.wrap (p.Vars - 1)), .int .i64 p.Root, .int .i64 phase, .slice B4 terms.length c4, .slice B8 Out.length c8], 6⟩, ⟨B4, 56, (terms.flatMap enc_Term), c4 * 2⟩, ⟨B9, 44, ((Out ++ [(TAffine.mk r_4 Turn)]).flatMap enc_Affine), c9 * 2⟩, ⟨some ⟨b6, 0, none⟩, 44, [.int .i64 Mask, .int .i64 Turn], 2⟩, ⟨some ⟨b7, 0, none⟩, 44, ([(TAffine.mk r_4 Turn)].flatMap enc_Affine), 1 * 2⟩] [⟨B, (p.Terms.flatMap enc_Term)⟩, ⟨B1, (p.Out.flatMap enc_Affine)⟩] := hS36
                    refine ⟨(ST.sel hS36 [0, 1, 3, 5] rfl rfl), ?_⟩
                    refine ra_q 11 111 (v := pt (some ⟨b5, 0, none⟩) 5) rfl rfl rfl (by kernel_rfl) (by kernel_rfl) (by kernel_rfl) (ST.sel hS36 [0, 1, 3, 5] rfl rfl) (fun w' hw' => (Y_fieldAddr (B := some ⟨b5, 0, none⟩) (i := 0) (s := 0) k_fd_30_5_5_28 k_sz_28_1 rfl (hf3.get 10 3 rfl))) ?_
                    refine ra_all (rs := [12]) (by kernel_rfl) rfl ?_
                    refine ra_s0 (i := 12) rfl rfl rfl (Ys_store (i := 2) (s := 1) (B := some ⟨b5, 0, none⟩) (T' := 30) (v := .slice B9 ((Out ++ [(TAffine.mk r_4 Turn)]).length) c9) (vs := [.slice B9 ((Out ++ [(TAffine.mk r_4 Turn)]).length) c9]) (k := 5) (cs' := [.int .i64 p.Ins, .int .i64 (IntKind.i64.wrap (p.Vars - 1)), .int .i64 p.Root, .int .i64 phase, .slice B4 terms.length c4, .slice B9 ((Out ++ [(TAffine.mk r_4 Turn)]).length) c9]) hS36 k_sz_28_1 rfl rfl rfl rfl rfl rfl rfl (Nat.le_of_ble_eq_true rfl) rfl rfl) ?_ ?_
                    · rintro _ w_19 ⟨rfl, hS37⟩
                      have hS37 : ST w0 [] _ [⟨some ⟨b1, 0, none⟩, 44, [.int .i64 by_.Mask, .int .i64 by_.Turn], 2⟩, ⟨some ⟨b2, 0, none⟩, 30, [.int .i64 0, .int .i64 0, .int .i64 0, .int .i64 0, .slice none 0 0, .slice none 0 0], 6⟩, ⟨some ⟨b5, 0, none⟩, 30, [.int .i64 p.Ins, .int .i64 (IntKind.i64.wrap (p.Vars - 1)), .int .i64 p.Root, .int .i64 phase, .slice B4 terms.length c4, .slice B9 ((Out ++ [(TAffine.mk r_4 Turn)]).length) c9], 6⟩, ⟨B4, 56, (terms.flatMap enc_Term), c4 * 2⟩, ⟨B9, 44, ((Out ++ [(TAffine.mk r_4 Turn)]).flatMap enc_Affine), c9 * 2⟩, ⟨some ⟨b6, 0, none⟩, 44, [.int .i64 Mask, .int .i64 Turn], 2⟩, ⟨some ⟨b7, 0, none⟩, 44, ([(TAffine.mk r_4 Turn)].flatMap enc_Affine), 1 * 2⟩] [⟨B, (p.Terms.flatMap enc_Term)⟩, ⟨B1, (p.Out.flatMap enc_Affine)⟩] := hS37
                      refine ⟨(ST.sel hS37 [0, 1, 3, 5] rfl rfl), ?_⟩
                      refine ra_done (by kernel_rfl) ?_
                      exact ⟨B9, c9, (FF.cons (hf3.get 1 0 rfl) (FF.cons (hf3.get 5 1 rfl) (FF.cons (hf3.get 6 2 rfl) (FF.cons (hf3.get 10 3 rfl) (FF.cons (hf3.get 72 5 rfl) (FF.cons (hf3.get 73 6 rfl) (FF.cons (hf3.get 74 7 rfl) FF.nil))))))), (hS37.sel [0, 1, 2, 3, 4] rfl rfl)⟩
                    exact allR_nil
                  exact allR_nil
                exact allR_nil
              exact allR_nil
            refine ra_c 105 (i := 5) rfl rfl rfl (Yc_func (g := 38) (vs := [.int .i64 Mask, .int .i64 v_]) k_call_38 rfl (mc rfl (mc rfl mn)) (c_spec_l21Drop Mask v_ _  (hS33.inn0 [] rfl) hc5)) ?_ ?_
            · rintro _ w_20 ⟨rfl, hd6⟩
              have hS38 := hS33.out00 hd6
              have hS38 : ST w0 [] _ [⟨some ⟨b1, 0, none⟩, 44, [.int .i64 by_.Mask, .int .i64 by_.Turn], 2⟩, ⟨some ⟨b2, 0, none⟩, 30, [.int .i64 0, .int .i64 0, .int .i64 0, .int .i64 0, .slice none 0 0, .slice none 0 0], 6⟩, ⟨some ⟨b5, 0, none⟩, 30, [.int .i64 p.Ins, .int .i64 (IntKind.i64.wrap (p.Vars - 1)), .int .i64 p.Root, .int .i64 phase, .slice B4 terms.length c4, .slice B8 Out.length c8], 6⟩, ⟨B4, 56, (terms.flatMap enc_Term), c4 * 2⟩, ⟨B8, 44, (Out.flatMap enc_Affine), c8 * 2⟩, ⟨some ⟨b6, 0, none⟩, 44, [.int .i64 Mask, .int .i64 Turn], 2⟩] [⟨B, (p.Terms.flatMap enc_Term)⟩, ⟨B1, (p.Out.flatMap enc_Affine)⟩] := hS38
              refine ⟨(ST.sel hS38 [0, 1, 3, 5] rfl rfl), ?_⟩
              refine ra_q 8 108 (v := .agg #[.int .i64 r_4, .int .i64 Turn]) rfl rfl rfl (by kernel_rfl) (by kernel_rfl) (by kernel_rfl) (ST.sel hS38 [0, 1, 3, 5] rfl rfl) (fun w' hw' => (Y_buildS (zs := [.int .i64 0, .int .i64 0]) (vs := [(0, .int .i64 r_4), (1, .int .i64 Turn)]) (cs := [.int .i64 r_4, .int .i64 Turn]) k_pl_44 k_zero_44 rfl (mpc rfl (mpc rfl mpn)) rfl)) ?_
              refine ra_all (rs := [1, 9]) (by kernel_rfl) rfl ?_
              refine ra_y 101 (i := 1) (v := .slice B8 Out.length c8) rfl rfl rfl (Y_load1 (B := some ⟨b5, 0, none⟩) (i := 5) (cs := [.int .i64 p.Ins, .int .i64 (IntKind.i64.wrap (p.Vars - 1)), .int .i64 p.Root, .int .i64 phase, .slice B4 terms.length c4, .slice B8 Out.length c8]) (v := .slice B8 Out.length c8) k_sc_28 rfl rfl (hS38.cf (i := 2) rfl) rfl) (ST.sel hS38 [0, 1, 3, 5] rfl rfl) ?_ ?_
              · skip
                refine ra_all (rs := [9]) (by kernel_rfl) rfl ?_
                refine ra_s 109 (i := 9) rfl rfl rfl (Ys_bslice (s := 2) (len := 1) (vs := [(0, .agg #[.int .i64 r_4, .int .i64 Turn])]) (cs := [.int .i64 r_4, .int .i64 Turn]) (zs := [.int .i64 0, .int .i64 0]) (m := 2) hS38 k_sl_28_44 k_sz_44_2 k_zc_44 rfl (mpc rfl mpn) rfl rfl rfl (by kernel_rfl) (by kernel_rfl) rfl) ?_ ?_
                · rintro _ w_21 ⟨b7, rfl, hS39⟩
                  have hS39 : ST w0 [] _ [⟨some ⟨b1, 0, none⟩, 44, [.int .i64 by_.Mask, .int .i64 by_.Turn], 2⟩, ⟨some ⟨b2, 0, none⟩, 30, [.int .i64 0, .int .i64 0, .int .i64 0, .int .i64 0, .slice none 0 0, .slice none 0 0], 6⟩, ⟨some ⟨b5, 0, none⟩, 30, [.int .i64 p.Ins, .int .i64 (IntKind.i64.wrap (p.Vars - 1)), .int .i64 p.Root, .int .i64 phase, .slice B4 terms.length c4, .slice B8 Out.length c8], 6⟩, ⟨B4, 56, (terms.flatMap enc_Term), c4 * 2⟩, ⟨B8, 44, (Out.flatMap enc_Affine), c8 * 2⟩, ⟨some ⟨b6, 0, none⟩, 44, [.int .i64 Mask, .int .i64 Turn], 2⟩, ⟨some ⟨b7, 0, none⟩, 44, ([(TAffine.mk r_4 Turn)].flatMap enc_Affine), 1 * 2⟩] [⟨B, (p.Terms.flatMap enc_Term)⟩, ⟨B1, (p.Out.flatMap enc_Affine)⟩] := hS39
                  refine ⟨(ST.sel hS39 [0, 1, 3, 5] rfl rfl), ?_⟩
                  refine ra_all (rs := [10]) (by kernel_rfl) rfl ?_
                  refine ra_s 110 (i := 10) rfl rfl rfl (Ys_append (s := 2) (by' := 16) (i := 4) (nn := Out.length) (c := c8) (k := 1) (len := (Out ++ [(TAffine.mk r_4 Turn)]).length) (B := B8) (xs := ([(TAffine.mk r_4 Turn)].flatMap enc_Affine)) (cs' := ((Out ++ [(TAffine.mk r_4 Turn)]).flatMap enc_Affine)) hS39 k_sl_28_44 k_sz_44_2 k_by_44_16 k_zero_44 rfl (by decide) rfl rfl rfl rfl (fm_lenn (l := Out) enc_Affine_len rfl) rfl (hS39.cf (i := 6) rfl) (fm_lenn (l := [(TAffine.mk r_4 Turn)]) enc_Affine_len rfl) (fm_one' (enc := enc_Affine) enc_Affine_one [(TAffine.mk r_4 Turn)]) (by have := hap; omega) (by have := hap; simp only [maxLen]; omega) (fm_app _ _) (app_len (l := Out) (l' := [(TAffine.mk r_4 Turn)]) rfl rfl)) ?_ ?_
                  · rintro _ w_22 ⟨B9, c9, rfl, hS40⟩
                    have hS40 : ST w0 [] _ [⟨some ⟨b1, 0, none⟩, 44, [.int .i64 by_.Mask, .int .i64 by_.Turn], 2⟩, ⟨some ⟨b2, 0, none⟩, 30, [.int .i64 0, .int .i64 0, .int .i64 0, .int .i64 0, .slice none 0 0, .slice none 0 0], 6⟩, ⟨some ⟨b5, 0, none⟩, 30, [.int .i64 p.Ins, .int .i64 (IntKind.i64.wrap (p.Vars - 1)), .int .i64 p.Root, .int .i64 phase, .slice B4 terms.length c4, .slice B8 Out.length c8], 6⟩, ⟨B4, 56, (terms.flatMap enc_Term), c4 * 2⟩, ⟨B9, 44, ((Out ++ [(TAffine.mk r_4 Turn)]).flatMap enc_Affine), c9 * 2⟩, ⟨some ⟨b6, 0, none⟩, 44, [.int .i64 Mask, .int .i64 Turn], 2⟩, ⟨some ⟨b7, 0, none⟩, 44, ([(TAffine.mk r_4 Turn)].flatMap enc_Affine), 1 * 2⟩] [⟨B, (p.Terms.flatMap enc_Term)⟩, ⟨B1, (p.Out.flatMap enc_Affine)⟩] := hS40
                    refine ⟨(ST.sel hS40 [0, 1, 3, 5] rfl rfl), ?_⟩
                    refine ra_q 11 111 (v := pt (some ⟨b5, 0, none⟩) 5) rfl rfl rfl (by kernel_rfl) (by kernel_rfl) (by kernel_rfl) (ST.sel hS40 [0, 1, 3, 5] rfl rfl) (fun w' hw' => (Y_fieldAddr (B := some ⟨b5, 0, none⟩) (i := 0) (s := 0) k_fd_30_5_5_28 k_sz_28_1 rfl (hf3.get 10 3 rfl))) ?_
                    refine ra_all (rs := [12]) (by kernel_rfl) rfl ?_
                    refine ra_s0 (i := 12) rfl rfl rfl (Ys_store (i := 2) (s := 1) (B := some ⟨b5, 0, none⟩) (T' := 30) (v := .slice B9 ((Out ++ [(TAffine.mk r_4 Turn)]).length) c9) (vs := [.slice B9 ((Out ++ [(TAffine.mk r_4 Turn)]).length) c9]) (k := 5) (cs' := [.int .i64 p.Ins, .int .i64 (IntKind.i64.wrap (p.Vars - 1)), .int .i64 p.Root, .int .i64 phase, .slice B4 terms.length c4, .slice B9 ((Out ++ [(TAffine.mk r_4 Turn)]).length) c9]) hS40 k_sz_28_1 rfl rfl rfl rfl rfl rfl rfl (Nat.le_of_ble_eq_true rfl) rfl rfl) ?_ ?_
                    · rintro _ w_23 ⟨rfl, hS41⟩
                      have hS41 : ST w0 [] _ [⟨some ⟨b1, 0, none⟩, 44, [.int .i64 by_.Mask, .int .i64 by_.Turn], 2⟩, ⟨some ⟨b2, 0, none⟩, 30, [.int .i64 0, .int .i64 0, .int .i64 0, .int .i64 0, .slice none 0 0, .slice none 0 0], 6⟩, ⟨some ⟨b5, 0, none⟩, 30, [.int .i64 p.Ins, .int .i64 (IntKind.i64.wrap (p.Vars - 1)), .int .i64 p.Root, .int .i64 phase, .slice B4 terms.length c4, .slice B9 ((Out ++ [(TAffine.mk r_4 Turn)]).length) c9], 6⟩, ⟨B4, 56, (terms.flatMap enc_Term), c4 * 2⟩, ⟨B9, 44, ((Out ++ [(TAffine.mk r_4 Turn)]).flatMap enc_Affine), c9 * 2⟩, ⟨some ⟨b6, 0, none⟩, 44, [.int .i64 Mask, .int .i64 Turn], 2⟩, ⟨some ⟨b7, 0, none⟩, 44, ([(TAffine.mk r_4 Turn)].flatMap enc_Affine), 1 * 2⟩] [⟨B, (p.Terms.flatMap enc_Term)⟩, ⟨B1, (p.Out.flatMap enc_Affine)⟩] := hS41
                      refine ⟨(ST.sel hS41 [0, 1, 3, 5] rfl rfl), ?_⟩
                      refine ra_done (by kernel_rfl) ?_
                      exact ⟨B9, c9, (FF.cons (hf3.get 1 0 rfl) (FF.cons (hf3.get 5 1 rfl) (FF.cons (hf3.get 6 2 rfl) (FF.cons (hf3.get 10 3 rfl) (FF.cons (hf3.get 72 5 rfl) (FF.cons (hf3.get 73 6 rfl) (FF.cons (hf3.get 74 7 rfl) FF.nil))))))), (hS41.sel [0, 1, 2, 3, 4] rfl rfl)⟩
                    exact allR_nil
                  exact allR_nil
                exact allR_nil
              refine ra_s 109 (i := 9) rfl rfl rfl (Ys_bslice (s := 2) (len := 1) (vs := [(0, .agg #[.int .i64 r_4, .int .i64 Turn])]) (cs := [.int .i64 r_4, .int .i64 Turn]) (zs := [.int .i64 0, .int .i64 0]) (m := 2) hS38 k_sl_28_44 k_sz_44_2 k_zc_44 rfl (mpc rfl mpn) rfl rfl rfl (by kernel_rfl) (by kernel_rfl) rfl) ?_ ?_
              · rintro _ w_24 ⟨b7, rfl, hS42⟩
                have hS42 : ST w0 [] _ [⟨some ⟨b1, 0, none⟩, 44, [.int .i64 by_.Mask, .int .i64 by_.Turn], 2⟩, ⟨some ⟨b2, 0, none⟩, 30, [.int .i64 0, .int .i64 0, .int .i64 0, .int .i64 0, .slice none 0 0, .slice none 0 0], 6⟩, ⟨some ⟨b5, 0, none⟩, 30, [.int .i64 p.Ins, .int .i64 (IntKind.i64.wrap (p.Vars - 1)), .int .i64 p.Root, .int .i64 phase, .slice B4 terms.length c4, .slice B8 Out.length c8], 6⟩, ⟨B4, 56, (terms.flatMap enc_Term), c4 * 2⟩, ⟨B8, 44, (Out.flatMap enc_Affine), c8 * 2⟩, ⟨some ⟨b6, 0, none⟩, 44, [.int .i64 Mask, .int .i64 Turn], 2⟩, ⟨some ⟨b7, 0, none⟩, 44, ([(TAffine.mk r_4 Turn)].flatMap enc_Affine), 1 * 2⟩] [⟨B, (p.Terms.flatMap enc_Term)⟩, ⟨B1, (p.Out.flatMap enc_Affine)⟩] := hS42
                refine ⟨(ST.sel hS42 [0, 1, 3, 5] rfl rfl), ?_⟩
                refine ra_all (rs := [1]) (by kernel_rfl) rfl ?_
                refine ra_y 101 (i := 1) (v := .slice B8 Out.length c8) rfl rfl rfl (Y_load1 (B := some ⟨b5, 0, none⟩) (i := 5) (cs := [.int .i64 p.Ins, .int .i64 (IntKind.i64.wrap (p.Vars - 1)), .int .i64 p.Root, .int .i64 phase, .slice B4 terms.length c4, .slice B8 Out.length c8]) (v := .slice B8 Out.length c8) k_sc_28 rfl rfl (hS42.cf (i := 2) rfl) rfl) (ST.sel hS42 [0, 1, 3, 5] rfl rfl) ?_ ?_
                · skip
                  refine ra_all (rs := [10]) (by kernel_rfl) rfl ?_
                  refine ra_s 110 (i := 10) rfl rfl rfl (Ys_append (s := 2) (by' := 16) (i := 4) (nn := Out.length) (c := c8) (k := 1) (len := (Out ++ [(TAffine.mk r_4 Turn)]).length) (B := B8) (xs := ([(TAffine.mk r_4 Turn)].flatMap enc_Affine)) (cs' := ((Out ++ [(TAffine.mk r_4 Turn)]).flatMap enc_Affine)) hS42 k_sl_28_44 k_sz_44_2 k_by_44_16 k_zero_44 rfl (by decide) rfl rfl rfl rfl (fm_lenn (l := Out) enc_Affine_len rfl) rfl (hS42.cf (i := 6) rfl) (fm_lenn (l := [(TAffine.mk r_4 Turn)]) enc_Affine_len rfl) (fm_one' (enc := enc_Affine) enc_Affine_one [(TAffine.mk r_4 Turn)]) (by have := hap; omega) (by have := hap; simp only [maxLen]; omega) (fm_app _ _) (app_len (l := Out) (l' := [(TAffine.mk r_4 Turn)]) rfl rfl)) ?_ ?_
                  · rintro _ w_25 ⟨B9, c9, rfl, hS43⟩
                    have hS43 : ST w0 [] _ [⟨some ⟨b1, 0, none⟩, 44, [.int .i64 by_.Mask, .int .i64 by_.Turn], 2⟩, ⟨some ⟨b2, 0, none⟩, 30, [.int .i64 0, .int .i64 0, .int .i64 0, .int .i64 0, .slice none 0 0, .slice none 0 0], 6⟩, ⟨some ⟨b5, 0, none⟩, 30, [.int .i64 p.Ins, .int .i64 (IntKind.i64.wrap (p.Vars - 1)), .int .i64 p.Root, .int .i64 phase, .slice B4 terms.length c4, .slice B8 Out.length c8], 6⟩, ⟨B4, 56, (terms.flatMap enc_Term), c4 * 2⟩, ⟨B9, 44, ((Out ++ [(TAffine.mk r_4 Turn)]).flatMap enc_Affine), c9 * 2⟩, ⟨some ⟨b6, 0, none⟩, 44, [.int .i64 Mask, .int .i64 Turn], 2⟩, ⟨some ⟨b7, 0, none⟩, 44, ([(TAffine.mk r_4 Turn)].flatMap enc_Affine), 1 * 2⟩] [⟨B, (p.Terms.flatMap enc_Term)⟩, ⟨B1, (p.Out.flatMap enc_Affine)⟩] := hS43
                    refine ⟨(ST.sel hS43 [0, 1, 3, 5] rfl rfl), ?_⟩
                    refine ra_q 11 111 (v := pt (some ⟨b5, 0, none⟩) 5) rfl rfl rfl (by kernel_rfl) (by kernel_rfl) (by kernel_rfl) (ST.sel hS43 [0, 1, 3, 5] rfl rfl) (fun w' hw' => (Y_fieldAddr (B := some ⟨b5, 0, none⟩) (i := 0) (s := 0) k_fd_30_5_5_28 k_sz_28_1 rfl (hf3.get 10 3 rfl))) ?_
                    refine ra_all (rs := [12]) (by kernel_rfl) rfl ?_
                    refine ra_s0 (i := 12) rfl rfl rfl (Ys_store (i := 2) (s := 1) (B := some ⟨b5, 0, none⟩) (T' := 30) (v := .slice B9 ((Out ++ [(TAffine.mk r_4 Turn)]).length) c9) (vs := [.slice B9 ((Out ++ [(TAffine.mk r_4 Turn)]).length) c9]) (k := 5) (cs' := [.int .i64 p.Ins, .int .i64 (IntKind.i64.wrap (p.Vars - 1)), .int .i64 p.Root, .int .i64 phase, .slice B4 terms.length c4, .slice B9 ((Out ++ [(TAffine.mk r_4 Turn)]).length) c9]) hS43 k_sz_28_1 rfl rfl rfl rfl rfl rfl rfl (Nat.le_of_ble_eq_true rfl) rfl rfl) ?_ ?_
                    · rintro _ w_26 ⟨rfl, hS44⟩
                      have hS44 : ST w0 [] _ [⟨some ⟨b1, 0, none⟩, 44, [.int .i64 by_.Mask, .int .i64 by_.Turn], 2⟩, ⟨some ⟨b2, 0, none⟩, 30, [.int .i64 0, .int .i64 0, .int .i64 0, .int .i64 0, .slice none 0 0, .slice none 0 0], 6⟩, ⟨some ⟨b5, 0, none⟩, 30, [.int .i64 p.Ins, .int .i64 (IntKind.i64.wrap (p.Vars - 1)), .int .i64 p.Root, .int .i64 phase, .slice B4 terms.length c4, .slice B9 ((Out ++ [(TAffine.mk r_4 Turn)]).length) c9], 6⟩, ⟨B4, 56, (terms.flatMap enc_Term), c4 * 2⟩, ⟨B9, 44, ((Out ++ [(TAffine.mk r_4 Turn)]).flatMap enc_Affine), c9 * 2⟩, ⟨some ⟨b6, 0, none⟩, 44, [.int .i64 Mask, .int .i64 Turn], 2⟩, ⟨some ⟨b7, 0, none⟩, 44, ([(TAffine.mk r_4 Turn)].flatMap enc_Affine), 1 * 2⟩] [⟨B, (p.Terms.flatMap enc_Term)⟩, ⟨B1, (p.Out.flatMap enc_Affine)⟩] := hS44
                      refine ⟨(ST.sel hS44 [0, 1, 3, 5] rfl rfl), ?_⟩
                      refine ra_done (by kernel_rfl) ?_
                      exact ⟨B9, c9, (FF.cons (hf3.get 1 0 rfl) (FF.cons (hf3.get 5 1 rfl) (FF.cons (hf3.get 6 2 rfl) (FF.cons (hf3.get 10 3 rfl) (FF.cons (hf3.get 72 5 rfl) (FF.cons (hf3.get 73 6 rfl) (FF.cons (hf3.get 74 7 rfl) FF.nil))))))), (hS44.sel [0, 1, 2, 3, 4] rfl rfl)⟩
                    exact allR_nil
                  exact allR_nil
                exact allR_nil
              exact allR_nil
            exact allR_nil
          rintro f w ⟨B10, c10, hf4, hS32⟩
          refine cw_region ?_
          refine sq 112 rfl rfl (Y_add (k := .i64) (a := t) (b := 1) rfl (hf4.get 74 6 rfl) rfl) ?_
          refine sq 74 rfl rfl (Y_move (v := .int .i64 (IntKind.i64.wrap (t + 1))) rfl rfl) ?_
          refine rw_nil ?_
          obtain rfl := some_inj hF7
          exact ⟨k_3, Nat.lt_succ_self _, (Out ++ [(TAffine.mk r_4 Turn)]), (IntKind.i64.wrap (t + 1)), B10, c10, (FF.cons (hf4.get 1 0 rfl) (FF.cons (hf4.get 5 1 rfl) (FF.cons (hf4.get 6 2 rfl) (FF.cons (hf4.get 10 3 rfl) (FF.cons (hf4.get 72 4 rfl) (FF.cons (hf4.get 73 5 rfl) (FF.cons rfl FF.nil))))))), (hS32.sel [0, 1, 2, 3, 4] rfl rfl), hL3⟩
        · skip
          have hF10 := cf' hb2 hb3
          refine cw_exit rfl ?_
          obtain rfl := some_inj hF10
          obtain rfl := some_inj hL3
          refine cw_seq ?_
          refine cw_region ?_
          refine sq 113 rfl rfl (Y_loadA (B := some ⟨b5, 0, none⟩) (i := 0) (cs := [.int .i64 p.Ins, .int .i64 (IntKind.i64.wrap (p.Vars - 1)), .int .i64 p.Root, .int .i64 phase, .slice B4 terms.length c4, .slice B8 Out.length c8]) (vs := [.int .i64 p.Ins, .int .i64 (IntKind.i64.wrap (p.Vars - 1)), .int .i64 p.Root, .int .i64 phase, .slice B4 terms.length c4, .slice B8 Out.length c8]) k_ag_30 k_sz_30_6 rfl (hf2.get 10 3 rfl) (hS25.cf (i := 2) rfl) rfl rfl) ?_
          refine ss0 rfl rfl (Ys_store (i := 1) (s := 6) (B := some ⟨b2, 0, none⟩) (T' := 30) (v := .agg #[.int .i64 p.Ins, .int .i64 (IntKind.i64.wrap (p.Vars - 1)), .int .i64 p.Root, .int .i64 phase, .slice B4 terms.length c4, .slice B8 Out.length c8]) (vs := [.int .i64 p.Ins, .int .i64 (IntKind.i64.wrap (p.Vars - 1)), .int .i64 p.Root, .int .i64 phase, .slice B4 terms.length c4, .slice B8 Out.length c8]) (k := 0) (cs' := [.int .i64 p.Ins, .int .i64 (IntKind.i64.wrap (p.Vars - 1)), .int .i64 p.Root, .int .i64 phase, .slice B4 terms.length c4, .slice B8 Out.length c8]) hS25 k_sz_30_6 rfl (hf2.get 6 2 rfl) rfl rfl rfl rfl rfl (Nat.le_of_ble_eq_true rfl) rfl rfl) ?_
          rintro _ w_27 ⟨rfl, hS45⟩
          have hS45 : ST w0 [] _ [⟨some ⟨b1, 0, none⟩, 44, [.int .i64 by_.Mask, .int .i64 by_.Turn], 2⟩, ⟨some ⟨b2, 0, none⟩, 30, [.int .i64 p.Ins, .int .i64 (IntKind.i64.wrap (p.Vars - 1)), .int .i64 p.Root, .int .i64 phase, .slice B4 terms.length c4, .slice B8 Out.length c8], 6⟩, ⟨some ⟨b5, 0, none⟩, 30, [.int .i64 p.Ins, .int .i64 (IntKind.i64.wrap (p.Vars - 1)), .int .i64 p.Root, .int .i64 phase, .slice B4 terms.length c4, .slice B8 Out.length c8], 6⟩, ⟨B4, 56, (terms.flatMap enc_Term), c4 * 2⟩, ⟨B8, 44, (Out.flatMap enc_Affine), c8 * 2⟩] [⟨B, (p.Terms.flatMap enc_Term)⟩, ⟨B1, (p.Out.flatMap enc_Affine)⟩] := hS45
          refine rw_nil ?_
          refine cw_ret ?_
          obtain rfl := some_inj hF5
          exact ret1 Tryd.results41 (v1 := .agg #[.int .i64 p.Ins, .int .i64 (IntKind.i64.wrap (p.Vars - 1)), .int .i64 p.Root, .int .i64 phase, .slice B4 terms.length c4, .slice B8 Out.length c8]) (resAt_cellA (B := some ⟨b2, 0, none⟩) (i := 0) (cs := [.int .i64 p.Ins, .int .i64 (IntKind.i64.wrap (p.Vars - 1)), .int .i64 p.Root, .int .i64 phase, .slice B4 terms.length c4, .slice B8 Out.length c8]) (vs := [.int .i64 p.Ins, .int .i64 (IntKind.i64.wrap (p.Vars - 1)), .int .i64 p.Root, .int .i64 phase, .slice B4 terms.length c4, .slice B8 Out.length c8]) (hf2.get 6 2 rfl) k_ag_30 k_sz_30_6 (hS45.cf (i := 1) rfl) rfl rfl) ⟨B4, c4, B8, c8, rfl, (ST.subR (R' := []) (hS45.sel [3, 4] rfl rfl) (fun _ h => by cases h))⟩
      exact allR_nil
    exact allR_nil

theorem c_spec_l21Without (p : TPathSum) (y : Int) (B : Option Addr) (c n : Nat) (B1 : Option Addr) (c1 n1 : Nat) (w0 : World) (hn : p.Terms.length = n) (hn1 : p.Out.length = n1) (hS : ST w0 [] w0 [] [⟨B, (p.Terms.flatMap enc_Term)⟩, ⟨B1, (p.Out.flatMap enc_Affine)⟩]) {r_ : TPathSum} (hF : F_spec_l21Without p y = some r_) :
    CV Tryd.prog 37 #[.agg #[.int .i64 p.Ins, .int .i64 p.Vars, .int .i64 p.Root, .int .i64 p.Phase, .slice B n c, .slice B1 n1 c1], .int .i64 y] w0 (fun v w' => ∃ (B2 : Option Addr) (c2 : Nat) (B3 : Option Addr) (c3 : Nat), v = .agg #[.int .i64 r_.Ins, .int .i64 r_.Vars, .int .i64 r_.Root, .int .i64 r_.Phase, .slice B2 r_.Terms.length c2, .slice B3 r_.Out.length c3] ∧ ST w0 [] w' [⟨B2, 56, (r_.Terms.flatMap enc_Term), c2 * 2⟩, ⟨B3, 44, (r_.Out.flatMap enc_Affine), c3 * 2⟩] []) := by
  subst hn
  subst hn1
  unfold F_spec_l21Without at hF
  refine cv_of_cw 9 Tryd.func37 rfl Tryd.ntmps37 rfl ?_
  refine cw_seq ?_
  refine cw_region ?_
  refine ss 2 rfl rfl (Ys_box (T := 30) (v := .agg #[.int .i64 p.Ins, .int .i64 p.Vars, .int .i64 p.Root, .int .i64 p.Phase, .slice B p.Terms.length c, .slice B1 p.Out.length c1]) (cs := [.int .i64 p.Ins, .int .i64 p.Vars, .int .i64 p.Root, .int .i64 p.Phase, .slice B p.Terms.length c, .slice B1 p.Out.length c1]) (m := 6) hS rfl rfl rfl rfl) ?_
  rintro _ w_ ⟨b, rfl, hS1⟩
  refine ss 4 rfl rfl (Ys_alloc (T := 30) (cs := [.int .i64 0, .int .i64 0, .int .i64 0, .int .i64 0, .slice none 0 0, .slice none 0 0]) (m := 6) hS1 k_zero_30 rfl rfl rfl) ?_
  rintro _ w_1 ⟨b1, rfl, hS2⟩
  have hS2 : ST w0 [] _ [⟨some ⟨b, 0, none⟩, 30, [.int .i64 p.Ins, .int .i64 p.Vars, .int .i64 p.Root, .int .i64 p.Phase, .slice B p.Terms.length c, .slice B1 p.Out.length c1], 6⟩, ⟨some ⟨b1, 0, none⟩, 30, [.int .i64 0, .int .i64 0, .int .i64 0, .int .i64 0, .slice none 0 0, .slice none 0 0], 6⟩] [⟨B, (p.Terms.flatMap enc_Term)⟩, ⟨B1, (p.Out.flatMap enc_Affine)⟩] := hS2
  refine rw_nil ?_
  refine cw_seq ?_
  refine cw_region ?_
  refine sq 5 rfl rfl (Y_loadA (B := some ⟨b, 0, none⟩) (i := 0) (cs := [.int .i64 p.Ins, .int .i64 p.Vars, .int .i64 p.Root, .int .i64 p.Phase, .slice B p.Terms.length c, .slice B1 p.Out.length c1]) (vs := [.int .i64 p.Ins, .int .i64 p.Vars, .int .i64 p.Root, .int .i64 p.Phase, .slice B p.Terms.length c, .slice B1 p.Out.length c1]) k_ag_30 k_sz_30_6 rfl rfl (hS2.cf (i := 0) rfl) rfl rfl) ?_
  refine sq 6 rfl rfl (Y_move (v := .int .i64 y) rfl rfl) ?_
  refine sq 7 rfl rfl (Y_buildS (zs := [.int .i64 0, .int .i64 0]) (vs := []) (cs := [.int .i64 0, .int .i64 0]) k_pl_44 k_zero_44 rfl mpn rfl) ?_
  obtain ⟨r_1, hc, hF⟩ := bind_inv hF
  refine sc 8 rfl rfl (Yc_func (g := 41) (vs := [.agg #[.int .i64 p.Ins, .int .i64 p.Vars, .int .i64 p.Root, .int .i64 p.Phase, .slice B p.Terms.length c, .slice B1 p.Out.length c1], .int .i64 y, .agg #[.int .i64 0, .int .i64 0]]) k_call_41 rfl (mc rfl (mc rfl (mc rfl mn))) (c_spec_l21Replace p y (TAffine.mk 0 0) B c p.Terms.length B1 c1 p.Out.length _ rfl rfl (hS2.inn0 [(true, 0), (true, 1)] rfl) hc)) ?_
  rintro _ w_2 ⟨B4, c4, B5, c5, rfl, hd⟩
  have hS3 := hS2.out0 hd
  have hS3 : ST w0 [] _ [⟨some ⟨b, 0, none⟩, 30, [.int .i64 p.Ins, .int .i64 p.Vars, .int .i64 p.Root, .int .i64 p.Phase, .slice B p.Terms.length c, .slice B1 p.Out.length c1], 6⟩, ⟨some ⟨b1, 0, none⟩, 30, [.int .i64 0, .int .i64 0, .int .i64 0, .int .i64 0, .slice none 0 0, .slice none 0 0], 6⟩, ⟨B4, 56, (r_1.Terms.flatMap enc_Term), c4 * 2⟩, ⟨B5, 44, (r_1.Out.flatMap enc_Affine), c5 * 2⟩] [⟨B, (p.Terms.flatMap enc_Term)⟩, ⟨B1, (p.Out.flatMap enc_Affine)⟩] := hS3
  refine ss0 rfl rfl (Ys_store (i := 1) (s := 6) (B := some ⟨b1, 0, none⟩) (T' := 30) (v := .agg #[.int .i64 r_1.Ins, .int .i64 r_1.Vars, .int .i64 r_1.Root, .int .i64 r_1.Phase, .slice B4 r_1.Terms.length c4, .slice B5 r_1.Out.length c5]) (vs := [.int .i64 r_1.Ins, .int .i64 r_1.Vars, .int .i64 r_1.Root, .int .i64 r_1.Phase, .slice B4 r_1.Terms.length c4, .slice B5 r_1.Out.length c5]) (k := 0) (cs' := [.int .i64 r_1.Ins, .int .i64 r_1.Vars, .int .i64 r_1.Root, .int .i64 r_1.Phase, .slice B4 r_1.Terms.length c4, .slice B5 r_1.Out.length c5]) hS3 k_sz_30_6 rfl rfl rfl rfl rfl rfl rfl (Nat.le_of_ble_eq_true rfl) rfl rfl) ?_
  rintro _ w_3 ⟨rfl, hS4⟩
  have hS4 : ST w0 [] _ [⟨some ⟨b, 0, none⟩, 30, [.int .i64 p.Ins, .int .i64 p.Vars, .int .i64 p.Root, .int .i64 p.Phase, .slice B p.Terms.length c, .slice B1 p.Out.length c1], 6⟩, ⟨some ⟨b1, 0, none⟩, 30, [.int .i64 r_1.Ins, .int .i64 r_1.Vars, .int .i64 r_1.Root, .int .i64 r_1.Phase, .slice B4 r_1.Terms.length c4, .slice B5 r_1.Out.length c5], 6⟩, ⟨B4, 56, (r_1.Terms.flatMap enc_Term), c4 * 2⟩, ⟨B5, 44, (r_1.Out.flatMap enc_Affine), c5 * 2⟩] [⟨B, (p.Terms.flatMap enc_Term)⟩, ⟨B1, (p.Out.flatMap enc_Affine)⟩] := hS4
  refine rw_nil ?_
  refine cw_ret ?_
  obtain rfl := some_inj hF
  exact ret1 Tryd.results37 (v1 := .agg #[.int .i64 r_1.Ins, .int .i64 r_1.Vars, .int .i64 r_1.Root, .int .i64 r_1.Phase, .slice B4 r_1.Terms.length c4, .slice B5 r_1.Out.length c5]) (resAt_cellA (B := some ⟨b1, 0, none⟩) (i := 0) (cs := [.int .i64 r_1.Ins, .int .i64 r_1.Vars, .int .i64 r_1.Root, .int .i64 r_1.Phase, .slice B4 r_1.Terms.length c4, .slice B5 r_1.Out.length c5]) (vs := [.int .i64 r_1.Ins, .int .i64 r_1.Vars, .int .i64 r_1.Root, .int .i64 r_1.Phase, .slice B4 r_1.Terms.length c4, .slice B5 r_1.Out.length c5]) rfl k_ag_30 k_sz_30_6 (hS4.cf (i := 1) rfl) rfl rfl) ⟨B4, c4, B5, c5, rfl, (ST.subR (R' := []) (hS4.sel [2, 3] rfl rfl) (fun _ h => by cases h))⟩

theorem c_spec_l21Step (p : TPathSum) (B : Option Addr) (c n : Nat) (B1 : Option Addr) (c1 n1 : Nat) (w0 : World) (hn : p.Terms.length = n) (hn1 : p.Out.length = n1) (hS : ST w0 [] w0 [] [⟨B, (p.Terms.flatMap enc_Term)⟩, ⟨B1, (p.Out.flatMap enc_Affine)⟩]) {r_ : TPathSum} {r_1 : Int} {r_2 : Bool} (hF : F_spec_l21Step p = some (r_, r_1, r_2)) :
    CV Tryd.prog 17 #[.agg #[.int .i64 p.Ins, .int .i64 p.Vars, .int .i64 p.Root, .int .i64 p.Phase, .slice B n c, .slice B1 n1 c1]] w0 (fun v w' => ∃ (B2 : Option Addr) (c2 : Nat) (B3 : Option Addr) (c3 : Nat), v = .tuple #[.agg #[.int .i64 r_.Ins, .int .i64 r_.Vars, .int .i64 r_.Root, .int .i64 r_.Phase, .slice B2 r_.Terms.length c2, .slice B3 r_.Out.length c3], .int .i64 r_1, .bool r_2] ∧ ST w0 [] w' [⟨B2, 56, (r_.Terms.flatMap enc_Term), c2 * 2⟩, ⟨B3, 44, (r_.Out.flatMap enc_Affine), c3 * 2⟩] []) := by
  subst hn
  subst hn1
  unfold F_spec_l21Step at hF
  refine cv_of_cw 110 Tryd.func17 rfl Tryd.ntmps17 rfl ?_
  refine cw_seq ?_
  refine cw_region ?_
  refine ss 1 rfl rfl (Ys_box (T := 30) (v := .agg #[.int .i64 p.Ins, .int .i64 p.Vars, .int .i64 p.Root, .int .i64 p.Phase, .slice B p.Terms.length c, .slice B1 p.Out.length c1]) (cs := [.int .i64 p.Ins, .int .i64 p.Vars, .int .i64 p.Root, .int .i64 p.Phase, .slice B p.Terms.length c, .slice B1 p.Out.length c1]) (m := 6) hS rfl rfl rfl rfl) ?_
  rintro _ w_ ⟨b, rfl, hS1⟩
  refine ss 2 rfl rfl (Ys_alloc (T := 30) (cs := [.int .i64 0, .int .i64 0, .int .i64 0, .int .i64 0, .slice none 0 0, .slice none 0 0]) (m := 6) hS1 k_zero_30 rfl rfl rfl) ?_
  rintro _ w_1 ⟨b1, rfl, hS2⟩
  have hS2 : ST w0 [] _ [⟨some ⟨b, 0, none⟩, 30, [.int .i64 p.Ins, .int .i64 p.Vars, .int .i64 p.Root, .int .i64 p.Phase, .slice B p.Terms.length c, .slice B1 p.Out.length c1], 6⟩, ⟨some ⟨b1, 0, none⟩, 30, [.int .i64 0, .int .i64 0, .int .i64 0, .int .i64 0, .slice none 0 0, .slice none 0 0], 6⟩] [⟨B, (p.Terms.flatMap enc_Term)⟩, ⟨B1, (p.Out.flatMap enc_Affine)⟩] := hS2
  refine sq 3 rfl rfl (Y_assign (v := .int .i64 0) rfl rfl) ?_
  refine sq 4 rfl rfl (Y_assign (v := .bool false) rfl rfl) ?_
  refine rw_nil ?_
  refine cw_seq ?_
  refine cw_seq ?_
  refine cw_region ?_
  refine sq 12 rfl rfl (Y_fieldAddr (B := some ⟨b, 0, none⟩) (i := 0) (s := 0) k_fd_30_0_0_3 k_sz_3_1 rfl rfl) ?_
  refine sq 13 rfl rfl (Y_load1 (B := some ⟨b, 0, none⟩) (i := 0) (cs := [.int .i64 p.Ins, .int .i64 p.Vars, .int .i64 p.Root, .int .i64 p.Phase, .slice B p.Terms.length c, .slice B1 p.Out.length c1]) (v := .int .i64 p.Ins) k_sc_3 rfl rfl (hS2.cf (i := 0) rfl) rfl) ?_
  refine sq 5 rfl rfl (Y_assign (v := .int .i64 p.Ins) rfl rfl) ?_
  refine rw_nil ?_
  obtain ⟨z, hz, hF1⟩ := bind_inv hF
  refine cw_block ?_
  refine cw_loop (fun k f w => ∃ (y : Int), FF f [(1, pt (some ⟨b, 0, none⟩) 0), (2, pt (some ⟨b1, 0, none⟩) 0), (5, .int .i64 y)] ∧ ST w0 [] w [⟨some ⟨b, 0, none⟩, 30, [.int .i64 p.Ins, .int .i64 p.Vars, .int .i64 p.Root, .int .i64 p.Phase, .slice B p.Terms.length c, .slice B1 p.Out.length c1], 6⟩, ⟨some ⟨b1, 0, none⟩, 30, [.int .i64 0, .int .i64 0, .int .i64 0, .int .i64 0, .slice none 0 0, .slice none 0 0], 6⟩] [⟨B, (p.Terms.flatMap enc_Term)⟩, ⟨B1, (p.Out.flatMap enc_Affine)⟩] ∧ whX (F_spec_l21Step_l1 p) k y = some z) fuel ⟨p.Ins, (FF.cons rfl (FF.cons rfl (FF.cons rfl FF.nil))), (hS2.sel [0, 1] rfl rfl), hz⟩ ?_
  rintro k_ f w ⟨y, hf, hS3, hL⟩
  obtain ⟨k_1, y1, rfl, hb, hL1⟩ := whX_go hL
  unfold F_spec_l21Step_l1 at hb
  refine cw_seq ?_
  refine cw_seq ?_
  refine cw_region ?_
  refine sq 14 rfl rfl (Y_move (v := .int .i64 y) rfl (hf.get 5 2 rfl)) ?_
  refine sq 15 rfl rfl (Y_fieldAddr (B := some ⟨b, 0, none⟩) (i := 0) (s := 0) k_fd_30_0_0_3 k_sz_3_1 rfl (hf.get 1 0 rfl)) ?_
  refine sq 16 rfl rfl (Y_load1 (B := some ⟨b, 0, none⟩) (i := 0) (cs := [.int .i64 p.Ins, .int .i64 p.Vars, .int .i64 p.Root, .int .i64 p.Phase, .slice B p.Terms.length c, .slice B1 p.Out.length c1]) (v := .int .i64 p.Ins) k_sc_3 rfl rfl (hS3.cf (i := 0) rfl) rfl) ?_
  refine sq 17 rfl rfl (Y_fieldAddr (B := some ⟨b, 0, none⟩) (i := 0) (s := 0) k_fd_30_1_1_3 k_sz_3_1 rfl (hf.get 1 0 rfl)) ?_
  refine sq 18 rfl rfl (Y_load1 (B := some ⟨b, 0, none⟩) (i := 1) (cs := [.int .i64 p.Ins, .int .i64 p.Vars, .int .i64 p.Root, .int .i64 p.Phase, .slice B p.Terms.length c, .slice B1 p.Out.length c1]) (v := .int .i64 p.Vars) k_sc_3 rfl rfl (hS3.cf (i := 0) rfl) rfl) ?_
  refine sq 19 rfl rfl (Y_add (k := .i64) (a := p.Ins) (b := p.Vars) rfl rfl rfl) ?_
  refine sq 20 rfl rfl (Y_lt (k := .i64) (a := y) (b := (IntKind.i64.wrap (p.Ins + p.Vars))) rfl rfl rfl) ?_
  refine rw_nil ?_
  refine cw_cond (b := (decide (y < (IntKind.i64.wrap (p.Ins + p.Vars))))) rfl (fun hb1 => ?_) (fun hb1 => ?_)
  · skip
    have hF2 := ct hb hb1
    refine cw_skip ?_
    refine cw_seq ?_
    refine cw_block ?_
    refine cw_seq ?_
    refine cw_region ?_
    refine sq 24 rfl rfl (Y_loadA (B := some ⟨b, 0, none⟩) (i := 0) (cs := [.int .i64 p.Ins, .int .i64 p.Vars, .int .i64 p.Root, .int .i64 p.Phase, .slice B p.Terms.length c, .slice B1 p.Out.length c1]) (vs := [.int .i64 p.Ins, .int .i64 p.Vars, .int .i64 p.Root, .int .i64 p.Phase, .slice B p.Terms.length c, .slice B1 p.Out.length c1]) k_ag_30 k_sz_30_6 rfl (hf.get 1 0 rfl) (hS3.cf (i := 0) rfl) rfl rfl) ?_
    refine sq 25 rfl rfl (Y_move (v := .int .i64 y) rfl (hf.get 5 2 rfl)) ?_
    obtain ⟨⟨r_3, r_4, r_5⟩, hc, hF2⟩ := bind_inv hF2
    refine sc 26 rfl rfl (Yc_func (g := 36) (vs := [.agg #[.int .i64 p.Ins, .int .i64 p.Vars, .int .i64 p.Root, .int .i64 p.Phase, .slice B p.Terms.length c, .slice B1 p.Out.length c1], .int .i64 y]) k_call_36 rfl (mc rfl (mc rfl mn)) (c_spec_l21Rule p y B c p.Terms.length B1 c1 p.Out.length _ rfl rfl (hS3.inn0 [(true, 0), (true, 1)] rfl) hc)) ?_
    rintro _ w_2 ⟨rfl, hd⟩
    have hS4 := hS3.out00 hd
    have hS4 : ST w0 [] _ [⟨some ⟨b, 0, none⟩, 30, [.int .i64 p.Ins, .int .i64 p.Vars, .int .i64 p.Root, .int .i64 p.Phase, .slice B p.Terms.length c, .slice B1 p.Out.length c1], 6⟩, ⟨some ⟨b1, 0, none⟩, 30, [.int .i64 0, .int .i64 0, .int .i64 0, .int .i64 0, .slice none 0 0, .slice none 0 0], 6⟩] [⟨B, (p.Terms.flatMap enc_Term)⟩, ⟨B1, (p.Out.flatMap enc_Affine)⟩] := hS4
    refine sq 23 rfl rfl (Y_move (v := .tuple #[.int .i64 r_3, .int .i64 r_4, .int .i64 r_5]) rfl rfl) ?_
    refine sq 27 rfl rfl (Y_extract (v := .int .i64 r_3) rfl rfl rfl) ?_
    refine sq 28 rfl rfl (Y_extract (v := .int .i64 r_4) rfl rfl rfl) ?_
    refine sq 29 rfl rfl (Y_extract (v := .int .i64 r_5) rfl rfl rfl) ?_
    refine sq 6 rfl rfl (Y_assign (v := .int .i64 r_3) rfl rfl) ?_
    refine sq 7 rfl rfl (Y_assign (v := .int .i64 r_4) rfl rfl) ?_
    refine sq 8 rfl rfl (Y_assign (v := .int .i64 r_5) rfl rfl) ?_
    refine rw_nil ?_
    refine cw_seq ?_
    refine cw_seq ?_
    refine cw_region ?_
    refine sq 30 rfl rfl (Y_move (v := .int .i64 r_3) rfl rfl) ?_
    refine sq 31 rfl rfl (Y_eq (k := .i64) (a := r_3) (b := 0) rfl rfl rfl) ?_
    refine rw_nil ?_
    refine cw_cond (b := (r_3 == 0)) rfl (fun hb2 => ?_) (fun hb2 => ?_)
    · skip
      have hF3 := ct hF2 hb2
      refine cw_exit rfl ?_
      refine cw_region ?_
      refine sq 21 rfl rfl (Y_move (v := .int .i64 y) rfl (hf.get 5 2 rfl)) ?_
      refine sq 22 rfl rfl (Y_add (k := .i64) (a := y) (b := 1) rfl rfl rfl) ?_
      refine sq 5 rfl rfl (Y_assign (v := .int .i64 (IntKind.i64.wrap (y + 1))) rfl rfl) ?_
      refine rw_nil ?_
      obtain rfl := some_inj hF3
      exact ⟨k_1, Nat.lt_succ_self _, (IntKind.i64.wrap (y + 1)), (FF.cons (hf.get 1 0 rfl) (FF.cons (hf.get 2 1 rfl) (FF.cons rfl FF.nil))), (hS4.sel [0, 1] rfl rfl), hL1⟩
    · skip
      have hF4 := cf' hF2 hb2
      refine cw_skip ?_
      refine cw_seq ?_
      refine cw_region ?_
      refine sq 32 rfl rfl (Y_loadA (B := some ⟨b, 0, none⟩) (i := 0) (cs := [.int .i64 p.Ins, .int .i64 p.Vars, .int .i64 p.Root, .int .i64 p.Phase, .slice B p.Terms.length c, .slice B1 p.Out.length c1]) (vs := [.int .i64 p.Ins, .int .i64 p.Vars, .int .i64 p.Root, .int .i64 p.Phase, .slice B p.Terms.length c, .slice B1 p.Out.length c1]) k_ag_30 k_sz_30_6 rfl (hf.get 1 0 rfl) (hS4.cf (i := 0) rfl) rfl rfl) ?_
      refine sq 33 rfl rfl (Y_move (v := .int .i64 y) rfl (hf.get 5 2 rfl)) ?_
      obtain ⟨r_6, hc1, hF4⟩ := bind_inv hF4
      refine sc 34 rfl rfl (Yc_func (g := 37) (vs := [.agg #[.int .i64 p.Ins, .int .i64 p.Vars, .int .i64 p.Root, .int .i64 p.Phase, .slice B p.Terms.length c, .slice B1 p.Out.length c1], .int .i64 y]) k_call_37 rfl (mc rfl (mc rfl mn)) (c_spec_l21Without p y B c p.Terms.length B1 c1 p.Out.length _ rfl rfl (hS4.inn0 [(true, 0), (true, 1)] rfl) hc1)) ?_
      rintro _ w_3 ⟨B4, c4, B5, c5, rfl, hd1⟩
      have hS5 := hS4.out0 hd1
      have hS5 : ST w0 [] _ [⟨some ⟨b, 0, none⟩, 30, [.int .i64 p.Ins, .int .i64 p.Vars, .int .i64 p.Root, .int .i64 p.Phase, .slice B p.Terms.length c, .slice B1 p.Out.length c1], 6⟩, ⟨some ⟨b1, 0, none⟩, 30, [.int .i64 0, .int .i64 0, .int .i64 0, .int .i64 0, .slice none 0 0, .slice none 0 0], 6⟩, ⟨B4, 56, (r_6.Terms.flatMap enc_Term), c4 * 2⟩, ⟨B5, 44, (r_6.Out.flatMap enc_Affine), c5 * 2⟩] [⟨B, (p.Terms.flatMap enc_Term)⟩, ⟨B1, (p.Out.flatMap enc_Affine)⟩] := hS5
      refine ss 9 rfl rfl (Ys_alloc (T := 30) (cs := [.int .i64 0, .int .i64 0, .int .i64 0, .int .i64 0, .slice none 0 0, .slice none 0 0]) (m := 6) hS5 k_zero_30 rfl rfl rfl) ?_
      rintro _ w_4 ⟨b2, rfl, hS6⟩
      have hS6 : ST w0 [] _ [⟨some ⟨b, 0, none⟩, 30, [.int .i64 p.Ins, .int .i64 p.Vars, .int .i64 p.Root, .int .i64 p.Phase, .slice B p.Terms.length c, .slice B1 p.Out.length c1], 6⟩, ⟨some ⟨b1, 0, none⟩, 30, [.int .i64 0, .int .i64 0, .int .i64 0, .int .i64 0, .slice none 0 0, .slice none 0 0], 6⟩, ⟨B4, 56, (r_6.Terms.flatMap enc_Term), c4 * 2⟩, ⟨B5, 44, (r_6.Out.flatMap enc_Affine), c5 * 2⟩, ⟨some ⟨b2, 0, none⟩, 30, [.int .i64 0, .int .i64 0, .int .i64 0, .int .i64 0, .slice none 0 0, .slice none 0 0], 6⟩] [⟨B, (p.Terms.flatMap enc_Term)⟩, ⟨B1, (p.Out.flatMap enc_Affine)⟩] := hS6
      refine ss0 rfl rfl (Ys_store (i := 4) (s := 6) (B := some ⟨b2, 0, none⟩) (T' := 30) (v := .agg #[.int .i64 r_6.Ins, .int .i64 r_6.Vars, .int .i64 r_6.Root, .int .i64 r_6.Phase, .slice B4 r_6.Terms.length c4, .slice B5 r_6.Out.length c5]) (vs := [.int .i64 r_6.Ins, .int .i64 r_6.Vars, .int .i64 r_6.Root, .int .i64 r_6.Phase, .slice B4 r_6.Terms.length c4, .slice B5 r_6.Out.length c5]) (k := 0) (cs' := [.int .i64 r_6.Ins, .int .i64 r_6.Vars, .int .i64 r_6.Root, .int .i64 r_6.Phase, .slice B4 r_6.Terms.length c4, .slice B5 r_6.Out.length c5]) hS6 k_sz_30_6 rfl rfl rfl rfl rfl rfl rfl (Nat.le_of_ble_eq_true rfl) rfl rfl) ?_
      rintro _ w_5 ⟨rfl, hS7⟩
      have hS7 : ST w0 [] _ [⟨some ⟨b, 0, none⟩, 30, [.int .i64 p.Ins, .int .i64 p.Vars, .int .i64 p.Root, .int .i64 p.Phase, .slice B p.Terms.length c, .slice B1 p.Out.length c1], 6⟩, ⟨some ⟨b1, 0, none⟩, 30, [.int .i64 0, .int .i64 0, .int .i64 0, .int .i64 0, .slice none 0 0, .slice none 0 0], 6⟩, ⟨B4, 56, (r_6.Terms.flatMap enc_Term), c4 * 2⟩, ⟨B5, 44, (r_6.Out.flatMap enc_Affine), c5 * 2⟩, ⟨some ⟨b2, 0, none⟩, 30, [.int .i64 r_6.Ins, .int .i64 r_6.Vars, .int .i64 r_6.Root, .int .i64 r_6.Phase, .slice B4 r_6.Terms.length c4, .slice B5 r_6.Out.length c5], 6⟩] [⟨B, (p.Terms.flatMap enc_Term)⟩, ⟨B1, (p.Out.flatMap enc_Affine)⟩] := hS7
      refine rw_nil ?_
      refine cw_seq ?_
      refine cw_region ?_
      refine sq 35 rfl rfl (Y_move (v := .int .i64 r_5) rfl rfl) ?_
      refine sq 36 rfl rfl (Y_move (v := .int .i64 y) rfl (hf.get 5 2 rfl)) ?_
      obtain ⟨r_7, hc2, hF4⟩ := bind_inv hF4
      refine sc 37 rfl rfl (Yc_func (g := 38) (vs := [.int .i64 r_5, .int .i64 y]) k_call_38 rfl (mc rfl (mc rfl mn)) (c_spec_l21Drop r_5 y _  (hS7.inn0 [] rfl) hc2)) ?_
      rintro _ w_6 ⟨rfl, hd2⟩
      have hS8 := hS7.out00 hd2
      have hS8 : ST w0 [] _ [⟨some ⟨b, 0, none⟩, 30, [.int .i64 p.Ins, .int .i64 p.Vars, .int .i64 p.Root, .int .i64 p.Phase, .slice B p.Terms.length c, .slice B1 p.Out.length c1], 6⟩, ⟨some ⟨b1, 0, none⟩, 30, [.int .i64 0, .int .i64 0, .int .i64 0, .int .i64 0, .slice none 0 0, .slice none 0 0], 6⟩, ⟨B4, 56, (r_6.Terms.flatMap enc_Term), c4 * 2⟩, ⟨B5, 44, (r_6.Out.flatMap enc_Affine), c5 * 2⟩, ⟨some ⟨b2, 0, none⟩, 30, [.int .i64 r_6.Ins, .int .i64 r_6.Vars, .int .i64 r_6.Root, .int .i64 r_6.Phase, .slice B4 r_6.Terms.length c4, .slice B5 r_6.Out.length c5], 6⟩] [⟨B, (p.Terms.flatMap enc_Term)⟩, ⟨B1, (p.Out.flatMap enc_Affine)⟩] := hS8
      refine sq 8 rfl rfl (Y_assign (v := .int .i64 r_7) rfl rfl) ?_
      refine rw_nil ?_
      refine cw_seq ?_
      obtain ⟨z1, hz1, hF5⟩ := bind_inv hF4
      refine cw_mid (fun f w => ∃ (Ins : Int) (Vars : Int) (Root : Int) (Phase : Int) (Terms : List TTerm) (Out : List TAffine) (B6 : Option Addr) (c6 : Nat) (B7 : Option Addr) (c7 : Nat), (Ins, Vars, Root, Phase, Terms, Out) = z1 ∧ FF f [(2, pt (some ⟨b1, 0, none⟩) 0), (6, .int .i64 r_3), (9, pt (some ⟨b2, 0, none⟩) 0)] ∧ ST w0 [] w [⟨some ⟨b1, 0, none⟩, 30, [.int .i64 0, .int .i64 0, .int .i64 0, .int .i64 0, .slice none 0 0, .slice none 0 0], 6⟩, ⟨some ⟨b2, 0, none⟩, 30, [.int .i64 Ins, .int .i64 Vars, .int .i64 Root, .int .i64 Phase, .slice B6 Terms.length c6, .slice B7 Out.length c7], 6⟩, ⟨B6, 56, (Terms.flatMap enc_Term), c6 * 2⟩, ⟨B7, 44, (Out.flatMap enc_Affine), c7 * 2⟩] [⟨B, (p.Terms.flatMap enc_Term)⟩, ⟨B1, (p.Out.flatMap enc_Affine)⟩]) ?_ ?_
      · skip
        refine cw_seq ?_
        refine cw_region ?_
        refine sq 38 rfl rfl (Y_move (v := .int .i64 r_3) rfl rfl) ?_
        refine rw_nil ?_
        refine cw_block ?_
        refine cw_seq ?_
        refine cw_region ?_
        refine sq 66 rfl rfl (Y_eq (k := .i64) (a := r_3) (b := 1) rfl rfl rfl) ?_
        refine sq 65 rfl rfl (Y_assign (v := .bool (r_3 == 1)) rfl rfl) ?_
        refine rw_nil ?_
        refine cw_cond (b := (r_3 == 1)) rfl (fun hb3 => ?_) (fun hb3 => ?_)
        · skip
          have hF6 := ct hz1 hb3
          refine cw_region ?_
          refine sq 67 rfl rfl (Y_fieldAddr (B := some ⟨b2, 0, none⟩) (i := 0) (s := 0) k_fd_30_2_2_3 k_sz_3_1 rfl rfl) ?_
          refine sq 68 rfl rfl (Y_load1 (B := some ⟨b2, 0, none⟩) (i := 2) (cs := [.int .i64 r_6.Ins, .int .i64 r_6.Vars, .int .i64 r_6.Root, .int .i64 r_6.Phase, .slice B4 r_6.Terms.length c4, .slice B5 r_6.Out.length c5]) (v := .int .i64 r_6.Root) k_sc_3 rfl rfl (hS8.cf (i := 4) rfl) rfl) ?_
          refine sq 69 rfl rfl (Y_sub (k := .i64) (a := r_6.Root) (b := 2) rfl rfl rfl) ?_
          refine sq 70 rfl rfl (Y_fieldAddr (B := some ⟨b2, 0, none⟩) (i := 0) (s := 0) k_fd_30_2_2_3 k_sz_3_1 rfl rfl) ?_
          refine ss0 rfl rfl (Ys_store (i := 4) (s := 1) (B := some ⟨b2, 0, none⟩) (T' := 30) (v := .int .i64 (IntKind.i64.wrap (r_6.Root - 2))) (vs := [.int .i64 (IntKind.i64.wrap (r_6.Root - 2))]) (k := 2) (cs' := [.int .i64 r_6.Ins, .int .i64 r_6.Vars, .int .i64 (IntKind.i64.wrap (r_6.Root - 2)), .int .i64 r_6.Phase, .slice B4 r_6.Terms.length c4, .slice B5 r_6.Out.length c5]) hS8 k_sz_3_1 rfl rfl rfl rfl rfl rfl rfl (Nat.le_of_ble_eq_true rfl) rfl rfl) ?_
          rintro _ w_7 ⟨rfl, hS10⟩
          have hS10 : ST w0 [] _ [⟨some ⟨b, 0, none⟩, 30, [.int .i64 p.Ins, .int .i64 p.Vars, .int .i64 p.Root, .int .i64 p.Phase, .slice B p.Terms.length c, .slice B1 p.Out.length c1], 6⟩, ⟨some ⟨b1, 0, none⟩, 30, [.int .i64 0, .int .i64 0, .int .i64 0, .int .i64 0, .slice none 0 0, .slice none 0 0], 6⟩, ⟨B4, 56, (r_6.Terms.flatMap enc_Term), c4 * 2⟩, ⟨B5, 44, (r_6.Out.flatMap enc_Affine), c5 * 2⟩, ⟨some ⟨b2, 0, none⟩, 30, [.int .i64 r_6.Ins, .int .i64 r_6.Vars, .int .i64 (IntKind.i64.wrap (r_6.Root - 2)), .int .i64 r_6.Phase, .slice B4 r_6.Terms.length c4, .slice B5 r_6.Out.length c5], 6⟩] [⟨B, (p.Terms.flatMap enc_Term)⟩, ⟨B1, (p.Out.flatMap enc_Affine)⟩] := hS10
          refine rw_nil ?_
          exact ⟨r_6.Ins, r_6.Vars, (IntKind.i64.wrap (r_6.Root - 2)), r_6.Phase, r_6.Terms, r_6.Out, B4, c4, B5, c5, (some_inj hF6), (FF.cons (hf.get 2 1 rfl) (FF.cons rfl (FF.cons rfl FF.nil))), (hS10.sel [1, 4, 2, 3] rfl rfl)⟩
        · skip
          have hF7 := cf' hz1 hb3
          refine cw_seq ?_
          refine cw_region ?_
          refine sq 72 rfl rfl (Y_eq (k := .i64) (a := r_3) (b := 2) rfl rfl rfl) ?_
          refine sq 71 rfl rfl (Y_assign (v := .bool (r_3 == 2)) rfl rfl) ?_
          refine rw_nil ?_
          refine cw_cond (b := (r_3 == 2)) rfl (fun hb4 => ?_) (fun hb4 => ?_)
          · skip
            have hF8 := ct hF7 hb4
            refine cw_seq ?_
            refine cw_region ?_
            refine sq 73 rfl rfl (Y_fieldAddr (B := some ⟨b2, 0, none⟩) (i := 0) (s := 0) k_fd_30_2_2_3 k_sz_3_1 rfl rfl) ?_
            refine sq 74 rfl rfl (Y_load1 (B := some ⟨b2, 0, none⟩) (i := 2) (cs := [.int .i64 r_6.Ins, .int .i64 r_6.Vars, .int .i64 r_6.Root, .int .i64 r_6.Phase, .slice B4 r_6.Terms.length c4, .slice B5 r_6.Out.length c5]) (v := .int .i64 r_6.Root) k_sc_3 rfl rfl (hS8.cf (i := 4) rfl) rfl) ?_
            refine sq 75 rfl rfl (Y_sub (k := .i64) (a := r_6.Root) (b := 1) rfl rfl rfl) ?_
            refine sq 76 rfl rfl (Y_fieldAddr (B := some ⟨b2, 0, none⟩) (i := 0) (s := 0) k_fd_30_2_2_3 k_sz_3_1 rfl rfl) ?_
            refine ss0 rfl rfl (Ys_store (i := 4) (s := 1) (B := some ⟨b2, 0, none⟩) (T' := 30) (v := .int .i64 (IntKind.i64.wrap (r_6.Root - 1))) (vs := [.int .i64 (IntKind.i64.wrap (r_6.Root - 1))]) (k := 2) (cs' := [.int .i64 r_6.Ins, .int .i64 r_6.Vars, .int .i64 (IntKind.i64.wrap (r_6.Root - 1)), .int .i64 r_6.Phase, .slice B4 r_6.Terms.length c4, .slice B5 r_6.Out.length c5]) hS8 k_sz_3_1 rfl rfl rfl rfl rfl rfl rfl (Nat.le_of_ble_eq_true rfl) rfl rfl) ?_
            rintro _ w_8 ⟨rfl, hS11⟩
            have hS11 : ST w0 [] _ [⟨some ⟨b, 0, none⟩, 30, [.int .i64 p.Ins, .int .i64 p.Vars, .int .i64 p.Root, .int .i64 p.Phase, .slice B p.Terms.length c, .slice B1 p.Out.length c1], 6⟩, ⟨some ⟨b1, 0, none⟩, 30, [.int .i64 0, .int .i64 0, .int .i64 0, .int .i64 0, .slice none 0 0, .slice none 0 0], 6⟩, ⟨B4, 56, (r_6.Terms.flatMap enc_Term), c4 * 2⟩, ⟨B5, 44, (r_6.Out.flatMap enc_Affine), c5 * 2⟩, ⟨some ⟨b2, 0, none⟩, 30, [.int .i64 r_6.Ins, .int .i64 r_6.Vars, .int .i64 (IntKind.i64.wrap (r_6.Root - 1)), .int .i64 r_6.Phase, .slice B4 r_6.Terms.length c4, .slice B5 r_6.Out.length c5], 6⟩] [⟨B, (p.Terms.flatMap enc_Term)⟩, ⟨B1, (p.Out.flatMap enc_Affine)⟩] := hS11
            refine rw_nil ?_
            refine cw_seq ?_
            refine cw_region ?_
            refine sq 77 rfl rfl (Y_fieldAddr (B := some ⟨b2, 0, none⟩) (i := 0) (s := 0) k_fd_30_3_3_3 k_sz_3_1 rfl rfl) ?_
            refine sq 78 rfl rfl (Y_load1 (B := some ⟨b2, 0, none⟩) (i := 3) (cs := [.int .i64 r_6.Ins, .int .i64 r_6.Vars, .int .i64 (IntKind.i64.wrap (r_6.Root - 1)), .int .i64 r_6.Phase, .slice B4 r_6.Terms.length c4, .slice B5 r_6.Out.length c5]) (v := .int .i64 r_6.Phase) k_sc_3 rfl rfl (hS11.cf (i := 4) rfl) rfl) ?_
            refine sq 79 rfl rfl (Y_fieldAddr (B := some ⟨b2, 0, none⟩) (i := 0) (s := 0) k_fd_30_4_4_27 k_sz_27_1 rfl rfl) ?_
            refine sq 80 rfl rfl (Y_load1 (B := some ⟨b2, 0, none⟩) (i := 4) (cs := [.int .i64 r_6.Ins, .int .i64 r_6.Vars, .int .i64 (IntKind.i64.wrap (r_6.Root - 1)), .int .i64 r_6.Phase, .slice B4 r_6.Terms.length c4, .slice B5 r_6.Out.length c5]) (v := .slice B4 r_6.Terms.length c4) k_sc_27 rfl rfl (hS11.cf (i := 4) rfl) rfl) ?_
            refine sq 81 rfl rfl (Y_buildS (zs := [.int .i64 0, .slice none 0 0]) (vs := [(0, .int .i64 r_6.Phase), (1, .slice B4 r_6.Terms.length c4)]) (cs := [.int .i64 r_6.Phase, .slice B4 r_6.Terms.length c4]) k_pl_68 k_zero_68 rfl (mpc rfl (mpc rfl mpn)) rfl) ?_
            refine ss 82 rfl rfl (Ys_box (T := 68) (v := .agg #[.int .i64 r_6.Phase, .slice B4 r_6.Terms.length c4]) (cs := [.int .i64 r_6.Phase, .slice B4 r_6.Terms.length c4]) (m := 2) hS11 rfl rfl rfl rfl) ?_
            rintro _ w_9 ⟨b3, rfl, hS12⟩
            have hS12 : ST w0 [] _ [⟨some ⟨b, 0, none⟩, 30, [.int .i64 p.Ins, .int .i64 p.Vars, .int .i64 p.Root, .int .i64 p.Phase, .slice B p.Terms.length c, .slice B1 p.Out.length c1], 6⟩, ⟨some ⟨b1, 0, none⟩, 30, [.int .i64 0, .int .i64 0, .int .i64 0, .int .i64 0, .slice none 0 0, .slice none 0 0], 6⟩, ⟨B4, 56, (r_6.Terms.flatMap enc_Term), c4 * 2⟩, ⟨B5, 44, (r_6.Out.flatMap enc_Affine), c5 * 2⟩, ⟨some ⟨b2, 0, none⟩, 30, [.int .i64 r_6.Ins, .int .i64 r_6.Vars, .int .i64 (IntKind.i64.wrap (r_6.Root - 1)), .int .i64 r_6.Phase, .slice B4 r_6.Terms.length c4, .slice B5 r_6.Out.length c5], 6⟩, ⟨some ⟨b3, 0, none⟩, 68, [.int .i64 r_6.Phase, .slice B4 r_6.Terms.length c4], 2⟩] [⟨B, (p.Terms.flatMap enc_Term)⟩, ⟨B1, (p.Out.flatMap enc_Affine)⟩] := hS12
            refine sq 10 rfl rfl (Y_assign (v := pt (some ⟨b3, 0, none⟩) 0) rfl rfl) ?_
            refine rw_nil ?_
            refine cw_seq ?_
            obtain ⟨z2, hz2, hF9⟩ := bind_inv hF8
            refine cw_mid (fun f w => ∃ (phase : Int) (terms : List TTerm) (B8 : Option Addr) (c8 : Nat), (phase, terms) = z2 ∧ FF f [(2, pt (some ⟨b1, 0, none⟩) 0), (6, .int .i64 r_3), (9, pt (some ⟨b2, 0, none⟩) 0), (10, pt (some ⟨b3, 0, none⟩) 0)] ∧ ST w0 [] w [⟨some ⟨b1, 0, none⟩, 30, [.int .i64 0, .int .i64 0, .int .i64 0, .int .i64 0, .slice none 0 0, .slice none 0 0], 6⟩, ⟨some ⟨b2, 0, none⟩, 30, [.int .i64 r_6.Ins, .int .i64 r_6.Vars, .int .i64 (IntKind.i64.wrap (r_6.Root - 1)), .int .i64 r_6.Phase, .slice B4 r_6.Terms.length c4, .slice B5 r_6.Out.length c5], 6⟩, ⟨B5, 44, (r_6.Out.flatMap enc_Affine), c5 * 2⟩, ⟨some ⟨b3, 0, none⟩, 68, [.int .i64 phase, .slice B8 terms.length c8], 2⟩, ⟨B8, 56, (terms.flatMap enc_Term), c8 * 2⟩] [⟨B, (p.Terms.flatMap enc_Term)⟩, ⟨B1, (p.Out.flatMap enc_Affine)⟩]) ?_ ?_
            · skip
              refine cw_seq ?_
              refine cw_region ?_
              refine sq 83 rfl rfl (Y_move (v := .int .i64 r_4) rfl rfl) ?_
              refine sq 84 rfl rfl (Y_eq (k := .i64) (a := r_4) (b := 2) rfl rfl rfl) ?_
              refine rw_nil ?_
              refine cw_cond (b := (r_4 == 2)) rfl (fun hb5 => ?_) (fun hb5 => ?_)
              · skip
                have hF10 := ct hz2 hb5
                refine cw_seq ?_
                refine cw_region ?_
                refine sq 85 rfl rfl (Y_move (v := pt (some ⟨b3, 0, none⟩) 0) rfl rfl) ?_
                obtain ⟨m, hc3, hF10⟩ := bind_inv hF10
                have hS14 := hS12.sel [0, 1, 3, 4, 5, 2] rfl rfl
                refine sc 86 rfl rfl (Yc_func (g := 39) (vs := [pt (some ⟨b3, 0, none⟩) 0, .int .i64 0, .int .i64 1]) k_call_39 rfl (mc rfl (mc rfl (mc rfl mn))) (c_spec_l21Sum_add (Tl21Sum.mk r_6.Phase r_6.Terms) 0 1 (some ⟨b3, 0, none⟩) B4 c4 r_6.Terms.length _ rfl (hS14.lencap (i := 5) rfl (fm_lenn (l := r_6.Terms) enc_Term_len rfl) rfl rfl) (hS14.inn [false, false, false, false, true, true] rfl [] rfl) hc3)) ?_
                rintro _ w_10 ⟨B9, c9, rfl, hd3⟩
                have hS15 := hS14.out [false, false, false, false, true, true] rfl hd3
                have hS15 : ST w0 [] _ [⟨some ⟨b, 0, none⟩, 30, [.int .i64 p.Ins, .int .i64 p.Vars, .int .i64 p.Root, .int .i64 p.Phase, .slice B p.Terms.length c, .slice B1 p.Out.length c1], 6⟩, ⟨some ⟨b1, 0, none⟩, 30, [.int .i64 0, .int .i64 0, .int .i64 0, .int .i64 0, .slice none 0 0, .slice none 0 0], 6⟩, ⟨B5, 44, (r_6.Out.flatMap enc_Affine), c5 * 2⟩, ⟨some ⟨b2, 0, none⟩, 30, [.int .i64 r_6.Ins, .int .i64 r_6.Vars, .int .i64 (IntKind.i64.wrap (r_6.Root - 1)), .int .i64 r_6.Phase, .slice B4 r_6.Terms.length c4, .slice B5 r_6.Out.length c5], 6⟩, ⟨some ⟨b3, 0, none⟩, 68, [.int .i64 m.phase, .slice B9 m.terms.length c9], 2⟩, ⟨B9, 56, (m.terms.flatMap enc_Term), c9 * 2⟩] [⟨B, (p.Terms.flatMap enc_Term)⟩, ⟨B1, (p.Out.flatMap enc_Affine)⟩] := hS15
                refine rw_nil ?_
                refine cw_region ?_
                refine sq 87 rfl rfl (Y_move (v := pt (some ⟨b3, 0, none⟩) 0) rfl rfl) ?_
                refine sq 88 rfl rfl (Y_move (v := .int .i64 r_7) rfl rfl) ?_
                refine sq 89 rfl rfl (Y_buildS (zs := [.int .i64 0, .int .i64 0]) (vs := [(0, .int .i64 r_7)]) (cs := [.int .i64 r_7, .int .i64 0]) k_pl_44 k_zero_44 rfl (mpc rfl mpn) rfl) ?_
                obtain ⟨m1, hc4, hF10⟩ := bind_inv hF10
                refine sc 90 rfl rfl (Yc_func (g := 40) (vs := [pt (some ⟨b3, 0, none⟩) 0, .int .i64 0, .int .i64 6, .agg #[.int .i64 r_7, .int .i64 0]]) k_call_40 rfl (mc rfl (mc rfl (mc rfl (mc rfl mn)))) (c_spec_l21Sum_times m 0 6 (TAffine.mk r_7 0) (some ⟨b3, 0, none⟩) B9 c9 m.terms.length _ rfl (hS15.inn [false, false, false, false, true, true] rfl [] rfl) hc4)) ?_
                rintro _ w_11 ⟨B10, c10, rfl, hd4⟩
                have hS16 := hS15.out [false, false, false, false, true, true] rfl hd4
                have hS16 : ST w0 [] _ [⟨some ⟨b, 0, none⟩, 30, [.int .i64 p.Ins, .int .i64 p.Vars, .int .i64 p.Root, .int .i64 p.Phase, .slice B p.Terms.length c, .slice B1 p.Out.length c1], 6⟩, ⟨some ⟨b1, 0, none⟩, 30, [.int .i64 0, .int .i64 0, .int .i64 0, .int .i64 0, .slice none 0 0, .slice none 0 0], 6⟩, ⟨B5, 44, (r_6.Out.flatMap enc_Affine), c5 * 2⟩, ⟨some ⟨b2, 0, none⟩, 30, [.int .i64 r_6.Ins, .int .i64 r_6.Vars, .int .i64 (IntKind.i64.wrap (r_6.Root - 1)), .int .i64 r_6.Phase, .slice B4 r_6.Terms.length c4, .slice B5 r_6.Out.length c5], 6⟩, ⟨some ⟨b3, 0, none⟩, 68, [.int .i64 m1.phase, .slice B10 m1.terms.length c10], 2⟩, ⟨B10, 56, (m1.terms.flatMap enc_Term), c10 * 2⟩] [⟨B, (p.Terms.flatMap enc_Term)⟩, ⟨B1, (p.Out.flatMap enc_Affine)⟩] := hS16
                refine rw_nil ?_
                exact ⟨m1.phase, m1.terms, B10, c10, (some_inj hF10), (FF.cons (hf.get 2 1 rfl) (FF.cons rfl (FF.cons rfl (FF.cons rfl FF.nil)))), (hS16.sel [1, 3, 2, 4, 5] rfl rfl)⟩
              · skip
                have hF11 := cf' hz2 hb5
                refine cw_seq ?_
                refine cw_region ?_
                refine sq 91 rfl rfl (Y_move (v := pt (some ⟨b3, 0, none⟩) 0) rfl rfl) ?_
                obtain ⟨m2, hc5, hF11⟩ := bind_inv hF11
                have hS17 := hS12.sel [0, 1, 3, 4, 5, 2] rfl rfl
                refine sc 92 rfl rfl (Yc_func (g := 39) (vs := [pt (some ⟨b3, 0, none⟩) 0, .int .i64 0, .int .i64 7]) k_call_39 rfl (mc rfl (mc rfl (mc rfl mn))) (c_spec_l21Sum_add (Tl21Sum.mk r_6.Phase r_6.Terms) 0 7 (some ⟨b3, 0, none⟩) B4 c4 r_6.Terms.length _ rfl (hS17.lencap (i := 5) rfl (fm_lenn (l := r_6.Terms) enc_Term_len rfl) rfl rfl) (hS17.inn [false, false, false, false, true, true] rfl [] rfl) hc5)) ?_
                rintro _ w_12 ⟨B11, c11, rfl, hd5⟩
                have hS18 := hS17.out [false, false, false, false, true, true] rfl hd5
                have hS18 : ST w0 [] _ [⟨some ⟨b, 0, none⟩, 30, [.int .i64 p.Ins, .int .i64 p.Vars, .int .i64 p.Root, .int .i64 p.Phase, .slice B p.Terms.length c, .slice B1 p.Out.length c1], 6⟩, ⟨some ⟨b1, 0, none⟩, 30, [.int .i64 0, .int .i64 0, .int .i64 0, .int .i64 0, .slice none 0 0, .slice none 0 0], 6⟩, ⟨B5, 44, (r_6.Out.flatMap enc_Affine), c5 * 2⟩, ⟨some ⟨b2, 0, none⟩, 30, [.int .i64 r_6.Ins, .int .i64 r_6.Vars, .int .i64 (IntKind.i64.wrap (r_6.Root - 1)), .int .i64 r_6.Phase, .slice B4 r_6.Terms.length c4, .slice B5 r_6.Out.length c5], 6⟩, ⟨some ⟨b3, 0, none⟩, 68, [.int .i64 m2.phase, .slice B11 m2.terms.length c11], 2⟩, ⟨B11, 56, (m2.terms.flatMap enc_Term), c11 * 2⟩] [⟨B, (p.Terms.flatMap enc_Term)⟩, ⟨B1, (p.Out.flatMap enc_Affine)⟩] := hS18
                refine rw_nil ?_
                refine cw_region ?_
                refine sq 93 rfl rfl (Y_move (v := pt (some ⟨b3, 0, none⟩) 0) rfl rfl) ?_
                refine sq 94 rfl rfl (Y_move (v := .int .i64 r_7) rfl rfl) ?_
                refine sq 95 rfl rfl (Y_buildS (zs := [.int .i64 0, .int .i64 0]) (vs := [(0, .int .i64 r_7)]) (cs := [.int .i64 r_7, .int .i64 0]) k_pl_44 k_zero_44 rfl (mpc rfl mpn) rfl) ?_
                obtain ⟨m3, hc6, hF11⟩ := bind_inv hF11
                refine sc 96 rfl rfl (Yc_func (g := 40) (vs := [pt (some ⟨b3, 0, none⟩) 0, .int .i64 0, .int .i64 2, .agg #[.int .i64 r_7, .int .i64 0]]) k_call_40 rfl (mc rfl (mc rfl (mc rfl (mc rfl mn)))) (c_spec_l21Sum_times m2 0 2 (TAffine.mk r_7 0) (some ⟨b3, 0, none⟩) B11 c11 m2.terms.length _ rfl (hS18.inn [false, false, false, false, true, true] rfl [] rfl) hc6)) ?_
                rintro _ w_13 ⟨B12, c12, rfl, hd6⟩
                have hS19 := hS18.out [false, false, false, false, true, true] rfl hd6
                have hS19 : ST w0 [] _ [⟨some ⟨b, 0, none⟩, 30, [.int .i64 p.Ins, .int .i64 p.Vars, .int .i64 p.Root, .int .i64 p.Phase, .slice B p.Terms.length c, .slice B1 p.Out.length c1], 6⟩, ⟨some ⟨b1, 0, none⟩, 30, [.int .i64 0, .int .i64 0, .int .i64 0, .int .i64 0, .slice none 0 0, .slice none 0 0], 6⟩, ⟨B5, 44, (r_6.Out.flatMap enc_Affine), c5 * 2⟩, ⟨some ⟨b2, 0, none⟩, 30, [.int .i64 r_6.Ins, .int .i64 r_6.Vars, .int .i64 (IntKind.i64.wrap (r_6.Root - 1)), .int .i64 r_6.Phase, .slice B4 r_6.Terms.length c4, .slice B5 r_6.Out.length c5], 6⟩, ⟨some ⟨b3, 0, none⟩, 68, [.int .i64 m3.phase, .slice B12 m3.terms.length c12], 2⟩, ⟨B12, 56, (m3.terms.flatMap enc_Term), c12 * 2⟩] [⟨B, (p.Terms.flatMap enc_Term)⟩, ⟨B1, (p.Out.flatMap enc_Affine)⟩] := hS19
                refine rw_nil ?_
                exact ⟨m3.phase, m3.terms, B12, c12, (some_inj hF11), (FF.cons (hf.get 2 1 rfl) (FF.cons rfl (FF.cons rfl (FF.cons rfl FF.nil)))), (hS19.sel [1, 3, 2, 4, 5] rfl rfl)⟩
            rintro f w ⟨phase, terms, B8, c8, rfl, hf2, hS13⟩
            refine cw_seq ?_
            refine cw_region ?_
            refine sq 97 rfl rfl (Y_move (v := pt (some ⟨b3, 0, none⟩) 0) rfl (hf2.get 10 3 rfl)) ?_
            refine sq 98 rfl rfl (Y_nilCheck (B := some ⟨b3, 0, none⟩) (i := 0) rfl rfl) ?_
            refine sq 99 rfl rfl (Y_fieldAddr (B := some ⟨b3, 0, none⟩) (i := 0) (s := 0) k_fd_68_0_0_3 k_sz_3_1 rfl rfl) ?_
            refine sq 100 rfl rfl (Y_load1 (B := some ⟨b3, 0, none⟩) (i := 0) (cs := [.int .i64 phase, .slice B8 terms.length c8]) (v := .int .i64 phase) k_sc_3 rfl rfl (hS13.cf (i := 3) rfl) rfl) ?_
            refine sq 101 rfl rfl (Y_fieldAddr (B := some ⟨b2, 0, none⟩) (i := 0) (s := 0) k_fd_30_3_3_3 k_sz_3_1 rfl (hf2.get 9 2 rfl)) ?_
            refine ss0 rfl rfl (Ys_store (i := 1) (s := 1) (B := some ⟨b2, 0, none⟩) (T' := 30) (v := .int .i64 phase) (vs := [.int .i64 phase]) (k := 3) (cs' := [.int .i64 r_6.Ins, .int .i64 r_6.Vars, .int .i64 (IntKind.i64.wrap (r_6.Root - 1)), .int .i64 phase, .slice B4 r_6.Terms.length c4, .slice B5 r_6.Out.length c5]) hS13 k_sz_3_1 rfl rfl rfl rfl rfl rfl rfl (Nat.le_of_ble_eq_true rfl) rfl rfl) ?_
            rintro _ w_14 ⟨rfl, hS20⟩
            have hS20 : ST w0 [] _ [⟨some ⟨b1, 0, none⟩, 30, [.int .i64 0, .int .i64 0, .int .i64 0, .int .i64 0, .slice none 0 0, .slice none 0 0], 6⟩, ⟨some ⟨b2, 0, none⟩, 30, [.int .i64 r_6.Ins, .int .i64 r_6.Vars, .int .i64 (IntKind.i64.wrap (r_6.Root - 1)), .int .i64 phase, .slice B4 r_6.Terms.length c4, .slice B5 r_6.Out.length c5], 6⟩, ⟨B5, 44, (r_6.Out.flatMap enc_Affine), c5 * 2⟩, ⟨some ⟨b3, 0, none⟩, 68, [.int .i64 phase, .slice B8 terms.length c8], 2⟩, ⟨B8, 56, (terms.flatMap enc_Term), c8 * 2⟩] [⟨B, (p.Terms.flatMap enc_Term)⟩, ⟨B1, (p.Out.flatMap enc_Affine)⟩] := hS20
            refine rw_nil ?_
            refine cw_region ?_
            refine sq 102 rfl rfl (Y_move (v := pt (some ⟨b3, 0, none⟩) 0) rfl (hf2.get 10 3 rfl)) ?_
            refine sq 103 rfl rfl (Y_nilCheck (B := some ⟨b3, 0, none⟩) (i := 0) rfl rfl) ?_
            refine sq 104 rfl rfl (Y_fieldAddr (B := some ⟨b3, 0, none⟩) (i := 0) (s := 0) k_fd_68_1_1_27 k_sz_27_1 rfl rfl) ?_
            refine sq 105 rfl rfl (Y_load1 (B := some ⟨b3, 0, none⟩) (i := 1) (cs := [.int .i64 phase, .slice B8 terms.length c8]) (v := .slice B8 terms.length c8) k_sc_27 rfl rfl (hS20.cf (i := 3) rfl) rfl) ?_
            refine sq 106 rfl rfl (Y_fieldAddr (B := some ⟨b2, 0, none⟩) (i := 0) (s := 0) k_fd_30_4_4_27 k_sz_27_1 rfl (hf2.get 9 2 rfl)) ?_
            refine ss0 rfl rfl (Ys_store (i := 1) (s := 1) (B := some ⟨b2, 0, none⟩) (T' := 30) (v := .slice B8 terms.length c8) (vs := [.slice B8 terms.length c8]) (k := 4) (cs' := [.int .i64 r_6.Ins, .int .i64 r_6.Vars, .int .i64 (IntKind.i64.wrap (r_6.Root - 1)), .int .i64 phase, .slice B8 terms.length c8, .slice B5 r_6.Out.length c5]) hS20 k_sz_27_1 rfl rfl rfl rfl rfl rfl rfl (Nat.le_of_ble_eq_true rfl) rfl rfl) ?_
            rintro _ w_15 ⟨rfl, hS21⟩
            have hS21 : ST w0 [] _ [⟨some ⟨b1, 0, none⟩, 30, [.int .i64 0, .int .i64 0, .int .i64 0, .int .i64 0, .slice none 0 0, .slice none 0 0], 6⟩, ⟨some ⟨b2, 0, none⟩, 30, [.int .i64 r_6.Ins, .int .i64 r_6.Vars, .int .i64 (IntKind.i64.wrap (r_6.Root - 1)), .int .i64 phase, .slice B8 terms.length c8, .slice B5 r_6.Out.length c5], 6⟩, ⟨B5, 44, (r_6.Out.flatMap enc_Affine), c5 * 2⟩, ⟨some ⟨b3, 0, none⟩, 68, [.int .i64 phase, .slice B8 terms.length c8], 2⟩, ⟨B8, 56, (terms.flatMap enc_Term), c8 * 2⟩] [⟨B, (p.Terms.flatMap enc_Term)⟩, ⟨B1, (p.Out.flatMap enc_Affine)⟩] := hS21
            refine rw_nil ?_
            exact ⟨r_6.Ins, r_6.Vars, (IntKind.i64.wrap (r_6.Root - 1)), phase, terms, r_6.Out, B8, c8, B5, c5, (some_inj hF9), (FF.cons (hf2.get 2 0 rfl) (FF.cons (hf2.get 6 1 rfl) (FF.cons (hf2.get 9 2 rfl) FF.nil))), (hS21.sel [0, 1, 4, 2] rfl rfl)⟩
          · skip
            have hF12 := cf' hF7 hb4
            refine cw_seq ?_
            refine cw_region ?_
            refine sq 39 rfl rfl (Y_fieldAddr (B := some ⟨b2, 0, none⟩) (i := 0) (s := 0) k_fd_30_2_2_3 k_sz_3_1 rfl rfl) ?_
            refine sq 40 rfl rfl (Y_load1 (B := some ⟨b2, 0, none⟩) (i := 2) (cs := [.int .i64 r_6.Ins, .int .i64 r_6.Vars, .int .i64 r_6.Root, .int .i64 r_6.Phase, .slice B4 r_6.Terms.length c4, .slice B5 r_6.Out.length c5]) (v := .int .i64 r_6.Root) k_sc_3 rfl rfl (hS8.cf (i := 4) rfl) rfl) ?_
            refine sq 41 rfl rfl (Y_sub (k := .i64) (a := r_6.Root) (b := 2) rfl rfl rfl) ?_
            refine sq 42 rfl rfl (Y_fieldAddr (B := some ⟨b2, 0, none⟩) (i := 0) (s := 0) k_fd_30_2_2_3 k_sz_3_1 rfl rfl) ?_
            refine ss0 rfl rfl (Ys_store (i := 4) (s := 1) (B := some ⟨b2, 0, none⟩) (T' := 30) (v := .int .i64 (IntKind.i64.wrap (r_6.Root - 2))) (vs := [.int .i64 (IntKind.i64.wrap (r_6.Root - 2))]) (k := 2) (cs' := [.int .i64 r_6.Ins, .int .i64 r_6.Vars, .int .i64 (IntKind.i64.wrap (r_6.Root - 2)), .int .i64 r_6.Phase, .slice B4 r_6.Terms.length c4, .slice B5 r_6.Out.length c5]) hS8 k_sz_3_1 rfl rfl rfl rfl rfl rfl rfl (Nat.le_of_ble_eq_true rfl) rfl rfl) ?_
            rintro _ w_16 ⟨rfl, hS22⟩
            have hS22 : ST w0 [] _ [⟨some ⟨b, 0, none⟩, 30, [.int .i64 p.Ins, .int .i64 p.Vars, .int .i64 p.Root, .int .i64 p.Phase, .slice B p.Terms.length c, .slice B1 p.Out.length c1], 6⟩, ⟨some ⟨b1, 0, none⟩, 30, [.int .i64 0, .int .i64 0, .int .i64 0, .int .i64 0, .slice none 0 0, .slice none 0 0], 6⟩, ⟨B4, 56, (r_6.Terms.flatMap enc_Term), c4 * 2⟩, ⟨B5, 44, (r_6.Out.flatMap enc_Affine), c5 * 2⟩, ⟨some ⟨b2, 0, none⟩, 30, [.int .i64 r_6.Ins, .int .i64 r_6.Vars, .int .i64 (IntKind.i64.wrap (r_6.Root - 2)), .int .i64 r_6.Phase, .slice B4 r_6.Terms.length c4, .slice B5 r_6.Out.length c5], 6⟩] [⟨B, (p.Terms.flatMap enc_Term)⟩, ⟨B1, (p.Out.flatMap enc_Affine)⟩] := hS22
            refine rw_nil ?_
            refine cw_seq ?_
            obtain ⟨hsh, hF12⟩ := chk_inv hF12
            obtain ⟨r_8, hc7, hF12⟩ := bind_inv hF12
            obtain ⟨x, hx, hF12⟩ := bind_inv hF12
            refine ra_start (ST.sel hS22 [0, 1, 2, 3, 4] rfl rfl).fn (by kernel_rfl) ?_
            have hS24 := hS22.drew
            refine ra_q 0 43 (v := .int .i64 r_7) rfl rfl rfl (by kernel_rfl) (by kernel_rfl) (by kernel_rfl) (ST.sel hS24 [0, 1, 2, 3, 4] rfl rfl) (fun w' hw' => (Y_move (v := .int .i64 r_7) rfl rfl)) ?_
            refine ra_q 1 44 (v := pt (some ⟨b, 0, none⟩) 0) rfl rfl rfl (by kernel_rfl) (by kernel_rfl) (by kernel_rfl) (ST.sel hS24 [0, 1, 2, 3, 4] rfl rfl) (fun w' hw' => (Y_fieldAddr (B := some ⟨b, 0, none⟩) (i := 0) (s := 0) k_fd_30_0_0_3 k_sz_3_1 rfl (hf.get 1 0 rfl))) ?_
            refine ra_q 2 45 (v := .int .i64 p.Ins) rfl rfl rfl (by kernel_rfl) (by kernel_rfl) (by kernel_rfl) (ST.sel hS24 [0, 1, 2, 3, 4] rfl rfl) (fun w' hw' => (Y_load1 (B := some ⟨b, 0, none⟩) (i := 0) (cs := [.int .i64 p.Ins, .int .i64 p.Vars, .int .i64 p.Root, .int .i64 p.Phase, .slice B p.Terms.length c, .slice B1 p.Out.length c1]) (v := .int .i64 p.Ins) k_sc_3 rfl rfl (ST.cf hw' (i := 0) rfl) rfl)) ?_
            refine ra_q 3 46 (v := .int .u64 (IntKind.u64.wrap p.Ins)) rfl rfl rfl (by kernel_rfl) (by kernel_rfl) (by kernel_rfl) (ST.sel hS24 [0, 1, 2, 3, 4] rfl rfl) (fun w' hw' => (Y_conv (k := .i64) (a := p.Ins) (T := 3) (T' := 59) k_us_3 k_int_59_u64 rfl rfl)) ?_
            refine ra_q 4 47 (v := .int .i64 (shrK .i64 r_7 (IntKind.u64.wrap p.Ins))) rfl rfl rfl (by kernel_rfl) (by kernel_rfl) (by kernel_rfl) (ST.sel hS24 [0, 1, 2, 3, 4] rfl rfl) (fun w' hw' => (Y_shr (k := .i64) (a := r_7) (k' := .u64) (b := (IntKind.u64.wrap p.Ins)) rfl rfl rfl hsh)) ?_
            refine ra_q 8 51 (v := pt (some ⟨b, 0, none⟩) 0) rfl rfl rfl (by kernel_rfl) (by kernel_rfl) (by kernel_rfl) (ST.sel hS24 [0, 1, 2, 3, 4] rfl rfl) (fun w' hw' => (Y_fieldAddr (B := some ⟨b, 0, none⟩) (i := 0) (s := 0) k_fd_30_0_0_3 k_sz_3_1 rfl (hf.get 1 0 rfl))) ?_
            refine ra_q 9 52 (v := .int .i64 p.Ins) rfl rfl rfl (by kernel_rfl) (by kernel_rfl) (by kernel_rfl) (ST.sel hS24 [0, 1, 2, 3, 4] rfl rfl) (fun w' hw' => (Y_load1 (B := some ⟨b, 0, none⟩) (i := 0) (cs := [.int .i64 p.Ins, .int .i64 p.Vars, .int .i64 p.Root, .int .i64 p.Phase, .slice B p.Terms.length c, .slice B1 p.Out.length c1]) (v := .int .i64 p.Ins) k_sc_3 rfl rfl (ST.cf hw' (i := 0) rfl) rfl)) ?_
            refine ra_all (rs := [5]) (by kernel_rfl) rfl ?_
            refine ra_c 48 (i := 5) rfl rfl rfl (Yc_func (g := 35) (vs := [.int .i64 (shrK .i64 r_7 (IntKind.u64.wrap p.Ins))]) k_call_35 rfl (mc rfl mn) (c_spec_l1Set (shrK .i64 r_7 (IntKind.u64.wrap p.Ins)) _  (hS24.inn0 [] rfl) hc7)) ?_ ?_
            · rintro _ w_17 ⟨B13, c13, rfl, hd7⟩
              have hS25 := hS24.out0 hd7
              have hS25 : ST w0 [] _ [⟨some ⟨b, 0, none⟩, 30, [.int .i64 p.Ins, .int .i64 p.Vars, .int .i64 p.Root, .int .i64 p.Phase, .slice B p.Terms.length c, .slice B1 p.Out.length c1], 6⟩, ⟨some ⟨b1, 0, none⟩, 30, [.int .i64 0, .int .i64 0, .int .i64 0, .int .i64 0, .slice none 0 0, .slice none 0 0], 6⟩, ⟨B4, 56, (r_6.Terms.flatMap enc_Term), c4 * 2⟩, ⟨B5, 44, (r_6.Out.flatMap enc_Affine), c5 * 2⟩, ⟨some ⟨b2, 0, none⟩, 30, [.int .i64 r_6.Ins, .int .i64 r_6.Vars, .int .i64 (IntKind.i64.wrap (r_6.Root - 2)), .int .i64 r_6.Phase, .slice B4 r_6.Terms.length c4, .slice B5 r_6.Out.length c5], 6⟩, ⟨B13, 3, (r_8.flatMap encI), c13 * 1⟩] [⟨B, (p.Terms.flatMap enc_Term)⟩, ⟨B1, (p.Out.flatMap enc_Affine)⟩] := hS25
              refine ⟨(ST.sel hS25 [0, 1, 2, 3, 4] rfl rfl), ?_⟩
              refine ra_all (rs := [6]) (by kernel_rfl) rfl ?_
              refine ra_y 49 (i := 6) (v := pt B13 ((0 : Int).toNat * 1)) rfl rfl rfl (Y_index (B := B13) (m := r_8.length) (c := c13) (k := .i64) (i := 0) k_sl_60_3 k_sz_3_1 rfl rfl rfl (gi_isSome encI_len rfl (hS25.cf (i := 5) rfl) hx) (getI_nn hx) (getI_ltI hx rfl)) (ST.sel hS25 [0, 1, 2, 3, 4] rfl rfl) ?_ ?_
              · skip
                refine ra_all (rs := [7]) (by kernel_rfl) rfl ?_
                refine ra_y 50 (i := 7) (v := .int .i64 x) rfl rfl rfl (Y_load1 (B := B13) (i := (0 : Int).toNat * 1) (cs := (r_8.flatMap encI)) (v := .int .i64 x) k_sc_3 rfl rfl (hS25.cf (i := 5) rfl) (gi_at0 encI_len hx rfl)) (ST.sel hS25 [0, 1, 2, 3, 4] rfl rfl) ?_ ?_
                · skip
                  refine ra_q 10 53 (v := .int .i64 (IntKind.i64.wrap (x + p.Ins))) rfl rfl rfl (by kernel_rfl) (by kernel_rfl) (by kernel_rfl) (ST.sel hS25 [0, 1, 2, 3, 4] rfl rfl) (fun w' hw' => (Y_add (k := .i64) (a := x) (b := p.Ins) rfl rfl rfl)) ?_
                  refine ra_q 11 11 (v := .int .i64 (IntKind.i64.wrap (x + p.Ins))) rfl rfl rfl (by kernel_rfl) (by kernel_rfl) (by kernel_rfl) (ST.sel hS25 [0, 1, 2, 3, 4] rfl rfl) (fun w' hw' => (Y_assign (v := .int .i64 (IntKind.i64.wrap (x + p.Ins))) rfl rfl)) ?_
                  refine ra_done (by kernel_rfl) ?_
                  refine cw_region ?_
                  refine sq 54 rfl rfl (Y_loadA (B := some ⟨b2, 0, none⟩) (i := 0) (cs := [.int .i64 r_6.Ins, .int .i64 r_6.Vars, .int .i64 (IntKind.i64.wrap (r_6.Root - 2)), .int .i64 r_6.Phase, .slice B4 r_6.Terms.length c4, .slice B5 r_6.Out.length c5]) (vs := [.int .i64 r_6.Ins, .int .i64 r_6.Vars, .int .i64 (IntKind.i64.wrap (r_6.Root - 2)), .int .i64 r_6.Phase, .slice B4 r_6.Terms.length c4, .slice B5 r_6.Out.length c5]) k_ag_30 k_sz_30_6 rfl rfl (hS25.cf (i := 4) rfl) rfl rfl) ?_
                  refine sq 55 rfl rfl (Y_move (v := .int .i64 (IntKind.i64.wrap (x + p.Ins))) rfl rfl) ?_
                  refine sq 56 rfl rfl (Y_move (v := .int .i64 r_7) rfl rfl) ?_
                  refine sq 57 rfl rfl (Y_move (v := .int .i64 (IntKind.i64.wrap (x + p.Ins))) rfl rfl) ?_
                  refine sq 58 rfl rfl (Y_conv (k := .i64) (a := (IntKind.i64.wrap (x + p.Ins))) (T := 3) (T' := 59) k_us_3 k_int_59_u64 rfl rfl) ?_
                  obtain ⟨hsh1, hF12⟩ := chk_inv hF12
                  refine sq 59 rfl rfl (Y_shl (k := .i64) (a := 1) (k' := .u64) (b := (IntKind.u64.wrap (IntKind.i64.wrap (x + p.Ins)))) rfl rfl rfl hsh1) ?_
                  refine sq 60 rfl rfl (Y_bxor (k := .i64) (a := r_7) (b := (shlK .i64 1 (IntKind.u64.wrap (IntKind.i64.wrap (x + p.Ins))))) rfl rfl rfl) ?_
                  refine sq 61 rfl rfl (Y_move (v := .int .i64 r_4) rfl rfl) ?_
                  refine sq 62 rfl rfl (Y_quo (k := .i64) (a := r_4) (b := 4) rfl rfl rfl (by decide)) ?_
                  refine sq 63 rfl rfl (Y_buildS (zs := [.int .i64 0, .int .i64 0]) (vs := [(0, .int .i64 (bits .xor .i64 r_7 (shlK .i64 1 (IntKind.u64.wrap (IntKind.i64.wrap (x + p.Ins)))))), (1, .int .i64 (IntKind.i64.wrap (Int.tdiv r_4 4)))]) (cs := [.int .i64 (bits .xor .i64 r_7 (shlK .i64 1 (IntKind.u64.wrap (IntKind.i64.wrap (x + p.Ins))))), .int .i64 (IntKind.i64.wrap (Int.tdiv r_4 4))]) k_pl_44 k_zero_44 rfl (mpc rfl (mpc rfl mpn)) rfl) ?_
                  obtain ⟨r_9, hc8, hF12⟩ := bind_inv hF12
                  refine sc 64 rfl rfl (Yc_func (g := 41) (vs := [.agg #[.int .i64 r_6.Ins, .int .i64 r_6.Vars, .int .i64 (IntKind.i64.wrap (r_6.Root - 2)), .int .i64 r_6.Phase, .slice B4 r_6.Terms.length c4, .slice B5 r_6.Out.length c5], .int .i64 (IntKind.i64.wrap (x + p.Ins)), .agg #[.int .i64 (bits .xor .i64 r_7 (shlK .i64 1 (IntKind.u64.wrap (IntKind.i64.wrap (x + p.Ins))))), .int .i64 (IntKind.i64.wrap (Int.tdiv r_4 4))]]) k_call_41 rfl (mc rfl (mc rfl (mc rfl mn))) (c_spec_l21Replace (TPathSum.mk r_6.Ins r_6.Vars (IntKind.i64.wrap (r_6.Root - 2)) r_6.Phase r_6.Terms r_6.Out) (IntKind.i64.wrap (x + p.Ins)) (TAffine.mk (bits .xor .i64 r_7 (shlK .i64 1 (IntKind.u64.wrap (IntKind.i64.wrap (x + p.Ins))))) (IntKind.i64.wrap (Int.tdiv r_4 4))) B4 c4 r_6.Terms.length B5 c5 r_6.Out.length _ rfl rfl (hS25.inn0 [(false, 2), (false, 3)] rfl) hc8)) ?_
                  rintro _ w_18 ⟨B14, c14, B15, c15, rfl, hd8⟩
                  have hS26 := hS25.out0 hd8
                  have hS26 : ST w0 [] _ [⟨some ⟨b, 0, none⟩, 30, [.int .i64 p.Ins, .int .i64 p.Vars, .int .i64 p.Root, .int .i64 p.Phase, .slice B p.Terms.length c, .slice B1 p.Out.length c1], 6⟩, ⟨some ⟨b1, 0, none⟩, 30, [.int .i64 0, .int .i64 0, .int .i64 0, .int .i64 0, .slice none 0 0, .slice none 0 0], 6⟩, ⟨B4, 56, (r_6.Terms.flatMap enc_Term), c4 * 2⟩, ⟨B5, 44, (r_6.Out.flatMap enc_Affine), c5 * 2⟩, ⟨some ⟨b2, 0, none⟩, 30, [.int .i64 r_6.Ins, .int .i64 r_6.Vars, .int .i64 (IntKind.i64.wrap (r_6.Root - 2)), .int .i64 r_6.Phase, .slice B4 r_6.Terms.length c4, .slice B5 r_6.Out.length c5], 6⟩, ⟨B13, 3, (r_8.flatMap encI), c13 * 1⟩, ⟨B14, 56, (r_9.Terms.flatMap enc_Term), c14 * 2⟩, ⟨B15, 44, (r_9.Out.flatMap enc_Affine), c15 * 2⟩] [⟨B, (p.Terms.flatMap enc_Term)⟩, ⟨B1, (p.Out.flatMap enc_Affine)⟩] := hS26
                  refine ss0 rfl rfl (Ys_store (i := 4) (s := 6) (B := some ⟨b2, 0, none⟩) (T' := 30) (v := .agg #[.int .i64 r_9.Ins, .int .i64 r_9.Vars, .int .i64 r_9.Root, .int .i64 r_9.Phase, .slice B14 r_9.Terms.length c14, .slice B15 r_9.Out.length c15]) (vs := [.int .i64 r_9.Ins, .int .i64 r_9.Vars, .int .i64 r_9.Root, .int .i64 r_9.Phase, .slice B14 r_9.Terms.length c14, .slice B15 r_9.Out.length c15]) (k := 0) (cs' := [.int .i64 r_9.Ins, .int .i64 r_9.Vars, .int .i64 r_9.Root, .int .i64 r_9.Phase, .slice B14 r_9.Terms.length c14, .slice B15 r_9.Out.length c15]) hS26 k_sz_30_6 rfl rfl rfl rfl rfl rfl rfl (Nat.le_of_ble_eq_true rfl) rfl rfl) ?_
                  rintro _ w_19 ⟨rfl, hS27⟩
                  have hS27 : ST w0 [] _ [⟨some ⟨b, 0, none⟩, 30, [.int .i64 p.Ins, .int .i64 p.Vars, .int .i64 p.Root, .int .i64 p.Phase, .slice B p.Terms.length c, .slice B1 p.Out.length c1], 6⟩, ⟨some ⟨b1, 0, none⟩, 30, [.int .i64 0, .int .i64 0, .int .i64 0, .int .i64 0, .slice none 0 0, .slice none 0 0], 6⟩, ⟨B4, 56, (r_6.Terms.flatMap enc_Term), c4 * 2⟩, ⟨B5, 44, (r_6.Out.flatMap enc_Affine), c5 * 2⟩, ⟨some ⟨b2, 0, none⟩, 30, [.int .i64 r_9.Ins, .int .i64 r_9.Vars, .int .i64 r_9.Root, .int .i64 r_9.Phase, .slice B14 r_9.Terms.length c14, .slice B15 r_9.Out.length c15], 6⟩, ⟨B13, 3, (r_8.flatMap encI), c13 * 1⟩, ⟨B14, 56, (r_9.Terms.flatMap enc_Term), c14 * 2⟩, ⟨B15, 44, (r_9.Out.flatMap enc_Affine), c15 * 2⟩] [⟨B, (p.Terms.flatMap enc_Term)⟩, ⟨B1, (p.Out.flatMap enc_Affine)⟩] := hS27
                  refine rw_nil ?_
                  exact ⟨r_9.Ins, r_9.Vars, r_9.Root, r_9.Phase, r_9.Terms, r_9.Out, B14, c14, B15, c15, (some_inj hF12), (FF.cons (hf.get 2 1 rfl) (FF.cons rfl (FF.cons rfl FF.nil))), (hS27.sel [1, 4, 6, 7] rfl rfl)⟩
                exact allR_nil
              exact allR_nil
            exact allR_nil
      rintro f w ⟨Ins, Vars, Root, Phase, Terms, Out, B6, c6, B7, c7, rfl, hf1, hS9⟩
      refine cw_seq ?_
      refine cw_region ?_
      refine sq 107 rfl rfl (Y_loadA (B := some ⟨b2, 0, none⟩) (i := 0) (cs := [.int .i64 Ins, .int .i64 Vars, .int .i64 Root, .int .i64 Phase, .slice B6 Terms.length c6, .slice B7 Out.length c7]) (vs := [.int .i64 Ins, .int .i64 Vars, .int .i64 Root, .int .i64 Phase, .slice B6 Terms.length c6, .slice B7 Out.length c7]) k_ag_30 k_sz_30_6 rfl (hf1.get 9 2 rfl) (hS9.cf (i := 1) rfl) rfl rfl) ?_
      refine sq 108 rfl rfl (Y_move (v := .int .i64 r_3) rfl (hf1.get 6 1 rfl)) ?_
      refine ss0 rfl rfl (Ys_store (i := 0) (s := 6) (B := some ⟨b1, 0, none⟩) (T' := 30) (v := .agg #[.int .i64 Ins, .int .i64 Vars, .int .i64 Root, .int .i64 Phase, .slice B6 Terms.length c6, .slice B7 Out.length c7]) (vs := [.int .i64 Ins, .int .i64 Vars, .int .i64 Root, .int .i64 Phase, .slice B6 Terms.length c6, .slice B7 Out.length c7]) (k := 0) (cs' := [.int .i64 Ins, .int .i64 Vars, .int .i64 Root, .int .i64 Phase, .slice B6 Terms.length c6, .slice B7 Out.length c7]) hS9 k_sz_30_6 rfl (hf1.get 2 0 rfl) rfl rfl rfl rfl rfl (Nat.le_of_ble_eq_true rfl) rfl rfl) ?_
      rintro _ w_20 ⟨rfl, hS28⟩
      have hS28 : ST w0 [] _ [⟨some ⟨b1, 0, none⟩, 30, [.int .i64 Ins, .int .i64 Vars, .int .i64 Root, .int .i64 Phase, .slice B6 Terms.length c6, .slice B7 Out.length c7], 6⟩, ⟨some ⟨b2, 0, none⟩, 30, [.int .i64 Ins, .int .i64 Vars, .int .i64 Root, .int .i64 Phase, .slice B6 Terms.length c6, .slice B7 Out.length c7], 6⟩, ⟨B6, 56, (Terms.flatMap enc_Term), c6 * 2⟩, ⟨B7, 44, (Out.flatMap enc_Affine), c7 * 2⟩] [⟨B, (p.Terms.flatMap enc_Term)⟩, ⟨B1, (p.Out.flatMap enc_Affine)⟩] := hS28
      refine sq 3 rfl rfl (Y_assign (v := .int .i64 r_3) rfl rfl) ?_
      refine sq 4 rfl rfl (Y_assign (v := .bool true) rfl rfl) ?_
      refine rw_nil ?_
      refine cw_ret ?_
      obtain rfl := some_inj hF5
      obtain rfl := some_inj hL1
      obtain ⟨rfl, rfl, rfl⟩ := pr3 (some_inj hF1)
      exact ret3 Tryd.results17 (v1 := .agg #[.int .i64 Ins, .int .i64 Vars, .int .i64 Root, .int .i64 Phase, .slice B6 Terms.length c6, .slice B7 Out.length c7]) (resAt_cellA (B := some ⟨b1, 0, none⟩) (i := 0) (cs := [.int .i64 Ins, .int .i64 Vars, .int .i64 Root, .int .i64 Phase, .slice B6 Terms.length c6, .slice B7 Out.length c7]) (vs := [.int .i64 Ins, .int .i64 Vars, .int .i64 Root, .int .i64 Phase, .slice B6 Terms.length c6, .slice B7 Out.length c7]) (hf1.get 2 0 rfl) k_ag_30 k_sz_30_6 (hS28.cf (i := 0) rfl) rfl rfl) (v2 := .int .i64 r_3) (resAt_tmp rfl) (v3 := .bool true) (resAt_tmp rfl) ⟨B6, c6, B7, c7, rfl, (ST.subR (R' := []) (hS28.sel [2, 3] rfl rfl) (fun _ h => by cases h))⟩
  · skip
    have hF13 := cf' hb hb1
    refine cw_exit rfl ?_
    obtain rfl := some_inj hF13
    obtain rfl := some_inj hL1
    refine cw_seq ?_
    refine cw_region ?_
    refine sq 109 rfl rfl (Y_buildS (zs := [.int .i64 0, .int .i64 0, .int .i64 0, .int .i64 0, .slice none 0 0, .slice none 0 0]) (vs := []) (cs := [.int .i64 0, .int .i64 0, .int .i64 0, .int .i64 0, .slice none 0 0, .slice none 0 0]) k_pl_30 k_zero_30 rfl mpn rfl) ?_
    refine ss0 rfl rfl (Ys_store (i := 1) (s := 6) (B := some ⟨b1, 0, none⟩) (T' := 30) (v := .agg #[.int .i64 0, .int .i64 0, .int .i64 0, .int .i64 0, .slice none 0 0, .slice none 0 0]) (vs := [.int .i64 0, .int .i64 0, .int .i64 0, .int .i64 0, .slice none 0 0, .slice none 0 0]) (k := 0) (cs' := [.int .i64 0, .int .i64 0, .int .i64 0, .int .i64 0, .slice none 0 0, .slice none 0 0]) hS3 k_sz_30_6 rfl (hf.get 2 1 rfl) rfl rfl rfl rfl rfl (Nat.le_of_ble_eq_true rfl) rfl rfl) ?_
    rintro _ w_21 ⟨rfl, hS29⟩
    have hS29 : ST w0 [] _ [⟨some ⟨b, 0, none⟩, 30, [.int .i64 p.Ins, .int .i64 p.Vars, .int .i64 p.Root, .int .i64 p.Phase, .slice B p.Terms.length c, .slice B1 p.Out.length c1], 6⟩, ⟨some ⟨b1, 0, none⟩, 30, [.int .i64 0, .int .i64 0, .int .i64 0, .int .i64 0, .slice none 0 0, .slice none 0 0], 6⟩] [⟨B, (p.Terms.flatMap enc_Term)⟩, ⟨B1, (p.Out.flatMap enc_Affine)⟩] := hS29
    refine sq 3 rfl rfl (Y_assign (v := .int .i64 0) rfl rfl) ?_
    refine sq 4 rfl rfl (Y_assign (v := .bool false) rfl rfl) ?_
    refine rw_nil ?_
    refine cw_ret ?_
    have hS30 := hS29.addNil 56
    have hS31 := hS30.addNil 44
    obtain ⟨rfl, rfl, rfl⟩ := pr3 (some_inj hF1)
    exact ret3 Tryd.results17 (v1 := .agg #[.int .i64 0, .int .i64 0, .int .i64 0, .int .i64 0, .slice none 0 0, .slice none 0 0]) (resAt_cellA (B := some ⟨b1, 0, none⟩) (i := 0) (cs := [.int .i64 0, .int .i64 0, .int .i64 0, .int .i64 0, .slice none 0 0, .slice none 0 0]) (vs := [.int .i64 0, .int .i64 0, .int .i64 0, .int .i64 0, .slice none 0 0, .slice none 0 0]) (hf.get 2 1 rfl) k_ag_30 k_sz_30_6 (hS31.cf (i := 1) rfl) rfl rfl) (v2 := .int .i64 0) (resAt_tmp rfl) (v3 := .bool false) (resAt_tmp rfl) ⟨none, 0, none, 0, rfl, (ST.subR (R' := []) (hS31.sel [2, 3] rfl rfl) (fun _ h => by cases h))⟩

theorem c_spec_ReduceStep (p : TPathSum) (B : Option Addr) (c n : Nat) (B1 : Option Addr) (c1 n1 : Nat) (w0 : World) (hn : p.Terms.length = n) (hn1 : p.Out.length = n1) (hS : ST w0 [] w0 [] [⟨B, (p.Terms.flatMap enc_Term)⟩, ⟨B1, (p.Out.flatMap enc_Affine)⟩]) {r_ : TPathSum} {r_1 : Int} {r_2 : Bool} (hF : F_spec_ReduceStep p = some (r_, r_1, r_2)) :
    CV Tryd.prog 6 #[.agg #[.int .i64 p.Ins, .int .i64 p.Vars, .int .i64 p.Root, .int .i64 p.Phase, .slice B n c, .slice B1 n1 c1]] w0 (fun v w' => ∃ (B2 : Option Addr) (c2 : Nat) (B3 : Option Addr) (c3 : Nat), v = .tuple #[.agg #[.int .i64 r_.Ins, .int .i64 r_.Vars, .int .i64 r_.Root, .int .i64 r_.Phase, .slice B2 r_.Terms.length c2, .slice B3 r_.Out.length c3], .int .i64 r_1, .bool r_2] ∧ ST w0 [] w' [⟨B2, 56, (r_.Terms.flatMap enc_Term), c2 * 2⟩, ⟨B3, 44, (r_.Out.flatMap enc_Affine), c3 * 2⟩] []) := by
  subst hn
  subst hn1
  unfold F_spec_ReduceStep at hF
  refine cv_of_cw 28 Tryd.func6 rfl Tryd.ntmps6 rfl ?_
  refine cw_seq ?_
  refine cw_region ?_
  refine ss 1 rfl rfl (Ys_box (T := 30) (v := .agg #[.int .i64 p.Ins, .int .i64 p.Vars, .int .i64 p.Root, .int .i64 p.Phase, .slice B p.Terms.length c, .slice B1 p.Out.length c1]) (cs := [.int .i64 p.Ins, .int .i64 p.Vars, .int .i64 p.Root, .int .i64 p.Phase, .slice B p.Terms.length c, .slice B1 p.Out.length c1]) (m := 6) hS rfl rfl rfl rfl) ?_
  rintro _ w_ ⟨b, rfl, hS1⟩
  refine ss 2 rfl rfl (Ys_alloc (T := 30) (cs := [.int .i64 0, .int .i64 0, .int .i64 0, .int .i64 0, .slice none 0 0, .slice none 0 0]) (m := 6) hS1 k_zero_30 rfl rfl rfl) ?_
  rintro _ w_1 ⟨b1, rfl, hS2⟩
  have hS2 : ST w0 [] _ [⟨some ⟨b, 0, none⟩, 30, [.int .i64 p.Ins, .int .i64 p.Vars, .int .i64 p.Root, .int .i64 p.Phase, .slice B p.Terms.length c, .slice B1 p.Out.length c1], 6⟩, ⟨some ⟨b1, 0, none⟩, 30, [.int .i64 0, .int .i64 0, .int .i64 0, .int .i64 0, .slice none 0 0, .slice none 0 0], 6⟩] [⟨B, (p.Terms.flatMap enc_Term)⟩, ⟨B1, (p.Out.flatMap enc_Affine)⟩] := hS2
  refine sq 3 rfl rfl (Y_assign (v := .int .i64 0) rfl rfl) ?_
  refine sq 4 rfl rfl (Y_assign (v := .bool false) rfl rfl) ?_
  refine rw_nil ?_
  refine cw_seq ?_
  refine cw_seq ?_
  refine cw_region ?_
  refine sq 8 rfl rfl (Y_loadA (B := some ⟨b, 0, none⟩) (i := 0) (cs := [.int .i64 p.Ins, .int .i64 p.Vars, .int .i64 p.Root, .int .i64 p.Phase, .slice B p.Terms.length c, .slice B1 p.Out.length c1]) (vs := [.int .i64 p.Ins, .int .i64 p.Vars, .int .i64 p.Root, .int .i64 p.Phase, .slice B p.Terms.length c, .slice B1 p.Out.length c1]) k_ag_30 k_sz_30_6 rfl rfl (hS2.cf (i := 0) rfl) rfl rfl) ?_
  obtain ⟨r_3, hc, hF⟩ := bind_inv hF
  refine sc 9 rfl rfl (Yc_func (g := 16) (vs := [.agg #[.int .i64 p.Ins, .int .i64 p.Vars, .int .i64 p.Root, .int .i64 p.Phase, .slice B p.Terms.length c, .slice B1 p.Out.length c1]]) k_call_16 rfl (mc rfl mn) (c_spec_l21Valid p B c p.Terms.length B1 c1 p.Out.length _ rfl rfl (hS2.inn0 [(true, 0), (true, 1)] rfl) hc)) ?_
  rintro _ w_2 ⟨rfl, hd⟩
  have hS3 := hS2.out00 hd
  have hS3 : ST w0 [] _ [⟨some ⟨b, 0, none⟩, 30, [.int .i64 p.Ins, .int .i64 p.Vars, .int .i64 p.Root, .int .i64 p.Phase, .slice B p.Terms.length c, .slice B1 p.Out.length c1], 6⟩, ⟨some ⟨b1, 0, none⟩, 30, [.int .i64 0, .int .i64 0, .int .i64 0, .int .i64 0, .slice none 0 0, .slice none 0 0], 6⟩] [⟨B, (p.Terms.flatMap enc_Term)⟩, ⟨B1, (p.Out.flatMap enc_Affine)⟩] := hS3
  refine sq 10 rfl rfl (Y_not (p := r_3) rfl rfl) ?_
  refine rw_nil ?_
  refine cw_cond (b := (!r_3)) rfl (fun hb => ?_) (fun hb => ?_)
  · skip
    have hF1 := ct hF hb
    refine cw_seq ?_
    refine cw_region ?_
    refine sq 11 rfl rfl (Y_buildS (zs := [.int .i64 0, .int .i64 0, .int .i64 0, .int .i64 0, .slice none 0 0, .slice none 0 0]) (vs := []) (cs := [.int .i64 0, .int .i64 0, .int .i64 0, .int .i64 0, .slice none 0 0, .slice none 0 0]) k_pl_30 k_zero_30 rfl mpn rfl) ?_
    refine ss0 rfl rfl (Ys_store (i := 1) (s := 6) (B := some ⟨b1, 0, none⟩) (T' := 30) (v := .agg #[.int .i64 0, .int .i64 0, .int .i64 0, .int .i64 0, .slice none 0 0, .slice none 0 0]) (vs := [.int .i64 0, .int .i64 0, .int .i64 0, .int .i64 0, .slice none 0 0, .slice none 0 0]) (k := 0) (cs' := [.int .i64 0, .int .i64 0, .int .i64 0, .int .i64 0, .slice none 0 0, .slice none 0 0]) hS3 k_sz_30_6 rfl rfl rfl rfl rfl rfl rfl (Nat.le_of_ble_eq_true rfl) rfl rfl) ?_
    rintro _ w_3 ⟨rfl, hS4⟩
    have hS4 : ST w0 [] _ [⟨some ⟨b, 0, none⟩, 30, [.int .i64 p.Ins, .int .i64 p.Vars, .int .i64 p.Root, .int .i64 p.Phase, .slice B p.Terms.length c, .slice B1 p.Out.length c1], 6⟩, ⟨some ⟨b1, 0, none⟩, 30, [.int .i64 0, .int .i64 0, .int .i64 0, .int .i64 0, .slice none 0 0, .slice none 0 0], 6⟩] [⟨B, (p.Terms.flatMap enc_Term)⟩, ⟨B1, (p.Out.flatMap enc_Affine)⟩] := hS4
    refine sq 3 rfl rfl (Y_assign (v := .int .i64 0) rfl rfl) ?_
    refine sq 4 rfl rfl (Y_assign (v := .bool false) rfl rfl) ?_
    refine rw_nil ?_
    refine cw_ret ?_
    have hS5 := hS4.addNil 56
    have hS6 := hS5.addNil 44
    obtain ⟨rfl, rfl, rfl⟩ := pr3 (some_inj hF1)
    exact ret3 Tryd.results6 (v1 := .agg #[.int .i64 0, .int .i64 0, .int .i64 0, .int .i64 0, .slice none 0 0, .slice none 0 0]) (resAt_cellA (B := some ⟨b1, 0, none⟩) (i := 0) (cs := [.int .i64 0, .int .i64 0, .int .i64 0, .int .i64 0, .slice none 0 0, .slice none 0 0]) (vs := [.int .i64 0, .int .i64 0, .int .i64 0, .int .i64 0, .slice none 0 0, .slice none 0 0]) rfl k_ag_30 k_sz_30_6 (hS6.cf (i := 1) rfl) rfl rfl) (v2 := .int .i64 0) (resAt_tmp rfl) (v3 := .bool false) (resAt_tmp rfl) ⟨none, 0, none, 0, rfl, (ST.subR (R' := []) (hS6.sel [2, 3] rfl rfl) (fun _ h => by cases h))⟩
  · skip
    have hF2 := cf' hF hb
    refine cw_skip ?_
    refine cw_seq ?_
    refine cw_region ?_
    refine sq 13 rfl rfl (Y_loadA (B := some ⟨b, 0, none⟩) (i := 0) (cs := [.int .i64 p.Ins, .int .i64 p.Vars, .int .i64 p.Root, .int .i64 p.Phase, .slice B p.Terms.length c, .slice B1 p.Out.length c1]) (vs := [.int .i64 p.Ins, .int .i64 p.Vars, .int .i64 p.Root, .int .i64 p.Phase, .slice B p.Terms.length c, .slice B1 p.Out.length c1]) k_ag_30 k_sz_30_6 rfl rfl (hS3.cf (i := 0) rfl) rfl rfl) ?_
    obtain ⟨⟨r_4, r_5, r_6⟩, hc1, hF2⟩ := bind_inv hF2
    refine sc 14 rfl rfl (Yc_func (g := 17) (vs := [.agg #[.int .i64 p.Ins, .int .i64 p.Vars, .int .i64 p.Root, .int .i64 p.Phase, .slice B p.Terms.length c, .slice B1 p.Out.length c1]]) k_call_17 rfl (mc rfl mn) (c_spec_l21Step p B c p.Terms.length B1 c1 p.Out.length _ rfl rfl (hS3.inn0 [(true, 0), (true, 1)] rfl) hc1)) ?_
    rintro _ w_4 ⟨B4, c4, B5, c5, rfl, hd1⟩
    have hS7 := hS3.out0 hd1
    have hS7 : ST w0 [] _ [⟨some ⟨b, 0, none⟩, 30, [.int .i64 p.Ins, .int .i64 p.Vars, .int .i64 p.Root, .int .i64 p.Phase, .slice B p.Terms.length c, .slice B1 p.Out.length c1], 6⟩, ⟨some ⟨b1, 0, none⟩, 30, [.int .i64 0, .int .i64 0, .int .i64 0, .int .i64 0, .slice none 0 0, .slice none 0 0], 6⟩, ⟨B4, 56, (r_4.Terms.flatMap enc_Term), c4 * 2⟩, ⟨B5, 44, (r_4.Out.flatMap enc_Affine), c5 * 2⟩] [⟨B, (p.Terms.flatMap enc_Term)⟩, ⟨B1, (p.Out.flatMap enc_Affine)⟩] := hS7
    refine sq 12 rfl rfl (Y_move (v := .tuple #[.agg #[.int .i64 r_4.Ins, .int .i64 r_4.Vars, .int .i64 r_4.Root, .int .i64 r_4.Phase, .slice B4 r_4.Terms.length c4, .slice B5 r_4.Out.length c5], .int .i64 r_5, .bool r_6]) rfl rfl) ?_
    refine sq 15 rfl rfl (Y_extract (v := .agg #[.int .i64 r_4.Ins, .int .i64 r_4.Vars, .int .i64 r_4.Root, .int .i64 r_4.Phase, .slice B4 r_4.Terms.length c4, .slice B5 r_4.Out.length c5]) rfl rfl rfl) ?_
    refine sq 16 rfl rfl (Y_extract (v := .int .i64 r_5) rfl rfl rfl) ?_
    refine sq 17 rfl rfl (Y_extract (v := .bool r_6) rfl rfl rfl) ?_
    refine ss 5 rfl rfl (Ys_alloc (T := 30) (cs := [.int .i64 0, .int .i64 0, .int .i64 0, .int .i64 0, .slice none 0 0, .slice none 0 0]) (m := 6) hS7 k_zero_30 rfl rfl rfl) ?_
    rintro _ w_5 ⟨b2, rfl, hS8⟩
    have hS8 : ST w0 [] _ [⟨some ⟨b, 0, none⟩, 30, [.int .i64 p.Ins, .int .i64 p.Vars, .int .i64 p.Root, .int .i64 p.Phase, .slice B p.Terms.length c, .slice B1 p.Out.length c1], 6⟩, ⟨some ⟨b1, 0, none⟩, 30, [.int .i64 0, .int .i64 0, .int .i64 0, .int .i64 0, .slice none 0 0, .slice none 0 0], 6⟩, ⟨B4, 56, (r_4.Terms.flatMap enc_Term), c4 * 2⟩, ⟨B5, 44, (r_4.Out.flatMap enc_Affine), c5 * 2⟩, ⟨some ⟨b2, 0, none⟩, 30, [.int .i64 0, .int .i64 0, .int .i64 0, .int .i64 0, .slice none 0 0, .slice none 0 0], 6⟩] [⟨B, (p.Terms.flatMap enc_Term)⟩, ⟨B1, (p.Out.flatMap enc_Affine)⟩] := hS8
    refine ss0 rfl rfl (Ys_store (i := 4) (s := 6) (B := some ⟨b2, 0, none⟩) (T' := 30) (v := .agg #[.int .i64 r_4.Ins, .int .i64 r_4.Vars, .int .i64 r_4.Root, .int .i64 r_4.Phase, .slice B4 r_4.Terms.length c4, .slice B5 r_4.Out.length c5]) (vs := [.int .i64 r_4.Ins, .int .i64 r_4.Vars, .int .i64 r_4.Root, .int .i64 r_4.Phase, .slice B4 r_4.Terms.length c4, .slice B5 r_4.Out.length c5]) (k := 0) (cs' := [.int .i64 r_4.Ins, .int .i64 r_4.Vars, .int .i64 r_4.Root, .int .i64 r_4.Phase, .slice B4 r_4.Terms.length c4, .slice B5 r_4.Out.length c5]) hS8 k_sz_30_6 rfl rfl rfl rfl rfl rfl rfl (Nat.le_of_ble_eq_true rfl) rfl rfl) ?_
    rintro _ w_6 ⟨rfl, hS9⟩
    have hS9 : ST w0 [] _ [⟨some ⟨b, 0, none⟩, 30, [.int .i64 p.Ins, .int .i64 p.Vars, .int .i64 p.Root, .int .i64 p.Phase, .slice B p.Terms.length c, .slice B1 p.Out.length c1], 6⟩, ⟨some ⟨b1, 0, none⟩, 30, [.int .i64 0, .int .i64 0, .int .i64 0, .int .i64 0, .slice none 0 0, .slice none 0 0], 6⟩, ⟨B4, 56, (r_4.Terms.flatMap enc_Term), c4 * 2⟩, ⟨B5, 44, (r_4.Out.flatMap enc_Affine), c5 * 2⟩, ⟨some ⟨b2, 0, none⟩, 30, [.int .i64 r_4.Ins, .int .i64 r_4.Vars, .int .i64 r_4.Root, .int .i64 r_4.Phase, .slice B4 r_4.Terms.length c4, .slice B5 r_4.Out.length c5], 6⟩] [⟨B, (p.Terms.flatMap enc_Term)⟩, ⟨B1, (p.Out.flatMap enc_Affine)⟩] := hS9
    refine sq 6 rfl rfl (Y_assign (v := .int .i64 r_5) rfl rfl) ?_
    refine sq 7 rfl rfl (Y_assign (v := .bool r_6) rfl rfl) ?_
    refine rw_nil ?_
    refine cw_seq ?_
    refine cw_seq ?_
    refine cw_region ?_
    refine sq 18 rfl rfl (Y_move (v := .bool r_6) rfl rfl) ?_
    refine sq 19 rfl rfl (Y_not (p := r_6) rfl rfl) ?_
    refine sq 20 rfl rfl (Y_move (v := .bool (!r_6)) rfl rfl) ?_
    refine sgq 21 (B := (!(!r_6))) (v := .agg #[.int .i64 r_4.Ins, .int .i64 r_4.Vars, .int .i64 r_4.Root, .int .i64 r_4.Phase, .slice B4 r_4.Terms.length c4, .slice B5 r_4.Out.length c5]) rfl rfl (wt_f (gd_of (t := 20) (by kernel_rfl) rfl)) (fun hg => (Y_loadA (B := some ⟨b2, 0, none⟩) (i := 0) (cs := [.int .i64 r_4.Ins, .int .i64 r_4.Vars, .int .i64 r_4.Root, .int .i64 r_4.Phase, .slice B4 r_4.Terms.length c4, .slice B5 r_4.Out.length c5]) (vs := [.int .i64 r_4.Ins, .int .i64 r_4.Vars, .int .i64 r_4.Root, .int .i64 r_4.Phase, .slice B4 r_4.Terms.length c4, .slice B5 r_4.Out.length c5]) k_ag_30 k_sz_30_6 rfl rfl (hS9.cf (i := 4) rfl) rfl rfl)) ?_
    obtain ⟨r_7, hc2, hF2⟩ := bind_inv hF2
    refine sgc 22 (B := (!(!r_6))) (v := .bool r_7) (F := hS9.fn) rfl rfl (wt_f (gd_of (t := 20) (by kernel_rfl) rfl)) hS9 (fun hg1 => (Yc_func (g := 16) (vs := [.agg #[.int .i64 r_4.Ins, .int .i64 r_4.Vars, .int .i64 r_4.Root, .int .i64 r_4.Phase, .slice B4 r_4.Terms.length c4, .slice B5 r_4.Out.length c5]]) k_call_16 rfl (mc (gv_of (B := (!(!r_6))) (v := .agg #[.int .i64 r_4.Ins, .int .i64 r_4.Vars, .int .i64 r_4.Root, .int .i64 r_4.Phase, .slice B4 r_4.Terms.length c4, .slice B5 r_4.Out.length c5]) hg1) mn) (CV.mono (c_spec_l21Valid r_4 B4 c4 r_4.Terms.length B5 c5 r_4.Out.length _ rfl rfl (hS9.inn0 [(false, 2), (false, 3)] rfl) (gb_inv hc2 hg1)) (by rintro _ _ ⟨rfl, h⟩; exact ⟨rfl, hS9.out00 h⟩)))) ?_
    rintro w_7 hS10
    have hS10 : ST _ _ w_7 _ _ := hS10
    refine sgq 23 (B := (!(!r_6))) (v := .bool (!r_7)) rfl rfl (wt_f (gd_of (t := 20) (by kernel_rfl) rfl)) (fun hg2 => (Y_not (p := r_7) rfl (gv_of (B := (!(!r_6))) (v := .bool r_7) hg2))) ?_
    refine sq 24 rfl rfl (Y_or (b := (!r_6)) (z := (!r_7)) rfl rfl rfl rfl) ?_
    refine rw_nil ?_
    refine cw_cond (b := ((!r_6) || (!r_7))) rfl (fun hb1 => ?_) (fun hb1 => ?_)
    · skip
      have hF3 := ct hF2 hb1
      refine cw_seq ?_
      refine cw_region ?_
      refine sq 25 rfl rfl (Y_buildS (zs := [.int .i64 0, .int .i64 0, .int .i64 0, .int .i64 0, .slice none 0 0, .slice none 0 0]) (vs := []) (cs := [.int .i64 0, .int .i64 0, .int .i64 0, .int .i64 0, .slice none 0 0, .slice none 0 0]) k_pl_30 k_zero_30 rfl mpn rfl) ?_
      refine ss0 rfl rfl (Ys_store (i := 1) (s := 6) (B := some ⟨b1, 0, none⟩) (T' := 30) (v := .agg #[.int .i64 0, .int .i64 0, .int .i64 0, .int .i64 0, .slice none 0 0, .slice none 0 0]) (vs := [.int .i64 0, .int .i64 0, .int .i64 0, .int .i64 0, .slice none 0 0, .slice none 0 0]) (k := 0) (cs' := [.int .i64 0, .int .i64 0, .int .i64 0, .int .i64 0, .slice none 0 0, .slice none 0 0]) hS10 k_sz_30_6 rfl rfl rfl rfl rfl rfl rfl (Nat.le_of_ble_eq_true rfl) rfl rfl) ?_
      rintro _ w_8 ⟨rfl, hS11⟩
      have hS11 : ST w0 [] _ [⟨some ⟨b, 0, none⟩, 30, [.int .i64 p.Ins, .int .i64 p.Vars, .int .i64 p.Root, .int .i64 p.Phase, .slice B p.Terms.length c, .slice B1 p.Out.length c1], 6⟩, ⟨some ⟨b1, 0, none⟩, 30, [.int .i64 0, .int .i64 0, .int .i64 0, .int .i64 0, .slice none 0 0, .slice none 0 0], 6⟩, ⟨B4, 56, (r_4.Terms.flatMap enc_Term), c4 * 2⟩, ⟨B5, 44, (r_4.Out.flatMap enc_Affine), c5 * 2⟩, ⟨some ⟨b2, 0, none⟩, 30, [.int .i64 r_4.Ins, .int .i64 r_4.Vars, .int .i64 r_4.Root, .int .i64 r_4.Phase, .slice B4 r_4.Terms.length c4, .slice B5 r_4.Out.length c5], 6⟩] [⟨B, (p.Terms.flatMap enc_Term)⟩, ⟨B1, (p.Out.flatMap enc_Affine)⟩] := hS11
      refine sq 3 rfl rfl (Y_assign (v := .int .i64 0) rfl rfl) ?_
      refine sq 4 rfl rfl (Y_assign (v := .bool false) rfl rfl) ?_
      refine rw_nil ?_
      refine cw_ret ?_
      have hS12 := hS11.addNil 56
      have hS13 := hS12.addNil 44
      obtain ⟨rfl, rfl, rfl⟩ := pr3 (some_inj hF3)
      exact ret3 Tryd.results6 (v1 := .agg #[.int .i64 0, .int .i64 0, .int .i64 0, .int .i64 0, .slice none 0 0, .slice none 0 0]) (resAt_cellA (B := some ⟨b1, 0, none⟩) (i := 0) (cs := [.int .i64 0, .int .i64 0, .int .i64 0, .int .i64 0, .slice none 0 0, .slice none 0 0]) (vs := [.int .i64 0, .int .i64 0, .int .i64 0, .int .i64 0, .slice none 0 0, .slice none 0 0]) rfl k_ag_30 k_sz_30_6 (hS13.cf (i := 1) rfl) rfl rfl) (v2 := .int .i64 0) (resAt_tmp rfl) (v3 := .bool false) (resAt_tmp rfl) ⟨none, 0, none, 0, rfl, (ST.subR (R' := []) (hS13.sel [5, 6] rfl rfl) (fun _ h => by cases h))⟩
    · skip
      have hF4 := cf' hF2 hb1
      refine cw_skip ?_
      refine cw_seq ?_
      refine cw_region ?_
      refine sq 26 rfl rfl (Y_loadA (B := some ⟨b2, 0, none⟩) (i := 0) (cs := [.int .i64 r_4.Ins, .int .i64 r_4.Vars, .int .i64 r_4.Root, .int .i64 r_4.Phase, .slice B4 r_4.Terms.length c4, .slice B5 r_4.Out.length c5]) (vs := [.int .i64 r_4.Ins, .int .i64 r_4.Vars, .int .i64 r_4.Root, .int .i64 r_4.Phase, .slice B4 r_4.Terms.length c4, .slice B5 r_4.Out.length c5]) k_ag_30 k_sz_30_6 rfl rfl (hS10.cf (i := 4) rfl) rfl rfl) ?_
      refine sq 27 rfl rfl (Y_move (v := .int .i64 r_5) rfl rfl) ?_
      refine ss0 rfl rfl (Ys_store (i := 1) (s := 6) (B := some ⟨b1, 0, none⟩) (T' := 30) (v := .agg #[.int .i64 r_4.Ins, .int .i64 r_4.Vars, .int .i64 r_4.Root, .int .i64 r_4.Phase, .slice B4 r_4.Terms.length c4, .slice B5 r_4.Out.length c5]) (vs := [.int .i64 r_4.Ins, .int .i64 r_4.Vars, .int .i64 r_4.Root, .int .i64 r_4.Phase, .slice B4 r_4.Terms.length c4, .slice B5 r_4.Out.length c5]) (k := 0) (cs' := [.int .i64 r_4.Ins, .int .i64 r_4.Vars, .int .i64 r_4.Root, .int .i64 r_4.Phase, .slice B4 r_4.Terms.length c4, .slice B5 r_4.Out.length c5]) hS10 k_sz_30_6 rfl rfl rfl rfl rfl rfl rfl (Nat.le_of_ble_eq_true rfl) rfl rfl) ?_
      rintro _ w_9 ⟨rfl, hS14⟩
      have hS14 : ST w0 [] _ [⟨some ⟨b, 0, none⟩, 30, [.int .i64 p.Ins, .int .i64 p.Vars, .int .i64 p.Root, .int .i64 p.Phase, .slice B p.Terms.length c, .slice B1 p.Out.length c1], 6⟩, ⟨some ⟨b1, 0, none⟩, 30, [.int .i64 r_4.Ins, .int .i64 r_4.Vars, .int .i64 r_4.Root, .int .i64 r_4.Phase, .slice B4 r_4.Terms.length c4, .slice B5 r_4.Out.length c5], 6⟩, ⟨B4, 56, (r_4.Terms.flatMap enc_Term), c4 * 2⟩, ⟨B5, 44, (r_4.Out.flatMap enc_Affine), c5 * 2⟩, ⟨some ⟨b2, 0, none⟩, 30, [.int .i64 r_4.Ins, .int .i64 r_4.Vars, .int .i64 r_4.Root, .int .i64 r_4.Phase, .slice B4 r_4.Terms.length c4, .slice B5 r_4.Out.length c5], 6⟩] [⟨B, (p.Terms.flatMap enc_Term)⟩, ⟨B1, (p.Out.flatMap enc_Affine)⟩] := hS14
      refine sq 3 rfl rfl (Y_assign (v := .int .i64 r_5) rfl rfl) ?_
      refine sq 4 rfl rfl (Y_assign (v := .bool true) rfl rfl) ?_
      refine rw_nil ?_
      refine cw_ret ?_
      obtain ⟨rfl, rfl, rfl⟩ := pr3 (some_inj hF4)
      exact ret3 Tryd.results6 (v1 := .agg #[.int .i64 r_4.Ins, .int .i64 r_4.Vars, .int .i64 r_4.Root, .int .i64 r_4.Phase, .slice B4 r_4.Terms.length c4, .slice B5 r_4.Out.length c5]) (resAt_cellA (B := some ⟨b1, 0, none⟩) (i := 0) (cs := [.int .i64 r_4.Ins, .int .i64 r_4.Vars, .int .i64 r_4.Root, .int .i64 r_4.Phase, .slice B4 r_4.Terms.length c4, .slice B5 r_4.Out.length c5]) (vs := [.int .i64 r_4.Ins, .int .i64 r_4.Vars, .int .i64 r_4.Root, .int .i64 r_4.Phase, .slice B4 r_4.Terms.length c4, .slice B5 r_4.Out.length c5]) rfl k_ag_30 k_sz_30_6 (hS14.cf (i := 1) rfl) rfl rfl) (v2 := .int .i64 r_5) (resAt_tmp rfl) (v3 := .bool true) (resAt_tmp rfl) ⟨B4, c4, B5, c5, rfl, (ST.subR (R' := []) (hS14.sel [2, 3] rfl rfl) (fun _ h => by cases h))⟩

theorem c_laws_toTerm (a : TTerm)  (w0 : World)  (hS : ST w0 [] w0 [] []) {r_ : TTerm} (hF : F_laws_toTerm a = some r_) :
    CV Tryd.prog 42 #[.agg #[.int .i64 a.Mask, .int .i64 a.Coef]] w0 (fun v w' => v = .agg #[.int .i64 r_.Mask, .int .i64 r_.Coef] ∧ ST w0 [] w' [] []) := by
  unfold F_laws_toTerm at hF
  refine cv_of_cw 11 Tryd.func42 rfl Tryd.ntmps42 rfl ?_
  refine cw_seq ?_
  refine cw_region ?_
  refine ss 1 rfl rfl (Ys_box (T := 73) (v := .agg #[.int .i64 a.Mask, .int .i64 a.Coef]) (cs := [.int .i64 a.Mask, .int .i64 a.Coef]) (m := 2) hS rfl rfl rfl rfl) ?_
  rintro _ w_ ⟨b, rfl, hS1⟩
  refine ss 2 rfl rfl (Ys_alloc (T := 56) (cs := [.int .i64 0, .int .i64 0]) (m := 2) hS1 k_zero_56 rfl rfl rfl) ?_
  rintro _ w_1 ⟨b1, rfl, hS2⟩
  have hS2 : ST w0 [] _ [⟨some ⟨b, 0, none⟩, 73, [.int .i64 a.Mask, .int .i64 a.Coef], 2⟩, ⟨some ⟨b1, 0, none⟩, 56, [.int .i64 0, .int .i64 0], 2⟩] [] := hS2
  refine rw_nil ?_
  refine cw_seq ?_
  refine cw_region ?_
  refine ss 3 rfl rfl (Ys_alloc (T := 56) (cs := [.int .i64 0, .int .i64 0]) (m := 2) hS2 k_zero_56 rfl rfl rfl) ?_
  rintro _ w_2 ⟨b2, rfl, hS3⟩
  have hS3 : ST w0 [] _ [⟨some ⟨b, 0, none⟩, 73, [.int .i64 a.Mask, .int .i64 a.Coef], 2⟩, ⟨some ⟨b1, 0, none⟩, 56, [.int .i64 0, .int .i64 0], 2⟩, ⟨some ⟨b2, 0, none⟩, 56, [.int .i64 0, .int .i64 0], 2⟩] [] := hS3
  refine rw_nil ?_
  refine cw_seq ?_
  refine cw_region ?_
  refine sq 4 rfl rfl (Y_fieldAddr (B := some ⟨b, 0, none⟩) (i := 0) (s := 0) k_fd_73_0_0_3 k_sz_3_1 rfl rfl) ?_
  refine sq 5 rfl rfl (Y_load1 (B := some ⟨b, 0, none⟩) (i := 0) (cs := [.int .i64 a.Mask, .int .i64 a.Coef]) (v := .int .i64 a.Mask) k_sc_3 rfl rfl (hS3.cf (i := 0) rfl) rfl) ?_
  refine sq 6 rfl rfl (Y_fieldAddr (B := some ⟨b2, 0, none⟩) (i := 0) (s := 0) k_fd_56_0_0_3 k_sz_3_1 rfl rfl) ?_
  refine ss0 rfl rfl (Ys_store (i := 2) (s := 1) (B := some ⟨b2, 0, none⟩) (T' := 56) (v := .int .i64 a.Mask) (vs := [.int .i64 a.Mask]) (k := 0) (cs' := [.int .i64 a.Mask, .int .i64 0]) hS3 k_sz_3_1 rfl rfl rfl rfl rfl rfl rfl (Nat.le_of_ble_eq_true rfl) rfl rfl) ?_
  rintro _ w_3 ⟨rfl, hS4⟩
  have hS4 : ST w0 [] _ [⟨some ⟨b, 0, none⟩, 73, [.int .i64 a.Mask, .int .i64 a.Coef], 2⟩, ⟨some ⟨b1, 0, none⟩, 56, [.int .i64 0, .int .i64 0], 2⟩, ⟨some ⟨b2, 0, none⟩, 56, [.int .i64 a.Mask, .int .i64 0], 2⟩] [] := hS4
  refine rw_nil ?_
  refine cw_seq ?_
  refine cw_region ?_
  refine sq 7 rfl rfl (Y_fieldAddr (B := some ⟨b, 0, none⟩) (i := 0) (s := 0) k_fd_73_1_1_3 k_sz_3_1 rfl rfl) ?_
  refine sq 8 rfl rfl (Y_load1 (B := some ⟨b, 0, none⟩) (i := 1) (cs := [.int .i64 a.Mask, .int .i64 a.Coef]) (v := .int .i64 a.Coef) k_sc_3 rfl rfl (hS4.cf (i := 0) rfl) rfl) ?_
  refine sq 9 rfl rfl (Y_fieldAddr (B := some ⟨b2, 0, none⟩) (i := 0) (s := 0) k_fd_56_1_1_3 k_sz_3_1 rfl rfl) ?_
  refine ss0 rfl rfl (Ys_store (i := 2) (s := 1) (B := some ⟨b2, 0, none⟩) (T' := 56) (v := .int .i64 a.Coef) (vs := [.int .i64 a.Coef]) (k := 1) (cs' := [.int .i64 a.Mask, .int .i64 a.Coef]) hS4 k_sz_3_1 rfl rfl rfl rfl rfl rfl rfl (Nat.le_of_ble_eq_true rfl) rfl rfl) ?_
  rintro _ w_4 ⟨rfl, hS5⟩
  have hS5 : ST w0 [] _ [⟨some ⟨b, 0, none⟩, 73, [.int .i64 a.Mask, .int .i64 a.Coef], 2⟩, ⟨some ⟨b1, 0, none⟩, 56, [.int .i64 0, .int .i64 0], 2⟩, ⟨some ⟨b2, 0, none⟩, 56, [.int .i64 a.Mask, .int .i64 a.Coef], 2⟩] [] := hS5
  refine rw_nil ?_
  refine cw_seq ?_
  refine cw_region ?_
  refine sq 10 rfl rfl (Y_loadA (B := some ⟨b2, 0, none⟩) (i := 0) (cs := [.int .i64 a.Mask, .int .i64 a.Coef]) (vs := [.int .i64 a.Mask, .int .i64 a.Coef]) k_ag_56 k_sz_56_2 rfl rfl (hS5.cf (i := 2) rfl) rfl rfl) ?_
  refine ss0 rfl rfl (Ys_store (i := 1) (s := 2) (B := some ⟨b1, 0, none⟩) (T' := 56) (v := .agg #[.int .i64 a.Mask, .int .i64 a.Coef]) (vs := [.int .i64 a.Mask, .int .i64 a.Coef]) (k := 0) (cs' := [.int .i64 a.Mask, .int .i64 a.Coef]) hS5 k_sz_56_2 rfl rfl rfl rfl rfl rfl rfl (Nat.le_of_ble_eq_true rfl) rfl rfl) ?_
  rintro _ w_5 ⟨rfl, hS6⟩
  have hS6 : ST w0 [] _ [⟨some ⟨b, 0, none⟩, 73, [.int .i64 a.Mask, .int .i64 a.Coef], 2⟩, ⟨some ⟨b1, 0, none⟩, 56, [.int .i64 a.Mask, .int .i64 a.Coef], 2⟩, ⟨some ⟨b2, 0, none⟩, 56, [.int .i64 a.Mask, .int .i64 a.Coef], 2⟩] [] := hS6
  refine rw_nil ?_
  refine cw_ret ?_
  obtain rfl := some_inj hF
  exact ret1 Tryd.results42 (v1 := .agg #[.int .i64 a.Mask, .int .i64 a.Coef]) (resAt_cellA (B := some ⟨b1, 0, none⟩) (i := 0) (cs := [.int .i64 a.Mask, .int .i64 a.Coef]) (vs := [.int .i64 a.Mask, .int .i64 a.Coef]) rfl k_ag_56 k_sz_56_2 (hS6.cf (i := 1) rfl) rfl rfl) ⟨rfl, (ST.subR (R' := []) (hS6.sel [] rfl rfl) (fun _ h => by cases h))⟩

theorem c_laws_toTermS (a : List TTerm) (B : Option Addr) (c n : Nat) (w0 : World) (hn : a.length = n) (hS : ST w0 [] w0 [] [⟨B, (a.flatMap enc_Term)⟩]) {r_ : List TTerm} (hF : F_laws_toTermS a = some r_) :
    CV Tryd.prog 18 #[.slice B n c] w0 (fun v w' => ∃ (B1 : Option Addr) (c1 : Nat), v = .slice B1 r_.length c1 ∧ ST w0 [] w' [⟨B1, 56, (r_.flatMap enc_Term), c1 * 2⟩] []) := by
  subst hn
  unfold F_laws_toTermS at hF
  refine cv_of_cw 23 Tryd.func18 rfl Tryd.ntmps18 rfl ?_
  refine cw_seq ?_
  refine cw_region ?_
  refine sq 2 rfl rfl (Y_assign (v := .slice none 0 0) rfl rfl) ?_
  refine rw_nil ?_
  refine cw_seq ?_
  refine cw_region ?_
  refine sq 5 rfl rfl (Y_move (v := .slice B a.length c) rfl rfl) ?_
  refine sq 6 rfl rfl (Y_len (B := B) (m := a.length) (c := c) k_sl_22_73 rfl rfl) ?_
  obtain ⟨hmk, hF⟩ := chk_inv hF
  refine ss 7 rfl rfl (Ys_make (s := 2) (by' := 16) (nn := a.length) (a := (a.length : Int)) (b := (a.length : Int)) (cs := ((List.replicate a.length (TTerm.mk 0 0)).flatMap enc_Term)) hS k_sl_27_56 k_sz_56_2 k_by_56_16 k_zero_56 rfl rfl rfl rfl hmk.1 rfl (by have := hmk; omega) (by have := hmk; omega) (by omega) (fm_rep (enc := enc_Term) (d := (TTerm.mk 0 0)) rfl _)) ?_
  rintro _ w_ ⟨b, rfl, hS1⟩
  refine sq 3 rfl rfl (Y_assign (v := .slice (some ⟨b, 0, none⟩) a.length a.length) rfl rfl) ?_
  refine rw_nil ?_
  refine cw_seq ?_
  refine cw_seq ?_
  refine cw_region ?_
  refine sq 4 rfl rfl (Y_assign (v := .int .i64 0) rfl rfl) ?_
  refine rw_nil ?_
  obtain ⟨hN, hF⟩ := chk_inv hF
  obtain ⟨z, hz, hF1⟩ := bind_inv hF
  refine cw_block ?_
  refine cw_loop (fun k f w => ∃ (i1 : Nat) (out : List TTerm), FF f [(0, .slice B a.length c), (3, .slice (some ⟨b, 0, none⟩) a.length a.length), (4, .int .i64 (i1 : Int))] ∧ out.length = a.length ∧ ST w0 [] w [⟨some ⟨b, 0, none⟩, 56, (out.flatMap enc_Term), a.length * 2⟩] [⟨B, (a.flatMap enc_Term)⟩] ∧ i1 + k = a.length ∧ forN (F_laws_toTermS_l1 a) k i1 out = some z) a.length ⟨0, (List.replicate a.length (TTerm.mk 0 0)), (FF.cons rfl (FF.cons rfl (FF.cons rfl FF.nil))), List.length_replicate, (hS1.sel [0] rfl rfl), Nat.zero_add _, hz⟩ ?_
  rintro k_ f w ⟨i1, out, hf, hl, hS2, hik, hL⟩
  refine cw_seq ?_
  refine cw_seq ?_
  refine cw_region ?_
  refine sq 8 rfl rfl (Y_move (v := .int .i64 (i1 : Int)) rfl (hf.get 4 2 rfl)) ?_
  refine sq 9 rfl rfl (Y_move (v := .slice B a.length c) rfl (hf.get 0 0 rfl)) ?_
  refine sq 10 rfl rfl (Y_len (B := B) (m := a.length) (c := c) k_sl_22_73 rfl rfl) ?_
  refine sq 11 rfl rfl (Y_lt (k := .i64) (a := (i1 : Int)) (b := (a.length : Int)) rfl rfl rfl) ?_
  refine rw_nil ?_
  refine cw_cond (b := (decide ((i1 : Int) < (a.length : Int)))) rfl (fun hlt => ?_) (fun hlt => ?_)
  · skip
    have hlt1 : i1 < a.length := by have h := of_decide_eq_true hlt; omega
    obtain ⟨k_1, rfl⟩ : ∃ k2, k_ = k2 + 1 := ⟨k_ - 1, by omega⟩
    obtain ⟨y, hb, hL1⟩ := forN_go hL
    unfold F_laws_toTermS_l1 at hb
    refine cw_skip ?_
    refine cw_seq ?_
    refine cw_block ?_
    refine cw_region ?_
    refine sq 14 rfl rfl (Y_move (v := .slice (some ⟨b, 0, none⟩) a.length a.length) rfl (hf.get 3 1 rfl)) ?_
    refine sq 15 rfl rfl (Y_move (v := .int .i64 (i1 : Int)) rfl (hf.get 4 2 rfl)) ?_
    refine sq 16 rfl rfl (Y_move (v := .slice B a.length c) rfl (hf.get 0 0 rfl)) ?_
    refine sq 17 rfl rfl (Y_move (v := .int .i64 (i1 : Int)) rfl (hf.get 4 2 rfl)) ?_
    obtain ⟨x, hx, hb⟩ := bind_inv hb
    refine sq 18 rfl rfl (Y_index (B := B) (m := a.length) (c := c) (k := .i64) (i := (i1 : Int)) k_sl_22_73 k_sz_73_2 rfl rfl rfl (gi_isSome enc_Term_len rfl (hS2.rf (i := 0) rfl) hx) (getI_nn hx) (getI_ltI hx rfl)) ?_
    refine sq 19 rfl rfl (Y_loadA (B := B) (i := (i1 : Int).toNat * 2) (cs := (a.flatMap enc_Term)) (vs := [.int .i64 x.Mask, .int .i64 x.Coef]) k_ag_73 k_sz_73_2 rfl rfl (hS2.rf (i := 0) rfl) (enc_Term_len x) (gi_seg enc_Term_len hx)) ?_
    obtain ⟨r_1, hc, hb⟩ := bind_inv hb
    refine sc 20 rfl rfl (Yc_func (g := 42) (vs := [.agg #[.int .i64 x.Mask, .int .i64 x.Coef]]) k_call_42 rfl (mc rfl mn) (c_laws_toTerm x _  (hS2.inn0 [] rfl) hc)) ?_
    rintro _ w_1 ⟨rfl, hd⟩
    have hS3 := hS2.out00 hd
    obtain ⟨x1, hx1, hb⟩ := bind_inv hb
    refine sq 21 rfl rfl (Y_index (B := some ⟨b, 0, none⟩) (m := a.length) (c := a.length) (k := .i64) (i := (i1 : Int)) k_sl_27_56 k_sz_56_2 rfl rfl rfl (gi_isSome enc_Term_len rfl (hS3.cf (i := 0) rfl) hx1) (getI_nn hx1) (getI_ltI hx1 hl)) ?_
    refine ss0 rfl rfl (Ys_store (i := 0) (s := 2) (B := some ⟨b, 0, none⟩) (T' := 56) (v := .agg #[.int .i64 r_1.Mask, .int .i64 r_1.Coef]) (vs := [.int .i64 r_1.Mask, .int .i64 r_1.Coef]) (k := (i1 : Int).toNat * 2) (cs' := ((out.set (i1 : Int).toNat r_1).flatMap enc_Term)) hS3 k_sz_56_2 rfl rfl rfl rfl rfl rfl rfl (gi_fit0 enc_Term_len hx1) (gi_set enc_Term_len hx1 r_1 rfl) rfl) ?_
    rintro _ w_2 ⟨rfl, hS4⟩
    refine rw_nil ?_
    refine cw_region ?_
    refine sq 12 rfl rfl (Y_move (v := .int .i64 (i1 : Int)) rfl (hf.get 4 2 rfl)) ?_
    refine sq 13 rfl rfl (Y_add (k := .i64) (a := (i1 : Int)) (b := 1) rfl rfl rfl) ?_
    refine sq 4 rfl rfl (Y_assign (v := .int .i64 (IntKind.i64.wrap ((i1 : Int) + 1))) rfl rfl) ?_
    refine rw_nil ?_
    obtain rfl := some_inj hb
    exact ⟨k_1, Nat.lt_succ_self _, i1 + 1, (out.set (i1 : Int).toNat r_1), (FF.cons (hf.get 0 0 rfl) (FF.cons (hf.get 3 1 rfl) (FF.cons (congrArg (Value.int .i64) (wr_succ hlt1 hN)) FF.nil))), (set_len _ _ _ hl), (hS4.sel [0] rfl rfl), (by omega), hL1⟩
  · skip
    obtain rfl : k_ = 0 := by have h := of_decide_eq_false hlt; omega
    refine cw_exit rfl ?_
    obtain rfl := some_inj hL
    refine cw_seq ?_
    refine cw_region ?_
    refine sq 22 rfl rfl (Y_move (v := .slice (some ⟨b, 0, none⟩) a.length a.length) rfl (hf.get 3 1 rfl)) ?_
    refine sq 2 rfl rfl (Y_assign (v := .slice (some ⟨b, 0, none⟩) a.length a.length) rfl rfl) ?_
    refine rw_nil ?_
    refine cw_ret ?_
    obtain rfl := some_inj hF1
    exact ret1 Tryd.results18 (v1 := .slice (some ⟨b, 0, none⟩) a.length a.length) (resAt_tmp rfl) ⟨some ⟨b, 0, none⟩, a.length, (sl_eqv hl), (ST.subR (R' := []) (hS2.sel [0] rfl rfl) (fun _ h => by cases h))⟩

theorem c_laws_toAffine (a : TAffine)  (w0 : World)  (hS : ST w0 [] w0 [] []) {r_ : TAffine} (hF : F_laws_toAffine a = some r_) :
    CV Tryd.prog 43 #[.agg #[.int .i64 a.Mask, .int .i64 a.Turn]] w0 (fun v w' => v = .agg #[.int .i64 r_.Mask, .int .i64 r_.Turn] ∧ ST w0 [] w' [] []) := by
  unfold F_laws_toAffine at hF
  refine cv_of_cw 11 Tryd.func43 rfl Tryd.ntmps43 rfl ?_
  refine cw_seq ?_
  refine cw_region ?_
  refine ss 1 rfl rfl (Ys_box (T := 75) (v := .agg #[.int .i64 a.Mask, .int .i64 a.Turn]) (cs := [.int .i64 a.Mask, .int .i64 a.Turn]) (m := 2) hS rfl rfl rfl rfl) ?_
  rintro _ w_ ⟨b, rfl, hS1⟩
  refine ss 2 rfl rfl (Ys_alloc (T := 44) (cs := [.int .i64 0, .int .i64 0]) (m := 2) hS1 k_zero_44 rfl rfl rfl) ?_
  rintro _ w_1 ⟨b1, rfl, hS2⟩
  have hS2 : ST w0 [] _ [⟨some ⟨b, 0, none⟩, 75, [.int .i64 a.Mask, .int .i64 a.Turn], 2⟩, ⟨some ⟨b1, 0, none⟩, 44, [.int .i64 0, .int .i64 0], 2⟩] [] := hS2
  refine rw_nil ?_
  refine cw_seq ?_
  refine cw_region ?_
  refine ss 3 rfl rfl (Ys_alloc (T := 44) (cs := [.int .i64 0, .int .i64 0]) (m := 2) hS2 k_zero_44 rfl rfl rfl) ?_
  rintro _ w_2 ⟨b2, rfl, hS3⟩
  have hS3 : ST w0 [] _ [⟨some ⟨b, 0, none⟩, 75, [.int .i64 a.Mask, .int .i64 a.Turn], 2⟩, ⟨some ⟨b1, 0, none⟩, 44, [.int .i64 0, .int .i64 0], 2⟩, ⟨some ⟨b2, 0, none⟩, 44, [.int .i64 0, .int .i64 0], 2⟩] [] := hS3
  refine rw_nil ?_
  refine cw_seq ?_
  refine cw_region ?_
  refine sq 4 rfl rfl (Y_fieldAddr (B := some ⟨b, 0, none⟩) (i := 0) (s := 0) k_fd_75_0_0_3 k_sz_3_1 rfl rfl) ?_
  refine sq 5 rfl rfl (Y_load1 (B := some ⟨b, 0, none⟩) (i := 0) (cs := [.int .i64 a.Mask, .int .i64 a.Turn]) (v := .int .i64 a.Mask) k_sc_3 rfl rfl (hS3.cf (i := 0) rfl) rfl) ?_
  refine sq 6 rfl rfl (Y_fieldAddr (B := some ⟨b2, 0, none⟩) (i := 0) (s := 0) k_fd_44_0_0_3 k_sz_3_1 rfl rfl) ?_
  refine ss0 rfl rfl (Ys_store (i := 2) (s := 1) (B := some ⟨b2, 0, none⟩) (T' := 44) (v := .int .i64 a.Mask) (vs := [.int .i64 a.Mask]) (k := 0) (cs' := [.int .i64 a.Mask, .int .i64 0]) hS3 k_sz_3_1 rfl rfl rfl rfl rfl rfl rfl (Nat.le_of_ble_eq_true rfl) rfl rfl) ?_
  rintro _ w_3 ⟨rfl, hS4⟩
  have hS4 : ST w0 [] _ [⟨some ⟨b, 0, none⟩, 75, [.int .i64 a.Mask, .int .i64 a.Turn], 2⟩, ⟨some ⟨b1, 0, none⟩, 44, [.int .i64 0, .int .i64 0], 2⟩, ⟨some ⟨b2, 0, none⟩, 44, [.int .i64 a.Mask, .int .i64 0], 2⟩] [] := hS4
  refine rw_nil ?_
  refine cw_seq ?_
  refine cw_region ?_
  refine sq 7 rfl rfl (Y_fieldAddr (B := some ⟨b, 0, none⟩) (i := 0) (s := 0) k_fd_75_1_1_3 k_sz_3_1 rfl rfl) ?_
  refine sq 8 rfl rfl (Y_load1 (B := some ⟨b, 0, none⟩) (i := 1) (cs := [.int .i64 a.Mask, .int .i64 a.Turn]) (v := .int .i64 a.Turn) k_sc_3 rfl rfl (hS4.cf (i := 0) rfl) rfl) ?_
  refine sq 9 rfl rfl (Y_fieldAddr (B := some ⟨b2, 0, none⟩) (i := 0) (s := 0) k_fd_44_1_1_3 k_sz_3_1 rfl rfl) ?_
  refine ss0 rfl rfl (Ys_store (i := 2) (s := 1) (B := some ⟨b2, 0, none⟩) (T' := 44) (v := .int .i64 a.Turn) (vs := [.int .i64 a.Turn]) (k := 1) (cs' := [.int .i64 a.Mask, .int .i64 a.Turn]) hS4 k_sz_3_1 rfl rfl rfl rfl rfl rfl rfl (Nat.le_of_ble_eq_true rfl) rfl rfl) ?_
  rintro _ w_4 ⟨rfl, hS5⟩
  have hS5 : ST w0 [] _ [⟨some ⟨b, 0, none⟩, 75, [.int .i64 a.Mask, .int .i64 a.Turn], 2⟩, ⟨some ⟨b1, 0, none⟩, 44, [.int .i64 0, .int .i64 0], 2⟩, ⟨some ⟨b2, 0, none⟩, 44, [.int .i64 a.Mask, .int .i64 a.Turn], 2⟩] [] := hS5
  refine rw_nil ?_
  refine cw_seq ?_
  refine cw_region ?_
  refine sq 10 rfl rfl (Y_loadA (B := some ⟨b2, 0, none⟩) (i := 0) (cs := [.int .i64 a.Mask, .int .i64 a.Turn]) (vs := [.int .i64 a.Mask, .int .i64 a.Turn]) k_ag_44 k_sz_44_2 rfl rfl (hS5.cf (i := 2) rfl) rfl rfl) ?_
  refine ss0 rfl rfl (Ys_store (i := 1) (s := 2) (B := some ⟨b1, 0, none⟩) (T' := 44) (v := .agg #[.int .i64 a.Mask, .int .i64 a.Turn]) (vs := [.int .i64 a.Mask, .int .i64 a.Turn]) (k := 0) (cs' := [.int .i64 a.Mask, .int .i64 a.Turn]) hS5 k_sz_44_2 rfl rfl rfl rfl rfl rfl rfl (Nat.le_of_ble_eq_true rfl) rfl rfl) ?_
  rintro _ w_5 ⟨rfl, hS6⟩
  have hS6 : ST w0 [] _ [⟨some ⟨b, 0, none⟩, 75, [.int .i64 a.Mask, .int .i64 a.Turn], 2⟩, ⟨some ⟨b1, 0, none⟩, 44, [.int .i64 a.Mask, .int .i64 a.Turn], 2⟩, ⟨some ⟨b2, 0, none⟩, 44, [.int .i64 a.Mask, .int .i64 a.Turn], 2⟩] [] := hS6
  refine rw_nil ?_
  refine cw_ret ?_
  obtain rfl := some_inj hF
  exact ret1 Tryd.results43 (v1 := .agg #[.int .i64 a.Mask, .int .i64 a.Turn]) (resAt_cellA (B := some ⟨b1, 0, none⟩) (i := 0) (cs := [.int .i64 a.Mask, .int .i64 a.Turn]) (vs := [.int .i64 a.Mask, .int .i64 a.Turn]) rfl k_ag_44 k_sz_44_2 (hS6.cf (i := 1) rfl) rfl rfl) ⟨rfl, (ST.subR (R' := []) (hS6.sel [] rfl rfl) (fun _ h => by cases h))⟩

theorem c_laws_toAffineS (a : List TAffine) (B : Option Addr) (c n : Nat) (w0 : World) (hn : a.length = n) (hS : ST w0 [] w0 [] [⟨B, (a.flatMap enc_Affine)⟩]) {r_ : List TAffine} (hF : F_laws_toAffineS a = some r_) :
    CV Tryd.prog 19 #[.slice B n c] w0 (fun v w' => ∃ (B1 : Option Addr) (c1 : Nat), v = .slice B1 r_.length c1 ∧ ST w0 [] w' [⟨B1, 44, (r_.flatMap enc_Affine), c1 * 2⟩] []) := by
  subst hn
  unfold F_laws_toAffineS at hF
  refine cv_of_cw 23 Tryd.func19 rfl Tryd.ntmps19 rfl ?_
  refine cw_seq ?_
  refine cw_region ?_
  refine sq 2 rfl rfl (Y_assign (v := .slice none 0 0) rfl rfl) ?_
  refine rw_nil ?_
  refine cw_seq ?_
  refine cw_region ?_
  refine sq 5 rfl rfl (Y_move (v := .slice B a.length c) rfl rfl) ?_
  refine sq 6 rfl rfl (Y_len (B := B) (m := a.length) (c := c) k_sl_23_75 rfl rfl) ?_
  obtain ⟨hmk, hF⟩ := chk_inv hF
  refine ss 7 rfl rfl (Ys_make (s := 2) (by' := 16) (nn := a.length) (a := (a.length : Int)) (b := (a.length : Int)) (cs := ((List.replicate a.length (TAffine.mk 0 0)).flatMap enc_Affine)) hS k_sl_28_44 k_sz_44_2 k_by_44_16 k_zero_44 rfl rfl rfl rfl hmk.1 rfl (by have := hmk; omega) (by have := hmk; omega) (by omega) (fm_rep (enc := enc_Affine) (d := (TAffine.mk 0 0)) rfl _)) ?_
  rintro _ w_ ⟨b, rfl, hS1⟩
  refine sq 3 rfl rfl (Y_assign (v := .slice (some ⟨b, 0, none⟩) a.length a.length) rfl rfl) ?_
  refine rw_nil ?_
  refine cw_seq ?_
  refine cw_seq ?_
  refine cw_region ?_
  refine sq 4 rfl rfl (Y_assign (v := .int .i64 0) rfl rfl) ?_
  refine rw_nil ?_
  obtain ⟨hN, hF⟩ := chk_inv hF
  obtain ⟨z, hz, hF1⟩ := bind_inv hF
  refine cw_block ?_
  refine cw_loop (fun k f w => ∃ (i1 : Nat) (out : List TAffine), FF f [(0, .slice B a.length c), (3, .slice (some ⟨b, 0, none⟩) a.length a.length), (4, .int .i64 (i1 : Int))] ∧ out.length = a.length ∧ ST w0 [] w [⟨some ⟨b, 0, none⟩, 44, (out.flatMap enc_Affine), a.length * 2⟩] [⟨B, (a.flatMap enc_Affine)⟩] ∧ i1 + k = a.length ∧ forN (F_laws_toAffineS_l1 a) k i1 out = some z) a.length ⟨0, (List.replicate a.length (TAffine.mk 0 0)), (FF.cons rfl (FF.cons rfl (FF.cons rfl FF.nil))), List.length_replicate, (hS1.sel [0] rfl rfl), Nat.zero_add _, hz⟩ ?_
  rintro k_ f w ⟨i1, out, hf, hl, hS2, hik, hL⟩
  refine cw_seq ?_
  refine cw_seq ?_
  refine cw_region ?_
  refine sq 8 rfl rfl (Y_move (v := .int .i64 (i1 : Int)) rfl (hf.get 4 2 rfl)) ?_
  refine sq 9 rfl rfl (Y_move (v := .slice B a.length c) rfl (hf.get 0 0 rfl)) ?_
  refine sq 10 rfl rfl (Y_len (B := B) (m := a.length) (c := c) k_sl_23_75 rfl rfl) ?_
  refine sq 11 rfl rfl (Y_lt (k := .i64) (a := (i1 : Int)) (b := (a.length : Int)) rfl rfl rfl) ?_
  refine rw_nil ?_
  refine cw_cond (b := (decide ((i1 : Int) < (a.length : Int)))) rfl (fun hlt => ?_) (fun hlt => ?_)
  · skip
    have hlt1 : i1 < a.length := by have h := of_decide_eq_true hlt; omega
    obtain ⟨k_1, rfl⟩ : ∃ k2, k_ = k2 + 1 := ⟨k_ - 1, by omega⟩
    obtain ⟨y, hb, hL1⟩ := forN_go hL
    unfold F_laws_toAffineS_l1 at hb
    refine cw_skip ?_
    refine cw_seq ?_
    refine cw_block ?_
    refine cw_region ?_
    refine sq 14 rfl rfl (Y_move (v := .slice (some ⟨b, 0, none⟩) a.length a.length) rfl (hf.get 3 1 rfl)) ?_
    refine sq 15 rfl rfl (Y_move (v := .int .i64 (i1 : Int)) rfl (hf.get 4 2 rfl)) ?_
    refine sq 16 rfl rfl (Y_move (v := .slice B a.length c) rfl (hf.get 0 0 rfl)) ?_
    refine sq 17 rfl rfl (Y_move (v := .int .i64 (i1 : Int)) rfl (hf.get 4 2 rfl)) ?_
    obtain ⟨x, hx, hb⟩ := bind_inv hb
    refine sq 18 rfl rfl (Y_index (B := B) (m := a.length) (c := c) (k := .i64) (i := (i1 : Int)) k_sl_23_75 k_sz_75_2 rfl rfl rfl (gi_isSome enc_Affine_len rfl (hS2.rf (i := 0) rfl) hx) (getI_nn hx) (getI_ltI hx rfl)) ?_
    refine sq 19 rfl rfl (Y_loadA (B := B) (i := (i1 : Int).toNat * 2) (cs := (a.flatMap enc_Affine)) (vs := [.int .i64 x.Mask, .int .i64 x.Turn]) k_ag_75 k_sz_75_2 rfl rfl (hS2.rf (i := 0) rfl) (enc_Affine_len x) (gi_seg enc_Affine_len hx)) ?_
    obtain ⟨r_1, hc, hb⟩ := bind_inv hb
    refine sc 20 rfl rfl (Yc_func (g := 43) (vs := [.agg #[.int .i64 x.Mask, .int .i64 x.Turn]]) k_call_43 rfl (mc rfl mn) (c_laws_toAffine x _  (hS2.inn0 [] rfl) hc)) ?_
    rintro _ w_1 ⟨rfl, hd⟩
    have hS3 := hS2.out00 hd
    obtain ⟨x1, hx1, hb⟩ := bind_inv hb
    refine sq 21 rfl rfl (Y_index (B := some ⟨b, 0, none⟩) (m := a.length) (c := a.length) (k := .i64) (i := (i1 : Int)) k_sl_28_44 k_sz_44_2 rfl rfl rfl (gi_isSome enc_Affine_len rfl (hS3.cf (i := 0) rfl) hx1) (getI_nn hx1) (getI_ltI hx1 hl)) ?_
    refine ss0 rfl rfl (Ys_store (i := 0) (s := 2) (B := some ⟨b, 0, none⟩) (T' := 44) (v := .agg #[.int .i64 r_1.Mask, .int .i64 r_1.Turn]) (vs := [.int .i64 r_1.Mask, .int .i64 r_1.Turn]) (k := (i1 : Int).toNat * 2) (cs' := ((out.set (i1 : Int).toNat r_1).flatMap enc_Affine)) hS3 k_sz_44_2 rfl rfl rfl rfl rfl rfl rfl (gi_fit0 enc_Affine_len hx1) (gi_set enc_Affine_len hx1 r_1 rfl) rfl) ?_
    rintro _ w_2 ⟨rfl, hS4⟩
    refine rw_nil ?_
    refine cw_region ?_
    refine sq 12 rfl rfl (Y_move (v := .int .i64 (i1 : Int)) rfl (hf.get 4 2 rfl)) ?_
    refine sq 13 rfl rfl (Y_add (k := .i64) (a := (i1 : Int)) (b := 1) rfl rfl rfl) ?_
    refine sq 4 rfl rfl (Y_assign (v := .int .i64 (IntKind.i64.wrap ((i1 : Int) + 1))) rfl rfl) ?_
    refine rw_nil ?_
    obtain rfl := some_inj hb
    exact ⟨k_1, Nat.lt_succ_self _, i1 + 1, (out.set (i1 : Int).toNat r_1), (FF.cons (hf.get 0 0 rfl) (FF.cons (hf.get 3 1 rfl) (FF.cons (congrArg (Value.int .i64) (wr_succ hlt1 hN)) FF.nil))), (set_len _ _ _ hl), (hS4.sel [0] rfl rfl), (by omega), hL1⟩
  · skip
    obtain rfl : k_ = 0 := by have h := of_decide_eq_false hlt; omega
    refine cw_exit rfl ?_
    obtain rfl := some_inj hL
    refine cw_seq ?_
    refine cw_region ?_
    refine sq 22 rfl rfl (Y_move (v := .slice (some ⟨b, 0, none⟩) a.length a.length) rfl (hf.get 3 1 rfl)) ?_
    refine sq 2 rfl rfl (Y_assign (v := .slice (some ⟨b, 0, none⟩) a.length a.length) rfl rfl) ?_
    refine rw_nil ?_
    refine cw_ret ?_
    obtain rfl := some_inj hF1
    exact ret1 Tryd.results19 (v1 := .slice (some ⟨b, 0, none⟩) a.length a.length) (resAt_tmp rfl) ⟨some ⟨b, 0, none⟩, a.length, (sl_eqv hl), (ST.subR (R' := []) (hS2.sel [0] rfl rfl) (fun _ h => by cases h))⟩

theorem c_laws_toPathSum (a : TPathSum) (B : Option Addr) (c n : Nat) (B1 : Option Addr) (c1 n1 : Nat) (w0 : World) (hn : a.Terms.length = n) (hn1 : a.Out.length = n1) (hS : ST w0 [] w0 [] [⟨B, (a.Terms.flatMap enc_Term)⟩, ⟨B1, (a.Out.flatMap enc_Affine)⟩]) {r_ : TPathSum} (hF : F_laws_toPathSum a = some r_) :
    CV Tryd.prog 7 #[.agg #[.int .i64 a.Ins, .int .i64 a.Vars, .int .i64 a.Root, .int .i64 a.Phase, .slice B n c, .slice B1 n1 c1]] w0 (fun v w' => ∃ (B2 : Option Addr) (c2 : Nat) (B3 : Option Addr) (c3 : Nat), v = .agg #[.int .i64 r_.Ins, .int .i64 r_.Vars, .int .i64 r_.Root, .int .i64 r_.Phase, .slice B2 r_.Terms.length c2, .slice B3 r_.Out.length c3] ∧ ST w0 [] w' [⟨B2, 56, (r_.Terms.flatMap enc_Term), c2 * 2⟩, ⟨B3, 44, (r_.Out.flatMap enc_Affine), c3 * 2⟩] []) := by
  subst hn
  subst hn1
  unfold F_laws_toPathSum at hF
  refine cv_of_cw 25 Tryd.func7 rfl Tryd.ntmps7 rfl ?_
  refine cw_seq ?_
  refine cw_region ?_
  refine ss 1 rfl rfl (Ys_box (T := 25) (v := .agg #[.int .i64 a.Ins, .int .i64 a.Vars, .int .i64 a.Root, .int .i64 a.Phase, .slice B a.Terms.length c, .slice B1 a.Out.length c1]) (cs := [.int .i64 a.Ins, .int .i64 a.Vars, .int .i64 a.Root, .int .i64 a.Phase, .slice B a.Terms.length c, .slice B1 a.Out.length c1]) (m := 6) hS rfl rfl rfl rfl) ?_
  rintro _ w_ ⟨b, rfl, hS1⟩
  refine ss 2 rfl rfl (Ys_alloc (T := 30) (cs := [.int .i64 0, .int .i64 0, .int .i64 0, .int .i64 0, .slice none 0 0, .slice none 0 0]) (m := 6) hS1 k_zero_30 rfl rfl rfl) ?_
  rintro _ w_1 ⟨b1, rfl, hS2⟩
  have hS2 : ST w0 [] _ [⟨some ⟨b, 0, none⟩, 25, [.int .i64 a.Ins, .int .i64 a.Vars, .int .i64 a.Root, .int .i64 a.Phase, .slice B a.Terms.length c, .slice B1 a.Out.length c1], 6⟩, ⟨some ⟨b1, 0, none⟩, 30, [.int .i64 0, .int .i64 0, .int .i64 0, .int .i64 0, .slice none 0 0, .slice none 0 0], 6⟩] [⟨B, (a.Terms.flatMap enc_Term)⟩, ⟨B1, (a.Out.flatMap enc_Affine)⟩] := hS2
  refine rw_nil ?_
  refine cw_seq ?_
  refine cw_region ?_
  refine ss 3 rfl rfl (Ys_alloc (T := 30) (cs := [.int .i64 0, .int .i64 0, .int .i64 0, .int .i64 0, .slice none 0 0, .slice none 0 0]) (m := 6) hS2 k_zero_30 rfl rfl rfl) ?_
  rintro _ w_2 ⟨b2, rfl, hS3⟩
  have hS3 : ST w0 [] _ [⟨some ⟨b, 0, none⟩, 25, [.int .i64 a.Ins, .int .i64 a.Vars, .int .i64 a.Root, .int .i64 a.Phase, .slice B a.Terms.length c, .slice B1 a.Out.length c1], 6⟩, ⟨some ⟨b1, 0, none⟩, 30, [.int .i64 0, .int .i64 0, .int .i64 0, .int .i64 0, .slice none 0 0, .slice none 0 0], 6⟩, ⟨some ⟨b2, 0, none⟩, 30, [.int .i64 0, .int .i64 0, .int .i64 0, .int .i64 0, .slice none 0 0, .slice none 0 0], 6⟩] [⟨B, (a.Terms.flatMap enc_Term)⟩, ⟨B1, (a.Out.flatMap enc_Affine)⟩] := hS3
  refine rw_nil ?_
  refine cw_seq ?_
  refine cw_region ?_
  refine sq 4 rfl rfl (Y_fieldAddr (B := some ⟨b, 0, none⟩) (i := 0) (s := 0) k_fd_25_0_0_3 k_sz_3_1 rfl rfl) ?_
  refine sq 5 rfl rfl (Y_load1 (B := some ⟨b, 0, none⟩) (i := 0) (cs := [.int .i64 a.Ins, .int .i64 a.Vars, .int .i64 a.Root, .int .i64 a.Phase, .slice B a.Terms.length c, .slice B1 a.Out.length c1]) (v := .int .i64 a.Ins) k_sc_3 rfl rfl (hS3.cf (i := 0) rfl) rfl) ?_
  refine sq 6 rfl rfl (Y_fieldAddr (B := some ⟨b2, 0, none⟩) (i := 0) (s := 0) k_fd_30_0_0_3 k_sz_3_1 rfl rfl) ?_
  refine ss0 rfl rfl (Ys_store (i := 2) (s := 1) (B := some ⟨b2, 0, none⟩) (T' := 30) (v := .int .i64 a.Ins) (vs := [.int .i64 a.Ins]) (k := 0) (cs' := [.int .i64 a.Ins, .int .i64 0, .int .i64 0, .int .i64 0, .slice none 0 0, .slice none 0 0]) hS3 k_sz_3_1 rfl rfl rfl rfl rfl rfl rfl (Nat.le_of_ble_eq_true rfl) rfl rfl) ?_
  rintro _ w_3 ⟨rfl, hS4⟩
  have hS4 : ST w0 [] _ [⟨some ⟨b, 0, none⟩, 25, [.int .i64 a.Ins, .int .i64 a.Vars, .int .i64 a.Root, .int .i64 a.Phase, .slice B a.Terms.length c, .slice B1 a.Out.length c1], 6⟩, ⟨some ⟨b1, 0, none⟩, 30, [.int .i64 0, .int .i64 0, .int .i64 0, .int .i64 0, .slice none 0 0, .slice none 0 0], 6⟩, ⟨some ⟨b2, 0, none⟩, 30, [.int .i64 a.Ins, .int .i64 0, .int .i64 0, .int .i64 0, .slice none 0 0, .slice none 0 0], 6⟩] [⟨B, (a.Terms.flatMap enc_Term)⟩, ⟨B1, (a.Out.flatMap enc_Affine)⟩] := hS4
  refine rw_nil ?_
  refine cw_seq ?_
  refine cw_region ?_
  refine sq 7 rfl rfl (Y_fieldAddr (B := some ⟨b, 0, none⟩) (i := 0) (s := 0) k_fd_25_1_1_3 k_sz_3_1 rfl rfl) ?_
  refine sq 8 rfl rfl (Y_load1 (B := some ⟨b, 0, none⟩) (i := 1) (cs := [.int .i64 a.Ins, .int .i64 a.Vars, .int .i64 a.Root, .int .i64 a.Phase, .slice B a.Terms.length c, .slice B1 a.Out.length c1]) (v := .int .i64 a.Vars) k_sc_3 rfl rfl (hS4.cf (i := 0) rfl) rfl) ?_
  refine sq 9 rfl rfl (Y_fieldAddr (B := some ⟨b2, 0, none⟩) (i := 0) (s := 0) k_fd_30_1_1_3 k_sz_3_1 rfl rfl) ?_
  refine ss0 rfl rfl (Ys_store (i := 2) (s := 1) (B := some ⟨b2, 0, none⟩) (T' := 30) (v := .int .i64 a.Vars) (vs := [.int .i64 a.Vars]) (k := 1) (cs' := [.int .i64 a.Ins, .int .i64 a.Vars, .int .i64 0, .int .i64 0, .slice none 0 0, .slice none 0 0]) hS4 k_sz_3_1 rfl rfl rfl rfl rfl rfl rfl (Nat.le_of_ble_eq_true rfl) rfl rfl) ?_
  rintro _ w_4 ⟨rfl, hS5⟩
  have hS5 : ST w0 [] _ [⟨some ⟨b, 0, none⟩, 25, [.int .i64 a.Ins, .int .i64 a.Vars, .int .i64 a.Root, .int .i64 a.Phase, .slice B a.Terms.length c, .slice B1 a.Out.length c1], 6⟩, ⟨some ⟨b1, 0, none⟩, 30, [.int .i64 0, .int .i64 0, .int .i64 0, .int .i64 0, .slice none 0 0, .slice none 0 0], 6⟩, ⟨some ⟨b2, 0, none⟩, 30, [.int .i64 a.Ins, .int .i64 a.Vars, .int .i64 0, .int .i64 0, .slice none 0 0, .slice none 0 0], 6⟩] [⟨B, (a.Terms.flatMap enc_Term)⟩, ⟨B1, (a.Out.flatMap enc_Affine)⟩] := hS5
  refine rw_nil ?_
  refine cw_seq ?_
  refine cw_region ?_
  refine sq 10 rfl rfl (Y_fieldAddr (B := some ⟨b, 0, none⟩) (i := 0) (s := 0) k_fd_25_2_2_3 k_sz_3_1 rfl rfl) ?_
  refine sq 11 rfl rfl (Y_load1 (B := some ⟨b, 0, none⟩) (i := 2) (cs := [.int .i64 a.Ins, .int .i64 a.Vars, .int .i64 a.Root, .int .i64 a.Phase, .slice B a.Terms.length c, .slice B1 a.Out.length c1]) (v := .int .i64 a.Root) k_sc_3 rfl rfl (hS5.cf (i := 0) rfl) rfl) ?_
  refine sq 12 rfl rfl (Y_fieldAddr (B := some ⟨b2, 0, none⟩) (i := 0) (s := 0) k_fd_30_2_2_3 k_sz_3_1 rfl rfl) ?_
  refine ss0 rfl rfl (Ys_store (i := 2) (s := 1) (B := some ⟨b2, 0, none⟩) (T' := 30) (v := .int .i64 a.Root) (vs := [.int .i64 a.Root]) (k := 2) (cs' := [.int .i64 a.Ins, .int .i64 a.Vars, .int .i64 a.Root, .int .i64 0, .slice none 0 0, .slice none 0 0]) hS5 k_sz_3_1 rfl rfl rfl rfl rfl rfl rfl (Nat.le_of_ble_eq_true rfl) rfl rfl) ?_
  rintro _ w_5 ⟨rfl, hS6⟩
  have hS6 : ST w0 [] _ [⟨some ⟨b, 0, none⟩, 25, [.int .i64 a.Ins, .int .i64 a.Vars, .int .i64 a.Root, .int .i64 a.Phase, .slice B a.Terms.length c, .slice B1 a.Out.length c1], 6⟩, ⟨some ⟨b1, 0, none⟩, 30, [.int .i64 0, .int .i64 0, .int .i64 0, .int .i64 0, .slice none 0 0, .slice none 0 0], 6⟩, ⟨some ⟨b2, 0, none⟩, 30, [.int .i64 a.Ins, .int .i64 a.Vars, .int .i64 a.Root, .int .i64 0, .slice none 0 0, .slice none 0 0], 6⟩] [⟨B, (a.Terms.flatMap enc_Term)⟩, ⟨B1, (a.Out.flatMap enc_Affine)⟩] := hS6
  refine rw_nil ?_
  refine cw_seq ?_
  refine cw_region ?_
  refine sq 13 rfl rfl (Y_fieldAddr (B := some ⟨b, 0, none⟩) (i := 0) (s := 0) k_fd_25_3_3_3 k_sz_3_1 rfl rfl) ?_
  refine sq 14 rfl rfl (Y_load1 (B := some ⟨b, 0, none⟩) (i := 3) (cs := [.int .i64 a.Ins, .int .i64 a.Vars, .int .i64 a.Root, .int .i64 a.Phase, .slice B a.Terms.length c, .slice B1 a.Out.length c1]) (v := .int .i64 a.Phase) k_sc_3 rfl rfl (hS6.cf (i := 0) rfl) rfl) ?_
  refine sq 15 rfl rfl (Y_fieldAddr (B := some ⟨b2, 0, none⟩) (i := 0) (s := 0) k_fd_30_3_3_3 k_sz_3_1 rfl rfl) ?_
  refine ss0 rfl rfl (Ys_store (i := 2) (s := 1) (B := some ⟨b2, 0, none⟩) (T' := 30) (v := .int .i64 a.Phase) (vs := [.int .i64 a.Phase]) (k := 3) (cs' := [.int .i64 a.Ins, .int .i64 a.Vars, .int .i64 a.Root, .int .i64 a.Phase, .slice none 0 0, .slice none 0 0]) hS6 k_sz_3_1 rfl rfl rfl rfl rfl rfl rfl (Nat.le_of_ble_eq_true rfl) rfl rfl) ?_
  rintro _ w_6 ⟨rfl, hS7⟩
  have hS7 : ST w0 [] _ [⟨some ⟨b, 0, none⟩, 25, [.int .i64 a.Ins, .int .i64 a.Vars, .int .i64 a.Root, .int .i64 a.Phase, .slice B a.Terms.length c, .slice B1 a.Out.length c1], 6⟩, ⟨some ⟨b1, 0, none⟩, 30, [.int .i64 0, .int .i64 0, .int .i64 0, .int .i64 0, .slice none 0 0, .slice none 0 0], 6⟩, ⟨some ⟨b2, 0, none⟩, 30, [.int .i64 a.Ins, .int .i64 a.Vars, .int .i64 a.Root, .int .i64 a.Phase, .slice none 0 0, .slice none 0 0], 6⟩] [⟨B, (a.Terms.flatMap enc_Term)⟩, ⟨B1, (a.Out.flatMap enc_Affine)⟩] := hS7
  refine rw_nil ?_
  refine cw_seq ?_
  refine cw_region ?_
  refine sq 16 rfl rfl (Y_fieldAddr (B := some ⟨b, 0, none⟩) (i := 0) (s := 0) k_fd_25_4_4_22 k_sz_22_1 rfl rfl) ?_
  refine sq 17 rfl rfl (Y_load1 (B := some ⟨b, 0, none⟩) (i := 4) (cs := [.int .i64 a.Ins, .int .i64 a.Vars, .int .i64 a.Root, .int .i64 a.Phase, .slice B a.Terms.length c, .slice B1 a.Out.length c1]) (v := .slice B a.Terms.length c) k_sc_22 rfl rfl (hS7.cf (i := 0) rfl) rfl) ?_
  obtain ⟨r_1, hc, hF⟩ := bind_inv hF
  refine sc 18 rfl rfl (Yc_func (g := 18) (vs := [.slice B a.Terms.length c]) k_call_18 rfl (mc rfl mn) (c_laws_toTermS a.Terms B c a.Terms.length _ rfl (hS7.inn0 [(true, 0)] rfl) hc)) ?_
  rintro _ w_7 ⟨B4, c4, rfl, hd⟩
  have hS8 := hS7.out0 hd
  have hS8 : ST w0 [] _ [⟨some ⟨b, 0, none⟩, 25, [.int .i64 a.Ins, .int .i64 a.Vars, .int .i64 a.Root, .int .i64 a.Phase, .slice B a.Terms.length c, .slice B1 a.Out.length c1], 6⟩, ⟨some ⟨b1, 0, none⟩, 30, [.int .i64 0, .int .i64 0, .int .i64 0, .int .i64 0, .slice none 0 0, .slice none 0 0], 6⟩, ⟨some ⟨b2, 0, none⟩, 30, [.int .i64 a.Ins, .int .i64 a.Vars, .int .i64 a.Root, .int .i64 a.Phase, .slice none 0 0, .slice none 0 0], 6⟩, ⟨B4, 56, (r_1.flatMap enc_Term), c4 * 2⟩] [⟨B, (a.Terms.flatMap enc_Term)⟩, ⟨B1, (a.Out.flatMap enc_Affine)⟩] := hS8
  refine sq 19 rfl rfl (Y_fieldAddr (B := some ⟨b2, 0, none⟩) (i := 0) (s := 0) k_fd_30_4_4_27 k_sz_27_1 rfl rfl) ?_
  refine ss0 rfl rfl (Ys_store (i := 2) (s := 1) (B := some ⟨b2, 0, none⟩) (T' := 30) (v := .slice B4 r_1.length c4) (vs := [.slice B4 r_1.length c4]) (k := 4) (cs' := [.int .i64 a.Ins, .int .i64 a.Vars, .int .i64 a.Root, .int .i64 a.Phase, .slice B4 r_1.length c4, .slice none 0 0]) hS8 k_sz_27_1 rfl rfl rfl rfl rfl rfl rfl (Nat.le_of_ble_eq_true rfl) rfl rfl) ?_
  rintro _ w_8 ⟨rfl, hS9⟩
  have hS9 : ST w0 [] _ [⟨some ⟨b, 0, none⟩, 25, [.int .i64 a.Ins, .int .i64 a.Vars, .int .i64 a.Root, .int .i64 a.Phase, .slice B a.Terms.length c, .slice B1 a.Out.length c1], 6⟩, ⟨some ⟨b1, 0, none⟩, 30, [.int .i64 0, .int .i64 0, .int .i64 0, .int .i64 0, .slice none 0 0, .slice none 0 0], 6⟩, ⟨some ⟨b2, 0, none⟩, 30, [.int .i64 a.Ins, .int .i64 a.Vars, .int .i64 a.Root, .int .i64 a.Phase, .slice B4 r_1.length c4, .slice none 0 0], 6⟩, ⟨B4, 56, (r_1.flatMap enc_Term), c4 * 2⟩] [⟨B, (a.Terms.flatMap enc_Term)⟩, ⟨B1, (a.Out.flatMap enc_Affine)⟩] := hS9
  refine rw_nil ?_
  refine cw_seq ?_
  refine cw_region ?_
  refine sq 20 rfl rfl (Y_fieldAddr (B := some ⟨b, 0, none⟩) (i := 0) (s := 0) k_fd_25_5_5_23 k_sz_23_1 rfl rfl) ?_
  refine sq 21 rfl rfl (Y_load1 (B := some ⟨b, 0, none⟩) (i := 5) (cs := [.int .i64 a.Ins, .int .i64 a.Vars, .int .i64 a.Root, .int .i64 a.Phase, .slice B a.Terms.length c, .slice B1 a.Out.length c1]) (v := .slice B1 a.Out.length c1) k_sc_23 rfl rfl (hS9.cf (i := 0) rfl) rfl) ?_
  obtain ⟨r_2, hc1, hF⟩ := bind_inv hF
  refine sc 22 rfl rfl (Yc_func (g := 19) (vs := [.slice B1 a.Out.length c1]) k_call_19 rfl (mc rfl mn) (c_laws_toAffineS a.Out B1 c1 a.Out.length _ rfl (hS9.inn0 [(true, 1)] rfl) hc1)) ?_
  rintro _ w_9 ⟨B5, c5, rfl, hd1⟩
  have hS10 := hS9.out0 hd1
  have hS10 : ST w0 [] _ [⟨some ⟨b, 0, none⟩, 25, [.int .i64 a.Ins, .int .i64 a.Vars, .int .i64 a.Root, .int .i64 a.Phase, .slice B a.Terms.length c, .slice B1 a.Out.length c1], 6⟩, ⟨some ⟨b1, 0, none⟩, 30, [.int .i64 0, .int .i64 0, .int .i64 0, .int .i64 0, .slice none 0 0, .slice none 0 0], 6⟩, ⟨some ⟨b2, 0, none⟩, 30, [.int .i64 a.Ins, .int .i64 a.Vars, .int .i64 a.Root, .int .i64 a.Phase, .slice B4 r_1.length c4, .slice none 0 0], 6⟩, ⟨B4, 56, (r_1.flatMap enc_Term), c4 * 2⟩, ⟨B5, 44, (r_2.flatMap enc_Affine), c5 * 2⟩] [⟨B, (a.Terms.flatMap enc_Term)⟩, ⟨B1, (a.Out.flatMap enc_Affine)⟩] := hS10
  refine sq 23 rfl rfl (Y_fieldAddr (B := some ⟨b2, 0, none⟩) (i := 0) (s := 0) k_fd_30_5_5_28 k_sz_28_1 rfl rfl) ?_
  refine ss0 rfl rfl (Ys_store (i := 2) (s := 1) (B := some ⟨b2, 0, none⟩) (T' := 30) (v := .slice B5 r_2.length c5) (vs := [.slice B5 r_2.length c5]) (k := 5) (cs' := [.int .i64 a.Ins, .int .i64 a.Vars, .int .i64 a.Root, .int .i64 a.Phase, .slice B4 r_1.length c4, .slice B5 r_2.length c5]) hS10 k_sz_28_1 rfl rfl rfl rfl rfl rfl rfl (Nat.le_of_ble_eq_true rfl) rfl rfl) ?_
  rintro _ w_10 ⟨rfl, hS11⟩
  have hS11 : ST w0 [] _ [⟨some ⟨b, 0, none⟩, 25, [.int .i64 a.Ins, .int .i64 a.Vars, .int .i64 a.Root, .int .i64 a.Phase, .slice B a.Terms.length c, .slice B1 a.Out.length c1], 6⟩, ⟨some ⟨b1, 0, none⟩, 30, [.int .i64 0, .int .i64 0, .int .i64 0, .int .i64 0, .slice none 0 0, .slice none 0 0], 6⟩, ⟨some ⟨b2, 0, none⟩, 30, [.int .i64 a.Ins, .int .i64 a.Vars, .int .i64 a.Root, .int .i64 a.Phase, .slice B4 r_1.length c4, .slice B5 r_2.length c5], 6⟩, ⟨B4, 56, (r_1.flatMap enc_Term), c4 * 2⟩, ⟨B5, 44, (r_2.flatMap enc_Affine), c5 * 2⟩] [⟨B, (a.Terms.flatMap enc_Term)⟩, ⟨B1, (a.Out.flatMap enc_Affine)⟩] := hS11
  refine rw_nil ?_
  refine cw_seq ?_
  refine cw_region ?_
  refine sq 24 rfl rfl (Y_loadA (B := some ⟨b2, 0, none⟩) (i := 0) (cs := [.int .i64 a.Ins, .int .i64 a.Vars, .int .i64 a.Root, .int .i64 a.Phase, .slice B4 r_1.length c4, .slice B5 r_2.length c5]) (vs := [.int .i64 a.Ins, .int .i64 a.Vars, .int .i64 a.Root, .int .i64 a.Phase, .slice B4 r_1.length c4, .slice B5 r_2.length c5]) k_ag_30 k_sz_30_6 rfl rfl (hS11.cf (i := 2) rfl) rfl rfl) ?_
  refine ss0 rfl rfl (Ys_store (i := 1) (s := 6) (B := some ⟨b1, 0, none⟩) (T' := 30) (v := .agg #[.int .i64 a.Ins, .int .i64 a.Vars, .int .i64 a.Root, .int .i64 a.Phase, .slice B4 r_1.length c4, .slice B5 r_2.length c5]) (vs := [.int .i64 a.Ins, .int .i64 a.Vars, .int .i64 a.Root, .int .i64 a.Phase, .slice B4 r_1.length c4, .slice B5 r_2.length c5]) (k := 0) (cs' := [.int .i64 a.Ins, .int .i64 a.Vars, .int .i64 a.Root, .int .i64 a.Phase, .slice B4 r_1.length c4, .slice B5 r_2.length c5]) hS11 k_sz_30_6 rfl rfl rfl rfl rfl rfl rfl (Nat.le_of_ble_eq_true rfl) rfl rfl) ?_
  rintro _ w_11 ⟨rfl, hS12⟩
  have hS12 : ST w0 [] _ [⟨some ⟨b, 0, none⟩, 25, [.int .i64 a.Ins, .int .i64 a.Vars, .int .i64 a.Root, .int .i64 a.Phase, .slice B a.Terms.length c, .slice B1 a.Out.length c1], 6⟩, ⟨some ⟨b1, 0, none⟩, 30, [.int .i64 a.Ins, .int .i64 a.Vars, .int .i64 a.Root, .int .i64 a.Phase, .slice B4 r_1.length c4, .slice B5 r_2.length c5], 6⟩, ⟨some ⟨b2, 0, none⟩, 30, [.int .i64 a.Ins, .int .i64 a.Vars, .int .i64 a.Root, .int .i64 a.Phase, .slice B4 r_1.length c4, .slice B5 r_2.length c5], 6⟩, ⟨B4, 56, (r_1.flatMap enc_Term), c4 * 2⟩, ⟨B5, 44, (r_2.flatMap enc_Affine), c5 * 2⟩] [⟨B, (a.Terms.flatMap enc_Term)⟩, ⟨B1, (a.Out.flatMap enc_Affine)⟩] := hS12
  refine rw_nil ?_
  refine cw_ret ?_
  obtain rfl := some_inj hF
  exact ret1 Tryd.results7 (v1 := .agg #[.int .i64 a.Ins, .int .i64 a.Vars, .int .i64 a.Root, .int .i64 a.Phase, .slice B4 r_1.length c4, .slice B5 r_2.length c5]) (resAt_cellA (B := some ⟨b1, 0, none⟩) (i := 0) (cs := [.int .i64 a.Ins, .int .i64 a.Vars, .int .i64 a.Root, .int .i64 a.Phase, .slice B4 r_1.length c4, .slice B5 r_2.length c5]) (vs := [.int .i64 a.Ins, .int .i64 a.Vars, .int .i64 a.Root, .int .i64 a.Phase, .slice B4 r_1.length c4, .slice B5 r_2.length c5]) rfl k_ag_30 k_sz_30_6 (hS12.cf (i := 1) rfl) rfl rfl) ⟨B4, c4, B5, c5, rfl, (ST.subR (R' := []) (hS12.sel [3, 4] rfl rfl) (fun _ h => by cases h))⟩

theorem c_slices_IndexFunc_impl_Affine_impl_Affine (s : List TAffine) (f_ : TAffine → Option (Bool)) (B : Option Addr) (c n : Nat) (kf : Nat) (caps : Array Value) (Rf : List Ro) (w0 : World) (hn : s.length = n) (hk : callB Tryd.prog kf = true) (hp : ∀ (w : World), ST w [] w [] Rf → ∀ (x : TAffine) (y : Bool), f_ x = some y → CV Tryd.prog kf ((.agg #[.int .i64 x.Mask, .int .i64 x.Turn]) :: caps.toList).toArray w (fun v w' => v = .bool y ∧ ST w [] w' [] [])) (hS : ST w0 [] w0 [] (⟨B, (s.flatMap enc_Affine)⟩ :: Rf)) {r_ : Int} (hF : F_slices_IndexFunc_impl_Affine_impl_Affine s f_ = some r_) :
    CV Tryd.prog 48 #[.slice B n c, .func (.func kf) #[] caps] w0 (fun v w' => v = .int .i64 r_ ∧ ST w0 [] w' [] []) := by
  subst hn
  unfold F_slices_IndexFunc_impl_Affine_impl_Affine at hF
  refine cv_of_cw 19 Tryd.func48 rfl Tryd.ntmps48 rfl ?_
  refine cw_seq ?_
  refine cw_region ?_
  refine sq 4 rfl rfl (Y_assign (v := .int .i64 0) rfl rfl) ?_
  refine rw_nil ?_
  refine cw_seq ?_
  refine cw_seq ?_
  refine cw_region ?_
  refine sq 6 rfl rfl (Y_move (v := .slice B s.length c) rfl rfl) ?_
  refine sq 7 rfl rfl (Y_len (B := B) (m := s.length) (c := c) k_sl_28_44 rfl rfl) ?_
  refine sq 8 rfl rfl (Y_move (v := .int .i64 0) rfl rfl) ?_
  refine rw_nil ?_
  obtain ⟨hN, hF⟩ := chk_inv hF
  obtain ⟨z, hz, hF1⟩ := bind_inv hF
  refine cw_block ?_
  refine cw_loop (fun k f w => ∃ (i : Nat), FF f [(0, .slice B s.length c), (1, .func (.func kf) #[] caps), (7, .int .i64 (s.length : Int)), (8, .int .i64 (i : Int))] ∧ ST w0 [] w [] (⟨B, (s.flatMap enc_Affine)⟩ :: Rf) ∧ i + k = s.length ∧ forX (F_slices_IndexFunc_impl_Affine_impl_Affine_l1 s f_) k i () = some z) s.length ⟨0, (FF.cons rfl (FF.cons rfl (FF.cons rfl (FF.cons rfl FF.nil)))), (hS.sel [] rfl rfl), Nat.zero_add _, hz⟩ ?_
  rintro k_ f w ⟨i, hf, hS1, hik, hL⟩
  refine cw_seq ?_
  refine cw_region ?_
  refine sq 9 rfl rfl (Y_lt (k := .i64) (a := (i : Int)) (b := (s.length : Int)) rfl (hf.get 8 3 rfl) (hf.get 7 2 rfl)) ?_
  refine rw_nil ?_
  refine cw_seq ?_
  refine cw_cond (b := (decide ((i : Int) < (s.length : Int)))) rfl (fun hlt => ?_) (fun hlt => ?_)
  · skip
    have hlt1 : i < s.length := by have h := of_decide_eq_true hlt; omega
    obtain ⟨k_1, rfl⟩ : ∃ k2, k_ = k2 + 1 := ⟨k_ - 1, by omega⟩
    obtain ⟨y1, hb, hL1⟩ := forX_go hL
    unfold F_slices_IndexFunc_impl_Affine_impl_Affine_l1 at hb
    refine cw_skip ?_
    refine cw_seq ?_
    refine cw_block ?_
    refine cw_seq ?_
    refine cw_region ?_
    refine sq 10 rfl rfl (Y_move (v := .int .i64 (i : Int)) rfl (hf.get 8 3 rfl)) ?_
    refine sq 5 rfl rfl (Y_assign (v := .int .i64 (i : Int)) rfl rfl) ?_
    refine rw_nil ?_
    refine cw_seq ?_
    refine cw_region ?_
    refine sq 11 rfl rfl (Y_move (v := .func (.func kf) #[] caps) rfl (hf.get 1 1 rfl)) ?_
    refine sq 12 rfl rfl (Y_move (v := .slice B s.length c) rfl (hf.get 0 0 rfl)) ?_
    refine sq 13 rfl rfl (Y_move (v := .int .i64 (i : Int)) rfl rfl) ?_
    obtain ⟨x1, hx, hb⟩ := bind_inv hb
    refine sq 14 rfl rfl (Y_index (B := B) (m := s.length) (c := c) (k := .i64) (i := (i : Int)) k_sl_28_44 k_sz_44_2 rfl rfl rfl (gi_isSome enc_Affine_len rfl (hS1.rf (i := 0) rfl) hx) (getI_nn hx) (getI_ltI hx rfl)) ?_
    refine sq 15 rfl rfl (Y_loadA (B := B) (i := (i : Int).toNat * 2) (cs := (s.flatMap enc_Affine)) (vs := [.int .i64 x1.Mask, .int .i64 x1.Turn]) k_ag_44 k_sz_44_2 rfl rfl (hS1.rf (i := 0) rfl) (enc_Affine_len x1) (gi_seg enc_Affine_len hx)) ?_
    obtain ⟨r_1, hc, hb⟩ := bind_inv hb
    refine sc 16 rfl rfl (Yc_clos (g := kf) (vs := (.agg #[.int .i64 x1.Mask, .int .i64 x1.Turn]) :: caps.toList) hk rfl rfl (clo_args (mc rfl mn)) (hp _ (hS1.innS (fun _ h => List.mem_of_mem_drop (i := 1) h)) x1 r_1 hc)) ?_
    rintro _ w_ ⟨rfl, hd⟩
    have hS2 := hS1.out00 hd
    refine rw_nil ?_
    refine cw_cond (b := r_1) rfl (fun hb1 => ?_) (fun hb1 => ?_)
    · skip
      have hF2 := ct hb hb1
      refine cw_seq ?_
      refine cw_region ?_
      refine sq 17 rfl rfl (Y_move (v := .int .i64 (i : Int)) rfl rfl) ?_
      refine sq 4 rfl rfl (Y_assign (v := .int .i64 (i : Int)) rfl rfl) ?_
      refine rw_nil ?_
      refine cw_ret ?_
      obtain rfl := some_inj hF2
      obtain rfl := some_inj hL1
      obtain rfl := some_inj hF1
      exact ret1 Tryd.results48 (v1 := .int .i64 (i : Int)) (resAt_tmp rfl) ⟨rfl, (ST.subR (R' := []) (hS2.sel [] rfl rfl) (fun _ h => by cases h))⟩
    · skip
      have hF3 := cf' hb hb1
      refine cw_skip ?_
      refine cw_region ?_
      refine sq 18 rfl rfl (Y_add (k := .i64) (a := (i : Int)) (b := 1) rfl (hf.get 8 3 rfl) rfl) ?_
      refine sq 8 rfl rfl (Y_move (v := .int .i64 (IntKind.i64.wrap ((i : Int) + 1))) rfl rfl) ?_
      refine rw_nil ?_
      obtain rfl := some_inj hF3
      exact ⟨k_1, Nat.lt_succ_self _, i + 1, (FF.cons (hf.get 0 0 rfl) (FF.cons (hf.get 1 1 rfl) (FF.cons (hf.get 7 2 rfl) (FF.cons (congrArg (Value.int .i64) (wr_succ hlt1 hN)) FF.nil)))), (hS2.sel [] rfl rfl), (by omega), hL1⟩
  · skip
    obtain rfl : k_ = 0 := by have h := of_decide_eq_false hlt; omega
    refine cw_exit rfl ?_
    obtain rfl := some_inj hL
    refine cw_seq ?_
    refine cw_region ?_
    refine sq 4 rfl rfl (Y_assign (v := .int .i64 (-1)) rfl rfl) ?_
    refine rw_nil ?_
    refine cw_ret ?_
    obtain rfl := some_inj hF1
    exact ret1 Tryd.results48 (v1 := .int .i64 (-1)) (resAt_tmp rfl) ⟨rfl, (ST.subR (R' := []) (hS1.sel [] rfl rfl) (fun _ h => by cases h))⟩

theorem c_slices_ContainsFunc_impl_Affine_impl_Affine (s : List TAffine) (f_ : TAffine → Option (Bool)) (B : Option Addr) (c n : Nat) (kf : Nat) (caps : Array Value) (Rf : List Ro) (w0 : World) (hn : s.length = n) (hk : callB Tryd.prog kf = true) (hp : ∀ (w : World), ST w [] w [] Rf → ∀ (x : TAffine) (y : Bool), f_ x = some y → CV Tryd.prog kf ((.agg #[.int .i64 x.Mask, .int .i64 x.Turn]) :: caps.toList).toArray w (fun v w' => v = .bool y ∧ ST w [] w' [] [])) (hS : ST w0 [] w0 [] (⟨B, (s.flatMap enc_Affine)⟩ :: Rf)) {r_ : Bool} (hF : F_slices_ContainsFunc_impl_Affine_impl_Affine s f_ = some r_) :
    CV Tryd.prog 21 #[.slice B n c, .func (.func kf) #[] caps] w0 (fun v w' => v = .bool r_ ∧ ST w0 [] w' [] []) := by
  subst hn
  unfold F_slices_ContainsFunc_impl_Affine_impl_Affine at hF
  refine cv_of_cw 9 Tryd.func21 rfl Tryd.ntmps21 rfl ?_
  refine cw_seq ?_
  refine cw_region ?_
  refine sq 4 rfl rfl (Y_assign (v := .bool false) rfl rfl) ?_
  refine rw_nil ?_
  refine cw_seq ?_
  refine cw_region ?_
  refine sq 5 rfl rfl (Y_move (v := .slice B s.length c) rfl rfl) ?_
  refine sq 6 rfl rfl (Y_move (v := .func (.func kf) #[] caps) rfl rfl) ?_
  obtain ⟨r_1, hc, hF⟩ := bind_inv hF
  refine sc 7 rfl rfl (Yc_func (g := 48) (vs := [.slice B s.length c, .func (.func kf) #[] caps]) k_call_48 rfl (mc rfl (mc rfl mn)) (c_slices_IndexFunc_impl_Affine_impl_Affine s f_ B c s.length kf caps Rf _ rfl hk hp (hS.innS (subc (mem_at (i := 0) rfl) (fun _ h => List.mem_of_mem_drop (i := 1) h))) hc)) ?_
  rintro _ w_ ⟨rfl, hd⟩
  have hS1 := hS.out00 hd
  refine sq 8 rfl rfl (Y_ge (k := .i64) (a := r_1) (b := 0) rfl rfl rfl) ?_
  refine sq 4 rfl rfl (Y_assign (v := .bool (decide (0 ≤ r_1))) rfl rfl) ?_
  refine rw_nil ?_
  refine cw_ret ?_
  obtain rfl := some_inj hF
  exact ret1 Tryd.results21 (v1 := .bool (decide (0 ≤ r_1))) (resAt_tmp rfl) ⟨rfl, (ST.subR (R' := []) (hS1.sel [] rfl rfl) (fun _ h => by cases h))⟩

theorem c_impl_within (n : Int) (low : Int) (high : Int)  (w0 : World)  (hS : ST w0 [] w0 [] []) {r_ : Bool} (hF : F_impl_within n low high = some r_) :
    CV Tryd.prog 44 #[.int .i64 n, .int .i64 low, .int .i64 high] w0 (fun v w' => v = .bool r_ ∧ ST w0 [] w' [] []) := by
  unfold F_impl_within at hF
  refine cv_of_cw 15 Tryd.func44 rfl Tryd.ntmps44 rfl ?_
  refine cw_seq ?_
  refine cw_region ?_
  refine sq 6 rfl rfl (Y_assign (v := .bool false) rfl rfl) ?_
  refine rw_nil ?_
  refine cw_seq ?_
  refine cw_region ?_
  refine sq 7 rfl rfl (Y_move (v := .int .i64 low) rfl rfl) ?_
  refine sq 8 rfl rfl (Y_move (v := .int .i64 n) rfl rfl) ?_
  refine sq 9 rfl rfl (Y_le (k := .i64) (a := low) (b := n) rfl rfl rfl) ?_
  refine sq 10 rfl rfl (Y_move (v := .bool (decide (low ≤ n))) rfl rfl) ?_
  refine sgq 11 (B := (decide (low ≤ n))) (v := .int .i64 n) rfl rfl (wt_t (gd_of (t := 10) (by kernel_rfl) rfl)) (fun hg => (Y_move (v := .int .i64 n) rfl rfl)) ?_
  refine sgq 12 (B := (decide (low ≤ n))) (v := .int .i64 high) rfl rfl (wt_t (gd_of (t := 10) (by kernel_rfl) rfl)) (fun hg1 => (Y_move (v := .int .i64 high) rfl rfl)) ?_
  refine sgq 13 (B := (decide (low ≤ n))) (v := .bool (decide (n ≤ high))) rfl rfl (wt_t (gd_of (t := 10) (by kernel_rfl) rfl)) (fun hg2 => (Y_le (k := .i64) (a := n) (b := high) rfl (gv_of (B := (decide (low ≤ n))) (v := .int .i64 n) hg2) (gv_of (B := (decide (low ≤ n))) (v := .int .i64 high) hg2))) ?_
  refine sq 14 rfl rfl (Y_and (b := (decide (low ≤ n))) (z := (decide (n ≤ high))) rfl rfl rfl rfl) ?_
  refine sq 6 rfl rfl (Y_assign (v := .bool ((decide (low ≤ n)) && (decide (n ≤ high)))) rfl rfl) ?_
  refine rw_nil ?_
  refine cw_ret ?_
  obtain rfl := some_inj hF
  exact ret1 Tryd.results44 (v1 := .bool ((decide (low ≤ n)) && (decide (n ≤ high)))) (resAt_tmp rfl) ⟨rfl, (ST.subR (R' := []) (hS.sel [] rfl rfl) (fun _ h => by cases h))⟩
end Go.VK
