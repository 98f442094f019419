/- Walks: each Go function returns what its Lean function says. By program. -/
import Derived.Test.YtklicjfbpikobaaDoorReduceStepFa
import Derived.Test.YtklicjfbpikobaaDoorReduceStepShelf
import Derived.Test.YtklicjfbpikobaaDoorLibT
import Derived.WalkKit
import Derived.Test.YtklicjfbpikobaaDoorReduceStepW3
set_option linter.unusedVariables false
set_option maxRecDepth 100000
set_option maxHeartbeats 4000000
namespace Go.VK
open Go.RowKit
open Go.Proofs
attribute [local irreducible] CW RW RA CV Y Yw Yc Ys RetOf
attribute [local irreducible] F_laws_szTermS F_laws_szAffineS F_laws_szPathSum F_spec_l1In F_spec_l1Set F_spec_l21Valid F_spec_l21Rule F_spec_l21Drop F_spec_l21Sum_add F_spec_l21Sum_times F_spec_l21Replace F_spec_l21Without F_spec_l21Step F_spec_ReduceStep F_laws_toTerm F_laws_toTermS F_laws_toAffine F_laws_toAffineS F_laws_toPathSum F_slices_IndexFunc_impl_Affine_impl_Affine F_slices_ContainsFunc_impl_Affine_impl_Affine F_impl_within F_math_bits_OnesCount64 F_math_bits_OnesCount F_impl_bitsIn F_impl_isAffine F_impl_IsValidPathSum_1 F_impl_IsValidPathSum F_impl_ReduceStep_1 F_impl_PathSum_around F_math_bits_TrailingZeros64 F_math_bits_TrailingZeros F_impl_dropped F_impl_PathSum_without F_impl_polyOf F_impl_polynomial_add F_impl_bitsOf F_impl_polynomial_expand F_impl_polynomial_terms F_impl_PathSum_stripped F_impl_PathSum_substituted F_impl_PathSum_ruled F_impl_ReduceStep F_laws_eqTerm F_laws_eqTermS F_laws_eqAffine F_laws_eqAffineS F_laws_eqPathSum F_laws_markTermS F_laws_markAffineS F_laws_markPathSum F_laws_heldTermS F_laws_heldAffineS F_laws_heldPathSum F_laws_FnExactReduceStep
theorem c_impl_bitsOf (mask : Int)  (w0 : World)  (hS : ST w0 [] w0 [] []) {r_ : List Int} (hF : F_impl_bitsOf mask = some r_) :
    CV Tryd.prog 66 #[.int .i64 mask] w0 (fun v w' => ∃ (B : Option Addr) (c : Nat), v = .slice B r_.length c ∧ ST w0 [] w' [⟨B, 3, (r_.flatMap encI), c * 1⟩] []) := by
  unfold F_impl_bitsOf at hF
  refine cv_of_cw 20 Tryd.func66 rfl Tryd.ntmps66 rfl ?_
  refine cw_seq ?_
  refine cw_region ?_
  refine sq 2 rfl rfl (Y_assign (v := .slice none 0 0) rfl rfl) ?_
  refine rw_nil ?_
  refine cw_seq ?_
  refine cw_region ?_
  refine ss 5 rfl rfl (Ys_bslice0 (s := 1) (e := 3) hS k_sl_60_3 k_sz_3_1 rfl) ?_
  rintro _ w_ ⟨b, rfl, hS1⟩
  refine sq 3 rfl rfl (Y_assign (v := .slice (some ⟨b, 0, none⟩) 0 0) rfl rfl) ?_
  refine rw_nil ?_
  refine cw_seq ?_
  obtain ⟨z, hz, hF1⟩ := bind_inv hF
  refine cw_block ?_
  refine cw_loop (fun k f w => ∃ (mask1 : Int) (out : List Int) (B1 : Option Addr) (c1 : Nat), FF f [(0, .int .i64 mask1), (3, .slice B1 out.length c1)] ∧ ST w0 [] w [⟨B1, 3, (out.flatMap encI), c1 * 1⟩] [] ∧ whX F_impl_bitsOf_l1 k (mask1, out) = some z) fuel ⟨mask, [], some ⟨b, 0, none⟩, 0, (FF.cons rfl (FF.cons rfl FF.nil)), (hS1.sel [0] rfl rfl), hz⟩ ?_
  rintro k_ f w ⟨mask1, out, B1, c1, hf, hS2, hL⟩
  obtain ⟨k_1, y, rfl, hb, hL1⟩ := whX_go hL
  unfold F_impl_bitsOf_l1 at hb
  refine cw_seq ?_
  refine cw_seq ?_
  refine cw_region ?_
  refine sq 6 rfl rfl (Y_move (v := .int .i64 mask1) rfl (hf.get 0 0 rfl)) ?_
  refine sq 7 rfl rfl (Y_ne (k := .i64) (a := mask1) (b := 0) rfl rfl rfl) ?_
  refine rw_nil ?_
  refine cw_cond (b := (mask1 != 0)) rfl (fun hb1 => ?_) (fun hb1 => ?_)
  · skip
    have hF2 := ct hb hb1
    refine cw_skip ?_
    refine cw_block ?_
    refine cw_seq ?_
    refine cw_region ?_
    refine sq 8 rfl rfl (Y_move (v := .int .i64 mask1) rfl (hf.get 0 0 rfl)) ?_
    refine sq 9 rfl rfl (Y_move (v := .int .i64 mask1) rfl (hf.get 0 0 rfl)) ?_
    refine sq 10 rfl rfl (Y_neg (k := .i64) (a := mask1) rfl rfl) ?_
    refine sq 11 rfl rfl (Y_band (k := .i64) (a := mask1) (b := (IntKind.i64.wrap (-mask1))) rfl rfl rfl) ?_
    refine sq 4 rfl rfl (Y_assign (v := .int .i64 (bits .and .i64 mask1 (IntKind.i64.wrap (-mask1)))) rfl rfl) ?_
    refine rw_nil ?_
    refine cw_seq ?_
    refine cw_region ?_
    refine sq 12 rfl rfl (Y_move (v := .slice B1 out.length c1) rfl (hf.get 3 1 rfl)) ?_
    refine sq 13 rfl rfl (Y_move (v := .int .i64 (bits .and .i64 mask1 (IntKind.i64.wrap (-mask1)))) rfl rfl) ?_
    refine ss 14 rfl rfl (Ys_bslice (s := 1) (len := 1) (vs := [(0, .int .i64 (bits .and .i64 mask1 (IntKind.i64.wrap (-mask1))))]) (cs := [.int .i64 (bits .and .i64 mask1 (IntKind.i64.wrap (-mask1)))]) (zs := [.int .i64 0]) (m := 1) hS2 k_sl_60_3 k_sz_3_1 k_zc_3 rfl (mpc rfl mpn) rfl rfl rfl (by kernel_rfl) (by kernel_rfl) rfl) ?_
    rintro _ w_1 ⟨b1, rfl, hS3⟩
    have hS3 : ST w0 [] _ [⟨B1, 3, (out.flatMap encI), c1 * 1⟩, ⟨some ⟨b1, 0, none⟩, 3, ([(bits .and .i64 mask1 (IntKind.i64.wrap (-mask1)))].flatMap encI), 1 * 1⟩] [] := hS3
    obtain ⟨hap, hF2⟩ := chk_inv hF2
    refine ss 15 rfl rfl (Ys_append (s := 1) (by' := 8) (i := 0) (nn := out.length) (c := c1) (k := 1) (len := (out ++ [(bits .and .i64 mask1 (IntKind.i64.wrap (-mask1)))]).length) (B := B1) (xs := ([(bits .and .i64 mask1 (IntKind.i64.wrap (-mask1)))].flatMap encI)) (cs' := ((out ++ [(bits .and .i64 mask1 (IntKind.i64.wrap (-mask1)))]).flatMap encI)) hS3 k_sl_60_3 k_sz_3_1 k_by_3_8 k_zero_3 rfl (by decide) rfl rfl rfl rfl (fm_lenn (l := out) encI_len rfl) rfl (hS3.cf (i := 1) rfl) (fm_lenn (l := [(bits .and .i64 mask1 (IntKind.i64.wrap (-mask1)))]) encI_len rfl) (fm_one' (enc := encI) encI_one [(bits .and .i64 mask1 (IntKind.i64.wrap (-mask1)))]) (by have := hap; omega) (by have := hap; simp only [maxLen]; omega) (fm_app _ _) (app_len (l := out) (l' := [(bits .and .i64 mask1 (IntKind.i64.wrap (-mask1)))]) rfl rfl)) ?_
    rintro _ w_2 ⟨B2, c2, rfl, hS4⟩
    have hS4 : ST w0 [] _ [⟨B2, 3, ((out ++ [(bits .and .i64 mask1 (IntKind.i64.wrap (-mask1)))]).flatMap encI), c2 * 1⟩, ⟨some ⟨b1, 0, none⟩, 3, ([(bits .and .i64 mask1 (IntKind.i64.wrap (-mask1)))].flatMap encI), 1 * 1⟩] [] := hS4
    refine sq 3 rfl rfl (Y_assign (v := .slice B2 ((out ++ [(bits .and .i64 mask1 (IntKind.i64.wrap (-mask1)))]).length) c2) rfl rfl) ?_
    refine rw_nil ?_
    refine cw_region ?_
    refine sq 16 rfl rfl (Y_move (v := .int .i64 mask1) rfl (hf.get 0 0 rfl)) ?_
    refine sq 17 rfl rfl (Y_move (v := .int .i64 (bits .and .i64 mask1 (IntKind.i64.wrap (-mask1)))) rfl rfl) ?_
    refine sq 18 rfl rfl (Y_bxor (k := .i64) (a := mask1) (b := (bits .and .i64 mask1 (IntKind.i64.wrap (-mask1)))) rfl rfl rfl) ?_
    refine sq 0 rfl rfl (Y_assign (v := .int .i64 (bits .xor .i64 mask1 (bits .and .i64 mask1 (IntKind.i64.wrap (-mask1))))) rfl rfl) ?_
    refine rw_nil ?_
    obtain rfl := some_inj hF2
    exact ⟨k_1, Nat.lt_succ_self _, (bits .xor .i64 mask1 (bits .and .i64 mask1 (IntKind.i64.wrap (-mask1)))), (out ++ [(bits .and .i64 mask1 (IntKind.i64.wrap (-mask1)))]), B2, c2, (FF.cons rfl (FF.cons rfl FF.nil)), (hS4.sel [0] rfl rfl), hL1⟩
  · skip
    have hF3 := cf' hb hb1
    refine cw_exit rfl ?_
    obtain rfl := some_inj hF3
    obtain rfl := some_inj hL1
    refine cw_seq ?_
    refine cw_region ?_
    refine sq 19 rfl rfl (Y_move (v := .slice B1 out.length c1) rfl (hf.get 3 1 rfl)) ?_
    refine sq 2 rfl rfl (Y_assign (v := .slice B1 out.length c1) rfl rfl) ?_
    refine rw_nil ?_
    refine cw_ret ?_
    obtain rfl := some_inj hF1
    exact ret1 Tryd.results66 (v1 := .slice B1 out.length c1) (resAt_tmp rfl) ⟨B1, c1, rfl, (ST.subR (R' := []) (hS2.sel [0] rfl rfl) (fun _ h => by cases h))⟩

theorem c_impl_polynomial_expand (p : List (Int × Int)) (coef : Int) (a : TAffine) (rest_ : Int) (g : Nat) (w0 : World)  (hS : ST w0 (bl [⟨(some ⟨g, 0, none⟩), .mp (mpE (Value.int .i64) (Value.int .i64) p), [], 0⟩]) w0 [⟨(some ⟨g, 0, none⟩), .mp (mpE (Value.int .i64) (Value.int .i64) p), [], 0⟩] []) {m : List (Int × Int)} (hF : F_impl_polynomial_expand p coef a rest_ = some m) :
    CV Tryd.prog 61 #[.map (some g), .int .i64 coef, .agg #[.int .i64 a.Mask, .int .i64 a.Turn], .int .i64 rest_] w0 (fun v w' => v = .tuple #[] ∧ ST w0 (bl [⟨(some ⟨g, 0, none⟩), .mp (mpE (Value.int .i64) (Value.int .i64) p), [], 0⟩]) w' [⟨(some ⟨g, 0, none⟩), .mp (mpE (Value.int .i64) (Value.int .i64) m), [], 0⟩] []) := by
  unfold F_impl_polynomial_expand at hF
  refine cv_of_cw 80 Tryd.func61 rfl Tryd.ntmps61 rfl ?_
  refine cw_seq ?_
  refine cw_region ?_
  refine ss 6 rfl rfl (Ys_box (T := 44) (v := .agg #[.int .i64 a.Mask, .int .i64 a.Turn]) (cs := [.int .i64 a.Mask, .int .i64 a.Turn]) (m := 2) hS rfl rfl rfl rfl) ?_
  rintro _ w_ ⟨b, rfl, hS1⟩
  have hS1 : ST w0 (bl [⟨(some ⟨g, 0, none⟩), .mp (mpE (Value.int .i64) (Value.int .i64) p), [], 0⟩]) _ [⟨(some ⟨g, 0, none⟩), .mp (mpE (Value.int .i64) (Value.int .i64) p), [], 0⟩, ⟨some ⟨b, 0, none⟩, 44, [.int .i64 a.Mask, .int .i64 a.Turn], 2⟩] [] := hS1
  refine rw_nil ?_
  refine cw_seq ?_
  obtain ⟨z, hz, hF1⟩ := bind_inv hF
  refine cw_mid (fun f w => ∃ (m1 : List (Int × Int)) (coef1 : Int), (m1, coef1) = z ∧ FF f [(0, .map (some g)), (1, .int .i64 coef1), (3, .int .i64 rest_), (6, pt (some ⟨b, 0, none⟩) 0)] ∧ ST w0 (bl [⟨(some ⟨g, 0, none⟩), .mp (mpE (Value.int .i64) (Value.int .i64) p), [], 0⟩]) w [⟨(some ⟨g, 0, none⟩), .mp (mpE (Value.int .i64) (Value.int .i64) m1), [], 0⟩, ⟨some ⟨b, 0, none⟩, 44, [.int .i64 a.Mask, .int .i64 a.Turn], 2⟩] []) ?_ ?_
  · skip
    refine cw_seq ?_
    refine cw_region ?_
    refine sq 15 rfl rfl (Y_fieldAddr (B := some ⟨b, 0, none⟩) (i := 0) (s := 0) k_fd_44_1_1_3 k_sz_3_1 rfl rfl) ?_
    refine sq 16 rfl rfl (Y_load1 (B := some ⟨b, 0, none⟩) (i := 1) (cs := [.int .i64 a.Mask, .int .i64 a.Turn]) (v := .int .i64 a.Turn) k_sc_3 rfl rfl (hS1.cf (i := 1) rfl) rfl) ?_
    refine sq 17 rfl rfl (Y_eq (k := .i64) (a := a.Turn) (b := 1) rfl rfl rfl) ?_
    refine rw_nil ?_
    refine cw_cond (b := (a.Turn == 1)) rfl (fun hb => ?_) (fun hb => ?_)
    · skip
      have hF2 := ct hz hb
      refine cw_seq ?_
      refine cw_region ?_
      refine sq 18 rfl rfl (Y_move (v := .map (some g)) rfl rfl) ?_
      refine sq 19 rfl rfl (Y_move (v := .int .i64 rest_) rfl rfl) ?_
      refine sq 20 rfl rfl (Y_move (v := .int .i64 coef) rfl rfl) ?_
      obtain ⟨m2, hc, hF2⟩ := bind_inv hF2
      refine sc 21 rfl rfl (Yc_func (g := 63) (vs := [.map (some g), .int .i64 rest_, .int .i64 coef]) k_call_63 rfl (mc rfl (mc rfl (mc rfl mn))) (c_impl_polynomial_add p rest_ coef g _  (hS1.inn [true, false] rfl [] rfl) hc)) ?_
      rintro _ w_1 ⟨rfl, hd⟩
      have hS3 := hS1.out [true, false] rfl hd
      have hS3 : ST w0 (bl [⟨(some ⟨g, 0, none⟩), .mp (mpE (Value.int .i64) (Value.int .i64) p), [], 0⟩]) _ [⟨some ⟨b, 0, none⟩, 44, [.int .i64 a.Mask, .int .i64 a.Turn], 2⟩, ⟨(some ⟨g, 0, none⟩), .mp (mpE (Value.int .i64) (Value.int .i64) m2), [], 0⟩] [] := hS3
      refine rw_nil ?_
      refine cw_region ?_
      refine sq 22 rfl rfl (Y_move (v := .int .i64 coef) rfl rfl) ?_
      refine sq 23 rfl rfl (Y_neg (k := .i64) (a := coef) rfl rfl) ?_
      refine sq 1 rfl rfl (Y_assign (v := .int .i64 (IntKind.i64.wrap (-coef))) rfl rfl) ?_
      refine rw_nil ?_
      exact ⟨m2, (IntKind.i64.wrap (-coef)), (some_inj hF2), (FF.cons rfl (FF.cons rfl (FF.cons rfl (FF.cons rfl FF.nil)))), (hS3.sel [1, 0] rfl rfl)⟩
    · skip
      have hF3 := cf' hz hb
      refine cw_skip ?_
      exact ⟨p, coef, (some_inj hF3), (FF.cons rfl (FF.cons rfl (FF.cons rfl (FF.cons rfl FF.nil)))), (hS1.sel [0, 1] rfl rfl)⟩
  rintro f w ⟨m1, coef1, rfl, hf, hS2⟩
  refine cw_seq ?_
  refine cw_region ?_
  refine sq 24 rfl rfl (Y_fieldAddr (B := some ⟨b, 0, none⟩) (i := 0) (s := 0) k_fd_44_0_0_3 k_sz_3_1 rfl (hf.get 6 3 rfl)) ?_
  refine sq 25 rfl rfl (Y_load1 (B := some ⟨b, 0, none⟩) (i := 0) (cs := [.int .i64 a.Mask, .int .i64 a.Turn]) (v := .int .i64 a.Mask) k_sc_3 rfl rfl (hS2.cf (i := 1) rfl) rfl) ?_
  obtain ⟨r_, hc1, hF1⟩ := bind_inv hF1
  refine sc 26 rfl rfl (Yc_func (g := 66) (vs := [.int .i64 a.Mask]) k_call_66 rfl (mc rfl mn) (c_impl_bitsOf a.Mask _  (hS2.inn0 [] rfl) hc1)) ?_
  rintro _ w_2 ⟨B, c, rfl, hd1⟩
  have hS4 := hS2.out0 hd1
  have hS4 : ST w0 (bl [⟨(some ⟨g, 0, none⟩), .mp (mpE (Value.int .i64) (Value.int .i64) p), [], 0⟩]) _ [⟨(some ⟨g, 0, none⟩), .mp (mpE (Value.int .i64) (Value.int .i64) m1), [], 0⟩, ⟨some ⟨b, 0, none⟩, 44, [.int .i64 a.Mask, .int .i64 a.Turn], 2⟩, ⟨B, 3, (r_.flatMap encI), c * 1⟩] [] := hS4
  refine sq 8 rfl rfl (Y_assign (v := .slice B r_.length c) rfl rfl) ?_
  refine rw_nil ?_
  refine cw_seq ?_
  refine cw_region ?_
  refine sq 27 rfl rfl (Y_move (v := .slice B r_.length c) rfl rfl) ?_
  refine sq 28 rfl rfl (Y_len (B := B) (m := r_.length) (c := c) k_sl_60_3 rfl rfl) ?_
  refine sq 29 rfl rfl (Y_move (v := .int .i64 0) rfl rfl) ?_
  refine rw_nil ?_
  obtain ⟨hN, hF1⟩ := chk_inv hF1
  obtain ⟨z1, hz1, hF4⟩ := bind_inv hF1
  have ho1 : Org w0 (bl [⟨(some ⟨g, 0, none⟩), .mp (mpE (Value.int .i64) (Value.int .i64) p), [], 0⟩]) [] [⟨B, (r_.flatMap encI)⟩] := ST.orgOwn hS4 (i := 2) rfl
  have hcap : r_.length ≤ c := (hS4.lencap (i := 2) rfl (fm_lenn (l := r_) encI_len rfl) rfl rfl)
  have hS6 : ST w0 (bl [⟨(some ⟨g, 0, none⟩), .mp (mpE (Value.int .i64) (Value.int .i64) p), [], 0⟩]) _ [⟨(some ⟨g, 0, none⟩), .mp (mpE (Value.int .i64) (Value.int .i64) m1), [], 0⟩, ⟨some ⟨b, 0, none⟩, 44, [.int .i64 a.Mask, .int .i64 a.Turn], 2⟩] [⟨B, (r_.flatMap encI)⟩] := hS4.freeze (i := 2) rfl
  refine cw_block ?_
  refine cw_loop (fun k f w => ∃ (i : Nat) (m3 : List (Int × Int)), FF f [(0, .map (some g)), (1, .int .i64 coef1), (3, .int .i64 rest_), (8, .slice B r_.length c), (27, .slice B r_.length c), (28, .int .i64 (r_.length : Int)), (29, .int .i64 (i : Int))] ∧ Org w0 (bl [⟨(some ⟨g, 0, none⟩), .mp (mpE (Value.int .i64) (Value.int .i64) p), [], 0⟩]) [] [⟨B, (r_.flatMap encI)⟩] ∧ r_.length ≤ c ∧ ST w0 (bl [⟨(some ⟨g, 0, none⟩), .mp (mpE (Value.int .i64) (Value.int .i64) p), [], 0⟩]) w [⟨(some ⟨g, 0, none⟩), .mp (mpE (Value.int .i64) (Value.int .i64) m3), [], 0⟩] [⟨B, (r_.flatMap encI)⟩] ∧ i + k = r_.length ∧ forN (F_impl_polynomial_expand_l1 r_ rest_ coef1) k i m3 = some z1) r_.length ⟨0, m1, (FF.cons (hf.get 0 0 rfl) (FF.cons (hf.get 1 1 rfl) (FF.cons (hf.get 3 2 rfl) (FF.cons rfl (FF.cons rfl (FF.cons rfl (FF.cons rfl FF.nil))))))), ho1, (len_le rfl hcap), (hS6.sel [0] rfl rfl), Nat.zero_add _, hz1⟩ ?_
  rintro k_ f w ⟨i, m3, hf1, ho, hq, hS5, hik, hL⟩
  refine cw_seq ?_
  refine cw_region ?_
  refine sq 30 rfl rfl (Y_lt (k := .i64) (a := (i : Int)) (b := (r_.length : Int)) rfl (hf1.get 29 6 rfl) (hf1.get 28 5 rfl)) ?_
  refine rw_nil ?_
  refine cw_seq ?_
  refine cw_cond (b := (decide ((i : Int) < (r_.length : Int)))) rfl (fun hlt => ?_) (fun hlt => ?_)
  · skip
    have hlt1 : i < r_.length := by have h := of_decide_eq_true hlt; omega
    obtain ⟨k_1, rfl⟩ : ∃ k2, k_ = k2 + 1 := ⟨k_ - 1, by omega⟩
    obtain ⟨y, hb1, hL1⟩ := forN_go hL
    unfold F_impl_polynomial_expand_l1 at hb1
    refine cw_skip ?_
    refine cw_seq ?_
    refine cw_block ?_
    refine cw_seq ?_
    refine cw_region ?_
    refine sq 31 rfl rfl (Y_move (v := .int .i64 (i : Int)) rfl (hf1.get 29 6 rfl)) ?_
    obtain ⟨x, hx, hb1⟩ := bind_inv hb1
    refine sq 32 rfl rfl (Y_index (B := B) (m := r_.length) (c := c) (k := .i64) (i := (i : Int)) k_sl_60_3 k_sz_3_1 rfl (hf1.get 27 4 rfl) (hf1.get 29 6 rfl) (gi_isSome encI_len rfl (hS5.rf (i := 0) rfl) hx) (getI_nn hx) (getI_ltI hx rfl)) ?_
    refine sq 33 rfl rfl (Y_load1 (B := B) (i := (i : Int).toNat * 1) (cs := (r_.flatMap encI)) (v := .int .i64 x) k_sc_3 rfl rfl (hS5.rf (i := 0) rfl) (gi_at0 encI_len hx rfl)) ?_
    refine sq 9 rfl rfl (Y_assign (v := .int .i64 (i : Int)) rfl rfl) ?_
    refine sq 10 rfl rfl (Y_assign (v := .int .i64 x) rfl rfl) ?_
    refine rw_nil ?_
    refine cw_seq ?_
    refine cw_region ?_
    refine sq 34 rfl rfl (Y_move (v := .map (some g)) rfl (hf1.get 0 0 rfl)) ?_
    refine sq 35 rfl rfl (Y_move (v := .int .i64 rest_) rfl (hf1.get 3 2 rfl)) ?_
    refine sq 36 rfl rfl (Y_move (v := .int .i64 x) rfl rfl) ?_
    refine sq 37 rfl rfl (Y_bor (k := .i64) (a := rest_) (b := x) rfl rfl rfl) ?_
    refine sq 38 rfl rfl (Y_move (v := .int .i64 coef1) rfl (hf1.get 1 1 rfl)) ?_
    obtain ⟨m4, hc2, hb1⟩ := bind_inv hb1
    refine sc 39 rfl rfl (Yc_func (g := 63) (vs := [.map (some g), .int .i64 (bits .or .i64 rest_ x), .int .i64 coef1]) k_call_63 rfl (mc rfl (mc rfl (mc rfl mn))) (c_impl_polynomial_add m3 (bits .or .i64 rest_ x) coef1 g _  (hS5.inn [true] rfl [] rfl) hc2)) ?_
    rintro _ w_3 ⟨rfl, hd2⟩
    have hS7 := hS5.out [true] rfl hd2
    refine rw_nil ?_
    refine cw_seq ?_
    refine cw_region ?_
    refine sq 40 rfl rfl (Y_move (v := .slice B r_.length c) rfl (hf1.get 8 3 rfl)) ?_
    refine sq 41 rfl rfl (Y_move (v := .int .i64 (i : Int)) rfl rfl) ?_
    obtain ⟨hsl, hb1⟩ := chk_inv hb1
    have hcap1 : r_.length ≤ c := hq
    have hv : (List.take i r_).length = i := (take_len rfl (by omega))
    have hq1 : i ≤ c := by omega
    have ho2 : Org w0 (bl [⟨(some ⟨g, 0, none⟩), .mp (mpE (Value.int .i64) (Value.int .i64) p), [], 0⟩]) [] [⟨B, ((List.take i r_).flatMap encI)⟩] := org_view encI_len (q := c) ho (sv_zero _ _ _).symm rfl
    have hS8 : ST w0 (bl [⟨(some ⟨g, 0, none⟩), .mp (mpE (Value.int .i64) (Value.int .i64) p), [], 0⟩]) _ [⟨(some ⟨g, 0, none⟩), .mp (mpE (Value.int .i64) (Value.int .i64) m4), [], 0⟩] [⟨B, ((List.take i r_).flatMap encI)⟩, ⟨B, (r_.flatMap encI)⟩] := ST.view encI_len hS7 (i := 0) rfl (lo := 0) (h := i) (q := c) (by omega) (by omega) (sv_zero _ _ _).symm rfl
    refine sq 42 rfl rfl (Y_slice0 (B := B) (m := r_.length) (c := c) (h := i) (s := 1) k_sl_60_3 k_sz_3_1 rfl rfl (bnd_some rfl rfl) (by omega)) ?_
    refine sq 43 rfl rfl (Y_len (B := B) (m := i) (c := c) k_sl_60_3 rfl rfl) ?_
    refine sq 44 rfl rfl (Y_move (v := .int .i64 0) rfl rfl) ?_
    refine rw_nil ?_
    obtain ⟨hN1, hb1⟩ := chk_inv hb1
    obtain ⟨z2, hz2, hF5⟩ := bind_inv hb1
    refine cw_block ?_
    refine cw_loop (fun k f w => ∃ (i1 : Nat) (m5 : List (Int × Int)), FF f [(0, .map (some g)), (1, .int .i64 coef1), (3, .int .i64 rest_), (8, .slice B r_.length c), (10, .int .i64 x), (27, .slice B r_.length c), (28, .int .i64 (r_.length : Int)), (29, .int .i64 (i : Int)), (42, .slice B i c), (43, .int .i64 (i : Int)), (44, .int .i64 (i1 : Int))] ∧ ST w0 (bl [⟨(some ⟨g, 0, none⟩), .mp (mpE (Value.int .i64) (Value.int .i64) p), [], 0⟩]) w [⟨(some ⟨g, 0, none⟩), .mp (mpE (Value.int .i64) (Value.int .i64) m5), [], 0⟩] [⟨B, ((List.take i r_).flatMap encI)⟩, ⟨B, (r_.flatMap encI)⟩] ∧ i1 + k = i ∧ forN (F_impl_polynomial_expand_l2 i r_ rest_ x coef1) k i1 m5 = some z2) i ⟨0, m4, (FF.cons (hf1.get 0 0 rfl) (FF.cons (hf1.get 1 1 rfl) (FF.cons (hf1.get 3 2 rfl) (FF.cons (hf1.get 8 3 rfl) (FF.cons rfl (FF.cons (hf1.get 27 4 rfl) (FF.cons (hf1.get 28 5 rfl) (FF.cons (hf1.get 29 6 rfl) (FF.cons rfl (FF.cons rfl (FF.cons rfl FF.nil))))))))))), (hS8.sel [0] rfl rfl), Nat.zero_add _, hz2⟩ ?_
    rintro k_2 f w ⟨i1, m5, hf2, hS9, hik1, hL2⟩
    refine cw_seq ?_
    refine cw_region ?_
    refine sq 45 rfl rfl (Y_lt (k := .i64) (a := (i1 : Int)) (b := (i : Int)) rfl (hf2.get 44 10 rfl) (hf2.get 43 9 rfl)) ?_
    refine rw_nil ?_
    refine cw_seq ?_
    refine cw_cond (b := (decide ((i1 : Int) < (i : Int)))) rfl (fun hlt2 => ?_) (fun hlt2 => ?_)
    · skip
      have hlt3 : i1 < i := by have h := of_decide_eq_true hlt2; omega
      obtain ⟨k_3, rfl⟩ : ∃ k2, k_2 = k2 + 1 := ⟨k_2 - 1, by omega⟩
      obtain ⟨y1, hb2, hL3⟩ := forN_go hL2
      unfold F_impl_polynomial_expand_l2 at hb2
      refine cw_skip ?_
      refine cw_seq ?_
      refine cw_block ?_
      refine cw_seq ?_
      refine cw_region ?_
      refine sq 46 rfl rfl (Y_move (v := .int .i64 (i1 : Int)) rfl (hf2.get 44 10 rfl)) ?_
      obtain ⟨x1, hx1, hb2⟩ := bind_inv hb2
      refine sq 47 rfl rfl (Y_index (B := B) (m := i) (c := c) (k := .i64) (i := (i1 : Int)) k_sl_60_3 k_sz_3_1 rfl (hf2.get 42 8 rfl) (hf2.get 44 10 rfl) (gi_isSome encI_len rfl (hS9.rf (i := 0) rfl) hx1) (getI_nn hx1) (getI_ltI hx1 hv)) ?_
      refine sq 48 rfl rfl (Y_load1 (B := B) (i := (i1 : Int).toNat * 1) (cs := ((List.take i r_).flatMap encI)) (v := .int .i64 x1) k_sc_3 rfl rfl (hS9.rf (i := 0) rfl) (gi_at0 encI_len hx1 rfl)) ?_
      refine sq 11 rfl rfl (Y_assign (v := .int .i64 (i1 : Int)) rfl rfl) ?_
      refine sq 12 rfl rfl (Y_assign (v := .int .i64 x1) rfl rfl) ?_
      refine rw_nil ?_
      refine cw_seq ?_
      refine cw_region ?_
      refine sq 49 rfl rfl (Y_move (v := .map (some g)) rfl (hf2.get 0 0 rfl)) ?_
      refine sq 50 rfl rfl (Y_move (v := .int .i64 rest_) rfl (hf2.get 3 2 rfl)) ?_
      refine sq 51 rfl rfl (Y_move (v := .int .i64 x) rfl (hf2.get 10 4 rfl)) ?_
      refine sq 52 rfl rfl (Y_bor (k := .i64) (a := rest_) (b := x) rfl rfl rfl) ?_
      refine sq 53 rfl rfl (Y_move (v := .int .i64 x1) rfl rfl) ?_
      refine sq 54 rfl rfl (Y_bor (k := .i64) (a := (bits .or .i64 rest_ x)) (b := x1) rfl rfl rfl) ?_
      refine sq 55 rfl rfl (Y_move (v := .int .i64 coef1) rfl (hf2.get 1 1 rfl)) ?_
      refine sq 56 rfl rfl (Y_mul (k := .i64) (a := (-2)) (b := coef1) rfl rfl rfl) ?_
      obtain ⟨m6, hc3, hb2⟩ := bind_inv hb2
      refine sc 57 rfl rfl (Yc_func (g := 63) (vs := [.map (some g), .int .i64 (bits .or .i64 (bits .or .i64 rest_ x) x1), .int .i64 (IntKind.i64.wrap ((-2) * coef1))]) k_call_63 rfl (mc rfl (mc rfl (mc rfl mn))) (c_impl_polynomial_add m5 (bits .or .i64 (bits .or .i64 rest_ x) x1) (IntKind.i64.wrap ((-2) * coef1)) g _  (hS9.inn [true] rfl [] rfl) hc3)) ?_
      rintro _ w_4 ⟨rfl, hd3⟩
      have hS10 := hS9.out [true] rfl hd3
      refine rw_nil ?_
      refine cw_seq ?_
      refine cw_region ?_
      refine sq 58 rfl rfl (Y_move (v := .slice B r_.length c) rfl (hf2.get 8 3 rfl)) ?_
      refine sq 59 rfl rfl (Y_move (v := .int .i64 (i1 : Int)) rfl rfl) ?_
      obtain ⟨hsl1, hb2⟩ := chk_inv hb2
      have hcap2 : r_.length ≤ c := hq
      have hv1 : (List.take i1 r_).length = i1 := (take_len rfl (by omega))
      have hq2 : i1 ≤ c := by omega
      have ho3 : Org w0 (bl [⟨(some ⟨g, 0, none⟩), .mp (mpE (Value.int .i64) (Value.int .i64) p), [], 0⟩]) [] [⟨B, ((List.take i1 r_).flatMap encI)⟩] := org_view encI_len (q := c) ho (sv_zero _ _ _).symm rfl
      have hS11 : ST w0 (bl [⟨(some ⟨g, 0, none⟩), .mp (mpE (Value.int .i64) (Value.int .i64) p), [], 0⟩]) _ [⟨(some ⟨g, 0, none⟩), .mp (mpE (Value.int .i64) (Value.int .i64) m6), [], 0⟩] [⟨B, ((List.take i1 r_).flatMap encI)⟩, ⟨B, ((List.take i r_).flatMap encI)⟩, ⟨B, (r_.flatMap encI)⟩] := ST.view encI_len hS10 (i := 1) rfl (lo := 0) (h := i1) (q := c) (by omega) (by omega) (sv_zero _ _ _).symm rfl
      refine sq 60 rfl rfl (Y_slice0 (B := B) (m := r_.length) (c := c) (h := i1) (s := 1) k_sl_60_3 k_sz_3_1 rfl rfl (bnd_some rfl rfl) (by omega)) ?_
      refine sq 61 rfl rfl (Y_len (B := B) (m := i1) (c := c) k_sl_60_3 rfl rfl) ?_
      refine sq 62 rfl rfl (Y_move (v := .int .i64 0) rfl rfl) ?_
      refine rw_nil ?_
      obtain ⟨hN2, hb2⟩ := chk_inv hb2
      obtain ⟨z3, hz3, hF6⟩ := bind_inv hb2
      refine cw_block ?_
      refine cw_loop (fun k f w => ∃ (i2 : Nat) (m7 : List (Int × Int)), FF f [(0, .map (some g)), (1, .int .i64 coef1), (3, .int .i64 rest_), (8, .slice B r_.length c), (10, .int .i64 x), (12, .int .i64 x1), (27, .slice B r_.length c), (28, .int .i64 (r_.length : Int)), (29, .int .i64 (i : Int)), (42, .slice B i c), (43, .int .i64 (i : Int)), (44, .int .i64 (i1 : Int)), (60, .slice B i1 c), (61, .int .i64 (i1 : Int)), (62, .int .i64 (i2 : Int))] ∧ ST w0 (bl [⟨(some ⟨g, 0, none⟩), .mp (mpE (Value.int .i64) (Value.int .i64) p), [], 0⟩]) w [⟨(some ⟨g, 0, none⟩), .mp (mpE (Value.int .i64) (Value.int .i64) m7), [], 0⟩] [⟨B, ((List.take i1 r_).flatMap encI)⟩, ⟨B, ((List.take i r_).flatMap encI)⟩, ⟨B, (r_.flatMap encI)⟩] ∧ i2 + k = i1 ∧ forN (F_impl_polynomial_expand_l3 i1 r_ rest_ x x1 coef1) k i2 m7 = some z3) i1 ⟨0, m6, (FF.cons (hf2.get 0 0 rfl) (FF.cons (hf2.get 1 1 rfl) (FF.cons (hf2.get 3 2 rfl) (FF.cons (hf2.get 8 3 rfl) (FF.cons (hf2.get 10 4 rfl) (FF.cons rfl (FF.cons (hf2.get 27 5 rfl) (FF.cons (hf2.get 28 6 rfl) (FF.cons (hf2.get 29 7 rfl) (FF.cons (hf2.get 42 8 rfl) (FF.cons (hf2.get 43 9 rfl) (FF.cons (hf2.get 44 10 rfl) (FF.cons rfl (FF.cons rfl (FF.cons rfl FF.nil))))))))))))))), (hS11.sel [0] rfl rfl), Nat.zero_add _, hz3⟩ ?_
      rintro k_4 f w ⟨i2, m7, hf3, hS12, hik2, hL4⟩
      refine cw_seq ?_
      refine cw_region ?_
      refine sq 63 rfl rfl (Y_lt (k := .i64) (a := (i2 : Int)) (b := (i1 : Int)) rfl (hf3.get 62 14 rfl) (hf3.get 61 13 rfl)) ?_
      refine rw_nil ?_
      refine cw_seq ?_
      refine cw_cond (b := (decide ((i2 : Int) < (i1 : Int)))) rfl (fun hlt4 => ?_) (fun hlt4 => ?_)
      · skip
        have hlt5 : i2 < i1 := by have h := of_decide_eq_true hlt4; omega
        obtain ⟨k_5, rfl⟩ : ∃ k2, k_4 = k2 + 1 := ⟨k_4 - 1, by omega⟩
        obtain ⟨y2, hb3, hL5⟩ := forN_go hL4
        unfold F_impl_polynomial_expand_l3 at hb3
        refine cw_skip ?_
        refine cw_seq ?_
        refine cw_block ?_
        refine cw_seq ?_
        refine cw_region ?_
        obtain ⟨x2, hx2, hb3⟩ := bind_inv hb3
        refine sq 64 rfl rfl (Y_index (B := B) (m := i1) (c := c) (k := .i64) (i := (i2 : Int)) k_sl_60_3 k_sz_3_1 rfl (hf3.get 60 12 rfl) (hf3.get 62 14 rfl) (gi_isSome encI_len rfl (hS12.rf (i := 0) rfl) hx2) (getI_nn hx2) (getI_ltI hx2 hv1)) ?_
        refine sq 65 rfl rfl (Y_load1 (B := B) (i := (i2 : Int).toNat * 1) (cs := ((List.take i1 r_).flatMap encI)) (v := .int .i64 x2) k_sc_3 rfl rfl (hS12.rf (i := 0) rfl) (gi_at0 encI_len hx2 rfl)) ?_
        refine sq 14 rfl rfl (Y_assign (v := .int .i64 x2) rfl rfl) ?_
        refine rw_nil ?_
        refine cw_region ?_
        refine sq 66 rfl rfl (Y_move (v := .map (some g)) rfl (hf3.get 0 0 rfl)) ?_
        refine sq 67 rfl rfl (Y_move (v := .int .i64 rest_) rfl (hf3.get 3 2 rfl)) ?_
        refine sq 68 rfl rfl (Y_move (v := .int .i64 x) rfl (hf3.get 10 4 rfl)) ?_
        refine sq 69 rfl rfl (Y_bor (k := .i64) (a := rest_) (b := x) rfl rfl rfl) ?_
        refine sq 70 rfl rfl (Y_move (v := .int .i64 x1) rfl (hf3.get 12 5 rfl)) ?_
        refine sq 71 rfl rfl (Y_bor (k := .i64) (a := (bits .or .i64 rest_ x)) (b := x1) rfl rfl rfl) ?_
        refine sq 72 rfl rfl (Y_move (v := .int .i64 x2) rfl rfl) ?_
        refine sq 73 rfl rfl (Y_bor (k := .i64) (a := (bits .or .i64 (bits .or .i64 rest_ x) x1)) (b := x2) rfl rfl rfl) ?_
        refine sq 74 rfl rfl (Y_move (v := .int .i64 coef1) rfl (hf3.get 1 1 rfl)) ?_
        refine sq 75 rfl rfl (Y_mul (k := .i64) (a := 4) (b := coef1) rfl rfl rfl) ?_
        obtain ⟨m8, hc4, hb3⟩ := bind_inv hb3
        refine sc 76 rfl rfl (Yc_func (g := 63) (vs := [.map (some g), .int .i64 (bits .or .i64 (bits .or .i64 (bits .or .i64 rest_ x) x1) x2), .int .i64 (IntKind.i64.wrap (4 * coef1))]) k_call_63 rfl (mc rfl (mc rfl (mc rfl mn))) (c_impl_polynomial_add m7 (bits .or .i64 (bits .or .i64 (bits .or .i64 rest_ x) x1) x2) (IntKind.i64.wrap (4 * coef1)) g _  (hS12.inn [true] rfl [] rfl) hc4)) ?_
        rintro _ w_5 ⟨rfl, hd4⟩
        have hS13 := hS12.out [true] rfl hd4
        refine rw_nil ?_
        refine cw_region ?_
        refine sq 77 rfl rfl (Y_add (k := .i64) (a := (i2 : Int)) (b := 1) rfl (hf3.get 62 14 rfl) rfl) ?_
        refine sq 62 rfl rfl (Y_move (v := .int .i64 (IntKind.i64.wrap ((i2 : Int) + 1))) rfl rfl) ?_
        refine rw_nil ?_
        obtain rfl := some_inj hb3
        exact ⟨k_5, Nat.lt_succ_self _, i2 + 1, m8, (FF.cons (hf3.get 0 0 rfl) (FF.cons (hf3.get 1 1 rfl) (FF.cons (hf3.get 3 2 rfl) (FF.cons (hf3.get 8 3 rfl) (FF.cons (hf3.get 10 4 rfl) (FF.cons (hf3.get 12 5 rfl) (FF.cons (hf3.get 27 6 rfl) (FF.cons (hf3.get 28 7 rfl) (FF.cons (hf3.get 29 8 rfl) (FF.cons (hf3.get 42 9 rfl) (FF.cons (hf3.get 43 10 rfl) (FF.cons (hf3.get 44 11 rfl) (FF.cons (hf3.get 60 12 rfl) (FF.cons (hf3.get 61 13 rfl) (FF.cons (congrArg (Value.int .i64) (wr_succ hlt5 hN2)) FF.nil))))))))))))))), (hS13.sel [0] rfl rfl), (by omega), hL5⟩
      · skip
        obtain rfl : k_4 = 0 := by have h := of_decide_eq_false hlt4; omega
        refine cw_exit rfl ?_
        obtain rfl := some_inj hL4
        refine cw_region ?_
        refine sq 78 rfl rfl (Y_add (k := .i64) (a := (i1 : Int)) (b := 1) rfl (hf3.get 44 11 rfl) rfl) ?_
        refine sq 44 rfl rfl (Y_move (v := .int .i64 (IntKind.i64.wrap ((i1 : Int) + 1))) rfl rfl) ?_
        refine rw_nil ?_
        obtain rfl := some_inj hF6
        have hS14 : ST w0 (bl [⟨(some ⟨g, 0, none⟩), .mp (mpE (Value.int .i64) (Value.int .i64) p), [], 0⟩]) _ [⟨(some ⟨g, 0, none⟩), .mp (mpE (Value.int .i64) (Value.int .i64) m7), [], 0⟩] [⟨B, ((List.take i r_).flatMap encI)⟩, ⟨B, (r_.flatMap encI)⟩] := ST.subR hS12 (subc (mem_at (i := 1) rfl) (subc (mem_at (i := 2) rfl) (fun _ h => by cases h)))
        exact ⟨k_3, Nat.lt_succ_self _, i1 + 1, m7, (FF.cons (hf3.get 0 0 rfl) (FF.cons (hf3.get 1 1 rfl) (FF.cons (hf3.get 3 2 rfl) (FF.cons (hf3.get 8 3 rfl) (FF.cons (hf3.get 10 4 rfl) (FF.cons (hf3.get 27 6 rfl) (FF.cons (hf3.get 28 7 rfl) (FF.cons (hf3.get 29 8 rfl) (FF.cons (hf3.get 42 9 rfl) (FF.cons (hf3.get 43 10 rfl) (FF.cons (congrArg (Value.int .i64) (wr_succ hlt3 hN1)) FF.nil))))))))))), (hS14.sel [0] rfl rfl), (by omega), hL3⟩
    · skip
      obtain rfl : k_2 = 0 := by have h := of_decide_eq_false hlt2; omega
      refine cw_exit rfl ?_
      obtain rfl := some_inj hL2
      refine cw_region ?_
      refine sq 79 rfl rfl (Y_add (k := .i64) (a := (i : Int)) (b := 1) rfl (hf2.get 29 7 rfl) rfl) ?_
      refine sq 29 rfl rfl (Y_move (v := .int .i64 (IntKind.i64.wrap ((i : Int) + 1))) rfl rfl) ?_
      refine rw_nil ?_
      obtain rfl := some_inj hF5
      have hS15 : ST w0 (bl [⟨(some ⟨g, 0, none⟩), .mp (mpE (Value.int .i64) (Value.int .i64) p), [], 0⟩]) _ [⟨(some ⟨g, 0, none⟩), .mp (mpE (Value.int .i64) (Value.int .i64) m5), [], 0⟩] [⟨B, (r_.flatMap encI)⟩] := ST.subR hS9 (subc (mem_at (i := 1) rfl) (fun _ h => by cases h))
      exact ⟨k_1, Nat.lt_succ_self _, i + 1, m5, (FF.cons (hf2.get 0 0 rfl) (FF.cons (hf2.get 1 1 rfl) (FF.cons (hf2.get 3 2 rfl) (FF.cons (hf2.get 8 3 rfl) (FF.cons (hf2.get 27 5 rfl) (FF.cons (hf2.get 28 6 rfl) (FF.cons (congrArg (Value.int .i64) (wr_succ hlt1 hN)) FF.nil))))))), ho, (len_le rfl hq), (hS15.sel [0] rfl rfl), (by omega), hL1⟩
  · skip
    obtain rfl : k_ = 0 := by have h := of_decide_eq_false hlt; omega
    refine cw_exit rfl ?_
    obtain rfl := some_inj hL
    obtain rfl := some_inj hF4
    exact ret0 Tryd.results61  ⟨rfl, (ST.subR (R' := []) (hS5.sel [0] rfl rfl) (fun _ h => by cases h))⟩

def tmO (dl : List MapEntry) : List TTerm := dl.filterMap fun e => tmF (enK e, enV e)
theorem tmO_snoc (dl : List MapEntry) (e : MapEntry) : tmO (dl ++ [e]) = if 0 < enK e ∧ 0 < enV e then tmO dl ++ [⟨enK e, enV e⟩] else tmO dl := by
  unfold tmO
  rw [List.filterMap_append]
  by_cases h : 0 < enK e ∧ 0 < enV e
  · rw [if_pos h]
    simp [tmF, h]
  · rw [if_neg h]
    simp [tmF, h]
theorem tmO_es {es : Array MapEntry} {ck : Nat} {p : List (Int × Int)} (hM : MapIs es ck (mpE (Value.int .i64) (Value.int .i64) p)) : tmO es.toList = p.filterMap tmF := by
  rw [← ent_list hM, List.filterMap_map]; rfl
theorem tmF_key {p : List (Int × Int)} (h : p.Pairwise fun a b => a.1 ≠ b.1) : (p.filterMap tmF).Pairwise fun a b => a.Mask ≠ b.Mask := by
  rw [List.pairwise_filterMap]
  refine h.imp fun {a b} hab x hx y hy => ?_
  unfold tmF at hx hy
  split at hx <;> split at hy
  · cases hx; cases hy; exact hab
  · cases hy
  · cases hx
  · cases hx
set_option maxHeartbeats 1000000 in
theorem cl_terms (x y : TTerm) (W : World) : Calls Tryd.prog 68 #[.agg (enc_Term x).toArray, .agg (enc_Term y).toArray] W fun e w' => e = .returned (.int .i64 (IntKind.i64.wrap (x.Mask - y.Mask))) ∧ ∃ q os', w' = Go.Sort.grow (W.drewN q) os' := by
  show Calls Tryd.prog 68 #[.agg #[.int .i64 x.Mask, .int .i64 x.Coef], .agg #[.int .i64 y.Mask, .int .i64 y.Coef]] W _
  go_enter Tryd.func68, Tryd.ntmps68
  go_wp2
  go_ret
  rw [show IntKind.i64.wrap (x.Mask - y.Mask) = RowKit.wrap64 (x.Mask - y.Mask) from by rw [IntKind.wrap_i64]; unfold RowKit.wrap64; rfl]
  exact ⟨rfl, 0, _, by rw [Go.Sort.alloc_eq_grow, Go.Sort.alloc_eq_grow, Go.Sort.grow_grow]; rfl⟩
theorem c_impl_polynomial_terms (p : List (Int × Int)) (g : Nat) (w0 : World)  (hS : ST w0 (bl [⟨(some ⟨g, 0, none⟩), .mp (mpE (Value.int .i64) (Value.int .i64) p), [], 0⟩]) w0 [⟨(some ⟨g, 0, none⟩), .mp (mpE (Value.int .i64) (Value.int .i64) p), [], 0⟩] []) {r_ : List TTerm} (hF : F_impl_polynomial_terms p = some r_) :
    CV Tryd.prog 62 #[.map (some g)] w0 (fun v w' => ∃ (B : Option Addr) (c : Nat), v = .slice B r_.length c ∧ ST w0 (bl [⟨(some ⟨g, 0, none⟩), .mp (mpE (Value.int .i64) (Value.int .i64) p), [], 0⟩]) w' [⟨(some ⟨g, 0, none⟩), .mp (mpE (Value.int .i64) (Value.int .i64) p), [], 0⟩, ⟨B, 56, (r_.flatMap enc_Term), c * 2⟩] []) := by
  unfold F_impl_polynomial_terms at hF
  obtain ⟨⟨hlen, hrng⟩, hF⟩ := chk_inv hF
  obtain rfl := some_inj hF
  refine cv_of_cw 29 Tryd.func62 rfl Tryd.ntmps62 rfl ?_
  refine cw_seq ?_
  refine cw_region ?_
  refine sq 2 rfl rfl (Y_assign (v := .slice none 0 0) rfl rfl) ?_
  refine rw_nil ?_
  refine cw_seq ?_
  refine cw_region ?_
  refine ss 6 rfl rfl (Ys_bslice0 (s := 2) (e := 56) hS k_sl_27_56 k_sz_56_2 rfl) ?_
  rintro _ w_ ⟨b, rfl, hS1⟩
  refine sq 3 rfl rfl (Y_assign (v := .slice (some ⟨b, 0, none⟩) 0 0) rfl rfl) ?_
  refine rw_nil ?_
  refine cw_seq ?_
  refine cw_seq ?_
  refine cw_region ?_
  refine sq 7 rfl rfl (Y_move (v := .map (some g)) rfl rfl) ?_
  refine ss 8 rfl rfl (Ys_range (g := g) (i := 0) (lv := mpE (Value.int .i64) (Value.int .i64) p) hS1 k_map_93_3_3 rfl rfl rfl) ?_
  rintro _ w_1 ⟨r, es, ck, rfl, hM, hS2⟩
  refine rw_nil ?_
  have hst := (MapKept.stamped_iff es ck).1 hM.2
  have hes : es.toList.length = p.length := by rw [← ent_list hM, List.length_map]
  have hkp := tmF_key (mp_pair hM)
  refine cw_block ?_
  refine cw_loop (fun k f w => ∃ (dl rl : List MapEntry) (B : Option Addr) (c : Nat), FF f [(3, .slice B (tmO dl).length c), (8, .pointer (some ⟨r, 0, none⟩))] ∧ (dl ++ rl).Perm es.toList ∧ k = rl.length ∧
    ST w0 (bl [⟨(some ⟨g, 0, none⟩), .mp (mpE (Value.int .i64) (Value.int .i64) p), [], 0⟩]) w [⟨(some ⟨g, 0, none⟩), .ob (.map es ck), [], 0⟩, ⟨B, 56, ((tmO dl).flatMap enc_Term), c * 2⟩, ⟨(some ⟨r, 0, none⟩), .ob (.mapIter (some g) ck (dl.map (·.born)).toArray ck), [], 0⟩] []) es.toList.length ⟨[], es.toList, some ⟨b, 0, none⟩, 0, (FF.cons rfl (FF.cons rfl FF.nil)), .refl _, rfl, hS2⟩ ?_
  rintro k_ f w ⟨dl, rl, B, c, hf, hp, rfl, hS3⟩
  refine cw_seq ?_
  refine cw_region ?_
  refine ss 9 rfl rfl (Ys_next (g := g) (r := r) (i := 0) (j := 2) hS3 rfl (hf.get 8 1 rfl) rfl rfl hst.1 (Nat.le_refl _)) ?_
  rintro _ w_2 (⟨rfl, h0, hS4⟩ | ⟨e, he, rfl, hS4⟩)
  · refine sq 10 rfl rfl (Y_extract (v := .bool false) rfl rfl rfl) ?_
    refine rw_nil ?_
    refine cw_seq ?_
    refine cw_cond (b := false) rfl (fun h => by cases h) (fun _ => ?_)
    refine cw_exit rfl ?_
    obtain rfl := left_nil hst.2.1 hp h0
    rw [List.append_nil] at hp
    have hpp : (tmO dl).Perm (p.filterMap tmF) := by rw [← tmO_es hM]; exact hp.filterMap _
    have hdd : (tmO dl).Pairwise fun a b => a.Mask ≠ b.Mask := (hpp.pairwise_iff (fun {a b} h => Ne.symm h)).2 hkp
    have hll : (tmO dl).length ≤ p.length := by rw [hpp.length_eq]; exact List.length_filterMap_le _ _
    have hrr : ∀ x ∈ tmO dl, 0 ≤ x.Mask ∧ x.Mask < 4611686018427387904 := fun x hx => by
      obtain ⟨q, hq, hqx⟩ := List.mem_filterMap.1 (hpp.mem_iff.1 hx)
      have := hrng q hq
      unfold tmF at hqx
      split at hqx
      · cases hqx
        exact ⟨by simp only; omega, this⟩
      · cases hqx
    have hso : ((tmO dl).mergeSort fun a b => decide (a.Mask ≤ b.Mask)) = termsOf p := sort_perm hpp hkp
    refine cw_seq ?_
    refine cw_region ?_
    refine sq 26 rfl rfl (Y_move (v := .slice B (tmO dl).length c) rfl (hf.get 3 0 rfl)) ?_
    refine sc 27 rfl rfl (Yc_func (g := 67) (vs := [.slice B (tmO dl).length c, .func (.func 68) #[] #[]]) k_call_67 rfl (mc rfl (mc rfl mn)) (sortf_c Tryd.sortf67 67 rfl (key := TTerm.Mask) enc_Term_len (by decide) enc_Term_one (run_isAgg_agg k_ag_56) (run_sizeOf k_sz_56_2) 68 (enters_of Tryd.func68 (by kernel_rfl) rfl) cl_terms hrr hdd (by omega) (n := (tmO dl).length) (c := c) (k := 1) (B := B) rfl rfl hS4)) ?_
    rintro _ w_3 ⟨rfl, hS5⟩
    rw [hso] at hS5
    refine rw_nil ?_
    refine cw_seq ?_
    refine cw_region ?_
    refine sq 28 rfl rfl (Y_move (v := .slice B (tmO dl).length c) rfl (hf.get 3 0 rfl)) ?_
    refine sq 2 rfl rfl (Y_assign (v := .slice B (tmO dl).length c) rfl rfl) ?_
    refine rw_nil ?_
    refine cw_ret ?_
    have hl : (tmO dl).length = (termsOf p).length := by rw [← hso, List.length_mergeSort]
    exact ret1 Tryd.results62 (v1 := .slice B (tmO dl).length c) (resAt_tmp rfl) ⟨B, c, by rw [hl], ((hS5.mapIn (i := 0) (g := g) rfl hM rfl).sel [0, 1] rfl rfl)⟩
  · refine sq 10 rfl rfl (Y_extract (v := .bool true) rfl rfl rfl) ?_
    refine rw_nil ?_
    refine cw_seq ?_
    refine cw_cond (b := true) rfl (fun _ => ?_) (fun h => by cases h)
    refine cw_skip ?_
    obtain ⟨hem, ra, rb, rfl⟩ := left_mem hp he
    obtain ⟨hk1, hv1⟩ := ent_int hM hem
    have hsn := tmO_snoc dl e
    have hbo : ((dl ++ [e]).map (·.born)).toArray = (dl.map (·.born)).toArray.push e.born := by simp
    generalize enK e = a at hk1 hsn
    generalize enV e = b2 at hv1 hsn
    have hdl : (tmO dl).length < p.length := by
      have h1 : (tmO dl).length ≤ dl.length := List.length_filterMap_le _ _
      have h2 := hp.length_eq
      simp only [List.length_append, List.length_cons] at h2
      omega
    refine cw_block ?_
    refine cw_seq ?_
    refine cw_region ?_
    refine sq 11 rfl rfl (Y_entry2 (g := g) (r := r) (i := 0) (j := 2) (kv := .int .i64 a) (vv := .int .i64 b2) hS4 rfl (hf.get 8 1 rfl) rfl rfl hem hst.2.1 hk1 hv1) ?_
    refine sq 12 rfl rfl (Y_extract (v := .int .i64 a) rfl rfl rfl) ?_
    refine sq 13 rfl rfl (Y_extract (v := .int .i64 b2) rfl rfl rfl) ?_
    refine sq 4 rfl rfl (Y_assign (v := .int .i64 a) rfl rfl) ?_
    refine sq 5 rfl rfl (Y_assign (v := .int .i64 b2) rfl rfl) ?_
    refine rw_nil ?_
    refine cw_seq ?_
    refine cw_region ?_
    refine sq 14 rfl rfl (Y_move (v := .int .i64 a) rfl rfl) ?_
    refine sq 15 rfl rfl (Y_gt (k := .i64) (a := a) (b := 0) rfl rfl rfl) ?_
    refine sq 16 rfl rfl (Y_move (v := .bool (decide (0 < a))) rfl rfl) ?_
    refine sgq 17 (B := (decide (0 < a))) (v := .int .i64 b2) rfl rfl (wt_t (gd_of (t := 16) (by kernel_rfl) rfl)) (fun hg => (Y_move (v := .int .i64 b2) rfl rfl)) ?_
    refine sgq 18 (B := (decide (0 < a))) (v := .bool (decide (0 < b2))) rfl rfl (wt_t (gd_of (t := 16) (by kernel_rfl) rfl)) (fun hg1 => (Y_gt (k := .i64) (a := b2) (b := 0) rfl (gv_of (B := (decide (0 < a))) (v := .int .i64 b2) hg1) rfl)) ?_
    refine sq 19 rfl rfl (Y_and (b := (decide (0 < a))) (z := (decide (0 < b2))) rfl rfl rfl rfl) ?_
    refine rw_nil ?_
    refine cw_cond (b := ((decide (0 < a)) && (decide (0 < b2)))) rfl (fun hb => ?_) (fun hb => ?_)
    · have hb' : 0 < a ∧ 0 < b2 := by simpa using hb
      rw [if_pos hb'] at hsn
      refine cw_region ?_
      refine sq 20 rfl rfl (Y_move (v := .slice B ((tmO dl).length) c) rfl (hf.get 3 0 rfl)) ?_
      refine sq 21 rfl rfl (Y_move (v := .int .i64 a) rfl rfl) ?_
      refine sq 22 rfl rfl (Y_move (v := .int .i64 b2) rfl rfl) ?_
      refine sq 23 rfl rfl (Y_buildS (zs := [.int .i64 0, .int .i64 0]) (vs := [(0, .int .i64 a), (1, .int .i64 b2)]) (cs := [.int .i64 a, .int .i64 b2]) k_pl_56 k_zero_56 rfl (mpc rfl (mpc rfl mpn)) rfl) ?_
      refine ss 24 rfl rfl (Ys_bslice (s := 2) (len := 1) (vs := [(0, .agg #[.int .i64 a, .int .i64 b2])]) (cs := [.int .i64 a, .int .i64 b2]) (zs := [.int .i64 0, .int .i64 0]) (m := 2) hS4 k_sl_27_56 k_sz_56_2 k_zc_56 rfl (mpc rfl mpn) rfl rfl rfl (by kernel_rfl) (by kernel_rfl) rfl) ?_
      rintro _ w_4 ⟨b, rfl, hS5⟩
      have hS5 : ST w0 (bl [⟨(some ⟨g, 0, none⟩), .mp (mpE (Value.int .i64) (Value.int .i64) p), [], 0⟩]) _ [⟨(some ⟨g, 0, none⟩), .ob (.map es ck), [], 0⟩, ⟨B, 56, ((tmO dl).flatMap enc_Term), c * 2⟩, ⟨(some ⟨r, 0, none⟩), .ob (.mapIter (some g) ck ((dl.map (·.born)).toArray.push e.born) ck), [], 0⟩, ⟨some ⟨b, 0, none⟩, 56, ([(TTerm.mk a b2)].flatMap enc_Term), 1 * 2⟩] [] := hS5
      refine ss 25 rfl rfl (Ys_append (s := 2) (by' := 16) (i := 1) (nn := (tmO dl).length) (c := c) (k := 1) (len := ((tmO dl) ++ [(TTerm.mk a b2)]).length) (B := B) (xs := ([(TTerm.mk a b2)].flatMap enc_Term)) (cs' := (((tmO dl) ++ [(TTerm.mk a b2)]).flatMap enc_Term)) hS5 k_sl_27_56 k_sz_56_2 k_by_56_16 k_zero_56 rfl (by decide) rfl rfl rfl rfl (fm_lenn (l := (tmO dl)) enc_Term_len rfl) rfl (hS5.cf (i := 3) rfl) (fm_lenn (l := [(TTerm.mk a b2)]) enc_Term_len rfl) (fm_one' (enc := enc_Term) enc_Term_one [(TTerm.mk a b2)]) (by omega) (by simp only [maxLen]; omega) (fm_app _ _) (app_len (l := (tmO dl)) (l' := [(TTerm.mk a b2)]) rfl rfl)) ?_
      rintro _ w_5 ⟨B2, c2, rfl, hS6⟩
      refine sq 3 rfl rfl (Y_assign (v := .slice B2 (((tmO dl) ++ [(TTerm.mk a b2)]).length) c2) rfl rfl) ?_
      refine rw_nil ?_
      have hS7 := (hS6.sel [0, 1, 2] rfl rfl)
      refine ⟨(ra ++ rb).length, by simp, dl ++ [e], ra ++ rb, B2, c2, (FF.cons (by rw [hsn]; rfl) (FF.cons (hf.get 8 1 rfl) FF.nil)), left_step hp, rfl, ?_⟩
      rw [hsn, hbo]; exact hS7
    · have hb' : ¬ (0 < a ∧ 0 < b2) := by simpa using hb
      rw [if_neg hb'] at hsn
      refine cw_skip ?_
      refine ⟨(ra ++ rb).length, by simp, dl ++ [e], ra ++ rb, B, c, (FF.cons (by rw [hsn]; exact hf.get 3 0 rfl) (FF.cons (hf.get 8 1 rfl) FF.nil)), left_step hp, rfl, ?_⟩
      rw [hsn, hbo]; exact hS4

theorem c_impl_PathSum_stripped (p : TPathSum) (y : Int) (coef : Int) (set_ : Int) (B : Option Addr) (c n : Nat) (B1 : Option Addr) (c1 n1 : Nat) (w0 : World) (hn : p.Terms.length = n) (hn1 : p.Out.length = n1) (hS : ST w0 [] w0 [] [⟨B, (p.Terms.flatMap enc_Term)⟩, ⟨B1, (p.Out.flatMap enc_Affine)⟩]) {r_ : TPathSum} (hF : F_impl_PathSum_stripped p y coef set_ = some r_) :
    CV Tryd.prog 52 #[.agg #[.int .i64 p.Ins, .int .i64 p.Vars, .int .i64 p.Root, .int .i64 p.Phase, .slice B n c, .slice B1 n1 c1], .int .i64 y, .int .i64 coef, .int .i64 set_] w0 (fun v w' => ∃ (B2 : Option Addr) (c2 : Nat) (B3 : Option Addr) (c3 : Nat), v = .agg #[.int .i64 r_.Ins, .int .i64 r_.Vars, .int .i64 r_.Root, .int .i64 r_.Phase, .slice B2 r_.Terms.length c2, .slice B3 r_.Out.length c3] ∧ ST w0 [] w' [⟨B2, 56, (r_.Terms.flatMap enc_Term), c2 * 2⟩, ⟨B3, 44, (r_.Out.flatMap enc_Affine), c3 * 2⟩] []) := by
  subst hn
  subst hn1
  unfold F_impl_PathSum_stripped at hF
  refine cv_of_cw 47 Tryd.func52 rfl Tryd.ntmps52 rfl ?_
  refine cw_seq ?_
  refine cw_region ?_
  refine ss 4 rfl rfl (Ys_box (T := 30) (v := .agg #[.int .i64 p.Ins, .int .i64 p.Vars, .int .i64 p.Root, .int .i64 p.Phase, .slice B p.Terms.length c, .slice B1 p.Out.length c1]) (cs := [.int .i64 p.Ins, .int .i64 p.Vars, .int .i64 p.Root, .int .i64 p.Phase, .slice B p.Terms.length c, .slice B1 p.Out.length c1]) (m := 6) hS rfl rfl rfl rfl) ?_
  rintro _ w_ ⟨b, rfl, hS1⟩
  refine ss 8 rfl rfl (Ys_alloc (T := 30) (cs := [.int .i64 0, .int .i64 0, .int .i64 0, .int .i64 0, .slice none 0 0, .slice none 0 0]) (m := 6) hS1 k_zero_30 rfl rfl rfl) ?_
  rintro _ w_1 ⟨b1, rfl, hS2⟩
  have hS2 : ST w0 [] _ [⟨some ⟨b, 0, none⟩, 30, [.int .i64 p.Ins, .int .i64 p.Vars, .int .i64 p.Root, .int .i64 p.Phase, .slice B p.Terms.length c, .slice B1 p.Out.length c1], 6⟩, ⟨some ⟨b1, 0, none⟩, 30, [.int .i64 0, .int .i64 0, .int .i64 0, .int .i64 0, .slice none 0 0, .slice none 0 0], 6⟩] [⟨B, (p.Terms.flatMap enc_Term)⟩, ⟨B1, (p.Out.flatMap enc_Affine)⟩] := hS2
  refine rw_nil ?_
  refine cw_seq ?_
  refine cw_region ?_
  refine sq 13 rfl rfl (Y_loadA (B := some ⟨b, 0, none⟩) (i := 0) (cs := [.int .i64 p.Ins, .int .i64 p.Vars, .int .i64 p.Root, .int .i64 p.Phase, .slice B p.Terms.length c, .slice B1 p.Out.length c1]) (vs := [.int .i64 p.Ins, .int .i64 p.Vars, .int .i64 p.Root, .int .i64 p.Phase, .slice B p.Terms.length c, .slice B1 p.Out.length c1]) k_ag_30 k_sz_30_6 rfl rfl (hS2.cf (i := 0) rfl) rfl rfl) ?_
  obtain ⟨r_1, hc, hF⟩ := bind_inv hF
  refine sc 14 rfl rfl (Yc_func (g := 60) (vs := [.agg #[.int .i64 p.Ins, .int .i64 p.Vars, .int .i64 p.Root, .int .i64 p.Phase, .slice B p.Terms.length c, .slice B1 p.Out.length c1]]) k_call_60 rfl (mc rfl mn) (c_impl_polyOf p B c p.Terms.length B1 c1 p.Out.length _ rfl rfl (hS2.inn0 [(true, 0), (true, 1)] rfl) hc)) ?_
  rintro _ w_2 ⟨g, rfl, hd⟩
  have hS3 := hS2.out0 hd
  have hS3 : ST w0 [] _ [⟨some ⟨b, 0, none⟩, 30, [.int .i64 p.Ins, .int .i64 p.Vars, .int .i64 p.Root, .int .i64 p.Phase, .slice B p.Terms.length c, .slice B1 p.Out.length c1], 6⟩, ⟨some ⟨b1, 0, none⟩, 30, [.int .i64 0, .int .i64 0, .int .i64 0, .int .i64 0, .slice none 0 0, .slice none 0 0], 6⟩, ⟨(some ⟨g, 0, none⟩), .mp (mpE (Value.int .i64) (Value.int .i64) r_1), [], 0⟩] [⟨B, (p.Terms.flatMap enc_Term)⟩, ⟨B1, (p.Out.flatMap enc_Affine)⟩] := hS3
  refine sq 9 rfl rfl (Y_assign (v := .map (some g)) rfl rfl) ?_
  refine rw_nil ?_
  refine cw_seq ?_
  refine cw_seq ?_
  refine cw_region ?_
  refine sq 15 rfl rfl (Y_fieldAddr (B := some ⟨b, 0, none⟩) (i := 0) (s := 0) k_fd_30_4_4_27 k_sz_27_1 rfl rfl) ?_
  refine sq 16 rfl rfl (Y_load1 (B := some ⟨b, 0, none⟩) (i := 4) (cs := [.int .i64 p.Ins, .int .i64 p.Vars, .int .i64 p.Root, .int .i64 p.Phase, .slice B p.Terms.length c, .slice B1 p.Out.length c1]) (v := .slice B p.Terms.length c) k_sc_27 rfl rfl (hS3.cf (i := 0) rfl) rfl) ?_
  refine sq 17 rfl rfl (Y_len (B := B) (m := p.Terms.length) (c := c) k_sl_27_56 rfl rfl) ?_
  refine sq 18 rfl rfl (Y_move (v := .int .i64 0) rfl rfl) ?_
  refine rw_nil ?_
  obtain ⟨hN, hF⟩ := chk_inv hF
  obtain ⟨z, hz, hF1⟩ := bind_inv hF
  refine cw_block ?_
  refine cw_loop (fun k f w => ∃ (i : Nat) (poly : List (Int × Int)), FF f [(1, .int .i64 y), (2, .int .i64 coef), (3, .int .i64 set_), (4, pt (some ⟨b, 0, none⟩) 0), (8, pt (some ⟨b1, 0, none⟩) 0), (9, .map (some g)), (16, .slice B p.Terms.length c), (17, .int .i64 (p.Terms.length : Int)), (18, .int .i64 (i : Int))] ∧ ST w0 [] w [⟨some ⟨b, 0, none⟩, 30, [.int .i64 p.Ins, .int .i64 p.Vars, .int .i64 p.Root, .int .i64 p.Phase, .slice B p.Terms.length c, .slice B1 p.Out.length c1], 6⟩, ⟨some ⟨b1, 0, none⟩, 30, [.int .i64 0, .int .i64 0, .int .i64 0, .int .i64 0, .slice none 0 0, .slice none 0 0], 6⟩, ⟨(some ⟨g, 0, none⟩), .mp (mpE (Value.int .i64) (Value.int .i64) poly), [], 0⟩] [⟨B, (p.Terms.flatMap enc_Term)⟩, ⟨B1, (p.Out.flatMap enc_Affine)⟩] ∧ i + k = p.Terms.length ∧ forN (F_impl_PathSum_stripped_l1 p y) k i poly = some z) p.Terms.length ⟨0, r_1, (FF.cons rfl (FF.cons rfl (FF.cons rfl (FF.cons rfl (FF.cons rfl (FF.cons rfl (FF.cons rfl (FF.cons rfl (FF.cons rfl FF.nil))))))))), (hS3.sel [0, 1, 2] rfl rfl), Nat.zero_add _, hz⟩ ?_
  rintro k_ f w ⟨i, poly, hf, hS4, hik, hL⟩
  refine cw_seq ?_
  refine cw_region ?_
  refine sq 19 rfl rfl (Y_lt (k := .i64) (a := (i : Int)) (b := (p.Terms.length : Int)) rfl (hf.get 18 8 rfl) (hf.get 17 7 rfl)) ?_
  refine rw_nil ?_
  refine cw_seq ?_
  refine cw_cond (b := (decide ((i : Int) < (p.Terms.length : Int)))) rfl (fun hlt => ?_) (fun hlt => ?_)
  · skip
    have hlt1 : i < p.Terms.length := by have h := of_decide_eq_true hlt; omega
    obtain ⟨k_1, rfl⟩ : ∃ k2, k_ = k2 + 1 := ⟨k_ - 1, by omega⟩
    obtain ⟨y1, hb, hL1⟩ := forN_go hL
    unfold F_impl_PathSum_stripped_l1 at hb
    refine cw_skip ?_
    refine cw_seq ?_
    obtain ⟨z1, hz1, hF2⟩ := bind_inv hb
    refine cw_mid (fun f w => ∃ (poly1 : List (Int × Int)), poly1 = z1 ∧ FF f [(1, .int .i64 y), (2, .int .i64 coef), (3, .int .i64 set_), (4, pt (some ⟨b, 0, none⟩) 0), (8, pt (some ⟨b1, 0, none⟩) 0), (9, .map (some g)), (16, .slice B p.Terms.length c), (17, .int .i64 (p.Terms.length : Int)), (18, .int .i64 (i : Int))] ∧ ST w0 [] w [⟨some ⟨b, 0, none⟩, 30, [.int .i64 p.Ins, .int .i64 p.Vars, .int .i64 p.Root, .int .i64 p.Phase, .slice B p.Terms.length c, .slice B1 p.Out.length c1], 6⟩, ⟨some ⟨b1, 0, none⟩, 30, [.int .i64 0, .int .i64 0, .int .i64 0, .int .i64 0, .slice none 0 0, .slice none 0 0], 6⟩, ⟨(some ⟨g, 0, none⟩), .mp (mpE (Value.int .i64) (Value.int .i64) poly1), [], 0⟩] [⟨B, (p.Terms.flatMap enc_Term)⟩, ⟨B1, (p.Out.flatMap enc_Affine)⟩]) ?_ ?_
    · skip
      refine cw_block ?_
      refine cw_seq ?_
      refine cw_region ?_
      obtain ⟨x, hx, hz1⟩ := bind_inv hz1
      refine sq 20 rfl rfl (Y_index (B := B) (m := p.Terms.length) (c := c) (k := .i64) (i := (i : Int)) k_sl_27_56 k_sz_56_2 rfl (hf.get 16 6 rfl) (hf.get 18 8 rfl) (gi_isSome enc_Term_len rfl (hS4.rf (i := 0) rfl) hx) (getI_nn hx) (getI_ltI hx rfl)) ?_
      refine sq 21 rfl rfl (Y_loadA (B := B) (i := (i : Int).toNat * 2) (cs := (p.Terms.flatMap enc_Term)) (vs := [.int .i64 x.Mask, .int .i64 x.Coef]) k_ag_56 k_sz_56_2 rfl rfl (hS4.rf (i := 0) rfl) (enc_Term_len x) (gi_seg enc_Term_len hx)) ?_
      refine ss 11 rfl rfl (Ys_alloc (T := 56) (cs := [.int .i64 0, .int .i64 0]) (m := 2) hS4 k_zero_56 rfl rfl rfl) ?_
      rintro _ w_3 ⟨b2, rfl, hS6⟩
      have hS6 : ST w0 [] _ [⟨some ⟨b, 0, none⟩, 30, [.int .i64 p.Ins, .int .i64 p.Vars, .int .i64 p.Root, .int .i64 p.Phase, .slice B p.Terms.length c, .slice B1 p.Out.length c1], 6⟩, ⟨some ⟨b1, 0, none⟩, 30, [.int .i64 0, .int .i64 0, .int .i64 0, .int .i64 0, .slice none 0 0, .slice none 0 0], 6⟩, ⟨(some ⟨g, 0, none⟩), .mp (mpE (Value.int .i64) (Value.int .i64) poly), [], 0⟩, ⟨some ⟨b2, 0, none⟩, 56, [.int .i64 0, .int .i64 0], 2⟩] [⟨B, (p.Terms.flatMap enc_Term)⟩, ⟨B1, (p.Out.flatMap enc_Affine)⟩] := hS6
      refine ss0 rfl rfl (Ys_store (i := 3) (s := 2) (B := some ⟨b2, 0, none⟩) (T' := 56) (v := .agg #[.int .i64 x.Mask, .int .i64 x.Coef]) (vs := [.int .i64 x.Mask, .int .i64 x.Coef]) (k := 0) (cs' := [.int .i64 x.Mask, .int .i64 x.Coef]) hS6 k_sz_56_2 rfl rfl rfl rfl rfl rfl rfl (Nat.le_of_ble_eq_true rfl) rfl rfl) ?_
      rintro _ w_4 ⟨rfl, hS7⟩
      have hS7 : ST w0 [] _ [⟨some ⟨b, 0, none⟩, 30, [.int .i64 p.Ins, .int .i64 p.Vars, .int .i64 p.Root, .int .i64 p.Phase, .slice B p.Terms.length c, .slice B1 p.Out.length c1], 6⟩, ⟨some ⟨b1, 0, none⟩, 30, [.int .i64 0, .int .i64 0, .int .i64 0, .int .i64 0, .slice none 0 0, .slice none 0 0], 6⟩, ⟨(some ⟨g, 0, none⟩), .mp (mpE (Value.int .i64) (Value.int .i64) poly), [], 0⟩, ⟨some ⟨b2, 0, none⟩, 56, [.int .i64 x.Mask, .int .i64 x.Coef], 2⟩] [⟨B, (p.Terms.flatMap enc_Term)⟩, ⟨B1, (p.Out.flatMap enc_Affine)⟩] := hS7
      refine rw_nil ?_
      refine cw_seq ?_
      refine cw_region ?_
      refine sq 22 rfl rfl (Y_fieldAddr (B := some ⟨b2, 0, none⟩) (i := 0) (s := 0) k_fd_56_0_0_3 k_sz_3_1 rfl rfl) ?_
      refine sq 23 rfl rfl (Y_load1 (B := some ⟨b2, 0, none⟩) (i := 0) (cs := [.int .i64 x.Mask, .int .i64 x.Coef]) (v := .int .i64 x.Mask) k_sc_3 rfl rfl (hS7.cf (i := 3) rfl) rfl) ?_
      refine sq 24 rfl rfl (Y_move (v := .int .i64 y) rfl (hf.get 1 0 rfl)) ?_
      obtain ⟨hsh, hz1⟩ := chk_inv hz1
      refine sq 25 rfl rfl (Y_shr (k := .i64) (a := x.Mask) (k' := .i64) (b := y) rfl rfl rfl hsh) ?_
      refine sq 26 rfl rfl (Y_band (k := .i64) (a := (shrK .i64 x.Mask y)) (b := 1) rfl rfl rfl) ?_
      refine sq 27 rfl rfl (Y_eq (k := .i64) (a := (bits .and .i64 (shrK .i64 x.Mask y) 1)) (b := 1) rfl rfl rfl) ?_
      refine rw_nil ?_
      refine cw_cond (b := ((bits .and .i64 (shrK .i64 x.Mask y) 1) == 1)) rfl (fun hb1 => ?_) (fun hb1 => ?_)
      · skip
        have hF3 := ct hz1 hb1
        refine cw_region ?_
        refine sq 28 rfl rfl (Y_move (v := .map (some g)) rfl (hf.get 9 5 rfl)) ?_
        refine sq 29 rfl rfl (Y_fieldAddr (B := some ⟨b2, 0, none⟩) (i := 0) (s := 0) k_fd_56_0_0_3 k_sz_3_1 rfl rfl) ?_
        refine sq 30 rfl rfl (Y_load1 (B := some ⟨b2, 0, none⟩) (i := 0) (cs := [.int .i64 x.Mask, .int .i64 x.Coef]) (v := .int .i64 x.Mask) k_sc_3 rfl rfl (hS7.cf (i := 3) rfl) rfl) ?_
        refine ss0 rfl rfl (Ys_mapDel (kE := (Value.int .i64)) (vE := (Value.int .i64)) (l := poly) (a := x.Mask) (g := g) (i := 2) hS7 (keyInt k_int_3_i64) k_map_93_3_3 rfl rfl rfl rfl rfl) ?_
        rintro _ w_5 ⟨rfl, hS8⟩
        have hS8 : ST w0 [] _ [⟨some ⟨b, 0, none⟩, 30, [.int .i64 p.Ins, .int .i64 p.Vars, .int .i64 p.Root, .int .i64 p.Phase, .slice B p.Terms.length c, .slice B1 p.Out.length c1], 6⟩, ⟨some ⟨b1, 0, none⟩, 30, [.int .i64 0, .int .i64 0, .int .i64 0, .int .i64 0, .slice none 0 0, .slice none 0 0], 6⟩, ⟨(some ⟨g, 0, none⟩), .mp (mpE (Value.int .i64) (Value.int .i64) (mdel poly x.Mask)), [], 0⟩, ⟨some ⟨b2, 0, none⟩, 56, [.int .i64 x.Mask, .int .i64 x.Coef], 2⟩] [⟨B, (p.Terms.flatMap enc_Term)⟩, ⟨B1, (p.Out.flatMap enc_Affine)⟩] := hS8
        refine rw_nil ?_
        exact ⟨(mdel poly x.Mask), (some_inj hF3), (FF.cons (hf.get 1 0 rfl) (FF.cons (hf.get 2 1 rfl) (FF.cons (hf.get 3 2 rfl) (FF.cons (hf.get 4 3 rfl) (FF.cons (hf.get 8 4 rfl) (FF.cons (hf.get 9 5 rfl) (FF.cons (hf.get 16 6 rfl) (FF.cons (hf.get 17 7 rfl) (FF.cons (hf.get 18 8 rfl) FF.nil))))))))), (hS8.sel [0, 1, 2] rfl rfl)⟩
      · skip
        have hF4 := cf' hz1 hb1
        refine cw_skip ?_
        exact ⟨poly, (some_inj hF4), (FF.cons (hf.get 1 0 rfl) (FF.cons (hf.get 2 1 rfl) (FF.cons (hf.get 3 2 rfl) (FF.cons (hf.get 4 3 rfl) (FF.cons (hf.get 8 4 rfl) (FF.cons (hf.get 9 5 rfl) (FF.cons (hf.get 16 6 rfl) (FF.cons (hf.get 17 7 rfl) (FF.cons (hf.get 18 8 rfl) FF.nil))))))))), (hS7.sel [0, 1, 2] rfl rfl)⟩
    rintro f w ⟨poly1, rfl, hf1, hS5⟩
    refine cw_region ?_
    refine sq 31 rfl rfl (Y_add (k := .i64) (a := (i : Int)) (b := 1) rfl (hf1.get 18 8 rfl) rfl) ?_
    refine sq 18 rfl rfl (Y_move (v := .int .i64 (IntKind.i64.wrap ((i : Int) + 1))) rfl rfl) ?_
    refine rw_nil ?_
    obtain rfl := some_inj hF2
    exact ⟨k_1, Nat.lt_succ_self _, i + 1, poly1, (FF.cons (hf1.get 1 0 rfl) (FF.cons (hf1.get 2 1 rfl) (FF.cons (hf1.get 3 2 rfl) (FF.cons (hf1.get 4 3 rfl) (FF.cons (hf1.get 8 4 rfl) (FF.cons (hf1.get 9 5 rfl) (FF.cons (hf1.get 16 6 rfl) (FF.cons (hf1.get 17 7 rfl) (FF.cons (congrArg (Value.int .i64) (wr_succ hlt1 hN)) FF.nil))))))))), (hS5.sel [0, 1, 2] rfl rfl), (by omega), hL1⟩
  · skip
    obtain rfl : k_ = 0 := by have h := of_decide_eq_false hlt; omega
    refine cw_exit rfl ?_
    obtain rfl := some_inj hL
    refine cw_seq ?_
    refine cw_region ?_
    refine sq 32 rfl rfl (Y_move (v := .map (some g)) rfl (hf.get 9 5 rfl)) ?_
    refine sq 33 rfl rfl (Y_move (v := .int .i64 coef) rfl (hf.get 2 1 rfl)) ?_
    refine sq 34 rfl rfl (Y_move (v := .int .i64 set_) rfl (hf.get 3 2 rfl)) ?_
    refine sq 35 rfl rfl (Y_buildS (zs := [.int .i64 0, .int .i64 0]) (vs := [(0, .int .i64 set_)]) (cs := [.int .i64 set_, .int .i64 0]) k_pl_44 k_zero_44 rfl (mpc rfl mpn) rfl) ?_
    obtain ⟨m, hc1, hF1⟩ := bind_inv hF1
    refine sc 36 rfl rfl (Yc_func (g := 61) (vs := [.map (some g), .int .i64 coef, .agg #[.int .i64 set_, .int .i64 0], .int .i64 0]) k_call_61 rfl (mc rfl (mc rfl (mc rfl (mc rfl mn)))) (c_impl_polynomial_expand poly coef (TAffine.mk set_ 0) 0 g _  (hS4.inn [false, false, true] rfl [] rfl) hc1)) ?_
    rintro _ w_6 ⟨rfl, hd1⟩
    have hS9 := hS4.out [false, false, true] rfl hd1
    have hS9 : ST w0 [] _ [⟨some ⟨b, 0, none⟩, 30, [.int .i64 p.Ins, .int .i64 p.Vars, .int .i64 p.Root, .int .i64 p.Phase, .slice B p.Terms.length c, .slice B1 p.Out.length c1], 6⟩, ⟨some ⟨b1, 0, none⟩, 30, [.int .i64 0, .int .i64 0, .int .i64 0, .int .i64 0, .slice none 0 0, .slice none 0 0], 6⟩, ⟨(some ⟨g, 0, none⟩), .mp (mpE (Value.int .i64) (Value.int .i64) m), [], 0⟩] [⟨B, (p.Terms.flatMap enc_Term)⟩, ⟨B1, (p.Out.flatMap enc_Affine)⟩] := hS9
    refine rw_nil ?_
    refine cw_seq ?_
    refine cw_region ?_
    refine sq 37 rfl rfl (Y_loadA (B := some ⟨b, 0, none⟩) (i := 0) (cs := [.int .i64 p.Ins, .int .i64 p.Vars, .int .i64 p.Root, .int .i64 p.Phase, .slice B p.Terms.length c, .slice B1 p.Out.length c1]) (vs := [.int .i64 p.Ins, .int .i64 p.Vars, .int .i64 p.Root, .int .i64 p.Phase, .slice B p.Terms.length c, .slice B1 p.Out.length c1]) k_ag_30 k_sz_30_6 rfl (hf.get 4 3 rfl) (hS9.cf (i := 0) rfl) rfl rfl) ?_
    refine ss 12 rfl rfl (Ys_alloc (T := 30) (cs := [.int .i64 0, .int .i64 0, .int .i64 0, .int .i64 0, .slice none 0 0, .slice none 0 0]) (m := 6) hS9 k_zero_30 rfl rfl rfl) ?_
    rintro _ w_7 ⟨b3, rfl, hS10⟩
    have hS10 : ST w0 [] _ [⟨some ⟨b, 0, none⟩, 30, [.int .i64 p.Ins, .int .i64 p.Vars, .int .i64 p.Root, .int .i64 p.Phase, .slice B p.Terms.length c, .slice B1 p.Out.length c1], 6⟩, ⟨some ⟨b1, 0, none⟩, 30, [.int .i64 0, .int .i64 0, .int .i64 0, .int .i64 0, .slice none 0 0, .slice none 0 0], 6⟩, ⟨(some ⟨g, 0, none⟩), .mp (mpE (Value.int .i64) (Value.int .i64) m), [], 0⟩, ⟨some ⟨b3, 0, none⟩, 30, [.int .i64 0, .int .i64 0, .int .i64 0, .int .i64 0, .slice none 0 0, .slice none 0 0], 6⟩] [⟨B, (p.Terms.flatMap enc_Term)⟩, ⟨B1, (p.Out.flatMap enc_Affine)⟩] := hS10
    refine ss0 rfl rfl (Ys_store (i := 3) (s := 6) (B := some ⟨b3, 0, none⟩) (T' := 30) (v := .agg #[.int .i64 p.Ins, .int .i64 p.Vars, .int .i64 p.Root, .int .i64 p.Phase, .slice B p.Terms.length c, .slice B1 p.Out.length c1]) (vs := [.int .i64 p.Ins, .int .i64 p.Vars, .int .i64 p.Root, .int .i64 p.Phase, .slice B p.Terms.length c, .slice B1 p.Out.length c1]) (k := 0) (cs' := [.int .i64 p.Ins, .int .i64 p.Vars, .int .i64 p.Root, .int .i64 p.Phase, .slice B p.Terms.length c, .slice B1 p.Out.length c1]) hS10 k_sz_30_6 rfl rfl rfl rfl rfl rfl rfl (Nat.le_of_ble_eq_true rfl) rfl rfl) ?_
    rintro _ w_8 ⟨rfl, hS11⟩
    have hS11 : ST w0 [] _ [⟨some ⟨b, 0, none⟩, 30, [.int .i64 p.Ins, .int .i64 p.Vars, .int .i64 p.Root, .int .i64 p.Phase, .slice B p.Terms.length c, .slice B1 p.Out.length c1], 6⟩, ⟨some ⟨b1, 0, none⟩, 30, [.int .i64 0, .int .i64 0, .int .i64 0, .int .i64 0, .slice none 0 0, .slice none 0 0], 6⟩, ⟨(some ⟨g, 0, none⟩), .mp (mpE (Value.int .i64) (Value.int .i64) m), [], 0⟩, ⟨some ⟨b3, 0, none⟩, 30, [.int .i64 p.Ins, .int .i64 p.Vars, .int .i64 p.Root, .int .i64 p.Phase, .slice B p.Terms.length c, .slice B1 p.Out.length c1], 6⟩] [⟨B, (p.Terms.flatMap enc_Term)⟩, ⟨B1, (p.Out.flatMap enc_Affine)⟩] := hS11
    refine rw_nil ?_
    refine cw_seq ?_
    obtain ⟨r_2, hc2, hF1⟩ := bind_inv hF1
    refine cw_mid (fun f w => ∃ (B5 : Option Addr) (c5 : Nat), FF f [(1, .int .i64 y), (8, pt (some ⟨b1, 0, none⟩) 0), (12, pt (some ⟨b3, 0, none⟩) 0)] ∧ ST w0 [] w [⟨some ⟨b1, 0, none⟩, 30, [.int .i64 0, .int .i64 0, .int .i64 0, .int .i64 0, .slice none 0 0, .slice none 0 0], 6⟩, ⟨some ⟨b3, 0, none⟩, 30, [.int .i64 p.Ins, .int .i64 p.Vars, .int .i64 p.Root, .int .i64 (mgt m 0 0), .slice B5 r_2.length c5, .slice B1 p.Out.length c1], 6⟩, ⟨B5, 56, (r_2.flatMap enc_Term), c5 * 2⟩] [⟨B, (p.Terms.flatMap enc_Term)⟩, ⟨B1, (p.Out.flatMap enc_Affine)⟩]) ?_ ?_
    · skip
      refine ra_start (ST.sel hS11 [0, 1] rfl rfl).fn (by kernel_rfl) ?_
      have hS14 := hS11.drew
      refine ra_q 0 38 (v := .map (some g)) rfl rfl rfl (by kernel_rfl) (by kernel_rfl) (by kernel_rfl) (ST.sel hS14 [0, 1] rfl rfl) (fun w' hw' => (Y_move (v := .map (some g)) rfl (hf.get 9 5 rfl))) ?_
      refine ra_q 2 40 (v := .map (some g)) rfl rfl rfl (by kernel_rfl) (by kernel_rfl) (by kernel_rfl) (ST.sel hS14 [0, 1] rfl rfl) (fun w' hw' => (Y_move (v := .map (some g)) rfl (hf.get 9 5 rfl))) ?_
      refine ra_all (rs := [1, 3]) (by kernel_rfl) rfl ?_
      refine ra_y 39 (i := 1) (v := .int .i64 (mgt m 0 0)) rfl rfl rfl (Y_mapGet (kE := (Value.int .i64)) (vE := (Value.int .i64)) (l := m) (a := 0) (d := 0) (g := g) (i := 2) hS14 (keyInt k_int_3_i64) k_map_93_3_3 k_zero_3 rfl rfl rfl rfl) (ST.sel hS14 [0, 1] rfl rfl) ?_ ?_
      · skip
        refine ra_q 4 42 (v := pt (some ⟨b3, 0, none⟩) 3) rfl rfl rfl (by kernel_rfl) (by kernel_rfl) (by kernel_rfl) (ST.sel hS14 [0, 1] rfl rfl) (fun w' hw' => (Y_fieldAddr (B := some ⟨b3, 0, none⟩) (i := 0) (s := 0) k_fd_30_3_3_3 k_sz_3_1 rfl rfl)) ?_
        refine ra_all (rs := [3]) (by kernel_rfl) rfl ?_
        refine ra_c 41 (i := 3) rfl rfl rfl (Yc_func (g := 62) (vs := [.map (some g)]) k_call_62 rfl (mc rfl mn) (c_impl_polynomial_terms m g _  (hS14.inn [false, false, true, false] rfl [] rfl) hc2)) ?_ ?_
        · rintro _ w_9 ⟨B4, c4, rfl, hd2⟩
          have hS15 := hS14.out [false, false, true, false] rfl hd2
          have hS15 : ST w0 [] _ [⟨some ⟨b, 0, none⟩, 30, [.int .i64 p.Ins, .int .i64 p.Vars, .int .i64 p.Root, .int .i64 p.Phase, .slice B p.Terms.length c, .slice B1 p.Out.length c1], 6⟩, ⟨some ⟨b1, 0, none⟩, 30, [.int .i64 0, .int .i64 0, .int .i64 0, .int .i64 0, .slice none 0 0, .slice none 0 0], 6⟩, ⟨some ⟨b3, 0, none⟩, 30, [.int .i64 p.Ins, .int .i64 p.Vars, .int .i64 p.Root, .int .i64 p.Phase, .slice B p.Terms.length c, .slice B1 p.Out.length c1], 6⟩, ⟨(some ⟨g, 0, none⟩), .mp (mpE (Value.int .i64) (Value.int .i64) m), [], 0⟩, ⟨B4, 56, (r_2.flatMap enc_Term), c4 * 2⟩] [⟨B, (p.Terms.flatMap enc_Term)⟩, ⟨B1, (p.Out.flatMap enc_Affine)⟩] := hS15
          refine ⟨(ST.sel hS15 [0, 1] rfl rfl), ?_⟩
          refine ra_all (rs := [5]) (by kernel_rfl) rfl ?_
          refine ra_s0 (i := 5) rfl rfl rfl (Ys_store (i := 2) (s := 1) (B := some ⟨b3, 0, none⟩) (T' := 30) (v := .int .i64 (mgt m 0 0)) (vs := [.int .i64 (mgt m 0 0)]) (k := 3) (cs' := [.int .i64 p.Ins, .int .i64 p.Vars, .int .i64 p.Root, .int .i64 (mgt m 0 0), .slice B p.Terms.length c, .slice B1 p.Out.length c1]) hS15 k_sz_3_1 rfl rfl rfl rfl rfl rfl rfl (Nat.le_of_ble_eq_true rfl) rfl rfl) ?_ ?_
          · rintro _ w_10 ⟨rfl, hS16⟩
            have hS16 : ST w0 [] _ [⟨some ⟨b, 0, none⟩, 30, [.int .i64 p.Ins, .int .i64 p.Vars, .int .i64 p.Root, .int .i64 p.Phase, .slice B p.Terms.length c, .slice B1 p.Out.length c1], 6⟩, ⟨some ⟨b1, 0, none⟩, 30, [.int .i64 0, .int .i64 0, .int .i64 0, .int .i64 0, .slice none 0 0, .slice none 0 0], 6⟩, ⟨some ⟨b3, 0, none⟩, 30, [.int .i64 p.Ins, .int .i64 p.Vars, .int .i64 p.Root, .int .i64 (mgt m 0 0), .slice B p.Terms.length c, .slice B1 p.Out.length c1], 6⟩, ⟨(some ⟨g, 0, none⟩), .mp (mpE (Value.int .i64) (Value.int .i64) m), [], 0⟩, ⟨B4, 56, (r_2.flatMap enc_Term), c4 * 2⟩] [⟨B, (p.Terms.flatMap enc_Term)⟩, ⟨B1, (p.Out.flatMap enc_Affine)⟩] := hS16
            refine ⟨(ST.sel hS16 [0, 1] rfl rfl), ?_⟩
            refine ra_q 6 43 (v := pt (some ⟨b3, 0, none⟩) 4) rfl rfl rfl (by kernel_rfl) (by kernel_rfl) (by kernel_rfl) (ST.sel hS16 [0, 1] rfl rfl) (fun w' hw' => (Y_fieldAddr (B := some ⟨b3, 0, none⟩) (i := 0) (s := 0) k_fd_30_4_4_27 k_sz_27_1 rfl rfl)) ?_
            refine ra_all (rs := [7]) (by kernel_rfl) rfl ?_
            refine ra_s0 (i := 7) rfl rfl rfl (Ys_store (i := 2) (s := 1) (B := some ⟨b3, 0, none⟩) (T' := 30) (v := .slice B4 r_2.length c4) (vs := [.slice B4 r_2.length c4]) (k := 4) (cs' := [.int .i64 p.Ins, .int .i64 p.Vars, .int .i64 p.Root, .int .i64 (mgt m 0 0), .slice B4 r_2.length c4, .slice B1 p.Out.length c1]) hS16 k_sz_27_1 rfl rfl rfl rfl rfl rfl rfl (Nat.le_of_ble_eq_true rfl) rfl rfl) ?_ ?_
            · rintro _ w_11 ⟨rfl, hS17⟩
              have hS17 : ST w0 [] _ [⟨some ⟨b, 0, none⟩, 30, [.int .i64 p.Ins, .int .i64 p.Vars, .int .i64 p.Root, .int .i64 p.Phase, .slice B p.Terms.length c, .slice B1 p.Out.length c1], 6⟩, ⟨some ⟨b1, 0, none⟩, 30, [.int .i64 0, .int .i64 0, .int .i64 0, .int .i64 0, .slice none 0 0, .slice none 0 0], 6⟩, ⟨some ⟨b3, 0, none⟩, 30, [.int .i64 p.Ins, .int .i64 p.Vars, .int .i64 p.Root, .int .i64 (mgt m 0 0), .slice B4 r_2.length c4, .slice B1 p.Out.length c1], 6⟩, ⟨(some ⟨g, 0, none⟩), .mp (mpE (Value.int .i64) (Value.int .i64) m), [], 0⟩, ⟨B4, 56, (r_2.flatMap enc_Term), c4 * 2⟩] [⟨B, (p.Terms.flatMap enc_Term)⟩, ⟨B1, (p.Out.flatMap enc_Affine)⟩] := hS17
              refine ⟨(ST.sel hS17 [0, 1] rfl rfl), ?_⟩
              refine ra_done (by kernel_rfl) ?_
              exact ⟨B4, c4, (FF.cons (hf.get 1 0 rfl) (FF.cons (hf.get 8 4 rfl) (FF.cons rfl FF.nil))), (hS17.sel [1, 2, 4] rfl rfl)⟩
            exact allR_nil
          exact allR_nil
        exact allR_nil
      refine ra_c 41 (i := 3) rfl rfl rfl (Yc_func (g := 62) (vs := [.map (some g)]) k_call_62 rfl (mc rfl mn) (c_impl_polynomial_terms m g _  (hS14.inn [false, false, true, false] rfl [] rfl) hc2)) ?_ ?_
      · rintro _ w_12 ⟨B4, c4, rfl, hd3⟩
        have hS18 := hS14.out [false, false, true, false] rfl hd3
        have hS18 : ST w0 [] _ [⟨some ⟨b, 0, none⟩, 30, [.int .i64 p.Ins, .int .i64 p.Vars, .int .i64 p.Root, .int .i64 p.Phase, .slice B p.Terms.length c, .slice B1 p.Out.length c1], 6⟩, ⟨some ⟨b1, 0, none⟩, 30, [.int .i64 0, .int .i64 0, .int .i64 0, .int .i64 0, .slice none 0 0, .slice none 0 0], 6⟩, ⟨some ⟨b3, 0, none⟩, 30, [.int .i64 p.Ins, .int .i64 p.Vars, .int .i64 p.Root, .int .i64 p.Phase, .slice B p.Terms.length c, .slice B1 p.Out.length c1], 6⟩, ⟨(some ⟨g, 0, none⟩), .mp (mpE (Value.int .i64) (Value.int .i64) m), [], 0⟩, ⟨B4, 56, (r_2.flatMap enc_Term), c4 * 2⟩] [⟨B, (p.Terms.flatMap enc_Term)⟩, ⟨B1, (p.Out.flatMap enc_Affine)⟩] := hS18
        refine ⟨(ST.sel hS18 [0, 1] rfl rfl), ?_⟩
        refine ra_all (rs := [1]) (by kernel_rfl) rfl ?_
        refine ra_y 39 (i := 1) (v := .int .i64 (mgt m 0 0)) rfl rfl rfl (Y_mapGet (kE := (Value.int .i64)) (vE := (Value.int .i64)) (l := m) (a := 0) (d := 0) (g := g) (i := 3) hS18 (keyInt k_int_3_i64) k_map_93_3_3 k_zero_3 rfl rfl rfl rfl) (ST.sel hS18 [0, 1] rfl rfl) ?_ ?_
        · skip
          refine ra_q 4 42 (v := pt (some ⟨b3, 0, none⟩) 3) rfl rfl rfl (by kernel_rfl) (by kernel_rfl) (by kernel_rfl) (ST.sel hS18 [0, 1] rfl rfl) (fun w' hw' => (Y_fieldAddr (B := some ⟨b3, 0, none⟩) (i := 0) (s := 0) k_fd_30_3_3_3 k_sz_3_1 rfl rfl)) ?_
          refine ra_all (rs := [5]) (by kernel_rfl) rfl ?_
          refine ra_s0 (i := 5) rfl rfl rfl (Ys_store (i := 2) (s := 1) (B := some ⟨b3, 0, none⟩) (T' := 30) (v := .int .i64 (mgt m 0 0)) (vs := [.int .i64 (mgt m 0 0)]) (k := 3) (cs' := [.int .i64 p.Ins, .int .i64 p.Vars, .int .i64 p.Root, .int .i64 (mgt m 0 0), .slice B p.Terms.length c, .slice B1 p.Out.length c1]) hS18 k_sz_3_1 rfl rfl rfl rfl rfl rfl rfl (Nat.le_of_ble_eq_true rfl) rfl rfl) ?_ ?_
          · rintro _ w_13 ⟨rfl, hS19⟩
            have hS19 : ST w0 [] _ [⟨some ⟨b, 0, none⟩, 30, [.int .i64 p.Ins, .int .i64 p.Vars, .int .i64 p.Root, .int .i64 p.Phase, .slice B p.Terms.length c, .slice B1 p.Out.length c1], 6⟩, ⟨some ⟨b1, 0, none⟩, 30, [.int .i64 0, .int .i64 0, .int .i64 0, .int .i64 0, .slice none 0 0, .slice none 0 0], 6⟩, ⟨some ⟨b3, 0, none⟩, 30, [.int .i64 p.Ins, .int .i64 p.Vars, .int .i64 p.Root, .int .i64 (mgt m 0 0), .slice B p.Terms.length c, .slice B1 p.Out.length c1], 6⟩, ⟨(some ⟨g, 0, none⟩), .mp (mpE (Value.int .i64) (Value.int .i64) m), [], 0⟩, ⟨B4, 56, (r_2.flatMap enc_Term), c4 * 2⟩] [⟨B, (p.Terms.flatMap enc_Term)⟩, ⟨B1, (p.Out.flatMap enc_Affine)⟩] := hS19
            refine ⟨(ST.sel hS19 [0, 1] rfl rfl), ?_⟩
            refine ra_q 6 43 (v := pt (some ⟨b3, 0, none⟩) 4) rfl rfl rfl (by kernel_rfl) (by kernel_rfl) (by kernel_rfl) (ST.sel hS19 [0, 1] rfl rfl) (fun w' hw' => (Y_fieldAddr (B := some ⟨b3, 0, none⟩) (i := 0) (s := 0) k_fd_30_4_4_27 k_sz_27_1 rfl rfl)) ?_
            refine ra_all (rs := [7]) (by kernel_rfl) rfl ?_
            refine ra_s0 (i := 7) rfl rfl rfl (Ys_store (i := 2) (s := 1) (B := some ⟨b3, 0, none⟩) (T' := 30) (v := .slice B4 r_2.length c4) (vs := [.slice B4 r_2.length c4]) (k := 4) (cs' := [.int .i64 p.Ins, .int .i64 p.Vars, .int .i64 p.Root, .int .i64 (mgt m 0 0), .slice B4 r_2.length c4, .slice B1 p.Out.length c1]) hS19 k_sz_27_1 rfl rfl rfl rfl rfl rfl rfl (Nat.le_of_ble_eq_true rfl) rfl rfl) ?_ ?_
            · rintro _ w_14 ⟨rfl, hS20⟩
              have hS20 : ST w0 [] _ [⟨some ⟨b, 0, none⟩, 30, [.int .i64 p.Ins, .int .i64 p.Vars, .int .i64 p.Root, .int .i64 p.Phase, .slice B p.Terms.length c, .slice B1 p.Out.length c1], 6⟩, ⟨some ⟨b1, 0, none⟩, 30, [.int .i64 0, .int .i64 0, .int .i64 0, .int .i64 0, .slice none 0 0, .slice none 0 0], 6⟩, ⟨some ⟨b3, 0, none⟩, 30, [.int .i64 p.Ins, .int .i64 p.Vars, .int .i64 p.Root, .int .i64 (mgt m 0 0), .slice B4 r_2.length c4, .slice B1 p.Out.length c1], 6⟩, ⟨(some ⟨g, 0, none⟩), .mp (mpE (Value.int .i64) (Value.int .i64) m), [], 0⟩, ⟨B4, 56, (r_2.flatMap enc_Term), c4 * 2⟩] [⟨B, (p.Terms.flatMap enc_Term)⟩, ⟨B1, (p.Out.flatMap enc_Affine)⟩] := hS20
              refine ⟨(ST.sel hS20 [0, 1] rfl rfl), ?_⟩
              refine ra_done (by kernel_rfl) ?_
              exact ⟨B4, c4, (FF.cons (hf.get 1 0 rfl) (FF.cons (hf.get 8 4 rfl) (FF.cons rfl FF.nil))), (hS20.sel [1, 2, 4] rfl rfl)⟩
            exact allR_nil
          exact allR_nil
        exact allR_nil
      exact allR_nil
    rintro f w ⟨B5, c5, hf2, hS13⟩
    refine cw_seq ?_
    refine cw_region ?_
    refine sq 44 rfl rfl (Y_loadA (B := some ⟨b3, 0, none⟩) (i := 0) (cs := [.int .i64 p.Ins, .int .i64 p.Vars, .int .i64 p.Root, .int .i64 (mgt m 0 0), .slice B5 r_2.length c5, .slice B1 p.Out.length c1]) (vs := [.int .i64 p.Ins, .int .i64 p.Vars, .int .i64 p.Root, .int .i64 (mgt m 0 0), .slice B5 r_2.length c5, .slice B1 p.Out.length c1]) k_ag_30 k_sz_30_6 rfl (hf2.get 12 2 rfl) (hS13.cf (i := 1) rfl) rfl rfl) ?_
    refine sq 45 rfl rfl (Y_move (v := .int .i64 y) rfl (hf2.get 1 0 rfl)) ?_
    obtain ⟨r_3, hc3, hF1⟩ := bind_inv hF1
    refine sc 46 rfl rfl (Yc_func (g := 51) (vs := [.agg #[.int .i64 p.Ins, .int .i64 p.Vars, .int .i64 p.Root, .int .i64 (mgt m 0 0), .slice B5 r_2.length c5, .slice B1 p.Out.length c1], .int .i64 y]) k_call_51 rfl (mc rfl (mc rfl mn)) (c_impl_PathSum_without (TPathSum.mk p.Ins p.Vars p.Root (mgt m 0 0) r_2 p.Out) y B5 c5 r_2.length B1 c1 p.Out.length _ rfl rfl (hS13.inn0 [(false, 2), (true, 1)] rfl) hc3)) ?_
    rintro _ w_15 ⟨B6, c6, B7, c7, rfl, hd4⟩
    have hS21 := hS13.out0 hd4
    have hS21 : ST w0 [] _ [⟨some ⟨b1, 0, none⟩, 30, [.int .i64 0, .int .i64 0, .int .i64 0, .int .i64 0, .slice none 0 0, .slice none 0 0], 6⟩, ⟨some ⟨b3, 0, none⟩, 30, [.int .i64 p.Ins, .int .i64 p.Vars, .int .i64 p.Root, .int .i64 (mgt m 0 0), .slice B5 r_2.length c5, .slice B1 p.Out.length c1], 6⟩, ⟨B5, 56, (r_2.flatMap enc_Term), c5 * 2⟩, ⟨B6, 56, (r_3.Terms.flatMap enc_Term), c6 * 2⟩, ⟨B7, 44, (r_3.Out.flatMap enc_Affine), c7 * 2⟩] [⟨B, (p.Terms.flatMap enc_Term)⟩, ⟨B1, (p.Out.flatMap enc_Affine)⟩] := hS21
    refine ss0 rfl rfl (Ys_store (i := 0) (s := 6) (B := some ⟨b1, 0, none⟩) (T' := 30) (v := .agg #[.int .i64 r_3.Ins, .int .i64 r_3.Vars, .int .i64 r_3.Root, .int .i64 r_3.Phase, .slice B6 r_3.Terms.length c6, .slice B7 r_3.Out.length c7]) (vs := [.int .i64 r_3.Ins, .int .i64 r_3.Vars, .int .i64 r_3.Root, .int .i64 r_3.Phase, .slice B6 r_3.Terms.length c6, .slice B7 r_3.Out.length c7]) (k := 0) (cs' := [.int .i64 r_3.Ins, .int .i64 r_3.Vars, .int .i64 r_3.Root, .int .i64 r_3.Phase, .slice B6 r_3.Terms.length c6, .slice B7 r_3.Out.length c7]) hS21 k_sz_30_6 rfl (hf2.get 8 1 rfl) rfl rfl rfl rfl rfl (Nat.le_of_ble_eq_true rfl) rfl rfl) ?_
    rintro _ w_16 ⟨rfl, hS22⟩
    have hS22 : ST w0 [] _ [⟨some ⟨b1, 0, none⟩, 30, [.int .i64 r_3.Ins, .int .i64 r_3.Vars, .int .i64 r_3.Root, .int .i64 r_3.Phase, .slice B6 r_3.Terms.length c6, .slice B7 r_3.Out.length c7], 6⟩, ⟨some ⟨b3, 0, none⟩, 30, [.int .i64 p.Ins, .int .i64 p.Vars, .int .i64 p.Root, .int .i64 (mgt m 0 0), .slice B5 r_2.length c5, .slice B1 p.Out.length c1], 6⟩, ⟨B5, 56, (r_2.flatMap enc_Term), c5 * 2⟩, ⟨B6, 56, (r_3.Terms.flatMap enc_Term), c6 * 2⟩, ⟨B7, 44, (r_3.Out.flatMap enc_Affine), c7 * 2⟩] [⟨B, (p.Terms.flatMap enc_Term)⟩, ⟨B1, (p.Out.flatMap enc_Affine)⟩] := hS22
    refine rw_nil ?_
    refine cw_ret ?_
    obtain rfl := some_inj hF1
    exact ret1 Tryd.results52 (v1 := .agg #[.int .i64 r_3.Ins, .int .i64 r_3.Vars, .int .i64 r_3.Root, .int .i64 r_3.Phase, .slice B6 r_3.Terms.length c6, .slice B7 r_3.Out.length c7]) (resAt_cellA (B := some ⟨b1, 0, none⟩) (i := 0) (cs := [.int .i64 r_3.Ins, .int .i64 r_3.Vars, .int .i64 r_3.Root, .int .i64 r_3.Phase, .slice B6 r_3.Terms.length c6, .slice B7 r_3.Out.length c7]) (vs := [.int .i64 r_3.Ins, .int .i64 r_3.Vars, .int .i64 r_3.Root, .int .i64 r_3.Phase, .slice B6 r_3.Terms.length c6, .slice B7 r_3.Out.length c7]) (hf2.get 8 1 rfl) k_ag_30 k_sz_30_6 (hS22.cf (i := 0) rfl) rfl rfl) ⟨B6, c6, B7, c7, rfl, (ST.subR (R' := []) (hS22.sel [3, 4] rfl rfl) (fun _ h => by cases h))⟩

theorem c_impl_PathSum_substituted (p : TPathSum) (v_ : Int) (by_ : TAffine) (B : Option Addr) (c n : Nat) (B1 : Option Addr) (c1 n1 : Nat) (w0 : World) (hn : p.Terms.length = n) (hn1 : p.Out.length = n1) (hS : ST w0 [] w0 [] [⟨B, (p.Terms.flatMap enc_Term)⟩, ⟨B1, (p.Out.flatMap enc_Affine)⟩]) {r_ : TPathSum} (hF : F_impl_PathSum_substituted p v_ by_ = some r_) :
    CV Tryd.prog 54 #[.agg #[.int .i64 p.Ins, .int .i64 p.Vars, .int .i64 p.Root, .int .i64 p.Phase, .slice B n c, .slice B1 n1 c1], .int .i64 v_, .agg #[.int .i64 by_.Mask, .int .i64 by_.Turn]] w0 (fun v w' => ∃ (B2 : Option Addr) (c2 : Nat) (B3 : Option Addr) (c3 : Nat), v = .agg #[.int .i64 r_.Ins, .int .i64 r_.Vars, .int .i64 r_.Root, .int .i64 r_.Phase, .slice B2 r_.Terms.length c2, .slice B3 r_.Out.length c3] ∧ ST w0 [] w' [⟨B2, 56, (r_.Terms.flatMap enc_Term), c2 * 2⟩, ⟨B3, 44, (r_.Out.flatMap enc_Affine), c3 * 2⟩] []) := by
  subst hn
  subst hn1
  unfold F_impl_PathSum_substituted at hF
  refine cv_of_cw 92 Tryd.func54 rfl Tryd.ntmps54 rfl ?_
  refine cw_seq ?_
  refine cw_region ?_
  refine ss 3 rfl rfl (Ys_box (T := 30) (v := .agg #[.int .i64 p.Ins, .int .i64 p.Vars, .int .i64 p.Root, .int .i64 p.Phase, .slice B p.Terms.length c, .slice B1 p.Out.length c1]) (cs := [.int .i64 p.Ins, .int .i64 p.Vars, .int .i64 p.Root, .int .i64 p.Phase, .slice B p.Terms.length c, .slice B1 p.Out.length c1]) (m := 6) hS rfl rfl rfl rfl) ?_
  rintro _ w_ ⟨b, rfl, hS1⟩
  refine ss 5 rfl rfl (Ys_box (T := 44) (v := .agg #[.int .i64 by_.Mask, .int .i64 by_.Turn]) (cs := [.int .i64 by_.Mask, .int .i64 by_.Turn]) (m := 2) hS1 rfl rfl rfl rfl) ?_
  rintro _ w_1 ⟨b1, rfl, hS2⟩
  have hS2 : ST w0 [] _ [⟨some ⟨b, 0, none⟩, 30, [.int .i64 p.Ins, .int .i64 p.Vars, .int .i64 p.Root, .int .i64 p.Phase, .slice B p.Terms.length c, .slice B1 p.Out.length c1], 6⟩, ⟨some ⟨b1, 0, none⟩, 44, [.int .i64 by_.Mask, .int .i64 by_.Turn], 2⟩] [⟨B, (p.Terms.flatMap enc_Term)⟩, ⟨B1, (p.Out.flatMap enc_Affine)⟩] := hS2
  refine ss 6 rfl rfl (Ys_alloc (T := 30) (cs := [.int .i64 0, .int .i64 0, .int .i64 0, .int .i64 0, .slice none 0 0, .slice none 0 0]) (m := 6) hS2 k_zero_30 rfl rfl rfl) ?_
  rintro _ w_2 ⟨b2, rfl, hS3⟩
  have hS3 : ST w0 [] _ [⟨some ⟨b, 0, none⟩, 30, [.int .i64 p.Ins, .int .i64 p.Vars, .int .i64 p.Root, .int .i64 p.Phase, .slice B p.Terms.length c, .slice B1 p.Out.length c1], 6⟩, ⟨some ⟨b1, 0, none⟩, 44, [.int .i64 by_.Mask, .int .i64 by_.Turn], 2⟩, ⟨some ⟨b2, 0, none⟩, 30, [.int .i64 0, .int .i64 0, .int .i64 0, .int .i64 0, .slice none 0 0, .slice none 0 0], 6⟩] [⟨B, (p.Terms.flatMap enc_Term)⟩, ⟨B1, (p.Out.flatMap enc_Affine)⟩] := hS3
  refine rw_nil ?_
  refine cw_seq ?_
  refine cw_region ?_
  refine ss 13 rfl rfl (Ys_mkMap (T := 93) hS3 rfl) ?_
  rintro _ w_3 ⟨g, rfl, hS4⟩
  have hS4 : ST w0 [] _ [⟨some ⟨b, 0, none⟩, 30, [.int .i64 p.Ins, .int .i64 p.Vars, .int .i64 p.Root, .int .i64 p.Phase, .slice B p.Terms.length c, .slice B1 p.Out.length c1], 6⟩, ⟨some ⟨b1, 0, none⟩, 44, [.int .i64 by_.Mask, .int .i64 by_.Turn], 2⟩, ⟨some ⟨b2, 0, none⟩, 30, [.int .i64 0, .int .i64 0, .int .i64 0, .int .i64 0, .slice none 0 0, .slice none 0 0], 6⟩, ⟨(some ⟨g, 0, none⟩), .mp (mpE (Value.int .i64) (Value.int .i64) ([] : List (Int × Int))), [], 0⟩] [⟨B, (p.Terms.flatMap enc_Term)⟩, ⟨B1, (p.Out.flatMap enc_Affine)⟩] := hS4
  refine sq 14 rfl rfl (Y_fieldAddr (B := some ⟨b, 0, none⟩) (i := 0) (s := 0) k_fd_30_3_3_3 k_sz_3_1 rfl rfl) ?_
  refine sq 15 rfl rfl (Y_load1 (B := some ⟨b, 0, none⟩) (i := 3) (cs := [.int .i64 p.Ins, .int .i64 p.Vars, .int .i64 p.Root, .int .i64 p.Phase, .slice B p.Terms.length c, .slice B1 p.Out.length c1]) (v := .int .i64 p.Phase) k_sc_3 rfl rfl (hS4.cf (i := 0) rfl) rfl) ?_
  refine ss0 rfl rfl (Ys_mapIns (kE := (Value.int .i64)) (vE := (Value.int .i64)) (l := ([] : List (Int × Int))) (a := 0) (b := p.Phase) (g := g) (i := 3) hS4 (keyInt k_int_3_i64) k_map_93_3_3 rfl rfl rfl rfl rfl rfl) ?_
  rintro _ w_4 ⟨rfl, hS5⟩
  have hS5 : ST w0 [] _ [⟨some ⟨b, 0, none⟩, 30, [.int .i64 p.Ins, .int .i64 p.Vars, .int .i64 p.Root, .int .i64 p.Phase, .slice B p.Terms.length c, .slice B1 p.Out.length c1], 6⟩, ⟨some ⟨b1, 0, none⟩, 44, [.int .i64 by_.Mask, .int .i64 by_.Turn], 2⟩, ⟨some ⟨b2, 0, none⟩, 30, [.int .i64 0, .int .i64 0, .int .i64 0, .int .i64 0, .slice none 0 0, .slice none 0 0], 6⟩, ⟨(some ⟨g, 0, none⟩), .mp (mpE (Value.int .i64) (Value.int .i64) (mput ([] : List (Int × Int)) 0 p.Phase)), [], 0⟩] [⟨B, (p.Terms.flatMap enc_Term)⟩, ⟨B1, (p.Out.flatMap enc_Affine)⟩] := hS5
  refine sq 16 rfl rfl (Y_move (v := .map (some g)) rfl rfl) ?_
  refine sq 7 rfl rfl (Y_assign (v := .map (some g)) rfl rfl) ?_
  refine rw_nil ?_
  refine cw_seq ?_
  refine cw_seq ?_
  refine cw_region ?_
  refine sq 17 rfl rfl (Y_fieldAddr (B := some ⟨b, 0, none⟩) (i := 0) (s := 0) k_fd_30_4_4_27 k_sz_27_1 rfl rfl) ?_
  refine sq 18 rfl rfl (Y_load1 (B := some ⟨b, 0, none⟩) (i := 4) (cs := [.int .i64 p.Ins, .int .i64 p.Vars, .int .i64 p.Root, .int .i64 p.Phase, .slice B p.Terms.length c, .slice B1 p.Out.length c1]) (v := .slice B p.Terms.length c) k_sc_27 rfl rfl (hS5.cf (i := 0) rfl) rfl) ?_
  refine sq 19 rfl rfl (Y_len (B := B) (m := p.Terms.length) (c := c) k_sl_27_56 rfl rfl) ?_
  refine sq 20 rfl rfl (Y_move (v := .int .i64 0) rfl rfl) ?_
  refine rw_nil ?_
  obtain ⟨hN, hF⟩ := chk_inv hF
  obtain ⟨z, hz, hF1⟩ := bind_inv hF
  refine cw_block ?_
  refine cw_loop (fun k f w => ∃ (i : Nat) (poly : List (Int × Int)), FF f [(1, .int .i64 v_), (3, pt (some ⟨b, 0, none⟩) 0), (5, pt (some ⟨b1, 0, none⟩) 0), (6, pt (some ⟨b2, 0, none⟩) 0), (7, .map (some g)), (18, .slice B p.Terms.length c), (19, .int .i64 (p.Terms.length : Int)), (20, .int .i64 (i : Int))] ∧ ST w0 [] w [⟨some ⟨b, 0, none⟩, 30, [.int .i64 p.Ins, .int .i64 p.Vars, .int .i64 p.Root, .int .i64 p.Phase, .slice B p.Terms.length c, .slice B1 p.Out.length c1], 6⟩, ⟨some ⟨b1, 0, none⟩, 44, [.int .i64 by_.Mask, .int .i64 by_.Turn], 2⟩, ⟨some ⟨b2, 0, none⟩, 30, [.int .i64 0, .int .i64 0, .int .i64 0, .int .i64 0, .slice none 0 0, .slice none 0 0], 6⟩, ⟨(some ⟨g, 0, none⟩), .mp (mpE (Value.int .i64) (Value.int .i64) poly), [], 0⟩] [⟨B, (p.Terms.flatMap enc_Term)⟩, ⟨B1, (p.Out.flatMap enc_Affine)⟩] ∧ i + k = p.Terms.length ∧ forN (F_impl_PathSum_substituted_l1 p v_ by_) k i poly = some z) p.Terms.length ⟨0, (mput ([] : List (Int × Int)) 0 p.Phase), (FF.cons rfl (FF.cons rfl (FF.cons rfl (FF.cons rfl (FF.cons rfl (FF.cons rfl (FF.cons rfl (FF.cons rfl FF.nil)))))))), (hS5.sel [0, 1, 2, 3] rfl rfl), Nat.zero_add _, hz⟩ ?_
  rintro k_ f w ⟨i, poly, hf, hS6, hik, hL⟩
  refine cw_seq ?_
  refine cw_region ?_
  refine sq 21 rfl rfl (Y_lt (k := .i64) (a := (i : Int)) (b := (p.Terms.length : Int)) rfl (hf.get 20 7 rfl) (hf.get 19 6 rfl)) ?_
  refine rw_nil ?_
  refine cw_seq ?_
  refine cw_cond (b := (decide ((i : Int) < (p.Terms.length : Int)))) rfl (fun hlt => ?_) (fun hlt => ?_)
  · skip
    have hlt1 : i < p.Terms.length := by have h := of_decide_eq_true hlt; omega
    obtain ⟨k_1, rfl⟩ : ∃ k2, k_ = k2 + 1 := ⟨k_ - 1, by omega⟩
    obtain ⟨y, hb, hL1⟩ := forN_go hL
    unfold F_impl_PathSum_substituted_l1 at hb
    refine cw_skip ?_
    refine cw_seq ?_
    obtain ⟨z1, hz1, hF2⟩ := bind_inv hb
    refine cw_mid (fun f w => ∃ (poly1 : List (Int × Int)), poly1 = z1 ∧ FF f [(1, .int .i64 v_), (3, pt (some ⟨b, 0, none⟩) 0), (5, pt (some ⟨b1, 0, none⟩) 0), (6, pt (some ⟨b2, 0, none⟩) 0), (7, .map (some g)), (18, .slice B p.Terms.length c), (19, .int .i64 (p.Terms.length : Int)), (20, .int .i64 (i : Int))] ∧ ST w0 [] w [⟨some ⟨b, 0, none⟩, 30, [.int .i64 p.Ins, .int .i64 p.Vars, .int .i64 p.Root, .int .i64 p.Phase, .slice B p.Terms.length c, .slice B1 p.Out.length c1], 6⟩, ⟨some ⟨b1, 0, none⟩, 44, [.int .i64 by_.Mask, .int .i64 by_.Turn], 2⟩, ⟨some ⟨b2, 0, none⟩, 30, [.int .i64 0, .int .i64 0, .int .i64 0, .int .i64 0, .slice none 0 0, .slice none 0 0], 6⟩, ⟨(some ⟨g, 0, none⟩), .mp (mpE (Value.int .i64) (Value.int .i64) poly1), [], 0⟩] [⟨B, (p.Terms.flatMap enc_Term)⟩, ⟨B1, (p.Out.flatMap enc_Affine)⟩]) ?_ ?_
    · skip
      refine cw_block ?_
      refine cw_seq ?_
      refine cw_region ?_
      obtain ⟨x, hx, hz1⟩ := bind_inv hz1
      refine sq 22 rfl rfl (Y_index (B := B) (m := p.Terms.length) (c := c) (k := .i64) (i := (i : Int)) k_sl_27_56 k_sz_56_2 rfl (hf.get 18 5 rfl) (hf.get 20 7 rfl) (gi_isSome enc_Term_len rfl (hS6.rf (i := 0) rfl) hx) (getI_nn hx) (getI_ltI hx rfl)) ?_
      refine sq 23 rfl rfl (Y_loadA (B := B) (i := (i : Int).toNat * 2) (cs := (p.Terms.flatMap enc_Term)) (vs := [.int .i64 x.Mask, .int .i64 x.Coef]) k_ag_56 k_sz_56_2 rfl rfl (hS6.rf (i := 0) rfl) (enc_Term_len x) (gi_seg enc_Term_len hx)) ?_
      refine ss 9 rfl rfl (Ys_alloc (T := 56) (cs := [.int .i64 0, .int .i64 0]) (m := 2) hS6 k_zero_56 rfl rfl rfl) ?_
      rintro _ w_5 ⟨b3, rfl, hS8⟩
      have hS8 : ST w0 [] _ [⟨some ⟨b, 0, none⟩, 30, [.int .i64 p.Ins, .int .i64 p.Vars, .int .i64 p.Root, .int .i64 p.Phase, .slice B p.Terms.length c, .slice B1 p.Out.length c1], 6⟩, ⟨some ⟨b1, 0, none⟩, 44, [.int .i64 by_.Mask, .int .i64 by_.Turn], 2⟩, ⟨some ⟨b2, 0, none⟩, 30, [.int .i64 0, .int .i64 0, .int .i64 0, .int .i64 0, .slice none 0 0, .slice none 0 0], 6⟩, ⟨(some ⟨g, 0, none⟩), .mp (mpE (Value.int .i64) (Value.int .i64) poly), [], 0⟩, ⟨some ⟨b3, 0, none⟩, 56, [.int .i64 0, .int .i64 0], 2⟩] [⟨B, (p.Terms.flatMap enc_Term)⟩, ⟨B1, (p.Out.flatMap enc_Affine)⟩] := hS8
      refine ss0 rfl rfl (Ys_store (i := 4) (s := 2) (B := some ⟨b3, 0, none⟩) (T' := 56) (v := .agg #[.int .i64 x.Mask, .int .i64 x.Coef]) (vs := [.int .i64 x.Mask, .int .i64 x.Coef]) (k := 0) (cs' := [.int .i64 x.Mask, .int .i64 x.Coef]) hS8 k_sz_56_2 rfl rfl rfl rfl rfl rfl rfl (Nat.le_of_ble_eq_true rfl) rfl rfl) ?_
      rintro _ w_6 ⟨rfl, hS9⟩
      have hS9 : ST w0 [] _ [⟨some ⟨b, 0, none⟩, 30, [.int .i64 p.Ins, .int .i64 p.Vars, .int .i64 p.Root, .int .i64 p.Phase, .slice B p.Terms.length c, .slice B1 p.Out.length c1], 6⟩, ⟨some ⟨b1, 0, none⟩, 44, [.int .i64 by_.Mask, .int .i64 by_.Turn], 2⟩, ⟨some ⟨b2, 0, none⟩, 30, [.int .i64 0, .int .i64 0, .int .i64 0, .int .i64 0, .slice none 0 0, .slice none 0 0], 6⟩, ⟨(some ⟨g, 0, none⟩), .mp (mpE (Value.int .i64) (Value.int .i64) poly), [], 0⟩, ⟨some ⟨b3, 0, none⟩, 56, [.int .i64 x.Mask, .int .i64 x.Coef], 2⟩] [⟨B, (p.Terms.flatMap enc_Term)⟩, ⟨B1, (p.Out.flatMap enc_Affine)⟩] := hS9
      refine rw_nil ?_
      refine cw_seq ?_
      refine cw_region ?_
      refine sq 24 rfl rfl (Y_fieldAddr (B := some ⟨b3, 0, none⟩) (i := 0) (s := 0) k_fd_56_0_0_3 k_sz_3_1 rfl rfl) ?_
      refine sq 25 rfl rfl (Y_load1 (B := some ⟨b3, 0, none⟩) (i := 0) (cs := [.int .i64 x.Mask, .int .i64 x.Coef]) (v := .int .i64 x.Mask) k_sc_3 rfl rfl (hS9.cf (i := 4) rfl) rfl) ?_
      refine sq 26 rfl rfl (Y_move (v := .int .i64 v_) rfl (hf.get 1 0 rfl)) ?_
      obtain ⟨hsh, hz1⟩ := chk_inv hz1
      refine sq 27 rfl rfl (Y_shr (k := .i64) (a := x.Mask) (k' := .i64) (b := v_) rfl rfl rfl hsh) ?_
      refine sq 28 rfl rfl (Y_band (k := .i64) (a := (shrK .i64 x.Mask v_)) (b := 1) rfl rfl rfl) ?_
      refine sq 29 rfl rfl (Y_eq (k := .i64) (a := (bits .and .i64 (shrK .i64 x.Mask v_) 1)) (b := 1) rfl rfl rfl) ?_
      refine rw_nil ?_
      refine cw_cond (b := ((bits .and .i64 (shrK .i64 x.Mask v_) 1) == 1)) rfl (fun hb1 => ?_) (fun hb1 => ?_)
      · skip
        have hF3 := ct hz1 hb1
        obtain ⟨hsh1, hF3⟩ := chk_inv hF3
        obtain ⟨m, hc, hF3⟩ := bind_inv hF3
        refine ra_start (ST.sel hS9 [0, 1, 2, 4] rfl rfl).fn (by kernel_rfl) ?_
        have hS11 := hS9.drew
        refine ra_q 0 30 (v := .map (some g)) rfl rfl rfl (by kernel_rfl) (by kernel_rfl) (by kernel_rfl) (ST.sel hS11 [0, 1, 2, 4] rfl rfl) (fun w' hw' => (Y_move (v := .map (some g)) rfl (hf.get 7 4 rfl))) ?_
        refine ra_q 1 31 (v := pt (some ⟨b3, 0, none⟩) 1) rfl rfl rfl (by kernel_rfl) (by kernel_rfl) (by kernel_rfl) (ST.sel hS11 [0, 1, 2, 4] rfl rfl) (fun w' hw' => (Y_fieldAddr (B := some ⟨b3, 0, none⟩) (i := 0) (s := 0) k_fd_56_1_1_3 k_sz_3_1 rfl rfl)) ?_
        refine ra_q 2 32 (v := .int .i64 x.Coef) rfl rfl rfl (by kernel_rfl) (by kernel_rfl) (by kernel_rfl) (ST.sel hS11 [0, 1, 2, 4] rfl rfl) (fun w' hw' => (Y_load1 (B := some ⟨b3, 0, none⟩) (i := 1) (cs := [.int .i64 x.Mask, .int .i64 x.Coef]) (v := .int .i64 x.Coef) k_sc_3 rfl rfl (ST.cf hw' (i := 3) rfl) rfl)) ?_
        refine ra_q 3 33 (v := .agg #[.int .i64 by_.Mask, .int .i64 by_.Turn]) rfl rfl rfl (by kernel_rfl) (by kernel_rfl) (by kernel_rfl) (ST.sel hS11 [0, 1, 2, 4] rfl rfl) (fun w' hw' => (Y_loadA (B := some ⟨b1, 0, none⟩) (i := 0) (cs := [.int .i64 by_.Mask, .int .i64 by_.Turn]) (vs := [.int .i64 by_.Mask, .int .i64 by_.Turn]) k_ag_44 k_sz_44_2 rfl (hf.get 5 2 rfl) (ST.cf hw' (i := 1) rfl) rfl rfl)) ?_
        refine ra_q 4 34 (v := pt (some ⟨b3, 0, none⟩) 0) rfl rfl rfl (by kernel_rfl) (by kernel_rfl) (by kernel_rfl) (ST.sel hS11 [0, 1, 2, 4] rfl rfl) (fun w' hw' => (Y_fieldAddr (B := some ⟨b3, 0, none⟩) (i := 0) (s := 0) k_fd_56_0_0_3 k_sz_3_1 rfl rfl)) ?_
        refine ra_q 5 35 (v := .int .i64 x.Mask) rfl rfl rfl (by kernel_rfl) (by kernel_rfl) (by kernel_rfl) (ST.sel hS11 [0, 1, 2, 4] rfl rfl) (fun w' hw' => (Y_load1 (B := some ⟨b3, 0, none⟩) (i := 0) (cs := [.int .i64 x.Mask, .int .i64 x.Coef]) (v := .int .i64 x.Mask) k_sc_3 rfl rfl (ST.cf hw' (i := 3) rfl) rfl)) ?_
        refine ra_q 6 36 (v := .int .i64 v_) rfl rfl rfl (by kernel_rfl) (by kernel_rfl) (by kernel_rfl) (ST.sel hS11 [0, 1, 2, 4] rfl rfl) (fun w' hw' => (Y_move (v := .int .i64 v_) rfl (hf.get 1 0 rfl))) ?_
        refine ra_q 7 37 (v := .int .i64 (shlK .i64 1 v_)) rfl rfl rfl (by kernel_rfl) (by kernel_rfl) (by kernel_rfl) (ST.sel hS11 [0, 1, 2, 4] rfl rfl) (fun w' hw' => (Y_shl (k := .i64) (a := 1) (k' := .i64) (b := v_) rfl rfl rfl hsh1)) ?_
        refine ra_q 8 38 (v := .int .i64 (bits .xor .i64 x.Mask (shlK .i64 1 v_))) rfl rfl rfl (by kernel_rfl) (by kernel_rfl) (by kernel_rfl) (ST.sel hS11 [0, 1, 2, 4] rfl rfl) (fun w' hw' => (Y_bxor (k := .i64) (a := x.Mask) (b := (shlK .i64 1 v_)) rfl rfl rfl)) ?_
        refine ra_all (rs := [9]) (by kernel_rfl) rfl ?_
        refine ra_c 39 (i := 9) rfl rfl rfl (Yc_func (g := 61) (vs := [.map (some g), .int .i64 x.Coef, .agg #[.int .i64 by_.Mask, .int .i64 by_.Turn], .int .i64 (bits .xor .i64 x.Mask (shlK .i64 1 v_))]) k_call_61 rfl (mc rfl (mc rfl (mc rfl (mc rfl mn)))) (c_impl_polynomial_expand poly x.Coef by_ (bits .xor .i64 x.Mask (shlK .i64 1 v_)) g _  (hS11.inn [false, false, false, true, false] rfl [] rfl) hc)) ?_ ?_
        · rintro _ w_7 ⟨rfl, hd⟩
          have hS12 := hS11.out [false, false, false, true, false] rfl hd
          have hS12 : ST w0 [] _ [⟨some ⟨b, 0, none⟩, 30, [.int .i64 p.Ins, .int .i64 p.Vars, .int .i64 p.Root, .int .i64 p.Phase, .slice B p.Terms.length c, .slice B1 p.Out.length c1], 6⟩, ⟨some ⟨b1, 0, none⟩, 44, [.int .i64 by_.Mask, .int .i64 by_.Turn], 2⟩, ⟨some ⟨b2, 0, none⟩, 30, [.int .i64 0, .int .i64 0, .int .i64 0, .int .i64 0, .slice none 0 0, .slice none 0 0], 6⟩, ⟨some ⟨b3, 0, none⟩, 56, [.int .i64 x.Mask, .int .i64 x.Coef], 2⟩, ⟨(some ⟨g, 0, none⟩), .mp (mpE (Value.int .i64) (Value.int .i64) m), [], 0⟩] [⟨B, (p.Terms.flatMap enc_Term)⟩, ⟨B1, (p.Out.flatMap enc_Affine)⟩] := hS12
          refine ⟨(ST.sel hS12 [0, 1, 2, 3] rfl rfl), ?_⟩
          refine ra_done (by kernel_rfl) ?_
          exact ⟨m, (some_inj hF3), (FF.cons (hf.get 1 0 rfl) (FF.cons (hf.get 3 1 rfl) (FF.cons (hf.get 5 2 rfl) (FF.cons (hf.get 6 3 rfl) (FF.cons (hf.get 7 4 rfl) (FF.cons (hf.get 18 5 rfl) (FF.cons (hf.get 19 6 rfl) (FF.cons (hf.get 20 7 rfl) FF.nil)))))))), (hS12.sel [0, 1, 2, 4] rfl rfl)⟩
        exact allR_nil
      · skip
        have hF4 := cf' hz1 hb1
        refine cw_region ?_
        refine sq 40 rfl rfl (Y_move (v := .map (some g)) rfl (hf.get 7 4 rfl)) ?_
        refine sq 41 rfl rfl (Y_fieldAddr (B := some ⟨b3, 0, none⟩) (i := 0) (s := 0) k_fd_56_0_0_3 k_sz_3_1 rfl rfl) ?_
        refine sq 42 rfl rfl (Y_load1 (B := some ⟨b3, 0, none⟩) (i := 0) (cs := [.int .i64 x.Mask, .int .i64 x.Coef]) (v := .int .i64 x.Mask) k_sc_3 rfl rfl (hS9.cf (i := 4) rfl) rfl) ?_
        refine sq 43 rfl rfl (Y_fieldAddr (B := some ⟨b3, 0, none⟩) (i := 0) (s := 0) k_fd_56_1_1_3 k_sz_3_1 rfl rfl) ?_
        refine sq 44 rfl rfl (Y_load1 (B := some ⟨b3, 0, none⟩) (i := 1) (cs := [.int .i64 x.Mask, .int .i64 x.Coef]) (v := .int .i64 x.Coef) k_sc_3 rfl rfl (hS9.cf (i := 4) rfl) rfl) ?_
        obtain ⟨m1, hc1, hF4⟩ := bind_inv hF4
        refine sc 45 rfl rfl (Yc_func (g := 63) (vs := [.map (some g), .int .i64 x.Mask, .int .i64 x.Coef]) k_call_63 rfl (mc rfl (mc rfl (mc rfl mn))) (c_impl_polynomial_add poly x.Mask x.Coef g _  (hS9.inn [false, false, false, true, false] rfl [] rfl) hc1)) ?_
        rintro _ w_8 ⟨rfl, hd1⟩
        have hS13 := hS9.out [false, false, false, true, false] rfl hd1
        have hS13 : ST w0 [] _ [⟨some ⟨b, 0, none⟩, 30, [.int .i64 p.Ins, .int .i64 p.Vars, .int .i64 p.Root, .int .i64 p.Phase, .slice B p.Terms.length c, .slice B1 p.Out.length c1], 6⟩, ⟨some ⟨b1, 0, none⟩, 44, [.int .i64 by_.Mask, .int .i64 by_.Turn], 2⟩, ⟨some ⟨b2, 0, none⟩, 30, [.int .i64 0, .int .i64 0, .int .i64 0, .int .i64 0, .slice none 0 0, .slice none 0 0], 6⟩, ⟨some ⟨b3, 0, none⟩, 56, [.int .i64 x.Mask, .int .i64 x.Coef], 2⟩, ⟨(some ⟨g, 0, none⟩), .mp (mpE (Value.int .i64) (Value.int .i64) m1), [], 0⟩] [⟨B, (p.Terms.flatMap enc_Term)⟩, ⟨B1, (p.Out.flatMap enc_Affine)⟩] := hS13
        refine rw_nil ?_
        exact ⟨m1, (some_inj hF4), (FF.cons (hf.get 1 0 rfl) (FF.cons (hf.get 3 1 rfl) (FF.cons (hf.get 5 2 rfl) (FF.cons (hf.get 6 3 rfl) (FF.cons (hf.get 7 4 rfl) (FF.cons (hf.get 18 5 rfl) (FF.cons (hf.get 19 6 rfl) (FF.cons (hf.get 20 7 rfl) FF.nil)))))))), (hS13.sel [0, 1, 2, 4] rfl rfl)⟩
    rintro f w ⟨poly1, rfl, hf1, hS7⟩
    refine cw_region ?_
    refine sq 46 rfl rfl (Y_add (k := .i64) (a := (i : Int)) (b := 1) rfl (hf1.get 20 7 rfl) rfl) ?_
    refine sq 20 rfl rfl (Y_move (v := .int .i64 (IntKind.i64.wrap ((i : Int) + 1))) rfl rfl) ?_
    refine rw_nil ?_
    obtain rfl := some_inj hF2
    exact ⟨k_1, Nat.lt_succ_self _, i + 1, poly1, (FF.cons (hf1.get 1 0 rfl) (FF.cons (hf1.get 3 1 rfl) (FF.cons (hf1.get 5 2 rfl) (FF.cons (hf1.get 6 3 rfl) (FF.cons (hf1.get 7 4 rfl) (FF.cons (hf1.get 18 5 rfl) (FF.cons (hf1.get 19 6 rfl) (FF.cons (congrArg (Value.int .i64) (wr_succ hlt1 hN)) FF.nil)))))))), (hS7.sel [0, 1, 2, 3] rfl rfl), (by omega), hL1⟩
  · skip
    obtain rfl : k_ = 0 := by have h := of_decide_eq_false hlt; omega
    refine cw_exit rfl ?_
    obtain rfl := some_inj hL
    refine cw_seq ?_
    refine cw_region ?_
    refine sq 47 rfl rfl (Y_loadA (B := some ⟨b, 0, none⟩) (i := 0) (cs := [.int .i64 p.Ins, .int .i64 p.Vars, .int .i64 p.Root, .int .i64 p.Phase, .slice B p.Terms.length c, .slice B1 p.Out.length c1]) (vs := [.int .i64 p.Ins, .int .i64 p.Vars, .int .i64 p.Root, .int .i64 p.Phase, .slice B p.Terms.length c, .slice B1 p.Out.length c1]) k_ag_30 k_sz_30_6 rfl (hf.get 3 1 rfl) (hS6.cf (i := 0) rfl) rfl rfl) ?_
    refine ss 10 rfl rfl (Ys_alloc (T := 30) (cs := [.int .i64 0, .int .i64 0, .int .i64 0, .int .i64 0, .slice none 0 0, .slice none 0 0]) (m := 6) hS6 k_zero_30 rfl rfl rfl) ?_
    rintro _ w_9 ⟨b4, rfl, hS14⟩
    have hS14 : ST w0 [] _ [⟨some ⟨b, 0, none⟩, 30, [.int .i64 p.Ins, .int .i64 p.Vars, .int .i64 p.Root, .int .i64 p.Phase, .slice B p.Terms.length c, .slice B1 p.Out.length c1], 6⟩, ⟨some ⟨b1, 0, none⟩, 44, [.int .i64 by_.Mask, .int .i64 by_.Turn], 2⟩, ⟨some ⟨b2, 0, none⟩, 30, [.int .i64 0, .int .i64 0, .int .i64 0, .int .i64 0, .slice none 0 0, .slice none 0 0], 6⟩, ⟨(some ⟨g, 0, none⟩), .mp (mpE (Value.int .i64) (Value.int .i64) poly), [], 0⟩, ⟨some ⟨b4, 0, none⟩, 30, [.int .i64 0, .int .i64 0, .int .i64 0, .int .i64 0, .slice none 0 0, .slice none 0 0], 6⟩] [⟨B, (p.Terms.flatMap enc_Term)⟩, ⟨B1, (p.Out.flatMap enc_Affine)⟩] := hS14
    refine ss0 rfl rfl (Ys_store (i := 4) (s := 6) (B := some ⟨b4, 0, none⟩) (T' := 30) (v := .agg #[.int .i64 p.Ins, .int .i64 p.Vars, .int .i64 p.Root, .int .i64 p.Phase, .slice B p.Terms.length c, .slice B1 p.Out.length c1]) (vs := [.int .i64 p.Ins, .int .i64 p.Vars, .int .i64 p.Root, .int .i64 p.Phase, .slice B p.Terms.length c, .slice B1 p.Out.length c1]) (k := 0) (cs' := [.int .i64 p.Ins, .int .i64 p.Vars, .int .i64 p.Root, .int .i64 p.Phase, .slice B p.Terms.length c, .slice B1 p.Out.length c1]) hS14 k_sz_30_6 rfl rfl rfl rfl rfl rfl rfl (Nat.le_of_ble_eq_true rfl) rfl rfl) ?_
    rintro _ w_10 ⟨rfl, hS15⟩
    have hS15 : ST w0 [] _ [⟨some ⟨b, 0, none⟩, 30, [.int .i64 p.Ins, .int .i64 p.Vars, .int .i64 p.Root, .int .i64 p.Phase, .slice B p.Terms.length c, .slice B1 p.Out.length c1], 6⟩, ⟨some ⟨b1, 0, none⟩, 44, [.int .i64 by_.Mask, .int .i64 by_.Turn], 2⟩, ⟨some ⟨b2, 0, none⟩, 30, [.int .i64 0, .int .i64 0, .int .i64 0, .int .i64 0, .slice none 0 0, .slice none 0 0], 6⟩, ⟨(some ⟨g, 0, none⟩), .mp (mpE (Value.int .i64) (Value.int .i64) poly), [], 0⟩, ⟨some ⟨b4, 0, none⟩, 30, [.int .i64 p.Ins, .int .i64 p.Vars, .int .i64 p.Root, .int .i64 p.Phase, .slice B p.Terms.length c, .slice B1 p.Out.length c1], 6⟩] [⟨B, (p.Terms.flatMap enc_Term)⟩, ⟨B1, (p.Out.flatMap enc_Affine)⟩] := hS15
    refine rw_nil ?_
    refine cw_seq ?_
    obtain ⟨r_1, hc2, hF1⟩ := bind_inv hF1
    refine cw_mid (fun f w => ∃ (B5 : Option Addr) (c5 : Nat), FF f [(1, .int .i64 v_), (3, pt (some ⟨b, 0, none⟩) 0), (5, pt (some ⟨b1, 0, none⟩) 0), (6, pt (some ⟨b2, 0, none⟩) 0), (10, pt (some ⟨b4, 0, none⟩) 0)] ∧ ST w0 [] w [⟨some ⟨b, 0, none⟩, 30, [.int .i64 p.Ins, .int .i64 p.Vars, .int .i64 p.Root, .int .i64 p.Phase, .slice B p.Terms.length c, .slice B1 p.Out.length c1], 6⟩, ⟨some ⟨b1, 0, none⟩, 44, [.int .i64 by_.Mask, .int .i64 by_.Turn], 2⟩, ⟨some ⟨b2, 0, none⟩, 30, [.int .i64 0, .int .i64 0, .int .i64 0, .int .i64 0, .slice none 0 0, .slice none 0 0], 6⟩, ⟨some ⟨b4, 0, none⟩, 30, [.int .i64 p.Ins, .int .i64 p.Vars, .int .i64 p.Root, .int .i64 (mgt poly 0 0), .slice B5 r_1.length c5, .slice none 0 0], 6⟩, ⟨B5, 56, (r_1.flatMap enc_Term), c5 * 2⟩] [⟨B, (p.Terms.flatMap enc_Term)⟩, ⟨B1, (p.Out.flatMap enc_Affine)⟩]) ?_ ?_
    · skip
      refine ra_start (ST.sel hS15 [0, 1, 2] rfl rfl).fn (by kernel_rfl) ?_
      have hS18 := hS15.drew
      refine ra_q 0 48 (v := .map (some g)) rfl rfl rfl (by kernel_rfl) (by kernel_rfl) (by kernel_rfl) (ST.sel hS18 [0, 1, 2] rfl rfl) (fun w' hw' => (Y_move (v := .map (some g)) rfl (hf.get 7 4 rfl))) ?_
      refine ra_q 2 50 (v := .map (some g)) rfl rfl rfl (by kernel_rfl) (by kernel_rfl) (by kernel_rfl) (ST.sel hS18 [0, 1, 2] rfl rfl) (fun w' hw' => (Y_move (v := .map (some g)) rfl (hf.get 7 4 rfl))) ?_
      refine ra_all (rs := [1, 3]) (by kernel_rfl) rfl ?_
      refine ra_y 49 (i := 1) (v := .int .i64 (mgt poly 0 0)) rfl rfl rfl (Y_mapGet (kE := (Value.int .i64)) (vE := (Value.int .i64)) (l := poly) (a := 0) (d := 0) (g := g) (i := 3) hS18 (keyInt k_int_3_i64) k_map_93_3_3 k_zero_3 rfl rfl rfl rfl) (ST.sel hS18 [0, 1, 2] rfl rfl) ?_ ?_
      · skip
        refine ra_q 4 52 (v := pt (some ⟨b4, 0, none⟩) 3) rfl rfl rfl (by kernel_rfl) (by kernel_rfl) (by kernel_rfl) (ST.sel hS18 [0, 1, 2] rfl rfl) (fun w' hw' => (Y_fieldAddr (B := some ⟨b4, 0, none⟩) (i := 0) (s := 0) k_fd_30_3_3_3 k_sz_3_1 rfl rfl)) ?_
        refine ra_all (rs := [3]) (by kernel_rfl) rfl ?_
        refine ra_c 51 (i := 3) rfl rfl rfl (Yc_func (g := 62) (vs := [.map (some g)]) k_call_62 rfl (mc rfl mn) (c_impl_polynomial_terms poly g _  (hS18.inn [false, false, false, true, false] rfl [] rfl) hc2)) ?_ ?_
        · rintro _ w_11 ⟨B4, c4, rfl, hd2⟩
          have hS19 := hS18.out [false, false, false, true, false] rfl hd2
          have hS19 : ST w0 [] _ [⟨some ⟨b, 0, none⟩, 30, [.int .i64 p.Ins, .int .i64 p.Vars, .int .i64 p.Root, .int .i64 p.Phase, .slice B p.Terms.length c, .slice B1 p.Out.length c1], 6⟩, ⟨some ⟨b1, 0, none⟩, 44, [.int .i64 by_.Mask, .int .i64 by_.Turn], 2⟩, ⟨some ⟨b2, 0, none⟩, 30, [.int .i64 0, .int .i64 0, .int .i64 0, .int .i64 0, .slice none 0 0, .slice none 0 0], 6⟩, ⟨some ⟨b4, 0, none⟩, 30, [.int .i64 p.Ins, .int .i64 p.Vars, .int .i64 p.Root, .int .i64 p.Phase, .slice B p.Terms.length c, .slice B1 p.Out.length c1], 6⟩, ⟨(some ⟨g, 0, none⟩), .mp (mpE (Value.int .i64) (Value.int .i64) poly), [], 0⟩, ⟨B4, 56, (r_1.flatMap enc_Term), c4 * 2⟩] [⟨B, (p.Terms.flatMap enc_Term)⟩, ⟨B1, (p.Out.flatMap enc_Affine)⟩] := hS19
          refine ⟨(ST.sel hS19 [0, 1, 2] rfl rfl), ?_⟩
          refine ra_all (rs := [5]) (by kernel_rfl) rfl ?_
          refine ra_s0 (i := 5) rfl rfl rfl (Ys_store (i := 3) (s := 1) (B := some ⟨b4, 0, none⟩) (T' := 30) (v := .int .i64 (mgt poly 0 0)) (vs := [.int .i64 (mgt poly 0 0)]) (k := 3) (cs' := [.int .i64 p.Ins, .int .i64 p.Vars, .int .i64 p.Root, .int .i64 (mgt poly 0 0), .slice B p.Terms.length c, .slice B1 p.Out.length c1]) hS19 k_sz_3_1 rfl rfl rfl rfl rfl rfl rfl (Nat.le_of_ble_eq_true rfl) rfl rfl) ?_ ?_
          · rintro _ w_12 ⟨rfl, hS20⟩
            have hS20 : ST w0 [] _ [⟨some ⟨b, 0, none⟩, 30, [.int .i64 p.Ins, .int .i64 p.Vars, .int .i64 p.Root, .int .i64 p.Phase, .slice B p.Terms.length c, .slice B1 p.Out.length c1], 6⟩, ⟨some ⟨b1, 0, none⟩, 44, [.int .i64 by_.Mask, .int .i64 by_.Turn], 2⟩, ⟨some ⟨b2, 0, none⟩, 30, [.int .i64 0, .int .i64 0, .int .i64 0, .int .i64 0, .slice none 0 0, .slice none 0 0], 6⟩, ⟨some ⟨b4, 0, none⟩, 30, [.int .i64 p.Ins, .int .i64 p.Vars, .int .i64 p.Root, .int .i64 (mgt poly 0 0), .slice B p.Terms.length c, .slice B1 p.Out.length c1], 6⟩, ⟨(some ⟨g, 0, none⟩), .mp (mpE (Value.int .i64) (Value.int .i64) poly), [], 0⟩, ⟨B4, 56, (r_1.flatMap enc_Term), c4 * 2⟩] [⟨B, (p.Terms.flatMap enc_Term)⟩, ⟨B1, (p.Out.flatMap enc_Affine)⟩] := hS20
            refine ⟨(ST.sel hS20 [0, 1, 2] rfl rfl), ?_⟩
            refine ra_q 6 53 (v := pt (some ⟨b4, 0, none⟩) 4) rfl rfl rfl (by kernel_rfl) (by kernel_rfl) (by kernel_rfl) (ST.sel hS20 [0, 1, 2] rfl rfl) (fun w' hw' => (Y_fieldAddr (B := some ⟨b4, 0, none⟩) (i := 0) (s := 0) k_fd_30_4_4_27 k_sz_27_1 rfl rfl)) ?_
            refine ra_all (rs := [7]) (by kernel_rfl) rfl ?_
            refine ra_s0 (i := 7) rfl rfl rfl (Ys_store (i := 3) (s := 1) (B := some ⟨b4, 0, none⟩) (T' := 30) (v := .slice B4 r_1.length c4) (vs := [.slice B4 r_1.length c4]) (k := 4) (cs' := [.int .i64 p.Ins, .int .i64 p.Vars, .int .i64 p.Root, .int .i64 (mgt poly 0 0), .slice B4 r_1.length c4, .slice B1 p.Out.length c1]) hS20 k_sz_27_1 rfl rfl rfl rfl rfl rfl rfl (Nat.le_of_ble_eq_true rfl) rfl rfl) ?_ ?_
            · rintro _ w_13 ⟨rfl, hS21⟩
              have hS21 : ST w0 [] _ [⟨some ⟨b, 0, none⟩, 30, [.int .i64 p.Ins, .int .i64 p.Vars, .int .i64 p.Root, .int .i64 p.Phase, .slice B p.Terms.length c, .slice B1 p.Out.length c1], 6⟩, ⟨some ⟨b1, 0, none⟩, 44, [.int .i64 by_.Mask, .int .i64 by_.Turn], 2⟩, ⟨some ⟨b2, 0, none⟩, 30, [.int .i64 0, .int .i64 0, .int .i64 0, .int .i64 0, .slice none 0 0, .slice none 0 0], 6⟩, ⟨some ⟨b4, 0, none⟩, 30, [.int .i64 p.Ins, .int .i64 p.Vars, .int .i64 p.Root, .int .i64 (mgt poly 0 0), .slice B4 r_1.length c4, .slice B1 p.Out.length c1], 6⟩, ⟨(some ⟨g, 0, none⟩), .mp (mpE (Value.int .i64) (Value.int .i64) poly), [], 0⟩, ⟨B4, 56, (r_1.flatMap enc_Term), c4 * 2⟩] [⟨B, (p.Terms.flatMap enc_Term)⟩, ⟨B1, (p.Out.flatMap enc_Affine)⟩] := hS21
              refine ⟨(ST.sel hS21 [0, 1, 2] rfl rfl), ?_⟩
              refine ra_q 8 54 (v := pt (some ⟨b4, 0, none⟩) 5) rfl rfl rfl (by kernel_rfl) (by kernel_rfl) (by kernel_rfl) (ST.sel hS21 [0, 1, 2] rfl rfl) (fun w' hw' => (Y_fieldAddr (B := some ⟨b4, 0, none⟩) (i := 0) (s := 0) k_fd_30_5_5_28 k_sz_28_1 rfl rfl)) ?_
              refine ra_all (rs := [9]) (by kernel_rfl) rfl ?_
              refine ra_s0 (i := 9) rfl rfl rfl (Ys_store (i := 3) (s := 1) (B := some ⟨b4, 0, none⟩) (T' := 30) (v := .slice none 0 0) (vs := [.slice none 0 0]) (k := 5) (cs' := [.int .i64 p.Ins, .int .i64 p.Vars, .int .i64 p.Root, .int .i64 (mgt poly 0 0), .slice B4 r_1.length c4, .slice none 0 0]) hS21 k_sz_28_1 rfl rfl rfl rfl rfl rfl rfl (Nat.le_of_ble_eq_true rfl) rfl rfl) ?_ ?_
              · rintro _ w_14 ⟨rfl, hS22⟩
                have hS22 : ST w0 [] _ [⟨some ⟨b, 0, none⟩, 30, [.int .i64 p.Ins, .int .i64 p.Vars, .int .i64 p.Root, .int .i64 p.Phase, .slice B p.Terms.length c, .slice B1 p.Out.length c1], 6⟩, ⟨some ⟨b1, 0, none⟩, 44, [.int .i64 by_.Mask, .int .i64 by_.Turn], 2⟩, ⟨some ⟨b2, 0, none⟩, 30, [.int .i64 0, .int .i64 0, .int .i64 0, .int .i64 0, .slice none 0 0, .slice none 0 0], 6⟩, ⟨some ⟨b4, 0, none⟩, 30, [.int .i64 p.Ins, .int .i64 p.Vars, .int .i64 p.Root, .int .i64 (mgt poly 0 0), .slice B4 r_1.length c4, .slice none 0 0], 6⟩, ⟨(some ⟨g, 0, none⟩), .mp (mpE (Value.int .i64) (Value.int .i64) poly), [], 0⟩, ⟨B4, 56, (r_1.flatMap enc_Term), c4 * 2⟩] [⟨B, (p.Terms.flatMap enc_Term)⟩, ⟨B1, (p.Out.flatMap enc_Affine)⟩] := hS22
                refine ⟨(ST.sel hS22 [0, 1, 2] rfl rfl), ?_⟩
                refine ra_done (by kernel_rfl) ?_
                exact ⟨B4, c4, (FF.cons (hf.get 1 0 rfl) (FF.cons (hf.get 3 1 rfl) (FF.cons (hf.get 5 2 rfl) (FF.cons (hf.get 6 3 rfl) (FF.cons rfl FF.nil))))), (hS22.sel [0, 1, 2, 3, 5] rfl rfl)⟩
              exact allR_nil
            exact allR_nil
          exact allR_nil
        exact allR_nil
      refine ra_c 51 (i := 3) rfl rfl rfl (Yc_func (g := 62) (vs := [.map (some g)]) k_call_62 rfl (mc rfl mn) (c_impl_polynomial_terms poly g _  (hS18.inn [false, false, false, true, false] rfl [] rfl) hc2)) ?_ ?_
      · rintro _ w_15 ⟨B4, c4, rfl, hd3⟩
        have hS23 := hS18.out [false, false, false, true, false] rfl hd3
        have hS23 : ST w0 [] _ [⟨some ⟨b, 0, none⟩, 30, [.int .i64 p.Ins, .int .i64 p.Vars, .int .i64 p.Root, .int .i64 p.Phase, .slice B p.Terms.length c, .slice B1 p.Out.length c1], 6⟩, ⟨some ⟨b1, 0, none⟩, 44, [.int .i64 by_.Mask, .int .i64 by_.Turn], 2⟩, ⟨some ⟨b2, 0, none⟩, 30, [.int .i64 0, .int .i64 0, .int .i64 0, .int .i64 0, .slice none 0 0, .slice none 0 0], 6⟩, ⟨some ⟨b4, 0, none⟩, 30, [.int .i64 p.Ins, .int .i64 p.Vars, .int .i64 p.Root, .int .i64 p.Phase, .slice B p.Terms.length c, .slice B1 p.Out.length c1], 6⟩, ⟨(some ⟨g, 0, none⟩), .mp (mpE (Value.int .i64) (Value.int .i64) poly), [], 0⟩, ⟨B4, 56, (r_1.flatMap enc_Term), c4 * 2⟩] [⟨B, (p.Terms.flatMap enc_Term)⟩, ⟨B1, (p.Out.flatMap enc_Affine)⟩] := hS23
        refine ⟨(ST.sel hS23 [0, 1, 2] rfl rfl), ?_⟩
        refine ra_all (rs := [1]) (by kernel_rfl) rfl ?_
        refine ra_y 49 (i := 1) (v := .int .i64 (mgt poly 0 0)) rfl rfl rfl (Y_mapGet (kE := (Value.int .i64)) (vE := (Value.int .i64)) (l := poly) (a := 0) (d := 0) (g := g) (i := 4) hS23 (keyInt k_int_3_i64) k_map_93_3_3 k_zero_3 rfl rfl rfl rfl) (ST.sel hS23 [0, 1, 2] rfl rfl) ?_ ?_
        · skip
          refine ra_q 4 52 (v := pt (some ⟨b4, 0, none⟩) 3) rfl rfl rfl (by kernel_rfl) (by kernel_rfl) (by kernel_rfl) (ST.sel hS23 [0, 1, 2] rfl rfl) (fun w' hw' => (Y_fieldAddr (B := some ⟨b4, 0, none⟩) (i := 0) (s := 0) k_fd_30_3_3_3 k_sz_3_1 rfl rfl)) ?_
          refine ra_all (rs := [5]) (by kernel_rfl) rfl ?_
          refine ra_s0 (i := 5) rfl rfl rfl (Ys_store (i := 3) (s := 1) (B := some ⟨b4, 0, none⟩) (T' := 30) (v := .int .i64 (mgt poly 0 0)) (vs := [.int .i64 (mgt poly 0 0)]) (k := 3) (cs' := [.int .i64 p.Ins, .int .i64 p.Vars, .int .i64 p.Root, .int .i64 (mgt poly 0 0), .slice B p.Terms.length c, .slice B1 p.Out.length c1]) hS23 k_sz_3_1 rfl rfl rfl rfl rfl rfl rfl (Nat.le_of_ble_eq_true rfl) rfl rfl) ?_ ?_
          · rintro _ w_16 ⟨rfl, hS24⟩
            have hS24 : ST w0 [] _ [⟨some ⟨b, 0, none⟩, 30, [.int .i64 p.Ins, .int .i64 p.Vars, .int .i64 p.Root, .int .i64 p.Phase, .slice B p.Terms.length c, .slice B1 p.Out.length c1], 6⟩, ⟨some ⟨b1, 0, none⟩, 44, [.int .i64 by_.Mask, .int .i64 by_.Turn], 2⟩, ⟨some ⟨b2, 0, none⟩, 30, [.int .i64 0, .int .i64 0, .int .i64 0, .int .i64 0, .slice none 0 0, .slice none 0 0], 6⟩, ⟨some ⟨b4, 0, none⟩, 30, [.int .i64 p.Ins, .int .i64 p.Vars, .int .i64 p.Root, .int .i64 (mgt poly 0 0), .slice B p.Terms.length c, .slice B1 p.Out.length c1], 6⟩, ⟨(some ⟨g, 0, none⟩), .mp (mpE (Value.int .i64) (Value.int .i64) poly), [], 0⟩, ⟨B4, 56, (r_1.flatMap enc_Term), c4 * 2⟩] [⟨B, (p.Terms.flatMap enc_Term)⟩, ⟨B1, (p.Out.flatMap enc_Affine)⟩] := hS24
            refine ⟨(ST.sel hS24 [0, 1, 2] rfl rfl), ?_⟩
            refine ra_q 6 53 (v := pt (some ⟨b4, 0, none⟩) 4) rfl rfl rfl (by kernel_rfl) (by kernel_rfl) (by kernel_rfl) (ST.sel hS24 [0, 1, 2] rfl rfl) (fun w' hw' => (Y_fieldAddr (B := some ⟨b4, 0, none⟩) (i := 0) (s := 0) k_fd_30_4_4_27 k_sz_27_1 rfl rfl)) ?_
            refine ra_all (rs := [7]) (by kernel_rfl) rfl ?_
            refine ra_s0 (i := 7) rfl rfl rfl (Ys_store (i := 3) (s := 1) (B := some ⟨b4, 0, none⟩) (T' := 30) (v := .slice B4 r_1.length c4) (vs := [.slice B4 r_1.length c4]) (k := 4) (cs' := [.int .i64 p.Ins, .int .i64 p.Vars, .int .i64 p.Root, .int .i64 (mgt poly 0 0), .slice B4 r_1.length c4, .slice B1 p.Out.length c1]) hS24 k_sz_27_1 rfl rfl rfl rfl rfl rfl rfl (Nat.le_of_ble_eq_true rfl) rfl rfl) ?_ ?_
            · rintro _ w_17 ⟨rfl, hS25⟩
              have hS25 : ST w0 [] _ [⟨some ⟨b, 0, none⟩, 30, [.int .i64 p.Ins, .int .i64 p.Vars, .int .i64 p.Root, .int .i64 p.Phase, .slice B p.Terms.length c, .slice B1 p.Out.length c1], 6⟩, ⟨some ⟨b1, 0, none⟩, 44, [.int .i64 by_.Mask, .int .i64 by_.Turn], 2⟩, ⟨some ⟨b2, 0, none⟩, 30, [.int .i64 0, .int .i64 0, .int .i64 0, .int .i64 0, .slice none 0 0, .slice none 0 0], 6⟩, ⟨some ⟨b4, 0, none⟩, 30, [.int .i64 p.Ins, .int .i64 p.Vars, .int .i64 p.Root, .int .i64 (mgt poly 0 0), .slice B4 r_1.length c4, .slice B1 p.Out.length c1], 6⟩, ⟨(some ⟨g, 0, none⟩), .mp (mpE (Value.int .i64) (Value.int .i64) poly), [], 0⟩, ⟨B4, 56, (r_1.flatMap enc_Term), c4 * 2⟩] [⟨B, (p.Terms.flatMap enc_Term)⟩, ⟨B1, (p.Out.flatMap enc_Affine)⟩] := hS25
              refine ⟨(ST.sel hS25 [0, 1, 2] rfl rfl), ?_⟩
              refine ra_q 8 54 (v := pt (some ⟨b4, 0, none⟩) 5) rfl rfl rfl (by kernel_rfl) (by kernel_rfl) (by kernel_rfl) (ST.sel hS25 [0, 1, 2] rfl rfl) (fun w' hw' => (Y_fieldAddr (B := some ⟨b4, 0, none⟩) (i := 0) (s := 0) k_fd_30_5_5_28 k_sz_28_1 rfl rfl)) ?_
              refine ra_all (rs := [9]) (by kernel_rfl) rfl ?_
              refine ra_s0 (i := 9) rfl rfl rfl (Ys_store (i := 3) (s := 1) (B := some ⟨b4, 0, none⟩) (T' := 30) (v := .slice none 0 0) (vs := [.slice none 0 0]) (k := 5) (cs' := [.int .i64 p.Ins, .int .i64 p.Vars, .int .i64 p.Root, .int .i64 (mgt poly 0 0), .slice B4 r_1.length c4, .slice none 0 0]) hS25 k_sz_28_1 rfl rfl rfl rfl rfl rfl rfl (Nat.le_of_ble_eq_true rfl) rfl rfl) ?_ ?_
              · rintro _ w_18 ⟨rfl, hS26⟩
                have hS26 : ST w0 [] _ [⟨some ⟨b, 0, none⟩, 30, [.int .i64 p.Ins, .int .i64 p.Vars, .int .i64 p.Root, .int .i64 p.Phase, .slice B p.Terms.length c, .slice B1 p.Out.length c1], 6⟩, ⟨some ⟨b1, 0, none⟩, 44, [.int .i64 by_.Mask, .int .i64 by_.Turn], 2⟩, ⟨some ⟨b2, 0, none⟩, 30, [.int .i64 0, .int .i64 0, .int .i64 0, .int .i64 0, .slice none 0 0, .slice none 0 0], 6⟩, ⟨some ⟨b4, 0, none⟩, 30, [.int .i64 p.Ins, .int .i64 p.Vars, .int .i64 p.Root, .int .i64 (mgt poly 0 0), .slice B4 r_1.length c4, .slice none 0 0], 6⟩, ⟨(some ⟨g, 0, none⟩), .mp (mpE (Value.int .i64) (Value.int .i64) poly), [], 0⟩, ⟨B4, 56, (r_1.flatMap enc_Term), c4 * 2⟩] [⟨B, (p.Terms.flatMap enc_Term)⟩, ⟨B1, (p.Out.flatMap enc_Affine)⟩] := hS26
                refine ⟨(ST.sel hS26 [0, 1, 2] rfl rfl), ?_⟩
                refine ra_done (by kernel_rfl) ?_
                exact ⟨B4, c4, (FF.cons (hf.get 1 0 rfl) (FF.cons (hf.get 3 1 rfl) (FF.cons (hf.get 5 2 rfl) (FF.cons (hf.get 6 3 rfl) (FF.cons rfl FF.nil))))), (hS26.sel [0, 1, 2, 3, 5] rfl rfl)⟩
              exact allR_nil
            exact allR_nil
          exact allR_nil
        exact allR_nil
      exact allR_nil
    rintro f w ⟨B5, c5, hf2, hS17⟩
    refine cw_seq ?_
    refine cw_seq ?_
    refine cw_region ?_
    refine sq 55 rfl rfl (Y_fieldAddr (B := some ⟨b, 0, none⟩) (i := 0) (s := 0) k_fd_30_5_5_28 k_sz_28_1 rfl (hf2.get 3 1 rfl)) ?_
    refine sq 56 rfl rfl (Y_load1 (B := some ⟨b, 0, none⟩) (i := 5) (cs := [.int .i64 p.Ins, .int .i64 p.Vars, .int .i64 p.Root, .int .i64 p.Phase, .slice B p.Terms.length c, .slice B1 p.Out.length c1]) (v := .slice B1 p.Out.length c1) k_sc_28 rfl rfl (hS17.cf (i := 0) rfl) rfl) ?_
    refine sq 57 rfl rfl (Y_len (B := B1) (m := p.Out.length) (c := c1) k_sl_28_44 rfl rfl) ?_
    refine sq 58 rfl rfl (Y_move (v := .int .i64 0) rfl rfl) ?_
    refine rw_nil ?_
    obtain ⟨z2, hz2, hF5⟩ := bind_inv hF1
    have hS28 := hS17.addNil 44
    refine cw_block ?_
    refine cw_loop (fun k f w => ∃ (Out : List TAffine) (t : Int) (B6 : Option Addr) (c6 : Nat), FF f [(1, .int .i64 v_), (5, pt (some ⟨b1, 0, none⟩) 0), (6, pt (some ⟨b2, 0, none⟩) 0), (10, pt (some ⟨b4, 0, none⟩) 0), (56, .slice B1 p.Out.length c1), (57, .int .i64 (p.Out.length : Int)), (58, .int .i64 t)] ∧ ST w0 [] w [⟨some ⟨b1, 0, none⟩, 44, [.int .i64 by_.Mask, .int .i64 by_.Turn], 2⟩, ⟨some ⟨b2, 0, none⟩, 30, [.int .i64 0, .int .i64 0, .int .i64 0, .int .i64 0, .slice none 0 0, .slice none 0 0], 6⟩, ⟨some ⟨b4, 0, none⟩, 30, [.int .i64 p.Ins, .int .i64 p.Vars, .int .i64 p.Root, .int .i64 (mgt poly 0 0), .slice B5 r_1.length c5, .slice B6 Out.length c6], 6⟩, ⟨B5, 56, (r_1.flatMap enc_Term), c5 * 2⟩, ⟨B6, 44, (Out.flatMap enc_Affine), c6 * 2⟩] [⟨B, (p.Terms.flatMap enc_Term)⟩, ⟨B1, (p.Out.flatMap enc_Affine)⟩] ∧ whX (F_impl_PathSum_substituted_l2 p v_ by_) k (Out, t) = some z2) fuel ⟨[], 0, none, 0, (FF.cons (hf2.get 1 0 rfl) (FF.cons (hf2.get 5 2 rfl) (FF.cons (hf2.get 6 3 rfl) (FF.cons (hf2.get 10 4 rfl) (FF.cons rfl (FF.cons rfl (FF.cons rfl FF.nil))))))), (hS28.sel [1, 2, 3, 4, 5] rfl rfl), hz2⟩ ?_
    rintro k_2 f w ⟨Out, t, B6, c6, hf3, hS27, hL2⟩
    obtain ⟨k_3, y1, rfl, hb2, hL3⟩ := whX_go hL2
    unfold F_impl_PathSum_substituted_l2 at hb2
    refine cw_seq ?_
    refine cw_region ?_
    refine sq 59 rfl rfl (Y_lt (k := .i64) (a := t) (b := (p.Out.length : Int)) rfl (hf3.get 58 6 rfl) (hf3.get 57 5 rfl)) ?_
    refine rw_nil ?_
    refine cw_seq ?_
    refine cw_cond (b := (decide (t < (p.Out.length : Int)))) rfl (fun hb3 => ?_) (fun hb3 => ?_)
    · skip
      have hF6 := ct hb2 hb3
      refine cw_skip ?_
      refine cw_seq ?_
      refine cw_block ?_
      refine cw_seq ?_
      refine cw_region ?_
      obtain ⟨x1, hx1, hF6⟩ := bind_inv hF6
      refine sq 60 rfl rfl (Y_index (B := B1) (m := p.Out.length) (c := c1) (k := .i64) (i := t) k_sl_28_44 k_sz_44_2 rfl (hf3.get 56 4 rfl) (hf3.get 58 6 rfl) (gi_isSome enc_Affine_len rfl (hS27.rf (i := 1) rfl) hx1) (getI_nn hx1) (getI_ltI hx1 rfl)) ?_
      refine sq 61 rfl rfl (Y_loadA (B := B1) (i := t.toNat * 2) (cs := (p.Out.flatMap enc_Affine)) (vs := [.int .i64 x1.Mask, .int .i64 x1.Turn]) k_ag_44 k_sz_44_2 rfl rfl (hS27.rf (i := 1) rfl) (enc_Affine_len x1) (gi_seg enc_Affine_len hx1)) ?_
      refine ss 12 rfl rfl (Ys_alloc (T := 44) (cs := [.int .i64 0, .int .i64 0]) (m := 2) hS27 k_zero_44 rfl rfl rfl) ?_
      rintro _ w_19 ⟨b5, rfl, hS29⟩
      have hS29 : ST w0 [] _ [⟨some ⟨b1, 0, none⟩, 44, [.int .i64 by_.Mask, .int .i64 by_.Turn], 2⟩, ⟨some ⟨b2, 0, none⟩, 30, [.int .i64 0, .int .i64 0, .int .i64 0, .int .i64 0, .slice none 0 0, .slice none 0 0], 6⟩, ⟨some ⟨b4, 0, none⟩, 30, [.int .i64 p.Ins, .int .i64 p.Vars, .int .i64 p.Root, .int .i64 (mgt poly 0 0), .slice B5 r_1.length c5, .slice B6 Out.length c6], 6⟩, ⟨B5, 56, (r_1.flatMap enc_Term), c5 * 2⟩, ⟨B6, 44, (Out.flatMap enc_Affine), c6 * 2⟩, ⟨some ⟨b5, 0, none⟩, 44, [.int .i64 0, .int .i64 0], 2⟩] [⟨B, (p.Terms.flatMap enc_Term)⟩, ⟨B1, (p.Out.flatMap enc_Affine)⟩] := hS29
      refine ss0 rfl rfl (Ys_store (i := 5) (s := 2) (B := some ⟨b5, 0, none⟩) (T' := 44) (v := .agg #[.int .i64 x1.Mask, .int .i64 x1.Turn]) (vs := [.int .i64 x1.Mask, .int .i64 x1.Turn]) (k := 0) (cs' := [.int .i64 x1.Mask, .int .i64 x1.Turn]) hS29 k_sz_44_2 rfl rfl rfl rfl rfl rfl rfl (Nat.le_of_ble_eq_true rfl) rfl rfl) ?_
      rintro _ w_20 ⟨rfl, hS30⟩
      have hS30 : ST w0 [] _ [⟨some ⟨b1, 0, none⟩, 44, [.int .i64 by_.Mask, .int .i64 by_.Turn], 2⟩, ⟨some ⟨b2, 0, none⟩, 30, [.int .i64 0, .int .i64 0, .int .i64 0, .int .i64 0, .slice none 0 0, .slice none 0 0], 6⟩, ⟨some ⟨b4, 0, none⟩, 30, [.int .i64 p.Ins, .int .i64 p.Vars, .int .i64 p.Root, .int .i64 (mgt poly 0 0), .slice B5 r_1.length c5, .slice B6 Out.length c6], 6⟩, ⟨B5, 56, (r_1.flatMap enc_Term), c5 * 2⟩, ⟨B6, 44, (Out.flatMap enc_Affine), c6 * 2⟩, ⟨some ⟨b5, 0, none⟩, 44, [.int .i64 x1.Mask, .int .i64 x1.Turn], 2⟩] [⟨B, (p.Terms.flatMap enc_Term)⟩, ⟨B1, (p.Out.flatMap enc_Affine)⟩] := hS30
      refine rw_nil ?_
      refine cw_seq ?_
      obtain ⟨z3, hz3, hF7⟩ := bind_inv hF6
      refine cw_mid (fun f w => ∃ (Mask : Int) (Turn : Int), (Mask, Turn) = z3 ∧ FF f [(1, .int .i64 v_), (5, pt (some ⟨b1, 0, none⟩) 0), (6, pt (some ⟨b2, 0, none⟩) 0), (10, pt (some ⟨b4, 0, none⟩) 0), (12, pt (some ⟨b5, 0, none⟩) 0), (56, .slice B1 p.Out.length c1), (57, .int .i64 (p.Out.length : Int)), (58, .int .i64 t)] ∧ ST w0 [] w [⟨some ⟨b1, 0, none⟩, 44, [.int .i64 by_.Mask, .int .i64 by_.Turn], 2⟩, ⟨some ⟨b2, 0, none⟩, 30, [.int .i64 0, .int .i64 0, .int .i64 0, .int .i64 0, .slice none 0 0, .slice none 0 0], 6⟩, ⟨some ⟨b4, 0, none⟩, 30, [.int .i64 p.Ins, .int .i64 p.Vars, .int .i64 p.Root, .int .i64 (mgt poly 0 0), .slice B5 r_1.length c5, .slice B6 Out.length c6], 6⟩, ⟨B5, 56, (r_1.flatMap enc_Term), c5 * 2⟩, ⟨B6, 44, (Out.flatMap enc_Affine), c6 * 2⟩, ⟨some ⟨b5, 0, none⟩, 44, [.int .i64 Mask, .int .i64 Turn], 2⟩] [⟨B, (p.Terms.flatMap enc_Term)⟩, ⟨B1, (p.Out.flatMap enc_Affine)⟩]) ?_ ?_
      · skip
        refine cw_seq ?_
        refine cw_region ?_
        refine sq 62 rfl rfl (Y_fieldAddr (B := some ⟨b5, 0, none⟩) (i := 0) (s := 0) k_fd_44_0_0_3 k_sz_3_1 rfl rfl) ?_
        refine sq 63 rfl rfl (Y_load1 (B := some ⟨b5, 0, none⟩) (i := 0) (cs := [.int .i64 x1.Mask, .int .i64 x1.Turn]) (v := .int .i64 x1.Mask) k_sc_3 rfl rfl (hS30.cf (i := 5) rfl) rfl) ?_
        refine sq 64 rfl rfl (Y_move (v := .int .i64 v_) rfl (hf3.get 1 0 rfl)) ?_
        obtain ⟨hsh2, hz3⟩ := chk_inv hz3
        refine sq 65 rfl rfl (Y_shr (k := .i64) (a := x1.Mask) (k' := .i64) (b := v_) rfl rfl rfl hsh2) ?_
        refine sq 66 rfl rfl (Y_band (k := .i64) (a := (shrK .i64 x1.Mask v_)) (b := 1) rfl rfl rfl) ?_
        refine sq 67 rfl rfl (Y_eq (k := .i64) (a := (bits .and .i64 (shrK .i64 x1.Mask v_) 1)) (b := 1) rfl rfl rfl) ?_
        refine rw_nil ?_
        refine cw_cond (b := ((bits .and .i64 (shrK .i64 x1.Mask v_) 1) == 1)) rfl (fun hb4 => ?_) (fun hb4 => ?_)
        · skip
          have hF8 := ct hz3 hb4
          obtain ⟨hsh3, hF8⟩ := chk_inv hF8
          refine cw_mid (fun f w => FF f [(1, .int .i64 v_), (5, pt (some ⟨b1, 0, none⟩) 0), (6, pt (some ⟨b2, 0, none⟩) 0), (10, pt (some ⟨b4, 0, none⟩) 0), (12, pt (some ⟨b5, 0, none⟩) 0), (56, .slice B1 p.Out.length c1), (57, .int .i64 (p.Out.length : Int)), (58, .int .i64 t)] ∧ ST w0 [] w [⟨some ⟨b1, 0, none⟩, 44, [.int .i64 by_.Mask, .int .i64 by_.Turn], 2⟩, ⟨some ⟨b2, 0, none⟩, 30, [.int .i64 0, .int .i64 0, .int .i64 0, .int .i64 0, .slice none 0 0, .slice none 0 0], 6⟩, ⟨some ⟨b4, 0, none⟩, 30, [.int .i64 p.Ins, .int .i64 p.Vars, .int .i64 p.Root, .int .i64 (mgt poly 0 0), .slice B5 r_1.length c5, .slice B6 Out.length c6], 6⟩, ⟨B5, 56, (r_1.flatMap enc_Term), c5 * 2⟩, ⟨B6, 44, (Out.flatMap enc_Affine), c6 * 2⟩, ⟨some ⟨b5, 0, none⟩, 44, [.int .i64 (bits .xor .i64 (bits .xor .i64 x1.Mask (shlK .i64 1 v_)) by_.Mask), .int .i64 (bits .xor .i64 x1.Turn by_.Turn)], 2⟩] [⟨B, (p.Terms.flatMap enc_Term)⟩, ⟨B1, (p.Out.flatMap enc_Affine)⟩]) ?_ ?_
          · skip
            refine ra_start (ST.sel hS30 [0, 1, 2, 3, 4] rfl rfl).fn (by kernel_rfl) ?_
            have hS33 := hS30.drew
            refine ra_q 0 68 (v := pt (some ⟨b5, 0, none⟩) 0) rfl rfl rfl (by kernel_rfl) (by kernel_rfl) (by kernel_rfl) (ST.sel hS33 [0, 1, 2, 3, 4] rfl rfl) (fun w' hw' => (Y_fieldAddr (B := some ⟨b5, 0, none⟩) (i := 0) (s := 0) k_fd_44_0_0_3 k_sz_3_1 rfl rfl)) ?_
            refine ra_q 2 70 (v := .int .i64 v_) rfl rfl rfl (by kernel_rfl) (by kernel_rfl) (by kernel_rfl) (ST.sel hS33 [0, 1, 2, 3, 4] rfl rfl) (fun w' hw' => (Y_move (v := .int .i64 v_) rfl (hf3.get 1 0 rfl))) ?_
            refine ra_q 3 71 (v := .int .i64 (shlK .i64 1 v_)) rfl rfl rfl (by kernel_rfl) (by kernel_rfl) (by kernel_rfl) (ST.sel hS33 [0, 1, 2, 3, 4] rfl rfl) (fun w' hw' => (Y_shl (k := .i64) (a := 1) (k' := .i64) (b := v_) rfl rfl rfl hsh3)) ?_
            refine ra_q 5 73 (v := pt (some ⟨b1, 0, none⟩) 0) rfl rfl rfl (by kernel_rfl) (by kernel_rfl) (by kernel_rfl) (ST.sel hS33 [0, 1, 2, 3, 4] rfl rfl) (fun w' hw' => (Y_fieldAddr (B := some ⟨b1, 0, none⟩) (i := 0) (s := 0) k_fd_44_0_0_3 k_sz_3_1 rfl (hf3.get 5 1 rfl))) ?_
            refine ra_q 6 74 (v := .int .i64 by_.Mask) rfl rfl rfl (by kernel_rfl) (by kernel_rfl) (by kernel_rfl) (ST.sel hS33 [0, 1, 2, 3, 4] rfl rfl) (fun w' hw' => (Y_load1 (B := some ⟨b1, 0, none⟩) (i := 0) (cs := [.int .i64 by_.Mask, .int .i64 by_.Turn]) (v := .int .i64 by_.Mask) k_sc_3 rfl rfl (ST.cf hw' (i := 0) rfl) rfl)) ?_
            refine ra_q 8 76 (v := pt (some ⟨b5, 0, none⟩) 1) rfl rfl rfl (by kernel_rfl) (by kernel_rfl) (by kernel_rfl) (ST.sel hS33 [0, 1, 2, 3, 4] rfl rfl) (fun w' hw' => (Y_fieldAddr (B := some ⟨b5, 0, none⟩) (i := 0) (s := 0) k_fd_44_1_1_3 k_sz_3_1 rfl rfl)) ?_
            refine ra_q 10 78 (v := pt (some ⟨b1, 0, none⟩) 1) rfl rfl rfl (by kernel_rfl) (by kernel_rfl) (by kernel_rfl) (ST.sel hS33 [0, 1, 2, 3, 4] rfl rfl) (fun w' hw' => (Y_fieldAddr (B := some ⟨b1, 0, none⟩) (i := 0) (s := 0) k_fd_44_1_1_3 k_sz_3_1 rfl (hf3.get 5 1 rfl))) ?_
            refine ra_q 11 79 (v := .int .i64 by_.Turn) rfl rfl rfl (by kernel_rfl) (by kernel_rfl) (by kernel_rfl) (ST.sel hS33 [0, 1, 2, 3, 4] rfl rfl) (fun w' hw' => (Y_load1 (B := some ⟨b1, 0, none⟩) (i := 1) (cs := [.int .i64 by_.Mask, .int .i64 by_.Turn]) (v := .int .i64 by_.Turn) k_sc_3 rfl rfl (ST.cf hw' (i := 0) rfl) rfl)) ?_
            refine ra_all (rs := [1, 9]) (by kernel_rfl) rfl ?_
            refine ra_y 69 (i := 1) (v := .int .i64 x1.Mask) rfl rfl rfl (Y_load1 (B := some ⟨b5, 0, none⟩) (i := 0) (cs := [.int .i64 x1.Mask, .int .i64 x1.Turn]) (v := .int .i64 x1.Mask) k_sc_3 rfl rfl (hS33.cf (i := 5) rfl) rfl) (ST.sel hS33 [0, 1, 2, 3, 4] rfl rfl) ?_ ?_
            · skip
              refine ra_q 4 72 (v := .int .i64 (bits .xor .i64 x1.Mask (shlK .i64 1 v_))) rfl rfl rfl (by kernel_rfl) (by kernel_rfl) (by kernel_rfl) (ST.sel hS33 [0, 1, 2, 3, 4] rfl rfl) (fun w' hw' => (Y_bxor (k := .i64) (a := x1.Mask) (b := (shlK .i64 1 v_)) rfl rfl rfl)) ?_
              refine ra_q 7 75 (v := .int .i64 (bits .xor .i64 (bits .xor .i64 x1.Mask (shlK .i64 1 v_)) by_.Mask)) rfl rfl rfl (by kernel_rfl) (by kernel_rfl) (by kernel_rfl) (ST.sel hS33 [0, 1, 2, 3, 4] rfl rfl) (fun w' hw' => (Y_bxor (k := .i64) (a := (bits .xor .i64 x1.Mask (shlK .i64 1 v_))) (b := by_.Mask) rfl rfl rfl)) ?_
              refine ra_all (rs := [9]) (by kernel_rfl) rfl ?_
              refine ra_y 77 (i := 9) (v := .int .i64 x1.Turn) rfl rfl rfl (Y_load1 (B := some ⟨b5, 0, none⟩) (i := 1) (cs := [.int .i64 x1.Mask, .int .i64 x1.Turn]) (v := .int .i64 x1.Turn) k_sc_3 rfl rfl (hS33.cf (i := 5) rfl) rfl) (ST.sel hS33 [0, 1, 2, 3, 4] rfl rfl) ?_ ?_
              · skip
                refine ra_q 12 80 (v := .int .i64 (bits .xor .i64 x1.Turn by_.Turn)) rfl rfl rfl (by kernel_rfl) (by kernel_rfl) (by kernel_rfl) (ST.sel hS33 [0, 1, 2, 3, 4] rfl rfl) (fun w' hw' => (Y_bxor (k := .i64) (a := x1.Turn) (b := by_.Turn) rfl rfl rfl)) ?_
                refine ra_q 13 81 (v := .agg #[.int .i64 (bits .xor .i64 (bits .xor .i64 x1.Mask (shlK .i64 1 v_)) by_.Mask), .int .i64 (bits .xor .i64 x1.Turn by_.Turn)]) rfl rfl rfl (by kernel_rfl) (by kernel_rfl) (by kernel_rfl) (ST.sel hS33 [0, 1, 2, 3, 4] rfl rfl) (fun w' hw' => (Y_buildS (zs := [.int .i64 0, .int .i64 0]) (vs := [(0, .int .i64 (bits .xor .i64 (bits .xor .i64 x1.Mask (shlK .i64 1 v_)) by_.Mask)), (1, .int .i64 (bits .xor .i64 x1.Turn by_.Turn))]) (cs := [.int .i64 (bits .xor .i64 (bits .xor .i64 x1.Mask (shlK .i64 1 v_)) by_.Mask), .int .i64 (bits .xor .i64 x1.Turn by_.Turn)]) k_pl_44 k_zero_44 rfl (mpc rfl (mpc rfl mpn)) rfl)) ?_
                refine ra_all (rs := [14]) (by kernel_rfl) rfl ?_
                refine ra_s0 (i := 14) rfl rfl rfl (Ys_store (i := 5) (s := 2) (B := some ⟨b5, 0, none⟩) (T' := 44) (v := .agg #[.int .i64 (bits .xor .i64 (bits .xor .i64 x1.Mask (shlK .i64 1 v_)) by_.Mask), .int .i64 (bits .xor .i64 x1.Turn by_.Turn)]) (vs := [.int .i64 (bits .xor .i64 (bits .xor .i64 x1.Mask (shlK .i64 1 v_)) by_.Mask), .int .i64 (bits .xor .i64 x1.Turn by_.Turn)]) (k := 0) (cs' := [.int .i64 (bits .xor .i64 (bits .xor .i64 x1.Mask (shlK .i64 1 v_)) by_.Mask), .int .i64 (bits .xor .i64 x1.Turn by_.Turn)]) hS33 k_sz_44_2 rfl rfl rfl rfl rfl rfl rfl (Nat.le_of_ble_eq_true rfl) rfl rfl) ?_ ?_
                · rintro _ w_21 ⟨rfl, hS34⟩
                  have hS34 : ST w0 [] _ [⟨some ⟨b1, 0, none⟩, 44, [.int .i64 by_.Mask, .int .i64 by_.Turn], 2⟩, ⟨some ⟨b2, 0, none⟩, 30, [.int .i64 0, .int .i64 0, .int .i64 0, .int .i64 0, .slice none 0 0, .slice none 0 0], 6⟩, ⟨some ⟨b4, 0, none⟩, 30, [.int .i64 p.Ins, .int .i64 p.Vars, .int .i64 p.Root, .int .i64 (mgt poly 0 0), .slice B5 r_1.length c5, .slice B6 Out.length c6], 6⟩, ⟨B5, 56, (r_1.flatMap enc_Term), c5 * 2⟩, ⟨B6, 44, (Out.flatMap enc_Affine), c6 * 2⟩, ⟨some ⟨b5, 0, none⟩, 44, [.int .i64 (bits .xor .i64 (bits .xor .i64 x1.Mask (shlK .i64 1 v_)) by_.Mask), .int .i64 (bits .xor .i64 x1.Turn by_.Turn)], 2⟩] [⟨B, (p.Terms.flatMap enc_Term)⟩, ⟨B1, (p.Out.flatMap enc_Affine)⟩] := hS34
                  refine ⟨(ST.sel hS34 [0, 1, 2, 3, 4] rfl rfl), ?_⟩
                  refine ra_done (by kernel_rfl) ?_
                  exact ⟨(FF.cons (hf3.get 1 0 rfl) (FF.cons (hf3.get 5 1 rfl) (FF.cons (hf3.get 6 2 rfl) (FF.cons (hf3.get 10 3 rfl) (FF.cons rfl (FF.cons (hf3.get 56 4 rfl) (FF.cons (hf3.get 57 5 rfl) (FF.cons (hf3.get 58 6 rfl) FF.nil)))))))), (hS34.sel [0, 1, 2, 3, 4, 5] rfl rfl)⟩
                exact allR_nil
              exact allR_nil
            refine ra_y 77 (i := 9) (v := .int .i64 x1.Turn) rfl rfl rfl (Y_load1 (B := some ⟨b5, 0, none⟩) (i := 1) (cs := [.int .i64 x1.Mask, .int .i64 x1.Turn]) (v := .int .i64 x1.Turn) k_sc_3 rfl rfl (hS33.cf (i := 5) rfl) rfl) (ST.sel hS33 [0, 1, 2, 3, 4] rfl rfl) ?_ ?_
            · skip
              refine ra_q 12 80 (v := .int .i64 (bits .xor .i64 x1.Turn by_.Turn)) rfl rfl rfl (by kernel_rfl) (by kernel_rfl) (by kernel_rfl) (ST.sel hS33 [0, 1, 2, 3, 4] rfl rfl) (fun w' hw' => (Y_bxor (k := .i64) (a := x1.Turn) (b := by_.Turn) rfl rfl rfl)) ?_
              refine ra_all (rs := [1]) (by kernel_rfl) rfl ?_
              refine ra_y 69 (i := 1) (v := .int .i64 x1.Mask) rfl rfl rfl (Y_load1 (B := some ⟨b5, 0, none⟩) (i := 0) (cs := [.int .i64 x1.Mask, .int .i64 x1.Turn]) (v := .int .i64 x1.Mask) k_sc_3 rfl rfl (hS33.cf (i := 5) rfl) rfl) (ST.sel hS33 [0, 1, 2, 3, 4] rfl rfl) ?_ ?_
              · skip
                refine ra_q 4 72 (v := .int .i64 (bits .xor .i64 x1.Mask (shlK .i64 1 v_))) rfl rfl rfl (by kernel_rfl) (by kernel_rfl) (by kernel_rfl) (ST.sel hS33 [0, 1, 2, 3, 4] rfl rfl) (fun w' hw' => (Y_bxor (k := .i64) (a := x1.Mask) (b := (shlK .i64 1 v_)) rfl rfl rfl)) ?_
                refine ra_q 7 75 (v := .int .i64 (bits .xor .i64 (bits .xor .i64 x1.Mask (shlK .i64 1 v_)) by_.Mask)) rfl rfl rfl (by kernel_rfl) (by kernel_rfl) (by kernel_rfl) (ST.sel hS33 [0, 1, 2, 3, 4] rfl rfl) (fun w' hw' => (Y_bxor (k := .i64) (a := (bits .xor .i64 x1.Mask (shlK .i64 1 v_))) (b := by_.Mask) rfl rfl rfl)) ?_
                refine ra_q 13 81 (v := .agg #[.int .i64 (bits .xor .i64 (bits .xor .i64 x1.Mask (shlK .i64 1 v_)) by_.Mask), .int .i64 (bits .xor .i64 x1.Turn by_.Turn)]) rfl rfl rfl (by kernel_rfl) (by kernel_rfl) (by kernel_rfl) (ST.sel hS33 [0, 1, 2, 3, 4] rfl rfl) (fun w' hw' => (Y_buildS (zs := [.int .i64 0, .int .i64 0]) (vs := [(0, .int .i64 (bits .xor .i64 (bits .xor .i64 x1.Mask (shlK .i64 1 v_)) by_.Mask)), (1, .int .i64 (bits .xor .i64 x1.Turn by_.Turn))]) (cs := [.int .i64 (bits .xor .i64 (bits .xor .i64 x1.Mask (shlK .i64 1 v_)) by_.Mask), .int .i64 (bits .xor .i64 x1.Turn by_.Turn)]) k_pl_44 k_zero_44 rfl (mpc rfl (mpc rfl mpn)) rfl)) ?_
                refine ra_all (rs := [14]) (by kernel_rfl) rfl ?_
                refine ra_s0 (i := 14) rfl rfl rfl (Ys_store (i := 5) (s := 2) (B := some ⟨b5, 0, none⟩) (T' := 44) (v := .agg #[.int .i64 (bits .xor .i64 (bits .xor .i64 x1.Mask (shlK .i64 1 v_)) by_.Mask), .int .i64 (bits .xor .i64 x1.Turn by_.Turn)]) (vs := [.int .i64 (bits .xor .i64 (bits .xor .i64 x1.Mask (shlK .i64 1 v_)) by_.Mask), .int .i64 (bits .xor .i64 x1.Turn by_.Turn)]) (k := 0) (cs' := [.int .i64 (bits .xor .i64 (bits .xor .i64 x1.Mask (shlK .i64 1 v_)) by_.Mask), .int .i64 (bits .xor .i64 x1.Turn by_.Turn)]) hS33 k_sz_44_2 rfl rfl rfl rfl rfl rfl rfl (Nat.le_of_ble_eq_true rfl) rfl rfl) ?_ ?_
                · rintro _ w_22 ⟨rfl, hS35⟩
                  have hS35 : ST w0 [] _ [⟨some ⟨b1, 0, none⟩, 44, [.int .i64 by_.Mask, .int .i64 by_.Turn], 2⟩, ⟨some ⟨b2, 0, none⟩, 30, [.int .i64 0, .int .i64 0, .int .i64 0, .int .i64 0, .slice none 0 0, .slice none 0 0], 6⟩, ⟨some ⟨b4, 0, none⟩, 30, [.int .i64 p.Ins, .int .i64 p.Vars, .int .i64 p.Root, .int .i64 (mgt poly 0 0), .slice B5 r_1.length c5, .slice B6 Out.length c6], 6⟩, ⟨B5, 56, (r_1.flatMap enc_Term), c5 * 2⟩, ⟨B6, 44, (Out.flatMap enc_Affine), c6 * 2⟩, ⟨some ⟨b5, 0, none⟩, 44, [.int .i64 (bits .xor .i64 (bits .xor .i64 x1.Mask (shlK .i64 1 v_)) by_.Mask), .int .i64 (bits .xor .i64 x1.Turn by_.Turn)], 2⟩] [⟨B, (p.Terms.flatMap enc_Term)⟩, ⟨B1, (p.Out.flatMap enc_Affine)⟩] := hS35
                  refine ⟨(ST.sel hS35 [0, 1, 2, 3, 4] rfl rfl), ?_⟩
                  refine ra_done (by kernel_rfl) ?_
                  exact ⟨(FF.cons (hf3.get 1 0 rfl) (FF.cons (hf3.get 5 1 rfl) (FF.cons (hf3.get 6 2 rfl) (FF.cons (hf3.get 10 3 rfl) (FF.cons rfl (FF.cons (hf3.get 56 4 rfl) (FF.cons (hf3.get 57 5 rfl) (FF.cons (hf3.get 58 6 rfl) FF.nil)))))))), (hS35.sel [0, 1, 2, 3, 4, 5] rfl rfl)⟩
                exact allR_nil
              exact allR_nil
            exact allR_nil
          rintro f w ⟨hf5, hS32⟩
          exact ⟨(bits .xor .i64 (bits .xor .i64 x1.Mask (shlK .i64 1 v_)) by_.Mask), (bits .xor .i64 x1.Turn by_.Turn), (some_inj hF8), (FF.cons (hf5.get 1 0 rfl) (FF.cons (hf5.get 5 1 rfl) (FF.cons (hf5.get 6 2 rfl) (FF.cons (hf5.get 10 3 rfl) (FF.cons (hf5.get 12 4 rfl) (FF.cons (hf5.get 56 5 rfl) (FF.cons (hf5.get 57 6 rfl) (FF.cons (hf5.get 58 7 rfl) FF.nil)))))))), (hS32.sel [0, 1, 2, 3, 4, 5] rfl rfl)⟩
        · skip
          have hF9 := cf' hz3 hb4
          refine cw_skip ?_
          exact ⟨x1.Mask, x1.Turn, (some_inj hF9), (FF.cons (hf3.get 1 0 rfl) (FF.cons (hf3.get 5 1 rfl) (FF.cons (hf3.get 6 2 rfl) (FF.cons (hf3.get 10 3 rfl) (FF.cons rfl (FF.cons (hf3.get 56 4 rfl) (FF.cons (hf3.get 57 5 rfl) (FF.cons (hf3.get 58 6 rfl) FF.nil)))))))), (hS30.sel [0, 1, 2, 3, 4, 5] rfl rfl)⟩
      rintro f w ⟨Mask, Turn, rfl, hf4, hS31⟩
      refine cw_region ?_
      refine sq 82 rfl rfl (Y_fieldAddr (B := some ⟨b4, 0, none⟩) (i := 0) (s := 0) k_fd_30_5_5_28 k_sz_28_1 rfl (hf4.get 10 3 rfl)) ?_
      refine sq 83 rfl rfl (Y_load1 (B := some ⟨b4, 0, none⟩) (i := 5) (cs := [.int .i64 p.Ins, .int .i64 p.Vars, .int .i64 p.Root, .int .i64 (mgt poly 0 0), .slice B5 r_1.length c5, .slice B6 Out.length c6]) (v := .slice B6 Out.length c6) k_sc_28 rfl rfl (hS31.cf (i := 2) rfl) rfl) ?_
      refine sq 84 rfl rfl (Y_loadA (B := some ⟨b5, 0, none⟩) (i := 0) (cs := [.int .i64 Mask, .int .i64 Turn]) (vs := [.int .i64 Mask, .int .i64 Turn]) k_ag_44 k_sz_44_2 rfl (hf4.get 12 4 rfl) (hS31.cf (i := 5) rfl) rfl rfl) ?_
      refine ss 85 rfl rfl (Ys_bslice (s := 2) (len := 1) (vs := [(0, .agg #[.int .i64 Mask, .int .i64 Turn])]) (cs := [.int .i64 Mask, .int .i64 Turn]) (zs := [.int .i64 0, .int .i64 0]) (m := 2) hS31 k_sl_28_44 k_sz_44_2 k_zc_44 rfl (mpc rfl mpn) rfl rfl rfl (by kernel_rfl) (by kernel_rfl) rfl) ?_
      rintro _ w_23 ⟨b6, rfl, hS36⟩
      have hS36 : ST w0 [] _ [⟨some ⟨b1, 0, none⟩, 44, [.int .i64 by_.Mask, .int .i64 by_.Turn], 2⟩, ⟨some ⟨b2, 0, none⟩, 30, [.int .i64 0, .int .i64 0, .int .i64 0, .int .i64 0, .slice none 0 0, .slice none 0 0], 6⟩, ⟨some ⟨b4, 0, none⟩, 30, [.int .i64 p.Ins, .int .i64 p.Vars, .int .i64 p.Root, .int .i64 (mgt poly 0 0), .slice B5 r_1.length c5, .slice B6 Out.length c6], 6⟩, ⟨B5, 56, (r_1.flatMap enc_Term), c5 * 2⟩, ⟨B6, 44, (Out.flatMap enc_Affine), c6 * 2⟩, ⟨some ⟨b5, 0, none⟩, 44, [.int .i64 Mask, .int .i64 Turn], 2⟩, ⟨some ⟨b6, 0, none⟩, 44, ([(TAffine.mk Mask Turn)].flatMap enc_Affine), 1 * 2⟩] [⟨B, (p.Terms.flatMap enc_Term)⟩, ⟨B1, (p.Out.flatMap enc_Affine)⟩] := hS36
      obtain ⟨hap, hF7⟩ := chk_inv hF7
      refine ss 86 rfl rfl (Ys_append (s := 2) (by' := 16) (i := 4) (nn := Out.length) (c := c6) (k := 1) (len := (Out ++ [(TAffine.mk Mask Turn)]).length) (B := B6) (xs := ([(TAffine.mk Mask Turn)].flatMap enc_Affine)) (cs' := ((Out ++ [(TAffine.mk Mask Turn)]).flatMap enc_Affine)) hS36 k_sl_28_44 k_sz_44_2 k_by_44_16 k_zero_44 rfl (by decide) rfl rfl rfl rfl (fm_lenn (l := Out) enc_Affine_len rfl) rfl (hS36.cf (i := 6) rfl) (fm_lenn (l := [(TAffine.mk Mask Turn)]) enc_Affine_len rfl) (fm_one' (enc := enc_Affine) enc_Affine_one [(TAffine.mk Mask Turn)]) (by have := hap; omega) (by have := hap; simp only [maxLen]; omega) (fm_app _ _) (app_len (l := Out) (l' := [(TAffine.mk Mask Turn)]) rfl rfl)) ?_
      rintro _ w_24 ⟨B7, c7, rfl, hS37⟩
      have hS37 : ST w0 [] _ [⟨some ⟨b1, 0, none⟩, 44, [.int .i64 by_.Mask, .int .i64 by_.Turn], 2⟩, ⟨some ⟨b2, 0, none⟩, 30, [.int .i64 0, .int .i64 0, .int .i64 0, .int .i64 0, .slice none 0 0, .slice none 0 0], 6⟩, ⟨some ⟨b4, 0, none⟩, 30, [.int .i64 p.Ins, .int .i64 p.Vars, .int .i64 p.Root, .int .i64 (mgt poly 0 0), .slice B5 r_1.length c5, .slice B6 Out.length c6], 6⟩, ⟨B5, 56, (r_1.flatMap enc_Term), c5 * 2⟩, ⟨B7, 44, ((Out ++ [(TAffine.mk Mask Turn)]).flatMap enc_Affine), c7 * 2⟩, ⟨some ⟨b5, 0, none⟩, 44, [.int .i64 Mask, .int .i64 Turn], 2⟩, ⟨some ⟨b6, 0, none⟩, 44, ([(TAffine.mk Mask Turn)].flatMap enc_Affine), 1 * 2⟩] [⟨B, (p.Terms.flatMap enc_Term)⟩, ⟨B1, (p.Out.flatMap enc_Affine)⟩] := hS37
      refine sq 87 rfl rfl (Y_fieldAddr (B := some ⟨b4, 0, none⟩) (i := 0) (s := 0) k_fd_30_5_5_28 k_sz_28_1 rfl (hf4.get 10 3 rfl)) ?_
      refine ss0 rfl rfl (Ys_store (i := 2) (s := 1) (B := some ⟨b4, 0, none⟩) (T' := 30) (v := .slice B7 ((Out ++ [(TAffine.mk Mask Turn)]).length) c7) (vs := [.slice B7 ((Out ++ [(TAffine.mk Mask Turn)]).length) c7]) (k := 5) (cs' := [.int .i64 p.Ins, .int .i64 p.Vars, .int .i64 p.Root, .int .i64 (mgt poly 0 0), .slice B5 r_1.length c5, .slice B7 ((Out ++ [(TAffine.mk Mask Turn)]).length) c7]) hS37 k_sz_28_1 rfl rfl rfl rfl rfl rfl rfl (Nat.le_of_ble_eq_true rfl) rfl rfl) ?_
      rintro _ w_25 ⟨rfl, hS38⟩
      have hS38 : ST w0 [] _ [⟨some ⟨b1, 0, none⟩, 44, [.int .i64 by_.Mask, .int .i64 by_.Turn], 2⟩, ⟨some ⟨b2, 0, none⟩, 30, [.int .i64 0, .int .i64 0, .int .i64 0, .int .i64 0, .slice none 0 0, .slice none 0 0], 6⟩, ⟨some ⟨b4, 0, none⟩, 30, [.int .i64 p.Ins, .int .i64 p.Vars, .int .i64 p.Root, .int .i64 (mgt poly 0 0), .slice B5 r_1.length c5, .slice B7 ((Out ++ [(TAffine.mk Mask Turn)]).length) c7], 6⟩, ⟨B5, 56, (r_1.flatMap enc_Term), c5 * 2⟩, ⟨B7, 44, ((Out ++ [(TAffine.mk Mask Turn)]).flatMap enc_Affine), c7 * 2⟩, ⟨some ⟨b5, 0, none⟩, 44, [.int .i64 Mask, .int .i64 Turn], 2⟩, ⟨some ⟨b6, 0, none⟩, 44, ([(TAffine.mk Mask Turn)].flatMap enc_Affine), 1 * 2⟩] [⟨B, (p.Terms.flatMap enc_Term)⟩, ⟨B1, (p.Out.flatMap enc_Affine)⟩] := hS38
      refine rw_nil ?_
      refine cw_region ?_
      refine sq 88 rfl rfl (Y_add (k := .i64) (a := t) (b := 1) rfl (hf4.get 58 7 rfl) rfl) ?_
      refine sq 58 rfl rfl (Y_move (v := .int .i64 (IntKind.i64.wrap (t + 1))) rfl rfl) ?_
      refine rw_nil ?_
      obtain rfl := some_inj hF7
      exact ⟨k_3, Nat.lt_succ_self _, (Out ++ [(TAffine.mk Mask Turn)]), (IntKind.i64.wrap (t + 1)), B7, c7, (FF.cons (hf4.get 1 0 rfl) (FF.cons (hf4.get 5 1 rfl) (FF.cons (hf4.get 6 2 rfl) (FF.cons (hf4.get 10 3 rfl) (FF.cons (hf4.get 56 5 rfl) (FF.cons (hf4.get 57 6 rfl) (FF.cons rfl FF.nil))))))), (hS38.sel [0, 1, 2, 3, 4] rfl rfl), hL3⟩
    · skip
      have hF10 := cf' hb2 hb3
      refine cw_exit rfl ?_
      obtain rfl := some_inj hF10
      obtain rfl := some_inj hL3
      refine cw_seq ?_
      refine cw_region ?_
      refine sq 89 rfl rfl (Y_loadA (B := some ⟨b4, 0, none⟩) (i := 0) (cs := [.int .i64 p.Ins, .int .i64 p.Vars, .int .i64 p.Root, .int .i64 (mgt poly 0 0), .slice B5 r_1.length c5, .slice B6 Out.length c6]) (vs := [.int .i64 p.Ins, .int .i64 p.Vars, .int .i64 p.Root, .int .i64 (mgt poly 0 0), .slice B5 r_1.length c5, .slice B6 Out.length c6]) k_ag_30 k_sz_30_6 rfl (hf3.get 10 3 rfl) (hS27.cf (i := 2) rfl) rfl rfl) ?_
      refine sq 90 rfl rfl (Y_move (v := .int .i64 v_) rfl (hf3.get 1 0 rfl)) ?_
      obtain ⟨r_2, hc3, hF5⟩ := bind_inv hF5
      refine sc 91 rfl rfl (Yc_func (g := 51) (vs := [.agg #[.int .i64 p.Ins, .int .i64 p.Vars, .int .i64 p.Root, .int .i64 (mgt poly 0 0), .slice B5 r_1.length c5, .slice B6 Out.length c6], .int .i64 v_]) k_call_51 rfl (mc rfl (mc rfl mn)) (c_impl_PathSum_without (TPathSum.mk p.Ins p.Vars p.Root (mgt poly 0 0) r_1 Out) v_ B5 c5 r_1.length B6 c6 Out.length _ rfl rfl (hS27.inn0 [(false, 3), (false, 4)] rfl) hc3)) ?_
      rintro _ w_26 ⟨B8, c8, B9, c9, rfl, hd4⟩
      have hS39 := hS27.out0 hd4
      have hS39 : ST w0 [] _ [⟨some ⟨b1, 0, none⟩, 44, [.int .i64 by_.Mask, .int .i64 by_.Turn], 2⟩, ⟨some ⟨b2, 0, none⟩, 30, [.int .i64 0, .int .i64 0, .int .i64 0, .int .i64 0, .slice none 0 0, .slice none 0 0], 6⟩, ⟨some ⟨b4, 0, none⟩, 30, [.int .i64 p.Ins, .int .i64 p.Vars, .int .i64 p.Root, .int .i64 (mgt poly 0 0), .slice B5 r_1.length c5, .slice B6 Out.length c6], 6⟩, ⟨B5, 56, (r_1.flatMap enc_Term), c5 * 2⟩, ⟨B6, 44, (Out.flatMap enc_Affine), c6 * 2⟩, ⟨B8, 56, (r_2.Terms.flatMap enc_Term), c8 * 2⟩, ⟨B9, 44, (r_2.Out.flatMap enc_Affine), c9 * 2⟩] [⟨B, (p.Terms.flatMap enc_Term)⟩, ⟨B1, (p.Out.flatMap enc_Affine)⟩] := hS39
      refine ss0 rfl rfl (Ys_store (i := 1) (s := 6) (B := some ⟨b2, 0, none⟩) (T' := 30) (v := .agg #[.int .i64 r_2.Ins, .int .i64 r_2.Vars, .int .i64 r_2.Root, .int .i64 r_2.Phase, .slice B8 r_2.Terms.length c8, .slice B9 r_2.Out.length c9]) (vs := [.int .i64 r_2.Ins, .int .i64 r_2.Vars, .int .i64 r_2.Root, .int .i64 r_2.Phase, .slice B8 r_2.Terms.length c8, .slice B9 r_2.Out.length c9]) (k := 0) (cs' := [.int .i64 r_2.Ins, .int .i64 r_2.Vars, .int .i64 r_2.Root, .int .i64 r_2.Phase, .slice B8 r_2.Terms.length c8, .slice B9 r_2.Out.length c9]) hS39 k_sz_30_6 rfl (hf3.get 6 2 rfl) rfl rfl rfl rfl rfl (Nat.le_of_ble_eq_true rfl) rfl rfl) ?_
      rintro _ w_27 ⟨rfl, hS40⟩
      have hS40 : ST w0 [] _ [⟨some ⟨b1, 0, none⟩, 44, [.int .i64 by_.Mask, .int .i64 by_.Turn], 2⟩, ⟨some ⟨b2, 0, none⟩, 30, [.int .i64 r_2.Ins, .int .i64 r_2.Vars, .int .i64 r_2.Root, .int .i64 r_2.Phase, .slice B8 r_2.Terms.length c8, .slice B9 r_2.Out.length c9], 6⟩, ⟨some ⟨b4, 0, none⟩, 30, [.int .i64 p.Ins, .int .i64 p.Vars, .int .i64 p.Root, .int .i64 (mgt poly 0 0), .slice B5 r_1.length c5, .slice B6 Out.length c6], 6⟩, ⟨B5, 56, (r_1.flatMap enc_Term), c5 * 2⟩, ⟨B6, 44, (Out.flatMap enc_Affine), c6 * 2⟩, ⟨B8, 56, (r_2.Terms.flatMap enc_Term), c8 * 2⟩, ⟨B9, 44, (r_2.Out.flatMap enc_Affine), c9 * 2⟩] [⟨B, (p.Terms.flatMap enc_Term)⟩, ⟨B1, (p.Out.flatMap enc_Affine)⟩] := hS40
      refine rw_nil ?_
      refine cw_ret ?_
      obtain rfl := some_inj hF5
      exact ret1 Tryd.results54 (v1 := .agg #[.int .i64 r_2.Ins, .int .i64 r_2.Vars, .int .i64 r_2.Root, .int .i64 r_2.Phase, .slice B8 r_2.Terms.length c8, .slice B9 r_2.Out.length c9]) (resAt_cellA (B := some ⟨b2, 0, none⟩) (i := 0) (cs := [.int .i64 r_2.Ins, .int .i64 r_2.Vars, .int .i64 r_2.Root, .int .i64 r_2.Phase, .slice B8 r_2.Terms.length c8, .slice B9 r_2.Out.length c9]) (vs := [.int .i64 r_2.Ins, .int .i64 r_2.Vars, .int .i64 r_2.Root, .int .i64 r_2.Phase, .slice B8 r_2.Terms.length c8, .slice B9 r_2.Out.length c9]) (hf3.get 6 2 rfl) k_ag_30 k_sz_30_6 (hS40.cf (i := 1) rfl) rfl rfl) ⟨B8, c8, B9, c9, rfl, (ST.subR (R' := []) (hS40.sel [5, 6] rfl rfl) (fun _ h => by cases h))⟩

theorem c_impl_PathSum_ruled (p : TPathSum) (y : Int) (B : Option Addr) (c n : Nat) (B1 : Option Addr) (c1 n1 : Nat) (w0 : World) (hn : p.Terms.length = n) (hn1 : p.Out.length = n1) (hS : ST w0 [] w0 [] [⟨B, (p.Terms.flatMap enc_Term)⟩, ⟨B1, (p.Out.flatMap enc_Affine)⟩, ⟨(some ⟨0, 0, none⟩), (gl0.flatMap enc_u8)⟩, ⟨(some ⟨1, 0, none⟩), (gl1.flatMap enc_u8)⟩]) {r_ : TPathSum} {r_1 : Int} (hF : F_impl_PathSum_ruled p y = some (r_, r_1)) :
    CV Tryd.prog 23 #[.agg #[.int .i64 p.Ins, .int .i64 p.Vars, .int .i64 p.Root, .int .i64 p.Phase, .slice B n c, .slice B1 n1 c1], .int .i64 y] w0 (fun v w' => ∃ (B2 : Option Addr) (c2 : Nat) (B3 : Option Addr) (c3 : Nat), v = .tuple #[.agg #[.int .i64 r_.Ins, .int .i64 r_.Vars, .int .i64 r_.Root, .int .i64 r_.Phase, .slice B2 r_.Terms.length c2, .slice B3 r_.Out.length c3], .int .i64 r_1] ∧ ST w0 [] w' [⟨B2, 56, (r_.Terms.flatMap enc_Term), c2 * 2⟩, ⟨B3, 44, (r_.Out.flatMap enc_Affine), c3 * 2⟩] []) := by
  subst hn
  subst hn1
  unfold F_impl_PathSum_ruled at hF
  refine cv_of_cw 108 Tryd.func23 rfl Tryd.ntmps23 rfl ?_
  refine cw_seq ?_
  refine cw_region ?_
  refine ss 2 rfl rfl (Ys_box (T := 30) (v := .agg #[.int .i64 p.Ins, .int .i64 p.Vars, .int .i64 p.Root, .int .i64 p.Phase, .slice B p.Terms.length c, .slice B1 p.Out.length c1]) (cs := [.int .i64 p.Ins, .int .i64 p.Vars, .int .i64 p.Root, .int .i64 p.Phase, .slice B p.Terms.length c, .slice B1 p.Out.length c1]) (m := 6) hS rfl rfl rfl rfl) ?_
  rintro _ w_ ⟨b, rfl, hS1⟩
  refine ss 4 rfl rfl (Ys_alloc (T := 30) (cs := [.int .i64 0, .int .i64 0, .int .i64 0, .int .i64 0, .slice none 0 0, .slice none 0 0]) (m := 6) hS1 k_zero_30 rfl rfl rfl) ?_
  rintro _ w_1 ⟨b1, rfl, hS2⟩
  have hS2 : ST w0 [] _ [⟨some ⟨b, 0, none⟩, 30, [.int .i64 p.Ins, .int .i64 p.Vars, .int .i64 p.Root, .int .i64 p.Phase, .slice B p.Terms.length c, .slice B1 p.Out.length c1], 6⟩, ⟨some ⟨b1, 0, none⟩, 30, [.int .i64 0, .int .i64 0, .int .i64 0, .int .i64 0, .slice none 0 0, .slice none 0 0], 6⟩] [⟨B, (p.Terms.flatMap enc_Term)⟩, ⟨B1, (p.Out.flatMap enc_Affine)⟩, ⟨(some ⟨0, 0, none⟩), (gl0.flatMap enc_u8)⟩, ⟨(some ⟨1, 0, none⟩), (gl1.flatMap enc_u8)⟩] := hS2
  refine sq 5 rfl rfl (Y_assign (v := .int .i64 0) rfl rfl) ?_
  refine rw_nil ?_
  refine cw_seq ?_
  refine cw_region ?_
  refine sq 16 rfl rfl (Y_loadA (B := some ⟨b, 0, none⟩) (i := 0) (cs := [.int .i64 p.Ins, .int .i64 p.Vars, .int .i64 p.Root, .int .i64 p.Phase, .slice B p.Terms.length c, .slice B1 p.Out.length c1]) (vs := [.int .i64 p.Ins, .int .i64 p.Vars, .int .i64 p.Root, .int .i64 p.Phase, .slice B p.Terms.length c, .slice B1 p.Out.length c1]) k_ag_30 k_sz_30_6 rfl rfl (hS2.cf (i := 0) rfl) rfl rfl) ?_
  refine sq 17 rfl rfl (Y_move (v := .int .i64 y) rfl rfl) ?_
  obtain ⟨⟨r_2, r_3, r_4, r_5⟩, hc, hF⟩ := bind_inv hF
  refine sc 18 rfl rfl (Yc_func (g := 49) (vs := [.agg #[.int .i64 p.Ins, .int .i64 p.Vars, .int .i64 p.Root, .int .i64 p.Phase, .slice B p.Terms.length c, .slice B1 p.Out.length c1], .int .i64 y]) k_call_49 rfl (mc rfl (mc rfl mn)) (c_impl_PathSum_around p y B c p.Terms.length B1 c1 p.Out.length _ rfl rfl (hS2.inn0 [(true, 0), (true, 1)] rfl) hc)) ?_
  rintro _ w_2 ⟨rfl, hd⟩
  have hS3 := hS2.out00 hd
  have hS3 : ST w0 [] _ [⟨some ⟨b, 0, none⟩, 30, [.int .i64 p.Ins, .int .i64 p.Vars, .int .i64 p.Root, .int .i64 p.Phase, .slice B p.Terms.length c, .slice B1 p.Out.length c1], 6⟩, ⟨some ⟨b1, 0, none⟩, 30, [.int .i64 0, .int .i64 0, .int .i64 0, .int .i64 0, .slice none 0 0, .slice none 0 0], 6⟩] [⟨B, (p.Terms.flatMap enc_Term)⟩, ⟨B1, (p.Out.flatMap enc_Affine)⟩, ⟨(some ⟨0, 0, none⟩), (gl0.flatMap enc_u8)⟩, ⟨(some ⟨1, 0, none⟩), (gl1.flatMap enc_u8)⟩] := hS3
  refine sq 15 rfl rfl (Y_move (v := .tuple #[.int .i64 r_2, .int .i64 r_3, .bool r_4, .bool r_5]) rfl rfl) ?_
  refine sq 19 rfl rfl (Y_extract (v := .int .i64 r_2) rfl rfl rfl) ?_
  refine sq 20 rfl rfl (Y_extract (v := .int .i64 r_3) rfl rfl rfl) ?_
  refine sq 21 rfl rfl (Y_extract (v := .bool r_4) rfl rfl rfl) ?_
  refine sq 22 rfl rfl (Y_extract (v := .bool r_5) rfl rfl rfl) ?_
  refine sq 6 rfl rfl (Y_assign (v := .int .i64 r_2) rfl rfl) ?_
  refine sq 7 rfl rfl (Y_assign (v := .int .i64 r_3) rfl rfl) ?_
  refine sq 8 rfl rfl (Y_assign (v := .bool r_4) rfl rfl) ?_
  refine sq 9 rfl rfl (Y_assign (v := .bool r_5) rfl rfl) ?_
  refine rw_nil ?_
  refine cw_seq ?_
  refine cw_region ?_
  refine sq 23 rfl rfl (Y_move (v := .int .i64 r_3) rfl rfl) ?_
  refine sq 24 rfl rfl (Y_fieldAddr (B := some ⟨b, 0, none⟩) (i := 0) (s := 0) k_fd_30_0_0_3 k_sz_3_1 rfl rfl) ?_
  refine sq 25 rfl rfl (Y_load1 (B := some ⟨b, 0, none⟩) (i := 0) (cs := [.int .i64 p.Ins, .int .i64 p.Vars, .int .i64 p.Root, .int .i64 p.Phase, .slice B p.Terms.length c, .slice B1 p.Out.length c1]) (v := .int .i64 p.Ins) k_sc_3 rfl rfl (hS3.cf (i := 0) rfl) rfl) ?_
  obtain ⟨hsh, hF⟩ := chk_inv hF
  refine sq 26 rfl rfl (Y_shl (k := .i64) (a := 1) (k' := .i64) (b := p.Ins) rfl rfl rfl hsh) ?_
  refine sq 27 rfl rfl (Y_sub (k := .i64) (a := (shlK .i64 1 p.Ins)) (b := 1) rfl rfl rfl) ?_
  refine sq 28 rfl rfl (Y_bandNot (k := .i64) (a := r_3) (b := (IntKind.i64.wrap ((shlK .i64 1 p.Ins) - 1))) rfl rfl rfl) ?_
  refine sq 29 rfl rfl (Y_conv (k := .i64) (a := (bits .andNot .i64 r_3 (IntKind.i64.wrap ((shlK .i64 1 p.Ins) - 1)))) (T := 3) (T' := 59) k_us_3 k_int_59_u64 rfl rfl) ?_
  obtain ⟨r_6, hc1, hF⟩ := bind_inv hF
  refine sc 30 rfl rfl (Yc_func (g := 50) (vs := [.int .u64 (IntKind.u64.wrap (bits .andNot .i64 r_3 (IntKind.i64.wrap ((shlK .i64 1 p.Ins) - 1))))]) k_call_50 rfl (mc rfl mn) (c_math_bits_TrailingZeros (IntKind.u64.wrap (bits .andNot .i64 r_3 (IntKind.i64.wrap ((shlK .i64 1 p.Ins) - 1)))) _  (hS3.inn0 [(true, 2), (true, 3)] rfl) hc1)) ?_
  rintro _ w_3 ⟨rfl, hd1⟩
  have hS4 := hS3.out00 hd1
  have hS4 : ST w0 [] _ [⟨some ⟨b, 0, none⟩, 30, [.int .i64 p.Ins, .int .i64 p.Vars, .int .i64 p.Root, .int .i64 p.Phase, .slice B p.Terms.length c, .slice B1 p.Out.length c1], 6⟩, ⟨some ⟨b1, 0, none⟩, 30, [.int .i64 0, .int .i64 0, .int .i64 0, .int .i64 0, .slice none 0 0, .slice none 0 0], 6⟩] [⟨B, (p.Terms.flatMap enc_Term)⟩, ⟨B1, (p.Out.flatMap enc_Affine)⟩, ⟨(some ⟨0, 0, none⟩), (gl0.flatMap enc_u8)⟩, ⟨(some ⟨1, 0, none⟩), (gl1.flatMap enc_u8)⟩] := hS4
  refine sq 10 rfl rfl (Y_assign (v := .int .i64 r_6) rfl rfl) ?_
  refine rw_nil ?_
  refine cw_seq ?_
  refine cw_block ?_
  refine cw_seq ?_
  refine cw_region ?_
  refine sq 32 rfl rfl (Y_move (v := .bool r_4) rfl rfl) ?_
  refine sq 33 rfl rfl (Y_not (p := r_4) rfl rfl) ?_
  refine sq 31 rfl rfl (Y_assign (v := .bool (!r_4)) rfl rfl) ?_
  refine rw_nil ?_
  refine cw_cond (b := (!r_4)) rfl (fun hb => ?_) (fun hb => ?_)
  · skip
    have hF1 := ct hF hb
    refine cw_seq ?_
    refine cw_region ?_
    refine sq 34 rfl rfl (Y_loadA (B := some ⟨b, 0, none⟩) (i := 0) (cs := [.int .i64 p.Ins, .int .i64 p.Vars, .int .i64 p.Root, .int .i64 p.Phase, .slice B p.Terms.length c, .slice B1 p.Out.length c1]) (vs := [.int .i64 p.Ins, .int .i64 p.Vars, .int .i64 p.Root, .int .i64 p.Phase, .slice B p.Terms.length c, .slice B1 p.Out.length c1]) k_ag_30 k_sz_30_6 rfl rfl (hS4.cf (i := 0) rfl) rfl rfl) ?_
    refine sq 35 rfl rfl (Y_move (v := .int .i64 y) rfl rfl) ?_
    obtain ⟨r_7, hc2, hF1⟩ := bind_inv hF1
    refine sc 36 rfl rfl (Yc_func (g := 51) (vs := [.agg #[.int .i64 p.Ins, .int .i64 p.Vars, .int .i64 p.Root, .int .i64 p.Phase, .slice B p.Terms.length c, .slice B1 p.Out.length c1], .int .i64 y]) k_call_51 rfl (mc rfl (mc rfl mn)) (c_impl_PathSum_without p y B c p.Terms.length B1 c1 p.Out.length _ rfl rfl (hS4.inn0 [(true, 0), (true, 1)] rfl) hc2)) ?_
    rintro _ w_4 ⟨B4, c4, B5, c5, rfl, hd2⟩
    have hS5 := hS4.out0 hd2
    have hS5 : ST w0 [] _ [⟨some ⟨b, 0, none⟩, 30, [.int .i64 p.Ins, .int .i64 p.Vars, .int .i64 p.Root, .int .i64 p.Phase, .slice B p.Terms.length c, .slice B1 p.Out.length c1], 6⟩, ⟨some ⟨b1, 0, none⟩, 30, [.int .i64 0, .int .i64 0, .int .i64 0, .int .i64 0, .slice none 0 0, .slice none 0 0], 6⟩, ⟨B4, 56, (r_7.Terms.flatMap enc_Term), c4 * 2⟩, ⟨B5, 44, (r_7.Out.flatMap enc_Affine), c5 * 2⟩] [⟨B, (p.Terms.flatMap enc_Term)⟩, ⟨B1, (p.Out.flatMap enc_Affine)⟩, ⟨(some ⟨0, 0, none⟩), (gl0.flatMap enc_u8)⟩, ⟨(some ⟨1, 0, none⟩), (gl1.flatMap enc_u8)⟩] := hS5
    refine ss 11 rfl rfl (Ys_alloc (T := 30) (cs := [.int .i64 0, .int .i64 0, .int .i64 0, .int .i64 0, .slice none 0 0, .slice none 0 0]) (m := 6) hS5 k_zero_30 rfl rfl rfl) ?_
    rintro _ w_5 ⟨b2, rfl, hS6⟩
    have hS6 : ST w0 [] _ [⟨some ⟨b, 0, none⟩, 30, [.int .i64 p.Ins, .int .i64 p.Vars, .int .i64 p.Root, .int .i64 p.Phase, .slice B p.Terms.length c, .slice B1 p.Out.length c1], 6⟩, ⟨some ⟨b1, 0, none⟩, 30, [.int .i64 0, .int .i64 0, .int .i64 0, .int .i64 0, .slice none 0 0, .slice none 0 0], 6⟩, ⟨B4, 56, (r_7.Terms.flatMap enc_Term), c4 * 2⟩, ⟨B5, 44, (r_7.Out.flatMap enc_Affine), c5 * 2⟩, ⟨some ⟨b2, 0, none⟩, 30, [.int .i64 0, .int .i64 0, .int .i64 0, .int .i64 0, .slice none 0 0, .slice none 0 0], 6⟩] [⟨B, (p.Terms.flatMap enc_Term)⟩, ⟨B1, (p.Out.flatMap enc_Affine)⟩, ⟨(some ⟨0, 0, none⟩), (gl0.flatMap enc_u8)⟩, ⟨(some ⟨1, 0, none⟩), (gl1.flatMap enc_u8)⟩] := hS6
    refine ss0 rfl rfl (Ys_store (i := 4) (s := 6) (B := some ⟨b2, 0, none⟩) (T' := 30) (v := .agg #[.int .i64 r_7.Ins, .int .i64 r_7.Vars, .int .i64 r_7.Root, .int .i64 r_7.Phase, .slice B4 r_7.Terms.length c4, .slice B5 r_7.Out.length c5]) (vs := [.int .i64 r_7.Ins, .int .i64 r_7.Vars, .int .i64 r_7.Root, .int .i64 r_7.Phase, .slice B4 r_7.Terms.length c4, .slice B5 r_7.Out.length c5]) (k := 0) (cs' := [.int .i64 r_7.Ins, .int .i64 r_7.Vars, .int .i64 r_7.Root, .int .i64 r_7.Phase, .slice B4 r_7.Terms.length c4, .slice B5 r_7.Out.length c5]) hS6 k_sz_30_6 rfl rfl rfl rfl rfl rfl rfl (Nat.le_of_ble_eq_true rfl) rfl rfl) ?_
    rintro _ w_6 ⟨rfl, hS7⟩
    have hS7 : ST w0 [] _ [⟨some ⟨b, 0, none⟩, 30, [.int .i64 p.Ins, .int .i64 p.Vars, .int .i64 p.Root, .int .i64 p.Phase, .slice B p.Terms.length c, .slice B1 p.Out.length c1], 6⟩, ⟨some ⟨b1, 0, none⟩, 30, [.int .i64 0, .int .i64 0, .int .i64 0, .int .i64 0, .slice none 0 0, .slice none 0 0], 6⟩, ⟨B4, 56, (r_7.Terms.flatMap enc_Term), c4 * 2⟩, ⟨B5, 44, (r_7.Out.flatMap enc_Affine), c5 * 2⟩, ⟨some ⟨b2, 0, none⟩, 30, [.int .i64 r_7.Ins, .int .i64 r_7.Vars, .int .i64 r_7.Root, .int .i64 r_7.Phase, .slice B4 r_7.Terms.length c4, .slice B5 r_7.Out.length c5], 6⟩] [⟨B, (p.Terms.flatMap enc_Term)⟩, ⟨B1, (p.Out.flatMap enc_Affine)⟩, ⟨(some ⟨0, 0, none⟩), (gl0.flatMap enc_u8)⟩, ⟨(some ⟨1, 0, none⟩), (gl1.flatMap enc_u8)⟩] := hS7
    refine rw_nil ?_
    refine cw_seq ?_
    refine cw_region ?_
    refine sq 37 rfl rfl (Y_fieldAddr (B := some ⟨b2, 0, none⟩) (i := 0) (s := 0) k_fd_30_2_2_3 k_sz_3_1 rfl rfl) ?_
    refine sq 38 rfl rfl (Y_load1 (B := some ⟨b2, 0, none⟩) (i := 2) (cs := [.int .i64 r_7.Ins, .int .i64 r_7.Vars, .int .i64 r_7.Root, .int .i64 r_7.Phase, .slice B4 r_7.Terms.length c4, .slice B5 r_7.Out.length c5]) (v := .int .i64 r_7.Root) k_sc_3 rfl rfl (hS7.cf (i := 4) rfl) rfl) ?_
    refine sq 39 rfl rfl (Y_sub (k := .i64) (a := r_7.Root) (b := 2) rfl rfl rfl) ?_
    refine sq 40 rfl rfl (Y_fieldAddr (B := some ⟨b2, 0, none⟩) (i := 0) (s := 0) k_fd_30_2_2_3 k_sz_3_1 rfl rfl) ?_
    refine ss0 rfl rfl (Ys_store (i := 4) (s := 1) (B := some ⟨b2, 0, none⟩) (T' := 30) (v := .int .i64 (IntKind.i64.wrap (r_7.Root - 2))) (vs := [.int .i64 (IntKind.i64.wrap (r_7.Root - 2))]) (k := 2) (cs' := [.int .i64 r_7.Ins, .int .i64 r_7.Vars, .int .i64 (IntKind.i64.wrap (r_7.Root - 2)), .int .i64 r_7.Phase, .slice B4 r_7.Terms.length c4, .slice B5 r_7.Out.length c5]) hS7 k_sz_3_1 rfl rfl rfl rfl rfl rfl rfl (Nat.le_of_ble_eq_true rfl) rfl rfl) ?_
    rintro _ w_7 ⟨rfl, hS8⟩
    have hS8 : ST w0 [] _ [⟨some ⟨b, 0, none⟩, 30, [.int .i64 p.Ins, .int .i64 p.Vars, .int .i64 p.Root, .int .i64 p.Phase, .slice B p.Terms.length c, .slice B1 p.Out.length c1], 6⟩, ⟨some ⟨b1, 0, none⟩, 30, [.int .i64 0, .int .i64 0, .int .i64 0, .int .i64 0, .slice none 0 0, .slice none 0 0], 6⟩, ⟨B4, 56, (r_7.Terms.flatMap enc_Term), c4 * 2⟩, ⟨B5, 44, (r_7.Out.flatMap enc_Affine), c5 * 2⟩, ⟨some ⟨b2, 0, none⟩, 30, [.int .i64 r_7.Ins, .int .i64 r_7.Vars, .int .i64 (IntKind.i64.wrap (r_7.Root - 2)), .int .i64 r_7.Phase, .slice B4 r_7.Terms.length c4, .slice B5 r_7.Out.length c5], 6⟩] [⟨B, (p.Terms.flatMap enc_Term)⟩, ⟨B1, (p.Out.flatMap enc_Affine)⟩, ⟨(some ⟨0, 0, none⟩), (gl0.flatMap enc_u8)⟩, ⟨(some ⟨1, 0, none⟩), (gl1.flatMap enc_u8)⟩] := hS8
    refine rw_nil ?_
    refine cw_seq ?_
    refine cw_region ?_
    refine sq 41 rfl rfl (Y_loadA (B := some ⟨b2, 0, none⟩) (i := 0) (cs := [.int .i64 r_7.Ins, .int .i64 r_7.Vars, .int .i64 (IntKind.i64.wrap (r_7.Root - 2)), .int .i64 r_7.Phase, .slice B4 r_7.Terms.length c4, .slice B5 r_7.Out.length c5]) (vs := [.int .i64 r_7.Ins, .int .i64 r_7.Vars, .int .i64 (IntKind.i64.wrap (r_7.Root - 2)), .int .i64 r_7.Phase, .slice B4 r_7.Terms.length c4, .slice B5 r_7.Out.length c5]) k_ag_30 k_sz_30_6 rfl rfl (hS8.cf (i := 4) rfl) rfl rfl) ?_
    refine ss0 rfl rfl (Ys_store (i := 1) (s := 6) (B := some ⟨b1, 0, none⟩) (T' := 30) (v := .agg #[.int .i64 r_7.Ins, .int .i64 r_7.Vars, .int .i64 (IntKind.i64.wrap (r_7.Root - 2)), .int .i64 r_7.Phase, .slice B4 r_7.Terms.length c4, .slice B5 r_7.Out.length c5]) (vs := [.int .i64 r_7.Ins, .int .i64 r_7.Vars, .int .i64 (IntKind.i64.wrap (r_7.Root - 2)), .int .i64 r_7.Phase, .slice B4 r_7.Terms.length c4, .slice B5 r_7.Out.length c5]) (k := 0) (cs' := [.int .i64 r_7.Ins, .int .i64 r_7.Vars, .int .i64 (IntKind.i64.wrap (r_7.Root - 2)), .int .i64 r_7.Phase, .slice B4 r_7.Terms.length c4, .slice B5 r_7.Out.length c5]) hS8 k_sz_30_6 rfl rfl rfl rfl rfl rfl rfl (Nat.le_of_ble_eq_true rfl) rfl rfl) ?_
    rintro _ w_8 ⟨rfl, hS9⟩
    have hS9 : ST w0 [] _ [⟨some ⟨b, 0, none⟩, 30, [.int .i64 p.Ins, .int .i64 p.Vars, .int .i64 p.Root, .int .i64 p.Phase, .slice B p.Terms.length c, .slice B1 p.Out.length c1], 6⟩, ⟨some ⟨b1, 0, none⟩, 30, [.int .i64 r_7.Ins, .int .i64 r_7.Vars, .int .i64 (IntKind.i64.wrap (r_7.Root - 2)), .int .i64 r_7.Phase, .slice B4 r_7.Terms.length c4, .slice B5 r_7.Out.length c5], 6⟩, ⟨B4, 56, (r_7.Terms.flatMap enc_Term), c4 * 2⟩, ⟨B5, 44, (r_7.Out.flatMap enc_Affine), c5 * 2⟩, ⟨some ⟨b2, 0, none⟩, 30, [.int .i64 r_7.Ins, .int .i64 r_7.Vars, .int .i64 (IntKind.i64.wrap (r_7.Root - 2)), .int .i64 r_7.Phase, .slice B4 r_7.Terms.length c4, .slice B5 r_7.Out.length c5], 6⟩] [⟨B, (p.Terms.flatMap enc_Term)⟩, ⟨B1, (p.Out.flatMap enc_Affine)⟩, ⟨(some ⟨0, 0, none⟩), (gl0.flatMap enc_u8)⟩, ⟨(some ⟨1, 0, none⟩), (gl1.flatMap enc_u8)⟩] := hS9
    refine sq 5 rfl rfl (Y_assign (v := .int .i64 1) rfl rfl) ?_
    refine rw_nil ?_
    refine cw_ret ?_
    obtain ⟨rfl, rfl⟩ := pr2 (some_inj hF1)
    exact ret2 Tryd.results23 (v1 := .agg #[.int .i64 r_7.Ins, .int .i64 r_7.Vars, .int .i64 (IntKind.i64.wrap (r_7.Root - 2)), .int .i64 r_7.Phase, .slice B4 r_7.Terms.length c4, .slice B5 r_7.Out.length c5]) (resAt_cellA (B := some ⟨b1, 0, none⟩) (i := 0) (cs := [.int .i64 r_7.Ins, .int .i64 r_7.Vars, .int .i64 (IntKind.i64.wrap (r_7.Root - 2)), .int .i64 r_7.Phase, .slice B4 r_7.Terms.length c4, .slice B5 r_7.Out.length c5]) (vs := [.int .i64 r_7.Ins, .int .i64 r_7.Vars, .int .i64 (IntKind.i64.wrap (r_7.Root - 2)), .int .i64 r_7.Phase, .slice B4 r_7.Terms.length c4, .slice B5 r_7.Out.length c5]) rfl k_ag_30 k_sz_30_6 (hS9.cf (i := 1) rfl) rfl rfl) (v2 := .int .i64 1) (resAt_tmp rfl) ⟨B4, c4, B5, c5, rfl, (ST.subR (R' := []) (hS9.sel [2, 3] rfl rfl) (fun _ h => by cases h))⟩
  · skip
    have hF2 := cf' hF hb
    refine cw_seq ?_
    refine cw_region ?_
    refine sq 43 rfl rfl (Y_move (v := .bool r_5) rfl rfl) ?_
    refine sq 44 rfl rfl (Y_move (v := .bool r_5) rfl rfl) ?_
    refine sgq 45 (B := r_5) (v := .int .i64 r_2) rfl rfl (wt_t (gd_of (t := 44) (by kernel_rfl) rfl)) (fun hg => (Y_move (v := .int .i64 r_2) rfl rfl)) ?_
    refine sgq 46 (B := r_5) (v := .int .i64 (Int.tmod r_2 4)) rfl rfl (wt_t (gd_of (t := 44) (by kernel_rfl) rfl)) (fun hg1 => (Y_rem (k := .i64) (a := r_2) (b := 4) rfl (gv_of (B := r_5) (v := .int .i64 r_2) hg1) rfl (by decide))) ?_
    refine sgq 47 (B := r_5) (v := .bool ((Int.tmod r_2 4) == 2)) rfl rfl (wt_t (gd_of (t := 44) (by kernel_rfl) rfl)) (fun hg2 => (Y_eq (k := .i64) (a := (Int.tmod r_2 4)) (b := 2) rfl (gv_of (B := r_5) (v := .int .i64 (Int.tmod r_2 4)) hg2) rfl)) ?_
    refine sq 48 rfl rfl (Y_and (b := r_5) (z := ((Int.tmod r_2 4) == 2)) rfl rfl rfl rfl) ?_
    refine sq 42 rfl rfl (Y_assign (v := .bool (r_5 && ((Int.tmod r_2 4) == 2))) rfl rfl) ?_
    refine rw_nil ?_
    refine cw_cond (b := (r_5 && ((Int.tmod r_2 4) == 2))) rfl (fun hb1 => ?_) (fun hb1 => ?_)
    · skip
      have hF3 := ct hF2 hb1
      refine cw_seq ?_
      refine cw_region ?_
      refine sq 49 rfl rfl (Y_loadA (B := some ⟨b, 0, none⟩) (i := 0) (cs := [.int .i64 p.Ins, .int .i64 p.Vars, .int .i64 p.Root, .int .i64 p.Phase, .slice B p.Terms.length c, .slice B1 p.Out.length c1]) (vs := [.int .i64 p.Ins, .int .i64 p.Vars, .int .i64 p.Root, .int .i64 p.Phase, .slice B p.Terms.length c, .slice B1 p.Out.length c1]) k_ag_30 k_sz_30_6 rfl rfl (hS4.cf (i := 0) rfl) rfl rfl) ?_
      refine sq 50 rfl rfl (Y_move (v := .int .i64 y) rfl rfl) ?_
      refine sq 51 rfl rfl (Y_move (v := .int .i64 r_2) rfl rfl) ?_
      refine sq 52 rfl rfl (Y_sub (k := .i64) (a := 8) (b := r_2) rfl rfl rfl) ?_
      refine sq 53 rfl rfl (Y_move (v := .int .i64 r_3) rfl rfl) ?_
      obtain ⟨r_8, hc3, hF3⟩ := bind_inv hF3
      refine sc 54 rfl rfl (Yc_func (g := 52) (vs := [.agg #[.int .i64 p.Ins, .int .i64 p.Vars, .int .i64 p.Root, .int .i64 p.Phase, .slice B p.Terms.length c, .slice B1 p.Out.length c1], .int .i64 y, .int .i64 (IntKind.i64.wrap (8 - r_2)), .int .i64 r_3]) k_call_52 rfl (mc rfl (mc rfl (mc rfl (mc rfl mn)))) (c_impl_PathSum_stripped p y (IntKind.i64.wrap (8 - r_2)) r_3 B c p.Terms.length B1 c1 p.Out.length _ rfl rfl (hS4.inn0 [(true, 0), (true, 1)] rfl) hc3)) ?_
      rintro _ w_9 ⟨B6, c6, B7, c7, rfl, hd3⟩
      have hS10 := hS4.out0 hd3
      have hS10 : ST w0 [] _ [⟨some ⟨b, 0, none⟩, 30, [.int .i64 p.Ins, .int .i64 p.Vars, .int .i64 p.Root, .int .i64 p.Phase, .slice B p.Terms.length c, .slice B1 p.Out.length c1], 6⟩, ⟨some ⟨b1, 0, none⟩, 30, [.int .i64 0, .int .i64 0, .int .i64 0, .int .i64 0, .slice none 0 0, .slice none 0 0], 6⟩, ⟨B6, 56, (r_8.Terms.flatMap enc_Term), c6 * 2⟩, ⟨B7, 44, (r_8.Out.flatMap enc_Affine), c7 * 2⟩] [⟨B, (p.Terms.flatMap enc_Term)⟩, ⟨B1, (p.Out.flatMap enc_Affine)⟩, ⟨(some ⟨0, 0, none⟩), (gl0.flatMap enc_u8)⟩, ⟨(some ⟨1, 0, none⟩), (gl1.flatMap enc_u8)⟩] := hS10
      refine ss 12 rfl rfl (Ys_alloc (T := 30) (cs := [.int .i64 0, .int .i64 0, .int .i64 0, .int .i64 0, .slice none 0 0, .slice none 0 0]) (m := 6) hS10 k_zero_30 rfl rfl rfl) ?_
      rintro _ w_10 ⟨b3, rfl, hS11⟩
      have hS11 : ST w0 [] _ [⟨some ⟨b, 0, none⟩, 30, [.int .i64 p.Ins, .int .i64 p.Vars, .int .i64 p.Root, .int .i64 p.Phase, .slice B p.Terms.length c, .slice B1 p.Out.length c1], 6⟩, ⟨some ⟨b1, 0, none⟩, 30, [.int .i64 0, .int .i64 0, .int .i64 0, .int .i64 0, .slice none 0 0, .slice none 0 0], 6⟩, ⟨B6, 56, (r_8.Terms.flatMap enc_Term), c6 * 2⟩, ⟨B7, 44, (r_8.Out.flatMap enc_Affine), c7 * 2⟩, ⟨some ⟨b3, 0, none⟩, 30, [.int .i64 0, .int .i64 0, .int .i64 0, .int .i64 0, .slice none 0 0, .slice none 0 0], 6⟩] [⟨B, (p.Terms.flatMap enc_Term)⟩, ⟨B1, (p.Out.flatMap enc_Affine)⟩, ⟨(some ⟨0, 0, none⟩), (gl0.flatMap enc_u8)⟩, ⟨(some ⟨1, 0, none⟩), (gl1.flatMap enc_u8)⟩] := hS11
      refine ss0 rfl rfl (Ys_store (i := 4) (s := 6) (B := some ⟨b3, 0, none⟩) (T' := 30) (v := .agg #[.int .i64 r_8.Ins, .int .i64 r_8.Vars, .int .i64 r_8.Root, .int .i64 r_8.Phase, .slice B6 r_8.Terms.length c6, .slice B7 r_8.Out.length c7]) (vs := [.int .i64 r_8.Ins, .int .i64 r_8.Vars, .int .i64 r_8.Root, .int .i64 r_8.Phase, .slice B6 r_8.Terms.length c6, .slice B7 r_8.Out.length c7]) (k := 0) (cs' := [.int .i64 r_8.Ins, .int .i64 r_8.Vars, .int .i64 r_8.Root, .int .i64 r_8.Phase, .slice B6 r_8.Terms.length c6, .slice B7 r_8.Out.length c7]) hS11 k_sz_30_6 rfl rfl rfl rfl rfl rfl rfl (Nat.le_of_ble_eq_true rfl) rfl rfl) ?_
      rintro _ w_11 ⟨rfl, hS12⟩
      have hS12 : ST w0 [] _ [⟨some ⟨b, 0, none⟩, 30, [.int .i64 p.Ins, .int .i64 p.Vars, .int .i64 p.Root, .int .i64 p.Phase, .slice B p.Terms.length c, .slice B1 p.Out.length c1], 6⟩, ⟨some ⟨b1, 0, none⟩, 30, [.int .i64 0, .int .i64 0, .int .i64 0, .int .i64 0, .slice none 0 0, .slice none 0 0], 6⟩, ⟨B6, 56, (r_8.Terms.flatMap enc_Term), c6 * 2⟩, ⟨B7, 44, (r_8.Out.flatMap enc_Affine), c7 * 2⟩, ⟨some ⟨b3, 0, none⟩, 30, [.int .i64 r_8.Ins, .int .i64 r_8.Vars, .int .i64 r_8.Root, .int .i64 r_8.Phase, .slice B6 r_8.Terms.length c6, .slice B7 r_8.Out.length c7], 6⟩] [⟨B, (p.Terms.flatMap enc_Term)⟩, ⟨B1, (p.Out.flatMap enc_Affine)⟩, ⟨(some ⟨0, 0, none⟩), (gl0.flatMap enc_u8)⟩, ⟨(some ⟨1, 0, none⟩), (gl1.flatMap enc_u8)⟩] := hS12
      refine rw_nil ?_
      refine cw_seq ?_
      refine cw_region ?_
      refine sq 55 rfl rfl (Y_fieldAddr (B := some ⟨b3, 0, none⟩) (i := 0) (s := 0) k_fd_30_2_2_3 k_sz_3_1 rfl rfl) ?_
      refine sq 56 rfl rfl (Y_load1 (B := some ⟨b3, 0, none⟩) (i := 2) (cs := [.int .i64 r_8.Ins, .int .i64 r_8.Vars, .int .i64 r_8.Root, .int .i64 r_8.Phase, .slice B6 r_8.Terms.length c6, .slice B7 r_8.Out.length c7]) (v := .int .i64 r_8.Root) k_sc_3 rfl rfl (hS12.cf (i := 4) rfl) rfl) ?_
      refine sq 57 rfl rfl (Y_sub (k := .i64) (a := r_8.Root) (b := 1) rfl rfl rfl) ?_
      refine sq 58 rfl rfl (Y_fieldAddr (B := some ⟨b3, 0, none⟩) (i := 0) (s := 0) k_fd_30_2_2_3 k_sz_3_1 rfl rfl) ?_
      refine ss0 rfl rfl (Ys_store (i := 4) (s := 1) (B := some ⟨b3, 0, none⟩) (T' := 30) (v := .int .i64 (IntKind.i64.wrap (r_8.Root - 1))) (vs := [.int .i64 (IntKind.i64.wrap (r_8.Root - 1))]) (k := 2) (cs' := [.int .i64 r_8.Ins, .int .i64 r_8.Vars, .int .i64 (IntKind.i64.wrap (r_8.Root - 1)), .int .i64 r_8.Phase, .slice B6 r_8.Terms.length c6, .slice B7 r_8.Out.length c7]) hS12 k_sz_3_1 rfl rfl rfl rfl rfl rfl rfl (Nat.le_of_ble_eq_true rfl) rfl rfl) ?_
      rintro _ w_12 ⟨rfl, hS13⟩
      have hS13 : ST w0 [] _ [⟨some ⟨b, 0, none⟩, 30, [.int .i64 p.Ins, .int .i64 p.Vars, .int .i64 p.Root, .int .i64 p.Phase, .slice B p.Terms.length c, .slice B1 p.Out.length c1], 6⟩, ⟨some ⟨b1, 0, none⟩, 30, [.int .i64 0, .int .i64 0, .int .i64 0, .int .i64 0, .slice none 0 0, .slice none 0 0], 6⟩, ⟨B6, 56, (r_8.Terms.flatMap enc_Term), c6 * 2⟩, ⟨B7, 44, (r_8.Out.flatMap enc_Affine), c7 * 2⟩, ⟨some ⟨b3, 0, none⟩, 30, [.int .i64 r_8.Ins, .int .i64 r_8.Vars, .int .i64 (IntKind.i64.wrap (r_8.Root - 1)), .int .i64 r_8.Phase, .slice B6 r_8.Terms.length c6, .slice B7 r_8.Out.length c7], 6⟩] [⟨B, (p.Terms.flatMap enc_Term)⟩, ⟨B1, (p.Out.flatMap enc_Affine)⟩, ⟨(some ⟨0, 0, none⟩), (gl0.flatMap enc_u8)⟩, ⟨(some ⟨1, 0, none⟩), (gl1.flatMap enc_u8)⟩] := hS13
      refine rw_nil ?_
      refine cw_seq ?_
      obtain ⟨x, hx, hF3⟩ := bind_inv hF3
      refine ra_start (ST.sel hS13 [0, 1, 2, 3] rfl rfl).fn (by kernel_rfl) ?_
      have hS14 := hS13.drew
      refine ra_q 0 59 (v := pt (some ⟨b3, 0, none⟩) 3) rfl rfl rfl (by kernel_rfl) (by kernel_rfl) (by kernel_rfl) (ST.sel hS14 [0, 1, 2, 3] rfl rfl) (fun w' hw' => (Y_fieldAddr (B := some ⟨b3, 0, none⟩) (i := 0) (s := 0) k_fd_30_3_3_3 k_sz_3_1 rfl rfl)) ?_
      refine ra_q 2 61 (v := .agg (([0, 0, 1, 0, 0, 0, 7] : List Int).flatMap encI).toArray) rfl rfl rfl (by kernel_rfl) (by kernel_rfl) (by kernel_rfl) (ST.sel hS14 [0, 1, 2, 3] rfl rfl) (fun w' hw' => (show Y _ _ _ _ _ (.agg (([0, 0, 1, 0, 0, 0, 7] : List Int).flatMap encI).toArray) from Y_buildA (zs := [.int .i64 0, .int .i64 0, .int .i64 0, .int .i64 0, .int .i64 0, .int .i64 0, .int .i64 0]) (vs := [(2, .int .i64 1), (6, .int .i64 7)]) (cs := [.int .i64 0, .int .i64 0, .int .i64 1, .int .i64 0, .int .i64 0, .int .i64 0, .int .i64 7]) k_ar_84_7_3 k_sz_3_1 k_zero_84 rfl (mpc rfl (mpc rfl mpn)) (by kernel_rfl))) ?_
      refine ra_q 3 62 (v := .int .i64 r_2) rfl rfl rfl (by kernel_rfl) (by kernel_rfl) (by kernel_rfl) (ST.sel hS14 [0, 1, 2, 3] rfl rfl) (fun w' hw' => (Y_move (v := .int .i64 r_2) rfl rfl)) ?_
      refine ra_q 4 63 (v := .int .i64 x) rfl rfl rfl (by kernel_rfl) (by kernel_rfl) (by kernel_rfl) (ST.sel hS14 [0, 1, 2, 3] rfl rfl) (fun w' hw' => (Y_idx1 (cl := (([0, 0, 1, 0, 0, 0, 7] : List Int).flatMap encI)) (k := .i64) (i := r_2) (v := .int .i64 x) k_ar_84_7_3 k_sz_3_1 k_sc_3 rfl rfl rfl (getI_nn hx) (getI_ltI hx rfl) (gi_at0 encI_len hx rfl))) ?_
      refine ra_all (rs := [1]) (by kernel_rfl) rfl ?_
      refine ra_y 60 (i := 1) (v := .int .i64 r_8.Phase) rfl rfl rfl (Y_load1 (B := some ⟨b3, 0, none⟩) (i := 3) (cs := [.int .i64 r_8.Ins, .int .i64 r_8.Vars, .int .i64 (IntKind.i64.wrap (r_8.Root - 1)), .int .i64 r_8.Phase, .slice B6 r_8.Terms.length c6, .slice B7 r_8.Out.length c7]) (v := .int .i64 r_8.Phase) k_sc_3 rfl rfl (hS14.cf (i := 4) rfl) rfl) (ST.sel hS14 [0, 1, 2, 3] rfl rfl) ?_ ?_
      · skip
        refine ra_q 5 64 (v := .int .i64 (IntKind.i64.wrap (r_8.Phase + x))) rfl rfl rfl (by kernel_rfl) (by kernel_rfl) (by kernel_rfl) (ST.sel hS14 [0, 1, 2, 3] rfl rfl) (fun w' hw' => (Y_add (k := .i64) (a := r_8.Phase) (b := x) rfl rfl rfl)) ?_
        refine ra_q 6 65 (v := .int .i64 (Int.tmod (IntKind.i64.wrap (r_8.Phase + x)) 8)) rfl rfl rfl (by kernel_rfl) (by kernel_rfl) (by kernel_rfl) (ST.sel hS14 [0, 1, 2, 3] rfl rfl) (fun w' hw' => (Y_rem (k := .i64) (a := (IntKind.i64.wrap (r_8.Phase + x))) (b := 8) rfl rfl rfl (by decide))) ?_
        refine ra_q 7 66 (v := pt (some ⟨b3, 0, none⟩) 3) rfl rfl rfl (by kernel_rfl) (by kernel_rfl) (by kernel_rfl) (ST.sel hS14 [0, 1, 2, 3] rfl rfl) (fun w' hw' => (Y_fieldAddr (B := some ⟨b3, 0, none⟩) (i := 0) (s := 0) k_fd_30_3_3_3 k_sz_3_1 rfl rfl)) ?_
        refine ra_all (rs := [8]) (by kernel_rfl) rfl ?_
        refine ra_s0 (i := 8) rfl rfl rfl (Ys_store (i := 4) (s := 1) (B := some ⟨b3, 0, none⟩) (T' := 30) (v := .int .i64 (Int.tmod (IntKind.i64.wrap (r_8.Phase + x)) 8)) (vs := [.int .i64 (Int.tmod (IntKind.i64.wrap (r_8.Phase + x)) 8)]) (k := 3) (cs' := [.int .i64 r_8.Ins, .int .i64 r_8.Vars, .int .i64 (IntKind.i64.wrap (r_8.Root - 1)), .int .i64 (Int.tmod (IntKind.i64.wrap (r_8.Phase + x)) 8), .slice B6 r_8.Terms.length c6, .slice B7 r_8.Out.length c7]) hS14 k_sz_3_1 rfl rfl rfl rfl rfl rfl rfl (Nat.le_of_ble_eq_true rfl) rfl rfl) ?_ ?_
        · rintro _ w_13 ⟨rfl, hS15⟩
          have hS15 : ST w0 [] _ [⟨some ⟨b, 0, none⟩, 30, [.int .i64 p.Ins, .int .i64 p.Vars, .int .i64 p.Root, .int .i64 p.Phase, .slice B p.Terms.length c, .slice B1 p.Out.length c1], 6⟩, ⟨some ⟨b1, 0, none⟩, 30, [.int .i64 0, .int .i64 0, .int .i64 0, .int .i64 0, .slice none 0 0, .slice none 0 0], 6⟩, ⟨B6, 56, (r_8.Terms.flatMap enc_Term), c6 * 2⟩, ⟨B7, 44, (r_8.Out.flatMap enc_Affine), c7 * 2⟩, ⟨some ⟨b3, 0, none⟩, 30, [.int .i64 r_8.Ins, .int .i64 r_8.Vars, .int .i64 (IntKind.i64.wrap (r_8.Root - 1)), .int .i64 (Int.tmod (IntKind.i64.wrap (r_8.Phase + x)) 8), .slice B6 r_8.Terms.length c6, .slice B7 r_8.Out.length c7], 6⟩] [⟨B, (p.Terms.flatMap enc_Term)⟩, ⟨B1, (p.Out.flatMap enc_Affine)⟩, ⟨(some ⟨0, 0, none⟩), (gl0.flatMap enc_u8)⟩, ⟨(some ⟨1, 0, none⟩), (gl1.flatMap enc_u8)⟩] := hS15
          refine ⟨(ST.sel hS15 [0, 1, 2, 3] rfl rfl), ?_⟩
          refine ra_done (by kernel_rfl) ?_
          refine cw_seq ?_
          refine cw_region ?_
          refine sq 67 rfl rfl (Y_loadA (B := some ⟨b3, 0, none⟩) (i := 0) (cs := [.int .i64 r_8.Ins, .int .i64 r_8.Vars, .int .i64 (IntKind.i64.wrap (r_8.Root - 1)), .int .i64 (Int.tmod (IntKind.i64.wrap (r_8.Phase + x)) 8), .slice B6 r_8.Terms.length c6, .slice B7 r_8.Out.length c7]) (vs := [.int .i64 r_8.Ins, .int .i64 r_8.Vars, .int .i64 (IntKind.i64.wrap (r_8.Root - 1)), .int .i64 (Int.tmod (IntKind.i64.wrap (r_8.Phase + x)) 8), .slice B6 r_8.Terms.length c6, .slice B7 r_8.Out.length c7]) k_ag_30 k_sz_30_6 rfl rfl (hS15.cf (i := 4) rfl) rfl rfl) ?_
          refine ss0 rfl rfl (Ys_store (i := 1) (s := 6) (B := some ⟨b1, 0, none⟩) (T' := 30) (v := .agg #[.int .i64 r_8.Ins, .int .i64 r_8.Vars, .int .i64 (IntKind.i64.wrap (r_8.Root - 1)), .int .i64 (Int.tmod (IntKind.i64.wrap (r_8.Phase + x)) 8), .slice B6 r_8.Terms.length c6, .slice B7 r_8.Out.length c7]) (vs := [.int .i64 r_8.Ins, .int .i64 r_8.Vars, .int .i64 (IntKind.i64.wrap (r_8.Root - 1)), .int .i64 (Int.tmod (IntKind.i64.wrap (r_8.Phase + x)) 8), .slice B6 r_8.Terms.length c6, .slice B7 r_8.Out.length c7]) (k := 0) (cs' := [.int .i64 r_8.Ins, .int .i64 r_8.Vars, .int .i64 (IntKind.i64.wrap (r_8.Root - 1)), .int .i64 (Int.tmod (IntKind.i64.wrap (r_8.Phase + x)) 8), .slice B6 r_8.Terms.length c6, .slice B7 r_8.Out.length c7]) hS15 k_sz_30_6 rfl rfl rfl rfl rfl rfl rfl (Nat.le_of_ble_eq_true rfl) rfl rfl) ?_
          rintro _ w_14 ⟨rfl, hS16⟩
          have hS16 : ST w0 [] _ [⟨some ⟨b, 0, none⟩, 30, [.int .i64 p.Ins, .int .i64 p.Vars, .int .i64 p.Root, .int .i64 p.Phase, .slice B p.Terms.length c, .slice B1 p.Out.length c1], 6⟩, ⟨some ⟨b1, 0, none⟩, 30, [.int .i64 r_8.Ins, .int .i64 r_8.Vars, .int .i64 (IntKind.i64.wrap (r_8.Root - 1)), .int .i64 (Int.tmod (IntKind.i64.wrap (r_8.Phase + x)) 8), .slice B6 r_8.Terms.length c6, .slice B7 r_8.Out.length c7], 6⟩, ⟨B6, 56, (r_8.Terms.flatMap enc_Term), c6 * 2⟩, ⟨B7, 44, (r_8.Out.flatMap enc_Affine), c7 * 2⟩, ⟨some ⟨b3, 0, none⟩, 30, [.int .i64 r_8.Ins, .int .i64 r_8.Vars, .int .i64 (IntKind.i64.wrap (r_8.Root - 1)), .int .i64 (Int.tmod (IntKind.i64.wrap (r_8.Phase + x)) 8), .slice B6 r_8.Terms.length c6, .slice B7 r_8.Out.length c7], 6⟩] [⟨B, (p.Terms.flatMap enc_Term)⟩, ⟨B1, (p.Out.flatMap enc_Affine)⟩, ⟨(some ⟨0, 0, none⟩), (gl0.flatMap enc_u8)⟩, ⟨(some ⟨1, 0, none⟩), (gl1.flatMap enc_u8)⟩] := hS16
          refine sq 5 rfl rfl (Y_assign (v := .int .i64 2) rfl rfl) ?_
          refine rw_nil ?_
          refine cw_ret ?_
          obtain ⟨rfl, rfl⟩ := pr2 (some_inj hF3)
          exact ret2 Tryd.results23 (v1 := .agg #[.int .i64 r_8.Ins, .int .i64 r_8.Vars, .int .i64 (IntKind.i64.wrap (r_8.Root - 1)), .int .i64 (Int.tmod (IntKind.i64.wrap (r_8.Phase + x)) 8), .slice B6 r_8.Terms.length c6, .slice B7 r_8.Out.length c7]) (resAt_cellA (B := some ⟨b1, 0, none⟩) (i := 0) (cs := [.int .i64 r_8.Ins, .int .i64 r_8.Vars, .int .i64 (IntKind.i64.wrap (r_8.Root - 1)), .int .i64 (Int.tmod (IntKind.i64.wrap (r_8.Phase + x)) 8), .slice B6 r_8.Terms.length c6, .slice B7 r_8.Out.length c7]) (vs := [.int .i64 r_8.Ins, .int .i64 r_8.Vars, .int .i64 (IntKind.i64.wrap (r_8.Root - 1)), .int .i64 (Int.tmod (IntKind.i64.wrap (r_8.Phase + x)) 8), .slice B6 r_8.Terms.length c6, .slice B7 r_8.Out.length c7]) rfl k_ag_30 k_sz_30_6 (hS16.cf (i := 1) rfl) rfl rfl) (v2 := .int .i64 2) (resAt_tmp rfl) ⟨B6, c6, B7, c7, rfl, (ST.subR (R' := []) (hS16.sel [2, 3] rfl rfl) (fun _ h => by cases h))⟩
        exact allR_nil
      exact allR_nil
    · skip
      have hF4 := cf' hF2 hb1
      refine cw_seq ?_
      refine cw_region ?_
      refine sq 69 rfl rfl (Y_move (v := .bool r_5) rfl rfl) ?_
      refine sq 70 rfl rfl (Y_move (v := .bool r_5) rfl rfl) ?_
      refine sgq 71 (B := r_5) (v := .int .i64 r_2) rfl rfl (wt_t (gd_of (t := 70) (by kernel_rfl) rfl)) (fun hg3 => (Y_move (v := .int .i64 r_2) rfl rfl)) ?_
      refine sgq 72 (B := r_5) (v := .int .i64 (Int.tmod r_2 4)) rfl rfl (wt_t (gd_of (t := 70) (by kernel_rfl) rfl)) (fun hg4 => (Y_rem (k := .i64) (a := r_2) (b := 4) rfl (gv_of (B := r_5) (v := .int .i64 r_2) hg4) rfl (by decide))) ?_
      refine sgq 73 (B := r_5) (v := .bool ((Int.tmod r_2 4) == 0)) rfl rfl (wt_t (gd_of (t := 70) (by kernel_rfl) rfl)) (fun hg5 => (Y_eq (k := .i64) (a := (Int.tmod r_2 4)) (b := 0) rfl (gv_of (B := r_5) (v := .int .i64 (Int.tmod r_2 4)) hg5) rfl)) ?_
      refine sq 74 rfl rfl (Y_and (b := r_5) (z := ((Int.tmod r_2 4) == 0)) rfl rfl rfl rfl) ?_
      refine sq 75 rfl rfl (Y_move (v := .bool (r_5 && ((Int.tmod r_2 4) == 0))) rfl rfl) ?_
      refine sgq 76 (B := (r_5 && ((Int.tmod r_2 4) == 0))) (v := .int .i64 r_3) rfl rfl (wt_t (gd_of (t := 75) (by kernel_rfl) rfl)) (fun hg6 => (Y_move (v := .int .i64 r_3) rfl rfl)) ?_
      refine sgq 77 (B := (r_5 && ((Int.tmod r_2 4) == 0))) (v := pt (some ⟨b, 0, none⟩) 0) rfl rfl (wt_t (gd_of (t := 75) (by kernel_rfl) rfl)) (fun hg7 => (Y_fieldAddr (B := some ⟨b, 0, none⟩) (i := 0) (s := 0) k_fd_30_0_0_3 k_sz_3_1 rfl rfl)) ?_
      refine sgq 78 (B := (r_5 && ((Int.tmod r_2 4) == 0))) (v := .int .i64 p.Ins) rfl rfl (wt_t (gd_of (t := 75) (by kernel_rfl) rfl)) (fun hg8 => (Y_load1 (B := some ⟨b, 0, none⟩) (i := 0) (cs := [.int .i64 p.Ins, .int .i64 p.Vars, .int .i64 p.Root, .int .i64 p.Phase, .slice B p.Terms.length c, .slice B1 p.Out.length c1]) (v := .int .i64 p.Ins) k_sc_3 rfl (gv_of (B := (r_5 && ((Int.tmod r_2 4) == 0))) (v := pt (some ⟨b, 0, none⟩) 0) hg8) (hS4.cf (i := 0) rfl) rfl)) ?_
      obtain ⟨hsh1, hF4⟩ := chk_inv hF4
      refine sgq 79 (B := (r_5 && ((Int.tmod r_2 4) == 0))) (v := .int .i64 (shrK .i64 r_3 p.Ins)) rfl rfl (wt_t (gd_of (t := 75) (by kernel_rfl) rfl)) (fun hg9 => (Y_shr (k := .i64) (a := r_3) (k' := .i64) (b := p.Ins) rfl (gv_of (B := (r_5 && ((Int.tmod r_2 4) == 0))) (v := .int .i64 r_3) hg9) (gv_of (B := (r_5 && ((Int.tmod r_2 4) == 0))) (v := .int .i64 p.Ins) hg9) (hsh1 hg9))) ?_
      refine sgq 80 (B := (r_5 && ((Int.tmod r_2 4) == 0))) (v := .bool ((shrK .i64 r_3 p.Ins) != 0)) rfl rfl (wt_t (gd_of (t := 75) (by kernel_rfl) rfl)) (fun hg10 => (Y_ne (k := .i64) (a := (shrK .i64 r_3 p.Ins)) (b := 0) rfl (gv_of (B := (r_5 && ((Int.tmod r_2 4) == 0))) (v := .int .i64 (shrK .i64 r_3 p.Ins)) hg10) rfl)) ?_
      refine sq 81 rfl rfl (Y_and (b := (r_5 && ((Int.tmod r_2 4) == 0))) (z := ((shrK .i64 r_3 p.Ins) != 0)) rfl rfl rfl rfl) ?_
      refine sq 68 rfl rfl (Y_assign (v := .bool ((r_5 && ((Int.tmod r_2 4) == 0)) && ((shrK .i64 r_3 p.Ins) != 0))) rfl rfl) ?_
      refine rw_nil ?_
      refine cw_cond (b := ((r_5 && ((Int.tmod r_2 4) == 0)) && ((shrK .i64 r_3 p.Ins) != 0))) rfl (fun hb2 => ?_) (fun hb2 => ?_)
      · skip
        have hF5 := ct hF4 hb2
        refine cw_seq ?_
        refine cw_region ?_
        refine sq 82 rfl rfl (Y_loadA (B := some ⟨b, 0, none⟩) (i := 0) (cs := [.int .i64 p.Ins, .int .i64 p.Vars, .int .i64 p.Root, .int .i64 p.Phase, .slice B p.Terms.length c, .slice B1 p.Out.length c1]) (vs := [.int .i64 p.Ins, .int .i64 p.Vars, .int .i64 p.Root, .int .i64 p.Phase, .slice B p.Terms.length c, .slice B1 p.Out.length c1]) k_ag_30 k_sz_30_6 rfl rfl (hS4.cf (i := 0) rfl) rfl rfl) ?_
        refine sq 83 rfl rfl (Y_move (v := .int .i64 y) rfl rfl) ?_
        obtain ⟨r_9, hc4, hF5⟩ := bind_inv hF5
        refine sc 84 rfl rfl (Yc_func (g := 52) (vs := [.agg #[.int .i64 p.Ins, .int .i64 p.Vars, .int .i64 p.Root, .int .i64 p.Phase, .slice B p.Terms.length c, .slice B1 p.Out.length c1], .int .i64 y, .int .i64 0, .int .i64 0]) k_call_52 rfl (mc rfl (mc rfl (mc rfl (mc rfl mn)))) (c_impl_PathSum_stripped p y 0 0 B c p.Terms.length B1 c1 p.Out.length _ rfl rfl (hS4.inn0 [(true, 0), (true, 1)] rfl) hc4)) ?_
        rintro _ w_15 ⟨B8, c8, B9, c9, rfl, hd4⟩
        have hS17 := hS4.out0 hd4
        have hS17 : ST w0 [] _ [⟨some ⟨b, 0, none⟩, 30, [.int .i64 p.Ins, .int .i64 p.Vars, .int .i64 p.Root, .int .i64 p.Phase, .slice B p.Terms.length c, .slice B1 p.Out.length c1], 6⟩, ⟨some ⟨b1, 0, none⟩, 30, [.int .i64 0, .int .i64 0, .int .i64 0, .int .i64 0, .slice none 0 0, .slice none 0 0], 6⟩, ⟨B8, 56, (r_9.Terms.flatMap enc_Term), c8 * 2⟩, ⟨B9, 44, (r_9.Out.flatMap enc_Affine), c9 * 2⟩] [⟨B, (p.Terms.flatMap enc_Term)⟩, ⟨B1, (p.Out.flatMap enc_Affine)⟩, ⟨(some ⟨0, 0, none⟩), (gl0.flatMap enc_u8)⟩, ⟨(some ⟨1, 0, none⟩), (gl1.flatMap enc_u8)⟩] := hS17
        refine ss 13 rfl rfl (Ys_alloc (T := 30) (cs := [.int .i64 0, .int .i64 0, .int .i64 0, .int .i64 0, .slice none 0 0, .slice none 0 0]) (m := 6) hS17 k_zero_30 rfl rfl rfl) ?_
        rintro _ w_16 ⟨b4, rfl, hS18⟩
        have hS18 : ST w0 [] _ [⟨some ⟨b, 0, none⟩, 30, [.int .i64 p.Ins, .int .i64 p.Vars, .int .i64 p.Root, .int .i64 p.Phase, .slice B p.Terms.length c, .slice B1 p.Out.length c1], 6⟩, ⟨some ⟨b1, 0, none⟩, 30, [.int .i64 0, .int .i64 0, .int .i64 0, .int .i64 0, .slice none 0 0, .slice none 0 0], 6⟩, ⟨B8, 56, (r_9.Terms.flatMap enc_Term), c8 * 2⟩, ⟨B9, 44, (r_9.Out.flatMap enc_Affine), c9 * 2⟩, ⟨some ⟨b4, 0, none⟩, 30, [.int .i64 0, .int .i64 0, .int .i64 0, .int .i64 0, .slice none 0 0, .slice none 0 0], 6⟩] [⟨B, (p.Terms.flatMap enc_Term)⟩, ⟨B1, (p.Out.flatMap enc_Affine)⟩, ⟨(some ⟨0, 0, none⟩), (gl0.flatMap enc_u8)⟩, ⟨(some ⟨1, 0, none⟩), (gl1.flatMap enc_u8)⟩] := hS18
        refine ss0 rfl rfl (Ys_store (i := 4) (s := 6) (B := some ⟨b4, 0, none⟩) (T' := 30) (v := .agg #[.int .i64 r_9.Ins, .int .i64 r_9.Vars, .int .i64 r_9.Root, .int .i64 r_9.Phase, .slice B8 r_9.Terms.length c8, .slice B9 r_9.Out.length c9]) (vs := [.int .i64 r_9.Ins, .int .i64 r_9.Vars, .int .i64 r_9.Root, .int .i64 r_9.Phase, .slice B8 r_9.Terms.length c8, .slice B9 r_9.Out.length c9]) (k := 0) (cs' := [.int .i64 r_9.Ins, .int .i64 r_9.Vars, .int .i64 r_9.Root, .int .i64 r_9.Phase, .slice B8 r_9.Terms.length c8, .slice B9 r_9.Out.length c9]) hS18 k_sz_30_6 rfl rfl rfl rfl rfl rfl rfl (Nat.le_of_ble_eq_true rfl) rfl rfl) ?_
        rintro _ w_17 ⟨rfl, hS19⟩
        have hS19 : ST w0 [] _ [⟨some ⟨b, 0, none⟩, 30, [.int .i64 p.Ins, .int .i64 p.Vars, .int .i64 p.Root, .int .i64 p.Phase, .slice B p.Terms.length c, .slice B1 p.Out.length c1], 6⟩, ⟨some ⟨b1, 0, none⟩, 30, [.int .i64 0, .int .i64 0, .int .i64 0, .int .i64 0, .slice none 0 0, .slice none 0 0], 6⟩, ⟨B8, 56, (r_9.Terms.flatMap enc_Term), c8 * 2⟩, ⟨B9, 44, (r_9.Out.flatMap enc_Affine), c9 * 2⟩, ⟨some ⟨b4, 0, none⟩, 30, [.int .i64 r_9.Ins, .int .i64 r_9.Vars, .int .i64 r_9.Root, .int .i64 r_9.Phase, .slice B8 r_9.Terms.length c8, .slice B9 r_9.Out.length c9], 6⟩] [⟨B, (p.Terms.flatMap enc_Term)⟩, ⟨B1, (p.Out.flatMap enc_Affine)⟩, ⟨(some ⟨0, 0, none⟩), (gl0.flatMap enc_u8)⟩, ⟨(some ⟨1, 0, none⟩), (gl1.flatMap enc_u8)⟩] := hS19
        refine rw_nil ?_
        refine cw_seq ?_
        refine cw_region ?_
        refine sq 85 rfl rfl (Y_move (v := .int .i64 r_3) rfl rfl) ?_
        refine sq 86 rfl rfl (Y_move (v := .int .i64 r_6) rfl rfl) ?_
        obtain ⟨hsh2, hF5⟩ := chk_inv hF5
        refine sq 87 rfl rfl (Y_shl (k := .i64) (a := 1) (k' := .i64) (b := r_6) rfl rfl rfl hsh2) ?_
        refine sq 88 rfl rfl (Y_bxor (k := .i64) (a := r_3) (b := (shlK .i64 1 r_6)) rfl rfl rfl) ?_
        refine sq 89 rfl rfl (Y_move (v := .int .i64 y) rfl rfl) ?_
        obtain ⟨r_10, hc5, hF5⟩ := bind_inv hF5
        refine sc 90 rfl rfl (Yc_func (g := 53) (vs := [.int .i64 (bits .xor .i64 r_3 (shlK .i64 1 r_6)), .int .i64 y]) k_call_53 rfl (mc rfl (mc rfl mn)) (c_impl_dropped (bits .xor .i64 r_3 (shlK .i64 1 r_6)) y _  (hS19.inn0 [] rfl) hc5)) ?_
        rintro _ w_18 ⟨rfl, hd5⟩
        have hS20 := hS19.out00 hd5
        have hS20 : ST w0 [] _ [⟨some ⟨b, 0, none⟩, 30, [.int .i64 p.Ins, .int .i64 p.Vars, .int .i64 p.Root, .int .i64 p.Phase, .slice B p.Terms.length c, .slice B1 p.Out.length c1], 6⟩, ⟨some ⟨b1, 0, none⟩, 30, [.int .i64 0, .int .i64 0, .int .i64 0, .int .i64 0, .slice none 0 0, .slice none 0 0], 6⟩, ⟨B8, 56, (r_9.Terms.flatMap enc_Term), c8 * 2⟩, ⟨B9, 44, (r_9.Out.flatMap enc_Affine), c9 * 2⟩, ⟨some ⟨b4, 0, none⟩, 30, [.int .i64 r_9.Ins, .int .i64 r_9.Vars, .int .i64 r_9.Root, .int .i64 r_9.Phase, .slice B8 r_9.Terms.length c8, .slice B9 r_9.Out.length c9], 6⟩] [⟨B, (p.Terms.flatMap enc_Term)⟩, ⟨B1, (p.Out.flatMap enc_Affine)⟩, ⟨(some ⟨0, 0, none⟩), (gl0.flatMap enc_u8)⟩, ⟨(some ⟨1, 0, none⟩), (gl1.flatMap enc_u8)⟩] := hS20
        refine sq 14 rfl rfl (Y_assign (v := .int .i64 r_10) rfl rfl) ?_
        refine rw_nil ?_
        refine cw_seq ?_
        obtain ⟨z, hz, hF6⟩ := bind_inv hF5
        refine cw_mid (fun f w => ∃ (inner : Int), inner = z ∧ FF f [(4, pt (some ⟨b1, 0, none⟩) 0), (6, .int .i64 r_2), (10, .int .i64 inner), (13, pt (some ⟨b4, 0, none⟩) 0), (14, .int .i64 r_10)] ∧ ST w0 [] w [⟨some ⟨b1, 0, none⟩, 30, [.int .i64 0, .int .i64 0, .int .i64 0, .int .i64 0, .slice none 0 0, .slice none 0 0], 6⟩, ⟨some ⟨b4, 0, none⟩, 30, [.int .i64 r_9.Ins, .int .i64 r_9.Vars, .int .i64 r_9.Root, .int .i64 r_9.Phase, .slice B8 r_9.Terms.length c8, .slice B9 r_9.Out.length c9], 6⟩, ⟨B8, 56, (r_9.Terms.flatMap enc_Term), c8 * 2⟩, ⟨B9, 44, (r_9.Out.flatMap enc_Affine), c9 * 2⟩] [⟨B, (p.Terms.flatMap enc_Term)⟩, ⟨B1, (p.Out.flatMap enc_Affine)⟩, ⟨(some ⟨0, 0, none⟩), (gl0.flatMap enc_u8)⟩, ⟨(some ⟨1, 0, none⟩), (gl1.flatMap enc_u8)⟩]) ?_ ?_
        · skip
          refine cw_seq ?_
          refine cw_region ?_
          refine sq 91 rfl rfl (Y_move (v := .int .i64 r_6) rfl rfl) ?_
          refine sq 92 rfl rfl (Y_move (v := .int .i64 y) rfl rfl) ?_
          refine sq 93 rfl rfl (Y_gt (k := .i64) (a := r_6) (b := y) rfl rfl rfl) ?_
          refine rw_nil ?_
          refine cw_cond (b := (decide (y < r_6))) rfl (fun hb3 => ?_) (fun hb3 => ?_)
          · skip
            have hF7 := ct hz hb3
            refine cw_region ?_
            refine sq 94 rfl rfl (Y_move (v := .int .i64 r_6) rfl rfl) ?_
            refine sq 95 rfl rfl (Y_sub (k := .i64) (a := r_6) (b := 1) rfl rfl rfl) ?_
            refine sq 10 rfl rfl (Y_assign (v := .int .i64 (IntKind.i64.wrap (r_6 - 1))) rfl rfl) ?_
            refine rw_nil ?_
            exact ⟨(IntKind.i64.wrap (r_6 - 1)), (some_inj hF7), (FF.cons rfl (FF.cons rfl (FF.cons rfl (FF.cons rfl (FF.cons rfl FF.nil))))), (hS20.sel [1, 4, 2, 3] rfl rfl)⟩
          · skip
            have hF8 := cf' hz hb3
            refine cw_skip ?_
            exact ⟨r_6, (some_inj hF8), (FF.cons rfl (FF.cons rfl (FF.cons rfl (FF.cons rfl (FF.cons rfl FF.nil))))), (hS20.sel [1, 4, 2, 3] rfl rfl)⟩
        rintro f w ⟨inner, rfl, hf, hS21⟩
        refine cw_seq ?_
        refine cw_region ?_
        refine sq 96 rfl rfl (Y_fieldAddr (B := some ⟨b4, 0, none⟩) (i := 0) (s := 0) k_fd_30_2_2_3 k_sz_3_1 rfl (hf.get 13 3 rfl)) ?_
        refine sq 97 rfl rfl (Y_load1 (B := some ⟨b4, 0, none⟩) (i := 2) (cs := [.int .i64 r_9.Ins, .int .i64 r_9.Vars, .int .i64 r_9.Root, .int .i64 r_9.Phase, .slice B8 r_9.Terms.length c8, .slice B9 r_9.Out.length c9]) (v := .int .i64 r_9.Root) k_sc_3 rfl rfl (hS21.cf (i := 1) rfl) rfl) ?_
        refine sq 98 rfl rfl (Y_sub (k := .i64) (a := r_9.Root) (b := 2) rfl rfl rfl) ?_
        refine sq 99 rfl rfl (Y_fieldAddr (B := some ⟨b4, 0, none⟩) (i := 0) (s := 0) k_fd_30_2_2_3 k_sz_3_1 rfl (hf.get 13 3 rfl)) ?_
        refine ss0 rfl rfl (Ys_store (i := 1) (s := 1) (B := some ⟨b4, 0, none⟩) (T' := 30) (v := .int .i64 (IntKind.i64.wrap (r_9.Root - 2))) (vs := [.int .i64 (IntKind.i64.wrap (r_9.Root - 2))]) (k := 2) (cs' := [.int .i64 r_9.Ins, .int .i64 r_9.Vars, .int .i64 (IntKind.i64.wrap (r_9.Root - 2)), .int .i64 r_9.Phase, .slice B8 r_9.Terms.length c8, .slice B9 r_9.Out.length c9]) hS21 k_sz_3_1 rfl rfl rfl rfl rfl rfl rfl (Nat.le_of_ble_eq_true rfl) rfl rfl) ?_
        rintro _ w_19 ⟨rfl, hS22⟩
        have hS22 : ST w0 [] _ [⟨some ⟨b1, 0, none⟩, 30, [.int .i64 0, .int .i64 0, .int .i64 0, .int .i64 0, .slice none 0 0, .slice none 0 0], 6⟩, ⟨some ⟨b4, 0, none⟩, 30, [.int .i64 r_9.Ins, .int .i64 r_9.Vars, .int .i64 (IntKind.i64.wrap (r_9.Root - 2)), .int .i64 r_9.Phase, .slice B8 r_9.Terms.length c8, .slice B9 r_9.Out.length c9], 6⟩, ⟨B8, 56, (r_9.Terms.flatMap enc_Term), c8 * 2⟩, ⟨B9, 44, (r_9.Out.flatMap enc_Affine), c9 * 2⟩] [⟨B, (p.Terms.flatMap enc_Term)⟩, ⟨B1, (p.Out.flatMap enc_Affine)⟩, ⟨(some ⟨0, 0, none⟩), (gl0.flatMap enc_u8)⟩, ⟨(some ⟨1, 0, none⟩), (gl1.flatMap enc_u8)⟩] := hS22
        refine rw_nil ?_
        refine cw_seq ?_
        refine cw_region ?_
        refine sq 100 rfl rfl (Y_loadA (B := some ⟨b4, 0, none⟩) (i := 0) (cs := [.int .i64 r_9.Ins, .int .i64 r_9.Vars, .int .i64 (IntKind.i64.wrap (r_9.Root - 2)), .int .i64 r_9.Phase, .slice B8 r_9.Terms.length c8, .slice B9 r_9.Out.length c9]) (vs := [.int .i64 r_9.Ins, .int .i64 r_9.Vars, .int .i64 (IntKind.i64.wrap (r_9.Root - 2)), .int .i64 r_9.Phase, .slice B8 r_9.Terms.length c8, .slice B9 r_9.Out.length c9]) k_ag_30 k_sz_30_6 rfl (hf.get 13 3 rfl) (hS22.cf (i := 1) rfl) rfl rfl) ?_
        refine sq 101 rfl rfl (Y_move (v := .int .i64 inner) rfl (hf.get 10 2 rfl)) ?_
        refine sq 102 rfl rfl (Y_move (v := .int .i64 r_10) rfl (hf.get 14 4 rfl)) ?_
        refine sq 103 rfl rfl (Y_move (v := .int .i64 r_2) rfl (hf.get 6 1 rfl)) ?_
        refine sq 104 rfl rfl (Y_quo (k := .i64) (a := r_2) (b := 4) rfl rfl rfl (by decide)) ?_
        refine sq 105 rfl rfl (Y_buildS (zs := [.int .i64 0, .int .i64 0]) (vs := [(0, .int .i64 r_10), (1, .int .i64 (IntKind.i64.wrap (Int.tdiv r_2 4)))]) (cs := [.int .i64 r_10, .int .i64 (IntKind.i64.wrap (Int.tdiv r_2 4))]) k_pl_44 k_zero_44 rfl (mpc rfl (mpc rfl mpn)) rfl) ?_
        obtain ⟨r_11, hc6, hF6⟩ := bind_inv hF6
        refine sc 106 rfl rfl (Yc_func (g := 54) (vs := [.agg #[.int .i64 r_9.Ins, .int .i64 r_9.Vars, .int .i64 (IntKind.i64.wrap (r_9.Root - 2)), .int .i64 r_9.Phase, .slice B8 r_9.Terms.length c8, .slice B9 r_9.Out.length c9], .int .i64 inner, .agg #[.int .i64 r_10, .int .i64 (IntKind.i64.wrap (Int.tdiv r_2 4))]]) k_call_54 rfl (mc rfl (mc rfl (mc rfl mn))) (c_impl_PathSum_substituted (TPathSum.mk r_9.Ins r_9.Vars (IntKind.i64.wrap (r_9.Root - 2)) r_9.Phase r_9.Terms r_9.Out) inner (TAffine.mk r_10 (IntKind.i64.wrap (Int.tdiv r_2 4))) B8 c8 r_9.Terms.length B9 c9 r_9.Out.length _ rfl rfl (hS22.inn0 [(false, 2), (false, 3)] rfl) hc6)) ?_
        rintro _ w_20 ⟨B10, c10, B11, c11, rfl, hd6⟩
        have hS23 := hS22.out0 hd6
        have hS23 : ST w0 [] _ [⟨some ⟨b1, 0, none⟩, 30, [.int .i64 0, .int .i64 0, .int .i64 0, .int .i64 0, .slice none 0 0, .slice none 0 0], 6⟩, ⟨some ⟨b4, 0, none⟩, 30, [.int .i64 r_9.Ins, .int .i64 r_9.Vars, .int .i64 (IntKind.i64.wrap (r_9.Root - 2)), .int .i64 r_9.Phase, .slice B8 r_9.Terms.length c8, .slice B9 r_9.Out.length c9], 6⟩, ⟨B8, 56, (r_9.Terms.flatMap enc_Term), c8 * 2⟩, ⟨B9, 44, (r_9.Out.flatMap enc_Affine), c9 * 2⟩, ⟨B10, 56, (r_11.Terms.flatMap enc_Term), c10 * 2⟩, ⟨B11, 44, (r_11.Out.flatMap enc_Affine), c11 * 2⟩] [⟨B, (p.Terms.flatMap enc_Term)⟩, ⟨B1, (p.Out.flatMap enc_Affine)⟩, ⟨(some ⟨0, 0, none⟩), (gl0.flatMap enc_u8)⟩, ⟨(some ⟨1, 0, none⟩), (gl1.flatMap enc_u8)⟩] := hS23
        refine ss0 rfl rfl (Ys_store (i := 0) (s := 6) (B := some ⟨b1, 0, none⟩) (T' := 30) (v := .agg #[.int .i64 r_11.Ins, .int .i64 r_11.Vars, .int .i64 r_11.Root, .int .i64 r_11.Phase, .slice B10 r_11.Terms.length c10, .slice B11 r_11.Out.length c11]) (vs := [.int .i64 r_11.Ins, .int .i64 r_11.Vars, .int .i64 r_11.Root, .int .i64 r_11.Phase, .slice B10 r_11.Terms.length c10, .slice B11 r_11.Out.length c11]) (k := 0) (cs' := [.int .i64 r_11.Ins, .int .i64 r_11.Vars, .int .i64 r_11.Root, .int .i64 r_11.Phase, .slice B10 r_11.Terms.length c10, .slice B11 r_11.Out.length c11]) hS23 k_sz_30_6 rfl (hf.get 4 0 rfl) rfl rfl rfl rfl rfl (Nat.le_of_ble_eq_true rfl) rfl rfl) ?_
        rintro _ w_21 ⟨rfl, hS24⟩
        have hS24 : ST w0 [] _ [⟨some ⟨b1, 0, none⟩, 30, [.int .i64 r_11.Ins, .int .i64 r_11.Vars, .int .i64 r_11.Root, .int .i64 r_11.Phase, .slice B10 r_11.Terms.length c10, .slice B11 r_11.Out.length c11], 6⟩, ⟨some ⟨b4, 0, none⟩, 30, [.int .i64 r_9.Ins, .int .i64 r_9.Vars, .int .i64 (IntKind.i64.wrap (r_9.Root - 2)), .int .i64 r_9.Phase, .slice B8 r_9.Terms.length c8, .slice B9 r_9.Out.length c9], 6⟩, ⟨B8, 56, (r_9.Terms.flatMap enc_Term), c8 * 2⟩, ⟨B9, 44, (r_9.Out.flatMap enc_Affine), c9 * 2⟩, ⟨B10, 56, (r_11.Terms.flatMap enc_Term), c10 * 2⟩, ⟨B11, 44, (r_11.Out.flatMap enc_Affine), c11 * 2⟩] [⟨B, (p.Terms.flatMap enc_Term)⟩, ⟨B1, (p.Out.flatMap enc_Affine)⟩, ⟨(some ⟨0, 0, none⟩), (gl0.flatMap enc_u8)⟩, ⟨(some ⟨1, 0, none⟩), (gl1.flatMap enc_u8)⟩] := hS24
        refine sq 5 rfl rfl (Y_assign (v := .int .i64 3) rfl rfl) ?_
        refine rw_nil ?_
        refine cw_ret ?_
        obtain ⟨rfl, rfl⟩ := pr2 (some_inj hF6)
        exact ret2 Tryd.results23 (v1 := .agg #[.int .i64 r_11.Ins, .int .i64 r_11.Vars, .int .i64 r_11.Root, .int .i64 r_11.Phase, .slice B10 r_11.Terms.length c10, .slice B11 r_11.Out.length c11]) (resAt_cellA (B := some ⟨b1, 0, none⟩) (i := 0) (cs := [.int .i64 r_11.Ins, .int .i64 r_11.Vars, .int .i64 r_11.Root, .int .i64 r_11.Phase, .slice B10 r_11.Terms.length c10, .slice B11 r_11.Out.length c11]) (vs := [.int .i64 r_11.Ins, .int .i64 r_11.Vars, .int .i64 r_11.Root, .int .i64 r_11.Phase, .slice B10 r_11.Terms.length c10, .slice B11 r_11.Out.length c11]) (hf.get 4 0 rfl) k_ag_30 k_sz_30_6 (hS24.cf (i := 0) rfl) rfl rfl) (v2 := .int .i64 3) (resAt_tmp rfl) ⟨B10, c10, B11, c11, rfl, (ST.subR (R' := []) (hS24.sel [4, 5] rfl rfl) (fun _ h => by cases h))⟩
      · skip
        have hF9 := cf' hF4 hb2
        refine cw_skip ?_
        refine cw_seq ?_
        refine cw_region ?_
        refine sq 107 rfl rfl (Y_buildS (zs := [.int .i64 0, .int .i64 0, .int .i64 0, .int .i64 0, .slice none 0 0, .slice none 0 0]) (vs := []) (cs := [.int .i64 0, .int .i64 0, .int .i64 0, .int .i64 0, .slice none 0 0, .slice none 0 0]) k_pl_30 k_zero_30 rfl mpn rfl) ?_
        refine ss0 rfl rfl (Ys_store (i := 1) (s := 6) (B := some ⟨b1, 0, none⟩) (T' := 30) (v := .agg #[.int .i64 0, .int .i64 0, .int .i64 0, .int .i64 0, .slice none 0 0, .slice none 0 0]) (vs := [.int .i64 0, .int .i64 0, .int .i64 0, .int .i64 0, .slice none 0 0, .slice none 0 0]) (k := 0) (cs' := [.int .i64 0, .int .i64 0, .int .i64 0, .int .i64 0, .slice none 0 0, .slice none 0 0]) hS4 k_sz_30_6 rfl rfl rfl rfl rfl rfl rfl (Nat.le_of_ble_eq_true rfl) rfl rfl) ?_
        rintro _ w_22 ⟨rfl, hS25⟩
        have hS25 : ST w0 [] _ [⟨some ⟨b, 0, none⟩, 30, [.int .i64 p.Ins, .int .i64 p.Vars, .int .i64 p.Root, .int .i64 p.Phase, .slice B p.Terms.length c, .slice B1 p.Out.length c1], 6⟩, ⟨some ⟨b1, 0, none⟩, 30, [.int .i64 0, .int .i64 0, .int .i64 0, .int .i64 0, .slice none 0 0, .slice none 0 0], 6⟩] [⟨B, (p.Terms.flatMap enc_Term)⟩, ⟨B1, (p.Out.flatMap enc_Affine)⟩, ⟨(some ⟨0, 0, none⟩), (gl0.flatMap enc_u8)⟩, ⟨(some ⟨1, 0, none⟩), (gl1.flatMap enc_u8)⟩] := hS25
        refine sq 5 rfl rfl (Y_assign (v := .int .i64 0) rfl rfl) ?_
        refine rw_nil ?_
        refine cw_ret ?_
        have hS26 := hS25.addNil 56
        have hS27 := hS26.addNil 44
        obtain ⟨rfl, rfl⟩ := pr2 (some_inj hF9)
        exact ret2 Tryd.results23 (v1 := .agg #[.int .i64 0, .int .i64 0, .int .i64 0, .int .i64 0, .slice none 0 0, .slice none 0 0]) (resAt_cellA (B := some ⟨b1, 0, none⟩) (i := 0) (cs := [.int .i64 0, .int .i64 0, .int .i64 0, .int .i64 0, .slice none 0 0, .slice none 0 0]) (vs := [.int .i64 0, .int .i64 0, .int .i64 0, .int .i64 0, .slice none 0 0, .slice none 0 0]) rfl k_ag_30 k_sz_30_6 (hS27.cf (i := 1) rfl) rfl rfl) (v2 := .int .i64 0) (resAt_tmp rfl) ⟨none, 0, none, 0, rfl, (ST.subR (R' := []) (hS27.sel [2, 3] rfl rfl) (fun _ h => by cases h))⟩

theorem c_impl_ReduceStep (p : TPathSum) (B : Option Addr) (c n : Nat) (B1 : Option Addr) (c1 n1 : Nat) (w0 : World) (hn : p.Terms.length = n) (hn1 : p.Out.length = n1) (hS : ST w0 [] w0 [] [⟨B, (p.Terms.flatMap enc_Term)⟩, ⟨B1, (p.Out.flatMap enc_Affine)⟩, ⟨(some ⟨0, 0, none⟩), (gl0.flatMap enc_u8)⟩, ⟨(some ⟨1, 0, none⟩), (gl1.flatMap enc_u8)⟩]) {r_ : TPathSum} {r_1 : Int} {r_2 : Bool} (hF : F_impl_ReduceStep p = some (r_, r_1, r_2)) :
    CV Tryd.prog 8 #[.agg #[.int .i64 p.Ins, .int .i64 p.Vars, .int .i64 p.Root, .int .i64 p.Phase, .slice B n c, .slice B1 n1 c1]] w0 (fun v w' => ∃ (B2 : Option Addr) (c2 : Nat) (B3 : Option Addr) (c3 : Nat), v = .tuple #[.agg #[.int .i64 r_.Ins, .int .i64 r_.Vars, .int .i64 r_.Root, .int .i64 r_.Phase, .slice B2 r_.Terms.length c2, .slice B3 r_.Out.length c3], .int .i64 r_1, .bool r_2] ∧ ST w0 [] w' [⟨B2, 56, (r_.Terms.flatMap enc_Term), c2 * 2⟩, ⟨B3, 44, (r_.Out.flatMap enc_Affine), c3 * 2⟩] []) := by
  subst hn
  subst hn1
  unfold F_impl_ReduceStep at hF
  refine cv_of_cw 43 Tryd.func8 rfl Tryd.ntmps8 rfl ?_
  refine cw_seq ?_
  refine cw_region ?_
  refine ss 1 rfl rfl (Ys_box (T := 30) (v := .agg #[.int .i64 p.Ins, .int .i64 p.Vars, .int .i64 p.Root, .int .i64 p.Phase, .slice B p.Terms.length c, .slice B1 p.Out.length c1]) (cs := [.int .i64 p.Ins, .int .i64 p.Vars, .int .i64 p.Root, .int .i64 p.Phase, .slice B p.Terms.length c, .slice B1 p.Out.length c1]) (m := 6) hS rfl rfl rfl rfl) ?_
  rintro _ w_ ⟨b, rfl, hS1⟩
  refine ss 2 rfl rfl (Ys_alloc (T := 30) (cs := [.int .i64 0, .int .i64 0, .int .i64 0, .int .i64 0, .slice none 0 0, .slice none 0 0]) (m := 6) hS1 k_zero_30 rfl rfl rfl) ?_
  rintro _ w_1 ⟨b1, rfl, hS2⟩
  have hS2 : ST w0 [] _ [⟨some ⟨b, 0, none⟩, 30, [.int .i64 p.Ins, .int .i64 p.Vars, .int .i64 p.Root, .int .i64 p.Phase, .slice B p.Terms.length c, .slice B1 p.Out.length c1], 6⟩, ⟨some ⟨b1, 0, none⟩, 30, [.int .i64 0, .int .i64 0, .int .i64 0, .int .i64 0, .slice none 0 0, .slice none 0 0], 6⟩] [⟨B, (p.Terms.flatMap enc_Term)⟩, ⟨B1, (p.Out.flatMap enc_Affine)⟩, ⟨(some ⟨0, 0, none⟩), (gl0.flatMap enc_u8)⟩, ⟨(some ⟨1, 0, none⟩), (gl1.flatMap enc_u8)⟩] := hS2
  refine sq 3 rfl rfl (Y_assign (v := .int .i64 0) rfl rfl) ?_
  refine sq 4 rfl rfl (Y_assign (v := .bool false) rfl rfl) ?_
  refine rw_nil ?_
  refine cw_seq ?_
  refine cw_seq ?_
  refine cw_region ?_
  refine sq 8 rfl rfl (Y_loadA (B := some ⟨b, 0, none⟩) (i := 0) (cs := [.int .i64 p.Ins, .int .i64 p.Vars, .int .i64 p.Root, .int .i64 p.Phase, .slice B p.Terms.length c, .slice B1 p.Out.length c1]) (vs := [.int .i64 p.Ins, .int .i64 p.Vars, .int .i64 p.Root, .int .i64 p.Phase, .slice B p.Terms.length c, .slice B1 p.Out.length c1]) k_ag_30 k_sz_30_6 rfl rfl (hS2.cf (i := 0) rfl) rfl rfl) ?_
  obtain ⟨r_3, hc, hF⟩ := bind_inv hF
  refine sc 9 rfl rfl (Yc_func (g := 20) (vs := [.agg #[.int .i64 p.Ins, .int .i64 p.Vars, .int .i64 p.Root, .int .i64 p.Phase, .slice B p.Terms.length c, .slice B1 p.Out.length c1]]) k_call_20 rfl (mc rfl mn) (c_impl_IsValidPathSum p B c p.Terms.length B1 c1 p.Out.length _ rfl rfl (hS2.inn0 [(true, 0), (true, 1)] rfl) hc)) ?_
  rintro _ w_2 ⟨rfl, hd⟩
  have hS3 := hS2.out00 hd
  have hS3 : ST w0 [] _ [⟨some ⟨b, 0, none⟩, 30, [.int .i64 p.Ins, .int .i64 p.Vars, .int .i64 p.Root, .int .i64 p.Phase, .slice B p.Terms.length c, .slice B1 p.Out.length c1], 6⟩, ⟨some ⟨b1, 0, none⟩, 30, [.int .i64 0, .int .i64 0, .int .i64 0, .int .i64 0, .slice none 0 0, .slice none 0 0], 6⟩] [⟨B, (p.Terms.flatMap enc_Term)⟩, ⟨B1, (p.Out.flatMap enc_Affine)⟩, ⟨(some ⟨0, 0, none⟩), (gl0.flatMap enc_u8)⟩, ⟨(some ⟨1, 0, none⟩), (gl1.flatMap enc_u8)⟩] := hS3
  refine sq 10 rfl rfl (Y_not (p := r_3) rfl rfl) ?_
  refine rw_nil ?_
  refine cw_cond (b := (!r_3)) rfl (fun hb => ?_) (fun hb => ?_)
  · skip
    have hF1 := ct hF hb
    refine cw_seq ?_
    refine cw_region ?_
    refine sq 11 rfl rfl (Y_buildS (zs := [.int .i64 0, .int .i64 0, .int .i64 0, .int .i64 0, .slice none 0 0, .slice none 0 0]) (vs := []) (cs := [.int .i64 0, .int .i64 0, .int .i64 0, .int .i64 0, .slice none 0 0, .slice none 0 0]) k_pl_30 k_zero_30 rfl mpn rfl) ?_
    refine ss0 rfl rfl (Ys_store (i := 1) (s := 6) (B := some ⟨b1, 0, none⟩) (T' := 30) (v := .agg #[.int .i64 0, .int .i64 0, .int .i64 0, .int .i64 0, .slice none 0 0, .slice none 0 0]) (vs := [.int .i64 0, .int .i64 0, .int .i64 0, .int .i64 0, .slice none 0 0, .slice none 0 0]) (k := 0) (cs' := [.int .i64 0, .int .i64 0, .int .i64 0, .int .i64 0, .slice none 0 0, .slice none 0 0]) hS3 k_sz_30_6 rfl rfl rfl rfl rfl rfl rfl (Nat.le_of_ble_eq_true rfl) rfl rfl) ?_
    rintro _ w_3 ⟨rfl, hS4⟩
    have hS4 : ST w0 [] _ [⟨some ⟨b, 0, none⟩, 30, [.int .i64 p.Ins, .int .i64 p.Vars, .int .i64 p.Root, .int .i64 p.Phase, .slice B p.Terms.length c, .slice B1 p.Out.length c1], 6⟩, ⟨some ⟨b1, 0, none⟩, 30, [.int .i64 0, .int .i64 0, .int .i64 0, .int .i64 0, .slice none 0 0, .slice none 0 0], 6⟩] [⟨B, (p.Terms.flatMap enc_Term)⟩, ⟨B1, (p.Out.flatMap enc_Affine)⟩, ⟨(some ⟨0, 0, none⟩), (gl0.flatMap enc_u8)⟩, ⟨(some ⟨1, 0, none⟩), (gl1.flatMap enc_u8)⟩] := hS4
    refine sq 3 rfl rfl (Y_assign (v := .int .i64 0) rfl rfl) ?_
    refine sq 4 rfl rfl (Y_assign (v := .bool false) rfl rfl) ?_
    refine rw_nil ?_
    refine cw_ret ?_
    have hS5 := hS4.addNil 56
    have hS6 := hS5.addNil 44
    obtain ⟨rfl, rfl, rfl⟩ := pr3 (some_inj hF1)
    exact ret3 Tryd.results8 (v1 := .agg #[.int .i64 0, .int .i64 0, .int .i64 0, .int .i64 0, .slice none 0 0, .slice none 0 0]) (resAt_cellA (B := some ⟨b1, 0, none⟩) (i := 0) (cs := [.int .i64 0, .int .i64 0, .int .i64 0, .int .i64 0, .slice none 0 0, .slice none 0 0]) (vs := [.int .i64 0, .int .i64 0, .int .i64 0, .int .i64 0, .slice none 0 0, .slice none 0 0]) rfl k_ag_30 k_sz_30_6 (hS6.cf (i := 1) rfl) rfl rfl) (v2 := .int .i64 0) (resAt_tmp rfl) (v3 := .bool false) (resAt_tmp rfl) ⟨none, 0, none, 0, rfl, (ST.subR (R' := []) (hS6.sel [2, 3] rfl rfl) (fun _ h => by cases h))⟩
  · skip
    have hF2 := cf' hF hb
    refine cw_skip ?_
    refine cw_seq ?_
    refine cw_seq ?_
    refine cw_region ?_
    refine sq 12 rfl rfl (Y_fieldAddr (B := some ⟨b, 0, none⟩) (i := 0) (s := 0) k_fd_30_0_0_3 k_sz_3_1 rfl rfl) ?_
    refine sq 13 rfl rfl (Y_load1 (B := some ⟨b, 0, none⟩) (i := 0) (cs := [.int .i64 p.Ins, .int .i64 p.Vars, .int .i64 p.Root, .int .i64 p.Phase, .slice B p.Terms.length c, .slice B1 p.Out.length c1]) (v := .int .i64 p.Ins) k_sc_3 rfl rfl (hS3.cf (i := 0) rfl) rfl) ?_
    refine ss 5 rfl rfl (Ys_alloc (T := 3) (cs := [.int .i64 0]) (m := 1) hS3 k_zero_3 rfl rfl rfl) ?_
    rintro _ w_4 ⟨b2, rfl, hS7⟩
    have hS7 : ST w0 [] _ [⟨some ⟨b, 0, none⟩, 30, [.int .i64 p.Ins, .int .i64 p.Vars, .int .i64 p.Root, .int .i64 p.Phase, .slice B p.Terms.length c, .slice B1 p.Out.length c1], 6⟩, ⟨some ⟨b1, 0, none⟩, 30, [.int .i64 0, .int .i64 0, .int .i64 0, .int .i64 0, .slice none 0 0, .slice none 0 0], 6⟩, ⟨some ⟨b2, 0, none⟩, 3, [.int .i64 0], 1⟩] [⟨B, (p.Terms.flatMap enc_Term)⟩, ⟨B1, (p.Out.flatMap enc_Affine)⟩, ⟨(some ⟨0, 0, none⟩), (gl0.flatMap enc_u8)⟩, ⟨(some ⟨1, 0, none⟩), (gl1.flatMap enc_u8)⟩] := hS7
    refine ss0 rfl rfl (Ys_store (i := 2) (s := 1) (B := some ⟨b2, 0, none⟩) (T' := 3) (v := .int .i64 p.Ins) (vs := [.int .i64 p.Ins]) (k := 0) (cs' := [.int .i64 p.Ins]) hS7 k_sz_3_1 rfl rfl rfl rfl rfl rfl rfl (Nat.le_of_ble_eq_true rfl) rfl rfl) ?_
    rintro _ w_5 ⟨rfl, hS8⟩
    have hS8 : ST w0 [] _ [⟨some ⟨b, 0, none⟩, 30, [.int .i64 p.Ins, .int .i64 p.Vars, .int .i64 p.Root, .int .i64 p.Phase, .slice B p.Terms.length c, .slice B1 p.Out.length c1], 6⟩, ⟨some ⟨b1, 0, none⟩, 30, [.int .i64 0, .int .i64 0, .int .i64 0, .int .i64 0, .slice none 0 0, .slice none 0 0], 6⟩, ⟨some ⟨b2, 0, none⟩, 3, [.int .i64 p.Ins], 1⟩] [⟨B, (p.Terms.flatMap enc_Term)⟩, ⟨B1, (p.Out.flatMap enc_Affine)⟩, ⟨(some ⟨0, 0, none⟩), (gl0.flatMap enc_u8)⟩, ⟨(some ⟨1, 0, none⟩), (gl1.flatMap enc_u8)⟩] := hS8
    refine rw_nil ?_
    obtain ⟨z, hz, hF3⟩ := bind_inv hF2
    refine cw_block ?_
    refine cw_loop (fun k f w => ∃ (y : Int) (B4 : Option Addr), FF f [(1, pt (some ⟨b, 0, none⟩) 0), (2, pt (some ⟨b1, 0, none⟩) 0), (5, pt B4 0)] ∧ ST w0 [] w [⟨some ⟨b, 0, none⟩, 30, [.int .i64 p.Ins, .int .i64 p.Vars, .int .i64 p.Root, .int .i64 p.Phase, .slice B p.Terms.length c, .slice B1 p.Out.length c1], 6⟩, ⟨some ⟨b1, 0, none⟩, 30, [.int .i64 0, .int .i64 0, .int .i64 0, .int .i64 0, .slice none 0 0, .slice none 0 0], 6⟩, ⟨B4, 3, [.int .i64 y], 1⟩] [⟨B, (p.Terms.flatMap enc_Term)⟩, ⟨B1, (p.Out.flatMap enc_Affine)⟩, ⟨(some ⟨0, 0, none⟩), (gl0.flatMap enc_u8)⟩, ⟨(some ⟨1, 0, none⟩), (gl1.flatMap enc_u8)⟩] ∧ whX (F_impl_ReduceStep_l1 p) k y = some z) fuel ⟨p.Ins, some ⟨b2, 0, none⟩, (FF.cons rfl (FF.cons rfl (FF.cons rfl FF.nil))), (hS8.sel [0, 1, 2] rfl rfl), hz⟩ ?_
    rintro k_ f w ⟨y, B4, hf, hS9, hL⟩
    obtain ⟨k_1, y1, rfl, hb1, hL1⟩ := whX_go hL
    unfold F_impl_ReduceStep_l1 at hb1
    refine cw_seq ?_
    refine cw_seq ?_
    refine cw_region ?_
    refine sq 14 rfl rfl (Y_load1 (B := B4) (i := 0) (cs := [.int .i64 y]) (v := .int .i64 y) k_sc_3 rfl (hf.get 5 2 rfl) (hS9.cf (i := 2) rfl) rfl) ?_
    refine sq 15 rfl rfl (Y_fieldAddr (B := some ⟨b, 0, none⟩) (i := 0) (s := 0) k_fd_30_0_0_3 k_sz_3_1 rfl (hf.get 1 0 rfl)) ?_
    refine sq 16 rfl rfl (Y_load1 (B := some ⟨b, 0, none⟩) (i := 0) (cs := [.int .i64 p.Ins, .int .i64 p.Vars, .int .i64 p.Root, .int .i64 p.Phase, .slice B p.Terms.length c, .slice B1 p.Out.length c1]) (v := .int .i64 p.Ins) k_sc_3 rfl rfl (hS9.cf (i := 0) rfl) rfl) ?_
    refine sq 17 rfl rfl (Y_fieldAddr (B := some ⟨b, 0, none⟩) (i := 0) (s := 0) k_fd_30_1_1_3 k_sz_3_1 rfl (hf.get 1 0 rfl)) ?_
    refine sq 18 rfl rfl (Y_load1 (B := some ⟨b, 0, none⟩) (i := 1) (cs := [.int .i64 p.Ins, .int .i64 p.Vars, .int .i64 p.Root, .int .i64 p.Phase, .slice B p.Terms.length c, .slice B1 p.Out.length c1]) (v := .int .i64 p.Vars) k_sc_3 rfl rfl (hS9.cf (i := 0) rfl) rfl) ?_
    refine sq 19 rfl rfl (Y_add (k := .i64) (a := p.Ins) (b := p.Vars) rfl rfl rfl) ?_
    refine sq 20 rfl rfl (Y_lt (k := .i64) (a := y) (b := (IntKind.i64.wrap (p.Ins + p.Vars))) rfl rfl rfl) ?_
    refine rw_nil ?_
    refine cw_cond (b := (decide (y < (IntKind.i64.wrap (p.Ins + p.Vars))))) rfl (fun hb2 => ?_) (fun hb2 => ?_)
    · skip
      have hF4 := ct hb1 hb2
      refine cw_skip ?_
      refine cw_seq ?_
      obtain ⟨z1, hz1, hF5⟩ := bind_inv hF4
      refine cw_mid (fun f w => .inl () = z1 ∧ FF f [(1, pt (some ⟨b, 0, none⟩) 0), (2, pt (some ⟨b1, 0, none⟩) 0), (5, pt B4 0)] ∧ ST w0 [] w [⟨some ⟨b, 0, none⟩, 30, [.int .i64 p.Ins, .int .i64 p.Vars, .int .i64 p.Root, .int .i64 p.Phase, .slice B p.Terms.length c, .slice B1 p.Out.length c1], 6⟩, ⟨some ⟨b1, 0, none⟩, 30, [.int .i64 0, .int .i64 0, .int .i64 0, .int .i64 0, .slice none 0 0, .slice none 0 0], 6⟩, ⟨B4, 3, [.int .i64 y], 1⟩] [⟨B, (p.Terms.flatMap enc_Term)⟩, ⟨B1, (p.Out.flatMap enc_Affine)⟩, ⟨(some ⟨0, 0, none⟩), (gl0.flatMap enc_u8)⟩, ⟨(some ⟨1, 0, none⟩), (gl1.flatMap enc_u8)⟩]) ?_ ?_
      · skip
        refine cw_block ?_
        refine cw_seq ?_
        refine cw_seq ?_
        refine cw_region ?_
        refine sq 23 rfl rfl (Y_fieldAddr (B := some ⟨b, 0, none⟩) (i := 0) (s := 0) k_fd_30_5_5_28 k_sz_28_1 rfl (hf.get 1 0 rfl)) ?_
        refine sq 24 rfl rfl (Y_load1 (B := some ⟨b, 0, none⟩) (i := 5) (cs := [.int .i64 p.Ins, .int .i64 p.Vars, .int .i64 p.Root, .int .i64 p.Phase, .slice B p.Terms.length c, .slice B1 p.Out.length c1]) (v := .slice B1 p.Out.length c1) k_sc_28 rfl rfl (hS9.cf (i := 0) rfl) rfl) ?_
        refine sq 25 rfl rfl (Y_makeFunc (cs := [pt B4 0]) rfl rfl (mc (hf.get 5 2 rfl) mn)) ?_
        obtain ⟨r_4, hc1, hz1⟩ := bind_inv hz1
        refine sc 26 rfl rfl (Yc_func (g := 21) (vs := [.slice B1 p.Out.length c1, .func (.func 22) #[] #[pt B4 0]]) k_call_21 rfl (mc rfl (mc rfl mn)) (c_slices_ContainsFunc_impl_Affine_impl_Affine p.Out (fun x_0 => F_impl_ReduceStep_1 x_0 y) B1 c1 p.Out.length 22 (#[pt B4 0]) [⟨B4, [.int .i64 y]⟩] _ rfl k_call_22 (fun w hw x_0 y_0 h_ => c_impl_ReduceStep_1 x_0 y B4 w  hw h_) (hS9.inn0 [(true, 1), (false, 2)] rfl) hc1)) ?_
        rintro _ w_6 ⟨rfl, hd1⟩
        have hS11 := hS9.out00 hd1
        have hS11 : ST w0 [] _ [⟨some ⟨b, 0, none⟩, 30, [.int .i64 p.Ins, .int .i64 p.Vars, .int .i64 p.Root, .int .i64 p.Phase, .slice B p.Terms.length c, .slice B1 p.Out.length c1], 6⟩, ⟨some ⟨b1, 0, none⟩, 30, [.int .i64 0, .int .i64 0, .int .i64 0, .int .i64 0, .slice none 0 0, .slice none 0 0], 6⟩, ⟨B4, 3, [.int .i64 y], 1⟩] [⟨B, (p.Terms.flatMap enc_Term)⟩, ⟨B1, (p.Out.flatMap enc_Affine)⟩, ⟨(some ⟨0, 0, none⟩), (gl0.flatMap enc_u8)⟩, ⟨(some ⟨1, 0, none⟩), (gl1.flatMap enc_u8)⟩] := hS11
        refine rw_nil ?_
        refine cw_cond (b := r_4) rfl (fun hb3 => ?_) (fun hb3 => ?_)
        · skip
          have hF6 := ct hz1 hb3
          refine cw_exit rfl ?_
          exact ⟨(some_inj hF6), (FF.cons (hf.get 1 0 rfl) (FF.cons (hf.get 2 1 rfl) (FF.cons (hf.get 5 2 rfl) FF.nil))), (hS11.sel [0, 1, 2] rfl rfl)⟩
        · skip
          have hF7 := cf' hz1 hb3
          refine cw_skip ?_
          refine cw_seq ?_
          refine cw_region ?_
          refine sq 28 rfl rfl (Y_loadA (B := some ⟨b, 0, none⟩) (i := 0) (cs := [.int .i64 p.Ins, .int .i64 p.Vars, .int .i64 p.Root, .int .i64 p.Phase, .slice B p.Terms.length c, .slice B1 p.Out.length c1]) (vs := [.int .i64 p.Ins, .int .i64 p.Vars, .int .i64 p.Root, .int .i64 p.Phase, .slice B p.Terms.length c, .slice B1 p.Out.length c1]) k_ag_30 k_sz_30_6 rfl (hf.get 1 0 rfl) (hS11.cf (i := 0) rfl) rfl rfl) ?_
          refine sq 29 rfl rfl (Y_load1 (B := B4) (i := 0) (cs := [.int .i64 y]) (v := .int .i64 y) k_sc_3 rfl (hf.get 5 2 rfl) (hS11.cf (i := 2) rfl) rfl) ?_
          obtain ⟨⟨r_5, r_6⟩, hc2, hF7⟩ := bind_inv hF7
          refine sc 30 rfl rfl (Yc_func (g := 23) (vs := [.agg #[.int .i64 p.Ins, .int .i64 p.Vars, .int .i64 p.Root, .int .i64 p.Phase, .slice B p.Terms.length c, .slice B1 p.Out.length c1], .int .i64 y]) k_call_23 rfl (mc rfl (mc rfl mn)) (c_impl_PathSum_ruled p y B c p.Terms.length B1 c1 p.Out.length _ rfl rfl (hS11.inn0 [(true, 0), (true, 1), (true, 2), (true, 3)] rfl) hc2)) ?_
          rintro _ w_7 ⟨B5, c4, B6, c5, rfl, hd2⟩
          have hS12 := hS11.out0 hd2
          have hS12 : ST w0 [] _ [⟨some ⟨b, 0, none⟩, 30, [.int .i64 p.Ins, .int .i64 p.Vars, .int .i64 p.Root, .int .i64 p.Phase, .slice B p.Terms.length c, .slice B1 p.Out.length c1], 6⟩, ⟨some ⟨b1, 0, none⟩, 30, [.int .i64 0, .int .i64 0, .int .i64 0, .int .i64 0, .slice none 0 0, .slice none 0 0], 6⟩, ⟨B4, 3, [.int .i64 y], 1⟩, ⟨B5, 56, (r_5.Terms.flatMap enc_Term), c4 * 2⟩, ⟨B6, 44, (r_5.Out.flatMap enc_Affine), c5 * 2⟩] [⟨B, (p.Terms.flatMap enc_Term)⟩, ⟨B1, (p.Out.flatMap enc_Affine)⟩, ⟨(some ⟨0, 0, none⟩), (gl0.flatMap enc_u8)⟩, ⟨(some ⟨1, 0, none⟩), (gl1.flatMap enc_u8)⟩] := hS12
          refine sq 27 rfl rfl (Y_move (v := .tuple #[.agg #[.int .i64 r_5.Ins, .int .i64 r_5.Vars, .int .i64 r_5.Root, .int .i64 r_5.Phase, .slice B5 r_5.Terms.length c4, .slice B6 r_5.Out.length c5], .int .i64 r_6]) rfl rfl) ?_
          refine sq 31 rfl rfl (Y_extract (v := .agg #[.int .i64 r_5.Ins, .int .i64 r_5.Vars, .int .i64 r_5.Root, .int .i64 r_5.Phase, .slice B5 r_5.Terms.length c4, .slice B6 r_5.Out.length c5]) rfl rfl rfl) ?_
          refine sq 32 rfl rfl (Y_extract (v := .int .i64 r_6) rfl rfl rfl) ?_
          refine ss 6 rfl rfl (Ys_alloc (T := 30) (cs := [.int .i64 0, .int .i64 0, .int .i64 0, .int .i64 0, .slice none 0 0, .slice none 0 0]) (m := 6) hS12 k_zero_30 rfl rfl rfl) ?_
          rintro _ w_8 ⟨b3, rfl, hS13⟩
          have hS13 : ST w0 [] _ [⟨some ⟨b, 0, none⟩, 30, [.int .i64 p.Ins, .int .i64 p.Vars, .int .i64 p.Root, .int .i64 p.Phase, .slice B p.Terms.length c, .slice B1 p.Out.length c1], 6⟩, ⟨some ⟨b1, 0, none⟩, 30, [.int .i64 0, .int .i64 0, .int .i64 0, .int .i64 0, .slice none 0 0, .slice none 0 0], 6⟩, ⟨B4, 3, [.int .i64 y], 1⟩, ⟨B5, 56, (r_5.Terms.flatMap enc_Term), c4 * 2⟩, ⟨B6, 44, (r_5.Out.flatMap enc_Affine), c5 * 2⟩, ⟨some ⟨b3, 0, none⟩, 30, [.int .i64 0, .int .i64 0, .int .i64 0, .int .i64 0, .slice none 0 0, .slice none 0 0], 6⟩] [⟨B, (p.Terms.flatMap enc_Term)⟩, ⟨B1, (p.Out.flatMap enc_Affine)⟩, ⟨(some ⟨0, 0, none⟩), (gl0.flatMap enc_u8)⟩, ⟨(some ⟨1, 0, none⟩), (gl1.flatMap enc_u8)⟩] := hS13
          refine ss0 rfl rfl (Ys_store (i := 5) (s := 6) (B := some ⟨b3, 0, none⟩) (T' := 30) (v := .agg #[.int .i64 r_5.Ins, .int .i64 r_5.Vars, .int .i64 r_5.Root, .int .i64 r_5.Phase, .slice B5 r_5.Terms.length c4, .slice B6 r_5.Out.length c5]) (vs := [.int .i64 r_5.Ins, .int .i64 r_5.Vars, .int .i64 r_5.Root, .int .i64 r_5.Phase, .slice B5 r_5.Terms.length c4, .slice B6 r_5.Out.length c5]) (k := 0) (cs' := [.int .i64 r_5.Ins, .int .i64 r_5.Vars, .int .i64 r_5.Root, .int .i64 r_5.Phase, .slice B5 r_5.Terms.length c4, .slice B6 r_5.Out.length c5]) hS13 k_sz_30_6 rfl rfl rfl rfl rfl rfl rfl (Nat.le_of_ble_eq_true rfl) rfl rfl) ?_
          rintro _ w_9 ⟨rfl, hS14⟩
          have hS14 : ST w0 [] _ [⟨some ⟨b, 0, none⟩, 30, [.int .i64 p.Ins, .int .i64 p.Vars, .int .i64 p.Root, .int .i64 p.Phase, .slice B p.Terms.length c, .slice B1 p.Out.length c1], 6⟩, ⟨some ⟨b1, 0, none⟩, 30, [.int .i64 0, .int .i64 0, .int .i64 0, .int .i64 0, .slice none 0 0, .slice none 0 0], 6⟩, ⟨B4, 3, [.int .i64 y], 1⟩, ⟨B5, 56, (r_5.Terms.flatMap enc_Term), c4 * 2⟩, ⟨B6, 44, (r_5.Out.flatMap enc_Affine), c5 * 2⟩, ⟨some ⟨b3, 0, none⟩, 30, [.int .i64 r_5.Ins, .int .i64 r_5.Vars, .int .i64 r_5.Root, .int .i64 r_5.Phase, .slice B5 r_5.Terms.length c4, .slice B6 r_5.Out.length c5], 6⟩] [⟨B, (p.Terms.flatMap enc_Term)⟩, ⟨B1, (p.Out.flatMap enc_Affine)⟩, ⟨(some ⟨0, 0, none⟩), (gl0.flatMap enc_u8)⟩, ⟨(some ⟨1, 0, none⟩), (gl1.flatMap enc_u8)⟩] := hS14
          refine sq 7 rfl rfl (Y_assign (v := .int .i64 r_6) rfl rfl) ?_
          refine rw_nil ?_
          refine cw_seq ?_
          refine cw_seq ?_
          refine cw_region ?_
          refine sq 33 rfl rfl (Y_move (v := .int .i64 r_6) rfl rfl) ?_
          refine sq 34 rfl rfl (Y_eq (k := .i64) (a := r_6) (b := 0) rfl rfl rfl) ?_
          refine rw_nil ?_
          refine cw_cond (b := (r_6 == 0)) rfl (fun hb4 => ?_) (fun hb4 => ?_)
          · skip
            have hF8 := ct hF7 hb4
            refine cw_exit rfl ?_
            exact ⟨(some_inj hF8), (FF.cons (hf.get 1 0 rfl) (FF.cons (hf.get 2 1 rfl) (FF.cons (hf.get 5 2 rfl) FF.nil))), (hS14.sel [0, 1, 2] rfl rfl)⟩
          · skip
            have hF9 := cf' hF7 hb4
            refine cw_skip ?_
            refine cw_seq ?_
            refine cw_seq ?_
            refine cw_region ?_
            refine sq 35 rfl rfl (Y_loadA (B := some ⟨b3, 0, none⟩) (i := 0) (cs := [.int .i64 r_5.Ins, .int .i64 r_5.Vars, .int .i64 r_5.Root, .int .i64 r_5.Phase, .slice B5 r_5.Terms.length c4, .slice B6 r_5.Out.length c5]) (vs := [.int .i64 r_5.Ins, .int .i64 r_5.Vars, .int .i64 r_5.Root, .int .i64 r_5.Phase, .slice B5 r_5.Terms.length c4, .slice B6 r_5.Out.length c5]) k_ag_30 k_sz_30_6 rfl rfl (hS14.cf (i := 5) rfl) rfl rfl) ?_
            obtain ⟨r_7, hc3, hF9⟩ := bind_inv hF9
            refine sc 36 rfl rfl (Yc_func (g := 20) (vs := [.agg #[.int .i64 r_5.Ins, .int .i64 r_5.Vars, .int .i64 r_5.Root, .int .i64 r_5.Phase, .slice B5 r_5.Terms.length c4, .slice B6 r_5.Out.length c5]]) k_call_20 rfl (mc rfl mn) (c_impl_IsValidPathSum r_5 B5 c4 r_5.Terms.length B6 c5 r_5.Out.length _ rfl rfl (hS14.inn0 [(false, 3), (false, 4)] rfl) hc3)) ?_
            rintro _ w_10 ⟨rfl, hd3⟩
            have hS15 := hS14.out00 hd3
            have hS15 : ST w0 [] _ [⟨some ⟨b, 0, none⟩, 30, [.int .i64 p.Ins, .int .i64 p.Vars, .int .i64 p.Root, .int .i64 p.Phase, .slice B p.Terms.length c, .slice B1 p.Out.length c1], 6⟩, ⟨some ⟨b1, 0, none⟩, 30, [.int .i64 0, .int .i64 0, .int .i64 0, .int .i64 0, .slice none 0 0, .slice none 0 0], 6⟩, ⟨B4, 3, [.int .i64 y], 1⟩, ⟨B5, 56, (r_5.Terms.flatMap enc_Term), c4 * 2⟩, ⟨B6, 44, (r_5.Out.flatMap enc_Affine), c5 * 2⟩, ⟨some ⟨b3, 0, none⟩, 30, [.int .i64 r_5.Ins, .int .i64 r_5.Vars, .int .i64 r_5.Root, .int .i64 r_5.Phase, .slice B5 r_5.Terms.length c4, .slice B6 r_5.Out.length c5], 6⟩] [⟨B, (p.Terms.flatMap enc_Term)⟩, ⟨B1, (p.Out.flatMap enc_Affine)⟩, ⟨(some ⟨0, 0, none⟩), (gl0.flatMap enc_u8)⟩, ⟨(some ⟨1, 0, none⟩), (gl1.flatMap enc_u8)⟩] := hS15
            refine sq 37 rfl rfl (Y_not (p := r_7) rfl rfl) ?_
            refine rw_nil ?_
            refine cw_cond (b := (!r_7)) rfl (fun hb5 => ?_) (fun hb5 => ?_)
            · skip
              have hF10 := ct hF9 hb5
              refine cw_seq ?_
              refine cw_region ?_
              refine sq 38 rfl rfl (Y_buildS (zs := [.int .i64 0, .int .i64 0, .int .i64 0, .int .i64 0, .slice none 0 0, .slice none 0 0]) (vs := []) (cs := [.int .i64 0, .int .i64 0, .int .i64 0, .int .i64 0, .slice none 0 0, .slice none 0 0]) k_pl_30 k_zero_30 rfl mpn rfl) ?_
              refine ss0 rfl rfl (Ys_store (i := 1) (s := 6) (B := some ⟨b1, 0, none⟩) (T' := 30) (v := .agg #[.int .i64 0, .int .i64 0, .int .i64 0, .int .i64 0, .slice none 0 0, .slice none 0 0]) (vs := [.int .i64 0, .int .i64 0, .int .i64 0, .int .i64 0, .slice none 0 0, .slice none 0 0]) (k := 0) (cs' := [.int .i64 0, .int .i64 0, .int .i64 0, .int .i64 0, .slice none 0 0, .slice none 0 0]) hS15 k_sz_30_6 rfl (hf.get 2 1 rfl) rfl rfl rfl rfl rfl (Nat.le_of_ble_eq_true rfl) rfl rfl) ?_
              rintro _ w_11 ⟨rfl, hS16⟩
              have hS16 : ST w0 [] _ [⟨some ⟨b, 0, none⟩, 30, [.int .i64 p.Ins, .int .i64 p.Vars, .int .i64 p.Root, .int .i64 p.Phase, .slice B p.Terms.length c, .slice B1 p.Out.length c1], 6⟩, ⟨some ⟨b1, 0, none⟩, 30, [.int .i64 0, .int .i64 0, .int .i64 0, .int .i64 0, .slice none 0 0, .slice none 0 0], 6⟩, ⟨B4, 3, [.int .i64 y], 1⟩, ⟨B5, 56, (r_5.Terms.flatMap enc_Term), c4 * 2⟩, ⟨B6, 44, (r_5.Out.flatMap enc_Affine), c5 * 2⟩, ⟨some ⟨b3, 0, none⟩, 30, [.int .i64 r_5.Ins, .int .i64 r_5.Vars, .int .i64 r_5.Root, .int .i64 r_5.Phase, .slice B5 r_5.Terms.length c4, .slice B6 r_5.Out.length c5], 6⟩] [⟨B, (p.Terms.flatMap enc_Term)⟩, ⟨B1, (p.Out.flatMap enc_Affine)⟩, ⟨(some ⟨0, 0, none⟩), (gl0.flatMap enc_u8)⟩, ⟨(some ⟨1, 0, none⟩), (gl1.flatMap enc_u8)⟩] := hS16
              refine sq 3 rfl rfl (Y_assign (v := .int .i64 0) rfl rfl) ?_
              refine sq 4 rfl rfl (Y_assign (v := .bool false) rfl rfl) ?_
              refine rw_nil ?_
              refine cw_ret ?_
              have hS17 := hS16.addNil 56
              have hS18 := hS17.addNil 44
              obtain rfl := some_inj hF10
              obtain rfl := some_inj hF5
              obtain rfl := some_inj hL1
              obtain ⟨rfl, rfl, rfl⟩ := pr3 (some_inj hF3)
              exact ret3 Tryd.results8 (v1 := .agg #[.int .i64 0, .int .i64 0, .int .i64 0, .int .i64 0, .slice none 0 0, .slice none 0 0]) (resAt_cellA (B := some ⟨b1, 0, none⟩) (i := 0) (cs := [.int .i64 0, .int .i64 0, .int .i64 0, .int .i64 0, .slice none 0 0, .slice none 0 0]) (vs := [.int .i64 0, .int .i64 0, .int .i64 0, .int .i64 0, .slice none 0 0, .slice none 0 0]) (hf.get 2 1 rfl) k_ag_30 k_sz_30_6 (hS18.cf (i := 1) rfl) rfl rfl) (v2 := .int .i64 0) (resAt_tmp rfl) (v3 := .bool false) (resAt_tmp rfl) ⟨none, 0, none, 0, rfl, (ST.subR (R' := []) (hS18.sel [6, 7] rfl rfl) (fun _ h => by cases h))⟩
            · skip
              have hF11 := cf' hF9 hb5
              refine cw_skip ?_
              refine cw_seq ?_
              refine cw_region ?_
              refine sq 39 rfl rfl (Y_loadA (B := some ⟨b3, 0, none⟩) (i := 0) (cs := [.int .i64 r_5.Ins, .int .i64 r_5.Vars, .int .i64 r_5.Root, .int .i64 r_5.Phase, .slice B5 r_5.Terms.length c4, .slice B6 r_5.Out.length c5]) (vs := [.int .i64 r_5.Ins, .int .i64 r_5.Vars, .int .i64 r_5.Root, .int .i64 r_5.Phase, .slice B5 r_5.Terms.length c4, .slice B6 r_5.Out.length c5]) k_ag_30 k_sz_30_6 rfl rfl (hS15.cf (i := 5) rfl) rfl rfl) ?_
              refine sq 40 rfl rfl (Y_move (v := .int .i64 r_6) rfl rfl) ?_
              refine ss0 rfl rfl (Ys_store (i := 1) (s := 6) (B := some ⟨b1, 0, none⟩) (T' := 30) (v := .agg #[.int .i64 r_5.Ins, .int .i64 r_5.Vars, .int .i64 r_5.Root, .int .i64 r_5.Phase, .slice B5 r_5.Terms.length c4, .slice B6 r_5.Out.length c5]) (vs := [.int .i64 r_5.Ins, .int .i64 r_5.Vars, .int .i64 r_5.Root, .int .i64 r_5.Phase, .slice B5 r_5.Terms.length c4, .slice B6 r_5.Out.length c5]) (k := 0) (cs' := [.int .i64 r_5.Ins, .int .i64 r_5.Vars, .int .i64 r_5.Root, .int .i64 r_5.Phase, .slice B5 r_5.Terms.length c4, .slice B6 r_5.Out.length c5]) hS15 k_sz_30_6 rfl (hf.get 2 1 rfl) rfl rfl rfl rfl rfl (Nat.le_of_ble_eq_true rfl) rfl rfl) ?_
              rintro _ w_12 ⟨rfl, hS19⟩
              have hS19 : ST w0 [] _ [⟨some ⟨b, 0, none⟩, 30, [.int .i64 p.Ins, .int .i64 p.Vars, .int .i64 p.Root, .int .i64 p.Phase, .slice B p.Terms.length c, .slice B1 p.Out.length c1], 6⟩, ⟨some ⟨b1, 0, none⟩, 30, [.int .i64 r_5.Ins, .int .i64 r_5.Vars, .int .i64 r_5.Root, .int .i64 r_5.Phase, .slice B5 r_5.Terms.length c4, .slice B6 r_5.Out.length c5], 6⟩, ⟨B4, 3, [.int .i64 y], 1⟩, ⟨B5, 56, (r_5.Terms.flatMap enc_Term), c4 * 2⟩, ⟨B6, 44, (r_5.Out.flatMap enc_Affine), c5 * 2⟩, ⟨some ⟨b3, 0, none⟩, 30, [.int .i64 r_5.Ins, .int .i64 r_5.Vars, .int .i64 r_5.Root, .int .i64 r_5.Phase, .slice B5 r_5.Terms.length c4, .slice B6 r_5.Out.length c5], 6⟩] [⟨B, (p.Terms.flatMap enc_Term)⟩, ⟨B1, (p.Out.flatMap enc_Affine)⟩, ⟨(some ⟨0, 0, none⟩), (gl0.flatMap enc_u8)⟩, ⟨(some ⟨1, 0, none⟩), (gl1.flatMap enc_u8)⟩] := hS19
              refine sq 3 rfl rfl (Y_assign (v := .int .i64 r_6) rfl rfl) ?_
              refine sq 4 rfl rfl (Y_assign (v := .bool true) rfl rfl) ?_
              refine rw_nil ?_
              refine cw_ret ?_
              obtain rfl := some_inj hF11
              obtain rfl := some_inj hF5
              obtain rfl := some_inj hL1
              obtain ⟨rfl, rfl, rfl⟩ := pr3 (some_inj hF3)
              exact ret3 Tryd.results8 (v1 := .agg #[.int .i64 r_5.Ins, .int .i64 r_5.Vars, .int .i64 r_5.Root, .int .i64 r_5.Phase, .slice B5 r_5.Terms.length c4, .slice B6 r_5.Out.length c5]) (resAt_cellA (B := some ⟨b1, 0, none⟩) (i := 0) (cs := [.int .i64 r_5.Ins, .int .i64 r_5.Vars, .int .i64 r_5.Root, .int .i64 r_5.Phase, .slice B5 r_5.Terms.length c4, .slice B6 r_5.Out.length c5]) (vs := [.int .i64 r_5.Ins, .int .i64 r_5.Vars, .int .i64 r_5.Root, .int .i64 r_5.Phase, .slice B5 r_5.Terms.length c4, .slice B6 r_5.Out.length c5]) (hf.get 2 1 rfl) k_ag_30 k_sz_30_6 (hS19.cf (i := 1) rfl) rfl rfl) (v2 := .int .i64 r_6) (resAt_tmp rfl) (v3 := .bool true) (resAt_tmp rfl) ⟨B5, c4, B6, c5, rfl, (ST.subR (R' := []) (hS19.sel [3, 4] rfl rfl) (fun _ h => by cases h))⟩
      rintro f w ⟨rfl, hf1, hS10⟩
      refine cw_seq ?_
      refine cw_seq ?_
      refine cw_region ?_
      refine sq 41 rfl rfl (Y_load1 (B := B4) (i := 0) (cs := [.int .i64 y]) (v := .int .i64 y) k_sc_3 rfl (hf1.get 5 2 rfl) (hS10.cf (i := 2) rfl) rfl) ?_
      refine rw_nil ?_
      refine cw_region ?_
      refine ss 5 rfl rfl (Ys_alloc (T := 3) (cs := [.int .i64 0]) (m := 1) hS10 k_zero_3 rfl rfl rfl) ?_
      rintro _ w_13 ⟨b4, rfl, hS20⟩
      have hS20 : ST w0 [] _ [⟨some ⟨b, 0, none⟩, 30, [.int .i64 p.Ins, .int .i64 p.Vars, .int .i64 p.Root, .int .i64 p.Phase, .slice B p.Terms.length c, .slice B1 p.Out.length c1], 6⟩, ⟨some ⟨b1, 0, none⟩, 30, [.int .i64 0, .int .i64 0, .int .i64 0, .int .i64 0, .slice none 0 0, .slice none 0 0], 6⟩, ⟨B4, 3, [.int .i64 y], 1⟩, ⟨some ⟨b4, 0, none⟩, 3, [.int .i64 0], 1⟩] [⟨B, (p.Terms.flatMap enc_Term)⟩, ⟨B1, (p.Out.flatMap enc_Affine)⟩, ⟨(some ⟨0, 0, none⟩), (gl0.flatMap enc_u8)⟩, ⟨(some ⟨1, 0, none⟩), (gl1.flatMap enc_u8)⟩] := hS20
      refine ss0 rfl rfl (Ys_store (i := 3) (s := 1) (B := some ⟨b4, 0, none⟩) (T' := 3) (v := .int .i64 y) (vs := [.int .i64 y]) (k := 0) (cs' := [.int .i64 y]) hS20 k_sz_3_1 rfl rfl rfl rfl rfl rfl rfl (Nat.le_of_ble_eq_true rfl) rfl rfl) ?_
      rintro _ w_14 ⟨rfl, hS21⟩
      have hS21 : ST w0 [] _ [⟨some ⟨b, 0, none⟩, 30, [.int .i64 p.Ins, .int .i64 p.Vars, .int .i64 p.Root, .int .i64 p.Phase, .slice B p.Terms.length c, .slice B1 p.Out.length c1], 6⟩, ⟨some ⟨b1, 0, none⟩, 30, [.int .i64 0, .int .i64 0, .int .i64 0, .int .i64 0, .slice none 0 0, .slice none 0 0], 6⟩, ⟨B4, 3, [.int .i64 y], 1⟩, ⟨some ⟨b4, 0, none⟩, 3, [.int .i64 y], 1⟩] [⟨B, (p.Terms.flatMap enc_Term)⟩, ⟨B1, (p.Out.flatMap enc_Affine)⟩, ⟨(some ⟨0, 0, none⟩), (gl0.flatMap enc_u8)⟩, ⟨(some ⟨1, 0, none⟩), (gl1.flatMap enc_u8)⟩] := hS21
      refine rw_nil ?_
      refine cw_region ?_
      refine sq 21 rfl rfl (Y_load1 (B := some ⟨b4, 0, none⟩) (i := 0) (cs := [.int .i64 y]) (v := .int .i64 y) k_sc_3 rfl rfl (hS21.cf (i := 3) rfl) rfl) ?_
      refine sq 22 rfl rfl (Y_add (k := .i64) (a := y) (b := 1) rfl rfl rfl) ?_
      refine ss0 rfl rfl (Ys_store (i := 3) (s := 1) (B := some ⟨b4, 0, none⟩) (T' := 3) (v := .int .i64 (IntKind.i64.wrap (y + 1))) (vs := [.int .i64 (IntKind.i64.wrap (y + 1))]) (k := 0) (cs' := [.int .i64 (IntKind.i64.wrap (y + 1))]) hS21 k_sz_3_1 rfl rfl rfl rfl rfl rfl rfl (Nat.le_of_ble_eq_true rfl) rfl rfl) ?_
      rintro _ w_15 ⟨rfl, hS22⟩
      have hS22 : ST w0 [] _ [⟨some ⟨b, 0, none⟩, 30, [.int .i64 p.Ins, .int .i64 p.Vars, .int .i64 p.Root, .int .i64 p.Phase, .slice B p.Terms.length c, .slice B1 p.Out.length c1], 6⟩, ⟨some ⟨b1, 0, none⟩, 30, [.int .i64 0, .int .i64 0, .int .i64 0, .int .i64 0, .slice none 0 0, .slice none 0 0], 6⟩, ⟨B4, 3, [.int .i64 y], 1⟩, ⟨some ⟨b4, 0, none⟩, 3, [.int .i64 (IntKind.i64.wrap (y + 1))], 1⟩] [⟨B, (p.Terms.flatMap enc_Term)⟩, ⟨B1, (p.Out.flatMap enc_Affine)⟩, ⟨(some ⟨0, 0, none⟩), (gl0.flatMap enc_u8)⟩, ⟨(some ⟨1, 0, none⟩), (gl1.flatMap enc_u8)⟩] := hS22
      refine rw_nil ?_
      obtain rfl := some_inj hF5
      exact ⟨k_1, Nat.lt_succ_self _, (IntKind.i64.wrap (y + 1)), some ⟨b4, 0, none⟩, (FF.cons (hf1.get 1 0 rfl) (FF.cons (hf1.get 2 1 rfl) (FF.cons rfl FF.nil))), (hS22.sel [0, 1, 3] rfl rfl), hL1⟩
    · skip
      have hF12 := cf' hb1 hb2
      refine cw_exit rfl ?_
      obtain rfl := some_inj hF12
      obtain rfl := some_inj hL1
      refine cw_seq ?_
      refine cw_region ?_
      refine sq 42 rfl rfl (Y_buildS (zs := [.int .i64 0, .int .i64 0, .int .i64 0, .int .i64 0, .slice none 0 0, .slice none 0 0]) (vs := []) (cs := [.int .i64 0, .int .i64 0, .int .i64 0, .int .i64 0, .slice none 0 0, .slice none 0 0]) k_pl_30 k_zero_30 rfl mpn rfl) ?_
      refine ss0 rfl rfl (Ys_store (i := 1) (s := 6) (B := some ⟨b1, 0, none⟩) (T' := 30) (v := .agg #[.int .i64 0, .int .i64 0, .int .i64 0, .int .i64 0, .slice none 0 0, .slice none 0 0]) (vs := [.int .i64 0, .int .i64 0, .int .i64 0, .int .i64 0, .slice none 0 0, .slice none 0 0]) (k := 0) (cs' := [.int .i64 0, .int .i64 0, .int .i64 0, .int .i64 0, .slice none 0 0, .slice none 0 0]) hS9 k_sz_30_6 rfl (hf.get 2 1 rfl) rfl rfl rfl rfl rfl (Nat.le_of_ble_eq_true rfl) rfl rfl) ?_
      rintro _ w_16 ⟨rfl, hS23⟩
      have hS23 : ST w0 [] _ [⟨some ⟨b, 0, none⟩, 30, [.int .i64 p.Ins, .int .i64 p.Vars, .int .i64 p.Root, .int .i64 p.Phase, .slice B p.Terms.length c, .slice B1 p.Out.length c1], 6⟩, ⟨some ⟨b1, 0, none⟩, 30, [.int .i64 0, .int .i64 0, .int .i64 0, .int .i64 0, .slice none 0 0, .slice none 0 0], 6⟩, ⟨B4, 3, [.int .i64 y], 1⟩] [⟨B, (p.Terms.flatMap enc_Term)⟩, ⟨B1, (p.Out.flatMap enc_Affine)⟩, ⟨(some ⟨0, 0, none⟩), (gl0.flatMap enc_u8)⟩, ⟨(some ⟨1, 0, none⟩), (gl1.flatMap enc_u8)⟩] := hS23
      refine sq 3 rfl rfl (Y_assign (v := .int .i64 0) rfl rfl) ?_
      refine sq 4 rfl rfl (Y_assign (v := .bool false) rfl rfl) ?_
      refine rw_nil ?_
      refine cw_ret ?_
      have hS24 := hS23.addNil 56
      have hS25 := hS24.addNil 44
      obtain ⟨rfl, rfl, rfl⟩ := pr3 (some_inj hF3)
      exact ret3 Tryd.results8 (v1 := .agg #[.int .i64 0, .int .i64 0, .int .i64 0, .int .i64 0, .slice none 0 0, .slice none 0 0]) (resAt_cellA (B := some ⟨b1, 0, none⟩) (i := 0) (cs := [.int .i64 0, .int .i64 0, .int .i64 0, .int .i64 0, .slice none 0 0, .slice none 0 0]) (vs := [.int .i64 0, .int .i64 0, .int .i64 0, .int .i64 0, .slice none 0 0, .slice none 0 0]) (hf.get 2 1 rfl) k_ag_30 k_sz_30_6 (hS25.cf (i := 1) rfl) rfl rfl) (v2 := .int .i64 0) (resAt_tmp rfl) (v3 := .bool false) (resAt_tmp rfl) ⟨none, 0, none, 0, rfl, (ST.subR (R' := []) (hS25.sel [3, 4] rfl rfl) (fun _ h => by cases h))⟩

theorem c_laws_eqTerm (a : TTerm) (b : TTerm)  (w0 : World)  (hS : ST w0 [] w0 [] []) {r_ : Bool} (hF : F_laws_eqTerm a b = some r_) :
    CV Tryd.prog 55 #[.agg #[.int .i64 a.Mask, .int .i64 a.Coef], .agg #[.int .i64 b.Mask, .int .i64 b.Coef]] w0 (fun v w' => v = .bool r_ ∧ ST w0 [] w' [] []) := by
  unfold F_laws_eqTerm at hF
  refine cv_of_cw 15 Tryd.func55 rfl Tryd.ntmps55 rfl ?_
  refine cw_seq ?_
  refine cw_region ?_
  refine ss 2 rfl rfl (Ys_box (T := 56) (v := .agg #[.int .i64 a.Mask, .int .i64 a.Coef]) (cs := [.int .i64 a.Mask, .int .i64 a.Coef]) (m := 2) hS rfl rfl rfl rfl) ?_
  rintro _ w_ ⟨b1, rfl, hS1⟩
  refine ss 3 rfl rfl (Ys_box (T := 56) (v := .agg #[.int .i64 b.Mask, .int .i64 b.Coef]) (cs := [.int .i64 b.Mask, .int .i64 b.Coef]) (m := 2) hS1 rfl rfl rfl rfl) ?_
  rintro _ w_1 ⟨b2, rfl, hS2⟩
  have hS2 : ST w0 [] _ [⟨some ⟨b1, 0, none⟩, 56, [.int .i64 a.Mask, .int .i64 a.Coef], 2⟩, ⟨some ⟨b2, 0, none⟩, 56, [.int .i64 b.Mask, .int .i64 b.Coef], 2⟩] [] := hS2
  refine sq 4 rfl rfl (Y_assign (v := .bool false) rfl rfl) ?_
  refine rw_nil ?_
  refine cw_seq ?_
  refine cw_seq ?_
  refine cw_region ?_
  refine sq 5 rfl rfl (Y_fieldAddr (B := some ⟨b1, 0, none⟩) (i := 0) (s := 0) k_fd_56_0_0_3 k_sz_3_1 rfl rfl) ?_
  refine sq 6 rfl rfl (Y_load1 (B := some ⟨b1, 0, none⟩) (i := 0) (cs := [.int .i64 a.Mask, .int .i64 a.Coef]) (v := .int .i64 a.Mask) k_sc_3 rfl rfl (hS2.cf (i := 0) rfl) rfl) ?_
  refine sq 7 rfl rfl (Y_fieldAddr (B := some ⟨b2, 0, none⟩) (i := 0) (s := 0) k_fd_56_0_0_3 k_sz_3_1 rfl rfl) ?_
  refine sq 8 rfl rfl (Y_load1 (B := some ⟨b2, 0, none⟩) (i := 0) (cs := [.int .i64 b.Mask, .int .i64 b.Coef]) (v := .int .i64 b.Mask) k_sc_3 rfl rfl (hS2.cf (i := 1) rfl) rfl) ?_
  refine sq 9 rfl rfl (Y_ne (k := .i64) (a := a.Mask) (b := b.Mask) rfl rfl rfl) ?_
  refine rw_nil ?_
  refine cw_cond (b := (a.Mask != b.Mask)) rfl (fun hb => ?_) (fun hb => ?_)
  · skip
    have hF1 := ct hF hb
    refine cw_seq ?_
    refine cw_region ?_
    refine sq 4 rfl rfl (Y_assign (v := .bool false) rfl rfl) ?_
    refine rw_nil ?_
    refine cw_ret ?_
    obtain rfl := some_inj hF1
    exact ret1 Tryd.results55 (v1 := .bool false) (resAt_tmp rfl) ⟨rfl, (ST.subR (R' := []) (hS2.sel [] rfl rfl) (fun _ h => by cases h))⟩
  · skip
    have hF2 := cf' hF hb
    refine cw_skip ?_
    refine cw_seq ?_
    refine cw_seq ?_
    refine cw_region ?_
    refine sq 10 rfl rfl (Y_fieldAddr (B := some ⟨b1, 0, none⟩) (i := 0) (s := 0) k_fd_56_1_1_3 k_sz_3_1 rfl rfl) ?_
    refine sq 11 rfl rfl (Y_load1 (B := some ⟨b1, 0, none⟩) (i := 1) (cs := [.int .i64 a.Mask, .int .i64 a.Coef]) (v := .int .i64 a.Coef) k_sc_3 rfl rfl (hS2.cf (i := 0) rfl) rfl) ?_
    refine sq 12 rfl rfl (Y_fieldAddr (B := some ⟨b2, 0, none⟩) (i := 0) (s := 0) k_fd_56_1_1_3 k_sz_3_1 rfl rfl) ?_
    refine sq 13 rfl rfl (Y_load1 (B := some ⟨b2, 0, none⟩) (i := 1) (cs := [.int .i64 b.Mask, .int .i64 b.Coef]) (v := .int .i64 b.Coef) k_sc_3 rfl rfl (hS2.cf (i := 1) rfl) rfl) ?_
    refine sq 14 rfl rfl (Y_ne (k := .i64) (a := a.Coef) (b := b.Coef) rfl rfl rfl) ?_
    refine rw_nil ?_
    refine cw_cond (b := (a.Coef != b.Coef)) rfl (fun hb1 => ?_) (fun hb1 => ?_)
    · skip
      have hF3 := ct hF2 hb1
      refine cw_seq ?_
      refine cw_region ?_
      refine sq 4 rfl rfl (Y_assign (v := .bool false) rfl rfl) ?_
      refine rw_nil ?_
      refine cw_ret ?_
      obtain rfl := some_inj hF3
      exact ret1 Tryd.results55 (v1 := .bool false) (resAt_tmp rfl) ⟨rfl, (ST.subR (R' := []) (hS2.sel [] rfl rfl) (fun _ h => by cases h))⟩
    · skip
      have hF4 := cf' hF2 hb1
      refine cw_skip ?_
      refine cw_seq ?_
      refine cw_region ?_
      refine sq 4 rfl rfl (Y_assign (v := .bool true) rfl rfl) ?_
      refine rw_nil ?_
      refine cw_ret ?_
      obtain rfl := some_inj hF4
      exact ret1 Tryd.results55 (v1 := .bool true) (resAt_tmp rfl) ⟨rfl, (ST.subR (R' := []) (hS2.sel [] rfl rfl) (fun _ h => by cases h))⟩

theorem c_laws_eqTermS (a : List TTerm) (b : List TTerm) (B : Option Addr) (c n : Nat) (B1 : Option Addr) (c1 n1 : Nat) (w0 : World) (hn : a.length = n) (hn1 : b.length = n1) (hS : ST w0 [] w0 [] [⟨B, (a.flatMap enc_Term)⟩, ⟨B1, (b.flatMap enc_Term)⟩]) {r_ : Bool} (hF : F_laws_eqTermS a b = some r_) :
    CV Tryd.prog 24 #[.slice B n c, .slice B1 n1 c1] w0 (fun v w' => v = .bool r_ ∧ ST w0 [] w' [] []) := by
  subst hn
  subst hn1
  unfold F_laws_eqTermS at hF
  refine cv_of_cw 27 Tryd.func24 rfl Tryd.ntmps24 rfl ?_
  refine cw_seq ?_
  refine cw_region ?_
  refine sq 4 rfl rfl (Y_assign (v := .bool false) rfl rfl) ?_
  refine rw_nil ?_
  refine cw_seq ?_
  refine cw_seq ?_
  refine cw_region ?_
  refine sq 6 rfl rfl (Y_move (v := .slice B a.length c) rfl rfl) ?_
  refine sq 7 rfl rfl (Y_len (B := B) (m := a.length) (c := c) k_sl_27_56 rfl rfl) ?_
  refine sq 8 rfl rfl (Y_move (v := .slice B1 b.length c1) rfl rfl) ?_
  refine sq 9 rfl rfl (Y_len (B := B1) (m := b.length) (c := c1) k_sl_27_56 rfl rfl) ?_
  refine sq 10 rfl rfl (Y_ne (k := .i64) (a := (a.length : Int)) (b := (b.length : Int)) rfl rfl rfl) ?_
  refine rw_nil ?_
  refine cw_cond (b := ((a.length : Int) != (b.length : Int))) rfl (fun hb => ?_) (fun hb => ?_)
  · skip
    have hF1 := ct hF hb
    refine cw_seq ?_
    refine cw_region ?_
    refine sq 4 rfl rfl (Y_assign (v := .bool false) rfl rfl) ?_
    refine rw_nil ?_
    refine cw_ret ?_
    obtain rfl := some_inj hF1
    exact ret1 Tryd.results24 (v1 := .bool false) (resAt_tmp rfl) ⟨rfl, (ST.subR (R' := []) (hS.sel [] rfl rfl) (fun _ h => by cases h))⟩
  · skip
    have hF2 := cf' hF hb
    refine cw_skip ?_
    refine cw_seq ?_
    refine cw_seq ?_
    refine cw_region ?_
    refine sq 5 rfl rfl (Y_assign (v := .int .i64 0) rfl rfl) ?_
    refine rw_nil ?_
    obtain ⟨hN, hF2⟩ := chk_inv hF2
    obtain ⟨z, hz, hF3⟩ := bind_inv hF2
    refine cw_block ?_
    refine cw_loop (fun k f w => ∃ (i1 : Nat), FF f [(0, .slice B a.length c), (1, .slice B1 b.length c1), (5, .int .i64 (i1 : Int))] ∧ ST w0 [] w [] [⟨B, (a.flatMap enc_Term)⟩, ⟨B1, (b.flatMap enc_Term)⟩] ∧ i1 + k = a.length ∧ forX (F_laws_eqTermS_l1 a b) k i1 () = some z) a.length ⟨0, (FF.cons rfl (FF.cons rfl (FF.cons rfl FF.nil))), (hS.sel [] rfl rfl), Nat.zero_add _, hz⟩ ?_
    rintro k_ f w ⟨i1, hf, hS1, hik, hL⟩
    refine cw_seq ?_
    refine cw_seq ?_
    refine cw_region ?_
    refine sq 11 rfl rfl (Y_move (v := .int .i64 (i1 : Int)) rfl (hf.get 5 2 rfl)) ?_
    refine sq 12 rfl rfl (Y_move (v := .slice B a.length c) rfl (hf.get 0 0 rfl)) ?_
    refine sq 13 rfl rfl (Y_len (B := B) (m := a.length) (c := c) k_sl_27_56 rfl rfl) ?_
    refine sq 14 rfl rfl (Y_lt (k := .i64) (a := (i1 : Int)) (b := (a.length : Int)) rfl rfl rfl) ?_
    refine rw_nil ?_
    refine cw_cond (b := (decide ((i1 : Int) < (a.length : Int)))) rfl (fun hlt => ?_) (fun hlt => ?_)
    · skip
      have hlt1 : i1 < a.length := by have h := of_decide_eq_true hlt; omega
      obtain ⟨k_1, rfl⟩ : ∃ k2, k_ = k2 + 1 := ⟨k_ - 1, by omega⟩
      obtain ⟨y, hb1, hL1⟩ := forX_go hL
      unfold F_laws_eqTermS_l1 at hb1
      refine cw_skip ?_
      refine cw_seq ?_
      refine cw_block ?_
      refine cw_seq ?_
      obtain ⟨x, hx, hb1⟩ := bind_inv hb1
      obtain ⟨x1, hx1, hb1⟩ := bind_inv hb1
      obtain ⟨r_1, hc, hb1⟩ := bind_inv hb1
      refine ra_start (ST.sel hS1 [] rfl rfl).fn (by kernel_rfl) ?_
      have hS3 := hS1.drew
      refine ra_q 0 17 (v := .slice B a.length c) rfl rfl rfl (by kernel_rfl) (by kernel_rfl) (by kernel_rfl) (ST.sel hS3 [] rfl rfl) (fun w' hw' => (Y_move (v := .slice B a.length c) rfl (hf.get 0 0 rfl))) ?_
      refine ra_q 1 18 (v := .int .i64 (i1 : Int)) rfl rfl rfl (by kernel_rfl) (by kernel_rfl) (by kernel_rfl) (ST.sel hS3 [] rfl rfl) (fun w' hw' => (Y_move (v := .int .i64 (i1 : Int)) rfl (hf.get 5 2 rfl))) ?_
      refine ra_q 2 19 (v := pt B ((i1 : Int).toNat * 2)) rfl rfl rfl (by kernel_rfl) (by kernel_rfl) (by kernel_rfl) (ST.sel hS3 [] rfl rfl) (fun w' hw' => (Y_index (B := B) (m := a.length) (c := c) (k := .i64) (i := (i1 : Int)) k_sl_27_56 k_sz_56_2 rfl rfl rfl (gi_isSome enc_Term_len rfl (ST.rf hw' (i := 0) rfl) hx) (getI_nn hx) (getI_ltI hx rfl))) ?_
      refine ra_q 3 20 (v := .agg #[.int .i64 x.Mask, .int .i64 x.Coef]) rfl rfl rfl (by kernel_rfl) (by kernel_rfl) (by kernel_rfl) (ST.sel hS3 [] rfl rfl) (fun w' hw' => (Y_loadA (B := B) (i := (i1 : Int).toNat * 2) (cs := (a.flatMap enc_Term)) (vs := [.int .i64 x.Mask, .int .i64 x.Coef]) k_ag_56 k_sz_56_2 rfl rfl (ST.rf hw' (i := 0) rfl) (enc_Term_len x) (gi_seg enc_Term_len hx))) ?_
      refine ra_q 4 21 (v := .slice B1 b.length c1) rfl rfl rfl (by kernel_rfl) (by kernel_rfl) (by kernel_rfl) (ST.sel hS3 [] rfl rfl) (fun w' hw' => (Y_move (v := .slice B1 b.length c1) rfl (hf.get 1 1 rfl))) ?_
      refine ra_q 5 22 (v := .int .i64 (i1 : Int)) rfl rfl rfl (by kernel_rfl) (by kernel_rfl) (by kernel_rfl) (ST.sel hS3 [] rfl rfl) (fun w' hw' => (Y_move (v := .int .i64 (i1 : Int)) rfl (hf.get 5 2 rfl))) ?_
      refine ra_q 6 23 (v := pt B1 ((i1 : Int).toNat * 2)) rfl rfl rfl (by kernel_rfl) (by kernel_rfl) (by kernel_rfl) (ST.sel hS3 [] rfl rfl) (fun w' hw' => (Y_index (B := B1) (m := b.length) (c := c1) (k := .i64) (i := (i1 : Int)) k_sl_27_56 k_sz_56_2 rfl rfl rfl (gi_isSome enc_Term_len rfl (ST.rf hw' (i := 1) rfl) hx1) (getI_nn hx1) (getI_ltI hx1 rfl))) ?_
      refine ra_q 7 24 (v := .agg #[.int .i64 x1.Mask, .int .i64 x1.Coef]) rfl rfl rfl (by kernel_rfl) (by kernel_rfl) (by kernel_rfl) (ST.sel hS3 [] rfl rfl) (fun w' hw' => (Y_loadA (B := B1) (i := (i1 : Int).toNat * 2) (cs := (b.flatMap enc_Term)) (vs := [.int .i64 x1.Mask, .int .i64 x1.Coef]) k_ag_56 k_sz_56_2 rfl rfl (ST.rf hw' (i := 1) rfl) (enc_Term_len x1) (gi_seg enc_Term_len hx1))) ?_
      refine ra_all (rs := [8]) (by kernel_rfl) rfl ?_
      refine ra_c 25 (i := 8) rfl rfl rfl (Yc_func (g := 55) (vs := [.agg #[.int .i64 x.Mask, .int .i64 x.Coef], .agg #[.int .i64 x1.Mask, .int .i64 x1.Coef]]) k_call_55 rfl (mc rfl (mc rfl mn)) (c_laws_eqTerm x x1 _  (hS3.inn0 [] rfl) hc)) ?_ ?_
      · rintro _ w_ ⟨rfl, hd⟩
        have hS4 := hS3.out00 hd
        refine ⟨(ST.sel hS4 [] rfl rfl), ?_⟩
        refine ra_q 9 26 (v := .bool (!r_1)) rfl rfl rfl (by kernel_rfl) (by kernel_rfl) (by kernel_rfl) (ST.sel hS4 [] rfl rfl) (fun w' hw' => (Y_not (p := r_1) rfl rfl)) ?_
        refine ra_done (by kernel_rfl) ?_
        refine cw_cond (b := (!r_1)) rfl (fun hb2 => ?_) (fun hb2 => ?_)
        · skip
          have hF4 := ct hb1 hb2
          refine cw_seq ?_
          refine cw_region ?_
          refine sq 4 rfl rfl (Y_assign (v := .bool false) rfl rfl) ?_
          refine rw_nil ?_
          refine cw_ret ?_
          obtain rfl := some_inj hF4
          obtain rfl := some_inj hL1
          obtain rfl := some_inj hF3
          exact ret1 Tryd.results24 (v1 := .bool false) (resAt_tmp rfl) ⟨rfl, (ST.subR (R' := []) (hS4.sel [] rfl rfl) (fun _ h => by cases h))⟩
        · skip
          have hF5 := cf' hb1 hb2
          refine cw_skip ?_
          refine cw_region ?_
          refine sq 15 rfl rfl (Y_move (v := .int .i64 (i1 : Int)) rfl (hf.get 5 2 rfl)) ?_
          refine sq 16 rfl rfl (Y_add (k := .i64) (a := (i1 : Int)) (b := 1) rfl rfl rfl) ?_
          refine sq 5 rfl rfl (Y_assign (v := .int .i64 (IntKind.i64.wrap ((i1 : Int) + 1))) rfl rfl) ?_
          refine rw_nil ?_
          obtain rfl := some_inj hF5
          exact ⟨k_1, Nat.lt_succ_self _, i1 + 1, (FF.cons (hf.get 0 0 rfl) (FF.cons (hf.get 1 1 rfl) (FF.cons (congrArg (Value.int .i64) (wr_succ hlt1 hN)) FF.nil))), (hS4.sel [] rfl rfl), (by omega), hL1⟩
      exact allR_nil
    · skip
      obtain rfl : k_ = 0 := by have h := of_decide_eq_false hlt; omega
      refine cw_exit rfl ?_
      obtain rfl := some_inj hL
      refine cw_seq ?_
      refine cw_region ?_
      refine sq 4 rfl rfl (Y_assign (v := .bool true) rfl rfl) ?_
      refine rw_nil ?_
      refine cw_ret ?_
      obtain rfl := some_inj hF3
      exact ret1 Tryd.results24 (v1 := .bool true) (resAt_tmp rfl) ⟨rfl, (ST.subR (R' := []) (hS1.sel [] rfl rfl) (fun _ h => by cases h))⟩
end Go.VK
