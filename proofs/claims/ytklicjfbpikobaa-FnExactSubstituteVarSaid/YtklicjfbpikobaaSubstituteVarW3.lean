/- Walks: each Go function returns what its Lean function says. By program. -/
import Derived.Test.YtklicjfbpikobaaSubstituteVarFa
import Derived.Test.YtklicjfbpikobaaSubstituteVarShelf
import Derived.Test.YtklicjfbpikobaaLibT
import Derived.WalkKit
import Derived.Test.YtklicjfbpikobaaSubstituteVarW2
set_option linter.unusedVariables false
set_option maxRecDepth 100000
set_option maxHeartbeats 4000000
namespace Go.VK
open Go.RowKit
open Go.Proofs
attribute [local irreducible] CW RW RA CV Y Yw Yc Ys RetOf
attribute [local irreducible] F_laws_szTermS F_laws_szAffineS F_laws_szPathSum F_spec_l1In F_spec_l1Set F_spec_l21Valid F_spec_l21Sum_add F_spec_l21Drop F_spec_l21Sum_times F_spec_l21Replace F_spec_SubstituteVar F_laws_toTerm F_laws_toTermS F_laws_toAffine F_laws_toAffineS F_laws_toPathSum F_impl_within F_math_bits_OnesCount64 F_math_bits_OnesCount F_impl_bitsIn F_slices_IndexFunc_impl_Affine_impl_Affine F_slices_ContainsFunc_impl_Affine_impl_Affine F_impl_isAffine F_impl_IsValidPathSum_1 F_impl_IsValidPathSum F_impl_PathSum_isPathVar F_impl_polynomial_terms F_impl_polynomial_add F_impl_bitsOf F_impl_polynomial_expand F_impl_dropped F_impl_PathSum_without F_impl_PathSum_substituted F_impl_SubstituteVar F_laws_eqTerm F_laws_eqTermS F_laws_eqAffine F_laws_eqAffineS F_laws_eqPathSum F_laws_markTermS F_laws_markAffineS F_laws_markPathSum F_laws_heldTermS F_laws_heldAffineS F_laws_heldPathSum F_laws_FnExactSubstituteVar
theorem c_impl_polynomial_expand (p : List (Int × Int)) (coef : Int) (a : TAffine) (rest_ : Int) (g : Nat) (w0 : World)  (hS : ST w0 (bl [⟨(some ⟨g, 0, none⟩), .mp (mpE (Value.int .i64) (Value.int .i64) p), [], 0⟩]) w0 [⟨(some ⟨g, 0, none⟩), .mp (mpE (Value.int .i64) (Value.int .i64) p), [], 0⟩] []) {m : List (Int × Int)} (hF : F_impl_polynomial_expand p coef a rest_ = some m) :
    CV Try.prog 104 #[.map (some g), .int .i64 coef, .agg #[.int .i64 a.Mask, .int .i64 a.Turn], .int .i64 rest_] w0 (fun v w' => v = .tuple #[] ∧ ST w0 (bl [⟨(some ⟨g, 0, none⟩), .mp (mpE (Value.int .i64) (Value.int .i64) p), [], 0⟩]) w' [⟨(some ⟨g, 0, none⟩), .mp (mpE (Value.int .i64) (Value.int .i64) m), [], 0⟩] []) := by
  unfold F_impl_polynomial_expand at hF
  refine cv_of_cw 80 Try.func104 rfl Try.ntmps104 rfl ?_
  refine cw_seq ?_
  refine cw_region ?_
  refine ss 6 rfl rfl (Ys_box (T := 61) (v := .agg #[.int .i64 a.Mask, .int .i64 a.Turn]) (cs := [.int .i64 a.Mask, .int .i64 a.Turn]) (m := 2) hS rfl rfl rfl rfl) ?_
  rintro _ w_ ⟨b, rfl, hS1⟩
  have hS1 : ST w0 (bl [⟨(some ⟨g, 0, none⟩), .mp (mpE (Value.int .i64) (Value.int .i64) p), [], 0⟩]) _ [⟨(some ⟨g, 0, none⟩), .mp (mpE (Value.int .i64) (Value.int .i64) p), [], 0⟩, ⟨some ⟨b, 0, none⟩, 61, [.int .i64 a.Mask, .int .i64 a.Turn], 2⟩] [] := hS1
  refine rw_nil ?_
  refine cw_seq ?_
  obtain ⟨z, hz, hF1⟩ := bind_inv hF
  refine cw_mid (fun f w => ∃ (m1 : List (Int × Int)) (coef1 : Int), (m1, coef1) = z ∧ FF f [(0, .map (some g)), (1, .int .i64 coef1), (3, .int .i64 rest_), (6, pt (some ⟨b, 0, none⟩) 0)] ∧ ST w0 (bl [⟨(some ⟨g, 0, none⟩), .mp (mpE (Value.int .i64) (Value.int .i64) p), [], 0⟩]) w [⟨(some ⟨g, 0, none⟩), .mp (mpE (Value.int .i64) (Value.int .i64) m1), [], 0⟩, ⟨some ⟨b, 0, none⟩, 61, [.int .i64 a.Mask, .int .i64 a.Turn], 2⟩] []) ?_ ?_
  · skip
    refine cw_seq ?_
    refine cw_region ?_
    refine sq 15 rfl rfl (Y_fieldAddr (B := some ⟨b, 0, none⟩) (i := 0) (s := 0) k_fd_61_1_1_3 k_sz_3_1 rfl rfl) ?_
    refine sq 16 rfl rfl (Y_load1 (B := some ⟨b, 0, none⟩) (i := 1) (cs := [.int .i64 a.Mask, .int .i64 a.Turn]) (v := .int .i64 a.Turn) k_sc_3 rfl rfl (hS1.cf (i := 1) rfl) rfl) ?_
    refine sq 17 rfl rfl (Y_eq (k := .i64) (a := a.Turn) (b := 1) rfl rfl rfl) ?_
    refine rw_nil ?_
    refine cw_cond (b := (a.Turn == 1)) rfl (fun hb => ?_) (fun hb => ?_)
    · skip
      have hF2 := ct hz hb
      refine cw_seq ?_
      refine cw_region ?_
      refine sq 18 rfl rfl (Y_move (v := .map (some g)) rfl rfl) ?_
      refine sq 19 rfl rfl (Y_move (v := .int .i64 rest_) rfl rfl) ?_
      refine sq 20 rfl rfl (Y_move (v := .int .i64 coef) rfl rfl) ?_
      obtain ⟨m2, hc, hF2⟩ := bind_inv hF2
      refine sc 21 rfl rfl (Yc_func (g := 105) (vs := [.map (some g), .int .i64 rest_, .int .i64 coef]) k_call_105 rfl (mc rfl (mc rfl (mc rfl mn))) (c_impl_polynomial_add p rest_ coef g _  (hS1.inn [true, false] rfl [] rfl) hc)) ?_
      rintro _ w_1 ⟨rfl, hd⟩
      have hS3 := hS1.out [true, false] rfl hd
      have hS3 : ST w0 (bl [⟨(some ⟨g, 0, none⟩), .mp (mpE (Value.int .i64) (Value.int .i64) p), [], 0⟩]) _ [⟨some ⟨b, 0, none⟩, 61, [.int .i64 a.Mask, .int .i64 a.Turn], 2⟩, ⟨(some ⟨g, 0, none⟩), .mp (mpE (Value.int .i64) (Value.int .i64) m2), [], 0⟩] [] := hS3
      refine rw_nil ?_
      refine cw_region ?_
      refine sq 22 rfl rfl (Y_move (v := .int .i64 coef) rfl rfl) ?_
      refine sq 23 rfl rfl (Y_neg (k := .i64) (a := coef) rfl rfl) ?_
      refine sq 1 rfl rfl (Y_assign (v := .int .i64 (IntKind.i64.wrap (-coef))) rfl rfl) ?_
      refine rw_nil ?_
      exact ⟨m2, (IntKind.i64.wrap (-coef)), (some_inj hF2), (FF.cons rfl (FF.cons rfl (FF.cons rfl (FF.cons rfl FF.nil)))), (hS3.sel [1, 0] rfl rfl)⟩
    · skip
      have hF3 := cf' hz hb
      refine cw_skip ?_
      exact ⟨p, coef, (some_inj hF3), (FF.cons rfl (FF.cons rfl (FF.cons rfl (FF.cons rfl FF.nil)))), (hS1.sel [0, 1] rfl rfl)⟩
  rintro f w ⟨m1, coef1, rfl, hf, hS2⟩
  refine cw_seq ?_
  refine cw_region ?_
  refine sq 24 rfl rfl (Y_fieldAddr (B := some ⟨b, 0, none⟩) (i := 0) (s := 0) k_fd_61_0_0_3 k_sz_3_1 rfl (hf.get 6 3 rfl)) ?_
  refine sq 25 rfl rfl (Y_load1 (B := some ⟨b, 0, none⟩) (i := 0) (cs := [.int .i64 a.Mask, .int .i64 a.Turn]) (v := .int .i64 a.Mask) k_sc_3 rfl rfl (hS2.cf (i := 1) rfl) rfl) ?_
  obtain ⟨r_, hc1, hF1⟩ := bind_inv hF1
  refine sc 26 rfl rfl (Yc_func (g := 136) (vs := [.int .i64 a.Mask]) k_call_136 rfl (mc rfl mn) (c_impl_bitsOf a.Mask _  (hS2.inn0 [] rfl) hc1)) ?_
  rintro _ w_2 ⟨B, c, rfl, hd1⟩
  have hS4 := hS2.out0 hd1
  have hS4 : ST w0 (bl [⟨(some ⟨g, 0, none⟩), .mp (mpE (Value.int .i64) (Value.int .i64) p), [], 0⟩]) _ [⟨(some ⟨g, 0, none⟩), .mp (mpE (Value.int .i64) (Value.int .i64) m1), [], 0⟩, ⟨some ⟨b, 0, none⟩, 61, [.int .i64 a.Mask, .int .i64 a.Turn], 2⟩, ⟨B, 3, (r_.flatMap encI), c * 1⟩] [] := hS4
  refine sq 8 rfl rfl (Y_assign (v := .slice B r_.length c) rfl rfl) ?_
  refine rw_nil ?_
  refine cw_seq ?_
  refine cw_region ?_
  refine sq 27 rfl rfl (Y_move (v := .slice B r_.length c) rfl rfl) ?_
  refine sq 28 rfl rfl (Y_len (B := B) (m := r_.length) (c := c) k_sl_137_3 rfl rfl) ?_
  refine sq 29 rfl rfl (Y_move (v := .int .i64 0) rfl rfl) ?_
  refine rw_nil ?_
  obtain ⟨hN, hF1⟩ := chk_inv hF1
  obtain ⟨z1, hz1, hF4⟩ := bind_inv hF1
  have ho1 : Org w0 (bl [⟨(some ⟨g, 0, none⟩), .mp (mpE (Value.int .i64) (Value.int .i64) p), [], 0⟩]) [] [⟨B, (r_.flatMap encI)⟩] := ST.orgOwn hS4 (i := 2) rfl
  have hcap : r_.length ≤ c := (hS4.lencap (i := 2) rfl (fm_lenn (l := r_) encI_len rfl) rfl rfl)
  have hS6 : ST w0 (bl [⟨(some ⟨g, 0, none⟩), .mp (mpE (Value.int .i64) (Value.int .i64) p), [], 0⟩]) _ [⟨(some ⟨g, 0, none⟩), .mp (mpE (Value.int .i64) (Value.int .i64) m1), [], 0⟩, ⟨some ⟨b, 0, none⟩, 61, [.int .i64 a.Mask, .int .i64 a.Turn], 2⟩] [⟨B, (r_.flatMap encI)⟩] := hS4.freeze (i := 2) rfl
  refine cw_block ?_
  refine cw_loop (fun k f w => ∃ (i : Nat) (m3 : List (Int × Int)), FF f [(0, .map (some g)), (1, .int .i64 coef1), (3, .int .i64 rest_), (8, .slice B r_.length c), (27, .slice B r_.length c), (28, .int .i64 (r_.length : Int)), (29, .int .i64 (i : Int))] ∧ Org w0 (bl [⟨(some ⟨g, 0, none⟩), .mp (mpE (Value.int .i64) (Value.int .i64) p), [], 0⟩]) [] [⟨B, (r_.flatMap encI)⟩] ∧ r_.length ≤ c ∧ ST w0 (bl [⟨(some ⟨g, 0, none⟩), .mp (mpE (Value.int .i64) (Value.int .i64) p), [], 0⟩]) w [⟨(some ⟨g, 0, none⟩), .mp (mpE (Value.int .i64) (Value.int .i64) m3), [], 0⟩] [⟨B, (r_.flatMap encI)⟩] ∧ i + k = r_.length ∧ forN (F_impl_polynomial_expand_l1 r_ rest_ coef1) k i m3 = some z1) r_.length ⟨0, m1, (FF.cons (hf.get 0 0 rfl) (FF.cons (hf.get 1 1 rfl) (FF.cons (hf.get 3 2 rfl) (FF.cons rfl (FF.cons rfl (FF.cons rfl (FF.cons rfl FF.nil))))))), ho1, (len_le rfl hcap), (hS6.sel [0] rfl rfl), Nat.zero_add _, hz1⟩ ?_
  rintro k_ f w ⟨i, m3, hf1, ho, hq, hS5, hik, hL⟩
  refine cw_seq ?_
  refine cw_region ?_
  refine sq 30 rfl rfl (Y_lt (k := .i64) (a := (i : Int)) (b := (r_.length : Int)) rfl (hf1.get 29 6 rfl) (hf1.get 28 5 rfl)) ?_
  refine rw_nil ?_
  refine cw_seq ?_
  refine cw_cond (b := (decide ((i : Int) < (r_.length : Int)))) rfl (fun hlt => ?_) (fun hlt => ?_)
  · skip
    have hlt1 : i < r_.length := by have h := of_decide_eq_true hlt; omega
    obtain ⟨k_1, rfl⟩ : ∃ k2, k_ = k2 + 1 := ⟨k_ - 1, by omega⟩
    obtain ⟨y, hb1, hL1⟩ := forN_go hL
    unfold F_impl_polynomial_expand_l1 at hb1
    refine cw_skip ?_
    refine cw_seq ?_
    refine cw_block ?_
    refine cw_seq ?_
    refine cw_region ?_
    refine sq 31 rfl rfl (Y_move (v := .int .i64 (i : Int)) rfl (hf1.get 29 6 rfl)) ?_
    obtain ⟨x, hx, hb1⟩ := bind_inv hb1
    refine sq 32 rfl rfl (Y_index (B := B) (m := r_.length) (c := c) (k := .i64) (i := (i : Int)) k_sl_137_3 k_sz_3_1 rfl (hf1.get 27 4 rfl) (hf1.get 29 6 rfl) (gi_isSome encI_len rfl (hS5.rf (i := 0) rfl) hx) (getI_nn hx) (getI_ltI hx rfl)) ?_
    refine sq 33 rfl rfl (Y_load1 (B := B) (i := (i : Int).toNat * 1) (cs := (r_.flatMap encI)) (v := .int .i64 x) k_sc_3 rfl rfl (hS5.rf (i := 0) rfl) (gi_at0 encI_len hx rfl)) ?_
    refine sq 9 rfl rfl (Y_assign (v := .int .i64 (i : Int)) rfl rfl) ?_
    refine sq 10 rfl rfl (Y_assign (v := .int .i64 x) rfl rfl) ?_
    refine rw_nil ?_
    refine cw_seq ?_
    refine cw_region ?_
    refine sq 34 rfl rfl (Y_move (v := .map (some g)) rfl (hf1.get 0 0 rfl)) ?_
    refine sq 35 rfl rfl (Y_move (v := .int .i64 rest_) rfl (hf1.get 3 2 rfl)) ?_
    refine sq 36 rfl rfl (Y_move (v := .int .i64 x) rfl rfl) ?_
    refine sq 37 rfl rfl (Y_bor (k := .i64) (a := rest_) (b := x) rfl rfl rfl) ?_
    refine sq 38 rfl rfl (Y_move (v := .int .i64 coef1) rfl (hf1.get 1 1 rfl)) ?_
    obtain ⟨m4, hc2, hb1⟩ := bind_inv hb1
    refine sc 39 rfl rfl (Yc_func (g := 105) (vs := [.map (some g), .int .i64 (bits .or .i64 rest_ x), .int .i64 coef1]) k_call_105 rfl (mc rfl (mc rfl (mc rfl mn))) (c_impl_polynomial_add m3 (bits .or .i64 rest_ x) coef1 g _  (hS5.inn [true] rfl [] rfl) hc2)) ?_
    rintro _ w_3 ⟨rfl, hd2⟩
    have hS7 := hS5.out [true] rfl hd2
    refine rw_nil ?_
    refine cw_seq ?_
    refine cw_region ?_
    refine sq 40 rfl rfl (Y_move (v := .slice B r_.length c) rfl (hf1.get 8 3 rfl)) ?_
    refine sq 41 rfl rfl (Y_move (v := .int .i64 (i : Int)) rfl rfl) ?_
    obtain ⟨hsl, hb1⟩ := chk_inv hb1
    have hcap1 : r_.length ≤ c := hq
    have hv : (List.take i r_).length = i := (take_len rfl (by omega))
    have hq1 : i ≤ c := by omega
    have ho2 : Org w0 (bl [⟨(some ⟨g, 0, none⟩), .mp (mpE (Value.int .i64) (Value.int .i64) p), [], 0⟩]) [] [⟨B, ((List.take i r_).flatMap encI)⟩] := org_view encI_len (q := c) ho (sv_zero _ _ _).symm rfl
    have hS8 : ST w0 (bl [⟨(some ⟨g, 0, none⟩), .mp (mpE (Value.int .i64) (Value.int .i64) p), [], 0⟩]) _ [⟨(some ⟨g, 0, none⟩), .mp (mpE (Value.int .i64) (Value.int .i64) m4), [], 0⟩] [⟨B, ((List.take i r_).flatMap encI)⟩, ⟨B, (r_.flatMap encI)⟩] := ST.view encI_len hS7 (i := 0) rfl (lo := 0) (h := i) (q := c) (by omega) (by omega) (sv_zero _ _ _).symm rfl
    refine sq 42 rfl rfl (Y_slice0 (B := B) (m := r_.length) (c := c) (h := i) (s := 1) k_sl_137_3 k_sz_3_1 rfl rfl (bnd_some rfl rfl) (by omega)) ?_
    refine sq 43 rfl rfl (Y_len (B := B) (m := i) (c := c) k_sl_137_3 rfl rfl) ?_
    refine sq 44 rfl rfl (Y_move (v := .int .i64 0) rfl rfl) ?_
    refine rw_nil ?_
    obtain ⟨hN1, hb1⟩ := chk_inv hb1
    obtain ⟨z2, hz2, hF5⟩ := bind_inv hb1
    refine cw_block ?_
    refine cw_loop (fun k f w => ∃ (i1 : Nat) (m5 : List (Int × Int)), FF f [(0, .map (some g)), (1, .int .i64 coef1), (3, .int .i64 rest_), (8, .slice B r_.length c), (10, .int .i64 x), (27, .slice B r_.length c), (28, .int .i64 (r_.length : Int)), (29, .int .i64 (i : Int)), (42, .slice B i c), (43, .int .i64 (i : Int)), (44, .int .i64 (i1 : Int))] ∧ ST w0 (bl [⟨(some ⟨g, 0, none⟩), .mp (mpE (Value.int .i64) (Value.int .i64) p), [], 0⟩]) w [⟨(some ⟨g, 0, none⟩), .mp (mpE (Value.int .i64) (Value.int .i64) m5), [], 0⟩] [⟨B, ((List.take i r_).flatMap encI)⟩, ⟨B, (r_.flatMap encI)⟩] ∧ i1 + k = i ∧ forN (F_impl_polynomial_expand_l2 i r_ rest_ x coef1) k i1 m5 = some z2) i ⟨0, m4, (FF.cons (hf1.get 0 0 rfl) (FF.cons (hf1.get 1 1 rfl) (FF.cons (hf1.get 3 2 rfl) (FF.cons (hf1.get 8 3 rfl) (FF.cons rfl (FF.cons (hf1.get 27 4 rfl) (FF.cons (hf1.get 28 5 rfl) (FF.cons (hf1.get 29 6 rfl) (FF.cons rfl (FF.cons rfl (FF.cons rfl FF.nil))))))))))), (hS8.sel [0] rfl rfl), Nat.zero_add _, hz2⟩ ?_
    rintro k_2 f w ⟨i1, m5, hf2, hS9, hik1, hL2⟩
    refine cw_seq ?_
    refine cw_region ?_
    refine sq 45 rfl rfl (Y_lt (k := .i64) (a := (i1 : Int)) (b := (i : Int)) rfl (hf2.get 44 10 rfl) (hf2.get 43 9 rfl)) ?_
    refine rw_nil ?_
    refine cw_seq ?_
    refine cw_cond (b := (decide ((i1 : Int) < (i : Int)))) rfl (fun hlt2 => ?_) (fun hlt2 => ?_)
    · skip
      have hlt3 : i1 < i := by have h := of_decide_eq_true hlt2; omega
      obtain ⟨k_3, rfl⟩ : ∃ k2, k_2 = k2 + 1 := ⟨k_2 - 1, by omega⟩
      obtain ⟨y1, hb2, hL3⟩ := forN_go hL2
      unfold F_impl_polynomial_expand_l2 at hb2
      refine cw_skip ?_
      refine cw_seq ?_
      refine cw_block ?_
      refine cw_seq ?_
      refine cw_region ?_
      refine sq 46 rfl rfl (Y_move (v := .int .i64 (i1 : Int)) rfl (hf2.get 44 10 rfl)) ?_
      obtain ⟨x1, hx1, hb2⟩ := bind_inv hb2
      refine sq 47 rfl rfl (Y_index (B := B) (m := i) (c := c) (k := .i64) (i := (i1 : Int)) k_sl_137_3 k_sz_3_1 rfl (hf2.get 42 8 rfl) (hf2.get 44 10 rfl) (gi_isSome encI_len rfl (hS9.rf (i := 0) rfl) hx1) (getI_nn hx1) (getI_ltI hx1 hv)) ?_
      refine sq 48 rfl rfl (Y_load1 (B := B) (i := (i1 : Int).toNat * 1) (cs := ((List.take i r_).flatMap encI)) (v := .int .i64 x1) k_sc_3 rfl rfl (hS9.rf (i := 0) rfl) (gi_at0 encI_len hx1 rfl)) ?_
      refine sq 11 rfl rfl (Y_assign (v := .int .i64 (i1 : Int)) rfl rfl) ?_
      refine sq 12 rfl rfl (Y_assign (v := .int .i64 x1) rfl rfl) ?_
      refine rw_nil ?_
      refine cw_seq ?_
      refine cw_region ?_
      refine sq 49 rfl rfl (Y_move (v := .map (some g)) rfl (hf2.get 0 0 rfl)) ?_
      refine sq 50 rfl rfl (Y_move (v := .int .i64 rest_) rfl (hf2.get 3 2 rfl)) ?_
      refine sq 51 rfl rfl (Y_move (v := .int .i64 x) rfl (hf2.get 10 4 rfl)) ?_
      refine sq 52 rfl rfl (Y_bor (k := .i64) (a := rest_) (b := x) rfl rfl rfl) ?_
      refine sq 53 rfl rfl (Y_move (v := .int .i64 x1) rfl rfl) ?_
      refine sq 54 rfl rfl (Y_bor (k := .i64) (a := (bits .or .i64 rest_ x)) (b := x1) rfl rfl rfl) ?_
      refine sq 55 rfl rfl (Y_move (v := .int .i64 coef1) rfl (hf2.get 1 1 rfl)) ?_
      refine sq 56 rfl rfl (Y_mul (k := .i64) (a := (-2)) (b := coef1) rfl rfl rfl) ?_
      obtain ⟨m6, hc3, hb2⟩ := bind_inv hb2
      refine sc 57 rfl rfl (Yc_func (g := 105) (vs := [.map (some g), .int .i64 (bits .or .i64 (bits .or .i64 rest_ x) x1), .int .i64 (IntKind.i64.wrap ((-2) * coef1))]) k_call_105 rfl (mc rfl (mc rfl (mc rfl mn))) (c_impl_polynomial_add m5 (bits .or .i64 (bits .or .i64 rest_ x) x1) (IntKind.i64.wrap ((-2) * coef1)) g _  (hS9.inn [true] rfl [] rfl) hc3)) ?_
      rintro _ w_4 ⟨rfl, hd3⟩
      have hS10 := hS9.out [true] rfl hd3
      refine rw_nil ?_
      refine cw_seq ?_
      refine cw_region ?_
      refine sq 58 rfl rfl (Y_move (v := .slice B r_.length c) rfl (hf2.get 8 3 rfl)) ?_
      refine sq 59 rfl rfl (Y_move (v := .int .i64 (i1 : Int)) rfl rfl) ?_
      obtain ⟨hsl1, hb2⟩ := chk_inv hb2
      have hcap2 : r_.length ≤ c := hq
      have hv1 : (List.take i1 r_).length = i1 := (take_len rfl (by omega))
      have hq2 : i1 ≤ c := by omega
      have ho3 : Org w0 (bl [⟨(some ⟨g, 0, none⟩), .mp (mpE (Value.int .i64) (Value.int .i64) p), [], 0⟩]) [] [⟨B, ((List.take i1 r_).flatMap encI)⟩] := org_view encI_len (q := c) ho (sv_zero _ _ _).symm rfl
      have hS11 : ST w0 (bl [⟨(some ⟨g, 0, none⟩), .mp (mpE (Value.int .i64) (Value.int .i64) p), [], 0⟩]) _ [⟨(some ⟨g, 0, none⟩), .mp (mpE (Value.int .i64) (Value.int .i64) m6), [], 0⟩] [⟨B, ((List.take i1 r_).flatMap encI)⟩, ⟨B, ((List.take i r_).flatMap encI)⟩, ⟨B, (r_.flatMap encI)⟩] := ST.view encI_len hS10 (i := 1) rfl (lo := 0) (h := i1) (q := c) (by omega) (by omega) (sv_zero _ _ _).symm rfl
      refine sq 60 rfl rfl (Y_slice0 (B := B) (m := r_.length) (c := c) (h := i1) (s := 1) k_sl_137_3 k_sz_3_1 rfl rfl (bnd_some rfl rfl) (by omega)) ?_
      refine sq 61 rfl rfl (Y_len (B := B) (m := i1) (c := c) k_sl_137_3 rfl rfl) ?_
      refine sq 62 rfl rfl (Y_move (v := .int .i64 0) rfl rfl) ?_
      refine rw_nil ?_
      obtain ⟨hN2, hb2⟩ := chk_inv hb2
      obtain ⟨z3, hz3, hF6⟩ := bind_inv hb2
      refine cw_block ?_
      refine cw_loop (fun k f w => ∃ (i2 : Nat) (m7 : List (Int × Int)), FF f [(0, .map (some g)), (1, .int .i64 coef1), (3, .int .i64 rest_), (8, .slice B r_.length c), (10, .int .i64 x), (12, .int .i64 x1), (27, .slice B r_.length c), (28, .int .i64 (r_.length : Int)), (29, .int .i64 (i : Int)), (42, .slice B i c), (43, .int .i64 (i : Int)), (44, .int .i64 (i1 : Int)), (60, .slice B i1 c), (61, .int .i64 (i1 : Int)), (62, .int .i64 (i2 : Int))] ∧ ST w0 (bl [⟨(some ⟨g, 0, none⟩), .mp (mpE (Value.int .i64) (Value.int .i64) p), [], 0⟩]) w [⟨(some ⟨g, 0, none⟩), .mp (mpE (Value.int .i64) (Value.int .i64) m7), [], 0⟩] [⟨B, ((List.take i1 r_).flatMap encI)⟩, ⟨B, ((List.take i r_).flatMap encI)⟩, ⟨B, (r_.flatMap encI)⟩] ∧ i2 + k = i1 ∧ forN (F_impl_polynomial_expand_l3 i1 r_ rest_ x x1 coef1) k i2 m7 = some z3) i1 ⟨0, m6, (FF.cons (hf2.get 0 0 rfl) (FF.cons (hf2.get 1 1 rfl) (FF.cons (hf2.get 3 2 rfl) (FF.cons (hf2.get 8 3 rfl) (FF.cons (hf2.get 10 4 rfl) (FF.cons rfl (FF.cons (hf2.get 27 5 rfl) (FF.cons (hf2.get 28 6 rfl) (FF.cons (hf2.get 29 7 rfl) (FF.cons (hf2.get 42 8 rfl) (FF.cons (hf2.get 43 9 rfl) (FF.cons (hf2.get 44 10 rfl) (FF.cons rfl (FF.cons rfl (FF.cons rfl FF.nil))))))))))))))), (hS11.sel [0] rfl rfl), Nat.zero_add _, hz3⟩ ?_
      rintro k_4 f w ⟨i2, m7, hf3, hS12, hik2, hL4⟩
      refine cw_seq ?_
      refine cw_region ?_
      refine sq 63 rfl rfl (Y_lt (k := .i64) (a := (i2 : Int)) (b := (i1 : Int)) rfl (hf3.get 62 14 rfl) (hf3.get 61 13 rfl)) ?_
      refine rw_nil ?_
      refine cw_seq ?_
      refine cw_cond (b := (decide ((i2 : Int) < (i1 : Int)))) rfl (fun hlt4 => ?_) (fun hlt4 => ?_)
      · skip
        have hlt5 : i2 < i1 := by have h := of_decide_eq_true hlt4; omega
        obtain ⟨k_5, rfl⟩ : ∃ k2, k_4 = k2 + 1 := ⟨k_4 - 1, by omega⟩
        obtain ⟨y2, hb3, hL5⟩ := forN_go hL4
        unfold F_impl_polynomial_expand_l3 at hb3
        refine cw_skip ?_
        refine cw_seq ?_
        refine cw_block ?_
        refine cw_seq ?_
        refine cw_region ?_
        obtain ⟨x2, hx2, hb3⟩ := bind_inv hb3
        refine sq 64 rfl rfl (Y_index (B := B) (m := i1) (c := c) (k := .i64) (i := (i2 : Int)) k_sl_137_3 k_sz_3_1 rfl (hf3.get 60 12 rfl) (hf3.get 62 14 rfl) (gi_isSome encI_len rfl (hS12.rf (i := 0) rfl) hx2) (getI_nn hx2) (getI_ltI hx2 hv1)) ?_
        refine sq 65 rfl rfl (Y_load1 (B := B) (i := (i2 : Int).toNat * 1) (cs := ((List.take i1 r_).flatMap encI)) (v := .int .i64 x2) k_sc_3 rfl rfl (hS12.rf (i := 0) rfl) (gi_at0 encI_len hx2 rfl)) ?_
        refine sq 14 rfl rfl (Y_assign (v := .int .i64 x2) rfl rfl) ?_
        refine rw_nil ?_
        refine cw_region ?_
        refine sq 66 rfl rfl (Y_move (v := .map (some g)) rfl (hf3.get 0 0 rfl)) ?_
        refine sq 67 rfl rfl (Y_move (v := .int .i64 rest_) rfl (hf3.get 3 2 rfl)) ?_
        refine sq 68 rfl rfl (Y_move (v := .int .i64 x) rfl (hf3.get 10 4 rfl)) ?_
        refine sq 69 rfl rfl (Y_bor (k := .i64) (a := rest_) (b := x) rfl rfl rfl) ?_
        refine sq 70 rfl rfl (Y_move (v := .int .i64 x1) rfl (hf3.get 12 5 rfl)) ?_
        refine sq 71 rfl rfl (Y_bor (k := .i64) (a := (bits .or .i64 rest_ x)) (b := x1) rfl rfl rfl) ?_
        refine sq 72 rfl rfl (Y_move (v := .int .i64 x2) rfl rfl) ?_
        refine sq 73 rfl rfl (Y_bor (k := .i64) (a := (bits .or .i64 (bits .or .i64 rest_ x) x1)) (b := x2) rfl rfl rfl) ?_
        refine sq 74 rfl rfl (Y_move (v := .int .i64 coef1) rfl (hf3.get 1 1 rfl)) ?_
        refine sq 75 rfl rfl (Y_mul (k := .i64) (a := 4) (b := coef1) rfl rfl rfl) ?_
        obtain ⟨m8, hc4, hb3⟩ := bind_inv hb3
        refine sc 76 rfl rfl (Yc_func (g := 105) (vs := [.map (some g), .int .i64 (bits .or .i64 (bits .or .i64 (bits .or .i64 rest_ x) x1) x2), .int .i64 (IntKind.i64.wrap (4 * coef1))]) k_call_105 rfl (mc rfl (mc rfl (mc rfl mn))) (c_impl_polynomial_add m7 (bits .or .i64 (bits .or .i64 (bits .or .i64 rest_ x) x1) x2) (IntKind.i64.wrap (4 * coef1)) g _  (hS12.inn [true] rfl [] rfl) hc4)) ?_
        rintro _ w_5 ⟨rfl, hd4⟩
        have hS13 := hS12.out [true] rfl hd4
        refine rw_nil ?_
        refine cw_region ?_
        refine sq 77 rfl rfl (Y_add (k := .i64) (a := (i2 : Int)) (b := 1) rfl (hf3.get 62 14 rfl) rfl) ?_
        refine sq 62 rfl rfl (Y_move (v := .int .i64 (IntKind.i64.wrap ((i2 : Int) + 1))) rfl rfl) ?_
        refine rw_nil ?_
        obtain rfl := some_inj hb3
        exact ⟨k_5, Nat.lt_succ_self _, i2 + 1, m8, (FF.cons (hf3.get 0 0 rfl) (FF.cons (hf3.get 1 1 rfl) (FF.cons (hf3.get 3 2 rfl) (FF.cons (hf3.get 8 3 rfl) (FF.cons (hf3.get 10 4 rfl) (FF.cons (hf3.get 12 5 rfl) (FF.cons (hf3.get 27 6 rfl) (FF.cons (hf3.get 28 7 rfl) (FF.cons (hf3.get 29 8 rfl) (FF.cons (hf3.get 42 9 rfl) (FF.cons (hf3.get 43 10 rfl) (FF.cons (hf3.get 44 11 rfl) (FF.cons (hf3.get 60 12 rfl) (FF.cons (hf3.get 61 13 rfl) (FF.cons (congrArg (Value.int .i64) (wr_succ hlt5 hN2)) FF.nil))))))))))))))), (hS13.sel [0] rfl rfl), (by omega), hL5⟩
      · skip
        obtain rfl : k_4 = 0 := by have h := of_decide_eq_false hlt4; omega
        refine cw_exit rfl ?_
        obtain rfl := some_inj hL4
        refine cw_region ?_
        refine sq 78 rfl rfl (Y_add (k := .i64) (a := (i1 : Int)) (b := 1) rfl (hf3.get 44 11 rfl) rfl) ?_
        refine sq 44 rfl rfl (Y_move (v := .int .i64 (IntKind.i64.wrap ((i1 : Int) + 1))) rfl rfl) ?_
        refine rw_nil ?_
        obtain rfl := some_inj hF6
        have hS14 : ST w0 (bl [⟨(some ⟨g, 0, none⟩), .mp (mpE (Value.int .i64) (Value.int .i64) p), [], 0⟩]) _ [⟨(some ⟨g, 0, none⟩), .mp (mpE (Value.int .i64) (Value.int .i64) m7), [], 0⟩] [⟨B, ((List.take i r_).flatMap encI)⟩, ⟨B, (r_.flatMap encI)⟩] := ST.subR hS12 (subc (mem_at (i := 1) rfl) (subc (mem_at (i := 2) rfl) (fun _ h => by cases h)))
        exact ⟨k_3, Nat.lt_succ_self _, i1 + 1, m7, (FF.cons (hf3.get 0 0 rfl) (FF.cons (hf3.get 1 1 rfl) (FF.cons (hf3.get 3 2 rfl) (FF.cons (hf3.get 8 3 rfl) (FF.cons (hf3.get 10 4 rfl) (FF.cons (hf3.get 27 6 rfl) (FF.cons (hf3.get 28 7 rfl) (FF.cons (hf3.get 29 8 rfl) (FF.cons (hf3.get 42 9 rfl) (FF.cons (hf3.get 43 10 rfl) (FF.cons (congrArg (Value.int .i64) (wr_succ hlt3 hN1)) FF.nil))))))))))), (hS14.sel [0] rfl rfl), (by omega), hL3⟩
    · skip
      obtain rfl : k_2 = 0 := by have h := of_decide_eq_false hlt2; omega
      refine cw_exit rfl ?_
      obtain rfl := some_inj hL2
      refine cw_region ?_
      refine sq 79 rfl rfl (Y_add (k := .i64) (a := (i : Int)) (b := 1) rfl (hf2.get 29 7 rfl) rfl) ?_
      refine sq 29 rfl rfl (Y_move (v := .int .i64 (IntKind.i64.wrap ((i : Int) + 1))) rfl rfl) ?_
      refine rw_nil ?_
      obtain rfl := some_inj hF5
      have hS15 : ST w0 (bl [⟨(some ⟨g, 0, none⟩), .mp (mpE (Value.int .i64) (Value.int .i64) p), [], 0⟩]) _ [⟨(some ⟨g, 0, none⟩), .mp (mpE (Value.int .i64) (Value.int .i64) m5), [], 0⟩] [⟨B, (r_.flatMap encI)⟩] := ST.subR hS9 (subc (mem_at (i := 1) rfl) (fun _ h => by cases h))
      exact ⟨k_1, Nat.lt_succ_self _, i + 1, m5, (FF.cons (hf2.get 0 0 rfl) (FF.cons (hf2.get 1 1 rfl) (FF.cons (hf2.get 3 2 rfl) (FF.cons (hf2.get 8 3 rfl) (FF.cons (hf2.get 27 5 rfl) (FF.cons (hf2.get 28 6 rfl) (FF.cons (congrArg (Value.int .i64) (wr_succ hlt1 hN)) FF.nil))))))), ho, (len_le rfl hq), (hS15.sel [0] rfl rfl), (by omega), hL1⟩
  · skip
    obtain rfl : k_ = 0 := by have h := of_decide_eq_false hlt; omega
    refine cw_exit rfl ?_
    obtain rfl := some_inj hL
    obtain rfl := some_inj hF4
    exact ret0 Try.results104  ⟨rfl, (ST.subR (R' := []) (hS5.sel [0] rfl rfl) (fun _ h => by cases h))⟩

theorem c_impl_dropped (mask : Int) (v_ : Int)  (w0 : World)  (hS : ST w0 [] w0 [] []) {r_ : Int} (hF : F_impl_dropped mask v_ = some r_) :
    CV Try.prog 137 #[.int .i64 mask, .int .i64 v_] w0 (fun v w' => v = .int .i64 r_ ∧ ST w0 [] w' [] []) := by
  unfold F_impl_dropped at hF
  refine cv_of_cw 17 Try.func137 rfl Try.ntmps137 rfl ?_
  refine cw_seq ?_
  refine cw_region ?_
  refine sq 4 rfl rfl (Y_assign (v := .int .i64 0) rfl rfl) ?_
  refine rw_nil ?_
  refine cw_seq ?_
  obtain ⟨hsh, hF⟩ := chk_inv hF
  obtain ⟨hsh1, hF⟩ := chk_inv hF
  obtain ⟨hsh2, hF⟩ := chk_inv hF
  refine ra_start (ST.sel hS [] rfl rfl).fn (by kernel_rfl) ?_
  have hS1 := hS.drew
  refine ra_q 0 5 (v := .int .i64 mask) rfl rfl rfl (by kernel_rfl) (by kernel_rfl) (by kernel_rfl) (ST.sel hS1 [] rfl rfl) (fun w' hw' => (Y_move (v := .int .i64 mask) rfl rfl)) ?_
  refine ra_q 1 6 (v := .int .i64 v_) rfl rfl rfl (by kernel_rfl) (by kernel_rfl) (by kernel_rfl) (ST.sel hS1 [] rfl rfl) (fun w' hw' => (Y_move (v := .int .i64 v_) rfl rfl)) ?_
  refine ra_q 2 7 (v := .int .i64 (shlK .i64 1 v_)) rfl rfl rfl (by kernel_rfl) (by kernel_rfl) (by kernel_rfl) (ST.sel hS1 [] rfl rfl) (fun w' hw' => (Y_shl (k := .i64) (a := 1) (k' := .i64) (b := v_) rfl rfl rfl hsh)) ?_
  refine ra_q 3 8 (v := .int .i64 (IntKind.i64.wrap ((shlK .i64 1 v_) - 1))) rfl rfl rfl (by kernel_rfl) (by kernel_rfl) (by kernel_rfl) (ST.sel hS1 [] rfl rfl) (fun w' hw' => (Y_sub (k := .i64) (a := (shlK .i64 1 v_)) (b := 1) rfl rfl rfl)) ?_
  refine ra_q 4 9 (v := .int .i64 (bits .and .i64 mask (IntKind.i64.wrap ((shlK .i64 1 v_) - 1)))) rfl rfl rfl (by kernel_rfl) (by kernel_rfl) (by kernel_rfl) (ST.sel hS1 [] rfl rfl) (fun w' hw' => (Y_band (k := .i64) (a := mask) (b := (IntKind.i64.wrap ((shlK .i64 1 v_) - 1))) rfl rfl rfl)) ?_
  refine ra_q 5 10 (v := .int .i64 mask) rfl rfl rfl (by kernel_rfl) (by kernel_rfl) (by kernel_rfl) (ST.sel hS1 [] rfl rfl) (fun w' hw' => (Y_move (v := .int .i64 mask) rfl rfl)) ?_
  refine ra_q 6 11 (v := .int .i64 v_) rfl rfl rfl (by kernel_rfl) (by kernel_rfl) (by kernel_rfl) (ST.sel hS1 [] rfl rfl) (fun w' hw' => (Y_move (v := .int .i64 v_) rfl rfl)) ?_
  refine ra_q 7 12 (v := .int .i64 (IntKind.i64.wrap (v_ + 1))) rfl rfl rfl (by kernel_rfl) (by kernel_rfl) (by kernel_rfl) (ST.sel hS1 [] rfl rfl) (fun w' hw' => (Y_add (k := .i64) (a := v_) (b := 1) rfl rfl rfl)) ?_
  refine ra_q 8 13 (v := .int .i64 (shrK .i64 mask (IntKind.i64.wrap (v_ + 1)))) rfl rfl rfl (by kernel_rfl) (by kernel_rfl) (by kernel_rfl) (ST.sel hS1 [] rfl rfl) (fun w' hw' => (Y_shr (k := .i64) (a := mask) (k' := .i64) (b := (IntKind.i64.wrap (v_ + 1))) rfl rfl rfl hsh1)) ?_
  refine ra_q 9 14 (v := .int .i64 v_) rfl rfl rfl (by kernel_rfl) (by kernel_rfl) (by kernel_rfl) (ST.sel hS1 [] rfl rfl) (fun w' hw' => (Y_move (v := .int .i64 v_) rfl rfl)) ?_
  refine ra_q 10 15 (v := .int .i64 (shlK .i64 (shrK .i64 mask (IntKind.i64.wrap (v_ + 1))) v_)) rfl rfl rfl (by kernel_rfl) (by kernel_rfl) (by kernel_rfl) (ST.sel hS1 [] rfl rfl) (fun w' hw' => (Y_shl (k := .i64) (a := (shrK .i64 mask (IntKind.i64.wrap (v_ + 1)))) (k' := .i64) (b := v_) rfl rfl rfl hsh2)) ?_
  refine ra_q 11 16 (v := .int .i64 (bits .or .i64 (bits .and .i64 mask (IntKind.i64.wrap ((shlK .i64 1 v_) - 1))) (shlK .i64 (shrK .i64 mask (IntKind.i64.wrap (v_ + 1))) v_))) rfl rfl rfl (by kernel_rfl) (by kernel_rfl) (by kernel_rfl) (ST.sel hS1 [] rfl rfl) (fun w' hw' => (Y_bor (k := .i64) (a := (bits .and .i64 mask (IntKind.i64.wrap ((shlK .i64 1 v_) - 1)))) (b := (shlK .i64 (shrK .i64 mask (IntKind.i64.wrap (v_ + 1))) v_)) rfl rfl rfl)) ?_
  refine ra_q 12 4 (v := .int .i64 (bits .or .i64 (bits .and .i64 mask (IntKind.i64.wrap ((shlK .i64 1 v_) - 1))) (shlK .i64 (shrK .i64 mask (IntKind.i64.wrap (v_ + 1))) v_))) rfl rfl rfl (by kernel_rfl) (by kernel_rfl) (by kernel_rfl) (ST.sel hS1 [] rfl rfl) (fun w' hw' => (Y_assign (v := .int .i64 (bits .or .i64 (bits .and .i64 mask (IntKind.i64.wrap ((shlK .i64 1 v_) - 1))) (shlK .i64 (shrK .i64 mask (IntKind.i64.wrap (v_ + 1))) v_))) rfl rfl)) ?_
  refine ra_done (by kernel_rfl) ?_
  refine cw_ret ?_
  obtain rfl := some_inj hF
  exact ret1 Try.results137 (v1 := .int .i64 (bits .or .i64 (bits .and .i64 mask (IntKind.i64.wrap ((shlK .i64 1 v_) - 1))) (shlK .i64 (shrK .i64 mask (IntKind.i64.wrap (v_ + 1))) v_))) (resAt_tmp rfl) ⟨rfl, (ST.subR (R' := []) (hS1.sel [] rfl rfl) (fun _ h => by cases h))⟩

theorem c_impl_PathSum_without (p : TPathSum) (v_ : Int) (B : Option Addr) (c n : Nat) (B1 : Option Addr) (c1 n1 : Nat) (w0 : World) (hn : p.Terms.length = n) (hn1 : p.Out.length = n1) (hS : ST w0 [] w0 [] [⟨B, (p.Terms.flatMap enc_Term)⟩, ⟨B1, (p.Out.flatMap enc_Affine)⟩]) {r_ : TPathSum} (hF : F_impl_PathSum_without p v_ = some r_) :
    CV Try.prog 106 #[.agg #[.int .i64 p.Ins, .int .i64 p.Vars, .int .i64 p.Root, .int .i64 p.Phase, .slice B n c, .slice B1 n1 c1], .int .i64 v_] w0 (fun v w' => ∃ (B2 : Option Addr) (c2 : Nat) (B3 : Option Addr) (c3 : Nat), v = .agg #[.int .i64 r_.Ins, .int .i64 r_.Vars, .int .i64 r_.Root, .int .i64 r_.Phase, .slice B2 r_.Terms.length c2, .slice B3 r_.Out.length c3] ∧ ST w0 [] w' [⟨B2, 136, (r_.Terms.flatMap enc_Term), c2 * 2⟩, ⟨B3, 61, (r_.Out.flatMap enc_Affine), c3 * 2⟩] []) := by
  subst hn
  subst hn1
  unfold F_impl_PathSum_without at hF
  refine cv_of_cw 58 Try.func106 rfl Try.ntmps106 rfl ?_
  refine cw_seq ?_
  refine cw_region ?_
  refine ss 2 rfl rfl (Ys_box (T := 57) (v := .agg #[.int .i64 p.Ins, .int .i64 p.Vars, .int .i64 p.Root, .int .i64 p.Phase, .slice B p.Terms.length c, .slice B1 p.Out.length c1]) (cs := [.int .i64 p.Ins, .int .i64 p.Vars, .int .i64 p.Root, .int .i64 p.Phase, .slice B p.Terms.length c, .slice B1 p.Out.length c1]) (m := 6) hS rfl rfl rfl rfl) ?_
  rintro _ w_ ⟨b, rfl, hS1⟩
  refine ss 4 rfl rfl (Ys_alloc (T := 57) (cs := [.int .i64 0, .int .i64 0, .int .i64 0, .int .i64 0, .slice none 0 0, .slice none 0 0]) (m := 6) hS1 k_zero_57 rfl rfl rfl) ?_
  rintro _ w_1 ⟨b1, rfl, hS2⟩
  have hS2 : ST w0 [] _ [⟨some ⟨b, 0, none⟩, 57, [.int .i64 p.Ins, .int .i64 p.Vars, .int .i64 p.Root, .int .i64 p.Phase, .slice B p.Terms.length c, .slice B1 p.Out.length c1], 6⟩, ⟨some ⟨b1, 0, none⟩, 57, [.int .i64 0, .int .i64 0, .int .i64 0, .int .i64 0, .slice none 0 0, .slice none 0 0], 6⟩] [⟨B, (p.Terms.flatMap enc_Term)⟩, ⟨B1, (p.Out.flatMap enc_Affine)⟩] := hS2
  refine rw_nil ?_
  refine cw_seq ?_
  refine cw_region ?_
  refine sq 10 rfl rfl (Y_loadA (B := some ⟨b, 0, none⟩) (i := 0) (cs := [.int .i64 p.Ins, .int .i64 p.Vars, .int .i64 p.Root, .int .i64 p.Phase, .slice B p.Terms.length c, .slice B1 p.Out.length c1]) (vs := [.int .i64 p.Ins, .int .i64 p.Vars, .int .i64 p.Root, .int .i64 p.Phase, .slice B p.Terms.length c, .slice B1 p.Out.length c1]) k_ag_57 k_sz_57_6 rfl rfl (hS2.cf (i := 0) rfl) rfl rfl) ?_
  refine ss 5 rfl rfl (Ys_alloc (T := 57) (cs := [.int .i64 0, .int .i64 0, .int .i64 0, .int .i64 0, .slice none 0 0, .slice none 0 0]) (m := 6) hS2 k_zero_57 rfl rfl rfl) ?_
  rintro _ w_2 ⟨b2, rfl, hS3⟩
  have hS3 : ST w0 [] _ [⟨some ⟨b, 0, none⟩, 57, [.int .i64 p.Ins, .int .i64 p.Vars, .int .i64 p.Root, .int .i64 p.Phase, .slice B p.Terms.length c, .slice B1 p.Out.length c1], 6⟩, ⟨some ⟨b1, 0, none⟩, 57, [.int .i64 0, .int .i64 0, .int .i64 0, .int .i64 0, .slice none 0 0, .slice none 0 0], 6⟩, ⟨some ⟨b2, 0, none⟩, 57, [.int .i64 0, .int .i64 0, .int .i64 0, .int .i64 0, .slice none 0 0, .slice none 0 0], 6⟩] [⟨B, (p.Terms.flatMap enc_Term)⟩, ⟨B1, (p.Out.flatMap enc_Affine)⟩] := hS3
  refine ss0 rfl rfl (Ys_store (i := 2) (s := 6) (B := some ⟨b2, 0, none⟩) (T' := 57) (v := .agg #[.int .i64 p.Ins, .int .i64 p.Vars, .int .i64 p.Root, .int .i64 p.Phase, .slice B p.Terms.length c, .slice B1 p.Out.length c1]) (vs := [.int .i64 p.Ins, .int .i64 p.Vars, .int .i64 p.Root, .int .i64 p.Phase, .slice B p.Terms.length c, .slice B1 p.Out.length c1]) (k := 0) (cs' := [.int .i64 p.Ins, .int .i64 p.Vars, .int .i64 p.Root, .int .i64 p.Phase, .slice B p.Terms.length c, .slice B1 p.Out.length c1]) hS3 k_sz_57_6 rfl rfl rfl rfl rfl rfl rfl (Nat.le_of_ble_eq_true rfl) rfl rfl) ?_
  rintro _ w_3 ⟨rfl, hS4⟩
  have hS4 : ST w0 [] _ [⟨some ⟨b, 0, none⟩, 57, [.int .i64 p.Ins, .int .i64 p.Vars, .int .i64 p.Root, .int .i64 p.Phase, .slice B p.Terms.length c, .slice B1 p.Out.length c1], 6⟩, ⟨some ⟨b1, 0, none⟩, 57, [.int .i64 0, .int .i64 0, .int .i64 0, .int .i64 0, .slice none 0 0, .slice none 0 0], 6⟩, ⟨some ⟨b2, 0, none⟩, 57, [.int .i64 p.Ins, .int .i64 p.Vars, .int .i64 p.Root, .int .i64 p.Phase, .slice B p.Terms.length c, .slice B1 p.Out.length c1], 6⟩] [⟨B, (p.Terms.flatMap enc_Term)⟩, ⟨B1, (p.Out.flatMap enc_Affine)⟩] := hS4
  refine rw_nil ?_
  refine cw_seq ?_
  refine cw_region ?_
  refine sq 11 rfl rfl (Y_fieldAddr (B := some ⟨b2, 0, none⟩) (i := 0) (s := 0) k_fd_57_1_1_3 k_sz_3_1 rfl rfl) ?_
  refine sq 12 rfl rfl (Y_load1 (B := some ⟨b2, 0, none⟩) (i := 1) (cs := [.int .i64 p.Ins, .int .i64 p.Vars, .int .i64 p.Root, .int .i64 p.Phase, .slice B p.Terms.length c, .slice B1 p.Out.length c1]) (v := .int .i64 p.Vars) k_sc_3 rfl rfl (hS4.cf (i := 2) rfl) rfl) ?_
  refine sq 13 rfl rfl (Y_sub (k := .i64) (a := p.Vars) (b := 1) rfl rfl rfl) ?_
  refine sq 14 rfl rfl (Y_fieldAddr (B := some ⟨b2, 0, none⟩) (i := 0) (s := 0) k_fd_57_1_1_3 k_sz_3_1 rfl rfl) ?_
  refine ss0 rfl rfl (Ys_store (i := 2) (s := 1) (B := some ⟨b2, 0, none⟩) (T' := 57) (v := .int .i64 (IntKind.i64.wrap (p.Vars - 1))) (vs := [.int .i64 (IntKind.i64.wrap (p.Vars - 1))]) (k := 1) (cs' := [.int .i64 p.Ins, .int .i64 (IntKind.i64.wrap (p.Vars - 1)), .int .i64 p.Root, .int .i64 p.Phase, .slice B p.Terms.length c, .slice B1 p.Out.length c1]) hS4 k_sz_3_1 rfl rfl rfl rfl rfl rfl rfl (Nat.le_of_ble_eq_true rfl) rfl rfl) ?_
  rintro _ w_4 ⟨rfl, hS5⟩
  have hS5 : ST w0 [] _ [⟨some ⟨b, 0, none⟩, 57, [.int .i64 p.Ins, .int .i64 p.Vars, .int .i64 p.Root, .int .i64 p.Phase, .slice B p.Terms.length c, .slice B1 p.Out.length c1], 6⟩, ⟨some ⟨b1, 0, none⟩, 57, [.int .i64 0, .int .i64 0, .int .i64 0, .int .i64 0, .slice none 0 0, .slice none 0 0], 6⟩, ⟨some ⟨b2, 0, none⟩, 57, [.int .i64 p.Ins, .int .i64 (IntKind.i64.wrap (p.Vars - 1)), .int .i64 p.Root, .int .i64 p.Phase, .slice B p.Terms.length c, .slice B1 p.Out.length c1], 6⟩] [⟨B, (p.Terms.flatMap enc_Term)⟩, ⟨B1, (p.Out.flatMap enc_Affine)⟩] := hS5
  refine rw_nil ?_
  refine cw_seq ?_
  refine cw_region ?_
  refine sq 15 rfl rfl (Y_fieldAddr (B := some ⟨b2, 0, none⟩) (i := 0) (s := 0) k_fd_57_4_4_54 k_sz_54_1 rfl rfl) ?_
  refine ss0 rfl rfl (Ys_store (i := 2) (s := 1) (B := some ⟨b2, 0, none⟩) (T' := 57) (v := .slice none 0 0) (vs := [.slice none 0 0]) (k := 4) (cs' := [.int .i64 p.Ins, .int .i64 (IntKind.i64.wrap (p.Vars - 1)), .int .i64 p.Root, .int .i64 p.Phase, .slice none 0 0, .slice B1 p.Out.length c1]) hS5 k_sz_54_1 rfl rfl rfl rfl rfl rfl rfl (Nat.le_of_ble_eq_true rfl) rfl rfl) ?_
  rintro _ w_5 ⟨rfl, hS6⟩
  have hS6 : ST w0 [] _ [⟨some ⟨b, 0, none⟩, 57, [.int .i64 p.Ins, .int .i64 p.Vars, .int .i64 p.Root, .int .i64 p.Phase, .slice B p.Terms.length c, .slice B1 p.Out.length c1], 6⟩, ⟨some ⟨b1, 0, none⟩, 57, [.int .i64 0, .int .i64 0, .int .i64 0, .int .i64 0, .slice none 0 0, .slice none 0 0], 6⟩, ⟨some ⟨b2, 0, none⟩, 57, [.int .i64 p.Ins, .int .i64 (IntKind.i64.wrap (p.Vars - 1)), .int .i64 p.Root, .int .i64 p.Phase, .slice none 0 0, .slice B1 p.Out.length c1], 6⟩] [⟨B, (p.Terms.flatMap enc_Term)⟩, ⟨B1, (p.Out.flatMap enc_Affine)⟩] := hS6
  refine sq 16 rfl rfl (Y_fieldAddr (B := some ⟨b2, 0, none⟩) (i := 0) (s := 0) k_fd_57_5_5_55 k_sz_55_1 rfl rfl) ?_
  refine ss0 rfl rfl (Ys_store (i := 2) (s := 1) (B := some ⟨b2, 0, none⟩) (T' := 57) (v := .slice none 0 0) (vs := [.slice none 0 0]) (k := 5) (cs' := [.int .i64 p.Ins, .int .i64 (IntKind.i64.wrap (p.Vars - 1)), .int .i64 p.Root, .int .i64 p.Phase, .slice none 0 0, .slice none 0 0]) hS6 k_sz_55_1 rfl rfl rfl rfl rfl rfl rfl (Nat.le_of_ble_eq_true rfl) rfl rfl) ?_
  rintro _ w_6 ⟨rfl, hS7⟩
  have hS7 : ST w0 [] _ [⟨some ⟨b, 0, none⟩, 57, [.int .i64 p.Ins, .int .i64 p.Vars, .int .i64 p.Root, .int .i64 p.Phase, .slice B p.Terms.length c, .slice B1 p.Out.length c1], 6⟩, ⟨some ⟨b1, 0, none⟩, 57, [.int .i64 0, .int .i64 0, .int .i64 0, .int .i64 0, .slice none 0 0, .slice none 0 0], 6⟩, ⟨some ⟨b2, 0, none⟩, 57, [.int .i64 p.Ins, .int .i64 (IntKind.i64.wrap (p.Vars - 1)), .int .i64 p.Root, .int .i64 p.Phase, .slice none 0 0, .slice none 0 0], 6⟩] [⟨B, (p.Terms.flatMap enc_Term)⟩, ⟨B1, (p.Out.flatMap enc_Affine)⟩] := hS7
  refine rw_nil ?_
  refine cw_seq ?_
  refine cw_seq ?_
  refine cw_region ?_
  refine sq 17 rfl rfl (Y_fieldAddr (B := some ⟨b, 0, none⟩) (i := 0) (s := 0) k_fd_57_4_4_54 k_sz_54_1 rfl rfl) ?_
  refine sq 18 rfl rfl (Y_load1 (B := some ⟨b, 0, none⟩) (i := 4) (cs := [.int .i64 p.Ins, .int .i64 p.Vars, .int .i64 p.Root, .int .i64 p.Phase, .slice B p.Terms.length c, .slice B1 p.Out.length c1]) (v := .slice B p.Terms.length c) k_sc_54 rfl rfl (hS7.cf (i := 0) rfl) rfl) ?_
  refine sq 19 rfl rfl (Y_len (B := B) (m := p.Terms.length) (c := c) k_sl_54_136 rfl rfl) ?_
  refine sq 20 rfl rfl (Y_move (v := .int .i64 0) rfl rfl) ?_
  refine rw_nil ?_
  obtain ⟨z, hz, hF1⟩ := bind_inv hF
  have hS9 := hS7.addNil 136
  refine cw_block ?_
  refine cw_loop (fun k f w => ∃ (Terms : List TTerm) (t : Int) (B4 : Option Addr) (c4 : Nat), FF f [(1, .int .i64 v_), (2, pt (some ⟨b, 0, none⟩) 0), (4, pt (some ⟨b1, 0, none⟩) 0), (5, pt (some ⟨b2, 0, none⟩) 0), (18, .slice B p.Terms.length c), (19, .int .i64 (p.Terms.length : Int)), (20, .int .i64 t)] ∧ ST w0 [] w [⟨some ⟨b, 0, none⟩, 57, [.int .i64 p.Ins, .int .i64 p.Vars, .int .i64 p.Root, .int .i64 p.Phase, .slice B p.Terms.length c, .slice B1 p.Out.length c1], 6⟩, ⟨some ⟨b1, 0, none⟩, 57, [.int .i64 0, .int .i64 0, .int .i64 0, .int .i64 0, .slice none 0 0, .slice none 0 0], 6⟩, ⟨some ⟨b2, 0, none⟩, 57, [.int .i64 p.Ins, .int .i64 (IntKind.i64.wrap (p.Vars - 1)), .int .i64 p.Root, .int .i64 p.Phase, .slice B4 Terms.length c4, .slice none 0 0], 6⟩, ⟨B4, 136, (Terms.flatMap enc_Term), c4 * 2⟩] [⟨B, (p.Terms.flatMap enc_Term)⟩, ⟨B1, (p.Out.flatMap enc_Affine)⟩] ∧ whX (F_impl_PathSum_without_l1 p v_) k (Terms, t) = some z) fuel ⟨[], 0, none, 0, (FF.cons rfl (FF.cons rfl (FF.cons rfl (FF.cons rfl (FF.cons rfl (FF.cons rfl (FF.cons rfl FF.nil))))))), (hS9.sel [0, 1, 2, 3] rfl rfl), hz⟩ ?_
  rintro k_ f w ⟨Terms, t, B4, c4, hf, hS8, hL⟩
  obtain ⟨k_1, y, rfl, hb, hL1⟩ := whX_go hL
  unfold F_impl_PathSum_without_l1 at hb
  refine cw_seq ?_
  refine cw_region ?_
  refine sq 21 rfl rfl (Y_lt (k := .i64) (a := t) (b := (p.Terms.length : Int)) rfl (hf.get 20 6 rfl) (hf.get 19 5 rfl)) ?_
  refine rw_nil ?_
  refine cw_seq ?_
  refine cw_cond (b := (decide (t < (p.Terms.length : Int)))) rfl (fun hb1 => ?_) (fun hb1 => ?_)
  · skip
    have hF2 := ct hb hb1
    refine cw_skip ?_
    refine cw_seq ?_
    refine cw_block ?_
    refine cw_seq ?_
    refine cw_region ?_
    obtain ⟨x, hx, hF2⟩ := bind_inv hF2
    refine sq 22 rfl rfl (Y_index (B := B) (m := p.Terms.length) (c := c) (k := .i64) (i := t) k_sl_54_136 k_sz_136_2 rfl (hf.get 18 4 rfl) (hf.get 20 6 rfl) (gi_isSome enc_Term_len rfl (hS8.rf (i := 0) rfl) hx) (getI_nn hx) (getI_ltI hx rfl)) ?_
    refine sq 23 rfl rfl (Y_loadA (B := B) (i := t.toNat * 2) (cs := (p.Terms.flatMap enc_Term)) (vs := [.int .i64 x.Mask, .int .i64 x.Coef]) k_ag_136 k_sz_136_2 rfl rfl (hS8.rf (i := 0) rfl) (enc_Term_len x) (gi_seg enc_Term_len hx)) ?_
    refine ss 7 rfl rfl (Ys_alloc (T := 136) (cs := [.int .i64 0, .int .i64 0]) (m := 2) hS8 k_zero_136 rfl rfl rfl) ?_
    rintro _ w_7 ⟨b3, rfl, hS10⟩
    have hS10 : ST w0 [] _ [⟨some ⟨b, 0, none⟩, 57, [.int .i64 p.Ins, .int .i64 p.Vars, .int .i64 p.Root, .int .i64 p.Phase, .slice B p.Terms.length c, .slice B1 p.Out.length c1], 6⟩, ⟨some ⟨b1, 0, none⟩, 57, [.int .i64 0, .int .i64 0, .int .i64 0, .int .i64 0, .slice none 0 0, .slice none 0 0], 6⟩, ⟨some ⟨b2, 0, none⟩, 57, [.int .i64 p.Ins, .int .i64 (IntKind.i64.wrap (p.Vars - 1)), .int .i64 p.Root, .int .i64 p.Phase, .slice B4 Terms.length c4, .slice none 0 0], 6⟩, ⟨B4, 136, (Terms.flatMap enc_Term), c4 * 2⟩, ⟨some ⟨b3, 0, none⟩, 136, [.int .i64 0, .int .i64 0], 2⟩] [⟨B, (p.Terms.flatMap enc_Term)⟩, ⟨B1, (p.Out.flatMap enc_Affine)⟩] := hS10
    refine ss0 rfl rfl (Ys_store (i := 4) (s := 2) (B := some ⟨b3, 0, none⟩) (T' := 136) (v := .agg #[.int .i64 x.Mask, .int .i64 x.Coef]) (vs := [.int .i64 x.Mask, .int .i64 x.Coef]) (k := 0) (cs' := [.int .i64 x.Mask, .int .i64 x.Coef]) hS10 k_sz_136_2 rfl rfl rfl rfl rfl rfl rfl (Nat.le_of_ble_eq_true rfl) rfl rfl) ?_
    rintro _ w_8 ⟨rfl, hS11⟩
    have hS11 : ST w0 [] _ [⟨some ⟨b, 0, none⟩, 57, [.int .i64 p.Ins, .int .i64 p.Vars, .int .i64 p.Root, .int .i64 p.Phase, .slice B p.Terms.length c, .slice B1 p.Out.length c1], 6⟩, ⟨some ⟨b1, 0, none⟩, 57, [.int .i64 0, .int .i64 0, .int .i64 0, .int .i64 0, .slice none 0 0, .slice none 0 0], 6⟩, ⟨some ⟨b2, 0, none⟩, 57, [.int .i64 p.Ins, .int .i64 (IntKind.i64.wrap (p.Vars - 1)), .int .i64 p.Root, .int .i64 p.Phase, .slice B4 Terms.length c4, .slice none 0 0], 6⟩, ⟨B4, 136, (Terms.flatMap enc_Term), c4 * 2⟩, ⟨some ⟨b3, 0, none⟩, 136, [.int .i64 x.Mask, .int .i64 x.Coef], 2⟩] [⟨B, (p.Terms.flatMap enc_Term)⟩, ⟨B1, (p.Out.flatMap enc_Affine)⟩] := hS11
    refine rw_nil ?_
    obtain ⟨r_1, hc, hF2⟩ := bind_inv hF2
    obtain ⟨hap, hF2⟩ := chk_inv hF2
    refine cw_mid (fun f w => ∃ (B6 : Option Addr) (c6 : Nat), FF f [(1, .int .i64 v_), (2, pt (some ⟨b, 0, none⟩) 0), (4, pt (some ⟨b1, 0, none⟩) 0), (5, pt (some ⟨b2, 0, none⟩) 0), (18, .slice B p.Terms.length c), (19, .int .i64 (p.Terms.length : Int)), (20, .int .i64 t)] ∧ ST w0 [] w [⟨some ⟨b, 0, none⟩, 57, [.int .i64 p.Ins, .int .i64 p.Vars, .int .i64 p.Root, .int .i64 p.Phase, .slice B p.Terms.length c, .slice B1 p.Out.length c1], 6⟩, ⟨some ⟨b1, 0, none⟩, 57, [.int .i64 0, .int .i64 0, .int .i64 0, .int .i64 0, .slice none 0 0, .slice none 0 0], 6⟩, ⟨some ⟨b2, 0, none⟩, 57, [.int .i64 p.Ins, .int .i64 (IntKind.i64.wrap (p.Vars - 1)), .int .i64 p.Root, .int .i64 p.Phase, .slice B6 ((Terms ++ [(TTerm.mk r_1 x.Coef)]).length) c6, .slice none 0 0], 6⟩, ⟨B6, 136, ((Terms ++ [(TTerm.mk r_1 x.Coef)]).flatMap enc_Term), c6 * 2⟩] [⟨B, (p.Terms.flatMap enc_Term)⟩, ⟨B1, (p.Out.flatMap enc_Affine)⟩]) ?_ ?_
    · skip
      refine ra_start (ST.sel hS11 [0, 1, 4] rfl rfl).fn (by kernel_rfl) ?_
      have hS14 := hS11.drew
      refine ra_q 0 24 (v := pt (some ⟨b2, 0, none⟩) 4) rfl rfl rfl (by kernel_rfl) (by kernel_rfl) (by kernel_rfl) (ST.sel hS14 [0, 1, 4] rfl rfl) (fun w' hw' => (Y_fieldAddr (B := some ⟨b2, 0, none⟩) (i := 0) (s := 0) k_fd_57_4_4_54 k_sz_54_1 rfl (hf.get 5 3 rfl))) ?_
      refine ra_q 2 26 (v := pt (some ⟨b3, 0, none⟩) 0) rfl rfl rfl (by kernel_rfl) (by kernel_rfl) (by kernel_rfl) (ST.sel hS14 [0, 1, 4] rfl rfl) (fun w' hw' => (Y_fieldAddr (B := some ⟨b3, 0, none⟩) (i := 0) (s := 0) k_fd_136_0_0_3 k_sz_3_1 rfl rfl)) ?_
      refine ra_q 3 27 (v := .int .i64 x.Mask) rfl rfl rfl (by kernel_rfl) (by kernel_rfl) (by kernel_rfl) (ST.sel hS14 [0, 1, 4] rfl rfl) (fun w' hw' => (Y_load1 (B := some ⟨b3, 0, none⟩) (i := 0) (cs := [.int .i64 x.Mask, .int .i64 x.Coef]) (v := .int .i64 x.Mask) k_sc_3 rfl rfl (ST.cf hw' (i := 2) rfl) rfl)) ?_
      refine ra_q 4 28 (v := .int .i64 v_) rfl rfl rfl (by kernel_rfl) (by kernel_rfl) (by kernel_rfl) (ST.sel hS14 [0, 1, 4] rfl rfl) (fun w' hw' => (Y_move (v := .int .i64 v_) rfl (hf.get 1 0 rfl))) ?_
      refine ra_q 6 30 (v := pt (some ⟨b3, 0, none⟩) 1) rfl rfl rfl (by kernel_rfl) (by kernel_rfl) (by kernel_rfl) (ST.sel hS14 [0, 1, 4] rfl rfl) (fun w' hw' => (Y_fieldAddr (B := some ⟨b3, 0, none⟩) (i := 0) (s := 0) k_fd_136_1_1_3 k_sz_3_1 rfl rfl)) ?_
      refine ra_q 7 31 (v := .int .i64 x.Coef) rfl rfl rfl (by kernel_rfl) (by kernel_rfl) (by kernel_rfl) (ST.sel hS14 [0, 1, 4] rfl rfl) (fun w' hw' => (Y_load1 (B := some ⟨b3, 0, none⟩) (i := 1) (cs := [.int .i64 x.Mask, .int .i64 x.Coef]) (v := .int .i64 x.Coef) k_sc_3 rfl rfl (ST.cf hw' (i := 2) rfl) rfl)) ?_
      refine ra_all (rs := [1, 5]) (by kernel_rfl) rfl ?_
      refine ra_y 25 (i := 1) (v := .slice B4 Terms.length c4) rfl rfl rfl (Y_load1 (B := some ⟨b2, 0, none⟩) (i := 4) (cs := [.int .i64 p.Ins, .int .i64 (IntKind.i64.wrap (p.Vars - 1)), .int .i64 p.Root, .int .i64 p.Phase, .slice B4 Terms.length c4, .slice none 0 0]) (v := .slice B4 Terms.length c4) k_sc_54 rfl rfl (hS14.cf (i := 2) rfl) rfl) (ST.sel hS14 [0, 1, 4] rfl rfl) ?_ ?_
      · skip
        refine ra_all (rs := [5]) (by kernel_rfl) rfl ?_
        refine ra_c 29 (i := 5) rfl rfl rfl (Yc_func (g := 137) (vs := [.int .i64 x.Mask, .int .i64 v_]) k_call_137 rfl (mc rfl (mc rfl mn)) (c_impl_dropped x.Mask v_ _  (hS14.inn0 [] rfl) hc)) ?_ ?_
        · rintro _ w_9 ⟨rfl, hd⟩
          have hS15 := hS14.out00 hd
          have hS15 : ST w0 [] _ [⟨some ⟨b, 0, none⟩, 57, [.int .i64 p.Ins, .int .i64 p.Vars, .int .i64 p.Root, .int .i64 p.Phase, .slice B p.Terms.length c, .slice B1 p.Out.length c1], 6⟩, ⟨some ⟨b1, 0, none⟩, 57, [.int .i64 0, .int .i64 0, .int .i64 0, .int .i64 0, .slice none 0 0, .slice none 0 0], 6⟩, ⟨some ⟨b2, 0, none⟩, 57, [.int .i64 p.Ins, .int .i64 (IntKind.i64.wrap (p.Vars - 1)), .int .i64 p.Root, .int .i64 p.Phase, .slice B4 Terms.length c4, .slice none 0 0], 6⟩, ⟨B4, 136, (Terms.flatMap enc_Term), c4 * 2⟩, ⟨some ⟨b3, 0, none⟩, 136, [.int .i64 x.Mask, .int .i64 x.Coef], 2⟩] [⟨B, (p.Terms.flatMap enc_Term)⟩, ⟨B1, (p.Out.flatMap enc_Affine)⟩] := hS15
          refine ⟨(ST.sel hS15 [0, 1, 4] rfl rfl), ?_⟩
          refine ra_q 8 32 (v := .agg #[.int .i64 r_1, .int .i64 x.Coef]) rfl rfl rfl (by kernel_rfl) (by kernel_rfl) (by kernel_rfl) (ST.sel hS15 [0, 1, 4] rfl rfl) (fun w' hw' => (Y_buildS (zs := [.int .i64 0, .int .i64 0]) (vs := [(0, .int .i64 r_1), (1, .int .i64 x.Coef)]) (cs := [.int .i64 r_1, .int .i64 x.Coef]) k_pl_136 k_zero_136 rfl (mpc rfl (mpc rfl mpn)) rfl)) ?_
          refine ra_all (rs := [9]) (by kernel_rfl) rfl ?_
          refine ra_s 33 (i := 9) rfl rfl rfl (Ys_bslice (s := 2) (len := 1) (vs := [(0, .agg #[.int .i64 r_1, .int .i64 x.Coef])]) (cs := [.int .i64 r_1, .int .i64 x.Coef]) (zs := [.int .i64 0, .int .i64 0]) (m := 2) hS15 k_sl_54_136 k_sz_136_2 k_zc_136 rfl (mpc rfl mpn) rfl rfl rfl (by kernel_rfl) (by kernel_rfl) rfl) ?_ ?_
          · rintro _ w_10 ⟨b4, rfl, hS16⟩
            have hS16 : ST w0 [] _ [⟨some ⟨b, 0, none⟩, 57, [.int .i64 p.Ins, .int .i64 p.Vars, .int .i64 p.Root, .int .i64 p.Phase, .slice B p.Terms.length c, .slice B1 p.Out.length c1], 6⟩, ⟨some ⟨b1, 0, none⟩, 57, [.int .i64 0, .int .i64 0, .int .i64 0, .int .i64 0, .slice none 0 0, .slice none 0 0], 6⟩, ⟨some ⟨b2, 0, none⟩, 57, [.int .i64 p.Ins, .int .i64 (IntKind.i64.wrap (p.Vars - 1)), .int .i64 p.Root, .int .i64 p.Phase, .slice B4 Terms.length c4, .slice none 0 0], 6⟩, ⟨B4, 136, (Terms.flatMap enc_Term), c4 * 2⟩, ⟨some ⟨b3, 0, none⟩, 136, [.int .i64 x.Mask, .int .i64 x.Coef], 2⟩, ⟨some ⟨b4, 0, none⟩, 136, ([(TTerm.mk r_1 x.Coef)].flatMap enc_Term), 1 * 2⟩] [⟨B, (p.Terms.flatMap enc_Term)⟩, ⟨B1, (p.Out.flatMap enc_Affine)⟩] := hS16
            refine ⟨(ST.sel hS16 [0, 1, 4] rfl rfl), ?_⟩
            refine ra_all (rs := [10]) (by kernel_rfl) rfl ?_
            refine ra_s 34 (i := 10) rfl rfl rfl (Ys_append (s := 2) (by' := 16) (i := 3) (nn := Terms.length) (c := c4) (k := 1) (len := (Terms ++ [(TTerm.mk r_1 x.Coef)]).length) (B := B4) (xs := ([(TTerm.mk r_1 x.Coef)].flatMap enc_Term)) (cs' := ((Terms ++ [(TTerm.mk r_1 x.Coef)]).flatMap enc_Term)) hS16 k_sl_54_136 k_sz_136_2 k_by_136_16 k_zero_136 rfl (by decide) rfl rfl rfl rfl (fm_lenn (l := Terms) enc_Term_len rfl) rfl (hS16.cf (i := 5) rfl) (fm_lenn (l := [(TTerm.mk r_1 x.Coef)]) enc_Term_len rfl) (fm_one' (enc := enc_Term) enc_Term_one [(TTerm.mk r_1 x.Coef)]) (by have := hap; omega) (by have := hap; simp only [maxLen]; omega) (fm_app _ _) (app_len (l := Terms) (l' := [(TTerm.mk r_1 x.Coef)]) rfl rfl)) ?_ ?_
            · rintro _ w_11 ⟨B5, c5, rfl, hS17⟩
              have hS17 : ST w0 [] _ [⟨some ⟨b, 0, none⟩, 57, [.int .i64 p.Ins, .int .i64 p.Vars, .int .i64 p.Root, .int .i64 p.Phase, .slice B p.Terms.length c, .slice B1 p.Out.length c1], 6⟩, ⟨some ⟨b1, 0, none⟩, 57, [.int .i64 0, .int .i64 0, .int .i64 0, .int .i64 0, .slice none 0 0, .slice none 0 0], 6⟩, ⟨some ⟨b2, 0, none⟩, 57, [.int .i64 p.Ins, .int .i64 (IntKind.i64.wrap (p.Vars - 1)), .int .i64 p.Root, .int .i64 p.Phase, .slice B4 Terms.length c4, .slice none 0 0], 6⟩, ⟨B5, 136, ((Terms ++ [(TTerm.mk r_1 x.Coef)]).flatMap enc_Term), c5 * 2⟩, ⟨some ⟨b3, 0, none⟩, 136, [.int .i64 x.Mask, .int .i64 x.Coef], 2⟩, ⟨some ⟨b4, 0, none⟩, 136, ([(TTerm.mk r_1 x.Coef)].flatMap enc_Term), 1 * 2⟩] [⟨B, (p.Terms.flatMap enc_Term)⟩, ⟨B1, (p.Out.flatMap enc_Affine)⟩] := hS17
              refine ⟨(ST.sel hS17 [0, 1, 4] rfl rfl), ?_⟩
              refine ra_q 11 35 (v := pt (some ⟨b2, 0, none⟩) 4) rfl rfl rfl (by kernel_rfl) (by kernel_rfl) (by kernel_rfl) (ST.sel hS17 [0, 1, 4] rfl rfl) (fun w' hw' => (Y_fieldAddr (B := some ⟨b2, 0, none⟩) (i := 0) (s := 0) k_fd_57_4_4_54 k_sz_54_1 rfl (hf.get 5 3 rfl))) ?_
              refine ra_all (rs := [12]) (by kernel_rfl) rfl ?_
              refine ra_s0 (i := 12) rfl rfl rfl (Ys_store (i := 2) (s := 1) (B := some ⟨b2, 0, none⟩) (T' := 57) (v := .slice B5 ((Terms ++ [(TTerm.mk r_1 x.Coef)]).length) c5) (vs := [.slice B5 ((Terms ++ [(TTerm.mk r_1 x.Coef)]).length) c5]) (k := 4) (cs' := [.int .i64 p.Ins, .int .i64 (IntKind.i64.wrap (p.Vars - 1)), .int .i64 p.Root, .int .i64 p.Phase, .slice B5 ((Terms ++ [(TTerm.mk r_1 x.Coef)]).length) c5, .slice none 0 0]) hS17 k_sz_54_1 rfl rfl rfl rfl rfl rfl rfl (Nat.le_of_ble_eq_true rfl) rfl rfl) ?_ ?_
              · rintro _ w_12 ⟨rfl, hS18⟩
                have hS18 : ST w0 [] _ [⟨some ⟨b, 0, none⟩, 57, [.int .i64 p.Ins, .int .i64 p.Vars, .int .i64 p.Root, .int .i64 p.Phase, .slice B p.Terms.length c, .slice B1 p.Out.length c1], 6⟩, ⟨some ⟨b1, 0, none⟩, 57, [.int .i64 0, .int .i64 0, .int .i64 0, .int .i64 0, .slice none 0 0, .slice none 0 0], 6⟩, ⟨some ⟨b2, 0, none⟩, 57, [.int .i64 p.Ins, .int .i64 (IntKind.i64.wrap (p.Vars - 1)), .int .i64 p.Root, .int .i64 p.Phase, .slice B5 ((Terms ++ [(TTerm.mk r_1 x.Coef)]).length) c5, .slice none 0 0], 6⟩, ⟨B5, 136, ((Terms ++ [(TTerm.mk r_1 x.Coef)]).flatMap enc_Term), c5 * 2⟩, ⟨some ⟨b3, 0, none⟩, 136, [.int .i64 x.Mask, .int .i64 x.Coef], 2⟩, ⟨some ⟨b4, 0, none⟩, 136, ([(TTerm.mk r_1 x.Coef)].flatMap enc_Term), 1 * 2⟩] [⟨B, (p.Terms.flatMap enc_Term)⟩, ⟨B1, (p.Out.flatMap enc_Affine)⟩] := hS18
                refine ⟨(ST.sel hS18 [0, 1, 4] rfl rfl), ?_⟩
                refine ra_done (by kernel_rfl) ?_
                exact ⟨B5, c5, (FF.cons (hf.get 1 0 rfl) (FF.cons (hf.get 2 1 rfl) (FF.cons (hf.get 4 2 rfl) (FF.cons (hf.get 5 3 rfl) (FF.cons (hf.get 18 4 rfl) (FF.cons (hf.get 19 5 rfl) (FF.cons (hf.get 20 6 rfl) FF.nil))))))), (hS18.sel [0, 1, 2, 3] rfl rfl)⟩
              exact allR_nil
            exact allR_nil
          exact allR_nil
        exact allR_nil
      refine ra_c 29 (i := 5) rfl rfl rfl (Yc_func (g := 137) (vs := [.int .i64 x.Mask, .int .i64 v_]) k_call_137 rfl (mc rfl (mc rfl mn)) (c_impl_dropped x.Mask v_ _  (hS14.inn0 [] rfl) hc)) ?_ ?_
      · rintro _ w_13 ⟨rfl, hd1⟩
        have hS19 := hS14.out00 hd1
        have hS19 : ST w0 [] _ [⟨some ⟨b, 0, none⟩, 57, [.int .i64 p.Ins, .int .i64 p.Vars, .int .i64 p.Root, .int .i64 p.Phase, .slice B p.Terms.length c, .slice B1 p.Out.length c1], 6⟩, ⟨some ⟨b1, 0, none⟩, 57, [.int .i64 0, .int .i64 0, .int .i64 0, .int .i64 0, .slice none 0 0, .slice none 0 0], 6⟩, ⟨some ⟨b2, 0, none⟩, 57, [.int .i64 p.Ins, .int .i64 (IntKind.i64.wrap (p.Vars - 1)), .int .i64 p.Root, .int .i64 p.Phase, .slice B4 Terms.length c4, .slice none 0 0], 6⟩, ⟨B4, 136, (Terms.flatMap enc_Term), c4 * 2⟩, ⟨some ⟨b3, 0, none⟩, 136, [.int .i64 x.Mask, .int .i64 x.Coef], 2⟩] [⟨B, (p.Terms.flatMap enc_Term)⟩, ⟨B1, (p.Out.flatMap enc_Affine)⟩] := hS19
        refine ⟨(ST.sel hS19 [0, 1, 4] rfl rfl), ?_⟩
        refine ra_q 8 32 (v := .agg #[.int .i64 r_1, .int .i64 x.Coef]) rfl rfl rfl (by kernel_rfl) (by kernel_rfl) (by kernel_rfl) (ST.sel hS19 [0, 1, 4] rfl rfl) (fun w' hw' => (Y_buildS (zs := [.int .i64 0, .int .i64 0]) (vs := [(0, .int .i64 r_1), (1, .int .i64 x.Coef)]) (cs := [.int .i64 r_1, .int .i64 x.Coef]) k_pl_136 k_zero_136 rfl (mpc rfl (mpc rfl mpn)) rfl)) ?_
        refine ra_all (rs := [1, 9]) (by kernel_rfl) rfl ?_
        refine ra_y 25 (i := 1) (v := .slice B4 Terms.length c4) rfl rfl rfl (Y_load1 (B := some ⟨b2, 0, none⟩) (i := 4) (cs := [.int .i64 p.Ins, .int .i64 (IntKind.i64.wrap (p.Vars - 1)), .int .i64 p.Root, .int .i64 p.Phase, .slice B4 Terms.length c4, .slice none 0 0]) (v := .slice B4 Terms.length c4) k_sc_54 rfl rfl (hS19.cf (i := 2) rfl) rfl) (ST.sel hS19 [0, 1, 4] rfl rfl) ?_ ?_
        · skip
          refine ra_all (rs := [9]) (by kernel_rfl) rfl ?_
          refine ra_s 33 (i := 9) rfl rfl rfl (Ys_bslice (s := 2) (len := 1) (vs := [(0, .agg #[.int .i64 r_1, .int .i64 x.Coef])]) (cs := [.int .i64 r_1, .int .i64 x.Coef]) (zs := [.int .i64 0, .int .i64 0]) (m := 2) hS19 k_sl_54_136 k_sz_136_2 k_zc_136 rfl (mpc rfl mpn) rfl rfl rfl (by kernel_rfl) (by kernel_rfl) rfl) ?_ ?_
          · rintro _ w_14 ⟨b4, rfl, hS20⟩
            have hS20 : ST w0 [] _ [⟨some ⟨b, 0, none⟩, 57, [.int .i64 p.Ins, .int .i64 p.Vars, .int .i64 p.Root, .int .i64 p.Phase, .slice B p.Terms.length c, .slice B1 p.Out.length c1], 6⟩, ⟨some ⟨b1, 0, none⟩, 57, [.int .i64 0, .int .i64 0, .int .i64 0, .int .i64 0, .slice none 0 0, .slice none 0 0], 6⟩, ⟨some ⟨b2, 0, none⟩, 57, [.int .i64 p.Ins, .int .i64 (IntKind.i64.wrap (p.Vars - 1)), .int .i64 p.Root, .int .i64 p.Phase, .slice B4 Terms.length c4, .slice none 0 0], 6⟩, ⟨B4, 136, (Terms.flatMap enc_Term), c4 * 2⟩, ⟨some ⟨b3, 0, none⟩, 136, [.int .i64 x.Mask, .int .i64 x.Coef], 2⟩, ⟨some ⟨b4, 0, none⟩, 136, ([(TTerm.mk r_1 x.Coef)].flatMap enc_Term), 1 * 2⟩] [⟨B, (p.Terms.flatMap enc_Term)⟩, ⟨B1, (p.Out.flatMap enc_Affine)⟩] := hS20
            refine ⟨(ST.sel hS20 [0, 1, 4] rfl rfl), ?_⟩
            refine ra_all (rs := [10]) (by kernel_rfl) rfl ?_
            refine ra_s 34 (i := 10) rfl rfl rfl (Ys_append (s := 2) (by' := 16) (i := 3) (nn := Terms.length) (c := c4) (k := 1) (len := (Terms ++ [(TTerm.mk r_1 x.Coef)]).length) (B := B4) (xs := ([(TTerm.mk r_1 x.Coef)].flatMap enc_Term)) (cs' := ((Terms ++ [(TTerm.mk r_1 x.Coef)]).flatMap enc_Term)) hS20 k_sl_54_136 k_sz_136_2 k_by_136_16 k_zero_136 rfl (by decide) rfl rfl rfl rfl (fm_lenn (l := Terms) enc_Term_len rfl) rfl (hS20.cf (i := 5) rfl) (fm_lenn (l := [(TTerm.mk r_1 x.Coef)]) enc_Term_len rfl) (fm_one' (enc := enc_Term) enc_Term_one [(TTerm.mk r_1 x.Coef)]) (by have := hap; omega) (by have := hap; simp only [maxLen]; omega) (fm_app _ _) (app_len (l := Terms) (l' := [(TTerm.mk r_1 x.Coef)]) rfl rfl)) ?_ ?_
            · rintro _ w_15 ⟨B5, c5, rfl, hS21⟩
              have hS21 : ST w0 [] _ [⟨some ⟨b, 0, none⟩, 57, [.int .i64 p.Ins, .int .i64 p.Vars, .int .i64 p.Root, .int .i64 p.Phase, .slice B p.Terms.length c, .slice B1 p.Out.length c1], 6⟩, ⟨some ⟨b1, 0, none⟩, 57, [.int .i64 0, .int .i64 0, .int .i64 0, .int .i64 0, .slice none 0 0, .slice none 0 0], 6⟩, ⟨some ⟨b2, 0, none⟩, 57, [.int .i64 p.Ins, .int .i64 (IntKind.i64.wrap (p.Vars - 1)), .int .i64 p.Root, .int .i64 p.Phase, .slice B4 Terms.length c4, .slice none 0 0], 6⟩, ⟨B5, 136, ((Terms ++ [(TTerm.mk r_1 x.Coef)]).flatMap enc_Term), c5 * 2⟩, ⟨some ⟨b3, 0, none⟩, 136, [.int .i64 x.Mask, .int .i64 x.Coef], 2⟩, ⟨some ⟨b4, 0, none⟩, 136, ([(TTerm.mk r_1 x.Coef)].flatMap enc_Term), 1 * 2⟩] [⟨B, (p.Terms.flatMap enc_Term)⟩, ⟨B1, (p.Out.flatMap enc_Affine)⟩] := hS21
              refine ⟨(ST.sel hS21 [0, 1, 4] rfl rfl), ?_⟩
              refine ra_q 11 35 (v := pt (some ⟨b2, 0, none⟩) 4) rfl rfl rfl (by kernel_rfl) (by kernel_rfl) (by kernel_rfl) (ST.sel hS21 [0, 1, 4] rfl rfl) (fun w' hw' => (Y_fieldAddr (B := some ⟨b2, 0, none⟩) (i := 0) (s := 0) k_fd_57_4_4_54 k_sz_54_1 rfl (hf.get 5 3 rfl))) ?_
              refine ra_all (rs := [12]) (by kernel_rfl) rfl ?_
              refine ra_s0 (i := 12) rfl rfl rfl (Ys_store (i := 2) (s := 1) (B := some ⟨b2, 0, none⟩) (T' := 57) (v := .slice B5 ((Terms ++ [(TTerm.mk r_1 x.Coef)]).length) c5) (vs := [.slice B5 ((Terms ++ [(TTerm.mk r_1 x.Coef)]).length) c5]) (k := 4) (cs' := [.int .i64 p.Ins, .int .i64 (IntKind.i64.wrap (p.Vars - 1)), .int .i64 p.Root, .int .i64 p.Phase, .slice B5 ((Terms ++ [(TTerm.mk r_1 x.Coef)]).length) c5, .slice none 0 0]) hS21 k_sz_54_1 rfl rfl rfl rfl rfl rfl rfl (Nat.le_of_ble_eq_true rfl) rfl rfl) ?_ ?_
              · rintro _ w_16 ⟨rfl, hS22⟩
                have hS22 : ST w0 [] _ [⟨some ⟨b, 0, none⟩, 57, [.int .i64 p.Ins, .int .i64 p.Vars, .int .i64 p.Root, .int .i64 p.Phase, .slice B p.Terms.length c, .slice B1 p.Out.length c1], 6⟩, ⟨some ⟨b1, 0, none⟩, 57, [.int .i64 0, .int .i64 0, .int .i64 0, .int .i64 0, .slice none 0 0, .slice none 0 0], 6⟩, ⟨some ⟨b2, 0, none⟩, 57, [.int .i64 p.Ins, .int .i64 (IntKind.i64.wrap (p.Vars - 1)), .int .i64 p.Root, .int .i64 p.Phase, .slice B5 ((Terms ++ [(TTerm.mk r_1 x.Coef)]).length) c5, .slice none 0 0], 6⟩, ⟨B5, 136, ((Terms ++ [(TTerm.mk r_1 x.Coef)]).flatMap enc_Term), c5 * 2⟩, ⟨some ⟨b3, 0, none⟩, 136, [.int .i64 x.Mask, .int .i64 x.Coef], 2⟩, ⟨some ⟨b4, 0, none⟩, 136, ([(TTerm.mk r_1 x.Coef)].flatMap enc_Term), 1 * 2⟩] [⟨B, (p.Terms.flatMap enc_Term)⟩, ⟨B1, (p.Out.flatMap enc_Affine)⟩] := hS22
                refine ⟨(ST.sel hS22 [0, 1, 4] rfl rfl), ?_⟩
                refine ra_done (by kernel_rfl) ?_
                exact ⟨B5, c5, (FF.cons (hf.get 1 0 rfl) (FF.cons (hf.get 2 1 rfl) (FF.cons (hf.get 4 2 rfl) (FF.cons (hf.get 5 3 rfl) (FF.cons (hf.get 18 4 rfl) (FF.cons (hf.get 19 5 rfl) (FF.cons (hf.get 20 6 rfl) FF.nil))))))), (hS22.sel [0, 1, 2, 3] rfl rfl)⟩
              exact allR_nil
            exact allR_nil
          exact allR_nil
        refine ra_s 33 (i := 9) rfl rfl rfl (Ys_bslice (s := 2) (len := 1) (vs := [(0, .agg #[.int .i64 r_1, .int .i64 x.Coef])]) (cs := [.int .i64 r_1, .int .i64 x.Coef]) (zs := [.int .i64 0, .int .i64 0]) (m := 2) hS19 k_sl_54_136 k_sz_136_2 k_zc_136 rfl (mpc rfl mpn) rfl rfl rfl (by kernel_rfl) (by kernel_rfl) rfl) ?_ ?_
        · rintro _ w_17 ⟨b4, rfl, hS23⟩
          have hS23 : ST w0 [] _ [⟨some ⟨b, 0, none⟩, 57, [.int .i64 p.Ins, .int .i64 p.Vars, .int .i64 p.Root, .int .i64 p.Phase, .slice B p.Terms.length c, .slice B1 p.Out.length c1], 6⟩, ⟨some ⟨b1, 0, none⟩, 57, [.int .i64 0, .int .i64 0, .int .i64 0, .int .i64 0, .slice none 0 0, .slice none 0 0], 6⟩, ⟨some ⟨b2, 0, none⟩, 57, [.int .i64 p.Ins, .int .i64 (IntKind.i64.wrap (p.Vars - 1)), .int .i64 p.Root, .int .i64 p.Phase, .slice B4 Terms.length c4, .slice none 0 0], 6⟩, ⟨B4, 136, (Terms.flatMap enc_Term), c4 * 2⟩, ⟨some ⟨b3, 0, none⟩, 136, [.int .i64 x.Mask, .int .i64 x.Coef], 2⟩, ⟨some ⟨b4, 0, none⟩, 136, ([(TTerm.mk r_1 x.Coef)].flatMap enc_Term), 1 * 2⟩] [⟨B, (p.Terms.flatMap enc_Term)⟩, ⟨B1, (p.Out.flatMap enc_Affine)⟩] := hS23
          refine ⟨(ST.sel hS23 [0, 1, 4] rfl rfl), ?_⟩
          refine ra_all (rs := [1]) (by kernel_rfl) rfl ?_
          refine ra_y 25 (i := 1) (v := .slice B4 Terms.length c4) rfl rfl rfl (Y_load1 (B := some ⟨b2, 0, none⟩) (i := 4) (cs := [.int .i64 p.Ins, .int .i64 (IntKind.i64.wrap (p.Vars - 1)), .int .i64 p.Root, .int .i64 p.Phase, .slice B4 Terms.length c4, .slice none 0 0]) (v := .slice B4 Terms.length c4) k_sc_54 rfl rfl (hS23.cf (i := 2) rfl) rfl) (ST.sel hS23 [0, 1, 4] rfl rfl) ?_ ?_
          · skip
            refine ra_all (rs := [10]) (by kernel_rfl) rfl ?_
            refine ra_s 34 (i := 10) rfl rfl rfl (Ys_append (s := 2) (by' := 16) (i := 3) (nn := Terms.length) (c := c4) (k := 1) (len := (Terms ++ [(TTerm.mk r_1 x.Coef)]).length) (B := B4) (xs := ([(TTerm.mk r_1 x.Coef)].flatMap enc_Term)) (cs' := ((Terms ++ [(TTerm.mk r_1 x.Coef)]).flatMap enc_Term)) hS23 k_sl_54_136 k_sz_136_2 k_by_136_16 k_zero_136 rfl (by decide) rfl rfl rfl rfl (fm_lenn (l := Terms) enc_Term_len rfl) rfl (hS23.cf (i := 5) rfl) (fm_lenn (l := [(TTerm.mk r_1 x.Coef)]) enc_Term_len rfl) (fm_one' (enc := enc_Term) enc_Term_one [(TTerm.mk r_1 x.Coef)]) (by have := hap; omega) (by have := hap; simp only [maxLen]; omega) (fm_app _ _) (app_len (l := Terms) (l' := [(TTerm.mk r_1 x.Coef)]) rfl rfl)) ?_ ?_
            · rintro _ w_18 ⟨B5, c5, rfl, hS24⟩
              have hS24 : ST w0 [] _ [⟨some ⟨b, 0, none⟩, 57, [.int .i64 p.Ins, .int .i64 p.Vars, .int .i64 p.Root, .int .i64 p.Phase, .slice B p.Terms.length c, .slice B1 p.Out.length c1], 6⟩, ⟨some ⟨b1, 0, none⟩, 57, [.int .i64 0, .int .i64 0, .int .i64 0, .int .i64 0, .slice none 0 0, .slice none 0 0], 6⟩, ⟨some ⟨b2, 0, none⟩, 57, [.int .i64 p.Ins, .int .i64 (IntKind.i64.wrap (p.Vars - 1)), .int .i64 p.Root, .int .i64 p.Phase, .slice B4 Terms.length c4, .slice none 0 0], 6⟩, ⟨B5, 136, ((Terms ++ [(TTerm.mk r_1 x.Coef)]).flatMap enc_Term), c5 * 2⟩, ⟨some ⟨b3, 0, none⟩, 136, [.int .i64 x.Mask, .int .i64 x.Coef], 2⟩, ⟨some ⟨b4, 0, none⟩, 136, ([(TTerm.mk r_1 x.Coef)].flatMap enc_Term), 1 * 2⟩] [⟨B, (p.Terms.flatMap enc_Term)⟩, ⟨B1, (p.Out.flatMap enc_Affine)⟩] := hS24
              refine ⟨(ST.sel hS24 [0, 1, 4] rfl rfl), ?_⟩
              refine ra_q 11 35 (v := pt (some ⟨b2, 0, none⟩) 4) rfl rfl rfl (by kernel_rfl) (by kernel_rfl) (by kernel_rfl) (ST.sel hS24 [0, 1, 4] rfl rfl) (fun w' hw' => (Y_fieldAddr (B := some ⟨b2, 0, none⟩) (i := 0) (s := 0) k_fd_57_4_4_54 k_sz_54_1 rfl (hf.get 5 3 rfl))) ?_
              refine ra_all (rs := [12]) (by kernel_rfl) rfl ?_
              refine ra_s0 (i := 12) rfl rfl rfl (Ys_store (i := 2) (s := 1) (B := some ⟨b2, 0, none⟩) (T' := 57) (v := .slice B5 ((Terms ++ [(TTerm.mk r_1 x.Coef)]).length) c5) (vs := [.slice B5 ((Terms ++ [(TTerm.mk r_1 x.Coef)]).length) c5]) (k := 4) (cs' := [.int .i64 p.Ins, .int .i64 (IntKind.i64.wrap (p.Vars - 1)), .int .i64 p.Root, .int .i64 p.Phase, .slice B5 ((Terms ++ [(TTerm.mk r_1 x.Coef)]).length) c5, .slice none 0 0]) hS24 k_sz_54_1 rfl rfl rfl rfl rfl rfl rfl (Nat.le_of_ble_eq_true rfl) rfl rfl) ?_ ?_
              · rintro _ w_19 ⟨rfl, hS25⟩
                have hS25 : ST w0 [] _ [⟨some ⟨b, 0, none⟩, 57, [.int .i64 p.Ins, .int .i64 p.Vars, .int .i64 p.Root, .int .i64 p.Phase, .slice B p.Terms.length c, .slice B1 p.Out.length c1], 6⟩, ⟨some ⟨b1, 0, none⟩, 57, [.int .i64 0, .int .i64 0, .int .i64 0, .int .i64 0, .slice none 0 0, .slice none 0 0], 6⟩, ⟨some ⟨b2, 0, none⟩, 57, [.int .i64 p.Ins, .int .i64 (IntKind.i64.wrap (p.Vars - 1)), .int .i64 p.Root, .int .i64 p.Phase, .slice B5 ((Terms ++ [(TTerm.mk r_1 x.Coef)]).length) c5, .slice none 0 0], 6⟩, ⟨B5, 136, ((Terms ++ [(TTerm.mk r_1 x.Coef)]).flatMap enc_Term), c5 * 2⟩, ⟨some ⟨b3, 0, none⟩, 136, [.int .i64 x.Mask, .int .i64 x.Coef], 2⟩, ⟨some ⟨b4, 0, none⟩, 136, ([(TTerm.mk r_1 x.Coef)].flatMap enc_Term), 1 * 2⟩] [⟨B, (p.Terms.flatMap enc_Term)⟩, ⟨B1, (p.Out.flatMap enc_Affine)⟩] := hS25
                refine ⟨(ST.sel hS25 [0, 1, 4] rfl rfl), ?_⟩
                refine ra_done (by kernel_rfl) ?_
                exact ⟨B5, c5, (FF.cons (hf.get 1 0 rfl) (FF.cons (hf.get 2 1 rfl) (FF.cons (hf.get 4 2 rfl) (FF.cons (hf.get 5 3 rfl) (FF.cons (hf.get 18 4 rfl) (FF.cons (hf.get 19 5 rfl) (FF.cons (hf.get 20 6 rfl) FF.nil))))))), (hS25.sel [0, 1, 2, 3] rfl rfl)⟩
              exact allR_nil
            exact allR_nil
          exact allR_nil
        exact allR_nil
      exact allR_nil
    rintro f w ⟨B6, c6, hf1, hS13⟩
    refine cw_region ?_
    refine sq 36 rfl rfl (Y_add (k := .i64) (a := t) (b := 1) rfl (hf1.get 20 6 rfl) rfl) ?_
    refine sq 20 rfl rfl (Y_move (v := .int .i64 (IntKind.i64.wrap (t + 1))) rfl rfl) ?_
    refine rw_nil ?_
    obtain rfl := some_inj hF2
    exact ⟨k_1, Nat.lt_succ_self _, (Terms ++ [(TTerm.mk r_1 x.Coef)]), (IntKind.i64.wrap (t + 1)), B6, c6, (FF.cons (hf1.get 1 0 rfl) (FF.cons (hf1.get 2 1 rfl) (FF.cons (hf1.get 4 2 rfl) (FF.cons (hf1.get 5 3 rfl) (FF.cons (hf1.get 18 4 rfl) (FF.cons (hf1.get 19 5 rfl) (FF.cons rfl FF.nil))))))), (hS13.sel [0, 1, 2, 3] rfl rfl), hL1⟩
  · skip
    have hF3 := cf' hb hb1
    refine cw_exit rfl ?_
    obtain rfl := some_inj hF3
    obtain rfl := some_inj hL1
    refine cw_seq ?_
    refine cw_seq ?_
    refine cw_region ?_
    refine sq 37 rfl rfl (Y_fieldAddr (B := some ⟨b, 0, none⟩) (i := 0) (s := 0) k_fd_57_5_5_55 k_sz_55_1 rfl (hf.get 2 1 rfl)) ?_
    refine sq 38 rfl rfl (Y_load1 (B := some ⟨b, 0, none⟩) (i := 5) (cs := [.int .i64 p.Ins, .int .i64 p.Vars, .int .i64 p.Root, .int .i64 p.Phase, .slice B p.Terms.length c, .slice B1 p.Out.length c1]) (v := .slice B1 p.Out.length c1) k_sc_55 rfl rfl (hS8.cf (i := 0) rfl) rfl) ?_
    refine sq 39 rfl rfl (Y_len (B := B1) (m := p.Out.length) (c := c1) k_sl_55_61 rfl rfl) ?_
    refine sq 40 rfl rfl (Y_move (v := .int .i64 0) rfl rfl) ?_
    refine rw_nil ?_
    obtain ⟨z1, hz1, hF4⟩ := bind_inv hF1
    have hS27 := hS8.addNil 61
    refine cw_block ?_
    refine cw_loop (fun k f w => ∃ (Out : List TAffine) (t1 : Int) (B7 : Option Addr) (c7 : Nat), FF f [(1, .int .i64 v_), (4, pt (some ⟨b1, 0, none⟩) 0), (5, pt (some ⟨b2, 0, none⟩) 0), (38, .slice B1 p.Out.length c1), (39, .int .i64 (p.Out.length : Int)), (40, .int .i64 t1)] ∧ ST w0 [] w [⟨some ⟨b1, 0, none⟩, 57, [.int .i64 0, .int .i64 0, .int .i64 0, .int .i64 0, .slice none 0 0, .slice none 0 0], 6⟩, ⟨some ⟨b2, 0, none⟩, 57, [.int .i64 p.Ins, .int .i64 (IntKind.i64.wrap (p.Vars - 1)), .int .i64 p.Root, .int .i64 p.Phase, .slice B4 Terms.length c4, .slice B7 Out.length c7], 6⟩, ⟨B4, 136, (Terms.flatMap enc_Term), c4 * 2⟩, ⟨B7, 61, (Out.flatMap enc_Affine), c7 * 2⟩] [⟨B, (p.Terms.flatMap enc_Term)⟩, ⟨B1, (p.Out.flatMap enc_Affine)⟩] ∧ whX (F_impl_PathSum_without_l2 p v_) k (Out, t1) = some z1) fuel ⟨[], 0, none, 0, (FF.cons (hf.get 1 0 rfl) (FF.cons (hf.get 4 2 rfl) (FF.cons (hf.get 5 3 rfl) (FF.cons rfl (FF.cons rfl (FF.cons rfl FF.nil)))))), (hS27.sel [1, 2, 3, 4] rfl rfl), hz1⟩ ?_
    rintro k_2 f w ⟨Out, t1, B7, c7, hf2, hS26, hL2⟩
    obtain ⟨k_3, y1, rfl, hb2, hL3⟩ := whX_go hL2
    unfold F_impl_PathSum_without_l2 at hb2
    refine cw_seq ?_
    refine cw_region ?_
    refine sq 41 rfl rfl (Y_lt (k := .i64) (a := t1) (b := (p.Out.length : Int)) rfl (hf2.get 40 5 rfl) (hf2.get 39 4 rfl)) ?_
    refine rw_nil ?_
    refine cw_seq ?_
    refine cw_cond (b := (decide (t1 < (p.Out.length : Int)))) rfl (fun hb3 => ?_) (fun hb3 => ?_)
    · skip
      have hF5 := ct hb2 hb3
      refine cw_skip ?_
      refine cw_seq ?_
      refine cw_block ?_
      refine cw_seq ?_
      refine cw_region ?_
      obtain ⟨x1, hx1, hF5⟩ := bind_inv hF5
      refine sq 42 rfl rfl (Y_index (B := B1) (m := p.Out.length) (c := c1) (k := .i64) (i := t1) k_sl_55_61 k_sz_61_2 rfl (hf2.get 38 3 rfl) (hf2.get 40 5 rfl) (gi_isSome enc_Affine_len rfl (hS26.rf (i := 1) rfl) hx1) (getI_nn hx1) (getI_ltI hx1 rfl)) ?_
      refine sq 43 rfl rfl (Y_loadA (B := B1) (i := t1.toNat * 2) (cs := (p.Out.flatMap enc_Affine)) (vs := [.int .i64 x1.Mask, .int .i64 x1.Turn]) k_ag_61 k_sz_61_2 rfl rfl (hS26.rf (i := 1) rfl) (enc_Affine_len x1) (gi_seg enc_Affine_len hx1)) ?_
      refine ss 9 rfl rfl (Ys_alloc (T := 61) (cs := [.int .i64 0, .int .i64 0]) (m := 2) hS26 k_zero_61 rfl rfl rfl) ?_
      rintro _ w_20 ⟨b5, rfl, hS28⟩
      have hS28 : ST w0 [] _ [⟨some ⟨b1, 0, none⟩, 57, [.int .i64 0, .int .i64 0, .int .i64 0, .int .i64 0, .slice none 0 0, .slice none 0 0], 6⟩, ⟨some ⟨b2, 0, none⟩, 57, [.int .i64 p.Ins, .int .i64 (IntKind.i64.wrap (p.Vars - 1)), .int .i64 p.Root, .int .i64 p.Phase, .slice B4 Terms.length c4, .slice B7 Out.length c7], 6⟩, ⟨B4, 136, (Terms.flatMap enc_Term), c4 * 2⟩, ⟨B7, 61, (Out.flatMap enc_Affine), c7 * 2⟩, ⟨some ⟨b5, 0, none⟩, 61, [.int .i64 0, .int .i64 0], 2⟩] [⟨B, (p.Terms.flatMap enc_Term)⟩, ⟨B1, (p.Out.flatMap enc_Affine)⟩] := hS28
      refine ss0 rfl rfl (Ys_store (i := 4) (s := 2) (B := some ⟨b5, 0, none⟩) (T' := 61) (v := .agg #[.int .i64 x1.Mask, .int .i64 x1.Turn]) (vs := [.int .i64 x1.Mask, .int .i64 x1.Turn]) (k := 0) (cs' := [.int .i64 x1.Mask, .int .i64 x1.Turn]) hS28 k_sz_61_2 rfl rfl rfl rfl rfl rfl rfl (Nat.le_of_ble_eq_true rfl) rfl rfl) ?_
      rintro _ w_21 ⟨rfl, hS29⟩
      have hS29 : ST w0 [] _ [⟨some ⟨b1, 0, none⟩, 57, [.int .i64 0, .int .i64 0, .int .i64 0, .int .i64 0, .slice none 0 0, .slice none 0 0], 6⟩, ⟨some ⟨b2, 0, none⟩, 57, [.int .i64 p.Ins, .int .i64 (IntKind.i64.wrap (p.Vars - 1)), .int .i64 p.Root, .int .i64 p.Phase, .slice B4 Terms.length c4, .slice B7 Out.length c7], 6⟩, ⟨B4, 136, (Terms.flatMap enc_Term), c4 * 2⟩, ⟨B7, 61, (Out.flatMap enc_Affine), c7 * 2⟩, ⟨some ⟨b5, 0, none⟩, 61, [.int .i64 x1.Mask, .int .i64 x1.Turn], 2⟩] [⟨B, (p.Terms.flatMap enc_Term)⟩, ⟨B1, (p.Out.flatMap enc_Affine)⟩] := hS29
      refine rw_nil ?_
      obtain ⟨r_2, hc1, hF5⟩ := bind_inv hF5
      obtain ⟨hap1, hF5⟩ := chk_inv hF5
      refine cw_mid (fun f w => ∃ (B9 : Option Addr) (c9 : Nat), FF f [(1, .int .i64 v_), (4, pt (some ⟨b1, 0, none⟩) 0), (5, pt (some ⟨b2, 0, none⟩) 0), (38, .slice B1 p.Out.length c1), (39, .int .i64 (p.Out.length : Int)), (40, .int .i64 t1)] ∧ ST w0 [] w [⟨some ⟨b1, 0, none⟩, 57, [.int .i64 0, .int .i64 0, .int .i64 0, .int .i64 0, .slice none 0 0, .slice none 0 0], 6⟩, ⟨some ⟨b2, 0, none⟩, 57, [.int .i64 p.Ins, .int .i64 (IntKind.i64.wrap (p.Vars - 1)), .int .i64 p.Root, .int .i64 p.Phase, .slice B4 Terms.length c4, .slice B9 ((Out ++ [(TAffine.mk r_2 x1.Turn)]).length) c9], 6⟩, ⟨B4, 136, (Terms.flatMap enc_Term), c4 * 2⟩, ⟨B9, 61, ((Out ++ [(TAffine.mk r_2 x1.Turn)]).flatMap enc_Affine), c9 * 2⟩] [⟨B, (p.Terms.flatMap enc_Term)⟩, ⟨B1, (p.Out.flatMap enc_Affine)⟩]) ?_ ?_
      · skip
        refine ra_start (ST.sel hS29 [0, 2, 4] rfl rfl).fn (by kernel_rfl) ?_
        have hS32 := hS29.drew
        refine ra_q 0 44 (v := pt (some ⟨b2, 0, none⟩) 5) rfl rfl rfl (by kernel_rfl) (by kernel_rfl) (by kernel_rfl) (ST.sel hS32 [0, 2, 4] rfl rfl) (fun w' hw' => (Y_fieldAddr (B := some ⟨b2, 0, none⟩) (i := 0) (s := 0) k_fd_57_5_5_55 k_sz_55_1 rfl (hf2.get 5 2 rfl))) ?_
        refine ra_q 2 46 (v := pt (some ⟨b5, 0, none⟩) 0) rfl rfl rfl (by kernel_rfl) (by kernel_rfl) (by kernel_rfl) (ST.sel hS32 [0, 2, 4] rfl rfl) (fun w' hw' => (Y_fieldAddr (B := some ⟨b5, 0, none⟩) (i := 0) (s := 0) k_fd_61_0_0_3 k_sz_3_1 rfl rfl)) ?_
        refine ra_q 3 47 (v := .int .i64 x1.Mask) rfl rfl rfl (by kernel_rfl) (by kernel_rfl) (by kernel_rfl) (ST.sel hS32 [0, 2, 4] rfl rfl) (fun w' hw' => (Y_load1 (B := some ⟨b5, 0, none⟩) (i := 0) (cs := [.int .i64 x1.Mask, .int .i64 x1.Turn]) (v := .int .i64 x1.Mask) k_sc_3 rfl rfl (ST.cf hw' (i := 2) rfl) rfl)) ?_
        refine ra_q 4 48 (v := .int .i64 v_) rfl rfl rfl (by kernel_rfl) (by kernel_rfl) (by kernel_rfl) (ST.sel hS32 [0, 2, 4] rfl rfl) (fun w' hw' => (Y_move (v := .int .i64 v_) rfl (hf2.get 1 0 rfl))) ?_
        refine ra_q 6 50 (v := pt (some ⟨b5, 0, none⟩) 1) rfl rfl rfl (by kernel_rfl) (by kernel_rfl) (by kernel_rfl) (ST.sel hS32 [0, 2, 4] rfl rfl) (fun w' hw' => (Y_fieldAddr (B := some ⟨b5, 0, none⟩) (i := 0) (s := 0) k_fd_61_1_1_3 k_sz_3_1 rfl rfl)) ?_
        refine ra_q 7 51 (v := .int .i64 x1.Turn) rfl rfl rfl (by kernel_rfl) (by kernel_rfl) (by kernel_rfl) (ST.sel hS32 [0, 2, 4] rfl rfl) (fun w' hw' => (Y_load1 (B := some ⟨b5, 0, none⟩) (i := 1) (cs := [.int .i64 x1.Mask, .int .i64 x1.Turn]) (v := .int .i64 x1.Turn) k_sc_3 rfl rfl (ST.cf hw' (i := 2) rfl) rfl)) ?_
        refine ra_all (rs := [1, 5]) (by kernel_rfl) rfl ?_
        refine ra_y 45 (i := 1) (v := .slice B7 Out.length c7) rfl rfl rfl (Y_load1 (B := some ⟨b2, 0, none⟩) (i := 5) (cs := [.int .i64 p.Ins, .int .i64 (IntKind.i64.wrap (p.Vars - 1)), .int .i64 p.Root, .int .i64 p.Phase, .slice B4 Terms.length c4, .slice B7 Out.length c7]) (v := .slice B7 Out.length c7) k_sc_55 rfl rfl (hS32.cf (i := 1) rfl) rfl) (ST.sel hS32 [0, 2, 4] rfl rfl) ?_ ?_
        · skip
          refine ra_all (rs := [5]) (by kernel_rfl) rfl ?_
          refine ra_c 49 (i := 5) rfl rfl rfl (Yc_func (g := 137) (vs := [.int .i64 x1.Mask, .int .i64 v_]) k_call_137 rfl (mc rfl (mc rfl mn)) (c_impl_dropped x1.Mask v_ _  (hS32.inn0 [] rfl) hc1)) ?_ ?_
          · rintro _ w_22 ⟨rfl, hd2⟩
            have hS33 := hS32.out00 hd2
            have hS33 : ST w0 [] _ [⟨some ⟨b1, 0, none⟩, 57, [.int .i64 0, .int .i64 0, .int .i64 0, .int .i64 0, .slice none 0 0, .slice none 0 0], 6⟩, ⟨some ⟨b2, 0, none⟩, 57, [.int .i64 p.Ins, .int .i64 (IntKind.i64.wrap (p.Vars - 1)), .int .i64 p.Root, .int .i64 p.Phase, .slice B4 Terms.length c4, .slice B7 Out.length c7], 6⟩, ⟨B4, 136, (Terms.flatMap enc_Term), c4 * 2⟩, ⟨B7, 61, (Out.flatMap enc_Affine), c7 * 2⟩, ⟨some ⟨b5, 0, none⟩, 61, [.int .i64 x1.Mask, .int .i64 x1.Turn], 2⟩] [⟨B, (p.Terms.flatMap enc_Term)⟩, ⟨B1, (p.Out.flatMap enc_Affine)⟩] := hS33
            refine ⟨(ST.sel hS33 [0, 2, 4] rfl rfl), ?_⟩
            refine ra_q 8 52 (v := .agg #[.int .i64 r_2, .int .i64 x1.Turn]) rfl rfl rfl (by kernel_rfl) (by kernel_rfl) (by kernel_rfl) (ST.sel hS33 [0, 2, 4] rfl rfl) (fun w' hw' => (Y_buildS (zs := [.int .i64 0, .int .i64 0]) (vs := [(0, .int .i64 r_2), (1, .int .i64 x1.Turn)]) (cs := [.int .i64 r_2, .int .i64 x1.Turn]) k_pl_61 k_zero_61 rfl (mpc rfl (mpc rfl mpn)) rfl)) ?_
            refine ra_all (rs := [9]) (by kernel_rfl) rfl ?_
            refine ra_s 53 (i := 9) rfl rfl rfl (Ys_bslice (s := 2) (len := 1) (vs := [(0, .agg #[.int .i64 r_2, .int .i64 x1.Turn])]) (cs := [.int .i64 r_2, .int .i64 x1.Turn]) (zs := [.int .i64 0, .int .i64 0]) (m := 2) hS33 k_sl_55_61 k_sz_61_2 k_zc_61 rfl (mpc rfl mpn) rfl rfl rfl (by kernel_rfl) (by kernel_rfl) rfl) ?_ ?_
            · rintro _ w_23 ⟨b6, rfl, hS34⟩
              have hS34 : ST w0 [] _ [⟨some ⟨b1, 0, none⟩, 57, [.int .i64 0, .int .i64 0, .int .i64 0, .int .i64 0, .slice none 0 0, .slice none 0 0], 6⟩, ⟨some ⟨b2, 0, none⟩, 57, [.int .i64 p.Ins, .int .i64 (IntKind.i64.wrap (p.Vars - 1)), .int .i64 p.Root, .int .i64 p.Phase, .slice B4 Terms.length c4, .slice B7 Out.length c7], 6⟩, ⟨B4, 136, (Terms.flatMap enc_Term), c4 * 2⟩, ⟨B7, 61, (Out.flatMap enc_Affine), c7 * 2⟩, ⟨some ⟨b5, 0, none⟩, 61, [.int .i64 x1.Mask, .int .i64 x1.Turn], 2⟩, ⟨some ⟨b6, 0, none⟩, 61, ([(TAffine.mk r_2 x1.Turn)].flatMap enc_Affine), 1 * 2⟩] [⟨B, (p.Terms.flatMap enc_Term)⟩, ⟨B1, (p.Out.flatMap enc_Affine)⟩] := hS34
              refine ⟨(ST.sel hS34 [0, 2, 4] rfl rfl), ?_⟩
              refine ra_all (rs := [10]) (by kernel_rfl) rfl ?_
              refine ra_s 54 (i := 10) rfl rfl rfl (Ys_append (s := 2) (by' := 16) (i := 3) (nn := Out.length) (c := c7) (k := 1) (len := (Out ++ [(TAffine.mk r_2 x1.Turn)]).length) (B := B7) (xs := ([(TAffine.mk r_2 x1.Turn)].flatMap enc_Affine)) (cs' := ((Out ++ [(TAffine.mk r_2 x1.Turn)]).flatMap enc_Affine)) hS34 k_sl_55_61 k_sz_61_2 k_by_61_16 k_zero_61 rfl (by decide) rfl rfl rfl rfl (fm_lenn (l := Out) enc_Affine_len rfl) rfl (hS34.cf (i := 5) rfl) (fm_lenn (l := [(TAffine.mk r_2 x1.Turn)]) enc_Affine_len rfl) (fm_one' (enc := enc_Affine) enc_Affine_one [(TAffine.mk r_2 x1.Turn)]) (by have := hap1; omega) (by have := hap1; simp only [maxLen]; omega) (fm_app _ _) (app_len (l := Out) (l' := [(TAffine.mk r_2 x1.Turn)]) rfl rfl)) ?_ ?_
              · rintro _ w_24 ⟨B8, c8, rfl, hS35⟩
                have hS35 : ST w0 [] _ [⟨some ⟨b1, 0, none⟩, 57, [.int .i64 0, .int .i64 0, .int .i64 0, .int .i64 0, .slice none 0 0, .slice none 0 0], 6⟩, ⟨some ⟨b2, 0, none⟩, 57, [.int .i64 p.Ins, .int .i64 (IntKind.i64.wrap (p.Vars - 1)), .int .i64 p.Root, .int .i64 p.Phase, .slice B4 Terms.length c4, .slice B7 Out.length c7], 6⟩, ⟨B4, 136, (Terms.flatMap enc_Term), c4 * 2⟩, ⟨B8, 61, ((Out ++ [(TAffine.mk r_2 x1.Turn)]).flatMap enc_Affine), c8 * 2⟩, ⟨some ⟨b5, 0, none⟩, 61, [.int .i64 x1.Mask, .int .i64 x1.Turn], 2⟩, ⟨some ⟨b6, 0, none⟩, 61, ([(TAffine.mk r_2 x1.Turn)].flatMap enc_Affine), 1 * 2⟩] [⟨B, (p.Terms.flatMap enc_Term)⟩, ⟨B1, (p.Out.flatMap enc_Affine)⟩] := hS35
                refine ⟨(ST.sel hS35 [0, 2, 4] rfl rfl), ?_⟩
                refine ra_q 11 55 (v := pt (some ⟨b2, 0, none⟩) 5) rfl rfl rfl (by kernel_rfl) (by kernel_rfl) (by kernel_rfl) (ST.sel hS35 [0, 2, 4] rfl rfl) (fun w' hw' => (Y_fieldAddr (B := some ⟨b2, 0, none⟩) (i := 0) (s := 0) k_fd_57_5_5_55 k_sz_55_1 rfl (hf2.get 5 2 rfl))) ?_
                refine ra_all (rs := [12]) (by kernel_rfl) rfl ?_
                refine ra_s0 (i := 12) rfl rfl rfl (Ys_store (i := 1) (s := 1) (B := some ⟨b2, 0, none⟩) (T' := 57) (v := .slice B8 ((Out ++ [(TAffine.mk r_2 x1.Turn)]).length) c8) (vs := [.slice B8 ((Out ++ [(TAffine.mk r_2 x1.Turn)]).length) c8]) (k := 5) (cs' := [.int .i64 p.Ins, .int .i64 (IntKind.i64.wrap (p.Vars - 1)), .int .i64 p.Root, .int .i64 p.Phase, .slice B4 Terms.length c4, .slice B8 ((Out ++ [(TAffine.mk r_2 x1.Turn)]).length) c8]) hS35 k_sz_55_1 rfl rfl rfl rfl rfl rfl rfl (Nat.le_of_ble_eq_true rfl) rfl rfl) ?_ ?_
                · rintro _ w_25 ⟨rfl, hS36⟩
                  have hS36 : ST w0 [] _ [⟨some ⟨b1, 0, none⟩, 57, [.int .i64 0, .int .i64 0, .int .i64 0, .int .i64 0, .slice none 0 0, .slice none 0 0], 6⟩, ⟨some ⟨b2, 0, none⟩, 57, [.int .i64 p.Ins, .int .i64 (IntKind.i64.wrap (p.Vars - 1)), .int .i64 p.Root, .int .i64 p.Phase, .slice B4 Terms.length c4, .slice B8 ((Out ++ [(TAffine.mk r_2 x1.Turn)]).length) c8], 6⟩, ⟨B4, 136, (Terms.flatMap enc_Term), c4 * 2⟩, ⟨B8, 61, ((Out ++ [(TAffine.mk r_2 x1.Turn)]).flatMap enc_Affine), c8 * 2⟩, ⟨some ⟨b5, 0, none⟩, 61, [.int .i64 x1.Mask, .int .i64 x1.Turn], 2⟩, ⟨some ⟨b6, 0, none⟩, 61, ([(TAffine.mk r_2 x1.Turn)].flatMap enc_Affine), 1 * 2⟩] [⟨B, (p.Terms.flatMap enc_Term)⟩, ⟨B1, (p.Out.flatMap enc_Affine)⟩] := hS36
                  refine ⟨(ST.sel hS36 [0, 2, 4] rfl rfl), ?_⟩
                  refine ra_done (by kernel_rfl) ?_
                  exact ⟨B8, c8, (FF.cons (hf2.get 1 0 rfl) (FF.cons (hf2.get 4 1 rfl) (FF.cons (hf2.get 5 2 rfl) (FF.cons (hf2.get 38 3 rfl) (FF.cons (hf2.get 39 4 rfl) (FF.cons (hf2.get 40 5 rfl) FF.nil)))))), (hS36.sel [0, 1, 2, 3] rfl rfl)⟩
                exact allR_nil
              exact allR_nil
            exact allR_nil
          exact allR_nil
        refine ra_c 49 (i := 5) rfl rfl rfl (Yc_func (g := 137) (vs := [.int .i64 x1.Mask, .int .i64 v_]) k_call_137 rfl (mc rfl (mc rfl mn)) (c_impl_dropped x1.Mask v_ _  (hS32.inn0 [] rfl) hc1)) ?_ ?_
        · rintro _ w_26 ⟨rfl, hd3⟩
          have hS37 := hS32.out00 hd3
          have hS37 : ST w0 [] _ [⟨some ⟨b1, 0, none⟩, 57, [.int .i64 0, .int .i64 0, .int .i64 0, .int .i64 0, .slice none 0 0, .slice none 0 0], 6⟩, ⟨some ⟨b2, 0, none⟩, 57, [.int .i64 p.Ins, .int .i64 (IntKind.i64.wrap (p.Vars - 1)), .int .i64 p.Root, .int .i64 p.Phase, .slice B4 Terms.length c4, .slice B7 Out.length c7], 6⟩, ⟨B4, 136, (Terms.flatMap enc_Term), c4 * 2⟩, ⟨B7, 61, (Out.flatMap enc_Affine), c7 * 2⟩, ⟨some ⟨b5, 0, none⟩, 61, [.int .i64 x1.Mask, .int .i64 x1.Turn], 2⟩] [⟨B, (p.Terms.flatMap enc_Term)⟩, ⟨B1, (p.Out.flatMap enc_Affine)⟩] := hS37
          refine ⟨(ST.sel hS37 [0, 2, 4] rfl rfl), ?_⟩
          refine ra_q 8 52 (v := .agg #[.int .i64 r_2, .int .i64 x1.Turn]) rfl rfl rfl (by kernel_rfl) (by kernel_rfl) (by kernel_rfl) (ST.sel hS37 [0, 2, 4] rfl rfl) (fun w' hw' => (Y_buildS (zs := [.int .i64 0, .int .i64 0]) (vs := [(0, .int .i64 r_2), (1, .int .i64 x1.Turn)]) (cs := [.int .i64 r_2, .int .i64 x1.Turn]) k_pl_61 k_zero_61 rfl (mpc rfl (mpc rfl mpn)) rfl)) ?_
          refine ra_all (rs := [1, 9]) (by kernel_rfl) rfl ?_
          refine ra_y 45 (i := 1) (v := .slice B7 Out.length c7) rfl rfl rfl (Y_load1 (B := some ⟨b2, 0, none⟩) (i := 5) (cs := [.int .i64 p.Ins, .int .i64 (IntKind.i64.wrap (p.Vars - 1)), .int .i64 p.Root, .int .i64 p.Phase, .slice B4 Terms.length c4, .slice B7 Out.length c7]) (v := .slice B7 Out.length c7) k_sc_55 rfl rfl (hS37.cf (i := 1) rfl) rfl) (ST.sel hS37 [0, 2, 4] rfl rfl) ?_ ?_
          · skip
            refine ra_all (rs := [9]) (by kernel_rfl) rfl ?_
            refine ra_s 53 (i := 9) rfl rfl rfl (Ys_bslice (s := 2) (len := 1) (vs := [(0, .agg #[.int .i64 r_2, .int .i64 x1.Turn])]) (cs := [.int .i64 r_2, .int .i64 x1.Turn]) (zs := [.int .i64 0, .int .i64 0]) (m := 2) hS37 k_sl_55_61 k_sz_61_2 k_zc_61 rfl (mpc rfl mpn) rfl rfl rfl (by kernel_rfl) (by kernel_rfl) rfl) ?_ ?_
            · rintro _ w_27 ⟨b6, rfl, hS38⟩
              have hS38 : ST w0 [] _ [⟨some ⟨b1, 0, none⟩, 57, [.int .i64 0, .int .i64 0, .int .i64 0, .int .i64 0, .slice none 0 0, .slice none 0 0], 6⟩, ⟨some ⟨b2, 0, none⟩, 57, [.int .i64 p.Ins, .int .i64 (IntKind.i64.wrap (p.Vars - 1)), .int .i64 p.Root, .int .i64 p.Phase, .slice B4 Terms.length c4, .slice B7 Out.length c7], 6⟩, ⟨B4, 136, (Terms.flatMap enc_Term), c4 * 2⟩, ⟨B7, 61, (Out.flatMap enc_Affine), c7 * 2⟩, ⟨some ⟨b5, 0, none⟩, 61, [.int .i64 x1.Mask, .int .i64 x1.Turn], 2⟩, ⟨some ⟨b6, 0, none⟩, 61, ([(TAffine.mk r_2 x1.Turn)].flatMap enc_Affine), 1 * 2⟩] [⟨B, (p.Terms.flatMap enc_Term)⟩, ⟨B1, (p.Out.flatMap enc_Affine)⟩] := hS38
              refine ⟨(ST.sel hS38 [0, 2, 4] rfl rfl), ?_⟩
              refine ra_all (rs := [10]) (by kernel_rfl) rfl ?_
              refine ra_s 54 (i := 10) rfl rfl rfl (Ys_append (s := 2) (by' := 16) (i := 3) (nn := Out.length) (c := c7) (k := 1) (len := (Out ++ [(TAffine.mk r_2 x1.Turn)]).length) (B := B7) (xs := ([(TAffine.mk r_2 x1.Turn)].flatMap enc_Affine)) (cs' := ((Out ++ [(TAffine.mk r_2 x1.Turn)]).flatMap enc_Affine)) hS38 k_sl_55_61 k_sz_61_2 k_by_61_16 k_zero_61 rfl (by decide) rfl rfl rfl rfl (fm_lenn (l := Out) enc_Affine_len rfl) rfl (hS38.cf (i := 5) rfl) (fm_lenn (l := [(TAffine.mk r_2 x1.Turn)]) enc_Affine_len rfl) (fm_one' (enc := enc_Affine) enc_Affine_one [(TAffine.mk r_2 x1.Turn)]) (by have := hap1; omega) (by have := hap1; simp only [maxLen]; omega) (fm_app _ _) (app_len (l := Out) (l' := [(TAffine.mk r_2 x1.Turn)]) rfl rfl)) ?_ ?_
              · rintro _ w_28 ⟨B8, c8, rfl, hS39⟩
                have hS39 : ST w0 [] _ [⟨some ⟨b1, 0, none⟩, 57, [.int .i64 0, .int .i64 0, .int .i64 0, .int .i64 0, .slice none 0 0, .slice none 0 0], 6⟩, ⟨some ⟨b2, 0, none⟩, 57, [.int .i64 p.Ins, .int .i64 (IntKind.i64.wrap (p.Vars - 1)), .int .i64 p.Root, .int .i64 p.Phase, .slice B4 Terms.length c4, .slice B7 Out.length c7], 6⟩, ⟨B4, 136, (Terms.flatMap enc_Term), c4 * 2⟩, ⟨B8, 61, ((Out ++ [(TAffine.mk r_2 x1.Turn)]).flatMap enc_Affine), c8 * 2⟩, ⟨some ⟨b5, 0, none⟩, 61, [.int .i64 x1.Mask, .int .i64 x1.Turn], 2⟩, ⟨some ⟨b6, 0, none⟩, 61, ([(TAffine.mk r_2 x1.Turn)].flatMap enc_Affine), 1 * 2⟩] [⟨B, (p.Terms.flatMap enc_Term)⟩, ⟨B1, (p.Out.flatMap enc_Affine)⟩] := hS39
                refine ⟨(ST.sel hS39 [0, 2, 4] rfl rfl), ?_⟩
                refine ra_q 11 55 (v := pt (some ⟨b2, 0, none⟩) 5) rfl rfl rfl (by kernel_rfl) (by kernel_rfl) (by kernel_rfl) (ST.sel hS39 [0, 2, 4] rfl rfl) (fun w' hw' => (Y_fieldAddr (B := some ⟨b2, 0, none⟩) (i := 0) (s := 0) k_fd_57_5_5_55 k_sz_55_1 rfl (hf2.get 5 2 rfl))) ?_
                refine ra_all (rs := [12]) (by kernel_rfl) rfl ?_
                refine ra_s0 (i := 12) rfl rfl rfl (Ys_store (i := 1) (s := 1) (B := some ⟨b2, 0, none⟩) (T' := 57) (v := .slice B8 ((Out ++ [(TAffine.mk r_2 x1.Turn)]).length) c8) (vs := [.slice B8 ((Out ++ [(TAffine.mk r_2 x1.Turn)]).length) c8]) (k := 5) (cs' := [.int .i64 p.Ins, .int .i64 (IntKind.i64.wrap (p.Vars - 1)), .int .i64 p.Root, .int .i64 p.Phase, .slice B4 Terms.length c4, .slice B8 ((Out ++ [(TAffine.mk r_2 x1.Turn)]).length) c8]) hS39 k_sz_55_1 rfl rfl rfl rfl rfl rfl rfl (Nat.le_of_ble_eq_true rfl) rfl rfl) ?_ ?_
                · rintro _ w_29 ⟨rfl, hS40⟩
                  have hS40 : ST w0 [] _ [⟨some ⟨b1, 0, none⟩, 57, [.int .i64 0, .int .i64 0, .int .i64 0, .int .i64 0, .slice none 0 0, .slice none 0 0], 6⟩, ⟨some ⟨b2, 0, none⟩, 57, [.int .i64 p.Ins, .int .i64 (IntKind.i64.wrap (p.Vars - 1)), .int .i64 p.Root, .int .i64 p.Phase, .slice B4 Terms.length c4, .slice B8 ((Out ++ [(TAffine.mk r_2 x1.Turn)]).length) c8], 6⟩, ⟨B4, 136, (Terms.flatMap enc_Term), c4 * 2⟩, ⟨B8, 61, ((Out ++ [(TAffine.mk r_2 x1.Turn)]).flatMap enc_Affine), c8 * 2⟩, ⟨some ⟨b5, 0, none⟩, 61, [.int .i64 x1.Mask, .int .i64 x1.Turn], 2⟩, ⟨some ⟨b6, 0, none⟩, 61, ([(TAffine.mk r_2 x1.Turn)].flatMap enc_Affine), 1 * 2⟩] [⟨B, (p.Terms.flatMap enc_Term)⟩, ⟨B1, (p.Out.flatMap enc_Affine)⟩] := hS40
                  refine ⟨(ST.sel hS40 [0, 2, 4] rfl rfl), ?_⟩
                  refine ra_done (by kernel_rfl) ?_
                  exact ⟨B8, c8, (FF.cons (hf2.get 1 0 rfl) (FF.cons (hf2.get 4 1 rfl) (FF.cons (hf2.get 5 2 rfl) (FF.cons (hf2.get 38 3 rfl) (FF.cons (hf2.get 39 4 rfl) (FF.cons (hf2.get 40 5 rfl) FF.nil)))))), (hS40.sel [0, 1, 2, 3] rfl rfl)⟩
                exact allR_nil
              exact allR_nil
            exact allR_nil
          refine ra_s 53 (i := 9) rfl rfl rfl (Ys_bslice (s := 2) (len := 1) (vs := [(0, .agg #[.int .i64 r_2, .int .i64 x1.Turn])]) (cs := [.int .i64 r_2, .int .i64 x1.Turn]) (zs := [.int .i64 0, .int .i64 0]) (m := 2) hS37 k_sl_55_61 k_sz_61_2 k_zc_61 rfl (mpc rfl mpn) rfl rfl rfl (by kernel_rfl) (by kernel_rfl) rfl) ?_ ?_
          · rintro _ w_30 ⟨b6, rfl, hS41⟩
            have hS41 : ST w0 [] _ [⟨some ⟨b1, 0, none⟩, 57, [.int .i64 0, .int .i64 0, .int .i64 0, .int .i64 0, .slice none 0 0, .slice none 0 0], 6⟩, ⟨some ⟨b2, 0, none⟩, 57, [.int .i64 p.Ins, .int .i64 (IntKind.i64.wrap (p.Vars - 1)), .int .i64 p.Root, .int .i64 p.Phase, .slice B4 Terms.length c4, .slice B7 Out.length c7], 6⟩, ⟨B4, 136, (Terms.flatMap enc_Term), c4 * 2⟩, ⟨B7, 61, (Out.flatMap enc_Affine), c7 * 2⟩, ⟨some ⟨b5, 0, none⟩, 61, [.int .i64 x1.Mask, .int .i64 x1.Turn], 2⟩, ⟨some ⟨b6, 0, none⟩, 61, ([(TAffine.mk r_2 x1.Turn)].flatMap enc_Affine), 1 * 2⟩] [⟨B, (p.Terms.flatMap enc_Term)⟩, ⟨B1, (p.Out.flatMap enc_Affine)⟩] := hS41
            refine ⟨(ST.sel hS41 [0, 2, 4] rfl rfl), ?_⟩
            refine ra_all (rs := [1]) (by kernel_rfl) rfl ?_
            refine ra_y 45 (i := 1) (v := .slice B7 Out.length c7) rfl rfl rfl (Y_load1 (B := some ⟨b2, 0, none⟩) (i := 5) (cs := [.int .i64 p.Ins, .int .i64 (IntKind.i64.wrap (p.Vars - 1)), .int .i64 p.Root, .int .i64 p.Phase, .slice B4 Terms.length c4, .slice B7 Out.length c7]) (v := .slice B7 Out.length c7) k_sc_55 rfl rfl (hS41.cf (i := 1) rfl) rfl) (ST.sel hS41 [0, 2, 4] rfl rfl) ?_ ?_
            · skip
              refine ra_all (rs := [10]) (by kernel_rfl) rfl ?_
              refine ra_s 54 (i := 10) rfl rfl rfl (Ys_append (s := 2) (by' := 16) (i := 3) (nn := Out.length) (c := c7) (k := 1) (len := (Out ++ [(TAffine.mk r_2 x1.Turn)]).length) (B := B7) (xs := ([(TAffine.mk r_2 x1.Turn)].flatMap enc_Affine)) (cs' := ((Out ++ [(TAffine.mk r_2 x1.Turn)]).flatMap enc_Affine)) hS41 k_sl_55_61 k_sz_61_2 k_by_61_16 k_zero_61 rfl (by decide) rfl rfl rfl rfl (fm_lenn (l := Out) enc_Affine_len rfl) rfl (hS41.cf (i := 5) rfl) (fm_lenn (l := [(TAffine.mk r_2 x1.Turn)]) enc_Affine_len rfl) (fm_one' (enc := enc_Affine) enc_Affine_one [(TAffine.mk r_2 x1.Turn)]) (by have := hap1; omega) (by have := hap1; simp only [maxLen]; omega) (fm_app _ _) (app_len (l := Out) (l' := [(TAffine.mk r_2 x1.Turn)]) rfl rfl)) ?_ ?_
              · rintro _ w_31 ⟨B8, c8, rfl, hS42⟩
                have hS42 : ST w0 [] _ [⟨some ⟨b1, 0, none⟩, 57, [.int .i64 0, .int .i64 0, .int .i64 0, .int .i64 0, .slice none 0 0, .slice none 0 0], 6⟩, ⟨some ⟨b2, 0, none⟩, 57, [.int .i64 p.Ins, .int .i64 (IntKind.i64.wrap (p.Vars - 1)), .int .i64 p.Root, .int .i64 p.Phase, .slice B4 Terms.length c4, .slice B7 Out.length c7], 6⟩, ⟨B4, 136, (Terms.flatMap enc_Term), c4 * 2⟩, ⟨B8, 61, ((Out ++ [(TAffine.mk r_2 x1.Turn)]).flatMap enc_Affine), c8 * 2⟩, ⟨some ⟨b5, 0, none⟩, 61, [.int .i64 x1.Mask, .int .i64 x1.Turn], 2⟩, ⟨some ⟨b6, 0, none⟩, 61, ([(TAffine.mk r_2 x1.Turn)].flatMap enc_Affine), 1 * 2⟩] [⟨B, (p.Terms.flatMap enc_Term)⟩, ⟨B1, (p.Out.flatMap enc_Affine)⟩] := hS42
                refine ⟨(ST.sel hS42 [0, 2, 4] rfl rfl), ?_⟩
                refine ra_q 11 55 (v := pt (some ⟨b2, 0, none⟩) 5) rfl rfl rfl (by kernel_rfl) (by kernel_rfl) (by kernel_rfl) (ST.sel hS42 [0, 2, 4] rfl rfl) (fun w' hw' => (Y_fieldAddr (B := some ⟨b2, 0, none⟩) (i := 0) (s := 0) k_fd_57_5_5_55 k_sz_55_1 rfl (hf2.get 5 2 rfl))) ?_
                refine ra_all (rs := [12]) (by kernel_rfl) rfl ?_
                refine ra_s0 (i := 12) rfl rfl rfl (Ys_store (i := 1) (s := 1) (B := some ⟨b2, 0, none⟩) (T' := 57) (v := .slice B8 ((Out ++ [(TAffine.mk r_2 x1.Turn)]).length) c8) (vs := [.slice B8 ((Out ++ [(TAffine.mk r_2 x1.Turn)]).length) c8]) (k := 5) (cs' := [.int .i64 p.Ins, .int .i64 (IntKind.i64.wrap (p.Vars - 1)), .int .i64 p.Root, .int .i64 p.Phase, .slice B4 Terms.length c4, .slice B8 ((Out ++ [(TAffine.mk r_2 x1.Turn)]).length) c8]) hS42 k_sz_55_1 rfl rfl rfl rfl rfl rfl rfl (Nat.le_of_ble_eq_true rfl) rfl rfl) ?_ ?_
                · rintro _ w_32 ⟨rfl, hS43⟩
                  have hS43 : ST w0 [] _ [⟨some ⟨b1, 0, none⟩, 57, [.int .i64 0, .int .i64 0, .int .i64 0, .int .i64 0, .slice none 0 0, .slice none 0 0], 6⟩, ⟨some ⟨b2, 0, none⟩, 57, [.int .i64 p.Ins, .int .i64 (IntKind.i64.wrap (p.Vars - 1)), .int .i64 p.Root, .int .i64 p.Phase, .slice B4 Terms.length c4, .slice B8 ((Out ++ [(TAffine.mk r_2 x1.Turn)]).length) c8], 6⟩, ⟨B4, 136, (Terms.flatMap enc_Term), c4 * 2⟩, ⟨B8, 61, ((Out ++ [(TAffine.mk r_2 x1.Turn)]).flatMap enc_Affine), c8 * 2⟩, ⟨some ⟨b5, 0, none⟩, 61, [.int .i64 x1.Mask, .int .i64 x1.Turn], 2⟩, ⟨some ⟨b6, 0, none⟩, 61, ([(TAffine.mk r_2 x1.Turn)].flatMap enc_Affine), 1 * 2⟩] [⟨B, (p.Terms.flatMap enc_Term)⟩, ⟨B1, (p.Out.flatMap enc_Affine)⟩] := hS43
                  refine ⟨(ST.sel hS43 [0, 2, 4] rfl rfl), ?_⟩
                  refine ra_done (by kernel_rfl) ?_
                  exact ⟨B8, c8, (FF.cons (hf2.get 1 0 rfl) (FF.cons (hf2.get 4 1 rfl) (FF.cons (hf2.get 5 2 rfl) (FF.cons (hf2.get 38 3 rfl) (FF.cons (hf2.get 39 4 rfl) (FF.cons (hf2.get 40 5 rfl) FF.nil)))))), (hS43.sel [0, 1, 2, 3] rfl rfl)⟩
                exact allR_nil
              exact allR_nil
            exact allR_nil
          exact allR_nil
        exact allR_nil
      rintro f w ⟨B9, c9, hf3, hS31⟩
      refine cw_region ?_
      refine sq 56 rfl rfl (Y_add (k := .i64) (a := t1) (b := 1) rfl (hf3.get 40 5 rfl) rfl) ?_
      refine sq 40 rfl rfl (Y_move (v := .int .i64 (IntKind.i64.wrap (t1 + 1))) rfl rfl) ?_
      refine rw_nil ?_
      obtain rfl := some_inj hF5
      exact ⟨k_3, Nat.lt_succ_self _, (Out ++ [(TAffine.mk r_2 x1.Turn)]), (IntKind.i64.wrap (t1 + 1)), B9, c9, (FF.cons (hf3.get 1 0 rfl) (FF.cons (hf3.get 4 1 rfl) (FF.cons (hf3.get 5 2 rfl) (FF.cons (hf3.get 38 3 rfl) (FF.cons (hf3.get 39 4 rfl) (FF.cons rfl FF.nil)))))), (hS31.sel [0, 1, 2, 3] rfl rfl), hL3⟩
    · skip
      have hF6 := cf' hb2 hb3
      refine cw_exit rfl ?_
      obtain rfl := some_inj hF6
      obtain rfl := some_inj hL3
      refine cw_seq ?_
      refine cw_region ?_
      refine sq 57 rfl rfl (Y_loadA (B := some ⟨b2, 0, none⟩) (i := 0) (cs := [.int .i64 p.Ins, .int .i64 (IntKind.i64.wrap (p.Vars - 1)), .int .i64 p.Root, .int .i64 p.Phase, .slice B4 Terms.length c4, .slice B7 Out.length c7]) (vs := [.int .i64 p.Ins, .int .i64 (IntKind.i64.wrap (p.Vars - 1)), .int .i64 p.Root, .int .i64 p.Phase, .slice B4 Terms.length c4, .slice B7 Out.length c7]) k_ag_57 k_sz_57_6 rfl (hf2.get 5 2 rfl) (hS26.cf (i := 1) rfl) rfl rfl) ?_
      refine ss0 rfl rfl (Ys_store (i := 0) (s := 6) (B := some ⟨b1, 0, none⟩) (T' := 57) (v := .agg #[.int .i64 p.Ins, .int .i64 (IntKind.i64.wrap (p.Vars - 1)), .int .i64 p.Root, .int .i64 p.Phase, .slice B4 Terms.length c4, .slice B7 Out.length c7]) (vs := [.int .i64 p.Ins, .int .i64 (IntKind.i64.wrap (p.Vars - 1)), .int .i64 p.Root, .int .i64 p.Phase, .slice B4 Terms.length c4, .slice B7 Out.length c7]) (k := 0) (cs' := [.int .i64 p.Ins, .int .i64 (IntKind.i64.wrap (p.Vars - 1)), .int .i64 p.Root, .int .i64 p.Phase, .slice B4 Terms.length c4, .slice B7 Out.length c7]) hS26 k_sz_57_6 rfl (hf2.get 4 1 rfl) rfl rfl rfl rfl rfl (Nat.le_of_ble_eq_true rfl) rfl rfl) ?_
      rintro _ w_33 ⟨rfl, hS44⟩
      have hS44 : ST w0 [] _ [⟨some ⟨b1, 0, none⟩, 57, [.int .i64 p.Ins, .int .i64 (IntKind.i64.wrap (p.Vars - 1)), .int .i64 p.Root, .int .i64 p.Phase, .slice B4 Terms.length c4, .slice B7 Out.length c7], 6⟩, ⟨some ⟨b2, 0, none⟩, 57, [.int .i64 p.Ins, .int .i64 (IntKind.i64.wrap (p.Vars - 1)), .int .i64 p.Root, .int .i64 p.Phase, .slice B4 Terms.length c4, .slice B7 Out.length c7], 6⟩, ⟨B4, 136, (Terms.flatMap enc_Term), c4 * 2⟩, ⟨B7, 61, (Out.flatMap enc_Affine), c7 * 2⟩] [⟨B, (p.Terms.flatMap enc_Term)⟩, ⟨B1, (p.Out.flatMap enc_Affine)⟩] := hS44
      refine rw_nil ?_
      refine cw_ret ?_
      obtain rfl := some_inj hF4
      exact ret1 Try.results106 (v1 := .agg #[.int .i64 p.Ins, .int .i64 (IntKind.i64.wrap (p.Vars - 1)), .int .i64 p.Root, .int .i64 p.Phase, .slice B4 Terms.length c4, .slice B7 Out.length c7]) (resAt_cellA (B := some ⟨b1, 0, none⟩) (i := 0) (cs := [.int .i64 p.Ins, .int .i64 (IntKind.i64.wrap (p.Vars - 1)), .int .i64 p.Root, .int .i64 p.Phase, .slice B4 Terms.length c4, .slice B7 Out.length c7]) (vs := [.int .i64 p.Ins, .int .i64 (IntKind.i64.wrap (p.Vars - 1)), .int .i64 p.Root, .int .i64 p.Phase, .slice B4 Terms.length c4, .slice B7 Out.length c7]) (hf2.get 4 1 rfl) k_ag_57 k_sz_57_6 (hS44.cf (i := 0) rfl) rfl rfl) ⟨B4, c4, B7, c7, rfl, (ST.subR (R' := []) (hS44.sel [2, 3] rfl rfl) (fun _ h => by cases h))⟩

theorem c_impl_PathSum_substituted (p : TPathSum) (v_ : Int) (by_ : TAffine) (B : Option Addr) (c n : Nat) (B1 : Option Addr) (c1 n1 : Nat) (w0 : World) (hn : p.Terms.length = n) (hn1 : p.Out.length = n1) (hS : ST w0 [] w0 [] [⟨B, (p.Terms.flatMap enc_Term)⟩, ⟨B1, (p.Out.flatMap enc_Affine)⟩]) {r_ : TPathSum} (hF : F_impl_PathSum_substituted p v_ by_ = some r_) :
    CV Try.prog 57 #[.agg #[.int .i64 p.Ins, .int .i64 p.Vars, .int .i64 p.Root, .int .i64 p.Phase, .slice B n c, .slice B1 n1 c1], .int .i64 v_, .agg #[.int .i64 by_.Mask, .int .i64 by_.Turn]] w0 (fun v w' => ∃ (B2 : Option Addr) (c2 : Nat) (B3 : Option Addr) (c3 : Nat), v = .agg #[.int .i64 r_.Ins, .int .i64 r_.Vars, .int .i64 r_.Root, .int .i64 r_.Phase, .slice B2 r_.Terms.length c2, .slice B3 r_.Out.length c3] ∧ ST w0 [] w' [⟨B2, 136, (r_.Terms.flatMap enc_Term), c2 * 2⟩, ⟨B3, 61, (r_.Out.flatMap enc_Affine), c3 * 2⟩] []) := by
  subst hn
  subst hn1
  unfold F_impl_PathSum_substituted at hF
  refine cv_of_cw 92 Try.func57 rfl Try.ntmps57 rfl ?_
  refine cw_seq ?_
  refine cw_region ?_
  refine ss 3 rfl rfl (Ys_box (T := 57) (v := .agg #[.int .i64 p.Ins, .int .i64 p.Vars, .int .i64 p.Root, .int .i64 p.Phase, .slice B p.Terms.length c, .slice B1 p.Out.length c1]) (cs := [.int .i64 p.Ins, .int .i64 p.Vars, .int .i64 p.Root, .int .i64 p.Phase, .slice B p.Terms.length c, .slice B1 p.Out.length c1]) (m := 6) hS rfl rfl rfl rfl) ?_
  rintro _ w_ ⟨b, rfl, hS1⟩
  refine ss 5 rfl rfl (Ys_box (T := 61) (v := .agg #[.int .i64 by_.Mask, .int .i64 by_.Turn]) (cs := [.int .i64 by_.Mask, .int .i64 by_.Turn]) (m := 2) hS1 rfl rfl rfl rfl) ?_
  rintro _ w_1 ⟨b1, rfl, hS2⟩
  have hS2 : ST w0 [] _ [⟨some ⟨b, 0, none⟩, 57, [.int .i64 p.Ins, .int .i64 p.Vars, .int .i64 p.Root, .int .i64 p.Phase, .slice B p.Terms.length c, .slice B1 p.Out.length c1], 6⟩, ⟨some ⟨b1, 0, none⟩, 61, [.int .i64 by_.Mask, .int .i64 by_.Turn], 2⟩] [⟨B, (p.Terms.flatMap enc_Term)⟩, ⟨B1, (p.Out.flatMap enc_Affine)⟩] := hS2
  refine ss 6 rfl rfl (Ys_alloc (T := 57) (cs := [.int .i64 0, .int .i64 0, .int .i64 0, .int .i64 0, .slice none 0 0, .slice none 0 0]) (m := 6) hS2 k_zero_57 rfl rfl rfl) ?_
  rintro _ w_2 ⟨b2, rfl, hS3⟩
  have hS3 : ST w0 [] _ [⟨some ⟨b, 0, none⟩, 57, [.int .i64 p.Ins, .int .i64 p.Vars, .int .i64 p.Root, .int .i64 p.Phase, .slice B p.Terms.length c, .slice B1 p.Out.length c1], 6⟩, ⟨some ⟨b1, 0, none⟩, 61, [.int .i64 by_.Mask, .int .i64 by_.Turn], 2⟩, ⟨some ⟨b2, 0, none⟩, 57, [.int .i64 0, .int .i64 0, .int .i64 0, .int .i64 0, .slice none 0 0, .slice none 0 0], 6⟩] [⟨B, (p.Terms.flatMap enc_Term)⟩, ⟨B1, (p.Out.flatMap enc_Affine)⟩] := hS3
  refine rw_nil ?_
  refine cw_seq ?_
  refine cw_region ?_
  refine ss 13 rfl rfl (Ys_mkMap (T := 105) hS3 rfl) ?_
  rintro _ w_3 ⟨g, rfl, hS4⟩
  have hS4 : ST w0 [] _ [⟨some ⟨b, 0, none⟩, 57, [.int .i64 p.Ins, .int .i64 p.Vars, .int .i64 p.Root, .int .i64 p.Phase, .slice B p.Terms.length c, .slice B1 p.Out.length c1], 6⟩, ⟨some ⟨b1, 0, none⟩, 61, [.int .i64 by_.Mask, .int .i64 by_.Turn], 2⟩, ⟨some ⟨b2, 0, none⟩, 57, [.int .i64 0, .int .i64 0, .int .i64 0, .int .i64 0, .slice none 0 0, .slice none 0 0], 6⟩, ⟨(some ⟨g, 0, none⟩), .mp (mpE (Value.int .i64) (Value.int .i64) ([] : List (Int × Int))), [], 0⟩] [⟨B, (p.Terms.flatMap enc_Term)⟩, ⟨B1, (p.Out.flatMap enc_Affine)⟩] := hS4
  refine sq 14 rfl rfl (Y_fieldAddr (B := some ⟨b, 0, none⟩) (i := 0) (s := 0) k_fd_57_3_3_3 k_sz_3_1 rfl rfl) ?_
  refine sq 15 rfl rfl (Y_load1 (B := some ⟨b, 0, none⟩) (i := 3) (cs := [.int .i64 p.Ins, .int .i64 p.Vars, .int .i64 p.Root, .int .i64 p.Phase, .slice B p.Terms.length c, .slice B1 p.Out.length c1]) (v := .int .i64 p.Phase) k_sc_3 rfl rfl (hS4.cf (i := 0) rfl) rfl) ?_
  refine ss0 rfl rfl (Ys_mapIns (kE := (Value.int .i64)) (vE := (Value.int .i64)) (l := ([] : List (Int × Int))) (a := 0) (b := p.Phase) (g := g) (i := 3) hS4 (keyInt k_int_3_i64) k_map_105_3_3 rfl rfl rfl rfl rfl rfl) ?_
  rintro _ w_4 ⟨rfl, hS5⟩
  have hS5 : ST w0 [] _ [⟨some ⟨b, 0, none⟩, 57, [.int .i64 p.Ins, .int .i64 p.Vars, .int .i64 p.Root, .int .i64 p.Phase, .slice B p.Terms.length c, .slice B1 p.Out.length c1], 6⟩, ⟨some ⟨b1, 0, none⟩, 61, [.int .i64 by_.Mask, .int .i64 by_.Turn], 2⟩, ⟨some ⟨b2, 0, none⟩, 57, [.int .i64 0, .int .i64 0, .int .i64 0, .int .i64 0, .slice none 0 0, .slice none 0 0], 6⟩, ⟨(some ⟨g, 0, none⟩), .mp (mpE (Value.int .i64) (Value.int .i64) (mput ([] : List (Int × Int)) 0 p.Phase)), [], 0⟩] [⟨B, (p.Terms.flatMap enc_Term)⟩, ⟨B1, (p.Out.flatMap enc_Affine)⟩] := hS5
  refine sq 16 rfl rfl (Y_move (v := .map (some g)) rfl rfl) ?_
  refine sq 7 rfl rfl (Y_assign (v := .map (some g)) rfl rfl) ?_
  refine rw_nil ?_
  refine cw_seq ?_
  refine cw_seq ?_
  refine cw_region ?_
  refine sq 17 rfl rfl (Y_fieldAddr (B := some ⟨b, 0, none⟩) (i := 0) (s := 0) k_fd_57_4_4_54 k_sz_54_1 rfl rfl) ?_
  refine sq 18 rfl rfl (Y_load1 (B := some ⟨b, 0, none⟩) (i := 4) (cs := [.int .i64 p.Ins, .int .i64 p.Vars, .int .i64 p.Root, .int .i64 p.Phase, .slice B p.Terms.length c, .slice B1 p.Out.length c1]) (v := .slice B p.Terms.length c) k_sc_54 rfl rfl (hS5.cf (i := 0) rfl) rfl) ?_
  refine sq 19 rfl rfl (Y_len (B := B) (m := p.Terms.length) (c := c) k_sl_54_136 rfl rfl) ?_
  refine sq 20 rfl rfl (Y_move (v := .int .i64 0) rfl rfl) ?_
  refine rw_nil ?_
  obtain ⟨hN, hF⟩ := chk_inv hF
  obtain ⟨z, hz, hF1⟩ := bind_inv hF
  refine cw_block ?_
  refine cw_loop (fun k f w => ∃ (i : Nat) (poly : List (Int × Int)), FF f [(1, .int .i64 v_), (3, pt (some ⟨b, 0, none⟩) 0), (5, pt (some ⟨b1, 0, none⟩) 0), (6, pt (some ⟨b2, 0, none⟩) 0), (7, .map (some g)), (18, .slice B p.Terms.length c), (19, .int .i64 (p.Terms.length : Int)), (20, .int .i64 (i : Int))] ∧ ST w0 [] w [⟨some ⟨b, 0, none⟩, 57, [.int .i64 p.Ins, .int .i64 p.Vars, .int .i64 p.Root, .int .i64 p.Phase, .slice B p.Terms.length c, .slice B1 p.Out.length c1], 6⟩, ⟨some ⟨b1, 0, none⟩, 61, [.int .i64 by_.Mask, .int .i64 by_.Turn], 2⟩, ⟨some ⟨b2, 0, none⟩, 57, [.int .i64 0, .int .i64 0, .int .i64 0, .int .i64 0, .slice none 0 0, .slice none 0 0], 6⟩, ⟨(some ⟨g, 0, none⟩), .mp (mpE (Value.int .i64) (Value.int .i64) poly), [], 0⟩] [⟨B, (p.Terms.flatMap enc_Term)⟩, ⟨B1, (p.Out.flatMap enc_Affine)⟩] ∧ i + k = p.Terms.length ∧ forN (F_impl_PathSum_substituted_l1 p v_ by_) k i poly = some z) p.Terms.length ⟨0, (mput ([] : List (Int × Int)) 0 p.Phase), (FF.cons rfl (FF.cons rfl (FF.cons rfl (FF.cons rfl (FF.cons rfl (FF.cons rfl (FF.cons rfl (FF.cons rfl FF.nil)))))))), (hS5.sel [0, 1, 2, 3] rfl rfl), Nat.zero_add _, hz⟩ ?_
  rintro k_ f w ⟨i, poly, hf, hS6, hik, hL⟩
  refine cw_seq ?_
  refine cw_region ?_
  refine sq 21 rfl rfl (Y_lt (k := .i64) (a := (i : Int)) (b := (p.Terms.length : Int)) rfl (hf.get 20 7 rfl) (hf.get 19 6 rfl)) ?_
  refine rw_nil ?_
  refine cw_seq ?_
  refine cw_cond (b := (decide ((i : Int) < (p.Terms.length : Int)))) rfl (fun hlt => ?_) (fun hlt => ?_)
  · skip
    have hlt1 : i < p.Terms.length := by have h := of_decide_eq_true hlt; omega
    obtain ⟨k_1, rfl⟩ : ∃ k2, k_ = k2 + 1 := ⟨k_ - 1, by omega⟩
    obtain ⟨y, hb, hL1⟩ := forN_go hL
    unfold F_impl_PathSum_substituted_l1 at hb
    refine cw_skip ?_
    refine cw_seq ?_
    obtain ⟨z1, hz1, hF2⟩ := bind_inv hb
    refine cw_mid (fun f w => ∃ (poly1 : List (Int × Int)), poly1 = z1 ∧ FF f [(1, .int .i64 v_), (3, pt (some ⟨b, 0, none⟩) 0), (5, pt (some ⟨b1, 0, none⟩) 0), (6, pt (some ⟨b2, 0, none⟩) 0), (7, .map (some g)), (18, .slice B p.Terms.length c), (19, .int .i64 (p.Terms.length : Int)), (20, .int .i64 (i : Int))] ∧ ST w0 [] w [⟨some ⟨b, 0, none⟩, 57, [.int .i64 p.Ins, .int .i64 p.Vars, .int .i64 p.Root, .int .i64 p.Phase, .slice B p.Terms.length c, .slice B1 p.Out.length c1], 6⟩, ⟨some ⟨b1, 0, none⟩, 61, [.int .i64 by_.Mask, .int .i64 by_.Turn], 2⟩, ⟨some ⟨b2, 0, none⟩, 57, [.int .i64 0, .int .i64 0, .int .i64 0, .int .i64 0, .slice none 0 0, .slice none 0 0], 6⟩, ⟨(some ⟨g, 0, none⟩), .mp (mpE (Value.int .i64) (Value.int .i64) poly1), [], 0⟩] [⟨B, (p.Terms.flatMap enc_Term)⟩, ⟨B1, (p.Out.flatMap enc_Affine)⟩]) ?_ ?_
    · skip
      refine cw_block ?_
      refine cw_seq ?_
      refine cw_region ?_
      obtain ⟨x, hx, hz1⟩ := bind_inv hz1
      refine sq 22 rfl rfl (Y_index (B := B) (m := p.Terms.length) (c := c) (k := .i64) (i := (i : Int)) k_sl_54_136 k_sz_136_2 rfl (hf.get 18 5 rfl) (hf.get 20 7 rfl) (gi_isSome enc_Term_len rfl (hS6.rf (i := 0) rfl) hx) (getI_nn hx) (getI_ltI hx rfl)) ?_
      refine sq 23 rfl rfl (Y_loadA (B := B) (i := (i : Int).toNat * 2) (cs := (p.Terms.flatMap enc_Term)) (vs := [.int .i64 x.Mask, .int .i64 x.Coef]) k_ag_136 k_sz_136_2 rfl rfl (hS6.rf (i := 0) rfl) (enc_Term_len x) (gi_seg enc_Term_len hx)) ?_
      refine ss 9 rfl rfl (Ys_alloc (T := 136) (cs := [.int .i64 0, .int .i64 0]) (m := 2) hS6 k_zero_136 rfl rfl rfl) ?_
      rintro _ w_5 ⟨b3, rfl, hS8⟩
      have hS8 : ST w0 [] _ [⟨some ⟨b, 0, none⟩, 57, [.int .i64 p.Ins, .int .i64 p.Vars, .int .i64 p.Root, .int .i64 p.Phase, .slice B p.Terms.length c, .slice B1 p.Out.length c1], 6⟩, ⟨some ⟨b1, 0, none⟩, 61, [.int .i64 by_.Mask, .int .i64 by_.Turn], 2⟩, ⟨some ⟨b2, 0, none⟩, 57, [.int .i64 0, .int .i64 0, .int .i64 0, .int .i64 0, .slice none 0 0, .slice none 0 0], 6⟩, ⟨(some ⟨g, 0, none⟩), .mp (mpE (Value.int .i64) (Value.int .i64) poly), [], 0⟩, ⟨some ⟨b3, 0, none⟩, 136, [.int .i64 0, .int .i64 0], 2⟩] [⟨B, (p.Terms.flatMap enc_Term)⟩, ⟨B1, (p.Out.flatMap enc_Affine)⟩] := hS8
      refine ss0 rfl rfl (Ys_store (i := 4) (s := 2) (B := some ⟨b3, 0, none⟩) (T' := 136) (v := .agg #[.int .i64 x.Mask, .int .i64 x.Coef]) (vs := [.int .i64 x.Mask, .int .i64 x.Coef]) (k := 0) (cs' := [.int .i64 x.Mask, .int .i64 x.Coef]) hS8 k_sz_136_2 rfl rfl rfl rfl rfl rfl rfl (Nat.le_of_ble_eq_true rfl) rfl rfl) ?_
      rintro _ w_6 ⟨rfl, hS9⟩
      have hS9 : ST w0 [] _ [⟨some ⟨b, 0, none⟩, 57, [.int .i64 p.Ins, .int .i64 p.Vars, .int .i64 p.Root, .int .i64 p.Phase, .slice B p.Terms.length c, .slice B1 p.Out.length c1], 6⟩, ⟨some ⟨b1, 0, none⟩, 61, [.int .i64 by_.Mask, .int .i64 by_.Turn], 2⟩, ⟨some ⟨b2, 0, none⟩, 57, [.int .i64 0, .int .i64 0, .int .i64 0, .int .i64 0, .slice none 0 0, .slice none 0 0], 6⟩, ⟨(some ⟨g, 0, none⟩), .mp (mpE (Value.int .i64) (Value.int .i64) poly), [], 0⟩, ⟨some ⟨b3, 0, none⟩, 136, [.int .i64 x.Mask, .int .i64 x.Coef], 2⟩] [⟨B, (p.Terms.flatMap enc_Term)⟩, ⟨B1, (p.Out.flatMap enc_Affine)⟩] := hS9
      refine rw_nil ?_
      refine cw_seq ?_
      refine cw_region ?_
      refine sq 24 rfl rfl (Y_fieldAddr (B := some ⟨b3, 0, none⟩) (i := 0) (s := 0) k_fd_136_0_0_3 k_sz_3_1 rfl rfl) ?_
      refine sq 25 rfl rfl (Y_load1 (B := some ⟨b3, 0, none⟩) (i := 0) (cs := [.int .i64 x.Mask, .int .i64 x.Coef]) (v := .int .i64 x.Mask) k_sc_3 rfl rfl (hS9.cf (i := 4) rfl) rfl) ?_
      refine sq 26 rfl rfl (Y_move (v := .int .i64 v_) rfl (hf.get 1 0 rfl)) ?_
      obtain ⟨hsh, hz1⟩ := chk_inv hz1
      refine sq 27 rfl rfl (Y_shr (k := .i64) (a := x.Mask) (k' := .i64) (b := v_) rfl rfl rfl hsh) ?_
      refine sq 28 rfl rfl (Y_band (k := .i64) (a := (shrK .i64 x.Mask v_)) (b := 1) rfl rfl rfl) ?_
      refine sq 29 rfl rfl (Y_eq (k := .i64) (a := (bits .and .i64 (shrK .i64 x.Mask v_) 1)) (b := 1) rfl rfl rfl) ?_
      refine rw_nil ?_
      refine cw_cond (b := ((bits .and .i64 (shrK .i64 x.Mask v_) 1) == 1)) rfl (fun hb1 => ?_) (fun hb1 => ?_)
      · skip
        have hF3 := ct hz1 hb1
        obtain ⟨hsh1, hF3⟩ := chk_inv hF3
        obtain ⟨m, hc, hF3⟩ := bind_inv hF3
        refine ra_start (ST.sel hS9 [0, 1, 2, 4] rfl rfl).fn (by kernel_rfl) ?_
        have hS11 := hS9.drew
        refine ra_q 0 30 (v := .map (some g)) rfl rfl rfl (by kernel_rfl) (by kernel_rfl) (by kernel_rfl) (ST.sel hS11 [0, 1, 2, 4] rfl rfl) (fun w' hw' => (Y_move (v := .map (some g)) rfl (hf.get 7 4 rfl))) ?_
        refine ra_q 1 31 (v := pt (some ⟨b3, 0, none⟩) 1) rfl rfl rfl (by kernel_rfl) (by kernel_rfl) (by kernel_rfl) (ST.sel hS11 [0, 1, 2, 4] rfl rfl) (fun w' hw' => (Y_fieldAddr (B := some ⟨b3, 0, none⟩) (i := 0) (s := 0) k_fd_136_1_1_3 k_sz_3_1 rfl rfl)) ?_
        refine ra_q 2 32 (v := .int .i64 x.Coef) rfl rfl rfl (by kernel_rfl) (by kernel_rfl) (by kernel_rfl) (ST.sel hS11 [0, 1, 2, 4] rfl rfl) (fun w' hw' => (Y_load1 (B := some ⟨b3, 0, none⟩) (i := 1) (cs := [.int .i64 x.Mask, .int .i64 x.Coef]) (v := .int .i64 x.Coef) k_sc_3 rfl rfl (ST.cf hw' (i := 3) rfl) rfl)) ?_
        refine ra_q 3 33 (v := .agg #[.int .i64 by_.Mask, .int .i64 by_.Turn]) rfl rfl rfl (by kernel_rfl) (by kernel_rfl) (by kernel_rfl) (ST.sel hS11 [0, 1, 2, 4] rfl rfl) (fun w' hw' => (Y_loadA (B := some ⟨b1, 0, none⟩) (i := 0) (cs := [.int .i64 by_.Mask, .int .i64 by_.Turn]) (vs := [.int .i64 by_.Mask, .int .i64 by_.Turn]) k_ag_61 k_sz_61_2 rfl (hf.get 5 2 rfl) (ST.cf hw' (i := 1) rfl) rfl rfl)) ?_
        refine ra_q 4 34 (v := pt (some ⟨b3, 0, none⟩) 0) rfl rfl rfl (by kernel_rfl) (by kernel_rfl) (by kernel_rfl) (ST.sel hS11 [0, 1, 2, 4] rfl rfl) (fun w' hw' => (Y_fieldAddr (B := some ⟨b3, 0, none⟩) (i := 0) (s := 0) k_fd_136_0_0_3 k_sz_3_1 rfl rfl)) ?_
        refine ra_q 5 35 (v := .int .i64 x.Mask) rfl rfl rfl (by kernel_rfl) (by kernel_rfl) (by kernel_rfl) (ST.sel hS11 [0, 1, 2, 4] rfl rfl) (fun w' hw' => (Y_load1 (B := some ⟨b3, 0, none⟩) (i := 0) (cs := [.int .i64 x.Mask, .int .i64 x.Coef]) (v := .int .i64 x.Mask) k_sc_3 rfl rfl (ST.cf hw' (i := 3) rfl) rfl)) ?_
        refine ra_q 6 36 (v := .int .i64 v_) rfl rfl rfl (by kernel_rfl) (by kernel_rfl) (by kernel_rfl) (ST.sel hS11 [0, 1, 2, 4] rfl rfl) (fun w' hw' => (Y_move (v := .int .i64 v_) rfl (hf.get 1 0 rfl))) ?_
        refine ra_q 7 37 (v := .int .i64 (shlK .i64 1 v_)) rfl rfl rfl (by kernel_rfl) (by kernel_rfl) (by kernel_rfl) (ST.sel hS11 [0, 1, 2, 4] rfl rfl) (fun w' hw' => (Y_shl (k := .i64) (a := 1) (k' := .i64) (b := v_) rfl rfl rfl hsh1)) ?_
        refine ra_q 8 38 (v := .int .i64 (bits .xor .i64 x.Mask (shlK .i64 1 v_))) rfl rfl rfl (by kernel_rfl) (by kernel_rfl) (by kernel_rfl) (ST.sel hS11 [0, 1, 2, 4] rfl rfl) (fun w' hw' => (Y_bxor (k := .i64) (a := x.Mask) (b := (shlK .i64 1 v_)) rfl rfl rfl)) ?_
        refine ra_all (rs := [9]) (by kernel_rfl) rfl ?_
        refine ra_c 39 (i := 9) rfl rfl rfl (Yc_func (g := 104) (vs := [.map (some g), .int .i64 x.Coef, .agg #[.int .i64 by_.Mask, .int .i64 by_.Turn], .int .i64 (bits .xor .i64 x.Mask (shlK .i64 1 v_))]) k_call_104 rfl (mc rfl (mc rfl (mc rfl (mc rfl mn)))) (c_impl_polynomial_expand poly x.Coef by_ (bits .xor .i64 x.Mask (shlK .i64 1 v_)) g _  (hS11.inn [false, false, false, true, false] rfl [] rfl) hc)) ?_ ?_
        · rintro _ w_7 ⟨rfl, hd⟩
          have hS12 := hS11.out [false, false, false, true, false] rfl hd
          have hS12 : ST w0 [] _ [⟨some ⟨b, 0, none⟩, 57, [.int .i64 p.Ins, .int .i64 p.Vars, .int .i64 p.Root, .int .i64 p.Phase, .slice B p.Terms.length c, .slice B1 p.Out.length c1], 6⟩, ⟨some ⟨b1, 0, none⟩, 61, [.int .i64 by_.Mask, .int .i64 by_.Turn], 2⟩, ⟨some ⟨b2, 0, none⟩, 57, [.int .i64 0, .int .i64 0, .int .i64 0, .int .i64 0, .slice none 0 0, .slice none 0 0], 6⟩, ⟨some ⟨b3, 0, none⟩, 136, [.int .i64 x.Mask, .int .i64 x.Coef], 2⟩, ⟨(some ⟨g, 0, none⟩), .mp (mpE (Value.int .i64) (Value.int .i64) m), [], 0⟩] [⟨B, (p.Terms.flatMap enc_Term)⟩, ⟨B1, (p.Out.flatMap enc_Affine)⟩] := hS12
          refine ⟨(ST.sel hS12 [0, 1, 2, 3] rfl rfl), ?_⟩
          refine ra_done (by kernel_rfl) ?_
          exact ⟨m, (some_inj hF3), (FF.cons (hf.get 1 0 rfl) (FF.cons (hf.get 3 1 rfl) (FF.cons (hf.get 5 2 rfl) (FF.cons (hf.get 6 3 rfl) (FF.cons (hf.get 7 4 rfl) (FF.cons (hf.get 18 5 rfl) (FF.cons (hf.get 19 6 rfl) (FF.cons (hf.get 20 7 rfl) FF.nil)))))))), (hS12.sel [0, 1, 2, 4] rfl rfl)⟩
        exact allR_nil
      · skip
        have hF4 := cf' hz1 hb1
        refine cw_region ?_
        refine sq 40 rfl rfl (Y_move (v := .map (some g)) rfl (hf.get 7 4 rfl)) ?_
        refine sq 41 rfl rfl (Y_fieldAddr (B := some ⟨b3, 0, none⟩) (i := 0) (s := 0) k_fd_136_0_0_3 k_sz_3_1 rfl rfl) ?_
        refine sq 42 rfl rfl (Y_load1 (B := some ⟨b3, 0, none⟩) (i := 0) (cs := [.int .i64 x.Mask, .int .i64 x.Coef]) (v := .int .i64 x.Mask) k_sc_3 rfl rfl (hS9.cf (i := 4) rfl) rfl) ?_
        refine sq 43 rfl rfl (Y_fieldAddr (B := some ⟨b3, 0, none⟩) (i := 0) (s := 0) k_fd_136_1_1_3 k_sz_3_1 rfl rfl) ?_
        refine sq 44 rfl rfl (Y_load1 (B := some ⟨b3, 0, none⟩) (i := 1) (cs := [.int .i64 x.Mask, .int .i64 x.Coef]) (v := .int .i64 x.Coef) k_sc_3 rfl rfl (hS9.cf (i := 4) rfl) rfl) ?_
        obtain ⟨m1, hc1, hF4⟩ := bind_inv hF4
        refine sc 45 rfl rfl (Yc_func (g := 105) (vs := [.map (some g), .int .i64 x.Mask, .int .i64 x.Coef]) k_call_105 rfl (mc rfl (mc rfl (mc rfl mn))) (c_impl_polynomial_add poly x.Mask x.Coef g _  (hS9.inn [false, false, false, true, false] rfl [] rfl) hc1)) ?_
        rintro _ w_8 ⟨rfl, hd1⟩
        have hS13 := hS9.out [false, false, false, true, false] rfl hd1
        have hS13 : ST w0 [] _ [⟨some ⟨b, 0, none⟩, 57, [.int .i64 p.Ins, .int .i64 p.Vars, .int .i64 p.Root, .int .i64 p.Phase, .slice B p.Terms.length c, .slice B1 p.Out.length c1], 6⟩, ⟨some ⟨b1, 0, none⟩, 61, [.int .i64 by_.Mask, .int .i64 by_.Turn], 2⟩, ⟨some ⟨b2, 0, none⟩, 57, [.int .i64 0, .int .i64 0, .int .i64 0, .int .i64 0, .slice none 0 0, .slice none 0 0], 6⟩, ⟨some ⟨b3, 0, none⟩, 136, [.int .i64 x.Mask, .int .i64 x.Coef], 2⟩, ⟨(some ⟨g, 0, none⟩), .mp (mpE (Value.int .i64) (Value.int .i64) m1), [], 0⟩] [⟨B, (p.Terms.flatMap enc_Term)⟩, ⟨B1, (p.Out.flatMap enc_Affine)⟩] := hS13
        refine rw_nil ?_
        exact ⟨m1, (some_inj hF4), (FF.cons (hf.get 1 0 rfl) (FF.cons (hf.get 3 1 rfl) (FF.cons (hf.get 5 2 rfl) (FF.cons (hf.get 6 3 rfl) (FF.cons (hf.get 7 4 rfl) (FF.cons (hf.get 18 5 rfl) (FF.cons (hf.get 19 6 rfl) (FF.cons (hf.get 20 7 rfl) FF.nil)))))))), (hS13.sel [0, 1, 2, 4] rfl rfl)⟩
    rintro f w ⟨poly1, rfl, hf1, hS7⟩
    refine cw_region ?_
    refine sq 46 rfl rfl (Y_add (k := .i64) (a := (i : Int)) (b := 1) rfl (hf1.get 20 7 rfl) rfl) ?_
    refine sq 20 rfl rfl (Y_move (v := .int .i64 (IntKind.i64.wrap ((i : Int) + 1))) rfl rfl) ?_
    refine rw_nil ?_
    obtain rfl := some_inj hF2
    exact ⟨k_1, Nat.lt_succ_self _, i + 1, poly1, (FF.cons (hf1.get 1 0 rfl) (FF.cons (hf1.get 3 1 rfl) (FF.cons (hf1.get 5 2 rfl) (FF.cons (hf1.get 6 3 rfl) (FF.cons (hf1.get 7 4 rfl) (FF.cons (hf1.get 18 5 rfl) (FF.cons (hf1.get 19 6 rfl) (FF.cons (congrArg (Value.int .i64) (wr_succ hlt1 hN)) FF.nil)))))))), (hS7.sel [0, 1, 2, 3] rfl rfl), (by omega), hL1⟩
  · skip
    obtain rfl : k_ = 0 := by have h := of_decide_eq_false hlt; omega
    refine cw_exit rfl ?_
    obtain rfl := some_inj hL
    refine cw_seq ?_
    refine cw_region ?_
    refine sq 47 rfl rfl (Y_loadA (B := some ⟨b, 0, none⟩) (i := 0) (cs := [.int .i64 p.Ins, .int .i64 p.Vars, .int .i64 p.Root, .int .i64 p.Phase, .slice B p.Terms.length c, .slice B1 p.Out.length c1]) (vs := [.int .i64 p.Ins, .int .i64 p.Vars, .int .i64 p.Root, .int .i64 p.Phase, .slice B p.Terms.length c, .slice B1 p.Out.length c1]) k_ag_57 k_sz_57_6 rfl (hf.get 3 1 rfl) (hS6.cf (i := 0) rfl) rfl rfl) ?_
    refine ss 10 rfl rfl (Ys_alloc (T := 57) (cs := [.int .i64 0, .int .i64 0, .int .i64 0, .int .i64 0, .slice none 0 0, .slice none 0 0]) (m := 6) hS6 k_zero_57 rfl rfl rfl) ?_
    rintro _ w_9 ⟨b4, rfl, hS14⟩
    have hS14 : ST w0 [] _ [⟨some ⟨b, 0, none⟩, 57, [.int .i64 p.Ins, .int .i64 p.Vars, .int .i64 p.Root, .int .i64 p.Phase, .slice B p.Terms.length c, .slice B1 p.Out.length c1], 6⟩, ⟨some ⟨b1, 0, none⟩, 61, [.int .i64 by_.Mask, .int .i64 by_.Turn], 2⟩, ⟨some ⟨b2, 0, none⟩, 57, [.int .i64 0, .int .i64 0, .int .i64 0, .int .i64 0, .slice none 0 0, .slice none 0 0], 6⟩, ⟨(some ⟨g, 0, none⟩), .mp (mpE (Value.int .i64) (Value.int .i64) poly), [], 0⟩, ⟨some ⟨b4, 0, none⟩, 57, [.int .i64 0, .int .i64 0, .int .i64 0, .int .i64 0, .slice none 0 0, .slice none 0 0], 6⟩] [⟨B, (p.Terms.flatMap enc_Term)⟩, ⟨B1, (p.Out.flatMap enc_Affine)⟩] := hS14
    refine ss0 rfl rfl (Ys_store (i := 4) (s := 6) (B := some ⟨b4, 0, none⟩) (T' := 57) (v := .agg #[.int .i64 p.Ins, .int .i64 p.Vars, .int .i64 p.Root, .int .i64 p.Phase, .slice B p.Terms.length c, .slice B1 p.Out.length c1]) (vs := [.int .i64 p.Ins, .int .i64 p.Vars, .int .i64 p.Root, .int .i64 p.Phase, .slice B p.Terms.length c, .slice B1 p.Out.length c1]) (k := 0) (cs' := [.int .i64 p.Ins, .int .i64 p.Vars, .int .i64 p.Root, .int .i64 p.Phase, .slice B p.Terms.length c, .slice B1 p.Out.length c1]) hS14 k_sz_57_6 rfl rfl rfl rfl rfl rfl rfl (Nat.le_of_ble_eq_true rfl) rfl rfl) ?_
    rintro _ w_10 ⟨rfl, hS15⟩
    have hS15 : ST w0 [] _ [⟨some ⟨b, 0, none⟩, 57, [.int .i64 p.Ins, .int .i64 p.Vars, .int .i64 p.Root, .int .i64 p.Phase, .slice B p.Terms.length c, .slice B1 p.Out.length c1], 6⟩, ⟨some ⟨b1, 0, none⟩, 61, [.int .i64 by_.Mask, .int .i64 by_.Turn], 2⟩, ⟨some ⟨b2, 0, none⟩, 57, [.int .i64 0, .int .i64 0, .int .i64 0, .int .i64 0, .slice none 0 0, .slice none 0 0], 6⟩, ⟨(some ⟨g, 0, none⟩), .mp (mpE (Value.int .i64) (Value.int .i64) poly), [], 0⟩, ⟨some ⟨b4, 0, none⟩, 57, [.int .i64 p.Ins, .int .i64 p.Vars, .int .i64 p.Root, .int .i64 p.Phase, .slice B p.Terms.length c, .slice B1 p.Out.length c1], 6⟩] [⟨B, (p.Terms.flatMap enc_Term)⟩, ⟨B1, (p.Out.flatMap enc_Affine)⟩] := hS15
    refine rw_nil ?_
    refine cw_seq ?_
    obtain ⟨r_1, hc2, hF1⟩ := bind_inv hF1
    refine cw_mid (fun f w => ∃ (B5 : Option Addr) (c5 : Nat), FF f [(1, .int .i64 v_), (3, pt (some ⟨b, 0, none⟩) 0), (5, pt (some ⟨b1, 0, none⟩) 0), (6, pt (some ⟨b2, 0, none⟩) 0), (10, pt (some ⟨b4, 0, none⟩) 0)] ∧ ST w0 [] w [⟨some ⟨b, 0, none⟩, 57, [.int .i64 p.Ins, .int .i64 p.Vars, .int .i64 p.Root, .int .i64 p.Phase, .slice B p.Terms.length c, .slice B1 p.Out.length c1], 6⟩, ⟨some ⟨b1, 0, none⟩, 61, [.int .i64 by_.Mask, .int .i64 by_.Turn], 2⟩, ⟨some ⟨b2, 0, none⟩, 57, [.int .i64 0, .int .i64 0, .int .i64 0, .int .i64 0, .slice none 0 0, .slice none 0 0], 6⟩, ⟨some ⟨b4, 0, none⟩, 57, [.int .i64 p.Ins, .int .i64 p.Vars, .int .i64 p.Root, .int .i64 (mgt poly 0 0), .slice B5 r_1.length c5, .slice none 0 0], 6⟩, ⟨B5, 136, (r_1.flatMap enc_Term), c5 * 2⟩] [⟨B, (p.Terms.flatMap enc_Term)⟩, ⟨B1, (p.Out.flatMap enc_Affine)⟩]) ?_ ?_
    · skip
      refine ra_start (ST.sel hS15 [0, 1, 2] rfl rfl).fn (by kernel_rfl) ?_
      have hS18 := hS15.drew
      refine ra_q 0 48 (v := .map (some g)) rfl rfl rfl (by kernel_rfl) (by kernel_rfl) (by kernel_rfl) (ST.sel hS18 [0, 1, 2] rfl rfl) (fun w' hw' => (Y_move (v := .map (some g)) rfl (hf.get 7 4 rfl))) ?_
      refine ra_q 2 50 (v := .map (some g)) rfl rfl rfl (by kernel_rfl) (by kernel_rfl) (by kernel_rfl) (ST.sel hS18 [0, 1, 2] rfl rfl) (fun w' hw' => (Y_move (v := .map (some g)) rfl (hf.get 7 4 rfl))) ?_
      refine ra_all (rs := [1, 3]) (by kernel_rfl) rfl ?_
      refine ra_y 49 (i := 1) (v := .int .i64 (mgt poly 0 0)) rfl rfl rfl (Y_mapGet (kE := (Value.int .i64)) (vE := (Value.int .i64)) (l := poly) (a := 0) (d := 0) (g := g) (i := 3) hS18 (keyInt k_int_3_i64) k_map_105_3_3 k_zero_3 rfl rfl rfl rfl) (ST.sel hS18 [0, 1, 2] rfl rfl) ?_ ?_
      · skip
        refine ra_q 4 52 (v := pt (some ⟨b4, 0, none⟩) 3) rfl rfl rfl (by kernel_rfl) (by kernel_rfl) (by kernel_rfl) (ST.sel hS18 [0, 1, 2] rfl rfl) (fun w' hw' => (Y_fieldAddr (B := some ⟨b4, 0, none⟩) (i := 0) (s := 0) k_fd_57_3_3_3 k_sz_3_1 rfl rfl)) ?_
        refine ra_all (rs := [3]) (by kernel_rfl) rfl ?_
        refine ra_c 51 (i := 3) rfl rfl rfl (Yc_func (g := 68) (vs := [.map (some g)]) k_call_68 rfl (mc rfl mn) (c_impl_polynomial_terms poly g _  (hS18.inn [false, false, false, true, false] rfl [] rfl) hc2)) ?_ ?_
        · rintro _ w_11 ⟨B4, c4, rfl, hd2⟩
          have hS19 := hS18.out [false, false, false, true, false] rfl hd2
          have hS19 : ST w0 [] _ [⟨some ⟨b, 0, none⟩, 57, [.int .i64 p.Ins, .int .i64 p.Vars, .int .i64 p.Root, .int .i64 p.Phase, .slice B p.Terms.length c, .slice B1 p.Out.length c1], 6⟩, ⟨some ⟨b1, 0, none⟩, 61, [.int .i64 by_.Mask, .int .i64 by_.Turn], 2⟩, ⟨some ⟨b2, 0, none⟩, 57, [.int .i64 0, .int .i64 0, .int .i64 0, .int .i64 0, .slice none 0 0, .slice none 0 0], 6⟩, ⟨some ⟨b4, 0, none⟩, 57, [.int .i64 p.Ins, .int .i64 p.Vars, .int .i64 p.Root, .int .i64 p.Phase, .slice B p.Terms.length c, .slice B1 p.Out.length c1], 6⟩, ⟨(some ⟨g, 0, none⟩), .mp (mpE (Value.int .i64) (Value.int .i64) poly), [], 0⟩, ⟨B4, 136, (r_1.flatMap enc_Term), c4 * 2⟩] [⟨B, (p.Terms.flatMap enc_Term)⟩, ⟨B1, (p.Out.flatMap enc_Affine)⟩] := hS19
          refine ⟨(ST.sel hS19 [0, 1, 2] rfl rfl), ?_⟩
          refine ra_all (rs := [5]) (by kernel_rfl) rfl ?_
          refine ra_s0 (i := 5) rfl rfl rfl (Ys_store (i := 3) (s := 1) (B := some ⟨b4, 0, none⟩) (T' := 57) (v := .int .i64 (mgt poly 0 0)) (vs := [.int .i64 (mgt poly 0 0)]) (k := 3) (cs' := [.int .i64 p.Ins, .int .i64 p.Vars, .int .i64 p.Root, .int .i64 (mgt poly 0 0), .slice B p.Terms.length c, .slice B1 p.Out.length c1]) hS19 k_sz_3_1 rfl rfl rfl rfl rfl rfl rfl (Nat.le_of_ble_eq_true rfl) rfl rfl) ?_ ?_
          · rintro _ w_12 ⟨rfl, hS20⟩
            have hS20 : ST w0 [] _ [⟨some ⟨b, 0, none⟩, 57, [.int .i64 p.Ins, .int .i64 p.Vars, .int .i64 p.Root, .int .i64 p.Phase, .slice B p.Terms.length c, .slice B1 p.Out.length c1], 6⟩, ⟨some ⟨b1, 0, none⟩, 61, [.int .i64 by_.Mask, .int .i64 by_.Turn], 2⟩, ⟨some ⟨b2, 0, none⟩, 57, [.int .i64 0, .int .i64 0, .int .i64 0, .int .i64 0, .slice none 0 0, .slice none 0 0], 6⟩, ⟨some ⟨b4, 0, none⟩, 57, [.int .i64 p.Ins, .int .i64 p.Vars, .int .i64 p.Root, .int .i64 (mgt poly 0 0), .slice B p.Terms.length c, .slice B1 p.Out.length c1], 6⟩, ⟨(some ⟨g, 0, none⟩), .mp (mpE (Value.int .i64) (Value.int .i64) poly), [], 0⟩, ⟨B4, 136, (r_1.flatMap enc_Term), c4 * 2⟩] [⟨B, (p.Terms.flatMap enc_Term)⟩, ⟨B1, (p.Out.flatMap enc_Affine)⟩] := hS20
            refine ⟨(ST.sel hS20 [0, 1, 2] rfl rfl), ?_⟩
            refine ra_q 6 53 (v := pt (some ⟨b4, 0, none⟩) 4) rfl rfl rfl (by kernel_rfl) (by kernel_rfl) (by kernel_rfl) (ST.sel hS20 [0, 1, 2] rfl rfl) (fun w' hw' => (Y_fieldAddr (B := some ⟨b4, 0, none⟩) (i := 0) (s := 0) k_fd_57_4_4_54 k_sz_54_1 rfl rfl)) ?_
            refine ra_all (rs := [7]) (by kernel_rfl) rfl ?_
            refine ra_s0 (i := 7) rfl rfl rfl (Ys_store (i := 3) (s := 1) (B := some ⟨b4, 0, none⟩) (T' := 57) (v := .slice B4 r_1.length c4) (vs := [.slice B4 r_1.length c4]) (k := 4) (cs' := [.int .i64 p.Ins, .int .i64 p.Vars, .int .i64 p.Root, .int .i64 (mgt poly 0 0), .slice B4 r_1.length c4, .slice B1 p.Out.length c1]) hS20 k_sz_54_1 rfl rfl rfl rfl rfl rfl rfl (Nat.le_of_ble_eq_true rfl) rfl rfl) ?_ ?_
            · rintro _ w_13 ⟨rfl, hS21⟩
              have hS21 : ST w0 [] _ [⟨some ⟨b, 0, none⟩, 57, [.int .i64 p.Ins, .int .i64 p.Vars, .int .i64 p.Root, .int .i64 p.Phase, .slice B p.Terms.length c, .slice B1 p.Out.length c1], 6⟩, ⟨some ⟨b1, 0, none⟩, 61, [.int .i64 by_.Mask, .int .i64 by_.Turn], 2⟩, ⟨some ⟨b2, 0, none⟩, 57, [.int .i64 0, .int .i64 0, .int .i64 0, .int .i64 0, .slice none 0 0, .slice none 0 0], 6⟩, ⟨some ⟨b4, 0, none⟩, 57, [.int .i64 p.Ins, .int .i64 p.Vars, .int .i64 p.Root, .int .i64 (mgt poly 0 0), .slice B4 r_1.length c4, .slice B1 p.Out.length c1], 6⟩, ⟨(some ⟨g, 0, none⟩), .mp (mpE (Value.int .i64) (Value.int .i64) poly), [], 0⟩, ⟨B4, 136, (r_1.flatMap enc_Term), c4 * 2⟩] [⟨B, (p.Terms.flatMap enc_Term)⟩, ⟨B1, (p.Out.flatMap enc_Affine)⟩] := hS21
              refine ⟨(ST.sel hS21 [0, 1, 2] rfl rfl), ?_⟩
              refine ra_q 8 54 (v := pt (some ⟨b4, 0, none⟩) 5) rfl rfl rfl (by kernel_rfl) (by kernel_rfl) (by kernel_rfl) (ST.sel hS21 [0, 1, 2] rfl rfl) (fun w' hw' => (Y_fieldAddr (B := some ⟨b4, 0, none⟩) (i := 0) (s := 0) k_fd_57_5_5_55 k_sz_55_1 rfl rfl)) ?_
              refine ra_all (rs := [9]) (by kernel_rfl) rfl ?_
              refine ra_s0 (i := 9) rfl rfl rfl (Ys_store (i := 3) (s := 1) (B := some ⟨b4, 0, none⟩) (T' := 57) (v := .slice none 0 0) (vs := [.slice none 0 0]) (k := 5) (cs' := [.int .i64 p.Ins, .int .i64 p.Vars, .int .i64 p.Root, .int .i64 (mgt poly 0 0), .slice B4 r_1.length c4, .slice none 0 0]) hS21 k_sz_55_1 rfl rfl rfl rfl rfl rfl rfl (Nat.le_of_ble_eq_true rfl) rfl rfl) ?_ ?_
              · rintro _ w_14 ⟨rfl, hS22⟩
                have hS22 : ST w0 [] _ [⟨some ⟨b, 0, none⟩, 57, [.int .i64 p.Ins, .int .i64 p.Vars, .int .i64 p.Root, .int .i64 p.Phase, .slice B p.Terms.length c, .slice B1 p.Out.length c1], 6⟩, ⟨some ⟨b1, 0, none⟩, 61, [.int .i64 by_.Mask, .int .i64 by_.Turn], 2⟩, ⟨some ⟨b2, 0, none⟩, 57, [.int .i64 0, .int .i64 0, .int .i64 0, .int .i64 0, .slice none 0 0, .slice none 0 0], 6⟩, ⟨some ⟨b4, 0, none⟩, 57, [.int .i64 p.Ins, .int .i64 p.Vars, .int .i64 p.Root, .int .i64 (mgt poly 0 0), .slice B4 r_1.length c4, .slice none 0 0], 6⟩, ⟨(some ⟨g, 0, none⟩), .mp (mpE (Value.int .i64) (Value.int .i64) poly), [], 0⟩, ⟨B4, 136, (r_1.flatMap enc_Term), c4 * 2⟩] [⟨B, (p.Terms.flatMap enc_Term)⟩, ⟨B1, (p.Out.flatMap enc_Affine)⟩] := hS22
                refine ⟨(ST.sel hS22 [0, 1, 2] rfl rfl), ?_⟩
                refine ra_done (by kernel_rfl) ?_
                exact ⟨B4, c4, (FF.cons (hf.get 1 0 rfl) (FF.cons (hf.get 3 1 rfl) (FF.cons (hf.get 5 2 rfl) (FF.cons (hf.get 6 3 rfl) (FF.cons rfl FF.nil))))), (hS22.sel [0, 1, 2, 3, 5] rfl rfl)⟩
              exact allR_nil
            exact allR_nil
          exact allR_nil
        exact allR_nil
      refine ra_c 51 (i := 3) rfl rfl rfl (Yc_func (g := 68) (vs := [.map (some g)]) k_call_68 rfl (mc rfl mn) (c_impl_polynomial_terms poly g _  (hS18.inn [false, false, false, true, false] rfl [] rfl) hc2)) ?_ ?_
      · rintro _ w_15 ⟨B4, c4, rfl, hd3⟩
        have hS23 := hS18.out [false, false, false, true, false] rfl hd3
        have hS23 : ST w0 [] _ [⟨some ⟨b, 0, none⟩, 57, [.int .i64 p.Ins, .int .i64 p.Vars, .int .i64 p.Root, .int .i64 p.Phase, .slice B p.Terms.length c, .slice B1 p.Out.length c1], 6⟩, ⟨some ⟨b1, 0, none⟩, 61, [.int .i64 by_.Mask, .int .i64 by_.Turn], 2⟩, ⟨some ⟨b2, 0, none⟩, 57, [.int .i64 0, .int .i64 0, .int .i64 0, .int .i64 0, .slice none 0 0, .slice none 0 0], 6⟩, ⟨some ⟨b4, 0, none⟩, 57, [.int .i64 p.Ins, .int .i64 p.Vars, .int .i64 p.Root, .int .i64 p.Phase, .slice B p.Terms.length c, .slice B1 p.Out.length c1], 6⟩, ⟨(some ⟨g, 0, none⟩), .mp (mpE (Value.int .i64) (Value.int .i64) poly), [], 0⟩, ⟨B4, 136, (r_1.flatMap enc_Term), c4 * 2⟩] [⟨B, (p.Terms.flatMap enc_Term)⟩, ⟨B1, (p.Out.flatMap enc_Affine)⟩] := hS23
        refine ⟨(ST.sel hS23 [0, 1, 2] rfl rfl), ?_⟩
        refine ra_all (rs := [1]) (by kernel_rfl) rfl ?_
        refine ra_y 49 (i := 1) (v := .int .i64 (mgt poly 0 0)) rfl rfl rfl (Y_mapGet (kE := (Value.int .i64)) (vE := (Value.int .i64)) (l := poly) (a := 0) (d := 0) (g := g) (i := 4) hS23 (keyInt k_int_3_i64) k_map_105_3_3 k_zero_3 rfl rfl rfl rfl) (ST.sel hS23 [0, 1, 2] rfl rfl) ?_ ?_
        · skip
          refine ra_q 4 52 (v := pt (some ⟨b4, 0, none⟩) 3) rfl rfl rfl (by kernel_rfl) (by kernel_rfl) (by kernel_rfl) (ST.sel hS23 [0, 1, 2] rfl rfl) (fun w' hw' => (Y_fieldAddr (B := some ⟨b4, 0, none⟩) (i := 0) (s := 0) k_fd_57_3_3_3 k_sz_3_1 rfl rfl)) ?_
          refine ra_all (rs := [5]) (by kernel_rfl) rfl ?_
          refine ra_s0 (i := 5) rfl rfl rfl (Ys_store (i := 3) (s := 1) (B := some ⟨b4, 0, none⟩) (T' := 57) (v := .int .i64 (mgt poly 0 0)) (vs := [.int .i64 (mgt poly 0 0)]) (k := 3) (cs' := [.int .i64 p.Ins, .int .i64 p.Vars, .int .i64 p.Root, .int .i64 (mgt poly 0 0), .slice B p.Terms.length c, .slice B1 p.Out.length c1]) hS23 k_sz_3_1 rfl rfl rfl rfl rfl rfl rfl (Nat.le_of_ble_eq_true rfl) rfl rfl) ?_ ?_
          · rintro _ w_16 ⟨rfl, hS24⟩
            have hS24 : ST w0 [] _ [⟨some ⟨b, 0, none⟩, 57, [.int .i64 p.Ins, .int .i64 p.Vars, .int .i64 p.Root, .int .i64 p.Phase, .slice B p.Terms.length c, .slice B1 p.Out.length c1], 6⟩, ⟨some ⟨b1, 0, none⟩, 61, [.int .i64 by_.Mask, .int .i64 by_.Turn], 2⟩, ⟨some ⟨b2, 0, none⟩, 57, [.int .i64 0, .int .i64 0, .int .i64 0, .int .i64 0, .slice none 0 0, .slice none 0 0], 6⟩, ⟨some ⟨b4, 0, none⟩, 57, [.int .i64 p.Ins, .int .i64 p.Vars, .int .i64 p.Root, .int .i64 (mgt poly 0 0), .slice B p.Terms.length c, .slice B1 p.Out.length c1], 6⟩, ⟨(some ⟨g, 0, none⟩), .mp (mpE (Value.int .i64) (Value.int .i64) poly), [], 0⟩, ⟨B4, 136, (r_1.flatMap enc_Term), c4 * 2⟩] [⟨B, (p.Terms.flatMap enc_Term)⟩, ⟨B1, (p.Out.flatMap enc_Affine)⟩] := hS24
            refine ⟨(ST.sel hS24 [0, 1, 2] rfl rfl), ?_⟩
            refine ra_q 6 53 (v := pt (some ⟨b4, 0, none⟩) 4) rfl rfl rfl (by kernel_rfl) (by kernel_rfl) (by kernel_rfl) (ST.sel hS24 [0, 1, 2] rfl rfl) (fun w' hw' => (Y_fieldAddr (B := some ⟨b4, 0, none⟩) (i := 0) (s := 0) k_fd_57_4_4_54 k_sz_54_1 rfl rfl)) ?_
            refine ra_all (rs := [7]) (by kernel_rfl) rfl ?_
            refine ra_s0 (i := 7) rfl rfl rfl (Ys_store (i := 3) (s := 1) (B := some ⟨b4, 0, none⟩) (T' := 57) (v := .slice B4 r_1.length c4) (vs := [.slice B4 r_1.length c4]) (k := 4) (cs' := [.int .i64 p.Ins, .int .i64 p.Vars, .int .i64 p.Root, .int .i64 (mgt poly 0 0), .slice B4 r_1.length c4, .slice B1 p.Out.length c1]) hS24 k_sz_54_1 rfl rfl rfl rfl rfl rfl rfl (Nat.le_of_ble_eq_true rfl) rfl rfl) ?_ ?_
            · rintro _ w_17 ⟨rfl, hS25⟩
              have hS25 : ST w0 [] _ [⟨some ⟨b, 0, none⟩, 57, [.int .i64 p.Ins, .int .i64 p.Vars, .int .i64 p.Root, .int .i64 p.Phase, .slice B p.Terms.length c, .slice B1 p.Out.length c1], 6⟩, ⟨some ⟨b1, 0, none⟩, 61, [.int .i64 by_.Mask, .int .i64 by_.Turn], 2⟩, ⟨some ⟨b2, 0, none⟩, 57, [.int .i64 0, .int .i64 0, .int .i64 0, .int .i64 0, .slice none 0 0, .slice none 0 0], 6⟩, ⟨some ⟨b4, 0, none⟩, 57, [.int .i64 p.Ins, .int .i64 p.Vars, .int .i64 p.Root, .int .i64 (mgt poly 0 0), .slice B4 r_1.length c4, .slice B1 p.Out.length c1], 6⟩, ⟨(some ⟨g, 0, none⟩), .mp (mpE (Value.int .i64) (Value.int .i64) poly), [], 0⟩, ⟨B4, 136, (r_1.flatMap enc_Term), c4 * 2⟩] [⟨B, (p.Terms.flatMap enc_Term)⟩, ⟨B1, (p.Out.flatMap enc_Affine)⟩] := hS25
              refine ⟨(ST.sel hS25 [0, 1, 2] rfl rfl), ?_⟩
              refine ra_q 8 54 (v := pt (some ⟨b4, 0, none⟩) 5) rfl rfl rfl (by kernel_rfl) (by kernel_rfl) (by kernel_rfl) (ST.sel hS25 [0, 1, 2] rfl rfl) (fun w' hw' => (Y_fieldAddr (B := some ⟨b4, 0, none⟩) (i := 0) (s := 0) k_fd_57_5_5_55 k_sz_55_1 rfl rfl)) ?_
              refine ra_all (rs := [9]) (by kernel_rfl) rfl ?_
              refine ra_s0 (i := 9) rfl rfl rfl (Ys_store (i := 3) (s := 1) (B := some ⟨b4, 0, none⟩) (T' := 57) (v := .slice none 0 0) (vs := [.slice none 0 0]) (k := 5) (cs' := [.int .i64 p.Ins, .int .i64 p.Vars, .int .i64 p.Root, .int .i64 (mgt poly 0 0), .slice B4 r_1.length c4, .slice none 0 0]) hS25 k_sz_55_1 rfl rfl rfl rfl rfl rfl rfl (Nat.le_of_ble_eq_true rfl) rfl rfl) ?_ ?_
              · rintro _ w_18 ⟨rfl, hS26⟩
                have hS26 : ST w0 [] _ [⟨some ⟨b, 0, none⟩, 57, [.int .i64 p.Ins, .int .i64 p.Vars, .int .i64 p.Root, .int .i64 p.Phase, .slice B p.Terms.length c, .slice B1 p.Out.length c1], 6⟩, ⟨some ⟨b1, 0, none⟩, 61, [.int .i64 by_.Mask, .int .i64 by_.Turn], 2⟩, ⟨some ⟨b2, 0, none⟩, 57, [.int .i64 0, .int .i64 0, .int .i64 0, .int .i64 0, .slice none 0 0, .slice none 0 0], 6⟩, ⟨some ⟨b4, 0, none⟩, 57, [.int .i64 p.Ins, .int .i64 p.Vars, .int .i64 p.Root, .int .i64 (mgt poly 0 0), .slice B4 r_1.length c4, .slice none 0 0], 6⟩, ⟨(some ⟨g, 0, none⟩), .mp (mpE (Value.int .i64) (Value.int .i64) poly), [], 0⟩, ⟨B4, 136, (r_1.flatMap enc_Term), c4 * 2⟩] [⟨B, (p.Terms.flatMap enc_Term)⟩, ⟨B1, (p.Out.flatMap enc_Affine)⟩] := hS26
                refine ⟨(ST.sel hS26 [0, 1, 2] rfl rfl), ?_⟩
                refine ra_done (by kernel_rfl) ?_
                exact ⟨B4, c4, (FF.cons (hf.get 1 0 rfl) (FF.cons (hf.get 3 1 rfl) (FF.cons (hf.get 5 2 rfl) (FF.cons (hf.get 6 3 rfl) (FF.cons rfl FF.nil))))), (hS26.sel [0, 1, 2, 3, 5] rfl rfl)⟩
              exact allR_nil
            exact allR_nil
          exact allR_nil
        exact allR_nil
      exact allR_nil
    rintro f w ⟨B5, c5, hf2, hS17⟩
    refine cw_seq ?_
    refine cw_seq ?_
    refine cw_region ?_
    refine sq 55 rfl rfl (Y_fieldAddr (B := some ⟨b, 0, none⟩) (i := 0) (s := 0) k_fd_57_5_5_55 k_sz_55_1 rfl (hf2.get 3 1 rfl)) ?_
    refine sq 56 rfl rfl (Y_load1 (B := some ⟨b, 0, none⟩) (i := 5) (cs := [.int .i64 p.Ins, .int .i64 p.Vars, .int .i64 p.Root, .int .i64 p.Phase, .slice B p.Terms.length c, .slice B1 p.Out.length c1]) (v := .slice B1 p.Out.length c1) k_sc_55 rfl rfl (hS17.cf (i := 0) rfl) rfl) ?_
    refine sq 57 rfl rfl (Y_len (B := B1) (m := p.Out.length) (c := c1) k_sl_55_61 rfl rfl) ?_
    refine sq 58 rfl rfl (Y_move (v := .int .i64 0) rfl rfl) ?_
    refine rw_nil ?_
    obtain ⟨z2, hz2, hF5⟩ := bind_inv hF1
    have hS28 := hS17.addNil 61
    refine cw_block ?_
    refine cw_loop (fun k f w => ∃ (Out : List TAffine) (t : Int) (B6 : Option Addr) (c6 : Nat), FF f [(1, .int .i64 v_), (5, pt (some ⟨b1, 0, none⟩) 0), (6, pt (some ⟨b2, 0, none⟩) 0), (10, pt (some ⟨b4, 0, none⟩) 0), (56, .slice B1 p.Out.length c1), (57, .int .i64 (p.Out.length : Int)), (58, .int .i64 t)] ∧ ST w0 [] w [⟨some ⟨b1, 0, none⟩, 61, [.int .i64 by_.Mask, .int .i64 by_.Turn], 2⟩, ⟨some ⟨b2, 0, none⟩, 57, [.int .i64 0, .int .i64 0, .int .i64 0, .int .i64 0, .slice none 0 0, .slice none 0 0], 6⟩, ⟨some ⟨b4, 0, none⟩, 57, [.int .i64 p.Ins, .int .i64 p.Vars, .int .i64 p.Root, .int .i64 (mgt poly 0 0), .slice B5 r_1.length c5, .slice B6 Out.length c6], 6⟩, ⟨B5, 136, (r_1.flatMap enc_Term), c5 * 2⟩, ⟨B6, 61, (Out.flatMap enc_Affine), c6 * 2⟩] [⟨B, (p.Terms.flatMap enc_Term)⟩, ⟨B1, (p.Out.flatMap enc_Affine)⟩] ∧ whX (F_impl_PathSum_substituted_l2 p v_ by_) k (Out, t) = some z2) fuel ⟨[], 0, none, 0, (FF.cons (hf2.get 1 0 rfl) (FF.cons (hf2.get 5 2 rfl) (FF.cons (hf2.get 6 3 rfl) (FF.cons (hf2.get 10 4 rfl) (FF.cons rfl (FF.cons rfl (FF.cons rfl FF.nil))))))), (hS28.sel [1, 2, 3, 4, 5] rfl rfl), hz2⟩ ?_
    rintro k_2 f w ⟨Out, t, B6, c6, hf3, hS27, hL2⟩
    obtain ⟨k_3, y1, rfl, hb2, hL3⟩ := whX_go hL2
    unfold F_impl_PathSum_substituted_l2 at hb2
    refine cw_seq ?_
    refine cw_region ?_
    refine sq 59 rfl rfl (Y_lt (k := .i64) (a := t) (b := (p.Out.length : Int)) rfl (hf3.get 58 6 rfl) (hf3.get 57 5 rfl)) ?_
    refine rw_nil ?_
    refine cw_seq ?_
    refine cw_cond (b := (decide (t < (p.Out.length : Int)))) rfl (fun hb3 => ?_) (fun hb3 => ?_)
    · skip
      have hF6 := ct hb2 hb3
      refine cw_skip ?_
      refine cw_seq ?_
      refine cw_block ?_
      refine cw_seq ?_
      refine cw_region ?_
      obtain ⟨x1, hx1, hF6⟩ := bind_inv hF6
      refine sq 60 rfl rfl (Y_index (B := B1) (m := p.Out.length) (c := c1) (k := .i64) (i := t) k_sl_55_61 k_sz_61_2 rfl (hf3.get 56 4 rfl) (hf3.get 58 6 rfl) (gi_isSome enc_Affine_len rfl (hS27.rf (i := 1) rfl) hx1) (getI_nn hx1) (getI_ltI hx1 rfl)) ?_
      refine sq 61 rfl rfl (Y_loadA (B := B1) (i := t.toNat * 2) (cs := (p.Out.flatMap enc_Affine)) (vs := [.int .i64 x1.Mask, .int .i64 x1.Turn]) k_ag_61 k_sz_61_2 rfl rfl (hS27.rf (i := 1) rfl) (enc_Affine_len x1) (gi_seg enc_Affine_len hx1)) ?_
      refine ss 12 rfl rfl (Ys_alloc (T := 61) (cs := [.int .i64 0, .int .i64 0]) (m := 2) hS27 k_zero_61 rfl rfl rfl) ?_
      rintro _ w_19 ⟨b5, rfl, hS29⟩
      have hS29 : ST w0 [] _ [⟨some ⟨b1, 0, none⟩, 61, [.int .i64 by_.Mask, .int .i64 by_.Turn], 2⟩, ⟨some ⟨b2, 0, none⟩, 57, [.int .i64 0, .int .i64 0, .int .i64 0, .int .i64 0, .slice none 0 0, .slice none 0 0], 6⟩, ⟨some ⟨b4, 0, none⟩, 57, [.int .i64 p.Ins, .int .i64 p.Vars, .int .i64 p.Root, .int .i64 (mgt poly 0 0), .slice B5 r_1.length c5, .slice B6 Out.length c6], 6⟩, ⟨B5, 136, (r_1.flatMap enc_Term), c5 * 2⟩, ⟨B6, 61, (Out.flatMap enc_Affine), c6 * 2⟩, ⟨some ⟨b5, 0, none⟩, 61, [.int .i64 0, .int .i64 0], 2⟩] [⟨B, (p.Terms.flatMap enc_Term)⟩, ⟨B1, (p.Out.flatMap enc_Affine)⟩] := hS29
      refine ss0 rfl rfl (Ys_store (i := 5) (s := 2) (B := some ⟨b5, 0, none⟩) (T' := 61) (v := .agg #[.int .i64 x1.Mask, .int .i64 x1.Turn]) (vs := [.int .i64 x1.Mask, .int .i64 x1.Turn]) (k := 0) (cs' := [.int .i64 x1.Mask, .int .i64 x1.Turn]) hS29 k_sz_61_2 rfl rfl rfl rfl rfl rfl rfl (Nat.le_of_ble_eq_true rfl) rfl rfl) ?_
      rintro _ w_20 ⟨rfl, hS30⟩
      have hS30 : ST w0 [] _ [⟨some ⟨b1, 0, none⟩, 61, [.int .i64 by_.Mask, .int .i64 by_.Turn], 2⟩, ⟨some ⟨b2, 0, none⟩, 57, [.int .i64 0, .int .i64 0, .int .i64 0, .int .i64 0, .slice none 0 0, .slice none 0 0], 6⟩, ⟨some ⟨b4, 0, none⟩, 57, [.int .i64 p.Ins, .int .i64 p.Vars, .int .i64 p.Root, .int .i64 (mgt poly 0 0), .slice B5 r_1.length c5, .slice B6 Out.length c6], 6⟩, ⟨B5, 136, (r_1.flatMap enc_Term), c5 * 2⟩, ⟨B6, 61, (Out.flatMap enc_Affine), c6 * 2⟩, ⟨some ⟨b5, 0, none⟩, 61, [.int .i64 x1.Mask, .int .i64 x1.Turn], 2⟩] [⟨B, (p.Terms.flatMap enc_Term)⟩, ⟨B1, (p.Out.flatMap enc_Affine)⟩] := hS30
      refine rw_nil ?_
      refine cw_seq ?_
      obtain ⟨z3, hz3, hF7⟩ := bind_inv hF6
      refine cw_mid (fun f w => ∃ (Mask : Int) (Turn : Int), (Mask, Turn) = z3 ∧ FF f [(1, .int .i64 v_), (5, pt (some ⟨b1, 0, none⟩) 0), (6, pt (some ⟨b2, 0, none⟩) 0), (10, pt (some ⟨b4, 0, none⟩) 0), (12, pt (some ⟨b5, 0, none⟩) 0), (56, .slice B1 p.Out.length c1), (57, .int .i64 (p.Out.length : Int)), (58, .int .i64 t)] ∧ ST w0 [] w [⟨some ⟨b1, 0, none⟩, 61, [.int .i64 by_.Mask, .int .i64 by_.Turn], 2⟩, ⟨some ⟨b2, 0, none⟩, 57, [.int .i64 0, .int .i64 0, .int .i64 0, .int .i64 0, .slice none 0 0, .slice none 0 0], 6⟩, ⟨some ⟨b4, 0, none⟩, 57, [.int .i64 p.Ins, .int .i64 p.Vars, .int .i64 p.Root, .int .i64 (mgt poly 0 0), .slice B5 r_1.length c5, .slice B6 Out.length c6], 6⟩, ⟨B5, 136, (r_1.flatMap enc_Term), c5 * 2⟩, ⟨B6, 61, (Out.flatMap enc_Affine), c6 * 2⟩, ⟨some ⟨b5, 0, none⟩, 61, [.int .i64 Mask, .int .i64 Turn], 2⟩] [⟨B, (p.Terms.flatMap enc_Term)⟩, ⟨B1, (p.Out.flatMap enc_Affine)⟩]) ?_ ?_
      · skip
        refine cw_seq ?_
        refine cw_region ?_
        refine sq 62 rfl rfl (Y_fieldAddr (B := some ⟨b5, 0, none⟩) (i := 0) (s := 0) k_fd_61_0_0_3 k_sz_3_1 rfl rfl) ?_
        refine sq 63 rfl rfl (Y_load1 (B := some ⟨b5, 0, none⟩) (i := 0) (cs := [.int .i64 x1.Mask, .int .i64 x1.Turn]) (v := .int .i64 x1.Mask) k_sc_3 rfl rfl (hS30.cf (i := 5) rfl) rfl) ?_
        refine sq 64 rfl rfl (Y_move (v := .int .i64 v_) rfl (hf3.get 1 0 rfl)) ?_
        obtain ⟨hsh2, hz3⟩ := chk_inv hz3
        refine sq 65 rfl rfl (Y_shr (k := .i64) (a := x1.Mask) (k' := .i64) (b := v_) rfl rfl rfl hsh2) ?_
        refine sq 66 rfl rfl (Y_band (k := .i64) (a := (shrK .i64 x1.Mask v_)) (b := 1) rfl rfl rfl) ?_
        refine sq 67 rfl rfl (Y_eq (k := .i64) (a := (bits .and .i64 (shrK .i64 x1.Mask v_) 1)) (b := 1) rfl rfl rfl) ?_
        refine rw_nil ?_
        refine cw_cond (b := ((bits .and .i64 (shrK .i64 x1.Mask v_) 1) == 1)) rfl (fun hb4 => ?_) (fun hb4 => ?_)
        · skip
          have hF8 := ct hz3 hb4
          obtain ⟨hsh3, hF8⟩ := chk_inv hF8
          refine cw_mid (fun f w => FF f [(1, .int .i64 v_), (5, pt (some ⟨b1, 0, none⟩) 0), (6, pt (some ⟨b2, 0, none⟩) 0), (10, pt (some ⟨b4, 0, none⟩) 0), (12, pt (some ⟨b5, 0, none⟩) 0), (56, .slice B1 p.Out.length c1), (57, .int .i64 (p.Out.length : Int)), (58, .int .i64 t)] ∧ ST w0 [] w [⟨some ⟨b1, 0, none⟩, 61, [.int .i64 by_.Mask, .int .i64 by_.Turn], 2⟩, ⟨some ⟨b2, 0, none⟩, 57, [.int .i64 0, .int .i64 0, .int .i64 0, .int .i64 0, .slice none 0 0, .slice none 0 0], 6⟩, ⟨some ⟨b4, 0, none⟩, 57, [.int .i64 p.Ins, .int .i64 p.Vars, .int .i64 p.Root, .int .i64 (mgt poly 0 0), .slice B5 r_1.length c5, .slice B6 Out.length c6], 6⟩, ⟨B5, 136, (r_1.flatMap enc_Term), c5 * 2⟩, ⟨B6, 61, (Out.flatMap enc_Affine), c6 * 2⟩, ⟨some ⟨b5, 0, none⟩, 61, [.int .i64 (bits .xor .i64 (bits .xor .i64 x1.Mask (shlK .i64 1 v_)) by_.Mask), .int .i64 (bits .xor .i64 x1.Turn by_.Turn)], 2⟩] [⟨B, (p.Terms.flatMap enc_Term)⟩, ⟨B1, (p.Out.flatMap enc_Affine)⟩]) ?_ ?_
          · skip
            refine ra_start (ST.sel hS30 [0, 1, 2, 3, 4] rfl rfl).fn (by kernel_rfl) ?_
            have hS33 := hS30.drew
            refine ra_q 0 68 (v := pt (some ⟨b5, 0, none⟩) 0) rfl rfl rfl (by kernel_rfl) (by kernel_rfl) (by kernel_rfl) (ST.sel hS33 [0, 1, 2, 3, 4] rfl rfl) (fun w' hw' => (Y_fieldAddr (B := some ⟨b5, 0, none⟩) (i := 0) (s := 0) k_fd_61_0_0_3 k_sz_3_1 rfl rfl)) ?_
            refine ra_q 2 70 (v := .int .i64 v_) rfl rfl rfl (by kernel_rfl) (by kernel_rfl) (by kernel_rfl) (ST.sel hS33 [0, 1, 2, 3, 4] rfl rfl) (fun w' hw' => (Y_move (v := .int .i64 v_) rfl (hf3.get 1 0 rfl))) ?_
            refine ra_q 3 71 (v := .int .i64 (shlK .i64 1 v_)) rfl rfl rfl (by kernel_rfl) (by kernel_rfl) (by kernel_rfl) (ST.sel hS33 [0, 1, 2, 3, 4] rfl rfl) (fun w' hw' => (Y_shl (k := .i64) (a := 1) (k' := .i64) (b := v_) rfl rfl rfl hsh3)) ?_
            refine ra_q 5 73 (v := pt (some ⟨b1, 0, none⟩) 0) rfl rfl rfl (by kernel_rfl) (by kernel_rfl) (by kernel_rfl) (ST.sel hS33 [0, 1, 2, 3, 4] rfl rfl) (fun w' hw' => (Y_fieldAddr (B := some ⟨b1, 0, none⟩) (i := 0) (s := 0) k_fd_61_0_0_3 k_sz_3_1 rfl (hf3.get 5 1 rfl))) ?_
            refine ra_q 6 74 (v := .int .i64 by_.Mask) rfl rfl rfl (by kernel_rfl) (by kernel_rfl) (by kernel_rfl) (ST.sel hS33 [0, 1, 2, 3, 4] rfl rfl) (fun w' hw' => (Y_load1 (B := some ⟨b1, 0, none⟩) (i := 0) (cs := [.int .i64 by_.Mask, .int .i64 by_.Turn]) (v := .int .i64 by_.Mask) k_sc_3 rfl rfl (ST.cf hw' (i := 0) rfl) rfl)) ?_
            refine ra_q 8 76 (v := pt (some ⟨b5, 0, none⟩) 1) rfl rfl rfl (by kernel_rfl) (by kernel_rfl) (by kernel_rfl) (ST.sel hS33 [0, 1, 2, 3, 4] rfl rfl) (fun w' hw' => (Y_fieldAddr (B := some ⟨b5, 0, none⟩) (i := 0) (s := 0) k_fd_61_1_1_3 k_sz_3_1 rfl rfl)) ?_
            refine ra_q 10 78 (v := pt (some ⟨b1, 0, none⟩) 1) rfl rfl rfl (by kernel_rfl) (by kernel_rfl) (by kernel_rfl) (ST.sel hS33 [0, 1, 2, 3, 4] rfl rfl) (fun w' hw' => (Y_fieldAddr (B := some ⟨b1, 0, none⟩) (i := 0) (s := 0) k_fd_61_1_1_3 k_sz_3_1 rfl (hf3.get 5 1 rfl))) ?_
            refine ra_q 11 79 (v := .int .i64 by_.Turn) rfl rfl rfl (by kernel_rfl) (by kernel_rfl) (by kernel_rfl) (ST.sel hS33 [0, 1, 2, 3, 4] rfl rfl) (fun w' hw' => (Y_load1 (B := some ⟨b1, 0, none⟩) (i := 1) (cs := [.int .i64 by_.Mask, .int .i64 by_.Turn]) (v := .int .i64 by_.Turn) k_sc_3 rfl rfl (ST.cf hw' (i := 0) rfl) rfl)) ?_
            refine ra_all (rs := [1, 9]) (by kernel_rfl) rfl ?_
            refine ra_y 69 (i := 1) (v := .int .i64 x1.Mask) rfl rfl rfl (Y_load1 (B := some ⟨b5, 0, none⟩) (i := 0) (cs := [.int .i64 x1.Mask, .int .i64 x1.Turn]) (v := .int .i64 x1.Mask) k_sc_3 rfl rfl (hS33.cf (i := 5) rfl) rfl) (ST.sel hS33 [0, 1, 2, 3, 4] rfl rfl) ?_ ?_
            · skip
              refine ra_q 4 72 (v := .int .i64 (bits .xor .i64 x1.Mask (shlK .i64 1 v_))) rfl rfl rfl (by kernel_rfl) (by kernel_rfl) (by kernel_rfl) (ST.sel hS33 [0, 1, 2, 3, 4] rfl rfl) (fun w' hw' => (Y_bxor (k := .i64) (a := x1.Mask) (b := (shlK .i64 1 v_)) rfl rfl rfl)) ?_
              refine ra_q 7 75 (v := .int .i64 (bits .xor .i64 (bits .xor .i64 x1.Mask (shlK .i64 1 v_)) by_.Mask)) rfl rfl rfl (by kernel_rfl) (by kernel_rfl) (by kernel_rfl) (ST.sel hS33 [0, 1, 2, 3, 4] rfl rfl) (fun w' hw' => (Y_bxor (k := .i64) (a := (bits .xor .i64 x1.Mask (shlK .i64 1 v_))) (b := by_.Mask) rfl rfl rfl)) ?_
              refine ra_all (rs := [9]) (by kernel_rfl) rfl ?_
              refine ra_y 77 (i := 9) (v := .int .i64 x1.Turn) rfl rfl rfl (Y_load1 (B := some ⟨b5, 0, none⟩) (i := 1) (cs := [.int .i64 x1.Mask, .int .i64 x1.Turn]) (v := .int .i64 x1.Turn) k_sc_3 rfl rfl (hS33.cf (i := 5) rfl) rfl) (ST.sel hS33 [0, 1, 2, 3, 4] rfl rfl) ?_ ?_
              · skip
                refine ra_q 12 80 (v := .int .i64 (bits .xor .i64 x1.Turn by_.Turn)) rfl rfl rfl (by kernel_rfl) (by kernel_rfl) (by kernel_rfl) (ST.sel hS33 [0, 1, 2, 3, 4] rfl rfl) (fun w' hw' => (Y_bxor (k := .i64) (a := x1.Turn) (b := by_.Turn) rfl rfl rfl)) ?_
                refine ra_q 13 81 (v := .agg #[.int .i64 (bits .xor .i64 (bits .xor .i64 x1.Mask (shlK .i64 1 v_)) by_.Mask), .int .i64 (bits .xor .i64 x1.Turn by_.Turn)]) rfl rfl rfl (by kernel_rfl) (by kernel_rfl) (by kernel_rfl) (ST.sel hS33 [0, 1, 2, 3, 4] rfl rfl) (fun w' hw' => (Y_buildS (zs := [.int .i64 0, .int .i64 0]) (vs := [(0, .int .i64 (bits .xor .i64 (bits .xor .i64 x1.Mask (shlK .i64 1 v_)) by_.Mask)), (1, .int .i64 (bits .xor .i64 x1.Turn by_.Turn))]) (cs := [.int .i64 (bits .xor .i64 (bits .xor .i64 x1.Mask (shlK .i64 1 v_)) by_.Mask), .int .i64 (bits .xor .i64 x1.Turn by_.Turn)]) k_pl_61 k_zero_61 rfl (mpc rfl (mpc rfl mpn)) rfl)) ?_
                refine ra_all (rs := [14]) (by kernel_rfl) rfl ?_
                refine ra_s0 (i := 14) rfl rfl rfl (Ys_store (i := 5) (s := 2) (B := some ⟨b5, 0, none⟩) (T' := 61) (v := .agg #[.int .i64 (bits .xor .i64 (bits .xor .i64 x1.Mask (shlK .i64 1 v_)) by_.Mask), .int .i64 (bits .xor .i64 x1.Turn by_.Turn)]) (vs := [.int .i64 (bits .xor .i64 (bits .xor .i64 x1.Mask (shlK .i64 1 v_)) by_.Mask), .int .i64 (bits .xor .i64 x1.Turn by_.Turn)]) (k := 0) (cs' := [.int .i64 (bits .xor .i64 (bits .xor .i64 x1.Mask (shlK .i64 1 v_)) by_.Mask), .int .i64 (bits .xor .i64 x1.Turn by_.Turn)]) hS33 k_sz_61_2 rfl rfl rfl rfl rfl rfl rfl (Nat.le_of_ble_eq_true rfl) rfl rfl) ?_ ?_
                · rintro _ w_21 ⟨rfl, hS34⟩
                  have hS34 : ST w0 [] _ [⟨some ⟨b1, 0, none⟩, 61, [.int .i64 by_.Mask, .int .i64 by_.Turn], 2⟩, ⟨some ⟨b2, 0, none⟩, 57, [.int .i64 0, .int .i64 0, .int .i64 0, .int .i64 0, .slice none 0 0, .slice none 0 0], 6⟩, ⟨some ⟨b4, 0, none⟩, 57, [.int .i64 p.Ins, .int .i64 p.Vars, .int .i64 p.Root, .int .i64 (mgt poly 0 0), .slice B5 r_1.length c5, .slice B6 Out.length c6], 6⟩, ⟨B5, 136, (r_1.flatMap enc_Term), c5 * 2⟩, ⟨B6, 61, (Out.flatMap enc_Affine), c6 * 2⟩, ⟨some ⟨b5, 0, none⟩, 61, [.int .i64 (bits .xor .i64 (bits .xor .i64 x1.Mask (shlK .i64 1 v_)) by_.Mask), .int .i64 (bits .xor .i64 x1.Turn by_.Turn)], 2⟩] [⟨B, (p.Terms.flatMap enc_Term)⟩, ⟨B1, (p.Out.flatMap enc_Affine)⟩] := hS34
                  refine ⟨(ST.sel hS34 [0, 1, 2, 3, 4] rfl rfl), ?_⟩
                  refine ra_done (by kernel_rfl) ?_
                  exact ⟨(FF.cons (hf3.get 1 0 rfl) (FF.cons (hf3.get 5 1 rfl) (FF.cons (hf3.get 6 2 rfl) (FF.cons (hf3.get 10 3 rfl) (FF.cons rfl (FF.cons (hf3.get 56 4 rfl) (FF.cons (hf3.get 57 5 rfl) (FF.cons (hf3.get 58 6 rfl) FF.nil)))))))), (hS34.sel [0, 1, 2, 3, 4, 5] rfl rfl)⟩
                exact allR_nil
              exact allR_nil
            refine ra_y 77 (i := 9) (v := .int .i64 x1.Turn) rfl rfl rfl (Y_load1 (B := some ⟨b5, 0, none⟩) (i := 1) (cs := [.int .i64 x1.Mask, .int .i64 x1.Turn]) (v := .int .i64 x1.Turn) k_sc_3 rfl rfl (hS33.cf (i := 5) rfl) rfl) (ST.sel hS33 [0, 1, 2, 3, 4] rfl rfl) ?_ ?_
            · skip
              refine ra_q 12 80 (v := .int .i64 (bits .xor .i64 x1.Turn by_.Turn)) rfl rfl rfl (by kernel_rfl) (by kernel_rfl) (by kernel_rfl) (ST.sel hS33 [0, 1, 2, 3, 4] rfl rfl) (fun w' hw' => (Y_bxor (k := .i64) (a := x1.Turn) (b := by_.Turn) rfl rfl rfl)) ?_
              refine ra_all (rs := [1]) (by kernel_rfl) rfl ?_
              refine ra_y 69 (i := 1) (v := .int .i64 x1.Mask) rfl rfl rfl (Y_load1 (B := some ⟨b5, 0, none⟩) (i := 0) (cs := [.int .i64 x1.Mask, .int .i64 x1.Turn]) (v := .int .i64 x1.Mask) k_sc_3 rfl rfl (hS33.cf (i := 5) rfl) rfl) (ST.sel hS33 [0, 1, 2, 3, 4] rfl rfl) ?_ ?_
              · skip
                refine ra_q 4 72 (v := .int .i64 (bits .xor .i64 x1.Mask (shlK .i64 1 v_))) rfl rfl rfl (by kernel_rfl) (by kernel_rfl) (by kernel_rfl) (ST.sel hS33 [0, 1, 2, 3, 4] rfl rfl) (fun w' hw' => (Y_bxor (k := .i64) (a := x1.Mask) (b := (shlK .i64 1 v_)) rfl rfl rfl)) ?_
                refine ra_q 7 75 (v := .int .i64 (bits .xor .i64 (bits .xor .i64 x1.Mask (shlK .i64 1 v_)) by_.Mask)) rfl rfl rfl (by kernel_rfl) (by kernel_rfl) (by kernel_rfl) (ST.sel hS33 [0, 1, 2, 3, 4] rfl rfl) (fun w' hw' => (Y_bxor (k := .i64) (a := (bits .xor .i64 x1.Mask (shlK .i64 1 v_))) (b := by_.Mask) rfl rfl rfl)) ?_
                refine ra_q 13 81 (v := .agg #[.int .i64 (bits .xor .i64 (bits .xor .i64 x1.Mask (shlK .i64 1 v_)) by_.Mask), .int .i64 (bits .xor .i64 x1.Turn by_.Turn)]) rfl rfl rfl (by kernel_rfl) (by kernel_rfl) (by kernel_rfl) (ST.sel hS33 [0, 1, 2, 3, 4] rfl rfl) (fun w' hw' => (Y_buildS (zs := [.int .i64 0, .int .i64 0]) (vs := [(0, .int .i64 (bits .xor .i64 (bits .xor .i64 x1.Mask (shlK .i64 1 v_)) by_.Mask)), (1, .int .i64 (bits .xor .i64 x1.Turn by_.Turn))]) (cs := [.int .i64 (bits .xor .i64 (bits .xor .i64 x1.Mask (shlK .i64 1 v_)) by_.Mask), .int .i64 (bits .xor .i64 x1.Turn by_.Turn)]) k_pl_61 k_zero_61 rfl (mpc rfl (mpc rfl mpn)) rfl)) ?_
                refine ra_all (rs := [14]) (by kernel_rfl) rfl ?_
                refine ra_s0 (i := 14) rfl rfl rfl (Ys_store (i := 5) (s := 2) (B := some ⟨b5, 0, none⟩) (T' := 61) (v := .agg #[.int .i64 (bits .xor .i64 (bits .xor .i64 x1.Mask (shlK .i64 1 v_)) by_.Mask), .int .i64 (bits .xor .i64 x1.Turn by_.Turn)]) (vs := [.int .i64 (bits .xor .i64 (bits .xor .i64 x1.Mask (shlK .i64 1 v_)) by_.Mask), .int .i64 (bits .xor .i64 x1.Turn by_.Turn)]) (k := 0) (cs' := [.int .i64 (bits .xor .i64 (bits .xor .i64 x1.Mask (shlK .i64 1 v_)) by_.Mask), .int .i64 (bits .xor .i64 x1.Turn by_.Turn)]) hS33 k_sz_61_2 rfl rfl rfl rfl rfl rfl rfl (Nat.le_of_ble_eq_true rfl) rfl rfl) ?_ ?_
                · rintro _ w_22 ⟨rfl, hS35⟩
                  have hS35 : ST w0 [] _ [⟨some ⟨b1, 0, none⟩, 61, [.int .i64 by_.Mask, .int .i64 by_.Turn], 2⟩, ⟨some ⟨b2, 0, none⟩, 57, [.int .i64 0, .int .i64 0, .int .i64 0, .int .i64 0, .slice none 0 0, .slice none 0 0], 6⟩, ⟨some ⟨b4, 0, none⟩, 57, [.int .i64 p.Ins, .int .i64 p.Vars, .int .i64 p.Root, .int .i64 (mgt poly 0 0), .slice B5 r_1.length c5, .slice B6 Out.length c6], 6⟩, ⟨B5, 136, (r_1.flatMap enc_Term), c5 * 2⟩, ⟨B6, 61, (Out.flatMap enc_Affine), c6 * 2⟩, ⟨some ⟨b5, 0, none⟩, 61, [.int .i64 (bits .xor .i64 (bits .xor .i64 x1.Mask (shlK .i64 1 v_)) by_.Mask), .int .i64 (bits .xor .i64 x1.Turn by_.Turn)], 2⟩] [⟨B, (p.Terms.flatMap enc_Term)⟩, ⟨B1, (p.Out.flatMap enc_Affine)⟩] := hS35
                  refine ⟨(ST.sel hS35 [0, 1, 2, 3, 4] rfl rfl), ?_⟩
                  refine ra_done (by kernel_rfl) ?_
                  exact ⟨(FF.cons (hf3.get 1 0 rfl) (FF.cons (hf3.get 5 1 rfl) (FF.cons (hf3.get 6 2 rfl) (FF.cons (hf3.get 10 3 rfl) (FF.cons rfl (FF.cons (hf3.get 56 4 rfl) (FF.cons (hf3.get 57 5 rfl) (FF.cons (hf3.get 58 6 rfl) FF.nil)))))))), (hS35.sel [0, 1, 2, 3, 4, 5] rfl rfl)⟩
                exact allR_nil
              exact allR_nil
            exact allR_nil
          rintro f w ⟨hf5, hS32⟩
          exact ⟨(bits .xor .i64 (bits .xor .i64 x1.Mask (shlK .i64 1 v_)) by_.Mask), (bits .xor .i64 x1.Turn by_.Turn), (some_inj hF8), (FF.cons (hf5.get 1 0 rfl) (FF.cons (hf5.get 5 1 rfl) (FF.cons (hf5.get 6 2 rfl) (FF.cons (hf5.get 10 3 rfl) (FF.cons (hf5.get 12 4 rfl) (FF.cons (hf5.get 56 5 rfl) (FF.cons (hf5.get 57 6 rfl) (FF.cons (hf5.get 58 7 rfl) FF.nil)))))))), (hS32.sel [0, 1, 2, 3, 4, 5] rfl rfl)⟩
        · skip
          have hF9 := cf' hz3 hb4
          refine cw_skip ?_
          exact ⟨x1.Mask, x1.Turn, (some_inj hF9), (FF.cons (hf3.get 1 0 rfl) (FF.cons (hf3.get 5 1 rfl) (FF.cons (hf3.get 6 2 rfl) (FF.cons (hf3.get 10 3 rfl) (FF.cons rfl (FF.cons (hf3.get 56 4 rfl) (FF.cons (hf3.get 57 5 rfl) (FF.cons (hf3.get 58 6 rfl) FF.nil)))))))), (hS30.sel [0, 1, 2, 3, 4, 5] rfl rfl)⟩
      rintro f w ⟨Mask, Turn, rfl, hf4, hS31⟩
      refine cw_region ?_
      refine sq 82 rfl rfl (Y_fieldAddr (B := some ⟨b4, 0, none⟩) (i := 0) (s := 0) k_fd_57_5_5_55 k_sz_55_1 rfl (hf4.get 10 3 rfl)) ?_
      refine sq 83 rfl rfl (Y_load1 (B := some ⟨b4, 0, none⟩) (i := 5) (cs := [.int .i64 p.Ins, .int .i64 p.Vars, .int .i64 p.Root, .int .i64 (mgt poly 0 0), .slice B5 r_1.length c5, .slice B6 Out.length c6]) (v := .slice B6 Out.length c6) k_sc_55 rfl rfl (hS31.cf (i := 2) rfl) rfl) ?_
      refine sq 84 rfl rfl (Y_loadA (B := some ⟨b5, 0, none⟩) (i := 0) (cs := [.int .i64 Mask, .int .i64 Turn]) (vs := [.int .i64 Mask, .int .i64 Turn]) k_ag_61 k_sz_61_2 rfl (hf4.get 12 4 rfl) (hS31.cf (i := 5) rfl) rfl rfl) ?_
      refine ss 85 rfl rfl (Ys_bslice (s := 2) (len := 1) (vs := [(0, .agg #[.int .i64 Mask, .int .i64 Turn])]) (cs := [.int .i64 Mask, .int .i64 Turn]) (zs := [.int .i64 0, .int .i64 0]) (m := 2) hS31 k_sl_55_61 k_sz_61_2 k_zc_61 rfl (mpc rfl mpn) rfl rfl rfl (by kernel_rfl) (by kernel_rfl) rfl) ?_
      rintro _ w_23 ⟨b6, rfl, hS36⟩
      have hS36 : ST w0 [] _ [⟨some ⟨b1, 0, none⟩, 61, [.int .i64 by_.Mask, .int .i64 by_.Turn], 2⟩, ⟨some ⟨b2, 0, none⟩, 57, [.int .i64 0, .int .i64 0, .int .i64 0, .int .i64 0, .slice none 0 0, .slice none 0 0], 6⟩, ⟨some ⟨b4, 0, none⟩, 57, [.int .i64 p.Ins, .int .i64 p.Vars, .int .i64 p.Root, .int .i64 (mgt poly 0 0), .slice B5 r_1.length c5, .slice B6 Out.length c6], 6⟩, ⟨B5, 136, (r_1.flatMap enc_Term), c5 * 2⟩, ⟨B6, 61, (Out.flatMap enc_Affine), c6 * 2⟩, ⟨some ⟨b5, 0, none⟩, 61, [.int .i64 Mask, .int .i64 Turn], 2⟩, ⟨some ⟨b6, 0, none⟩, 61, ([(TAffine.mk Mask Turn)].flatMap enc_Affine), 1 * 2⟩] [⟨B, (p.Terms.flatMap enc_Term)⟩, ⟨B1, (p.Out.flatMap enc_Affine)⟩] := hS36
      obtain ⟨hap, hF7⟩ := chk_inv hF7
      refine ss 86 rfl rfl (Ys_append (s := 2) (by' := 16) (i := 4) (nn := Out.length) (c := c6) (k := 1) (len := (Out ++ [(TAffine.mk Mask Turn)]).length) (B := B6) (xs := ([(TAffine.mk Mask Turn)].flatMap enc_Affine)) (cs' := ((Out ++ [(TAffine.mk Mask Turn)]).flatMap enc_Affine)) hS36 k_sl_55_61 k_sz_61_2 k_by_61_16 k_zero_61 rfl (by decide) rfl rfl rfl rfl (fm_lenn (l := Out) enc_Affine_len rfl) rfl (hS36.cf (i := 6) rfl) (fm_lenn (l := [(TAffine.mk Mask Turn)]) enc_Affine_len rfl) (fm_one' (enc := enc_Affine) enc_Affine_one [(TAffine.mk Mask Turn)]) (by have := hap; omega) (by have := hap; simp only [maxLen]; omega) (fm_app _ _) (app_len (l := Out) (l' := [(TAffine.mk Mask Turn)]) rfl rfl)) ?_
      rintro _ w_24 ⟨B7, c7, rfl, hS37⟩
      have hS37 : ST w0 [] _ [⟨some ⟨b1, 0, none⟩, 61, [.int .i64 by_.Mask, .int .i64 by_.Turn], 2⟩, ⟨some ⟨b2, 0, none⟩, 57, [.int .i64 0, .int .i64 0, .int .i64 0, .int .i64 0, .slice none 0 0, .slice none 0 0], 6⟩, ⟨some ⟨b4, 0, none⟩, 57, [.int .i64 p.Ins, .int .i64 p.Vars, .int .i64 p.Root, .int .i64 (mgt poly 0 0), .slice B5 r_1.length c5, .slice B6 Out.length c6], 6⟩, ⟨B5, 136, (r_1.flatMap enc_Term), c5 * 2⟩, ⟨B7, 61, ((Out ++ [(TAffine.mk Mask Turn)]).flatMap enc_Affine), c7 * 2⟩, ⟨some ⟨b5, 0, none⟩, 61, [.int .i64 Mask, .int .i64 Turn], 2⟩, ⟨some ⟨b6, 0, none⟩, 61, ([(TAffine.mk Mask Turn)].flatMap enc_Affine), 1 * 2⟩] [⟨B, (p.Terms.flatMap enc_Term)⟩, ⟨B1, (p.Out.flatMap enc_Affine)⟩] := hS37
      refine sq 87 rfl rfl (Y_fieldAddr (B := some ⟨b4, 0, none⟩) (i := 0) (s := 0) k_fd_57_5_5_55 k_sz_55_1 rfl (hf4.get 10 3 rfl)) ?_
      refine ss0 rfl rfl (Ys_store (i := 2) (s := 1) (B := some ⟨b4, 0, none⟩) (T' := 57) (v := .slice B7 ((Out ++ [(TAffine.mk Mask Turn)]).length) c7) (vs := [.slice B7 ((Out ++ [(TAffine.mk Mask Turn)]).length) c7]) (k := 5) (cs' := [.int .i64 p.Ins, .int .i64 p.Vars, .int .i64 p.Root, .int .i64 (mgt poly 0 0), .slice B5 r_1.length c5, .slice B7 ((Out ++ [(TAffine.mk Mask Turn)]).length) c7]) hS37 k_sz_55_1 rfl rfl rfl rfl rfl rfl rfl (Nat.le_of_ble_eq_true rfl) rfl rfl) ?_
      rintro _ w_25 ⟨rfl, hS38⟩
      have hS38 : ST w0 [] _ [⟨some ⟨b1, 0, none⟩, 61, [.int .i64 by_.Mask, .int .i64 by_.Turn], 2⟩, ⟨some ⟨b2, 0, none⟩, 57, [.int .i64 0, .int .i64 0, .int .i64 0, .int .i64 0, .slice none 0 0, .slice none 0 0], 6⟩, ⟨some ⟨b4, 0, none⟩, 57, [.int .i64 p.Ins, .int .i64 p.Vars, .int .i64 p.Root, .int .i64 (mgt poly 0 0), .slice B5 r_1.length c5, .slice B7 ((Out ++ [(TAffine.mk Mask Turn)]).length) c7], 6⟩, ⟨B5, 136, (r_1.flatMap enc_Term), c5 * 2⟩, ⟨B7, 61, ((Out ++ [(TAffine.mk Mask Turn)]).flatMap enc_Affine), c7 * 2⟩, ⟨some ⟨b5, 0, none⟩, 61, [.int .i64 Mask, .int .i64 Turn], 2⟩, ⟨some ⟨b6, 0, none⟩, 61, ([(TAffine.mk Mask Turn)].flatMap enc_Affine), 1 * 2⟩] [⟨B, (p.Terms.flatMap enc_Term)⟩, ⟨B1, (p.Out.flatMap enc_Affine)⟩] := hS38
      refine rw_nil ?_
      refine cw_region ?_
      refine sq 88 rfl rfl (Y_add (k := .i64) (a := t) (b := 1) rfl (hf4.get 58 7 rfl) rfl) ?_
      refine sq 58 rfl rfl (Y_move (v := .int .i64 (IntKind.i64.wrap (t + 1))) rfl rfl) ?_
      refine rw_nil ?_
      obtain rfl := some_inj hF7
      exact ⟨k_3, Nat.lt_succ_self _, (Out ++ [(TAffine.mk Mask Turn)]), (IntKind.i64.wrap (t + 1)), B7, c7, (FF.cons (hf4.get 1 0 rfl) (FF.cons (hf4.get 5 1 rfl) (FF.cons (hf4.get 6 2 rfl) (FF.cons (hf4.get 10 3 rfl) (FF.cons (hf4.get 56 5 rfl) (FF.cons (hf4.get 57 6 rfl) (FF.cons rfl FF.nil))))))), (hS38.sel [0, 1, 2, 3, 4] rfl rfl), hL3⟩
    · skip
      have hF10 := cf' hb2 hb3
      refine cw_exit rfl ?_
      obtain rfl := some_inj hF10
      obtain rfl := some_inj hL3
      refine cw_seq ?_
      refine cw_region ?_
      refine sq 89 rfl rfl (Y_loadA (B := some ⟨b4, 0, none⟩) (i := 0) (cs := [.int .i64 p.Ins, .int .i64 p.Vars, .int .i64 p.Root, .int .i64 (mgt poly 0 0), .slice B5 r_1.length c5, .slice B6 Out.length c6]) (vs := [.int .i64 p.Ins, .int .i64 p.Vars, .int .i64 p.Root, .int .i64 (mgt poly 0 0), .slice B5 r_1.length c5, .slice B6 Out.length c6]) k_ag_57 k_sz_57_6 rfl (hf3.get 10 3 rfl) (hS27.cf (i := 2) rfl) rfl rfl) ?_
      refine sq 90 rfl rfl (Y_move (v := .int .i64 v_) rfl (hf3.get 1 0 rfl)) ?_
      obtain ⟨r_2, hc3, hF5⟩ := bind_inv hF5
      refine sc 91 rfl rfl (Yc_func (g := 106) (vs := [.agg #[.int .i64 p.Ins, .int .i64 p.Vars, .int .i64 p.Root, .int .i64 (mgt poly 0 0), .slice B5 r_1.length c5, .slice B6 Out.length c6], .int .i64 v_]) k_call_106 rfl (mc rfl (mc rfl mn)) (c_impl_PathSum_without (TPathSum.mk p.Ins p.Vars p.Root (mgt poly 0 0) r_1 Out) v_ B5 c5 r_1.length B6 c6 Out.length _ rfl rfl (hS27.inn0 [(false, 3), (false, 4)] rfl) hc3)) ?_
      rintro _ w_26 ⟨B8, c8, B9, c9, rfl, hd4⟩
      have hS39 := hS27.out0 hd4
      have hS39 : ST w0 [] _ [⟨some ⟨b1, 0, none⟩, 61, [.int .i64 by_.Mask, .int .i64 by_.Turn], 2⟩, ⟨some ⟨b2, 0, none⟩, 57, [.int .i64 0, .int .i64 0, .int .i64 0, .int .i64 0, .slice none 0 0, .slice none 0 0], 6⟩, ⟨some ⟨b4, 0, none⟩, 57, [.int .i64 p.Ins, .int .i64 p.Vars, .int .i64 p.Root, .int .i64 (mgt poly 0 0), .slice B5 r_1.length c5, .slice B6 Out.length c6], 6⟩, ⟨B5, 136, (r_1.flatMap enc_Term), c5 * 2⟩, ⟨B6, 61, (Out.flatMap enc_Affine), c6 * 2⟩, ⟨B8, 136, (r_2.Terms.flatMap enc_Term), c8 * 2⟩, ⟨B9, 61, (r_2.Out.flatMap enc_Affine), c9 * 2⟩] [⟨B, (p.Terms.flatMap enc_Term)⟩, ⟨B1, (p.Out.flatMap enc_Affine)⟩] := hS39
      refine ss0 rfl rfl (Ys_store (i := 1) (s := 6) (B := some ⟨b2, 0, none⟩) (T' := 57) (v := .agg #[.int .i64 r_2.Ins, .int .i64 r_2.Vars, .int .i64 r_2.Root, .int .i64 r_2.Phase, .slice B8 r_2.Terms.length c8, .slice B9 r_2.Out.length c9]) (vs := [.int .i64 r_2.Ins, .int .i64 r_2.Vars, .int .i64 r_2.Root, .int .i64 r_2.Phase, .slice B8 r_2.Terms.length c8, .slice B9 r_2.Out.length c9]) (k := 0) (cs' := [.int .i64 r_2.Ins, .int .i64 r_2.Vars, .int .i64 r_2.Root, .int .i64 r_2.Phase, .slice B8 r_2.Terms.length c8, .slice B9 r_2.Out.length c9]) hS39 k_sz_57_6 rfl (hf3.get 6 2 rfl) rfl rfl rfl rfl rfl (Nat.le_of_ble_eq_true rfl) rfl rfl) ?_
      rintro _ w_27 ⟨rfl, hS40⟩
      have hS40 : ST w0 [] _ [⟨some ⟨b1, 0, none⟩, 61, [.int .i64 by_.Mask, .int .i64 by_.Turn], 2⟩, ⟨some ⟨b2, 0, none⟩, 57, [.int .i64 r_2.Ins, .int .i64 r_2.Vars, .int .i64 r_2.Root, .int .i64 r_2.Phase, .slice B8 r_2.Terms.length c8, .slice B9 r_2.Out.length c9], 6⟩, ⟨some ⟨b4, 0, none⟩, 57, [.int .i64 p.Ins, .int .i64 p.Vars, .int .i64 p.Root, .int .i64 (mgt poly 0 0), .slice B5 r_1.length c5, .slice B6 Out.length c6], 6⟩, ⟨B5, 136, (r_1.flatMap enc_Term), c5 * 2⟩, ⟨B6, 61, (Out.flatMap enc_Affine), c6 * 2⟩, ⟨B8, 136, (r_2.Terms.flatMap enc_Term), c8 * 2⟩, ⟨B9, 61, (r_2.Out.flatMap enc_Affine), c9 * 2⟩] [⟨B, (p.Terms.flatMap enc_Term)⟩, ⟨B1, (p.Out.flatMap enc_Affine)⟩] := hS40
      refine rw_nil ?_
      refine cw_ret ?_
      obtain rfl := some_inj hF5
      exact ret1 Try.results57 (v1 := .agg #[.int .i64 r_2.Ins, .int .i64 r_2.Vars, .int .i64 r_2.Root, .int .i64 r_2.Phase, .slice B8 r_2.Terms.length c8, .slice B9 r_2.Out.length c9]) (resAt_cellA (B := some ⟨b2, 0, none⟩) (i := 0) (cs := [.int .i64 r_2.Ins, .int .i64 r_2.Vars, .int .i64 r_2.Root, .int .i64 r_2.Phase, .slice B8 r_2.Terms.length c8, .slice B9 r_2.Out.length c9]) (vs := [.int .i64 r_2.Ins, .int .i64 r_2.Vars, .int .i64 r_2.Root, .int .i64 r_2.Phase, .slice B8 r_2.Terms.length c8, .slice B9 r_2.Out.length c9]) (hf3.get 6 2 rfl) k_ag_57 k_sz_57_6 (hS40.cf (i := 1) rfl) rfl rfl) ⟨B8, c8, B9, c9, rfl, (ST.subR (R' := []) (hS40.sel [5, 6] rfl rfl) (fun _ h => by cases h))⟩

theorem c_impl_SubstituteVar (p : TPathSum) (v_ : Int) (by_ : TAffine) (B : Option Addr) (c n : Nat) (B1 : Option Addr) (c1 n1 : Nat) (w0 : World) (hn : p.Terms.length = n) (hn1 : p.Out.length = n1) (hS : ST w0 [] w0 [] [⟨B, (p.Terms.flatMap enc_Term)⟩, ⟨B1, (p.Out.flatMap enc_Affine)⟩]) {r_ : TPathSum} {r_1 : Bool} (hF : F_impl_SubstituteVar p v_ by_ = some (r_, r_1)) :
    CV Try.prog 24 #[.agg #[.int .i64 p.Ins, .int .i64 p.Vars, .int .i64 p.Root, .int .i64 p.Phase, .slice B n c, .slice B1 n1 c1], .int .i64 v_, .agg #[.int .i64 by_.Mask, .int .i64 by_.Turn]] w0 (fun v w' => ∃ (B2 : Option Addr) (c2 : Nat) (B3 : Option Addr) (c3 : Nat), v = .tuple #[.agg #[.int .i64 r_.Ins, .int .i64 r_.Vars, .int .i64 r_.Root, .int .i64 r_.Phase, .slice B2 r_.Terms.length c2, .slice B3 r_.Out.length c3], .bool r_1] ∧ ST w0 [] w' [⟨B2, 136, (r_.Terms.flatMap enc_Term), c2 * 2⟩, ⟨B3, 61, (r_.Out.flatMap enc_Affine), c3 * 2⟩] []) := by
  subst hn
  subst hn1
  unfold F_impl_SubstituteVar at hF
  refine cv_of_cw 40 Try.func24 rfl Try.ntmps24 rfl ?_
  refine cw_seq ?_
  refine cw_region ?_
  refine ss 3 rfl rfl (Ys_box (T := 57) (v := .agg #[.int .i64 p.Ins, .int .i64 p.Vars, .int .i64 p.Root, .int .i64 p.Phase, .slice B p.Terms.length c, .slice B1 p.Out.length c1]) (cs := [.int .i64 p.Ins, .int .i64 p.Vars, .int .i64 p.Root, .int .i64 p.Phase, .slice B p.Terms.length c, .slice B1 p.Out.length c1]) (m := 6) hS rfl rfl rfl rfl) ?_
  rintro _ w_ ⟨b, rfl, hS1⟩
  refine ss 5 rfl rfl (Ys_box (T := 61) (v := .agg #[.int .i64 by_.Mask, .int .i64 by_.Turn]) (cs := [.int .i64 by_.Mask, .int .i64 by_.Turn]) (m := 2) hS1 rfl rfl rfl rfl) ?_
  rintro _ w_1 ⟨b1, rfl, hS2⟩
  have hS2 : ST w0 [] _ [⟨some ⟨b, 0, none⟩, 57, [.int .i64 p.Ins, .int .i64 p.Vars, .int .i64 p.Root, .int .i64 p.Phase, .slice B p.Terms.length c, .slice B1 p.Out.length c1], 6⟩, ⟨some ⟨b1, 0, none⟩, 61, [.int .i64 by_.Mask, .int .i64 by_.Turn], 2⟩] [⟨B, (p.Terms.flatMap enc_Term)⟩, ⟨B1, (p.Out.flatMap enc_Affine)⟩] := hS2
  refine ss 6 rfl rfl (Ys_alloc (T := 57) (cs := [.int .i64 0, .int .i64 0, .int .i64 0, .int .i64 0, .slice none 0 0, .slice none 0 0]) (m := 6) hS2 k_zero_57 rfl rfl rfl) ?_
  rintro _ w_2 ⟨b2, rfl, hS3⟩
  have hS3 : ST w0 [] _ [⟨some ⟨b, 0, none⟩, 57, [.int .i64 p.Ins, .int .i64 p.Vars, .int .i64 p.Root, .int .i64 p.Phase, .slice B p.Terms.length c, .slice B1 p.Out.length c1], 6⟩, ⟨some ⟨b1, 0, none⟩, 61, [.int .i64 by_.Mask, .int .i64 by_.Turn], 2⟩, ⟨some ⟨b2, 0, none⟩, 57, [.int .i64 0, .int .i64 0, .int .i64 0, .int .i64 0, .slice none 0 0, .slice none 0 0], 6⟩] [⟨B, (p.Terms.flatMap enc_Term)⟩, ⟨B1, (p.Out.flatMap enc_Affine)⟩] := hS3
  refine sq 7 rfl rfl (Y_assign (v := .bool false) rfl rfl) ?_
  refine rw_nil ?_
  refine cw_seq ?_
  refine cw_seq ?_
  refine cw_region ?_
  refine sq 8 rfl rfl (Y_loadA (B := some ⟨b, 0, none⟩) (i := 0) (cs := [.int .i64 p.Ins, .int .i64 p.Vars, .int .i64 p.Root, .int .i64 p.Phase, .slice B p.Terms.length c, .slice B1 p.Out.length c1]) (vs := [.int .i64 p.Ins, .int .i64 p.Vars, .int .i64 p.Root, .int .i64 p.Phase, .slice B p.Terms.length c, .slice B1 p.Out.length c1]) k_ag_57 k_sz_57_6 rfl rfl (hS3.cf (i := 0) rfl) rfl rfl) ?_
  obtain ⟨r_2, hc, hF⟩ := bind_inv hF
  refine sc 9 rfl rfl (Yc_func (g := 54) (vs := [.agg #[.int .i64 p.Ins, .int .i64 p.Vars, .int .i64 p.Root, .int .i64 p.Phase, .slice B p.Terms.length c, .slice B1 p.Out.length c1]]) k_call_54 rfl (mc rfl mn) (c_impl_IsValidPathSum p B c p.Terms.length B1 c1 p.Out.length _ rfl rfl (hS3.inn0 [(true, 0), (true, 1)] rfl) hc)) ?_
  rintro _ w_3 ⟨rfl, hd⟩
  have hS4 := hS3.out00 hd
  have hS4 : ST w0 [] _ [⟨some ⟨b, 0, none⟩, 57, [.int .i64 p.Ins, .int .i64 p.Vars, .int .i64 p.Root, .int .i64 p.Phase, .slice B p.Terms.length c, .slice B1 p.Out.length c1], 6⟩, ⟨some ⟨b1, 0, none⟩, 61, [.int .i64 by_.Mask, .int .i64 by_.Turn], 2⟩, ⟨some ⟨b2, 0, none⟩, 57, [.int .i64 0, .int .i64 0, .int .i64 0, .int .i64 0, .slice none 0 0, .slice none 0 0], 6⟩] [⟨B, (p.Terms.flatMap enc_Term)⟩, ⟨B1, (p.Out.flatMap enc_Affine)⟩] := hS4
  refine sq 10 rfl rfl (Y_not (p := r_2) rfl rfl) ?_
  refine sq 11 rfl rfl (Y_move (v := .bool (!r_2)) rfl rfl) ?_
  refine sgq 12 (B := (!(!r_2))) (v := .agg #[.int .i64 p.Ins, .int .i64 p.Vars, .int .i64 p.Root, .int .i64 p.Phase, .slice B p.Terms.length c, .slice B1 p.Out.length c1]) rfl rfl (wt_f (gd_of (t := 11) (by kernel_rfl) rfl)) (fun hg => (Y_loadA (B := some ⟨b, 0, none⟩) (i := 0) (cs := [.int .i64 p.Ins, .int .i64 p.Vars, .int .i64 p.Root, .int .i64 p.Phase, .slice B p.Terms.length c, .slice B1 p.Out.length c1]) (vs := [.int .i64 p.Ins, .int .i64 p.Vars, .int .i64 p.Root, .int .i64 p.Phase, .slice B p.Terms.length c, .slice B1 p.Out.length c1]) k_ag_57 k_sz_57_6 rfl rfl (hS4.cf (i := 0) rfl) rfl rfl)) ?_
  refine sgq 13 (B := (!(!r_2))) (v := .int .i64 v_) rfl rfl (wt_f (gd_of (t := 11) (by kernel_rfl) rfl)) (fun hg1 => (Y_move (v := .int .i64 v_) rfl rfl)) ?_
  obtain ⟨r_3, hc1, hF⟩ := bind_inv hF
  refine sgc 14 (B := (!(!r_2))) (v := .bool r_3) (F := hS4.fn) rfl rfl (wt_f (gd_of (t := 11) (by kernel_rfl) rfl)) hS4 (fun hg2 => (Yc_func (g := 55) (vs := [.agg #[.int .i64 p.Ins, .int .i64 p.Vars, .int .i64 p.Root, .int .i64 p.Phase, .slice B p.Terms.length c, .slice B1 p.Out.length c1], .int .i64 v_]) k_call_55 rfl (mc (gv_of (B := (!(!r_2))) (v := .agg #[.int .i64 p.Ins, .int .i64 p.Vars, .int .i64 p.Root, .int .i64 p.Phase, .slice B p.Terms.length c, .slice B1 p.Out.length c1]) hg2) (mc (gv_of (B := (!(!r_2))) (v := .int .i64 v_) hg2) mn)) (CV.mono (c_impl_PathSum_isPathVar p v_ B c p.Terms.length B1 c1 p.Out.length _ rfl rfl (hS4.inn0 [(true, 0), (true, 1)] rfl) (gb_inv hc1 hg2)) (by rintro _ _ ⟨rfl, h⟩; exact ⟨rfl, hS4.out00 h⟩)))) ?_
  rintro w_4 hS5
  have hS5 : ST _ _ w_4 _ _ := hS5
  refine sgq 15 (B := (!(!r_2))) (v := .bool (!r_3)) rfl rfl (wt_f (gd_of (t := 11) (by kernel_rfl) rfl)) (fun hg3 => (Y_not (p := r_3) rfl (gv_of (B := (!(!r_2))) (v := .bool r_3) hg3))) ?_
  refine sq 16 rfl rfl (Y_or (b := (!r_2)) (z := (!r_3)) rfl rfl rfl rfl) ?_
  refine sq 17 rfl rfl (Y_move (v := .bool ((!r_2) || (!r_3))) rfl rfl) ?_
  refine sgq 18 (B := (!((!r_2) || (!r_3)))) (v := .agg #[.int .i64 by_.Mask, .int .i64 by_.Turn]) rfl rfl (wt_f (gd_of (t := 17) (by kernel_rfl) rfl)) (fun hg4 => (Y_loadA (B := some ⟨b1, 0, none⟩) (i := 0) (cs := [.int .i64 by_.Mask, .int .i64 by_.Turn]) (vs := [.int .i64 by_.Mask, .int .i64 by_.Turn]) k_ag_61 k_sz_61_2 rfl rfl (hS5.cf (i := 1) rfl) rfl rfl)) ?_
  refine sgq 19 (B := (!((!r_2) || (!r_3)))) (v := pt (some ⟨b, 0, none⟩) 0) rfl rfl (wt_f (gd_of (t := 17) (by kernel_rfl) rfl)) (fun hg5 => (Y_fieldAddr (B := some ⟨b, 0, none⟩) (i := 0) (s := 0) k_fd_57_0_0_3 k_sz_3_1 rfl rfl)) ?_
  refine sgq 20 (B := (!((!r_2) || (!r_3)))) (v := .int .i64 p.Ins) rfl rfl (wt_f (gd_of (t := 17) (by kernel_rfl) rfl)) (fun hg6 => (Y_load1 (B := some ⟨b, 0, none⟩) (i := 0) (cs := [.int .i64 p.Ins, .int .i64 p.Vars, .int .i64 p.Root, .int .i64 p.Phase, .slice B p.Terms.length c, .slice B1 p.Out.length c1]) (v := .int .i64 p.Ins) k_sc_3 rfl (gv_of (B := (!((!r_2) || (!r_3)))) (v := pt (some ⟨b, 0, none⟩) 0) hg6) (hS5.cf (i := 0) rfl) rfl)) ?_
  refine sgq 21 (B := (!((!r_2) || (!r_3)))) (v := pt (some ⟨b, 0, none⟩) 1) rfl rfl (wt_f (gd_of (t := 17) (by kernel_rfl) rfl)) (fun hg7 => (Y_fieldAddr (B := some ⟨b, 0, none⟩) (i := 0) (s := 0) k_fd_57_1_1_3 k_sz_3_1 rfl rfl)) ?_
  refine sgq 22 (B := (!((!r_2) || (!r_3)))) (v := .int .i64 p.Vars) rfl rfl (wt_f (gd_of (t := 17) (by kernel_rfl) rfl)) (fun hg8 => (Y_load1 (B := some ⟨b, 0, none⟩) (i := 1) (cs := [.int .i64 p.Ins, .int .i64 p.Vars, .int .i64 p.Root, .int .i64 p.Phase, .slice B p.Terms.length c, .slice B1 p.Out.length c1]) (v := .int .i64 p.Vars) k_sc_3 rfl (gv_of (B := (!((!r_2) || (!r_3)))) (v := pt (some ⟨b, 0, none⟩) 1) hg8) (hS5.cf (i := 0) rfl) rfl)) ?_
  refine sgq 23 (B := (!((!r_2) || (!r_3)))) (v := .int .i64 (IntKind.i64.wrap (p.Ins + p.Vars))) rfl rfl (wt_f (gd_of (t := 17) (by kernel_rfl) rfl)) (fun hg9 => (Y_add (k := .i64) (a := p.Ins) (b := p.Vars) rfl (gv_of (B := (!((!r_2) || (!r_3)))) (v := .int .i64 p.Ins) hg9) (gv_of (B := (!((!r_2) || (!r_3)))) (v := .int .i64 p.Vars) hg9))) ?_
  obtain ⟨r_4, hc2, hF⟩ := bind_inv hF
  refine sgc 24 (B := (!((!r_2) || (!r_3)))) (v := .bool r_4) (F := hS5.fn) rfl rfl (wt_f (gd_of (t := 17) (by kernel_rfl) rfl)) hS5 (fun hg10 => (Yc_func (g := 56) (vs := [.agg #[.int .i64 by_.Mask, .int .i64 by_.Turn], .int .i64 (IntKind.i64.wrap (p.Ins + p.Vars))]) k_call_56 rfl (mc (gv_of (B := (!((!r_2) || (!r_3)))) (v := .agg #[.int .i64 by_.Mask, .int .i64 by_.Turn]) hg10) (mc (gv_of (B := (!((!r_2) || (!r_3)))) (v := .int .i64 (IntKind.i64.wrap (p.Ins + p.Vars))) hg10) mn)) (CV.mono (c_impl_isAffine by_ (IntKind.i64.wrap (p.Ins + p.Vars)) _  (hS5.inn0 [] rfl) (gb_inv hc2 hg10)) (by rintro _ _ ⟨rfl, h⟩; exact ⟨rfl, hS5.out00 h⟩)))) ?_
  rintro w_5 hS6
  have hS6 : ST _ _ w_5 _ _ := hS6
  refine sgq 25 (B := (!((!r_2) || (!r_3)))) (v := .bool (!r_4)) rfl rfl (wt_f (gd_of (t := 17) (by kernel_rfl) rfl)) (fun hg11 => (Y_not (p := r_4) rfl (gv_of (B := (!((!r_2) || (!r_3)))) (v := .bool r_4) hg11))) ?_
  refine sq 26 rfl rfl (Y_or (b := ((!r_2) || (!r_3))) (z := (!r_4)) rfl rfl rfl rfl) ?_
  refine sq 27 rfl rfl (Y_move (v := .bool (((!r_2) || (!r_3)) || (!r_4))) rfl rfl) ?_
  refine sgq 28 (B := (!(((!r_2) || (!r_3)) || (!r_4)))) (v := pt (some ⟨b1, 0, none⟩) 0) rfl rfl (wt_f (gd_of (t := 27) (by kernel_rfl) rfl)) (fun hg12 => (Y_fieldAddr (B := some ⟨b1, 0, none⟩) (i := 0) (s := 0) k_fd_61_0_0_3 k_sz_3_1 rfl rfl)) ?_
  refine sgq 29 (B := (!(((!r_2) || (!r_3)) || (!r_4)))) (v := .int .i64 by_.Mask) rfl rfl (wt_f (gd_of (t := 27) (by kernel_rfl) rfl)) (fun hg13 => (Y_load1 (B := some ⟨b1, 0, none⟩) (i := 0) (cs := [.int .i64 by_.Mask, .int .i64 by_.Turn]) (v := .int .i64 by_.Mask) k_sc_3 rfl (gv_of (B := (!(((!r_2) || (!r_3)) || (!r_4)))) (v := pt (some ⟨b1, 0, none⟩) 0) hg13) (hS6.cf (i := 1) rfl) rfl)) ?_
  refine sgq 30 (B := (!(((!r_2) || (!r_3)) || (!r_4)))) (v := .int .i64 v_) rfl rfl (wt_f (gd_of (t := 27) (by kernel_rfl) rfl)) (fun hg14 => (Y_move (v := .int .i64 v_) rfl rfl)) ?_
  obtain ⟨hsh, hF⟩ := chk_inv hF
  refine sgq 31 (B := (!(((!r_2) || (!r_3)) || (!r_4)))) (v := .int .i64 (shrK .i64 by_.Mask v_)) rfl rfl (wt_f (gd_of (t := 27) (by kernel_rfl) rfl)) (fun hg15 => (Y_shr (k := .i64) (a := by_.Mask) (k' := .i64) (b := v_) rfl (gv_of (B := (!(((!r_2) || (!r_3)) || (!r_4)))) (v := .int .i64 by_.Mask) hg15) (gv_of (B := (!(((!r_2) || (!r_3)) || (!r_4)))) (v := .int .i64 v_) hg15) (hsh hg15))) ?_
  refine sgq 32 (B := (!(((!r_2) || (!r_3)) || (!r_4)))) (v := .int .i64 (bits .and .i64 (shrK .i64 by_.Mask v_) 1)) rfl rfl (wt_f (gd_of (t := 27) (by kernel_rfl) rfl)) (fun hg16 => (Y_band (k := .i64) (a := (shrK .i64 by_.Mask v_)) (b := 1) rfl (gv_of (B := (!(((!r_2) || (!r_3)) || (!r_4)))) (v := .int .i64 (shrK .i64 by_.Mask v_)) hg16) rfl)) ?_
  refine sgq 33 (B := (!(((!r_2) || (!r_3)) || (!r_4)))) (v := .bool ((bits .and .i64 (shrK .i64 by_.Mask v_) 1) == 1)) rfl rfl (wt_f (gd_of (t := 27) (by kernel_rfl) rfl)) (fun hg17 => (Y_eq (k := .i64) (a := (bits .and .i64 (shrK .i64 by_.Mask v_) 1)) (b := 1) rfl (gv_of (B := (!(((!r_2) || (!r_3)) || (!r_4)))) (v := .int .i64 (bits .and .i64 (shrK .i64 by_.Mask v_) 1)) hg17) rfl)) ?_
  refine sq 34 rfl rfl (Y_or (b := (((!r_2) || (!r_3)) || (!r_4))) (z := ((bits .and .i64 (shrK .i64 by_.Mask v_) 1) == 1)) rfl rfl rfl rfl) ?_
  refine rw_nil ?_
  refine cw_cond (b := ((((!r_2) || (!r_3)) || (!r_4)) || ((bits .and .i64 (shrK .i64 by_.Mask v_) 1) == 1))) rfl (fun hb => ?_) (fun hb => ?_)
  · skip
    have hF1 := ct hF hb
    refine cw_seq ?_
    refine cw_region ?_
    refine sq 35 rfl rfl (Y_buildS (zs := [.int .i64 0, .int .i64 0, .int .i64 0, .int .i64 0, .slice none 0 0, .slice none 0 0]) (vs := []) (cs := [.int .i64 0, .int .i64 0, .int .i64 0, .int .i64 0, .slice none 0 0, .slice none 0 0]) k_pl_57 k_zero_57 rfl mpn rfl) ?_
    refine ss0 rfl rfl (Ys_store (i := 2) (s := 6) (B := some ⟨b2, 0, none⟩) (T' := 57) (v := .agg #[.int .i64 0, .int .i64 0, .int .i64 0, .int .i64 0, .slice none 0 0, .slice none 0 0]) (vs := [.int .i64 0, .int .i64 0, .int .i64 0, .int .i64 0, .slice none 0 0, .slice none 0 0]) (k := 0) (cs' := [.int .i64 0, .int .i64 0, .int .i64 0, .int .i64 0, .slice none 0 0, .slice none 0 0]) hS6 k_sz_57_6 rfl rfl rfl rfl rfl rfl rfl (Nat.le_of_ble_eq_true rfl) rfl rfl) ?_
    rintro _ w_6 ⟨rfl, hS7⟩
    have hS7 : ST w0 [] _ [⟨some ⟨b, 0, none⟩, 57, [.int .i64 p.Ins, .int .i64 p.Vars, .int .i64 p.Root, .int .i64 p.Phase, .slice B p.Terms.length c, .slice B1 p.Out.length c1], 6⟩, ⟨some ⟨b1, 0, none⟩, 61, [.int .i64 by_.Mask, .int .i64 by_.Turn], 2⟩, ⟨some ⟨b2, 0, none⟩, 57, [.int .i64 0, .int .i64 0, .int .i64 0, .int .i64 0, .slice none 0 0, .slice none 0 0], 6⟩] [⟨B, (p.Terms.flatMap enc_Term)⟩, ⟨B1, (p.Out.flatMap enc_Affine)⟩] := hS7
    refine sq 7 rfl rfl (Y_assign (v := .bool false) rfl rfl) ?_
    refine rw_nil ?_
    refine cw_ret ?_
    have hS8 := hS7.addNil 136
    have hS9 := hS8.addNil 61
    obtain ⟨rfl, rfl⟩ := pr2 (some_inj hF1)
    exact ret2 Try.results24 (v1 := .agg #[.int .i64 0, .int .i64 0, .int .i64 0, .int .i64 0, .slice none 0 0, .slice none 0 0]) (resAt_cellA (B := some ⟨b2, 0, none⟩) (i := 0) (cs := [.int .i64 0, .int .i64 0, .int .i64 0, .int .i64 0, .slice none 0 0, .slice none 0 0]) (vs := [.int .i64 0, .int .i64 0, .int .i64 0, .int .i64 0, .slice none 0 0, .slice none 0 0]) rfl k_ag_57 k_sz_57_6 (hS9.cf (i := 2) rfl) rfl rfl) (v2 := .bool false) (resAt_tmp rfl) ⟨none, 0, none, 0, rfl, (ST.subR (R' := []) (hS9.sel [3, 4] rfl rfl) (fun _ h => by cases h))⟩
  · skip
    have hF2 := cf' hF hb
    refine cw_skip ?_
    refine cw_seq ?_
    refine cw_region ?_
    refine sq 36 rfl rfl (Y_loadA (B := some ⟨b, 0, none⟩) (i := 0) (cs := [.int .i64 p.Ins, .int .i64 p.Vars, .int .i64 p.Root, .int .i64 p.Phase, .slice B p.Terms.length c, .slice B1 p.Out.length c1]) (vs := [.int .i64 p.Ins, .int .i64 p.Vars, .int .i64 p.Root, .int .i64 p.Phase, .slice B p.Terms.length c, .slice B1 p.Out.length c1]) k_ag_57 k_sz_57_6 rfl rfl (hS6.cf (i := 0) rfl) rfl rfl) ?_
    refine sq 37 rfl rfl (Y_move (v := .int .i64 v_) rfl rfl) ?_
    refine sq 38 rfl rfl (Y_loadA (B := some ⟨b1, 0, none⟩) (i := 0) (cs := [.int .i64 by_.Mask, .int .i64 by_.Turn]) (vs := [.int .i64 by_.Mask, .int .i64 by_.Turn]) k_ag_61 k_sz_61_2 rfl rfl (hS6.cf (i := 1) rfl) rfl rfl) ?_
    obtain ⟨r_5, hc3, hF2⟩ := bind_inv hF2
    refine sc 39 rfl rfl (Yc_func (g := 57) (vs := [.agg #[.int .i64 p.Ins, .int .i64 p.Vars, .int .i64 p.Root, .int .i64 p.Phase, .slice B p.Terms.length c, .slice B1 p.Out.length c1], .int .i64 v_, .agg #[.int .i64 by_.Mask, .int .i64 by_.Turn]]) k_call_57 rfl (mc rfl (mc rfl (mc rfl mn))) (c_impl_PathSum_substituted p v_ by_ B c p.Terms.length B1 c1 p.Out.length _ rfl rfl (hS6.inn0 [(true, 0), (true, 1)] rfl) hc3)) ?_
    rintro _ w_7 ⟨B4, c4, B5, c5, rfl, hd1⟩
    have hS10 := hS6.out0 hd1
    have hS10 : ST w0 [] _ [⟨some ⟨b, 0, none⟩, 57, [.int .i64 p.Ins, .int .i64 p.Vars, .int .i64 p.Root, .int .i64 p.Phase, .slice B p.Terms.length c, .slice B1 p.Out.length c1], 6⟩, ⟨some ⟨b1, 0, none⟩, 61, [.int .i64 by_.Mask, .int .i64 by_.Turn], 2⟩, ⟨some ⟨b2, 0, none⟩, 57, [.int .i64 0, .int .i64 0, .int .i64 0, .int .i64 0, .slice none 0 0, .slice none 0 0], 6⟩, ⟨B4, 136, (r_5.Terms.flatMap enc_Term), c4 * 2⟩, ⟨B5, 61, (r_5.Out.flatMap enc_Affine), c5 * 2⟩] [⟨B, (p.Terms.flatMap enc_Term)⟩, ⟨B1, (p.Out.flatMap enc_Affine)⟩] := hS10
    refine ss0 rfl rfl (Ys_store (i := 2) (s := 6) (B := some ⟨b2, 0, none⟩) (T' := 57) (v := .agg #[.int .i64 r_5.Ins, .int .i64 r_5.Vars, .int .i64 r_5.Root, .int .i64 r_5.Phase, .slice B4 r_5.Terms.length c4, .slice B5 r_5.Out.length c5]) (vs := [.int .i64 r_5.Ins, .int .i64 r_5.Vars, .int .i64 r_5.Root, .int .i64 r_5.Phase, .slice B4 r_5.Terms.length c4, .slice B5 r_5.Out.length c5]) (k := 0) (cs' := [.int .i64 r_5.Ins, .int .i64 r_5.Vars, .int .i64 r_5.Root, .int .i64 r_5.Phase, .slice B4 r_5.Terms.length c4, .slice B5 r_5.Out.length c5]) hS10 k_sz_57_6 rfl rfl rfl rfl rfl rfl rfl (Nat.le_of_ble_eq_true rfl) rfl rfl) ?_
    rintro _ w_8 ⟨rfl, hS11⟩
    have hS11 : ST w0 [] _ [⟨some ⟨b, 0, none⟩, 57, [.int .i64 p.Ins, .int .i64 p.Vars, .int .i64 p.Root, .int .i64 p.Phase, .slice B p.Terms.length c, .slice B1 p.Out.length c1], 6⟩, ⟨some ⟨b1, 0, none⟩, 61, [.int .i64 by_.Mask, .int .i64 by_.Turn], 2⟩, ⟨some ⟨b2, 0, none⟩, 57, [.int .i64 r_5.Ins, .int .i64 r_5.Vars, .int .i64 r_5.Root, .int .i64 r_5.Phase, .slice B4 r_5.Terms.length c4, .slice B5 r_5.Out.length c5], 6⟩, ⟨B4, 136, (r_5.Terms.flatMap enc_Term), c4 * 2⟩, ⟨B5, 61, (r_5.Out.flatMap enc_Affine), c5 * 2⟩] [⟨B, (p.Terms.flatMap enc_Term)⟩, ⟨B1, (p.Out.flatMap enc_Affine)⟩] := hS11
    refine sq 7 rfl rfl (Y_assign (v := .bool true) rfl rfl) ?_
    refine rw_nil ?_
    refine cw_ret ?_
    obtain ⟨rfl, rfl⟩ := pr2 (some_inj hF2)
    exact ret2 Try.results24 (v1 := .agg #[.int .i64 r_5.Ins, .int .i64 r_5.Vars, .int .i64 r_5.Root, .int .i64 r_5.Phase, .slice B4 r_5.Terms.length c4, .slice B5 r_5.Out.length c5]) (resAt_cellA (B := some ⟨b2, 0, none⟩) (i := 0) (cs := [.int .i64 r_5.Ins, .int .i64 r_5.Vars, .int .i64 r_5.Root, .int .i64 r_5.Phase, .slice B4 r_5.Terms.length c4, .slice B5 r_5.Out.length c5]) (vs := [.int .i64 r_5.Ins, .int .i64 r_5.Vars, .int .i64 r_5.Root, .int .i64 r_5.Phase, .slice B4 r_5.Terms.length c4, .slice B5 r_5.Out.length c5]) rfl k_ag_57 k_sz_57_6 (hS11.cf (i := 2) rfl) rfl rfl) (v2 := .bool true) (resAt_tmp rfl) ⟨B4, c4, B5, c5, rfl, (ST.subR (R' := []) (hS11.sel [3, 4] rfl rfl) (fun _ h => by cases h))⟩

theorem c_laws_eqTerm (a : TTerm) (b : TTerm)  (w0 : World)  (hS : ST w0 [] w0 [] []) {r_ : Bool} (hF : F_laws_eqTerm a b = some r_) :
    CV Try.prog 107 #[.agg #[.int .i64 a.Mask, .int .i64 a.Coef], .agg #[.int .i64 b.Mask, .int .i64 b.Coef]] w0 (fun v w' => v = .bool r_ ∧ ST w0 [] w' [] []) := by
  unfold F_laws_eqTerm at hF
  refine cv_of_cw 15 Try.func107 rfl Try.ntmps107 rfl ?_
  refine cw_seq ?_
  refine cw_region ?_
  refine ss 2 rfl rfl (Ys_box (T := 136) (v := .agg #[.int .i64 a.Mask, .int .i64 a.Coef]) (cs := [.int .i64 a.Mask, .int .i64 a.Coef]) (m := 2) hS rfl rfl rfl rfl) ?_
  rintro _ w_ ⟨b1, rfl, hS1⟩
  refine ss 3 rfl rfl (Ys_box (T := 136) (v := .agg #[.int .i64 b.Mask, .int .i64 b.Coef]) (cs := [.int .i64 b.Mask, .int .i64 b.Coef]) (m := 2) hS1 rfl rfl rfl rfl) ?_
  rintro _ w_1 ⟨b2, rfl, hS2⟩
  have hS2 : ST w0 [] _ [⟨some ⟨b1, 0, none⟩, 136, [.int .i64 a.Mask, .int .i64 a.Coef], 2⟩, ⟨some ⟨b2, 0, none⟩, 136, [.int .i64 b.Mask, .int .i64 b.Coef], 2⟩] [] := hS2
  refine sq 4 rfl rfl (Y_assign (v := .bool false) rfl rfl) ?_
  refine rw_nil ?_
  refine cw_seq ?_
  refine cw_seq ?_
  refine cw_region ?_
  refine sq 5 rfl rfl (Y_fieldAddr (B := some ⟨b1, 0, none⟩) (i := 0) (s := 0) k_fd_136_0_0_3 k_sz_3_1 rfl rfl) ?_
  refine sq 6 rfl rfl (Y_load1 (B := some ⟨b1, 0, none⟩) (i := 0) (cs := [.int .i64 a.Mask, .int .i64 a.Coef]) (v := .int .i64 a.Mask) k_sc_3 rfl rfl (hS2.cf (i := 0) rfl) rfl) ?_
  refine sq 7 rfl rfl (Y_fieldAddr (B := some ⟨b2, 0, none⟩) (i := 0) (s := 0) k_fd_136_0_0_3 k_sz_3_1 rfl rfl) ?_
  refine sq 8 rfl rfl (Y_load1 (B := some ⟨b2, 0, none⟩) (i := 0) (cs := [.int .i64 b.Mask, .int .i64 b.Coef]) (v := .int .i64 b.Mask) k_sc_3 rfl rfl (hS2.cf (i := 1) rfl) rfl) ?_
  refine sq 9 rfl rfl (Y_ne (k := .i64) (a := a.Mask) (b := b.Mask) rfl rfl rfl) ?_
  refine rw_nil ?_
  refine cw_cond (b := (a.Mask != b.Mask)) rfl (fun hb => ?_) (fun hb => ?_)
  · skip
    have hF1 := ct hF hb
    refine cw_seq ?_
    refine cw_region ?_
    refine sq 4 rfl rfl (Y_assign (v := .bool false) rfl rfl) ?_
    refine rw_nil ?_
    refine cw_ret ?_
    obtain rfl := some_inj hF1
    exact ret1 Try.results107 (v1 := .bool false) (resAt_tmp rfl) ⟨rfl, (ST.subR (R' := []) (hS2.sel [] rfl rfl) (fun _ h => by cases h))⟩
  · skip
    have hF2 := cf' hF hb
    refine cw_skip ?_
    refine cw_seq ?_
    refine cw_seq ?_
    refine cw_region ?_
    refine sq 10 rfl rfl (Y_fieldAddr (B := some ⟨b1, 0, none⟩) (i := 0) (s := 0) k_fd_136_1_1_3 k_sz_3_1 rfl rfl) ?_
    refine sq 11 rfl rfl (Y_load1 (B := some ⟨b1, 0, none⟩) (i := 1) (cs := [.int .i64 a.Mask, .int .i64 a.Coef]) (v := .int .i64 a.Coef) k_sc_3 rfl rfl (hS2.cf (i := 0) rfl) rfl) ?_
    refine sq 12 rfl rfl (Y_fieldAddr (B := some ⟨b2, 0, none⟩) (i := 0) (s := 0) k_fd_136_1_1_3 k_sz_3_1 rfl rfl) ?_
    refine sq 13 rfl rfl (Y_load1 (B := some ⟨b2, 0, none⟩) (i := 1) (cs := [.int .i64 b.Mask, .int .i64 b.Coef]) (v := .int .i64 b.Coef) k_sc_3 rfl rfl (hS2.cf (i := 1) rfl) rfl) ?_
    refine sq 14 rfl rfl (Y_ne (k := .i64) (a := a.Coef) (b := b.Coef) rfl rfl rfl) ?_
    refine rw_nil ?_
    refine cw_cond (b := (a.Coef != b.Coef)) rfl (fun hb1 => ?_) (fun hb1 => ?_)
    · skip
      have hF3 := ct hF2 hb1
      refine cw_seq ?_
      refine cw_region ?_
      refine sq 4 rfl rfl (Y_assign (v := .bool false) rfl rfl) ?_
      refine rw_nil ?_
      refine cw_ret ?_
      obtain rfl := some_inj hF3
      exact ret1 Try.results107 (v1 := .bool false) (resAt_tmp rfl) ⟨rfl, (ST.subR (R' := []) (hS2.sel [] rfl rfl) (fun _ h => by cases h))⟩
    · skip
      have hF4 := cf' hF2 hb1
      refine cw_skip ?_
      refine cw_seq ?_
      refine cw_region ?_
      refine sq 4 rfl rfl (Y_assign (v := .bool true) rfl rfl) ?_
      refine rw_nil ?_
      refine cw_ret ?_
      obtain rfl := some_inj hF4
      exact ret1 Try.results107 (v1 := .bool true) (resAt_tmp rfl) ⟨rfl, (ST.subR (R' := []) (hS2.sel [] rfl rfl) (fun _ h => by cases h))⟩

theorem c_laws_eqTermS (a : List TTerm) (b : List TTerm) (B : Option Addr) (c n : Nat) (B1 : Option Addr) (c1 n1 : Nat) (w0 : World) (hn : a.length = n) (hn1 : b.length = n1) (hS : ST w0 [] w0 [] [⟨B, (a.flatMap enc_Term)⟩, ⟨B1, (b.flatMap enc_Term)⟩]) {r_ : Bool} (hF : F_laws_eqTermS a b = some r_) :
    CV Try.prog 58 #[.slice B n c, .slice B1 n1 c1] w0 (fun v w' => v = .bool r_ ∧ ST w0 [] w' [] []) := by
  subst hn
  subst hn1
  unfold F_laws_eqTermS at hF
  refine cv_of_cw 27 Try.func58 rfl Try.ntmps58 rfl ?_
  refine cw_seq ?_
  refine cw_region ?_
  refine sq 4 rfl rfl (Y_assign (v := .bool false) rfl rfl) ?_
  refine rw_nil ?_
  refine cw_seq ?_
  refine cw_seq ?_
  refine cw_region ?_
  refine sq 6 rfl rfl (Y_move (v := .slice B a.length c) rfl rfl) ?_
  refine sq 7 rfl rfl (Y_len (B := B) (m := a.length) (c := c) k_sl_54_136 rfl rfl) ?_
  refine sq 8 rfl rfl (Y_move (v := .slice B1 b.length c1) rfl rfl) ?_
  refine sq 9 rfl rfl (Y_len (B := B1) (m := b.length) (c := c1) k_sl_54_136 rfl rfl) ?_
  refine sq 10 rfl rfl (Y_ne (k := .i64) (a := (a.length : Int)) (b := (b.length : Int)) rfl rfl rfl) ?_
  refine rw_nil ?_
  refine cw_cond (b := ((a.length : Int) != (b.length : Int))) rfl (fun hb => ?_) (fun hb => ?_)
  · skip
    have hF1 := ct hF hb
    refine cw_seq ?_
    refine cw_region ?_
    refine sq 4 rfl rfl (Y_assign (v := .bool false) rfl rfl) ?_
    refine rw_nil ?_
    refine cw_ret ?_
    obtain rfl := some_inj hF1
    exact ret1 Try.results58 (v1 := .bool false) (resAt_tmp rfl) ⟨rfl, (ST.subR (R' := []) (hS.sel [] rfl rfl) (fun _ h => by cases h))⟩
  · skip
    have hF2 := cf' hF hb
    refine cw_skip ?_
    refine cw_seq ?_
    refine cw_seq ?_
    refine cw_region ?_
    refine sq 5 rfl rfl (Y_assign (v := .int .i64 0) rfl rfl) ?_
    refine rw_nil ?_
    obtain ⟨hN, hF2⟩ := chk_inv hF2
    obtain ⟨z, hz, hF3⟩ := bind_inv hF2
    refine cw_block ?_
    refine cw_loop (fun k f w => ∃ (i1 : Nat), FF f [(0, .slice B a.length c), (1, .slice B1 b.length c1), (5, .int .i64 (i1 : Int))] ∧ ST w0 [] w [] [⟨B, (a.flatMap enc_Term)⟩, ⟨B1, (b.flatMap enc_Term)⟩] ∧ i1 + k = a.length ∧ forX (F_laws_eqTermS_l1 a b) k i1 () = some z) a.length ⟨0, (FF.cons rfl (FF.cons rfl (FF.cons rfl FF.nil))), (hS.sel [] rfl rfl), Nat.zero_add _, hz⟩ ?_
    rintro k_ f w ⟨i1, hf, hS1, hik, hL⟩
    refine cw_seq ?_
    refine cw_seq ?_
    refine cw_region ?_
    refine sq 11 rfl rfl (Y_move (v := .int .i64 (i1 : Int)) rfl (hf.get 5 2 rfl)) ?_
    refine sq 12 rfl rfl (Y_move (v := .slice B a.length c) rfl (hf.get 0 0 rfl)) ?_
    refine sq 13 rfl rfl (Y_len (B := B) (m := a.length) (c := c) k_sl_54_136 rfl rfl) ?_
    refine sq 14 rfl rfl (Y_lt (k := .i64) (a := (i1 : Int)) (b := (a.length : Int)) rfl rfl rfl) ?_
    refine rw_nil ?_
    refine cw_cond (b := (decide ((i1 : Int) < (a.length : Int)))) rfl (fun hlt => ?_) (fun hlt => ?_)
    · skip
      have hlt1 : i1 < a.length := by have h := of_decide_eq_true hlt; omega
      obtain ⟨k_1, rfl⟩ : ∃ k2, k_ = k2 + 1 := ⟨k_ - 1, by omega⟩
      obtain ⟨y, hb1, hL1⟩ := forX_go hL
      unfold F_laws_eqTermS_l1 at hb1
      refine cw_skip ?_
      refine cw_seq ?_
      refine cw_block ?_
      refine cw_seq ?_
      obtain ⟨x, hx, hb1⟩ := bind_inv hb1
      obtain ⟨x1, hx1, hb1⟩ := bind_inv hb1
      obtain ⟨r_1, hc, hb1⟩ := bind_inv hb1
      refine ra_start (ST.sel hS1 [] rfl rfl).fn (by kernel_rfl) ?_
      have hS3 := hS1.drew
      refine ra_q 0 17 (v := .slice B a.length c) rfl rfl rfl (by kernel_rfl) (by kernel_rfl) (by kernel_rfl) (ST.sel hS3 [] rfl rfl) (fun w' hw' => (Y_move (v := .slice B a.length c) rfl (hf.get 0 0 rfl))) ?_
      refine ra_q 1 18 (v := .int .i64 (i1 : Int)) rfl rfl rfl (by kernel_rfl) (by kernel_rfl) (by kernel_rfl) (ST.sel hS3 [] rfl rfl) (fun w' hw' => (Y_move (v := .int .i64 (i1 : Int)) rfl (hf.get 5 2 rfl))) ?_
      refine ra_q 2 19 (v := pt B ((i1 : Int).toNat * 2)) rfl rfl rfl (by kernel_rfl) (by kernel_rfl) (by kernel_rfl) (ST.sel hS3 [] rfl rfl) (fun w' hw' => (Y_index (B := B) (m := a.length) (c := c) (k := .i64) (i := (i1 : Int)) k_sl_54_136 k_sz_136_2 rfl rfl rfl (gi_isSome enc_Term_len rfl (ST.rf hw' (i := 0) rfl) hx) (getI_nn hx) (getI_ltI hx rfl))) ?_
      refine ra_q 3 20 (v := .agg #[.int .i64 x.Mask, .int .i64 x.Coef]) rfl rfl rfl (by kernel_rfl) (by kernel_rfl) (by kernel_rfl) (ST.sel hS3 [] rfl rfl) (fun w' hw' => (Y_loadA (B := B) (i := (i1 : Int).toNat * 2) (cs := (a.flatMap enc_Term)) (vs := [.int .i64 x.Mask, .int .i64 x.Coef]) k_ag_136 k_sz_136_2 rfl rfl (ST.rf hw' (i := 0) rfl) (enc_Term_len x) (gi_seg enc_Term_len hx))) ?_
      refine ra_q 4 21 (v := .slice B1 b.length c1) rfl rfl rfl (by kernel_rfl) (by kernel_rfl) (by kernel_rfl) (ST.sel hS3 [] rfl rfl) (fun w' hw' => (Y_move (v := .slice B1 b.length c1) rfl (hf.get 1 1 rfl))) ?_
      refine ra_q 5 22 (v := .int .i64 (i1 : Int)) rfl rfl rfl (by kernel_rfl) (by kernel_rfl) (by kernel_rfl) (ST.sel hS3 [] rfl rfl) (fun w' hw' => (Y_move (v := .int .i64 (i1 : Int)) rfl (hf.get 5 2 rfl))) ?_
      refine ra_q 6 23 (v := pt B1 ((i1 : Int).toNat * 2)) rfl rfl rfl (by kernel_rfl) (by kernel_rfl) (by kernel_rfl) (ST.sel hS3 [] rfl rfl) (fun w' hw' => (Y_index (B := B1) (m := b.length) (c := c1) (k := .i64) (i := (i1 : Int)) k_sl_54_136 k_sz_136_2 rfl rfl rfl (gi_isSome enc_Term_len rfl (ST.rf hw' (i := 1) rfl) hx1) (getI_nn hx1) (getI_ltI hx1 rfl))) ?_
      refine ra_q 7 24 (v := .agg #[.int .i64 x1.Mask, .int .i64 x1.Coef]) rfl rfl rfl (by kernel_rfl) (by kernel_rfl) (by kernel_rfl) (ST.sel hS3 [] rfl rfl) (fun w' hw' => (Y_loadA (B := B1) (i := (i1 : Int).toNat * 2) (cs := (b.flatMap enc_Term)) (vs := [.int .i64 x1.Mask, .int .i64 x1.Coef]) k_ag_136 k_sz_136_2 rfl rfl (ST.rf hw' (i := 1) rfl) (enc_Term_len x1) (gi_seg enc_Term_len hx1))) ?_
      refine ra_all (rs := [8]) (by kernel_rfl) rfl ?_
      refine ra_c 25 (i := 8) rfl rfl rfl (Yc_func (g := 107) (vs := [.agg #[.int .i64 x.Mask, .int .i64 x.Coef], .agg #[.int .i64 x1.Mask, .int .i64 x1.Coef]]) k_call_107 rfl (mc rfl (mc rfl mn)) (c_laws_eqTerm x x1 _  (hS3.inn0 [] rfl) hc)) ?_ ?_
      · rintro _ w_ ⟨rfl, hd⟩
        have hS4 := hS3.out00 hd
        refine ⟨(ST.sel hS4 [] rfl rfl), ?_⟩
        refine ra_q 9 26 (v := .bool (!r_1)) rfl rfl rfl (by kernel_rfl) (by kernel_rfl) (by kernel_rfl) (ST.sel hS4 [] rfl rfl) (fun w' hw' => (Y_not (p := r_1) rfl rfl)) ?_
        refine ra_done (by kernel_rfl) ?_
        refine cw_cond (b := (!r_1)) rfl (fun hb2 => ?_) (fun hb2 => ?_)
        · skip
          have hF4 := ct hb1 hb2
          refine cw_seq ?_
          refine cw_region ?_
          refine sq 4 rfl rfl (Y_assign (v := .bool false) rfl rfl) ?_
          refine rw_nil ?_
          refine cw_ret ?_
          obtain rfl := some_inj hF4
          obtain rfl := some_inj hL1
          obtain rfl := some_inj hF3
          exact ret1 Try.results58 (v1 := .bool false) (resAt_tmp rfl) ⟨rfl, (ST.subR (R' := []) (hS4.sel [] rfl rfl) (fun _ h => by cases h))⟩
        · skip
          have hF5 := cf' hb1 hb2
          refine cw_skip ?_
          refine cw_region ?_
          refine sq 15 rfl rfl (Y_move (v := .int .i64 (i1 : Int)) rfl (hf.get 5 2 rfl)) ?_
          refine sq 16 rfl rfl (Y_add (k := .i64) (a := (i1 : Int)) (b := 1) rfl rfl rfl) ?_
          refine sq 5 rfl rfl (Y_assign (v := .int .i64 (IntKind.i64.wrap ((i1 : Int) + 1))) rfl rfl) ?_
          refine rw_nil ?_
          obtain rfl := some_inj hF5
          exact ⟨k_1, Nat.lt_succ_self _, i1 + 1, (FF.cons (hf.get 0 0 rfl) (FF.cons (hf.get 1 1 rfl) (FF.cons (congrArg (Value.int .i64) (wr_succ hlt1 hN)) FF.nil))), (hS4.sel [] rfl rfl), (by omega), hL1⟩
      exact allR_nil
    · skip
      obtain rfl : k_ = 0 := by have h := of_decide_eq_false hlt; omega
      refine cw_exit rfl ?_
      obtain rfl := some_inj hL
      refine cw_seq ?_
      refine cw_region ?_
      refine sq 4 rfl rfl (Y_assign (v := .bool true) rfl rfl) ?_
      refine rw_nil ?_
      refine cw_ret ?_
      obtain rfl := some_inj hF3
      exact ret1 Try.results58 (v1 := .bool true) (resAt_tmp rfl) ⟨rfl, (ST.subR (R' := []) (hS1.sel [] rfl rfl) (fun _ h => by cases h))⟩

theorem c_laws_eqAffine (a : TAffine) (b : TAffine)  (w0 : World)  (hS : ST w0 [] w0 [] []) {r_ : Bool} (hF : F_laws_eqAffine a b = some r_) :
    CV Try.prog 108 #[.agg #[.int .i64 a.Mask, .int .i64 a.Turn], .agg #[.int .i64 b.Mask, .int .i64 b.Turn]] w0 (fun v w' => v = .bool r_ ∧ ST w0 [] w' [] []) := by
  unfold F_laws_eqAffine at hF
  refine cv_of_cw 15 Try.func108 rfl Try.ntmps108 rfl ?_
  refine cw_seq ?_
  refine cw_region ?_
  refine ss 2 rfl rfl (Ys_box (T := 61) (v := .agg #[.int .i64 a.Mask, .int .i64 a.Turn]) (cs := [.int .i64 a.Mask, .int .i64 a.Turn]) (m := 2) hS rfl rfl rfl rfl) ?_
  rintro _ w_ ⟨b1, rfl, hS1⟩
  refine ss 3 rfl rfl (Ys_box (T := 61) (v := .agg #[.int .i64 b.Mask, .int .i64 b.Turn]) (cs := [.int .i64 b.Mask, .int .i64 b.Turn]) (m := 2) hS1 rfl rfl rfl rfl) ?_
  rintro _ w_1 ⟨b2, rfl, hS2⟩
  have hS2 : ST w0 [] _ [⟨some ⟨b1, 0, none⟩, 61, [.int .i64 a.Mask, .int .i64 a.Turn], 2⟩, ⟨some ⟨b2, 0, none⟩, 61, [.int .i64 b.Mask, .int .i64 b.Turn], 2⟩] [] := hS2
  refine sq 4 rfl rfl (Y_assign (v := .bool false) rfl rfl) ?_
  refine rw_nil ?_
  refine cw_seq ?_
  refine cw_seq ?_
  refine cw_region ?_
  refine sq 5 rfl rfl (Y_fieldAddr (B := some ⟨b1, 0, none⟩) (i := 0) (s := 0) k_fd_61_0_0_3 k_sz_3_1 rfl rfl) ?_
  refine sq 6 rfl rfl (Y_load1 (B := some ⟨b1, 0, none⟩) (i := 0) (cs := [.int .i64 a.Mask, .int .i64 a.Turn]) (v := .int .i64 a.Mask) k_sc_3 rfl rfl (hS2.cf (i := 0) rfl) rfl) ?_
  refine sq 7 rfl rfl (Y_fieldAddr (B := some ⟨b2, 0, none⟩) (i := 0) (s := 0) k_fd_61_0_0_3 k_sz_3_1 rfl rfl) ?_
  refine sq 8 rfl rfl (Y_load1 (B := some ⟨b2, 0, none⟩) (i := 0) (cs := [.int .i64 b.Mask, .int .i64 b.Turn]) (v := .int .i64 b.Mask) k_sc_3 rfl rfl (hS2.cf (i := 1) rfl) rfl) ?_
  refine sq 9 rfl rfl (Y_ne (k := .i64) (a := a.Mask) (b := b.Mask) rfl rfl rfl) ?_
  refine rw_nil ?_
  refine cw_cond (b := (a.Mask != b.Mask)) rfl (fun hb => ?_) (fun hb => ?_)
  · skip
    have hF1 := ct hF hb
    refine cw_seq ?_
    refine cw_region ?_
    refine sq 4 rfl rfl (Y_assign (v := .bool false) rfl rfl) ?_
    refine rw_nil ?_
    refine cw_ret ?_
    obtain rfl := some_inj hF1
    exact ret1 Try.results108 (v1 := .bool false) (resAt_tmp rfl) ⟨rfl, (ST.subR (R' := []) (hS2.sel [] rfl rfl) (fun _ h => by cases h))⟩
  · skip
    have hF2 := cf' hF hb
    refine cw_skip ?_
    refine cw_seq ?_
    refine cw_seq ?_
    refine cw_region ?_
    refine sq 10 rfl rfl (Y_fieldAddr (B := some ⟨b1, 0, none⟩) (i := 0) (s := 0) k_fd_61_1_1_3 k_sz_3_1 rfl rfl) ?_
    refine sq 11 rfl rfl (Y_load1 (B := some ⟨b1, 0, none⟩) (i := 1) (cs := [.int .i64 a.Mask, .int .i64 a.Turn]) (v := .int .i64 a.Turn) k_sc_3 rfl rfl (hS2.cf (i := 0) rfl) rfl) ?_
    refine sq 12 rfl rfl (Y_fieldAddr (B := some ⟨b2, 0, none⟩) (i := 0) (s := 0) k_fd_61_1_1_3 k_sz_3_1 rfl rfl) ?_
    refine sq 13 rfl rfl (Y_load1 (B := some ⟨b2, 0, none⟩) (i := 1) (cs := [.int .i64 b.Mask, .int .i64 b.Turn]) (v := .int .i64 b.Turn) k_sc_3 rfl rfl (hS2.cf (i := 1) rfl) rfl) ?_
    refine sq 14 rfl rfl (Y_ne (k := .i64) (a := a.Turn) (b := b.Turn) rfl rfl rfl) ?_
    refine rw_nil ?_
    refine cw_cond (b := (a.Turn != b.Turn)) rfl (fun hb1 => ?_) (fun hb1 => ?_)
    · skip
      have hF3 := ct hF2 hb1
      refine cw_seq ?_
      refine cw_region ?_
      refine sq 4 rfl rfl (Y_assign (v := .bool false) rfl rfl) ?_
      refine rw_nil ?_
      refine cw_ret ?_
      obtain rfl := some_inj hF3
      exact ret1 Try.results108 (v1 := .bool false) (resAt_tmp rfl) ⟨rfl, (ST.subR (R' := []) (hS2.sel [] rfl rfl) (fun _ h => by cases h))⟩
    · skip
      have hF4 := cf' hF2 hb1
      refine cw_skip ?_
      refine cw_seq ?_
      refine cw_region ?_
      refine sq 4 rfl rfl (Y_assign (v := .bool true) rfl rfl) ?_
      refine rw_nil ?_
      refine cw_ret ?_
      obtain rfl := some_inj hF4
      exact ret1 Try.results108 (v1 := .bool true) (resAt_tmp rfl) ⟨rfl, (ST.subR (R' := []) (hS2.sel [] rfl rfl) (fun _ h => by cases h))⟩

theorem c_laws_eqAffineS (a : List TAffine) (b : List TAffine) (B : Option Addr) (c n : Nat) (B1 : Option Addr) (c1 n1 : Nat) (w0 : World) (hn : a.length = n) (hn1 : b.length = n1) (hS : ST w0 [] w0 [] [⟨B, (a.flatMap enc_Affine)⟩, ⟨B1, (b.flatMap enc_Affine)⟩]) {r_ : Bool} (hF : F_laws_eqAffineS a b = some r_) :
    CV Try.prog 59 #[.slice B n c, .slice B1 n1 c1] w0 (fun v w' => v = .bool r_ ∧ ST w0 [] w' [] []) := by
  subst hn
  subst hn1
  unfold F_laws_eqAffineS at hF
  refine cv_of_cw 27 Try.func59 rfl Try.ntmps59 rfl ?_
  refine cw_seq ?_
  refine cw_region ?_
  refine sq 4 rfl rfl (Y_assign (v := .bool false) rfl rfl) ?_
  refine rw_nil ?_
  refine cw_seq ?_
  refine cw_seq ?_
  refine cw_region ?_
  refine sq 6 rfl rfl (Y_move (v := .slice B a.length c) rfl rfl) ?_
  refine sq 7 rfl rfl (Y_len (B := B) (m := a.length) (c := c) k_sl_55_61 rfl rfl) ?_
  refine sq 8 rfl rfl (Y_move (v := .slice B1 b.length c1) rfl rfl) ?_
  refine sq 9 rfl rfl (Y_len (B := B1) (m := b.length) (c := c1) k_sl_55_61 rfl rfl) ?_
  refine sq 10 rfl rfl (Y_ne (k := .i64) (a := (a.length : Int)) (b := (b.length : Int)) rfl rfl rfl) ?_
  refine rw_nil ?_
  refine cw_cond (b := ((a.length : Int) != (b.length : Int))) rfl (fun hb => ?_) (fun hb => ?_)
  · skip
    have hF1 := ct hF hb
    refine cw_seq ?_
    refine cw_region ?_
    refine sq 4 rfl rfl (Y_assign (v := .bool false) rfl rfl) ?_
    refine rw_nil ?_
    refine cw_ret ?_
    obtain rfl := some_inj hF1
    exact ret1 Try.results59 (v1 := .bool false) (resAt_tmp rfl) ⟨rfl, (ST.subR (R' := []) (hS.sel [] rfl rfl) (fun _ h => by cases h))⟩
  · skip
    have hF2 := cf' hF hb
    refine cw_skip ?_
    refine cw_seq ?_
    refine cw_seq ?_
    refine cw_region ?_
    refine sq 5 rfl rfl (Y_assign (v := .int .i64 0) rfl rfl) ?_
    refine rw_nil ?_
    obtain ⟨hN, hF2⟩ := chk_inv hF2
    obtain ⟨z, hz, hF3⟩ := bind_inv hF2
    refine cw_block ?_
    refine cw_loop (fun k f w => ∃ (i1 : Nat), FF f [(0, .slice B a.length c), (1, .slice B1 b.length c1), (5, .int .i64 (i1 : Int))] ∧ ST w0 [] w [] [⟨B, (a.flatMap enc_Affine)⟩, ⟨B1, (b.flatMap enc_Affine)⟩] ∧ i1 + k = a.length ∧ forX (F_laws_eqAffineS_l1 a b) k i1 () = some z) a.length ⟨0, (FF.cons rfl (FF.cons rfl (FF.cons rfl FF.nil))), (hS.sel [] rfl rfl), Nat.zero_add _, hz⟩ ?_
    rintro k_ f w ⟨i1, hf, hS1, hik, hL⟩
    refine cw_seq ?_
    refine cw_seq ?_
    refine cw_region ?_
    refine sq 11 rfl rfl (Y_move (v := .int .i64 (i1 : Int)) rfl (hf.get 5 2 rfl)) ?_
    refine sq 12 rfl rfl (Y_move (v := .slice B a.length c) rfl (hf.get 0 0 rfl)) ?_
    refine sq 13 rfl rfl (Y_len (B := B) (m := a.length) (c := c) k_sl_55_61 rfl rfl) ?_
    refine sq 14 rfl rfl (Y_lt (k := .i64) (a := (i1 : Int)) (b := (a.length : Int)) rfl rfl rfl) ?_
    refine rw_nil ?_
    refine cw_cond (b := (decide ((i1 : Int) < (a.length : Int)))) rfl (fun hlt => ?_) (fun hlt => ?_)
    · skip
      have hlt1 : i1 < a.length := by have h := of_decide_eq_true hlt; omega
      obtain ⟨k_1, rfl⟩ : ∃ k2, k_ = k2 + 1 := ⟨k_ - 1, by omega⟩
      obtain ⟨y, hb1, hL1⟩ := forX_go hL
      unfold F_laws_eqAffineS_l1 at hb1
      refine cw_skip ?_
      refine cw_seq ?_
      refine cw_block ?_
      refine cw_seq ?_
      obtain ⟨x, hx, hb1⟩ := bind_inv hb1
      obtain ⟨x1, hx1, hb1⟩ := bind_inv hb1
      obtain ⟨r_1, hc, hb1⟩ := bind_inv hb1
      refine ra_start (ST.sel hS1 [] rfl rfl).fn (by kernel_rfl) ?_
      have hS3 := hS1.drew
      refine ra_q 0 17 (v := .slice B a.length c) rfl rfl rfl (by kernel_rfl) (by kernel_rfl) (by kernel_rfl) (ST.sel hS3 [] rfl rfl) (fun w' hw' => (Y_move (v := .slice B a.length c) rfl (hf.get 0 0 rfl))) ?_
      refine ra_q 1 18 (v := .int .i64 (i1 : Int)) rfl rfl rfl (by kernel_rfl) (by kernel_rfl) (by kernel_rfl) (ST.sel hS3 [] rfl rfl) (fun w' hw' => (Y_move (v := .int .i64 (i1 : Int)) rfl (hf.get 5 2 rfl))) ?_
      refine ra_q 2 19 (v := pt B ((i1 : Int).toNat * 2)) rfl rfl rfl (by kernel_rfl) (by kernel_rfl) (by kernel_rfl) (ST.sel hS3 [] rfl rfl) (fun w' hw' => (Y_index (B := B) (m := a.length) (c := c) (k := .i64) (i := (i1 : Int)) k_sl_55_61 k_sz_61_2 rfl rfl rfl (gi_isSome enc_Affine_len rfl (ST.rf hw' (i := 0) rfl) hx) (getI_nn hx) (getI_ltI hx rfl))) ?_
      refine ra_q 3 20 (v := .agg #[.int .i64 x.Mask, .int .i64 x.Turn]) rfl rfl rfl (by kernel_rfl) (by kernel_rfl) (by kernel_rfl) (ST.sel hS3 [] rfl rfl) (fun w' hw' => (Y_loadA (B := B) (i := (i1 : Int).toNat * 2) (cs := (a.flatMap enc_Affine)) (vs := [.int .i64 x.Mask, .int .i64 x.Turn]) k_ag_61 k_sz_61_2 rfl rfl (ST.rf hw' (i := 0) rfl) (enc_Affine_len x) (gi_seg enc_Affine_len hx))) ?_
      refine ra_q 4 21 (v := .slice B1 b.length c1) rfl rfl rfl (by kernel_rfl) (by kernel_rfl) (by kernel_rfl) (ST.sel hS3 [] rfl rfl) (fun w' hw' => (Y_move (v := .slice B1 b.length c1) rfl (hf.get 1 1 rfl))) ?_
      refine ra_q 5 22 (v := .int .i64 (i1 : Int)) rfl rfl rfl (by kernel_rfl) (by kernel_rfl) (by kernel_rfl) (ST.sel hS3 [] rfl rfl) (fun w' hw' => (Y_move (v := .int .i64 (i1 : Int)) rfl (hf.get 5 2 rfl))) ?_
      refine ra_q 6 23 (v := pt B1 ((i1 : Int).toNat * 2)) rfl rfl rfl (by kernel_rfl) (by kernel_rfl) (by kernel_rfl) (ST.sel hS3 [] rfl rfl) (fun w' hw' => (Y_index (B := B1) (m := b.length) (c := c1) (k := .i64) (i := (i1 : Int)) k_sl_55_61 k_sz_61_2 rfl rfl rfl (gi_isSome enc_Affine_len rfl (ST.rf hw' (i := 1) rfl) hx1) (getI_nn hx1) (getI_ltI hx1 rfl))) ?_
      refine ra_q 7 24 (v := .agg #[.int .i64 x1.Mask, .int .i64 x1.Turn]) rfl rfl rfl (by kernel_rfl) (by kernel_rfl) (by kernel_rfl) (ST.sel hS3 [] rfl rfl) (fun w' hw' => (Y_loadA (B := B1) (i := (i1 : Int).toNat * 2) (cs := (b.flatMap enc_Affine)) (vs := [.int .i64 x1.Mask, .int .i64 x1.Turn]) k_ag_61 k_sz_61_2 rfl rfl (ST.rf hw' (i := 1) rfl) (enc_Affine_len x1) (gi_seg enc_Affine_len hx1))) ?_
      refine ra_all (rs := [8]) (by kernel_rfl) rfl ?_
      refine ra_c 25 (i := 8) rfl rfl rfl (Yc_func (g := 108) (vs := [.agg #[.int .i64 x.Mask, .int .i64 x.Turn], .agg #[.int .i64 x1.Mask, .int .i64 x1.Turn]]) k_call_108 rfl (mc rfl (mc rfl mn)) (c_laws_eqAffine x x1 _  (hS3.inn0 [] rfl) hc)) ?_ ?_
      · rintro _ w_ ⟨rfl, hd⟩
        have hS4 := hS3.out00 hd
        refine ⟨(ST.sel hS4 [] rfl rfl), ?_⟩
        refine ra_q 9 26 (v := .bool (!r_1)) rfl rfl rfl (by kernel_rfl) (by kernel_rfl) (by kernel_rfl) (ST.sel hS4 [] rfl rfl) (fun w' hw' => (Y_not (p := r_1) rfl rfl)) ?_
        refine ra_done (by kernel_rfl) ?_
        refine cw_cond (b := (!r_1)) rfl (fun hb2 => ?_) (fun hb2 => ?_)
        · skip
          have hF4 := ct hb1 hb2
          refine cw_seq ?_
          refine cw_region ?_
          refine sq 4 rfl rfl (Y_assign (v := .bool false) rfl rfl) ?_
          refine rw_nil ?_
          refine cw_ret ?_
          obtain rfl := some_inj hF4
          obtain rfl := some_inj hL1
          obtain rfl := some_inj hF3
          exact ret1 Try.results59 (v1 := .bool false) (resAt_tmp rfl) ⟨rfl, (ST.subR (R' := []) (hS4.sel [] rfl rfl) (fun _ h => by cases h))⟩
        · skip
          have hF5 := cf' hb1 hb2
          refine cw_skip ?_
          refine cw_region ?_
          refine sq 15 rfl rfl (Y_move (v := .int .i64 (i1 : Int)) rfl (hf.get 5 2 rfl)) ?_
          refine sq 16 rfl rfl (Y_add (k := .i64) (a := (i1 : Int)) (b := 1) rfl rfl rfl) ?_
          refine sq 5 rfl rfl (Y_assign (v := .int .i64 (IntKind.i64.wrap ((i1 : Int) + 1))) rfl rfl) ?_
          refine rw_nil ?_
          obtain rfl := some_inj hF5
          exact ⟨k_1, Nat.lt_succ_self _, i1 + 1, (FF.cons (hf.get 0 0 rfl) (FF.cons (hf.get 1 1 rfl) (FF.cons (congrArg (Value.int .i64) (wr_succ hlt1 hN)) FF.nil))), (hS4.sel [] rfl rfl), (by omega), hL1⟩
      exact allR_nil
    · skip
      obtain rfl : k_ = 0 := by have h := of_decide_eq_false hlt; omega
      refine cw_exit rfl ?_
      obtain rfl := some_inj hL
      refine cw_seq ?_
      refine cw_region ?_
      refine sq 4 rfl rfl (Y_assign (v := .bool true) rfl rfl) ?_
      refine rw_nil ?_
      refine cw_ret ?_
      obtain rfl := some_inj hF3
      exact ret1 Try.results59 (v1 := .bool true) (resAt_tmp rfl) ⟨rfl, (ST.subR (R' := []) (hS1.sel [] rfl rfl) (fun _ h => by cases h))⟩

theorem c_laws_eqPathSum (a : TPathSum) (b : TPathSum) (B : Option Addr) (c n : Nat) (B1 : Option Addr) (c1 n1 : Nat) (B2 : Option Addr) (c2 n2 : Nat) (B3 : Option Addr) (c3 n3 : Nat) (w0 : World) (hn : a.Terms.length = n) (hn1 : a.Out.length = n1) (hn2 : b.Terms.length = n2) (hn3 : b.Out.length = n3) (hS : ST w0 [] w0 [] [⟨B, (a.Terms.flatMap enc_Term)⟩, ⟨B1, (a.Out.flatMap enc_Affine)⟩, ⟨B2, (b.Terms.flatMap enc_Term)⟩, ⟨B3, (b.Out.flatMap enc_Affine)⟩]) {r_ : Bool} (hF : F_laws_eqPathSum a b = some r_) :
    CV Try.prog 25 #[.agg #[.int .i64 a.Ins, .int .i64 a.Vars, .int .i64 a.Root, .int .i64 a.Phase, .slice B n c, .slice B1 n1 c1], .agg #[.int .i64 b.Ins, .int .i64 b.Vars, .int .i64 b.Root, .int .i64 b.Phase, .slice B2 n2 c2, .slice B3 n3 c3]] w0 (fun v w' => v = .bool r_ ∧ ST w0 [] w' [] []) := by
  subst hn
  subst hn1
  subst hn2
  subst hn3
  unfold F_laws_eqPathSum at hF
  refine cv_of_cw 37 Try.func25 rfl Try.ntmps25 rfl ?_
  refine cw_seq ?_
  refine cw_region ?_
  refine ss 2 rfl rfl (Ys_box (T := 57) (v := .agg #[.int .i64 a.Ins, .int .i64 a.Vars, .int .i64 a.Root, .int .i64 a.Phase, .slice B a.Terms.length c, .slice B1 a.Out.length c1]) (cs := [.int .i64 a.Ins, .int .i64 a.Vars, .int .i64 a.Root, .int .i64 a.Phase, .slice B a.Terms.length c, .slice B1 a.Out.length c1]) (m := 6) hS rfl rfl rfl rfl) ?_
  rintro _ w_ ⟨b1, rfl, hS1⟩
  refine ss 3 rfl rfl (Ys_box (T := 57) (v := .agg #[.int .i64 b.Ins, .int .i64 b.Vars, .int .i64 b.Root, .int .i64 b.Phase, .slice B2 b.Terms.length c2, .slice B3 b.Out.length c3]) (cs := [.int .i64 b.Ins, .int .i64 b.Vars, .int .i64 b.Root, .int .i64 b.Phase, .slice B2 b.Terms.length c2, .slice B3 b.Out.length c3]) (m := 6) hS1 rfl rfl rfl rfl) ?_
  rintro _ w_1 ⟨b2, rfl, hS2⟩
  have hS2 : ST w0 [] _ [⟨some ⟨b1, 0, none⟩, 57, [.int .i64 a.Ins, .int .i64 a.Vars, .int .i64 a.Root, .int .i64 a.Phase, .slice B a.Terms.length c, .slice B1 a.Out.length c1], 6⟩, ⟨some ⟨b2, 0, none⟩, 57, [.int .i64 b.Ins, .int .i64 b.Vars, .int .i64 b.Root, .int .i64 b.Phase, .slice B2 b.Terms.length c2, .slice B3 b.Out.length c3], 6⟩] [⟨B, (a.Terms.flatMap enc_Term)⟩, ⟨B1, (a.Out.flatMap enc_Affine)⟩, ⟨B2, (b.Terms.flatMap enc_Term)⟩, ⟨B3, (b.Out.flatMap enc_Affine)⟩] := hS2
  refine sq 4 rfl rfl (Y_assign (v := .bool false) rfl rfl) ?_
  refine rw_nil ?_
  refine cw_seq ?_
  refine cw_seq ?_
  refine cw_region ?_
  refine sq 5 rfl rfl (Y_fieldAddr (B := some ⟨b1, 0, none⟩) (i := 0) (s := 0) k_fd_57_0_0_3 k_sz_3_1 rfl rfl) ?_
  refine sq 6 rfl rfl (Y_load1 (B := some ⟨b1, 0, none⟩) (i := 0) (cs := [.int .i64 a.Ins, .int .i64 a.Vars, .int .i64 a.Root, .int .i64 a.Phase, .slice B a.Terms.length c, .slice B1 a.Out.length c1]) (v := .int .i64 a.Ins) k_sc_3 rfl rfl (hS2.cf (i := 0) rfl) rfl) ?_
  refine sq 7 rfl rfl (Y_fieldAddr (B := some ⟨b2, 0, none⟩) (i := 0) (s := 0) k_fd_57_0_0_3 k_sz_3_1 rfl rfl) ?_
  refine sq 8 rfl rfl (Y_load1 (B := some ⟨b2, 0, none⟩) (i := 0) (cs := [.int .i64 b.Ins, .int .i64 b.Vars, .int .i64 b.Root, .int .i64 b.Phase, .slice B2 b.Terms.length c2, .slice B3 b.Out.length c3]) (v := .int .i64 b.Ins) k_sc_3 rfl rfl (hS2.cf (i := 1) rfl) rfl) ?_
  refine sq 9 rfl rfl (Y_ne (k := .i64) (a := a.Ins) (b := b.Ins) rfl rfl rfl) ?_
  refine rw_nil ?_
  refine cw_cond (b := (a.Ins != b.Ins)) rfl (fun hb => ?_) (fun hb => ?_)
  · skip
    have hF1 := ct hF hb
    refine cw_seq ?_
    refine cw_region ?_
    refine sq 4 rfl rfl (Y_assign (v := .bool false) rfl rfl) ?_
    refine rw_nil ?_
    refine cw_ret ?_
    obtain rfl := some_inj hF1
    exact ret1 Try.results25 (v1 := .bool false) (resAt_tmp rfl) ⟨rfl, (ST.subR (R' := []) (hS2.sel [] rfl rfl) (fun _ h => by cases h))⟩
  · skip
    have hF2 := cf' hF hb
    refine cw_skip ?_
    refine cw_seq ?_
    refine cw_seq ?_
    refine cw_region ?_
    refine sq 10 rfl rfl (Y_fieldAddr (B := some ⟨b1, 0, none⟩) (i := 0) (s := 0) k_fd_57_1_1_3 k_sz_3_1 rfl rfl) ?_
    refine sq 11 rfl rfl (Y_load1 (B := some ⟨b1, 0, none⟩) (i := 1) (cs := [.int .i64 a.Ins, .int .i64 a.Vars, .int .i64 a.Root, .int .i64 a.Phase, .slice B a.Terms.length c, .slice B1 a.Out.length c1]) (v := .int .i64 a.Vars) k_sc_3 rfl rfl (hS2.cf (i := 0) rfl) rfl) ?_
    refine sq 12 rfl rfl (Y_fieldAddr (B := some ⟨b2, 0, none⟩) (i := 0) (s := 0) k_fd_57_1_1_3 k_sz_3_1 rfl rfl) ?_
    refine sq 13 rfl rfl (Y_load1 (B := some ⟨b2, 0, none⟩) (i := 1) (cs := [.int .i64 b.Ins, .int .i64 b.Vars, .int .i64 b.Root, .int .i64 b.Phase, .slice B2 b.Terms.length c2, .slice B3 b.Out.length c3]) (v := .int .i64 b.Vars) k_sc_3 rfl rfl (hS2.cf (i := 1) rfl) rfl) ?_
    refine sq 14 rfl rfl (Y_ne (k := .i64) (a := a.Vars) (b := b.Vars) rfl rfl rfl) ?_
    refine rw_nil ?_
    refine cw_cond (b := (a.Vars != b.Vars)) rfl (fun hb1 => ?_) (fun hb1 => ?_)
    · skip
      have hF3 := ct hF2 hb1
      refine cw_seq ?_
      refine cw_region ?_
      refine sq 4 rfl rfl (Y_assign (v := .bool false) rfl rfl) ?_
      refine rw_nil ?_
      refine cw_ret ?_
      obtain rfl := some_inj hF3
      exact ret1 Try.results25 (v1 := .bool false) (resAt_tmp rfl) ⟨rfl, (ST.subR (R' := []) (hS2.sel [] rfl rfl) (fun _ h => by cases h))⟩
    · skip
      have hF4 := cf' hF2 hb1
      refine cw_skip ?_
      refine cw_seq ?_
      refine cw_seq ?_
      refine cw_region ?_
      refine sq 15 rfl rfl (Y_fieldAddr (B := some ⟨b1, 0, none⟩) (i := 0) (s := 0) k_fd_57_2_2_3 k_sz_3_1 rfl rfl) ?_
      refine sq 16 rfl rfl (Y_load1 (B := some ⟨b1, 0, none⟩) (i := 2) (cs := [.int .i64 a.Ins, .int .i64 a.Vars, .int .i64 a.Root, .int .i64 a.Phase, .slice B a.Terms.length c, .slice B1 a.Out.length c1]) (v := .int .i64 a.Root) k_sc_3 rfl rfl (hS2.cf (i := 0) rfl) rfl) ?_
      refine sq 17 rfl rfl (Y_fieldAddr (B := some ⟨b2, 0, none⟩) (i := 0) (s := 0) k_fd_57_2_2_3 k_sz_3_1 rfl rfl) ?_
      refine sq 18 rfl rfl (Y_load1 (B := some ⟨b2, 0, none⟩) (i := 2) (cs := [.int .i64 b.Ins, .int .i64 b.Vars, .int .i64 b.Root, .int .i64 b.Phase, .slice B2 b.Terms.length c2, .slice B3 b.Out.length c3]) (v := .int .i64 b.Root) k_sc_3 rfl rfl (hS2.cf (i := 1) rfl) rfl) ?_
      refine sq 19 rfl rfl (Y_ne (k := .i64) (a := a.Root) (b := b.Root) rfl rfl rfl) ?_
      refine rw_nil ?_
      refine cw_cond (b := (a.Root != b.Root)) rfl (fun hb2 => ?_) (fun hb2 => ?_)
      · skip
        have hF5 := ct hF4 hb2
        refine cw_seq ?_
        refine cw_region ?_
        refine sq 4 rfl rfl (Y_assign (v := .bool false) rfl rfl) ?_
        refine rw_nil ?_
        refine cw_ret ?_
        obtain rfl := some_inj hF5
        exact ret1 Try.results25 (v1 := .bool false) (resAt_tmp rfl) ⟨rfl, (ST.subR (R' := []) (hS2.sel [] rfl rfl) (fun _ h => by cases h))⟩
      · skip
        have hF6 := cf' hF4 hb2
        refine cw_skip ?_
        refine cw_seq ?_
        refine cw_seq ?_
        refine cw_region ?_
        refine sq 20 rfl rfl (Y_fieldAddr (B := some ⟨b1, 0, none⟩) (i := 0) (s := 0) k_fd_57_3_3_3 k_sz_3_1 rfl rfl) ?_
        refine sq 21 rfl rfl (Y_load1 (B := some ⟨b1, 0, none⟩) (i := 3) (cs := [.int .i64 a.Ins, .int .i64 a.Vars, .int .i64 a.Root, .int .i64 a.Phase, .slice B a.Terms.length c, .slice B1 a.Out.length c1]) (v := .int .i64 a.Phase) k_sc_3 rfl rfl (hS2.cf (i := 0) rfl) rfl) ?_
        refine sq 22 rfl rfl (Y_fieldAddr (B := some ⟨b2, 0, none⟩) (i := 0) (s := 0) k_fd_57_3_3_3 k_sz_3_1 rfl rfl) ?_
        refine sq 23 rfl rfl (Y_load1 (B := some ⟨b2, 0, none⟩) (i := 3) (cs := [.int .i64 b.Ins, .int .i64 b.Vars, .int .i64 b.Root, .int .i64 b.Phase, .slice B2 b.Terms.length c2, .slice B3 b.Out.length c3]) (v := .int .i64 b.Phase) k_sc_3 rfl rfl (hS2.cf (i := 1) rfl) rfl) ?_
        refine sq 24 rfl rfl (Y_ne (k := .i64) (a := a.Phase) (b := b.Phase) rfl rfl rfl) ?_
        refine rw_nil ?_
        refine cw_cond (b := (a.Phase != b.Phase)) rfl (fun hb3 => ?_) (fun hb3 => ?_)
        · skip
          have hF7 := ct hF6 hb3
          refine cw_seq ?_
          refine cw_region ?_
          refine sq 4 rfl rfl (Y_assign (v := .bool false) rfl rfl) ?_
          refine rw_nil ?_
          refine cw_ret ?_
          obtain rfl := some_inj hF7
          exact ret1 Try.results25 (v1 := .bool false) (resAt_tmp rfl) ⟨rfl, (ST.subR (R' := []) (hS2.sel [] rfl rfl) (fun _ h => by cases h))⟩
        · skip
          have hF8 := cf' hF6 hb3
          refine cw_skip ?_
          refine cw_seq ?_
          refine cw_seq ?_
          refine cw_region ?_
          refine sq 25 rfl rfl (Y_fieldAddr (B := some ⟨b1, 0, none⟩) (i := 0) (s := 0) k_fd_57_4_4_54 k_sz_54_1 rfl rfl) ?_
          refine sq 26 rfl rfl (Y_load1 (B := some ⟨b1, 0, none⟩) (i := 4) (cs := [.int .i64 a.Ins, .int .i64 a.Vars, .int .i64 a.Root, .int .i64 a.Phase, .slice B a.Terms.length c, .slice B1 a.Out.length c1]) (v := .slice B a.Terms.length c) k_sc_54 rfl rfl (hS2.cf (i := 0) rfl) rfl) ?_
          refine sq 27 rfl rfl (Y_fieldAddr (B := some ⟨b2, 0, none⟩) (i := 0) (s := 0) k_fd_57_4_4_54 k_sz_54_1 rfl rfl) ?_
          refine sq 28 rfl rfl (Y_load1 (B := some ⟨b2, 0, none⟩) (i := 4) (cs := [.int .i64 b.Ins, .int .i64 b.Vars, .int .i64 b.Root, .int .i64 b.Phase, .slice B2 b.Terms.length c2, .slice B3 b.Out.length c3]) (v := .slice B2 b.Terms.length c2) k_sc_54 rfl rfl (hS2.cf (i := 1) rfl) rfl) ?_
          obtain ⟨r_1, hc, hF8⟩ := bind_inv hF8
          refine sc 29 rfl rfl (Yc_func (g := 58) (vs := [.slice B a.Terms.length c, .slice B2 b.Terms.length c2]) k_call_58 rfl (mc rfl (mc rfl mn)) (c_laws_eqTermS a.Terms b.Terms B c a.Terms.length B2 c2 b.Terms.length _ rfl rfl (hS2.inn0 [(true, 0), (true, 2)] rfl) hc)) ?_
          rintro _ w_2 ⟨rfl, hd⟩
          have hS3 := hS2.out00 hd
          have hS3 : ST w0 [] _ [⟨some ⟨b1, 0, none⟩, 57, [.int .i64 a.Ins, .int .i64 a.Vars, .int .i64 a.Root, .int .i64 a.Phase, .slice B a.Terms.length c, .slice B1 a.Out.length c1], 6⟩, ⟨some ⟨b2, 0, none⟩, 57, [.int .i64 b.Ins, .int .i64 b.Vars, .int .i64 b.Root, .int .i64 b.Phase, .slice B2 b.Terms.length c2, .slice B3 b.Out.length c3], 6⟩] [⟨B, (a.Terms.flatMap enc_Term)⟩, ⟨B1, (a.Out.flatMap enc_Affine)⟩, ⟨B2, (b.Terms.flatMap enc_Term)⟩, ⟨B3, (b.Out.flatMap enc_Affine)⟩] := hS3
          refine sq 30 rfl rfl (Y_not (p := r_1) rfl rfl) ?_
          refine rw_nil ?_
          refine cw_cond (b := (!r_1)) rfl (fun hb4 => ?_) (fun hb4 => ?_)
          · skip
            have hF9 := ct hF8 hb4
            refine cw_seq ?_
            refine cw_region ?_
            refine sq 4 rfl rfl (Y_assign (v := .bool false) rfl rfl) ?_
            refine rw_nil ?_
            refine cw_ret ?_
            obtain rfl := some_inj hF9
            exact ret1 Try.results25 (v1 := .bool false) (resAt_tmp rfl) ⟨rfl, (ST.subR (R' := []) (hS3.sel [] rfl rfl) (fun _ h => by cases h))⟩
          · skip
            have hF10 := cf' hF8 hb4
            refine cw_skip ?_
            refine cw_seq ?_
            refine cw_seq ?_
            refine cw_region ?_
            refine sq 31 rfl rfl (Y_fieldAddr (B := some ⟨b1, 0, none⟩) (i := 0) (s := 0) k_fd_57_5_5_55 k_sz_55_1 rfl rfl) ?_
            refine sq 32 rfl rfl (Y_load1 (B := some ⟨b1, 0, none⟩) (i := 5) (cs := [.int .i64 a.Ins, .int .i64 a.Vars, .int .i64 a.Root, .int .i64 a.Phase, .slice B a.Terms.length c, .slice B1 a.Out.length c1]) (v := .slice B1 a.Out.length c1) k_sc_55 rfl rfl (hS3.cf (i := 0) rfl) rfl) ?_
            refine sq 33 rfl rfl (Y_fieldAddr (B := some ⟨b2, 0, none⟩) (i := 0) (s := 0) k_fd_57_5_5_55 k_sz_55_1 rfl rfl) ?_
            refine sq 34 rfl rfl (Y_load1 (B := some ⟨b2, 0, none⟩) (i := 5) (cs := [.int .i64 b.Ins, .int .i64 b.Vars, .int .i64 b.Root, .int .i64 b.Phase, .slice B2 b.Terms.length c2, .slice B3 b.Out.length c3]) (v := .slice B3 b.Out.length c3) k_sc_55 rfl rfl (hS3.cf (i := 1) rfl) rfl) ?_
            obtain ⟨r_2, hc1, hF10⟩ := bind_inv hF10
            refine sc 35 rfl rfl (Yc_func (g := 59) (vs := [.slice B1 a.Out.length c1, .slice B3 b.Out.length c3]) k_call_59 rfl (mc rfl (mc rfl mn)) (c_laws_eqAffineS a.Out b.Out B1 c1 a.Out.length B3 c3 b.Out.length _ rfl rfl (hS3.inn0 [(true, 1), (true, 3)] rfl) hc1)) ?_
            rintro _ w_3 ⟨rfl, hd1⟩
            have hS4 := hS3.out00 hd1
            have hS4 : ST w0 [] _ [⟨some ⟨b1, 0, none⟩, 57, [.int .i64 a.Ins, .int .i64 a.Vars, .int .i64 a.Root, .int .i64 a.Phase, .slice B a.Terms.length c, .slice B1 a.Out.length c1], 6⟩, ⟨some ⟨b2, 0, none⟩, 57, [.int .i64 b.Ins, .int .i64 b.Vars, .int .i64 b.Root, .int .i64 b.Phase, .slice B2 b.Terms.length c2, .slice B3 b.Out.length c3], 6⟩] [⟨B, (a.Terms.flatMap enc_Term)⟩, ⟨B1, (a.Out.flatMap enc_Affine)⟩, ⟨B2, (b.Terms.flatMap enc_Term)⟩, ⟨B3, (b.Out.flatMap enc_Affine)⟩] := hS4
            refine sq 36 rfl rfl (Y_not (p := r_2) rfl rfl) ?_
            refine rw_nil ?_
            refine cw_cond (b := (!r_2)) rfl (fun hb5 => ?_) (fun hb5 => ?_)
            · skip
              have hF11 := ct hF10 hb5
              refine cw_seq ?_
              refine cw_region ?_
              refine sq 4 rfl rfl (Y_assign (v := .bool false) rfl rfl) ?_
              refine rw_nil ?_
              refine cw_ret ?_
              obtain rfl := some_inj hF11
              exact ret1 Try.results25 (v1 := .bool false) (resAt_tmp rfl) ⟨rfl, (ST.subR (R' := []) (hS4.sel [] rfl rfl) (fun _ h => by cases h))⟩
            · skip
              have hF12 := cf' hF10 hb5
              refine cw_skip ?_
              refine cw_seq ?_
              refine cw_region ?_
              refine sq 4 rfl rfl (Y_assign (v := .bool true) rfl rfl) ?_
              refine rw_nil ?_
              refine cw_ret ?_
              obtain rfl := some_inj hF12
              exact ret1 Try.results25 (v1 := .bool true) (resAt_tmp rfl) ⟨rfl, (ST.subR (R' := []) (hS4.sel [] rfl rfl) (fun _ h => by cases h))⟩

theorem c_laws_markTermS (a : List TTerm) (k_ : Int) (B : Option Addr) (c n : Nat) (w0 : World) (hn : a.length = n) (hS : ST w0 (bl [⟨B, 136, (a.flatMap enc_Term), c * 2⟩]) w0 [⟨B, 136, (a.flatMap enc_Term), c * 2⟩] []) {r_ : Int} {m : List TTerm} (hF : F_laws_markTermS a k_ = some (r_, m)) :
    CV Try.prog 60 #[.slice B n c, .int .i64 k_] w0 (fun v w' => v = .int .i64 r_ ∧ m.length = n ∧ ST w0 (bl [⟨B, 136, (a.flatMap enc_Term), c * 2⟩]) w' [⟨B, 136, (m.flatMap enc_Term), c * 2⟩] []) := by
  subst hn
  unfold F_laws_markTermS at hF
  refine cv_of_cw 27 Try.func60 rfl Try.ntmps60 rfl ?_
  refine cw_seq ?_
  refine cw_region ?_
  refine sq 4 rfl rfl (Y_assign (v := .int .i64 0) rfl rfl) ?_
  refine rw_nil ?_
  refine cw_seq ?_
  refine cw_seq ?_
  refine cw_region ?_
  refine sq 5 rfl rfl (Y_assign (v := .int .i64 0) rfl rfl) ?_
  refine rw_nil ?_
  obtain ⟨hN, hF⟩ := chk_inv hF
  obtain ⟨z, hz, hF1⟩ := bind_inv hF
  refine cw_block ?_
  refine cw_loop (fun k f w => ∃ (i1 : Nat) (m1 : List TTerm) (k_1 : Int), FF f [(0, .slice B a.length c), (1, .int .i64 k_1), (5, .int .i64 (i1 : Int))] ∧ m1.length = a.length ∧ ST w0 (bl [⟨B, 136, (a.flatMap enc_Term), c * 2⟩]) w [⟨B, 136, (m1.flatMap enc_Term), c * 2⟩] [] ∧ i1 + k = a.length ∧ forN F_laws_markTermS_l1 k i1 (m1, k_1) = some z) a.length ⟨0, a, k_, (FF.cons rfl (FF.cons rfl (FF.cons rfl FF.nil))), rfl, (hS.sel [0] rfl rfl), Nat.zero_add _, hz⟩ ?_
  rintro k_2 f w ⟨i1, m1, k_1, hf, hl, hS1, hik, hL⟩
  refine cw_seq ?_
  refine cw_seq ?_
  refine cw_region ?_
  refine sq 6 rfl rfl (Y_move (v := .int .i64 (i1 : Int)) rfl (hf.get 5 2 rfl)) ?_
  refine sq 7 rfl rfl (Y_move (v := .slice B a.length c) rfl (hf.get 0 0 rfl)) ?_
  refine sq 8 rfl rfl (Y_len (B := B) (m := a.length) (c := c) k_sl_54_136 rfl rfl) ?_
  refine sq 9 rfl rfl (Y_lt (k := .i64) (a := (i1 : Int)) (b := (a.length : Int)) rfl rfl rfl) ?_
  refine rw_nil ?_
  refine cw_cond (b := (decide ((i1 : Int) < (a.length : Int)))) rfl (fun hlt => ?_) (fun hlt => ?_)
  · skip
    have hlt1 : i1 < a.length := by have h := of_decide_eq_true hlt; omega
    obtain ⟨k_3, rfl⟩ : ∃ k2, k_2 = k2 + 1 := ⟨k_2 - 1, by omega⟩
    obtain ⟨y, hb, hL1⟩ := forN_go hL
    unfold F_laws_markTermS_l1 at hb
    refine cw_skip ?_
    refine cw_seq ?_
    refine cw_block ?_
    refine cw_seq ?_
    refine cw_region ?_
    refine sq 12 rfl rfl (Y_move (v := .slice B a.length c) rfl (hf.get 0 0 rfl)) ?_
    refine sq 13 rfl rfl (Y_move (v := .int .i64 (i1 : Int)) rfl (hf.get 5 2 rfl)) ?_
    refine sq 14 rfl rfl (Y_move (v := .int .i64 k_1) rfl (hf.get 1 1 rfl)) ?_
    obtain ⟨x, hx, hb⟩ := bind_inv hb
    refine sq 15 rfl rfl (Y_index (B := B) (m := a.length) (c := c) (k := .i64) (i := (i1 : Int)) k_sl_54_136 k_sz_136_2 rfl rfl rfl (gi_isSome enc_Term_len rfl (hS1.cf (i := 0) rfl) hx) (getI_nn hx) (getI_ltI hx hl)) ?_
    refine sq 16 rfl rfl (Y_fieldAddr (B := B) (i := (i1 : Int).toNat * 2) (s := 0) k_fd_136_0_0_3 k_sz_3_1 rfl rfl) ?_
    refine ss0 rfl rfl (Ys_store (i := 0) (s := 1) (B := B) (T' := 136) (v := .int .i64 k_1) (vs := [.int .i64 k_1]) (k := (i1 : Int).toNat * 2 + 0) (cs' := ((m1.set (i1 : Int).toNat (TTerm.mk k_1 x.Coef)).flatMap enc_Term)) hS1 k_sz_3_1 rfl rfl rfl rfl rfl rfl rfl (gi_fit enc_Term_len hx (j := 0) (k := 1) (by decide)) (gi_setf enc_Term_len hx (TTerm.mk k_1 x.Coef) rfl (Nat.le_of_ble_eq_true rfl)) rfl) ?_
    rintro _ w_ ⟨rfl, hS2⟩
    refine rw_nil ?_
    refine cw_seq ?_
    refine cw_region ?_
    refine sq 17 rfl rfl (Y_move (v := .int .i64 k_1) rfl (hf.get 1 1 rfl)) ?_
    refine sq 18 rfl rfl (Y_add (k := .i64) (a := k_1) (b := 1) rfl rfl rfl) ?_
    refine sq 1 rfl rfl (Y_assign (v := .int .i64 (IntKind.i64.wrap (k_1 + 1))) rfl rfl) ?_
    refine rw_nil ?_
    refine cw_seq ?_
    refine cw_region ?_
    refine sq 19 rfl rfl (Y_move (v := .slice B a.length c) rfl (hf.get 0 0 rfl)) ?_
    refine sq 20 rfl rfl (Y_move (v := .int .i64 (i1 : Int)) rfl (hf.get 5 2 rfl)) ?_
    refine sq 21 rfl rfl (Y_move (v := .int .i64 (IntKind.i64.wrap (k_1 + 1))) rfl rfl) ?_
    refine sq 22 rfl rfl (Y_index (B := B) (m := a.length) (c := c) (k := .i64) (i := (i1 : Int)) k_sl_54_136 k_sz_136_2 rfl rfl rfl (gi_isSome enc_Term_len rfl (hS2.cf (i := 0) rfl) (getI_set (y := (TTerm.mk k_1 x.Coef)) hx)) (getI_nn (getI_set (y := (TTerm.mk k_1 x.Coef)) hx)) (getI_ltI (getI_set (y := (TTerm.mk k_1 x.Coef)) hx) (set_len _ _ _ hl))) ?_
    refine sq 23 rfl rfl (Y_fieldAddr (B := B) (i := (i1 : Int).toNat * 2) (s := 0) k_fd_136_1_1_3 k_sz_3_1 rfl rfl) ?_
    refine ss0 rfl rfl (Ys_store (i := 0) (s := 1) (B := B) (T' := 136) (v := .int .i64 (IntKind.i64.wrap (k_1 + 1))) (vs := [.int .i64 (IntKind.i64.wrap (k_1 + 1))]) (k := (i1 : Int).toNat * 2 + 1) (cs' := (((m1.set (i1 : Int).toNat (TTerm.mk k_1 x.Coef)).set (i1 : Int).toNat (TTerm.mk k_1 (IntKind.i64.wrap (k_1 + 1)))).flatMap enc_Term)) hS2 k_sz_3_1 rfl rfl rfl rfl rfl rfl rfl (gi_fit enc_Term_len (getI_set (y := (TTerm.mk k_1 x.Coef)) hx) (j := 1) (k := 1) (by decide)) (gi_setf enc_Term_len (getI_set (y := (TTerm.mk k_1 x.Coef)) hx) (TTerm.mk k_1 (IntKind.i64.wrap (k_1 + 1))) rfl (Nat.le_of_ble_eq_true rfl)) rfl) ?_
    rintro _ w_1 ⟨rfl, hS3⟩
    refine rw_nil ?_
    refine cw_region ?_
    refine sq 24 rfl rfl (Y_move (v := .int .i64 (IntKind.i64.wrap (k_1 + 1))) rfl rfl) ?_
    refine sq 25 rfl rfl (Y_add (k := .i64) (a := (IntKind.i64.wrap (k_1 + 1))) (b := 1) rfl rfl rfl) ?_
    refine sq 1 rfl rfl (Y_assign (v := .int .i64 (IntKind.i64.wrap ((IntKind.i64.wrap (k_1 + 1)) + 1))) rfl rfl) ?_
    refine rw_nil ?_
    refine cw_region ?_
    refine sq 10 rfl rfl (Y_move (v := .int .i64 (i1 : Int)) rfl (hf.get 5 2 rfl)) ?_
    refine sq 11 rfl rfl (Y_add (k := .i64) (a := (i1 : Int)) (b := 1) rfl rfl rfl) ?_
    refine sq 5 rfl rfl (Y_assign (v := .int .i64 (IntKind.i64.wrap ((i1 : Int) + 1))) rfl rfl) ?_
    refine rw_nil ?_
    obtain rfl := some_inj hb
    exact ⟨k_3, Nat.lt_succ_self _, i1 + 1, ((m1.set (i1 : Int).toNat (TTerm.mk k_1 x.Coef)).set (i1 : Int).toNat (TTerm.mk k_1 (IntKind.i64.wrap (k_1 + 1)))), (IntKind.i64.wrap ((IntKind.i64.wrap (k_1 + 1)) + 1)), (FF.cons (hf.get 0 0 rfl) (FF.cons rfl (FF.cons (congrArg (Value.int .i64) (wr_succ hlt1 hN)) FF.nil))), (set_len _ _ _ (set_len _ _ _ hl)), (hS3.sel [0] rfl rfl), (by omega), hL1⟩
  · skip
    obtain rfl : k_2 = 0 := by have h := of_decide_eq_false hlt; omega
    refine cw_exit rfl ?_
    obtain rfl := some_inj hL
    refine cw_seq ?_
    refine cw_region ?_
    refine sq 26 rfl rfl (Y_move (v := .int .i64 k_1) rfl (hf.get 1 1 rfl)) ?_
    refine sq 4 rfl rfl (Y_assign (v := .int .i64 k_1) rfl rfl) ?_
    refine rw_nil ?_
    refine cw_ret ?_
    obtain ⟨rfl, rfl⟩ := pr2 (some_inj hF1)
    exact ret1 Try.results60 (v1 := .int .i64 k_1) (resAt_tmp rfl) ⟨rfl, hl, (ST.subR (R' := []) (hS1.sel [0] rfl rfl) (fun _ h => by cases h))⟩

theorem c_laws_markAffineS (a : List TAffine) (k_ : Int) (B : Option Addr) (c n : Nat) (w0 : World) (hn : a.length = n) (hS : ST w0 (bl [⟨B, 61, (a.flatMap enc_Affine), c * 2⟩]) w0 [⟨B, 61, (a.flatMap enc_Affine), c * 2⟩] []) {r_ : Int} {m : List TAffine} (hF : F_laws_markAffineS a k_ = some (r_, m)) :
    CV Try.prog 61 #[.slice B n c, .int .i64 k_] w0 (fun v w' => v = .int .i64 r_ ∧ m.length = n ∧ ST w0 (bl [⟨B, 61, (a.flatMap enc_Affine), c * 2⟩]) w' [⟨B, 61, (m.flatMap enc_Affine), c * 2⟩] []) := by
  subst hn
  unfold F_laws_markAffineS at hF
  refine cv_of_cw 27 Try.func61 rfl Try.ntmps61 rfl ?_
  refine cw_seq ?_
  refine cw_region ?_
  refine sq 4 rfl rfl (Y_assign (v := .int .i64 0) rfl rfl) ?_
  refine rw_nil ?_
  refine cw_seq ?_
  refine cw_seq ?_
  refine cw_region ?_
  refine sq 5 rfl rfl (Y_assign (v := .int .i64 0) rfl rfl) ?_
  refine rw_nil ?_
  obtain ⟨hN, hF⟩ := chk_inv hF
  obtain ⟨z, hz, hF1⟩ := bind_inv hF
  refine cw_block ?_
  refine cw_loop (fun k f w => ∃ (i1 : Nat) (m1 : List TAffine) (k_1 : Int), FF f [(0, .slice B a.length c), (1, .int .i64 k_1), (5, .int .i64 (i1 : Int))] ∧ m1.length = a.length ∧ ST w0 (bl [⟨B, 61, (a.flatMap enc_Affine), c * 2⟩]) w [⟨B, 61, (m1.flatMap enc_Affine), c * 2⟩] [] ∧ i1 + k = a.length ∧ forN F_laws_markAffineS_l1 k i1 (m1, k_1) = some z) a.length ⟨0, a, k_, (FF.cons rfl (FF.cons rfl (FF.cons rfl FF.nil))), rfl, (hS.sel [0] rfl rfl), Nat.zero_add _, hz⟩ ?_
  rintro k_2 f w ⟨i1, m1, k_1, hf, hl, hS1, hik, hL⟩
  refine cw_seq ?_
  refine cw_seq ?_
  refine cw_region ?_
  refine sq 6 rfl rfl (Y_move (v := .int .i64 (i1 : Int)) rfl (hf.get 5 2 rfl)) ?_
  refine sq 7 rfl rfl (Y_move (v := .slice B a.length c) rfl (hf.get 0 0 rfl)) ?_
  refine sq 8 rfl rfl (Y_len (B := B) (m := a.length) (c := c) k_sl_55_61 rfl rfl) ?_
  refine sq 9 rfl rfl (Y_lt (k := .i64) (a := (i1 : Int)) (b := (a.length : Int)) rfl rfl rfl) ?_
  refine rw_nil ?_
  refine cw_cond (b := (decide ((i1 : Int) < (a.length : Int)))) rfl (fun hlt => ?_) (fun hlt => ?_)
  · skip
    have hlt1 : i1 < a.length := by have h := of_decide_eq_true hlt; omega
    obtain ⟨k_3, rfl⟩ : ∃ k2, k_2 = k2 + 1 := ⟨k_2 - 1, by omega⟩
    obtain ⟨y, hb, hL1⟩ := forN_go hL
    unfold F_laws_markAffineS_l1 at hb
    refine cw_skip ?_
    refine cw_seq ?_
    refine cw_block ?_
    refine cw_seq ?_
    refine cw_region ?_
    refine sq 12 rfl rfl (Y_move (v := .slice B a.length c) rfl (hf.get 0 0 rfl)) ?_
    refine sq 13 rfl rfl (Y_move (v := .int .i64 (i1 : Int)) rfl (hf.get 5 2 rfl)) ?_
    refine sq 14 rfl rfl (Y_move (v := .int .i64 k_1) rfl (hf.get 1 1 rfl)) ?_
    obtain ⟨x, hx, hb⟩ := bind_inv hb
    refine sq 15 rfl rfl (Y_index (B := B) (m := a.length) (c := c) (k := .i64) (i := (i1 : Int)) k_sl_55_61 k_sz_61_2 rfl rfl rfl (gi_isSome enc_Affine_len rfl (hS1.cf (i := 0) rfl) hx) (getI_nn hx) (getI_ltI hx hl)) ?_
    refine sq 16 rfl rfl (Y_fieldAddr (B := B) (i := (i1 : Int).toNat * 2) (s := 0) k_fd_61_0_0_3 k_sz_3_1 rfl rfl) ?_
    refine ss0 rfl rfl (Ys_store (i := 0) (s := 1) (B := B) (T' := 61) (v := .int .i64 k_1) (vs := [.int .i64 k_1]) (k := (i1 : Int).toNat * 2 + 0) (cs' := ((m1.set (i1 : Int).toNat (TAffine.mk k_1 x.Turn)).flatMap enc_Affine)) hS1 k_sz_3_1 rfl rfl rfl rfl rfl rfl rfl (gi_fit enc_Affine_len hx (j := 0) (k := 1) (by decide)) (gi_setf enc_Affine_len hx (TAffine.mk k_1 x.Turn) rfl (Nat.le_of_ble_eq_true rfl)) rfl) ?_
    rintro _ w_ ⟨rfl, hS2⟩
    refine rw_nil ?_
    refine cw_seq ?_
    refine cw_region ?_
    refine sq 17 rfl rfl (Y_move (v := .int .i64 k_1) rfl (hf.get 1 1 rfl)) ?_
    refine sq 18 rfl rfl (Y_add (k := .i64) (a := k_1) (b := 1) rfl rfl rfl) ?_
    refine sq 1 rfl rfl (Y_assign (v := .int .i64 (IntKind.i64.wrap (k_1 + 1))) rfl rfl) ?_
    refine rw_nil ?_
    refine cw_seq ?_
    refine cw_region ?_
    refine sq 19 rfl rfl (Y_move (v := .slice B a.length c) rfl (hf.get 0 0 rfl)) ?_
    refine sq 20 rfl rfl (Y_move (v := .int .i64 (i1 : Int)) rfl (hf.get 5 2 rfl)) ?_
    refine sq 21 rfl rfl (Y_move (v := .int .i64 (IntKind.i64.wrap (k_1 + 1))) rfl rfl) ?_
    refine sq 22 rfl rfl (Y_index (B := B) (m := a.length) (c := c) (k := .i64) (i := (i1 : Int)) k_sl_55_61 k_sz_61_2 rfl rfl rfl (gi_isSome enc_Affine_len rfl (hS2.cf (i := 0) rfl) (getI_set (y := (TAffine.mk k_1 x.Turn)) hx)) (getI_nn (getI_set (y := (TAffine.mk k_1 x.Turn)) hx)) (getI_ltI (getI_set (y := (TAffine.mk k_1 x.Turn)) hx) (set_len _ _ _ hl))) ?_
    refine sq 23 rfl rfl (Y_fieldAddr (B := B) (i := (i1 : Int).toNat * 2) (s := 0) k_fd_61_1_1_3 k_sz_3_1 rfl rfl) ?_
    refine ss0 rfl rfl (Ys_store (i := 0) (s := 1) (B := B) (T' := 61) (v := .int .i64 (IntKind.i64.wrap (k_1 + 1))) (vs := [.int .i64 (IntKind.i64.wrap (k_1 + 1))]) (k := (i1 : Int).toNat * 2 + 1) (cs' := (((m1.set (i1 : Int).toNat (TAffine.mk k_1 x.Turn)).set (i1 : Int).toNat (TAffine.mk k_1 (IntKind.i64.wrap (k_1 + 1)))).flatMap enc_Affine)) hS2 k_sz_3_1 rfl rfl rfl rfl rfl rfl rfl (gi_fit enc_Affine_len (getI_set (y := (TAffine.mk k_1 x.Turn)) hx) (j := 1) (k := 1) (by decide)) (gi_setf enc_Affine_len (getI_set (y := (TAffine.mk k_1 x.Turn)) hx) (TAffine.mk k_1 (IntKind.i64.wrap (k_1 + 1))) rfl (Nat.le_of_ble_eq_true rfl)) rfl) ?_
    rintro _ w_1 ⟨rfl, hS3⟩
    refine rw_nil ?_
    refine cw_region ?_
    refine sq 24 rfl rfl (Y_move (v := .int .i64 (IntKind.i64.wrap (k_1 + 1))) rfl rfl) ?_
    refine sq 25 rfl rfl (Y_add (k := .i64) (a := (IntKind.i64.wrap (k_1 + 1))) (b := 1) rfl rfl rfl) ?_
    refine sq 1 rfl rfl (Y_assign (v := .int .i64 (IntKind.i64.wrap ((IntKind.i64.wrap (k_1 + 1)) + 1))) rfl rfl) ?_
    refine rw_nil ?_
    refine cw_region ?_
    refine sq 10 rfl rfl (Y_move (v := .int .i64 (i1 : Int)) rfl (hf.get 5 2 rfl)) ?_
    refine sq 11 rfl rfl (Y_add (k := .i64) (a := (i1 : Int)) (b := 1) rfl rfl rfl) ?_
    refine sq 5 rfl rfl (Y_assign (v := .int .i64 (IntKind.i64.wrap ((i1 : Int) + 1))) rfl rfl) ?_
    refine rw_nil ?_
    obtain rfl := some_inj hb
    exact ⟨k_3, Nat.lt_succ_self _, i1 + 1, ((m1.set (i1 : Int).toNat (TAffine.mk k_1 x.Turn)).set (i1 : Int).toNat (TAffine.mk k_1 (IntKind.i64.wrap (k_1 + 1)))), (IntKind.i64.wrap ((IntKind.i64.wrap (k_1 + 1)) + 1)), (FF.cons (hf.get 0 0 rfl) (FF.cons rfl (FF.cons (congrArg (Value.int .i64) (wr_succ hlt1 hN)) FF.nil))), (set_len _ _ _ (set_len _ _ _ hl)), (hS3.sel [0] rfl rfl), (by omega), hL1⟩
  · skip
    obtain rfl : k_2 = 0 := by have h := of_decide_eq_false hlt; omega
    refine cw_exit rfl ?_
    obtain rfl := some_inj hL
    refine cw_seq ?_
    refine cw_region ?_
    refine sq 26 rfl rfl (Y_move (v := .int .i64 k_1) rfl (hf.get 1 1 rfl)) ?_
    refine sq 4 rfl rfl (Y_assign (v := .int .i64 k_1) rfl rfl) ?_
    refine rw_nil ?_
    refine cw_ret ?_
    obtain ⟨rfl, rfl⟩ := pr2 (some_inj hF1)
    exact ret1 Try.results61 (v1 := .int .i64 k_1) (resAt_tmp rfl) ⟨rfl, hl, (ST.subR (R' := []) (hS1.sel [0] rfl rfl) (fun _ h => by cases h))⟩

theorem c_laws_markPathSum (a : TPathSum) (k_ : Int) (B : Option Addr) (c n : Nat) (B1 : Option Addr) (c1 n1 : Nat) (w0 : World) (hn : a.Terms.length = n) (hn1 : a.Out.length = n1) (hS : ST w0 (bl [⟨B, 136, (a.Terms.flatMap enc_Term), c * 2⟩, ⟨B1, 61, (a.Out.flatMap enc_Affine), c1 * 2⟩]) w0 [⟨B, 136, (a.Terms.flatMap enc_Term), c * 2⟩, ⟨B1, 61, (a.Out.flatMap enc_Affine), c1 * 2⟩] []) {r_ : Int} {m : List TTerm} {m1 : List TAffine} (hF : F_laws_markPathSum a k_ = some (r_, m, m1)) :
    CV Try.prog 26 #[.agg #[.int .i64 a.Ins, .int .i64 a.Vars, .int .i64 a.Root, .int .i64 a.Phase, .slice B n c, .slice B1 n1 c1], .int .i64 k_] w0 (fun v w' => v = .int .i64 r_ ∧ m.length = n ∧ m1.length = n1 ∧ ST w0 (bl [⟨B, 136, (a.Terms.flatMap enc_Term), c * 2⟩, ⟨B1, 61, (a.Out.flatMap enc_Affine), c1 * 2⟩]) w' [⟨B, 136, (m.flatMap enc_Term), c * 2⟩, ⟨B1, 61, (m1.flatMap enc_Affine), c1 * 2⟩] []) := by
  subst hn
  subst hn1
  unfold F_laws_markPathSum at hF
  refine cv_of_cw 14 Try.func26 rfl Try.ntmps26 rfl ?_
  refine cw_seq ?_
  refine cw_region ?_
  refine ss 2 rfl rfl (Ys_box (T := 57) (v := .agg #[.int .i64 a.Ins, .int .i64 a.Vars, .int .i64 a.Root, .int .i64 a.Phase, .slice B a.Terms.length c, .slice B1 a.Out.length c1]) (cs := [.int .i64 a.Ins, .int .i64 a.Vars, .int .i64 a.Root, .int .i64 a.Phase, .slice B a.Terms.length c, .slice B1 a.Out.length c1]) (m := 6) hS rfl rfl rfl rfl) ?_
  rintro _ w_ ⟨b, rfl, hS1⟩
  have hS1 : ST w0 (bl [⟨B, 136, (a.Terms.flatMap enc_Term), c * 2⟩, ⟨B1, 61, (a.Out.flatMap enc_Affine), c1 * 2⟩]) _ [⟨B, 136, (a.Terms.flatMap enc_Term), c * 2⟩, ⟨B1, 61, (a.Out.flatMap enc_Affine), c1 * 2⟩, ⟨some ⟨b, 0, none⟩, 57, [.int .i64 a.Ins, .int .i64 a.Vars, .int .i64 a.Root, .int .i64 a.Phase, .slice B a.Terms.length c, .slice B1 a.Out.length c1], 6⟩] [] := hS1
  refine sq 4 rfl rfl (Y_assign (v := .int .i64 0) rfl rfl) ?_
  refine rw_nil ?_
  refine cw_seq ?_
  refine cw_region ?_
  refine sq 5 rfl rfl (Y_fieldAddr (B := some ⟨b, 0, none⟩) (i := 0) (s := 0) k_fd_57_4_4_54 k_sz_54_1 rfl rfl) ?_
  refine sq 6 rfl rfl (Y_load1 (B := some ⟨b, 0, none⟩) (i := 4) (cs := [.int .i64 a.Ins, .int .i64 a.Vars, .int .i64 a.Root, .int .i64 a.Phase, .slice B a.Terms.length c, .slice B1 a.Out.length c1]) (v := .slice B a.Terms.length c) k_sc_54 rfl rfl (hS1.cf (i := 2) rfl) rfl) ?_
  refine sq 7 rfl rfl (Y_move (v := .int .i64 k_) rfl rfl) ?_
  obtain ⟨⟨r_1, m2⟩, hc, hF⟩ := bind_inv hF
  refine sc 8 rfl rfl (Yc_func (g := 60) (vs := [.slice B a.Terms.length c, .int .i64 k_]) k_call_60 rfl (mc rfl (mc rfl mn)) (c_laws_markTermS a.Terms k_ B c a.Terms.length _ rfl (hS1.inn [true, false, false] rfl [] rfl) hc)) ?_
  rintro _ w_1 ⟨rfl, hl, hd⟩
  have hS2 := hS1.out [true, false, false] rfl hd
  have hS2 : ST w0 (bl [⟨B, 136, (a.Terms.flatMap enc_Term), c * 2⟩, ⟨B1, 61, (a.Out.flatMap enc_Affine), c1 * 2⟩]) _ [⟨B1, 61, (a.Out.flatMap enc_Affine), c1 * 2⟩, ⟨some ⟨b, 0, none⟩, 57, [.int .i64 a.Ins, .int .i64 a.Vars, .int .i64 a.Root, .int .i64 a.Phase, .slice B a.Terms.length c, .slice B1 a.Out.length c1], 6⟩, ⟨B, 136, (m2.flatMap enc_Term), c * 2⟩] [] := hS2
  refine sq 1 rfl rfl (Y_assign (v := .int .i64 r_1) rfl rfl) ?_
  refine rw_nil ?_
  refine cw_seq ?_
  refine cw_region ?_
  refine sq 9 rfl rfl (Y_fieldAddr (B := some ⟨b, 0, none⟩) (i := 0) (s := 0) k_fd_57_5_5_55 k_sz_55_1 rfl rfl) ?_
  refine sq 10 rfl rfl (Y_load1 (B := some ⟨b, 0, none⟩) (i := 5) (cs := [.int .i64 a.Ins, .int .i64 a.Vars, .int .i64 a.Root, .int .i64 a.Phase, .slice B a.Terms.length c, .slice B1 a.Out.length c1]) (v := .slice B1 a.Out.length c1) k_sc_55 rfl rfl (hS2.cf (i := 1) rfl) rfl) ?_
  refine sq 11 rfl rfl (Y_move (v := .int .i64 r_1) rfl rfl) ?_
  obtain ⟨⟨r_2, m3⟩, hc1, hF⟩ := bind_inv hF
  refine sc 12 rfl rfl (Yc_func (g := 61) (vs := [.slice B1 a.Out.length c1, .int .i64 r_1]) k_call_61 rfl (mc rfl (mc rfl mn)) (c_laws_markAffineS a.Out r_1 B1 c1 a.Out.length _ rfl (hS2.inn [true, false, false] rfl [] rfl) hc1)) ?_
  rintro _ w_2 ⟨rfl, hl1, hd1⟩
  have hS3 := hS2.out [true, false, false] rfl hd1
  have hS3 : ST w0 (bl [⟨B, 136, (a.Terms.flatMap enc_Term), c * 2⟩, ⟨B1, 61, (a.Out.flatMap enc_Affine), c1 * 2⟩]) _ [⟨some ⟨b, 0, none⟩, 57, [.int .i64 a.Ins, .int .i64 a.Vars, .int .i64 a.Root, .int .i64 a.Phase, .slice B a.Terms.length c, .slice B1 a.Out.length c1], 6⟩, ⟨B, 136, (m2.flatMap enc_Term), c * 2⟩, ⟨B1, 61, (m3.flatMap enc_Affine), c1 * 2⟩] [] := hS3
  refine sq 1 rfl rfl (Y_assign (v := .int .i64 r_2) rfl rfl) ?_
  refine rw_nil ?_
  refine cw_seq ?_
  refine cw_region ?_
  refine sq 13 rfl rfl (Y_move (v := .int .i64 r_2) rfl rfl) ?_
  refine sq 4 rfl rfl (Y_assign (v := .int .i64 r_2) rfl rfl) ?_
  refine rw_nil ?_
  refine cw_ret ?_
  obtain ⟨rfl, rfl, rfl⟩ := pr3 (some_inj hF)
  exact ret1 Try.results26 (v1 := .int .i64 r_2) (resAt_tmp rfl) ⟨rfl, hl, hl1, (ST.subR (R' := []) (hS3.sel [1, 2] rfl rfl) (fun _ h => by cases h))⟩
end Go.VK
