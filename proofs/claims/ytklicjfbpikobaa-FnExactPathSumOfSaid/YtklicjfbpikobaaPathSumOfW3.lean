/- Walks: each Go function returns what its Lean function says. By program. -/
import Derived.Test.YtklicjfbpikobaaPathSumOfFa
import Derived.Test.YtklicjfbpikobaaPathSumOfShelf
import Derived.Test.YtklicjfbpikobaaLibT
import Derived.WalkKit
import Derived.Test.YtklicjfbpikobaaPathSumOfW2
set_option linter.unusedVariables false
set_option maxRecDepth 100000
set_option maxHeartbeats 4000000
namespace Go.VK
open Go.RowKit
open Go.Proofs
attribute [local irreducible] CW RW RA CV Y Yw Yc Ys RetOf
attribute [local irreducible] F_laws_eqGate F_laws_eqGateS F_laws_eqCircuit F_laws_markGateS F_laws_markCircuit F_laws_szGateS F_laws_szCircuit F_laws_toGate F_laws_toGateS F_laws_toCircuit F_laws_eqTerm F_laws_eqTermS F_laws_eqAffine F_laws_eqAffineS F_laws_eqPathSum F_laws_markTermS F_laws_markAffineS F_laws_markPathSum F_laws_heldTermS F_laws_heldAffineS F_laws_heldPathSum F_spec_l1In F_spec_l4Gate F_spec_l4Good F_spec_l21Sum_add F_spec_l1Set F_spec_l21Sum_times F_spec_l21Sum_product F_spec_l21Xor F_spec_l13Coef F_spec_l21Of F_spec_PathSumOf F_impl_within F_slices_IndexFunc_impl_Gate_impl_Gate F_slices_ContainsFunc_impl_Gate_impl_Gate F_impl_isTwo F_impl_IsValidGate F_impl_IsValidCircuit_1 F_impl_IsValidCircuit F_impl_polynomial_add F_impl_bitsOf F_impl_polynomial_expand F_impl_polynomial_product F_impl_rotationCoef F_impl_summer_process F_impl_polynomial_terms F_impl_PathSumOf F_laws_FnExactPathSumOf
theorem c_impl_polynomial_expand (p : List (Int × Int)) (coef : Int) (a : TAffine) (rest_ : Int) (g : Nat) (w0 : World)  (hS : ST w0 (bl [⟨(some ⟨g, 0, none⟩), .mp (mpE (Value.int .i64) (Value.int .i64) p), [], 0⟩]) w0 [⟨(some ⟨g, 0, none⟩), .mp (mpE (Value.int .i64) (Value.int .i64) p), [], 0⟩] []) {m : List (Int × Int)} (hF : F_impl_polynomial_expand p coef a rest_ = some m) :
    CV Try.prog 104 #[.map (some g), .int .i64 coef, .agg #[.int .i64 a.Mask, .int .i64 a.Turn], .int .i64 rest_] w0 (fun v w' => v = .tuple #[] ∧ ST w0 (bl [⟨(some ⟨g, 0, none⟩), .mp (mpE (Value.int .i64) (Value.int .i64) p), [], 0⟩]) w' [⟨(some ⟨g, 0, none⟩), .mp (mpE (Value.int .i64) (Value.int .i64) m), [], 0⟩] []) := by
  unfold F_impl_polynomial_expand at hF
  refine cv_of_cw 80 Try.func104 rfl Try.ntmps104 rfl ?_
  refine cw_seq ?_
  refine cw_region ?_
  refine ss 6 rfl rfl (Ys_box (T := 61) (v := .agg #[.int .i64 a.Mask, .int .i64 a.Turn]) (cs := [.int .i64 a.Mask, .int .i64 a.Turn]) (m := 2) hS rfl rfl rfl rfl) ?_
  rintro _ w_ ⟨b, rfl, hS1⟩
  have hS1 : ST w0 (bl [⟨(some ⟨g, 0, none⟩), .mp (mpE (Value.int .i64) (Value.int .i64) p), [], 0⟩]) _ [⟨(some ⟨g, 0, none⟩), .mp (mpE (Value.int .i64) (Value.int .i64) p), [], 0⟩, ⟨some ⟨b, 0, none⟩, 61, [.int .i64 a.Mask, .int .i64 a.Turn], 2⟩] [] := hS1
  refine rw_nil ?_
  refine cw_seq ?_
  obtain ⟨z, hz, hF1⟩ := bind_inv hF
  refine cw_mid (fun f w => ∃ (m1 : List (Int × Int)) (coef1 : Int), (m1, coef1) = z ∧ FF f [(0, .map (some g)), (1, .int .i64 coef1), (3, .int .i64 rest_), (6, pt (some ⟨b, 0, none⟩) 0)] ∧ ST w0 (bl [⟨(some ⟨g, 0, none⟩), .mp (mpE (Value.int .i64) (Value.int .i64) p), [], 0⟩]) w [⟨(some ⟨g, 0, none⟩), .mp (mpE (Value.int .i64) (Value.int .i64) m1), [], 0⟩, ⟨some ⟨b, 0, none⟩, 61, [.int .i64 a.Mask, .int .i64 a.Turn], 2⟩] []) ?_ ?_
  · skip
    refine cw_seq ?_
    refine cw_region ?_
    refine sq 15 rfl rfl (Y_fieldAddr (B := some ⟨b, 0, none⟩) (i := 0) (s := 0) k_fd_61_1_1_3 k_sz_3_1 rfl rfl) ?_
    refine sq 16 rfl rfl (Y_load1 (B := some ⟨b, 0, none⟩) (i := 1) (cs := [.int .i64 a.Mask, .int .i64 a.Turn]) (v := .int .i64 a.Turn) k_sc_3 rfl rfl (hS1.cf (i := 1) rfl) rfl) ?_
    refine sq 17 rfl rfl (Y_eq (k := .i64) (a := a.Turn) (b := 1) rfl rfl rfl) ?_
    refine rw_nil ?_
    refine cw_cond (b := (a.Turn == 1)) rfl (fun hb => ?_) (fun hb => ?_)
    · skip
      have hF2 := ct hz hb
      refine cw_seq ?_
      refine cw_region ?_
      refine sq 18 rfl rfl (Y_move (v := .map (some g)) rfl rfl) ?_
      refine sq 19 rfl rfl (Y_move (v := .int .i64 rest_) rfl rfl) ?_
      refine sq 20 rfl rfl (Y_move (v := .int .i64 coef) rfl rfl) ?_
      obtain ⟨m2, hc, hF2⟩ := bind_inv hF2
      refine sc 21 rfl rfl (Yc_func (g := 105) (vs := [.map (some g), .int .i64 rest_, .int .i64 coef]) k_call_105 rfl (mc rfl (mc rfl (mc rfl mn))) (c_impl_polynomial_add p rest_ coef g _  (hS1.inn [true, false] rfl [] rfl) hc)) ?_
      rintro _ w_1 ⟨rfl, hd⟩
      have hS3 := hS1.out [true, false] rfl hd
      have hS3 : ST w0 (bl [⟨(some ⟨g, 0, none⟩), .mp (mpE (Value.int .i64) (Value.int .i64) p), [], 0⟩]) _ [⟨some ⟨b, 0, none⟩, 61, [.int .i64 a.Mask, .int .i64 a.Turn], 2⟩, ⟨(some ⟨g, 0, none⟩), .mp (mpE (Value.int .i64) (Value.int .i64) m2), [], 0⟩] [] := hS3
      refine rw_nil ?_
      refine cw_region ?_
      refine sq 22 rfl rfl (Y_move (v := .int .i64 coef) rfl rfl) ?_
      refine sq 23 rfl rfl (Y_neg (k := .i64) (a := coef) rfl rfl) ?_
      refine sq 1 rfl rfl (Y_assign (v := .int .i64 (IntKind.i64.wrap (-coef))) rfl rfl) ?_
      refine rw_nil ?_
      exact ⟨m2, (IntKind.i64.wrap (-coef)), (some_inj hF2), (FF.cons rfl (FF.cons rfl (FF.cons rfl (FF.cons rfl FF.nil)))), (hS3.sel [1, 0] rfl rfl)⟩
    · skip
      have hF3 := cf' hz hb
      refine cw_skip ?_
      exact ⟨p, coef, (some_inj hF3), (FF.cons rfl (FF.cons rfl (FF.cons rfl (FF.cons rfl FF.nil)))), (hS1.sel [0, 1] rfl rfl)⟩
  rintro f w ⟨m1, coef1, rfl, hf, hS2⟩
  refine cw_seq ?_
  refine cw_region ?_
  refine sq 24 rfl rfl (Y_fieldAddr (B := some ⟨b, 0, none⟩) (i := 0) (s := 0) k_fd_61_0_0_3 k_sz_3_1 rfl (hf.get 6 3 rfl)) ?_
  refine sq 25 rfl rfl (Y_load1 (B := some ⟨b, 0, none⟩) (i := 0) (cs := [.int .i64 a.Mask, .int .i64 a.Turn]) (v := .int .i64 a.Mask) k_sc_3 rfl rfl (hS2.cf (i := 1) rfl) rfl) ?_
  obtain ⟨r_, hc1, hF1⟩ := bind_inv hF1
  refine sc 26 rfl rfl (Yc_func (g := 136) (vs := [.int .i64 a.Mask]) k_call_136 rfl (mc rfl mn) (c_impl_bitsOf a.Mask _  (hS2.inn0 [] rfl) hc1)) ?_
  rintro _ w_2 ⟨B, c, rfl, hd1⟩
  have hS4 := hS2.out0 hd1
  have hS4 : ST w0 (bl [⟨(some ⟨g, 0, none⟩), .mp (mpE (Value.int .i64) (Value.int .i64) p), [], 0⟩]) _ [⟨(some ⟨g, 0, none⟩), .mp (mpE (Value.int .i64) (Value.int .i64) m1), [], 0⟩, ⟨some ⟨b, 0, none⟩, 61, [.int .i64 a.Mask, .int .i64 a.Turn], 2⟩, ⟨B, 3, (r_.flatMap encI), c * 1⟩] [] := hS4
  refine sq 8 rfl rfl (Y_assign (v := .slice B r_.length c) rfl rfl) ?_
  refine rw_nil ?_
  refine cw_seq ?_
  refine cw_region ?_
  refine sq 27 rfl rfl (Y_move (v := .slice B r_.length c) rfl rfl) ?_
  refine sq 28 rfl rfl (Y_len (B := B) (m := r_.length) (c := c) k_sl_137_3 rfl rfl) ?_
  refine sq 29 rfl rfl (Y_move (v := .int .i64 0) rfl rfl) ?_
  refine rw_nil ?_
  obtain ⟨hN, hF1⟩ := chk_inv hF1
  obtain ⟨z1, hz1, hF4⟩ := bind_inv hF1
  have ho1 : Org w0 (bl [⟨(some ⟨g, 0, none⟩), .mp (mpE (Value.int .i64) (Value.int .i64) p), [], 0⟩]) [] [⟨B, (r_.flatMap encI)⟩] := ST.orgOwn hS4 (i := 2) rfl
  have hcap : r_.length ≤ c := (hS4.lencap (i := 2) rfl (fm_lenn (l := r_) encI_len rfl) rfl rfl)
  have hS6 : ST w0 (bl [⟨(some ⟨g, 0, none⟩), .mp (mpE (Value.int .i64) (Value.int .i64) p), [], 0⟩]) _ [⟨(some ⟨g, 0, none⟩), .mp (mpE (Value.int .i64) (Value.int .i64) m1), [], 0⟩, ⟨some ⟨b, 0, none⟩, 61, [.int .i64 a.Mask, .int .i64 a.Turn], 2⟩] [⟨B, (r_.flatMap encI)⟩] := hS4.freeze (i := 2) rfl
  refine cw_block ?_
  refine cw_loop (fun k f w => ∃ (i : Nat) (m3 : List (Int × Int)), FF f [(0, .map (some g)), (1, .int .i64 coef1), (3, .int .i64 rest_), (8, .slice B r_.length c), (27, .slice B r_.length c), (28, .int .i64 (r_.length : Int)), (29, .int .i64 (i : Int))] ∧ Org w0 (bl [⟨(some ⟨g, 0, none⟩), .mp (mpE (Value.int .i64) (Value.int .i64) p), [], 0⟩]) [] [⟨B, (r_.flatMap encI)⟩] ∧ r_.length ≤ c ∧ ST w0 (bl [⟨(some ⟨g, 0, none⟩), .mp (mpE (Value.int .i64) (Value.int .i64) p), [], 0⟩]) w [⟨(some ⟨g, 0, none⟩), .mp (mpE (Value.int .i64) (Value.int .i64) m3), [], 0⟩] [⟨B, (r_.flatMap encI)⟩] ∧ i + k = r_.length ∧ forN (F_impl_polynomial_expand_l1 r_ rest_ coef1) k i m3 = some z1) r_.length ⟨0, m1, (FF.cons (hf.get 0 0 rfl) (FF.cons (hf.get 1 1 rfl) (FF.cons (hf.get 3 2 rfl) (FF.cons rfl (FF.cons rfl (FF.cons rfl (FF.cons rfl FF.nil))))))), ho1, (len_le rfl hcap), (hS6.sel [0] rfl rfl), Nat.zero_add _, hz1⟩ ?_
  rintro k_ f w ⟨i, m3, hf1, ho, hq, hS5, hik, hL⟩
  refine cw_seq ?_
  refine cw_region ?_
  refine sq 30 rfl rfl (Y_lt (k := .i64) (a := (i : Int)) (b := (r_.length : Int)) rfl (hf1.get 29 6 rfl) (hf1.get 28 5 rfl)) ?_
  refine rw_nil ?_
  refine cw_seq ?_
  refine cw_cond (b := (decide ((i : Int) < (r_.length : Int)))) rfl (fun hlt => ?_) (fun hlt => ?_)
  · skip
    have hlt1 : i < r_.length := by have h := of_decide_eq_true hlt; omega
    obtain ⟨k_1, rfl⟩ : ∃ k2, k_ = k2 + 1 := ⟨k_ - 1, by omega⟩
    obtain ⟨y, hb1, hL1⟩ := forN_go hL
    unfold F_impl_polynomial_expand_l1 at hb1
    refine cw_skip ?_
    refine cw_seq ?_
    refine cw_block ?_
    refine cw_seq ?_
    refine cw_region ?_
    refine sq 31 rfl rfl (Y_move (v := .int .i64 (i : Int)) rfl (hf1.get 29 6 rfl)) ?_
    obtain ⟨x, hx, hb1⟩ := bind_inv hb1
    refine sq 32 rfl rfl (Y_index (B := B) (m := r_.length) (c := c) (k := .i64) (i := (i : Int)) k_sl_137_3 k_sz_3_1 rfl (hf1.get 27 4 rfl) (hf1.get 29 6 rfl) (gi_isSome encI_len rfl (hS5.rf (i := 0) rfl) hx) (getI_nn hx) (getI_ltI hx rfl)) ?_
    refine sq 33 rfl rfl (Y_load1 (B := B) (i := (i : Int).toNat * 1) (cs := (r_.flatMap encI)) (v := .int .i64 x) k_sc_3 rfl rfl (hS5.rf (i := 0) rfl) (gi_at0 encI_len hx rfl)) ?_
    refine sq 9 rfl rfl (Y_assign (v := .int .i64 (i : Int)) rfl rfl) ?_
    refine sq 10 rfl rfl (Y_assign (v := .int .i64 x) rfl rfl) ?_
    refine rw_nil ?_
    refine cw_seq ?_
    refine cw_region ?_
    refine sq 34 rfl rfl (Y_move (v := .map (some g)) rfl (hf1.get 0 0 rfl)) ?_
    refine sq 35 rfl rfl (Y_move (v := .int .i64 rest_) rfl (hf1.get 3 2 rfl)) ?_
    refine sq 36 rfl rfl (Y_move (v := .int .i64 x) rfl rfl) ?_
    refine sq 37 rfl rfl (Y_bor (k := .i64) (a := rest_) (b := x) rfl rfl rfl) ?_
    refine sq 38 rfl rfl (Y_move (v := .int .i64 coef1) rfl (hf1.get 1 1 rfl)) ?_
    obtain ⟨m4, hc2, hb1⟩ := bind_inv hb1
    refine sc 39 rfl rfl (Yc_func (g := 105) (vs := [.map (some g), .int .i64 (bits .or .i64 rest_ x), .int .i64 coef1]) k_call_105 rfl (mc rfl (mc rfl (mc rfl mn))) (c_impl_polynomial_add m3 (bits .or .i64 rest_ x) coef1 g _  (hS5.inn [true] rfl [] rfl) hc2)) ?_
    rintro _ w_3 ⟨rfl, hd2⟩
    have hS7 := hS5.out [true] rfl hd2
    refine rw_nil ?_
    refine cw_seq ?_
    refine cw_region ?_
    refine sq 40 rfl rfl (Y_move (v := .slice B r_.length c) rfl (hf1.get 8 3 rfl)) ?_
    refine sq 41 rfl rfl (Y_move (v := .int .i64 (i : Int)) rfl rfl) ?_
    obtain ⟨hsl, hb1⟩ := chk_inv hb1
    have hcap1 : r_.length ≤ c := hq
    have hv : (List.take i r_).length = i := (take_len rfl (by omega))
    have hq1 : i ≤ c := by omega
    have ho2 : Org w0 (bl [⟨(some ⟨g, 0, none⟩), .mp (mpE (Value.int .i64) (Value.int .i64) p), [], 0⟩]) [] [⟨B, ((List.take i r_).flatMap encI)⟩] := org_view encI_len (q := c) ho (sv_zero _ _ _).symm rfl
    have hS8 : ST w0 (bl [⟨(some ⟨g, 0, none⟩), .mp (mpE (Value.int .i64) (Value.int .i64) p), [], 0⟩]) _ [⟨(some ⟨g, 0, none⟩), .mp (mpE (Value.int .i64) (Value.int .i64) m4), [], 0⟩] [⟨B, ((List.take i r_).flatMap encI)⟩, ⟨B, (r_.flatMap encI)⟩] := ST.view encI_len hS7 (i := 0) rfl (lo := 0) (h := i) (q := c) (by omega) (by omega) (sv_zero _ _ _).symm rfl
    refine sq 42 rfl rfl (Y_slice0 (B := B) (m := r_.length) (c := c) (h := i) (s := 1) k_sl_137_3 k_sz_3_1 rfl rfl (bnd_some rfl rfl) (by omega)) ?_
    refine sq 43 rfl rfl (Y_len (B := B) (m := i) (c := c) k_sl_137_3 rfl rfl) ?_
    refine sq 44 rfl rfl (Y_move (v := .int .i64 0) rfl rfl) ?_
    refine rw_nil ?_
    obtain ⟨hN1, hb1⟩ := chk_inv hb1
    obtain ⟨z2, hz2, hF5⟩ := bind_inv hb1
    refine cw_block ?_
    refine cw_loop (fun k f w => ∃ (i1 : Nat) (m5 : List (Int × Int)), FF f [(0, .map (some g)), (1, .int .i64 coef1), (3, .int .i64 rest_), (8, .slice B r_.length c), (10, .int .i64 x), (27, .slice B r_.length c), (28, .int .i64 (r_.length : Int)), (29, .int .i64 (i : Int)), (42, .slice B i c), (43, .int .i64 (i : Int)), (44, .int .i64 (i1 : Int))] ∧ ST w0 (bl [⟨(some ⟨g, 0, none⟩), .mp (mpE (Value.int .i64) (Value.int .i64) p), [], 0⟩]) w [⟨(some ⟨g, 0, none⟩), .mp (mpE (Value.int .i64) (Value.int .i64) m5), [], 0⟩] [⟨B, ((List.take i r_).flatMap encI)⟩, ⟨B, (r_.flatMap encI)⟩] ∧ i1 + k = i ∧ forN (F_impl_polynomial_expand_l2 i r_ rest_ x coef1) k i1 m5 = some z2) i ⟨0, m4, (FF.cons (hf1.get 0 0 rfl) (FF.cons (hf1.get 1 1 rfl) (FF.cons (hf1.get 3 2 rfl) (FF.cons (hf1.get 8 3 rfl) (FF.cons rfl (FF.cons (hf1.get 27 4 rfl) (FF.cons (hf1.get 28 5 rfl) (FF.cons (hf1.get 29 6 rfl) (FF.cons rfl (FF.cons rfl (FF.cons rfl FF.nil))))))))))), (hS8.sel [0] rfl rfl), Nat.zero_add _, hz2⟩ ?_
    rintro k_2 f w ⟨i1, m5, hf2, hS9, hik1, hL2⟩
    refine cw_seq ?_
    refine cw_region ?_
    refine sq 45 rfl rfl (Y_lt (k := .i64) (a := (i1 : Int)) (b := (i : Int)) rfl (hf2.get 44 10 rfl) (hf2.get 43 9 rfl)) ?_
    refine rw_nil ?_
    refine cw_seq ?_
    refine cw_cond (b := (decide ((i1 : Int) < (i : Int)))) rfl (fun hlt2 => ?_) (fun hlt2 => ?_)
    · skip
      have hlt3 : i1 < i := by have h := of_decide_eq_true hlt2; omega
      obtain ⟨k_3, rfl⟩ : ∃ k2, k_2 = k2 + 1 := ⟨k_2 - 1, by omega⟩
      obtain ⟨y1, hb2, hL3⟩ := forN_go hL2
      unfold F_impl_polynomial_expand_l2 at hb2
      refine cw_skip ?_
      refine cw_seq ?_
      refine cw_block ?_
      refine cw_seq ?_
      refine cw_region ?_
      refine sq 46 rfl rfl (Y_move (v := .int .i64 (i1 : Int)) rfl (hf2.get 44 10 rfl)) ?_
      obtain ⟨x1, hx1, hb2⟩ := bind_inv hb2
      refine sq 47 rfl rfl (Y_index (B := B) (m := i) (c := c) (k := .i64) (i := (i1 : Int)) k_sl_137_3 k_sz_3_1 rfl (hf2.get 42 8 rfl) (hf2.get 44 10 rfl) (gi_isSome encI_len rfl (hS9.rf (i := 0) rfl) hx1) (getI_nn hx1) (getI_ltI hx1 hv)) ?_
      refine sq 48 rfl rfl (Y_load1 (B := B) (i := (i1 : Int).toNat * 1) (cs := ((List.take i r_).flatMap encI)) (v := .int .i64 x1) k_sc_3 rfl rfl (hS9.rf (i := 0) rfl) (gi_at0 encI_len hx1 rfl)) ?_
      refine sq 11 rfl rfl (Y_assign (v := .int .i64 (i1 : Int)) rfl rfl) ?_
      refine sq 12 rfl rfl (Y_assign (v := .int .i64 x1) rfl rfl) ?_
      refine rw_nil ?_
      refine cw_seq ?_
      refine cw_region ?_
      refine sq 49 rfl rfl (Y_move (v := .map (some g)) rfl (hf2.get 0 0 rfl)) ?_
      refine sq 50 rfl rfl (Y_move (v := .int .i64 rest_) rfl (hf2.get 3 2 rfl)) ?_
      refine sq 51 rfl rfl (Y_move (v := .int .i64 x) rfl (hf2.get 10 4 rfl)) ?_
      refine sq 52 rfl rfl (Y_bor (k := .i64) (a := rest_) (b := x) rfl rfl rfl) ?_
      refine sq 53 rfl rfl (Y_move (v := .int .i64 x1) rfl rfl) ?_
      refine sq 54 rfl rfl (Y_bor (k := .i64) (a := (bits .or .i64 rest_ x)) (b := x1) rfl rfl rfl) ?_
      refine sq 55 rfl rfl (Y_move (v := .int .i64 coef1) rfl (hf2.get 1 1 rfl)) ?_
      refine sq 56 rfl rfl (Y_mul (k := .i64) (a := (-2)) (b := coef1) rfl rfl rfl) ?_
      obtain ⟨m6, hc3, hb2⟩ := bind_inv hb2
      refine sc 57 rfl rfl (Yc_func (g := 105) (vs := [.map (some g), .int .i64 (bits .or .i64 (bits .or .i64 rest_ x) x1), .int .i64 (IntKind.i64.wrap ((-2) * coef1))]) k_call_105 rfl (mc rfl (mc rfl (mc rfl mn))) (c_impl_polynomial_add m5 (bits .or .i64 (bits .or .i64 rest_ x) x1) (IntKind.i64.wrap ((-2) * coef1)) g _  (hS9.inn [true] rfl [] rfl) hc3)) ?_
      rintro _ w_4 ⟨rfl, hd3⟩
      have hS10 := hS9.out [true] rfl hd3
      refine rw_nil ?_
      refine cw_seq ?_
      refine cw_region ?_
      refine sq 58 rfl rfl (Y_move (v := .slice B r_.length c) rfl (hf2.get 8 3 rfl)) ?_
      refine sq 59 rfl rfl (Y_move (v := .int .i64 (i1 : Int)) rfl rfl) ?_
      obtain ⟨hsl1, hb2⟩ := chk_inv hb2
      have hcap2 : r_.length ≤ c := hq
      have hv1 : (List.take i1 r_).length = i1 := (take_len rfl (by omega))
      have hq2 : i1 ≤ c := by omega
      have ho3 : Org w0 (bl [⟨(some ⟨g, 0, none⟩), .mp (mpE (Value.int .i64) (Value.int .i64) p), [], 0⟩]) [] [⟨B, ((List.take i1 r_).flatMap encI)⟩] := org_view encI_len (q := c) ho (sv_zero _ _ _).symm rfl
      have hS11 : ST w0 (bl [⟨(some ⟨g, 0, none⟩), .mp (mpE (Value.int .i64) (Value.int .i64) p), [], 0⟩]) _ [⟨(some ⟨g, 0, none⟩), .mp (mpE (Value.int .i64) (Value.int .i64) m6), [], 0⟩] [⟨B, ((List.take i1 r_).flatMap encI)⟩, ⟨B, ((List.take i r_).flatMap encI)⟩, ⟨B, (r_.flatMap encI)⟩] := ST.view encI_len hS10 (i := 1) rfl (lo := 0) (h := i1) (q := c) (by omega) (by omega) (sv_zero _ _ _).symm rfl
      refine sq 60 rfl rfl (Y_slice0 (B := B) (m := r_.length) (c := c) (h := i1) (s := 1) k_sl_137_3 k_sz_3_1 rfl rfl (bnd_some rfl rfl) (by omega)) ?_
      refine sq 61 rfl rfl (Y_len (B := B) (m := i1) (c := c) k_sl_137_3 rfl rfl) ?_
      refine sq 62 rfl rfl (Y_move (v := .int .i64 0) rfl rfl) ?_
      refine rw_nil ?_
      obtain ⟨hN2, hb2⟩ := chk_inv hb2
      obtain ⟨z3, hz3, hF6⟩ := bind_inv hb2
      refine cw_block ?_
      refine cw_loop (fun k f w => ∃ (i2 : Nat) (m7 : List (Int × Int)), FF f [(0, .map (some g)), (1, .int .i64 coef1), (3, .int .i64 rest_), (8, .slice B r_.length c), (10, .int .i64 x), (12, .int .i64 x1), (27, .slice B r_.length c), (28, .int .i64 (r_.length : Int)), (29, .int .i64 (i : Int)), (42, .slice B i c), (43, .int .i64 (i : Int)), (44, .int .i64 (i1 : Int)), (60, .slice B i1 c), (61, .int .i64 (i1 : Int)), (62, .int .i64 (i2 : Int))] ∧ ST w0 (bl [⟨(some ⟨g, 0, none⟩), .mp (mpE (Value.int .i64) (Value.int .i64) p), [], 0⟩]) w [⟨(some ⟨g, 0, none⟩), .mp (mpE (Value.int .i64) (Value.int .i64) m7), [], 0⟩] [⟨B, ((List.take i1 r_).flatMap encI)⟩, ⟨B, ((List.take i r_).flatMap encI)⟩, ⟨B, (r_.flatMap encI)⟩] ∧ i2 + k = i1 ∧ forN (F_impl_polynomial_expand_l3 i1 r_ rest_ x x1 coef1) k i2 m7 = some z3) i1 ⟨0, m6, (FF.cons (hf2.get 0 0 rfl) (FF.cons (hf2.get 1 1 rfl) (FF.cons (hf2.get 3 2 rfl) (FF.cons (hf2.get 8 3 rfl) (FF.cons (hf2.get 10 4 rfl) (FF.cons rfl (FF.cons (hf2.get 27 5 rfl) (FF.cons (hf2.get 28 6 rfl) (FF.cons (hf2.get 29 7 rfl) (FF.cons (hf2.get 42 8 rfl) (FF.cons (hf2.get 43 9 rfl) (FF.cons (hf2.get 44 10 rfl) (FF.cons rfl (FF.cons rfl (FF.cons rfl FF.nil))))))))))))))), (hS11.sel [0] rfl rfl), Nat.zero_add _, hz3⟩ ?_
      rintro k_4 f w ⟨i2, m7, hf3, hS12, hik2, hL4⟩
      refine cw_seq ?_
      refine cw_region ?_
      refine sq 63 rfl rfl (Y_lt (k := .i64) (a := (i2 : Int)) (b := (i1 : Int)) rfl (hf3.get 62 14 rfl) (hf3.get 61 13 rfl)) ?_
      refine rw_nil ?_
      refine cw_seq ?_
      refine cw_cond (b := (decide ((i2 : Int) < (i1 : Int)))) rfl (fun hlt4 => ?_) (fun hlt4 => ?_)
      · skip
        have hlt5 : i2 < i1 := by have h := of_decide_eq_true hlt4; omega
        obtain ⟨k_5, rfl⟩ : ∃ k2, k_4 = k2 + 1 := ⟨k_4 - 1, by omega⟩
        obtain ⟨y2, hb3, hL5⟩ := forN_go hL4
        unfold F_impl_polynomial_expand_l3 at hb3
        refine cw_skip ?_
        refine cw_seq ?_
        refine cw_block ?_
        refine cw_seq ?_
        refine cw_region ?_
        obtain ⟨x2, hx2, hb3⟩ := bind_inv hb3
        refine sq 64 rfl rfl (Y_index (B := B) (m := i1) (c := c) (k := .i64) (i := (i2 : Int)) k_sl_137_3 k_sz_3_1 rfl (hf3.get 60 12 rfl) (hf3.get 62 14 rfl) (gi_isSome encI_len rfl (hS12.rf (i := 0) rfl) hx2) (getI_nn hx2) (getI_ltI hx2 hv1)) ?_
        refine sq 65 rfl rfl (Y_load1 (B := B) (i := (i2 : Int).toNat * 1) (cs := ((List.take i1 r_).flatMap encI)) (v := .int .i64 x2) k_sc_3 rfl rfl (hS12.rf (i := 0) rfl) (gi_at0 encI_len hx2 rfl)) ?_
        refine sq 14 rfl rfl (Y_assign (v := .int .i64 x2) rfl rfl) ?_
        refine rw_nil ?_
        refine cw_region ?_
        refine sq 66 rfl rfl (Y_move (v := .map (some g)) rfl (hf3.get 0 0 rfl)) ?_
        refine sq 67 rfl rfl (Y_move (v := .int .i64 rest_) rfl (hf3.get 3 2 rfl)) ?_
        refine sq 68 rfl rfl (Y_move (v := .int .i64 x) rfl (hf3.get 10 4 rfl)) ?_
        refine sq 69 rfl rfl (Y_bor (k := .i64) (a := rest_) (b := x) rfl rfl rfl) ?_
        refine sq 70 rfl rfl (Y_move (v := .int .i64 x1) rfl (hf3.get 12 5 rfl)) ?_
        refine sq 71 rfl rfl (Y_bor (k := .i64) (a := (bits .or .i64 rest_ x)) (b := x1) rfl rfl rfl) ?_
        refine sq 72 rfl rfl (Y_move (v := .int .i64 x2) rfl rfl) ?_
        refine sq 73 rfl rfl (Y_bor (k := .i64) (a := (bits .or .i64 (bits .or .i64 rest_ x) x1)) (b := x2) rfl rfl rfl) ?_
        refine sq 74 rfl rfl (Y_move (v := .int .i64 coef1) rfl (hf3.get 1 1 rfl)) ?_
        refine sq 75 rfl rfl (Y_mul (k := .i64) (a := 4) (b := coef1) rfl rfl rfl) ?_
        obtain ⟨m8, hc4, hb3⟩ := bind_inv hb3
        refine sc 76 rfl rfl (Yc_func (g := 105) (vs := [.map (some g), .int .i64 (bits .or .i64 (bits .or .i64 (bits .or .i64 rest_ x) x1) x2), .int .i64 (IntKind.i64.wrap (4 * coef1))]) k_call_105 rfl (mc rfl (mc rfl (mc rfl mn))) (c_impl_polynomial_add m7 (bits .or .i64 (bits .or .i64 (bits .or .i64 rest_ x) x1) x2) (IntKind.i64.wrap (4 * coef1)) g _  (hS12.inn [true] rfl [] rfl) hc4)) ?_
        rintro _ w_5 ⟨rfl, hd4⟩
        have hS13 := hS12.out [true] rfl hd4
        refine rw_nil ?_
        refine cw_region ?_
        refine sq 77 rfl rfl (Y_add (k := .i64) (a := (i2 : Int)) (b := 1) rfl (hf3.get 62 14 rfl) rfl) ?_
        refine sq 62 rfl rfl (Y_move (v := .int .i64 (IntKind.i64.wrap ((i2 : Int) + 1))) rfl rfl) ?_
        refine rw_nil ?_
        obtain rfl := some_inj hb3
        exact ⟨k_5, Nat.lt_succ_self _, i2 + 1, m8, (FF.cons (hf3.get 0 0 rfl) (FF.cons (hf3.get 1 1 rfl) (FF.cons (hf3.get 3 2 rfl) (FF.cons (hf3.get 8 3 rfl) (FF.cons (hf3.get 10 4 rfl) (FF.cons (hf3.get 12 5 rfl) (FF.cons (hf3.get 27 6 rfl) (FF.cons (hf3.get 28 7 rfl) (FF.cons (hf3.get 29 8 rfl) (FF.cons (hf3.get 42 9 rfl) (FF.cons (hf3.get 43 10 rfl) (FF.cons (hf3.get 44 11 rfl) (FF.cons (hf3.get 60 12 rfl) (FF.cons (hf3.get 61 13 rfl) (FF.cons (congrArg (Value.int .i64) (wr_succ hlt5 hN2)) FF.nil))))))))))))))), (hS13.sel [0] rfl rfl), (by omega), hL5⟩
      · skip
        obtain rfl : k_4 = 0 := by have h := of_decide_eq_false hlt4; omega
        refine cw_exit rfl ?_
        obtain rfl := some_inj hL4
        refine cw_region ?_
        refine sq 78 rfl rfl (Y_add (k := .i64) (a := (i1 : Int)) (b := 1) rfl (hf3.get 44 11 rfl) rfl) ?_
        refine sq 44 rfl rfl (Y_move (v := .int .i64 (IntKind.i64.wrap ((i1 : Int) + 1))) rfl rfl) ?_
        refine rw_nil ?_
        obtain rfl := some_inj hF6
        have hS14 : ST w0 (bl [⟨(some ⟨g, 0, none⟩), .mp (mpE (Value.int .i64) (Value.int .i64) p), [], 0⟩]) _ [⟨(some ⟨g, 0, none⟩), .mp (mpE (Value.int .i64) (Value.int .i64) m7), [], 0⟩] [⟨B, ((List.take i r_).flatMap encI)⟩, ⟨B, (r_.flatMap encI)⟩] := ST.subR hS12 (subc (mem_at (i := 1) rfl) (subc (mem_at (i := 2) rfl) (fun _ h => by cases h)))
        exact ⟨k_3, Nat.lt_succ_self _, i1 + 1, m7, (FF.cons (hf3.get 0 0 rfl) (FF.cons (hf3.get 1 1 rfl) (FF.cons (hf3.get 3 2 rfl) (FF.cons (hf3.get 8 3 rfl) (FF.cons (hf3.get 10 4 rfl) (FF.cons (hf3.get 27 6 rfl) (FF.cons (hf3.get 28 7 rfl) (FF.cons (hf3.get 29 8 rfl) (FF.cons (hf3.get 42 9 rfl) (FF.cons (hf3.get 43 10 rfl) (FF.cons (congrArg (Value.int .i64) (wr_succ hlt3 hN1)) FF.nil))))))))))), (hS14.sel [0] rfl rfl), (by omega), hL3⟩
    · skip
      obtain rfl : k_2 = 0 := by have h := of_decide_eq_false hlt2; omega
      refine cw_exit rfl ?_
      obtain rfl := some_inj hL2
      refine cw_region ?_
      refine sq 79 rfl rfl (Y_add (k := .i64) (a := (i : Int)) (b := 1) rfl (hf2.get 29 7 rfl) rfl) ?_
      refine sq 29 rfl rfl (Y_move (v := .int .i64 (IntKind.i64.wrap ((i : Int) + 1))) rfl rfl) ?_
      refine rw_nil ?_
      obtain rfl := some_inj hF5
      have hS15 : ST w0 (bl [⟨(some ⟨g, 0, none⟩), .mp (mpE (Value.int .i64) (Value.int .i64) p), [], 0⟩]) _ [⟨(some ⟨g, 0, none⟩), .mp (mpE (Value.int .i64) (Value.int .i64) m5), [], 0⟩] [⟨B, (r_.flatMap encI)⟩] := ST.subR hS9 (subc (mem_at (i := 1) rfl) (fun _ h => by cases h))
      exact ⟨k_1, Nat.lt_succ_self _, i + 1, m5, (FF.cons (hf2.get 0 0 rfl) (FF.cons (hf2.get 1 1 rfl) (FF.cons (hf2.get 3 2 rfl) (FF.cons (hf2.get 8 3 rfl) (FF.cons (hf2.get 27 5 rfl) (FF.cons (hf2.get 28 6 rfl) (FF.cons (congrArg (Value.int .i64) (wr_succ hlt1 hN)) FF.nil))))))), ho, (len_le rfl hq), (hS15.sel [0] rfl rfl), (by omega), hL1⟩
  · skip
    obtain rfl : k_ = 0 := by have h := of_decide_eq_false hlt; omega
    refine cw_exit rfl ?_
    obtain rfl := some_inj hL
    obtain rfl := some_inj hF4
    exact ret0 Try.results104  ⟨rfl, (ST.subR (R' := []) (hS5.sel [0] rfl rfl) (fun _ h => by cases h))⟩

theorem c_impl_polynomial_product (p : List (Int × Int)) (a : TAffine) (b : TAffine) (g : Nat) (w0 : World)  (hS : ST w0 (bl [⟨(some ⟨g, 0, none⟩), .mp (mpE (Value.int .i64) (Value.int .i64) p), [], 0⟩]) w0 [⟨(some ⟨g, 0, none⟩), .mp (mpE (Value.int .i64) (Value.int .i64) p), [], 0⟩] []) {m : List (Int × Int)} (hF : F_impl_polynomial_product p a b = some m) :
    CV Try.prog 117 #[.map (some g), .agg #[.int .i64 a.Mask, .int .i64 a.Turn], .agg #[.int .i64 b.Mask, .int .i64 b.Turn]] w0 (fun v w' => v = .tuple #[] ∧ ST w0 (bl [⟨(some ⟨g, 0, none⟩), .mp (mpE (Value.int .i64) (Value.int .i64) p), [], 0⟩]) w' [⟨(some ⟨g, 0, none⟩), .mp (mpE (Value.int .i64) (Value.int .i64) m), [], 0⟩] []) := by
  unfold F_impl_polynomial_product at hF
  refine cv_of_cw 49 Try.func117 rfl Try.ntmps117 rfl ?_
  refine cw_seq ?_
  refine cw_region ?_
  refine ss 4 rfl rfl (Ys_box (T := 61) (v := .agg #[.int .i64 a.Mask, .int .i64 a.Turn]) (cs := [.int .i64 a.Mask, .int .i64 a.Turn]) (m := 2) hS rfl rfl rfl rfl) ?_
  rintro _ w_ ⟨b1, rfl, hS1⟩
  have hS1 : ST w0 (bl [⟨(some ⟨g, 0, none⟩), .mp (mpE (Value.int .i64) (Value.int .i64) p), [], 0⟩]) _ [⟨(some ⟨g, 0, none⟩), .mp (mpE (Value.int .i64) (Value.int .i64) p), [], 0⟩, ⟨some ⟨b1, 0, none⟩, 61, [.int .i64 a.Mask, .int .i64 a.Turn], 2⟩] [] := hS1
  refine ss 5 rfl rfl (Ys_box (T := 61) (v := .agg #[.int .i64 b.Mask, .int .i64 b.Turn]) (cs := [.int .i64 b.Mask, .int .i64 b.Turn]) (m := 2) hS1 rfl rfl rfl rfl) ?_
  rintro _ w_1 ⟨b2, rfl, hS2⟩
  have hS2 : ST w0 (bl [⟨(some ⟨g, 0, none⟩), .mp (mpE (Value.int .i64) (Value.int .i64) p), [], 0⟩]) _ [⟨(some ⟨g, 0, none⟩), .mp (mpE (Value.int .i64) (Value.int .i64) p), [], 0⟩, ⟨some ⟨b1, 0, none⟩, 61, [.int .i64 a.Mask, .int .i64 a.Turn], 2⟩, ⟨some ⟨b2, 0, none⟩, 61, [.int .i64 b.Mask, .int .i64 b.Turn], 2⟩] [] := hS2
  refine rw_nil ?_
  refine cw_seq ?_
  obtain ⟨r_, hc, hF⟩ := bind_inv hF
  obtain ⟨r_1, hc1, hF⟩ := bind_inv hF
  refine ra_start (ST.sel hS2 [0, 1, 2] rfl rfl).fn (by kernel_rfl) ?_
  have hS5 := hS2.drew
  refine ra_q 0 12 (v := pt (some ⟨b1, 0, none⟩) 0) rfl rfl rfl (by kernel_rfl) (by kernel_rfl) (by kernel_rfl) (ST.sel hS5 [0, 1, 2] rfl rfl) (fun w' hw' => (Y_fieldAddr (B := some ⟨b1, 0, none⟩) (i := 0) (s := 0) k_fd_61_0_0_3 k_sz_3_1 rfl rfl)) ?_
  refine ra_q 1 13 (v := .int .i64 a.Mask) rfl rfl rfl (by kernel_rfl) (by kernel_rfl) (by kernel_rfl) (ST.sel hS5 [0, 1, 2] rfl rfl) (fun w' hw' => (Y_load1 (B := some ⟨b1, 0, none⟩) (i := 0) (cs := [.int .i64 a.Mask, .int .i64 a.Turn]) (v := .int .i64 a.Mask) k_sc_3 rfl rfl (ST.cf hw' (i := 1) rfl) rfl)) ?_
  refine ra_q 3 15 (v := pt (some ⟨b2, 0, none⟩) 0) rfl rfl rfl (by kernel_rfl) (by kernel_rfl) (by kernel_rfl) (ST.sel hS5 [0, 1, 2] rfl rfl) (fun w' hw' => (Y_fieldAddr (B := some ⟨b2, 0, none⟩) (i := 0) (s := 0) k_fd_61_0_0_3 k_sz_3_1 rfl rfl)) ?_
  refine ra_q 4 16 (v := .int .i64 b.Mask) rfl rfl rfl (by kernel_rfl) (by kernel_rfl) (by kernel_rfl) (ST.sel hS5 [0, 1, 2] rfl rfl) (fun w' hw' => (Y_load1 (B := some ⟨b2, 0, none⟩) (i := 0) (cs := [.int .i64 b.Mask, .int .i64 b.Turn]) (v := .int .i64 b.Mask) k_sc_3 rfl rfl (ST.cf hw' (i := 2) rfl) rfl)) ?_
  refine ra_all (rs := [2]) (by kernel_rfl) rfl ?_
  refine ra_c 14 (i := 2) rfl rfl rfl (Yc_func (g := 136) (vs := [.int .i64 a.Mask]) k_call_136 rfl (mc rfl mn) (c_impl_bitsOf a.Mask _  (hS5.inn0 [] rfl) hc)) ?_ ?_
  · rintro _ w_2 ⟨B, c, rfl, hd⟩
    have hS6 := hS5.out0 hd
    have hS6 : ST w0 (bl [⟨(some ⟨g, 0, none⟩), .mp (mpE (Value.int .i64) (Value.int .i64) p), [], 0⟩]) _ [⟨(some ⟨g, 0, none⟩), .mp (mpE (Value.int .i64) (Value.int .i64) p), [], 0⟩, ⟨some ⟨b1, 0, none⟩, 61, [.int .i64 a.Mask, .int .i64 a.Turn], 2⟩, ⟨some ⟨b2, 0, none⟩, 61, [.int .i64 b.Mask, .int .i64 b.Turn], 2⟩, ⟨B, 3, (r_.flatMap encI), c * 1⟩] [] := hS6
    refine ⟨(ST.sel hS6 [0, 1, 2] rfl rfl), ?_⟩
    refine ra_all (rs := [5]) (by kernel_rfl) rfl ?_
    refine ra_c 17 (i := 5) rfl rfl rfl (Yc_func (g := 136) (vs := [.int .i64 b.Mask]) k_call_136 rfl (mc rfl mn) (c_impl_bitsOf b.Mask _  (hS6.inn0 [] rfl) hc1)) ?_ ?_
    · rintro _ w_3 ⟨B1, c1, rfl, hd1⟩
      have hS7 := hS6.out0 hd1
      have hS7 : ST w0 (bl [⟨(some ⟨g, 0, none⟩), .mp (mpE (Value.int .i64) (Value.int .i64) p), [], 0⟩]) _ [⟨(some ⟨g, 0, none⟩), .mp (mpE (Value.int .i64) (Value.int .i64) p), [], 0⟩, ⟨some ⟨b1, 0, none⟩, 61, [.int .i64 a.Mask, .int .i64 a.Turn], 2⟩, ⟨some ⟨b2, 0, none⟩, 61, [.int .i64 b.Mask, .int .i64 b.Turn], 2⟩, ⟨B, 3, (r_.flatMap encI), c * 1⟩, ⟨B1, 3, (r_1.flatMap encI), c1 * 1⟩] [] := hS7
      refine ⟨(ST.sel hS7 [0, 1, 2] rfl rfl), ?_⟩
      refine ra_q 6 6 (v := .slice B r_.length c) rfl rfl rfl (by kernel_rfl) (by kernel_rfl) (by kernel_rfl) (ST.sel hS7 [0, 1, 2] rfl rfl) (fun w' hw' => (Y_assign (v := .slice B r_.length c) rfl rfl)) ?_
      refine ra_q 7 7 (v := .slice B1 r_1.length c1) rfl rfl rfl (by kernel_rfl) (by kernel_rfl) (by kernel_rfl) (ST.sel hS7 [0, 1, 2] rfl rfl) (fun w' hw' => (Y_assign (v := .slice B1 r_1.length c1) rfl rfl)) ?_
      refine ra_done (by kernel_rfl) ?_
      refine cw_seq ?_
      obtain ⟨z, hz, hF1⟩ := bind_inv hF
      refine cw_mid (fun f w => ∃ (one_ : List Int) (B2 : Option Addr) (c2 : Nat), one_ = z ∧ FF f [(0, .map (some g)), (5, pt (some ⟨b2, 0, none⟩) 0), (6, .slice B2 one_.length c2), (7, .slice B1 r_1.length c1)] ∧ ST w0 (bl [⟨(some ⟨g, 0, none⟩), .mp (mpE (Value.int .i64) (Value.int .i64) p), [], 0⟩]) w [⟨(some ⟨g, 0, none⟩), .mp (mpE (Value.int .i64) (Value.int .i64) p), [], 0⟩, ⟨some ⟨b2, 0, none⟩, 61, [.int .i64 b.Mask, .int .i64 b.Turn], 2⟩, ⟨B2, 3, (one_.flatMap encI), c2 * 1⟩, ⟨B1, 3, (r_1.flatMap encI), c1 * 1⟩] []) ?_ ?_
      · skip
        refine cw_seq ?_
        refine cw_region ?_
        refine sq 18 rfl rfl (Y_fieldAddr (B := some ⟨b1, 0, none⟩) (i := 0) (s := 0) k_fd_61_1_1_3 k_sz_3_1 rfl rfl) ?_
        refine sq 19 rfl rfl (Y_load1 (B := some ⟨b1, 0, none⟩) (i := 1) (cs := [.int .i64 a.Mask, .int .i64 a.Turn]) (v := .int .i64 a.Turn) k_sc_3 rfl rfl (hS7.cf (i := 1) rfl) rfl) ?_
        refine sq 20 rfl rfl (Y_eq (k := .i64) (a := a.Turn) (b := 1) rfl rfl rfl) ?_
        refine rw_nil ?_
        refine cw_cond (b := (a.Turn == 1)) rfl (fun hb => ?_) (fun hb => ?_)
        · skip
          have hF2 := ct hz hb
          refine cw_region ?_
          refine sq 21 rfl rfl (Y_move (v := .slice B r_.length c) rfl rfl) ?_
          refine ss 22 rfl rfl (Ys_bslice (s := 1) (len := 1) (vs := [(0, .int .i64 0)]) (cs := [.int .i64 0]) (zs := [.int .i64 0]) (m := 1) hS7 k_sl_137_3 k_sz_3_1 k_zc_3 rfl (mpc rfl mpn) rfl rfl rfl (by kernel_rfl) (by kernel_rfl) rfl) ?_
          rintro _ w_4 ⟨b3, rfl, hS9⟩
          have hS9 : ST w0 (bl [⟨(some ⟨g, 0, none⟩), .mp (mpE (Value.int .i64) (Value.int .i64) p), [], 0⟩]) _ [⟨(some ⟨g, 0, none⟩), .mp (mpE (Value.int .i64) (Value.int .i64) p), [], 0⟩, ⟨some ⟨b1, 0, none⟩, 61, [.int .i64 a.Mask, .int .i64 a.Turn], 2⟩, ⟨some ⟨b2, 0, none⟩, 61, [.int .i64 b.Mask, .int .i64 b.Turn], 2⟩, ⟨B, 3, (r_.flatMap encI), c * 1⟩, ⟨B1, 3, (r_1.flatMap encI), c1 * 1⟩, ⟨some ⟨b3, 0, none⟩, 3, ([0].flatMap encI), 1 * 1⟩] [] := hS9
          obtain ⟨hap, hF2⟩ := chk_inv hF2
          refine ss 23 rfl rfl (Ys_append (s := 1) (by' := 8) (i := 3) (nn := r_.length) (c := c) (k := 1) (len := (r_ ++ [0]).length) (B := B) (xs := ([0].flatMap encI)) (cs' := ((r_ ++ [0]).flatMap encI)) hS9 k_sl_137_3 k_sz_3_1 k_by_3_8 k_zero_3 rfl (by decide) rfl rfl rfl rfl (fm_lenn (l := r_) encI_len rfl) rfl (hS9.cf (i := 5) rfl) (fm_lenn (l := [0]) encI_len rfl) (fm_one' (enc := encI) encI_one [0]) (by have := hap; omega) (by have := hap; simp only [maxLen]; omega) (fm_app _ _) (app_len (l := r_) (l' := [0]) rfl rfl)) ?_
          rintro _ w_5 ⟨B3, c3, rfl, hS10⟩
          have hS10 : ST w0 (bl [⟨(some ⟨g, 0, none⟩), .mp (mpE (Value.int .i64) (Value.int .i64) p), [], 0⟩]) _ [⟨(some ⟨g, 0, none⟩), .mp (mpE (Value.int .i64) (Value.int .i64) p), [], 0⟩, ⟨some ⟨b1, 0, none⟩, 61, [.int .i64 a.Mask, .int .i64 a.Turn], 2⟩, ⟨some ⟨b2, 0, none⟩, 61, [.int .i64 b.Mask, .int .i64 b.Turn], 2⟩, ⟨B3, 3, ((r_ ++ [0]).flatMap encI), c3 * 1⟩, ⟨B1, 3, (r_1.flatMap encI), c1 * 1⟩, ⟨some ⟨b3, 0, none⟩, 3, ([0].flatMap encI), 1 * 1⟩] [] := hS10
          refine sq 6 rfl rfl (Y_assign (v := .slice B3 ((r_ ++ [0]).length) c3) rfl rfl) ?_
          refine rw_nil ?_
          exact ⟨(r_ ++ [0]), B3, c3, (some_inj hF2), (FF.cons rfl (FF.cons rfl (FF.cons rfl (FF.cons rfl FF.nil)))), (hS10.sel [0, 2, 3, 4] rfl rfl)⟩
        · skip
          have hF3 := cf' hz hb
          refine cw_skip ?_
          exact ⟨r_, B, c, (some_inj hF3), (FF.cons rfl (FF.cons rfl (FF.cons rfl (FF.cons rfl FF.nil)))), (hS7.sel [0, 2, 3, 4] rfl rfl)⟩
      rintro f w ⟨one_, B2, c2, rfl, hf, hS8⟩
      refine cw_seq ?_
      obtain ⟨z1, hz1, hF4⟩ := bind_inv hF1
      refine cw_mid (fun f w => ∃ (two : List Int) (B4 : Option Addr) (c4 : Nat), two = z1 ∧ FF f [(0, .map (some g)), (6, .slice B2 one_.length c2), (7, .slice B4 two.length c4)] ∧ ST w0 (bl [⟨(some ⟨g, 0, none⟩), .mp (mpE (Value.int .i64) (Value.int .i64) p), [], 0⟩]) w [⟨(some ⟨g, 0, none⟩), .mp (mpE (Value.int .i64) (Value.int .i64) p), [], 0⟩, ⟨B2, 3, (one_.flatMap encI), c2 * 1⟩, ⟨B4, 3, (two.flatMap encI), c4 * 1⟩] []) ?_ ?_
      · skip
        refine cw_seq ?_
        refine cw_region ?_
        refine sq 24 rfl rfl (Y_fieldAddr (B := some ⟨b2, 0, none⟩) (i := 0) (s := 0) k_fd_61_1_1_3 k_sz_3_1 rfl (hf.get 5 1 rfl)) ?_
        refine sq 25 rfl rfl (Y_load1 (B := some ⟨b2, 0, none⟩) (i := 1) (cs := [.int .i64 b.Mask, .int .i64 b.Turn]) (v := .int .i64 b.Turn) k_sc_3 rfl rfl (hS8.cf (i := 1) rfl) rfl) ?_
        refine sq 26 rfl rfl (Y_eq (k := .i64) (a := b.Turn) (b := 1) rfl rfl rfl) ?_
        refine rw_nil ?_
        refine cw_cond (b := (b.Turn == 1)) rfl (fun hb1 => ?_) (fun hb1 => ?_)
        · skip
          have hF5 := ct hz1 hb1
          refine cw_region ?_
          refine sq 27 rfl rfl (Y_move (v := .slice B1 r_1.length c1) rfl (hf.get 7 3 rfl)) ?_
          refine ss 28 rfl rfl (Ys_bslice (s := 1) (len := 1) (vs := [(0, .int .i64 0)]) (cs := [.int .i64 0]) (zs := [.int .i64 0]) (m := 1) hS8 k_sl_137_3 k_sz_3_1 k_zc_3 rfl (mpc rfl mpn) rfl rfl rfl (by kernel_rfl) (by kernel_rfl) rfl) ?_
          rintro _ w_6 ⟨b4, rfl, hS12⟩
          have hS12 : ST w0 (bl [⟨(some ⟨g, 0, none⟩), .mp (mpE (Value.int .i64) (Value.int .i64) p), [], 0⟩]) _ [⟨(some ⟨g, 0, none⟩), .mp (mpE (Value.int .i64) (Value.int .i64) p), [], 0⟩, ⟨some ⟨b2, 0, none⟩, 61, [.int .i64 b.Mask, .int .i64 b.Turn], 2⟩, ⟨B2, 3, (one_.flatMap encI), c2 * 1⟩, ⟨B1, 3, (r_1.flatMap encI), c1 * 1⟩, ⟨some ⟨b4, 0, none⟩, 3, ([0].flatMap encI), 1 * 1⟩] [] := hS12
          obtain ⟨hap1, hF5⟩ := chk_inv hF5
          refine ss 29 rfl rfl (Ys_append (s := 1) (by' := 8) (i := 3) (nn := r_1.length) (c := c1) (k := 1) (len := (r_1 ++ [0]).length) (B := B1) (xs := ([0].flatMap encI)) (cs' := ((r_1 ++ [0]).flatMap encI)) hS12 k_sl_137_3 k_sz_3_1 k_by_3_8 k_zero_3 rfl (by decide) rfl rfl rfl rfl (fm_lenn (l := r_1) encI_len rfl) rfl (hS12.cf (i := 4) rfl) (fm_lenn (l := [0]) encI_len rfl) (fm_one' (enc := encI) encI_one [0]) (by have := hap1; omega) (by have := hap1; simp only [maxLen]; omega) (fm_app _ _) (app_len (l := r_1) (l' := [0]) rfl rfl)) ?_
          rintro _ w_7 ⟨B5, c5, rfl, hS13⟩
          have hS13 : ST w0 (bl [⟨(some ⟨g, 0, none⟩), .mp (mpE (Value.int .i64) (Value.int .i64) p), [], 0⟩]) _ [⟨(some ⟨g, 0, none⟩), .mp (mpE (Value.int .i64) (Value.int .i64) p), [], 0⟩, ⟨some ⟨b2, 0, none⟩, 61, [.int .i64 b.Mask, .int .i64 b.Turn], 2⟩, ⟨B2, 3, (one_.flatMap encI), c2 * 1⟩, ⟨B5, 3, ((r_1 ++ [0]).flatMap encI), c5 * 1⟩, ⟨some ⟨b4, 0, none⟩, 3, ([0].flatMap encI), 1 * 1⟩] [] := hS13
          refine sq 7 rfl rfl (Y_assign (v := .slice B5 ((r_1 ++ [0]).length) c5) rfl rfl) ?_
          refine rw_nil ?_
          exact ⟨(r_1 ++ [0]), B5, c5, (some_inj hF5), (FF.cons (hf.get 0 0 rfl) (FF.cons (hf.get 6 2 rfl) (FF.cons rfl FF.nil))), (hS13.sel [0, 2, 3] rfl rfl)⟩
        · skip
          have hF6 := cf' hz1 hb1
          refine cw_skip ?_
          exact ⟨r_1, B1, c1, (some_inj hF6), (FF.cons (hf.get 0 0 rfl) (FF.cons (hf.get 6 2 rfl) (FF.cons (hf.get 7 3 rfl) FF.nil))), (hS8.sel [0, 2, 3] rfl rfl)⟩
      rintro f w ⟨two, B4, c4, rfl, hf1, hS11⟩
      refine cw_seq ?_
      refine cw_region ?_
      refine sq 30 rfl rfl (Y_move (v := .slice B2 one_.length c2) rfl (hf1.get 6 1 rfl)) ?_
      refine sq 31 rfl rfl (Y_len (B := B2) (m := one_.length) (c := c2) k_sl_137_3 rfl rfl) ?_
      refine sq 32 rfl rfl (Y_move (v := .int .i64 0) rfl rfl) ?_
      refine rw_nil ?_
      obtain ⟨hN, hF4⟩ := chk_inv hF4
      obtain ⟨z2, hz2, hF7⟩ := bind_inv hF4
      refine cw_block ?_
      refine cw_loop (fun k f w => ∃ (i : Nat) (m1 : List (Int × Int)), FF f [(0, .map (some g)), (7, .slice B4 two.length c4), (30, .slice B2 one_.length c2), (31, .int .i64 (one_.length : Int)), (32, .int .i64 (i : Int))] ∧ ST w0 (bl [⟨(some ⟨g, 0, none⟩), .mp (mpE (Value.int .i64) (Value.int .i64) p), [], 0⟩]) w [⟨(some ⟨g, 0, none⟩), .mp (mpE (Value.int .i64) (Value.int .i64) m1), [], 0⟩, ⟨B4, 3, (two.flatMap encI), c4 * 1⟩, ⟨B2, 3, (one_.flatMap encI), c2 * 1⟩] [] ∧ i + k = one_.length ∧ forN (F_impl_polynomial_product_l1 one_ two) k i m1 = some z2) one_.length ⟨0, p, (FF.cons (hf1.get 0 0 rfl) (FF.cons (hf1.get 7 2 rfl) (FF.cons rfl (FF.cons rfl (FF.cons rfl FF.nil))))), (hS11.sel [0, 2, 1] rfl rfl), Nat.zero_add _, hz2⟩ ?_
      rintro k_ f w ⟨i, m1, hf2, hS14, hik, hL⟩
      refine cw_seq ?_
      refine cw_region ?_
      refine sq 33 rfl rfl (Y_lt (k := .i64) (a := (i : Int)) (b := (one_.length : Int)) rfl (hf2.get 32 4 rfl) (hf2.get 31 3 rfl)) ?_
      refine rw_nil ?_
      refine cw_seq ?_
      refine cw_cond (b := (decide ((i : Int) < (one_.length : Int)))) rfl (fun hlt => ?_) (fun hlt => ?_)
      · skip
        have hlt1 : i < one_.length := by have h := of_decide_eq_true hlt; omega
        obtain ⟨k_1, rfl⟩ : ∃ k2, k_ = k2 + 1 := ⟨k_ - 1, by omega⟩
        obtain ⟨y, hb2, hL1⟩ := forN_go hL
        unfold F_impl_polynomial_product_l1 at hb2
        refine cw_skip ?_
        refine cw_seq ?_
        refine cw_block ?_
        refine cw_seq ?_
        refine cw_region ?_
        obtain ⟨x, hx, hb2⟩ := bind_inv hb2
        refine sq 34 rfl rfl (Y_index (B := B2) (m := one_.length) (c := c2) (k := .i64) (i := (i : Int)) k_sl_137_3 k_sz_3_1 rfl (hf2.get 30 2 rfl) (hf2.get 32 4 rfl) (gi_isSome encI_len rfl (hS14.cf (i := 2) rfl) hx) (getI_nn hx) (getI_ltI hx rfl)) ?_
        refine sq 35 rfl rfl (Y_load1 (B := B2) (i := (i : Int).toNat * 1) (cs := (one_.flatMap encI)) (v := .int .i64 x) k_sc_3 rfl rfl (hS14.cf (i := 2) rfl) (gi_at0 encI_len hx rfl)) ?_
        refine sq 9 rfl rfl (Y_assign (v := .int .i64 x) rfl rfl) ?_
        refine rw_nil ?_
        refine cw_seq ?_
        refine cw_region ?_
        refine sq 36 rfl rfl (Y_move (v := .slice B4 two.length c4) rfl (hf2.get 7 1 rfl)) ?_
        refine sq 37 rfl rfl (Y_len (B := B4) (m := two.length) (c := c4) k_sl_137_3 rfl rfl) ?_
        refine sq 38 rfl rfl (Y_move (v := .int .i64 0) rfl rfl) ?_
        refine rw_nil ?_
        obtain ⟨hN1, hb2⟩ := chk_inv hb2
        obtain ⟨z3, hz3, hF8⟩ := bind_inv hb2
        refine cw_block ?_
        refine cw_loop (fun k f w => ∃ (i1 : Nat) (m2 : List (Int × Int)), FF f [(0, .map (some g)), (7, .slice B4 two.length c4), (9, .int .i64 x), (30, .slice B2 one_.length c2), (31, .int .i64 (one_.length : Int)), (32, .int .i64 (i : Int)), (36, .slice B4 two.length c4), (37, .int .i64 (two.length : Int)), (38, .int .i64 (i1 : Int))] ∧ ST w0 (bl [⟨(some ⟨g, 0, none⟩), .mp (mpE (Value.int .i64) (Value.int .i64) p), [], 0⟩]) w [⟨(some ⟨g, 0, none⟩), .mp (mpE (Value.int .i64) (Value.int .i64) m2), [], 0⟩, ⟨B4, 3, (two.flatMap encI), c4 * 1⟩, ⟨B2, 3, (one_.flatMap encI), c2 * 1⟩] [] ∧ i1 + k = two.length ∧ forN (F_impl_polynomial_product_l2 two x) k i1 m2 = some z3) two.length ⟨0, m1, (FF.cons (hf2.get 0 0 rfl) (FF.cons (hf2.get 7 1 rfl) (FF.cons rfl (FF.cons (hf2.get 30 2 rfl) (FF.cons (hf2.get 31 3 rfl) (FF.cons (hf2.get 32 4 rfl) (FF.cons rfl (FF.cons rfl (FF.cons rfl FF.nil))))))))), (hS14.sel [0, 1, 2] rfl rfl), Nat.zero_add _, hz3⟩ ?_
        rintro k_2 f w ⟨i1, m2, hf3, hS15, hik1, hL2⟩
        refine cw_seq ?_
        refine cw_region ?_
        refine sq 39 rfl rfl (Y_lt (k := .i64) (a := (i1 : Int)) (b := (two.length : Int)) rfl (hf3.get 38 8 rfl) (hf3.get 37 7 rfl)) ?_
        refine rw_nil ?_
        refine cw_seq ?_
        refine cw_cond (b := (decide ((i1 : Int) < (two.length : Int)))) rfl (fun hlt2 => ?_) (fun hlt2 => ?_)
        · skip
          have hlt3 : i1 < two.length := by have h := of_decide_eq_true hlt2; omega
          obtain ⟨k_3, rfl⟩ : ∃ k2, k_2 = k2 + 1 := ⟨k_2 - 1, by omega⟩
          obtain ⟨y1, hb3, hL3⟩ := forN_go hL2
          unfold F_impl_polynomial_product_l2 at hb3
          refine cw_skip ?_
          refine cw_seq ?_
          refine cw_block ?_
          refine cw_seq ?_
          refine cw_region ?_
          obtain ⟨x1, hx1, hb3⟩ := bind_inv hb3
          refine sq 40 rfl rfl (Y_index (B := B4) (m := two.length) (c := c4) (k := .i64) (i := (i1 : Int)) k_sl_137_3 k_sz_3_1 rfl (hf3.get 36 6 rfl) (hf3.get 38 8 rfl) (gi_isSome encI_len rfl (hS15.cf (i := 1) rfl) hx1) (getI_nn hx1) (getI_ltI hx1 rfl)) ?_
          refine sq 41 rfl rfl (Y_load1 (B := B4) (i := (i1 : Int).toNat * 1) (cs := (two.flatMap encI)) (v := .int .i64 x1) k_sc_3 rfl rfl (hS15.cf (i := 1) rfl) (gi_at0 encI_len hx1 rfl)) ?_
          refine sq 11 rfl rfl (Y_assign (v := .int .i64 x1) rfl rfl) ?_
          refine rw_nil ?_
          refine cw_region ?_
          refine sq 42 rfl rfl (Y_move (v := .map (some g)) rfl (hf3.get 0 0 rfl)) ?_
          refine sq 43 rfl rfl (Y_move (v := .int .i64 x) rfl (hf3.get 9 2 rfl)) ?_
          refine sq 44 rfl rfl (Y_move (v := .int .i64 x1) rfl rfl) ?_
          refine sq 45 rfl rfl (Y_bor (k := .i64) (a := x) (b := x1) rfl rfl rfl) ?_
          obtain ⟨m3, hc2, hb3⟩ := bind_inv hb3
          refine sc 46 rfl rfl (Yc_func (g := 105) (vs := [.map (some g), .int .i64 (bits .or .i64 x x1), .int .i64 4]) k_call_105 rfl (mc rfl (mc rfl (mc rfl mn))) (c_impl_polynomial_add m2 (bits .or .i64 x x1) 4 g _  (hS15.inn [true, false, false] rfl [] rfl) hc2)) ?_
          rintro _ w_8 ⟨rfl, hd2⟩
          have hS16 := hS15.out [true, false, false] rfl hd2
          have hS16 : ST w0 (bl [⟨(some ⟨g, 0, none⟩), .mp (mpE (Value.int .i64) (Value.int .i64) p), [], 0⟩]) _ [⟨B4, 3, (two.flatMap encI), c4 * 1⟩, ⟨B2, 3, (one_.flatMap encI), c2 * 1⟩, ⟨(some ⟨g, 0, none⟩), .mp (mpE (Value.int .i64) (Value.int .i64) m3), [], 0⟩] [] := hS16
          refine rw_nil ?_
          refine cw_region ?_
          refine sq 47 rfl rfl (Y_add (k := .i64) (a := (i1 : Int)) (b := 1) rfl (hf3.get 38 8 rfl) rfl) ?_
          refine sq 38 rfl rfl (Y_move (v := .int .i64 (IntKind.i64.wrap ((i1 : Int) + 1))) rfl rfl) ?_
          refine rw_nil ?_
          obtain rfl := some_inj hb3
          exact ⟨k_3, Nat.lt_succ_self _, i1 + 1, m3, (FF.cons (hf3.get 0 0 rfl) (FF.cons (hf3.get 7 1 rfl) (FF.cons (hf3.get 9 2 rfl) (FF.cons (hf3.get 30 3 rfl) (FF.cons (hf3.get 31 4 rfl) (FF.cons (hf3.get 32 5 rfl) (FF.cons (hf3.get 36 6 rfl) (FF.cons (hf3.get 37 7 rfl) (FF.cons (congrArg (Value.int .i64) (wr_succ hlt3 hN1)) FF.nil))))))))), (hS16.sel [2, 0, 1] rfl rfl), (by omega), hL3⟩
        · skip
          obtain rfl : k_2 = 0 := by have h := of_decide_eq_false hlt2; omega
          refine cw_exit rfl ?_
          obtain rfl := some_inj hL2
          refine cw_region ?_
          refine sq 48 rfl rfl (Y_add (k := .i64) (a := (i : Int)) (b := 1) rfl (hf3.get 32 5 rfl) rfl) ?_
          refine sq 32 rfl rfl (Y_move (v := .int .i64 (IntKind.i64.wrap ((i : Int) + 1))) rfl rfl) ?_
          refine rw_nil ?_
          obtain rfl := some_inj hF8
          exact ⟨k_1, Nat.lt_succ_self _, i + 1, m2, (FF.cons (hf3.get 0 0 rfl) (FF.cons (hf3.get 7 1 rfl) (FF.cons (hf3.get 30 3 rfl) (FF.cons (hf3.get 31 4 rfl) (FF.cons (congrArg (Value.int .i64) (wr_succ hlt1 hN)) FF.nil))))), (hS15.sel [0, 1, 2] rfl rfl), (by omega), hL1⟩
      · skip
        obtain rfl : k_ = 0 := by have h := of_decide_eq_false hlt; omega
        refine cw_exit rfl ?_
        obtain rfl := some_inj hL
        obtain rfl := some_inj hF7
        exact ret0 Try.results117  ⟨rfl, (ST.subR (R' := []) (hS14.sel [0] rfl rfl) (fun _ h => by cases h))⟩
    exact allR_nil
  exact allR_nil

theorem c_impl_rotationCoef (kind : Int)  (w0 : World)  (hS : ST w0 [] w0 [] []) {r_ : Int} (hF : F_impl_rotationCoef kind = some r_) :
    CV Try.prog 118 #[.int .i64 kind] w0 (fun v w' => v = .int .i64 r_ ∧ ST w0 [] w' [] []) := by
  unfold F_impl_rotationCoef at hF
  refine cv_of_cw 14 Try.func118 rfl Try.ntmps118 rfl ?_
  refine cw_seq ?_
  refine cw_region ?_
  refine sq 2 rfl rfl (Y_assign (v := .int .i64 0) rfl rfl) ?_
  refine rw_nil ?_
  refine cw_seq ?_
  refine cw_seq ?_
  refine cw_region ?_
  refine sq 3 rfl rfl (Y_move (v := .int .i64 kind) rfl rfl) ?_
  refine rw_nil ?_
  refine cw_block ?_
  refine cw_seq ?_
  refine cw_region ?_
  refine sq 5 rfl rfl (Y_eq (k := .i64) (a := kind) (b := 4) rfl rfl rfl) ?_
  refine sq 4 rfl rfl (Y_assign (v := .bool (kind == 4)) rfl rfl) ?_
  refine rw_nil ?_
  refine cw_cond (b := (kind == 4)) rfl (fun hb => ?_) (fun hb => ?_)
  · skip
    have hF1 := ct hF hb
    refine cw_seq ?_
    refine cw_region ?_
    refine sq 2 rfl rfl (Y_assign (v := .int .i64 4) rfl rfl) ?_
    refine rw_nil ?_
    refine cw_ret ?_
    obtain rfl := some_inj hF1
    exact ret1 Try.results118 (v1 := .int .i64 4) (resAt_tmp rfl) ⟨rfl, (ST.subR (R' := []) (hS.sel [] rfl rfl) (fun _ h => by cases h))⟩
  · skip
    have hF2 := cf' hF hb
    refine cw_seq ?_
    refine cw_region ?_
    refine sq 7 rfl rfl (Y_eq (k := .i64) (a := kind) (b := 5) rfl rfl rfl) ?_
    refine sq 6 rfl rfl (Y_assign (v := .bool (kind == 5)) rfl rfl) ?_
    refine rw_nil ?_
    refine cw_cond (b := (kind == 5)) rfl (fun hb1 => ?_) (fun hb1 => ?_)
    · skip
      have hF3 := ct hF2 hb1
      refine cw_seq ?_
      refine cw_region ?_
      refine sq 2 rfl rfl (Y_assign (v := .int .i64 2) rfl rfl) ?_
      refine rw_nil ?_
      refine cw_ret ?_
      obtain rfl := some_inj hF3
      exact ret1 Try.results118 (v1 := .int .i64 2) (resAt_tmp rfl) ⟨rfl, (ST.subR (R' := []) (hS.sel [] rfl rfl) (fun _ h => by cases h))⟩
    · skip
      have hF4 := cf' hF2 hb1
      refine cw_seq ?_
      refine cw_region ?_
      refine sq 9 rfl rfl (Y_eq (k := .i64) (a := kind) (b := 6) rfl rfl rfl) ?_
      refine sq 8 rfl rfl (Y_assign (v := .bool (kind == 6)) rfl rfl) ?_
      refine rw_nil ?_
      refine cw_cond (b := (kind == 6)) rfl (fun hb2 => ?_) (fun hb2 => ?_)
      · skip
        have hF5 := ct hF4 hb2
        refine cw_seq ?_
        refine cw_region ?_
        refine sq 2 rfl rfl (Y_assign (v := .int .i64 6) rfl rfl) ?_
        refine rw_nil ?_
        refine cw_ret ?_
        obtain rfl := some_inj hF5
        exact ret1 Try.results118 (v1 := .int .i64 6) (resAt_tmp rfl) ⟨rfl, (ST.subR (R' := []) (hS.sel [] rfl rfl) (fun _ h => by cases h))⟩
      · skip
        have hF6 := cf' hF4 hb2
        refine cw_seq ?_
        refine cw_region ?_
        refine sq 11 rfl rfl (Y_eq (k := .i64) (a := kind) (b := 7) rfl rfl rfl) ?_
        refine sq 10 rfl rfl (Y_assign (v := .bool (kind == 7)) rfl rfl) ?_
        refine rw_nil ?_
        refine cw_cond (b := (kind == 7)) rfl (fun hb3 => ?_) (fun hb3 => ?_)
        · skip
          have hF7 := ct hF6 hb3
          refine cw_seq ?_
          refine cw_region ?_
          refine sq 2 rfl rfl (Y_assign (v := .int .i64 1) rfl rfl) ?_
          refine rw_nil ?_
          refine cw_ret ?_
          obtain rfl := some_inj hF7
          exact ret1 Try.results118 (v1 := .int .i64 1) (resAt_tmp rfl) ⟨rfl, (ST.subR (R' := []) (hS.sel [] rfl rfl) (fun _ h => by cases h))⟩
        · skip
          have hF8 := cf' hF6 hb3
          refine cw_seq ?_
          refine cw_region ?_
          refine sq 13 rfl rfl (Y_eq (k := .i64) (a := kind) (b := 8) rfl rfl rfl) ?_
          refine sq 12 rfl rfl (Y_assign (v := .bool (kind == 8)) rfl rfl) ?_
          refine rw_nil ?_
          refine cw_cond (b := (kind == 8)) rfl (fun hb4 => ?_) (fun hb4 => ?_)
          · skip
            have hF9 := ct hF8 hb4
            refine cw_seq ?_
            refine cw_region ?_
            refine sq 2 rfl rfl (Y_assign (v := .int .i64 7) rfl rfl) ?_
            refine rw_nil ?_
            refine cw_ret ?_
            obtain rfl := some_inj hF9
            exact ret1 Try.results118 (v1 := .int .i64 7) (resAt_tmp rfl) ⟨rfl, (ST.subR (R' := []) (hS.sel [] rfl rfl) (fun _ h => by cases h))⟩
          · skip
            have hF10 := cf' hF8 hb4
            refine cw_skip ?_
            refine cw_seq ?_
            refine cw_region ?_
            refine sq 2 rfl rfl (Y_assign (v := .int .i64 0) rfl rfl) ?_
            refine rw_nil ?_
            refine cw_ret ?_
            obtain rfl := some_inj hF10
            exact ret1 Try.results118 (v1 := .int .i64 0) (resAt_tmp rfl) ⟨rfl, (ST.subR (R' := []) (hS.sel [] rfl rfl) (fun _ h => by cases h))⟩

theorem c_impl_summer_process (s : Tsummer) (g1 : TGate) (B : Option Addr) (B1 : Option Addr) (c n : Nat) (B2 : Option Addr) (c1 n1 : Nat) (g : Nat) (B3 : Option Addr) (c2 n2 : Nat) (w0 : World) (hn : s.sum.Terms.length = n) (hn1 : s.sum.Out.length = n1) (hn2 : s.values.length = n2) (hS : ST w0 (bl [⟨B, 107, [.int .i64 s.sum.Ins, .int .i64 s.sum.Vars, .int .i64 s.sum.Root, .int .i64 s.sum.Phase, .slice B1 n c, .slice B2 n1 c1, .map (some g), .slice B3 n2 c2], 8⟩, ⟨(some ⟨g, 0, none⟩), .mp (mpE (Value.int .i64) (Value.int .i64) s.poly), [], 0⟩, ⟨B3, 61, (s.values.flatMap enc_Affine), c2 * 2⟩]) w0 [⟨B, 107, [.int .i64 s.sum.Ins, .int .i64 s.sum.Vars, .int .i64 s.sum.Root, .int .i64 s.sum.Phase, .slice B1 n c, .slice B2 n1 c1, .map (some g), .slice B3 n2 c2], 8⟩, ⟨(some ⟨g, 0, none⟩), .mp (mpE (Value.int .i64) (Value.int .i64) s.poly), [], 0⟩, ⟨B3, 61, (s.values.flatMap enc_Affine), c2 * 2⟩] [⟨B1, (s.sum.Terms.flatMap enc_Term)⟩, ⟨B2, (s.sum.Out.flatMap enc_Affine)⟩]) {r_ : Bool} {m : Tsummer} {m1 : List (Int × Int)} {m2 : List TAffine} (hF : F_impl_summer_process s g1 = some (r_, m, m1, m2)) :
    CV Try.prog 67 #[pt B 0, .agg #[.int .i64 g1.Kind, .int .i64 g1.A, .int .i64 g1.B]] w0 (fun v w' => v = .bool r_ ∧ m2.length = n2 ∧ ST w0 (bl [⟨B, 107, [.int .i64 s.sum.Ins, .int .i64 s.sum.Vars, .int .i64 s.sum.Root, .int .i64 s.sum.Phase, .slice B1 n c, .slice B2 n1 c1, .map (some g), .slice B3 n2 c2], 8⟩, ⟨(some ⟨g, 0, none⟩), .mp (mpE (Value.int .i64) (Value.int .i64) s.poly), [], 0⟩, ⟨B3, 61, (s.values.flatMap enc_Affine), c2 * 2⟩]) w' [⟨B, 107, [.int .i64 m.sum.Ins, .int .i64 m.sum.Vars, .int .i64 m.sum.Root, .int .i64 m.sum.Phase, .slice B1 n c, .slice B2 n1 c1, .map (some g), .slice B3 n2 c2], 8⟩, ⟨(some ⟨g, 0, none⟩), .mp (mpE (Value.int .i64) (Value.int .i64) m1), [], 0⟩, ⟨B3, 61, (m2.flatMap enc_Affine), c2 * 2⟩] []) := by
  subst hn
  subst hn1
  subst hn2
  unfold F_impl_summer_process at hF
  refine cv_of_cw 154 Try.func67 rfl Try.ntmps67 rfl ?_
  refine cw_seq ?_
  refine cw_region ?_
  refine ss 3 rfl rfl (Ys_box (T := 76) (v := .agg #[.int .i64 g1.Kind, .int .i64 g1.A, .int .i64 g1.B]) (cs := [.int .i64 g1.Kind, .int .i64 g1.A, .int .i64 g1.B]) (m := 3) hS rfl rfl rfl rfl) ?_
  rintro _ w_ ⟨b, rfl, hS1⟩
  have hS1 : ST w0 (bl [⟨B, 107, [.int .i64 s.sum.Ins, .int .i64 s.sum.Vars, .int .i64 s.sum.Root, .int .i64 s.sum.Phase, .slice B1 s.sum.Terms.length c, .slice B2 s.sum.Out.length c1, .map (some g), .slice B3 s.values.length c2], 8⟩, ⟨(some ⟨g, 0, none⟩), .mp (mpE (Value.int .i64) (Value.int .i64) s.poly), [], 0⟩, ⟨B3, 61, (s.values.flatMap enc_Affine), c2 * 2⟩]) _ [⟨B, 107, [.int .i64 s.sum.Ins, .int .i64 s.sum.Vars, .int .i64 s.sum.Root, .int .i64 s.sum.Phase, .slice B1 s.sum.Terms.length c, .slice B2 s.sum.Out.length c1, .map (some g), .slice B3 s.values.length c2], 8⟩, ⟨(some ⟨g, 0, none⟩), .mp (mpE (Value.int .i64) (Value.int .i64) s.poly), [], 0⟩, ⟨B3, 61, (s.values.flatMap enc_Affine), c2 * 2⟩, ⟨some ⟨b, 0, none⟩, 76, [.int .i64 g1.Kind, .int .i64 g1.A, .int .i64 g1.B], 3⟩] [⟨B1, (s.sum.Terms.flatMap enc_Term)⟩, ⟨B2, (s.sum.Out.flatMap enc_Affine)⟩] := hS1
  refine sq 4 rfl rfl (Y_assign (v := .bool false) rfl rfl) ?_
  refine rw_nil ?_
  refine cw_seq ?_
  obtain ⟨x, hx, hF⟩ := bind_inv hF
  refine ra_start (ST.sel hS1 [0, 1, 2, 3] rfl rfl).fn (by kernel_rfl) ?_
  have hS2 := hS1.drew
  refine ra_q 0 6 (v := pt B 0) rfl rfl rfl (by kernel_rfl) (by kernel_rfl) (by kernel_rfl) (ST.sel hS2 [0, 1, 2, 3] rfl rfl) (fun w' hw' => (Y_move (v := pt B 0) rfl rfl)) ?_
  refine ra_q 1 7 (v := pt B 0) rfl rfl rfl (by kernel_rfl) (by kernel_rfl) (by kernel_rfl) (ST.sel hS2 [0, 1, 2, 3] rfl rfl) (fun w' hw' => (Y_nilCheck (B := B) (i := 0) rfl rfl)) ?_
  refine ra_q 2 8 (v := pt B 7) rfl rfl rfl (by kernel_rfl) (by kernel_rfl) (by kernel_rfl) (ST.sel hS2 [0, 1, 2, 3] rfl rfl) (fun w' hw' => (Y_fieldAddr (B := B) (i := 0) (s := 0) k_fd_107_2_7_55 k_sz_55_1 rfl rfl)) ?_
  refine ra_q 3 9 (v := .slice B3 s.values.length c2) rfl rfl rfl (by kernel_rfl) (by kernel_rfl) (by kernel_rfl) (ST.sel hS2 [0, 1, 2, 3] rfl rfl) (fun w' hw' => (Y_load1 (B := B) (i := 7) (cs := [.int .i64 s.sum.Ins, .int .i64 s.sum.Vars, .int .i64 s.sum.Root, .int .i64 s.sum.Phase, .slice B1 s.sum.Terms.length c, .slice B2 s.sum.Out.length c1, .map (some g), .slice B3 s.values.length c2]) (v := .slice B3 s.values.length c2) k_sc_55 rfl rfl (ST.cf hw' (i := 0) rfl) rfl)) ?_
  refine ra_q 4 10 (v := pt (some ⟨b, 0, none⟩) 1) rfl rfl rfl (by kernel_rfl) (by kernel_rfl) (by kernel_rfl) (ST.sel hS2 [0, 1, 2, 3] rfl rfl) (fun w' hw' => (Y_fieldAddr (B := some ⟨b, 0, none⟩) (i := 0) (s := 0) k_fd_76_1_1_3 k_sz_3_1 rfl rfl)) ?_
  refine ra_q 5 11 (v := .int .i64 g1.A) rfl rfl rfl (by kernel_rfl) (by kernel_rfl) (by kernel_rfl) (ST.sel hS2 [0, 1, 2, 3] rfl rfl) (fun w' hw' => (Y_load1 (B := some ⟨b, 0, none⟩) (i := 1) (cs := [.int .i64 g1.Kind, .int .i64 g1.A, .int .i64 g1.B]) (v := .int .i64 g1.A) k_sc_3 rfl rfl (ST.cf hw' (i := 3) rfl) rfl)) ?_
  refine ra_q 6 12 (v := pt B3 (g1.A.toNat * 2)) rfl rfl rfl (by kernel_rfl) (by kernel_rfl) (by kernel_rfl) (ST.sel hS2 [0, 1, 2, 3] rfl rfl) (fun w' hw' => (Y_index (B := B3) (m := s.values.length) (c := c2) (k := .i64) (i := g1.A) k_sl_55_61 k_sz_61_2 rfl rfl rfl (gi_isSome enc_Affine_len rfl (ST.cf hw' (i := 2) rfl) hx) (getI_nn hx) (getI_ltI hx rfl))) ?_
  refine ra_q 7 5 (v := pt B3 (g1.A.toNat * 2)) rfl rfl rfl (by kernel_rfl) (by kernel_rfl) (by kernel_rfl) (ST.sel hS2 [0, 1, 2, 3] rfl rfl) (fun w' hw' => (Y_assign (v := pt B3 (g1.A.toNat * 2)) rfl rfl)) ?_
  refine ra_done (by kernel_rfl) ?_
  refine cw_seq ?_
  obtain ⟨z, hz, hF1⟩ := bind_inv hF
  refine cw_mid (fun f w => ∃ (poly : List (Int × Int)) (values : List TAffine), .inl (poly, values) = z ∧ FF f [] ∧ values.length = s.values.length ∧ ST w0 (bl [⟨B, 107, [.int .i64 s.sum.Ins, .int .i64 s.sum.Vars, .int .i64 s.sum.Root, .int .i64 s.sum.Phase, .slice B1 s.sum.Terms.length c, .slice B2 s.sum.Out.length c1, .map (some g), .slice B3 s.values.length c2], 8⟩, ⟨(some ⟨g, 0, none⟩), .mp (mpE (Value.int .i64) (Value.int .i64) s.poly), [], 0⟩, ⟨B3, 61, (s.values.flatMap enc_Affine), c2 * 2⟩]) w [⟨B, 107, [.int .i64 s.sum.Ins, .int .i64 s.sum.Vars, .int .i64 s.sum.Root, .int .i64 s.sum.Phase, .slice B1 s.sum.Terms.length c, .slice B2 s.sum.Out.length c1, .map (some g), .slice B3 s.values.length c2], 8⟩, ⟨(some ⟨g, 0, none⟩), .mp (mpE (Value.int .i64) (Value.int .i64) poly), [], 0⟩, ⟨B3, 61, (values.flatMap enc_Affine), c2 * 2⟩] [⟨B1, (s.sum.Terms.flatMap enc_Term)⟩, ⟨B2, (s.sum.Out.flatMap enc_Affine)⟩]) ?_ ?_
  · skip
    refine cw_seq ?_
    refine cw_region ?_
    refine sq 13 rfl rfl (Y_fieldAddr (B := some ⟨b, 0, none⟩) (i := 0) (s := 0) k_fd_76_0_0_3 k_sz_3_1 rfl rfl) ?_
    refine sq 14 rfl rfl (Y_load1 (B := some ⟨b, 0, none⟩) (i := 0) (cs := [.int .i64 g1.Kind, .int .i64 g1.A, .int .i64 g1.B]) (v := .int .i64 g1.Kind) k_sc_3 rfl rfl (hS2.cf (i := 3) rfl) rfl) ?_
    refine rw_nil ?_
    refine cw_block ?_
    refine cw_seq ?_
    refine cw_region ?_
    refine sq 27 rfl rfl (Y_eq (k := .i64) (a := g1.Kind) (b := 1) rfl rfl rfl) ?_
    refine sq 26 rfl rfl (Y_assign (v := .bool (g1.Kind == 1)) rfl rfl) ?_
    refine rw_nil ?_
    refine cw_cond (b := (g1.Kind == 1)) rfl (fun hb => ?_) (fun hb => ?_)
    · skip
      have hF2 := ct hz hb
      refine cw_seq ?_
      refine cw_region ?_
      refine sq 28 rfl rfl (Y_move (v := pt B 0) rfl rfl) ?_
      refine sq 29 rfl rfl (Y_fieldAddr (B := some ⟨b, 0, none⟩) (i := 0) (s := 0) k_fd_76_1_1_3 k_sz_3_1 rfl rfl) ?_
      refine sq 30 rfl rfl (Y_load1 (B := some ⟨b, 0, none⟩) (i := 1) (cs := [.int .i64 g1.Kind, .int .i64 g1.A, .int .i64 g1.B]) (v := .int .i64 g1.A) k_sc_3 rfl rfl (hS2.cf (i := 3) rfl) rfl) ?_
      obtain ⟨⟨Vars, Root, poly1, values1, t⟩, hc1, hF2⟩ := bind_inv hF2
      refine sc 31 rfl rfl (Yc_func (g := 116) (vs := [pt B 0, .int .i64 g1.A]) (R := fun v w' => v = .bool t ∧ values1.length = s.values.length ∧ ST w0 (bl [⟨B, 107, [.int .i64 s.sum.Ins, .int .i64 s.sum.Vars, .int .i64 s.sum.Root, .int .i64 s.sum.Phase, .slice B1 s.sum.Terms.length c, .slice B2 s.sum.Out.length c1, .map (some g), .slice B3 s.values.length c2], 8⟩, ⟨(some ⟨g, 0, none⟩), .mp (mpE (Value.int .i64) (Value.int .i64) s.poly), [], 0⟩, ⟨B3, 61, (s.values.flatMap enc_Affine), c2 * 2⟩]) w' [⟨B, 107, [.int .i64 s.sum.Ins, .int .i64 Vars, .int .i64 Root, .int .i64 s.sum.Phase, .slice B1 s.sum.Terms.length c, .slice B2 s.sum.Out.length c1, .map (some g), .slice B3 s.values.length c2], 8⟩, ⟨(some ⟨g, 0, none⟩), .mp (mpE (Value.int .i64) (Value.int .i64) poly1), [], 0⟩, ⟨B3, 61, (values1.flatMap enc_Affine), c2 * 2⟩, ⟨some ⟨b, 0, none⟩, 76, [.int .i64 g1.Kind, .int .i64 g1.A, .int .i64 g1.B], 3⟩] [⟨B1, (s.sum.Terms.flatMap enc_Term)⟩, ⟨B2, (s.sum.Out.flatMap enc_Affine)⟩]) k_call_116 rfl (mc rfl (mc rfl mn)) ?cv) ?_
      case cv =>
        show CV Try.prog 116 #[pt B 0, .int .i64 g1.A] _ _
        refine cv_of_cw 61 Try.func116 rfl Try.ntmps116 rfl ?_
        refine cw_seq ?_
        refine cw_region ?_
        refine sq 4 rfl rfl (Y_assign (v := .bool false) rfl rfl) ?_
        refine rw_nil ?_
        refine cw_seq ?_
        refine ra_start (ST.sel hS2 [0, 1, 2, 3] rfl rfl).fn (by kernel_rfl) ?_
        have hS15 := hS2.drew
        refine ra_q 0 7 (v := pt B 0) rfl rfl rfl (by kernel_rfl) (by kernel_rfl) (by kernel_rfl) (ST.sel hS15 [0, 1, 2, 3] rfl rfl) (fun w' hw' => (Y_move (v := pt B 0) rfl rfl)) ?_
        refine ra_q 1 8 (v := pt B 0) rfl rfl rfl (by kernel_rfl) (by kernel_rfl) (by kernel_rfl) (ST.sel hS15 [0, 1, 2, 3] rfl rfl) (fun w' hw' => (Y_nilCheck (B := B) (i := 0) rfl rfl)) ?_
        refine ra_q 2 9 (v := pt B 0) rfl rfl rfl (by kernel_rfl) (by kernel_rfl) (by kernel_rfl) (ST.sel hS15 [0, 1, 2, 3] rfl rfl) (fun w' hw' => (Y_fieldAddr (B := B) (i := 0) (s := 5) k_fd_107_0_0_57 k_sz_57_6 rfl rfl)) ?_
        refine ra_q 3 10 (v := pt B 0) rfl rfl rfl (by kernel_rfl) (by kernel_rfl) (by kernel_rfl) (ST.sel hS15 [0, 1, 2, 3] rfl rfl) (fun w' hw' => (Y_fieldAddr (B := B) (i := 0) (s := 0) k_fd_57_0_0_3 k_sz_3_1 rfl rfl)) ?_
        refine ra_q 4 11 (v := .int .i64 s.sum.Ins) rfl rfl rfl (by kernel_rfl) (by kernel_rfl) (by kernel_rfl) (ST.sel hS15 [0, 1, 2, 3] rfl rfl) (fun w' hw' => (Y_load1 (B := B) (i := 0) (cs := [.int .i64 s.sum.Ins, .int .i64 s.sum.Vars, .int .i64 s.sum.Root, .int .i64 s.sum.Phase, .slice B1 s.sum.Terms.length c, .slice B2 s.sum.Out.length c1, .map (some g), .slice B3 s.values.length c2]) (v := .int .i64 s.sum.Ins) k_sc_3 rfl rfl (ST.cf hw' (i := 0) rfl) rfl)) ?_
        refine ra_q 5 12 (v := pt B 0) rfl rfl rfl (by kernel_rfl) (by kernel_rfl) (by kernel_rfl) (ST.sel hS15 [0, 1, 2, 3] rfl rfl) (fun w' hw' => (Y_move (v := pt B 0) rfl rfl)) ?_
        refine ra_q 6 13 (v := pt B 0) rfl rfl rfl (by kernel_rfl) (by kernel_rfl) (by kernel_rfl) (ST.sel hS15 [0, 1, 2, 3] rfl rfl) (fun w' hw' => (Y_nilCheck (B := B) (i := 0) rfl rfl)) ?_
        refine ra_q 7 14 (v := pt B 0) rfl rfl rfl (by kernel_rfl) (by kernel_rfl) (by kernel_rfl) (ST.sel hS15 [0, 1, 2, 3] rfl rfl) (fun w' hw' => (Y_fieldAddr (B := B) (i := 0) (s := 5) k_fd_107_0_0_57 k_sz_57_6 rfl rfl)) ?_
        refine ra_q 8 15 (v := pt B 1) rfl rfl rfl (by kernel_rfl) (by kernel_rfl) (by kernel_rfl) (ST.sel hS15 [0, 1, 2, 3] rfl rfl) (fun w' hw' => (Y_fieldAddr (B := B) (i := 0) (s := 0) k_fd_57_1_1_3 k_sz_3_1 rfl rfl)) ?_
        refine ra_q 9 16 (v := .int .i64 s.sum.Vars) rfl rfl rfl (by kernel_rfl) (by kernel_rfl) (by kernel_rfl) (ST.sel hS15 [0, 1, 2, 3] rfl rfl) (fun w' hw' => (Y_load1 (B := B) (i := 1) (cs := [.int .i64 s.sum.Ins, .int .i64 s.sum.Vars, .int .i64 s.sum.Root, .int .i64 s.sum.Phase, .slice B1 s.sum.Terms.length c, .slice B2 s.sum.Out.length c1, .map (some g), .slice B3 s.values.length c2]) (v := .int .i64 s.sum.Vars) k_sc_3 rfl rfl (ST.cf hw' (i := 0) rfl) rfl)) ?_
        refine ra_q 10 17 (v := .int .i64 (IntKind.i64.wrap (s.sum.Ins + s.sum.Vars))) rfl rfl rfl (by kernel_rfl) (by kernel_rfl) (by kernel_rfl) (ST.sel hS15 [0, 1, 2, 3] rfl rfl) (fun w' hw' => (Y_add (k := .i64) (a := s.sum.Ins) (b := s.sum.Vars) rfl rfl rfl)) ?_
        refine ra_q 11 5 (v := .int .i64 (IntKind.i64.wrap (s.sum.Ins + s.sum.Vars))) rfl rfl rfl (by kernel_rfl) (by kernel_rfl) (by kernel_rfl) (ST.sel hS15 [0, 1, 2, 3] rfl rfl) (fun w' hw' => (Y_assign (v := .int .i64 (IntKind.i64.wrap (s.sum.Ins + s.sum.Vars))) rfl rfl)) ?_
        refine ra_done (by kernel_rfl) ?_
        refine cw_seq ?_
        refine cw_seq ?_
        refine cw_region ?_
        refine sq 18 rfl rfl (Y_move (v := .int .i64 (IntKind.i64.wrap (s.sum.Ins + s.sum.Vars))) rfl rfl) ?_
        refine sq 19 rfl rfl (Y_ge (k := .i64) (a := (IntKind.i64.wrap (s.sum.Ins + s.sum.Vars))) (b := 24) rfl rfl rfl) ?_
        refine rw_nil ?_
        refine cw_cond (b := (decide (24 ≤ (IntKind.i64.wrap (s.sum.Ins + s.sum.Vars))))) rfl (fun hb2 => ?_) (fun hb2 => ?_)
        · skip
          have hF5 := ct hc1 hb2
          refine cw_seq ?_
          refine cw_region ?_
          refine sq 4 rfl rfl (Y_assign (v := .bool false) rfl rfl) ?_
          refine rw_nil ?_
          refine cw_ret ?_
          obtain ⟨rfl, rfl, rfl, rfl, rfl⟩ := pr5 (some_inj hF5)
          exact ret1 Try.results116 (v1 := .bool false) (resAt_tmp rfl) ⟨rfl, rfl, (hS15.sel [0, 1, 2, 3] rfl rfl)⟩
        · skip
          have hF6 := cf' hc1 hb2
          refine cw_skip ?_
          refine cw_seq ?_
          refine cw_region ?_
          refine sq 20 rfl rfl (Y_move (v := .int .i64 (IntKind.i64.wrap (s.sum.Ins + s.sum.Vars))) rfl rfl) ?_
          obtain ⟨hsh1, hF6⟩ := chk_inv hF6
          refine sq 21 rfl rfl (Y_shl (k := .i64) (a := 1) (k' := .i64) (b := (IntKind.i64.wrap (s.sum.Ins + s.sum.Vars))) rfl rfl rfl hsh1) ?_
          refine sq 22 rfl rfl (Y_buildS (zs := [.int .i64 0, .int .i64 0]) (vs := [(0, .int .i64 (shlK .i64 1 (IntKind.i64.wrap (s.sum.Ins + s.sum.Vars))))]) (cs := [.int .i64 (shlK .i64 1 (IntKind.i64.wrap (s.sum.Ins + s.sum.Vars))), .int .i64 0]) k_pl_61 k_zero_61 rfl (mpc rfl mpn) rfl) ?_
          refine ss 6 rfl rfl (Ys_alloc (T := 61) (cs := [.int .i64 0, .int .i64 0]) (m := 2) hS15 k_zero_61 rfl rfl rfl) ?_
          rintro _ w_8 ⟨b2, rfl, hS16⟩
          have hS16 : ST w0 (bl [⟨B, 107, [.int .i64 s.sum.Ins, .int .i64 s.sum.Vars, .int .i64 s.sum.Root, .int .i64 s.sum.Phase, .slice B1 s.sum.Terms.length c, .slice B2 s.sum.Out.length c1, .map (some g), .slice B3 s.values.length c2], 8⟩, ⟨(some ⟨g, 0, none⟩), .mp (mpE (Value.int .i64) (Value.int .i64) s.poly), [], 0⟩, ⟨B3, 61, (s.values.flatMap enc_Affine), c2 * 2⟩]) _ [⟨B, 107, [.int .i64 s.sum.Ins, .int .i64 s.sum.Vars, .int .i64 s.sum.Root, .int .i64 s.sum.Phase, .slice B1 s.sum.Terms.length c, .slice B2 s.sum.Out.length c1, .map (some g), .slice B3 s.values.length c2], 8⟩, ⟨(some ⟨g, 0, none⟩), .mp (mpE (Value.int .i64) (Value.int .i64) s.poly), [], 0⟩, ⟨B3, 61, (s.values.flatMap enc_Affine), c2 * 2⟩, ⟨some ⟨b, 0, none⟩, 76, [.int .i64 g1.Kind, .int .i64 g1.A, .int .i64 g1.B], 3⟩, ⟨some ⟨b2, 0, none⟩, 61, [.int .i64 0, .int .i64 0], 2⟩] [⟨B1, (s.sum.Terms.flatMap enc_Term)⟩, ⟨B2, (s.sum.Out.flatMap enc_Affine)⟩] := hS16
          refine ss0 rfl rfl (Ys_store (i := 4) (s := 2) (B := some ⟨b2, 0, none⟩) (T' := 61) (v := .agg #[.int .i64 (shlK .i64 1 (IntKind.i64.wrap (s.sum.Ins + s.sum.Vars))), .int .i64 0]) (vs := [.int .i64 (shlK .i64 1 (IntKind.i64.wrap (s.sum.Ins + s.sum.Vars))), .int .i64 0]) (k := 0) (cs' := [.int .i64 (shlK .i64 1 (IntKind.i64.wrap (s.sum.Ins + s.sum.Vars))), .int .i64 0]) hS16 k_sz_61_2 rfl rfl rfl rfl rfl rfl rfl (Nat.le_of_ble_eq_true rfl) rfl rfl) ?_
          rintro _ w_9 ⟨rfl, hS17⟩
          have hS17 : ST w0 (bl [⟨B, 107, [.int .i64 s.sum.Ins, .int .i64 s.sum.Vars, .int .i64 s.sum.Root, .int .i64 s.sum.Phase, .slice B1 s.sum.Terms.length c, .slice B2 s.sum.Out.length c1, .map (some g), .slice B3 s.values.length c2], 8⟩, ⟨(some ⟨g, 0, none⟩), .mp (mpE (Value.int .i64) (Value.int .i64) s.poly), [], 0⟩, ⟨B3, 61, (s.values.flatMap enc_Affine), c2 * 2⟩]) _ [⟨B, 107, [.int .i64 s.sum.Ins, .int .i64 s.sum.Vars, .int .i64 s.sum.Root, .int .i64 s.sum.Phase, .slice B1 s.sum.Terms.length c, .slice B2 s.sum.Out.length c1, .map (some g), .slice B3 s.values.length c2], 8⟩, ⟨(some ⟨g, 0, none⟩), .mp (mpE (Value.int .i64) (Value.int .i64) s.poly), [], 0⟩, ⟨B3, 61, (s.values.flatMap enc_Affine), c2 * 2⟩, ⟨some ⟨b, 0, none⟩, 76, [.int .i64 g1.Kind, .int .i64 g1.A, .int .i64 g1.B], 3⟩, ⟨some ⟨b2, 0, none⟩, 61, [.int .i64 (shlK .i64 1 (IntKind.i64.wrap (s.sum.Ins + s.sum.Vars))), .int .i64 0], 2⟩] [⟨B1, (s.sum.Terms.flatMap enc_Term)⟩, ⟨B2, (s.sum.Out.flatMap enc_Affine)⟩] := hS17
          refine rw_nil ?_
          refine cw_seq ?_
          obtain ⟨m4, hc2, hF6⟩ := bind_inv hF6
          refine ra_start (ST.sel hS17 [0, 2, 3, 4] rfl rfl).fn (by kernel_rfl) ?_
          have hS19 := hS17.drew
          refine ra_q 0 23 (v := pt B 0) rfl rfl rfl (by kernel_rfl) (by kernel_rfl) (by kernel_rfl) (ST.sel hS19 [0, 2, 3, 4] rfl rfl) (fun w' hw' => (Y_move (v := pt B 0) rfl rfl)) ?_
          refine ra_q 1 24 (v := pt B 0) rfl rfl rfl (by kernel_rfl) (by kernel_rfl) (by kernel_rfl) (ST.sel hS19 [0, 2, 3, 4] rfl rfl) (fun w' hw' => (Y_nilCheck (B := B) (i := 0) rfl rfl)) ?_
          refine ra_q 2 25 (v := pt B 6) rfl rfl rfl (by kernel_rfl) (by kernel_rfl) (by kernel_rfl) (ST.sel hS19 [0, 2, 3, 4] rfl rfl) (fun w' hw' => (Y_fieldAddr (B := B) (i := 0) (s := 0) k_fd_107_1_6_105 k_sz_105_1 rfl rfl)) ?_
          refine ra_q 3 26 (v := .map (some g)) rfl rfl rfl (by kernel_rfl) (by kernel_rfl) (by kernel_rfl) (ST.sel hS19 [0, 2, 3, 4] rfl rfl) (fun w' hw' => (Y_load1 (B := B) (i := 6) (cs := [.int .i64 s.sum.Ins, .int .i64 s.sum.Vars, .int .i64 s.sum.Root, .int .i64 s.sum.Phase, .slice B1 s.sum.Terms.length c, .slice B2 s.sum.Out.length c1, .map (some g), .slice B3 s.values.length c2]) (v := .map (some g)) k_sc_105 rfl rfl (ST.cf hw' (i := 0) rfl) rfl)) ?_
          refine ra_q 4 27 (v := pt B 0) rfl rfl rfl (by kernel_rfl) (by kernel_rfl) (by kernel_rfl) (ST.sel hS19 [0, 2, 3, 4] rfl rfl) (fun w' hw' => (Y_move (v := pt B 0) rfl rfl)) ?_
          refine ra_q 5 28 (v := pt B 0) rfl rfl rfl (by kernel_rfl) (by kernel_rfl) (by kernel_rfl) (ST.sel hS19 [0, 2, 3, 4] rfl rfl) (fun w' hw' => (Y_nilCheck (B := B) (i := 0) rfl rfl)) ?_
          refine ra_q 6 29 (v := pt B 7) rfl rfl rfl (by kernel_rfl) (by kernel_rfl) (by kernel_rfl) (ST.sel hS19 [0, 2, 3, 4] rfl rfl) (fun w' hw' => (Y_fieldAddr (B := B) (i := 0) (s := 0) k_fd_107_2_7_55 k_sz_55_1 rfl rfl)) ?_
          refine ra_q 7 30 (v := .slice B3 s.values.length c2) rfl rfl rfl (by kernel_rfl) (by kernel_rfl) (by kernel_rfl) (ST.sel hS19 [0, 2, 3, 4] rfl rfl) (fun w' hw' => (Y_load1 (B := B) (i := 7) (cs := [.int .i64 s.sum.Ins, .int .i64 s.sum.Vars, .int .i64 s.sum.Root, .int .i64 s.sum.Phase, .slice B1 s.sum.Terms.length c, .slice B2 s.sum.Out.length c1, .map (some g), .slice B3 s.values.length c2]) (v := .slice B3 s.values.length c2) k_sc_55 rfl rfl (ST.cf hw' (i := 0) rfl) rfl)) ?_
          refine ra_q 8 31 (v := .int .i64 g1.A) rfl rfl rfl (by kernel_rfl) (by kernel_rfl) (by kernel_rfl) (ST.sel hS19 [0, 2, 3, 4] rfl rfl) (fun w' hw' => (Y_move (v := .int .i64 g1.A) rfl rfl)) ?_
          refine ra_q 9 32 (v := pt B3 (g1.A.toNat * 2)) rfl rfl rfl (by kernel_rfl) (by kernel_rfl) (by kernel_rfl) (ST.sel hS19 [0, 2, 3, 4] rfl rfl) (fun w' hw' => (Y_index (B := B3) (m := s.values.length) (c := c2) (k := .i64) (i := g1.A) k_sl_55_61 k_sz_61_2 rfl rfl rfl (gi_isSome enc_Affine_len rfl (ST.cf hw' (i := 1) rfl) hx) (getI_nn hx) (getI_ltI hx rfl))) ?_
          refine ra_q 10 33 (v := .agg #[.int .i64 x.Mask, .int .i64 x.Turn]) rfl rfl rfl (by kernel_rfl) (by kernel_rfl) (by kernel_rfl) (ST.sel hS19 [0, 2, 3, 4] rfl rfl) (fun w' hw' => (Y_loadA (B := B3) (i := g1.A.toNat * 2) (cs := (s.values.flatMap enc_Affine)) (vs := [.int .i64 x.Mask, .int .i64 x.Turn]) k_ag_61 k_sz_61_2 rfl rfl (ST.cf hw' (i := 1) rfl) (enc_Affine_len x) (gi_seg enc_Affine_len hx))) ?_
          refine ra_q 11 34 (v := .agg #[.int .i64 (shlK .i64 1 (IntKind.i64.wrap (s.sum.Ins + s.sum.Vars))), .int .i64 0]) rfl rfl rfl (by kernel_rfl) (by kernel_rfl) (by kernel_rfl) (ST.sel hS19 [0, 2, 3, 4] rfl rfl) (fun w' hw' => (Y_loadA (B := some ⟨b2, 0, none⟩) (i := 0) (cs := [.int .i64 (shlK .i64 1 (IntKind.i64.wrap (s.sum.Ins + s.sum.Vars))), .int .i64 0]) (vs := [.int .i64 (shlK .i64 1 (IntKind.i64.wrap (s.sum.Ins + s.sum.Vars))), .int .i64 0]) k_ag_61 k_sz_61_2 rfl rfl (ST.cf hw' (i := 3) rfl) rfl rfl)) ?_
          refine ra_all (rs := [12]) (by kernel_rfl) rfl ?_
          refine ra_c 35 (i := 12) rfl rfl rfl (Yc_func (g := 117) (vs := [.map (some g), .agg #[.int .i64 x.Mask, .int .i64 x.Turn], .agg #[.int .i64 (shlK .i64 1 (IntKind.i64.wrap (s.sum.Ins + s.sum.Vars))), .int .i64 0]]) k_call_117 rfl (mc rfl (mc rfl (mc rfl mn))) (c_impl_polynomial_product s.poly x (TAffine.mk (shlK .i64 1 (IntKind.i64.wrap (s.sum.Ins + s.sum.Vars))) 0) g _  (hS19.inn [false, true, false, false, false] rfl [] rfl) hc2)) ?_ ?_
          · rintro _ w_10 ⟨rfl, hd2⟩
            have hS20 := hS19.out [false, true, false, false, false] rfl hd2
            have hS20 : ST w0 (bl [⟨B, 107, [.int .i64 s.sum.Ins, .int .i64 s.sum.Vars, .int .i64 s.sum.Root, .int .i64 s.sum.Phase, .slice B1 s.sum.Terms.length c, .slice B2 s.sum.Out.length c1, .map (some g), .slice B3 s.values.length c2], 8⟩, ⟨(some ⟨g, 0, none⟩), .mp (mpE (Value.int .i64) (Value.int .i64) s.poly), [], 0⟩, ⟨B3, 61, (s.values.flatMap enc_Affine), c2 * 2⟩]) _ [⟨B, 107, [.int .i64 s.sum.Ins, .int .i64 s.sum.Vars, .int .i64 s.sum.Root, .int .i64 s.sum.Phase, .slice B1 s.sum.Terms.length c, .slice B2 s.sum.Out.length c1, .map (some g), .slice B3 s.values.length c2], 8⟩, ⟨B3, 61, (s.values.flatMap enc_Affine), c2 * 2⟩, ⟨some ⟨b, 0, none⟩, 76, [.int .i64 g1.Kind, .int .i64 g1.A, .int .i64 g1.B], 3⟩, ⟨some ⟨b2, 0, none⟩, 61, [.int .i64 (shlK .i64 1 (IntKind.i64.wrap (s.sum.Ins + s.sum.Vars))), .int .i64 0], 2⟩, ⟨(some ⟨g, 0, none⟩), .mp (mpE (Value.int .i64) (Value.int .i64) m4), [], 0⟩] [⟨B1, (s.sum.Terms.flatMap enc_Term)⟩, ⟨B2, (s.sum.Out.flatMap enc_Affine)⟩] := hS20
            refine ⟨(ST.sel hS20 [0, 1, 2, 3] rfl rfl), ?_⟩
            refine ra_done (by kernel_rfl) ?_
            refine cw_seq ?_
            refine ra_start (ST.sel hS20 [0, 2, 3, 4] rfl rfl).fn (by kernel_rfl) ?_
            have hS21 := hS20.drew
            refine ra_q 0 36 (v := pt B 0) rfl rfl rfl (by kernel_rfl) (by kernel_rfl) (by kernel_rfl) (ST.sel hS21 [0, 2, 3, 4] rfl rfl) (fun w' hw' => (Y_move (v := pt B 0) rfl rfl)) ?_
            refine ra_q 1 37 (v := pt B 0) rfl rfl rfl (by kernel_rfl) (by kernel_rfl) (by kernel_rfl) (ST.sel hS21 [0, 2, 3, 4] rfl rfl) (fun w' hw' => (Y_nilCheck (B := B) (i := 0) rfl rfl)) ?_
            refine ra_q 2 38 (v := pt B 7) rfl rfl rfl (by kernel_rfl) (by kernel_rfl) (by kernel_rfl) (ST.sel hS21 [0, 2, 3, 4] rfl rfl) (fun w' hw' => (Y_fieldAddr (B := B) (i := 0) (s := 0) k_fd_107_2_7_55 k_sz_55_1 rfl rfl)) ?_
            refine ra_q 3 39 (v := .slice B3 s.values.length c2) rfl rfl rfl (by kernel_rfl) (by kernel_rfl) (by kernel_rfl) (ST.sel hS21 [0, 2, 3, 4] rfl rfl) (fun w' hw' => (Y_load1 (B := B) (i := 7) (cs := [.int .i64 s.sum.Ins, .int .i64 s.sum.Vars, .int .i64 s.sum.Root, .int .i64 s.sum.Phase, .slice B1 s.sum.Terms.length c, .slice B2 s.sum.Out.length c1, .map (some g), .slice B3 s.values.length c2]) (v := .slice B3 s.values.length c2) k_sc_55 rfl rfl (ST.cf hw' (i := 0) rfl) rfl)) ?_
            refine ra_q 4 40 (v := .int .i64 g1.A) rfl rfl rfl (by kernel_rfl) (by kernel_rfl) (by kernel_rfl) (ST.sel hS21 [0, 2, 3, 4] rfl rfl) (fun w' hw' => (Y_move (v := .int .i64 g1.A) rfl rfl)) ?_
            refine ra_q 5 41 (v := .agg #[.int .i64 (shlK .i64 1 (IntKind.i64.wrap (s.sum.Ins + s.sum.Vars))), .int .i64 0]) rfl rfl rfl (by kernel_rfl) (by kernel_rfl) (by kernel_rfl) (ST.sel hS21 [0, 2, 3, 4] rfl rfl) (fun w' hw' => (Y_loadA (B := some ⟨b2, 0, none⟩) (i := 0) (cs := [.int .i64 (shlK .i64 1 (IntKind.i64.wrap (s.sum.Ins + s.sum.Vars))), .int .i64 0]) (vs := [.int .i64 (shlK .i64 1 (IntKind.i64.wrap (s.sum.Ins + s.sum.Vars))), .int .i64 0]) k_ag_61 k_sz_61_2 rfl rfl (ST.cf hw' (i := 2) rfl) rfl rfl)) ?_
            refine ra_all (rs := [6]) (by kernel_rfl) rfl ?_
            refine ra_y 42 (i := 6) (v := pt B3 (g1.A.toNat * 2)) rfl rfl rfl (Y_index (B := B3) (m := s.values.length) (c := c2) (k := .i64) (i := g1.A) k_sl_55_61 k_sz_61_2 rfl rfl rfl (gi_isSome enc_Affine_len rfl (hS21.cf (i := 1) rfl) hx) (getI_nn hx) (getI_ltI hx rfl)) (ST.sel hS21 [0, 2, 3, 4] rfl rfl) ?_ ?_
            · skip
              refine ra_all (rs := [7]) (by kernel_rfl) rfl ?_
              refine ra_s0 (i := 7) rfl rfl rfl (Ys_store (i := 1) (s := 2) (B := B3) (T' := 61) (v := .agg #[.int .i64 (shlK .i64 1 (IntKind.i64.wrap (s.sum.Ins + s.sum.Vars))), .int .i64 0]) (vs := [.int .i64 (shlK .i64 1 (IntKind.i64.wrap (s.sum.Ins + s.sum.Vars))), .int .i64 0]) (k := g1.A.toNat * 2) (cs' := ((s.values.set g1.A.toNat (TAffine.mk (shlK .i64 1 (IntKind.i64.wrap (s.sum.Ins + s.sum.Vars))) 0)).flatMap enc_Affine)) hS21 k_sz_61_2 rfl rfl rfl rfl rfl rfl rfl (gi_fit0 enc_Affine_len hx) (gi_set enc_Affine_len hx (TAffine.mk (shlK .i64 1 (IntKind.i64.wrap (s.sum.Ins + s.sum.Vars))) 0) rfl) rfl) ?_ ?_
              · rintro _ w_11 ⟨rfl, hS22⟩
                have hS22 : ST w0 (bl [⟨B, 107, [.int .i64 s.sum.Ins, .int .i64 s.sum.Vars, .int .i64 s.sum.Root, .int .i64 s.sum.Phase, .slice B1 s.sum.Terms.length c, .slice B2 s.sum.Out.length c1, .map (some g), .slice B3 s.values.length c2], 8⟩, ⟨(some ⟨g, 0, none⟩), .mp (mpE (Value.int .i64) (Value.int .i64) s.poly), [], 0⟩, ⟨B3, 61, (s.values.flatMap enc_Affine), c2 * 2⟩]) _ [⟨B, 107, [.int .i64 s.sum.Ins, .int .i64 s.sum.Vars, .int .i64 s.sum.Root, .int .i64 s.sum.Phase, .slice B1 s.sum.Terms.length c, .slice B2 s.sum.Out.length c1, .map (some g), .slice B3 s.values.length c2], 8⟩, ⟨B3, 61, ((s.values.set g1.A.toNat (TAffine.mk (shlK .i64 1 (IntKind.i64.wrap (s.sum.Ins + s.sum.Vars))) 0)).flatMap enc_Affine), c2 * 2⟩, ⟨some ⟨b, 0, none⟩, 76, [.int .i64 g1.Kind, .int .i64 g1.A, .int .i64 g1.B], 3⟩, ⟨some ⟨b2, 0, none⟩, 61, [.int .i64 (shlK .i64 1 (IntKind.i64.wrap (s.sum.Ins + s.sum.Vars))), .int .i64 0], 2⟩, ⟨(some ⟨g, 0, none⟩), .mp (mpE (Value.int .i64) (Value.int .i64) m4), [], 0⟩] [⟨B1, (s.sum.Terms.flatMap enc_Term)⟩, ⟨B2, (s.sum.Out.flatMap enc_Affine)⟩] := hS22
                refine ⟨(ST.sel hS22 [0, 2, 3, 4] rfl rfl), ?_⟩
                refine ra_done (by kernel_rfl) ?_
                refine cw_seq ?_
                refine cw_region ?_
                refine sq 43 rfl rfl (Y_move (v := pt B 0) rfl rfl) ?_
                refine sq 44 rfl rfl (Y_nilCheck (B := B) (i := 0) rfl rfl) ?_
                refine sq 45 rfl rfl (Y_fieldAddr (B := B) (i := 0) (s := 5) k_fd_107_0_0_57 k_sz_57_6 rfl rfl) ?_
                refine sq 46 rfl rfl (Y_fieldAddr (B := B) (i := 0) (s := 0) k_fd_57_1_1_3 k_sz_3_1 rfl rfl) ?_
                refine sq 47 rfl rfl (Y_load1 (B := B) (i := 1) (cs := [.int .i64 s.sum.Ins, .int .i64 s.sum.Vars, .int .i64 s.sum.Root, .int .i64 s.sum.Phase, .slice B1 s.sum.Terms.length c, .slice B2 s.sum.Out.length c1, .map (some g), .slice B3 s.values.length c2]) (v := .int .i64 s.sum.Vars) k_sc_3 rfl rfl (hS22.cf (i := 0) rfl) rfl) ?_
                refine sq 48 rfl rfl (Y_add (k := .i64) (a := s.sum.Vars) (b := 1) rfl rfl rfl) ?_
                refine sq 49 rfl rfl (Y_nilCheck (B := B) (i := 0) rfl rfl) ?_
                refine sq 50 rfl rfl (Y_fieldAddr (B := B) (i := 0) (s := 5) k_fd_107_0_0_57 k_sz_57_6 rfl rfl) ?_
                refine sq 51 rfl rfl (Y_fieldAddr (B := B) (i := 0) (s := 0) k_fd_57_1_1_3 k_sz_3_1 rfl rfl) ?_
                refine ss0 rfl rfl (Ys_store (i := 0) (s := 1) (B := B) (T' := 107) (v := .int .i64 (IntKind.i64.wrap (s.sum.Vars + 1))) (vs := [.int .i64 (IntKind.i64.wrap (s.sum.Vars + 1))]) (k := 1) (cs' := [.int .i64 s.sum.Ins, .int .i64 (IntKind.i64.wrap (s.sum.Vars + 1)), .int .i64 s.sum.Root, .int .i64 s.sum.Phase, .slice B1 s.sum.Terms.length c, .slice B2 s.sum.Out.length c1, .map (some g), .slice B3 s.values.length c2]) hS22 k_sz_3_1 rfl rfl rfl rfl rfl rfl rfl (Nat.le_of_ble_eq_true rfl) rfl rfl) ?_
                rintro _ w_12 ⟨rfl, hS23⟩
                have hS23 : ST w0 (bl [⟨B, 107, [.int .i64 s.sum.Ins, .int .i64 s.sum.Vars, .int .i64 s.sum.Root, .int .i64 s.sum.Phase, .slice B1 s.sum.Terms.length c, .slice B2 s.sum.Out.length c1, .map (some g), .slice B3 s.values.length c2], 8⟩, ⟨(some ⟨g, 0, none⟩), .mp (mpE (Value.int .i64) (Value.int .i64) s.poly), [], 0⟩, ⟨B3, 61, (s.values.flatMap enc_Affine), c2 * 2⟩]) _ [⟨B, 107, [.int .i64 s.sum.Ins, .int .i64 (IntKind.i64.wrap (s.sum.Vars + 1)), .int .i64 s.sum.Root, .int .i64 s.sum.Phase, .slice B1 s.sum.Terms.length c, .slice B2 s.sum.Out.length c1, .map (some g), .slice B3 s.values.length c2], 8⟩, ⟨B3, 61, ((s.values.set g1.A.toNat (TAffine.mk (shlK .i64 1 (IntKind.i64.wrap (s.sum.Ins + s.sum.Vars))) 0)).flatMap enc_Affine), c2 * 2⟩, ⟨some ⟨b, 0, none⟩, 76, [.int .i64 g1.Kind, .int .i64 g1.A, .int .i64 g1.B], 3⟩, ⟨some ⟨b2, 0, none⟩, 61, [.int .i64 (shlK .i64 1 (IntKind.i64.wrap (s.sum.Ins + s.sum.Vars))), .int .i64 0], 2⟩, ⟨(some ⟨g, 0, none⟩), .mp (mpE (Value.int .i64) (Value.int .i64) m4), [], 0⟩] [⟨B1, (s.sum.Terms.flatMap enc_Term)⟩, ⟨B2, (s.sum.Out.flatMap enc_Affine)⟩] := hS23
                refine rw_nil ?_
                refine cw_seq ?_
                refine cw_region ?_
                refine sq 52 rfl rfl (Y_move (v := pt B 0) rfl rfl) ?_
                refine sq 53 rfl rfl (Y_nilCheck (B := B) (i := 0) rfl rfl) ?_
                refine sq 54 rfl rfl (Y_fieldAddr (B := B) (i := 0) (s := 5) k_fd_107_0_0_57 k_sz_57_6 rfl rfl) ?_
                refine sq 55 rfl rfl (Y_fieldAddr (B := B) (i := 0) (s := 0) k_fd_57_2_2_3 k_sz_3_1 rfl rfl) ?_
                refine sq 56 rfl rfl (Y_load1 (B := B) (i := 2) (cs := [.int .i64 s.sum.Ins, .int .i64 (IntKind.i64.wrap (s.sum.Vars + 1)), .int .i64 s.sum.Root, .int .i64 s.sum.Phase, .slice B1 s.sum.Terms.length c, .slice B2 s.sum.Out.length c1, .map (some g), .slice B3 s.values.length c2]) (v := .int .i64 s.sum.Root) k_sc_3 rfl rfl (hS23.cf (i := 0) rfl) rfl) ?_
                refine sq 57 rfl rfl (Y_add (k := .i64) (a := s.sum.Root) (b := 1) rfl rfl rfl) ?_
                refine sq 58 rfl rfl (Y_nilCheck (B := B) (i := 0) rfl rfl) ?_
                refine sq 59 rfl rfl (Y_fieldAddr (B := B) (i := 0) (s := 5) k_fd_107_0_0_57 k_sz_57_6 rfl rfl) ?_
                refine sq 60 rfl rfl (Y_fieldAddr (B := B) (i := 0) (s := 0) k_fd_57_2_2_3 k_sz_3_1 rfl rfl) ?_
                refine ss0 rfl rfl (Ys_store (i := 0) (s := 1) (B := B) (T' := 107) (v := .int .i64 (IntKind.i64.wrap (s.sum.Root + 1))) (vs := [.int .i64 (IntKind.i64.wrap (s.sum.Root + 1))]) (k := 2) (cs' := [.int .i64 s.sum.Ins, .int .i64 (IntKind.i64.wrap (s.sum.Vars + 1)), .int .i64 (IntKind.i64.wrap (s.sum.Root + 1)), .int .i64 s.sum.Phase, .slice B1 s.sum.Terms.length c, .slice B2 s.sum.Out.length c1, .map (some g), .slice B3 s.values.length c2]) hS23 k_sz_3_1 rfl rfl rfl rfl rfl rfl rfl (Nat.le_of_ble_eq_true rfl) rfl rfl) ?_
                rintro _ w_13 ⟨rfl, hS24⟩
                have hS24 : ST w0 (bl [⟨B, 107, [.int .i64 s.sum.Ins, .int .i64 s.sum.Vars, .int .i64 s.sum.Root, .int .i64 s.sum.Phase, .slice B1 s.sum.Terms.length c, .slice B2 s.sum.Out.length c1, .map (some g), .slice B3 s.values.length c2], 8⟩, ⟨(some ⟨g, 0, none⟩), .mp (mpE (Value.int .i64) (Value.int .i64) s.poly), [], 0⟩, ⟨B3, 61, (s.values.flatMap enc_Affine), c2 * 2⟩]) _ [⟨B, 107, [.int .i64 s.sum.Ins, .int .i64 (IntKind.i64.wrap (s.sum.Vars + 1)), .int .i64 (IntKind.i64.wrap (s.sum.Root + 1)), .int .i64 s.sum.Phase, .slice B1 s.sum.Terms.length c, .slice B2 s.sum.Out.length c1, .map (some g), .slice B3 s.values.length c2], 8⟩, ⟨B3, 61, ((s.values.set g1.A.toNat (TAffine.mk (shlK .i64 1 (IntKind.i64.wrap (s.sum.Ins + s.sum.Vars))) 0)).flatMap enc_Affine), c2 * 2⟩, ⟨some ⟨b, 0, none⟩, 76, [.int .i64 g1.Kind, .int .i64 g1.A, .int .i64 g1.B], 3⟩, ⟨some ⟨b2, 0, none⟩, 61, [.int .i64 (shlK .i64 1 (IntKind.i64.wrap (s.sum.Ins + s.sum.Vars))), .int .i64 0], 2⟩, ⟨(some ⟨g, 0, none⟩), .mp (mpE (Value.int .i64) (Value.int .i64) m4), [], 0⟩] [⟨B1, (s.sum.Terms.flatMap enc_Term)⟩, ⟨B2, (s.sum.Out.flatMap enc_Affine)⟩] := hS24
                refine rw_nil ?_
                refine cw_seq ?_
                refine cw_region ?_
                refine sq 4 rfl rfl (Y_assign (v := .bool true) rfl rfl) ?_
                refine rw_nil ?_
                refine cw_ret ?_
                obtain ⟨rfl, rfl, rfl, rfl, rfl⟩ := pr5 (some_inj hF6)
                exact ret1 Try.results116 (v1 := .bool true) (resAt_tmp rfl) ⟨rfl, (set_len _ _ _ rfl), (hS24.sel [0, 4, 1, 2] rfl rfl)⟩
              exact allR_nil
            exact allR_nil
          exact allR_nil
      rintro _ w_7 ⟨rfl, hl1, hd1⟩
      have hd1 : ST w0 (bl [⟨B, 107, [.int .i64 s.sum.Ins, .int .i64 s.sum.Vars, .int .i64 s.sum.Root, .int .i64 s.sum.Phase, .slice B1 s.sum.Terms.length c, .slice B2 s.sum.Out.length c1, .map (some g), .slice B3 s.values.length c2], 8⟩, ⟨(some ⟨g, 0, none⟩), .mp (mpE (Value.int .i64) (Value.int .i64) s.poly), [], 0⟩, ⟨B3, 61, (s.values.flatMap enc_Affine), c2 * 2⟩]) _ [⟨B, 107, [.int .i64 s.sum.Ins, .int .i64 Vars, .int .i64 Root, .int .i64 s.sum.Phase, .slice B1 s.sum.Terms.length c, .slice B2 s.sum.Out.length c1, .map (some g), .slice B3 s.values.length c2], 8⟩, ⟨(some ⟨g, 0, none⟩), .mp (mpE (Value.int .i64) (Value.int .i64) poly1), [], 0⟩, ⟨B3, 61, (values1.flatMap enc_Affine), c2 * 2⟩, ⟨some ⟨b, 0, none⟩, 76, [.int .i64 g1.Kind, .int .i64 g1.A, .int .i64 g1.B], 3⟩] [⟨B1, (s.sum.Terms.flatMap enc_Term)⟩, ⟨B2, (s.sum.Out.flatMap enc_Affine)⟩] := hd1
      refine sq 4 rfl rfl (Y_assign (v := .bool t) rfl rfl) ?_
      refine rw_nil ?_
      refine cw_ret ?_
      obtain rfl := some_inj hF2
      obtain ⟨rfl, rfl, rfl, rfl⟩ := pr4 (some_inj hF1)
      exact ret1 Try.results67 (v1 := .bool t) (resAt_tmp rfl) ⟨rfl, hl1, (ST.subR (R' := []) (hd1.sel [0, 1, 2] rfl rfl) (fun _ h => by cases h))⟩
    · skip
      have hF7 := cf' hz hb
      refine cw_seq ?_
      refine cw_region ?_
      refine sq 33 rfl rfl (Y_eq (k := .i64) (a := g1.Kind) (b := 2) rfl rfl rfl) ?_
      refine sq 32 rfl rfl (Y_assign (v := .bool (g1.Kind == 2)) rfl rfl) ?_
      refine rw_nil ?_
      refine cw_cond (b := (g1.Kind == 2)) rfl (fun hb3 => ?_) (fun hb3 => ?_)
      · skip
        have hF8 := ct hF7 hb3
        refine cw_region ?_
        refine sq 34 rfl rfl (Y_move (v := pt B3 (g1.A.toNat * 2)) rfl rfl) ?_
        refine sq 35 rfl rfl (Y_nilCheck (B := B3) (i := g1.A.toNat * 2) rfl rfl) ?_
        refine sq 36 rfl rfl (Y_fieldAddr (B := B3) (i := g1.A.toNat * 2) (s := 0) k_fd_61_1_1_3 k_sz_3_1 rfl rfl) ?_
        refine sq 37 rfl rfl (Y_load1 (B := B3) (i := g1.A.toNat * 2 + 1) (cs := (s.values.flatMap enc_Affine)) (v := .int .i64 x.Turn) k_sc_3 rfl rfl (hS2.cf (i := 2) rfl) (gi_at enc_Affine_len hx rfl)) ?_
        refine sq 38 rfl rfl (Y_bxor (k := .i64) (a := x.Turn) (b := 1) rfl rfl rfl) ?_
        refine sq 39 rfl rfl (Y_nilCheck (B := B3) (i := g1.A.toNat * 2) rfl rfl) ?_
        refine sq 40 rfl rfl (Y_fieldAddr (B := B3) (i := g1.A.toNat * 2) (s := 0) k_fd_61_1_1_3 k_sz_3_1 rfl rfl) ?_
        refine ss0 rfl rfl (Ys_store (i := 2) (s := 1) (B := B3) (T' := 61) (v := .int .i64 (bits .xor .i64 x.Turn 1)) (vs := [.int .i64 (bits .xor .i64 x.Turn 1)]) (k := g1.A.toNat * 2 + 1) (cs' := ((s.values.set g1.A.toNat (TAffine.mk x.Mask (bits .xor .i64 x.Turn 1))).flatMap enc_Affine)) hS2 k_sz_3_1 rfl rfl rfl rfl rfl rfl rfl (gi_fit enc_Affine_len hx (j := 1) (k := 1) (by decide)) (gi_setf enc_Affine_len hx (TAffine.mk x.Mask (bits .xor .i64 x.Turn 1)) rfl (Nat.le_of_ble_eq_true rfl)) rfl) ?_
        rintro _ w_14 ⟨rfl, hS25⟩
        have hS25 : ST w0 (bl [⟨B, 107, [.int .i64 s.sum.Ins, .int .i64 s.sum.Vars, .int .i64 s.sum.Root, .int .i64 s.sum.Phase, .slice B1 s.sum.Terms.length c, .slice B2 s.sum.Out.length c1, .map (some g), .slice B3 s.values.length c2], 8⟩, ⟨(some ⟨g, 0, none⟩), .mp (mpE (Value.int .i64) (Value.int .i64) s.poly), [], 0⟩, ⟨B3, 61, (s.values.flatMap enc_Affine), c2 * 2⟩]) _ [⟨B, 107, [.int .i64 s.sum.Ins, .int .i64 s.sum.Vars, .int .i64 s.sum.Root, .int .i64 s.sum.Phase, .slice B1 s.sum.Terms.length c, .slice B2 s.sum.Out.length c1, .map (some g), .slice B3 s.values.length c2], 8⟩, ⟨(some ⟨g, 0, none⟩), .mp (mpE (Value.int .i64) (Value.int .i64) s.poly), [], 0⟩, ⟨B3, 61, ((s.values.set g1.A.toNat (TAffine.mk x.Mask (bits .xor .i64 x.Turn 1))).flatMap enc_Affine), c2 * 2⟩, ⟨some ⟨b, 0, none⟩, 76, [.int .i64 g1.Kind, .int .i64 g1.A, .int .i64 g1.B], 3⟩] [⟨B1, (s.sum.Terms.flatMap enc_Term)⟩, ⟨B2, (s.sum.Out.flatMap enc_Affine)⟩] := hS25
        refine rw_nil ?_
        exact ⟨s.poly, (s.values.set g1.A.toNat (TAffine.mk x.Mask (bits .xor .i64 x.Turn 1))), (some_inj hF8), FF.nil, (set_len _ _ _ rfl), (hS25.sel [0, 1, 2] rfl rfl)⟩
      · skip
        have hF9 := cf' hF7 hb3
        refine cw_seq ?_
        refine cw_region ?_
        refine sq 42 rfl rfl (Y_eq (k := .i64) (a := g1.Kind) (b := 3) rfl rfl rfl) ?_
        refine sq 41 rfl rfl (Y_assign (v := .bool (g1.Kind == 3)) rfl rfl) ?_
        refine rw_nil ?_
        refine cw_cond (b := (g1.Kind == 3)) rfl (fun hb4 => ?_) (fun hb4 => ?_)
        · skip
          have hF10 := ct hF9 hb4
          refine cw_seq ?_
          refine cw_region ?_
          refine sq 43 rfl rfl (Y_move (v := pt B 0) rfl rfl) ?_
          refine sq 44 rfl rfl (Y_nilCheck (B := B) (i := 0) rfl rfl) ?_
          refine sq 45 rfl rfl (Y_fieldAddr (B := B) (i := 0) (s := 0) k_fd_107_1_6_105 k_sz_105_1 rfl rfl) ?_
          refine sq 46 rfl rfl (Y_load1 (B := B) (i := 6) (cs := [.int .i64 s.sum.Ins, .int .i64 s.sum.Vars, .int .i64 s.sum.Root, .int .i64 s.sum.Phase, .slice B1 s.sum.Terms.length c, .slice B2 s.sum.Out.length c1, .map (some g), .slice B3 s.values.length c2]) (v := .map (some g)) k_sc_105 rfl rfl (hS2.cf (i := 0) rfl) rfl) ?_
          obtain ⟨m5, hc3, hF10⟩ := bind_inv hF10
          refine sc 47 rfl rfl (Yc_func (g := 105) (vs := [.map (some g), .int .i64 0, .int .i64 2]) k_call_105 rfl (mc rfl (mc rfl (mc rfl mn))) (c_impl_polynomial_add s.poly 0 2 g _  (hS2.inn [false, true, false, false] rfl [] rfl) hc3)) ?_
          rintro _ w_15 ⟨rfl, hd3⟩
          have hS26 := hS2.out [false, true, false, false] rfl hd3
          have hS26 : ST w0 (bl [⟨B, 107, [.int .i64 s.sum.Ins, .int .i64 s.sum.Vars, .int .i64 s.sum.Root, .int .i64 s.sum.Phase, .slice B1 s.sum.Terms.length c, .slice B2 s.sum.Out.length c1, .map (some g), .slice B3 s.values.length c2], 8⟩, ⟨(some ⟨g, 0, none⟩), .mp (mpE (Value.int .i64) (Value.int .i64) s.poly), [], 0⟩, ⟨B3, 61, (s.values.flatMap enc_Affine), c2 * 2⟩]) _ [⟨B, 107, [.int .i64 s.sum.Ins, .int .i64 s.sum.Vars, .int .i64 s.sum.Root, .int .i64 s.sum.Phase, .slice B1 s.sum.Terms.length c, .slice B2 s.sum.Out.length c1, .map (some g), .slice B3 s.values.length c2], 8⟩, ⟨B3, 61, (s.values.flatMap enc_Affine), c2 * 2⟩, ⟨some ⟨b, 0, none⟩, 76, [.int .i64 g1.Kind, .int .i64 g1.A, .int .i64 g1.B], 3⟩, ⟨(some ⟨g, 0, none⟩), .mp (mpE (Value.int .i64) (Value.int .i64) m5), [], 0⟩] [⟨B1, (s.sum.Terms.flatMap enc_Term)⟩, ⟨B2, (s.sum.Out.flatMap enc_Affine)⟩] := hS26
          refine rw_nil ?_
          refine cw_seq ?_
          obtain ⟨m6, hc4, hF10⟩ := bind_inv hF10
          refine ra_start (ST.sel hS26 [0, 1, 2] rfl rfl).fn (by kernel_rfl) ?_
          have hS28 := hS26.drew
          refine ra_q 0 48 (v := pt B 0) rfl rfl rfl (by kernel_rfl) (by kernel_rfl) (by kernel_rfl) (ST.sel hS28 [0, 1, 2] rfl rfl) (fun w' hw' => (Y_move (v := pt B 0) rfl rfl)) ?_
          refine ra_q 1 49 (v := pt B 0) rfl rfl rfl (by kernel_rfl) (by kernel_rfl) (by kernel_rfl) (ST.sel hS28 [0, 1, 2] rfl rfl) (fun w' hw' => (Y_nilCheck (B := B) (i := 0) rfl rfl)) ?_
          refine ra_q 2 50 (v := pt B 6) rfl rfl rfl (by kernel_rfl) (by kernel_rfl) (by kernel_rfl) (ST.sel hS28 [0, 1, 2] rfl rfl) (fun w' hw' => (Y_fieldAddr (B := B) (i := 0) (s := 0) k_fd_107_1_6_105 k_sz_105_1 rfl rfl)) ?_
          refine ra_q 3 51 (v := .map (some g)) rfl rfl rfl (by kernel_rfl) (by kernel_rfl) (by kernel_rfl) (ST.sel hS28 [0, 1, 2] rfl rfl) (fun w' hw' => (Y_load1 (B := B) (i := 6) (cs := [.int .i64 s.sum.Ins, .int .i64 s.sum.Vars, .int .i64 s.sum.Root, .int .i64 s.sum.Phase, .slice B1 s.sum.Terms.length c, .slice B2 s.sum.Out.length c1, .map (some g), .slice B3 s.values.length c2]) (v := .map (some g)) k_sc_105 rfl rfl (ST.cf hw' (i := 0) rfl) rfl)) ?_
          refine ra_q 4 52 (v := pt B3 (g1.A.toNat * 2)) rfl rfl rfl (by kernel_rfl) (by kernel_rfl) (by kernel_rfl) (ST.sel hS28 [0, 1, 2] rfl rfl) (fun w' hw' => (Y_move (v := pt B3 (g1.A.toNat * 2)) rfl rfl)) ?_
          refine ra_q 5 53 (v := pt B3 (g1.A.toNat * 2)) rfl rfl rfl (by kernel_rfl) (by kernel_rfl) (by kernel_rfl) (ST.sel hS28 [0, 1, 2] rfl rfl) (fun w' hw' => (Y_nilCheck (B := B3) (i := g1.A.toNat * 2) rfl rfl)) ?_
          refine ra_q 6 54 (v := .agg #[.int .i64 x.Mask, .int .i64 x.Turn]) rfl rfl rfl (by kernel_rfl) (by kernel_rfl) (by kernel_rfl) (ST.sel hS28 [0, 1, 2] rfl rfl) (fun w' hw' => (Y_loadA (B := B3) (i := g1.A.toNat * 2) (cs := (s.values.flatMap enc_Affine)) (vs := [.int .i64 x.Mask, .int .i64 x.Turn]) k_ag_61 k_sz_61_2 rfl rfl (ST.cf hw' (i := 1) rfl) (enc_Affine_len x) (gi_seg enc_Affine_len hx))) ?_
          refine ra_all (rs := [7]) (by kernel_rfl) rfl ?_
          refine ra_c 55 (i := 7) rfl rfl rfl (Yc_func (g := 104) (vs := [.map (some g), .int .i64 4, .agg #[.int .i64 x.Mask, .int .i64 x.Turn], .int .i64 0]) k_call_104 rfl (mc rfl (mc rfl (mc rfl (mc rfl mn)))) (c_impl_polynomial_expand m5 4 x 0 g _  (hS28.inn [false, false, false, true] rfl [] rfl) hc4)) ?_ ?_
          · rintro _ w_16 ⟨rfl, hd4⟩
            have hS29 := hS28.out [false, false, false, true] rfl hd4
            have hS29 : ST w0 (bl [⟨B, 107, [.int .i64 s.sum.Ins, .int .i64 s.sum.Vars, .int .i64 s.sum.Root, .int .i64 s.sum.Phase, .slice B1 s.sum.Terms.length c, .slice B2 s.sum.Out.length c1, .map (some g), .slice B3 s.values.length c2], 8⟩, ⟨(some ⟨g, 0, none⟩), .mp (mpE (Value.int .i64) (Value.int .i64) s.poly), [], 0⟩, ⟨B3, 61, (s.values.flatMap enc_Affine), c2 * 2⟩]) _ [⟨B, 107, [.int .i64 s.sum.Ins, .int .i64 s.sum.Vars, .int .i64 s.sum.Root, .int .i64 s.sum.Phase, .slice B1 s.sum.Terms.length c, .slice B2 s.sum.Out.length c1, .map (some g), .slice B3 s.values.length c2], 8⟩, ⟨B3, 61, (s.values.flatMap enc_Affine), c2 * 2⟩, ⟨some ⟨b, 0, none⟩, 76, [.int .i64 g1.Kind, .int .i64 g1.A, .int .i64 g1.B], 3⟩, ⟨(some ⟨g, 0, none⟩), .mp (mpE (Value.int .i64) (Value.int .i64) m6), [], 0⟩] [⟨B1, (s.sum.Terms.flatMap enc_Term)⟩, ⟨B2, (s.sum.Out.flatMap enc_Affine)⟩] := hS29
            refine ⟨(ST.sel hS29 [0, 1, 2] rfl rfl), ?_⟩
            refine ra_done (by kernel_rfl) ?_
            refine cw_region ?_
            refine sq 56 rfl rfl (Y_move (v := pt B3 (g1.A.toNat * 2)) rfl rfl) ?_
            refine sq 57 rfl rfl (Y_nilCheck (B := B3) (i := g1.A.toNat * 2) rfl rfl) ?_
            refine sq 58 rfl rfl (Y_fieldAddr (B := B3) (i := g1.A.toNat * 2) (s := 0) k_fd_61_1_1_3 k_sz_3_1 rfl rfl) ?_
            refine sq 59 rfl rfl (Y_load1 (B := B3) (i := g1.A.toNat * 2 + 1) (cs := (s.values.flatMap enc_Affine)) (v := .int .i64 x.Turn) k_sc_3 rfl rfl (hS29.cf (i := 1) rfl) (gi_at enc_Affine_len hx rfl)) ?_
            refine sq 60 rfl rfl (Y_bxor (k := .i64) (a := x.Turn) (b := 1) rfl rfl rfl) ?_
            refine sq 61 rfl rfl (Y_nilCheck (B := B3) (i := g1.A.toNat * 2) rfl rfl) ?_
            refine sq 62 rfl rfl (Y_fieldAddr (B := B3) (i := g1.A.toNat * 2) (s := 0) k_fd_61_1_1_3 k_sz_3_1 rfl rfl) ?_
            refine ss0 rfl rfl (Ys_store (i := 1) (s := 1) (B := B3) (T' := 61) (v := .int .i64 (bits .xor .i64 x.Turn 1)) (vs := [.int .i64 (bits .xor .i64 x.Turn 1)]) (k := g1.A.toNat * 2 + 1) (cs' := ((s.values.set g1.A.toNat (TAffine.mk x.Mask (bits .xor .i64 x.Turn 1))).flatMap enc_Affine)) hS29 k_sz_3_1 rfl rfl rfl rfl rfl rfl rfl (gi_fit enc_Affine_len hx (j := 1) (k := 1) (by decide)) (gi_setf enc_Affine_len hx (TAffine.mk x.Mask (bits .xor .i64 x.Turn 1)) rfl (Nat.le_of_ble_eq_true rfl)) rfl) ?_
            rintro _ w_17 ⟨rfl, hS30⟩
            have hS30 : ST w0 (bl [⟨B, 107, [.int .i64 s.sum.Ins, .int .i64 s.sum.Vars, .int .i64 s.sum.Root, .int .i64 s.sum.Phase, .slice B1 s.sum.Terms.length c, .slice B2 s.sum.Out.length c1, .map (some g), .slice B3 s.values.length c2], 8⟩, ⟨(some ⟨g, 0, none⟩), .mp (mpE (Value.int .i64) (Value.int .i64) s.poly), [], 0⟩, ⟨B3, 61, (s.values.flatMap enc_Affine), c2 * 2⟩]) _ [⟨B, 107, [.int .i64 s.sum.Ins, .int .i64 s.sum.Vars, .int .i64 s.sum.Root, .int .i64 s.sum.Phase, .slice B1 s.sum.Terms.length c, .slice B2 s.sum.Out.length c1, .map (some g), .slice B3 s.values.length c2], 8⟩, ⟨B3, 61, ((s.values.set g1.A.toNat (TAffine.mk x.Mask (bits .xor .i64 x.Turn 1))).flatMap enc_Affine), c2 * 2⟩, ⟨some ⟨b, 0, none⟩, 76, [.int .i64 g1.Kind, .int .i64 g1.A, .int .i64 g1.B], 3⟩, ⟨(some ⟨g, 0, none⟩), .mp (mpE (Value.int .i64) (Value.int .i64) m6), [], 0⟩] [⟨B1, (s.sum.Terms.flatMap enc_Term)⟩, ⟨B2, (s.sum.Out.flatMap enc_Affine)⟩] := hS30
            refine rw_nil ?_
            exact ⟨m6, (s.values.set g1.A.toNat (TAffine.mk x.Mask (bits .xor .i64 x.Turn 1))), (some_inj hF10), FF.nil, (set_len _ _ _ rfl), (hS30.sel [0, 3, 1] rfl rfl)⟩
          exact allR_nil
        · skip
          have hF11 := cf' hF9 hb4
          refine cw_seq ?_
          refine cw_region ?_
          refine sq 64 rfl rfl (Y_eq (k := .i64) (a := g1.Kind) (b := 9) rfl rfl rfl) ?_
          refine sq 63 rfl rfl (Y_assign (v := .bool (g1.Kind == 9)) rfl rfl) ?_
          refine rw_nil ?_
          refine cw_cond (b := (g1.Kind == 9)) rfl (fun hb5 => ?_) (fun hb5 => ?_)
          · skip
            have hF12 := ct hF11 hb5
            refine cw_seq ?_
            obtain ⟨x1, hx1, hF12⟩ := bind_inv hF12
            refine cw_mid (fun f w => FF f [(0, pt B 0), (3, pt (some ⟨b, 0, none⟩) 0), (5, pt B3 (g1.A.toNat * 2))] ∧ ST w0 (bl [⟨B, 107, [.int .i64 s.sum.Ins, .int .i64 s.sum.Vars, .int .i64 s.sum.Root, .int .i64 s.sum.Phase, .slice B1 s.sum.Terms.length c, .slice B2 s.sum.Out.length c1, .map (some g), .slice B3 s.values.length c2], 8⟩, ⟨(some ⟨g, 0, none⟩), .mp (mpE (Value.int .i64) (Value.int .i64) s.poly), [], 0⟩, ⟨B3, 61, (s.values.flatMap enc_Affine), c2 * 2⟩]) w [⟨B, 107, [.int .i64 s.sum.Ins, .int .i64 s.sum.Vars, .int .i64 s.sum.Root, .int .i64 s.sum.Phase, .slice B1 s.sum.Terms.length c, .slice B2 s.sum.Out.length c1, .map (some g), .slice B3 s.values.length c2], 8⟩, ⟨(some ⟨g, 0, none⟩), .mp (mpE (Value.int .i64) (Value.int .i64) s.poly), [], 0⟩, ⟨B3, 61, ((s.values.set g1.B.toNat (TAffine.mk (bits .xor .i64 x1.Mask x.Mask) x1.Turn)).flatMap enc_Affine), c2 * 2⟩, ⟨some ⟨b, 0, none⟩, 76, [.int .i64 g1.Kind, .int .i64 g1.A, .int .i64 g1.B], 3⟩] [⟨B1, (s.sum.Terms.flatMap enc_Term)⟩, ⟨B2, (s.sum.Out.flatMap enc_Affine)⟩]) ?_ ?_
            · skip
              refine ra_start (ST.sel hS2 [0, 1, 3] rfl rfl).fn (by kernel_rfl) ?_
              have hS32 := hS2.drew
              refine ra_q 0 65 (v := pt B 0) rfl rfl rfl (by kernel_rfl) (by kernel_rfl) (by kernel_rfl) (ST.sel hS32 [0, 1, 3] rfl rfl) (fun w' hw' => (Y_move (v := pt B 0) rfl rfl)) ?_
              refine ra_q 1 66 (v := pt B 0) rfl rfl rfl (by kernel_rfl) (by kernel_rfl) (by kernel_rfl) (ST.sel hS32 [0, 1, 3] rfl rfl) (fun w' hw' => (Y_nilCheck (B := B) (i := 0) rfl rfl)) ?_
              refine ra_q 2 67 (v := pt B 7) rfl rfl rfl (by kernel_rfl) (by kernel_rfl) (by kernel_rfl) (ST.sel hS32 [0, 1, 3] rfl rfl) (fun w' hw' => (Y_fieldAddr (B := B) (i := 0) (s := 0) k_fd_107_2_7_55 k_sz_55_1 rfl rfl)) ?_
              refine ra_q 3 68 (v := .slice B3 s.values.length c2) rfl rfl rfl (by kernel_rfl) (by kernel_rfl) (by kernel_rfl) (ST.sel hS32 [0, 1, 3] rfl rfl) (fun w' hw' => (Y_load1 (B := B) (i := 7) (cs := [.int .i64 s.sum.Ins, .int .i64 s.sum.Vars, .int .i64 s.sum.Root, .int .i64 s.sum.Phase, .slice B1 s.sum.Terms.length c, .slice B2 s.sum.Out.length c1, .map (some g), .slice B3 s.values.length c2]) (v := .slice B3 s.values.length c2) k_sc_55 rfl rfl (ST.cf hw' (i := 0) rfl) rfl)) ?_
              refine ra_q 4 69 (v := pt (some ⟨b, 0, none⟩) 2) rfl rfl rfl (by kernel_rfl) (by kernel_rfl) (by kernel_rfl) (ST.sel hS32 [0, 1, 3] rfl rfl) (fun w' hw' => (Y_fieldAddr (B := some ⟨b, 0, none⟩) (i := 0) (s := 0) k_fd_76_2_2_3 k_sz_3_1 rfl rfl)) ?_
              refine ra_q 5 70 (v := .int .i64 g1.B) rfl rfl rfl (by kernel_rfl) (by kernel_rfl) (by kernel_rfl) (ST.sel hS32 [0, 1, 3] rfl rfl) (fun w' hw' => (Y_load1 (B := some ⟨b, 0, none⟩) (i := 2) (cs := [.int .i64 g1.Kind, .int .i64 g1.A, .int .i64 g1.B]) (v := .int .i64 g1.B) k_sc_3 rfl rfl (ST.cf hw' (i := 2) rfl) rfl)) ?_
              refine ra_q 9 74 (v := pt B3 (g1.A.toNat * 2)) rfl rfl rfl (by kernel_rfl) (by kernel_rfl) (by kernel_rfl) (ST.sel hS32 [0, 1, 3] rfl rfl) (fun w' hw' => (Y_move (v := pt B3 (g1.A.toNat * 2)) rfl rfl)) ?_
              refine ra_q 10 75 (v := pt B3 (g1.A.toNat * 2)) rfl rfl rfl (by kernel_rfl) (by kernel_rfl) (by kernel_rfl) (ST.sel hS32 [0, 1, 3] rfl rfl) (fun w' hw' => (Y_nilCheck (B := B3) (i := g1.A.toNat * 2) rfl rfl)) ?_
              refine ra_q 11 76 (v := pt B3 (g1.A.toNat * 2 + 0)) rfl rfl rfl (by kernel_rfl) (by kernel_rfl) (by kernel_rfl) (ST.sel hS32 [0, 1, 3] rfl rfl) (fun w' hw' => (Y_fieldAddr (B := B3) (i := g1.A.toNat * 2) (s := 0) k_fd_61_0_0_3 k_sz_3_1 rfl rfl)) ?_
              refine ra_all (rs := [6, 12]) (by kernel_rfl) rfl ?_
              refine ra_y 71 (i := 6) (v := pt B3 (g1.B.toNat * 2)) rfl rfl rfl (Y_index (B := B3) (m := s.values.length) (c := c2) (k := .i64) (i := g1.B) k_sl_55_61 k_sz_61_2 rfl rfl rfl (gi_isSome enc_Affine_len rfl (hS32.cf (i := 2) rfl) hx1) (getI_nn hx1) (getI_ltI hx1 rfl)) (ST.sel hS32 [0, 1, 3] rfl rfl) ?_ ?_
              · skip
                refine ra_q 7 72 (v := pt B3 (g1.B.toNat * 2 + 0)) rfl rfl rfl (by kernel_rfl) (by kernel_rfl) (by kernel_rfl) (ST.sel hS32 [0, 1, 3] rfl rfl) (fun w' hw' => (Y_fieldAddr (B := B3) (i := g1.B.toNat * 2) (s := 0) k_fd_61_0_0_3 k_sz_3_1 rfl rfl)) ?_
                refine ra_all (rs := [8, 12]) (by kernel_rfl) rfl ?_
                refine ra_y 73 (i := 8) (v := .int .i64 x1.Mask) rfl rfl rfl (Y_load1 (B := B3) (i := g1.B.toNat * 2 + 0) (cs := (s.values.flatMap enc_Affine)) (v := .int .i64 x1.Mask) k_sc_3 rfl rfl (hS32.cf (i := 2) rfl) (gi_at enc_Affine_len hx1 rfl)) (ST.sel hS32 [0, 1, 3] rfl rfl) ?_ ?_
                · skip
                  refine ra_all (rs := [12]) (by kernel_rfl) rfl ?_
                  refine ra_y 77 (i := 12) (v := .int .i64 x.Mask) rfl rfl rfl (Y_load1 (B := B3) (i := g1.A.toNat * 2 + 0) (cs := (s.values.flatMap enc_Affine)) (v := .int .i64 x.Mask) k_sc_3 rfl rfl (hS32.cf (i := 2) rfl) (gi_at enc_Affine_len hx rfl)) (ST.sel hS32 [0, 1, 3] rfl rfl) ?_ ?_
                  · skip
                    refine ra_q 13 78 (v := .int .i64 (bits .xor .i64 x1.Mask x.Mask)) rfl rfl rfl (by kernel_rfl) (by kernel_rfl) (by kernel_rfl) (ST.sel hS32 [0, 1, 3] rfl rfl) (fun w' hw' => (Y_bxor (k := .i64) (a := x1.Mask) (b := x.Mask) rfl rfl rfl)) ?_
                    refine ra_all (rs := [14]) (by kernel_rfl) rfl ?_
                    refine ra_y 79 (i := 14) (v := pt B3 (g1.B.toNat * 2)) rfl rfl rfl (Y_index (B := B3) (m := s.values.length) (c := c2) (k := .i64) (i := g1.B) k_sl_55_61 k_sz_61_2 rfl rfl rfl (gi_isSome enc_Affine_len rfl (hS32.cf (i := 2) rfl) hx1) (getI_nn hx1) (getI_ltI hx1 rfl)) (ST.sel hS32 [0, 1, 3] rfl rfl) ?_ ?_
                    · skip
                      refine ra_q 15 80 (v := pt B3 (g1.B.toNat * 2 + 0)) rfl rfl rfl (by kernel_rfl) (by kernel_rfl) (by kernel_rfl) (ST.sel hS32 [0, 1, 3] rfl rfl) (fun w' hw' => (Y_fieldAddr (B := B3) (i := g1.B.toNat * 2) (s := 0) k_fd_61_0_0_3 k_sz_3_1 rfl rfl)) ?_
                      refine ra_all (rs := [16]) (by kernel_rfl) rfl ?_
                      refine ra_s0 (i := 16) rfl rfl rfl (Ys_store (i := 2) (s := 1) (B := B3) (T' := 61) (v := .int .i64 (bits .xor .i64 x1.Mask x.Mask)) (vs := [.int .i64 (bits .xor .i64 x1.Mask x.Mask)]) (k := g1.B.toNat * 2 + 0) (cs' := ((s.values.set g1.B.toNat (TAffine.mk (bits .xor .i64 x1.Mask x.Mask) x1.Turn)).flatMap enc_Affine)) hS32 k_sz_3_1 rfl rfl rfl rfl rfl rfl rfl (gi_fit enc_Affine_len hx1 (j := 0) (k := 1) (by decide)) (gi_setf enc_Affine_len hx1 (TAffine.mk (bits .xor .i64 x1.Mask x.Mask) x1.Turn) rfl (Nat.le_of_ble_eq_true rfl)) rfl) ?_ ?_
                      · rintro _ w_18 ⟨rfl, hS33⟩
                        have hS33 : ST w0 (bl [⟨B, 107, [.int .i64 s.sum.Ins, .int .i64 s.sum.Vars, .int .i64 s.sum.Root, .int .i64 s.sum.Phase, .slice B1 s.sum.Terms.length c, .slice B2 s.sum.Out.length c1, .map (some g), .slice B3 s.values.length c2], 8⟩, ⟨(some ⟨g, 0, none⟩), .mp (mpE (Value.int .i64) (Value.int .i64) s.poly), [], 0⟩, ⟨B3, 61, (s.values.flatMap enc_Affine), c2 * 2⟩]) _ [⟨B, 107, [.int .i64 s.sum.Ins, .int .i64 s.sum.Vars, .int .i64 s.sum.Root, .int .i64 s.sum.Phase, .slice B1 s.sum.Terms.length c, .slice B2 s.sum.Out.length c1, .map (some g), .slice B3 s.values.length c2], 8⟩, ⟨(some ⟨g, 0, none⟩), .mp (mpE (Value.int .i64) (Value.int .i64) s.poly), [], 0⟩, ⟨B3, 61, ((s.values.set g1.B.toNat (TAffine.mk (bits .xor .i64 x1.Mask x.Mask) x1.Turn)).flatMap enc_Affine), c2 * 2⟩, ⟨some ⟨b, 0, none⟩, 76, [.int .i64 g1.Kind, .int .i64 g1.A, .int .i64 g1.B], 3⟩] [⟨B1, (s.sum.Terms.flatMap enc_Term)⟩, ⟨B2, (s.sum.Out.flatMap enc_Affine)⟩] := hS33
                        refine ⟨(ST.sel hS33 [0, 1, 3] rfl rfl), ?_⟩
                        refine ra_done (by kernel_rfl) ?_
                        exact ⟨(FF.cons rfl (FF.cons rfl (FF.cons rfl FF.nil))), (hS33.sel [0, 1, 2, 3] rfl rfl)⟩
                      exact allR_nil
                    exact allR_nil
                  exact allR_nil
                refine ra_y 77 (i := 12) (v := .int .i64 x.Mask) rfl rfl rfl (Y_load1 (B := B3) (i := g1.A.toNat * 2 + 0) (cs := (s.values.flatMap enc_Affine)) (v := .int .i64 x.Mask) k_sc_3 rfl rfl (hS32.cf (i := 2) rfl) (gi_at enc_Affine_len hx rfl)) (ST.sel hS32 [0, 1, 3] rfl rfl) ?_ ?_
                · skip
                  refine ra_all (rs := [8]) (by kernel_rfl) rfl ?_
                  refine ra_y 73 (i := 8) (v := .int .i64 x1.Mask) rfl rfl rfl (Y_load1 (B := B3) (i := g1.B.toNat * 2 + 0) (cs := (s.values.flatMap enc_Affine)) (v := .int .i64 x1.Mask) k_sc_3 rfl rfl (hS32.cf (i := 2) rfl) (gi_at enc_Affine_len hx1 rfl)) (ST.sel hS32 [0, 1, 3] rfl rfl) ?_ ?_
                  · skip
                    refine ra_q 13 78 (v := .int .i64 (bits .xor .i64 x1.Mask x.Mask)) rfl rfl rfl (by kernel_rfl) (by kernel_rfl) (by kernel_rfl) (ST.sel hS32 [0, 1, 3] rfl rfl) (fun w' hw' => (Y_bxor (k := .i64) (a := x1.Mask) (b := x.Mask) rfl rfl rfl)) ?_
                    refine ra_all (rs := [14]) (by kernel_rfl) rfl ?_
                    refine ra_y 79 (i := 14) (v := pt B3 (g1.B.toNat * 2)) rfl rfl rfl (Y_index (B := B3) (m := s.values.length) (c := c2) (k := .i64) (i := g1.B) k_sl_55_61 k_sz_61_2 rfl rfl rfl (gi_isSome enc_Affine_len rfl (hS32.cf (i := 2) rfl) hx1) (getI_nn hx1) (getI_ltI hx1 rfl)) (ST.sel hS32 [0, 1, 3] rfl rfl) ?_ ?_
                    · skip
                      refine ra_q 15 80 (v := pt B3 (g1.B.toNat * 2 + 0)) rfl rfl rfl (by kernel_rfl) (by kernel_rfl) (by kernel_rfl) (ST.sel hS32 [0, 1, 3] rfl rfl) (fun w' hw' => (Y_fieldAddr (B := B3) (i := g1.B.toNat * 2) (s := 0) k_fd_61_0_0_3 k_sz_3_1 rfl rfl)) ?_
                      refine ra_all (rs := [16]) (by kernel_rfl) rfl ?_
                      refine ra_s0 (i := 16) rfl rfl rfl (Ys_store (i := 2) (s := 1) (B := B3) (T' := 61) (v := .int .i64 (bits .xor .i64 x1.Mask x.Mask)) (vs := [.int .i64 (bits .xor .i64 x1.Mask x.Mask)]) (k := g1.B.toNat * 2 + 0) (cs' := ((s.values.set g1.B.toNat (TAffine.mk (bits .xor .i64 x1.Mask x.Mask) x1.Turn)).flatMap enc_Affine)) hS32 k_sz_3_1 rfl rfl rfl rfl rfl rfl rfl (gi_fit enc_Affine_len hx1 (j := 0) (k := 1) (by decide)) (gi_setf enc_Affine_len hx1 (TAffine.mk (bits .xor .i64 x1.Mask x.Mask) x1.Turn) rfl (Nat.le_of_ble_eq_true rfl)) rfl) ?_ ?_
                      · rintro _ w_19 ⟨rfl, hS34⟩
                        have hS34 : ST w0 (bl [⟨B, 107, [.int .i64 s.sum.Ins, .int .i64 s.sum.Vars, .int .i64 s.sum.Root, .int .i64 s.sum.Phase, .slice B1 s.sum.Terms.length c, .slice B2 s.sum.Out.length c1, .map (some g), .slice B3 s.values.length c2], 8⟩, ⟨(some ⟨g, 0, none⟩), .mp (mpE (Value.int .i64) (Value.int .i64) s.poly), [], 0⟩, ⟨B3, 61, (s.values.flatMap enc_Affine), c2 * 2⟩]) _ [⟨B, 107, [.int .i64 s.sum.Ins, .int .i64 s.sum.Vars, .int .i64 s.sum.Root, .int .i64 s.sum.Phase, .slice B1 s.sum.Terms.length c, .slice B2 s.sum.Out.length c1, .map (some g), .slice B3 s.values.length c2], 8⟩, ⟨(some ⟨g, 0, none⟩), .mp (mpE (Value.int .i64) (Value.int .i64) s.poly), [], 0⟩, ⟨B3, 61, ((s.values.set g1.B.toNat (TAffine.mk (bits .xor .i64 x1.Mask x.Mask) x1.Turn)).flatMap enc_Affine), c2 * 2⟩, ⟨some ⟨b, 0, none⟩, 76, [.int .i64 g1.Kind, .int .i64 g1.A, .int .i64 g1.B], 3⟩] [⟨B1, (s.sum.Terms.flatMap enc_Term)⟩, ⟨B2, (s.sum.Out.flatMap enc_Affine)⟩] := hS34
                        refine ⟨(ST.sel hS34 [0, 1, 3] rfl rfl), ?_⟩
                        refine ra_done (by kernel_rfl) ?_
                        exact ⟨(FF.cons rfl (FF.cons rfl (FF.cons rfl FF.nil))), (hS34.sel [0, 1, 2, 3] rfl rfl)⟩
                      exact allR_nil
                    exact allR_nil
                  exact allR_nil
                exact allR_nil
              refine ra_y 77 (i := 12) (v := .int .i64 x.Mask) rfl rfl rfl (Y_load1 (B := B3) (i := g1.A.toNat * 2 + 0) (cs := (s.values.flatMap enc_Affine)) (v := .int .i64 x.Mask) k_sc_3 rfl rfl (hS32.cf (i := 2) rfl) (gi_at enc_Affine_len hx rfl)) (ST.sel hS32 [0, 1, 3] rfl rfl) ?_ ?_
              · skip
                refine ra_all (rs := [6]) (by kernel_rfl) rfl ?_
                refine ra_y 71 (i := 6) (v := pt B3 (g1.B.toNat * 2)) rfl rfl rfl (Y_index (B := B3) (m := s.values.length) (c := c2) (k := .i64) (i := g1.B) k_sl_55_61 k_sz_61_2 rfl rfl rfl (gi_isSome enc_Affine_len rfl (hS32.cf (i := 2) rfl) hx1) (getI_nn hx1) (getI_ltI hx1 rfl)) (ST.sel hS32 [0, 1, 3] rfl rfl) ?_ ?_
                · skip
                  refine ra_q 7 72 (v := pt B3 (g1.B.toNat * 2 + 0)) rfl rfl rfl (by kernel_rfl) (by kernel_rfl) (by kernel_rfl) (ST.sel hS32 [0, 1, 3] rfl rfl) (fun w' hw' => (Y_fieldAddr (B := B3) (i := g1.B.toNat * 2) (s := 0) k_fd_61_0_0_3 k_sz_3_1 rfl rfl)) ?_
                  refine ra_all (rs := [8]) (by kernel_rfl) rfl ?_
                  refine ra_y 73 (i := 8) (v := .int .i64 x1.Mask) rfl rfl rfl (Y_load1 (B := B3) (i := g1.B.toNat * 2 + 0) (cs := (s.values.flatMap enc_Affine)) (v := .int .i64 x1.Mask) k_sc_3 rfl rfl (hS32.cf (i := 2) rfl) (gi_at enc_Affine_len hx1 rfl)) (ST.sel hS32 [0, 1, 3] rfl rfl) ?_ ?_
                  · skip
                    refine ra_q 13 78 (v := .int .i64 (bits .xor .i64 x1.Mask x.Mask)) rfl rfl rfl (by kernel_rfl) (by kernel_rfl) (by kernel_rfl) (ST.sel hS32 [0, 1, 3] rfl rfl) (fun w' hw' => (Y_bxor (k := .i64) (a := x1.Mask) (b := x.Mask) rfl rfl rfl)) ?_
                    refine ra_all (rs := [14]) (by kernel_rfl) rfl ?_
                    refine ra_y 79 (i := 14) (v := pt B3 (g1.B.toNat * 2)) rfl rfl rfl (Y_index (B := B3) (m := s.values.length) (c := c2) (k := .i64) (i := g1.B) k_sl_55_61 k_sz_61_2 rfl rfl rfl (gi_isSome enc_Affine_len rfl (hS32.cf (i := 2) rfl) hx1) (getI_nn hx1) (getI_ltI hx1 rfl)) (ST.sel hS32 [0, 1, 3] rfl rfl) ?_ ?_
                    · skip
                      refine ra_q 15 80 (v := pt B3 (g1.B.toNat * 2 + 0)) rfl rfl rfl (by kernel_rfl) (by kernel_rfl) (by kernel_rfl) (ST.sel hS32 [0, 1, 3] rfl rfl) (fun w' hw' => (Y_fieldAddr (B := B3) (i := g1.B.toNat * 2) (s := 0) k_fd_61_0_0_3 k_sz_3_1 rfl rfl)) ?_
                      refine ra_all (rs := [16]) (by kernel_rfl) rfl ?_
                      refine ra_s0 (i := 16) rfl rfl rfl (Ys_store (i := 2) (s := 1) (B := B3) (T' := 61) (v := .int .i64 (bits .xor .i64 x1.Mask x.Mask)) (vs := [.int .i64 (bits .xor .i64 x1.Mask x.Mask)]) (k := g1.B.toNat * 2 + 0) (cs' := ((s.values.set g1.B.toNat (TAffine.mk (bits .xor .i64 x1.Mask x.Mask) x1.Turn)).flatMap enc_Affine)) hS32 k_sz_3_1 rfl rfl rfl rfl rfl rfl rfl (gi_fit enc_Affine_len hx1 (j := 0) (k := 1) (by decide)) (gi_setf enc_Affine_len hx1 (TAffine.mk (bits .xor .i64 x1.Mask x.Mask) x1.Turn) rfl (Nat.le_of_ble_eq_true rfl)) rfl) ?_ ?_
                      · rintro _ w_20 ⟨rfl, hS35⟩
                        have hS35 : ST w0 (bl [⟨B, 107, [.int .i64 s.sum.Ins, .int .i64 s.sum.Vars, .int .i64 s.sum.Root, .int .i64 s.sum.Phase, .slice B1 s.sum.Terms.length c, .slice B2 s.sum.Out.length c1, .map (some g), .slice B3 s.values.length c2], 8⟩, ⟨(some ⟨g, 0, none⟩), .mp (mpE (Value.int .i64) (Value.int .i64) s.poly), [], 0⟩, ⟨B3, 61, (s.values.flatMap enc_Affine), c2 * 2⟩]) _ [⟨B, 107, [.int .i64 s.sum.Ins, .int .i64 s.sum.Vars, .int .i64 s.sum.Root, .int .i64 s.sum.Phase, .slice B1 s.sum.Terms.length c, .slice B2 s.sum.Out.length c1, .map (some g), .slice B3 s.values.length c2], 8⟩, ⟨(some ⟨g, 0, none⟩), .mp (mpE (Value.int .i64) (Value.int .i64) s.poly), [], 0⟩, ⟨B3, 61, ((s.values.set g1.B.toNat (TAffine.mk (bits .xor .i64 x1.Mask x.Mask) x1.Turn)).flatMap enc_Affine), c2 * 2⟩, ⟨some ⟨b, 0, none⟩, 76, [.int .i64 g1.Kind, .int .i64 g1.A, .int .i64 g1.B], 3⟩] [⟨B1, (s.sum.Terms.flatMap enc_Term)⟩, ⟨B2, (s.sum.Out.flatMap enc_Affine)⟩] := hS35
                        refine ⟨(ST.sel hS35 [0, 1, 3] rfl rfl), ?_⟩
                        refine ra_done (by kernel_rfl) ?_
                        exact ⟨(FF.cons rfl (FF.cons rfl (FF.cons rfl FF.nil))), (hS35.sel [0, 1, 2, 3] rfl rfl)⟩
                      exact allR_nil
                    exact allR_nil
                  exact allR_nil
                exact allR_nil
              exact allR_nil
            rintro f w ⟨hf2, hS31⟩
            obtain ⟨x2, hx2, hF12⟩ := bind_inv hF12
            obtain ⟨x3, hx3, hF12⟩ := bind_inv hF12
            refine cw_mid (fun f w => FF f [] ∧ ST w0 (bl [⟨B, 107, [.int .i64 s.sum.Ins, .int .i64 s.sum.Vars, .int .i64 s.sum.Root, .int .i64 s.sum.Phase, .slice B1 s.sum.Terms.length c, .slice B2 s.sum.Out.length c1, .map (some g), .slice B3 s.values.length c2], 8⟩, ⟨(some ⟨g, 0, none⟩), .mp (mpE (Value.int .i64) (Value.int .i64) s.poly), [], 0⟩, ⟨B3, 61, (s.values.flatMap enc_Affine), c2 * 2⟩]) w [⟨B, 107, [.int .i64 s.sum.Ins, .int .i64 s.sum.Vars, .int .i64 s.sum.Root, .int .i64 s.sum.Phase, .slice B1 s.sum.Terms.length c, .slice B2 s.sum.Out.length c1, .map (some g), .slice B3 s.values.length c2], 8⟩, ⟨(some ⟨g, 0, none⟩), .mp (mpE (Value.int .i64) (Value.int .i64) s.poly), [], 0⟩, ⟨B3, 61, (((s.values.set g1.B.toNat (TAffine.mk (bits .xor .i64 x1.Mask x.Mask) x1.Turn)).set g1.B.toNat (TAffine.mk x2.Mask (bits .xor .i64 x2.Turn x3.Turn))).flatMap enc_Affine), c2 * 2⟩] [⟨B1, (s.sum.Terms.flatMap enc_Term)⟩, ⟨B2, (s.sum.Out.flatMap enc_Affine)⟩]) ?_ ?_
            · skip
              refine ra_start (ST.sel hS31 [0, 1, 3] rfl rfl).fn (by kernel_rfl) ?_
              have hS37 := hS31.drew
              refine ra_q 0 81 (v := pt B 0) rfl rfl rfl (by kernel_rfl) (by kernel_rfl) (by kernel_rfl) (ST.sel hS37 [0, 1, 3] rfl rfl) (fun w' hw' => (Y_move (v := pt B 0) rfl (hf2.get 0 0 rfl))) ?_
              refine ra_q 1 82 (v := pt B 0) rfl rfl rfl (by kernel_rfl) (by kernel_rfl) (by kernel_rfl) (ST.sel hS37 [0, 1, 3] rfl rfl) (fun w' hw' => (Y_nilCheck (B := B) (i := 0) rfl rfl)) ?_
              refine ra_q 2 83 (v := pt B 7) rfl rfl rfl (by kernel_rfl) (by kernel_rfl) (by kernel_rfl) (ST.sel hS37 [0, 1, 3] rfl rfl) (fun w' hw' => (Y_fieldAddr (B := B) (i := 0) (s := 0) k_fd_107_2_7_55 k_sz_55_1 rfl rfl)) ?_
              refine ra_q 3 84 (v := .slice B3 s.values.length c2) rfl rfl rfl (by kernel_rfl) (by kernel_rfl) (by kernel_rfl) (ST.sel hS37 [0, 1, 3] rfl rfl) (fun w' hw' => (Y_load1 (B := B) (i := 7) (cs := [.int .i64 s.sum.Ins, .int .i64 s.sum.Vars, .int .i64 s.sum.Root, .int .i64 s.sum.Phase, .slice B1 s.sum.Terms.length c, .slice B2 s.sum.Out.length c1, .map (some g), .slice B3 s.values.length c2]) (v := .slice B3 s.values.length c2) k_sc_55 rfl rfl (ST.cf hw' (i := 0) rfl) rfl)) ?_
              refine ra_q 4 85 (v := pt (some ⟨b, 0, none⟩) 2) rfl rfl rfl (by kernel_rfl) (by kernel_rfl) (by kernel_rfl) (ST.sel hS37 [0, 1, 3] rfl rfl) (fun w' hw' => (Y_fieldAddr (B := some ⟨b, 0, none⟩) (i := 0) (s := 0) k_fd_76_2_2_3 k_sz_3_1 rfl (hf2.get 3 1 rfl))) ?_
              refine ra_q 5 86 (v := .int .i64 g1.B) rfl rfl rfl (by kernel_rfl) (by kernel_rfl) (by kernel_rfl) (ST.sel hS37 [0, 1, 3] rfl rfl) (fun w' hw' => (Y_load1 (B := some ⟨b, 0, none⟩) (i := 2) (cs := [.int .i64 g1.Kind, .int .i64 g1.A, .int .i64 g1.B]) (v := .int .i64 g1.B) k_sc_3 rfl rfl (ST.cf hw' (i := 2) rfl) rfl)) ?_
              refine ra_q 9 90 (v := pt B3 (g1.A.toNat * 2)) rfl rfl rfl (by kernel_rfl) (by kernel_rfl) (by kernel_rfl) (ST.sel hS37 [0, 1, 3] rfl rfl) (fun w' hw' => (Y_move (v := pt B3 (g1.A.toNat * 2)) rfl (hf2.get 5 2 rfl))) ?_
              refine ra_q 10 91 (v := pt B3 (g1.A.toNat * 2)) rfl rfl rfl (by kernel_rfl) (by kernel_rfl) (by kernel_rfl) (ST.sel hS37 [0, 1, 3] rfl rfl) (fun w' hw' => (Y_nilCheck (B := B3) (i := g1.A.toNat * 2) rfl rfl)) ?_
              refine ra_q 11 92 (v := pt B3 (g1.A.toNat * 2 + 1)) rfl rfl rfl (by kernel_rfl) (by kernel_rfl) (by kernel_rfl) (ST.sel hS37 [0, 1, 3] rfl rfl) (fun w' hw' => (Y_fieldAddr (B := B3) (i := g1.A.toNat * 2) (s := 0) k_fd_61_1_1_3 k_sz_3_1 rfl rfl)) ?_
              refine ra_all (rs := [6, 12]) (by kernel_rfl) rfl ?_
              refine ra_y 87 (i := 6) (v := pt B3 (g1.B.toNat * 2)) rfl rfl rfl (Y_index (B := B3) (m := s.values.length) (c := c2) (k := .i64) (i := g1.B) k_sl_55_61 k_sz_61_2 rfl rfl rfl (gi_isSome enc_Affine_len rfl (hS37.cf (i := 2) rfl) hx2) (getI_nn hx2) (getI_ltI hx2 (set_len _ _ _ rfl))) (ST.sel hS37 [0, 1, 3] rfl rfl) ?_ ?_
              · skip
                refine ra_q 7 88 (v := pt B3 (g1.B.toNat * 2 + 1)) rfl rfl rfl (by kernel_rfl) (by kernel_rfl) (by kernel_rfl) (ST.sel hS37 [0, 1, 3] rfl rfl) (fun w' hw' => (Y_fieldAddr (B := B3) (i := g1.B.toNat * 2) (s := 0) k_fd_61_1_1_3 k_sz_3_1 rfl rfl)) ?_
                refine ra_all (rs := [8, 12]) (by kernel_rfl) rfl ?_
                refine ra_y 89 (i := 8) (v := .int .i64 x2.Turn) rfl rfl rfl (Y_load1 (B := B3) (i := g1.B.toNat * 2 + 1) (cs := ((s.values.set g1.B.toNat (TAffine.mk (bits .xor .i64 x1.Mask x.Mask) x1.Turn)).flatMap enc_Affine)) (v := .int .i64 x2.Turn) k_sc_3 rfl rfl (hS37.cf (i := 2) rfl) (gi_at enc_Affine_len hx2 rfl)) (ST.sel hS37 [0, 1, 3] rfl rfl) ?_ ?_
                · skip
                  refine ra_all (rs := [12]) (by kernel_rfl) rfl ?_
                  refine ra_y 93 (i := 12) (v := .int .i64 x3.Turn) rfl rfl rfl (Y_load1 (B := B3) (i := g1.A.toNat * 2 + 1) (cs := ((s.values.set g1.B.toNat (TAffine.mk (bits .xor .i64 x1.Mask x.Mask) x1.Turn)).flatMap enc_Affine)) (v := .int .i64 x3.Turn) k_sc_3 rfl rfl (hS37.cf (i := 2) rfl) (gi_at enc_Affine_len hx3 rfl)) (ST.sel hS37 [0, 1, 3] rfl rfl) ?_ ?_
                  · skip
                    refine ra_q 13 94 (v := .int .i64 (bits .xor .i64 x2.Turn x3.Turn)) rfl rfl rfl (by kernel_rfl) (by kernel_rfl) (by kernel_rfl) (ST.sel hS37 [0, 1, 3] rfl rfl) (fun w' hw' => (Y_bxor (k := .i64) (a := x2.Turn) (b := x3.Turn) rfl rfl rfl)) ?_
                    refine ra_all (rs := [14]) (by kernel_rfl) rfl ?_
                    refine ra_y 95 (i := 14) (v := pt B3 (g1.B.toNat * 2)) rfl rfl rfl (Y_index (B := B3) (m := s.values.length) (c := c2) (k := .i64) (i := g1.B) k_sl_55_61 k_sz_61_2 rfl rfl rfl (gi_isSome enc_Affine_len rfl (hS37.cf (i := 2) rfl) hx2) (getI_nn hx2) (getI_ltI hx2 (set_len _ _ _ rfl))) (ST.sel hS37 [0, 1, 3] rfl rfl) ?_ ?_
                    · skip
                      refine ra_q 15 96 (v := pt B3 (g1.B.toNat * 2 + 1)) rfl rfl rfl (by kernel_rfl) (by kernel_rfl) (by kernel_rfl) (ST.sel hS37 [0, 1, 3] rfl rfl) (fun w' hw' => (Y_fieldAddr (B := B3) (i := g1.B.toNat * 2) (s := 0) k_fd_61_1_1_3 k_sz_3_1 rfl rfl)) ?_
                      refine ra_all (rs := [16]) (by kernel_rfl) rfl ?_
                      refine ra_s0 (i := 16) rfl rfl rfl (Ys_store (i := 2) (s := 1) (B := B3) (T' := 61) (v := .int .i64 (bits .xor .i64 x2.Turn x3.Turn)) (vs := [.int .i64 (bits .xor .i64 x2.Turn x3.Turn)]) (k := g1.B.toNat * 2 + 1) (cs' := (((s.values.set g1.B.toNat (TAffine.mk (bits .xor .i64 x1.Mask x.Mask) x1.Turn)).set g1.B.toNat (TAffine.mk x2.Mask (bits .xor .i64 x2.Turn x3.Turn))).flatMap enc_Affine)) hS37 k_sz_3_1 rfl rfl rfl rfl rfl rfl rfl (gi_fit enc_Affine_len hx2 (j := 1) (k := 1) (by decide)) (gi_setf enc_Affine_len hx2 (TAffine.mk x2.Mask (bits .xor .i64 x2.Turn x3.Turn)) rfl (Nat.le_of_ble_eq_true rfl)) rfl) ?_ ?_
                      · rintro _ w_21 ⟨rfl, hS38⟩
                        have hS38 : ST w0 (bl [⟨B, 107, [.int .i64 s.sum.Ins, .int .i64 s.sum.Vars, .int .i64 s.sum.Root, .int .i64 s.sum.Phase, .slice B1 s.sum.Terms.length c, .slice B2 s.sum.Out.length c1, .map (some g), .slice B3 s.values.length c2], 8⟩, ⟨(some ⟨g, 0, none⟩), .mp (mpE (Value.int .i64) (Value.int .i64) s.poly), [], 0⟩, ⟨B3, 61, (s.values.flatMap enc_Affine), c2 * 2⟩]) _ [⟨B, 107, [.int .i64 s.sum.Ins, .int .i64 s.sum.Vars, .int .i64 s.sum.Root, .int .i64 s.sum.Phase, .slice B1 s.sum.Terms.length c, .slice B2 s.sum.Out.length c1, .map (some g), .slice B3 s.values.length c2], 8⟩, ⟨(some ⟨g, 0, none⟩), .mp (mpE (Value.int .i64) (Value.int .i64) s.poly), [], 0⟩, ⟨B3, 61, (((s.values.set g1.B.toNat (TAffine.mk (bits .xor .i64 x1.Mask x.Mask) x1.Turn)).set g1.B.toNat (TAffine.mk x2.Mask (bits .xor .i64 x2.Turn x3.Turn))).flatMap enc_Affine), c2 * 2⟩, ⟨some ⟨b, 0, none⟩, 76, [.int .i64 g1.Kind, .int .i64 g1.A, .int .i64 g1.B], 3⟩] [⟨B1, (s.sum.Terms.flatMap enc_Term)⟩, ⟨B2, (s.sum.Out.flatMap enc_Affine)⟩] := hS38
                        refine ⟨(ST.sel hS38 [0, 1, 3] rfl rfl), ?_⟩
                        refine ra_done (by kernel_rfl) ?_
                        exact ⟨FF.nil, (hS38.sel [0, 1, 2] rfl rfl)⟩
                      exact allR_nil
                    exact allR_nil
                  exact allR_nil
                refine ra_y 93 (i := 12) (v := .int .i64 x3.Turn) rfl rfl rfl (Y_load1 (B := B3) (i := g1.A.toNat * 2 + 1) (cs := ((s.values.set g1.B.toNat (TAffine.mk (bits .xor .i64 x1.Mask x.Mask) x1.Turn)).flatMap enc_Affine)) (v := .int .i64 x3.Turn) k_sc_3 rfl rfl (hS37.cf (i := 2) rfl) (gi_at enc_Affine_len hx3 rfl)) (ST.sel hS37 [0, 1, 3] rfl rfl) ?_ ?_
                · skip
                  refine ra_all (rs := [8]) (by kernel_rfl) rfl ?_
                  refine ra_y 89 (i := 8) (v := .int .i64 x2.Turn) rfl rfl rfl (Y_load1 (B := B3) (i := g1.B.toNat * 2 + 1) (cs := ((s.values.set g1.B.toNat (TAffine.mk (bits .xor .i64 x1.Mask x.Mask) x1.Turn)).flatMap enc_Affine)) (v := .int .i64 x2.Turn) k_sc_3 rfl rfl (hS37.cf (i := 2) rfl) (gi_at enc_Affine_len hx2 rfl)) (ST.sel hS37 [0, 1, 3] rfl rfl) ?_ ?_
                  · skip
                    refine ra_q 13 94 (v := .int .i64 (bits .xor .i64 x2.Turn x3.Turn)) rfl rfl rfl (by kernel_rfl) (by kernel_rfl) (by kernel_rfl) (ST.sel hS37 [0, 1, 3] rfl rfl) (fun w' hw' => (Y_bxor (k := .i64) (a := x2.Turn) (b := x3.Turn) rfl rfl rfl)) ?_
                    refine ra_all (rs := [14]) (by kernel_rfl) rfl ?_
                    refine ra_y 95 (i := 14) (v := pt B3 (g1.B.toNat * 2)) rfl rfl rfl (Y_index (B := B3) (m := s.values.length) (c := c2) (k := .i64) (i := g1.B) k_sl_55_61 k_sz_61_2 rfl rfl rfl (gi_isSome enc_Affine_len rfl (hS37.cf (i := 2) rfl) hx2) (getI_nn hx2) (getI_ltI hx2 (set_len _ _ _ rfl))) (ST.sel hS37 [0, 1, 3] rfl rfl) ?_ ?_
                    · skip
                      refine ra_q 15 96 (v := pt B3 (g1.B.toNat * 2 + 1)) rfl rfl rfl (by kernel_rfl) (by kernel_rfl) (by kernel_rfl) (ST.sel hS37 [0, 1, 3] rfl rfl) (fun w' hw' => (Y_fieldAddr (B := B3) (i := g1.B.toNat * 2) (s := 0) k_fd_61_1_1_3 k_sz_3_1 rfl rfl)) ?_
                      refine ra_all (rs := [16]) (by kernel_rfl) rfl ?_
                      refine ra_s0 (i := 16) rfl rfl rfl (Ys_store (i := 2) (s := 1) (B := B3) (T' := 61) (v := .int .i64 (bits .xor .i64 x2.Turn x3.Turn)) (vs := [.int .i64 (bits .xor .i64 x2.Turn x3.Turn)]) (k := g1.B.toNat * 2 + 1) (cs' := (((s.values.set g1.B.toNat (TAffine.mk (bits .xor .i64 x1.Mask x.Mask) x1.Turn)).set g1.B.toNat (TAffine.mk x2.Mask (bits .xor .i64 x2.Turn x3.Turn))).flatMap enc_Affine)) hS37 k_sz_3_1 rfl rfl rfl rfl rfl rfl rfl (gi_fit enc_Affine_len hx2 (j := 1) (k := 1) (by decide)) (gi_setf enc_Affine_len hx2 (TAffine.mk x2.Mask (bits .xor .i64 x2.Turn x3.Turn)) rfl (Nat.le_of_ble_eq_true rfl)) rfl) ?_ ?_
                      · rintro _ w_22 ⟨rfl, hS39⟩
                        have hS39 : ST w0 (bl [⟨B, 107, [.int .i64 s.sum.Ins, .int .i64 s.sum.Vars, .int .i64 s.sum.Root, .int .i64 s.sum.Phase, .slice B1 s.sum.Terms.length c, .slice B2 s.sum.Out.length c1, .map (some g), .slice B3 s.values.length c2], 8⟩, ⟨(some ⟨g, 0, none⟩), .mp (mpE (Value.int .i64) (Value.int .i64) s.poly), [], 0⟩, ⟨B3, 61, (s.values.flatMap enc_Affine), c2 * 2⟩]) _ [⟨B, 107, [.int .i64 s.sum.Ins, .int .i64 s.sum.Vars, .int .i64 s.sum.Root, .int .i64 s.sum.Phase, .slice B1 s.sum.Terms.length c, .slice B2 s.sum.Out.length c1, .map (some g), .slice B3 s.values.length c2], 8⟩, ⟨(some ⟨g, 0, none⟩), .mp (mpE (Value.int .i64) (Value.int .i64) s.poly), [], 0⟩, ⟨B3, 61, (((s.values.set g1.B.toNat (TAffine.mk (bits .xor .i64 x1.Mask x.Mask) x1.Turn)).set g1.B.toNat (TAffine.mk x2.Mask (bits .xor .i64 x2.Turn x3.Turn))).flatMap enc_Affine), c2 * 2⟩, ⟨some ⟨b, 0, none⟩, 76, [.int .i64 g1.Kind, .int .i64 g1.A, .int .i64 g1.B], 3⟩] [⟨B1, (s.sum.Terms.flatMap enc_Term)⟩, ⟨B2, (s.sum.Out.flatMap enc_Affine)⟩] := hS39
                        refine ⟨(ST.sel hS39 [0, 1, 3] rfl rfl), ?_⟩
                        refine ra_done (by kernel_rfl) ?_
                        exact ⟨FF.nil, (hS39.sel [0, 1, 2] rfl rfl)⟩
                      exact allR_nil
                    exact allR_nil
                  exact allR_nil
                exact allR_nil
              refine ra_y 93 (i := 12) (v := .int .i64 x3.Turn) rfl rfl rfl (Y_load1 (B := B3) (i := g1.A.toNat * 2 + 1) (cs := ((s.values.set g1.B.toNat (TAffine.mk (bits .xor .i64 x1.Mask x.Mask) x1.Turn)).flatMap enc_Affine)) (v := .int .i64 x3.Turn) k_sc_3 rfl rfl (hS37.cf (i := 2) rfl) (gi_at enc_Affine_len hx3 rfl)) (ST.sel hS37 [0, 1, 3] rfl rfl) ?_ ?_
              · skip
                refine ra_all (rs := [6]) (by kernel_rfl) rfl ?_
                refine ra_y 87 (i := 6) (v := pt B3 (g1.B.toNat * 2)) rfl rfl rfl (Y_index (B := B3) (m := s.values.length) (c := c2) (k := .i64) (i := g1.B) k_sl_55_61 k_sz_61_2 rfl rfl rfl (gi_isSome enc_Affine_len rfl (hS37.cf (i := 2) rfl) hx2) (getI_nn hx2) (getI_ltI hx2 (set_len _ _ _ rfl))) (ST.sel hS37 [0, 1, 3] rfl rfl) ?_ ?_
                · skip
                  refine ra_q 7 88 (v := pt B3 (g1.B.toNat * 2 + 1)) rfl rfl rfl (by kernel_rfl) (by kernel_rfl) (by kernel_rfl) (ST.sel hS37 [0, 1, 3] rfl rfl) (fun w' hw' => (Y_fieldAddr (B := B3) (i := g1.B.toNat * 2) (s := 0) k_fd_61_1_1_3 k_sz_3_1 rfl rfl)) ?_
                  refine ra_all (rs := [8]) (by kernel_rfl) rfl ?_
                  refine ra_y 89 (i := 8) (v := .int .i64 x2.Turn) rfl rfl rfl (Y_load1 (B := B3) (i := g1.B.toNat * 2 + 1) (cs := ((s.values.set g1.B.toNat (TAffine.mk (bits .xor .i64 x1.Mask x.Mask) x1.Turn)).flatMap enc_Affine)) (v := .int .i64 x2.Turn) k_sc_3 rfl rfl (hS37.cf (i := 2) rfl) (gi_at enc_Affine_len hx2 rfl)) (ST.sel hS37 [0, 1, 3] rfl rfl) ?_ ?_
                  · skip
                    refine ra_q 13 94 (v := .int .i64 (bits .xor .i64 x2.Turn x3.Turn)) rfl rfl rfl (by kernel_rfl) (by kernel_rfl) (by kernel_rfl) (ST.sel hS37 [0, 1, 3] rfl rfl) (fun w' hw' => (Y_bxor (k := .i64) (a := x2.Turn) (b := x3.Turn) rfl rfl rfl)) ?_
                    refine ra_all (rs := [14]) (by kernel_rfl) rfl ?_
                    refine ra_y 95 (i := 14) (v := pt B3 (g1.B.toNat * 2)) rfl rfl rfl (Y_index (B := B3) (m := s.values.length) (c := c2) (k := .i64) (i := g1.B) k_sl_55_61 k_sz_61_2 rfl rfl rfl (gi_isSome enc_Affine_len rfl (hS37.cf (i := 2) rfl) hx2) (getI_nn hx2) (getI_ltI hx2 (set_len _ _ _ rfl))) (ST.sel hS37 [0, 1, 3] rfl rfl) ?_ ?_
                    · skip
                      refine ra_q 15 96 (v := pt B3 (g1.B.toNat * 2 + 1)) rfl rfl rfl (by kernel_rfl) (by kernel_rfl) (by kernel_rfl) (ST.sel hS37 [0, 1, 3] rfl rfl) (fun w' hw' => (Y_fieldAddr (B := B3) (i := g1.B.toNat * 2) (s := 0) k_fd_61_1_1_3 k_sz_3_1 rfl rfl)) ?_
                      refine ra_all (rs := [16]) (by kernel_rfl) rfl ?_
                      refine ra_s0 (i := 16) rfl rfl rfl (Ys_store (i := 2) (s := 1) (B := B3) (T' := 61) (v := .int .i64 (bits .xor .i64 x2.Turn x3.Turn)) (vs := [.int .i64 (bits .xor .i64 x2.Turn x3.Turn)]) (k := g1.B.toNat * 2 + 1) (cs' := (((s.values.set g1.B.toNat (TAffine.mk (bits .xor .i64 x1.Mask x.Mask) x1.Turn)).set g1.B.toNat (TAffine.mk x2.Mask (bits .xor .i64 x2.Turn x3.Turn))).flatMap enc_Affine)) hS37 k_sz_3_1 rfl rfl rfl rfl rfl rfl rfl (gi_fit enc_Affine_len hx2 (j := 1) (k := 1) (by decide)) (gi_setf enc_Affine_len hx2 (TAffine.mk x2.Mask (bits .xor .i64 x2.Turn x3.Turn)) rfl (Nat.le_of_ble_eq_true rfl)) rfl) ?_ ?_
                      · rintro _ w_23 ⟨rfl, hS40⟩
                        have hS40 : ST w0 (bl [⟨B, 107, [.int .i64 s.sum.Ins, .int .i64 s.sum.Vars, .int .i64 s.sum.Root, .int .i64 s.sum.Phase, .slice B1 s.sum.Terms.length c, .slice B2 s.sum.Out.length c1, .map (some g), .slice B3 s.values.length c2], 8⟩, ⟨(some ⟨g, 0, none⟩), .mp (mpE (Value.int .i64) (Value.int .i64) s.poly), [], 0⟩, ⟨B3, 61, (s.values.flatMap enc_Affine), c2 * 2⟩]) _ [⟨B, 107, [.int .i64 s.sum.Ins, .int .i64 s.sum.Vars, .int .i64 s.sum.Root, .int .i64 s.sum.Phase, .slice B1 s.sum.Terms.length c, .slice B2 s.sum.Out.length c1, .map (some g), .slice B3 s.values.length c2], 8⟩, ⟨(some ⟨g, 0, none⟩), .mp (mpE (Value.int .i64) (Value.int .i64) s.poly), [], 0⟩, ⟨B3, 61, (((s.values.set g1.B.toNat (TAffine.mk (bits .xor .i64 x1.Mask x.Mask) x1.Turn)).set g1.B.toNat (TAffine.mk x2.Mask (bits .xor .i64 x2.Turn x3.Turn))).flatMap enc_Affine), c2 * 2⟩, ⟨some ⟨b, 0, none⟩, 76, [.int .i64 g1.Kind, .int .i64 g1.A, .int .i64 g1.B], 3⟩] [⟨B1, (s.sum.Terms.flatMap enc_Term)⟩, ⟨B2, (s.sum.Out.flatMap enc_Affine)⟩] := hS40
                        refine ⟨(ST.sel hS40 [0, 1, 3] rfl rfl), ?_⟩
                        refine ra_done (by kernel_rfl) ?_
                        exact ⟨FF.nil, (hS40.sel [0, 1, 2] rfl rfl)⟩
                      exact allR_nil
                    exact allR_nil
                  exact allR_nil
                exact allR_nil
              exact allR_nil
            rintro f w ⟨hf3, hS36⟩
            exact ⟨s.poly, ((s.values.set g1.B.toNat (TAffine.mk (bits .xor .i64 x1.Mask x.Mask) x1.Turn)).set g1.B.toNat (TAffine.mk x2.Mask (bits .xor .i64 x2.Turn x3.Turn))), (some_inj hF12), FF.nil, (set_len _ _ _ (set_len _ _ _ rfl)), (hS36.sel [0, 1, 2] rfl rfl)⟩
          · skip
            have hF13 := cf' hF11 hb5
            refine cw_seq ?_
            refine cw_region ?_
            refine sq 98 rfl rfl (Y_eq (k := .i64) (a := g1.Kind) (b := 10) rfl rfl rfl) ?_
            refine sq 97 rfl rfl (Y_assign (v := .bool (g1.Kind == 10)) rfl rfl) ?_
            refine rw_nil ?_
            refine cw_cond (b := (g1.Kind == 10)) rfl (fun hb6 => ?_) (fun hb6 => ?_)
            · skip
              have hF14 := ct hF13 hb6
              obtain ⟨x4, hx4, hF14⟩ := bind_inv hF14
              obtain ⟨m7, hc5, hF14⟩ := bind_inv hF14
              refine ra_start (ST.sel hS2 [0, 2, 3] rfl rfl).fn (by kernel_rfl) ?_
              have hS42 := hS2.drew
              refine ra_q 0 99 (v := pt B 0) rfl rfl rfl (by kernel_rfl) (by kernel_rfl) (by kernel_rfl) (ST.sel hS42 [0, 2, 3] rfl rfl) (fun w' hw' => (Y_move (v := pt B 0) rfl rfl)) ?_
              refine ra_q 1 100 (v := pt B 0) rfl rfl rfl (by kernel_rfl) (by kernel_rfl) (by kernel_rfl) (ST.sel hS42 [0, 2, 3] rfl rfl) (fun w' hw' => (Y_nilCheck (B := B) (i := 0) rfl rfl)) ?_
              refine ra_q 2 101 (v := pt B 6) rfl rfl rfl (by kernel_rfl) (by kernel_rfl) (by kernel_rfl) (ST.sel hS42 [0, 2, 3] rfl rfl) (fun w' hw' => (Y_fieldAddr (B := B) (i := 0) (s := 0) k_fd_107_1_6_105 k_sz_105_1 rfl rfl)) ?_
              refine ra_q 3 102 (v := .map (some g)) rfl rfl rfl (by kernel_rfl) (by kernel_rfl) (by kernel_rfl) (ST.sel hS42 [0, 2, 3] rfl rfl) (fun w' hw' => (Y_load1 (B := B) (i := 6) (cs := [.int .i64 s.sum.Ins, .int .i64 s.sum.Vars, .int .i64 s.sum.Root, .int .i64 s.sum.Phase, .slice B1 s.sum.Terms.length c, .slice B2 s.sum.Out.length c1, .map (some g), .slice B3 s.values.length c2]) (v := .map (some g)) k_sc_105 rfl rfl (ST.cf hw' (i := 0) rfl) rfl)) ?_
              refine ra_q 4 103 (v := pt B3 (g1.A.toNat * 2)) rfl rfl rfl (by kernel_rfl) (by kernel_rfl) (by kernel_rfl) (ST.sel hS42 [0, 2, 3] rfl rfl) (fun w' hw' => (Y_move (v := pt B3 (g1.A.toNat * 2)) rfl rfl)) ?_
              refine ra_q 5 104 (v := pt B3 (g1.A.toNat * 2)) rfl rfl rfl (by kernel_rfl) (by kernel_rfl) (by kernel_rfl) (ST.sel hS42 [0, 2, 3] rfl rfl) (fun w' hw' => (Y_nilCheck (B := B3) (i := g1.A.toNat * 2) rfl rfl)) ?_
              refine ra_q 6 105 (v := .agg #[.int .i64 x.Mask, .int .i64 x.Turn]) rfl rfl rfl (by kernel_rfl) (by kernel_rfl) (by kernel_rfl) (ST.sel hS42 [0, 2, 3] rfl rfl) (fun w' hw' => (Y_loadA (B := B3) (i := g1.A.toNat * 2) (cs := (s.values.flatMap enc_Affine)) (vs := [.int .i64 x.Mask, .int .i64 x.Turn]) k_ag_61 k_sz_61_2 rfl rfl (ST.cf hw' (i := 1) rfl) (enc_Affine_len x) (gi_seg enc_Affine_len hx))) ?_
              refine ra_q 7 106 (v := pt B 0) rfl rfl rfl (by kernel_rfl) (by kernel_rfl) (by kernel_rfl) (ST.sel hS42 [0, 2, 3] rfl rfl) (fun w' hw' => (Y_move (v := pt B 0) rfl rfl)) ?_
              refine ra_q 8 107 (v := pt B 0) rfl rfl rfl (by kernel_rfl) (by kernel_rfl) (by kernel_rfl) (ST.sel hS42 [0, 2, 3] rfl rfl) (fun w' hw' => (Y_nilCheck (B := B) (i := 0) rfl rfl)) ?_
              refine ra_q 9 108 (v := pt B 7) rfl rfl rfl (by kernel_rfl) (by kernel_rfl) (by kernel_rfl) (ST.sel hS42 [0, 2, 3] rfl rfl) (fun w' hw' => (Y_fieldAddr (B := B) (i := 0) (s := 0) k_fd_107_2_7_55 k_sz_55_1 rfl rfl)) ?_
              refine ra_q 10 109 (v := .slice B3 s.values.length c2) rfl rfl rfl (by kernel_rfl) (by kernel_rfl) (by kernel_rfl) (ST.sel hS42 [0, 2, 3] rfl rfl) (fun w' hw' => (Y_load1 (B := B) (i := 7) (cs := [.int .i64 s.sum.Ins, .int .i64 s.sum.Vars, .int .i64 s.sum.Root, .int .i64 s.sum.Phase, .slice B1 s.sum.Terms.length c, .slice B2 s.sum.Out.length c1, .map (some g), .slice B3 s.values.length c2]) (v := .slice B3 s.values.length c2) k_sc_55 rfl rfl (ST.cf hw' (i := 0) rfl) rfl)) ?_
              refine ra_q 11 110 (v := pt (some ⟨b, 0, none⟩) 2) rfl rfl rfl (by kernel_rfl) (by kernel_rfl) (by kernel_rfl) (ST.sel hS42 [0, 2, 3] rfl rfl) (fun w' hw' => (Y_fieldAddr (B := some ⟨b, 0, none⟩) (i := 0) (s := 0) k_fd_76_2_2_3 k_sz_3_1 rfl rfl)) ?_
              refine ra_q 12 111 (v := .int .i64 g1.B) rfl rfl rfl (by kernel_rfl) (by kernel_rfl) (by kernel_rfl) (ST.sel hS42 [0, 2, 3] rfl rfl) (fun w' hw' => (Y_load1 (B := some ⟨b, 0, none⟩) (i := 2) (cs := [.int .i64 g1.Kind, .int .i64 g1.A, .int .i64 g1.B]) (v := .int .i64 g1.B) k_sc_3 rfl rfl (ST.cf hw' (i := 2) rfl) rfl)) ?_
              refine ra_q 13 112 (v := pt B3 (g1.B.toNat * 2)) rfl rfl rfl (by kernel_rfl) (by kernel_rfl) (by kernel_rfl) (ST.sel hS42 [0, 2, 3] rfl rfl) (fun w' hw' => (Y_index (B := B3) (m := s.values.length) (c := c2) (k := .i64) (i := g1.B) k_sl_55_61 k_sz_61_2 rfl rfl rfl (gi_isSome enc_Affine_len rfl (ST.cf hw' (i := 1) rfl) hx4) (getI_nn hx4) (getI_ltI hx4 rfl))) ?_
              refine ra_q 14 113 (v := .agg #[.int .i64 x4.Mask, .int .i64 x4.Turn]) rfl rfl rfl (by kernel_rfl) (by kernel_rfl) (by kernel_rfl) (ST.sel hS42 [0, 2, 3] rfl rfl) (fun w' hw' => (Y_loadA (B := B3) (i := g1.B.toNat * 2) (cs := (s.values.flatMap enc_Affine)) (vs := [.int .i64 x4.Mask, .int .i64 x4.Turn]) k_ag_61 k_sz_61_2 rfl rfl (ST.cf hw' (i := 1) rfl) (enc_Affine_len x4) (gi_seg enc_Affine_len hx4))) ?_
              refine ra_all (rs := [15]) (by kernel_rfl) rfl ?_
              refine ra_c 114 (i := 15) rfl rfl rfl (Yc_func (g := 117) (vs := [.map (some g), .agg #[.int .i64 x.Mask, .int .i64 x.Turn], .agg #[.int .i64 x4.Mask, .int .i64 x4.Turn]]) k_call_117 rfl (mc rfl (mc rfl (mc rfl mn))) (c_impl_polynomial_product s.poly x x4 g _  (hS42.inn [false, true, false, false] rfl [] rfl) hc5)) ?_ ?_
              · rintro _ w_24 ⟨rfl, hd5⟩
                have hS43 := hS42.out [false, true, false, false] rfl hd5
                have hS43 : ST w0 (bl [⟨B, 107, [.int .i64 s.sum.Ins, .int .i64 s.sum.Vars, .int .i64 s.sum.Root, .int .i64 s.sum.Phase, .slice B1 s.sum.Terms.length c, .slice B2 s.sum.Out.length c1, .map (some g), .slice B3 s.values.length c2], 8⟩, ⟨(some ⟨g, 0, none⟩), .mp (mpE (Value.int .i64) (Value.int .i64) s.poly), [], 0⟩, ⟨B3, 61, (s.values.flatMap enc_Affine), c2 * 2⟩]) _ [⟨B, 107, [.int .i64 s.sum.Ins, .int .i64 s.sum.Vars, .int .i64 s.sum.Root, .int .i64 s.sum.Phase, .slice B1 s.sum.Terms.length c, .slice B2 s.sum.Out.length c1, .map (some g), .slice B3 s.values.length c2], 8⟩, ⟨B3, 61, (s.values.flatMap enc_Affine), c2 * 2⟩, ⟨some ⟨b, 0, none⟩, 76, [.int .i64 g1.Kind, .int .i64 g1.A, .int .i64 g1.B], 3⟩, ⟨(some ⟨g, 0, none⟩), .mp (mpE (Value.int .i64) (Value.int .i64) m7), [], 0⟩] [⟨B1, (s.sum.Terms.flatMap enc_Term)⟩, ⟨B2, (s.sum.Out.flatMap enc_Affine)⟩] := hS43
                refine ⟨(ST.sel hS43 [0, 1, 2] rfl rfl), ?_⟩
                refine ra_done (by kernel_rfl) ?_
                exact ⟨m7, s.values, (some_inj hF14), FF.nil, rfl, (hS43.sel [0, 3, 1] rfl rfl)⟩
              exact allR_nil
            · skip
              have hF15 := cf' hF13 hb6
              refine cw_seq ?_
              refine cw_region ?_
              refine sq 116 rfl rfl (Y_eq (k := .i64) (a := g1.Kind) (b := 11) rfl rfl rfl) ?_
              refine sq 115 rfl rfl (Y_assign (v := .bool (g1.Kind == 11)) rfl rfl) ?_
              refine rw_nil ?_
              refine cw_cond (b := (g1.Kind == 11)) rfl (fun hb7 => ?_) (fun hb7 => ?_)
              · skip
                have hF16 := ct hF15 hb7
                obtain ⟨x5, hx5, hF16⟩ := bind_inv hF16
                obtain ⟨x6, hx6, hF16⟩ := bind_inv hF16
                refine cw_mid (fun f w => FF f [] ∧ ST w0 (bl [⟨B, 107, [.int .i64 s.sum.Ins, .int .i64 s.sum.Vars, .int .i64 s.sum.Root, .int .i64 s.sum.Phase, .slice B1 s.sum.Terms.length c, .slice B2 s.sum.Out.length c1, .map (some g), .slice B3 s.values.length c2], 8⟩, ⟨(some ⟨g, 0, none⟩), .mp (mpE (Value.int .i64) (Value.int .i64) s.poly), [], 0⟩, ⟨B3, 61, (s.values.flatMap enc_Affine), c2 * 2⟩]) w [⟨B, 107, [.int .i64 s.sum.Ins, .int .i64 s.sum.Vars, .int .i64 s.sum.Root, .int .i64 s.sum.Phase, .slice B1 s.sum.Terms.length c, .slice B2 s.sum.Out.length c1, .map (some g), .slice B3 s.values.length c2], 8⟩, ⟨(some ⟨g, 0, none⟩), .mp (mpE (Value.int .i64) (Value.int .i64) s.poly), [], 0⟩, ⟨B3, 61, (((s.values.set g1.A.toNat x5).set g1.B.toNat x).flatMap enc_Affine), c2 * 2⟩] [⟨B1, (s.sum.Terms.flatMap enc_Term)⟩, ⟨B2, (s.sum.Out.flatMap enc_Affine)⟩]) ?_ ?_
                · skip
                  refine ra_start (ST.sel hS2 [0, 1, 3] rfl rfl).fn (by kernel_rfl) ?_
                  have hS45 := hS2.drew
                  refine ra_q 0 117 (v := pt B 0) rfl rfl rfl (by kernel_rfl) (by kernel_rfl) (by kernel_rfl) (ST.sel hS45 [0, 1, 3] rfl rfl) (fun w' hw' => (Y_move (v := pt B 0) rfl rfl)) ?_
                  refine ra_q 1 118 (v := pt B 0) rfl rfl rfl (by kernel_rfl) (by kernel_rfl) (by kernel_rfl) (ST.sel hS45 [0, 1, 3] rfl rfl) (fun w' hw' => (Y_nilCheck (B := B) (i := 0) rfl rfl)) ?_
                  refine ra_q 2 119 (v := pt B 7) rfl rfl rfl (by kernel_rfl) (by kernel_rfl) (by kernel_rfl) (ST.sel hS45 [0, 1, 3] rfl rfl) (fun w' hw' => (Y_fieldAddr (B := B) (i := 0) (s := 0) k_fd_107_2_7_55 k_sz_55_1 rfl rfl)) ?_
                  refine ra_q 3 120 (v := .slice B3 s.values.length c2) rfl rfl rfl (by kernel_rfl) (by kernel_rfl) (by kernel_rfl) (ST.sel hS45 [0, 1, 3] rfl rfl) (fun w' hw' => (Y_load1 (B := B) (i := 7) (cs := [.int .i64 s.sum.Ins, .int .i64 s.sum.Vars, .int .i64 s.sum.Root, .int .i64 s.sum.Phase, .slice B1 s.sum.Terms.length c, .slice B2 s.sum.Out.length c1, .map (some g), .slice B3 s.values.length c2]) (v := .slice B3 s.values.length c2) k_sc_55 rfl rfl (ST.cf hw' (i := 0) rfl) rfl)) ?_
                  refine ra_q 4 121 (v := pt (some ⟨b, 0, none⟩) 1) rfl rfl rfl (by kernel_rfl) (by kernel_rfl) (by kernel_rfl) (ST.sel hS45 [0, 1, 3] rfl rfl) (fun w' hw' => (Y_fieldAddr (B := some ⟨b, 0, none⟩) (i := 0) (s := 0) k_fd_76_1_1_3 k_sz_3_1 rfl rfl)) ?_
                  refine ra_q 5 122 (v := .int .i64 g1.A) rfl rfl rfl (by kernel_rfl) (by kernel_rfl) (by kernel_rfl) (ST.sel hS45 [0, 1, 3] rfl rfl) (fun w' hw' => (Y_load1 (B := some ⟨b, 0, none⟩) (i := 1) (cs := [.int .i64 g1.Kind, .int .i64 g1.A, .int .i64 g1.B]) (v := .int .i64 g1.A) k_sc_3 rfl rfl (ST.cf hw' (i := 2) rfl) rfl)) ?_
                  refine ra_q 6 123 (v := pt B 0) rfl rfl rfl (by kernel_rfl) (by kernel_rfl) (by kernel_rfl) (ST.sel hS45 [0, 1, 3] rfl rfl) (fun w' hw' => (Y_move (v := pt B 0) rfl rfl)) ?_
                  refine ra_q 7 124 (v := pt B 0) rfl rfl rfl (by kernel_rfl) (by kernel_rfl) (by kernel_rfl) (ST.sel hS45 [0, 1, 3] rfl rfl) (fun w' hw' => (Y_nilCheck (B := B) (i := 0) rfl rfl)) ?_
                  refine ra_q 8 125 (v := pt B 7) rfl rfl rfl (by kernel_rfl) (by kernel_rfl) (by kernel_rfl) (ST.sel hS45 [0, 1, 3] rfl rfl) (fun w' hw' => (Y_fieldAddr (B := B) (i := 0) (s := 0) k_fd_107_2_7_55 k_sz_55_1 rfl rfl)) ?_
                  refine ra_q 9 126 (v := .slice B3 s.values.length c2) rfl rfl rfl (by kernel_rfl) (by kernel_rfl) (by kernel_rfl) (ST.sel hS45 [0, 1, 3] rfl rfl) (fun w' hw' => (Y_load1 (B := B) (i := 7) (cs := [.int .i64 s.sum.Ins, .int .i64 s.sum.Vars, .int .i64 s.sum.Root, .int .i64 s.sum.Phase, .slice B1 s.sum.Terms.length c, .slice B2 s.sum.Out.length c1, .map (some g), .slice B3 s.values.length c2]) (v := .slice B3 s.values.length c2) k_sc_55 rfl rfl (ST.cf hw' (i := 0) rfl) rfl)) ?_
                  refine ra_q 10 127 (v := pt (some ⟨b, 0, none⟩) 2) rfl rfl rfl (by kernel_rfl) (by kernel_rfl) (by kernel_rfl) (ST.sel hS45 [0, 1, 3] rfl rfl) (fun w' hw' => (Y_fieldAddr (B := some ⟨b, 0, none⟩) (i := 0) (s := 0) k_fd_76_2_2_3 k_sz_3_1 rfl rfl)) ?_
                  refine ra_q 11 128 (v := .int .i64 g1.B) rfl rfl rfl (by kernel_rfl) (by kernel_rfl) (by kernel_rfl) (ST.sel hS45 [0, 1, 3] rfl rfl) (fun w' hw' => (Y_load1 (B := some ⟨b, 0, none⟩) (i := 2) (cs := [.int .i64 g1.Kind, .int .i64 g1.A, .int .i64 g1.B]) (v := .int .i64 g1.B) k_sc_3 rfl rfl (ST.cf hw' (i := 2) rfl) rfl)) ?_
                  refine ra_q 12 129 (v := pt B 0) rfl rfl rfl (by kernel_rfl) (by kernel_rfl) (by kernel_rfl) (ST.sel hS45 [0, 1, 3] rfl rfl) (fun w' hw' => (Y_move (v := pt B 0) rfl rfl)) ?_
                  refine ra_q 13 130 (v := pt B 0) rfl rfl rfl (by kernel_rfl) (by kernel_rfl) (by kernel_rfl) (ST.sel hS45 [0, 1, 3] rfl rfl) (fun w' hw' => (Y_nilCheck (B := B) (i := 0) rfl rfl)) ?_
                  refine ra_q 14 131 (v := pt B 7) rfl rfl rfl (by kernel_rfl) (by kernel_rfl) (by kernel_rfl) (ST.sel hS45 [0, 1, 3] rfl rfl) (fun w' hw' => (Y_fieldAddr (B := B) (i := 0) (s := 0) k_fd_107_2_7_55 k_sz_55_1 rfl rfl)) ?_
                  refine ra_q 15 132 (v := .slice B3 s.values.length c2) rfl rfl rfl (by kernel_rfl) (by kernel_rfl) (by kernel_rfl) (ST.sel hS45 [0, 1, 3] rfl rfl) (fun w' hw' => (Y_load1 (B := B) (i := 7) (cs := [.int .i64 s.sum.Ins, .int .i64 s.sum.Vars, .int .i64 s.sum.Root, .int .i64 s.sum.Phase, .slice B1 s.sum.Terms.length c, .slice B2 s.sum.Out.length c1, .map (some g), .slice B3 s.values.length c2]) (v := .slice B3 s.values.length c2) k_sc_55 rfl rfl (ST.cf hw' (i := 0) rfl) rfl)) ?_
                  refine ra_q 16 133 (v := pt (some ⟨b, 0, none⟩) 2) rfl rfl rfl (by kernel_rfl) (by kernel_rfl) (by kernel_rfl) (ST.sel hS45 [0, 1, 3] rfl rfl) (fun w' hw' => (Y_fieldAddr (B := some ⟨b, 0, none⟩) (i := 0) (s := 0) k_fd_76_2_2_3 k_sz_3_1 rfl rfl)) ?_
                  refine ra_q 17 134 (v := .int .i64 g1.B) rfl rfl rfl (by kernel_rfl) (by kernel_rfl) (by kernel_rfl) (ST.sel hS45 [0, 1, 3] rfl rfl) (fun w' hw' => (Y_load1 (B := some ⟨b, 0, none⟩) (i := 2) (cs := [.int .i64 g1.Kind, .int .i64 g1.A, .int .i64 g1.B]) (v := .int .i64 g1.B) k_sc_3 rfl rfl (ST.cf hw' (i := 2) rfl) rfl)) ?_
                  refine ra_q 20 137 (v := pt B 0) rfl rfl rfl (by kernel_rfl) (by kernel_rfl) (by kernel_rfl) (ST.sel hS45 [0, 1, 3] rfl rfl) (fun w' hw' => (Y_move (v := pt B 0) rfl rfl)) ?_
                  refine ra_q 21 138 (v := pt B 0) rfl rfl rfl (by kernel_rfl) (by kernel_rfl) (by kernel_rfl) (ST.sel hS45 [0, 1, 3] rfl rfl) (fun w' hw' => (Y_nilCheck (B := B) (i := 0) rfl rfl)) ?_
                  refine ra_q 22 139 (v := pt B 7) rfl rfl rfl (by kernel_rfl) (by kernel_rfl) (by kernel_rfl) (ST.sel hS45 [0, 1, 3] rfl rfl) (fun w' hw' => (Y_fieldAddr (B := B) (i := 0) (s := 0) k_fd_107_2_7_55 k_sz_55_1 rfl rfl)) ?_
                  refine ra_q 23 140 (v := .slice B3 s.values.length c2) rfl rfl rfl (by kernel_rfl) (by kernel_rfl) (by kernel_rfl) (ST.sel hS45 [0, 1, 3] rfl rfl) (fun w' hw' => (Y_load1 (B := B) (i := 7) (cs := [.int .i64 s.sum.Ins, .int .i64 s.sum.Vars, .int .i64 s.sum.Root, .int .i64 s.sum.Phase, .slice B1 s.sum.Terms.length c, .slice B2 s.sum.Out.length c1, .map (some g), .slice B3 s.values.length c2]) (v := .slice B3 s.values.length c2) k_sc_55 rfl rfl (ST.cf hw' (i := 0) rfl) rfl)) ?_
                  refine ra_q 24 141 (v := pt (some ⟨b, 0, none⟩) 1) rfl rfl rfl (by kernel_rfl) (by kernel_rfl) (by kernel_rfl) (ST.sel hS45 [0, 1, 3] rfl rfl) (fun w' hw' => (Y_fieldAddr (B := some ⟨b, 0, none⟩) (i := 0) (s := 0) k_fd_76_1_1_3 k_sz_3_1 rfl rfl)) ?_
                  refine ra_q 25 142 (v := .int .i64 g1.A) rfl rfl rfl (by kernel_rfl) (by kernel_rfl) (by kernel_rfl) (ST.sel hS45 [0, 1, 3] rfl rfl) (fun w' hw' => (Y_load1 (B := some ⟨b, 0, none⟩) (i := 1) (cs := [.int .i64 g1.Kind, .int .i64 g1.A, .int .i64 g1.B]) (v := .int .i64 g1.A) k_sc_3 rfl rfl (ST.cf hw' (i := 2) rfl) rfl)) ?_
                  refine ra_all (rs := [18, 26]) (by kernel_rfl) rfl ?_
                  refine ra_y 135 (i := 18) (v := pt B3 (g1.B.toNat * 2)) rfl rfl rfl (Y_index (B := B3) (m := s.values.length) (c := c2) (k := .i64) (i := g1.B) k_sl_55_61 k_sz_61_2 rfl rfl rfl (gi_isSome enc_Affine_len rfl (hS45.cf (i := 2) rfl) hx5) (getI_nn hx5) (getI_ltI hx5 rfl)) (ST.sel hS45 [0, 1, 3] rfl rfl) ?_ ?_
                  · skip
                    refine ra_all (rs := [19, 26]) (by kernel_rfl) rfl ?_
                    refine ra_y 136 (i := 19) (v := .agg #[.int .i64 x5.Mask, .int .i64 x5.Turn]) rfl rfl rfl (Y_loadA (B := B3) (i := g1.B.toNat * 2) (cs := (s.values.flatMap enc_Affine)) (vs := [.int .i64 x5.Mask, .int .i64 x5.Turn]) k_ag_61 k_sz_61_2 rfl rfl (hS45.cf (i := 2) rfl) (enc_Affine_len x5) (gi_seg enc_Affine_len hx5)) (ST.sel hS45 [0, 1, 3] rfl rfl) ?_ ?_
                    · skip
                      refine ra_all (rs := [26]) (by kernel_rfl) rfl ?_
                      refine ra_y 143 (i := 26) (v := pt B3 (g1.A.toNat * 2)) rfl rfl rfl (Y_index (B := B3) (m := s.values.length) (c := c2) (k := .i64) (i := g1.A) k_sl_55_61 k_sz_61_2 rfl rfl rfl (gi_isSome enc_Affine_len rfl (hS45.cf (i := 2) rfl) hx) (getI_nn hx) (getI_ltI hx rfl)) (ST.sel hS45 [0, 1, 3] rfl rfl) ?_ ?_
                      · skip
                        refine ra_all (rs := [27]) (by kernel_rfl) rfl ?_
                        refine ra_y 144 (i := 27) (v := .agg #[.int .i64 x.Mask, .int .i64 x.Turn]) rfl rfl rfl (Y_loadA (B := B3) (i := g1.A.toNat * 2) (cs := (s.values.flatMap enc_Affine)) (vs := [.int .i64 x.Mask, .int .i64 x.Turn]) k_ag_61 k_sz_61_2 rfl rfl (hS45.cf (i := 2) rfl) (enc_Affine_len x) (gi_seg enc_Affine_len hx)) (ST.sel hS45 [0, 1, 3] rfl rfl) ?_ ?_
                        · skip
                          refine ra_all (rs := [28]) (by kernel_rfl) rfl ?_
                          refine ra_y 145 (i := 28) (v := pt B3 (g1.A.toNat * 2)) rfl rfl rfl (Y_index (B := B3) (m := s.values.length) (c := c2) (k := .i64) (i := g1.A) k_sl_55_61 k_sz_61_2 rfl rfl rfl (gi_isSome enc_Affine_len rfl (hS45.cf (i := 2) rfl) hx) (getI_nn hx) (getI_ltI hx rfl)) (ST.sel hS45 [0, 1, 3] rfl rfl) ?_ ?_
                          · skip
                            refine ra_all (rs := [29]) (by kernel_rfl) rfl ?_
                            refine ra_s0 (i := 29) rfl rfl rfl (Ys_store (i := 2) (s := 2) (B := B3) (T' := 61) (v := .agg #[.int .i64 x5.Mask, .int .i64 x5.Turn]) (vs := [.int .i64 x5.Mask, .int .i64 x5.Turn]) (k := g1.A.toNat * 2) (cs' := ((s.values.set g1.A.toNat x5).flatMap enc_Affine)) hS45 k_sz_61_2 rfl rfl rfl rfl rfl rfl rfl (gi_fit0 enc_Affine_len hx) (gi_set enc_Affine_len hx x5 rfl) rfl) ?_ ?_
                            · rintro _ w_25 ⟨rfl, hS46⟩
                              have hS46 : ST w0 (bl [⟨B, 107, [.int .i64 s.sum.Ins, .int .i64 s.sum.Vars, .int .i64 s.sum.Root, .int .i64 s.sum.Phase, .slice B1 s.sum.Terms.length c, .slice B2 s.sum.Out.length c1, .map (some g), .slice B3 s.values.length c2], 8⟩, ⟨(some ⟨g, 0, none⟩), .mp (mpE (Value.int .i64) (Value.int .i64) s.poly), [], 0⟩, ⟨B3, 61, (s.values.flatMap enc_Affine), c2 * 2⟩]) _ [⟨B, 107, [.int .i64 s.sum.Ins, .int .i64 s.sum.Vars, .int .i64 s.sum.Root, .int .i64 s.sum.Phase, .slice B1 s.sum.Terms.length c, .slice B2 s.sum.Out.length c1, .map (some g), .slice B3 s.values.length c2], 8⟩, ⟨(some ⟨g, 0, none⟩), .mp (mpE (Value.int .i64) (Value.int .i64) s.poly), [], 0⟩, ⟨B3, 61, ((s.values.set g1.A.toNat x5).flatMap enc_Affine), c2 * 2⟩, ⟨some ⟨b, 0, none⟩, 76, [.int .i64 g1.Kind, .int .i64 g1.A, .int .i64 g1.B], 3⟩] [⟨B1, (s.sum.Terms.flatMap enc_Term)⟩, ⟨B2, (s.sum.Out.flatMap enc_Affine)⟩] := hS46
                              refine ⟨(ST.sel hS46 [0, 1, 3] rfl rfl), ?_⟩
                              refine ra_all (rs := [30]) (by kernel_rfl) rfl ?_
                              refine ra_y 146 (i := 30) (v := pt B3 (g1.B.toNat * 2)) rfl rfl rfl (Y_index (B := B3) (m := s.values.length) (c := c2) (k := .i64) (i := g1.B) k_sl_55_61 k_sz_61_2 rfl rfl rfl (gi_isSome enc_Affine_len rfl (hS46.cf (i := 2) rfl) hx6) (getI_nn hx6) (getI_ltI hx6 (set_len _ _ _ rfl))) (ST.sel hS46 [0, 1, 3] rfl rfl) ?_ ?_
                              · skip
                                refine ra_all (rs := [31]) (by kernel_rfl) rfl ?_
                                refine ra_s0 (i := 31) rfl rfl rfl (Ys_store (i := 2) (s := 2) (B := B3) (T' := 61) (v := .agg #[.int .i64 x.Mask, .int .i64 x.Turn]) (vs := [.int .i64 x.Mask, .int .i64 x.Turn]) (k := g1.B.toNat * 2) (cs' := (((s.values.set g1.A.toNat x5).set g1.B.toNat x).flatMap enc_Affine)) hS46 k_sz_61_2 rfl rfl rfl rfl rfl rfl rfl (gi_fit0 enc_Affine_len hx6) (gi_set enc_Affine_len hx6 x rfl) rfl) ?_ ?_
                                · rintro _ w_26 ⟨rfl, hS47⟩
                                  have hS47 : ST w0 (bl [⟨B, 107, [.int .i64 s.sum.Ins, .int .i64 s.sum.Vars, .int .i64 s.sum.Root, .int .i64 s.sum.Phase, .slice B1 s.sum.Terms.length c, .slice B2 s.sum.Out.length c1, .map (some g), .slice B3 s.values.length c2], 8⟩, ⟨(some ⟨g, 0, none⟩), .mp (mpE (Value.int .i64) (Value.int .i64) s.poly), [], 0⟩, ⟨B3, 61, (s.values.flatMap enc_Affine), c2 * 2⟩]) _ [⟨B, 107, [.int .i64 s.sum.Ins, .int .i64 s.sum.Vars, .int .i64 s.sum.Root, .int .i64 s.sum.Phase, .slice B1 s.sum.Terms.length c, .slice B2 s.sum.Out.length c1, .map (some g), .slice B3 s.values.length c2], 8⟩, ⟨(some ⟨g, 0, none⟩), .mp (mpE (Value.int .i64) (Value.int .i64) s.poly), [], 0⟩, ⟨B3, 61, (((s.values.set g1.A.toNat x5).set g1.B.toNat x).flatMap enc_Affine), c2 * 2⟩, ⟨some ⟨b, 0, none⟩, 76, [.int .i64 g1.Kind, .int .i64 g1.A, .int .i64 g1.B], 3⟩] [⟨B1, (s.sum.Terms.flatMap enc_Term)⟩, ⟨B2, (s.sum.Out.flatMap enc_Affine)⟩] := hS47
                                  refine ⟨(ST.sel hS47 [0, 1, 3] rfl rfl), ?_⟩
                                  refine ra_done (by kernel_rfl) ?_
                                  exact ⟨FF.nil, (hS47.sel [0, 1, 2] rfl rfl)⟩
                                exact allR_nil
                              exact allR_nil
                            exact allR_nil
                          exact allR_nil
                        exact allR_nil
                      exact allR_nil
                    refine ra_y 143 (i := 26) (v := pt B3 (g1.A.toNat * 2)) rfl rfl rfl (Y_index (B := B3) (m := s.values.length) (c := c2) (k := .i64) (i := g1.A) k_sl_55_61 k_sz_61_2 rfl rfl rfl (gi_isSome enc_Affine_len rfl (hS45.cf (i := 2) rfl) hx) (getI_nn hx) (getI_ltI hx rfl)) (ST.sel hS45 [0, 1, 3] rfl rfl) ?_ ?_
                    · skip
                      refine ra_all (rs := [19, 27]) (by kernel_rfl) rfl ?_
                      refine ra_y 136 (i := 19) (v := .agg #[.int .i64 x5.Mask, .int .i64 x5.Turn]) rfl rfl rfl (Y_loadA (B := B3) (i := g1.B.toNat * 2) (cs := (s.values.flatMap enc_Affine)) (vs := [.int .i64 x5.Mask, .int .i64 x5.Turn]) k_ag_61 k_sz_61_2 rfl rfl (hS45.cf (i := 2) rfl) (enc_Affine_len x5) (gi_seg enc_Affine_len hx5)) (ST.sel hS45 [0, 1, 3] rfl rfl) ?_ ?_
                      · skip
                        refine ra_all (rs := [27]) (by kernel_rfl) rfl ?_
                        refine ra_y 144 (i := 27) (v := .agg #[.int .i64 x.Mask, .int .i64 x.Turn]) rfl rfl rfl (Y_loadA (B := B3) (i := g1.A.toNat * 2) (cs := (s.values.flatMap enc_Affine)) (vs := [.int .i64 x.Mask, .int .i64 x.Turn]) k_ag_61 k_sz_61_2 rfl rfl (hS45.cf (i := 2) rfl) (enc_Affine_len x) (gi_seg enc_Affine_len hx)) (ST.sel hS45 [0, 1, 3] rfl rfl) ?_ ?_
                        · skip
                          refine ra_all (rs := [28]) (by kernel_rfl) rfl ?_
                          refine ra_y 145 (i := 28) (v := pt B3 (g1.A.toNat * 2)) rfl rfl rfl (Y_index (B := B3) (m := s.values.length) (c := c2) (k := .i64) (i := g1.A) k_sl_55_61 k_sz_61_2 rfl rfl rfl (gi_isSome enc_Affine_len rfl (hS45.cf (i := 2) rfl) hx) (getI_nn hx) (getI_ltI hx rfl)) (ST.sel hS45 [0, 1, 3] rfl rfl) ?_ ?_
                          · skip
                            refine ra_all (rs := [29]) (by kernel_rfl) rfl ?_
                            refine ra_s0 (i := 29) rfl rfl rfl (Ys_store (i := 2) (s := 2) (B := B3) (T' := 61) (v := .agg #[.int .i64 x5.Mask, .int .i64 x5.Turn]) (vs := [.int .i64 x5.Mask, .int .i64 x5.Turn]) (k := g1.A.toNat * 2) (cs' := ((s.values.set g1.A.toNat x5).flatMap enc_Affine)) hS45 k_sz_61_2 rfl rfl rfl rfl rfl rfl rfl (gi_fit0 enc_Affine_len hx) (gi_set enc_Affine_len hx x5 rfl) rfl) ?_ ?_
                            · rintro _ w_27 ⟨rfl, hS48⟩
                              have hS48 : ST w0 (bl [⟨B, 107, [.int .i64 s.sum.Ins, .int .i64 s.sum.Vars, .int .i64 s.sum.Root, .int .i64 s.sum.Phase, .slice B1 s.sum.Terms.length c, .slice B2 s.sum.Out.length c1, .map (some g), .slice B3 s.values.length c2], 8⟩, ⟨(some ⟨g, 0, none⟩), .mp (mpE (Value.int .i64) (Value.int .i64) s.poly), [], 0⟩, ⟨B3, 61, (s.values.flatMap enc_Affine), c2 * 2⟩]) _ [⟨B, 107, [.int .i64 s.sum.Ins, .int .i64 s.sum.Vars, .int .i64 s.sum.Root, .int .i64 s.sum.Phase, .slice B1 s.sum.Terms.length c, .slice B2 s.sum.Out.length c1, .map (some g), .slice B3 s.values.length c2], 8⟩, ⟨(some ⟨g, 0, none⟩), .mp (mpE (Value.int .i64) (Value.int .i64) s.poly), [], 0⟩, ⟨B3, 61, ((s.values.set g1.A.toNat x5).flatMap enc_Affine), c2 * 2⟩, ⟨some ⟨b, 0, none⟩, 76, [.int .i64 g1.Kind, .int .i64 g1.A, .int .i64 g1.B], 3⟩] [⟨B1, (s.sum.Terms.flatMap enc_Term)⟩, ⟨B2, (s.sum.Out.flatMap enc_Affine)⟩] := hS48
                              refine ⟨(ST.sel hS48 [0, 1, 3] rfl rfl), ?_⟩
                              refine ra_all (rs := [30]) (by kernel_rfl) rfl ?_
                              refine ra_y 146 (i := 30) (v := pt B3 (g1.B.toNat * 2)) rfl rfl rfl (Y_index (B := B3) (m := s.values.length) (c := c2) (k := .i64) (i := g1.B) k_sl_55_61 k_sz_61_2 rfl rfl rfl (gi_isSome enc_Affine_len rfl (hS48.cf (i := 2) rfl) hx6) (getI_nn hx6) (getI_ltI hx6 (set_len _ _ _ rfl))) (ST.sel hS48 [0, 1, 3] rfl rfl) ?_ ?_
                              · skip
                                refine ra_all (rs := [31]) (by kernel_rfl) rfl ?_
                                refine ra_s0 (i := 31) rfl rfl rfl (Ys_store (i := 2) (s := 2) (B := B3) (T' := 61) (v := .agg #[.int .i64 x.Mask, .int .i64 x.Turn]) (vs := [.int .i64 x.Mask, .int .i64 x.Turn]) (k := g1.B.toNat * 2) (cs' := (((s.values.set g1.A.toNat x5).set g1.B.toNat x).flatMap enc_Affine)) hS48 k_sz_61_2 rfl rfl rfl rfl rfl rfl rfl (gi_fit0 enc_Affine_len hx6) (gi_set enc_Affine_len hx6 x rfl) rfl) ?_ ?_
                                · rintro _ w_28 ⟨rfl, hS49⟩
                                  have hS49 : ST w0 (bl [⟨B, 107, [.int .i64 s.sum.Ins, .int .i64 s.sum.Vars, .int .i64 s.sum.Root, .int .i64 s.sum.Phase, .slice B1 s.sum.Terms.length c, .slice B2 s.sum.Out.length c1, .map (some g), .slice B3 s.values.length c2], 8⟩, ⟨(some ⟨g, 0, none⟩), .mp (mpE (Value.int .i64) (Value.int .i64) s.poly), [], 0⟩, ⟨B3, 61, (s.values.flatMap enc_Affine), c2 * 2⟩]) _ [⟨B, 107, [.int .i64 s.sum.Ins, .int .i64 s.sum.Vars, .int .i64 s.sum.Root, .int .i64 s.sum.Phase, .slice B1 s.sum.Terms.length c, .slice B2 s.sum.Out.length c1, .map (some g), .slice B3 s.values.length c2], 8⟩, ⟨(some ⟨g, 0, none⟩), .mp (mpE (Value.int .i64) (Value.int .i64) s.poly), [], 0⟩, ⟨B3, 61, (((s.values.set g1.A.toNat x5).set g1.B.toNat x).flatMap enc_Affine), c2 * 2⟩, ⟨some ⟨b, 0, none⟩, 76, [.int .i64 g1.Kind, .int .i64 g1.A, .int .i64 g1.B], 3⟩] [⟨B1, (s.sum.Terms.flatMap enc_Term)⟩, ⟨B2, (s.sum.Out.flatMap enc_Affine)⟩] := hS49
                                  refine ⟨(ST.sel hS49 [0, 1, 3] rfl rfl), ?_⟩
                                  refine ra_done (by kernel_rfl) ?_
                                  exact ⟨FF.nil, (hS49.sel [0, 1, 2] rfl rfl)⟩
                                exact allR_nil
                              exact allR_nil
                            exact allR_nil
                          exact allR_nil
                        exact allR_nil
                      refine ra_y 144 (i := 27) (v := .agg #[.int .i64 x.Mask, .int .i64 x.Turn]) rfl rfl rfl (Y_loadA (B := B3) (i := g1.A.toNat * 2) (cs := (s.values.flatMap enc_Affine)) (vs := [.int .i64 x.Mask, .int .i64 x.Turn]) k_ag_61 k_sz_61_2 rfl rfl (hS45.cf (i := 2) rfl) (enc_Affine_len x) (gi_seg enc_Affine_len hx)) (ST.sel hS45 [0, 1, 3] rfl rfl) ?_ ?_
                      · skip
                        refine ra_all (rs := [19]) (by kernel_rfl) rfl ?_
                        refine ra_y 136 (i := 19) (v := .agg #[.int .i64 x5.Mask, .int .i64 x5.Turn]) rfl rfl rfl (Y_loadA (B := B3) (i := g1.B.toNat * 2) (cs := (s.values.flatMap enc_Affine)) (vs := [.int .i64 x5.Mask, .int .i64 x5.Turn]) k_ag_61 k_sz_61_2 rfl rfl (hS45.cf (i := 2) rfl) (enc_Affine_len x5) (gi_seg enc_Affine_len hx5)) (ST.sel hS45 [0, 1, 3] rfl rfl) ?_ ?_
                        · skip
                          refine ra_all (rs := [28]) (by kernel_rfl) rfl ?_
                          refine ra_y 145 (i := 28) (v := pt B3 (g1.A.toNat * 2)) rfl rfl rfl (Y_index (B := B3) (m := s.values.length) (c := c2) (k := .i64) (i := g1.A) k_sl_55_61 k_sz_61_2 rfl rfl rfl (gi_isSome enc_Affine_len rfl (hS45.cf (i := 2) rfl) hx) (getI_nn hx) (getI_ltI hx rfl)) (ST.sel hS45 [0, 1, 3] rfl rfl) ?_ ?_
                          · skip
                            refine ra_all (rs := [29]) (by kernel_rfl) rfl ?_
                            refine ra_s0 (i := 29) rfl rfl rfl (Ys_store (i := 2) (s := 2) (B := B3) (T' := 61) (v := .agg #[.int .i64 x5.Mask, .int .i64 x5.Turn]) (vs := [.int .i64 x5.Mask, .int .i64 x5.Turn]) (k := g1.A.toNat * 2) (cs' := ((s.values.set g1.A.toNat x5).flatMap enc_Affine)) hS45 k_sz_61_2 rfl rfl rfl rfl rfl rfl rfl (gi_fit0 enc_Affine_len hx) (gi_set enc_Affine_len hx x5 rfl) rfl) ?_ ?_
                            · rintro _ w_29 ⟨rfl, hS50⟩
                              have hS50 : ST w0 (bl [⟨B, 107, [.int .i64 s.sum.Ins, .int .i64 s.sum.Vars, .int .i64 s.sum.Root, .int .i64 s.sum.Phase, .slice B1 s.sum.Terms.length c, .slice B2 s.sum.Out.length c1, .map (some g), .slice B3 s.values.length c2], 8⟩, ⟨(some ⟨g, 0, none⟩), .mp (mpE (Value.int .i64) (Value.int .i64) s.poly), [], 0⟩, ⟨B3, 61, (s.values.flatMap enc_Affine), c2 * 2⟩]) _ [⟨B, 107, [.int .i64 s.sum.Ins, .int .i64 s.sum.Vars, .int .i64 s.sum.Root, .int .i64 s.sum.Phase, .slice B1 s.sum.Terms.length c, .slice B2 s.sum.Out.length c1, .map (some g), .slice B3 s.values.length c2], 8⟩, ⟨(some ⟨g, 0, none⟩), .mp (mpE (Value.int .i64) (Value.int .i64) s.poly), [], 0⟩, ⟨B3, 61, ((s.values.set g1.A.toNat x5).flatMap enc_Affine), c2 * 2⟩, ⟨some ⟨b, 0, none⟩, 76, [.int .i64 g1.Kind, .int .i64 g1.A, .int .i64 g1.B], 3⟩] [⟨B1, (s.sum.Terms.flatMap enc_Term)⟩, ⟨B2, (s.sum.Out.flatMap enc_Affine)⟩] := hS50
                              refine ⟨(ST.sel hS50 [0, 1, 3] rfl rfl), ?_⟩
                              refine ra_all (rs := [30]) (by kernel_rfl) rfl ?_
                              refine ra_y 146 (i := 30) (v := pt B3 (g1.B.toNat * 2)) rfl rfl rfl (Y_index (B := B3) (m := s.values.length) (c := c2) (k := .i64) (i := g1.B) k_sl_55_61 k_sz_61_2 rfl rfl rfl (gi_isSome enc_Affine_len rfl (hS50.cf (i := 2) rfl) hx6) (getI_nn hx6) (getI_ltI hx6 (set_len _ _ _ rfl))) (ST.sel hS50 [0, 1, 3] rfl rfl) ?_ ?_
                              · skip
                                refine ra_all (rs := [31]) (by kernel_rfl) rfl ?_
                                refine ra_s0 (i := 31) rfl rfl rfl (Ys_store (i := 2) (s := 2) (B := B3) (T' := 61) (v := .agg #[.int .i64 x.Mask, .int .i64 x.Turn]) (vs := [.int .i64 x.Mask, .int .i64 x.Turn]) (k := g1.B.toNat * 2) (cs' := (((s.values.set g1.A.toNat x5).set g1.B.toNat x).flatMap enc_Affine)) hS50 k_sz_61_2 rfl rfl rfl rfl rfl rfl rfl (gi_fit0 enc_Affine_len hx6) (gi_set enc_Affine_len hx6 x rfl) rfl) ?_ ?_
                                · rintro _ w_30 ⟨rfl, hS51⟩
                                  have hS51 : ST w0 (bl [⟨B, 107, [.int .i64 s.sum.Ins, .int .i64 s.sum.Vars, .int .i64 s.sum.Root, .int .i64 s.sum.Phase, .slice B1 s.sum.Terms.length c, .slice B2 s.sum.Out.length c1, .map (some g), .slice B3 s.values.length c2], 8⟩, ⟨(some ⟨g, 0, none⟩), .mp (mpE (Value.int .i64) (Value.int .i64) s.poly), [], 0⟩, ⟨B3, 61, (s.values.flatMap enc_Affine), c2 * 2⟩]) _ [⟨B, 107, [.int .i64 s.sum.Ins, .int .i64 s.sum.Vars, .int .i64 s.sum.Root, .int .i64 s.sum.Phase, .slice B1 s.sum.Terms.length c, .slice B2 s.sum.Out.length c1, .map (some g), .slice B3 s.values.length c2], 8⟩, ⟨(some ⟨g, 0, none⟩), .mp (mpE (Value.int .i64) (Value.int .i64) s.poly), [], 0⟩, ⟨B3, 61, (((s.values.set g1.A.toNat x5).set g1.B.toNat x).flatMap enc_Affine), c2 * 2⟩, ⟨some ⟨b, 0, none⟩, 76, [.int .i64 g1.Kind, .int .i64 g1.A, .int .i64 g1.B], 3⟩] [⟨B1, (s.sum.Terms.flatMap enc_Term)⟩, ⟨B2, (s.sum.Out.flatMap enc_Affine)⟩] := hS51
                                  refine ⟨(ST.sel hS51 [0, 1, 3] rfl rfl), ?_⟩
                                  refine ra_done (by kernel_rfl) ?_
                                  exact ⟨FF.nil, (hS51.sel [0, 1, 2] rfl rfl)⟩
                                exact allR_nil
                              exact allR_nil
                            exact allR_nil
                          exact allR_nil
                        exact allR_nil
                      exact allR_nil
                    exact allR_nil
                  refine ra_y 143 (i := 26) (v := pt B3 (g1.A.toNat * 2)) rfl rfl rfl (Y_index (B := B3) (m := s.values.length) (c := c2) (k := .i64) (i := g1.A) k_sl_55_61 k_sz_61_2 rfl rfl rfl (gi_isSome enc_Affine_len rfl (hS45.cf (i := 2) rfl) hx) (getI_nn hx) (getI_ltI hx rfl)) (ST.sel hS45 [0, 1, 3] rfl rfl) ?_ ?_
                  · skip
                    refine ra_all (rs := [18, 27]) (by kernel_rfl) rfl ?_
                    refine ra_y 135 (i := 18) (v := pt B3 (g1.B.toNat * 2)) rfl rfl rfl (Y_index (B := B3) (m := s.values.length) (c := c2) (k := .i64) (i := g1.B) k_sl_55_61 k_sz_61_2 rfl rfl rfl (gi_isSome enc_Affine_len rfl (hS45.cf (i := 2) rfl) hx5) (getI_nn hx5) (getI_ltI hx5 rfl)) (ST.sel hS45 [0, 1, 3] rfl rfl) ?_ ?_
                    · skip
                      refine ra_all (rs := [19, 27]) (by kernel_rfl) rfl ?_
                      refine ra_y 136 (i := 19) (v := .agg #[.int .i64 x5.Mask, .int .i64 x5.Turn]) rfl rfl rfl (Y_loadA (B := B3) (i := g1.B.toNat * 2) (cs := (s.values.flatMap enc_Affine)) (vs := [.int .i64 x5.Mask, .int .i64 x5.Turn]) k_ag_61 k_sz_61_2 rfl rfl (hS45.cf (i := 2) rfl) (enc_Affine_len x5) (gi_seg enc_Affine_len hx5)) (ST.sel hS45 [0, 1, 3] rfl rfl) ?_ ?_
                      · skip
                        refine ra_all (rs := [27]) (by kernel_rfl) rfl ?_
                        refine ra_y 144 (i := 27) (v := .agg #[.int .i64 x.Mask, .int .i64 x.Turn]) rfl rfl rfl (Y_loadA (B := B3) (i := g1.A.toNat * 2) (cs := (s.values.flatMap enc_Affine)) (vs := [.int .i64 x.Mask, .int .i64 x.Turn]) k_ag_61 k_sz_61_2 rfl rfl (hS45.cf (i := 2) rfl) (enc_Affine_len x) (gi_seg enc_Affine_len hx)) (ST.sel hS45 [0, 1, 3] rfl rfl) ?_ ?_
                        · skip
                          refine ra_all (rs := [28]) (by kernel_rfl) rfl ?_
                          refine ra_y 145 (i := 28) (v := pt B3 (g1.A.toNat * 2)) rfl rfl rfl (Y_index (B := B3) (m := s.values.length) (c := c2) (k := .i64) (i := g1.A) k_sl_55_61 k_sz_61_2 rfl rfl rfl (gi_isSome enc_Affine_len rfl (hS45.cf (i := 2) rfl) hx) (getI_nn hx) (getI_ltI hx rfl)) (ST.sel hS45 [0, 1, 3] rfl rfl) ?_ ?_
                          · skip
                            refine ra_all (rs := [29]) (by kernel_rfl) rfl ?_
                            refine ra_s0 (i := 29) rfl rfl rfl (Ys_store (i := 2) (s := 2) (B := B3) (T' := 61) (v := .agg #[.int .i64 x5.Mask, .int .i64 x5.Turn]) (vs := [.int .i64 x5.Mask, .int .i64 x5.Turn]) (k := g1.A.toNat * 2) (cs' := ((s.values.set g1.A.toNat x5).flatMap enc_Affine)) hS45 k_sz_61_2 rfl rfl rfl rfl rfl rfl rfl (gi_fit0 enc_Affine_len hx) (gi_set enc_Affine_len hx x5 rfl) rfl) ?_ ?_
                            · rintro _ w_31 ⟨rfl, hS52⟩
                              have hS52 : ST w0 (bl [⟨B, 107, [.int .i64 s.sum.Ins, .int .i64 s.sum.Vars, .int .i64 s.sum.Root, .int .i64 s.sum.Phase, .slice B1 s.sum.Terms.length c, .slice B2 s.sum.Out.length c1, .map (some g), .slice B3 s.values.length c2], 8⟩, ⟨(some ⟨g, 0, none⟩), .mp (mpE (Value.int .i64) (Value.int .i64) s.poly), [], 0⟩, ⟨B3, 61, (s.values.flatMap enc_Affine), c2 * 2⟩]) _ [⟨B, 107, [.int .i64 s.sum.Ins, .int .i64 s.sum.Vars, .int .i64 s.sum.Root, .int .i64 s.sum.Phase, .slice B1 s.sum.Terms.length c, .slice B2 s.sum.Out.length c1, .map (some g), .slice B3 s.values.length c2], 8⟩, ⟨(some ⟨g, 0, none⟩), .mp (mpE (Value.int .i64) (Value.int .i64) s.poly), [], 0⟩, ⟨B3, 61, ((s.values.set g1.A.toNat x5).flatMap enc_Affine), c2 * 2⟩, ⟨some ⟨b, 0, none⟩, 76, [.int .i64 g1.Kind, .int .i64 g1.A, .int .i64 g1.B], 3⟩] [⟨B1, (s.sum.Terms.flatMap enc_Term)⟩, ⟨B2, (s.sum.Out.flatMap enc_Affine)⟩] := hS52
                              refine ⟨(ST.sel hS52 [0, 1, 3] rfl rfl), ?_⟩
                              refine ra_all (rs := [30]) (by kernel_rfl) rfl ?_
                              refine ra_y 146 (i := 30) (v := pt B3 (g1.B.toNat * 2)) rfl rfl rfl (Y_index (B := B3) (m := s.values.length) (c := c2) (k := .i64) (i := g1.B) k_sl_55_61 k_sz_61_2 rfl rfl rfl (gi_isSome enc_Affine_len rfl (hS52.cf (i := 2) rfl) hx6) (getI_nn hx6) (getI_ltI hx6 (set_len _ _ _ rfl))) (ST.sel hS52 [0, 1, 3] rfl rfl) ?_ ?_
                              · skip
                                refine ra_all (rs := [31]) (by kernel_rfl) rfl ?_
                                refine ra_s0 (i := 31) rfl rfl rfl (Ys_store (i := 2) (s := 2) (B := B3) (T' := 61) (v := .agg #[.int .i64 x.Mask, .int .i64 x.Turn]) (vs := [.int .i64 x.Mask, .int .i64 x.Turn]) (k := g1.B.toNat * 2) (cs' := (((s.values.set g1.A.toNat x5).set g1.B.toNat x).flatMap enc_Affine)) hS52 k_sz_61_2 rfl rfl rfl rfl rfl rfl rfl (gi_fit0 enc_Affine_len hx6) (gi_set enc_Affine_len hx6 x rfl) rfl) ?_ ?_
                                · rintro _ w_32 ⟨rfl, hS53⟩
                                  have hS53 : ST w0 (bl [⟨B, 107, [.int .i64 s.sum.Ins, .int .i64 s.sum.Vars, .int .i64 s.sum.Root, .int .i64 s.sum.Phase, .slice B1 s.sum.Terms.length c, .slice B2 s.sum.Out.length c1, .map (some g), .slice B3 s.values.length c2], 8⟩, ⟨(some ⟨g, 0, none⟩), .mp (mpE (Value.int .i64) (Value.int .i64) s.poly), [], 0⟩, ⟨B3, 61, (s.values.flatMap enc_Affine), c2 * 2⟩]) _ [⟨B, 107, [.int .i64 s.sum.Ins, .int .i64 s.sum.Vars, .int .i64 s.sum.Root, .int .i64 s.sum.Phase, .slice B1 s.sum.Terms.length c, .slice B2 s.sum.Out.length c1, .map (some g), .slice B3 s.values.length c2], 8⟩, ⟨(some ⟨g, 0, none⟩), .mp (mpE (Value.int .i64) (Value.int .i64) s.poly), [], 0⟩, ⟨B3, 61, (((s.values.set g1.A.toNat x5).set g1.B.toNat x).flatMap enc_Affine), c2 * 2⟩, ⟨some ⟨b, 0, none⟩, 76, [.int .i64 g1.Kind, .int .i64 g1.A, .int .i64 g1.B], 3⟩] [⟨B1, (s.sum.Terms.flatMap enc_Term)⟩, ⟨B2, (s.sum.Out.flatMap enc_Affine)⟩] := hS53
                                  refine ⟨(ST.sel hS53 [0, 1, 3] rfl rfl), ?_⟩
                                  refine ra_done (by kernel_rfl) ?_
                                  exact ⟨FF.nil, (hS53.sel [0, 1, 2] rfl rfl)⟩
                                exact allR_nil
                              exact allR_nil
                            exact allR_nil
                          exact allR_nil
                        exact allR_nil
                      refine ra_y 144 (i := 27) (v := .agg #[.int .i64 x.Mask, .int .i64 x.Turn]) rfl rfl rfl (Y_loadA (B := B3) (i := g1.A.toNat * 2) (cs := (s.values.flatMap enc_Affine)) (vs := [.int .i64 x.Mask, .int .i64 x.Turn]) k_ag_61 k_sz_61_2 rfl rfl (hS45.cf (i := 2) rfl) (enc_Affine_len x) (gi_seg enc_Affine_len hx)) (ST.sel hS45 [0, 1, 3] rfl rfl) ?_ ?_
                      · skip
                        refine ra_all (rs := [19]) (by kernel_rfl) rfl ?_
                        refine ra_y 136 (i := 19) (v := .agg #[.int .i64 x5.Mask, .int .i64 x5.Turn]) rfl rfl rfl (Y_loadA (B := B3) (i := g1.B.toNat * 2) (cs := (s.values.flatMap enc_Affine)) (vs := [.int .i64 x5.Mask, .int .i64 x5.Turn]) k_ag_61 k_sz_61_2 rfl rfl (hS45.cf (i := 2) rfl) (enc_Affine_len x5) (gi_seg enc_Affine_len hx5)) (ST.sel hS45 [0, 1, 3] rfl rfl) ?_ ?_
                        · skip
                          refine ra_all (rs := [28]) (by kernel_rfl) rfl ?_
                          refine ra_y 145 (i := 28) (v := pt B3 (g1.A.toNat * 2)) rfl rfl rfl (Y_index (B := B3) (m := s.values.length) (c := c2) (k := .i64) (i := g1.A) k_sl_55_61 k_sz_61_2 rfl rfl rfl (gi_isSome enc_Affine_len rfl (hS45.cf (i := 2) rfl) hx) (getI_nn hx) (getI_ltI hx rfl)) (ST.sel hS45 [0, 1, 3] rfl rfl) ?_ ?_
                          · skip
                            refine ra_all (rs := [29]) (by kernel_rfl) rfl ?_
                            refine ra_s0 (i := 29) rfl rfl rfl (Ys_store (i := 2) (s := 2) (B := B3) (T' := 61) (v := .agg #[.int .i64 x5.Mask, .int .i64 x5.Turn]) (vs := [.int .i64 x5.Mask, .int .i64 x5.Turn]) (k := g1.A.toNat * 2) (cs' := ((s.values.set g1.A.toNat x5).flatMap enc_Affine)) hS45 k_sz_61_2 rfl rfl rfl rfl rfl rfl rfl (gi_fit0 enc_Affine_len hx) (gi_set enc_Affine_len hx x5 rfl) rfl) ?_ ?_
                            · rintro _ w_33 ⟨rfl, hS54⟩
                              have hS54 : ST w0 (bl [⟨B, 107, [.int .i64 s.sum.Ins, .int .i64 s.sum.Vars, .int .i64 s.sum.Root, .int .i64 s.sum.Phase, .slice B1 s.sum.Terms.length c, .slice B2 s.sum.Out.length c1, .map (some g), .slice B3 s.values.length c2], 8⟩, ⟨(some ⟨g, 0, none⟩), .mp (mpE (Value.int .i64) (Value.int .i64) s.poly), [], 0⟩, ⟨B3, 61, (s.values.flatMap enc_Affine), c2 * 2⟩]) _ [⟨B, 107, [.int .i64 s.sum.Ins, .int .i64 s.sum.Vars, .int .i64 s.sum.Root, .int .i64 s.sum.Phase, .slice B1 s.sum.Terms.length c, .slice B2 s.sum.Out.length c1, .map (some g), .slice B3 s.values.length c2], 8⟩, ⟨(some ⟨g, 0, none⟩), .mp (mpE (Value.int .i64) (Value.int .i64) s.poly), [], 0⟩, ⟨B3, 61, ((s.values.set g1.A.toNat x5).flatMap enc_Affine), c2 * 2⟩, ⟨some ⟨b, 0, none⟩, 76, [.int .i64 g1.Kind, .int .i64 g1.A, .int .i64 g1.B], 3⟩] [⟨B1, (s.sum.Terms.flatMap enc_Term)⟩, ⟨B2, (s.sum.Out.flatMap enc_Affine)⟩] := hS54
                              refine ⟨(ST.sel hS54 [0, 1, 3] rfl rfl), ?_⟩
                              refine ra_all (rs := [30]) (by kernel_rfl) rfl ?_
                              refine ra_y 146 (i := 30) (v := pt B3 (g1.B.toNat * 2)) rfl rfl rfl (Y_index (B := B3) (m := s.values.length) (c := c2) (k := .i64) (i := g1.B) k_sl_55_61 k_sz_61_2 rfl rfl rfl (gi_isSome enc_Affine_len rfl (hS54.cf (i := 2) rfl) hx6) (getI_nn hx6) (getI_ltI hx6 (set_len _ _ _ rfl))) (ST.sel hS54 [0, 1, 3] rfl rfl) ?_ ?_
                              · skip
                                refine ra_all (rs := [31]) (by kernel_rfl) rfl ?_
                                refine ra_s0 (i := 31) rfl rfl rfl (Ys_store (i := 2) (s := 2) (B := B3) (T' := 61) (v := .agg #[.int .i64 x.Mask, .int .i64 x.Turn]) (vs := [.int .i64 x.Mask, .int .i64 x.Turn]) (k := g1.B.toNat * 2) (cs' := (((s.values.set g1.A.toNat x5).set g1.B.toNat x).flatMap enc_Affine)) hS54 k_sz_61_2 rfl rfl rfl rfl rfl rfl rfl (gi_fit0 enc_Affine_len hx6) (gi_set enc_Affine_len hx6 x rfl) rfl) ?_ ?_
                                · rintro _ w_34 ⟨rfl, hS55⟩
                                  have hS55 : ST w0 (bl [⟨B, 107, [.int .i64 s.sum.Ins, .int .i64 s.sum.Vars, .int .i64 s.sum.Root, .int .i64 s.sum.Phase, .slice B1 s.sum.Terms.length c, .slice B2 s.sum.Out.length c1, .map (some g), .slice B3 s.values.length c2], 8⟩, ⟨(some ⟨g, 0, none⟩), .mp (mpE (Value.int .i64) (Value.int .i64) s.poly), [], 0⟩, ⟨B3, 61, (s.values.flatMap enc_Affine), c2 * 2⟩]) _ [⟨B, 107, [.int .i64 s.sum.Ins, .int .i64 s.sum.Vars, .int .i64 s.sum.Root, .int .i64 s.sum.Phase, .slice B1 s.sum.Terms.length c, .slice B2 s.sum.Out.length c1, .map (some g), .slice B3 s.values.length c2], 8⟩, ⟨(some ⟨g, 0, none⟩), .mp (mpE (Value.int .i64) (Value.int .i64) s.poly), [], 0⟩, ⟨B3, 61, (((s.values.set g1.A.toNat x5).set g1.B.toNat x).flatMap enc_Affine), c2 * 2⟩, ⟨some ⟨b, 0, none⟩, 76, [.int .i64 g1.Kind, .int .i64 g1.A, .int .i64 g1.B], 3⟩] [⟨B1, (s.sum.Terms.flatMap enc_Term)⟩, ⟨B2, (s.sum.Out.flatMap enc_Affine)⟩] := hS55
                                  refine ⟨(ST.sel hS55 [0, 1, 3] rfl rfl), ?_⟩
                                  refine ra_done (by kernel_rfl) ?_
                                  exact ⟨FF.nil, (hS55.sel [0, 1, 2] rfl rfl)⟩
                                exact allR_nil
                              exact allR_nil
                            exact allR_nil
                          exact allR_nil
                        exact allR_nil
                      exact allR_nil
                    refine ra_y 144 (i := 27) (v := .agg #[.int .i64 x.Mask, .int .i64 x.Turn]) rfl rfl rfl (Y_loadA (B := B3) (i := g1.A.toNat * 2) (cs := (s.values.flatMap enc_Affine)) (vs := [.int .i64 x.Mask, .int .i64 x.Turn]) k_ag_61 k_sz_61_2 rfl rfl (hS45.cf (i := 2) rfl) (enc_Affine_len x) (gi_seg enc_Affine_len hx)) (ST.sel hS45 [0, 1, 3] rfl rfl) ?_ ?_
                    · skip
                      refine ra_all (rs := [18]) (by kernel_rfl) rfl ?_
                      refine ra_y 135 (i := 18) (v := pt B3 (g1.B.toNat * 2)) rfl rfl rfl (Y_index (B := B3) (m := s.values.length) (c := c2) (k := .i64) (i := g1.B) k_sl_55_61 k_sz_61_2 rfl rfl rfl (gi_isSome enc_Affine_len rfl (hS45.cf (i := 2) rfl) hx5) (getI_nn hx5) (getI_ltI hx5 rfl)) (ST.sel hS45 [0, 1, 3] rfl rfl) ?_ ?_
                      · skip
                        refine ra_all (rs := [19]) (by kernel_rfl) rfl ?_
                        refine ra_y 136 (i := 19) (v := .agg #[.int .i64 x5.Mask, .int .i64 x5.Turn]) rfl rfl rfl (Y_loadA (B := B3) (i := g1.B.toNat * 2) (cs := (s.values.flatMap enc_Affine)) (vs := [.int .i64 x5.Mask, .int .i64 x5.Turn]) k_ag_61 k_sz_61_2 rfl rfl (hS45.cf (i := 2) rfl) (enc_Affine_len x5) (gi_seg enc_Affine_len hx5)) (ST.sel hS45 [0, 1, 3] rfl rfl) ?_ ?_
                        · skip
                          refine ra_all (rs := [28]) (by kernel_rfl) rfl ?_
                          refine ra_y 145 (i := 28) (v := pt B3 (g1.A.toNat * 2)) rfl rfl rfl (Y_index (B := B3) (m := s.values.length) (c := c2) (k := .i64) (i := g1.A) k_sl_55_61 k_sz_61_2 rfl rfl rfl (gi_isSome enc_Affine_len rfl (hS45.cf (i := 2) rfl) hx) (getI_nn hx) (getI_ltI hx rfl)) (ST.sel hS45 [0, 1, 3] rfl rfl) ?_ ?_
                          · skip
                            refine ra_all (rs := [29]) (by kernel_rfl) rfl ?_
                            refine ra_s0 (i := 29) rfl rfl rfl (Ys_store (i := 2) (s := 2) (B := B3) (T' := 61) (v := .agg #[.int .i64 x5.Mask, .int .i64 x5.Turn]) (vs := [.int .i64 x5.Mask, .int .i64 x5.Turn]) (k := g1.A.toNat * 2) (cs' := ((s.values.set g1.A.toNat x5).flatMap enc_Affine)) hS45 k_sz_61_2 rfl rfl rfl rfl rfl rfl rfl (gi_fit0 enc_Affine_len hx) (gi_set enc_Affine_len hx x5 rfl) rfl) ?_ ?_
                            · rintro _ w_35 ⟨rfl, hS56⟩
                              have hS56 : ST w0 (bl [⟨B, 107, [.int .i64 s.sum.Ins, .int .i64 s.sum.Vars, .int .i64 s.sum.Root, .int .i64 s.sum.Phase, .slice B1 s.sum.Terms.length c, .slice B2 s.sum.Out.length c1, .map (some g), .slice B3 s.values.length c2], 8⟩, ⟨(some ⟨g, 0, none⟩), .mp (mpE (Value.int .i64) (Value.int .i64) s.poly), [], 0⟩, ⟨B3, 61, (s.values.flatMap enc_Affine), c2 * 2⟩]) _ [⟨B, 107, [.int .i64 s.sum.Ins, .int .i64 s.sum.Vars, .int .i64 s.sum.Root, .int .i64 s.sum.Phase, .slice B1 s.sum.Terms.length c, .slice B2 s.sum.Out.length c1, .map (some g), .slice B3 s.values.length c2], 8⟩, ⟨(some ⟨g, 0, none⟩), .mp (mpE (Value.int .i64) (Value.int .i64) s.poly), [], 0⟩, ⟨B3, 61, ((s.values.set g1.A.toNat x5).flatMap enc_Affine), c2 * 2⟩, ⟨some ⟨b, 0, none⟩, 76, [.int .i64 g1.Kind, .int .i64 g1.A, .int .i64 g1.B], 3⟩] [⟨B1, (s.sum.Terms.flatMap enc_Term)⟩, ⟨B2, (s.sum.Out.flatMap enc_Affine)⟩] := hS56
                              refine ⟨(ST.sel hS56 [0, 1, 3] rfl rfl), ?_⟩
                              refine ra_all (rs := [30]) (by kernel_rfl) rfl ?_
                              refine ra_y 146 (i := 30) (v := pt B3 (g1.B.toNat * 2)) rfl rfl rfl (Y_index (B := B3) (m := s.values.length) (c := c2) (k := .i64) (i := g1.B) k_sl_55_61 k_sz_61_2 rfl rfl rfl (gi_isSome enc_Affine_len rfl (hS56.cf (i := 2) rfl) hx6) (getI_nn hx6) (getI_ltI hx6 (set_len _ _ _ rfl))) (ST.sel hS56 [0, 1, 3] rfl rfl) ?_ ?_
                              · skip
                                refine ra_all (rs := [31]) (by kernel_rfl) rfl ?_
                                refine ra_s0 (i := 31) rfl rfl rfl (Ys_store (i := 2) (s := 2) (B := B3) (T' := 61) (v := .agg #[.int .i64 x.Mask, .int .i64 x.Turn]) (vs := [.int .i64 x.Mask, .int .i64 x.Turn]) (k := g1.B.toNat * 2) (cs' := (((s.values.set g1.A.toNat x5).set g1.B.toNat x).flatMap enc_Affine)) hS56 k_sz_61_2 rfl rfl rfl rfl rfl rfl rfl (gi_fit0 enc_Affine_len hx6) (gi_set enc_Affine_len hx6 x rfl) rfl) ?_ ?_
                                · rintro _ w_36 ⟨rfl, hS57⟩
                                  have hS57 : ST w0 (bl [⟨B, 107, [.int .i64 s.sum.Ins, .int .i64 s.sum.Vars, .int .i64 s.sum.Root, .int .i64 s.sum.Phase, .slice B1 s.sum.Terms.length c, .slice B2 s.sum.Out.length c1, .map (some g), .slice B3 s.values.length c2], 8⟩, ⟨(some ⟨g, 0, none⟩), .mp (mpE (Value.int .i64) (Value.int .i64) s.poly), [], 0⟩, ⟨B3, 61, (s.values.flatMap enc_Affine), c2 * 2⟩]) _ [⟨B, 107, [.int .i64 s.sum.Ins, .int .i64 s.sum.Vars, .int .i64 s.sum.Root, .int .i64 s.sum.Phase, .slice B1 s.sum.Terms.length c, .slice B2 s.sum.Out.length c1, .map (some g), .slice B3 s.values.length c2], 8⟩, ⟨(some ⟨g, 0, none⟩), .mp (mpE (Value.int .i64) (Value.int .i64) s.poly), [], 0⟩, ⟨B3, 61, (((s.values.set g1.A.toNat x5).set g1.B.toNat x).flatMap enc_Affine), c2 * 2⟩, ⟨some ⟨b, 0, none⟩, 76, [.int .i64 g1.Kind, .int .i64 g1.A, .int .i64 g1.B], 3⟩] [⟨B1, (s.sum.Terms.flatMap enc_Term)⟩, ⟨B2, (s.sum.Out.flatMap enc_Affine)⟩] := hS57
                                  refine ⟨(ST.sel hS57 [0, 1, 3] rfl rfl), ?_⟩
                                  refine ra_done (by kernel_rfl) ?_
                                  exact ⟨FF.nil, (hS57.sel [0, 1, 2] rfl rfl)⟩
                                exact allR_nil
                              exact allR_nil
                            exact allR_nil
                          exact allR_nil
                        exact allR_nil
                      exact allR_nil
                    exact allR_nil
                  exact allR_nil
                rintro f w ⟨hf4, hS44⟩
                exact ⟨s.poly, ((s.values.set g1.A.toNat x5).set g1.B.toNat x), (some_inj hF16), FF.nil, (set_len _ _ _ (set_len _ _ _ rfl)), (hS44.sel [0, 1, 2] rfl rfl)⟩
              · skip
                have hF17 := cf' hF15 hb7
                refine cw_seq ?_
                refine cw_region ?_
                refine sq 148 rfl rfl (Y_eq (k := .i64) (a := g1.Kind) (b := 12) rfl rfl rfl) ?_
                refine sq 147 rfl rfl (Y_assign (v := .bool (g1.Kind == 12)) rfl rfl) ?_
                refine rw_nil ?_
                refine cw_cond (b := (g1.Kind == 12)) rfl (fun hb8 => ?_) (fun hb8 => ?_)
                · skip
                  have hF18 := ct hF17 hb8
                  refine cw_region ?_
                  refine sq 149 rfl rfl (Y_move (v := pt B 0) rfl rfl) ?_
                  refine sq 150 rfl rfl (Y_nilCheck (B := B) (i := 0) rfl rfl) ?_
                  refine sq 151 rfl rfl (Y_fieldAddr (B := B) (i := 0) (s := 0) k_fd_107_1_6_105 k_sz_105_1 rfl rfl) ?_
                  refine sq 152 rfl rfl (Y_load1 (B := B) (i := 6) (cs := [.int .i64 s.sum.Ins, .int .i64 s.sum.Vars, .int .i64 s.sum.Root, .int .i64 s.sum.Phase, .slice B1 s.sum.Terms.length c, .slice B2 s.sum.Out.length c1, .map (some g), .slice B3 s.values.length c2]) (v := .map (some g)) k_sc_105 rfl rfl (hS2.cf (i := 0) rfl) rfl) ?_
                  obtain ⟨m8, hc6, hF18⟩ := bind_inv hF18
                  refine sc 153 rfl rfl (Yc_func (g := 105) (vs := [.map (some g), .int .i64 0, .int .i64 1]) k_call_105 rfl (mc rfl (mc rfl (mc rfl mn))) (c_impl_polynomial_add s.poly 0 1 g _  (hS2.inn [false, true, false, false] rfl [] rfl) hc6)) ?_
                  rintro _ w_37 ⟨rfl, hd6⟩
                  have hS58 := hS2.out [false, true, false, false] rfl hd6
                  have hS58 : ST w0 (bl [⟨B, 107, [.int .i64 s.sum.Ins, .int .i64 s.sum.Vars, .int .i64 s.sum.Root, .int .i64 s.sum.Phase, .slice B1 s.sum.Terms.length c, .slice B2 s.sum.Out.length c1, .map (some g), .slice B3 s.values.length c2], 8⟩, ⟨(some ⟨g, 0, none⟩), .mp (mpE (Value.int .i64) (Value.int .i64) s.poly), [], 0⟩, ⟨B3, 61, (s.values.flatMap enc_Affine), c2 * 2⟩]) _ [⟨B, 107, [.int .i64 s.sum.Ins, .int .i64 s.sum.Vars, .int .i64 s.sum.Root, .int .i64 s.sum.Phase, .slice B1 s.sum.Terms.length c, .slice B2 s.sum.Out.length c1, .map (some g), .slice B3 s.values.length c2], 8⟩, ⟨B3, 61, (s.values.flatMap enc_Affine), c2 * 2⟩, ⟨some ⟨b, 0, none⟩, 76, [.int .i64 g1.Kind, .int .i64 g1.A, .int .i64 g1.B], 3⟩, ⟨(some ⟨g, 0, none⟩), .mp (mpE (Value.int .i64) (Value.int .i64) m8), [], 0⟩] [⟨B1, (s.sum.Terms.flatMap enc_Term)⟩, ⟨B2, (s.sum.Out.flatMap enc_Affine)⟩] := hS58
                  refine rw_nil ?_
                  exact ⟨m8, s.values, (some_inj hF18), FF.nil, rfl, (hS58.sel [0, 3, 1] rfl rfl)⟩
                · skip
                  have hF19 := cf' hF17 hb8
                  obtain ⟨r_1, hc7, hF19⟩ := bind_inv hF19
                  obtain ⟨m9, hc8, hF19⟩ := bind_inv hF19
                  refine ra_start (ST.sel hS2 [0, 2, 3] rfl rfl).fn (by kernel_rfl) ?_
                  have hS61 := hS2.drew
                  refine ra_q 0 15 (v := pt B 0) rfl rfl rfl (by kernel_rfl) (by kernel_rfl) (by kernel_rfl) (ST.sel hS61 [0, 2, 3] rfl rfl) (fun w' hw' => (Y_move (v := pt B 0) rfl rfl)) ?_
                  refine ra_q 1 16 (v := pt B 0) rfl rfl rfl (by kernel_rfl) (by kernel_rfl) (by kernel_rfl) (ST.sel hS61 [0, 2, 3] rfl rfl) (fun w' hw' => (Y_nilCheck (B := B) (i := 0) rfl rfl)) ?_
                  refine ra_q 2 17 (v := pt B 6) rfl rfl rfl (by kernel_rfl) (by kernel_rfl) (by kernel_rfl) (ST.sel hS61 [0, 2, 3] rfl rfl) (fun w' hw' => (Y_fieldAddr (B := B) (i := 0) (s := 0) k_fd_107_1_6_105 k_sz_105_1 rfl rfl)) ?_
                  refine ra_q 3 18 (v := .map (some g)) rfl rfl rfl (by kernel_rfl) (by kernel_rfl) (by kernel_rfl) (ST.sel hS61 [0, 2, 3] rfl rfl) (fun w' hw' => (Y_load1 (B := B) (i := 6) (cs := [.int .i64 s.sum.Ins, .int .i64 s.sum.Vars, .int .i64 s.sum.Root, .int .i64 s.sum.Phase, .slice B1 s.sum.Terms.length c, .slice B2 s.sum.Out.length c1, .map (some g), .slice B3 s.values.length c2]) (v := .map (some g)) k_sc_105 rfl rfl (ST.cf hw' (i := 0) rfl) rfl)) ?_
                  refine ra_q 4 19 (v := pt (some ⟨b, 0, none⟩) 0) rfl rfl rfl (by kernel_rfl) (by kernel_rfl) (by kernel_rfl) (ST.sel hS61 [0, 2, 3] rfl rfl) (fun w' hw' => (Y_fieldAddr (B := some ⟨b, 0, none⟩) (i := 0) (s := 0) k_fd_76_0_0_3 k_sz_3_1 rfl rfl)) ?_
                  refine ra_q 5 20 (v := .int .i64 g1.Kind) rfl rfl rfl (by kernel_rfl) (by kernel_rfl) (by kernel_rfl) (ST.sel hS61 [0, 2, 3] rfl rfl) (fun w' hw' => (Y_load1 (B := some ⟨b, 0, none⟩) (i := 0) (cs := [.int .i64 g1.Kind, .int .i64 g1.A, .int .i64 g1.B]) (v := .int .i64 g1.Kind) k_sc_3 rfl rfl (ST.cf hw' (i := 2) rfl) rfl)) ?_
                  refine ra_q 7 22 (v := pt B3 (g1.A.toNat * 2)) rfl rfl rfl (by kernel_rfl) (by kernel_rfl) (by kernel_rfl) (ST.sel hS61 [0, 2, 3] rfl rfl) (fun w' hw' => (Y_move (v := pt B3 (g1.A.toNat * 2)) rfl rfl)) ?_
                  refine ra_q 8 23 (v := pt B3 (g1.A.toNat * 2)) rfl rfl rfl (by kernel_rfl) (by kernel_rfl) (by kernel_rfl) (ST.sel hS61 [0, 2, 3] rfl rfl) (fun w' hw' => (Y_nilCheck (B := B3) (i := g1.A.toNat * 2) rfl rfl)) ?_
                  refine ra_q 9 24 (v := .agg #[.int .i64 x.Mask, .int .i64 x.Turn]) rfl rfl rfl (by kernel_rfl) (by kernel_rfl) (by kernel_rfl) (ST.sel hS61 [0, 2, 3] rfl rfl) (fun w' hw' => (Y_loadA (B := B3) (i := g1.A.toNat * 2) (cs := (s.values.flatMap enc_Affine)) (vs := [.int .i64 x.Mask, .int .i64 x.Turn]) k_ag_61 k_sz_61_2 rfl rfl (ST.cf hw' (i := 1) rfl) (enc_Affine_len x) (gi_seg enc_Affine_len hx))) ?_
                  refine ra_all (rs := [6]) (by kernel_rfl) rfl ?_
                  refine ra_c 21 (i := 6) rfl rfl rfl (Yc_func (g := 118) (vs := [.int .i64 g1.Kind]) k_call_118 rfl (mc rfl mn) (c_impl_rotationCoef g1.Kind _  (hS61.inn0 [] rfl) hc7)) ?_ ?_
                  · rintro _ w_38 ⟨rfl, hd7⟩
                    have hS62 := hS61.out00 hd7
                    have hS62 : ST w0 (bl [⟨B, 107, [.int .i64 s.sum.Ins, .int .i64 s.sum.Vars, .int .i64 s.sum.Root, .int .i64 s.sum.Phase, .slice B1 s.sum.Terms.length c, .slice B2 s.sum.Out.length c1, .map (some g), .slice B3 s.values.length c2], 8⟩, ⟨(some ⟨g, 0, none⟩), .mp (mpE (Value.int .i64) (Value.int .i64) s.poly), [], 0⟩, ⟨B3, 61, (s.values.flatMap enc_Affine), c2 * 2⟩]) _ [⟨B, 107, [.int .i64 s.sum.Ins, .int .i64 s.sum.Vars, .int .i64 s.sum.Root, .int .i64 s.sum.Phase, .slice B1 s.sum.Terms.length c, .slice B2 s.sum.Out.length c1, .map (some g), .slice B3 s.values.length c2], 8⟩, ⟨(some ⟨g, 0, none⟩), .mp (mpE (Value.int .i64) (Value.int .i64) s.poly), [], 0⟩, ⟨B3, 61, (s.values.flatMap enc_Affine), c2 * 2⟩, ⟨some ⟨b, 0, none⟩, 76, [.int .i64 g1.Kind, .int .i64 g1.A, .int .i64 g1.B], 3⟩] [⟨B1, (s.sum.Terms.flatMap enc_Term)⟩, ⟨B2, (s.sum.Out.flatMap enc_Affine)⟩] := hS62
                    refine ⟨(ST.sel hS62 [0, 2, 3] rfl rfl), ?_⟩
                    refine ra_all (rs := [10]) (by kernel_rfl) rfl ?_
                    refine ra_c 25 (i := 10) rfl rfl rfl (Yc_func (g := 104) (vs := [.map (some g), .int .i64 r_1, .agg #[.int .i64 x.Mask, .int .i64 x.Turn], .int .i64 0]) k_call_104 rfl (mc rfl (mc rfl (mc rfl (mc rfl mn)))) (c_impl_polynomial_expand s.poly r_1 x 0 g _  (hS62.inn [false, true, false, false] rfl [] rfl) hc8)) ?_ ?_
                    · rintro _ w_39 ⟨rfl, hd8⟩
                      have hS63 := hS62.out [false, true, false, false] rfl hd8
                      have hS63 : ST w0 (bl [⟨B, 107, [.int .i64 s.sum.Ins, .int .i64 s.sum.Vars, .int .i64 s.sum.Root, .int .i64 s.sum.Phase, .slice B1 s.sum.Terms.length c, .slice B2 s.sum.Out.length c1, .map (some g), .slice B3 s.values.length c2], 8⟩, ⟨(some ⟨g, 0, none⟩), .mp (mpE (Value.int .i64) (Value.int .i64) s.poly), [], 0⟩, ⟨B3, 61, (s.values.flatMap enc_Affine), c2 * 2⟩]) _ [⟨B, 107, [.int .i64 s.sum.Ins, .int .i64 s.sum.Vars, .int .i64 s.sum.Root, .int .i64 s.sum.Phase, .slice B1 s.sum.Terms.length c, .slice B2 s.sum.Out.length c1, .map (some g), .slice B3 s.values.length c2], 8⟩, ⟨B3, 61, (s.values.flatMap enc_Affine), c2 * 2⟩, ⟨some ⟨b, 0, none⟩, 76, [.int .i64 g1.Kind, .int .i64 g1.A, .int .i64 g1.B], 3⟩, ⟨(some ⟨g, 0, none⟩), .mp (mpE (Value.int .i64) (Value.int .i64) m9), [], 0⟩] [⟨B1, (s.sum.Terms.flatMap enc_Term)⟩, ⟨B2, (s.sum.Out.flatMap enc_Affine)⟩] := hS63
                      refine ⟨(ST.sel hS63 [0, 1, 2] rfl rfl), ?_⟩
                      refine ra_done (by kernel_rfl) ?_
                      exact ⟨m9, s.values, (some_inj hF19), FF.nil, rfl, (hS63.sel [0, 3, 1] rfl rfl)⟩
                    exact allR_nil
                  exact allR_nil
  rintro f w ⟨poly, values, rfl, hf, hl, hS3⟩
  refine cw_seq ?_
  refine cw_region ?_
  refine sq 4 rfl rfl (Y_assign (v := .bool true) rfl rfl) ?_
  refine rw_nil ?_
  refine cw_ret ?_
  obtain ⟨rfl, rfl, rfl, rfl⟩ := pr4 (some_inj hF1)
  exact ret1 Try.results67 (v1 := .bool true) (resAt_tmp rfl) ⟨rfl, hl, (ST.subR (R' := []) (hS3.sel [0, 1, 2] rfl rfl) (fun _ h => by cases h))⟩

def tmO (dl : List MapEntry) : List TTerm := dl.filterMap fun e => tmF (enK e, enV e)
theorem tmO_snoc (dl : List MapEntry) (e : MapEntry) : tmO (dl ++ [e]) = if 0 < enK e ∧ 0 < enV e then tmO dl ++ [⟨enK e, enV e⟩] else tmO dl := by
  unfold tmO
  rw [List.filterMap_append]
  by_cases h : 0 < enK e ∧ 0 < enV e
  · rw [if_pos h]
    simp [tmF, h]
  · rw [if_neg h]
    simp [tmF, h]
theorem tmO_es {es : Array MapEntry} {ck : Nat} {p : List (Int × Int)} (hM : MapIs es ck (mpE (Value.int .i64) (Value.int .i64) p)) : tmO es.toList = p.filterMap tmF := by
  rw [← ent_list hM, List.filterMap_map]; rfl
theorem tmF_key {p : List (Int × Int)} (h : p.Pairwise fun a b => a.1 ≠ b.1) : (p.filterMap tmF).Pairwise fun a b => a.Mask ≠ b.Mask := by
  rw [List.pairwise_filterMap]
  refine h.imp fun {a b} hab x hx y hy => ?_
  unfold tmF at hx hy
  split at hx <;> split at hy
  · cases hx; cases hy; exact hab
  · cases hy
  · cases hx
  · cases hx
set_option maxHeartbeats 1000000 in
theorem cl_terms (x y : TTerm) (W : World) : Calls Try.prog 120 #[.agg (enc_Term x).toArray, .agg (enc_Term y).toArray] W fun e w' => e = .returned (.int .i64 (IntKind.i64.wrap (x.Mask - y.Mask))) ∧ ∃ q os', w' = Go.Sort.grow (W.drewN q) os' := by
  show Calls Try.prog 120 #[.agg #[.int .i64 x.Mask, .int .i64 x.Coef], .agg #[.int .i64 y.Mask, .int .i64 y.Coef]] W _
  go_enter Try.func120, Try.ntmps120
  go_wp2
  go_ret
  rw [show IntKind.i64.wrap (x.Mask - y.Mask) = RowKit.wrap64 (x.Mask - y.Mask) from by rw [IntKind.wrap_i64]; unfold RowKit.wrap64; rfl]
  exact ⟨rfl, 0, _, by rw [Go.Sort.alloc_eq_grow, Go.Sort.alloc_eq_grow, Go.Sort.grow_grow]; rfl⟩
theorem c_impl_polynomial_terms (p : List (Int × Int)) (g : Nat) (w0 : World)  (hS : ST w0 (bl [⟨(some ⟨g, 0, none⟩), .mp (mpE (Value.int .i64) (Value.int .i64) p), [], 0⟩]) w0 [⟨(some ⟨g, 0, none⟩), .mp (mpE (Value.int .i64) (Value.int .i64) p), [], 0⟩] []) {r_ : List TTerm} (hF : F_impl_polynomial_terms p = some r_) :
    CV Try.prog 68 #[.map (some g)] w0 (fun v w' => ∃ (B : Option Addr) (c : Nat), v = .slice B r_.length c ∧ ST w0 (bl [⟨(some ⟨g, 0, none⟩), .mp (mpE (Value.int .i64) (Value.int .i64) p), [], 0⟩]) w' [⟨(some ⟨g, 0, none⟩), .mp (mpE (Value.int .i64) (Value.int .i64) p), [], 0⟩, ⟨B, 136, (r_.flatMap enc_Term), c * 2⟩] []) := by
  unfold F_impl_polynomial_terms at hF
  obtain ⟨⟨hlen, hrng⟩, hF⟩ := chk_inv hF
  obtain rfl := some_inj hF
  refine cv_of_cw 29 Try.func68 rfl Try.ntmps68 rfl ?_
  refine cw_seq ?_
  refine cw_region ?_
  refine sq 2 rfl rfl (Y_assign (v := .slice none 0 0) rfl rfl) ?_
  refine rw_nil ?_
  refine cw_seq ?_
  refine cw_region ?_
  refine ss 6 rfl rfl (Ys_bslice0 (s := 2) (e := 136) hS k_sl_54_136 k_sz_136_2 rfl) ?_
  rintro _ w_ ⟨b, rfl, hS1⟩
  refine sq 3 rfl rfl (Y_assign (v := .slice (some ⟨b, 0, none⟩) 0 0) rfl rfl) ?_
  refine rw_nil ?_
  refine cw_seq ?_
  refine cw_seq ?_
  refine cw_region ?_
  refine sq 7 rfl rfl (Y_move (v := .map (some g)) rfl rfl) ?_
  refine ss 8 rfl rfl (Ys_range (g := g) (i := 0) (lv := mpE (Value.int .i64) (Value.int .i64) p) hS1 k_map_105_3_3 rfl rfl rfl) ?_
  rintro _ w_1 ⟨r, es, ck, rfl, hM, hS2⟩
  refine rw_nil ?_
  have hst := (MapKept.stamped_iff es ck).1 hM.2
  have hes : es.toList.length = p.length := by rw [← ent_list hM, List.length_map]
  have hkp := tmF_key (mp_pair hM)
  refine cw_block ?_
  refine cw_loop (fun k f w => ∃ (dl rl : List MapEntry) (B : Option Addr) (c : Nat), FF f [(3, .slice B (tmO dl).length c), (8, .pointer (some ⟨r, 0, none⟩))] ∧ (dl ++ rl).Perm es.toList ∧ k = rl.length ∧
    ST w0 (bl [⟨(some ⟨g, 0, none⟩), .mp (mpE (Value.int .i64) (Value.int .i64) p), [], 0⟩]) w [⟨(some ⟨g, 0, none⟩), .ob (.map es ck), [], 0⟩, ⟨B, 136, ((tmO dl).flatMap enc_Term), c * 2⟩, ⟨(some ⟨r, 0, none⟩), .ob (.mapIter (some g) ck (dl.map (·.born)).toArray ck), [], 0⟩] []) es.toList.length ⟨[], es.toList, some ⟨b, 0, none⟩, 0, (FF.cons rfl (FF.cons rfl FF.nil)), .refl _, rfl, hS2⟩ ?_
  rintro k_ f w ⟨dl, rl, B, c, hf, hp, rfl, hS3⟩
  refine cw_seq ?_
  refine cw_region ?_
  refine ss 9 rfl rfl (Ys_next (g := g) (r := r) (i := 0) (j := 2) hS3 rfl (hf.get 8 1 rfl) rfl rfl hst.1 (Nat.le_refl _)) ?_
  rintro _ w_2 (⟨rfl, h0, hS4⟩ | ⟨e, he, rfl, hS4⟩)
  · refine sq 10 rfl rfl (Y_extract (v := .bool false) rfl rfl rfl) ?_
    refine rw_nil ?_
    refine cw_seq ?_
    refine cw_cond (b := false) rfl (fun h => by cases h) (fun _ => ?_)
    refine cw_exit rfl ?_
    obtain rfl := left_nil hst.2.1 hp h0
    rw [List.append_nil] at hp
    have hpp : (tmO dl).Perm (p.filterMap tmF) := by rw [← tmO_es hM]; exact hp.filterMap _
    have hdd : (tmO dl).Pairwise fun a b => a.Mask ≠ b.Mask := (hpp.pairwise_iff (fun {a b} h => Ne.symm h)).2 hkp
    have hll : (tmO dl).length ≤ p.length := by rw [hpp.length_eq]; exact List.length_filterMap_le _ _
    have hrr : ∀ x ∈ tmO dl, 0 ≤ x.Mask ∧ x.Mask < 4611686018427387904 := fun x hx => by
      obtain ⟨q, hq, hqx⟩ := List.mem_filterMap.1 (hpp.mem_iff.1 hx)
      have := hrng q hq
      unfold tmF at hqx
      split at hqx
      · cases hqx
        exact ⟨by simp only; omega, this⟩
      · cases hqx
    have hso : ((tmO dl).mergeSort fun a b => decide (a.Mask ≤ b.Mask)) = termsOf p := sort_perm hpp hkp
    refine cw_seq ?_
    refine cw_region ?_
    refine sq 26 rfl rfl (Y_move (v := .slice B (tmO dl).length c) rfl (hf.get 3 0 rfl)) ?_
    refine sc 27 rfl rfl (Yc_func (g := 119) (vs := [.slice B (tmO dl).length c, .func (.func 120) #[] #[]]) k_call_119 rfl (mc rfl (mc rfl mn)) (sortf_c Try.sortf119 119 rfl (key := TTerm.Mask) enc_Term_len (by decide) enc_Term_one (run_isAgg_agg k_ag_136) (run_sizeOf k_sz_136_2) 120 (enters_of Try.func120 (by kernel_rfl) rfl) cl_terms hrr hdd (by omega) (n := (tmO dl).length) (c := c) (k := 1) (B := B) rfl rfl hS4)) ?_
    rintro _ w_3 ⟨rfl, hS5⟩
    rw [hso] at hS5
    refine rw_nil ?_
    refine cw_seq ?_
    refine cw_region ?_
    refine sq 28 rfl rfl (Y_move (v := .slice B (tmO dl).length c) rfl (hf.get 3 0 rfl)) ?_
    refine sq 2 rfl rfl (Y_assign (v := .slice B (tmO dl).length c) rfl rfl) ?_
    refine rw_nil ?_
    refine cw_ret ?_
    have hl : (tmO dl).length = (termsOf p).length := by rw [← hso, List.length_mergeSort]
    exact ret1 Try.results68 (v1 := .slice B (tmO dl).length c) (resAt_tmp rfl) ⟨B, c, by rw [hl], ((hS5.mapIn (i := 0) (g := g) rfl hM rfl).sel [0, 1] rfl rfl)⟩
  · refine sq 10 rfl rfl (Y_extract (v := .bool true) rfl rfl rfl) ?_
    refine rw_nil ?_
    refine cw_seq ?_
    refine cw_cond (b := true) rfl (fun _ => ?_) (fun h => by cases h)
    refine cw_skip ?_
    obtain ⟨hem, ra, rb, rfl⟩ := left_mem hp he
    obtain ⟨hk1, hv1⟩ := ent_int hM hem
    have hsn := tmO_snoc dl e
    have hbo : ((dl ++ [e]).map (·.born)).toArray = (dl.map (·.born)).toArray.push e.born := by simp
    generalize enK e = a at hk1 hsn
    generalize enV e = b2 at hv1 hsn
    have hdl : (tmO dl).length < p.length := by
      have h1 : (tmO dl).length ≤ dl.length := List.length_filterMap_le _ _
      have h2 := hp.length_eq
      simp only [List.length_append, List.length_cons] at h2
      omega
    refine cw_block ?_
    refine cw_seq ?_
    refine cw_region ?_
    refine sq 11 rfl rfl (Y_entry2 (g := g) (r := r) (i := 0) (j := 2) (kv := .int .i64 a) (vv := .int .i64 b2) hS4 rfl (hf.get 8 1 rfl) rfl rfl hem hst.2.1 hk1 hv1) ?_
    refine sq 12 rfl rfl (Y_extract (v := .int .i64 a) rfl rfl rfl) ?_
    refine sq 13 rfl rfl (Y_extract (v := .int .i64 b2) rfl rfl rfl) ?_
    refine sq 4 rfl rfl (Y_assign (v := .int .i64 a) rfl rfl) ?_
    refine sq 5 rfl rfl (Y_assign (v := .int .i64 b2) rfl rfl) ?_
    refine rw_nil ?_
    refine cw_seq ?_
    refine cw_region ?_
    refine sq 14 rfl rfl (Y_move (v := .int .i64 a) rfl rfl) ?_
    refine sq 15 rfl rfl (Y_gt (k := .i64) (a := a) (b := 0) rfl rfl rfl) ?_
    refine sq 16 rfl rfl (Y_move (v := .bool (decide (0 < a))) rfl rfl) ?_
    refine sgq 17 (B := (decide (0 < a))) (v := .int .i64 b2) rfl rfl (wt_t (gd_of (t := 16) (by kernel_rfl) rfl)) (fun hg => (Y_move (v := .int .i64 b2) rfl rfl)) ?_
    refine sgq 18 (B := (decide (0 < a))) (v := .bool (decide (0 < b2))) rfl rfl (wt_t (gd_of (t := 16) (by kernel_rfl) rfl)) (fun hg1 => (Y_gt (k := .i64) (a := b2) (b := 0) rfl (gv_of (B := (decide (0 < a))) (v := .int .i64 b2) hg1) rfl)) ?_
    refine sq 19 rfl rfl (Y_and (b := (decide (0 < a))) (z := (decide (0 < b2))) rfl rfl rfl rfl) ?_
    refine rw_nil ?_
    refine cw_cond (b := ((decide (0 < a)) && (decide (0 < b2)))) rfl (fun hb => ?_) (fun hb => ?_)
    · have hb' : 0 < a ∧ 0 < b2 := by simpa using hb
      rw [if_pos hb'] at hsn
      refine cw_region ?_
      refine sq 20 rfl rfl (Y_move (v := .slice B ((tmO dl).length) c) rfl (hf.get 3 0 rfl)) ?_
      refine sq 21 rfl rfl (Y_move (v := .int .i64 a) rfl rfl) ?_
      refine sq 22 rfl rfl (Y_move (v := .int .i64 b2) rfl rfl) ?_
      refine sq 23 rfl rfl (Y_buildS (zs := [.int .i64 0, .int .i64 0]) (vs := [(0, .int .i64 a), (1, .int .i64 b2)]) (cs := [.int .i64 a, .int .i64 b2]) k_pl_136 k_zero_136 rfl (mpc rfl (mpc rfl mpn)) rfl) ?_
      refine ss 24 rfl rfl (Ys_bslice (s := 2) (len := 1) (vs := [(0, .agg #[.int .i64 a, .int .i64 b2])]) (cs := [.int .i64 a, .int .i64 b2]) (zs := [.int .i64 0, .int .i64 0]) (m := 2) hS4 k_sl_54_136 k_sz_136_2 k_zc_136 rfl (mpc rfl mpn) rfl rfl rfl (by kernel_rfl) (by kernel_rfl) rfl) ?_
      rintro _ w_4 ⟨b, rfl, hS5⟩
      have hS5 : ST w0 (bl [⟨(some ⟨g, 0, none⟩), .mp (mpE (Value.int .i64) (Value.int .i64) p), [], 0⟩]) _ [⟨(some ⟨g, 0, none⟩), .ob (.map es ck), [], 0⟩, ⟨B, 136, ((tmO dl).flatMap enc_Term), c * 2⟩, ⟨(some ⟨r, 0, none⟩), .ob (.mapIter (some g) ck ((dl.map (·.born)).toArray.push e.born) ck), [], 0⟩, ⟨some ⟨b, 0, none⟩, 136, ([(TTerm.mk a b2)].flatMap enc_Term), 1 * 2⟩] [] := hS5
      refine ss 25 rfl rfl (Ys_append (s := 2) (by' := 16) (i := 1) (nn := (tmO dl).length) (c := c) (k := 1) (len := ((tmO dl) ++ [(TTerm.mk a b2)]).length) (B := B) (xs := ([(TTerm.mk a b2)].flatMap enc_Term)) (cs' := (((tmO dl) ++ [(TTerm.mk a b2)]).flatMap enc_Term)) hS5 k_sl_54_136 k_sz_136_2 k_by_136_16 k_zero_136 rfl (by decide) rfl rfl rfl rfl (fm_lenn (l := (tmO dl)) enc_Term_len rfl) rfl (hS5.cf (i := 3) rfl) (fm_lenn (l := [(TTerm.mk a b2)]) enc_Term_len rfl) (fm_one' (enc := enc_Term) enc_Term_one [(TTerm.mk a b2)]) (by omega) (by simp only [maxLen]; omega) (fm_app _ _) (app_len (l := (tmO dl)) (l' := [(TTerm.mk a b2)]) rfl rfl)) ?_
      rintro _ w_5 ⟨B2, c2, rfl, hS6⟩
      refine sq 3 rfl rfl (Y_assign (v := .slice B2 (((tmO dl) ++ [(TTerm.mk a b2)]).length) c2) rfl rfl) ?_
      refine rw_nil ?_
      have hS7 := (hS6.sel [0, 1, 2] rfl rfl)
      refine ⟨(ra ++ rb).length, by simp, dl ++ [e], ra ++ rb, B2, c2, (FF.cons (by rw [hsn]; rfl) (FF.cons (hf.get 8 1 rfl) FF.nil)), left_step hp, rfl, ?_⟩
      rw [hsn, hbo]; exact hS7
    · have hb' : ¬ (0 < a ∧ 0 < b2) := by simpa using hb
      rw [if_neg hb'] at hsn
      refine cw_skip ?_
      refine ⟨(ra ++ rb).length, by simp, dl ++ [e], ra ++ rb, B, c, (FF.cons (by rw [hsn]; exact hf.get 3 0 rfl) (FF.cons (hf.get 8 1 rfl) FF.nil)), left_step hp, rfl, ?_⟩
      rw [hsn, hbo]; exact hS4
end Go.VK
