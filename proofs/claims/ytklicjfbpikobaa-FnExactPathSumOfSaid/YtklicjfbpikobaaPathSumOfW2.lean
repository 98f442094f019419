/- Walks: each Go function returns what its Lean function says. By program. -/
import Derived.Test.YtklicjfbpikobaaPathSumOfFa
import Derived.Test.YtklicjfbpikobaaPathSumOfShelf
import Derived.Test.YtklicjfbpikobaaLibT
import Derived.WalkKit
import Derived.Test.YtklicjfbpikobaaPathSumOfW1
set_option linter.unusedVariables false
set_option maxRecDepth 100000
set_option maxHeartbeats 4000000
namespace Go.VK
open Go.RowKit
open Go.Proofs
attribute [local irreducible] CW RW RA CV Y Yw Yc Ys RetOf
attribute [local irreducible] F_laws_eqGate F_laws_eqGateS F_laws_eqCircuit F_laws_markGateS F_laws_markCircuit F_laws_szGateS F_laws_szCircuit F_laws_toGate F_laws_toGateS F_laws_toCircuit F_laws_eqTerm F_laws_eqTermS F_laws_eqAffine F_laws_eqAffineS F_laws_eqPathSum F_laws_markTermS F_laws_markAffineS F_laws_markPathSum F_laws_heldTermS F_laws_heldAffineS F_laws_heldPathSum F_spec_l1In F_spec_l4Gate F_spec_l4Good F_spec_l21Sum_add F_spec_l1Set F_spec_l21Sum_times F_spec_l21Sum_product F_spec_l21Xor F_spec_l13Coef F_spec_l21Of F_spec_PathSumOf F_impl_within F_slices_IndexFunc_impl_Gate_impl_Gate F_slices_ContainsFunc_impl_Gate_impl_Gate F_impl_isTwo F_impl_IsValidGate F_impl_IsValidCircuit_1 F_impl_IsValidCircuit F_impl_polynomial_add F_impl_bitsOf F_impl_polynomial_expand F_impl_polynomial_product F_impl_rotationCoef F_impl_summer_process F_impl_polynomial_terms F_impl_PathSumOf F_laws_FnExactPathSumOf
theorem c_spec_l21Sum_times (s : Tl21Sum) (mask : Int) (k_ : Int) (by_ : TAffine) (B : Option Addr) (B1 : Option Addr) (c n : Nat) (w0 : World) (hn : s.terms.length = n) (hS : ST w0 (bl [⟨B, 141, [.int .i64 s.phase, .slice B1 n c], 2⟩, ⟨B1, 136, (s.terms.flatMap enc_Term), c * 2⟩]) w0 [⟨B, 141, [.int .i64 s.phase, .slice B1 n c], 2⟩, ⟨B1, 136, (s.terms.flatMap enc_Term), c * 2⟩] []) {m : Tl21Sum} (hF : F_spec_l21Sum_times s mask k_ by_ = some m) :
    CV Try.prog 99 #[pt B 0, .int .i64 mask, .int .i64 k_, .agg #[.int .i64 by_.Mask, .int .i64 by_.Turn]] w0 (fun v w' => ∃ (B2 : Option Addr) (c1 : Nat), v = .tuple #[] ∧ ST w0 (bl [⟨B, 141, [.int .i64 s.phase, .slice B1 n c], 2⟩, ⟨B1, 136, (s.terms.flatMap enc_Term), c * 2⟩]) w' [⟨B, 141, [.int .i64 m.phase, .slice B2 m.terms.length c1], 2⟩, ⟨B2, 136, (m.terms.flatMap enc_Term), c1 * 2⟩] []) := by
  subst hn
  unfold F_spec_l21Sum_times at hF
  refine cv_of_cw 92 Try.func99 rfl Try.ntmps99 rfl ?_
  refine cw_seq ?_
  refine cw_region ?_
  refine ss 7 rfl rfl (Ys_box (T := 61) (v := .agg #[.int .i64 by_.Mask, .int .i64 by_.Turn]) (cs := [.int .i64 by_.Mask, .int .i64 by_.Turn]) (m := 2) hS rfl rfl rfl rfl) ?_
  rintro _ w_ ⟨b, rfl, hS1⟩
  have hS1 : ST w0 (bl [⟨B, 141, [.int .i64 s.phase, .slice B1 s.terms.length c], 2⟩, ⟨B1, 136, (s.terms.flatMap enc_Term), c * 2⟩]) _ [⟨B, 141, [.int .i64 s.phase, .slice B1 s.terms.length c], 2⟩, ⟨B1, 136, (s.terms.flatMap enc_Term), c * 2⟩, ⟨some ⟨b, 0, none⟩, 61, [.int .i64 by_.Mask, .int .i64 by_.Turn], 2⟩] [] := hS1
  refine rw_nil ?_
  refine cw_seq ?_
  obtain ⟨z, hz, hF1⟩ := bind_inv hF
  refine cw_mid (fun f w => ∃ (phase : Int) (terms : List TTerm) (k_1 : Int) (B3 : Option Addr) (c2 : Nat), (phase, terms, k_1) = z ∧ FF f [(0, pt B 0), (1, .int .i64 mask), (2, .int .i64 k_1), (7, pt (some ⟨b, 0, none⟩) 0)] ∧ ST w0 (bl [⟨B, 141, [.int .i64 s.phase, .slice B1 s.terms.length c], 2⟩, ⟨B1, 136, (s.terms.flatMap enc_Term), c * 2⟩]) w [⟨B, 141, [.int .i64 phase, .slice B3 terms.length c2], 2⟩, ⟨B3, 136, (terms.flatMap enc_Term), c2 * 2⟩, ⟨some ⟨b, 0, none⟩, 61, [.int .i64 by_.Mask, .int .i64 by_.Turn], 2⟩] []) ?_ ?_
  · skip
    refine cw_seq ?_
    refine cw_region ?_
    refine sq 15 rfl rfl (Y_fieldAddr (B := some ⟨b, 0, none⟩) (i := 0) (s := 0) k_fd_61_1_1_3 k_sz_3_1 rfl rfl) ?_
    refine sq 16 rfl rfl (Y_load1 (B := some ⟨b, 0, none⟩) (i := 1) (cs := [.int .i64 by_.Mask, .int .i64 by_.Turn]) (v := .int .i64 by_.Turn) k_sc_3 rfl rfl (hS1.cf (i := 2) rfl) rfl) ?_
    refine sq 17 rfl rfl (Y_eq (k := .i64) (a := by_.Turn) (b := 1) rfl rfl rfl) ?_
    refine rw_nil ?_
    refine cw_cond (b := (by_.Turn == 1)) rfl (fun hb => ?_) (fun hb => ?_)
    · skip
      have hF2 := ct hz hb
      refine cw_seq ?_
      refine cw_region ?_
      refine sq 18 rfl rfl (Y_move (v := pt B 0) rfl rfl) ?_
      refine sq 19 rfl rfl (Y_move (v := .int .i64 mask) rfl rfl) ?_
      refine sq 20 rfl rfl (Y_move (v := .int .i64 k_) rfl rfl) ?_
      obtain ⟨m1, hc, hF2⟩ := bind_inv hF2
      refine sc 21 rfl rfl (Yc_func (g := 97) (vs := [pt B 0, .int .i64 mask, .int .i64 k_]) k_call_97 rfl (mc rfl (mc rfl (mc rfl mn))) (c_spec_l21Sum_add s mask k_ B B1 c s.terms.length _ rfl (hS1.lencap (i := 1) rfl (fm_lenn (l := s.terms) enc_Term_len rfl) rfl rfl) (hS1.inn [true, true, false] rfl [] rfl) hc)) ?_
      rintro _ w_1 ⟨B4, c3, rfl, hd⟩
      have hS3 := hS1.out [true, true, false] rfl hd
      have hS3 : ST w0 (bl [⟨B, 141, [.int .i64 s.phase, .slice B1 s.terms.length c], 2⟩, ⟨B1, 136, (s.terms.flatMap enc_Term), c * 2⟩]) _ [⟨some ⟨b, 0, none⟩, 61, [.int .i64 by_.Mask, .int .i64 by_.Turn], 2⟩, ⟨B, 141, [.int .i64 m1.phase, .slice B4 m1.terms.length c3], 2⟩, ⟨B4, 136, (m1.terms.flatMap enc_Term), c3 * 2⟩] [] := hS3
      refine rw_nil ?_
      refine cw_region ?_
      refine sq 22 rfl rfl (Y_move (v := .int .i64 k_) rfl rfl) ?_
      refine sq 23 rfl rfl (Y_neg (k := .i64) (a := k_) rfl rfl) ?_
      refine sq 2 rfl rfl (Y_assign (v := .int .i64 (IntKind.i64.wrap (-k_))) rfl rfl) ?_
      refine rw_nil ?_
      exact ⟨m1.phase, m1.terms, (IntKind.i64.wrap (-k_)), B4, c3, (some_inj hF2), (FF.cons rfl (FF.cons rfl (FF.cons rfl (FF.cons rfl FF.nil)))), (hS3.sel [1, 2, 0] rfl rfl)⟩
    · skip
      have hF3 := cf' hz hb
      refine cw_skip ?_
      exact ⟨s.phase, s.terms, k_, B1, c, (some_inj hF3), (FF.cons rfl (FF.cons rfl (FF.cons rfl (FF.cons rfl FF.nil)))), (hS1.sel [0, 1, 2] rfl rfl)⟩
  rintro f w ⟨phase, terms, k_1, B3, c2, rfl, hf, hS2⟩
  refine cw_seq ?_
  refine cw_region ?_
  refine sq 24 rfl rfl (Y_fieldAddr (B := some ⟨b, 0, none⟩) (i := 0) (s := 0) k_fd_61_0_0_3 k_sz_3_1 rfl (hf.get 7 3 rfl)) ?_
  refine sq 25 rfl rfl (Y_load1 (B := some ⟨b, 0, none⟩) (i := 0) (cs := [.int .i64 by_.Mask, .int .i64 by_.Turn]) (v := .int .i64 by_.Mask) k_sc_3 rfl rfl (hS2.cf (i := 2) rfl) rfl) ?_
  obtain ⟨r_, hc1, hF1⟩ := bind_inv hF1
  refine sc 26 rfl rfl (Yc_func (g := 96) (vs := [.int .i64 by_.Mask]) k_call_96 rfl (mc rfl mn) (c_spec_l1Set by_.Mask _  (hS2.inn0 [] rfl) hc1)) ?_
  rintro _ w_2 ⟨B5, c4, rfl, hd1⟩
  have hS4 := hS2.out0 hd1
  have hS4 : ST w0 (bl [⟨B, 141, [.int .i64 s.phase, .slice B1 s.terms.length c], 2⟩, ⟨B1, 136, (s.terms.flatMap enc_Term), c * 2⟩]) _ [⟨B, 141, [.int .i64 phase, .slice B3 terms.length c2], 2⟩, ⟨B3, 136, (terms.flatMap enc_Term), c2 * 2⟩, ⟨some ⟨b, 0, none⟩, 61, [.int .i64 by_.Mask, .int .i64 by_.Turn], 2⟩, ⟨B5, 3, (r_.flatMap encI), c4 * 1⟩] [] := hS4
  refine sq 8 rfl rfl (Y_assign (v := .slice B5 r_.length c4) rfl rfl) ?_
  refine rw_nil ?_
  refine cw_seq ?_
  refine cw_region ?_
  refine sq 27 rfl rfl (Y_move (v := .slice B5 r_.length c4) rfl rfl) ?_
  refine sq 28 rfl rfl (Y_len (B := B5) (m := r_.length) (c := c4) k_sl_137_3 rfl rfl) ?_
  refine sq 29 rfl rfl (Y_move (v := .int .i64 0) rfl rfl) ?_
  refine rw_nil ?_
  obtain ⟨hN, hF1⟩ := chk_inv hF1
  obtain ⟨z1, hz1, hF4⟩ := bind_inv hF1
  have ho1 : Org w0 (bl [⟨B, 141, [.int .i64 s.phase, .slice B1 s.terms.length c], 2⟩, ⟨B1, 136, (s.terms.flatMap enc_Term), c * 2⟩]) [] [⟨B5, (r_.flatMap encI)⟩] := ST.orgOwn hS4 (i := 3) rfl
  have hcap : r_.length ≤ c4 := (hS4.lencap (i := 3) rfl (fm_lenn (l := r_) encI_len rfl) rfl rfl)
  have hS6 : ST w0 (bl [⟨B, 141, [.int .i64 s.phase, .slice B1 s.terms.length c], 2⟩, ⟨B1, 136, (s.terms.flatMap enc_Term), c * 2⟩]) _ [⟨B, 141, [.int .i64 phase, .slice B3 terms.length c2], 2⟩, ⟨B3, 136, (terms.flatMap enc_Term), c2 * 2⟩, ⟨some ⟨b, 0, none⟩, 61, [.int .i64 by_.Mask, .int .i64 by_.Turn], 2⟩] [⟨B5, (r_.flatMap encI)⟩] := hS4.freeze (i := 3) rfl
  refine cw_block ?_
  refine cw_loop (fun k f w => ∃ (i : Nat) (phase1 : Int) (terms1 : List TTerm) (B6 : Option Addr) (c5 : Nat), FF f [(0, pt B 0), (1, .int .i64 mask), (2, .int .i64 k_1), (8, .slice B5 r_.length c4), (27, .slice B5 r_.length c4), (28, .int .i64 (r_.length : Int)), (29, .int .i64 (i : Int))] ∧ Org w0 (bl [⟨B, 141, [.int .i64 s.phase, .slice B1 s.terms.length c], 2⟩, ⟨B1, 136, (s.terms.flatMap enc_Term), c * 2⟩]) [] [⟨B5, (r_.flatMap encI)⟩] ∧ r_.length ≤ c4 ∧ ST w0 (bl [⟨B, 141, [.int .i64 s.phase, .slice B1 s.terms.length c], 2⟩, ⟨B1, 136, (s.terms.flatMap enc_Term), c * 2⟩]) w [⟨B, 141, [.int .i64 phase1, .slice B6 terms1.length c5], 2⟩, ⟨B6, 136, (terms1.flatMap enc_Term), c5 * 2⟩] [⟨B5, (r_.flatMap encI)⟩] ∧ i + k = r_.length ∧ forN (F_spec_l21Sum_times_l1 r_ mask k_1) k i (phase1, terms1) = some z1) r_.length ⟨0, phase, terms, B3, c2, (FF.cons (hf.get 0 0 rfl) (FF.cons (hf.get 1 1 rfl) (FF.cons (hf.get 2 2 rfl) (FF.cons rfl (FF.cons rfl (FF.cons rfl (FF.cons rfl FF.nil))))))), ho1, (len_le rfl hcap), (hS6.sel [0, 1] rfl rfl), Nat.zero_add _, hz1⟩ ?_
  rintro k_2 f w ⟨i, phase1, terms1, B6, c5, hf1, ho, hq, hS5, hik, hL⟩
  refine cw_seq ?_
  refine cw_region ?_
  refine sq 30 rfl rfl (Y_lt (k := .i64) (a := (i : Int)) (b := (r_.length : Int)) rfl (hf1.get 29 6 rfl) (hf1.get 28 5 rfl)) ?_
  refine rw_nil ?_
  refine cw_seq ?_
  refine cw_cond (b := (decide ((i : Int) < (r_.length : Int)))) rfl (fun hlt => ?_) (fun hlt => ?_)
  · skip
    have hlt1 : i < r_.length := by have h := of_decide_eq_true hlt; omega
    obtain ⟨k_3, rfl⟩ : ∃ k2, k_2 = k2 + 1 := ⟨k_2 - 1, by omega⟩
    obtain ⟨y, hb1, hL1⟩ := forN_go hL
    unfold F_spec_l21Sum_times_l1 at hb1
    refine cw_skip ?_
    refine cw_seq ?_
    refine cw_block ?_
    refine cw_seq ?_
    refine cw_region ?_
    refine sq 31 rfl rfl (Y_move (v := .int .i64 (i : Int)) rfl (hf1.get 29 6 rfl)) ?_
    obtain ⟨x, hx, hb1⟩ := bind_inv hb1
    refine sq 32 rfl rfl (Y_index (B := B5) (m := r_.length) (c := c4) (k := .i64) (i := (i : Int)) k_sl_137_3 k_sz_3_1 rfl (hf1.get 27 4 rfl) (hf1.get 29 6 rfl) (gi_isSome encI_len rfl (hS5.rf (i := 0) rfl) hx) (getI_nn hx) (getI_ltI hx rfl)) ?_
    refine sq 33 rfl rfl (Y_load1 (B := B5) (i := (i : Int).toNat * 1) (cs := (r_.flatMap encI)) (v := .int .i64 x) k_sc_3 rfl rfl (hS5.rf (i := 0) rfl) (gi_at0 encI_len hx rfl)) ?_
    refine sq 9 rfl rfl (Y_assign (v := .int .i64 (i : Int)) rfl rfl) ?_
    refine sq 10 rfl rfl (Y_assign (v := .int .i64 x) rfl rfl) ?_
    refine rw_nil ?_
    refine cw_seq ?_
    refine cw_region ?_
    refine sq 34 rfl rfl (Y_move (v := pt B 0) rfl (hf1.get 0 0 rfl)) ?_
    refine sq 35 rfl rfl (Y_move (v := .int .i64 mask) rfl (hf1.get 1 1 rfl)) ?_
    refine sq 36 rfl rfl (Y_move (v := .int .i64 x) rfl rfl) ?_
    refine sq 37 rfl rfl (Y_conv (k := .i64) (a := x) (T := 3) (T' := 92) k_us_3 k_int_92_u64 rfl rfl) ?_
    obtain ⟨hsh, hb1⟩ := chk_inv hb1
    refine sq 38 rfl rfl (Y_shl (k := .i64) (a := 1) (k' := .u64) (b := (IntKind.u64.wrap x)) rfl rfl rfl hsh) ?_
    refine sq 39 rfl rfl (Y_bor (k := .i64) (a := mask) (b := (shlK .i64 1 (IntKind.u64.wrap x))) rfl rfl rfl) ?_
    refine sq 40 rfl rfl (Y_move (v := .int .i64 k_1) rfl (hf1.get 2 2 rfl)) ?_
    obtain ⟨m2, hc2, hb1⟩ := bind_inv hb1
    refine sc 41 rfl rfl (Yc_func (g := 97) (vs := [pt B 0, .int .i64 (bits .or .i64 mask (shlK .i64 1 (IntKind.u64.wrap x))), .int .i64 k_1]) k_call_97 rfl (mc rfl (mc rfl (mc rfl mn))) (c_spec_l21Sum_add (Tl21Sum.mk phase1 terms1) (bits .or .i64 mask (shlK .i64 1 (IntKind.u64.wrap x))) k_1 B B6 c5 terms1.length _ rfl (hS5.lencap (i := 1) rfl (fm_lenn (l := terms1) enc_Term_len rfl) rfl rfl) (hS5.inn [true, true] rfl [] rfl) hc2)) ?_
    rintro _ w_3 ⟨B7, c6, rfl, hd2⟩
    have hS7 := hS5.out [true, true] rfl hd2
    have hS7 : ST w0 (bl [⟨B, 141, [.int .i64 s.phase, .slice B1 s.terms.length c], 2⟩, ⟨B1, 136, (s.terms.flatMap enc_Term), c * 2⟩]) _ [⟨B, 141, [.int .i64 m2.phase, .slice B7 m2.terms.length c6], 2⟩, ⟨B7, 136, (m2.terms.flatMap enc_Term), c6 * 2⟩] [⟨B5, (r_.flatMap encI)⟩] := hS7
    refine rw_nil ?_
    refine cw_seq ?_
    refine cw_region ?_
    refine sq 42 rfl rfl (Y_move (v := .slice B5 r_.length c4) rfl (hf1.get 8 3 rfl)) ?_
    refine sq 43 rfl rfl (Y_move (v := .int .i64 (i : Int)) rfl rfl) ?_
    obtain ⟨hsl, hb1⟩ := chk_inv hb1
    have hcap1 : r_.length ≤ c4 := hq
    have hv : (List.take i r_).length = i := (take_len rfl (by omega))
    have hq1 : i ≤ c4 := by omega
    have ho2 : Org w0 (bl [⟨B, 141, [.int .i64 s.phase, .slice B1 s.terms.length c], 2⟩, ⟨B1, 136, (s.terms.flatMap enc_Term), c * 2⟩]) [] [⟨B5, ((List.take i r_).flatMap encI)⟩] := org_view encI_len (q := c4) ho (sv_zero _ _ _).symm rfl
    have hS8 : ST w0 (bl [⟨B, 141, [.int .i64 s.phase, .slice B1 s.terms.length c], 2⟩, ⟨B1, 136, (s.terms.flatMap enc_Term), c * 2⟩]) _ [⟨B, 141, [.int .i64 m2.phase, .slice B7 m2.terms.length c6], 2⟩, ⟨B7, 136, (m2.terms.flatMap enc_Term), c6 * 2⟩] [⟨B5, ((List.take i r_).flatMap encI)⟩, ⟨B5, (r_.flatMap encI)⟩] := ST.view encI_len hS7 (i := 0) rfl (lo := 0) (h := i) (q := c4) (by omega) (by omega) (sv_zero _ _ _).symm rfl
    refine sq 44 rfl rfl (Y_slice0 (B := B5) (m := r_.length) (c := c4) (h := i) (s := 1) k_sl_137_3 k_sz_3_1 rfl rfl (bnd_some rfl rfl) (by omega)) ?_
    refine sq 45 rfl rfl (Y_len (B := B5) (m := i) (c := c4) k_sl_137_3 rfl rfl) ?_
    refine sq 46 rfl rfl (Y_move (v := .int .i64 0) rfl rfl) ?_
    refine rw_nil ?_
    obtain ⟨hN1, hb1⟩ := chk_inv hb1
    obtain ⟨z2, hz2, hF5⟩ := bind_inv hb1
    refine cw_block ?_
    refine cw_loop (fun k f w => ∃ (i1 : Nat) (phase2 : Int) (terms2 : List TTerm) (B8 : Option Addr) (c7 : Nat), FF f [(0, pt B 0), (1, .int .i64 mask), (2, .int .i64 k_1), (8, .slice B5 r_.length c4), (10, .int .i64 x), (27, .slice B5 r_.length c4), (28, .int .i64 (r_.length : Int)), (29, .int .i64 (i : Int)), (44, .slice B5 i c4), (45, .int .i64 (i : Int)), (46, .int .i64 (i1 : Int))] ∧ ST w0 (bl [⟨B, 141, [.int .i64 s.phase, .slice B1 s.terms.length c], 2⟩, ⟨B1, 136, (s.terms.flatMap enc_Term), c * 2⟩]) w [⟨B, 141, [.int .i64 phase2, .slice B8 terms2.length c7], 2⟩, ⟨B8, 136, (terms2.flatMap enc_Term), c7 * 2⟩] [⟨B5, ((List.take i r_).flatMap encI)⟩, ⟨B5, (r_.flatMap encI)⟩] ∧ i1 + k = i ∧ forN (F_spec_l21Sum_times_l2 i r_ x mask k_1) k i1 (phase2, terms2) = some z2) i ⟨0, m2.phase, m2.terms, B7, c6, (FF.cons (hf1.get 0 0 rfl) (FF.cons (hf1.get 1 1 rfl) (FF.cons (hf1.get 2 2 rfl) (FF.cons (hf1.get 8 3 rfl) (FF.cons rfl (FF.cons (hf1.get 27 4 rfl) (FF.cons (hf1.get 28 5 rfl) (FF.cons (hf1.get 29 6 rfl) (FF.cons rfl (FF.cons rfl (FF.cons rfl FF.nil))))))))))), (hS8.sel [0, 1] rfl rfl), Nat.zero_add _, hz2⟩ ?_
    rintro k_4 f w ⟨i1, phase2, terms2, B8, c7, hf2, hS9, hik1, hL2⟩
    refine cw_seq ?_
    refine cw_region ?_
    refine sq 47 rfl rfl (Y_lt (k := .i64) (a := (i1 : Int)) (b := (i : Int)) rfl (hf2.get 46 10 rfl) (hf2.get 45 9 rfl)) ?_
    refine rw_nil ?_
    refine cw_seq ?_
    refine cw_cond (b := (decide ((i1 : Int) < (i : Int)))) rfl (fun hlt2 => ?_) (fun hlt2 => ?_)
    · skip
      have hlt3 : i1 < i := by have h := of_decide_eq_true hlt2; omega
      obtain ⟨k_5, rfl⟩ : ∃ k2, k_4 = k2 + 1 := ⟨k_4 - 1, by omega⟩
      obtain ⟨y1, hb2, hL3⟩ := forN_go hL2
      unfold F_spec_l21Sum_times_l2 at hb2
      refine cw_skip ?_
      refine cw_seq ?_
      refine cw_block ?_
      refine cw_seq ?_
      refine cw_region ?_
      refine sq 48 rfl rfl (Y_move (v := .int .i64 (i1 : Int)) rfl (hf2.get 46 10 rfl)) ?_
      obtain ⟨x1, hx1, hb2⟩ := bind_inv hb2
      refine sq 49 rfl rfl (Y_index (B := B5) (m := i) (c := c4) (k := .i64) (i := (i1 : Int)) k_sl_137_3 k_sz_3_1 rfl (hf2.get 44 8 rfl) (hf2.get 46 10 rfl) (gi_isSome encI_len rfl (hS9.rf (i := 0) rfl) hx1) (getI_nn hx1) (getI_ltI hx1 hv)) ?_
      refine sq 50 rfl rfl (Y_load1 (B := B5) (i := (i1 : Int).toNat * 1) (cs := ((List.take i r_).flatMap encI)) (v := .int .i64 x1) k_sc_3 rfl rfl (hS9.rf (i := 0) rfl) (gi_at0 encI_len hx1 rfl)) ?_
      refine sq 11 rfl rfl (Y_assign (v := .int .i64 (i1 : Int)) rfl rfl) ?_
      refine sq 12 rfl rfl (Y_assign (v := .int .i64 x1) rfl rfl) ?_
      refine rw_nil ?_
      refine cw_seq ?_
      refine cw_region ?_
      refine sq 51 rfl rfl (Y_move (v := pt B 0) rfl (hf2.get 0 0 rfl)) ?_
      refine sq 52 rfl rfl (Y_move (v := .int .i64 mask) rfl (hf2.get 1 1 rfl)) ?_
      refine sq 53 rfl rfl (Y_move (v := .int .i64 x) rfl (hf2.get 10 4 rfl)) ?_
      refine sq 54 rfl rfl (Y_conv (k := .i64) (a := x) (T := 3) (T' := 92) k_us_3 k_int_92_u64 rfl rfl) ?_
      obtain ⟨hsh1, hb2⟩ := chk_inv hb2
      refine sq 55 rfl rfl (Y_shl (k := .i64) (a := 1) (k' := .u64) (b := (IntKind.u64.wrap x)) rfl rfl rfl hsh1) ?_
      refine sq 56 rfl rfl (Y_bor (k := .i64) (a := mask) (b := (shlK .i64 1 (IntKind.u64.wrap x))) rfl rfl rfl) ?_
      refine sq 57 rfl rfl (Y_move (v := .int .i64 x1) rfl rfl) ?_
      refine sq 58 rfl rfl (Y_conv (k := .i64) (a := x1) (T := 3) (T' := 92) k_us_3 k_int_92_u64 rfl rfl) ?_
      obtain ⟨hsh2, hb2⟩ := chk_inv hb2
      refine sq 59 rfl rfl (Y_shl (k := .i64) (a := 1) (k' := .u64) (b := (IntKind.u64.wrap x1)) rfl rfl rfl hsh2) ?_
      refine sq 60 rfl rfl (Y_bor (k := .i64) (a := (bits .or .i64 mask (shlK .i64 1 (IntKind.u64.wrap x)))) (b := (shlK .i64 1 (IntKind.u64.wrap x1))) rfl rfl rfl) ?_
      refine sq 61 rfl rfl (Y_move (v := .int .i64 k_1) rfl (hf2.get 2 2 rfl)) ?_
      refine sq 62 rfl rfl (Y_mul (k := .i64) (a := (-2)) (b := k_1) rfl rfl rfl) ?_
      obtain ⟨m3, hc3, hb2⟩ := bind_inv hb2
      refine sc 63 rfl rfl (Yc_func (g := 97) (vs := [pt B 0, .int .i64 (bits .or .i64 (bits .or .i64 mask (shlK .i64 1 (IntKind.u64.wrap x))) (shlK .i64 1 (IntKind.u64.wrap x1))), .int .i64 (IntKind.i64.wrap ((-2) * k_1))]) k_call_97 rfl (mc rfl (mc rfl (mc rfl mn))) (c_spec_l21Sum_add (Tl21Sum.mk phase2 terms2) (bits .or .i64 (bits .or .i64 mask (shlK .i64 1 (IntKind.u64.wrap x))) (shlK .i64 1 (IntKind.u64.wrap x1))) (IntKind.i64.wrap ((-2) * k_1)) B B8 c7 terms2.length _ rfl (hS9.lencap (i := 1) rfl (fm_lenn (l := terms2) enc_Term_len rfl) rfl rfl) (hS9.inn [true, true] rfl [] rfl) hc3)) ?_
      rintro _ w_4 ⟨B9, c8, rfl, hd3⟩
      have hS10 := hS9.out [true, true] rfl hd3
      have hS10 : ST w0 (bl [⟨B, 141, [.int .i64 s.phase, .slice B1 s.terms.length c], 2⟩, ⟨B1, 136, (s.terms.flatMap enc_Term), c * 2⟩]) _ [⟨B, 141, [.int .i64 m3.phase, .slice B9 m3.terms.length c8], 2⟩, ⟨B9, 136, (m3.terms.flatMap enc_Term), c8 * 2⟩] [⟨B5, ((List.take i r_).flatMap encI)⟩, ⟨B5, (r_.flatMap encI)⟩] := hS10
      refine rw_nil ?_
      refine cw_seq ?_
      refine cw_region ?_
      refine sq 64 rfl rfl (Y_move (v := .slice B5 r_.length c4) rfl (hf2.get 8 3 rfl)) ?_
      refine sq 65 rfl rfl (Y_move (v := .int .i64 (i1 : Int)) rfl rfl) ?_
      obtain ⟨hsl1, hb2⟩ := chk_inv hb2
      have hcap2 : r_.length ≤ c4 := hq
      have hv1 : (List.take i1 r_).length = i1 := (take_len rfl (by omega))
      have hq2 : i1 ≤ c4 := by omega
      have ho3 : Org w0 (bl [⟨B, 141, [.int .i64 s.phase, .slice B1 s.terms.length c], 2⟩, ⟨B1, 136, (s.terms.flatMap enc_Term), c * 2⟩]) [] [⟨B5, ((List.take i1 r_).flatMap encI)⟩] := org_view encI_len (q := c4) ho (sv_zero _ _ _).symm rfl
      have hS11 : ST w0 (bl [⟨B, 141, [.int .i64 s.phase, .slice B1 s.terms.length c], 2⟩, ⟨B1, 136, (s.terms.flatMap enc_Term), c * 2⟩]) _ [⟨B, 141, [.int .i64 m3.phase, .slice B9 m3.terms.length c8], 2⟩, ⟨B9, 136, (m3.terms.flatMap enc_Term), c8 * 2⟩] [⟨B5, ((List.take i1 r_).flatMap encI)⟩, ⟨B5, ((List.take i r_).flatMap encI)⟩, ⟨B5, (r_.flatMap encI)⟩] := ST.view encI_len hS10 (i := 1) rfl (lo := 0) (h := i1) (q := c4) (by omega) (by omega) (sv_zero _ _ _).symm rfl
      refine sq 66 rfl rfl (Y_slice0 (B := B5) (m := r_.length) (c := c4) (h := i1) (s := 1) k_sl_137_3 k_sz_3_1 rfl rfl (bnd_some rfl rfl) (by omega)) ?_
      refine sq 67 rfl rfl (Y_len (B := B5) (m := i1) (c := c4) k_sl_137_3 rfl rfl) ?_
      refine sq 68 rfl rfl (Y_move (v := .int .i64 0) rfl rfl) ?_
      refine rw_nil ?_
      obtain ⟨hN2, hb2⟩ := chk_inv hb2
      obtain ⟨z3, hz3, hF6⟩ := bind_inv hb2
      refine cw_block ?_
      refine cw_loop (fun k f w => ∃ (i2 : Nat) (phase3 : Int) (terms3 : List TTerm) (B10 : Option Addr) (c9 : Nat), FF f [(0, pt B 0), (1, .int .i64 mask), (2, .int .i64 k_1), (8, .slice B5 r_.length c4), (10, .int .i64 x), (12, .int .i64 x1), (27, .slice B5 r_.length c4), (28, .int .i64 (r_.length : Int)), (29, .int .i64 (i : Int)), (44, .slice B5 i c4), (45, .int .i64 (i : Int)), (46, .int .i64 (i1 : Int)), (66, .slice B5 i1 c4), (67, .int .i64 (i1 : Int)), (68, .int .i64 (i2 : Int))] ∧ ST w0 (bl [⟨B, 141, [.int .i64 s.phase, .slice B1 s.terms.length c], 2⟩, ⟨B1, 136, (s.terms.flatMap enc_Term), c * 2⟩]) w [⟨B, 141, [.int .i64 phase3, .slice B10 terms3.length c9], 2⟩, ⟨B10, 136, (terms3.flatMap enc_Term), c9 * 2⟩] [⟨B5, ((List.take i1 r_).flatMap encI)⟩, ⟨B5, ((List.take i r_).flatMap encI)⟩, ⟨B5, (r_.flatMap encI)⟩] ∧ i2 + k = i1 ∧ forN (F_spec_l21Sum_times_l3 i1 r_ x x1 mask k_1) k i2 (phase3, terms3) = some z3) i1 ⟨0, m3.phase, m3.terms, B9, c8, (FF.cons (hf2.get 0 0 rfl) (FF.cons (hf2.get 1 1 rfl) (FF.cons (hf2.get 2 2 rfl) (FF.cons (hf2.get 8 3 rfl) (FF.cons (hf2.get 10 4 rfl) (FF.cons rfl (FF.cons (hf2.get 27 5 rfl) (FF.cons (hf2.get 28 6 rfl) (FF.cons (hf2.get 29 7 rfl) (FF.cons (hf2.get 44 8 rfl) (FF.cons (hf2.get 45 9 rfl) (FF.cons (hf2.get 46 10 rfl) (FF.cons rfl (FF.cons rfl (FF.cons rfl FF.nil))))))))))))))), (hS11.sel [0, 1] rfl rfl), Nat.zero_add _, hz3⟩ ?_
      rintro k_6 f w ⟨i2, phase3, terms3, B10, c9, hf3, hS12, hik2, hL4⟩
      refine cw_seq ?_
      refine cw_region ?_
      refine sq 69 rfl rfl (Y_lt (k := .i64) (a := (i2 : Int)) (b := (i1 : Int)) rfl (hf3.get 68 14 rfl) (hf3.get 67 13 rfl)) ?_
      refine rw_nil ?_
      refine cw_seq ?_
      refine cw_cond (b := (decide ((i2 : Int) < (i1 : Int)))) rfl (fun hlt4 => ?_) (fun hlt4 => ?_)
      · skip
        have hlt5 : i2 < i1 := by have h := of_decide_eq_true hlt4; omega
        obtain ⟨k_7, rfl⟩ : ∃ k2, k_6 = k2 + 1 := ⟨k_6 - 1, by omega⟩
        obtain ⟨y2, hb3, hL5⟩ := forN_go hL4
        unfold F_spec_l21Sum_times_l3 at hb3
        refine cw_skip ?_
        refine cw_seq ?_
        refine cw_block ?_
        refine cw_seq ?_
        refine cw_region ?_
        obtain ⟨x2, hx2, hb3⟩ := bind_inv hb3
        refine sq 70 rfl rfl (Y_index (B := B5) (m := i1) (c := c4) (k := .i64) (i := (i2 : Int)) k_sl_137_3 k_sz_3_1 rfl (hf3.get 66 12 rfl) (hf3.get 68 14 rfl) (gi_isSome encI_len rfl (hS12.rf (i := 0) rfl) hx2) (getI_nn hx2) (getI_ltI hx2 hv1)) ?_
        refine sq 71 rfl rfl (Y_load1 (B := B5) (i := (i2 : Int).toNat * 1) (cs := ((List.take i1 r_).flatMap encI)) (v := .int .i64 x2) k_sc_3 rfl rfl (hS12.rf (i := 0) rfl) (gi_at0 encI_len hx2 rfl)) ?_
        refine sq 14 rfl rfl (Y_assign (v := .int .i64 x2) rfl rfl) ?_
        refine rw_nil ?_
        refine cw_region ?_
        refine sq 72 rfl rfl (Y_move (v := pt B 0) rfl (hf3.get 0 0 rfl)) ?_
        refine sq 73 rfl rfl (Y_move (v := .int .i64 mask) rfl (hf3.get 1 1 rfl)) ?_
        refine sq 74 rfl rfl (Y_move (v := .int .i64 x) rfl (hf3.get 10 4 rfl)) ?_
        refine sq 75 rfl rfl (Y_conv (k := .i64) (a := x) (T := 3) (T' := 92) k_us_3 k_int_92_u64 rfl rfl) ?_
        obtain ⟨hsh3, hb3⟩ := chk_inv hb3
        refine sq 76 rfl rfl (Y_shl (k := .i64) (a := 1) (k' := .u64) (b := (IntKind.u64.wrap x)) rfl rfl rfl hsh3) ?_
        refine sq 77 rfl rfl (Y_bor (k := .i64) (a := mask) (b := (shlK .i64 1 (IntKind.u64.wrap x))) rfl rfl rfl) ?_
        refine sq 78 rfl rfl (Y_move (v := .int .i64 x1) rfl (hf3.get 12 5 rfl)) ?_
        refine sq 79 rfl rfl (Y_conv (k := .i64) (a := x1) (T := 3) (T' := 92) k_us_3 k_int_92_u64 rfl rfl) ?_
        obtain ⟨hsh4, hb3⟩ := chk_inv hb3
        refine sq 80 rfl rfl (Y_shl (k := .i64) (a := 1) (k' := .u64) (b := (IntKind.u64.wrap x1)) rfl rfl rfl hsh4) ?_
        refine sq 81 rfl rfl (Y_bor (k := .i64) (a := (bits .or .i64 mask (shlK .i64 1 (IntKind.u64.wrap x)))) (b := (shlK .i64 1 (IntKind.u64.wrap x1))) rfl rfl rfl) ?_
        refine sq 82 rfl rfl (Y_move (v := .int .i64 x2) rfl rfl) ?_
        refine sq 83 rfl rfl (Y_conv (k := .i64) (a := x2) (T := 3) (T' := 92) k_us_3 k_int_92_u64 rfl rfl) ?_
        obtain ⟨hsh5, hb3⟩ := chk_inv hb3
        refine sq 84 rfl rfl (Y_shl (k := .i64) (a := 1) (k' := .u64) (b := (IntKind.u64.wrap x2)) rfl rfl rfl hsh5) ?_
        refine sq 85 rfl rfl (Y_bor (k := .i64) (a := (bits .or .i64 (bits .or .i64 mask (shlK .i64 1 (IntKind.u64.wrap x))) (shlK .i64 1 (IntKind.u64.wrap x1)))) (b := (shlK .i64 1 (IntKind.u64.wrap x2))) rfl rfl rfl) ?_
        refine sq 86 rfl rfl (Y_move (v := .int .i64 k_1) rfl (hf3.get 2 2 rfl)) ?_
        refine sq 87 rfl rfl (Y_mul (k := .i64) (a := 4) (b := k_1) rfl rfl rfl) ?_
        obtain ⟨m4, hc4, hb3⟩ := bind_inv hb3
        refine sc 88 rfl rfl (Yc_func (g := 97) (vs := [pt B 0, .int .i64 (bits .or .i64 (bits .or .i64 (bits .or .i64 mask (shlK .i64 1 (IntKind.u64.wrap x))) (shlK .i64 1 (IntKind.u64.wrap x1))) (shlK .i64 1 (IntKind.u64.wrap x2))), .int .i64 (IntKind.i64.wrap (4 * k_1))]) k_call_97 rfl (mc rfl (mc rfl (mc rfl mn))) (c_spec_l21Sum_add (Tl21Sum.mk phase3 terms3) (bits .or .i64 (bits .or .i64 (bits .or .i64 mask (shlK .i64 1 (IntKind.u64.wrap x))) (shlK .i64 1 (IntKind.u64.wrap x1))) (shlK .i64 1 (IntKind.u64.wrap x2))) (IntKind.i64.wrap (4 * k_1)) B B10 c9 terms3.length _ rfl (hS12.lencap (i := 1) rfl (fm_lenn (l := terms3) enc_Term_len rfl) rfl rfl) (hS12.inn [true, true] rfl [] rfl) hc4)) ?_
        rintro _ w_5 ⟨B11, c10, rfl, hd4⟩
        have hS13 := hS12.out [true, true] rfl hd4
        have hS13 : ST w0 (bl [⟨B, 141, [.int .i64 s.phase, .slice B1 s.terms.length c], 2⟩, ⟨B1, 136, (s.terms.flatMap enc_Term), c * 2⟩]) _ [⟨B, 141, [.int .i64 m4.phase, .slice B11 m4.terms.length c10], 2⟩, ⟨B11, 136, (m4.terms.flatMap enc_Term), c10 * 2⟩] [⟨B5, ((List.take i1 r_).flatMap encI)⟩, ⟨B5, ((List.take i r_).flatMap encI)⟩, ⟨B5, (r_.flatMap encI)⟩] := hS13
        refine rw_nil ?_
        refine cw_region ?_
        refine sq 89 rfl rfl (Y_add (k := .i64) (a := (i2 : Int)) (b := 1) rfl (hf3.get 68 14 rfl) rfl) ?_
        refine sq 68 rfl rfl (Y_move (v := .int .i64 (IntKind.i64.wrap ((i2 : Int) + 1))) rfl rfl) ?_
        refine rw_nil ?_
        obtain rfl := some_inj hb3
        exact ⟨k_7, Nat.lt_succ_self _, i2 + 1, m4.phase, m4.terms, B11, c10, (FF.cons (hf3.get 0 0 rfl) (FF.cons (hf3.get 1 1 rfl) (FF.cons (hf3.get 2 2 rfl) (FF.cons (hf3.get 8 3 rfl) (FF.cons (hf3.get 10 4 rfl) (FF.cons (hf3.get 12 5 rfl) (FF.cons (hf3.get 27 6 rfl) (FF.cons (hf3.get 28 7 rfl) (FF.cons (hf3.get 29 8 rfl) (FF.cons (hf3.get 44 9 rfl) (FF.cons (hf3.get 45 10 rfl) (FF.cons (hf3.get 46 11 rfl) (FF.cons (hf3.get 66 12 rfl) (FF.cons (hf3.get 67 13 rfl) (FF.cons (congrArg (Value.int .i64) (wr_succ hlt5 hN2)) FF.nil))))))))))))))), (hS13.sel [0, 1] rfl rfl), (by omega), hL5⟩
      · skip
        obtain rfl : k_6 = 0 := by have h := of_decide_eq_false hlt4; omega
        refine cw_exit rfl ?_
        obtain rfl := some_inj hL4
        refine cw_region ?_
        refine sq 90 rfl rfl (Y_add (k := .i64) (a := (i1 : Int)) (b := 1) rfl (hf3.get 46 11 rfl) rfl) ?_
        refine sq 46 rfl rfl (Y_move (v := .int .i64 (IntKind.i64.wrap ((i1 : Int) + 1))) rfl rfl) ?_
        refine rw_nil ?_
        obtain rfl := some_inj hF6
        have hS14 : ST w0 (bl [⟨B, 141, [.int .i64 s.phase, .slice B1 s.terms.length c], 2⟩, ⟨B1, 136, (s.terms.flatMap enc_Term), c * 2⟩]) _ [⟨B, 141, [.int .i64 phase3, .slice B10 terms3.length c9], 2⟩, ⟨B10, 136, (terms3.flatMap enc_Term), c9 * 2⟩] [⟨B5, ((List.take i r_).flatMap encI)⟩, ⟨B5, (r_.flatMap encI)⟩] := ST.subR hS12 (subc (mem_at (i := 1) rfl) (subc (mem_at (i := 2) rfl) (fun _ h => by cases h)))
        exact ⟨k_5, Nat.lt_succ_self _, i1 + 1, phase3, terms3, B10, c9, (FF.cons (hf3.get 0 0 rfl) (FF.cons (hf3.get 1 1 rfl) (FF.cons (hf3.get 2 2 rfl) (FF.cons (hf3.get 8 3 rfl) (FF.cons (hf3.get 10 4 rfl) (FF.cons (hf3.get 27 6 rfl) (FF.cons (hf3.get 28 7 rfl) (FF.cons (hf3.get 29 8 rfl) (FF.cons (hf3.get 44 9 rfl) (FF.cons (hf3.get 45 10 rfl) (FF.cons (congrArg (Value.int .i64) (wr_succ hlt3 hN1)) FF.nil))))))))))), (hS14.sel [0, 1] rfl rfl), (by omega), hL3⟩
    · skip
      obtain rfl : k_4 = 0 := by have h := of_decide_eq_false hlt2; omega
      refine cw_exit rfl ?_
      obtain rfl := some_inj hL2
      refine cw_region ?_
      refine sq 91 rfl rfl (Y_add (k := .i64) (a := (i : Int)) (b := 1) rfl (hf2.get 29 7 rfl) rfl) ?_
      refine sq 29 rfl rfl (Y_move (v := .int .i64 (IntKind.i64.wrap ((i : Int) + 1))) rfl rfl) ?_
      refine rw_nil ?_
      obtain rfl := some_inj hF5
      have hS15 : ST w0 (bl [⟨B, 141, [.int .i64 s.phase, .slice B1 s.terms.length c], 2⟩, ⟨B1, 136, (s.terms.flatMap enc_Term), c * 2⟩]) _ [⟨B, 141, [.int .i64 phase2, .slice B8 terms2.length c7], 2⟩, ⟨B8, 136, (terms2.flatMap enc_Term), c7 * 2⟩] [⟨B5, (r_.flatMap encI)⟩] := ST.subR hS9 (subc (mem_at (i := 1) rfl) (fun _ h => by cases h))
      exact ⟨k_3, Nat.lt_succ_self _, i + 1, phase2, terms2, B8, c7, (FF.cons (hf2.get 0 0 rfl) (FF.cons (hf2.get 1 1 rfl) (FF.cons (hf2.get 2 2 rfl) (FF.cons (hf2.get 8 3 rfl) (FF.cons (hf2.get 27 5 rfl) (FF.cons (hf2.get 28 6 rfl) (FF.cons (congrArg (Value.int .i64) (wr_succ hlt1 hN)) FF.nil))))))), ho, (len_le rfl hq), (hS15.sel [0, 1] rfl rfl), (by omega), hL1⟩
  · skip
    obtain rfl : k_2 = 0 := by have h := of_decide_eq_false hlt; omega
    refine cw_exit rfl ?_
    obtain rfl := some_inj hL
    obtain rfl := some_inj hF4
    exact ret0 Try.results99  ⟨B6, c5, rfl, (ST.subR (R' := []) (hS5.sel [0, 1] rfl rfl) (fun _ h => by cases h))⟩

theorem c_spec_l21Sum_product (s : Tl21Sum) (u : TAffine) (v_ : TAffine) (B : Option Addr) (B1 : Option Addr) (c n : Nat) (w0 : World) (hn : s.terms.length = n) (hS : ST w0 (bl [⟨B, 141, [.int .i64 s.phase, .slice B1 n c], 2⟩, ⟨B1, 136, (s.terms.flatMap enc_Term), c * 2⟩]) w0 [⟨B, 141, [.int .i64 s.phase, .slice B1 n c], 2⟩, ⟨B1, 136, (s.terms.flatMap enc_Term), c * 2⟩] []) {m : Tl21Sum} (hF : F_spec_l21Sum_product s u v_ = some m) :
    CV Try.prog 110 #[pt B 0, .agg #[.int .i64 u.Mask, .int .i64 u.Turn], .agg #[.int .i64 v_.Mask, .int .i64 v_.Turn]] w0 (fun v w' => ∃ (B2 : Option Addr) (c1 : Nat), v = .tuple #[] ∧ ST w0 (bl [⟨B, 141, [.int .i64 s.phase, .slice B1 n c], 2⟩, ⟨B1, 136, (s.terms.flatMap enc_Term), c * 2⟩]) w' [⟨B, 141, [.int .i64 m.phase, .slice B2 m.terms.length c1], 2⟩, ⟨B2, 136, (m.terms.flatMap enc_Term), c1 * 2⟩] []) := by
  subst hn
  unfold F_spec_l21Sum_product at hF
  refine cv_of_cw 72 Try.func110 rfl Try.ntmps110 rfl ?_
  refine cw_seq ?_
  refine cw_region ?_
  refine ss 4 rfl rfl (Ys_box (T := 61) (v := .agg #[.int .i64 u.Mask, .int .i64 u.Turn]) (cs := [.int .i64 u.Mask, .int .i64 u.Turn]) (m := 2) hS rfl rfl rfl rfl) ?_
  rintro _ w_ ⟨b, rfl, hS1⟩
  have hS1 : ST w0 (bl [⟨B, 141, [.int .i64 s.phase, .slice B1 s.terms.length c], 2⟩, ⟨B1, 136, (s.terms.flatMap enc_Term), c * 2⟩]) _ [⟨B, 141, [.int .i64 s.phase, .slice B1 s.terms.length c], 2⟩, ⟨B1, 136, (s.terms.flatMap enc_Term), c * 2⟩, ⟨some ⟨b, 0, none⟩, 61, [.int .i64 u.Mask, .int .i64 u.Turn], 2⟩] [] := hS1
  refine ss 5 rfl rfl (Ys_box (T := 61) (v := .agg #[.int .i64 v_.Mask, .int .i64 v_.Turn]) (cs := [.int .i64 v_.Mask, .int .i64 v_.Turn]) (m := 2) hS1 rfl rfl rfl rfl) ?_
  rintro _ w_1 ⟨b1, rfl, hS2⟩
  have hS2 : ST w0 (bl [⟨B, 141, [.int .i64 s.phase, .slice B1 s.terms.length c], 2⟩, ⟨B1, 136, (s.terms.flatMap enc_Term), c * 2⟩]) _ [⟨B, 141, [.int .i64 s.phase, .slice B1 s.terms.length c], 2⟩, ⟨B1, 136, (s.terms.flatMap enc_Term), c * 2⟩, ⟨some ⟨b, 0, none⟩, 61, [.int .i64 u.Mask, .int .i64 u.Turn], 2⟩, ⟨some ⟨b1, 0, none⟩, 61, [.int .i64 v_.Mask, .int .i64 v_.Turn], 2⟩] [] := hS2
  refine rw_nil ?_
  refine cw_seq ?_
  refine cw_seq ?_
  refine cw_region ?_
  refine sq 12 rfl rfl (Y_fieldAddr (B := some ⟨b, 0, none⟩) (i := 0) (s := 0) k_fd_61_0_0_3 k_sz_3_1 rfl rfl) ?_
  refine sq 13 rfl rfl (Y_load1 (B := some ⟨b, 0, none⟩) (i := 0) (cs := [.int .i64 u.Mask, .int .i64 u.Turn]) (v := .int .i64 u.Mask) k_sc_3 rfl rfl (hS2.cf (i := 2) rfl) rfl) ?_
  obtain ⟨r_, hc, hF⟩ := bind_inv hF
  refine sc 14 rfl rfl (Yc_func (g := 96) (vs := [.int .i64 u.Mask]) k_call_96 rfl (mc rfl mn) (c_spec_l1Set u.Mask _  (hS2.inn0 [] rfl) hc)) ?_
  rintro _ w_2 ⟨B3, c2, rfl, hd⟩
  have hS3 := hS2.out0 hd
  have hS3 : ST w0 (bl [⟨B, 141, [.int .i64 s.phase, .slice B1 s.terms.length c], 2⟩, ⟨B1, 136, (s.terms.flatMap enc_Term), c * 2⟩]) _ [⟨B, 141, [.int .i64 s.phase, .slice B1 s.terms.length c], 2⟩, ⟨B1, 136, (s.terms.flatMap enc_Term), c * 2⟩, ⟨some ⟨b, 0, none⟩, 61, [.int .i64 u.Mask, .int .i64 u.Turn], 2⟩, ⟨some ⟨b1, 0, none⟩, 61, [.int .i64 v_.Mask, .int .i64 v_.Turn], 2⟩, ⟨B3, 3, (r_.flatMap encI), c2 * 1⟩] [] := hS3
  refine sq 15 rfl rfl (Y_len (B := B3) (m := r_.length) (c := c2) k_sl_137_3 rfl rfl) ?_
  refine sq 16 rfl rfl (Y_move (v := .int .i64 0) rfl rfl) ?_
  refine rw_nil ?_
  obtain ⟨hN, hF⟩ := chk_inv hF
  obtain ⟨z, hz, hF1⟩ := bind_inv hF
  refine cw_block ?_
  refine cw_loop (fun k f w => ∃ (i : Nat) (phase : Int) (terms : List TTerm) (B4 : Option Addr) (c3 : Nat), FF f [(0, pt B 0), (4, pt (some ⟨b, 0, none⟩) 0), (5, pt (some ⟨b1, 0, none⟩) 0), (14, .slice B3 r_.length c2), (15, .int .i64 (r_.length : Int)), (16, .int .i64 (i : Int))] ∧ ST w0 (bl [⟨B, 141, [.int .i64 s.phase, .slice B1 s.terms.length c], 2⟩, ⟨B1, 136, (s.terms.flatMap enc_Term), c * 2⟩]) w [⟨B, 141, [.int .i64 phase, .slice B4 terms.length c3], 2⟩, ⟨B4, 136, (terms.flatMap enc_Term), c3 * 2⟩, ⟨some ⟨b, 0, none⟩, 61, [.int .i64 u.Mask, .int .i64 u.Turn], 2⟩, ⟨some ⟨b1, 0, none⟩, 61, [.int .i64 v_.Mask, .int .i64 v_.Turn], 2⟩, ⟨B3, 3, (r_.flatMap encI), c2 * 1⟩] [] ∧ i + k = r_.length ∧ forN (F_spec_l21Sum_product_l1 r_ v_) k i (phase, terms) = some z) r_.length ⟨0, s.phase, s.terms, B1, c, (FF.cons rfl (FF.cons rfl (FF.cons rfl (FF.cons rfl (FF.cons rfl (FF.cons rfl FF.nil)))))), (hS3.sel [0, 1, 2, 3, 4] rfl rfl), Nat.zero_add _, hz⟩ ?_
  rintro k_ f w ⟨i, phase, terms, B4, c3, hf, hS4, hik, hL⟩
  refine cw_seq ?_
  refine cw_region ?_
  refine sq 17 rfl rfl (Y_lt (k := .i64) (a := (i : Int)) (b := (r_.length : Int)) rfl (hf.get 16 5 rfl) (hf.get 15 4 rfl)) ?_
  refine rw_nil ?_
  refine cw_seq ?_
  refine cw_cond (b := (decide ((i : Int) < (r_.length : Int)))) rfl (fun hlt => ?_) (fun hlt => ?_)
  · skip
    have hlt1 : i < r_.length := by have h := of_decide_eq_true hlt; omega
    obtain ⟨k_1, rfl⟩ : ∃ k2, k_ = k2 + 1 := ⟨k_ - 1, by omega⟩
    obtain ⟨y, hb, hL1⟩ := forN_go hL
    unfold F_spec_l21Sum_product_l1 at hb
    refine cw_skip ?_
    refine cw_seq ?_
    refine cw_block ?_
    refine cw_seq ?_
    refine cw_region ?_
    obtain ⟨x, hx, hb⟩ := bind_inv hb
    refine sq 18 rfl rfl (Y_index (B := B3) (m := r_.length) (c := c2) (k := .i64) (i := (i : Int)) k_sl_137_3 k_sz_3_1 rfl (hf.get 14 3 rfl) (hf.get 16 5 rfl) (gi_isSome encI_len rfl (hS4.cf (i := 4) rfl) hx) (getI_nn hx) (getI_ltI hx rfl)) ?_
    refine sq 19 rfl rfl (Y_load1 (B := B3) (i := (i : Int).toNat * 1) (cs := (r_.flatMap encI)) (v := .int .i64 x) k_sc_3 rfl rfl (hS4.cf (i := 4) rfl) (gi_at0 encI_len hx rfl)) ?_
    refine sq 7 rfl rfl (Y_assign (v := .int .i64 x) rfl rfl) ?_
    refine rw_nil ?_
    refine cw_seq ?_
    refine cw_seq ?_
    refine cw_region ?_
    refine sq 20 rfl rfl (Y_fieldAddr (B := some ⟨b1, 0, none⟩) (i := 0) (s := 0) k_fd_61_0_0_3 k_sz_3_1 rfl (hf.get 5 2 rfl)) ?_
    refine sq 21 rfl rfl (Y_load1 (B := some ⟨b1, 0, none⟩) (i := 0) (cs := [.int .i64 v_.Mask, .int .i64 v_.Turn]) (v := .int .i64 v_.Mask) k_sc_3 rfl rfl (hS4.cf (i := 3) rfl) rfl) ?_
    obtain ⟨r_1, hc1, hb⟩ := bind_inv hb
    refine sc 22 rfl rfl (Yc_func (g := 96) (vs := [.int .i64 v_.Mask]) k_call_96 rfl (mc rfl mn) (c_spec_l1Set v_.Mask _  (hS4.inn0 [] rfl) hc1)) ?_
    rintro _ w_3 ⟨B5, c4, rfl, hd1⟩
    have hS5 := hS4.out0 hd1
    have hS5 : ST w0 (bl [⟨B, 141, [.int .i64 s.phase, .slice B1 s.terms.length c], 2⟩, ⟨B1, 136, (s.terms.flatMap enc_Term), c * 2⟩]) _ [⟨B, 141, [.int .i64 phase, .slice B4 terms.length c3], 2⟩, ⟨B4, 136, (terms.flatMap enc_Term), c3 * 2⟩, ⟨some ⟨b, 0, none⟩, 61, [.int .i64 u.Mask, .int .i64 u.Turn], 2⟩, ⟨some ⟨b1, 0, none⟩, 61, [.int .i64 v_.Mask, .int .i64 v_.Turn], 2⟩, ⟨B3, 3, (r_.flatMap encI), c2 * 1⟩, ⟨B5, 3, (r_1.flatMap encI), c4 * 1⟩] [] := hS5
    refine sq 23 rfl rfl (Y_len (B := B5) (m := r_1.length) (c := c4) k_sl_137_3 rfl rfl) ?_
    refine sq 24 rfl rfl (Y_move (v := .int .i64 0) rfl rfl) ?_
    refine rw_nil ?_
    obtain ⟨hN1, hb⟩ := chk_inv hb
    obtain ⟨z1, hz1, hF2⟩ := bind_inv hb
    refine cw_block ?_
    refine cw_loop (fun k f w => ∃ (i1 : Nat) (phase1 : Int) (terms1 : List TTerm) (B6 : Option Addr) (c5 : Nat), FF f [(0, pt B 0), (4, pt (some ⟨b, 0, none⟩) 0), (5, pt (some ⟨b1, 0, none⟩) 0), (7, .int .i64 x), (14, .slice B3 r_.length c2), (15, .int .i64 (r_.length : Int)), (16, .int .i64 (i : Int)), (22, .slice B5 r_1.length c4), (23, .int .i64 (r_1.length : Int)), (24, .int .i64 (i1 : Int))] ∧ ST w0 (bl [⟨B, 141, [.int .i64 s.phase, .slice B1 s.terms.length c], 2⟩, ⟨B1, 136, (s.terms.flatMap enc_Term), c * 2⟩]) w [⟨B, 141, [.int .i64 phase1, .slice B6 terms1.length c5], 2⟩, ⟨B6, 136, (terms1.flatMap enc_Term), c5 * 2⟩, ⟨some ⟨b, 0, none⟩, 61, [.int .i64 u.Mask, .int .i64 u.Turn], 2⟩, ⟨some ⟨b1, 0, none⟩, 61, [.int .i64 v_.Mask, .int .i64 v_.Turn], 2⟩, ⟨B3, 3, (r_.flatMap encI), c2 * 1⟩, ⟨B5, 3, (r_1.flatMap encI), c4 * 1⟩] [] ∧ i1 + k = r_1.length ∧ forN (F_spec_l21Sum_product_l2 r_1 x) k i1 (phase1, terms1) = some z1) r_1.length ⟨0, phase, terms, B4, c3, (FF.cons (hf.get 0 0 rfl) (FF.cons (hf.get 4 1 rfl) (FF.cons (hf.get 5 2 rfl) (FF.cons rfl (FF.cons (hf.get 14 3 rfl) (FF.cons (hf.get 15 4 rfl) (FF.cons (hf.get 16 5 rfl) (FF.cons rfl (FF.cons rfl (FF.cons rfl FF.nil)))))))))), (hS5.sel [0, 1, 2, 3, 4, 5] rfl rfl), Nat.zero_add _, hz1⟩ ?_
    rintro k_2 f w ⟨i1, phase1, terms1, B6, c5, hf1, hS6, hik1, hL2⟩
    refine cw_seq ?_
    refine cw_region ?_
    refine sq 25 rfl rfl (Y_lt (k := .i64) (a := (i1 : Int)) (b := (r_1.length : Int)) rfl (hf1.get 24 9 rfl) (hf1.get 23 8 rfl)) ?_
    refine rw_nil ?_
    refine cw_seq ?_
    refine cw_cond (b := (decide ((i1 : Int) < (r_1.length : Int)))) rfl (fun hlt2 => ?_) (fun hlt2 => ?_)
    · skip
      have hlt3 : i1 < r_1.length := by have h := of_decide_eq_true hlt2; omega
      obtain ⟨k_3, rfl⟩ : ∃ k2, k_2 = k2 + 1 := ⟨k_2 - 1, by omega⟩
      obtain ⟨y1, hb1, hL3⟩ := forN_go hL2
      unfold F_spec_l21Sum_product_l2 at hb1
      refine cw_skip ?_
      refine cw_seq ?_
      refine cw_block ?_
      refine cw_seq ?_
      refine cw_region ?_
      obtain ⟨x1, hx1, hb1⟩ := bind_inv hb1
      refine sq 26 rfl rfl (Y_index (B := B5) (m := r_1.length) (c := c4) (k := .i64) (i := (i1 : Int)) k_sl_137_3 k_sz_3_1 rfl (hf1.get 22 7 rfl) (hf1.get 24 9 rfl) (gi_isSome encI_len rfl (hS6.cf (i := 5) rfl) hx1) (getI_nn hx1) (getI_ltI hx1 rfl)) ?_
      refine sq 27 rfl rfl (Y_load1 (B := B5) (i := (i1 : Int).toNat * 1) (cs := (r_1.flatMap encI)) (v := .int .i64 x1) k_sc_3 rfl rfl (hS6.cf (i := 5) rfl) (gi_at0 encI_len hx1 rfl)) ?_
      refine sq 9 rfl rfl (Y_assign (v := .int .i64 x1) rfl rfl) ?_
      refine rw_nil ?_
      refine cw_region ?_
      refine sq 28 rfl rfl (Y_move (v := pt B 0) rfl (hf1.get 0 0 rfl)) ?_
      refine sq 29 rfl rfl (Y_move (v := .int .i64 x) rfl (hf1.get 7 3 rfl)) ?_
      refine sq 30 rfl rfl (Y_conv (k := .i64) (a := x) (T := 3) (T' := 92) k_us_3 k_int_92_u64 rfl rfl) ?_
      obtain ⟨hsh, hb1⟩ := chk_inv hb1
      refine sq 31 rfl rfl (Y_shl (k := .i64) (a := 1) (k' := .u64) (b := (IntKind.u64.wrap x)) rfl rfl rfl hsh) ?_
      refine sq 32 rfl rfl (Y_move (v := .int .i64 x1) rfl rfl) ?_
      refine sq 33 rfl rfl (Y_conv (k := .i64) (a := x1) (T := 3) (T' := 92) k_us_3 k_int_92_u64 rfl rfl) ?_
      obtain ⟨hsh1, hb1⟩ := chk_inv hb1
      refine sq 34 rfl rfl (Y_shl (k := .i64) (a := 1) (k' := .u64) (b := (IntKind.u64.wrap x1)) rfl rfl rfl hsh1) ?_
      refine sq 35 rfl rfl (Y_bor (k := .i64) (a := (shlK .i64 1 (IntKind.u64.wrap x))) (b := (shlK .i64 1 (IntKind.u64.wrap x1))) rfl rfl rfl) ?_
      obtain ⟨m1, hc2, hb1⟩ := bind_inv hb1
      refine sc 36 rfl rfl (Yc_func (g := 97) (vs := [pt B 0, .int .i64 (bits .or .i64 (shlK .i64 1 (IntKind.u64.wrap x)) (shlK .i64 1 (IntKind.u64.wrap x1))), .int .i64 4]) k_call_97 rfl (mc rfl (mc rfl (mc rfl mn))) (c_spec_l21Sum_add (Tl21Sum.mk phase1 terms1) (bits .or .i64 (shlK .i64 1 (IntKind.u64.wrap x)) (shlK .i64 1 (IntKind.u64.wrap x1))) 4 B B6 c5 terms1.length _ rfl (hS6.lencap (i := 1) rfl (fm_lenn (l := terms1) enc_Term_len rfl) rfl rfl) (hS6.inn [true, true, false, false, false, false] rfl [] rfl) hc2)) ?_
      rintro _ w_4 ⟨B7, c6, rfl, hd2⟩
      have hS7 := hS6.out [true, true, false, false, false, false] rfl hd2
      have hS7 : ST w0 (bl [⟨B, 141, [.int .i64 s.phase, .slice B1 s.terms.length c], 2⟩, ⟨B1, 136, (s.terms.flatMap enc_Term), c * 2⟩]) _ [⟨some ⟨b, 0, none⟩, 61, [.int .i64 u.Mask, .int .i64 u.Turn], 2⟩, ⟨some ⟨b1, 0, none⟩, 61, [.int .i64 v_.Mask, .int .i64 v_.Turn], 2⟩, ⟨B3, 3, (r_.flatMap encI), c2 * 1⟩, ⟨B5, 3, (r_1.flatMap encI), c4 * 1⟩, ⟨B, 141, [.int .i64 m1.phase, .slice B7 m1.terms.length c6], 2⟩, ⟨B7, 136, (m1.terms.flatMap enc_Term), c6 * 2⟩] [] := hS7
      refine rw_nil ?_
      refine cw_region ?_
      refine sq 37 rfl rfl (Y_add (k := .i64) (a := (i1 : Int)) (b := 1) rfl (hf1.get 24 9 rfl) rfl) ?_
      refine sq 24 rfl rfl (Y_move (v := .int .i64 (IntKind.i64.wrap ((i1 : Int) + 1))) rfl rfl) ?_
      refine rw_nil ?_
      obtain rfl := some_inj hb1
      exact ⟨k_3, Nat.lt_succ_self _, i1 + 1, m1.phase, m1.terms, B7, c6, (FF.cons (hf1.get 0 0 rfl) (FF.cons (hf1.get 4 1 rfl) (FF.cons (hf1.get 5 2 rfl) (FF.cons (hf1.get 7 3 rfl) (FF.cons (hf1.get 14 4 rfl) (FF.cons (hf1.get 15 5 rfl) (FF.cons (hf1.get 16 6 rfl) (FF.cons (hf1.get 22 7 rfl) (FF.cons (hf1.get 23 8 rfl) (FF.cons (congrArg (Value.int .i64) (wr_succ hlt3 hN1)) FF.nil)))))))))), (hS7.sel [4, 5, 0, 1, 2, 3] rfl rfl), (by omega), hL3⟩
    · skip
      obtain rfl : k_2 = 0 := by have h := of_decide_eq_false hlt2; omega
      refine cw_exit rfl ?_
      obtain rfl := some_inj hL2
      refine cw_region ?_
      refine sq 38 rfl rfl (Y_move (v := pt B 0) rfl (hf1.get 0 0 rfl)) ?_
      refine sq 39 rfl rfl (Y_move (v := .int .i64 x) rfl (hf1.get 7 3 rfl)) ?_
      refine sq 40 rfl rfl (Y_conv (k := .i64) (a := x) (T := 3) (T' := 92) k_us_3 k_int_92_u64 rfl rfl) ?_
      obtain ⟨hsh2, hF2⟩ := chk_inv hF2
      refine sq 41 rfl rfl (Y_shl (k := .i64) (a := 1) (k' := .u64) (b := (IntKind.u64.wrap x)) rfl rfl rfl hsh2) ?_
      refine sq 42 rfl rfl (Y_fieldAddr (B := some ⟨b1, 0, none⟩) (i := 0) (s := 0) k_fd_61_1_1_3 k_sz_3_1 rfl (hf1.get 5 2 rfl)) ?_
      refine sq 43 rfl rfl (Y_load1 (B := some ⟨b1, 0, none⟩) (i := 1) (cs := [.int .i64 v_.Mask, .int .i64 v_.Turn]) (v := .int .i64 v_.Turn) k_sc_3 rfl rfl (hS6.cf (i := 3) rfl) rfl) ?_
      refine sq 44 rfl rfl (Y_mul (k := .i64) (a := 4) (b := v_.Turn) rfl rfl rfl) ?_
      obtain ⟨m2, hc3, hF2⟩ := bind_inv hF2
      refine sc 45 rfl rfl (Yc_func (g := 97) (vs := [pt B 0, .int .i64 (shlK .i64 1 (IntKind.u64.wrap x)), .int .i64 (IntKind.i64.wrap (4 * v_.Turn))]) k_call_97 rfl (mc rfl (mc rfl (mc rfl mn))) (c_spec_l21Sum_add (Tl21Sum.mk phase1 terms1) (shlK .i64 1 (IntKind.u64.wrap x)) (IntKind.i64.wrap (4 * v_.Turn)) B B6 c5 terms1.length _ rfl (hS6.lencap (i := 1) rfl (fm_lenn (l := terms1) enc_Term_len rfl) rfl rfl) (hS6.inn [true, true, false, false, false, false] rfl [] rfl) hc3)) ?_
      rintro _ w_5 ⟨B8, c7, rfl, hd3⟩
      have hS8 := hS6.out [true, true, false, false, false, false] rfl hd3
      have hS8 : ST w0 (bl [⟨B, 141, [.int .i64 s.phase, .slice B1 s.terms.length c], 2⟩, ⟨B1, 136, (s.terms.flatMap enc_Term), c * 2⟩]) _ [⟨some ⟨b, 0, none⟩, 61, [.int .i64 u.Mask, .int .i64 u.Turn], 2⟩, ⟨some ⟨b1, 0, none⟩, 61, [.int .i64 v_.Mask, .int .i64 v_.Turn], 2⟩, ⟨B3, 3, (r_.flatMap encI), c2 * 1⟩, ⟨B5, 3, (r_1.flatMap encI), c4 * 1⟩, ⟨B, 141, [.int .i64 m2.phase, .slice B8 m2.terms.length c7], 2⟩, ⟨B8, 136, (m2.terms.flatMap enc_Term), c7 * 2⟩] [] := hS8
      refine rw_nil ?_
      refine cw_region ?_
      refine sq 46 rfl rfl (Y_add (k := .i64) (a := (i : Int)) (b := 1) rfl (hf1.get 16 6 rfl) rfl) ?_
      refine sq 16 rfl rfl (Y_move (v := .int .i64 (IntKind.i64.wrap ((i : Int) + 1))) rfl rfl) ?_
      refine rw_nil ?_
      obtain rfl := some_inj hF2
      exact ⟨k_1, Nat.lt_succ_self _, i + 1, m2.phase, m2.terms, B8, c7, (FF.cons (hf1.get 0 0 rfl) (FF.cons (hf1.get 4 1 rfl) (FF.cons (hf1.get 5 2 rfl) (FF.cons (hf1.get 14 4 rfl) (FF.cons (hf1.get 15 5 rfl) (FF.cons (congrArg (Value.int .i64) (wr_succ hlt1 hN)) FF.nil)))))), (hS8.sel [4, 5, 0, 1, 2] rfl rfl), (by omega), hL1⟩
  · skip
    obtain rfl : k_ = 0 := by have h := of_decide_eq_false hlt; omega
    refine cw_exit rfl ?_
    obtain rfl := some_inj hL
    refine cw_seq ?_
    refine cw_seq ?_
    refine cw_region ?_
    refine sq 47 rfl rfl (Y_fieldAddr (B := some ⟨b1, 0, none⟩) (i := 0) (s := 0) k_fd_61_0_0_3 k_sz_3_1 rfl (hf.get 5 2 rfl)) ?_
    refine sq 48 rfl rfl (Y_load1 (B := some ⟨b1, 0, none⟩) (i := 0) (cs := [.int .i64 v_.Mask, .int .i64 v_.Turn]) (v := .int .i64 v_.Mask) k_sc_3 rfl rfl (hS4.cf (i := 3) rfl) rfl) ?_
    obtain ⟨r_2, hc4, hF1⟩ := bind_inv hF1
    refine sc 49 rfl rfl (Yc_func (g := 96) (vs := [.int .i64 v_.Mask]) k_call_96 rfl (mc rfl mn) (c_spec_l1Set v_.Mask _  (hS4.inn0 [] rfl) hc4)) ?_
    rintro _ w_6 ⟨B9, c8, rfl, hd4⟩
    have hS9 := hS4.out0 hd4
    have hS9 : ST w0 (bl [⟨B, 141, [.int .i64 s.phase, .slice B1 s.terms.length c], 2⟩, ⟨B1, 136, (s.terms.flatMap enc_Term), c * 2⟩]) _ [⟨B, 141, [.int .i64 phase, .slice B4 terms.length c3], 2⟩, ⟨B4, 136, (terms.flatMap enc_Term), c3 * 2⟩, ⟨some ⟨b, 0, none⟩, 61, [.int .i64 u.Mask, .int .i64 u.Turn], 2⟩, ⟨some ⟨b1, 0, none⟩, 61, [.int .i64 v_.Mask, .int .i64 v_.Turn], 2⟩, ⟨B3, 3, (r_.flatMap encI), c2 * 1⟩, ⟨B9, 3, (r_2.flatMap encI), c8 * 1⟩] [] := hS9
    refine sq 50 rfl rfl (Y_len (B := B9) (m := r_2.length) (c := c8) k_sl_137_3 rfl rfl) ?_
    refine sq 51 rfl rfl (Y_move (v := .int .i64 0) rfl rfl) ?_
    refine rw_nil ?_
    obtain ⟨hN2, hF1⟩ := chk_inv hF1
    obtain ⟨z2, hz2, hF3⟩ := bind_inv hF1
    refine cw_block ?_
    refine cw_loop (fun k f w => ∃ (i2 : Nat) (phase2 : Int) (terms2 : List TTerm) (B10 : Option Addr) (c9 : Nat), FF f [(0, pt B 0), (4, pt (some ⟨b, 0, none⟩) 0), (5, pt (some ⟨b1, 0, none⟩) 0), (49, .slice B9 r_2.length c8), (50, .int .i64 (r_2.length : Int)), (51, .int .i64 (i2 : Int))] ∧ ST w0 (bl [⟨B, 141, [.int .i64 s.phase, .slice B1 s.terms.length c], 2⟩, ⟨B1, 136, (s.terms.flatMap enc_Term), c * 2⟩]) w [⟨B, 141, [.int .i64 phase2, .slice B10 terms2.length c9], 2⟩, ⟨B10, 136, (terms2.flatMap enc_Term), c9 * 2⟩, ⟨some ⟨b, 0, none⟩, 61, [.int .i64 u.Mask, .int .i64 u.Turn], 2⟩, ⟨some ⟨b1, 0, none⟩, 61, [.int .i64 v_.Mask, .int .i64 v_.Turn], 2⟩, ⟨B9, 3, (r_2.flatMap encI), c8 * 1⟩] [] ∧ i2 + k = r_2.length ∧ forN (F_spec_l21Sum_product_l3 r_2 u) k i2 (phase2, terms2) = some z2) r_2.length ⟨0, phase, terms, B4, c3, (FF.cons (hf.get 0 0 rfl) (FF.cons (hf.get 4 1 rfl) (FF.cons (hf.get 5 2 rfl) (FF.cons rfl (FF.cons rfl (FF.cons rfl FF.nil)))))), (hS9.sel [0, 1, 2, 3, 5] rfl rfl), Nat.zero_add _, hz2⟩ ?_
    rintro k_4 f w ⟨i2, phase2, terms2, B10, c9, hf2, hS10, hik2, hL4⟩
    refine cw_seq ?_
    refine cw_region ?_
    refine sq 52 rfl rfl (Y_lt (k := .i64) (a := (i2 : Int)) (b := (r_2.length : Int)) rfl (hf2.get 51 5 rfl) (hf2.get 50 4 rfl)) ?_
    refine rw_nil ?_
    refine cw_seq ?_
    refine cw_cond (b := (decide ((i2 : Int) < (r_2.length : Int)))) rfl (fun hlt4 => ?_) (fun hlt4 => ?_)
    · skip
      have hlt5 : i2 < r_2.length := by have h := of_decide_eq_true hlt4; omega
      obtain ⟨k_5, rfl⟩ : ∃ k2, k_4 = k2 + 1 := ⟨k_4 - 1, by omega⟩
      obtain ⟨y2, hb2, hL5⟩ := forN_go hL4
      unfold F_spec_l21Sum_product_l3 at hb2
      refine cw_skip ?_
      refine cw_seq ?_
      refine cw_block ?_
      refine cw_seq ?_
      refine cw_region ?_
      obtain ⟨x2, hx2, hb2⟩ := bind_inv hb2
      refine sq 53 rfl rfl (Y_index (B := B9) (m := r_2.length) (c := c8) (k := .i64) (i := (i2 : Int)) k_sl_137_3 k_sz_3_1 rfl (hf2.get 49 3 rfl) (hf2.get 51 5 rfl) (gi_isSome encI_len rfl (hS10.cf (i := 4) rfl) hx2) (getI_nn hx2) (getI_ltI hx2 rfl)) ?_
      refine sq 54 rfl rfl (Y_load1 (B := B9) (i := (i2 : Int).toNat * 1) (cs := (r_2.flatMap encI)) (v := .int .i64 x2) k_sc_3 rfl rfl (hS10.cf (i := 4) rfl) (gi_at0 encI_len hx2 rfl)) ?_
      refine sq 11 rfl rfl (Y_assign (v := .int .i64 x2) rfl rfl) ?_
      refine rw_nil ?_
      refine cw_region ?_
      refine sq 55 rfl rfl (Y_move (v := pt B 0) rfl (hf2.get 0 0 rfl)) ?_
      refine sq 56 rfl rfl (Y_move (v := .int .i64 x2) rfl rfl) ?_
      refine sq 57 rfl rfl (Y_conv (k := .i64) (a := x2) (T := 3) (T' := 92) k_us_3 k_int_92_u64 rfl rfl) ?_
      obtain ⟨hsh3, hb2⟩ := chk_inv hb2
      refine sq 58 rfl rfl (Y_shl (k := .i64) (a := 1) (k' := .u64) (b := (IntKind.u64.wrap x2)) rfl rfl rfl hsh3) ?_
      refine sq 59 rfl rfl (Y_fieldAddr (B := some ⟨b, 0, none⟩) (i := 0) (s := 0) k_fd_61_1_1_3 k_sz_3_1 rfl (hf2.get 4 1 rfl)) ?_
      refine sq 60 rfl rfl (Y_load1 (B := some ⟨b, 0, none⟩) (i := 1) (cs := [.int .i64 u.Mask, .int .i64 u.Turn]) (v := .int .i64 u.Turn) k_sc_3 rfl rfl (hS10.cf (i := 2) rfl) rfl) ?_
      refine sq 61 rfl rfl (Y_mul (k := .i64) (a := 4) (b := u.Turn) rfl rfl rfl) ?_
      obtain ⟨m3, hc5, hb2⟩ := bind_inv hb2
      refine sc 62 rfl rfl (Yc_func (g := 97) (vs := [pt B 0, .int .i64 (shlK .i64 1 (IntKind.u64.wrap x2)), .int .i64 (IntKind.i64.wrap (4 * u.Turn))]) k_call_97 rfl (mc rfl (mc rfl (mc rfl mn))) (c_spec_l21Sum_add (Tl21Sum.mk phase2 terms2) (shlK .i64 1 (IntKind.u64.wrap x2)) (IntKind.i64.wrap (4 * u.Turn)) B B10 c9 terms2.length _ rfl (hS10.lencap (i := 1) rfl (fm_lenn (l := terms2) enc_Term_len rfl) rfl rfl) (hS10.inn [true, true, false, false, false] rfl [] rfl) hc5)) ?_
      rintro _ w_7 ⟨B11, c10, rfl, hd5⟩
      have hS11 := hS10.out [true, true, false, false, false] rfl hd5
      have hS11 : ST w0 (bl [⟨B, 141, [.int .i64 s.phase, .slice B1 s.terms.length c], 2⟩, ⟨B1, 136, (s.terms.flatMap enc_Term), c * 2⟩]) _ [⟨some ⟨b, 0, none⟩, 61, [.int .i64 u.Mask, .int .i64 u.Turn], 2⟩, ⟨some ⟨b1, 0, none⟩, 61, [.int .i64 v_.Mask, .int .i64 v_.Turn], 2⟩, ⟨B9, 3, (r_2.flatMap encI), c8 * 1⟩, ⟨B, 141, [.int .i64 m3.phase, .slice B11 m3.terms.length c10], 2⟩, ⟨B11, 136, (m3.terms.flatMap enc_Term), c10 * 2⟩] [] := hS11
      refine rw_nil ?_
      refine cw_region ?_
      refine sq 63 rfl rfl (Y_add (k := .i64) (a := (i2 : Int)) (b := 1) rfl (hf2.get 51 5 rfl) rfl) ?_
      refine sq 51 rfl rfl (Y_move (v := .int .i64 (IntKind.i64.wrap ((i2 : Int) + 1))) rfl rfl) ?_
      refine rw_nil ?_
      obtain rfl := some_inj hb2
      exact ⟨k_5, Nat.lt_succ_self _, i2 + 1, m3.phase, m3.terms, B11, c10, (FF.cons (hf2.get 0 0 rfl) (FF.cons (hf2.get 4 1 rfl) (FF.cons (hf2.get 5 2 rfl) (FF.cons (hf2.get 49 3 rfl) (FF.cons (hf2.get 50 4 rfl) (FF.cons (congrArg (Value.int .i64) (wr_succ hlt5 hN2)) FF.nil)))))), (hS11.sel [3, 4, 0, 1, 2] rfl rfl), (by omega), hL5⟩
    · skip
      obtain rfl : k_4 = 0 := by have h := of_decide_eq_false hlt4; omega
      refine cw_exit rfl ?_
      obtain rfl := some_inj hL4
      refine cw_region ?_
      refine sq 64 rfl rfl (Y_move (v := pt B 0) rfl (hf2.get 0 0 rfl)) ?_
      refine sq 65 rfl rfl (Y_fieldAddr (B := some ⟨b, 0, none⟩) (i := 0) (s := 0) k_fd_61_1_1_3 k_sz_3_1 rfl (hf2.get 4 1 rfl)) ?_
      refine sq 66 rfl rfl (Y_load1 (B := some ⟨b, 0, none⟩) (i := 1) (cs := [.int .i64 u.Mask, .int .i64 u.Turn]) (v := .int .i64 u.Turn) k_sc_3 rfl rfl (hS10.cf (i := 2) rfl) rfl) ?_
      refine sq 67 rfl rfl (Y_mul (k := .i64) (a := 4) (b := u.Turn) rfl rfl rfl) ?_
      refine sq 68 rfl rfl (Y_fieldAddr (B := some ⟨b1, 0, none⟩) (i := 0) (s := 0) k_fd_61_1_1_3 k_sz_3_1 rfl (hf2.get 5 2 rfl)) ?_
      refine sq 69 rfl rfl (Y_load1 (B := some ⟨b1, 0, none⟩) (i := 1) (cs := [.int .i64 v_.Mask, .int .i64 v_.Turn]) (v := .int .i64 v_.Turn) k_sc_3 rfl rfl (hS10.cf (i := 3) rfl) rfl) ?_
      refine sq 70 rfl rfl (Y_mul (k := .i64) (a := (IntKind.i64.wrap (4 * u.Turn))) (b := v_.Turn) rfl rfl rfl) ?_
      obtain ⟨m4, hc6, hF3⟩ := bind_inv hF3
      refine sc 71 rfl rfl (Yc_func (g := 97) (vs := [pt B 0, .int .i64 0, .int .i64 (IntKind.i64.wrap ((IntKind.i64.wrap (4 * u.Turn)) * v_.Turn))]) k_call_97 rfl (mc rfl (mc rfl (mc rfl mn))) (c_spec_l21Sum_add (Tl21Sum.mk phase2 terms2) 0 (IntKind.i64.wrap ((IntKind.i64.wrap (4 * u.Turn)) * v_.Turn)) B B10 c9 terms2.length _ rfl (hS10.lencap (i := 1) rfl (fm_lenn (l := terms2) enc_Term_len rfl) rfl rfl) (hS10.inn [true, true, false, false, false] rfl [] rfl) hc6)) ?_
      rintro _ w_8 ⟨B12, c11, rfl, hd6⟩
      have hS12 := hS10.out [true, true, false, false, false] rfl hd6
      have hS12 : ST w0 (bl [⟨B, 141, [.int .i64 s.phase, .slice B1 s.terms.length c], 2⟩, ⟨B1, 136, (s.terms.flatMap enc_Term), c * 2⟩]) _ [⟨some ⟨b, 0, none⟩, 61, [.int .i64 u.Mask, .int .i64 u.Turn], 2⟩, ⟨some ⟨b1, 0, none⟩, 61, [.int .i64 v_.Mask, .int .i64 v_.Turn], 2⟩, ⟨B9, 3, (r_2.flatMap encI), c8 * 1⟩, ⟨B, 141, [.int .i64 m4.phase, .slice B12 m4.terms.length c11], 2⟩, ⟨B12, 136, (m4.terms.flatMap enc_Term), c11 * 2⟩] [] := hS12
      refine rw_nil ?_
      obtain rfl := some_inj hF3
      exact ret0 Try.results110  ⟨B12, c11, rfl, (ST.subR (R' := []) (hS12.sel [3, 4] rfl rfl) (fun _ h => by cases h))⟩

theorem c_spec_l21Xor (a : TAffine) (b : TAffine)  (w0 : World)  (hS : ST w0 [] w0 [] []) {r_ : TAffine} (hF : F_spec_l21Xor a b = some r_) :
    CV Try.prog 111 #[.agg #[.int .i64 a.Mask, .int .i64 a.Turn], .agg #[.int .i64 b.Mask, .int .i64 b.Turn]] w0 (fun v w' => v = .agg #[.int .i64 r_.Mask, .int .i64 r_.Turn] ∧ ST w0 [] w' [] []) := by
  unfold F_spec_l21Xor at hF
  refine cv_of_cw 16 Try.func111 rfl Try.ntmps111 rfl ?_
  refine cw_seq ?_
  refine cw_region ?_
  refine ss 2 rfl rfl (Ys_box (T := 61) (v := .agg #[.int .i64 a.Mask, .int .i64 a.Turn]) (cs := [.int .i64 a.Mask, .int .i64 a.Turn]) (m := 2) hS rfl rfl rfl rfl) ?_
  rintro _ w_ ⟨b1, rfl, hS1⟩
  refine ss 3 rfl rfl (Ys_box (T := 61) (v := .agg #[.int .i64 b.Mask, .int .i64 b.Turn]) (cs := [.int .i64 b.Mask, .int .i64 b.Turn]) (m := 2) hS1 rfl rfl rfl rfl) ?_
  rintro _ w_1 ⟨b2, rfl, hS2⟩
  have hS2 : ST w0 [] _ [⟨some ⟨b1, 0, none⟩, 61, [.int .i64 a.Mask, .int .i64 a.Turn], 2⟩, ⟨some ⟨b2, 0, none⟩, 61, [.int .i64 b.Mask, .int .i64 b.Turn], 2⟩] [] := hS2
  refine ss 4 rfl rfl (Ys_alloc (T := 61) (cs := [.int .i64 0, .int .i64 0]) (m := 2) hS2 k_zero_61 rfl rfl rfl) ?_
  rintro _ w_2 ⟨b3, rfl, hS3⟩
  have hS3 : ST w0 [] _ [⟨some ⟨b1, 0, none⟩, 61, [.int .i64 a.Mask, .int .i64 a.Turn], 2⟩, ⟨some ⟨b2, 0, none⟩, 61, [.int .i64 b.Mask, .int .i64 b.Turn], 2⟩, ⟨some ⟨b3, 0, none⟩, 61, [.int .i64 0, .int .i64 0], 2⟩] [] := hS3
  refine rw_nil ?_
  refine cw_seq ?_
  refine cw_region ?_
  refine sq 5 rfl rfl (Y_fieldAddr (B := some ⟨b1, 0, none⟩) (i := 0) (s := 0) k_fd_61_0_0_3 k_sz_3_1 rfl rfl) ?_
  refine sq 6 rfl rfl (Y_load1 (B := some ⟨b1, 0, none⟩) (i := 0) (cs := [.int .i64 a.Mask, .int .i64 a.Turn]) (v := .int .i64 a.Mask) k_sc_3 rfl rfl (hS3.cf (i := 0) rfl) rfl) ?_
  refine sq 7 rfl rfl (Y_fieldAddr (B := some ⟨b2, 0, none⟩) (i := 0) (s := 0) k_fd_61_0_0_3 k_sz_3_1 rfl rfl) ?_
  refine sq 8 rfl rfl (Y_load1 (B := some ⟨b2, 0, none⟩) (i := 0) (cs := [.int .i64 b.Mask, .int .i64 b.Turn]) (v := .int .i64 b.Mask) k_sc_3 rfl rfl (hS3.cf (i := 1) rfl) rfl) ?_
  refine sq 9 rfl rfl (Y_bxor (k := .i64) (a := a.Mask) (b := b.Mask) rfl rfl rfl) ?_
  refine sq 10 rfl rfl (Y_fieldAddr (B := some ⟨b1, 0, none⟩) (i := 0) (s := 0) k_fd_61_1_1_3 k_sz_3_1 rfl rfl) ?_
  refine sq 11 rfl rfl (Y_load1 (B := some ⟨b1, 0, none⟩) (i := 1) (cs := [.int .i64 a.Mask, .int .i64 a.Turn]) (v := .int .i64 a.Turn) k_sc_3 rfl rfl (hS3.cf (i := 0) rfl) rfl) ?_
  refine sq 12 rfl rfl (Y_fieldAddr (B := some ⟨b2, 0, none⟩) (i := 0) (s := 0) k_fd_61_1_1_3 k_sz_3_1 rfl rfl) ?_
  refine sq 13 rfl rfl (Y_load1 (B := some ⟨b2, 0, none⟩) (i := 1) (cs := [.int .i64 b.Mask, .int .i64 b.Turn]) (v := .int .i64 b.Turn) k_sc_3 rfl rfl (hS3.cf (i := 1) rfl) rfl) ?_
  refine sq 14 rfl rfl (Y_bxor (k := .i64) (a := a.Turn) (b := b.Turn) rfl rfl rfl) ?_
  refine sq 15 rfl rfl (Y_buildS (zs := [.int .i64 0, .int .i64 0]) (vs := [(0, .int .i64 (bits .xor .i64 a.Mask b.Mask)), (1, .int .i64 (bits .xor .i64 a.Turn b.Turn))]) (cs := [.int .i64 (bits .xor .i64 a.Mask b.Mask), .int .i64 (bits .xor .i64 a.Turn b.Turn)]) k_pl_61 k_zero_61 rfl (mpc rfl (mpc rfl mpn)) rfl) ?_
  refine ss0 rfl rfl (Ys_store (i := 2) (s := 2) (B := some ⟨b3, 0, none⟩) (T' := 61) (v := .agg #[.int .i64 (bits .xor .i64 a.Mask b.Mask), .int .i64 (bits .xor .i64 a.Turn b.Turn)]) (vs := [.int .i64 (bits .xor .i64 a.Mask b.Mask), .int .i64 (bits .xor .i64 a.Turn b.Turn)]) (k := 0) (cs' := [.int .i64 (bits .xor .i64 a.Mask b.Mask), .int .i64 (bits .xor .i64 a.Turn b.Turn)]) hS3 k_sz_61_2 rfl rfl rfl rfl rfl rfl rfl (Nat.le_of_ble_eq_true rfl) rfl rfl) ?_
  rintro _ w_3 ⟨rfl, hS4⟩
  have hS4 : ST w0 [] _ [⟨some ⟨b1, 0, none⟩, 61, [.int .i64 a.Mask, .int .i64 a.Turn], 2⟩, ⟨some ⟨b2, 0, none⟩, 61, [.int .i64 b.Mask, .int .i64 b.Turn], 2⟩, ⟨some ⟨b3, 0, none⟩, 61, [.int .i64 (bits .xor .i64 a.Mask b.Mask), .int .i64 (bits .xor .i64 a.Turn b.Turn)], 2⟩] [] := hS4
  refine rw_nil ?_
  refine cw_ret ?_
  obtain rfl := some_inj hF
  exact ret1 Try.results111 (v1 := .agg #[.int .i64 (bits .xor .i64 a.Mask b.Mask), .int .i64 (bits .xor .i64 a.Turn b.Turn)]) (resAt_cellA (B := some ⟨b3, 0, none⟩) (i := 0) (cs := [.int .i64 (bits .xor .i64 a.Mask b.Mask), .int .i64 (bits .xor .i64 a.Turn b.Turn)]) (vs := [.int .i64 (bits .xor .i64 a.Mask b.Mask), .int .i64 (bits .xor .i64 a.Turn b.Turn)]) rfl k_ag_61 k_sz_61_2 (hS4.cf (i := 2) rfl) rfl rfl) ⟨rfl, (ST.subR (R' := []) (hS4.sel [] rfl rfl) (fun _ h => by cases h))⟩

theorem c_spec_l13Coef (kind : Int)  (w0 : World)  (hS : ST w0 [] w0 [] []) {r_ : Int} (hF : F_spec_l13Coef kind = some r_) :
    CV Try.prog 112 #[.int .i64 kind] w0 (fun v w' => v = .int .i64 r_ ∧ ST w0 [] w' [] []) := by
  unfold F_spec_l13Coef at hF
  refine cv_of_cw 14 Try.func112 rfl Try.ntmps112 rfl ?_
  refine cw_seq ?_
  refine cw_region ?_
  refine sq 2 rfl rfl (Y_assign (v := .int .i64 0) rfl rfl) ?_
  refine rw_nil ?_
  refine cw_seq ?_
  refine cw_seq ?_
  refine cw_region ?_
  refine sq 3 rfl rfl (Y_move (v := .int .i64 kind) rfl rfl) ?_
  refine rw_nil ?_
  refine cw_block ?_
  refine cw_seq ?_
  refine cw_region ?_
  refine sq 5 rfl rfl (Y_eq (k := .i64) (a := kind) (b := 4) rfl rfl rfl) ?_
  refine sq 4 rfl rfl (Y_assign (v := .bool (kind == 4)) rfl rfl) ?_
  refine rw_nil ?_
  refine cw_cond (b := (kind == 4)) rfl (fun hb => ?_) (fun hb => ?_)
  · skip
    have hF1 := ct hF hb
    refine cw_seq ?_
    refine cw_region ?_
    refine sq 2 rfl rfl (Y_assign (v := .int .i64 4) rfl rfl) ?_
    refine rw_nil ?_
    refine cw_ret ?_
    obtain rfl := some_inj hF1
    exact ret1 Try.results112 (v1 := .int .i64 4) (resAt_tmp rfl) ⟨rfl, (ST.subR (R' := []) (hS.sel [] rfl rfl) (fun _ h => by cases h))⟩
  · skip
    have hF2 := cf' hF hb
    refine cw_seq ?_
    refine cw_region ?_
    refine sq 7 rfl rfl (Y_eq (k := .i64) (a := kind) (b := 5) rfl rfl rfl) ?_
    refine sq 6 rfl rfl (Y_assign (v := .bool (kind == 5)) rfl rfl) ?_
    refine rw_nil ?_
    refine cw_cond (b := (kind == 5)) rfl (fun hb1 => ?_) (fun hb1 => ?_)
    · skip
      have hF3 := ct hF2 hb1
      refine cw_seq ?_
      refine cw_region ?_
      refine sq 2 rfl rfl (Y_assign (v := .int .i64 2) rfl rfl) ?_
      refine rw_nil ?_
      refine cw_ret ?_
      obtain rfl := some_inj hF3
      exact ret1 Try.results112 (v1 := .int .i64 2) (resAt_tmp rfl) ⟨rfl, (ST.subR (R' := []) (hS.sel [] rfl rfl) (fun _ h => by cases h))⟩
    · skip
      have hF4 := cf' hF2 hb1
      refine cw_seq ?_
      refine cw_region ?_
      refine sq 9 rfl rfl (Y_eq (k := .i64) (a := kind) (b := 6) rfl rfl rfl) ?_
      refine sq 8 rfl rfl (Y_assign (v := .bool (kind == 6)) rfl rfl) ?_
      refine rw_nil ?_
      refine cw_cond (b := (kind == 6)) rfl (fun hb2 => ?_) (fun hb2 => ?_)
      · skip
        have hF5 := ct hF4 hb2
        refine cw_seq ?_
        refine cw_region ?_
        refine sq 2 rfl rfl (Y_assign (v := .int .i64 6) rfl rfl) ?_
        refine rw_nil ?_
        refine cw_ret ?_
        obtain rfl := some_inj hF5
        exact ret1 Try.results112 (v1 := .int .i64 6) (resAt_tmp rfl) ⟨rfl, (ST.subR (R' := []) (hS.sel [] rfl rfl) (fun _ h => by cases h))⟩
      · skip
        have hF6 := cf' hF4 hb2
        refine cw_seq ?_
        refine cw_region ?_
        refine sq 11 rfl rfl (Y_eq (k := .i64) (a := kind) (b := 7) rfl rfl rfl) ?_
        refine sq 10 rfl rfl (Y_assign (v := .bool (kind == 7)) rfl rfl) ?_
        refine rw_nil ?_
        refine cw_cond (b := (kind == 7)) rfl (fun hb3 => ?_) (fun hb3 => ?_)
        · skip
          have hF7 := ct hF6 hb3
          refine cw_seq ?_
          refine cw_region ?_
          refine sq 2 rfl rfl (Y_assign (v := .int .i64 1) rfl rfl) ?_
          refine rw_nil ?_
          refine cw_ret ?_
          obtain rfl := some_inj hF7
          exact ret1 Try.results112 (v1 := .int .i64 1) (resAt_tmp rfl) ⟨rfl, (ST.subR (R' := []) (hS.sel [] rfl rfl) (fun _ h => by cases h))⟩
        · skip
          have hF8 := cf' hF6 hb3
          refine cw_seq ?_
          refine cw_region ?_
          refine sq 13 rfl rfl (Y_eq (k := .i64) (a := kind) (b := 8) rfl rfl rfl) ?_
          refine sq 12 rfl rfl (Y_assign (v := .bool (kind == 8)) rfl rfl) ?_
          refine rw_nil ?_
          refine cw_cond (b := (kind == 8)) rfl (fun hb4 => ?_) (fun hb4 => ?_)
          · skip
            have hF9 := ct hF8 hb4
            refine cw_seq ?_
            refine cw_region ?_
            refine sq 2 rfl rfl (Y_assign (v := .int .i64 7) rfl rfl) ?_
            refine rw_nil ?_
            refine cw_ret ?_
            obtain rfl := some_inj hF9
            exact ret1 Try.results112 (v1 := .int .i64 7) (resAt_tmp rfl) ⟨rfl, (ST.subR (R' := []) (hS.sel [] rfl rfl) (fun _ h => by cases h))⟩
          · skip
            have hF10 := cf' hF8 hb4
            refine cw_skip ?_
            refine cw_seq ?_
            refine cw_region ?_
            refine sq 2 rfl rfl (Y_assign (v := .int .i64 0) rfl rfl) ?_
            refine rw_nil ?_
            refine cw_ret ?_
            obtain rfl := some_inj hF10
            exact ret1 Try.results112 (v1 := .int .i64 0) (resAt_tmp rfl) ⟨rfl, (ST.subR (R' := []) (hS.sel [] rfl rfl) (fun _ h => by cases h))⟩

theorem c_spec_l21Of (c : TCircuit) (B : Option Addr) (c1 n : Nat) (w0 : World) (hn : c.Gates.length = n) (hS : ST w0 [] w0 [] [⟨B, (c.Gates.flatMap enc_Gate)⟩]) {r_ : TPathSum} {r_1 : Bool} (hF : F_spec_l21Of c = some (r_, r_1)) :
    CV Try.prog 65 #[.agg #[.int .i64 c.Qubits, .slice B n c1]] w0 (fun v w' => ∃ (B1 : Option Addr) (c2 : Nat) (B2 : Option Addr) (c3 : Nat), v = .tuple #[.agg #[.int .i64 r_.Ins, .int .i64 r_.Vars, .int .i64 r_.Root, .int .i64 r_.Phase, .slice B1 r_.Terms.length c2, .slice B2 r_.Out.length c3], .bool r_1] ∧ ST w0 [] w' [⟨B1, 136, (r_.Terms.flatMap enc_Term), c2 * 2⟩, ⟨B2, 61, (r_.Out.flatMap enc_Affine), c3 * 2⟩] []) := by
  subst hn
  unfold F_spec_l21Of at hF
  refine cv_of_cw 167 Try.func65 rfl Try.ntmps65 rfl ?_
  refine cw_seq ?_
  refine cw_region ?_
  refine ss 1 rfl rfl (Ys_box (T := 28) (v := .agg #[.int .i64 c.Qubits, .slice B c.Gates.length c1]) (cs := [.int .i64 c.Qubits, .slice B c.Gates.length c1]) (m := 2) hS rfl rfl rfl rfl) ?_
  rintro _ w_ ⟨b, rfl, hS1⟩
  refine ss 2 rfl rfl (Ys_alloc (T := 57) (cs := [.int .i64 0, .int .i64 0, .int .i64 0, .int .i64 0, .slice none 0 0, .slice none 0 0]) (m := 6) hS1 k_zero_57 rfl rfl rfl) ?_
  rintro _ w_1 ⟨b1, rfl, hS2⟩
  have hS2 : ST w0 [] _ [⟨some ⟨b, 0, none⟩, 28, [.int .i64 c.Qubits, .slice B c.Gates.length c1], 2⟩, ⟨some ⟨b1, 0, none⟩, 57, [.int .i64 0, .int .i64 0, .int .i64 0, .int .i64 0, .slice none 0 0, .slice none 0 0], 6⟩] [⟨B, (c.Gates.flatMap enc_Gate)⟩] := hS2
  refine sq 3 rfl rfl (Y_assign (v := .bool false) rfl rfl) ?_
  refine rw_nil ?_
  refine cw_seq ?_
  refine cw_region ?_
  refine sq 13 rfl rfl (Y_fieldAddr (B := some ⟨b, 0, none⟩) (i := 0) (s := 0) k_fd_28_0_0_3 k_sz_3_1 rfl rfl) ?_
  refine sq 14 rfl rfl (Y_load1 (B := some ⟨b, 0, none⟩) (i := 0) (cs := [.int .i64 c.Qubits, .slice B c.Gates.length c1]) (v := .int .i64 c.Qubits) k_sc_3 rfl rfl (hS2.cf (i := 0) rfl) rfl) ?_
  refine sq 15 rfl rfl (Y_buildS (zs := [.int .i64 0, .int .i64 0, .int .i64 0, .int .i64 0, .slice none 0 0, .slice none 0 0]) (vs := [(0, .int .i64 c.Qubits)]) (cs := [.int .i64 c.Qubits, .int .i64 0, .int .i64 0, .int .i64 0, .slice none 0 0, .slice none 0 0]) k_pl_57 k_zero_57 rfl (mpc rfl mpn) rfl) ?_
  refine ss 4 rfl rfl (Ys_alloc (T := 57) (cs := [.int .i64 0, .int .i64 0, .int .i64 0, .int .i64 0, .slice none 0 0, .slice none 0 0]) (m := 6) hS2 k_zero_57 rfl rfl rfl) ?_
  rintro _ w_2 ⟨b2, rfl, hS3⟩
  have hS3 : ST w0 [] _ [⟨some ⟨b, 0, none⟩, 28, [.int .i64 c.Qubits, .slice B c.Gates.length c1], 2⟩, ⟨some ⟨b1, 0, none⟩, 57, [.int .i64 0, .int .i64 0, .int .i64 0, .int .i64 0, .slice none 0 0, .slice none 0 0], 6⟩, ⟨some ⟨b2, 0, none⟩, 57, [.int .i64 0, .int .i64 0, .int .i64 0, .int .i64 0, .slice none 0 0, .slice none 0 0], 6⟩] [⟨B, (c.Gates.flatMap enc_Gate)⟩] := hS3
  refine ss0 rfl rfl (Ys_store (i := 2) (s := 6) (B := some ⟨b2, 0, none⟩) (T' := 57) (v := .agg #[.int .i64 c.Qubits, .int .i64 0, .int .i64 0, .int .i64 0, .slice none 0 0, .slice none 0 0]) (vs := [.int .i64 c.Qubits, .int .i64 0, .int .i64 0, .int .i64 0, .slice none 0 0, .slice none 0 0]) (k := 0) (cs' := [.int .i64 c.Qubits, .int .i64 0, .int .i64 0, .int .i64 0, .slice none 0 0, .slice none 0 0]) hS3 k_sz_57_6 rfl rfl rfl rfl rfl rfl rfl (Nat.le_of_ble_eq_true rfl) rfl rfl) ?_
  rintro _ w_3 ⟨rfl, hS4⟩
  have hS4 : ST w0 [] _ [⟨some ⟨b, 0, none⟩, 28, [.int .i64 c.Qubits, .slice B c.Gates.length c1], 2⟩, ⟨some ⟨b1, 0, none⟩, 57, [.int .i64 0, .int .i64 0, .int .i64 0, .int .i64 0, .slice none 0 0, .slice none 0 0], 6⟩, ⟨some ⟨b2, 0, none⟩, 57, [.int .i64 c.Qubits, .int .i64 0, .int .i64 0, .int .i64 0, .slice none 0 0, .slice none 0 0], 6⟩] [⟨B, (c.Gates.flatMap enc_Gate)⟩] := hS4
  refine rw_nil ?_
  refine cw_seq ?_
  refine cw_region ?_
  refine sq 16 rfl rfl (Y_buildS (zs := [.int .i64 0, .slice none 0 0]) (vs := []) (cs := [.int .i64 0, .slice none 0 0]) k_pl_141 k_zero_141 rfl mpn rfl) ?_
  refine ss 17 rfl rfl (Ys_box (T := 141) (v := .agg #[.int .i64 0, .slice none 0 0]) (cs := [.int .i64 0, .slice none 0 0]) (m := 2) hS4 rfl rfl rfl rfl) ?_
  rintro _ w_4 ⟨b3, rfl, hS5⟩
  have hS5 : ST w0 [] _ [⟨some ⟨b, 0, none⟩, 28, [.int .i64 c.Qubits, .slice B c.Gates.length c1], 2⟩, ⟨some ⟨b1, 0, none⟩, 57, [.int .i64 0, .int .i64 0, .int .i64 0, .int .i64 0, .slice none 0 0, .slice none 0 0], 6⟩, ⟨some ⟨b2, 0, none⟩, 57, [.int .i64 c.Qubits, .int .i64 0, .int .i64 0, .int .i64 0, .slice none 0 0, .slice none 0 0], 6⟩, ⟨some ⟨b3, 0, none⟩, 141, [.int .i64 0, .slice none 0 0], 2⟩] [⟨B, (c.Gates.flatMap enc_Gate)⟩] := hS5
  refine sq 5 rfl rfl (Y_assign (v := pt (some ⟨b3, 0, none⟩) 0) rfl rfl) ?_
  refine rw_nil ?_
  refine cw_seq ?_
  refine cw_seq ?_
  refine cw_region ?_
  refine sq 6 rfl rfl (Y_assign (v := .int .i64 0) rfl rfl) ?_
  refine rw_nil ?_
  obtain ⟨hN, hF⟩ := chk_inv hF
  obtain ⟨z, hz, hF1⟩ := bind_inv hF
  have hS7 := hS5.addNil 61
  refine cw_block ?_
  refine cw_loop (fun k f w => ∃ (q : Nat) (Out : List TAffine) (B3 : Option Addr) (c4 : Nat), FF f [(1, pt (some ⟨b, 0, none⟩) 0), (2, pt (some ⟨b1, 0, none⟩) 0), (4, pt (some ⟨b2, 0, none⟩) 0), (5, pt (some ⟨b3, 0, none⟩) 0), (6, .int .i64 (q : Int))] ∧ ST w0 [] w [⟨some ⟨b, 0, none⟩, 28, [.int .i64 c.Qubits, .slice B c.Gates.length c1], 2⟩, ⟨some ⟨b1, 0, none⟩, 57, [.int .i64 0, .int .i64 0, .int .i64 0, .int .i64 0, .slice none 0 0, .slice none 0 0], 6⟩, ⟨some ⟨b2, 0, none⟩, 57, [.int .i64 c.Qubits, .int .i64 0, .int .i64 0, .int .i64 0, .slice none 0 0, .slice B3 Out.length c4], 6⟩, ⟨B3, 61, (Out.flatMap enc_Affine), c4 * 2⟩, ⟨some ⟨b3, 0, none⟩, 141, [.int .i64 0, .slice none 0 0], 2⟩] [⟨B, (c.Gates.flatMap enc_Gate)⟩] ∧ q + k = c.Qubits.toNat ∧ forN F_spec_l21Of_l1 k q Out = some z) c.Qubits.toNat ⟨0, [], none, 0, (FF.cons rfl (FF.cons rfl (FF.cons rfl (FF.cons rfl (FF.cons rfl FF.nil))))), (hS7.sel [0, 1, 2, 4, 3] rfl rfl), Nat.zero_add _, hz⟩ ?_
  rintro k_ f w ⟨q, Out, B3, c4, hf, hS6, hik, hL⟩
  refine cw_seq ?_
  refine cw_seq ?_
  refine cw_region ?_
  refine sq 18 rfl rfl (Y_move (v := .int .i64 (q : Int)) rfl (hf.get 6 4 rfl)) ?_
  refine sq 19 rfl rfl (Y_fieldAddr (B := some ⟨b, 0, none⟩) (i := 0) (s := 0) k_fd_28_0_0_3 k_sz_3_1 rfl (hf.get 1 0 rfl)) ?_
  refine sq 20 rfl rfl (Y_load1 (B := some ⟨b, 0, none⟩) (i := 0) (cs := [.int .i64 c.Qubits, .slice B c.Gates.length c1]) (v := .int .i64 c.Qubits) k_sc_3 rfl rfl (hS6.cf (i := 0) rfl) rfl) ?_
  refine sq 21 rfl rfl (Y_lt (k := .i64) (a := (q : Int)) (b := c.Qubits) rfl rfl rfl) ?_
  refine rw_nil ?_
  refine cw_cond (b := (decide ((q : Int) < c.Qubits))) rfl (fun hlt => ?_) (fun hlt => ?_)
  · skip
    have hlt1 : q < c.Qubits.toNat := by have h := of_decide_eq_true hlt; omega
    obtain ⟨k_1, rfl⟩ : ∃ k2, k_ = k2 + 1 := ⟨k_ - 1, by omega⟩
    obtain ⟨y, hb, hL1⟩ := forN_go hL
    unfold F_spec_l21Of_l1 at hb
    refine cw_skip ?_
    refine cw_seq ?_
    refine cw_block ?_
    refine cw_region ?_
    refine sq 24 rfl rfl (Y_fieldAddr (B := some ⟨b2, 0, none⟩) (i := 0) (s := 0) k_fd_57_5_5_55 k_sz_55_1 rfl (hf.get 4 2 rfl)) ?_
    refine sq 25 rfl rfl (Y_load1 (B := some ⟨b2, 0, none⟩) (i := 5) (cs := [.int .i64 c.Qubits, .int .i64 0, .int .i64 0, .int .i64 0, .slice none 0 0, .slice B3 Out.length c4]) (v := .slice B3 Out.length c4) k_sc_55 rfl rfl (hS6.cf (i := 2) rfl) rfl) ?_
    refine sq 26 rfl rfl (Y_move (v := .int .i64 (q : Int)) rfl (hf.get 6 4 rfl)) ?_
    refine sq 27 rfl rfl (Y_conv (k := .i64) (a := (q : Int)) (T := 3) (T' := 92) k_us_3 k_int_92_u64 rfl rfl) ?_
    obtain ⟨hsh, hb⟩ := chk_inv hb
    refine sq 28 rfl rfl (Y_shl (k := .i64) (a := 1) (k' := .u64) (b := (IntKind.u64.wrap (q : Int))) rfl rfl rfl hsh) ?_
    refine sq 29 rfl rfl (Y_buildS (zs := [.int .i64 0, .int .i64 0]) (vs := [(0, .int .i64 (shlK .i64 1 (IntKind.u64.wrap (q : Int))))]) (cs := [.int .i64 (shlK .i64 1 (IntKind.u64.wrap (q : Int))), .int .i64 0]) k_pl_61 k_zero_61 rfl (mpc rfl mpn) rfl) ?_
    refine ss 30 rfl rfl (Ys_bslice (s := 2) (len := 1) (vs := [(0, .agg #[.int .i64 (shlK .i64 1 (IntKind.u64.wrap (q : Int))), .int .i64 0])]) (cs := [.int .i64 (shlK .i64 1 (IntKind.u64.wrap (q : Int))), .int .i64 0]) (zs := [.int .i64 0, .int .i64 0]) (m := 2) hS6 k_sl_55_61 k_sz_61_2 k_zc_61 rfl (mpc rfl mpn) rfl rfl rfl (by kernel_rfl) (by kernel_rfl) rfl) ?_
    rintro _ w_5 ⟨b4, rfl, hS8⟩
    have hS8 : ST w0 [] _ [⟨some ⟨b, 0, none⟩, 28, [.int .i64 c.Qubits, .slice B c.Gates.length c1], 2⟩, ⟨some ⟨b1, 0, none⟩, 57, [.int .i64 0, .int .i64 0, .int .i64 0, .int .i64 0, .slice none 0 0, .slice none 0 0], 6⟩, ⟨some ⟨b2, 0, none⟩, 57, [.int .i64 c.Qubits, .int .i64 0, .int .i64 0, .int .i64 0, .slice none 0 0, .slice B3 Out.length c4], 6⟩, ⟨B3, 61, (Out.flatMap enc_Affine), c4 * 2⟩, ⟨some ⟨b3, 0, none⟩, 141, [.int .i64 0, .slice none 0 0], 2⟩, ⟨some ⟨b4, 0, none⟩, 61, ([(TAffine.mk (shlK .i64 1 (IntKind.u64.wrap (q : Int))) 0)].flatMap enc_Affine), 1 * 2⟩] [⟨B, (c.Gates.flatMap enc_Gate)⟩] := hS8
    obtain ⟨hap, hb⟩ := chk_inv hb
    refine ss 31 rfl rfl (Ys_append (s := 2) (by' := 16) (i := 3) (nn := Out.length) (c := c4) (k := 1) (len := (Out ++ [(TAffine.mk (shlK .i64 1 (IntKind.u64.wrap (q : Int))) 0)]).length) (B := B3) (xs := ([(TAffine.mk (shlK .i64 1 (IntKind.u64.wrap (q : Int))) 0)].flatMap enc_Affine)) (cs' := ((Out ++ [(TAffine.mk (shlK .i64 1 (IntKind.u64.wrap (q : Int))) 0)]).flatMap enc_Affine)) hS8 k_sl_55_61 k_sz_61_2 k_by_61_16 k_zero_61 rfl (by decide) rfl rfl rfl rfl (fm_lenn (l := Out) enc_Affine_len rfl) rfl (hS8.cf (i := 5) rfl) (fm_lenn (l := [(TAffine.mk (shlK .i64 1 (IntKind.u64.wrap (q : Int))) 0)]) enc_Affine_len rfl) (fm_one' (enc := enc_Affine) enc_Affine_one [(TAffine.mk (shlK .i64 1 (IntKind.u64.wrap (q : Int))) 0)]) (by have := hap; omega) (by have := hap; simp only [maxLen]; omega) (fm_app _ _) (app_len (l := Out) (l' := [(TAffine.mk (shlK .i64 1 (IntKind.u64.wrap (q : Int))) 0)]) rfl rfl)) ?_
    rintro _ w_6 ⟨B4, c5, rfl, hS9⟩
    have hS9 : ST w0 [] _ [⟨some ⟨b, 0, none⟩, 28, [.int .i64 c.Qubits, .slice B c.Gates.length c1], 2⟩, ⟨some ⟨b1, 0, none⟩, 57, [.int .i64 0, .int .i64 0, .int .i64 0, .int .i64 0, .slice none 0 0, .slice none 0 0], 6⟩, ⟨some ⟨b2, 0, none⟩, 57, [.int .i64 c.Qubits, .int .i64 0, .int .i64 0, .int .i64 0, .slice none 0 0, .slice B3 Out.length c4], 6⟩, ⟨B4, 61, ((Out ++ [(TAffine.mk (shlK .i64 1 (IntKind.u64.wrap (q : Int))) 0)]).flatMap enc_Affine), c5 * 2⟩, ⟨some ⟨b3, 0, none⟩, 141, [.int .i64 0, .slice none 0 0], 2⟩, ⟨some ⟨b4, 0, none⟩, 61, ([(TAffine.mk (shlK .i64 1 (IntKind.u64.wrap (q : Int))) 0)].flatMap enc_Affine), 1 * 2⟩] [⟨B, (c.Gates.flatMap enc_Gate)⟩] := hS9
    refine sq 32 rfl rfl (Y_fieldAddr (B := some ⟨b2, 0, none⟩) (i := 0) (s := 0) k_fd_57_5_5_55 k_sz_55_1 rfl (hf.get 4 2 rfl)) ?_
    refine ss0 rfl rfl (Ys_store (i := 2) (s := 1) (B := some ⟨b2, 0, none⟩) (T' := 57) (v := .slice B4 ((Out ++ [(TAffine.mk (shlK .i64 1 (IntKind.u64.wrap (q : Int))) 0)]).length) c5) (vs := [.slice B4 ((Out ++ [(TAffine.mk (shlK .i64 1 (IntKind.u64.wrap (q : Int))) 0)]).length) c5]) (k := 5) (cs' := [.int .i64 c.Qubits, .int .i64 0, .int .i64 0, .int .i64 0, .slice none 0 0, .slice B4 ((Out ++ [(TAffine.mk (shlK .i64 1 (IntKind.u64.wrap (q : Int))) 0)]).length) c5]) hS9 k_sz_55_1 rfl rfl rfl rfl rfl rfl rfl (Nat.le_of_ble_eq_true rfl) rfl rfl) ?_
    rintro _ w_7 ⟨rfl, hS10⟩
    have hS10 : ST w0 [] _ [⟨some ⟨b, 0, none⟩, 28, [.int .i64 c.Qubits, .slice B c.Gates.length c1], 2⟩, ⟨some ⟨b1, 0, none⟩, 57, [.int .i64 0, .int .i64 0, .int .i64 0, .int .i64 0, .slice none 0 0, .slice none 0 0], 6⟩, ⟨some ⟨b2, 0, none⟩, 57, [.int .i64 c.Qubits, .int .i64 0, .int .i64 0, .int .i64 0, .slice none 0 0, .slice B4 ((Out ++ [(TAffine.mk (shlK .i64 1 (IntKind.u64.wrap (q : Int))) 0)]).length) c5], 6⟩, ⟨B4, 61, ((Out ++ [(TAffine.mk (shlK .i64 1 (IntKind.u64.wrap (q : Int))) 0)]).flatMap enc_Affine), c5 * 2⟩, ⟨some ⟨b3, 0, none⟩, 141, [.int .i64 0, .slice none 0 0], 2⟩, ⟨some ⟨b4, 0, none⟩, 61, ([(TAffine.mk (shlK .i64 1 (IntKind.u64.wrap (q : Int))) 0)].flatMap enc_Affine), 1 * 2⟩] [⟨B, (c.Gates.flatMap enc_Gate)⟩] := hS10
    refine rw_nil ?_
    refine cw_region ?_
    refine sq 22 rfl rfl (Y_move (v := .int .i64 (q : Int)) rfl (hf.get 6 4 rfl)) ?_
    refine sq 23 rfl rfl (Y_add (k := .i64) (a := (q : Int)) (b := 1) rfl rfl rfl) ?_
    refine sq 6 rfl rfl (Y_assign (v := .int .i64 (IntKind.i64.wrap ((q : Int) + 1))) rfl rfl) ?_
    refine rw_nil ?_
    obtain rfl := some_inj hb
    exact ⟨k_1, Nat.lt_succ_self _, q + 1, (Out ++ [(TAffine.mk (shlK .i64 1 (IntKind.u64.wrap (q : Int))) 0)]), B4, c5, (FF.cons (hf.get 1 0 rfl) (FF.cons (hf.get 2 1 rfl) (FF.cons (hf.get 4 2 rfl) (FF.cons (hf.get 5 3 rfl) (FF.cons (congrArg (Value.int .i64) (wr_succ hlt1 hN)) FF.nil))))), (hS10.sel [0, 1, 2, 3, 4] rfl rfl), (by omega), hL1⟩
  · skip
    obtain rfl : k_ = 0 := by have h := of_decide_eq_false hlt; omega
    refine cw_exit rfl ?_
    obtain rfl := some_inj hL
    refine cw_seq ?_
    refine cw_region ?_
    refine sq 33 rfl rfl (Y_buildS (zs := [.int .i64 0, .int .i64 0]) (vs := [(1, .int .i64 1)]) (cs := [.int .i64 0, .int .i64 1]) k_pl_61 k_zero_61 rfl (mpc rfl mpn) rfl) ?_
    refine ss 7 rfl rfl (Ys_alloc (T := 61) (cs := [.int .i64 0, .int .i64 0]) (m := 2) hS6 k_zero_61 rfl rfl rfl) ?_
    rintro _ w_8 ⟨b5, rfl, hS11⟩
    have hS11 : ST w0 [] _ [⟨some ⟨b, 0, none⟩, 28, [.int .i64 c.Qubits, .slice B c.Gates.length c1], 2⟩, ⟨some ⟨b1, 0, none⟩, 57, [.int .i64 0, .int .i64 0, .int .i64 0, .int .i64 0, .slice none 0 0, .slice none 0 0], 6⟩, ⟨some ⟨b2, 0, none⟩, 57, [.int .i64 c.Qubits, .int .i64 0, .int .i64 0, .int .i64 0, .slice none 0 0, .slice B3 Out.length c4], 6⟩, ⟨B3, 61, (Out.flatMap enc_Affine), c4 * 2⟩, ⟨some ⟨b3, 0, none⟩, 141, [.int .i64 0, .slice none 0 0], 2⟩, ⟨some ⟨b5, 0, none⟩, 61, [.int .i64 0, .int .i64 0], 2⟩] [⟨B, (c.Gates.flatMap enc_Gate)⟩] := hS11
    refine ss0 rfl rfl (Ys_store (i := 5) (s := 2) (B := some ⟨b5, 0, none⟩) (T' := 61) (v := .agg #[.int .i64 0, .int .i64 1]) (vs := [.int .i64 0, .int .i64 1]) (k := 0) (cs' := [.int .i64 0, .int .i64 1]) hS11 k_sz_61_2 rfl rfl rfl rfl rfl rfl rfl (Nat.le_of_ble_eq_true rfl) rfl rfl) ?_
    rintro _ w_9 ⟨rfl, hS12⟩
    have hS12 : ST w0 [] _ [⟨some ⟨b, 0, none⟩, 28, [.int .i64 c.Qubits, .slice B c.Gates.length c1], 2⟩, ⟨some ⟨b1, 0, none⟩, 57, [.int .i64 0, .int .i64 0, .int .i64 0, .int .i64 0, .slice none 0 0, .slice none 0 0], 6⟩, ⟨some ⟨b2, 0, none⟩, 57, [.int .i64 c.Qubits, .int .i64 0, .int .i64 0, .int .i64 0, .slice none 0 0, .slice B3 Out.length c4], 6⟩, ⟨B3, 61, (Out.flatMap enc_Affine), c4 * 2⟩, ⟨some ⟨b3, 0, none⟩, 141, [.int .i64 0, .slice none 0 0], 2⟩, ⟨some ⟨b5, 0, none⟩, 61, [.int .i64 0, .int .i64 1], 2⟩] [⟨B, (c.Gates.flatMap enc_Gate)⟩] := hS12
    refine rw_nil ?_
    refine cw_seq ?_
    refine cw_seq ?_
    refine cw_region ?_
    refine sq 34 rfl rfl (Y_fieldAddr (B := some ⟨b, 0, none⟩) (i := 0) (s := 0) k_fd_28_1_1_26 k_sz_26_1 rfl (hf.get 1 0 rfl)) ?_
    refine sq 35 rfl rfl (Y_load1 (B := some ⟨b, 0, none⟩) (i := 1) (cs := [.int .i64 c.Qubits, .slice B c.Gates.length c1]) (v := .slice B c.Gates.length c1) k_sc_26 rfl rfl (hS12.cf (i := 0) rfl) rfl) ?_
    refine sq 36 rfl rfl (Y_len (B := B) (m := c.Gates.length) (c := c1) k_sl_26_76 rfl rfl) ?_
    refine sq 37 rfl rfl (Y_move (v := .int .i64 0) rfl rfl) ?_
    refine rw_nil ?_
    obtain ⟨hN1, hF1⟩ := chk_inv hF1
    obtain ⟨z1, hz1, hF2⟩ := bind_inv hF1
    have hS14 := hS12.addNil 136
    refine cw_block ?_
    refine cw_loop (fun k f w => ∃ (i1 : Nat) (Vars : Int) (Root : Int) (Out1 : List TAffine) (phase : Int) (terms : List TTerm) (B5 : Option Addr) (c6 : Nat), FF f [(2, pt (some ⟨b1, 0, none⟩) 0), (4, pt (some ⟨b2, 0, none⟩) 0), (5, pt (some ⟨b3, 0, none⟩) 0), (7, pt (some ⟨b5, 0, none⟩) 0), (35, .slice B c.Gates.length c1), (36, .int .i64 (c.Gates.length : Int)), (37, .int .i64 (i1 : Int))] ∧ Out1.length = Out.length ∧ ST w0 [] w [⟨some ⟨b1, 0, none⟩, 57, [.int .i64 0, .int .i64 0, .int .i64 0, .int .i64 0, .slice none 0 0, .slice none 0 0], 6⟩, ⟨some ⟨b2, 0, none⟩, 57, [.int .i64 c.Qubits, .int .i64 Vars, .int .i64 Root, .int .i64 0, .slice none 0 0, .slice B3 Out.length c4], 6⟩, ⟨B3, 61, (Out1.flatMap enc_Affine), c4 * 2⟩, ⟨some ⟨b3, 0, none⟩, 141, [.int .i64 phase, .slice B5 terms.length c6], 2⟩, ⟨B5, 136, (terms.flatMap enc_Term), c6 * 2⟩, ⟨some ⟨b5, 0, none⟩, 61, [.int .i64 0, .int .i64 1], 2⟩] [⟨B, (c.Gates.flatMap enc_Gate)⟩] ∧ i1 + k = c.Gates.length ∧ forX (F_spec_l21Of_l2 c) k i1 (Vars, Root, Out1, phase, terms) = some z1) c.Gates.length ⟨0, 0, 0, Out, 0, [], none, 0, (FF.cons (hf.get 2 1 rfl) (FF.cons (hf.get 4 2 rfl) (FF.cons (hf.get 5 3 rfl) (FF.cons rfl (FF.cons rfl (FF.cons rfl (FF.cons rfl FF.nil))))))), rfl, (hS14.sel [1, 2, 3, 4, 6, 5] rfl rfl), Nat.zero_add _, hz1⟩ ?_
    rintro k_2 f w ⟨i1, Vars, Root, Out1, phase, terms, B5, c6, hf1, hl, hS13, hik1, hL2⟩
    refine cw_seq ?_
    refine cw_region ?_
    refine sq 38 rfl rfl (Y_lt (k := .i64) (a := (i1 : Int)) (b := (c.Gates.length : Int)) rfl (hf1.get 37 6 rfl) (hf1.get 36 5 rfl)) ?_
    refine rw_nil ?_
    refine cw_seq ?_
    refine cw_cond (b := (decide ((i1 : Int) < (c.Gates.length : Int)))) rfl (fun hlt2 => ?_) (fun hlt2 => ?_)
    · skip
      have hlt3 : i1 < c.Gates.length := by have h := of_decide_eq_true hlt2; omega
      obtain ⟨k_3, rfl⟩ : ∃ k2, k_2 = k2 + 1 := ⟨k_2 - 1, by omega⟩
      obtain ⟨y1, hb1, hL3⟩ := forX_go hL2
      unfold F_spec_l21Of_l2 at hb1
      refine cw_skip ?_
      refine cw_seq ?_
      obtain ⟨z2, hz2, hF3⟩ := bind_inv hb1
      refine cw_mid (fun f w => ∃ (Vars1 : Int) (Root1 : Int) (Out2 : List TAffine) (phase1 : Int) (terms1 : List TTerm) (B6 : Option Addr) (c7 : Nat), .inl (Vars1, Root1, Out2, phase1, terms1) = z2 ∧ FF f [(2, pt (some ⟨b1, 0, none⟩) 0), (4, pt (some ⟨b2, 0, none⟩) 0), (5, pt (some ⟨b3, 0, none⟩) 0), (7, pt (some ⟨b5, 0, none⟩) 0), (35, .slice B c.Gates.length c1), (36, .int .i64 (c.Gates.length : Int)), (37, .int .i64 (i1 : Int))] ∧ Out2.length = Out.length ∧ ST w0 [] w [⟨some ⟨b1, 0, none⟩, 57, [.int .i64 0, .int .i64 0, .int .i64 0, .int .i64 0, .slice none 0 0, .slice none 0 0], 6⟩, ⟨some ⟨b2, 0, none⟩, 57, [.int .i64 c.Qubits, .int .i64 Vars1, .int .i64 Root1, .int .i64 0, .slice none 0 0, .slice B3 Out.length c4], 6⟩, ⟨B3, 61, (Out2.flatMap enc_Affine), c4 * 2⟩, ⟨some ⟨b3, 0, none⟩, 141, [.int .i64 phase1, .slice B6 terms1.length c7], 2⟩, ⟨B6, 136, (terms1.flatMap enc_Term), c7 * 2⟩, ⟨some ⟨b5, 0, none⟩, 61, [.int .i64 0, .int .i64 1], 2⟩] [⟨B, (c.Gates.flatMap enc_Gate)⟩]) ?_ ?_
      · skip
        refine cw_block ?_
        refine cw_seq ?_
        refine cw_region ?_
        obtain ⟨x, hx, hz2⟩ := bind_inv hz2
        refine sq 39 rfl rfl (Y_index (B := B) (m := c.Gates.length) (c := c1) (k := .i64) (i := (i1 : Int)) k_sl_26_76 k_sz_76_3 rfl (hf1.get 35 4 rfl) (hf1.get 37 6 rfl) (gi_isSome enc_Gate_len rfl (hS13.rf (i := 0) rfl) hx) (getI_nn hx) (getI_ltI hx rfl)) ?_
        refine sq 40 rfl rfl (Y_loadA (B := B) (i := (i1 : Int).toNat * 3) (cs := (c.Gates.flatMap enc_Gate)) (vs := [.int .i64 x.Kind, .int .i64 x.A, .int .i64 x.B]) k_ag_76 k_sz_76_3 rfl rfl (hS13.rf (i := 0) rfl) (enc_Gate_len x) (gi_seg enc_Gate_len hx)) ?_
        refine ss 9 rfl rfl (Ys_alloc (T := 76) (cs := [.int .i64 0, .int .i64 0, .int .i64 0]) (m := 3) hS13 k_zero_76 rfl rfl rfl) ?_
        rintro _ w_10 ⟨b6, rfl, hS16⟩
        have hS16 : ST w0 [] _ [⟨some ⟨b1, 0, none⟩, 57, [.int .i64 0, .int .i64 0, .int .i64 0, .int .i64 0, .slice none 0 0, .slice none 0 0], 6⟩, ⟨some ⟨b2, 0, none⟩, 57, [.int .i64 c.Qubits, .int .i64 Vars, .int .i64 Root, .int .i64 0, .slice none 0 0, .slice B3 Out.length c4], 6⟩, ⟨B3, 61, (Out1.flatMap enc_Affine), c4 * 2⟩, ⟨some ⟨b3, 0, none⟩, 141, [.int .i64 phase, .slice B5 terms.length c6], 2⟩, ⟨B5, 136, (terms.flatMap enc_Term), c6 * 2⟩, ⟨some ⟨b5, 0, none⟩, 61, [.int .i64 0, .int .i64 1], 2⟩, ⟨some ⟨b6, 0, none⟩, 76, [.int .i64 0, .int .i64 0, .int .i64 0], 3⟩] [⟨B, (c.Gates.flatMap enc_Gate)⟩] := hS16
        refine ss0 rfl rfl (Ys_store (i := 6) (s := 3) (B := some ⟨b6, 0, none⟩) (T' := 76) (v := .agg #[.int .i64 x.Kind, .int .i64 x.A, .int .i64 x.B]) (vs := [.int .i64 x.Kind, .int .i64 x.A, .int .i64 x.B]) (k := 0) (cs' := [.int .i64 x.Kind, .int .i64 x.A, .int .i64 x.B]) hS16 k_sz_76_3 rfl rfl rfl rfl rfl rfl rfl (Nat.le_of_ble_eq_true rfl) rfl rfl) ?_
        rintro _ w_11 ⟨rfl, hS17⟩
        have hS17 : ST w0 [] _ [⟨some ⟨b1, 0, none⟩, 57, [.int .i64 0, .int .i64 0, .int .i64 0, .int .i64 0, .slice none 0 0, .slice none 0 0], 6⟩, ⟨some ⟨b2, 0, none⟩, 57, [.int .i64 c.Qubits, .int .i64 Vars, .int .i64 Root, .int .i64 0, .slice none 0 0, .slice B3 Out.length c4], 6⟩, ⟨B3, 61, (Out1.flatMap enc_Affine), c4 * 2⟩, ⟨some ⟨b3, 0, none⟩, 141, [.int .i64 phase, .slice B5 terms.length c6], 2⟩, ⟨B5, 136, (terms.flatMap enc_Term), c6 * 2⟩, ⟨some ⟨b5, 0, none⟩, 61, [.int .i64 0, .int .i64 1], 2⟩, ⟨some ⟨b6, 0, none⟩, 76, [.int .i64 x.Kind, .int .i64 x.A, .int .i64 x.B], 3⟩] [⟨B, (c.Gates.flatMap enc_Gate)⟩] := hS17
        refine rw_nil ?_
        refine cw_seq ?_
        obtain ⟨x1, hx1, hz2⟩ := bind_inv hz2
        obtain ⟨x2, hx2, hz2⟩ := bind_inv hz2
        refine cw_mid (fun f w => ∃ (B7 : Option Addr) (B8 : Option Addr), FF f [(2, pt (some ⟨b1, 0, none⟩) 0), (4, pt (some ⟨b2, 0, none⟩) 0), (5, pt (some ⟨b3, 0, none⟩) 0), (7, pt (some ⟨b5, 0, none⟩) 0), (9, pt (some ⟨b6, 0, none⟩) 0), (10, pt B7 0), (11, pt B8 0), (35, .slice B c.Gates.length c1), (36, .int .i64 (c.Gates.length : Int)), (37, .int .i64 (i1 : Int))] ∧ ST w0 [] w [⟨some ⟨b1, 0, none⟩, 57, [.int .i64 0, .int .i64 0, .int .i64 0, .int .i64 0, .slice none 0 0, .slice none 0 0], 6⟩, ⟨some ⟨b2, 0, none⟩, 57, [.int .i64 c.Qubits, .int .i64 Vars, .int .i64 Root, .int .i64 0, .slice none 0 0, .slice B3 Out.length c4], 6⟩, ⟨B3, 61, (Out1.flatMap enc_Affine), c4 * 2⟩, ⟨some ⟨b3, 0, none⟩, 141, [.int .i64 phase, .slice B5 terms.length c6], 2⟩, ⟨B5, 136, (terms.flatMap enc_Term), c6 * 2⟩, ⟨some ⟨b5, 0, none⟩, 61, [.int .i64 0, .int .i64 1], 2⟩, ⟨some ⟨b6, 0, none⟩, 76, [.int .i64 x.Kind, .int .i64 x.A, .int .i64 x.B], 3⟩, ⟨B7, 61, [.int .i64 x1.Mask, .int .i64 x1.Turn], 2⟩, ⟨B8, 61, [.int .i64 x2.Mask, .int .i64 x2.Turn], 2⟩] [⟨B, (c.Gates.flatMap enc_Gate)⟩]) ?_ ?_
        · skip
          refine ra_start (ST.sel hS17 [0, 1, 2, 3, 4, 5, 6] rfl rfl).fn (by kernel_rfl) ?_
          have hS19 := hS17.drew
          refine ra_q 0 41 (v := pt (some ⟨b2, 0, none⟩) 5) rfl rfl rfl (by kernel_rfl) (by kernel_rfl) (by kernel_rfl) (ST.sel hS19 [0, 1, 2, 3, 4, 5, 6] rfl rfl) (fun w' hw' => (Y_fieldAddr (B := some ⟨b2, 0, none⟩) (i := 0) (s := 0) k_fd_57_5_5_55 k_sz_55_1 rfl (hf1.get 4 1 rfl))) ?_
          refine ra_q 1 42 (v := .slice B3 Out.length c4) rfl rfl rfl (by kernel_rfl) (by kernel_rfl) (by kernel_rfl) (ST.sel hS19 [0, 1, 2, 3, 4, 5, 6] rfl rfl) (fun w' hw' => (Y_load1 (B := some ⟨b2, 0, none⟩) (i := 5) (cs := [.int .i64 c.Qubits, .int .i64 Vars, .int .i64 Root, .int .i64 0, .slice none 0 0, .slice B3 Out.length c4]) (v := .slice B3 Out.length c4) k_sc_55 rfl rfl (ST.cf hw' (i := 1) rfl) rfl)) ?_
          refine ra_q 2 43 (v := pt (some ⟨b6, 0, none⟩) 1) rfl rfl rfl (by kernel_rfl) (by kernel_rfl) (by kernel_rfl) (ST.sel hS19 [0, 1, 2, 3, 4, 5, 6] rfl rfl) (fun w' hw' => (Y_fieldAddr (B := some ⟨b6, 0, none⟩) (i := 0) (s := 0) k_fd_76_1_1_3 k_sz_3_1 rfl rfl)) ?_
          refine ra_q 3 44 (v := .int .i64 x.A) rfl rfl rfl (by kernel_rfl) (by kernel_rfl) (by kernel_rfl) (ST.sel hS19 [0, 1, 2, 3, 4, 5, 6] rfl rfl) (fun w' hw' => (Y_load1 (B := some ⟨b6, 0, none⟩) (i := 1) (cs := [.int .i64 x.Kind, .int .i64 x.A, .int .i64 x.B]) (v := .int .i64 x.A) k_sc_3 rfl rfl (ST.cf hw' (i := 6) rfl) rfl)) ?_
          refine ra_q 4 45 (v := pt B3 (x.A.toNat * 2)) rfl rfl rfl (by kernel_rfl) (by kernel_rfl) (by kernel_rfl) (ST.sel hS19 [0, 1, 2, 3, 4, 5, 6] rfl rfl) (fun w' hw' => (Y_index (B := B3) (m := Out.length) (c := c4) (k := .i64) (i := x.A) k_sl_55_61 k_sz_61_2 rfl rfl rfl (gi_isSome enc_Affine_len rfl (ST.cf hw' (i := 2) rfl) hx1) (getI_nn hx1) (getI_ltI hx1 hl))) ?_
          refine ra_q 5 46 (v := .agg #[.int .i64 x1.Mask, .int .i64 x1.Turn]) rfl rfl rfl (by kernel_rfl) (by kernel_rfl) (by kernel_rfl) (ST.sel hS19 [0, 1, 2, 3, 4, 5, 6] rfl rfl) (fun w' hw' => (Y_loadA (B := B3) (i := x.A.toNat * 2) (cs := (Out1.flatMap enc_Affine)) (vs := [.int .i64 x1.Mask, .int .i64 x1.Turn]) k_ag_61 k_sz_61_2 rfl rfl (ST.cf hw' (i := 2) rfl) (enc_Affine_len x1) (gi_seg enc_Affine_len hx1))) ?_
          refine ra_q 6 47 (v := pt (some ⟨b2, 0, none⟩) 5) rfl rfl rfl (by kernel_rfl) (by kernel_rfl) (by kernel_rfl) (ST.sel hS19 [0, 1, 2, 3, 4, 5, 6] rfl rfl) (fun w' hw' => (Y_fieldAddr (B := some ⟨b2, 0, none⟩) (i := 0) (s := 0) k_fd_57_5_5_55 k_sz_55_1 rfl (hf1.get 4 1 rfl))) ?_
          refine ra_q 7 48 (v := .slice B3 Out.length c4) rfl rfl rfl (by kernel_rfl) (by kernel_rfl) (by kernel_rfl) (ST.sel hS19 [0, 1, 2, 3, 4, 5, 6] rfl rfl) (fun w' hw' => (Y_load1 (B := some ⟨b2, 0, none⟩) (i := 5) (cs := [.int .i64 c.Qubits, .int .i64 Vars, .int .i64 Root, .int .i64 0, .slice none 0 0, .slice B3 Out.length c4]) (v := .slice B3 Out.length c4) k_sc_55 rfl rfl (ST.cf hw' (i := 1) rfl) rfl)) ?_
          refine ra_q 8 49 (v := pt (some ⟨b6, 0, none⟩) 2) rfl rfl rfl (by kernel_rfl) (by kernel_rfl) (by kernel_rfl) (ST.sel hS19 [0, 1, 2, 3, 4, 5, 6] rfl rfl) (fun w' hw' => (Y_fieldAddr (B := some ⟨b6, 0, none⟩) (i := 0) (s := 0) k_fd_76_2_2_3 k_sz_3_1 rfl rfl)) ?_
          refine ra_q 9 50 (v := .int .i64 x.B) rfl rfl rfl (by kernel_rfl) (by kernel_rfl) (by kernel_rfl) (ST.sel hS19 [0, 1, 2, 3, 4, 5, 6] rfl rfl) (fun w' hw' => (Y_load1 (B := some ⟨b6, 0, none⟩) (i := 2) (cs := [.int .i64 x.Kind, .int .i64 x.A, .int .i64 x.B]) (v := .int .i64 x.B) k_sc_3 rfl rfl (ST.cf hw' (i := 6) rfl) rfl)) ?_
          refine ra_q 10 51 (v := pt B3 (x.B.toNat * 2)) rfl rfl rfl (by kernel_rfl) (by kernel_rfl) (by kernel_rfl) (ST.sel hS19 [0, 1, 2, 3, 4, 5, 6] rfl rfl) (fun w' hw' => (Y_index (B := B3) (m := Out.length) (c := c4) (k := .i64) (i := x.B) k_sl_55_61 k_sz_61_2 rfl rfl rfl (gi_isSome enc_Affine_len rfl (ST.cf hw' (i := 2) rfl) hx2) (getI_nn hx2) (getI_ltI hx2 hl))) ?_
          refine ra_q 11 52 (v := .agg #[.int .i64 x2.Mask, .int .i64 x2.Turn]) rfl rfl rfl (by kernel_rfl) (by kernel_rfl) (by kernel_rfl) (ST.sel hS19 [0, 1, 2, 3, 4, 5, 6] rfl rfl) (fun w' hw' => (Y_loadA (B := B3) (i := x.B.toNat * 2) (cs := (Out1.flatMap enc_Affine)) (vs := [.int .i64 x2.Mask, .int .i64 x2.Turn]) k_ag_61 k_sz_61_2 rfl rfl (ST.cf hw' (i := 2) rfl) (enc_Affine_len x2) (gi_seg enc_Affine_len hx2))) ?_
          refine ra_all (rs := [12, 13]) (by kernel_rfl) rfl ?_
          refine ra_s 10 (i := 12) rfl rfl rfl (Ys_alloc (T := 61) (cs := [.int .i64 0, .int .i64 0]) (m := 2) hS19 k_zero_61 rfl rfl rfl) ?_ ?_
          · rintro _ w_12 ⟨b7, rfl, hS20⟩
            have hS20 : ST w0 [] _ [⟨some ⟨b1, 0, none⟩, 57, [.int .i64 0, .int .i64 0, .int .i64 0, .int .i64 0, .slice none 0 0, .slice none 0 0], 6⟩, ⟨some ⟨b2, 0, none⟩, 57, [.int .i64 c.Qubits, .int .i64 Vars, .int .i64 Root, .int .i64 0, .slice none 0 0, .slice B3 Out.length c4], 6⟩, ⟨B3, 61, (Out1.flatMap enc_Affine), c4 * 2⟩, ⟨some ⟨b3, 0, none⟩, 141, [.int .i64 phase, .slice B5 terms.length c6], 2⟩, ⟨B5, 136, (terms.flatMap enc_Term), c6 * 2⟩, ⟨some ⟨b5, 0, none⟩, 61, [.int .i64 0, .int .i64 1], 2⟩, ⟨some ⟨b6, 0, none⟩, 76, [.int .i64 x.Kind, .int .i64 x.A, .int .i64 x.B], 3⟩, ⟨some ⟨b7, 0, none⟩, 61, [.int .i64 0, .int .i64 0], 2⟩] [⟨B, (c.Gates.flatMap enc_Gate)⟩] := hS20
            refine ⟨(ST.sel hS20 [0, 1, 2, 3, 4, 5, 6] rfl rfl), ?_⟩
            refine ra_all (rs := [13]) (by kernel_rfl) rfl ?_
            refine ra_s 11 (i := 13) rfl rfl rfl (Ys_alloc (T := 61) (cs := [.int .i64 0, .int .i64 0]) (m := 2) hS20 k_zero_61 rfl rfl rfl) ?_ ?_
            · rintro _ w_13 ⟨b8, rfl, hS21⟩
              have hS21 : ST w0 [] _ [⟨some ⟨b1, 0, none⟩, 57, [.int .i64 0, .int .i64 0, .int .i64 0, .int .i64 0, .slice none 0 0, .slice none 0 0], 6⟩, ⟨some ⟨b2, 0, none⟩, 57, [.int .i64 c.Qubits, .int .i64 Vars, .int .i64 Root, .int .i64 0, .slice none 0 0, .slice B3 Out.length c4], 6⟩, ⟨B3, 61, (Out1.flatMap enc_Affine), c4 * 2⟩, ⟨some ⟨b3, 0, none⟩, 141, [.int .i64 phase, .slice B5 terms.length c6], 2⟩, ⟨B5, 136, (terms.flatMap enc_Term), c6 * 2⟩, ⟨some ⟨b5, 0, none⟩, 61, [.int .i64 0, .int .i64 1], 2⟩, ⟨some ⟨b6, 0, none⟩, 76, [.int .i64 x.Kind, .int .i64 x.A, .int .i64 x.B], 3⟩, ⟨some ⟨b7, 0, none⟩, 61, [.int .i64 0, .int .i64 0], 2⟩, ⟨some ⟨b8, 0, none⟩, 61, [.int .i64 0, .int .i64 0], 2⟩] [⟨B, (c.Gates.flatMap enc_Gate)⟩] := hS21
              refine ⟨(ST.sel hS21 [0, 1, 2, 3, 4, 5, 6] rfl rfl), ?_⟩
              refine ra_all (rs := [14]) (by kernel_rfl) rfl ?_
              refine ra_s0 (i := 14) rfl rfl rfl (Ys_store (i := 7) (s := 2) (B := some ⟨b7, 0, none⟩) (T' := 61) (v := .agg #[.int .i64 x1.Mask, .int .i64 x1.Turn]) (vs := [.int .i64 x1.Mask, .int .i64 x1.Turn]) (k := 0) (cs' := [.int .i64 x1.Mask, .int .i64 x1.Turn]) hS21 k_sz_61_2 rfl rfl rfl rfl rfl rfl rfl (Nat.le_of_ble_eq_true rfl) rfl rfl) ?_ ?_
              · rintro _ w_14 ⟨rfl, hS22⟩
                have hS22 : ST w0 [] _ [⟨some ⟨b1, 0, none⟩, 57, [.int .i64 0, .int .i64 0, .int .i64 0, .int .i64 0, .slice none 0 0, .slice none 0 0], 6⟩, ⟨some ⟨b2, 0, none⟩, 57, [.int .i64 c.Qubits, .int .i64 Vars, .int .i64 Root, .int .i64 0, .slice none 0 0, .slice B3 Out.length c4], 6⟩, ⟨B3, 61, (Out1.flatMap enc_Affine), c4 * 2⟩, ⟨some ⟨b3, 0, none⟩, 141, [.int .i64 phase, .slice B5 terms.length c6], 2⟩, ⟨B5, 136, (terms.flatMap enc_Term), c6 * 2⟩, ⟨some ⟨b5, 0, none⟩, 61, [.int .i64 0, .int .i64 1], 2⟩, ⟨some ⟨b6, 0, none⟩, 76, [.int .i64 x.Kind, .int .i64 x.A, .int .i64 x.B], 3⟩, ⟨some ⟨b7, 0, none⟩, 61, [.int .i64 x1.Mask, .int .i64 x1.Turn], 2⟩, ⟨some ⟨b8, 0, none⟩, 61, [.int .i64 0, .int .i64 0], 2⟩] [⟨B, (c.Gates.flatMap enc_Gate)⟩] := hS22
                refine ⟨(ST.sel hS22 [0, 1, 2, 3, 4, 5, 6] rfl rfl), ?_⟩
                refine ra_all (rs := [15]) (by kernel_rfl) rfl ?_
                refine ra_s0 (i := 15) rfl rfl rfl (Ys_store (i := 8) (s := 2) (B := some ⟨b8, 0, none⟩) (T' := 61) (v := .agg #[.int .i64 x2.Mask, .int .i64 x2.Turn]) (vs := [.int .i64 x2.Mask, .int .i64 x2.Turn]) (k := 0) (cs' := [.int .i64 x2.Mask, .int .i64 x2.Turn]) hS22 k_sz_61_2 rfl rfl rfl rfl rfl rfl rfl (Nat.le_of_ble_eq_true rfl) rfl rfl) ?_ ?_
                · rintro _ w_15 ⟨rfl, hS23⟩
                  have hS23 : ST w0 [] _ [⟨some ⟨b1, 0, none⟩, 57, [.int .i64 0, .int .i64 0, .int .i64 0, .int .i64 0, .slice none 0 0, .slice none 0 0], 6⟩, ⟨some ⟨b2, 0, none⟩, 57, [.int .i64 c.Qubits, .int .i64 Vars, .int .i64 Root, .int .i64 0, .slice none 0 0, .slice B3 Out.length c4], 6⟩, ⟨B3, 61, (Out1.flatMap enc_Affine), c4 * 2⟩, ⟨some ⟨b3, 0, none⟩, 141, [.int .i64 phase, .slice B5 terms.length c6], 2⟩, ⟨B5, 136, (terms.flatMap enc_Term), c6 * 2⟩, ⟨some ⟨b5, 0, none⟩, 61, [.int .i64 0, .int .i64 1], 2⟩, ⟨some ⟨b6, 0, none⟩, 76, [.int .i64 x.Kind, .int .i64 x.A, .int .i64 x.B], 3⟩, ⟨some ⟨b7, 0, none⟩, 61, [.int .i64 x1.Mask, .int .i64 x1.Turn], 2⟩, ⟨some ⟨b8, 0, none⟩, 61, [.int .i64 x2.Mask, .int .i64 x2.Turn], 2⟩] [⟨B, (c.Gates.flatMap enc_Gate)⟩] := hS23
                  refine ⟨(ST.sel hS23 [0, 1, 2, 3, 4, 5, 6] rfl rfl), ?_⟩
                  refine ra_done (by kernel_rfl) ?_
                  exact ⟨some ⟨b7, 0, none⟩, some ⟨b8, 0, none⟩, (FF.cons (hf1.get 2 0 rfl) (FF.cons (hf1.get 4 1 rfl) (FF.cons (hf1.get 5 2 rfl) (FF.cons (hf1.get 7 3 rfl) (FF.cons rfl (FF.cons rfl (FF.cons rfl (FF.cons (hf1.get 35 4 rfl) (FF.cons (hf1.get 36 5 rfl) (FF.cons (hf1.get 37 6 rfl) FF.nil)))))))))), (hS23.sel [0, 1, 2, 3, 4, 5, 6, 7, 8] rfl rfl)⟩
                exact allR_nil
              exact allR_nil
            exact allR_nil
          refine ra_s 11 (i := 13) rfl rfl rfl (Ys_alloc (T := 61) (cs := [.int .i64 0, .int .i64 0]) (m := 2) hS19 k_zero_61 rfl rfl rfl) ?_ ?_
          · rintro _ w_16 ⟨b8, rfl, hS24⟩
            have hS24 : ST w0 [] _ [⟨some ⟨b1, 0, none⟩, 57, [.int .i64 0, .int .i64 0, .int .i64 0, .int .i64 0, .slice none 0 0, .slice none 0 0], 6⟩, ⟨some ⟨b2, 0, none⟩, 57, [.int .i64 c.Qubits, .int .i64 Vars, .int .i64 Root, .int .i64 0, .slice none 0 0, .slice B3 Out.length c4], 6⟩, ⟨B3, 61, (Out1.flatMap enc_Affine), c4 * 2⟩, ⟨some ⟨b3, 0, none⟩, 141, [.int .i64 phase, .slice B5 terms.length c6], 2⟩, ⟨B5, 136, (terms.flatMap enc_Term), c6 * 2⟩, ⟨some ⟨b5, 0, none⟩, 61, [.int .i64 0, .int .i64 1], 2⟩, ⟨some ⟨b6, 0, none⟩, 76, [.int .i64 x.Kind, .int .i64 x.A, .int .i64 x.B], 3⟩, ⟨some ⟨b8, 0, none⟩, 61, [.int .i64 0, .int .i64 0], 2⟩] [⟨B, (c.Gates.flatMap enc_Gate)⟩] := hS24
            refine ⟨(ST.sel hS24 [0, 1, 2, 3, 4, 5, 6] rfl rfl), ?_⟩
            refine ra_all (rs := [12]) (by kernel_rfl) rfl ?_
            refine ra_s 10 (i := 12) rfl rfl rfl (Ys_alloc (T := 61) (cs := [.int .i64 0, .int .i64 0]) (m := 2) hS24 k_zero_61 rfl rfl rfl) ?_ ?_
            · rintro _ w_17 ⟨b7, rfl, hS25⟩
              have hS25 : ST w0 [] _ [⟨some ⟨b1, 0, none⟩, 57, [.int .i64 0, .int .i64 0, .int .i64 0, .int .i64 0, .slice none 0 0, .slice none 0 0], 6⟩, ⟨some ⟨b2, 0, none⟩, 57, [.int .i64 c.Qubits, .int .i64 Vars, .int .i64 Root, .int .i64 0, .slice none 0 0, .slice B3 Out.length c4], 6⟩, ⟨B3, 61, (Out1.flatMap enc_Affine), c4 * 2⟩, ⟨some ⟨b3, 0, none⟩, 141, [.int .i64 phase, .slice B5 terms.length c6], 2⟩, ⟨B5, 136, (terms.flatMap enc_Term), c6 * 2⟩, ⟨some ⟨b5, 0, none⟩, 61, [.int .i64 0, .int .i64 1], 2⟩, ⟨some ⟨b6, 0, none⟩, 76, [.int .i64 x.Kind, .int .i64 x.A, .int .i64 x.B], 3⟩, ⟨some ⟨b8, 0, none⟩, 61, [.int .i64 0, .int .i64 0], 2⟩, ⟨some ⟨b7, 0, none⟩, 61, [.int .i64 0, .int .i64 0], 2⟩] [⟨B, (c.Gates.flatMap enc_Gate)⟩] := hS25
              refine ⟨(ST.sel hS25 [0, 1, 2, 3, 4, 5, 6] rfl rfl), ?_⟩
              refine ra_all (rs := [14]) (by kernel_rfl) rfl ?_
              refine ra_s0 (i := 14) rfl rfl rfl (Ys_store (i := 8) (s := 2) (B := some ⟨b7, 0, none⟩) (T' := 61) (v := .agg #[.int .i64 x1.Mask, .int .i64 x1.Turn]) (vs := [.int .i64 x1.Mask, .int .i64 x1.Turn]) (k := 0) (cs' := [.int .i64 x1.Mask, .int .i64 x1.Turn]) hS25 k_sz_61_2 rfl rfl rfl rfl rfl rfl rfl (Nat.le_of_ble_eq_true rfl) rfl rfl) ?_ ?_
              · rintro _ w_18 ⟨rfl, hS26⟩
                have hS26 : ST w0 [] _ [⟨some ⟨b1, 0, none⟩, 57, [.int .i64 0, .int .i64 0, .int .i64 0, .int .i64 0, .slice none 0 0, .slice none 0 0], 6⟩, ⟨some ⟨b2, 0, none⟩, 57, [.int .i64 c.Qubits, .int .i64 Vars, .int .i64 Root, .int .i64 0, .slice none 0 0, .slice B3 Out.length c4], 6⟩, ⟨B3, 61, (Out1.flatMap enc_Affine), c4 * 2⟩, ⟨some ⟨b3, 0, none⟩, 141, [.int .i64 phase, .slice B5 terms.length c6], 2⟩, ⟨B5, 136, (terms.flatMap enc_Term), c6 * 2⟩, ⟨some ⟨b5, 0, none⟩, 61, [.int .i64 0, .int .i64 1], 2⟩, ⟨some ⟨b6, 0, none⟩, 76, [.int .i64 x.Kind, .int .i64 x.A, .int .i64 x.B], 3⟩, ⟨some ⟨b8, 0, none⟩, 61, [.int .i64 0, .int .i64 0], 2⟩, ⟨some ⟨b7, 0, none⟩, 61, [.int .i64 x1.Mask, .int .i64 x1.Turn], 2⟩] [⟨B, (c.Gates.flatMap enc_Gate)⟩] := hS26
                refine ⟨(ST.sel hS26 [0, 1, 2, 3, 4, 5, 6] rfl rfl), ?_⟩
                refine ra_all (rs := [15]) (by kernel_rfl) rfl ?_
                refine ra_s0 (i := 15) rfl rfl rfl (Ys_store (i := 7) (s := 2) (B := some ⟨b8, 0, none⟩) (T' := 61) (v := .agg #[.int .i64 x2.Mask, .int .i64 x2.Turn]) (vs := [.int .i64 x2.Mask, .int .i64 x2.Turn]) (k := 0) (cs' := [.int .i64 x2.Mask, .int .i64 x2.Turn]) hS26 k_sz_61_2 rfl rfl rfl rfl rfl rfl rfl (Nat.le_of_ble_eq_true rfl) rfl rfl) ?_ ?_
                · rintro _ w_19 ⟨rfl, hS27⟩
                  have hS27 : ST w0 [] _ [⟨some ⟨b1, 0, none⟩, 57, [.int .i64 0, .int .i64 0, .int .i64 0, .int .i64 0, .slice none 0 0, .slice none 0 0], 6⟩, ⟨some ⟨b2, 0, none⟩, 57, [.int .i64 c.Qubits, .int .i64 Vars, .int .i64 Root, .int .i64 0, .slice none 0 0, .slice B3 Out.length c4], 6⟩, ⟨B3, 61, (Out1.flatMap enc_Affine), c4 * 2⟩, ⟨some ⟨b3, 0, none⟩, 141, [.int .i64 phase, .slice B5 terms.length c6], 2⟩, ⟨B5, 136, (terms.flatMap enc_Term), c6 * 2⟩, ⟨some ⟨b5, 0, none⟩, 61, [.int .i64 0, .int .i64 1], 2⟩, ⟨some ⟨b6, 0, none⟩, 76, [.int .i64 x.Kind, .int .i64 x.A, .int .i64 x.B], 3⟩, ⟨some ⟨b8, 0, none⟩, 61, [.int .i64 x2.Mask, .int .i64 x2.Turn], 2⟩, ⟨some ⟨b7, 0, none⟩, 61, [.int .i64 x1.Mask, .int .i64 x1.Turn], 2⟩] [⟨B, (c.Gates.flatMap enc_Gate)⟩] := hS27
                  refine ⟨(ST.sel hS27 [0, 1, 2, 3, 4, 5, 6] rfl rfl), ?_⟩
                  refine ra_done (by kernel_rfl) ?_
                  exact ⟨some ⟨b7, 0, none⟩, some ⟨b8, 0, none⟩, (FF.cons (hf1.get 2 0 rfl) (FF.cons (hf1.get 4 1 rfl) (FF.cons (hf1.get 5 2 rfl) (FF.cons (hf1.get 7 3 rfl) (FF.cons rfl (FF.cons rfl (FF.cons rfl (FF.cons (hf1.get 35 4 rfl) (FF.cons (hf1.get 36 5 rfl) (FF.cons (hf1.get 37 6 rfl) FF.nil)))))))))), (hS27.sel [0, 1, 2, 3, 4, 5, 6, 8, 7] rfl rfl)⟩
                exact allR_nil
              exact allR_nil
            exact allR_nil
          exact allR_nil
        rintro f w ⟨B7, B8, hf3, hS18⟩
        refine cw_seq ?_
        refine cw_region ?_
        refine sq 53 rfl rfl (Y_fieldAddr (B := some ⟨b6, 0, none⟩) (i := 0) (s := 0) k_fd_76_0_0_3 k_sz_3_1 rfl (hf3.get 9 4 rfl)) ?_
        refine sq 54 rfl rfl (Y_load1 (B := some ⟨b6, 0, none⟩) (i := 0) (cs := [.int .i64 x.Kind, .int .i64 x.A, .int .i64 x.B]) (v := .int .i64 x.Kind) k_sc_3 rfl rfl (hS18.cf (i := 6) rfl) rfl) ?_
        refine rw_nil ?_
        refine cw_block ?_
        refine cw_seq ?_
        refine cw_region ?_
        refine sq 62 rfl rfl (Y_eq (k := .i64) (a := x.Kind) (b := 1) rfl rfl rfl) ?_
        refine sq 61 rfl rfl (Y_assign (v := .bool (x.Kind == 1)) rfl rfl) ?_
        refine rw_nil ?_
        refine cw_cond (b := (x.Kind == 1)) rfl (fun hb2 => ?_) (fun hb2 => ?_)
        · skip
          have hF4 := ct hz2 hb2
          refine cw_seq ?_
          refine cw_seq ?_
          refine cw_region ?_
          refine sq 63 rfl rfl (Y_fieldAddr (B := some ⟨b2, 0, none⟩) (i := 0) (s := 0) k_fd_57_0_0_3 k_sz_3_1 rfl (hf3.get 4 1 rfl)) ?_
          refine sq 64 rfl rfl (Y_load1 (B := some ⟨b2, 0, none⟩) (i := 0) (cs := [.int .i64 c.Qubits, .int .i64 Vars, .int .i64 Root, .int .i64 0, .slice none 0 0, .slice B3 Out.length c4]) (v := .int .i64 c.Qubits) k_sc_3 rfl rfl (hS18.cf (i := 1) rfl) rfl) ?_
          refine sq 65 rfl rfl (Y_fieldAddr (B := some ⟨b2, 0, none⟩) (i := 0) (s := 0) k_fd_57_1_1_3 k_sz_3_1 rfl (hf3.get 4 1 rfl)) ?_
          refine sq 66 rfl rfl (Y_load1 (B := some ⟨b2, 0, none⟩) (i := 1) (cs := [.int .i64 c.Qubits, .int .i64 Vars, .int .i64 Root, .int .i64 0, .slice none 0 0, .slice B3 Out.length c4]) (v := .int .i64 Vars) k_sc_3 rfl rfl (hS18.cf (i := 1) rfl) rfl) ?_
          refine sq 67 rfl rfl (Y_add (k := .i64) (a := c.Qubits) (b := Vars) rfl rfl rfl) ?_
          refine sq 68 rfl rfl (Y_eq (k := .i64) (a := (IntKind.i64.wrap (c.Qubits + Vars))) (b := 24) rfl rfl rfl) ?_
          refine rw_nil ?_
          refine cw_cond (b := ((IntKind.i64.wrap (c.Qubits + Vars)) == 24)) rfl (fun hb3 => ?_) (fun hb3 => ?_)
          · skip
            have hF5 := ct hF4 hb3
            refine cw_seq ?_
            refine cw_region ?_
            refine sq 69 rfl rfl (Y_buildS (zs := [.int .i64 0, .int .i64 0, .int .i64 0, .int .i64 0, .slice none 0 0, .slice none 0 0]) (vs := []) (cs := [.int .i64 0, .int .i64 0, .int .i64 0, .int .i64 0, .slice none 0 0, .slice none 0 0]) k_pl_57 k_zero_57 rfl mpn rfl) ?_
            refine ss0 rfl rfl (Ys_store (i := 0) (s := 6) (B := some ⟨b1, 0, none⟩) (T' := 57) (v := .agg #[.int .i64 0, .int .i64 0, .int .i64 0, .int .i64 0, .slice none 0 0, .slice none 0 0]) (vs := [.int .i64 0, .int .i64 0, .int .i64 0, .int .i64 0, .slice none 0 0, .slice none 0 0]) (k := 0) (cs' := [.int .i64 0, .int .i64 0, .int .i64 0, .int .i64 0, .slice none 0 0, .slice none 0 0]) hS18 k_sz_57_6 rfl (hf3.get 2 0 rfl) rfl rfl rfl rfl rfl (Nat.le_of_ble_eq_true rfl) rfl rfl) ?_
            rintro _ w_20 ⟨rfl, hS28⟩
            have hS28 : ST w0 [] _ [⟨some ⟨b1, 0, none⟩, 57, [.int .i64 0, .int .i64 0, .int .i64 0, .int .i64 0, .slice none 0 0, .slice none 0 0], 6⟩, ⟨some ⟨b2, 0, none⟩, 57, [.int .i64 c.Qubits, .int .i64 Vars, .int .i64 Root, .int .i64 0, .slice none 0 0, .slice B3 Out.length c4], 6⟩, ⟨B3, 61, (Out1.flatMap enc_Affine), c4 * 2⟩, ⟨some ⟨b3, 0, none⟩, 141, [.int .i64 phase, .slice B5 terms.length c6], 2⟩, ⟨B5, 136, (terms.flatMap enc_Term), c6 * 2⟩, ⟨some ⟨b5, 0, none⟩, 61, [.int .i64 0, .int .i64 1], 2⟩, ⟨some ⟨b6, 0, none⟩, 76, [.int .i64 x.Kind, .int .i64 x.A, .int .i64 x.B], 3⟩, ⟨B7, 61, [.int .i64 x1.Mask, .int .i64 x1.Turn], 2⟩, ⟨B8, 61, [.int .i64 x2.Mask, .int .i64 x2.Turn], 2⟩] [⟨B, (c.Gates.flatMap enc_Gate)⟩] := hS28
            refine sq 3 rfl rfl (Y_assign (v := .bool false) rfl rfl) ?_
            refine rw_nil ?_
            refine cw_ret ?_
            have hS29 := hS28.addNil 136
            have hS30 := hS29.addNil 61
            obtain rfl := some_inj hF5
            obtain rfl := some_inj hF3
            obtain rfl := some_inj hL3
            obtain ⟨rfl, rfl⟩ := pr2 (some_inj hF2)
            exact ret2 Try.results65 (v1 := .agg #[.int .i64 0, .int .i64 0, .int .i64 0, .int .i64 0, .slice none 0 0, .slice none 0 0]) (resAt_cellA (B := some ⟨b1, 0, none⟩) (i := 0) (cs := [.int .i64 0, .int .i64 0, .int .i64 0, .int .i64 0, .slice none 0 0, .slice none 0 0]) (vs := [.int .i64 0, .int .i64 0, .int .i64 0, .int .i64 0, .slice none 0 0, .slice none 0 0]) (hf3.get 2 0 rfl) k_ag_57 k_sz_57_6 (hS30.cf (i := 0) rfl) rfl rfl) (v2 := .bool false) (resAt_tmp rfl) ⟨none, 0, none, 0, rfl, (ST.subR (R' := []) (hS30.sel [9, 10] rfl rfl) (fun _ h => by cases h))⟩
          · skip
            have hF6 := cf' hF4 hb3
            refine cw_skip ?_
            refine cw_seq ?_
            refine cw_region ?_
            refine sq 70 rfl rfl (Y_fieldAddr (B := some ⟨b2, 0, none⟩) (i := 0) (s := 0) k_fd_57_0_0_3 k_sz_3_1 rfl (hf3.get 4 1 rfl)) ?_
            refine sq 71 rfl rfl (Y_load1 (B := some ⟨b2, 0, none⟩) (i := 0) (cs := [.int .i64 c.Qubits, .int .i64 Vars, .int .i64 Root, .int .i64 0, .slice none 0 0, .slice B3 Out.length c4]) (v := .int .i64 c.Qubits) k_sc_3 rfl rfl (hS18.cf (i := 1) rfl) rfl) ?_
            refine sq 72 rfl rfl (Y_fieldAddr (B := some ⟨b2, 0, none⟩) (i := 0) (s := 0) k_fd_57_1_1_3 k_sz_3_1 rfl (hf3.get 4 1 rfl)) ?_
            refine sq 73 rfl rfl (Y_load1 (B := some ⟨b2, 0, none⟩) (i := 1) (cs := [.int .i64 c.Qubits, .int .i64 Vars, .int .i64 Root, .int .i64 0, .slice none 0 0, .slice B3 Out.length c4]) (v := .int .i64 Vars) k_sc_3 rfl rfl (hS18.cf (i := 1) rfl) rfl) ?_
            refine sq 74 rfl rfl (Y_add (k := .i64) (a := c.Qubits) (b := Vars) rfl rfl rfl) ?_
            refine sq 75 rfl rfl (Y_conv (k := .i64) (a := (IntKind.i64.wrap (c.Qubits + Vars))) (T := 3) (T' := 92) k_us_3 k_int_92_u64 rfl rfl) ?_
            obtain ⟨hsh1, hF6⟩ := chk_inv hF6
            refine sq 76 rfl rfl (Y_shl (k := .i64) (a := 1) (k' := .u64) (b := (IntKind.u64.wrap (IntKind.i64.wrap (c.Qubits + Vars)))) rfl rfl rfl hsh1) ?_
            refine sq 77 rfl rfl (Y_buildS (zs := [.int .i64 0, .int .i64 0]) (vs := [(0, .int .i64 (shlK .i64 1 (IntKind.u64.wrap (IntKind.i64.wrap (c.Qubits + Vars)))))]) (cs := [.int .i64 (shlK .i64 1 (IntKind.u64.wrap (IntKind.i64.wrap (c.Qubits + Vars)))), .int .i64 0]) k_pl_61 k_zero_61 rfl (mpc rfl mpn) rfl) ?_
            refine ss 12 rfl rfl (Ys_alloc (T := 61) (cs := [.int .i64 0, .int .i64 0]) (m := 2) hS18 k_zero_61 rfl rfl rfl) ?_
            rintro _ w_21 ⟨b9, rfl, hS31⟩
            have hS31 : ST w0 [] _ [⟨some ⟨b1, 0, none⟩, 57, [.int .i64 0, .int .i64 0, .int .i64 0, .int .i64 0, .slice none 0 0, .slice none 0 0], 6⟩, ⟨some ⟨b2, 0, none⟩, 57, [.int .i64 c.Qubits, .int .i64 Vars, .int .i64 Root, .int .i64 0, .slice none 0 0, .slice B3 Out.length c4], 6⟩, ⟨B3, 61, (Out1.flatMap enc_Affine), c4 * 2⟩, ⟨some ⟨b3, 0, none⟩, 141, [.int .i64 phase, .slice B5 terms.length c6], 2⟩, ⟨B5, 136, (terms.flatMap enc_Term), c6 * 2⟩, ⟨some ⟨b5, 0, none⟩, 61, [.int .i64 0, .int .i64 1], 2⟩, ⟨some ⟨b6, 0, none⟩, 76, [.int .i64 x.Kind, .int .i64 x.A, .int .i64 x.B], 3⟩, ⟨B7, 61, [.int .i64 x1.Mask, .int .i64 x1.Turn], 2⟩, ⟨B8, 61, [.int .i64 x2.Mask, .int .i64 x2.Turn], 2⟩, ⟨some ⟨b9, 0, none⟩, 61, [.int .i64 0, .int .i64 0], 2⟩] [⟨B, (c.Gates.flatMap enc_Gate)⟩] := hS31
            refine ss0 rfl rfl (Ys_store (i := 9) (s := 2) (B := some ⟨b9, 0, none⟩) (T' := 61) (v := .agg #[.int .i64 (shlK .i64 1 (IntKind.u64.wrap (IntKind.i64.wrap (c.Qubits + Vars)))), .int .i64 0]) (vs := [.int .i64 (shlK .i64 1 (IntKind.u64.wrap (IntKind.i64.wrap (c.Qubits + Vars)))), .int .i64 0]) (k := 0) (cs' := [.int .i64 (shlK .i64 1 (IntKind.u64.wrap (IntKind.i64.wrap (c.Qubits + Vars)))), .int .i64 0]) hS31 k_sz_61_2 rfl rfl rfl rfl rfl rfl rfl (Nat.le_of_ble_eq_true rfl) rfl rfl) ?_
            rintro _ w_22 ⟨rfl, hS32⟩
            have hS32 : ST w0 [] _ [⟨some ⟨b1, 0, none⟩, 57, [.int .i64 0, .int .i64 0, .int .i64 0, .int .i64 0, .slice none 0 0, .slice none 0 0], 6⟩, ⟨some ⟨b2, 0, none⟩, 57, [.int .i64 c.Qubits, .int .i64 Vars, .int .i64 Root, .int .i64 0, .slice none 0 0, .slice B3 Out.length c4], 6⟩, ⟨B3, 61, (Out1.flatMap enc_Affine), c4 * 2⟩, ⟨some ⟨b3, 0, none⟩, 141, [.int .i64 phase, .slice B5 terms.length c6], 2⟩, ⟨B5, 136, (terms.flatMap enc_Term), c6 * 2⟩, ⟨some ⟨b5, 0, none⟩, 61, [.int .i64 0, .int .i64 1], 2⟩, ⟨some ⟨b6, 0, none⟩, 76, [.int .i64 x.Kind, .int .i64 x.A, .int .i64 x.B], 3⟩, ⟨B7, 61, [.int .i64 x1.Mask, .int .i64 x1.Turn], 2⟩, ⟨B8, 61, [.int .i64 x2.Mask, .int .i64 x2.Turn], 2⟩, ⟨some ⟨b9, 0, none⟩, 61, [.int .i64 (shlK .i64 1 (IntKind.u64.wrap (IntKind.i64.wrap (c.Qubits + Vars)))), .int .i64 0], 2⟩] [⟨B, (c.Gates.flatMap enc_Gate)⟩] := hS32
            refine rw_nil ?_
            refine cw_seq ?_
            refine cw_region ?_
            refine sq 78 rfl rfl (Y_move (v := pt (some ⟨b3, 0, none⟩) 0) rfl (hf3.get 5 2 rfl)) ?_
            refine sq 79 rfl rfl (Y_loadA (B := B7) (i := 0) (cs := [.int .i64 x1.Mask, .int .i64 x1.Turn]) (vs := [.int .i64 x1.Mask, .int .i64 x1.Turn]) k_ag_61 k_sz_61_2 rfl (hf3.get 10 5 rfl) (hS32.cf (i := 7) rfl) rfl rfl) ?_
            refine sq 80 rfl rfl (Y_loadA (B := some ⟨b9, 0, none⟩) (i := 0) (cs := [.int .i64 (shlK .i64 1 (IntKind.u64.wrap (IntKind.i64.wrap (c.Qubits + Vars)))), .int .i64 0]) (vs := [.int .i64 (shlK .i64 1 (IntKind.u64.wrap (IntKind.i64.wrap (c.Qubits + Vars)))), .int .i64 0]) k_ag_61 k_sz_61_2 rfl rfl (hS32.cf (i := 9) rfl) rfl rfl) ?_
            obtain ⟨m, hc, hF6⟩ := bind_inv hF6
            refine sc 81 rfl rfl (Yc_func (g := 110) (vs := [pt (some ⟨b3, 0, none⟩) 0, .agg #[.int .i64 x1.Mask, .int .i64 x1.Turn], .agg #[.int .i64 (shlK .i64 1 (IntKind.u64.wrap (IntKind.i64.wrap (c.Qubits + Vars)))), .int .i64 0]]) k_call_110 rfl (mc rfl (mc rfl (mc rfl mn))) (c_spec_l21Sum_product (Tl21Sum.mk phase terms) x1 (TAffine.mk (shlK .i64 1 (IntKind.u64.wrap (IntKind.i64.wrap (c.Qubits + Vars)))) 0) (some ⟨b3, 0, none⟩) B5 c6 terms.length _ rfl (hS32.inn [false, false, false, true, true, false, false, false, false, false] rfl [] rfl) hc)) ?_
            rintro _ w_23 ⟨B9, c8, rfl, hd⟩
            have hS33 := hS32.out [false, false, false, true, true, false, false, false, false, false] rfl hd
            have hS33 : ST w0 [] _ [⟨some ⟨b1, 0, none⟩, 57, [.int .i64 0, .int .i64 0, .int .i64 0, .int .i64 0, .slice none 0 0, .slice none 0 0], 6⟩, ⟨some ⟨b2, 0, none⟩, 57, [.int .i64 c.Qubits, .int .i64 Vars, .int .i64 Root, .int .i64 0, .slice none 0 0, .slice B3 Out.length c4], 6⟩, ⟨B3, 61, (Out1.flatMap enc_Affine), c4 * 2⟩, ⟨some ⟨b5, 0, none⟩, 61, [.int .i64 0, .int .i64 1], 2⟩, ⟨some ⟨b6, 0, none⟩, 76, [.int .i64 x.Kind, .int .i64 x.A, .int .i64 x.B], 3⟩, ⟨B7, 61, [.int .i64 x1.Mask, .int .i64 x1.Turn], 2⟩, ⟨B8, 61, [.int .i64 x2.Mask, .int .i64 x2.Turn], 2⟩, ⟨some ⟨b9, 0, none⟩, 61, [.int .i64 (shlK .i64 1 (IntKind.u64.wrap (IntKind.i64.wrap (c.Qubits + Vars)))), .int .i64 0], 2⟩, ⟨some ⟨b3, 0, none⟩, 141, [.int .i64 m.phase, .slice B9 m.terms.length c8], 2⟩, ⟨B9, 136, (m.terms.flatMap enc_Term), c8 * 2⟩] [⟨B, (c.Gates.flatMap enc_Gate)⟩] := hS33
            refine rw_nil ?_
            refine cw_seq ?_
            refine cw_region ?_
            refine sq 82 rfl rfl (Y_fieldAddr (B := some ⟨b2, 0, none⟩) (i := 0) (s := 0) k_fd_57_1_1_3 k_sz_3_1 rfl (hf3.get 4 1 rfl)) ?_
            refine sq 83 rfl rfl (Y_load1 (B := some ⟨b2, 0, none⟩) (i := 1) (cs := [.int .i64 c.Qubits, .int .i64 Vars, .int .i64 Root, .int .i64 0, .slice none 0 0, .slice B3 Out.length c4]) (v := .int .i64 Vars) k_sc_3 rfl rfl (hS33.cf (i := 1) rfl) rfl) ?_
            refine sq 84 rfl rfl (Y_add (k := .i64) (a := Vars) (b := 1) rfl rfl rfl) ?_
            refine sq 85 rfl rfl (Y_fieldAddr (B := some ⟨b2, 0, none⟩) (i := 0) (s := 0) k_fd_57_1_1_3 k_sz_3_1 rfl (hf3.get 4 1 rfl)) ?_
            refine ss0 rfl rfl (Ys_store (i := 1) (s := 1) (B := some ⟨b2, 0, none⟩) (T' := 57) (v := .int .i64 (IntKind.i64.wrap (Vars + 1))) (vs := [.int .i64 (IntKind.i64.wrap (Vars + 1))]) (k := 1) (cs' := [.int .i64 c.Qubits, .int .i64 (IntKind.i64.wrap (Vars + 1)), .int .i64 Root, .int .i64 0, .slice none 0 0, .slice B3 Out.length c4]) hS33 k_sz_3_1 rfl rfl rfl rfl rfl rfl rfl (Nat.le_of_ble_eq_true rfl) rfl rfl) ?_
            rintro _ w_24 ⟨rfl, hS34⟩
            have hS34 : ST w0 [] _ [⟨some ⟨b1, 0, none⟩, 57, [.int .i64 0, .int .i64 0, .int .i64 0, .int .i64 0, .slice none 0 0, .slice none 0 0], 6⟩, ⟨some ⟨b2, 0, none⟩, 57, [.int .i64 c.Qubits, .int .i64 (IntKind.i64.wrap (Vars + 1)), .int .i64 Root, .int .i64 0, .slice none 0 0, .slice B3 Out.length c4], 6⟩, ⟨B3, 61, (Out1.flatMap enc_Affine), c4 * 2⟩, ⟨some ⟨b5, 0, none⟩, 61, [.int .i64 0, .int .i64 1], 2⟩, ⟨some ⟨b6, 0, none⟩, 76, [.int .i64 x.Kind, .int .i64 x.A, .int .i64 x.B], 3⟩, ⟨B7, 61, [.int .i64 x1.Mask, .int .i64 x1.Turn], 2⟩, ⟨B8, 61, [.int .i64 x2.Mask, .int .i64 x2.Turn], 2⟩, ⟨some ⟨b9, 0, none⟩, 61, [.int .i64 (shlK .i64 1 (IntKind.u64.wrap (IntKind.i64.wrap (c.Qubits + Vars)))), .int .i64 0], 2⟩, ⟨some ⟨b3, 0, none⟩, 141, [.int .i64 m.phase, .slice B9 m.terms.length c8], 2⟩, ⟨B9, 136, (m.terms.flatMap enc_Term), c8 * 2⟩] [⟨B, (c.Gates.flatMap enc_Gate)⟩] := hS34
            refine rw_nil ?_
            refine cw_seq ?_
            refine cw_region ?_
            refine sq 86 rfl rfl (Y_fieldAddr (B := some ⟨b2, 0, none⟩) (i := 0) (s := 0) k_fd_57_2_2_3 k_sz_3_1 rfl (hf3.get 4 1 rfl)) ?_
            refine sq 87 rfl rfl (Y_load1 (B := some ⟨b2, 0, none⟩) (i := 2) (cs := [.int .i64 c.Qubits, .int .i64 (IntKind.i64.wrap (Vars + 1)), .int .i64 Root, .int .i64 0, .slice none 0 0, .slice B3 Out.length c4]) (v := .int .i64 Root) k_sc_3 rfl rfl (hS34.cf (i := 1) rfl) rfl) ?_
            refine sq 88 rfl rfl (Y_add (k := .i64) (a := Root) (b := 1) rfl rfl rfl) ?_
            refine sq 89 rfl rfl (Y_fieldAddr (B := some ⟨b2, 0, none⟩) (i := 0) (s := 0) k_fd_57_2_2_3 k_sz_3_1 rfl (hf3.get 4 1 rfl)) ?_
            refine ss0 rfl rfl (Ys_store (i := 1) (s := 1) (B := some ⟨b2, 0, none⟩) (T' := 57) (v := .int .i64 (IntKind.i64.wrap (Root + 1))) (vs := [.int .i64 (IntKind.i64.wrap (Root + 1))]) (k := 2) (cs' := [.int .i64 c.Qubits, .int .i64 (IntKind.i64.wrap (Vars + 1)), .int .i64 (IntKind.i64.wrap (Root + 1)), .int .i64 0, .slice none 0 0, .slice B3 Out.length c4]) hS34 k_sz_3_1 rfl rfl rfl rfl rfl rfl rfl (Nat.le_of_ble_eq_true rfl) rfl rfl) ?_
            rintro _ w_25 ⟨rfl, hS35⟩
            have hS35 : ST w0 [] _ [⟨some ⟨b1, 0, none⟩, 57, [.int .i64 0, .int .i64 0, .int .i64 0, .int .i64 0, .slice none 0 0, .slice none 0 0], 6⟩, ⟨some ⟨b2, 0, none⟩, 57, [.int .i64 c.Qubits, .int .i64 (IntKind.i64.wrap (Vars + 1)), .int .i64 (IntKind.i64.wrap (Root + 1)), .int .i64 0, .slice none 0 0, .slice B3 Out.length c4], 6⟩, ⟨B3, 61, (Out1.flatMap enc_Affine), c4 * 2⟩, ⟨some ⟨b5, 0, none⟩, 61, [.int .i64 0, .int .i64 1], 2⟩, ⟨some ⟨b6, 0, none⟩, 76, [.int .i64 x.Kind, .int .i64 x.A, .int .i64 x.B], 3⟩, ⟨B7, 61, [.int .i64 x1.Mask, .int .i64 x1.Turn], 2⟩, ⟨B8, 61, [.int .i64 x2.Mask, .int .i64 x2.Turn], 2⟩, ⟨some ⟨b9, 0, none⟩, 61, [.int .i64 (shlK .i64 1 (IntKind.u64.wrap (IntKind.i64.wrap (c.Qubits + Vars)))), .int .i64 0], 2⟩, ⟨some ⟨b3, 0, none⟩, 141, [.int .i64 m.phase, .slice B9 m.terms.length c8], 2⟩, ⟨B9, 136, (m.terms.flatMap enc_Term), c8 * 2⟩] [⟨B, (c.Gates.flatMap enc_Gate)⟩] := hS35
            refine rw_nil ?_
            refine cw_region ?_
            refine sq 90 rfl rfl (Y_fieldAddr (B := some ⟨b2, 0, none⟩) (i := 0) (s := 0) k_fd_57_5_5_55 k_sz_55_1 rfl (hf3.get 4 1 rfl)) ?_
            refine sq 91 rfl rfl (Y_load1 (B := some ⟨b2, 0, none⟩) (i := 5) (cs := [.int .i64 c.Qubits, .int .i64 (IntKind.i64.wrap (Vars + 1)), .int .i64 (IntKind.i64.wrap (Root + 1)), .int .i64 0, .slice none 0 0, .slice B3 Out.length c4]) (v := .slice B3 Out.length c4) k_sc_55 rfl rfl (hS35.cf (i := 1) rfl) rfl) ?_
            refine sq 92 rfl rfl (Y_fieldAddr (B := some ⟨b6, 0, none⟩) (i := 0) (s := 0) k_fd_76_1_1_3 k_sz_3_1 rfl (hf3.get 9 4 rfl)) ?_
            refine sq 93 rfl rfl (Y_load1 (B := some ⟨b6, 0, none⟩) (i := 1) (cs := [.int .i64 x.Kind, .int .i64 x.A, .int .i64 x.B]) (v := .int .i64 x.A) k_sc_3 rfl rfl (hS35.cf (i := 4) rfl) rfl) ?_
            refine sq 94 rfl rfl (Y_loadA (B := some ⟨b9, 0, none⟩) (i := 0) (cs := [.int .i64 (shlK .i64 1 (IntKind.u64.wrap (IntKind.i64.wrap (c.Qubits + Vars)))), .int .i64 0]) (vs := [.int .i64 (shlK .i64 1 (IntKind.u64.wrap (IntKind.i64.wrap (c.Qubits + Vars)))), .int .i64 0]) k_ag_61 k_sz_61_2 rfl rfl (hS35.cf (i := 7) rfl) rfl rfl) ?_
            obtain ⟨x3, hx3, hF6⟩ := bind_inv hF6
            refine sq 95 rfl rfl (Y_index (B := B3) (m := Out.length) (c := c4) (k := .i64) (i := x.A) k_sl_55_61 k_sz_61_2 rfl rfl rfl (gi_isSome enc_Affine_len rfl (hS35.cf (i := 2) rfl) hx3) (getI_nn hx3) (getI_ltI hx3 hl)) ?_
            refine ss0 rfl rfl (Ys_store (i := 2) (s := 2) (B := B3) (T' := 61) (v := .agg #[.int .i64 (shlK .i64 1 (IntKind.u64.wrap (IntKind.i64.wrap (c.Qubits + Vars)))), .int .i64 0]) (vs := [.int .i64 (shlK .i64 1 (IntKind.u64.wrap (IntKind.i64.wrap (c.Qubits + Vars)))), .int .i64 0]) (k := x.A.toNat * 2) (cs' := ((Out1.set x.A.toNat (TAffine.mk (shlK .i64 1 (IntKind.u64.wrap (IntKind.i64.wrap (c.Qubits + Vars)))) 0)).flatMap enc_Affine)) hS35 k_sz_61_2 rfl rfl rfl rfl rfl rfl rfl (gi_fit0 enc_Affine_len hx3) (gi_set enc_Affine_len hx3 (TAffine.mk (shlK .i64 1 (IntKind.u64.wrap (IntKind.i64.wrap (c.Qubits + Vars)))) 0) rfl) rfl) ?_
            rintro _ w_26 ⟨rfl, hS36⟩
            have hS36 : ST w0 [] _ [⟨some ⟨b1, 0, none⟩, 57, [.int .i64 0, .int .i64 0, .int .i64 0, .int .i64 0, .slice none 0 0, .slice none 0 0], 6⟩, ⟨some ⟨b2, 0, none⟩, 57, [.int .i64 c.Qubits, .int .i64 (IntKind.i64.wrap (Vars + 1)), .int .i64 (IntKind.i64.wrap (Root + 1)), .int .i64 0, .slice none 0 0, .slice B3 Out.length c4], 6⟩, ⟨B3, 61, ((Out1.set x.A.toNat (TAffine.mk (shlK .i64 1 (IntKind.u64.wrap (IntKind.i64.wrap (c.Qubits + Vars)))) 0)).flatMap enc_Affine), c4 * 2⟩, ⟨some ⟨b5, 0, none⟩, 61, [.int .i64 0, .int .i64 1], 2⟩, ⟨some ⟨b6, 0, none⟩, 76, [.int .i64 x.Kind, .int .i64 x.A, .int .i64 x.B], 3⟩, ⟨B7, 61, [.int .i64 x1.Mask, .int .i64 x1.Turn], 2⟩, ⟨B8, 61, [.int .i64 x2.Mask, .int .i64 x2.Turn], 2⟩, ⟨some ⟨b9, 0, none⟩, 61, [.int .i64 (shlK .i64 1 (IntKind.u64.wrap (IntKind.i64.wrap (c.Qubits + Vars)))), .int .i64 0], 2⟩, ⟨some ⟨b3, 0, none⟩, 141, [.int .i64 m.phase, .slice B9 m.terms.length c8], 2⟩, ⟨B9, 136, (m.terms.flatMap enc_Term), c8 * 2⟩] [⟨B, (c.Gates.flatMap enc_Gate)⟩] := hS36
            refine rw_nil ?_
            exact ⟨(IntKind.i64.wrap (Vars + 1)), (IntKind.i64.wrap (Root + 1)), (Out1.set x.A.toNat (TAffine.mk (shlK .i64 1 (IntKind.u64.wrap (IntKind.i64.wrap (c.Qubits + Vars)))) 0)), m.phase, m.terms, B9, c8, (some_inj hF6), (FF.cons (hf3.get 2 0 rfl) (FF.cons (hf3.get 4 1 rfl) (FF.cons (hf3.get 5 2 rfl) (FF.cons (hf3.get 7 3 rfl) (FF.cons (hf3.get 35 7 rfl) (FF.cons (hf3.get 36 8 rfl) (FF.cons (hf3.get 37 9 rfl) FF.nil))))))), (set_len _ _ _ hl), (hS36.sel [0, 1, 2, 8, 9, 3] rfl rfl)⟩
        · skip
          have hF7 := cf' hz2 hb2
          refine cw_seq ?_
          refine cw_region ?_
          refine sq 97 rfl rfl (Y_eq (k := .i64) (a := x.Kind) (b := 2) rfl rfl rfl) ?_
          refine sq 96 rfl rfl (Y_assign (v := .bool (x.Kind == 2)) rfl rfl) ?_
          refine rw_nil ?_
          refine cw_cond (b := (x.Kind == 2)) rfl (fun hb4 => ?_) (fun hb4 => ?_)
          · skip
            have hF8 := ct hF7 hb4
            obtain ⟨r_2, hc1, hF8⟩ := bind_inv hF8
            obtain ⟨x4, hx4, hF8⟩ := bind_inv hF8
            refine ra_start (ST.sel hS18 [0, 1, 3, 4, 5, 6, 7, 8] rfl rfl).fn (by kernel_rfl) ?_
            have hS38 := hS18.drew
            refine ra_q 0 98 (v := pt (some ⟨b2, 0, none⟩) 5) rfl rfl rfl (by kernel_rfl) (by kernel_rfl) (by kernel_rfl) (ST.sel hS38 [0, 1, 3, 4, 5, 6, 7, 8] rfl rfl) (fun w' hw' => (Y_fieldAddr (B := some ⟨b2, 0, none⟩) (i := 0) (s := 0) k_fd_57_5_5_55 k_sz_55_1 rfl (hf3.get 4 1 rfl))) ?_
            refine ra_q 1 99 (v := .slice B3 Out.length c4) rfl rfl rfl (by kernel_rfl) (by kernel_rfl) (by kernel_rfl) (ST.sel hS38 [0, 1, 3, 4, 5, 6, 7, 8] rfl rfl) (fun w' hw' => (Y_load1 (B := some ⟨b2, 0, none⟩) (i := 5) (cs := [.int .i64 c.Qubits, .int .i64 Vars, .int .i64 Root, .int .i64 0, .slice none 0 0, .slice B3 Out.length c4]) (v := .slice B3 Out.length c4) k_sc_55 rfl rfl (ST.cf hw' (i := 1) rfl) rfl)) ?_
            refine ra_q 2 100 (v := pt (some ⟨b6, 0, none⟩) 1) rfl rfl rfl (by kernel_rfl) (by kernel_rfl) (by kernel_rfl) (ST.sel hS38 [0, 1, 3, 4, 5, 6, 7, 8] rfl rfl) (fun w' hw' => (Y_fieldAddr (B := some ⟨b6, 0, none⟩) (i := 0) (s := 0) k_fd_76_1_1_3 k_sz_3_1 rfl (hf3.get 9 4 rfl))) ?_
            refine ra_q 3 101 (v := .int .i64 x.A) rfl rfl rfl (by kernel_rfl) (by kernel_rfl) (by kernel_rfl) (ST.sel hS38 [0, 1, 3, 4, 5, 6, 7, 8] rfl rfl) (fun w' hw' => (Y_load1 (B := some ⟨b6, 0, none⟩) (i := 1) (cs := [.int .i64 x.Kind, .int .i64 x.A, .int .i64 x.B]) (v := .int .i64 x.A) k_sc_3 rfl rfl (ST.cf hw' (i := 5) rfl) rfl)) ?_
            refine ra_q 4 102 (v := .agg #[.int .i64 x1.Mask, .int .i64 x1.Turn]) rfl rfl rfl (by kernel_rfl) (by kernel_rfl) (by kernel_rfl) (ST.sel hS38 [0, 1, 3, 4, 5, 6, 7, 8] rfl rfl) (fun w' hw' => (Y_loadA (B := B7) (i := 0) (cs := [.int .i64 x1.Mask, .int .i64 x1.Turn]) (vs := [.int .i64 x1.Mask, .int .i64 x1.Turn]) k_ag_61 k_sz_61_2 rfl (hf3.get 10 5 rfl) (ST.cf hw' (i := 6) rfl) rfl rfl)) ?_
            refine ra_q 5 103 (v := .agg #[.int .i64 0, .int .i64 1]) rfl rfl rfl (by kernel_rfl) (by kernel_rfl) (by kernel_rfl) (ST.sel hS38 [0, 1, 3, 4, 5, 6, 7, 8] rfl rfl) (fun w' hw' => (Y_loadA (B := some ⟨b5, 0, none⟩) (i := 0) (cs := [.int .i64 0, .int .i64 1]) (vs := [.int .i64 0, .int .i64 1]) k_ag_61 k_sz_61_2 rfl (hf3.get 7 3 rfl) (ST.cf hw' (i := 4) rfl) rfl rfl)) ?_
            refine ra_all (rs := [6]) (by kernel_rfl) rfl ?_
            refine ra_c 104 (i := 6) rfl rfl rfl (Yc_func (g := 111) (vs := [.agg #[.int .i64 x1.Mask, .int .i64 x1.Turn], .agg #[.int .i64 0, .int .i64 1]]) k_call_111 rfl (mc rfl (mc rfl mn)) (c_spec_l21Xor x1 (TAffine.mk 0 1) _  (hS38.inn0 [] rfl) hc1)) ?_ ?_
            · rintro _ w_27 ⟨rfl, hd1⟩
              have hS39 := hS38.out00 hd1
              have hS39 : ST w0 [] _ [⟨some ⟨b1, 0, none⟩, 57, [.int .i64 0, .int .i64 0, .int .i64 0, .int .i64 0, .slice none 0 0, .slice none 0 0], 6⟩, ⟨some ⟨b2, 0, none⟩, 57, [.int .i64 c.Qubits, .int .i64 Vars, .int .i64 Root, .int .i64 0, .slice none 0 0, .slice B3 Out.length c4], 6⟩, ⟨B3, 61, (Out1.flatMap enc_Affine), c4 * 2⟩, ⟨some ⟨b3, 0, none⟩, 141, [.int .i64 phase, .slice B5 terms.length c6], 2⟩, ⟨B5, 136, (terms.flatMap enc_Term), c6 * 2⟩, ⟨some ⟨b5, 0, none⟩, 61, [.int .i64 0, .int .i64 1], 2⟩, ⟨some ⟨b6, 0, none⟩, 76, [.int .i64 x.Kind, .int .i64 x.A, .int .i64 x.B], 3⟩, ⟨B7, 61, [.int .i64 x1.Mask, .int .i64 x1.Turn], 2⟩, ⟨B8, 61, [.int .i64 x2.Mask, .int .i64 x2.Turn], 2⟩] [⟨B, (c.Gates.flatMap enc_Gate)⟩] := hS39
              refine ⟨(ST.sel hS39 [0, 1, 3, 4, 5, 6, 7, 8] rfl rfl), ?_⟩
              refine ra_all (rs := [7]) (by kernel_rfl) rfl ?_
              refine ra_y 105 (i := 7) (v := pt B3 (x.A.toNat * 2)) rfl rfl rfl (Y_index (B := B3) (m := Out.length) (c := c4) (k := .i64) (i := x.A) k_sl_55_61 k_sz_61_2 rfl rfl rfl (gi_isSome enc_Affine_len rfl (hS39.cf (i := 2) rfl) hx4) (getI_nn hx4) (getI_ltI hx4 hl)) (ST.sel hS39 [0, 1, 3, 4, 5, 6, 7, 8] rfl rfl) ?_ ?_
              · skip
                refine ra_all (rs := [8]) (by kernel_rfl) rfl ?_
                refine ra_s0 (i := 8) rfl rfl rfl (Ys_store (i := 2) (s := 2) (B := B3) (T' := 61) (v := .agg #[.int .i64 r_2.Mask, .int .i64 r_2.Turn]) (vs := [.int .i64 r_2.Mask, .int .i64 r_2.Turn]) (k := x.A.toNat * 2) (cs' := ((Out1.set x.A.toNat r_2).flatMap enc_Affine)) hS39 k_sz_61_2 rfl rfl rfl rfl rfl rfl rfl (gi_fit0 enc_Affine_len hx4) (gi_set enc_Affine_len hx4 r_2 rfl) rfl) ?_ ?_
                · rintro _ w_28 ⟨rfl, hS40⟩
                  have hS40 : ST w0 [] _ [⟨some ⟨b1, 0, none⟩, 57, [.int .i64 0, .int .i64 0, .int .i64 0, .int .i64 0, .slice none 0 0, .slice none 0 0], 6⟩, ⟨some ⟨b2, 0, none⟩, 57, [.int .i64 c.Qubits, .int .i64 Vars, .int .i64 Root, .int .i64 0, .slice none 0 0, .slice B3 Out.length c4], 6⟩, ⟨B3, 61, ((Out1.set x.A.toNat r_2).flatMap enc_Affine), c4 * 2⟩, ⟨some ⟨b3, 0, none⟩, 141, [.int .i64 phase, .slice B5 terms.length c6], 2⟩, ⟨B5, 136, (terms.flatMap enc_Term), c6 * 2⟩, ⟨some ⟨b5, 0, none⟩, 61, [.int .i64 0, .int .i64 1], 2⟩, ⟨some ⟨b6, 0, none⟩, 76, [.int .i64 x.Kind, .int .i64 x.A, .int .i64 x.B], 3⟩, ⟨B7, 61, [.int .i64 x1.Mask, .int .i64 x1.Turn], 2⟩, ⟨B8, 61, [.int .i64 x2.Mask, .int .i64 x2.Turn], 2⟩] [⟨B, (c.Gates.flatMap enc_Gate)⟩] := hS40
                  refine ⟨(ST.sel hS40 [0, 1, 3, 4, 5, 6, 7, 8] rfl rfl), ?_⟩
                  refine ra_done (by kernel_rfl) ?_
                  exact ⟨Vars, Root, (Out1.set x.A.toNat r_2), phase, terms, B5, c6, (some_inj hF8), (FF.cons (hf3.get 2 0 rfl) (FF.cons (hf3.get 4 1 rfl) (FF.cons (hf3.get 5 2 rfl) (FF.cons (hf3.get 7 3 rfl) (FF.cons (hf3.get 35 7 rfl) (FF.cons (hf3.get 36 8 rfl) (FF.cons (hf3.get 37 9 rfl) FF.nil))))))), (set_len _ _ _ hl), (hS40.sel [0, 1, 2, 3, 4, 5] rfl rfl)⟩
                exact allR_nil
              exact allR_nil
            exact allR_nil
          · skip
            have hF9 := cf' hF7 hb4
            refine cw_seq ?_
            refine cw_region ?_
            refine sq 107 rfl rfl (Y_eq (k := .i64) (a := x.Kind) (b := 3) rfl rfl rfl) ?_
            refine sq 106 rfl rfl (Y_assign (v := .bool (x.Kind == 3)) rfl rfl) ?_
            refine rw_nil ?_
            refine cw_cond (b := (x.Kind == 3)) rfl (fun hb5 => ?_) (fun hb5 => ?_)
            · skip
              have hF10 := ct hF9 hb5
              refine cw_seq ?_
              refine cw_region ?_
              refine sq 108 rfl rfl (Y_move (v := pt (some ⟨b3, 0, none⟩) 0) rfl (hf3.get 5 2 rfl)) ?_
              obtain ⟨m1, hc2, hF10⟩ := bind_inv hF10
              refine sc 109 rfl rfl (Yc_func (g := 97) (vs := [pt (some ⟨b3, 0, none⟩) 0, .int .i64 0, .int .i64 2]) k_call_97 rfl (mc rfl (mc rfl (mc rfl mn))) (c_spec_l21Sum_add (Tl21Sum.mk phase terms) 0 2 (some ⟨b3, 0, none⟩) B5 c6 terms.length _ rfl (hS18.lencap (i := 4) rfl (fm_lenn (l := terms) enc_Term_len rfl) rfl rfl) (hS18.inn [false, false, false, true, true, false, false, false, false] rfl [] rfl) hc2)) ?_
              rintro _ w_29 ⟨B10, c9, rfl, hd2⟩
              have hS41 := hS18.out [false, false, false, true, true, false, false, false, false] rfl hd2
              have hS41 : ST w0 [] _ [⟨some ⟨b1, 0, none⟩, 57, [.int .i64 0, .int .i64 0, .int .i64 0, .int .i64 0, .slice none 0 0, .slice none 0 0], 6⟩, ⟨some ⟨b2, 0, none⟩, 57, [.int .i64 c.Qubits, .int .i64 Vars, .int .i64 Root, .int .i64 0, .slice none 0 0, .slice B3 Out.length c4], 6⟩, ⟨B3, 61, (Out1.flatMap enc_Affine), c4 * 2⟩, ⟨some ⟨b5, 0, none⟩, 61, [.int .i64 0, .int .i64 1], 2⟩, ⟨some ⟨b6, 0, none⟩, 76, [.int .i64 x.Kind, .int .i64 x.A, .int .i64 x.B], 3⟩, ⟨B7, 61, [.int .i64 x1.Mask, .int .i64 x1.Turn], 2⟩, ⟨B8, 61, [.int .i64 x2.Mask, .int .i64 x2.Turn], 2⟩, ⟨some ⟨b3, 0, none⟩, 141, [.int .i64 m1.phase, .slice B10 m1.terms.length c9], 2⟩, ⟨B10, 136, (m1.terms.flatMap enc_Term), c9 * 2⟩] [⟨B, (c.Gates.flatMap enc_Gate)⟩] := hS41
              refine rw_nil ?_
              refine cw_seq ?_
              refine cw_region ?_
              refine sq 110 rfl rfl (Y_move (v := pt (some ⟨b3, 0, none⟩) 0) rfl (hf3.get 5 2 rfl)) ?_
              refine sq 111 rfl rfl (Y_loadA (B := B7) (i := 0) (cs := [.int .i64 x1.Mask, .int .i64 x1.Turn]) (vs := [.int .i64 x1.Mask, .int .i64 x1.Turn]) k_ag_61 k_sz_61_2 rfl (hf3.get 10 5 rfl) (hS41.cf (i := 5) rfl) rfl rfl) ?_
              obtain ⟨m2, hc3, hF10⟩ := bind_inv hF10
              refine sc 112 rfl rfl (Yc_func (g := 99) (vs := [pt (some ⟨b3, 0, none⟩) 0, .int .i64 0, .int .i64 4, .agg #[.int .i64 x1.Mask, .int .i64 x1.Turn]]) k_call_99 rfl (mc rfl (mc rfl (mc rfl (mc rfl mn)))) (c_spec_l21Sum_times m1 0 4 x1 (some ⟨b3, 0, none⟩) B10 c9 m1.terms.length _ rfl (hS41.inn [false, false, false, false, false, false, false, true, true] rfl [] rfl) hc3)) ?_
              rintro _ w_30 ⟨B11, c10, rfl, hd3⟩
              have hS42 := hS41.out [false, false, false, false, false, false, false, true, true] rfl hd3
              have hS42 : ST w0 [] _ [⟨some ⟨b1, 0, none⟩, 57, [.int .i64 0, .int .i64 0, .int .i64 0, .int .i64 0, .slice none 0 0, .slice none 0 0], 6⟩, ⟨some ⟨b2, 0, none⟩, 57, [.int .i64 c.Qubits, .int .i64 Vars, .int .i64 Root, .int .i64 0, .slice none 0 0, .slice B3 Out.length c4], 6⟩, ⟨B3, 61, (Out1.flatMap enc_Affine), c4 * 2⟩, ⟨some ⟨b5, 0, none⟩, 61, [.int .i64 0, .int .i64 1], 2⟩, ⟨some ⟨b6, 0, none⟩, 76, [.int .i64 x.Kind, .int .i64 x.A, .int .i64 x.B], 3⟩, ⟨B7, 61, [.int .i64 x1.Mask, .int .i64 x1.Turn], 2⟩, ⟨B8, 61, [.int .i64 x2.Mask, .int .i64 x2.Turn], 2⟩, ⟨some ⟨b3, 0, none⟩, 141, [.int .i64 m2.phase, .slice B11 m2.terms.length c10], 2⟩, ⟨B11, 136, (m2.terms.flatMap enc_Term), c10 * 2⟩] [⟨B, (c.Gates.flatMap enc_Gate)⟩] := hS42
              refine rw_nil ?_
              obtain ⟨r_3, hc4, hF10⟩ := bind_inv hF10
              obtain ⟨x5, hx5, hF10⟩ := bind_inv hF10
              refine ra_start (ST.sel hS42 [0, 1, 3, 4, 5, 6, 7, 8] rfl rfl).fn (by kernel_rfl) ?_
              have hS44 := hS42.drew
              refine ra_q 0 113 (v := pt (some ⟨b2, 0, none⟩) 5) rfl rfl rfl (by kernel_rfl) (by kernel_rfl) (by kernel_rfl) (ST.sel hS44 [0, 1, 3, 4, 5, 6, 7, 8] rfl rfl) (fun w' hw' => (Y_fieldAddr (B := some ⟨b2, 0, none⟩) (i := 0) (s := 0) k_fd_57_5_5_55 k_sz_55_1 rfl (hf3.get 4 1 rfl))) ?_
              refine ra_q 1 114 (v := .slice B3 Out.length c4) rfl rfl rfl (by kernel_rfl) (by kernel_rfl) (by kernel_rfl) (ST.sel hS44 [0, 1, 3, 4, 5, 6, 7, 8] rfl rfl) (fun w' hw' => (Y_load1 (B := some ⟨b2, 0, none⟩) (i := 5) (cs := [.int .i64 c.Qubits, .int .i64 Vars, .int .i64 Root, .int .i64 0, .slice none 0 0, .slice B3 Out.length c4]) (v := .slice B3 Out.length c4) k_sc_55 rfl rfl (ST.cf hw' (i := 1) rfl) rfl)) ?_
              refine ra_q 2 115 (v := pt (some ⟨b6, 0, none⟩) 1) rfl rfl rfl (by kernel_rfl) (by kernel_rfl) (by kernel_rfl) (ST.sel hS44 [0, 1, 3, 4, 5, 6, 7, 8] rfl rfl) (fun w' hw' => (Y_fieldAddr (B := some ⟨b6, 0, none⟩) (i := 0) (s := 0) k_fd_76_1_1_3 k_sz_3_1 rfl (hf3.get 9 4 rfl))) ?_
              refine ra_q 3 116 (v := .int .i64 x.A) rfl rfl rfl (by kernel_rfl) (by kernel_rfl) (by kernel_rfl) (ST.sel hS44 [0, 1, 3, 4, 5, 6, 7, 8] rfl rfl) (fun w' hw' => (Y_load1 (B := some ⟨b6, 0, none⟩) (i := 1) (cs := [.int .i64 x.Kind, .int .i64 x.A, .int .i64 x.B]) (v := .int .i64 x.A) k_sc_3 rfl rfl (ST.cf hw' (i := 3) rfl) rfl)) ?_
              refine ra_q 4 117 (v := .agg #[.int .i64 x1.Mask, .int .i64 x1.Turn]) rfl rfl rfl (by kernel_rfl) (by kernel_rfl) (by kernel_rfl) (ST.sel hS44 [0, 1, 3, 4, 5, 6, 7, 8] rfl rfl) (fun w' hw' => (Y_loadA (B := B7) (i := 0) (cs := [.int .i64 x1.Mask, .int .i64 x1.Turn]) (vs := [.int .i64 x1.Mask, .int .i64 x1.Turn]) k_ag_61 k_sz_61_2 rfl (hf3.get 10 5 rfl) (ST.cf hw' (i := 4) rfl) rfl rfl)) ?_
              refine ra_q 5 118 (v := .agg #[.int .i64 0, .int .i64 1]) rfl rfl rfl (by kernel_rfl) (by kernel_rfl) (by kernel_rfl) (ST.sel hS44 [0, 1, 3, 4, 5, 6, 7, 8] rfl rfl) (fun w' hw' => (Y_loadA (B := some ⟨b5, 0, none⟩) (i := 0) (cs := [.int .i64 0, .int .i64 1]) (vs := [.int .i64 0, .int .i64 1]) k_ag_61 k_sz_61_2 rfl (hf3.get 7 3 rfl) (ST.cf hw' (i := 2) rfl) rfl rfl)) ?_
              refine ra_all (rs := [6]) (by kernel_rfl) rfl ?_
              refine ra_c 119 (i := 6) rfl rfl rfl (Yc_func (g := 111) (vs := [.agg #[.int .i64 x1.Mask, .int .i64 x1.Turn], .agg #[.int .i64 0, .int .i64 1]]) k_call_111 rfl (mc rfl (mc rfl mn)) (c_spec_l21Xor x1 (TAffine.mk 0 1) _  (hS44.inn0 [] rfl) hc4)) ?_ ?_
              · rintro _ w_31 ⟨rfl, hd4⟩
                have hS45 := hS44.out00 hd4
                have hS45 : ST w0 [] _ [⟨some ⟨b1, 0, none⟩, 57, [.int .i64 0, .int .i64 0, .int .i64 0, .int .i64 0, .slice none 0 0, .slice none 0 0], 6⟩, ⟨some ⟨b2, 0, none⟩, 57, [.int .i64 c.Qubits, .int .i64 Vars, .int .i64 Root, .int .i64 0, .slice none 0 0, .slice B3 Out.length c4], 6⟩, ⟨B3, 61, (Out1.flatMap enc_Affine), c4 * 2⟩, ⟨some ⟨b5, 0, none⟩, 61, [.int .i64 0, .int .i64 1], 2⟩, ⟨some ⟨b6, 0, none⟩, 76, [.int .i64 x.Kind, .int .i64 x.A, .int .i64 x.B], 3⟩, ⟨B7, 61, [.int .i64 x1.Mask, .int .i64 x1.Turn], 2⟩, ⟨B8, 61, [.int .i64 x2.Mask, .int .i64 x2.Turn], 2⟩, ⟨some ⟨b3, 0, none⟩, 141, [.int .i64 m2.phase, .slice B11 m2.terms.length c10], 2⟩, ⟨B11, 136, (m2.terms.flatMap enc_Term), c10 * 2⟩] [⟨B, (c.Gates.flatMap enc_Gate)⟩] := hS45
                refine ⟨(ST.sel hS45 [0, 1, 3, 4, 5, 6, 7, 8] rfl rfl), ?_⟩
                refine ra_all (rs := [7]) (by kernel_rfl) rfl ?_
                refine ra_y 120 (i := 7) (v := pt B3 (x.A.toNat * 2)) rfl rfl rfl (Y_index (B := B3) (m := Out.length) (c := c4) (k := .i64) (i := x.A) k_sl_55_61 k_sz_61_2 rfl rfl rfl (gi_isSome enc_Affine_len rfl (hS45.cf (i := 2) rfl) hx5) (getI_nn hx5) (getI_ltI hx5 hl)) (ST.sel hS45 [0, 1, 3, 4, 5, 6, 7, 8] rfl rfl) ?_ ?_
                · skip
                  refine ra_all (rs := [8]) (by kernel_rfl) rfl ?_
                  refine ra_s0 (i := 8) rfl rfl rfl (Ys_store (i := 2) (s := 2) (B := B3) (T' := 61) (v := .agg #[.int .i64 r_3.Mask, .int .i64 r_3.Turn]) (vs := [.int .i64 r_3.Mask, .int .i64 r_3.Turn]) (k := x.A.toNat * 2) (cs' := ((Out1.set x.A.toNat r_3).flatMap enc_Affine)) hS45 k_sz_61_2 rfl rfl rfl rfl rfl rfl rfl (gi_fit0 enc_Affine_len hx5) (gi_set enc_Affine_len hx5 r_3 rfl) rfl) ?_ ?_
                  · rintro _ w_32 ⟨rfl, hS46⟩
                    have hS46 : ST w0 [] _ [⟨some ⟨b1, 0, none⟩, 57, [.int .i64 0, .int .i64 0, .int .i64 0, .int .i64 0, .slice none 0 0, .slice none 0 0], 6⟩, ⟨some ⟨b2, 0, none⟩, 57, [.int .i64 c.Qubits, .int .i64 Vars, .int .i64 Root, .int .i64 0, .slice none 0 0, .slice B3 Out.length c4], 6⟩, ⟨B3, 61, ((Out1.set x.A.toNat r_3).flatMap enc_Affine), c4 * 2⟩, ⟨some ⟨b5, 0, none⟩, 61, [.int .i64 0, .int .i64 1], 2⟩, ⟨some ⟨b6, 0, none⟩, 76, [.int .i64 x.Kind, .int .i64 x.A, .int .i64 x.B], 3⟩, ⟨B7, 61, [.int .i64 x1.Mask, .int .i64 x1.Turn], 2⟩, ⟨B8, 61, [.int .i64 x2.Mask, .int .i64 x2.Turn], 2⟩, ⟨some ⟨b3, 0, none⟩, 141, [.int .i64 m2.phase, .slice B11 m2.terms.length c10], 2⟩, ⟨B11, 136, (m2.terms.flatMap enc_Term), c10 * 2⟩] [⟨B, (c.Gates.flatMap enc_Gate)⟩] := hS46
                    refine ⟨(ST.sel hS46 [0, 1, 3, 4, 5, 6, 7, 8] rfl rfl), ?_⟩
                    refine ra_done (by kernel_rfl) ?_
                    exact ⟨Vars, Root, (Out1.set x.A.toNat r_3), m2.phase, m2.terms, B11, c10, (some_inj hF10), (FF.cons (hf3.get 2 0 rfl) (FF.cons (hf3.get 4 1 rfl) (FF.cons (hf3.get 5 2 rfl) (FF.cons (hf3.get 7 3 rfl) (FF.cons (hf3.get 35 7 rfl) (FF.cons (hf3.get 36 8 rfl) (FF.cons (hf3.get 37 9 rfl) FF.nil))))))), (set_len _ _ _ hl), (hS46.sel [0, 1, 2, 7, 8, 3] rfl rfl)⟩
                  exact allR_nil
                exact allR_nil
              exact allR_nil
            · skip
              have hF11 := cf' hF9 hb5
              refine cw_seq ?_
              refine cw_region ?_
              refine sq 122 rfl rfl (Y_eq (k := .i64) (a := x.Kind) (b := 9) rfl rfl rfl) ?_
              refine sq 121 rfl rfl (Y_assign (v := .bool (x.Kind == 9)) rfl rfl) ?_
              refine rw_nil ?_
              refine cw_cond (b := (x.Kind == 9)) rfl (fun hb6 => ?_) (fun hb6 => ?_)
              · skip
                have hF12 := ct hF11 hb6
                obtain ⟨r_4, hc5, hF12⟩ := bind_inv hF12
                obtain ⟨x6, hx6, hF12⟩ := bind_inv hF12
                refine ra_start (ST.sel hS18 [0, 1, 3, 4, 5, 6, 7, 8] rfl rfl).fn (by kernel_rfl) ?_
                have hS48 := hS18.drew
                refine ra_q 0 123 (v := pt (some ⟨b2, 0, none⟩) 5) rfl rfl rfl (by kernel_rfl) (by kernel_rfl) (by kernel_rfl) (ST.sel hS48 [0, 1, 3, 4, 5, 6, 7, 8] rfl rfl) (fun w' hw' => (Y_fieldAddr (B := some ⟨b2, 0, none⟩) (i := 0) (s := 0) k_fd_57_5_5_55 k_sz_55_1 rfl (hf3.get 4 1 rfl))) ?_
                refine ra_q 1 124 (v := .slice B3 Out.length c4) rfl rfl rfl (by kernel_rfl) (by kernel_rfl) (by kernel_rfl) (ST.sel hS48 [0, 1, 3, 4, 5, 6, 7, 8] rfl rfl) (fun w' hw' => (Y_load1 (B := some ⟨b2, 0, none⟩) (i := 5) (cs := [.int .i64 c.Qubits, .int .i64 Vars, .int .i64 Root, .int .i64 0, .slice none 0 0, .slice B3 Out.length c4]) (v := .slice B3 Out.length c4) k_sc_55 rfl rfl (ST.cf hw' (i := 1) rfl) rfl)) ?_
                refine ra_q 2 125 (v := pt (some ⟨b6, 0, none⟩) 2) rfl rfl rfl (by kernel_rfl) (by kernel_rfl) (by kernel_rfl) (ST.sel hS48 [0, 1, 3, 4, 5, 6, 7, 8] rfl rfl) (fun w' hw' => (Y_fieldAddr (B := some ⟨b6, 0, none⟩) (i := 0) (s := 0) k_fd_76_2_2_3 k_sz_3_1 rfl (hf3.get 9 4 rfl))) ?_
                refine ra_q 3 126 (v := .int .i64 x.B) rfl rfl rfl (by kernel_rfl) (by kernel_rfl) (by kernel_rfl) (ST.sel hS48 [0, 1, 3, 4, 5, 6, 7, 8] rfl rfl) (fun w' hw' => (Y_load1 (B := some ⟨b6, 0, none⟩) (i := 2) (cs := [.int .i64 x.Kind, .int .i64 x.A, .int .i64 x.B]) (v := .int .i64 x.B) k_sc_3 rfl rfl (ST.cf hw' (i := 5) rfl) rfl)) ?_
                refine ra_q 4 127 (v := .agg #[.int .i64 x1.Mask, .int .i64 x1.Turn]) rfl rfl rfl (by kernel_rfl) (by kernel_rfl) (by kernel_rfl) (ST.sel hS48 [0, 1, 3, 4, 5, 6, 7, 8] rfl rfl) (fun w' hw' => (Y_loadA (B := B7) (i := 0) (cs := [.int .i64 x1.Mask, .int .i64 x1.Turn]) (vs := [.int .i64 x1.Mask, .int .i64 x1.Turn]) k_ag_61 k_sz_61_2 rfl (hf3.get 10 5 rfl) (ST.cf hw' (i := 6) rfl) rfl rfl)) ?_
                refine ra_q 5 128 (v := .agg #[.int .i64 x2.Mask, .int .i64 x2.Turn]) rfl rfl rfl (by kernel_rfl) (by kernel_rfl) (by kernel_rfl) (ST.sel hS48 [0, 1, 3, 4, 5, 6, 7, 8] rfl rfl) (fun w' hw' => (Y_loadA (B := B8) (i := 0) (cs := [.int .i64 x2.Mask, .int .i64 x2.Turn]) (vs := [.int .i64 x2.Mask, .int .i64 x2.Turn]) k_ag_61 k_sz_61_2 rfl (hf3.get 11 6 rfl) (ST.cf hw' (i := 7) rfl) rfl rfl)) ?_
                refine ra_all (rs := [6]) (by kernel_rfl) rfl ?_
                refine ra_c 129 (i := 6) rfl rfl rfl (Yc_func (g := 111) (vs := [.agg #[.int .i64 x1.Mask, .int .i64 x1.Turn], .agg #[.int .i64 x2.Mask, .int .i64 x2.Turn]]) k_call_111 rfl (mc rfl (mc rfl mn)) (c_spec_l21Xor x1 x2 _  (hS48.inn0 [] rfl) hc5)) ?_ ?_
                · rintro _ w_33 ⟨rfl, hd5⟩
                  have hS49 := hS48.out00 hd5
                  have hS49 : ST w0 [] _ [⟨some ⟨b1, 0, none⟩, 57, [.int .i64 0, .int .i64 0, .int .i64 0, .int .i64 0, .slice none 0 0, .slice none 0 0], 6⟩, ⟨some ⟨b2, 0, none⟩, 57, [.int .i64 c.Qubits, .int .i64 Vars, .int .i64 Root, .int .i64 0, .slice none 0 0, .slice B3 Out.length c4], 6⟩, ⟨B3, 61, (Out1.flatMap enc_Affine), c4 * 2⟩, ⟨some ⟨b3, 0, none⟩, 141, [.int .i64 phase, .slice B5 terms.length c6], 2⟩, ⟨B5, 136, (terms.flatMap enc_Term), c6 * 2⟩, ⟨some ⟨b5, 0, none⟩, 61, [.int .i64 0, .int .i64 1], 2⟩, ⟨some ⟨b6, 0, none⟩, 76, [.int .i64 x.Kind, .int .i64 x.A, .int .i64 x.B], 3⟩, ⟨B7, 61, [.int .i64 x1.Mask, .int .i64 x1.Turn], 2⟩, ⟨B8, 61, [.int .i64 x2.Mask, .int .i64 x2.Turn], 2⟩] [⟨B, (c.Gates.flatMap enc_Gate)⟩] := hS49
                  refine ⟨(ST.sel hS49 [0, 1, 3, 4, 5, 6, 7, 8] rfl rfl), ?_⟩
                  refine ra_all (rs := [7]) (by kernel_rfl) rfl ?_
                  refine ra_y 130 (i := 7) (v := pt B3 (x.B.toNat * 2)) rfl rfl rfl (Y_index (B := B3) (m := Out.length) (c := c4) (k := .i64) (i := x.B) k_sl_55_61 k_sz_61_2 rfl rfl rfl (gi_isSome enc_Affine_len rfl (hS49.cf (i := 2) rfl) hx6) (getI_nn hx6) (getI_ltI hx6 hl)) (ST.sel hS49 [0, 1, 3, 4, 5, 6, 7, 8] rfl rfl) ?_ ?_
                  · skip
                    refine ra_all (rs := [8]) (by kernel_rfl) rfl ?_
                    refine ra_s0 (i := 8) rfl rfl rfl (Ys_store (i := 2) (s := 2) (B := B3) (T' := 61) (v := .agg #[.int .i64 r_4.Mask, .int .i64 r_4.Turn]) (vs := [.int .i64 r_4.Mask, .int .i64 r_4.Turn]) (k := x.B.toNat * 2) (cs' := ((Out1.set x.B.toNat r_4).flatMap enc_Affine)) hS49 k_sz_61_2 rfl rfl rfl rfl rfl rfl rfl (gi_fit0 enc_Affine_len hx6) (gi_set enc_Affine_len hx6 r_4 rfl) rfl) ?_ ?_
                    · rintro _ w_34 ⟨rfl, hS50⟩
                      have hS50 : ST w0 [] _ [⟨some ⟨b1, 0, none⟩, 57, [.int .i64 0, .int .i64 0, .int .i64 0, .int .i64 0, .slice none 0 0, .slice none 0 0], 6⟩, ⟨some ⟨b2, 0, none⟩, 57, [.int .i64 c.Qubits, .int .i64 Vars, .int .i64 Root, .int .i64 0, .slice none 0 0, .slice B3 Out.length c4], 6⟩, ⟨B3, 61, ((Out1.set x.B.toNat r_4).flatMap enc_Affine), c4 * 2⟩, ⟨some ⟨b3, 0, none⟩, 141, [.int .i64 phase, .slice B5 terms.length c6], 2⟩, ⟨B5, 136, (terms.flatMap enc_Term), c6 * 2⟩, ⟨some ⟨b5, 0, none⟩, 61, [.int .i64 0, .int .i64 1], 2⟩, ⟨some ⟨b6, 0, none⟩, 76, [.int .i64 x.Kind, .int .i64 x.A, .int .i64 x.B], 3⟩, ⟨B7, 61, [.int .i64 x1.Mask, .int .i64 x1.Turn], 2⟩, ⟨B8, 61, [.int .i64 x2.Mask, .int .i64 x2.Turn], 2⟩] [⟨B, (c.Gates.flatMap enc_Gate)⟩] := hS50
                      refine ⟨(ST.sel hS50 [0, 1, 3, 4, 5, 6, 7, 8] rfl rfl), ?_⟩
                      refine ra_done (by kernel_rfl) ?_
                      exact ⟨Vars, Root, (Out1.set x.B.toNat r_4), phase, terms, B5, c6, (some_inj hF12), (FF.cons (hf3.get 2 0 rfl) (FF.cons (hf3.get 4 1 rfl) (FF.cons (hf3.get 5 2 rfl) (FF.cons (hf3.get 7 3 rfl) (FF.cons (hf3.get 35 7 rfl) (FF.cons (hf3.get 36 8 rfl) (FF.cons (hf3.get 37 9 rfl) FF.nil))))))), (set_len _ _ _ hl), (hS50.sel [0, 1, 2, 3, 4, 5] rfl rfl)⟩
                    exact allR_nil
                  exact allR_nil
                exact allR_nil
              · skip
                have hF13 := cf' hF11 hb6
                refine cw_seq ?_
                refine cw_region ?_
                refine sq 132 rfl rfl (Y_eq (k := .i64) (a := x.Kind) (b := 10) rfl rfl rfl) ?_
                refine sq 131 rfl rfl (Y_assign (v := .bool (x.Kind == 10)) rfl rfl) ?_
                refine rw_nil ?_
                refine cw_cond (b := (x.Kind == 10)) rfl (fun hb7 => ?_) (fun hb7 => ?_)
                · skip
                  have hF14 := ct hF13 hb7
                  refine cw_region ?_
                  refine sq 133 rfl rfl (Y_move (v := pt (some ⟨b3, 0, none⟩) 0) rfl (hf3.get 5 2 rfl)) ?_
                  refine sq 134 rfl rfl (Y_loadA (B := B7) (i := 0) (cs := [.int .i64 x1.Mask, .int .i64 x1.Turn]) (vs := [.int .i64 x1.Mask, .int .i64 x1.Turn]) k_ag_61 k_sz_61_2 rfl (hf3.get 10 5 rfl) (hS18.cf (i := 7) rfl) rfl rfl) ?_
                  refine sq 135 rfl rfl (Y_loadA (B := B8) (i := 0) (cs := [.int .i64 x2.Mask, .int .i64 x2.Turn]) (vs := [.int .i64 x2.Mask, .int .i64 x2.Turn]) k_ag_61 k_sz_61_2 rfl (hf3.get 11 6 rfl) (hS18.cf (i := 8) rfl) rfl rfl) ?_
                  obtain ⟨m3, hc6, hF14⟩ := bind_inv hF14
                  refine sc 136 rfl rfl (Yc_func (g := 110) (vs := [pt (some ⟨b3, 0, none⟩) 0, .agg #[.int .i64 x1.Mask, .int .i64 x1.Turn], .agg #[.int .i64 x2.Mask, .int .i64 x2.Turn]]) k_call_110 rfl (mc rfl (mc rfl (mc rfl mn))) (c_spec_l21Sum_product (Tl21Sum.mk phase terms) x1 x2 (some ⟨b3, 0, none⟩) B5 c6 terms.length _ rfl (hS18.inn [false, false, false, true, true, false, false, false, false] rfl [] rfl) hc6)) ?_
                  rintro _ w_35 ⟨B12, c11, rfl, hd6⟩
                  have hS51 := hS18.out [false, false, false, true, true, false, false, false, false] rfl hd6
                  have hS51 : ST w0 [] _ [⟨some ⟨b1, 0, none⟩, 57, [.int .i64 0, .int .i64 0, .int .i64 0, .int .i64 0, .slice none 0 0, .slice none 0 0], 6⟩, ⟨some ⟨b2, 0, none⟩, 57, [.int .i64 c.Qubits, .int .i64 Vars, .int .i64 Root, .int .i64 0, .slice none 0 0, .slice B3 Out.length c4], 6⟩, ⟨B3, 61, (Out1.flatMap enc_Affine), c4 * 2⟩, ⟨some ⟨b5, 0, none⟩, 61, [.int .i64 0, .int .i64 1], 2⟩, ⟨some ⟨b6, 0, none⟩, 76, [.int .i64 x.Kind, .int .i64 x.A, .int .i64 x.B], 3⟩, ⟨B7, 61, [.int .i64 x1.Mask, .int .i64 x1.Turn], 2⟩, ⟨B8, 61, [.int .i64 x2.Mask, .int .i64 x2.Turn], 2⟩, ⟨some ⟨b3, 0, none⟩, 141, [.int .i64 m3.phase, .slice B12 m3.terms.length c11], 2⟩, ⟨B12, 136, (m3.terms.flatMap enc_Term), c11 * 2⟩] [⟨B, (c.Gates.flatMap enc_Gate)⟩] := hS51
                  refine rw_nil ?_
                  exact ⟨Vars, Root, Out1, m3.phase, m3.terms, B12, c11, (some_inj hF14), (FF.cons (hf3.get 2 0 rfl) (FF.cons (hf3.get 4 1 rfl) (FF.cons (hf3.get 5 2 rfl) (FF.cons (hf3.get 7 3 rfl) (FF.cons (hf3.get 35 7 rfl) (FF.cons (hf3.get 36 8 rfl) (FF.cons (hf3.get 37 9 rfl) FF.nil))))))), hl, (hS51.sel [0, 1, 2, 7, 8, 3] rfl rfl)⟩
                · skip
                  have hF15 := cf' hF13 hb7
                  refine cw_seq ?_
                  refine cw_region ?_
                  refine sq 138 rfl rfl (Y_eq (k := .i64) (a := x.Kind) (b := 11) rfl rfl rfl) ?_
                  refine sq 137 rfl rfl (Y_assign (v := .bool (x.Kind == 11)) rfl rfl) ?_
                  refine rw_nil ?_
                  refine cw_cond (b := (x.Kind == 11)) rfl (fun hb8 => ?_) (fun hb8 => ?_)
                  · skip
                    have hF16 := ct hF15 hb8
                    refine cw_seq ?_
                    refine cw_region ?_
                    refine sq 139 rfl rfl (Y_fieldAddr (B := some ⟨b2, 0, none⟩) (i := 0) (s := 0) k_fd_57_5_5_55 k_sz_55_1 rfl (hf3.get 4 1 rfl)) ?_
                    refine sq 140 rfl rfl (Y_load1 (B := some ⟨b2, 0, none⟩) (i := 5) (cs := [.int .i64 c.Qubits, .int .i64 Vars, .int .i64 Root, .int .i64 0, .slice none 0 0, .slice B3 Out.length c4]) (v := .slice B3 Out.length c4) k_sc_55 rfl rfl (hS18.cf (i := 1) rfl) rfl) ?_
                    refine sq 141 rfl rfl (Y_fieldAddr (B := some ⟨b6, 0, none⟩) (i := 0) (s := 0) k_fd_76_1_1_3 k_sz_3_1 rfl (hf3.get 9 4 rfl)) ?_
                    refine sq 142 rfl rfl (Y_load1 (B := some ⟨b6, 0, none⟩) (i := 1) (cs := [.int .i64 x.Kind, .int .i64 x.A, .int .i64 x.B]) (v := .int .i64 x.A) k_sc_3 rfl rfl (hS18.cf (i := 6) rfl) rfl) ?_
                    refine sq 143 rfl rfl (Y_loadA (B := B8) (i := 0) (cs := [.int .i64 x2.Mask, .int .i64 x2.Turn]) (vs := [.int .i64 x2.Mask, .int .i64 x2.Turn]) k_ag_61 k_sz_61_2 rfl (hf3.get 11 6 rfl) (hS18.cf (i := 8) rfl) rfl rfl) ?_
                    obtain ⟨x7, hx7, hF16⟩ := bind_inv hF16
                    refine sq 144 rfl rfl (Y_index (B := B3) (m := Out.length) (c := c4) (k := .i64) (i := x.A) k_sl_55_61 k_sz_61_2 rfl rfl rfl (gi_isSome enc_Affine_len rfl (hS18.cf (i := 2) rfl) hx7) (getI_nn hx7) (getI_ltI hx7 hl)) ?_
                    refine ss0 rfl rfl (Ys_store (i := 2) (s := 2) (B := B3) (T' := 61) (v := .agg #[.int .i64 x2.Mask, .int .i64 x2.Turn]) (vs := [.int .i64 x2.Mask, .int .i64 x2.Turn]) (k := x.A.toNat * 2) (cs' := ((Out1.set x.A.toNat x2).flatMap enc_Affine)) hS18 k_sz_61_2 rfl rfl rfl rfl rfl rfl rfl (gi_fit0 enc_Affine_len hx7) (gi_set enc_Affine_len hx7 x2 rfl) rfl) ?_
                    rintro _ w_36 ⟨rfl, hS52⟩
                    have hS52 : ST w0 [] _ [⟨some ⟨b1, 0, none⟩, 57, [.int .i64 0, .int .i64 0, .int .i64 0, .int .i64 0, .slice none 0 0, .slice none 0 0], 6⟩, ⟨some ⟨b2, 0, none⟩, 57, [.int .i64 c.Qubits, .int .i64 Vars, .int .i64 Root, .int .i64 0, .slice none 0 0, .slice B3 Out.length c4], 6⟩, ⟨B3, 61, ((Out1.set x.A.toNat x2).flatMap enc_Affine), c4 * 2⟩, ⟨some ⟨b3, 0, none⟩, 141, [.int .i64 phase, .slice B5 terms.length c6], 2⟩, ⟨B5, 136, (terms.flatMap enc_Term), c6 * 2⟩, ⟨some ⟨b5, 0, none⟩, 61, [.int .i64 0, .int .i64 1], 2⟩, ⟨some ⟨b6, 0, none⟩, 76, [.int .i64 x.Kind, .int .i64 x.A, .int .i64 x.B], 3⟩, ⟨B7, 61, [.int .i64 x1.Mask, .int .i64 x1.Turn], 2⟩, ⟨B8, 61, [.int .i64 x2.Mask, .int .i64 x2.Turn], 2⟩] [⟨B, (c.Gates.flatMap enc_Gate)⟩] := hS52
                    refine rw_nil ?_
                    refine cw_region ?_
                    refine sq 145 rfl rfl (Y_fieldAddr (B := some ⟨b2, 0, none⟩) (i := 0) (s := 0) k_fd_57_5_5_55 k_sz_55_1 rfl (hf3.get 4 1 rfl)) ?_
                    refine sq 146 rfl rfl (Y_load1 (B := some ⟨b2, 0, none⟩) (i := 5) (cs := [.int .i64 c.Qubits, .int .i64 Vars, .int .i64 Root, .int .i64 0, .slice none 0 0, .slice B3 Out.length c4]) (v := .slice B3 Out.length c4) k_sc_55 rfl rfl (hS52.cf (i := 1) rfl) rfl) ?_
                    refine sq 147 rfl rfl (Y_fieldAddr (B := some ⟨b6, 0, none⟩) (i := 0) (s := 0) k_fd_76_2_2_3 k_sz_3_1 rfl (hf3.get 9 4 rfl)) ?_
                    refine sq 148 rfl rfl (Y_load1 (B := some ⟨b6, 0, none⟩) (i := 2) (cs := [.int .i64 x.Kind, .int .i64 x.A, .int .i64 x.B]) (v := .int .i64 x.B) k_sc_3 rfl rfl (hS52.cf (i := 6) rfl) rfl) ?_
                    refine sq 149 rfl rfl (Y_loadA (B := B7) (i := 0) (cs := [.int .i64 x1.Mask, .int .i64 x1.Turn]) (vs := [.int .i64 x1.Mask, .int .i64 x1.Turn]) k_ag_61 k_sz_61_2 rfl (hf3.get 10 5 rfl) (hS52.cf (i := 7) rfl) rfl rfl) ?_
                    obtain ⟨x8, hx8, hF16⟩ := bind_inv hF16
                    refine sq 150 rfl rfl (Y_index (B := B3) (m := Out.length) (c := c4) (k := .i64) (i := x.B) k_sl_55_61 k_sz_61_2 rfl rfl rfl (gi_isSome enc_Affine_len rfl (hS52.cf (i := 2) rfl) hx8) (getI_nn hx8) (getI_ltI hx8 (set_len _ _ _ hl))) ?_
                    refine ss0 rfl rfl (Ys_store (i := 2) (s := 2) (B := B3) (T' := 61) (v := .agg #[.int .i64 x1.Mask, .int .i64 x1.Turn]) (vs := [.int .i64 x1.Mask, .int .i64 x1.Turn]) (k := x.B.toNat * 2) (cs' := (((Out1.set x.A.toNat x2).set x.B.toNat x1).flatMap enc_Affine)) hS52 k_sz_61_2 rfl rfl rfl rfl rfl rfl rfl (gi_fit0 enc_Affine_len hx8) (gi_set enc_Affine_len hx8 x1 rfl) rfl) ?_
                    rintro _ w_37 ⟨rfl, hS53⟩
                    have hS53 : ST w0 [] _ [⟨some ⟨b1, 0, none⟩, 57, [.int .i64 0, .int .i64 0, .int .i64 0, .int .i64 0, .slice none 0 0, .slice none 0 0], 6⟩, ⟨some ⟨b2, 0, none⟩, 57, [.int .i64 c.Qubits, .int .i64 Vars, .int .i64 Root, .int .i64 0, .slice none 0 0, .slice B3 Out.length c4], 6⟩, ⟨B3, 61, (((Out1.set x.A.toNat x2).set x.B.toNat x1).flatMap enc_Affine), c4 * 2⟩, ⟨some ⟨b3, 0, none⟩, 141, [.int .i64 phase, .slice B5 terms.length c6], 2⟩, ⟨B5, 136, (terms.flatMap enc_Term), c6 * 2⟩, ⟨some ⟨b5, 0, none⟩, 61, [.int .i64 0, .int .i64 1], 2⟩, ⟨some ⟨b6, 0, none⟩, 76, [.int .i64 x.Kind, .int .i64 x.A, .int .i64 x.B], 3⟩, ⟨B7, 61, [.int .i64 x1.Mask, .int .i64 x1.Turn], 2⟩, ⟨B8, 61, [.int .i64 x2.Mask, .int .i64 x2.Turn], 2⟩] [⟨B, (c.Gates.flatMap enc_Gate)⟩] := hS53
                    refine rw_nil ?_
                    exact ⟨Vars, Root, ((Out1.set x.A.toNat x2).set x.B.toNat x1), phase, terms, B5, c6, (some_inj hF16), (FF.cons (hf3.get 2 0 rfl) (FF.cons (hf3.get 4 1 rfl) (FF.cons (hf3.get 5 2 rfl) (FF.cons (hf3.get 7 3 rfl) (FF.cons (hf3.get 35 7 rfl) (FF.cons (hf3.get 36 8 rfl) (FF.cons (hf3.get 37 9 rfl) FF.nil))))))), (set_len _ _ _ (set_len _ _ _ hl)), (hS53.sel [0, 1, 2, 3, 4, 5] rfl rfl)⟩
                  · skip
                    have hF17 := cf' hF15 hb8
                    refine cw_seq ?_
                    refine cw_region ?_
                    refine sq 152 rfl rfl (Y_eq (k := .i64) (a := x.Kind) (b := 12) rfl rfl rfl) ?_
                    refine sq 151 rfl rfl (Y_assign (v := .bool (x.Kind == 12)) rfl rfl) ?_
                    refine rw_nil ?_
                    refine cw_cond (b := (x.Kind == 12)) rfl (fun hb9 => ?_) (fun hb9 => ?_)
                    · skip
                      have hF18 := ct hF17 hb9
                      refine cw_region ?_
                      refine sq 153 rfl rfl (Y_move (v := pt (some ⟨b3, 0, none⟩) 0) rfl (hf3.get 5 2 rfl)) ?_
                      obtain ⟨m4, hc7, hF18⟩ := bind_inv hF18
                      refine sc 154 rfl rfl (Yc_func (g := 97) (vs := [pt (some ⟨b3, 0, none⟩) 0, .int .i64 0, .int .i64 1]) k_call_97 rfl (mc rfl (mc rfl (mc rfl mn))) (c_spec_l21Sum_add (Tl21Sum.mk phase terms) 0 1 (some ⟨b3, 0, none⟩) B5 c6 terms.length _ rfl (hS18.lencap (i := 4) rfl (fm_lenn (l := terms) enc_Term_len rfl) rfl rfl) (hS18.inn [false, false, false, true, true, false, false, false, false] rfl [] rfl) hc7)) ?_
                      rintro _ w_38 ⟨B13, c12, rfl, hd7⟩
                      have hS54 := hS18.out [false, false, false, true, true, false, false, false, false] rfl hd7
                      have hS54 : ST w0 [] _ [⟨some ⟨b1, 0, none⟩, 57, [.int .i64 0, .int .i64 0, .int .i64 0, .int .i64 0, .slice none 0 0, .slice none 0 0], 6⟩, ⟨some ⟨b2, 0, none⟩, 57, [.int .i64 c.Qubits, .int .i64 Vars, .int .i64 Root, .int .i64 0, .slice none 0 0, .slice B3 Out.length c4], 6⟩, ⟨B3, 61, (Out1.flatMap enc_Affine), c4 * 2⟩, ⟨some ⟨b5, 0, none⟩, 61, [.int .i64 0, .int .i64 1], 2⟩, ⟨some ⟨b6, 0, none⟩, 76, [.int .i64 x.Kind, .int .i64 x.A, .int .i64 x.B], 3⟩, ⟨B7, 61, [.int .i64 x1.Mask, .int .i64 x1.Turn], 2⟩, ⟨B8, 61, [.int .i64 x2.Mask, .int .i64 x2.Turn], 2⟩, ⟨some ⟨b3, 0, none⟩, 141, [.int .i64 m4.phase, .slice B13 m4.terms.length c12], 2⟩, ⟨B13, 136, (m4.terms.flatMap enc_Term), c12 * 2⟩] [⟨B, (c.Gates.flatMap enc_Gate)⟩] := hS54
                      refine rw_nil ?_
                      exact ⟨Vars, Root, Out1, m4.phase, m4.terms, B13, c12, (some_inj hF18), (FF.cons (hf3.get 2 0 rfl) (FF.cons (hf3.get 4 1 rfl) (FF.cons (hf3.get 5 2 rfl) (FF.cons (hf3.get 7 3 rfl) (FF.cons (hf3.get 35 7 rfl) (FF.cons (hf3.get 36 8 rfl) (FF.cons (hf3.get 37 9 rfl) FF.nil))))))), hl, (hS54.sel [0, 1, 2, 7, 8, 3] rfl rfl)⟩
                    · skip
                      have hF19 := cf' hF17 hb9
                      obtain ⟨r_5, hc8, hF19⟩ := bind_inv hF19
                      obtain ⟨m5, hc9, hF19⟩ := bind_inv hF19
                      refine ra_start (ST.sel hS18 [0, 1, 2, 5, 6, 7, 8] rfl rfl).fn (by kernel_rfl) ?_
                      have hS57 := hS18.drew
                      refine ra_q 0 55 (v := pt (some ⟨b3, 0, none⟩) 0) rfl rfl rfl (by kernel_rfl) (by kernel_rfl) (by kernel_rfl) (ST.sel hS57 [0, 1, 2, 5, 6, 7, 8] rfl rfl) (fun w' hw' => (Y_move (v := pt (some ⟨b3, 0, none⟩) 0) rfl (hf3.get 5 2 rfl))) ?_
                      refine ra_q 1 56 (v := pt (some ⟨b6, 0, none⟩) 0) rfl rfl rfl (by kernel_rfl) (by kernel_rfl) (by kernel_rfl) (ST.sel hS57 [0, 1, 2, 5, 6, 7, 8] rfl rfl) (fun w' hw' => (Y_fieldAddr (B := some ⟨b6, 0, none⟩) (i := 0) (s := 0) k_fd_76_0_0_3 k_sz_3_1 rfl (hf3.get 9 4 rfl))) ?_
                      refine ra_q 2 57 (v := .int .i64 x.Kind) rfl rfl rfl (by kernel_rfl) (by kernel_rfl) (by kernel_rfl) (ST.sel hS57 [0, 1, 2, 5, 6, 7, 8] rfl rfl) (fun w' hw' => (Y_load1 (B := some ⟨b6, 0, none⟩) (i := 0) (cs := [.int .i64 x.Kind, .int .i64 x.A, .int .i64 x.B]) (v := .int .i64 x.Kind) k_sc_3 rfl rfl (ST.cf hw' (i := 4) rfl) rfl)) ?_
                      refine ra_q 4 59 (v := .agg #[.int .i64 x1.Mask, .int .i64 x1.Turn]) rfl rfl rfl (by kernel_rfl) (by kernel_rfl) (by kernel_rfl) (ST.sel hS57 [0, 1, 2, 5, 6, 7, 8] rfl rfl) (fun w' hw' => (Y_loadA (B := B7) (i := 0) (cs := [.int .i64 x1.Mask, .int .i64 x1.Turn]) (vs := [.int .i64 x1.Mask, .int .i64 x1.Turn]) k_ag_61 k_sz_61_2 rfl (hf3.get 10 5 rfl) (ST.cf hw' (i := 5) rfl) rfl rfl)) ?_
                      refine ra_all (rs := [3]) (by kernel_rfl) rfl ?_
                      refine ra_c 58 (i := 3) rfl rfl rfl (Yc_func (g := 112) (vs := [.int .i64 x.Kind]) k_call_112 rfl (mc rfl mn) (c_spec_l13Coef x.Kind _  (hS57.inn0 [] rfl) hc8)) ?_ ?_
                      · rintro _ w_39 ⟨rfl, hd8⟩
                        have hS58 := hS57.out00 hd8
                        have hS58 : ST w0 [] _ [⟨some ⟨b1, 0, none⟩, 57, [.int .i64 0, .int .i64 0, .int .i64 0, .int .i64 0, .slice none 0 0, .slice none 0 0], 6⟩, ⟨some ⟨b2, 0, none⟩, 57, [.int .i64 c.Qubits, .int .i64 Vars, .int .i64 Root, .int .i64 0, .slice none 0 0, .slice B3 Out.length c4], 6⟩, ⟨B3, 61, (Out1.flatMap enc_Affine), c4 * 2⟩, ⟨some ⟨b3, 0, none⟩, 141, [.int .i64 phase, .slice B5 terms.length c6], 2⟩, ⟨B5, 136, (terms.flatMap enc_Term), c6 * 2⟩, ⟨some ⟨b5, 0, none⟩, 61, [.int .i64 0, .int .i64 1], 2⟩, ⟨some ⟨b6, 0, none⟩, 76, [.int .i64 x.Kind, .int .i64 x.A, .int .i64 x.B], 3⟩, ⟨B7, 61, [.int .i64 x1.Mask, .int .i64 x1.Turn], 2⟩, ⟨B8, 61, [.int .i64 x2.Mask, .int .i64 x2.Turn], 2⟩] [⟨B, (c.Gates.flatMap enc_Gate)⟩] := hS58
                        refine ⟨(ST.sel hS58 [0, 1, 2, 5, 6, 7, 8] rfl rfl), ?_⟩
                        refine ra_all (rs := [5]) (by kernel_rfl) rfl ?_
                        refine ra_c 60 (i := 5) rfl rfl rfl (Yc_func (g := 99) (vs := [pt (some ⟨b3, 0, none⟩) 0, .int .i64 0, .int .i64 r_5, .agg #[.int .i64 x1.Mask, .int .i64 x1.Turn]]) k_call_99 rfl (mc rfl (mc rfl (mc rfl (mc rfl mn)))) (c_spec_l21Sum_times (Tl21Sum.mk phase terms) 0 r_5 x1 (some ⟨b3, 0, none⟩) B5 c6 terms.length _ rfl (hS58.inn [false, false, false, true, true, false, false, false, false] rfl [] rfl) hc9)) ?_ ?_
                        · rintro _ w_40 ⟨B14, c13, rfl, hd9⟩
                          have hS59 := hS58.out [false, false, false, true, true, false, false, false, false] rfl hd9
                          have hS59 : ST w0 [] _ [⟨some ⟨b1, 0, none⟩, 57, [.int .i64 0, .int .i64 0, .int .i64 0, .int .i64 0, .slice none 0 0, .slice none 0 0], 6⟩, ⟨some ⟨b2, 0, none⟩, 57, [.int .i64 c.Qubits, .int .i64 Vars, .int .i64 Root, .int .i64 0, .slice none 0 0, .slice B3 Out.length c4], 6⟩, ⟨B3, 61, (Out1.flatMap enc_Affine), c4 * 2⟩, ⟨some ⟨b5, 0, none⟩, 61, [.int .i64 0, .int .i64 1], 2⟩, ⟨some ⟨b6, 0, none⟩, 76, [.int .i64 x.Kind, .int .i64 x.A, .int .i64 x.B], 3⟩, ⟨B7, 61, [.int .i64 x1.Mask, .int .i64 x1.Turn], 2⟩, ⟨B8, 61, [.int .i64 x2.Mask, .int .i64 x2.Turn], 2⟩, ⟨some ⟨b3, 0, none⟩, 141, [.int .i64 m5.phase, .slice B14 m5.terms.length c13], 2⟩, ⟨B14, 136, (m5.terms.flatMap enc_Term), c13 * 2⟩] [⟨B, (c.Gates.flatMap enc_Gate)⟩] := hS59
                          refine ⟨(ST.sel hS59 [0, 1, 2, 3, 4, 5, 6] rfl rfl), ?_⟩
                          refine ra_done (by kernel_rfl) ?_
                          exact ⟨Vars, Root, Out1, m5.phase, m5.terms, B14, c13, (some_inj hF19), (FF.cons (hf3.get 2 0 rfl) (FF.cons (hf3.get 4 1 rfl) (FF.cons (hf3.get 5 2 rfl) (FF.cons (hf3.get 7 3 rfl) (FF.cons (hf3.get 35 7 rfl) (FF.cons (hf3.get 36 8 rfl) (FF.cons (hf3.get 37 9 rfl) FF.nil))))))), hl, (hS59.sel [0, 1, 2, 7, 8, 3] rfl rfl)⟩
                        exact allR_nil
                      exact allR_nil
      rintro f w ⟨Vars1, Root1, Out2, phase1, terms1, B6, c7, rfl, hf2, hl1, hS15⟩
      refine cw_region ?_
      refine sq 155 rfl rfl (Y_add (k := .i64) (a := (i1 : Int)) (b := 1) rfl (hf2.get 37 6 rfl) rfl) ?_
      refine sq 37 rfl rfl (Y_move (v := .int .i64 (IntKind.i64.wrap ((i1 : Int) + 1))) rfl rfl) ?_
      refine rw_nil ?_
      obtain rfl := some_inj hF3
      exact ⟨k_3, Nat.lt_succ_self _, i1 + 1, Vars1, Root1, Out2, phase1, terms1, B6, c7, (FF.cons (hf2.get 2 0 rfl) (FF.cons (hf2.get 4 1 rfl) (FF.cons (hf2.get 5 2 rfl) (FF.cons (hf2.get 7 3 rfl) (FF.cons (hf2.get 35 4 rfl) (FF.cons (hf2.get 36 5 rfl) (FF.cons (congrArg (Value.int .i64) (wr_succ hlt3 hN1)) FF.nil))))))), hl1, (hS15.sel [0, 1, 2, 3, 4, 5] rfl rfl), (by omega), hL3⟩
    · skip
      obtain rfl : k_2 = 0 := by have h := of_decide_eq_false hlt2; omega
      refine cw_exit rfl ?_
      obtain rfl := some_inj hL2
      refine cw_seq ?_
      refine cw_region ?_
      refine sq 156 rfl rfl (Y_move (v := pt (some ⟨b3, 0, none⟩) 0) rfl (hf1.get 5 2 rfl)) ?_
      refine sq 157 rfl rfl (Y_nilCheck (B := some ⟨b3, 0, none⟩) (i := 0) rfl rfl) ?_
      refine sq 158 rfl rfl (Y_fieldAddr (B := some ⟨b3, 0, none⟩) (i := 0) (s := 0) k_fd_141_0_0_3 k_sz_3_1 rfl rfl) ?_
      refine sq 159 rfl rfl (Y_load1 (B := some ⟨b3, 0, none⟩) (i := 0) (cs := [.int .i64 phase, .slice B5 terms.length c6]) (v := .int .i64 phase) k_sc_3 rfl rfl (hS13.cf (i := 3) rfl) rfl) ?_
      refine sq 160 rfl rfl (Y_fieldAddr (B := some ⟨b2, 0, none⟩) (i := 0) (s := 0) k_fd_57_3_3_3 k_sz_3_1 rfl (hf1.get 4 1 rfl)) ?_
      refine ss0 rfl rfl (Ys_store (i := 1) (s := 1) (B := some ⟨b2, 0, none⟩) (T' := 57) (v := .int .i64 phase) (vs := [.int .i64 phase]) (k := 3) (cs' := [.int .i64 c.Qubits, .int .i64 Vars, .int .i64 Root, .int .i64 phase, .slice none 0 0, .slice B3 Out.length c4]) hS13 k_sz_3_1 rfl rfl rfl rfl rfl rfl rfl (Nat.le_of_ble_eq_true rfl) rfl rfl) ?_
      rintro _ w_41 ⟨rfl, hS60⟩
      have hS60 : ST w0 [] _ [⟨some ⟨b1, 0, none⟩, 57, [.int .i64 0, .int .i64 0, .int .i64 0, .int .i64 0, .slice none 0 0, .slice none 0 0], 6⟩, ⟨some ⟨b2, 0, none⟩, 57, [.int .i64 c.Qubits, .int .i64 Vars, .int .i64 Root, .int .i64 phase, .slice none 0 0, .slice B3 Out.length c4], 6⟩, ⟨B3, 61, (Out1.flatMap enc_Affine), c4 * 2⟩, ⟨some ⟨b3, 0, none⟩, 141, [.int .i64 phase, .slice B5 terms.length c6], 2⟩, ⟨B5, 136, (terms.flatMap enc_Term), c6 * 2⟩, ⟨some ⟨b5, 0, none⟩, 61, [.int .i64 0, .int .i64 1], 2⟩] [⟨B, (c.Gates.flatMap enc_Gate)⟩] := hS60
      refine rw_nil ?_
      refine cw_seq ?_
      refine cw_region ?_
      refine sq 161 rfl rfl (Y_move (v := pt (some ⟨b3, 0, none⟩) 0) rfl (hf1.get 5 2 rfl)) ?_
      refine sq 162 rfl rfl (Y_nilCheck (B := some ⟨b3, 0, none⟩) (i := 0) rfl rfl) ?_
      refine sq 163 rfl rfl (Y_fieldAddr (B := some ⟨b3, 0, none⟩) (i := 0) (s := 0) k_fd_141_1_1_54 k_sz_54_1 rfl rfl) ?_
      refine sq 164 rfl rfl (Y_load1 (B := some ⟨b3, 0, none⟩) (i := 1) (cs := [.int .i64 phase, .slice B5 terms.length c6]) (v := .slice B5 terms.length c6) k_sc_54 rfl rfl (hS60.cf (i := 3) rfl) rfl) ?_
      refine sq 165 rfl rfl (Y_fieldAddr (B := some ⟨b2, 0, none⟩) (i := 0) (s := 0) k_fd_57_4_4_54 k_sz_54_1 rfl (hf1.get 4 1 rfl)) ?_
      refine ss0 rfl rfl (Ys_store (i := 1) (s := 1) (B := some ⟨b2, 0, none⟩) (T' := 57) (v := .slice B5 terms.length c6) (vs := [.slice B5 terms.length c6]) (k := 4) (cs' := [.int .i64 c.Qubits, .int .i64 Vars, .int .i64 Root, .int .i64 phase, .slice B5 terms.length c6, .slice B3 Out.length c4]) hS60 k_sz_54_1 rfl rfl rfl rfl rfl rfl rfl (Nat.le_of_ble_eq_true rfl) rfl rfl) ?_
      rintro _ w_42 ⟨rfl, hS61⟩
      have hS61 : ST w0 [] _ [⟨some ⟨b1, 0, none⟩, 57, [.int .i64 0, .int .i64 0, .int .i64 0, .int .i64 0, .slice none 0 0, .slice none 0 0], 6⟩, ⟨some ⟨b2, 0, none⟩, 57, [.int .i64 c.Qubits, .int .i64 Vars, .int .i64 Root, .int .i64 phase, .slice B5 terms.length c6, .slice B3 Out.length c4], 6⟩, ⟨B3, 61, (Out1.flatMap enc_Affine), c4 * 2⟩, ⟨some ⟨b3, 0, none⟩, 141, [.int .i64 phase, .slice B5 terms.length c6], 2⟩, ⟨B5, 136, (terms.flatMap enc_Term), c6 * 2⟩, ⟨some ⟨b5, 0, none⟩, 61, [.int .i64 0, .int .i64 1], 2⟩] [⟨B, (c.Gates.flatMap enc_Gate)⟩] := hS61
      refine rw_nil ?_
      refine cw_seq ?_
      refine cw_region ?_
      refine sq 166 rfl rfl (Y_loadA (B := some ⟨b2, 0, none⟩) (i := 0) (cs := [.int .i64 c.Qubits, .int .i64 Vars, .int .i64 Root, .int .i64 phase, .slice B5 terms.length c6, .slice B3 Out.length c4]) (vs := [.int .i64 c.Qubits, .int .i64 Vars, .int .i64 Root, .int .i64 phase, .slice B5 terms.length c6, .slice B3 Out.length c4]) k_ag_57 k_sz_57_6 rfl (hf1.get 4 1 rfl) (hS61.cf (i := 1) rfl) rfl rfl) ?_
      refine ss0 rfl rfl (Ys_store (i := 0) (s := 6) (B := some ⟨b1, 0, none⟩) (T' := 57) (v := .agg #[.int .i64 c.Qubits, .int .i64 Vars, .int .i64 Root, .int .i64 phase, .slice B5 terms.length c6, .slice B3 Out.length c4]) (vs := [.int .i64 c.Qubits, .int .i64 Vars, .int .i64 Root, .int .i64 phase, .slice B5 terms.length c6, .slice B3 Out.length c4]) (k := 0) (cs' := [.int .i64 c.Qubits, .int .i64 Vars, .int .i64 Root, .int .i64 phase, .slice B5 terms.length c6, .slice B3 Out.length c4]) hS61 k_sz_57_6 rfl (hf1.get 2 0 rfl) rfl rfl rfl rfl rfl (Nat.le_of_ble_eq_true rfl) rfl rfl) ?_
      rintro _ w_43 ⟨rfl, hS62⟩
      have hS62 : ST w0 [] _ [⟨some ⟨b1, 0, none⟩, 57, [.int .i64 c.Qubits, .int .i64 Vars, .int .i64 Root, .int .i64 phase, .slice B5 terms.length c6, .slice B3 Out.length c4], 6⟩, ⟨some ⟨b2, 0, none⟩, 57, [.int .i64 c.Qubits, .int .i64 Vars, .int .i64 Root, .int .i64 phase, .slice B5 terms.length c6, .slice B3 Out.length c4], 6⟩, ⟨B3, 61, (Out1.flatMap enc_Affine), c4 * 2⟩, ⟨some ⟨b3, 0, none⟩, 141, [.int .i64 phase, .slice B5 terms.length c6], 2⟩, ⟨B5, 136, (terms.flatMap enc_Term), c6 * 2⟩, ⟨some ⟨b5, 0, none⟩, 61, [.int .i64 0, .int .i64 1], 2⟩] [⟨B, (c.Gates.flatMap enc_Gate)⟩] := hS62
      refine sq 3 rfl rfl (Y_assign (v := .bool true) rfl rfl) ?_
      refine rw_nil ?_
      refine cw_ret ?_
      obtain ⟨rfl, rfl⟩ := pr2 (some_inj hF2)
      exact ret2 Try.results65 (v1 := .agg #[.int .i64 c.Qubits, .int .i64 Vars, .int .i64 Root, .int .i64 phase, .slice B5 terms.length c6, .slice B3 Out.length c4]) (resAt_cellA (B := some ⟨b1, 0, none⟩) (i := 0) (cs := [.int .i64 c.Qubits, .int .i64 Vars, .int .i64 Root, .int .i64 phase, .slice B5 terms.length c6, .slice B3 Out.length c4]) (vs := [.int .i64 c.Qubits, .int .i64 Vars, .int .i64 Root, .int .i64 phase, .slice B5 terms.length c6, .slice B3 Out.length c4]) (hf1.get 2 0 rfl) k_ag_57 k_sz_57_6 (hS62.cf (i := 0) rfl) rfl rfl) (v2 := .bool true) (resAt_tmp rfl) ⟨B5, c6, B3, c4, (by simp [hl]), (ST.subR (R' := []) (hS62.sel [4, 2] rfl rfl) (fun _ h => by cases h))⟩

theorem c_spec_PathSumOf (c : TCircuit) (B : Option Addr) (c1 n : Nat) (w0 : World) (hn : c.Gates.length = n) (hS : ST w0 [] w0 [] [⟨B, (c.Gates.flatMap enc_Gate)⟩]) {r_ : TPathSum} {r_1 : Bool} (hF : F_spec_PathSumOf c = some (r_, r_1)) :
    CV Try.prog 28 #[.agg #[.int .i64 c.Qubits, .slice B n c1]] w0 (fun v w' => ∃ (B1 : Option Addr) (c2 : Nat) (B2 : Option Addr) (c3 : Nat), v = .tuple #[.agg #[.int .i64 r_.Ins, .int .i64 r_.Vars, .int .i64 r_.Root, .int .i64 r_.Phase, .slice B1 r_.Terms.length c2, .slice B2 r_.Out.length c3], .bool r_1] ∧ ST w0 [] w' [⟨B1, 136, (r_.Terms.flatMap enc_Term), c2 * 2⟩, ⟨B2, 61, (r_.Out.flatMap enc_Affine), c3 * 2⟩] []) := by
  subst hn
  unfold F_spec_PathSumOf at hF
  refine cv_of_cw 12 Try.func28 rfl Try.ntmps28 rfl ?_
  refine cw_seq ?_
  refine cw_region ?_
  refine ss 1 rfl rfl (Ys_box (T := 28) (v := .agg #[.int .i64 c.Qubits, .slice B c.Gates.length c1]) (cs := [.int .i64 c.Qubits, .slice B c.Gates.length c1]) (m := 2) hS rfl rfl rfl rfl) ?_
  rintro _ w_ ⟨b, rfl, hS1⟩
  refine ss 2 rfl rfl (Ys_alloc (T := 57) (cs := [.int .i64 0, .int .i64 0, .int .i64 0, .int .i64 0, .slice none 0 0, .slice none 0 0]) (m := 6) hS1 k_zero_57 rfl rfl rfl) ?_
  rintro _ w_1 ⟨b1, rfl, hS2⟩
  have hS2 : ST w0 [] _ [⟨some ⟨b, 0, none⟩, 28, [.int .i64 c.Qubits, .slice B c.Gates.length c1], 2⟩, ⟨some ⟨b1, 0, none⟩, 57, [.int .i64 0, .int .i64 0, .int .i64 0, .int .i64 0, .slice none 0 0, .slice none 0 0], 6⟩] [⟨B, (c.Gates.flatMap enc_Gate)⟩] := hS2
  refine sq 3 rfl rfl (Y_assign (v := .bool false) rfl rfl) ?_
  refine rw_nil ?_
  refine cw_seq ?_
  refine cw_seq ?_
  refine cw_region ?_
  refine sq 4 rfl rfl (Y_loadA (B := some ⟨b, 0, none⟩) (i := 0) (cs := [.int .i64 c.Qubits, .slice B c.Gates.length c1]) (vs := [.int .i64 c.Qubits, .slice B c.Gates.length c1]) k_ag_28 k_sz_28_2 rfl rfl (hS2.cf (i := 0) rfl) rfl rfl) ?_
  obtain ⟨r_2, hc, hF⟩ := bind_inv hF
  refine sc 5 rfl rfl (Yc_func (g := 64) (vs := [.agg #[.int .i64 c.Qubits, .slice B c.Gates.length c1]]) k_call_64 rfl (mc rfl mn) (c_spec_l4Good c B c1 c.Gates.length _ rfl (hS2.inn0 [(true, 0)] rfl) hc)) ?_
  rintro _ w_2 ⟨rfl, hd⟩
  have hS3 := hS2.out00 hd
  have hS3 : ST w0 [] _ [⟨some ⟨b, 0, none⟩, 28, [.int .i64 c.Qubits, .slice B c.Gates.length c1], 2⟩, ⟨some ⟨b1, 0, none⟩, 57, [.int .i64 0, .int .i64 0, .int .i64 0, .int .i64 0, .slice none 0 0, .slice none 0 0], 6⟩] [⟨B, (c.Gates.flatMap enc_Gate)⟩] := hS3
  refine sq 6 rfl rfl (Y_not (p := r_2) rfl rfl) ?_
  refine rw_nil ?_
  refine cw_cond (b := (!r_2)) rfl (fun hb => ?_) (fun hb => ?_)
  · skip
    have hF1 := ct hF hb
    refine cw_seq ?_
    refine cw_region ?_
    refine sq 7 rfl rfl (Y_buildS (zs := [.int .i64 0, .int .i64 0, .int .i64 0, .int .i64 0, .slice none 0 0, .slice none 0 0]) (vs := []) (cs := [.int .i64 0, .int .i64 0, .int .i64 0, .int .i64 0, .slice none 0 0, .slice none 0 0]) k_pl_57 k_zero_57 rfl mpn rfl) ?_
    refine ss0 rfl rfl (Ys_store (i := 1) (s := 6) (B := some ⟨b1, 0, none⟩) (T' := 57) (v := .agg #[.int .i64 0, .int .i64 0, .int .i64 0, .int .i64 0, .slice none 0 0, .slice none 0 0]) (vs := [.int .i64 0, .int .i64 0, .int .i64 0, .int .i64 0, .slice none 0 0, .slice none 0 0]) (k := 0) (cs' := [.int .i64 0, .int .i64 0, .int .i64 0, .int .i64 0, .slice none 0 0, .slice none 0 0]) hS3 k_sz_57_6 rfl rfl rfl rfl rfl rfl rfl (Nat.le_of_ble_eq_true rfl) rfl rfl) ?_
    rintro _ w_3 ⟨rfl, hS4⟩
    have hS4 : ST w0 [] _ [⟨some ⟨b, 0, none⟩, 28, [.int .i64 c.Qubits, .slice B c.Gates.length c1], 2⟩, ⟨some ⟨b1, 0, none⟩, 57, [.int .i64 0, .int .i64 0, .int .i64 0, .int .i64 0, .slice none 0 0, .slice none 0 0], 6⟩] [⟨B, (c.Gates.flatMap enc_Gate)⟩] := hS4
    refine sq 3 rfl rfl (Y_assign (v := .bool false) rfl rfl) ?_
    refine rw_nil ?_
    refine cw_ret ?_
    have hS5 := hS4.addNil 136
    have hS6 := hS5.addNil 61
    obtain ⟨rfl, rfl⟩ := pr2 (some_inj hF1)
    exact ret2 Try.results28 (v1 := .agg #[.int .i64 0, .int .i64 0, .int .i64 0, .int .i64 0, .slice none 0 0, .slice none 0 0]) (resAt_cellA (B := some ⟨b1, 0, none⟩) (i := 0) (cs := [.int .i64 0, .int .i64 0, .int .i64 0, .int .i64 0, .slice none 0 0, .slice none 0 0]) (vs := [.int .i64 0, .int .i64 0, .int .i64 0, .int .i64 0, .slice none 0 0, .slice none 0 0]) rfl k_ag_57 k_sz_57_6 (hS6.cf (i := 1) rfl) rfl rfl) (v2 := .bool false) (resAt_tmp rfl) ⟨none, 0, none, 0, rfl, (ST.subR (R' := []) (hS6.sel [2, 3] rfl rfl) (fun _ h => by cases h))⟩
  · skip
    have hF2 := cf' hF hb
    refine cw_skip ?_
    refine cw_seq ?_
    refine cw_region ?_
    refine sq 8 rfl rfl (Y_loadA (B := some ⟨b, 0, none⟩) (i := 0) (cs := [.int .i64 c.Qubits, .slice B c.Gates.length c1]) (vs := [.int .i64 c.Qubits, .slice B c.Gates.length c1]) k_ag_28 k_sz_28_2 rfl rfl (hS3.cf (i := 0) rfl) rfl rfl) ?_
    obtain ⟨⟨r_3, r_4⟩, hc1, hF2⟩ := bind_inv hF2
    refine sc 9 rfl rfl (Yc_func (g := 65) (vs := [.agg #[.int .i64 c.Qubits, .slice B c.Gates.length c1]]) k_call_65 rfl (mc rfl mn) (c_spec_l21Of c B c1 c.Gates.length _ rfl (hS3.inn0 [(true, 0)] rfl) hc1)) ?_
    rintro _ w_4 ⟨B3, c4, B4, c5, rfl, hd1⟩
    have hS7 := hS3.out0 hd1
    have hS7 : ST w0 [] _ [⟨some ⟨b, 0, none⟩, 28, [.int .i64 c.Qubits, .slice B c.Gates.length c1], 2⟩, ⟨some ⟨b1, 0, none⟩, 57, [.int .i64 0, .int .i64 0, .int .i64 0, .int .i64 0, .slice none 0 0, .slice none 0 0], 6⟩, ⟨B3, 136, (r_3.Terms.flatMap enc_Term), c4 * 2⟩, ⟨B4, 61, (r_3.Out.flatMap enc_Affine), c5 * 2⟩] [⟨B, (c.Gates.flatMap enc_Gate)⟩] := hS7
    refine sq 10 rfl rfl (Y_extract (v := .agg #[.int .i64 r_3.Ins, .int .i64 r_3.Vars, .int .i64 r_3.Root, .int .i64 r_3.Phase, .slice B3 r_3.Terms.length c4, .slice B4 r_3.Out.length c5]) rfl rfl rfl) ?_
    refine sq 11 rfl rfl (Y_extract (v := .bool r_4) rfl rfl rfl) ?_
    refine ss0 rfl rfl (Ys_store (i := 1) (s := 6) (B := some ⟨b1, 0, none⟩) (T' := 57) (v := .agg #[.int .i64 r_3.Ins, .int .i64 r_3.Vars, .int .i64 r_3.Root, .int .i64 r_3.Phase, .slice B3 r_3.Terms.length c4, .slice B4 r_3.Out.length c5]) (vs := [.int .i64 r_3.Ins, .int .i64 r_3.Vars, .int .i64 r_3.Root, .int .i64 r_3.Phase, .slice B3 r_3.Terms.length c4, .slice B4 r_3.Out.length c5]) (k := 0) (cs' := [.int .i64 r_3.Ins, .int .i64 r_3.Vars, .int .i64 r_3.Root, .int .i64 r_3.Phase, .slice B3 r_3.Terms.length c4, .slice B4 r_3.Out.length c5]) hS7 k_sz_57_6 rfl rfl rfl rfl rfl rfl rfl (Nat.le_of_ble_eq_true rfl) rfl rfl) ?_
    rintro _ w_5 ⟨rfl, hS8⟩
    have hS8 : ST w0 [] _ [⟨some ⟨b, 0, none⟩, 28, [.int .i64 c.Qubits, .slice B c.Gates.length c1], 2⟩, ⟨some ⟨b1, 0, none⟩, 57, [.int .i64 r_3.Ins, .int .i64 r_3.Vars, .int .i64 r_3.Root, .int .i64 r_3.Phase, .slice B3 r_3.Terms.length c4, .slice B4 r_3.Out.length c5], 6⟩, ⟨B3, 136, (r_3.Terms.flatMap enc_Term), c4 * 2⟩, ⟨B4, 61, (r_3.Out.flatMap enc_Affine), c5 * 2⟩] [⟨B, (c.Gates.flatMap enc_Gate)⟩] := hS8
    refine sq 3 rfl rfl (Y_assign (v := .bool r_4) rfl rfl) ?_
    refine rw_nil ?_
    refine cw_ret ?_
    obtain ⟨rfl, rfl⟩ := pr2 (some_inj hF2)
    exact ret2 Try.results28 (v1 := .agg #[.int .i64 r_3.Ins, .int .i64 r_3.Vars, .int .i64 r_3.Root, .int .i64 r_3.Phase, .slice B3 r_3.Terms.length c4, .slice B4 r_3.Out.length c5]) (resAt_cellA (B := some ⟨b1, 0, none⟩) (i := 0) (cs := [.int .i64 r_3.Ins, .int .i64 r_3.Vars, .int .i64 r_3.Root, .int .i64 r_3.Phase, .slice B3 r_3.Terms.length c4, .slice B4 r_3.Out.length c5]) (vs := [.int .i64 r_3.Ins, .int .i64 r_3.Vars, .int .i64 r_3.Root, .int .i64 r_3.Phase, .slice B3 r_3.Terms.length c4, .slice B4 r_3.Out.length c5]) rfl k_ag_57 k_sz_57_6 (hS8.cf (i := 1) rfl) rfl rfl) (v2 := .bool r_4) (resAt_tmp rfl) ⟨B3, c4, B4, c5, rfl, (ST.subR (R' := []) (hS8.sel [2, 3] rfl rfl) (fun _ h => by cases h))⟩

theorem c_impl_within (n : Int) (low : Int) (high : Int)  (w0 : World)  (hS : ST w0 [] w0 [] []) {r_ : Bool} (hF : F_impl_within n low high = some r_) :
    CV Try.prog 73 #[.int .i64 n, .int .i64 low, .int .i64 high] w0 (fun v w' => v = .bool r_ ∧ ST w0 [] w' [] []) := by
  unfold F_impl_within at hF
  refine cv_of_cw 15 Try.func73 rfl Try.ntmps73 rfl ?_
  refine cw_seq ?_
  refine cw_region ?_
  refine sq 6 rfl rfl (Y_assign (v := .bool false) rfl rfl) ?_
  refine rw_nil ?_
  refine cw_seq ?_
  refine cw_region ?_
  refine sq 7 rfl rfl (Y_move (v := .int .i64 low) rfl rfl) ?_
  refine sq 8 rfl rfl (Y_move (v := .int .i64 n) rfl rfl) ?_
  refine sq 9 rfl rfl (Y_le (k := .i64) (a := low) (b := n) rfl rfl rfl) ?_
  refine sq 10 rfl rfl (Y_move (v := .bool (decide (low ≤ n))) rfl rfl) ?_
  refine sgq 11 (B := (decide (low ≤ n))) (v := .int .i64 n) rfl rfl (wt_t (gd_of (t := 10) (by kernel_rfl) rfl)) (fun hg => (Y_move (v := .int .i64 n) rfl rfl)) ?_
  refine sgq 12 (B := (decide (low ≤ n))) (v := .int .i64 high) rfl rfl (wt_t (gd_of (t := 10) (by kernel_rfl) rfl)) (fun hg1 => (Y_move (v := .int .i64 high) rfl rfl)) ?_
  refine sgq 13 (B := (decide (low ≤ n))) (v := .bool (decide (n ≤ high))) rfl rfl (wt_t (gd_of (t := 10) (by kernel_rfl) rfl)) (fun hg2 => (Y_le (k := .i64) (a := n) (b := high) rfl (gv_of (B := (decide (low ≤ n))) (v := .int .i64 n) hg2) (gv_of (B := (decide (low ≤ n))) (v := .int .i64 high) hg2))) ?_
  refine sq 14 rfl rfl (Y_and (b := (decide (low ≤ n))) (z := (decide (n ≤ high))) rfl rfl rfl rfl) ?_
  refine sq 6 rfl rfl (Y_assign (v := .bool ((decide (low ≤ n)) && (decide (n ≤ high)))) rfl rfl) ?_
  refine rw_nil ?_
  refine cw_ret ?_
  obtain rfl := some_inj hF
  exact ret1 Try.results73 (v1 := .bool ((decide (low ≤ n)) && (decide (n ≤ high)))) (resAt_tmp rfl) ⟨rfl, (ST.subR (R' := []) (hS.sel [] rfl rfl) (fun _ h => by cases h))⟩

theorem c_slices_IndexFunc_impl_Gate_impl_Gate (s : List TGate) (f_ : TGate → Option (Bool)) (B : Option Addr) (c n : Nat) (kf : Nat) (caps : Array Value) (Rf : List Ro) (w0 : World) (hn : s.length = n) (hk : callB Try.prog kf = true) (hp : ∀ (w : World), ST w [] w [] Rf → ∀ (x : TGate) (y : Bool), f_ x = some y → CV Try.prog kf ((.agg #[.int .i64 x.Kind, .int .i64 x.A, .int .i64 x.B]) :: caps.toList).toArray w (fun v w' => v = .bool y ∧ ST w [] w' [] [])) (hS : ST w0 [] w0 [] (⟨B, (s.flatMap enc_Gate)⟩ :: Rf)) {r_ : Int} (hF : F_slices_IndexFunc_impl_Gate_impl_Gate s f_ = some r_) :
    CV Try.prog 138 #[.slice B n c, .func (.func kf) #[] caps] w0 (fun v w' => v = .int .i64 r_ ∧ ST w0 [] w' [] []) := by
  subst hn
  unfold F_slices_IndexFunc_impl_Gate_impl_Gate at hF
  refine cv_of_cw 19 Try.func138 rfl Try.ntmps138 rfl ?_
  refine cw_seq ?_
  refine cw_region ?_
  refine sq 4 rfl rfl (Y_assign (v := .int .i64 0) rfl rfl) ?_
  refine rw_nil ?_
  refine cw_seq ?_
  refine cw_seq ?_
  refine cw_region ?_
  refine sq 6 rfl rfl (Y_move (v := .slice B s.length c) rfl rfl) ?_
  refine sq 7 rfl rfl (Y_len (B := B) (m := s.length) (c := c) k_sl_26_76 rfl rfl) ?_
  refine sq 8 rfl rfl (Y_move (v := .int .i64 0) rfl rfl) ?_
  refine rw_nil ?_
  obtain ⟨hN, hF⟩ := chk_inv hF
  obtain ⟨z, hz, hF1⟩ := bind_inv hF
  refine cw_block ?_
  refine cw_loop (fun k f w => ∃ (i : Nat), FF f [(0, .slice B s.length c), (1, .func (.func kf) #[] caps), (7, .int .i64 (s.length : Int)), (8, .int .i64 (i : Int))] ∧ ST w0 [] w [] (⟨B, (s.flatMap enc_Gate)⟩ :: Rf) ∧ i + k = s.length ∧ forX (F_slices_IndexFunc_impl_Gate_impl_Gate_l1 s f_) k i () = some z) s.length ⟨0, (FF.cons rfl (FF.cons rfl (FF.cons rfl (FF.cons rfl FF.nil)))), (hS.sel [] rfl rfl), Nat.zero_add _, hz⟩ ?_
  rintro k_ f w ⟨i, hf, hS1, hik, hL⟩
  refine cw_seq ?_
  refine cw_region ?_
  refine sq 9 rfl rfl (Y_lt (k := .i64) (a := (i : Int)) (b := (s.length : Int)) rfl (hf.get 8 3 rfl) (hf.get 7 2 rfl)) ?_
  refine rw_nil ?_
  refine cw_seq ?_
  refine cw_cond (b := (decide ((i : Int) < (s.length : Int)))) rfl (fun hlt => ?_) (fun hlt => ?_)
  · skip
    have hlt1 : i < s.length := by have h := of_decide_eq_true hlt; omega
    obtain ⟨k_1, rfl⟩ : ∃ k2, k_ = k2 + 1 := ⟨k_ - 1, by omega⟩
    obtain ⟨y1, hb, hL1⟩ := forX_go hL
    unfold F_slices_IndexFunc_impl_Gate_impl_Gate_l1 at hb
    refine cw_skip ?_
    refine cw_seq ?_
    refine cw_block ?_
    refine cw_seq ?_
    refine cw_region ?_
    refine sq 10 rfl rfl (Y_move (v := .int .i64 (i : Int)) rfl (hf.get 8 3 rfl)) ?_
    refine sq 5 rfl rfl (Y_assign (v := .int .i64 (i : Int)) rfl rfl) ?_
    refine rw_nil ?_
    refine cw_seq ?_
    refine cw_region ?_
    refine sq 11 rfl rfl (Y_move (v := .func (.func kf) #[] caps) rfl (hf.get 1 1 rfl)) ?_
    refine sq 12 rfl rfl (Y_move (v := .slice B s.length c) rfl (hf.get 0 0 rfl)) ?_
    refine sq 13 rfl rfl (Y_move (v := .int .i64 (i : Int)) rfl rfl) ?_
    obtain ⟨x1, hx, hb⟩ := bind_inv hb
    refine sq 14 rfl rfl (Y_index (B := B) (m := s.length) (c := c) (k := .i64) (i := (i : Int)) k_sl_26_76 k_sz_76_3 rfl rfl rfl (gi_isSome enc_Gate_len rfl (hS1.rf (i := 0) rfl) hx) (getI_nn hx) (getI_ltI hx rfl)) ?_
    refine sq 15 rfl rfl (Y_loadA (B := B) (i := (i : Int).toNat * 3) (cs := (s.flatMap enc_Gate)) (vs := [.int .i64 x1.Kind, .int .i64 x1.A, .int .i64 x1.B]) k_ag_76 k_sz_76_3 rfl rfl (hS1.rf (i := 0) rfl) (enc_Gate_len x1) (gi_seg enc_Gate_len hx)) ?_
    obtain ⟨r_1, hc, hb⟩ := bind_inv hb
    refine sc 16 rfl rfl (Yc_clos (g := kf) (vs := (.agg #[.int .i64 x1.Kind, .int .i64 x1.A, .int .i64 x1.B]) :: caps.toList) hk rfl rfl (clo_args (mc rfl mn)) (hp _ (hS1.innS (fun _ h => List.mem_of_mem_drop (i := 1) h)) x1 r_1 hc)) ?_
    rintro _ w_ ⟨rfl, hd⟩
    have hS2 := hS1.out00 hd
    refine rw_nil ?_
    refine cw_cond (b := r_1) rfl (fun hb1 => ?_) (fun hb1 => ?_)
    · skip
      have hF2 := ct hb hb1
      refine cw_seq ?_
      refine cw_region ?_
      refine sq 17 rfl rfl (Y_move (v := .int .i64 (i : Int)) rfl rfl) ?_
      refine sq 4 rfl rfl (Y_assign (v := .int .i64 (i : Int)) rfl rfl) ?_
      refine rw_nil ?_
      refine cw_ret ?_
      obtain rfl := some_inj hF2
      obtain rfl := some_inj hL1
      obtain rfl := some_inj hF1
      exact ret1 Try.results138 (v1 := .int .i64 (i : Int)) (resAt_tmp rfl) ⟨rfl, (ST.subR (R' := []) (hS2.sel [] rfl rfl) (fun _ h => by cases h))⟩
    · skip
      have hF3 := cf' hb hb1
      refine cw_skip ?_
      refine cw_region ?_
      refine sq 18 rfl rfl (Y_add (k := .i64) (a := (i : Int)) (b := 1) rfl (hf.get 8 3 rfl) rfl) ?_
      refine sq 8 rfl rfl (Y_move (v := .int .i64 (IntKind.i64.wrap ((i : Int) + 1))) rfl rfl) ?_
      refine rw_nil ?_
      obtain rfl := some_inj hF3
      exact ⟨k_1, Nat.lt_succ_self _, i + 1, (FF.cons (hf.get 0 0 rfl) (FF.cons (hf.get 1 1 rfl) (FF.cons (hf.get 7 2 rfl) (FF.cons (congrArg (Value.int .i64) (wr_succ hlt1 hN)) FF.nil)))), (hS2.sel [] rfl rfl), (by omega), hL1⟩
  · skip
    obtain rfl : k_ = 0 := by have h := of_decide_eq_false hlt; omega
    refine cw_exit rfl ?_
    obtain rfl := some_inj hL
    refine cw_seq ?_
    refine cw_region ?_
    refine sq 4 rfl rfl (Y_assign (v := .int .i64 (-1)) rfl rfl) ?_
    refine rw_nil ?_
    refine cw_ret ?_
    obtain rfl := some_inj hF1
    exact ret1 Try.results138 (v1 := .int .i64 (-1)) (resAt_tmp rfl) ⟨rfl, (ST.subR (R' := []) (hS1.sel [] rfl rfl) (fun _ h => by cases h))⟩

theorem c_slices_ContainsFunc_impl_Gate_impl_Gate (s : List TGate) (f_ : TGate → Option (Bool)) (B : Option Addr) (c n : Nat) (kf : Nat) (caps : Array Value) (Rf : List Ro) (w0 : World) (hn : s.length = n) (hk : callB Try.prog kf = true) (hp : ∀ (w : World), ST w [] w [] Rf → ∀ (x : TGate) (y : Bool), f_ x = some y → CV Try.prog kf ((.agg #[.int .i64 x.Kind, .int .i64 x.A, .int .i64 x.B]) :: caps.toList).toArray w (fun v w' => v = .bool y ∧ ST w [] w' [] [])) (hS : ST w0 [] w0 [] (⟨B, (s.flatMap enc_Gate)⟩ :: Rf)) {r_ : Bool} (hF : F_slices_ContainsFunc_impl_Gate_impl_Gate s f_ = some r_) :
    CV Try.prog 113 #[.slice B n c, .func (.func kf) #[] caps] w0 (fun v w' => v = .bool r_ ∧ ST w0 [] w' [] []) := by
  subst hn
  unfold F_slices_ContainsFunc_impl_Gate_impl_Gate at hF
  refine cv_of_cw 9 Try.func113 rfl Try.ntmps113 rfl ?_
  refine cw_seq ?_
  refine cw_region ?_
  refine sq 4 rfl rfl (Y_assign (v := .bool false) rfl rfl) ?_
  refine rw_nil ?_
  refine cw_seq ?_
  refine cw_region ?_
  refine sq 5 rfl rfl (Y_move (v := .slice B s.length c) rfl rfl) ?_
  refine sq 6 rfl rfl (Y_move (v := .func (.func kf) #[] caps) rfl rfl) ?_
  obtain ⟨r_1, hc, hF⟩ := bind_inv hF
  refine sc 7 rfl rfl (Yc_func (g := 138) (vs := [.slice B s.length c, .func (.func kf) #[] caps]) k_call_138 rfl (mc rfl (mc rfl mn)) (c_slices_IndexFunc_impl_Gate_impl_Gate s f_ B c s.length kf caps Rf _ rfl hk hp (hS.innS (subc (mem_at (i := 0) rfl) (fun _ h => List.mem_of_mem_drop (i := 1) h))) hc)) ?_
  rintro _ w_ ⟨rfl, hd⟩
  have hS1 := hS.out00 hd
  refine sq 8 rfl rfl (Y_ge (k := .i64) (a := r_1) (b := 0) rfl rfl rfl) ?_
  refine sq 4 rfl rfl (Y_assign (v := .bool (decide (0 ≤ r_1))) rfl rfl) ?_
  refine rw_nil ?_
  refine cw_ret ?_
  obtain rfl := some_inj hF
  exact ret1 Try.results113 (v1 := .bool (decide (0 ≤ r_1))) (resAt_tmp rfl) ⟨rfl, (ST.subR (R' := []) (hS1.sel [] rfl rfl) (fun _ h => by cases h))⟩

theorem c_impl_isTwo (kind : Int)  (w0 : World)  (hS : ST w0 [] w0 [] []) {r_ : Bool} (hF : F_impl_isTwo kind = some r_) :
    CV Try.prog 139 #[.int .i64 kind] w0 (fun v w' => v = .bool r_ ∧ ST w0 [] w' [] []) := by
  unfold F_impl_isTwo at hF
  refine cv_of_cw 5 Try.func139 rfl Try.ntmps139 rfl ?_
  refine cw_seq ?_
  refine cw_region ?_
  refine sq 2 rfl rfl (Y_assign (v := .bool false) rfl rfl) ?_
  refine rw_nil ?_
  refine cw_seq ?_
  refine cw_region ?_
  refine sq 3 rfl rfl (Y_move (v := .int .i64 kind) rfl rfl) ?_
  obtain ⟨r_1, hc, hF⟩ := bind_inv hF
  refine sc 4 rfl rfl (Yc_func (g := 73) (vs := [.int .i64 kind, .int .i64 9, .int .i64 11]) k_call_73 rfl (mc rfl (mc rfl (mc rfl mn))) (c_impl_within kind 9 11 _  (hS.inn0 [] rfl) hc)) ?_
  rintro _ w_ ⟨rfl, hd⟩
  have hS1 := hS.out00 hd
  refine sq 2 rfl rfl (Y_assign (v := .bool r_1) rfl rfl) ?_
  refine rw_nil ?_
  refine cw_ret ?_
  obtain rfl := some_inj hF
  exact ret1 Try.results139 (v1 := .bool r_1) (resAt_tmp rfl) ⟨rfl, (ST.subR (R' := []) (hS1.sel [] rfl rfl) (fun _ h => by cases h))⟩

theorem c_impl_IsValidGate (n : Int) (g : TGate)  (w0 : World)  (hS : ST w0 [] w0 [] []) {r_ : Bool} (hF : F_impl_IsValidGate n g = some r_) :
    CV Try.prog 115 #[.int .i64 n, .agg #[.int .i64 g.Kind, .int .i64 g.A, .int .i64 g.B]] w0 (fun v w' => v = .bool r_ ∧ ST w0 [] w' [] []) := by
  unfold F_impl_IsValidGate at hF
  refine cv_of_cw 60 Try.func115 rfl Try.ntmps115 rfl ?_
  refine cw_seq ?_
  refine cw_region ?_
  refine ss 3 rfl rfl (Ys_box (T := 76) (v := .agg #[.int .i64 g.Kind, .int .i64 g.A, .int .i64 g.B]) (cs := [.int .i64 g.Kind, .int .i64 g.A, .int .i64 g.B]) (m := 3) hS rfl rfl rfl rfl) ?_
  rintro _ w_ ⟨b, rfl, hS1⟩
  refine sq 4 rfl rfl (Y_assign (v := .bool false) rfl rfl) ?_
  refine rw_nil ?_
  refine cw_seq ?_
  refine cw_block ?_
  refine cw_seq ?_
  refine cw_region ?_
  refine sq 6 rfl rfl (Y_move (v := .int .i64 n) rfl rfl) ?_
  obtain ⟨r_1, hc, hF⟩ := bind_inv hF
  refine sc 7 rfl rfl (Yc_func (g := 73) (vs := [.int .i64 n, .int .i64 1, .int .i64 5]) k_call_73 rfl (mc rfl (mc rfl (mc rfl mn))) (c_impl_within n 1 5 _  (hS1.inn0 [] rfl) hc)) ?_
  rintro _ w_1 ⟨rfl, hd⟩
  have hS2 := hS1.out00 hd
  refine sq 8 rfl rfl (Y_not (p := r_1) rfl rfl) ?_
  refine sq 9 rfl rfl (Y_move (v := .bool (!r_1)) rfl rfl) ?_
  refine sgq 10 (B := (!(!r_1))) (v := pt (some ⟨b, 0, none⟩) 0) rfl rfl (wt_f (gd_of (t := 9) (by kernel_rfl) rfl)) (fun hg => (Y_fieldAddr (B := some ⟨b, 0, none⟩) (i := 0) (s := 0) k_fd_76_0_0_3 k_sz_3_1 rfl rfl)) ?_
  refine sgq 11 (B := (!(!r_1))) (v := .int .i64 g.Kind) rfl rfl (wt_f (gd_of (t := 9) (by kernel_rfl) rfl)) (fun hg1 => (Y_load1 (B := some ⟨b, 0, none⟩) (i := 0) (cs := [.int .i64 g.Kind, .int .i64 g.A, .int .i64 g.B]) (v := .int .i64 g.Kind) k_sc_3 rfl (gv_of (B := (!(!r_1))) (v := pt (some ⟨b, 0, none⟩) 0) hg1) (hS2.cf (i := 0) rfl) rfl)) ?_
  obtain ⟨r_2, hc1, hF⟩ := bind_inv hF
  refine sgc 12 (B := (!(!r_1))) (v := .bool r_2) (F := hS2.fn) rfl rfl (wt_f (gd_of (t := 9) (by kernel_rfl) rfl)) hS2 (fun hg2 => (Yc_func (g := 73) (vs := [.int .i64 g.Kind, .int .i64 1, .int .i64 12]) k_call_73 rfl (mc (gv_of (B := (!(!r_1))) (v := .int .i64 g.Kind) hg2) (mc rfl (mc rfl mn))) (CV.mono (c_impl_within g.Kind 1 12 _  (hS2.inn0 [] rfl) (gb_inv hc1 hg2)) (by rintro _ _ ⟨rfl, h⟩; exact ⟨rfl, hS2.out00 h⟩)))) ?_
  rintro w_2 hS3
  have hS3 : ST _ _ w_2 _ _ := hS3
  refine sgq 13 (B := (!(!r_1))) (v := .bool (!r_2)) rfl rfl (wt_f (gd_of (t := 9) (by kernel_rfl) rfl)) (fun hg3 => (Y_not (p := r_2) rfl (gv_of (B := (!(!r_1))) (v := .bool r_2) hg3))) ?_
  refine sq 14 rfl rfl (Y_or (b := (!r_1)) (z := (!r_2)) rfl rfl rfl rfl) ?_
  refine sq 5 rfl rfl (Y_assign (v := .bool ((!r_1) || (!r_2))) rfl rfl) ?_
  refine rw_nil ?_
  refine cw_cond (b := ((!r_1) || (!r_2))) rfl (fun hb => ?_) (fun hb => ?_)
  · skip
    have hF1 := ct hF hb
    refine cw_seq ?_
    refine cw_region ?_
    refine sq 4 rfl rfl (Y_assign (v := .bool false) rfl rfl) ?_
    refine rw_nil ?_
    refine cw_ret ?_
    obtain rfl := some_inj hF1
    exact ret1 Try.results115 (v1 := .bool false) (resAt_tmp rfl) ⟨rfl, (ST.subR (R' := []) (hS3.sel [] rfl rfl) (fun _ h => by cases h))⟩
  · skip
    have hF2 := cf' hF hb
    refine cw_seq ?_
    refine cw_region ?_
    refine sq 16 rfl rfl (Y_fieldAddr (B := some ⟨b, 0, none⟩) (i := 0) (s := 0) k_fd_76_0_0_3 k_sz_3_1 rfl rfl) ?_
    refine sq 17 rfl rfl (Y_load1 (B := some ⟨b, 0, none⟩) (i := 0) (cs := [.int .i64 g.Kind, .int .i64 g.A, .int .i64 g.B]) (v := .int .i64 g.Kind) k_sc_3 rfl rfl (hS3.cf (i := 0) rfl) rfl) ?_
    refine sq 18 rfl rfl (Y_eq (k := .i64) (a := g.Kind) (b := 12) rfl rfl rfl) ?_
    refine sq 15 rfl rfl (Y_assign (v := .bool (g.Kind == 12)) rfl rfl) ?_
    refine rw_nil ?_
    refine cw_cond (b := (g.Kind == 12)) rfl (fun hb1 => ?_) (fun hb1 => ?_)
    · skip
      have hF3 := ct hF2 hb1
      refine cw_seq ?_
      refine cw_region ?_
      refine sq 19 rfl rfl (Y_fieldAddr (B := some ⟨b, 0, none⟩) (i := 0) (s := 0) k_fd_76_1_1_3 k_sz_3_1 rfl rfl) ?_
      refine sq 20 rfl rfl (Y_load1 (B := some ⟨b, 0, none⟩) (i := 1) (cs := [.int .i64 g.Kind, .int .i64 g.A, .int .i64 g.B]) (v := .int .i64 g.A) k_sc_3 rfl rfl (hS3.cf (i := 0) rfl) rfl) ?_
      refine sq 21 rfl rfl (Y_eq (k := .i64) (a := g.A) (b := 0) rfl rfl rfl) ?_
      refine sq 22 rfl rfl (Y_move (v := .bool (g.A == 0)) rfl rfl) ?_
      refine sgq 23 (B := (g.A == 0)) (v := pt (some ⟨b, 0, none⟩) 2) rfl rfl (wt_t (gd_of (t := 22) (by kernel_rfl) rfl)) (fun hg4 => (Y_fieldAddr (B := some ⟨b, 0, none⟩) (i := 0) (s := 0) k_fd_76_2_2_3 k_sz_3_1 rfl rfl)) ?_
      refine sgq 24 (B := (g.A == 0)) (v := .int .i64 g.B) rfl rfl (wt_t (gd_of (t := 22) (by kernel_rfl) rfl)) (fun hg5 => (Y_load1 (B := some ⟨b, 0, none⟩) (i := 2) (cs := [.int .i64 g.Kind, .int .i64 g.A, .int .i64 g.B]) (v := .int .i64 g.B) k_sc_3 rfl (gv_of (B := (g.A == 0)) (v := pt (some ⟨b, 0, none⟩) 2) hg5) (hS3.cf (i := 0) rfl) rfl)) ?_
      refine sgq 25 (B := (g.A == 0)) (v := .bool (g.B == 0)) rfl rfl (wt_t (gd_of (t := 22) (by kernel_rfl) rfl)) (fun hg6 => (Y_eq (k := .i64) (a := g.B) (b := 0) rfl (gv_of (B := (g.A == 0)) (v := .int .i64 g.B) hg6) rfl)) ?_
      refine sq 26 rfl rfl (Y_and (b := (g.A == 0)) (z := (g.B == 0)) rfl rfl rfl rfl) ?_
      refine sq 4 rfl rfl (Y_assign (v := .bool ((g.A == 0) && (g.B == 0))) rfl rfl) ?_
      refine rw_nil ?_
      refine cw_ret ?_
      obtain rfl := some_inj hF3
      exact ret1 Try.results115 (v1 := .bool ((g.A == 0) && (g.B == 0))) (resAt_tmp rfl) ⟨rfl, (ST.subR (R' := []) (hS3.sel [] rfl rfl) (fun _ h => by cases h))⟩
    · skip
      have hF4 := cf' hF2 hb1
      refine cw_seq ?_
      refine cw_region ?_
      refine sq 28 rfl rfl (Y_fieldAddr (B := some ⟨b, 0, none⟩) (i := 0) (s := 0) k_fd_76_0_0_3 k_sz_3_1 rfl rfl) ?_
      refine sq 29 rfl rfl (Y_load1 (B := some ⟨b, 0, none⟩) (i := 0) (cs := [.int .i64 g.Kind, .int .i64 g.A, .int .i64 g.B]) (v := .int .i64 g.Kind) k_sc_3 rfl rfl (hS3.cf (i := 0) rfl) rfl) ?_
      obtain ⟨r_3, hc2, hF4⟩ := bind_inv hF4
      refine sc 30 rfl rfl (Yc_func (g := 139) (vs := [.int .i64 g.Kind]) k_call_139 rfl (mc rfl mn) (c_impl_isTwo g.Kind _  (hS3.inn0 [] rfl) hc2)) ?_
      rintro _ w_3 ⟨rfl, hd1⟩
      have hS4 := hS3.out00 hd1
      refine sq 27 rfl rfl (Y_assign (v := .bool r_3) rfl rfl) ?_
      refine rw_nil ?_
      refine cw_cond (b := r_3) rfl (fun hb2 => ?_) (fun hb2 => ?_)
      · skip
        have hF5 := ct hF4 hb2
        refine cw_seq ?_
        refine cw_region ?_
        refine sq 31 rfl rfl (Y_fieldAddr (B := some ⟨b, 0, none⟩) (i := 0) (s := 0) k_fd_76_1_1_3 k_sz_3_1 rfl rfl) ?_
        refine sq 32 rfl rfl (Y_load1 (B := some ⟨b, 0, none⟩) (i := 1) (cs := [.int .i64 g.Kind, .int .i64 g.A, .int .i64 g.B]) (v := .int .i64 g.A) k_sc_3 rfl rfl (hS4.cf (i := 0) rfl) rfl) ?_
        refine sq 33 rfl rfl (Y_move (v := .int .i64 n) rfl rfl) ?_
        refine sq 34 rfl rfl (Y_sub (k := .i64) (a := n) (b := 1) rfl rfl rfl) ?_
        obtain ⟨r_4, hc3, hF5⟩ := bind_inv hF5
        refine sc 35 rfl rfl (Yc_func (g := 73) (vs := [.int .i64 g.A, .int .i64 0, .int .i64 (IntKind.i64.wrap (n - 1))]) k_call_73 rfl (mc rfl (mc rfl (mc rfl mn))) (c_impl_within g.A 0 (IntKind.i64.wrap (n - 1)) _  (hS4.inn0 [] rfl) hc3)) ?_
        rintro _ w_4 ⟨rfl, hd2⟩
        have hS5 := hS4.out00 hd2
        refine sq 36 rfl rfl (Y_move (v := .bool r_4) rfl rfl) ?_
        refine sgq 37 (B := r_4) (v := pt (some ⟨b, 0, none⟩) 2) rfl rfl (wt_t (gd_of (t := 36) (by kernel_rfl) rfl)) (fun hg7 => (Y_fieldAddr (B := some ⟨b, 0, none⟩) (i := 0) (s := 0) k_fd_76_2_2_3 k_sz_3_1 rfl rfl)) ?_
        refine sgq 38 (B := r_4) (v := .int .i64 g.B) rfl rfl (wt_t (gd_of (t := 36) (by kernel_rfl) rfl)) (fun hg8 => (Y_load1 (B := some ⟨b, 0, none⟩) (i := 2) (cs := [.int .i64 g.Kind, .int .i64 g.A, .int .i64 g.B]) (v := .int .i64 g.B) k_sc_3 rfl (gv_of (B := r_4) (v := pt (some ⟨b, 0, none⟩) 2) hg8) (hS5.cf (i := 0) rfl) rfl)) ?_
        refine sgq 39 (B := r_4) (v := .int .i64 n) rfl rfl (wt_t (gd_of (t := 36) (by kernel_rfl) rfl)) (fun hg9 => (Y_move (v := .int .i64 n) rfl rfl)) ?_
        refine sgq 40 (B := r_4) (v := .int .i64 (IntKind.i64.wrap (n - 1))) rfl rfl (wt_t (gd_of (t := 36) (by kernel_rfl) rfl)) (fun hg10 => (Y_sub (k := .i64) (a := n) (b := 1) rfl (gv_of (B := r_4) (v := .int .i64 n) hg10) rfl)) ?_
        obtain ⟨r_5, hc4, hF5⟩ := bind_inv hF5
        refine sgc 41 (B := r_4) (v := .bool r_5) (F := hS5.fn) rfl rfl (wt_t (gd_of (t := 36) (by kernel_rfl) rfl)) hS5 (fun hg11 => (Yc_func (g := 73) (vs := [.int .i64 g.B, .int .i64 0, .int .i64 (IntKind.i64.wrap (n - 1))]) k_call_73 rfl (mc (gv_of (B := r_4) (v := .int .i64 g.B) hg11) (mc rfl (mc (gv_of (B := r_4) (v := .int .i64 (IntKind.i64.wrap (n - 1))) hg11) mn))) (CV.mono (c_impl_within g.B 0 (IntKind.i64.wrap (n - 1)) _  (hS5.inn0 [] rfl) (gb_inv hc4 hg11)) (by rintro _ _ ⟨rfl, h⟩; exact ⟨rfl, hS5.out00 h⟩)))) ?_
        rintro w_5 hS6
        have hS6 : ST _ _ w_5 _ _ := hS6
        refine sq 42 rfl rfl (Y_and (b := r_4) (z := r_5) rfl rfl rfl rfl) ?_
        refine sq 43 rfl rfl (Y_move (v := .bool (r_4 && r_5)) rfl rfl) ?_
        refine sgq 44 (B := (r_4 && r_5)) (v := pt (some ⟨b, 0, none⟩) 1) rfl rfl (wt_t (gd_of (t := 43) (by kernel_rfl) rfl)) (fun hg12 => (Y_fieldAddr (B := some ⟨b, 0, none⟩) (i := 0) (s := 0) k_fd_76_1_1_3 k_sz_3_1 rfl rfl)) ?_
        refine sgq 45 (B := (r_4 && r_5)) (v := .int .i64 g.A) rfl rfl (wt_t (gd_of (t := 43) (by kernel_rfl) rfl)) (fun hg13 => (Y_load1 (B := some ⟨b, 0, none⟩) (i := 1) (cs := [.int .i64 g.Kind, .int .i64 g.A, .int .i64 g.B]) (v := .int .i64 g.A) k_sc_3 rfl (gv_of (B := (r_4 && r_5)) (v := pt (some ⟨b, 0, none⟩) 1) hg13) (hS6.cf (i := 0) rfl) rfl)) ?_
        refine sgq 46 (B := (r_4 && r_5)) (v := pt (some ⟨b, 0, none⟩) 2) rfl rfl (wt_t (gd_of (t := 43) (by kernel_rfl) rfl)) (fun hg14 => (Y_fieldAddr (B := some ⟨b, 0, none⟩) (i := 0) (s := 0) k_fd_76_2_2_3 k_sz_3_1 rfl rfl)) ?_
        refine sgq 47 (B := (r_4 && r_5)) (v := .int .i64 g.B) rfl rfl (wt_t (gd_of (t := 43) (by kernel_rfl) rfl)) (fun hg15 => (Y_load1 (B := some ⟨b, 0, none⟩) (i := 2) (cs := [.int .i64 g.Kind, .int .i64 g.A, .int .i64 g.B]) (v := .int .i64 g.B) k_sc_3 rfl (gv_of (B := (r_4 && r_5)) (v := pt (some ⟨b, 0, none⟩) 2) hg15) (hS6.cf (i := 0) rfl) rfl)) ?_
        refine sgq 48 (B := (r_4 && r_5)) (v := .bool (g.A != g.B)) rfl rfl (wt_t (gd_of (t := 43) (by kernel_rfl) rfl)) (fun hg16 => (Y_ne (k := .i64) (a := g.A) (b := g.B) rfl (gv_of (B := (r_4 && r_5)) (v := .int .i64 g.A) hg16) (gv_of (B := (r_4 && r_5)) (v := .int .i64 g.B) hg16))) ?_
        refine sq 49 rfl rfl (Y_and (b := (r_4 && r_5)) (z := (g.A != g.B)) rfl rfl rfl rfl) ?_
        refine sq 4 rfl rfl (Y_assign (v := .bool ((r_4 && r_5) && (g.A != g.B))) rfl rfl) ?_
        refine rw_nil ?_
        refine cw_ret ?_
        obtain rfl := some_inj hF5
        exact ret1 Try.results115 (v1 := .bool ((r_4 && r_5) && (g.A != g.B))) (resAt_tmp rfl) ⟨rfl, (ST.subR (R' := []) (hS6.sel [] rfl rfl) (fun _ h => by cases h))⟩
      · skip
        have hF6 := cf' hF4 hb2
        refine cw_skip ?_
        refine cw_seq ?_
        refine cw_region ?_
        refine sq 50 rfl rfl (Y_fieldAddr (B := some ⟨b, 0, none⟩) (i := 0) (s := 0) k_fd_76_1_1_3 k_sz_3_1 rfl rfl) ?_
        refine sq 51 rfl rfl (Y_load1 (B := some ⟨b, 0, none⟩) (i := 1) (cs := [.int .i64 g.Kind, .int .i64 g.A, .int .i64 g.B]) (v := .int .i64 g.A) k_sc_3 rfl rfl (hS4.cf (i := 0) rfl) rfl) ?_
        refine sq 52 rfl rfl (Y_move (v := .int .i64 n) rfl rfl) ?_
        refine sq 53 rfl rfl (Y_sub (k := .i64) (a := n) (b := 1) rfl rfl rfl) ?_
        obtain ⟨r_6, hc5, hF6⟩ := bind_inv hF6
        refine sc 54 rfl rfl (Yc_func (g := 73) (vs := [.int .i64 g.A, .int .i64 0, .int .i64 (IntKind.i64.wrap (n - 1))]) k_call_73 rfl (mc rfl (mc rfl (mc rfl mn))) (c_impl_within g.A 0 (IntKind.i64.wrap (n - 1)) _  (hS4.inn0 [] rfl) hc5)) ?_
        rintro _ w_6 ⟨rfl, hd3⟩
        have hS7 := hS4.out00 hd3
        refine sq 55 rfl rfl (Y_move (v := .bool r_6) rfl rfl) ?_
        refine sgq 56 (B := r_6) (v := pt (some ⟨b, 0, none⟩) 2) rfl rfl (wt_t (gd_of (t := 55) (by kernel_rfl) rfl)) (fun hg17 => (Y_fieldAddr (B := some ⟨b, 0, none⟩) (i := 0) (s := 0) k_fd_76_2_2_3 k_sz_3_1 rfl rfl)) ?_
        refine sgq 57 (B := r_6) (v := .int .i64 g.B) rfl rfl (wt_t (gd_of (t := 55) (by kernel_rfl) rfl)) (fun hg18 => (Y_load1 (B := some ⟨b, 0, none⟩) (i := 2) (cs := [.int .i64 g.Kind, .int .i64 g.A, .int .i64 g.B]) (v := .int .i64 g.B) k_sc_3 rfl (gv_of (B := r_6) (v := pt (some ⟨b, 0, none⟩) 2) hg18) (hS7.cf (i := 0) rfl) rfl)) ?_
        refine sgq 58 (B := r_6) (v := .bool (g.B == 0)) rfl rfl (wt_t (gd_of (t := 55) (by kernel_rfl) rfl)) (fun hg19 => (Y_eq (k := .i64) (a := g.B) (b := 0) rfl (gv_of (B := r_6) (v := .int .i64 g.B) hg19) rfl)) ?_
        refine sq 59 rfl rfl (Y_and (b := r_6) (z := (g.B == 0)) rfl rfl rfl rfl) ?_
        refine sq 4 rfl rfl (Y_assign (v := .bool (r_6 && (g.B == 0))) rfl rfl) ?_
        refine rw_nil ?_
        refine cw_ret ?_
        obtain rfl := some_inj hF6
        exact ret1 Try.results115 (v1 := .bool (r_6 && (g.B == 0))) (resAt_tmp rfl) ⟨rfl, (ST.subR (R' := []) (hS7.sel [] rfl rfl) (fun _ h => by cases h))⟩

theorem c_impl_IsValidCircuit_1 (g : TGate) (p : TCircuit) (B : Option Addr) (B1 : Option Addr) (c n : Nat) (w0 : World) (hn : p.Gates.length = n) (hS : ST w0 [] w0 [] [⟨B, [.int .i64 p.Qubits, .slice B1 n c]⟩, ⟨B1, (p.Gates.flatMap enc_Gate)⟩]) {r_ : Bool} (hF : F_impl_IsValidCircuit_1 g p = some r_) :
    CV Try.prog 114 #[.agg #[.int .i64 g.Kind, .int .i64 g.A, .int .i64 g.B], pt B 0] w0 (fun v w' => v = .bool r_ ∧ ST w0 [] w' [] []) := by
  subst hn
  unfold F_impl_IsValidCircuit_1 at hF
  refine cv_of_cw 9 Try.func114 rfl Try.ntmps114 rfl ?_
  refine cw_seq ?_
  refine cw_region ?_
  refine ss 2 rfl rfl (Ys_box (T := 76) (v := .agg #[.int .i64 g.Kind, .int .i64 g.A, .int .i64 g.B]) (cs := [.int .i64 g.Kind, .int .i64 g.A, .int .i64 g.B]) (m := 3) hS rfl rfl rfl rfl) ?_
  rintro _ w_ ⟨b, rfl, hS1⟩
  refine sq 3 rfl rfl (Y_assign (v := .bool false) rfl rfl) ?_
  refine rw_nil ?_
  refine cw_seq ?_
  refine cw_region ?_
  refine sq 4 rfl rfl (Y_fieldAddr (B := B) (i := 0) (s := 0) k_fd_28_0_0_3 k_sz_3_1 rfl rfl) ?_
  refine sq 5 rfl rfl (Y_load1 (B := B) (i := 0) (cs := [.int .i64 p.Qubits, .slice B1 p.Gates.length c]) (v := .int .i64 p.Qubits) k_sc_3 rfl rfl (hS1.rf (i := 0) rfl) rfl) ?_
  refine sq 6 rfl rfl (Y_loadA (B := some ⟨b, 0, none⟩) (i := 0) (cs := [.int .i64 g.Kind, .int .i64 g.A, .int .i64 g.B]) (vs := [.int .i64 g.Kind, .int .i64 g.A, .int .i64 g.B]) k_ag_76 k_sz_76_3 rfl rfl (hS1.cf (i := 0) rfl) rfl rfl) ?_
  obtain ⟨r_1, hc, hF⟩ := bind_inv hF
  refine sc 7 rfl rfl (Yc_func (g := 115) (vs := [.int .i64 p.Qubits, .agg #[.int .i64 g.Kind, .int .i64 g.A, .int .i64 g.B]]) k_call_115 rfl (mc rfl (mc rfl mn)) (c_impl_IsValidGate p.Qubits g _  (hS1.inn0 [] rfl) hc)) ?_
  rintro _ w_1 ⟨rfl, hd⟩
  have hS2 := hS1.out00 hd
  refine sq 8 rfl rfl (Y_not (p := r_1) rfl rfl) ?_
  refine sq 3 rfl rfl (Y_assign (v := .bool (!r_1)) rfl rfl) ?_
  refine rw_nil ?_
  refine cw_ret ?_
  obtain rfl := some_inj hF
  exact ret1 Try.results114 (v1 := .bool (!r_1)) (resAt_tmp rfl) ⟨rfl, (ST.subR (R' := []) (hS2.sel [] rfl rfl) (fun _ h => by cases h))⟩

theorem c_impl_IsValidCircuit (c : TCircuit) (B : Option Addr) (c1 n : Nat) (w0 : World) (hn : c.Gates.length = n) (hS : ST w0 [] w0 [] [⟨B, (c.Gates.flatMap enc_Gate)⟩]) {r_ : Bool} (hF : F_impl_IsValidCircuit c = some r_) :
    CV Try.prog 66 #[.agg #[.int .i64 c.Qubits, .slice B n c1]] w0 (fun v w' => v = .bool r_ ∧ ST w0 [] w' [] []) := by
  subst hn
  unfold F_impl_IsValidCircuit at hF
  refine cv_of_cw 19 Try.func66 rfl Try.ntmps66 rfl ?_
  refine cw_seq ?_
  refine cw_region ?_
  refine ss 1 rfl rfl (Ys_box (T := 28) (v := .agg #[.int .i64 c.Qubits, .slice B c.Gates.length c1]) (cs := [.int .i64 c.Qubits, .slice B c.Gates.length c1]) (m := 2) hS rfl rfl rfl rfl) ?_
  rintro _ w_ ⟨b, rfl, hS1⟩
  refine sq 2 rfl rfl (Y_assign (v := .bool false) rfl rfl) ?_
  refine rw_nil ?_
  refine cw_seq ?_
  refine cw_region ?_
  refine sq 3 rfl rfl (Y_fieldAddr (B := some ⟨b, 0, none⟩) (i := 0) (s := 0) k_fd_28_0_0_3 k_sz_3_1 rfl rfl) ?_
  refine sq 4 rfl rfl (Y_load1 (B := some ⟨b, 0, none⟩) (i := 0) (cs := [.int .i64 c.Qubits, .slice B c.Gates.length c1]) (v := .int .i64 c.Qubits) k_sc_3 rfl rfl (hS1.cf (i := 0) rfl) rfl) ?_
  obtain ⟨r_1, hc, hF⟩ := bind_inv hF
  refine sc 5 rfl rfl (Yc_func (g := 73) (vs := [.int .i64 c.Qubits, .int .i64 1, .int .i64 5]) k_call_73 rfl (mc rfl (mc rfl (mc rfl mn))) (c_impl_within c.Qubits 1 5 _  (hS1.inn0 [] rfl) hc)) ?_
  rintro _ w_1 ⟨rfl, hd⟩
  have hS2 := hS1.out00 hd
  refine sq 6 rfl rfl (Y_move (v := .bool r_1) rfl rfl) ?_
  refine sgq 7 (B := r_1) (v := pt (some ⟨b, 0, none⟩) 1) rfl rfl (wt_t (gd_of (t := 6) (by kernel_rfl) rfl)) (fun hg => (Y_fieldAddr (B := some ⟨b, 0, none⟩) (i := 0) (s := 0) k_fd_28_1_1_26 k_sz_26_1 rfl rfl)) ?_
  refine sgq 8 (B := r_1) (v := .slice B c.Gates.length c1) rfl rfl (wt_t (gd_of (t := 6) (by kernel_rfl) rfl)) (fun hg1 => (Y_load1 (B := some ⟨b, 0, none⟩) (i := 1) (cs := [.int .i64 c.Qubits, .slice B c.Gates.length c1]) (v := .slice B c.Gates.length c1) k_sc_26 rfl (gv_of (B := r_1) (v := pt (some ⟨b, 0, none⟩) 1) hg1) (hS2.cf (i := 0) rfl) rfl)) ?_
  refine sgq 9 (B := r_1) (v := .int .i64 (c.Gates.length : Int)) rfl rfl (wt_t (gd_of (t := 6) (by kernel_rfl) rfl)) (fun hg2 => (Y_len (B := B) (m := c.Gates.length) (c := c1) k_sl_26_76 rfl (gv_of (B := r_1) (v := .slice B c.Gates.length c1) hg2))) ?_
  refine sgq 10 (B := r_1) (v := .bool (decide ((c.Gates.length : Int) ≤ 400))) rfl rfl (wt_t (gd_of (t := 6) (by kernel_rfl) rfl)) (fun hg3 => (Y_le (k := .i64) (a := (c.Gates.length : Int)) (b := 400) rfl (gv_of (B := r_1) (v := .int .i64 (c.Gates.length : Int)) hg3) rfl)) ?_
  refine sq 11 rfl rfl (Y_and (b := r_1) (z := (decide ((c.Gates.length : Int) ≤ 400))) rfl rfl rfl rfl) ?_
  refine sq 12 rfl rfl (Y_move (v := .bool (r_1 && (decide ((c.Gates.length : Int) ≤ 400)))) rfl rfl) ?_
  refine sgq 13 (B := (r_1 && (decide ((c.Gates.length : Int) ≤ 400)))) (v := pt (some ⟨b, 0, none⟩) 1) rfl rfl (wt_t (gd_of (t := 12) (by kernel_rfl) rfl)) (fun hg4 => (Y_fieldAddr (B := some ⟨b, 0, none⟩) (i := 0) (s := 0) k_fd_28_1_1_26 k_sz_26_1 rfl rfl)) ?_
  refine sgq 14 (B := (r_1 && (decide ((c.Gates.length : Int) ≤ 400)))) (v := .slice B c.Gates.length c1) rfl rfl (wt_t (gd_of (t := 12) (by kernel_rfl) rfl)) (fun hg5 => (Y_load1 (B := some ⟨b, 0, none⟩) (i := 1) (cs := [.int .i64 c.Qubits, .slice B c.Gates.length c1]) (v := .slice B c.Gates.length c1) k_sc_26 rfl (gv_of (B := (r_1 && (decide ((c.Gates.length : Int) ≤ 400)))) (v := pt (some ⟨b, 0, none⟩) 1) hg5) (hS2.cf (i := 0) rfl) rfl)) ?_
  refine sgq 15 (B := (r_1 && (decide ((c.Gates.length : Int) ≤ 400)))) (v := .func (.func 114) #[] #[pt (some ⟨b, 0, none⟩) 0]) rfl rfl (wt_t (gd_of (t := 12) (by kernel_rfl) rfl)) (fun hg6 => (Y_makeFunc (cs := [pt (some ⟨b, 0, none⟩) 0]) rfl rfl (mc rfl mn))) ?_
  obtain ⟨r_2, hc1, hF⟩ := bind_inv hF
  refine sgc 16 (B := (r_1 && (decide ((c.Gates.length : Int) ≤ 400)))) (v := .bool r_2) (F := hS2.fn) rfl rfl (wt_t (gd_of (t := 12) (by kernel_rfl) rfl)) hS2 (fun hg7 => (Yc_func (g := 113) (vs := [.slice B c.Gates.length c1, .func (.func 114) #[] #[pt (some ⟨b, 0, none⟩) 0]]) k_call_113 rfl (mc (gv_of (B := (r_1 && (decide ((c.Gates.length : Int) ≤ 400)))) (v := .slice B c.Gates.length c1) hg7) (mc (gv_of (B := (r_1 && (decide ((c.Gates.length : Int) ≤ 400)))) (v := .func (.func 114) #[] #[pt (some ⟨b, 0, none⟩) 0]) hg7) mn)) (CV.mono (c_slices_ContainsFunc_impl_Gate_impl_Gate c.Gates (fun x_0 => F_impl_IsValidCircuit_1 x_0 c) B c1 c.Gates.length 114 (#[pt (some ⟨b, 0, none⟩) 0]) [⟨some ⟨b, 0, none⟩, [.int .i64 c.Qubits, .slice B c.Gates.length c1]⟩, ⟨B, (c.Gates.flatMap enc_Gate)⟩] _ rfl k_call_114 (fun w hw x_0 y_0 h_ => c_impl_IsValidCircuit_1 x_0 c (some ⟨b, 0, none⟩) B c1 c.Gates.length w rfl hw h_) (hS2.inn0 [(true, 0), (false, 0), (true, 0)] rfl) (gb_inv hc1 hg7)) (by rintro _ _ ⟨rfl, h⟩; exact ⟨rfl, hS2.out00 h⟩)))) ?_
  rintro w_2 hS3
  have hS3 : ST _ _ w_2 _ _ := hS3
  refine sgq 17 (B := (r_1 && (decide ((c.Gates.length : Int) ≤ 400)))) (v := .bool (!r_2)) rfl rfl (wt_t (gd_of (t := 12) (by kernel_rfl) rfl)) (fun hg8 => (Y_not (p := r_2) rfl (gv_of (B := (r_1 && (decide ((c.Gates.length : Int) ≤ 400)))) (v := .bool r_2) hg8))) ?_
  refine sq 18 rfl rfl (Y_and (b := (r_1 && (decide ((c.Gates.length : Int) ≤ 400)))) (z := (!r_2)) rfl rfl rfl rfl) ?_
  refine sq 2 rfl rfl (Y_assign (v := .bool ((r_1 && (decide ((c.Gates.length : Int) ≤ 400))) && (!r_2))) rfl rfl) ?_
  refine rw_nil ?_
  refine cw_ret ?_
  obtain rfl := some_inj hF
  exact ret1 Try.results66 (v1 := .bool ((r_1 && (decide ((c.Gates.length : Int) ≤ 400))) && (!r_2))) (resAt_tmp rfl) ⟨rfl, (ST.subR (R' := []) (hS3.sel [] rfl rfl) (fun _ h => by cases h))⟩

theorem c_impl_polynomial_add (p : List (Int × Int)) (mask : Int) (coef : Int) (g : Nat) (w0 : World)  (hS : ST w0 (bl [⟨(some ⟨g, 0, none⟩), .mp (mpE (Value.int .i64) (Value.int .i64) p), [], 0⟩]) w0 [⟨(some ⟨g, 0, none⟩), .mp (mpE (Value.int .i64) (Value.int .i64) p), [], 0⟩] []) {m : List (Int × Int)} (hF : F_impl_polynomial_add p mask coef = some m) :
    CV Try.prog 105 #[.map (some g), .int .i64 mask, .int .i64 coef] w0 (fun v w' => v = .tuple #[] ∧ ST w0 (bl [⟨(some ⟨g, 0, none⟩), .mp (mpE (Value.int .i64) (Value.int .i64) p), [], 0⟩]) w' [⟨(some ⟨g, 0, none⟩), .mp (mpE (Value.int .i64) (Value.int .i64) m), [], 0⟩] []) := by
  unfold F_impl_polynomial_add at hF
  refine cv_of_cw 16 Try.func105 rfl Try.ntmps105 rfl ?_
  refine cw_region ?_
  refine sq 6 rfl rfl (Y_move (v := .map (some g)) rfl rfl) ?_
  refine sq 7 rfl rfl (Y_move (v := .int .i64 mask) rfl rfl) ?_
  refine sq 8 rfl rfl (Y_move (v := .map (some g)) rfl rfl) ?_
  refine sq 9 rfl rfl (Y_move (v := .int .i64 mask) rfl rfl) ?_
  refine sq 10 rfl rfl (Y_mapGet (kE := (Value.int .i64)) (vE := (Value.int .i64)) (l := p) (a := mask) (d := 0) (g := g) (i := 0) hS (keyInt k_int_3_i64) k_map_105_3_3 k_zero_3 rfl rfl rfl rfl) ?_
  refine sq 11 rfl rfl (Y_move (v := .int .i64 coef) rfl rfl) ?_
  refine sq 12 rfl rfl (Y_add (k := .i64) (a := (mgt p mask 0)) (b := coef) rfl rfl rfl) ?_
  refine sq 13 rfl rfl (Y_rem (k := .i64) (a := (IntKind.i64.wrap ((mgt p mask 0) + coef))) (b := 8) rfl rfl rfl (by decide)) ?_
  refine sq 14 rfl rfl (Y_add (k := .i64) (a := (Int.tmod (IntKind.i64.wrap ((mgt p mask 0) + coef)) 8)) (b := 8) rfl rfl rfl) ?_
  refine sq 15 rfl rfl (Y_rem (k := .i64) (a := (IntKind.i64.wrap ((Int.tmod (IntKind.i64.wrap ((mgt p mask 0) + coef)) 8) + 8))) (b := 8) rfl rfl rfl (by decide)) ?_
  refine ss0 rfl rfl (Ys_mapPut (kE := (Value.int .i64)) (vE := (Value.int .i64)) (l := p) (a := mask) (b := (Int.tmod (IntKind.i64.wrap ((Int.tmod (IntKind.i64.wrap ((mgt p mask 0) + coef)) 8) + 8)) 8)) (g := g) (i := 0) hS (keyInt k_int_3_i64) k_map_105_3_3 rfl rfl rfl rfl rfl rfl) ?_
  rintro _ w_ ⟨rfl, hS1⟩
  refine rw_nil ?_
  obtain rfl := some_inj hF
  exact ret0 Try.results105  ⟨rfl, (ST.subR (R' := []) (hS1.sel [0] rfl rfl) (fun _ h => by cases h))⟩

theorem c_impl_bitsOf (mask : Int)  (w0 : World)  (hS : ST w0 [] w0 [] []) {r_ : List Int} (hF : F_impl_bitsOf mask = some r_) :
    CV Try.prog 136 #[.int .i64 mask] w0 (fun v w' => ∃ (B : Option Addr) (c : Nat), v = .slice B r_.length c ∧ ST w0 [] w' [⟨B, 3, (r_.flatMap encI), c * 1⟩] []) := by
  unfold F_impl_bitsOf at hF
  refine cv_of_cw 20 Try.func136 rfl Try.ntmps136 rfl ?_
  refine cw_seq ?_
  refine cw_region ?_
  refine sq 2 rfl rfl (Y_assign (v := .slice none 0 0) rfl rfl) ?_
  refine rw_nil ?_
  refine cw_seq ?_
  refine cw_region ?_
  refine ss 5 rfl rfl (Ys_bslice0 (s := 1) (e := 3) hS k_sl_137_3 k_sz_3_1 rfl) ?_
  rintro _ w_ ⟨b, rfl, hS1⟩
  refine sq 3 rfl rfl (Y_assign (v := .slice (some ⟨b, 0, none⟩) 0 0) rfl rfl) ?_
  refine rw_nil ?_
  refine cw_seq ?_
  obtain ⟨z, hz, hF1⟩ := bind_inv hF
  refine cw_block ?_
  refine cw_loop (fun k f w => ∃ (mask1 : Int) (out : List Int) (B1 : Option Addr) (c1 : Nat), FF f [(0, .int .i64 mask1), (3, .slice B1 out.length c1)] ∧ ST w0 [] w [⟨B1, 3, (out.flatMap encI), c1 * 1⟩] [] ∧ whX F_impl_bitsOf_l1 k (mask1, out) = some z) fuel ⟨mask, [], some ⟨b, 0, none⟩, 0, (FF.cons rfl (FF.cons rfl FF.nil)), (hS1.sel [0] rfl rfl), hz⟩ ?_
  rintro k_ f w ⟨mask1, out, B1, c1, hf, hS2, hL⟩
  obtain ⟨k_1, y, rfl, hb, hL1⟩ := whX_go hL
  unfold F_impl_bitsOf_l1 at hb
  refine cw_seq ?_
  refine cw_seq ?_
  refine cw_region ?_
  refine sq 6 rfl rfl (Y_move (v := .int .i64 mask1) rfl (hf.get 0 0 rfl)) ?_
  refine sq 7 rfl rfl (Y_ne (k := .i64) (a := mask1) (b := 0) rfl rfl rfl) ?_
  refine rw_nil ?_
  refine cw_cond (b := (mask1 != 0)) rfl (fun hb1 => ?_) (fun hb1 => ?_)
  · skip
    have hF2 := ct hb hb1
    refine cw_skip ?_
    refine cw_block ?_
    refine cw_seq ?_
    refine cw_region ?_
    refine sq 8 rfl rfl (Y_move (v := .int .i64 mask1) rfl (hf.get 0 0 rfl)) ?_
    refine sq 9 rfl rfl (Y_move (v := .int .i64 mask1) rfl (hf.get 0 0 rfl)) ?_
    refine sq 10 rfl rfl (Y_neg (k := .i64) (a := mask1) rfl rfl) ?_
    refine sq 11 rfl rfl (Y_band (k := .i64) (a := mask1) (b := (IntKind.i64.wrap (-mask1))) rfl rfl rfl) ?_
    refine sq 4 rfl rfl (Y_assign (v := .int .i64 (bits .and .i64 mask1 (IntKind.i64.wrap (-mask1)))) rfl rfl) ?_
    refine rw_nil ?_
    refine cw_seq ?_
    refine cw_region ?_
    refine sq 12 rfl rfl (Y_move (v := .slice B1 out.length c1) rfl (hf.get 3 1 rfl)) ?_
    refine sq 13 rfl rfl (Y_move (v := .int .i64 (bits .and .i64 mask1 (IntKind.i64.wrap (-mask1)))) rfl rfl) ?_
    refine ss 14 rfl rfl (Ys_bslice (s := 1) (len := 1) (vs := [(0, .int .i64 (bits .and .i64 mask1 (IntKind.i64.wrap (-mask1))))]) (cs := [.int .i64 (bits .and .i64 mask1 (IntKind.i64.wrap (-mask1)))]) (zs := [.int .i64 0]) (m := 1) hS2 k_sl_137_3 k_sz_3_1 k_zc_3 rfl (mpc rfl mpn) rfl rfl rfl (by kernel_rfl) (by kernel_rfl) rfl) ?_
    rintro _ w_1 ⟨b1, rfl, hS3⟩
    have hS3 : ST w0 [] _ [⟨B1, 3, (out.flatMap encI), c1 * 1⟩, ⟨some ⟨b1, 0, none⟩, 3, ([(bits .and .i64 mask1 (IntKind.i64.wrap (-mask1)))].flatMap encI), 1 * 1⟩] [] := hS3
    obtain ⟨hap, hF2⟩ := chk_inv hF2
    refine ss 15 rfl rfl (Ys_append (s := 1) (by' := 8) (i := 0) (nn := out.length) (c := c1) (k := 1) (len := (out ++ [(bits .and .i64 mask1 (IntKind.i64.wrap (-mask1)))]).length) (B := B1) (xs := ([(bits .and .i64 mask1 (IntKind.i64.wrap (-mask1)))].flatMap encI)) (cs' := ((out ++ [(bits .and .i64 mask1 (IntKind.i64.wrap (-mask1)))]).flatMap encI)) hS3 k_sl_137_3 k_sz_3_1 k_by_3_8 k_zero_3 rfl (by decide) rfl rfl rfl rfl (fm_lenn (l := out) encI_len rfl) rfl (hS3.cf (i := 1) rfl) (fm_lenn (l := [(bits .and .i64 mask1 (IntKind.i64.wrap (-mask1)))]) encI_len rfl) (fm_one' (enc := encI) encI_one [(bits .and .i64 mask1 (IntKind.i64.wrap (-mask1)))]) (by have := hap; omega) (by have := hap; simp only [maxLen]; omega) (fm_app _ _) (app_len (l := out) (l' := [(bits .and .i64 mask1 (IntKind.i64.wrap (-mask1)))]) rfl rfl)) ?_
    rintro _ w_2 ⟨B2, c2, rfl, hS4⟩
    have hS4 : ST w0 [] _ [⟨B2, 3, ((out ++ [(bits .and .i64 mask1 (IntKind.i64.wrap (-mask1)))]).flatMap encI), c2 * 1⟩, ⟨some ⟨b1, 0, none⟩, 3, ([(bits .and .i64 mask1 (IntKind.i64.wrap (-mask1)))].flatMap encI), 1 * 1⟩] [] := hS4
    refine sq 3 rfl rfl (Y_assign (v := .slice B2 ((out ++ [(bits .and .i64 mask1 (IntKind.i64.wrap (-mask1)))]).length) c2) rfl rfl) ?_
    refine rw_nil ?_
    refine cw_region ?_
    refine sq 16 rfl rfl (Y_move (v := .int .i64 mask1) rfl (hf.get 0 0 rfl)) ?_
    refine sq 17 rfl rfl (Y_move (v := .int .i64 (bits .and .i64 mask1 (IntKind.i64.wrap (-mask1)))) rfl rfl) ?_
    refine sq 18 rfl rfl (Y_bxor (k := .i64) (a := mask1) (b := (bits .and .i64 mask1 (IntKind.i64.wrap (-mask1)))) rfl rfl rfl) ?_
    refine sq 0 rfl rfl (Y_assign (v := .int .i64 (bits .xor .i64 mask1 (bits .and .i64 mask1 (IntKind.i64.wrap (-mask1))))) rfl rfl) ?_
    refine rw_nil ?_
    obtain rfl := some_inj hF2
    exact ⟨k_1, Nat.lt_succ_self _, (bits .xor .i64 mask1 (bits .and .i64 mask1 (IntKind.i64.wrap (-mask1)))), (out ++ [(bits .and .i64 mask1 (IntKind.i64.wrap (-mask1)))]), B2, c2, (FF.cons rfl (FF.cons rfl FF.nil)), (hS4.sel [0] rfl rfl), hL1⟩
  · skip
    have hF3 := cf' hb hb1
    refine cw_exit rfl ?_
    obtain rfl := some_inj hF3
    obtain rfl := some_inj hL1
    refine cw_seq ?_
    refine cw_region ?_
    refine sq 19 rfl rfl (Y_move (v := .slice B1 out.length c1) rfl (hf.get 3 1 rfl)) ?_
    refine sq 2 rfl rfl (Y_assign (v := .slice B1 out.length c1) rfl rfl) ?_
    refine rw_nil ?_
    refine cw_ret ?_
    obtain rfl := some_inj hF1
    exact ret1 Try.results136 (v1 := .slice B1 out.length c1) (resAt_tmp rfl) ⟨B1, c1, rfl, (ST.subR (R' := []) (hS2.sel [0] rfl rfl) (fun _ h => by cases h))⟩
end Go.VK
