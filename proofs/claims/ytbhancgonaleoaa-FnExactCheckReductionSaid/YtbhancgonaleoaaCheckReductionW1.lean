/- Walks: each Go function returns what its Lean function says. By program. -/
import Derived.Test.YtbhancgonaleoaaCheckReductionFa
import Derived.Test.YtbhancgonaleoaaCheckReductionShelf
set_option linter.unusedVariables false
set_option maxRecDepth 100000
set_option maxHeartbeats 1000000
namespace Go.VK
open Go.RowKit
open Go.Proofs
attribute [local irreducible] CW RW RA CV Y Yw Yc Ys RetOf
attribute [local irreducible] F_laws_szTermS F_laws_szIntS F_laws_szLinear F_laws_szPhasePoly F_laws_toTerm F_laws_toTermS F_laws_toIntS F_laws_toLinear F_laws_toPhasePoly F_laws_eqTerm F_laws_eqTermS F_laws_eqIntS F_laws_eqLinear F_laws_eqPhasePoly F_spec_l1In F_spec_l1All F_spec_l1Own F_spec_l12Rank F_spec_l12Valid F_spec_l13Valid F_spec_l1Has F_spec_l1Put F_spec_l1Set F_spec_l13Parity F_spec_l15Affine F_spec_l15Codes F_spec_l13By F_spec_l13List F_spec_l15Shift F_spec_l1Same F_spec_l15SameTerms F_spec_l15Same F_spec_l13Odd F_spec_l15Nearest F_spec_l15Odd F_spec_l15Least F_spec_CheckReduction F_impl_within F_impl_isWord F_slices_Index_int_int F_slices_Contains_int_int F_slices_Clone_int_int F_math_bits_OnesCount64 F_math_bits_OnesCount F_impl_bitsIn F_slices_Sort_int_int F_impl_codeWords F_impl_IsCodeWord F_impl_areTerms F_slices_IndexFunc_int_int F_slices_ContainsFunc_int_int F_impl_IsValidLinear_1 F_impl_rankOf_1 F_slices_Delete_int_int F_impl_rankOf F_impl_IsValidLinear F_impl_IsValidPhasePoly F_impl_coefficients_add F_impl_coefficients_terms F_impl_ShiftBy F_impl_nearest F_impl_oddWord F_impl_LeastT F_slices_Equal_impl_Term_impl_Term F_slices_Equal_int_int F_impl_equalPolys F_impl_oddTerms F_impl_CheckReduction F_laws_FnExactCheckReduction
theorem c_laws_szTermS (a : List TTerm) (left : Int) (B : Option Addr) (c n : Nat) (w0 : World) (hn : a.length = n) (hS : ST w0 [] w0 [] [⟨B, (a.flatMap enc_Term)⟩]) {r_ : Int} (hF : F_laws_szTermS a left = some r_) :
    CV Try.prog 45 #[.slice B n c, .int .i64 left] w0 (fun v w' => v = .int .i64 r_ ∧ ST w0 [] w' [] []) := by
  subst hn
  unfold F_laws_szTermS at hF
  refine cv_of_cw 12 Try.func45 rfl Try.ntmps45 rfl ?_
  refine cw_seq ?_
  refine cw_region ?_
  refine sq 4 rfl rfl (Y_assign (v := .int .i64 0) rfl rfl) ?_
  refine rw_nil ?_
  refine cw_seq ?_
  refine cw_region ?_
  refine sq 5 rfl rfl (Y_move (v := .int .i64 left) rfl rfl) ?_
  refine sq 6 rfl rfl (Y_move (v := .slice B a.length c) rfl rfl) ?_
  refine sq 7 rfl rfl (Y_len (B := B) (m := a.length) (c := c) k_sl_40_137 rfl rfl) ?_
  refine sq 8 rfl rfl (Y_sub (k := .i64) (a := left) (b := (a.length : Int)) rfl rfl rfl) ?_
  refine sq 1 rfl rfl (Y_assign (v := .int .i64 (IntKind.i64.wrap (left - (a.length : Int)))) rfl rfl) ?_
  refine rw_nil ?_
  refine cw_seq ?_
  refine cw_seq ?_
  refine cw_region ?_
  refine sq 9 rfl rfl (Y_move (v := .int .i64 (IntKind.i64.wrap (left - (a.length : Int)))) rfl rfl) ?_
  refine sq 10 rfl rfl (Y_lt (k := .i64) (a := (IntKind.i64.wrap (left - (a.length : Int)))) (b := 0) rfl rfl rfl) ?_
  refine rw_nil ?_
  refine cw_cond (b := (decide ((IntKind.i64.wrap (left - (a.length : Int))) < 0))) rfl (fun hb => ?_) (fun hb => ?_)
  · skip
    have hF1 := ct hF hb
    refine cw_seq ?_
    refine cw_region ?_
    refine sq 4 rfl rfl (Y_assign (v := .int .i64 (-1)) rfl rfl) ?_
    refine rw_nil ?_
    refine cw_ret ?_
    obtain rfl := some_inj hF1
    exact ret1 Try.results45 (v1 := .int .i64 (-1)) (resAt_tmp rfl) ⟨rfl, (ST.subR (R' := []) (hS.sel [] rfl rfl) (fun _ h => by cases h))⟩
  · skip
    have hF2 := cf' hF hb
    refine cw_skip ?_
    refine cw_seq ?_
    refine cw_region ?_
    refine sq 11 rfl rfl (Y_move (v := .int .i64 (IntKind.i64.wrap (left - (a.length : Int)))) rfl rfl) ?_
    refine sq 4 rfl rfl (Y_assign (v := .int .i64 (IntKind.i64.wrap (left - (a.length : Int)))) rfl rfl) ?_
    refine rw_nil ?_
    refine cw_ret ?_
    obtain rfl := some_inj hF2
    exact ret1 Try.results45 (v1 := .int .i64 (IntKind.i64.wrap (left - (a.length : Int)))) (resAt_tmp rfl) ⟨rfl, (ST.subR (R' := []) (hS.sel [] rfl rfl) (fun _ h => by cases h))⟩

theorem c_laws_szIntS (a : List Int) (left : Int) (B : Option Addr) (c n : Nat) (w0 : World) (hn : a.length = n) (hS : ST w0 [] w0 [] [⟨B, (a.flatMap encI)⟩]) {r_ : Int} (hF : F_laws_szIntS a left = some r_) :
    CV Try.prog 92 #[.slice B n c, .int .i64 left] w0 (fun v w' => v = .int .i64 r_ ∧ ST w0 [] w' [] []) := by
  subst hn
  unfold F_laws_szIntS at hF
  refine cv_of_cw 12 Try.func92 rfl Try.ntmps92 rfl ?_
  refine cw_seq ?_
  refine cw_region ?_
  refine sq 4 rfl rfl (Y_assign (v := .int .i64 0) rfl rfl) ?_
  refine rw_nil ?_
  refine cw_seq ?_
  refine cw_region ?_
  refine sq 5 rfl rfl (Y_move (v := .int .i64 left) rfl rfl) ?_
  refine sq 6 rfl rfl (Y_move (v := .slice B a.length c) rfl rfl) ?_
  refine sq 7 rfl rfl (Y_len (B := B) (m := a.length) (c := c) k_sl_41_3 rfl rfl) ?_
  refine sq 8 rfl rfl (Y_sub (k := .i64) (a := left) (b := (a.length : Int)) rfl rfl rfl) ?_
  refine sq 1 rfl rfl (Y_assign (v := .int .i64 (IntKind.i64.wrap (left - (a.length : Int)))) rfl rfl) ?_
  refine rw_nil ?_
  refine cw_seq ?_
  refine cw_seq ?_
  refine cw_region ?_
  refine sq 9 rfl rfl (Y_move (v := .int .i64 (IntKind.i64.wrap (left - (a.length : Int)))) rfl rfl) ?_
  refine sq 10 rfl rfl (Y_lt (k := .i64) (a := (IntKind.i64.wrap (left - (a.length : Int)))) (b := 0) rfl rfl rfl) ?_
  refine rw_nil ?_
  refine cw_cond (b := (decide ((IntKind.i64.wrap (left - (a.length : Int))) < 0))) rfl (fun hb => ?_) (fun hb => ?_)
  · skip
    have hF1 := ct hF hb
    refine cw_seq ?_
    refine cw_region ?_
    refine sq 4 rfl rfl (Y_assign (v := .int .i64 (-1)) rfl rfl) ?_
    refine rw_nil ?_
    refine cw_ret ?_
    obtain rfl := some_inj hF1
    exact ret1 Try.results92 (v1 := .int .i64 (-1)) (resAt_tmp rfl) ⟨rfl, (ST.subR (R' := []) (hS.sel [] rfl rfl) (fun _ h => by cases h))⟩
  · skip
    have hF2 := cf' hF hb
    refine cw_skip ?_
    refine cw_seq ?_
    refine cw_region ?_
    refine sq 11 rfl rfl (Y_move (v := .int .i64 (IntKind.i64.wrap (left - (a.length : Int)))) rfl rfl) ?_
    refine sq 4 rfl rfl (Y_assign (v := .int .i64 (IntKind.i64.wrap (left - (a.length : Int)))) rfl rfl) ?_
    refine rw_nil ?_
    refine cw_ret ?_
    obtain rfl := some_inj hF2
    exact ret1 Try.results92 (v1 := .int .i64 (IntKind.i64.wrap (left - (a.length : Int)))) (resAt_tmp rfl) ⟨rfl, (ST.subR (R' := []) (hS.sel [] rfl rfl) (fun _ h => by cases h))⟩

theorem c_laws_szLinear (a : TLinear) (left : Int) (B : Option Addr) (c n : Nat) (w0 : World) (hn : a.Rows.length = n) (hS : ST w0 [] w0 [] [⟨B, (a.Rows.flatMap encI)⟩]) {r_ : Int} (hF : F_laws_szLinear a left = some r_) :
    CV Try.prog 46 #[.agg #[.slice B n c], .int .i64 left] w0 (fun v w' => v = .int .i64 r_ ∧ ST w0 [] w' [] []) := by
  subst hn
  unfold F_laws_szLinear at hF
  refine cv_of_cw 12 Try.func46 rfl Try.ntmps46 rfl ?_
  refine cw_seq ?_
  refine cw_region ?_
  refine ss 2 rfl rfl (Ys_box (T := 43) (v := .agg #[.slice B a.Rows.length c]) (cs := [.slice B a.Rows.length c]) (m := 1) hS rfl rfl rfl rfl) ?_
  rintro _ w_ ⟨b, rfl, hS1⟩
  refine sq 4 rfl rfl (Y_assign (v := .int .i64 0) rfl rfl) ?_
  refine rw_nil ?_
  refine cw_seq ?_
  refine cw_region ?_
  refine sq 5 rfl rfl (Y_fieldAddr (B := some ⟨b, 0, none⟩) (i := 0) (s := 0) k_fd_43_0_0_41 k_sz_41_1 rfl rfl) ?_
  refine sq 6 rfl rfl (Y_load1 (B := some ⟨b, 0, none⟩) (i := 0) (cs := [.slice B a.Rows.length c]) (v := .slice B a.Rows.length c) k_sc_41 rfl rfl (hS1.cf (i := 0) rfl) rfl) ?_
  refine sq 7 rfl rfl (Y_move (v := .int .i64 left) rfl rfl) ?_
  obtain ⟨r_1, hc, hF⟩ := bind_inv hF
  refine sc 8 rfl rfl (Yc_func (g := 92) (vs := [.slice B a.Rows.length c, .int .i64 left]) k_call_92 rfl (mc rfl (mc rfl mn)) (c_laws_szIntS a.Rows left B c a.Rows.length _ rfl (hS1.inn0 [(true, 0)] rfl) hc)) ?_
  rintro _ w_1 ⟨rfl, hd⟩
  have hS2 := hS1.out00 hd
  refine sq 1 rfl rfl (Y_assign (v := .int .i64 r_1) rfl rfl) ?_
  refine rw_nil ?_
  refine cw_seq ?_
  refine cw_seq ?_
  refine cw_region ?_
  refine sq 9 rfl rfl (Y_move (v := .int .i64 r_1) rfl rfl) ?_
  refine sq 10 rfl rfl (Y_lt (k := .i64) (a := r_1) (b := 0) rfl rfl rfl) ?_
  refine rw_nil ?_
  refine cw_cond (b := (decide (r_1 < 0))) rfl (fun hb => ?_) (fun hb => ?_)
  · skip
    have hF1 := ct hF hb
    refine cw_seq ?_
    refine cw_region ?_
    refine sq 4 rfl rfl (Y_assign (v := .int .i64 (-1)) rfl rfl) ?_
    refine rw_nil ?_
    refine cw_ret ?_
    obtain rfl := some_inj hF1
    exact ret1 Try.results46 (v1 := .int .i64 (-1)) (resAt_tmp rfl) ⟨rfl, (ST.subR (R' := []) (hS2.sel [] rfl rfl) (fun _ h => by cases h))⟩
  · skip
    have hF2 := cf' hF hb
    refine cw_skip ?_
    refine cw_seq ?_
    refine cw_region ?_
    refine sq 11 rfl rfl (Y_move (v := .int .i64 r_1) rfl rfl) ?_
    refine sq 4 rfl rfl (Y_assign (v := .int .i64 r_1) rfl rfl) ?_
    refine rw_nil ?_
    refine cw_ret ?_
    obtain rfl := some_inj hF2
    exact ret1 Try.results46 (v1 := .int .i64 r_1) (resAt_tmp rfl) ⟨rfl, (ST.subR (R' := []) (hS2.sel [] rfl rfl) (fun _ h => by cases h))⟩

theorem c_laws_szPhasePoly (a : TPhasePoly) (left : Int) (B : Option Addr) (c n : Nat) (B1 : Option Addr) (c1 n1 : Nat) (w0 : World) (hn : a.Terms.length = n) (hn1 : a.Out.Rows.length = n1) (hS : ST w0 [] w0 [] [⟨B, (a.Terms.flatMap enc_Term)⟩, ⟨B1, (a.Out.Rows.flatMap encI)⟩]) {r_ : Int} (hF : F_laws_szPhasePoly a left = some r_) :
    CV Try.prog 16 #[.agg #[.int .i64 a.Qubits, .int .i64 a.Phase, .slice B n c, .slice B1 n1 c1], .int .i64 left] w0 (fun v w' => v = .int .i64 r_ ∧ ST w0 [] w' [] []) := by
  subst hn
  subst hn1
  unfold F_laws_szPhasePoly at hF
  refine cv_of_cw 18 Try.func16 rfl Try.ntmps16 rfl ?_
  refine cw_seq ?_
  refine cw_region ?_
  refine ss 2 rfl rfl (Ys_box (T := 45) (v := .agg #[.int .i64 a.Qubits, .int .i64 a.Phase, .slice B a.Terms.length c, .slice B1 a.Out.Rows.length c1]) (cs := [.int .i64 a.Qubits, .int .i64 a.Phase, .slice B a.Terms.length c, .slice B1 a.Out.Rows.length c1]) (m := 4) hS rfl rfl rfl rfl) ?_
  rintro _ w_ ⟨b, rfl, hS1⟩
  refine sq 4 rfl rfl (Y_assign (v := .int .i64 0) rfl rfl) ?_
  refine rw_nil ?_
  refine cw_seq ?_
  refine cw_region ?_
  refine sq 5 rfl rfl (Y_fieldAddr (B := some ⟨b, 0, none⟩) (i := 0) (s := 0) k_fd_45_2_2_40 k_sz_40_1 rfl rfl) ?_
  refine sq 6 rfl rfl (Y_load1 (B := some ⟨b, 0, none⟩) (i := 2) (cs := [.int .i64 a.Qubits, .int .i64 a.Phase, .slice B a.Terms.length c, .slice B1 a.Out.Rows.length c1]) (v := .slice B a.Terms.length c) k_sc_40 rfl rfl (hS1.cf (i := 0) rfl) rfl) ?_
  refine sq 7 rfl rfl (Y_move (v := .int .i64 left) rfl rfl) ?_
  obtain ⟨r_1, hc, hF⟩ := bind_inv hF
  refine sc 8 rfl rfl (Yc_func (g := 45) (vs := [.slice B a.Terms.length c, .int .i64 left]) k_call_45 rfl (mc rfl (mc rfl mn)) (c_laws_szTermS a.Terms left B c a.Terms.length _ rfl (hS1.inn0 [(true, 0)] rfl) hc)) ?_
  rintro _ w_1 ⟨rfl, hd⟩
  have hS2 := hS1.out00 hd
  refine sq 1 rfl rfl (Y_assign (v := .int .i64 r_1) rfl rfl) ?_
  refine rw_nil ?_
  refine cw_seq ?_
  refine cw_seq ?_
  refine cw_region ?_
  refine sq 9 rfl rfl (Y_move (v := .int .i64 r_1) rfl rfl) ?_
  refine sq 10 rfl rfl (Y_lt (k := .i64) (a := r_1) (b := 0) rfl rfl rfl) ?_
  refine rw_nil ?_
  refine cw_cond (b := (decide (r_1 < 0))) rfl (fun hb => ?_) (fun hb => ?_)
  · skip
    have hF1 := ct hF hb
    refine cw_seq ?_
    refine cw_region ?_
    refine sq 4 rfl rfl (Y_assign (v := .int .i64 (-1)) rfl rfl) ?_
    refine rw_nil ?_
    refine cw_ret ?_
    obtain rfl := some_inj hF1
    exact ret1 Try.results16 (v1 := .int .i64 (-1)) (resAt_tmp rfl) ⟨rfl, (ST.subR (R' := []) (hS2.sel [] rfl rfl) (fun _ h => by cases h))⟩
  · skip
    have hF2 := cf' hF hb
    refine cw_skip ?_
    refine cw_seq ?_
    refine cw_region ?_
    refine sq 11 rfl rfl (Y_fieldAddr (B := some ⟨b, 0, none⟩) (i := 0) (s := 0) k_fd_45_3_3_43 k_sz_43_1 rfl rfl) ?_
    refine sq 12 rfl rfl (Y_loadA (B := some ⟨b, 0, none⟩) (i := 3) (cs := [.int .i64 a.Qubits, .int .i64 a.Phase, .slice B a.Terms.length c, .slice B1 a.Out.Rows.length c1]) (vs := [.slice B1 a.Out.Rows.length c1]) k_ag_43 k_sz_43_1 rfl rfl (hS2.cf (i := 0) rfl) rfl rfl) ?_
    refine sq 13 rfl rfl (Y_move (v := .int .i64 r_1) rfl rfl) ?_
    obtain ⟨r_2, hc1, hF2⟩ := bind_inv hF2
    refine sc 14 rfl rfl (Yc_func (g := 46) (vs := [.agg #[.slice B1 a.Out.Rows.length c1], .int .i64 r_1]) k_call_46 rfl (mc rfl (mc rfl mn)) (c_laws_szLinear a.Out r_1 B1 c1 a.Out.Rows.length _ rfl (hS2.inn0 [(true, 1)] rfl) hc1)) ?_
    rintro _ w_2 ⟨rfl, hd1⟩
    have hS3 := hS2.out00 hd1
    refine sq 1 rfl rfl (Y_assign (v := .int .i64 r_2) rfl rfl) ?_
    refine rw_nil ?_
    refine cw_seq ?_
    refine cw_seq ?_
    refine cw_region ?_
    refine sq 15 rfl rfl (Y_move (v := .int .i64 r_2) rfl rfl) ?_
    refine sq 16 rfl rfl (Y_lt (k := .i64) (a := r_2) (b := 0) rfl rfl rfl) ?_
    refine rw_nil ?_
    refine cw_cond (b := (decide (r_2 < 0))) rfl (fun hb1 => ?_) (fun hb1 => ?_)
    · skip
      have hF3 := ct hF2 hb1
      refine cw_seq ?_
      refine cw_region ?_
      refine sq 4 rfl rfl (Y_assign (v := .int .i64 (-1)) rfl rfl) ?_
      refine rw_nil ?_
      refine cw_ret ?_
      obtain rfl := some_inj hF3
      exact ret1 Try.results16 (v1 := .int .i64 (-1)) (resAt_tmp rfl) ⟨rfl, (ST.subR (R' := []) (hS3.sel [] rfl rfl) (fun _ h => by cases h))⟩
    · skip
      have hF4 := cf' hF2 hb1
      refine cw_skip ?_
      refine cw_seq ?_
      refine cw_region ?_
      refine sq 17 rfl rfl (Y_move (v := .int .i64 r_2) rfl rfl) ?_
      refine sq 4 rfl rfl (Y_assign (v := .int .i64 r_2) rfl rfl) ?_
      refine rw_nil ?_
      refine cw_ret ?_
      obtain rfl := some_inj hF4
      exact ret1 Try.results16 (v1 := .int .i64 r_2) (resAt_tmp rfl) ⟨rfl, (ST.subR (R' := []) (hS3.sel [] rfl rfl) (fun _ h => by cases h))⟩

theorem c_laws_toTerm (a : TTerm)  (w0 : World)  (hS : ST w0 [] w0 [] []) {r_ : TTerm} (hF : F_laws_toTerm a = some r_) :
    CV Try.prog 100 #[.agg #[.int .i64 a.Mask, .int .i64 a.Coef]] w0 (fun v w' => v = .agg #[.int .i64 r_.Mask, .int .i64 r_.Coef] ∧ ST w0 [] w' [] []) := by
  unfold F_laws_toTerm at hF
  refine cv_of_cw 11 Try.func100 rfl Try.ntmps100 rfl ?_
  refine cw_seq ?_
  refine cw_region ?_
  refine ss 1 rfl rfl (Ys_box (T := 137) (v := .agg #[.int .i64 a.Mask, .int .i64 a.Coef]) (cs := [.int .i64 a.Mask, .int .i64 a.Coef]) (m := 2) hS rfl rfl rfl rfl) ?_
  rintro _ w_ ⟨b, rfl, hS1⟩
  refine ss 2 rfl rfl (Ys_alloc (T := 95) (cs := [.int .i64 0, .int .i64 0]) (m := 2) hS1 k_zero_95 rfl rfl rfl) ?_
  rintro _ w_1 ⟨b1, rfl, hS2⟩
  have hS2 : ST w0 [] _ [⟨some ⟨b, 0, none⟩, 137, [.int .i64 a.Mask, .int .i64 a.Coef], 2⟩, ⟨some ⟨b1, 0, none⟩, 95, [.int .i64 0, .int .i64 0], 2⟩] [] := hS2
  refine rw_nil ?_
  refine cw_seq ?_
  refine cw_region ?_
  refine ss 3 rfl rfl (Ys_alloc (T := 95) (cs := [.int .i64 0, .int .i64 0]) (m := 2) hS2 k_zero_95 rfl rfl rfl) ?_
  rintro _ w_2 ⟨b2, rfl, hS3⟩
  have hS3 : ST w0 [] _ [⟨some ⟨b, 0, none⟩, 137, [.int .i64 a.Mask, .int .i64 a.Coef], 2⟩, ⟨some ⟨b1, 0, none⟩, 95, [.int .i64 0, .int .i64 0], 2⟩, ⟨some ⟨b2, 0, none⟩, 95, [.int .i64 0, .int .i64 0], 2⟩] [] := hS3
  refine rw_nil ?_
  refine cw_seq ?_
  refine cw_region ?_
  refine sq 4 rfl rfl (Y_fieldAddr (B := some ⟨b, 0, none⟩) (i := 0) (s := 0) k_fd_137_0_0_3 k_sz_3_1 rfl rfl) ?_
  refine sq 5 rfl rfl (Y_load1 (B := some ⟨b, 0, none⟩) (i := 0) (cs := [.int .i64 a.Mask, .int .i64 a.Coef]) (v := .int .i64 a.Mask) k_sc_3 rfl rfl (hS3.cf (i := 0) rfl) rfl) ?_
  refine sq 6 rfl rfl (Y_fieldAddr (B := some ⟨b2, 0, none⟩) (i := 0) (s := 0) k_fd_95_0_0_3 k_sz_3_1 rfl rfl) ?_
  refine ss0 rfl rfl (Ys_store (i := 2) (s := 1) (B := some ⟨b2, 0, none⟩) (T' := 95) (v := .int .i64 a.Mask) (vs := [.int .i64 a.Mask]) (k := 0) (cs' := [.int .i64 a.Mask, .int .i64 0]) hS3 k_sz_3_1 rfl rfl rfl rfl rfl rfl rfl (Nat.le_of_ble_eq_true rfl) rfl rfl) ?_
  rintro _ w_3 ⟨rfl, hS4⟩
  have hS4 : ST w0 [] _ [⟨some ⟨b, 0, none⟩, 137, [.int .i64 a.Mask, .int .i64 a.Coef], 2⟩, ⟨some ⟨b1, 0, none⟩, 95, [.int .i64 0, .int .i64 0], 2⟩, ⟨some ⟨b2, 0, none⟩, 95, [.int .i64 a.Mask, .int .i64 0], 2⟩] [] := hS4
  refine rw_nil ?_
  refine cw_seq ?_
  refine cw_region ?_
  refine sq 7 rfl rfl (Y_fieldAddr (B := some ⟨b, 0, none⟩) (i := 0) (s := 0) k_fd_137_1_1_3 k_sz_3_1 rfl rfl) ?_
  refine sq 8 rfl rfl (Y_load1 (B := some ⟨b, 0, none⟩) (i := 1) (cs := [.int .i64 a.Mask, .int .i64 a.Coef]) (v := .int .i64 a.Coef) k_sc_3 rfl rfl (hS4.cf (i := 0) rfl) rfl) ?_
  refine sq 9 rfl rfl (Y_fieldAddr (B := some ⟨b2, 0, none⟩) (i := 0) (s := 0) k_fd_95_1_1_3 k_sz_3_1 rfl rfl) ?_
  refine ss0 rfl rfl (Ys_store (i := 2) (s := 1) (B := some ⟨b2, 0, none⟩) (T' := 95) (v := .int .i64 a.Coef) (vs := [.int .i64 a.Coef]) (k := 1) (cs' := [.int .i64 a.Mask, .int .i64 a.Coef]) hS4 k_sz_3_1 rfl rfl rfl rfl rfl rfl rfl (Nat.le_of_ble_eq_true rfl) rfl rfl) ?_
  rintro _ w_4 ⟨rfl, hS5⟩
  have hS5 : ST w0 [] _ [⟨some ⟨b, 0, none⟩, 137, [.int .i64 a.Mask, .int .i64 a.Coef], 2⟩, ⟨some ⟨b1, 0, none⟩, 95, [.int .i64 0, .int .i64 0], 2⟩, ⟨some ⟨b2, 0, none⟩, 95, [.int .i64 a.Mask, .int .i64 a.Coef], 2⟩] [] := hS5
  refine rw_nil ?_
  refine cw_seq ?_
  refine cw_region ?_
  refine sq 10 rfl rfl (Y_loadA (B := some ⟨b2, 0, none⟩) (i := 0) (cs := [.int .i64 a.Mask, .int .i64 a.Coef]) (vs := [.int .i64 a.Mask, .int .i64 a.Coef]) k_ag_95 k_sz_95_2 rfl rfl (hS5.cf (i := 2) rfl) rfl rfl) ?_
  refine ss0 rfl rfl (Ys_store (i := 1) (s := 2) (B := some ⟨b1, 0, none⟩) (T' := 95) (v := .agg #[.int .i64 a.Mask, .int .i64 a.Coef]) (vs := [.int .i64 a.Mask, .int .i64 a.Coef]) (k := 0) (cs' := [.int .i64 a.Mask, .int .i64 a.Coef]) hS5 k_sz_95_2 rfl rfl rfl rfl rfl rfl rfl (Nat.le_of_ble_eq_true rfl) rfl rfl) ?_
  rintro _ w_5 ⟨rfl, hS6⟩
  have hS6 : ST w0 [] _ [⟨some ⟨b, 0, none⟩, 137, [.int .i64 a.Mask, .int .i64 a.Coef], 2⟩, ⟨some ⟨b1, 0, none⟩, 95, [.int .i64 a.Mask, .int .i64 a.Coef], 2⟩, ⟨some ⟨b2, 0, none⟩, 95, [.int .i64 a.Mask, .int .i64 a.Coef], 2⟩] [] := hS6
  refine rw_nil ?_
  refine cw_ret ?_
  obtain rfl := some_inj hF
  exact ret1 Try.results100 (v1 := .agg #[.int .i64 a.Mask, .int .i64 a.Coef]) (resAt_cellA (B := some ⟨b1, 0, none⟩) (i := 0) (cs := [.int .i64 a.Mask, .int .i64 a.Coef]) (vs := [.int .i64 a.Mask, .int .i64 a.Coef]) rfl k_ag_95 k_sz_95_2 (hS6.cf (i := 1) rfl) rfl rfl) ⟨rfl, (ST.subR (R' := []) (hS6.sel [] rfl rfl) (fun _ h => by cases h))⟩

theorem c_laws_toTermS (a : List TTerm) (B : Option Addr) (c n : Nat) (w0 : World) (hn : a.length = n) (hS : ST w0 [] w0 [] [⟨B, (a.flatMap enc_Term)⟩]) {r_ : List TTerm} (hF : F_laws_toTermS a = some r_) :
    CV Try.prog 51 #[.slice B n c] w0 (fun v w' => ∃ (B1 : Option Addr) (c1 : Nat), v = .slice B1 r_.length c1 ∧ ST w0 [] w' [⟨B1, 95, (r_.flatMap enc_Term), c1 * 2⟩] []) := by
  subst hn
  unfold F_laws_toTermS at hF
  refine cv_of_cw 23 Try.func51 rfl Try.ntmps51 rfl ?_
  refine cw_seq ?_
  refine cw_region ?_
  refine sq 2 rfl rfl (Y_assign (v := .slice none 0 0) rfl rfl) ?_
  refine rw_nil ?_
  refine cw_seq ?_
  refine cw_region ?_
  refine sq 5 rfl rfl (Y_move (v := .slice B a.length c) rfl rfl) ?_
  refine sq 6 rfl rfl (Y_len (B := B) (m := a.length) (c := c) k_sl_40_137 rfl rfl) ?_
  obtain ⟨hmk, hF⟩ := chk_inv hF
  refine ss 7 rfl rfl (Ys_make (s := 2) (by' := 16) (nn := a.length) (a := (a.length : Int)) (b := (a.length : Int)) (cs := ((List.replicate a.length (TTerm.mk 0 0)).flatMap enc_Term)) hS k_sl_47_95 k_sz_95_2 k_by_95_16 k_zero_95 rfl rfl rfl rfl hmk.1 rfl (by have := hmk; omega) (by have := hmk; omega) (by omega) (fm_rep (enc := enc_Term) (d := (TTerm.mk 0 0)) rfl _)) ?_
  rintro _ w_ ⟨b, rfl, hS1⟩
  refine sq 3 rfl rfl (Y_assign (v := .slice (some ⟨b, 0, none⟩) a.length a.length) rfl rfl) ?_
  refine rw_nil ?_
  refine cw_seq ?_
  refine cw_seq ?_
  refine cw_region ?_
  refine sq 4 rfl rfl (Y_assign (v := .int .i64 0) rfl rfl) ?_
  refine rw_nil ?_
  obtain ⟨hN, hF⟩ := chk_inv hF
  obtain ⟨z, hz, hF1⟩ := bind_inv hF
  refine cw_block ?_
  refine cw_loop (fun k f w => ∃ (i1 : Nat) (out : List TTerm), FF f [(0, .slice B a.length c), (3, .slice (some ⟨b, 0, none⟩) a.length a.length), (4, .int .i64 (i1 : Int))] ∧ out.length = a.length ∧ ST w0 [] w [⟨some ⟨b, 0, none⟩, 95, (out.flatMap enc_Term), a.length * 2⟩] [⟨B, (a.flatMap enc_Term)⟩] ∧ i1 + k = a.length ∧ forN (F_laws_toTermS_l1 a) k i1 out = some z) a.length ⟨0, (List.replicate a.length (TTerm.mk 0 0)), (FF.cons rfl (FF.cons rfl (FF.cons rfl FF.nil))), List.length_replicate, (hS1.sel [0] rfl rfl), Nat.zero_add _, hz⟩ ?_
  rintro k_ f w ⟨i1, out, hf, hl, hS2, hik, hL⟩
  refine cw_seq ?_
  refine cw_seq ?_
  refine cw_region ?_
  refine sq 8 rfl rfl (Y_move (v := .int .i64 (i1 : Int)) rfl (hf.get 4 2 rfl)) ?_
  refine sq 9 rfl rfl (Y_move (v := .slice B a.length c) rfl (hf.get 0 0 rfl)) ?_
  refine sq 10 rfl rfl (Y_len (B := B) (m := a.length) (c := c) k_sl_40_137 rfl rfl) ?_
  refine sq 11 rfl rfl (Y_lt (k := .i64) (a := (i1 : Int)) (b := (a.length : Int)) rfl rfl rfl) ?_
  refine rw_nil ?_
  refine cw_cond (b := (decide ((i1 : Int) < (a.length : Int)))) rfl (fun hlt => ?_) (fun hlt => ?_)
  · skip
    have hlt1 : i1 < a.length := by have h := of_decide_eq_true hlt; omega
    obtain ⟨k_1, rfl⟩ : ∃ k2, k_ = k2 + 1 := ⟨k_ - 1, by omega⟩
    obtain ⟨y, hb, hL1⟩ := forN_go hL
    unfold F_laws_toTermS_l1 at hb
    refine cw_skip ?_
    refine cw_seq ?_
    refine cw_block ?_
    refine cw_region ?_
    refine sq 14 rfl rfl (Y_move (v := .slice (some ⟨b, 0, none⟩) a.length a.length) rfl (hf.get 3 1 rfl)) ?_
    refine sq 15 rfl rfl (Y_move (v := .int .i64 (i1 : Int)) rfl (hf.get 4 2 rfl)) ?_
    refine sq 16 rfl rfl (Y_move (v := .slice B a.length c) rfl (hf.get 0 0 rfl)) ?_
    refine sq 17 rfl rfl (Y_move (v := .int .i64 (i1 : Int)) rfl (hf.get 4 2 rfl)) ?_
    obtain ⟨x, hx, hb⟩ := bind_inv hb
    refine sq 18 rfl rfl (Y_index (B := B) (m := a.length) (c := c) (k := .i64) (i := (i1 : Int)) k_sl_40_137 k_sz_137_2 rfl rfl rfl (gi_isSome enc_Term_len rfl (hS2.rf (i := 0) rfl) hx) (getI_nn hx) (getI_ltI hx rfl)) ?_
    refine sq 19 rfl rfl (Y_loadA (B := B) (i := (i1 : Int).toNat * 2) (cs := (a.flatMap enc_Term)) (vs := [.int .i64 x.Mask, .int .i64 x.Coef]) k_ag_137 k_sz_137_2 rfl rfl (hS2.rf (i := 0) rfl) (enc_Term_len x) (gi_seg enc_Term_len hx)) ?_
    obtain ⟨r_1, hc, hb⟩ := bind_inv hb
    refine sc 20 rfl rfl (Yc_func (g := 100) (vs := [.agg #[.int .i64 x.Mask, .int .i64 x.Coef]]) k_call_100 rfl (mc rfl mn) (c_laws_toTerm x _  (hS2.inn0 [] rfl) hc)) ?_
    rintro _ w_1 ⟨rfl, hd⟩
    have hS3 := hS2.out00 hd
    obtain ⟨x1, hx1, hb⟩ := bind_inv hb
    refine sq 21 rfl rfl (Y_index (B := some ⟨b, 0, none⟩) (m := a.length) (c := a.length) (k := .i64) (i := (i1 : Int)) k_sl_47_95 k_sz_95_2 rfl rfl rfl (gi_isSome enc_Term_len rfl (hS3.cf (i := 0) rfl) hx1) (getI_nn hx1) (getI_ltI hx1 hl)) ?_
    refine ss0 rfl rfl (Ys_store (i := 0) (s := 2) (B := some ⟨b, 0, none⟩) (T' := 95) (v := .agg #[.int .i64 r_1.Mask, .int .i64 r_1.Coef]) (vs := [.int .i64 r_1.Mask, .int .i64 r_1.Coef]) (k := (i1 : Int).toNat * 2) (cs' := ((out.set (i1 : Int).toNat r_1).flatMap enc_Term)) hS3 k_sz_95_2 rfl rfl rfl rfl rfl rfl rfl (gi_fit0 enc_Term_len hx1) (gi_set enc_Term_len hx1 r_1 rfl) rfl) ?_
    rintro _ w_2 ⟨rfl, hS4⟩
    refine rw_nil ?_
    refine cw_region ?_
    refine sq 12 rfl rfl (Y_move (v := .int .i64 (i1 : Int)) rfl (hf.get 4 2 rfl)) ?_
    refine sq 13 rfl rfl (Y_add (k := .i64) (a := (i1 : Int)) (b := 1) rfl rfl rfl) ?_
    refine sq 4 rfl rfl (Y_assign (v := .int .i64 (IntKind.i64.wrap ((i1 : Int) + 1))) rfl rfl) ?_
    refine rw_nil ?_
    obtain rfl := some_inj hb
    exact ⟨k_1, Nat.lt_succ_self _, i1 + 1, (out.set (i1 : Int).toNat r_1), (FF.cons (hf.get 0 0 rfl) (FF.cons (hf.get 3 1 rfl) (FF.cons (congrArg (Value.int .i64) (wr_succ hlt1 hN)) FF.nil))), (set_len _ _ _ hl), (hS4.sel [0] rfl rfl), (by omega), hL1⟩
  · skip
    obtain rfl : k_ = 0 := by have h := of_decide_eq_false hlt; omega
    refine cw_exit rfl ?_
    obtain rfl := some_inj hL
    refine cw_seq ?_
    refine cw_region ?_
    refine sq 22 rfl rfl (Y_move (v := .slice (some ⟨b, 0, none⟩) a.length a.length) rfl (hf.get 3 1 rfl)) ?_
    refine sq 2 rfl rfl (Y_assign (v := .slice (some ⟨b, 0, none⟩) a.length a.length) rfl rfl) ?_
    refine rw_nil ?_
    refine cw_ret ?_
    obtain rfl := some_inj hF1
    exact ret1 Try.results51 (v1 := .slice (some ⟨b, 0, none⟩) a.length a.length) (resAt_tmp rfl) ⟨some ⟨b, 0, none⟩, a.length, (sl_eqv hl), (ST.subR (R' := []) (hS2.sel [0] rfl rfl) (fun _ h => by cases h))⟩

theorem c_laws_toIntS (a : List Int) (B : Option Addr) (c n : Nat) (w0 : World) (hn : a.length = n) (hS : ST w0 [] w0 [] [⟨B, (a.flatMap encI)⟩]) {r_ : List Int} (hF : F_laws_toIntS a = some r_) :
    CV Try.prog 101 #[.slice B n c] w0 (fun v w' => ∃ (B1 : Option Addr) (c1 : Nat), v = .slice B1 r_.length c1 ∧ ST w0 [] w' [⟨B1, 3, (r_.flatMap encI), c1 * 1⟩] []) := by
  subst hn
  unfold F_laws_toIntS at hF
  refine cv_of_cw 22 Try.func101 rfl Try.ntmps101 rfl ?_
  refine cw_seq ?_
  refine cw_region ?_
  refine sq 2 rfl rfl (Y_assign (v := .slice none 0 0) rfl rfl) ?_
  refine rw_nil ?_
  refine cw_seq ?_
  refine cw_region ?_
  refine sq 5 rfl rfl (Y_move (v := .slice B a.length c) rfl rfl) ?_
  refine sq 6 rfl rfl (Y_len (B := B) (m := a.length) (c := c) k_sl_41_3 rfl rfl) ?_
  obtain ⟨hmk, hF⟩ := chk_inv hF
  refine ss 7 rfl rfl (Ys_make (s := 1) (by' := 8) (nn := a.length) (a := (a.length : Int)) (b := (a.length : Int)) (cs := ((List.replicate a.length 0).flatMap encI)) hS k_sl_41_3 k_sz_3_1 k_by_3_8 k_zero_3 rfl rfl rfl rfl hmk.1 rfl (by have := hmk; omega) (by have := hmk; omega) (by omega) (fm_rep (enc := encI) (d := 0) rfl _)) ?_
  rintro _ w_ ⟨b, rfl, hS1⟩
  refine sq 3 rfl rfl (Y_assign (v := .slice (some ⟨b, 0, none⟩) a.length a.length) rfl rfl) ?_
  refine rw_nil ?_
  refine cw_seq ?_
  refine cw_seq ?_
  refine cw_region ?_
  refine sq 4 rfl rfl (Y_assign (v := .int .i64 0) rfl rfl) ?_
  refine rw_nil ?_
  obtain ⟨hN, hF⟩ := chk_inv hF
  obtain ⟨z, hz, hF1⟩ := bind_inv hF
  refine cw_block ?_
  refine cw_loop (fun k f w => ∃ (i1 : Nat) (out : List Int), FF f [(0, .slice B a.length c), (3, .slice (some ⟨b, 0, none⟩) a.length a.length), (4, .int .i64 (i1 : Int))] ∧ out.length = a.length ∧ ST w0 [] w [⟨some ⟨b, 0, none⟩, 3, (out.flatMap encI), a.length * 1⟩] [⟨B, (a.flatMap encI)⟩] ∧ i1 + k = a.length ∧ forN (F_laws_toIntS_l1 a) k i1 out = some z) a.length ⟨0, (List.replicate a.length 0), (FF.cons rfl (FF.cons rfl (FF.cons rfl FF.nil))), List.length_replicate, (hS1.sel [0] rfl rfl), Nat.zero_add _, hz⟩ ?_
  rintro k_ f w ⟨i1, out, hf, hl, hS2, hik, hL⟩
  refine cw_seq ?_
  refine cw_seq ?_
  refine cw_region ?_
  refine sq 8 rfl rfl (Y_move (v := .int .i64 (i1 : Int)) rfl (hf.get 4 2 rfl)) ?_
  refine sq 9 rfl rfl (Y_move (v := .slice B a.length c) rfl (hf.get 0 0 rfl)) ?_
  refine sq 10 rfl rfl (Y_len (B := B) (m := a.length) (c := c) k_sl_41_3 rfl rfl) ?_
  refine sq 11 rfl rfl (Y_lt (k := .i64) (a := (i1 : Int)) (b := (a.length : Int)) rfl rfl rfl) ?_
  refine rw_nil ?_
  refine cw_cond (b := (decide ((i1 : Int) < (a.length : Int)))) rfl (fun hlt => ?_) (fun hlt => ?_)
  · skip
    have hlt1 : i1 < a.length := by have h := of_decide_eq_true hlt; omega
    obtain ⟨k_1, rfl⟩ : ∃ k2, k_ = k2 + 1 := ⟨k_ - 1, by omega⟩
    obtain ⟨y, hb, hL1⟩ := forN_go hL
    unfold F_laws_toIntS_l1 at hb
    refine cw_skip ?_
    refine cw_seq ?_
    refine cw_block ?_
    refine cw_region ?_
    refine sq 14 rfl rfl (Y_move (v := .slice (some ⟨b, 0, none⟩) a.length a.length) rfl (hf.get 3 1 rfl)) ?_
    refine sq 15 rfl rfl (Y_move (v := .int .i64 (i1 : Int)) rfl (hf.get 4 2 rfl)) ?_
    refine sq 16 rfl rfl (Y_move (v := .slice B a.length c) rfl (hf.get 0 0 rfl)) ?_
    refine sq 17 rfl rfl (Y_move (v := .int .i64 (i1 : Int)) rfl (hf.get 4 2 rfl)) ?_
    obtain ⟨x, hx, hb⟩ := bind_inv hb
    refine sq 18 rfl rfl (Y_index (B := B) (m := a.length) (c := c) (k := .i64) (i := (i1 : Int)) k_sl_41_3 k_sz_3_1 rfl rfl rfl (gi_isSome encI_len rfl (hS2.rf (i := 0) rfl) hx) (getI_nn hx) (getI_ltI hx rfl)) ?_
    refine sq 19 rfl rfl (Y_load1 (B := B) (i := (i1 : Int).toNat * 1) (cs := (a.flatMap encI)) (v := .int .i64 x) k_sc_3 rfl rfl (hS2.rf (i := 0) rfl) (gi_at0 encI_len hx rfl)) ?_
    obtain ⟨x1, hx1, hb⟩ := bind_inv hb
    refine sq 20 rfl rfl (Y_index (B := some ⟨b, 0, none⟩) (m := a.length) (c := a.length) (k := .i64) (i := (i1 : Int)) k_sl_41_3 k_sz_3_1 rfl rfl rfl (gi_isSome encI_len rfl (hS2.cf (i := 0) rfl) hx1) (getI_nn hx1) (getI_ltI hx1 hl)) ?_
    refine ss0 rfl rfl (Ys_store (i := 0) (s := 1) (B := some ⟨b, 0, none⟩) (T' := 3) (v := .int .i64 x) (vs := [.int .i64 x]) (k := (i1 : Int).toNat * 1) (cs' := ((out.set (i1 : Int).toNat x).flatMap encI)) hS2 k_sz_3_1 rfl rfl rfl rfl rfl rfl rfl (gi_fit0 encI_len hx1) (gi_set encI_len hx1 x rfl) rfl) ?_
    rintro _ w_1 ⟨rfl, hS3⟩
    refine rw_nil ?_
    refine cw_region ?_
    refine sq 12 rfl rfl (Y_move (v := .int .i64 (i1 : Int)) rfl (hf.get 4 2 rfl)) ?_
    refine sq 13 rfl rfl (Y_add (k := .i64) (a := (i1 : Int)) (b := 1) rfl rfl rfl) ?_
    refine sq 4 rfl rfl (Y_assign (v := .int .i64 (IntKind.i64.wrap ((i1 : Int) + 1))) rfl rfl) ?_
    refine rw_nil ?_
    obtain rfl := some_inj hb
    exact ⟨k_1, Nat.lt_succ_self _, i1 + 1, (out.set (i1 : Int).toNat x), (FF.cons (hf.get 0 0 rfl) (FF.cons (hf.get 3 1 rfl) (FF.cons (congrArg (Value.int .i64) (wr_succ hlt1 hN)) FF.nil))), (set_len _ _ _ hl), (hS3.sel [0] rfl rfl), (by omega), hL1⟩
  · skip
    obtain rfl : k_ = 0 := by have h := of_decide_eq_false hlt; omega
    refine cw_exit rfl ?_
    obtain rfl := some_inj hL
    refine cw_seq ?_
    refine cw_region ?_
    refine sq 21 rfl rfl (Y_move (v := .slice (some ⟨b, 0, none⟩) a.length a.length) rfl (hf.get 3 1 rfl)) ?_
    refine sq 2 rfl rfl (Y_assign (v := .slice (some ⟨b, 0, none⟩) a.length a.length) rfl rfl) ?_
    refine rw_nil ?_
    refine cw_ret ?_
    obtain rfl := some_inj hF1
    exact ret1 Try.results101 (v1 := .slice (some ⟨b, 0, none⟩) a.length a.length) (resAt_tmp rfl) ⟨some ⟨b, 0, none⟩, a.length, (sl_eqv hl), (ST.subR (R' := []) (hS2.sel [0] rfl rfl) (fun _ h => by cases h))⟩

theorem c_laws_toLinear (a : TLinear) (B : Option Addr) (c n : Nat) (w0 : World) (hn : a.Rows.length = n) (hS : ST w0 [] w0 [] [⟨B, (a.Rows.flatMap encI)⟩]) {r_ : TLinear} (hF : F_laws_toLinear a = some r_) :
    CV Try.prog 52 #[.agg #[.slice B n c]] w0 (fun v w' => ∃ (B1 : Option Addr) (c1 : Nat), v = .agg #[.slice B1 r_.Rows.length c1] ∧ ST w0 [] w' [⟨B1, 3, (r_.Rows.flatMap encI), c1 * 1⟩] []) := by
  subst hn
  unfold F_laws_toLinear at hF
  refine cv_of_cw 9 Try.func52 rfl Try.ntmps52 rfl ?_
  refine cw_seq ?_
  refine cw_region ?_
  refine ss 1 rfl rfl (Ys_box (T := 43) (v := .agg #[.slice B a.Rows.length c]) (cs := [.slice B a.Rows.length c]) (m := 1) hS rfl rfl rfl rfl) ?_
  rintro _ w_ ⟨b, rfl, hS1⟩
  refine ss 2 rfl rfl (Ys_alloc (T := 48) (cs := [.slice none 0 0]) (m := 1) hS1 k_zero_48 rfl rfl rfl) ?_
  rintro _ w_1 ⟨b1, rfl, hS2⟩
  have hS2 : ST w0 [] _ [⟨some ⟨b, 0, none⟩, 43, [.slice B a.Rows.length c], 1⟩, ⟨some ⟨b1, 0, none⟩, 48, [.slice none 0 0], 1⟩] [⟨B, (a.Rows.flatMap encI)⟩] := hS2
  refine rw_nil ?_
  refine cw_seq ?_
  refine cw_region ?_
  refine ss 3 rfl rfl (Ys_alloc (T := 48) (cs := [.slice none 0 0]) (m := 1) hS2 k_zero_48 rfl rfl rfl) ?_
  rintro _ w_2 ⟨b2, rfl, hS3⟩
  have hS3 : ST w0 [] _ [⟨some ⟨b, 0, none⟩, 43, [.slice B a.Rows.length c], 1⟩, ⟨some ⟨b1, 0, none⟩, 48, [.slice none 0 0], 1⟩, ⟨some ⟨b2, 0, none⟩, 48, [.slice none 0 0], 1⟩] [⟨B, (a.Rows.flatMap encI)⟩] := hS3
  refine rw_nil ?_
  refine cw_seq ?_
  refine cw_region ?_
  refine sq 4 rfl rfl (Y_fieldAddr (B := some ⟨b, 0, none⟩) (i := 0) (s := 0) k_fd_43_0_0_41 k_sz_41_1 rfl rfl) ?_
  refine sq 5 rfl rfl (Y_load1 (B := some ⟨b, 0, none⟩) (i := 0) (cs := [.slice B a.Rows.length c]) (v := .slice B a.Rows.length c) k_sc_41 rfl rfl (hS3.cf (i := 0) rfl) rfl) ?_
  obtain ⟨r_1, hc, hF⟩ := bind_inv hF
  refine sc 6 rfl rfl (Yc_func (g := 101) (vs := [.slice B a.Rows.length c]) k_call_101 rfl (mc rfl mn) (c_laws_toIntS a.Rows B c a.Rows.length _ rfl (hS3.inn0 [(true, 0)] rfl) hc)) ?_
  rintro _ w_3 ⟨B2, c2, rfl, hd⟩
  have hS4 := hS3.out0 hd
  have hS4 : ST w0 [] _ [⟨some ⟨b, 0, none⟩, 43, [.slice B a.Rows.length c], 1⟩, ⟨some ⟨b1, 0, none⟩, 48, [.slice none 0 0], 1⟩, ⟨some ⟨b2, 0, none⟩, 48, [.slice none 0 0], 1⟩, ⟨B2, 3, (r_1.flatMap encI), c2 * 1⟩] [⟨B, (a.Rows.flatMap encI)⟩] := hS4
  refine sq 7 rfl rfl (Y_fieldAddr (B := some ⟨b2, 0, none⟩) (i := 0) (s := 0) k_fd_48_0_0_41 k_sz_41_1 rfl rfl) ?_
  refine ss0 rfl rfl (Ys_store (i := 2) (s := 1) (B := some ⟨b2, 0, none⟩) (T' := 48) (v := .slice B2 r_1.length c2) (vs := [.slice B2 r_1.length c2]) (k := 0) (cs' := [.slice B2 r_1.length c2]) hS4 k_sz_41_1 rfl rfl rfl rfl rfl rfl rfl (Nat.le_of_ble_eq_true rfl) rfl rfl) ?_
  rintro _ w_4 ⟨rfl, hS5⟩
  have hS5 : ST w0 [] _ [⟨some ⟨b, 0, none⟩, 43, [.slice B a.Rows.length c], 1⟩, ⟨some ⟨b1, 0, none⟩, 48, [.slice none 0 0], 1⟩, ⟨some ⟨b2, 0, none⟩, 48, [.slice B2 r_1.length c2], 1⟩, ⟨B2, 3, (r_1.flatMap encI), c2 * 1⟩] [⟨B, (a.Rows.flatMap encI)⟩] := hS5
  refine rw_nil ?_
  refine cw_seq ?_
  refine cw_region ?_
  refine sq 8 rfl rfl (Y_loadA (B := some ⟨b2, 0, none⟩) (i := 0) (cs := [.slice B2 r_1.length c2]) (vs := [.slice B2 r_1.length c2]) k_ag_48 k_sz_48_1 rfl rfl (hS5.cf (i := 2) rfl) rfl rfl) ?_
  refine ss0 rfl rfl (Ys_store (i := 1) (s := 1) (B := some ⟨b1, 0, none⟩) (T' := 48) (v := .agg #[.slice B2 r_1.length c2]) (vs := [.slice B2 r_1.length c2]) (k := 0) (cs' := [.slice B2 r_1.length c2]) hS5 k_sz_48_1 rfl rfl rfl rfl rfl rfl rfl (Nat.le_of_ble_eq_true rfl) rfl rfl) ?_
  rintro _ w_5 ⟨rfl, hS6⟩
  have hS6 : ST w0 [] _ [⟨some ⟨b, 0, none⟩, 43, [.slice B a.Rows.length c], 1⟩, ⟨some ⟨b1, 0, none⟩, 48, [.slice B2 r_1.length c2], 1⟩, ⟨some ⟨b2, 0, none⟩, 48, [.slice B2 r_1.length c2], 1⟩, ⟨B2, 3, (r_1.flatMap encI), c2 * 1⟩] [⟨B, (a.Rows.flatMap encI)⟩] := hS6
  refine rw_nil ?_
  refine cw_ret ?_
  obtain rfl := some_inj hF
  exact ret1 Try.results52 (v1 := .agg #[.slice B2 r_1.length c2]) (resAt_cellA (B := some ⟨b1, 0, none⟩) (i := 0) (cs := [.slice B2 r_1.length c2]) (vs := [.slice B2 r_1.length c2]) rfl k_ag_48 k_sz_48_1 (hS6.cf (i := 1) rfl) rfl rfl) ⟨B2, c2, rfl, (ST.subR (R' := []) (hS6.sel [3] rfl rfl) (fun _ h => by cases h))⟩

theorem c_laws_toPhasePoly (a : TPhasePoly) (B : Option Addr) (c n : Nat) (B1 : Option Addr) (c1 n1 : Nat) (w0 : World) (hn : a.Terms.length = n) (hn1 : a.Out.Rows.length = n1) (hS : ST w0 [] w0 [] [⟨B, (a.Terms.flatMap enc_Term)⟩, ⟨B1, (a.Out.Rows.flatMap encI)⟩]) {r_ : TPhasePoly} (hF : F_laws_toPhasePoly a = some r_) :
    CV Try.prog 18 #[.agg #[.int .i64 a.Qubits, .int .i64 a.Phase, .slice B n c, .slice B1 n1 c1]] w0 (fun v w' => ∃ (B2 : Option Addr) (c2 : Nat) (B3 : Option Addr) (c3 : Nat), v = .agg #[.int .i64 r_.Qubits, .int .i64 r_.Phase, .slice B2 r_.Terms.length c2, .slice B3 r_.Out.Rows.length c3] ∧ ST w0 [] w' [⟨B2, 95, (r_.Terms.flatMap enc_Term), c2 * 2⟩, ⟨B3, 3, (r_.Out.Rows.flatMap encI), c3 * 1⟩] []) := by
  subst hn
  subst hn1
  unfold F_laws_toPhasePoly at hF
  refine cv_of_cw 19 Try.func18 rfl Try.ntmps18 rfl ?_
  refine cw_seq ?_
  refine cw_region ?_
  refine ss 1 rfl rfl (Ys_box (T := 45) (v := .agg #[.int .i64 a.Qubits, .int .i64 a.Phase, .slice B a.Terms.length c, .slice B1 a.Out.Rows.length c1]) (cs := [.int .i64 a.Qubits, .int .i64 a.Phase, .slice B a.Terms.length c, .slice B1 a.Out.Rows.length c1]) (m := 4) hS rfl rfl rfl rfl) ?_
  rintro _ w_ ⟨b, rfl, hS1⟩
  refine ss 2 rfl rfl (Ys_alloc (T := 50) (cs := [.int .i64 0, .int .i64 0, .slice none 0 0, .slice none 0 0]) (m := 4) hS1 k_zero_50 rfl rfl rfl) ?_
  rintro _ w_1 ⟨b1, rfl, hS2⟩
  have hS2 : ST w0 [] _ [⟨some ⟨b, 0, none⟩, 45, [.int .i64 a.Qubits, .int .i64 a.Phase, .slice B a.Terms.length c, .slice B1 a.Out.Rows.length c1], 4⟩, ⟨some ⟨b1, 0, none⟩, 50, [.int .i64 0, .int .i64 0, .slice none 0 0, .slice none 0 0], 4⟩] [⟨B, (a.Terms.flatMap enc_Term)⟩, ⟨B1, (a.Out.Rows.flatMap encI)⟩] := hS2
  refine rw_nil ?_
  refine cw_seq ?_
  refine cw_region ?_
  refine ss 3 rfl rfl (Ys_alloc (T := 50) (cs := [.int .i64 0, .int .i64 0, .slice none 0 0, .slice none 0 0]) (m := 4) hS2 k_zero_50 rfl rfl rfl) ?_
  rintro _ w_2 ⟨b2, rfl, hS3⟩
  have hS3 : ST w0 [] _ [⟨some ⟨b, 0, none⟩, 45, [.int .i64 a.Qubits, .int .i64 a.Phase, .slice B a.Terms.length c, .slice B1 a.Out.Rows.length c1], 4⟩, ⟨some ⟨b1, 0, none⟩, 50, [.int .i64 0, .int .i64 0, .slice none 0 0, .slice none 0 0], 4⟩, ⟨some ⟨b2, 0, none⟩, 50, [.int .i64 0, .int .i64 0, .slice none 0 0, .slice none 0 0], 4⟩] [⟨B, (a.Terms.flatMap enc_Term)⟩, ⟨B1, (a.Out.Rows.flatMap encI)⟩] := hS3
  refine rw_nil ?_
  refine cw_seq ?_
  refine cw_region ?_
  refine sq 4 rfl rfl (Y_fieldAddr (B := some ⟨b, 0, none⟩) (i := 0) (s := 0) k_fd_45_0_0_3 k_sz_3_1 rfl rfl) ?_
  refine sq 5 rfl rfl (Y_load1 (B := some ⟨b, 0, none⟩) (i := 0) (cs := [.int .i64 a.Qubits, .int .i64 a.Phase, .slice B a.Terms.length c, .slice B1 a.Out.Rows.length c1]) (v := .int .i64 a.Qubits) k_sc_3 rfl rfl (hS3.cf (i := 0) rfl) rfl) ?_
  refine sq 6 rfl rfl (Y_fieldAddr (B := some ⟨b2, 0, none⟩) (i := 0) (s := 0) k_fd_50_0_0_3 k_sz_3_1 rfl rfl) ?_
  refine ss0 rfl rfl (Ys_store (i := 2) (s := 1) (B := some ⟨b2, 0, none⟩) (T' := 50) (v := .int .i64 a.Qubits) (vs := [.int .i64 a.Qubits]) (k := 0) (cs' := [.int .i64 a.Qubits, .int .i64 0, .slice none 0 0, .slice none 0 0]) hS3 k_sz_3_1 rfl rfl rfl rfl rfl rfl rfl (Nat.le_of_ble_eq_true rfl) rfl rfl) ?_
  rintro _ w_3 ⟨rfl, hS4⟩
  have hS4 : ST w0 [] _ [⟨some ⟨b, 0, none⟩, 45, [.int .i64 a.Qubits, .int .i64 a.Phase, .slice B a.Terms.length c, .slice B1 a.Out.Rows.length c1], 4⟩, ⟨some ⟨b1, 0, none⟩, 50, [.int .i64 0, .int .i64 0, .slice none 0 0, .slice none 0 0], 4⟩, ⟨some ⟨b2, 0, none⟩, 50, [.int .i64 a.Qubits, .int .i64 0, .slice none 0 0, .slice none 0 0], 4⟩] [⟨B, (a.Terms.flatMap enc_Term)⟩, ⟨B1, (a.Out.Rows.flatMap encI)⟩] := hS4
  refine rw_nil ?_
  refine cw_seq ?_
  refine cw_region ?_
  refine sq 7 rfl rfl (Y_fieldAddr (B := some ⟨b, 0, none⟩) (i := 0) (s := 0) k_fd_45_1_1_3 k_sz_3_1 rfl rfl) ?_
  refine sq 8 rfl rfl (Y_load1 (B := some ⟨b, 0, none⟩) (i := 1) (cs := [.int .i64 a.Qubits, .int .i64 a.Phase, .slice B a.Terms.length c, .slice B1 a.Out.Rows.length c1]) (v := .int .i64 a.Phase) k_sc_3 rfl rfl (hS4.cf (i := 0) rfl) rfl) ?_
  refine sq 9 rfl rfl (Y_fieldAddr (B := some ⟨b2, 0, none⟩) (i := 0) (s := 0) k_fd_50_1_1_3 k_sz_3_1 rfl rfl) ?_
  refine ss0 rfl rfl (Ys_store (i := 2) (s := 1) (B := some ⟨b2, 0, none⟩) (T' := 50) (v := .int .i64 a.Phase) (vs := [.int .i64 a.Phase]) (k := 1) (cs' := [.int .i64 a.Qubits, .int .i64 a.Phase, .slice none 0 0, .slice none 0 0]) hS4 k_sz_3_1 rfl rfl rfl rfl rfl rfl rfl (Nat.le_of_ble_eq_true rfl) rfl rfl) ?_
  rintro _ w_4 ⟨rfl, hS5⟩
  have hS5 : ST w0 [] _ [⟨some ⟨b, 0, none⟩, 45, [.int .i64 a.Qubits, .int .i64 a.Phase, .slice B a.Terms.length c, .slice B1 a.Out.Rows.length c1], 4⟩, ⟨some ⟨b1, 0, none⟩, 50, [.int .i64 0, .int .i64 0, .slice none 0 0, .slice none 0 0], 4⟩, ⟨some ⟨b2, 0, none⟩, 50, [.int .i64 a.Qubits, .int .i64 a.Phase, .slice none 0 0, .slice none 0 0], 4⟩] [⟨B, (a.Terms.flatMap enc_Term)⟩, ⟨B1, (a.Out.Rows.flatMap encI)⟩] := hS5
  refine rw_nil ?_
  refine cw_seq ?_
  refine cw_region ?_
  refine sq 10 rfl rfl (Y_fieldAddr (B := some ⟨b, 0, none⟩) (i := 0) (s := 0) k_fd_45_2_2_40 k_sz_40_1 rfl rfl) ?_
  refine sq 11 rfl rfl (Y_load1 (B := some ⟨b, 0, none⟩) (i := 2) (cs := [.int .i64 a.Qubits, .int .i64 a.Phase, .slice B a.Terms.length c, .slice B1 a.Out.Rows.length c1]) (v := .slice B a.Terms.length c) k_sc_40 rfl rfl (hS5.cf (i := 0) rfl) rfl) ?_
  obtain ⟨r_1, hc, hF⟩ := bind_inv hF
  refine sc 12 rfl rfl (Yc_func (g := 51) (vs := [.slice B a.Terms.length c]) k_call_51 rfl (mc rfl mn) (c_laws_toTermS a.Terms B c a.Terms.length _ rfl (hS5.inn0 [(true, 0)] rfl) hc)) ?_
  rintro _ w_5 ⟨B4, c4, rfl, hd⟩
  have hS6 := hS5.out0 hd
  have hS6 : ST w0 [] _ [⟨some ⟨b, 0, none⟩, 45, [.int .i64 a.Qubits, .int .i64 a.Phase, .slice B a.Terms.length c, .slice B1 a.Out.Rows.length c1], 4⟩, ⟨some ⟨b1, 0, none⟩, 50, [.int .i64 0, .int .i64 0, .slice none 0 0, .slice none 0 0], 4⟩, ⟨some ⟨b2, 0, none⟩, 50, [.int .i64 a.Qubits, .int .i64 a.Phase, .slice none 0 0, .slice none 0 0], 4⟩, ⟨B4, 95, (r_1.flatMap enc_Term), c4 * 2⟩] [⟨B, (a.Terms.flatMap enc_Term)⟩, ⟨B1, (a.Out.Rows.flatMap encI)⟩] := hS6
  refine sq 13 rfl rfl (Y_fieldAddr (B := some ⟨b2, 0, none⟩) (i := 0) (s := 0) k_fd_50_2_2_47 k_sz_47_1 rfl rfl) ?_
  refine ss0 rfl rfl (Ys_store (i := 2) (s := 1) (B := some ⟨b2, 0, none⟩) (T' := 50) (v := .slice B4 r_1.length c4) (vs := [.slice B4 r_1.length c4]) (k := 2) (cs' := [.int .i64 a.Qubits, .int .i64 a.Phase, .slice B4 r_1.length c4, .slice none 0 0]) hS6 k_sz_47_1 rfl rfl rfl rfl rfl rfl rfl (Nat.le_of_ble_eq_true rfl) rfl rfl) ?_
  rintro _ w_6 ⟨rfl, hS7⟩
  have hS7 : ST w0 [] _ [⟨some ⟨b, 0, none⟩, 45, [.int .i64 a.Qubits, .int .i64 a.Phase, .slice B a.Terms.length c, .slice B1 a.Out.Rows.length c1], 4⟩, ⟨some ⟨b1, 0, none⟩, 50, [.int .i64 0, .int .i64 0, .slice none 0 0, .slice none 0 0], 4⟩, ⟨some ⟨b2, 0, none⟩, 50, [.int .i64 a.Qubits, .int .i64 a.Phase, .slice B4 r_1.length c4, .slice none 0 0], 4⟩, ⟨B4, 95, (r_1.flatMap enc_Term), c4 * 2⟩] [⟨B, (a.Terms.flatMap enc_Term)⟩, ⟨B1, (a.Out.Rows.flatMap encI)⟩] := hS7
  refine rw_nil ?_
  refine cw_seq ?_
  refine cw_region ?_
  refine sq 14 rfl rfl (Y_fieldAddr (B := some ⟨b, 0, none⟩) (i := 0) (s := 0) k_fd_45_3_3_43 k_sz_43_1 rfl rfl) ?_
  refine sq 15 rfl rfl (Y_loadA (B := some ⟨b, 0, none⟩) (i := 3) (cs := [.int .i64 a.Qubits, .int .i64 a.Phase, .slice B a.Terms.length c, .slice B1 a.Out.Rows.length c1]) (vs := [.slice B1 a.Out.Rows.length c1]) k_ag_43 k_sz_43_1 rfl rfl (hS7.cf (i := 0) rfl) rfl rfl) ?_
  obtain ⟨r_2, hc1, hF⟩ := bind_inv hF
  refine sc 16 rfl rfl (Yc_func (g := 52) (vs := [.agg #[.slice B1 a.Out.Rows.length c1]]) k_call_52 rfl (mc rfl mn) (c_laws_toLinear a.Out B1 c1 a.Out.Rows.length _ rfl (hS7.inn0 [(true, 1)] rfl) hc1)) ?_
  rintro _ w_7 ⟨B5, c5, rfl, hd1⟩
  have hS8 := hS7.out0 hd1
  have hS8 : ST w0 [] _ [⟨some ⟨b, 0, none⟩, 45, [.int .i64 a.Qubits, .int .i64 a.Phase, .slice B a.Terms.length c, .slice B1 a.Out.Rows.length c1], 4⟩, ⟨some ⟨b1, 0, none⟩, 50, [.int .i64 0, .int .i64 0, .slice none 0 0, .slice none 0 0], 4⟩, ⟨some ⟨b2, 0, none⟩, 50, [.int .i64 a.Qubits, .int .i64 a.Phase, .slice B4 r_1.length c4, .slice none 0 0], 4⟩, ⟨B4, 95, (r_1.flatMap enc_Term), c4 * 2⟩, ⟨B5, 3, (r_2.Rows.flatMap encI), c5 * 1⟩] [⟨B, (a.Terms.flatMap enc_Term)⟩, ⟨B1, (a.Out.Rows.flatMap encI)⟩] := hS8
  refine sq 17 rfl rfl (Y_fieldAddr (B := some ⟨b2, 0, none⟩) (i := 0) (s := 0) k_fd_50_3_3_48 k_sz_48_1 rfl rfl) ?_
  refine ss0 rfl rfl (Ys_store (i := 2) (s := 1) (B := some ⟨b2, 0, none⟩) (T' := 50) (v := .agg #[.slice B5 r_2.Rows.length c5]) (vs := [.slice B5 r_2.Rows.length c5]) (k := 3) (cs' := [.int .i64 a.Qubits, .int .i64 a.Phase, .slice B4 r_1.length c4, .slice B5 r_2.Rows.length c5]) hS8 k_sz_48_1 rfl rfl rfl rfl rfl rfl rfl (Nat.le_of_ble_eq_true rfl) rfl rfl) ?_
  rintro _ w_8 ⟨rfl, hS9⟩
  have hS9 : ST w0 [] _ [⟨some ⟨b, 0, none⟩, 45, [.int .i64 a.Qubits, .int .i64 a.Phase, .slice B a.Terms.length c, .slice B1 a.Out.Rows.length c1], 4⟩, ⟨some ⟨b1, 0, none⟩, 50, [.int .i64 0, .int .i64 0, .slice none 0 0, .slice none 0 0], 4⟩, ⟨some ⟨b2, 0, none⟩, 50, [.int .i64 a.Qubits, .int .i64 a.Phase, .slice B4 r_1.length c4, .slice B5 r_2.Rows.length c5], 4⟩, ⟨B4, 95, (r_1.flatMap enc_Term), c4 * 2⟩, ⟨B5, 3, (r_2.Rows.flatMap encI), c5 * 1⟩] [⟨B, (a.Terms.flatMap enc_Term)⟩, ⟨B1, (a.Out.Rows.flatMap encI)⟩] := hS9
  refine rw_nil ?_
  refine cw_seq ?_
  refine cw_region ?_
  refine sq 18 rfl rfl (Y_loadA (B := some ⟨b2, 0, none⟩) (i := 0) (cs := [.int .i64 a.Qubits, .int .i64 a.Phase, .slice B4 r_1.length c4, .slice B5 r_2.Rows.length c5]) (vs := [.int .i64 a.Qubits, .int .i64 a.Phase, .slice B4 r_1.length c4, .slice B5 r_2.Rows.length c5]) k_ag_50 k_sz_50_4 rfl rfl (hS9.cf (i := 2) rfl) rfl rfl) ?_
  refine ss0 rfl rfl (Ys_store (i := 1) (s := 4) (B := some ⟨b1, 0, none⟩) (T' := 50) (v := .agg #[.int .i64 a.Qubits, .int .i64 a.Phase, .slice B4 r_1.length c4, .slice B5 r_2.Rows.length c5]) (vs := [.int .i64 a.Qubits, .int .i64 a.Phase, .slice B4 r_1.length c4, .slice B5 r_2.Rows.length c5]) (k := 0) (cs' := [.int .i64 a.Qubits, .int .i64 a.Phase, .slice B4 r_1.length c4, .slice B5 r_2.Rows.length c5]) hS9 k_sz_50_4 rfl rfl rfl rfl rfl rfl rfl (Nat.le_of_ble_eq_true rfl) rfl rfl) ?_
  rintro _ w_9 ⟨rfl, hS10⟩
  have hS10 : ST w0 [] _ [⟨some ⟨b, 0, none⟩, 45, [.int .i64 a.Qubits, .int .i64 a.Phase, .slice B a.Terms.length c, .slice B1 a.Out.Rows.length c1], 4⟩, ⟨some ⟨b1, 0, none⟩, 50, [.int .i64 a.Qubits, .int .i64 a.Phase, .slice B4 r_1.length c4, .slice B5 r_2.Rows.length c5], 4⟩, ⟨some ⟨b2, 0, none⟩, 50, [.int .i64 a.Qubits, .int .i64 a.Phase, .slice B4 r_1.length c4, .slice B5 r_2.Rows.length c5], 4⟩, ⟨B4, 95, (r_1.flatMap enc_Term), c4 * 2⟩, ⟨B5, 3, (r_2.Rows.flatMap encI), c5 * 1⟩] [⟨B, (a.Terms.flatMap enc_Term)⟩, ⟨B1, (a.Out.Rows.flatMap encI)⟩] := hS10
  refine rw_nil ?_
  refine cw_ret ?_
  obtain rfl := some_inj hF
  exact ret1 Try.results18 (v1 := .agg #[.int .i64 a.Qubits, .int .i64 a.Phase, .slice B4 r_1.length c4, .slice B5 r_2.Rows.length c5]) (resAt_cellA (B := some ⟨b1, 0, none⟩) (i := 0) (cs := [.int .i64 a.Qubits, .int .i64 a.Phase, .slice B4 r_1.length c4, .slice B5 r_2.Rows.length c5]) (vs := [.int .i64 a.Qubits, .int .i64 a.Phase, .slice B4 r_1.length c4, .slice B5 r_2.Rows.length c5]) rfl k_ag_50 k_sz_50_4 (hS10.cf (i := 1) rfl) rfl rfl) ⟨B4, c4, B5, c5, rfl, (ST.subR (R' := []) (hS10.sel [3, 4] rfl rfl) (fun _ h => by cases h))⟩

theorem c_laws_eqTerm (a : TTerm) (b : TTerm)  (w0 : World)  (hS : ST w0 [] w0 [] []) {r_ : Bool} (hF : F_laws_eqTerm a b = some r_) :
    CV Try.prog 107 #[.agg #[.int .i64 a.Mask, .int .i64 a.Coef], .agg #[.int .i64 b.Mask, .int .i64 b.Coef]] w0 (fun v w' => v = .bool r_ ∧ ST w0 [] w' [] []) := by
  unfold F_laws_eqTerm at hF
  refine cv_of_cw 15 Try.func107 rfl Try.ntmps107 rfl ?_
  refine cw_seq ?_
  refine cw_region ?_
  refine ss 2 rfl rfl (Ys_box (T := 95) (v := .agg #[.int .i64 a.Mask, .int .i64 a.Coef]) (cs := [.int .i64 a.Mask, .int .i64 a.Coef]) (m := 2) hS rfl rfl rfl rfl) ?_
  rintro _ w_ ⟨b1, rfl, hS1⟩
  refine ss 3 rfl rfl (Ys_box (T := 95) (v := .agg #[.int .i64 b.Mask, .int .i64 b.Coef]) (cs := [.int .i64 b.Mask, .int .i64 b.Coef]) (m := 2) hS1 rfl rfl rfl rfl) ?_
  rintro _ w_1 ⟨b2, rfl, hS2⟩
  have hS2 : ST w0 [] _ [⟨some ⟨b1, 0, none⟩, 95, [.int .i64 a.Mask, .int .i64 a.Coef], 2⟩, ⟨some ⟨b2, 0, none⟩, 95, [.int .i64 b.Mask, .int .i64 b.Coef], 2⟩] [] := hS2
  refine sq 4 rfl rfl (Y_assign (v := .bool false) rfl rfl) ?_
  refine rw_nil ?_
  refine cw_seq ?_
  refine cw_seq ?_
  refine cw_region ?_
  refine sq 5 rfl rfl (Y_fieldAddr (B := some ⟨b1, 0, none⟩) (i := 0) (s := 0) k_fd_95_0_0_3 k_sz_3_1 rfl rfl) ?_
  refine sq 6 rfl rfl (Y_load1 (B := some ⟨b1, 0, none⟩) (i := 0) (cs := [.int .i64 a.Mask, .int .i64 a.Coef]) (v := .int .i64 a.Mask) k_sc_3 rfl rfl (hS2.cf (i := 0) rfl) rfl) ?_
  refine sq 7 rfl rfl (Y_fieldAddr (B := some ⟨b2, 0, none⟩) (i := 0) (s := 0) k_fd_95_0_0_3 k_sz_3_1 rfl rfl) ?_
  refine sq 8 rfl rfl (Y_load1 (B := some ⟨b2, 0, none⟩) (i := 0) (cs := [.int .i64 b.Mask, .int .i64 b.Coef]) (v := .int .i64 b.Mask) k_sc_3 rfl rfl (hS2.cf (i := 1) rfl) rfl) ?_
  refine sq 9 rfl rfl (Y_ne (k := .i64) (a := a.Mask) (b := b.Mask) rfl rfl rfl) ?_
  refine rw_nil ?_
  refine cw_cond (b := (a.Mask != b.Mask)) rfl (fun hb => ?_) (fun hb => ?_)
  · skip
    have hF1 := ct hF hb
    refine cw_seq ?_
    refine cw_region ?_
    refine sq 4 rfl rfl (Y_assign (v := .bool false) rfl rfl) ?_
    refine rw_nil ?_
    refine cw_ret ?_
    obtain rfl := some_inj hF1
    exact ret1 Try.results107 (v1 := .bool false) (resAt_tmp rfl) ⟨rfl, (ST.subR (R' := []) (hS2.sel [] rfl rfl) (fun _ h => by cases h))⟩
  · skip
    have hF2 := cf' hF hb
    refine cw_skip ?_
    refine cw_seq ?_
    refine cw_seq ?_
    refine cw_region ?_
    refine sq 10 rfl rfl (Y_fieldAddr (B := some ⟨b1, 0, none⟩) (i := 0) (s := 0) k_fd_95_1_1_3 k_sz_3_1 rfl rfl) ?_
    refine sq 11 rfl rfl (Y_load1 (B := some ⟨b1, 0, none⟩) (i := 1) (cs := [.int .i64 a.Mask, .int .i64 a.Coef]) (v := .int .i64 a.Coef) k_sc_3 rfl rfl (hS2.cf (i := 0) rfl) rfl) ?_
    refine sq 12 rfl rfl (Y_fieldAddr (B := some ⟨b2, 0, none⟩) (i := 0) (s := 0) k_fd_95_1_1_3 k_sz_3_1 rfl rfl) ?_
    refine sq 13 rfl rfl (Y_load1 (B := some ⟨b2, 0, none⟩) (i := 1) (cs := [.int .i64 b.Mask, .int .i64 b.Coef]) (v := .int .i64 b.Coef) k_sc_3 rfl rfl (hS2.cf (i := 1) rfl) rfl) ?_
    refine sq 14 rfl rfl (Y_ne (k := .i64) (a := a.Coef) (b := b.Coef) rfl rfl rfl) ?_
    refine rw_nil ?_
    refine cw_cond (b := (a.Coef != b.Coef)) rfl (fun hb1 => ?_) (fun hb1 => ?_)
    · skip
      have hF3 := ct hF2 hb1
      refine cw_seq ?_
      refine cw_region ?_
      refine sq 4 rfl rfl (Y_assign (v := .bool false) rfl rfl) ?_
      refine rw_nil ?_
      refine cw_ret ?_
      obtain rfl := some_inj hF3
      exact ret1 Try.results107 (v1 := .bool false) (resAt_tmp rfl) ⟨rfl, (ST.subR (R' := []) (hS2.sel [] rfl rfl) (fun _ h => by cases h))⟩
    · skip
      have hF4 := cf' hF2 hb1
      refine cw_skip ?_
      refine cw_seq ?_
      refine cw_region ?_
      refine sq 4 rfl rfl (Y_assign (v := .bool true) rfl rfl) ?_
      refine rw_nil ?_
      refine cw_ret ?_
      obtain rfl := some_inj hF4
      exact ret1 Try.results107 (v1 := .bool true) (resAt_tmp rfl) ⟨rfl, (ST.subR (R' := []) (hS2.sel [] rfl rfl) (fun _ h => by cases h))⟩

theorem c_laws_eqTermS (a : List TTerm) (b : List TTerm) (B : Option Addr) (c n : Nat) (B1 : Option Addr) (c1 n1 : Nat) (w0 : World) (hn : a.length = n) (hn1 : b.length = n1) (hS : ST w0 [] w0 [] [⟨B, (a.flatMap enc_Term)⟩, ⟨B1, (b.flatMap enc_Term)⟩]) {r_ : Bool} (hF : F_laws_eqTermS a b = some r_) :
    CV Try.prog 58 #[.slice B n c, .slice B1 n1 c1] w0 (fun v w' => v = .bool r_ ∧ ST w0 [] w' [] []) := by
  subst hn
  subst hn1
  unfold F_laws_eqTermS at hF
  refine cv_of_cw 27 Try.func58 rfl Try.ntmps58 rfl ?_
  refine cw_seq ?_
  refine cw_region ?_
  refine sq 4 rfl rfl (Y_assign (v := .bool false) rfl rfl) ?_
  refine rw_nil ?_
  refine cw_seq ?_
  refine cw_seq ?_
  refine cw_region ?_
  refine sq 6 rfl rfl (Y_move (v := .slice B a.length c) rfl rfl) ?_
  refine sq 7 rfl rfl (Y_len (B := B) (m := a.length) (c := c) k_sl_47_95 rfl rfl) ?_
  refine sq 8 rfl rfl (Y_move (v := .slice B1 b.length c1) rfl rfl) ?_
  refine sq 9 rfl rfl (Y_len (B := B1) (m := b.length) (c := c1) k_sl_47_95 rfl rfl) ?_
  refine sq 10 rfl rfl (Y_ne (k := .i64) (a := (a.length : Int)) (b := (b.length : Int)) rfl rfl rfl) ?_
  refine rw_nil ?_
  refine cw_cond (b := ((a.length : Int) != (b.length : Int))) rfl (fun hb => ?_) (fun hb => ?_)
  · skip
    have hF1 := ct hF hb
    refine cw_seq ?_
    refine cw_region ?_
    refine sq 4 rfl rfl (Y_assign (v := .bool false) rfl rfl) ?_
    refine rw_nil ?_
    refine cw_ret ?_
    obtain rfl := some_inj hF1
    exact ret1 Try.results58 (v1 := .bool false) (resAt_tmp rfl) ⟨rfl, (ST.subR (R' := []) (hS.sel [] rfl rfl) (fun _ h => by cases h))⟩
  · skip
    have hF2 := cf' hF hb
    refine cw_skip ?_
    refine cw_seq ?_
    refine cw_seq ?_
    refine cw_region ?_
    refine sq 5 rfl rfl (Y_assign (v := .int .i64 0) rfl rfl) ?_
    refine rw_nil ?_
    obtain ⟨hN, hF2⟩ := chk_inv hF2
    obtain ⟨z, hz, hF3⟩ := bind_inv hF2
    refine cw_block ?_
    refine cw_loop (fun k f w => ∃ (i1 : Nat), FF f [(0, .slice B a.length c), (1, .slice B1 b.length c1), (5, .int .i64 (i1 : Int))] ∧ ST w0 [] w [] [⟨B, (a.flatMap enc_Term)⟩, ⟨B1, (b.flatMap enc_Term)⟩] ∧ i1 + k = a.length ∧ forX (F_laws_eqTermS_l1 a b) k i1 () = some z) a.length ⟨0, (FF.cons rfl (FF.cons rfl (FF.cons rfl FF.nil))), (hS.sel [] rfl rfl), Nat.zero_add _, hz⟩ ?_
    rintro k_ f w ⟨i1, hf, hS1, hik, hL⟩
    refine cw_seq ?_
    refine cw_seq ?_
    refine cw_region ?_
    refine sq 11 rfl rfl (Y_move (v := .int .i64 (i1 : Int)) rfl (hf.get 5 2 rfl)) ?_
    refine sq 12 rfl rfl (Y_move (v := .slice B a.length c) rfl (hf.get 0 0 rfl)) ?_
    refine sq 13 rfl rfl (Y_len (B := B) (m := a.length) (c := c) k_sl_47_95 rfl rfl) ?_
    refine sq 14 rfl rfl (Y_lt (k := .i64) (a := (i1 : Int)) (b := (a.length : Int)) rfl rfl rfl) ?_
    refine rw_nil ?_
    refine cw_cond (b := (decide ((i1 : Int) < (a.length : Int)))) rfl (fun hlt => ?_) (fun hlt => ?_)
    · skip
      have hlt1 : i1 < a.length := by have h := of_decide_eq_true hlt; omega
      obtain ⟨k_1, rfl⟩ : ∃ k2, k_ = k2 + 1 := ⟨k_ - 1, by omega⟩
      obtain ⟨y, hb1, hL1⟩ := forX_go hL
      unfold F_laws_eqTermS_l1 at hb1
      refine cw_skip ?_
      refine cw_seq ?_
      refine cw_block ?_
      refine cw_seq ?_
      obtain ⟨x, hx, hb1⟩ := bind_inv hb1
      obtain ⟨x1, hx1, hb1⟩ := bind_inv hb1
      obtain ⟨r_1, hc, hb1⟩ := bind_inv hb1
      refine ra_start (ST.sel hS1 [] rfl rfl).fn (by kernel_rfl) ?_
      have hS3 := hS1.drew
      refine ra_q 0 17 (v := .slice B a.length c) rfl rfl rfl (by kernel_rfl) (by kernel_rfl) (by kernel_rfl) (ST.sel hS3 [] rfl rfl) (fun w' hw' => (Y_move (v := .slice B a.length c) rfl (hf.get 0 0 rfl))) ?_
      refine ra_q 1 18 (v := .int .i64 (i1 : Int)) rfl rfl rfl (by kernel_rfl) (by kernel_rfl) (by kernel_rfl) (ST.sel hS3 [] rfl rfl) (fun w' hw' => (Y_move (v := .int .i64 (i1 : Int)) rfl (hf.get 5 2 rfl))) ?_
      refine ra_q 2 19 (v := pt B ((i1 : Int).toNat * 2)) rfl rfl rfl (by kernel_rfl) (by kernel_rfl) (by kernel_rfl) (ST.sel hS3 [] rfl rfl) (fun w' hw' => (Y_index (B := B) (m := a.length) (c := c) (k := .i64) (i := (i1 : Int)) k_sl_47_95 k_sz_95_2 rfl rfl rfl (gi_isSome enc_Term_len rfl (ST.rf hw' (i := 0) rfl) hx) (getI_nn hx) (getI_ltI hx rfl))) ?_
      refine ra_q 3 20 (v := .agg #[.int .i64 x.Mask, .int .i64 x.Coef]) rfl rfl rfl (by kernel_rfl) (by kernel_rfl) (by kernel_rfl) (ST.sel hS3 [] rfl rfl) (fun w' hw' => (Y_loadA (B := B) (i := (i1 : Int).toNat * 2) (cs := (a.flatMap enc_Term)) (vs := [.int .i64 x.Mask, .int .i64 x.Coef]) k_ag_95 k_sz_95_2 rfl rfl (ST.rf hw' (i := 0) rfl) (enc_Term_len x) (gi_seg enc_Term_len hx))) ?_
      refine ra_q 4 21 (v := .slice B1 b.length c1) rfl rfl rfl (by kernel_rfl) (by kernel_rfl) (by kernel_rfl) (ST.sel hS3 [] rfl rfl) (fun w' hw' => (Y_move (v := .slice B1 b.length c1) rfl (hf.get 1 1 rfl))) ?_
      refine ra_q 5 22 (v := .int .i64 (i1 : Int)) rfl rfl rfl (by kernel_rfl) (by kernel_rfl) (by kernel_rfl) (ST.sel hS3 [] rfl rfl) (fun w' hw' => (Y_move (v := .int .i64 (i1 : Int)) rfl (hf.get 5 2 rfl))) ?_
      refine ra_q 6 23 (v := pt B1 ((i1 : Int).toNat * 2)) rfl rfl rfl (by kernel_rfl) (by kernel_rfl) (by kernel_rfl) (ST.sel hS3 [] rfl rfl) (fun w' hw' => (Y_index (B := B1) (m := b.length) (c := c1) (k := .i64) (i := (i1 : Int)) k_sl_47_95 k_sz_95_2 rfl rfl rfl (gi_isSome enc_Term_len rfl (ST.rf hw' (i := 1) rfl) hx1) (getI_nn hx1) (getI_ltI hx1 rfl))) ?_
      refine ra_q 7 24 (v := .agg #[.int .i64 x1.Mask, .int .i64 x1.Coef]) rfl rfl rfl (by kernel_rfl) (by kernel_rfl) (by kernel_rfl) (ST.sel hS3 [] rfl rfl) (fun w' hw' => (Y_loadA (B := B1) (i := (i1 : Int).toNat * 2) (cs := (b.flatMap enc_Term)) (vs := [.int .i64 x1.Mask, .int .i64 x1.Coef]) k_ag_95 k_sz_95_2 rfl rfl (ST.rf hw' (i := 1) rfl) (enc_Term_len x1) (gi_seg enc_Term_len hx1))) ?_
      refine ra_all (rs := [8]) (by kernel_rfl) rfl ?_
      refine ra_c 25 (i := 8) rfl rfl rfl (Yc_func (g := 107) (vs := [.agg #[.int .i64 x.Mask, .int .i64 x.Coef], .agg #[.int .i64 x1.Mask, .int .i64 x1.Coef]]) k_call_107 rfl (mc rfl (mc rfl mn)) (c_laws_eqTerm x x1 _  (hS3.inn0 [] rfl) hc)) ?_ ?_
      · rintro _ w_ ⟨rfl, hd⟩
        have hS4 := hS3.out00 hd
        refine ⟨(ST.sel hS4 [] rfl rfl), ?_⟩
        refine ra_q 9 26 (v := .bool (!r_1)) rfl rfl rfl (by kernel_rfl) (by kernel_rfl) (by kernel_rfl) (ST.sel hS4 [] rfl rfl) (fun w' hw' => (Y_not (p := r_1) rfl rfl)) ?_
        refine ra_done (by kernel_rfl) ?_
        refine cw_cond (b := (!r_1)) rfl (fun hb2 => ?_) (fun hb2 => ?_)
        · skip
          have hF4 := ct hb1 hb2
          refine cw_seq ?_
          refine cw_region ?_
          refine sq 4 rfl rfl (Y_assign (v := .bool false) rfl rfl) ?_
          refine rw_nil ?_
          refine cw_ret ?_
          obtain rfl := some_inj hF4
          obtain rfl := some_inj hL1
          obtain rfl := some_inj hF3
          exact ret1 Try.results58 (v1 := .bool false) (resAt_tmp rfl) ⟨rfl, (ST.subR (R' := []) (hS4.sel [] rfl rfl) (fun _ h => by cases h))⟩
        · skip
          have hF5 := cf' hb1 hb2
          refine cw_skip ?_
          refine cw_region ?_
          refine sq 15 rfl rfl (Y_move (v := .int .i64 (i1 : Int)) rfl (hf.get 5 2 rfl)) ?_
          refine sq 16 rfl rfl (Y_add (k := .i64) (a := (i1 : Int)) (b := 1) rfl rfl rfl) ?_
          refine sq 5 rfl rfl (Y_assign (v := .int .i64 (IntKind.i64.wrap ((i1 : Int) + 1))) rfl rfl) ?_
          refine rw_nil ?_
          obtain rfl := some_inj hF5
          exact ⟨k_1, Nat.lt_succ_self _, i1 + 1, (FF.cons (hf.get 0 0 rfl) (FF.cons (hf.get 1 1 rfl) (FF.cons (congrArg (Value.int .i64) (wr_succ hlt1 hN)) FF.nil))), (hS4.sel [] rfl rfl), (by omega), hL1⟩
      exact allR_nil
    · skip
      obtain rfl : k_ = 0 := by have h := of_decide_eq_false hlt; omega
      refine cw_exit rfl ?_
      obtain rfl := some_inj hL
      refine cw_seq ?_
      refine cw_region ?_
      refine sq 4 rfl rfl (Y_assign (v := .bool true) rfl rfl) ?_
      refine rw_nil ?_
      refine cw_ret ?_
      obtain rfl := some_inj hF3
      exact ret1 Try.results58 (v1 := .bool true) (resAt_tmp rfl) ⟨rfl, (ST.subR (R' := []) (hS1.sel [] rfl rfl) (fun _ h => by cases h))⟩

theorem c_laws_eqIntS (a : List Int) (b : List Int) (B : Option Addr) (c n : Nat) (B1 : Option Addr) (c1 n1 : Nat) (w0 : World) (hn : a.length = n) (hn1 : b.length = n1) (hS : ST w0 [] w0 [] [⟨B, (a.flatMap encI)⟩, ⟨B1, (b.flatMap encI)⟩]) {r_ : Bool} (hF : F_laws_eqIntS a b = some r_) :
    CV Try.prog 108 #[.slice B n c, .slice B1 n1 c1] w0 (fun v w' => v = .bool r_ ∧ ST w0 [] w' [] []) := by
  subst hn
  subst hn1
  unfold F_laws_eqIntS at hF
  refine cv_of_cw 26 Try.func108 rfl Try.ntmps108 rfl ?_
  refine cw_seq ?_
  refine cw_region ?_
  refine sq 4 rfl rfl (Y_assign (v := .bool false) rfl rfl) ?_
  refine rw_nil ?_
  refine cw_seq ?_
  refine cw_seq ?_
  refine cw_region ?_
  refine sq 6 rfl rfl (Y_move (v := .slice B a.length c) rfl rfl) ?_
  refine sq 7 rfl rfl (Y_len (B := B) (m := a.length) (c := c) k_sl_41_3 rfl rfl) ?_
  refine sq 8 rfl rfl (Y_move (v := .slice B1 b.length c1) rfl rfl) ?_
  refine sq 9 rfl rfl (Y_len (B := B1) (m := b.length) (c := c1) k_sl_41_3 rfl rfl) ?_
  refine sq 10 rfl rfl (Y_ne (k := .i64) (a := (a.length : Int)) (b := (b.length : Int)) rfl rfl rfl) ?_
  refine rw_nil ?_
  refine cw_cond (b := ((a.length : Int) != (b.length : Int))) rfl (fun hb => ?_) (fun hb => ?_)
  · skip
    have hF1 := ct hF hb
    refine cw_seq ?_
    refine cw_region ?_
    refine sq 4 rfl rfl (Y_assign (v := .bool false) rfl rfl) ?_
    refine rw_nil ?_
    refine cw_ret ?_
    obtain rfl := some_inj hF1
    exact ret1 Try.results108 (v1 := .bool false) (resAt_tmp rfl) ⟨rfl, (ST.subR (R' := []) (hS.sel [] rfl rfl) (fun _ h => by cases h))⟩
  · skip
    have hF2 := cf' hF hb
    refine cw_skip ?_
    refine cw_seq ?_
    refine cw_seq ?_
    refine cw_region ?_
    refine sq 5 rfl rfl (Y_assign (v := .int .i64 0) rfl rfl) ?_
    refine rw_nil ?_
    obtain ⟨hN, hF2⟩ := chk_inv hF2
    obtain ⟨z, hz, hF3⟩ := bind_inv hF2
    refine cw_block ?_
    refine cw_loop (fun k f w => ∃ (i1 : Nat), FF f [(0, .slice B a.length c), (1, .slice B1 b.length c1), (5, .int .i64 (i1 : Int))] ∧ ST w0 [] w [] [⟨B, (a.flatMap encI)⟩, ⟨B1, (b.flatMap encI)⟩] ∧ i1 + k = a.length ∧ forX (F_laws_eqIntS_l1 a b) k i1 () = some z) a.length ⟨0, (FF.cons rfl (FF.cons rfl (FF.cons rfl FF.nil))), (hS.sel [] rfl rfl), Nat.zero_add _, hz⟩ ?_
    rintro k_ f w ⟨i1, hf, hS1, hik, hL⟩
    refine cw_seq ?_
    refine cw_seq ?_
    refine cw_region ?_
    refine sq 11 rfl rfl (Y_move (v := .int .i64 (i1 : Int)) rfl (hf.get 5 2 rfl)) ?_
    refine sq 12 rfl rfl (Y_move (v := .slice B a.length c) rfl (hf.get 0 0 rfl)) ?_
    refine sq 13 rfl rfl (Y_len (B := B) (m := a.length) (c := c) k_sl_41_3 rfl rfl) ?_
    refine sq 14 rfl rfl (Y_lt (k := .i64) (a := (i1 : Int)) (b := (a.length : Int)) rfl rfl rfl) ?_
    refine rw_nil ?_
    refine cw_cond (b := (decide ((i1 : Int) < (a.length : Int)))) rfl (fun hlt => ?_) (fun hlt => ?_)
    · skip
      have hlt1 : i1 < a.length := by have h := of_decide_eq_true hlt; omega
      obtain ⟨k_1, rfl⟩ : ∃ k2, k_ = k2 + 1 := ⟨k_ - 1, by omega⟩
      obtain ⟨y, hb1, hL1⟩ := forX_go hL
      unfold F_laws_eqIntS_l1 at hb1
      refine cw_skip ?_
      refine cw_seq ?_
      refine cw_block ?_
      refine cw_seq ?_
      obtain ⟨x, hx, hb1⟩ := bind_inv hb1
      obtain ⟨x1, hx1, hb1⟩ := bind_inv hb1
      refine ra_start (ST.sel hS1 [] rfl rfl).fn (by kernel_rfl) ?_
      have hS2 := hS1.drew
      refine ra_q 0 17 (v := .slice B a.length c) rfl rfl rfl (by kernel_rfl) (by kernel_rfl) (by kernel_rfl) (ST.sel hS2 [] rfl rfl) (fun w' hw' => (Y_move (v := .slice B a.length c) rfl (hf.get 0 0 rfl))) ?_
      refine ra_q 1 18 (v := .int .i64 (i1 : Int)) rfl rfl rfl (by kernel_rfl) (by kernel_rfl) (by kernel_rfl) (ST.sel hS2 [] rfl rfl) (fun w' hw' => (Y_move (v := .int .i64 (i1 : Int)) rfl (hf.get 5 2 rfl))) ?_
      refine ra_q 2 19 (v := pt B ((i1 : Int).toNat * 1)) rfl rfl rfl (by kernel_rfl) (by kernel_rfl) (by kernel_rfl) (ST.sel hS2 [] rfl rfl) (fun w' hw' => (Y_index (B := B) (m := a.length) (c := c) (k := .i64) (i := (i1 : Int)) k_sl_41_3 k_sz_3_1 rfl rfl rfl (gi_isSome encI_len rfl (ST.rf hw' (i := 0) rfl) hx) (getI_nn hx) (getI_ltI hx rfl))) ?_
      refine ra_q 3 20 (v := .int .i64 x) rfl rfl rfl (by kernel_rfl) (by kernel_rfl) (by kernel_rfl) (ST.sel hS2 [] rfl rfl) (fun w' hw' => (Y_load1 (B := B) (i := (i1 : Int).toNat * 1) (cs := (a.flatMap encI)) (v := .int .i64 x) k_sc_3 rfl rfl (ST.rf hw' (i := 0) rfl) (gi_at0 encI_len hx rfl))) ?_
      refine ra_q 4 21 (v := .slice B1 b.length c1) rfl rfl rfl (by kernel_rfl) (by kernel_rfl) (by kernel_rfl) (ST.sel hS2 [] rfl rfl) (fun w' hw' => (Y_move (v := .slice B1 b.length c1) rfl (hf.get 1 1 rfl))) ?_
      refine ra_q 5 22 (v := .int .i64 (i1 : Int)) rfl rfl rfl (by kernel_rfl) (by kernel_rfl) (by kernel_rfl) (ST.sel hS2 [] rfl rfl) (fun w' hw' => (Y_move (v := .int .i64 (i1 : Int)) rfl (hf.get 5 2 rfl))) ?_
      refine ra_q 6 23 (v := pt B1 ((i1 : Int).toNat * 1)) rfl rfl rfl (by kernel_rfl) (by kernel_rfl) (by kernel_rfl) (ST.sel hS2 [] rfl rfl) (fun w' hw' => (Y_index (B := B1) (m := b.length) (c := c1) (k := .i64) (i := (i1 : Int)) k_sl_41_3 k_sz_3_1 rfl rfl rfl (gi_isSome encI_len rfl (ST.rf hw' (i := 1) rfl) hx1) (getI_nn hx1) (getI_ltI hx1 rfl))) ?_
      refine ra_q 7 24 (v := .int .i64 x1) rfl rfl rfl (by kernel_rfl) (by kernel_rfl) (by kernel_rfl) (ST.sel hS2 [] rfl rfl) (fun w' hw' => (Y_load1 (B := B1) (i := (i1 : Int).toNat * 1) (cs := (b.flatMap encI)) (v := .int .i64 x1) k_sc_3 rfl rfl (ST.rf hw' (i := 1) rfl) (gi_at0 encI_len hx1 rfl))) ?_
      refine ra_q 8 25 (v := .bool (x != x1)) rfl rfl rfl (by kernel_rfl) (by kernel_rfl) (by kernel_rfl) (ST.sel hS2 [] rfl rfl) (fun w' hw' => (Y_ne (k := .i64) (a := x) (b := x1) rfl rfl rfl)) ?_
      refine ra_done (by kernel_rfl) ?_
      refine cw_cond (b := (x != x1)) rfl (fun hb2 => ?_) (fun hb2 => ?_)
      · skip
        have hF4 := ct hb1 hb2
        refine cw_seq ?_
        refine cw_region ?_
        refine sq 4 rfl rfl (Y_assign (v := .bool false) rfl rfl) ?_
        refine rw_nil ?_
        refine cw_ret ?_
        obtain rfl := some_inj hF4
        obtain rfl := some_inj hL1
        obtain rfl := some_inj hF3
        exact ret1 Try.results108 (v1 := .bool false) (resAt_tmp rfl) ⟨rfl, (ST.subR (R' := []) (hS2.sel [] rfl rfl) (fun _ h => by cases h))⟩
      · skip
        have hF5 := cf' hb1 hb2
        refine cw_skip ?_
        refine cw_region ?_
        refine sq 15 rfl rfl (Y_move (v := .int .i64 (i1 : Int)) rfl (hf.get 5 2 rfl)) ?_
        refine sq 16 rfl rfl (Y_add (k := .i64) (a := (i1 : Int)) (b := 1) rfl rfl rfl) ?_
        refine sq 5 rfl rfl (Y_assign (v := .int .i64 (IntKind.i64.wrap ((i1 : Int) + 1))) rfl rfl) ?_
        refine rw_nil ?_
        obtain rfl := some_inj hF5
        exact ⟨k_1, Nat.lt_succ_self _, i1 + 1, (FF.cons (hf.get 0 0 rfl) (FF.cons (hf.get 1 1 rfl) (FF.cons (congrArg (Value.int .i64) (wr_succ hlt1 hN)) FF.nil))), (hS2.sel [] rfl rfl), (by omega), hL1⟩
    · skip
      obtain rfl : k_ = 0 := by have h := of_decide_eq_false hlt; omega
      refine cw_exit rfl ?_
      obtain rfl := some_inj hL
      refine cw_seq ?_
      refine cw_region ?_
      refine sq 4 rfl rfl (Y_assign (v := .bool true) rfl rfl) ?_
      refine rw_nil ?_
      refine cw_ret ?_
      obtain rfl := some_inj hF3
      exact ret1 Try.results108 (v1 := .bool true) (resAt_tmp rfl) ⟨rfl, (ST.subR (R' := []) (hS1.sel [] rfl rfl) (fun _ h => by cases h))⟩

theorem c_laws_eqLinear (a : TLinear) (b : TLinear) (B : Option Addr) (c n : Nat) (B1 : Option Addr) (c1 n1 : Nat) (w0 : World) (hn : a.Rows.length = n) (hn1 : b.Rows.length = n1) (hS : ST w0 [] w0 [] [⟨B, (a.Rows.flatMap encI)⟩, ⟨B1, (b.Rows.flatMap encI)⟩]) {r_ : Bool} (hF : F_laws_eqLinear a b = some r_) :
    CV Try.prog 59 #[.agg #[.slice B n c], .agg #[.slice B1 n1 c1]] w0 (fun v w' => v = .bool r_ ∧ ST w0 [] w' [] []) := by
  subst hn
  subst hn1
  unfold F_laws_eqLinear at hF
  refine cv_of_cw 11 Try.func59 rfl Try.ntmps59 rfl ?_
  refine cw_seq ?_
  refine cw_region ?_
  refine ss 2 rfl rfl (Ys_box (T := 48) (v := .agg #[.slice B a.Rows.length c]) (cs := [.slice B a.Rows.length c]) (m := 1) hS rfl rfl rfl rfl) ?_
  rintro _ w_ ⟨b1, rfl, hS1⟩
  refine ss 3 rfl rfl (Ys_box (T := 48) (v := .agg #[.slice B1 b.Rows.length c1]) (cs := [.slice B1 b.Rows.length c1]) (m := 1) hS1 rfl rfl rfl rfl) ?_
  rintro _ w_1 ⟨b2, rfl, hS2⟩
  have hS2 : ST w0 [] _ [⟨some ⟨b1, 0, none⟩, 48, [.slice B a.Rows.length c], 1⟩, ⟨some ⟨b2, 0, none⟩, 48, [.slice B1 b.Rows.length c1], 1⟩] [⟨B, (a.Rows.flatMap encI)⟩, ⟨B1, (b.Rows.flatMap encI)⟩] := hS2
  refine sq 4 rfl rfl (Y_assign (v := .bool false) rfl rfl) ?_
  refine rw_nil ?_
  refine cw_seq ?_
  refine cw_seq ?_
  refine cw_region ?_
  refine sq 5 rfl rfl (Y_fieldAddr (B := some ⟨b1, 0, none⟩) (i := 0) (s := 0) k_fd_48_0_0_41 k_sz_41_1 rfl rfl) ?_
  refine sq 6 rfl rfl (Y_load1 (B := some ⟨b1, 0, none⟩) (i := 0) (cs := [.slice B a.Rows.length c]) (v := .slice B a.Rows.length c) k_sc_41 rfl rfl (hS2.cf (i := 0) rfl) rfl) ?_
  refine sq 7 rfl rfl (Y_fieldAddr (B := some ⟨b2, 0, none⟩) (i := 0) (s := 0) k_fd_48_0_0_41 k_sz_41_1 rfl rfl) ?_
  refine sq 8 rfl rfl (Y_load1 (B := some ⟨b2, 0, none⟩) (i := 0) (cs := [.slice B1 b.Rows.length c1]) (v := .slice B1 b.Rows.length c1) k_sc_41 rfl rfl (hS2.cf (i := 1) rfl) rfl) ?_
  obtain ⟨r_1, hc, hF⟩ := bind_inv hF
  refine sc 9 rfl rfl (Yc_func (g := 108) (vs := [.slice B a.Rows.length c, .slice B1 b.Rows.length c1]) k_call_108 rfl (mc rfl (mc rfl mn)) (c_laws_eqIntS a.Rows b.Rows B c a.Rows.length B1 c1 b.Rows.length _ rfl rfl (hS2.inn0 [(true, 0), (true, 1)] rfl) hc)) ?_
  rintro _ w_2 ⟨rfl, hd⟩
  have hS3 := hS2.out00 hd
  have hS3 : ST w0 [] _ [⟨some ⟨b1, 0, none⟩, 48, [.slice B a.Rows.length c], 1⟩, ⟨some ⟨b2, 0, none⟩, 48, [.slice B1 b.Rows.length c1], 1⟩] [⟨B, (a.Rows.flatMap encI)⟩, ⟨B1, (b.Rows.flatMap encI)⟩] := hS3
  refine sq 10 rfl rfl (Y_not (p := r_1) rfl rfl) ?_
  refine rw_nil ?_
  refine cw_cond (b := (!r_1)) rfl (fun hb => ?_) (fun hb => ?_)
  · skip
    have hF1 := ct hF hb
    refine cw_seq ?_
    refine cw_region ?_
    refine sq 4 rfl rfl (Y_assign (v := .bool false) rfl rfl) ?_
    refine rw_nil ?_
    refine cw_ret ?_
    obtain rfl := some_inj hF1
    exact ret1 Try.results59 (v1 := .bool false) (resAt_tmp rfl) ⟨rfl, (ST.subR (R' := []) (hS3.sel [] rfl rfl) (fun _ h => by cases h))⟩
  · skip
    have hF2 := cf' hF hb
    refine cw_skip ?_
    refine cw_seq ?_
    refine cw_region ?_
    refine sq 4 rfl rfl (Y_assign (v := .bool true) rfl rfl) ?_
    refine rw_nil ?_
    refine cw_ret ?_
    obtain rfl := some_inj hF2
    exact ret1 Try.results59 (v1 := .bool true) (resAt_tmp rfl) ⟨rfl, (ST.subR (R' := []) (hS3.sel [] rfl rfl) (fun _ h => by cases h))⟩

theorem c_laws_eqPhasePoly (a : TPhasePoly) (b : TPhasePoly) (B : Option Addr) (c n : Nat) (B1 : Option Addr) (c1 n1 : Nat) (B2 : Option Addr) (c2 n2 : Nat) (B3 : Option Addr) (c3 n3 : Nat) (w0 : World) (hn : a.Terms.length = n) (hn1 : a.Out.Rows.length = n1) (hn2 : b.Terms.length = n2) (hn3 : b.Out.Rows.length = n3) (hS : ST w0 [] w0 [] [⟨B, (a.Terms.flatMap enc_Term)⟩, ⟨B1, (a.Out.Rows.flatMap encI)⟩, ⟨B2, (b.Terms.flatMap enc_Term)⟩, ⟨B3, (b.Out.Rows.flatMap encI)⟩]) {r_ : Bool} (hF : F_laws_eqPhasePoly a b = some r_) :
    CV Try.prog 20 #[.agg #[.int .i64 a.Qubits, .int .i64 a.Phase, .slice B n c, .slice B1 n1 c1], .agg #[.int .i64 b.Qubits, .int .i64 b.Phase, .slice B2 n2 c2, .slice B3 n3 c3]] w0 (fun v w' => v = .bool r_ ∧ ST w0 [] w' [] []) := by
  subst hn
  subst hn1
  subst hn2
  subst hn3
  unfold F_laws_eqPhasePoly at hF
  refine cv_of_cw 27 Try.func20 rfl Try.ntmps20 rfl ?_
  refine cw_seq ?_
  refine cw_region ?_
  refine ss 2 rfl rfl (Ys_box (T := 50) (v := .agg #[.int .i64 a.Qubits, .int .i64 a.Phase, .slice B a.Terms.length c, .slice B1 a.Out.Rows.length c1]) (cs := [.int .i64 a.Qubits, .int .i64 a.Phase, .slice B a.Terms.length c, .slice B1 a.Out.Rows.length c1]) (m := 4) hS rfl rfl rfl rfl) ?_
  rintro _ w_ ⟨b1, rfl, hS1⟩
  refine ss 3 rfl rfl (Ys_box (T := 50) (v := .agg #[.int .i64 b.Qubits, .int .i64 b.Phase, .slice B2 b.Terms.length c2, .slice B3 b.Out.Rows.length c3]) (cs := [.int .i64 b.Qubits, .int .i64 b.Phase, .slice B2 b.Terms.length c2, .slice B3 b.Out.Rows.length c3]) (m := 4) hS1 rfl rfl rfl rfl) ?_
  rintro _ w_1 ⟨b2, rfl, hS2⟩
  have hS2 : ST w0 [] _ [⟨some ⟨b1, 0, none⟩, 50, [.int .i64 a.Qubits, .int .i64 a.Phase, .slice B a.Terms.length c, .slice B1 a.Out.Rows.length c1], 4⟩, ⟨some ⟨b2, 0, none⟩, 50, [.int .i64 b.Qubits, .int .i64 b.Phase, .slice B2 b.Terms.length c2, .slice B3 b.Out.Rows.length c3], 4⟩] [⟨B, (a.Terms.flatMap enc_Term)⟩, ⟨B1, (a.Out.Rows.flatMap encI)⟩, ⟨B2, (b.Terms.flatMap enc_Term)⟩, ⟨B3, (b.Out.Rows.flatMap encI)⟩] := hS2
  refine sq 4 rfl rfl (Y_assign (v := .bool false) rfl rfl) ?_
  refine rw_nil ?_
  refine cw_seq ?_
  refine cw_seq ?_
  refine cw_region ?_
  refine sq 5 rfl rfl (Y_fieldAddr (B := some ⟨b1, 0, none⟩) (i := 0) (s := 0) k_fd_50_0_0_3 k_sz_3_1 rfl rfl) ?_
  refine sq 6 rfl rfl (Y_load1 (B := some ⟨b1, 0, none⟩) (i := 0) (cs := [.int .i64 a.Qubits, .int .i64 a.Phase, .slice B a.Terms.length c, .slice B1 a.Out.Rows.length c1]) (v := .int .i64 a.Qubits) k_sc_3 rfl rfl (hS2.cf (i := 0) rfl) rfl) ?_
  refine sq 7 rfl rfl (Y_fieldAddr (B := some ⟨b2, 0, none⟩) (i := 0) (s := 0) k_fd_50_0_0_3 k_sz_3_1 rfl rfl) ?_
  refine sq 8 rfl rfl (Y_load1 (B := some ⟨b2, 0, none⟩) (i := 0) (cs := [.int .i64 b.Qubits, .int .i64 b.Phase, .slice B2 b.Terms.length c2, .slice B3 b.Out.Rows.length c3]) (v := .int .i64 b.Qubits) k_sc_3 rfl rfl (hS2.cf (i := 1) rfl) rfl) ?_
  refine sq 9 rfl rfl (Y_ne (k := .i64) (a := a.Qubits) (b := b.Qubits) rfl rfl rfl) ?_
  refine rw_nil ?_
  refine cw_cond (b := (a.Qubits != b.Qubits)) rfl (fun hb => ?_) (fun hb => ?_)
  · skip
    have hF1 := ct hF hb
    refine cw_seq ?_
    refine cw_region ?_
    refine sq 4 rfl rfl (Y_assign (v := .bool false) rfl rfl) ?_
    refine rw_nil ?_
    refine cw_ret ?_
    obtain rfl := some_inj hF1
    exact ret1 Try.results20 (v1 := .bool false) (resAt_tmp rfl) ⟨rfl, (ST.subR (R' := []) (hS2.sel [] rfl rfl) (fun _ h => by cases h))⟩
  · skip
    have hF2 := cf' hF hb
    refine cw_skip ?_
    refine cw_seq ?_
    refine cw_seq ?_
    refine cw_region ?_
    refine sq 10 rfl rfl (Y_fieldAddr (B := some ⟨b1, 0, none⟩) (i := 0) (s := 0) k_fd_50_1_1_3 k_sz_3_1 rfl rfl) ?_
    refine sq 11 rfl rfl (Y_load1 (B := some ⟨b1, 0, none⟩) (i := 1) (cs := [.int .i64 a.Qubits, .int .i64 a.Phase, .slice B a.Terms.length c, .slice B1 a.Out.Rows.length c1]) (v := .int .i64 a.Phase) k_sc_3 rfl rfl (hS2.cf (i := 0) rfl) rfl) ?_
    refine sq 12 rfl rfl (Y_fieldAddr (B := some ⟨b2, 0, none⟩) (i := 0) (s := 0) k_fd_50_1_1_3 k_sz_3_1 rfl rfl) ?_
    refine sq 13 rfl rfl (Y_load1 (B := some ⟨b2, 0, none⟩) (i := 1) (cs := [.int .i64 b.Qubits, .int .i64 b.Phase, .slice B2 b.Terms.length c2, .slice B3 b.Out.Rows.length c3]) (v := .int .i64 b.Phase) k_sc_3 rfl rfl (hS2.cf (i := 1) rfl) rfl) ?_
    refine sq 14 rfl rfl (Y_ne (k := .i64) (a := a.Phase) (b := b.Phase) rfl rfl rfl) ?_
    refine rw_nil ?_
    refine cw_cond (b := (a.Phase != b.Phase)) rfl (fun hb1 => ?_) (fun hb1 => ?_)
    · skip
      have hF3 := ct hF2 hb1
      refine cw_seq ?_
      refine cw_region ?_
      refine sq 4 rfl rfl (Y_assign (v := .bool false) rfl rfl) ?_
      refine rw_nil ?_
      refine cw_ret ?_
      obtain rfl := some_inj hF3
      exact ret1 Try.results20 (v1 := .bool false) (resAt_tmp rfl) ⟨rfl, (ST.subR (R' := []) (hS2.sel [] rfl rfl) (fun _ h => by cases h))⟩
    · skip
      have hF4 := cf' hF2 hb1
      refine cw_skip ?_
      refine cw_seq ?_
      refine cw_seq ?_
      refine cw_region ?_
      refine sq 15 rfl rfl (Y_fieldAddr (B := some ⟨b1, 0, none⟩) (i := 0) (s := 0) k_fd_50_2_2_47 k_sz_47_1 rfl rfl) ?_
      refine sq 16 rfl rfl (Y_load1 (B := some ⟨b1, 0, none⟩) (i := 2) (cs := [.int .i64 a.Qubits, .int .i64 a.Phase, .slice B a.Terms.length c, .slice B1 a.Out.Rows.length c1]) (v := .slice B a.Terms.length c) k_sc_47 rfl rfl (hS2.cf (i := 0) rfl) rfl) ?_
      refine sq 17 rfl rfl (Y_fieldAddr (B := some ⟨b2, 0, none⟩) (i := 0) (s := 0) k_fd_50_2_2_47 k_sz_47_1 rfl rfl) ?_
      refine sq 18 rfl rfl (Y_load1 (B := some ⟨b2, 0, none⟩) (i := 2) (cs := [.int .i64 b.Qubits, .int .i64 b.Phase, .slice B2 b.Terms.length c2, .slice B3 b.Out.Rows.length c3]) (v := .slice B2 b.Terms.length c2) k_sc_47 rfl rfl (hS2.cf (i := 1) rfl) rfl) ?_
      obtain ⟨r_1, hc, hF4⟩ := bind_inv hF4
      refine sc 19 rfl rfl (Yc_func (g := 58) (vs := [.slice B a.Terms.length c, .slice B2 b.Terms.length c2]) k_call_58 rfl (mc rfl (mc rfl mn)) (c_laws_eqTermS a.Terms b.Terms B c a.Terms.length B2 c2 b.Terms.length _ rfl rfl (hS2.inn0 [(true, 0), (true, 2)] rfl) hc)) ?_
      rintro _ w_2 ⟨rfl, hd⟩
      have hS3 := hS2.out00 hd
      have hS3 : ST w0 [] _ [⟨some ⟨b1, 0, none⟩, 50, [.int .i64 a.Qubits, .int .i64 a.Phase, .slice B a.Terms.length c, .slice B1 a.Out.Rows.length c1], 4⟩, ⟨some ⟨b2, 0, none⟩, 50, [.int .i64 b.Qubits, .int .i64 b.Phase, .slice B2 b.Terms.length c2, .slice B3 b.Out.Rows.length c3], 4⟩] [⟨B, (a.Terms.flatMap enc_Term)⟩, ⟨B1, (a.Out.Rows.flatMap encI)⟩, ⟨B2, (b.Terms.flatMap enc_Term)⟩, ⟨B3, (b.Out.Rows.flatMap encI)⟩] := hS3
      refine sq 20 rfl rfl (Y_not (p := r_1) rfl rfl) ?_
      refine rw_nil ?_
      refine cw_cond (b := (!r_1)) rfl (fun hb2 => ?_) (fun hb2 => ?_)
      · skip
        have hF5 := ct hF4 hb2
        refine cw_seq ?_
        refine cw_region ?_
        refine sq 4 rfl rfl (Y_assign (v := .bool false) rfl rfl) ?_
        refine rw_nil ?_
        refine cw_ret ?_
        obtain rfl := some_inj hF5
        exact ret1 Try.results20 (v1 := .bool false) (resAt_tmp rfl) ⟨rfl, (ST.subR (R' := []) (hS3.sel [] rfl rfl) (fun _ h => by cases h))⟩
      · skip
        have hF6 := cf' hF4 hb2
        refine cw_skip ?_
        refine cw_seq ?_
        refine cw_seq ?_
        refine cw_region ?_
        refine sq 21 rfl rfl (Y_fieldAddr (B := some ⟨b1, 0, none⟩) (i := 0) (s := 0) k_fd_50_3_3_48 k_sz_48_1 rfl rfl) ?_
        refine sq 22 rfl rfl (Y_loadA (B := some ⟨b1, 0, none⟩) (i := 3) (cs := [.int .i64 a.Qubits, .int .i64 a.Phase, .slice B a.Terms.length c, .slice B1 a.Out.Rows.length c1]) (vs := [.slice B1 a.Out.Rows.length c1]) k_ag_48 k_sz_48_1 rfl rfl (hS3.cf (i := 0) rfl) rfl rfl) ?_
        refine sq 23 rfl rfl (Y_fieldAddr (B := some ⟨b2, 0, none⟩) (i := 0) (s := 0) k_fd_50_3_3_48 k_sz_48_1 rfl rfl) ?_
        refine sq 24 rfl rfl (Y_loadA (B := some ⟨b2, 0, none⟩) (i := 3) (cs := [.int .i64 b.Qubits, .int .i64 b.Phase, .slice B2 b.Terms.length c2, .slice B3 b.Out.Rows.length c3]) (vs := [.slice B3 b.Out.Rows.length c3]) k_ag_48 k_sz_48_1 rfl rfl (hS3.cf (i := 1) rfl) rfl rfl) ?_
        obtain ⟨r_2, hc1, hF6⟩ := bind_inv hF6
        refine sc 25 rfl rfl (Yc_func (g := 59) (vs := [.agg #[.slice B1 a.Out.Rows.length c1], .agg #[.slice B3 b.Out.Rows.length c3]]) k_call_59 rfl (mc rfl (mc rfl mn)) (c_laws_eqLinear a.Out b.Out B1 c1 a.Out.Rows.length B3 c3 b.Out.Rows.length _ rfl rfl (hS3.inn0 [(true, 1), (true, 3)] rfl) hc1)) ?_
        rintro _ w_3 ⟨rfl, hd1⟩
        have hS4 := hS3.out00 hd1
        have hS4 : ST w0 [] _ [⟨some ⟨b1, 0, none⟩, 50, [.int .i64 a.Qubits, .int .i64 a.Phase, .slice B a.Terms.length c, .slice B1 a.Out.Rows.length c1], 4⟩, ⟨some ⟨b2, 0, none⟩, 50, [.int .i64 b.Qubits, .int .i64 b.Phase, .slice B2 b.Terms.length c2, .slice B3 b.Out.Rows.length c3], 4⟩] [⟨B, (a.Terms.flatMap enc_Term)⟩, ⟨B1, (a.Out.Rows.flatMap encI)⟩, ⟨B2, (b.Terms.flatMap enc_Term)⟩, ⟨B3, (b.Out.Rows.flatMap encI)⟩] := hS4
        refine sq 26 rfl rfl (Y_not (p := r_2) rfl rfl) ?_
        refine rw_nil ?_
        refine cw_cond (b := (!r_2)) rfl (fun hb3 => ?_) (fun hb3 => ?_)
        · skip
          have hF7 := ct hF6 hb3
          refine cw_seq ?_
          refine cw_region ?_
          refine sq 4 rfl rfl (Y_assign (v := .bool false) rfl rfl) ?_
          refine rw_nil ?_
          refine cw_ret ?_
          obtain rfl := some_inj hF7
          exact ret1 Try.results20 (v1 := .bool false) (resAt_tmp rfl) ⟨rfl, (ST.subR (R' := []) (hS4.sel [] rfl rfl) (fun _ h => by cases h))⟩
        · skip
          have hF8 := cf' hF6 hb3
          refine cw_skip ?_
          refine cw_seq ?_
          refine cw_region ?_
          refine sq 4 rfl rfl (Y_assign (v := .bool true) rfl rfl) ?_
          refine rw_nil ?_
          refine cw_ret ?_
          obtain rfl := some_inj hF8
          exact ret1 Try.results20 (v1 := .bool true) (resAt_tmp rfl) ⟨rfl, (ST.subR (R' := []) (hS4.sel [] rfl rfl) (fun _ h => by cases h))⟩

theorem c_spec_l1In (n : Int) (lo : Int) (hi : Int)  (w0 : World)  (hS : ST w0 [] w0 [] []) {r_ : Bool} (hF : F_spec_l1In n lo hi = some r_) :
    CV Try.prog 29 #[.int .i64 n, .int .i64 lo, .int .i64 hi] w0 (fun v w' => v = .bool r_ ∧ ST w0 [] w' [] []) := by
  unfold F_spec_l1In at hF
  refine cv_of_cw 15 Try.func29 rfl Try.ntmps29 rfl ?_
  refine cw_seq ?_
  refine cw_region ?_
  refine sq 6 rfl rfl (Y_assign (v := .bool false) rfl rfl) ?_
  refine rw_nil ?_
  refine cw_seq ?_
  refine cw_region ?_
  refine sq 7 rfl rfl (Y_move (v := .int .i64 n) rfl rfl) ?_
  refine sq 8 rfl rfl (Y_move (v := .int .i64 lo) rfl rfl) ?_
  refine sq 9 rfl rfl (Y_ge (k := .i64) (a := n) (b := lo) rfl rfl rfl) ?_
  refine sq 10 rfl rfl (Y_move (v := .bool (decide (lo ≤ n))) rfl rfl) ?_
  refine sgq 11 (B := (decide (lo ≤ n))) (v := .int .i64 n) rfl rfl (wt_t (gd_of (t := 10) (by kernel_rfl) rfl)) (fun hg => (Y_move (v := .int .i64 n) rfl rfl)) ?_
  refine sgq 12 (B := (decide (lo ≤ n))) (v := .int .i64 hi) rfl rfl (wt_t (gd_of (t := 10) (by kernel_rfl) rfl)) (fun hg1 => (Y_move (v := .int .i64 hi) rfl rfl)) ?_
  refine sgq 13 (B := (decide (lo ≤ n))) (v := .bool (decide (n ≤ hi))) rfl rfl (wt_t (gd_of (t := 10) (by kernel_rfl) rfl)) (fun hg2 => (Y_le (k := .i64) (a := n) (b := hi) rfl (gv_of (B := (decide (lo ≤ n))) (v := .int .i64 n) hg2) (gv_of (B := (decide (lo ≤ n))) (v := .int .i64 hi) hg2))) ?_
  refine sq 14 rfl rfl (Y_and (b := (decide (lo ≤ n))) (z := (decide (n ≤ hi))) rfl rfl rfl rfl) ?_
  refine sq 6 rfl rfl (Y_assign (v := .bool ((decide (lo ≤ n)) && (decide (n ≤ hi)))) rfl rfl) ?_
  refine rw_nil ?_
  refine cw_ret ?_
  obtain rfl := some_inj hF
  exact ret1 Try.results29 (v1 := .bool ((decide (lo ≤ n)) && (decide (n ≤ hi)))) (resAt_tmp rfl) ⟨rfl, (ST.subR (R' := []) (hS.sel [] rfl rfl) (fun _ h => by cases h))⟩

theorem c_spec_l1All (l : List Int) (lo : Int) (hi : Int) (B : Option Addr) (c n : Nat) (w0 : World) (hn : l.length = n) (hS : ST w0 [] w0 [] [⟨B, (l.flatMap encI)⟩]) {r_ : Bool} (hF : F_spec_l1All l lo hi = some r_) :
    CV Try.prog 137 #[.slice B n c, .int .i64 lo, .int .i64 hi] w0 (fun v w' => v = .bool r_ ∧ ST w0 [] w' [] []) := by
  subst hn
  unfold F_spec_l1All at hF
  refine cv_of_cw 21 Try.func137 rfl Try.ntmps137 rfl ?_
  refine cw_seq ?_
  refine cw_region ?_
  refine sq 6 rfl rfl (Y_assign (v := .bool false) rfl rfl) ?_
  refine rw_nil ?_
  refine cw_seq ?_
  refine cw_seq ?_
  refine cw_region ?_
  refine sq 9 rfl rfl (Y_move (v := .slice B l.length c) rfl rfl) ?_
  refine sq 10 rfl rfl (Y_len (B := B) (m := l.length) (c := c) k_sl_41_3 rfl rfl) ?_
  refine sq 11 rfl rfl (Y_move (v := .int .i64 0) rfl rfl) ?_
  refine rw_nil ?_
  obtain ⟨hN, hF⟩ := chk_inv hF
  obtain ⟨z, hz, hF1⟩ := bind_inv hF
  refine cw_block ?_
  refine cw_loop (fun k f w => ∃ (i : Nat), FF f [(1, .int .i64 lo), (2, .int .i64 hi), (9, .slice B l.length c), (10, .int .i64 (l.length : Int)), (11, .int .i64 (i : Int))] ∧ ST w0 [] w [] [⟨B, (l.flatMap encI)⟩] ∧ i + k = l.length ∧ forX (F_spec_l1All_l1 l lo hi) k i () = some z) l.length ⟨0, (FF.cons rfl (FF.cons rfl (FF.cons rfl (FF.cons rfl (FF.cons rfl FF.nil))))), (hS.sel [] rfl rfl), Nat.zero_add _, hz⟩ ?_
  rintro k_ f w ⟨i, hf, hS1, hik, hL⟩
  refine cw_seq ?_
  refine cw_region ?_
  refine sq 12 rfl rfl (Y_lt (k := .i64) (a := (i : Int)) (b := (l.length : Int)) rfl (hf.get 11 4 rfl) (hf.get 10 3 rfl)) ?_
  refine rw_nil ?_
  refine cw_seq ?_
  refine cw_cond (b := (decide ((i : Int) < (l.length : Int)))) rfl (fun hlt => ?_) (fun hlt => ?_)
  · skip
    have hlt1 : i < l.length := by have h := of_decide_eq_true hlt; omega
    obtain ⟨k_1, rfl⟩ : ∃ k2, k_ = k2 + 1 := ⟨k_ - 1, by omega⟩
    obtain ⟨y, hb, hL1⟩ := forX_go hL
    unfold F_spec_l1All_l1 at hb
    refine cw_skip ?_
    refine cw_seq ?_
    refine cw_block ?_
    refine cw_seq ?_
    refine cw_region ?_
    obtain ⟨x, hx, hb⟩ := bind_inv hb
    refine sq 13 rfl rfl (Y_index (B := B) (m := l.length) (c := c) (k := .i64) (i := (i : Int)) k_sl_41_3 k_sz_3_1 rfl (hf.get 9 2 rfl) (hf.get 11 4 rfl) (gi_isSome encI_len rfl (hS1.rf (i := 0) rfl) hx) (getI_nn hx) (getI_ltI hx rfl)) ?_
    refine sq 14 rfl rfl (Y_load1 (B := B) (i := (i : Int).toNat * 1) (cs := (l.flatMap encI)) (v := .int .i64 x) k_sc_3 rfl rfl (hS1.rf (i := 0) rfl) (gi_at0 encI_len hx rfl)) ?_
    refine sq 8 rfl rfl (Y_assign (v := .int .i64 x) rfl rfl) ?_
    refine rw_nil ?_
    refine cw_seq ?_
    refine cw_region ?_
    refine sq 15 rfl rfl (Y_move (v := .int .i64 x) rfl rfl) ?_
    refine sq 16 rfl rfl (Y_move (v := .int .i64 lo) rfl (hf.get 1 0 rfl)) ?_
    refine sq 17 rfl rfl (Y_move (v := .int .i64 hi) rfl (hf.get 2 1 rfl)) ?_
    obtain ⟨r_1, hc, hb⟩ := bind_inv hb
    refine sc 18 rfl rfl (Yc_func (g := 29) (vs := [.int .i64 x, .int .i64 lo, .int .i64 hi]) k_call_29 rfl (mc rfl (mc rfl (mc rfl mn))) (c_spec_l1In x lo hi _  (hS1.inn0 [] rfl) hc)) ?_
    rintro _ w_ ⟨rfl, hd⟩
    have hS2 := hS1.out00 hd
    refine sq 19 rfl rfl (Y_not (p := r_1) rfl rfl) ?_
    refine rw_nil ?_
    refine cw_cond (b := (!r_1)) rfl (fun hb1 => ?_) (fun hb1 => ?_)
    · skip
      have hF2 := ct hb hb1
      refine cw_seq ?_
      refine cw_region ?_
      refine sq 6 rfl rfl (Y_assign (v := .bool false) rfl rfl) ?_
      refine rw_nil ?_
      refine cw_ret ?_
      obtain rfl := some_inj hF2
      obtain rfl := some_inj hL1
      obtain rfl := some_inj hF1
      exact ret1 Try.results137 (v1 := .bool false) (resAt_tmp rfl) ⟨rfl, (ST.subR (R' := []) (hS2.sel [] rfl rfl) (fun _ h => by cases h))⟩
    · skip
      have hF3 := cf' hb hb1
      refine cw_skip ?_
      refine cw_region ?_
      refine sq 20 rfl rfl (Y_add (k := .i64) (a := (i : Int)) (b := 1) rfl (hf.get 11 4 rfl) rfl) ?_
      refine sq 11 rfl rfl (Y_move (v := .int .i64 (IntKind.i64.wrap ((i : Int) + 1))) rfl rfl) ?_
      refine rw_nil ?_
      obtain rfl := some_inj hF3
      exact ⟨k_1, Nat.lt_succ_self _, i + 1, (FF.cons (hf.get 1 0 rfl) (FF.cons (hf.get 2 1 rfl) (FF.cons (hf.get 9 2 rfl) (FF.cons (hf.get 10 3 rfl) (FF.cons (congrArg (Value.int .i64) (wr_succ hlt1 hN)) FF.nil))))), (hS2.sel [] rfl rfl), (by omega), hL1⟩
  · skip
    obtain rfl : k_ = 0 := by have h := of_decide_eq_false hlt; omega
    refine cw_exit rfl ?_
    obtain rfl := some_inj hL
    refine cw_seq ?_
    refine cw_region ?_
    refine sq 6 rfl rfl (Y_assign (v := .bool true) rfl rfl) ?_
    refine rw_nil ?_
    refine cw_ret ?_
    obtain rfl := some_inj hF1
    exact ret1 Try.results137 (v1 := .bool true) (resAt_tmp rfl) ⟨rfl, (ST.subR (R' := []) (hS1.sel [] rfl rfl) (fun _ h => by cases h))⟩

theorem c_spec_l1Own (l : List Int) (B : Option Addr) (c n : Nat) (w0 : World) (hn : l.length = n) (hS : ST w0 [] w0 [] [⟨B, (l.flatMap encI)⟩]) {r_ : List Int} (hF : F_spec_l1Own l = some r_) :
    CV Try.prog 99 #[.slice B n c] w0 (fun v w' => ∃ (B1 : Option Addr) (c1 : Nat), v = .slice B1 r_.length c1 ∧ ST w0 [] w' [⟨B1, 3, (r_.flatMap encI), c1 * 1⟩] []) := by
  subst hn
  unfold F_spec_l1Own at hF
  refine cv_of_cw 6 Try.func99 rfl Try.ntmps99 rfl ?_
  refine cw_seq ?_
  refine cw_region ?_
  refine sq 2 rfl rfl (Y_assign (v := .slice none 0 0) rfl rfl) ?_
  refine rw_nil ?_
  refine cw_seq ?_
  refine cw_region ?_
  refine ss 3 rfl rfl (Ys_bslice0 (s := 1) (e := 3) hS k_sl_41_3 k_sz_3_1 rfl) ?_
  rintro _ w_ ⟨b, rfl, hS1⟩
  refine sq 4 rfl rfl (Y_move (v := .slice B l.length c) rfl rfl) ?_
  obtain ⟨hap, hF⟩ := chk_inv hF
  refine ss 5 rfl rfl (Ys_append (s := 1) (by' := 8) (i := 0) (nn := 0) (c := 0) (k := l.length) (len := l.length) (B := some ⟨b, 0, none⟩) (xs := (l.flatMap encI)) (cs' := (l.flatMap encI)) hS1 k_sl_41_3 k_sz_3_1 k_by_3_8 k_zero_3 rfl (by decide) rfl rfl rfl rfl (fm_lenn (l := []) encI_len rfl) rfl (hS1.rf (i := 0) rfl) (fm_lenn (l := l) encI_len rfl) (fm_one' (enc := encI) encI_one l) (by have := hap; omega) (by have := hap; simp only [maxLen]; omega) rfl (app_len0 (l := l) rfl)) ?_
  rintro _ w_1 ⟨B2, c2, rfl, hS2⟩
  refine sq 2 rfl rfl (Y_assign (v := .slice B2 l.length c2) rfl rfl) ?_
  refine rw_nil ?_
  refine cw_ret ?_
  obtain rfl := some_inj hF
  exact ret1 Try.results99 (v1 := .slice B2 l.length c2) (resAt_tmp rfl) ⟨B2, c2, rfl, (ST.subR (R' := []) (hS2.sel [0] rfl rfl) (fun _ h => by cases h))⟩

theorem c_spec_l12Rank (rows : List Int) (B : Option Addr) (c n : Nat) (w0 : World) (hn : rows.length = n) (hS : ST w0 [] w0 [] [⟨B, (rows.flatMap encI)⟩]) {r_ : Int} (hF : F_spec_l12Rank rows = some r_) :
    CV Try.prog 138 #[.slice B n c] w0 (fun v w' => v = .int .i64 r_ ∧ ST w0 [] w' [] []) := by
  subst hn
  unfold F_spec_l12Rank at hF
  refine cv_of_cw 80 Try.func138 rfl Try.ntmps138 rfl ?_
  refine cw_seq ?_
  refine cw_region ?_
  refine sq 2 rfl rfl (Y_assign (v := .int .i64 0) rfl rfl) ?_
  refine rw_nil ?_
  refine cw_seq ?_
  refine cw_region ?_
  refine sq 10 rfl rfl (Y_move (v := .slice B rows.length c) rfl rfl) ?_
  obtain ⟨r_1, hc, hF⟩ := bind_inv hF
  refine sc 11 rfl rfl (Yc_func (g := 99) (vs := [.slice B rows.length c]) k_call_99 rfl (mc rfl mn) (c_spec_l1Own rows B c rows.length _ rfl (hS.inn0 [(true, 0)] rfl) hc)) ?_
  rintro _ w_ ⟨B1, c1, rfl, hd⟩
  have hS1 := hS.out0 hd
  refine sq 3 rfl rfl (Y_assign (v := .slice B1 r_1.length c1) rfl rfl) ?_
  refine rw_nil ?_
  refine cw_seq ?_
  refine cw_region ?_
  refine sq 4 rfl rfl (Y_assign (v := .int .i64 0) rfl rfl) ?_
  refine rw_nil ?_
  refine cw_seq ?_
  refine cw_seq ?_
  refine cw_region ?_
  refine sq 5 rfl rfl (Y_assign (v := .int .i64 0) rfl rfl) ?_
  refine rw_nil ?_
  obtain ⟨z, hz, hF1⟩ := bind_inv hF
  refine cw_block ?_
  refine cw_loop (fun k f w => ∃ (bit : Nat) (l : List Int) (rank : Int), FF f [(3, .slice B1 r_1.length c1), (4, .int .i64 rank), (5, .int .i64 (bit : Int))] ∧ l.length = r_1.length ∧ ST w0 [] w [⟨B1, 3, (l.flatMap encI), c1 * 1⟩] [⟨B, (rows.flatMap encI)⟩] ∧ bit + k = 10 ∧ forN (F_spec_l12Rank_l1 r_1) k bit (l, rank) = some z) 10 ⟨0, r_1, 0, (FF.cons rfl (FF.cons rfl (FF.cons rfl FF.nil))), rfl, (hS1.sel [0] rfl rfl), Nat.zero_add _, hz⟩ ?_
  rintro k_ f w ⟨bit, l, rank, hf, hl, hS2, hik, hL⟩
  refine cw_seq ?_
  refine cw_seq ?_
  refine cw_region ?_
  refine sq 12 rfl rfl (Y_move (v := .int .i64 (bit : Int)) rfl (hf.get 5 2 rfl)) ?_
  refine sq 13 rfl rfl (Y_lt (k := .i64) (a := (bit : Int)) (b := 10) rfl rfl rfl) ?_
  refine rw_nil ?_
  refine cw_cond (b := (decide ((bit : Int) < 10))) rfl (fun hlt => ?_) (fun hlt => ?_)
  · skip
    have hlt1 : bit < 10 := by have h := of_decide_eq_true hlt; omega
    obtain ⟨k_1, rfl⟩ : ∃ k2, k_ = k2 + 1 := ⟨k_ - 1, by omega⟩
    obtain ⟨y, hb, hL1⟩ := forN_go hL
    unfold F_spec_l12Rank_l1 at hb
    refine cw_skip ?_
    refine cw_seq ?_
    obtain ⟨z1, hz1, hF2⟩ := bind_inv hb
    refine cw_mid (fun f w => ∃ (l1 : List Int) (rank1 : Int), (l1, rank1) = z1 ∧ FF f [(3, .slice B1 r_1.length c1), (4, .int .i64 rank1), (5, .int .i64 (bit : Int))] ∧ l1.length = r_1.length ∧ ST w0 [] w [⟨B1, 3, (l1.flatMap encI), c1 * 1⟩] [⟨B, (rows.flatMap encI)⟩]) ?_ ?_
    · skip
      refine cw_block ?_
      refine cw_seq ?_
      refine cw_region ?_
      refine sq 6 rfl rfl (Y_assign (v := .int .i64 (-1)) rfl rfl) ?_
      refine rw_nil ?_
      refine cw_seq ?_
      refine cw_seq ?_
      refine cw_region ?_
      refine sq 16 rfl rfl (Y_move (v := .int .i64 rank) rfl (hf.get 4 1 rfl)) ?_
      refine sq 7 rfl rfl (Y_assign (v := .int .i64 rank) rfl rfl) ?_
      refine rw_nil ?_
      obtain ⟨z2, hz2, hF3⟩ := bind_inv hz1
      refine cw_mid (fun f w => ∃ (at_ : Int) (i1 : Int), .inl (at_, i1) = z2 ∧ FF f [(3, .slice B1 r_1.length c1), (4, .int .i64 rank), (5, .int .i64 (bit : Int)), (6, .int .i64 at_)] ∧ ST w0 [] w [⟨B1, 3, (l.flatMap encI), c1 * 1⟩] [⟨B, (rows.flatMap encI)⟩]) ?_ ?_
      · skip
        refine cw_block ?_
        refine cw_loop (fun k f w => ∃ (at_1 : Int) (i2 : Int), FF f [(3, .slice B1 r_1.length c1), (4, .int .i64 rank), (5, .int .i64 (bit : Int)), (6, .int .i64 at_1), (7, .int .i64 i2)] ∧ ST w0 [] w [⟨B1, 3, (l.flatMap encI), c1 * 1⟩] [⟨B, (rows.flatMap encI)⟩] ∧ whX (F_spec_l12Rank_l2 r_1 l bit) k (at_1, i2) = some z2) fuel ⟨(-1), rank, (FF.cons (hf.get 3 0 rfl) (FF.cons (hf.get 4 1 rfl) (FF.cons (hf.get 5 2 rfl) (FF.cons rfl (FF.cons rfl FF.nil))))), (hS2.sel [0] rfl rfl), hz2⟩ ?_
        rintro k_2 f w ⟨at_1, i2, hf3, hS5, hL2⟩
        obtain ⟨k_3, y1, rfl, hb1, hL3⟩ := whX_go hL2
        unfold F_spec_l12Rank_l2 at hb1
        refine cw_seq ?_
        refine cw_seq ?_
        refine cw_region ?_
        refine sq 17 rfl rfl (Y_move (v := .int .i64 i2) rfl (hf3.get 7 4 rfl)) ?_
        refine sq 18 rfl rfl (Y_move (v := .slice B1 r_1.length c1) rfl (hf3.get 3 0 rfl)) ?_
        refine sq 19 rfl rfl (Y_len (B := B1) (m := r_1.length) (c := c1) k_sl_41_3 rfl rfl) ?_
        refine sq 20 rfl rfl (Y_lt (k := .i64) (a := i2) (b := (r_1.length : Int)) rfl rfl rfl) ?_
        refine rw_nil ?_
        refine cw_cond (b := (decide (i2 < (r_1.length : Int)))) rfl (fun hb2 => ?_) (fun hb2 => ?_)
        · skip
          have hF4 := ct hb1 hb2
          refine cw_skip ?_
          refine cw_seq ?_
          refine cw_block ?_
          refine cw_seq ?_
          refine cw_region ?_
          refine sq 23 rfl rfl (Y_move (v := .slice B1 r_1.length c1) rfl (hf3.get 3 0 rfl)) ?_
          refine sq 24 rfl rfl (Y_move (v := .int .i64 i2) rfl (hf3.get 7 4 rfl)) ?_
          obtain ⟨x, hx, hF4⟩ := bind_inv hF4
          refine sq 25 rfl rfl (Y_index (B := B1) (m := r_1.length) (c := c1) (k := .i64) (i := i2) k_sl_41_3 k_sz_3_1 rfl rfl rfl (gi_isSome encI_len rfl (hS5.cf (i := 0) rfl) hx) (getI_nn hx) (getI_ltI hx hl)) ?_
          refine sq 26 rfl rfl (Y_load1 (B := B1) (i := i2.toNat * 1) (cs := (l.flatMap encI)) (v := .int .i64 x) k_sc_3 rfl rfl (hS5.cf (i := 0) rfl) (gi_at0 encI_len hx rfl)) ?_
          refine sq 27 rfl rfl (Y_move (v := .int .i64 (bit : Int)) rfl (hf3.get 5 2 rfl)) ?_
          refine sq 28 rfl rfl (Y_conv (k := .i64) (a := (bit : Int)) (T := 3) (T' := 66) k_us_3 k_int_66_u64 rfl rfl) ?_
          obtain ⟨hsh, hF4⟩ := chk_inv hF4
          refine sq 29 rfl rfl (Y_shr (k := .i64) (a := x) (k' := .u64) (b := (IntKind.u64.wrap (bit : Int))) rfl rfl rfl hsh) ?_
          refine sq 30 rfl rfl (Y_band (k := .i64) (a := (shrK .i64 x (IntKind.u64.wrap (bit : Int)))) (b := 1) rfl rfl rfl) ?_
          refine sq 31 rfl rfl (Y_eq (k := .i64) (a := (bits .and .i64 (shrK .i64 x (IntKind.u64.wrap (bit : Int))) 1)) (b := 1) rfl rfl rfl) ?_
          refine rw_nil ?_
          refine cw_cond (b := ((bits .and .i64 (shrK .i64 x (IntKind.u64.wrap (bit : Int))) 1) == 1)) rfl (fun hb3 => ?_) (fun hb3 => ?_)
          · skip
            have hF5 := ct hF4 hb3
            refine cw_seq ?_
            refine cw_region ?_
            refine sq 32 rfl rfl (Y_move (v := .int .i64 i2) rfl (hf3.get 7 4 rfl)) ?_
            refine sq 6 rfl rfl (Y_assign (v := .int .i64 i2) rfl rfl) ?_
            refine rw_nil ?_
            refine cw_exit rfl ?_
            obtain rfl := some_inj hF5
            exact ⟨i2, i2, (some_inj hL3), (FF.cons (hf3.get 3 0 rfl) (FF.cons (hf3.get 4 1 rfl) (FF.cons (hf3.get 5 2 rfl) (FF.cons rfl FF.nil)))), (hS5.sel [0] rfl rfl)⟩
          · skip
            have hF6 := cf' hF4 hb3
            refine cw_skip ?_
            refine cw_region ?_
            refine sq 21 rfl rfl (Y_move (v := .int .i64 i2) rfl (hf3.get 7 4 rfl)) ?_
            refine sq 22 rfl rfl (Y_add (k := .i64) (a := i2) (b := 1) rfl rfl rfl) ?_
            refine sq 7 rfl rfl (Y_assign (v := .int .i64 (IntKind.i64.wrap (i2 + 1))) rfl rfl) ?_
            refine rw_nil ?_
            obtain rfl := some_inj hF6
            exact ⟨k_3, Nat.lt_succ_self _, at_1, (IntKind.i64.wrap (i2 + 1)), (FF.cons (hf3.get 3 0 rfl) (FF.cons (hf3.get 4 1 rfl) (FF.cons (hf3.get 5 2 rfl) (FF.cons (hf3.get 6 3 rfl) (FF.cons rfl FF.nil))))), (hS5.sel [0] rfl rfl), hL3⟩
        · skip
          have hF7 := cf' hb1 hb2
          refine cw_exit rfl ?_
          obtain rfl := some_inj hF7
          exact ⟨at_1, i2, (some_inj hL3), (FF.cons (hf3.get 3 0 rfl) (FF.cons (hf3.get 4 1 rfl) (FF.cons (hf3.get 5 2 rfl) (FF.cons (hf3.get 6 3 rfl) FF.nil)))), (hS5.sel [0] rfl rfl)⟩
      rintro f w ⟨at_, i1, rfl, hf2, hS4⟩
      refine cw_seq ?_
      refine cw_seq ?_
      refine cw_region ?_
      refine sq 33 rfl rfl (Y_move (v := .int .i64 at_) rfl (hf2.get 6 3 rfl)) ?_
      refine sq 34 rfl rfl (Y_lt (k := .i64) (a := at_) (b := 0) rfl rfl rfl) ?_
      refine rw_nil ?_
      refine cw_cond (b := (decide (at_ < 0))) rfl (fun hb4 => ?_) (fun hb4 => ?_)
      · skip
        have hF8 := ct hF3 hb4
        refine cw_exit rfl ?_
        exact ⟨l, rank, (some_inj hF8), (FF.cons (hf2.get 3 0 rfl) (FF.cons (hf2.get 4 1 rfl) (FF.cons (hf2.get 5 2 rfl) FF.nil))), hl, (hS4.sel [0] rfl rfl)⟩
      · skip
        have hF9 := cf' hF3 hb4
        refine cw_skip ?_
        refine cw_seq ?_
        refine cw_region ?_
        refine sq 35 rfl rfl (Y_move (v := .slice B1 r_1.length c1) rfl (hf2.get 3 0 rfl)) ?_
        refine sq 36 rfl rfl (Y_move (v := .int .i64 at_) rfl (hf2.get 6 3 rfl)) ?_
        obtain ⟨x1, hx1, hF9⟩ := bind_inv hF9
        refine sq 37 rfl rfl (Y_index (B := B1) (m := r_1.length) (c := c1) (k := .i64) (i := at_) k_sl_41_3 k_sz_3_1 rfl rfl rfl (gi_isSome encI_len rfl (hS4.cf (i := 0) rfl) hx1) (getI_nn hx1) (getI_ltI hx1 hl)) ?_
        refine sq 38 rfl rfl (Y_load1 (B := B1) (i := at_.toNat * 1) (cs := (l.flatMap encI)) (v := .int .i64 x1) k_sc_3 rfl rfl (hS4.cf (i := 0) rfl) (gi_at0 encI_len hx1 rfl)) ?_
        refine sq 8 rfl rfl (Y_assign (v := .int .i64 x1) rfl rfl) ?_
        refine rw_nil ?_
        refine cw_seq ?_
        refine cw_region ?_
        refine sq 39 rfl rfl (Y_move (v := .slice B1 r_1.length c1) rfl (hf2.get 3 0 rfl)) ?_
        refine sq 40 rfl rfl (Y_move (v := .int .i64 at_) rfl (hf2.get 6 3 rfl)) ?_
        refine sq 41 rfl rfl (Y_move (v := .slice B1 r_1.length c1) rfl (hf2.get 3 0 rfl)) ?_
        refine sq 42 rfl rfl (Y_move (v := .int .i64 rank) rfl (hf2.get 4 1 rfl)) ?_
        obtain ⟨x2, hx2, hF9⟩ := bind_inv hF9
        refine sq 43 rfl rfl (Y_index (B := B1) (m := r_1.length) (c := c1) (k := .i64) (i := rank) k_sl_41_3 k_sz_3_1 rfl rfl rfl (gi_isSome encI_len rfl (hS4.cf (i := 0) rfl) hx2) (getI_nn hx2) (getI_ltI hx2 hl)) ?_
        refine sq 44 rfl rfl (Y_load1 (B := B1) (i := rank.toNat * 1) (cs := (l.flatMap encI)) (v := .int .i64 x2) k_sc_3 rfl rfl (hS4.cf (i := 0) rfl) (gi_at0 encI_len hx2 rfl)) ?_
        refine sq 45 rfl rfl (Y_index (B := B1) (m := r_1.length) (c := c1) (k := .i64) (i := at_) k_sl_41_3 k_sz_3_1 rfl rfl rfl (gi_isSome encI_len rfl (hS4.cf (i := 0) rfl) hx1) (getI_nn hx1) (getI_ltI hx1 hl)) ?_
        refine ss0 rfl rfl (Ys_store (i := 0) (s := 1) (B := B1) (T' := 3) (v := .int .i64 x2) (vs := [.int .i64 x2]) (k := at_.toNat * 1) (cs' := ((l.set at_.toNat x2).flatMap encI)) hS4 k_sz_3_1 rfl rfl rfl rfl rfl rfl rfl (gi_fit0 encI_len hx1) (gi_set encI_len hx1 x2 rfl) rfl) ?_
        rintro _ w_1 ⟨rfl, hS6⟩
        refine rw_nil ?_
        refine cw_seq ?_
        refine cw_region ?_
        refine sq 46 rfl rfl (Y_move (v := .slice B1 r_1.length c1) rfl (hf2.get 3 0 rfl)) ?_
        refine sq 47 rfl rfl (Y_move (v := .int .i64 rank) rfl (hf2.get 4 1 rfl)) ?_
        refine sq 48 rfl rfl (Y_move (v := .int .i64 x1) rfl rfl) ?_
        obtain ⟨x3, hx3, hF9⟩ := bind_inv hF9
        refine sq 49 rfl rfl (Y_index (B := B1) (m := r_1.length) (c := c1) (k := .i64) (i := rank) k_sl_41_3 k_sz_3_1 rfl rfl rfl (gi_isSome encI_len rfl (hS6.cf (i := 0) rfl) hx3) (getI_nn hx3) (getI_ltI hx3 (set_len _ _ _ hl))) ?_
        refine ss0 rfl rfl (Ys_store (i := 0) (s := 1) (B := B1) (T' := 3) (v := .int .i64 x1) (vs := [.int .i64 x1]) (k := rank.toNat * 1) (cs' := (((l.set at_.toNat x2).set rank.toNat x1).flatMap encI)) hS6 k_sz_3_1 rfl rfl rfl rfl rfl rfl rfl (gi_fit0 encI_len hx3) (gi_set encI_len hx3 x1 rfl) rfl) ?_
        rintro _ w_2 ⟨rfl, hS7⟩
        refine rw_nil ?_
        refine cw_seq ?_
        refine cw_seq ?_
        refine cw_region ?_
        refine sq 50 rfl rfl (Y_move (v := .slice B1 r_1.length c1) rfl (hf2.get 3 0 rfl)) ?_
        refine sq 51 rfl rfl (Y_len (B := B1) (m := r_1.length) (c := c1) k_sl_41_3 rfl rfl) ?_
        refine sq 52 rfl rfl (Y_move (v := .int .i64 0) rfl rfl) ?_
        refine rw_nil ?_
        obtain ⟨hN, hF9⟩ := chk_inv hF9
        obtain ⟨z3, hz3, hF10⟩ := bind_inv hF9
        refine cw_block ?_
        refine cw_loop (fun k f w => ∃ (i3 : Nat) (l2 : List Int), FF f [(3, .slice B1 r_1.length c1), (4, .int .i64 rank), (5, .int .i64 (bit : Int)), (8, .int .i64 x1), (51, .int .i64 (r_1.length : Int)), (52, .int .i64 (i3 : Int))] ∧ l2.length = r_1.length ∧ ST w0 [] w [⟨B1, 3, (l2.flatMap encI), c1 * 1⟩] [⟨B, (rows.flatMap encI)⟩] ∧ i3 + k = r_1.length ∧ forN (F_spec_l12Rank_l3 rank bit x1) k i3 l2 = some z3) r_1.length ⟨0, ((l.set at_.toNat x2).set rank.toNat x1), (FF.cons (hf2.get 3 0 rfl) (FF.cons (hf2.get 4 1 rfl) (FF.cons (hf2.get 5 2 rfl) (FF.cons rfl (FF.cons rfl (FF.cons rfl FF.nil)))))), (set_len _ _ _ (set_len _ _ _ hl)), (hS7.sel [0] rfl rfl), Nat.zero_add _, hz3⟩ ?_
        rintro k_4 f w ⟨i3, l2, hf4, hl2, hS8, hik2, hL4⟩
        refine cw_seq ?_
        refine cw_region ?_
        refine sq 53 rfl rfl (Y_lt (k := .i64) (a := (i3 : Int)) (b := (r_1.length : Int)) rfl (hf4.get 52 5 rfl) (hf4.get 51 4 rfl)) ?_
        refine rw_nil ?_
        refine cw_seq ?_
        refine cw_cond (b := (decide ((i3 : Int) < (r_1.length : Int)))) rfl (fun hlt2 => ?_) (fun hlt2 => ?_)
        · skip
          have hlt3 : i3 < r_1.length := by have h := of_decide_eq_true hlt2; omega
          obtain ⟨k_5, rfl⟩ : ∃ k2, k_4 = k2 + 1 := ⟨k_4 - 1, by omega⟩
          obtain ⟨y2, hb5, hL5⟩ := forN_go hL4
          unfold F_spec_l12Rank_l3 at hb5
          refine cw_skip ?_
          refine cw_seq ?_
          obtain ⟨z4, hz4, hF11⟩ := bind_inv hb5
          refine cw_mid (fun f w => ∃ (l3 : List Int), l3 = z4 ∧ FF f [(3, .slice B1 r_1.length c1), (4, .int .i64 rank), (5, .int .i64 (bit : Int)), (8, .int .i64 x1), (51, .int .i64 (r_1.length : Int)), (52, .int .i64 (i3 : Int))] ∧ l3.length = r_1.length ∧ ST w0 [] w [⟨B1, 3, (l3.flatMap encI), c1 * 1⟩] [⟨B, (rows.flatMap encI)⟩]) ?_ ?_
          · skip
            refine cw_block ?_
            refine cw_seq ?_
            refine cw_region ?_
            refine sq 54 rfl rfl (Y_move (v := .int .i64 (i3 : Int)) rfl (hf4.get 52 5 rfl)) ?_
            refine sq 9 rfl rfl (Y_assign (v := .int .i64 (i3 : Int)) rfl rfl) ?_
            refine rw_nil ?_
            refine cw_seq ?_
            refine cw_region ?_
            refine sq 55 rfl rfl (Y_move (v := .int .i64 (i3 : Int)) rfl rfl) ?_
            refine sq 56 rfl rfl (Y_move (v := .int .i64 rank) rfl (hf4.get 4 1 rfl)) ?_
            refine sq 57 rfl rfl (Y_ne (k := .i64) (a := (i3 : Int)) (b := rank) rfl rfl rfl) ?_
            refine sq 58 rfl rfl (Y_move (v := .bool ((i3 : Int) != rank)) rfl rfl) ?_
            refine sgq 59 (B := ((i3 : Int) != rank)) (v := .slice B1 r_1.length c1) rfl rfl (wt_t (gd_of (t := 58) (by kernel_rfl) rfl)) (fun hg => (Y_move (v := .slice B1 r_1.length c1) rfl (hf4.get 3 0 rfl))) ?_
            refine sgq 60 (B := ((i3 : Int) != rank)) (v := .int .i64 (i3 : Int)) rfl rfl (wt_t (gd_of (t := 58) (by kernel_rfl) rfl)) (fun hg1 => (Y_move (v := .int .i64 (i3 : Int)) rfl rfl)) ?_
            obtain ⟨x4, hx4, hz4⟩ := bind_inv hz4
            refine sgq 61 (B := ((i3 : Int) != rank)) (v := pt B1 ((i3 : Int).toNat * 1)) rfl rfl (wt_t (gd_of (t := 58) (by kernel_rfl) rfl)) (fun hg2 => (Y_index (B := B1) (m := r_1.length) (c := c1) (k := .i64) (i := (i3 : Int)) k_sl_41_3 k_sz_3_1 rfl (gv_of (B := ((i3 : Int) != rank)) (v := .slice B1 r_1.length c1) hg2) (gv_of (B := ((i3 : Int) != rank)) (v := .int .i64 (i3 : Int)) hg2) (gi_isSome encI_len rfl (hS8.cf (i := 0) rfl) (gb_inv hx4 hg2)) (getI_nn (gb_inv hx4 hg2)) (getI_ltI (gb_inv hx4 hg2) hl2))) ?_
            refine sgq 62 (B := ((i3 : Int) != rank)) (v := .int .i64 x4) rfl rfl (wt_t (gd_of (t := 58) (by kernel_rfl) rfl)) (fun hg3 => (Y_load1 (B := B1) (i := (i3 : Int).toNat * 1) (cs := (l2.flatMap encI)) (v := .int .i64 x4) k_sc_3 rfl (gv_of (B := ((i3 : Int) != rank)) (v := pt B1 ((i3 : Int).toNat * 1)) hg3) (hS8.cf (i := 0) rfl) (gi_at0 encI_len (gb_inv hx4 hg3) rfl))) ?_
            refine sgq 63 (B := ((i3 : Int) != rank)) (v := .int .i64 (bit : Int)) rfl rfl (wt_t (gd_of (t := 58) (by kernel_rfl) rfl)) (fun hg4 => (Y_move (v := .int .i64 (bit : Int)) rfl (hf4.get 5 2 rfl))) ?_
            refine sgq 64 (B := ((i3 : Int) != rank)) (v := .int .u64 (IntKind.u64.wrap (bit : Int))) rfl rfl (wt_t (gd_of (t := 58) (by kernel_rfl) rfl)) (fun hg5 => (Y_conv (k := .i64) (a := (bit : Int)) (T := 3) (T' := 66) k_us_3 k_int_66_u64 rfl (gv_of (B := ((i3 : Int) != rank)) (v := .int .i64 (bit : Int)) hg5))) ?_
            obtain ⟨hsh1, hz4⟩ := chk_inv hz4
            refine sgq 65 (B := ((i3 : Int) != rank)) (v := .int .i64 (shrK .i64 x4 (IntKind.u64.wrap (bit : Int)))) rfl rfl (wt_t (gd_of (t := 58) (by kernel_rfl) rfl)) (fun hg6 => (Y_shr (k := .i64) (a := x4) (k' := .u64) (b := (IntKind.u64.wrap (bit : Int))) rfl (gv_of (B := ((i3 : Int) != rank)) (v := .int .i64 x4) hg6) (gv_of (B := ((i3 : Int) != rank)) (v := .int .u64 (IntKind.u64.wrap (bit : Int))) hg6) (hsh1 hg6))) ?_
            refine sgq 66 (B := ((i3 : Int) != rank)) (v := .int .i64 (bits .and .i64 (shrK .i64 x4 (IntKind.u64.wrap (bit : Int))) 1)) rfl rfl (wt_t (gd_of (t := 58) (by kernel_rfl) rfl)) (fun hg7 => (Y_band (k := .i64) (a := (shrK .i64 x4 (IntKind.u64.wrap (bit : Int)))) (b := 1) rfl (gv_of (B := ((i3 : Int) != rank)) (v := .int .i64 (shrK .i64 x4 (IntKind.u64.wrap (bit : Int)))) hg7) rfl)) ?_
            refine sgq 67 (B := ((i3 : Int) != rank)) (v := .bool ((bits .and .i64 (shrK .i64 x4 (IntKind.u64.wrap (bit : Int))) 1) == 1)) rfl rfl (wt_t (gd_of (t := 58) (by kernel_rfl) rfl)) (fun hg8 => (Y_eq (k := .i64) (a := (bits .and .i64 (shrK .i64 x4 (IntKind.u64.wrap (bit : Int))) 1)) (b := 1) rfl (gv_of (B := ((i3 : Int) != rank)) (v := .int .i64 (bits .and .i64 (shrK .i64 x4 (IntKind.u64.wrap (bit : Int))) 1)) hg8) rfl)) ?_
            refine sq 68 rfl rfl (Y_and (b := ((i3 : Int) != rank)) (z := ((bits .and .i64 (shrK .i64 x4 (IntKind.u64.wrap (bit : Int))) 1) == 1)) rfl rfl rfl rfl) ?_
            refine rw_nil ?_
            refine cw_cond (b := (((i3 : Int) != rank) && ((bits .and .i64 (shrK .i64 x4 (IntKind.u64.wrap (bit : Int))) 1) == 1))) rfl (fun hb6 => ?_) (fun hb6 => ?_)
            · skip
              have hF12 := ct hz4 hb6
              refine cw_region ?_
              refine sq 69 rfl rfl (Y_move (v := .slice B1 r_1.length c1) rfl (hf4.get 3 0 rfl)) ?_
              refine sq 70 rfl rfl (Y_move (v := .int .i64 (i3 : Int)) rfl rfl) ?_
              obtain ⟨x5, hx5, hF12⟩ := bind_inv hF12
              refine sq 71 rfl rfl (Y_index (B := B1) (m := r_1.length) (c := c1) (k := .i64) (i := (i3 : Int)) k_sl_41_3 k_sz_3_1 rfl rfl rfl (gi_isSome encI_len rfl (hS8.cf (i := 0) rfl) hx5) (getI_nn hx5) (getI_ltI hx5 hl2)) ?_
              refine sq 72 rfl rfl (Y_load1 (B := B1) (i := (i3 : Int).toNat * 1) (cs := (l2.flatMap encI)) (v := .int .i64 x5) k_sc_3 rfl rfl (hS8.cf (i := 0) rfl) (gi_at0 encI_len hx5 rfl)) ?_
              refine sq 73 rfl rfl (Y_move (v := .int .i64 x1) rfl (hf4.get 8 3 rfl)) ?_
              refine sq 74 rfl rfl (Y_bxor (k := .i64) (a := x5) (b := x1) rfl rfl rfl) ?_
              refine sq 75 rfl rfl (Y_index (B := B1) (m := r_1.length) (c := c1) (k := .i64) (i := (i3 : Int)) k_sl_41_3 k_sz_3_1 rfl rfl rfl (gi_isSome encI_len rfl (hS8.cf (i := 0) rfl) hx5) (getI_nn hx5) (getI_ltI hx5 hl2)) ?_
              refine ss0 rfl rfl (Ys_store (i := 0) (s := 1) (B := B1) (T' := 3) (v := .int .i64 (bits .xor .i64 x5 x1)) (vs := [.int .i64 (bits .xor .i64 x5 x1)]) (k := (i3 : Int).toNat * 1) (cs' := ((l2.set (i3 : Int).toNat (bits .xor .i64 x5 x1)).flatMap encI)) hS8 k_sz_3_1 rfl rfl rfl rfl rfl rfl rfl (gi_fit0 encI_len hx5) (gi_set encI_len hx5 (bits .xor .i64 x5 x1) rfl) rfl) ?_
              rintro _ w_3 ⟨rfl, hS10⟩
              refine rw_nil ?_
              exact ⟨(l2.set (i3 : Int).toNat (bits .xor .i64 x5 x1)), (some_inj hF12), (FF.cons (hf4.get 3 0 rfl) (FF.cons (hf4.get 4 1 rfl) (FF.cons (hf4.get 5 2 rfl) (FF.cons (hf4.get 8 3 rfl) (FF.cons (hf4.get 51 4 rfl) (FF.cons (hf4.get 52 5 rfl) FF.nil)))))), (set_len _ _ _ hl2), (hS10.sel [0] rfl rfl)⟩
            · skip
              have hF13 := cf' hz4 hb6
              refine cw_skip ?_
              exact ⟨l2, (some_inj hF13), (FF.cons (hf4.get 3 0 rfl) (FF.cons (hf4.get 4 1 rfl) (FF.cons (hf4.get 5 2 rfl) (FF.cons (hf4.get 8 3 rfl) (FF.cons (hf4.get 51 4 rfl) (FF.cons (hf4.get 52 5 rfl) FF.nil)))))), hl2, (hS8.sel [0] rfl rfl)⟩
          rintro f w ⟨l3, rfl, hf5, hl3, hS9⟩
          refine cw_region ?_
          refine sq 76 rfl rfl (Y_add (k := .i64) (a := (i3 : Int)) (b := 1) rfl (hf5.get 52 5 rfl) rfl) ?_
          refine sq 52 rfl rfl (Y_move (v := .int .i64 (IntKind.i64.wrap ((i3 : Int) + 1))) rfl rfl) ?_
          refine rw_nil ?_
          obtain rfl := some_inj hF11
          exact ⟨k_5, Nat.lt_succ_self _, i3 + 1, l3, (FF.cons (hf5.get 3 0 rfl) (FF.cons (hf5.get 4 1 rfl) (FF.cons (hf5.get 5 2 rfl) (FF.cons (hf5.get 8 3 rfl) (FF.cons (hf5.get 51 4 rfl) (FF.cons (congrArg (Value.int .i64) (wr_succ hlt3 hN)) FF.nil)))))), hl3, (hS9.sel [0] rfl rfl), (by omega), hL5⟩
        · skip
          obtain rfl : k_4 = 0 := by have h := of_decide_eq_false hlt2; omega
          refine cw_exit rfl ?_
          obtain rfl := some_inj hL4
          refine cw_region ?_
          refine sq 77 rfl rfl (Y_move (v := .int .i64 rank) rfl (hf4.get 4 1 rfl)) ?_
          refine sq 78 rfl rfl (Y_add (k := .i64) (a := rank) (b := 1) rfl rfl rfl) ?_
          refine sq 4 rfl rfl (Y_assign (v := .int .i64 (IntKind.i64.wrap (rank + 1))) rfl rfl) ?_
          refine rw_nil ?_
          exact ⟨l2, (IntKind.i64.wrap (rank + 1)), (some_inj hF10), (FF.cons (hf4.get 3 0 rfl) (FF.cons rfl (FF.cons (hf4.get 5 2 rfl) FF.nil))), hl2, (hS8.sel [0] rfl rfl)⟩
    rintro f w ⟨l1, rank1, rfl, hf1, hl1, hS3⟩
    refine cw_region ?_
    refine sq 14 rfl rfl (Y_move (v := .int .i64 (bit : Int)) rfl (hf1.get 5 2 rfl)) ?_
    refine sq 15 rfl rfl (Y_add (k := .i64) (a := (bit : Int)) (b := 1) rfl rfl rfl) ?_
    refine sq 5 rfl rfl (Y_assign (v := .int .i64 (IntKind.i64.wrap ((bit : Int) + 1))) rfl rfl) ?_
    refine rw_nil ?_
    obtain rfl := some_inj hF2
    exact ⟨k_1, Nat.lt_succ_self _, bit + 1, l1, rank1, (FF.cons (hf1.get 3 0 rfl) (FF.cons (hf1.get 4 1 rfl) (FF.cons (congrArg (Value.int .i64) (wr_succ hlt1 (show 10 ≤ 9223372036854775807 by decide))) FF.nil))), hl1, (hS3.sel [0] rfl rfl), (by omega), hL1⟩
  · skip
    obtain rfl : k_ = 0 := by have h := of_decide_eq_false hlt; omega
    refine cw_exit rfl ?_
    obtain rfl := some_inj hL
    refine cw_seq ?_
    refine cw_region ?_
    refine sq 79 rfl rfl (Y_move (v := .int .i64 rank) rfl (hf.get 4 1 rfl)) ?_
    refine sq 2 rfl rfl (Y_assign (v := .int .i64 rank) rfl rfl) ?_
    refine rw_nil ?_
    refine cw_ret ?_
    obtain rfl := some_inj hF1
    exact ret1 Try.results138 (v1 := .int .i64 rank) (resAt_tmp rfl) ⟨rfl, (ST.subR (R' := []) (hS2.sel [] rfl rfl) (fun _ h => by cases h))⟩

theorem c_spec_l12Valid (m : TLinear) (B : Option Addr) (c n : Nat) (w0 : World) (hn : m.Rows.length = n) (hS : ST w0 [] w0 [] [⟨B, (m.Rows.flatMap encI)⟩]) {r_ : Bool} (hF : F_spec_l12Valid m = some r_) :
    CV Try.prog 93 #[.agg #[.slice B n c]] w0 (fun v w' => v = .bool r_ ∧ ST w0 [] w' [] []) := by
  subst hn
  unfold F_spec_l12Valid at hF
  refine cv_of_cw 25 Try.func93 rfl Try.ntmps93 rfl ?_
  refine cw_seq ?_
  refine cw_region ?_
  refine ss 1 rfl rfl (Ys_box (T := 48) (v := .agg #[.slice B m.Rows.length c]) (cs := [.slice B m.Rows.length c]) (m := 1) hS rfl rfl rfl rfl) ?_
  rintro _ w_ ⟨b, rfl, hS1⟩
  refine sq 2 rfl rfl (Y_assign (v := .bool false) rfl rfl) ?_
  refine rw_nil ?_
  refine cw_seq ?_
  refine cw_region ?_
  refine sq 4 rfl rfl (Y_fieldAddr (B := some ⟨b, 0, none⟩) (i := 0) (s := 0) k_fd_48_0_0_41 k_sz_41_1 rfl rfl) ?_
  refine sq 5 rfl rfl (Y_load1 (B := some ⟨b, 0, none⟩) (i := 0) (cs := [.slice B m.Rows.length c]) (v := .slice B m.Rows.length c) k_sc_41 rfl rfl (hS1.cf (i := 0) rfl) rfl) ?_
  refine sq 6 rfl rfl (Y_len (B := B) (m := m.Rows.length) (c := c) k_sl_41_3 rfl rfl) ?_
  refine sq 3 rfl rfl (Y_assign (v := .int .i64 (m.Rows.length : Int)) rfl rfl) ?_
  refine rw_nil ?_
  refine cw_seq ?_
  refine cw_region ?_
  refine sq 7 rfl rfl (Y_move (v := .int .i64 (m.Rows.length : Int)) rfl rfl) ?_
  obtain ⟨r_1, hc, hF⟩ := bind_inv hF
  refine sc 8 rfl rfl (Yc_func (g := 29) (vs := [.int .i64 (m.Rows.length : Int), .int .i64 1, .int .i64 5]) k_call_29 rfl (mc rfl (mc rfl (mc rfl mn))) (c_spec_l1In (m.Rows.length : Int) 1 5 _  (hS1.inn0 [] rfl) hc)) ?_
  rintro _ w_1 ⟨rfl, hd⟩
  have hS2 := hS1.out00 hd
  refine sq 9 rfl rfl (Y_move (v := .bool r_1) rfl rfl) ?_
  refine sgq 10 (B := r_1) (v := pt (some ⟨b, 0, none⟩) 0) rfl rfl (wt_t (gd_of (t := 9) (by kernel_rfl) rfl)) (fun hg => (Y_fieldAddr (B := some ⟨b, 0, none⟩) (i := 0) (s := 0) k_fd_48_0_0_41 k_sz_41_1 rfl rfl)) ?_
  refine sgq 11 (B := r_1) (v := .slice B m.Rows.length c) rfl rfl (wt_t (gd_of (t := 9) (by kernel_rfl) rfl)) (fun hg1 => (Y_load1 (B := some ⟨b, 0, none⟩) (i := 0) (cs := [.slice B m.Rows.length c]) (v := .slice B m.Rows.length c) k_sc_41 rfl (gv_of (B := r_1) (v := pt (some ⟨b, 0, none⟩) 0) hg1) (hS2.cf (i := 0) rfl) rfl)) ?_
  refine sgq 12 (B := r_1) (v := .int .i64 (m.Rows.length : Int)) rfl rfl (wt_t (gd_of (t := 9) (by kernel_rfl) rfl)) (fun hg2 => (Y_move (v := .int .i64 (m.Rows.length : Int)) rfl rfl)) ?_
  refine sgq 13 (B := r_1) (v := .int .u64 (IntKind.u64.wrap (m.Rows.length : Int))) rfl rfl (wt_t (gd_of (t := 9) (by kernel_rfl) rfl)) (fun hg3 => (Y_conv (k := .i64) (a := (m.Rows.length : Int)) (T := 3) (T' := 66) k_us_3 k_int_66_u64 rfl (gv_of (B := r_1) (v := .int .i64 (m.Rows.length : Int)) hg3))) ?_
  obtain ⟨hsh, hF⟩ := chk_inv hF
  refine sgq 14 (B := r_1) (v := .int .i64 (shlK .i64 1 (IntKind.u64.wrap (m.Rows.length : Int)))) rfl rfl (wt_t (gd_of (t := 9) (by kernel_rfl) rfl)) (fun hg4 => (Y_shl (k := .i64) (a := 1) (k' := .u64) (b := (IntKind.u64.wrap (m.Rows.length : Int))) rfl rfl (gv_of (B := r_1) (v := .int .u64 (IntKind.u64.wrap (m.Rows.length : Int))) hg4) (hsh hg4))) ?_
  refine sgq 15 (B := r_1) (v := .int .i64 (IntKind.i64.wrap ((shlK .i64 1 (IntKind.u64.wrap (m.Rows.length : Int))) - 1))) rfl rfl (wt_t (gd_of (t := 9) (by kernel_rfl) rfl)) (fun hg5 => (Y_sub (k := .i64) (a := (shlK .i64 1 (IntKind.u64.wrap (m.Rows.length : Int)))) (b := 1) rfl (gv_of (B := r_1) (v := .int .i64 (shlK .i64 1 (IntKind.u64.wrap (m.Rows.length : Int)))) hg5) rfl)) ?_
  obtain ⟨r_2, hc1, hF⟩ := bind_inv hF
  refine sgc 16 (B := r_1) (v := .bool r_2) (F := hS2.fn) rfl rfl (wt_t (gd_of (t := 9) (by kernel_rfl) rfl)) hS2 (fun hg6 => (Yc_func (g := 137) (vs := [.slice B m.Rows.length c, .int .i64 0, .int .i64 (IntKind.i64.wrap ((shlK .i64 1 (IntKind.u64.wrap (m.Rows.length : Int))) - 1))]) k_call_137 rfl (mc (gv_of (B := r_1) (v := .slice B m.Rows.length c) hg6) (mc rfl (mc (gv_of (B := r_1) (v := .int .i64 (IntKind.i64.wrap ((shlK .i64 1 (IntKind.u64.wrap (m.Rows.length : Int))) - 1))) hg6) mn))) (CV.mono (c_spec_l1All m.Rows 0 (IntKind.i64.wrap ((shlK .i64 1 (IntKind.u64.wrap (m.Rows.length : Int))) - 1)) B c m.Rows.length _ rfl (hS2.inn0 [(true, 0)] rfl) (gb_inv hc1 hg6)) (by rintro _ _ ⟨rfl, h⟩; exact ⟨rfl, hS2.out00 h⟩)))) ?_
  rintro w_2 hS3
  have hS3 : ST _ _ w_2 _ _ := hS3
  refine sq 17 rfl rfl (Y_and (b := r_1) (z := r_2) rfl rfl rfl rfl) ?_
  refine sq 18 rfl rfl (Y_move (v := .bool (r_1 && r_2)) rfl rfl) ?_
  refine sgq 19 (B := (r_1 && r_2)) (v := pt (some ⟨b, 0, none⟩) 0) rfl rfl (wt_t (gd_of (t := 18) (by kernel_rfl) rfl)) (fun hg7 => (Y_fieldAddr (B := some ⟨b, 0, none⟩) (i := 0) (s := 0) k_fd_48_0_0_41 k_sz_41_1 rfl rfl)) ?_
  refine sgq 20 (B := (r_1 && r_2)) (v := .slice B m.Rows.length c) rfl rfl (wt_t (gd_of (t := 18) (by kernel_rfl) rfl)) (fun hg8 => (Y_load1 (B := some ⟨b, 0, none⟩) (i := 0) (cs := [.slice B m.Rows.length c]) (v := .slice B m.Rows.length c) k_sc_41 rfl (gv_of (B := (r_1 && r_2)) (v := pt (some ⟨b, 0, none⟩) 0) hg8) (hS3.cf (i := 0) rfl) rfl)) ?_
  obtain ⟨r_3, hc2, hF⟩ := bind_inv hF
  refine sgc 21 (B := (r_1 && r_2)) (v := .int .i64 r_3) (F := hS3.fn) rfl rfl (wt_t (gd_of (t := 18) (by kernel_rfl) rfl)) hS3 (fun hg9 => (Yc_func (g := 138) (vs := [.slice B m.Rows.length c]) k_call_138 rfl (mc (gv_of (B := (r_1 && r_2)) (v := .slice B m.Rows.length c) hg9) mn) (CV.mono (c_spec_l12Rank m.Rows B c m.Rows.length _ rfl (hS3.inn0 [(true, 0)] rfl) (gb_inv hc2 hg9)) (by rintro _ _ ⟨rfl, h⟩; exact ⟨rfl, hS3.out00 h⟩)))) ?_
  rintro w_3 hS4
  have hS4 : ST _ _ w_3 _ _ := hS4
  refine sgq 22 (B := (r_1 && r_2)) (v := .int .i64 (m.Rows.length : Int)) rfl rfl (wt_t (gd_of (t := 18) (by kernel_rfl) rfl)) (fun hg10 => (Y_move (v := .int .i64 (m.Rows.length : Int)) rfl rfl)) ?_
  refine sgq 23 (B := (r_1 && r_2)) (v := .bool (r_3 == (m.Rows.length : Int))) rfl rfl (wt_t (gd_of (t := 18) (by kernel_rfl) rfl)) (fun hg11 => (Y_eq (k := .i64) (a := r_3) (b := (m.Rows.length : Int)) rfl (gv_of (B := (r_1 && r_2)) (v := .int .i64 r_3) hg11) (gv_of (B := (r_1 && r_2)) (v := .int .i64 (m.Rows.length : Int)) hg11))) ?_
  refine sq 24 rfl rfl (Y_and (b := (r_1 && r_2)) (z := (r_3 == (m.Rows.length : Int))) rfl rfl rfl rfl) ?_
  refine sq 2 rfl rfl (Y_assign (v := .bool ((r_1 && r_2) && (r_3 == (m.Rows.length : Int)))) rfl rfl) ?_
  refine rw_nil ?_
  refine cw_ret ?_
  obtain rfl := some_inj hF
  exact ret1 Try.results93 (v1 := .bool ((r_1 && r_2) && (r_3 == (m.Rows.length : Int)))) (resAt_tmp rfl) ⟨rfl, (ST.subR (R' := []) (hS4.sel [] rfl rfl) (fun _ h => by cases h))⟩

theorem c_spec_l13Valid (p : TPhasePoly) (B : Option Addr) (c n : Nat) (B1 : Option Addr) (c1 n1 : Nat) (w0 : World) (hn : p.Terms.length = n) (hn1 : p.Out.Rows.length = n1) (hS : ST w0 [] w0 [] [⟨B, (p.Terms.flatMap enc_Term)⟩, ⟨B1, (p.Out.Rows.flatMap encI)⟩]) {r_ : Bool} (hF : F_spec_l13Valid p = some r_) :
    CV Try.prog 47 #[.agg #[.int .i64 p.Qubits, .int .i64 p.Phase, .slice B n c, .slice B1 n1 c1]] w0 (fun v w' => v = .bool r_ ∧ ST w0 [] w' [] []) := by
  subst hn
  subst hn1
  unfold F_spec_l13Valid at hF
  refine cv_of_cw 70 Try.func47 rfl Try.ntmps47 rfl ?_
  refine cw_seq ?_
  refine cw_region ?_
  refine ss 1 rfl rfl (Ys_box (T := 50) (v := .agg #[.int .i64 p.Qubits, .int .i64 p.Phase, .slice B p.Terms.length c, .slice B1 p.Out.Rows.length c1]) (cs := [.int .i64 p.Qubits, .int .i64 p.Phase, .slice B p.Terms.length c, .slice B1 p.Out.Rows.length c1]) (m := 4) hS rfl rfl rfl rfl) ?_
  rintro _ w_ ⟨b, rfl, hS1⟩
  refine sq 2 rfl rfl (Y_assign (v := .bool false) rfl rfl) ?_
  refine rw_nil ?_
  refine cw_seq ?_
  refine cw_seq ?_
  refine cw_region ?_
  refine sq 5 rfl rfl (Y_fieldAddr (B := some ⟨b, 0, none⟩) (i := 0) (s := 0) k_fd_50_0_0_3 k_sz_3_1 rfl rfl) ?_
  refine sq 6 rfl rfl (Y_load1 (B := some ⟨b, 0, none⟩) (i := 0) (cs := [.int .i64 p.Qubits, .int .i64 p.Phase, .slice B p.Terms.length c, .slice B1 p.Out.Rows.length c1]) (v := .int .i64 p.Qubits) k_sc_3 rfl rfl (hS1.cf (i := 0) rfl) rfl) ?_
  obtain ⟨r_1, hc, hF⟩ := bind_inv hF
  refine sc 7 rfl rfl (Yc_func (g := 29) (vs := [.int .i64 p.Qubits, .int .i64 1, .int .i64 5]) k_call_29 rfl (mc rfl (mc rfl (mc rfl mn))) (c_spec_l1In p.Qubits 1 5 _  (hS1.inn0 [] rfl) hc)) ?_
  rintro _ w_1 ⟨rfl, hd⟩
  have hS2 := hS1.out00 hd
  refine sq 8 rfl rfl (Y_not (p := r_1) rfl rfl) ?_
  refine sq 9 rfl rfl (Y_move (v := .bool (!r_1)) rfl rfl) ?_
  refine sgq 10 (B := (!(!r_1))) (v := pt (some ⟨b, 0, none⟩) 1) rfl rfl (wt_f (gd_of (t := 9) (by kernel_rfl) rfl)) (fun hg => (Y_fieldAddr (B := some ⟨b, 0, none⟩) (i := 0) (s := 0) k_fd_50_1_1_3 k_sz_3_1 rfl rfl)) ?_
  refine sgq 11 (B := (!(!r_1))) (v := .int .i64 p.Phase) rfl rfl (wt_f (gd_of (t := 9) (by kernel_rfl) rfl)) (fun hg1 => (Y_load1 (B := some ⟨b, 0, none⟩) (i := 1) (cs := [.int .i64 p.Qubits, .int .i64 p.Phase, .slice B p.Terms.length c, .slice B1 p.Out.Rows.length c1]) (v := .int .i64 p.Phase) k_sc_3 rfl (gv_of (B := (!(!r_1))) (v := pt (some ⟨b, 0, none⟩) 1) hg1) (hS2.cf (i := 0) rfl) rfl)) ?_
  obtain ⟨r_2, hc1, hF⟩ := bind_inv hF
  refine sgc 12 (B := (!(!r_1))) (v := .bool r_2) (F := hS2.fn) rfl rfl (wt_f (gd_of (t := 9) (by kernel_rfl) rfl)) hS2 (fun hg2 => (Yc_func (g := 29) (vs := [.int .i64 p.Phase, .int .i64 0, .int .i64 7]) k_call_29 rfl (mc (gv_of (B := (!(!r_1))) (v := .int .i64 p.Phase) hg2) (mc rfl (mc rfl mn))) (CV.mono (c_spec_l1In p.Phase 0 7 _  (hS2.inn0 [] rfl) (gb_inv hc1 hg2)) (by rintro _ _ ⟨rfl, h⟩; exact ⟨rfl, hS2.out00 h⟩)))) ?_
  rintro w_2 hS3
  have hS3 : ST _ _ w_2 _ _ := hS3
  refine sgq 13 (B := (!(!r_1))) (v := .bool (!r_2)) rfl rfl (wt_f (gd_of (t := 9) (by kernel_rfl) rfl)) (fun hg3 => (Y_not (p := r_2) rfl (gv_of (B := (!(!r_1))) (v := .bool r_2) hg3))) ?_
  refine sq 14 rfl rfl (Y_or (b := (!r_1)) (z := (!r_2)) rfl rfl rfl rfl) ?_
  refine sq 15 rfl rfl (Y_move (v := .bool ((!r_1) || (!r_2))) rfl rfl) ?_
  refine sgq 16 (B := (!((!r_1) || (!r_2)))) (v := pt (some ⟨b, 0, none⟩) 3) rfl rfl (wt_f (gd_of (t := 15) (by kernel_rfl) rfl)) (fun hg4 => (Y_fieldAddr (B := some ⟨b, 0, none⟩) (i := 0) (s := 0) k_fd_50_3_3_48 k_sz_48_1 rfl rfl)) ?_
  refine sgq 17 (B := (!((!r_1) || (!r_2)))) (v := pt (some ⟨b, 0, none⟩) 3) rfl rfl (wt_f (gd_of (t := 15) (by kernel_rfl) rfl)) (fun hg5 => (Y_fieldAddr (B := some ⟨b, 0, none⟩) (i := 3) (s := 0) k_fd_48_0_0_41 k_sz_41_1 rfl (gv_of (B := (!((!r_1) || (!r_2)))) (v := pt (some ⟨b, 0, none⟩) 3) hg5))) ?_
  refine sgq 18 (B := (!((!r_1) || (!r_2)))) (v := .slice B1 p.Out.Rows.length c1) rfl rfl (wt_f (gd_of (t := 15) (by kernel_rfl) rfl)) (fun hg6 => (Y_load1 (B := some ⟨b, 0, none⟩) (i := 3) (cs := [.int .i64 p.Qubits, .int .i64 p.Phase, .slice B p.Terms.length c, .slice B1 p.Out.Rows.length c1]) (v := .slice B1 p.Out.Rows.length c1) k_sc_41 rfl (gv_of (B := (!((!r_1) || (!r_2)))) (v := pt (some ⟨b, 0, none⟩) 3) hg6) (hS3.cf (i := 0) rfl) rfl)) ?_
  refine sgq 19 (B := (!((!r_1) || (!r_2)))) (v := .int .i64 (p.Out.Rows.length : Int)) rfl rfl (wt_f (gd_of (t := 15) (by kernel_rfl) rfl)) (fun hg7 => (Y_len (B := B1) (m := p.Out.Rows.length) (c := c1) k_sl_41_3 rfl (gv_of (B := (!((!r_1) || (!r_2)))) (v := .slice B1 p.Out.Rows.length c1) hg7))) ?_
  refine sgq 20 (B := (!((!r_1) || (!r_2)))) (v := pt (some ⟨b, 0, none⟩) 0) rfl rfl (wt_f (gd_of (t := 15) (by kernel_rfl) rfl)) (fun hg8 => (Y_fieldAddr (B := some ⟨b, 0, none⟩) (i := 0) (s := 0) k_fd_50_0_0_3 k_sz_3_1 rfl rfl)) ?_
  refine sgq 21 (B := (!((!r_1) || (!r_2)))) (v := .int .i64 p.Qubits) rfl rfl (wt_f (gd_of (t := 15) (by kernel_rfl) rfl)) (fun hg9 => (Y_load1 (B := some ⟨b, 0, none⟩) (i := 0) (cs := [.int .i64 p.Qubits, .int .i64 p.Phase, .slice B p.Terms.length c, .slice B1 p.Out.Rows.length c1]) (v := .int .i64 p.Qubits) k_sc_3 rfl (gv_of (B := (!((!r_1) || (!r_2)))) (v := pt (some ⟨b, 0, none⟩) 0) hg9) (hS3.cf (i := 0) rfl) rfl)) ?_
  refine sgq 22 (B := (!((!r_1) || (!r_2)))) (v := .bool ((p.Out.Rows.length : Int) != p.Qubits)) rfl rfl (wt_f (gd_of (t := 15) (by kernel_rfl) rfl)) (fun hg10 => (Y_ne (k := .i64) (a := (p.Out.Rows.length : Int)) (b := p.Qubits) rfl (gv_of (B := (!((!r_1) || (!r_2)))) (v := .int .i64 (p.Out.Rows.length : Int)) hg10) (gv_of (B := (!((!r_1) || (!r_2)))) (v := .int .i64 p.Qubits) hg10))) ?_
  refine sq 23 rfl rfl (Y_or (b := ((!r_1) || (!r_2))) (z := ((p.Out.Rows.length : Int) != p.Qubits)) rfl rfl rfl rfl) ?_
  refine sq 24 rfl rfl (Y_move (v := .bool (((!r_1) || (!r_2)) || ((p.Out.Rows.length : Int) != p.Qubits))) rfl rfl) ?_
  refine sgq 25 (B := (!(((!r_1) || (!r_2)) || ((p.Out.Rows.length : Int) != p.Qubits)))) (v := pt (some ⟨b, 0, none⟩) 3) rfl rfl (wt_f (gd_of (t := 24) (by kernel_rfl) rfl)) (fun hg11 => (Y_fieldAddr (B := some ⟨b, 0, none⟩) (i := 0) (s := 0) k_fd_50_3_3_48 k_sz_48_1 rfl rfl)) ?_
  refine sgq 26 (B := (!(((!r_1) || (!r_2)) || ((p.Out.Rows.length : Int) != p.Qubits)))) (v := .agg #[.slice B1 p.Out.Rows.length c1]) rfl rfl (wt_f (gd_of (t := 24) (by kernel_rfl) rfl)) (fun hg12 => (Y_loadA (B := some ⟨b, 0, none⟩) (i := 3) (cs := [.int .i64 p.Qubits, .int .i64 p.Phase, .slice B p.Terms.length c, .slice B1 p.Out.Rows.length c1]) (vs := [.slice B1 p.Out.Rows.length c1]) k_ag_48 k_sz_48_1 rfl (gv_of (B := (!(((!r_1) || (!r_2)) || ((p.Out.Rows.length : Int) != p.Qubits)))) (v := pt (some ⟨b, 0, none⟩) 3) hg12) (hS3.cf (i := 0) rfl) rfl rfl)) ?_
  obtain ⟨r_3, hc2, hF⟩ := bind_inv hF
  refine sgc 27 (B := (!(((!r_1) || (!r_2)) || ((p.Out.Rows.length : Int) != p.Qubits)))) (v := .bool r_3) (F := hS3.fn) rfl rfl (wt_f (gd_of (t := 24) (by kernel_rfl) rfl)) hS3 (fun hg13 => (Yc_func (g := 93) (vs := [.agg #[.slice B1 p.Out.Rows.length c1]]) k_call_93 rfl (mc (gv_of (B := (!(((!r_1) || (!r_2)) || ((p.Out.Rows.length : Int) != p.Qubits)))) (v := .agg #[.slice B1 p.Out.Rows.length c1]) hg13) mn) (CV.mono (c_spec_l12Valid p.Out B1 c1 p.Out.Rows.length _ rfl (hS3.inn0 [(true, 1)] rfl) (gb_inv hc2 hg13)) (by rintro _ _ ⟨rfl, h⟩; exact ⟨rfl, hS3.out00 h⟩)))) ?_
  rintro w_3 hS4
  have hS4 : ST _ _ w_3 _ _ := hS4
  refine sgq 28 (B := (!(((!r_1) || (!r_2)) || ((p.Out.Rows.length : Int) != p.Qubits)))) (v := .bool (!r_3)) rfl rfl (wt_f (gd_of (t := 24) (by kernel_rfl) rfl)) (fun hg14 => (Y_not (p := r_3) rfl (gv_of (B := (!(((!r_1) || (!r_2)) || ((p.Out.Rows.length : Int) != p.Qubits)))) (v := .bool r_3) hg14))) ?_
  refine sq 29 rfl rfl (Y_or (b := (((!r_1) || (!r_2)) || ((p.Out.Rows.length : Int) != p.Qubits))) (z := (!r_3)) rfl rfl rfl rfl) ?_
  refine rw_nil ?_
  refine cw_cond (b := ((((!r_1) || (!r_2)) || ((p.Out.Rows.length : Int) != p.Qubits)) || (!r_3))) rfl (fun hb => ?_) (fun hb => ?_)
  · skip
    have hF1 := ct hF hb
    refine cw_seq ?_
    refine cw_region ?_
    refine sq 2 rfl rfl (Y_assign (v := .bool false) rfl rfl) ?_
    refine rw_nil ?_
    refine cw_ret ?_
    obtain rfl := some_inj hF1
    exact ret1 Try.results47 (v1 := .bool false) (resAt_tmp rfl) ⟨rfl, (ST.subR (R' := []) (hS4.sel [] rfl rfl) (fun _ h => by cases h))⟩
  · skip
    have hF2 := cf' hF hb
    refine cw_skip ?_
    refine cw_seq ?_
    refine cw_seq ?_
    refine cw_region ?_
    refine sq 30 rfl rfl (Y_fieldAddr (B := some ⟨b, 0, none⟩) (i := 0) (s := 0) k_fd_50_2_2_47 k_sz_47_1 rfl rfl) ?_
    refine sq 31 rfl rfl (Y_load1 (B := some ⟨b, 0, none⟩) (i := 2) (cs := [.int .i64 p.Qubits, .int .i64 p.Phase, .slice B p.Terms.length c, .slice B1 p.Out.Rows.length c1]) (v := .slice B p.Terms.length c) k_sc_47 rfl rfl (hS4.cf (i := 0) rfl) rfl) ?_
    refine sq 32 rfl rfl (Y_len (B := B) (m := p.Terms.length) (c := c) k_sl_47_95 rfl rfl) ?_
    refine sq 33 rfl rfl (Y_move (v := .int .i64 0) rfl rfl) ?_
    refine rw_nil ?_
    obtain ⟨hN, hF2⟩ := chk_inv hF2
    obtain ⟨z, hz, hF3⟩ := bind_inv hF2
    refine cw_block ?_
    refine cw_loop (fun k f w => ∃ (i : Nat), FF f [(1, pt (some ⟨b, 0, none⟩) 0), (31, .slice B p.Terms.length c), (32, .int .i64 (p.Terms.length : Int)), (33, .int .i64 (i : Int))] ∧ ST w0 [] w [⟨some ⟨b, 0, none⟩, 50, [.int .i64 p.Qubits, .int .i64 p.Phase, .slice B p.Terms.length c, .slice B1 p.Out.Rows.length c1], 4⟩] [⟨B, (p.Terms.flatMap enc_Term)⟩, ⟨B1, (p.Out.Rows.flatMap encI)⟩] ∧ i + k = p.Terms.length ∧ forX (F_spec_l13Valid_l1 p) k i () = some z) p.Terms.length ⟨0, (FF.cons rfl (FF.cons rfl (FF.cons rfl (FF.cons rfl FF.nil)))), (hS4.sel [0] rfl rfl), Nat.zero_add _, hz⟩ ?_
    rintro k_ f w ⟨i, hf, hS5, hik, hL⟩
    refine cw_seq ?_
    refine cw_region ?_
    refine sq 34 rfl rfl (Y_lt (k := .i64) (a := (i : Int)) (b := (p.Terms.length : Int)) rfl (hf.get 33 3 rfl) (hf.get 32 2 rfl)) ?_
    refine rw_nil ?_
    refine cw_seq ?_
    refine cw_cond (b := (decide ((i : Int) < (p.Terms.length : Int)))) rfl (fun hlt => ?_) (fun hlt => ?_)
    · skip
      have hlt1 : i < p.Terms.length := by have h := of_decide_eq_true hlt; omega
      obtain ⟨k_1, rfl⟩ : ∃ k2, k_ = k2 + 1 := ⟨k_ - 1, by omega⟩
      obtain ⟨y, hb1, hL1⟩ := forX_go hL
      unfold F_spec_l13Valid_l1 at hb1
      refine cw_skip ?_
      refine cw_seq ?_
      refine cw_block ?_
      refine cw_seq ?_
      refine cw_region ?_
      refine sq 35 rfl rfl (Y_move (v := .int .i64 (i : Int)) rfl (hf.get 33 3 rfl)) ?_
      obtain ⟨x, hx, hb1⟩ := bind_inv hb1
      refine sq 36 rfl rfl (Y_index (B := B) (m := p.Terms.length) (c := c) (k := .i64) (i := (i : Int)) k_sl_47_95 k_sz_95_2 rfl (hf.get 31 1 rfl) (hf.get 33 3 rfl) (gi_isSome enc_Term_len rfl (hS5.rf (i := 0) rfl) hx) (getI_nn hx) (getI_ltI hx rfl)) ?_
      refine sq 37 rfl rfl (Y_loadA (B := B) (i := (i : Int).toNat * 2) (cs := (p.Terms.flatMap enc_Term)) (vs := [.int .i64 x.Mask, .int .i64 x.Coef]) k_ag_95 k_sz_95_2 rfl rfl (hS5.rf (i := 0) rfl) (enc_Term_len x) (gi_seg enc_Term_len hx)) ?_
      refine ss 4 rfl rfl (Ys_alloc (T := 95) (cs := [.int .i64 0, .int .i64 0]) (m := 2) hS5 k_zero_95 rfl rfl rfl) ?_
      rintro _ w_4 ⟨b1, rfl, hS6⟩
      have hS6 : ST w0 [] _ [⟨some ⟨b, 0, none⟩, 50, [.int .i64 p.Qubits, .int .i64 p.Phase, .slice B p.Terms.length c, .slice B1 p.Out.Rows.length c1], 4⟩, ⟨some ⟨b1, 0, none⟩, 95, [.int .i64 0, .int .i64 0], 2⟩] [⟨B, (p.Terms.flatMap enc_Term)⟩, ⟨B1, (p.Out.Rows.flatMap encI)⟩] := hS6
      refine sq 3 rfl rfl (Y_assign (v := .int .i64 (i : Int)) rfl rfl) ?_
      refine ss0 rfl rfl (Ys_store (i := 1) (s := 2) (B := some ⟨b1, 0, none⟩) (T' := 95) (v := .agg #[.int .i64 x.Mask, .int .i64 x.Coef]) (vs := [.int .i64 x.Mask, .int .i64 x.Coef]) (k := 0) (cs' := [.int .i64 x.Mask, .int .i64 x.Coef]) hS6 k_sz_95_2 rfl rfl rfl rfl rfl rfl rfl (Nat.le_of_ble_eq_true rfl) rfl rfl) ?_
      rintro _ w_5 ⟨rfl, hS7⟩
      have hS7 : ST w0 [] _ [⟨some ⟨b, 0, none⟩, 50, [.int .i64 p.Qubits, .int .i64 p.Phase, .slice B p.Terms.length c, .slice B1 p.Out.Rows.length c1], 4⟩, ⟨some ⟨b1, 0, none⟩, 95, [.int .i64 x.Mask, .int .i64 x.Coef], 2⟩] [⟨B, (p.Terms.flatMap enc_Term)⟩, ⟨B1, (p.Out.Rows.flatMap encI)⟩] := hS7
      refine rw_nil ?_
      refine cw_seq ?_
      obtain ⟨hsh, hb1⟩ := chk_inv hb1
      obtain ⟨r_4, hc3, hb1⟩ := bind_inv hb1
      obtain ⟨r_5, hc4, hb1⟩ := bind_inv hb1
      obtain ⟨x1, hx1, hb1⟩ := bind_inv hb1
      refine ra_start (ST.sel hS7 [0, 1] rfl rfl).fn (by kernel_rfl) ?_
      have hS10 := hS7.drew
      refine ra_q 0 38 (v := pt (some ⟨b1, 0, none⟩) 0) rfl rfl rfl (by kernel_rfl) (by kernel_rfl) (by kernel_rfl) (ST.sel hS10 [0, 1] rfl rfl) (fun w' hw' => (Y_fieldAddr (B := some ⟨b1, 0, none⟩) (i := 0) (s := 0) k_fd_95_0_0_3 k_sz_3_1 rfl rfl)) ?_
      refine ra_q 1 39 (v := .int .i64 x.Mask) rfl rfl rfl (by kernel_rfl) (by kernel_rfl) (by kernel_rfl) (ST.sel hS10 [0, 1] rfl rfl) (fun w' hw' => (Y_load1 (B := some ⟨b1, 0, none⟩) (i := 0) (cs := [.int .i64 x.Mask, .int .i64 x.Coef]) (v := .int .i64 x.Mask) k_sc_3 rfl rfl (ST.cf hw' (i := 1) rfl) rfl)) ?_
      refine ra_q 2 40 (v := pt (some ⟨b, 0, none⟩) 0) rfl rfl rfl (by kernel_rfl) (by kernel_rfl) (by kernel_rfl) (ST.sel hS10 [0, 1] rfl rfl) (fun w' hw' => (Y_fieldAddr (B := some ⟨b, 0, none⟩) (i := 0) (s := 0) k_fd_50_0_0_3 k_sz_3_1 rfl (hf.get 1 0 rfl))) ?_
      refine ra_q 3 41 (v := .int .i64 p.Qubits) rfl rfl rfl (by kernel_rfl) (by kernel_rfl) (by kernel_rfl) (ST.sel hS10 [0, 1] rfl rfl) (fun w' hw' => (Y_load1 (B := some ⟨b, 0, none⟩) (i := 0) (cs := [.int .i64 p.Qubits, .int .i64 p.Phase, .slice B p.Terms.length c, .slice B1 p.Out.Rows.length c1]) (v := .int .i64 p.Qubits) k_sc_3 rfl rfl (ST.cf hw' (i := 0) rfl) rfl)) ?_
      refine ra_q 4 42 (v := .int .u64 (IntKind.u64.wrap p.Qubits)) rfl rfl rfl (by kernel_rfl) (by kernel_rfl) (by kernel_rfl) (ST.sel hS10 [0, 1] rfl rfl) (fun w' hw' => (Y_conv (k := .i64) (a := p.Qubits) (T := 3) (T' := 66) k_us_3 k_int_66_u64 rfl rfl)) ?_
      refine ra_q 5 43 (v := .int .i64 (shlK .i64 1 (IntKind.u64.wrap p.Qubits))) rfl rfl rfl (by kernel_rfl) (by kernel_rfl) (by kernel_rfl) (ST.sel hS10 [0, 1] rfl rfl) (fun w' hw' => (Y_shl (k := .i64) (a := 1) (k' := .u64) (b := (IntKind.u64.wrap p.Qubits)) rfl rfl rfl hsh)) ?_
      refine ra_q 6 44 (v := .int .i64 (IntKind.i64.wrap ((shlK .i64 1 (IntKind.u64.wrap p.Qubits)) - 1))) rfl rfl rfl (by kernel_rfl) (by kernel_rfl) (by kernel_rfl) (ST.sel hS10 [0, 1] rfl rfl) (fun w' hw' => (Y_sub (k := .i64) (a := (shlK .i64 1 (IntKind.u64.wrap p.Qubits))) (b := 1) rfl rfl rfl)) ?_
      refine ra_all (rs := [7]) (by kernel_rfl) rfl ?_
      refine ra_c 45 (i := 7) rfl rfl rfl (Yc_func (g := 29) (vs := [.int .i64 x.Mask, .int .i64 1, .int .i64 (IntKind.i64.wrap ((shlK .i64 1 (IntKind.u64.wrap p.Qubits)) - 1))]) k_call_29 rfl (mc rfl (mc rfl (mc rfl mn))) (c_spec_l1In x.Mask 1 (IntKind.i64.wrap ((shlK .i64 1 (IntKind.u64.wrap p.Qubits)) - 1)) _  (hS10.inn0 [] rfl) hc3)) ?_ ?_
      · rintro _ w_6 ⟨rfl, hd1⟩
        have hS11 := hS10.out00 hd1
        have hS11 : ST w0 [] _ [⟨some ⟨b, 0, none⟩, 50, [.int .i64 p.Qubits, .int .i64 p.Phase, .slice B p.Terms.length c, .slice B1 p.Out.Rows.length c1], 4⟩, ⟨some ⟨b1, 0, none⟩, 95, [.int .i64 x.Mask, .int .i64 x.Coef], 2⟩] [⟨B, (p.Terms.flatMap enc_Term)⟩, ⟨B1, (p.Out.Rows.flatMap encI)⟩] := hS11
        refine ⟨(ST.sel hS11 [0, 1] rfl rfl), ?_⟩
        refine ra_q 8 46 (v := .bool (!r_4)) rfl rfl rfl (by kernel_rfl) (by kernel_rfl) (by kernel_rfl) (ST.sel hS11 [0, 1] rfl rfl) (fun w' hw' => (Y_not (p := r_4) rfl rfl)) ?_
        refine ra_q 9 47 (v := .bool (!r_4)) rfl rfl rfl (by kernel_rfl) (by kernel_rfl) (by kernel_rfl) (ST.sel hS11 [0, 1] rfl rfl) (fun w' hw' => (Y_move (v := .bool (!r_4)) rfl rfl)) ?_
        refine ra_gq 10 48 (B := (!(!r_4))) (v := pt (some ⟨b1, 0, none⟩) 1) rfl rfl rfl (wt_f (gd_of (t := 47) (by kernel_rfl) rfl)) (by kernel_rfl) (by kernel_rfl) (by kernel_rfl) (ST.sel hS11 [0, 1] rfl rfl) (fun hg15 w' hw' => (Y_fieldAddr (B := some ⟨b1, 0, none⟩) (i := 0) (s := 0) k_fd_95_1_1_3 k_sz_3_1 rfl rfl)) ?_
        refine ra_gq 11 49 (B := (!(!r_4))) (v := .int .i64 x.Coef) rfl rfl rfl (wt_f (gd_of (t := 47) (by kernel_rfl) rfl)) (by kernel_rfl) (by kernel_rfl) (by kernel_rfl) (ST.sel hS11 [0, 1] rfl rfl) (fun hg16 w' hw' => (Y_load1 (B := some ⟨b1, 0, none⟩) (i := 1) (cs := [.int .i64 x.Mask, .int .i64 x.Coef]) (v := .int .i64 x.Coef) k_sc_3 rfl (gv_of (B := (!(!r_4))) (v := pt (some ⟨b1, 0, none⟩) 1) hg16) (ST.cf hw' (i := 1) rfl) rfl)) ?_
        refine ra_all (rs := [12]) (by kernel_rfl) rfl ?_
        refine ra_gc 50 (i := 12) (B := (!(!r_4))) (v := .bool r_5) (F := hS11.fn) rfl rfl rfl (wt_f (gd_of (t := 47) (by kernel_rfl) rfl)) hS11 (fun hg17 => (Yc_func (g := 29) (vs := [.int .i64 x.Coef, .int .i64 1, .int .i64 7]) k_call_29 rfl (mc (gv_of (B := (!(!r_4))) (v := .int .i64 x.Coef) hg17) (mc rfl (mc rfl mn))) (CV.mono (c_spec_l1In x.Coef 1 7 _  (hS11.inn0 [] rfl) (gb_inv hc4 hg17)) (by rintro _ _ ⟨rfl, h⟩; exact ⟨rfl, hS11.out00 h⟩)))) ?_ ?_
        · rintro w_7 hS12
          have hS12 : ST _ _ w_7 _ _ := hS12
          refine ⟨(ST.sel hS12 [0, 1] rfl rfl), ?_⟩
          refine ra_gq 13 51 (B := (!(!r_4))) (v := .bool (!r_5)) rfl rfl rfl (wt_f (gd_of (t := 47) (by kernel_rfl) rfl)) (by kernel_rfl) (by kernel_rfl) (by kernel_rfl) (ST.sel hS12 [0, 1] rfl rfl) (fun hg18 w' hw' => (Y_not (p := r_5) rfl (gv_of (B := (!(!r_4))) (v := .bool r_5) hg18))) ?_
          refine ra_q 14 52 (v := .bool ((!r_4) || (!r_5))) rfl rfl rfl (by kernel_rfl) (by kernel_rfl) (by kernel_rfl) (ST.sel hS12 [0, 1] rfl rfl) (fun w' hw' => (Y_or (b := (!r_4)) (z := (!r_5)) rfl rfl rfl rfl)) ?_
          refine ra_q 15 53 (v := .bool ((!r_4) || (!r_5))) rfl rfl rfl (by kernel_rfl) (by kernel_rfl) (by kernel_rfl) (ST.sel hS12 [0, 1] rfl rfl) (fun w' hw' => (Y_move (v := .bool ((!r_4) || (!r_5))) rfl rfl)) ?_
          refine ra_gq 16 54 (B := (!((!r_4) || (!r_5)))) (v := .int .i64 (i : Int)) rfl rfl rfl (wt_f (gd_of (t := 53) (by kernel_rfl) rfl)) (by kernel_rfl) (by kernel_rfl) (by kernel_rfl) (ST.sel hS12 [0, 1] rfl rfl) (fun hg19 w' hw' => (Y_move (v := .int .i64 (i : Int)) rfl rfl)) ?_
          refine ra_gq 17 55 (B := (!((!r_4) || (!r_5)))) (v := .bool (decide (0 < (i : Int)))) rfl rfl rfl (wt_f (gd_of (t := 53) (by kernel_rfl) rfl)) (by kernel_rfl) (by kernel_rfl) (by kernel_rfl) (ST.sel hS12 [0, 1] rfl rfl) (fun hg20 w' hw' => (Y_gt (k := .i64) (a := (i : Int)) (b := 0) rfl (gv_of (B := (!((!r_4) || (!r_5)))) (v := .int .i64 (i : Int)) hg20) rfl)) ?_
          refine ra_gq 18 56 (B := (!((!r_4) || (!r_5)))) (v := .bool (decide (0 < (i : Int)))) rfl rfl rfl (wt_f (gd_of (t := 53) (by kernel_rfl) rfl)) (by kernel_rfl) (by kernel_rfl) (by kernel_rfl) (ST.sel hS12 [0, 1] rfl rfl) (fun hg21 w' hw' => (Y_move (v := .bool (decide (0 < (i : Int)))) rfl (gv_of (B := (!((!r_4) || (!r_5)))) (v := .bool (decide (0 < (i : Int)))) hg21))) ?_
          refine ra_gq 19 57 (B := ((!((!r_4) || (!r_5))) && (decide (0 < (i : Int))))) (v := pt (some ⟨b, 0, none⟩) 2) rfl rfl rfl (wt_gt (gd_of (t := 56) (by kernel_rfl) rfl)) (by kernel_rfl) (by kernel_rfl) (by kernel_rfl) (ST.sel hS12 [0, 1] rfl rfl) (fun hg22 w' hw' => (Y_fieldAddr (B := some ⟨b, 0, none⟩) (i := 0) (s := 0) k_fd_50_2_2_47 k_sz_47_1 rfl (hf.get 1 0 rfl))) ?_
          refine ra_gq 20 58 (B := ((!((!r_4) || (!r_5))) && (decide (0 < (i : Int))))) (v := .slice B p.Terms.length c) rfl rfl rfl (wt_gt (gd_of (t := 56) (by kernel_rfl) rfl)) (by kernel_rfl) (by kernel_rfl) (by kernel_rfl) (ST.sel hS12 [0, 1] rfl rfl) (fun hg23 w' hw' => (Y_load1 (B := some ⟨b, 0, none⟩) (i := 2) (cs := [.int .i64 p.Qubits, .int .i64 p.Phase, .slice B p.Terms.length c, .slice B1 p.Out.Rows.length c1]) (v := .slice B p.Terms.length c) k_sc_47 rfl (gv_of (B := ((!((!r_4) || (!r_5))) && (decide (0 < (i : Int))))) (v := pt (some ⟨b, 0, none⟩) 2) hg23) (ST.cf hw' (i := 0) rfl) rfl)) ?_
          refine ra_gq 21 59 (B := ((!((!r_4) || (!r_5))) && (decide (0 < (i : Int))))) (v := .int .i64 (i : Int)) rfl rfl rfl (wt_gt (gd_of (t := 56) (by kernel_rfl) rfl)) (by kernel_rfl) (by kernel_rfl) (by kernel_rfl) (ST.sel hS12 [0, 1] rfl rfl) (fun hg24 w' hw' => (Y_move (v := .int .i64 (i : Int)) rfl rfl)) ?_
          refine ra_gq 22 60 (B := ((!((!r_4) || (!r_5))) && (decide (0 < (i : Int))))) (v := .int .i64 (IntKind.i64.wrap ((i : Int) - 1))) rfl rfl rfl (wt_gt (gd_of (t := 56) (by kernel_rfl) rfl)) (by kernel_rfl) (by kernel_rfl) (by kernel_rfl) (ST.sel hS12 [0, 1] rfl rfl) (fun hg25 w' hw' => (Y_sub (k := .i64) (a := (i : Int)) (b := 1) rfl (gv_of (B := ((!((!r_4) || (!r_5))) && (decide (0 < (i : Int))))) (v := .int .i64 (i : Int)) hg25) rfl)) ?_
          refine ra_gq 23 61 (B := ((!((!r_4) || (!r_5))) && (decide (0 < (i : Int))))) (v := pt B ((IntKind.i64.wrap ((i : Int) - 1)).toNat * 2)) rfl rfl rfl (wt_gt (gd_of (t := 56) (by kernel_rfl) rfl)) (by kernel_rfl) (by kernel_rfl) (by kernel_rfl) (ST.sel hS12 [0, 1] rfl rfl) (fun hg26 w' hw' => (Y_index (B := B) (m := p.Terms.length) (c := c) (k := .i64) (i := (IntKind.i64.wrap ((i : Int) - 1))) k_sl_47_95 k_sz_95_2 rfl (gv_of (B := ((!((!r_4) || (!r_5))) && (decide (0 < (i : Int))))) (v := .slice B p.Terms.length c) hg26) (gv_of (B := ((!((!r_4) || (!r_5))) && (decide (0 < (i : Int))))) (v := .int .i64 (IntKind.i64.wrap ((i : Int) - 1))) hg26) (gi_isSome enc_Term_len rfl (ST.rf hw' (i := 0) rfl) (gb_inv hx1 hg26)) (getI_nn (gb_inv hx1 hg26)) (getI_ltI (gb_inv hx1 hg26) rfl))) ?_
          refine ra_gq 24 62 (B := ((!((!r_4) || (!r_5))) && (decide (0 < (i : Int))))) (v := pt B ((IntKind.i64.wrap ((i : Int) - 1)).toNat * 2 + 0)) rfl rfl rfl (wt_gt (gd_of (t := 56) (by kernel_rfl) rfl)) (by kernel_rfl) (by kernel_rfl) (by kernel_rfl) (ST.sel hS12 [0, 1] rfl rfl) (fun hg27 w' hw' => (Y_fieldAddr (B := B) (i := (IntKind.i64.wrap ((i : Int) - 1)).toNat * 2) (s := 0) k_fd_95_0_0_3 k_sz_3_1 rfl (gv_of (B := ((!((!r_4) || (!r_5))) && (decide (0 < (i : Int))))) (v := pt B ((IntKind.i64.wrap ((i : Int) - 1)).toNat * 2)) hg27))) ?_
          refine ra_gq 25 63 (B := ((!((!r_4) || (!r_5))) && (decide (0 < (i : Int))))) (v := .int .i64 x1.Mask) rfl rfl rfl (wt_gt (gd_of (t := 56) (by kernel_rfl) rfl)) (by kernel_rfl) (by kernel_rfl) (by kernel_rfl) (ST.sel hS12 [0, 1] rfl rfl) (fun hg28 w' hw' => (Y_load1 (B := B) (i := (IntKind.i64.wrap ((i : Int) - 1)).toNat * 2 + 0) (cs := (p.Terms.flatMap enc_Term)) (v := .int .i64 x1.Mask) k_sc_3 rfl (gv_of (B := ((!((!r_4) || (!r_5))) && (decide (0 < (i : Int))))) (v := pt B ((IntKind.i64.wrap ((i : Int) - 1)).toNat * 2 + 0)) hg28) (ST.rf hw' (i := 0) rfl) (gi_at enc_Term_len (gb_inv hx1 hg28) rfl))) ?_
          refine ra_gq 26 64 (B := ((!((!r_4) || (!r_5))) && (decide (0 < (i : Int))))) (v := pt (some ⟨b1, 0, none⟩) 0) rfl rfl rfl (wt_gt (gd_of (t := 56) (by kernel_rfl) rfl)) (by kernel_rfl) (by kernel_rfl) (by kernel_rfl) (ST.sel hS12 [0, 1] rfl rfl) (fun hg29 w' hw' => (Y_fieldAddr (B := some ⟨b1, 0, none⟩) (i := 0) (s := 0) k_fd_95_0_0_3 k_sz_3_1 rfl rfl)) ?_
          refine ra_gq 27 65 (B := ((!((!r_4) || (!r_5))) && (decide (0 < (i : Int))))) (v := .int .i64 x.Mask) rfl rfl rfl (wt_gt (gd_of (t := 56) (by kernel_rfl) rfl)) (by kernel_rfl) (by kernel_rfl) (by kernel_rfl) (ST.sel hS12 [0, 1] rfl rfl) (fun hg30 w' hw' => (Y_load1 (B := some ⟨b1, 0, none⟩) (i := 0) (cs := [.int .i64 x.Mask, .int .i64 x.Coef]) (v := .int .i64 x.Mask) k_sc_3 rfl (gv_of (B := ((!((!r_4) || (!r_5))) && (decide (0 < (i : Int))))) (v := pt (some ⟨b1, 0, none⟩) 0) hg30) (ST.cf hw' (i := 1) rfl) rfl)) ?_
          refine ra_gq 28 66 (B := ((!((!r_4) || (!r_5))) && (decide (0 < (i : Int))))) (v := .bool (decide (x.Mask ≤ x1.Mask))) rfl rfl rfl (wt_gt (gd_of (t := 56) (by kernel_rfl) rfl)) (by kernel_rfl) (by kernel_rfl) (by kernel_rfl) (ST.sel hS12 [0, 1] rfl rfl) (fun hg31 w' hw' => (Y_ge (k := .i64) (a := x1.Mask) (b := x.Mask) rfl (gv_of (B := ((!((!r_4) || (!r_5))) && (decide (0 < (i : Int))))) (v := .int .i64 x1.Mask) hg31) (gv_of (B := ((!((!r_4) || (!r_5))) && (decide (0 < (i : Int))))) (v := .int .i64 x.Mask) hg31))) ?_
          refine ra_gq 29 67 (B := (!((!r_4) || (!r_5)))) (v := .bool ((decide (0 < (i : Int))) && (decide (x.Mask ≤ x1.Mask)))) rfl rfl rfl (wt_f (gd_of (t := 53) (by kernel_rfl) rfl)) (by kernel_rfl) (by kernel_rfl) (by kernel_rfl) (ST.sel hS12 [0, 1] rfl rfl) (fun hg32 w' hw' => (Y_and (b := (decide (0 < (i : Int)))) (z := (decide (x.Mask ≤ x1.Mask))) rfl (gv_of (B := (!((!r_4) || (!r_5)))) (v := .bool (decide (0 < (i : Int)))) hg32) (gv_and (B := (!((!r_4) || (!r_5)))) (C := (decide (0 < (i : Int)))) (v := .bool (decide (x.Mask ≤ x1.Mask))) hg32) rfl)) ?_
          refine ra_q 30 68 (v := .bool (((!r_4) || (!r_5)) || ((decide (0 < (i : Int))) && (decide (x.Mask ≤ x1.Mask))))) rfl rfl rfl (by kernel_rfl) (by kernel_rfl) (by kernel_rfl) (ST.sel hS12 [0, 1] rfl rfl) (fun w' hw' => (Y_or (b := ((!r_4) || (!r_5))) (z := ((decide (0 < (i : Int))) && (decide (x.Mask ≤ x1.Mask)))) rfl rfl rfl rfl)) ?_
          refine ra_done (by kernel_rfl) ?_
          refine cw_cond (b := (((!r_4) || (!r_5)) || ((decide (0 < (i : Int))) && (decide (x.Mask ≤ x1.Mask))))) rfl (fun hb2 => ?_) (fun hb2 => ?_)
          · skip
            have hF4 := ct hb1 hb2
            refine cw_seq ?_
            refine cw_region ?_
            refine sq 2 rfl rfl (Y_assign (v := .bool false) rfl rfl) ?_
            refine rw_nil ?_
            refine cw_ret ?_
            obtain rfl := some_inj hF4
            obtain rfl := some_inj hL1
            obtain rfl := some_inj hF3
            exact ret1 Try.results47 (v1 := .bool false) (resAt_tmp rfl) ⟨rfl, (ST.subR (R' := []) (hS12.sel [] rfl rfl) (fun _ h => by cases h))⟩
          · skip
            have hF5 := cf' hb1 hb2
            refine cw_skip ?_
            refine cw_region ?_
            refine sq 69 rfl rfl (Y_add (k := .i64) (a := (i : Int)) (b := 1) rfl (hf.get 33 3 rfl) rfl) ?_
            refine sq 33 rfl rfl (Y_move (v := .int .i64 (IntKind.i64.wrap ((i : Int) + 1))) rfl rfl) ?_
            refine rw_nil ?_
            obtain rfl := some_inj hF5
            exact ⟨k_1, Nat.lt_succ_self _, i + 1, (FF.cons (hf.get 1 0 rfl) (FF.cons (hf.get 31 1 rfl) (FF.cons (hf.get 32 2 rfl) (FF.cons (congrArg (Value.int .i64) (wr_succ hlt1 hN)) FF.nil)))), (hS12.sel [0] rfl rfl), (by omega), hL1⟩
        exact allR_nil
      exact allR_nil
    · skip
      obtain rfl : k_ = 0 := by have h := of_decide_eq_false hlt; omega
      refine cw_exit rfl ?_
      obtain rfl := some_inj hL
      refine cw_seq ?_
      refine cw_region ?_
      refine sq 2 rfl rfl (Y_assign (v := .bool true) rfl rfl) ?_
      refine rw_nil ?_
      refine cw_ret ?_
      obtain rfl := some_inj hF3
      exact ret1 Try.results47 (v1 := .bool true) (resAt_tmp rfl) ⟨rfl, (ST.subR (R' := []) (hS5.sel [] rfl rfl) (fun _ h => by cases h))⟩

theorem c_spec_l1Has (l : List Int) (n1 : Int) (B : Option Addr) (c n : Nat) (w0 : World) (hn : l.length = n) (hS : ST w0 [] w0 [] [⟨B, (l.flatMap encI)⟩]) {r_ : Bool} (hF : F_spec_l1Has l n1 = some r_) :
    CV Try.prog 48 #[.slice B n c, .int .i64 n1] w0 (fun v w' => v = .bool r_ ∧ ST w0 [] w' [] []) := by
  subst hn
  unfold F_spec_l1Has at hF
  refine cv_of_cw 17 Try.func48 rfl Try.ntmps48 rfl ?_
  refine cw_seq ?_
  refine cw_region ?_
  refine sq 4 rfl rfl (Y_assign (v := .bool false) rfl rfl) ?_
  refine rw_nil ?_
  refine cw_seq ?_
  refine cw_seq ?_
  refine cw_region ?_
  refine sq 7 rfl rfl (Y_move (v := .slice B l.length c) rfl rfl) ?_
  refine sq 8 rfl rfl (Y_len (B := B) (m := l.length) (c := c) k_sl_41_3 rfl rfl) ?_
  refine sq 9 rfl rfl (Y_move (v := .int .i64 0) rfl rfl) ?_
  refine rw_nil ?_
  obtain ⟨hN, hF⟩ := chk_inv hF
  obtain ⟨z, hz, hF1⟩ := bind_inv hF
  refine cw_block ?_
  refine cw_loop (fun k f w => ∃ (i : Nat), FF f [(1, .int .i64 n1), (7, .slice B l.length c), (8, .int .i64 (l.length : Int)), (9, .int .i64 (i : Int))] ∧ ST w0 [] w [] [⟨B, (l.flatMap encI)⟩] ∧ i + k = l.length ∧ forX (F_spec_l1Has_l1 l n1) k i () = some z) l.length ⟨0, (FF.cons rfl (FF.cons rfl (FF.cons rfl (FF.cons rfl FF.nil)))), (hS.sel [] rfl rfl), Nat.zero_add _, hz⟩ ?_
  rintro k_ f w ⟨i, hf, hS1, hik, hL⟩
  refine cw_seq ?_
  refine cw_region ?_
  refine sq 10 rfl rfl (Y_lt (k := .i64) (a := (i : Int)) (b := (l.length : Int)) rfl (hf.get 9 3 rfl) (hf.get 8 2 rfl)) ?_
  refine rw_nil ?_
  refine cw_seq ?_
  refine cw_cond (b := (decide ((i : Int) < (l.length : Int)))) rfl (fun hlt => ?_) (fun hlt => ?_)
  · skip
    have hlt1 : i < l.length := by have h := of_decide_eq_true hlt; omega
    obtain ⟨k_1, rfl⟩ : ∃ k2, k_ = k2 + 1 := ⟨k_ - 1, by omega⟩
    obtain ⟨y, hb, hL1⟩ := forX_go hL
    unfold F_spec_l1Has_l1 at hb
    refine cw_skip ?_
    refine cw_seq ?_
    refine cw_block ?_
    refine cw_seq ?_
    refine cw_region ?_
    obtain ⟨x, hx, hb⟩ := bind_inv hb
    refine sq 11 rfl rfl (Y_index (B := B) (m := l.length) (c := c) (k := .i64) (i := (i : Int)) k_sl_41_3 k_sz_3_1 rfl (hf.get 7 1 rfl) (hf.get 9 3 rfl) (gi_isSome encI_len rfl (hS1.rf (i := 0) rfl) hx) (getI_nn hx) (getI_ltI hx rfl)) ?_
    refine sq 12 rfl rfl (Y_load1 (B := B) (i := (i : Int).toNat * 1) (cs := (l.flatMap encI)) (v := .int .i64 x) k_sc_3 rfl rfl (hS1.rf (i := 0) rfl) (gi_at0 encI_len hx rfl)) ?_
    refine sq 6 rfl rfl (Y_assign (v := .int .i64 x) rfl rfl) ?_
    refine rw_nil ?_
    refine cw_seq ?_
    refine cw_region ?_
    refine sq 13 rfl rfl (Y_move (v := .int .i64 x) rfl rfl) ?_
    refine sq 14 rfl rfl (Y_move (v := .int .i64 n1) rfl (hf.get 1 0 rfl)) ?_
    refine sq 15 rfl rfl (Y_eq (k := .i64) (a := x) (b := n1) rfl rfl rfl) ?_
    refine rw_nil ?_
    refine cw_cond (b := (x == n1)) rfl (fun hb1 => ?_) (fun hb1 => ?_)
    · skip
      have hF2 := ct hb hb1
      refine cw_seq ?_
      refine cw_region ?_
      refine sq 4 rfl rfl (Y_assign (v := .bool true) rfl rfl) ?_
      refine rw_nil ?_
      refine cw_ret ?_
      obtain rfl := some_inj hF2
      obtain rfl := some_inj hL1
      obtain rfl := some_inj hF1
      exact ret1 Try.results48 (v1 := .bool true) (resAt_tmp rfl) ⟨rfl, (ST.subR (R' := []) (hS1.sel [] rfl rfl) (fun _ h => by cases h))⟩
    · skip
      have hF3 := cf' hb hb1
      refine cw_skip ?_
      refine cw_region ?_
      refine sq 16 rfl rfl (Y_add (k := .i64) (a := (i : Int)) (b := 1) rfl (hf.get 9 3 rfl) rfl) ?_
      refine sq 9 rfl rfl (Y_move (v := .int .i64 (IntKind.i64.wrap ((i : Int) + 1))) rfl rfl) ?_
      refine rw_nil ?_
      obtain rfl := some_inj hF3
      exact ⟨k_1, Nat.lt_succ_self _, i + 1, (FF.cons (hf.get 1 0 rfl) (FF.cons (hf.get 7 1 rfl) (FF.cons (hf.get 8 2 rfl) (FF.cons (congrArg (Value.int .i64) (wr_succ hlt1 hN)) FF.nil)))), (hS1.sel [] rfl rfl), (by omega), hL1⟩
  · skip
    obtain rfl : k_ = 0 := by have h := of_decide_eq_false hlt; omega
    refine cw_exit rfl ?_
    obtain rfl := some_inj hL
    refine cw_seq ?_
    refine cw_region ?_
    refine sq 4 rfl rfl (Y_assign (v := .bool false) rfl rfl) ?_
    refine rw_nil ?_
    refine cw_ret ?_
    obtain rfl := some_inj hF1
    exact ret1 Try.results48 (v1 := .bool false) (resAt_tmp rfl) ⟨rfl, (ST.subR (R' := []) (hS1.sel [] rfl rfl) (fun _ h => by cases h))⟩

theorem c_spec_l1Put (l : List Int) (n1 : Int) (B : Option Addr) (c n : Nat) (w0 : World) (hn : l.length = n) (hS : ST w0 (bl [⟨B, 3, (l.flatMap encI), c * 1⟩]) w0 [⟨B, 3, (l.flatMap encI), c * 1⟩] []) {r_ : List Int} (hF : F_spec_l1Put l n1 = some r_) :
    CV Try.prog 94 #[.slice B n c, .int .i64 n1] w0 (fun v w' => ∃ (B1 : Option Addr) (c1 : Nat), v = .slice B1 r_.length c1 ∧ ST w0 (bl [⟨B, 3, (l.flatMap encI), c * 1⟩]) w' [⟨B1, 3, (r_.flatMap encI), c1 * 1⟩] []) := by
  subst hn
  unfold F_spec_l1Put at hF
  refine cv_of_cw 48 Try.func94 rfl Try.ntmps94 rfl ?_
  refine cw_seq ?_
  refine cw_region ?_
  refine sq 4 rfl rfl (Y_assign (v := .slice none 0 0) rfl rfl) ?_
  refine rw_nil ?_
  refine cw_seq ?_
  refine cw_region ?_
  refine sq 5 rfl rfl (Y_assign (v := .int .i64 0) rfl rfl) ?_
  refine rw_nil ?_
  refine cw_seq ?_
  obtain ⟨z, hz, hF1⟩ := bind_inv hF
  refine cw_block ?_
  refine cw_loop (fun k f w => ∃ (k_ : Int), FF f [(0, .slice B l.length c), (1, .int .i64 n1), (5, .int .i64 k_)] ∧ ST w0 (bl [⟨B, 3, (l.flatMap encI), c * 1⟩]) w [⟨B, 3, (l.flatMap encI), c * 1⟩] [] ∧ whX (F_spec_l1Put_l1 l n1) k k_ = some z) fuel ⟨0, (FF.cons rfl (FF.cons rfl (FF.cons rfl FF.nil))), (hS.sel [0] rfl rfl), hz⟩ ?_
  rintro k_1 f w ⟨k_, hf, hS1, hL⟩
  obtain ⟨k_2, y, rfl, hb, hL1⟩ := whX_go hL
  unfold F_spec_l1Put_l1 at hb
  refine cw_seq ?_
  refine cw_seq ?_
  refine cw_region ?_
  refine sq 7 rfl rfl (Y_move (v := .int .i64 k_) rfl (hf.get 5 2 rfl)) ?_
  refine sq 8 rfl rfl (Y_move (v := .slice B l.length c) rfl (hf.get 0 0 rfl)) ?_
  refine sq 9 rfl rfl (Y_len (B := B) (m := l.length) (c := c) k_sl_41_3 rfl rfl) ?_
  refine sq 10 rfl rfl (Y_lt (k := .i64) (a := k_) (b := (l.length : Int)) rfl rfl rfl) ?_
  refine sq 11 rfl rfl (Y_move (v := .bool (decide (k_ < (l.length : Int)))) rfl rfl) ?_
  refine sgq 12 (B := (decide (k_ < (l.length : Int)))) (v := .slice B l.length c) rfl rfl (wt_t (gd_of (t := 11) (by kernel_rfl) rfl)) (fun hg => (Y_move (v := .slice B l.length c) rfl (hf.get 0 0 rfl))) ?_
  refine sgq 13 (B := (decide (k_ < (l.length : Int)))) (v := .int .i64 k_) rfl rfl (wt_t (gd_of (t := 11) (by kernel_rfl) rfl)) (fun hg1 => (Y_move (v := .int .i64 k_) rfl (hf.get 5 2 rfl))) ?_
  obtain ⟨x, hx, hb⟩ := bind_inv hb
  refine sgq 14 (B := (decide (k_ < (l.length : Int)))) (v := pt B (k_.toNat * 1)) rfl rfl (wt_t (gd_of (t := 11) (by kernel_rfl) rfl)) (fun hg2 => (Y_index (B := B) (m := l.length) (c := c) (k := .i64) (i := k_) k_sl_41_3 k_sz_3_1 rfl (gv_of (B := (decide (k_ < (l.length : Int)))) (v := .slice B l.length c) hg2) (gv_of (B := (decide (k_ < (l.length : Int)))) (v := .int .i64 k_) hg2) (gi_isSome encI_len rfl (hS1.cf (i := 0) rfl) (gb_inv hx hg2)) (getI_nn (gb_inv hx hg2)) (getI_ltI (gb_inv hx hg2) rfl))) ?_
  refine sgq 15 (B := (decide (k_ < (l.length : Int)))) (v := .int .i64 x) rfl rfl (wt_t (gd_of (t := 11) (by kernel_rfl) rfl)) (fun hg3 => (Y_load1 (B := B) (i := k_.toNat * 1) (cs := (l.flatMap encI)) (v := .int .i64 x) k_sc_3 rfl (gv_of (B := (decide (k_ < (l.length : Int)))) (v := pt B (k_.toNat * 1)) hg3) (hS1.cf (i := 0) rfl) (gi_at0 encI_len (gb_inv hx hg3) rfl))) ?_
  refine sgq 16 (B := (decide (k_ < (l.length : Int)))) (v := .int .i64 n1) rfl rfl (wt_t (gd_of (t := 11) (by kernel_rfl) rfl)) (fun hg4 => (Y_move (v := .int .i64 n1) rfl (hf.get 1 1 rfl))) ?_
  refine sgq 17 (B := (decide (k_ < (l.length : Int)))) (v := .bool (decide (x < n1))) rfl rfl (wt_t (gd_of (t := 11) (by kernel_rfl) rfl)) (fun hg5 => (Y_lt (k := .i64) (a := x) (b := n1) rfl (gv_of (B := (decide (k_ < (l.length : Int)))) (v := .int .i64 x) hg5) (gv_of (B := (decide (k_ < (l.length : Int)))) (v := .int .i64 n1) hg5))) ?_
  refine sq 18 rfl rfl (Y_and (b := (decide (k_ < (l.length : Int)))) (z := (decide (x < n1))) rfl rfl rfl rfl) ?_
  refine rw_nil ?_
  refine cw_cond (b := ((decide (k_ < (l.length : Int))) && (decide (x < n1)))) rfl (fun hb1 => ?_) (fun hb1 => ?_)
  · skip
    have hF2 := ct hb hb1
    refine cw_skip ?_
    refine cw_block ?_
    refine cw_region ?_
    refine sq 19 rfl rfl (Y_move (v := .int .i64 k_) rfl (hf.get 5 2 rfl)) ?_
    refine sq 20 rfl rfl (Y_add (k := .i64) (a := k_) (b := 1) rfl rfl rfl) ?_
    refine sq 5 rfl rfl (Y_assign (v := .int .i64 (IntKind.i64.wrap (k_ + 1))) rfl rfl) ?_
    refine rw_nil ?_
    obtain rfl := some_inj hF2
    exact ⟨k_2, Nat.lt_succ_self _, (IntKind.i64.wrap (k_ + 1)), (FF.cons (hf.get 0 0 rfl) (FF.cons (hf.get 1 1 rfl) (FF.cons rfl FF.nil))), (hS1.sel [0] rfl rfl), hL1⟩
  · skip
    have hF3 := cf' hb hb1
    refine cw_exit rfl ?_
    obtain rfl := some_inj hF3
    obtain rfl := some_inj hL1
    refine cw_seq ?_
    refine cw_seq ?_
    refine cw_region ?_
    refine sq 21 rfl rfl (Y_move (v := .int .i64 k_) rfl (hf.get 5 2 rfl)) ?_
    refine sq 22 rfl rfl (Y_move (v := .slice B l.length c) rfl (hf.get 0 0 rfl)) ?_
    refine sq 23 rfl rfl (Y_len (B := B) (m := l.length) (c := c) k_sl_41_3 rfl rfl) ?_
    refine sq 24 rfl rfl (Y_lt (k := .i64) (a := k_) (b := (l.length : Int)) rfl rfl rfl) ?_
    refine sq 25 rfl rfl (Y_move (v := .bool (decide (k_ < (l.length : Int)))) rfl rfl) ?_
    refine sgq 26 (B := (decide (k_ < (l.length : Int)))) (v := .slice B l.length c) rfl rfl (wt_t (gd_of (t := 25) (by kernel_rfl) rfl)) (fun hg6 => (Y_move (v := .slice B l.length c) rfl (hf.get 0 0 rfl))) ?_
    refine sgq 27 (B := (decide (k_ < (l.length : Int)))) (v := .int .i64 k_) rfl rfl (wt_t (gd_of (t := 25) (by kernel_rfl) rfl)) (fun hg7 => (Y_move (v := .int .i64 k_) rfl (hf.get 5 2 rfl))) ?_
    obtain ⟨x1, hx1, hF1⟩ := bind_inv hF1
    refine sgq 28 (B := (decide (k_ < (l.length : Int)))) (v := pt B (k_.toNat * 1)) rfl rfl (wt_t (gd_of (t := 25) (by kernel_rfl) rfl)) (fun hg8 => (Y_index (B := B) (m := l.length) (c := c) (k := .i64) (i := k_) k_sl_41_3 k_sz_3_1 rfl (gv_of (B := (decide (k_ < (l.length : Int)))) (v := .slice B l.length c) hg8) (gv_of (B := (decide (k_ < (l.length : Int)))) (v := .int .i64 k_) hg8) (gi_isSome encI_len rfl (hS1.cf (i := 0) rfl) (gb_inv hx1 hg8)) (getI_nn (gb_inv hx1 hg8)) (getI_ltI (gb_inv hx1 hg8) rfl))) ?_
    refine sgq 29 (B := (decide (k_ < (l.length : Int)))) (v := .int .i64 x1) rfl rfl (wt_t (gd_of (t := 25) (by kernel_rfl) rfl)) (fun hg9 => (Y_load1 (B := B) (i := k_.toNat * 1) (cs := (l.flatMap encI)) (v := .int .i64 x1) k_sc_3 rfl (gv_of (B := (decide (k_ < (l.length : Int)))) (v := pt B (k_.toNat * 1)) hg9) (hS1.cf (i := 0) rfl) (gi_at0 encI_len (gb_inv hx1 hg9) rfl))) ?_
    refine sgq 30 (B := (decide (k_ < (l.length : Int)))) (v := .int .i64 n1) rfl rfl (wt_t (gd_of (t := 25) (by kernel_rfl) rfl)) (fun hg10 => (Y_move (v := .int .i64 n1) rfl (hf.get 1 1 rfl))) ?_
    refine sgq 31 (B := (decide (k_ < (l.length : Int)))) (v := .bool (x1 == n1)) rfl rfl (wt_t (gd_of (t := 25) (by kernel_rfl) rfl)) (fun hg11 => (Y_eq (k := .i64) (a := x1) (b := n1) rfl (gv_of (B := (decide (k_ < (l.length : Int)))) (v := .int .i64 x1) hg11) (gv_of (B := (decide (k_ < (l.length : Int)))) (v := .int .i64 n1) hg11))) ?_
    refine sq 32 rfl rfl (Y_and (b := (decide (k_ < (l.length : Int)))) (z := (x1 == n1)) rfl rfl rfl rfl) ?_
    refine rw_nil ?_
    refine cw_cond (b := ((decide (k_ < (l.length : Int))) && (x1 == n1))) rfl (fun hb2 => ?_) (fun hb2 => ?_)
    · skip
      have hF4 := ct hF1 hb2
      refine cw_seq ?_
      refine cw_region ?_
      refine sq 33 rfl rfl (Y_move (v := .slice B l.length c) rfl (hf.get 0 0 rfl)) ?_
      refine sq 4 rfl rfl (Y_assign (v := .slice B l.length c) rfl rfl) ?_
      refine rw_nil ?_
      refine cw_ret ?_
      obtain rfl := some_inj hF4
      exact ret1 Try.results94 (v1 := .slice B l.length c) (resAt_tmp rfl) ⟨B, c, rfl, (ST.subR (R' := []) (hS1.sel [0] rfl rfl) (fun _ h => by cases h))⟩
    · skip
      have hF5 := cf' hF1 hb2
      refine cw_skip ?_
      refine cw_seq ?_
      refine cw_region ?_
      refine ss 34 rfl rfl (Ys_bslice0 (s := 1) (e := 3) hS1 k_sl_41_3 k_sz_3_1 rfl) ?_
      rintro _ w_ ⟨b, rfl, hS2⟩
      have hS2 : ST w0 (bl [⟨B, 3, (l.flatMap encI), c * 1⟩]) _ [⟨B, 3, (l.flatMap encI), c * 1⟩, ⟨some ⟨b, 0, none⟩, 3, ([].flatMap encI), 0 * 1⟩] [] := hS2
      refine sq 35 rfl rfl (Y_move (v := .slice B l.length c) rfl (hf.get 0 0 rfl)) ?_
      refine sq 36 rfl rfl (Y_move (v := .int .i64 k_) rfl (hf.get 5 2 rfl)) ?_
      obtain ⟨hsl, hF5⟩ := chk_inv hF5
      have hcap : l.length ≤ c := (hS2.lencap (i := 0) rfl (fm_lenn (l := l) encI_len rfl) rfl rfl)
      have hS3 : ST w0 (bl [⟨B, 3, (l.flatMap encI), c * 1⟩]) _ [⟨some ⟨b, 0, none⟩, 3, ([].flatMap encI), 0 * 1⟩] [⟨B, (l.flatMap encI)⟩] := hS2.freeze (i := 0) rfl
      have hv : (List.take k_.toNat l).length = k_.toNat := (take_len rfl (by omega))
      have hq : k_.toNat ≤ c := by omega
      have hS4 : ST w0 (bl [⟨B, 3, (l.flatMap encI), c * 1⟩]) _ [⟨some ⟨b, 0, none⟩, 3, ([].flatMap encI), 0 * 1⟩] [⟨B, ((List.take k_.toNat l).flatMap encI)⟩, ⟨B, (l.flatMap encI)⟩] := ST.view encI_len hS3 (i := 0) rfl (lo := 0) (h := k_.toNat) (q := c) (by omega) (by omega) (sv_zero _ _ _).symm rfl
      refine sq 37 rfl rfl (Y_slice0 (B := B) (m := l.length) (c := c) (h := k_.toNat) (s := 1) k_sl_41_3 k_sz_3_1 rfl rfl (bnd_some rfl (nn_toNat (by omega))) (by omega)) ?_
      obtain ⟨hap, hF5⟩ := chk_inv hF5
      refine ss 38 rfl rfl (Ys_append (s := 1) (by' := 8) (i := 0) (nn := 0) (c := 0) (k := k_.toNat) (len := (List.take k_.toNat l).length) (B := some ⟨b, 0, none⟩) (xs := ((List.take k_.toNat l).flatMap encI)) (cs' := ((List.take k_.toNat l).flatMap encI)) hS4 k_sl_41_3 k_sz_3_1 k_by_3_8 k_zero_3 rfl (by decide) rfl rfl rfl rfl (fm_lenn (l := []) encI_len rfl) rfl (hS4.rf (i := 0) rfl) (fm_lenn (l := (List.take k_.toNat l)) encI_len hv) (fm_one' (enc := encI) encI_one (List.take k_.toNat l)) (by have := hap; omega) (by have := hap; simp only [maxLen]; omega) rfl (app_len0 (l := (List.take k_.toNat l)) hv)) ?_
      rintro _ w_1 ⟨B2, c2, rfl, hS5⟩
      refine sq 6 rfl rfl (Y_assign (v := .slice B2 ((List.take k_.toNat l).length) c2) rfl rfl) ?_
      refine rw_nil ?_
      refine cw_seq ?_
      refine cw_region ?_
      refine sq 39 rfl rfl (Y_move (v := .slice B2 ((List.take k_.toNat l).length) c2) rfl rfl) ?_
      refine sq 40 rfl rfl (Y_move (v := .int .i64 n1) rfl (hf.get 1 1 rfl)) ?_
      refine ss 41 rfl rfl (Ys_bslice (s := 1) (len := 1) (vs := [(0, .int .i64 n1)]) (cs := [.int .i64 n1]) (zs := [.int .i64 0]) (m := 1) hS5 k_sl_41_3 k_sz_3_1 k_zc_3 rfl (mpc rfl mpn) rfl rfl rfl (by kernel_rfl) (by kernel_rfl) rfl) ?_
      rintro _ w_2 ⟨b1, rfl, hS6⟩
      have hS6 : ST w0 (bl [⟨B, 3, (l.flatMap encI), c * 1⟩]) _ [⟨B2, 3, ((List.take k_.toNat l).flatMap encI), c2 * 1⟩, ⟨some ⟨b1, 0, none⟩, 3, ([n1].flatMap encI), 1 * 1⟩] [⟨B, ((List.take k_.toNat l).flatMap encI)⟩, ⟨B, (l.flatMap encI)⟩] := hS6
      obtain ⟨hap1, hF5⟩ := chk_inv hF5
      refine ss 42 rfl rfl (Ys_append (s := 1) (by' := 8) (i := 0) (nn := (List.take k_.toNat l).length) (c := c2) (k := 1) (len := ((List.take k_.toNat l) ++ [n1]).length) (B := B2) (xs := ([n1].flatMap encI)) (cs' := (((List.take k_.toNat l) ++ [n1]).flatMap encI)) hS6 k_sl_41_3 k_sz_3_1 k_by_3_8 k_zero_3 rfl (by decide) rfl rfl rfl rfl (fm_lenn (l := (List.take k_.toNat l)) encI_len rfl) rfl (hS6.cf (i := 1) rfl) (fm_lenn (l := [n1]) encI_len rfl) (fm_one' (enc := encI) encI_one [n1]) (by have := hap1; omega) (by have := hap1; simp only [maxLen]; omega) (fm_app _ _) (app_len (l := (List.take k_.toNat l)) (l' := [n1]) rfl rfl)) ?_
      rintro _ w_3 ⟨B3, c3, rfl, hS7⟩
      have hS7 : ST w0 (bl [⟨B, 3, (l.flatMap encI), c * 1⟩]) _ [⟨B3, 3, (((List.take k_.toNat l) ++ [n1]).flatMap encI), c3 * 1⟩, ⟨some ⟨b1, 0, none⟩, 3, ([n1].flatMap encI), 1 * 1⟩] [⟨B, ((List.take k_.toNat l).flatMap encI)⟩, ⟨B, (l.flatMap encI)⟩] := hS7
      refine sq 6 rfl rfl (Y_assign (v := .slice B3 (((List.take k_.toNat l) ++ [n1]).length) c3) rfl rfl) ?_
      refine rw_nil ?_
      refine cw_seq ?_
      refine cw_region ?_
      refine sq 43 rfl rfl (Y_move (v := .slice B3 (((List.take k_.toNat l) ++ [n1]).length) c3) rfl rfl) ?_
      refine sq 44 rfl rfl (Y_move (v := .slice B l.length c) rfl (hf.get 0 0 rfl)) ?_
      refine sq 45 rfl rfl (Y_move (v := .int .i64 k_) rfl (hf.get 5 2 rfl)) ?_
      obtain ⟨hsl1, hF5⟩ := chk_inv hF5
      have hcap1 : l.length ≤ c := hcap
      have hv1 : (List.drop k_.toNat l).length = (l.length - k_.toNat) := (drop_len rfl)
      have hq1 : (l.length - k_.toNat) ≤ (c - k_.toNat) := by omega
      have hS8 : ST w0 (bl [⟨B, 3, (l.flatMap encI), c * 1⟩]) _ [⟨B3, 3, (((List.take k_.toNat l) ++ [n1]).flatMap encI), c3 * 1⟩, ⟨some ⟨b1, 0, none⟩, 3, ([n1].flatMap encI), 1 * 1⟩] [⟨(sv B k_.toNat c 1), ((List.drop k_.toNat l).flatMap encI)⟩, ⟨B, ((List.take k_.toNat l).flatMap encI)⟩, ⟨B, (l.flatMap encI)⟩] := ST.view encI_len hS7 (i := 1) rfl (lo := k_.toNat) (h := l.length) (q := c) (by omega) (by omega) rfl (take_all rfl _)
      refine sq 46 rfl rfl (Y_slice1 (B := B) (m := l.length) (c := c) (l := k_.toNat) (h := l.length) (s := 1) k_sl_41_3 k_sz_3_1 rfl rfl rfl (bnd_some rfl (nn_toNat (by omega))) (by omega) (by omega)) ?_
      obtain ⟨hap2, hF5⟩ := chk_inv hF5
      refine ss 47 rfl rfl (Ys_append (s := 1) (by' := 8) (i := 0) (nn := ((List.take k_.toNat l) ++ [n1]).length) (c := c3) (k := (l.length - k_.toNat)) (len := (((List.take k_.toNat l) ++ [n1]) ++ (List.drop k_.toNat l)).length) (B := B3) (xs := ((List.drop k_.toNat l).flatMap encI)) (cs' := ((((List.take k_.toNat l) ++ [n1]) ++ (List.drop k_.toNat l)).flatMap encI)) hS8 k_sl_41_3 k_sz_3_1 k_by_3_8 k_zero_3 rfl (by decide) rfl rfl rfl rfl (fm_lenn (l := ((List.take k_.toNat l) ++ [n1])) encI_len rfl) rfl (hS8.rf (i := 0) rfl) (fm_lenn (l := (List.drop k_.toNat l)) encI_len hv1) (fm_one' (enc := encI) encI_one (List.drop k_.toNat l)) (by have := hap2; omega) (by have := hap2; simp only [maxLen]; omega) (fm_app _ _) (app_len (l := ((List.take k_.toNat l) ++ [n1])) (l' := (List.drop k_.toNat l)) rfl hv1)) ?_
      rintro _ w_4 ⟨B4, c4, rfl, hS9⟩
      have hS9 : ST w0 (bl [⟨B, 3, (l.flatMap encI), c * 1⟩]) _ [⟨B4, 3, ((((List.take k_.toNat l) ++ [n1]) ++ (List.drop k_.toNat l)).flatMap encI), c4 * 1⟩, ⟨some ⟨b1, 0, none⟩, 3, ([n1].flatMap encI), 1 * 1⟩] [⟨(sv B k_.toNat c 1), ((List.drop k_.toNat l).flatMap encI)⟩, ⟨B, ((List.take k_.toNat l).flatMap encI)⟩, ⟨B, (l.flatMap encI)⟩] := hS9
      refine sq 4 rfl rfl (Y_assign (v := .slice B4 ((((List.take k_.toNat l) ++ [n1]) ++ (List.drop k_.toNat l)).length) c4) rfl rfl) ?_
      refine rw_nil ?_
      refine cw_ret ?_
      obtain rfl := some_inj hF5
      exact ret1 Try.results94 (v1 := .slice B4 ((((List.take k_.toNat l) ++ [n1]) ++ (List.drop k_.toNat l)).length) c4) (resAt_tmp rfl) ⟨B4, c4, rfl, (ST.subR (R' := []) (hS9.sel [0] rfl rfl) (fun _ h => by cases h))⟩

theorem c_spec_l1Set (row : Int)  (w0 : World)  (hS : ST w0 [] w0 [] []) {r_ : List Int} (hF : F_spec_l1Set row = some r_) :
    CV Try.prog 97 #[.int .i64 row] w0 (fun v w' => ∃ (B : Option Addr) (c : Nat), v = .slice B r_.length c ∧ ST w0 [] w' [⟨B, 3, (r_.flatMap encI), c * 1⟩] []) := by
  unfold F_spec_l1Set at hF
  refine cv_of_cw 23 Try.func97 rfl Try.ntmps97 rfl ?_
  refine cw_seq ?_
  refine cw_region ?_
  refine sq 2 rfl rfl (Y_assign (v := .slice none 0 0) rfl rfl) ?_
  refine rw_nil ?_
  refine cw_seq ?_
  refine cw_region ?_
  refine sq 3 rfl rfl (Y_assign (v := .slice none 0 0) rfl rfl) ?_
  refine rw_nil ?_
  refine cw_seq ?_
  refine cw_seq ?_
  refine cw_region ?_
  refine sq 4 rfl rfl (Y_assign (v := .int .i64 0) rfl rfl) ?_
  refine rw_nil ?_
  obtain ⟨z, hz, hF1⟩ := bind_inv hF
  have hS2 := hS.addNil 3
  refine cw_block ?_
  refine cw_loop (fun k f w => ∃ (out : List Int) (k_ : Int) (B1 : Option Addr) (c1 : Nat), FF f [(0, .int .i64 row), (3, .slice B1 out.length c1), (4, .int .i64 k_)] ∧ ST w0 [] w [⟨B1, 3, (out.flatMap encI), c1 * 1⟩] [] ∧ whX (F_spec_l1Set_l1 row) k (out, k_) = some z) fuel ⟨[], 0, none, 0, (FF.cons rfl (FF.cons rfl (FF.cons rfl FF.nil))), (hS2.sel [0] rfl rfl), hz⟩ ?_
  rintro k_1 f w ⟨out, k_, B1, c1, hf, hS1, hL⟩
  obtain ⟨k_2, y, rfl, hb, hL1⟩ := whX_go hL
  unfold F_spec_l1Set_l1 at hb
  refine cw_seq ?_
  refine cw_seq ?_
  refine cw_region ?_
  refine sq 5 rfl rfl (Y_move (v := .int .i64 row) rfl (hf.get 0 0 rfl)) ?_
  refine sq 6 rfl rfl (Y_move (v := .int .i64 k_) rfl (hf.get 4 2 rfl)) ?_
  refine sq 7 rfl rfl (Y_conv (k := .i64) (a := k_) (T := 3) (T' := 66) k_us_3 k_int_66_u64 rfl rfl) ?_
  obtain ⟨hsh, hb⟩ := chk_inv hb
  refine sq 8 rfl rfl (Y_shr (k := .i64) (a := row) (k' := .u64) (b := (IntKind.u64.wrap k_)) rfl rfl rfl hsh) ?_
  refine sq 9 rfl rfl (Y_gt (k := .i64) (a := (shrK .i64 row (IntKind.u64.wrap k_))) (b := 0) rfl rfl rfl) ?_
  refine rw_nil ?_
  refine cw_cond (b := (decide (0 < (shrK .i64 row (IntKind.u64.wrap k_))))) rfl (fun hb1 => ?_) (fun hb1 => ?_)
  · skip
    have hF2 := ct hb hb1
    refine cw_skip ?_
    refine cw_seq ?_
    obtain ⟨z1, hz1, hF3⟩ := bind_inv hF2
    refine cw_mid (fun f w => ∃ (out1 : List Int) (B2 : Option Addr) (c2 : Nat), out1 = z1 ∧ FF f [(0, .int .i64 row), (3, .slice B2 out1.length c2), (4, .int .i64 k_)] ∧ ST w0 [] w [⟨B2, 3, (out1.flatMap encI), c2 * 1⟩] []) ?_ ?_
    · skip
      refine cw_block ?_
      refine cw_seq ?_
      refine cw_region ?_
      refine sq 12 rfl rfl (Y_move (v := .int .i64 row) rfl (hf.get 0 0 rfl)) ?_
      refine sq 13 rfl rfl (Y_move (v := .int .i64 k_) rfl (hf.get 4 2 rfl)) ?_
      refine sq 14 rfl rfl (Y_conv (k := .i64) (a := k_) (T := 3) (T' := 66) k_us_3 k_int_66_u64 rfl rfl) ?_
      obtain ⟨hsh1, hz1⟩ := chk_inv hz1
      refine sq 15 rfl rfl (Y_shr (k := .i64) (a := row) (k' := .u64) (b := (IntKind.u64.wrap k_)) rfl rfl rfl hsh1) ?_
      refine sq 16 rfl rfl (Y_band (k := .i64) (a := (shrK .i64 row (IntKind.u64.wrap k_))) (b := 1) rfl rfl rfl) ?_
      refine sq 17 rfl rfl (Y_eq (k := .i64) (a := (bits .and .i64 (shrK .i64 row (IntKind.u64.wrap k_)) 1)) (b := 1) rfl rfl rfl) ?_
      refine rw_nil ?_
      refine cw_cond (b := ((bits .and .i64 (shrK .i64 row (IntKind.u64.wrap k_)) 1) == 1)) rfl (fun hb2 => ?_) (fun hb2 => ?_)
      · skip
        have hF4 := ct hz1 hb2
        refine cw_region ?_
        refine sq 18 rfl rfl (Y_move (v := .slice B1 out.length c1) rfl (hf.get 3 1 rfl)) ?_
        refine sq 19 rfl rfl (Y_move (v := .int .i64 k_) rfl (hf.get 4 2 rfl)) ?_
        refine ss 20 rfl rfl (Ys_bslice (s := 1) (len := 1) (vs := [(0, .int .i64 k_)]) (cs := [.int .i64 k_]) (zs := [.int .i64 0]) (m := 1) hS1 k_sl_41_3 k_sz_3_1 k_zc_3 rfl (mpc rfl mpn) rfl rfl rfl (by kernel_rfl) (by kernel_rfl) rfl) ?_
        rintro _ w_ ⟨b, rfl, hS4⟩
        have hS4 : ST w0 [] _ [⟨B1, 3, (out.flatMap encI), c1 * 1⟩, ⟨some ⟨b, 0, none⟩, 3, ([k_].flatMap encI), 1 * 1⟩] [] := hS4
        obtain ⟨hap, hF4⟩ := chk_inv hF4
        refine ss 21 rfl rfl (Ys_append (s := 1) (by' := 8) (i := 0) (nn := out.length) (c := c1) (k := 1) (len := (out ++ [k_]).length) (B := B1) (xs := ([k_].flatMap encI)) (cs' := ((out ++ [k_]).flatMap encI)) hS4 k_sl_41_3 k_sz_3_1 k_by_3_8 k_zero_3 rfl (by decide) rfl rfl rfl rfl (fm_lenn (l := out) encI_len rfl) rfl (hS4.cf (i := 1) rfl) (fm_lenn (l := [k_]) encI_len rfl) (fm_one' (enc := encI) encI_one [k_]) (by have := hap; omega) (by have := hap; simp only [maxLen]; omega) (fm_app _ _) (app_len (l := out) (l' := [k_]) rfl rfl)) ?_
        rintro _ w_1 ⟨B3, c3, rfl, hS5⟩
        have hS5 : ST w0 [] _ [⟨B3, 3, ((out ++ [k_]).flatMap encI), c3 * 1⟩, ⟨some ⟨b, 0, none⟩, 3, ([k_].flatMap encI), 1 * 1⟩] [] := hS5
        refine sq 3 rfl rfl (Y_assign (v := .slice B3 ((out ++ [k_]).length) c3) rfl rfl) ?_
        refine rw_nil ?_
        exact ⟨(out ++ [k_]), B3, c3, (some_inj hF4), (FF.cons (hf.get 0 0 rfl) (FF.cons rfl (FF.cons (hf.get 4 2 rfl) FF.nil))), (hS5.sel [0] rfl rfl)⟩
      · skip
        have hF5 := cf' hz1 hb2
        refine cw_skip ?_
        exact ⟨out, B1, c1, (some_inj hF5), (FF.cons (hf.get 0 0 rfl) (FF.cons (hf.get 3 1 rfl) (FF.cons (hf.get 4 2 rfl) FF.nil))), (hS1.sel [0] rfl rfl)⟩
    rintro f w ⟨out1, B2, c2, rfl, hf1, hS3⟩
    refine cw_region ?_
    refine sq 10 rfl rfl (Y_move (v := .int .i64 k_) rfl (hf1.get 4 2 rfl)) ?_
    refine sq 11 rfl rfl (Y_add (k := .i64) (a := k_) (b := 1) rfl rfl rfl) ?_
    refine sq 4 rfl rfl (Y_assign (v := .int .i64 (IntKind.i64.wrap (k_ + 1))) rfl rfl) ?_
    refine rw_nil ?_
    obtain rfl := some_inj hF3
    exact ⟨k_2, Nat.lt_succ_self _, out1, (IntKind.i64.wrap (k_ + 1)), B2, c2, (FF.cons (hf1.get 0 0 rfl) (FF.cons (hf1.get 3 1 rfl) (FF.cons rfl FF.nil))), (hS3.sel [0] rfl rfl), hL1⟩
  · skip
    have hF6 := cf' hb hb1
    refine cw_exit rfl ?_
    obtain rfl := some_inj hF6
    obtain rfl := some_inj hL1
    refine cw_seq ?_
    refine cw_region ?_
    refine sq 22 rfl rfl (Y_move (v := .slice B1 out.length c1) rfl (hf.get 3 1 rfl)) ?_
    refine sq 2 rfl rfl (Y_assign (v := .slice B1 out.length c1) rfl rfl) ?_
    refine rw_nil ?_
    refine cw_ret ?_
    obtain rfl := some_inj hF1
    exact ret1 Try.results97 (v1 := .slice B1 out.length c1) (resAt_tmp rfl) ⟨B1, c1, rfl, (ST.subR (R' := []) (hS1.sel [0] rfl rfl) (fun _ h => by cases h))⟩

theorem c_spec_l13Parity (n : Int)  (w0 : World)  (hS : ST w0 [] w0 [] []) {r_ : Int} (hF : F_spec_l13Parity n = some r_) :
    CV Try.prog 139 #[.int .i64 n] w0 (fun v w' => v = .int .i64 r_ ∧ ST w0 [] w' [] []) := by
  unfold F_spec_l13Parity at hF
  refine cv_of_cw 7 Try.func139 rfl Try.ntmps139 rfl ?_
  refine cw_seq ?_
  refine cw_region ?_
  refine sq 2 rfl rfl (Y_assign (v := .int .i64 0) rfl rfl) ?_
  refine rw_nil ?_
  refine cw_seq ?_
  refine cw_region ?_
  refine sq 3 rfl rfl (Y_move (v := .int .i64 n) rfl rfl) ?_
  obtain ⟨r_1, hc, hF⟩ := bind_inv hF
  refine sc 4 rfl rfl (Yc_func (g := 97) (vs := [.int .i64 n]) k_call_97 rfl (mc rfl mn) (c_spec_l1Set n _  (hS.inn0 [] rfl) hc)) ?_
  rintro _ w_ ⟨B, c, rfl, hd⟩
  have hS1 := hS.out0 hd
  refine sq 5 rfl rfl (Y_len (B := B) (m := r_1.length) (c := c) k_sl_41_3 rfl rfl) ?_
  refine sq 6 rfl rfl (Y_rem (k := .i64) (a := (r_1.length : Int)) (b := 2) rfl rfl rfl (by decide)) ?_
  refine sq 2 rfl rfl (Y_assign (v := .int .i64 (Int.tmod (r_1.length : Int) 2)) rfl rfl) ?_
  refine rw_nil ?_
  refine cw_ret ?_
  obtain rfl := some_inj hF
  exact ret1 Try.results139 (v1 := .int .i64 (Int.tmod (r_1.length : Int) 2)) (resAt_tmp rfl) ⟨rfl, (ST.subR (R' := []) (hS1.sel [] rfl rfl) (fun _ h => by cases h))⟩

theorem c_spec_l15Affine (n : Int) (a : Int) (turned : Int)  (w0 : World)  (hS : ST w0 [] w0 [] []) {r_ : Int} (hF : F_spec_l15Affine n a turned = some r_) :
    CV Try.prog 95 #[.int .i64 n, .int .i64 a, .int .i64 turned] w0 (fun v w' => v = .int .i64 r_ ∧ ST w0 [] w' [] []) := by
  unfold F_spec_l15Affine at hF
  refine cv_of_cw 29 Try.func95 rfl Try.ntmps95 rfl ?_
  refine cw_seq ?_
  refine cw_region ?_
  refine sq 6 rfl rfl (Y_assign (v := .int .i64 0) rfl rfl) ?_
  refine rw_nil ?_
  refine cw_seq ?_
  refine cw_region ?_
  refine sq 7 rfl rfl (Y_assign (v := .int .i64 0) rfl rfl) ?_
  refine rw_nil ?_
  refine cw_seq ?_
  refine cw_seq ?_
  refine cw_region ?_
  refine sq 8 rfl rfl (Y_assign (v := .int .i64 1) rfl rfl) ?_
  refine rw_nil ?_
  obtain ⟨z, hz, hF1⟩ := bind_inv hF
  refine cw_block ?_
  refine cw_loop (fun k f w => ∃ (word : Int) (m : Int), FF f [(0, .int .i64 n), (1, .int .i64 a), (2, .int .i64 turned), (7, .int .i64 word), (8, .int .i64 m)] ∧ ST w0 [] w [] [] ∧ whX (F_spec_l15Affine_l1 n a turned) k (word, m) = some z) fuel ⟨0, 1, (FF.cons rfl (FF.cons rfl (FF.cons rfl (FF.cons rfl (FF.cons rfl FF.nil))))), (hS.sel [] rfl rfl), hz⟩ ?_
  rintro k_ f w ⟨word, m, hf, hS1, hL⟩
  obtain ⟨k_1, y, rfl, hb, hL1⟩ := whX_go hL
  unfold F_spec_l15Affine_l1 at hb
  refine cw_seq ?_
  refine cw_seq ?_
  refine cw_region ?_
  refine sq 9 rfl rfl (Y_move (v := .int .i64 m) rfl (hf.get 8 4 rfl)) ?_
  refine sq 10 rfl rfl (Y_move (v := .int .i64 n) rfl (hf.get 0 0 rfl)) ?_
  refine sq 11 rfl rfl (Y_conv (k := .i64) (a := n) (T := 3) (T' := 66) k_us_3 k_int_66_u64 rfl rfl) ?_
  obtain ⟨hsh, hb⟩ := chk_inv hb
  refine sq 12 rfl rfl (Y_shl (k := .i64) (a := 1) (k' := .u64) (b := (IntKind.u64.wrap n)) rfl rfl rfl hsh) ?_
  refine sq 13 rfl rfl (Y_lt (k := .i64) (a := m) (b := (shlK .i64 1 (IntKind.u64.wrap n))) rfl rfl rfl) ?_
  refine rw_nil ?_
  refine cw_cond (b := (decide (m < (shlK .i64 1 (IntKind.u64.wrap n))))) rfl (fun hb1 => ?_) (fun hb1 => ?_)
  · skip
    have hF2 := ct hb hb1
    refine cw_skip ?_
    refine cw_seq ?_
    refine cw_block ?_
    refine cw_region ?_
    refine sq 16 rfl rfl (Y_move (v := .int .i64 word) rfl (hf.get 7 3 rfl)) ?_
    refine sq 17 rfl rfl (Y_move (v := .int .i64 m) rfl (hf.get 8 4 rfl)) ?_
    refine sq 18 rfl rfl (Y_move (v := .int .i64 a) rfl (hf.get 1 1 rfl)) ?_
    refine sq 19 rfl rfl (Y_band (k := .i64) (a := m) (b := a) rfl rfl rfl) ?_
    obtain ⟨r_1, hc, hF2⟩ := bind_inv hF2
    refine sc 20 rfl rfl (Yc_func (g := 139) (vs := [.int .i64 (bits .and .i64 m a)]) k_call_139 rfl (mc rfl mn) (c_spec_l13Parity (bits .and .i64 m a) _  (hS1.inn0 [] rfl) hc)) ?_
    rintro _ w_ ⟨rfl, hd⟩
    have hS2 := hS1.out00 hd
    refine sq 21 rfl rfl (Y_move (v := .int .i64 turned) rfl (hf.get 2 2 rfl)) ?_
    refine sq 22 rfl rfl (Y_bxor (k := .i64) (a := r_1) (b := turned) rfl rfl rfl) ?_
    refine sq 23 rfl rfl (Y_move (v := .int .i64 m) rfl (hf.get 8 4 rfl)) ?_
    refine sq 24 rfl rfl (Y_sub (k := .i64) (a := m) (b := 1) rfl rfl rfl) ?_
    refine sq 25 rfl rfl (Y_conv (k := .i64) (a := (IntKind.i64.wrap (m - 1))) (T := 3) (T' := 66) k_us_3 k_int_66_u64 rfl rfl) ?_
    obtain ⟨hsh1, hF2⟩ := chk_inv hF2
    refine sq 26 rfl rfl (Y_shl (k := .i64) (a := (bits .xor .i64 r_1 turned)) (k' := .u64) (b := (IntKind.u64.wrap (IntKind.i64.wrap (m - 1)))) rfl rfl rfl hsh1) ?_
    refine sq 27 rfl rfl (Y_bor (k := .i64) (a := word) (b := (shlK .i64 (bits .xor .i64 r_1 turned) (IntKind.u64.wrap (IntKind.i64.wrap (m - 1))))) rfl rfl rfl) ?_
    refine sq 7 rfl rfl (Y_assign (v := .int .i64 (bits .or .i64 word (shlK .i64 (bits .xor .i64 r_1 turned) (IntKind.u64.wrap (IntKind.i64.wrap (m - 1)))))) rfl rfl) ?_
    refine rw_nil ?_
    refine cw_region ?_
    refine sq 14 rfl rfl (Y_move (v := .int .i64 m) rfl (hf.get 8 4 rfl)) ?_
    refine sq 15 rfl rfl (Y_add (k := .i64) (a := m) (b := 1) rfl rfl rfl) ?_
    refine sq 8 rfl rfl (Y_assign (v := .int .i64 (IntKind.i64.wrap (m + 1))) rfl rfl) ?_
    refine rw_nil ?_
    obtain rfl := some_inj hF2
    exact ⟨k_1, Nat.lt_succ_self _, (bits .or .i64 word (shlK .i64 (bits .xor .i64 r_1 turned) (IntKind.u64.wrap (IntKind.i64.wrap (m - 1))))), (IntKind.i64.wrap (m + 1)), (FF.cons (hf.get 0 0 rfl) (FF.cons (hf.get 1 1 rfl) (FF.cons (hf.get 2 2 rfl) (FF.cons rfl (FF.cons rfl FF.nil))))), (hS2.sel [] rfl rfl), hL1⟩
  · skip
    have hF3 := cf' hb hb1
    refine cw_exit rfl ?_
    obtain rfl := some_inj hF3
    obtain rfl := some_inj hL1
    refine cw_seq ?_
    refine cw_region ?_
    refine sq 28 rfl rfl (Y_move (v := .int .i64 word) rfl (hf.get 7 3 rfl)) ?_
    refine sq 6 rfl rfl (Y_assign (v := .int .i64 word) rfl rfl) ?_
    refine rw_nil ?_
    refine cw_ret ?_
    obtain rfl := some_inj hF1
    exact ret1 Try.results95 (v1 := .int .i64 word) (resAt_tmp rfl) ⟨rfl, (ST.subR (R' := []) (hS1.sel [] rfl rfl) (fun _ h => by cases h))⟩

theorem c_spec_l15Codes (n : Int)  (w0 : World)  (hS : ST w0 [] w0 [] []) {r_ : List Int} (hF : F_spec_l15Codes n = some r_) :
    CV Try.prog 49 #[.int .i64 n] w0 (fun v w' => ∃ (B : Option Addr) (c : Nat), v = .slice B r_.length c ∧ ST w0 [] w' [⟨B, 3, (r_.flatMap encI), c * 1⟩] []) := by
  unfold F_spec_l15Codes at hF
  refine cv_of_cw 30 Try.func49 rfl Try.ntmps49 rfl ?_
  refine cw_seq ?_
  refine cw_region ?_
  refine sq 2 rfl rfl (Y_assign (v := .slice none 0 0) rfl rfl) ?_
  refine rw_nil ?_
  refine cw_seq ?_
  refine cw_region ?_
  refine ss 5 rfl rfl (Ys_bslice (s := 1) (len := 1) (vs := [(0, .int .i64 0)]) (cs := [.int .i64 0]) (zs := [.int .i64 0]) (m := 1) hS k_sl_41_3 k_sz_3_1 k_zc_3 rfl (mpc rfl mpn) rfl rfl rfl (by kernel_rfl) (by kernel_rfl) rfl) ?_
  rintro _ w_ ⟨b, rfl, hS1⟩
  refine sq 3 rfl rfl (Y_assign (v := .slice (some ⟨b, 0, none⟩) 1 1) rfl rfl) ?_
  refine rw_nil ?_
  refine cw_seq ?_
  obtain ⟨z, hz, hF1⟩ := bind_inv hF
  refine cw_mid (fun f w => ∃ (out : List Int) (B1 : Option Addr) (c1 : Nat), out = z ∧ FF f [(0, .int .i64 n), (3, .slice B1 out.length c1)] ∧ ST w0 [] w [⟨B1, 3, (out.flatMap encI), c1 * 1⟩] []) ?_ ?_
  · skip
    refine cw_seq ?_
    refine cw_region ?_
    refine sq 6 rfl rfl (Y_move (v := .int .i64 n) rfl rfl) ?_
    refine sq 7 rfl rfl (Y_ge (k := .i64) (a := n) (b := 4) rfl rfl rfl) ?_
    refine rw_nil ?_
    refine cw_cond (b := (decide (4 ≤ n))) rfl (fun hb => ?_) (fun hb => ?_)
    · skip
      have hF2 := ct hz hb
      refine cw_region ?_
      refine sq 8 rfl rfl (Y_move (v := .slice (some ⟨b, 0, none⟩) 1 1) rfl rfl) ?_
      refine sq 9 rfl rfl (Y_move (v := .int .i64 n) rfl rfl) ?_
      obtain ⟨r_1, hc, hF2⟩ := bind_inv hF2
      refine sc 10 rfl rfl (Yc_func (g := 95) (vs := [.int .i64 n, .int .i64 0, .int .i64 1]) k_call_95 rfl (mc rfl (mc rfl (mc rfl mn))) (c_spec_l15Affine n 0 1 _  (hS1.inn0 [] rfl) hc)) ?_
      rintro _ w_1 ⟨rfl, hd⟩
      have hS3 := hS1.out00 hd
      obtain ⟨r_2, hc1, hF2⟩ := bind_inv hF2
      refine sc 11 rfl rfl (Yc_func (g := 94) (vs := [.slice (some ⟨b, 0, none⟩) 1 1, .int .i64 r_1]) k_call_94 rfl (mc rfl (mc rfl mn)) (c_spec_l1Put [0] r_1 (some ⟨b, 0, none⟩) 1 1 _ rfl (hS3.inn [true] rfl [] rfl) hc1)) ?_
      rintro _ w_2 ⟨B2, c2, rfl, hd1⟩
      have hS4 := hS3.out [true] rfl hd1
      refine sq 3 rfl rfl (Y_assign (v := .slice B2 r_2.length c2) rfl rfl) ?_
      refine rw_nil ?_
      exact ⟨r_2, B2, c2, (some_inj hF2), (FF.cons rfl (FF.cons rfl FF.nil)), (hS4.sel [0] rfl rfl)⟩
    · skip
      have hF3 := cf' hz hb
      refine cw_skip ?_
      exact ⟨[0], some ⟨b, 0, none⟩, 1, (some_inj hF3), (FF.cons rfl (FF.cons rfl FF.nil)), (hS1.sel [0] rfl rfl)⟩
  rintro f w ⟨out, B1, c1, rfl, hf, hS2⟩
  refine cw_seq ?_
  refine cw_seq ?_
  refine cw_region ?_
  refine sq 4 rfl rfl (Y_assign (v := .int .i64 1) rfl rfl) ?_
  refine rw_nil ?_
  obtain ⟨z1, hz1, hF4⟩ := bind_inv hF1
  refine cw_block ?_
  refine cw_loop (fun k f w => ∃ (out1 : List Int) (a : Int) (B3 : Option Addr) (c3 : Nat), FF f [(0, .int .i64 n), (3, .slice B3 out1.length c3), (4, .int .i64 a)] ∧ ST w0 [] w [⟨B3, 3, (out1.flatMap encI), c3 * 1⟩] [] ∧ whX (F_spec_l15Codes_l1 n) k (out1, a) = some z1) fuel ⟨out, 1, B1, c1, (FF.cons (hf.get 0 0 rfl) (FF.cons (hf.get 3 1 rfl) (FF.cons rfl FF.nil))), (hS2.sel [0] rfl rfl), hz1⟩ ?_
  rintro k_ f w ⟨out1, a, B3, c3, hf1, hS5, hL⟩
  obtain ⟨k_1, y, rfl, hb1, hL1⟩ := whX_go hL
  unfold F_spec_l15Codes_l1 at hb1
  refine cw_seq ?_
  refine cw_seq ?_
  refine cw_region ?_
  refine sq 12 rfl rfl (Y_move (v := .int .i64 n) rfl (hf1.get 0 0 rfl)) ?_
  refine sq 13 rfl rfl (Y_eq (k := .i64) (a := n) (b := 5) rfl rfl rfl) ?_
  refine sq 14 rfl rfl (Y_move (v := .bool (n == 5)) rfl rfl) ?_
  refine sgq 15 (B := (n == 5)) (v := .int .i64 a) rfl rfl (wt_t (gd_of (t := 14) (by kernel_rfl) rfl)) (fun hg => (Y_move (v := .int .i64 a) rfl (hf1.get 4 2 rfl))) ?_
  refine sgq 16 (B := (n == 5)) (v := .bool (decide (a < 32))) rfl rfl (wt_t (gd_of (t := 14) (by kernel_rfl) rfl)) (fun hg1 => (Y_lt (k := .i64) (a := a) (b := 32) rfl (gv_of (B := (n == 5)) (v := .int .i64 a) hg1) rfl)) ?_
  refine sq 17 rfl rfl (Y_and (b := (n == 5)) (z := (decide (a < 32))) rfl rfl rfl rfl) ?_
  refine rw_nil ?_
  refine cw_cond (b := ((n == 5) && (decide (a < 32)))) rfl (fun hb2 => ?_) (fun hb2 => ?_)
  · skip
    have hF5 := ct hb1 hb2
    refine cw_skip ?_
    refine cw_seq ?_
    refine cw_block ?_
    refine cw_region ?_
    refine sq 20 rfl rfl (Y_move (v := .slice B3 out1.length c3) rfl (hf1.get 3 1 rfl)) ?_
    refine sq 21 rfl rfl (Y_move (v := .int .i64 n) rfl (hf1.get 0 0 rfl)) ?_
    refine sq 22 rfl rfl (Y_move (v := .int .i64 a) rfl (hf1.get 4 2 rfl)) ?_
    obtain ⟨r_3, hc2, hF5⟩ := bind_inv hF5
    refine sc 23 rfl rfl (Yc_func (g := 95) (vs := [.int .i64 n, .int .i64 a, .int .i64 0]) k_call_95 rfl (mc rfl (mc rfl (mc rfl mn))) (c_spec_l15Affine n a 0 _  (hS5.inn0 [] rfl) hc2)) ?_
    rintro _ w_3 ⟨rfl, hd2⟩
    have hS6 := hS5.out00 hd2
    obtain ⟨r_4, hc3, hF5⟩ := bind_inv hF5
    refine sc 24 rfl rfl (Yc_func (g := 94) (vs := [.slice B3 out1.length c3, .int .i64 r_3]) k_call_94 rfl (mc rfl (mc rfl mn)) (c_spec_l1Put out1 r_3 B3 c3 out1.length _ rfl (hS6.inn [true] rfl [] rfl) hc3)) ?_
    rintro _ w_4 ⟨B4, c4, rfl, hd3⟩
    have hS7 := hS6.out [true] rfl hd3
    refine sq 25 rfl rfl (Y_move (v := .int .i64 n) rfl (hf1.get 0 0 rfl)) ?_
    refine sq 26 rfl rfl (Y_move (v := .int .i64 a) rfl (hf1.get 4 2 rfl)) ?_
    obtain ⟨r_5, hc4, hF5⟩ := bind_inv hF5
    refine sc 27 rfl rfl (Yc_func (g := 95) (vs := [.int .i64 n, .int .i64 a, .int .i64 1]) k_call_95 rfl (mc rfl (mc rfl (mc rfl mn))) (c_spec_l15Affine n a 1 _  (hS7.inn0 [] rfl) hc4)) ?_
    rintro _ w_5 ⟨rfl, hd4⟩
    have hS8 := hS7.out00 hd4
    obtain ⟨r_6, hc5, hF5⟩ := bind_inv hF5
    refine sc 28 rfl rfl (Yc_func (g := 94) (vs := [.slice B4 r_4.length c4, .int .i64 r_5]) k_call_94 rfl (mc rfl (mc rfl mn)) (c_spec_l1Put r_4 r_5 B4 c4 r_4.length _ rfl (hS8.inn [true] rfl [] rfl) hc5)) ?_
    rintro _ w_6 ⟨B5, c5, rfl, hd5⟩
    have hS9 := hS8.out [true] rfl hd5
    refine sq 3 rfl rfl (Y_assign (v := .slice B5 r_6.length c5) rfl rfl) ?_
    refine rw_nil ?_
    refine cw_region ?_
    refine sq 18 rfl rfl (Y_move (v := .int .i64 a) rfl (hf1.get 4 2 rfl)) ?_
    refine sq 19 rfl rfl (Y_add (k := .i64) (a := a) (b := 1) rfl rfl rfl) ?_
    refine sq 4 rfl rfl (Y_assign (v := .int .i64 (IntKind.i64.wrap (a + 1))) rfl rfl) ?_
    refine rw_nil ?_
    obtain rfl := some_inj hF5
    exact ⟨k_1, Nat.lt_succ_self _, r_6, (IntKind.i64.wrap (a + 1)), B5, c5, (FF.cons (hf1.get 0 0 rfl) (FF.cons rfl (FF.cons rfl FF.nil))), (hS9.sel [0] rfl rfl), hL1⟩
  · skip
    have hF6 := cf' hb1 hb2
    refine cw_exit rfl ?_
    obtain rfl := some_inj hF6
    obtain rfl := some_inj hL1
    refine cw_seq ?_
    refine cw_region ?_
    refine sq 29 rfl rfl (Y_move (v := .slice B3 out1.length c3) rfl (hf1.get 3 1 rfl)) ?_
    refine sq 2 rfl rfl (Y_assign (v := .slice B3 out1.length c3) rfl rfl) ?_
    refine rw_nil ?_
    refine cw_ret ?_
    obtain rfl := some_inj hF4
    exact ret1 Try.results49 (v1 := .slice B3 out1.length c3) (resAt_tmp rfl) ⟨B3, c3, rfl, (ST.subR (R' := []) (hS5.sel [0] rfl rfl) (fun _ h => by cases h))⟩

theorem c_spec_l13By (p : TPhasePoly) (B : Option Addr) (c n : Nat) (B1 : Option Addr) (c1 n1 : Nat) (w0 : World) (hn : p.Terms.length = n) (hn1 : p.Out.Rows.length = n1) (hS : ST w0 [] w0 [] [⟨B, (p.Terms.flatMap enc_Term)⟩, ⟨B1, (p.Out.Rows.flatMap encI)⟩]) {r_ : List Int} (hF : F_spec_l13By p = some r_) :
    CV Try.prog 96 #[.agg #[.int .i64 p.Qubits, .int .i64 p.Phase, .slice B n c, .slice B1 n1 c1]] w0 (fun v w' => ∃ (B2 : Option Addr) (c2 : Nat), v = .slice B2 r_.length c2 ∧ ST w0 [] w' [⟨B2, 3, (r_.flatMap encI), c2 * 1⟩] []) := by
  subst hn
  subst hn1
  unfold F_spec_l13By at hF
  refine cv_of_cw 26 Try.func96 rfl Try.ntmps96 rfl ?_
  refine cw_seq ?_
  refine cw_region ?_
  refine ss 1 rfl rfl (Ys_box (T := 50) (v := .agg #[.int .i64 p.Qubits, .int .i64 p.Phase, .slice B p.Terms.length c, .slice B1 p.Out.Rows.length c1]) (cs := [.int .i64 p.Qubits, .int .i64 p.Phase, .slice B p.Terms.length c, .slice B1 p.Out.Rows.length c1]) (m := 4) hS rfl rfl rfl rfl) ?_
  rintro _ w_ ⟨b, rfl, hS1⟩
  refine sq 2 rfl rfl (Y_assign (v := .slice none 0 0) rfl rfl) ?_
  refine rw_nil ?_
  refine cw_seq ?_
  refine cw_region ?_
  refine sq 6 rfl rfl (Y_fieldAddr (B := some ⟨b, 0, none⟩) (i := 0) (s := 0) k_fd_50_0_0_3 k_sz_3_1 rfl rfl) ?_
  refine sq 7 rfl rfl (Y_load1 (B := some ⟨b, 0, none⟩) (i := 0) (cs := [.int .i64 p.Qubits, .int .i64 p.Phase, .slice B p.Terms.length c, .slice B1 p.Out.Rows.length c1]) (v := .int .i64 p.Qubits) k_sc_3 rfl rfl (hS1.cf (i := 0) rfl) rfl) ?_
  refine sq 8 rfl rfl (Y_conv (k := .i64) (a := p.Qubits) (T := 3) (T' := 66) k_us_3 k_int_66_u64 rfl rfl) ?_
  obtain ⟨hsh, hF⟩ := chk_inv hF
  refine sq 9 rfl rfl (Y_shl (k := .i64) (a := 1) (k' := .u64) (b := (IntKind.u64.wrap p.Qubits)) rfl rfl rfl hsh) ?_
  obtain ⟨hmk, hF⟩ := chk_inv hF
  refine ss 10 rfl rfl (Ys_make (s := 1) (by' := 8) (nn := (shlK .i64 1 (IntKind.u64.wrap p.Qubits)).toNat) (a := (shlK .i64 1 (IntKind.u64.wrap p.Qubits))) (b := (shlK .i64 1 (IntKind.u64.wrap p.Qubits))) (cs := ((List.replicate ((shlK .i64 1 (IntKind.u64.wrap p.Qubits)).toNat) 0).flatMap encI)) hS1 k_sl_41_3 k_sz_3_1 k_by_3_8 k_zero_3 rfl rfl rfl rfl hmk.1 rfl (by have := hmk; omega) (by have := hmk; omega) (by omega) (fm_rep (enc := encI) (d := 0) rfl _)) ?_
  rintro _ w_1 ⟨b1, rfl, hS2⟩
  have hS2 : ST w0 [] _ [⟨some ⟨b, 0, none⟩, 50, [.int .i64 p.Qubits, .int .i64 p.Phase, .slice B p.Terms.length c, .slice B1 p.Out.Rows.length c1], 4⟩, ⟨some ⟨b1, 0, none⟩, 3, ((List.replicate ((shlK .i64 1 (IntKind.u64.wrap p.Qubits)).toNat) 0).flatMap encI), ((shlK .i64 1 (IntKind.u64.wrap p.Qubits)).toNat) * 1⟩] [⟨B, (p.Terms.flatMap enc_Term)⟩, ⟨B1, (p.Out.Rows.flatMap encI)⟩] := hS2
  refine sq 3 rfl rfl (Y_assign (v := .slice (some ⟨b1, 0, none⟩) ((shlK .i64 1 (IntKind.u64.wrap p.Qubits)).toNat) ((shlK .i64 1 (IntKind.u64.wrap p.Qubits)).toNat)) rfl rfl) ?_
  refine rw_nil ?_
  refine cw_seq ?_
  refine cw_seq ?_
  refine cw_region ?_
  refine sq 11 rfl rfl (Y_fieldAddr (B := some ⟨b, 0, none⟩) (i := 0) (s := 0) k_fd_50_2_2_47 k_sz_47_1 rfl rfl) ?_
  refine sq 12 rfl rfl (Y_load1 (B := some ⟨b, 0, none⟩) (i := 2) (cs := [.int .i64 p.Qubits, .int .i64 p.Phase, .slice B p.Terms.length c, .slice B1 p.Out.Rows.length c1]) (v := .slice B p.Terms.length c) k_sc_47 rfl rfl (hS2.cf (i := 0) rfl) rfl) ?_
  refine sq 13 rfl rfl (Y_len (B := B) (m := p.Terms.length) (c := c) k_sl_47_95 rfl rfl) ?_
  refine sq 14 rfl rfl (Y_move (v := .int .i64 0) rfl rfl) ?_
  refine rw_nil ?_
  obtain ⟨hN, hF⟩ := chk_inv hF
  obtain ⟨z, hz, hF1⟩ := bind_inv hF
  refine cw_block ?_
  refine cw_loop (fun k f w => ∃ (i : Nat) (by_ : List Int), FF f [(3, .slice (some ⟨b1, 0, none⟩) ((shlK .i64 1 (IntKind.u64.wrap p.Qubits)).toNat) ((shlK .i64 1 (IntKind.u64.wrap p.Qubits)).toNat)), (12, .slice B p.Terms.length c), (13, .int .i64 (p.Terms.length : Int)), (14, .int .i64 (i : Int))] ∧ by_.length = (shlK .i64 1 (IntKind.u64.wrap p.Qubits)).toNat ∧ ST w0 [] w [⟨some ⟨b1, 0, none⟩, 3, (by_.flatMap encI), ((shlK .i64 1 (IntKind.u64.wrap p.Qubits)).toNat) * 1⟩] [⟨B, (p.Terms.flatMap enc_Term)⟩, ⟨B1, (p.Out.Rows.flatMap encI)⟩] ∧ i + k = p.Terms.length ∧ forN (F_spec_l13By_l1 p) k i by_ = some z) p.Terms.length ⟨0, (List.replicate ((shlK .i64 1 (IntKind.u64.wrap p.Qubits)).toNat) 0), (FF.cons rfl (FF.cons rfl (FF.cons rfl (FF.cons rfl FF.nil)))), List.length_replicate, (hS2.sel [1] rfl rfl), Nat.zero_add _, hz⟩ ?_
  rintro k_ f w ⟨i, by_, hf, hl, hS3, hik, hL⟩
  refine cw_seq ?_
  refine cw_region ?_
  refine sq 15 rfl rfl (Y_lt (k := .i64) (a := (i : Int)) (b := (p.Terms.length : Int)) rfl (hf.get 14 3 rfl) (hf.get 13 2 rfl)) ?_
  refine rw_nil ?_
  refine cw_seq ?_
  refine cw_cond (b := (decide ((i : Int) < (p.Terms.length : Int)))) rfl (fun hlt => ?_) (fun hlt => ?_)
  · skip
    have hlt1 : i < p.Terms.length := by have h := of_decide_eq_true hlt; omega
    obtain ⟨k_1, rfl⟩ : ∃ k2, k_ = k2 + 1 := ⟨k_ - 1, by omega⟩
    obtain ⟨y, hb, hL1⟩ := forN_go hL
    unfold F_spec_l13By_l1 at hb
    refine cw_skip ?_
    refine cw_seq ?_
    refine cw_block ?_
    refine cw_seq ?_
    refine cw_region ?_
    obtain ⟨x, hx, hb⟩ := bind_inv hb
    refine sq 16 rfl rfl (Y_index (B := B) (m := p.Terms.length) (c := c) (k := .i64) (i := (i : Int)) k_sl_47_95 k_sz_95_2 rfl (hf.get 12 1 rfl) (hf.get 14 3 rfl) (gi_isSome enc_Term_len rfl (hS3.rf (i := 0) rfl) hx) (getI_nn hx) (getI_ltI hx rfl)) ?_
    refine sq 17 rfl rfl (Y_loadA (B := B) (i := (i : Int).toNat * 2) (cs := (p.Terms.flatMap enc_Term)) (vs := [.int .i64 x.Mask, .int .i64 x.Coef]) k_ag_95 k_sz_95_2 rfl rfl (hS3.rf (i := 0) rfl) (enc_Term_len x) (gi_seg enc_Term_len hx)) ?_
    refine ss 5 rfl rfl (Ys_alloc (T := 95) (cs := [.int .i64 0, .int .i64 0]) (m := 2) hS3 k_zero_95 rfl rfl rfl) ?_
    rintro _ w_2 ⟨b2, rfl, hS4⟩
    have hS4 : ST w0 [] _ [⟨some ⟨b1, 0, none⟩, 3, (by_.flatMap encI), ((shlK .i64 1 (IntKind.u64.wrap p.Qubits)).toNat) * 1⟩, ⟨some ⟨b2, 0, none⟩, 95, [.int .i64 0, .int .i64 0], 2⟩] [⟨B, (p.Terms.flatMap enc_Term)⟩, ⟨B1, (p.Out.Rows.flatMap encI)⟩] := hS4
    refine ss0 rfl rfl (Ys_store (i := 1) (s := 2) (B := some ⟨b2, 0, none⟩) (T' := 95) (v := .agg #[.int .i64 x.Mask, .int .i64 x.Coef]) (vs := [.int .i64 x.Mask, .int .i64 x.Coef]) (k := 0) (cs' := [.int .i64 x.Mask, .int .i64 x.Coef]) hS4 k_sz_95_2 rfl rfl rfl rfl rfl rfl rfl (Nat.le_of_ble_eq_true rfl) rfl rfl) ?_
    rintro _ w_3 ⟨rfl, hS5⟩
    have hS5 : ST w0 [] _ [⟨some ⟨b1, 0, none⟩, 3, (by_.flatMap encI), ((shlK .i64 1 (IntKind.u64.wrap p.Qubits)).toNat) * 1⟩, ⟨some ⟨b2, 0, none⟩, 95, [.int .i64 x.Mask, .int .i64 x.Coef], 2⟩] [⟨B, (p.Terms.flatMap enc_Term)⟩, ⟨B1, (p.Out.Rows.flatMap encI)⟩] := hS5
    refine rw_nil ?_
    refine cw_region ?_
    refine sq 18 rfl rfl (Y_move (v := .slice (some ⟨b1, 0, none⟩) ((shlK .i64 1 (IntKind.u64.wrap p.Qubits)).toNat) ((shlK .i64 1 (IntKind.u64.wrap p.Qubits)).toNat)) rfl (hf.get 3 0 rfl)) ?_
    refine sq 19 rfl rfl (Y_fieldAddr (B := some ⟨b2, 0, none⟩) (i := 0) (s := 0) k_fd_95_0_0_3 k_sz_3_1 rfl rfl) ?_
    refine sq 20 rfl rfl (Y_load1 (B := some ⟨b2, 0, none⟩) (i := 0) (cs := [.int .i64 x.Mask, .int .i64 x.Coef]) (v := .int .i64 x.Mask) k_sc_3 rfl rfl (hS5.cf (i := 1) rfl) rfl) ?_
    refine sq 21 rfl rfl (Y_fieldAddr (B := some ⟨b2, 0, none⟩) (i := 0) (s := 0) k_fd_95_1_1_3 k_sz_3_1 rfl rfl) ?_
    refine sq 22 rfl rfl (Y_load1 (B := some ⟨b2, 0, none⟩) (i := 1) (cs := [.int .i64 x.Mask, .int .i64 x.Coef]) (v := .int .i64 x.Coef) k_sc_3 rfl rfl (hS5.cf (i := 1) rfl) rfl) ?_
    obtain ⟨x1, hx1, hb⟩ := bind_inv hb
    refine sq 23 rfl rfl (Y_index (B := some ⟨b1, 0, none⟩) (m := (shlK .i64 1 (IntKind.u64.wrap p.Qubits)).toNat) (c := (shlK .i64 1 (IntKind.u64.wrap p.Qubits)).toNat) (k := .i64) (i := x.Mask) k_sl_41_3 k_sz_3_1 rfl rfl rfl (gi_isSome encI_len rfl (hS5.cf (i := 0) rfl) hx1) (getI_nn hx1) (getI_ltI hx1 hl)) ?_
    refine ss0 rfl rfl (Ys_store (i := 0) (s := 1) (B := some ⟨b1, 0, none⟩) (T' := 3) (v := .int .i64 x.Coef) (vs := [.int .i64 x.Coef]) (k := x.Mask.toNat * 1) (cs' := ((by_.set x.Mask.toNat x.Coef).flatMap encI)) hS5 k_sz_3_1 rfl rfl rfl rfl rfl rfl rfl (gi_fit0 encI_len hx1) (gi_set encI_len hx1 x.Coef rfl) rfl) ?_
    rintro _ w_4 ⟨rfl, hS6⟩
    have hS6 : ST w0 [] _ [⟨some ⟨b1, 0, none⟩, 3, ((by_.set x.Mask.toNat x.Coef).flatMap encI), ((shlK .i64 1 (IntKind.u64.wrap p.Qubits)).toNat) * 1⟩, ⟨some ⟨b2, 0, none⟩, 95, [.int .i64 x.Mask, .int .i64 x.Coef], 2⟩] [⟨B, (p.Terms.flatMap enc_Term)⟩, ⟨B1, (p.Out.Rows.flatMap encI)⟩] := hS6
    refine rw_nil ?_
    refine cw_region ?_
    refine sq 24 rfl rfl (Y_add (k := .i64) (a := (i : Int)) (b := 1) rfl (hf.get 14 3 rfl) rfl) ?_
    refine sq 14 rfl rfl (Y_move (v := .int .i64 (IntKind.i64.wrap ((i : Int) + 1))) rfl rfl) ?_
    refine rw_nil ?_
    obtain rfl := some_inj hb
    exact ⟨k_1, Nat.lt_succ_self _, i + 1, (by_.set x.Mask.toNat x.Coef), (FF.cons (hf.get 3 0 rfl) (FF.cons (hf.get 12 1 rfl) (FF.cons (hf.get 13 2 rfl) (FF.cons (congrArg (Value.int .i64) (wr_succ hlt1 hN)) FF.nil)))), (set_len _ _ _ hl), (hS6.sel [0] rfl rfl), (by omega), hL1⟩
  · skip
    obtain rfl : k_ = 0 := by have h := of_decide_eq_false hlt; omega
    refine cw_exit rfl ?_
    obtain rfl := some_inj hL
    refine cw_seq ?_
    refine cw_region ?_
    refine sq 25 rfl rfl (Y_move (v := .slice (some ⟨b1, 0, none⟩) ((shlK .i64 1 (IntKind.u64.wrap p.Qubits)).toNat) ((shlK .i64 1 (IntKind.u64.wrap p.Qubits)).toNat)) rfl (hf.get 3 0 rfl)) ?_
    refine sq 2 rfl rfl (Y_assign (v := .slice (some ⟨b1, 0, none⟩) ((shlK .i64 1 (IntKind.u64.wrap p.Qubits)).toNat) ((shlK .i64 1 (IntKind.u64.wrap p.Qubits)).toNat)) rfl rfl) ?_
    refine rw_nil ?_
    refine cw_ret ?_
    obtain rfl := some_inj hF1
    exact ret1 Try.results96 (v1 := .slice (some ⟨b1, 0, none⟩) ((shlK .i64 1 (IntKind.u64.wrap p.Qubits)).toNat) ((shlK .i64 1 (IntKind.u64.wrap p.Qubits)).toNat)) (resAt_tmp rfl) ⟨some ⟨b1, 0, none⟩, (shlK .i64 1 (IntKind.u64.wrap p.Qubits)).toNat, (sl_eqv hl), (ST.subR (R' := []) (hS3.sel [0] rfl rfl) (fun _ h => by cases h))⟩

theorem c_spec_l13List (by_ : List Int) (B : Option Addr) (c n : Nat) (w0 : World) (hn : by_.length = n) (hS : ST w0 [] w0 [] [⟨B, (by_.flatMap encI)⟩]) {r_ : List TTerm} (hF : F_spec_l13List by_ = some r_) :
    CV Try.prog 98 #[.slice B n c] w0 (fun v w' => ∃ (B1 : Option Addr) (c1 : Nat), v = .slice B1 r_.length c1 ∧ ST w0 [] w' [⟨B1, 95, (r_.flatMap enc_Term), c1 * 2⟩] []) := by
  subst hn
  unfold F_spec_l13List at hF
  refine cv_of_cw 31 Try.func98 rfl Try.ntmps98 rfl ?_
  refine cw_seq ?_
  refine cw_region ?_
  refine sq 2 rfl rfl (Y_assign (v := .slice none 0 0) rfl rfl) ?_
  refine rw_nil ?_
  refine cw_seq ?_
  refine cw_region ?_
  refine sq 3 rfl rfl (Y_assign (v := .slice none 0 0) rfl rfl) ?_
  refine rw_nil ?_
  refine cw_seq ?_
  refine cw_seq ?_
  refine cw_region ?_
  refine sq 6 rfl rfl (Y_move (v := .slice B by_.length c) rfl rfl) ?_
  refine sq 7 rfl rfl (Y_len (B := B) (m := by_.length) (c := c) k_sl_41_3 rfl rfl) ?_
  refine sq 8 rfl rfl (Y_move (v := .int .i64 0) rfl rfl) ?_
  refine rw_nil ?_
  obtain ⟨hN, hF⟩ := chk_inv hF
  obtain ⟨z, hz, hF1⟩ := bind_inv hF
  have hS2 := hS.addNil 95
  refine cw_block ?_
  refine cw_loop (fun k f w => ∃ (i : Nat) (out : List TTerm) (B2 : Option Addr) (c2 : Nat), FF f [(3, .slice B2 out.length c2), (6, .slice B by_.length c), (7, .int .i64 (by_.length : Int)), (8, .int .i64 (i : Int))] ∧ ST w0 [] w [⟨B2, 95, (out.flatMap enc_Term), c2 * 2⟩] [⟨B, (by_.flatMap encI)⟩] ∧ i + k = by_.length ∧ forN (F_spec_l13List_l1 by_) k i out = some z) by_.length ⟨0, [], none, 0, (FF.cons rfl (FF.cons rfl (FF.cons rfl (FF.cons rfl FF.nil)))), (hS2.sel [0] rfl rfl), Nat.zero_add _, hz⟩ ?_
  rintro k_ f w ⟨i, out, B2, c2, hf, hS1, hik, hL⟩
  refine cw_seq ?_
  refine cw_region ?_
  refine sq 9 rfl rfl (Y_lt (k := .i64) (a := (i : Int)) (b := (by_.length : Int)) rfl (hf.get 8 3 rfl) (hf.get 7 2 rfl)) ?_
  refine rw_nil ?_
  refine cw_seq ?_
  refine cw_cond (b := (decide ((i : Int) < (by_.length : Int)))) rfl (fun hlt => ?_) (fun hlt => ?_)
  · skip
    have hlt1 : i < by_.length := by have h := of_decide_eq_true hlt; omega
    obtain ⟨k_1, rfl⟩ : ∃ k2, k_ = k2 + 1 := ⟨k_ - 1, by omega⟩
    obtain ⟨y, hb, hL1⟩ := forN_go hL
    unfold F_spec_l13List_l1 at hb
    refine cw_skip ?_
    refine cw_seq ?_
    obtain ⟨z1, hz1, hF2⟩ := bind_inv hb
    refine cw_mid (fun f w => ∃ (out1 : List TTerm) (B3 : Option Addr) (c3 : Nat), out1 = z1 ∧ FF f [(3, .slice B3 out1.length c3), (6, .slice B by_.length c), (7, .int .i64 (by_.length : Int)), (8, .int .i64 (i : Int))] ∧ ST w0 [] w [⟨B3, 95, (out1.flatMap enc_Term), c3 * 2⟩] [⟨B, (by_.flatMap encI)⟩]) ?_ ?_
    · skip
      refine cw_block ?_
      refine cw_seq ?_
      refine cw_region ?_
      refine sq 10 rfl rfl (Y_move (v := .int .i64 (i : Int)) rfl (hf.get 8 3 rfl)) ?_
      obtain ⟨x, hx, hz1⟩ := bind_inv hz1
      refine sq 11 rfl rfl (Y_index (B := B) (m := by_.length) (c := c) (k := .i64) (i := (i : Int)) k_sl_41_3 k_sz_3_1 rfl (hf.get 6 1 rfl) (hf.get 8 3 rfl) (gi_isSome encI_len rfl (hS1.rf (i := 0) rfl) hx) (getI_nn hx) (getI_ltI hx rfl)) ?_
      refine sq 12 rfl rfl (Y_load1 (B := B) (i := (i : Int).toNat * 1) (cs := (by_.flatMap encI)) (v := .int .i64 x) k_sc_3 rfl rfl (hS1.rf (i := 0) rfl) (gi_at0 encI_len hx rfl)) ?_
      refine sq 4 rfl rfl (Y_assign (v := .int .i64 (i : Int)) rfl rfl) ?_
      refine sq 5 rfl rfl (Y_assign (v := .int .i64 x) rfl rfl) ?_
      refine rw_nil ?_
      refine cw_seq ?_
      refine cw_region ?_
      refine sq 13 rfl rfl (Y_move (v := .int .i64 x) rfl rfl) ?_
      refine sq 14 rfl rfl (Y_rem (k := .i64) (a := x) (b := 8) rfl rfl rfl (by decide)) ?_
      refine sq 15 rfl rfl (Y_add (k := .i64) (a := (Int.tmod x 8)) (b := 8) rfl rfl rfl) ?_
      refine sq 16 rfl rfl (Y_rem (k := .i64) (a := (IntKind.i64.wrap ((Int.tmod x 8) + 8))) (b := 8) rfl rfl rfl (by decide)) ?_
      refine sq 5 rfl rfl (Y_assign (v := .int .i64 (Int.tmod (IntKind.i64.wrap ((Int.tmod x 8) + 8)) 8)) rfl rfl) ?_
      refine rw_nil ?_
      refine cw_seq ?_
      refine cw_region ?_
      refine sq 17 rfl rfl (Y_move (v := .int .i64 (i : Int)) rfl rfl) ?_
      refine sq 18 rfl rfl (Y_gt (k := .i64) (a := (i : Int)) (b := 0) rfl rfl rfl) ?_
      refine sq 19 rfl rfl (Y_move (v := .bool (decide (0 < (i : Int)))) rfl rfl) ?_
      refine sgq 20 (B := (decide (0 < (i : Int)))) (v := .int .i64 (Int.tmod (IntKind.i64.wrap ((Int.tmod x 8) + 8)) 8)) rfl rfl (wt_t (gd_of (t := 19) (by kernel_rfl) rfl)) (fun hg => (Y_move (v := .int .i64 (Int.tmod (IntKind.i64.wrap ((Int.tmod x 8) + 8)) 8)) rfl rfl)) ?_
      refine sgq 21 (B := (decide (0 < (i : Int)))) (v := .bool (decide (0 < (Int.tmod (IntKind.i64.wrap ((Int.tmod x 8) + 8)) 8)))) rfl rfl (wt_t (gd_of (t := 19) (by kernel_rfl) rfl)) (fun hg1 => (Y_gt (k := .i64) (a := (Int.tmod (IntKind.i64.wrap ((Int.tmod x 8) + 8)) 8)) (b := 0) rfl (gv_of (B := (decide (0 < (i : Int)))) (v := .int .i64 (Int.tmod (IntKind.i64.wrap ((Int.tmod x 8) + 8)) 8)) hg1) rfl)) ?_
      refine sq 22 rfl rfl (Y_and (b := (decide (0 < (i : Int)))) (z := (decide (0 < (Int.tmod (IntKind.i64.wrap ((Int.tmod x 8) + 8)) 8)))) rfl rfl rfl rfl) ?_
      refine rw_nil ?_
      refine cw_cond (b := ((decide (0 < (i : Int))) && (decide (0 < (Int.tmod (IntKind.i64.wrap ((Int.tmod x 8) + 8)) 8))))) rfl (fun hb1 => ?_) (fun hb1 => ?_)
      · skip
        have hF3 := ct hz1 hb1
        refine cw_region ?_
        refine sq 23 rfl rfl (Y_move (v := .slice B2 out.length c2) rfl (hf.get 3 0 rfl)) ?_
        refine sq 24 rfl rfl (Y_move (v := .int .i64 (i : Int)) rfl rfl) ?_
        refine sq 25 rfl rfl (Y_move (v := .int .i64 (Int.tmod (IntKind.i64.wrap ((Int.tmod x 8) + 8)) 8)) rfl rfl) ?_
        refine sq 26 rfl rfl (Y_buildS (zs := [.int .i64 0, .int .i64 0]) (vs := [(0, .int .i64 (i : Int)), (1, .int .i64 (Int.tmod (IntKind.i64.wrap ((Int.tmod x 8) + 8)) 8))]) (cs := [.int .i64 (i : Int), .int .i64 (Int.tmod (IntKind.i64.wrap ((Int.tmod x 8) + 8)) 8)]) k_pl_95 k_zero_95 rfl (mpc rfl (mpc rfl mpn)) rfl) ?_
        refine ss 27 rfl rfl (Ys_bslice (s := 2) (len := 1) (vs := [(0, .agg #[.int .i64 (i : Int), .int .i64 (Int.tmod (IntKind.i64.wrap ((Int.tmod x 8) + 8)) 8)])]) (cs := [.int .i64 (i : Int), .int .i64 (Int.tmod (IntKind.i64.wrap ((Int.tmod x 8) + 8)) 8)]) (zs := [.int .i64 0, .int .i64 0]) (m := 2) hS1 k_sl_47_95 k_sz_95_2 k_zc_95 rfl (mpc rfl mpn) rfl rfl rfl (by kernel_rfl) (by kernel_rfl) rfl) ?_
        rintro _ w_ ⟨b, rfl, hS4⟩
        have hS4 : ST w0 [] _ [⟨B2, 95, (out.flatMap enc_Term), c2 * 2⟩, ⟨some ⟨b, 0, none⟩, 95, ([(TTerm.mk (i : Int) (Int.tmod (IntKind.i64.wrap ((Int.tmod x 8) + 8)) 8))].flatMap enc_Term), 1 * 2⟩] [⟨B, (by_.flatMap encI)⟩] := hS4
        obtain ⟨hap, hF3⟩ := chk_inv hF3
        refine ss 28 rfl rfl (Ys_append (s := 2) (by' := 16) (i := 0) (nn := out.length) (c := c2) (k := 1) (len := (out ++ [(TTerm.mk (i : Int) (Int.tmod (IntKind.i64.wrap ((Int.tmod x 8) + 8)) 8))]).length) (B := B2) (xs := ([(TTerm.mk (i : Int) (Int.tmod (IntKind.i64.wrap ((Int.tmod x 8) + 8)) 8))].flatMap enc_Term)) (cs' := ((out ++ [(TTerm.mk (i : Int) (Int.tmod (IntKind.i64.wrap ((Int.tmod x 8) + 8)) 8))]).flatMap enc_Term)) hS4 k_sl_47_95 k_sz_95_2 k_by_95_16 k_zero_95 rfl (by decide) rfl rfl rfl rfl (fm_lenn (l := out) enc_Term_len rfl) rfl (hS4.cf (i := 1) rfl) (fm_lenn (l := [(TTerm.mk (i : Int) (Int.tmod (IntKind.i64.wrap ((Int.tmod x 8) + 8)) 8))]) enc_Term_len rfl) (fm_one' (enc := enc_Term) enc_Term_one [(TTerm.mk (i : Int) (Int.tmod (IntKind.i64.wrap ((Int.tmod x 8) + 8)) 8))]) (by have := hap; omega) (by have := hap; simp only [maxLen]; omega) (fm_app _ _) (app_len (l := out) (l' := [(TTerm.mk (i : Int) (Int.tmod (IntKind.i64.wrap ((Int.tmod x 8) + 8)) 8))]) rfl rfl)) ?_
        rintro _ w_1 ⟨B4, c4, rfl, hS5⟩
        have hS5 : ST w0 [] _ [⟨B4, 95, ((out ++ [(TTerm.mk (i : Int) (Int.tmod (IntKind.i64.wrap ((Int.tmod x 8) + 8)) 8))]).flatMap enc_Term), c4 * 2⟩, ⟨some ⟨b, 0, none⟩, 95, ([(TTerm.mk (i : Int) (Int.tmod (IntKind.i64.wrap ((Int.tmod x 8) + 8)) 8))].flatMap enc_Term), 1 * 2⟩] [⟨B, (by_.flatMap encI)⟩] := hS5
        refine sq 3 rfl rfl (Y_assign (v := .slice B4 ((out ++ [(TTerm.mk (i : Int) (Int.tmod (IntKind.i64.wrap ((Int.tmod x 8) + 8)) 8))]).length) c4) rfl rfl) ?_
        refine rw_nil ?_
        exact ⟨(out ++ [(TTerm.mk (i : Int) (Int.tmod (IntKind.i64.wrap ((Int.tmod x 8) + 8)) 8))]), B4, c4, (some_inj hF3), (FF.cons rfl (FF.cons (hf.get 6 1 rfl) (FF.cons (hf.get 7 2 rfl) (FF.cons (hf.get 8 3 rfl) FF.nil)))), (hS5.sel [0] rfl rfl)⟩
      · skip
        have hF4 := cf' hz1 hb1
        refine cw_skip ?_
        exact ⟨out, B2, c2, (some_inj hF4), (FF.cons (hf.get 3 0 rfl) (FF.cons (hf.get 6 1 rfl) (FF.cons (hf.get 7 2 rfl) (FF.cons (hf.get 8 3 rfl) FF.nil)))), (hS1.sel [0] rfl rfl)⟩
    rintro f w ⟨out1, B3, c3, rfl, hf1, hS3⟩
    refine cw_region ?_
    refine sq 29 rfl rfl (Y_add (k := .i64) (a := (i : Int)) (b := 1) rfl (hf1.get 8 3 rfl) rfl) ?_
    refine sq 8 rfl rfl (Y_move (v := .int .i64 (IntKind.i64.wrap ((i : Int) + 1))) rfl rfl) ?_
    refine rw_nil ?_
    obtain rfl := some_inj hF2
    exact ⟨k_1, Nat.lt_succ_self _, i + 1, out1, B3, c3, (FF.cons (hf1.get 3 0 rfl) (FF.cons (hf1.get 6 1 rfl) (FF.cons (hf1.get 7 2 rfl) (FF.cons (congrArg (Value.int .i64) (wr_succ hlt1 hN)) FF.nil)))), (hS3.sel [0] rfl rfl), (by omega), hL1⟩
  · skip
    obtain rfl : k_ = 0 := by have h := of_decide_eq_false hlt; omega
    refine cw_exit rfl ?_
    obtain rfl := some_inj hL
    refine cw_seq ?_
    refine cw_region ?_
    refine sq 30 rfl rfl (Y_move (v := .slice B2 out.length c2) rfl (hf.get 3 0 rfl)) ?_
    refine sq 2 rfl rfl (Y_assign (v := .slice B2 out.length c2) rfl rfl) ?_
    refine rw_nil ?_
    refine cw_ret ?_
    obtain rfl := some_inj hF1
    exact ret1 Try.results98 (v1 := .slice B2 out.length c2) (resAt_tmp rfl) ⟨B2, c2, rfl, (ST.subR (R' := []) (hS1.sel [0] rfl rfl) (fun _ h => by cases h))⟩

theorem c_spec_l15Shift (p : TPhasePoly) (word : Int) (B : Option Addr) (c n : Nat) (B1 : Option Addr) (c1 n1 : Nat) (w0 : World) (hn : p.Terms.length = n) (hn1 : p.Out.Rows.length = n1) (hS : ST w0 [] w0 [] [⟨B, (p.Terms.flatMap enc_Term)⟩, ⟨B1, (p.Out.Rows.flatMap encI)⟩]) {r_ : TPhasePoly} (hF : F_spec_l15Shift p word = some r_) :
    CV Try.prog 50 #[.agg #[.int .i64 p.Qubits, .int .i64 p.Phase, .slice B n c, .slice B1 n1 c1], .int .i64 word] w0 (fun v w' => ∃ (B2 : Option Addr) (c2 : Nat) (B3 : Option Addr) (c3 : Nat), v = .agg #[.int .i64 r_.Qubits, .int .i64 r_.Phase, .slice B2 r_.Terms.length c2, .slice B3 r_.Out.Rows.length c3] ∧ ST w0 [] w' [⟨B2, 95, (r_.Terms.flatMap enc_Term), c2 * 2⟩, ⟨B3, 3, (r_.Out.Rows.flatMap encI), c3 * 1⟩] []) := by
  subst hn
  subst hn1
  unfold F_spec_l15Shift at hF
  refine cv_of_cw 37 Try.func50 rfl Try.ntmps50 rfl ?_
  refine cw_seq ?_
  refine cw_region ?_
  refine ss 2 rfl rfl (Ys_box (T := 50) (v := .agg #[.int .i64 p.Qubits, .int .i64 p.Phase, .slice B p.Terms.length c, .slice B1 p.Out.Rows.length c1]) (cs := [.int .i64 p.Qubits, .int .i64 p.Phase, .slice B p.Terms.length c, .slice B1 p.Out.Rows.length c1]) (m := 4) hS rfl rfl rfl rfl) ?_
  rintro _ w_ ⟨b, rfl, hS1⟩
  refine ss 4 rfl rfl (Ys_alloc (T := 50) (cs := [.int .i64 0, .int .i64 0, .slice none 0 0, .slice none 0 0]) (m := 4) hS1 k_zero_50 rfl rfl rfl) ?_
  rintro _ w_1 ⟨b1, rfl, hS2⟩
  have hS2 : ST w0 [] _ [⟨some ⟨b, 0, none⟩, 50, [.int .i64 p.Qubits, .int .i64 p.Phase, .slice B p.Terms.length c, .slice B1 p.Out.Rows.length c1], 4⟩, ⟨some ⟨b1, 0, none⟩, 50, [.int .i64 0, .int .i64 0, .slice none 0 0, .slice none 0 0], 4⟩] [⟨B, (p.Terms.flatMap enc_Term)⟩, ⟨B1, (p.Out.Rows.flatMap encI)⟩] := hS2
  refine rw_nil ?_
  refine cw_seq ?_
  refine cw_region ?_
  refine sq 8 rfl rfl (Y_loadA (B := some ⟨b, 0, none⟩) (i := 0) (cs := [.int .i64 p.Qubits, .int .i64 p.Phase, .slice B p.Terms.length c, .slice B1 p.Out.Rows.length c1]) (vs := [.int .i64 p.Qubits, .int .i64 p.Phase, .slice B p.Terms.length c, .slice B1 p.Out.Rows.length c1]) k_ag_50 k_sz_50_4 rfl rfl (hS2.cf (i := 0) rfl) rfl rfl) ?_
  obtain ⟨r_1, hc, hF⟩ := bind_inv hF
  refine sc 9 rfl rfl (Yc_func (g := 96) (vs := [.agg #[.int .i64 p.Qubits, .int .i64 p.Phase, .slice B p.Terms.length c, .slice B1 p.Out.Rows.length c1]]) k_call_96 rfl (mc rfl mn) (c_spec_l13By p B c p.Terms.length B1 c1 p.Out.Rows.length _ rfl rfl (hS2.inn0 [(true, 0), (true, 1)] rfl) hc)) ?_
  rintro _ w_2 ⟨B4, c4, rfl, hd⟩
  have hS3 := hS2.out0 hd
  have hS3 : ST w0 [] _ [⟨some ⟨b, 0, none⟩, 50, [.int .i64 p.Qubits, .int .i64 p.Phase, .slice B p.Terms.length c, .slice B1 p.Out.Rows.length c1], 4⟩, ⟨some ⟨b1, 0, none⟩, 50, [.int .i64 0, .int .i64 0, .slice none 0 0, .slice none 0 0], 4⟩, ⟨B4, 3, (r_1.flatMap encI), c4 * 1⟩] [⟨B, (p.Terms.flatMap enc_Term)⟩, ⟨B1, (p.Out.Rows.flatMap encI)⟩] := hS3
  refine sq 5 rfl rfl (Y_assign (v := .slice B4 r_1.length c4) rfl rfl) ?_
  refine rw_nil ?_
  refine cw_seq ?_
  refine cw_seq ?_
  refine cw_region ?_
  refine sq 10 rfl rfl (Y_move (v := .int .i64 word) rfl rfl) ?_
  obtain ⟨r_2, hc1, hF⟩ := bind_inv hF
  refine sc 11 rfl rfl (Yc_func (g := 97) (vs := [.int .i64 word]) k_call_97 rfl (mc rfl mn) (c_spec_l1Set word _  (hS3.inn0 [] rfl) hc1)) ?_
  rintro _ w_3 ⟨B5, c5, rfl, hd1⟩
  have hS4 := hS3.out0 hd1
  have hS4 : ST w0 [] _ [⟨some ⟨b, 0, none⟩, 50, [.int .i64 p.Qubits, .int .i64 p.Phase, .slice B p.Terms.length c, .slice B1 p.Out.Rows.length c1], 4⟩, ⟨some ⟨b1, 0, none⟩, 50, [.int .i64 0, .int .i64 0, .slice none 0 0, .slice none 0 0], 4⟩, ⟨B4, 3, (r_1.flatMap encI), c4 * 1⟩, ⟨B5, 3, (r_2.flatMap encI), c5 * 1⟩] [⟨B, (p.Terms.flatMap enc_Term)⟩, ⟨B1, (p.Out.Rows.flatMap encI)⟩] := hS4
  refine sq 12 rfl rfl (Y_len (B := B5) (m := r_2.length) (c := c5) k_sl_41_3 rfl rfl) ?_
  refine sq 13 rfl rfl (Y_move (v := .int .i64 0) rfl rfl) ?_
  refine rw_nil ?_
  obtain ⟨hN, hF⟩ := chk_inv hF
  obtain ⟨z, hz, hF1⟩ := bind_inv hF
  refine cw_block ?_
  refine cw_loop (fun k f w => ∃ (i : Nat) (by_ : List Int), FF f [(2, pt (some ⟨b, 0, none⟩) 0), (4, pt (some ⟨b1, 0, none⟩) 0), (5, .slice B4 r_1.length c4), (11, .slice B5 r_2.length c5), (12, .int .i64 (r_2.length : Int)), (13, .int .i64 (i : Int))] ∧ by_.length = r_1.length ∧ ST w0 [] w [⟨some ⟨b, 0, none⟩, 50, [.int .i64 p.Qubits, .int .i64 p.Phase, .slice B p.Terms.length c, .slice B1 p.Out.Rows.length c1], 4⟩, ⟨some ⟨b1, 0, none⟩, 50, [.int .i64 0, .int .i64 0, .slice none 0 0, .slice none 0 0], 4⟩, ⟨B4, 3, (by_.flatMap encI), c4 * 1⟩, ⟨B5, 3, (r_2.flatMap encI), c5 * 1⟩] [⟨B, (p.Terms.flatMap enc_Term)⟩, ⟨B1, (p.Out.Rows.flatMap encI)⟩] ∧ i + k = r_2.length ∧ forN (F_spec_l15Shift_l1 r_2) k i by_ = some z) r_2.length ⟨0, r_1, (FF.cons rfl (FF.cons rfl (FF.cons rfl (FF.cons rfl (FF.cons rfl (FF.cons rfl FF.nil)))))), rfl, (hS4.sel [0, 1, 2, 3] rfl rfl), Nat.zero_add _, hz⟩ ?_
  rintro k_ f w ⟨i, by_, hf, hl, hS5, hik, hL⟩
  refine cw_seq ?_
  refine cw_region ?_
  refine sq 14 rfl rfl (Y_lt (k := .i64) (a := (i : Int)) (b := (r_2.length : Int)) rfl (hf.get 13 5 rfl) (hf.get 12 4 rfl)) ?_
  refine rw_nil ?_
  refine cw_seq ?_
  refine cw_cond (b := (decide ((i : Int) < (r_2.length : Int)))) rfl (fun hlt => ?_) (fun hlt => ?_)
  · skip
    have hlt1 : i < r_2.length := by have h := of_decide_eq_true hlt; omega
    obtain ⟨k_1, rfl⟩ : ∃ k2, k_ = k2 + 1 := ⟨k_ - 1, by omega⟩
    obtain ⟨y, hb, hL1⟩ := forN_go hL
    unfold F_spec_l15Shift_l1 at hb
    refine cw_skip ?_
    refine cw_seq ?_
    refine cw_block ?_
    refine cw_seq ?_
    refine cw_region ?_
    obtain ⟨x, hx, hb⟩ := bind_inv hb
    refine sq 15 rfl rfl (Y_index (B := B5) (m := r_2.length) (c := c5) (k := .i64) (i := (i : Int)) k_sl_41_3 k_sz_3_1 rfl (hf.get 11 3 rfl) (hf.get 13 5 rfl) (gi_isSome encI_len rfl (hS5.cf (i := 3) rfl) hx) (getI_nn hx) (getI_ltI hx rfl)) ?_
    refine sq 16 rfl rfl (Y_load1 (B := B5) (i := (i : Int).toNat * 1) (cs := (r_2.flatMap encI)) (v := .int .i64 x) k_sc_3 rfl rfl (hS5.cf (i := 3) rfl) (gi_at0 encI_len hx rfl)) ?_
    refine sq 7 rfl rfl (Y_assign (v := .int .i64 x) rfl rfl) ?_
    refine rw_nil ?_
    refine cw_region ?_
    refine sq 17 rfl rfl (Y_move (v := .slice B4 r_1.length c4) rfl (hf.get 5 2 rfl)) ?_
    refine sq 18 rfl rfl (Y_move (v := .int .i64 x) rfl rfl) ?_
    refine sq 19 rfl rfl (Y_add (k := .i64) (a := x) (b := 1) rfl rfl rfl) ?_
    obtain ⟨x1, hx1, hb⟩ := bind_inv hb
    refine sq 20 rfl rfl (Y_index (B := B4) (m := r_1.length) (c := c4) (k := .i64) (i := (IntKind.i64.wrap (x + 1))) k_sl_41_3 k_sz_3_1 rfl rfl rfl (gi_isSome encI_len rfl (hS5.cf (i := 2) rfl) hx1) (getI_nn hx1) (getI_ltI hx1 hl)) ?_
    refine sq 21 rfl rfl (Y_load1 (B := B4) (i := (IntKind.i64.wrap (x + 1)).toNat * 1) (cs := (by_.flatMap encI)) (v := .int .i64 x1) k_sc_3 rfl rfl (hS5.cf (i := 2) rfl) (gi_at0 encI_len hx1 rfl)) ?_
    refine sq 22 rfl rfl (Y_sub (k := .i64) (a := x1) (b := 1) rfl rfl rfl) ?_
    refine sq 23 rfl rfl (Y_index (B := B4) (m := r_1.length) (c := c4) (k := .i64) (i := (IntKind.i64.wrap (x + 1))) k_sl_41_3 k_sz_3_1 rfl rfl rfl (gi_isSome encI_len rfl (hS5.cf (i := 2) rfl) hx1) (getI_nn hx1) (getI_ltI hx1 hl)) ?_
    refine ss0 rfl rfl (Ys_store (i := 2) (s := 1) (B := B4) (T' := 3) (v := .int .i64 (IntKind.i64.wrap (x1 - 1))) (vs := [.int .i64 (IntKind.i64.wrap (x1 - 1))]) (k := (IntKind.i64.wrap (x + 1)).toNat * 1) (cs' := ((by_.set (IntKind.i64.wrap (x + 1)).toNat (IntKind.i64.wrap (x1 - 1))).flatMap encI)) hS5 k_sz_3_1 rfl rfl rfl rfl rfl rfl rfl (gi_fit0 encI_len hx1) (gi_set encI_len hx1 (IntKind.i64.wrap (x1 - 1)) rfl) rfl) ?_
    rintro _ w_4 ⟨rfl, hS6⟩
    have hS6 : ST w0 [] _ [⟨some ⟨b, 0, none⟩, 50, [.int .i64 p.Qubits, .int .i64 p.Phase, .slice B p.Terms.length c, .slice B1 p.Out.Rows.length c1], 4⟩, ⟨some ⟨b1, 0, none⟩, 50, [.int .i64 0, .int .i64 0, .slice none 0 0, .slice none 0 0], 4⟩, ⟨B4, 3, ((by_.set (IntKind.i64.wrap (x + 1)).toNat (IntKind.i64.wrap (x1 - 1))).flatMap encI), c4 * 1⟩, ⟨B5, 3, (r_2.flatMap encI), c5 * 1⟩] [⟨B, (p.Terms.flatMap enc_Term)⟩, ⟨B1, (p.Out.Rows.flatMap encI)⟩] := hS6
    refine rw_nil ?_
    refine cw_region ?_
    refine sq 24 rfl rfl (Y_add (k := .i64) (a := (i : Int)) (b := 1) rfl (hf.get 13 5 rfl) rfl) ?_
    refine sq 13 rfl rfl (Y_move (v := .int .i64 (IntKind.i64.wrap ((i : Int) + 1))) rfl rfl) ?_
    refine rw_nil ?_
    obtain rfl := some_inj hb
    exact ⟨k_1, Nat.lt_succ_self _, i + 1, (by_.set (IntKind.i64.wrap (x + 1)).toNat (IntKind.i64.wrap (x1 - 1))), (FF.cons (hf.get 2 0 rfl) (FF.cons (hf.get 4 1 rfl) (FF.cons (hf.get 5 2 rfl) (FF.cons (hf.get 11 3 rfl) (FF.cons (hf.get 12 4 rfl) (FF.cons (congrArg (Value.int .i64) (wr_succ hlt1 hN)) FF.nil)))))), (set_len _ _ _ hl), (hS6.sel [0, 1, 2, 3] rfl rfl), (by omega), hL1⟩
  · skip
    obtain rfl : k_ = 0 := by have h := of_decide_eq_false hlt; omega
    refine cw_exit rfl ?_
    obtain rfl := some_inj hL
    refine cw_seq ?_
    obtain ⟨r_3, hc2, hF1⟩ := bind_inv hF1
    obtain ⟨r_4, hc3, hF1⟩ := bind_inv hF1
    refine ra_start (ST.sel hS5 [0, 2, 3] rfl rfl).fn (by kernel_rfl) ?_
    have hS9 := hS5.drew
    refine ra_q 0 25 (v := pt (some ⟨b, 0, none⟩) 0) rfl rfl rfl (by kernel_rfl) (by kernel_rfl) (by kernel_rfl) (ST.sel hS9 [0, 2, 3] rfl rfl) (fun w' hw' => (Y_fieldAddr (B := some ⟨b, 0, none⟩) (i := 0) (s := 0) k_fd_50_0_0_3 k_sz_3_1 rfl (hf.get 2 0 rfl))) ?_
    refine ra_q 1 26 (v := .int .i64 p.Qubits) rfl rfl rfl (by kernel_rfl) (by kernel_rfl) (by kernel_rfl) (ST.sel hS9 [0, 2, 3] rfl rfl) (fun w' hw' => (Y_load1 (B := some ⟨b, 0, none⟩) (i := 0) (cs := [.int .i64 p.Qubits, .int .i64 p.Phase, .slice B p.Terms.length c, .slice B1 p.Out.Rows.length c1]) (v := .int .i64 p.Qubits) k_sc_3 rfl rfl (ST.cf hw' (i := 0) rfl) rfl)) ?_
    refine ra_q 2 27 (v := pt (some ⟨b, 0, none⟩) 1) rfl rfl rfl (by kernel_rfl) (by kernel_rfl) (by kernel_rfl) (ST.sel hS9 [0, 2, 3] rfl rfl) (fun w' hw' => (Y_fieldAddr (B := some ⟨b, 0, none⟩) (i := 0) (s := 0) k_fd_50_1_1_3 k_sz_3_1 rfl (hf.get 2 0 rfl))) ?_
    refine ra_q 3 28 (v := .int .i64 p.Phase) rfl rfl rfl (by kernel_rfl) (by kernel_rfl) (by kernel_rfl) (ST.sel hS9 [0, 2, 3] rfl rfl) (fun w' hw' => (Y_load1 (B := some ⟨b, 0, none⟩) (i := 1) (cs := [.int .i64 p.Qubits, .int .i64 p.Phase, .slice B p.Terms.length c, .slice B1 p.Out.Rows.length c1]) (v := .int .i64 p.Phase) k_sc_3 rfl rfl (ST.cf hw' (i := 0) rfl) rfl)) ?_
    refine ra_q 4 29 (v := .slice B4 r_1.length c4) rfl rfl rfl (by kernel_rfl) (by kernel_rfl) (by kernel_rfl) (ST.sel hS9 [0, 2, 3] rfl rfl) (fun w' hw' => (Y_move (v := .slice B4 r_1.length c4) rfl (hf.get 5 2 rfl))) ?_
    refine ra_q 6 31 (v := pt (some ⟨b, 0, none⟩) 3) rfl rfl rfl (by kernel_rfl) (by kernel_rfl) (by kernel_rfl) (ST.sel hS9 [0, 2, 3] rfl rfl) (fun w' hw' => (Y_fieldAddr (B := some ⟨b, 0, none⟩) (i := 0) (s := 0) k_fd_50_3_3_48 k_sz_48_1 rfl (hf.get 2 0 rfl))) ?_
    refine ra_q 7 32 (v := pt (some ⟨b, 0, none⟩) 3) rfl rfl rfl (by kernel_rfl) (by kernel_rfl) (by kernel_rfl) (ST.sel hS9 [0, 2, 3] rfl rfl) (fun w' hw' => (Y_fieldAddr (B := some ⟨b, 0, none⟩) (i := 3) (s := 0) k_fd_48_0_0_41 k_sz_41_1 rfl rfl)) ?_
    refine ra_q 8 33 (v := .slice B1 p.Out.Rows.length c1) rfl rfl rfl (by kernel_rfl) (by kernel_rfl) (by kernel_rfl) (ST.sel hS9 [0, 2, 3] rfl rfl) (fun w' hw' => (Y_load1 (B := some ⟨b, 0, none⟩) (i := 3) (cs := [.int .i64 p.Qubits, .int .i64 p.Phase, .slice B p.Terms.length c, .slice B1 p.Out.Rows.length c1]) (v := .slice B1 p.Out.Rows.length c1) k_sc_41 rfl rfl (ST.cf hw' (i := 0) rfl) rfl)) ?_
    refine ra_all (rs := [5]) (by kernel_rfl) rfl ?_
    refine ra_c 30 (i := 5) rfl rfl rfl (Yc_func (g := 98) (vs := [.slice B4 r_1.length c4]) k_call_98 rfl (mc rfl mn) (c_spec_l13List by_ B4 c4 r_1.length _ hl (hS9.inn0 [(false, 2)] rfl) hc2)) ?_ ?_
    · rintro _ w_5 ⟨B6, c6, rfl, hd2⟩
      have hS10 := hS9.out0 hd2
      have hS10 : ST w0 [] _ [⟨some ⟨b, 0, none⟩, 50, [.int .i64 p.Qubits, .int .i64 p.Phase, .slice B p.Terms.length c, .slice B1 p.Out.Rows.length c1], 4⟩, ⟨some ⟨b1, 0, none⟩, 50, [.int .i64 0, .int .i64 0, .slice none 0 0, .slice none 0 0], 4⟩, ⟨B4, 3, (by_.flatMap encI), c4 * 1⟩, ⟨B5, 3, (r_2.flatMap encI), c5 * 1⟩, ⟨B6, 95, (r_3.flatMap enc_Term), c6 * 2⟩] [⟨B, (p.Terms.flatMap enc_Term)⟩, ⟨B1, (p.Out.Rows.flatMap encI)⟩] := hS10
      refine ⟨(ST.sel hS10 [0, 2, 3] rfl rfl), ?_⟩
      refine ra_all (rs := [9]) (by kernel_rfl) rfl ?_
      refine ra_c 34 (i := 9) rfl rfl rfl (Yc_func (g := 99) (vs := [.slice B1 p.Out.Rows.length c1]) k_call_99 rfl (mc rfl mn) (c_spec_l1Own p.Out.Rows B1 c1 p.Out.Rows.length _ rfl (hS10.inn0 [(true, 1)] rfl) hc3)) ?_ ?_
      · rintro _ w_6 ⟨B7, c7, rfl, hd3⟩
        have hS11 := hS10.out0 hd3
        have hS11 : ST w0 [] _ [⟨some ⟨b, 0, none⟩, 50, [.int .i64 p.Qubits, .int .i64 p.Phase, .slice B p.Terms.length c, .slice B1 p.Out.Rows.length c1], 4⟩, ⟨some ⟨b1, 0, none⟩, 50, [.int .i64 0, .int .i64 0, .slice none 0 0, .slice none 0 0], 4⟩, ⟨B4, 3, (by_.flatMap encI), c4 * 1⟩, ⟨B5, 3, (r_2.flatMap encI), c5 * 1⟩, ⟨B6, 95, (r_3.flatMap enc_Term), c6 * 2⟩, ⟨B7, 3, (r_4.flatMap encI), c7 * 1⟩] [⟨B, (p.Terms.flatMap enc_Term)⟩, ⟨B1, (p.Out.Rows.flatMap encI)⟩] := hS11
        refine ⟨(ST.sel hS11 [0, 2, 3] rfl rfl), ?_⟩
        refine ra_q 10 35 (v := .agg #[.slice B7 r_4.length c7]) rfl rfl rfl (by kernel_rfl) (by kernel_rfl) (by kernel_rfl) (ST.sel hS11 [0, 2, 3] rfl rfl) (fun w' hw' => (Y_buildS (zs := [.slice none 0 0]) (vs := [(0, .slice B7 r_4.length c7)]) (cs := [.slice B7 r_4.length c7]) k_pl_48 k_zero_48 rfl (mpc rfl mpn) rfl)) ?_
        refine ra_q 11 36 (v := .agg #[.int .i64 p.Qubits, .int .i64 p.Phase, .slice B6 r_3.length c6, .slice B7 r_4.length c7]) rfl rfl rfl (by kernel_rfl) (by kernel_rfl) (by kernel_rfl) (ST.sel hS11 [0, 2, 3] rfl rfl) (fun w' hw' => (Y_buildS (zs := [.int .i64 0, .int .i64 0, .slice none 0 0, .slice none 0 0]) (vs := [(0, .int .i64 p.Qubits), (1, .int .i64 p.Phase), (2, .slice B6 r_3.length c6), (3, .agg #[.slice B7 r_4.length c7])]) (cs := [.int .i64 p.Qubits, .int .i64 p.Phase, .slice B6 r_3.length c6, .slice B7 r_4.length c7]) k_pl_50 k_zero_50 rfl (mpc rfl (mpc rfl (mpc rfl (mpc rfl mpn)))) rfl)) ?_
        refine ra_all (rs := [12]) (by kernel_rfl) rfl ?_
        refine ra_s0 (i := 12) rfl rfl rfl (Ys_store (i := 1) (s := 4) (B := some ⟨b1, 0, none⟩) (T' := 50) (v := .agg #[.int .i64 p.Qubits, .int .i64 p.Phase, .slice B6 r_3.length c6, .slice B7 r_4.length c7]) (vs := [.int .i64 p.Qubits, .int .i64 p.Phase, .slice B6 r_3.length c6, .slice B7 r_4.length c7]) (k := 0) (cs' := [.int .i64 p.Qubits, .int .i64 p.Phase, .slice B6 r_3.length c6, .slice B7 r_4.length c7]) hS11 k_sz_50_4 rfl (hf.get 4 1 rfl) rfl rfl rfl rfl rfl (Nat.le_of_ble_eq_true rfl) rfl rfl) ?_ ?_
        · rintro _ w_7 ⟨rfl, hS12⟩
          have hS12 : ST w0 [] _ [⟨some ⟨b, 0, none⟩, 50, [.int .i64 p.Qubits, .int .i64 p.Phase, .slice B p.Terms.length c, .slice B1 p.Out.Rows.length c1], 4⟩, ⟨some ⟨b1, 0, none⟩, 50, [.int .i64 p.Qubits, .int .i64 p.Phase, .slice B6 r_3.length c6, .slice B7 r_4.length c7], 4⟩, ⟨B4, 3, (by_.flatMap encI), c4 * 1⟩, ⟨B5, 3, (r_2.flatMap encI), c5 * 1⟩, ⟨B6, 95, (r_3.flatMap enc_Term), c6 * 2⟩, ⟨B7, 3, (r_4.flatMap encI), c7 * 1⟩] [⟨B, (p.Terms.flatMap enc_Term)⟩, ⟨B1, (p.Out.Rows.flatMap encI)⟩] := hS12
          refine ⟨(ST.sel hS12 [0, 2, 3] rfl rfl), ?_⟩
          refine ra_done (by kernel_rfl) ?_
          refine cw_ret ?_
          obtain rfl := some_inj hF1
          exact ret1 Try.results50 (v1 := .agg #[.int .i64 p.Qubits, .int .i64 p.Phase, .slice B6 r_3.length c6, .slice B7 r_4.length c7]) (resAt_cellA (B := some ⟨b1, 0, none⟩) (i := 0) (cs := [.int .i64 p.Qubits, .int .i64 p.Phase, .slice B6 r_3.length c6, .slice B7 r_4.length c7]) (vs := [.int .i64 p.Qubits, .int .i64 p.Phase, .slice B6 r_3.length c6, .slice B7 r_4.length c7]) (hf.get 4 1 rfl) k_ag_50 k_sz_50_4 (hS12.cf (i := 1) rfl) rfl rfl) ⟨B6, c6, B7, c7, rfl, (ST.subR (R' := []) (hS12.sel [4, 5] rfl rfl) (fun _ h => by cases h))⟩
        exact allR_nil
      exact allR_nil
    exact allR_nil

theorem c_spec_l1Same (a : List Int) (b : List Int) (B : Option Addr) (c n : Nat) (B1 : Option Addr) (c1 n1 : Nat) (w0 : World) (hn : a.length = n) (hn1 : b.length = n1) (hS : ST w0 [] w0 [] [⟨B, (a.flatMap encI)⟩, ⟨B1, (b.flatMap encI)⟩]) {r_ : Bool} (hF : F_spec_l1Same a b = some r_) :
    CV Try.prog 112 #[.slice B n c, .slice B1 n1 c1] w0 (fun v w' => v = .bool r_ ∧ ST w0 [] w' [] []) := by
  subst hn
  subst hn1
  unfold F_spec_l1Same at hF
  refine cv_of_cw 26 Try.func112 rfl Try.ntmps112 rfl ?_
  refine cw_seq ?_
  refine cw_region ?_
  refine sq 4 rfl rfl (Y_assign (v := .bool false) rfl rfl) ?_
  refine rw_nil ?_
  refine cw_seq ?_
  refine cw_seq ?_
  refine cw_region ?_
  refine sq 6 rfl rfl (Y_move (v := .slice B a.length c) rfl rfl) ?_
  refine sq 7 rfl rfl (Y_len (B := B) (m := a.length) (c := c) k_sl_41_3 rfl rfl) ?_
  refine sq 8 rfl rfl (Y_move (v := .slice B1 b.length c1) rfl rfl) ?_
  refine sq 9 rfl rfl (Y_len (B := B1) (m := b.length) (c := c1) k_sl_41_3 rfl rfl) ?_
  refine sq 10 rfl rfl (Y_ne (k := .i64) (a := (a.length : Int)) (b := (b.length : Int)) rfl rfl rfl) ?_
  refine rw_nil ?_
  refine cw_cond (b := ((a.length : Int) != (b.length : Int))) rfl (fun hb => ?_) (fun hb => ?_)
  · skip
    have hF1 := ct hF hb
    refine cw_seq ?_
    refine cw_region ?_
    refine sq 4 rfl rfl (Y_assign (v := .bool false) rfl rfl) ?_
    refine rw_nil ?_
    refine cw_ret ?_
    obtain rfl := some_inj hF1
    exact ret1 Try.results112 (v1 := .bool false) (resAt_tmp rfl) ⟨rfl, (ST.subR (R' := []) (hS.sel [] rfl rfl) (fun _ h => by cases h))⟩
  · skip
    have hF2 := cf' hF hb
    refine cw_skip ?_
    refine cw_seq ?_
    refine cw_seq ?_
    refine cw_region ?_
    refine sq 11 rfl rfl (Y_move (v := .slice B a.length c) rfl rfl) ?_
    refine sq 12 rfl rfl (Y_len (B := B) (m := a.length) (c := c) k_sl_41_3 rfl rfl) ?_
    refine sq 13 rfl rfl (Y_move (v := .int .i64 0) rfl rfl) ?_
    refine rw_nil ?_
    obtain ⟨hN, hF2⟩ := chk_inv hF2
    obtain ⟨z, hz, hF3⟩ := bind_inv hF2
    refine cw_block ?_
    refine cw_loop (fun k f w => ∃ (i : Nat), FF f [(0, .slice B a.length c), (1, .slice B1 b.length c1), (12, .int .i64 (a.length : Int)), (13, .int .i64 (i : Int))] ∧ ST w0 [] w [] [⟨B, (a.flatMap encI)⟩, ⟨B1, (b.flatMap encI)⟩] ∧ i + k = a.length ∧ forX (F_spec_l1Same_l1 a b) k i () = some z) a.length ⟨0, (FF.cons rfl (FF.cons rfl (FF.cons rfl (FF.cons rfl FF.nil)))), (hS.sel [] rfl rfl), Nat.zero_add _, hz⟩ ?_
    rintro k_ f w ⟨i, hf, hS1, hik, hL⟩
    refine cw_seq ?_
    refine cw_region ?_
    refine sq 14 rfl rfl (Y_lt (k := .i64) (a := (i : Int)) (b := (a.length : Int)) rfl (hf.get 13 3 rfl) (hf.get 12 2 rfl)) ?_
    refine rw_nil ?_
    refine cw_seq ?_
    refine cw_cond (b := (decide ((i : Int) < (a.length : Int)))) rfl (fun hlt => ?_) (fun hlt => ?_)
    · skip
      have hlt1 : i < a.length := by have h := of_decide_eq_true hlt; omega
      obtain ⟨k_1, rfl⟩ : ∃ k2, k_ = k2 + 1 := ⟨k_ - 1, by omega⟩
      obtain ⟨y, hb1, hL1⟩ := forX_go hL
      unfold F_spec_l1Same_l1 at hb1
      refine cw_skip ?_
      refine cw_seq ?_
      refine cw_block ?_
      refine cw_seq ?_
      refine cw_region ?_
      refine sq 15 rfl rfl (Y_move (v := .int .i64 (i : Int)) rfl (hf.get 13 3 rfl)) ?_
      refine sq 5 rfl rfl (Y_assign (v := .int .i64 (i : Int)) rfl rfl) ?_
      refine rw_nil ?_
      refine cw_seq ?_
      obtain ⟨x, hx, hb1⟩ := bind_inv hb1
      obtain ⟨x1, hx1, hb1⟩ := bind_inv hb1
      refine ra_start (ST.sel hS1 [] rfl rfl).fn (by kernel_rfl) ?_
      have hS2 := hS1.drew
      refine ra_q 0 16 (v := .slice B a.length c) rfl rfl rfl (by kernel_rfl) (by kernel_rfl) (by kernel_rfl) (ST.sel hS2 [] rfl rfl) (fun w' hw' => (Y_move (v := .slice B a.length c) rfl (hf.get 0 0 rfl))) ?_
      refine ra_q 1 17 (v := .int .i64 (i : Int)) rfl rfl rfl (by kernel_rfl) (by kernel_rfl) (by kernel_rfl) (ST.sel hS2 [] rfl rfl) (fun w' hw' => (Y_move (v := .int .i64 (i : Int)) rfl rfl)) ?_
      refine ra_q 2 18 (v := pt B ((i : Int).toNat * 1)) rfl rfl rfl (by kernel_rfl) (by kernel_rfl) (by kernel_rfl) (ST.sel hS2 [] rfl rfl) (fun w' hw' => (Y_index (B := B) (m := a.length) (c := c) (k := .i64) (i := (i : Int)) k_sl_41_3 k_sz_3_1 rfl rfl rfl (gi_isSome encI_len rfl (ST.rf hw' (i := 0) rfl) hx) (getI_nn hx) (getI_ltI hx rfl))) ?_
      refine ra_q 3 19 (v := .int .i64 x) rfl rfl rfl (by kernel_rfl) (by kernel_rfl) (by kernel_rfl) (ST.sel hS2 [] rfl rfl) (fun w' hw' => (Y_load1 (B := B) (i := (i : Int).toNat * 1) (cs := (a.flatMap encI)) (v := .int .i64 x) k_sc_3 rfl rfl (ST.rf hw' (i := 0) rfl) (gi_at0 encI_len hx rfl))) ?_
      refine ra_q 4 20 (v := .slice B1 b.length c1) rfl rfl rfl (by kernel_rfl) (by kernel_rfl) (by kernel_rfl) (ST.sel hS2 [] rfl rfl) (fun w' hw' => (Y_move (v := .slice B1 b.length c1) rfl (hf.get 1 1 rfl))) ?_
      refine ra_q 5 21 (v := .int .i64 (i : Int)) rfl rfl rfl (by kernel_rfl) (by kernel_rfl) (by kernel_rfl) (ST.sel hS2 [] rfl rfl) (fun w' hw' => (Y_move (v := .int .i64 (i : Int)) rfl rfl)) ?_
      refine ra_q 6 22 (v := pt B1 ((i : Int).toNat * 1)) rfl rfl rfl (by kernel_rfl) (by kernel_rfl) (by kernel_rfl) (ST.sel hS2 [] rfl rfl) (fun w' hw' => (Y_index (B := B1) (m := b.length) (c := c1) (k := .i64) (i := (i : Int)) k_sl_41_3 k_sz_3_1 rfl rfl rfl (gi_isSome encI_len rfl (ST.rf hw' (i := 1) rfl) hx1) (getI_nn hx1) (getI_ltI hx1 rfl))) ?_
      refine ra_q 7 23 (v := .int .i64 x1) rfl rfl rfl (by kernel_rfl) (by kernel_rfl) (by kernel_rfl) (ST.sel hS2 [] rfl rfl) (fun w' hw' => (Y_load1 (B := B1) (i := (i : Int).toNat * 1) (cs := (b.flatMap encI)) (v := .int .i64 x1) k_sc_3 rfl rfl (ST.rf hw' (i := 1) rfl) (gi_at0 encI_len hx1 rfl))) ?_
      refine ra_q 8 24 (v := .bool (x != x1)) rfl rfl rfl (by kernel_rfl) (by kernel_rfl) (by kernel_rfl) (ST.sel hS2 [] rfl rfl) (fun w' hw' => (Y_ne (k := .i64) (a := x) (b := x1) rfl rfl rfl)) ?_
      refine ra_done (by kernel_rfl) ?_
      refine cw_cond (b := (x != x1)) rfl (fun hb2 => ?_) (fun hb2 => ?_)
      · skip
        have hF4 := ct hb1 hb2
        refine cw_seq ?_
        refine cw_region ?_
        refine sq 4 rfl rfl (Y_assign (v := .bool false) rfl rfl) ?_
        refine rw_nil ?_
        refine cw_ret ?_
        obtain rfl := some_inj hF4
        obtain rfl := some_inj hL1
        obtain rfl := some_inj hF3
        exact ret1 Try.results112 (v1 := .bool false) (resAt_tmp rfl) ⟨rfl, (ST.subR (R' := []) (hS2.sel [] rfl rfl) (fun _ h => by cases h))⟩
      · skip
        have hF5 := cf' hb1 hb2
        refine cw_skip ?_
        refine cw_region ?_
        refine sq 25 rfl rfl (Y_add (k := .i64) (a := (i : Int)) (b := 1) rfl (hf.get 13 3 rfl) rfl) ?_
        refine sq 13 rfl rfl (Y_move (v := .int .i64 (IntKind.i64.wrap ((i : Int) + 1))) rfl rfl) ?_
        refine rw_nil ?_
        obtain rfl := some_inj hF5
        exact ⟨k_1, Nat.lt_succ_self _, i + 1, (FF.cons (hf.get 0 0 rfl) (FF.cons (hf.get 1 1 rfl) (FF.cons (hf.get 12 2 rfl) (FF.cons (congrArg (Value.int .i64) (wr_succ hlt1 hN)) FF.nil)))), (hS2.sel [] rfl rfl), (by omega), hL1⟩
    · skip
      obtain rfl : k_ = 0 := by have h := of_decide_eq_false hlt; omega
      refine cw_exit rfl ?_
      obtain rfl := some_inj hL
      refine cw_seq ?_
      refine cw_region ?_
      refine sq 4 rfl rfl (Y_assign (v := .bool true) rfl rfl) ?_
      refine rw_nil ?_
      refine cw_ret ?_
      obtain rfl := some_inj hF3
      exact ret1 Try.results112 (v1 := .bool true) (resAt_tmp rfl) ⟨rfl, (ST.subR (R' := []) (hS1.sel [] rfl rfl) (fun _ h => by cases h))⟩

theorem c_spec_l15SameTerms (a : List TTerm) (b : List TTerm) (B : Option Addr) (c n : Nat) (B1 : Option Addr) (c1 n1 : Nat) (w0 : World) (hn : a.length = n) (hn1 : b.length = n1) (hS : ST w0 [] w0 [] [⟨B, (a.flatMap enc_Term)⟩, ⟨B1, (b.flatMap enc_Term)⟩]) {r_ : Bool} (hF : F_spec_l15SameTerms a b = some r_) :
    CV Try.prog 113 #[.slice B n c, .slice B1 n1 c1] w0 (fun v w' => v = .bool r_ ∧ ST w0 [] w' [] []) := by
  subst hn
  subst hn1
  unfold F_spec_l15SameTerms at hF
  refine cv_of_cw 26 Try.func113 rfl Try.ntmps113 rfl ?_
  refine cw_seq ?_
  refine cw_region ?_
  refine sq 4 rfl rfl (Y_assign (v := .bool false) rfl rfl) ?_
  refine rw_nil ?_
  refine cw_seq ?_
  refine cw_seq ?_
  refine cw_region ?_
  refine sq 6 rfl rfl (Y_move (v := .slice B a.length c) rfl rfl) ?_
  refine sq 7 rfl rfl (Y_len (B := B) (m := a.length) (c := c) k_sl_47_95 rfl rfl) ?_
  refine sq 8 rfl rfl (Y_move (v := .slice B1 b.length c1) rfl rfl) ?_
  refine sq 9 rfl rfl (Y_len (B := B1) (m := b.length) (c := c1) k_sl_47_95 rfl rfl) ?_
  refine sq 10 rfl rfl (Y_ne (k := .i64) (a := (a.length : Int)) (b := (b.length : Int)) rfl rfl rfl) ?_
  refine rw_nil ?_
  refine cw_cond (b := ((a.length : Int) != (b.length : Int))) rfl (fun hb => ?_) (fun hb => ?_)
  · skip
    have hF1 := ct hF hb
    refine cw_seq ?_
    refine cw_region ?_
    refine sq 4 rfl rfl (Y_assign (v := .bool false) rfl rfl) ?_
    refine rw_nil ?_
    refine cw_ret ?_
    obtain rfl := some_inj hF1
    exact ret1 Try.results113 (v1 := .bool false) (resAt_tmp rfl) ⟨rfl, (ST.subR (R' := []) (hS.sel [] rfl rfl) (fun _ h => by cases h))⟩
  · skip
    have hF2 := cf' hF hb
    refine cw_skip ?_
    refine cw_seq ?_
    refine cw_seq ?_
    refine cw_region ?_
    refine sq 11 rfl rfl (Y_move (v := .slice B a.length c) rfl rfl) ?_
    refine sq 12 rfl rfl (Y_len (B := B) (m := a.length) (c := c) k_sl_47_95 rfl rfl) ?_
    refine sq 13 rfl rfl (Y_move (v := .int .i64 0) rfl rfl) ?_
    refine rw_nil ?_
    obtain ⟨hN, hF2⟩ := chk_inv hF2
    obtain ⟨z, hz, hF3⟩ := bind_inv hF2
    refine cw_block ?_
    refine cw_loop (fun k f w => ∃ (i : Nat), FF f [(0, .slice B a.length c), (1, .slice B1 b.length c1), (12, .int .i64 (a.length : Int)), (13, .int .i64 (i : Int))] ∧ ST w0 [] w [] [⟨B, (a.flatMap enc_Term)⟩, ⟨B1, (b.flatMap enc_Term)⟩] ∧ i + k = a.length ∧ forX (F_spec_l15SameTerms_l1 a b) k i () = some z) a.length ⟨0, (FF.cons rfl (FF.cons rfl (FF.cons rfl (FF.cons rfl FF.nil)))), (hS.sel [] rfl rfl), Nat.zero_add _, hz⟩ ?_
    rintro k_ f w ⟨i, hf, hS1, hik, hL⟩
    refine cw_seq ?_
    refine cw_region ?_
    refine sq 14 rfl rfl (Y_lt (k := .i64) (a := (i : Int)) (b := (a.length : Int)) rfl (hf.get 13 3 rfl) (hf.get 12 2 rfl)) ?_
    refine rw_nil ?_
    refine cw_seq ?_
    refine cw_cond (b := (decide ((i : Int) < (a.length : Int)))) rfl (fun hlt => ?_) (fun hlt => ?_)
    · skip
      have hlt1 : i < a.length := by have h := of_decide_eq_true hlt; omega
      obtain ⟨k_1, rfl⟩ : ∃ k2, k_ = k2 + 1 := ⟨k_ - 1, by omega⟩
      obtain ⟨y, hb1, hL1⟩ := forX_go hL
      unfold F_spec_l15SameTerms_l1 at hb1
      refine cw_skip ?_
      refine cw_seq ?_
      refine cw_block ?_
      refine cw_seq ?_
      refine cw_region ?_
      refine sq 15 rfl rfl (Y_move (v := .int .i64 (i : Int)) rfl (hf.get 13 3 rfl)) ?_
      refine sq 5 rfl rfl (Y_assign (v := .int .i64 (i : Int)) rfl rfl) ?_
      refine rw_nil ?_
      refine cw_seq ?_
      obtain ⟨x, hx, hb1⟩ := bind_inv hb1
      obtain ⟨x1, hx1, hb1⟩ := bind_inv hb1
      refine ra_start (ST.sel hS1 [] rfl rfl).fn (by kernel_rfl) ?_
      have hS2 := hS1.drew
      refine ra_q 0 16 (v := .slice B a.length c) rfl rfl rfl (by kernel_rfl) (by kernel_rfl) (by kernel_rfl) (ST.sel hS2 [] rfl rfl) (fun w' hw' => (Y_move (v := .slice B a.length c) rfl (hf.get 0 0 rfl))) ?_
      refine ra_q 1 17 (v := .int .i64 (i : Int)) rfl rfl rfl (by kernel_rfl) (by kernel_rfl) (by kernel_rfl) (ST.sel hS2 [] rfl rfl) (fun w' hw' => (Y_move (v := .int .i64 (i : Int)) rfl rfl)) ?_
      refine ra_q 2 18 (v := pt B ((i : Int).toNat * 2)) rfl rfl rfl (by kernel_rfl) (by kernel_rfl) (by kernel_rfl) (ST.sel hS2 [] rfl rfl) (fun w' hw' => (Y_index (B := B) (m := a.length) (c := c) (k := .i64) (i := (i : Int)) k_sl_47_95 k_sz_95_2 rfl rfl rfl (gi_isSome enc_Term_len rfl (ST.rf hw' (i := 0) rfl) hx) (getI_nn hx) (getI_ltI hx rfl))) ?_
      refine ra_q 3 19 (v := .agg #[.int .i64 x.Mask, .int .i64 x.Coef]) rfl rfl rfl (by kernel_rfl) (by kernel_rfl) (by kernel_rfl) (ST.sel hS2 [] rfl rfl) (fun w' hw' => (Y_loadA (B := B) (i := (i : Int).toNat * 2) (cs := (a.flatMap enc_Term)) (vs := [.int .i64 x.Mask, .int .i64 x.Coef]) k_ag_95 k_sz_95_2 rfl rfl (ST.rf hw' (i := 0) rfl) (enc_Term_len x) (gi_seg enc_Term_len hx))) ?_
      refine ra_q 4 20 (v := .slice B1 b.length c1) rfl rfl rfl (by kernel_rfl) (by kernel_rfl) (by kernel_rfl) (ST.sel hS2 [] rfl rfl) (fun w' hw' => (Y_move (v := .slice B1 b.length c1) rfl (hf.get 1 1 rfl))) ?_
      refine ra_q 5 21 (v := .int .i64 (i : Int)) rfl rfl rfl (by kernel_rfl) (by kernel_rfl) (by kernel_rfl) (ST.sel hS2 [] rfl rfl) (fun w' hw' => (Y_move (v := .int .i64 (i : Int)) rfl rfl)) ?_
      refine ra_q 6 22 (v := pt B1 ((i : Int).toNat * 2)) rfl rfl rfl (by kernel_rfl) (by kernel_rfl) (by kernel_rfl) (ST.sel hS2 [] rfl rfl) (fun w' hw' => (Y_index (B := B1) (m := b.length) (c := c1) (k := .i64) (i := (i : Int)) k_sl_47_95 k_sz_95_2 rfl rfl rfl (gi_isSome enc_Term_len rfl (ST.rf hw' (i := 1) rfl) hx1) (getI_nn hx1) (getI_ltI hx1 rfl))) ?_
      refine ra_q 7 23 (v := .agg #[.int .i64 x1.Mask, .int .i64 x1.Coef]) rfl rfl rfl (by kernel_rfl) (by kernel_rfl) (by kernel_rfl) (ST.sel hS2 [] rfl rfl) (fun w' hw' => (Y_loadA (B := B1) (i := (i : Int).toNat * 2) (cs := (b.flatMap enc_Term)) (vs := [.int .i64 x1.Mask, .int .i64 x1.Coef]) k_ag_95 k_sz_95_2 rfl rfl (ST.rf hw' (i := 1) rfl) (enc_Term_len x1) (gi_seg enc_Term_len hx1))) ?_
      refine ra_q 8 24 (v := .bool (!((x.Mask == x1.Mask) && ((x.Coef == x1.Coef) && true)))) rfl rfl rfl (by kernel_rfl) (by kernel_rfl) (by kernel_rfl) (ST.sel hS2 [] rfl rfl) (fun w' hw' => (Y_neA (xs := #[.int .i64 x.Mask, .int .i64 x.Coef]) (ys := #[.int .i64 x1.Mask, .int .i64 x1.Coef]) (b := ((x.Mask == x1.Mask) && ((x.Coef == x1.Coef) && true))) k_eg_95 rfl rfl rfl (eqr_struct (xs := [.int .i64 x.Mask, .int .i64 x.Coef]) (ys := [.int .i64 x1.Mask, .int .i64 x1.Coef]) k_st_95 k_ho_95 (pts_sc k_sc_3 rfl rfl (eqr_int k_int_3_i64) (pts_sc k_sc_3 rfl rfl (eqr_int k_int_3_i64) pts_nil))))) ?_
      refine ra_done (by kernel_rfl) ?_
      refine cw_cond (b := (!((x.Mask == x1.Mask) && ((x.Coef == x1.Coef) && true)))) rfl (fun hb2 => ?_) (fun hb2 => ?_)
      · skip
        have hF4 := ct hb1 hb2
        refine cw_seq ?_
        refine cw_region ?_
        refine sq 4 rfl rfl (Y_assign (v := .bool false) rfl rfl) ?_
        refine rw_nil ?_
        refine cw_ret ?_
        obtain rfl := some_inj hF4
        obtain rfl := some_inj hL1
        obtain rfl := some_inj hF3
        exact ret1 Try.results113 (v1 := .bool false) (resAt_tmp rfl) ⟨rfl, (ST.subR (R' := []) (hS2.sel [] rfl rfl) (fun _ h => by cases h))⟩
      · skip
        have hF5 := cf' hb1 hb2
        refine cw_skip ?_
        refine cw_region ?_
        refine sq 25 rfl rfl (Y_add (k := .i64) (a := (i : Int)) (b := 1) rfl (hf.get 13 3 rfl) rfl) ?_
        refine sq 13 rfl rfl (Y_move (v := .int .i64 (IntKind.i64.wrap ((i : Int) + 1))) rfl rfl) ?_
        refine rw_nil ?_
        obtain rfl := some_inj hF5
        exact ⟨k_1, Nat.lt_succ_self _, i + 1, (FF.cons (hf.get 0 0 rfl) (FF.cons (hf.get 1 1 rfl) (FF.cons (hf.get 12 2 rfl) (FF.cons (congrArg (Value.int .i64) (wr_succ hlt1 hN)) FF.nil)))), (hS2.sel [] rfl rfl), (by omega), hL1⟩
    · skip
      obtain rfl : k_ = 0 := by have h := of_decide_eq_false hlt; omega
      refine cw_exit rfl ?_
      obtain rfl := some_inj hL
      refine cw_seq ?_
      refine cw_region ?_
      refine sq 4 rfl rfl (Y_assign (v := .bool true) rfl rfl) ?_
      refine rw_nil ?_
      refine cw_ret ?_
      obtain rfl := some_inj hF3
      exact ret1 Try.results113 (v1 := .bool true) (resAt_tmp rfl) ⟨rfl, (ST.subR (R' := []) (hS1.sel [] rfl rfl) (fun _ h => by cases h))⟩
end Go.VK
