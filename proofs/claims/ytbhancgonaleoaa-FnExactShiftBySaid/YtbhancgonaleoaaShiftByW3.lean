/- Walks: each Go function returns what its Lean function says. By program. -/
import Derived.Test.YtbhancgonaleoaaShiftByFa
import Derived.Test.YtbhancgonaleoaaShiftByShelf
import Derived.Test.YtbhancgonaleoaaShiftByW2
set_option linter.unusedVariables false
set_option maxRecDepth 100000
set_option maxHeartbeats 1000000
namespace Go.VK
open Go.RowKit
open Go.Proofs
attribute [local irreducible] CW RW RA CV Y Yw Yc Ys RetOf
attribute [local irreducible] F_laws_szTermS F_laws_szIntS F_laws_szLinear F_laws_szPhasePoly F_spec_l1In F_spec_l1All F_spec_l1Own F_spec_l12Rank F_spec_l12Valid F_spec_l13Valid F_spec_l1Has F_spec_l1Put F_spec_l1Set F_spec_l13Parity F_spec_l15Affine F_spec_l15Codes F_spec_l13By F_spec_l13List F_spec_l15Shift F_spec_ShiftBy F_laws_toTerm F_laws_toTermS F_laws_toIntS F_laws_toLinear F_laws_toPhasePoly F_impl_within F_impl_isWord F_slices_Index_int_int F_slices_Contains_int_int F_slices_Clone_int_int F_math_bits_OnesCount64 F_math_bits_OnesCount F_impl_bitsIn F_slices_Sort_int_int F_impl_codeWords F_impl_IsCodeWord F_impl_areTerms F_slices_IndexFunc_int_int F_slices_ContainsFunc_int_int F_impl_IsValidLinear_1 F_impl_rankOf_1 F_slices_Delete_int_int F_impl_rankOf F_impl_IsValidLinear F_impl_IsValidPhasePoly F_impl_coefficients_add F_impl_coefficients_terms F_impl_ShiftBy F_laws_eqTerm F_laws_eqTermS F_laws_eqIntS F_laws_eqLinear F_laws_eqPhasePoly F_laws_markTermS F_laws_markIntS F_laws_markLinear F_laws_markPhasePoly F_laws_heldTermS F_laws_heldIntS F_laws_heldLinear F_laws_heldPhasePoly F_laws_FnExactShiftBy
theorem c_laws_eqLinear (a : TLinear) (b : TLinear) (B : Option Addr) (c n : Nat) (B1 : Option Addr) (c1 n1 : Nat) (w0 : World) (hn : a.Rows.length = n) (hn1 : b.Rows.length = n1) (hS : ST w0 [] w0 [] [⟨B, (a.Rows.flatMap encI)⟩, ⟨B1, (b.Rows.flatMap encI)⟩]) {r_ : Bool} (hF : F_laws_eqLinear a b = some r_) :
    CV Try.prog 59 #[.agg #[.slice B n c], .agg #[.slice B1 n1 c1]] w0 (fun v w' => v = .bool r_ ∧ ST w0 [] w' [] []) := by
  subst hn
  subst hn1
  unfold F_laws_eqLinear at hF
  refine cv_of_cw 11 Try.func59 rfl Try.ntmps59 rfl ?_
  refine cw_seq ?_
  refine cw_region ?_
  refine ss 2 rfl rfl (Ys_box (T := 48) (v := .agg #[.slice B a.Rows.length c]) (cs := [.slice B a.Rows.length c]) (m := 1) hS rfl rfl rfl rfl) ?_
  rintro _ w_ ⟨b1, rfl, hS1⟩
  refine ss 3 rfl rfl (Ys_box (T := 48) (v := .agg #[.slice B1 b.Rows.length c1]) (cs := [.slice B1 b.Rows.length c1]) (m := 1) hS1 rfl rfl rfl rfl) ?_
  rintro _ w_1 ⟨b2, rfl, hS2⟩
  have hS2 : ST w0 [] _ [⟨some ⟨b1, 0, none⟩, 48, [.slice B a.Rows.length c], 1⟩, ⟨some ⟨b2, 0, none⟩, 48, [.slice B1 b.Rows.length c1], 1⟩] [⟨B, (a.Rows.flatMap encI)⟩, ⟨B1, (b.Rows.flatMap encI)⟩] := hS2
  refine sq 4 rfl rfl (Y_assign (v := .bool false) rfl rfl) ?_
  refine rw_nil ?_
  refine cw_seq ?_
  refine cw_seq ?_
  refine cw_region ?_
  refine sq 5 rfl rfl (Y_fieldAddr (B := some ⟨b1, 0, none⟩) (i := 0) (s := 0) k_fd_48_0_0_41 k_sz_41_1 rfl rfl) ?_
  refine sq 6 rfl rfl (Y_load1 (B := some ⟨b1, 0, none⟩) (i := 0) (cs := [.slice B a.Rows.length c]) (v := .slice B a.Rows.length c) k_sc_41 rfl rfl (hS2.cf (i := 0) rfl) rfl) ?_
  refine sq 7 rfl rfl (Y_fieldAddr (B := some ⟨b2, 0, none⟩) (i := 0) (s := 0) k_fd_48_0_0_41 k_sz_41_1 rfl rfl) ?_
  refine sq 8 rfl rfl (Y_load1 (B := some ⟨b2, 0, none⟩) (i := 0) (cs := [.slice B1 b.Rows.length c1]) (v := .slice B1 b.Rows.length c1) k_sc_41 rfl rfl (hS2.cf (i := 1) rfl) rfl) ?_
  obtain ⟨r_1, hc, hF⟩ := bind_inv hF
  refine sc 9 rfl rfl (Yc_func (g := 108) (vs := [.slice B a.Rows.length c, .slice B1 b.Rows.length c1]) k_call_108 rfl (mc rfl (mc rfl mn)) (c_laws_eqIntS a.Rows b.Rows B c a.Rows.length B1 c1 b.Rows.length _ rfl rfl (hS2.inn0 [(true, 0), (true, 1)] rfl) hc)) ?_
  rintro _ w_2 ⟨rfl, hd⟩
  have hS3 := hS2.out00 hd
  have hS3 : ST w0 [] _ [⟨some ⟨b1, 0, none⟩, 48, [.slice B a.Rows.length c], 1⟩, ⟨some ⟨b2, 0, none⟩, 48, [.slice B1 b.Rows.length c1], 1⟩] [⟨B, (a.Rows.flatMap encI)⟩, ⟨B1, (b.Rows.flatMap encI)⟩] := hS3
  refine sq 10 rfl rfl (Y_not (p := r_1) rfl rfl) ?_
  refine rw_nil ?_
  refine cw_cond (b := (!r_1)) rfl (fun hb => ?_) (fun hb => ?_)
  · skip
    have hF1 := ct hF hb
    refine cw_seq ?_
    refine cw_region ?_
    refine sq 4 rfl rfl (Y_assign (v := .bool false) rfl rfl) ?_
    refine rw_nil ?_
    refine cw_ret ?_
    obtain rfl := some_inj hF1
    exact ret1 Try.results59 (v1 := .bool false) (resAt_tmp rfl) ⟨rfl, (ST.subR (R' := []) (hS3.sel [] rfl rfl) (fun _ h => by cases h))⟩
  · skip
    have hF2 := cf' hF hb
    refine cw_skip ?_
    refine cw_seq ?_
    refine cw_region ?_
    refine sq 4 rfl rfl (Y_assign (v := .bool true) rfl rfl) ?_
    refine rw_nil ?_
    refine cw_ret ?_
    obtain rfl := some_inj hF2
    exact ret1 Try.results59 (v1 := .bool true) (resAt_tmp rfl) ⟨rfl, (ST.subR (R' := []) (hS3.sel [] rfl rfl) (fun _ h => by cases h))⟩

theorem c_laws_eqPhasePoly (a : TPhasePoly) (b : TPhasePoly) (B : Option Addr) (c n : Nat) (B1 : Option Addr) (c1 n1 : Nat) (B2 : Option Addr) (c2 n2 : Nat) (B3 : Option Addr) (c3 n3 : Nat) (w0 : World) (hn : a.Terms.length = n) (hn1 : a.Out.Rows.length = n1) (hn2 : b.Terms.length = n2) (hn3 : b.Out.Rows.length = n3) (hS : ST w0 [] w0 [] [⟨B, (a.Terms.flatMap enc_Term)⟩, ⟨B1, (a.Out.Rows.flatMap encI)⟩, ⟨B2, (b.Terms.flatMap enc_Term)⟩, ⟨B3, (b.Out.Rows.flatMap encI)⟩]) {r_ : Bool} (hF : F_laws_eqPhasePoly a b = some r_) :
    CV Try.prog 20 #[.agg #[.int .i64 a.Qubits, .int .i64 a.Phase, .slice B n c, .slice B1 n1 c1], .agg #[.int .i64 b.Qubits, .int .i64 b.Phase, .slice B2 n2 c2, .slice B3 n3 c3]] w0 (fun v w' => v = .bool r_ ∧ ST w0 [] w' [] []) := by
  subst hn
  subst hn1
  subst hn2
  subst hn3
  unfold F_laws_eqPhasePoly at hF
  refine cv_of_cw 27 Try.func20 rfl Try.ntmps20 rfl ?_
  refine cw_seq ?_
  refine cw_region ?_
  refine ss 2 rfl rfl (Ys_box (T := 50) (v := .agg #[.int .i64 a.Qubits, .int .i64 a.Phase, .slice B a.Terms.length c, .slice B1 a.Out.Rows.length c1]) (cs := [.int .i64 a.Qubits, .int .i64 a.Phase, .slice B a.Terms.length c, .slice B1 a.Out.Rows.length c1]) (m := 4) hS rfl rfl rfl rfl) ?_
  rintro _ w_ ⟨b1, rfl, hS1⟩
  refine ss 3 rfl rfl (Ys_box (T := 50) (v := .agg #[.int .i64 b.Qubits, .int .i64 b.Phase, .slice B2 b.Terms.length c2, .slice B3 b.Out.Rows.length c3]) (cs := [.int .i64 b.Qubits, .int .i64 b.Phase, .slice B2 b.Terms.length c2, .slice B3 b.Out.Rows.length c3]) (m := 4) hS1 rfl rfl rfl rfl) ?_
  rintro _ w_1 ⟨b2, rfl, hS2⟩
  have hS2 : ST w0 [] _ [⟨some ⟨b1, 0, none⟩, 50, [.int .i64 a.Qubits, .int .i64 a.Phase, .slice B a.Terms.length c, .slice B1 a.Out.Rows.length c1], 4⟩, ⟨some ⟨b2, 0, none⟩, 50, [.int .i64 b.Qubits, .int .i64 b.Phase, .slice B2 b.Terms.length c2, .slice B3 b.Out.Rows.length c3], 4⟩] [⟨B, (a.Terms.flatMap enc_Term)⟩, ⟨B1, (a.Out.Rows.flatMap encI)⟩, ⟨B2, (b.Terms.flatMap enc_Term)⟩, ⟨B3, (b.Out.Rows.flatMap encI)⟩] := hS2
  refine sq 4 rfl rfl (Y_assign (v := .bool false) rfl rfl) ?_
  refine rw_nil ?_
  refine cw_seq ?_
  refine cw_seq ?_
  refine cw_region ?_
  refine sq 5 rfl rfl (Y_fieldAddr (B := some ⟨b1, 0, none⟩) (i := 0) (s := 0) k_fd_50_0_0_3 k_sz_3_1 rfl rfl) ?_
  refine sq 6 rfl rfl (Y_load1 (B := some ⟨b1, 0, none⟩) (i := 0) (cs := [.int .i64 a.Qubits, .int .i64 a.Phase, .slice B a.Terms.length c, .slice B1 a.Out.Rows.length c1]) (v := .int .i64 a.Qubits) k_sc_3 rfl rfl (hS2.cf (i := 0) rfl) rfl) ?_
  refine sq 7 rfl rfl (Y_fieldAddr (B := some ⟨b2, 0, none⟩) (i := 0) (s := 0) k_fd_50_0_0_3 k_sz_3_1 rfl rfl) ?_
  refine sq 8 rfl rfl (Y_load1 (B := some ⟨b2, 0, none⟩) (i := 0) (cs := [.int .i64 b.Qubits, .int .i64 b.Phase, .slice B2 b.Terms.length c2, .slice B3 b.Out.Rows.length c3]) (v := .int .i64 b.Qubits) k_sc_3 rfl rfl (hS2.cf (i := 1) rfl) rfl) ?_
  refine sq 9 rfl rfl (Y_ne (k := .i64) (a := a.Qubits) (b := b.Qubits) rfl rfl rfl) ?_
  refine rw_nil ?_
  refine cw_cond (b := (a.Qubits != b.Qubits)) rfl (fun hb => ?_) (fun hb => ?_)
  · skip
    have hF1 := ct hF hb
    refine cw_seq ?_
    refine cw_region ?_
    refine sq 4 rfl rfl (Y_assign (v := .bool false) rfl rfl) ?_
    refine rw_nil ?_
    refine cw_ret ?_
    obtain rfl := some_inj hF1
    exact ret1 Try.results20 (v1 := .bool false) (resAt_tmp rfl) ⟨rfl, (ST.subR (R' := []) (hS2.sel [] rfl rfl) (fun _ h => by cases h))⟩
  · skip
    have hF2 := cf' hF hb
    refine cw_skip ?_
    refine cw_seq ?_
    refine cw_seq ?_
    refine cw_region ?_
    refine sq 10 rfl rfl (Y_fieldAddr (B := some ⟨b1, 0, none⟩) (i := 0) (s := 0) k_fd_50_1_1_3 k_sz_3_1 rfl rfl) ?_
    refine sq 11 rfl rfl (Y_load1 (B := some ⟨b1, 0, none⟩) (i := 1) (cs := [.int .i64 a.Qubits, .int .i64 a.Phase, .slice B a.Terms.length c, .slice B1 a.Out.Rows.length c1]) (v := .int .i64 a.Phase) k_sc_3 rfl rfl (hS2.cf (i := 0) rfl) rfl) ?_
    refine sq 12 rfl rfl (Y_fieldAddr (B := some ⟨b2, 0, none⟩) (i := 0) (s := 0) k_fd_50_1_1_3 k_sz_3_1 rfl rfl) ?_
    refine sq 13 rfl rfl (Y_load1 (B := some ⟨b2, 0, none⟩) (i := 1) (cs := [.int .i64 b.Qubits, .int .i64 b.Phase, .slice B2 b.Terms.length c2, .slice B3 b.Out.Rows.length c3]) (v := .int .i64 b.Phase) k_sc_3 rfl rfl (hS2.cf (i := 1) rfl) rfl) ?_
    refine sq 14 rfl rfl (Y_ne (k := .i64) (a := a.Phase) (b := b.Phase) rfl rfl rfl) ?_
    refine rw_nil ?_
    refine cw_cond (b := (a.Phase != b.Phase)) rfl (fun hb1 => ?_) (fun hb1 => ?_)
    · skip
      have hF3 := ct hF2 hb1
      refine cw_seq ?_
      refine cw_region ?_
      refine sq 4 rfl rfl (Y_assign (v := .bool false) rfl rfl) ?_
      refine rw_nil ?_
      refine cw_ret ?_
      obtain rfl := some_inj hF3
      exact ret1 Try.results20 (v1 := .bool false) (resAt_tmp rfl) ⟨rfl, (ST.subR (R' := []) (hS2.sel [] rfl rfl) (fun _ h => by cases h))⟩
    · skip
      have hF4 := cf' hF2 hb1
      refine cw_skip ?_
      refine cw_seq ?_
      refine cw_seq ?_
      refine cw_region ?_
      refine sq 15 rfl rfl (Y_fieldAddr (B := some ⟨b1, 0, none⟩) (i := 0) (s := 0) k_fd_50_2_2_47 k_sz_47_1 rfl rfl) ?_
      refine sq 16 rfl rfl (Y_load1 (B := some ⟨b1, 0, none⟩) (i := 2) (cs := [.int .i64 a.Qubits, .int .i64 a.Phase, .slice B a.Terms.length c, .slice B1 a.Out.Rows.length c1]) (v := .slice B a.Terms.length c) k_sc_47 rfl rfl (hS2.cf (i := 0) rfl) rfl) ?_
      refine sq 17 rfl rfl (Y_fieldAddr (B := some ⟨b2, 0, none⟩) (i := 0) (s := 0) k_fd_50_2_2_47 k_sz_47_1 rfl rfl) ?_
      refine sq 18 rfl rfl (Y_load1 (B := some ⟨b2, 0, none⟩) (i := 2) (cs := [.int .i64 b.Qubits, .int .i64 b.Phase, .slice B2 b.Terms.length c2, .slice B3 b.Out.Rows.length c3]) (v := .slice B2 b.Terms.length c2) k_sc_47 rfl rfl (hS2.cf (i := 1) rfl) rfl) ?_
      obtain ⟨r_1, hc, hF4⟩ := bind_inv hF4
      refine sc 19 rfl rfl (Yc_func (g := 58) (vs := [.slice B a.Terms.length c, .slice B2 b.Terms.length c2]) k_call_58 rfl (mc rfl (mc rfl mn)) (c_laws_eqTermS a.Terms b.Terms B c a.Terms.length B2 c2 b.Terms.length _ rfl rfl (hS2.inn0 [(true, 0), (true, 2)] rfl) hc)) ?_
      rintro _ w_2 ⟨rfl, hd⟩
      have hS3 := hS2.out00 hd
      have hS3 : ST w0 [] _ [⟨some ⟨b1, 0, none⟩, 50, [.int .i64 a.Qubits, .int .i64 a.Phase, .slice B a.Terms.length c, .slice B1 a.Out.Rows.length c1], 4⟩, ⟨some ⟨b2, 0, none⟩, 50, [.int .i64 b.Qubits, .int .i64 b.Phase, .slice B2 b.Terms.length c2, .slice B3 b.Out.Rows.length c3], 4⟩] [⟨B, (a.Terms.flatMap enc_Term)⟩, ⟨B1, (a.Out.Rows.flatMap encI)⟩, ⟨B2, (b.Terms.flatMap enc_Term)⟩, ⟨B3, (b.Out.Rows.flatMap encI)⟩] := hS3
      refine sq 20 rfl rfl (Y_not (p := r_1) rfl rfl) ?_
      refine rw_nil ?_
      refine cw_cond (b := (!r_1)) rfl (fun hb2 => ?_) (fun hb2 => ?_)
      · skip
        have hF5 := ct hF4 hb2
        refine cw_seq ?_
        refine cw_region ?_
        refine sq 4 rfl rfl (Y_assign (v := .bool false) rfl rfl) ?_
        refine rw_nil ?_
        refine cw_ret ?_
        obtain rfl := some_inj hF5
        exact ret1 Try.results20 (v1 := .bool false) (resAt_tmp rfl) ⟨rfl, (ST.subR (R' := []) (hS3.sel [] rfl rfl) (fun _ h => by cases h))⟩
      · skip
        have hF6 := cf' hF4 hb2
        refine cw_skip ?_
        refine cw_seq ?_
        refine cw_seq ?_
        refine cw_region ?_
        refine sq 21 rfl rfl (Y_fieldAddr (B := some ⟨b1, 0, none⟩) (i := 0) (s := 0) k_fd_50_3_3_48 k_sz_48_1 rfl rfl) ?_
        refine sq 22 rfl rfl (Y_loadA (B := some ⟨b1, 0, none⟩) (i := 3) (cs := [.int .i64 a.Qubits, .int .i64 a.Phase, .slice B a.Terms.length c, .slice B1 a.Out.Rows.length c1]) (vs := [.slice B1 a.Out.Rows.length c1]) k_ag_48 k_sz_48_1 rfl rfl (hS3.cf (i := 0) rfl) rfl rfl) ?_
        refine sq 23 rfl rfl (Y_fieldAddr (B := some ⟨b2, 0, none⟩) (i := 0) (s := 0) k_fd_50_3_3_48 k_sz_48_1 rfl rfl) ?_
        refine sq 24 rfl rfl (Y_loadA (B := some ⟨b2, 0, none⟩) (i := 3) (cs := [.int .i64 b.Qubits, .int .i64 b.Phase, .slice B2 b.Terms.length c2, .slice B3 b.Out.Rows.length c3]) (vs := [.slice B3 b.Out.Rows.length c3]) k_ag_48 k_sz_48_1 rfl rfl (hS3.cf (i := 1) rfl) rfl rfl) ?_
        obtain ⟨r_2, hc1, hF6⟩ := bind_inv hF6
        refine sc 25 rfl rfl (Yc_func (g := 59) (vs := [.agg #[.slice B1 a.Out.Rows.length c1], .agg #[.slice B3 b.Out.Rows.length c3]]) k_call_59 rfl (mc rfl (mc rfl mn)) (c_laws_eqLinear a.Out b.Out B1 c1 a.Out.Rows.length B3 c3 b.Out.Rows.length _ rfl rfl (hS3.inn0 [(true, 1), (true, 3)] rfl) hc1)) ?_
        rintro _ w_3 ⟨rfl, hd1⟩
        have hS4 := hS3.out00 hd1
        have hS4 : ST w0 [] _ [⟨some ⟨b1, 0, none⟩, 50, [.int .i64 a.Qubits, .int .i64 a.Phase, .slice B a.Terms.length c, .slice B1 a.Out.Rows.length c1], 4⟩, ⟨some ⟨b2, 0, none⟩, 50, [.int .i64 b.Qubits, .int .i64 b.Phase, .slice B2 b.Terms.length c2, .slice B3 b.Out.Rows.length c3], 4⟩] [⟨B, (a.Terms.flatMap enc_Term)⟩, ⟨B1, (a.Out.Rows.flatMap encI)⟩, ⟨B2, (b.Terms.flatMap enc_Term)⟩, ⟨B3, (b.Out.Rows.flatMap encI)⟩] := hS4
        refine sq 26 rfl rfl (Y_not (p := r_2) rfl rfl) ?_
        refine rw_nil ?_
        refine cw_cond (b := (!r_2)) rfl (fun hb3 => ?_) (fun hb3 => ?_)
        · skip
          have hF7 := ct hF6 hb3
          refine cw_seq ?_
          refine cw_region ?_
          refine sq 4 rfl rfl (Y_assign (v := .bool false) rfl rfl) ?_
          refine rw_nil ?_
          refine cw_ret ?_
          obtain rfl := some_inj hF7
          exact ret1 Try.results20 (v1 := .bool false) (resAt_tmp rfl) ⟨rfl, (ST.subR (R' := []) (hS4.sel [] rfl rfl) (fun _ h => by cases h))⟩
        · skip
          have hF8 := cf' hF6 hb3
          refine cw_skip ?_
          refine cw_seq ?_
          refine cw_region ?_
          refine sq 4 rfl rfl (Y_assign (v := .bool true) rfl rfl) ?_
          refine rw_nil ?_
          refine cw_ret ?_
          obtain rfl := some_inj hF8
          exact ret1 Try.results20 (v1 := .bool true) (resAt_tmp rfl) ⟨rfl, (ST.subR (R' := []) (hS4.sel [] rfl rfl) (fun _ h => by cases h))⟩

theorem c_laws_markTermS (a : List TTerm) (k_ : Int) (B : Option Addr) (c n : Nat) (w0 : World) (hn : a.length = n) (hS : ST w0 (bl [⟨B, 95, (a.flatMap enc_Term), c * 2⟩]) w0 [⟨B, 95, (a.flatMap enc_Term), c * 2⟩] []) {r_ : Int} {m : List TTerm} (hF : F_laws_markTermS a k_ = some (r_, m)) :
    CV Try.prog 60 #[.slice B n c, .int .i64 k_] w0 (fun v w' => v = .int .i64 r_ ∧ m.length = n ∧ ST w0 (bl [⟨B, 95, (a.flatMap enc_Term), c * 2⟩]) w' [⟨B, 95, (m.flatMap enc_Term), c * 2⟩] []) := by
  subst hn
  unfold F_laws_markTermS at hF
  refine cv_of_cw 27 Try.func60 rfl Try.ntmps60 rfl ?_
  refine cw_seq ?_
  refine cw_region ?_
  refine sq 4 rfl rfl (Y_assign (v := .int .i64 0) rfl rfl) ?_
  refine rw_nil ?_
  refine cw_seq ?_
  refine cw_seq ?_
  refine cw_region ?_
  refine sq 5 rfl rfl (Y_assign (v := .int .i64 0) rfl rfl) ?_
  refine rw_nil ?_
  obtain ⟨hN, hF⟩ := chk_inv hF
  obtain ⟨z, hz, hF1⟩ := bind_inv hF
  refine cw_block ?_
  refine cw_loop (fun k f w => ∃ (i1 : Nat) (m1 : List TTerm) (k_1 : Int), FF f [(0, .slice B a.length c), (1, .int .i64 k_1), (5, .int .i64 (i1 : Int))] ∧ m1.length = a.length ∧ ST w0 (bl [⟨B, 95, (a.flatMap enc_Term), c * 2⟩]) w [⟨B, 95, (m1.flatMap enc_Term), c * 2⟩] [] ∧ i1 + k = a.length ∧ forN F_laws_markTermS_l1 k i1 (m1, k_1) = some z) a.length ⟨0, a, k_, (FF.cons rfl (FF.cons rfl (FF.cons rfl FF.nil))), rfl, (hS.sel [0] rfl rfl), Nat.zero_add _, hz⟩ ?_
  rintro k_2 f w ⟨i1, m1, k_1, hf, hl, hS1, hik, hL⟩
  refine cw_seq ?_
  refine cw_seq ?_
  refine cw_region ?_
  refine sq 6 rfl rfl (Y_move (v := .int .i64 (i1 : Int)) rfl (hf.get 5 2 rfl)) ?_
  refine sq 7 rfl rfl (Y_move (v := .slice B a.length c) rfl (hf.get 0 0 rfl)) ?_
  refine sq 8 rfl rfl (Y_len (B := B) (m := a.length) (c := c) k_sl_47_95 rfl rfl) ?_
  refine sq 9 rfl rfl (Y_lt (k := .i64) (a := (i1 : Int)) (b := (a.length : Int)) rfl rfl rfl) ?_
  refine rw_nil ?_
  refine cw_cond (b := (decide ((i1 : Int) < (a.length : Int)))) rfl (fun hlt => ?_) (fun hlt => ?_)
  · skip
    have hlt1 : i1 < a.length := by have h := of_decide_eq_true hlt; omega
    obtain ⟨k_3, rfl⟩ : ∃ k2, k_2 = k2 + 1 := ⟨k_2 - 1, by omega⟩
    obtain ⟨y, hb, hL1⟩ := forN_go hL
    unfold F_laws_markTermS_l1 at hb
    refine cw_skip ?_
    refine cw_seq ?_
    refine cw_block ?_
    refine cw_seq ?_
    refine cw_region ?_
    refine sq 12 rfl rfl (Y_move (v := .slice B a.length c) rfl (hf.get 0 0 rfl)) ?_
    refine sq 13 rfl rfl (Y_move (v := .int .i64 (i1 : Int)) rfl (hf.get 5 2 rfl)) ?_
    refine sq 14 rfl rfl (Y_move (v := .int .i64 k_1) rfl (hf.get 1 1 rfl)) ?_
    obtain ⟨x, hx, hb⟩ := bind_inv hb
    refine sq 15 rfl rfl (Y_index (B := B) (m := a.length) (c := c) (k := .i64) (i := (i1 : Int)) k_sl_47_95 k_sz_95_2 rfl rfl rfl (gi_isSome enc_Term_len rfl (hS1.cf (i := 0) rfl) hx) (getI_nn hx) (getI_ltI hx hl)) ?_
    refine sq 16 rfl rfl (Y_fieldAddr (B := B) (i := (i1 : Int).toNat * 2) (s := 0) k_fd_95_0_0_3 k_sz_3_1 rfl rfl) ?_
    refine ss0 rfl rfl (Ys_store (i := 0) (s := 1) (B := B) (T' := 95) (v := .int .i64 k_1) (vs := [.int .i64 k_1]) (k := (i1 : Int).toNat * 2 + 0) (cs' := ((m1.set (i1 : Int).toNat (TTerm.mk k_1 x.Coef)).flatMap enc_Term)) hS1 k_sz_3_1 rfl rfl rfl rfl rfl rfl rfl (gi_fit enc_Term_len hx (j := 0) (k := 1) (by decide)) (gi_setf enc_Term_len hx (TTerm.mk k_1 x.Coef) rfl (Nat.le_of_ble_eq_true rfl)) rfl) ?_
    rintro _ w_ ⟨rfl, hS2⟩
    refine rw_nil ?_
    refine cw_seq ?_
    refine cw_region ?_
    refine sq 17 rfl rfl (Y_move (v := .int .i64 k_1) rfl (hf.get 1 1 rfl)) ?_
    refine sq 18 rfl rfl (Y_add (k := .i64) (a := k_1) (b := 1) rfl rfl rfl) ?_
    refine sq 1 rfl rfl (Y_assign (v := .int .i64 (IntKind.i64.wrap (k_1 + 1))) rfl rfl) ?_
    refine rw_nil ?_
    refine cw_seq ?_
    refine cw_region ?_
    refine sq 19 rfl rfl (Y_move (v := .slice B a.length c) rfl (hf.get 0 0 rfl)) ?_
    refine sq 20 rfl rfl (Y_move (v := .int .i64 (i1 : Int)) rfl (hf.get 5 2 rfl)) ?_
    refine sq 21 rfl rfl (Y_move (v := .int .i64 (IntKind.i64.wrap (k_1 + 1))) rfl rfl) ?_
    refine sq 22 rfl rfl (Y_index (B := B) (m := a.length) (c := c) (k := .i64) (i := (i1 : Int)) k_sl_47_95 k_sz_95_2 rfl rfl rfl (gi_isSome enc_Term_len rfl (hS2.cf (i := 0) rfl) (getI_set (y := (TTerm.mk k_1 x.Coef)) hx)) (getI_nn (getI_set (y := (TTerm.mk k_1 x.Coef)) hx)) (getI_ltI (getI_set (y := (TTerm.mk k_1 x.Coef)) hx) (set_len _ _ _ hl))) ?_
    refine sq 23 rfl rfl (Y_fieldAddr (B := B) (i := (i1 : Int).toNat * 2) (s := 0) k_fd_95_1_1_3 k_sz_3_1 rfl rfl) ?_
    refine ss0 rfl rfl (Ys_store (i := 0) (s := 1) (B := B) (T' := 95) (v := .int .i64 (IntKind.i64.wrap (k_1 + 1))) (vs := [.int .i64 (IntKind.i64.wrap (k_1 + 1))]) (k := (i1 : Int).toNat * 2 + 1) (cs' := (((m1.set (i1 : Int).toNat (TTerm.mk k_1 x.Coef)).set (i1 : Int).toNat (TTerm.mk k_1 (IntKind.i64.wrap (k_1 + 1)))).flatMap enc_Term)) hS2 k_sz_3_1 rfl rfl rfl rfl rfl rfl rfl (gi_fit enc_Term_len (getI_set (y := (TTerm.mk k_1 x.Coef)) hx) (j := 1) (k := 1) (by decide)) (gi_setf enc_Term_len (getI_set (y := (TTerm.mk k_1 x.Coef)) hx) (TTerm.mk k_1 (IntKind.i64.wrap (k_1 + 1))) rfl (Nat.le_of_ble_eq_true rfl)) rfl) ?_
    rintro _ w_1 ⟨rfl, hS3⟩
    refine rw_nil ?_
    refine cw_region ?_
    refine sq 24 rfl rfl (Y_move (v := .int .i64 (IntKind.i64.wrap (k_1 + 1))) rfl rfl) ?_
    refine sq 25 rfl rfl (Y_add (k := .i64) (a := (IntKind.i64.wrap (k_1 + 1))) (b := 1) rfl rfl rfl) ?_
    refine sq 1 rfl rfl (Y_assign (v := .int .i64 (IntKind.i64.wrap ((IntKind.i64.wrap (k_1 + 1)) + 1))) rfl rfl) ?_
    refine rw_nil ?_
    refine cw_region ?_
    refine sq 10 rfl rfl (Y_move (v := .int .i64 (i1 : Int)) rfl (hf.get 5 2 rfl)) ?_
    refine sq 11 rfl rfl (Y_add (k := .i64) (a := (i1 : Int)) (b := 1) rfl rfl rfl) ?_
    refine sq 5 rfl rfl (Y_assign (v := .int .i64 (IntKind.i64.wrap ((i1 : Int) + 1))) rfl rfl) ?_
    refine rw_nil ?_
    obtain rfl := some_inj hb
    exact ⟨k_3, Nat.lt_succ_self _, i1 + 1, ((m1.set (i1 : Int).toNat (TTerm.mk k_1 x.Coef)).set (i1 : Int).toNat (TTerm.mk k_1 (IntKind.i64.wrap (k_1 + 1)))), (IntKind.i64.wrap ((IntKind.i64.wrap (k_1 + 1)) + 1)), (FF.cons (hf.get 0 0 rfl) (FF.cons rfl (FF.cons (congrArg (Value.int .i64) (wr_succ hlt1 hN)) FF.nil))), (set_len _ _ _ (set_len _ _ _ hl)), (hS3.sel [0] rfl rfl), (by omega), hL1⟩
  · skip
    obtain rfl : k_2 = 0 := by have h := of_decide_eq_false hlt; omega
    refine cw_exit rfl ?_
    obtain rfl := some_inj hL
    refine cw_seq ?_
    refine cw_region ?_
    refine sq 26 rfl rfl (Y_move (v := .int .i64 k_1) rfl (hf.get 1 1 rfl)) ?_
    refine sq 4 rfl rfl (Y_assign (v := .int .i64 k_1) rfl rfl) ?_
    refine rw_nil ?_
    refine cw_ret ?_
    obtain ⟨rfl, rfl⟩ := pr2 (some_inj hF1)
    exact ret1 Try.results60 (v1 := .int .i64 k_1) (resAt_tmp rfl) ⟨rfl, hl, (ST.subR (R' := []) (hS1.sel [0] rfl rfl) (fun _ h => by cases h))⟩

theorem c_laws_markIntS (a : List Int) (k_ : Int) (B : Option Addr) (c n : Nat) (w0 : World) (hn : a.length = n) (hS : ST w0 (bl [⟨B, 3, (a.flatMap encI), c * 1⟩]) w0 [⟨B, 3, (a.flatMap encI), c * 1⟩] []) {r_ : Int} {m : List Int} (hF : F_laws_markIntS a k_ = some (r_, m)) :
    CV Try.prog 109 #[.slice B n c, .int .i64 k_] w0 (fun v w' => v = .int .i64 r_ ∧ m.length = n ∧ ST w0 (bl [⟨B, 3, (a.flatMap encI), c * 1⟩]) w' [⟨B, 3, (m.flatMap encI), c * 1⟩] []) := by
  subst hn
  unfold F_laws_markIntS at hF
  refine cv_of_cw 19 Try.func109 rfl Try.ntmps109 rfl ?_
  refine cw_seq ?_
  refine cw_region ?_
  refine sq 4 rfl rfl (Y_assign (v := .int .i64 0) rfl rfl) ?_
  refine rw_nil ?_
  refine cw_seq ?_
  refine cw_seq ?_
  refine cw_region ?_
  refine sq 5 rfl rfl (Y_assign (v := .int .i64 0) rfl rfl) ?_
  refine rw_nil ?_
  obtain ⟨hN, hF⟩ := chk_inv hF
  obtain ⟨z, hz, hF1⟩ := bind_inv hF
  refine cw_block ?_
  refine cw_loop (fun k f w => ∃ (i1 : Nat) (m1 : List Int) (k_1 : Int), FF f [(0, .slice B a.length c), (1, .int .i64 k_1), (5, .int .i64 (i1 : Int))] ∧ m1.length = a.length ∧ ST w0 (bl [⟨B, 3, (a.flatMap encI), c * 1⟩]) w [⟨B, 3, (m1.flatMap encI), c * 1⟩] [] ∧ i1 + k = a.length ∧ forN F_laws_markIntS_l1 k i1 (m1, k_1) = some z) a.length ⟨0, a, k_, (FF.cons rfl (FF.cons rfl (FF.cons rfl FF.nil))), rfl, (hS.sel [0] rfl rfl), Nat.zero_add _, hz⟩ ?_
  rintro k_2 f w ⟨i1, m1, k_1, hf, hl, hS1, hik, hL⟩
  refine cw_seq ?_
  refine cw_seq ?_
  refine cw_region ?_
  refine sq 6 rfl rfl (Y_move (v := .int .i64 (i1 : Int)) rfl (hf.get 5 2 rfl)) ?_
  refine sq 7 rfl rfl (Y_move (v := .slice B a.length c) rfl (hf.get 0 0 rfl)) ?_
  refine sq 8 rfl rfl (Y_len (B := B) (m := a.length) (c := c) k_sl_41_3 rfl rfl) ?_
  refine sq 9 rfl rfl (Y_lt (k := .i64) (a := (i1 : Int)) (b := (a.length : Int)) rfl rfl rfl) ?_
  refine rw_nil ?_
  refine cw_cond (b := (decide ((i1 : Int) < (a.length : Int)))) rfl (fun hlt => ?_) (fun hlt => ?_)
  · skip
    have hlt1 : i1 < a.length := by have h := of_decide_eq_true hlt; omega
    obtain ⟨k_3, rfl⟩ : ∃ k2, k_2 = k2 + 1 := ⟨k_2 - 1, by omega⟩
    obtain ⟨y, hb, hL1⟩ := forN_go hL
    unfold F_laws_markIntS_l1 at hb
    refine cw_skip ?_
    refine cw_seq ?_
    refine cw_block ?_
    refine cw_seq ?_
    refine cw_region ?_
    refine sq 12 rfl rfl (Y_move (v := .slice B a.length c) rfl (hf.get 0 0 rfl)) ?_
    refine sq 13 rfl rfl (Y_move (v := .int .i64 (i1 : Int)) rfl (hf.get 5 2 rfl)) ?_
    refine sq 14 rfl rfl (Y_move (v := .int .i64 k_1) rfl (hf.get 1 1 rfl)) ?_
    obtain ⟨x, hx, hb⟩ := bind_inv hb
    refine sq 15 rfl rfl (Y_index (B := B) (m := a.length) (c := c) (k := .i64) (i := (i1 : Int)) k_sl_41_3 k_sz_3_1 rfl rfl rfl (gi_isSome encI_len rfl (hS1.cf (i := 0) rfl) hx) (getI_nn hx) (getI_ltI hx hl)) ?_
    refine ss0 rfl rfl (Ys_store (i := 0) (s := 1) (B := B) (T' := 3) (v := .int .i64 k_1) (vs := [.int .i64 k_1]) (k := (i1 : Int).toNat * 1) (cs' := ((m1.set (i1 : Int).toNat k_1).flatMap encI)) hS1 k_sz_3_1 rfl rfl rfl rfl rfl rfl rfl (gi_fit0 encI_len hx) (gi_set encI_len hx k_1 rfl) rfl) ?_
    rintro _ w_ ⟨rfl, hS2⟩
    refine rw_nil ?_
    refine cw_region ?_
    refine sq 16 rfl rfl (Y_move (v := .int .i64 k_1) rfl (hf.get 1 1 rfl)) ?_
    refine sq 17 rfl rfl (Y_add (k := .i64) (a := k_1) (b := 1) rfl rfl rfl) ?_
    refine sq 1 rfl rfl (Y_assign (v := .int .i64 (IntKind.i64.wrap (k_1 + 1))) rfl rfl) ?_
    refine rw_nil ?_
    refine cw_region ?_
    refine sq 10 rfl rfl (Y_move (v := .int .i64 (i1 : Int)) rfl (hf.get 5 2 rfl)) ?_
    refine sq 11 rfl rfl (Y_add (k := .i64) (a := (i1 : Int)) (b := 1) rfl rfl rfl) ?_
    refine sq 5 rfl rfl (Y_assign (v := .int .i64 (IntKind.i64.wrap ((i1 : Int) + 1))) rfl rfl) ?_
    refine rw_nil ?_
    obtain rfl := some_inj hb
    exact ⟨k_3, Nat.lt_succ_self _, i1 + 1, (m1.set (i1 : Int).toNat k_1), (IntKind.i64.wrap (k_1 + 1)), (FF.cons (hf.get 0 0 rfl) (FF.cons rfl (FF.cons (congrArg (Value.int .i64) (wr_succ hlt1 hN)) FF.nil))), (set_len _ _ _ hl), (hS2.sel [0] rfl rfl), (by omega), hL1⟩
  · skip
    obtain rfl : k_2 = 0 := by have h := of_decide_eq_false hlt; omega
    refine cw_exit rfl ?_
    obtain rfl := some_inj hL
    refine cw_seq ?_
    refine cw_region ?_
    refine sq 18 rfl rfl (Y_move (v := .int .i64 k_1) rfl (hf.get 1 1 rfl)) ?_
    refine sq 4 rfl rfl (Y_assign (v := .int .i64 k_1) rfl rfl) ?_
    refine rw_nil ?_
    refine cw_ret ?_
    obtain ⟨rfl, rfl⟩ := pr2 (some_inj hF1)
    exact ret1 Try.results109 (v1 := .int .i64 k_1) (resAt_tmp rfl) ⟨rfl, hl, (ST.subR (R' := []) (hS1.sel [0] rfl rfl) (fun _ h => by cases h))⟩

theorem c_laws_markLinear (a : TLinear) (k_ : Int) (B : Option Addr) (c n : Nat) (w0 : World) (hn : a.Rows.length = n) (hS : ST w0 (bl [⟨B, 3, (a.Rows.flatMap encI), c * 1⟩]) w0 [⟨B, 3, (a.Rows.flatMap encI), c * 1⟩] []) {r_ : Int} {m : List Int} (hF : F_laws_markLinear a k_ = some (r_, m)) :
    CV Try.prog 61 #[.agg #[.slice B n c], .int .i64 k_] w0 (fun v w' => v = .int .i64 r_ ∧ m.length = n ∧ ST w0 (bl [⟨B, 3, (a.Rows.flatMap encI), c * 1⟩]) w' [⟨B, 3, (m.flatMap encI), c * 1⟩] []) := by
  subst hn
  unfold F_laws_markLinear at hF
  refine cv_of_cw 10 Try.func61 rfl Try.ntmps61 rfl ?_
  refine cw_seq ?_
  refine cw_region ?_
  refine ss 2 rfl rfl (Ys_box (T := 48) (v := .agg #[.slice B a.Rows.length c]) (cs := [.slice B a.Rows.length c]) (m := 1) hS rfl rfl rfl rfl) ?_
  rintro _ w_ ⟨b, rfl, hS1⟩
  have hS1 : ST w0 (bl [⟨B, 3, (a.Rows.flatMap encI), c * 1⟩]) _ [⟨B, 3, (a.Rows.flatMap encI), c * 1⟩, ⟨some ⟨b, 0, none⟩, 48, [.slice B a.Rows.length c], 1⟩] [] := hS1
  refine sq 4 rfl rfl (Y_assign (v := .int .i64 0) rfl rfl) ?_
  refine rw_nil ?_
  refine cw_seq ?_
  refine cw_region ?_
  refine sq 5 rfl rfl (Y_fieldAddr (B := some ⟨b, 0, none⟩) (i := 0) (s := 0) k_fd_48_0_0_41 k_sz_41_1 rfl rfl) ?_
  refine sq 6 rfl rfl (Y_load1 (B := some ⟨b, 0, none⟩) (i := 0) (cs := [.slice B a.Rows.length c]) (v := .slice B a.Rows.length c) k_sc_41 rfl rfl (hS1.cf (i := 1) rfl) rfl) ?_
  refine sq 7 rfl rfl (Y_move (v := .int .i64 k_) rfl rfl) ?_
  obtain ⟨⟨r_1, m1⟩, hc, hF⟩ := bind_inv hF
  refine sc 8 rfl rfl (Yc_func (g := 109) (vs := [.slice B a.Rows.length c, .int .i64 k_]) k_call_109 rfl (mc rfl (mc rfl mn)) (c_laws_markIntS a.Rows k_ B c a.Rows.length _ rfl (hS1.inn [true, false] rfl [] rfl) hc)) ?_
  rintro _ w_1 ⟨rfl, hl, hd⟩
  have hS2 := hS1.out [true, false] rfl hd
  have hS2 : ST w0 (bl [⟨B, 3, (a.Rows.flatMap encI), c * 1⟩]) _ [⟨some ⟨b, 0, none⟩, 48, [.slice B a.Rows.length c], 1⟩, ⟨B, 3, (m1.flatMap encI), c * 1⟩] [] := hS2
  refine sq 1 rfl rfl (Y_assign (v := .int .i64 r_1) rfl rfl) ?_
  refine rw_nil ?_
  refine cw_seq ?_
  refine cw_region ?_
  refine sq 9 rfl rfl (Y_move (v := .int .i64 r_1) rfl rfl) ?_
  refine sq 4 rfl rfl (Y_assign (v := .int .i64 r_1) rfl rfl) ?_
  refine rw_nil ?_
  refine cw_ret ?_
  obtain ⟨rfl, rfl⟩ := pr2 (some_inj hF)
  exact ret1 Try.results61 (v1 := .int .i64 r_1) (resAt_tmp rfl) ⟨rfl, hl, (ST.subR (R' := []) (hS2.sel [1] rfl rfl) (fun _ h => by cases h))⟩

theorem c_laws_markPhasePoly (a : TPhasePoly) (k_ : Int) (B : Option Addr) (c n : Nat) (B1 : Option Addr) (c1 n1 : Nat) (w0 : World) (hn : a.Terms.length = n) (hn1 : a.Out.Rows.length = n1) (hS : ST w0 (bl [⟨B, 95, (a.Terms.flatMap enc_Term), c * 2⟩, ⟨B1, 3, (a.Out.Rows.flatMap encI), c1 * 1⟩]) w0 [⟨B, 95, (a.Terms.flatMap enc_Term), c * 2⟩, ⟨B1, 3, (a.Out.Rows.flatMap encI), c1 * 1⟩] []) {r_ : Int} {m : List TTerm} {m1 : List Int} (hF : F_laws_markPhasePoly a k_ = some (r_, m, m1)) :
    CV Try.prog 21 #[.agg #[.int .i64 a.Qubits, .int .i64 a.Phase, .slice B n c, .slice B1 n1 c1], .int .i64 k_] w0 (fun v w' => v = .int .i64 r_ ∧ m.length = n ∧ m1.length = n1 ∧ ST w0 (bl [⟨B, 95, (a.Terms.flatMap enc_Term), c * 2⟩, ⟨B1, 3, (a.Out.Rows.flatMap encI), c1 * 1⟩]) w' [⟨B, 95, (m.flatMap enc_Term), c * 2⟩, ⟨B1, 3, (m1.flatMap encI), c1 * 1⟩] []) := by
  subst hn
  subst hn1
  unfold F_laws_markPhasePoly at hF
  refine cv_of_cw 14 Try.func21 rfl Try.ntmps21 rfl ?_
  refine cw_seq ?_
  refine cw_region ?_
  refine ss 2 rfl rfl (Ys_box (T := 50) (v := .agg #[.int .i64 a.Qubits, .int .i64 a.Phase, .slice B a.Terms.length c, .slice B1 a.Out.Rows.length c1]) (cs := [.int .i64 a.Qubits, .int .i64 a.Phase, .slice B a.Terms.length c, .slice B1 a.Out.Rows.length c1]) (m := 4) hS rfl rfl rfl rfl) ?_
  rintro _ w_ ⟨b, rfl, hS1⟩
  have hS1 : ST w0 (bl [⟨B, 95, (a.Terms.flatMap enc_Term), c * 2⟩, ⟨B1, 3, (a.Out.Rows.flatMap encI), c1 * 1⟩]) _ [⟨B, 95, (a.Terms.flatMap enc_Term), c * 2⟩, ⟨B1, 3, (a.Out.Rows.flatMap encI), c1 * 1⟩, ⟨some ⟨b, 0, none⟩, 50, [.int .i64 a.Qubits, .int .i64 a.Phase, .slice B a.Terms.length c, .slice B1 a.Out.Rows.length c1], 4⟩] [] := hS1
  refine sq 4 rfl rfl (Y_assign (v := .int .i64 0) rfl rfl) ?_
  refine rw_nil ?_
  refine cw_seq ?_
  refine cw_region ?_
  refine sq 5 rfl rfl (Y_fieldAddr (B := some ⟨b, 0, none⟩) (i := 0) (s := 0) k_fd_50_2_2_47 k_sz_47_1 rfl rfl) ?_
  refine sq 6 rfl rfl (Y_load1 (B := some ⟨b, 0, none⟩) (i := 2) (cs := [.int .i64 a.Qubits, .int .i64 a.Phase, .slice B a.Terms.length c, .slice B1 a.Out.Rows.length c1]) (v := .slice B a.Terms.length c) k_sc_47 rfl rfl (hS1.cf (i := 2) rfl) rfl) ?_
  refine sq 7 rfl rfl (Y_move (v := .int .i64 k_) rfl rfl) ?_
  obtain ⟨⟨r_1, m2⟩, hc, hF⟩ := bind_inv hF
  refine sc 8 rfl rfl (Yc_func (g := 60) (vs := [.slice B a.Terms.length c, .int .i64 k_]) k_call_60 rfl (mc rfl (mc rfl mn)) (c_laws_markTermS a.Terms k_ B c a.Terms.length _ rfl (hS1.inn [true, false, false] rfl [] rfl) hc)) ?_
  rintro _ w_1 ⟨rfl, hl, hd⟩
  have hS2 := hS1.out [true, false, false] rfl hd
  have hS2 : ST w0 (bl [⟨B, 95, (a.Terms.flatMap enc_Term), c * 2⟩, ⟨B1, 3, (a.Out.Rows.flatMap encI), c1 * 1⟩]) _ [⟨B1, 3, (a.Out.Rows.flatMap encI), c1 * 1⟩, ⟨some ⟨b, 0, none⟩, 50, [.int .i64 a.Qubits, .int .i64 a.Phase, .slice B a.Terms.length c, .slice B1 a.Out.Rows.length c1], 4⟩, ⟨B, 95, (m2.flatMap enc_Term), c * 2⟩] [] := hS2
  refine sq 1 rfl rfl (Y_assign (v := .int .i64 r_1) rfl rfl) ?_
  refine rw_nil ?_
  refine cw_seq ?_
  refine cw_region ?_
  refine sq 9 rfl rfl (Y_fieldAddr (B := some ⟨b, 0, none⟩) (i := 0) (s := 0) k_fd_50_3_3_48 k_sz_48_1 rfl rfl) ?_
  refine sq 10 rfl rfl (Y_loadA (B := some ⟨b, 0, none⟩) (i := 3) (cs := [.int .i64 a.Qubits, .int .i64 a.Phase, .slice B a.Terms.length c, .slice B1 a.Out.Rows.length c1]) (vs := [.slice B1 a.Out.Rows.length c1]) k_ag_48 k_sz_48_1 rfl rfl (hS2.cf (i := 1) rfl) rfl rfl) ?_
  refine sq 11 rfl rfl (Y_move (v := .int .i64 r_1) rfl rfl) ?_
  obtain ⟨⟨r_2, m3⟩, hc1, hF⟩ := bind_inv hF
  refine sc 12 rfl rfl (Yc_func (g := 61) (vs := [.agg #[.slice B1 a.Out.Rows.length c1], .int .i64 r_1]) k_call_61 rfl (mc rfl (mc rfl mn)) (c_laws_markLinear a.Out r_1 B1 c1 a.Out.Rows.length _ rfl (hS2.inn [true, false, false] rfl [] rfl) hc1)) ?_
  rintro _ w_2 ⟨rfl, hl1, hd1⟩
  have hS3 := hS2.out [true, false, false] rfl hd1
  have hS3 : ST w0 (bl [⟨B, 95, (a.Terms.flatMap enc_Term), c * 2⟩, ⟨B1, 3, (a.Out.Rows.flatMap encI), c1 * 1⟩]) _ [⟨some ⟨b, 0, none⟩, 50, [.int .i64 a.Qubits, .int .i64 a.Phase, .slice B a.Terms.length c, .slice B1 a.Out.Rows.length c1], 4⟩, ⟨B, 95, (m2.flatMap enc_Term), c * 2⟩, ⟨B1, 3, (m3.flatMap encI), c1 * 1⟩] [] := hS3
  refine sq 1 rfl rfl (Y_assign (v := .int .i64 r_2) rfl rfl) ?_
  refine rw_nil ?_
  refine cw_seq ?_
  refine cw_region ?_
  refine sq 13 rfl rfl (Y_move (v := .int .i64 r_2) rfl rfl) ?_
  refine sq 4 rfl rfl (Y_assign (v := .int .i64 r_2) rfl rfl) ?_
  refine rw_nil ?_
  refine cw_ret ?_
  obtain ⟨rfl, rfl, rfl⟩ := pr3 (some_inj hF)
  exact ret1 Try.results21 (v1 := .int .i64 r_2) (resAt_tmp rfl) ⟨rfl, hl, hl1, (ST.subR (R' := []) (hS3.sel [1, 2] rfl rfl) (fun _ h => by cases h))⟩

theorem c_laws_heldTermS (a : List TTerm) (k_ : Int) (B : Option Addr) (c n : Nat) (w0 : World) (hn : a.length = n) (hS : ST w0 [] w0 [] [⟨B, (a.flatMap enc_Term)⟩]) {r_ : Int} (hF : F_laws_heldTermS a k_ = some r_) :
    CV Try.prog 62 #[.slice B n c, .int .i64 k_] w0 (fun v w' => v = .int .i64 r_ ∧ ST w0 [] w' [] []) := by
  subst hn
  unfold F_laws_heldTermS at hF
  refine cv_of_cw 31 Try.func62 rfl Try.ntmps62 rfl ?_
  refine cw_seq ?_
  refine cw_region ?_
  refine sq 4 rfl rfl (Y_assign (v := .int .i64 0) rfl rfl) ?_
  refine rw_nil ?_
  refine cw_seq ?_
  refine cw_seq ?_
  refine cw_region ?_
  refine sq 5 rfl rfl (Y_assign (v := .int .i64 0) rfl rfl) ?_
  refine rw_nil ?_
  obtain ⟨hN, hF⟩ := chk_inv hF
  obtain ⟨z, hz, hF1⟩ := bind_inv hF
  refine cw_block ?_
  refine cw_loop (fun k f w => ∃ (i1 : Nat) (k_1 : Int), FF f [(0, .slice B a.length c), (1, .int .i64 k_1), (5, .int .i64 (i1 : Int))] ∧ ST w0 [] w [] [⟨B, (a.flatMap enc_Term)⟩] ∧ i1 + k = a.length ∧ forX (F_laws_heldTermS_l1 a) k i1 k_1 = some z) a.length ⟨0, k_, (FF.cons rfl (FF.cons rfl (FF.cons rfl FF.nil))), (hS.sel [] rfl rfl), Nat.zero_add _, hz⟩ ?_
  rintro k_2 f w ⟨i1, k_1, hf, hS1, hik, hL⟩
  refine cw_seq ?_
  refine cw_seq ?_
  refine cw_region ?_
  refine sq 6 rfl rfl (Y_move (v := .int .i64 (i1 : Int)) rfl (hf.get 5 2 rfl)) ?_
  refine sq 7 rfl rfl (Y_move (v := .slice B a.length c) rfl (hf.get 0 0 rfl)) ?_
  refine sq 8 rfl rfl (Y_len (B := B) (m := a.length) (c := c) k_sl_47_95 rfl rfl) ?_
  refine sq 9 rfl rfl (Y_lt (k := .i64) (a := (i1 : Int)) (b := (a.length : Int)) rfl rfl rfl) ?_
  refine rw_nil ?_
  refine cw_cond (b := (decide ((i1 : Int) < (a.length : Int)))) rfl (fun hlt => ?_) (fun hlt => ?_)
  · skip
    have hlt1 : i1 < a.length := by have h := of_decide_eq_true hlt; omega
    obtain ⟨k_3, rfl⟩ : ∃ k2, k_2 = k2 + 1 := ⟨k_2 - 1, by omega⟩
    obtain ⟨y, hb, hL1⟩ := forX_go hL
    unfold F_laws_heldTermS_l1 at hb
    refine cw_skip ?_
    refine cw_seq ?_
    refine cw_block ?_
    refine cw_seq ?_
    refine cw_seq ?_
    refine cw_region ?_
    refine sq 12 rfl rfl (Y_move (v := .slice B a.length c) rfl (hf.get 0 0 rfl)) ?_
    refine sq 13 rfl rfl (Y_move (v := .int .i64 (i1 : Int)) rfl (hf.get 5 2 rfl)) ?_
    obtain ⟨x, hx, hb⟩ := bind_inv hb
    refine sq 14 rfl rfl (Y_index (B := B) (m := a.length) (c := c) (k := .i64) (i := (i1 : Int)) k_sl_47_95 k_sz_95_2 rfl rfl rfl (gi_isSome enc_Term_len rfl (hS1.rf (i := 0) rfl) hx) (getI_nn hx) (getI_ltI hx rfl)) ?_
    refine sq 15 rfl rfl (Y_fieldAddr (B := B) (i := (i1 : Int).toNat * 2) (s := 0) k_fd_95_0_0_3 k_sz_3_1 rfl rfl) ?_
    refine sq 16 rfl rfl (Y_load1 (B := B) (i := (i1 : Int).toNat * 2 + 0) (cs := (a.flatMap enc_Term)) (v := .int .i64 x.Mask) k_sc_3 rfl rfl (hS1.rf (i := 0) rfl) (gi_at enc_Term_len hx rfl)) ?_
    refine sq 17 rfl rfl (Y_move (v := .int .i64 k_1) rfl (hf.get 1 1 rfl)) ?_
    refine sq 18 rfl rfl (Y_ne (k := .i64) (a := x.Mask) (b := k_1) rfl rfl rfl) ?_
    refine rw_nil ?_
    refine cw_cond (b := (x.Mask != k_1)) rfl (fun hb1 => ?_) (fun hb1 => ?_)
    · skip
      have hF2 := ct hb hb1
      refine cw_seq ?_
      refine cw_region ?_
      refine sq 4 rfl rfl (Y_assign (v := .int .i64 (-1)) rfl rfl) ?_
      refine rw_nil ?_
      refine cw_ret ?_
      obtain rfl := some_inj hF2
      obtain rfl := some_inj hL1
      obtain rfl := some_inj hF1
      exact ret1 Try.results62 (v1 := .int .i64 (-1)) (resAt_tmp rfl) ⟨rfl, (ST.subR (R' := []) (hS1.sel [] rfl rfl) (fun _ h => by cases h))⟩
    · skip
      have hF3 := cf' hb hb1
      refine cw_skip ?_
      refine cw_seq ?_
      refine cw_region ?_
      refine sq 19 rfl rfl (Y_move (v := .int .i64 k_1) rfl (hf.get 1 1 rfl)) ?_
      refine sq 20 rfl rfl (Y_add (k := .i64) (a := k_1) (b := 1) rfl rfl rfl) ?_
      refine sq 1 rfl rfl (Y_assign (v := .int .i64 (IntKind.i64.wrap (k_1 + 1))) rfl rfl) ?_
      refine rw_nil ?_
      refine cw_seq ?_
      refine cw_seq ?_
      refine cw_region ?_
      refine sq 21 rfl rfl (Y_move (v := .slice B a.length c) rfl (hf.get 0 0 rfl)) ?_
      refine sq 22 rfl rfl (Y_move (v := .int .i64 (i1 : Int)) rfl (hf.get 5 2 rfl)) ?_
      refine sq 23 rfl rfl (Y_index (B := B) (m := a.length) (c := c) (k := .i64) (i := (i1 : Int)) k_sl_47_95 k_sz_95_2 rfl rfl rfl (gi_isSome enc_Term_len rfl (hS1.rf (i := 0) rfl) hx) (getI_nn hx) (getI_ltI hx rfl)) ?_
      refine sq 24 rfl rfl (Y_fieldAddr (B := B) (i := (i1 : Int).toNat * 2) (s := 0) k_fd_95_1_1_3 k_sz_3_1 rfl rfl) ?_
      refine sq 25 rfl rfl (Y_load1 (B := B) (i := (i1 : Int).toNat * 2 + 1) (cs := (a.flatMap enc_Term)) (v := .int .i64 x.Coef) k_sc_3 rfl rfl (hS1.rf (i := 0) rfl) (gi_at enc_Term_len hx rfl)) ?_
      refine sq 26 rfl rfl (Y_move (v := .int .i64 (IntKind.i64.wrap (k_1 + 1))) rfl rfl) ?_
      refine sq 27 rfl rfl (Y_ne (k := .i64) (a := x.Coef) (b := (IntKind.i64.wrap (k_1 + 1))) rfl rfl rfl) ?_
      refine rw_nil ?_
      refine cw_cond (b := (x.Coef != (IntKind.i64.wrap (k_1 + 1)))) rfl (fun hb2 => ?_) (fun hb2 => ?_)
      · skip
        have hF4 := ct hF3 hb2
        refine cw_seq ?_
        refine cw_region ?_
        refine sq 4 rfl rfl (Y_assign (v := .int .i64 (-1)) rfl rfl) ?_
        refine rw_nil ?_
        refine cw_ret ?_
        obtain rfl := some_inj hF4
        obtain rfl := some_inj hL1
        obtain rfl := some_inj hF1
        exact ret1 Try.results62 (v1 := .int .i64 (-1)) (resAt_tmp rfl) ⟨rfl, (ST.subR (R' := []) (hS1.sel [] rfl rfl) (fun _ h => by cases h))⟩
      · skip
        have hF5 := cf' hF3 hb2
        refine cw_skip ?_
        refine cw_region ?_
        refine sq 28 rfl rfl (Y_move (v := .int .i64 (IntKind.i64.wrap (k_1 + 1))) rfl rfl) ?_
        refine sq 29 rfl rfl (Y_add (k := .i64) (a := (IntKind.i64.wrap (k_1 + 1))) (b := 1) rfl rfl rfl) ?_
        refine sq 1 rfl rfl (Y_assign (v := .int .i64 (IntKind.i64.wrap ((IntKind.i64.wrap (k_1 + 1)) + 1))) rfl rfl) ?_
        refine rw_nil ?_
        refine cw_region ?_
        refine sq 10 rfl rfl (Y_move (v := .int .i64 (i1 : Int)) rfl (hf.get 5 2 rfl)) ?_
        refine sq 11 rfl rfl (Y_add (k := .i64) (a := (i1 : Int)) (b := 1) rfl rfl rfl) ?_
        refine sq 5 rfl rfl (Y_assign (v := .int .i64 (IntKind.i64.wrap ((i1 : Int) + 1))) rfl rfl) ?_
        refine rw_nil ?_
        obtain rfl := some_inj hF5
        exact ⟨k_3, Nat.lt_succ_self _, i1 + 1, (IntKind.i64.wrap ((IntKind.i64.wrap (k_1 + 1)) + 1)), (FF.cons (hf.get 0 0 rfl) (FF.cons rfl (FF.cons (congrArg (Value.int .i64) (wr_succ hlt1 hN)) FF.nil))), (hS1.sel [] rfl rfl), (by omega), hL1⟩
  · skip
    obtain rfl : k_2 = 0 := by have h := of_decide_eq_false hlt; omega
    refine cw_exit rfl ?_
    obtain rfl := some_inj hL
    refine cw_seq ?_
    refine cw_region ?_
    refine sq 30 rfl rfl (Y_move (v := .int .i64 k_1) rfl (hf.get 1 1 rfl)) ?_
    refine sq 4 rfl rfl (Y_assign (v := .int .i64 k_1) rfl rfl) ?_
    refine rw_nil ?_
    refine cw_ret ?_
    obtain rfl := some_inj hF1
    exact ret1 Try.results62 (v1 := .int .i64 k_1) (resAt_tmp rfl) ⟨rfl, (ST.subR (R' := []) (hS1.sel [] rfl rfl) (fun _ h => by cases h))⟩

theorem c_laws_heldIntS (a : List Int) (k_ : Int) (B : Option Addr) (c n : Nat) (w0 : World) (hn : a.length = n) (hS : ST w0 [] w0 [] [⟨B, (a.flatMap encI)⟩]) {r_ : Int} (hF : F_laws_heldIntS a k_ = some r_) :
    CV Try.prog 110 #[.slice B n c, .int .i64 k_] w0 (fun v w' => v = .int .i64 r_ ∧ ST w0 [] w' [] []) := by
  subst hn
  unfold F_laws_heldIntS at hF
  refine cv_of_cw 21 Try.func110 rfl Try.ntmps110 rfl ?_
  refine cw_seq ?_
  refine cw_region ?_
  refine sq 4 rfl rfl (Y_assign (v := .int .i64 0) rfl rfl) ?_
  refine rw_nil ?_
  refine cw_seq ?_
  refine cw_seq ?_
  refine cw_region ?_
  refine sq 5 rfl rfl (Y_assign (v := .int .i64 0) rfl rfl) ?_
  refine rw_nil ?_
  obtain ⟨hN, hF⟩ := chk_inv hF
  obtain ⟨z, hz, hF1⟩ := bind_inv hF
  refine cw_block ?_
  refine cw_loop (fun k f w => ∃ (i1 : Nat) (k_1 : Int), FF f [(0, .slice B a.length c), (1, .int .i64 k_1), (5, .int .i64 (i1 : Int))] ∧ ST w0 [] w [] [⟨B, (a.flatMap encI)⟩] ∧ i1 + k = a.length ∧ forX (F_laws_heldIntS_l1 a) k i1 k_1 = some z) a.length ⟨0, k_, (FF.cons rfl (FF.cons rfl (FF.cons rfl FF.nil))), (hS.sel [] rfl rfl), Nat.zero_add _, hz⟩ ?_
  rintro k_2 f w ⟨i1, k_1, hf, hS1, hik, hL⟩
  refine cw_seq ?_
  refine cw_seq ?_
  refine cw_region ?_
  refine sq 6 rfl rfl (Y_move (v := .int .i64 (i1 : Int)) rfl (hf.get 5 2 rfl)) ?_
  refine sq 7 rfl rfl (Y_move (v := .slice B a.length c) rfl (hf.get 0 0 rfl)) ?_
  refine sq 8 rfl rfl (Y_len (B := B) (m := a.length) (c := c) k_sl_41_3 rfl rfl) ?_
  refine sq 9 rfl rfl (Y_lt (k := .i64) (a := (i1 : Int)) (b := (a.length : Int)) rfl rfl rfl) ?_
  refine rw_nil ?_
  refine cw_cond (b := (decide ((i1 : Int) < (a.length : Int)))) rfl (fun hlt => ?_) (fun hlt => ?_)
  · skip
    have hlt1 : i1 < a.length := by have h := of_decide_eq_true hlt; omega
    obtain ⟨k_3, rfl⟩ : ∃ k2, k_2 = k2 + 1 := ⟨k_2 - 1, by omega⟩
    obtain ⟨y, hb, hL1⟩ := forX_go hL
    unfold F_laws_heldIntS_l1 at hb
    refine cw_skip ?_
    refine cw_seq ?_
    refine cw_block ?_
    refine cw_seq ?_
    refine cw_seq ?_
    refine cw_region ?_
    refine sq 12 rfl rfl (Y_move (v := .slice B a.length c) rfl (hf.get 0 0 rfl)) ?_
    refine sq 13 rfl rfl (Y_move (v := .int .i64 (i1 : Int)) rfl (hf.get 5 2 rfl)) ?_
    obtain ⟨x, hx, hb⟩ := bind_inv hb
    refine sq 14 rfl rfl (Y_index (B := B) (m := a.length) (c := c) (k := .i64) (i := (i1 : Int)) k_sl_41_3 k_sz_3_1 rfl rfl rfl (gi_isSome encI_len rfl (hS1.rf (i := 0) rfl) hx) (getI_nn hx) (getI_ltI hx rfl)) ?_
    refine sq 15 rfl rfl (Y_load1 (B := B) (i := (i1 : Int).toNat * 1) (cs := (a.flatMap encI)) (v := .int .i64 x) k_sc_3 rfl rfl (hS1.rf (i := 0) rfl) (gi_at0 encI_len hx rfl)) ?_
    refine sq 16 rfl rfl (Y_move (v := .int .i64 k_1) rfl (hf.get 1 1 rfl)) ?_
    refine sq 17 rfl rfl (Y_ne (k := .i64) (a := x) (b := k_1) rfl rfl rfl) ?_
    refine rw_nil ?_
    refine cw_cond (b := (x != k_1)) rfl (fun hb1 => ?_) (fun hb1 => ?_)
    · skip
      have hF2 := ct hb hb1
      refine cw_seq ?_
      refine cw_region ?_
      refine sq 4 rfl rfl (Y_assign (v := .int .i64 (-1)) rfl rfl) ?_
      refine rw_nil ?_
      refine cw_ret ?_
      obtain rfl := some_inj hF2
      obtain rfl := some_inj hL1
      obtain rfl := some_inj hF1
      exact ret1 Try.results110 (v1 := .int .i64 (-1)) (resAt_tmp rfl) ⟨rfl, (ST.subR (R' := []) (hS1.sel [] rfl rfl) (fun _ h => by cases h))⟩
    · skip
      have hF3 := cf' hb hb1
      refine cw_skip ?_
      refine cw_region ?_
      refine sq 18 rfl rfl (Y_move (v := .int .i64 k_1) rfl (hf.get 1 1 rfl)) ?_
      refine sq 19 rfl rfl (Y_add (k := .i64) (a := k_1) (b := 1) rfl rfl rfl) ?_
      refine sq 1 rfl rfl (Y_assign (v := .int .i64 (IntKind.i64.wrap (k_1 + 1))) rfl rfl) ?_
      refine rw_nil ?_
      refine cw_region ?_
      refine sq 10 rfl rfl (Y_move (v := .int .i64 (i1 : Int)) rfl (hf.get 5 2 rfl)) ?_
      refine sq 11 rfl rfl (Y_add (k := .i64) (a := (i1 : Int)) (b := 1) rfl rfl rfl) ?_
      refine sq 5 rfl rfl (Y_assign (v := .int .i64 (IntKind.i64.wrap ((i1 : Int) + 1))) rfl rfl) ?_
      refine rw_nil ?_
      obtain rfl := some_inj hF3
      exact ⟨k_3, Nat.lt_succ_self _, i1 + 1, (IntKind.i64.wrap (k_1 + 1)), (FF.cons (hf.get 0 0 rfl) (FF.cons rfl (FF.cons (congrArg (Value.int .i64) (wr_succ hlt1 hN)) FF.nil))), (hS1.sel [] rfl rfl), (by omega), hL1⟩
  · skip
    obtain rfl : k_2 = 0 := by have h := of_decide_eq_false hlt; omega
    refine cw_exit rfl ?_
    obtain rfl := some_inj hL
    refine cw_seq ?_
    refine cw_region ?_
    refine sq 20 rfl rfl (Y_move (v := .int .i64 k_1) rfl (hf.get 1 1 rfl)) ?_
    refine sq 4 rfl rfl (Y_assign (v := .int .i64 k_1) rfl rfl) ?_
    refine rw_nil ?_
    refine cw_ret ?_
    obtain rfl := some_inj hF1
    exact ret1 Try.results110 (v1 := .int .i64 k_1) (resAt_tmp rfl) ⟨rfl, (ST.subR (R' := []) (hS1.sel [] rfl rfl) (fun _ h => by cases h))⟩

theorem c_laws_heldLinear (a : TLinear) (k_ : Int) (B : Option Addr) (c n : Nat) (w0 : World) (hn : a.Rows.length = n) (hS : ST w0 [] w0 [] [⟨B, (a.Rows.flatMap encI)⟩]) {r_ : Int} (hF : F_laws_heldLinear a k_ = some r_) :
    CV Try.prog 63 #[.agg #[.slice B n c], .int .i64 k_] w0 (fun v w' => v = .int .i64 r_ ∧ ST w0 [] w' [] []) := by
  subst hn
  unfold F_laws_heldLinear at hF
  refine cv_of_cw 12 Try.func63 rfl Try.ntmps63 rfl ?_
  refine cw_seq ?_
  refine cw_region ?_
  refine ss 2 rfl rfl (Ys_box (T := 48) (v := .agg #[.slice B a.Rows.length c]) (cs := [.slice B a.Rows.length c]) (m := 1) hS rfl rfl rfl rfl) ?_
  rintro _ w_ ⟨b, rfl, hS1⟩
  refine sq 4 rfl rfl (Y_assign (v := .int .i64 0) rfl rfl) ?_
  refine rw_nil ?_
  refine cw_seq ?_
  refine cw_region ?_
  refine sq 5 rfl rfl (Y_fieldAddr (B := some ⟨b, 0, none⟩) (i := 0) (s := 0) k_fd_48_0_0_41 k_sz_41_1 rfl rfl) ?_
  refine sq 6 rfl rfl (Y_load1 (B := some ⟨b, 0, none⟩) (i := 0) (cs := [.slice B a.Rows.length c]) (v := .slice B a.Rows.length c) k_sc_41 rfl rfl (hS1.cf (i := 0) rfl) rfl) ?_
  refine sq 7 rfl rfl (Y_move (v := .int .i64 k_) rfl rfl) ?_
  obtain ⟨r_1, hc, hF⟩ := bind_inv hF
  refine sc 8 rfl rfl (Yc_func (g := 110) (vs := [.slice B a.Rows.length c, .int .i64 k_]) k_call_110 rfl (mc rfl (mc rfl mn)) (c_laws_heldIntS a.Rows k_ B c a.Rows.length _ rfl (hS1.inn0 [(true, 0)] rfl) hc)) ?_
  rintro _ w_1 ⟨rfl, hd⟩
  have hS2 := hS1.out00 hd
  refine sq 1 rfl rfl (Y_assign (v := .int .i64 r_1) rfl rfl) ?_
  refine rw_nil ?_
  refine cw_seq ?_
  refine cw_seq ?_
  refine cw_region ?_
  refine sq 9 rfl rfl (Y_move (v := .int .i64 r_1) rfl rfl) ?_
  refine sq 10 rfl rfl (Y_lt (k := .i64) (a := r_1) (b := 0) rfl rfl rfl) ?_
  refine rw_nil ?_
  refine cw_cond (b := (decide (r_1 < 0))) rfl (fun hb => ?_) (fun hb => ?_)
  · skip
    have hF1 := ct hF hb
    refine cw_seq ?_
    refine cw_region ?_
    refine sq 4 rfl rfl (Y_assign (v := .int .i64 (-1)) rfl rfl) ?_
    refine rw_nil ?_
    refine cw_ret ?_
    obtain rfl := some_inj hF1
    exact ret1 Try.results63 (v1 := .int .i64 (-1)) (resAt_tmp rfl) ⟨rfl, (ST.subR (R' := []) (hS2.sel [] rfl rfl) (fun _ h => by cases h))⟩
  · skip
    have hF2 := cf' hF hb
    refine cw_skip ?_
    refine cw_seq ?_
    refine cw_region ?_
    refine sq 11 rfl rfl (Y_move (v := .int .i64 r_1) rfl rfl) ?_
    refine sq 4 rfl rfl (Y_assign (v := .int .i64 r_1) rfl rfl) ?_
    refine rw_nil ?_
    refine cw_ret ?_
    obtain rfl := some_inj hF2
    exact ret1 Try.results63 (v1 := .int .i64 r_1) (resAt_tmp rfl) ⟨rfl, (ST.subR (R' := []) (hS2.sel [] rfl rfl) (fun _ h => by cases h))⟩

theorem c_laws_heldPhasePoly (a : TPhasePoly) (k_ : Int) (B : Option Addr) (c n : Nat) (B1 : Option Addr) (c1 n1 : Nat) (w0 : World) (hn : a.Terms.length = n) (hn1 : a.Out.Rows.length = n1) (hS : ST w0 [] w0 [] [⟨B, (a.Terms.flatMap enc_Term)⟩, ⟨B1, (a.Out.Rows.flatMap encI)⟩]) {r_ : Int} (hF : F_laws_heldPhasePoly a k_ = some r_) :
    CV Try.prog 22 #[.agg #[.int .i64 a.Qubits, .int .i64 a.Phase, .slice B n c, .slice B1 n1 c1], .int .i64 k_] w0 (fun v w' => v = .int .i64 r_ ∧ ST w0 [] w' [] []) := by
  subst hn
  subst hn1
  unfold F_laws_heldPhasePoly at hF
  refine cv_of_cw 18 Try.func22 rfl Try.ntmps22 rfl ?_
  refine cw_seq ?_
  refine cw_region ?_
  refine ss 2 rfl rfl (Ys_box (T := 50) (v := .agg #[.int .i64 a.Qubits, .int .i64 a.Phase, .slice B a.Terms.length c, .slice B1 a.Out.Rows.length c1]) (cs := [.int .i64 a.Qubits, .int .i64 a.Phase, .slice B a.Terms.length c, .slice B1 a.Out.Rows.length c1]) (m := 4) hS rfl rfl rfl rfl) ?_
  rintro _ w_ ⟨b, rfl, hS1⟩
  refine sq 4 rfl rfl (Y_assign (v := .int .i64 0) rfl rfl) ?_
  refine rw_nil ?_
  refine cw_seq ?_
  refine cw_region ?_
  refine sq 5 rfl rfl (Y_fieldAddr (B := some ⟨b, 0, none⟩) (i := 0) (s := 0) k_fd_50_2_2_47 k_sz_47_1 rfl rfl) ?_
  refine sq 6 rfl rfl (Y_load1 (B := some ⟨b, 0, none⟩) (i := 2) (cs := [.int .i64 a.Qubits, .int .i64 a.Phase, .slice B a.Terms.length c, .slice B1 a.Out.Rows.length c1]) (v := .slice B a.Terms.length c) k_sc_47 rfl rfl (hS1.cf (i := 0) rfl) rfl) ?_
  refine sq 7 rfl rfl (Y_move (v := .int .i64 k_) rfl rfl) ?_
  obtain ⟨r_1, hc, hF⟩ := bind_inv hF
  refine sc 8 rfl rfl (Yc_func (g := 62) (vs := [.slice B a.Terms.length c, .int .i64 k_]) k_call_62 rfl (mc rfl (mc rfl mn)) (c_laws_heldTermS a.Terms k_ B c a.Terms.length _ rfl (hS1.inn0 [(true, 0)] rfl) hc)) ?_
  rintro _ w_1 ⟨rfl, hd⟩
  have hS2 := hS1.out00 hd
  refine sq 1 rfl rfl (Y_assign (v := .int .i64 r_1) rfl rfl) ?_
  refine rw_nil ?_
  refine cw_seq ?_
  refine cw_seq ?_
  refine cw_region ?_
  refine sq 9 rfl rfl (Y_move (v := .int .i64 r_1) rfl rfl) ?_
  refine sq 10 rfl rfl (Y_lt (k := .i64) (a := r_1) (b := 0) rfl rfl rfl) ?_
  refine rw_nil ?_
  refine cw_cond (b := (decide (r_1 < 0))) rfl (fun hb => ?_) (fun hb => ?_)
  · skip
    have hF1 := ct hF hb
    refine cw_seq ?_
    refine cw_region ?_
    refine sq 4 rfl rfl (Y_assign (v := .int .i64 (-1)) rfl rfl) ?_
    refine rw_nil ?_
    refine cw_ret ?_
    obtain rfl := some_inj hF1
    exact ret1 Try.results22 (v1 := .int .i64 (-1)) (resAt_tmp rfl) ⟨rfl, (ST.subR (R' := []) (hS2.sel [] rfl rfl) (fun _ h => by cases h))⟩
  · skip
    have hF2 := cf' hF hb
    refine cw_skip ?_
    refine cw_seq ?_
    refine cw_region ?_
    refine sq 11 rfl rfl (Y_fieldAddr (B := some ⟨b, 0, none⟩) (i := 0) (s := 0) k_fd_50_3_3_48 k_sz_48_1 rfl rfl) ?_
    refine sq 12 rfl rfl (Y_loadA (B := some ⟨b, 0, none⟩) (i := 3) (cs := [.int .i64 a.Qubits, .int .i64 a.Phase, .slice B a.Terms.length c, .slice B1 a.Out.Rows.length c1]) (vs := [.slice B1 a.Out.Rows.length c1]) k_ag_48 k_sz_48_1 rfl rfl (hS2.cf (i := 0) rfl) rfl rfl) ?_
    refine sq 13 rfl rfl (Y_move (v := .int .i64 r_1) rfl rfl) ?_
    obtain ⟨r_2, hc1, hF2⟩ := bind_inv hF2
    refine sc 14 rfl rfl (Yc_func (g := 63) (vs := [.agg #[.slice B1 a.Out.Rows.length c1], .int .i64 r_1]) k_call_63 rfl (mc rfl (mc rfl mn)) (c_laws_heldLinear a.Out r_1 B1 c1 a.Out.Rows.length _ rfl (hS2.inn0 [(true, 1)] rfl) hc1)) ?_
    rintro _ w_2 ⟨rfl, hd1⟩
    have hS3 := hS2.out00 hd1
    refine sq 1 rfl rfl (Y_assign (v := .int .i64 r_2) rfl rfl) ?_
    refine rw_nil ?_
    refine cw_seq ?_
    refine cw_seq ?_
    refine cw_region ?_
    refine sq 15 rfl rfl (Y_move (v := .int .i64 r_2) rfl rfl) ?_
    refine sq 16 rfl rfl (Y_lt (k := .i64) (a := r_2) (b := 0) rfl rfl rfl) ?_
    refine rw_nil ?_
    refine cw_cond (b := (decide (r_2 < 0))) rfl (fun hb1 => ?_) (fun hb1 => ?_)
    · skip
      have hF3 := ct hF2 hb1
      refine cw_seq ?_
      refine cw_region ?_
      refine sq 4 rfl rfl (Y_assign (v := .int .i64 (-1)) rfl rfl) ?_
      refine rw_nil ?_
      refine cw_ret ?_
      obtain rfl := some_inj hF3
      exact ret1 Try.results22 (v1 := .int .i64 (-1)) (resAt_tmp rfl) ⟨rfl, (ST.subR (R' := []) (hS3.sel [] rfl rfl) (fun _ h => by cases h))⟩
    · skip
      have hF4 := cf' hF2 hb1
      refine cw_skip ?_
      refine cw_seq ?_
      refine cw_region ?_
      refine sq 17 rfl rfl (Y_move (v := .int .i64 r_2) rfl rfl) ?_
      refine sq 4 rfl rfl (Y_assign (v := .int .i64 r_2) rfl rfl) ?_
      refine rw_nil ?_
      refine cw_ret ?_
      obtain rfl := some_inj hF4
      exact ret1 Try.results22 (v1 := .int .i64 r_2) (resAt_tmp rfl) ⟨rfl, (ST.subR (R' := []) (hS3.sel [] rfl rfl) (fun _ h => by cases h))⟩

theorem c_laws_FnExactShiftBy (aP : TPhasePoly) (aWord : Int) (B : Option Addr) (c n : Nat) (B1 : Option Addr) (c1 n1 : Nat) (w0 : World) (hn : aP.Terms.length = n) (hn1 : aP.Out.Rows.length = n1) (hS : ST w0 [] w0 [] [⟨B, (aP.Terms.flatMap enc_Term)⟩, ⟨B1, (aP.Out.Rows.flatMap encI)⟩]) {r_ : Bool} (hF : F_laws_FnExactShiftBy aP aWord = some r_) :
    CV Try.prog 4 #[.agg #[.int .i64 aP.Qubits, .int .i64 aP.Phase, .slice B n c, .slice B1 n1 c1], .int .i64 aWord] w0 (fun v w' => v = .bool r_ ∧ ST w0 [] w' [] []) := by
  subst hn
  subst hn1
  unfold F_laws_FnExactShiftBy at hF
  refine cv_of_cw 101 Try.func4 rfl Try.ntmps4 rfl ?_
  refine cw_seq ?_
  refine cw_region ?_
  refine ss 2 rfl rfl (Ys_box (T := 45) (v := .agg #[.int .i64 aP.Qubits, .int .i64 aP.Phase, .slice B aP.Terms.length c, .slice B1 aP.Out.Rows.length c1]) (cs := [.int .i64 aP.Qubits, .int .i64 aP.Phase, .slice B aP.Terms.length c, .slice B1 aP.Out.Rows.length c1]) (m := 4) hS rfl rfl rfl rfl) ?_
  rintro _ w_ ⟨b, rfl, hS1⟩
  refine sq 4 rfl rfl (Y_assign (v := .bool false) rfl rfl) ?_
  refine rw_nil ?_
  refine cw_seq ?_
  refine cw_region ?_
  refine sq 5 rfl rfl (Y_assign (v := .int .i64 1048576) rfl rfl) ?_
  refine rw_nil ?_
  refine cw_seq ?_
  refine cw_region ?_
  refine sq 16 rfl rfl (Y_loadA (B := some ⟨b, 0, none⟩) (i := 0) (cs := [.int .i64 aP.Qubits, .int .i64 aP.Phase, .slice B aP.Terms.length c, .slice B1 aP.Out.Rows.length c1]) (vs := [.int .i64 aP.Qubits, .int .i64 aP.Phase, .slice B aP.Terms.length c, .slice B1 aP.Out.Rows.length c1]) k_ag_45 k_sz_45_4 rfl rfl (hS1.cf (i := 0) rfl) rfl rfl) ?_
  refine sq 17 rfl rfl (Y_move (v := .int .i64 1048576) rfl rfl) ?_
  obtain ⟨r_1, hc, hF⟩ := bind_inv hF
  refine sc 18 rfl rfl (Yc_func (g := 16) (vs := [.agg #[.int .i64 aP.Qubits, .int .i64 aP.Phase, .slice B aP.Terms.length c, .slice B1 aP.Out.Rows.length c1], .int .i64 1048576]) k_call_16 rfl (mc rfl (mc rfl mn)) (c_laws_szPhasePoly aP 1048576 B c aP.Terms.length B1 c1 aP.Out.Rows.length _ rfl rfl (hS1.inn0 [(true, 0), (true, 1)] rfl) hc)) ?_
  rintro _ w_1 ⟨rfl, hd⟩
  have hS2 := hS1.out00 hd
  refine sq 5 rfl rfl (Y_assign (v := .int .i64 r_1) rfl rfl) ?_
  refine rw_nil ?_
  refine cw_seq ?_
  refine cw_seq ?_
  refine cw_region ?_
  refine sq 19 rfl rfl (Y_move (v := .int .i64 r_1) rfl rfl) ?_
  refine sq 20 rfl rfl (Y_lt (k := .i64) (a := r_1) (b := 0) rfl rfl rfl) ?_
  refine rw_nil ?_
  refine cw_cond (b := (decide (r_1 < 0))) rfl (fun hb => ?_) (fun hb => ?_)
  · skip
    have hF1 := ct hF hb
    refine cw_seq ?_
    refine cw_region ?_
    refine sq 4 rfl rfl (Y_assign (v := .bool true) rfl rfl) ?_
    refine rw_nil ?_
    refine cw_ret ?_
    obtain rfl := some_inj hF1
    exact ret1 Try.results4 (v1 := .bool true) (resAt_tmp rfl) ⟨rfl, (ST.subR (R' := []) (hS2.sel [] rfl rfl) (fun _ h => by cases h))⟩
  · skip
    have hF2 := cf' hF hb
    refine cw_skip ?_
    refine cw_seq ?_
    refine cw_region ?_
    refine sq 22 rfl rfl (Y_loadA (B := some ⟨b, 0, none⟩) (i := 0) (cs := [.int .i64 aP.Qubits, .int .i64 aP.Phase, .slice B aP.Terms.length c, .slice B1 aP.Out.Rows.length c1]) (vs := [.int .i64 aP.Qubits, .int .i64 aP.Phase, .slice B aP.Terms.length c, .slice B1 aP.Out.Rows.length c1]) k_ag_45 k_sz_45_4 rfl rfl (hS2.cf (i := 0) rfl) rfl rfl) ?_
    obtain ⟨r_2, hc1, hF2⟩ := bind_inv hF2
    refine sc 23 rfl rfl (Yc_func (g := 18) (vs := [.agg #[.int .i64 aP.Qubits, .int .i64 aP.Phase, .slice B aP.Terms.length c, .slice B1 aP.Out.Rows.length c1]]) k_call_18 rfl (mc rfl mn) (c_laws_toPhasePoly aP B c aP.Terms.length B1 c1 aP.Out.Rows.length _ rfl rfl (hS2.inn0 [(true, 0), (true, 1)] rfl) hc1)) ?_
    rintro _ w_2 ⟨B2, c2, B3, c3, rfl, hd1⟩
    have hS3 := hS2.out0 hd1
    have hS3 : ST w0 [] _ [⟨some ⟨b, 0, none⟩, 45, [.int .i64 aP.Qubits, .int .i64 aP.Phase, .slice B aP.Terms.length c, .slice B1 aP.Out.Rows.length c1], 4⟩, ⟨B2, 95, (r_2.Terms.flatMap enc_Term), c2 * 2⟩, ⟨B3, 3, (r_2.Out.Rows.flatMap encI), c3 * 1⟩] [⟨B, (aP.Terms.flatMap enc_Term)⟩, ⟨B1, (aP.Out.Rows.flatMap encI)⟩] := hS3
    refine sq 24 rfl rfl (Y_move (v := .int .i64 aWord) rfl rfl) ?_
    obtain ⟨⟨r_3, r_4⟩, hc2, hF2⟩ := bind_inv hF2
    refine sc 25 rfl rfl (Yc_func (g := 17) (vs := [.agg #[.int .i64 r_2.Qubits, .int .i64 r_2.Phase, .slice B2 r_2.Terms.length c2, .slice B3 r_2.Out.Rows.length c3], .int .i64 aWord]) k_call_17 rfl (mc rfl (mc rfl mn)) (c_spec_ShiftBy r_2 aWord B2 c2 r_2.Terms.length B3 c3 r_2.Out.Rows.length _ rfl rfl (hS3.inn0 [(false, 1), (false, 2)] rfl) hc2)) ?_
    rintro _ w_3 ⟨B4, c4, B5, c5, rfl, hd2⟩
    have hS4 := hS3.out0 hd2
    have hS4 : ST w0 [] _ [⟨some ⟨b, 0, none⟩, 45, [.int .i64 aP.Qubits, .int .i64 aP.Phase, .slice B aP.Terms.length c, .slice B1 aP.Out.Rows.length c1], 4⟩, ⟨B2, 95, (r_2.Terms.flatMap enc_Term), c2 * 2⟩, ⟨B3, 3, (r_2.Out.Rows.flatMap encI), c3 * 1⟩, ⟨B4, 95, (r_3.Terms.flatMap enc_Term), c4 * 2⟩, ⟨B5, 3, (r_3.Out.Rows.flatMap encI), c5 * 1⟩] [⟨B, (aP.Terms.flatMap enc_Term)⟩, ⟨B1, (aP.Out.Rows.flatMap encI)⟩] := hS4
    refine sq 21 rfl rfl (Y_move (v := .tuple #[.agg #[.int .i64 r_3.Qubits, .int .i64 r_3.Phase, .slice B4 r_3.Terms.length c4, .slice B5 r_3.Out.Rows.length c5], .bool r_4]) rfl rfl) ?_
    refine sq 26 rfl rfl (Y_extract (v := .agg #[.int .i64 r_3.Qubits, .int .i64 r_3.Phase, .slice B4 r_3.Terms.length c4, .slice B5 r_3.Out.Rows.length c5]) rfl rfl rfl) ?_
    refine sq 27 rfl rfl (Y_extract (v := .bool r_4) rfl rfl rfl) ?_
    refine ss 6 rfl rfl (Ys_alloc (T := 50) (cs := [.int .i64 0, .int .i64 0, .slice none 0 0, .slice none 0 0]) (m := 4) hS4 k_zero_50 rfl rfl rfl) ?_
    rintro _ w_4 ⟨b1, rfl, hS5⟩
    have hS5 : ST w0 [] _ [⟨some ⟨b, 0, none⟩, 45, [.int .i64 aP.Qubits, .int .i64 aP.Phase, .slice B aP.Terms.length c, .slice B1 aP.Out.Rows.length c1], 4⟩, ⟨B2, 95, (r_2.Terms.flatMap enc_Term), c2 * 2⟩, ⟨B3, 3, (r_2.Out.Rows.flatMap encI), c3 * 1⟩, ⟨B4, 95, (r_3.Terms.flatMap enc_Term), c4 * 2⟩, ⟨B5, 3, (r_3.Out.Rows.flatMap encI), c5 * 1⟩, ⟨some ⟨b1, 0, none⟩, 50, [.int .i64 0, .int .i64 0, .slice none 0 0, .slice none 0 0], 4⟩] [⟨B, (aP.Terms.flatMap enc_Term)⟩, ⟨B1, (aP.Out.Rows.flatMap encI)⟩] := hS5
    refine ss0 rfl rfl (Ys_store (i := 5) (s := 4) (B := some ⟨b1, 0, none⟩) (T' := 50) (v := .agg #[.int .i64 r_3.Qubits, .int .i64 r_3.Phase, .slice B4 r_3.Terms.length c4, .slice B5 r_3.Out.Rows.length c5]) (vs := [.int .i64 r_3.Qubits, .int .i64 r_3.Phase, .slice B4 r_3.Terms.length c4, .slice B5 r_3.Out.Rows.length c5]) (k := 0) (cs' := [.int .i64 r_3.Qubits, .int .i64 r_3.Phase, .slice B4 r_3.Terms.length c4, .slice B5 r_3.Out.Rows.length c5]) hS5 k_sz_50_4 rfl rfl rfl rfl rfl rfl rfl (Nat.le_of_ble_eq_true rfl) rfl rfl) ?_
    rintro _ w_5 ⟨rfl, hS6⟩
    have hS6 : ST w0 [] _ [⟨some ⟨b, 0, none⟩, 45, [.int .i64 aP.Qubits, .int .i64 aP.Phase, .slice B aP.Terms.length c, .slice B1 aP.Out.Rows.length c1], 4⟩, ⟨B2, 95, (r_2.Terms.flatMap enc_Term), c2 * 2⟩, ⟨B3, 3, (r_2.Out.Rows.flatMap encI), c3 * 1⟩, ⟨B4, 95, (r_3.Terms.flatMap enc_Term), c4 * 2⟩, ⟨B5, 3, (r_3.Out.Rows.flatMap encI), c5 * 1⟩, ⟨some ⟨b1, 0, none⟩, 50, [.int .i64 r_3.Qubits, .int .i64 r_3.Phase, .slice B4 r_3.Terms.length c4, .slice B5 r_3.Out.Rows.length c5], 4⟩] [⟨B, (aP.Terms.flatMap enc_Term)⟩, ⟨B1, (aP.Out.Rows.flatMap encI)⟩] := hS6
    refine sq 7 rfl rfl (Y_assign (v := .bool r_4) rfl rfl) ?_
    refine rw_nil ?_
    refine cw_seq ?_
    refine cw_region ?_
    refine sq 28 rfl rfl (Y_loadA (B := some ⟨b, 0, none⟩) (i := 0) (cs := [.int .i64 aP.Qubits, .int .i64 aP.Phase, .slice B aP.Terms.length c, .slice B1 aP.Out.Rows.length c1]) (vs := [.int .i64 aP.Qubits, .int .i64 aP.Phase, .slice B aP.Terms.length c, .slice B1 aP.Out.Rows.length c1]) k_ag_45 k_sz_45_4 rfl rfl (hS6.cf (i := 0) rfl) rfl rfl) ?_
    obtain ⟨r_5, hc3, hF2⟩ := bind_inv hF2
    refine sc 29 rfl rfl (Yc_func (g := 18) (vs := [.agg #[.int .i64 aP.Qubits, .int .i64 aP.Phase, .slice B aP.Terms.length c, .slice B1 aP.Out.Rows.length c1]]) k_call_18 rfl (mc rfl mn) (c_laws_toPhasePoly aP B c aP.Terms.length B1 c1 aP.Out.Rows.length _ rfl rfl (hS6.inn0 [(true, 0), (true, 1)] rfl) hc3)) ?_
    rintro _ w_6 ⟨B6, c6, B7, c7, rfl, hd3⟩
    have hS7 := hS6.out0 hd3
    have hS7 : ST w0 [] _ [⟨some ⟨b, 0, none⟩, 45, [.int .i64 aP.Qubits, .int .i64 aP.Phase, .slice B aP.Terms.length c, .slice B1 aP.Out.Rows.length c1], 4⟩, ⟨B2, 95, (r_2.Terms.flatMap enc_Term), c2 * 2⟩, ⟨B3, 3, (r_2.Out.Rows.flatMap encI), c3 * 1⟩, ⟨B4, 95, (r_3.Terms.flatMap enc_Term), c4 * 2⟩, ⟨B5, 3, (r_3.Out.Rows.flatMap encI), c5 * 1⟩, ⟨some ⟨b1, 0, none⟩, 50, [.int .i64 r_3.Qubits, .int .i64 r_3.Phase, .slice B4 r_3.Terms.length c4, .slice B5 r_3.Out.Rows.length c5], 4⟩, ⟨B6, 95, (r_5.Terms.flatMap enc_Term), c6 * 2⟩, ⟨B7, 3, (r_5.Out.Rows.flatMap encI), c7 * 1⟩] [⟨B, (aP.Terms.flatMap enc_Term)⟩, ⟨B1, (aP.Out.Rows.flatMap encI)⟩] := hS7
    refine ss 8 rfl rfl (Ys_alloc (T := 50) (cs := [.int .i64 0, .int .i64 0, .slice none 0 0, .slice none 0 0]) (m := 4) hS7 k_zero_50 rfl rfl rfl) ?_
    rintro _ w_7 ⟨b2, rfl, hS8⟩
    have hS8 : ST w0 [] _ [⟨some ⟨b, 0, none⟩, 45, [.int .i64 aP.Qubits, .int .i64 aP.Phase, .slice B aP.Terms.length c, .slice B1 aP.Out.Rows.length c1], 4⟩, ⟨B2, 95, (r_2.Terms.flatMap enc_Term), c2 * 2⟩, ⟨B3, 3, (r_2.Out.Rows.flatMap encI), c3 * 1⟩, ⟨B4, 95, (r_3.Terms.flatMap enc_Term), c4 * 2⟩, ⟨B5, 3, (r_3.Out.Rows.flatMap encI), c5 * 1⟩, ⟨some ⟨b1, 0, none⟩, 50, [.int .i64 r_3.Qubits, .int .i64 r_3.Phase, .slice B4 r_3.Terms.length c4, .slice B5 r_3.Out.Rows.length c5], 4⟩, ⟨B6, 95, (r_5.Terms.flatMap enc_Term), c6 * 2⟩, ⟨B7, 3, (r_5.Out.Rows.flatMap encI), c7 * 1⟩, ⟨some ⟨b2, 0, none⟩, 50, [.int .i64 0, .int .i64 0, .slice none 0 0, .slice none 0 0], 4⟩] [⟨B, (aP.Terms.flatMap enc_Term)⟩, ⟨B1, (aP.Out.Rows.flatMap encI)⟩] := hS8
    refine ss0 rfl rfl (Ys_store (i := 8) (s := 4) (B := some ⟨b2, 0, none⟩) (T' := 50) (v := .agg #[.int .i64 r_5.Qubits, .int .i64 r_5.Phase, .slice B6 r_5.Terms.length c6, .slice B7 r_5.Out.Rows.length c7]) (vs := [.int .i64 r_5.Qubits, .int .i64 r_5.Phase, .slice B6 r_5.Terms.length c6, .slice B7 r_5.Out.Rows.length c7]) (k := 0) (cs' := [.int .i64 r_5.Qubits, .int .i64 r_5.Phase, .slice B6 r_5.Terms.length c6, .slice B7 r_5.Out.Rows.length c7]) hS8 k_sz_50_4 rfl rfl rfl rfl rfl rfl rfl (Nat.le_of_ble_eq_true rfl) rfl rfl) ?_
    rintro _ w_8 ⟨rfl, hS9⟩
    have hS9 : ST w0 [] _ [⟨some ⟨b, 0, none⟩, 45, [.int .i64 aP.Qubits, .int .i64 aP.Phase, .slice B aP.Terms.length c, .slice B1 aP.Out.Rows.length c1], 4⟩, ⟨B2, 95, (r_2.Terms.flatMap enc_Term), c2 * 2⟩, ⟨B3, 3, (r_2.Out.Rows.flatMap encI), c3 * 1⟩, ⟨B4, 95, (r_3.Terms.flatMap enc_Term), c4 * 2⟩, ⟨B5, 3, (r_3.Out.Rows.flatMap encI), c5 * 1⟩, ⟨some ⟨b1, 0, none⟩, 50, [.int .i64 r_3.Qubits, .int .i64 r_3.Phase, .slice B4 r_3.Terms.length c4, .slice B5 r_3.Out.Rows.length c5], 4⟩, ⟨B6, 95, (r_5.Terms.flatMap enc_Term), c6 * 2⟩, ⟨B7, 3, (r_5.Out.Rows.flatMap encI), c7 * 1⟩, ⟨some ⟨b2, 0, none⟩, 50, [.int .i64 r_5.Qubits, .int .i64 r_5.Phase, .slice B6 r_5.Terms.length c6, .slice B7 r_5.Out.Rows.length c7], 4⟩] [⟨B, (aP.Terms.flatMap enc_Term)⟩, ⟨B1, (aP.Out.Rows.flatMap encI)⟩] := hS9
    refine rw_nil ?_
    refine cw_seq ?_
    refine cw_region ?_
    refine sq 31 rfl rfl (Y_loadA (B := some ⟨b2, 0, none⟩) (i := 0) (cs := [.int .i64 r_5.Qubits, .int .i64 r_5.Phase, .slice B6 r_5.Terms.length c6, .slice B7 r_5.Out.Rows.length c7]) (vs := [.int .i64 r_5.Qubits, .int .i64 r_5.Phase, .slice B6 r_5.Terms.length c6, .slice B7 r_5.Out.Rows.length c7]) k_ag_50 k_sz_50_4 rfl rfl (hS9.cf (i := 8) rfl) rfl rfl) ?_
    refine sq 32 rfl rfl (Y_move (v := .int .i64 aWord) rfl rfl) ?_
    obtain ⟨⟨r_6, r_7⟩, hc4, hF2⟩ := bind_inv hF2
    refine sc 33 rfl rfl (Yc_func (g := 19) (vs := [.agg #[.int .i64 r_5.Qubits, .int .i64 r_5.Phase, .slice B6 r_5.Terms.length c6, .slice B7 r_5.Out.Rows.length c7], .int .i64 aWord]) k_call_19 rfl (mc rfl (mc rfl mn)) (c_impl_ShiftBy r_5 aWord B6 c6 r_5.Terms.length B7 c7 r_5.Out.Rows.length _ rfl rfl (hS9.inn0 [(false, 6), (false, 7)] rfl) hc4)) ?_
    rintro _ w_9 ⟨B8, c8, B9, c9, rfl, hd4⟩
    have hS10 := hS9.out0 hd4
    have hS10 : ST w0 [] _ [⟨some ⟨b, 0, none⟩, 45, [.int .i64 aP.Qubits, .int .i64 aP.Phase, .slice B aP.Terms.length c, .slice B1 aP.Out.Rows.length c1], 4⟩, ⟨B2, 95, (r_2.Terms.flatMap enc_Term), c2 * 2⟩, ⟨B3, 3, (r_2.Out.Rows.flatMap encI), c3 * 1⟩, ⟨B4, 95, (r_3.Terms.flatMap enc_Term), c4 * 2⟩, ⟨B5, 3, (r_3.Out.Rows.flatMap encI), c5 * 1⟩, ⟨some ⟨b1, 0, none⟩, 50, [.int .i64 r_3.Qubits, .int .i64 r_3.Phase, .slice B4 r_3.Terms.length c4, .slice B5 r_3.Out.Rows.length c5], 4⟩, ⟨B6, 95, (r_5.Terms.flatMap enc_Term), c6 * 2⟩, ⟨B7, 3, (r_5.Out.Rows.flatMap encI), c7 * 1⟩, ⟨some ⟨b2, 0, none⟩, 50, [.int .i64 r_5.Qubits, .int .i64 r_5.Phase, .slice B6 r_5.Terms.length c6, .slice B7 r_5.Out.Rows.length c7], 4⟩, ⟨B8, 95, (r_6.Terms.flatMap enc_Term), c8 * 2⟩, ⟨B9, 3, (r_6.Out.Rows.flatMap encI), c9 * 1⟩] [⟨B, (aP.Terms.flatMap enc_Term)⟩, ⟨B1, (aP.Out.Rows.flatMap encI)⟩] := hS10
    refine sq 30 rfl rfl (Y_move (v := .tuple #[.agg #[.int .i64 r_6.Qubits, .int .i64 r_6.Phase, .slice B8 r_6.Terms.length c8, .slice B9 r_6.Out.Rows.length c9], .bool r_7]) rfl rfl) ?_
    refine sq 34 rfl rfl (Y_extract (v := .agg #[.int .i64 r_6.Qubits, .int .i64 r_6.Phase, .slice B8 r_6.Terms.length c8, .slice B9 r_6.Out.Rows.length c9]) rfl rfl rfl) ?_
    refine sq 35 rfl rfl (Y_extract (v := .bool r_7) rfl rfl rfl) ?_
    refine ss 9 rfl rfl (Ys_alloc (T := 50) (cs := [.int .i64 0, .int .i64 0, .slice none 0 0, .slice none 0 0]) (m := 4) hS10 k_zero_50 rfl rfl rfl) ?_
    rintro _ w_10 ⟨b3, rfl, hS11⟩
    have hS11 : ST w0 [] _ [⟨some ⟨b, 0, none⟩, 45, [.int .i64 aP.Qubits, .int .i64 aP.Phase, .slice B aP.Terms.length c, .slice B1 aP.Out.Rows.length c1], 4⟩, ⟨B2, 95, (r_2.Terms.flatMap enc_Term), c2 * 2⟩, ⟨B3, 3, (r_2.Out.Rows.flatMap encI), c3 * 1⟩, ⟨B4, 95, (r_3.Terms.flatMap enc_Term), c4 * 2⟩, ⟨B5, 3, (r_3.Out.Rows.flatMap encI), c5 * 1⟩, ⟨some ⟨b1, 0, none⟩, 50, [.int .i64 r_3.Qubits, .int .i64 r_3.Phase, .slice B4 r_3.Terms.length c4, .slice B5 r_3.Out.Rows.length c5], 4⟩, ⟨B6, 95, (r_5.Terms.flatMap enc_Term), c6 * 2⟩, ⟨B7, 3, (r_5.Out.Rows.flatMap encI), c7 * 1⟩, ⟨some ⟨b2, 0, none⟩, 50, [.int .i64 r_5.Qubits, .int .i64 r_5.Phase, .slice B6 r_5.Terms.length c6, .slice B7 r_5.Out.Rows.length c7], 4⟩, ⟨B8, 95, (r_6.Terms.flatMap enc_Term), c8 * 2⟩, ⟨B9, 3, (r_6.Out.Rows.flatMap encI), c9 * 1⟩, ⟨some ⟨b3, 0, none⟩, 50, [.int .i64 0, .int .i64 0, .slice none 0 0, .slice none 0 0], 4⟩] [⟨B, (aP.Terms.flatMap enc_Term)⟩, ⟨B1, (aP.Out.Rows.flatMap encI)⟩] := hS11
    refine ss0 rfl rfl (Ys_store (i := 11) (s := 4) (B := some ⟨b3, 0, none⟩) (T' := 50) (v := .agg #[.int .i64 r_6.Qubits, .int .i64 r_6.Phase, .slice B8 r_6.Terms.length c8, .slice B9 r_6.Out.Rows.length c9]) (vs := [.int .i64 r_6.Qubits, .int .i64 r_6.Phase, .slice B8 r_6.Terms.length c8, .slice B9 r_6.Out.Rows.length c9]) (k := 0) (cs' := [.int .i64 r_6.Qubits, .int .i64 r_6.Phase, .slice B8 r_6.Terms.length c8, .slice B9 r_6.Out.Rows.length c9]) hS11 k_sz_50_4 rfl rfl rfl rfl rfl rfl rfl (Nat.le_of_ble_eq_true rfl) rfl rfl) ?_
    rintro _ w_11 ⟨rfl, hS12⟩
    have hS12 : ST w0 [] _ [⟨some ⟨b, 0, none⟩, 45, [.int .i64 aP.Qubits, .int .i64 aP.Phase, .slice B aP.Terms.length c, .slice B1 aP.Out.Rows.length c1], 4⟩, ⟨B2, 95, (r_2.Terms.flatMap enc_Term), c2 * 2⟩, ⟨B3, 3, (r_2.Out.Rows.flatMap encI), c3 * 1⟩, ⟨B4, 95, (r_3.Terms.flatMap enc_Term), c4 * 2⟩, ⟨B5, 3, (r_3.Out.Rows.flatMap encI), c5 * 1⟩, ⟨some ⟨b1, 0, none⟩, 50, [.int .i64 r_3.Qubits, .int .i64 r_3.Phase, .slice B4 r_3.Terms.length c4, .slice B5 r_3.Out.Rows.length c5], 4⟩, ⟨B6, 95, (r_5.Terms.flatMap enc_Term), c6 * 2⟩, ⟨B7, 3, (r_5.Out.Rows.flatMap encI), c7 * 1⟩, ⟨some ⟨b2, 0, none⟩, 50, [.int .i64 r_5.Qubits, .int .i64 r_5.Phase, .slice B6 r_5.Terms.length c6, .slice B7 r_5.Out.Rows.length c7], 4⟩, ⟨B8, 95, (r_6.Terms.flatMap enc_Term), c8 * 2⟩, ⟨B9, 3, (r_6.Out.Rows.flatMap encI), c9 * 1⟩, ⟨some ⟨b3, 0, none⟩, 50, [.int .i64 r_6.Qubits, .int .i64 r_6.Phase, .slice B8 r_6.Terms.length c8, .slice B9 r_6.Out.Rows.length c9], 4⟩] [⟨B, (aP.Terms.flatMap enc_Term)⟩, ⟨B1, (aP.Out.Rows.flatMap encI)⟩] := hS12
    refine sq 10 rfl rfl (Y_assign (v := .bool r_7) rfl rfl) ?_
    refine rw_nil ?_
    refine cw_seq ?_
    refine cw_seq ?_
    refine cw_region ?_
    refine sq 36 rfl rfl (Y_loadA (B := some ⟨b3, 0, none⟩) (i := 0) (cs := [.int .i64 r_6.Qubits, .int .i64 r_6.Phase, .slice B8 r_6.Terms.length c8, .slice B9 r_6.Out.Rows.length c9]) (vs := [.int .i64 r_6.Qubits, .int .i64 r_6.Phase, .slice B8 r_6.Terms.length c8, .slice B9 r_6.Out.Rows.length c9]) k_ag_50 k_sz_50_4 rfl rfl (hS12.cf (i := 11) rfl) rfl rfl) ?_
    refine sq 37 rfl rfl (Y_loadA (B := some ⟨b1, 0, none⟩) (i := 0) (cs := [.int .i64 r_3.Qubits, .int .i64 r_3.Phase, .slice B4 r_3.Terms.length c4, .slice B5 r_3.Out.Rows.length c5]) (vs := [.int .i64 r_3.Qubits, .int .i64 r_3.Phase, .slice B4 r_3.Terms.length c4, .slice B5 r_3.Out.Rows.length c5]) k_ag_50 k_sz_50_4 rfl rfl (hS12.cf (i := 5) rfl) rfl rfl) ?_
    obtain ⟨r_8, hc5, hF2⟩ := bind_inv hF2
    refine sc 38 rfl rfl (Yc_func (g := 20) (vs := [.agg #[.int .i64 r_6.Qubits, .int .i64 r_6.Phase, .slice B8 r_6.Terms.length c8, .slice B9 r_6.Out.Rows.length c9], .agg #[.int .i64 r_3.Qubits, .int .i64 r_3.Phase, .slice B4 r_3.Terms.length c4, .slice B5 r_3.Out.Rows.length c5]]) k_call_20 rfl (mc rfl (mc rfl mn)) (c_laws_eqPhasePoly r_6 r_3 B8 c8 r_6.Terms.length B9 c9 r_6.Out.Rows.length B4 c4 r_3.Terms.length B5 c5 r_3.Out.Rows.length _ rfl rfl rfl rfl (hS12.inn0 [(false, 9), (false, 10), (false, 3), (false, 4)] rfl) hc5)) ?_
    rintro _ w_12 ⟨rfl, hd5⟩
    have hS13 := hS12.out00 hd5
    have hS13 : ST w0 [] _ [⟨some ⟨b, 0, none⟩, 45, [.int .i64 aP.Qubits, .int .i64 aP.Phase, .slice B aP.Terms.length c, .slice B1 aP.Out.Rows.length c1], 4⟩, ⟨B2, 95, (r_2.Terms.flatMap enc_Term), c2 * 2⟩, ⟨B3, 3, (r_2.Out.Rows.flatMap encI), c3 * 1⟩, ⟨B4, 95, (r_3.Terms.flatMap enc_Term), c4 * 2⟩, ⟨B5, 3, (r_3.Out.Rows.flatMap encI), c5 * 1⟩, ⟨some ⟨b1, 0, none⟩, 50, [.int .i64 r_3.Qubits, .int .i64 r_3.Phase, .slice B4 r_3.Terms.length c4, .slice B5 r_3.Out.Rows.length c5], 4⟩, ⟨B6, 95, (r_5.Terms.flatMap enc_Term), c6 * 2⟩, ⟨B7, 3, (r_5.Out.Rows.flatMap encI), c7 * 1⟩, ⟨some ⟨b2, 0, none⟩, 50, [.int .i64 r_5.Qubits, .int .i64 r_5.Phase, .slice B6 r_5.Terms.length c6, .slice B7 r_5.Out.Rows.length c7], 4⟩, ⟨B8, 95, (r_6.Terms.flatMap enc_Term), c8 * 2⟩, ⟨B9, 3, (r_6.Out.Rows.flatMap encI), c9 * 1⟩, ⟨some ⟨b3, 0, none⟩, 50, [.int .i64 r_6.Qubits, .int .i64 r_6.Phase, .slice B8 r_6.Terms.length c8, .slice B9 r_6.Out.Rows.length c9], 4⟩] [⟨B, (aP.Terms.flatMap enc_Term)⟩, ⟨B1, (aP.Out.Rows.flatMap encI)⟩] := hS13
    refine sq 39 rfl rfl (Y_not (p := r_8) rfl rfl) ?_
    refine sq 40 rfl rfl (Y_move (v := .bool (!r_8)) rfl rfl) ?_
    refine sgq 41 (B := (!(!r_8))) (v := .bool r_7) rfl rfl (wt_f (gd_of (t := 40) (by kernel_rfl) rfl)) (fun hg => (Y_move (v := .bool r_7) rfl rfl)) ?_
    refine sgq 42 (B := (!(!r_8))) (v := .bool r_4) rfl rfl (wt_f (gd_of (t := 40) (by kernel_rfl) rfl)) (fun hg1 => (Y_move (v := .bool r_4) rfl rfl)) ?_
    refine sgq 43 (B := (!(!r_8))) (v := .bool (!(r_7 == r_4))) rfl rfl (wt_f (gd_of (t := 40) (by kernel_rfl) rfl)) (fun hg2 => (Y_bne (p := r_7) (q := r_4) k_und_4 rfl (gv_of (B := (!(!r_8))) (v := .bool r_7) hg2) (gv_of (B := (!(!r_8))) (v := .bool r_4) hg2))) ?_
    refine sq 44 rfl rfl (Y_or (b := (!r_8)) (z := (!(r_7 == r_4))) rfl rfl rfl rfl) ?_
    refine rw_nil ?_
    refine cw_cond (b := ((!r_8) || (!(r_7 == r_4)))) rfl (fun hb1 => ?_) (fun hb1 => ?_)
    · skip
      have hF3 := ct hF2 hb1
      refine cw_seq ?_
      refine cw_region ?_
      refine sq 4 rfl rfl (Y_assign (v := .bool false) rfl rfl) ?_
      refine rw_nil ?_
      refine cw_ret ?_
      obtain rfl := some_inj hF3
      exact ret1 Try.results4 (v1 := .bool false) (resAt_tmp rfl) ⟨rfl, (ST.subR (R' := []) (hS13.sel [] rfl rfl) (fun _ h => by cases h))⟩
    · skip
      have hF4 := cf' hF2 hb1
      refine cw_skip ?_
      refine cw_seq ?_
      refine cw_seq ?_
      obtain ⟨r_9, hc6, hF4⟩ := bind_inv hF4
      obtain ⟨r_10, hc7, hF4⟩ := bind_inv hF4
      refine ra_start (ST.sel hS13 [0, 1, 2, 3, 4, 5, 6, 7, 8, 9, 10, 11] rfl rfl).fn (by kernel_rfl) ?_
      have hS16 := hS13.drew
      refine ra_q 0 45 (v := .agg #[.int .i64 r_5.Qubits, .int .i64 r_5.Phase, .slice B6 r_5.Terms.length c6, .slice B7 r_5.Out.Rows.length c7]) rfl rfl rfl (by kernel_rfl) (by kernel_rfl) (by kernel_rfl) (ST.sel hS16 [0, 1, 2, 3, 4, 5, 6, 7, 8, 9, 10, 11] rfl rfl) (fun w' hw' => (Y_loadA (B := some ⟨b2, 0, none⟩) (i := 0) (cs := [.int .i64 r_5.Qubits, .int .i64 r_5.Phase, .slice B6 r_5.Terms.length c6, .slice B7 r_5.Out.Rows.length c7]) (vs := [.int .i64 r_5.Qubits, .int .i64 r_5.Phase, .slice B6 r_5.Terms.length c6, .slice B7 r_5.Out.Rows.length c7]) k_ag_50 k_sz_50_4 rfl rfl (ST.cf hw' (i := 8) rfl) rfl rfl)) ?_
      refine ra_q 1 46 (v := .agg #[.int .i64 aP.Qubits, .int .i64 aP.Phase, .slice B aP.Terms.length c, .slice B1 aP.Out.Rows.length c1]) rfl rfl rfl (by kernel_rfl) (by kernel_rfl) (by kernel_rfl) (ST.sel hS16 [0, 1, 2, 3, 4, 5, 6, 7, 8, 9, 10, 11] rfl rfl) (fun w' hw' => (Y_loadA (B := some ⟨b, 0, none⟩) (i := 0) (cs := [.int .i64 aP.Qubits, .int .i64 aP.Phase, .slice B aP.Terms.length c, .slice B1 aP.Out.Rows.length c1]) (vs := [.int .i64 aP.Qubits, .int .i64 aP.Phase, .slice B aP.Terms.length c, .slice B1 aP.Out.Rows.length c1]) k_ag_45 k_sz_45_4 rfl rfl (ST.cf hw' (i := 0) rfl) rfl rfl)) ?_
      refine ra_all (rs := [2]) (by kernel_rfl) rfl ?_
      refine ra_c 47 (i := 2) rfl rfl rfl (Yc_func (g := 18) (vs := [.agg #[.int .i64 aP.Qubits, .int .i64 aP.Phase, .slice B aP.Terms.length c, .slice B1 aP.Out.Rows.length c1]]) k_call_18 rfl (mc rfl mn) (c_laws_toPhasePoly aP B c aP.Terms.length B1 c1 aP.Out.Rows.length _ rfl rfl (hS16.inn0 [(true, 0), (true, 1)] rfl) hc6)) ?_ ?_
      · rintro _ w_13 ⟨B10, c10, B11, c11, rfl, hd6⟩
        have hS17 := hS16.out0 hd6
        have hS17 : ST w0 [] _ [⟨some ⟨b, 0, none⟩, 45, [.int .i64 aP.Qubits, .int .i64 aP.Phase, .slice B aP.Terms.length c, .slice B1 aP.Out.Rows.length c1], 4⟩, ⟨B2, 95, (r_2.Terms.flatMap enc_Term), c2 * 2⟩, ⟨B3, 3, (r_2.Out.Rows.flatMap encI), c3 * 1⟩, ⟨B4, 95, (r_3.Terms.flatMap enc_Term), c4 * 2⟩, ⟨B5, 3, (r_3.Out.Rows.flatMap encI), c5 * 1⟩, ⟨some ⟨b1, 0, none⟩, 50, [.int .i64 r_3.Qubits, .int .i64 r_3.Phase, .slice B4 r_3.Terms.length c4, .slice B5 r_3.Out.Rows.length c5], 4⟩, ⟨B6, 95, (r_5.Terms.flatMap enc_Term), c6 * 2⟩, ⟨B7, 3, (r_5.Out.Rows.flatMap encI), c7 * 1⟩, ⟨some ⟨b2, 0, none⟩, 50, [.int .i64 r_5.Qubits, .int .i64 r_5.Phase, .slice B6 r_5.Terms.length c6, .slice B7 r_5.Out.Rows.length c7], 4⟩, ⟨B8, 95, (r_6.Terms.flatMap enc_Term), c8 * 2⟩, ⟨B9, 3, (r_6.Out.Rows.flatMap encI), c9 * 1⟩, ⟨some ⟨b3, 0, none⟩, 50, [.int .i64 r_6.Qubits, .int .i64 r_6.Phase, .slice B8 r_6.Terms.length c8, .slice B9 r_6.Out.Rows.length c9], 4⟩, ⟨B10, 95, (r_9.Terms.flatMap enc_Term), c10 * 2⟩, ⟨B11, 3, (r_9.Out.Rows.flatMap encI), c11 * 1⟩] [⟨B, (aP.Terms.flatMap enc_Term)⟩, ⟨B1, (aP.Out.Rows.flatMap encI)⟩] := hS17
        refine ⟨(ST.sel hS17 [0, 1, 2, 3, 4, 5, 6, 7, 8, 9, 10, 11] rfl rfl), ?_⟩
        refine ra_all (rs := [3]) (by kernel_rfl) rfl ?_
        refine ra_c 48 (i := 3) rfl rfl rfl (Yc_func (g := 20) (vs := [.agg #[.int .i64 r_5.Qubits, .int .i64 r_5.Phase, .slice B6 r_5.Terms.length c6, .slice B7 r_5.Out.Rows.length c7], .agg #[.int .i64 r_9.Qubits, .int .i64 r_9.Phase, .slice B10 r_9.Terms.length c10, .slice B11 r_9.Out.Rows.length c11]]) k_call_20 rfl (mc rfl (mc rfl mn)) (c_laws_eqPhasePoly r_5 r_9 B6 c6 r_5.Terms.length B7 c7 r_5.Out.Rows.length B10 c10 r_9.Terms.length B11 c11 r_9.Out.Rows.length _ rfl rfl rfl rfl (hS17.inn0 [(false, 6), (false, 7), (false, 12), (false, 13)] rfl) hc7)) ?_ ?_
        · rintro _ w_14 ⟨rfl, hd7⟩
          have hS18 := hS17.out00 hd7
          have hS18 : ST w0 [] _ [⟨some ⟨b, 0, none⟩, 45, [.int .i64 aP.Qubits, .int .i64 aP.Phase, .slice B aP.Terms.length c, .slice B1 aP.Out.Rows.length c1], 4⟩, ⟨B2, 95, (r_2.Terms.flatMap enc_Term), c2 * 2⟩, ⟨B3, 3, (r_2.Out.Rows.flatMap encI), c3 * 1⟩, ⟨B4, 95, (r_3.Terms.flatMap enc_Term), c4 * 2⟩, ⟨B5, 3, (r_3.Out.Rows.flatMap encI), c5 * 1⟩, ⟨some ⟨b1, 0, none⟩, 50, [.int .i64 r_3.Qubits, .int .i64 r_3.Phase, .slice B4 r_3.Terms.length c4, .slice B5 r_3.Out.Rows.length c5], 4⟩, ⟨B6, 95, (r_5.Terms.flatMap enc_Term), c6 * 2⟩, ⟨B7, 3, (r_5.Out.Rows.flatMap encI), c7 * 1⟩, ⟨some ⟨b2, 0, none⟩, 50, [.int .i64 r_5.Qubits, .int .i64 r_5.Phase, .slice B6 r_5.Terms.length c6, .slice B7 r_5.Out.Rows.length c7], 4⟩, ⟨B8, 95, (r_6.Terms.flatMap enc_Term), c8 * 2⟩, ⟨B9, 3, (r_6.Out.Rows.flatMap encI), c9 * 1⟩, ⟨some ⟨b3, 0, none⟩, 50, [.int .i64 r_6.Qubits, .int .i64 r_6.Phase, .slice B8 r_6.Terms.length c8, .slice B9 r_6.Out.Rows.length c9], 4⟩, ⟨B10, 95, (r_9.Terms.flatMap enc_Term), c10 * 2⟩, ⟨B11, 3, (r_9.Out.Rows.flatMap encI), c11 * 1⟩] [⟨B, (aP.Terms.flatMap enc_Term)⟩, ⟨B1, (aP.Out.Rows.flatMap encI)⟩] := hS18
          refine ⟨(ST.sel hS18 [0, 1, 2, 3, 4, 5, 6, 7, 8, 9, 10, 11] rfl rfl), ?_⟩
          refine ra_q 4 49 (v := .bool (!r_10)) rfl rfl rfl (by kernel_rfl) (by kernel_rfl) (by kernel_rfl) (ST.sel hS18 [0, 1, 2, 3, 4, 5, 6, 7, 8, 9, 10, 11] rfl rfl) (fun w' hw' => (Y_not (p := r_10) rfl rfl)) ?_
          refine ra_done (by kernel_rfl) ?_
          refine cw_cond (b := (!r_10)) rfl (fun hb2 => ?_) (fun hb2 => ?_)
          · skip
            have hF5 := ct hF4 hb2
            refine cw_seq ?_
            refine cw_region ?_
            refine sq 4 rfl rfl (Y_assign (v := .bool false) rfl rfl) ?_
            refine rw_nil ?_
            refine cw_ret ?_
            obtain rfl := some_inj hF5
            exact ret1 Try.results4 (v1 := .bool false) (resAt_tmp rfl) ⟨rfl, (ST.subR (R' := []) (hS18.sel [] rfl rfl) (fun _ h => by cases h))⟩
          · skip
            have hF6 := cf' hF4 hb2
            refine cw_skip ?_
            refine cw_seq ?_
            refine cw_region ?_
            refine sq 11 rfl rfl (Y_assign (v := .int .i64 1) rfl rfl) ?_
            refine rw_nil ?_
            refine cw_seq ?_
            refine cw_region ?_
            refine sq 50 rfl rfl (Y_loadA (B := some ⟨b2, 0, none⟩) (i := 0) (cs := [.int .i64 r_5.Qubits, .int .i64 r_5.Phase, .slice B6 r_5.Terms.length c6, .slice B7 r_5.Out.Rows.length c7]) (vs := [.int .i64 r_5.Qubits, .int .i64 r_5.Phase, .slice B6 r_5.Terms.length c6, .slice B7 r_5.Out.Rows.length c7]) k_ag_50 k_sz_50_4 rfl rfl (hS18.cf (i := 8) rfl) rfl rfl) ?_
            refine sq 51 rfl rfl (Y_move (v := .int .i64 1) rfl rfl) ?_
            obtain ⟨⟨r_11, m, m1⟩, hc8, hF6⟩ := bind_inv hF6
            refine sc 52 rfl rfl (Yc_func (g := 21) (vs := [.agg #[.int .i64 r_5.Qubits, .int .i64 r_5.Phase, .slice B6 r_5.Terms.length c6, .slice B7 r_5.Out.Rows.length c7], .int .i64 1]) k_call_21 rfl (mc rfl (mc rfl mn)) (c_laws_markPhasePoly r_5 1 B6 c6 r_5.Terms.length B7 c7 r_5.Out.Rows.length _ rfl rfl (hS18.inn [false, false, false, false, false, false, true, true, false, false, false, false, false, false] rfl [] rfl) hc8)) ?_
            rintro _ w_15 ⟨rfl, hl, hl1, hd8⟩
            have hS19 := hS18.out [false, false, false, false, false, false, true, true, false, false, false, false, false, false] rfl hd8
            have hS19 : ST w0 [] _ [⟨some ⟨b, 0, none⟩, 45, [.int .i64 aP.Qubits, .int .i64 aP.Phase, .slice B aP.Terms.length c, .slice B1 aP.Out.Rows.length c1], 4⟩, ⟨B2, 95, (r_2.Terms.flatMap enc_Term), c2 * 2⟩, ⟨B3, 3, (r_2.Out.Rows.flatMap encI), c3 * 1⟩, ⟨B4, 95, (r_3.Terms.flatMap enc_Term), c4 * 2⟩, ⟨B5, 3, (r_3.Out.Rows.flatMap encI), c5 * 1⟩, ⟨some ⟨b1, 0, none⟩, 50, [.int .i64 r_3.Qubits, .int .i64 r_3.Phase, .slice B4 r_3.Terms.length c4, .slice B5 r_3.Out.Rows.length c5], 4⟩, ⟨some ⟨b2, 0, none⟩, 50, [.int .i64 r_5.Qubits, .int .i64 r_5.Phase, .slice B6 r_5.Terms.length c6, .slice B7 r_5.Out.Rows.length c7], 4⟩, ⟨B8, 95, (r_6.Terms.flatMap enc_Term), c8 * 2⟩, ⟨B9, 3, (r_6.Out.Rows.flatMap encI), c9 * 1⟩, ⟨some ⟨b3, 0, none⟩, 50, [.int .i64 r_6.Qubits, .int .i64 r_6.Phase, .slice B8 r_6.Terms.length c8, .slice B9 r_6.Out.Rows.length c9], 4⟩, ⟨B10, 95, (r_9.Terms.flatMap enc_Term), c10 * 2⟩, ⟨B11, 3, (r_9.Out.Rows.flatMap encI), c11 * 1⟩, ⟨B6, 95, (m.flatMap enc_Term), c6 * 2⟩, ⟨B7, 3, (m1.flatMap encI), c7 * 1⟩] [⟨B, (aP.Terms.flatMap enc_Term)⟩, ⟨B1, (aP.Out.Rows.flatMap encI)⟩] := hS19
            refine sq 11 rfl rfl (Y_assign (v := .int .i64 r_11) rfl rfl) ?_
            refine rw_nil ?_
            refine cw_seq ?_
            refine cw_seq ?_
            refine cw_region ?_
            refine sq 53 rfl rfl (Y_move (v := .int .i64 r_11) rfl rfl) ?_
            refine sq 54 rfl rfl (Y_lt (k := .i64) (a := r_11) (b := 0) rfl rfl rfl) ?_
            refine sq 55 rfl rfl (Y_move (v := .bool (decide (r_11 < 0))) rfl rfl) ?_
            refine sgq 56 (B := (!(decide (r_11 < 0)))) (v := .agg #[.int .i64 r_6.Qubits, .int .i64 r_6.Phase, .slice B8 r_6.Terms.length c8, .slice B9 r_6.Out.Rows.length c9]) rfl rfl (wt_f (gd_of (t := 55) (by kernel_rfl) rfl)) (fun hg3 => (Y_loadA (B := some ⟨b3, 0, none⟩) (i := 0) (cs := [.int .i64 r_6.Qubits, .int .i64 r_6.Phase, .slice B8 r_6.Terms.length c8, .slice B9 r_6.Out.Rows.length c9]) (vs := [.int .i64 r_6.Qubits, .int .i64 r_6.Phase, .slice B8 r_6.Terms.length c8, .slice B9 r_6.Out.Rows.length c9]) k_ag_50 k_sz_50_4 rfl rfl (hS19.cf (i := 9) rfl) rfl rfl)) ?_
            refine sgq 57 (B := (!(decide (r_11 < 0)))) (v := .agg #[.int .i64 r_3.Qubits, .int .i64 r_3.Phase, .slice B4 r_3.Terms.length c4, .slice B5 r_3.Out.Rows.length c5]) rfl rfl (wt_f (gd_of (t := 55) (by kernel_rfl) rfl)) (fun hg4 => (Y_loadA (B := some ⟨b1, 0, none⟩) (i := 0) (cs := [.int .i64 r_3.Qubits, .int .i64 r_3.Phase, .slice B4 r_3.Terms.length c4, .slice B5 r_3.Out.Rows.length c5]) (vs := [.int .i64 r_3.Qubits, .int .i64 r_3.Phase, .slice B4 r_3.Terms.length c4, .slice B5 r_3.Out.Rows.length c5]) k_ag_50 k_sz_50_4 rfl rfl (hS19.cf (i := 5) rfl) rfl rfl)) ?_
            obtain ⟨r_12, hc9, hF6⟩ := bind_inv hF6
            refine sgc 58 (B := (!(decide (r_11 < 0)))) (v := .bool r_12) (F := hS19.fn) rfl rfl (wt_f (gd_of (t := 55) (by kernel_rfl) rfl)) hS19 (fun hg5 => (Yc_func (g := 20) (vs := [.agg #[.int .i64 r_6.Qubits, .int .i64 r_6.Phase, .slice B8 r_6.Terms.length c8, .slice B9 r_6.Out.Rows.length c9], .agg #[.int .i64 r_3.Qubits, .int .i64 r_3.Phase, .slice B4 r_3.Terms.length c4, .slice B5 r_3.Out.Rows.length c5]]) k_call_20 rfl (mc (gv_of (B := (!(decide (r_11 < 0)))) (v := .agg #[.int .i64 r_6.Qubits, .int .i64 r_6.Phase, .slice B8 r_6.Terms.length c8, .slice B9 r_6.Out.Rows.length c9]) hg5) (mc (gv_of (B := (!(decide (r_11 < 0)))) (v := .agg #[.int .i64 r_3.Qubits, .int .i64 r_3.Phase, .slice B4 r_3.Terms.length c4, .slice B5 r_3.Out.Rows.length c5]) hg5) mn)) (CV.mono (c_laws_eqPhasePoly r_6 r_3 B8 c8 r_6.Terms.length B9 c9 r_6.Out.Rows.length B4 c4 r_3.Terms.length B5 c5 r_3.Out.Rows.length _ rfl rfl rfl rfl (hS19.inn0 [(false, 7), (false, 8), (false, 3), (false, 4)] rfl) (gb_inv hc9 hg5)) (by rintro _ _ ⟨rfl, h⟩; exact ⟨rfl, hS19.out00 h⟩)))) ?_
            rintro w_16 hS20
            have hS20 : ST _ _ w_16 _ _ := hS20
            refine sgq 59 (B := (!(decide (r_11 < 0)))) (v := .bool (!r_12)) rfl rfl (wt_f (gd_of (t := 55) (by kernel_rfl) rfl)) (fun hg6 => (Y_not (p := r_12) rfl (gv_of (B := (!(decide (r_11 < 0)))) (v := .bool r_12) hg6))) ?_
            refine sq 60 rfl rfl (Y_or (b := (decide (r_11 < 0))) (z := (!r_12)) rfl rfl rfl rfl) ?_
            refine sq 61 rfl rfl (Y_move (v := .bool ((decide (r_11 < 0)) || (!r_12))) rfl rfl) ?_
            refine sgq 62 (B := (!((decide (r_11 < 0)) || (!r_12)))) (v := .bool r_7) rfl rfl (wt_f (gd_of (t := 61) (by kernel_rfl) rfl)) (fun hg7 => (Y_move (v := .bool r_7) rfl rfl)) ?_
            refine sgq 63 (B := (!((decide (r_11 < 0)) || (!r_12)))) (v := .bool r_4) rfl rfl (wt_f (gd_of (t := 61) (by kernel_rfl) rfl)) (fun hg8 => (Y_move (v := .bool r_4) rfl rfl)) ?_
            refine sgq 64 (B := (!((decide (r_11 < 0)) || (!r_12)))) (v := .bool (!(r_7 == r_4))) rfl rfl (wt_f (gd_of (t := 61) (by kernel_rfl) rfl)) (fun hg9 => (Y_bne (p := r_7) (q := r_4) k_und_4 rfl (gv_of (B := (!((decide (r_11 < 0)) || (!r_12)))) (v := .bool r_7) hg9) (gv_of (B := (!((decide (r_11 < 0)) || (!r_12)))) (v := .bool r_4) hg9))) ?_
            refine sq 65 rfl rfl (Y_or (b := ((decide (r_11 < 0)) || (!r_12))) (z := (!(r_7 == r_4))) rfl rfl rfl rfl) ?_
            refine rw_nil ?_
            refine cw_cond (b := (((decide (r_11 < 0)) || (!r_12)) || (!(r_7 == r_4)))) rfl (fun hb3 => ?_) (fun hb3 => ?_)
            · skip
              have hF7 := ct hF6 hb3
              refine cw_seq ?_
              refine cw_region ?_
              refine sq 4 rfl rfl (Y_assign (v := .bool false) rfl rfl) ?_
              refine rw_nil ?_
              refine cw_ret ?_
              obtain rfl := some_inj hF7
              exact ret1 Try.results4 (v1 := .bool false) (resAt_tmp rfl) ⟨rfl, (ST.subR (R' := []) (hS20.sel [] rfl rfl) (fun _ h => by cases h))⟩
            · skip
              have hF8 := cf' hF6 hb3
              refine cw_skip ?_
              refine cw_seq ?_
              refine cw_region ?_
              refine sq 12 rfl rfl (Y_assign (v := .int .i64 1) rfl rfl) ?_
              refine rw_nil ?_
              refine cw_seq ?_
              refine cw_region ?_
              refine sq 66 rfl rfl (Y_loadA (B := some ⟨b3, 0, none⟩) (i := 0) (cs := [.int .i64 r_6.Qubits, .int .i64 r_6.Phase, .slice B8 r_6.Terms.length c8, .slice B9 r_6.Out.Rows.length c9]) (vs := [.int .i64 r_6.Qubits, .int .i64 r_6.Phase, .slice B8 r_6.Terms.length c8, .slice B9 r_6.Out.Rows.length c9]) k_ag_50 k_sz_50_4 rfl rfl (hS20.cf (i := 9) rfl) rfl rfl) ?_
              refine sq 67 rfl rfl (Y_move (v := .int .i64 1) rfl rfl) ?_
              obtain ⟨⟨r_13, m2, m3⟩, hc10, hF8⟩ := bind_inv hF8
              refine sc 68 rfl rfl (Yc_func (g := 21) (vs := [.agg #[.int .i64 r_6.Qubits, .int .i64 r_6.Phase, .slice B8 r_6.Terms.length c8, .slice B9 r_6.Out.Rows.length c9], .int .i64 1]) k_call_21 rfl (mc rfl (mc rfl mn)) (c_laws_markPhasePoly r_6 1 B8 c8 r_6.Terms.length B9 c9 r_6.Out.Rows.length _ rfl rfl (hS20.inn [false, false, false, false, false, false, false, true, true, false, false, false, false, false] rfl [] rfl) hc10)) ?_
              rintro _ w_17 ⟨rfl, hl2, hl3, hd9⟩
              have hS21 := hS20.out [false, false, false, false, false, false, false, true, true, false, false, false, false, false] rfl hd9
              have hS21 : ST w0 [] _ [⟨some ⟨b, 0, none⟩, 45, [.int .i64 aP.Qubits, .int .i64 aP.Phase, .slice B aP.Terms.length c, .slice B1 aP.Out.Rows.length c1], 4⟩, ⟨B2, 95, (r_2.Terms.flatMap enc_Term), c2 * 2⟩, ⟨B3, 3, (r_2.Out.Rows.flatMap encI), c3 * 1⟩, ⟨B4, 95, (r_3.Terms.flatMap enc_Term), c4 * 2⟩, ⟨B5, 3, (r_3.Out.Rows.flatMap encI), c5 * 1⟩, ⟨some ⟨b1, 0, none⟩, 50, [.int .i64 r_3.Qubits, .int .i64 r_3.Phase, .slice B4 r_3.Terms.length c4, .slice B5 r_3.Out.Rows.length c5], 4⟩, ⟨some ⟨b2, 0, none⟩, 50, [.int .i64 r_5.Qubits, .int .i64 r_5.Phase, .slice B6 r_5.Terms.length c6, .slice B7 r_5.Out.Rows.length c7], 4⟩, ⟨some ⟨b3, 0, none⟩, 50, [.int .i64 r_6.Qubits, .int .i64 r_6.Phase, .slice B8 r_6.Terms.length c8, .slice B9 r_6.Out.Rows.length c9], 4⟩, ⟨B10, 95, (r_9.Terms.flatMap enc_Term), c10 * 2⟩, ⟨B11, 3, (r_9.Out.Rows.flatMap encI), c11 * 1⟩, ⟨B6, 95, (m.flatMap enc_Term), c6 * 2⟩, ⟨B7, 3, (m1.flatMap encI), c7 * 1⟩, ⟨B8, 95, (m2.flatMap enc_Term), c8 * 2⟩, ⟨B9, 3, (m3.flatMap encI), c9 * 1⟩] [⟨B, (aP.Terms.flatMap enc_Term)⟩, ⟨B1, (aP.Out.Rows.flatMap encI)⟩] := hS21
              refine sq 12 rfl rfl (Y_assign (v := .int .i64 r_13) rfl rfl) ?_
              refine rw_nil ?_
              refine cw_seq ?_
              refine cw_region ?_
              refine sq 13 rfl rfl (Y_assign (v := .int .i64 1) rfl rfl) ?_
              refine rw_nil ?_
              refine cw_seq ?_
              refine cw_region ?_
              refine sq 69 rfl rfl (Y_loadA (B := some ⟨b3, 0, none⟩) (i := 0) (cs := [.int .i64 r_6.Qubits, .int .i64 r_6.Phase, .slice B8 r_6.Terms.length c8, .slice B9 r_6.Out.Rows.length c9]) (vs := [.int .i64 r_6.Qubits, .int .i64 r_6.Phase, .slice B8 r_6.Terms.length c8, .slice B9 r_6.Out.Rows.length c9]) k_ag_50 k_sz_50_4 rfl rfl (hS21.cf (i := 7) rfl) rfl rfl) ?_
              refine sq 70 rfl rfl (Y_move (v := .int .i64 1) rfl rfl) ?_
              obtain ⟨r_14, hc11, hF8⟩ := bind_inv hF8
              refine sc 71 rfl rfl (Yc_func (g := 22) (vs := [.agg #[.int .i64 r_6.Qubits, .int .i64 r_6.Phase, .slice B8 r_6.Terms.length c8, .slice B9 r_6.Out.Rows.length c9], .int .i64 1]) k_call_22 rfl (mc rfl (mc rfl mn)) (c_laws_heldPhasePoly (TPhasePoly.mk r_6.Qubits r_6.Phase m2 (TLinear.mk m3)) 1 B8 c8 r_6.Terms.length B9 c9 r_6.Out.Rows.length _ hl2 hl3 (hS21.inn0 [(false, 12), (false, 13)] rfl) hc11)) ?_
              rintro _ w_18 ⟨rfl, hd10⟩
              have hS22 := hS21.out00 hd10
              have hS22 : ST w0 [] _ [⟨some ⟨b, 0, none⟩, 45, [.int .i64 aP.Qubits, .int .i64 aP.Phase, .slice B aP.Terms.length c, .slice B1 aP.Out.Rows.length c1], 4⟩, ⟨B2, 95, (r_2.Terms.flatMap enc_Term), c2 * 2⟩, ⟨B3, 3, (r_2.Out.Rows.flatMap encI), c3 * 1⟩, ⟨B4, 95, (r_3.Terms.flatMap enc_Term), c4 * 2⟩, ⟨B5, 3, (r_3.Out.Rows.flatMap encI), c5 * 1⟩, ⟨some ⟨b1, 0, none⟩, 50, [.int .i64 r_3.Qubits, .int .i64 r_3.Phase, .slice B4 r_3.Terms.length c4, .slice B5 r_3.Out.Rows.length c5], 4⟩, ⟨some ⟨b2, 0, none⟩, 50, [.int .i64 r_5.Qubits, .int .i64 r_5.Phase, .slice B6 r_5.Terms.length c6, .slice B7 r_5.Out.Rows.length c7], 4⟩, ⟨some ⟨b3, 0, none⟩, 50, [.int .i64 r_6.Qubits, .int .i64 r_6.Phase, .slice B8 r_6.Terms.length c8, .slice B9 r_6.Out.Rows.length c9], 4⟩, ⟨B10, 95, (r_9.Terms.flatMap enc_Term), c10 * 2⟩, ⟨B11, 3, (r_9.Out.Rows.flatMap encI), c11 * 1⟩, ⟨B6, 95, (m.flatMap enc_Term), c6 * 2⟩, ⟨B7, 3, (m1.flatMap encI), c7 * 1⟩, ⟨B8, 95, (m2.flatMap enc_Term), c8 * 2⟩, ⟨B9, 3, (m3.flatMap encI), c9 * 1⟩] [⟨B, (aP.Terms.flatMap enc_Term)⟩, ⟨B1, (aP.Out.Rows.flatMap encI)⟩] := hS22
              refine sq 13 rfl rfl (Y_assign (v := .int .i64 r_14) rfl rfl) ?_
              refine rw_nil ?_
              refine cw_seq ?_
              refine cw_seq ?_
              refine cw_region ?_
              refine sq 72 rfl rfl (Y_move (v := .int .i64 r_14) rfl rfl) ?_
              refine sq 73 rfl rfl (Y_lt (k := .i64) (a := r_14) (b := 0) rfl rfl rfl) ?_
              refine rw_nil ?_
              refine cw_cond (b := (decide (r_14 < 0))) rfl (fun hb4 => ?_) (fun hb4 => ?_)
              · skip
                have hF9 := ct hF8 hb4
                refine cw_seq ?_
                refine cw_region ?_
                refine sq 4 rfl rfl (Y_assign (v := .bool false) rfl rfl) ?_
                refine rw_nil ?_
                refine cw_ret ?_
                obtain rfl := some_inj hF9
                exact ret1 Try.results4 (v1 := .bool false) (resAt_tmp rfl) ⟨rfl, (ST.subR (R' := []) (hS22.sel [] rfl rfl) (fun _ h => by cases h))⟩
              · skip
                have hF10 := cf' hF8 hb4
                refine cw_skip ?_
                refine cw_seq ?_
                refine cw_seq ?_
                refine cw_region ?_
                refine sq 74 rfl rfl (Y_move (v := .int .i64 r_14) rfl rfl) ?_
                refine sq 75 rfl rfl (Y_move (v := .int .i64 r_13) rfl rfl) ?_
                refine sq 76 rfl rfl (Y_ne (k := .i64) (a := r_14) (b := r_13) rfl rfl rfl) ?_
                refine rw_nil ?_
                refine cw_cond (b := (r_14 != r_13)) rfl (fun hb5 => ?_) (fun hb5 => ?_)
                · skip
                  have hF11 := ct hF10 hb5
                  refine cw_seq ?_
                  refine cw_region ?_
                  refine sq 4 rfl rfl (Y_assign (v := .bool false) rfl rfl) ?_
                  refine rw_nil ?_
                  refine cw_ret ?_
                  obtain rfl := some_inj hF11
                  exact ret1 Try.results4 (v1 := .bool false) (resAt_tmp rfl) ⟨rfl, (ST.subR (R' := []) (hS22.sel [] rfl rfl) (fun _ h => by cases h))⟩
                · skip
                  have hF12 := cf' hF10 hb5
                  refine cw_skip ?_
                  refine cw_seq ?_
                  refine cw_region ?_
                  refine sq 78 rfl rfl (Y_loadA (B := some ⟨b, 0, none⟩) (i := 0) (cs := [.int .i64 aP.Qubits, .int .i64 aP.Phase, .slice B aP.Terms.length c, .slice B1 aP.Out.Rows.length c1]) (vs := [.int .i64 aP.Qubits, .int .i64 aP.Phase, .slice B aP.Terms.length c, .slice B1 aP.Out.Rows.length c1]) k_ag_45 k_sz_45_4 rfl rfl (hS22.cf (i := 0) rfl) rfl rfl) ?_
                  obtain ⟨r_15, hc12, hF12⟩ := bind_inv hF12
                  refine sc 79 rfl rfl (Yc_func (g := 18) (vs := [.agg #[.int .i64 aP.Qubits, .int .i64 aP.Phase, .slice B aP.Terms.length c, .slice B1 aP.Out.Rows.length c1]]) k_call_18 rfl (mc rfl mn) (c_laws_toPhasePoly aP B c aP.Terms.length B1 c1 aP.Out.Rows.length _ rfl rfl (hS22.inn0 [(true, 0), (true, 1)] rfl) hc12)) ?_
                  rintro _ w_19 ⟨B12, c12, B13, c13, rfl, hd11⟩
                  have hS23 := hS22.out0 hd11
                  have hS23 : ST w0 [] _ [⟨some ⟨b, 0, none⟩, 45, [.int .i64 aP.Qubits, .int .i64 aP.Phase, .slice B aP.Terms.length c, .slice B1 aP.Out.Rows.length c1], 4⟩, ⟨B2, 95, (r_2.Terms.flatMap enc_Term), c2 * 2⟩, ⟨B3, 3, (r_2.Out.Rows.flatMap encI), c3 * 1⟩, ⟨B4, 95, (r_3.Terms.flatMap enc_Term), c4 * 2⟩, ⟨B5, 3, (r_3.Out.Rows.flatMap encI), c5 * 1⟩, ⟨some ⟨b1, 0, none⟩, 50, [.int .i64 r_3.Qubits, .int .i64 r_3.Phase, .slice B4 r_3.Terms.length c4, .slice B5 r_3.Out.Rows.length c5], 4⟩, ⟨some ⟨b2, 0, none⟩, 50, [.int .i64 r_5.Qubits, .int .i64 r_5.Phase, .slice B6 r_5.Terms.length c6, .slice B7 r_5.Out.Rows.length c7], 4⟩, ⟨some ⟨b3, 0, none⟩, 50, [.int .i64 r_6.Qubits, .int .i64 r_6.Phase, .slice B8 r_6.Terms.length c8, .slice B9 r_6.Out.Rows.length c9], 4⟩, ⟨B10, 95, (r_9.Terms.flatMap enc_Term), c10 * 2⟩, ⟨B11, 3, (r_9.Out.Rows.flatMap encI), c11 * 1⟩, ⟨B6, 95, (m.flatMap enc_Term), c6 * 2⟩, ⟨B7, 3, (m1.flatMap encI), c7 * 1⟩, ⟨B8, 95, (m2.flatMap enc_Term), c8 * 2⟩, ⟨B9, 3, (m3.flatMap encI), c9 * 1⟩, ⟨B12, 95, (r_15.Terms.flatMap enc_Term), c12 * 2⟩, ⟨B13, 3, (r_15.Out.Rows.flatMap encI), c13 * 1⟩] [⟨B, (aP.Terms.flatMap enc_Term)⟩, ⟨B1, (aP.Out.Rows.flatMap encI)⟩] := hS23
                  refine sq 80 rfl rfl (Y_move (v := .int .i64 aWord) rfl rfl) ?_
                  obtain ⟨⟨r_16, r_17⟩, hc13, hF12⟩ := bind_inv hF12
                  refine sc 81 rfl rfl (Yc_func (g := 19) (vs := [.agg #[.int .i64 r_15.Qubits, .int .i64 r_15.Phase, .slice B12 r_15.Terms.length c12, .slice B13 r_15.Out.Rows.length c13], .int .i64 aWord]) k_call_19 rfl (mc rfl (mc rfl mn)) (c_impl_ShiftBy r_15 aWord B12 c12 r_15.Terms.length B13 c13 r_15.Out.Rows.length _ rfl rfl (hS23.inn0 [(false, 14), (false, 15)] rfl) hc13)) ?_
                  rintro _ w_20 ⟨B14, c14, B15, c15, rfl, hd12⟩
                  have hS24 := hS23.out0 hd12
                  have hS24 : ST w0 [] _ [⟨some ⟨b, 0, none⟩, 45, [.int .i64 aP.Qubits, .int .i64 aP.Phase, .slice B aP.Terms.length c, .slice B1 aP.Out.Rows.length c1], 4⟩, ⟨B2, 95, (r_2.Terms.flatMap enc_Term), c2 * 2⟩, ⟨B3, 3, (r_2.Out.Rows.flatMap encI), c3 * 1⟩, ⟨B4, 95, (r_3.Terms.flatMap enc_Term), c4 * 2⟩, ⟨B5, 3, (r_3.Out.Rows.flatMap encI), c5 * 1⟩, ⟨some ⟨b1, 0, none⟩, 50, [.int .i64 r_3.Qubits, .int .i64 r_3.Phase, .slice B4 r_3.Terms.length c4, .slice B5 r_3.Out.Rows.length c5], 4⟩, ⟨some ⟨b2, 0, none⟩, 50, [.int .i64 r_5.Qubits, .int .i64 r_5.Phase, .slice B6 r_5.Terms.length c6, .slice B7 r_5.Out.Rows.length c7], 4⟩, ⟨some ⟨b3, 0, none⟩, 50, [.int .i64 r_6.Qubits, .int .i64 r_6.Phase, .slice B8 r_6.Terms.length c8, .slice B9 r_6.Out.Rows.length c9], 4⟩, ⟨B10, 95, (r_9.Terms.flatMap enc_Term), c10 * 2⟩, ⟨B11, 3, (r_9.Out.Rows.flatMap encI), c11 * 1⟩, ⟨B6, 95, (m.flatMap enc_Term), c6 * 2⟩, ⟨B7, 3, (m1.flatMap encI), c7 * 1⟩, ⟨B8, 95, (m2.flatMap enc_Term), c8 * 2⟩, ⟨B9, 3, (m3.flatMap encI), c9 * 1⟩, ⟨B12, 95, (r_15.Terms.flatMap enc_Term), c12 * 2⟩, ⟨B13, 3, (r_15.Out.Rows.flatMap encI), c13 * 1⟩, ⟨B14, 95, (r_16.Terms.flatMap enc_Term), c14 * 2⟩, ⟨B15, 3, (r_16.Out.Rows.flatMap encI), c15 * 1⟩] [⟨B, (aP.Terms.flatMap enc_Term)⟩, ⟨B1, (aP.Out.Rows.flatMap encI)⟩] := hS24
                  refine sq 77 rfl rfl (Y_move (v := .tuple #[.agg #[.int .i64 r_16.Qubits, .int .i64 r_16.Phase, .slice B14 r_16.Terms.length c14, .slice B15 r_16.Out.Rows.length c15], .bool r_17]) rfl rfl) ?_
                  refine sq 82 rfl rfl (Y_extract (v := .agg #[.int .i64 r_16.Qubits, .int .i64 r_16.Phase, .slice B14 r_16.Terms.length c14, .slice B15 r_16.Out.Rows.length c15]) rfl rfl rfl) ?_
                  refine sq 83 rfl rfl (Y_extract (v := .bool r_17) rfl rfl rfl) ?_
                  refine ss 14 rfl rfl (Ys_alloc (T := 50) (cs := [.int .i64 0, .int .i64 0, .slice none 0 0, .slice none 0 0]) (m := 4) hS24 k_zero_50 rfl rfl rfl) ?_
                  rintro _ w_21 ⟨b4, rfl, hS25⟩
                  have hS25 : ST w0 [] _ [⟨some ⟨b, 0, none⟩, 45, [.int .i64 aP.Qubits, .int .i64 aP.Phase, .slice B aP.Terms.length c, .slice B1 aP.Out.Rows.length c1], 4⟩, ⟨B2, 95, (r_2.Terms.flatMap enc_Term), c2 * 2⟩, ⟨B3, 3, (r_2.Out.Rows.flatMap encI), c3 * 1⟩, ⟨B4, 95, (r_3.Terms.flatMap enc_Term), c4 * 2⟩, ⟨B5, 3, (r_3.Out.Rows.flatMap encI), c5 * 1⟩, ⟨some ⟨b1, 0, none⟩, 50, [.int .i64 r_3.Qubits, .int .i64 r_3.Phase, .slice B4 r_3.Terms.length c4, .slice B5 r_3.Out.Rows.length c5], 4⟩, ⟨some ⟨b2, 0, none⟩, 50, [.int .i64 r_5.Qubits, .int .i64 r_5.Phase, .slice B6 r_5.Terms.length c6, .slice B7 r_5.Out.Rows.length c7], 4⟩, ⟨some ⟨b3, 0, none⟩, 50, [.int .i64 r_6.Qubits, .int .i64 r_6.Phase, .slice B8 r_6.Terms.length c8, .slice B9 r_6.Out.Rows.length c9], 4⟩, ⟨B10, 95, (r_9.Terms.flatMap enc_Term), c10 * 2⟩, ⟨B11, 3, (r_9.Out.Rows.flatMap encI), c11 * 1⟩, ⟨B6, 95, (m.flatMap enc_Term), c6 * 2⟩, ⟨B7, 3, (m1.flatMap encI), c7 * 1⟩, ⟨B8, 95, (m2.flatMap enc_Term), c8 * 2⟩, ⟨B9, 3, (m3.flatMap encI), c9 * 1⟩, ⟨B12, 95, (r_15.Terms.flatMap enc_Term), c12 * 2⟩, ⟨B13, 3, (r_15.Out.Rows.flatMap encI), c13 * 1⟩, ⟨B14, 95, (r_16.Terms.flatMap enc_Term), c14 * 2⟩, ⟨B15, 3, (r_16.Out.Rows.flatMap encI), c15 * 1⟩, ⟨some ⟨b4, 0, none⟩, 50, [.int .i64 0, .int .i64 0, .slice none 0 0, .slice none 0 0], 4⟩] [⟨B, (aP.Terms.flatMap enc_Term)⟩, ⟨B1, (aP.Out.Rows.flatMap encI)⟩] := hS25
                  refine ss0 rfl rfl (Ys_store (i := 18) (s := 4) (B := some ⟨b4, 0, none⟩) (T' := 50) (v := .agg #[.int .i64 r_16.Qubits, .int .i64 r_16.Phase, .slice B14 r_16.Terms.length c14, .slice B15 r_16.Out.Rows.length c15]) (vs := [.int .i64 r_16.Qubits, .int .i64 r_16.Phase, .slice B14 r_16.Terms.length c14, .slice B15 r_16.Out.Rows.length c15]) (k := 0) (cs' := [.int .i64 r_16.Qubits, .int .i64 r_16.Phase, .slice B14 r_16.Terms.length c14, .slice B15 r_16.Out.Rows.length c15]) hS25 k_sz_50_4 rfl rfl rfl rfl rfl rfl rfl (Nat.le_of_ble_eq_true rfl) rfl rfl) ?_
                  rintro _ w_22 ⟨rfl, hS26⟩
                  have hS26 : ST w0 [] _ [⟨some ⟨b, 0, none⟩, 45, [.int .i64 aP.Qubits, .int .i64 aP.Phase, .slice B aP.Terms.length c, .slice B1 aP.Out.Rows.length c1], 4⟩, ⟨B2, 95, (r_2.Terms.flatMap enc_Term), c2 * 2⟩, ⟨B3, 3, (r_2.Out.Rows.flatMap encI), c3 * 1⟩, ⟨B4, 95, (r_3.Terms.flatMap enc_Term), c4 * 2⟩, ⟨B5, 3, (r_3.Out.Rows.flatMap encI), c5 * 1⟩, ⟨some ⟨b1, 0, none⟩, 50, [.int .i64 r_3.Qubits, .int .i64 r_3.Phase, .slice B4 r_3.Terms.length c4, .slice B5 r_3.Out.Rows.length c5], 4⟩, ⟨some ⟨b2, 0, none⟩, 50, [.int .i64 r_5.Qubits, .int .i64 r_5.Phase, .slice B6 r_5.Terms.length c6, .slice B7 r_5.Out.Rows.length c7], 4⟩, ⟨some ⟨b3, 0, none⟩, 50, [.int .i64 r_6.Qubits, .int .i64 r_6.Phase, .slice B8 r_6.Terms.length c8, .slice B9 r_6.Out.Rows.length c9], 4⟩, ⟨B10, 95, (r_9.Terms.flatMap enc_Term), c10 * 2⟩, ⟨B11, 3, (r_9.Out.Rows.flatMap encI), c11 * 1⟩, ⟨B6, 95, (m.flatMap enc_Term), c6 * 2⟩, ⟨B7, 3, (m1.flatMap encI), c7 * 1⟩, ⟨B8, 95, (m2.flatMap enc_Term), c8 * 2⟩, ⟨B9, 3, (m3.flatMap encI), c9 * 1⟩, ⟨B12, 95, (r_15.Terms.flatMap enc_Term), c12 * 2⟩, ⟨B13, 3, (r_15.Out.Rows.flatMap encI), c13 * 1⟩, ⟨B14, 95, (r_16.Terms.flatMap enc_Term), c14 * 2⟩, ⟨B15, 3, (r_16.Out.Rows.flatMap encI), c15 * 1⟩, ⟨some ⟨b4, 0, none⟩, 50, [.int .i64 r_16.Qubits, .int .i64 r_16.Phase, .slice B14 r_16.Terms.length c14, .slice B15 r_16.Out.Rows.length c15], 4⟩] [⟨B, (aP.Terms.flatMap enc_Term)⟩, ⟨B1, (aP.Out.Rows.flatMap encI)⟩] := hS26
                  refine sq 15 rfl rfl (Y_assign (v := .bool r_17) rfl rfl) ?_
                  refine rw_nil ?_
                  refine cw_seq ?_
                  refine cw_seq ?_
                  refine cw_region ?_
                  refine sq 84 rfl rfl (Y_loadA (B := some ⟨b4, 0, none⟩) (i := 0) (cs := [.int .i64 r_16.Qubits, .int .i64 r_16.Phase, .slice B14 r_16.Terms.length c14, .slice B15 r_16.Out.Rows.length c15]) (vs := [.int .i64 r_16.Qubits, .int .i64 r_16.Phase, .slice B14 r_16.Terms.length c14, .slice B15 r_16.Out.Rows.length c15]) k_ag_50 k_sz_50_4 rfl rfl (hS26.cf (i := 18) rfl) rfl rfl) ?_
                  refine sq 85 rfl rfl (Y_loadA (B := some ⟨b1, 0, none⟩) (i := 0) (cs := [.int .i64 r_3.Qubits, .int .i64 r_3.Phase, .slice B4 r_3.Terms.length c4, .slice B5 r_3.Out.Rows.length c5]) (vs := [.int .i64 r_3.Qubits, .int .i64 r_3.Phase, .slice B4 r_3.Terms.length c4, .slice B5 r_3.Out.Rows.length c5]) k_ag_50 k_sz_50_4 rfl rfl (hS26.cf (i := 5) rfl) rfl rfl) ?_
                  obtain ⟨r_18, hc14, hF12⟩ := bind_inv hF12
                  refine sc 86 rfl rfl (Yc_func (g := 20) (vs := [.agg #[.int .i64 r_16.Qubits, .int .i64 r_16.Phase, .slice B14 r_16.Terms.length c14, .slice B15 r_16.Out.Rows.length c15], .agg #[.int .i64 r_3.Qubits, .int .i64 r_3.Phase, .slice B4 r_3.Terms.length c4, .slice B5 r_3.Out.Rows.length c5]]) k_call_20 rfl (mc rfl (mc rfl mn)) (c_laws_eqPhasePoly r_16 r_3 B14 c14 r_16.Terms.length B15 c15 r_16.Out.Rows.length B4 c4 r_3.Terms.length B5 c5 r_3.Out.Rows.length _ rfl rfl rfl rfl (hS26.inn0 [(false, 16), (false, 17), (false, 3), (false, 4)] rfl) hc14)) ?_
                  rintro _ w_23 ⟨rfl, hd13⟩
                  have hS27 := hS26.out00 hd13
                  have hS27 : ST w0 [] _ [⟨some ⟨b, 0, none⟩, 45, [.int .i64 aP.Qubits, .int .i64 aP.Phase, .slice B aP.Terms.length c, .slice B1 aP.Out.Rows.length c1], 4⟩, ⟨B2, 95, (r_2.Terms.flatMap enc_Term), c2 * 2⟩, ⟨B3, 3, (r_2.Out.Rows.flatMap encI), c3 * 1⟩, ⟨B4, 95, (r_3.Terms.flatMap enc_Term), c4 * 2⟩, ⟨B5, 3, (r_3.Out.Rows.flatMap encI), c5 * 1⟩, ⟨some ⟨b1, 0, none⟩, 50, [.int .i64 r_3.Qubits, .int .i64 r_3.Phase, .slice B4 r_3.Terms.length c4, .slice B5 r_3.Out.Rows.length c5], 4⟩, ⟨some ⟨b2, 0, none⟩, 50, [.int .i64 r_5.Qubits, .int .i64 r_5.Phase, .slice B6 r_5.Terms.length c6, .slice B7 r_5.Out.Rows.length c7], 4⟩, ⟨some ⟨b3, 0, none⟩, 50, [.int .i64 r_6.Qubits, .int .i64 r_6.Phase, .slice B8 r_6.Terms.length c8, .slice B9 r_6.Out.Rows.length c9], 4⟩, ⟨B10, 95, (r_9.Terms.flatMap enc_Term), c10 * 2⟩, ⟨B11, 3, (r_9.Out.Rows.flatMap encI), c11 * 1⟩, ⟨B6, 95, (m.flatMap enc_Term), c6 * 2⟩, ⟨B7, 3, (m1.flatMap encI), c7 * 1⟩, ⟨B8, 95, (m2.flatMap enc_Term), c8 * 2⟩, ⟨B9, 3, (m3.flatMap encI), c9 * 1⟩, ⟨B12, 95, (r_15.Terms.flatMap enc_Term), c12 * 2⟩, ⟨B13, 3, (r_15.Out.Rows.flatMap encI), c13 * 1⟩, ⟨B14, 95, (r_16.Terms.flatMap enc_Term), c14 * 2⟩, ⟨B15, 3, (r_16.Out.Rows.flatMap encI), c15 * 1⟩, ⟨some ⟨b4, 0, none⟩, 50, [.int .i64 r_16.Qubits, .int .i64 r_16.Phase, .slice B14 r_16.Terms.length c14, .slice B15 r_16.Out.Rows.length c15], 4⟩] [⟨B, (aP.Terms.flatMap enc_Term)⟩, ⟨B1, (aP.Out.Rows.flatMap encI)⟩] := hS27
                  refine sq 87 rfl rfl (Y_not (p := r_18) rfl rfl) ?_
                  refine sq 88 rfl rfl (Y_move (v := .bool (!r_18)) rfl rfl) ?_
                  refine sgq 89 (B := (!(!r_18))) (v := .bool r_17) rfl rfl (wt_f (gd_of (t := 88) (by kernel_rfl) rfl)) (fun hg10 => (Y_move (v := .bool r_17) rfl rfl)) ?_
                  refine sgq 90 (B := (!(!r_18))) (v := .bool r_4) rfl rfl (wt_f (gd_of (t := 88) (by kernel_rfl) rfl)) (fun hg11 => (Y_move (v := .bool r_4) rfl rfl)) ?_
                  refine sgq 91 (B := (!(!r_18))) (v := .bool (!(r_17 == r_4))) rfl rfl (wt_f (gd_of (t := 88) (by kernel_rfl) rfl)) (fun hg12 => (Y_bne (p := r_17) (q := r_4) k_und_4 rfl (gv_of (B := (!(!r_18))) (v := .bool r_17) hg12) (gv_of (B := (!(!r_18))) (v := .bool r_4) hg12))) ?_
                  refine sq 92 rfl rfl (Y_or (b := (!r_18)) (z := (!(r_17 == r_4))) rfl rfl rfl rfl) ?_
                  refine rw_nil ?_
                  refine cw_cond (b := ((!r_18) || (!(r_17 == r_4)))) rfl (fun hb6 => ?_) (fun hb6 => ?_)
                  · skip
                    have hF13 := ct hF12 hb6
                    refine cw_seq ?_
                    refine cw_region ?_
                    refine sq 4 rfl rfl (Y_assign (v := .bool false) rfl rfl) ?_
                    refine rw_nil ?_
                    refine cw_ret ?_
                    obtain rfl := some_inj hF13
                    exact ret1 Try.results4 (v1 := .bool false) (resAt_tmp rfl) ⟨rfl, (ST.subR (R' := []) (hS27.sel [] rfl rfl) (fun _ h => by cases h))⟩
                  · skip
                    have hF14 := cf' hF12 hb6
                    refine cw_skip ?_
                    refine cw_seq ?_
                    refine cw_region ?_
                    refine sq 13 rfl rfl (Y_assign (v := .int .i64 1) rfl rfl) ?_
                    refine rw_nil ?_
                    refine cw_seq ?_
                    refine cw_region ?_
                    refine sq 93 rfl rfl (Y_loadA (B := some ⟨b3, 0, none⟩) (i := 0) (cs := [.int .i64 r_6.Qubits, .int .i64 r_6.Phase, .slice B8 r_6.Terms.length c8, .slice B9 r_6.Out.Rows.length c9]) (vs := [.int .i64 r_6.Qubits, .int .i64 r_6.Phase, .slice B8 r_6.Terms.length c8, .slice B9 r_6.Out.Rows.length c9]) k_ag_50 k_sz_50_4 rfl rfl (hS27.cf (i := 7) rfl) rfl rfl) ?_
                    refine sq 94 rfl rfl (Y_move (v := .int .i64 1) rfl rfl) ?_
                    obtain ⟨r_19, hc15, hF14⟩ := bind_inv hF14
                    refine sc 95 rfl rfl (Yc_func (g := 22) (vs := [.agg #[.int .i64 r_6.Qubits, .int .i64 r_6.Phase, .slice B8 r_6.Terms.length c8, .slice B9 r_6.Out.Rows.length c9], .int .i64 1]) k_call_22 rfl (mc rfl (mc rfl mn)) (c_laws_heldPhasePoly (TPhasePoly.mk r_6.Qubits r_6.Phase m2 (TLinear.mk m3)) 1 B8 c8 r_6.Terms.length B9 c9 r_6.Out.Rows.length _ hl2 hl3 (hS27.inn0 [(false, 12), (false, 13)] rfl) hc15)) ?_
                    rintro _ w_24 ⟨rfl, hd14⟩
                    have hS28 := hS27.out00 hd14
                    have hS28 : ST w0 [] _ [⟨some ⟨b, 0, none⟩, 45, [.int .i64 aP.Qubits, .int .i64 aP.Phase, .slice B aP.Terms.length c, .slice B1 aP.Out.Rows.length c1], 4⟩, ⟨B2, 95, (r_2.Terms.flatMap enc_Term), c2 * 2⟩, ⟨B3, 3, (r_2.Out.Rows.flatMap encI), c3 * 1⟩, ⟨B4, 95, (r_3.Terms.flatMap enc_Term), c4 * 2⟩, ⟨B5, 3, (r_3.Out.Rows.flatMap encI), c5 * 1⟩, ⟨some ⟨b1, 0, none⟩, 50, [.int .i64 r_3.Qubits, .int .i64 r_3.Phase, .slice B4 r_3.Terms.length c4, .slice B5 r_3.Out.Rows.length c5], 4⟩, ⟨some ⟨b2, 0, none⟩, 50, [.int .i64 r_5.Qubits, .int .i64 r_5.Phase, .slice B6 r_5.Terms.length c6, .slice B7 r_5.Out.Rows.length c7], 4⟩, ⟨some ⟨b3, 0, none⟩, 50, [.int .i64 r_6.Qubits, .int .i64 r_6.Phase, .slice B8 r_6.Terms.length c8, .slice B9 r_6.Out.Rows.length c9], 4⟩, ⟨B10, 95, (r_9.Terms.flatMap enc_Term), c10 * 2⟩, ⟨B11, 3, (r_9.Out.Rows.flatMap encI), c11 * 1⟩, ⟨B6, 95, (m.flatMap enc_Term), c6 * 2⟩, ⟨B7, 3, (m1.flatMap encI), c7 * 1⟩, ⟨B8, 95, (m2.flatMap enc_Term), c8 * 2⟩, ⟨B9, 3, (m3.flatMap encI), c9 * 1⟩, ⟨B12, 95, (r_15.Terms.flatMap enc_Term), c12 * 2⟩, ⟨B13, 3, (r_15.Out.Rows.flatMap encI), c13 * 1⟩, ⟨B14, 95, (r_16.Terms.flatMap enc_Term), c14 * 2⟩, ⟨B15, 3, (r_16.Out.Rows.flatMap encI), c15 * 1⟩, ⟨some ⟨b4, 0, none⟩, 50, [.int .i64 r_16.Qubits, .int .i64 r_16.Phase, .slice B14 r_16.Terms.length c14, .slice B15 r_16.Out.Rows.length c15], 4⟩] [⟨B, (aP.Terms.flatMap enc_Term)⟩, ⟨B1, (aP.Out.Rows.flatMap encI)⟩] := hS28
                    refine sq 13 rfl rfl (Y_assign (v := .int .i64 r_19) rfl rfl) ?_
                    refine rw_nil ?_
                    refine cw_seq ?_
                    refine cw_seq ?_
                    refine cw_region ?_
                    refine sq 96 rfl rfl (Y_move (v := .int .i64 r_19) rfl rfl) ?_
                    refine sq 97 rfl rfl (Y_lt (k := .i64) (a := r_19) (b := 0) rfl rfl rfl) ?_
                    refine rw_nil ?_
                    refine cw_cond (b := (decide (r_19 < 0))) rfl (fun hb7 => ?_) (fun hb7 => ?_)
                    · skip
                      have hF15 := ct hF14 hb7
                      refine cw_seq ?_
                      refine cw_region ?_
                      refine sq 4 rfl rfl (Y_assign (v := .bool false) rfl rfl) ?_
                      refine rw_nil ?_
                      refine cw_ret ?_
                      obtain rfl := some_inj hF15
                      exact ret1 Try.results4 (v1 := .bool false) (resAt_tmp rfl) ⟨rfl, (ST.subR (R' := []) (hS28.sel [] rfl rfl) (fun _ h => by cases h))⟩
                    · skip
                      have hF16 := cf' hF14 hb7
                      refine cw_skip ?_
                      refine cw_seq ?_
                      refine cw_seq ?_
                      refine cw_region ?_
                      refine sq 98 rfl rfl (Y_move (v := .int .i64 r_19) rfl rfl) ?_
                      refine sq 99 rfl rfl (Y_move (v := .int .i64 r_13) rfl rfl) ?_
                      refine sq 100 rfl rfl (Y_ne (k := .i64) (a := r_19) (b := r_13) rfl rfl rfl) ?_
                      refine rw_nil ?_
                      refine cw_cond (b := (r_19 != r_13)) rfl (fun hb8 => ?_) (fun hb8 => ?_)
                      · skip
                        have hF17 := ct hF16 hb8
                        refine cw_seq ?_
                        refine cw_region ?_
                        refine sq 4 rfl rfl (Y_assign (v := .bool false) rfl rfl) ?_
                        refine rw_nil ?_
                        refine cw_ret ?_
                        obtain rfl := some_inj hF17
                        exact ret1 Try.results4 (v1 := .bool false) (resAt_tmp rfl) ⟨rfl, (ST.subR (R' := []) (hS28.sel [] rfl rfl) (fun _ h => by cases h))⟩
                      · skip
                        have hF18 := cf' hF16 hb8
                        refine cw_skip ?_
                        refine cw_seq ?_
                        refine cw_region ?_
                        refine sq 4 rfl rfl (Y_assign (v := .bool true) rfl rfl) ?_
                        refine rw_nil ?_
                        refine cw_ret ?_
                        obtain rfl := some_inj hF18
                        exact ret1 Try.results4 (v1 := .bool true) (resAt_tmp rfl) ⟨rfl, (ST.subR (R' := []) (hS28.sel [] rfl rfl) (fun _ h => by cases h))⟩
        exact allR_nil
      exact allR_nil
end Go.VK
