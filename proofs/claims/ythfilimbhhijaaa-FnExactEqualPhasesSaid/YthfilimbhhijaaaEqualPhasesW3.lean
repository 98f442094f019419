/- Walks: each Go function returns what its Lean function says. By program. -/
import Derived.Test.YthfilimbhhijaaaEqualPhasesFa
import Derived.Test.YthfilimbhhijaaaEqualPhasesW2
set_option linter.unusedVariables false
set_option maxRecDepth 100000
set_option maxHeartbeats 1000000
namespace Go.VK
open Go.RowKit
open Go.Proofs
attribute [local irreducible] CW RW RA CV Y Yw Yc Ys RetOf
attribute [local irreducible] F_laws_szTermS F_laws_szIntS F_laws_szLinear F_laws_szPhasePoly F_laws_toTerm F_laws_toTermS F_laws_toIntS F_laws_toLinear F_laws_toPhasePoly F_laws_eqTerm F_laws_eqTermS F_laws_eqIntS F_laws_eqLinear F_laws_eqPhasePoly F_spec_l1In F_spec_l1All F_spec_l1Own F_spec_l12Rank F_spec_l12Valid F_spec_l13Valid F_spec_l13List F_spec_l1Set F_spec_l15Monomials F_spec_l1Same F_spec_l15SameTerms F_spec_EqualPhases F_impl_within F_impl_areTerms F_slices_IndexFunc_int_int F_slices_ContainsFunc_int_int F_impl_IsValidLinear_1 F_slices_Clone_int_int F_impl_rankOf_1 F_slices_Delete_int_int F_impl_rankOf F_impl_IsValidLinear F_impl_IsValidPhasePoly F_math_bits_OnesCount64 F_math_bits_OnesCount F_impl_bitsIn F_impl_coefficients_add F_impl_coefficients_terms F_impl_MonomialsOf F_slices_Equal_int_int F_slices_Equal_impl_Term_impl_Term F_impl_EqualPhases F_laws_FnExactEqualPhases
theorem c_slices_Equal_impl_Term_impl_Term (s1 : List TTerm) (s2 : List TTerm) (B : Option Addr) (c n : Nat) (B1 : Option Addr) (c1 n1 : Nat) (w0 : World) (hn : s1.length = n) (hn1 : s2.length = n1) (hS : ST w0 [] w0 [] [⟨B, (s1.flatMap enc_Term)⟩, ⟨B1, (s2.flatMap enc_Term)⟩]) {r_ : Bool} (hF : F_slices_Equal_impl_Term_impl_Term s1 s2 = some r_) :
    CV Try.prog 86 #[.slice B n c, .slice B1 n1 c1] w0 (fun v w' => v = .bool r_ ∧ ST w0 [] w' [] []) := by
  subst hn
  subst hn1
  unfold F_slices_Equal_impl_Term_impl_Term at hF
  refine cv_of_cw 26 Try.func86 rfl Try.ntmps86 rfl ?_
  refine cw_seq ?_
  refine cw_region ?_
  refine sq 4 rfl rfl (Y_assign (v := .bool false) rfl rfl) ?_
  refine rw_nil ?_
  refine cw_seq ?_
  refine cw_seq ?_
  refine cw_region ?_
  refine sq 6 rfl rfl (Y_move (v := .slice B s1.length c) rfl rfl) ?_
  refine sq 7 rfl rfl (Y_len (B := B) (m := s1.length) (c := c) k_sl_40_112 rfl rfl) ?_
  refine sq 8 rfl rfl (Y_move (v := .slice B1 s2.length c1) rfl rfl) ?_
  refine sq 9 rfl rfl (Y_len (B := B1) (m := s2.length) (c := c1) k_sl_40_112 rfl rfl) ?_
  refine sq 10 rfl rfl (Y_ne (k := .i64) (a := (s1.length : Int)) (b := (s2.length : Int)) rfl rfl rfl) ?_
  refine rw_nil ?_
  refine cw_cond (b := ((s1.length : Int) != (s2.length : Int))) rfl (fun hb => ?_) (fun hb => ?_)
  · skip
    have hF1 := ct hF hb
    refine cw_seq ?_
    refine cw_region ?_
    refine sq 4 rfl rfl (Y_assign (v := .bool false) rfl rfl) ?_
    refine rw_nil ?_
    refine cw_ret ?_
    obtain rfl := some_inj hF1
    exact ret1 Try.results86 (v1 := .bool false) (resAt_tmp rfl) ⟨rfl, (ST.subR (R' := []) (hS.sel [] rfl rfl) (fun _ h => by cases h))⟩
  · skip
    have hF2 := cf' hF hb
    refine cw_skip ?_
    refine cw_seq ?_
    refine cw_seq ?_
    refine cw_region ?_
    refine sq 11 rfl rfl (Y_move (v := .slice B s1.length c) rfl rfl) ?_
    refine sq 12 rfl rfl (Y_len (B := B) (m := s1.length) (c := c) k_sl_40_112 rfl rfl) ?_
    refine sq 13 rfl rfl (Y_move (v := .int .i64 0) rfl rfl) ?_
    refine rw_nil ?_
    obtain ⟨hN, hF2⟩ := chk_inv hF2
    obtain ⟨z, hz, hF3⟩ := bind_inv hF2
    refine cw_block ?_
    refine cw_loop (fun k f w => ∃ (i : Nat), FF f [(0, .slice B s1.length c), (1, .slice B1 s2.length c1), (12, .int .i64 (s1.length : Int)), (13, .int .i64 (i : Int))] ∧ ST w0 [] w [] [⟨B, (s1.flatMap enc_Term)⟩, ⟨B1, (s2.flatMap enc_Term)⟩] ∧ i + k = s1.length ∧ forX (F_slices_Equal_impl_Term_impl_Term_l1 s1 s2) k i () = some z) s1.length ⟨0, (FF.cons rfl (FF.cons rfl (FF.cons rfl (FF.cons rfl FF.nil)))), (hS.sel [] rfl rfl), Nat.zero_add _, hz⟩ ?_
    rintro k_ f w ⟨i, hf, hS1, hik, hL⟩
    refine cw_seq ?_
    refine cw_region ?_
    refine sq 14 rfl rfl (Y_lt (k := .i64) (a := (i : Int)) (b := (s1.length : Int)) rfl (hf.get 13 3 rfl) (hf.get 12 2 rfl)) ?_
    refine rw_nil ?_
    refine cw_seq ?_
    refine cw_cond (b := (decide ((i : Int) < (s1.length : Int)))) rfl (fun hlt => ?_) (fun hlt => ?_)
    · skip
      have hlt1 : i < s1.length := by have h := of_decide_eq_true hlt; omega
      obtain ⟨k_1, rfl⟩ : ∃ k2, k_ = k2 + 1 := ⟨k_ - 1, by omega⟩
      obtain ⟨y, hb1, hL1⟩ := forX_go hL
      unfold F_slices_Equal_impl_Term_impl_Term_l1 at hb1
      refine cw_skip ?_
      refine cw_seq ?_
      refine cw_block ?_
      refine cw_seq ?_
      refine cw_region ?_
      refine sq 15 rfl rfl (Y_move (v := .int .i64 (i : Int)) rfl (hf.get 13 3 rfl)) ?_
      refine sq 5 rfl rfl (Y_assign (v := .int .i64 (i : Int)) rfl rfl) ?_
      refine rw_nil ?_
      refine cw_seq ?_
      obtain ⟨x, hx, hb1⟩ := bind_inv hb1
      obtain ⟨x1, hx1, hb1⟩ := bind_inv hb1
      refine ra_start (ST.sel hS1 [] rfl rfl).fn (by kernel_rfl) ?_
      have hS2 := hS1.drew
      refine ra_q 0 16 (v := .slice B s1.length c) rfl rfl rfl (by kernel_rfl) (by kernel_rfl) (by kernel_rfl) (ST.sel hS2 [] rfl rfl) (fun w' hw' => (Y_move (v := .slice B s1.length c) rfl (hf.get 0 0 rfl))) ?_
      refine ra_q 1 17 (v := .int .i64 (i : Int)) rfl rfl rfl (by kernel_rfl) (by kernel_rfl) (by kernel_rfl) (ST.sel hS2 [] rfl rfl) (fun w' hw' => (Y_move (v := .int .i64 (i : Int)) rfl rfl)) ?_
      refine ra_q 2 18 (v := pt B ((i : Int).toNat * 2)) rfl rfl rfl (by kernel_rfl) (by kernel_rfl) (by kernel_rfl) (ST.sel hS2 [] rfl rfl) (fun w' hw' => (Y_index (B := B) (m := s1.length) (c := c) (k := .i64) (i := (i : Int)) k_sl_40_112 k_sz_112_2 rfl rfl rfl (gi_isSome enc_Term_len rfl (ST.rf hw' (i := 0) rfl) hx) (getI_nn hx) (getI_ltI hx rfl))) ?_
      refine ra_q 3 19 (v := .agg #[.int .i64 x.Mask, .int .i64 x.Coef]) rfl rfl rfl (by kernel_rfl) (by kernel_rfl) (by kernel_rfl) (ST.sel hS2 [] rfl rfl) (fun w' hw' => (Y_loadA (B := B) (i := (i : Int).toNat * 2) (cs := (s1.flatMap enc_Term)) (vs := [.int .i64 x.Mask, .int .i64 x.Coef]) k_ag_112 k_sz_112_2 rfl rfl (ST.rf hw' (i := 0) rfl) (enc_Term_len x) (gi_seg enc_Term_len hx))) ?_
      refine ra_q 4 20 (v := .slice B1 s2.length c1) rfl rfl rfl (by kernel_rfl) (by kernel_rfl) (by kernel_rfl) (ST.sel hS2 [] rfl rfl) (fun w' hw' => (Y_move (v := .slice B1 s2.length c1) rfl (hf.get 1 1 rfl))) ?_
      refine ra_q 5 21 (v := .int .i64 (i : Int)) rfl rfl rfl (by kernel_rfl) (by kernel_rfl) (by kernel_rfl) (ST.sel hS2 [] rfl rfl) (fun w' hw' => (Y_move (v := .int .i64 (i : Int)) rfl rfl)) ?_
      refine ra_q 6 22 (v := pt B1 ((i : Int).toNat * 2)) rfl rfl rfl (by kernel_rfl) (by kernel_rfl) (by kernel_rfl) (ST.sel hS2 [] rfl rfl) (fun w' hw' => (Y_index (B := B1) (m := s2.length) (c := c1) (k := .i64) (i := (i : Int)) k_sl_40_112 k_sz_112_2 rfl rfl rfl (gi_isSome enc_Term_len rfl (ST.rf hw' (i := 1) rfl) hx1) (getI_nn hx1) (getI_ltI hx1 rfl))) ?_
      refine ra_q 7 23 (v := .agg #[.int .i64 x1.Mask, .int .i64 x1.Coef]) rfl rfl rfl (by kernel_rfl) (by kernel_rfl) (by kernel_rfl) (ST.sel hS2 [] rfl rfl) (fun w' hw' => (Y_loadA (B := B1) (i := (i : Int).toNat * 2) (cs := (s2.flatMap enc_Term)) (vs := [.int .i64 x1.Mask, .int .i64 x1.Coef]) k_ag_112 k_sz_112_2 rfl rfl (ST.rf hw' (i := 1) rfl) (enc_Term_len x1) (gi_seg enc_Term_len hx1))) ?_
      refine ra_q 8 24 (v := .bool (!((x.Mask == x1.Mask) && ((x.Coef == x1.Coef) && true)))) rfl rfl rfl (by kernel_rfl) (by kernel_rfl) (by kernel_rfl) (ST.sel hS2 [] rfl rfl) (fun w' hw' => (Y_neA (xs := #[.int .i64 x.Mask, .int .i64 x.Coef]) (ys := #[.int .i64 x1.Mask, .int .i64 x1.Coef]) (b := ((x.Mask == x1.Mask) && ((x.Coef == x1.Coef) && true))) k_eg_112 rfl rfl rfl (eqr_struct (xs := [.int .i64 x.Mask, .int .i64 x.Coef]) (ys := [.int .i64 x1.Mask, .int .i64 x1.Coef]) k_st_112 k_ho_112 (pts_sc k_sc_3 rfl rfl (eqr_int k_int_3_i64) (pts_sc k_sc_3 rfl rfl (eqr_int k_int_3_i64) pts_nil))))) ?_
      refine ra_done (by kernel_rfl) ?_
      refine cw_cond (b := (!((x.Mask == x1.Mask) && ((x.Coef == x1.Coef) && true)))) rfl (fun hb2 => ?_) (fun hb2 => ?_)
      · skip
        have hF4 := ct hb1 hb2
        refine cw_seq ?_
        refine cw_region ?_
        refine sq 4 rfl rfl (Y_assign (v := .bool false) rfl rfl) ?_
        refine rw_nil ?_
        refine cw_ret ?_
        obtain rfl := some_inj hF4
        obtain rfl := some_inj hL1
        obtain rfl := some_inj hF3
        exact ret1 Try.results86 (v1 := .bool false) (resAt_tmp rfl) ⟨rfl, (ST.subR (R' := []) (hS2.sel [] rfl rfl) (fun _ h => by cases h))⟩
      · skip
        have hF5 := cf' hb1 hb2
        refine cw_skip ?_
        refine cw_region ?_
        refine sq 25 rfl rfl (Y_add (k := .i64) (a := (i : Int)) (b := 1) rfl (hf.get 13 3 rfl) rfl) ?_
        refine sq 13 rfl rfl (Y_move (v := .int .i64 (IntKind.i64.wrap ((i : Int) + 1))) rfl rfl) ?_
        refine rw_nil ?_
        obtain rfl := some_inj hF5
        exact ⟨k_1, Nat.lt_succ_self _, i + 1, (FF.cons (hf.get 0 0 rfl) (FF.cons (hf.get 1 1 rfl) (FF.cons (hf.get 12 2 rfl) (FF.cons (congrArg (Value.int .i64) (wr_succ hlt1 hN)) FF.nil)))), (hS2.sel [] rfl rfl), (by omega), hL1⟩
    · skip
      obtain rfl : k_ = 0 := by have h := of_decide_eq_false hlt; omega
      refine cw_exit rfl ?_
      obtain rfl := some_inj hL
      refine cw_seq ?_
      refine cw_region ?_
      refine sq 4 rfl rfl (Y_assign (v := .bool true) rfl rfl) ?_
      refine rw_nil ?_
      refine cw_ret ?_
      obtain rfl := some_inj hF3
      exact ret1 Try.results86 (v1 := .bool true) (resAt_tmp rfl) ⟨rfl, (ST.subR (R' := []) (hS1.sel [] rfl rfl) (fun _ h => by cases h))⟩

theorem c_impl_EqualPhases (p : TPhasePoly) (q : TPhasePoly) (B : Option Addr) (c n : Nat) (B1 : Option Addr) (c1 n1 : Nat) (B2 : Option Addr) (c2 n2 : Nat) (B3 : Option Addr) (c3 n3 : Nat) (w0 : World) (hn : p.Terms.length = n) (hn1 : p.Out.Rows.length = n1) (hn2 : q.Terms.length = n2) (hn3 : q.Out.Rows.length = n3) (hS : ST w0 [] w0 [] [⟨B, (p.Terms.flatMap enc_Term)⟩, ⟨B1, (p.Out.Rows.flatMap encI)⟩, ⟨B2, (q.Terms.flatMap enc_Term)⟩, ⟨B3, (q.Out.Rows.flatMap encI)⟩]) {r_ : Bool} {r_1 : Bool} (hF : F_impl_EqualPhases p q = some (r_, r_1)) :
    CV Try.prog 30 #[.agg #[.int .i64 p.Qubits, .int .i64 p.Phase, .slice B n c, .slice B1 n1 c1], .agg #[.int .i64 q.Qubits, .int .i64 q.Phase, .slice B2 n2 c2, .slice B3 n3 c3]] w0 (fun v w' => v = .tuple #[.bool r_, .bool r_1] ∧ ST w0 [] w' [] []) := by
  subst hn
  subst hn1
  subst hn2
  subst hn3
  unfold F_impl_EqualPhases at hF
  refine cv_of_cw 54 Try.func30 rfl Try.ntmps30 rfl ?_
  refine cw_seq ?_
  refine cw_region ?_
  refine ss 2 rfl rfl (Ys_box (T := 45) (v := .agg #[.int .i64 p.Qubits, .int .i64 p.Phase, .slice B p.Terms.length c, .slice B1 p.Out.Rows.length c1]) (cs := [.int .i64 p.Qubits, .int .i64 p.Phase, .slice B p.Terms.length c, .slice B1 p.Out.Rows.length c1]) (m := 4) hS rfl rfl rfl rfl) ?_
  rintro _ w_ ⟨b, rfl, hS1⟩
  refine ss 3 rfl rfl (Ys_box (T := 45) (v := .agg #[.int .i64 q.Qubits, .int .i64 q.Phase, .slice B2 q.Terms.length c2, .slice B3 q.Out.Rows.length c3]) (cs := [.int .i64 q.Qubits, .int .i64 q.Phase, .slice B2 q.Terms.length c2, .slice B3 q.Out.Rows.length c3]) (m := 4) hS1 rfl rfl rfl rfl) ?_
  rintro _ w_1 ⟨b1, rfl, hS2⟩
  have hS2 : ST w0 [] _ [⟨some ⟨b, 0, none⟩, 45, [.int .i64 p.Qubits, .int .i64 p.Phase, .slice B p.Terms.length c, .slice B1 p.Out.Rows.length c1], 4⟩, ⟨some ⟨b1, 0, none⟩, 45, [.int .i64 q.Qubits, .int .i64 q.Phase, .slice B2 q.Terms.length c2, .slice B3 q.Out.Rows.length c3], 4⟩] [⟨B, (p.Terms.flatMap enc_Term)⟩, ⟨B1, (p.Out.Rows.flatMap encI)⟩, ⟨B2, (q.Terms.flatMap enc_Term)⟩, ⟨B3, (q.Out.Rows.flatMap encI)⟩] := hS2
  refine sq 4 rfl rfl (Y_assign (v := .bool false) rfl rfl) ?_
  refine sq 5 rfl rfl (Y_assign (v := .bool false) rfl rfl) ?_
  refine rw_nil ?_
  refine cw_seq ?_
  refine cw_seq ?_
  refine cw_region ?_
  refine sq 10 rfl rfl (Y_loadA (B := some ⟨b, 0, none⟩) (i := 0) (cs := [.int .i64 p.Qubits, .int .i64 p.Phase, .slice B p.Terms.length c, .slice B1 p.Out.Rows.length c1]) (vs := [.int .i64 p.Qubits, .int .i64 p.Phase, .slice B p.Terms.length c, .slice B1 p.Out.Rows.length c1]) k_ag_45 k_sz_45_4 rfl rfl (hS2.cf (i := 0) rfl) rfl rfl) ?_
  obtain ⟨r_2, hc, hF⟩ := bind_inv hF
  refine sc 11 rfl rfl (Yc_func (g := 76) (vs := [.agg #[.int .i64 p.Qubits, .int .i64 p.Phase, .slice B p.Terms.length c, .slice B1 p.Out.Rows.length c1]]) k_call_76 rfl (mc rfl mn) (c_impl_IsValidPhasePoly p B c p.Terms.length B1 c1 p.Out.Rows.length _ rfl rfl (hS2.inn0 [(true, 0), (true, 1)] rfl) hc)) ?_
  rintro _ w_2 ⟨rfl, hd⟩
  have hS3 := hS2.out00 hd
  have hS3 : ST w0 [] _ [⟨some ⟨b, 0, none⟩, 45, [.int .i64 p.Qubits, .int .i64 p.Phase, .slice B p.Terms.length c, .slice B1 p.Out.Rows.length c1], 4⟩, ⟨some ⟨b1, 0, none⟩, 45, [.int .i64 q.Qubits, .int .i64 q.Phase, .slice B2 q.Terms.length c2, .slice B3 q.Out.Rows.length c3], 4⟩] [⟨B, (p.Terms.flatMap enc_Term)⟩, ⟨B1, (p.Out.Rows.flatMap encI)⟩, ⟨B2, (q.Terms.flatMap enc_Term)⟩, ⟨B3, (q.Out.Rows.flatMap encI)⟩] := hS3
  refine sq 12 rfl rfl (Y_not (p := r_2) rfl rfl) ?_
  refine sq 13 rfl rfl (Y_move (v := .bool (!r_2)) rfl rfl) ?_
  refine sgq 14 (B := (!(!r_2))) (v := .agg #[.int .i64 q.Qubits, .int .i64 q.Phase, .slice B2 q.Terms.length c2, .slice B3 q.Out.Rows.length c3]) rfl rfl (wt_f (gd_of (t := 13) (by kernel_rfl) rfl)) (fun hg => (Y_loadA (B := some ⟨b1, 0, none⟩) (i := 0) (cs := [.int .i64 q.Qubits, .int .i64 q.Phase, .slice B2 q.Terms.length c2, .slice B3 q.Out.Rows.length c3]) (vs := [.int .i64 q.Qubits, .int .i64 q.Phase, .slice B2 q.Terms.length c2, .slice B3 q.Out.Rows.length c3]) k_ag_45 k_sz_45_4 rfl rfl (hS3.cf (i := 1) rfl) rfl rfl)) ?_
  obtain ⟨r_3, hc1, hF⟩ := bind_inv hF
  refine sgc 15 (B := (!(!r_2))) (v := .bool r_3) (F := hS3.fn) rfl rfl (wt_f (gd_of (t := 13) (by kernel_rfl) rfl)) hS3 (fun hg1 => (Yc_func (g := 76) (vs := [.agg #[.int .i64 q.Qubits, .int .i64 q.Phase, .slice B2 q.Terms.length c2, .slice B3 q.Out.Rows.length c3]]) k_call_76 rfl (mc (gv_of (B := (!(!r_2))) (v := .agg #[.int .i64 q.Qubits, .int .i64 q.Phase, .slice B2 q.Terms.length c2, .slice B3 q.Out.Rows.length c3]) hg1) mn) (CV.mono (c_impl_IsValidPhasePoly q B2 c2 q.Terms.length B3 c3 q.Out.Rows.length _ rfl rfl (hS3.inn0 [(true, 2), (true, 3)] rfl) (gb_inv hc1 hg1)) (by rintro _ _ ⟨rfl, h⟩; exact ⟨rfl, hS3.out00 h⟩)))) ?_
  rintro w_3 hS4
  have hS4 : ST _ _ w_3 _ _ := hS4
  refine sgq 16 (B := (!(!r_2))) (v := .bool (!r_3)) rfl rfl (wt_f (gd_of (t := 13) (by kernel_rfl) rfl)) (fun hg2 => (Y_not (p := r_3) rfl (gv_of (B := (!(!r_2))) (v := .bool r_3) hg2))) ?_
  refine sq 17 rfl rfl (Y_or (b := (!r_2)) (z := (!r_3)) rfl rfl rfl rfl) ?_
  refine sq 18 rfl rfl (Y_move (v := .bool ((!r_2) || (!r_3))) rfl rfl) ?_
  refine sgq 19 (B := (!((!r_2) || (!r_3)))) (v := pt (some ⟨b, 0, none⟩) 0) rfl rfl (wt_f (gd_of (t := 18) (by kernel_rfl) rfl)) (fun hg3 => (Y_fieldAddr (B := some ⟨b, 0, none⟩) (i := 0) (s := 0) k_fd_45_0_0_3 k_sz_3_1 rfl rfl)) ?_
  refine sgq 20 (B := (!((!r_2) || (!r_3)))) (v := .int .i64 p.Qubits) rfl rfl (wt_f (gd_of (t := 18) (by kernel_rfl) rfl)) (fun hg4 => (Y_load1 (B := some ⟨b, 0, none⟩) (i := 0) (cs := [.int .i64 p.Qubits, .int .i64 p.Phase, .slice B p.Terms.length c, .slice B1 p.Out.Rows.length c1]) (v := .int .i64 p.Qubits) k_sc_3 rfl (gv_of (B := (!((!r_2) || (!r_3)))) (v := pt (some ⟨b, 0, none⟩) 0) hg4) (hS4.cf (i := 0) rfl) rfl)) ?_
  refine sgq 21 (B := (!((!r_2) || (!r_3)))) (v := pt (some ⟨b1, 0, none⟩) 0) rfl rfl (wt_f (gd_of (t := 18) (by kernel_rfl) rfl)) (fun hg5 => (Y_fieldAddr (B := some ⟨b1, 0, none⟩) (i := 0) (s := 0) k_fd_45_0_0_3 k_sz_3_1 rfl rfl)) ?_
  refine sgq 22 (B := (!((!r_2) || (!r_3)))) (v := .int .i64 q.Qubits) rfl rfl (wt_f (gd_of (t := 18) (by kernel_rfl) rfl)) (fun hg6 => (Y_load1 (B := some ⟨b1, 0, none⟩) (i := 0) (cs := [.int .i64 q.Qubits, .int .i64 q.Phase, .slice B2 q.Terms.length c2, .slice B3 q.Out.Rows.length c3]) (v := .int .i64 q.Qubits) k_sc_3 rfl (gv_of (B := (!((!r_2) || (!r_3)))) (v := pt (some ⟨b1, 0, none⟩) 0) hg6) (hS4.cf (i := 1) rfl) rfl)) ?_
  refine sgq 23 (B := (!((!r_2) || (!r_3)))) (v := .bool (p.Qubits != q.Qubits)) rfl rfl (wt_f (gd_of (t := 18) (by kernel_rfl) rfl)) (fun hg7 => (Y_ne (k := .i64) (a := p.Qubits) (b := q.Qubits) rfl (gv_of (B := (!((!r_2) || (!r_3)))) (v := .int .i64 p.Qubits) hg7) (gv_of (B := (!((!r_2) || (!r_3)))) (v := .int .i64 q.Qubits) hg7))) ?_
  refine sq 24 rfl rfl (Y_or (b := ((!r_2) || (!r_3))) (z := (p.Qubits != q.Qubits)) rfl rfl rfl rfl) ?_
  refine rw_nil ?_
  refine cw_cond (b := (((!r_2) || (!r_3)) || (p.Qubits != q.Qubits))) rfl (fun hb => ?_) (fun hb => ?_)
  · skip
    have hF1 := ct hF hb
    refine cw_seq ?_
    refine cw_region ?_
    refine sq 4 rfl rfl (Y_assign (v := .bool false) rfl rfl) ?_
    refine sq 5 rfl rfl (Y_assign (v := .bool false) rfl rfl) ?_
    refine rw_nil ?_
    refine cw_ret ?_
    obtain ⟨rfl, rfl⟩ := pr2 (some_inj hF1)
    exact ret2 Try.results30 (v1 := .bool false) (resAt_tmp rfl) (v2 := .bool false) (resAt_tmp rfl) ⟨rfl, (ST.subR (R' := []) (hS4.sel [] rfl rfl) (fun _ h => by cases h))⟩
  · skip
    have hF2 := cf' hF hb
    refine cw_skip ?_
    refine cw_seq ?_
    refine cw_region ?_
    refine sq 26 rfl rfl (Y_loadA (B := some ⟨b, 0, none⟩) (i := 0) (cs := [.int .i64 p.Qubits, .int .i64 p.Phase, .slice B p.Terms.length c, .slice B1 p.Out.Rows.length c1]) (vs := [.int .i64 p.Qubits, .int .i64 p.Phase, .slice B p.Terms.length c, .slice B1 p.Out.Rows.length c1]) k_ag_45 k_sz_45_4 rfl rfl (hS4.cf (i := 0) rfl) rfl rfl) ?_
    obtain ⟨⟨r_4, r_5⟩, hc2, hF2⟩ := bind_inv hF2
    refine sc 27 rfl rfl (Yc_func (g := 23) (vs := [.agg #[.int .i64 p.Qubits, .int .i64 p.Phase, .slice B p.Terms.length c, .slice B1 p.Out.Rows.length c1]]) k_call_23 rfl (mc rfl mn) (c_impl_MonomialsOf p B c p.Terms.length B1 c1 p.Out.Rows.length _ rfl rfl (hS4.inn0 [(true, 0), (true, 1)] rfl) hc2)) ?_
    rintro _ w_4 ⟨B4, c4, rfl, hd1⟩
    have hS5 := hS4.out0 hd1
    have hS5 : ST w0 [] _ [⟨some ⟨b, 0, none⟩, 45, [.int .i64 p.Qubits, .int .i64 p.Phase, .slice B p.Terms.length c, .slice B1 p.Out.Rows.length c1], 4⟩, ⟨some ⟨b1, 0, none⟩, 45, [.int .i64 q.Qubits, .int .i64 q.Phase, .slice B2 q.Terms.length c2, .slice B3 q.Out.Rows.length c3], 4⟩, ⟨B4, 112, (r_4.flatMap enc_Term), c4 * 2⟩] [⟨B, (p.Terms.flatMap enc_Term)⟩, ⟨B1, (p.Out.Rows.flatMap encI)⟩, ⟨B2, (q.Terms.flatMap enc_Term)⟩, ⟨B3, (q.Out.Rows.flatMap encI)⟩] := hS5
    refine sq 25 rfl rfl (Y_move (v := .tuple #[.slice B4 r_4.length c4, .bool r_5]) rfl rfl) ?_
    refine sq 28 rfl rfl (Y_extract (v := .slice B4 r_4.length c4) rfl rfl rfl) ?_
    refine sq 29 rfl rfl (Y_extract (v := .bool r_5) rfl rfl rfl) ?_
    refine sq 6 rfl rfl (Y_assign (v := .slice B4 r_4.length c4) rfl rfl) ?_
    refine sq 7 rfl rfl (Y_assign (v := .bool r_5) rfl rfl) ?_
    refine rw_nil ?_
    refine cw_seq ?_
    refine cw_region ?_
    refine sq 31 rfl rfl (Y_loadA (B := some ⟨b1, 0, none⟩) (i := 0) (cs := [.int .i64 q.Qubits, .int .i64 q.Phase, .slice B2 q.Terms.length c2, .slice B3 q.Out.Rows.length c3]) (vs := [.int .i64 q.Qubits, .int .i64 q.Phase, .slice B2 q.Terms.length c2, .slice B3 q.Out.Rows.length c3]) k_ag_45 k_sz_45_4 rfl rfl (hS5.cf (i := 1) rfl) rfl rfl) ?_
    obtain ⟨⟨r_6, r_7⟩, hc3, hF2⟩ := bind_inv hF2
    refine sc 32 rfl rfl (Yc_func (g := 23) (vs := [.agg #[.int .i64 q.Qubits, .int .i64 q.Phase, .slice B2 q.Terms.length c2, .slice B3 q.Out.Rows.length c3]]) k_call_23 rfl (mc rfl mn) (c_impl_MonomialsOf q B2 c2 q.Terms.length B3 c3 q.Out.Rows.length _ rfl rfl (hS5.inn0 [(true, 2), (true, 3)] rfl) hc3)) ?_
    rintro _ w_5 ⟨B5, c5, rfl, hd2⟩
    have hS6 := hS5.out0 hd2
    have hS6 : ST w0 [] _ [⟨some ⟨b, 0, none⟩, 45, [.int .i64 p.Qubits, .int .i64 p.Phase, .slice B p.Terms.length c, .slice B1 p.Out.Rows.length c1], 4⟩, ⟨some ⟨b1, 0, none⟩, 45, [.int .i64 q.Qubits, .int .i64 q.Phase, .slice B2 q.Terms.length c2, .slice B3 q.Out.Rows.length c3], 4⟩, ⟨B4, 112, (r_4.flatMap enc_Term), c4 * 2⟩, ⟨B5, 112, (r_6.flatMap enc_Term), c5 * 2⟩] [⟨B, (p.Terms.flatMap enc_Term)⟩, ⟨B1, (p.Out.Rows.flatMap encI)⟩, ⟨B2, (q.Terms.flatMap enc_Term)⟩, ⟨B3, (q.Out.Rows.flatMap encI)⟩] := hS6
    refine sq 30 rfl rfl (Y_move (v := .tuple #[.slice B5 r_6.length c5, .bool r_7]) rfl rfl) ?_
    refine sq 33 rfl rfl (Y_extract (v := .slice B5 r_6.length c5) rfl rfl rfl) ?_
    refine sq 34 rfl rfl (Y_extract (v := .bool r_7) rfl rfl rfl) ?_
    refine sq 8 rfl rfl (Y_assign (v := .slice B5 r_6.length c5) rfl rfl) ?_
    refine sq 9 rfl rfl (Y_assign (v := .bool r_7) rfl rfl) ?_
    refine rw_nil ?_
    refine cw_seq ?_
    refine cw_region ?_
    refine sq 35 rfl rfl (Y_fieldAddr (B := some ⟨b, 0, none⟩) (i := 0) (s := 0) k_fd_45_1_1_3 k_sz_3_1 rfl rfl) ?_
    refine sq 36 rfl rfl (Y_load1 (B := some ⟨b, 0, none⟩) (i := 1) (cs := [.int .i64 p.Qubits, .int .i64 p.Phase, .slice B p.Terms.length c, .slice B1 p.Out.Rows.length c1]) (v := .int .i64 p.Phase) k_sc_3 rfl rfl (hS6.cf (i := 0) rfl) rfl) ?_
    refine sq 37 rfl rfl (Y_fieldAddr (B := some ⟨b1, 0, none⟩) (i := 0) (s := 0) k_fd_45_1_1_3 k_sz_3_1 rfl rfl) ?_
    refine sq 38 rfl rfl (Y_load1 (B := some ⟨b1, 0, none⟩) (i := 1) (cs := [.int .i64 q.Qubits, .int .i64 q.Phase, .slice B2 q.Terms.length c2, .slice B3 q.Out.Rows.length c3]) (v := .int .i64 q.Phase) k_sc_3 rfl rfl (hS6.cf (i := 1) rfl) rfl) ?_
    refine sq 39 rfl rfl (Y_eq (k := .i64) (a := p.Phase) (b := q.Phase) rfl rfl rfl) ?_
    refine sq 40 rfl rfl (Y_move (v := .bool (p.Phase == q.Phase)) rfl rfl) ?_
    refine sgq 41 (B := (p.Phase == q.Phase)) (v := pt (some ⟨b, 0, none⟩) 3) rfl rfl (wt_t (gd_of (t := 40) (by kernel_rfl) rfl)) (fun hg8 => (Y_fieldAddr (B := some ⟨b, 0, none⟩) (i := 0) (s := 0) k_fd_45_3_3_43 k_sz_43_1 rfl rfl)) ?_
    refine sgq 42 (B := (p.Phase == q.Phase)) (v := pt (some ⟨b, 0, none⟩) 3) rfl rfl (wt_t (gd_of (t := 40) (by kernel_rfl) rfl)) (fun hg9 => (Y_fieldAddr (B := some ⟨b, 0, none⟩) (i := 3) (s := 0) k_fd_43_0_0_34 k_sz_34_1 rfl (gv_of (B := (p.Phase == q.Phase)) (v := pt (some ⟨b, 0, none⟩) 3) hg9))) ?_
    refine sgq 43 (B := (p.Phase == q.Phase)) (v := .slice B1 p.Out.Rows.length c1) rfl rfl (wt_t (gd_of (t := 40) (by kernel_rfl) rfl)) (fun hg10 => (Y_load1 (B := some ⟨b, 0, none⟩) (i := 3) (cs := [.int .i64 p.Qubits, .int .i64 p.Phase, .slice B p.Terms.length c, .slice B1 p.Out.Rows.length c1]) (v := .slice B1 p.Out.Rows.length c1) k_sc_34 rfl (gv_of (B := (p.Phase == q.Phase)) (v := pt (some ⟨b, 0, none⟩) 3) hg10) (hS6.cf (i := 0) rfl) rfl)) ?_
    refine sgq 44 (B := (p.Phase == q.Phase)) (v := pt (some ⟨b1, 0, none⟩) 3) rfl rfl (wt_t (gd_of (t := 40) (by kernel_rfl) rfl)) (fun hg11 => (Y_fieldAddr (B := some ⟨b1, 0, none⟩) (i := 0) (s := 0) k_fd_45_3_3_43 k_sz_43_1 rfl rfl)) ?_
    refine sgq 45 (B := (p.Phase == q.Phase)) (v := pt (some ⟨b1, 0, none⟩) 3) rfl rfl (wt_t (gd_of (t := 40) (by kernel_rfl) rfl)) (fun hg12 => (Y_fieldAddr (B := some ⟨b1, 0, none⟩) (i := 3) (s := 0) k_fd_43_0_0_34 k_sz_34_1 rfl (gv_of (B := (p.Phase == q.Phase)) (v := pt (some ⟨b1, 0, none⟩) 3) hg12))) ?_
    refine sgq 46 (B := (p.Phase == q.Phase)) (v := .slice B3 q.Out.Rows.length c3) rfl rfl (wt_t (gd_of (t := 40) (by kernel_rfl) rfl)) (fun hg13 => (Y_load1 (B := some ⟨b1, 0, none⟩) (i := 3) (cs := [.int .i64 q.Qubits, .int .i64 q.Phase, .slice B2 q.Terms.length c2, .slice B3 q.Out.Rows.length c3]) (v := .slice B3 q.Out.Rows.length c3) k_sc_34 rfl (gv_of (B := (p.Phase == q.Phase)) (v := pt (some ⟨b1, 0, none⟩) 3) hg13) (hS6.cf (i := 1) rfl) rfl)) ?_
    obtain ⟨r_8, hc4, hF2⟩ := bind_inv hF2
    refine sgc 47 (B := (p.Phase == q.Phase)) (v := .bool r_8) (F := hS6.fn) rfl rfl (wt_t (gd_of (t := 40) (by kernel_rfl) rfl)) hS6 (fun hg14 => (Yc_func (g := 85) (vs := [.slice B1 p.Out.Rows.length c1, .slice B3 q.Out.Rows.length c3]) k_call_85 rfl (mc (gv_of (B := (p.Phase == q.Phase)) (v := .slice B1 p.Out.Rows.length c1) hg14) (mc (gv_of (B := (p.Phase == q.Phase)) (v := .slice B3 q.Out.Rows.length c3) hg14) mn)) (CV.mono (c_slices_Equal_int_int p.Out.Rows q.Out.Rows B1 c1 p.Out.Rows.length B3 c3 q.Out.Rows.length _ rfl rfl (hS6.inn0 [(true, 1), (true, 3)] rfl) (gb_inv hc4 hg14)) (by rintro _ _ ⟨rfl, h⟩; exact ⟨rfl, hS6.out00 h⟩)))) ?_
    rintro w_6 hS7
    have hS7 : ST _ _ w_6 _ _ := hS7
    refine sq 48 rfl rfl (Y_and (b := (p.Phase == q.Phase)) (z := r_8) rfl rfl rfl rfl) ?_
    refine sq 49 rfl rfl (Y_move (v := .bool ((p.Phase == q.Phase) && r_8)) rfl rfl) ?_
    refine sgq 50 (B := ((p.Phase == q.Phase) && r_8)) (v := .slice B4 r_4.length c4) rfl rfl (wt_t (gd_of (t := 49) (by kernel_rfl) rfl)) (fun hg15 => (Y_move (v := .slice B4 r_4.length c4) rfl rfl)) ?_
    refine sgq 51 (B := ((p.Phase == q.Phase) && r_8)) (v := .slice B5 r_6.length c5) rfl rfl (wt_t (gd_of (t := 49) (by kernel_rfl) rfl)) (fun hg16 => (Y_move (v := .slice B5 r_6.length c5) rfl rfl)) ?_
    obtain ⟨r_9, hc5, hF2⟩ := bind_inv hF2
    refine sgc 52 (B := ((p.Phase == q.Phase) && r_8)) (v := .bool r_9) (F := hS7.fn) rfl rfl (wt_t (gd_of (t := 49) (by kernel_rfl) rfl)) hS7 (fun hg17 => (Yc_func (g := 86) (vs := [.slice B4 r_4.length c4, .slice B5 r_6.length c5]) k_call_86 rfl (mc (gv_of (B := ((p.Phase == q.Phase) && r_8)) (v := .slice B4 r_4.length c4) hg17) (mc (gv_of (B := ((p.Phase == q.Phase) && r_8)) (v := .slice B5 r_6.length c5) hg17) mn)) (CV.mono (c_slices_Equal_impl_Term_impl_Term r_4 r_6 B4 c4 r_4.length B5 c5 r_6.length _ rfl rfl (hS7.inn0 [(false, 2), (false, 3)] rfl) (gb_inv hc5 hg17)) (by rintro _ _ ⟨rfl, h⟩; exact ⟨rfl, hS7.out00 h⟩)))) ?_
    rintro w_7 hS8
    have hS8 : ST _ _ w_7 _ _ := hS8
    refine sq 53 rfl rfl (Y_and (b := ((p.Phase == q.Phase) && r_8)) (z := r_9) rfl rfl rfl rfl) ?_
    refine sq 4 rfl rfl (Y_assign (v := .bool (((p.Phase == q.Phase) && r_8) && r_9)) rfl rfl) ?_
    refine sq 5 rfl rfl (Y_assign (v := .bool true) rfl rfl) ?_
    refine rw_nil ?_
    refine cw_ret ?_
    obtain ⟨rfl, rfl⟩ := pr2 (some_inj hF2)
    exact ret2 Try.results30 (v1 := .bool (((p.Phase == q.Phase) && r_8) && r_9)) (resAt_tmp rfl) (v2 := .bool true) (resAt_tmp rfl) ⟨rfl, (ST.subR (R' := []) (hS8.sel [] rfl rfl) (fun _ h => by cases h))⟩

theorem c_laws_FnExactEqualPhases (aP : TPhasePoly) (aQ : TPhasePoly) (B : Option Addr) (c n : Nat) (B1 : Option Addr) (c1 n1 : Nat) (B2 : Option Addr) (c2 n2 : Nat) (B3 : Option Addr) (c3 n3 : Nat) (w0 : World) (hn : aP.Terms.length = n) (hn1 : aP.Out.Rows.length = n1) (hn2 : aQ.Terms.length = n2) (hn3 : aQ.Out.Rows.length = n3) (hS : ST w0 [] w0 [] [⟨B, (aP.Terms.flatMap enc_Term)⟩, ⟨B1, (aP.Out.Rows.flatMap encI)⟩, ⟨B2, (aQ.Terms.flatMap enc_Term)⟩, ⟨B3, (aQ.Out.Rows.flatMap encI)⟩]) {r_ : Bool} (hF : F_laws_FnExactEqualPhases aP aQ = some r_) :
    CV Try.prog 5 #[.agg #[.int .i64 aP.Qubits, .int .i64 aP.Phase, .slice B n c, .slice B1 n1 c1], .agg #[.int .i64 aQ.Qubits, .int .i64 aQ.Phase, .slice B2 n2 c2, .slice B3 n3 c3]] w0 (fun v w' => v = .bool r_ ∧ ST w0 [] w' [] []) := by
  subst hn
  subst hn1
  subst hn2
  subst hn3
  unfold F_laws_FnExactEqualPhases at hF
  refine cv_of_cw 58 Try.func5 rfl Try.ntmps5 rfl ?_
  refine cw_seq ?_
  refine cw_region ?_
  refine ss 2 rfl rfl (Ys_box (T := 38) (v := .agg #[.int .i64 aP.Qubits, .int .i64 aP.Phase, .slice B aP.Terms.length c, .slice B1 aP.Out.Rows.length c1]) (cs := [.int .i64 aP.Qubits, .int .i64 aP.Phase, .slice B aP.Terms.length c, .slice B1 aP.Out.Rows.length c1]) (m := 4) hS rfl rfl rfl rfl) ?_
  rintro _ w_ ⟨b, rfl, hS1⟩
  refine ss 3 rfl rfl (Ys_box (T := 38) (v := .agg #[.int .i64 aQ.Qubits, .int .i64 aQ.Phase, .slice B2 aQ.Terms.length c2, .slice B3 aQ.Out.Rows.length c3]) (cs := [.int .i64 aQ.Qubits, .int .i64 aQ.Phase, .slice B2 aQ.Terms.length c2, .slice B3 aQ.Out.Rows.length c3]) (m := 4) hS1 rfl rfl rfl rfl) ?_
  rintro _ w_1 ⟨b1, rfl, hS2⟩
  have hS2 : ST w0 [] _ [⟨some ⟨b, 0, none⟩, 38, [.int .i64 aP.Qubits, .int .i64 aP.Phase, .slice B aP.Terms.length c, .slice B1 aP.Out.Rows.length c1], 4⟩, ⟨some ⟨b1, 0, none⟩, 38, [.int .i64 aQ.Qubits, .int .i64 aQ.Phase, .slice B2 aQ.Terms.length c2, .slice B3 aQ.Out.Rows.length c3], 4⟩] [⟨B, (aP.Terms.flatMap enc_Term)⟩, ⟨B1, (aP.Out.Rows.flatMap encI)⟩, ⟨B2, (aQ.Terms.flatMap enc_Term)⟩, ⟨B3, (aQ.Out.Rows.flatMap encI)⟩] := hS2
  refine sq 4 rfl rfl (Y_assign (v := .bool false) rfl rfl) ?_
  refine rw_nil ?_
  refine cw_seq ?_
  refine cw_region ?_
  refine sq 5 rfl rfl (Y_assign (v := .int .i64 1048576) rfl rfl) ?_
  refine rw_nil ?_
  refine cw_seq ?_
  refine cw_region ?_
  refine sq 12 rfl rfl (Y_loadA (B := some ⟨b, 0, none⟩) (i := 0) (cs := [.int .i64 aP.Qubits, .int .i64 aP.Phase, .slice B aP.Terms.length c, .slice B1 aP.Out.Rows.length c1]) (vs := [.int .i64 aP.Qubits, .int .i64 aP.Phase, .slice B aP.Terms.length c, .slice B1 aP.Out.Rows.length c1]) k_ag_38 k_sz_38_4 rfl rfl (hS2.cf (i := 0) rfl) rfl rfl) ?_
  refine sq 13 rfl rfl (Y_move (v := .int .i64 1048576) rfl rfl) ?_
  obtain ⟨r_1, hc, hF⟩ := bind_inv hF
  refine sc 14 rfl rfl (Yc_func (g := 20) (vs := [.agg #[.int .i64 aP.Qubits, .int .i64 aP.Phase, .slice B aP.Terms.length c, .slice B1 aP.Out.Rows.length c1], .int .i64 1048576]) k_call_20 rfl (mc rfl (mc rfl mn)) (c_laws_szPhasePoly aP 1048576 B c aP.Terms.length B1 c1 aP.Out.Rows.length _ rfl rfl (hS2.inn0 [(true, 0), (true, 1)] rfl) hc)) ?_
  rintro _ w_2 ⟨rfl, hd⟩
  have hS3 := hS2.out00 hd
  have hS3 : ST w0 [] _ [⟨some ⟨b, 0, none⟩, 38, [.int .i64 aP.Qubits, .int .i64 aP.Phase, .slice B aP.Terms.length c, .slice B1 aP.Out.Rows.length c1], 4⟩, ⟨some ⟨b1, 0, none⟩, 38, [.int .i64 aQ.Qubits, .int .i64 aQ.Phase, .slice B2 aQ.Terms.length c2, .slice B3 aQ.Out.Rows.length c3], 4⟩] [⟨B, (aP.Terms.flatMap enc_Term)⟩, ⟨B1, (aP.Out.Rows.flatMap encI)⟩, ⟨B2, (aQ.Terms.flatMap enc_Term)⟩, ⟨B3, (aQ.Out.Rows.flatMap encI)⟩] := hS3
  refine sq 5 rfl rfl (Y_assign (v := .int .i64 r_1) rfl rfl) ?_
  refine rw_nil ?_
  refine cw_seq ?_
  refine cw_seq ?_
  refine cw_region ?_
  refine sq 15 rfl rfl (Y_move (v := .int .i64 r_1) rfl rfl) ?_
  refine sq 16 rfl rfl (Y_lt (k := .i64) (a := r_1) (b := 0) rfl rfl rfl) ?_
  refine rw_nil ?_
  refine cw_cond (b := (decide (r_1 < 0))) rfl (fun hb => ?_) (fun hb => ?_)
  · skip
    have hF1 := ct hF hb
    refine cw_seq ?_
    refine cw_region ?_
    refine sq 4 rfl rfl (Y_assign (v := .bool true) rfl rfl) ?_
    refine rw_nil ?_
    refine cw_ret ?_
    obtain rfl := some_inj hF1
    exact ret1 Try.results5 (v1 := .bool true) (resAt_tmp rfl) ⟨rfl, (ST.subR (R' := []) (hS3.sel [] rfl rfl) (fun _ h => by cases h))⟩
  · skip
    have hF2 := cf' hF hb
    refine cw_skip ?_
    refine cw_seq ?_
    refine cw_region ?_
    refine sq 17 rfl rfl (Y_loadA (B := some ⟨b1, 0, none⟩) (i := 0) (cs := [.int .i64 aQ.Qubits, .int .i64 aQ.Phase, .slice B2 aQ.Terms.length c2, .slice B3 aQ.Out.Rows.length c3]) (vs := [.int .i64 aQ.Qubits, .int .i64 aQ.Phase, .slice B2 aQ.Terms.length c2, .slice B3 aQ.Out.Rows.length c3]) k_ag_38 k_sz_38_4 rfl rfl (hS3.cf (i := 1) rfl) rfl rfl) ?_
    refine sq 18 rfl rfl (Y_move (v := .int .i64 r_1) rfl rfl) ?_
    obtain ⟨r_2, hc1, hF2⟩ := bind_inv hF2
    refine sc 19 rfl rfl (Yc_func (g := 20) (vs := [.agg #[.int .i64 aQ.Qubits, .int .i64 aQ.Phase, .slice B2 aQ.Terms.length c2, .slice B3 aQ.Out.Rows.length c3], .int .i64 r_1]) k_call_20 rfl (mc rfl (mc rfl mn)) (c_laws_szPhasePoly aQ r_1 B2 c2 aQ.Terms.length B3 c3 aQ.Out.Rows.length _ rfl rfl (hS3.inn0 [(true, 2), (true, 3)] rfl) hc1)) ?_
    rintro _ w_3 ⟨rfl, hd1⟩
    have hS4 := hS3.out00 hd1
    have hS4 : ST w0 [] _ [⟨some ⟨b, 0, none⟩, 38, [.int .i64 aP.Qubits, .int .i64 aP.Phase, .slice B aP.Terms.length c, .slice B1 aP.Out.Rows.length c1], 4⟩, ⟨some ⟨b1, 0, none⟩, 38, [.int .i64 aQ.Qubits, .int .i64 aQ.Phase, .slice B2 aQ.Terms.length c2, .slice B3 aQ.Out.Rows.length c3], 4⟩] [⟨B, (aP.Terms.flatMap enc_Term)⟩, ⟨B1, (aP.Out.Rows.flatMap encI)⟩, ⟨B2, (aQ.Terms.flatMap enc_Term)⟩, ⟨B3, (aQ.Out.Rows.flatMap encI)⟩] := hS4
    refine sq 5 rfl rfl (Y_assign (v := .int .i64 r_2) rfl rfl) ?_
    refine rw_nil ?_
    refine cw_seq ?_
    refine cw_seq ?_
    refine cw_region ?_
    refine sq 20 rfl rfl (Y_move (v := .int .i64 r_2) rfl rfl) ?_
    refine sq 21 rfl rfl (Y_lt (k := .i64) (a := r_2) (b := 0) rfl rfl rfl) ?_
    refine rw_nil ?_
    refine cw_cond (b := (decide (r_2 < 0))) rfl (fun hb1 => ?_) (fun hb1 => ?_)
    · skip
      have hF3 := ct hF2 hb1
      refine cw_seq ?_
      refine cw_region ?_
      refine sq 4 rfl rfl (Y_assign (v := .bool true) rfl rfl) ?_
      refine rw_nil ?_
      refine cw_ret ?_
      obtain rfl := some_inj hF3
      exact ret1 Try.results5 (v1 := .bool true) (resAt_tmp rfl) ⟨rfl, (ST.subR (R' := []) (hS4.sel [] rfl rfl) (fun _ h => by cases h))⟩
    · skip
      have hF4 := cf' hF2 hb1
      refine cw_skip ?_
      refine cw_seq ?_
      obtain ⟨r_3, hc2, hF4⟩ := bind_inv hF4
      obtain ⟨r_4, hc3, hF4⟩ := bind_inv hF4
      obtain ⟨⟨r_5, r_6⟩, hc4, hF4⟩ := bind_inv hF4
      refine ra_start (ST.sel hS4 [0, 1] rfl rfl).fn (by kernel_rfl) ?_
      have hS8 := hS4.drew
      refine ra_q 0 23 (v := .agg #[.int .i64 aP.Qubits, .int .i64 aP.Phase, .slice B aP.Terms.length c, .slice B1 aP.Out.Rows.length c1]) rfl rfl rfl (by kernel_rfl) (by kernel_rfl) (by kernel_rfl) (ST.sel hS8 [0, 1] rfl rfl) (fun w' hw' => (Y_loadA (B := some ⟨b, 0, none⟩) (i := 0) (cs := [.int .i64 aP.Qubits, .int .i64 aP.Phase, .slice B aP.Terms.length c, .slice B1 aP.Out.Rows.length c1]) (vs := [.int .i64 aP.Qubits, .int .i64 aP.Phase, .slice B aP.Terms.length c, .slice B1 aP.Out.Rows.length c1]) k_ag_38 k_sz_38_4 rfl rfl (ST.cf hw' (i := 0) rfl) rfl rfl)) ?_
      refine ra_q 2 25 (v := .agg #[.int .i64 aQ.Qubits, .int .i64 aQ.Phase, .slice B2 aQ.Terms.length c2, .slice B3 aQ.Out.Rows.length c3]) rfl rfl rfl (by kernel_rfl) (by kernel_rfl) (by kernel_rfl) (ST.sel hS8 [0, 1] rfl rfl) (fun w' hw' => (Y_loadA (B := some ⟨b1, 0, none⟩) (i := 0) (cs := [.int .i64 aQ.Qubits, .int .i64 aQ.Phase, .slice B2 aQ.Terms.length c2, .slice B3 aQ.Out.Rows.length c3]) (vs := [.int .i64 aQ.Qubits, .int .i64 aQ.Phase, .slice B2 aQ.Terms.length c2, .slice B3 aQ.Out.Rows.length c3]) k_ag_38 k_sz_38_4 rfl rfl (ST.cf hw' (i := 1) rfl) rfl rfl)) ?_
      refine ra_all (rs := [1]) (by kernel_rfl) rfl ?_
      refine ra_c 24 (i := 1) rfl rfl rfl (Yc_func (g := 22) (vs := [.agg #[.int .i64 aP.Qubits, .int .i64 aP.Phase, .slice B aP.Terms.length c, .slice B1 aP.Out.Rows.length c1]]) k_call_22 rfl (mc rfl mn) (c_laws_toPhasePoly aP B c aP.Terms.length B1 c1 aP.Out.Rows.length _ rfl rfl (hS8.inn0 [(true, 0), (true, 1)] rfl) hc2)) ?_ ?_
      · rintro _ w_4 ⟨B4, c4, B5, c5, rfl, hd2⟩
        have hS9 := hS8.out0 hd2
        have hS9 : ST w0 [] _ [⟨some ⟨b, 0, none⟩, 38, [.int .i64 aP.Qubits, .int .i64 aP.Phase, .slice B aP.Terms.length c, .slice B1 aP.Out.Rows.length c1], 4⟩, ⟨some ⟨b1, 0, none⟩, 38, [.int .i64 aQ.Qubits, .int .i64 aQ.Phase, .slice B2 aQ.Terms.length c2, .slice B3 aQ.Out.Rows.length c3], 4⟩, ⟨B4, 112, (r_3.Terms.flatMap enc_Term), c4 * 2⟩, ⟨B5, 3, (r_3.Out.Rows.flatMap encI), c5 * 1⟩] [⟨B, (aP.Terms.flatMap enc_Term)⟩, ⟨B1, (aP.Out.Rows.flatMap encI)⟩, ⟨B2, (aQ.Terms.flatMap enc_Term)⟩, ⟨B3, (aQ.Out.Rows.flatMap encI)⟩] := hS9
        refine ⟨(ST.sel hS9 [0, 1] rfl rfl), ?_⟩
        refine ra_all (rs := [3]) (by kernel_rfl) rfl ?_
        refine ra_c 26 (i := 3) rfl rfl rfl (Yc_func (g := 22) (vs := [.agg #[.int .i64 aQ.Qubits, .int .i64 aQ.Phase, .slice B2 aQ.Terms.length c2, .slice B3 aQ.Out.Rows.length c3]]) k_call_22 rfl (mc rfl mn) (c_laws_toPhasePoly aQ B2 c2 aQ.Terms.length B3 c3 aQ.Out.Rows.length _ rfl rfl (hS9.inn0 [(true, 2), (true, 3)] rfl) hc3)) ?_ ?_
        · rintro _ w_5 ⟨B6, c6, B7, c7, rfl, hd3⟩
          have hS10 := hS9.out0 hd3
          have hS10 : ST w0 [] _ [⟨some ⟨b, 0, none⟩, 38, [.int .i64 aP.Qubits, .int .i64 aP.Phase, .slice B aP.Terms.length c, .slice B1 aP.Out.Rows.length c1], 4⟩, ⟨some ⟨b1, 0, none⟩, 38, [.int .i64 aQ.Qubits, .int .i64 aQ.Phase, .slice B2 aQ.Terms.length c2, .slice B3 aQ.Out.Rows.length c3], 4⟩, ⟨B4, 112, (r_3.Terms.flatMap enc_Term), c4 * 2⟩, ⟨B5, 3, (r_3.Out.Rows.flatMap encI), c5 * 1⟩, ⟨B6, 112, (r_4.Terms.flatMap enc_Term), c6 * 2⟩, ⟨B7, 3, (r_4.Out.Rows.flatMap encI), c7 * 1⟩] [⟨B, (aP.Terms.flatMap enc_Term)⟩, ⟨B1, (aP.Out.Rows.flatMap encI)⟩, ⟨B2, (aQ.Terms.flatMap enc_Term)⟩, ⟨B3, (aQ.Out.Rows.flatMap encI)⟩] := hS10
          refine ⟨(ST.sel hS10 [0, 1] rfl rfl), ?_⟩
          refine ra_all (rs := [4]) (by kernel_rfl) rfl ?_
          refine ra_c 27 (i := 4) rfl rfl rfl (Yc_func (g := 29) (vs := [.agg #[.int .i64 r_3.Qubits, .int .i64 r_3.Phase, .slice B4 r_3.Terms.length c4, .slice B5 r_3.Out.Rows.length c5], .agg #[.int .i64 r_4.Qubits, .int .i64 r_4.Phase, .slice B6 r_4.Terms.length c6, .slice B7 r_4.Out.Rows.length c7]]) k_call_29 rfl (mc rfl (mc rfl mn)) (c_spec_EqualPhases r_3 r_4 B4 c4 r_3.Terms.length B5 c5 r_3.Out.Rows.length B6 c6 r_4.Terms.length B7 c7 r_4.Out.Rows.length _ rfl rfl rfl rfl (hS10.inn0 [(false, 2), (false, 3), (false, 4), (false, 5)] rfl) hc4)) ?_ ?_
          · rintro _ w_6 ⟨rfl, hd4⟩
            have hS11 := hS10.out00 hd4
            have hS11 : ST w0 [] _ [⟨some ⟨b, 0, none⟩, 38, [.int .i64 aP.Qubits, .int .i64 aP.Phase, .slice B aP.Terms.length c, .slice B1 aP.Out.Rows.length c1], 4⟩, ⟨some ⟨b1, 0, none⟩, 38, [.int .i64 aQ.Qubits, .int .i64 aQ.Phase, .slice B2 aQ.Terms.length c2, .slice B3 aQ.Out.Rows.length c3], 4⟩, ⟨B4, 112, (r_3.Terms.flatMap enc_Term), c4 * 2⟩, ⟨B5, 3, (r_3.Out.Rows.flatMap encI), c5 * 1⟩, ⟨B6, 112, (r_4.Terms.flatMap enc_Term), c6 * 2⟩, ⟨B7, 3, (r_4.Out.Rows.flatMap encI), c7 * 1⟩] [⟨B, (aP.Terms.flatMap enc_Term)⟩, ⟨B1, (aP.Out.Rows.flatMap encI)⟩, ⟨B2, (aQ.Terms.flatMap enc_Term)⟩, ⟨B3, (aQ.Out.Rows.flatMap encI)⟩] := hS11
            refine ⟨(ST.sel hS11 [0, 1] rfl rfl), ?_⟩
            refine ra_q 5 22 (v := .tuple #[.bool r_5, .bool r_6]) rfl rfl rfl (by kernel_rfl) (by kernel_rfl) (by kernel_rfl) (ST.sel hS11 [0, 1] rfl rfl) (fun w' hw' => (Y_move (v := .tuple #[.bool r_5, .bool r_6]) rfl rfl)) ?_
            refine ra_q 6 28 (v := .bool r_5) rfl rfl rfl (by kernel_rfl) (by kernel_rfl) (by kernel_rfl) (ST.sel hS11 [0, 1] rfl rfl) (fun w' hw' => (Y_extract (v := .bool r_5) rfl rfl rfl)) ?_
            refine ra_q 7 29 (v := .bool r_6) rfl rfl rfl (by kernel_rfl) (by kernel_rfl) (by kernel_rfl) (ST.sel hS11 [0, 1] rfl rfl) (fun w' hw' => (Y_extract (v := .bool r_6) rfl rfl rfl)) ?_
            refine ra_q 8 6 (v := .bool r_5) rfl rfl rfl (by kernel_rfl) (by kernel_rfl) (by kernel_rfl) (ST.sel hS11 [0, 1] rfl rfl) (fun w' hw' => (Y_assign (v := .bool r_5) rfl rfl)) ?_
            refine ra_q 9 7 (v := .bool r_6) rfl rfl rfl (by kernel_rfl) (by kernel_rfl) (by kernel_rfl) (ST.sel hS11 [0, 1] rfl rfl) (fun w' hw' => (Y_assign (v := .bool r_6) rfl rfl)) ?_
            refine ra_done (by kernel_rfl) ?_
            refine cw_seq ?_
            refine cw_region ?_
            refine sq 30 rfl rfl (Y_loadA (B := some ⟨b, 0, none⟩) (i := 0) (cs := [.int .i64 aP.Qubits, .int .i64 aP.Phase, .slice B aP.Terms.length c, .slice B1 aP.Out.Rows.length c1]) (vs := [.int .i64 aP.Qubits, .int .i64 aP.Phase, .slice B aP.Terms.length c, .slice B1 aP.Out.Rows.length c1]) k_ag_38 k_sz_38_4 rfl rfl (hS11.cf (i := 0) rfl) rfl rfl) ?_
            obtain ⟨r_7, hc5, hF4⟩ := bind_inv hF4
            refine sc 31 rfl rfl (Yc_func (g := 22) (vs := [.agg #[.int .i64 aP.Qubits, .int .i64 aP.Phase, .slice B aP.Terms.length c, .slice B1 aP.Out.Rows.length c1]]) k_call_22 rfl (mc rfl mn) (c_laws_toPhasePoly aP B c aP.Terms.length B1 c1 aP.Out.Rows.length _ rfl rfl (hS11.inn0 [(true, 0), (true, 1)] rfl) hc5)) ?_
            rintro _ w_7 ⟨B8, c8, B9, c9, rfl, hd5⟩
            have hS12 := hS11.out0 hd5
            have hS12 : ST w0 [] _ [⟨some ⟨b, 0, none⟩, 38, [.int .i64 aP.Qubits, .int .i64 aP.Phase, .slice B aP.Terms.length c, .slice B1 aP.Out.Rows.length c1], 4⟩, ⟨some ⟨b1, 0, none⟩, 38, [.int .i64 aQ.Qubits, .int .i64 aQ.Phase, .slice B2 aQ.Terms.length c2, .slice B3 aQ.Out.Rows.length c3], 4⟩, ⟨B4, 112, (r_3.Terms.flatMap enc_Term), c4 * 2⟩, ⟨B5, 3, (r_3.Out.Rows.flatMap encI), c5 * 1⟩, ⟨B6, 112, (r_4.Terms.flatMap enc_Term), c6 * 2⟩, ⟨B7, 3, (r_4.Out.Rows.flatMap encI), c7 * 1⟩, ⟨B8, 112, (r_7.Terms.flatMap enc_Term), c8 * 2⟩, ⟨B9, 3, (r_7.Out.Rows.flatMap encI), c9 * 1⟩] [⟨B, (aP.Terms.flatMap enc_Term)⟩, ⟨B1, (aP.Out.Rows.flatMap encI)⟩, ⟨B2, (aQ.Terms.flatMap enc_Term)⟩, ⟨B3, (aQ.Out.Rows.flatMap encI)⟩] := hS12
            refine ss 8 rfl rfl (Ys_alloc (T := 45) (cs := [.int .i64 0, .int .i64 0, .slice none 0 0, .slice none 0 0]) (m := 4) hS12 k_zero_45 rfl rfl rfl) ?_
            rintro _ w_8 ⟨b2, rfl, hS13⟩
            have hS13 : ST w0 [] _ [⟨some ⟨b, 0, none⟩, 38, [.int .i64 aP.Qubits, .int .i64 aP.Phase, .slice B aP.Terms.length c, .slice B1 aP.Out.Rows.length c1], 4⟩, ⟨some ⟨b1, 0, none⟩, 38, [.int .i64 aQ.Qubits, .int .i64 aQ.Phase, .slice B2 aQ.Terms.length c2, .slice B3 aQ.Out.Rows.length c3], 4⟩, ⟨B4, 112, (r_3.Terms.flatMap enc_Term), c4 * 2⟩, ⟨B5, 3, (r_3.Out.Rows.flatMap encI), c5 * 1⟩, ⟨B6, 112, (r_4.Terms.flatMap enc_Term), c6 * 2⟩, ⟨B7, 3, (r_4.Out.Rows.flatMap encI), c7 * 1⟩, ⟨B8, 112, (r_7.Terms.flatMap enc_Term), c8 * 2⟩, ⟨B9, 3, (r_7.Out.Rows.flatMap encI), c9 * 1⟩, ⟨some ⟨b2, 0, none⟩, 45, [.int .i64 0, .int .i64 0, .slice none 0 0, .slice none 0 0], 4⟩] [⟨B, (aP.Terms.flatMap enc_Term)⟩, ⟨B1, (aP.Out.Rows.flatMap encI)⟩, ⟨B2, (aQ.Terms.flatMap enc_Term)⟩, ⟨B3, (aQ.Out.Rows.flatMap encI)⟩] := hS13
            refine ss0 rfl rfl (Ys_store (i := 8) (s := 4) (B := some ⟨b2, 0, none⟩) (T' := 45) (v := .agg #[.int .i64 r_7.Qubits, .int .i64 r_7.Phase, .slice B8 r_7.Terms.length c8, .slice B9 r_7.Out.Rows.length c9]) (vs := [.int .i64 r_7.Qubits, .int .i64 r_7.Phase, .slice B8 r_7.Terms.length c8, .slice B9 r_7.Out.Rows.length c9]) (k := 0) (cs' := [.int .i64 r_7.Qubits, .int .i64 r_7.Phase, .slice B8 r_7.Terms.length c8, .slice B9 r_7.Out.Rows.length c9]) hS13 k_sz_45_4 rfl rfl rfl rfl rfl rfl rfl (Nat.le_of_ble_eq_true rfl) rfl rfl) ?_
            rintro _ w_9 ⟨rfl, hS14⟩
            have hS14 : ST w0 [] _ [⟨some ⟨b, 0, none⟩, 38, [.int .i64 aP.Qubits, .int .i64 aP.Phase, .slice B aP.Terms.length c, .slice B1 aP.Out.Rows.length c1], 4⟩, ⟨some ⟨b1, 0, none⟩, 38, [.int .i64 aQ.Qubits, .int .i64 aQ.Phase, .slice B2 aQ.Terms.length c2, .slice B3 aQ.Out.Rows.length c3], 4⟩, ⟨B4, 112, (r_3.Terms.flatMap enc_Term), c4 * 2⟩, ⟨B5, 3, (r_3.Out.Rows.flatMap encI), c5 * 1⟩, ⟨B6, 112, (r_4.Terms.flatMap enc_Term), c6 * 2⟩, ⟨B7, 3, (r_4.Out.Rows.flatMap encI), c7 * 1⟩, ⟨B8, 112, (r_7.Terms.flatMap enc_Term), c8 * 2⟩, ⟨B9, 3, (r_7.Out.Rows.flatMap encI), c9 * 1⟩, ⟨some ⟨b2, 0, none⟩, 45, [.int .i64 r_7.Qubits, .int .i64 r_7.Phase, .slice B8 r_7.Terms.length c8, .slice B9 r_7.Out.Rows.length c9], 4⟩] [⟨B, (aP.Terms.flatMap enc_Term)⟩, ⟨B1, (aP.Out.Rows.flatMap encI)⟩, ⟨B2, (aQ.Terms.flatMap enc_Term)⟩, ⟨B3, (aQ.Out.Rows.flatMap encI)⟩] := hS14
            refine rw_nil ?_
            refine cw_seq ?_
            refine cw_region ?_
            refine sq 32 rfl rfl (Y_loadA (B := some ⟨b1, 0, none⟩) (i := 0) (cs := [.int .i64 aQ.Qubits, .int .i64 aQ.Phase, .slice B2 aQ.Terms.length c2, .slice B3 aQ.Out.Rows.length c3]) (vs := [.int .i64 aQ.Qubits, .int .i64 aQ.Phase, .slice B2 aQ.Terms.length c2, .slice B3 aQ.Out.Rows.length c3]) k_ag_38 k_sz_38_4 rfl rfl (hS14.cf (i := 1) rfl) rfl rfl) ?_
            obtain ⟨r_8, hc6, hF4⟩ := bind_inv hF4
            refine sc 33 rfl rfl (Yc_func (g := 22) (vs := [.agg #[.int .i64 aQ.Qubits, .int .i64 aQ.Phase, .slice B2 aQ.Terms.length c2, .slice B3 aQ.Out.Rows.length c3]]) k_call_22 rfl (mc rfl mn) (c_laws_toPhasePoly aQ B2 c2 aQ.Terms.length B3 c3 aQ.Out.Rows.length _ rfl rfl (hS14.inn0 [(true, 2), (true, 3)] rfl) hc6)) ?_
            rintro _ w_10 ⟨B10, c10, B11, c11, rfl, hd6⟩
            have hS15 := hS14.out0 hd6
            have hS15 : ST w0 [] _ [⟨some ⟨b, 0, none⟩, 38, [.int .i64 aP.Qubits, .int .i64 aP.Phase, .slice B aP.Terms.length c, .slice B1 aP.Out.Rows.length c1], 4⟩, ⟨some ⟨b1, 0, none⟩, 38, [.int .i64 aQ.Qubits, .int .i64 aQ.Phase, .slice B2 aQ.Terms.length c2, .slice B3 aQ.Out.Rows.length c3], 4⟩, ⟨B4, 112, (r_3.Terms.flatMap enc_Term), c4 * 2⟩, ⟨B5, 3, (r_3.Out.Rows.flatMap encI), c5 * 1⟩, ⟨B6, 112, (r_4.Terms.flatMap enc_Term), c6 * 2⟩, ⟨B7, 3, (r_4.Out.Rows.flatMap encI), c7 * 1⟩, ⟨B8, 112, (r_7.Terms.flatMap enc_Term), c8 * 2⟩, ⟨B9, 3, (r_7.Out.Rows.flatMap encI), c9 * 1⟩, ⟨some ⟨b2, 0, none⟩, 45, [.int .i64 r_7.Qubits, .int .i64 r_7.Phase, .slice B8 r_7.Terms.length c8, .slice B9 r_7.Out.Rows.length c9], 4⟩, ⟨B10, 112, (r_8.Terms.flatMap enc_Term), c10 * 2⟩, ⟨B11, 3, (r_8.Out.Rows.flatMap encI), c11 * 1⟩] [⟨B, (aP.Terms.flatMap enc_Term)⟩, ⟨B1, (aP.Out.Rows.flatMap encI)⟩, ⟨B2, (aQ.Terms.flatMap enc_Term)⟩, ⟨B3, (aQ.Out.Rows.flatMap encI)⟩] := hS15
            refine ss 9 rfl rfl (Ys_alloc (T := 45) (cs := [.int .i64 0, .int .i64 0, .slice none 0 0, .slice none 0 0]) (m := 4) hS15 k_zero_45 rfl rfl rfl) ?_
            rintro _ w_11 ⟨b3, rfl, hS16⟩
            have hS16 : ST w0 [] _ [⟨some ⟨b, 0, none⟩, 38, [.int .i64 aP.Qubits, .int .i64 aP.Phase, .slice B aP.Terms.length c, .slice B1 aP.Out.Rows.length c1], 4⟩, ⟨some ⟨b1, 0, none⟩, 38, [.int .i64 aQ.Qubits, .int .i64 aQ.Phase, .slice B2 aQ.Terms.length c2, .slice B3 aQ.Out.Rows.length c3], 4⟩, ⟨B4, 112, (r_3.Terms.flatMap enc_Term), c4 * 2⟩, ⟨B5, 3, (r_3.Out.Rows.flatMap encI), c5 * 1⟩, ⟨B6, 112, (r_4.Terms.flatMap enc_Term), c6 * 2⟩, ⟨B7, 3, (r_4.Out.Rows.flatMap encI), c7 * 1⟩, ⟨B8, 112, (r_7.Terms.flatMap enc_Term), c8 * 2⟩, ⟨B9, 3, (r_7.Out.Rows.flatMap encI), c9 * 1⟩, ⟨some ⟨b2, 0, none⟩, 45, [.int .i64 r_7.Qubits, .int .i64 r_7.Phase, .slice B8 r_7.Terms.length c8, .slice B9 r_7.Out.Rows.length c9], 4⟩, ⟨B10, 112, (r_8.Terms.flatMap enc_Term), c10 * 2⟩, ⟨B11, 3, (r_8.Out.Rows.flatMap encI), c11 * 1⟩, ⟨some ⟨b3, 0, none⟩, 45, [.int .i64 0, .int .i64 0, .slice none 0 0, .slice none 0 0], 4⟩] [⟨B, (aP.Terms.flatMap enc_Term)⟩, ⟨B1, (aP.Out.Rows.flatMap encI)⟩, ⟨B2, (aQ.Terms.flatMap enc_Term)⟩, ⟨B3, (aQ.Out.Rows.flatMap encI)⟩] := hS16
            refine ss0 rfl rfl (Ys_store (i := 11) (s := 4) (B := some ⟨b3, 0, none⟩) (T' := 45) (v := .agg #[.int .i64 r_8.Qubits, .int .i64 r_8.Phase, .slice B10 r_8.Terms.length c10, .slice B11 r_8.Out.Rows.length c11]) (vs := [.int .i64 r_8.Qubits, .int .i64 r_8.Phase, .slice B10 r_8.Terms.length c10, .slice B11 r_8.Out.Rows.length c11]) (k := 0) (cs' := [.int .i64 r_8.Qubits, .int .i64 r_8.Phase, .slice B10 r_8.Terms.length c10, .slice B11 r_8.Out.Rows.length c11]) hS16 k_sz_45_4 rfl rfl rfl rfl rfl rfl rfl (Nat.le_of_ble_eq_true rfl) rfl rfl) ?_
            rintro _ w_12 ⟨rfl, hS17⟩
            have hS17 : ST w0 [] _ [⟨some ⟨b, 0, none⟩, 38, [.int .i64 aP.Qubits, .int .i64 aP.Phase, .slice B aP.Terms.length c, .slice B1 aP.Out.Rows.length c1], 4⟩, ⟨some ⟨b1, 0, none⟩, 38, [.int .i64 aQ.Qubits, .int .i64 aQ.Phase, .slice B2 aQ.Terms.length c2, .slice B3 aQ.Out.Rows.length c3], 4⟩, ⟨B4, 112, (r_3.Terms.flatMap enc_Term), c4 * 2⟩, ⟨B5, 3, (r_3.Out.Rows.flatMap encI), c5 * 1⟩, ⟨B6, 112, (r_4.Terms.flatMap enc_Term), c6 * 2⟩, ⟨B7, 3, (r_4.Out.Rows.flatMap encI), c7 * 1⟩, ⟨B8, 112, (r_7.Terms.flatMap enc_Term), c8 * 2⟩, ⟨B9, 3, (r_7.Out.Rows.flatMap encI), c9 * 1⟩, ⟨some ⟨b2, 0, none⟩, 45, [.int .i64 r_7.Qubits, .int .i64 r_7.Phase, .slice B8 r_7.Terms.length c8, .slice B9 r_7.Out.Rows.length c9], 4⟩, ⟨B10, 112, (r_8.Terms.flatMap enc_Term), c10 * 2⟩, ⟨B11, 3, (r_8.Out.Rows.flatMap encI), c11 * 1⟩, ⟨some ⟨b3, 0, none⟩, 45, [.int .i64 r_8.Qubits, .int .i64 r_8.Phase, .slice B10 r_8.Terms.length c10, .slice B11 r_8.Out.Rows.length c11], 4⟩] [⟨B, (aP.Terms.flatMap enc_Term)⟩, ⟨B1, (aP.Out.Rows.flatMap encI)⟩, ⟨B2, (aQ.Terms.flatMap enc_Term)⟩, ⟨B3, (aQ.Out.Rows.flatMap encI)⟩] := hS17
            refine rw_nil ?_
            refine cw_seq ?_
            refine cw_region ?_
            refine sq 35 rfl rfl (Y_loadA (B := some ⟨b2, 0, none⟩) (i := 0) (cs := [.int .i64 r_7.Qubits, .int .i64 r_7.Phase, .slice B8 r_7.Terms.length c8, .slice B9 r_7.Out.Rows.length c9]) (vs := [.int .i64 r_7.Qubits, .int .i64 r_7.Phase, .slice B8 r_7.Terms.length c8, .slice B9 r_7.Out.Rows.length c9]) k_ag_45 k_sz_45_4 rfl rfl (hS17.cf (i := 8) rfl) rfl rfl) ?_
            refine sq 36 rfl rfl (Y_loadA (B := some ⟨b3, 0, none⟩) (i := 0) (cs := [.int .i64 r_8.Qubits, .int .i64 r_8.Phase, .slice B10 r_8.Terms.length c10, .slice B11 r_8.Out.Rows.length c11]) (vs := [.int .i64 r_8.Qubits, .int .i64 r_8.Phase, .slice B10 r_8.Terms.length c10, .slice B11 r_8.Out.Rows.length c11]) k_ag_45 k_sz_45_4 rfl rfl (hS17.cf (i := 11) rfl) rfl rfl) ?_
            obtain ⟨⟨r_9, r_10⟩, hc7, hF4⟩ := bind_inv hF4
            refine sc 37 rfl rfl (Yc_func (g := 30) (vs := [.agg #[.int .i64 r_7.Qubits, .int .i64 r_7.Phase, .slice B8 r_7.Terms.length c8, .slice B9 r_7.Out.Rows.length c9], .agg #[.int .i64 r_8.Qubits, .int .i64 r_8.Phase, .slice B10 r_8.Terms.length c10, .slice B11 r_8.Out.Rows.length c11]]) k_call_30 rfl (mc rfl (mc rfl mn)) (c_impl_EqualPhases r_7 r_8 B8 c8 r_7.Terms.length B9 c9 r_7.Out.Rows.length B10 c10 r_8.Terms.length B11 c11 r_8.Out.Rows.length _ rfl rfl rfl rfl (hS17.inn0 [(false, 6), (false, 7), (false, 9), (false, 10)] rfl) hc7)) ?_
            rintro _ w_13 ⟨rfl, hd7⟩
            have hS18 := hS17.out00 hd7
            have hS18 : ST w0 [] _ [⟨some ⟨b, 0, none⟩, 38, [.int .i64 aP.Qubits, .int .i64 aP.Phase, .slice B aP.Terms.length c, .slice B1 aP.Out.Rows.length c1], 4⟩, ⟨some ⟨b1, 0, none⟩, 38, [.int .i64 aQ.Qubits, .int .i64 aQ.Phase, .slice B2 aQ.Terms.length c2, .slice B3 aQ.Out.Rows.length c3], 4⟩, ⟨B4, 112, (r_3.Terms.flatMap enc_Term), c4 * 2⟩, ⟨B5, 3, (r_3.Out.Rows.flatMap encI), c5 * 1⟩, ⟨B6, 112, (r_4.Terms.flatMap enc_Term), c6 * 2⟩, ⟨B7, 3, (r_4.Out.Rows.flatMap encI), c7 * 1⟩, ⟨B8, 112, (r_7.Terms.flatMap enc_Term), c8 * 2⟩, ⟨B9, 3, (r_7.Out.Rows.flatMap encI), c9 * 1⟩, ⟨some ⟨b2, 0, none⟩, 45, [.int .i64 r_7.Qubits, .int .i64 r_7.Phase, .slice B8 r_7.Terms.length c8, .slice B9 r_7.Out.Rows.length c9], 4⟩, ⟨B10, 112, (r_8.Terms.flatMap enc_Term), c10 * 2⟩, ⟨B11, 3, (r_8.Out.Rows.flatMap encI), c11 * 1⟩, ⟨some ⟨b3, 0, none⟩, 45, [.int .i64 r_8.Qubits, .int .i64 r_8.Phase, .slice B10 r_8.Terms.length c10, .slice B11 r_8.Out.Rows.length c11], 4⟩] [⟨B, (aP.Terms.flatMap enc_Term)⟩, ⟨B1, (aP.Out.Rows.flatMap encI)⟩, ⟨B2, (aQ.Terms.flatMap enc_Term)⟩, ⟨B3, (aQ.Out.Rows.flatMap encI)⟩] := hS18
            refine sq 34 rfl rfl (Y_move (v := .tuple #[.bool r_9, .bool r_10]) rfl rfl) ?_
            refine sq 38 rfl rfl (Y_extract (v := .bool r_9) rfl rfl rfl) ?_
            refine sq 39 rfl rfl (Y_extract (v := .bool r_10) rfl rfl rfl) ?_
            refine sq 10 rfl rfl (Y_assign (v := .bool r_9) rfl rfl) ?_
            refine sq 11 rfl rfl (Y_assign (v := .bool r_10) rfl rfl) ?_
            refine rw_nil ?_
            refine cw_seq ?_
            refine cw_seq ?_
            refine cw_region ?_
            refine sq 40 rfl rfl (Y_move (v := .bool r_9) rfl rfl) ?_
            refine sq 41 rfl rfl (Y_move (v := .bool r_5) rfl rfl) ?_
            refine sq 42 rfl rfl (Y_bne (p := r_9) (q := r_5) k_und_4 rfl rfl rfl) ?_
            refine sq 43 rfl rfl (Y_move (v := .bool (!(r_9 == r_5))) rfl rfl) ?_
            refine sgq 44 (B := (!(!(r_9 == r_5)))) (v := .bool r_10) rfl rfl (wt_f (gd_of (t := 43) (by kernel_rfl) rfl)) (fun hg => (Y_move (v := .bool r_10) rfl rfl)) ?_
            refine sgq 45 (B := (!(!(r_9 == r_5)))) (v := .bool r_6) rfl rfl (wt_f (gd_of (t := 43) (by kernel_rfl) rfl)) (fun hg1 => (Y_move (v := .bool r_6) rfl rfl)) ?_
            refine sgq 46 (B := (!(!(r_9 == r_5)))) (v := .bool (!(r_10 == r_6))) rfl rfl (wt_f (gd_of (t := 43) (by kernel_rfl) rfl)) (fun hg2 => (Y_bne (p := r_10) (q := r_6) k_und_4 rfl (gv_of (B := (!(!(r_9 == r_5)))) (v := .bool r_10) hg2) (gv_of (B := (!(!(r_9 == r_5)))) (v := .bool r_6) hg2))) ?_
            refine sq 47 rfl rfl (Y_or (b := (!(r_9 == r_5))) (z := (!(r_10 == r_6))) rfl rfl rfl rfl) ?_
            refine rw_nil ?_
            refine cw_cond (b := ((!(r_9 == r_5)) || (!(r_10 == r_6)))) rfl (fun hb2 => ?_) (fun hb2 => ?_)
            · skip
              have hF5 := ct hF4 hb2
              refine cw_seq ?_
              refine cw_region ?_
              refine sq 4 rfl rfl (Y_assign (v := .bool false) rfl rfl) ?_
              refine rw_nil ?_
              refine cw_ret ?_
              obtain rfl := some_inj hF5
              exact ret1 Try.results5 (v1 := .bool false) (resAt_tmp rfl) ⟨rfl, (ST.subR (R' := []) (hS18.sel [] rfl rfl) (fun _ h => by cases h))⟩
            · skip
              have hF6 := cf' hF4 hb2
              refine cw_skip ?_
              refine cw_seq ?_
              refine cw_seq ?_
              obtain ⟨r_11, hc8, hF6⟩ := bind_inv hF6
              obtain ⟨r_12, hc9, hF6⟩ := bind_inv hF6
              refine ra_start (ST.sel hS18 [0, 1, 2, 3, 4, 5, 6, 7, 8, 9, 10, 11] rfl rfl).fn (by kernel_rfl) ?_
              have hS21 := hS18.drew
              refine ra_q 0 48 (v := .agg #[.int .i64 r_7.Qubits, .int .i64 r_7.Phase, .slice B8 r_7.Terms.length c8, .slice B9 r_7.Out.Rows.length c9]) rfl rfl rfl (by kernel_rfl) (by kernel_rfl) (by kernel_rfl) (ST.sel hS21 [0, 1, 2, 3, 4, 5, 6, 7, 8, 9, 10, 11] rfl rfl) (fun w' hw' => (Y_loadA (B := some ⟨b2, 0, none⟩) (i := 0) (cs := [.int .i64 r_7.Qubits, .int .i64 r_7.Phase, .slice B8 r_7.Terms.length c8, .slice B9 r_7.Out.Rows.length c9]) (vs := [.int .i64 r_7.Qubits, .int .i64 r_7.Phase, .slice B8 r_7.Terms.length c8, .slice B9 r_7.Out.Rows.length c9]) k_ag_45 k_sz_45_4 rfl rfl (ST.cf hw' (i := 8) rfl) rfl rfl)) ?_
              refine ra_q 1 49 (v := .agg #[.int .i64 aP.Qubits, .int .i64 aP.Phase, .slice B aP.Terms.length c, .slice B1 aP.Out.Rows.length c1]) rfl rfl rfl (by kernel_rfl) (by kernel_rfl) (by kernel_rfl) (ST.sel hS21 [0, 1, 2, 3, 4, 5, 6, 7, 8, 9, 10, 11] rfl rfl) (fun w' hw' => (Y_loadA (B := some ⟨b, 0, none⟩) (i := 0) (cs := [.int .i64 aP.Qubits, .int .i64 aP.Phase, .slice B aP.Terms.length c, .slice B1 aP.Out.Rows.length c1]) (vs := [.int .i64 aP.Qubits, .int .i64 aP.Phase, .slice B aP.Terms.length c, .slice B1 aP.Out.Rows.length c1]) k_ag_38 k_sz_38_4 rfl rfl (ST.cf hw' (i := 0) rfl) rfl rfl)) ?_
              refine ra_all (rs := [2]) (by kernel_rfl) rfl ?_
              refine ra_c 50 (i := 2) rfl rfl rfl (Yc_func (g := 22) (vs := [.agg #[.int .i64 aP.Qubits, .int .i64 aP.Phase, .slice B aP.Terms.length c, .slice B1 aP.Out.Rows.length c1]]) k_call_22 rfl (mc rfl mn) (c_laws_toPhasePoly aP B c aP.Terms.length B1 c1 aP.Out.Rows.length _ rfl rfl (hS21.inn0 [(true, 0), (true, 1)] rfl) hc8)) ?_ ?_
              · rintro _ w_14 ⟨B12, c12, B13, c13, rfl, hd8⟩
                have hS22 := hS21.out0 hd8
                have hS22 : ST w0 [] _ [⟨some ⟨b, 0, none⟩, 38, [.int .i64 aP.Qubits, .int .i64 aP.Phase, .slice B aP.Terms.length c, .slice B1 aP.Out.Rows.length c1], 4⟩, ⟨some ⟨b1, 0, none⟩, 38, [.int .i64 aQ.Qubits, .int .i64 aQ.Phase, .slice B2 aQ.Terms.length c2, .slice B3 aQ.Out.Rows.length c3], 4⟩, ⟨B4, 112, (r_3.Terms.flatMap enc_Term), c4 * 2⟩, ⟨B5, 3, (r_3.Out.Rows.flatMap encI), c5 * 1⟩, ⟨B6, 112, (r_4.Terms.flatMap enc_Term), c6 * 2⟩, ⟨B7, 3, (r_4.Out.Rows.flatMap encI), c7 * 1⟩, ⟨B8, 112, (r_7.Terms.flatMap enc_Term), c8 * 2⟩, ⟨B9, 3, (r_7.Out.Rows.flatMap encI), c9 * 1⟩, ⟨some ⟨b2, 0, none⟩, 45, [.int .i64 r_7.Qubits, .int .i64 r_7.Phase, .slice B8 r_7.Terms.length c8, .slice B9 r_7.Out.Rows.length c9], 4⟩, ⟨B10, 112, (r_8.Terms.flatMap enc_Term), c10 * 2⟩, ⟨B11, 3, (r_8.Out.Rows.flatMap encI), c11 * 1⟩, ⟨some ⟨b3, 0, none⟩, 45, [.int .i64 r_8.Qubits, .int .i64 r_8.Phase, .slice B10 r_8.Terms.length c10, .slice B11 r_8.Out.Rows.length c11], 4⟩, ⟨B12, 112, (r_11.Terms.flatMap enc_Term), c12 * 2⟩, ⟨B13, 3, (r_11.Out.Rows.flatMap encI), c13 * 1⟩] [⟨B, (aP.Terms.flatMap enc_Term)⟩, ⟨B1, (aP.Out.Rows.flatMap encI)⟩, ⟨B2, (aQ.Terms.flatMap enc_Term)⟩, ⟨B3, (aQ.Out.Rows.flatMap encI)⟩] := hS22
                refine ⟨(ST.sel hS22 [0, 1, 2, 3, 4, 5, 6, 7, 8, 9, 10, 11] rfl rfl), ?_⟩
                refine ra_all (rs := [3]) (by kernel_rfl) rfl ?_
                refine ra_c 51 (i := 3) rfl rfl rfl (Yc_func (g := 25) (vs := [.agg #[.int .i64 r_7.Qubits, .int .i64 r_7.Phase, .slice B8 r_7.Terms.length c8, .slice B9 r_7.Out.Rows.length c9], .agg #[.int .i64 r_11.Qubits, .int .i64 r_11.Phase, .slice B12 r_11.Terms.length c12, .slice B13 r_11.Out.Rows.length c13]]) k_call_25 rfl (mc rfl (mc rfl mn)) (c_laws_eqPhasePoly r_7 r_11 B8 c8 r_7.Terms.length B9 c9 r_7.Out.Rows.length B12 c12 r_11.Terms.length B13 c13 r_11.Out.Rows.length _ rfl rfl rfl rfl (hS22.inn0 [(false, 6), (false, 7), (false, 12), (false, 13)] rfl) hc9)) ?_ ?_
                · rintro _ w_15 ⟨rfl, hd9⟩
                  have hS23 := hS22.out00 hd9
                  have hS23 : ST w0 [] _ [⟨some ⟨b, 0, none⟩, 38, [.int .i64 aP.Qubits, .int .i64 aP.Phase, .slice B aP.Terms.length c, .slice B1 aP.Out.Rows.length c1], 4⟩, ⟨some ⟨b1, 0, none⟩, 38, [.int .i64 aQ.Qubits, .int .i64 aQ.Phase, .slice B2 aQ.Terms.length c2, .slice B3 aQ.Out.Rows.length c3], 4⟩, ⟨B4, 112, (r_3.Terms.flatMap enc_Term), c4 * 2⟩, ⟨B5, 3, (r_3.Out.Rows.flatMap encI), c5 * 1⟩, ⟨B6, 112, (r_4.Terms.flatMap enc_Term), c6 * 2⟩, ⟨B7, 3, (r_4.Out.Rows.flatMap encI), c7 * 1⟩, ⟨B8, 112, (r_7.Terms.flatMap enc_Term), c8 * 2⟩, ⟨B9, 3, (r_7.Out.Rows.flatMap encI), c9 * 1⟩, ⟨some ⟨b2, 0, none⟩, 45, [.int .i64 r_7.Qubits, .int .i64 r_7.Phase, .slice B8 r_7.Terms.length c8, .slice B9 r_7.Out.Rows.length c9], 4⟩, ⟨B10, 112, (r_8.Terms.flatMap enc_Term), c10 * 2⟩, ⟨B11, 3, (r_8.Out.Rows.flatMap encI), c11 * 1⟩, ⟨some ⟨b3, 0, none⟩, 45, [.int .i64 r_8.Qubits, .int .i64 r_8.Phase, .slice B10 r_8.Terms.length c10, .slice B11 r_8.Out.Rows.length c11], 4⟩, ⟨B12, 112, (r_11.Terms.flatMap enc_Term), c12 * 2⟩, ⟨B13, 3, (r_11.Out.Rows.flatMap encI), c13 * 1⟩] [⟨B, (aP.Terms.flatMap enc_Term)⟩, ⟨B1, (aP.Out.Rows.flatMap encI)⟩, ⟨B2, (aQ.Terms.flatMap enc_Term)⟩, ⟨B3, (aQ.Out.Rows.flatMap encI)⟩] := hS23
                  refine ⟨(ST.sel hS23 [0, 1, 2, 3, 4, 5, 6, 7, 8, 9, 10, 11] rfl rfl), ?_⟩
                  refine ra_q 4 52 (v := .bool (!r_12)) rfl rfl rfl (by kernel_rfl) (by kernel_rfl) (by kernel_rfl) (ST.sel hS23 [0, 1, 2, 3, 4, 5, 6, 7, 8, 9, 10, 11] rfl rfl) (fun w' hw' => (Y_not (p := r_12) rfl rfl)) ?_
                  refine ra_done (by kernel_rfl) ?_
                  refine cw_cond (b := (!r_12)) rfl (fun hb3 => ?_) (fun hb3 => ?_)
                  · skip
                    have hF7 := ct hF6 hb3
                    refine cw_seq ?_
                    refine cw_region ?_
                    refine sq 4 rfl rfl (Y_assign (v := .bool false) rfl rfl) ?_
                    refine rw_nil ?_
                    refine cw_ret ?_
                    obtain rfl := some_inj hF7
                    exact ret1 Try.results5 (v1 := .bool false) (resAt_tmp rfl) ⟨rfl, (ST.subR (R' := []) (hS23.sel [] rfl rfl) (fun _ h => by cases h))⟩
                  · skip
                    have hF8 := cf' hF6 hb3
                    refine cw_skip ?_
                    refine cw_seq ?_
                    refine cw_seq ?_
                    obtain ⟨r_13, hc10, hF8⟩ := bind_inv hF8
                    obtain ⟨r_14, hc11, hF8⟩ := bind_inv hF8
                    refine ra_start (ST.sel hS23 [0, 1, 2, 3, 4, 5, 6, 7, 8, 9, 10, 11, 12, 13] rfl rfl).fn (by kernel_rfl) ?_
                    have hS26 := hS23.drew
                    refine ra_q 0 53 (v := .agg #[.int .i64 r_8.Qubits, .int .i64 r_8.Phase, .slice B10 r_8.Terms.length c10, .slice B11 r_8.Out.Rows.length c11]) rfl rfl rfl (by kernel_rfl) (by kernel_rfl) (by kernel_rfl) (ST.sel hS26 [0, 1, 2, 3, 4, 5, 6, 7, 8, 9, 10, 11, 12, 13] rfl rfl) (fun w' hw' => (Y_loadA (B := some ⟨b3, 0, none⟩) (i := 0) (cs := [.int .i64 r_8.Qubits, .int .i64 r_8.Phase, .slice B10 r_8.Terms.length c10, .slice B11 r_8.Out.Rows.length c11]) (vs := [.int .i64 r_8.Qubits, .int .i64 r_8.Phase, .slice B10 r_8.Terms.length c10, .slice B11 r_8.Out.Rows.length c11]) k_ag_45 k_sz_45_4 rfl rfl (ST.cf hw' (i := 11) rfl) rfl rfl)) ?_
                    refine ra_q 1 54 (v := .agg #[.int .i64 aQ.Qubits, .int .i64 aQ.Phase, .slice B2 aQ.Terms.length c2, .slice B3 aQ.Out.Rows.length c3]) rfl rfl rfl (by kernel_rfl) (by kernel_rfl) (by kernel_rfl) (ST.sel hS26 [0, 1, 2, 3, 4, 5, 6, 7, 8, 9, 10, 11, 12, 13] rfl rfl) (fun w' hw' => (Y_loadA (B := some ⟨b1, 0, none⟩) (i := 0) (cs := [.int .i64 aQ.Qubits, .int .i64 aQ.Phase, .slice B2 aQ.Terms.length c2, .slice B3 aQ.Out.Rows.length c3]) (vs := [.int .i64 aQ.Qubits, .int .i64 aQ.Phase, .slice B2 aQ.Terms.length c2, .slice B3 aQ.Out.Rows.length c3]) k_ag_38 k_sz_38_4 rfl rfl (ST.cf hw' (i := 1) rfl) rfl rfl)) ?_
                    refine ra_all (rs := [2]) (by kernel_rfl) rfl ?_
                    refine ra_c 55 (i := 2) rfl rfl rfl (Yc_func (g := 22) (vs := [.agg #[.int .i64 aQ.Qubits, .int .i64 aQ.Phase, .slice B2 aQ.Terms.length c2, .slice B3 aQ.Out.Rows.length c3]]) k_call_22 rfl (mc rfl mn) (c_laws_toPhasePoly aQ B2 c2 aQ.Terms.length B3 c3 aQ.Out.Rows.length _ rfl rfl (hS26.inn0 [(true, 2), (true, 3)] rfl) hc10)) ?_ ?_
                    · rintro _ w_16 ⟨B14, c14, B15, c15, rfl, hd10⟩
                      have hS27 := hS26.out0 hd10
                      have hS27 : ST w0 [] _ [⟨some ⟨b, 0, none⟩, 38, [.int .i64 aP.Qubits, .int .i64 aP.Phase, .slice B aP.Terms.length c, .slice B1 aP.Out.Rows.length c1], 4⟩, ⟨some ⟨b1, 0, none⟩, 38, [.int .i64 aQ.Qubits, .int .i64 aQ.Phase, .slice B2 aQ.Terms.length c2, .slice B3 aQ.Out.Rows.length c3], 4⟩, ⟨B4, 112, (r_3.Terms.flatMap enc_Term), c4 * 2⟩, ⟨B5, 3, (r_3.Out.Rows.flatMap encI), c5 * 1⟩, ⟨B6, 112, (r_4.Terms.flatMap enc_Term), c6 * 2⟩, ⟨B7, 3, (r_4.Out.Rows.flatMap encI), c7 * 1⟩, ⟨B8, 112, (r_7.Terms.flatMap enc_Term), c8 * 2⟩, ⟨B9, 3, (r_7.Out.Rows.flatMap encI), c9 * 1⟩, ⟨some ⟨b2, 0, none⟩, 45, [.int .i64 r_7.Qubits, .int .i64 r_7.Phase, .slice B8 r_7.Terms.length c8, .slice B9 r_7.Out.Rows.length c9], 4⟩, ⟨B10, 112, (r_8.Terms.flatMap enc_Term), c10 * 2⟩, ⟨B11, 3, (r_8.Out.Rows.flatMap encI), c11 * 1⟩, ⟨some ⟨b3, 0, none⟩, 45, [.int .i64 r_8.Qubits, .int .i64 r_8.Phase, .slice B10 r_8.Terms.length c10, .slice B11 r_8.Out.Rows.length c11], 4⟩, ⟨B12, 112, (r_11.Terms.flatMap enc_Term), c12 * 2⟩, ⟨B13, 3, (r_11.Out.Rows.flatMap encI), c13 * 1⟩, ⟨B14, 112, (r_13.Terms.flatMap enc_Term), c14 * 2⟩, ⟨B15, 3, (r_13.Out.Rows.flatMap encI), c15 * 1⟩] [⟨B, (aP.Terms.flatMap enc_Term)⟩, ⟨B1, (aP.Out.Rows.flatMap encI)⟩, ⟨B2, (aQ.Terms.flatMap enc_Term)⟩, ⟨B3, (aQ.Out.Rows.flatMap encI)⟩] := hS27
                      refine ⟨(ST.sel hS27 [0, 1, 2, 3, 4, 5, 6, 7, 8, 9, 10, 11, 12, 13] rfl rfl), ?_⟩
                      refine ra_all (rs := [3]) (by kernel_rfl) rfl ?_
                      refine ra_c 56 (i := 3) rfl rfl rfl (Yc_func (g := 25) (vs := [.agg #[.int .i64 r_8.Qubits, .int .i64 r_8.Phase, .slice B10 r_8.Terms.length c10, .slice B11 r_8.Out.Rows.length c11], .agg #[.int .i64 r_13.Qubits, .int .i64 r_13.Phase, .slice B14 r_13.Terms.length c14, .slice B15 r_13.Out.Rows.length c15]]) k_call_25 rfl (mc rfl (mc rfl mn)) (c_laws_eqPhasePoly r_8 r_13 B10 c10 r_8.Terms.length B11 c11 r_8.Out.Rows.length B14 c14 r_13.Terms.length B15 c15 r_13.Out.Rows.length _ rfl rfl rfl rfl (hS27.inn0 [(false, 9), (false, 10), (false, 14), (false, 15)] rfl) hc11)) ?_ ?_
                      · rintro _ w_17 ⟨rfl, hd11⟩
                        have hS28 := hS27.out00 hd11
                        have hS28 : ST w0 [] _ [⟨some ⟨b, 0, none⟩, 38, [.int .i64 aP.Qubits, .int .i64 aP.Phase, .slice B aP.Terms.length c, .slice B1 aP.Out.Rows.length c1], 4⟩, ⟨some ⟨b1, 0, none⟩, 38, [.int .i64 aQ.Qubits, .int .i64 aQ.Phase, .slice B2 aQ.Terms.length c2, .slice B3 aQ.Out.Rows.length c3], 4⟩, ⟨B4, 112, (r_3.Terms.flatMap enc_Term), c4 * 2⟩, ⟨B5, 3, (r_3.Out.Rows.flatMap encI), c5 * 1⟩, ⟨B6, 112, (r_4.Terms.flatMap enc_Term), c6 * 2⟩, ⟨B7, 3, (r_4.Out.Rows.flatMap encI), c7 * 1⟩, ⟨B8, 112, (r_7.Terms.flatMap enc_Term), c8 * 2⟩, ⟨B9, 3, (r_7.Out.Rows.flatMap encI), c9 * 1⟩, ⟨some ⟨b2, 0, none⟩, 45, [.int .i64 r_7.Qubits, .int .i64 r_7.Phase, .slice B8 r_7.Terms.length c8, .slice B9 r_7.Out.Rows.length c9], 4⟩, ⟨B10, 112, (r_8.Terms.flatMap enc_Term), c10 * 2⟩, ⟨B11, 3, (r_8.Out.Rows.flatMap encI), c11 * 1⟩, ⟨some ⟨b3, 0, none⟩, 45, [.int .i64 r_8.Qubits, .int .i64 r_8.Phase, .slice B10 r_8.Terms.length c10, .slice B11 r_8.Out.Rows.length c11], 4⟩, ⟨B12, 112, (r_11.Terms.flatMap enc_Term), c12 * 2⟩, ⟨B13, 3, (r_11.Out.Rows.flatMap encI), c13 * 1⟩, ⟨B14, 112, (r_13.Terms.flatMap enc_Term), c14 * 2⟩, ⟨B15, 3, (r_13.Out.Rows.flatMap encI), c15 * 1⟩] [⟨B, (aP.Terms.flatMap enc_Term)⟩, ⟨B1, (aP.Out.Rows.flatMap encI)⟩, ⟨B2, (aQ.Terms.flatMap enc_Term)⟩, ⟨B3, (aQ.Out.Rows.flatMap encI)⟩] := hS28
                        refine ⟨(ST.sel hS28 [0, 1, 2, 3, 4, 5, 6, 7, 8, 9, 10, 11, 12, 13] rfl rfl), ?_⟩
                        refine ra_q 4 57 (v := .bool (!r_14)) rfl rfl rfl (by kernel_rfl) (by kernel_rfl) (by kernel_rfl) (ST.sel hS28 [0, 1, 2, 3, 4, 5, 6, 7, 8, 9, 10, 11, 12, 13] rfl rfl) (fun w' hw' => (Y_not (p := r_14) rfl rfl)) ?_
                        refine ra_done (by kernel_rfl) ?_
                        refine cw_cond (b := (!r_14)) rfl (fun hb4 => ?_) (fun hb4 => ?_)
                        · skip
                          have hF9 := ct hF8 hb4
                          refine cw_seq ?_
                          refine cw_region ?_
                          refine sq 4 rfl rfl (Y_assign (v := .bool false) rfl rfl) ?_
                          refine rw_nil ?_
                          refine cw_ret ?_
                          obtain rfl := some_inj hF9
                          exact ret1 Try.results5 (v1 := .bool false) (resAt_tmp rfl) ⟨rfl, (ST.subR (R' := []) (hS28.sel [] rfl rfl) (fun _ h => by cases h))⟩
                        · skip
                          have hF10 := cf' hF8 hb4
                          refine cw_skip ?_
                          refine cw_seq ?_
                          refine cw_region ?_
                          refine sq 4 rfl rfl (Y_assign (v := .bool true) rfl rfl) ?_
                          refine rw_nil ?_
                          refine cw_ret ?_
                          obtain rfl := some_inj hF10
                          exact ret1 Try.results5 (v1 := .bool true) (resAt_tmp rfl) ⟨rfl, (ST.subR (R' := []) (hS28.sel [] rfl rfl) (fun _ h => by cases h))⟩
                      exact allR_nil
                    exact allR_nil
                exact allR_nil
              exact allR_nil
          exact allR_nil
        exact allR_nil
      exact allR_nil
end Go.VK
