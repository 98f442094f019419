/- Walks: each Go function returns what its Lean function says. By program. -/
import Derived.Test.YtbhancgonaleoaaCheckReductionFa
import Derived.Test.YtbhancgonaleoaaCheckReductionShelf
import Derived.Test.YtbhancgonaleoaaCheckReductionW2
set_option linter.unusedVariables false
set_option maxRecDepth 100000
set_option maxHeartbeats 1000000
namespace Go.VK
open Go.RowKit
open Go.Proofs
attribute [local irreducible] CW RW RA CV Y Yw Yc Ys RetOf
attribute [local irreducible] F_laws_szTermS F_laws_szIntS F_laws_szLinear F_laws_szPhasePoly F_laws_toTerm F_laws_toTermS F_laws_toIntS F_laws_toLinear F_laws_toPhasePoly F_laws_eqTerm F_laws_eqTermS F_laws_eqIntS F_laws_eqLinear F_laws_eqPhasePoly F_spec_l1In F_spec_l1All F_spec_l1Own F_spec_l12Rank F_spec_l12Valid F_spec_l13Valid F_spec_l1Has F_spec_l1Put F_spec_l1Set F_spec_l13Parity F_spec_l15Affine F_spec_l15Codes F_spec_l13By F_spec_l13List F_spec_l15Shift F_spec_l1Same F_spec_l15SameTerms F_spec_l15Same F_spec_l13Odd F_spec_l15Nearest F_spec_l15Odd F_spec_l15Least F_spec_CheckReduction F_impl_within F_impl_isWord F_slices_Index_int_int F_slices_Contains_int_int F_slices_Clone_int_int F_math_bits_OnesCount64 F_math_bits_OnesCount F_impl_bitsIn F_slices_Sort_int_int F_impl_codeWords F_impl_IsCodeWord F_impl_areTerms F_slices_IndexFunc_int_int F_slices_ContainsFunc_int_int F_impl_IsValidLinear_1 F_impl_rankOf_1 F_slices_Delete_int_int F_impl_rankOf F_impl_IsValidLinear F_impl_IsValidPhasePoly F_impl_coefficients_add F_impl_coefficients_terms F_impl_ShiftBy F_impl_nearest F_impl_oddWord F_impl_LeastT F_slices_Equal_impl_Term_impl_Term F_slices_Equal_int_int F_impl_equalPolys F_impl_oddTerms F_impl_CheckReduction F_laws_FnExactCheckReduction
theorem c_impl_IsValidPhasePoly (p : TPhasePoly) (B : Option Addr) (c n : Nat) (B1 : Option Addr) (c1 n1 : Nat) (w0 : World) (hn : p.Terms.length = n) (hn1 : p.Out.Rows.length = n1) (hS : ST w0 [] w0 [] [⟨B, (p.Terms.flatMap enc_Term)⟩, ⟨B1, (p.Out.Rows.flatMap encI)⟩]) {r_ : Bool} (hF : F_impl_IsValidPhasePoly p = some r_) :
    CV Try.prog 54 #[.agg #[.int .i64 p.Qubits, .int .i64 p.Phase, .slice B n c, .slice B1 n1 c1]] w0 (fun v w' => v = .bool r_ ∧ ST w0 [] w' [] []) := by
  subst hn
  subst hn1
  unfold F_impl_IsValidPhasePoly at hF
  refine cv_of_cw 32 Try.func54 rfl Try.ntmps54 rfl ?_
  refine cw_seq ?_
  refine cw_region ?_
  refine ss 1 rfl rfl (Ys_box (T := 50) (v := .agg #[.int .i64 p.Qubits, .int .i64 p.Phase, .slice B p.Terms.length c, .slice B1 p.Out.Rows.length c1]) (cs := [.int .i64 p.Qubits, .int .i64 p.Phase, .slice B p.Terms.length c, .slice B1 p.Out.Rows.length c1]) (m := 4) hS rfl rfl rfl rfl) ?_
  rintro _ w_ ⟨b, rfl, hS1⟩
  refine sq 2 rfl rfl (Y_assign (v := .bool false) rfl rfl) ?_
  refine rw_nil ?_
  refine cw_seq ?_
  refine cw_region ?_
  refine sq 3 rfl rfl (Y_fieldAddr (B := some ⟨b, 0, none⟩) (i := 0) (s := 0) k_fd_50_0_0_3 k_sz_3_1 rfl rfl) ?_
  refine sq 4 rfl rfl (Y_load1 (B := some ⟨b, 0, none⟩) (i := 0) (cs := [.int .i64 p.Qubits, .int .i64 p.Phase, .slice B p.Terms.length c, .slice B1 p.Out.Rows.length c1]) (v := .int .i64 p.Qubits) k_sc_3 rfl rfl (hS1.cf (i := 0) rfl) rfl) ?_
  obtain ⟨r_1, hc, hF⟩ := bind_inv hF
  refine sc 5 rfl rfl (Yc_func (g := 36) (vs := [.int .i64 p.Qubits, .int .i64 1, .int .i64 5]) k_call_36 rfl (mc rfl (mc rfl (mc rfl mn))) (c_impl_within p.Qubits 1 5 _  (hS1.inn0 [] rfl) hc)) ?_
  rintro _ w_1 ⟨rfl, hd⟩
  have hS2 := hS1.out00 hd
  refine sq 6 rfl rfl (Y_move (v := .bool r_1) rfl rfl) ?_
  refine sgq 7 (B := r_1) (v := pt (some ⟨b, 0, none⟩) 1) rfl rfl (wt_t (gd_of (t := 6) (by kernel_rfl) rfl)) (fun hg => (Y_fieldAddr (B := some ⟨b, 0, none⟩) (i := 0) (s := 0) k_fd_50_1_1_3 k_sz_3_1 rfl rfl)) ?_
  refine sgq 8 (B := r_1) (v := .int .i64 p.Phase) rfl rfl (wt_t (gd_of (t := 6) (by kernel_rfl) rfl)) (fun hg1 => (Y_load1 (B := some ⟨b, 0, none⟩) (i := 1) (cs := [.int .i64 p.Qubits, .int .i64 p.Phase, .slice B p.Terms.length c, .slice B1 p.Out.Rows.length c1]) (v := .int .i64 p.Phase) k_sc_3 rfl (gv_of (B := r_1) (v := pt (some ⟨b, 0, none⟩) 1) hg1) (hS2.cf (i := 0) rfl) rfl)) ?_
  obtain ⟨r_2, hc1, hF⟩ := bind_inv hF
  refine sgc 9 (B := r_1) (v := .bool r_2) (F := hS2.fn) rfl rfl (wt_t (gd_of (t := 6) (by kernel_rfl) rfl)) hS2 (fun hg2 => (Yc_func (g := 36) (vs := [.int .i64 p.Phase, .int .i64 0, .int .i64 7]) k_call_36 rfl (mc (gv_of (B := r_1) (v := .int .i64 p.Phase) hg2) (mc rfl (mc rfl mn))) (CV.mono (c_impl_within p.Phase 0 7 _  (hS2.inn0 [] rfl) (gb_inv hc1 hg2)) (by rintro _ _ ⟨rfl, h⟩; exact ⟨rfl, hS2.out00 h⟩)))) ?_
  rintro w_2 hS3
  have hS3 : ST _ _ w_2 _ _ := hS3
  refine sq 10 rfl rfl (Y_and (b := r_1) (z := r_2) rfl rfl rfl rfl) ?_
  refine sq 11 rfl rfl (Y_move (v := .bool (r_1 && r_2)) rfl rfl) ?_
  refine sgq 12 (B := (r_1 && r_2)) (v := pt (some ⟨b, 0, none⟩) 0) rfl rfl (wt_t (gd_of (t := 11) (by kernel_rfl) rfl)) (fun hg3 => (Y_fieldAddr (B := some ⟨b, 0, none⟩) (i := 0) (s := 0) k_fd_50_0_0_3 k_sz_3_1 rfl rfl)) ?_
  refine sgq 13 (B := (r_1 && r_2)) (v := .int .i64 p.Qubits) rfl rfl (wt_t (gd_of (t := 11) (by kernel_rfl) rfl)) (fun hg4 => (Y_load1 (B := some ⟨b, 0, none⟩) (i := 0) (cs := [.int .i64 p.Qubits, .int .i64 p.Phase, .slice B p.Terms.length c, .slice B1 p.Out.Rows.length c1]) (v := .int .i64 p.Qubits) k_sc_3 rfl (gv_of (B := (r_1 && r_2)) (v := pt (some ⟨b, 0, none⟩) 0) hg4) (hS3.cf (i := 0) rfl) rfl)) ?_
  refine sgq 14 (B := (r_1 && r_2)) (v := pt (some ⟨b, 0, none⟩) 2) rfl rfl (wt_t (gd_of (t := 11) (by kernel_rfl) rfl)) (fun hg5 => (Y_fieldAddr (B := some ⟨b, 0, none⟩) (i := 0) (s := 0) k_fd_50_2_2_47 k_sz_47_1 rfl rfl)) ?_
  refine sgq 15 (B := (r_1 && r_2)) (v := .slice B p.Terms.length c) rfl rfl (wt_t (gd_of (t := 11) (by kernel_rfl) rfl)) (fun hg6 => (Y_load1 (B := some ⟨b, 0, none⟩) (i := 2) (cs := [.int .i64 p.Qubits, .int .i64 p.Phase, .slice B p.Terms.length c, .slice B1 p.Out.Rows.length c1]) (v := .slice B p.Terms.length c) k_sc_47 rfl (gv_of (B := (r_1 && r_2)) (v := pt (some ⟨b, 0, none⟩) 2) hg6) (hS3.cf (i := 0) rfl) rfl)) ?_
  obtain ⟨r_3, hc2, hF⟩ := bind_inv hF
  refine sgc 16 (B := (r_1 && r_2)) (v := .bool r_3) (F := hS3.fn) rfl rfl (wt_t (gd_of (t := 11) (by kernel_rfl) rfl)) hS3 (fun hg7 => (Yc_func (g := 105) (vs := [.int .i64 p.Qubits, .slice B p.Terms.length c]) k_call_105 rfl (mc (gv_of (B := (r_1 && r_2)) (v := .int .i64 p.Qubits) hg7) (mc (gv_of (B := (r_1 && r_2)) (v := .slice B p.Terms.length c) hg7) mn)) (CV.mono (c_impl_areTerms p.Qubits p.Terms B c p.Terms.length _ rfl (hS3.inn0 [(true, 0)] rfl) (gb_inv hc2 hg7)) (by rintro _ _ ⟨rfl, h⟩; exact ⟨rfl, hS3.out00 h⟩)))) ?_
  rintro w_3 hS4
  have hS4 : ST _ _ w_3 _ _ := hS4
  refine sq 17 rfl rfl (Y_and (b := (r_1 && r_2)) (z := r_3) rfl rfl rfl rfl) ?_
  refine sq 18 rfl rfl (Y_move (v := .bool ((r_1 && r_2) && r_3)) rfl rfl) ?_
  refine sgq 19 (B := ((r_1 && r_2) && r_3)) (v := pt (some ⟨b, 0, none⟩) 3) rfl rfl (wt_t (gd_of (t := 18) (by kernel_rfl) rfl)) (fun hg8 => (Y_fieldAddr (B := some ⟨b, 0, none⟩) (i := 0) (s := 0) k_fd_50_3_3_48 k_sz_48_1 rfl rfl)) ?_
  refine sgq 20 (B := ((r_1 && r_2) && r_3)) (v := pt (some ⟨b, 0, none⟩) 3) rfl rfl (wt_t (gd_of (t := 18) (by kernel_rfl) rfl)) (fun hg9 => (Y_fieldAddr (B := some ⟨b, 0, none⟩) (i := 3) (s := 0) k_fd_48_0_0_41 k_sz_41_1 rfl (gv_of (B := ((r_1 && r_2) && r_3)) (v := pt (some ⟨b, 0, none⟩) 3) hg9))) ?_
  refine sgq 21 (B := ((r_1 && r_2) && r_3)) (v := .slice B1 p.Out.Rows.length c1) rfl rfl (wt_t (gd_of (t := 18) (by kernel_rfl) rfl)) (fun hg10 => (Y_load1 (B := some ⟨b, 0, none⟩) (i := 3) (cs := [.int .i64 p.Qubits, .int .i64 p.Phase, .slice B p.Terms.length c, .slice B1 p.Out.Rows.length c1]) (v := .slice B1 p.Out.Rows.length c1) k_sc_41 rfl (gv_of (B := ((r_1 && r_2) && r_3)) (v := pt (some ⟨b, 0, none⟩) 3) hg10) (hS4.cf (i := 0) rfl) rfl)) ?_
  refine sgq 22 (B := ((r_1 && r_2) && r_3)) (v := .int .i64 (p.Out.Rows.length : Int)) rfl rfl (wt_t (gd_of (t := 18) (by kernel_rfl) rfl)) (fun hg11 => (Y_len (B := B1) (m := p.Out.Rows.length) (c := c1) k_sl_41_3 rfl (gv_of (B := ((r_1 && r_2) && r_3)) (v := .slice B1 p.Out.Rows.length c1) hg11))) ?_
  refine sgq 23 (B := ((r_1 && r_2) && r_3)) (v := pt (some ⟨b, 0, none⟩) 0) rfl rfl (wt_t (gd_of (t := 18) (by kernel_rfl) rfl)) (fun hg12 => (Y_fieldAddr (B := some ⟨b, 0, none⟩) (i := 0) (s := 0) k_fd_50_0_0_3 k_sz_3_1 rfl rfl)) ?_
  refine sgq 24 (B := ((r_1 && r_2) && r_3)) (v := .int .i64 p.Qubits) rfl rfl (wt_t (gd_of (t := 18) (by kernel_rfl) rfl)) (fun hg13 => (Y_load1 (B := some ⟨b, 0, none⟩) (i := 0) (cs := [.int .i64 p.Qubits, .int .i64 p.Phase, .slice B p.Terms.length c, .slice B1 p.Out.Rows.length c1]) (v := .int .i64 p.Qubits) k_sc_3 rfl (gv_of (B := ((r_1 && r_2) && r_3)) (v := pt (some ⟨b, 0, none⟩) 0) hg13) (hS4.cf (i := 0) rfl) rfl)) ?_
  refine sgq 25 (B := ((r_1 && r_2) && r_3)) (v := .bool ((p.Out.Rows.length : Int) == p.Qubits)) rfl rfl (wt_t (gd_of (t := 18) (by kernel_rfl) rfl)) (fun hg14 => (Y_eq (k := .i64) (a := (p.Out.Rows.length : Int)) (b := p.Qubits) rfl (gv_of (B := ((r_1 && r_2) && r_3)) (v := .int .i64 (p.Out.Rows.length : Int)) hg14) (gv_of (B := ((r_1 && r_2) && r_3)) (v := .int .i64 p.Qubits) hg14))) ?_
  refine sq 26 rfl rfl (Y_and (b := ((r_1 && r_2) && r_3)) (z := ((p.Out.Rows.length : Int) == p.Qubits)) rfl rfl rfl rfl) ?_
  refine sq 27 rfl rfl (Y_move (v := .bool (((r_1 && r_2) && r_3) && ((p.Out.Rows.length : Int) == p.Qubits))) rfl rfl) ?_
  refine sgq 28 (B := (((r_1 && r_2) && r_3) && ((p.Out.Rows.length : Int) == p.Qubits))) (v := pt (some ⟨b, 0, none⟩) 3) rfl rfl (wt_t (gd_of (t := 27) (by kernel_rfl) rfl)) (fun hg15 => (Y_fieldAddr (B := some ⟨b, 0, none⟩) (i := 0) (s := 0) k_fd_50_3_3_48 k_sz_48_1 rfl rfl)) ?_
  refine sgq 29 (B := (((r_1 && r_2) && r_3) && ((p.Out.Rows.length : Int) == p.Qubits))) (v := .agg #[.slice B1 p.Out.Rows.length c1]) rfl rfl (wt_t (gd_of (t := 27) (by kernel_rfl) rfl)) (fun hg16 => (Y_loadA (B := some ⟨b, 0, none⟩) (i := 3) (cs := [.int .i64 p.Qubits, .int .i64 p.Phase, .slice B p.Terms.length c, .slice B1 p.Out.Rows.length c1]) (vs := [.slice B1 p.Out.Rows.length c1]) k_ag_48 k_sz_48_1 rfl (gv_of (B := (((r_1 && r_2) && r_3) && ((p.Out.Rows.length : Int) == p.Qubits))) (v := pt (some ⟨b, 0, none⟩) 3) hg16) (hS4.cf (i := 0) rfl) rfl rfl)) ?_
  obtain ⟨r_4, hc3, hF⟩ := bind_inv hF
  refine sgc 30 (B := (((r_1 && r_2) && r_3) && ((p.Out.Rows.length : Int) == p.Qubits))) (v := .bool r_4) (F := hS4.fn) rfl rfl (wt_t (gd_of (t := 27) (by kernel_rfl) rfl)) hS4 (fun hg17 => (Yc_func (g := 106) (vs := [.agg #[.slice B1 p.Out.Rows.length c1]]) k_call_106 rfl (mc (gv_of (B := (((r_1 && r_2) && r_3) && ((p.Out.Rows.length : Int) == p.Qubits))) (v := .agg #[.slice B1 p.Out.Rows.length c1]) hg17) mn) (CV.mono (c_impl_IsValidLinear p.Out B1 c1 p.Out.Rows.length _ rfl (hS4.inn0 [(true, 1)] rfl) (gb_inv hc3 hg17)) (by rintro _ _ ⟨rfl, h⟩; exact ⟨rfl, hS4.out00 h⟩)))) ?_
  rintro w_4 hS5
  have hS5 : ST _ _ w_4 _ _ := hS5
  refine sq 31 rfl rfl (Y_and (b := (((r_1 && r_2) && r_3) && ((p.Out.Rows.length : Int) == p.Qubits))) (z := r_4) rfl rfl rfl rfl) ?_
  refine sq 2 rfl rfl (Y_assign (v := .bool ((((r_1 && r_2) && r_3) && ((p.Out.Rows.length : Int) == p.Qubits)) && r_4)) rfl rfl) ?_
  refine rw_nil ?_
  refine cw_ret ?_
  obtain rfl := some_inj hF
  exact ret1 Try.results54 (v1 := .bool ((((r_1 && r_2) && r_3) && ((p.Out.Rows.length : Int) == p.Qubits)) && r_4)) (resAt_tmp rfl) ⟨rfl, (ST.subR (R' := []) (hS5.sel [] rfl rfl) (fun _ h => by cases h))⟩

theorem c_impl_coefficients_add (c : List Int) (mask : Int) (coef : Int) (B : Option Addr) (w0 : World) (hlen : c.length = 32) (hS : ST w0 (bl [⟨B, 93, (c.flatMap encI), 32⟩]) w0 [⟨B, 93, (c.flatMap encI), 32⟩] []) {m : List Int} (hF : F_impl_coefficients_add c mask coef = some m) :
    CV Try.prog 55 #[pt B 0, .int .i64 mask, .int .i64 coef] w0 (fun v w' => v = .tuple #[] ∧ m.length = 32 ∧ ST w0 (bl [⟨B, 93, (c.flatMap encI), 32⟩]) w' [⟨B, 93, (m.flatMap encI), 32⟩] []) := by
  unfold F_impl_coefficients_add at hF
  refine cv_of_cw 20 Try.func55 rfl Try.ntmps55 rfl ?_
  obtain ⟨x, hx, hF⟩ := bind_inv hF
  refine ra_start (ST.sel hS [] rfl rfl).fn (by kernel_rfl) ?_
  have hS1 := hS.drew
  refine ra_q 0 6 (v := pt B 0) rfl rfl rfl (by kernel_rfl) (by kernel_rfl) (by kernel_rfl) (ST.sel hS1 [] rfl rfl) (fun w' hw' => (Y_move (v := pt B 0) rfl rfl)) ?_
  refine ra_q 1 7 (v := .int .i64 mask) rfl rfl rfl (by kernel_rfl) (by kernel_rfl) (by kernel_rfl) (ST.sel hS1 [] rfl rfl) (fun w' hw' => (Y_move (v := .int .i64 mask) rfl rfl)) ?_
  refine ra_q 2 8 (v := pt B 0) rfl rfl rfl (by kernel_rfl) (by kernel_rfl) (by kernel_rfl) (ST.sel hS1 [] rfl rfl) (fun w' hw' => (Y_move (v := pt B 0) rfl rfl)) ?_
  refine ra_q 3 9 (v := .int .i64 mask) rfl rfl rfl (by kernel_rfl) (by kernel_rfl) (by kernel_rfl) (ST.sel hS1 [] rfl rfl) (fun w' hw' => (Y_move (v := .int .i64 mask) rfl rfl)) ?_
  refine ra_q 4 10 (v := pt B 0) rfl rfl rfl (by kernel_rfl) (by kernel_rfl) (by kernel_rfl) (ST.sel hS1 [] rfl rfl) (fun w' hw' => (Y_nilCheck (B := B) (i := 0) rfl rfl)) ?_
  refine ra_q 5 11 (v := pt B (mask.toNat * 1)) rfl rfl rfl (by kernel_rfl) (by kernel_rfl) (by kernel_rfl) (ST.sel hS1 [] rfl rfl) (fun w' hw' => (Y_indexArr0 (B := B) (k := .i64) (i := mask) k_ar_93_32_3 k_sz_3_1 rfl rfl rfl (getI_nn hx) (getI_ltI hx hlen))) ?_
  refine ra_q 7 13 (v := .int .i64 coef) rfl rfl rfl (by kernel_rfl) (by kernel_rfl) (by kernel_rfl) (ST.sel hS1 [] rfl rfl) (fun w' hw' => (Y_move (v := .int .i64 coef) rfl rfl)) ?_
  refine ra_q 12 18 (v := pt B 0) rfl rfl rfl (by kernel_rfl) (by kernel_rfl) (by kernel_rfl) (ST.sel hS1 [] rfl rfl) (fun w' hw' => (Y_nilCheck (B := B) (i := 0) rfl rfl)) ?_
  refine ra_all (rs := [6]) (by kernel_rfl) rfl ?_
  refine ra_y 12 (i := 6) (v := .int .i64 x) rfl rfl rfl (Y_load1 (B := B) (i := mask.toNat * 1) (cs := (c.flatMap encI)) (v := .int .i64 x) k_sc_3 rfl rfl (hS1.cf (i := 0) rfl) (gi_at0 encI_len hx rfl)) (ST.sel hS1 [] rfl rfl) ?_ ?_
  · skip
    refine ra_q 8 14 (v := .int .i64 (IntKind.i64.wrap (x + coef))) rfl rfl rfl (by kernel_rfl) (by kernel_rfl) (by kernel_rfl) (ST.sel hS1 [] rfl rfl) (fun w' hw' => (Y_add (k := .i64) (a := x) (b := coef) rfl rfl rfl)) ?_
    refine ra_q 9 15 (v := .int .i64 (Int.tmod (IntKind.i64.wrap (x + coef)) 8)) rfl rfl rfl (by kernel_rfl) (by kernel_rfl) (by kernel_rfl) (ST.sel hS1 [] rfl rfl) (fun w' hw' => (Y_rem (k := .i64) (a := (IntKind.i64.wrap (x + coef))) (b := 8) rfl rfl rfl (by decide))) ?_
    refine ra_q 10 16 (v := .int .i64 (IntKind.i64.wrap ((Int.tmod (IntKind.i64.wrap (x + coef)) 8) + 8))) rfl rfl rfl (by kernel_rfl) (by kernel_rfl) (by kernel_rfl) (ST.sel hS1 [] rfl rfl) (fun w' hw' => (Y_add (k := .i64) (a := (Int.tmod (IntKind.i64.wrap (x + coef)) 8)) (b := 8) rfl rfl rfl)) ?_
    refine ra_q 11 17 (v := .int .i64 (Int.tmod (IntKind.i64.wrap ((Int.tmod (IntKind.i64.wrap (x + coef)) 8) + 8)) 8)) rfl rfl rfl (by kernel_rfl) (by kernel_rfl) (by kernel_rfl) (ST.sel hS1 [] rfl rfl) (fun w' hw' => (Y_rem (k := .i64) (a := (IntKind.i64.wrap ((Int.tmod (IntKind.i64.wrap (x + coef)) 8) + 8))) (b := 8) rfl rfl rfl (by decide))) ?_
    refine ra_q 13 19 (v := pt B (mask.toNat * 1)) rfl rfl rfl (by kernel_rfl) (by kernel_rfl) (by kernel_rfl) (ST.sel hS1 [] rfl rfl) (fun w' hw' => (Y_indexArr0 (B := B) (k := .i64) (i := mask) k_ar_93_32_3 k_sz_3_1 rfl rfl rfl (getI_nn hx) (getI_ltI hx hlen))) ?_
    refine ra_all (rs := [14]) (by kernel_rfl) rfl ?_
    refine ra_s0 (i := 14) rfl rfl rfl (Ys_store (i := 0) (s := 1) (B := B) (T' := 93) (v := .int .i64 (Int.tmod (IntKind.i64.wrap ((Int.tmod (IntKind.i64.wrap (x + coef)) 8) + 8)) 8)) (vs := [.int .i64 (Int.tmod (IntKind.i64.wrap ((Int.tmod (IntKind.i64.wrap (x + coef)) 8) + 8)) 8)]) (k := mask.toNat * 1) (cs' := ((c.set mask.toNat (Int.tmod (IntKind.i64.wrap ((Int.tmod (IntKind.i64.wrap (x + coef)) 8) + 8)) 8)).flatMap encI)) hS1 k_sz_3_1 rfl rfl rfl rfl rfl rfl rfl (gi_fit0 encI_len hx) (gi_set encI_len hx (Int.tmod (IntKind.i64.wrap ((Int.tmod (IntKind.i64.wrap (x + coef)) 8) + 8)) 8) rfl) rfl) ?_ ?_
    · rintro _ w_ ⟨rfl, hS2⟩
      refine ⟨(ST.sel hS2 [] rfl rfl), ?_⟩
      refine ra_done (by kernel_rfl) ?_
      obtain rfl := some_inj hF
      exact ret0 Try.results55  ⟨rfl, (set_len _ _ _ hlen), (ST.subR (R' := []) (hS2.sel [0] rfl rfl) (fun _ h => by cases h))⟩
    exact allR_nil
  exact allR_nil

theorem c_impl_coefficients_terms (c : List Int)  (w0 : World) (hlen : c.length = 32) (hS : ST w0 [] w0 [] []) {r_ : List TTerm} (hF : F_impl_coefficients_terms c = some r_) :
    CV Try.prog 56 #[.agg (c.flatMap encI).toArray] w0 (fun v w' => ∃ (B : Option Addr) (c1 : Nat), v = .slice B r_.length c1 ∧ ST w0 [] w' [⟨B, 95, (r_.flatMap enc_Term), c1 * 2⟩] []) := by
  unfold F_impl_coefficients_terms at hF
  refine cv_of_cw 26 Try.func56 rfl Try.ntmps56 rfl ?_
  refine cw_seq ?_
  refine cw_region ?_
  refine ss 1 rfl rfl (Ys_box (T := 93) (v := .agg (c.flatMap encI).toArray) (cs := (c.flatMap encI)) (m := 32) hS rfl rfl rfl (fm_lenn2 encI_len hlen rfl)) ?_
  rintro _ w_ ⟨b, rfl, hS1⟩
  refine sq 2 rfl rfl (Y_assign (v := .slice none 0 0) rfl rfl) ?_
  refine rw_nil ?_
  refine cw_seq ?_
  refine cw_region ?_
  refine ss 6 rfl rfl (Ys_bslice0 (s := 2) (e := 95) hS1 k_sl_47_95 k_sz_95_2 rfl) ?_
  rintro _ w_1 ⟨b1, rfl, hS2⟩
  have hS2 : ST w0 [] _ [⟨some ⟨b, 0, none⟩, 93, (c.flatMap encI), 32⟩, ⟨some ⟨b1, 0, none⟩, 95, ([].flatMap enc_Term), 0 * 2⟩] [] := hS2
  refine sq 3 rfl rfl (Y_assign (v := .slice (some ⟨b1, 0, none⟩) 0 0) rfl rfl) ?_
  refine rw_nil ?_
  refine cw_seq ?_
  refine cw_seq ?_
  refine cw_region ?_
  refine sq 7 rfl rfl (Y_loadA (B := some ⟨b, 0, none⟩) (i := 0) (cs := (c.flatMap encI)) (vs := (c.flatMap encI)) k_ag_93 k_sz_93_32 rfl rfl (hS2.cf (i := 0) rfl) (fm_lenn2 encI_len hlen rfl) (fm_whole encI_len hlen rfl)) ?_
  refine sq 8 rfl rfl (Y_move (v := .int .i64 0) rfl rfl) ?_
  refine rw_nil ?_
  obtain ⟨z, hz, hF1⟩ := bind_inv hF
  refine cw_block ?_
  refine cw_loop (fun k f w => ∃ (i : Nat) (out : List TTerm) (B1 : Option Addr) (c2 : Nat), FF f [(3, .slice B1 out.length c2), (7, .agg (c.flatMap encI).toArray), (8, .int .i64 (i : Int))] ∧ ST w0 [] w [⟨B1, 95, (out.flatMap enc_Term), c2 * 2⟩] [] ∧ i + k = 32 ∧ forN (F_impl_coefficients_terms_l1 c) k i out = some z) 32 ⟨0, [], some ⟨b1, 0, none⟩, 0, (FF.cons rfl (FF.cons rfl (FF.cons rfl FF.nil))), (hS2.sel [1] rfl rfl), Nat.zero_add _, hz⟩ ?_
  rintro k_ f w ⟨i, out, B1, c2, hf, hS3, hik, hL⟩
  refine cw_seq ?_
  refine cw_region ?_
  refine sq 9 rfl rfl (Y_lt (k := .i64) (a := (i : Int)) (b := 32) rfl (hf.get 8 2 rfl) rfl) ?_
  refine rw_nil ?_
  refine cw_seq ?_
  refine cw_cond (b := (decide ((i : Int) < 32))) rfl (fun hlt => ?_) (fun hlt => ?_)
  · skip
    have hlt1 : i < 32 := by have h := of_decide_eq_true hlt; omega
    obtain ⟨k_1, rfl⟩ : ∃ k2, k_ = k2 + 1 := ⟨k_ - 1, by omega⟩
    obtain ⟨y, hb, hL1⟩ := forN_go hL
    unfold F_impl_coefficients_terms_l1 at hb
    refine cw_skip ?_
    refine cw_seq ?_
    obtain ⟨z1, hz1, hF2⟩ := bind_inv hb
    refine cw_mid (fun f w => ∃ (out1 : List TTerm) (B2 : Option Addr) (c3 : Nat), out1 = z1 ∧ FF f [(3, .slice B2 out1.length c3), (7, .agg (c.flatMap encI).toArray), (8, .int .i64 (i : Int))] ∧ ST w0 [] w [⟨B2, 95, (out1.flatMap enc_Term), c3 * 2⟩] []) ?_ ?_
    · skip
      refine cw_block ?_
      refine cw_seq ?_
      refine cw_region ?_
      refine sq 10 rfl rfl (Y_move (v := .int .i64 (i : Int)) rfl (hf.get 8 2 rfl)) ?_
      obtain ⟨x, hx, hz1⟩ := bind_inv hz1
      refine sq 11 rfl rfl (Y_idx1 (cl := (c.flatMap encI)) (k := .i64) (i := (i : Int)) (v := .int .i64 x) k_ar_93_32_3 k_sz_3_1 k_sc_3 rfl (hf.get 7 1 rfl) (hf.get 8 2 rfl) (getI_nn hx) (getI_ltI hx hlen) (gi_at0 encI_len hx rfl)) ?_
      refine sq 4 rfl rfl (Y_assign (v := .int .i64 (i : Int)) rfl rfl) ?_
      refine sq 5 rfl rfl (Y_assign (v := .int .i64 x) rfl rfl) ?_
      refine rw_nil ?_
      refine cw_seq ?_
      refine cw_region ?_
      refine sq 12 rfl rfl (Y_move (v := .int .i64 (i : Int)) rfl rfl) ?_
      refine sq 13 rfl rfl (Y_gt (k := .i64) (a := (i : Int)) (b := 0) rfl rfl rfl) ?_
      refine sq 14 rfl rfl (Y_move (v := .bool (decide (0 < (i : Int)))) rfl rfl) ?_
      refine sgq 15 (B := (decide (0 < (i : Int)))) (v := .int .i64 x) rfl rfl (wt_t (gd_of (t := 14) (by kernel_rfl) rfl)) (fun hg => (Y_move (v := .int .i64 x) rfl rfl)) ?_
      refine sgq 16 (B := (decide (0 < (i : Int)))) (v := .bool (decide (0 < x))) rfl rfl (wt_t (gd_of (t := 14) (by kernel_rfl) rfl)) (fun hg1 => (Y_gt (k := .i64) (a := x) (b := 0) rfl (gv_of (B := (decide (0 < (i : Int)))) (v := .int .i64 x) hg1) rfl)) ?_
      refine sq 17 rfl rfl (Y_and (b := (decide (0 < (i : Int)))) (z := (decide (0 < x))) rfl rfl rfl rfl) ?_
      refine rw_nil ?_
      refine cw_cond (b := ((decide (0 < (i : Int))) && (decide (0 < x)))) rfl (fun hb1 => ?_) (fun hb1 => ?_)
      · skip
        have hF3 := ct hz1 hb1
        refine cw_region ?_
        refine sq 18 rfl rfl (Y_move (v := .slice B1 out.length c2) rfl (hf.get 3 0 rfl)) ?_
        refine sq 19 rfl rfl (Y_move (v := .int .i64 (i : Int)) rfl rfl) ?_
        refine sq 20 rfl rfl (Y_move (v := .int .i64 x) rfl rfl) ?_
        refine sq 21 rfl rfl (Y_buildS (zs := [.int .i64 0, .int .i64 0]) (vs := [(0, .int .i64 (i : Int)), (1, .int .i64 x)]) (cs := [.int .i64 (i : Int), .int .i64 x]) k_pl_95 k_zero_95 rfl (mpc rfl (mpc rfl mpn)) rfl) ?_
        refine ss 22 rfl rfl (Ys_bslice (s := 2) (len := 1) (vs := [(0, .agg #[.int .i64 (i : Int), .int .i64 x])]) (cs := [.int .i64 (i : Int), .int .i64 x]) (zs := [.int .i64 0, .int .i64 0]) (m := 2) hS3 k_sl_47_95 k_sz_95_2 k_zc_95 rfl (mpc rfl mpn) rfl rfl rfl (by kernel_rfl) (by kernel_rfl) rfl) ?_
        rintro _ w_2 ⟨b2, rfl, hS5⟩
        have hS5 : ST w0 [] _ [⟨B1, 95, (out.flatMap enc_Term), c2 * 2⟩, ⟨some ⟨b2, 0, none⟩, 95, ([(TTerm.mk (i : Int) x)].flatMap enc_Term), 1 * 2⟩] [] := hS5
        obtain ⟨hap, hF3⟩ := chk_inv hF3
        refine ss 23 rfl rfl (Ys_append (s := 2) (by' := 16) (i := 0) (nn := out.length) (c := c2) (k := 1) (len := (out ++ [(TTerm.mk (i : Int) x)]).length) (B := B1) (xs := ([(TTerm.mk (i : Int) x)].flatMap enc_Term)) (cs' := ((out ++ [(TTerm.mk (i : Int) x)]).flatMap enc_Term)) hS5 k_sl_47_95 k_sz_95_2 k_by_95_16 k_zero_95 rfl (by decide) rfl rfl rfl rfl (fm_lenn (l := out) enc_Term_len rfl) rfl (hS5.cf (i := 1) rfl) (fm_lenn (l := [(TTerm.mk (i : Int) x)]) enc_Term_len rfl) (fm_one' (enc := enc_Term) enc_Term_one [(TTerm.mk (i : Int) x)]) (by have := hap; omega) (by have := hap; simp only [maxLen]; omega) (fm_app _ _) (app_len (l := out) (l' := [(TTerm.mk (i : Int) x)]) rfl rfl)) ?_
        rintro _ w_3 ⟨B3, c4, rfl, hS6⟩
        have hS6 : ST w0 [] _ [⟨B3, 95, ((out ++ [(TTerm.mk (i : Int) x)]).flatMap enc_Term), c4 * 2⟩, ⟨some ⟨b2, 0, none⟩, 95, ([(TTerm.mk (i : Int) x)].flatMap enc_Term), 1 * 2⟩] [] := hS6
        refine sq 3 rfl rfl (Y_assign (v := .slice B3 ((out ++ [(TTerm.mk (i : Int) x)]).length) c4) rfl rfl) ?_
        refine rw_nil ?_
        exact ⟨(out ++ [(TTerm.mk (i : Int) x)]), B3, c4, (some_inj hF3), (FF.cons rfl (FF.cons (hf.get 7 1 rfl) (FF.cons (hf.get 8 2 rfl) FF.nil))), (hS6.sel [0] rfl rfl)⟩
      · skip
        have hF4 := cf' hz1 hb1
        refine cw_skip ?_
        exact ⟨out, B1, c2, (some_inj hF4), (FF.cons (hf.get 3 0 rfl) (FF.cons (hf.get 7 1 rfl) (FF.cons (hf.get 8 2 rfl) FF.nil))), (hS3.sel [0] rfl rfl)⟩
    rintro f w ⟨out1, B2, c3, rfl, hf1, hS4⟩
    refine cw_region ?_
    refine sq 24 rfl rfl (Y_add (k := .i64) (a := (i : Int)) (b := 1) rfl (hf1.get 8 2 rfl) rfl) ?_
    refine sq 8 rfl rfl (Y_move (v := .int .i64 (IntKind.i64.wrap ((i : Int) + 1))) rfl rfl) ?_
    refine rw_nil ?_
    obtain rfl := some_inj hF2
    exact ⟨k_1, Nat.lt_succ_self _, i + 1, out1, B2, c3, (FF.cons (hf1.get 3 0 rfl) (FF.cons (hf1.get 7 1 rfl) (FF.cons (congrArg (Value.int .i64) (wr_succ hlt1 (show 32 ≤ 9223372036854775807 by decide))) FF.nil))), (hS4.sel [0] rfl rfl), (by omega), hL1⟩
  · skip
    obtain rfl : k_ = 0 := by have h := of_decide_eq_false hlt; omega
    refine cw_exit rfl ?_
    obtain rfl := some_inj hL
    refine cw_seq ?_
    refine cw_region ?_
    refine sq 25 rfl rfl (Y_move (v := .slice B1 out.length c2) rfl (hf.get 3 0 rfl)) ?_
    refine sq 2 rfl rfl (Y_assign (v := .slice B1 out.length c2) rfl rfl) ?_
    refine rw_nil ?_
    refine cw_ret ?_
    obtain rfl := some_inj hF1
    exact ret1 Try.results56 (v1 := .slice B1 out.length c2) (resAt_tmp rfl) ⟨B1, c2, rfl, (ST.subR (R' := []) (hS3.sel [0] rfl rfl) (fun _ h => by cases h))⟩

theorem c_impl_ShiftBy (p : TPhasePoly) (word : Int) (B : Option Addr) (c n : Nat) (B1 : Option Addr) (c1 n1 : Nat) (w0 : World) (hn : p.Terms.length = n) (hn1 : p.Out.Rows.length = n1) (hS : ST w0 [] w0 [] [⟨B, (p.Terms.flatMap enc_Term)⟩, ⟨B1, (p.Out.Rows.flatMap encI)⟩]) {r_ : TPhasePoly} {r_1 : Bool} (hF : F_impl_ShiftBy p word = some (r_, r_1)) :
    CV Try.prog 19 #[.agg #[.int .i64 p.Qubits, .int .i64 p.Phase, .slice B n c, .slice B1 n1 c1], .int .i64 word] w0 (fun v w' => ∃ (B2 : Option Addr) (c2 : Nat) (B3 : Option Addr) (c3 : Nat), v = .tuple #[.agg #[.int .i64 r_.Qubits, .int .i64 r_.Phase, .slice B2 r_.Terms.length c2, .slice B3 r_.Out.Rows.length c3], .bool r_1] ∧ ST w0 [] w' [⟨B2, 95, (r_.Terms.flatMap enc_Term), c2 * 2⟩, ⟨B3, 3, (r_.Out.Rows.flatMap encI), c3 * 1⟩] []) := by
  subst hn
  subst hn1
  unfold F_impl_ShiftBy at hF
  refine cv_of_cw 72 Try.func19 rfl Try.ntmps19 rfl ?_
  refine cw_seq ?_
  refine cw_region ?_
  refine ss 2 rfl rfl (Ys_box (T := 50) (v := .agg #[.int .i64 p.Qubits, .int .i64 p.Phase, .slice B p.Terms.length c, .slice B1 p.Out.Rows.length c1]) (cs := [.int .i64 p.Qubits, .int .i64 p.Phase, .slice B p.Terms.length c, .slice B1 p.Out.Rows.length c1]) (m := 4) hS rfl rfl rfl rfl) ?_
  rintro _ w_ ⟨b, rfl, hS1⟩
  refine ss 4 rfl rfl (Ys_alloc (T := 50) (cs := [.int .i64 0, .int .i64 0, .slice none 0 0, .slice none 0 0]) (m := 4) hS1 k_zero_50 rfl rfl rfl) ?_
  rintro _ w_1 ⟨b1, rfl, hS2⟩
  have hS2 : ST w0 [] _ [⟨some ⟨b, 0, none⟩, 50, [.int .i64 p.Qubits, .int .i64 p.Phase, .slice B p.Terms.length c, .slice B1 p.Out.Rows.length c1], 4⟩, ⟨some ⟨b1, 0, none⟩, 50, [.int .i64 0, .int .i64 0, .slice none 0 0, .slice none 0 0], 4⟩] [⟨B, (p.Terms.flatMap enc_Term)⟩, ⟨B1, (p.Out.Rows.flatMap encI)⟩] := hS2
  refine sq 5 rfl rfl (Y_assign (v := .bool false) rfl rfl) ?_
  refine rw_nil ?_
  refine cw_seq ?_
  refine cw_seq ?_
  refine cw_region ?_
  refine sq 13 rfl rfl (Y_fieldAddr (B := some ⟨b, 0, none⟩) (i := 0) (s := 0) k_fd_50_0_0_3 k_sz_3_1 rfl rfl) ?_
  refine sq 14 rfl rfl (Y_load1 (B := some ⟨b, 0, none⟩) (i := 0) (cs := [.int .i64 p.Qubits, .int .i64 p.Phase, .slice B p.Terms.length c, .slice B1 p.Out.Rows.length c1]) (v := .int .i64 p.Qubits) k_sc_3 rfl rfl (hS2.cf (i := 0) rfl) rfl) ?_
  refine sq 15 rfl rfl (Y_move (v := .int .i64 word) rfl rfl) ?_
  obtain ⟨⟨r_2, r_3⟩, hc, hF⟩ := bind_inv hF
  refine sc 16 rfl rfl (Yc_func (g := 53) (vs := [.int .i64 p.Qubits, .int .i64 word]) k_call_53 rfl (mc rfl (mc rfl mn)) (c_impl_IsCodeWord p.Qubits word _  (hS2.inn0 [] rfl) hc)) ?_
  rintro _ w_2 ⟨rfl, hd⟩
  have hS3 := hS2.out00 hd
  have hS3 : ST w0 [] _ [⟨some ⟨b, 0, none⟩, 50, [.int .i64 p.Qubits, .int .i64 p.Phase, .slice B p.Terms.length c, .slice B1 p.Out.Rows.length c1], 4⟩, ⟨some ⟨b1, 0, none⟩, 50, [.int .i64 0, .int .i64 0, .slice none 0 0, .slice none 0 0], 4⟩] [⟨B, (p.Terms.flatMap enc_Term)⟩, ⟨B1, (p.Out.Rows.flatMap encI)⟩] := hS3
  refine sq 12 rfl rfl (Y_move (v := .tuple #[.bool r_2, .bool r_3]) rfl rfl) ?_
  refine sq 17 rfl rfl (Y_extract (v := .bool r_2) rfl rfl rfl) ?_
  refine sq 18 rfl rfl (Y_extract (v := .bool r_3) rfl rfl rfl) ?_
  refine sq 6 rfl rfl (Y_assign (v := .bool r_2) rfl rfl) ?_
  refine sq 7 rfl rfl (Y_assign (v := .bool r_3) rfl rfl) ?_
  refine rw_nil ?_
  refine cw_seq ?_
  refine cw_region ?_
  refine sq 19 rfl rfl (Y_loadA (B := some ⟨b, 0, none⟩) (i := 0) (cs := [.int .i64 p.Qubits, .int .i64 p.Phase, .slice B p.Terms.length c, .slice B1 p.Out.Rows.length c1]) (vs := [.int .i64 p.Qubits, .int .i64 p.Phase, .slice B p.Terms.length c, .slice B1 p.Out.Rows.length c1]) k_ag_50 k_sz_50_4 rfl rfl (hS3.cf (i := 0) rfl) rfl rfl) ?_
  obtain ⟨r_4, hc1, hF⟩ := bind_inv hF
  refine sc 20 rfl rfl (Yc_func (g := 54) (vs := [.agg #[.int .i64 p.Qubits, .int .i64 p.Phase, .slice B p.Terms.length c, .slice B1 p.Out.Rows.length c1]]) k_call_54 rfl (mc rfl mn) (c_impl_IsValidPhasePoly p B c p.Terms.length B1 c1 p.Out.Rows.length _ rfl rfl (hS3.inn0 [(true, 0), (true, 1)] rfl) hc1)) ?_
  rintro _ w_3 ⟨rfl, hd1⟩
  have hS4 := hS3.out00 hd1
  have hS4 : ST w0 [] _ [⟨some ⟨b, 0, none⟩, 50, [.int .i64 p.Qubits, .int .i64 p.Phase, .slice B p.Terms.length c, .slice B1 p.Out.Rows.length c1], 4⟩, ⟨some ⟨b1, 0, none⟩, 50, [.int .i64 0, .int .i64 0, .slice none 0 0, .slice none 0 0], 4⟩] [⟨B, (p.Terms.flatMap enc_Term)⟩, ⟨B1, (p.Out.Rows.flatMap encI)⟩] := hS4
  refine sq 21 rfl rfl (Y_not (p := r_4) rfl rfl) ?_
  refine sq 22 rfl rfl (Y_move (v := .bool (!r_4)) rfl rfl) ?_
  refine sgq 23 (B := (!(!r_4))) (v := .bool r_3) rfl rfl (wt_f (gd_of (t := 22) (by kernel_rfl) rfl)) (fun hg => (Y_move (v := .bool r_3) rfl rfl)) ?_
  refine sgq 24 (B := (!(!r_4))) (v := .bool (!r_3)) rfl rfl (wt_f (gd_of (t := 22) (by kernel_rfl) rfl)) (fun hg1 => (Y_not (p := r_3) rfl (gv_of (B := (!(!r_4))) (v := .bool r_3) hg1))) ?_
  refine sq 25 rfl rfl (Y_or (b := (!r_4)) (z := (!r_3)) rfl rfl rfl rfl) ?_
  refine sq 26 rfl rfl (Y_move (v := .bool ((!r_4) || (!r_3))) rfl rfl) ?_
  refine sgq 27 (B := (!((!r_4) || (!r_3)))) (v := .bool r_2) rfl rfl (wt_f (gd_of (t := 26) (by kernel_rfl) rfl)) (fun hg2 => (Y_move (v := .bool r_2) rfl rfl)) ?_
  refine sgq 28 (B := (!((!r_4) || (!r_3)))) (v := .bool (!r_2)) rfl rfl (wt_f (gd_of (t := 26) (by kernel_rfl) rfl)) (fun hg3 => (Y_not (p := r_2) rfl (gv_of (B := (!((!r_4) || (!r_3)))) (v := .bool r_2) hg3))) ?_
  refine sq 29 rfl rfl (Y_or (b := ((!r_4) || (!r_3))) (z := (!r_2)) rfl rfl rfl rfl) ?_
  refine rw_nil ?_
  refine cw_cond (b := (((!r_4) || (!r_3)) || (!r_2))) rfl (fun hb => ?_) (fun hb => ?_)
  · skip
    have hF1 := ct hF hb
    refine cw_seq ?_
    refine cw_region ?_
    refine sq 30 rfl rfl (Y_buildS (zs := [.int .i64 0, .int .i64 0, .slice none 0 0, .slice none 0 0]) (vs := []) (cs := [.int .i64 0, .int .i64 0, .slice none 0 0, .slice none 0 0]) k_pl_50 k_zero_50 rfl mpn rfl) ?_
    refine ss0 rfl rfl (Ys_store (i := 1) (s := 4) (B := some ⟨b1, 0, none⟩) (T' := 50) (v := .agg #[.int .i64 0, .int .i64 0, .slice none 0 0, .slice none 0 0]) (vs := [.int .i64 0, .int .i64 0, .slice none 0 0, .slice none 0 0]) (k := 0) (cs' := [.int .i64 0, .int .i64 0, .slice none 0 0, .slice none 0 0]) hS4 k_sz_50_4 rfl rfl rfl rfl rfl rfl rfl (Nat.le_of_ble_eq_true rfl) rfl rfl) ?_
    rintro _ w_4 ⟨rfl, hS5⟩
    have hS5 : ST w0 [] _ [⟨some ⟨b, 0, none⟩, 50, [.int .i64 p.Qubits, .int .i64 p.Phase, .slice B p.Terms.length c, .slice B1 p.Out.Rows.length c1], 4⟩, ⟨some ⟨b1, 0, none⟩, 50, [.int .i64 0, .int .i64 0, .slice none 0 0, .slice none 0 0], 4⟩] [⟨B, (p.Terms.flatMap enc_Term)⟩, ⟨B1, (p.Out.Rows.flatMap encI)⟩] := hS5
    refine sq 5 rfl rfl (Y_assign (v := .bool false) rfl rfl) ?_
    refine rw_nil ?_
    refine cw_ret ?_
    have hS6 := hS5.addNil 95
    have hS7 := hS6.addNil 3
    obtain ⟨rfl, rfl⟩ := pr2 (some_inj hF1)
    exact ret2 Try.results19 (v1 := .agg #[.int .i64 0, .int .i64 0, .slice none 0 0, .slice none 0 0]) (resAt_cellA (B := some ⟨b1, 0, none⟩) (i := 0) (cs := [.int .i64 0, .int .i64 0, .slice none 0 0, .slice none 0 0]) (vs := [.int .i64 0, .int .i64 0, .slice none 0 0, .slice none 0 0]) rfl k_ag_50 k_sz_50_4 (hS7.cf (i := 1) rfl) rfl rfl) (v2 := .bool false) (resAt_tmp rfl) ⟨none, 0, none, 0, rfl, (ST.subR (R' := []) (hS7.sel [2, 3] rfl rfl) (fun _ h => by cases h))⟩
  · skip
    have hF2 := cf' hF hb
    refine cw_skip ?_
    refine cw_seq ?_
    refine cw_region ?_
    refine sq 31 rfl rfl (show Y _ _ _ _ _ (.agg ((List.replicate 32 0).flatMap encI).toArray) from Y_buildA (zs := [.int .i64 0, .int .i64 0, .int .i64 0, .int .i64 0, .int .i64 0, .int .i64 0, .int .i64 0, .int .i64 0, .int .i64 0, .int .i64 0, .int .i64 0, .int .i64 0, .int .i64 0, .int .i64 0, .int .i64 0, .int .i64 0, .int .i64 0, .int .i64 0, .int .i64 0, .int .i64 0, .int .i64 0, .int .i64 0, .int .i64 0, .int .i64 0, .int .i64 0, .int .i64 0, .int .i64 0, .int .i64 0, .int .i64 0, .int .i64 0, .int .i64 0, .int .i64 0]) (vs := []) (cs := [.int .i64 0, .int .i64 0, .int .i64 0, .int .i64 0, .int .i64 0, .int .i64 0, .int .i64 0, .int .i64 0, .int .i64 0, .int .i64 0, .int .i64 0, .int .i64 0, .int .i64 0, .int .i64 0, .int .i64 0, .int .i64 0, .int .i64 0, .int .i64 0, .int .i64 0, .int .i64 0, .int .i64 0, .int .i64 0, .int .i64 0, .int .i64 0, .int .i64 0, .int .i64 0, .int .i64 0, .int .i64 0, .int .i64 0, .int .i64 0, .int .i64 0, .int .i64 0]) k_ar_93_32_3 k_sz_3_1 k_zero_93 rfl rfl rfl) ?_
    refine ss 8 rfl rfl (Ys_alloc (T := 93) (cs := ((List.replicate 32 0).flatMap encI)) (m := 32) hS4 k_zero_93 rfl rfl rfl) ?_
    rintro _ w_5 ⟨b2, rfl, hS8⟩
    have hS8 : ST w0 [] _ [⟨some ⟨b, 0, none⟩, 50, [.int .i64 p.Qubits, .int .i64 p.Phase, .slice B p.Terms.length c, .slice B1 p.Out.Rows.length c1], 4⟩, ⟨some ⟨b1, 0, none⟩, 50, [.int .i64 0, .int .i64 0, .slice none 0 0, .slice none 0 0], 4⟩, ⟨some ⟨b2, 0, none⟩, 93, ((List.replicate 32 0).flatMap encI), 32⟩] [⟨B, (p.Terms.flatMap enc_Term)⟩, ⟨B1, (p.Out.Rows.flatMap encI)⟩] := hS8
    refine ss0 rfl rfl (Ys_store (i := 2) (s := 32) (B := some ⟨b2, 0, none⟩) (T' := 93) (v := .agg ((List.replicate 32 0).flatMap encI).toArray) (vs := ((List.replicate 32 0).flatMap encI)) (k := 0) (cs' := ((List.replicate 32 0).flatMap encI)) hS8 k_sz_93_32 rfl rfl rfl rfl (fm_lenn2 encI_len (List.length_replicate (n := 32)) rfl) (fm_one' encI_one _) rfl (fm_fit encI_len (List.length_replicate (n := 32)) rfl) (fm_spl encI_len (List.length_replicate (n := 32)) (List.length_replicate (n := 32))) rfl) ?_
    rintro _ w_6 ⟨rfl, hS9⟩
    have hS9 : ST w0 [] _ [⟨some ⟨b, 0, none⟩, 50, [.int .i64 p.Qubits, .int .i64 p.Phase, .slice B p.Terms.length c, .slice B1 p.Out.Rows.length c1], 4⟩, ⟨some ⟨b1, 0, none⟩, 50, [.int .i64 0, .int .i64 0, .slice none 0 0, .slice none 0 0], 4⟩, ⟨some ⟨b2, 0, none⟩, 93, ((List.replicate 32 0).flatMap encI), 32⟩] [⟨B, (p.Terms.flatMap enc_Term)⟩, ⟨B1, (p.Out.Rows.flatMap encI)⟩] := hS9
    refine rw_nil ?_
    refine cw_seq ?_
    refine cw_seq ?_
    refine cw_region ?_
    refine sq 32 rfl rfl (Y_fieldAddr (B := some ⟨b, 0, none⟩) (i := 0) (s := 0) k_fd_50_2_2_47 k_sz_47_1 rfl rfl) ?_
    refine sq 33 rfl rfl (Y_load1 (B := some ⟨b, 0, none⟩) (i := 2) (cs := [.int .i64 p.Qubits, .int .i64 p.Phase, .slice B p.Terms.length c, .slice B1 p.Out.Rows.length c1]) (v := .slice B p.Terms.length c) k_sc_47 rfl rfl (hS9.cf (i := 0) rfl) rfl) ?_
    refine sq 34 rfl rfl (Y_len (B := B) (m := p.Terms.length) (c := c) k_sl_47_95 rfl rfl) ?_
    refine sq 35 rfl rfl (Y_move (v := .int .i64 0) rfl rfl) ?_
    refine rw_nil ?_
    obtain ⟨hN, hF2⟩ := chk_inv hF2
    obtain ⟨z, hz, hF3⟩ := bind_inv hF2
    refine cw_block ?_
    refine cw_loop (fun k f w => ∃ (i : Nat) (sums : List Int), FF f [(1, .int .i64 word), (2, pt (some ⟨b, 0, none⟩) 0), (4, pt (some ⟨b1, 0, none⟩) 0), (8, pt (some ⟨b2, 0, none⟩) 0), (33, .slice B p.Terms.length c), (34, .int .i64 (p.Terms.length : Int)), (35, .int .i64 (i : Int))] ∧ sums.length = 32 ∧ ST w0 [] w [⟨some ⟨b, 0, none⟩, 50, [.int .i64 p.Qubits, .int .i64 p.Phase, .slice B p.Terms.length c, .slice B1 p.Out.Rows.length c1], 4⟩, ⟨some ⟨b1, 0, none⟩, 50, [.int .i64 0, .int .i64 0, .slice none 0 0, .slice none 0 0], 4⟩, ⟨some ⟨b2, 0, none⟩, 93, (sums.flatMap encI), 32⟩] [⟨B, (p.Terms.flatMap enc_Term)⟩, ⟨B1, (p.Out.Rows.flatMap encI)⟩] ∧ i + k = p.Terms.length ∧ forN (F_impl_ShiftBy_l1 p) k i sums = some z) p.Terms.length ⟨0, (List.replicate 32 0), (FF.cons rfl (FF.cons rfl (FF.cons rfl (FF.cons rfl (FF.cons rfl (FF.cons rfl (FF.cons rfl FF.nil))))))), (List.length_replicate (n := 32)), (hS9.sel [0, 1, 2] rfl rfl), Nat.zero_add _, hz⟩ ?_
    rintro k_ f w ⟨i, sums, hf, hl, hS10, hik, hL⟩
    refine cw_seq ?_
    refine cw_region ?_
    refine sq 36 rfl rfl (Y_lt (k := .i64) (a := (i : Int)) (b := (p.Terms.length : Int)) rfl (hf.get 35 6 rfl) (hf.get 34 5 rfl)) ?_
    refine rw_nil ?_
    refine cw_seq ?_
    refine cw_cond (b := (decide ((i : Int) < (p.Terms.length : Int)))) rfl (fun hlt => ?_) (fun hlt => ?_)
    · skip
      have hlt1 : i < p.Terms.length := by have h := of_decide_eq_true hlt; omega
      obtain ⟨k_1, rfl⟩ : ∃ k2, k_ = k2 + 1 := ⟨k_ - 1, by omega⟩
      obtain ⟨y, hb1, hL1⟩ := forN_go hL
      unfold F_impl_ShiftBy_l1 at hb1
      refine cw_skip ?_
      refine cw_seq ?_
      refine cw_block ?_
      refine cw_seq ?_
      refine cw_region ?_
      obtain ⟨x, hx, hb1⟩ := bind_inv hb1
      refine sq 37 rfl rfl (Y_index (B := B) (m := p.Terms.length) (c := c) (k := .i64) (i := (i : Int)) k_sl_47_95 k_sz_95_2 rfl (hf.get 33 4 rfl) (hf.get 35 6 rfl) (gi_isSome enc_Term_len rfl (hS10.rf (i := 0) rfl) hx) (getI_nn hx) (getI_ltI hx rfl)) ?_
      refine sq 38 rfl rfl (Y_loadA (B := B) (i := (i : Int).toNat * 2) (cs := (p.Terms.flatMap enc_Term)) (vs := [.int .i64 x.Mask, .int .i64 x.Coef]) k_ag_95 k_sz_95_2 rfl rfl (hS10.rf (i := 0) rfl) (enc_Term_len x) (gi_seg enc_Term_len hx)) ?_
      refine ss 10 rfl rfl (Ys_alloc (T := 95) (cs := [.int .i64 0, .int .i64 0]) (m := 2) hS10 k_zero_95 rfl rfl rfl) ?_
      rintro _ w_7 ⟨b3, rfl, hS11⟩
      have hS11 : ST w0 [] _ [⟨some ⟨b, 0, none⟩, 50, [.int .i64 p.Qubits, .int .i64 p.Phase, .slice B p.Terms.length c, .slice B1 p.Out.Rows.length c1], 4⟩, ⟨some ⟨b1, 0, none⟩, 50, [.int .i64 0, .int .i64 0, .slice none 0 0, .slice none 0 0], 4⟩, ⟨some ⟨b2, 0, none⟩, 93, (sums.flatMap encI), 32⟩, ⟨some ⟨b3, 0, none⟩, 95, [.int .i64 0, .int .i64 0], 2⟩] [⟨B, (p.Terms.flatMap enc_Term)⟩, ⟨B1, (p.Out.Rows.flatMap encI)⟩] := hS11
      refine ss0 rfl rfl (Ys_store (i := 3) (s := 2) (B := some ⟨b3, 0, none⟩) (T' := 95) (v := .agg #[.int .i64 x.Mask, .int .i64 x.Coef]) (vs := [.int .i64 x.Mask, .int .i64 x.Coef]) (k := 0) (cs' := [.int .i64 x.Mask, .int .i64 x.Coef]) hS11 k_sz_95_2 rfl rfl rfl rfl rfl rfl rfl (Nat.le_of_ble_eq_true rfl) rfl rfl) ?_
      rintro _ w_8 ⟨rfl, hS12⟩
      have hS12 : ST w0 [] _ [⟨some ⟨b, 0, none⟩, 50, [.int .i64 p.Qubits, .int .i64 p.Phase, .slice B p.Terms.length c, .slice B1 p.Out.Rows.length c1], 4⟩, ⟨some ⟨b1, 0, none⟩, 50, [.int .i64 0, .int .i64 0, .slice none 0 0, .slice none 0 0], 4⟩, ⟨some ⟨b2, 0, none⟩, 93, (sums.flatMap encI), 32⟩, ⟨some ⟨b3, 0, none⟩, 95, [.int .i64 x.Mask, .int .i64 x.Coef], 2⟩] [⟨B, (p.Terms.flatMap enc_Term)⟩, ⟨B1, (p.Out.Rows.flatMap encI)⟩] := hS12
      refine rw_nil ?_
      refine cw_region ?_
      refine sq 39 rfl rfl (Y_fieldAddr (B := some ⟨b3, 0, none⟩) (i := 0) (s := 0) k_fd_95_0_0_3 k_sz_3_1 rfl rfl) ?_
      refine sq 40 rfl rfl (Y_load1 (B := some ⟨b3, 0, none⟩) (i := 0) (cs := [.int .i64 x.Mask, .int .i64 x.Coef]) (v := .int .i64 x.Mask) k_sc_3 rfl rfl (hS12.cf (i := 3) rfl) rfl) ?_
      refine sq 41 rfl rfl (Y_fieldAddr (B := some ⟨b3, 0, none⟩) (i := 0) (s := 0) k_fd_95_1_1_3 k_sz_3_1 rfl rfl) ?_
      refine sq 42 rfl rfl (Y_load1 (B := some ⟨b3, 0, none⟩) (i := 1) (cs := [.int .i64 x.Mask, .int .i64 x.Coef]) (v := .int .i64 x.Coef) k_sc_3 rfl rfl (hS12.cf (i := 3) rfl) rfl) ?_
      obtain ⟨m, hc2, hb1⟩ := bind_inv hb1
      refine sc 43 rfl rfl (Yc_func (g := 55) (vs := [pt (some ⟨b2, 0, none⟩) 0, .int .i64 x.Mask, .int .i64 x.Coef]) k_call_55 rfl (mc (hf.get 8 3 rfl) (mc rfl (mc rfl mn))) (c_impl_coefficients_add sums x.Mask x.Coef (some ⟨b2, 0, none⟩) _ hl (hS12.inn [false, false, true, false] rfl [] rfl) hc2)) ?_
      rintro _ w_9 ⟨rfl, hl1, hd2⟩
      have hS13 := hS12.out [false, false, true, false] rfl hd2
      have hS13 : ST w0 [] _ [⟨some ⟨b, 0, none⟩, 50, [.int .i64 p.Qubits, .int .i64 p.Phase, .slice B p.Terms.length c, .slice B1 p.Out.Rows.length c1], 4⟩, ⟨some ⟨b1, 0, none⟩, 50, [.int .i64 0, .int .i64 0, .slice none 0 0, .slice none 0 0], 4⟩, ⟨some ⟨b3, 0, none⟩, 95, [.int .i64 x.Mask, .int .i64 x.Coef], 2⟩, ⟨some ⟨b2, 0, none⟩, 93, (m.flatMap encI), 32⟩] [⟨B, (p.Terms.flatMap enc_Term)⟩, ⟨B1, (p.Out.Rows.flatMap encI)⟩] := hS13
      refine rw_nil ?_
      refine cw_region ?_
      refine sq 44 rfl rfl (Y_add (k := .i64) (a := (i : Int)) (b := 1) rfl (hf.get 35 6 rfl) rfl) ?_
      refine sq 35 rfl rfl (Y_move (v := .int .i64 (IntKind.i64.wrap ((i : Int) + 1))) rfl rfl) ?_
      refine rw_nil ?_
      obtain rfl := some_inj hb1
      exact ⟨k_1, Nat.lt_succ_self _, i + 1, m, (FF.cons (hf.get 1 0 rfl) (FF.cons (hf.get 2 1 rfl) (FF.cons (hf.get 4 2 rfl) (FF.cons (hf.get 8 3 rfl) (FF.cons (hf.get 33 4 rfl) (FF.cons (hf.get 34 5 rfl) (FF.cons (congrArg (Value.int .i64) (wr_succ hlt1 hN)) FF.nil))))))), hl1, (hS13.sel [0, 1, 3] rfl rfl), (by omega), hL1⟩
    · skip
      obtain rfl : k_ = 0 := by have h := of_decide_eq_false hlt; omega
      refine cw_exit rfl ?_
      obtain rfl := some_inj hL
      refine cw_seq ?_
      refine cw_seq ?_
      refine cw_region ?_
      refine sq 11 rfl rfl (Y_assign (v := .int .i64 1) rfl rfl) ?_
      refine rw_nil ?_
      obtain ⟨z1, hz1, hF4⟩ := bind_inv hF3
      refine cw_block ?_
      refine cw_loop (fun k f w => ∃ (sums1 : List Int) (mask : Int), FF f [(1, .int .i64 word), (2, pt (some ⟨b, 0, none⟩) 0), (4, pt (some ⟨b1, 0, none⟩) 0), (8, pt (some ⟨b2, 0, none⟩) 0), (11, .int .i64 mask)] ∧ sums1.length = 32 ∧ ST w0 [] w [⟨some ⟨b, 0, none⟩, 50, [.int .i64 p.Qubits, .int .i64 p.Phase, .slice B p.Terms.length c, .slice B1 p.Out.Rows.length c1], 4⟩, ⟨some ⟨b1, 0, none⟩, 50, [.int .i64 0, .int .i64 0, .slice none 0 0, .slice none 0 0], 4⟩, ⟨some ⟨b2, 0, none⟩, 93, (sums1.flatMap encI), 32⟩] [⟨B, (p.Terms.flatMap enc_Term)⟩, ⟨B1, (p.Out.Rows.flatMap encI)⟩] ∧ whX (F_impl_ShiftBy_l2 p word) k (sums1, mask) = some z1) fuel ⟨sums, 1, (FF.cons (hf.get 1 0 rfl) (FF.cons (hf.get 2 1 rfl) (FF.cons (hf.get 4 2 rfl) (FF.cons (hf.get 8 3 rfl) (FF.cons rfl FF.nil))))), hl, (hS10.sel [0, 1, 2] rfl rfl), hz1⟩ ?_
      rintro k_2 f w ⟨sums1, mask, hf1, hl2, hS14, hL2⟩
      obtain ⟨k_3, y1, rfl, hb2, hL3⟩ := whX_go hL2
      unfold F_impl_ShiftBy_l2 at hb2
      refine cw_seq ?_
      refine cw_seq ?_
      refine cw_region ?_
      refine sq 45 rfl rfl (Y_move (v := .int .i64 mask) rfl (hf1.get 11 4 rfl)) ?_
      refine sq 46 rfl rfl (Y_fieldAddr (B := some ⟨b, 0, none⟩) (i := 0) (s := 0) k_fd_50_0_0_3 k_sz_3_1 rfl (hf1.get 2 1 rfl)) ?_
      refine sq 47 rfl rfl (Y_load1 (B := some ⟨b, 0, none⟩) (i := 0) (cs := [.int .i64 p.Qubits, .int .i64 p.Phase, .slice B p.Terms.length c, .slice B1 p.Out.Rows.length c1]) (v := .int .i64 p.Qubits) k_sc_3 rfl rfl (hS14.cf (i := 0) rfl) rfl) ?_
      obtain ⟨hsh, hb2⟩ := chk_inv hb2
      refine sq 48 rfl rfl (Y_shl (k := .i64) (a := 1) (k' := .i64) (b := p.Qubits) rfl rfl rfl hsh) ?_
      refine sq 49 rfl rfl (Y_lt (k := .i64) (a := mask) (b := (shlK .i64 1 p.Qubits)) rfl rfl rfl) ?_
      refine rw_nil ?_
      refine cw_cond (b := (decide (mask < (shlK .i64 1 p.Qubits)))) rfl (fun hb3 => ?_) (fun hb3 => ?_)
      · skip
        have hF5 := ct hb2 hb3
        refine cw_skip ?_
        refine cw_seq ?_
        obtain ⟨z2, hz2, hF6⟩ := bind_inv hF5
        refine cw_mid (fun f w => ∃ (sums2 : List Int), sums2 = z2 ∧ FF f [(1, .int .i64 word), (2, pt (some ⟨b, 0, none⟩) 0), (4, pt (some ⟨b1, 0, none⟩) 0), (8, pt (some ⟨b2, 0, none⟩) 0), (11, .int .i64 mask)] ∧ sums2.length = 32 ∧ ST w0 [] w [⟨some ⟨b, 0, none⟩, 50, [.int .i64 p.Qubits, .int .i64 p.Phase, .slice B p.Terms.length c, .slice B1 p.Out.Rows.length c1], 4⟩, ⟨some ⟨b1, 0, none⟩, 50, [.int .i64 0, .int .i64 0, .slice none 0 0, .slice none 0 0], 4⟩, ⟨some ⟨b2, 0, none⟩, 93, (sums2.flatMap encI), 32⟩] [⟨B, (p.Terms.flatMap enc_Term)⟩, ⟨B1, (p.Out.Rows.flatMap encI)⟩]) ?_ ?_
        · skip
          refine cw_block ?_
          refine cw_seq ?_
          refine cw_region ?_
          refine sq 52 rfl rfl (Y_move (v := .int .i64 word) rfl (hf1.get 1 0 rfl)) ?_
          refine sq 53 rfl rfl (Y_move (v := .int .i64 mask) rfl (hf1.get 11 4 rfl)) ?_
          refine sq 54 rfl rfl (Y_sub (k := .i64) (a := mask) (b := 1) rfl rfl rfl) ?_
          obtain ⟨hsh1, hz2⟩ := chk_inv hz2
          refine sq 55 rfl rfl (Y_shr (k := .i64) (a := word) (k' := .i64) (b := (IntKind.i64.wrap (mask - 1))) rfl rfl rfl hsh1) ?_
          refine sq 56 rfl rfl (Y_band (k := .i64) (a := (shrK .i64 word (IntKind.i64.wrap (mask - 1)))) (b := 1) rfl rfl rfl) ?_
          refine sq 57 rfl rfl (Y_eq (k := .i64) (a := (bits .and .i64 (shrK .i64 word (IntKind.i64.wrap (mask - 1))) 1)) (b := 1) rfl rfl rfl) ?_
          refine rw_nil ?_
          refine cw_cond (b := ((bits .and .i64 (shrK .i64 word (IntKind.i64.wrap (mask - 1))) 1) == 1)) rfl (fun hb4 => ?_) (fun hb4 => ?_)
          · skip
            have hF7 := ct hz2 hb4
            refine cw_region ?_
            refine sq 58 rfl rfl (Y_move (v := .int .i64 mask) rfl (hf1.get 11 4 rfl)) ?_
            obtain ⟨m1, hc3, hF7⟩ := bind_inv hF7
            refine sc 59 rfl rfl (Yc_func (g := 55) (vs := [pt (some ⟨b2, 0, none⟩) 0, .int .i64 mask, .int .i64 (-1)]) k_call_55 rfl (mc (hf1.get 8 3 rfl) (mc rfl (mc rfl mn))) (c_impl_coefficients_add sums1 mask (-1) (some ⟨b2, 0, none⟩) _ hl2 (hS14.inn [false, false, true] rfl [] rfl) hc3)) ?_
            rintro _ w_10 ⟨rfl, hl4, hd3⟩
            have hS16 := hS14.out [false, false, true] rfl hd3
            have hS16 : ST w0 [] _ [⟨some ⟨b, 0, none⟩, 50, [.int .i64 p.Qubits, .int .i64 p.Phase, .slice B p.Terms.length c, .slice B1 p.Out.Rows.length c1], 4⟩, ⟨some ⟨b1, 0, none⟩, 50, [.int .i64 0, .int .i64 0, .slice none 0 0, .slice none 0 0], 4⟩, ⟨some ⟨b2, 0, none⟩, 93, (m1.flatMap encI), 32⟩] [⟨B, (p.Terms.flatMap enc_Term)⟩, ⟨B1, (p.Out.Rows.flatMap encI)⟩] := hS16
            refine rw_nil ?_
            exact ⟨m1, (some_inj hF7), (FF.cons (hf1.get 1 0 rfl) (FF.cons (hf1.get 2 1 rfl) (FF.cons (hf1.get 4 2 rfl) (FF.cons (hf1.get 8 3 rfl) (FF.cons (hf1.get 11 4 rfl) FF.nil))))), hl4, (hS16.sel [0, 1, 2] rfl rfl)⟩
          · skip
            have hF8 := cf' hz2 hb4
            refine cw_skip ?_
            exact ⟨sums1, (some_inj hF8), (FF.cons (hf1.get 1 0 rfl) (FF.cons (hf1.get 2 1 rfl) (FF.cons (hf1.get 4 2 rfl) (FF.cons (hf1.get 8 3 rfl) (FF.cons (hf1.get 11 4 rfl) FF.nil))))), hl2, (hS14.sel [0, 1, 2] rfl rfl)⟩
        rintro f w ⟨sums2, rfl, hf2, hl3, hS15⟩
        refine cw_region ?_
        refine sq 50 rfl rfl (Y_move (v := .int .i64 mask) rfl (hf2.get 11 4 rfl)) ?_
        refine sq 51 rfl rfl (Y_add (k := .i64) (a := mask) (b := 1) rfl rfl rfl) ?_
        refine sq 11 rfl rfl (Y_assign (v := .int .i64 (IntKind.i64.wrap (mask + 1))) rfl rfl) ?_
        refine rw_nil ?_
        obtain rfl := some_inj hF6
        exact ⟨k_3, Nat.lt_succ_self _, sums2, (IntKind.i64.wrap (mask + 1)), (FF.cons (hf2.get 1 0 rfl) (FF.cons (hf2.get 2 1 rfl) (FF.cons (hf2.get 4 2 rfl) (FF.cons (hf2.get 8 3 rfl) (FF.cons rfl FF.nil))))), hl3, (hS15.sel [0, 1, 2] rfl rfl), hL3⟩
      · skip
        have hF9 := cf' hb2 hb3
        refine cw_exit rfl ?_
        obtain rfl := some_inj hF9
        obtain rfl := some_inj hL3
        refine cw_seq ?_
        obtain ⟨r_5, hc4, hF4⟩ := bind_inv hF4
        obtain ⟨r_6, hc5, hF4⟩ := bind_inv hF4
        refine ra_start (ST.sel hS14 [0, 2] rfl rfl).fn (by kernel_rfl) ?_
        have hS19 := hS14.drew
        refine ra_q 0 60 (v := pt (some ⟨b, 0, none⟩) 0) rfl rfl rfl (by kernel_rfl) (by kernel_rfl) (by kernel_rfl) (ST.sel hS19 [0, 2] rfl rfl) (fun w' hw' => (Y_fieldAddr (B := some ⟨b, 0, none⟩) (i := 0) (s := 0) k_fd_50_0_0_3 k_sz_3_1 rfl (hf1.get 2 1 rfl))) ?_
        refine ra_q 1 61 (v := .int .i64 p.Qubits) rfl rfl rfl (by kernel_rfl) (by kernel_rfl) (by kernel_rfl) (ST.sel hS19 [0, 2] rfl rfl) (fun w' hw' => (Y_load1 (B := some ⟨b, 0, none⟩) (i := 0) (cs := [.int .i64 p.Qubits, .int .i64 p.Phase, .slice B p.Terms.length c, .slice B1 p.Out.Rows.length c1]) (v := .int .i64 p.Qubits) k_sc_3 rfl rfl (ST.cf hw' (i := 0) rfl) rfl)) ?_
        refine ra_q 2 62 (v := pt (some ⟨b, 0, none⟩) 1) rfl rfl rfl (by kernel_rfl) (by kernel_rfl) (by kernel_rfl) (ST.sel hS19 [0, 2] rfl rfl) (fun w' hw' => (Y_fieldAddr (B := some ⟨b, 0, none⟩) (i := 0) (s := 0) k_fd_50_1_1_3 k_sz_3_1 rfl (hf1.get 2 1 rfl))) ?_
        refine ra_q 3 63 (v := .int .i64 p.Phase) rfl rfl rfl (by kernel_rfl) (by kernel_rfl) (by kernel_rfl) (ST.sel hS19 [0, 2] rfl rfl) (fun w' hw' => (Y_load1 (B := some ⟨b, 0, none⟩) (i := 1) (cs := [.int .i64 p.Qubits, .int .i64 p.Phase, .slice B p.Terms.length c, .slice B1 p.Out.Rows.length c1]) (v := .int .i64 p.Phase) k_sc_3 rfl rfl (ST.cf hw' (i := 0) rfl) rfl)) ?_
        refine ra_q 4 64 (v := .agg (sums1.flatMap encI).toArray) rfl rfl rfl (by kernel_rfl) (by kernel_rfl) (by kernel_rfl) (ST.sel hS19 [0, 2] rfl rfl) (fun w' hw' => (Y_loadA (B := some ⟨b2, 0, none⟩) (i := 0) (cs := (sums1.flatMap encI)) (vs := (sums1.flatMap encI)) k_ag_93 k_sz_93_32 rfl (hf1.get 8 3 rfl) (ST.cf hw' (i := 1) rfl) (fm_lenn2 encI_len hl2 rfl) (fm_whole encI_len hl2 rfl))) ?_
        refine ra_q 6 66 (v := pt (some ⟨b, 0, none⟩) 3) rfl rfl rfl (by kernel_rfl) (by kernel_rfl) (by kernel_rfl) (ST.sel hS19 [0, 2] rfl rfl) (fun w' hw' => (Y_fieldAddr (B := some ⟨b, 0, none⟩) (i := 0) (s := 0) k_fd_50_3_3_48 k_sz_48_1 rfl (hf1.get 2 1 rfl))) ?_
        refine ra_q 7 67 (v := pt (some ⟨b, 0, none⟩) 3) rfl rfl rfl (by kernel_rfl) (by kernel_rfl) (by kernel_rfl) (ST.sel hS19 [0, 2] rfl rfl) (fun w' hw' => (Y_fieldAddr (B := some ⟨b, 0, none⟩) (i := 3) (s := 0) k_fd_48_0_0_41 k_sz_41_1 rfl rfl)) ?_
        refine ra_q 8 68 (v := .slice B1 p.Out.Rows.length c1) rfl rfl rfl (by kernel_rfl) (by kernel_rfl) (by kernel_rfl) (ST.sel hS19 [0, 2] rfl rfl) (fun w' hw' => (Y_load1 (B := some ⟨b, 0, none⟩) (i := 3) (cs := [.int .i64 p.Qubits, .int .i64 p.Phase, .slice B p.Terms.length c, .slice B1 p.Out.Rows.length c1]) (v := .slice B1 p.Out.Rows.length c1) k_sc_41 rfl rfl (ST.cf hw' (i := 0) rfl) rfl)) ?_
        refine ra_all (rs := [5]) (by kernel_rfl) rfl ?_
        refine ra_c 65 (i := 5) rfl rfl rfl (Yc_func (g := 56) (vs := [.agg (sums1.flatMap encI).toArray]) k_call_56 rfl (mc rfl mn) (c_impl_coefficients_terms sums1 _ hl2 (hS19.inn0 [] rfl) hc4)) ?_ ?_
        · rintro _ w_11 ⟨B4, c4, rfl, hd4⟩
          have hS20 := hS19.out0 hd4
          have hS20 : ST w0 [] _ [⟨some ⟨b, 0, none⟩, 50, [.int .i64 p.Qubits, .int .i64 p.Phase, .slice B p.Terms.length c, .slice B1 p.Out.Rows.length c1], 4⟩, ⟨some ⟨b1, 0, none⟩, 50, [.int .i64 0, .int .i64 0, .slice none 0 0, .slice none 0 0], 4⟩, ⟨some ⟨b2, 0, none⟩, 93, (sums1.flatMap encI), 32⟩, ⟨B4, 95, (r_5.flatMap enc_Term), c4 * 2⟩] [⟨B, (p.Terms.flatMap enc_Term)⟩, ⟨B1, (p.Out.Rows.flatMap encI)⟩] := hS20
          refine ⟨(ST.sel hS20 [0, 2] rfl rfl), ?_⟩
          refine ra_all (rs := [9]) (by kernel_rfl) rfl ?_
          refine ra_c 69 (i := 9) rfl rfl rfl (Yc_func (g := 57) (vs := [.slice B1 p.Out.Rows.length c1]) k_call_57 rfl (mc rfl mn) (c_slices_Clone_int_int p.Out.Rows B1 c1 p.Out.Rows.length _ rfl (hS20.inn0 [(true, 1)] rfl) hc5)) ?_ ?_
          · rintro _ w_12 ⟨B5, c5, rfl, hd5⟩
            have hS21 := hS20.out0 hd5
            have hS21 : ST w0 [] _ [⟨some ⟨b, 0, none⟩, 50, [.int .i64 p.Qubits, .int .i64 p.Phase, .slice B p.Terms.length c, .slice B1 p.Out.Rows.length c1], 4⟩, ⟨some ⟨b1, 0, none⟩, 50, [.int .i64 0, .int .i64 0, .slice none 0 0, .slice none 0 0], 4⟩, ⟨some ⟨b2, 0, none⟩, 93, (sums1.flatMap encI), 32⟩, ⟨B4, 95, (r_5.flatMap enc_Term), c4 * 2⟩, ⟨B5, 3, (r_6.flatMap encI), c5 * 1⟩] [⟨B, (p.Terms.flatMap enc_Term)⟩, ⟨B1, (p.Out.Rows.flatMap encI)⟩] := hS21
            refine ⟨(ST.sel hS21 [0, 2] rfl rfl), ?_⟩
            refine ra_q 10 70 (v := .agg #[.slice B5 r_6.length c5]) rfl rfl rfl (by kernel_rfl) (by kernel_rfl) (by kernel_rfl) (ST.sel hS21 [0, 2] rfl rfl) (fun w' hw' => (Y_buildS (zs := [.slice none 0 0]) (vs := [(0, .slice B5 r_6.length c5)]) (cs := [.slice B5 r_6.length c5]) k_pl_48 k_zero_48 rfl (mpc rfl mpn) rfl)) ?_
            refine ra_q 11 71 (v := .agg #[.int .i64 p.Qubits, .int .i64 p.Phase, .slice B4 r_5.length c4, .slice B5 r_6.length c5]) rfl rfl rfl (by kernel_rfl) (by kernel_rfl) (by kernel_rfl) (ST.sel hS21 [0, 2] rfl rfl) (fun w' hw' => (Y_buildS (zs := [.int .i64 0, .int .i64 0, .slice none 0 0, .slice none 0 0]) (vs := [(0, .int .i64 p.Qubits), (1, .int .i64 p.Phase), (2, .slice B4 r_5.length c4), (3, .agg #[.slice B5 r_6.length c5])]) (cs := [.int .i64 p.Qubits, .int .i64 p.Phase, .slice B4 r_5.length c4, .slice B5 r_6.length c5]) k_pl_50 k_zero_50 rfl (mpc rfl (mpc rfl (mpc rfl (mpc rfl mpn)))) rfl)) ?_
            refine ra_all (rs := [12]) (by kernel_rfl) rfl ?_
            refine ra_s0 (i := 12) rfl rfl rfl (Ys_store (i := 1) (s := 4) (B := some ⟨b1, 0, none⟩) (T' := 50) (v := .agg #[.int .i64 p.Qubits, .int .i64 p.Phase, .slice B4 r_5.length c4, .slice B5 r_6.length c5]) (vs := [.int .i64 p.Qubits, .int .i64 p.Phase, .slice B4 r_5.length c4, .slice B5 r_6.length c5]) (k := 0) (cs' := [.int .i64 p.Qubits, .int .i64 p.Phase, .slice B4 r_5.length c4, .slice B5 r_6.length c5]) hS21 k_sz_50_4 rfl (hf1.get 4 2 rfl) rfl rfl rfl rfl rfl (Nat.le_of_ble_eq_true rfl) rfl rfl) ?_ ?_
            · rintro _ w_13 ⟨rfl, hS22⟩
              have hS22 : ST w0 [] _ [⟨some ⟨b, 0, none⟩, 50, [.int .i64 p.Qubits, .int .i64 p.Phase, .slice B p.Terms.length c, .slice B1 p.Out.Rows.length c1], 4⟩, ⟨some ⟨b1, 0, none⟩, 50, [.int .i64 p.Qubits, .int .i64 p.Phase, .slice B4 r_5.length c4, .slice B5 r_6.length c5], 4⟩, ⟨some ⟨b2, 0, none⟩, 93, (sums1.flatMap encI), 32⟩, ⟨B4, 95, (r_5.flatMap enc_Term), c4 * 2⟩, ⟨B5, 3, (r_6.flatMap encI), c5 * 1⟩] [⟨B, (p.Terms.flatMap enc_Term)⟩, ⟨B1, (p.Out.Rows.flatMap encI)⟩] := hS22
              refine ⟨(ST.sel hS22 [0, 2] rfl rfl), ?_⟩
              refine ra_q 13 5 (v := .bool true) rfl rfl rfl (by kernel_rfl) (by kernel_rfl) (by kernel_rfl) (ST.sel hS22 [0, 2] rfl rfl) (fun w' hw' => (Y_assign (v := .bool true) rfl rfl)) ?_
              refine ra_done (by kernel_rfl) ?_
              refine cw_ret ?_
              obtain ⟨rfl, rfl⟩ := pr2 (some_inj hF4)
              exact ret2 Try.results19 (v1 := .agg #[.int .i64 p.Qubits, .int .i64 p.Phase, .slice B4 r_5.length c4, .slice B5 r_6.length c5]) (resAt_cellA (B := some ⟨b1, 0, none⟩) (i := 0) (cs := [.int .i64 p.Qubits, .int .i64 p.Phase, .slice B4 r_5.length c4, .slice B5 r_6.length c5]) (vs := [.int .i64 p.Qubits, .int .i64 p.Phase, .slice B4 r_5.length c4, .slice B5 r_6.length c5]) (hf1.get 4 2 rfl) k_ag_50 k_sz_50_4 (hS22.cf (i := 1) rfl) rfl rfl) (v2 := .bool true) (resAt_tmp rfl) ⟨B4, c4, B5, c5, rfl, (ST.subR (R' := []) (hS22.sel [3, 4] rfl rfl) (fun _ h => by cases h))⟩
            exact allR_nil
          exact allR_nil
        exact allR_nil

theorem c_impl_nearest (n : Int) (word : Int)  (w0 : World)  (hS : ST w0 [] w0 [] []) {r_ : Int} {r_1 : Int} (hF : F_impl_nearest n word = some (r_, r_1)) :
    CV Try.prog 66 #[.int .i64 n, .int .i64 word] w0 (fun v w' => v = .tuple #[.int .i64 r_, .int .i64 r_1] ∧ ST w0 [] w' [] []) := by
  unfold F_impl_nearest at hF
  refine cv_of_cw 32 Try.func66 rfl Try.ntmps66 rfl ?_
  refine cw_seq ?_
  refine cw_region ?_
  refine sq 4 rfl rfl (Y_assign (v := .int .i64 0) rfl rfl) ?_
  refine sq 5 rfl rfl (Y_assign (v := .int .i64 0) rfl rfl) ?_
  refine rw_nil ?_
  refine cw_seq ?_
  obtain ⟨hsh, hF⟩ := chk_inv hF
  refine ra_start (ST.sel hS [] rfl rfl).fn (by kernel_rfl) ?_
  have hS1 := hS.drew
  refine ra_q 0 11 (v := .int .i64 n) rfl rfl rfl (by kernel_rfl) (by kernel_rfl) (by kernel_rfl) (ST.sel hS1 [] rfl rfl) (fun w' hw' => (Y_move (v := .int .i64 n) rfl rfl)) ?_
  refine ra_q 1 12 (v := .int .i64 (shlK .i64 1 n)) rfl rfl rfl (by kernel_rfl) (by kernel_rfl) (by kernel_rfl) (ST.sel hS1 [] rfl rfl) (fun w' hw' => (Y_shl (k := .i64) (a := 1) (k' := .i64) (b := n) rfl rfl rfl hsh)) ?_
  refine ra_q 2 6 (v := .int .i64 0) rfl rfl rfl (by kernel_rfl) (by kernel_rfl) (by kernel_rfl) (ST.sel hS1 [] rfl rfl) (fun w' hw' => (Y_assign (v := .int .i64 0) rfl rfl)) ?_
  refine ra_q 3 7 (v := .int .i64 (shlK .i64 1 n)) rfl rfl rfl (by kernel_rfl) (by kernel_rfl) (by kernel_rfl) (ST.sel hS1 [] rfl rfl) (fun w' hw' => (Y_assign (v := .int .i64 (shlK .i64 1 n)) rfl rfl)) ?_
  refine ra_done (by kernel_rfl) ?_
  refine cw_seq ?_
  refine cw_seq ?_
  refine cw_region ?_
  refine sq 13 rfl rfl (Y_move (v := .int .i64 n) rfl rfl) ?_
  obtain ⟨r_2, hc, hF⟩ := bind_inv hF
  refine sc 14 rfl rfl (Yc_func (g := 104) (vs := [.int .i64 n]) k_call_104 rfl (mc rfl mn) (c_impl_codeWords n _  (hS1.inn0 [] rfl) hc)) ?_
  rintro _ w_ ⟨B, c, rfl, hd⟩
  have hS2 := hS1.out0 hd
  refine sq 15 rfl rfl (Y_len (B := B) (m := r_2.length) (c := c) k_sl_41_3 rfl rfl) ?_
  refine sq 16 rfl rfl (Y_move (v := .int .i64 0) rfl rfl) ?_
  refine rw_nil ?_
  obtain ⟨hN, hF⟩ := chk_inv hF
  obtain ⟨z, hz, hF1⟩ := bind_inv hF
  refine cw_block ?_
  refine cw_loop (fun k f w => ∃ (i : Nat) (best : Int) (least : Int), FF f [(1, .int .i64 word), (6, .int .i64 best), (7, .int .i64 least), (14, .slice B r_2.length c), (15, .int .i64 (r_2.length : Int)), (16, .int .i64 (i : Int))] ∧ ST w0 [] w [⟨B, 3, (r_2.flatMap encI), c * 1⟩] [] ∧ i + k = r_2.length ∧ forN (F_impl_nearest_l1 r_2 word) k i (best, least) = some z) r_2.length ⟨0, 0, (shlK .i64 1 n), (FF.cons rfl (FF.cons rfl (FF.cons rfl (FF.cons rfl (FF.cons rfl (FF.cons rfl FF.nil)))))), (hS2.sel [0] rfl rfl), Nat.zero_add _, hz⟩ ?_
  rintro k_ f w ⟨i, best, least, hf, hS3, hik, hL⟩
  refine cw_seq ?_
  refine cw_region ?_
  refine sq 17 rfl rfl (Y_lt (k := .i64) (a := (i : Int)) (b := (r_2.length : Int)) rfl (hf.get 16 5 rfl) (hf.get 15 4 rfl)) ?_
  refine rw_nil ?_
  refine cw_seq ?_
  refine cw_cond (b := (decide ((i : Int) < (r_2.length : Int)))) rfl (fun hlt => ?_) (fun hlt => ?_)
  · skip
    have hlt1 : i < r_2.length := by have h := of_decide_eq_true hlt; omega
    obtain ⟨k_1, rfl⟩ : ∃ k2, k_ = k2 + 1 := ⟨k_ - 1, by omega⟩
    obtain ⟨y, hb, hL1⟩ := forN_go hL
    unfold F_impl_nearest_l1 at hb
    refine cw_skip ?_
    refine cw_seq ?_
    obtain ⟨z1, hz1, hF2⟩ := bind_inv hb
    refine cw_mid (fun f w => ∃ (best1 : Int) (least1 : Int), (best1, least1) = z1 ∧ FF f [(1, .int .i64 word), (6, .int .i64 best1), (7, .int .i64 least1), (14, .slice B r_2.length c), (15, .int .i64 (r_2.length : Int)), (16, .int .i64 (i : Int))] ∧ ST w0 [] w [⟨B, 3, (r_2.flatMap encI), c * 1⟩] []) ?_ ?_
    · skip
      refine cw_block ?_
      refine cw_seq ?_
      refine cw_region ?_
      obtain ⟨x, hx, hz1⟩ := bind_inv hz1
      refine sq 18 rfl rfl (Y_index (B := B) (m := r_2.length) (c := c) (k := .i64) (i := (i : Int)) k_sl_41_3 k_sz_3_1 rfl (hf.get 14 3 rfl) (hf.get 16 5 rfl) (gi_isSome encI_len rfl (hS3.cf (i := 0) rfl) hx) (getI_nn hx) (getI_ltI hx rfl)) ?_
      refine sq 19 rfl rfl (Y_load1 (B := B) (i := (i : Int).toNat * 1) (cs := (r_2.flatMap encI)) (v := .int .i64 x) k_sc_3 rfl rfl (hS3.cf (i := 0) rfl) (gi_at0 encI_len hx rfl)) ?_
      refine sq 9 rfl rfl (Y_assign (v := .int .i64 x) rfl rfl) ?_
      refine rw_nil ?_
      refine cw_seq ?_
      refine cw_region ?_
      refine sq 20 rfl rfl (Y_move (v := .int .i64 x) rfl rfl) ?_
      refine sq 21 rfl rfl (Y_move (v := .int .i64 word) rfl (hf.get 1 0 rfl)) ?_
      refine sq 22 rfl rfl (Y_bxor (k := .i64) (a := x) (b := word) rfl rfl rfl) ?_
      obtain ⟨r_3, hc1, hz1⟩ := bind_inv hz1
      refine sc 23 rfl rfl (Yc_func (g := 111) (vs := [.int .i64 (bits .xor .i64 x word)]) k_call_111 rfl (mc rfl mn) (c_impl_bitsIn (bits .xor .i64 x word) _  (hS3.inn0 [] rfl) hc1)) ?_
      rintro _ w_1 ⟨rfl, hd1⟩
      have hS5 := hS3.out00 hd1
      refine sq 10 rfl rfl (Y_assign (v := .int .i64 r_3) rfl rfl) ?_
      refine rw_nil ?_
      refine cw_seq ?_
      refine cw_region ?_
      refine sq 24 rfl rfl (Y_move (v := .int .i64 r_3) rfl rfl) ?_
      refine sq 25 rfl rfl (Y_move (v := .int .i64 least) rfl (hf.get 7 2 rfl)) ?_
      refine sq 26 rfl rfl (Y_lt (k := .i64) (a := r_3) (b := least) rfl rfl rfl) ?_
      refine rw_nil ?_
      refine cw_cond (b := (decide (r_3 < least))) rfl (fun hb1 => ?_) (fun hb1 => ?_)
      · skip
        have hF3 := ct hz1 hb1
        refine cw_region ?_
        refine sq 27 rfl rfl (Y_move (v := .int .i64 x) rfl rfl) ?_
        refine sq 28 rfl rfl (Y_move (v := .int .i64 r_3) rfl rfl) ?_
        refine sq 6 rfl rfl (Y_assign (v := .int .i64 x) rfl rfl) ?_
        refine sq 7 rfl rfl (Y_assign (v := .int .i64 r_3) rfl rfl) ?_
        refine rw_nil ?_
        exact ⟨x, r_3, (some_inj hF3), (FF.cons (hf.get 1 0 rfl) (FF.cons rfl (FF.cons rfl (FF.cons (hf.get 14 3 rfl) (FF.cons (hf.get 15 4 rfl) (FF.cons (hf.get 16 5 rfl) FF.nil)))))), (hS5.sel [0] rfl rfl)⟩
      · skip
        have hF4 := cf' hz1 hb1
        refine cw_skip ?_
        exact ⟨best, least, (some_inj hF4), (FF.cons (hf.get 1 0 rfl) (FF.cons (hf.get 6 1 rfl) (FF.cons (hf.get 7 2 rfl) (FF.cons (hf.get 14 3 rfl) (FF.cons (hf.get 15 4 rfl) (FF.cons (hf.get 16 5 rfl) FF.nil)))))), (hS5.sel [0] rfl rfl)⟩
    rintro f w ⟨best1, least1, rfl, hf1, hS4⟩
    refine cw_region ?_
    refine sq 29 rfl rfl (Y_add (k := .i64) (a := (i : Int)) (b := 1) rfl (hf1.get 16 5 rfl) rfl) ?_
    refine sq 16 rfl rfl (Y_move (v := .int .i64 (IntKind.i64.wrap ((i : Int) + 1))) rfl rfl) ?_
    refine rw_nil ?_
    obtain rfl := some_inj hF2
    exact ⟨k_1, Nat.lt_succ_self _, i + 1, best1, least1, (FF.cons (hf1.get 1 0 rfl) (FF.cons (hf1.get 6 1 rfl) (FF.cons (hf1.get 7 2 rfl) (FF.cons (hf1.get 14 3 rfl) (FF.cons (hf1.get 15 4 rfl) (FF.cons (congrArg (Value.int .i64) (wr_succ hlt1 hN)) FF.nil)))))), (hS4.sel [0] rfl rfl), (by omega), hL1⟩
  · skip
    obtain rfl : k_ = 0 := by have h := of_decide_eq_false hlt; omega
    refine cw_exit rfl ?_
    obtain rfl := some_inj hL
    refine cw_seq ?_
    refine cw_region ?_
    refine sq 30 rfl rfl (Y_move (v := .int .i64 best) rfl (hf.get 6 1 rfl)) ?_
    refine sq 31 rfl rfl (Y_move (v := .int .i64 least) rfl (hf.get 7 2 rfl)) ?_
    refine sq 4 rfl rfl (Y_assign (v := .int .i64 best) rfl rfl) ?_
    refine sq 5 rfl rfl (Y_assign (v := .int .i64 least) rfl rfl) ?_
    refine rw_nil ?_
    refine cw_ret ?_
    obtain ⟨rfl, rfl⟩ := pr2 (some_inj hF1)
    exact ret2 Try.results66 (v1 := .int .i64 best) (resAt_tmp rfl) (v2 := .int .i64 least) (resAt_tmp rfl) ⟨rfl, (ST.subR (R' := []) (hS3.sel [] rfl rfl) (fun _ h => by cases h))⟩

theorem c_impl_oddWord (p : TPhasePoly) (B : Option Addr) (c n : Nat) (B1 : Option Addr) (c1 n1 : Nat) (w0 : World) (hn : p.Terms.length = n) (hn1 : p.Out.Rows.length = n1) (hS : ST w0 [] w0 [] [⟨B, (p.Terms.flatMap enc_Term)⟩, ⟨B1, (p.Out.Rows.flatMap encI)⟩]) {r_ : Int} (hF : F_impl_oddWord p = some r_) :
    CV Try.prog 67 #[.agg #[.int .i64 p.Qubits, .int .i64 p.Phase, .slice B n c, .slice B1 n1 c1]] w0 (fun v w' => v = .int .i64 r_ ∧ ST w0 [] w' [] []) := by
  subst hn
  subst hn1
  unfold F_impl_oddWord at hF
  refine cv_of_cw 25 Try.func67 rfl Try.ntmps67 rfl ?_
  refine cw_seq ?_
  refine cw_region ?_
  refine ss 1 rfl rfl (Ys_box (T := 50) (v := .agg #[.int .i64 p.Qubits, .int .i64 p.Phase, .slice B p.Terms.length c, .slice B1 p.Out.Rows.length c1]) (cs := [.int .i64 p.Qubits, .int .i64 p.Phase, .slice B p.Terms.length c, .slice B1 p.Out.Rows.length c1]) (m := 4) hS rfl rfl rfl rfl) ?_
  rintro _ w_ ⟨b, rfl, hS1⟩
  refine sq 2 rfl rfl (Y_assign (v := .int .i64 0) rfl rfl) ?_
  refine rw_nil ?_
  refine cw_seq ?_
  refine cw_region ?_
  refine sq 3 rfl rfl (Y_assign (v := .int .i64 0) rfl rfl) ?_
  refine rw_nil ?_
  refine cw_seq ?_
  refine cw_seq ?_
  refine cw_region ?_
  refine sq 6 rfl rfl (Y_fieldAddr (B := some ⟨b, 0, none⟩) (i := 0) (s := 0) k_fd_50_2_2_47 k_sz_47_1 rfl rfl) ?_
  refine sq 7 rfl rfl (Y_load1 (B := some ⟨b, 0, none⟩) (i := 2) (cs := [.int .i64 p.Qubits, .int .i64 p.Phase, .slice B p.Terms.length c, .slice B1 p.Out.Rows.length c1]) (v := .slice B p.Terms.length c) k_sc_47 rfl rfl (hS1.cf (i := 0) rfl) rfl) ?_
  refine sq 8 rfl rfl (Y_len (B := B) (m := p.Terms.length) (c := c) k_sl_47_95 rfl rfl) ?_
  refine sq 9 rfl rfl (Y_move (v := .int .i64 0) rfl rfl) ?_
  refine rw_nil ?_
  obtain ⟨hN, hF⟩ := chk_inv hF
  obtain ⟨z, hz, hF1⟩ := bind_inv hF
  refine cw_block ?_
  refine cw_loop (fun k f w => ∃ (i : Nat) (word : Int), FF f [(3, .int .i64 word), (7, .slice B p.Terms.length c), (8, .int .i64 (p.Terms.length : Int)), (9, .int .i64 (i : Int))] ∧ ST w0 [] w [] [⟨B, (p.Terms.flatMap enc_Term)⟩, ⟨B1, (p.Out.Rows.flatMap encI)⟩] ∧ i + k = p.Terms.length ∧ forN (F_impl_oddWord_l1 p) k i word = some z) p.Terms.length ⟨0, 0, (FF.cons rfl (FF.cons rfl (FF.cons rfl (FF.cons rfl FF.nil)))), (hS1.sel [] rfl rfl), Nat.zero_add _, hz⟩ ?_
  rintro k_ f w ⟨i, word, hf, hS2, hik, hL⟩
  refine cw_seq ?_
  refine cw_region ?_
  refine sq 10 rfl rfl (Y_lt (k := .i64) (a := (i : Int)) (b := (p.Terms.length : Int)) rfl (hf.get 9 3 rfl) (hf.get 8 2 rfl)) ?_
  refine rw_nil ?_
  refine cw_seq ?_
  refine cw_cond (b := (decide ((i : Int) < (p.Terms.length : Int)))) rfl (fun hlt => ?_) (fun hlt => ?_)
  · skip
    have hlt1 : i < p.Terms.length := by have h := of_decide_eq_true hlt; omega
    obtain ⟨k_1, rfl⟩ : ∃ k2, k_ = k2 + 1 := ⟨k_ - 1, by omega⟩
    obtain ⟨y, hb, hL1⟩ := forN_go hL
    unfold F_impl_oddWord_l1 at hb
    refine cw_skip ?_
    refine cw_seq ?_
    obtain ⟨z1, hz1, hF2⟩ := bind_inv hb
    refine cw_mid (fun f w => ∃ (word1 : Int), word1 = z1 ∧ FF f [(3, .int .i64 word1), (7, .slice B p.Terms.length c), (8, .int .i64 (p.Terms.length : Int)), (9, .int .i64 (i : Int))] ∧ ST w0 [] w [] [⟨B, (p.Terms.flatMap enc_Term)⟩, ⟨B1, (p.Out.Rows.flatMap encI)⟩]) ?_ ?_
    · skip
      refine cw_block ?_
      refine cw_seq ?_
      refine cw_region ?_
      obtain ⟨x, hx, hz1⟩ := bind_inv hz1
      refine sq 11 rfl rfl (Y_index (B := B) (m := p.Terms.length) (c := c) (k := .i64) (i := (i : Int)) k_sl_47_95 k_sz_95_2 rfl (hf.get 7 1 rfl) (hf.get 9 3 rfl) (gi_isSome enc_Term_len rfl (hS2.rf (i := 0) rfl) hx) (getI_nn hx) (getI_ltI hx rfl)) ?_
      refine sq 12 rfl rfl (Y_loadA (B := B) (i := (i : Int).toNat * 2) (cs := (p.Terms.flatMap enc_Term)) (vs := [.int .i64 x.Mask, .int .i64 x.Coef]) k_ag_95 k_sz_95_2 rfl rfl (hS2.rf (i := 0) rfl) (enc_Term_len x) (gi_seg enc_Term_len hx)) ?_
      refine ss 5 rfl rfl (Ys_alloc (T := 95) (cs := [.int .i64 0, .int .i64 0]) (m := 2) hS2 k_zero_95 rfl rfl rfl) ?_
      rintro _ w_1 ⟨b1, rfl, hS4⟩
      refine ss0 rfl rfl (Ys_store (i := 0) (s := 2) (B := some ⟨b1, 0, none⟩) (T' := 95) (v := .agg #[.int .i64 x.Mask, .int .i64 x.Coef]) (vs := [.int .i64 x.Mask, .int .i64 x.Coef]) (k := 0) (cs' := [.int .i64 x.Mask, .int .i64 x.Coef]) hS4 k_sz_95_2 rfl rfl rfl rfl rfl rfl rfl (Nat.le_of_ble_eq_true rfl) rfl rfl) ?_
      rintro _ w_2 ⟨rfl, hS5⟩
      refine rw_nil ?_
      refine cw_seq ?_
      refine cw_region ?_
      refine sq 13 rfl rfl (Y_fieldAddr (B := some ⟨b1, 0, none⟩) (i := 0) (s := 0) k_fd_95_1_1_3 k_sz_3_1 rfl rfl) ?_
      refine sq 14 rfl rfl (Y_load1 (B := some ⟨b1, 0, none⟩) (i := 1) (cs := [.int .i64 x.Mask, .int .i64 x.Coef]) (v := .int .i64 x.Coef) k_sc_3 rfl rfl (hS5.cf (i := 0) rfl) rfl) ?_
      refine sq 15 rfl rfl (Y_rem (k := .i64) (a := x.Coef) (b := 2) rfl rfl rfl (by decide)) ?_
      refine sq 16 rfl rfl (Y_eq (k := .i64) (a := (Int.tmod x.Coef 2)) (b := 1) rfl rfl rfl) ?_
      refine rw_nil ?_
      refine cw_cond (b := ((Int.tmod x.Coef 2) == 1)) rfl (fun hb1 => ?_) (fun hb1 => ?_)
      · skip
        have hF3 := ct hz1 hb1
        refine cw_region ?_
        refine sq 17 rfl rfl (Y_move (v := .int .i64 word) rfl (hf.get 3 0 rfl)) ?_
        refine sq 18 rfl rfl (Y_fieldAddr (B := some ⟨b1, 0, none⟩) (i := 0) (s := 0) k_fd_95_0_0_3 k_sz_3_1 rfl rfl) ?_
        refine sq 19 rfl rfl (Y_load1 (B := some ⟨b1, 0, none⟩) (i := 0) (cs := [.int .i64 x.Mask, .int .i64 x.Coef]) (v := .int .i64 x.Mask) k_sc_3 rfl rfl (hS5.cf (i := 0) rfl) rfl) ?_
        refine sq 20 rfl rfl (Y_sub (k := .i64) (a := x.Mask) (b := 1) rfl rfl rfl) ?_
        obtain ⟨hsh, hF3⟩ := chk_inv hF3
        refine sq 21 rfl rfl (Y_shl (k := .i64) (a := 1) (k' := .i64) (b := (IntKind.i64.wrap (x.Mask - 1))) rfl rfl rfl hsh) ?_
        refine sq 22 rfl rfl (Y_bor (k := .i64) (a := word) (b := (shlK .i64 1 (IntKind.i64.wrap (x.Mask - 1)))) rfl rfl rfl) ?_
        refine sq 3 rfl rfl (Y_assign (v := .int .i64 (bits .or .i64 word (shlK .i64 1 (IntKind.i64.wrap (x.Mask - 1))))) rfl rfl) ?_
        refine rw_nil ?_
        exact ⟨(bits .or .i64 word (shlK .i64 1 (IntKind.i64.wrap (x.Mask - 1)))), (some_inj hF3), (FF.cons rfl (FF.cons (hf.get 7 1 rfl) (FF.cons (hf.get 8 2 rfl) (FF.cons (hf.get 9 3 rfl) FF.nil)))), (hS5.sel [] rfl rfl)⟩
      · skip
        have hF4 := cf' hz1 hb1
        refine cw_skip ?_
        exact ⟨word, (some_inj hF4), (FF.cons (hf.get 3 0 rfl) (FF.cons (hf.get 7 1 rfl) (FF.cons (hf.get 8 2 rfl) (FF.cons (hf.get 9 3 rfl) FF.nil)))), (hS5.sel [] rfl rfl)⟩
    rintro f w ⟨word1, rfl, hf1, hS3⟩
    refine cw_region ?_
    refine sq 23 rfl rfl (Y_add (k := .i64) (a := (i : Int)) (b := 1) rfl (hf1.get 9 3 rfl) rfl) ?_
    refine sq 9 rfl rfl (Y_move (v := .int .i64 (IntKind.i64.wrap ((i : Int) + 1))) rfl rfl) ?_
    refine rw_nil ?_
    obtain rfl := some_inj hF2
    exact ⟨k_1, Nat.lt_succ_self _, i + 1, word1, (FF.cons (hf1.get 3 0 rfl) (FF.cons (hf1.get 7 1 rfl) (FF.cons (hf1.get 8 2 rfl) (FF.cons (congrArg (Value.int .i64) (wr_succ hlt1 hN)) FF.nil)))), (hS3.sel [] rfl rfl), (by omega), hL1⟩
  · skip
    obtain rfl : k_ = 0 := by have h := of_decide_eq_false hlt; omega
    refine cw_exit rfl ?_
    obtain rfl := some_inj hL
    refine cw_seq ?_
    refine cw_region ?_
    refine sq 24 rfl rfl (Y_move (v := .int .i64 word) rfl (hf.get 3 0 rfl)) ?_
    refine sq 2 rfl rfl (Y_assign (v := .int .i64 word) rfl rfl) ?_
    refine rw_nil ?_
    refine cw_ret ?_
    obtain rfl := some_inj hF1
    exact ret1 Try.results67 (v1 := .int .i64 word) (resAt_tmp rfl) ⟨rfl, (ST.subR (R' := []) (hS2.sel [] rfl rfl) (fun _ h => by cases h))⟩

theorem c_impl_LeastT (p : TPhasePoly) (B : Option Addr) (c n : Nat) (B1 : Option Addr) (c1 n1 : Nat) (w0 : World) (hn : p.Terms.length = n) (hn1 : p.Out.Rows.length = n1) (hS : ST w0 [] w0 [] [⟨B, (p.Terms.flatMap enc_Term)⟩, ⟨B1, (p.Out.Rows.flatMap encI)⟩]) {r_ : Int} {r_1 : Bool} (hF : F_impl_LeastT p = some (r_, r_1)) :
    CV Try.prog 71 #[.agg #[.int .i64 p.Qubits, .int .i64 p.Phase, .slice B n c, .slice B1 n1 c1]] w0 (fun v w' => v = .tuple #[.int .i64 r_, .bool r_1] ∧ ST w0 [] w' [] []) := by
  subst hn
  subst hn1
  unfold F_impl_LeastT at hF
  refine cv_of_cw 18 Try.func71 rfl Try.ntmps71 rfl ?_
  refine cw_seq ?_
  refine cw_region ?_
  refine ss 1 rfl rfl (Ys_box (T := 50) (v := .agg #[.int .i64 p.Qubits, .int .i64 p.Phase, .slice B p.Terms.length c, .slice B1 p.Out.Rows.length c1]) (cs := [.int .i64 p.Qubits, .int .i64 p.Phase, .slice B p.Terms.length c, .slice B1 p.Out.Rows.length c1]) (m := 4) hS rfl rfl rfl rfl) ?_
  rintro _ w_ ⟨b, rfl, hS1⟩
  refine sq 2 rfl rfl (Y_assign (v := .int .i64 0) rfl rfl) ?_
  refine sq 3 rfl rfl (Y_assign (v := .bool false) rfl rfl) ?_
  refine rw_nil ?_
  refine cw_seq ?_
  refine cw_seq ?_
  refine cw_region ?_
  refine sq 6 rfl rfl (Y_loadA (B := some ⟨b, 0, none⟩) (i := 0) (cs := [.int .i64 p.Qubits, .int .i64 p.Phase, .slice B p.Terms.length c, .slice B1 p.Out.Rows.length c1]) (vs := [.int .i64 p.Qubits, .int .i64 p.Phase, .slice B p.Terms.length c, .slice B1 p.Out.Rows.length c1]) k_ag_50 k_sz_50_4 rfl rfl (hS1.cf (i := 0) rfl) rfl rfl) ?_
  obtain ⟨r_2, hc, hF⟩ := bind_inv hF
  refine sc 7 rfl rfl (Yc_func (g := 54) (vs := [.agg #[.int .i64 p.Qubits, .int .i64 p.Phase, .slice B p.Terms.length c, .slice B1 p.Out.Rows.length c1]]) k_call_54 rfl (mc rfl mn) (c_impl_IsValidPhasePoly p B c p.Terms.length B1 c1 p.Out.Rows.length _ rfl rfl (hS1.inn0 [(true, 0), (true, 1)] rfl) hc)) ?_
  rintro _ w_1 ⟨rfl, hd⟩
  have hS2 := hS1.out00 hd
  refine sq 8 rfl rfl (Y_not (p := r_2) rfl rfl) ?_
  refine rw_nil ?_
  refine cw_cond (b := (!r_2)) rfl (fun hb => ?_) (fun hb => ?_)
  · skip
    have hF1 := ct hF hb
    refine cw_seq ?_
    refine cw_region ?_
    refine sq 2 rfl rfl (Y_assign (v := .int .i64 0) rfl rfl) ?_
    refine sq 3 rfl rfl (Y_assign (v := .bool false) rfl rfl) ?_
    refine rw_nil ?_
    refine cw_ret ?_
    obtain ⟨rfl, rfl⟩ := pr2 (some_inj hF1)
    exact ret2 Try.results71 (v1 := .int .i64 0) (resAt_tmp rfl) (v2 := .bool false) (resAt_tmp rfl) ⟨rfl, (ST.subR (R' := []) (hS2.sel [] rfl rfl) (fun _ h => by cases h))⟩
  · skip
    have hF2 := cf' hF hb
    refine cw_skip ?_
    refine cw_seq ?_
    obtain ⟨r_3, hc1, hF2⟩ := bind_inv hF2
    obtain ⟨⟨r_4, r_5⟩, hc2, hF2⟩ := bind_inv hF2
    refine ra_start (ST.sel hS2 [0] rfl rfl).fn (by kernel_rfl) ?_
    have hS5 := hS2.drew
    refine ra_q 0 10 (v := pt (some ⟨b, 0, none⟩) 0) rfl rfl rfl (by kernel_rfl) (by kernel_rfl) (by kernel_rfl) (ST.sel hS5 [0] rfl rfl) (fun w' hw' => (Y_fieldAddr (B := some ⟨b, 0, none⟩) (i := 0) (s := 0) k_fd_50_0_0_3 k_sz_3_1 rfl rfl)) ?_
    refine ra_q 1 11 (v := .int .i64 p.Qubits) rfl rfl rfl (by kernel_rfl) (by kernel_rfl) (by kernel_rfl) (ST.sel hS5 [0] rfl rfl) (fun w' hw' => (Y_load1 (B := some ⟨b, 0, none⟩) (i := 0) (cs := [.int .i64 p.Qubits, .int .i64 p.Phase, .slice B p.Terms.length c, .slice B1 p.Out.Rows.length c1]) (v := .int .i64 p.Qubits) k_sc_3 rfl rfl (ST.cf hw' (i := 0) rfl) rfl)) ?_
    refine ra_q 2 12 (v := .agg #[.int .i64 p.Qubits, .int .i64 p.Phase, .slice B p.Terms.length c, .slice B1 p.Out.Rows.length c1]) rfl rfl rfl (by kernel_rfl) (by kernel_rfl) (by kernel_rfl) (ST.sel hS5 [0] rfl rfl) (fun w' hw' => (Y_loadA (B := some ⟨b, 0, none⟩) (i := 0) (cs := [.int .i64 p.Qubits, .int .i64 p.Phase, .slice B p.Terms.length c, .slice B1 p.Out.Rows.length c1]) (vs := [.int .i64 p.Qubits, .int .i64 p.Phase, .slice B p.Terms.length c, .slice B1 p.Out.Rows.length c1]) k_ag_50 k_sz_50_4 rfl rfl (ST.cf hw' (i := 0) rfl) rfl rfl)) ?_
    refine ra_all (rs := [3]) (by kernel_rfl) rfl ?_
    refine ra_c 13 (i := 3) rfl rfl rfl (Yc_func (g := 67) (vs := [.agg #[.int .i64 p.Qubits, .int .i64 p.Phase, .slice B p.Terms.length c, .slice B1 p.Out.Rows.length c1]]) k_call_67 rfl (mc rfl mn) (c_impl_oddWord p B c p.Terms.length B1 c1 p.Out.Rows.length _ rfl rfl (hS5.inn0 [(true, 0), (true, 1)] rfl) hc1)) ?_ ?_
    · rintro _ w_2 ⟨rfl, hd1⟩
      have hS6 := hS5.out00 hd1
      refine ⟨(ST.sel hS6 [0] rfl rfl), ?_⟩
      refine ra_all (rs := [4]) (by kernel_rfl) rfl ?_
      refine ra_c 14 (i := 4) rfl rfl rfl (Yc_func (g := 66) (vs := [.int .i64 p.Qubits, .int .i64 r_3]) k_call_66 rfl (mc rfl (mc rfl mn)) (c_impl_nearest p.Qubits r_3 _  (hS6.inn0 [] rfl) hc2)) ?_ ?_
      · rintro _ w_3 ⟨rfl, hd2⟩
        have hS7 := hS6.out00 hd2
        refine ⟨(ST.sel hS7 [0] rfl rfl), ?_⟩
        refine ra_q 5 9 (v := .tuple #[.int .i64 r_4, .int .i64 r_5]) rfl rfl rfl (by kernel_rfl) (by kernel_rfl) (by kernel_rfl) (ST.sel hS7 [0] rfl rfl) (fun w' hw' => (Y_move (v := .tuple #[.int .i64 r_4, .int .i64 r_5]) rfl rfl)) ?_
        refine ra_q 6 15 (v := .int .i64 r_4) rfl rfl rfl (by kernel_rfl) (by kernel_rfl) (by kernel_rfl) (ST.sel hS7 [0] rfl rfl) (fun w' hw' => (Y_extract (v := .int .i64 r_4) rfl rfl rfl)) ?_
        refine ra_q 7 16 (v := .int .i64 r_5) rfl rfl rfl (by kernel_rfl) (by kernel_rfl) (by kernel_rfl) (ST.sel hS7 [0] rfl rfl) (fun w' hw' => (Y_extract (v := .int .i64 r_5) rfl rfl rfl)) ?_
        refine ra_q 8 4 (v := .int .i64 r_4) rfl rfl rfl (by kernel_rfl) (by kernel_rfl) (by kernel_rfl) (ST.sel hS7 [0] rfl rfl) (fun w' hw' => (Y_assign (v := .int .i64 r_4) rfl rfl)) ?_
        refine ra_q 9 5 (v := .int .i64 r_5) rfl rfl rfl (by kernel_rfl) (by kernel_rfl) (by kernel_rfl) (ST.sel hS7 [0] rfl rfl) (fun w' hw' => (Y_assign (v := .int .i64 r_5) rfl rfl)) ?_
        refine ra_done (by kernel_rfl) ?_
        refine cw_seq ?_
        refine cw_region ?_
        refine sq 17 rfl rfl (Y_move (v := .int .i64 r_5) rfl rfl) ?_
        refine sq 2 rfl rfl (Y_assign (v := .int .i64 r_5) rfl rfl) ?_
        refine sq 3 rfl rfl (Y_assign (v := .bool true) rfl rfl) ?_
        refine rw_nil ?_
        refine cw_ret ?_
        obtain ⟨rfl, rfl⟩ := pr2 (some_inj hF2)
        exact ret2 Try.results71 (v1 := .int .i64 r_5) (resAt_tmp rfl) (v2 := .bool true) (resAt_tmp rfl) ⟨rfl, (ST.subR (R' := []) (hS7.sel [] rfl rfl) (fun _ h => by cases h))⟩
      exact allR_nil
    exact allR_nil

theorem c_slices_Equal_impl_Term_impl_Term (s1 : List TTerm) (s2 : List TTerm) (B : Option Addr) (c n : Nat) (B1 : Option Addr) (c1 n1 : Nat) (w0 : World) (hn : s1.length = n) (hn1 : s2.length = n1) (hS : ST w0 [] w0 [] [⟨B, (s1.flatMap enc_Term)⟩, ⟨B1, (s2.flatMap enc_Term)⟩]) {r_ : Bool} (hF : F_slices_Equal_impl_Term_impl_Term s1 s2 = some r_) :
    CV Try.prog 114 #[.slice B n c, .slice B1 n1 c1] w0 (fun v w' => v = .bool r_ ∧ ST w0 [] w' [] []) := by
  subst hn
  subst hn1
  unfold F_slices_Equal_impl_Term_impl_Term at hF
  refine cv_of_cw 26 Try.func114 rfl Try.ntmps114 rfl ?_
  refine cw_seq ?_
  refine cw_region ?_
  refine sq 4 rfl rfl (Y_assign (v := .bool false) rfl rfl) ?_
  refine rw_nil ?_
  refine cw_seq ?_
  refine cw_seq ?_
  refine cw_region ?_
  refine sq 6 rfl rfl (Y_move (v := .slice B s1.length c) rfl rfl) ?_
  refine sq 7 rfl rfl (Y_len (B := B) (m := s1.length) (c := c) k_sl_47_95 rfl rfl) ?_
  refine sq 8 rfl rfl (Y_move (v := .slice B1 s2.length c1) rfl rfl) ?_
  refine sq 9 rfl rfl (Y_len (B := B1) (m := s2.length) (c := c1) k_sl_47_95 rfl rfl) ?_
  refine sq 10 rfl rfl (Y_ne (k := .i64) (a := (s1.length : Int)) (b := (s2.length : Int)) rfl rfl rfl) ?_
  refine rw_nil ?_
  refine cw_cond (b := ((s1.length : Int) != (s2.length : Int))) rfl (fun hb => ?_) (fun hb => ?_)
  · skip
    have hF1 := ct hF hb
    refine cw_seq ?_
    refine cw_region ?_
    refine sq 4 rfl rfl (Y_assign (v := .bool false) rfl rfl) ?_
    refine rw_nil ?_
    refine cw_ret ?_
    obtain rfl := some_inj hF1
    exact ret1 Try.results114 (v1 := .bool false) (resAt_tmp rfl) ⟨rfl, (ST.subR (R' := []) (hS.sel [] rfl rfl) (fun _ h => by cases h))⟩
  · skip
    have hF2 := cf' hF hb
    refine cw_skip ?_
    refine cw_seq ?_
    refine cw_seq ?_
    refine cw_region ?_
    refine sq 11 rfl rfl (Y_move (v := .slice B s1.length c) rfl rfl) ?_
    refine sq 12 rfl rfl (Y_len (B := B) (m := s1.length) (c := c) k_sl_47_95 rfl rfl) ?_
    refine sq 13 rfl rfl (Y_move (v := .int .i64 0) rfl rfl) ?_
    refine rw_nil ?_
    obtain ⟨hN, hF2⟩ := chk_inv hF2
    obtain ⟨z, hz, hF3⟩ := bind_inv hF2
    refine cw_block ?_
    refine cw_loop (fun k f w => ∃ (i : Nat), FF f [(0, .slice B s1.length c), (1, .slice B1 s2.length c1), (12, .int .i64 (s1.length : Int)), (13, .int .i64 (i : Int))] ∧ ST w0 [] w [] [⟨B, (s1.flatMap enc_Term)⟩, ⟨B1, (s2.flatMap enc_Term)⟩] ∧ i + k = s1.length ∧ forX (F_slices_Equal_impl_Term_impl_Term_l1 s1 s2) k i () = some z) s1.length ⟨0, (FF.cons rfl (FF.cons rfl (FF.cons rfl (FF.cons rfl FF.nil)))), (hS.sel [] rfl rfl), Nat.zero_add _, hz⟩ ?_
    rintro k_ f w ⟨i, hf, hS1, hik, hL⟩
    refine cw_seq ?_
    refine cw_region ?_
    refine sq 14 rfl rfl (Y_lt (k := .i64) (a := (i : Int)) (b := (s1.length : Int)) rfl (hf.get 13 3 rfl) (hf.get 12 2 rfl)) ?_
    refine rw_nil ?_
    refine cw_seq ?_
    refine cw_cond (b := (decide ((i : Int) < (s1.length : Int)))) rfl (fun hlt => ?_) (fun hlt => ?_)
    · skip
      have hlt1 : i < s1.length := by have h := of_decide_eq_true hlt; omega
      obtain ⟨k_1, rfl⟩ : ∃ k2, k_ = k2 + 1 := ⟨k_ - 1, by omega⟩
      obtain ⟨y, hb1, hL1⟩ := forX_go hL
      unfold F_slices_Equal_impl_Term_impl_Term_l1 at hb1
      refine cw_skip ?_
      refine cw_seq ?_
      refine cw_block ?_
      refine cw_seq ?_
      refine cw_region ?_
      refine sq 15 rfl rfl (Y_move (v := .int .i64 (i : Int)) rfl (hf.get 13 3 rfl)) ?_
      refine sq 5 rfl rfl (Y_assign (v := .int .i64 (i : Int)) rfl rfl) ?_
      refine rw_nil ?_
      refine cw_seq ?_
      obtain ⟨x, hx, hb1⟩ := bind_inv hb1
      obtain ⟨x1, hx1, hb1⟩ := bind_inv hb1
      refine ra_start (ST.sel hS1 [] rfl rfl).fn (by kernel_rfl) ?_
      have hS2 := hS1.drew
      refine ra_q 0 16 (v := .slice B s1.length c) rfl rfl rfl (by kernel_rfl) (by kernel_rfl) (by kernel_rfl) (ST.sel hS2 [] rfl rfl) (fun w' hw' => (Y_move (v := .slice B s1.length c) rfl (hf.get 0 0 rfl))) ?_
      refine ra_q 1 17 (v := .int .i64 (i : Int)) rfl rfl rfl (by kernel_rfl) (by kernel_rfl) (by kernel_rfl) (ST.sel hS2 [] rfl rfl) (fun w' hw' => (Y_move (v := .int .i64 (i : Int)) rfl rfl)) ?_
      refine ra_q 2 18 (v := pt B ((i : Int).toNat * 2)) rfl rfl rfl (by kernel_rfl) (by kernel_rfl) (by kernel_rfl) (ST.sel hS2 [] rfl rfl) (fun w' hw' => (Y_index (B := B) (m := s1.length) (c := c) (k := .i64) (i := (i : Int)) k_sl_47_95 k_sz_95_2 rfl rfl rfl (gi_isSome enc_Term_len rfl (ST.rf hw' (i := 0) rfl) hx) (getI_nn hx) (getI_ltI hx rfl))) ?_
      refine ra_q 3 19 (v := .agg #[.int .i64 x.Mask, .int .i64 x.Coef]) rfl rfl rfl (by kernel_rfl) (by kernel_rfl) (by kernel_rfl) (ST.sel hS2 [] rfl rfl) (fun w' hw' => (Y_loadA (B := B) (i := (i : Int).toNat * 2) (cs := (s1.flatMap enc_Term)) (vs := [.int .i64 x.Mask, .int .i64 x.Coef]) k_ag_95 k_sz_95_2 rfl rfl (ST.rf hw' (i := 0) rfl) (enc_Term_len x) (gi_seg enc_Term_len hx))) ?_
      refine ra_q 4 20 (v := .slice B1 s2.length c1) rfl rfl rfl (by kernel_rfl) (by kernel_rfl) (by kernel_rfl) (ST.sel hS2 [] rfl rfl) (fun w' hw' => (Y_move (v := .slice B1 s2.length c1) rfl (hf.get 1 1 rfl))) ?_
      refine ra_q 5 21 (v := .int .i64 (i : Int)) rfl rfl rfl (by kernel_rfl) (by kernel_rfl) (by kernel_rfl) (ST.sel hS2 [] rfl rfl) (fun w' hw' => (Y_move (v := .int .i64 (i : Int)) rfl rfl)) ?_
      refine ra_q 6 22 (v := pt B1 ((i : Int).toNat * 2)) rfl rfl rfl (by kernel_rfl) (by kernel_rfl) (by kernel_rfl) (ST.sel hS2 [] rfl rfl) (fun w' hw' => (Y_index (B := B1) (m := s2.length) (c := c1) (k := .i64) (i := (i : Int)) k_sl_47_95 k_sz_95_2 rfl rfl rfl (gi_isSome enc_Term_len rfl (ST.rf hw' (i := 1) rfl) hx1) (getI_nn hx1) (getI_ltI hx1 rfl))) ?_
      refine ra_q 7 23 (v := .agg #[.int .i64 x1.Mask, .int .i64 x1.Coef]) rfl rfl rfl (by kernel_rfl) (by kernel_rfl) (by kernel_rfl) (ST.sel hS2 [] rfl rfl) (fun w' hw' => (Y_loadA (B := B1) (i := (i : Int).toNat * 2) (cs := (s2.flatMap enc_Term)) (vs := [.int .i64 x1.Mask, .int .i64 x1.Coef]) k_ag_95 k_sz_95_2 rfl rfl (ST.rf hw' (i := 1) rfl) (enc_Term_len x1) (gi_seg enc_Term_len hx1))) ?_
      refine ra_q 8 24 (v := .bool (!((x.Mask == x1.Mask) && ((x.Coef == x1.Coef) && true)))) rfl rfl rfl (by kernel_rfl) (by kernel_rfl) (by kernel_rfl) (ST.sel hS2 [] rfl rfl) (fun w' hw' => (Y_neA (xs := #[.int .i64 x.Mask, .int .i64 x.Coef]) (ys := #[.int .i64 x1.Mask, .int .i64 x1.Coef]) (b := ((x.Mask == x1.Mask) && ((x.Coef == x1.Coef) && true))) k_eg_95 rfl rfl rfl (eqr_struct (xs := [.int .i64 x.Mask, .int .i64 x.Coef]) (ys := [.int .i64 x1.Mask, .int .i64 x1.Coef]) k_st_95 k_ho_95 (pts_sc k_sc_3 rfl rfl (eqr_int k_int_3_i64) (pts_sc k_sc_3 rfl rfl (eqr_int k_int_3_i64) pts_nil))))) ?_
      refine ra_done (by kernel_rfl) ?_
      refine cw_cond (b := (!((x.Mask == x1.Mask) && ((x.Coef == x1.Coef) && true)))) rfl (fun hb2 => ?_) (fun hb2 => ?_)
      · skip
        have hF4 := ct hb1 hb2
        refine cw_seq ?_
        refine cw_region ?_
        refine sq 4 rfl rfl (Y_assign (v := .bool false) rfl rfl) ?_
        refine rw_nil ?_
        refine cw_ret ?_
        obtain rfl := some_inj hF4
        obtain rfl := some_inj hL1
        obtain rfl := some_inj hF3
        exact ret1 Try.results114 (v1 := .bool false) (resAt_tmp rfl) ⟨rfl, (ST.subR (R' := []) (hS2.sel [] rfl rfl) (fun _ h => by cases h))⟩
      · skip
        have hF5 := cf' hb1 hb2
        refine cw_skip ?_
        refine cw_region ?_
        refine sq 25 rfl rfl (Y_add (k := .i64) (a := (i : Int)) (b := 1) rfl (hf.get 13 3 rfl) rfl) ?_
        refine sq 13 rfl rfl (Y_move (v := .int .i64 (IntKind.i64.wrap ((i : Int) + 1))) rfl rfl) ?_
        refine rw_nil ?_
        obtain rfl := some_inj hF5
        exact ⟨k_1, Nat.lt_succ_self _, i + 1, (FF.cons (hf.get 0 0 rfl) (FF.cons (hf.get 1 1 rfl) (FF.cons (hf.get 12 2 rfl) (FF.cons (congrArg (Value.int .i64) (wr_succ hlt1 hN)) FF.nil)))), (hS2.sel [] rfl rfl), (by omega), hL1⟩
    · skip
      obtain rfl : k_ = 0 := by have h := of_decide_eq_false hlt; omega
      refine cw_exit rfl ?_
      obtain rfl := some_inj hL
      refine cw_seq ?_
      refine cw_region ?_
      refine sq 4 rfl rfl (Y_assign (v := .bool true) rfl rfl) ?_
      refine rw_nil ?_
      refine cw_ret ?_
      obtain rfl := some_inj hF3
      exact ret1 Try.results114 (v1 := .bool true) (resAt_tmp rfl) ⟨rfl, (ST.subR (R' := []) (hS1.sel [] rfl rfl) (fun _ h => by cases h))⟩

theorem c_slices_Equal_int_int (s1 : List Int) (s2 : List Int) (B : Option Addr) (c n : Nat) (B1 : Option Addr) (c1 n1 : Nat) (w0 : World) (hn : s1.length = n) (hn1 : s2.length = n1) (hS : ST w0 [] w0 [] [⟨B, (s1.flatMap encI)⟩, ⟨B1, (s2.flatMap encI)⟩]) {r_ : Bool} (hF : F_slices_Equal_int_int s1 s2 = some r_) :
    CV Try.prog 115 #[.slice B n c, .slice B1 n1 c1] w0 (fun v w' => v = .bool r_ ∧ ST w0 [] w' [] []) := by
  subst hn
  subst hn1
  unfold F_slices_Equal_int_int at hF
  refine cv_of_cw 26 Try.func115 rfl Try.ntmps115 rfl ?_
  refine cw_seq ?_
  refine cw_region ?_
  refine sq 4 rfl rfl (Y_assign (v := .bool false) rfl rfl) ?_
  refine rw_nil ?_
  refine cw_seq ?_
  refine cw_seq ?_
  refine cw_region ?_
  refine sq 6 rfl rfl (Y_move (v := .slice B s1.length c) rfl rfl) ?_
  refine sq 7 rfl rfl (Y_len (B := B) (m := s1.length) (c := c) k_sl_41_3 rfl rfl) ?_
  refine sq 8 rfl rfl (Y_move (v := .slice B1 s2.length c1) rfl rfl) ?_
  refine sq 9 rfl rfl (Y_len (B := B1) (m := s2.length) (c := c1) k_sl_41_3 rfl rfl) ?_
  refine sq 10 rfl rfl (Y_ne (k := .i64) (a := (s1.length : Int)) (b := (s2.length : Int)) rfl rfl rfl) ?_
  refine rw_nil ?_
  refine cw_cond (b := ((s1.length : Int) != (s2.length : Int))) rfl (fun hb => ?_) (fun hb => ?_)
  · skip
    have hF1 := ct hF hb
    refine cw_seq ?_
    refine cw_region ?_
    refine sq 4 rfl rfl (Y_assign (v := .bool false) rfl rfl) ?_
    refine rw_nil ?_
    refine cw_ret ?_
    obtain rfl := some_inj hF1
    exact ret1 Try.results115 (v1 := .bool false) (resAt_tmp rfl) ⟨rfl, (ST.subR (R' := []) (hS.sel [] rfl rfl) (fun _ h => by cases h))⟩
  · skip
    have hF2 := cf' hF hb
    refine cw_skip ?_
    refine cw_seq ?_
    refine cw_seq ?_
    refine cw_region ?_
    refine sq 11 rfl rfl (Y_move (v := .slice B s1.length c) rfl rfl) ?_
    refine sq 12 rfl rfl (Y_len (B := B) (m := s1.length) (c := c) k_sl_41_3 rfl rfl) ?_
    refine sq 13 rfl rfl (Y_move (v := .int .i64 0) rfl rfl) ?_
    refine rw_nil ?_
    obtain ⟨hN, hF2⟩ := chk_inv hF2
    obtain ⟨z, hz, hF3⟩ := bind_inv hF2
    refine cw_block ?_
    refine cw_loop (fun k f w => ∃ (i : Nat), FF f [(0, .slice B s1.length c), (1, .slice B1 s2.length c1), (12, .int .i64 (s1.length : Int)), (13, .int .i64 (i : Int))] ∧ ST w0 [] w [] [⟨B, (s1.flatMap encI)⟩, ⟨B1, (s2.flatMap encI)⟩] ∧ i + k = s1.length ∧ forX (F_slices_Equal_int_int_l1 s1 s2) k i () = some z) s1.length ⟨0, (FF.cons rfl (FF.cons rfl (FF.cons rfl (FF.cons rfl FF.nil)))), (hS.sel [] rfl rfl), Nat.zero_add _, hz⟩ ?_
    rintro k_ f w ⟨i, hf, hS1, hik, hL⟩
    refine cw_seq ?_
    refine cw_region ?_
    refine sq 14 rfl rfl (Y_lt (k := .i64) (a := (i : Int)) (b := (s1.length : Int)) rfl (hf.get 13 3 rfl) (hf.get 12 2 rfl)) ?_
    refine rw_nil ?_
    refine cw_seq ?_
    refine cw_cond (b := (decide ((i : Int) < (s1.length : Int)))) rfl (fun hlt => ?_) (fun hlt => ?_)
    · skip
      have hlt1 : i < s1.length := by have h := of_decide_eq_true hlt; omega
      obtain ⟨k_1, rfl⟩ : ∃ k2, k_ = k2 + 1 := ⟨k_ - 1, by omega⟩
      obtain ⟨y, hb1, hL1⟩ := forX_go hL
      unfold F_slices_Equal_int_int_l1 at hb1
      refine cw_skip ?_
      refine cw_seq ?_
      refine cw_block ?_
      refine cw_seq ?_
      refine cw_region ?_
      refine sq 15 rfl rfl (Y_move (v := .int .i64 (i : Int)) rfl (hf.get 13 3 rfl)) ?_
      refine sq 5 rfl rfl (Y_assign (v := .int .i64 (i : Int)) rfl rfl) ?_
      refine rw_nil ?_
      refine cw_seq ?_
      obtain ⟨x, hx, hb1⟩ := bind_inv hb1
      obtain ⟨x1, hx1, hb1⟩ := bind_inv hb1
      refine ra_start (ST.sel hS1 [] rfl rfl).fn (by kernel_rfl) ?_
      have hS2 := hS1.drew
      refine ra_q 0 16 (v := .slice B s1.length c) rfl rfl rfl (by kernel_rfl) (by kernel_rfl) (by kernel_rfl) (ST.sel hS2 [] rfl rfl) (fun w' hw' => (Y_move (v := .slice B s1.length c) rfl (hf.get 0 0 rfl))) ?_
      refine ra_q 1 17 (v := .int .i64 (i : Int)) rfl rfl rfl (by kernel_rfl) (by kernel_rfl) (by kernel_rfl) (ST.sel hS2 [] rfl rfl) (fun w' hw' => (Y_move (v := .int .i64 (i : Int)) rfl rfl)) ?_
      refine ra_q 2 18 (v := pt B ((i : Int).toNat * 1)) rfl rfl rfl (by kernel_rfl) (by kernel_rfl) (by kernel_rfl) (ST.sel hS2 [] rfl rfl) (fun w' hw' => (Y_index (B := B) (m := s1.length) (c := c) (k := .i64) (i := (i : Int)) k_sl_41_3 k_sz_3_1 rfl rfl rfl (gi_isSome encI_len rfl (ST.rf hw' (i := 0) rfl) hx) (getI_nn hx) (getI_ltI hx rfl))) ?_
      refine ra_q 3 19 (v := .int .i64 x) rfl rfl rfl (by kernel_rfl) (by kernel_rfl) (by kernel_rfl) (ST.sel hS2 [] rfl rfl) (fun w' hw' => (Y_load1 (B := B) (i := (i : Int).toNat * 1) (cs := (s1.flatMap encI)) (v := .int .i64 x) k_sc_3 rfl rfl (ST.rf hw' (i := 0) rfl) (gi_at0 encI_len hx rfl))) ?_
      refine ra_q 4 20 (v := .slice B1 s2.length c1) rfl rfl rfl (by kernel_rfl) (by kernel_rfl) (by kernel_rfl) (ST.sel hS2 [] rfl rfl) (fun w' hw' => (Y_move (v := .slice B1 s2.length c1) rfl (hf.get 1 1 rfl))) ?_
      refine ra_q 5 21 (v := .int .i64 (i : Int)) rfl rfl rfl (by kernel_rfl) (by kernel_rfl) (by kernel_rfl) (ST.sel hS2 [] rfl rfl) (fun w' hw' => (Y_move (v := .int .i64 (i : Int)) rfl rfl)) ?_
      refine ra_q 6 22 (v := pt B1 ((i : Int).toNat * 1)) rfl rfl rfl (by kernel_rfl) (by kernel_rfl) (by kernel_rfl) (ST.sel hS2 [] rfl rfl) (fun w' hw' => (Y_index (B := B1) (m := s2.length) (c := c1) (k := .i64) (i := (i : Int)) k_sl_41_3 k_sz_3_1 rfl rfl rfl (gi_isSome encI_len rfl (ST.rf hw' (i := 1) rfl) hx1) (getI_nn hx1) (getI_ltI hx1 rfl))) ?_
      refine ra_q 7 23 (v := .int .i64 x1) rfl rfl rfl (by kernel_rfl) (by kernel_rfl) (by kernel_rfl) (ST.sel hS2 [] rfl rfl) (fun w' hw' => (Y_load1 (B := B1) (i := (i : Int).toNat * 1) (cs := (s2.flatMap encI)) (v := .int .i64 x1) k_sc_3 rfl rfl (ST.rf hw' (i := 1) rfl) (gi_at0 encI_len hx1 rfl))) ?_
      refine ra_q 8 24 (v := .bool (x != x1)) rfl rfl rfl (by kernel_rfl) (by kernel_rfl) (by kernel_rfl) (ST.sel hS2 [] rfl rfl) (fun w' hw' => (Y_ne (k := .i64) (a := x) (b := x1) rfl rfl rfl)) ?_
      refine ra_done (by kernel_rfl) ?_
      refine cw_cond (b := (x != x1)) rfl (fun hb2 => ?_) (fun hb2 => ?_)
      · skip
        have hF4 := ct hb1 hb2
        refine cw_seq ?_
        refine cw_region ?_
        refine sq 4 rfl rfl (Y_assign (v := .bool false) rfl rfl) ?_
        refine rw_nil ?_
        refine cw_ret ?_
        obtain rfl := some_inj hF4
        obtain rfl := some_inj hL1
        obtain rfl := some_inj hF3
        exact ret1 Try.results115 (v1 := .bool false) (resAt_tmp rfl) ⟨rfl, (ST.subR (R' := []) (hS2.sel [] rfl rfl) (fun _ h => by cases h))⟩
      · skip
        have hF5 := cf' hb1 hb2
        refine cw_skip ?_
        refine cw_region ?_
        refine sq 25 rfl rfl (Y_add (k := .i64) (a := (i : Int)) (b := 1) rfl (hf.get 13 3 rfl) rfl) ?_
        refine sq 13 rfl rfl (Y_move (v := .int .i64 (IntKind.i64.wrap ((i : Int) + 1))) rfl rfl) ?_
        refine rw_nil ?_
        obtain rfl := some_inj hF5
        exact ⟨k_1, Nat.lt_succ_self _, i + 1, (FF.cons (hf.get 0 0 rfl) (FF.cons (hf.get 1 1 rfl) (FF.cons (hf.get 12 2 rfl) (FF.cons (congrArg (Value.int .i64) (wr_succ hlt1 hN)) FF.nil)))), (hS2.sel [] rfl rfl), (by omega), hL1⟩
    · skip
      obtain rfl : k_ = 0 := by have h := of_decide_eq_false hlt; omega
      refine cw_exit rfl ?_
      obtain rfl := some_inj hL
      refine cw_seq ?_
      refine cw_region ?_
      refine sq 4 rfl rfl (Y_assign (v := .bool true) rfl rfl) ?_
      refine rw_nil ?_
      refine cw_ret ?_
      obtain rfl := some_inj hF3
      exact ret1 Try.results115 (v1 := .bool true) (resAt_tmp rfl) ⟨rfl, (ST.subR (R' := []) (hS1.sel [] rfl rfl) (fun _ h => by cases h))⟩

theorem c_impl_equalPolys (p : TPhasePoly) (q : TPhasePoly) (B : Option Addr) (c n : Nat) (B1 : Option Addr) (c1 n1 : Nat) (B2 : Option Addr) (c2 n2 : Nat) (B3 : Option Addr) (c3 n3 : Nat) (w0 : World) (hn : p.Terms.length = n) (hn1 : p.Out.Rows.length = n1) (hn2 : q.Terms.length = n2) (hn3 : q.Out.Rows.length = n3) (hS : ST w0 [] w0 [] [⟨B, (p.Terms.flatMap enc_Term)⟩, ⟨B1, (p.Out.Rows.flatMap encI)⟩, ⟨B2, (q.Terms.flatMap enc_Term)⟩, ⟨B3, (q.Out.Rows.flatMap encI)⟩]) {r_ : Bool} (hF : F_impl_equalPolys p q = some r_) :
    CV Try.prog 72 #[.agg #[.int .i64 p.Qubits, .int .i64 p.Phase, .slice B n c, .slice B1 n1 c1], .agg #[.int .i64 q.Qubits, .int .i64 q.Phase, .slice B2 n2 c2, .slice B3 n3 c3]] w0 (fun v w' => v = .bool r_ ∧ ST w0 [] w' [] []) := by
  subst hn
  subst hn1
  subst hn2
  subst hn3
  unfold F_impl_equalPolys at hF
  refine cv_of_cw 33 Try.func72 rfl Try.ntmps72 rfl ?_
  refine cw_seq ?_
  refine cw_region ?_
  refine ss 2 rfl rfl (Ys_box (T := 50) (v := .agg #[.int .i64 p.Qubits, .int .i64 p.Phase, .slice B p.Terms.length c, .slice B1 p.Out.Rows.length c1]) (cs := [.int .i64 p.Qubits, .int .i64 p.Phase, .slice B p.Terms.length c, .slice B1 p.Out.Rows.length c1]) (m := 4) hS rfl rfl rfl rfl) ?_
  rintro _ w_ ⟨b, rfl, hS1⟩
  refine ss 3 rfl rfl (Ys_box (T := 50) (v := .agg #[.int .i64 q.Qubits, .int .i64 q.Phase, .slice B2 q.Terms.length c2, .slice B3 q.Out.Rows.length c3]) (cs := [.int .i64 q.Qubits, .int .i64 q.Phase, .slice B2 q.Terms.length c2, .slice B3 q.Out.Rows.length c3]) (m := 4) hS1 rfl rfl rfl rfl) ?_
  rintro _ w_1 ⟨b1, rfl, hS2⟩
  have hS2 : ST w0 [] _ [⟨some ⟨b, 0, none⟩, 50, [.int .i64 p.Qubits, .int .i64 p.Phase, .slice B p.Terms.length c, .slice B1 p.Out.Rows.length c1], 4⟩, ⟨some ⟨b1, 0, none⟩, 50, [.int .i64 q.Qubits, .int .i64 q.Phase, .slice B2 q.Terms.length c2, .slice B3 q.Out.Rows.length c3], 4⟩] [⟨B, (p.Terms.flatMap enc_Term)⟩, ⟨B1, (p.Out.Rows.flatMap encI)⟩, ⟨B2, (q.Terms.flatMap enc_Term)⟩, ⟨B3, (q.Out.Rows.flatMap encI)⟩] := hS2
  refine sq 4 rfl rfl (Y_assign (v := .bool false) rfl rfl) ?_
  refine rw_nil ?_
  refine cw_seq ?_
  refine cw_region ?_
  refine sq 5 rfl rfl (Y_fieldAddr (B := some ⟨b, 0, none⟩) (i := 0) (s := 0) k_fd_50_0_0_3 k_sz_3_1 rfl rfl) ?_
  refine sq 6 rfl rfl (Y_load1 (B := some ⟨b, 0, none⟩) (i := 0) (cs := [.int .i64 p.Qubits, .int .i64 p.Phase, .slice B p.Terms.length c, .slice B1 p.Out.Rows.length c1]) (v := .int .i64 p.Qubits) k_sc_3 rfl rfl (hS2.cf (i := 0) rfl) rfl) ?_
  refine sq 7 rfl rfl (Y_fieldAddr (B := some ⟨b1, 0, none⟩) (i := 0) (s := 0) k_fd_50_0_0_3 k_sz_3_1 rfl rfl) ?_
  refine sq 8 rfl rfl (Y_load1 (B := some ⟨b1, 0, none⟩) (i := 0) (cs := [.int .i64 q.Qubits, .int .i64 q.Phase, .slice B2 q.Terms.length c2, .slice B3 q.Out.Rows.length c3]) (v := .int .i64 q.Qubits) k_sc_3 rfl rfl (hS2.cf (i := 1) rfl) rfl) ?_
  refine sq 9 rfl rfl (Y_eq (k := .i64) (a := p.Qubits) (b := q.Qubits) rfl rfl rfl) ?_
  refine sq 10 rfl rfl (Y_move (v := .bool (p.Qubits == q.Qubits)) rfl rfl) ?_
  refine sgq 11 (B := (p.Qubits == q.Qubits)) (v := pt (some ⟨b, 0, none⟩) 1) rfl rfl (wt_t (gd_of (t := 10) (by kernel_rfl) rfl)) (fun hg => (Y_fieldAddr (B := some ⟨b, 0, none⟩) (i := 0) (s := 0) k_fd_50_1_1_3 k_sz_3_1 rfl rfl)) ?_
  refine sgq 12 (B := (p.Qubits == q.Qubits)) (v := .int .i64 p.Phase) rfl rfl (wt_t (gd_of (t := 10) (by kernel_rfl) rfl)) (fun hg1 => (Y_load1 (B := some ⟨b, 0, none⟩) (i := 1) (cs := [.int .i64 p.Qubits, .int .i64 p.Phase, .slice B p.Terms.length c, .slice B1 p.Out.Rows.length c1]) (v := .int .i64 p.Phase) k_sc_3 rfl (gv_of (B := (p.Qubits == q.Qubits)) (v := pt (some ⟨b, 0, none⟩) 1) hg1) (hS2.cf (i := 0) rfl) rfl)) ?_
  refine sgq 13 (B := (p.Qubits == q.Qubits)) (v := pt (some ⟨b1, 0, none⟩) 1) rfl rfl (wt_t (gd_of (t := 10) (by kernel_rfl) rfl)) (fun hg2 => (Y_fieldAddr (B := some ⟨b1, 0, none⟩) (i := 0) (s := 0) k_fd_50_1_1_3 k_sz_3_1 rfl rfl)) ?_
  refine sgq 14 (B := (p.Qubits == q.Qubits)) (v := .int .i64 q.Phase) rfl rfl (wt_t (gd_of (t := 10) (by kernel_rfl) rfl)) (fun hg3 => (Y_load1 (B := some ⟨b1, 0, none⟩) (i := 1) (cs := [.int .i64 q.Qubits, .int .i64 q.Phase, .slice B2 q.Terms.length c2, .slice B3 q.Out.Rows.length c3]) (v := .int .i64 q.Phase) k_sc_3 rfl (gv_of (B := (p.Qubits == q.Qubits)) (v := pt (some ⟨b1, 0, none⟩) 1) hg3) (hS2.cf (i := 1) rfl) rfl)) ?_
  refine sgq 15 (B := (p.Qubits == q.Qubits)) (v := .bool (p.Phase == q.Phase)) rfl rfl (wt_t (gd_of (t := 10) (by kernel_rfl) rfl)) (fun hg4 => (Y_eq (k := .i64) (a := p.Phase) (b := q.Phase) rfl (gv_of (B := (p.Qubits == q.Qubits)) (v := .int .i64 p.Phase) hg4) (gv_of (B := (p.Qubits == q.Qubits)) (v := .int .i64 q.Phase) hg4))) ?_
  refine sq 16 rfl rfl (Y_and (b := (p.Qubits == q.Qubits)) (z := (p.Phase == q.Phase)) rfl rfl rfl rfl) ?_
  refine sq 17 rfl rfl (Y_move (v := .bool ((p.Qubits == q.Qubits) && (p.Phase == q.Phase))) rfl rfl) ?_
  refine sgq 18 (B := ((p.Qubits == q.Qubits) && (p.Phase == q.Phase))) (v := pt (some ⟨b, 0, none⟩) 2) rfl rfl (wt_t (gd_of (t := 17) (by kernel_rfl) rfl)) (fun hg5 => (Y_fieldAddr (B := some ⟨b, 0, none⟩) (i := 0) (s := 0) k_fd_50_2_2_47 k_sz_47_1 rfl rfl)) ?_
  refine sgq 19 (B := ((p.Qubits == q.Qubits) && (p.Phase == q.Phase))) (v := .slice B p.Terms.length c) rfl rfl (wt_t (gd_of (t := 17) (by kernel_rfl) rfl)) (fun hg6 => (Y_load1 (B := some ⟨b, 0, none⟩) (i := 2) (cs := [.int .i64 p.Qubits, .int .i64 p.Phase, .slice B p.Terms.length c, .slice B1 p.Out.Rows.length c1]) (v := .slice B p.Terms.length c) k_sc_47 rfl (gv_of (B := ((p.Qubits == q.Qubits) && (p.Phase == q.Phase))) (v := pt (some ⟨b, 0, none⟩) 2) hg6) (hS2.cf (i := 0) rfl) rfl)) ?_
  refine sgq 20 (B := ((p.Qubits == q.Qubits) && (p.Phase == q.Phase))) (v := pt (some ⟨b1, 0, none⟩) 2) rfl rfl (wt_t (gd_of (t := 17) (by kernel_rfl) rfl)) (fun hg7 => (Y_fieldAddr (B := some ⟨b1, 0, none⟩) (i := 0) (s := 0) k_fd_50_2_2_47 k_sz_47_1 rfl rfl)) ?_
  refine sgq 21 (B := ((p.Qubits == q.Qubits) && (p.Phase == q.Phase))) (v := .slice B2 q.Terms.length c2) rfl rfl (wt_t (gd_of (t := 17) (by kernel_rfl) rfl)) (fun hg8 => (Y_load1 (B := some ⟨b1, 0, none⟩) (i := 2) (cs := [.int .i64 q.Qubits, .int .i64 q.Phase, .slice B2 q.Terms.length c2, .slice B3 q.Out.Rows.length c3]) (v := .slice B2 q.Terms.length c2) k_sc_47 rfl (gv_of (B := ((p.Qubits == q.Qubits) && (p.Phase == q.Phase))) (v := pt (some ⟨b1, 0, none⟩) 2) hg8) (hS2.cf (i := 1) rfl) rfl)) ?_
  obtain ⟨r_1, hc, hF⟩ := bind_inv hF
  refine sgc 22 (B := ((p.Qubits == q.Qubits) && (p.Phase == q.Phase))) (v := .bool r_1) (F := hS2.fn) rfl rfl (wt_t (gd_of (t := 17) (by kernel_rfl) rfl)) hS2 (fun hg9 => (Yc_func (g := 114) (vs := [.slice B p.Terms.length c, .slice B2 q.Terms.length c2]) k_call_114 rfl (mc (gv_of (B := ((p.Qubits == q.Qubits) && (p.Phase == q.Phase))) (v := .slice B p.Terms.length c) hg9) (mc (gv_of (B := ((p.Qubits == q.Qubits) && (p.Phase == q.Phase))) (v := .slice B2 q.Terms.length c2) hg9) mn)) (CV.mono (c_slices_Equal_impl_Term_impl_Term p.Terms q.Terms B c p.Terms.length B2 c2 q.Terms.length _ rfl rfl (hS2.inn0 [(true, 0), (true, 2)] rfl) (gb_inv hc hg9)) (by rintro _ _ ⟨rfl, h⟩; exact ⟨rfl, hS2.out00 h⟩)))) ?_
  rintro w_2 hS3
  have hS3 : ST _ _ w_2 _ _ := hS3
  refine sq 23 rfl rfl (Y_and (b := ((p.Qubits == q.Qubits) && (p.Phase == q.Phase))) (z := r_1) rfl rfl rfl rfl) ?_
  refine sq 24 rfl rfl (Y_move (v := .bool (((p.Qubits == q.Qubits) && (p.Phase == q.Phase)) && r_1)) rfl rfl) ?_
  refine sgq 25 (B := (((p.Qubits == q.Qubits) && (p.Phase == q.Phase)) && r_1)) (v := pt (some ⟨b, 0, none⟩) 3) rfl rfl (wt_t (gd_of (t := 24) (by kernel_rfl) rfl)) (fun hg10 => (Y_fieldAddr (B := some ⟨b, 0, none⟩) (i := 0) (s := 0) k_fd_50_3_3_48 k_sz_48_1 rfl rfl)) ?_
  refine sgq 26 (B := (((p.Qubits == q.Qubits) && (p.Phase == q.Phase)) && r_1)) (v := pt (some ⟨b, 0, none⟩) 3) rfl rfl (wt_t (gd_of (t := 24) (by kernel_rfl) rfl)) (fun hg11 => (Y_fieldAddr (B := some ⟨b, 0, none⟩) (i := 3) (s := 0) k_fd_48_0_0_41 k_sz_41_1 rfl (gv_of (B := (((p.Qubits == q.Qubits) && (p.Phase == q.Phase)) && r_1)) (v := pt (some ⟨b, 0, none⟩) 3) hg11))) ?_
  refine sgq 27 (B := (((p.Qubits == q.Qubits) && (p.Phase == q.Phase)) && r_1)) (v := .slice B1 p.Out.Rows.length c1) rfl rfl (wt_t (gd_of (t := 24) (by kernel_rfl) rfl)) (fun hg12 => (Y_load1 (B := some ⟨b, 0, none⟩) (i := 3) (cs := [.int .i64 p.Qubits, .int .i64 p.Phase, .slice B p.Terms.length c, .slice B1 p.Out.Rows.length c1]) (v := .slice B1 p.Out.Rows.length c1) k_sc_41 rfl (gv_of (B := (((p.Qubits == q.Qubits) && (p.Phase == q.Phase)) && r_1)) (v := pt (some ⟨b, 0, none⟩) 3) hg12) (hS3.cf (i := 0) rfl) rfl)) ?_
  refine sgq 28 (B := (((p.Qubits == q.Qubits) && (p.Phase == q.Phase)) && r_1)) (v := pt (some ⟨b1, 0, none⟩) 3) rfl rfl (wt_t (gd_of (t := 24) (by kernel_rfl) rfl)) (fun hg13 => (Y_fieldAddr (B := some ⟨b1, 0, none⟩) (i := 0) (s := 0) k_fd_50_3_3_48 k_sz_48_1 rfl rfl)) ?_
  refine sgq 29 (B := (((p.Qubits == q.Qubits) && (p.Phase == q.Phase)) && r_1)) (v := pt (some ⟨b1, 0, none⟩) 3) rfl rfl (wt_t (gd_of (t := 24) (by kernel_rfl) rfl)) (fun hg14 => (Y_fieldAddr (B := some ⟨b1, 0, none⟩) (i := 3) (s := 0) k_fd_48_0_0_41 k_sz_41_1 rfl (gv_of (B := (((p.Qubits == q.Qubits) && (p.Phase == q.Phase)) && r_1)) (v := pt (some ⟨b1, 0, none⟩) 3) hg14))) ?_
  refine sgq 30 (B := (((p.Qubits == q.Qubits) && (p.Phase == q.Phase)) && r_1)) (v := .slice B3 q.Out.Rows.length c3) rfl rfl (wt_t (gd_of (t := 24) (by kernel_rfl) rfl)) (fun hg15 => (Y_load1 (B := some ⟨b1, 0, none⟩) (i := 3) (cs := [.int .i64 q.Qubits, .int .i64 q.Phase, .slice B2 q.Terms.length c2, .slice B3 q.Out.Rows.length c3]) (v := .slice B3 q.Out.Rows.length c3) k_sc_41 rfl (gv_of (B := (((p.Qubits == q.Qubits) && (p.Phase == q.Phase)) && r_1)) (v := pt (some ⟨b1, 0, none⟩) 3) hg15) (hS3.cf (i := 1) rfl) rfl)) ?_
  obtain ⟨r_2, hc1, hF⟩ := bind_inv hF
  refine sgc 31 (B := (((p.Qubits == q.Qubits) && (p.Phase == q.Phase)) && r_1)) (v := .bool r_2) (F := hS3.fn) rfl rfl (wt_t (gd_of (t := 24) (by kernel_rfl) rfl)) hS3 (fun hg16 => (Yc_func (g := 115) (vs := [.slice B1 p.Out.Rows.length c1, .slice B3 q.Out.Rows.length c3]) k_call_115 rfl (mc (gv_of (B := (((p.Qubits == q.Qubits) && (p.Phase == q.Phase)) && r_1)) (v := .slice B1 p.Out.Rows.length c1) hg16) (mc (gv_of (B := (((p.Qubits == q.Qubits) && (p.Phase == q.Phase)) && r_1)) (v := .slice B3 q.Out.Rows.length c3) hg16) mn)) (CV.mono (c_slices_Equal_int_int p.Out.Rows q.Out.Rows B1 c1 p.Out.Rows.length B3 c3 q.Out.Rows.length _ rfl rfl (hS3.inn0 [(true, 1), (true, 3)] rfl) (gb_inv hc1 hg16)) (by rintro _ _ ⟨rfl, h⟩; exact ⟨rfl, hS3.out00 h⟩)))) ?_
  rintro w_3 hS4
  have hS4 : ST _ _ w_3 _ _ := hS4
  refine sq 32 rfl rfl (Y_and (b := (((p.Qubits == q.Qubits) && (p.Phase == q.Phase)) && r_1)) (z := r_2) rfl rfl rfl rfl) ?_
  refine sq 4 rfl rfl (Y_assign (v := .bool ((((p.Qubits == q.Qubits) && (p.Phase == q.Phase)) && r_1) && r_2)) rfl rfl) ?_
  refine rw_nil ?_
  refine cw_ret ?_
  obtain rfl := some_inj hF
  exact ret1 Try.results72 (v1 := .bool ((((p.Qubits == q.Qubits) && (p.Phase == q.Phase)) && r_1) && r_2)) (resAt_tmp rfl) ⟨rfl, (ST.subR (R' := []) (hS4.sel [] rfl rfl) (fun _ h => by cases h))⟩

theorem c_impl_oddTerms (terms : List TTerm) (B : Option Addr) (c n : Nat) (w0 : World) (hn : terms.length = n) (hS : ST w0 [] w0 [] [⟨B, (terms.flatMap enc_Term)⟩]) {r_ : Int} (hF : F_impl_oddTerms terms = some r_) :
    CV Try.prog 73 #[.slice B n c] w0 (fun v w' => v = .int .i64 r_ ∧ ST w0 [] w' [] []) := by
  subst hn
  unfold F_impl_oddTerms at hF
  refine cv_of_cw 19 Try.func73 rfl Try.ntmps73 rfl ?_
  refine cw_seq ?_
  refine cw_region ?_
  refine sq 2 rfl rfl (Y_assign (v := .int .i64 0) rfl rfl) ?_
  refine rw_nil ?_
  refine cw_seq ?_
  refine cw_region ?_
  refine sq 3 rfl rfl (Y_assign (v := .int .i64 0) rfl rfl) ?_
  refine rw_nil ?_
  refine cw_seq ?_
  refine cw_seq ?_
  refine cw_region ?_
  refine sq 6 rfl rfl (Y_move (v := .slice B terms.length c) rfl rfl) ?_
  refine sq 7 rfl rfl (Y_len (B := B) (m := terms.length) (c := c) k_sl_47_95 rfl rfl) ?_
  refine sq 8 rfl rfl (Y_move (v := .int .i64 0) rfl rfl) ?_
  refine rw_nil ?_
  obtain ⟨hN, hF⟩ := chk_inv hF
  obtain ⟨z, hz, hF1⟩ := bind_inv hF
  refine cw_block ?_
  refine cw_loop (fun k f w => ∃ (i : Nat) (count : Int), FF f [(3, .int .i64 count), (6, .slice B terms.length c), (7, .int .i64 (terms.length : Int)), (8, .int .i64 (i : Int))] ∧ ST w0 [] w [] [⟨B, (terms.flatMap enc_Term)⟩] ∧ i + k = terms.length ∧ forN (F_impl_oddTerms_l1 terms) k i count = some z) terms.length ⟨0, 0, (FF.cons rfl (FF.cons rfl (FF.cons rfl (FF.cons rfl FF.nil)))), (hS.sel [] rfl rfl), Nat.zero_add _, hz⟩ ?_
  rintro k_ f w ⟨i, count, hf, hS1, hik, hL⟩
  refine cw_seq ?_
  refine cw_region ?_
  refine sq 9 rfl rfl (Y_lt (k := .i64) (a := (i : Int)) (b := (terms.length : Int)) rfl (hf.get 8 3 rfl) (hf.get 7 2 rfl)) ?_
  refine rw_nil ?_
  refine cw_seq ?_
  refine cw_cond (b := (decide ((i : Int) < (terms.length : Int)))) rfl (fun hlt => ?_) (fun hlt => ?_)
  · skip
    have hlt1 : i < terms.length := by have h := of_decide_eq_true hlt; omega
    obtain ⟨k_1, rfl⟩ : ∃ k2, k_ = k2 + 1 := ⟨k_ - 1, by omega⟩
    obtain ⟨y, hb, hL1⟩ := forN_go hL
    unfold F_impl_oddTerms_l1 at hb
    refine cw_skip ?_
    refine cw_seq ?_
    refine cw_block ?_
    refine cw_seq ?_
    refine cw_region ?_
    obtain ⟨x, hx, hb⟩ := bind_inv hb
    refine sq 10 rfl rfl (Y_index (B := B) (m := terms.length) (c := c) (k := .i64) (i := (i : Int)) k_sl_47_95 k_sz_95_2 rfl (hf.get 6 1 rfl) (hf.get 8 3 rfl) (gi_isSome enc_Term_len rfl (hS1.rf (i := 0) rfl) hx) (getI_nn hx) (getI_ltI hx rfl)) ?_
    refine sq 11 rfl rfl (Y_loadA (B := B) (i := (i : Int).toNat * 2) (cs := (terms.flatMap enc_Term)) (vs := [.int .i64 x.Mask, .int .i64 x.Coef]) k_ag_95 k_sz_95_2 rfl rfl (hS1.rf (i := 0) rfl) (enc_Term_len x) (gi_seg enc_Term_len hx)) ?_
    refine ss 5 rfl rfl (Ys_alloc (T := 95) (cs := [.int .i64 0, .int .i64 0]) (m := 2) hS1 k_zero_95 rfl rfl rfl) ?_
    rintro _ w_ ⟨b, rfl, hS2⟩
    refine ss0 rfl rfl (Ys_store (i := 0) (s := 2) (B := some ⟨b, 0, none⟩) (T' := 95) (v := .agg #[.int .i64 x.Mask, .int .i64 x.Coef]) (vs := [.int .i64 x.Mask, .int .i64 x.Coef]) (k := 0) (cs' := [.int .i64 x.Mask, .int .i64 x.Coef]) hS2 k_sz_95_2 rfl rfl rfl rfl rfl rfl rfl (Nat.le_of_ble_eq_true rfl) rfl rfl) ?_
    rintro _ w_1 ⟨rfl, hS3⟩
    refine rw_nil ?_
    refine cw_region ?_
    refine sq 12 rfl rfl (Y_move (v := .int .i64 count) rfl (hf.get 3 0 rfl)) ?_
    refine sq 13 rfl rfl (Y_fieldAddr (B := some ⟨b, 0, none⟩) (i := 0) (s := 0) k_fd_95_1_1_3 k_sz_3_1 rfl rfl) ?_
    refine sq 14 rfl rfl (Y_load1 (B := some ⟨b, 0, none⟩) (i := 1) (cs := [.int .i64 x.Mask, .int .i64 x.Coef]) (v := .int .i64 x.Coef) k_sc_3 rfl rfl (hS3.cf (i := 0) rfl) rfl) ?_
    refine sq 15 rfl rfl (Y_rem (k := .i64) (a := x.Coef) (b := 2) rfl rfl rfl (by decide)) ?_
    refine sq 16 rfl rfl (Y_add (k := .i64) (a := count) (b := (Int.tmod x.Coef 2)) rfl rfl rfl) ?_
    refine sq 3 rfl rfl (Y_assign (v := .int .i64 (IntKind.i64.wrap (count + (Int.tmod x.Coef 2)))) rfl rfl) ?_
    refine rw_nil ?_
    refine cw_region ?_
    refine sq 17 rfl rfl (Y_add (k := .i64) (a := (i : Int)) (b := 1) rfl (hf.get 8 3 rfl) rfl) ?_
    refine sq 8 rfl rfl (Y_move (v := .int .i64 (IntKind.i64.wrap ((i : Int) + 1))) rfl rfl) ?_
    refine rw_nil ?_
    obtain rfl := some_inj hb
    exact ⟨k_1, Nat.lt_succ_self _, i + 1, (IntKind.i64.wrap (count + (Int.tmod x.Coef 2))), (FF.cons rfl (FF.cons (hf.get 6 1 rfl) (FF.cons (hf.get 7 2 rfl) (FF.cons (congrArg (Value.int .i64) (wr_succ hlt1 hN)) FF.nil)))), (hS3.sel [] rfl rfl), (by omega), hL1⟩
  · skip
    obtain rfl : k_ = 0 := by have h := of_decide_eq_false hlt; omega
    refine cw_exit rfl ?_
    obtain rfl := some_inj hL
    refine cw_seq ?_
    refine cw_region ?_
    refine sq 18 rfl rfl (Y_move (v := .int .i64 count) rfl (hf.get 3 0 rfl)) ?_
    refine sq 2 rfl rfl (Y_assign (v := .int .i64 count) rfl rfl) ?_
    refine rw_nil ?_
    refine cw_ret ?_
    obtain rfl := some_inj hF1
    exact ret1 Try.results73 (v1 := .int .i64 count) (resAt_tmp rfl) ⟨rfl, (ST.subR (R' := []) (hS1.sel [] rfl rfl) (fun _ h => by cases h))⟩

theorem c_impl_CheckReduction (p : TPhasePoly) (word : Int) (q : TPhasePoly) (B : Option Addr) (c n : Nat) (B1 : Option Addr) (c1 n1 : Nat) (B2 : Option Addr) (c2 n2 : Nat) (B3 : Option Addr) (c3 n3 : Nat) (w0 : World) (hn : p.Terms.length = n) (hn1 : p.Out.Rows.length = n1) (hn2 : q.Terms.length = n2) (hn3 : q.Out.Rows.length = n3) (hS : ST w0 [] w0 [] [⟨B, (p.Terms.flatMap enc_Term)⟩, ⟨B1, (p.Out.Rows.flatMap encI)⟩, ⟨B2, (q.Terms.flatMap enc_Term)⟩, ⟨B3, (q.Out.Rows.flatMap encI)⟩]) {r_ : Int} {r_1 : Bool} (hF : F_impl_CheckReduction p word q = some (r_, r_1)) :
    CV Try.prog 26 #[.agg #[.int .i64 p.Qubits, .int .i64 p.Phase, .slice B n c, .slice B1 n1 c1], .int .i64 word, .agg #[.int .i64 q.Qubits, .int .i64 q.Phase, .slice B2 n2 c2, .slice B3 n3 c3]] w0 (fun v w' => v = .tuple #[.int .i64 r_, .bool r_1] ∧ ST w0 [] w' [] []) := by
  subst hn
  subst hn1
  subst hn2
  subst hn3
  unfold F_impl_CheckReduction at hF
  refine cv_of_cw 45 Try.func26 rfl Try.ntmps26 rfl ?_
  refine cw_seq ?_
  refine cw_region ?_
  refine ss 3 rfl rfl (Ys_box (T := 50) (v := .agg #[.int .i64 p.Qubits, .int .i64 p.Phase, .slice B p.Terms.length c, .slice B1 p.Out.Rows.length c1]) (cs := [.int .i64 p.Qubits, .int .i64 p.Phase, .slice B p.Terms.length c, .slice B1 p.Out.Rows.length c1]) (m := 4) hS rfl rfl rfl rfl) ?_
  rintro _ w_ ⟨b, rfl, hS1⟩
  refine ss 5 rfl rfl (Ys_box (T := 50) (v := .agg #[.int .i64 q.Qubits, .int .i64 q.Phase, .slice B2 q.Terms.length c2, .slice B3 q.Out.Rows.length c3]) (cs := [.int .i64 q.Qubits, .int .i64 q.Phase, .slice B2 q.Terms.length c2, .slice B3 q.Out.Rows.length c3]) (m := 4) hS1 rfl rfl rfl rfl) ?_
  rintro _ w_1 ⟨b1, rfl, hS2⟩
  have hS2 : ST w0 [] _ [⟨some ⟨b, 0, none⟩, 50, [.int .i64 p.Qubits, .int .i64 p.Phase, .slice B p.Terms.length c, .slice B1 p.Out.Rows.length c1], 4⟩, ⟨some ⟨b1, 0, none⟩, 50, [.int .i64 q.Qubits, .int .i64 q.Phase, .slice B2 q.Terms.length c2, .slice B3 q.Out.Rows.length c3], 4⟩] [⟨B, (p.Terms.flatMap enc_Term)⟩, ⟨B1, (p.Out.Rows.flatMap encI)⟩, ⟨B2, (q.Terms.flatMap enc_Term)⟩, ⟨B3, (q.Out.Rows.flatMap encI)⟩] := hS2
  refine sq 6 rfl rfl (Y_assign (v := .int .i64 0) rfl rfl) ?_
  refine sq 7 rfl rfl (Y_assign (v := .bool false) rfl rfl) ?_
  refine rw_nil ?_
  refine cw_seq ?_
  refine cw_seq ?_
  refine cw_region ?_
  refine sq 12 rfl rfl (Y_loadA (B := some ⟨b, 0, none⟩) (i := 0) (cs := [.int .i64 p.Qubits, .int .i64 p.Phase, .slice B p.Terms.length c, .slice B1 p.Out.Rows.length c1]) (vs := [.int .i64 p.Qubits, .int .i64 p.Phase, .slice B p.Terms.length c, .slice B1 p.Out.Rows.length c1]) k_ag_50 k_sz_50_4 rfl rfl (hS2.cf (i := 0) rfl) rfl rfl) ?_
  obtain ⟨r_2, hc, hF⟩ := bind_inv hF
  refine sc 13 rfl rfl (Yc_func (g := 54) (vs := [.agg #[.int .i64 p.Qubits, .int .i64 p.Phase, .slice B p.Terms.length c, .slice B1 p.Out.Rows.length c1]]) k_call_54 rfl (mc rfl mn) (c_impl_IsValidPhasePoly p B c p.Terms.length B1 c1 p.Out.Rows.length _ rfl rfl (hS2.inn0 [(true, 0), (true, 1)] rfl) hc)) ?_
  rintro _ w_2 ⟨rfl, hd⟩
  have hS3 := hS2.out00 hd
  have hS3 : ST w0 [] _ [⟨some ⟨b, 0, none⟩, 50, [.int .i64 p.Qubits, .int .i64 p.Phase, .slice B p.Terms.length c, .slice B1 p.Out.Rows.length c1], 4⟩, ⟨some ⟨b1, 0, none⟩, 50, [.int .i64 q.Qubits, .int .i64 q.Phase, .slice B2 q.Terms.length c2, .slice B3 q.Out.Rows.length c3], 4⟩] [⟨B, (p.Terms.flatMap enc_Term)⟩, ⟨B1, (p.Out.Rows.flatMap encI)⟩, ⟨B2, (q.Terms.flatMap enc_Term)⟩, ⟨B3, (q.Out.Rows.flatMap encI)⟩] := hS3
  refine sq 14 rfl rfl (Y_not (p := r_2) rfl rfl) ?_
  refine sq 15 rfl rfl (Y_move (v := .bool (!r_2)) rfl rfl) ?_
  refine sgq 16 (B := (!(!r_2))) (v := .agg #[.int .i64 q.Qubits, .int .i64 q.Phase, .slice B2 q.Terms.length c2, .slice B3 q.Out.Rows.length c3]) rfl rfl (wt_f (gd_of (t := 15) (by kernel_rfl) rfl)) (fun hg => (Y_loadA (B := some ⟨b1, 0, none⟩) (i := 0) (cs := [.int .i64 q.Qubits, .int .i64 q.Phase, .slice B2 q.Terms.length c2, .slice B3 q.Out.Rows.length c3]) (vs := [.int .i64 q.Qubits, .int .i64 q.Phase, .slice B2 q.Terms.length c2, .slice B3 q.Out.Rows.length c3]) k_ag_50 k_sz_50_4 rfl rfl (hS3.cf (i := 1) rfl) rfl rfl)) ?_
  obtain ⟨r_3, hc1, hF⟩ := bind_inv hF
  refine sgc 17 (B := (!(!r_2))) (v := .bool r_3) (F := hS3.fn) rfl rfl (wt_f (gd_of (t := 15) (by kernel_rfl) rfl)) hS3 (fun hg1 => (Yc_func (g := 54) (vs := [.agg #[.int .i64 q.Qubits, .int .i64 q.Phase, .slice B2 q.Terms.length c2, .slice B3 q.Out.Rows.length c3]]) k_call_54 rfl (mc (gv_of (B := (!(!r_2))) (v := .agg #[.int .i64 q.Qubits, .int .i64 q.Phase, .slice B2 q.Terms.length c2, .slice B3 q.Out.Rows.length c3]) hg1) mn) (CV.mono (c_impl_IsValidPhasePoly q B2 c2 q.Terms.length B3 c3 q.Out.Rows.length _ rfl rfl (hS3.inn0 [(true, 2), (true, 3)] rfl) (gb_inv hc1 hg1)) (by rintro _ _ ⟨rfl, h⟩; exact ⟨rfl, hS3.out00 h⟩)))) ?_
  rintro w_3 hS4
  have hS4 : ST _ _ w_3 _ _ := hS4
  refine sgq 18 (B := (!(!r_2))) (v := .bool (!r_3)) rfl rfl (wt_f (gd_of (t := 15) (by kernel_rfl) rfl)) (fun hg2 => (Y_not (p := r_3) rfl (gv_of (B := (!(!r_2))) (v := .bool r_3) hg2))) ?_
  refine sq 19 rfl rfl (Y_or (b := (!r_2)) (z := (!r_3)) rfl rfl rfl rfl) ?_
  refine rw_nil ?_
  refine cw_cond (b := ((!r_2) || (!r_3))) rfl (fun hb => ?_) (fun hb => ?_)
  · skip
    have hF1 := ct hF hb
    refine cw_seq ?_
    refine cw_region ?_
    refine sq 6 rfl rfl (Y_assign (v := .int .i64 0) rfl rfl) ?_
    refine sq 7 rfl rfl (Y_assign (v := .bool false) rfl rfl) ?_
    refine rw_nil ?_
    refine cw_ret ?_
    obtain ⟨rfl, rfl⟩ := pr2 (some_inj hF1)
    exact ret2 Try.results26 (v1 := .int .i64 0) (resAt_tmp rfl) (v2 := .bool false) (resAt_tmp rfl) ⟨rfl, (ST.subR (R' := []) (hS4.sel [] rfl rfl) (fun _ h => by cases h))⟩
  · skip
    have hF2 := cf' hF hb
    refine cw_skip ?_
    refine cw_seq ?_
    refine cw_region ?_
    refine sq 21 rfl rfl (Y_loadA (B := some ⟨b, 0, none⟩) (i := 0) (cs := [.int .i64 p.Qubits, .int .i64 p.Phase, .slice B p.Terms.length c, .slice B1 p.Out.Rows.length c1]) (vs := [.int .i64 p.Qubits, .int .i64 p.Phase, .slice B p.Terms.length c, .slice B1 p.Out.Rows.length c1]) k_ag_50 k_sz_50_4 rfl rfl (hS4.cf (i := 0) rfl) rfl rfl) ?_
    refine sq 22 rfl rfl (Y_move (v := .int .i64 word) rfl rfl) ?_
    obtain ⟨⟨r_4, r_5⟩, hc2, hF2⟩ := bind_inv hF2
    refine sc 23 rfl rfl (Yc_func (g := 19) (vs := [.agg #[.int .i64 p.Qubits, .int .i64 p.Phase, .slice B p.Terms.length c, .slice B1 p.Out.Rows.length c1], .int .i64 word]) k_call_19 rfl (mc rfl (mc rfl mn)) (c_impl_ShiftBy p word B c p.Terms.length B1 c1 p.Out.Rows.length _ rfl rfl (hS4.inn0 [(true, 0), (true, 1)] rfl) hc2)) ?_
    rintro _ w_4 ⟨B4, c4, B5, c5, rfl, hd1⟩
    have hS5 := hS4.out0 hd1
    have hS5 : ST w0 [] _ [⟨some ⟨b, 0, none⟩, 50, [.int .i64 p.Qubits, .int .i64 p.Phase, .slice B p.Terms.length c, .slice B1 p.Out.Rows.length c1], 4⟩, ⟨some ⟨b1, 0, none⟩, 50, [.int .i64 q.Qubits, .int .i64 q.Phase, .slice B2 q.Terms.length c2, .slice B3 q.Out.Rows.length c3], 4⟩, ⟨B4, 95, (r_4.Terms.flatMap enc_Term), c4 * 2⟩, ⟨B5, 3, (r_4.Out.Rows.flatMap encI), c5 * 1⟩] [⟨B, (p.Terms.flatMap enc_Term)⟩, ⟨B1, (p.Out.Rows.flatMap encI)⟩, ⟨B2, (q.Terms.flatMap enc_Term)⟩, ⟨B3, (q.Out.Rows.flatMap encI)⟩] := hS5
    refine sq 20 rfl rfl (Y_move (v := .tuple #[.agg #[.int .i64 r_4.Qubits, .int .i64 r_4.Phase, .slice B4 r_4.Terms.length c4, .slice B5 r_4.Out.Rows.length c5], .bool r_5]) rfl rfl) ?_
    refine sq 24 rfl rfl (Y_extract (v := .agg #[.int .i64 r_4.Qubits, .int .i64 r_4.Phase, .slice B4 r_4.Terms.length c4, .slice B5 r_4.Out.Rows.length c5]) rfl rfl rfl) ?_
    refine sq 25 rfl rfl (Y_extract (v := .bool r_5) rfl rfl rfl) ?_
    refine ss 8 rfl rfl (Ys_alloc (T := 50) (cs := [.int .i64 0, .int .i64 0, .slice none 0 0, .slice none 0 0]) (m := 4) hS5 k_zero_50 rfl rfl rfl) ?_
    rintro _ w_5 ⟨b2, rfl, hS6⟩
    have hS6 : ST w0 [] _ [⟨some ⟨b, 0, none⟩, 50, [.int .i64 p.Qubits, .int .i64 p.Phase, .slice B p.Terms.length c, .slice B1 p.Out.Rows.length c1], 4⟩, ⟨some ⟨b1, 0, none⟩, 50, [.int .i64 q.Qubits, .int .i64 q.Phase, .slice B2 q.Terms.length c2, .slice B3 q.Out.Rows.length c3], 4⟩, ⟨B4, 95, (r_4.Terms.flatMap enc_Term), c4 * 2⟩, ⟨B5, 3, (r_4.Out.Rows.flatMap encI), c5 * 1⟩, ⟨some ⟨b2, 0, none⟩, 50, [.int .i64 0, .int .i64 0, .slice none 0 0, .slice none 0 0], 4⟩] [⟨B, (p.Terms.flatMap enc_Term)⟩, ⟨B1, (p.Out.Rows.flatMap encI)⟩, ⟨B2, (q.Terms.flatMap enc_Term)⟩, ⟨B3, (q.Out.Rows.flatMap encI)⟩] := hS6
    refine ss0 rfl rfl (Ys_store (i := 4) (s := 4) (B := some ⟨b2, 0, none⟩) (T' := 50) (v := .agg #[.int .i64 r_4.Qubits, .int .i64 r_4.Phase, .slice B4 r_4.Terms.length c4, .slice B5 r_4.Out.Rows.length c5]) (vs := [.int .i64 r_4.Qubits, .int .i64 r_4.Phase, .slice B4 r_4.Terms.length c4, .slice B5 r_4.Out.Rows.length c5]) (k := 0) (cs' := [.int .i64 r_4.Qubits, .int .i64 r_4.Phase, .slice B4 r_4.Terms.length c4, .slice B5 r_4.Out.Rows.length c5]) hS6 k_sz_50_4 rfl rfl rfl rfl rfl rfl rfl (Nat.le_of_ble_eq_true rfl) rfl rfl) ?_
    rintro _ w_6 ⟨rfl, hS7⟩
    have hS7 : ST w0 [] _ [⟨some ⟨b, 0, none⟩, 50, [.int .i64 p.Qubits, .int .i64 p.Phase, .slice B p.Terms.length c, .slice B1 p.Out.Rows.length c1], 4⟩, ⟨some ⟨b1, 0, none⟩, 50, [.int .i64 q.Qubits, .int .i64 q.Phase, .slice B2 q.Terms.length c2, .slice B3 q.Out.Rows.length c3], 4⟩, ⟨B4, 95, (r_4.Terms.flatMap enc_Term), c4 * 2⟩, ⟨B5, 3, (r_4.Out.Rows.flatMap encI), c5 * 1⟩, ⟨some ⟨b2, 0, none⟩, 50, [.int .i64 r_4.Qubits, .int .i64 r_4.Phase, .slice B4 r_4.Terms.length c4, .slice B5 r_4.Out.Rows.length c5], 4⟩] [⟨B, (p.Terms.flatMap enc_Term)⟩, ⟨B1, (p.Out.Rows.flatMap encI)⟩, ⟨B2, (q.Terms.flatMap enc_Term)⟩, ⟨B3, (q.Out.Rows.flatMap encI)⟩] := hS7
    refine sq 9 rfl rfl (Y_assign (v := .bool r_5) rfl rfl) ?_
    refine rw_nil ?_
    refine cw_seq ?_
    refine cw_region ?_
    refine sq 27 rfl rfl (Y_loadA (B := some ⟨b, 0, none⟩) (i := 0) (cs := [.int .i64 p.Qubits, .int .i64 p.Phase, .slice B p.Terms.length c, .slice B1 p.Out.Rows.length c1]) (vs := [.int .i64 p.Qubits, .int .i64 p.Phase, .slice B p.Terms.length c, .slice B1 p.Out.Rows.length c1]) k_ag_50 k_sz_50_4 rfl rfl (hS7.cf (i := 0) rfl) rfl rfl) ?_
    obtain ⟨⟨r_6, r_7⟩, hc3, hF2⟩ := bind_inv hF2
    refine sc 28 rfl rfl (Yc_func (g := 71) (vs := [.agg #[.int .i64 p.Qubits, .int .i64 p.Phase, .slice B p.Terms.length c, .slice B1 p.Out.Rows.length c1]]) k_call_71 rfl (mc rfl mn) (c_impl_LeastT p B c p.Terms.length B1 c1 p.Out.Rows.length _ rfl rfl (hS7.inn0 [(true, 0), (true, 1)] rfl) hc3)) ?_
    rintro _ w_7 ⟨rfl, hd2⟩
    have hS8 := hS7.out00 hd2
    have hS8 : ST w0 [] _ [⟨some ⟨b, 0, none⟩, 50, [.int .i64 p.Qubits, .int .i64 p.Phase, .slice B p.Terms.length c, .slice B1 p.Out.Rows.length c1], 4⟩, ⟨some ⟨b1, 0, none⟩, 50, [.int .i64 q.Qubits, .int .i64 q.Phase, .slice B2 q.Terms.length c2, .slice B3 q.Out.Rows.length c3], 4⟩, ⟨B4, 95, (r_4.Terms.flatMap enc_Term), c4 * 2⟩, ⟨B5, 3, (r_4.Out.Rows.flatMap encI), c5 * 1⟩, ⟨some ⟨b2, 0, none⟩, 50, [.int .i64 r_4.Qubits, .int .i64 r_4.Phase, .slice B4 r_4.Terms.length c4, .slice B5 r_4.Out.Rows.length c5], 4⟩] [⟨B, (p.Terms.flatMap enc_Term)⟩, ⟨B1, (p.Out.Rows.flatMap encI)⟩, ⟨B2, (q.Terms.flatMap enc_Term)⟩, ⟨B3, (q.Out.Rows.flatMap encI)⟩] := hS8
    refine sq 26 rfl rfl (Y_move (v := .tuple #[.int .i64 r_6, .bool r_7]) rfl rfl) ?_
    refine sq 29 rfl rfl (Y_extract (v := .int .i64 r_6) rfl rfl rfl) ?_
    refine sq 30 rfl rfl (Y_extract (v := .bool r_7) rfl rfl rfl) ?_
    refine sq 10 rfl rfl (Y_assign (v := .int .i64 r_6) rfl rfl) ?_
    refine sq 11 rfl rfl (Y_assign (v := .bool r_7) rfl rfl) ?_
    refine rw_nil ?_
    refine cw_seq ?_
    refine cw_block ?_
    refine cw_seq ?_
    refine cw_region ?_
    refine sq 32 rfl rfl (Y_move (v := .bool r_5) rfl rfl) ?_
    refine sq 33 rfl rfl (Y_not (p := r_5) rfl rfl) ?_
    refine sq 31 rfl rfl (Y_assign (v := .bool (!r_5)) rfl rfl) ?_
    refine rw_nil ?_
    refine cw_cond (b := (!r_5)) rfl (fun hb1 => ?_) (fun hb1 => ?_)
    · skip
      have hF3 := ct hF2 hb1
      refine cw_seq ?_
      refine cw_region ?_
      refine sq 6 rfl rfl (Y_assign (v := .int .i64 1) rfl rfl) ?_
      refine sq 7 rfl rfl (Y_assign (v := .bool true) rfl rfl) ?_
      refine rw_nil ?_
      refine cw_ret ?_
      obtain ⟨rfl, rfl⟩ := pr2 (some_inj hF3)
      exact ret2 Try.results26 (v1 := .int .i64 1) (resAt_tmp rfl) (v2 := .bool true) (resAt_tmp rfl) ⟨rfl, (ST.subR (R' := []) (hS8.sel [] rfl rfl) (fun _ h => by cases h))⟩
    · skip
      have hF4 := cf' hF2 hb1
      refine cw_seq ?_
      refine cw_region ?_
      refine sq 35 rfl rfl (Y_loadA (B := some ⟨b2, 0, none⟩) (i := 0) (cs := [.int .i64 r_4.Qubits, .int .i64 r_4.Phase, .slice B4 r_4.Terms.length c4, .slice B5 r_4.Out.Rows.length c5]) (vs := [.int .i64 r_4.Qubits, .int .i64 r_4.Phase, .slice B4 r_4.Terms.length c4, .slice B5 r_4.Out.Rows.length c5]) k_ag_50 k_sz_50_4 rfl rfl (hS8.cf (i := 4) rfl) rfl rfl) ?_
      refine sq 36 rfl rfl (Y_loadA (B := some ⟨b1, 0, none⟩) (i := 0) (cs := [.int .i64 q.Qubits, .int .i64 q.Phase, .slice B2 q.Terms.length c2, .slice B3 q.Out.Rows.length c3]) (vs := [.int .i64 q.Qubits, .int .i64 q.Phase, .slice B2 q.Terms.length c2, .slice B3 q.Out.Rows.length c3]) k_ag_50 k_sz_50_4 rfl rfl (hS8.cf (i := 1) rfl) rfl rfl) ?_
      obtain ⟨r_8, hc4, hF4⟩ := bind_inv hF4
      refine sc 37 rfl rfl (Yc_func (g := 72) (vs := [.agg #[.int .i64 r_4.Qubits, .int .i64 r_4.Phase, .slice B4 r_4.Terms.length c4, .slice B5 r_4.Out.Rows.length c5], .agg #[.int .i64 q.Qubits, .int .i64 q.Phase, .slice B2 q.Terms.length c2, .slice B3 q.Out.Rows.length c3]]) k_call_72 rfl (mc rfl (mc rfl mn)) (c_impl_equalPolys r_4 q B4 c4 r_4.Terms.length B5 c5 r_4.Out.Rows.length B2 c2 q.Terms.length B3 c3 q.Out.Rows.length _ rfl rfl rfl rfl (hS8.inn0 [(false, 2), (false, 3), (true, 2), (true, 3)] rfl) hc4)) ?_
      rintro _ w_8 ⟨rfl, hd3⟩
      have hS9 := hS8.out00 hd3
      have hS9 : ST w0 [] _ [⟨some ⟨b, 0, none⟩, 50, [.int .i64 p.Qubits, .int .i64 p.Phase, .slice B p.Terms.length c, .slice B1 p.Out.Rows.length c1], 4⟩, ⟨some ⟨b1, 0, none⟩, 50, [.int .i64 q.Qubits, .int .i64 q.Phase, .slice B2 q.Terms.length c2, .slice B3 q.Out.Rows.length c3], 4⟩, ⟨B4, 95, (r_4.Terms.flatMap enc_Term), c4 * 2⟩, ⟨B5, 3, (r_4.Out.Rows.flatMap encI), c5 * 1⟩, ⟨some ⟨b2, 0, none⟩, 50, [.int .i64 r_4.Qubits, .int .i64 r_4.Phase, .slice B4 r_4.Terms.length c4, .slice B5 r_4.Out.Rows.length c5], 4⟩] [⟨B, (p.Terms.flatMap enc_Term)⟩, ⟨B1, (p.Out.Rows.flatMap encI)⟩, ⟨B2, (q.Terms.flatMap enc_Term)⟩, ⟨B3, (q.Out.Rows.flatMap encI)⟩] := hS9
      refine sq 38 rfl rfl (Y_not (p := r_8) rfl rfl) ?_
      refine sq 34 rfl rfl (Y_assign (v := .bool (!r_8)) rfl rfl) ?_
      refine rw_nil ?_
      refine cw_cond (b := (!r_8)) rfl (fun hb2 => ?_) (fun hb2 => ?_)
      · skip
        have hF5 := ct hF4 hb2
        refine cw_seq ?_
        refine cw_region ?_
        refine sq 6 rfl rfl (Y_assign (v := .int .i64 2) rfl rfl) ?_
        refine sq 7 rfl rfl (Y_assign (v := .bool true) rfl rfl) ?_
        refine rw_nil ?_
        refine cw_ret ?_
        obtain ⟨rfl, rfl⟩ := pr2 (some_inj hF5)
        exact ret2 Try.results26 (v1 := .int .i64 2) (resAt_tmp rfl) (v2 := .bool true) (resAt_tmp rfl) ⟨rfl, (ST.subR (R' := []) (hS9.sel [] rfl rfl) (fun _ h => by cases h))⟩
      · skip
        have hF6 := cf' hF4 hb2
        refine cw_seq ?_
        refine cw_region ?_
        refine sq 40 rfl rfl (Y_fieldAddr (B := some ⟨b1, 0, none⟩) (i := 0) (s := 0) k_fd_50_2_2_47 k_sz_47_1 rfl rfl) ?_
        refine sq 41 rfl rfl (Y_load1 (B := some ⟨b1, 0, none⟩) (i := 2) (cs := [.int .i64 q.Qubits, .int .i64 q.Phase, .slice B2 q.Terms.length c2, .slice B3 q.Out.Rows.length c3]) (v := .slice B2 q.Terms.length c2) k_sc_47 rfl rfl (hS9.cf (i := 1) rfl) rfl) ?_
        obtain ⟨r_9, hc5, hF6⟩ := bind_inv hF6
        refine sc 42 rfl rfl (Yc_func (g := 73) (vs := [.slice B2 q.Terms.length c2]) k_call_73 rfl (mc rfl mn) (c_impl_oddTerms q.Terms B2 c2 q.Terms.length _ rfl (hS9.inn0 [(true, 2)] rfl) hc5)) ?_
        rintro _ w_9 ⟨rfl, hd4⟩
        have hS10 := hS9.out00 hd4
        have hS10 : ST w0 [] _ [⟨some ⟨b, 0, none⟩, 50, [.int .i64 p.Qubits, .int .i64 p.Phase, .slice B p.Terms.length c, .slice B1 p.Out.Rows.length c1], 4⟩, ⟨some ⟨b1, 0, none⟩, 50, [.int .i64 q.Qubits, .int .i64 q.Phase, .slice B2 q.Terms.length c2, .slice B3 q.Out.Rows.length c3], 4⟩, ⟨B4, 95, (r_4.Terms.flatMap enc_Term), c4 * 2⟩, ⟨B5, 3, (r_4.Out.Rows.flatMap encI), c5 * 1⟩, ⟨some ⟨b2, 0, none⟩, 50, [.int .i64 r_4.Qubits, .int .i64 r_4.Phase, .slice B4 r_4.Terms.length c4, .slice B5 r_4.Out.Rows.length c5], 4⟩] [⟨B, (p.Terms.flatMap enc_Term)⟩, ⟨B1, (p.Out.Rows.flatMap encI)⟩, ⟨B2, (q.Terms.flatMap enc_Term)⟩, ⟨B3, (q.Out.Rows.flatMap encI)⟩] := hS10
        refine sq 43 rfl rfl (Y_move (v := .int .i64 r_6) rfl rfl) ?_
        refine sq 44 rfl rfl (Y_ne (k := .i64) (a := r_9) (b := r_6) rfl rfl rfl) ?_
        refine sq 39 rfl rfl (Y_assign (v := .bool (r_9 != r_6)) rfl rfl) ?_
        refine rw_nil ?_
        refine cw_cond (b := (r_9 != r_6)) rfl (fun hb3 => ?_) (fun hb3 => ?_)
        · skip
          have hF7 := ct hF6 hb3
          refine cw_seq ?_
          refine cw_region ?_
          refine sq 6 rfl rfl (Y_assign (v := .int .i64 3) rfl rfl) ?_
          refine sq 7 rfl rfl (Y_assign (v := .bool true) rfl rfl) ?_
          refine rw_nil ?_
          refine cw_ret ?_
          obtain ⟨rfl, rfl⟩ := pr2 (some_inj hF7)
          exact ret2 Try.results26 (v1 := .int .i64 3) (resAt_tmp rfl) (v2 := .bool true) (resAt_tmp rfl) ⟨rfl, (ST.subR (R' := []) (hS10.sel [] rfl rfl) (fun _ h => by cases h))⟩
        · skip
          have hF8 := cf' hF6 hb3
          refine cw_skip ?_
          refine cw_seq ?_
          refine cw_region ?_
          refine sq 6 rfl rfl (Y_assign (v := .int .i64 0) rfl rfl) ?_
          refine sq 7 rfl rfl (Y_assign (v := .bool true) rfl rfl) ?_
          refine rw_nil ?_
          refine cw_ret ?_
          obtain ⟨rfl, rfl⟩ := pr2 (some_inj hF8)
          exact ret2 Try.results26 (v1 := .int .i64 0) (resAt_tmp rfl) (v2 := .bool true) (resAt_tmp rfl) ⟨rfl, (ST.subR (R' := []) (hS10.sel [] rfl rfl) (fun _ h => by cases h))⟩

theorem c_laws_FnExactCheckReduction (aP : TPhasePoly) (aWord : Int) (aQ : TPhasePoly) (B : Option Addr) (c n : Nat) (B1 : Option Addr) (c1 n1 : Nat) (B2 : Option Addr) (c2 n2 : Nat) (B3 : Option Addr) (c3 n3 : Nat) (w0 : World) (hn : aP.Terms.length = n) (hn1 : aP.Out.Rows.length = n1) (hn2 : aQ.Terms.length = n2) (hn3 : aQ.Out.Rows.length = n3) (hS : ST w0 [] w0 [] [⟨B, (aP.Terms.flatMap enc_Term)⟩, ⟨B1, (aP.Out.Rows.flatMap encI)⟩, ⟨B2, (aQ.Terms.flatMap enc_Term)⟩, ⟨B3, (aQ.Out.Rows.flatMap encI)⟩]) {r_ : Bool} (hF : F_laws_FnExactCheckReduction aP aWord aQ = some r_) :
    CV Try.prog 6 #[.agg #[.int .i64 aP.Qubits, .int .i64 aP.Phase, .slice B n c, .slice B1 n1 c1], .int .i64 aWord, .agg #[.int .i64 aQ.Qubits, .int .i64 aQ.Phase, .slice B2 n2 c2, .slice B3 n3 c3]] w0 (fun v w' => v = .bool r_ ∧ ST w0 [] w' [] []) := by
  subst hn
  subst hn1
  subst hn2
  subst hn3
  unfold F_laws_FnExactCheckReduction at hF
  refine cv_of_cw 62 Try.func6 rfl Try.ntmps6 rfl ?_
  refine cw_seq ?_
  refine cw_region ?_
  refine ss 3 rfl rfl (Ys_box (T := 45) (v := .agg #[.int .i64 aP.Qubits, .int .i64 aP.Phase, .slice B aP.Terms.length c, .slice B1 aP.Out.Rows.length c1]) (cs := [.int .i64 aP.Qubits, .int .i64 aP.Phase, .slice B aP.Terms.length c, .slice B1 aP.Out.Rows.length c1]) (m := 4) hS rfl rfl rfl rfl) ?_
  rintro _ w_ ⟨b, rfl, hS1⟩
  refine ss 5 rfl rfl (Ys_box (T := 45) (v := .agg #[.int .i64 aQ.Qubits, .int .i64 aQ.Phase, .slice B2 aQ.Terms.length c2, .slice B3 aQ.Out.Rows.length c3]) (cs := [.int .i64 aQ.Qubits, .int .i64 aQ.Phase, .slice B2 aQ.Terms.length c2, .slice B3 aQ.Out.Rows.length c3]) (m := 4) hS1 rfl rfl rfl rfl) ?_
  rintro _ w_1 ⟨b1, rfl, hS2⟩
  have hS2 : ST w0 [] _ [⟨some ⟨b, 0, none⟩, 45, [.int .i64 aP.Qubits, .int .i64 aP.Phase, .slice B aP.Terms.length c, .slice B1 aP.Out.Rows.length c1], 4⟩, ⟨some ⟨b1, 0, none⟩, 45, [.int .i64 aQ.Qubits, .int .i64 aQ.Phase, .slice B2 aQ.Terms.length c2, .slice B3 aQ.Out.Rows.length c3], 4⟩] [⟨B, (aP.Terms.flatMap enc_Term)⟩, ⟨B1, (aP.Out.Rows.flatMap encI)⟩, ⟨B2, (aQ.Terms.flatMap enc_Term)⟩, ⟨B3, (aQ.Out.Rows.flatMap encI)⟩] := hS2
  refine sq 6 rfl rfl (Y_assign (v := .bool false) rfl rfl) ?_
  refine rw_nil ?_
  refine cw_seq ?_
  refine cw_region ?_
  refine sq 7 rfl rfl (Y_assign (v := .int .i64 1048576) rfl rfl) ?_
  refine rw_nil ?_
  refine cw_seq ?_
  refine cw_region ?_
  refine sq 14 rfl rfl (Y_loadA (B := some ⟨b, 0, none⟩) (i := 0) (cs := [.int .i64 aP.Qubits, .int .i64 aP.Phase, .slice B aP.Terms.length c, .slice B1 aP.Out.Rows.length c1]) (vs := [.int .i64 aP.Qubits, .int .i64 aP.Phase, .slice B aP.Terms.length c, .slice B1 aP.Out.Rows.length c1]) k_ag_45 k_sz_45_4 rfl rfl (hS2.cf (i := 0) rfl) rfl rfl) ?_
  refine sq 15 rfl rfl (Y_move (v := .int .i64 1048576) rfl rfl) ?_
  obtain ⟨r_1, hc, hF⟩ := bind_inv hF
  refine sc 16 rfl rfl (Yc_func (g := 16) (vs := [.agg #[.int .i64 aP.Qubits, .int .i64 aP.Phase, .slice B aP.Terms.length c, .slice B1 aP.Out.Rows.length c1], .int .i64 1048576]) k_call_16 rfl (mc rfl (mc rfl mn)) (c_laws_szPhasePoly aP 1048576 B c aP.Terms.length B1 c1 aP.Out.Rows.length _ rfl rfl (hS2.inn0 [(true, 0), (true, 1)] rfl) hc)) ?_
  rintro _ w_2 ⟨rfl, hd⟩
  have hS3 := hS2.out00 hd
  have hS3 : ST w0 [] _ [⟨some ⟨b, 0, none⟩, 45, [.int .i64 aP.Qubits, .int .i64 aP.Phase, .slice B aP.Terms.length c, .slice B1 aP.Out.Rows.length c1], 4⟩, ⟨some ⟨b1, 0, none⟩, 45, [.int .i64 aQ.Qubits, .int .i64 aQ.Phase, .slice B2 aQ.Terms.length c2, .slice B3 aQ.Out.Rows.length c3], 4⟩] [⟨B, (aP.Terms.flatMap enc_Term)⟩, ⟨B1, (aP.Out.Rows.flatMap encI)⟩, ⟨B2, (aQ.Terms.flatMap enc_Term)⟩, ⟨B3, (aQ.Out.Rows.flatMap encI)⟩] := hS3
  refine sq 7 rfl rfl (Y_assign (v := .int .i64 r_1) rfl rfl) ?_
  refine rw_nil ?_
  refine cw_seq ?_
  refine cw_seq ?_
  refine cw_region ?_
  refine sq 17 rfl rfl (Y_move (v := .int .i64 r_1) rfl rfl) ?_
  refine sq 18 rfl rfl (Y_lt (k := .i64) (a := r_1) (b := 0) rfl rfl rfl) ?_
  refine rw_nil ?_
  refine cw_cond (b := (decide (r_1 < 0))) rfl (fun hb => ?_) (fun hb => ?_)
  · skip
    have hF1 := ct hF hb
    refine cw_seq ?_
    refine cw_region ?_
    refine sq 6 rfl rfl (Y_assign (v := .bool true) rfl rfl) ?_
    refine rw_nil ?_
    refine cw_ret ?_
    obtain rfl := some_inj hF1
    exact ret1 Try.results6 (v1 := .bool true) (resAt_tmp rfl) ⟨rfl, (ST.subR (R' := []) (hS3.sel [] rfl rfl) (fun _ h => by cases h))⟩
  · skip
    have hF2 := cf' hF hb
    refine cw_skip ?_
    refine cw_seq ?_
    refine cw_region ?_
    refine sq 19 rfl rfl (Y_loadA (B := some ⟨b1, 0, none⟩) (i := 0) (cs := [.int .i64 aQ.Qubits, .int .i64 aQ.Phase, .slice B2 aQ.Terms.length c2, .slice B3 aQ.Out.Rows.length c3]) (vs := [.int .i64 aQ.Qubits, .int .i64 aQ.Phase, .slice B2 aQ.Terms.length c2, .slice B3 aQ.Out.Rows.length c3]) k_ag_45 k_sz_45_4 rfl rfl (hS3.cf (i := 1) rfl) rfl rfl) ?_
    refine sq 20 rfl rfl (Y_move (v := .int .i64 r_1) rfl rfl) ?_
    obtain ⟨r_2, hc1, hF2⟩ := bind_inv hF2
    refine sc 21 rfl rfl (Yc_func (g := 16) (vs := [.agg #[.int .i64 aQ.Qubits, .int .i64 aQ.Phase, .slice B2 aQ.Terms.length c2, .slice B3 aQ.Out.Rows.length c3], .int .i64 r_1]) k_call_16 rfl (mc rfl (mc rfl mn)) (c_laws_szPhasePoly aQ r_1 B2 c2 aQ.Terms.length B3 c3 aQ.Out.Rows.length _ rfl rfl (hS3.inn0 [(true, 2), (true, 3)] rfl) hc1)) ?_
    rintro _ w_3 ⟨rfl, hd1⟩
    have hS4 := hS3.out00 hd1
    have hS4 : ST w0 [] _ [⟨some ⟨b, 0, none⟩, 45, [.int .i64 aP.Qubits, .int .i64 aP.Phase, .slice B aP.Terms.length c, .slice B1 aP.Out.Rows.length c1], 4⟩, ⟨some ⟨b1, 0, none⟩, 45, [.int .i64 aQ.Qubits, .int .i64 aQ.Phase, .slice B2 aQ.Terms.length c2, .slice B3 aQ.Out.Rows.length c3], 4⟩] [⟨B, (aP.Terms.flatMap enc_Term)⟩, ⟨B1, (aP.Out.Rows.flatMap encI)⟩, ⟨B2, (aQ.Terms.flatMap enc_Term)⟩, ⟨B3, (aQ.Out.Rows.flatMap encI)⟩] := hS4
    refine sq 7 rfl rfl (Y_assign (v := .int .i64 r_2) rfl rfl) ?_
    refine rw_nil ?_
    refine cw_seq ?_
    refine cw_seq ?_
    refine cw_region ?_
    refine sq 22 rfl rfl (Y_move (v := .int .i64 r_2) rfl rfl) ?_
    refine sq 23 rfl rfl (Y_lt (k := .i64) (a := r_2) (b := 0) rfl rfl rfl) ?_
    refine rw_nil ?_
    refine cw_cond (b := (decide (r_2 < 0))) rfl (fun hb1 => ?_) (fun hb1 => ?_)
    · skip
      have hF3 := ct hF2 hb1
      refine cw_seq ?_
      refine cw_region ?_
      refine sq 6 rfl rfl (Y_assign (v := .bool true) rfl rfl) ?_
      refine rw_nil ?_
      refine cw_ret ?_
      obtain rfl := some_inj hF3
      exact ret1 Try.results6 (v1 := .bool true) (resAt_tmp rfl) ⟨rfl, (ST.subR (R' := []) (hS4.sel [] rfl rfl) (fun _ h => by cases h))⟩
    · skip
      have hF4 := cf' hF2 hb1
      refine cw_skip ?_
      refine cw_seq ?_
      obtain ⟨r_3, hc2, hF4⟩ := bind_inv hF4
      obtain ⟨r_4, hc3, hF4⟩ := bind_inv hF4
      obtain ⟨⟨r_5, r_6⟩, hc4, hF4⟩ := bind_inv hF4
      refine ra_start (ST.sel hS4 [0, 1] rfl rfl).fn (by kernel_rfl) ?_
      have hS8 := hS4.drew
      refine ra_q 0 25 (v := .agg #[.int .i64 aP.Qubits, .int .i64 aP.Phase, .slice B aP.Terms.length c, .slice B1 aP.Out.Rows.length c1]) rfl rfl rfl (by kernel_rfl) (by kernel_rfl) (by kernel_rfl) (ST.sel hS8 [0, 1] rfl rfl) (fun w' hw' => (Y_loadA (B := some ⟨b, 0, none⟩) (i := 0) (cs := [.int .i64 aP.Qubits, .int .i64 aP.Phase, .slice B aP.Terms.length c, .slice B1 aP.Out.Rows.length c1]) (vs := [.int .i64 aP.Qubits, .int .i64 aP.Phase, .slice B aP.Terms.length c, .slice B1 aP.Out.Rows.length c1]) k_ag_45 k_sz_45_4 rfl rfl (ST.cf hw' (i := 0) rfl) rfl rfl)) ?_
      refine ra_q 2 27 (v := .int .i64 aWord) rfl rfl rfl (by kernel_rfl) (by kernel_rfl) (by kernel_rfl) (ST.sel hS8 [0, 1] rfl rfl) (fun w' hw' => (Y_move (v := .int .i64 aWord) rfl rfl)) ?_
      refine ra_q 3 28 (v := .agg #[.int .i64 aQ.Qubits, .int .i64 aQ.Phase, .slice B2 aQ.Terms.length c2, .slice B3 aQ.Out.Rows.length c3]) rfl rfl rfl (by kernel_rfl) (by kernel_rfl) (by kernel_rfl) (ST.sel hS8 [0, 1] rfl rfl) (fun w' hw' => (Y_loadA (B := some ⟨b1, 0, none⟩) (i := 0) (cs := [.int .i64 aQ.Qubits, .int .i64 aQ.Phase, .slice B2 aQ.Terms.length c2, .slice B3 aQ.Out.Rows.length c3]) (vs := [.int .i64 aQ.Qubits, .int .i64 aQ.Phase, .slice B2 aQ.Terms.length c2, .slice B3 aQ.Out.Rows.length c3]) k_ag_45 k_sz_45_4 rfl rfl (ST.cf hw' (i := 1) rfl) rfl rfl)) ?_
      refine ra_all (rs := [1]) (by kernel_rfl) rfl ?_
      refine ra_c 26 (i := 1) rfl rfl rfl (Yc_func (g := 18) (vs := [.agg #[.int .i64 aP.Qubits, .int .i64 aP.Phase, .slice B aP.Terms.length c, .slice B1 aP.Out.Rows.length c1]]) k_call_18 rfl (mc rfl mn) (c_laws_toPhasePoly aP B c aP.Terms.length B1 c1 aP.Out.Rows.length _ rfl rfl (hS8.inn0 [(true, 0), (true, 1)] rfl) hc2)) ?_ ?_
      · rintro _ w_4 ⟨B4, c4, B5, c5, rfl, hd2⟩
        have hS9 := hS8.out0 hd2
        have hS9 : ST w0 [] _ [⟨some ⟨b, 0, none⟩, 45, [.int .i64 aP.Qubits, .int .i64 aP.Phase, .slice B aP.Terms.length c, .slice B1 aP.Out.Rows.length c1], 4⟩, ⟨some ⟨b1, 0, none⟩, 45, [.int .i64 aQ.Qubits, .int .i64 aQ.Phase, .slice B2 aQ.Terms.length c2, .slice B3 aQ.Out.Rows.length c3], 4⟩, ⟨B4, 95, (r_3.Terms.flatMap enc_Term), c4 * 2⟩, ⟨B5, 3, (r_3.Out.Rows.flatMap encI), c5 * 1⟩] [⟨B, (aP.Terms.flatMap enc_Term)⟩, ⟨B1, (aP.Out.Rows.flatMap encI)⟩, ⟨B2, (aQ.Terms.flatMap enc_Term)⟩, ⟨B3, (aQ.Out.Rows.flatMap encI)⟩] := hS9
        refine ⟨(ST.sel hS9 [0, 1] rfl rfl), ?_⟩
        refine ra_all (rs := [4]) (by kernel_rfl) rfl ?_
        refine ra_c 29 (i := 4) rfl rfl rfl (Yc_func (g := 18) (vs := [.agg #[.int .i64 aQ.Qubits, .int .i64 aQ.Phase, .slice B2 aQ.Terms.length c2, .slice B3 aQ.Out.Rows.length c3]]) k_call_18 rfl (mc rfl mn) (c_laws_toPhasePoly aQ B2 c2 aQ.Terms.length B3 c3 aQ.Out.Rows.length _ rfl rfl (hS9.inn0 [(true, 2), (true, 3)] rfl) hc3)) ?_ ?_
        · rintro _ w_5 ⟨B6, c6, B7, c7, rfl, hd3⟩
          have hS10 := hS9.out0 hd3
          have hS10 : ST w0 [] _ [⟨some ⟨b, 0, none⟩, 45, [.int .i64 aP.Qubits, .int .i64 aP.Phase, .slice B aP.Terms.length c, .slice B1 aP.Out.Rows.length c1], 4⟩, ⟨some ⟨b1, 0, none⟩, 45, [.int .i64 aQ.Qubits, .int .i64 aQ.Phase, .slice B2 aQ.Terms.length c2, .slice B3 aQ.Out.Rows.length c3], 4⟩, ⟨B4, 95, (r_3.Terms.flatMap enc_Term), c4 * 2⟩, ⟨B5, 3, (r_3.Out.Rows.flatMap encI), c5 * 1⟩, ⟨B6, 95, (r_4.Terms.flatMap enc_Term), c6 * 2⟩, ⟨B7, 3, (r_4.Out.Rows.flatMap encI), c7 * 1⟩] [⟨B, (aP.Terms.flatMap enc_Term)⟩, ⟨B1, (aP.Out.Rows.flatMap encI)⟩, ⟨B2, (aQ.Terms.flatMap enc_Term)⟩, ⟨B3, (aQ.Out.Rows.flatMap encI)⟩] := hS10
          refine ⟨(ST.sel hS10 [0, 1] rfl rfl), ?_⟩
          refine ra_all (rs := [5]) (by kernel_rfl) rfl ?_
          refine ra_c 30 (i := 5) rfl rfl rfl (Yc_func (g := 25) (vs := [.agg #[.int .i64 r_3.Qubits, .int .i64 r_3.Phase, .slice B4 r_3.Terms.length c4, .slice B5 r_3.Out.Rows.length c5], .int .i64 aWord, .agg #[.int .i64 r_4.Qubits, .int .i64 r_4.Phase, .slice B6 r_4.Terms.length c6, .slice B7 r_4.Out.Rows.length c7]]) k_call_25 rfl (mc rfl (mc rfl (mc rfl mn))) (c_spec_CheckReduction r_3 aWord r_4 B4 c4 r_3.Terms.length B5 c5 r_3.Out.Rows.length B6 c6 r_4.Terms.length B7 c7 r_4.Out.Rows.length _ rfl rfl rfl rfl (hS10.inn0 [(false, 2), (false, 3), (false, 4), (false, 5)] rfl) hc4)) ?_ ?_
          · rintro _ w_6 ⟨rfl, hd4⟩
            have hS11 := hS10.out00 hd4
            have hS11 : ST w0 [] _ [⟨some ⟨b, 0, none⟩, 45, [.int .i64 aP.Qubits, .int .i64 aP.Phase, .slice B aP.Terms.length c, .slice B1 aP.Out.Rows.length c1], 4⟩, ⟨some ⟨b1, 0, none⟩, 45, [.int .i64 aQ.Qubits, .int .i64 aQ.Phase, .slice B2 aQ.Terms.length c2, .slice B3 aQ.Out.Rows.length c3], 4⟩, ⟨B4, 95, (r_3.Terms.flatMap enc_Term), c4 * 2⟩, ⟨B5, 3, (r_3.Out.Rows.flatMap encI), c5 * 1⟩, ⟨B6, 95, (r_4.Terms.flatMap enc_Term), c6 * 2⟩, ⟨B7, 3, (r_4.Out.Rows.flatMap encI), c7 * 1⟩] [⟨B, (aP.Terms.flatMap enc_Term)⟩, ⟨B1, (aP.Out.Rows.flatMap encI)⟩, ⟨B2, (aQ.Terms.flatMap enc_Term)⟩, ⟨B3, (aQ.Out.Rows.flatMap encI)⟩] := hS11
            refine ⟨(ST.sel hS11 [0, 1] rfl rfl), ?_⟩
            refine ra_q 6 24 (v := .tuple #[.int .i64 r_5, .bool r_6]) rfl rfl rfl (by kernel_rfl) (by kernel_rfl) (by kernel_rfl) (ST.sel hS11 [0, 1] rfl rfl) (fun w' hw' => (Y_move (v := .tuple #[.int .i64 r_5, .bool r_6]) rfl rfl)) ?_
            refine ra_q 7 31 (v := .int .i64 r_5) rfl rfl rfl (by kernel_rfl) (by kernel_rfl) (by kernel_rfl) (ST.sel hS11 [0, 1] rfl rfl) (fun w' hw' => (Y_extract (v := .int .i64 r_5) rfl rfl rfl)) ?_
            refine ra_q 8 32 (v := .bool r_6) rfl rfl rfl (by kernel_rfl) (by kernel_rfl) (by kernel_rfl) (ST.sel hS11 [0, 1] rfl rfl) (fun w' hw' => (Y_extract (v := .bool r_6) rfl rfl rfl)) ?_
            refine ra_q 9 8 (v := .int .i64 r_5) rfl rfl rfl (by kernel_rfl) (by kernel_rfl) (by kernel_rfl) (ST.sel hS11 [0, 1] rfl rfl) (fun w' hw' => (Y_assign (v := .int .i64 r_5) rfl rfl)) ?_
            refine ra_q 10 9 (v := .bool r_6) rfl rfl rfl (by kernel_rfl) (by kernel_rfl) (by kernel_rfl) (ST.sel hS11 [0, 1] rfl rfl) (fun w' hw' => (Y_assign (v := .bool r_6) rfl rfl)) ?_
            refine ra_done (by kernel_rfl) ?_
            refine cw_seq ?_
            refine cw_region ?_
            refine sq 33 rfl rfl (Y_loadA (B := some ⟨b, 0, none⟩) (i := 0) (cs := [.int .i64 aP.Qubits, .int .i64 aP.Phase, .slice B aP.Terms.length c, .slice B1 aP.Out.Rows.length c1]) (vs := [.int .i64 aP.Qubits, .int .i64 aP.Phase, .slice B aP.Terms.length c, .slice B1 aP.Out.Rows.length c1]) k_ag_45 k_sz_45_4 rfl rfl (hS11.cf (i := 0) rfl) rfl rfl) ?_
            obtain ⟨r_7, hc5, hF4⟩ := bind_inv hF4
            refine sc 34 rfl rfl (Yc_func (g := 18) (vs := [.agg #[.int .i64 aP.Qubits, .int .i64 aP.Phase, .slice B aP.Terms.length c, .slice B1 aP.Out.Rows.length c1]]) k_call_18 rfl (mc rfl mn) (c_laws_toPhasePoly aP B c aP.Terms.length B1 c1 aP.Out.Rows.length _ rfl rfl (hS11.inn0 [(true, 0), (true, 1)] rfl) hc5)) ?_
            rintro _ w_7 ⟨B8, c8, B9, c9, rfl, hd5⟩
            have hS12 := hS11.out0 hd5
            have hS12 : ST w0 [] _ [⟨some ⟨b, 0, none⟩, 45, [.int .i64 aP.Qubits, .int .i64 aP.Phase, .slice B aP.Terms.length c, .slice B1 aP.Out.Rows.length c1], 4⟩, ⟨some ⟨b1, 0, none⟩, 45, [.int .i64 aQ.Qubits, .int .i64 aQ.Phase, .slice B2 aQ.Terms.length c2, .slice B3 aQ.Out.Rows.length c3], 4⟩, ⟨B4, 95, (r_3.Terms.flatMap enc_Term), c4 * 2⟩, ⟨B5, 3, (r_3.Out.Rows.flatMap encI), c5 * 1⟩, ⟨B6, 95, (r_4.Terms.flatMap enc_Term), c6 * 2⟩, ⟨B7, 3, (r_4.Out.Rows.flatMap encI), c7 * 1⟩, ⟨B8, 95, (r_7.Terms.flatMap enc_Term), c8 * 2⟩, ⟨B9, 3, (r_7.Out.Rows.flatMap encI), c9 * 1⟩] [⟨B, (aP.Terms.flatMap enc_Term)⟩, ⟨B1, (aP.Out.Rows.flatMap encI)⟩, ⟨B2, (aQ.Terms.flatMap enc_Term)⟩, ⟨B3, (aQ.Out.Rows.flatMap encI)⟩] := hS12
            refine ss 10 rfl rfl (Ys_alloc (T := 50) (cs := [.int .i64 0, .int .i64 0, .slice none 0 0, .slice none 0 0]) (m := 4) hS12 k_zero_50 rfl rfl rfl) ?_
            rintro _ w_8 ⟨b2, rfl, hS13⟩
            have hS13 : ST w0 [] _ [⟨some ⟨b, 0, none⟩, 45, [.int .i64 aP.Qubits, .int .i64 aP.Phase, .slice B aP.Terms.length c, .slice B1 aP.Out.Rows.length c1], 4⟩, ⟨some ⟨b1, 0, none⟩, 45, [.int .i64 aQ.Qubits, .int .i64 aQ.Phase, .slice B2 aQ.Terms.length c2, .slice B3 aQ.Out.Rows.length c3], 4⟩, ⟨B4, 95, (r_3.Terms.flatMap enc_Term), c4 * 2⟩, ⟨B5, 3, (r_3.Out.Rows.flatMap encI), c5 * 1⟩, ⟨B6, 95, (r_4.Terms.flatMap enc_Term), c6 * 2⟩, ⟨B7, 3, (r_4.Out.Rows.flatMap encI), c7 * 1⟩, ⟨B8, 95, (r_7.Terms.flatMap enc_Term), c8 * 2⟩, ⟨B9, 3, (r_7.Out.Rows.flatMap encI), c9 * 1⟩, ⟨some ⟨b2, 0, none⟩, 50, [.int .i64 0, .int .i64 0, .slice none 0 0, .slice none 0 0], 4⟩] [⟨B, (aP.Terms.flatMap enc_Term)⟩, ⟨B1, (aP.Out.Rows.flatMap encI)⟩, ⟨B2, (aQ.Terms.flatMap enc_Term)⟩, ⟨B3, (aQ.Out.Rows.flatMap encI)⟩] := hS13
            refine ss0 rfl rfl (Ys_store (i := 8) (s := 4) (B := some ⟨b2, 0, none⟩) (T' := 50) (v := .agg #[.int .i64 r_7.Qubits, .int .i64 r_7.Phase, .slice B8 r_7.Terms.length c8, .slice B9 r_7.Out.Rows.length c9]) (vs := [.int .i64 r_7.Qubits, .int .i64 r_7.Phase, .slice B8 r_7.Terms.length c8, .slice B9 r_7.Out.Rows.length c9]) (k := 0) (cs' := [.int .i64 r_7.Qubits, .int .i64 r_7.Phase, .slice B8 r_7.Terms.length c8, .slice B9 r_7.Out.Rows.length c9]) hS13 k_sz_50_4 rfl rfl rfl rfl rfl rfl rfl (Nat.le_of_ble_eq_true rfl) rfl rfl) ?_
            rintro _ w_9 ⟨rfl, hS14⟩
            have hS14 : ST w0 [] _ [⟨some ⟨b, 0, none⟩, 45, [.int .i64 aP.Qubits, .int .i64 aP.Phase, .slice B aP.Terms.length c, .slice B1 aP.Out.Rows.length c1], 4⟩, ⟨some ⟨b1, 0, none⟩, 45, [.int .i64 aQ.Qubits, .int .i64 aQ.Phase, .slice B2 aQ.Terms.length c2, .slice B3 aQ.Out.Rows.length c3], 4⟩, ⟨B4, 95, (r_3.Terms.flatMap enc_Term), c4 * 2⟩, ⟨B5, 3, (r_3.Out.Rows.flatMap encI), c5 * 1⟩, ⟨B6, 95, (r_4.Terms.flatMap enc_Term), c6 * 2⟩, ⟨B7, 3, (r_4.Out.Rows.flatMap encI), c7 * 1⟩, ⟨B8, 95, (r_7.Terms.flatMap enc_Term), c8 * 2⟩, ⟨B9, 3, (r_7.Out.Rows.flatMap encI), c9 * 1⟩, ⟨some ⟨b2, 0, none⟩, 50, [.int .i64 r_7.Qubits, .int .i64 r_7.Phase, .slice B8 r_7.Terms.length c8, .slice B9 r_7.Out.Rows.length c9], 4⟩] [⟨B, (aP.Terms.flatMap enc_Term)⟩, ⟨B1, (aP.Out.Rows.flatMap encI)⟩, ⟨B2, (aQ.Terms.flatMap enc_Term)⟩, ⟨B3, (aQ.Out.Rows.flatMap encI)⟩] := hS14
            refine rw_nil ?_
            refine cw_seq ?_
            refine cw_region ?_
            refine sq 35 rfl rfl (Y_loadA (B := some ⟨b1, 0, none⟩) (i := 0) (cs := [.int .i64 aQ.Qubits, .int .i64 aQ.Phase, .slice B2 aQ.Terms.length c2, .slice B3 aQ.Out.Rows.length c3]) (vs := [.int .i64 aQ.Qubits, .int .i64 aQ.Phase, .slice B2 aQ.Terms.length c2, .slice B3 aQ.Out.Rows.length c3]) k_ag_45 k_sz_45_4 rfl rfl (hS14.cf (i := 1) rfl) rfl rfl) ?_
            obtain ⟨r_8, hc6, hF4⟩ := bind_inv hF4
            refine sc 36 rfl rfl (Yc_func (g := 18) (vs := [.agg #[.int .i64 aQ.Qubits, .int .i64 aQ.Phase, .slice B2 aQ.Terms.length c2, .slice B3 aQ.Out.Rows.length c3]]) k_call_18 rfl (mc rfl mn) (c_laws_toPhasePoly aQ B2 c2 aQ.Terms.length B3 c3 aQ.Out.Rows.length _ rfl rfl (hS14.inn0 [(true, 2), (true, 3)] rfl) hc6)) ?_
            rintro _ w_10 ⟨B10, c10, B11, c11, rfl, hd6⟩
            have hS15 := hS14.out0 hd6
            have hS15 : ST w0 [] _ [⟨some ⟨b, 0, none⟩, 45, [.int .i64 aP.Qubits, .int .i64 aP.Phase, .slice B aP.Terms.length c, .slice B1 aP.Out.Rows.length c1], 4⟩, ⟨some ⟨b1, 0, none⟩, 45, [.int .i64 aQ.Qubits, .int .i64 aQ.Phase, .slice B2 aQ.Terms.length c2, .slice B3 aQ.Out.Rows.length c3], 4⟩, ⟨B4, 95, (r_3.Terms.flatMap enc_Term), c4 * 2⟩, ⟨B5, 3, (r_3.Out.Rows.flatMap encI), c5 * 1⟩, ⟨B6, 95, (r_4.Terms.flatMap enc_Term), c6 * 2⟩, ⟨B7, 3, (r_4.Out.Rows.flatMap encI), c7 * 1⟩, ⟨B8, 95, (r_7.Terms.flatMap enc_Term), c8 * 2⟩, ⟨B9, 3, (r_7.Out.Rows.flatMap encI), c9 * 1⟩, ⟨some ⟨b2, 0, none⟩, 50, [.int .i64 r_7.Qubits, .int .i64 r_7.Phase, .slice B8 r_7.Terms.length c8, .slice B9 r_7.Out.Rows.length c9], 4⟩, ⟨B10, 95, (r_8.Terms.flatMap enc_Term), c10 * 2⟩, ⟨B11, 3, (r_8.Out.Rows.flatMap encI), c11 * 1⟩] [⟨B, (aP.Terms.flatMap enc_Term)⟩, ⟨B1, (aP.Out.Rows.flatMap encI)⟩, ⟨B2, (aQ.Terms.flatMap enc_Term)⟩, ⟨B3, (aQ.Out.Rows.flatMap encI)⟩] := hS15
            refine ss 11 rfl rfl (Ys_alloc (T := 50) (cs := [.int .i64 0, .int .i64 0, .slice none 0 0, .slice none 0 0]) (m := 4) hS15 k_zero_50 rfl rfl rfl) ?_
            rintro _ w_11 ⟨b3, rfl, hS16⟩
            have hS16 : ST w0 [] _ [⟨some ⟨b, 0, none⟩, 45, [.int .i64 aP.Qubits, .int .i64 aP.Phase, .slice B aP.Terms.length c, .slice B1 aP.Out.Rows.length c1], 4⟩, ⟨some ⟨b1, 0, none⟩, 45, [.int .i64 aQ.Qubits, .int .i64 aQ.Phase, .slice B2 aQ.Terms.length c2, .slice B3 aQ.Out.Rows.length c3], 4⟩, ⟨B4, 95, (r_3.Terms.flatMap enc_Term), c4 * 2⟩, ⟨B5, 3, (r_3.Out.Rows.flatMap encI), c5 * 1⟩, ⟨B6, 95, (r_4.Terms.flatMap enc_Term), c6 * 2⟩, ⟨B7, 3, (r_4.Out.Rows.flatMap encI), c7 * 1⟩, ⟨B8, 95, (r_7.Terms.flatMap enc_Term), c8 * 2⟩, ⟨B9, 3, (r_7.Out.Rows.flatMap encI), c9 * 1⟩, ⟨some ⟨b2, 0, none⟩, 50, [.int .i64 r_7.Qubits, .int .i64 r_7.Phase, .slice B8 r_7.Terms.length c8, .slice B9 r_7.Out.Rows.length c9], 4⟩, ⟨B10, 95, (r_8.Terms.flatMap enc_Term), c10 * 2⟩, ⟨B11, 3, (r_8.Out.Rows.flatMap encI), c11 * 1⟩, ⟨some ⟨b3, 0, none⟩, 50, [.int .i64 0, .int .i64 0, .slice none 0 0, .slice none 0 0], 4⟩] [⟨B, (aP.Terms.flatMap enc_Term)⟩, ⟨B1, (aP.Out.Rows.flatMap encI)⟩, ⟨B2, (aQ.Terms.flatMap enc_Term)⟩, ⟨B3, (aQ.Out.Rows.flatMap encI)⟩] := hS16
            refine ss0 rfl rfl (Ys_store (i := 11) (s := 4) (B := some ⟨b3, 0, none⟩) (T' := 50) (v := .agg #[.int .i64 r_8.Qubits, .int .i64 r_8.Phase, .slice B10 r_8.Terms.length c10, .slice B11 r_8.Out.Rows.length c11]) (vs := [.int .i64 r_8.Qubits, .int .i64 r_8.Phase, .slice B10 r_8.Terms.length c10, .slice B11 r_8.Out.Rows.length c11]) (k := 0) (cs' := [.int .i64 r_8.Qubits, .int .i64 r_8.Phase, .slice B10 r_8.Terms.length c10, .slice B11 r_8.Out.Rows.length c11]) hS16 k_sz_50_4 rfl rfl rfl rfl rfl rfl rfl (Nat.le_of_ble_eq_true rfl) rfl rfl) ?_
            rintro _ w_12 ⟨rfl, hS17⟩
            have hS17 : ST w0 [] _ [⟨some ⟨b, 0, none⟩, 45, [.int .i64 aP.Qubits, .int .i64 aP.Phase, .slice B aP.Terms.length c, .slice B1 aP.Out.Rows.length c1], 4⟩, ⟨some ⟨b1, 0, none⟩, 45, [.int .i64 aQ.Qubits, .int .i64 aQ.Phase, .slice B2 aQ.Terms.length c2, .slice B3 aQ.Out.Rows.length c3], 4⟩, ⟨B4, 95, (r_3.Terms.flatMap enc_Term), c4 * 2⟩, ⟨B5, 3, (r_3.Out.Rows.flatMap encI), c5 * 1⟩, ⟨B6, 95, (r_4.Terms.flatMap enc_Term), c6 * 2⟩, ⟨B7, 3, (r_4.Out.Rows.flatMap encI), c7 * 1⟩, ⟨B8, 95, (r_7.Terms.flatMap enc_Term), c8 * 2⟩, ⟨B9, 3, (r_7.Out.Rows.flatMap encI), c9 * 1⟩, ⟨some ⟨b2, 0, none⟩, 50, [.int .i64 r_7.Qubits, .int .i64 r_7.Phase, .slice B8 r_7.Terms.length c8, .slice B9 r_7.Out.Rows.length c9], 4⟩, ⟨B10, 95, (r_8.Terms.flatMap enc_Term), c10 * 2⟩, ⟨B11, 3, (r_8.Out.Rows.flatMap encI), c11 * 1⟩, ⟨some ⟨b3, 0, none⟩, 50, [.int .i64 r_8.Qubits, .int .i64 r_8.Phase, .slice B10 r_8.Terms.length c10, .slice B11 r_8.Out.Rows.length c11], 4⟩] [⟨B, (aP.Terms.flatMap enc_Term)⟩, ⟨B1, (aP.Out.Rows.flatMap encI)⟩, ⟨B2, (aQ.Terms.flatMap enc_Term)⟩, ⟨B3, (aQ.Out.Rows.flatMap encI)⟩] := hS17
            refine rw_nil ?_
            refine cw_seq ?_
            refine cw_region ?_
            refine sq 38 rfl rfl (Y_loadA (B := some ⟨b2, 0, none⟩) (i := 0) (cs := [.int .i64 r_7.Qubits, .int .i64 r_7.Phase, .slice B8 r_7.Terms.length c8, .slice B9 r_7.Out.Rows.length c9]) (vs := [.int .i64 r_7.Qubits, .int .i64 r_7.Phase, .slice B8 r_7.Terms.length c8, .slice B9 r_7.Out.Rows.length c9]) k_ag_50 k_sz_50_4 rfl rfl (hS17.cf (i := 8) rfl) rfl rfl) ?_
            refine sq 39 rfl rfl (Y_move (v := .int .i64 aWord) rfl rfl) ?_
            refine sq 40 rfl rfl (Y_loadA (B := some ⟨b3, 0, none⟩) (i := 0) (cs := [.int .i64 r_8.Qubits, .int .i64 r_8.Phase, .slice B10 r_8.Terms.length c10, .slice B11 r_8.Out.Rows.length c11]) (vs := [.int .i64 r_8.Qubits, .int .i64 r_8.Phase, .slice B10 r_8.Terms.length c10, .slice B11 r_8.Out.Rows.length c11]) k_ag_50 k_sz_50_4 rfl rfl (hS17.cf (i := 11) rfl) rfl rfl) ?_
            obtain ⟨⟨r_9, r_10⟩, hc7, hF4⟩ := bind_inv hF4
            refine sc 41 rfl rfl (Yc_func (g := 26) (vs := [.agg #[.int .i64 r_7.Qubits, .int .i64 r_7.Phase, .slice B8 r_7.Terms.length c8, .slice B9 r_7.Out.Rows.length c9], .int .i64 aWord, .agg #[.int .i64 r_8.Qubits, .int .i64 r_8.Phase, .slice B10 r_8.Terms.length c10, .slice B11 r_8.Out.Rows.length c11]]) k_call_26 rfl (mc rfl (mc rfl (mc rfl mn))) (c_impl_CheckReduction r_7 aWord r_8 B8 c8 r_7.Terms.length B9 c9 r_7.Out.Rows.length B10 c10 r_8.Terms.length B11 c11 r_8.Out.Rows.length _ rfl rfl rfl rfl (hS17.inn0 [(false, 6), (false, 7), (false, 9), (false, 10)] rfl) hc7)) ?_
            rintro _ w_13 ⟨rfl, hd7⟩
            have hS18 := hS17.out00 hd7
            have hS18 : ST w0 [] _ [⟨some ⟨b, 0, none⟩, 45, [.int .i64 aP.Qubits, .int .i64 aP.Phase, .slice B aP.Terms.length c, .slice B1 aP.Out.Rows.length c1], 4⟩, ⟨some ⟨b1, 0, none⟩, 45, [.int .i64 aQ.Qubits, .int .i64 aQ.Phase, .slice B2 aQ.Terms.length c2, .slice B3 aQ.Out.Rows.length c3], 4⟩, ⟨B4, 95, (r_3.Terms.flatMap enc_Term), c4 * 2⟩, ⟨B5, 3, (r_3.Out.Rows.flatMap encI), c5 * 1⟩, ⟨B6, 95, (r_4.Terms.flatMap enc_Term), c6 * 2⟩, ⟨B7, 3, (r_4.Out.Rows.flatMap encI), c7 * 1⟩, ⟨B8, 95, (r_7.Terms.flatMap enc_Term), c8 * 2⟩, ⟨B9, 3, (r_7.Out.Rows.flatMap encI), c9 * 1⟩, ⟨some ⟨b2, 0, none⟩, 50, [.int .i64 r_7.Qubits, .int .i64 r_7.Phase, .slice B8 r_7.Terms.length c8, .slice B9 r_7.Out.Rows.length c9], 4⟩, ⟨B10, 95, (r_8.Terms.flatMap enc_Term), c10 * 2⟩, ⟨B11, 3, (r_8.Out.Rows.flatMap encI), c11 * 1⟩, ⟨some ⟨b3, 0, none⟩, 50, [.int .i64 r_8.Qubits, .int .i64 r_8.Phase, .slice B10 r_8.Terms.length c10, .slice B11 r_8.Out.Rows.length c11], 4⟩] [⟨B, (aP.Terms.flatMap enc_Term)⟩, ⟨B1, (aP.Out.Rows.flatMap encI)⟩, ⟨B2, (aQ.Terms.flatMap enc_Term)⟩, ⟨B3, (aQ.Out.Rows.flatMap encI)⟩] := hS18
            refine sq 37 rfl rfl (Y_move (v := .tuple #[.int .i64 r_9, .bool r_10]) rfl rfl) ?_
            refine sq 42 rfl rfl (Y_extract (v := .int .i64 r_9) rfl rfl rfl) ?_
            refine sq 43 rfl rfl (Y_extract (v := .bool r_10) rfl rfl rfl) ?_
            refine sq 12 rfl rfl (Y_assign (v := .int .i64 r_9) rfl rfl) ?_
            refine sq 13 rfl rfl (Y_assign (v := .bool r_10) rfl rfl) ?_
            refine rw_nil ?_
            refine cw_seq ?_
            refine cw_seq ?_
            refine cw_region ?_
            refine sq 44 rfl rfl (Y_move (v := .int .i64 r_9) rfl rfl) ?_
            refine sq 45 rfl rfl (Y_move (v := .int .i64 r_5) rfl rfl) ?_
            refine sq 46 rfl rfl (Y_ne (k := .i64) (a := r_9) (b := r_5) rfl rfl rfl) ?_
            refine sq 47 rfl rfl (Y_move (v := .bool (r_9 != r_5)) rfl rfl) ?_
            refine sgq 48 (B := (!(r_9 != r_5))) (v := .bool r_10) rfl rfl (wt_f (gd_of (t := 47) (by kernel_rfl) rfl)) (fun hg => (Y_move (v := .bool r_10) rfl rfl)) ?_
            refine sgq 49 (B := (!(r_9 != r_5))) (v := .bool r_6) rfl rfl (wt_f (gd_of (t := 47) (by kernel_rfl) rfl)) (fun hg1 => (Y_move (v := .bool r_6) rfl rfl)) ?_
            refine sgq 50 (B := (!(r_9 != r_5))) (v := .bool (!(r_10 == r_6))) rfl rfl (wt_f (gd_of (t := 47) (by kernel_rfl) rfl)) (fun hg2 => (Y_bne (p := r_10) (q := r_6) k_und_4 rfl (gv_of (B := (!(r_9 != r_5))) (v := .bool r_10) hg2) (gv_of (B := (!(r_9 != r_5))) (v := .bool r_6) hg2))) ?_
            refine sq 51 rfl rfl (Y_or (b := (r_9 != r_5)) (z := (!(r_10 == r_6))) rfl rfl rfl rfl) ?_
            refine rw_nil ?_
            refine cw_cond (b := ((r_9 != r_5) || (!(r_10 == r_6)))) rfl (fun hb2 => ?_) (fun hb2 => ?_)
            · skip
              have hF5 := ct hF4 hb2
              refine cw_seq ?_
              refine cw_region ?_
              refine sq 6 rfl rfl (Y_assign (v := .bool false) rfl rfl) ?_
              refine rw_nil ?_
              refine cw_ret ?_
              obtain rfl := some_inj hF5
              exact ret1 Try.results6 (v1 := .bool false) (resAt_tmp rfl) ⟨rfl, (ST.subR (R' := []) (hS18.sel [] rfl rfl) (fun _ h => by cases h))⟩
            · skip
              have hF6 := cf' hF4 hb2
              refine cw_skip ?_
              refine cw_seq ?_
              refine cw_seq ?_
              obtain ⟨r_11, hc8, hF6⟩ := bind_inv hF6
              obtain ⟨r_12, hc9, hF6⟩ := bind_inv hF6
              refine ra_start (ST.sel hS18 [0, 1, 2, 3, 4, 5, 6, 7, 8, 9, 10, 11] rfl rfl).fn (by kernel_rfl) ?_
              have hS21 := hS18.drew
              refine ra_q 0 52 (v := .agg #[.int .i64 r_7.Qubits, .int .i64 r_7.Phase, .slice B8 r_7.Terms.length c8, .slice B9 r_7.Out.Rows.length c9]) rfl rfl rfl (by kernel_rfl) (by kernel_rfl) (by kernel_rfl) (ST.sel hS21 [0, 1, 2, 3, 4, 5, 6, 7, 8, 9, 10, 11] rfl rfl) (fun w' hw' => (Y_loadA (B := some ⟨b2, 0, none⟩) (i := 0) (cs := [.int .i64 r_7.Qubits, .int .i64 r_7.Phase, .slice B8 r_7.Terms.length c8, .slice B9 r_7.Out.Rows.length c9]) (vs := [.int .i64 r_7.Qubits, .int .i64 r_7.Phase, .slice B8 r_7.Terms.length c8, .slice B9 r_7.Out.Rows.length c9]) k_ag_50 k_sz_50_4 rfl rfl (ST.cf hw' (i := 8) rfl) rfl rfl)) ?_
              refine ra_q 1 53 (v := .agg #[.int .i64 aP.Qubits, .int .i64 aP.Phase, .slice B aP.Terms.length c, .slice B1 aP.Out.Rows.length c1]) rfl rfl rfl (by kernel_rfl) (by kernel_rfl) (by kernel_rfl) (ST.sel hS21 [0, 1, 2, 3, 4, 5, 6, 7, 8, 9, 10, 11] rfl rfl) (fun w' hw' => (Y_loadA (B := some ⟨b, 0, none⟩) (i := 0) (cs := [.int .i64 aP.Qubits, .int .i64 aP.Phase, .slice B aP.Terms.length c, .slice B1 aP.Out.Rows.length c1]) (vs := [.int .i64 aP.Qubits, .int .i64 aP.Phase, .slice B aP.Terms.length c, .slice B1 aP.Out.Rows.length c1]) k_ag_45 k_sz_45_4 rfl rfl (ST.cf hw' (i := 0) rfl) rfl rfl)) ?_
              refine ra_all (rs := [2]) (by kernel_rfl) rfl ?_
              refine ra_c 54 (i := 2) rfl rfl rfl (Yc_func (g := 18) (vs := [.agg #[.int .i64 aP.Qubits, .int .i64 aP.Phase, .slice B aP.Terms.length c, .slice B1 aP.Out.Rows.length c1]]) k_call_18 rfl (mc rfl mn) (c_laws_toPhasePoly aP B c aP.Terms.length B1 c1 aP.Out.Rows.length _ rfl rfl (hS21.inn0 [(true, 0), (true, 1)] rfl) hc8)) ?_ ?_
              · rintro _ w_14 ⟨B12, c12, B13, c13, rfl, hd8⟩
                have hS22 := hS21.out0 hd8
                have hS22 : ST w0 [] _ [⟨some ⟨b, 0, none⟩, 45, [.int .i64 aP.Qubits, .int .i64 aP.Phase, .slice B aP.Terms.length c, .slice B1 aP.Out.Rows.length c1], 4⟩, ⟨some ⟨b1, 0, none⟩, 45, [.int .i64 aQ.Qubits, .int .i64 aQ.Phase, .slice B2 aQ.Terms.length c2, .slice B3 aQ.Out.Rows.length c3], 4⟩, ⟨B4, 95, (r_3.Terms.flatMap enc_Term), c4 * 2⟩, ⟨B5, 3, (r_3.Out.Rows.flatMap encI), c5 * 1⟩, ⟨B6, 95, (r_4.Terms.flatMap enc_Term), c6 * 2⟩, ⟨B7, 3, (r_4.Out.Rows.flatMap encI), c7 * 1⟩, ⟨B8, 95, (r_7.Terms.flatMap enc_Term), c8 * 2⟩, ⟨B9, 3, (r_7.Out.Rows.flatMap encI), c9 * 1⟩, ⟨some ⟨b2, 0, none⟩, 50, [.int .i64 r_7.Qubits, .int .i64 r_7.Phase, .slice B8 r_7.Terms.length c8, .slice B9 r_7.Out.Rows.length c9], 4⟩, ⟨B10, 95, (r_8.Terms.flatMap enc_Term), c10 * 2⟩, ⟨B11, 3, (r_8.Out.Rows.flatMap encI), c11 * 1⟩, ⟨some ⟨b3, 0, none⟩, 50, [.int .i64 r_8.Qubits, .int .i64 r_8.Phase, .slice B10 r_8.Terms.length c10, .slice B11 r_8.Out.Rows.length c11], 4⟩, ⟨B12, 95, (r_11.Terms.flatMap enc_Term), c12 * 2⟩, ⟨B13, 3, (r_11.Out.Rows.flatMap encI), c13 * 1⟩] [⟨B, (aP.Terms.flatMap enc_Term)⟩, ⟨B1, (aP.Out.Rows.flatMap encI)⟩, ⟨B2, (aQ.Terms.flatMap enc_Term)⟩, ⟨B3, (aQ.Out.Rows.flatMap encI)⟩] := hS22
                refine ⟨(ST.sel hS22 [0, 1, 2, 3, 4, 5, 6, 7, 8, 9, 10, 11] rfl rfl), ?_⟩
                refine ra_all (rs := [3]) (by kernel_rfl) rfl ?_
                refine ra_c 55 (i := 3) rfl rfl rfl (Yc_func (g := 20) (vs := [.agg #[.int .i64 r_7.Qubits, .int .i64 r_7.Phase, .slice B8 r_7.Terms.length c8, .slice B9 r_7.Out.Rows.length c9], .agg #[.int .i64 r_11.Qubits, .int .i64 r_11.Phase, .slice B12 r_11.Terms.length c12, .slice B13 r_11.Out.Rows.length c13]]) k_call_20 rfl (mc rfl (mc rfl mn)) (c_laws_eqPhasePoly r_7 r_11 B8 c8 r_7.Terms.length B9 c9 r_7.Out.Rows.length B12 c12 r_11.Terms.length B13 c13 r_11.Out.Rows.length _ rfl rfl rfl rfl (hS22.inn0 [(false, 6), (false, 7), (false, 12), (false, 13)] rfl) hc9)) ?_ ?_
                · rintro _ w_15 ⟨rfl, hd9⟩
                  have hS23 := hS22.out00 hd9
                  have hS23 : ST w0 [] _ [⟨some ⟨b, 0, none⟩, 45, [.int .i64 aP.Qubits, .int .i64 aP.Phase, .slice B aP.Terms.length c, .slice B1 aP.Out.Rows.length c1], 4⟩, ⟨some ⟨b1, 0, none⟩, 45, [.int .i64 aQ.Qubits, .int .i64 aQ.Phase, .slice B2 aQ.Terms.length c2, .slice B3 aQ.Out.Rows.length c3], 4⟩, ⟨B4, 95, (r_3.Terms.flatMap enc_Term), c4 * 2⟩, ⟨B5, 3, (r_3.Out.Rows.flatMap encI), c5 * 1⟩, ⟨B6, 95, (r_4.Terms.flatMap enc_Term), c6 * 2⟩, ⟨B7, 3, (r_4.Out.Rows.flatMap encI), c7 * 1⟩, ⟨B8, 95, (r_7.Terms.flatMap enc_Term), c8 * 2⟩, ⟨B9, 3, (r_7.Out.Rows.flatMap encI), c9 * 1⟩, ⟨some ⟨b2, 0, none⟩, 50, [.int .i64 r_7.Qubits, .int .i64 r_7.Phase, .slice B8 r_7.Terms.length c8, .slice B9 r_7.Out.Rows.length c9], 4⟩, ⟨B10, 95, (r_8.Terms.flatMap enc_Term), c10 * 2⟩, ⟨B11, 3, (r_8.Out.Rows.flatMap encI), c11 * 1⟩, ⟨some ⟨b3, 0, none⟩, 50, [.int .i64 r_8.Qubits, .int .i64 r_8.Phase, .slice B10 r_8.Terms.length c10, .slice B11 r_8.Out.Rows.length c11], 4⟩, ⟨B12, 95, (r_11.Terms.flatMap enc_Term), c12 * 2⟩, ⟨B13, 3, (r_11.Out.Rows.flatMap encI), c13 * 1⟩] [⟨B, (aP.Terms.flatMap enc_Term)⟩, ⟨B1, (aP.Out.Rows.flatMap encI)⟩, ⟨B2, (aQ.Terms.flatMap enc_Term)⟩, ⟨B3, (aQ.Out.Rows.flatMap encI)⟩] := hS23
                  refine ⟨(ST.sel hS23 [0, 1, 2, 3, 4, 5, 6, 7, 8, 9, 10, 11] rfl rfl), ?_⟩
                  refine ra_q 4 56 (v := .bool (!r_12)) rfl rfl rfl (by kernel_rfl) (by kernel_rfl) (by kernel_rfl) (ST.sel hS23 [0, 1, 2, 3, 4, 5, 6, 7, 8, 9, 10, 11] rfl rfl) (fun w' hw' => (Y_not (p := r_12) rfl rfl)) ?_
                  refine ra_done (by kernel_rfl) ?_
                  refine cw_cond (b := (!r_12)) rfl (fun hb3 => ?_) (fun hb3 => ?_)
                  · skip
                    have hF7 := ct hF6 hb3
                    refine cw_seq ?_
                    refine cw_region ?_
                    refine sq 6 rfl rfl (Y_assign (v := .bool false) rfl rfl) ?_
                    refine rw_nil ?_
                    refine cw_ret ?_
                    obtain rfl := some_inj hF7
                    exact ret1 Try.results6 (v1 := .bool false) (resAt_tmp rfl) ⟨rfl, (ST.subR (R' := []) (hS23.sel [] rfl rfl) (fun _ h => by cases h))⟩
                  · skip
                    have hF8 := cf' hF6 hb3
                    refine cw_skip ?_
                    refine cw_seq ?_
                    refine cw_seq ?_
                    obtain ⟨r_13, hc10, hF8⟩ := bind_inv hF8
                    obtain ⟨r_14, hc11, hF8⟩ := bind_inv hF8
                    refine ra_start (ST.sel hS23 [0, 1, 2, 3, 4, 5, 6, 7, 8, 9, 10, 11, 12, 13] rfl rfl).fn (by kernel_rfl) ?_
                    have hS26 := hS23.drew
                    refine ra_q 0 57 (v := .agg #[.int .i64 r_8.Qubits, .int .i64 r_8.Phase, .slice B10 r_8.Terms.length c10, .slice B11 r_8.Out.Rows.length c11]) rfl rfl rfl (by kernel_rfl) (by kernel_rfl) (by kernel_rfl) (ST.sel hS26 [0, 1, 2, 3, 4, 5, 6, 7, 8, 9, 10, 11, 12, 13] rfl rfl) (fun w' hw' => (Y_loadA (B := some ⟨b3, 0, none⟩) (i := 0) (cs := [.int .i64 r_8.Qubits, .int .i64 r_8.Phase, .slice B10 r_8.Terms.length c10, .slice B11 r_8.Out.Rows.length c11]) (vs := [.int .i64 r_8.Qubits, .int .i64 r_8.Phase, .slice B10 r_8.Terms.length c10, .slice B11 r_8.Out.Rows.length c11]) k_ag_50 k_sz_50_4 rfl rfl (ST.cf hw' (i := 11) rfl) rfl rfl)) ?_
                    refine ra_q 1 58 (v := .agg #[.int .i64 aQ.Qubits, .int .i64 aQ.Phase, .slice B2 aQ.Terms.length c2, .slice B3 aQ.Out.Rows.length c3]) rfl rfl rfl (by kernel_rfl) (by kernel_rfl) (by kernel_rfl) (ST.sel hS26 [0, 1, 2, 3, 4, 5, 6, 7, 8, 9, 10, 11, 12, 13] rfl rfl) (fun w' hw' => (Y_loadA (B := some ⟨b1, 0, none⟩) (i := 0) (cs := [.int .i64 aQ.Qubits, .int .i64 aQ.Phase, .slice B2 aQ.Terms.length c2, .slice B3 aQ.Out.Rows.length c3]) (vs := [.int .i64 aQ.Qubits, .int .i64 aQ.Phase, .slice B2 aQ.Terms.length c2, .slice B3 aQ.Out.Rows.length c3]) k_ag_45 k_sz_45_4 rfl rfl (ST.cf hw' (i := 1) rfl) rfl rfl)) ?_
                    refine ra_all (rs := [2]) (by kernel_rfl) rfl ?_
                    refine ra_c 59 (i := 2) rfl rfl rfl (Yc_func (g := 18) (vs := [.agg #[.int .i64 aQ.Qubits, .int .i64 aQ.Phase, .slice B2 aQ.Terms.length c2, .slice B3 aQ.Out.Rows.length c3]]) k_call_18 rfl (mc rfl mn) (c_laws_toPhasePoly aQ B2 c2 aQ.Terms.length B3 c3 aQ.Out.Rows.length _ rfl rfl (hS26.inn0 [(true, 2), (true, 3)] rfl) hc10)) ?_ ?_
                    · rintro _ w_16 ⟨B14, c14, B15, c15, rfl, hd10⟩
                      have hS27 := hS26.out0 hd10
                      have hS27 : ST w0 [] _ [⟨some ⟨b, 0, none⟩, 45, [.int .i64 aP.Qubits, .int .i64 aP.Phase, .slice B aP.Terms.length c, .slice B1 aP.Out.Rows.length c1], 4⟩, ⟨some ⟨b1, 0, none⟩, 45, [.int .i64 aQ.Qubits, .int .i64 aQ.Phase, .slice B2 aQ.Terms.length c2, .slice B3 aQ.Out.Rows.length c3], 4⟩, ⟨B4, 95, (r_3.Terms.flatMap enc_Term), c4 * 2⟩, ⟨B5, 3, (r_3.Out.Rows.flatMap encI), c5 * 1⟩, ⟨B6, 95, (r_4.Terms.flatMap enc_Term), c6 * 2⟩, ⟨B7, 3, (r_4.Out.Rows.flatMap encI), c7 * 1⟩, ⟨B8, 95, (r_7.Terms.flatMap enc_Term), c8 * 2⟩, ⟨B9, 3, (r_7.Out.Rows.flatMap encI), c9 * 1⟩, ⟨some ⟨b2, 0, none⟩, 50, [.int .i64 r_7.Qubits, .int .i64 r_7.Phase, .slice B8 r_7.Terms.length c8, .slice B9 r_7.Out.Rows.length c9], 4⟩, ⟨B10, 95, (r_8.Terms.flatMap enc_Term), c10 * 2⟩, ⟨B11, 3, (r_8.Out.Rows.flatMap encI), c11 * 1⟩, ⟨some ⟨b3, 0, none⟩, 50, [.int .i64 r_8.Qubits, .int .i64 r_8.Phase, .slice B10 r_8.Terms.length c10, .slice B11 r_8.Out.Rows.length c11], 4⟩, ⟨B12, 95, (r_11.Terms.flatMap enc_Term), c12 * 2⟩, ⟨B13, 3, (r_11.Out.Rows.flatMap encI), c13 * 1⟩, ⟨B14, 95, (r_13.Terms.flatMap enc_Term), c14 * 2⟩, ⟨B15, 3, (r_13.Out.Rows.flatMap encI), c15 * 1⟩] [⟨B, (aP.Terms.flatMap enc_Term)⟩, ⟨B1, (aP.Out.Rows.flatMap encI)⟩, ⟨B2, (aQ.Terms.flatMap enc_Term)⟩, ⟨B3, (aQ.Out.Rows.flatMap encI)⟩] := hS27
                      refine ⟨(ST.sel hS27 [0, 1, 2, 3, 4, 5, 6, 7, 8, 9, 10, 11, 12, 13] rfl rfl), ?_⟩
                      refine ra_all (rs := [3]) (by kernel_rfl) rfl ?_
                      refine ra_c 60 (i := 3) rfl rfl rfl (Yc_func (g := 20) (vs := [.agg #[.int .i64 r_8.Qubits, .int .i64 r_8.Phase, .slice B10 r_8.Terms.length c10, .slice B11 r_8.Out.Rows.length c11], .agg #[.int .i64 r_13.Qubits, .int .i64 r_13.Phase, .slice B14 r_13.Terms.length c14, .slice B15 r_13.Out.Rows.length c15]]) k_call_20 rfl (mc rfl (mc rfl mn)) (c_laws_eqPhasePoly r_8 r_13 B10 c10 r_8.Terms.length B11 c11 r_8.Out.Rows.length B14 c14 r_13.Terms.length B15 c15 r_13.Out.Rows.length _ rfl rfl rfl rfl (hS27.inn0 [(false, 9), (false, 10), (false, 14), (false, 15)] rfl) hc11)) ?_ ?_
                      · rintro _ w_17 ⟨rfl, hd11⟩
                        have hS28 := hS27.out00 hd11
                        have hS28 : ST w0 [] _ [⟨some ⟨b, 0, none⟩, 45, [.int .i64 aP.Qubits, .int .i64 aP.Phase, .slice B aP.Terms.length c, .slice B1 aP.Out.Rows.length c1], 4⟩, ⟨some ⟨b1, 0, none⟩, 45, [.int .i64 aQ.Qubits, .int .i64 aQ.Phase, .slice B2 aQ.Terms.length c2, .slice B3 aQ.Out.Rows.length c3], 4⟩, ⟨B4, 95, (r_3.Terms.flatMap enc_Term), c4 * 2⟩, ⟨B5, 3, (r_3.Out.Rows.flatMap encI), c5 * 1⟩, ⟨B6, 95, (r_4.Terms.flatMap enc_Term), c6 * 2⟩, ⟨B7, 3, (r_4.Out.Rows.flatMap encI), c7 * 1⟩, ⟨B8, 95, (r_7.Terms.flatMap enc_Term), c8 * 2⟩, ⟨B9, 3, (r_7.Out.Rows.flatMap encI), c9 * 1⟩, ⟨some ⟨b2, 0, none⟩, 50, [.int .i64 r_7.Qubits, .int .i64 r_7.Phase, .slice B8 r_7.Terms.length c8, .slice B9 r_7.Out.Rows.length c9], 4⟩, ⟨B10, 95, (r_8.Terms.flatMap enc_Term), c10 * 2⟩, ⟨B11, 3, (r_8.Out.Rows.flatMap encI), c11 * 1⟩, ⟨some ⟨b3, 0, none⟩, 50, [.int .i64 r_8.Qubits, .int .i64 r_8.Phase, .slice B10 r_8.Terms.length c10, .slice B11 r_8.Out.Rows.length c11], 4⟩, ⟨B12, 95, (r_11.Terms.flatMap enc_Term), c12 * 2⟩, ⟨B13, 3, (r_11.Out.Rows.flatMap encI), c13 * 1⟩, ⟨B14, 95, (r_13.Terms.flatMap enc_Term), c14 * 2⟩, ⟨B15, 3, (r_13.Out.Rows.flatMap encI), c15 * 1⟩] [⟨B, (aP.Terms.flatMap enc_Term)⟩, ⟨B1, (aP.Out.Rows.flatMap encI)⟩, ⟨B2, (aQ.Terms.flatMap enc_Term)⟩, ⟨B3, (aQ.Out.Rows.flatMap encI)⟩] := hS28
                        refine ⟨(ST.sel hS28 [0, 1, 2, 3, 4, 5, 6, 7, 8, 9, 10, 11, 12, 13] rfl rfl), ?_⟩
                        refine ra_q 4 61 (v := .bool (!r_14)) rfl rfl rfl (by kernel_rfl) (by kernel_rfl) (by kernel_rfl) (ST.sel hS28 [0, 1, 2, 3, 4, 5, 6, 7, 8, 9, 10, 11, 12, 13] rfl rfl) (fun w' hw' => (Y_not (p := r_14) rfl rfl)) ?_
                        refine ra_done (by kernel_rfl) ?_
                        refine cw_cond (b := (!r_14)) rfl (fun hb4 => ?_) (fun hb4 => ?_)
                        · skip
                          have hF9 := ct hF8 hb4
                          refine cw_seq ?_
                          refine cw_region ?_
                          refine sq 6 rfl rfl (Y_assign (v := .bool false) rfl rfl) ?_
                          refine rw_nil ?_
                          refine cw_ret ?_
                          obtain rfl := some_inj hF9
                          exact ret1 Try.results6 (v1 := .bool false) (resAt_tmp rfl) ⟨rfl, (ST.subR (R' := []) (hS28.sel [] rfl rfl) (fun _ h => by cases h))⟩
                        · skip
                          have hF10 := cf' hF8 hb4
                          refine cw_skip ?_
                          refine cw_seq ?_
                          refine cw_region ?_
                          refine sq 6 rfl rfl (Y_assign (v := .bool true) rfl rfl) ?_
                          refine rw_nil ?_
                          refine cw_ret ?_
                          obtain rfl := some_inj hF10
                          exact ret1 Try.results6 (v1 := .bool true) (resAt_tmp rfl) ⟨rfl, (ST.subR (R' := []) (hS28.sel [] rfl rfl) (fun _ h => by cases h))⟩
                      exact allR_nil
                    exact allR_nil
                exact allR_nil
              exact allR_nil
          exact allR_nil
        exact allR_nil
      exact allR_nil
end Go.VK
