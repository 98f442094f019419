/- Walks: each Go function returns what its Lean function says. By program. -/
import Derived.Test.YtchihdcajdocgaaLPhaseAlgebraFa
import Derived.Test.YtchihdcajdocgaaLPhaseAlgebraW1
set_option linter.unusedVariables false
set_option maxRecDepth 100000
set_option maxHeartbeats 1000000
namespace Go.VK
open Go.RowKit
open Go.Proofs
attribute [local irreducible] CW RW RA CV Y Yw Yc Ys RetOf
attribute [local irreducible] F_spec_l1Cur_next F_spec_l1Cur_pick F_spec_l1Cur_one F_spec_l13List F_spec_l12Identity F_spec_l1Own F_spec_l12CX F_spec_l1Cur_linear F_spec_l1Cur_phasePoly F_spec_l1Cur_among F_spec_l1Cur_anyLinear F_spec_l1Cur_anyPhasePoly F_spec_DrawComposePhase F_impl_within F_impl_areTerms F_slices_IndexFunc_int_int F_slices_ContainsFunc_int_int F_impl_IsValidLinear_1 F_slices_Clone_int_int F_impl_rankOf_1 F_slices_Delete_int_int F_impl_rankOf F_impl_IsValidLinear F_impl_IsValidPhasePoly F_impl_coefficients_add F_impl_Linear_through F_impl_ComposeLinear F_impl_coefficients_terms F_impl_ComposePhase F_spec_l1In F_spec_l1All F_spec_l12Rank F_spec_l12Valid F_spec_l13Valid F_spec_l13By F_spec_l1Set F_spec_l13Through F_spec_l12Then F_spec_ComposePhase F_laws_qInts F_laws_qTerms F_laws_qPoly F_impl_identityLinear F_impl_eliminated_1 F_impl_eliminated F_impl_Linear_inverted F_impl_InvertPhase F_impl_IdentityLinear F_math_bits_OnesCount64 F_math_bits_OnesCount F_impl_parityOf F_impl_PhaseAt F_laws_qWeight F_laws_FnPhaseAlgebra
theorem c_impl_areTerms (n : Int) (terms : List TTerm) (B : Option Addr) (c n1 : Nat) (w0 : World) (hn : terms.length = n1) (hS : ST w0 [] w0 [] [⟨B, (terms.flatMap enc_Term)⟩]) {r_ : Bool} (hF : F_impl_areTerms n terms = some r_) :
    CV Try.prog 84 #[.int .i64 n, .slice B n1 c] w0 (fun v w' => v = .bool r_ ∧ ST w0 [] w' [] []) := by
  subst hn
  unfold F_impl_areTerms at hF
  refine cv_of_cw 43 Try.func84 rfl Try.ntmps84 rfl ?_
  refine cw_seq ?_
  refine cw_region ?_
  refine sq 4 rfl rfl (Y_assign (v := .bool false) rfl rfl) ?_
  refine rw_nil ?_
  refine cw_seq ?_
  refine cw_seq ?_
  refine cw_region ?_
  refine sq 7 rfl rfl (Y_move (v := .slice B terms.length c) rfl rfl) ?_
  refine sq 8 rfl rfl (Y_len (B := B) (m := terms.length) (c := c) k_sl_47_104 rfl rfl) ?_
  refine sq 9 rfl rfl (Y_move (v := .int .i64 0) rfl rfl) ?_
  refine rw_nil ?_
  obtain ⟨hN, hF⟩ := chk_inv hF
  obtain ⟨z, hz, hF1⟩ := bind_inv hF
  refine cw_block ?_
  refine cw_loop (fun k f w => ∃ (i : Nat), FF f [(0, .int .i64 n), (1, .slice B terms.length c), (7, .slice B terms.length c), (8, .int .i64 (terms.length : Int)), (9, .int .i64 (i : Int))] ∧ ST w0 [] w [] [⟨B, (terms.flatMap enc_Term)⟩] ∧ i + k = terms.length ∧ forX (F_impl_areTerms_l1 terms n) k i () = some z) terms.length ⟨0, (FF.cons rfl (FF.cons rfl (FF.cons rfl (FF.cons rfl (FF.cons rfl FF.nil))))), (hS.sel [] rfl rfl), Nat.zero_add _, hz⟩ ?_
  rintro k_ f w ⟨i, hf, hS1, hik, hL⟩
  refine cw_seq ?_
  refine cw_region ?_
  refine sq 10 rfl rfl (Y_lt (k := .i64) (a := (i : Int)) (b := (terms.length : Int)) rfl (hf.get 9 4 rfl) (hf.get 8 3 rfl)) ?_
  refine rw_nil ?_
  refine cw_seq ?_
  refine cw_cond (b := (decide ((i : Int) < (terms.length : Int)))) rfl (fun hlt => ?_) (fun hlt => ?_)
  · skip
    have hlt1 : i < terms.length := by have h := of_decide_eq_true hlt; omega
    obtain ⟨k_1, rfl⟩ : ∃ k2, k_ = k2 + 1 := ⟨k_ - 1, by omega⟩
    obtain ⟨y, hb, hL1⟩ := forX_go hL
    unfold F_impl_areTerms_l1 at hb
    refine cw_skip ?_
    refine cw_seq ?_
    refine cw_block ?_
    refine cw_seq ?_
    refine cw_region ?_
    refine sq 11 rfl rfl (Y_move (v := .int .i64 (i : Int)) rfl (hf.get 9 4 rfl)) ?_
    obtain ⟨x, hx, hb⟩ := bind_inv hb
    refine sq 12 rfl rfl (Y_index (B := B) (m := terms.length) (c := c) (k := .i64) (i := (i : Int)) k_sl_47_104 k_sz_104_2 rfl (hf.get 7 2 rfl) (hf.get 9 4 rfl) (gi_isSome enc_Term_len rfl (hS1.rf (i := 0) rfl) hx) (getI_nn hx) (getI_ltI hx rfl)) ?_
    refine sq 13 rfl rfl (Y_loadA (B := B) (i := (i : Int).toNat * 2) (cs := (terms.flatMap enc_Term)) (vs := [.int .i64 x.Mask, .int .i64 x.Coef]) k_ag_104 k_sz_104_2 rfl rfl (hS1.rf (i := 0) rfl) (enc_Term_len x) (gi_seg enc_Term_len hx)) ?_
    refine ss 6 rfl rfl (Ys_alloc (T := 104) (cs := [.int .i64 0, .int .i64 0]) (m := 2) hS1 k_zero_104 rfl rfl rfl) ?_
    rintro _ w_ ⟨b, rfl, hS2⟩
    refine sq 5 rfl rfl (Y_assign (v := .int .i64 (i : Int)) rfl rfl) ?_
    refine ss0 rfl rfl (Ys_store (i := 0) (s := 2) (B := some ⟨b, 0, none⟩) (T' := 104) (v := .agg #[.int .i64 x.Mask, .int .i64 x.Coef]) (vs := [.int .i64 x.Mask, .int .i64 x.Coef]) (k := 0) (cs' := [.int .i64 x.Mask, .int .i64 x.Coef]) hS2 k_sz_104_2 rfl rfl rfl rfl rfl rfl rfl (Nat.le_of_ble_eq_true rfl) rfl rfl) ?_
    rintro _ w_1 ⟨rfl, hS3⟩
    refine rw_nil ?_
    refine cw_seq ?_
    obtain ⟨hsh, hb⟩ := chk_inv hb
    obtain ⟨r_1, hc, hb⟩ := bind_inv hb
    obtain ⟨r_2, hc1, hb⟩ := bind_inv hb
    obtain ⟨x1, hx1, hb⟩ := bind_inv hb
    refine ra_start (ST.sel hS3 [0] rfl rfl).fn (by kernel_rfl) ?_
    have hS6 := hS3.drew
    refine ra_q 0 14 (v := pt (some ⟨b, 0, none⟩) 0) rfl rfl rfl (by kernel_rfl) (by kernel_rfl) (by kernel_rfl) (ST.sel hS6 [0] rfl rfl) (fun w' hw' => (Y_fieldAddr (B := some ⟨b, 0, none⟩) (i := 0) (s := 0) k_fd_104_0_0_3 k_sz_3_1 rfl rfl)) ?_
    refine ra_q 1 15 (v := .int .i64 x.Mask) rfl rfl rfl (by kernel_rfl) (by kernel_rfl) (by kernel_rfl) (ST.sel hS6 [0] rfl rfl) (fun w' hw' => (Y_load1 (B := some ⟨b, 0, none⟩) (i := 0) (cs := [.int .i64 x.Mask, .int .i64 x.Coef]) (v := .int .i64 x.Mask) k_sc_3 rfl rfl (ST.cf hw' (i := 0) rfl) rfl)) ?_
    refine ra_q 2 16 (v := .int .i64 n) rfl rfl rfl (by kernel_rfl) (by kernel_rfl) (by kernel_rfl) (ST.sel hS6 [0] rfl rfl) (fun w' hw' => (Y_move (v := .int .i64 n) rfl (hf.get 0 0 rfl))) ?_
    refine ra_q 3 17 (v := .int .i64 (shlK .i64 1 n)) rfl rfl rfl (by kernel_rfl) (by kernel_rfl) (by kernel_rfl) (ST.sel hS6 [0] rfl rfl) (fun w' hw' => (Y_shl (k := .i64) (a := 1) (k' := .i64) (b := n) rfl rfl rfl hsh)) ?_
    refine ra_q 4 18 (v := .int .i64 (IntKind.i64.wrap ((shlK .i64 1 n) - 1))) rfl rfl rfl (by kernel_rfl) (by kernel_rfl) (by kernel_rfl) (ST.sel hS6 [0] rfl rfl) (fun w' hw' => (Y_sub (k := .i64) (a := (shlK .i64 1 n)) (b := 1) rfl rfl rfl)) ?_
    refine ra_all (rs := [5]) (by kernel_rfl) rfl ?_
    refine ra_c 19 (i := 5) rfl rfl rfl (Yc_func (g := 82) (vs := [.int .i64 x.Mask, .int .i64 1, .int .i64 (IntKind.i64.wrap ((shlK .i64 1 n) - 1))]) k_call_82 rfl (mc rfl (mc rfl (mc rfl mn))) (c_impl_within x.Mask 1 (IntKind.i64.wrap ((shlK .i64 1 n) - 1)) _  (hS6.inn0 [] rfl) hc)) ?_ ?_
    · rintro _ w_2 ⟨rfl, hd⟩
      have hS7 := hS6.out00 hd
      refine ⟨(ST.sel hS7 [0] rfl rfl), ?_⟩
      refine ra_q 6 20 (v := .bool (!r_1)) rfl rfl rfl (by kernel_rfl) (by kernel_rfl) (by kernel_rfl) (ST.sel hS7 [0] rfl rfl) (fun w' hw' => (Y_not (p := r_1) rfl rfl)) ?_
      refine ra_q 7 21 (v := .bool (!r_1)) rfl rfl rfl (by kernel_rfl) (by kernel_rfl) (by kernel_rfl) (ST.sel hS7 [0] rfl rfl) (fun w' hw' => (Y_move (v := .bool (!r_1)) rfl rfl)) ?_
      refine ra_gq 8 22 (B := (!(!r_1))) (v := pt (some ⟨b, 0, none⟩) 1) rfl rfl rfl (wt_f (gd_of (t := 21) (by kernel_rfl) rfl)) (by kernel_rfl) (by kernel_rfl) (by kernel_rfl) (ST.sel hS7 [0] rfl rfl) (fun hg w' hw' => (Y_fieldAddr (B := some ⟨b, 0, none⟩) (i := 0) (s := 0) k_fd_104_1_1_3 k_sz_3_1 rfl rfl)) ?_
      refine ra_gq 9 23 (B := (!(!r_1))) (v := .int .i64 x.Coef) rfl rfl rfl (wt_f (gd_of (t := 21) (by kernel_rfl) rfl)) (by kernel_rfl) (by kernel_rfl) (by kernel_rfl) (ST.sel hS7 [0] rfl rfl) (fun hg1 w' hw' => (Y_load1 (B := some ⟨b, 0, none⟩) (i := 1) (cs := [.int .i64 x.Mask, .int .i64 x.Coef]) (v := .int .i64 x.Coef) k_sc_3 rfl (gv_of (B := (!(!r_1))) (v := pt (some ⟨b, 0, none⟩) 1) hg1) (ST.cf hw' (i := 0) rfl) rfl)) ?_
      refine ra_all (rs := [10]) (by kernel_rfl) rfl ?_
      refine ra_gc 24 (i := 10) (B := (!(!r_1))) (v := .bool r_2) (F := hS7.fn) rfl rfl rfl (wt_f (gd_of (t := 21) (by kernel_rfl) rfl)) hS7 (fun hg2 => (Yc_func (g := 82) (vs := [.int .i64 x.Coef, .int .i64 1, .int .i64 7]) k_call_82 rfl (mc (gv_of (B := (!(!r_1))) (v := .int .i64 x.Coef) hg2) (mc rfl (mc rfl mn))) (CV.mono (c_impl_within x.Coef 1 7 _  (hS7.inn0 [] rfl) (gb_inv hc1 hg2)) (by rintro _ _ ⟨rfl, h⟩; exact ⟨rfl, hS7.out00 h⟩)))) ?_ ?_
      · rintro w_3 hS8
        have hS8 : ST _ _ w_3 _ _ := hS8
        refine ⟨(ST.sel hS8 [0] rfl rfl), ?_⟩
        refine ra_gq 11 25 (B := (!(!r_1))) (v := .bool (!r_2)) rfl rfl rfl (wt_f (gd_of (t := 21) (by kernel_rfl) rfl)) (by kernel_rfl) (by kernel_rfl) (by kernel_rfl) (ST.sel hS8 [0] rfl rfl) (fun hg3 w' hw' => (Y_not (p := r_2) rfl (gv_of (B := (!(!r_1))) (v := .bool r_2) hg3))) ?_
        refine ra_q 12 26 (v := .bool ((!r_1) || (!r_2))) rfl rfl rfl (by kernel_rfl) (by kernel_rfl) (by kernel_rfl) (ST.sel hS8 [0] rfl rfl) (fun w' hw' => (Y_or (b := (!r_1)) (z := (!r_2)) rfl rfl rfl rfl)) ?_
        refine ra_q 13 27 (v := .bool ((!r_1) || (!r_2))) rfl rfl rfl (by kernel_rfl) (by kernel_rfl) (by kernel_rfl) (ST.sel hS8 [0] rfl rfl) (fun w' hw' => (Y_move (v := .bool ((!r_1) || (!r_2))) rfl rfl)) ?_
        refine ra_gq 14 28 (B := (!((!r_1) || (!r_2)))) (v := .int .i64 (i : Int)) rfl rfl rfl (wt_f (gd_of (t := 27) (by kernel_rfl) rfl)) (by kernel_rfl) (by kernel_rfl) (by kernel_rfl) (ST.sel hS8 [0] rfl rfl) (fun hg4 w' hw' => (Y_move (v := .int .i64 (i : Int)) rfl rfl)) ?_
        refine ra_gq 15 29 (B := (!((!r_1) || (!r_2)))) (v := .bool (decide (0 < (i : Int)))) rfl rfl rfl (wt_f (gd_of (t := 27) (by kernel_rfl) rfl)) (by kernel_rfl) (by kernel_rfl) (by kernel_rfl) (ST.sel hS8 [0] rfl rfl) (fun hg5 w' hw' => (Y_gt (k := .i64) (a := (i : Int)) (b := 0) rfl (gv_of (B := (!((!r_1) || (!r_2)))) (v := .int .i64 (i : Int)) hg5) rfl)) ?_
        refine ra_gq 16 30 (B := (!((!r_1) || (!r_2)))) (v := .bool (decide (0 < (i : Int)))) rfl rfl rfl (wt_f (gd_of (t := 27) (by kernel_rfl) rfl)) (by kernel_rfl) (by kernel_rfl) (by kernel_rfl) (ST.sel hS8 [0] rfl rfl) (fun hg6 w' hw' => (Y_move (v := .bool (decide (0 < (i : Int)))) rfl (gv_of (B := (!((!r_1) || (!r_2)))) (v := .bool (decide (0 < (i : Int)))) hg6))) ?_
        refine ra_gq 17 31 (B := ((!((!r_1) || (!r_2))) && (decide (0 < (i : Int))))) (v := .slice B terms.length c) rfl rfl rfl (wt_gt (gd_of (t := 30) (by kernel_rfl) rfl)) (by kernel_rfl) (by kernel_rfl) (by kernel_rfl) (ST.sel hS8 [0] rfl rfl) (fun hg7 w' hw' => (Y_move (v := .slice B terms.length c) rfl (hf.get 1 1 rfl))) ?_
        refine ra_gq 18 32 (B := ((!((!r_1) || (!r_2))) && (decide (0 < (i : Int))))) (v := .int .i64 (i : Int)) rfl rfl rfl (wt_gt (gd_of (t := 30) (by kernel_rfl) rfl)) (by kernel_rfl) (by kernel_rfl) (by kernel_rfl) (ST.sel hS8 [0] rfl rfl) (fun hg8 w' hw' => (Y_move (v := .int .i64 (i : Int)) rfl rfl)) ?_
        refine ra_gq 19 33 (B := ((!((!r_1) || (!r_2))) && (decide (0 < (i : Int))))) (v := .int .i64 (IntKind.i64.wrap ((i : Int) - 1))) rfl rfl rfl (wt_gt (gd_of (t := 30) (by kernel_rfl) rfl)) (by kernel_rfl) (by kernel_rfl) (by kernel_rfl) (ST.sel hS8 [0] rfl rfl) (fun hg9 w' hw' => (Y_sub (k := .i64) (a := (i : Int)) (b := 1) rfl (gv_of (B := ((!((!r_1) || (!r_2))) && (decide (0 < (i : Int))))) (v := .int .i64 (i : Int)) hg9) rfl)) ?_
        refine ra_gq 20 34 (B := ((!((!r_1) || (!r_2))) && (decide (0 < (i : Int))))) (v := pt B ((IntKind.i64.wrap ((i : Int) - 1)).toNat * 2)) rfl rfl rfl (wt_gt (gd_of (t := 30) (by kernel_rfl) rfl)) (by kernel_rfl) (by kernel_rfl) (by kernel_rfl) (ST.sel hS8 [0] rfl rfl) (fun hg10 w' hw' => (Y_index (B := B) (m := terms.length) (c := c) (k := .i64) (i := (IntKind.i64.wrap ((i : Int) - 1))) k_sl_47_104 k_sz_104_2 rfl (gv_of (B := ((!((!r_1) || (!r_2))) && (decide (0 < (i : Int))))) (v := .slice B terms.length c) hg10) (gv_of (B := ((!((!r_1) || (!r_2))) && (decide (0 < (i : Int))))) (v := .int .i64 (IntKind.i64.wrap ((i : Int) - 1))) hg10) (gi_isSome enc_Term_len rfl (ST.rf hw' (i := 0) rfl) (gb_inv hx1 hg10)) (getI_nn (gb_inv hx1 hg10)) (getI_ltI (gb_inv hx1 hg10) rfl))) ?_
        refine ra_gq 21 35 (B := ((!((!r_1) || (!r_2))) && (decide (0 < (i : Int))))) (v := pt B ((IntKind.i64.wrap ((i : Int) - 1)).toNat * 2 + 0)) rfl rfl rfl (wt_gt (gd_of (t := 30) (by kernel_rfl) rfl)) (by kernel_rfl) (by kernel_rfl) (by kernel_rfl) (ST.sel hS8 [0] rfl rfl) (fun hg11 w' hw' => (Y_fieldAddr (B := B) (i := (IntKind.i64.wrap ((i : Int) - 1)).toNat * 2) (s := 0) k_fd_104_0_0_3 k_sz_3_1 rfl (gv_of (B := ((!((!r_1) || (!r_2))) && (decide (0 < (i : Int))))) (v := pt B ((IntKind.i64.wrap ((i : Int) - 1)).toNat * 2)) hg11))) ?_
        refine ra_gq 22 36 (B := ((!((!r_1) || (!r_2))) && (decide (0 < (i : Int))))) (v := .int .i64 x1.Mask) rfl rfl rfl (wt_gt (gd_of (t := 30) (by kernel_rfl) rfl)) (by kernel_rfl) (by kernel_rfl) (by kernel_rfl) (ST.sel hS8 [0] rfl rfl) (fun hg12 w' hw' => (Y_load1 (B := B) (i := (IntKind.i64.wrap ((i : Int) - 1)).toNat * 2 + 0) (cs := (terms.flatMap enc_Term)) (v := .int .i64 x1.Mask) k_sc_3 rfl (gv_of (B := ((!((!r_1) || (!r_2))) && (decide (0 < (i : Int))))) (v := pt B ((IntKind.i64.wrap ((i : Int) - 1)).toNat * 2 + 0)) hg12) (ST.rf hw' (i := 0) rfl) (gi_at enc_Term_len (gb_inv hx1 hg12) rfl))) ?_
        refine ra_gq 23 37 (B := ((!((!r_1) || (!r_2))) && (decide (0 < (i : Int))))) (v := pt (some ⟨b, 0, none⟩) 0) rfl rfl rfl (wt_gt (gd_of (t := 30) (by kernel_rfl) rfl)) (by kernel_rfl) (by kernel_rfl) (by kernel_rfl) (ST.sel hS8 [0] rfl rfl) (fun hg13 w' hw' => (Y_fieldAddr (B := some ⟨b, 0, none⟩) (i := 0) (s := 0) k_fd_104_0_0_3 k_sz_3_1 rfl rfl)) ?_
        refine ra_gq 24 38 (B := ((!((!r_1) || (!r_2))) && (decide (0 < (i : Int))))) (v := .int .i64 x.Mask) rfl rfl rfl (wt_gt (gd_of (t := 30) (by kernel_rfl) rfl)) (by kernel_rfl) (by kernel_rfl) (by kernel_rfl) (ST.sel hS8 [0] rfl rfl) (fun hg14 w' hw' => (Y_load1 (B := some ⟨b, 0, none⟩) (i := 0) (cs := [.int .i64 x.Mask, .int .i64 x.Coef]) (v := .int .i64 x.Mask) k_sc_3 rfl (gv_of (B := ((!((!r_1) || (!r_2))) && (decide (0 < (i : Int))))) (v := pt (some ⟨b, 0, none⟩) 0) hg14) (ST.cf hw' (i := 0) rfl) rfl)) ?_
        refine ra_gq 25 39 (B := ((!((!r_1) || (!r_2))) && (decide (0 < (i : Int))))) (v := .bool (decide (x.Mask ≤ x1.Mask))) rfl rfl rfl (wt_gt (gd_of (t := 30) (by kernel_rfl) rfl)) (by kernel_rfl) (by kernel_rfl) (by kernel_rfl) (ST.sel hS8 [0] rfl rfl) (fun hg15 w' hw' => (Y_ge (k := .i64) (a := x1.Mask) (b := x.Mask) rfl (gv_of (B := ((!((!r_1) || (!r_2))) && (decide (0 < (i : Int))))) (v := .int .i64 x1.Mask) hg15) (gv_of (B := ((!((!r_1) || (!r_2))) && (decide (0 < (i : Int))))) (v := .int .i64 x.Mask) hg15))) ?_
        refine ra_gq 26 40 (B := (!((!r_1) || (!r_2)))) (v := .bool ((decide (0 < (i : Int))) && (decide (x.Mask ≤ x1.Mask)))) rfl rfl rfl (wt_f (gd_of (t := 27) (by kernel_rfl) rfl)) (by kernel_rfl) (by kernel_rfl) (by kernel_rfl) (ST.sel hS8 [0] rfl rfl) (fun hg16 w' hw' => (Y_and (b := (decide (0 < (i : Int)))) (z := (decide (x.Mask ≤ x1.Mask))) rfl (gv_of (B := (!((!r_1) || (!r_2)))) (v := .bool (decide (0 < (i : Int)))) hg16) (gv_and (B := (!((!r_1) || (!r_2)))) (C := (decide (0 < (i : Int)))) (v := .bool (decide (x.Mask ≤ x1.Mask))) hg16) rfl)) ?_
        refine ra_q 27 41 (v := .bool (((!r_1) || (!r_2)) || ((decide (0 < (i : Int))) && (decide (x.Mask ≤ x1.Mask))))) rfl rfl rfl (by kernel_rfl) (by kernel_rfl) (by kernel_rfl) (ST.sel hS8 [0] rfl rfl) (fun w' hw' => (Y_or (b := ((!r_1) || (!r_2))) (z := ((decide (0 < (i : Int))) && (decide (x.Mask ≤ x1.Mask)))) rfl rfl rfl rfl)) ?_
        refine ra_done (by kernel_rfl) ?_
        refine cw_cond (b := (((!r_1) || (!r_2)) || ((decide (0 < (i : Int))) && (decide (x.Mask ≤ x1.Mask))))) rfl (fun hb1 => ?_) (fun hb1 => ?_)
        · skip
          have hF2 := ct hb hb1
          refine cw_seq ?_
          refine cw_region ?_
          refine sq 4 rfl rfl (Y_assign (v := .bool false) rfl rfl) ?_
          refine rw_nil ?_
          refine cw_ret ?_
          obtain rfl := some_inj hF2
          obtain rfl := some_inj hL1
          obtain rfl := some_inj hF1
          exact ret1 Try.results84 (v1 := .bool false) (resAt_tmp rfl) ⟨rfl, (ST.subR (R' := []) (hS8.sel [] rfl rfl) (fun _ h => by cases h))⟩
        · skip
          have hF3 := cf' hb hb1
          refine cw_skip ?_
          refine cw_region ?_
          refine sq 42 rfl rfl (Y_add (k := .i64) (a := (i : Int)) (b := 1) rfl (hf.get 9 4 rfl) rfl) ?_
          refine sq 9 rfl rfl (Y_move (v := .int .i64 (IntKind.i64.wrap ((i : Int) + 1))) rfl rfl) ?_
          refine rw_nil ?_
          obtain rfl := some_inj hF3
          exact ⟨k_1, Nat.lt_succ_self _, i + 1, (FF.cons (hf.get 0 0 rfl) (FF.cons (hf.get 1 1 rfl) (FF.cons (hf.get 7 2 rfl) (FF.cons (hf.get 8 3 rfl) (FF.cons (congrArg (Value.int .i64) (wr_succ hlt1 hN)) FF.nil))))), (hS8.sel [] rfl rfl), (by omega), hL1⟩
      exact allR_nil
    exact allR_nil
  · skip
    obtain rfl : k_ = 0 := by have h := of_decide_eq_false hlt; omega
    refine cw_exit rfl ?_
    obtain rfl := some_inj hL
    refine cw_seq ?_
    refine cw_region ?_
    refine sq 4 rfl rfl (Y_assign (v := .bool true) rfl rfl) ?_
    refine rw_nil ?_
    refine cw_ret ?_
    obtain rfl := some_inj hF1
    exact ret1 Try.results84 (v1 := .bool true) (resAt_tmp rfl) ⟨rfl, (ST.subR (R' := []) (hS1.sel [] rfl rfl) (fun _ h => by cases h))⟩

theorem c_slices_IndexFunc_int_int (s : List Int) (f_ : Int → Option (Bool)) (B : Option Addr) (c n : Nat) (kf : Nat) (caps : Array Value) (Rf : List Ro) (w0 : World) (hn : s.length = n) (hk : callB Try.prog kf = true) (hp : ∀ (w : World), ST w [] w [] Rf → ∀ (x : Int) (y : Bool), f_ x = some y → CV Try.prog kf ((.int .i64 x) :: caps.toList).toArray w (fun v w' => v = .bool y ∧ ST w [] w' [] [])) (hS : ST w0 [] w0 [] (⟨B, (s.flatMap encI)⟩ :: Rf)) {r_ : Int} (hF : F_slices_IndexFunc_int_int s f_ = some r_) :
    CV Try.prog 158 #[.slice B n c, .func (.func kf) #[] caps] w0 (fun v w' => v = .int .i64 r_ ∧ ST w0 [] w' [] []) := by
  subst hn
  unfold F_slices_IndexFunc_int_int at hF
  refine cv_of_cw 19 Try.func158 rfl Try.ntmps158 rfl ?_
  refine cw_seq ?_
  refine cw_region ?_
  refine sq 4 rfl rfl (Y_assign (v := .int .i64 0) rfl rfl) ?_
  refine rw_nil ?_
  refine cw_seq ?_
  refine cw_seq ?_
  refine cw_region ?_
  refine sq 6 rfl rfl (Y_move (v := .slice B s.length c) rfl rfl) ?_
  refine sq 7 rfl rfl (Y_len (B := B) (m := s.length) (c := c) k_sl_48_3 rfl rfl) ?_
  refine sq 8 rfl rfl (Y_move (v := .int .i64 0) rfl rfl) ?_
  refine rw_nil ?_
  obtain ⟨hN, hF⟩ := chk_inv hF
  obtain ⟨z, hz, hF1⟩ := bind_inv hF
  refine cw_block ?_
  refine cw_loop (fun k f w => ∃ (i : Nat), FF f [(0, .slice B s.length c), (1, .func (.func kf) #[] caps), (7, .int .i64 (s.length : Int)), (8, .int .i64 (i : Int))] ∧ ST w0 [] w [] (⟨B, (s.flatMap encI)⟩ :: Rf) ∧ i + k = s.length ∧ forX (F_slices_IndexFunc_int_int_l1 s f_) k i () = some z) s.length ⟨0, (FF.cons rfl (FF.cons rfl (FF.cons rfl (FF.cons rfl FF.nil)))), (hS.sel [] rfl rfl), Nat.zero_add _, hz⟩ ?_
  rintro k_ f w ⟨i, hf, hS1, hik, hL⟩
  refine cw_seq ?_
  refine cw_region ?_
  refine sq 9 rfl rfl (Y_lt (k := .i64) (a := (i : Int)) (b := (s.length : Int)) rfl (hf.get 8 3 rfl) (hf.get 7 2 rfl)) ?_
  refine rw_nil ?_
  refine cw_seq ?_
  refine cw_cond (b := (decide ((i : Int) < (s.length : Int)))) rfl (fun hlt => ?_) (fun hlt => ?_)
  · skip
    have hlt1 : i < s.length := by have h := of_decide_eq_true hlt; omega
    obtain ⟨k_1, rfl⟩ : ∃ k2, k_ = k2 + 1 := ⟨k_ - 1, by omega⟩
    obtain ⟨y1, hb, hL1⟩ := forX_go hL
    unfold F_slices_IndexFunc_int_int_l1 at hb
    refine cw_skip ?_
    refine cw_seq ?_
    refine cw_block ?_
    refine cw_seq ?_
    refine cw_region ?_
    refine sq 10 rfl rfl (Y_move (v := .int .i64 (i : Int)) rfl (hf.get 8 3 rfl)) ?_
    refine sq 5 rfl rfl (Y_assign (v := .int .i64 (i : Int)) rfl rfl) ?_
    refine rw_nil ?_
    refine cw_seq ?_
    refine cw_region ?_
    refine sq 11 rfl rfl (Y_move (v := .func (.func kf) #[] caps) rfl (hf.get 1 1 rfl)) ?_
    refine sq 12 rfl rfl (Y_move (v := .slice B s.length c) rfl (hf.get 0 0 rfl)) ?_
    refine sq 13 rfl rfl (Y_move (v := .int .i64 (i : Int)) rfl rfl) ?_
    obtain ⟨x1, hx, hb⟩ := bind_inv hb
    refine sq 14 rfl rfl (Y_index (B := B) (m := s.length) (c := c) (k := .i64) (i := (i : Int)) k_sl_48_3 k_sz_3_1 rfl rfl rfl (gi_isSome encI_len rfl (hS1.rf (i := 0) rfl) hx) (getI_nn hx) (getI_ltI hx rfl)) ?_
    refine sq 15 rfl rfl (Y_load1 (B := B) (i := (i : Int).toNat * 1) (cs := (s.flatMap encI)) (v := .int .i64 x1) k_sc_3 rfl rfl (hS1.rf (i := 0) rfl) (gi_at0 encI_len hx rfl)) ?_
    obtain ⟨r_1, hc, hb⟩ := bind_inv hb
    refine sc 16 rfl rfl (Yc_clos (g := kf) (vs := (.int .i64 x1) :: caps.toList) hk rfl rfl (clo_args (mc rfl mn)) (hp _ (hS1.innS (fun _ h => List.mem_of_mem_drop (i := 1) h)) x1 r_1 hc)) ?_
    rintro _ w_ ⟨rfl, hd⟩
    have hS2 := hS1.out00 hd
    refine rw_nil ?_
    refine cw_cond (b := r_1) rfl (fun hb1 => ?_) (fun hb1 => ?_)
    · skip
      have hF2 := ct hb hb1
      refine cw_seq ?_
      refine cw_region ?_
      refine sq 17 rfl rfl (Y_move (v := .int .i64 (i : Int)) rfl rfl) ?_
      refine sq 4 rfl rfl (Y_assign (v := .int .i64 (i : Int)) rfl rfl) ?_
      refine rw_nil ?_
      refine cw_ret ?_
      obtain rfl := some_inj hF2
      obtain rfl := some_inj hL1
      obtain rfl := some_inj hF1
      exact ret1 Try.results158 (v1 := .int .i64 (i : Int)) (resAt_tmp rfl) ⟨rfl, (ST.subR (R' := []) (hS2.sel [] rfl rfl) (fun _ h => by cases h))⟩
    · skip
      have hF3 := cf' hb hb1
      refine cw_skip ?_
      refine cw_region ?_
      refine sq 18 rfl rfl (Y_add (k := .i64) (a := (i : Int)) (b := 1) rfl (hf.get 8 3 rfl) rfl) ?_
      refine sq 8 rfl rfl (Y_move (v := .int .i64 (IntKind.i64.wrap ((i : Int) + 1))) rfl rfl) ?_
      refine rw_nil ?_
      obtain rfl := some_inj hF3
      exact ⟨k_1, Nat.lt_succ_self _, i + 1, (FF.cons (hf.get 0 0 rfl) (FF.cons (hf.get 1 1 rfl) (FF.cons (hf.get 7 2 rfl) (FF.cons (congrArg (Value.int .i64) (wr_succ hlt1 hN)) FF.nil)))), (hS2.sel [] rfl rfl), (by omega), hL1⟩
  · skip
    obtain rfl : k_ = 0 := by have h := of_decide_eq_false hlt; omega
    refine cw_exit rfl ?_
    obtain rfl := some_inj hL
    refine cw_seq ?_
    refine cw_region ?_
    refine sq 4 rfl rfl (Y_assign (v := .int .i64 (-1)) rfl rfl) ?_
    refine rw_nil ?_
    refine cw_ret ?_
    obtain rfl := some_inj hF1
    exact ret1 Try.results158 (v1 := .int .i64 (-1)) (resAt_tmp rfl) ⟨rfl, (ST.subR (R' := []) (hS1.sel [] rfl rfl) (fun _ h => by cases h))⟩

theorem c_slices_ContainsFunc_int_int (s : List Int) (f_ : Int → Option (Bool)) (B : Option Addr) (c n : Nat) (kf : Nat) (caps : Array Value) (Rf : List Ro) (w0 : World) (hn : s.length = n) (hk : callB Try.prog kf = true) (hp : ∀ (w : World), ST w [] w [] Rf → ∀ (x : Int) (y : Bool), f_ x = some y → CV Try.prog kf ((.int .i64 x) :: caps.toList).toArray w (fun v w' => v = .bool y ∧ ST w [] w' [] [])) (hS : ST w0 [] w0 [] (⟨B, (s.flatMap encI)⟩ :: Rf)) {r_ : Bool} (hF : F_slices_ContainsFunc_int_int s f_ = some r_) :
    CV Try.prog 125 #[.slice B n c, .func (.func kf) #[] caps] w0 (fun v w' => v = .bool r_ ∧ ST w0 [] w' [] []) := by
  subst hn
  unfold F_slices_ContainsFunc_int_int at hF
  refine cv_of_cw 9 Try.func125 rfl Try.ntmps125 rfl ?_
  refine cw_seq ?_
  refine cw_region ?_
  refine sq 4 rfl rfl (Y_assign (v := .bool false) rfl rfl) ?_
  refine rw_nil ?_
  refine cw_seq ?_
  refine cw_region ?_
  refine sq 5 rfl rfl (Y_move (v := .slice B s.length c) rfl rfl) ?_
  refine sq 6 rfl rfl (Y_move (v := .func (.func kf) #[] caps) rfl rfl) ?_
  obtain ⟨r_1, hc, hF⟩ := bind_inv hF
  refine sc 7 rfl rfl (Yc_func (g := 158) (vs := [.slice B s.length c, .func (.func kf) #[] caps]) k_call_158 rfl (mc rfl (mc rfl mn)) (c_slices_IndexFunc_int_int s f_ B c s.length kf caps Rf _ rfl hk hp (hS.innS (subc (mem_at (i := 0) rfl) (fun _ h => List.mem_of_mem_drop (i := 1) h))) hc)) ?_
  rintro _ w_ ⟨rfl, hd⟩
  have hS1 := hS.out00 hd
  refine sq 8 rfl rfl (Y_ge (k := .i64) (a := r_1) (b := 0) rfl rfl rfl) ?_
  refine sq 4 rfl rfl (Y_assign (v := .bool (decide (0 ≤ r_1))) rfl rfl) ?_
  refine rw_nil ?_
  refine cw_ret ?_
  obtain rfl := some_inj hF
  exact ret1 Try.results125 (v1 := .bool (decide (0 ≤ r_1))) (resAt_tmp rfl) ⟨rfl, (ST.subR (R' := []) (hS1.sel [] rfl rfl) (fun _ h => by cases h))⟩

theorem c_impl_IsValidLinear_1 (row : Int) (p : Int) (B : Option Addr) (w0 : World)  (hS : ST w0 [] w0 [] [⟨B, [.int .i64 p]⟩]) {r_ : Bool} (hF : F_impl_IsValidLinear_1 row p = some r_) :
    CV Try.prog 126 #[.int .i64 row, pt B 0] w0 (fun v w' => v = .bool r_ ∧ ST w0 [] w' [] []) := by
  unfold F_impl_IsValidLinear_1 at hF
  refine cv_of_cw 10 Try.func126 rfl Try.ntmps126 rfl ?_
  refine cw_seq ?_
  refine cw_region ?_
  refine sq 3 rfl rfl (Y_assign (v := .bool false) rfl rfl) ?_
  refine rw_nil ?_
  refine cw_seq ?_
  refine cw_region ?_
  refine sq 4 rfl rfl (Y_move (v := .int .i64 row) rfl rfl) ?_
  refine sq 5 rfl rfl (Y_load1 (B := B) (i := 0) (cs := [.int .i64 p]) (v := .int .i64 p) k_sc_3 rfl rfl (hS.rf (i := 0) rfl) rfl) ?_
  obtain ⟨hsh, hF⟩ := chk_inv hF
  refine sq 6 rfl rfl (Y_shl (k := .i64) (a := 1) (k' := .i64) (b := p) rfl rfl rfl hsh) ?_
  refine sq 7 rfl rfl (Y_sub (k := .i64) (a := (shlK .i64 1 p)) (b := 1) rfl rfl rfl) ?_
  obtain ⟨r_1, hc, hF⟩ := bind_inv hF
  refine sc 8 rfl rfl (Yc_func (g := 82) (vs := [.int .i64 row, .int .i64 0, .int .i64 (IntKind.i64.wrap ((shlK .i64 1 p) - 1))]) k_call_82 rfl (mc rfl (mc rfl (mc rfl mn))) (c_impl_within row 0 (IntKind.i64.wrap ((shlK .i64 1 p) - 1)) _  (hS.inn0 [] rfl) hc)) ?_
  rintro _ w_ ⟨rfl, hd⟩
  have hS1 := hS.out00 hd
  refine sq 9 rfl rfl (Y_not (p := r_1) rfl rfl) ?_
  refine sq 3 rfl rfl (Y_assign (v := .bool (!r_1)) rfl rfl) ?_
  refine rw_nil ?_
  refine cw_ret ?_
  obtain rfl := some_inj hF
  exact ret1 Try.results126 (v1 := .bool (!r_1)) (resAt_tmp rfl) ⟨rfl, (ST.subR (R' := []) (hS1.sel [] rfl rfl) (fun _ h => by cases h))⟩

theorem c_slices_Clone_int_int (s : List Int) (B : Option Addr) (c n : Nat) (w0 : World) (hn : s.length = n) (hS : ST w0 [] w0 [] [⟨B, (s.flatMap encI)⟩]) {r_ : List Int} (hF : F_slices_Clone_int_int s = some r_) :
    CV Try.prog 156 #[.slice B n c] w0 (fun v w' => ∃ (B1 : Option Addr) (c1 : Nat), v = .slice B1 r_.length c1 ∧ ST w0 [] w' [⟨B1, 3, (r_.flatMap encI), c1 * 1⟩] []) := by
  subst hn
  unfold F_slices_Clone_int_int at hF
  refine cv_of_cw 8 Try.func156 rfl Try.ntmps156 rfl ?_
  refine cw_seq ?_
  refine cw_region ?_
  refine sq 2 rfl rfl (Y_assign (v := .slice none 0 0) rfl rfl) ?_
  refine rw_nil ?_
  refine cw_seq ?_
  refine cw_seq ?_
  refine cw_region ?_
  refine sq 3 rfl rfl (Y_move (v := .slice B s.length c) rfl rfl) ?_
  refine sq 4 rfl rfl (Y_nileql (B := B) (m := s.length) (c := c) k_sl_48_3 rfl rfl rfl) ?_
  refine rw_nil ?_
  refine cw_cond (b := B.isNone) rfl (fun hb => ?_) (fun hb => ?_)
  · skip
    have hl : s = [] := nil_cont encI_len (hS.rf (i := 0) rfl) rfl hb
    rw [hl] at hF
    have hF1 : (some ([])) = some r_ := by simpa [chk] using hF
    subst hl
    refine cw_seq ?_
    refine cw_region ?_
    refine sq 2 rfl rfl (Y_assign (v := .slice none 0 0) rfl rfl) ?_
    refine rw_nil ?_
    refine cw_ret ?_
    have hS1 := hS.addNil 3
    obtain rfl := some_inj hF1
    exact ret1 Try.results156 (v1 := .slice none 0 0) (resAt_tmp rfl) ⟨none, 0, rfl, (ST.subR (R' := []) (hS1.sel [0] rfl rfl) (fun _ h => by cases h))⟩
  · skip
    refine cw_skip ?_
    refine cw_seq ?_
    refine cw_region ?_
    refine ss 5 rfl rfl (Ys_bslice0 (s := 1) (e := 3) hS k_sl_48_3 k_sz_3_1 rfl) ?_
    rintro _ w_ ⟨b, rfl, hS2⟩
    refine sq 6 rfl rfl (Y_move (v := .slice B s.length c) rfl rfl) ?_
    obtain ⟨hap, hF⟩ := chk_inv hF
    refine ss 7 rfl rfl (Ys_append (s := 1) (by' := 8) (i := 0) (nn := 0) (c := 0) (k := s.length) (len := s.length) (B := some ⟨b, 0, none⟩) (xs := (s.flatMap encI)) (cs' := (s.flatMap encI)) hS2 k_sl_48_3 k_sz_3_1 k_by_3_8 k_zero_3 rfl (by decide) rfl rfl rfl rfl (fm_lenn (l := []) encI_len rfl) rfl (hS2.rf (i := 0) rfl) (fm_lenn (l := s) encI_len rfl) (fm_one' (enc := encI) encI_one s) (by have := hap; omega) (by have := hap; simp only [maxLen]; omega) rfl (app_len0 (l := s) rfl)) ?_
    rintro _ w_1 ⟨B2, c2, rfl, hS3⟩
    refine sq 2 rfl rfl (Y_assign (v := .slice B2 s.length c2) rfl rfl) ?_
    refine rw_nil ?_
    refine cw_ret ?_
    obtain rfl := some_inj hF
    exact ret1 Try.results156 (v1 := .slice B2 s.length c2) (resAt_tmp rfl) ⟨B2, c2, rfl, (ST.subR (R' := []) (hS3.sel [0] rfl rfl) (fun _ h => by cases h))⟩

theorem c_impl_rankOf_1 (row : Int) (p : Int) (B : Option Addr) (w0 : World)  (hS : ST w0 [] w0 [] [⟨B, [.int .i64 p]⟩]) {r_ : Bool} (hF : F_impl_rankOf_1 row p = some r_) :
    CV Try.prog 159 #[.int .i64 row, pt B 0] w0 (fun v w' => v = .bool r_ ∧ ST w0 [] w' [] []) := by
  unfold F_impl_rankOf_1 at hF
  refine cv_of_cw 9 Try.func159 rfl Try.ntmps159 rfl ?_
  refine cw_seq ?_
  refine cw_region ?_
  refine sq 3 rfl rfl (Y_assign (v := .bool false) rfl rfl) ?_
  refine rw_nil ?_
  refine cw_seq ?_
  refine cw_region ?_
  refine sq 4 rfl rfl (Y_move (v := .int .i64 row) rfl rfl) ?_
  refine sq 5 rfl rfl (Y_load1 (B := B) (i := 0) (cs := [.int .i64 p]) (v := .int .i64 p) k_sc_3 rfl rfl (hS.rf (i := 0) rfl) rfl) ?_
  obtain ⟨hsh, hF⟩ := chk_inv hF
  refine sq 6 rfl rfl (Y_shr (k := .i64) (a := row) (k' := .i64) (b := p) rfl rfl rfl hsh) ?_
  refine sq 7 rfl rfl (Y_band (k := .i64) (a := (shrK .i64 row p)) (b := 1) rfl rfl rfl) ?_
  refine sq 8 rfl rfl (Y_eq (k := .i64) (a := (bits .and .i64 (shrK .i64 row p) 1)) (b := 1) rfl rfl rfl) ?_
  refine sq 3 rfl rfl (Y_assign (v := .bool ((bits .and .i64 (shrK .i64 row p) 1) == 1)) rfl rfl) ?_
  refine rw_nil ?_
  refine cw_ret ?_
  obtain rfl := some_inj hF
  exact ret1 Try.results159 (v1 := .bool ((bits .and .i64 (shrK .i64 row p) 1) == 1)) (resAt_tmp rfl) ⟨rfl, (ST.subR (R' := []) (hS.sel [] rfl rfl) (fun _ h => by cases h))⟩

theorem c_slices_Delete_int_int (s : List Int) (i : Int) (j : Int) (B : Option Addr) (c n : Nat) (w0 : World) (hn : s.length = n) (hS : ST w0 (bl [⟨B, 3, (s.flatMap encI), c * 1⟩]) w0 [⟨B, 3, (s.flatMap encI), c * 1⟩] []) {r_ : List Int} (hF : F_slices_Delete_int_int s i j = some r_) :
    CV Try.prog 160 #[.slice B n c, .int .i64 i, .int .i64 j] w0 (fun v w' => ∃ (B1 : Option Addr) (c1 : Nat), v = .slice B1 r_.length c1 ∧ ST w0 (bl [⟨B, 3, (s.flatMap encI), c * 1⟩]) w' [⟨B1, 3, (r_.flatMap encI), c1 * 1⟩] []) := by
  subst hn
  unfold F_slices_Delete_int_int at hF
  refine cv_of_cw 33 Try.func160 rfl Try.ntmps160 rfl ?_
  refine cw_seq ?_
  refine cw_region ?_
  refine sq 6 rfl rfl (Y_assign (v := .slice none 0 0) rfl rfl) ?_
  refine rw_nil ?_
  refine cw_seq ?_
  refine cw_region ?_
  refine sq 8 rfl rfl (Y_move (v := .slice B s.length c) rfl rfl) ?_
  refine sq 9 rfl rfl (Y_move (v := .int .i64 i) rfl rfl) ?_
  refine sq 10 rfl rfl (Y_move (v := .int .i64 j) rfl rfl) ?_
  refine sq 11 rfl rfl (Y_move (v := .slice B s.length c) rfl rfl) ?_
  refine sq 12 rfl rfl (Y_len (B := B) (m := s.length) (c := c) k_sl_48_3 rfl rfl) ?_
  obtain ⟨hsl, hF⟩ := chk_inv hF
  have hcap : s.length ≤ c := hS.lencap (i := 0) rfl (fm_lenn (l := s) encI_len rfl) rfl rfl
  refine sq 13 rfl rfl (Y_slice (B := B) (m := s.length) (c := c) (l := i.toNat) (h := j.toNat) (q := s.length) (s := 1) k_sl_48_3 k_sz_3_1 rfl rfl ⟨_, _, rfl, rfl⟩ ⟨_, _, rfl, (Int.toNat_of_nonneg (by omega)).symm⟩ ⟨_, _, rfl, (Int.toNat_of_nonneg (by omega)).symm⟩ rfl (by omega) (by omega) (by omega)) ?_
  refine rw_nil ?_
  refine cw_seq ?_
  refine cw_seq ?_
  refine cw_region ?_
  refine sq 14 rfl rfl (Y_move (v := .int .i64 i) rfl rfl) ?_
  refine sq 15 rfl rfl (Y_move (v := .int .i64 j) rfl rfl) ?_
  refine sq 16 rfl rfl (Y_eq (k := .i64) (a := i) (b := j) rfl rfl rfl) ?_
  refine rw_nil ?_
  refine cw_cond (b := (i == j)) rfl (fun hb => ?_) (fun hb => ?_)
  · skip
    have hF1 := ct hF hb
    refine cw_seq ?_
    refine cw_region ?_
    refine sq 17 rfl rfl (Y_move (v := .slice B s.length c) rfl rfl) ?_
    refine sq 6 rfl rfl (Y_assign (v := .slice B s.length c) rfl rfl) ?_
    refine rw_nil ?_
    refine cw_ret ?_
    obtain rfl := some_inj hF1
    exact ret1 Try.results160 (v1 := .slice B s.length c) (resAt_tmp rfl) ⟨B, c, rfl, (ST.subR (R' := []) (hS.sel [0] rfl rfl) (fun _ h => by cases h))⟩
  · skip
    have hF2 := cf' hF hb
    refine cw_skip ?_
    refine cw_seq ?_
    refine cw_region ?_
    refine sq 18 rfl rfl (Y_move (v := .slice B s.length c) rfl rfl) ?_
    refine sq 19 rfl rfl (Y_len (B := B) (m := s.length) (c := c) k_sl_48_3 rfl rfl) ?_
    refine sq 7 rfl rfl (Y_assign (v := .int .i64 (s.length : Int)) rfl rfl) ?_
    refine rw_nil ?_
    refine cw_seq ?_
    obtain ⟨hij, hF2⟩ := chk_inv hF2
    refine ra_start (ST.sel hS [] rfl rfl).fn (by kernel_rfl) ?_
    have hS1 := hS.drew
    refine ra_q 0 20 (v := .slice B s.length c) rfl rfl rfl (by kernel_rfl) (by kernel_rfl) (by kernel_rfl) (ST.sel hS1 [] rfl rfl) (fun w' hw' => (Y_move (v := .slice B s.length c) rfl rfl)) ?_
    refine ra_q 1 21 (v := .int .i64 i) rfl rfl rfl (by kernel_rfl) (by kernel_rfl) (by kernel_rfl) (ST.sel hS1 [] rfl rfl) (fun w' hw' => (Y_move (v := .int .i64 i) rfl rfl)) ?_
    refine ra_q 2 22 (v := .slice (sv B 0 c 1) (i.toNat - 0) (c - 0)) rfl rfl rfl (by kernel_rfl) (by kernel_rfl) (by kernel_rfl) (ST.sel hS1 [] rfl rfl) (fun w' hw' => (Y_slice (B := B) (m := s.length) (c := c) (l := 0) (h := i.toNat) (q := c) (s := 1) k_sl_48_3 k_sz_3_1 rfl rfl rfl ⟨_, _, rfl, (Int.toNat_of_nonneg (by omega)).symm⟩ rfl rfl (by omega) (by omega) (by omega))) ?_
    refine ra_q 3 23 (v := .slice B s.length c) rfl rfl rfl (by kernel_rfl) (by kernel_rfl) (by kernel_rfl) (ST.sel hS1 [] rfl rfl) (fun w' hw' => (Y_move (v := .slice B s.length c) rfl rfl)) ?_
    refine ra_q 4 24 (v := .int .i64 j) rfl rfl rfl (by kernel_rfl) (by kernel_rfl) (by kernel_rfl) (ST.sel hS1 [] rfl rfl) (fun w' hw' => (Y_move (v := .int .i64 j) rfl rfl)) ?_
    refine ra_q 5 25 (v := .slice (sv B j.toNat c 1) (s.length - j.toNat) (c - j.toNat)) rfl rfl rfl (by kernel_rfl) (by kernel_rfl) (by kernel_rfl) (ST.sel hS1 [] rfl rfl) (fun w' hw' => (Y_slice (B := B) (m := s.length) (c := c) (l := j.toNat) (h := s.length) (q := c) (s := 1) k_sl_48_3 k_sz_3_1 rfl rfl rfl rfl ⟨_, _, rfl, (Int.toNat_of_nonneg (by omega)).symm⟩ rfl (by omega) (by omega) (by omega))) ?_
    refine ra_all (rs := [6]) (by kernel_rfl) rfl ?_
    refine ra_s 26 (i := 6) rfl rfl rfl (Ys_cut (enc := encI) (s := 1) (k := 0) (i := i.toNat) (j := j.toNat) (m := s.length) (c := c) (B := B) (l := s) hS1 k_sl_48_3 k_sz_3_1 rfl rfl rfl rfl rfl rfl encI_len encI_one (by omega) (by omega)) ?_ ?_
    · rintro _ w_ ⟨rfl, hS2⟩
      refine ⟨(ST.sel hS2 [] rfl rfl), ?_⟩
      refine ra_q 7 0 (v := .slice B (i.toNat + (s.length - j.toNat)) c) rfl rfl rfl (by kernel_rfl) (by kernel_rfl) (by kernel_rfl) (ST.sel hS2 [] rfl rfl) (fun w' hw' => (Y_assign (v := .slice B (i.toNat + (s.length - j.toNat)) c) rfl rfl)) ?_
      refine ra_done (by kernel_rfl) ?_
      refine cw_seq ?_
      refine cw_region ?_
      refine sq 27 rfl rfl (Y_move (v := .slice B (i.toNat + (s.length - j.toNat)) c) rfl rfl) ?_
      refine sq 28 rfl rfl (Y_move (v := .slice B (i.toNat + (s.length - j.toNat)) c) rfl rfl) ?_
      refine sq 29 rfl rfl (Y_len (B := B) (m := (i.toNat + (s.length - j.toNat))) (c := c) k_sl_48_3 rfl rfl) ?_
      refine sq 30 rfl rfl (Y_move (v := .int .i64 (s.length : Int)) rfl rfl) ?_
      refine sq 31 rfl rfl (Y_slice (B := B) (m := (i.toNat + (s.length - j.toNat))) (c := c) (l := (i.toNat + (s.length - j.toNat))) (h := s.length) (q := c) (s := 1) k_sl_48_3 k_sz_3_1 rfl rfl rfl ⟨_, _, rfl, rfl⟩ ⟨_, _, rfl, rfl⟩ rfl (by omega) (by omega) (by omega)) ?_
      refine ss0 rfl rfl (Ys_clear (s := 1) (k := 0) (p := (i.toNat + (s.length - j.toNat))) (h := s.length) (c := c) (m := c * 1) (B := B) (cs := ((List.take i.toNat s ++ List.drop j.toNat s).flatMap encI)) (z := .int .i64 0) hS2 k_sl_48_3 k_sz_3_1 rfl k_zero_3 rfl rfl rfl rfl rfl (fm_lenn (l := (List.take i.toNat s ++ List.drop j.toNat s)) encI_len (cut_len rfl (by omega))) rfl (by omega) (by omega)) ?_
      rintro _ w_1 ⟨rfl, hS3⟩
      refine rw_nil ?_
      refine cw_seq ?_
      refine cw_region ?_
      refine sq 32 rfl rfl (Y_move (v := .slice B (i.toNat + (s.length - j.toNat)) c) rfl rfl) ?_
      refine sq 6 rfl rfl (Y_assign (v := .slice B (i.toNat + (s.length - j.toNat)) c) rfl rfl) ?_
      refine rw_nil ?_
      refine cw_ret ?_
      obtain rfl := some_inj hF2
      exact ret1 Try.results160 (v1 := .slice B (i.toNat + (s.length - j.toNat)) c) (resAt_tmp rfl) ⟨B, c, (sl_eqv (cut_len rfl (by omega))), (ST.subR (R' := []) (hS3.sel [0] rfl rfl) (fun _ h => by cases h))⟩
    exact allR_nil

theorem c_impl_rankOf (rows : List Int) (B : Option Addr) (c n : Nat) (w0 : World) (hn : rows.length = n) (hS : ST w0 [] w0 [] [⟨B, (rows.flatMap encI)⟩]) {r_ : Int} (hF : F_impl_rankOf rows = some r_) :
    CV Try.prog 127 #[.slice B n c] w0 (fun v w' => v = .int .i64 r_ ∧ ST w0 [] w' [] []) := by
  subst hn
  unfold F_impl_rankOf at hF
  refine cv_of_cw 52 Try.func127 rfl Try.ntmps127 rfl ?_
  refine cw_seq ?_
  refine cw_region ?_
  refine sq 2 rfl rfl (Y_assign (v := .int .i64 0) rfl rfl) ?_
  refine rw_nil ?_
  refine cw_seq ?_
  refine cw_region ?_
  refine sq 10 rfl rfl (Y_move (v := .slice B rows.length c) rfl rfl) ?_
  obtain ⟨r_1, hc, hF⟩ := bind_inv hF
  refine sc 11 rfl rfl (Yc_func (g := 156) (vs := [.slice B rows.length c]) k_call_156 rfl (mc rfl mn) (c_slices_Clone_int_int rows B c rows.length _ rfl (hS.inn0 [(true, 0)] rfl) hc)) ?_
  rintro _ w_ ⟨B1, c1, rfl, hd⟩
  have hS1 := hS.out0 hd
  refine sq 3 rfl rfl (Y_assign (v := .slice B1 r_1.length c1) rfl rfl) ?_
  refine sq 4 rfl rfl (Y_assign (v := .int .i64 0) rfl rfl) ?_
  refine rw_nil ?_
  refine cw_seq ?_
  refine cw_seq ?_
  refine cw_region ?_
  refine sq 12 rfl rfl (Y_move (v := .int .i64 0) rfl rfl) ?_
  refine rw_nil ?_
  obtain ⟨z, hz, hF1⟩ := bind_inv hF
  refine cw_block ?_
  refine cw_loop (fun k f w => ∃ (i : Nat) (left : List Int) (rank : Int) (B2 : Option Addr) (c2 : Nat), FF f [(3, .slice B2 left.length c2), (4, .int .i64 rank), (12, .int .i64 (i : Int))] ∧ ST w0 [] w [⟨B2, 3, (left.flatMap encI), c2 * 1⟩] [⟨B, (rows.flatMap encI)⟩] ∧ i + k = 10 ∧ forN F_impl_rankOf_l1 k i (left, rank) = some z) 10 ⟨0, r_1, 0, B1, c1, (FF.cons rfl (FF.cons rfl (FF.cons rfl FF.nil))), (hS1.sel [0] rfl rfl), Nat.zero_add _, hz⟩ ?_
  rintro k_ f w ⟨i, left, rank, B2, c2, hf, hS2, hik, hL⟩
  refine cw_seq ?_
  refine cw_region ?_
  refine sq 13 rfl rfl (Y_lt (k := .i64) (a := (i : Int)) (b := 10) rfl (hf.get 12 2 rfl) rfl) ?_
  refine rw_nil ?_
  refine cw_seq ?_
  refine cw_cond (b := (decide ((i : Int) < 10))) rfl (fun hlt => ?_) (fun hlt => ?_)
  · skip
    have hlt1 : i < 10 := by have h := of_decide_eq_true hlt; omega
    obtain ⟨k_1, rfl⟩ : ∃ k2, k_ = k2 + 1 := ⟨k_ - 1, by omega⟩
    obtain ⟨y, hb, hL1⟩ := forN_go hL
    unfold F_impl_rankOf_l1 at hb
    refine cw_skip ?_
    refine cw_seq ?_
    obtain ⟨z1, hz1, hF2⟩ := bind_inv hb
    refine cw_mid (fun f w => ∃ (left1 : List Int) (rank1 : Int) (B3 : Option Addr) (c3 : Nat), (left1, rank1) = z1 ∧ FF f [(3, .slice B3 left1.length c3), (4, .int .i64 rank1), (12, .int .i64 (i : Int))] ∧ ST w0 [] w [⟨B3, 3, (left1.flatMap encI), c3 * 1⟩] [⟨B, (rows.flatMap encI)⟩]) ?_ ?_
    · skip
      refine cw_block ?_
      refine cw_seq ?_
      refine cw_region ?_
      refine sq 14 rfl rfl (Y_move (v := .int .i64 (i : Int)) rfl (hf.get 12 2 rfl)) ?_
      refine ss 5 rfl rfl (Ys_alloc (T := 3) (cs := [.int .i64 0]) (m := 1) hS2 k_zero_3 rfl rfl rfl) ?_
      rintro _ w_1 ⟨b, rfl, hS4⟩
      have hS4 : ST w0 [] _ [⟨B2, 3, (left.flatMap encI), c2 * 1⟩, ⟨some ⟨b, 0, none⟩, 3, [.int .i64 0], 1⟩] [⟨B, (rows.flatMap encI)⟩] := hS4
      refine ss0 rfl rfl (Ys_store (i := 1) (s := 1) (B := some ⟨b, 0, none⟩) (T' := 3) (v := .int .i64 (i : Int)) (vs := [.int .i64 (i : Int)]) (k := 0) (cs' := [.int .i64 (i : Int)]) hS4 k_sz_3_1 rfl rfl rfl rfl rfl rfl rfl (Nat.le_of_ble_eq_true rfl) rfl rfl) ?_
      rintro _ w_2 ⟨rfl, hS5⟩
      have hS5 : ST w0 [] _ [⟨B2, 3, (left.flatMap encI), c2 * 1⟩, ⟨some ⟨b, 0, none⟩, 3, [.int .i64 (i : Int)], 1⟩] [⟨B, (rows.flatMap encI)⟩] := hS5
      refine rw_nil ?_
      refine cw_seq ?_
      refine cw_region ?_
      refine sq 15 rfl rfl (Y_move (v := .slice B2 left.length c2) rfl (hf.get 3 0 rfl)) ?_
      refine sq 16 rfl rfl (Y_makeFunc (cs := [pt (some ⟨b, 0, none⟩) 0]) rfl rfl (mc rfl mn)) ?_
      obtain ⟨r_2, hc1, hz1⟩ := bind_inv hz1
      refine sc 17 rfl rfl (Yc_func (g := 158) (vs := [.slice B2 left.length c2, .func (.func 159) #[] #[pt (some ⟨b, 0, none⟩) 0]]) k_call_158 rfl (mc rfl (mc rfl mn)) (c_slices_IndexFunc_int_int left (fun x_0 => F_impl_rankOf_1 x_0 (i : Int)) B2 c2 left.length 159 (#[pt (some ⟨b, 0, none⟩) 0]) [⟨some ⟨b, 0, none⟩, [.int .i64 (i : Int)]⟩] _ rfl k_call_159 (fun w hw x_0 y_0 h_ => c_impl_rankOf_1 x_0 (i : Int) (some ⟨b, 0, none⟩) w  hw h_) (hS5.inn0 [(false, 0), (false, 1)] rfl) hc1)) ?_
      rintro _ w_3 ⟨rfl, hd1⟩
      have hS6 := hS5.out00 hd1
      have hS6 : ST w0 [] _ [⟨B2, 3, (left.flatMap encI), c2 * 1⟩, ⟨some ⟨b, 0, none⟩, 3, [.int .i64 (i : Int)], 1⟩] [⟨B, (rows.flatMap encI)⟩] := hS6
      refine sq 6 rfl rfl (Y_assign (v := .int .i64 r_2) rfl rfl) ?_
      refine rw_nil ?_
      refine cw_seq ?_
      refine cw_seq ?_
      refine cw_region ?_
      refine sq 18 rfl rfl (Y_move (v := .int .i64 r_2) rfl rfl) ?_
      refine sq 19 rfl rfl (Y_lt (k := .i64) (a := r_2) (b := 0) rfl rfl rfl) ?_
      refine rw_nil ?_
      refine cw_cond (b := (decide (r_2 < 0))) rfl (fun hb1 => ?_) (fun hb1 => ?_)
      · skip
        have hF3 := ct hz1 hb1
        refine cw_exit rfl ?_
        exact ⟨left, rank, B2, c2, (some_inj hF3), (FF.cons (hf.get 3 0 rfl) (FF.cons (hf.get 4 1 rfl) (FF.cons (hf.get 12 2 rfl) FF.nil))), (hS6.sel [0] rfl rfl)⟩
      · skip
        have hF4 := cf' hz1 hb1
        refine cw_skip ?_
        refine cw_seq ?_
        refine cw_region ?_
        refine sq 20 rfl rfl (Y_move (v := .slice B2 left.length c2) rfl (hf.get 3 0 rfl)) ?_
        refine sq 21 rfl rfl (Y_move (v := .int .i64 r_2) rfl rfl) ?_
        obtain ⟨x, hx, hF4⟩ := bind_inv hF4
        refine sq 22 rfl rfl (Y_index (B := B2) (m := left.length) (c := c2) (k := .i64) (i := r_2) k_sl_48_3 k_sz_3_1 rfl rfl rfl (gi_isSome encI_len rfl (hS6.cf (i := 0) rfl) hx) (getI_nn hx) (getI_ltI hx rfl)) ?_
        refine sq 23 rfl rfl (Y_load1 (B := B2) (i := r_2.toNat * 1) (cs := (left.flatMap encI)) (v := .int .i64 x) k_sc_3 rfl rfl (hS6.cf (i := 0) rfl) (gi_at0 encI_len hx rfl)) ?_
        refine sq 7 rfl rfl (Y_assign (v := .int .i64 x) rfl rfl) ?_
        refine rw_nil ?_
        refine cw_seq ?_
        refine cw_region ?_
        refine sq 24 rfl rfl (Y_move (v := .slice B2 left.length c2) rfl (hf.get 3 0 rfl)) ?_
        refine sq 25 rfl rfl (Y_move (v := .int .i64 r_2) rfl rfl) ?_
        refine sq 26 rfl rfl (Y_move (v := .int .i64 r_2) rfl rfl) ?_
        refine sq 27 rfl rfl (Y_add (k := .i64) (a := r_2) (b := 1) rfl rfl rfl) ?_
        obtain ⟨r_3, hc2, hF4⟩ := bind_inv hF4
        refine sc 28 rfl rfl (Yc_func (g := 160) (vs := [.slice B2 left.length c2, .int .i64 r_2, .int .i64 (IntKind.i64.wrap (r_2 + 1))]) k_call_160 rfl (mc rfl (mc rfl (mc rfl mn))) (c_slices_Delete_int_int left r_2 (IntKind.i64.wrap (r_2 + 1)) B2 c2 left.length _ rfl (hS6.inn [true, false] rfl [] rfl) hc2)) ?_
        rintro _ w_4 ⟨B4, c4, rfl, hd2⟩
        have hS7 := hS6.out [true, false] rfl hd2
        have hS7 : ST w0 [] _ [⟨some ⟨b, 0, none⟩, 3, [.int .i64 (i : Int)], 1⟩, ⟨B4, 3, (r_3.flatMap encI), c4 * 1⟩] [⟨B, (rows.flatMap encI)⟩] := hS7
        refine sq 3 rfl rfl (Y_assign (v := .slice B4 r_3.length c4) rfl rfl) ?_
        refine rw_nil ?_
        refine cw_seq ?_
        refine cw_seq ?_
        refine cw_region ?_
        refine sq 29 rfl rfl (Y_move (v := .slice B4 r_3.length c4) rfl rfl) ?_
        refine sq 30 rfl rfl (Y_len (B := B4) (m := r_3.length) (c := c4) k_sl_48_3 rfl rfl) ?_
        refine sq 31 rfl rfl (Y_move (v := .int .i64 0) rfl rfl) ?_
        refine rw_nil ?_
        obtain ⟨hN, hF4⟩ := chk_inv hF4
        obtain ⟨z2, hz2, hF5⟩ := bind_inv hF4
        refine cw_block ?_
        refine cw_loop (fun k f w => ∃ (i1 : Nat) (left2 : List Int), FF f [(3, .slice B4 r_3.length c4), (4, .int .i64 rank), (5, pt (some ⟨b, 0, none⟩) 0), (7, .int .i64 x), (12, .int .i64 (i : Int)), (29, .slice B4 r_3.length c4), (30, .int .i64 (r_3.length : Int)), (31, .int .i64 (i1 : Int))] ∧ left2.length = r_3.length ∧ ST w0 [] w [⟨B4, 3, (left2.flatMap encI), c4 * 1⟩, ⟨some ⟨b, 0, none⟩, 3, [.int .i64 (i : Int)], 1⟩] [⟨B, (rows.flatMap encI)⟩] ∧ i1 + k = r_3.length ∧ forN (F_impl_rankOf_l2 i x) k i1 left2 = some z2) r_3.length ⟨0, r_3, (FF.cons rfl (FF.cons (hf.get 4 1 rfl) (FF.cons rfl (FF.cons rfl (FF.cons (hf.get 12 2 rfl) (FF.cons rfl (FF.cons rfl (FF.cons rfl FF.nil)))))))), rfl, (hS7.sel [1, 0] rfl rfl), Nat.zero_add _, hz2⟩ ?_
        rintro k_2 f w ⟨i1, left2, hf2, hl, hS8, hik1, hL2⟩
        refine cw_seq ?_
        refine cw_region ?_
        refine sq 32 rfl rfl (Y_lt (k := .i64) (a := (i1 : Int)) (b := (r_3.length : Int)) rfl (hf2.get 31 7 rfl) (hf2.get 30 6 rfl)) ?_
        refine rw_nil ?_
        refine cw_seq ?_
        refine cw_cond (b := (decide ((i1 : Int) < (r_3.length : Int)))) rfl (fun hlt2 => ?_) (fun hlt2 => ?_)
        · skip
          have hlt3 : i1 < r_3.length := by have h := of_decide_eq_true hlt2; omega
          obtain ⟨k_3, rfl⟩ : ∃ k2, k_2 = k2 + 1 := ⟨k_2 - 1, by omega⟩
          obtain ⟨y1, hb2, hL3⟩ := forN_go hL2
          unfold F_impl_rankOf_l2 at hb2
          refine cw_skip ?_
          refine cw_seq ?_
          obtain ⟨z3, hz3, hF6⟩ := bind_inv hb2
          refine cw_mid (fun f w => ∃ (left3 : List Int), left3 = z3 ∧ FF f [(3, .slice B4 r_3.length c4), (4, .int .i64 rank), (5, pt (some ⟨b, 0, none⟩) 0), (7, .int .i64 x), (12, .int .i64 (i : Int)), (29, .slice B4 r_3.length c4), (30, .int .i64 (r_3.length : Int)), (31, .int .i64 (i1 : Int))] ∧ left3.length = r_3.length ∧ ST w0 [] w [⟨B4, 3, (left3.flatMap encI), c4 * 1⟩, ⟨some ⟨b, 0, none⟩, 3, [.int .i64 (i : Int)], 1⟩] [⟨B, (rows.flatMap encI)⟩]) ?_ ?_
          · skip
            refine cw_block ?_
            refine cw_seq ?_
            refine cw_region ?_
            refine sq 33 rfl rfl (Y_move (v := .int .i64 (i1 : Int)) rfl (hf2.get 31 7 rfl)) ?_
            obtain ⟨x1, hx1, hz3⟩ := bind_inv hz3
            refine sq 34 rfl rfl (Y_index (B := B4) (m := r_3.length) (c := c4) (k := .i64) (i := (i1 : Int)) k_sl_48_3 k_sz_3_1 rfl (hf2.get 29 5 rfl) (hf2.get 31 7 rfl) (gi_isSome encI_len rfl (hS8.cf (i := 0) rfl) hx1) (getI_nn hx1) (getI_ltI hx1 hl)) ?_
            refine sq 35 rfl rfl (Y_load1 (B := B4) (i := (i1 : Int).toNat * 1) (cs := (left2.flatMap encI)) (v := .int .i64 x1) k_sc_3 rfl rfl (hS8.cf (i := 0) rfl) (gi_at0 encI_len hx1 rfl)) ?_
            refine sq 8 rfl rfl (Y_assign (v := .int .i64 (i1 : Int)) rfl rfl) ?_
            refine sq 9 rfl rfl (Y_assign (v := .int .i64 x1) rfl rfl) ?_
            refine rw_nil ?_
            refine cw_seq ?_
            refine cw_region ?_
            refine sq 36 rfl rfl (Y_move (v := .int .i64 x1) rfl rfl) ?_
            refine sq 37 rfl rfl (Y_load1 (B := some ⟨b, 0, none⟩) (i := 0) (cs := [.int .i64 (i : Int)]) (v := .int .i64 (i : Int)) k_sc_3 rfl (hf2.get 5 2 rfl) (hS8.cf (i := 1) rfl) rfl) ?_
            obtain ⟨hsh, hz3⟩ := chk_inv hz3
            refine sq 38 rfl rfl (Y_shr (k := .i64) (a := x1) (k' := .i64) (b := (i : Int)) rfl rfl rfl hsh) ?_
            refine sq 39 rfl rfl (Y_band (k := .i64) (a := (shrK .i64 x1 (i : Int))) (b := 1) rfl rfl rfl) ?_
            refine sq 40 rfl rfl (Y_eq (k := .i64) (a := (bits .and .i64 (shrK .i64 x1 (i : Int)) 1)) (b := 1) rfl rfl rfl) ?_
            refine rw_nil ?_
            refine cw_cond (b := ((bits .and .i64 (shrK .i64 x1 (i : Int)) 1) == 1)) rfl (fun hb3 => ?_) (fun hb3 => ?_)
            · skip
              have hF7 := ct hz3 hb3
              refine cw_region ?_
              refine sq 41 rfl rfl (Y_move (v := .slice B4 r_3.length c4) rfl (hf2.get 3 0 rfl)) ?_
              refine sq 42 rfl rfl (Y_move (v := .int .i64 (i1 : Int)) rfl rfl) ?_
              refine sq 43 rfl rfl (Y_move (v := .int .i64 x1) rfl rfl) ?_
              refine sq 44 rfl rfl (Y_move (v := .int .i64 x) rfl (hf2.get 7 3 rfl)) ?_
              refine sq 45 rfl rfl (Y_bxor (k := .i64) (a := x1) (b := x) rfl rfl rfl) ?_
              refine sq 46 rfl rfl (Y_index (B := B4) (m := r_3.length) (c := c4) (k := .i64) (i := (i1 : Int)) k_sl_48_3 k_sz_3_1 rfl rfl rfl (gi_isSome encI_len rfl (hS8.cf (i := 0) rfl) hx1) (getI_nn hx1) (getI_ltI hx1 hl)) ?_
              refine ss0 rfl rfl (Ys_store (i := 0) (s := 1) (B := B4) (T' := 3) (v := .int .i64 (bits .xor .i64 x1 x)) (vs := [.int .i64 (bits .xor .i64 x1 x)]) (k := (i1 : Int).toNat * 1) (cs' := ((left2.set (i1 : Int).toNat (bits .xor .i64 x1 x)).flatMap encI)) hS8 k_sz_3_1 rfl rfl rfl rfl rfl rfl rfl (gi_fit0 encI_len hx1) (gi_set encI_len hx1 (bits .xor .i64 x1 x) rfl) rfl) ?_
              rintro _ w_5 ⟨rfl, hS10⟩
              have hS10 : ST w0 [] _ [⟨B4, 3, ((left2.set (i1 : Int).toNat (bits .xor .i64 x1 x)).flatMap encI), c4 * 1⟩, ⟨some ⟨b, 0, none⟩, 3, [.int .i64 (i : Int)], 1⟩] [⟨B, (rows.flatMap encI)⟩] := hS10
              refine rw_nil ?_
              exact ⟨(left2.set (i1 : Int).toNat (bits .xor .i64 x1 x)), (some_inj hF7), (FF.cons (hf2.get 3 0 rfl) (FF.cons (hf2.get 4 1 rfl) (FF.cons (hf2.get 5 2 rfl) (FF.cons (hf2.get 7 3 rfl) (FF.cons (hf2.get 12 4 rfl) (FF.cons (hf2.get 29 5 rfl) (FF.cons (hf2.get 30 6 rfl) (FF.cons (hf2.get 31 7 rfl) FF.nil)))))))), (set_len _ _ _ hl), (hS10.sel [0, 1] rfl rfl)⟩
            · skip
              have hF8 := cf' hz3 hb3
              refine cw_skip ?_
              exact ⟨left2, (some_inj hF8), (FF.cons (hf2.get 3 0 rfl) (FF.cons (hf2.get 4 1 rfl) (FF.cons (hf2.get 5 2 rfl) (FF.cons (hf2.get 7 3 rfl) (FF.cons (hf2.get 12 4 rfl) (FF.cons (hf2.get 29 5 rfl) (FF.cons (hf2.get 30 6 rfl) (FF.cons (hf2.get 31 7 rfl) FF.nil)))))))), hl, (hS8.sel [0, 1] rfl rfl)⟩
          rintro f w ⟨left3, rfl, hf3, hl1, hS9⟩
          refine cw_region ?_
          refine sq 47 rfl rfl (Y_add (k := .i64) (a := (i1 : Int)) (b := 1) rfl (hf3.get 31 7 rfl) rfl) ?_
          refine sq 31 rfl rfl (Y_move (v := .int .i64 (IntKind.i64.wrap ((i1 : Int) + 1))) rfl rfl) ?_
          refine rw_nil ?_
          obtain rfl := some_inj hF6
          exact ⟨k_3, Nat.lt_succ_self _, i1 + 1, left3, (FF.cons (hf3.get 3 0 rfl) (FF.cons (hf3.get 4 1 rfl) (FF.cons (hf3.get 5 2 rfl) (FF.cons (hf3.get 7 3 rfl) (FF.cons (hf3.get 12 4 rfl) (FF.cons (hf3.get 29 5 rfl) (FF.cons (hf3.get 30 6 rfl) (FF.cons (congrArg (Value.int .i64) (wr_succ hlt3 hN)) FF.nil)))))))), hl1, (hS9.sel [0, 1] rfl rfl), (by omega), hL3⟩
        · skip
          obtain rfl : k_2 = 0 := by have h := of_decide_eq_false hlt2; omega
          refine cw_exit rfl ?_
          obtain rfl := some_inj hL2
          refine cw_region ?_
          refine sq 48 rfl rfl (Y_move (v := .int .i64 rank) rfl (hf2.get 4 1 rfl)) ?_
          refine sq 49 rfl rfl (Y_add (k := .i64) (a := rank) (b := 1) rfl rfl rfl) ?_
          refine sq 4 rfl rfl (Y_assign (v := .int .i64 (IntKind.i64.wrap (rank + 1))) rfl rfl) ?_
          refine rw_nil ?_
          exact ⟨left2, (IntKind.i64.wrap (rank + 1)), B4, c4, (some_inj hF5), (FF.cons (sl_len hl (hf2.get 3 0 rfl)) (FF.cons rfl (FF.cons (hf2.get 12 4 rfl) FF.nil))), (hS8.sel [0] rfl rfl)⟩
    rintro f w ⟨left1, rank1, B3, c3, rfl, hf1, hS3⟩
    refine cw_region ?_
    refine sq 50 rfl rfl (Y_add (k := .i64) (a := (i : Int)) (b := 1) rfl (hf1.get 12 2 rfl) rfl) ?_
    refine sq 12 rfl rfl (Y_move (v := .int .i64 (IntKind.i64.wrap ((i : Int) + 1))) rfl rfl) ?_
    refine rw_nil ?_
    obtain rfl := some_inj hF2
    exact ⟨k_1, Nat.lt_succ_self _, i + 1, left1, rank1, B3, c3, (FF.cons (hf1.get 3 0 rfl) (FF.cons (hf1.get 4 1 rfl) (FF.cons (congrArg (Value.int .i64) (wr_succ hlt1 (show 10 ≤ 9223372036854775807 by decide))) FF.nil))), (hS3.sel [0] rfl rfl), (by omega), hL1⟩
  · skip
    obtain rfl : k_ = 0 := by have h := of_decide_eq_false hlt; omega
    refine cw_exit rfl ?_
    obtain rfl := some_inj hL
    refine cw_seq ?_
    refine cw_region ?_
    refine sq 51 rfl rfl (Y_move (v := .int .i64 rank) rfl (hf.get 4 1 rfl)) ?_
    refine sq 2 rfl rfl (Y_assign (v := .int .i64 rank) rfl rfl) ?_
    refine rw_nil ?_
    refine cw_ret ?_
    obtain rfl := some_inj hF1
    exact ret1 Try.results127 (v1 := .int .i64 rank) (resAt_tmp rfl) ⟨rfl, (ST.subR (R' := []) (hS2.sel [] rfl rfl) (fun _ h => by cases h))⟩

theorem c_impl_IsValidLinear (m : TLinear) (B : Option Addr) (c n : Nat) (w0 : World) (hn : m.Rows.length = n) (hS : ST w0 [] w0 [] [⟨B, (m.Rows.flatMap encI)⟩]) {r_ : Bool} (hF : F_impl_IsValidLinear m = some r_) :
    CV Try.prog 85 #[.agg #[.slice B n c]] w0 (fun v w' => v = .bool r_ ∧ ST w0 [] w' [] []) := by
  subst hn
  unfold F_impl_IsValidLinear at hF
  refine cv_of_cw 23 Try.func85 rfl Try.ntmps85 rfl ?_
  refine cw_seq ?_
  refine cw_region ?_
  refine ss 1 rfl rfl (Ys_box (T := 50) (v := .agg #[.slice B m.Rows.length c]) (cs := [.slice B m.Rows.length c]) (m := 1) hS rfl rfl rfl rfl) ?_
  rintro _ w_ ⟨b, rfl, hS1⟩
  refine sq 2 rfl rfl (Y_assign (v := .bool false) rfl rfl) ?_
  refine rw_nil ?_
  refine cw_seq ?_
  refine cw_region ?_
  refine sq 4 rfl rfl (Y_fieldAddr (B := some ⟨b, 0, none⟩) (i := 0) (s := 0) k_fd_50_0_0_48 k_sz_48_1 rfl rfl) ?_
  refine sq 5 rfl rfl (Y_load1 (B := some ⟨b, 0, none⟩) (i := 0) (cs := [.slice B m.Rows.length c]) (v := .slice B m.Rows.length c) k_sc_48 rfl rfl (hS1.cf (i := 0) rfl) rfl) ?_
  refine sq 6 rfl rfl (Y_len (B := B) (m := m.Rows.length) (c := c) k_sl_48_3 rfl rfl) ?_
  refine ss 3 rfl rfl (Ys_alloc (T := 3) (cs := [.int .i64 0]) (m := 1) hS1 k_zero_3 rfl rfl rfl) ?_
  rintro _ w_1 ⟨b1, rfl, hS2⟩
  have hS2 : ST w0 [] _ [⟨some ⟨b, 0, none⟩, 50, [.slice B m.Rows.length c], 1⟩, ⟨some ⟨b1, 0, none⟩, 3, [.int .i64 0], 1⟩] [⟨B, (m.Rows.flatMap encI)⟩] := hS2
  refine ss0 rfl rfl (Ys_store (i := 1) (s := 1) (B := some ⟨b1, 0, none⟩) (T' := 3) (v := .int .i64 (m.Rows.length : Int)) (vs := [.int .i64 (m.Rows.length : Int)]) (k := 0) (cs' := [.int .i64 (m.Rows.length : Int)]) hS2 k_sz_3_1 rfl rfl rfl rfl rfl rfl rfl (Nat.le_of_ble_eq_true rfl) rfl rfl) ?_
  rintro _ w_2 ⟨rfl, hS3⟩
  have hS3 : ST w0 [] _ [⟨some ⟨b, 0, none⟩, 50, [.slice B m.Rows.length c], 1⟩, ⟨some ⟨b1, 0, none⟩, 3, [.int .i64 (m.Rows.length : Int)], 1⟩] [⟨B, (m.Rows.flatMap encI)⟩] := hS3
  refine rw_nil ?_
  refine cw_seq ?_
  obtain ⟨r_1, hc, hF⟩ := bind_inv hF
  obtain ⟨r_2, hc1, hF⟩ := bind_inv hF
  obtain ⟨r_3, hc2, hF⟩ := bind_inv hF
  refine ra_start (ST.sel hS3 [0, 1] rfl rfl).fn (by kernel_rfl) ?_
  have hS7 := hS3.drew
  refine ra_q 0 7 (v := .int .i64 (m.Rows.length : Int)) rfl rfl rfl (by kernel_rfl) (by kernel_rfl) (by kernel_rfl) (ST.sel hS7 [0, 1] rfl rfl) (fun w' hw' => (Y_load1 (B := some ⟨b1, 0, none⟩) (i := 0) (cs := [.int .i64 (m.Rows.length : Int)]) (v := .int .i64 (m.Rows.length : Int)) k_sc_3 rfl rfl (ST.cf hw' (i := 1) rfl) rfl)) ?_
  refine ra_all (rs := [1]) (by kernel_rfl) rfl ?_
  refine ra_c 8 (i := 1) rfl rfl rfl (Yc_func (g := 82) (vs := [.int .i64 (m.Rows.length : Int), .int .i64 1, .int .i64 5]) k_call_82 rfl (mc rfl (mc rfl (mc rfl mn))) (c_impl_within (m.Rows.length : Int) 1 5 _  (hS7.inn0 [] rfl) hc)) ?_ ?_
  · rintro _ w_3 ⟨rfl, hd⟩
    have hS8 := hS7.out00 hd
    have hS8 : ST w0 [] _ [⟨some ⟨b, 0, none⟩, 50, [.slice B m.Rows.length c], 1⟩, ⟨some ⟨b1, 0, none⟩, 3, [.int .i64 (m.Rows.length : Int)], 1⟩] [⟨B, (m.Rows.flatMap encI)⟩] := hS8
    refine ⟨(ST.sel hS8 [0, 1] rfl rfl), ?_⟩
    refine ra_q 2 9 (v := .bool r_1) rfl rfl rfl (by kernel_rfl) (by kernel_rfl) (by kernel_rfl) (ST.sel hS8 [0, 1] rfl rfl) (fun w' hw' => (Y_move (v := .bool r_1) rfl rfl)) ?_
    refine ra_gq 3 10 (B := r_1) (v := pt (some ⟨b, 0, none⟩) 0) rfl rfl rfl (wt_t (gd_of (t := 9) (by kernel_rfl) rfl)) (by kernel_rfl) (by kernel_rfl) (by kernel_rfl) (ST.sel hS8 [0, 1] rfl rfl) (fun hg w' hw' => (Y_fieldAddr (B := some ⟨b, 0, none⟩) (i := 0) (s := 0) k_fd_50_0_0_48 k_sz_48_1 rfl rfl)) ?_
    refine ra_gq 4 11 (B := r_1) (v := .slice B m.Rows.length c) rfl rfl rfl (wt_t (gd_of (t := 9) (by kernel_rfl) rfl)) (by kernel_rfl) (by kernel_rfl) (by kernel_rfl) (ST.sel hS8 [0, 1] rfl rfl) (fun hg1 w' hw' => (Y_load1 (B := some ⟨b, 0, none⟩) (i := 0) (cs := [.slice B m.Rows.length c]) (v := .slice B m.Rows.length c) k_sc_48 rfl (gv_of (B := r_1) (v := pt (some ⟨b, 0, none⟩) 0) hg1) (ST.cf hw' (i := 0) rfl) rfl)) ?_
    refine ra_gq 5 12 (B := r_1) (v := .func (.func 126) #[] #[pt (some ⟨b1, 0, none⟩) 0]) rfl rfl rfl (wt_t (gd_of (t := 9) (by kernel_rfl) rfl)) (by kernel_rfl) (by kernel_rfl) (by kernel_rfl) (ST.sel hS8 [0, 1] rfl rfl) (fun hg2 w' hw' => (Y_makeFunc (cs := [pt (some ⟨b1, 0, none⟩) 0]) rfl rfl (mc rfl mn))) ?_
    refine ra_all (rs := [6]) (by kernel_rfl) rfl ?_
    refine ra_gc 13 (i := 6) (B := r_1) (v := .bool r_2) (F := hS8.fn) rfl rfl rfl (wt_t (gd_of (t := 9) (by kernel_rfl) rfl)) hS8 (fun hg3 => (Yc_func (g := 125) (vs := [.slice B m.Rows.length c, .func (.func 126) #[] #[pt (some ⟨b1, 0, none⟩) 0]]) k_call_125 rfl (mc (gv_of (B := r_1) (v := .slice B m.Rows.length c) hg3) (mc (gv_of (B := r_1) (v := .func (.func 126) #[] #[pt (some ⟨b1, 0, none⟩) 0]) hg3) mn)) (CV.mono (c_slices_ContainsFunc_int_int m.Rows (fun x_0 => F_impl_IsValidLinear_1 x_0 (m.Rows.length : Int)) B c m.Rows.length 126 (#[pt (some ⟨b1, 0, none⟩) 0]) [⟨some ⟨b1, 0, none⟩, [.int .i64 (m.Rows.length : Int)]⟩] _ rfl k_call_126 (fun w hw x_0 y_0 h_ => c_impl_IsValidLinear_1 x_0 (m.Rows.length : Int) (some ⟨b1, 0, none⟩) w  hw h_) (hS8.inn0 [(true, 0), (false, 1)] rfl) (gb_inv hc1 hg3)) (by rintro _ _ ⟨rfl, h⟩; exact ⟨rfl, hS8.out00 h⟩)))) ?_ ?_
    · rintro w_4 hS9
      have hS9 : ST _ _ w_4 _ _ := hS9
      refine ⟨(ST.sel hS9 [0, 1] rfl rfl), ?_⟩
      refine ra_gq 7 14 (B := r_1) (v := .bool (!r_2)) rfl rfl rfl (wt_t (gd_of (t := 9) (by kernel_rfl) rfl)) (by kernel_rfl) (by kernel_rfl) (by kernel_rfl) (ST.sel hS9 [0, 1] rfl rfl) (fun hg4 w' hw' => (Y_not (p := r_2) rfl (gv_of (B := r_1) (v := .bool r_2) hg4))) ?_
      refine ra_q 8 15 (v := .bool (r_1 && (!r_2))) rfl rfl rfl (by kernel_rfl) (by kernel_rfl) (by kernel_rfl) (ST.sel hS9 [0, 1] rfl rfl) (fun w' hw' => (Y_and (b := r_1) (z := (!r_2)) rfl rfl rfl rfl)) ?_
      refine ra_q 9 16 (v := .bool (r_1 && (!r_2))) rfl rfl rfl (by kernel_rfl) (by kernel_rfl) (by kernel_rfl) (ST.sel hS9 [0, 1] rfl rfl) (fun w' hw' => (Y_move (v := .bool (r_1 && (!r_2))) rfl rfl)) ?_
      refine ra_gq 10 17 (B := (r_1 && (!r_2))) (v := pt (some ⟨b, 0, none⟩) 0) rfl rfl rfl (wt_t (gd_of (t := 16) (by kernel_rfl) rfl)) (by kernel_rfl) (by kernel_rfl) (by kernel_rfl) (ST.sel hS9 [0, 1] rfl rfl) (fun hg5 w' hw' => (Y_fieldAddr (B := some ⟨b, 0, none⟩) (i := 0) (s := 0) k_fd_50_0_0_48 k_sz_48_1 rfl rfl)) ?_
      refine ra_gq 11 18 (B := (r_1 && (!r_2))) (v := .slice B m.Rows.length c) rfl rfl rfl (wt_t (gd_of (t := 16) (by kernel_rfl) rfl)) (by kernel_rfl) (by kernel_rfl) (by kernel_rfl) (ST.sel hS9 [0, 1] rfl rfl) (fun hg6 w' hw' => (Y_load1 (B := some ⟨b, 0, none⟩) (i := 0) (cs := [.slice B m.Rows.length c]) (v := .slice B m.Rows.length c) k_sc_48 rfl (gv_of (B := (r_1 && (!r_2))) (v := pt (some ⟨b, 0, none⟩) 0) hg6) (ST.cf hw' (i := 0) rfl) rfl)) ?_
      refine ra_gq 13 20 (B := (r_1 && (!r_2))) (v := .int .i64 (m.Rows.length : Int)) rfl rfl rfl (wt_t (gd_of (t := 16) (by kernel_rfl) rfl)) (by kernel_rfl) (by kernel_rfl) (by kernel_rfl) (ST.sel hS9 [0, 1] rfl rfl) (fun hg8 w' hw' => (Y_load1 (B := some ⟨b1, 0, none⟩) (i := 0) (cs := [.int .i64 (m.Rows.length : Int)]) (v := .int .i64 (m.Rows.length : Int)) k_sc_3 rfl rfl (ST.cf hw' (i := 1) rfl) rfl)) ?_
      refine ra_all (rs := [12]) (by kernel_rfl) rfl ?_
      refine ra_gc 19 (i := 12) (B := (r_1 && (!r_2))) (v := .int .i64 r_3) (F := hS9.fn) rfl rfl rfl (wt_t (gd_of (t := 16) (by kernel_rfl) rfl)) hS9 (fun hg7 => (Yc_func (g := 127) (vs := [.slice B m.Rows.length c]) k_call_127 rfl (mc (gv_of (B := (r_1 && (!r_2))) (v := .slice B m.Rows.length c) hg7) mn) (CV.mono (c_impl_rankOf m.Rows B c m.Rows.length _ rfl (hS9.inn0 [(true, 0)] rfl) (gb_inv hc2 hg7)) (by rintro _ _ ⟨rfl, h⟩; exact ⟨rfl, hS9.out00 h⟩)))) ?_ ?_
      · rintro w_5 hS10
        have hS10 : ST _ _ w_5 _ _ := hS10
        refine ⟨(ST.sel hS10 [0, 1] rfl rfl), ?_⟩
        refine ra_gq 14 21 (B := (r_1 && (!r_2))) (v := .bool (r_3 == (m.Rows.length : Int))) rfl rfl rfl (wt_t (gd_of (t := 16) (by kernel_rfl) rfl)) (by kernel_rfl) (by kernel_rfl) (by kernel_rfl) (ST.sel hS10 [0, 1] rfl rfl) (fun hg9 w' hw' => (Y_eq (k := .i64) (a := r_3) (b := (m.Rows.length : Int)) rfl (gv_of (B := (r_1 && (!r_2))) (v := .int .i64 r_3) hg9) (gv_of (B := (r_1 && (!r_2))) (v := .int .i64 (m.Rows.length : Int)) hg9))) ?_
        refine ra_q 15 22 (v := .bool ((r_1 && (!r_2)) && (r_3 == (m.Rows.length : Int)))) rfl rfl rfl (by kernel_rfl) (by kernel_rfl) (by kernel_rfl) (ST.sel hS10 [0, 1] rfl rfl) (fun w' hw' => (Y_and (b := (r_1 && (!r_2))) (z := (r_3 == (m.Rows.length : Int))) rfl rfl rfl rfl)) ?_
        refine ra_q 16 2 (v := .bool ((r_1 && (!r_2)) && (r_3 == (m.Rows.length : Int)))) rfl rfl rfl (by kernel_rfl) (by kernel_rfl) (by kernel_rfl) (ST.sel hS10 [0, 1] rfl rfl) (fun w' hw' => (Y_assign (v := .bool ((r_1 && (!r_2)) && (r_3 == (m.Rows.length : Int)))) rfl rfl)) ?_
        refine ra_done (by kernel_rfl) ?_
        refine cw_ret ?_
        obtain rfl := some_inj hF
        exact ret1 Try.results85 (v1 := .bool ((r_1 && (!r_2)) && (r_3 == (m.Rows.length : Int)))) (resAt_tmp rfl) ⟨rfl, (ST.subR (R' := []) (hS10.sel [] rfl rfl) (fun _ h => by cases h))⟩
      exact allR_nil
    exact allR_nil
  exact allR_nil

theorem c_impl_IsValidPhasePoly (p : TPhasePoly) (B : Option Addr) (c n : Nat) (B1 : Option Addr) (c1 n1 : Nat) (w0 : World) (hn : p.Terms.length = n) (hn1 : p.Out.Rows.length = n1) (hS : ST w0 [] w0 [] [⟨B, (p.Terms.flatMap enc_Term)⟩, ⟨B1, (p.Out.Rows.flatMap encI)⟩]) {r_ : Bool} (hF : F_impl_IsValidPhasePoly p = some r_) :
    CV Try.prog 30 #[.agg #[.int .i64 p.Qubits, .int .i64 p.Phase, .slice B n c, .slice B1 n1 c1]] w0 (fun v w' => v = .bool r_ ∧ ST w0 [] w' [] []) := by
  subst hn
  subst hn1
  unfold F_impl_IsValidPhasePoly at hF
  refine cv_of_cw 32 Try.func30 rfl Try.ntmps30 rfl ?_
  refine cw_seq ?_
  refine cw_region ?_
  refine ss 1 rfl rfl (Ys_box (T := 52) (v := .agg #[.int .i64 p.Qubits, .int .i64 p.Phase, .slice B p.Terms.length c, .slice B1 p.Out.Rows.length c1]) (cs := [.int .i64 p.Qubits, .int .i64 p.Phase, .slice B p.Terms.length c, .slice B1 p.Out.Rows.length c1]) (m := 4) hS rfl rfl rfl rfl) ?_
  rintro _ w_ ⟨b, rfl, hS1⟩
  refine sq 2 rfl rfl (Y_assign (v := .bool false) rfl rfl) ?_
  refine rw_nil ?_
  refine cw_seq ?_
  refine cw_region ?_
  refine sq 3 rfl rfl (Y_fieldAddr (B := some ⟨b, 0, none⟩) (i := 0) (s := 0) k_fd_52_0_0_3 k_sz_3_1 rfl rfl) ?_
  refine sq 4 rfl rfl (Y_load1 (B := some ⟨b, 0, none⟩) (i := 0) (cs := [.int .i64 p.Qubits, .int .i64 p.Phase, .slice B p.Terms.length c, .slice B1 p.Out.Rows.length c1]) (v := .int .i64 p.Qubits) k_sc_3 rfl rfl (hS1.cf (i := 0) rfl) rfl) ?_
  obtain ⟨r_1, hc, hF⟩ := bind_inv hF
  refine sc 5 rfl rfl (Yc_func (g := 82) (vs := [.int .i64 p.Qubits, .int .i64 1, .int .i64 5]) k_call_82 rfl (mc rfl (mc rfl (mc rfl mn))) (c_impl_within p.Qubits 1 5 _  (hS1.inn0 [] rfl) hc)) ?_
  rintro _ w_1 ⟨rfl, hd⟩
  have hS2 := hS1.out00 hd
  refine sq 6 rfl rfl (Y_move (v := .bool r_1) rfl rfl) ?_
  refine sgq 7 (B := r_1) (v := pt (some ⟨b, 0, none⟩) 1) rfl rfl (wt_t (gd_of (t := 6) (by kernel_rfl) rfl)) (fun hg => (Y_fieldAddr (B := some ⟨b, 0, none⟩) (i := 0) (s := 0) k_fd_52_1_1_3 k_sz_3_1 rfl rfl)) ?_
  refine sgq 8 (B := r_1) (v := .int .i64 p.Phase) rfl rfl (wt_t (gd_of (t := 6) (by kernel_rfl) rfl)) (fun hg1 => (Y_load1 (B := some ⟨b, 0, none⟩) (i := 1) (cs := [.int .i64 p.Qubits, .int .i64 p.Phase, .slice B p.Terms.length c, .slice B1 p.Out.Rows.length c1]) (v := .int .i64 p.Phase) k_sc_3 rfl (gv_of (B := r_1) (v := pt (some ⟨b, 0, none⟩) 1) hg1) (hS2.cf (i := 0) rfl) rfl)) ?_
  obtain ⟨r_2, hc1, hF⟩ := bind_inv hF
  refine sgc 9 (B := r_1) (v := .bool r_2) (F := hS2.fn) rfl rfl (wt_t (gd_of (t := 6) (by kernel_rfl) rfl)) hS2 (fun hg2 => (Yc_func (g := 82) (vs := [.int .i64 p.Phase, .int .i64 0, .int .i64 7]) k_call_82 rfl (mc (gv_of (B := r_1) (v := .int .i64 p.Phase) hg2) (mc rfl (mc rfl mn))) (CV.mono (c_impl_within p.Phase 0 7 _  (hS2.inn0 [] rfl) (gb_inv hc1 hg2)) (by rintro _ _ ⟨rfl, h⟩; exact ⟨rfl, hS2.out00 h⟩)))) ?_
  rintro w_2 hS3
  have hS3 : ST _ _ w_2 _ _ := hS3
  refine sq 10 rfl rfl (Y_and (b := r_1) (z := r_2) rfl rfl rfl rfl) ?_
  refine sq 11 rfl rfl (Y_move (v := .bool (r_1 && r_2)) rfl rfl) ?_
  refine sgq 12 (B := (r_1 && r_2)) (v := pt (some ⟨b, 0, none⟩) 0) rfl rfl (wt_t (gd_of (t := 11) (by kernel_rfl) rfl)) (fun hg3 => (Y_fieldAddr (B := some ⟨b, 0, none⟩) (i := 0) (s := 0) k_fd_52_0_0_3 k_sz_3_1 rfl rfl)) ?_
  refine sgq 13 (B := (r_1 && r_2)) (v := .int .i64 p.Qubits) rfl rfl (wt_t (gd_of (t := 11) (by kernel_rfl) rfl)) (fun hg4 => (Y_load1 (B := some ⟨b, 0, none⟩) (i := 0) (cs := [.int .i64 p.Qubits, .int .i64 p.Phase, .slice B p.Terms.length c, .slice B1 p.Out.Rows.length c1]) (v := .int .i64 p.Qubits) k_sc_3 rfl (gv_of (B := (r_1 && r_2)) (v := pt (some ⟨b, 0, none⟩) 0) hg4) (hS3.cf (i := 0) rfl) rfl)) ?_
  refine sgq 14 (B := (r_1 && r_2)) (v := pt (some ⟨b, 0, none⟩) 2) rfl rfl (wt_t (gd_of (t := 11) (by kernel_rfl) rfl)) (fun hg5 => (Y_fieldAddr (B := some ⟨b, 0, none⟩) (i := 0) (s := 0) k_fd_52_2_2_47 k_sz_47_1 rfl rfl)) ?_
  refine sgq 15 (B := (r_1 && r_2)) (v := .slice B p.Terms.length c) rfl rfl (wt_t (gd_of (t := 11) (by kernel_rfl) rfl)) (fun hg6 => (Y_load1 (B := some ⟨b, 0, none⟩) (i := 2) (cs := [.int .i64 p.Qubits, .int .i64 p.Phase, .slice B p.Terms.length c, .slice B1 p.Out.Rows.length c1]) (v := .slice B p.Terms.length c) k_sc_47 rfl (gv_of (B := (r_1 && r_2)) (v := pt (some ⟨b, 0, none⟩) 2) hg6) (hS3.cf (i := 0) rfl) rfl)) ?_
  obtain ⟨r_3, hc2, hF⟩ := bind_inv hF
  refine sgc 16 (B := (r_1 && r_2)) (v := .bool r_3) (F := hS3.fn) rfl rfl (wt_t (gd_of (t := 11) (by kernel_rfl) rfl)) hS3 (fun hg7 => (Yc_func (g := 84) (vs := [.int .i64 p.Qubits, .slice B p.Terms.length c]) k_call_84 rfl (mc (gv_of (B := (r_1 && r_2)) (v := .int .i64 p.Qubits) hg7) (mc (gv_of (B := (r_1 && r_2)) (v := .slice B p.Terms.length c) hg7) mn)) (CV.mono (c_impl_areTerms p.Qubits p.Terms B c p.Terms.length _ rfl (hS3.inn0 [(true, 0)] rfl) (gb_inv hc2 hg7)) (by rintro _ _ ⟨rfl, h⟩; exact ⟨rfl, hS3.out00 h⟩)))) ?_
  rintro w_3 hS4
  have hS4 : ST _ _ w_3 _ _ := hS4
  refine sq 17 rfl rfl (Y_and (b := (r_1 && r_2)) (z := r_3) rfl rfl rfl rfl) ?_
  refine sq 18 rfl rfl (Y_move (v := .bool ((r_1 && r_2) && r_3)) rfl rfl) ?_
  refine sgq 19 (B := ((r_1 && r_2) && r_3)) (v := pt (some ⟨b, 0, none⟩) 3) rfl rfl (wt_t (gd_of (t := 18) (by kernel_rfl) rfl)) (fun hg8 => (Y_fieldAddr (B := some ⟨b, 0, none⟩) (i := 0) (s := 0) k_fd_52_3_3_50 k_sz_50_1 rfl rfl)) ?_
  refine sgq 20 (B := ((r_1 && r_2) && r_3)) (v := pt (some ⟨b, 0, none⟩) 3) rfl rfl (wt_t (gd_of (t := 18) (by kernel_rfl) rfl)) (fun hg9 => (Y_fieldAddr (B := some ⟨b, 0, none⟩) (i := 3) (s := 0) k_fd_50_0_0_48 k_sz_48_1 rfl (gv_of (B := ((r_1 && r_2) && r_3)) (v := pt (some ⟨b, 0, none⟩) 3) hg9))) ?_
  refine sgq 21 (B := ((r_1 && r_2) && r_3)) (v := .slice B1 p.Out.Rows.length c1) rfl rfl (wt_t (gd_of (t := 18) (by kernel_rfl) rfl)) (fun hg10 => (Y_load1 (B := some ⟨b, 0, none⟩) (i := 3) (cs := [.int .i64 p.Qubits, .int .i64 p.Phase, .slice B p.Terms.length c, .slice B1 p.Out.Rows.length c1]) (v := .slice B1 p.Out.Rows.length c1) k_sc_48 rfl (gv_of (B := ((r_1 && r_2) && r_3)) (v := pt (some ⟨b, 0, none⟩) 3) hg10) (hS4.cf (i := 0) rfl) rfl)) ?_
  refine sgq 22 (B := ((r_1 && r_2) && r_3)) (v := .int .i64 (p.Out.Rows.length : Int)) rfl rfl (wt_t (gd_of (t := 18) (by kernel_rfl) rfl)) (fun hg11 => (Y_len (B := B1) (m := p.Out.Rows.length) (c := c1) k_sl_48_3 rfl (gv_of (B := ((r_1 && r_2) && r_3)) (v := .slice B1 p.Out.Rows.length c1) hg11))) ?_
  refine sgq 23 (B := ((r_1 && r_2) && r_3)) (v := pt (some ⟨b, 0, none⟩) 0) rfl rfl (wt_t (gd_of (t := 18) (by kernel_rfl) rfl)) (fun hg12 => (Y_fieldAddr (B := some ⟨b, 0, none⟩) (i := 0) (s := 0) k_fd_52_0_0_3 k_sz_3_1 rfl rfl)) ?_
  refine sgq 24 (B := ((r_1 && r_2) && r_3)) (v := .int .i64 p.Qubits) rfl rfl (wt_t (gd_of (t := 18) (by kernel_rfl) rfl)) (fun hg13 => (Y_load1 (B := some ⟨b, 0, none⟩) (i := 0) (cs := [.int .i64 p.Qubits, .int .i64 p.Phase, .slice B p.Terms.length c, .slice B1 p.Out.Rows.length c1]) (v := .int .i64 p.Qubits) k_sc_3 rfl (gv_of (B := ((r_1 && r_2) && r_3)) (v := pt (some ⟨b, 0, none⟩) 0) hg13) (hS4.cf (i := 0) rfl) rfl)) ?_
  refine sgq 25 (B := ((r_1 && r_2) && r_3)) (v := .bool ((p.Out.Rows.length : Int) == p.Qubits)) rfl rfl (wt_t (gd_of (t := 18) (by kernel_rfl) rfl)) (fun hg14 => (Y_eq (k := .i64) (a := (p.Out.Rows.length : Int)) (b := p.Qubits) rfl (gv_of (B := ((r_1 && r_2) && r_3)) (v := .int .i64 (p.Out.Rows.length : Int)) hg14) (gv_of (B := ((r_1 && r_2) && r_3)) (v := .int .i64 p.Qubits) hg14))) ?_
  refine sq 26 rfl rfl (Y_and (b := ((r_1 && r_2) && r_3)) (z := ((p.Out.Rows.length : Int) == p.Qubits)) rfl rfl rfl rfl) ?_
  refine sq 27 rfl rfl (Y_move (v := .bool (((r_1 && r_2) && r_3) && ((p.Out.Rows.length : Int) == p.Qubits))) rfl rfl) ?_
  refine sgq 28 (B := (((r_1 && r_2) && r_3) && ((p.Out.Rows.length : Int) == p.Qubits))) (v := pt (some ⟨b, 0, none⟩) 3) rfl rfl (wt_t (gd_of (t := 27) (by kernel_rfl) rfl)) (fun hg15 => (Y_fieldAddr (B := some ⟨b, 0, none⟩) (i := 0) (s := 0) k_fd_52_3_3_50 k_sz_50_1 rfl rfl)) ?_
  refine sgq 29 (B := (((r_1 && r_2) && r_3) && ((p.Out.Rows.length : Int) == p.Qubits))) (v := .agg #[.slice B1 p.Out.Rows.length c1]) rfl rfl (wt_t (gd_of (t := 27) (by kernel_rfl) rfl)) (fun hg16 => (Y_loadA (B := some ⟨b, 0, none⟩) (i := 3) (cs := [.int .i64 p.Qubits, .int .i64 p.Phase, .slice B p.Terms.length c, .slice B1 p.Out.Rows.length c1]) (vs := [.slice B1 p.Out.Rows.length c1]) k_ag_50 k_sz_50_1 rfl (gv_of (B := (((r_1 && r_2) && r_3) && ((p.Out.Rows.length : Int) == p.Qubits))) (v := pt (some ⟨b, 0, none⟩) 3) hg16) (hS4.cf (i := 0) rfl) rfl rfl)) ?_
  obtain ⟨r_4, hc3, hF⟩ := bind_inv hF
  refine sgc 30 (B := (((r_1 && r_2) && r_3) && ((p.Out.Rows.length : Int) == p.Qubits))) (v := .bool r_4) (F := hS4.fn) rfl rfl (wt_t (gd_of (t := 27) (by kernel_rfl) rfl)) hS4 (fun hg17 => (Yc_func (g := 85) (vs := [.agg #[.slice B1 p.Out.Rows.length c1]]) k_call_85 rfl (mc (gv_of (B := (((r_1 && r_2) && r_3) && ((p.Out.Rows.length : Int) == p.Qubits))) (v := .agg #[.slice B1 p.Out.Rows.length c1]) hg17) mn) (CV.mono (c_impl_IsValidLinear p.Out B1 c1 p.Out.Rows.length _ rfl (hS4.inn0 [(true, 1)] rfl) (gb_inv hc3 hg17)) (by rintro _ _ ⟨rfl, h⟩; exact ⟨rfl, hS4.out00 h⟩)))) ?_
  rintro w_4 hS5
  have hS5 : ST _ _ w_4 _ _ := hS5
  refine sq 31 rfl rfl (Y_and (b := (((r_1 && r_2) && r_3) && ((p.Out.Rows.length : Int) == p.Qubits))) (z := r_4) rfl rfl rfl rfl) ?_
  refine sq 2 rfl rfl (Y_assign (v := .bool ((((r_1 && r_2) && r_3) && ((p.Out.Rows.length : Int) == p.Qubits)) && r_4)) rfl rfl) ?_
  refine rw_nil ?_
  refine cw_ret ?_
  obtain rfl := some_inj hF
  exact ret1 Try.results30 (v1 := .bool ((((r_1 && r_2) && r_3) && ((p.Out.Rows.length : Int) == p.Qubits)) && r_4)) (resAt_tmp rfl) ⟨rfl, (ST.subR (R' := []) (hS5.sel [] rfl rfl) (fun _ h => by cases h))⟩

theorem c_impl_coefficients_add (c : List Int) (mask : Int) (coef : Int) (B : Option Addr) (w0 : World) (hlen : c.length = 32) (hS : ST w0 (bl [⟨B, 102, (c.flatMap encI), 32⟩]) w0 [⟨B, 102, (c.flatMap encI), 32⟩] []) {m : List Int} (hF : F_impl_coefficients_add c mask coef = some m) :
    CV Try.prog 72 #[pt B 0, .int .i64 mask, .int .i64 coef] w0 (fun v w' => v = .tuple #[] ∧ m.length = 32 ∧ ST w0 (bl [⟨B, 102, (c.flatMap encI), 32⟩]) w' [⟨B, 102, (m.flatMap encI), 32⟩] []) := by
  unfold F_impl_coefficients_add at hF
  refine cv_of_cw 20 Try.func72 rfl Try.ntmps72 rfl ?_
  obtain ⟨x, hx, hF⟩ := bind_inv hF
  refine ra_start (ST.sel hS [] rfl rfl).fn (by kernel_rfl) ?_
  have hS1 := hS.drew
  refine ra_q 0 6 (v := pt B 0) rfl rfl rfl (by kernel_rfl) (by kernel_rfl) (by kernel_rfl) (ST.sel hS1 [] rfl rfl) (fun w' hw' => (Y_move (v := pt B 0) rfl rfl)) ?_
  refine ra_q 1 7 (v := .int .i64 mask) rfl rfl rfl (by kernel_rfl) (by kernel_rfl) (by kernel_rfl) (ST.sel hS1 [] rfl rfl) (fun w' hw' => (Y_move (v := .int .i64 mask) rfl rfl)) ?_
  refine ra_q 2 8 (v := pt B 0) rfl rfl rfl (by kernel_rfl) (by kernel_rfl) (by kernel_rfl) (ST.sel hS1 [] rfl rfl) (fun w' hw' => (Y_move (v := pt B 0) rfl rfl)) ?_
  refine ra_q 3 9 (v := .int .i64 mask) rfl rfl rfl (by kernel_rfl) (by kernel_rfl) (by kernel_rfl) (ST.sel hS1 [] rfl rfl) (fun w' hw' => (Y_move (v := .int .i64 mask) rfl rfl)) ?_
  refine ra_q 4 10 (v := pt B 0) rfl rfl rfl (by kernel_rfl) (by kernel_rfl) (by kernel_rfl) (ST.sel hS1 [] rfl rfl) (fun w' hw' => (Y_nilCheck (B := B) (i := 0) rfl rfl)) ?_
  refine ra_q 5 11 (v := pt B (mask.toNat * 1)) rfl rfl rfl (by kernel_rfl) (by kernel_rfl) (by kernel_rfl) (ST.sel hS1 [] rfl rfl) (fun w' hw' => (Y_indexArr0 (B := B) (k := .i64) (i := mask) k_ar_102_32_3 k_sz_3_1 rfl rfl rfl (getI_nn hx) (getI_ltI hx hlen))) ?_
  refine ra_q 7 13 (v := .int .i64 coef) rfl rfl rfl (by kernel_rfl) (by kernel_rfl) (by kernel_rfl) (ST.sel hS1 [] rfl rfl) (fun w' hw' => (Y_move (v := .int .i64 coef) rfl rfl)) ?_
  refine ra_q 12 18 (v := pt B 0) rfl rfl rfl (by kernel_rfl) (by kernel_rfl) (by kernel_rfl) (ST.sel hS1 [] rfl rfl) (fun w' hw' => (Y_nilCheck (B := B) (i := 0) rfl rfl)) ?_
  refine ra_all (rs := [6]) (by kernel_rfl) rfl ?_
  refine ra_y 12 (i := 6) (v := .int .i64 x) rfl rfl rfl (Y_load1 (B := B) (i := mask.toNat * 1) (cs := (c.flatMap encI)) (v := .int .i64 x) k_sc_3 rfl rfl (hS1.cf (i := 0) rfl) (gi_at0 encI_len hx rfl)) (ST.sel hS1 [] rfl rfl) ?_ ?_
  · skip
    refine ra_q 8 14 (v := .int .i64 (IntKind.i64.wrap (x + coef))) rfl rfl rfl (by kernel_rfl) (by kernel_rfl) (by kernel_rfl) (ST.sel hS1 [] rfl rfl) (fun w' hw' => (Y_add (k := .i64) (a := x) (b := coef) rfl rfl rfl)) ?_
    refine ra_q 9 15 (v := .int .i64 (Int.tmod (IntKind.i64.wrap (x + coef)) 8)) rfl rfl rfl (by kernel_rfl) (by kernel_rfl) (by kernel_rfl) (ST.sel hS1 [] rfl rfl) (fun w' hw' => (Y_rem (k := .i64) (a := (IntKind.i64.wrap (x + coef))) (b := 8) rfl rfl rfl (by decide))) ?_
    refine ra_q 10 16 (v := .int .i64 (IntKind.i64.wrap ((Int.tmod (IntKind.i64.wrap (x + coef)) 8) + 8))) rfl rfl rfl (by kernel_rfl) (by kernel_rfl) (by kernel_rfl) (ST.sel hS1 [] rfl rfl) (fun w' hw' => (Y_add (k := .i64) (a := (Int.tmod (IntKind.i64.wrap (x + coef)) 8)) (b := 8) rfl rfl rfl)) ?_
    refine ra_q 11 17 (v := .int .i64 (Int.tmod (IntKind.i64.wrap ((Int.tmod (IntKind.i64.wrap (x + coef)) 8) + 8)) 8)) rfl rfl rfl (by kernel_rfl) (by kernel_rfl) (by kernel_rfl) (ST.sel hS1 [] rfl rfl) (fun w' hw' => (Y_rem (k := .i64) (a := (IntKind.i64.wrap ((Int.tmod (IntKind.i64.wrap (x + coef)) 8) + 8))) (b := 8) rfl rfl rfl (by decide))) ?_
    refine ra_q 13 19 (v := pt B (mask.toNat * 1)) rfl rfl rfl (by kernel_rfl) (by kernel_rfl) (by kernel_rfl) (ST.sel hS1 [] rfl rfl) (fun w' hw' => (Y_indexArr0 (B := B) (k := .i64) (i := mask) k_ar_102_32_3 k_sz_3_1 rfl rfl rfl (getI_nn hx) (getI_ltI hx hlen))) ?_
    refine ra_all (rs := [14]) (by kernel_rfl) rfl ?_
    refine ra_s0 (i := 14) rfl rfl rfl (Ys_store (i := 0) (s := 1) (B := B) (T' := 102) (v := .int .i64 (Int.tmod (IntKind.i64.wrap ((Int.tmod (IntKind.i64.wrap (x + coef)) 8) + 8)) 8)) (vs := [.int .i64 (Int.tmod (IntKind.i64.wrap ((Int.tmod (IntKind.i64.wrap (x + coef)) 8) + 8)) 8)]) (k := mask.toNat * 1) (cs' := ((c.set mask.toNat (Int.tmod (IntKind.i64.wrap ((Int.tmod (IntKind.i64.wrap (x + coef)) 8) + 8)) 8)).flatMap encI)) hS1 k_sz_3_1 rfl rfl rfl rfl rfl rfl rfl (gi_fit0 encI_len hx) (gi_set encI_len hx (Int.tmod (IntKind.i64.wrap ((Int.tmod (IntKind.i64.wrap (x + coef)) 8) + 8)) 8) rfl) rfl) ?_ ?_
    · rintro _ w_ ⟨rfl, hS2⟩
      refine ⟨(ST.sel hS2 [] rfl rfl), ?_⟩
      refine ra_done (by kernel_rfl) ?_
      obtain rfl := some_inj hF
      exact ret0 Try.results72  ⟨rfl, (set_len _ _ _ hlen), (ST.subR (R' := []) (hS2.sel [0] rfl rfl) (fun _ h => by cases h))⟩
    exact allR_nil
  exact allR_nil

theorem c_impl_Linear_through (m : TLinear) (mask : Int) (B : Option Addr) (c n : Nat) (w0 : World) (hn : m.Rows.length = n) (hS : ST w0 [] w0 [] [⟨B, (m.Rows.flatMap encI)⟩]) {r_ : Int} (hF : F_impl_Linear_through m mask = some r_) :
    CV Try.prog 73 #[.agg #[.slice B n c], .int .i64 mask] w0 (fun v w' => v = .int .i64 r_ ∧ ST w0 [] w' [] []) := by
  subst hn
  unfold F_impl_Linear_through at hF
  refine cv_of_cw 26 Try.func73 rfl Try.ntmps73 rfl ?_
  refine cw_seq ?_
  refine cw_region ?_
  refine ss 2 rfl rfl (Ys_box (T := 50) (v := .agg #[.slice B m.Rows.length c]) (cs := [.slice B m.Rows.length c]) (m := 1) hS rfl rfl rfl rfl) ?_
  rintro _ w_ ⟨b, rfl, hS1⟩
  refine sq 4 rfl rfl (Y_assign (v := .int .i64 0) rfl rfl) ?_
  refine rw_nil ?_
  refine cw_seq ?_
  refine cw_region ?_
  refine sq 5 rfl rfl (Y_assign (v := .int .i64 0) rfl rfl) ?_
  refine rw_nil ?_
  refine cw_seq ?_
  refine cw_seq ?_
  refine cw_region ?_
  refine sq 8 rfl rfl (Y_fieldAddr (B := some ⟨b, 0, none⟩) (i := 0) (s := 0) k_fd_50_0_0_48 k_sz_48_1 rfl rfl) ?_
  refine sq 9 rfl rfl (Y_load1 (B := some ⟨b, 0, none⟩) (i := 0) (cs := [.slice B m.Rows.length c]) (v := .slice B m.Rows.length c) k_sc_48 rfl rfl (hS1.cf (i := 0) rfl) rfl) ?_
  refine sq 10 rfl rfl (Y_len (B := B) (m := m.Rows.length) (c := c) k_sl_48_3 rfl rfl) ?_
  refine sq 11 rfl rfl (Y_move (v := .int .i64 0) rfl rfl) ?_
  refine rw_nil ?_
  obtain ⟨hN, hF⟩ := chk_inv hF
  obtain ⟨z, hz, hF1⟩ := bind_inv hF
  refine cw_block ?_
  refine cw_loop (fun k f w => ∃ (i : Nat) (out : Int), FF f [(1, .int .i64 mask), (5, .int .i64 out), (9, .slice B m.Rows.length c), (10, .int .i64 (m.Rows.length : Int)), (11, .int .i64 (i : Int))] ∧ ST w0 [] w [] [⟨B, (m.Rows.flatMap encI)⟩] ∧ i + k = m.Rows.length ∧ forN (F_impl_Linear_through_l1 m mask) k i out = some z) m.Rows.length ⟨0, 0, (FF.cons rfl (FF.cons rfl (FF.cons rfl (FF.cons rfl (FF.cons rfl FF.nil))))), (hS1.sel [] rfl rfl), Nat.zero_add _, hz⟩ ?_
  rintro k_ f w ⟨i, out, hf, hS2, hik, hL⟩
  refine cw_seq ?_
  refine cw_region ?_
  refine sq 12 rfl rfl (Y_lt (k := .i64) (a := (i : Int)) (b := (m.Rows.length : Int)) rfl (hf.get 11 4 rfl) (hf.get 10 3 rfl)) ?_
  refine rw_nil ?_
  refine cw_seq ?_
  refine cw_cond (b := (decide ((i : Int) < (m.Rows.length : Int)))) rfl (fun hlt => ?_) (fun hlt => ?_)
  · skip
    have hlt1 : i < m.Rows.length := by have h := of_decide_eq_true hlt; omega
    obtain ⟨k_1, rfl⟩ : ∃ k2, k_ = k2 + 1 := ⟨k_ - 1, by omega⟩
    obtain ⟨y, hb, hL1⟩ := forN_go hL
    unfold F_impl_Linear_through_l1 at hb
    refine cw_skip ?_
    refine cw_seq ?_
    obtain ⟨z1, hz1, hF2⟩ := bind_inv hb
    refine cw_mid (fun f w => ∃ (out1 : Int), out1 = z1 ∧ FF f [(1, .int .i64 mask), (5, .int .i64 out1), (9, .slice B m.Rows.length c), (10, .int .i64 (m.Rows.length : Int)), (11, .int .i64 (i : Int))] ∧ ST w0 [] w [] [⟨B, (m.Rows.flatMap encI)⟩]) ?_ ?_
    · skip
      refine cw_block ?_
      refine cw_seq ?_
      refine cw_region ?_
      refine sq 13 rfl rfl (Y_move (v := .int .i64 (i : Int)) rfl (hf.get 11 4 rfl)) ?_
      obtain ⟨x, hx, hz1⟩ := bind_inv hz1
      refine sq 14 rfl rfl (Y_index (B := B) (m := m.Rows.length) (c := c) (k := .i64) (i := (i : Int)) k_sl_48_3 k_sz_3_1 rfl (hf.get 9 2 rfl) (hf.get 11 4 rfl) (gi_isSome encI_len rfl (hS2.rf (i := 0) rfl) hx) (getI_nn hx) (getI_ltI hx rfl)) ?_
      refine sq 15 rfl rfl (Y_load1 (B := B) (i := (i : Int).toNat * 1) (cs := (m.Rows.flatMap encI)) (v := .int .i64 x) k_sc_3 rfl rfl (hS2.rf (i := 0) rfl) (gi_at0 encI_len hx rfl)) ?_
      refine sq 6 rfl rfl (Y_assign (v := .int .i64 (i : Int)) rfl rfl) ?_
      refine sq 7 rfl rfl (Y_assign (v := .int .i64 x) rfl rfl) ?_
      refine rw_nil ?_
      refine cw_seq ?_
      refine cw_region ?_
      refine sq 16 rfl rfl (Y_move (v := .int .i64 mask) rfl (hf.get 1 0 rfl)) ?_
      refine sq 17 rfl rfl (Y_move (v := .int .i64 (i : Int)) rfl rfl) ?_
      obtain ⟨hsh, hz1⟩ := chk_inv hz1
      refine sq 18 rfl rfl (Y_shr (k := .i64) (a := mask) (k' := .i64) (b := (i : Int)) rfl rfl rfl hsh) ?_
      refine sq 19 rfl rfl (Y_band (k := .i64) (a := (shrK .i64 mask (i : Int))) (b := 1) rfl rfl rfl) ?_
      refine sq 20 rfl rfl (Y_eq (k := .i64) (a := (bits .and .i64 (shrK .i64 mask (i : Int)) 1)) (b := 1) rfl rfl rfl) ?_
      refine rw_nil ?_
      refine cw_cond (b := ((bits .and .i64 (shrK .i64 mask (i : Int)) 1) == 1)) rfl (fun hb1 => ?_) (fun hb1 => ?_)
      · skip
        have hF3 := ct hz1 hb1
        refine cw_region ?_
        refine sq 21 rfl rfl (Y_move (v := .int .i64 out) rfl (hf.get 5 1 rfl)) ?_
        refine sq 22 rfl rfl (Y_move (v := .int .i64 x) rfl rfl) ?_
        refine sq 23 rfl rfl (Y_bxor (k := .i64) (a := out) (b := x) rfl rfl rfl) ?_
        refine sq 5 rfl rfl (Y_assign (v := .int .i64 (bits .xor .i64 out x)) rfl rfl) ?_
        refine rw_nil ?_
        exact ⟨(bits .xor .i64 out x), (some_inj hF3), (FF.cons (hf.get 1 0 rfl) (FF.cons rfl (FF.cons (hf.get 9 2 rfl) (FF.cons (hf.get 10 3 rfl) (FF.cons (hf.get 11 4 rfl) FF.nil))))), (hS2.sel [] rfl rfl)⟩
      · skip
        have hF4 := cf' hz1 hb1
        refine cw_skip ?_
        exact ⟨out, (some_inj hF4), (FF.cons (hf.get 1 0 rfl) (FF.cons (hf.get 5 1 rfl) (FF.cons (hf.get 9 2 rfl) (FF.cons (hf.get 10 3 rfl) (FF.cons (hf.get 11 4 rfl) FF.nil))))), (hS2.sel [] rfl rfl)⟩
    rintro f w ⟨out1, rfl, hf1, hS3⟩
    refine cw_region ?_
    refine sq 24 rfl rfl (Y_add (k := .i64) (a := (i : Int)) (b := 1) rfl (hf1.get 11 4 rfl) rfl) ?_
    refine sq 11 rfl rfl (Y_move (v := .int .i64 (IntKind.i64.wrap ((i : Int) + 1))) rfl rfl) ?_
    refine rw_nil ?_
    obtain rfl := some_inj hF2
    exact ⟨k_1, Nat.lt_succ_self _, i + 1, out1, (FF.cons (hf1.get 1 0 rfl) (FF.cons (hf1.get 5 1 rfl) (FF.cons (hf1.get 9 2 rfl) (FF.cons (hf1.get 10 3 rfl) (FF.cons (congrArg (Value.int .i64) (wr_succ hlt1 hN)) FF.nil))))), (hS3.sel [] rfl rfl), (by omega), hL1⟩
  · skip
    obtain rfl : k_ = 0 := by have h := of_decide_eq_false hlt; omega
    refine cw_exit rfl ?_
    obtain rfl := some_inj hL
    refine cw_seq ?_
    refine cw_region ?_
    refine sq 25 rfl rfl (Y_move (v := .int .i64 out) rfl (hf.get 5 1 rfl)) ?_
    refine sq 4 rfl rfl (Y_assign (v := .int .i64 out) rfl rfl) ?_
    refine rw_nil ?_
    refine cw_ret ?_
    obtain rfl := some_inj hF1
    exact ret1 Try.results73 (v1 := .int .i64 out) (resAt_tmp rfl) ⟨rfl, (ST.subR (R' := []) (hS2.sel [] rfl rfl) (fun _ h => by cases h))⟩

theorem c_impl_ComposeLinear (first : TLinear) (second : TLinear) (B : Option Addr) (c n : Nat) (B1 : Option Addr) (c1 n1 : Nat) (w0 : World) (hn : first.Rows.length = n) (hn1 : second.Rows.length = n1) (hS : ST w0 [] w0 [] [⟨B, (first.Rows.flatMap encI)⟩, ⟨B1, (second.Rows.flatMap encI)⟩]) {r_ : TLinear} {r_1 : Bool} (hF : F_impl_ComposeLinear first second = some (r_, r_1)) :
    CV Try.prog 74 #[.agg #[.slice B n c], .agg #[.slice B1 n1 c1]] w0 (fun v w' => ∃ (B2 : Option Addr) (c2 : Nat), v = .tuple #[.agg #[.slice B2 r_.Rows.length c2], .bool r_1] ∧ ST w0 [] w' [⟨B2, 3, (r_.Rows.flatMap encI), c2 * 1⟩] []) := by
  subst hn
  subst hn1
  unfold F_impl_ComposeLinear at hF
  refine cv_of_cw 45 Try.func74 rfl Try.ntmps74 rfl ?_
  refine cw_seq ?_
  refine cw_region ?_
  refine ss 2 rfl rfl (Ys_box (T := 50) (v := .agg #[.slice B first.Rows.length c]) (cs := [.slice B first.Rows.length c]) (m := 1) hS rfl rfl rfl rfl) ?_
  rintro _ w_ ⟨b, rfl, hS1⟩
  refine ss 3 rfl rfl (Ys_box (T := 50) (v := .agg #[.slice B1 second.Rows.length c1]) (cs := [.slice B1 second.Rows.length c1]) (m := 1) hS1 rfl rfl rfl rfl) ?_
  rintro _ w_1 ⟨b1, rfl, hS2⟩
  have hS2 : ST w0 [] _ [⟨some ⟨b, 0, none⟩, 50, [.slice B first.Rows.length c], 1⟩, ⟨some ⟨b1, 0, none⟩, 50, [.slice B1 second.Rows.length c1], 1⟩] [⟨B, (first.Rows.flatMap encI)⟩, ⟨B1, (second.Rows.flatMap encI)⟩] := hS2
  refine ss 4 rfl rfl (Ys_alloc (T := 50) (cs := [.slice none 0 0]) (m := 1) hS2 k_zero_50 rfl rfl rfl) ?_
  rintro _ w_2 ⟨b2, rfl, hS3⟩
  have hS3 : ST w0 [] _ [⟨some ⟨b, 0, none⟩, 50, [.slice B first.Rows.length c], 1⟩, ⟨some ⟨b1, 0, none⟩, 50, [.slice B1 second.Rows.length c1], 1⟩, ⟨some ⟨b2, 0, none⟩, 50, [.slice none 0 0], 1⟩] [⟨B, (first.Rows.flatMap encI)⟩, ⟨B1, (second.Rows.flatMap encI)⟩] := hS3
  refine sq 5 rfl rfl (Y_assign (v := .bool false) rfl rfl) ?_
  refine rw_nil ?_
  refine cw_seq ?_
  refine cw_seq ?_
  refine cw_region ?_
  refine sq 9 rfl rfl (Y_loadA (B := some ⟨b, 0, none⟩) (i := 0) (cs := [.slice B first.Rows.length c]) (vs := [.slice B first.Rows.length c]) k_ag_50 k_sz_50_1 rfl rfl (hS3.cf (i := 0) rfl) rfl rfl) ?_
  obtain ⟨r_2, hc, hF⟩ := bind_inv hF
  refine sc 10 rfl rfl (Yc_func (g := 85) (vs := [.agg #[.slice B first.Rows.length c]]) k_call_85 rfl (mc rfl mn) (c_impl_IsValidLinear first B c first.Rows.length _ rfl (hS3.inn0 [(true, 0)] rfl) hc)) ?_
  rintro _ w_3 ⟨rfl, hd⟩
  have hS4 := hS3.out00 hd
  have hS4 : ST w0 [] _ [⟨some ⟨b, 0, none⟩, 50, [.slice B first.Rows.length c], 1⟩, ⟨some ⟨b1, 0, none⟩, 50, [.slice B1 second.Rows.length c1], 1⟩, ⟨some ⟨b2, 0, none⟩, 50, [.slice none 0 0], 1⟩] [⟨B, (first.Rows.flatMap encI)⟩, ⟨B1, (second.Rows.flatMap encI)⟩] := hS4
  refine sq 11 rfl rfl (Y_not (p := r_2) rfl rfl) ?_
  refine sq 12 rfl rfl (Y_move (v := .bool (!r_2)) rfl rfl) ?_
  refine sgq 13 (B := (!(!r_2))) (v := .agg #[.slice B1 second.Rows.length c1]) rfl rfl (wt_f (gd_of (t := 12) (by kernel_rfl) rfl)) (fun hg => (Y_loadA (B := some ⟨b1, 0, none⟩) (i := 0) (cs := [.slice B1 second.Rows.length c1]) (vs := [.slice B1 second.Rows.length c1]) k_ag_50 k_sz_50_1 rfl rfl (hS4.cf (i := 1) rfl) rfl rfl)) ?_
  obtain ⟨r_3, hc1, hF⟩ := bind_inv hF
  refine sgc 14 (B := (!(!r_2))) (v := .bool r_3) (F := hS4.fn) rfl rfl (wt_f (gd_of (t := 12) (by kernel_rfl) rfl)) hS4 (fun hg1 => (Yc_func (g := 85) (vs := [.agg #[.slice B1 second.Rows.length c1]]) k_call_85 rfl (mc (gv_of (B := (!(!r_2))) (v := .agg #[.slice B1 second.Rows.length c1]) hg1) mn) (CV.mono (c_impl_IsValidLinear second B1 c1 second.Rows.length _ rfl (hS4.inn0 [(true, 1)] rfl) (gb_inv hc1 hg1)) (by rintro _ _ ⟨rfl, h⟩; exact ⟨rfl, hS4.out00 h⟩)))) ?_
  rintro w_4 hS5
  have hS5 : ST _ _ w_4 _ _ := hS5
  refine sgq 15 (B := (!(!r_2))) (v := .bool (!r_3)) rfl rfl (wt_f (gd_of (t := 12) (by kernel_rfl) rfl)) (fun hg2 => (Y_not (p := r_3) rfl (gv_of (B := (!(!r_2))) (v := .bool r_3) hg2))) ?_
  refine sq 16 rfl rfl (Y_or (b := (!r_2)) (z := (!r_3)) rfl rfl rfl rfl) ?_
  refine sq 17 rfl rfl (Y_move (v := .bool ((!r_2) || (!r_3))) rfl rfl) ?_
  refine sgq 18 (B := (!((!r_2) || (!r_3)))) (v := pt (some ⟨b, 0, none⟩) 0) rfl rfl (wt_f (gd_of (t := 17) (by kernel_rfl) rfl)) (fun hg3 => (Y_fieldAddr (B := some ⟨b, 0, none⟩) (i := 0) (s := 0) k_fd_50_0_0_48 k_sz_48_1 rfl rfl)) ?_
  refine sgq 19 (B := (!((!r_2) || (!r_3)))) (v := .slice B first.Rows.length c) rfl rfl (wt_f (gd_of (t := 17) (by kernel_rfl) rfl)) (fun hg4 => (Y_load1 (B := some ⟨b, 0, none⟩) (i := 0) (cs := [.slice B first.Rows.length c]) (v := .slice B first.Rows.length c) k_sc_48 rfl (gv_of (B := (!((!r_2) || (!r_3)))) (v := pt (some ⟨b, 0, none⟩) 0) hg4) (hS5.cf (i := 0) rfl) rfl)) ?_
  refine sgq 20 (B := (!((!r_2) || (!r_3)))) (v := .int .i64 (first.Rows.length : Int)) rfl rfl (wt_f (gd_of (t := 17) (by kernel_rfl) rfl)) (fun hg5 => (Y_len (B := B) (m := first.Rows.length) (c := c) k_sl_48_3 rfl (gv_of (B := (!((!r_2) || (!r_3)))) (v := .slice B first.Rows.length c) hg5))) ?_
  refine sgq 21 (B := (!((!r_2) || (!r_3)))) (v := pt (some ⟨b1, 0, none⟩) 0) rfl rfl (wt_f (gd_of (t := 17) (by kernel_rfl) rfl)) (fun hg6 => (Y_fieldAddr (B := some ⟨b1, 0, none⟩) (i := 0) (s := 0) k_fd_50_0_0_48 k_sz_48_1 rfl rfl)) ?_
  refine sgq 22 (B := (!((!r_2) || (!r_3)))) (v := .slice B1 second.Rows.length c1) rfl rfl (wt_f (gd_of (t := 17) (by kernel_rfl) rfl)) (fun hg7 => (Y_load1 (B := some ⟨b1, 0, none⟩) (i := 0) (cs := [.slice B1 second.Rows.length c1]) (v := .slice B1 second.Rows.length c1) k_sc_48 rfl (gv_of (B := (!((!r_2) || (!r_3)))) (v := pt (some ⟨b1, 0, none⟩) 0) hg7) (hS5.cf (i := 1) rfl) rfl)) ?_
  refine sgq 23 (B := (!((!r_2) || (!r_3)))) (v := .int .i64 (second.Rows.length : Int)) rfl rfl (wt_f (gd_of (t := 17) (by kernel_rfl) rfl)) (fun hg8 => (Y_len (B := B1) (m := second.Rows.length) (c := c1) k_sl_48_3 rfl (gv_of (B := (!((!r_2) || (!r_3)))) (v := .slice B1 second.Rows.length c1) hg8))) ?_
  refine sgq 24 (B := (!((!r_2) || (!r_3)))) (v := .bool ((first.Rows.length : Int) != (second.Rows.length : Int))) rfl rfl (wt_f (gd_of (t := 17) (by kernel_rfl) rfl)) (fun hg9 => (Y_ne (k := .i64) (a := (first.Rows.length : Int)) (b := (second.Rows.length : Int)) rfl (gv_of (B := (!((!r_2) || (!r_3)))) (v := .int .i64 (first.Rows.length : Int)) hg9) (gv_of (B := (!((!r_2) || (!r_3)))) (v := .int .i64 (second.Rows.length : Int)) hg9))) ?_
  refine sq 25 rfl rfl (Y_or (b := ((!r_2) || (!r_3))) (z := ((first.Rows.length : Int) != (second.Rows.length : Int))) rfl rfl rfl rfl) ?_
  refine rw_nil ?_
  refine cw_cond (b := (((!r_2) || (!r_3)) || ((first.Rows.length : Int) != (second.Rows.length : Int)))) rfl (fun hb => ?_) (fun hb => ?_)
  · skip
    have hF1 := ct hF hb
    refine cw_seq ?_
    refine cw_region ?_
    refine sq 26 rfl rfl (Y_buildS (zs := [.slice none 0 0]) (vs := []) (cs := [.slice none 0 0]) k_pl_50 k_zero_50 rfl mpn rfl) ?_
    refine ss0 rfl rfl (Ys_store (i := 2) (s := 1) (B := some ⟨b2, 0, none⟩) (T' := 50) (v := .agg #[.slice none 0 0]) (vs := [.slice none 0 0]) (k := 0) (cs' := [.slice none 0 0]) hS5 k_sz_50_1 rfl rfl rfl rfl rfl rfl rfl (Nat.le_of_ble_eq_true rfl) rfl rfl) ?_
    rintro _ w_5 ⟨rfl, hS6⟩
    have hS6 : ST w0 [] _ [⟨some ⟨b, 0, none⟩, 50, [.slice B first.Rows.length c], 1⟩, ⟨some ⟨b1, 0, none⟩, 50, [.slice B1 second.Rows.length c1], 1⟩, ⟨some ⟨b2, 0, none⟩, 50, [.slice none 0 0], 1⟩] [⟨B, (first.Rows.flatMap encI)⟩, ⟨B1, (second.Rows.flatMap encI)⟩] := hS6
    refine sq 5 rfl rfl (Y_assign (v := .bool false) rfl rfl) ?_
    refine rw_nil ?_
    refine cw_ret ?_
    have hS7 := hS6.addNil 3
    obtain ⟨rfl, rfl⟩ := pr2 (some_inj hF1)
    exact ret2 Try.results74 (v1 := .agg #[.slice none 0 0]) (resAt_cellA (B := some ⟨b2, 0, none⟩) (i := 0) (cs := [.slice none 0 0]) (vs := [.slice none 0 0]) rfl k_ag_50 k_sz_50_1 (hS7.cf (i := 2) rfl) rfl rfl) (v2 := .bool false) (resAt_tmp rfl) ⟨none, 0, rfl, (ST.subR (R' := []) (hS7.sel [3] rfl rfl) (fun _ h => by cases h))⟩
  · skip
    have hF2 := cf' hF hb
    refine cw_skip ?_
    refine cw_seq ?_
    refine cw_region ?_
    refine sq 27 rfl rfl (Y_buildS (zs := [.slice none 0 0]) (vs := []) (cs := [.slice none 0 0]) k_pl_50 k_zero_50 rfl mpn rfl) ?_
    refine ss 6 rfl rfl (Ys_alloc (T := 50) (cs := [.slice none 0 0]) (m := 1) hS5 k_zero_50 rfl rfl rfl) ?_
    rintro _ w_6 ⟨b3, rfl, hS8⟩
    have hS8 : ST w0 [] _ [⟨some ⟨b, 0, none⟩, 50, [.slice B first.Rows.length c], 1⟩, ⟨some ⟨b1, 0, none⟩, 50, [.slice B1 second.Rows.length c1], 1⟩, ⟨some ⟨b2, 0, none⟩, 50, [.slice none 0 0], 1⟩, ⟨some ⟨b3, 0, none⟩, 50, [.slice none 0 0], 1⟩] [⟨B, (first.Rows.flatMap encI)⟩, ⟨B1, (second.Rows.flatMap encI)⟩] := hS8
    refine ss0 rfl rfl (Ys_store (i := 3) (s := 1) (B := some ⟨b3, 0, none⟩) (T' := 50) (v := .agg #[.slice none 0 0]) (vs := [.slice none 0 0]) (k := 0) (cs' := [.slice none 0 0]) hS8 k_sz_50_1 rfl rfl rfl rfl rfl rfl rfl (Nat.le_of_ble_eq_true rfl) rfl rfl) ?_
    rintro _ w_7 ⟨rfl, hS9⟩
    have hS9 : ST w0 [] _ [⟨some ⟨b, 0, none⟩, 50, [.slice B first.Rows.length c], 1⟩, ⟨some ⟨b1, 0, none⟩, 50, [.slice B1 second.Rows.length c1], 1⟩, ⟨some ⟨b2, 0, none⟩, 50, [.slice none 0 0], 1⟩, ⟨some ⟨b3, 0, none⟩, 50, [.slice none 0 0], 1⟩] [⟨B, (first.Rows.flatMap encI)⟩, ⟨B1, (second.Rows.flatMap encI)⟩] := hS9
    refine rw_nil ?_
    refine cw_seq ?_
    refine cw_seq ?_
    refine cw_region ?_
    refine sq 28 rfl rfl (Y_fieldAddr (B := some ⟨b1, 0, none⟩) (i := 0) (s := 0) k_fd_50_0_0_48 k_sz_48_1 rfl rfl) ?_
    refine sq 29 rfl rfl (Y_load1 (B := some ⟨b1, 0, none⟩) (i := 0) (cs := [.slice B1 second.Rows.length c1]) (v := .slice B1 second.Rows.length c1) k_sc_48 rfl rfl (hS9.cf (i := 1) rfl) rfl) ?_
    refine sq 30 rfl rfl (Y_len (B := B1) (m := second.Rows.length) (c := c1) k_sl_48_3 rfl rfl) ?_
    refine sq 31 rfl rfl (Y_move (v := .int .i64 0) rfl rfl) ?_
    refine rw_nil ?_
    obtain ⟨z, hz, hF3⟩ := bind_inv hF2
    have hS11 := hS9.addNil 3
    refine cw_block ?_
    refine cw_loop (fun k f w => ∃ (Rows : List Int) (t : Int) (B3 : Option Addr) (c3 : Nat), FF f [(2, pt (some ⟨b, 0, none⟩) 0), (4, pt (some ⟨b2, 0, none⟩) 0), (6, pt (some ⟨b3, 0, none⟩) 0), (29, .slice B1 second.Rows.length c1), (30, .int .i64 (second.Rows.length : Int)), (31, .int .i64 t)] ∧ ST w0 [] w [⟨some ⟨b, 0, none⟩, 50, [.slice B first.Rows.length c], 1⟩, ⟨some ⟨b2, 0, none⟩, 50, [.slice none 0 0], 1⟩, ⟨some ⟨b3, 0, none⟩, 50, [.slice B3 Rows.length c3], 1⟩, ⟨B3, 3, (Rows.flatMap encI), c3 * 1⟩] [⟨B, (first.Rows.flatMap encI)⟩, ⟨B1, (second.Rows.flatMap encI)⟩] ∧ whX (F_impl_ComposeLinear_l1 second first) k (Rows, t) = some z) fuel ⟨[], 0, none, 0, (FF.cons rfl (FF.cons rfl (FF.cons rfl (FF.cons rfl (FF.cons rfl (FF.cons rfl FF.nil)))))), (hS11.sel [0, 2, 3, 4] rfl rfl), hz⟩ ?_
    rintro k_ f w ⟨Rows, t, B3, c3, hf, hS10, hL⟩
    obtain ⟨k_1, y, rfl, hb1, hL1⟩ := whX_go hL
    unfold F_impl_ComposeLinear_l1 at hb1
    refine cw_seq ?_
    refine cw_region ?_
    refine sq 32 rfl rfl (Y_lt (k := .i64) (a := t) (b := (second.Rows.length : Int)) rfl (hf.get 31 5 rfl) (hf.get 30 4 rfl)) ?_
    refine rw_nil ?_
    refine cw_seq ?_
    refine cw_cond (b := (decide (t < (second.Rows.length : Int)))) rfl (fun hb2 => ?_) (fun hb2 => ?_)
    · skip
      have hF4 := ct hb1 hb2
      refine cw_skip ?_
      refine cw_seq ?_
      refine cw_block ?_
      refine cw_seq ?_
      refine cw_region ?_
      obtain ⟨x, hx, hF4⟩ := bind_inv hF4
      refine sq 33 rfl rfl (Y_index (B := B1) (m := second.Rows.length) (c := c1) (k := .i64) (i := t) k_sl_48_3 k_sz_3_1 rfl (hf.get 29 3 rfl) (hf.get 31 5 rfl) (gi_isSome encI_len rfl (hS10.rf (i := 1) rfl) hx) (getI_nn hx) (getI_ltI hx rfl)) ?_
      refine sq 34 rfl rfl (Y_load1 (B := B1) (i := t.toNat * 1) (cs := (second.Rows.flatMap encI)) (v := .int .i64 x) k_sc_3 rfl rfl (hS10.rf (i := 1) rfl) (gi_at0 encI_len hx rfl)) ?_
      refine sq 8 rfl rfl (Y_assign (v := .int .i64 x) rfl rfl) ?_
      refine rw_nil ?_
      obtain ⟨r_4, hc2, hF4⟩ := bind_inv hF4
      obtain ⟨hap, hF4⟩ := chk_inv hF4
      refine cw_mid (fun f w => ∃ (B5 : Option Addr) (c5 : Nat), FF f [(2, pt (some ⟨b, 0, none⟩) 0), (4, pt (some ⟨b2, 0, none⟩) 0), (6, pt (some ⟨b3, 0, none⟩) 0), (29, .slice B1 second.Rows.length c1), (30, .int .i64 (second.Rows.length : Int)), (31, .int .i64 t)] ∧ ST w0 [] w [⟨some ⟨b, 0, none⟩, 50, [.slice B first.Rows.length c], 1⟩, ⟨some ⟨b2, 0, none⟩, 50, [.slice none 0 0], 1⟩, ⟨some ⟨b3, 0, none⟩, 50, [.slice B5 ((Rows ++ [r_4]).length) c5], 1⟩, ⟨B5, 3, ((Rows ++ [r_4]).flatMap encI), c5 * 1⟩] [⟨B, (first.Rows.flatMap encI)⟩, ⟨B1, (second.Rows.flatMap encI)⟩]) ?_ ?_
      · skip
        refine ra_start (ST.sel hS10 [0, 1] rfl rfl).fn (by kernel_rfl) ?_
        have hS14 := hS10.drew
        refine ra_q 0 35 (v := pt (some ⟨b3, 0, none⟩) 0) rfl rfl rfl (by kernel_rfl) (by kernel_rfl) (by kernel_rfl) (ST.sel hS14 [0, 1] rfl rfl) (fun w' hw' => (Y_fieldAddr (B := some ⟨b3, 0, none⟩) (i := 0) (s := 0) k_fd_50_0_0_48 k_sz_48_1 rfl (hf.get 6 2 rfl))) ?_
        refine ra_q 2 37 (v := .agg #[.slice B first.Rows.length c]) rfl rfl rfl (by kernel_rfl) (by kernel_rfl) (by kernel_rfl) (ST.sel hS14 [0, 1] rfl rfl) (fun w' hw' => (Y_loadA (B := some ⟨b, 0, none⟩) (i := 0) (cs := [.slice B first.Rows.length c]) (vs := [.slice B first.Rows.length c]) k_ag_50 k_sz_50_1 rfl (hf.get 2 0 rfl) (ST.cf hw' (i := 0) rfl) rfl rfl)) ?_
        refine ra_q 3 38 (v := .int .i64 x) rfl rfl rfl (by kernel_rfl) (by kernel_rfl) (by kernel_rfl) (ST.sel hS14 [0, 1] rfl rfl) (fun w' hw' => (Y_move (v := .int .i64 x) rfl rfl)) ?_
        refine ra_all (rs := [1, 4]) (by kernel_rfl) rfl ?_
        refine ra_y 36 (i := 1) (v := .slice B3 Rows.length c3) rfl rfl rfl (Y_load1 (B := some ⟨b3, 0, none⟩) (i := 0) (cs := [.slice B3 Rows.length c3]) (v := .slice B3 Rows.length c3) k_sc_48 rfl rfl (hS14.cf (i := 2) rfl) rfl) (ST.sel hS14 [0, 1] rfl rfl) ?_ ?_
        · skip
          refine ra_all (rs := [4]) (by kernel_rfl) rfl ?_
          refine ra_c 39 (i := 4) rfl rfl rfl (Yc_func (g := 73) (vs := [.agg #[.slice B first.Rows.length c], .int .i64 x]) k_call_73 rfl (mc rfl (mc rfl mn)) (c_impl_Linear_through first x B c first.Rows.length _ rfl (hS14.inn0 [(true, 0)] rfl) hc2)) ?_ ?_
          · rintro _ w_8 ⟨rfl, hd1⟩
            have hS15 := hS14.out00 hd1
            have hS15 : ST w0 [] _ [⟨some ⟨b, 0, none⟩, 50, [.slice B first.Rows.length c], 1⟩, ⟨some ⟨b2, 0, none⟩, 50, [.slice none 0 0], 1⟩, ⟨some ⟨b3, 0, none⟩, 50, [.slice B3 Rows.length c3], 1⟩, ⟨B3, 3, (Rows.flatMap encI), c3 * 1⟩] [⟨B, (first.Rows.flatMap encI)⟩, ⟨B1, (second.Rows.flatMap encI)⟩] := hS15
            refine ⟨(ST.sel hS15 [0, 1] rfl rfl), ?_⟩
            refine ra_all (rs := [5]) (by kernel_rfl) rfl ?_
            refine ra_s 40 (i := 5) rfl rfl rfl (Ys_bslice (s := 1) (len := 1) (vs := [(0, .int .i64 r_4)]) (cs := [.int .i64 r_4]) (zs := [.int .i64 0]) (m := 1) hS15 k_sl_48_3 k_sz_3_1 k_zc_3 rfl (mpc rfl mpn) rfl rfl rfl (by kernel_rfl) (by kernel_rfl) rfl) ?_ ?_
            · rintro _ w_9 ⟨b4, rfl, hS16⟩
              have hS16 : ST w0 [] _ [⟨some ⟨b, 0, none⟩, 50, [.slice B first.Rows.length c], 1⟩, ⟨some ⟨b2, 0, none⟩, 50, [.slice none 0 0], 1⟩, ⟨some ⟨b3, 0, none⟩, 50, [.slice B3 Rows.length c3], 1⟩, ⟨B3, 3, (Rows.flatMap encI), c3 * 1⟩, ⟨some ⟨b4, 0, none⟩, 3, ([r_4].flatMap encI), 1 * 1⟩] [⟨B, (first.Rows.flatMap encI)⟩, ⟨B1, (second.Rows.flatMap encI)⟩] := hS16
              refine ⟨(ST.sel hS16 [0, 1] rfl rfl), ?_⟩
              refine ra_all (rs := [6]) (by kernel_rfl) rfl ?_
              refine ra_s 41 (i := 6) rfl rfl rfl (Ys_append (s := 1) (by' := 8) (i := 3) (nn := Rows.length) (c := c3) (k := 1) (len := (Rows ++ [r_4]).length) (B := B3) (xs := ([r_4].flatMap encI)) (cs' := ((Rows ++ [r_4]).flatMap encI)) hS16 k_sl_48_3 k_sz_3_1 k_by_3_8 k_zero_3 rfl (by decide) rfl rfl rfl rfl (fm_lenn (l := Rows) encI_len rfl) rfl (hS16.cf (i := 4) rfl) (fm_lenn (l := [r_4]) encI_len rfl) (fm_one' (enc := encI) encI_one [r_4]) (by have := hap; omega) (by have := hap; simp only [maxLen]; omega) (fm_app _ _) (app_len (l := Rows) (l' := [r_4]) rfl rfl)) ?_ ?_
              · rintro _ w_10 ⟨B4, c4, rfl, hS17⟩
                have hS17 : ST w0 [] _ [⟨some ⟨b, 0, none⟩, 50, [.slice B first.Rows.length c], 1⟩, ⟨some ⟨b2, 0, none⟩, 50, [.slice none 0 0], 1⟩, ⟨some ⟨b3, 0, none⟩, 50, [.slice B3 Rows.length c3], 1⟩, ⟨B4, 3, ((Rows ++ [r_4]).flatMap encI), c4 * 1⟩, ⟨some ⟨b4, 0, none⟩, 3, ([r_4].flatMap encI), 1 * 1⟩] [⟨B, (first.Rows.flatMap encI)⟩, ⟨B1, (second.Rows.flatMap encI)⟩] := hS17
                refine ⟨(ST.sel hS17 [0, 1] rfl rfl), ?_⟩
                refine ra_q 7 42 (v := pt (some ⟨b3, 0, none⟩) 0) rfl rfl rfl (by kernel_rfl) (by kernel_rfl) (by kernel_rfl) (ST.sel hS17 [0, 1] rfl rfl) (fun w' hw' => (Y_fieldAddr (B := some ⟨b3, 0, none⟩) (i := 0) (s := 0) k_fd_50_0_0_48 k_sz_48_1 rfl (hf.get 6 2 rfl))) ?_
                refine ra_all (rs := [8]) (by kernel_rfl) rfl ?_
                refine ra_s0 (i := 8) rfl rfl rfl (Ys_store (i := 2) (s := 1) (B := some ⟨b3, 0, none⟩) (T' := 50) (v := .slice B4 ((Rows ++ [r_4]).length) c4) (vs := [.slice B4 ((Rows ++ [r_4]).length) c4]) (k := 0) (cs' := [.slice B4 ((Rows ++ [r_4]).length) c4]) hS17 k_sz_48_1 rfl rfl rfl rfl rfl rfl rfl (Nat.le_of_ble_eq_true rfl) rfl rfl) ?_ ?_
                · rintro _ w_11 ⟨rfl, hS18⟩
                  have hS18 : ST w0 [] _ [⟨some ⟨b, 0, none⟩, 50, [.slice B first.Rows.length c], 1⟩, ⟨some ⟨b2, 0, none⟩, 50, [.slice none 0 0], 1⟩, ⟨some ⟨b3, 0, none⟩, 50, [.slice B4 ((Rows ++ [r_4]).length) c4], 1⟩, ⟨B4, 3, ((Rows ++ [r_4]).flatMap encI), c4 * 1⟩, ⟨some ⟨b4, 0, none⟩, 3, ([r_4].flatMap encI), 1 * 1⟩] [⟨B, (first.Rows.flatMap encI)⟩, ⟨B1, (second.Rows.flatMap encI)⟩] := hS18
                  refine ⟨(ST.sel hS18 [0, 1] rfl rfl), ?_⟩
                  refine ra_done (by kernel_rfl) ?_
                  exact ⟨B4, c4, (FF.cons (hf.get 2 0 rfl) (FF.cons (hf.get 4 1 rfl) (FF.cons (hf.get 6 2 rfl) (FF.cons (hf.get 29 3 rfl) (FF.cons (hf.get 30 4 rfl) (FF.cons (hf.get 31 5 rfl) FF.nil)))))), (hS18.sel [0, 1, 2, 3] rfl rfl)⟩
                exact allR_nil
              exact allR_nil
            exact allR_nil
          exact allR_nil
        refine ra_c 39 (i := 4) rfl rfl rfl (Yc_func (g := 73) (vs := [.agg #[.slice B first.Rows.length c], .int .i64 x]) k_call_73 rfl (mc rfl (mc rfl mn)) (c_impl_Linear_through first x B c first.Rows.length _ rfl (hS14.inn0 [(true, 0)] rfl) hc2)) ?_ ?_
        · rintro _ w_12 ⟨rfl, hd2⟩
          have hS19 := hS14.out00 hd2
          have hS19 : ST w0 [] _ [⟨some ⟨b, 0, none⟩, 50, [.slice B first.Rows.length c], 1⟩, ⟨some ⟨b2, 0, none⟩, 50, [.slice none 0 0], 1⟩, ⟨some ⟨b3, 0, none⟩, 50, [.slice B3 Rows.length c3], 1⟩, ⟨B3, 3, (Rows.flatMap encI), c3 * 1⟩] [⟨B, (first.Rows.flatMap encI)⟩, ⟨B1, (second.Rows.flatMap encI)⟩] := hS19
          refine ⟨(ST.sel hS19 [0, 1] rfl rfl), ?_⟩
          refine ra_all (rs := [1, 5]) (by kernel_rfl) rfl ?_
          refine ra_y 36 (i := 1) (v := .slice B3 Rows.length c3) rfl rfl rfl (Y_load1 (B := some ⟨b3, 0, none⟩) (i := 0) (cs := [.slice B3 Rows.length c3]) (v := .slice B3 Rows.length c3) k_sc_48 rfl rfl (hS19.cf (i := 2) rfl) rfl) (ST.sel hS19 [0, 1] rfl rfl) ?_ ?_
          · skip
            refine ra_all (rs := [5]) (by kernel_rfl) rfl ?_
            refine ra_s 40 (i := 5) rfl rfl rfl (Ys_bslice (s := 1) (len := 1) (vs := [(0, .int .i64 r_4)]) (cs := [.int .i64 r_4]) (zs := [.int .i64 0]) (m := 1) hS19 k_sl_48_3 k_sz_3_1 k_zc_3 rfl (mpc rfl mpn) rfl rfl rfl (by kernel_rfl) (by kernel_rfl) rfl) ?_ ?_
            · rintro _ w_13 ⟨b4, rfl, hS20⟩
              have hS20 : ST w0 [] _ [⟨some ⟨b, 0, none⟩, 50, [.slice B first.Rows.length c], 1⟩, ⟨some ⟨b2, 0, none⟩, 50, [.slice none 0 0], 1⟩, ⟨some ⟨b3, 0, none⟩, 50, [.slice B3 Rows.length c3], 1⟩, ⟨B3, 3, (Rows.flatMap encI), c3 * 1⟩, ⟨some ⟨b4, 0, none⟩, 3, ([r_4].flatMap encI), 1 * 1⟩] [⟨B, (first.Rows.flatMap encI)⟩, ⟨B1, (second.Rows.flatMap encI)⟩] := hS20
              refine ⟨(ST.sel hS20 [0, 1] rfl rfl), ?_⟩
              refine ra_all (rs := [6]) (by kernel_rfl) rfl ?_
              refine ra_s 41 (i := 6) rfl rfl rfl (Ys_append (s := 1) (by' := 8) (i := 3) (nn := Rows.length) (c := c3) (k := 1) (len := (Rows ++ [r_4]).length) (B := B3) (xs := ([r_4].flatMap encI)) (cs' := ((Rows ++ [r_4]).flatMap encI)) hS20 k_sl_48_3 k_sz_3_1 k_by_3_8 k_zero_3 rfl (by decide) rfl rfl rfl rfl (fm_lenn (l := Rows) encI_len rfl) rfl (hS20.cf (i := 4) rfl) (fm_lenn (l := [r_4]) encI_len rfl) (fm_one' (enc := encI) encI_one [r_4]) (by have := hap; omega) (by have := hap; simp only [maxLen]; omega) (fm_app _ _) (app_len (l := Rows) (l' := [r_4]) rfl rfl)) ?_ ?_
              · rintro _ w_14 ⟨B4, c4, rfl, hS21⟩
                have hS21 : ST w0 [] _ [⟨some ⟨b, 0, none⟩, 50, [.slice B first.Rows.length c], 1⟩, ⟨some ⟨b2, 0, none⟩, 50, [.slice none 0 0], 1⟩, ⟨some ⟨b3, 0, none⟩, 50, [.slice B3 Rows.length c3], 1⟩, ⟨B4, 3, ((Rows ++ [r_4]).flatMap encI), c4 * 1⟩, ⟨some ⟨b4, 0, none⟩, 3, ([r_4].flatMap encI), 1 * 1⟩] [⟨B, (first.Rows.flatMap encI)⟩, ⟨B1, (second.Rows.flatMap encI)⟩] := hS21
                refine ⟨(ST.sel hS21 [0, 1] rfl rfl), ?_⟩
                refine ra_q 7 42 (v := pt (some ⟨b3, 0, none⟩) 0) rfl rfl rfl (by kernel_rfl) (by kernel_rfl) (by kernel_rfl) (ST.sel hS21 [0, 1] rfl rfl) (fun w' hw' => (Y_fieldAddr (B := some ⟨b3, 0, none⟩) (i := 0) (s := 0) k_fd_50_0_0_48 k_sz_48_1 rfl (hf.get 6 2 rfl))) ?_
                refine ra_all (rs := [8]) (by kernel_rfl) rfl ?_
                refine ra_s0 (i := 8) rfl rfl rfl (Ys_store (i := 2) (s := 1) (B := some ⟨b3, 0, none⟩) (T' := 50) (v := .slice B4 ((Rows ++ [r_4]).length) c4) (vs := [.slice B4 ((Rows ++ [r_4]).length) c4]) (k := 0) (cs' := [.slice B4 ((Rows ++ [r_4]).length) c4]) hS21 k_sz_48_1 rfl rfl rfl rfl rfl rfl rfl (Nat.le_of_ble_eq_true rfl) rfl rfl) ?_ ?_
                · rintro _ w_15 ⟨rfl, hS22⟩
                  have hS22 : ST w0 [] _ [⟨some ⟨b, 0, none⟩, 50, [.slice B first.Rows.length c], 1⟩, ⟨some ⟨b2, 0, none⟩, 50, [.slice none 0 0], 1⟩, ⟨some ⟨b3, 0, none⟩, 50, [.slice B4 ((Rows ++ [r_4]).length) c4], 1⟩, ⟨B4, 3, ((Rows ++ [r_4]).flatMap encI), c4 * 1⟩, ⟨some ⟨b4, 0, none⟩, 3, ([r_4].flatMap encI), 1 * 1⟩] [⟨B, (first.Rows.flatMap encI)⟩, ⟨B1, (second.Rows.flatMap encI)⟩] := hS22
                  refine ⟨(ST.sel hS22 [0, 1] rfl rfl), ?_⟩
                  refine ra_done (by kernel_rfl) ?_
                  exact ⟨B4, c4, (FF.cons (hf.get 2 0 rfl) (FF.cons (hf.get 4 1 rfl) (FF.cons (hf.get 6 2 rfl) (FF.cons (hf.get 29 3 rfl) (FF.cons (hf.get 30 4 rfl) (FF.cons (hf.get 31 5 rfl) FF.nil)))))), (hS22.sel [0, 1, 2, 3] rfl rfl)⟩
                exact allR_nil
              exact allR_nil
            exact allR_nil
          refine ra_s 40 (i := 5) rfl rfl rfl (Ys_bslice (s := 1) (len := 1) (vs := [(0, .int .i64 r_4)]) (cs := [.int .i64 r_4]) (zs := [.int .i64 0]) (m := 1) hS19 k_sl_48_3 k_sz_3_1 k_zc_3 rfl (mpc rfl mpn) rfl rfl rfl (by kernel_rfl) (by kernel_rfl) rfl) ?_ ?_
          · rintro _ w_16 ⟨b4, rfl, hS23⟩
            have hS23 : ST w0 [] _ [⟨some ⟨b, 0, none⟩, 50, [.slice B first.Rows.length c], 1⟩, ⟨some ⟨b2, 0, none⟩, 50, [.slice none 0 0], 1⟩, ⟨some ⟨b3, 0, none⟩, 50, [.slice B3 Rows.length c3], 1⟩, ⟨B3, 3, (Rows.flatMap encI), c3 * 1⟩, ⟨some ⟨b4, 0, none⟩, 3, ([r_4].flatMap encI), 1 * 1⟩] [⟨B, (first.Rows.flatMap encI)⟩, ⟨B1, (second.Rows.flatMap encI)⟩] := hS23
            refine ⟨(ST.sel hS23 [0, 1] rfl rfl), ?_⟩
            refine ra_all (rs := [1]) (by kernel_rfl) rfl ?_
            refine ra_y 36 (i := 1) (v := .slice B3 Rows.length c3) rfl rfl rfl (Y_load1 (B := some ⟨b3, 0, none⟩) (i := 0) (cs := [.slice B3 Rows.length c3]) (v := .slice B3 Rows.length c3) k_sc_48 rfl rfl (hS23.cf (i := 2) rfl) rfl) (ST.sel hS23 [0, 1] rfl rfl) ?_ ?_
            · skip
              refine ra_all (rs := [6]) (by kernel_rfl) rfl ?_
              refine ra_s 41 (i := 6) rfl rfl rfl (Ys_append (s := 1) (by' := 8) (i := 3) (nn := Rows.length) (c := c3) (k := 1) (len := (Rows ++ [r_4]).length) (B := B3) (xs := ([r_4].flatMap encI)) (cs' := ((Rows ++ [r_4]).flatMap encI)) hS23 k_sl_48_3 k_sz_3_1 k_by_3_8 k_zero_3 rfl (by decide) rfl rfl rfl rfl (fm_lenn (l := Rows) encI_len rfl) rfl (hS23.cf (i := 4) rfl) (fm_lenn (l := [r_4]) encI_len rfl) (fm_one' (enc := encI) encI_one [r_4]) (by have := hap; omega) (by have := hap; simp only [maxLen]; omega) (fm_app _ _) (app_len (l := Rows) (l' := [r_4]) rfl rfl)) ?_ ?_
              · rintro _ w_17 ⟨B4, c4, rfl, hS24⟩
                have hS24 : ST w0 [] _ [⟨some ⟨b, 0, none⟩, 50, [.slice B first.Rows.length c], 1⟩, ⟨some ⟨b2, 0, none⟩, 50, [.slice none 0 0], 1⟩, ⟨some ⟨b3, 0, none⟩, 50, [.slice B3 Rows.length c3], 1⟩, ⟨B4, 3, ((Rows ++ [r_4]).flatMap encI), c4 * 1⟩, ⟨some ⟨b4, 0, none⟩, 3, ([r_4].flatMap encI), 1 * 1⟩] [⟨B, (first.Rows.flatMap encI)⟩, ⟨B1, (second.Rows.flatMap encI)⟩] := hS24
                refine ⟨(ST.sel hS24 [0, 1] rfl rfl), ?_⟩
                refine ra_q 7 42 (v := pt (some ⟨b3, 0, none⟩) 0) rfl rfl rfl (by kernel_rfl) (by kernel_rfl) (by kernel_rfl) (ST.sel hS24 [0, 1] rfl rfl) (fun w' hw' => (Y_fieldAddr (B := some ⟨b3, 0, none⟩) (i := 0) (s := 0) k_fd_50_0_0_48 k_sz_48_1 rfl (hf.get 6 2 rfl))) ?_
                refine ra_all (rs := [8]) (by kernel_rfl) rfl ?_
                refine ra_s0 (i := 8) rfl rfl rfl (Ys_store (i := 2) (s := 1) (B := some ⟨b3, 0, none⟩) (T' := 50) (v := .slice B4 ((Rows ++ [r_4]).length) c4) (vs := [.slice B4 ((Rows ++ [r_4]).length) c4]) (k := 0) (cs' := [.slice B4 ((Rows ++ [r_4]).length) c4]) hS24 k_sz_48_1 rfl rfl rfl rfl rfl rfl rfl (Nat.le_of_ble_eq_true rfl) rfl rfl) ?_ ?_
                · rintro _ w_18 ⟨rfl, hS25⟩
                  have hS25 : ST w0 [] _ [⟨some ⟨b, 0, none⟩, 50, [.slice B first.Rows.length c], 1⟩, ⟨some ⟨b2, 0, none⟩, 50, [.slice none 0 0], 1⟩, ⟨some ⟨b3, 0, none⟩, 50, [.slice B4 ((Rows ++ [r_4]).length) c4], 1⟩, ⟨B4, 3, ((Rows ++ [r_4]).flatMap encI), c4 * 1⟩, ⟨some ⟨b4, 0, none⟩, 3, ([r_4].flatMap encI), 1 * 1⟩] [⟨B, (first.Rows.flatMap encI)⟩, ⟨B1, (second.Rows.flatMap encI)⟩] := hS25
                  refine ⟨(ST.sel hS25 [0, 1] rfl rfl), ?_⟩
                  refine ra_done (by kernel_rfl) ?_
                  exact ⟨B4, c4, (FF.cons (hf.get 2 0 rfl) (FF.cons (hf.get 4 1 rfl) (FF.cons (hf.get 6 2 rfl) (FF.cons (hf.get 29 3 rfl) (FF.cons (hf.get 30 4 rfl) (FF.cons (hf.get 31 5 rfl) FF.nil)))))), (hS25.sel [0, 1, 2, 3] rfl rfl)⟩
                exact allR_nil
              exact allR_nil
            exact allR_nil
          exact allR_nil
        exact allR_nil
      rintro f w ⟨B5, c5, hf1, hS13⟩
      refine cw_region ?_
      refine sq 43 rfl rfl (Y_add (k := .i64) (a := t) (b := 1) rfl (hf1.get 31 5 rfl) rfl) ?_
      refine sq 31 rfl rfl (Y_move (v := .int .i64 (IntKind.i64.wrap (t + 1))) rfl rfl) ?_
      refine rw_nil ?_
      obtain rfl := some_inj hF4
      exact ⟨k_1, Nat.lt_succ_self _, (Rows ++ [r_4]), (IntKind.i64.wrap (t + 1)), B5, c5, (FF.cons (hf1.get 2 0 rfl) (FF.cons (hf1.get 4 1 rfl) (FF.cons (hf1.get 6 2 rfl) (FF.cons (hf1.get 29 3 rfl) (FF.cons (hf1.get 30 4 rfl) (FF.cons rfl FF.nil)))))), (hS13.sel [0, 1, 2, 3] rfl rfl), hL1⟩
    · skip
      have hF5 := cf' hb1 hb2
      refine cw_exit rfl ?_
      obtain rfl := some_inj hF5
      obtain rfl := some_inj hL1
      refine cw_seq ?_
      refine cw_region ?_
      refine sq 44 rfl rfl (Y_loadA (B := some ⟨b3, 0, none⟩) (i := 0) (cs := [.slice B3 Rows.length c3]) (vs := [.slice B3 Rows.length c3]) k_ag_50 k_sz_50_1 rfl (hf.get 6 2 rfl) (hS10.cf (i := 2) rfl) rfl rfl) ?_
      refine ss0 rfl rfl (Ys_store (i := 1) (s := 1) (B := some ⟨b2, 0, none⟩) (T' := 50) (v := .agg #[.slice B3 Rows.length c3]) (vs := [.slice B3 Rows.length c3]) (k := 0) (cs' := [.slice B3 Rows.length c3]) hS10 k_sz_50_1 rfl (hf.get 4 1 rfl) rfl rfl rfl rfl rfl (Nat.le_of_ble_eq_true rfl) rfl rfl) ?_
      rintro _ w_19 ⟨rfl, hS26⟩
      have hS26 : ST w0 [] _ [⟨some ⟨b, 0, none⟩, 50, [.slice B first.Rows.length c], 1⟩, ⟨some ⟨b2, 0, none⟩, 50, [.slice B3 Rows.length c3], 1⟩, ⟨some ⟨b3, 0, none⟩, 50, [.slice B3 Rows.length c3], 1⟩, ⟨B3, 3, (Rows.flatMap encI), c3 * 1⟩] [⟨B, (first.Rows.flatMap encI)⟩, ⟨B1, (second.Rows.flatMap encI)⟩] := hS26
      refine sq 5 rfl rfl (Y_assign (v := .bool true) rfl rfl) ?_
      refine rw_nil ?_
      refine cw_ret ?_
      obtain ⟨rfl, rfl⟩ := pr2 (some_inj hF3)
      exact ret2 Try.results74 (v1 := .agg #[.slice B3 Rows.length c3]) (resAt_cellA (B := some ⟨b2, 0, none⟩) (i := 0) (cs := [.slice B3 Rows.length c3]) (vs := [.slice B3 Rows.length c3]) (hf.get 4 1 rfl) k_ag_50 k_sz_50_1 (hS26.cf (i := 1) rfl) rfl rfl) (v2 := .bool true) (resAt_tmp rfl) ⟨B3, c3, rfl, (ST.subR (R' := []) (hS26.sel [3] rfl rfl) (fun _ h => by cases h))⟩

theorem c_impl_coefficients_terms (c : List Int)  (w0 : World) (hlen : c.length = 32) (hS : ST w0 [] w0 [] []) {r_ : List TTerm} (hF : F_impl_coefficients_terms c = some r_) :
    CV Try.prog 75 #[.agg (c.flatMap encI).toArray] w0 (fun v w' => ∃ (B : Option Addr) (c1 : Nat), v = .slice B r_.length c1 ∧ ST w0 [] w' [⟨B, 104, (r_.flatMap enc_Term), c1 * 2⟩] []) := by
  unfold F_impl_coefficients_terms at hF
  refine cv_of_cw 26 Try.func75 rfl Try.ntmps75 rfl ?_
  refine cw_seq ?_
  refine cw_region ?_
  refine ss 1 rfl rfl (Ys_box (T := 102) (v := .agg (c.flatMap encI).toArray) (cs := (c.flatMap encI)) (m := 32) hS rfl rfl rfl (fm_lenn2 encI_len hlen rfl)) ?_
  rintro _ w_ ⟨b, rfl, hS1⟩
  refine sq 2 rfl rfl (Y_assign (v := .slice none 0 0) rfl rfl) ?_
  refine rw_nil ?_
  refine cw_seq ?_
  refine cw_region ?_
  refine ss 6 rfl rfl (Ys_bslice0 (s := 2) (e := 104) hS1 k_sl_47_104 k_sz_104_2 rfl) ?_
  rintro _ w_1 ⟨b1, rfl, hS2⟩
  have hS2 : ST w0 [] _ [⟨some ⟨b, 0, none⟩, 102, (c.flatMap encI), 32⟩, ⟨some ⟨b1, 0, none⟩, 104, ([].flatMap enc_Term), 0 * 2⟩] [] := hS2
  refine sq 3 rfl rfl (Y_assign (v := .slice (some ⟨b1, 0, none⟩) 0 0) rfl rfl) ?_
  refine rw_nil ?_
  refine cw_seq ?_
  refine cw_seq ?_
  refine cw_region ?_
  refine sq 7 rfl rfl (Y_loadA (B := some ⟨b, 0, none⟩) (i := 0) (cs := (c.flatMap encI)) (vs := (c.flatMap encI)) k_ag_102 k_sz_102_32 rfl rfl (hS2.cf (i := 0) rfl) (fm_lenn2 encI_len hlen rfl) (fm_whole encI_len hlen rfl)) ?_
  refine sq 8 rfl rfl (Y_move (v := .int .i64 0) rfl rfl) ?_
  refine rw_nil ?_
  obtain ⟨z, hz, hF1⟩ := bind_inv hF
  refine cw_block ?_
  refine cw_loop (fun k f w => ∃ (i : Nat) (out : List TTerm) (B1 : Option Addr) (c2 : Nat), FF f [(3, .slice B1 out.length c2), (7, .agg (c.flatMap encI).toArray), (8, .int .i64 (i : Int))] ∧ ST w0 [] w [⟨B1, 104, (out.flatMap enc_Term), c2 * 2⟩] [] ∧ i + k = 32 ∧ forN (F_impl_coefficients_terms_l1 c) k i out = some z) 32 ⟨0, [], some ⟨b1, 0, none⟩, 0, (FF.cons rfl (FF.cons rfl (FF.cons rfl FF.nil))), (hS2.sel [1] rfl rfl), Nat.zero_add _, hz⟩ ?_
  rintro k_ f w ⟨i, out, B1, c2, hf, hS3, hik, hL⟩
  refine cw_seq ?_
  refine cw_region ?_
  refine sq 9 rfl rfl (Y_lt (k := .i64) (a := (i : Int)) (b := 32) rfl (hf.get 8 2 rfl) rfl) ?_
  refine rw_nil ?_
  refine cw_seq ?_
  refine cw_cond (b := (decide ((i : Int) < 32))) rfl (fun hlt => ?_) (fun hlt => ?_)
  · skip
    have hlt1 : i < 32 := by have h := of_decide_eq_true hlt; omega
    obtain ⟨k_1, rfl⟩ : ∃ k2, k_ = k2 + 1 := ⟨k_ - 1, by omega⟩
    obtain ⟨y, hb, hL1⟩ := forN_go hL
    unfold F_impl_coefficients_terms_l1 at hb
    refine cw_skip ?_
    refine cw_seq ?_
    obtain ⟨z1, hz1, hF2⟩ := bind_inv hb
    refine cw_mid (fun f w => ∃ (out1 : List TTerm) (B2 : Option Addr) (c3 : Nat), out1 = z1 ∧ FF f [(3, .slice B2 out1.length c3), (7, .agg (c.flatMap encI).toArray), (8, .int .i64 (i : Int))] ∧ ST w0 [] w [⟨B2, 104, (out1.flatMap enc_Term), c3 * 2⟩] []) ?_ ?_
    · skip
      refine cw_block ?_
      refine cw_seq ?_
      refine cw_region ?_
      refine sq 10 rfl rfl (Y_move (v := .int .i64 (i : Int)) rfl (hf.get 8 2 rfl)) ?_
      obtain ⟨x, hx, hz1⟩ := bind_inv hz1
      refine sq 11 rfl rfl (Y_idx1 (cl := (c.flatMap encI)) (k := .i64) (i := (i : Int)) (v := .int .i64 x) k_ar_102_32_3 k_sz_3_1 k_sc_3 rfl (hf.get 7 1 rfl) (hf.get 8 2 rfl) (getI_nn hx) (getI_ltI hx hlen) (gi_at0 encI_len hx rfl)) ?_
      refine sq 4 rfl rfl (Y_assign (v := .int .i64 (i : Int)) rfl rfl) ?_
      refine sq 5 rfl rfl (Y_assign (v := .int .i64 x) rfl rfl) ?_
      refine rw_nil ?_
      refine cw_seq ?_
      refine cw_region ?_
      refine sq 12 rfl rfl (Y_move (v := .int .i64 (i : Int)) rfl rfl) ?_
      refine sq 13 rfl rfl (Y_gt (k := .i64) (a := (i : Int)) (b := 0) rfl rfl rfl) ?_
      refine sq 14 rfl rfl (Y_move (v := .bool (decide (0 < (i : Int)))) rfl rfl) ?_
      refine sgq 15 (B := (decide (0 < (i : Int)))) (v := .int .i64 x) rfl rfl (wt_t (gd_of (t := 14) (by kernel_rfl) rfl)) (fun hg => (Y_move (v := .int .i64 x) rfl rfl)) ?_
      refine sgq 16 (B := (decide (0 < (i : Int)))) (v := .bool (decide (0 < x))) rfl rfl (wt_t (gd_of (t := 14) (by kernel_rfl) rfl)) (fun hg1 => (Y_gt (k := .i64) (a := x) (b := 0) rfl (gv_of (B := (decide (0 < (i : Int)))) (v := .int .i64 x) hg1) rfl)) ?_
      refine sq 17 rfl rfl (Y_and (b := (decide (0 < (i : Int)))) (z := (decide (0 < x))) rfl rfl rfl rfl) ?_
      refine rw_nil ?_
      refine cw_cond (b := ((decide (0 < (i : Int))) && (decide (0 < x)))) rfl (fun hb1 => ?_) (fun hb1 => ?_)
      · skip
        have hF3 := ct hz1 hb1
        refine cw_region ?_
        refine sq 18 rfl rfl (Y_move (v := .slice B1 out.length c2) rfl (hf.get 3 0 rfl)) ?_
        refine sq 19 rfl rfl (Y_move (v := .int .i64 (i : Int)) rfl rfl) ?_
        refine sq 20 rfl rfl (Y_move (v := .int .i64 x) rfl rfl) ?_
        refine sq 21 rfl rfl (Y_buildS (zs := [.int .i64 0, .int .i64 0]) (vs := [(0, .int .i64 (i : Int)), (1, .int .i64 x)]) (cs := [.int .i64 (i : Int), .int .i64 x]) k_pl_104 k_zero_104 rfl (mpc rfl (mpc rfl mpn)) rfl) ?_
        refine ss 22 rfl rfl (Ys_bslice (s := 2) (len := 1) (vs := [(0, .agg #[.int .i64 (i : Int), .int .i64 x])]) (cs := [.int .i64 (i : Int), .int .i64 x]) (zs := [.int .i64 0, .int .i64 0]) (m := 2) hS3 k_sl_47_104 k_sz_104_2 k_zc_104 rfl (mpc rfl mpn) rfl rfl rfl (by kernel_rfl) (by kernel_rfl) rfl) ?_
        rintro _ w_2 ⟨b2, rfl, hS5⟩
        have hS5 : ST w0 [] _ [⟨B1, 104, (out.flatMap enc_Term), c2 * 2⟩, ⟨some ⟨b2, 0, none⟩, 104, ([(TTerm.mk (i : Int) x)].flatMap enc_Term), 1 * 2⟩] [] := hS5
        obtain ⟨hap, hF3⟩ := chk_inv hF3
        refine ss 23 rfl rfl (Ys_append (s := 2) (by' := 16) (i := 0) (nn := out.length) (c := c2) (k := 1) (len := (out ++ [(TTerm.mk (i : Int) x)]).length) (B := B1) (xs := ([(TTerm.mk (i : Int) x)].flatMap enc_Term)) (cs' := ((out ++ [(TTerm.mk (i : Int) x)]).flatMap enc_Term)) hS5 k_sl_47_104 k_sz_104_2 k_by_104_16 k_zero_104 rfl (by decide) rfl rfl rfl rfl (fm_lenn (l := out) enc_Term_len rfl) rfl (hS5.cf (i := 1) rfl) (fm_lenn (l := [(TTerm.mk (i : Int) x)]) enc_Term_len rfl) (fm_one' (enc := enc_Term) enc_Term_one [(TTerm.mk (i : Int) x)]) (by have := hap; omega) (by have := hap; simp only [maxLen]; omega) (fm_app _ _) (app_len (l := out) (l' := [(TTerm.mk (i : Int) x)]) rfl rfl)) ?_
        rintro _ w_3 ⟨B3, c4, rfl, hS6⟩
        have hS6 : ST w0 [] _ [⟨B3, 104, ((out ++ [(TTerm.mk (i : Int) x)]).flatMap enc_Term), c4 * 2⟩, ⟨some ⟨b2, 0, none⟩, 104, ([(TTerm.mk (i : Int) x)].flatMap enc_Term), 1 * 2⟩] [] := hS6
        refine sq 3 rfl rfl (Y_assign (v := .slice B3 ((out ++ [(TTerm.mk (i : Int) x)]).length) c4) rfl rfl) ?_
        refine rw_nil ?_
        exact ⟨(out ++ [(TTerm.mk (i : Int) x)]), B3, c4, (some_inj hF3), (FF.cons rfl (FF.cons (hf.get 7 1 rfl) (FF.cons (hf.get 8 2 rfl) FF.nil))), (hS6.sel [0] rfl rfl)⟩
      · skip
        have hF4 := cf' hz1 hb1
        refine cw_skip ?_
        exact ⟨out, B1, c2, (some_inj hF4), (FF.cons (hf.get 3 0 rfl) (FF.cons (hf.get 7 1 rfl) (FF.cons (hf.get 8 2 rfl) FF.nil))), (hS3.sel [0] rfl rfl)⟩
    rintro f w ⟨out1, B2, c3, rfl, hf1, hS4⟩
    refine cw_region ?_
    refine sq 24 rfl rfl (Y_add (k := .i64) (a := (i : Int)) (b := 1) rfl (hf1.get 8 2 rfl) rfl) ?_
    refine sq 8 rfl rfl (Y_move (v := .int .i64 (IntKind.i64.wrap ((i : Int) + 1))) rfl rfl) ?_
    refine rw_nil ?_
    obtain rfl := some_inj hF2
    exact ⟨k_1, Nat.lt_succ_self _, i + 1, out1, B2, c3, (FF.cons (hf1.get 3 0 rfl) (FF.cons (hf1.get 7 1 rfl) (FF.cons (congrArg (Value.int .i64) (wr_succ hlt1 (show 32 ≤ 9223372036854775807 by decide))) FF.nil))), (hS4.sel [0] rfl rfl), (by omega), hL1⟩
  · skip
    obtain rfl : k_ = 0 := by have h := of_decide_eq_false hlt; omega
    refine cw_exit rfl ?_
    obtain rfl := some_inj hL
    refine cw_seq ?_
    refine cw_region ?_
    refine sq 25 rfl rfl (Y_move (v := .slice B1 out.length c2) rfl (hf.get 3 0 rfl)) ?_
    refine sq 2 rfl rfl (Y_assign (v := .slice B1 out.length c2) rfl rfl) ?_
    refine rw_nil ?_
    refine cw_ret ?_
    obtain rfl := some_inj hF1
    exact ret1 Try.results75 (v1 := .slice B1 out.length c2) (resAt_tmp rfl) ⟨B1, c2, rfl, (ST.subR (R' := []) (hS3.sel [0] rfl rfl) (fun _ h => by cases h))⟩

theorem c_impl_ComposePhase (first : TPhasePoly) (second : TPhasePoly) (B : Option Addr) (c n : Nat) (B1 : Option Addr) (c1 n1 : Nat) (B2 : Option Addr) (c2 n2 : Nat) (B3 : Option Addr) (c3 n3 : Nat) (w0 : World) (hn : first.Terms.length = n) (hn1 : first.Out.Rows.length = n1) (hn2 : second.Terms.length = n2) (hn3 : second.Out.Rows.length = n3) (hS : ST w0 [] w0 [] [⟨B, (first.Terms.flatMap enc_Term)⟩, ⟨B1, (first.Out.Rows.flatMap encI)⟩, ⟨B2, (second.Terms.flatMap enc_Term)⟩, ⟨B3, (second.Out.Rows.flatMap encI)⟩]) {r_ : TPhasePoly} {r_1 : Bool} (hF : F_impl_ComposePhase first second = some (r_, r_1)) :
    CV Try.prog 24 #[.agg #[.int .i64 first.Qubits, .int .i64 first.Phase, .slice B n c, .slice B1 n1 c1], .agg #[.int .i64 second.Qubits, .int .i64 second.Phase, .slice B2 n2 c2, .slice B3 n3 c3]] w0 (fun v w' => ∃ (B4 : Option Addr) (c4 : Nat) (B5 : Option Addr) (c5 : Nat), v = .tuple #[.agg #[.int .i64 r_.Qubits, .int .i64 r_.Phase, .slice B4 r_.Terms.length c4, .slice B5 r_.Out.Rows.length c5], .bool r_1] ∧ ST w0 [] w' [⟨B4, 104, (r_.Terms.flatMap enc_Term), c4 * 2⟩, ⟨B5, 3, (r_.Out.Rows.flatMap encI), c5 * 1⟩] []) := by
  subst hn
  subst hn1
  subst hn2
  subst hn3
  unfold F_impl_ComposePhase at hF
  refine cv_of_cw 79 Try.func24 rfl Try.ntmps24 rfl ?_
  refine cw_seq ?_
  refine cw_region ?_
  refine ss 2 rfl rfl (Ys_box (T := 52) (v := .agg #[.int .i64 first.Qubits, .int .i64 first.Phase, .slice B first.Terms.length c, .slice B1 first.Out.Rows.length c1]) (cs := [.int .i64 first.Qubits, .int .i64 first.Phase, .slice B first.Terms.length c, .slice B1 first.Out.Rows.length c1]) (m := 4) hS rfl rfl rfl rfl) ?_
  rintro _ w_ ⟨b, rfl, hS1⟩
  refine ss 3 rfl rfl (Ys_box (T := 52) (v := .agg #[.int .i64 second.Qubits, .int .i64 second.Phase, .slice B2 second.Terms.length c2, .slice B3 second.Out.Rows.length c3]) (cs := [.int .i64 second.Qubits, .int .i64 second.Phase, .slice B2 second.Terms.length c2, .slice B3 second.Out.Rows.length c3]) (m := 4) hS1 rfl rfl rfl rfl) ?_
  rintro _ w_1 ⟨b1, rfl, hS2⟩
  have hS2 : ST w0 [] _ [⟨some ⟨b, 0, none⟩, 52, [.int .i64 first.Qubits, .int .i64 first.Phase, .slice B first.Terms.length c, .slice B1 first.Out.Rows.length c1], 4⟩, ⟨some ⟨b1, 0, none⟩, 52, [.int .i64 second.Qubits, .int .i64 second.Phase, .slice B2 second.Terms.length c2, .slice B3 second.Out.Rows.length c3], 4⟩] [⟨B, (first.Terms.flatMap enc_Term)⟩, ⟨B1, (first.Out.Rows.flatMap encI)⟩, ⟨B2, (second.Terms.flatMap enc_Term)⟩, ⟨B3, (second.Out.Rows.flatMap encI)⟩] := hS2
  refine ss 4 rfl rfl (Ys_alloc (T := 52) (cs := [.int .i64 0, .int .i64 0, .slice none 0 0, .slice none 0 0]) (m := 4) hS2 k_zero_52 rfl rfl rfl) ?_
  rintro _ w_2 ⟨b2, rfl, hS3⟩
  have hS3 : ST w0 [] _ [⟨some ⟨b, 0, none⟩, 52, [.int .i64 first.Qubits, .int .i64 first.Phase, .slice B first.Terms.length c, .slice B1 first.Out.Rows.length c1], 4⟩, ⟨some ⟨b1, 0, none⟩, 52, [.int .i64 second.Qubits, .int .i64 second.Phase, .slice B2 second.Terms.length c2, .slice B3 second.Out.Rows.length c3], 4⟩, ⟨some ⟨b2, 0, none⟩, 52, [.int .i64 0, .int .i64 0, .slice none 0 0, .slice none 0 0], 4⟩] [⟨B, (first.Terms.flatMap enc_Term)⟩, ⟨B1, (first.Out.Rows.flatMap encI)⟩, ⟨B2, (second.Terms.flatMap enc_Term)⟩, ⟨B3, (second.Out.Rows.flatMap encI)⟩] := hS3
  refine sq 5 rfl rfl (Y_assign (v := .bool false) rfl rfl) ?_
  refine rw_nil ?_
  refine cw_seq ?_
  refine cw_seq ?_
  refine cw_region ?_
  refine sq 13 rfl rfl (Y_loadA (B := some ⟨b, 0, none⟩) (i := 0) (cs := [.int .i64 first.Qubits, .int .i64 first.Phase, .slice B first.Terms.length c, .slice B1 first.Out.Rows.length c1]) (vs := [.int .i64 first.Qubits, .int .i64 first.Phase, .slice B first.Terms.length c, .slice B1 first.Out.Rows.length c1]) k_ag_52 k_sz_52_4 rfl rfl (hS3.cf (i := 0) rfl) rfl rfl) ?_
  obtain ⟨r_2, hc, hF⟩ := bind_inv hF
  refine sc 14 rfl rfl (Yc_func (g := 30) (vs := [.agg #[.int .i64 first.Qubits, .int .i64 first.Phase, .slice B first.Terms.length c, .slice B1 first.Out.Rows.length c1]]) k_call_30 rfl (mc rfl mn) (c_impl_IsValidPhasePoly first B c first.Terms.length B1 c1 first.Out.Rows.length _ rfl rfl (hS3.inn0 [(true, 0), (true, 1)] rfl) hc)) ?_
  rintro _ w_3 ⟨rfl, hd⟩
  have hS4 := hS3.out00 hd
  have hS4 : ST w0 [] _ [⟨some ⟨b, 0, none⟩, 52, [.int .i64 first.Qubits, .int .i64 first.Phase, .slice B first.Terms.length c, .slice B1 first.Out.Rows.length c1], 4⟩, ⟨some ⟨b1, 0, none⟩, 52, [.int .i64 second.Qubits, .int .i64 second.Phase, .slice B2 second.Terms.length c2, .slice B3 second.Out.Rows.length c3], 4⟩, ⟨some ⟨b2, 0, none⟩, 52, [.int .i64 0, .int .i64 0, .slice none 0 0, .slice none 0 0], 4⟩] [⟨B, (first.Terms.flatMap enc_Term)⟩, ⟨B1, (first.Out.Rows.flatMap encI)⟩, ⟨B2, (second.Terms.flatMap enc_Term)⟩, ⟨B3, (second.Out.Rows.flatMap encI)⟩] := hS4
  refine sq 15 rfl rfl (Y_not (p := r_2) rfl rfl) ?_
  refine sq 16 rfl rfl (Y_move (v := .bool (!r_2)) rfl rfl) ?_
  refine sgq 17 (B := (!(!r_2))) (v := .agg #[.int .i64 second.Qubits, .int .i64 second.Phase, .slice B2 second.Terms.length c2, .slice B3 second.Out.Rows.length c3]) rfl rfl (wt_f (gd_of (t := 16) (by kernel_rfl) rfl)) (fun hg => (Y_loadA (B := some ⟨b1, 0, none⟩) (i := 0) (cs := [.int .i64 second.Qubits, .int .i64 second.Phase, .slice B2 second.Terms.length c2, .slice B3 second.Out.Rows.length c3]) (vs := [.int .i64 second.Qubits, .int .i64 second.Phase, .slice B2 second.Terms.length c2, .slice B3 second.Out.Rows.length c3]) k_ag_52 k_sz_52_4 rfl rfl (hS4.cf (i := 1) rfl) rfl rfl)) ?_
  obtain ⟨r_3, hc1, hF⟩ := bind_inv hF
  refine sgc 18 (B := (!(!r_2))) (v := .bool r_3) (F := hS4.fn) rfl rfl (wt_f (gd_of (t := 16) (by kernel_rfl) rfl)) hS4 (fun hg1 => (Yc_func (g := 30) (vs := [.agg #[.int .i64 second.Qubits, .int .i64 second.Phase, .slice B2 second.Terms.length c2, .slice B3 second.Out.Rows.length c3]]) k_call_30 rfl (mc (gv_of (B := (!(!r_2))) (v := .agg #[.int .i64 second.Qubits, .int .i64 second.Phase, .slice B2 second.Terms.length c2, .slice B3 second.Out.Rows.length c3]) hg1) mn) (CV.mono (c_impl_IsValidPhasePoly second B2 c2 second.Terms.length B3 c3 second.Out.Rows.length _ rfl rfl (hS4.inn0 [(true, 2), (true, 3)] rfl) (gb_inv hc1 hg1)) (by rintro _ _ ⟨rfl, h⟩; exact ⟨rfl, hS4.out00 h⟩)))) ?_
  rintro w_4 hS5
  have hS5 : ST _ _ w_4 _ _ := hS5
  refine sgq 19 (B := (!(!r_2))) (v := .bool (!r_3)) rfl rfl (wt_f (gd_of (t := 16) (by kernel_rfl) rfl)) (fun hg2 => (Y_not (p := r_3) rfl (gv_of (B := (!(!r_2))) (v := .bool r_3) hg2))) ?_
  refine sq 20 rfl rfl (Y_or (b := (!r_2)) (z := (!r_3)) rfl rfl rfl rfl) ?_
  refine sq 21 rfl rfl (Y_move (v := .bool ((!r_2) || (!r_3))) rfl rfl) ?_
  refine sgq 22 (B := (!((!r_2) || (!r_3)))) (v := pt (some ⟨b, 0, none⟩) 0) rfl rfl (wt_f (gd_of (t := 21) (by kernel_rfl) rfl)) (fun hg3 => (Y_fieldAddr (B := some ⟨b, 0, none⟩) (i := 0) (s := 0) k_fd_52_0_0_3 k_sz_3_1 rfl rfl)) ?_
  refine sgq 23 (B := (!((!r_2) || (!r_3)))) (v := .int .i64 first.Qubits) rfl rfl (wt_f (gd_of (t := 21) (by kernel_rfl) rfl)) (fun hg4 => (Y_load1 (B := some ⟨b, 0, none⟩) (i := 0) (cs := [.int .i64 first.Qubits, .int .i64 first.Phase, .slice B first.Terms.length c, .slice B1 first.Out.Rows.length c1]) (v := .int .i64 first.Qubits) k_sc_3 rfl (gv_of (B := (!((!r_2) || (!r_3)))) (v := pt (some ⟨b, 0, none⟩) 0) hg4) (hS5.cf (i := 0) rfl) rfl)) ?_
  refine sgq 24 (B := (!((!r_2) || (!r_3)))) (v := pt (some ⟨b1, 0, none⟩) 0) rfl rfl (wt_f (gd_of (t := 21) (by kernel_rfl) rfl)) (fun hg5 => (Y_fieldAddr (B := some ⟨b1, 0, none⟩) (i := 0) (s := 0) k_fd_52_0_0_3 k_sz_3_1 rfl rfl)) ?_
  refine sgq 25 (B := (!((!r_2) || (!r_3)))) (v := .int .i64 second.Qubits) rfl rfl (wt_f (gd_of (t := 21) (by kernel_rfl) rfl)) (fun hg6 => (Y_load1 (B := some ⟨b1, 0, none⟩) (i := 0) (cs := [.int .i64 second.Qubits, .int .i64 second.Phase, .slice B2 second.Terms.length c2, .slice B3 second.Out.Rows.length c3]) (v := .int .i64 second.Qubits) k_sc_3 rfl (gv_of (B := (!((!r_2) || (!r_3)))) (v := pt (some ⟨b1, 0, none⟩) 0) hg6) (hS5.cf (i := 1) rfl) rfl)) ?_
  refine sgq 26 (B := (!((!r_2) || (!r_3)))) (v := .bool (first.Qubits != second.Qubits)) rfl rfl (wt_f (gd_of (t := 21) (by kernel_rfl) rfl)) (fun hg7 => (Y_ne (k := .i64) (a := first.Qubits) (b := second.Qubits) rfl (gv_of (B := (!((!r_2) || (!r_3)))) (v := .int .i64 first.Qubits) hg7) (gv_of (B := (!((!r_2) || (!r_3)))) (v := .int .i64 second.Qubits) hg7))) ?_
  refine sq 27 rfl rfl (Y_or (b := ((!r_2) || (!r_3))) (z := (first.Qubits != second.Qubits)) rfl rfl rfl rfl) ?_
  refine rw_nil ?_
  refine cw_cond (b := (((!r_2) || (!r_3)) || (first.Qubits != second.Qubits))) rfl (fun hb => ?_) (fun hb => ?_)
  · skip
    have hF1 := ct hF hb
    refine cw_seq ?_
    refine cw_region ?_
    refine sq 28 rfl rfl (Y_buildS (zs := [.int .i64 0, .int .i64 0, .slice none 0 0, .slice none 0 0]) (vs := []) (cs := [.int .i64 0, .int .i64 0, .slice none 0 0, .slice none 0 0]) k_pl_52 k_zero_52 rfl mpn rfl) ?_
    refine ss0 rfl rfl (Ys_store (i := 2) (s := 4) (B := some ⟨b2, 0, none⟩) (T' := 52) (v := .agg #[.int .i64 0, .int .i64 0, .slice none 0 0, .slice none 0 0]) (vs := [.int .i64 0, .int .i64 0, .slice none 0 0, .slice none 0 0]) (k := 0) (cs' := [.int .i64 0, .int .i64 0, .slice none 0 0, .slice none 0 0]) hS5 k_sz_52_4 rfl rfl rfl rfl rfl rfl rfl (Nat.le_of_ble_eq_true rfl) rfl rfl) ?_
    rintro _ w_5 ⟨rfl, hS6⟩
    have hS6 : ST w0 [] _ [⟨some ⟨b, 0, none⟩, 52, [.int .i64 first.Qubits, .int .i64 first.Phase, .slice B first.Terms.length c, .slice B1 first.Out.Rows.length c1], 4⟩, ⟨some ⟨b1, 0, none⟩, 52, [.int .i64 second.Qubits, .int .i64 second.Phase, .slice B2 second.Terms.length c2, .slice B3 second.Out.Rows.length c3], 4⟩, ⟨some ⟨b2, 0, none⟩, 52, [.int .i64 0, .int .i64 0, .slice none 0 0, .slice none 0 0], 4⟩] [⟨B, (first.Terms.flatMap enc_Term)⟩, ⟨B1, (first.Out.Rows.flatMap encI)⟩, ⟨B2, (second.Terms.flatMap enc_Term)⟩, ⟨B3, (second.Out.Rows.flatMap encI)⟩] := hS6
    refine sq 5 rfl rfl (Y_assign (v := .bool false) rfl rfl) ?_
    refine rw_nil ?_
    refine cw_ret ?_
    have hS7 := hS6.addNil 104
    have hS8 := hS7.addNil 3
    obtain ⟨rfl, rfl⟩ := pr2 (some_inj hF1)
    exact ret2 Try.results24 (v1 := .agg #[.int .i64 0, .int .i64 0, .slice none 0 0, .slice none 0 0]) (resAt_cellA (B := some ⟨b2, 0, none⟩) (i := 0) (cs := [.int .i64 0, .int .i64 0, .slice none 0 0, .slice none 0 0]) (vs := [.int .i64 0, .int .i64 0, .slice none 0 0, .slice none 0 0]) rfl k_ag_52 k_sz_52_4 (hS8.cf (i := 2) rfl) rfl rfl) (v2 := .bool false) (resAt_tmp rfl) ⟨none, 0, none, 0, rfl, (ST.subR (R' := []) (hS8.sel [3, 4] rfl rfl) (fun _ h => by cases h))⟩
  · skip
    have hF2 := cf' hF hb
    refine cw_skip ?_
    refine cw_seq ?_
    refine cw_region ?_
    refine sq 29 rfl rfl (show Y _ _ _ _ _ (.agg ((List.replicate 32 0).flatMap encI).toArray) from Y_buildA (zs := [.int .i64 0, .int .i64 0, .int .i64 0, .int .i64 0, .int .i64 0, .int .i64 0, .int .i64 0, .int .i64 0, .int .i64 0, .int .i64 0, .int .i64 0, .int .i64 0, .int .i64 0, .int .i64 0, .int .i64 0, .int .i64 0, .int .i64 0, .int .i64 0, .int .i64 0, .int .i64 0, .int .i64 0, .int .i64 0, .int .i64 0, .int .i64 0, .int .i64 0, .int .i64 0, .int .i64 0, .int .i64 0, .int .i64 0, .int .i64 0, .int .i64 0, .int .i64 0]) (vs := []) (cs := [.int .i64 0, .int .i64 0, .int .i64 0, .int .i64 0, .int .i64 0, .int .i64 0, .int .i64 0, .int .i64 0, .int .i64 0, .int .i64 0, .int .i64 0, .int .i64 0, .int .i64 0, .int .i64 0, .int .i64 0, .int .i64 0, .int .i64 0, .int .i64 0, .int .i64 0, .int .i64 0, .int .i64 0, .int .i64 0, .int .i64 0, .int .i64 0, .int .i64 0, .int .i64 0, .int .i64 0, .int .i64 0, .int .i64 0, .int .i64 0, .int .i64 0, .int .i64 0]) k_ar_102_32_3 k_sz_3_1 k_zero_102 rfl rfl rfl) ?_
    refine ss 6 rfl rfl (Ys_alloc (T := 102) (cs := ((List.replicate 32 0).flatMap encI)) (m := 32) hS5 k_zero_102 rfl rfl rfl) ?_
    rintro _ w_6 ⟨b3, rfl, hS9⟩
    have hS9 : ST w0 [] _ [⟨some ⟨b, 0, none⟩, 52, [.int .i64 first.Qubits, .int .i64 first.Phase, .slice B first.Terms.length c, .slice B1 first.Out.Rows.length c1], 4⟩, ⟨some ⟨b1, 0, none⟩, 52, [.int .i64 second.Qubits, .int .i64 second.Phase, .slice B2 second.Terms.length c2, .slice B3 second.Out.Rows.length c3], 4⟩, ⟨some ⟨b2, 0, none⟩, 52, [.int .i64 0, .int .i64 0, .slice none 0 0, .slice none 0 0], 4⟩, ⟨some ⟨b3, 0, none⟩, 102, ((List.replicate 32 0).flatMap encI), 32⟩] [⟨B, (first.Terms.flatMap enc_Term)⟩, ⟨B1, (first.Out.Rows.flatMap encI)⟩, ⟨B2, (second.Terms.flatMap enc_Term)⟩, ⟨B3, (second.Out.Rows.flatMap encI)⟩] := hS9
    refine ss0 rfl rfl (Ys_store (i := 3) (s := 32) (B := some ⟨b3, 0, none⟩) (T' := 102) (v := .agg ((List.replicate 32 0).flatMap encI).toArray) (vs := ((List.replicate 32 0).flatMap encI)) (k := 0) (cs' := ((List.replicate 32 0).flatMap encI)) hS9 k_sz_102_32 rfl rfl rfl rfl (fm_lenn2 encI_len (List.length_replicate (n := 32)) rfl) (fm_one' encI_one _) rfl (fm_fit encI_len (List.length_replicate (n := 32)) rfl) (fm_spl encI_len (List.length_replicate (n := 32)) (List.length_replicate (n := 32))) rfl) ?_
    rintro _ w_7 ⟨rfl, hS10⟩
    have hS10 : ST w0 [] _ [⟨some ⟨b, 0, none⟩, 52, [.int .i64 first.Qubits, .int .i64 first.Phase, .slice B first.Terms.length c, .slice B1 first.Out.Rows.length c1], 4⟩, ⟨some ⟨b1, 0, none⟩, 52, [.int .i64 second.Qubits, .int .i64 second.Phase, .slice B2 second.Terms.length c2, .slice B3 second.Out.Rows.length c3], 4⟩, ⟨some ⟨b2, 0, none⟩, 52, [.int .i64 0, .int .i64 0, .slice none 0 0, .slice none 0 0], 4⟩, ⟨some ⟨b3, 0, none⟩, 102, ((List.replicate 32 0).flatMap encI), 32⟩] [⟨B, (first.Terms.flatMap enc_Term)⟩, ⟨B1, (first.Out.Rows.flatMap encI)⟩, ⟨B2, (second.Terms.flatMap enc_Term)⟩, ⟨B3, (second.Out.Rows.flatMap encI)⟩] := hS10
    refine rw_nil ?_
    refine cw_seq ?_
    refine cw_seq ?_
    refine cw_region ?_
    refine sq 30 rfl rfl (Y_fieldAddr (B := some ⟨b, 0, none⟩) (i := 0) (s := 0) k_fd_52_2_2_47 k_sz_47_1 rfl rfl) ?_
    refine sq 31 rfl rfl (Y_load1 (B := some ⟨b, 0, none⟩) (i := 2) (cs := [.int .i64 first.Qubits, .int .i64 first.Phase, .slice B first.Terms.length c, .slice B1 first.Out.Rows.length c1]) (v := .slice B first.Terms.length c) k_sc_47 rfl rfl (hS10.cf (i := 0) rfl) rfl) ?_
    refine sq 32 rfl rfl (Y_len (B := B) (m := first.Terms.length) (c := c) k_sl_47_104 rfl rfl) ?_
    refine sq 33 rfl rfl (Y_move (v := .int .i64 0) rfl rfl) ?_
    refine rw_nil ?_
    obtain ⟨hN, hF2⟩ := chk_inv hF2
    obtain ⟨z, hz, hF3⟩ := bind_inv hF2
    refine cw_block ?_
    refine cw_loop (fun k f w => ∃ (i : Nat) (sums : List Int), FF f [(2, pt (some ⟨b, 0, none⟩) 0), (3, pt (some ⟨b1, 0, none⟩) 0), (4, pt (some ⟨b2, 0, none⟩) 0), (6, pt (some ⟨b3, 0, none⟩) 0), (31, .slice B first.Terms.length c), (32, .int .i64 (first.Terms.length : Int)), (33, .int .i64 (i : Int))] ∧ sums.length = 32 ∧ ST w0 [] w [⟨some ⟨b, 0, none⟩, 52, [.int .i64 first.Qubits, .int .i64 first.Phase, .slice B first.Terms.length c, .slice B1 first.Out.Rows.length c1], 4⟩, ⟨some ⟨b1, 0, none⟩, 52, [.int .i64 second.Qubits, .int .i64 second.Phase, .slice B2 second.Terms.length c2, .slice B3 second.Out.Rows.length c3], 4⟩, ⟨some ⟨b2, 0, none⟩, 52, [.int .i64 0, .int .i64 0, .slice none 0 0, .slice none 0 0], 4⟩, ⟨some ⟨b3, 0, none⟩, 102, (sums.flatMap encI), 32⟩] [⟨B, (first.Terms.flatMap enc_Term)⟩, ⟨B1, (first.Out.Rows.flatMap encI)⟩, ⟨B2, (second.Terms.flatMap enc_Term)⟩, ⟨B3, (second.Out.Rows.flatMap encI)⟩] ∧ i + k = first.Terms.length ∧ forN (F_impl_ComposePhase_l1 first) k i sums = some z) first.Terms.length ⟨0, (List.replicate 32 0), (FF.cons rfl (FF.cons rfl (FF.cons rfl (FF.cons rfl (FF.cons rfl (FF.cons rfl (FF.cons rfl FF.nil))))))), (List.length_replicate (n := 32)), (hS10.sel [0, 1, 2, 3] rfl rfl), Nat.zero_add _, hz⟩ ?_
    rintro k_ f w ⟨i, sums, hf, hl, hS11, hik, hL⟩
    refine cw_seq ?_
    refine cw_region ?_
    refine sq 34 rfl rfl (Y_lt (k := .i64) (a := (i : Int)) (b := (first.Terms.length : Int)) rfl (hf.get 33 6 rfl) (hf.get 32 5 rfl)) ?_
    refine rw_nil ?_
    refine cw_seq ?_
    refine cw_cond (b := (decide ((i : Int) < (first.Terms.length : Int)))) rfl (fun hlt => ?_) (fun hlt => ?_)
    · skip
      have hlt1 : i < first.Terms.length := by have h := of_decide_eq_true hlt; omega
      obtain ⟨k_1, rfl⟩ : ∃ k2, k_ = k2 + 1 := ⟨k_ - 1, by omega⟩
      obtain ⟨y, hb1, hL1⟩ := forN_go hL
      unfold F_impl_ComposePhase_l1 at hb1
      refine cw_skip ?_
      refine cw_seq ?_
      refine cw_block ?_
      refine cw_seq ?_
      refine cw_region ?_
      obtain ⟨x, hx, hb1⟩ := bind_inv hb1
      refine sq 35 rfl rfl (Y_index (B := B) (m := first.Terms.length) (c := c) (k := .i64) (i := (i : Int)) k_sl_47_104 k_sz_104_2 rfl (hf.get 31 4 rfl) (hf.get 33 6 rfl) (gi_isSome enc_Term_len rfl (hS11.rf (i := 0) rfl) hx) (getI_nn hx) (getI_ltI hx rfl)) ?_
      refine sq 36 rfl rfl (Y_loadA (B := B) (i := (i : Int).toNat * 2) (cs := (first.Terms.flatMap enc_Term)) (vs := [.int .i64 x.Mask, .int .i64 x.Coef]) k_ag_104 k_sz_104_2 rfl rfl (hS11.rf (i := 0) rfl) (enc_Term_len x) (gi_seg enc_Term_len hx)) ?_
      refine ss 8 rfl rfl (Ys_alloc (T := 104) (cs := [.int .i64 0, .int .i64 0]) (m := 2) hS11 k_zero_104 rfl rfl rfl) ?_
      rintro _ w_8 ⟨b4, rfl, hS12⟩
      have hS12 : ST w0 [] _ [⟨some ⟨b, 0, none⟩, 52, [.int .i64 first.Qubits, .int .i64 first.Phase, .slice B first.Terms.length c, .slice B1 first.Out.Rows.length c1], 4⟩, ⟨some ⟨b1, 0, none⟩, 52, [.int .i64 second.Qubits, .int .i64 second.Phase, .slice B2 second.Terms.length c2, .slice B3 second.Out.Rows.length c3], 4⟩, ⟨some ⟨b2, 0, none⟩, 52, [.int .i64 0, .int .i64 0, .slice none 0 0, .slice none 0 0], 4⟩, ⟨some ⟨b3, 0, none⟩, 102, (sums.flatMap encI), 32⟩, ⟨some ⟨b4, 0, none⟩, 104, [.int .i64 0, .int .i64 0], 2⟩] [⟨B, (first.Terms.flatMap enc_Term)⟩, ⟨B1, (first.Out.Rows.flatMap encI)⟩, ⟨B2, (second.Terms.flatMap enc_Term)⟩, ⟨B3, (second.Out.Rows.flatMap encI)⟩] := hS12
      refine ss0 rfl rfl (Ys_store (i := 4) (s := 2) (B := some ⟨b4, 0, none⟩) (T' := 104) (v := .agg #[.int .i64 x.Mask, .int .i64 x.Coef]) (vs := [.int .i64 x.Mask, .int .i64 x.Coef]) (k := 0) (cs' := [.int .i64 x.Mask, .int .i64 x.Coef]) hS12 k_sz_104_2 rfl rfl rfl rfl rfl rfl rfl (Nat.le_of_ble_eq_true rfl) rfl rfl) ?_
      rintro _ w_9 ⟨rfl, hS13⟩
      have hS13 : ST w0 [] _ [⟨some ⟨b, 0, none⟩, 52, [.int .i64 first.Qubits, .int .i64 first.Phase, .slice B first.Terms.length c, .slice B1 first.Out.Rows.length c1], 4⟩, ⟨some ⟨b1, 0, none⟩, 52, [.int .i64 second.Qubits, .int .i64 second.Phase, .slice B2 second.Terms.length c2, .slice B3 second.Out.Rows.length c3], 4⟩, ⟨some ⟨b2, 0, none⟩, 52, [.int .i64 0, .int .i64 0, .slice none 0 0, .slice none 0 0], 4⟩, ⟨some ⟨b3, 0, none⟩, 102, (sums.flatMap encI), 32⟩, ⟨some ⟨b4, 0, none⟩, 104, [.int .i64 x.Mask, .int .i64 x.Coef], 2⟩] [⟨B, (first.Terms.flatMap enc_Term)⟩, ⟨B1, (first.Out.Rows.flatMap encI)⟩, ⟨B2, (second.Terms.flatMap enc_Term)⟩, ⟨B3, (second.Out.Rows.flatMap encI)⟩] := hS13
      refine rw_nil ?_
      refine cw_region ?_
      refine sq 37 rfl rfl (Y_fieldAddr (B := some ⟨b4, 0, none⟩) (i := 0) (s := 0) k_fd_104_0_0_3 k_sz_3_1 rfl rfl) ?_
      refine sq 38 rfl rfl (Y_load1 (B := some ⟨b4, 0, none⟩) (i := 0) (cs := [.int .i64 x.Mask, .int .i64 x.Coef]) (v := .int .i64 x.Mask) k_sc_3 rfl rfl (hS13.cf (i := 4) rfl) rfl) ?_
      refine sq 39 rfl rfl (Y_fieldAddr (B := some ⟨b4, 0, none⟩) (i := 0) (s := 0) k_fd_104_1_1_3 k_sz_3_1 rfl rfl) ?_
      refine sq 40 rfl rfl (Y_load1 (B := some ⟨b4, 0, none⟩) (i := 1) (cs := [.int .i64 x.Mask, .int .i64 x.Coef]) (v := .int .i64 x.Coef) k_sc_3 rfl rfl (hS13.cf (i := 4) rfl) rfl) ?_
      obtain ⟨m, hc2, hb1⟩ := bind_inv hb1
      refine sc 41 rfl rfl (Yc_func (g := 72) (vs := [pt (some ⟨b3, 0, none⟩) 0, .int .i64 x.Mask, .int .i64 x.Coef]) k_call_72 rfl (mc (hf.get 6 3 rfl) (mc rfl (mc rfl mn))) (c_impl_coefficients_add sums x.Mask x.Coef (some ⟨b3, 0, none⟩) _ hl (hS13.inn [false, false, false, true, false] rfl [] rfl) hc2)) ?_
      rintro _ w_10 ⟨rfl, hl1, hd1⟩
      have hS14 := hS13.out [false, false, false, true, false] rfl hd1
      have hS14 : ST w0 [] _ [⟨some ⟨b, 0, none⟩, 52, [.int .i64 first.Qubits, .int .i64 first.Phase, .slice B first.Terms.length c, .slice B1 first.Out.Rows.length c1], 4⟩, ⟨some ⟨b1, 0, none⟩, 52, [.int .i64 second.Qubits, .int .i64 second.Phase, .slice B2 second.Terms.length c2, .slice B3 second.Out.Rows.length c3], 4⟩, ⟨some ⟨b2, 0, none⟩, 52, [.int .i64 0, .int .i64 0, .slice none 0 0, .slice none 0 0], 4⟩, ⟨some ⟨b4, 0, none⟩, 104, [.int .i64 x.Mask, .int .i64 x.Coef], 2⟩, ⟨some ⟨b3, 0, none⟩, 102, (m.flatMap encI), 32⟩] [⟨B, (first.Terms.flatMap enc_Term)⟩, ⟨B1, (first.Out.Rows.flatMap encI)⟩, ⟨B2, (second.Terms.flatMap enc_Term)⟩, ⟨B3, (second.Out.Rows.flatMap encI)⟩] := hS14
      refine rw_nil ?_
      refine cw_region ?_
      refine sq 42 rfl rfl (Y_add (k := .i64) (a := (i : Int)) (b := 1) rfl (hf.get 33 6 rfl) rfl) ?_
      refine sq 33 rfl rfl (Y_move (v := .int .i64 (IntKind.i64.wrap ((i : Int) + 1))) rfl rfl) ?_
      refine rw_nil ?_
      obtain rfl := some_inj hb1
      exact ⟨k_1, Nat.lt_succ_self _, i + 1, m, (FF.cons (hf.get 2 0 rfl) (FF.cons (hf.get 3 1 rfl) (FF.cons (hf.get 4 2 rfl) (FF.cons (hf.get 6 3 rfl) (FF.cons (hf.get 31 4 rfl) (FF.cons (hf.get 32 5 rfl) (FF.cons (congrArg (Value.int .i64) (wr_succ hlt1 hN)) FF.nil))))))), hl1, (hS14.sel [0, 1, 2, 4] rfl rfl), (by omega), hL1⟩
    · skip
      obtain rfl : k_ = 0 := by have h := of_decide_eq_false hlt; omega
      refine cw_exit rfl ?_
      obtain rfl := some_inj hL
      refine cw_seq ?_
      refine cw_seq ?_
      refine cw_region ?_
      refine sq 43 rfl rfl (Y_fieldAddr (B := some ⟨b1, 0, none⟩) (i := 0) (s := 0) k_fd_52_2_2_47 k_sz_47_1 rfl (hf.get 3 1 rfl)) ?_
      refine sq 44 rfl rfl (Y_load1 (B := some ⟨b1, 0, none⟩) (i := 2) (cs := [.int .i64 second.Qubits, .int .i64 second.Phase, .slice B2 second.Terms.length c2, .slice B3 second.Out.Rows.length c3]) (v := .slice B2 second.Terms.length c2) k_sc_47 rfl rfl (hS11.cf (i := 1) rfl) rfl) ?_
      refine sq 45 rfl rfl (Y_len (B := B2) (m := second.Terms.length) (c := c2) k_sl_47_104 rfl rfl) ?_
      refine sq 46 rfl rfl (Y_move (v := .int .i64 0) rfl rfl) ?_
      refine rw_nil ?_
      obtain ⟨hN1, hF3⟩ := chk_inv hF3
      obtain ⟨z1, hz1, hF4⟩ := bind_inv hF3
      refine cw_block ?_
      refine cw_loop (fun k f w => ∃ (i1 : Nat) (sums1 : List Int), FF f [(2, pt (some ⟨b, 0, none⟩) 0), (3, pt (some ⟨b1, 0, none⟩) 0), (4, pt (some ⟨b2, 0, none⟩) 0), (6, pt (some ⟨b3, 0, none⟩) 0), (44, .slice B2 second.Terms.length c2), (45, .int .i64 (second.Terms.length : Int)), (46, .int .i64 (i1 : Int))] ∧ sums1.length = 32 ∧ ST w0 [] w [⟨some ⟨b, 0, none⟩, 52, [.int .i64 first.Qubits, .int .i64 first.Phase, .slice B first.Terms.length c, .slice B1 first.Out.Rows.length c1], 4⟩, ⟨some ⟨b1, 0, none⟩, 52, [.int .i64 second.Qubits, .int .i64 second.Phase, .slice B2 second.Terms.length c2, .slice B3 second.Out.Rows.length c3], 4⟩, ⟨some ⟨b2, 0, none⟩, 52, [.int .i64 0, .int .i64 0, .slice none 0 0, .slice none 0 0], 4⟩, ⟨some ⟨b3, 0, none⟩, 102, (sums1.flatMap encI), 32⟩] [⟨B, (first.Terms.flatMap enc_Term)⟩, ⟨B1, (first.Out.Rows.flatMap encI)⟩, ⟨B2, (second.Terms.flatMap enc_Term)⟩, ⟨B3, (second.Out.Rows.flatMap encI)⟩] ∧ i1 + k = second.Terms.length ∧ forN (F_impl_ComposePhase_l2 second first) k i1 sums1 = some z1) second.Terms.length ⟨0, sums, (FF.cons (hf.get 2 0 rfl) (FF.cons (hf.get 3 1 rfl) (FF.cons (hf.get 4 2 rfl) (FF.cons (hf.get 6 3 rfl) (FF.cons rfl (FF.cons rfl (FF.cons rfl FF.nil))))))), hl, (hS11.sel [0, 1, 2, 3] rfl rfl), Nat.zero_add _, hz1⟩ ?_
      rintro k_2 f w ⟨i1, sums1, hf1, hl2, hS15, hik1, hL2⟩
      refine cw_seq ?_
      refine cw_region ?_
      refine sq 47 rfl rfl (Y_lt (k := .i64) (a := (i1 : Int)) (b := (second.Terms.length : Int)) rfl (hf1.get 46 6 rfl) (hf1.get 45 5 rfl)) ?_
      refine rw_nil ?_
      refine cw_seq ?_
      refine cw_cond (b := (decide ((i1 : Int) < (second.Terms.length : Int)))) rfl (fun hlt2 => ?_) (fun hlt2 => ?_)
      · skip
        have hlt3 : i1 < second.Terms.length := by have h := of_decide_eq_true hlt2; omega
        obtain ⟨k_3, rfl⟩ : ∃ k2, k_2 = k2 + 1 := ⟨k_2 - 1, by omega⟩
        obtain ⟨y1, hb2, hL3⟩ := forN_go hL2
        unfold F_impl_ComposePhase_l2 at hb2
        refine cw_skip ?_
        refine cw_seq ?_
        refine cw_block ?_
        refine cw_seq ?_
        refine cw_region ?_
        obtain ⟨x1, hx1, hb2⟩ := bind_inv hb2
        refine sq 48 rfl rfl (Y_index (B := B2) (m := second.Terms.length) (c := c2) (k := .i64) (i := (i1 : Int)) k_sl_47_104 k_sz_104_2 rfl (hf1.get 44 4 rfl) (hf1.get 46 6 rfl) (gi_isSome enc_Term_len rfl (hS15.rf (i := 2) rfl) hx1) (getI_nn hx1) (getI_ltI hx1 rfl)) ?_
        refine sq 49 rfl rfl (Y_loadA (B := B2) (i := (i1 : Int).toNat * 2) (cs := (second.Terms.flatMap enc_Term)) (vs := [.int .i64 x1.Mask, .int .i64 x1.Coef]) k_ag_104 k_sz_104_2 rfl rfl (hS15.rf (i := 2) rfl) (enc_Term_len x1) (gi_seg enc_Term_len hx1)) ?_
        refine ss 10 rfl rfl (Ys_alloc (T := 104) (cs := [.int .i64 0, .int .i64 0]) (m := 2) hS15 k_zero_104 rfl rfl rfl) ?_
        rintro _ w_11 ⟨b5, rfl, hS16⟩
        have hS16 : ST w0 [] _ [⟨some ⟨b, 0, none⟩, 52, [.int .i64 first.Qubits, .int .i64 first.Phase, .slice B first.Terms.length c, .slice B1 first.Out.Rows.length c1], 4⟩, ⟨some ⟨b1, 0, none⟩, 52, [.int .i64 second.Qubits, .int .i64 second.Phase, .slice B2 second.Terms.length c2, .slice B3 second.Out.Rows.length c3], 4⟩, ⟨some ⟨b2, 0, none⟩, 52, [.int .i64 0, .int .i64 0, .slice none 0 0, .slice none 0 0], 4⟩, ⟨some ⟨b3, 0, none⟩, 102, (sums1.flatMap encI), 32⟩, ⟨some ⟨b5, 0, none⟩, 104, [.int .i64 0, .int .i64 0], 2⟩] [⟨B, (first.Terms.flatMap enc_Term)⟩, ⟨B1, (first.Out.Rows.flatMap encI)⟩, ⟨B2, (second.Terms.flatMap enc_Term)⟩, ⟨B3, (second.Out.Rows.flatMap encI)⟩] := hS16
        refine ss0 rfl rfl (Ys_store (i := 4) (s := 2) (B := some ⟨b5, 0, none⟩) (T' := 104) (v := .agg #[.int .i64 x1.Mask, .int .i64 x1.Coef]) (vs := [.int .i64 x1.Mask, .int .i64 x1.Coef]) (k := 0) (cs' := [.int .i64 x1.Mask, .int .i64 x1.Coef]) hS16 k_sz_104_2 rfl rfl rfl rfl rfl rfl rfl (Nat.le_of_ble_eq_true rfl) rfl rfl) ?_
        rintro _ w_12 ⟨rfl, hS17⟩
        have hS17 : ST w0 [] _ [⟨some ⟨b, 0, none⟩, 52, [.int .i64 first.Qubits, .int .i64 first.Phase, .slice B first.Terms.length c, .slice B1 first.Out.Rows.length c1], 4⟩, ⟨some ⟨b1, 0, none⟩, 52, [.int .i64 second.Qubits, .int .i64 second.Phase, .slice B2 second.Terms.length c2, .slice B3 second.Out.Rows.length c3], 4⟩, ⟨some ⟨b2, 0, none⟩, 52, [.int .i64 0, .int .i64 0, .slice none 0 0, .slice none 0 0], 4⟩, ⟨some ⟨b3, 0, none⟩, 102, (sums1.flatMap encI), 32⟩, ⟨some ⟨b5, 0, none⟩, 104, [.int .i64 x1.Mask, .int .i64 x1.Coef], 2⟩] [⟨B, (first.Terms.flatMap enc_Term)⟩, ⟨B1, (first.Out.Rows.flatMap encI)⟩, ⟨B2, (second.Terms.flatMap enc_Term)⟩, ⟨B3, (second.Out.Rows.flatMap encI)⟩] := hS17
        refine rw_nil ?_
        obtain ⟨r_4, hc3, hb2⟩ := bind_inv hb2
        obtain ⟨m1, hc4, hb2⟩ := bind_inv hb2
        refine ra_start (ST.sel hS17 [0, 1, 2, 4] rfl rfl).fn (by kernel_rfl) ?_
        have hS20 := hS17.drew
        refine ra_q 0 50 (v := pt (some ⟨b, 0, none⟩) 3) rfl rfl rfl (by kernel_rfl) (by kernel_rfl) (by kernel_rfl) (ST.sel hS20 [0, 1, 2, 4] rfl rfl) (fun w' hw' => (Y_fieldAddr (B := some ⟨b, 0, none⟩) (i := 0) (s := 0) k_fd_52_3_3_50 k_sz_50_1 rfl (hf1.get 2 0 rfl))) ?_
        refine ra_q 1 51 (v := .agg #[.slice B1 first.Out.Rows.length c1]) rfl rfl rfl (by kernel_rfl) (by kernel_rfl) (by kernel_rfl) (ST.sel hS20 [0, 1, 2, 4] rfl rfl) (fun w' hw' => (Y_loadA (B := some ⟨b, 0, none⟩) (i := 3) (cs := [.int .i64 first.Qubits, .int .i64 first.Phase, .slice B first.Terms.length c, .slice B1 first.Out.Rows.length c1]) (vs := [.slice B1 first.Out.Rows.length c1]) k_ag_50 k_sz_50_1 rfl rfl (ST.cf hw' (i := 0) rfl) rfl rfl)) ?_
        refine ra_q 2 52 (v := pt (some ⟨b5, 0, none⟩) 0) rfl rfl rfl (by kernel_rfl) (by kernel_rfl) (by kernel_rfl) (ST.sel hS20 [0, 1, 2, 4] rfl rfl) (fun w' hw' => (Y_fieldAddr (B := some ⟨b5, 0, none⟩) (i := 0) (s := 0) k_fd_104_0_0_3 k_sz_3_1 rfl rfl)) ?_
        refine ra_q 3 53 (v := .int .i64 x1.Mask) rfl rfl rfl (by kernel_rfl) (by kernel_rfl) (by kernel_rfl) (ST.sel hS20 [0, 1, 2, 4] rfl rfl) (fun w' hw' => (Y_load1 (B := some ⟨b5, 0, none⟩) (i := 0) (cs := [.int .i64 x1.Mask, .int .i64 x1.Coef]) (v := .int .i64 x1.Mask) k_sc_3 rfl rfl (ST.cf hw' (i := 3) rfl) rfl)) ?_
        refine ra_q 5 55 (v := pt (some ⟨b5, 0, none⟩) 1) rfl rfl rfl (by kernel_rfl) (by kernel_rfl) (by kernel_rfl) (ST.sel hS20 [0, 1, 2, 4] rfl rfl) (fun w' hw' => (Y_fieldAddr (B := some ⟨b5, 0, none⟩) (i := 0) (s := 0) k_fd_104_1_1_3 k_sz_3_1 rfl rfl)) ?_
        refine ra_q 6 56 (v := .int .i64 x1.Coef) rfl rfl rfl (by kernel_rfl) (by kernel_rfl) (by kernel_rfl) (ST.sel hS20 [0, 1, 2, 4] rfl rfl) (fun w' hw' => (Y_load1 (B := some ⟨b5, 0, none⟩) (i := 1) (cs := [.int .i64 x1.Mask, .int .i64 x1.Coef]) (v := .int .i64 x1.Coef) k_sc_3 rfl rfl (ST.cf hw' (i := 3) rfl) rfl)) ?_
        refine ra_all (rs := [4]) (by kernel_rfl) rfl ?_
        refine ra_c 54 (i := 4) rfl rfl rfl (Yc_func (g := 73) (vs := [.agg #[.slice B1 first.Out.Rows.length c1], .int .i64 x1.Mask]) k_call_73 rfl (mc rfl (mc rfl mn)) (c_impl_Linear_through first.Out x1.Mask B1 c1 first.Out.Rows.length _ rfl (hS20.inn0 [(true, 1)] rfl) hc3)) ?_ ?_
        · rintro _ w_13 ⟨rfl, hd2⟩
          have hS21 := hS20.out00 hd2
          have hS21 : ST w0 [] _ [⟨some ⟨b, 0, none⟩, 52, [.int .i64 first.Qubits, .int .i64 first.Phase, .slice B first.Terms.length c, .slice B1 first.Out.Rows.length c1], 4⟩, ⟨some ⟨b1, 0, none⟩, 52, [.int .i64 second.Qubits, .int .i64 second.Phase, .slice B2 second.Terms.length c2, .slice B3 second.Out.Rows.length c3], 4⟩, ⟨some ⟨b2, 0, none⟩, 52, [.int .i64 0, .int .i64 0, .slice none 0 0, .slice none 0 0], 4⟩, ⟨some ⟨b3, 0, none⟩, 102, (sums1.flatMap encI), 32⟩, ⟨some ⟨b5, 0, none⟩, 104, [.int .i64 x1.Mask, .int .i64 x1.Coef], 2⟩] [⟨B, (first.Terms.flatMap enc_Term)⟩, ⟨B1, (first.Out.Rows.flatMap encI)⟩, ⟨B2, (second.Terms.flatMap enc_Term)⟩, ⟨B3, (second.Out.Rows.flatMap encI)⟩] := hS21
          refine ⟨(ST.sel hS21 [0, 1, 2, 4] rfl rfl), ?_⟩
          refine ra_all (rs := [7]) (by kernel_rfl) rfl ?_
          refine ra_c 57 (i := 7) rfl rfl rfl (Yc_func (g := 72) (vs := [pt (some ⟨b3, 0, none⟩) 0, .int .i64 r_4, .int .i64 x1.Coef]) k_call_72 rfl (mc (hf1.get 6 3 rfl) (mc rfl (mc rfl mn))) (c_impl_coefficients_add sums1 r_4 x1.Coef (some ⟨b3, 0, none⟩) _ hl2 (hS21.inn [false, false, false, true, false] rfl [] rfl) hc4)) ?_ ?_
          · rintro _ w_14 ⟨rfl, hl3, hd3⟩
            have hS22 := hS21.out [false, false, false, true, false] rfl hd3
            have hS22 : ST w0 [] _ [⟨some ⟨b, 0, none⟩, 52, [.int .i64 first.Qubits, .int .i64 first.Phase, .slice B first.Terms.length c, .slice B1 first.Out.Rows.length c1], 4⟩, ⟨some ⟨b1, 0, none⟩, 52, [.int .i64 second.Qubits, .int .i64 second.Phase, .slice B2 second.Terms.length c2, .slice B3 second.Out.Rows.length c3], 4⟩, ⟨some ⟨b2, 0, none⟩, 52, [.int .i64 0, .int .i64 0, .slice none 0 0, .slice none 0 0], 4⟩, ⟨some ⟨b5, 0, none⟩, 104, [.int .i64 x1.Mask, .int .i64 x1.Coef], 2⟩, ⟨some ⟨b3, 0, none⟩, 102, (m1.flatMap encI), 32⟩] [⟨B, (first.Terms.flatMap enc_Term)⟩, ⟨B1, (first.Out.Rows.flatMap encI)⟩, ⟨B2, (second.Terms.flatMap enc_Term)⟩, ⟨B3, (second.Out.Rows.flatMap encI)⟩] := hS22
            refine ⟨(ST.sel hS22 [0, 1, 2, 3] rfl rfl), ?_⟩
            refine ra_done (by kernel_rfl) ?_
            refine cw_region ?_
            refine sq 58 rfl rfl (Y_add (k := .i64) (a := (i1 : Int)) (b := 1) rfl (hf1.get 46 6 rfl) rfl) ?_
            refine sq 46 rfl rfl (Y_move (v := .int .i64 (IntKind.i64.wrap ((i1 : Int) + 1))) rfl rfl) ?_
            refine rw_nil ?_
            obtain rfl := some_inj hb2
            exact ⟨k_3, Nat.lt_succ_self _, i1 + 1, m1, (FF.cons (hf1.get 2 0 rfl) (FF.cons (hf1.get 3 1 rfl) (FF.cons (hf1.get 4 2 rfl) (FF.cons (hf1.get 6 3 rfl) (FF.cons (hf1.get 44 4 rfl) (FF.cons (hf1.get 45 5 rfl) (FF.cons (congrArg (Value.int .i64) (wr_succ hlt3 hN1)) FF.nil))))))), hl3, (hS22.sel [0, 1, 2, 4] rfl rfl), (by omega), hL3⟩
          exact allR_nil
        exact allR_nil
      · skip
        obtain rfl : k_2 = 0 := by have h := of_decide_eq_false hlt2; omega
        refine cw_exit rfl ?_
        obtain rfl := some_inj hL2
        refine cw_seq ?_
        refine cw_region ?_
        refine sq 60 rfl rfl (Y_fieldAddr (B := some ⟨b, 0, none⟩) (i := 0) (s := 0) k_fd_52_3_3_50 k_sz_50_1 rfl (hf1.get 2 0 rfl)) ?_
        refine sq 61 rfl rfl (Y_loadA (B := some ⟨b, 0, none⟩) (i := 3) (cs := [.int .i64 first.Qubits, .int .i64 first.Phase, .slice B first.Terms.length c, .slice B1 first.Out.Rows.length c1]) (vs := [.slice B1 first.Out.Rows.length c1]) k_ag_50 k_sz_50_1 rfl rfl (hS15.cf (i := 0) rfl) rfl rfl) ?_
        refine sq 62 rfl rfl (Y_fieldAddr (B := some ⟨b1, 0, none⟩) (i := 0) (s := 0) k_fd_52_3_3_50 k_sz_50_1 rfl (hf1.get 3 1 rfl)) ?_
        refine sq 63 rfl rfl (Y_loadA (B := some ⟨b1, 0, none⟩) (i := 3) (cs := [.int .i64 second.Qubits, .int .i64 second.Phase, .slice B2 second.Terms.length c2, .slice B3 second.Out.Rows.length c3]) (vs := [.slice B3 second.Out.Rows.length c3]) k_ag_50 k_sz_50_1 rfl rfl (hS15.cf (i := 1) rfl) rfl rfl) ?_
        obtain ⟨⟨r_5, r_6⟩, hc5, hF4⟩ := bind_inv hF4
        refine sc 64 rfl rfl (Yc_func (g := 74) (vs := [.agg #[.slice B1 first.Out.Rows.length c1], .agg #[.slice B3 second.Out.Rows.length c3]]) k_call_74 rfl (mc rfl (mc rfl mn)) (c_impl_ComposeLinear first.Out second.Out B1 c1 first.Out.Rows.length B3 c3 second.Out.Rows.length _ rfl rfl (hS15.inn0 [(true, 1), (true, 3)] rfl) hc5)) ?_
        rintro _ w_15 ⟨B6, c6, rfl, hd4⟩
        have hS23 := hS15.out0 hd4
        have hS23 : ST w0 [] _ [⟨some ⟨b, 0, none⟩, 52, [.int .i64 first.Qubits, .int .i64 first.Phase, .slice B first.Terms.length c, .slice B1 first.Out.Rows.length c1], 4⟩, ⟨some ⟨b1, 0, none⟩, 52, [.int .i64 second.Qubits, .int .i64 second.Phase, .slice B2 second.Terms.length c2, .slice B3 second.Out.Rows.length c3], 4⟩, ⟨some ⟨b2, 0, none⟩, 52, [.int .i64 0, .int .i64 0, .slice none 0 0, .slice none 0 0], 4⟩, ⟨some ⟨b3, 0, none⟩, 102, (sums1.flatMap encI), 32⟩, ⟨B6, 3, (r_5.Rows.flatMap encI), c6 * 1⟩] [⟨B, (first.Terms.flatMap enc_Term)⟩, ⟨B1, (first.Out.Rows.flatMap encI)⟩, ⟨B2, (second.Terms.flatMap enc_Term)⟩, ⟨B3, (second.Out.Rows.flatMap encI)⟩] := hS23
        refine sq 59 rfl rfl (Y_move (v := .tuple #[.agg #[.slice B6 r_5.Rows.length c6], .bool r_6]) rfl rfl) ?_
        refine sq 65 rfl rfl (Y_extract (v := .agg #[.slice B6 r_5.Rows.length c6]) rfl rfl rfl) ?_
        refine sq 66 rfl rfl (Y_extract (v := .bool r_6) rfl rfl rfl) ?_
        refine ss 11 rfl rfl (Ys_alloc (T := 50) (cs := [.slice none 0 0]) (m := 1) hS23 k_zero_50 rfl rfl rfl) ?_
        rintro _ w_16 ⟨b6, rfl, hS24⟩
        have hS24 : ST w0 [] _ [⟨some ⟨b, 0, none⟩, 52, [.int .i64 first.Qubits, .int .i64 first.Phase, .slice B first.Terms.length c, .slice B1 first.Out.Rows.length c1], 4⟩, ⟨some ⟨b1, 0, none⟩, 52, [.int .i64 second.Qubits, .int .i64 second.Phase, .slice B2 second.Terms.length c2, .slice B3 second.Out.Rows.length c3], 4⟩, ⟨some ⟨b2, 0, none⟩, 52, [.int .i64 0, .int .i64 0, .slice none 0 0, .slice none 0 0], 4⟩, ⟨some ⟨b3, 0, none⟩, 102, (sums1.flatMap encI), 32⟩, ⟨B6, 3, (r_5.Rows.flatMap encI), c6 * 1⟩, ⟨some ⟨b6, 0, none⟩, 50, [.slice none 0 0], 1⟩] [⟨B, (first.Terms.flatMap enc_Term)⟩, ⟨B1, (first.Out.Rows.flatMap encI)⟩, ⟨B2, (second.Terms.flatMap enc_Term)⟩, ⟨B3, (second.Out.Rows.flatMap encI)⟩] := hS24
        refine ss0 rfl rfl (Ys_store (i := 5) (s := 1) (B := some ⟨b6, 0, none⟩) (T' := 50) (v := .agg #[.slice B6 r_5.Rows.length c6]) (vs := [.slice B6 r_5.Rows.length c6]) (k := 0) (cs' := [.slice B6 r_5.Rows.length c6]) hS24 k_sz_50_1 rfl rfl rfl rfl rfl rfl rfl (Nat.le_of_ble_eq_true rfl) rfl rfl) ?_
        rintro _ w_17 ⟨rfl, hS25⟩
        have hS25 : ST w0 [] _ [⟨some ⟨b, 0, none⟩, 52, [.int .i64 first.Qubits, .int .i64 first.Phase, .slice B first.Terms.length c, .slice B1 first.Out.Rows.length c1], 4⟩, ⟨some ⟨b1, 0, none⟩, 52, [.int .i64 second.Qubits, .int .i64 second.Phase, .slice B2 second.Terms.length c2, .slice B3 second.Out.Rows.length c3], 4⟩, ⟨some ⟨b2, 0, none⟩, 52, [.int .i64 0, .int .i64 0, .slice none 0 0, .slice none 0 0], 4⟩, ⟨some ⟨b3, 0, none⟩, 102, (sums1.flatMap encI), 32⟩, ⟨B6, 3, (r_5.Rows.flatMap encI), c6 * 1⟩, ⟨some ⟨b6, 0, none⟩, 50, [.slice B6 r_5.Rows.length c6], 1⟩] [⟨B, (first.Terms.flatMap enc_Term)⟩, ⟨B1, (first.Out.Rows.flatMap encI)⟩, ⟨B2, (second.Terms.flatMap enc_Term)⟩, ⟨B3, (second.Out.Rows.flatMap encI)⟩] := hS25
        refine sq 12 rfl rfl (Y_assign (v := .bool r_6) rfl rfl) ?_
        refine rw_nil ?_
        refine cw_seq ?_
        obtain ⟨r_7, hc6, hF4⟩ := bind_inv hF4
        refine ra_start (ST.sel hS25 [0, 1, 3, 4, 5] rfl rfl).fn (by kernel_rfl) ?_
        have hS27 := hS25.drew
        refine ra_q 0 67 (v := pt (some ⟨b, 0, none⟩) 0) rfl rfl rfl (by kernel_rfl) (by kernel_rfl) (by kernel_rfl) (ST.sel hS27 [0, 1, 3, 4, 5] rfl rfl) (fun w' hw' => (Y_fieldAddr (B := some ⟨b, 0, none⟩) (i := 0) (s := 0) k_fd_52_0_0_3 k_sz_3_1 rfl (hf1.get 2 0 rfl))) ?_
        refine ra_q 1 68 (v := .int .i64 first.Qubits) rfl rfl rfl (by kernel_rfl) (by kernel_rfl) (by kernel_rfl) (ST.sel hS27 [0, 1, 3, 4, 5] rfl rfl) (fun w' hw' => (Y_load1 (B := some ⟨b, 0, none⟩) (i := 0) (cs := [.int .i64 first.Qubits, .int .i64 first.Phase, .slice B first.Terms.length c, .slice B1 first.Out.Rows.length c1]) (v := .int .i64 first.Qubits) k_sc_3 rfl rfl (ST.cf hw' (i := 0) rfl) rfl)) ?_
        refine ra_q 2 69 (v := pt (some ⟨b, 0, none⟩) 1) rfl rfl rfl (by kernel_rfl) (by kernel_rfl) (by kernel_rfl) (ST.sel hS27 [0, 1, 3, 4, 5] rfl rfl) (fun w' hw' => (Y_fieldAddr (B := some ⟨b, 0, none⟩) (i := 0) (s := 0) k_fd_52_1_1_3 k_sz_3_1 rfl (hf1.get 2 0 rfl))) ?_
        refine ra_q 3 70 (v := .int .i64 first.Phase) rfl rfl rfl (by kernel_rfl) (by kernel_rfl) (by kernel_rfl) (ST.sel hS27 [0, 1, 3, 4, 5] rfl rfl) (fun w' hw' => (Y_load1 (B := some ⟨b, 0, none⟩) (i := 1) (cs := [.int .i64 first.Qubits, .int .i64 first.Phase, .slice B first.Terms.length c, .slice B1 first.Out.Rows.length c1]) (v := .int .i64 first.Phase) k_sc_3 rfl rfl (ST.cf hw' (i := 0) rfl) rfl)) ?_
        refine ra_q 4 71 (v := pt (some ⟨b1, 0, none⟩) 1) rfl rfl rfl (by kernel_rfl) (by kernel_rfl) (by kernel_rfl) (ST.sel hS27 [0, 1, 3, 4, 5] rfl rfl) (fun w' hw' => (Y_fieldAddr (B := some ⟨b1, 0, none⟩) (i := 0) (s := 0) k_fd_52_1_1_3 k_sz_3_1 rfl (hf1.get 3 1 rfl))) ?_
        refine ra_q 5 72 (v := .int .i64 second.Phase) rfl rfl rfl (by kernel_rfl) (by kernel_rfl) (by kernel_rfl) (ST.sel hS27 [0, 1, 3, 4, 5] rfl rfl) (fun w' hw' => (Y_load1 (B := some ⟨b1, 0, none⟩) (i := 1) (cs := [.int .i64 second.Qubits, .int .i64 second.Phase, .slice B2 second.Terms.length c2, .slice B3 second.Out.Rows.length c3]) (v := .int .i64 second.Phase) k_sc_3 rfl rfl (ST.cf hw' (i := 1) rfl) rfl)) ?_
        refine ra_q 6 73 (v := .int .i64 (IntKind.i64.wrap (first.Phase + second.Phase))) rfl rfl rfl (by kernel_rfl) (by kernel_rfl) (by kernel_rfl) (ST.sel hS27 [0, 1, 3, 4, 5] rfl rfl) (fun w' hw' => (Y_add (k := .i64) (a := first.Phase) (b := second.Phase) rfl rfl rfl)) ?_
        refine ra_q 7 74 (v := .int .i64 (Int.tmod (IntKind.i64.wrap (first.Phase + second.Phase)) 8)) rfl rfl rfl (by kernel_rfl) (by kernel_rfl) (by kernel_rfl) (ST.sel hS27 [0, 1, 3, 4, 5] rfl rfl) (fun w' hw' => (Y_rem (k := .i64) (a := (IntKind.i64.wrap (first.Phase + second.Phase))) (b := 8) rfl rfl rfl (by decide))) ?_
        refine ra_q 8 75 (v := .agg (sums1.flatMap encI).toArray) rfl rfl rfl (by kernel_rfl) (by kernel_rfl) (by kernel_rfl) (ST.sel hS27 [0, 1, 3, 4, 5] rfl rfl) (fun w' hw' => (Y_loadA (B := some ⟨b3, 0, none⟩) (i := 0) (cs := (sums1.flatMap encI)) (vs := (sums1.flatMap encI)) k_ag_102 k_sz_102_32 rfl (hf1.get 6 3 rfl) (ST.cf hw' (i := 2) rfl) (fm_lenn2 encI_len hl2 rfl) (fm_whole encI_len hl2 rfl))) ?_
        refine ra_q 10 77 (v := .agg #[.slice B6 r_5.Rows.length c6]) rfl rfl rfl (by kernel_rfl) (by kernel_rfl) (by kernel_rfl) (ST.sel hS27 [0, 1, 3, 4, 5] rfl rfl) (fun w' hw' => (Y_loadA (B := some ⟨b6, 0, none⟩) (i := 0) (cs := [.slice B6 r_5.Rows.length c6]) (vs := [.slice B6 r_5.Rows.length c6]) k_ag_50 k_sz_50_1 rfl rfl (ST.cf hw' (i := 4) rfl) rfl rfl)) ?_
        refine ra_all (rs := [9]) (by kernel_rfl) rfl ?_
        refine ra_c 76 (i := 9) rfl rfl rfl (Yc_func (g := 75) (vs := [.agg (sums1.flatMap encI).toArray]) k_call_75 rfl (mc rfl mn) (c_impl_coefficients_terms sums1 _ hl2 (hS27.inn0 [] rfl) hc6)) ?_ ?_
        · rintro _ w_18 ⟨B7, c7, rfl, hd5⟩
          have hS28 := hS27.out0 hd5
          have hS28 : ST w0 [] _ [⟨some ⟨b, 0, none⟩, 52, [.int .i64 first.Qubits, .int .i64 first.Phase, .slice B first.Terms.length c, .slice B1 first.Out.Rows.length c1], 4⟩, ⟨some ⟨b1, 0, none⟩, 52, [.int .i64 second.Qubits, .int .i64 second.Phase, .slice B2 second.Terms.length c2, .slice B3 second.Out.Rows.length c3], 4⟩, ⟨some ⟨b2, 0, none⟩, 52, [.int .i64 0, .int .i64 0, .slice none 0 0, .slice none 0 0], 4⟩, ⟨some ⟨b3, 0, none⟩, 102, (sums1.flatMap encI), 32⟩, ⟨B6, 3, (r_5.Rows.flatMap encI), c6 * 1⟩, ⟨some ⟨b6, 0, none⟩, 50, [.slice B6 r_5.Rows.length c6], 1⟩, ⟨B7, 104, (r_7.flatMap enc_Term), c7 * 2⟩] [⟨B, (first.Terms.flatMap enc_Term)⟩, ⟨B1, (first.Out.Rows.flatMap encI)⟩, ⟨B2, (second.Terms.flatMap enc_Term)⟩, ⟨B3, (second.Out.Rows.flatMap encI)⟩] := hS28
          refine ⟨(ST.sel hS28 [0, 1, 3, 4, 5] rfl rfl), ?_⟩
          refine ra_q 11 78 (v := .agg #[.int .i64 first.Qubits, .int .i64 (Int.tmod (IntKind.i64.wrap (first.Phase + second.Phase)) 8), .slice B7 r_7.length c7, .slice B6 r_5.Rows.length c6]) rfl rfl rfl (by kernel_rfl) (by kernel_rfl) (by kernel_rfl) (ST.sel hS28 [0, 1, 3, 4, 5] rfl rfl) (fun w' hw' => (Y_buildS (zs := [.int .i64 0, .int .i64 0, .slice none 0 0, .slice none 0 0]) (vs := [(0, .int .i64 first.Qubits), (1, .int .i64 (Int.tmod (IntKind.i64.wrap (first.Phase + second.Phase)) 8)), (2, .slice B7 r_7.length c7), (3, .agg #[.slice B6 r_5.Rows.length c6])]) (cs := [.int .i64 first.Qubits, .int .i64 (Int.tmod (IntKind.i64.wrap (first.Phase + second.Phase)) 8), .slice B7 r_7.length c7, .slice B6 r_5.Rows.length c6]) k_pl_52 k_zero_52 rfl (mpc rfl (mpc rfl (mpc rfl (mpc rfl mpn)))) rfl)) ?_
          refine ra_all (rs := [12]) (by kernel_rfl) rfl ?_
          refine ra_s0 (i := 12) rfl rfl rfl (Ys_store (i := 2) (s := 4) (B := some ⟨b2, 0, none⟩) (T' := 52) (v := .agg #[.int .i64 first.Qubits, .int .i64 (Int.tmod (IntKind.i64.wrap (first.Phase + second.Phase)) 8), .slice B7 r_7.length c7, .slice B6 r_5.Rows.length c6]) (vs := [.int .i64 first.Qubits, .int .i64 (Int.tmod (IntKind.i64.wrap (first.Phase + second.Phase)) 8), .slice B7 r_7.length c7, .slice B6 r_5.Rows.length c6]) (k := 0) (cs' := [.int .i64 first.Qubits, .int .i64 (Int.tmod (IntKind.i64.wrap (first.Phase + second.Phase)) 8), .slice B7 r_7.length c7, .slice B6 r_5.Rows.length c6]) hS28 k_sz_52_4 rfl (hf1.get 4 2 rfl) rfl rfl rfl rfl rfl (Nat.le_of_ble_eq_true rfl) rfl rfl) ?_ ?_
          · rintro _ w_19 ⟨rfl, hS29⟩
            have hS29 : ST w0 [] _ [⟨some ⟨b, 0, none⟩, 52, [.int .i64 first.Qubits, .int .i64 first.Phase, .slice B first.Terms.length c, .slice B1 first.Out.Rows.length c1], 4⟩, ⟨some ⟨b1, 0, none⟩, 52, [.int .i64 second.Qubits, .int .i64 second.Phase, .slice B2 second.Terms.length c2, .slice B3 second.Out.Rows.length c3], 4⟩, ⟨some ⟨b2, 0, none⟩, 52, [.int .i64 first.Qubits, .int .i64 (Int.tmod (IntKind.i64.wrap (first.Phase + second.Phase)) 8), .slice B7 r_7.length c7, .slice B6 r_5.Rows.length c6], 4⟩, ⟨some ⟨b3, 0, none⟩, 102, (sums1.flatMap encI), 32⟩, ⟨B6, 3, (r_5.Rows.flatMap encI), c6 * 1⟩, ⟨some ⟨b6, 0, none⟩, 50, [.slice B6 r_5.Rows.length c6], 1⟩, ⟨B7, 104, (r_7.flatMap enc_Term), c7 * 2⟩] [⟨B, (first.Terms.flatMap enc_Term)⟩, ⟨B1, (first.Out.Rows.flatMap encI)⟩, ⟨B2, (second.Terms.flatMap enc_Term)⟩, ⟨B3, (second.Out.Rows.flatMap encI)⟩] := hS29
            refine ⟨(ST.sel hS29 [0, 1, 3, 4, 5] rfl rfl), ?_⟩
            refine ra_q 13 5 (v := .bool true) rfl rfl rfl (by kernel_rfl) (by kernel_rfl) (by kernel_rfl) (ST.sel hS29 [0, 1, 3, 4, 5] rfl rfl) (fun w' hw' => (Y_assign (v := .bool true) rfl rfl)) ?_
            refine ra_done (by kernel_rfl) ?_
            refine cw_ret ?_
            obtain ⟨rfl, rfl⟩ := pr2 (some_inj hF4)
            exact ret2 Try.results24 (v1 := .agg #[.int .i64 first.Qubits, .int .i64 (Int.tmod (IntKind.i64.wrap (first.Phase + second.Phase)) 8), .slice B7 r_7.length c7, .slice B6 r_5.Rows.length c6]) (resAt_cellA (B := some ⟨b2, 0, none⟩) (i := 0) (cs := [.int .i64 first.Qubits, .int .i64 (Int.tmod (IntKind.i64.wrap (first.Phase + second.Phase)) 8), .slice B7 r_7.length c7, .slice B6 r_5.Rows.length c6]) (vs := [.int .i64 first.Qubits, .int .i64 (Int.tmod (IntKind.i64.wrap (first.Phase + second.Phase)) 8), .slice B7 r_7.length c7, .slice B6 r_5.Rows.length c6]) (hf1.get 4 2 rfl) k_ag_52 k_sz_52_4 (hS29.cf (i := 2) rfl) rfl rfl) (v2 := .bool true) (resAt_tmp rfl) ⟨B7, c7, B6, c6, rfl, (ST.subR (R' := []) (hS29.sel [6, 4] rfl rfl) (fun _ h => by cases h))⟩
          exact allR_nil
        exact allR_nil

theorem c_spec_l1In (n : Int) (lo : Int) (hi : Int)  (w0 : World)  (hS : ST w0 [] w0 [] []) {r_ : Bool} (hF : F_spec_l1In n lo hi = some r_) :
    CV Try.prog 96 #[.int .i64 n, .int .i64 lo, .int .i64 hi] w0 (fun v w' => v = .bool r_ ∧ ST w0 [] w' [] []) := by
  unfold F_spec_l1In at hF
  refine cv_of_cw 15 Try.func96 rfl Try.ntmps96 rfl ?_
  refine cw_seq ?_
  refine cw_region ?_
  refine sq 6 rfl rfl (Y_assign (v := .bool false) rfl rfl) ?_
  refine rw_nil ?_
  refine cw_seq ?_
  refine cw_region ?_
  refine sq 7 rfl rfl (Y_move (v := .int .i64 n) rfl rfl) ?_
  refine sq 8 rfl rfl (Y_move (v := .int .i64 lo) rfl rfl) ?_
  refine sq 9 rfl rfl (Y_ge (k := .i64) (a := n) (b := lo) rfl rfl rfl) ?_
  refine sq 10 rfl rfl (Y_move (v := .bool (decide (lo ≤ n))) rfl rfl) ?_
  refine sgq 11 (B := (decide (lo ≤ n))) (v := .int .i64 n) rfl rfl (wt_t (gd_of (t := 10) (by kernel_rfl) rfl)) (fun hg => (Y_move (v := .int .i64 n) rfl rfl)) ?_
  refine sgq 12 (B := (decide (lo ≤ n))) (v := .int .i64 hi) rfl rfl (wt_t (gd_of (t := 10) (by kernel_rfl) rfl)) (fun hg1 => (Y_move (v := .int .i64 hi) rfl rfl)) ?_
  refine sgq 13 (B := (decide (lo ≤ n))) (v := .bool (decide (n ≤ hi))) rfl rfl (wt_t (gd_of (t := 10) (by kernel_rfl) rfl)) (fun hg2 => (Y_le (k := .i64) (a := n) (b := hi) rfl (gv_of (B := (decide (lo ≤ n))) (v := .int .i64 n) hg2) (gv_of (B := (decide (lo ≤ n))) (v := .int .i64 hi) hg2))) ?_
  refine sq 14 rfl rfl (Y_and (b := (decide (lo ≤ n))) (z := (decide (n ≤ hi))) rfl rfl rfl rfl) ?_
  refine sq 6 rfl rfl (Y_assign (v := .bool ((decide (lo ≤ n)) && (decide (n ≤ hi)))) rfl rfl) ?_
  refine rw_nil ?_
  refine cw_ret ?_
  obtain rfl := some_inj hF
  exact ret1 Try.results96 (v1 := .bool ((decide (lo ≤ n)) && (decide (n ≤ hi)))) (resAt_tmp rfl) ⟨rfl, (ST.subR (R' := []) (hS.sel [] rfl rfl) (fun _ h => by cases h))⟩

theorem c_spec_l1All (l : List Int) (lo : Int) (hi : Int) (B : Option Addr) (c n : Nat) (w0 : World) (hn : l.length = n) (hS : ST w0 [] w0 [] [⟨B, (l.flatMap encI)⟩]) {r_ : Bool} (hF : F_spec_l1All l lo hi = some r_) :
    CV Try.prog 154 #[.slice B n c, .int .i64 lo, .int .i64 hi] w0 (fun v w' => v = .bool r_ ∧ ST w0 [] w' [] []) := by
  subst hn
  unfold F_spec_l1All at hF
  refine cv_of_cw 21 Try.func154 rfl Try.ntmps154 rfl ?_
  refine cw_seq ?_
  refine cw_region ?_
  refine sq 6 rfl rfl (Y_assign (v := .bool false) rfl rfl) ?_
  refine rw_nil ?_
  refine cw_seq ?_
  refine cw_seq ?_
  refine cw_region ?_
  refine sq 9 rfl rfl (Y_move (v := .slice B l.length c) rfl rfl) ?_
  refine sq 10 rfl rfl (Y_len (B := B) (m := l.length) (c := c) k_sl_48_3 rfl rfl) ?_
  refine sq 11 rfl rfl (Y_move (v := .int .i64 0) rfl rfl) ?_
  refine rw_nil ?_
  obtain ⟨hN, hF⟩ := chk_inv hF
  obtain ⟨z, hz, hF1⟩ := bind_inv hF
  refine cw_block ?_
  refine cw_loop (fun k f w => ∃ (i : Nat), FF f [(1, .int .i64 lo), (2, .int .i64 hi), (9, .slice B l.length c), (10, .int .i64 (l.length : Int)), (11, .int .i64 (i : Int))] ∧ ST w0 [] w [] [⟨B, (l.flatMap encI)⟩] ∧ i + k = l.length ∧ forX (F_spec_l1All_l1 l lo hi) k i () = some z) l.length ⟨0, (FF.cons rfl (FF.cons rfl (FF.cons rfl (FF.cons rfl (FF.cons rfl FF.nil))))), (hS.sel [] rfl rfl), Nat.zero_add _, hz⟩ ?_
  rintro k_ f w ⟨i, hf, hS1, hik, hL⟩
  refine cw_seq ?_
  refine cw_region ?_
  refine sq 12 rfl rfl (Y_lt (k := .i64) (a := (i : Int)) (b := (l.length : Int)) rfl (hf.get 11 4 rfl) (hf.get 10 3 rfl)) ?_
  refine rw_nil ?_
  refine cw_seq ?_
  refine cw_cond (b := (decide ((i : Int) < (l.length : Int)))) rfl (fun hlt => ?_) (fun hlt => ?_)
  · skip
    have hlt1 : i < l.length := by have h := of_decide_eq_true hlt; omega
    obtain ⟨k_1, rfl⟩ : ∃ k2, k_ = k2 + 1 := ⟨k_ - 1, by omega⟩
    obtain ⟨y, hb, hL1⟩ := forX_go hL
    unfold F_spec_l1All_l1 at hb
    refine cw_skip ?_
    refine cw_seq ?_
    refine cw_block ?_
    refine cw_seq ?_
    refine cw_region ?_
    obtain ⟨x, hx, hb⟩ := bind_inv hb
    refine sq 13 rfl rfl (Y_index (B := B) (m := l.length) (c := c) (k := .i64) (i := (i : Int)) k_sl_48_3 k_sz_3_1 rfl (hf.get 9 2 rfl) (hf.get 11 4 rfl) (gi_isSome encI_len rfl (hS1.rf (i := 0) rfl) hx) (getI_nn hx) (getI_ltI hx rfl)) ?_
    refine sq 14 rfl rfl (Y_load1 (B := B) (i := (i : Int).toNat * 1) (cs := (l.flatMap encI)) (v := .int .i64 x) k_sc_3 rfl rfl (hS1.rf (i := 0) rfl) (gi_at0 encI_len hx rfl)) ?_
    refine sq 8 rfl rfl (Y_assign (v := .int .i64 x) rfl rfl) ?_
    refine rw_nil ?_
    refine cw_seq ?_
    refine cw_region ?_
    refine sq 15 rfl rfl (Y_move (v := .int .i64 x) rfl rfl) ?_
    refine sq 16 rfl rfl (Y_move (v := .int .i64 lo) rfl (hf.get 1 0 rfl)) ?_
    refine sq 17 rfl rfl (Y_move (v := .int .i64 hi) rfl (hf.get 2 1 rfl)) ?_
    obtain ⟨r_1, hc, hb⟩ := bind_inv hb
    refine sc 18 rfl rfl (Yc_func (g := 96) (vs := [.int .i64 x, .int .i64 lo, .int .i64 hi]) k_call_96 rfl (mc rfl (mc rfl (mc rfl mn))) (c_spec_l1In x lo hi _  (hS1.inn0 [] rfl) hc)) ?_
    rintro _ w_ ⟨rfl, hd⟩
    have hS2 := hS1.out00 hd
    refine sq 19 rfl rfl (Y_not (p := r_1) rfl rfl) ?_
    refine rw_nil ?_
    refine cw_cond (b := (!r_1)) rfl (fun hb1 => ?_) (fun hb1 => ?_)
    · skip
      have hF2 := ct hb hb1
      refine cw_seq ?_
      refine cw_region ?_
      refine sq 6 rfl rfl (Y_assign (v := .bool false) rfl rfl) ?_
      refine rw_nil ?_
      refine cw_ret ?_
      obtain rfl := some_inj hF2
      obtain rfl := some_inj hL1
      obtain rfl := some_inj hF1
      exact ret1 Try.results154 (v1 := .bool false) (resAt_tmp rfl) ⟨rfl, (ST.subR (R' := []) (hS2.sel [] rfl rfl) (fun _ h => by cases h))⟩
    · skip
      have hF3 := cf' hb hb1
      refine cw_skip ?_
      refine cw_region ?_
      refine sq 20 rfl rfl (Y_add (k := .i64) (a := (i : Int)) (b := 1) rfl (hf.get 11 4 rfl) rfl) ?_
      refine sq 11 rfl rfl (Y_move (v := .int .i64 (IntKind.i64.wrap ((i : Int) + 1))) rfl rfl) ?_
      refine rw_nil ?_
      obtain rfl := some_inj hF3
      exact ⟨k_1, Nat.lt_succ_self _, i + 1, (FF.cons (hf.get 1 0 rfl) (FF.cons (hf.get 2 1 rfl) (FF.cons (hf.get 9 2 rfl) (FF.cons (hf.get 10 3 rfl) (FF.cons (congrArg (Value.int .i64) (wr_succ hlt1 hN)) FF.nil))))), (hS2.sel [] rfl rfl), (by omega), hL1⟩
  · skip
    obtain rfl : k_ = 0 := by have h := of_decide_eq_false hlt; omega
    refine cw_exit rfl ?_
    obtain rfl := some_inj hL
    refine cw_seq ?_
    refine cw_region ?_
    refine sq 6 rfl rfl (Y_assign (v := .bool true) rfl rfl) ?_
    refine rw_nil ?_
    refine cw_ret ?_
    obtain rfl := some_inj hF1
    exact ret1 Try.results154 (v1 := .bool true) (resAt_tmp rfl) ⟨rfl, (ST.subR (R' := []) (hS1.sel [] rfl rfl) (fun _ h => by cases h))⟩

theorem c_spec_l12Rank (rows : List Int) (B : Option Addr) (c n : Nat) (w0 : World) (hn : rows.length = n) (hS : ST w0 [] w0 [] [⟨B, (rows.flatMap encI)⟩]) {r_ : Int} (hF : F_spec_l12Rank rows = some r_) :
    CV Try.prog 155 #[.slice B n c] w0 (fun v w' => v = .int .i64 r_ ∧ ST w0 [] w' [] []) := by
  subst hn
  unfold F_spec_l12Rank at hF
  refine cv_of_cw 80 Try.func155 rfl Try.ntmps155 rfl ?_
  refine cw_seq ?_
  refine cw_region ?_
  refine sq 2 rfl rfl (Y_assign (v := .int .i64 0) rfl rfl) ?_
  refine rw_nil ?_
  refine cw_seq ?_
  refine cw_region ?_
  refine sq 10 rfl rfl (Y_move (v := .slice B rows.length c) rfl rfl) ?_
  obtain ⟨r_1, hc, hF⟩ := bind_inv hF
  refine sc 11 rfl rfl (Yc_func (g := 165) (vs := [.slice B rows.length c]) k_call_165 rfl (mc rfl mn) (c_spec_l1Own rows B c rows.length _ rfl (hS.inn0 [(true, 0)] rfl) hc)) ?_
  rintro _ w_ ⟨B1, c1, rfl, hd⟩
  have hS1 := hS.out0 hd
  refine sq 3 rfl rfl (Y_assign (v := .slice B1 r_1.length c1) rfl rfl) ?_
  refine rw_nil ?_
  refine cw_seq ?_
  refine cw_region ?_
  refine sq 4 rfl rfl (Y_assign (v := .int .i64 0) rfl rfl) ?_
  refine rw_nil ?_
  refine cw_seq ?_
  refine cw_seq ?_
  refine cw_region ?_
  refine sq 5 rfl rfl (Y_assign (v := .int .i64 0) rfl rfl) ?_
  refine rw_nil ?_
  obtain ⟨z, hz, hF1⟩ := bind_inv hF
  refine cw_block ?_
  refine cw_loop (fun k f w => ∃ (bit : Nat) (l : List Int) (rank : Int), FF f [(3, .slice B1 r_1.length c1), (4, .int .i64 rank), (5, .int .i64 (bit : Int))] ∧ l.length = r_1.length ∧ ST w0 [] w [⟨B1, 3, (l.flatMap encI), c1 * 1⟩] [⟨B, (rows.flatMap encI)⟩] ∧ bit + k = 10 ∧ forN (F_spec_l12Rank_l1 r_1) k bit (l, rank) = some z) 10 ⟨0, r_1, 0, (FF.cons rfl (FF.cons rfl (FF.cons rfl FF.nil))), rfl, (hS1.sel [0] rfl rfl), Nat.zero_add _, hz⟩ ?_
  rintro k_ f w ⟨bit, l, rank, hf, hl, hS2, hik, hL⟩
  refine cw_seq ?_
  refine cw_seq ?_
  refine cw_region ?_
  refine sq 12 rfl rfl (Y_move (v := .int .i64 (bit : Int)) rfl (hf.get 5 2 rfl)) ?_
  refine sq 13 rfl rfl (Y_lt (k := .i64) (a := (bit : Int)) (b := 10) rfl rfl rfl) ?_
  refine rw_nil ?_
  refine cw_cond (b := (decide ((bit : Int) < 10))) rfl (fun hlt => ?_) (fun hlt => ?_)
  · skip
    have hlt1 : bit < 10 := by have h := of_decide_eq_true hlt; omega
    obtain ⟨k_1, rfl⟩ : ∃ k2, k_ = k2 + 1 := ⟨k_ - 1, by omega⟩
    obtain ⟨y, hb, hL1⟩ := forN_go hL
    unfold F_spec_l12Rank_l1 at hb
    refine cw_skip ?_
    refine cw_seq ?_
    obtain ⟨z1, hz1, hF2⟩ := bind_inv hb
    refine cw_mid (fun f w => ∃ (l1 : List Int) (rank1 : Int), (l1, rank1) = z1 ∧ FF f [(3, .slice B1 r_1.length c1), (4, .int .i64 rank1), (5, .int .i64 (bit : Int))] ∧ l1.length = r_1.length ∧ ST w0 [] w [⟨B1, 3, (l1.flatMap encI), c1 * 1⟩] [⟨B, (rows.flatMap encI)⟩]) ?_ ?_
    · skip
      refine cw_block ?_
      refine cw_seq ?_
      refine cw_region ?_
      refine sq 6 rfl rfl (Y_assign (v := .int .i64 (-1)) rfl rfl) ?_
      refine rw_nil ?_
      refine cw_seq ?_
      refine cw_seq ?_
      refine cw_region ?_
      refine sq 16 rfl rfl (Y_move (v := .int .i64 rank) rfl (hf.get 4 1 rfl)) ?_
      refine sq 7 rfl rfl (Y_assign (v := .int .i64 rank) rfl rfl) ?_
      refine rw_nil ?_
      obtain ⟨z2, hz2, hF3⟩ := bind_inv hz1
      refine cw_mid (fun f w => ∃ (at_ : Int) (i1 : Int), .inl (at_, i1) = z2 ∧ FF f [(3, .slice B1 r_1.length c1), (4, .int .i64 rank), (5, .int .i64 (bit : Int)), (6, .int .i64 at_)] ∧ ST w0 [] w [⟨B1, 3, (l.flatMap encI), c1 * 1⟩] [⟨B, (rows.flatMap encI)⟩]) ?_ ?_
      · skip
        refine cw_block ?_
        refine cw_loop (fun k f w => ∃ (at_1 : Int) (i2 : Int), FF f [(3, .slice B1 r_1.length c1), (4, .int .i64 rank), (5, .int .i64 (bit : Int)), (6, .int .i64 at_1), (7, .int .i64 i2)] ∧ ST w0 [] w [⟨B1, 3, (l.flatMap encI), c1 * 1⟩] [⟨B, (rows.flatMap encI)⟩] ∧ whX (F_spec_l12Rank_l2 r_1 l bit) k (at_1, i2) = some z2) fuel ⟨(-1), rank, (FF.cons (hf.get 3 0 rfl) (FF.cons (hf.get 4 1 rfl) (FF.cons (hf.get 5 2 rfl) (FF.cons rfl (FF.cons rfl FF.nil))))), (hS2.sel [0] rfl rfl), hz2⟩ ?_
        rintro k_2 f w ⟨at_1, i2, hf3, hS5, hL2⟩
        obtain ⟨k_3, y1, rfl, hb1, hL3⟩ := whX_go hL2
        unfold F_spec_l12Rank_l2 at hb1
        refine cw_seq ?_
        refine cw_seq ?_
        refine cw_region ?_
        refine sq 17 rfl rfl (Y_move (v := .int .i64 i2) rfl (hf3.get 7 4 rfl)) ?_
        refine sq 18 rfl rfl (Y_move (v := .slice B1 r_1.length c1) rfl (hf3.get 3 0 rfl)) ?_
        refine sq 19 rfl rfl (Y_len (B := B1) (m := r_1.length) (c := c1) k_sl_48_3 rfl rfl) ?_
        refine sq 20 rfl rfl (Y_lt (k := .i64) (a := i2) (b := (r_1.length : Int)) rfl rfl rfl) ?_
        refine rw_nil ?_
        refine cw_cond (b := (decide (i2 < (r_1.length : Int)))) rfl (fun hb2 => ?_) (fun hb2 => ?_)
        · skip
          have hF4 := ct hb1 hb2
          refine cw_skip ?_
          refine cw_seq ?_
          refine cw_block ?_
          refine cw_seq ?_
          refine cw_region ?_
          refine sq 23 rfl rfl (Y_move (v := .slice B1 r_1.length c1) rfl (hf3.get 3 0 rfl)) ?_
          refine sq 24 rfl rfl (Y_move (v := .int .i64 i2) rfl (hf3.get 7 4 rfl)) ?_
          obtain ⟨x, hx, hF4⟩ := bind_inv hF4
          refine sq 25 rfl rfl (Y_index (B := B1) (m := r_1.length) (c := c1) (k := .i64) (i := i2) k_sl_48_3 k_sz_3_1 rfl rfl rfl (gi_isSome encI_len rfl (hS5.cf (i := 0) rfl) hx) (getI_nn hx) (getI_ltI hx hl)) ?_
          refine sq 26 rfl rfl (Y_load1 (B := B1) (i := i2.toNat * 1) (cs := (l.flatMap encI)) (v := .int .i64 x) k_sc_3 rfl rfl (hS5.cf (i := 0) rfl) (gi_at0 encI_len hx rfl)) ?_
          refine sq 27 rfl rfl (Y_move (v := .int .i64 (bit : Int)) rfl (hf3.get 5 2 rfl)) ?_
          refine sq 28 rfl rfl (Y_conv (k := .i64) (a := (bit : Int)) (T := 3) (T' := 63) k_us_3 k_int_63_u64 rfl rfl) ?_
          obtain ⟨hsh, hF4⟩ := chk_inv hF4
          refine sq 29 rfl rfl (Y_shr (k := .i64) (a := x) (k' := .u64) (b := (IntKind.u64.wrap (bit : Int))) rfl rfl rfl hsh) ?_
          refine sq 30 rfl rfl (Y_band (k := .i64) (a := (shrK .i64 x (IntKind.u64.wrap (bit : Int)))) (b := 1) rfl rfl rfl) ?_
          refine sq 31 rfl rfl (Y_eq (k := .i64) (a := (bits .and .i64 (shrK .i64 x (IntKind.u64.wrap (bit : Int))) 1)) (b := 1) rfl rfl rfl) ?_
          refine rw_nil ?_
          refine cw_cond (b := ((bits .and .i64 (shrK .i64 x (IntKind.u64.wrap (bit : Int))) 1) == 1)) rfl (fun hb3 => ?_) (fun hb3 => ?_)
          · skip
            have hF5 := ct hF4 hb3
            refine cw_seq ?_
            refine cw_region ?_
            refine sq 32 rfl rfl (Y_move (v := .int .i64 i2) rfl (hf3.get 7 4 rfl)) ?_
            refine sq 6 rfl rfl (Y_assign (v := .int .i64 i2) rfl rfl) ?_
            refine rw_nil ?_
            refine cw_exit rfl ?_
            obtain rfl := some_inj hF5
            exact ⟨i2, i2, (some_inj hL3), (FF.cons (hf3.get 3 0 rfl) (FF.cons (hf3.get 4 1 rfl) (FF.cons (hf3.get 5 2 rfl) (FF.cons rfl FF.nil)))), (hS5.sel [0] rfl rfl)⟩
          · skip
            have hF6 := cf' hF4 hb3
            refine cw_skip ?_
            refine cw_region ?_
            refine sq 21 rfl rfl (Y_move (v := .int .i64 i2) rfl (hf3.get 7 4 rfl)) ?_
            refine sq 22 rfl rfl (Y_add (k := .i64) (a := i2) (b := 1) rfl rfl rfl) ?_
            refine sq 7 rfl rfl (Y_assign (v := .int .i64 (IntKind.i64.wrap (i2 + 1))) rfl rfl) ?_
            refine rw_nil ?_
            obtain rfl := some_inj hF6
            exact ⟨k_3, Nat.lt_succ_self _, at_1, (IntKind.i64.wrap (i2 + 1)), (FF.cons (hf3.get 3 0 rfl) (FF.cons (hf3.get 4 1 rfl) (FF.cons (hf3.get 5 2 rfl) (FF.cons (hf3.get 6 3 rfl) (FF.cons rfl FF.nil))))), (hS5.sel [0] rfl rfl), hL3⟩
        · skip
          have hF7 := cf' hb1 hb2
          refine cw_exit rfl ?_
          obtain rfl := some_inj hF7
          exact ⟨at_1, i2, (some_inj hL3), (FF.cons (hf3.get 3 0 rfl) (FF.cons (hf3.get 4 1 rfl) (FF.cons (hf3.get 5 2 rfl) (FF.cons (hf3.get 6 3 rfl) FF.nil)))), (hS5.sel [0] rfl rfl)⟩
      rintro f w ⟨at_, i1, rfl, hf2, hS4⟩
      refine cw_seq ?_
      refine cw_seq ?_
      refine cw_region ?_
      refine sq 33 rfl rfl (Y_move (v := .int .i64 at_) rfl (hf2.get 6 3 rfl)) ?_
      refine sq 34 rfl rfl (Y_lt (k := .i64) (a := at_) (b := 0) rfl rfl rfl) ?_
      refine rw_nil ?_
      refine cw_cond (b := (decide (at_ < 0))) rfl (fun hb4 => ?_) (fun hb4 => ?_)
      · skip
        have hF8 := ct hF3 hb4
        refine cw_exit rfl ?_
        exact ⟨l, rank, (some_inj hF8), (FF.cons (hf2.get 3 0 rfl) (FF.cons (hf2.get 4 1 rfl) (FF.cons (hf2.get 5 2 rfl) FF.nil))), hl, (hS4.sel [0] rfl rfl)⟩
      · skip
        have hF9 := cf' hF3 hb4
        refine cw_skip ?_
        refine cw_seq ?_
        refine cw_region ?_
        refine sq 35 rfl rfl (Y_move (v := .slice B1 r_1.length c1) rfl (hf2.get 3 0 rfl)) ?_
        refine sq 36 rfl rfl (Y_move (v := .int .i64 at_) rfl (hf2.get 6 3 rfl)) ?_
        obtain ⟨x1, hx1, hF9⟩ := bind_inv hF9
        refine sq 37 rfl rfl (Y_index (B := B1) (m := r_1.length) (c := c1) (k := .i64) (i := at_) k_sl_48_3 k_sz_3_1 rfl rfl rfl (gi_isSome encI_len rfl (hS4.cf (i := 0) rfl) hx1) (getI_nn hx1) (getI_ltI hx1 hl)) ?_
        refine sq 38 rfl rfl (Y_load1 (B := B1) (i := at_.toNat * 1) (cs := (l.flatMap encI)) (v := .int .i64 x1) k_sc_3 rfl rfl (hS4.cf (i := 0) rfl) (gi_at0 encI_len hx1 rfl)) ?_
        refine sq 8 rfl rfl (Y_assign (v := .int .i64 x1) rfl rfl) ?_
        refine rw_nil ?_
        refine cw_seq ?_
        refine cw_region ?_
        refine sq 39 rfl rfl (Y_move (v := .slice B1 r_1.length c1) rfl (hf2.get 3 0 rfl)) ?_
        refine sq 40 rfl rfl (Y_move (v := .int .i64 at_) rfl (hf2.get 6 3 rfl)) ?_
        refine sq 41 rfl rfl (Y_move (v := .slice B1 r_1.length c1) rfl (hf2.get 3 0 rfl)) ?_
        refine sq 42 rfl rfl (Y_move (v := .int .i64 rank) rfl (hf2.get 4 1 rfl)) ?_
        obtain ⟨x2, hx2, hF9⟩ := bind_inv hF9
        refine sq 43 rfl rfl (Y_index (B := B1) (m := r_1.length) (c := c1) (k := .i64) (i := rank) k_sl_48_3 k_sz_3_1 rfl rfl rfl (gi_isSome encI_len rfl (hS4.cf (i := 0) rfl) hx2) (getI_nn hx2) (getI_ltI hx2 hl)) ?_
        refine sq 44 rfl rfl (Y_load1 (B := B1) (i := rank.toNat * 1) (cs := (l.flatMap encI)) (v := .int .i64 x2) k_sc_3 rfl rfl (hS4.cf (i := 0) rfl) (gi_at0 encI_len hx2 rfl)) ?_
        refine sq 45 rfl rfl (Y_index (B := B1) (m := r_1.length) (c := c1) (k := .i64) (i := at_) k_sl_48_3 k_sz_3_1 rfl rfl rfl (gi_isSome encI_len rfl (hS4.cf (i := 0) rfl) hx1) (getI_nn hx1) (getI_ltI hx1 hl)) ?_
        refine ss0 rfl rfl (Ys_store (i := 0) (s := 1) (B := B1) (T' := 3) (v := .int .i64 x2) (vs := [.int .i64 x2]) (k := at_.toNat * 1) (cs' := ((l.set at_.toNat x2).flatMap encI)) hS4 k_sz_3_1 rfl rfl rfl rfl rfl rfl rfl (gi_fit0 encI_len hx1) (gi_set encI_len hx1 x2 rfl) rfl) ?_
        rintro _ w_1 ⟨rfl, hS6⟩
        refine rw_nil ?_
        refine cw_seq ?_
        refine cw_region ?_
        refine sq 46 rfl rfl (Y_move (v := .slice B1 r_1.length c1) rfl (hf2.get 3 0 rfl)) ?_
        refine sq 47 rfl rfl (Y_move (v := .int .i64 rank) rfl (hf2.get 4 1 rfl)) ?_
        refine sq 48 rfl rfl (Y_move (v := .int .i64 x1) rfl rfl) ?_
        obtain ⟨x3, hx3, hF9⟩ := bind_inv hF9
        refine sq 49 rfl rfl (Y_index (B := B1) (m := r_1.length) (c := c1) (k := .i64) (i := rank) k_sl_48_3 k_sz_3_1 rfl rfl rfl (gi_isSome encI_len rfl (hS6.cf (i := 0) rfl) hx3) (getI_nn hx3) (getI_ltI hx3 (set_len _ _ _ hl))) ?_
        refine ss0 rfl rfl (Ys_store (i := 0) (s := 1) (B := B1) (T' := 3) (v := .int .i64 x1) (vs := [.int .i64 x1]) (k := rank.toNat * 1) (cs' := (((l.set at_.toNat x2).set rank.toNat x1).flatMap encI)) hS6 k_sz_3_1 rfl rfl rfl rfl rfl rfl rfl (gi_fit0 encI_len hx3) (gi_set encI_len hx3 x1 rfl) rfl) ?_
        rintro _ w_2 ⟨rfl, hS7⟩
        refine rw_nil ?_
        refine cw_seq ?_
        refine cw_seq ?_
        refine cw_region ?_
        refine sq 50 rfl rfl (Y_move (v := .slice B1 r_1.length c1) rfl (hf2.get 3 0 rfl)) ?_
        refine sq 51 rfl rfl (Y_len (B := B1) (m := r_1.length) (c := c1) k_sl_48_3 rfl rfl) ?_
        refine sq 52 rfl rfl (Y_move (v := .int .i64 0) rfl rfl) ?_
        refine rw_nil ?_
        obtain ⟨hN, hF9⟩ := chk_inv hF9
        obtain ⟨z3, hz3, hF10⟩ := bind_inv hF9
        refine cw_block ?_
        refine cw_loop (fun k f w => ∃ (i3 : Nat) (l2 : List Int), FF f [(3, .slice B1 r_1.length c1), (4, .int .i64 rank), (5, .int .i64 (bit : Int)), (8, .int .i64 x1), (51, .int .i64 (r_1.length : Int)), (52, .int .i64 (i3 : Int))] ∧ l2.length = r_1.length ∧ ST w0 [] w [⟨B1, 3, (l2.flatMap encI), c1 * 1⟩] [⟨B, (rows.flatMap encI)⟩] ∧ i3 + k = r_1.length ∧ forN (F_spec_l12Rank_l3 rank bit x1) k i3 l2 = some z3) r_1.length ⟨0, ((l.set at_.toNat x2).set rank.toNat x1), (FF.cons (hf2.get 3 0 rfl) (FF.cons (hf2.get 4 1 rfl) (FF.cons (hf2.get 5 2 rfl) (FF.cons rfl (FF.cons rfl (FF.cons rfl FF.nil)))))), (set_len _ _ _ (set_len _ _ _ hl)), (hS7.sel [0] rfl rfl), Nat.zero_add _, hz3⟩ ?_
        rintro k_4 f w ⟨i3, l2, hf4, hl2, hS8, hik2, hL4⟩
        refine cw_seq ?_
        refine cw_region ?_
        refine sq 53 rfl rfl (Y_lt (k := .i64) (a := (i3 : Int)) (b := (r_1.length : Int)) rfl (hf4.get 52 5 rfl) (hf4.get 51 4 rfl)) ?_
        refine rw_nil ?_
        refine cw_seq ?_
        refine cw_cond (b := (decide ((i3 : Int) < (r_1.length : Int)))) rfl (fun hlt2 => ?_) (fun hlt2 => ?_)
        · skip
          have hlt3 : i3 < r_1.length := by have h := of_decide_eq_true hlt2; omega
          obtain ⟨k_5, rfl⟩ : ∃ k2, k_4 = k2 + 1 := ⟨k_4 - 1, by omega⟩
          obtain ⟨y2, hb5, hL5⟩ := forN_go hL4
          unfold F_spec_l12Rank_l3 at hb5
          refine cw_skip ?_
          refine cw_seq ?_
          obtain ⟨z4, hz4, hF11⟩ := bind_inv hb5
          refine cw_mid (fun f w => ∃ (l3 : List Int), l3 = z4 ∧ FF f [(3, .slice B1 r_1.length c1), (4, .int .i64 rank), (5, .int .i64 (bit : Int)), (8, .int .i64 x1), (51, .int .i64 (r_1.length : Int)), (52, .int .i64 (i3 : Int))] ∧ l3.length = r_1.length ∧ ST w0 [] w [⟨B1, 3, (l3.flatMap encI), c1 * 1⟩] [⟨B, (rows.flatMap encI)⟩]) ?_ ?_
          · skip
            refine cw_block ?_
            refine cw_seq ?_
            refine cw_region ?_
            refine sq 54 rfl rfl (Y_move (v := .int .i64 (i3 : Int)) rfl (hf4.get 52 5 rfl)) ?_
            refine sq 9 rfl rfl (Y_assign (v := .int .i64 (i3 : Int)) rfl rfl) ?_
            refine rw_nil ?_
            refine cw_seq ?_
            refine cw_region ?_
            refine sq 55 rfl rfl (Y_move (v := .int .i64 (i3 : Int)) rfl rfl) ?_
            refine sq 56 rfl rfl (Y_move (v := .int .i64 rank) rfl (hf4.get 4 1 rfl)) ?_
            refine sq 57 rfl rfl (Y_ne (k := .i64) (a := (i3 : Int)) (b := rank) rfl rfl rfl) ?_
            refine sq 58 rfl rfl (Y_move (v := .bool ((i3 : Int) != rank)) rfl rfl) ?_
            refine sgq 59 (B := ((i3 : Int) != rank)) (v := .slice B1 r_1.length c1) rfl rfl (wt_t (gd_of (t := 58) (by kernel_rfl) rfl)) (fun hg => (Y_move (v := .slice B1 r_1.length c1) rfl (hf4.get 3 0 rfl))) ?_
            refine sgq 60 (B := ((i3 : Int) != rank)) (v := .int .i64 (i3 : Int)) rfl rfl (wt_t (gd_of (t := 58) (by kernel_rfl) rfl)) (fun hg1 => (Y_move (v := .int .i64 (i3 : Int)) rfl rfl)) ?_
            obtain ⟨x4, hx4, hz4⟩ := bind_inv hz4
            refine sgq 61 (B := ((i3 : Int) != rank)) (v := pt B1 ((i3 : Int).toNat * 1)) rfl rfl (wt_t (gd_of (t := 58) (by kernel_rfl) rfl)) (fun hg2 => (Y_index (B := B1) (m := r_1.length) (c := c1) (k := .i64) (i := (i3 : Int)) k_sl_48_3 k_sz_3_1 rfl (gv_of (B := ((i3 : Int) != rank)) (v := .slice B1 r_1.length c1) hg2) (gv_of (B := ((i3 : Int) != rank)) (v := .int .i64 (i3 : Int)) hg2) (gi_isSome encI_len rfl (hS8.cf (i := 0) rfl) (gb_inv hx4 hg2)) (getI_nn (gb_inv hx4 hg2)) (getI_ltI (gb_inv hx4 hg2) hl2))) ?_
            refine sgq 62 (B := ((i3 : Int) != rank)) (v := .int .i64 x4) rfl rfl (wt_t (gd_of (t := 58) (by kernel_rfl) rfl)) (fun hg3 => (Y_load1 (B := B1) (i := (i3 : Int).toNat * 1) (cs := (l2.flatMap encI)) (v := .int .i64 x4) k_sc_3 rfl (gv_of (B := ((i3 : Int) != rank)) (v := pt B1 ((i3 : Int).toNat * 1)) hg3) (hS8.cf (i := 0) rfl) (gi_at0 encI_len (gb_inv hx4 hg3) rfl))) ?_
            refine sgq 63 (B := ((i3 : Int) != rank)) (v := .int .i64 (bit : Int)) rfl rfl (wt_t (gd_of (t := 58) (by kernel_rfl) rfl)) (fun hg4 => (Y_move (v := .int .i64 (bit : Int)) rfl (hf4.get 5 2 rfl))) ?_
            refine sgq 64 (B := ((i3 : Int) != rank)) (v := .int .u64 (IntKind.u64.wrap (bit : Int))) rfl rfl (wt_t (gd_of (t := 58) (by kernel_rfl) rfl)) (fun hg5 => (Y_conv (k := .i64) (a := (bit : Int)) (T := 3) (T' := 63) k_us_3 k_int_63_u64 rfl (gv_of (B := ((i3 : Int) != rank)) (v := .int .i64 (bit : Int)) hg5))) ?_
            obtain ⟨hsh1, hz4⟩ := chk_inv hz4
            refine sgq 65 (B := ((i3 : Int) != rank)) (v := .int .i64 (shrK .i64 x4 (IntKind.u64.wrap (bit : Int)))) rfl rfl (wt_t (gd_of (t := 58) (by kernel_rfl) rfl)) (fun hg6 => (Y_shr (k := .i64) (a := x4) (k' := .u64) (b := (IntKind.u64.wrap (bit : Int))) rfl (gv_of (B := ((i3 : Int) != rank)) (v := .int .i64 x4) hg6) (gv_of (B := ((i3 : Int) != rank)) (v := .int .u64 (IntKind.u64.wrap (bit : Int))) hg6) (hsh1 hg6))) ?_
            refine sgq 66 (B := ((i3 : Int) != rank)) (v := .int .i64 (bits .and .i64 (shrK .i64 x4 (IntKind.u64.wrap (bit : Int))) 1)) rfl rfl (wt_t (gd_of (t := 58) (by kernel_rfl) rfl)) (fun hg7 => (Y_band (k := .i64) (a := (shrK .i64 x4 (IntKind.u64.wrap (bit : Int)))) (b := 1) rfl (gv_of (B := ((i3 : Int) != rank)) (v := .int .i64 (shrK .i64 x4 (IntKind.u64.wrap (bit : Int)))) hg7) rfl)) ?_
            refine sgq 67 (B := ((i3 : Int) != rank)) (v := .bool ((bits .and .i64 (shrK .i64 x4 (IntKind.u64.wrap (bit : Int))) 1) == 1)) rfl rfl (wt_t (gd_of (t := 58) (by kernel_rfl) rfl)) (fun hg8 => (Y_eq (k := .i64) (a := (bits .and .i64 (shrK .i64 x4 (IntKind.u64.wrap (bit : Int))) 1)) (b := 1) rfl (gv_of (B := ((i3 : Int) != rank)) (v := .int .i64 (bits .and .i64 (shrK .i64 x4 (IntKind.u64.wrap (bit : Int))) 1)) hg8) rfl)) ?_
            refine sq 68 rfl rfl (Y_and (b := ((i3 : Int) != rank)) (z := ((bits .and .i64 (shrK .i64 x4 (IntKind.u64.wrap (bit : Int))) 1) == 1)) rfl rfl rfl rfl) ?_
            refine rw_nil ?_
            refine cw_cond (b := (((i3 : Int) != rank) && ((bits .and .i64 (shrK .i64 x4 (IntKind.u64.wrap (bit : Int))) 1) == 1))) rfl (fun hb6 => ?_) (fun hb6 => ?_)
            · skip
              have hF12 := ct hz4 hb6
              refine cw_region ?_
              refine sq 69 rfl rfl (Y_move (v := .slice B1 r_1.length c1) rfl (hf4.get 3 0 rfl)) ?_
              refine sq 70 rfl rfl (Y_move (v := .int .i64 (i3 : Int)) rfl rfl) ?_
              obtain ⟨x5, hx5, hF12⟩ := bind_inv hF12
              refine sq 71 rfl rfl (Y_index (B := B1) (m := r_1.length) (c := c1) (k := .i64) (i := (i3 : Int)) k_sl_48_3 k_sz_3_1 rfl rfl rfl (gi_isSome encI_len rfl (hS8.cf (i := 0) rfl) hx5) (getI_nn hx5) (getI_ltI hx5 hl2)) ?_
              refine sq 72 rfl rfl (Y_load1 (B := B1) (i := (i3 : Int).toNat * 1) (cs := (l2.flatMap encI)) (v := .int .i64 x5) k_sc_3 rfl rfl (hS8.cf (i := 0) rfl) (gi_at0 encI_len hx5 rfl)) ?_
              refine sq 73 rfl rfl (Y_move (v := .int .i64 x1) rfl (hf4.get 8 3 rfl)) ?_
              refine sq 74 rfl rfl (Y_bxor (k := .i64) (a := x5) (b := x1) rfl rfl rfl) ?_
              refine sq 75 rfl rfl (Y_index (B := B1) (m := r_1.length) (c := c1) (k := .i64) (i := (i3 : Int)) k_sl_48_3 k_sz_3_1 rfl rfl rfl (gi_isSome encI_len rfl (hS8.cf (i := 0) rfl) hx5) (getI_nn hx5) (getI_ltI hx5 hl2)) ?_
              refine ss0 rfl rfl (Ys_store (i := 0) (s := 1) (B := B1) (T' := 3) (v := .int .i64 (bits .xor .i64 x5 x1)) (vs := [.int .i64 (bits .xor .i64 x5 x1)]) (k := (i3 : Int).toNat * 1) (cs' := ((l2.set (i3 : Int).toNat (bits .xor .i64 x5 x1)).flatMap encI)) hS8 k_sz_3_1 rfl rfl rfl rfl rfl rfl rfl (gi_fit0 encI_len hx5) (gi_set encI_len hx5 (bits .xor .i64 x5 x1) rfl) rfl) ?_
              rintro _ w_3 ⟨rfl, hS10⟩
              refine rw_nil ?_
              exact ⟨(l2.set (i3 : Int).toNat (bits .xor .i64 x5 x1)), (some_inj hF12), (FF.cons (hf4.get 3 0 rfl) (FF.cons (hf4.get 4 1 rfl) (FF.cons (hf4.get 5 2 rfl) (FF.cons (hf4.get 8 3 rfl) (FF.cons (hf4.get 51 4 rfl) (FF.cons (hf4.get 52 5 rfl) FF.nil)))))), (set_len _ _ _ hl2), (hS10.sel [0] rfl rfl)⟩
            · skip
              have hF13 := cf' hz4 hb6
              refine cw_skip ?_
              exact ⟨l2, (some_inj hF13), (FF.cons (hf4.get 3 0 rfl) (FF.cons (hf4.get 4 1 rfl) (FF.cons (hf4.get 5 2 rfl) (FF.cons (hf4.get 8 3 rfl) (FF.cons (hf4.get 51 4 rfl) (FF.cons (hf4.get 52 5 rfl) FF.nil)))))), hl2, (hS8.sel [0] rfl rfl)⟩
          rintro f w ⟨l3, rfl, hf5, hl3, hS9⟩
          refine cw_region ?_
          refine sq 76 rfl rfl (Y_add (k := .i64) (a := (i3 : Int)) (b := 1) rfl (hf5.get 52 5 rfl) rfl) ?_
          refine sq 52 rfl rfl (Y_move (v := .int .i64 (IntKind.i64.wrap ((i3 : Int) + 1))) rfl rfl) ?_
          refine rw_nil ?_
          obtain rfl := some_inj hF11
          exact ⟨k_5, Nat.lt_succ_self _, i3 + 1, l3, (FF.cons (hf5.get 3 0 rfl) (FF.cons (hf5.get 4 1 rfl) (FF.cons (hf5.get 5 2 rfl) (FF.cons (hf5.get 8 3 rfl) (FF.cons (hf5.get 51 4 rfl) (FF.cons (congrArg (Value.int .i64) (wr_succ hlt3 hN)) FF.nil)))))), hl3, (hS9.sel [0] rfl rfl), (by omega), hL5⟩
        · skip
          obtain rfl : k_4 = 0 := by have h := of_decide_eq_false hlt2; omega
          refine cw_exit rfl ?_
          obtain rfl := some_inj hL4
          refine cw_region ?_
          refine sq 77 rfl rfl (Y_move (v := .int .i64 rank) rfl (hf4.get 4 1 rfl)) ?_
          refine sq 78 rfl rfl (Y_add (k := .i64) (a := rank) (b := 1) rfl rfl rfl) ?_
          refine sq 4 rfl rfl (Y_assign (v := .int .i64 (IntKind.i64.wrap (rank + 1))) rfl rfl) ?_
          refine rw_nil ?_
          exact ⟨l2, (IntKind.i64.wrap (rank + 1)), (some_inj hF10), (FF.cons (hf4.get 3 0 rfl) (FF.cons rfl (FF.cons (hf4.get 5 2 rfl) FF.nil))), hl2, (hS8.sel [0] rfl rfl)⟩
    rintro f w ⟨l1, rank1, rfl, hf1, hl1, hS3⟩
    refine cw_region ?_
    refine sq 14 rfl rfl (Y_move (v := .int .i64 (bit : Int)) rfl (hf1.get 5 2 rfl)) ?_
    refine sq 15 rfl rfl (Y_add (k := .i64) (a := (bit : Int)) (b := 1) rfl rfl rfl) ?_
    refine sq 5 rfl rfl (Y_assign (v := .int .i64 (IntKind.i64.wrap ((bit : Int) + 1))) rfl rfl) ?_
    refine rw_nil ?_
    obtain rfl := some_inj hF2
    exact ⟨k_1, Nat.lt_succ_self _, bit + 1, l1, rank1, (FF.cons (hf1.get 3 0 rfl) (FF.cons (hf1.get 4 1 rfl) (FF.cons (congrArg (Value.int .i64) (wr_succ hlt1 (show 10 ≤ 9223372036854775807 by decide))) FF.nil))), hl1, (hS3.sel [0] rfl rfl), (by omega), hL1⟩
  · skip
    obtain rfl : k_ = 0 := by have h := of_decide_eq_false hlt; omega
    refine cw_exit rfl ?_
    obtain rfl := some_inj hL
    refine cw_seq ?_
    refine cw_region ?_
    refine sq 79 rfl rfl (Y_move (v := .int .i64 rank) rfl (hf.get 4 1 rfl)) ?_
    refine sq 2 rfl rfl (Y_assign (v := .int .i64 rank) rfl rfl) ?_
    refine rw_nil ?_
    refine cw_ret ?_
    obtain rfl := some_inj hF1
    exact ret1 Try.results155 (v1 := .int .i64 rank) (resAt_tmp rfl) ⟨rfl, (ST.subR (R' := []) (hS2.sel [] rfl rfl) (fun _ h => by cases h))⟩

theorem c_spec_l12Valid (m : TLinear) (B : Option Addr) (c n : Nat) (w0 : World) (hn : m.Rows.length = n) (hS : ST w0 [] w0 [] [⟨B, (m.Rows.flatMap encI)⟩]) {r_ : Bool} (hF : F_spec_l12Valid m = some r_) :
    CV Try.prog 122 #[.agg #[.slice B n c]] w0 (fun v w' => v = .bool r_ ∧ ST w0 [] w' [] []) := by
  subst hn
  unfold F_spec_l12Valid at hF
  refine cv_of_cw 25 Try.func122 rfl Try.ntmps122 rfl ?_
  refine cw_seq ?_
  refine cw_region ?_
  refine ss 1 rfl rfl (Ys_box (T := 50) (v := .agg #[.slice B m.Rows.length c]) (cs := [.slice B m.Rows.length c]) (m := 1) hS rfl rfl rfl rfl) ?_
  rintro _ w_ ⟨b, rfl, hS1⟩
  refine sq 2 rfl rfl (Y_assign (v := .bool false) rfl rfl) ?_
  refine rw_nil ?_
  refine cw_seq ?_
  refine cw_region ?_
  refine sq 4 rfl rfl (Y_fieldAddr (B := some ⟨b, 0, none⟩) (i := 0) (s := 0) k_fd_50_0_0_48 k_sz_48_1 rfl rfl) ?_
  refine sq 5 rfl rfl (Y_load1 (B := some ⟨b, 0, none⟩) (i := 0) (cs := [.slice B m.Rows.length c]) (v := .slice B m.Rows.length c) k_sc_48 rfl rfl (hS1.cf (i := 0) rfl) rfl) ?_
  refine sq 6 rfl rfl (Y_len (B := B) (m := m.Rows.length) (c := c) k_sl_48_3 rfl rfl) ?_
  refine sq 3 rfl rfl (Y_assign (v := .int .i64 (m.Rows.length : Int)) rfl rfl) ?_
  refine rw_nil ?_
  refine cw_seq ?_
  refine cw_region ?_
  refine sq 7 rfl rfl (Y_move (v := .int .i64 (m.Rows.length : Int)) rfl rfl) ?_
  obtain ⟨r_1, hc, hF⟩ := bind_inv hF
  refine sc 8 rfl rfl (Yc_func (g := 96) (vs := [.int .i64 (m.Rows.length : Int), .int .i64 1, .int .i64 5]) k_call_96 rfl (mc rfl (mc rfl (mc rfl mn))) (c_spec_l1In (m.Rows.length : Int) 1 5 _  (hS1.inn0 [] rfl) hc)) ?_
  rintro _ w_1 ⟨rfl, hd⟩
  have hS2 := hS1.out00 hd
  refine sq 9 rfl rfl (Y_move (v := .bool r_1) rfl rfl) ?_
  refine sgq 10 (B := r_1) (v := pt (some ⟨b, 0, none⟩) 0) rfl rfl (wt_t (gd_of (t := 9) (by kernel_rfl) rfl)) (fun hg => (Y_fieldAddr (B := some ⟨b, 0, none⟩) (i := 0) (s := 0) k_fd_50_0_0_48 k_sz_48_1 rfl rfl)) ?_
  refine sgq 11 (B := r_1) (v := .slice B m.Rows.length c) rfl rfl (wt_t (gd_of (t := 9) (by kernel_rfl) rfl)) (fun hg1 => (Y_load1 (B := some ⟨b, 0, none⟩) (i := 0) (cs := [.slice B m.Rows.length c]) (v := .slice B m.Rows.length c) k_sc_48 rfl (gv_of (B := r_1) (v := pt (some ⟨b, 0, none⟩) 0) hg1) (hS2.cf (i := 0) rfl) rfl)) ?_
  refine sgq 12 (B := r_1) (v := .int .i64 (m.Rows.length : Int)) rfl rfl (wt_t (gd_of (t := 9) (by kernel_rfl) rfl)) (fun hg2 => (Y_move (v := .int .i64 (m.Rows.length : Int)) rfl rfl)) ?_
  refine sgq 13 (B := r_1) (v := .int .u64 (IntKind.u64.wrap (m.Rows.length : Int))) rfl rfl (wt_t (gd_of (t := 9) (by kernel_rfl) rfl)) (fun hg3 => (Y_conv (k := .i64) (a := (m.Rows.length : Int)) (T := 3) (T' := 63) k_us_3 k_int_63_u64 rfl (gv_of (B := r_1) (v := .int .i64 (m.Rows.length : Int)) hg3))) ?_
  obtain ⟨hsh, hF⟩ := chk_inv hF
  refine sgq 14 (B := r_1) (v := .int .i64 (shlK .i64 1 (IntKind.u64.wrap (m.Rows.length : Int)))) rfl rfl (wt_t (gd_of (t := 9) (by kernel_rfl) rfl)) (fun hg4 => (Y_shl (k := .i64) (a := 1) (k' := .u64) (b := (IntKind.u64.wrap (m.Rows.length : Int))) rfl rfl (gv_of (B := r_1) (v := .int .u64 (IntKind.u64.wrap (m.Rows.length : Int))) hg4) (hsh hg4))) ?_
  refine sgq 15 (B := r_1) (v := .int .i64 (IntKind.i64.wrap ((shlK .i64 1 (IntKind.u64.wrap (m.Rows.length : Int))) - 1))) rfl rfl (wt_t (gd_of (t := 9) (by kernel_rfl) rfl)) (fun hg5 => (Y_sub (k := .i64) (a := (shlK .i64 1 (IntKind.u64.wrap (m.Rows.length : Int)))) (b := 1) rfl (gv_of (B := r_1) (v := .int .i64 (shlK .i64 1 (IntKind.u64.wrap (m.Rows.length : Int)))) hg5) rfl)) ?_
  obtain ⟨r_2, hc1, hF⟩ := bind_inv hF
  refine sgc 16 (B := r_1) (v := .bool r_2) (F := hS2.fn) rfl rfl (wt_t (gd_of (t := 9) (by kernel_rfl) rfl)) hS2 (fun hg6 => (Yc_func (g := 154) (vs := [.slice B m.Rows.length c, .int .i64 0, .int .i64 (IntKind.i64.wrap ((shlK .i64 1 (IntKind.u64.wrap (m.Rows.length : Int))) - 1))]) k_call_154 rfl (mc (gv_of (B := r_1) (v := .slice B m.Rows.length c) hg6) (mc rfl (mc (gv_of (B := r_1) (v := .int .i64 (IntKind.i64.wrap ((shlK .i64 1 (IntKind.u64.wrap (m.Rows.length : Int))) - 1))) hg6) mn))) (CV.mono (c_spec_l1All m.Rows 0 (IntKind.i64.wrap ((shlK .i64 1 (IntKind.u64.wrap (m.Rows.length : Int))) - 1)) B c m.Rows.length _ rfl (hS2.inn0 [(true, 0)] rfl) (gb_inv hc1 hg6)) (by rintro _ _ ⟨rfl, h⟩; exact ⟨rfl, hS2.out00 h⟩)))) ?_
  rintro w_2 hS3
  have hS3 : ST _ _ w_2 _ _ := hS3
  refine sq 17 rfl rfl (Y_and (b := r_1) (z := r_2) rfl rfl rfl rfl) ?_
  refine sq 18 rfl rfl (Y_move (v := .bool (r_1 && r_2)) rfl rfl) ?_
  refine sgq 19 (B := (r_1 && r_2)) (v := pt (some ⟨b, 0, none⟩) 0) rfl rfl (wt_t (gd_of (t := 18) (by kernel_rfl) rfl)) (fun hg7 => (Y_fieldAddr (B := some ⟨b, 0, none⟩) (i := 0) (s := 0) k_fd_50_0_0_48 k_sz_48_1 rfl rfl)) ?_
  refine sgq 20 (B := (r_1 && r_2)) (v := .slice B m.Rows.length c) rfl rfl (wt_t (gd_of (t := 18) (by kernel_rfl) rfl)) (fun hg8 => (Y_load1 (B := some ⟨b, 0, none⟩) (i := 0) (cs := [.slice B m.Rows.length c]) (v := .slice B m.Rows.length c) k_sc_48 rfl (gv_of (B := (r_1 && r_2)) (v := pt (some ⟨b, 0, none⟩) 0) hg8) (hS3.cf (i := 0) rfl) rfl)) ?_
  obtain ⟨r_3, hc2, hF⟩ := bind_inv hF
  refine sgc 21 (B := (r_1 && r_2)) (v := .int .i64 r_3) (F := hS3.fn) rfl rfl (wt_t (gd_of (t := 18) (by kernel_rfl) rfl)) hS3 (fun hg9 => (Yc_func (g := 155) (vs := [.slice B m.Rows.length c]) k_call_155 rfl (mc (gv_of (B := (r_1 && r_2)) (v := .slice B m.Rows.length c) hg9) mn) (CV.mono (c_spec_l12Rank m.Rows B c m.Rows.length _ rfl (hS3.inn0 [(true, 0)] rfl) (gb_inv hc2 hg9)) (by rintro _ _ ⟨rfl, h⟩; exact ⟨rfl, hS3.out00 h⟩)))) ?_
  rintro w_3 hS4
  have hS4 : ST _ _ w_3 _ _ := hS4
  refine sgq 22 (B := (r_1 && r_2)) (v := .int .i64 (m.Rows.length : Int)) rfl rfl (wt_t (gd_of (t := 18) (by kernel_rfl) rfl)) (fun hg10 => (Y_move (v := .int .i64 (m.Rows.length : Int)) rfl rfl)) ?_
  refine sgq 23 (B := (r_1 && r_2)) (v := .bool (r_3 == (m.Rows.length : Int))) rfl rfl (wt_t (gd_of (t := 18) (by kernel_rfl) rfl)) (fun hg11 => (Y_eq (k := .i64) (a := r_3) (b := (m.Rows.length : Int)) rfl (gv_of (B := (r_1 && r_2)) (v := .int .i64 r_3) hg11) (gv_of (B := (r_1 && r_2)) (v := .int .i64 (m.Rows.length : Int)) hg11))) ?_
  refine sq 24 rfl rfl (Y_and (b := (r_1 && r_2)) (z := (r_3 == (m.Rows.length : Int))) rfl rfl rfl rfl) ?_
  refine sq 2 rfl rfl (Y_assign (v := .bool ((r_1 && r_2) && (r_3 == (m.Rows.length : Int)))) rfl rfl) ?_
  refine rw_nil ?_
  refine cw_ret ?_
  obtain rfl := some_inj hF
  exact ret1 Try.results122 (v1 := .bool ((r_1 && r_2) && (r_3 == (m.Rows.length : Int)))) (resAt_tmp rfl) ⟨rfl, (ST.subR (R' := []) (hS4.sel [] rfl rfl) (fun _ h => by cases h))⟩

theorem c_spec_l13Valid (p : TPhasePoly) (B : Option Addr) (c n : Nat) (B1 : Option Addr) (c1 n1 : Nat) (w0 : World) (hn : p.Terms.length = n) (hn1 : p.Out.Rows.length = n1) (hS : ST w0 [] w0 [] [⟨B, (p.Terms.flatMap enc_Term)⟩, ⟨B1, (p.Out.Rows.flatMap encI)⟩]) {r_ : Bool} (hF : F_spec_l13Valid p = some r_) :
    CV Try.prog 76 #[.agg #[.int .i64 p.Qubits, .int .i64 p.Phase, .slice B n c, .slice B1 n1 c1]] w0 (fun v w' => v = .bool r_ ∧ ST w0 [] w' [] []) := by
  subst hn
  subst hn1
  unfold F_spec_l13Valid at hF
  refine cv_of_cw 70 Try.func76 rfl Try.ntmps76 rfl ?_
  refine cw_seq ?_
  refine cw_region ?_
  refine ss 1 rfl rfl (Ys_box (T := 52) (v := .agg #[.int .i64 p.Qubits, .int .i64 p.Phase, .slice B p.Terms.length c, .slice B1 p.Out.Rows.length c1]) (cs := [.int .i64 p.Qubits, .int .i64 p.Phase, .slice B p.Terms.length c, .slice B1 p.Out.Rows.length c1]) (m := 4) hS rfl rfl rfl rfl) ?_
  rintro _ w_ ⟨b, rfl, hS1⟩
  refine sq 2 rfl rfl (Y_assign (v := .bool false) rfl rfl) ?_
  refine rw_nil ?_
  refine cw_seq ?_
  refine cw_seq ?_
  refine cw_region ?_
  refine sq 5 rfl rfl (Y_fieldAddr (B := some ⟨b, 0, none⟩) (i := 0) (s := 0) k_fd_52_0_0_3 k_sz_3_1 rfl rfl) ?_
  refine sq 6 rfl rfl (Y_load1 (B := some ⟨b, 0, none⟩) (i := 0) (cs := [.int .i64 p.Qubits, .int .i64 p.Phase, .slice B p.Terms.length c, .slice B1 p.Out.Rows.length c1]) (v := .int .i64 p.Qubits) k_sc_3 rfl rfl (hS1.cf (i := 0) rfl) rfl) ?_
  obtain ⟨r_1, hc, hF⟩ := bind_inv hF
  refine sc 7 rfl rfl (Yc_func (g := 96) (vs := [.int .i64 p.Qubits, .int .i64 1, .int .i64 5]) k_call_96 rfl (mc rfl (mc rfl (mc rfl mn))) (c_spec_l1In p.Qubits 1 5 _  (hS1.inn0 [] rfl) hc)) ?_
  rintro _ w_1 ⟨rfl, hd⟩
  have hS2 := hS1.out00 hd
  refine sq 8 rfl rfl (Y_not (p := r_1) rfl rfl) ?_
  refine sq 9 rfl rfl (Y_move (v := .bool (!r_1)) rfl rfl) ?_
  refine sgq 10 (B := (!(!r_1))) (v := pt (some ⟨b, 0, none⟩) 1) rfl rfl (wt_f (gd_of (t := 9) (by kernel_rfl) rfl)) (fun hg => (Y_fieldAddr (B := some ⟨b, 0, none⟩) (i := 0) (s := 0) k_fd_52_1_1_3 k_sz_3_1 rfl rfl)) ?_
  refine sgq 11 (B := (!(!r_1))) (v := .int .i64 p.Phase) rfl rfl (wt_f (gd_of (t := 9) (by kernel_rfl) rfl)) (fun hg1 => (Y_load1 (B := some ⟨b, 0, none⟩) (i := 1) (cs := [.int .i64 p.Qubits, .int .i64 p.Phase, .slice B p.Terms.length c, .slice B1 p.Out.Rows.length c1]) (v := .int .i64 p.Phase) k_sc_3 rfl (gv_of (B := (!(!r_1))) (v := pt (some ⟨b, 0, none⟩) 1) hg1) (hS2.cf (i := 0) rfl) rfl)) ?_
  obtain ⟨r_2, hc1, hF⟩ := bind_inv hF
  refine sgc 12 (B := (!(!r_1))) (v := .bool r_2) (F := hS2.fn) rfl rfl (wt_f (gd_of (t := 9) (by kernel_rfl) rfl)) hS2 (fun hg2 => (Yc_func (g := 96) (vs := [.int .i64 p.Phase, .int .i64 0, .int .i64 7]) k_call_96 rfl (mc (gv_of (B := (!(!r_1))) (v := .int .i64 p.Phase) hg2) (mc rfl (mc rfl mn))) (CV.mono (c_spec_l1In p.Phase 0 7 _  (hS2.inn0 [] rfl) (gb_inv hc1 hg2)) (by rintro _ _ ⟨rfl, h⟩; exact ⟨rfl, hS2.out00 h⟩)))) ?_
  rintro w_2 hS3
  have hS3 : ST _ _ w_2 _ _ := hS3
  refine sgq 13 (B := (!(!r_1))) (v := .bool (!r_2)) rfl rfl (wt_f (gd_of (t := 9) (by kernel_rfl) rfl)) (fun hg3 => (Y_not (p := r_2) rfl (gv_of (B := (!(!r_1))) (v := .bool r_2) hg3))) ?_
  refine sq 14 rfl rfl (Y_or (b := (!r_1)) (z := (!r_2)) rfl rfl rfl rfl) ?_
  refine sq 15 rfl rfl (Y_move (v := .bool ((!r_1) || (!r_2))) rfl rfl) ?_
  refine sgq 16 (B := (!((!r_1) || (!r_2)))) (v := pt (some ⟨b, 0, none⟩) 3) rfl rfl (wt_f (gd_of (t := 15) (by kernel_rfl) rfl)) (fun hg4 => (Y_fieldAddr (B := some ⟨b, 0, none⟩) (i := 0) (s := 0) k_fd_52_3_3_50 k_sz_50_1 rfl rfl)) ?_
  refine sgq 17 (B := (!((!r_1) || (!r_2)))) (v := pt (some ⟨b, 0, none⟩) 3) rfl rfl (wt_f (gd_of (t := 15) (by kernel_rfl) rfl)) (fun hg5 => (Y_fieldAddr (B := some ⟨b, 0, none⟩) (i := 3) (s := 0) k_fd_50_0_0_48 k_sz_48_1 rfl (gv_of (B := (!((!r_1) || (!r_2)))) (v := pt (some ⟨b, 0, none⟩) 3) hg5))) ?_
  refine sgq 18 (B := (!((!r_1) || (!r_2)))) (v := .slice B1 p.Out.Rows.length c1) rfl rfl (wt_f (gd_of (t := 15) (by kernel_rfl) rfl)) (fun hg6 => (Y_load1 (B := some ⟨b, 0, none⟩) (i := 3) (cs := [.int .i64 p.Qubits, .int .i64 p.Phase, .slice B p.Terms.length c, .slice B1 p.Out.Rows.length c1]) (v := .slice B1 p.Out.Rows.length c1) k_sc_48 rfl (gv_of (B := (!((!r_1) || (!r_2)))) (v := pt (some ⟨b, 0, none⟩) 3) hg6) (hS3.cf (i := 0) rfl) rfl)) ?_
  refine sgq 19 (B := (!((!r_1) || (!r_2)))) (v := .int .i64 (p.Out.Rows.length : Int)) rfl rfl (wt_f (gd_of (t := 15) (by kernel_rfl) rfl)) (fun hg7 => (Y_len (B := B1) (m := p.Out.Rows.length) (c := c1) k_sl_48_3 rfl (gv_of (B := (!((!r_1) || (!r_2)))) (v := .slice B1 p.Out.Rows.length c1) hg7))) ?_
  refine sgq 20 (B := (!((!r_1) || (!r_2)))) (v := pt (some ⟨b, 0, none⟩) 0) rfl rfl (wt_f (gd_of (t := 15) (by kernel_rfl) rfl)) (fun hg8 => (Y_fieldAddr (B := some ⟨b, 0, none⟩) (i := 0) (s := 0) k_fd_52_0_0_3 k_sz_3_1 rfl rfl)) ?_
  refine sgq 21 (B := (!((!r_1) || (!r_2)))) (v := .int .i64 p.Qubits) rfl rfl (wt_f (gd_of (t := 15) (by kernel_rfl) rfl)) (fun hg9 => (Y_load1 (B := some ⟨b, 0, none⟩) (i := 0) (cs := [.int .i64 p.Qubits, .int .i64 p.Phase, .slice B p.Terms.length c, .slice B1 p.Out.Rows.length c1]) (v := .int .i64 p.Qubits) k_sc_3 rfl (gv_of (B := (!((!r_1) || (!r_2)))) (v := pt (some ⟨b, 0, none⟩) 0) hg9) (hS3.cf (i := 0) rfl) rfl)) ?_
  refine sgq 22 (B := (!((!r_1) || (!r_2)))) (v := .bool ((p.Out.Rows.length : Int) != p.Qubits)) rfl rfl (wt_f (gd_of (t := 15) (by kernel_rfl) rfl)) (fun hg10 => (Y_ne (k := .i64) (a := (p.Out.Rows.length : Int)) (b := p.Qubits) rfl (gv_of (B := (!((!r_1) || (!r_2)))) (v := .int .i64 (p.Out.Rows.length : Int)) hg10) (gv_of (B := (!((!r_1) || (!r_2)))) (v := .int .i64 p.Qubits) hg10))) ?_
  refine sq 23 rfl rfl (Y_or (b := ((!r_1) || (!r_2))) (z := ((p.Out.Rows.length : Int) != p.Qubits)) rfl rfl rfl rfl) ?_
  refine sq 24 rfl rfl (Y_move (v := .bool (((!r_1) || (!r_2)) || ((p.Out.Rows.length : Int) != p.Qubits))) rfl rfl) ?_
  refine sgq 25 (B := (!(((!r_1) || (!r_2)) || ((p.Out.Rows.length : Int) != p.Qubits)))) (v := pt (some ⟨b, 0, none⟩) 3) rfl rfl (wt_f (gd_of (t := 24) (by kernel_rfl) rfl)) (fun hg11 => (Y_fieldAddr (B := some ⟨b, 0, none⟩) (i := 0) (s := 0) k_fd_52_3_3_50 k_sz_50_1 rfl rfl)) ?_
  refine sgq 26 (B := (!(((!r_1) || (!r_2)) || ((p.Out.Rows.length : Int) != p.Qubits)))) (v := .agg #[.slice B1 p.Out.Rows.length c1]) rfl rfl (wt_f (gd_of (t := 24) (by kernel_rfl) rfl)) (fun hg12 => (Y_loadA (B := some ⟨b, 0, none⟩) (i := 3) (cs := [.int .i64 p.Qubits, .int .i64 p.Phase, .slice B p.Terms.length c, .slice B1 p.Out.Rows.length c1]) (vs := [.slice B1 p.Out.Rows.length c1]) k_ag_50 k_sz_50_1 rfl (gv_of (B := (!(((!r_1) || (!r_2)) || ((p.Out.Rows.length : Int) != p.Qubits)))) (v := pt (some ⟨b, 0, none⟩) 3) hg12) (hS3.cf (i := 0) rfl) rfl rfl)) ?_
  obtain ⟨r_3, hc2, hF⟩ := bind_inv hF
  refine sgc 27 (B := (!(((!r_1) || (!r_2)) || ((p.Out.Rows.length : Int) != p.Qubits)))) (v := .bool r_3) (F := hS3.fn) rfl rfl (wt_f (gd_of (t := 24) (by kernel_rfl) rfl)) hS3 (fun hg13 => (Yc_func (g := 122) (vs := [.agg #[.slice B1 p.Out.Rows.length c1]]) k_call_122 rfl (mc (gv_of (B := (!(((!r_1) || (!r_2)) || ((p.Out.Rows.length : Int) != p.Qubits)))) (v := .agg #[.slice B1 p.Out.Rows.length c1]) hg13) mn) (CV.mono (c_spec_l12Valid p.Out B1 c1 p.Out.Rows.length _ rfl (hS3.inn0 [(true, 1)] rfl) (gb_inv hc2 hg13)) (by rintro _ _ ⟨rfl, h⟩; exact ⟨rfl, hS3.out00 h⟩)))) ?_
  rintro w_3 hS4
  have hS4 : ST _ _ w_3 _ _ := hS4
  refine sgq 28 (B := (!(((!r_1) || (!r_2)) || ((p.Out.Rows.length : Int) != p.Qubits)))) (v := .bool (!r_3)) rfl rfl (wt_f (gd_of (t := 24) (by kernel_rfl) rfl)) (fun hg14 => (Y_not (p := r_3) rfl (gv_of (B := (!(((!r_1) || (!r_2)) || ((p.Out.Rows.length : Int) != p.Qubits)))) (v := .bool r_3) hg14))) ?_
  refine sq 29 rfl rfl (Y_or (b := (((!r_1) || (!r_2)) || ((p.Out.Rows.length : Int) != p.Qubits))) (z := (!r_3)) rfl rfl rfl rfl) ?_
  refine rw_nil ?_
  refine cw_cond (b := ((((!r_1) || (!r_2)) || ((p.Out.Rows.length : Int) != p.Qubits)) || (!r_3))) rfl (fun hb => ?_) (fun hb => ?_)
  · skip
    have hF1 := ct hF hb
    refine cw_seq ?_
    refine cw_region ?_
    refine sq 2 rfl rfl (Y_assign (v := .bool false) rfl rfl) ?_
    refine rw_nil ?_
    refine cw_ret ?_
    obtain rfl := some_inj hF1
    exact ret1 Try.results76 (v1 := .bool false) (resAt_tmp rfl) ⟨rfl, (ST.subR (R' := []) (hS4.sel [] rfl rfl) (fun _ h => by cases h))⟩
  · skip
    have hF2 := cf' hF hb
    refine cw_skip ?_
    refine cw_seq ?_
    refine cw_seq ?_
    refine cw_region ?_
    refine sq 30 rfl rfl (Y_fieldAddr (B := some ⟨b, 0, none⟩) (i := 0) (s := 0) k_fd_52_2_2_47 k_sz_47_1 rfl rfl) ?_
    refine sq 31 rfl rfl (Y_load1 (B := some ⟨b, 0, none⟩) (i := 2) (cs := [.int .i64 p.Qubits, .int .i64 p.Phase, .slice B p.Terms.length c, .slice B1 p.Out.Rows.length c1]) (v := .slice B p.Terms.length c) k_sc_47 rfl rfl (hS4.cf (i := 0) rfl) rfl) ?_
    refine sq 32 rfl rfl (Y_len (B := B) (m := p.Terms.length) (c := c) k_sl_47_104 rfl rfl) ?_
    refine sq 33 rfl rfl (Y_move (v := .int .i64 0) rfl rfl) ?_
    refine rw_nil ?_
    obtain ⟨hN, hF2⟩ := chk_inv hF2
    obtain ⟨z, hz, hF3⟩ := bind_inv hF2
    refine cw_block ?_
    refine cw_loop (fun k f w => ∃ (i : Nat), FF f [(1, pt (some ⟨b, 0, none⟩) 0), (31, .slice B p.Terms.length c), (32, .int .i64 (p.Terms.length : Int)), (33, .int .i64 (i : Int))] ∧ ST w0 [] w [⟨some ⟨b, 0, none⟩, 52, [.int .i64 p.Qubits, .int .i64 p.Phase, .slice B p.Terms.length c, .slice B1 p.Out.Rows.length c1], 4⟩] [⟨B, (p.Terms.flatMap enc_Term)⟩, ⟨B1, (p.Out.Rows.flatMap encI)⟩] ∧ i + k = p.Terms.length ∧ forX (F_spec_l13Valid_l1 p) k i () = some z) p.Terms.length ⟨0, (FF.cons rfl (FF.cons rfl (FF.cons rfl (FF.cons rfl FF.nil)))), (hS4.sel [0] rfl rfl), Nat.zero_add _, hz⟩ ?_
    rintro k_ f w ⟨i, hf, hS5, hik, hL⟩
    refine cw_seq ?_
    refine cw_region ?_
    refine sq 34 rfl rfl (Y_lt (k := .i64) (a := (i : Int)) (b := (p.Terms.length : Int)) rfl (hf.get 33 3 rfl) (hf.get 32 2 rfl)) ?_
    refine rw_nil ?_
    refine cw_seq ?_
    refine cw_cond (b := (decide ((i : Int) < (p.Terms.length : Int)))) rfl (fun hlt => ?_) (fun hlt => ?_)
    · skip
      have hlt1 : i < p.Terms.length := by have h := of_decide_eq_true hlt; omega
      obtain ⟨k_1, rfl⟩ : ∃ k2, k_ = k2 + 1 := ⟨k_ - 1, by omega⟩
      obtain ⟨y, hb1, hL1⟩ := forX_go hL
      unfold F_spec_l13Valid_l1 at hb1
      refine cw_skip ?_
      refine cw_seq ?_
      refine cw_block ?_
      refine cw_seq ?_
      refine cw_region ?_
      refine sq 35 rfl rfl (Y_move (v := .int .i64 (i : Int)) rfl (hf.get 33 3 rfl)) ?_
      obtain ⟨x, hx, hb1⟩ := bind_inv hb1
      refine sq 36 rfl rfl (Y_index (B := B) (m := p.Terms.length) (c := c) (k := .i64) (i := (i : Int)) k_sl_47_104 k_sz_104_2 rfl (hf.get 31 1 rfl) (hf.get 33 3 rfl) (gi_isSome enc_Term_len rfl (hS5.rf (i := 0) rfl) hx) (getI_nn hx) (getI_ltI hx rfl)) ?_
      refine sq 37 rfl rfl (Y_loadA (B := B) (i := (i : Int).toNat * 2) (cs := (p.Terms.flatMap enc_Term)) (vs := [.int .i64 x.Mask, .int .i64 x.Coef]) k_ag_104 k_sz_104_2 rfl rfl (hS5.rf (i := 0) rfl) (enc_Term_len x) (gi_seg enc_Term_len hx)) ?_
      refine ss 4 rfl rfl (Ys_alloc (T := 104) (cs := [.int .i64 0, .int .i64 0]) (m := 2) hS5 k_zero_104 rfl rfl rfl) ?_
      rintro _ w_4 ⟨b1, rfl, hS6⟩
      have hS6 : ST w0 [] _ [⟨some ⟨b, 0, none⟩, 52, [.int .i64 p.Qubits, .int .i64 p.Phase, .slice B p.Terms.length c, .slice B1 p.Out.Rows.length c1], 4⟩, ⟨some ⟨b1, 0, none⟩, 104, [.int .i64 0, .int .i64 0], 2⟩] [⟨B, (p.Terms.flatMap enc_Term)⟩, ⟨B1, (p.Out.Rows.flatMap encI)⟩] := hS6
      refine sq 3 rfl rfl (Y_assign (v := .int .i64 (i : Int)) rfl rfl) ?_
      refine ss0 rfl rfl (Ys_store (i := 1) (s := 2) (B := some ⟨b1, 0, none⟩) (T' := 104) (v := .agg #[.int .i64 x.Mask, .int .i64 x.Coef]) (vs := [.int .i64 x.Mask, .int .i64 x.Coef]) (k := 0) (cs' := [.int .i64 x.Mask, .int .i64 x.Coef]) hS6 k_sz_104_2 rfl rfl rfl rfl rfl rfl rfl (Nat.le_of_ble_eq_true rfl) rfl rfl) ?_
      rintro _ w_5 ⟨rfl, hS7⟩
      have hS7 : ST w0 [] _ [⟨some ⟨b, 0, none⟩, 52, [.int .i64 p.Qubits, .int .i64 p.Phase, .slice B p.Terms.length c, .slice B1 p.Out.Rows.length c1], 4⟩, ⟨some ⟨b1, 0, none⟩, 104, [.int .i64 x.Mask, .int .i64 x.Coef], 2⟩] [⟨B, (p.Terms.flatMap enc_Term)⟩, ⟨B1, (p.Out.Rows.flatMap encI)⟩] := hS7
      refine rw_nil ?_
      refine cw_seq ?_
      obtain ⟨hsh, hb1⟩ := chk_inv hb1
      obtain ⟨r_4, hc3, hb1⟩ := bind_inv hb1
      obtain ⟨r_5, hc4, hb1⟩ := bind_inv hb1
      obtain ⟨x1, hx1, hb1⟩ := bind_inv hb1
      refine ra_start (ST.sel hS7 [0, 1] rfl rfl).fn (by kernel_rfl) ?_
      have hS10 := hS7.drew
      refine ra_q 0 38 (v := pt (some ⟨b1, 0, none⟩) 0) rfl rfl rfl (by kernel_rfl) (by kernel_rfl) (by kernel_rfl) (ST.sel hS10 [0, 1] rfl rfl) (fun w' hw' => (Y_fieldAddr (B := some ⟨b1, 0, none⟩) (i := 0) (s := 0) k_fd_104_0_0_3 k_sz_3_1 rfl rfl)) ?_
      refine ra_q 1 39 (v := .int .i64 x.Mask) rfl rfl rfl (by kernel_rfl) (by kernel_rfl) (by kernel_rfl) (ST.sel hS10 [0, 1] rfl rfl) (fun w' hw' => (Y_load1 (B := some ⟨b1, 0, none⟩) (i := 0) (cs := [.int .i64 x.Mask, .int .i64 x.Coef]) (v := .int .i64 x.Mask) k_sc_3 rfl rfl (ST.cf hw' (i := 1) rfl) rfl)) ?_
      refine ra_q 2 40 (v := pt (some ⟨b, 0, none⟩) 0) rfl rfl rfl (by kernel_rfl) (by kernel_rfl) (by kernel_rfl) (ST.sel hS10 [0, 1] rfl rfl) (fun w' hw' => (Y_fieldAddr (B := some ⟨b, 0, none⟩) (i := 0) (s := 0) k_fd_52_0_0_3 k_sz_3_1 rfl (hf.get 1 0 rfl))) ?_
      refine ra_q 3 41 (v := .int .i64 p.Qubits) rfl rfl rfl (by kernel_rfl) (by kernel_rfl) (by kernel_rfl) (ST.sel hS10 [0, 1] rfl rfl) (fun w' hw' => (Y_load1 (B := some ⟨b, 0, none⟩) (i := 0) (cs := [.int .i64 p.Qubits, .int .i64 p.Phase, .slice B p.Terms.length c, .slice B1 p.Out.Rows.length c1]) (v := .int .i64 p.Qubits) k_sc_3 rfl rfl (ST.cf hw' (i := 0) rfl) rfl)) ?_
      refine ra_q 4 42 (v := .int .u64 (IntKind.u64.wrap p.Qubits)) rfl rfl rfl (by kernel_rfl) (by kernel_rfl) (by kernel_rfl) (ST.sel hS10 [0, 1] rfl rfl) (fun w' hw' => (Y_conv (k := .i64) (a := p.Qubits) (T := 3) (T' := 63) k_us_3 k_int_63_u64 rfl rfl)) ?_
      refine ra_q 5 43 (v := .int .i64 (shlK .i64 1 (IntKind.u64.wrap p.Qubits))) rfl rfl rfl (by kernel_rfl) (by kernel_rfl) (by kernel_rfl) (ST.sel hS10 [0, 1] rfl rfl) (fun w' hw' => (Y_shl (k := .i64) (a := 1) (k' := .u64) (b := (IntKind.u64.wrap p.Qubits)) rfl rfl rfl hsh)) ?_
      refine ra_q 6 44 (v := .int .i64 (IntKind.i64.wrap ((shlK .i64 1 (IntKind.u64.wrap p.Qubits)) - 1))) rfl rfl rfl (by kernel_rfl) (by kernel_rfl) (by kernel_rfl) (ST.sel hS10 [0, 1] rfl rfl) (fun w' hw' => (Y_sub (k := .i64) (a := (shlK .i64 1 (IntKind.u64.wrap p.Qubits))) (b := 1) rfl rfl rfl)) ?_
      refine ra_all (rs := [7]) (by kernel_rfl) rfl ?_
      refine ra_c 45 (i := 7) rfl rfl rfl (Yc_func (g := 96) (vs := [.int .i64 x.Mask, .int .i64 1, .int .i64 (IntKind.i64.wrap ((shlK .i64 1 (IntKind.u64.wrap p.Qubits)) - 1))]) k_call_96 rfl (mc rfl (mc rfl (mc rfl mn))) (c_spec_l1In x.Mask 1 (IntKind.i64.wrap ((shlK .i64 1 (IntKind.u64.wrap p.Qubits)) - 1)) _  (hS10.inn0 [] rfl) hc3)) ?_ ?_
      · rintro _ w_6 ⟨rfl, hd1⟩
        have hS11 := hS10.out00 hd1
        have hS11 : ST w0 [] _ [⟨some ⟨b, 0, none⟩, 52, [.int .i64 p.Qubits, .int .i64 p.Phase, .slice B p.Terms.length c, .slice B1 p.Out.Rows.length c1], 4⟩, ⟨some ⟨b1, 0, none⟩, 104, [.int .i64 x.Mask, .int .i64 x.Coef], 2⟩] [⟨B, (p.Terms.flatMap enc_Term)⟩, ⟨B1, (p.Out.Rows.flatMap encI)⟩] := hS11
        refine ⟨(ST.sel hS11 [0, 1] rfl rfl), ?_⟩
        refine ra_q 8 46 (v := .bool (!r_4)) rfl rfl rfl (by kernel_rfl) (by kernel_rfl) (by kernel_rfl) (ST.sel hS11 [0, 1] rfl rfl) (fun w' hw' => (Y_not (p := r_4) rfl rfl)) ?_
        refine ra_q 9 47 (v := .bool (!r_4)) rfl rfl rfl (by kernel_rfl) (by kernel_rfl) (by kernel_rfl) (ST.sel hS11 [0, 1] rfl rfl) (fun w' hw' => (Y_move (v := .bool (!r_4)) rfl rfl)) ?_
        refine ra_gq 10 48 (B := (!(!r_4))) (v := pt (some ⟨b1, 0, none⟩) 1) rfl rfl rfl (wt_f (gd_of (t := 47) (by kernel_rfl) rfl)) (by kernel_rfl) (by kernel_rfl) (by kernel_rfl) (ST.sel hS11 [0, 1] rfl rfl) (fun hg15 w' hw' => (Y_fieldAddr (B := some ⟨b1, 0, none⟩) (i := 0) (s := 0) k_fd_104_1_1_3 k_sz_3_1 rfl rfl)) ?_
        refine ra_gq 11 49 (B := (!(!r_4))) (v := .int .i64 x.Coef) rfl rfl rfl (wt_f (gd_of (t := 47) (by kernel_rfl) rfl)) (by kernel_rfl) (by kernel_rfl) (by kernel_rfl) (ST.sel hS11 [0, 1] rfl rfl) (fun hg16 w' hw' => (Y_load1 (B := some ⟨b1, 0, none⟩) (i := 1) (cs := [.int .i64 x.Mask, .int .i64 x.Coef]) (v := .int .i64 x.Coef) k_sc_3 rfl (gv_of (B := (!(!r_4))) (v := pt (some ⟨b1, 0, none⟩) 1) hg16) (ST.cf hw' (i := 1) rfl) rfl)) ?_
        refine ra_all (rs := [12]) (by kernel_rfl) rfl ?_
        refine ra_gc 50 (i := 12) (B := (!(!r_4))) (v := .bool r_5) (F := hS11.fn) rfl rfl rfl (wt_f (gd_of (t := 47) (by kernel_rfl) rfl)) hS11 (fun hg17 => (Yc_func (g := 96) (vs := [.int .i64 x.Coef, .int .i64 1, .int .i64 7]) k_call_96 rfl (mc (gv_of (B := (!(!r_4))) (v := .int .i64 x.Coef) hg17) (mc rfl (mc rfl mn))) (CV.mono (c_spec_l1In x.Coef 1 7 _  (hS11.inn0 [] rfl) (gb_inv hc4 hg17)) (by rintro _ _ ⟨rfl, h⟩; exact ⟨rfl, hS11.out00 h⟩)))) ?_ ?_
        · rintro w_7 hS12
          have hS12 : ST _ _ w_7 _ _ := hS12
          refine ⟨(ST.sel hS12 [0, 1] rfl rfl), ?_⟩
          refine ra_gq 13 51 (B := (!(!r_4))) (v := .bool (!r_5)) rfl rfl rfl (wt_f (gd_of (t := 47) (by kernel_rfl) rfl)) (by kernel_rfl) (by kernel_rfl) (by kernel_rfl) (ST.sel hS12 [0, 1] rfl rfl) (fun hg18 w' hw' => (Y_not (p := r_5) rfl (gv_of (B := (!(!r_4))) (v := .bool r_5) hg18))) ?_
          refine ra_q 14 52 (v := .bool ((!r_4) || (!r_5))) rfl rfl rfl (by kernel_rfl) (by kernel_rfl) (by kernel_rfl) (ST.sel hS12 [0, 1] rfl rfl) (fun w' hw' => (Y_or (b := (!r_4)) (z := (!r_5)) rfl rfl rfl rfl)) ?_
          refine ra_q 15 53 (v := .bool ((!r_4) || (!r_5))) rfl rfl rfl (by kernel_rfl) (by kernel_rfl) (by kernel_rfl) (ST.sel hS12 [0, 1] rfl rfl) (fun w' hw' => (Y_move (v := .bool ((!r_4) || (!r_5))) rfl rfl)) ?_
          refine ra_gq 16 54 (B := (!((!r_4) || (!r_5)))) (v := .int .i64 (i : Int)) rfl rfl rfl (wt_f (gd_of (t := 53) (by kernel_rfl) rfl)) (by kernel_rfl) (by kernel_rfl) (by kernel_rfl) (ST.sel hS12 [0, 1] rfl rfl) (fun hg19 w' hw' => (Y_move (v := .int .i64 (i : Int)) rfl rfl)) ?_
          refine ra_gq 17 55 (B := (!((!r_4) || (!r_5)))) (v := .bool (decide (0 < (i : Int)))) rfl rfl rfl (wt_f (gd_of (t := 53) (by kernel_rfl) rfl)) (by kernel_rfl) (by kernel_rfl) (by kernel_rfl) (ST.sel hS12 [0, 1] rfl rfl) (fun hg20 w' hw' => (Y_gt (k := .i64) (a := (i : Int)) (b := 0) rfl (gv_of (B := (!((!r_4) || (!r_5)))) (v := .int .i64 (i : Int)) hg20) rfl)) ?_
          refine ra_gq 18 56 (B := (!((!r_4) || (!r_5)))) (v := .bool (decide (0 < (i : Int)))) rfl rfl rfl (wt_f (gd_of (t := 53) (by kernel_rfl) rfl)) (by kernel_rfl) (by kernel_rfl) (by kernel_rfl) (ST.sel hS12 [0, 1] rfl rfl) (fun hg21 w' hw' => (Y_move (v := .bool (decide (0 < (i : Int)))) rfl (gv_of (B := (!((!r_4) || (!r_5)))) (v := .bool (decide (0 < (i : Int)))) hg21))) ?_
          refine ra_gq 19 57 (B := ((!((!r_4) || (!r_5))) && (decide (0 < (i : Int))))) (v := pt (some ⟨b, 0, none⟩) 2) rfl rfl rfl (wt_gt (gd_of (t := 56) (by kernel_rfl) rfl)) (by kernel_rfl) (by kernel_rfl) (by kernel_rfl) (ST.sel hS12 [0, 1] rfl rfl) (fun hg22 w' hw' => (Y_fieldAddr (B := some ⟨b, 0, none⟩) (i := 0) (s := 0) k_fd_52_2_2_47 k_sz_47_1 rfl (hf.get 1 0 rfl))) ?_
          refine ra_gq 20 58 (B := ((!((!r_4) || (!r_5))) && (decide (0 < (i : Int))))) (v := .slice B p.Terms.length c) rfl rfl rfl (wt_gt (gd_of (t := 56) (by kernel_rfl) rfl)) (by kernel_rfl) (by kernel_rfl) (by kernel_rfl) (ST.sel hS12 [0, 1] rfl rfl) (fun hg23 w' hw' => (Y_load1 (B := some ⟨b, 0, none⟩) (i := 2) (cs := [.int .i64 p.Qubits, .int .i64 p.Phase, .slice B p.Terms.length c, .slice B1 p.Out.Rows.length c1]) (v := .slice B p.Terms.length c) k_sc_47 rfl (gv_of (B := ((!((!r_4) || (!r_5))) && (decide (0 < (i : Int))))) (v := pt (some ⟨b, 0, none⟩) 2) hg23) (ST.cf hw' (i := 0) rfl) rfl)) ?_
          refine ra_gq 21 59 (B := ((!((!r_4) || (!r_5))) && (decide (0 < (i : Int))))) (v := .int .i64 (i : Int)) rfl rfl rfl (wt_gt (gd_of (t := 56) (by kernel_rfl) rfl)) (by kernel_rfl) (by kernel_rfl) (by kernel_rfl) (ST.sel hS12 [0, 1] rfl rfl) (fun hg24 w' hw' => (Y_move (v := .int .i64 (i : Int)) rfl rfl)) ?_
          refine ra_gq 22 60 (B := ((!((!r_4) || (!r_5))) && (decide (0 < (i : Int))))) (v := .int .i64 (IntKind.i64.wrap ((i : Int) - 1))) rfl rfl rfl (wt_gt (gd_of (t := 56) (by kernel_rfl) rfl)) (by kernel_rfl) (by kernel_rfl) (by kernel_rfl) (ST.sel hS12 [0, 1] rfl rfl) (fun hg25 w' hw' => (Y_sub (k := .i64) (a := (i : Int)) (b := 1) rfl (gv_of (B := ((!((!r_4) || (!r_5))) && (decide (0 < (i : Int))))) (v := .int .i64 (i : Int)) hg25) rfl)) ?_
          refine ra_gq 23 61 (B := ((!((!r_4) || (!r_5))) && (decide (0 < (i : Int))))) (v := pt B ((IntKind.i64.wrap ((i : Int) - 1)).toNat * 2)) rfl rfl rfl (wt_gt (gd_of (t := 56) (by kernel_rfl) rfl)) (by kernel_rfl) (by kernel_rfl) (by kernel_rfl) (ST.sel hS12 [0, 1] rfl rfl) (fun hg26 w' hw' => (Y_index (B := B) (m := p.Terms.length) (c := c) (k := .i64) (i := (IntKind.i64.wrap ((i : Int) - 1))) k_sl_47_104 k_sz_104_2 rfl (gv_of (B := ((!((!r_4) || (!r_5))) && (decide (0 < (i : Int))))) (v := .slice B p.Terms.length c) hg26) (gv_of (B := ((!((!r_4) || (!r_5))) && (decide (0 < (i : Int))))) (v := .int .i64 (IntKind.i64.wrap ((i : Int) - 1))) hg26) (gi_isSome enc_Term_len rfl (ST.rf hw' (i := 0) rfl) (gb_inv hx1 hg26)) (getI_nn (gb_inv hx1 hg26)) (getI_ltI (gb_inv hx1 hg26) rfl))) ?_
          refine ra_gq 24 62 (B := ((!((!r_4) || (!r_5))) && (decide (0 < (i : Int))))) (v := pt B ((IntKind.i64.wrap ((i : Int) - 1)).toNat * 2 + 0)) rfl rfl rfl (wt_gt (gd_of (t := 56) (by kernel_rfl) rfl)) (by kernel_rfl) (by kernel_rfl) (by kernel_rfl) (ST.sel hS12 [0, 1] rfl rfl) (fun hg27 w' hw' => (Y_fieldAddr (B := B) (i := (IntKind.i64.wrap ((i : Int) - 1)).toNat * 2) (s := 0) k_fd_104_0_0_3 k_sz_3_1 rfl (gv_of (B := ((!((!r_4) || (!r_5))) && (decide (0 < (i : Int))))) (v := pt B ((IntKind.i64.wrap ((i : Int) - 1)).toNat * 2)) hg27))) ?_
          refine ra_gq 25 63 (B := ((!((!r_4) || (!r_5))) && (decide (0 < (i : Int))))) (v := .int .i64 x1.Mask) rfl rfl rfl (wt_gt (gd_of (t := 56) (by kernel_rfl) rfl)) (by kernel_rfl) (by kernel_rfl) (by kernel_rfl) (ST.sel hS12 [0, 1] rfl rfl) (fun hg28 w' hw' => (Y_load1 (B := B) (i := (IntKind.i64.wrap ((i : Int) - 1)).toNat * 2 + 0) (cs := (p.Terms.flatMap enc_Term)) (v := .int .i64 x1.Mask) k_sc_3 rfl (gv_of (B := ((!((!r_4) || (!r_5))) && (decide (0 < (i : Int))))) (v := pt B ((IntKind.i64.wrap ((i : Int) - 1)).toNat * 2 + 0)) hg28) (ST.rf hw' (i := 0) rfl) (gi_at enc_Term_len (gb_inv hx1 hg28) rfl))) ?_
          refine ra_gq 26 64 (B := ((!((!r_4) || (!r_5))) && (decide (0 < (i : Int))))) (v := pt (some ⟨b1, 0, none⟩) 0) rfl rfl rfl (wt_gt (gd_of (t := 56) (by kernel_rfl) rfl)) (by kernel_rfl) (by kernel_rfl) (by kernel_rfl) (ST.sel hS12 [0, 1] rfl rfl) (fun hg29 w' hw' => (Y_fieldAddr (B := some ⟨b1, 0, none⟩) (i := 0) (s := 0) k_fd_104_0_0_3 k_sz_3_1 rfl rfl)) ?_
          refine ra_gq 27 65 (B := ((!((!r_4) || (!r_5))) && (decide (0 < (i : Int))))) (v := .int .i64 x.Mask) rfl rfl rfl (wt_gt (gd_of (t := 56) (by kernel_rfl) rfl)) (by kernel_rfl) (by kernel_rfl) (by kernel_rfl) (ST.sel hS12 [0, 1] rfl rfl) (fun hg30 w' hw' => (Y_load1 (B := some ⟨b1, 0, none⟩) (i := 0) (cs := [.int .i64 x.Mask, .int .i64 x.Coef]) (v := .int .i64 x.Mask) k_sc_3 rfl (gv_of (B := ((!((!r_4) || (!r_5))) && (decide (0 < (i : Int))))) (v := pt (some ⟨b1, 0, none⟩) 0) hg30) (ST.cf hw' (i := 1) rfl) rfl)) ?_
          refine ra_gq 28 66 (B := ((!((!r_4) || (!r_5))) && (decide (0 < (i : Int))))) (v := .bool (decide (x.Mask ≤ x1.Mask))) rfl rfl rfl (wt_gt (gd_of (t := 56) (by kernel_rfl) rfl)) (by kernel_rfl) (by kernel_rfl) (by kernel_rfl) (ST.sel hS12 [0, 1] rfl rfl) (fun hg31 w' hw' => (Y_ge (k := .i64) (a := x1.Mask) (b := x.Mask) rfl (gv_of (B := ((!((!r_4) || (!r_5))) && (decide (0 < (i : Int))))) (v := .int .i64 x1.Mask) hg31) (gv_of (B := ((!((!r_4) || (!r_5))) && (decide (0 < (i : Int))))) (v := .int .i64 x.Mask) hg31))) ?_
          refine ra_gq 29 67 (B := (!((!r_4) || (!r_5)))) (v := .bool ((decide (0 < (i : Int))) && (decide (x.Mask ≤ x1.Mask)))) rfl rfl rfl (wt_f (gd_of (t := 53) (by kernel_rfl) rfl)) (by kernel_rfl) (by kernel_rfl) (by kernel_rfl) (ST.sel hS12 [0, 1] rfl rfl) (fun hg32 w' hw' => (Y_and (b := (decide (0 < (i : Int)))) (z := (decide (x.Mask ≤ x1.Mask))) rfl (gv_of (B := (!((!r_4) || (!r_5)))) (v := .bool (decide (0 < (i : Int)))) hg32) (gv_and (B := (!((!r_4) || (!r_5)))) (C := (decide (0 < (i : Int)))) (v := .bool (decide (x.Mask ≤ x1.Mask))) hg32) rfl)) ?_
          refine ra_q 30 68 (v := .bool (((!r_4) || (!r_5)) || ((decide (0 < (i : Int))) && (decide (x.Mask ≤ x1.Mask))))) rfl rfl rfl (by kernel_rfl) (by kernel_rfl) (by kernel_rfl) (ST.sel hS12 [0, 1] rfl rfl) (fun w' hw' => (Y_or (b := ((!r_4) || (!r_5))) (z := ((decide (0 < (i : Int))) && (decide (x.Mask ≤ x1.Mask)))) rfl rfl rfl rfl)) ?_
          refine ra_done (by kernel_rfl) ?_
          refine cw_cond (b := (((!r_4) || (!r_5)) || ((decide (0 < (i : Int))) && (decide (x.Mask ≤ x1.Mask))))) rfl (fun hb2 => ?_) (fun hb2 => ?_)
          · skip
            have hF4 := ct hb1 hb2
            refine cw_seq ?_
            refine cw_region ?_
            refine sq 2 rfl rfl (Y_assign (v := .bool false) rfl rfl) ?_
            refine rw_nil ?_
            refine cw_ret ?_
            obtain rfl := some_inj hF4
            obtain rfl := some_inj hL1
            obtain rfl := some_inj hF3
            exact ret1 Try.results76 (v1 := .bool false) (resAt_tmp rfl) ⟨rfl, (ST.subR (R' := []) (hS12.sel [] rfl rfl) (fun _ h => by cases h))⟩
          · skip
            have hF5 := cf' hb1 hb2
            refine cw_skip ?_
            refine cw_region ?_
            refine sq 69 rfl rfl (Y_add (k := .i64) (a := (i : Int)) (b := 1) rfl (hf.get 33 3 rfl) rfl) ?_
            refine sq 33 rfl rfl (Y_move (v := .int .i64 (IntKind.i64.wrap ((i : Int) + 1))) rfl rfl) ?_
            refine rw_nil ?_
            obtain rfl := some_inj hF5
            exact ⟨k_1, Nat.lt_succ_self _, i + 1, (FF.cons (hf.get 1 0 rfl) (FF.cons (hf.get 31 1 rfl) (FF.cons (hf.get 32 2 rfl) (FF.cons (congrArg (Value.int .i64) (wr_succ hlt1 hN)) FF.nil)))), (hS12.sel [0] rfl rfl), (by omega), hL1⟩
        exact allR_nil
      exact allR_nil
    · skip
      obtain rfl : k_ = 0 := by have h := of_decide_eq_false hlt; omega
      refine cw_exit rfl ?_
      obtain rfl := some_inj hL
      refine cw_seq ?_
      refine cw_region ?_
      refine sq 2 rfl rfl (Y_assign (v := .bool true) rfl rfl) ?_
      refine rw_nil ?_
      refine cw_ret ?_
      obtain rfl := some_inj hF3
      exact ret1 Try.results76 (v1 := .bool true) (resAt_tmp rfl) ⟨rfl, (ST.subR (R' := []) (hS5.sel [] rfl rfl) (fun _ h => by cases h))⟩
end Go.VK
