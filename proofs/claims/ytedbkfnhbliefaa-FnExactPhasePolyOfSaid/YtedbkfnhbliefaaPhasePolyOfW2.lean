/- Walks: each Go function returns what its Lean function says. By program. -/
import Derived.Test.YtedbkfnhbliefaaPhasePolyOfFa
import Derived.Test.YtedbkfnhbliefaaPhasePolyOfW1
set_option linter.unusedVariables false
set_option maxRecDepth 100000
set_option maxHeartbeats 1000000
namespace Go.VK
open Go.RowKit
open Go.Proofs
attribute [local irreducible] CW RW RA CV Y Yw Yc Ys RetOf
theorem c_impl_coefficients_terms (c : List Int)  (w0 : World) (hlen : c.length = 32) (hS : ST w0 [] w0 [] []) {r_ : List TTerm} (hF : F_impl_coefficients_terms c = some r_) :
    CV Try.prog 24 #[.agg (c.flatMap encI).toArray] w0 (fun v w' => ∃ (B : Option Addr) (c1 : Nat), v = .slice B r_.length c1 ∧ ST w0 [] w' [⟨B, 67, (r_.flatMap enc_Term), c1 * 2⟩] []) := by
  unfold F_impl_coefficients_terms at hF
  refine cv_of_cw 26 Try.func24 rfl Try.ntmps24 rfl ?_
  refine cw_seq ?_
  refine cw_region ?_
  refine ss 1 rfl rfl (Ys_box (T := 54) (v := .agg (c.flatMap encI).toArray) (cs := (c.flatMap encI)) (m := 32) hS rfl rfl rfl (fm_lenn2 encI_len hlen rfl)) ?_
  rintro _ w_ ⟨b, rfl, hS1⟩
  refine sq 2 rfl rfl (Y_assign (v := .slice none 0 0) rfl rfl) ?_
  refine rw_nil ?_
  refine cw_seq ?_
  refine cw_region ?_
  refine ss 6 rfl rfl (Ys_bslice0 (s := 2) (e := 67) hS1 k_sl_26_67 k_sz_67_2 rfl) ?_
  rintro _ w_1 ⟨b1, rfl, hS2⟩
  have hS2 : ST w0 [] _ [⟨some ⟨b, 0, none⟩, 54, (c.flatMap encI), 32⟩, ⟨some ⟨b1, 0, none⟩, 67, ([].flatMap enc_Term), 0 * 2⟩] [] := hS2
  refine sq 3 rfl rfl (Y_assign (v := .slice (some ⟨b1, 0, none⟩) 0 0) rfl rfl) ?_
  refine rw_nil ?_
  refine cw_seq ?_
  refine cw_seq ?_
  refine cw_region ?_
  refine sq 7 rfl rfl (Y_loadA (B := some ⟨b, 0, none⟩) (i := 0) (cs := (c.flatMap encI)) (vs := (c.flatMap encI)) k_ag_54 k_sz_54_32 rfl rfl (hS2.cf (i := 0) rfl) (fm_lenn2 encI_len hlen rfl) (fm_whole encI_len hlen rfl)) ?_
  refine sq 8 rfl rfl (Y_move (v := .int .i64 0) rfl rfl) ?_
  refine rw_nil ?_
  obtain ⟨z, hz, hF1⟩ := bind_inv hF
  refine cw_block ?_
  refine cw_loop (fun k f w => ∃ (i : Nat) (out : List TTerm) (B1 : Option Addr) (c2 : Nat), FF f [(3, .slice B1 out.length c2), (7, .agg (c.flatMap encI).toArray), (8, .int .i64 (i : Int))] ∧ ST w0 [] w [⟨B1, 67, (out.flatMap enc_Term), c2 * 2⟩] [] ∧ i + k = 32 ∧ forN (F_impl_coefficients_terms_l1 c) k i out = some z) 32 ⟨0, [], some ⟨b1, 0, none⟩, 0, (FF.cons rfl (FF.cons rfl (FF.cons rfl FF.nil))), (hS2.sel [1] rfl rfl), Nat.zero_add _, hz⟩ ?_
  rintro k_ f w ⟨i, out, B1, c2, hf, hS3, hik, hL⟩
  refine cw_seq ?_
  refine cw_region ?_
  refine sq 9 rfl rfl (Y_lt (k := .i64) (a := (i : Int)) (b := 32) rfl (hf.get 8 2 rfl) rfl) ?_
  refine rw_nil ?_
  refine cw_seq ?_
  refine cw_cond (b := (decide ((i : Int) < 32))) rfl (fun hlt => ?_) (fun hlt => ?_)
  · skip
    have hlt1 : i < 32 := by have h := of_decide_eq_true hlt; omega
    obtain ⟨k_1, rfl⟩ : ∃ k2, k_ = k2 + 1 := ⟨k_ - 1, by omega⟩
    obtain ⟨y, hb, hL1⟩ := forN_go hL
    unfold F_impl_coefficients_terms_l1 at hb
    refine cw_skip ?_
    refine cw_seq ?_
    obtain ⟨z1, hz1, hF2⟩ := bind_inv hb
    refine cw_mid (fun f w => ∃ (out1 : List TTerm) (B2 : Option Addr) (c3 : Nat), out1 = z1 ∧ FF f [(3, .slice B2 out1.length c3), (7, .agg (c.flatMap encI).toArray), (8, .int .i64 (i : Int))] ∧ ST w0 [] w [⟨B2, 67, (out1.flatMap enc_Term), c3 * 2⟩] []) ?_ ?_
    · skip
      refine cw_block ?_
      refine cw_seq ?_
      refine cw_region ?_
      refine sq 10 rfl rfl (Y_move (v := .int .i64 (i : Int)) rfl (hf.get 8 2 rfl)) ?_
      obtain ⟨x, hx, hz1⟩ := bind_inv hz1
      refine sq 11 rfl rfl (Y_idx1 (cl := (c.flatMap encI)) (k := .i64) (i := (i : Int)) (v := .int .i64 x) k_ar_54_32_3 k_sz_3_1 k_sc_3 rfl (hf.get 7 1 rfl) (hf.get 8 2 rfl) (getI_nn hx) (getI_ltI hx hlen) (gi_at0 encI_len hx rfl)) ?_
      refine sq 4 rfl rfl (Y_assign (v := .int .i64 (i : Int)) rfl rfl) ?_
      refine sq 5 rfl rfl (Y_assign (v := .int .i64 x) rfl rfl) ?_
      refine rw_nil ?_
      refine cw_seq ?_
      refine cw_region ?_
      refine sq 12 rfl rfl (Y_move (v := .int .i64 (i : Int)) rfl rfl) ?_
      refine sq 13 rfl rfl (Y_gt (k := .i64) (a := (i : Int)) (b := 0) rfl rfl rfl) ?_
      refine sq 14 rfl rfl (Y_move (v := .bool (decide (0 < (i : Int)))) rfl rfl) ?_
      refine sgq 15 (B := (decide (0 < (i : Int)))) (v := .int .i64 x) rfl rfl (wt_t (gd_of (t := 14) (by kernel_rfl) rfl)) (fun hg => (Y_move (v := .int .i64 x) rfl rfl)) ?_
      refine sgq 16 (B := (decide (0 < (i : Int)))) (v := .bool (decide (0 < x))) rfl rfl (wt_t (gd_of (t := 14) (by kernel_rfl) rfl)) (fun hg1 => (Y_gt (k := .i64) (a := x) (b := 0) rfl (gv_of (B := (decide (0 < (i : Int)))) (v := .int .i64 x) hg1) rfl)) ?_
      refine sq 17 rfl rfl (Y_and (b := (decide (0 < (i : Int)))) (z := (decide (0 < x))) rfl rfl rfl rfl) ?_
      refine rw_nil ?_
      refine cw_cond (b := ((decide (0 < (i : Int))) && (decide (0 < x)))) rfl (fun hb1 => ?_) (fun hb1 => ?_)
      · skip
        have hF3 := ct hz1 hb1
        refine cw_region ?_
        refine sq 18 rfl rfl (Y_move (v := .slice B1 out.length c2) rfl (hf.get 3 0 rfl)) ?_
        refine sq 19 rfl rfl (Y_move (v := .int .i64 (i : Int)) rfl rfl) ?_
        refine sq 20 rfl rfl (Y_move (v := .int .i64 x) rfl rfl) ?_
        refine sq 21 rfl rfl (Y_buildS (zs := [.int .i64 0, .int .i64 0]) (vs := [(0, .int .i64 (i : Int)), (1, .int .i64 x)]) (cs := [.int .i64 (i : Int), .int .i64 x]) k_pl_67 k_zero_67 rfl (mpc rfl (mpc rfl mpn)) rfl) ?_
        refine ss 22 rfl rfl (Ys_bslice (s := 2) (len := 1) (vs := [(0, .agg #[.int .i64 (i : Int), .int .i64 x])]) (cs := [.int .i64 (i : Int), .int .i64 x]) (zs := [.int .i64 0, .int .i64 0]) (m := 2) hS3 k_sl_26_67 k_sz_67_2 k_zc_67 rfl (mpc rfl mpn) rfl rfl rfl rfl rfl rfl) ?_
        rintro _ w_2 ⟨b2, rfl, hS5⟩
        have hS5 : ST w0 [] _ [⟨B1, 67, (out.flatMap enc_Term), c2 * 2⟩, ⟨some ⟨b2, 0, none⟩, 67, ([(TTerm.mk (i : Int) x)].flatMap enc_Term), 1 * 2⟩] [] := hS5
        obtain ⟨hap, hF3⟩ := chk_inv hF3
        refine ss 23 rfl rfl (Ys_append (s := 2) (by' := 16) (i := 0) (nn := out.length) (c := c2) (k := 1) (len := (out ++ [(TTerm.mk (i : Int) x)]).length) (B := B1) (xs := ([(TTerm.mk (i : Int) x)].flatMap enc_Term)) (cs' := ((out ++ [(TTerm.mk (i : Int) x)]).flatMap enc_Term)) hS5 k_sl_26_67 k_sz_67_2 k_by_67_16 k_zero_67 rfl (by decide) rfl rfl rfl rfl (fm_lenn (l := out) enc_Term_len rfl) rfl (hS5.cf (i := 1) rfl) (fm_lenn (l := [(TTerm.mk (i : Int) x)]) enc_Term_len rfl) (fm_one' (enc := enc_Term) enc_Term_one [(TTerm.mk (i : Int) x)]) (by have := hap; omega) (by have := hap; simp only [maxLen]; omega) (fm_app _ _) (app_len (l := out) (l' := [(TTerm.mk (i : Int) x)]) rfl rfl)) ?_
        rintro _ w_3 ⟨B3, c4, rfl, hS6⟩
        have hS6 : ST w0 [] _ [⟨B3, 67, ((out ++ [(TTerm.mk (i : Int) x)]).flatMap enc_Term), c4 * 2⟩, ⟨some ⟨b2, 0, none⟩, 67, ([(TTerm.mk (i : Int) x)].flatMap enc_Term), 1 * 2⟩] [] := hS6
        refine sq 3 rfl rfl (Y_assign (v := .slice B3 ((out ++ [(TTerm.mk (i : Int) x)]).length) c4) rfl rfl) ?_
        refine rw_nil ?_
        exact ⟨(out ++ [(TTerm.mk (i : Int) x)]), B3, c4, (some_inj hF3), (FF.cons rfl (FF.cons (hf.get 7 1 rfl) (FF.cons (hf.get 8 2 rfl) FF.nil))), (hS6.sel [0] rfl rfl)⟩
      · skip
        have hF4 := cf' hz1 hb1
        refine cw_skip ?_
        exact ⟨out, B1, c2, (some_inj hF4), (FF.cons (hf.get 3 0 rfl) (FF.cons (hf.get 7 1 rfl) (FF.cons (hf.get 8 2 rfl) FF.nil))), (hS3.sel [0] rfl rfl)⟩
    rintro f w ⟨out1, B2, c3, rfl, hf1, hS4⟩
    refine cw_region ?_
    refine sq 24 rfl rfl (Y_add (k := .i64) (a := (i : Int)) (b := 1) rfl (hf1.get 8 2 rfl) rfl) ?_
    refine sq 8 rfl rfl (Y_move (v := .int .i64 (IntKind.i64.wrap ((i : Int) + 1))) rfl rfl) ?_
    refine rw_nil ?_
    obtain rfl := some_inj hF2
    exact ⟨k_1, Nat.lt_succ_self _, i + 1, out1, B2, c3, (FF.cons (hf1.get 3 0 rfl) (FF.cons (hf1.get 7 1 rfl) (FF.cons (congrArg (Value.int .i64) (wr_succ hlt1 (show 32 ≤ 9223372036854775807 by decide))) FF.nil))), (hS4.sel [0] rfl rfl), (by omega), hL1⟩
  · skip
    obtain rfl : k_ = 0 := by have h := of_decide_eq_false hlt; omega
    refine cw_exit rfl ?_
    obtain rfl := some_inj hL
    refine cw_seq ?_
    refine cw_region ?_
    refine sq 25 rfl rfl (Y_move (v := .slice B1 out.length c2) rfl (hf.get 3 0 rfl)) ?_
    refine sq 2 rfl rfl (Y_assign (v := .slice B1 out.length c2) rfl rfl) ?_
    refine rw_nil ?_
    refine cw_ret ?_
    obtain rfl := some_inj hF1
    exact ret1 Try.results24 (v1 := .slice B1 out.length c2) (resAt_tmp rfl) ⟨B1, c2, rfl, (ST.subR (R' := []) (hS3.sel [0] rfl rfl) (fun _ h => by cases h))⟩

theorem c_impl_PhasePolyOf (c : TCircuit) (B : Option Addr) (c1 n : Nat) (w0 : World) (hn : c.Gates.length = n) (hS : ST w0 [] w0 [] [⟨B, (c.Gates.flatMap enc_Gate)⟩]) {r_ : TPhasePoly} {r_1 : Bool} (hF : F_impl_PhasePolyOf c = some (r_, r_1)) :
    CV Try.prog 7 #[.agg #[.int .i64 c.Qubits, .slice B n c1]] w0 (fun v w' => ∃ (B1 : Option Addr) (c2 : Nat) (B2 : Option Addr) (c3 : Nat), v = .tuple #[.agg #[.int .i64 r_.Qubits, .int .i64 r_.Phase, .slice B1 r_.Terms.length c2, .slice B2 r_.Out.Rows.length c3], .bool r_1] ∧ ST w0 [] w' [⟨B1, 67, (r_.Terms.flatMap enc_Term), c2 * 2⟩, ⟨B2, 3, (r_.Out.Rows.flatMap encI), c3 * 1⟩] []) := by
  subst hn
  unfold F_impl_PhasePolyOf at hF
  refine cv_of_cw 118 Try.func7 rfl Try.ntmps7 rfl ?_
  refine cw_seq ?_
  refine cw_region ?_
  refine ss 1 rfl rfl (Ys_box (T := 36) (v := .agg #[.int .i64 c.Qubits, .slice B c.Gates.length c1]) (cs := [.int .i64 c.Qubits, .slice B c.Gates.length c1]) (m := 2) hS rfl rfl rfl rfl) ?_
  rintro _ w_ ⟨b, rfl, hS1⟩
  refine ss 2 rfl rfl (Ys_alloc (T := 31) (cs := [.int .i64 0, .int .i64 0, .slice none 0 0, .slice none 0 0]) (m := 4) hS1 k_zero_31 rfl rfl rfl) ?_
  rintro _ w_1 ⟨b1, rfl, hS2⟩
  have hS2 : ST w0 [] _ [⟨some ⟨b, 0, none⟩, 36, [.int .i64 c.Qubits, .slice B c.Gates.length c1], 2⟩, ⟨some ⟨b1, 0, none⟩, 31, [.int .i64 0, .int .i64 0, .slice none 0 0, .slice none 0 0], 4⟩] [⟨B, (c.Gates.flatMap enc_Gate)⟩] := hS2
  refine sq 3 rfl rfl (Y_assign (v := .bool false) rfl rfl) ?_
  refine rw_nil ?_
  refine cw_seq ?_
  refine cw_seq ?_
  refine cw_region ?_
  refine sq 10 rfl rfl (Y_loadA (B := some ⟨b, 0, none⟩) (i := 0) (cs := [.int .i64 c.Qubits, .slice B c.Gates.length c1]) (vs := [.int .i64 c.Qubits, .slice B c.Gates.length c1]) k_ag_36 k_sz_36_2 rfl rfl (hS2.cf (i := 0) rfl) rfl rfl) ?_
  obtain ⟨r_2, hc, hF⟩ := bind_inv hF
  refine sc 11 rfl rfl (Yc_func (g := 20) (vs := [.agg #[.int .i64 c.Qubits, .slice B c.Gates.length c1]]) k_call_20 rfl (mc rfl mn) (c_impl_IsValidCircuit c B c1 c.Gates.length _ rfl (hS2.inn0 [(true, 0)] rfl) hc)) ?_
  rintro _ w_2 ⟨rfl, hd⟩
  have hS3 := hS2.out00 hd
  have hS3 : ST w0 [] _ [⟨some ⟨b, 0, none⟩, 36, [.int .i64 c.Qubits, .slice B c.Gates.length c1], 2⟩, ⟨some ⟨b1, 0, none⟩, 31, [.int .i64 0, .int .i64 0, .slice none 0 0, .slice none 0 0], 4⟩] [⟨B, (c.Gates.flatMap enc_Gate)⟩] := hS3
  refine sq 12 rfl rfl (Y_not (p := r_2) rfl rfl) ?_
  refine rw_nil ?_
  refine cw_cond (b := (!r_2)) rfl (fun hb => ?_) (fun hb => ?_)
  · skip
    have hF1 := ct hF hb
    refine cw_seq ?_
    refine cw_region ?_
    refine sq 13 rfl rfl (Y_buildS (zs := [.int .i64 0, .int .i64 0, .slice none 0 0, .slice none 0 0]) (vs := []) (cs := [.int .i64 0, .int .i64 0, .slice none 0 0, .slice none 0 0]) k_pl_31 k_zero_31 rfl mpn rfl) ?_
    refine ss0 rfl rfl (Ys_store (i := 1) (s := 4) (B := some ⟨b1, 0, none⟩) (T' := 31) (v := .agg #[.int .i64 0, .int .i64 0, .slice none 0 0, .slice none 0 0]) (vs := [.int .i64 0, .int .i64 0, .slice none 0 0, .slice none 0 0]) (k := 0) (cs' := [.int .i64 0, .int .i64 0, .slice none 0 0, .slice none 0 0]) hS3 k_sz_31_4 rfl rfl rfl rfl rfl rfl rfl (Nat.le_of_ble_eq_true rfl) rfl rfl) ?_
    rintro _ w_3 ⟨rfl, hS4⟩
    have hS4 : ST w0 [] _ [⟨some ⟨b, 0, none⟩, 36, [.int .i64 c.Qubits, .slice B c.Gates.length c1], 2⟩, ⟨some ⟨b1, 0, none⟩, 31, [.int .i64 0, .int .i64 0, .slice none 0 0, .slice none 0 0], 4⟩] [⟨B, (c.Gates.flatMap enc_Gate)⟩] := hS4
    refine sq 3 rfl rfl (Y_assign (v := .bool false) rfl rfl) ?_
    refine rw_nil ?_
    refine cw_ret ?_
    have hS5 := hS4.addNil 67
    have hS6 := hS5.addNil 3
    obtain ⟨rfl, rfl⟩ := pr2 (some_inj hF1)
    exact ret2 Try.results7 (v1 := .agg #[.int .i64 0, .int .i64 0, .slice none 0 0, .slice none 0 0]) (resAt_cellA (B := some ⟨b1, 0, none⟩) (i := 0) (cs := [.int .i64 0, .int .i64 0, .slice none 0 0, .slice none 0 0]) (vs := [.int .i64 0, .int .i64 0, .slice none 0 0, .slice none 0 0]) rfl k_ag_31 k_sz_31_4 (hS6.cf (i := 1) rfl) rfl rfl) (v2 := .bool false) (resAt_tmp rfl) ⟨none, 0, none, 0, rfl, (ST.subR (R' := []) (hS6.sel [2, 3] rfl rfl) (fun _ h => by cases h))⟩
  · skip
    have hF2 := cf' hF hb
    refine cw_skip ?_
    refine cw_seq ?_
    obtain ⟨r_3, hc1, hF2⟩ := bind_inv hF2
    refine cw_mid (fun f w => ∃ (B4 : Option Addr) (B5 : Option Addr) (c5 : Nat) (B6 : Option Addr), FF f [(1, pt (some ⟨b, 0, none⟩) 0), (2, pt (some ⟨b1, 0, none⟩) 0), (4, pt B4 0), (5, pt B6 0)] ∧ ST w0 [] w [⟨some ⟨b, 0, none⟩, 36, [.int .i64 c.Qubits, .slice B c.Gates.length c1], 2⟩, ⟨some ⟨b1, 0, none⟩, 31, [.int .i64 0, .int .i64 0, .slice none 0 0, .slice none 0 0], 4⟩, ⟨B4, 31, [.int .i64 c.Qubits, .int .i64 0, .slice none 0 0, .slice B5 r_3.Rows.length c5], 4⟩, ⟨B5, 3, (r_3.Rows.flatMap encI), c5 * 1⟩, ⟨B6, 54, ((List.replicate 32 0).flatMap encI), 32⟩] [⟨B, (c.Gates.flatMap enc_Gate)⟩]) ?_ ?_
    · skip
      refine ra_start (ST.sel hS3 [0, 1] rfl rfl).fn (by kernel_rfl) ?_
      have hS9 := hS3.drew
      refine ra_q 0 14 (v := pt (some ⟨b, 0, none⟩) 0) rfl rfl rfl (by kernel_rfl) (by kernel_rfl) (by kernel_rfl) (ST.sel hS9 [0, 1] rfl rfl) (fun w' hw' => (Y_fieldAddr (B := some ⟨b, 0, none⟩) (i := 0) (s := 0) k_fd_36_0_0_3 k_sz_3_1 rfl rfl)) ?_
      refine ra_q 1 15 (v := .int .i64 c.Qubits) rfl rfl rfl (by kernel_rfl) (by kernel_rfl) (by kernel_rfl) (ST.sel hS9 [0, 1] rfl rfl) (fun w' hw' => (Y_load1 (B := some ⟨b, 0, none⟩) (i := 0) (cs := [.int .i64 c.Qubits, .slice B c.Gates.length c1]) (v := .int .i64 c.Qubits) k_sc_3 rfl rfl (ST.cf hw' (i := 0) rfl) rfl)) ?_
      refine ra_q 2 16 (v := pt (some ⟨b, 0, none⟩) 0) rfl rfl rfl (by kernel_rfl) (by kernel_rfl) (by kernel_rfl) (ST.sel hS9 [0, 1] rfl rfl) (fun w' hw' => (Y_fieldAddr (B := some ⟨b, 0, none⟩) (i := 0) (s := 0) k_fd_36_0_0_3 k_sz_3_1 rfl rfl)) ?_
      refine ra_q 3 17 (v := .int .i64 c.Qubits) rfl rfl rfl (by kernel_rfl) (by kernel_rfl) (by kernel_rfl) (ST.sel hS9 [0, 1] rfl rfl) (fun w' hw' => (Y_load1 (B := some ⟨b, 0, none⟩) (i := 0) (cs := [.int .i64 c.Qubits, .slice B c.Gates.length c1]) (v := .int .i64 c.Qubits) k_sc_3 rfl rfl (ST.cf hw' (i := 0) rfl) rfl)) ?_
      refine ra_q 6 20 (v := .agg ((List.replicate 32 0).flatMap encI).toArray) rfl rfl rfl (by kernel_rfl) (by kernel_rfl) (by kernel_rfl) (ST.sel hS9 [0, 1] rfl rfl) (fun w' hw' => (show Y _ _ _ _ _ (.agg ((List.replicate 32 0).flatMap encI).toArray) from Y_buildA (zs := [.int .i64 0, .int .i64 0, .int .i64 0, .int .i64 0, .int .i64 0, .int .i64 0, .int .i64 0, .int .i64 0, .int .i64 0, .int .i64 0, .int .i64 0, .int .i64 0, .int .i64 0, .int .i64 0, .int .i64 0, .int .i64 0, .int .i64 0, .int .i64 0, .int .i64 0, .int .i64 0, .int .i64 0, .int .i64 0, .int .i64 0, .int .i64 0, .int .i64 0, .int .i64 0, .int .i64 0, .int .i64 0, .int .i64 0, .int .i64 0, .int .i64 0, .int .i64 0]) (vs := []) (cs := [.int .i64 0, .int .i64 0, .int .i64 0, .int .i64 0, .int .i64 0, .int .i64 0, .int .i64 0, .int .i64 0, .int .i64 0, .int .i64 0, .int .i64 0, .int .i64 0, .int .i64 0, .int .i64 0, .int .i64 0, .int .i64 0, .int .i64 0, .int .i64 0, .int .i64 0, .int .i64 0, .int .i64 0, .int .i64 0, .int .i64 0, .int .i64 0, .int .i64 0, .int .i64 0, .int .i64 0, .int .i64 0, .int .i64 0, .int .i64 0, .int .i64 0, .int .i64 0]) k_ar_54_32_3 k_sz_3_1 k_zero_54 rfl rfl rfl)) ?_
      refine ra_all (rs := [4, 7, 8]) (by kernel_rfl) rfl ?_
      refine ra_c 18 (i := 4) rfl rfl rfl (Yc_func (g := 21) (vs := [.int .i64 c.Qubits]) k_call_21 rfl (mc rfl mn) (c_impl_identityLinear c.Qubits _  (hS9.inn0 [] rfl) hc1)) ?_ ?_
      · rintro _ w_4 ⟨B3, c4, rfl, hd1⟩
        have hS10 := hS9.out0 hd1
        have hS10 : ST w0 [] _ [⟨some ⟨b, 0, none⟩, 36, [.int .i64 c.Qubits, .slice B c.Gates.length c1], 2⟩, ⟨some ⟨b1, 0, none⟩, 31, [.int .i64 0, .int .i64 0, .slice none 0 0, .slice none 0 0], 4⟩, ⟨B3, 3, (r_3.Rows.flatMap encI), c4 * 1⟩] [⟨B, (c.Gates.flatMap enc_Gate)⟩] := hS10
        refine ⟨(ST.sel hS10 [0, 1] rfl rfl), ?_⟩
        refine ra_q 5 19 (v := .agg #[.int .i64 c.Qubits, .int .i64 0, .slice none 0 0, .slice B3 r_3.Rows.length c4]) rfl rfl rfl (by kernel_rfl) (by kernel_rfl) (by kernel_rfl) (ST.sel hS10 [0, 1] rfl rfl) (fun w' hw' => (Y_buildS (zs := [.int .i64 0, .int .i64 0, .slice none 0 0, .slice none 0 0]) (vs := [(0, .int .i64 c.Qubits), (3, .agg #[.slice B3 r_3.Rows.length c4])]) (cs := [.int .i64 c.Qubits, .int .i64 0, .slice none 0 0, .slice B3 r_3.Rows.length c4]) k_pl_31 k_zero_31 rfl (mpc rfl (mpc rfl mpn)) rfl)) ?_
        refine ra_all (rs := [7, 8]) (by kernel_rfl) rfl ?_
        refine ra_s 4 (i := 7) rfl rfl rfl (Ys_alloc (T := 31) (cs := [.int .i64 0, .int .i64 0, .slice none 0 0, .slice none 0 0]) (m := 4) hS10 k_zero_31 rfl rfl rfl) ?_ ?_
        · rintro _ w_5 ⟨b2, rfl, hS11⟩
          have hS11 : ST w0 [] _ [⟨some ⟨b, 0, none⟩, 36, [.int .i64 c.Qubits, .slice B c.Gates.length c1], 2⟩, ⟨some ⟨b1, 0, none⟩, 31, [.int .i64 0, .int .i64 0, .slice none 0 0, .slice none 0 0], 4⟩, ⟨B3, 3, (r_3.Rows.flatMap encI), c4 * 1⟩, ⟨some ⟨b2, 0, none⟩, 31, [.int .i64 0, .int .i64 0, .slice none 0 0, .slice none 0 0], 4⟩] [⟨B, (c.Gates.flatMap enc_Gate)⟩] := hS11
          refine ⟨(ST.sel hS11 [0, 1] rfl rfl), ?_⟩
          refine ra_all (rs := [8]) (by kernel_rfl) rfl ?_
          refine ra_s 5 (i := 8) rfl rfl rfl (Ys_alloc (T := 54) (cs := ((List.replicate 32 0).flatMap encI)) (m := 32) hS11 k_zero_54 rfl rfl rfl) ?_ ?_
          · rintro _ w_6 ⟨b3, rfl, hS12⟩
            have hS12 : ST w0 [] _ [⟨some ⟨b, 0, none⟩, 36, [.int .i64 c.Qubits, .slice B c.Gates.length c1], 2⟩, ⟨some ⟨b1, 0, none⟩, 31, [.int .i64 0, .int .i64 0, .slice none 0 0, .slice none 0 0], 4⟩, ⟨B3, 3, (r_3.Rows.flatMap encI), c4 * 1⟩, ⟨some ⟨b2, 0, none⟩, 31, [.int .i64 0, .int .i64 0, .slice none 0 0, .slice none 0 0], 4⟩, ⟨some ⟨b3, 0, none⟩, 54, ((List.replicate 32 0).flatMap encI), 32⟩] [⟨B, (c.Gates.flatMap enc_Gate)⟩] := hS12
            refine ⟨(ST.sel hS12 [0, 1] rfl rfl), ?_⟩
            refine ra_all (rs := [9]) (by kernel_rfl) rfl ?_
            refine ra_s0 (i := 9) rfl rfl rfl (Ys_store (i := 3) (s := 4) (B := some ⟨b2, 0, none⟩) (T' := 31) (v := .agg #[.int .i64 c.Qubits, .int .i64 0, .slice none 0 0, .slice B3 r_3.Rows.length c4]) (vs := [.int .i64 c.Qubits, .int .i64 0, .slice none 0 0, .slice B3 r_3.Rows.length c4]) (k := 0) (cs' := [.int .i64 c.Qubits, .int .i64 0, .slice none 0 0, .slice B3 r_3.Rows.length c4]) hS12 k_sz_31_4 rfl rfl rfl rfl rfl rfl rfl (Nat.le_of_ble_eq_true rfl) rfl rfl) ?_ ?_
            · rintro _ w_7 ⟨rfl, hS13⟩
              have hS13 : ST w0 [] _ [⟨some ⟨b, 0, none⟩, 36, [.int .i64 c.Qubits, .slice B c.Gates.length c1], 2⟩, ⟨some ⟨b1, 0, none⟩, 31, [.int .i64 0, .int .i64 0, .slice none 0 0, .slice none 0 0], 4⟩, ⟨B3, 3, (r_3.Rows.flatMap encI), c4 * 1⟩, ⟨some ⟨b2, 0, none⟩, 31, [.int .i64 c.Qubits, .int .i64 0, .slice none 0 0, .slice B3 r_3.Rows.length c4], 4⟩, ⟨some ⟨b3, 0, none⟩, 54, ((List.replicate 32 0).flatMap encI), 32⟩] [⟨B, (c.Gates.flatMap enc_Gate)⟩] := hS13
              refine ⟨(ST.sel hS13 [0, 1] rfl rfl), ?_⟩
              refine ra_all (rs := [10]) (by kernel_rfl) rfl ?_
              refine ra_s0 (i := 10) rfl rfl rfl (Ys_store (i := 4) (s := 32) (B := some ⟨b3, 0, none⟩) (T' := 54) (v := .agg ((List.replicate 32 0).flatMap encI).toArray) (vs := ((List.replicate 32 0).flatMap encI)) (k := 0) (cs' := ((List.replicate 32 0).flatMap encI)) hS13 k_sz_54_32 rfl rfl rfl rfl (fm_lenn2 encI_len (List.length_replicate (n := 32)) rfl) (fm_one' encI_one _) rfl (fm_fit encI_len (List.length_replicate (n := 32)) rfl) (fm_spl encI_len (List.length_replicate (n := 32)) (List.length_replicate (n := 32))) rfl) ?_ ?_
              · rintro _ w_8 ⟨rfl, hS14⟩
                have hS14 : ST w0 [] _ [⟨some ⟨b, 0, none⟩, 36, [.int .i64 c.Qubits, .slice B c.Gates.length c1], 2⟩, ⟨some ⟨b1, 0, none⟩, 31, [.int .i64 0, .int .i64 0, .slice none 0 0, .slice none 0 0], 4⟩, ⟨B3, 3, (r_3.Rows.flatMap encI), c4 * 1⟩, ⟨some ⟨b2, 0, none⟩, 31, [.int .i64 c.Qubits, .int .i64 0, .slice none 0 0, .slice B3 r_3.Rows.length c4], 4⟩, ⟨some ⟨b3, 0, none⟩, 54, ((List.replicate 32 0).flatMap encI), 32⟩] [⟨B, (c.Gates.flatMap enc_Gate)⟩] := hS14
                refine ⟨(ST.sel hS14 [0, 1] rfl rfl), ?_⟩
                refine ra_done (by kernel_rfl) ?_
                exact ⟨some ⟨b2, 0, none⟩, B3, c4, some ⟨b3, 0, none⟩, (FF.cons rfl (FF.cons rfl (FF.cons rfl (FF.cons rfl FF.nil)))), (hS14.sel [0, 1, 3, 2, 4] rfl rfl)⟩
              exact allR_nil
            exact allR_nil
          exact allR_nil
        refine ra_s 5 (i := 8) rfl rfl rfl (Ys_alloc (T := 54) (cs := ((List.replicate 32 0).flatMap encI)) (m := 32) hS10 k_zero_54 rfl rfl rfl) ?_ ?_
        · rintro _ w_9 ⟨b3, rfl, hS15⟩
          have hS15 : ST w0 [] _ [⟨some ⟨b, 0, none⟩, 36, [.int .i64 c.Qubits, .slice B c.Gates.length c1], 2⟩, ⟨some ⟨b1, 0, none⟩, 31, [.int .i64 0, .int .i64 0, .slice none 0 0, .slice none 0 0], 4⟩, ⟨B3, 3, (r_3.Rows.flatMap encI), c4 * 1⟩, ⟨some ⟨b3, 0, none⟩, 54, ((List.replicate 32 0).flatMap encI), 32⟩] [⟨B, (c.Gates.flatMap enc_Gate)⟩] := hS15
          refine ⟨(ST.sel hS15 [0, 1] rfl rfl), ?_⟩
          refine ra_all (rs := [7]) (by kernel_rfl) rfl ?_
          refine ra_s 4 (i := 7) rfl rfl rfl (Ys_alloc (T := 31) (cs := [.int .i64 0, .int .i64 0, .slice none 0 0, .slice none 0 0]) (m := 4) hS15 k_zero_31 rfl rfl rfl) ?_ ?_
          · rintro _ w_10 ⟨b2, rfl, hS16⟩
            have hS16 : ST w0 [] _ [⟨some ⟨b, 0, none⟩, 36, [.int .i64 c.Qubits, .slice B c.Gates.length c1], 2⟩, ⟨some ⟨b1, 0, none⟩, 31, [.int .i64 0, .int .i64 0, .slice none 0 0, .slice none 0 0], 4⟩, ⟨B3, 3, (r_3.Rows.flatMap encI), c4 * 1⟩, ⟨some ⟨b3, 0, none⟩, 54, ((List.replicate 32 0).flatMap encI), 32⟩, ⟨some ⟨b2, 0, none⟩, 31, [.int .i64 0, .int .i64 0, .slice none 0 0, .slice none 0 0], 4⟩] [⟨B, (c.Gates.flatMap enc_Gate)⟩] := hS16
            refine ⟨(ST.sel hS16 [0, 1] rfl rfl), ?_⟩
            refine ra_all (rs := [9]) (by kernel_rfl) rfl ?_
            refine ra_s0 (i := 9) rfl rfl rfl (Ys_store (i := 4) (s := 4) (B := some ⟨b2, 0, none⟩) (T' := 31) (v := .agg #[.int .i64 c.Qubits, .int .i64 0, .slice none 0 0, .slice B3 r_3.Rows.length c4]) (vs := [.int .i64 c.Qubits, .int .i64 0, .slice none 0 0, .slice B3 r_3.Rows.length c4]) (k := 0) (cs' := [.int .i64 c.Qubits, .int .i64 0, .slice none 0 0, .slice B3 r_3.Rows.length c4]) hS16 k_sz_31_4 rfl rfl rfl rfl rfl rfl rfl (Nat.le_of_ble_eq_true rfl) rfl rfl) ?_ ?_
            · rintro _ w_11 ⟨rfl, hS17⟩
              have hS17 : ST w0 [] _ [⟨some ⟨b, 0, none⟩, 36, [.int .i64 c.Qubits, .slice B c.Gates.length c1], 2⟩, ⟨some ⟨b1, 0, none⟩, 31, [.int .i64 0, .int .i64 0, .slice none 0 0, .slice none 0 0], 4⟩, ⟨B3, 3, (r_3.Rows.flatMap encI), c4 * 1⟩, ⟨some ⟨b3, 0, none⟩, 54, ((List.replicate 32 0).flatMap encI), 32⟩, ⟨some ⟨b2, 0, none⟩, 31, [.int .i64 c.Qubits, .int .i64 0, .slice none 0 0, .slice B3 r_3.Rows.length c4], 4⟩] [⟨B, (c.Gates.flatMap enc_Gate)⟩] := hS17
              refine ⟨(ST.sel hS17 [0, 1] rfl rfl), ?_⟩
              refine ra_all (rs := [10]) (by kernel_rfl) rfl ?_
              refine ra_s0 (i := 10) rfl rfl rfl (Ys_store (i := 3) (s := 32) (B := some ⟨b3, 0, none⟩) (T' := 54) (v := .agg ((List.replicate 32 0).flatMap encI).toArray) (vs := ((List.replicate 32 0).flatMap encI)) (k := 0) (cs' := ((List.replicate 32 0).flatMap encI)) hS17 k_sz_54_32 rfl rfl rfl rfl (fm_lenn2 encI_len (List.length_replicate (n := 32)) rfl) (fm_one' encI_one _) rfl (fm_fit encI_len (List.length_replicate (n := 32)) rfl) (fm_spl encI_len (List.length_replicate (n := 32)) (List.length_replicate (n := 32))) rfl) ?_ ?_
              · rintro _ w_12 ⟨rfl, hS18⟩
                have hS18 : ST w0 [] _ [⟨some ⟨b, 0, none⟩, 36, [.int .i64 c.Qubits, .slice B c.Gates.length c1], 2⟩, ⟨some ⟨b1, 0, none⟩, 31, [.int .i64 0, .int .i64 0, .slice none 0 0, .slice none 0 0], 4⟩, ⟨B3, 3, (r_3.Rows.flatMap encI), c4 * 1⟩, ⟨some ⟨b3, 0, none⟩, 54, ((List.replicate 32 0).flatMap encI), 32⟩, ⟨some ⟨b2, 0, none⟩, 31, [.int .i64 c.Qubits, .int .i64 0, .slice none 0 0, .slice B3 r_3.Rows.length c4], 4⟩] [⟨B, (c.Gates.flatMap enc_Gate)⟩] := hS18
                refine ⟨(ST.sel hS18 [0, 1] rfl rfl), ?_⟩
                refine ra_done (by kernel_rfl) ?_
                exact ⟨some ⟨b2, 0, none⟩, B3, c4, some ⟨b3, 0, none⟩, (FF.cons rfl (FF.cons rfl (FF.cons rfl (FF.cons rfl FF.nil)))), (hS18.sel [0, 1, 4, 2, 3] rfl rfl)⟩
              exact allR_nil
            exact allR_nil
          exact allR_nil
        exact allR_nil
      refine ra_s 4 (i := 7) rfl rfl rfl (Ys_alloc (T := 31) (cs := [.int .i64 0, .int .i64 0, .slice none 0 0, .slice none 0 0]) (m := 4) hS9 k_zero_31 rfl rfl rfl) ?_ ?_
      · rintro _ w_13 ⟨b2, rfl, hS19⟩
        have hS19 : ST w0 [] _ [⟨some ⟨b, 0, none⟩, 36, [.int .i64 c.Qubits, .slice B c.Gates.length c1], 2⟩, ⟨some ⟨b1, 0, none⟩, 31, [.int .i64 0, .int .i64 0, .slice none 0 0, .slice none 0 0], 4⟩, ⟨some ⟨b2, 0, none⟩, 31, [.int .i64 0, .int .i64 0, .slice none 0 0, .slice none 0 0], 4⟩] [⟨B, (c.Gates.flatMap enc_Gate)⟩] := hS19
        refine ⟨(ST.sel hS19 [0, 1] rfl rfl), ?_⟩
        refine ra_all (rs := [4, 8]) (by kernel_rfl) rfl ?_
        refine ra_c 18 (i := 4) rfl rfl rfl (Yc_func (g := 21) (vs := [.int .i64 c.Qubits]) k_call_21 rfl (mc rfl mn) (c_impl_identityLinear c.Qubits _  (hS19.inn0 [] rfl) hc1)) ?_ ?_
        · rintro _ w_14 ⟨B3, c4, rfl, hd2⟩
          have hS20 := hS19.out0 hd2
          have hS20 : ST w0 [] _ [⟨some ⟨b, 0, none⟩, 36, [.int .i64 c.Qubits, .slice B c.Gates.length c1], 2⟩, ⟨some ⟨b1, 0, none⟩, 31, [.int .i64 0, .int .i64 0, .slice none 0 0, .slice none 0 0], 4⟩, ⟨some ⟨b2, 0, none⟩, 31, [.int .i64 0, .int .i64 0, .slice none 0 0, .slice none 0 0], 4⟩, ⟨B3, 3, (r_3.Rows.flatMap encI), c4 * 1⟩] [⟨B, (c.Gates.flatMap enc_Gate)⟩] := hS20
          refine ⟨(ST.sel hS20 [0, 1] rfl rfl), ?_⟩
          refine ra_q 5 19 (v := .agg #[.int .i64 c.Qubits, .int .i64 0, .slice none 0 0, .slice B3 r_3.Rows.length c4]) rfl rfl rfl (by kernel_rfl) (by kernel_rfl) (by kernel_rfl) (ST.sel hS20 [0, 1] rfl rfl) (fun w' hw' => (Y_buildS (zs := [.int .i64 0, .int .i64 0, .slice none 0 0, .slice none 0 0]) (vs := [(0, .int .i64 c.Qubits), (3, .agg #[.slice B3 r_3.Rows.length c4])]) (cs := [.int .i64 c.Qubits, .int .i64 0, .slice none 0 0, .slice B3 r_3.Rows.length c4]) k_pl_31 k_zero_31 rfl (mpc rfl (mpc rfl mpn)) rfl)) ?_
          refine ra_all (rs := [8]) (by kernel_rfl) rfl ?_
          refine ra_s 5 (i := 8) rfl rfl rfl (Ys_alloc (T := 54) (cs := ((List.replicate 32 0).flatMap encI)) (m := 32) hS20 k_zero_54 rfl rfl rfl) ?_ ?_
          · rintro _ w_15 ⟨b3, rfl, hS21⟩
            have hS21 : ST w0 [] _ [⟨some ⟨b, 0, none⟩, 36, [.int .i64 c.Qubits, .slice B c.Gates.length c1], 2⟩, ⟨some ⟨b1, 0, none⟩, 31, [.int .i64 0, .int .i64 0, .slice none 0 0, .slice none 0 0], 4⟩, ⟨some ⟨b2, 0, none⟩, 31, [.int .i64 0, .int .i64 0, .slice none 0 0, .slice none 0 0], 4⟩, ⟨B3, 3, (r_3.Rows.flatMap encI), c4 * 1⟩, ⟨some ⟨b3, 0, none⟩, 54, ((List.replicate 32 0).flatMap encI), 32⟩] [⟨B, (c.Gates.flatMap enc_Gate)⟩] := hS21
            refine ⟨(ST.sel hS21 [0, 1] rfl rfl), ?_⟩
            refine ra_all (rs := [9]) (by kernel_rfl) rfl ?_
            refine ra_s0 (i := 9) rfl rfl rfl (Ys_store (i := 2) (s := 4) (B := some ⟨b2, 0, none⟩) (T' := 31) (v := .agg #[.int .i64 c.Qubits, .int .i64 0, .slice none 0 0, .slice B3 r_3.Rows.length c4]) (vs := [.int .i64 c.Qubits, .int .i64 0, .slice none 0 0, .slice B3 r_3.Rows.length c4]) (k := 0) (cs' := [.int .i64 c.Qubits, .int .i64 0, .slice none 0 0, .slice B3 r_3.Rows.length c4]) hS21 k_sz_31_4 rfl rfl rfl rfl rfl rfl rfl (Nat.le_of_ble_eq_true rfl) rfl rfl) ?_ ?_
            · rintro _ w_16 ⟨rfl, hS22⟩
              have hS22 : ST w0 [] _ [⟨some ⟨b, 0, none⟩, 36, [.int .i64 c.Qubits, .slice B c.Gates.length c1], 2⟩, ⟨some ⟨b1, 0, none⟩, 31, [.int .i64 0, .int .i64 0, .slice none 0 0, .slice none 0 0], 4⟩, ⟨some ⟨b2, 0, none⟩, 31, [.int .i64 c.Qubits, .int .i64 0, .slice none 0 0, .slice B3 r_3.Rows.length c4], 4⟩, ⟨B3, 3, (r_3.Rows.flatMap encI), c4 * 1⟩, ⟨some ⟨b3, 0, none⟩, 54, ((List.replicate 32 0).flatMap encI), 32⟩] [⟨B, (c.Gates.flatMap enc_Gate)⟩] := hS22
              refine ⟨(ST.sel hS22 [0, 1] rfl rfl), ?_⟩
              refine ra_all (rs := [10]) (by kernel_rfl) rfl ?_
              refine ra_s0 (i := 10) rfl rfl rfl (Ys_store (i := 4) (s := 32) (B := some ⟨b3, 0, none⟩) (T' := 54) (v := .agg ((List.replicate 32 0).flatMap encI).toArray) (vs := ((List.replicate 32 0).flatMap encI)) (k := 0) (cs' := ((List.replicate 32 0).flatMap encI)) hS22 k_sz_54_32 rfl rfl rfl rfl (fm_lenn2 encI_len (List.length_replicate (n := 32)) rfl) (fm_one' encI_one _) rfl (fm_fit encI_len (List.length_replicate (n := 32)) rfl) (fm_spl encI_len (List.length_replicate (n := 32)) (List.length_replicate (n := 32))) rfl) ?_ ?_
              · rintro _ w_17 ⟨rfl, hS23⟩
                have hS23 : ST w0 [] _ [⟨some ⟨b, 0, none⟩, 36, [.int .i64 c.Qubits, .slice B c.Gates.length c1], 2⟩, ⟨some ⟨b1, 0, none⟩, 31, [.int .i64 0, .int .i64 0, .slice none 0 0, .slice none 0 0], 4⟩, ⟨some ⟨b2, 0, none⟩, 31, [.int .i64 c.Qubits, .int .i64 0, .slice none 0 0, .slice B3 r_3.Rows.length c4], 4⟩, ⟨B3, 3, (r_3.Rows.flatMap encI), c4 * 1⟩, ⟨some ⟨b3, 0, none⟩, 54, ((List.replicate 32 0).flatMap encI), 32⟩] [⟨B, (c.Gates.flatMap enc_Gate)⟩] := hS23
                refine ⟨(ST.sel hS23 [0, 1] rfl rfl), ?_⟩
                refine ra_done (by kernel_rfl) ?_
                exact ⟨some ⟨b2, 0, none⟩, B3, c4, some ⟨b3, 0, none⟩, (FF.cons rfl (FF.cons rfl (FF.cons rfl (FF.cons rfl FF.nil)))), (hS23.sel [0, 1, 2, 3, 4] rfl rfl)⟩
              exact allR_nil
            exact allR_nil
          exact allR_nil
        refine ra_s 5 (i := 8) rfl rfl rfl (Ys_alloc (T := 54) (cs := ((List.replicate 32 0).flatMap encI)) (m := 32) hS19 k_zero_54 rfl rfl rfl) ?_ ?_
        · rintro _ w_18 ⟨b3, rfl, hS24⟩
          have hS24 : ST w0 [] _ [⟨some ⟨b, 0, none⟩, 36, [.int .i64 c.Qubits, .slice B c.Gates.length c1], 2⟩, ⟨some ⟨b1, 0, none⟩, 31, [.int .i64 0, .int .i64 0, .slice none 0 0, .slice none 0 0], 4⟩, ⟨some ⟨b2, 0, none⟩, 31, [.int .i64 0, .int .i64 0, .slice none 0 0, .slice none 0 0], 4⟩, ⟨some ⟨b3, 0, none⟩, 54, ((List.replicate 32 0).flatMap encI), 32⟩] [⟨B, (c.Gates.flatMap enc_Gate)⟩] := hS24
          refine ⟨(ST.sel hS24 [0, 1] rfl rfl), ?_⟩
          refine ra_all (rs := [4]) (by kernel_rfl) rfl ?_
          refine ra_c 18 (i := 4) rfl rfl rfl (Yc_func (g := 21) (vs := [.int .i64 c.Qubits]) k_call_21 rfl (mc rfl mn) (c_impl_identityLinear c.Qubits _  (hS24.inn0 [] rfl) hc1)) ?_ ?_
          · rintro _ w_19 ⟨B3, c4, rfl, hd3⟩
            have hS25 := hS24.out0 hd3
            have hS25 : ST w0 [] _ [⟨some ⟨b, 0, none⟩, 36, [.int .i64 c.Qubits, .slice B c.Gates.length c1], 2⟩, ⟨some ⟨b1, 0, none⟩, 31, [.int .i64 0, .int .i64 0, .slice none 0 0, .slice none 0 0], 4⟩, ⟨some ⟨b2, 0, none⟩, 31, [.int .i64 0, .int .i64 0, .slice none 0 0, .slice none 0 0], 4⟩, ⟨some ⟨b3, 0, none⟩, 54, ((List.replicate 32 0).flatMap encI), 32⟩, ⟨B3, 3, (r_3.Rows.flatMap encI), c4 * 1⟩] [⟨B, (c.Gates.flatMap enc_Gate)⟩] := hS25
            refine ⟨(ST.sel hS25 [0, 1] rfl rfl), ?_⟩
            refine ra_q 5 19 (v := .agg #[.int .i64 c.Qubits, .int .i64 0, .slice none 0 0, .slice B3 r_3.Rows.length c4]) rfl rfl rfl (by kernel_rfl) (by kernel_rfl) (by kernel_rfl) (ST.sel hS25 [0, 1] rfl rfl) (fun w' hw' => (Y_buildS (zs := [.int .i64 0, .int .i64 0, .slice none 0 0, .slice none 0 0]) (vs := [(0, .int .i64 c.Qubits), (3, .agg #[.slice B3 r_3.Rows.length c4])]) (cs := [.int .i64 c.Qubits, .int .i64 0, .slice none 0 0, .slice B3 r_3.Rows.length c4]) k_pl_31 k_zero_31 rfl (mpc rfl (mpc rfl mpn)) rfl)) ?_
            refine ra_all (rs := [9]) (by kernel_rfl) rfl ?_
            refine ra_s0 (i := 9) rfl rfl rfl (Ys_store (i := 2) (s := 4) (B := some ⟨b2, 0, none⟩) (T' := 31) (v := .agg #[.int .i64 c.Qubits, .int .i64 0, .slice none 0 0, .slice B3 r_3.Rows.length c4]) (vs := [.int .i64 c.Qubits, .int .i64 0, .slice none 0 0, .slice B3 r_3.Rows.length c4]) (k := 0) (cs' := [.int .i64 c.Qubits, .int .i64 0, .slice none 0 0, .slice B3 r_3.Rows.length c4]) hS25 k_sz_31_4 rfl rfl rfl rfl rfl rfl rfl (Nat.le_of_ble_eq_true rfl) rfl rfl) ?_ ?_
            · rintro _ w_20 ⟨rfl, hS26⟩
              have hS26 : ST w0 [] _ [⟨some ⟨b, 0, none⟩, 36, [.int .i64 c.Qubits, .slice B c.Gates.length c1], 2⟩, ⟨some ⟨b1, 0, none⟩, 31, [.int .i64 0, .int .i64 0, .slice none 0 0, .slice none 0 0], 4⟩, ⟨some ⟨b2, 0, none⟩, 31, [.int .i64 c.Qubits, .int .i64 0, .slice none 0 0, .slice B3 r_3.Rows.length c4], 4⟩, ⟨some ⟨b3, 0, none⟩, 54, ((List.replicate 32 0).flatMap encI), 32⟩, ⟨B3, 3, (r_3.Rows.flatMap encI), c4 * 1⟩] [⟨B, (c.Gates.flatMap enc_Gate)⟩] := hS26
              refine ⟨(ST.sel hS26 [0, 1] rfl rfl), ?_⟩
              refine ra_all (rs := [10]) (by kernel_rfl) rfl ?_
              refine ra_s0 (i := 10) rfl rfl rfl (Ys_store (i := 3) (s := 32) (B := some ⟨b3, 0, none⟩) (T' := 54) (v := .agg ((List.replicate 32 0).flatMap encI).toArray) (vs := ((List.replicate 32 0).flatMap encI)) (k := 0) (cs' := ((List.replicate 32 0).flatMap encI)) hS26 k_sz_54_32 rfl rfl rfl rfl (fm_lenn2 encI_len (List.length_replicate (n := 32)) rfl) (fm_one' encI_one _) rfl (fm_fit encI_len (List.length_replicate (n := 32)) rfl) (fm_spl encI_len (List.length_replicate (n := 32)) (List.length_replicate (n := 32))) rfl) ?_ ?_
              · rintro _ w_21 ⟨rfl, hS27⟩
                have hS27 : ST w0 [] _ [⟨some ⟨b, 0, none⟩, 36, [.int .i64 c.Qubits, .slice B c.Gates.length c1], 2⟩, ⟨some ⟨b1, 0, none⟩, 31, [.int .i64 0, .int .i64 0, .slice none 0 0, .slice none 0 0], 4⟩, ⟨some ⟨b2, 0, none⟩, 31, [.int .i64 c.Qubits, .int .i64 0, .slice none 0 0, .slice B3 r_3.Rows.length c4], 4⟩, ⟨some ⟨b3, 0, none⟩, 54, ((List.replicate 32 0).flatMap encI), 32⟩, ⟨B3, 3, (r_3.Rows.flatMap encI), c4 * 1⟩] [⟨B, (c.Gates.flatMap enc_Gate)⟩] := hS27
                refine ⟨(ST.sel hS27 [0, 1] rfl rfl), ?_⟩
                refine ra_done (by kernel_rfl) ?_
                exact ⟨some ⟨b2, 0, none⟩, B3, c4, some ⟨b3, 0, none⟩, (FF.cons rfl (FF.cons rfl (FF.cons rfl (FF.cons rfl FF.nil)))), (hS27.sel [0, 1, 2, 4, 3] rfl rfl)⟩
              exact allR_nil
            exact allR_nil
          exact allR_nil
        exact allR_nil
      refine ra_s 5 (i := 8) rfl rfl rfl (Ys_alloc (T := 54) (cs := ((List.replicate 32 0).flatMap encI)) (m := 32) hS9 k_zero_54 rfl rfl rfl) ?_ ?_
      · rintro _ w_22 ⟨b3, rfl, hS28⟩
        have hS28 : ST w0 [] _ [⟨some ⟨b, 0, none⟩, 36, [.int .i64 c.Qubits, .slice B c.Gates.length c1], 2⟩, ⟨some ⟨b1, 0, none⟩, 31, [.int .i64 0, .int .i64 0, .slice none 0 0, .slice none 0 0], 4⟩, ⟨some ⟨b3, 0, none⟩, 54, ((List.replicate 32 0).flatMap encI), 32⟩] [⟨B, (c.Gates.flatMap enc_Gate)⟩] := hS28
        refine ⟨(ST.sel hS28 [0, 1] rfl rfl), ?_⟩
        refine ra_all (rs := [4, 7]) (by kernel_rfl) rfl ?_
        refine ra_c 18 (i := 4) rfl rfl rfl (Yc_func (g := 21) (vs := [.int .i64 c.Qubits]) k_call_21 rfl (mc rfl mn) (c_impl_identityLinear c.Qubits _  (hS28.inn0 [] rfl) hc1)) ?_ ?_
        · rintro _ w_23 ⟨B3, c4, rfl, hd4⟩
          have hS29 := hS28.out0 hd4
          have hS29 : ST w0 [] _ [⟨some ⟨b, 0, none⟩, 36, [.int .i64 c.Qubits, .slice B c.Gates.length c1], 2⟩, ⟨some ⟨b1, 0, none⟩, 31, [.int .i64 0, .int .i64 0, .slice none 0 0, .slice none 0 0], 4⟩, ⟨some ⟨b3, 0, none⟩, 54, ((List.replicate 32 0).flatMap encI), 32⟩, ⟨B3, 3, (r_3.Rows.flatMap encI), c4 * 1⟩] [⟨B, (c.Gates.flatMap enc_Gate)⟩] := hS29
          refine ⟨(ST.sel hS29 [0, 1] rfl rfl), ?_⟩
          refine ra_q 5 19 (v := .agg #[.int .i64 c.Qubits, .int .i64 0, .slice none 0 0, .slice B3 r_3.Rows.length c4]) rfl rfl rfl (by kernel_rfl) (by kernel_rfl) (by kernel_rfl) (ST.sel hS29 [0, 1] rfl rfl) (fun w' hw' => (Y_buildS (zs := [.int .i64 0, .int .i64 0, .slice none 0 0, .slice none 0 0]) (vs := [(0, .int .i64 c.Qubits), (3, .agg #[.slice B3 r_3.Rows.length c4])]) (cs := [.int .i64 c.Qubits, .int .i64 0, .slice none 0 0, .slice B3 r_3.Rows.length c4]) k_pl_31 k_zero_31 rfl (mpc rfl (mpc rfl mpn)) rfl)) ?_
          refine ra_all (rs := [7]) (by kernel_rfl) rfl ?_
          refine ra_s 4 (i := 7) rfl rfl rfl (Ys_alloc (T := 31) (cs := [.int .i64 0, .int .i64 0, .slice none 0 0, .slice none 0 0]) (m := 4) hS29 k_zero_31 rfl rfl rfl) ?_ ?_
          · rintro _ w_24 ⟨b2, rfl, hS30⟩
            have hS30 : ST w0 [] _ [⟨some ⟨b, 0, none⟩, 36, [.int .i64 c.Qubits, .slice B c.Gates.length c1], 2⟩, ⟨some ⟨b1, 0, none⟩, 31, [.int .i64 0, .int .i64 0, .slice none 0 0, .slice none 0 0], 4⟩, ⟨some ⟨b3, 0, none⟩, 54, ((List.replicate 32 0).flatMap encI), 32⟩, ⟨B3, 3, (r_3.Rows.flatMap encI), c4 * 1⟩, ⟨some ⟨b2, 0, none⟩, 31, [.int .i64 0, .int .i64 0, .slice none 0 0, .slice none 0 0], 4⟩] [⟨B, (c.Gates.flatMap enc_Gate)⟩] := hS30
            refine ⟨(ST.sel hS30 [0, 1] rfl rfl), ?_⟩
            refine ra_all (rs := [9]) (by kernel_rfl) rfl ?_
            refine ra_s0 (i := 9) rfl rfl rfl (Ys_store (i := 4) (s := 4) (B := some ⟨b2, 0, none⟩) (T' := 31) (v := .agg #[.int .i64 c.Qubits, .int .i64 0, .slice none 0 0, .slice B3 r_3.Rows.length c4]) (vs := [.int .i64 c.Qubits, .int .i64 0, .slice none 0 0, .slice B3 r_3.Rows.length c4]) (k := 0) (cs' := [.int .i64 c.Qubits, .int .i64 0, .slice none 0 0, .slice B3 r_3.Rows.length c4]) hS30 k_sz_31_4 rfl rfl rfl rfl rfl rfl rfl (Nat.le_of_ble_eq_true rfl) rfl rfl) ?_ ?_
            · rintro _ w_25 ⟨rfl, hS31⟩
              have hS31 : ST w0 [] _ [⟨some ⟨b, 0, none⟩, 36, [.int .i64 c.Qubits, .slice B c.Gates.length c1], 2⟩, ⟨some ⟨b1, 0, none⟩, 31, [.int .i64 0, .int .i64 0, .slice none 0 0, .slice none 0 0], 4⟩, ⟨some ⟨b3, 0, none⟩, 54, ((List.replicate 32 0).flatMap encI), 32⟩, ⟨B3, 3, (r_3.Rows.flatMap encI), c4 * 1⟩, ⟨some ⟨b2, 0, none⟩, 31, [.int .i64 c.Qubits, .int .i64 0, .slice none 0 0, .slice B3 r_3.Rows.length c4], 4⟩] [⟨B, (c.Gates.flatMap enc_Gate)⟩] := hS31
              refine ⟨(ST.sel hS31 [0, 1] rfl rfl), ?_⟩
              refine ra_all (rs := [10]) (by kernel_rfl) rfl ?_
              refine ra_s0 (i := 10) rfl rfl rfl (Ys_store (i := 2) (s := 32) (B := some ⟨b3, 0, none⟩) (T' := 54) (v := .agg ((List.replicate 32 0).flatMap encI).toArray) (vs := ((List.replicate 32 0).flatMap encI)) (k := 0) (cs' := ((List.replicate 32 0).flatMap encI)) hS31 k_sz_54_32 rfl rfl rfl rfl (fm_lenn2 encI_len (List.length_replicate (n := 32)) rfl) (fm_one' encI_one _) rfl (fm_fit encI_len (List.length_replicate (n := 32)) rfl) (fm_spl encI_len (List.length_replicate (n := 32)) (List.length_replicate (n := 32))) rfl) ?_ ?_
              · rintro _ w_26 ⟨rfl, hS32⟩
                have hS32 : ST w0 [] _ [⟨some ⟨b, 0, none⟩, 36, [.int .i64 c.Qubits, .slice B c.Gates.length c1], 2⟩, ⟨some ⟨b1, 0, none⟩, 31, [.int .i64 0, .int .i64 0, .slice none 0 0, .slice none 0 0], 4⟩, ⟨some ⟨b3, 0, none⟩, 54, ((List.replicate 32 0).flatMap encI), 32⟩, ⟨B3, 3, (r_3.Rows.flatMap encI), c4 * 1⟩, ⟨some ⟨b2, 0, none⟩, 31, [.int .i64 c.Qubits, .int .i64 0, .slice none 0 0, .slice B3 r_3.Rows.length c4], 4⟩] [⟨B, (c.Gates.flatMap enc_Gate)⟩] := hS32
                refine ⟨(ST.sel hS32 [0, 1] rfl rfl), ?_⟩
                refine ra_done (by kernel_rfl) ?_
                exact ⟨some ⟨b2, 0, none⟩, B3, c4, some ⟨b3, 0, none⟩, (FF.cons rfl (FF.cons rfl (FF.cons rfl (FF.cons rfl FF.nil)))), (hS32.sel [0, 1, 4, 3, 2] rfl rfl)⟩
              exact allR_nil
            exact allR_nil
          exact allR_nil
        refine ra_s 4 (i := 7) rfl rfl rfl (Ys_alloc (T := 31) (cs := [.int .i64 0, .int .i64 0, .slice none 0 0, .slice none 0 0]) (m := 4) hS28 k_zero_31 rfl rfl rfl) ?_ ?_
        · rintro _ w_27 ⟨b2, rfl, hS33⟩
          have hS33 : ST w0 [] _ [⟨some ⟨b, 0, none⟩, 36, [.int .i64 c.Qubits, .slice B c.Gates.length c1], 2⟩, ⟨some ⟨b1, 0, none⟩, 31, [.int .i64 0, .int .i64 0, .slice none 0 0, .slice none 0 0], 4⟩, ⟨some ⟨b3, 0, none⟩, 54, ((List.replicate 32 0).flatMap encI), 32⟩, ⟨some ⟨b2, 0, none⟩, 31, [.int .i64 0, .int .i64 0, .slice none 0 0, .slice none 0 0], 4⟩] [⟨B, (c.Gates.flatMap enc_Gate)⟩] := hS33
          refine ⟨(ST.sel hS33 [0, 1] rfl rfl), ?_⟩
          refine ra_all (rs := [4]) (by kernel_rfl) rfl ?_
          refine ra_c 18 (i := 4) rfl rfl rfl (Yc_func (g := 21) (vs := [.int .i64 c.Qubits]) k_call_21 rfl (mc rfl mn) (c_impl_identityLinear c.Qubits _  (hS33.inn0 [] rfl) hc1)) ?_ ?_
          · rintro _ w_28 ⟨B3, c4, rfl, hd5⟩
            have hS34 := hS33.out0 hd5
            have hS34 : ST w0 [] _ [⟨some ⟨b, 0, none⟩, 36, [.int .i64 c.Qubits, .slice B c.Gates.length c1], 2⟩, ⟨some ⟨b1, 0, none⟩, 31, [.int .i64 0, .int .i64 0, .slice none 0 0, .slice none 0 0], 4⟩, ⟨some ⟨b3, 0, none⟩, 54, ((List.replicate 32 0).flatMap encI), 32⟩, ⟨some ⟨b2, 0, none⟩, 31, [.int .i64 0, .int .i64 0, .slice none 0 0, .slice none 0 0], 4⟩, ⟨B3, 3, (r_3.Rows.flatMap encI), c4 * 1⟩] [⟨B, (c.Gates.flatMap enc_Gate)⟩] := hS34
            refine ⟨(ST.sel hS34 [0, 1] rfl rfl), ?_⟩
            refine ra_q 5 19 (v := .agg #[.int .i64 c.Qubits, .int .i64 0, .slice none 0 0, .slice B3 r_3.Rows.length c4]) rfl rfl rfl (by kernel_rfl) (by kernel_rfl) (by kernel_rfl) (ST.sel hS34 [0, 1] rfl rfl) (fun w' hw' => (Y_buildS (zs := [.int .i64 0, .int .i64 0, .slice none 0 0, .slice none 0 0]) (vs := [(0, .int .i64 c.Qubits), (3, .agg #[.slice B3 r_3.Rows.length c4])]) (cs := [.int .i64 c.Qubits, .int .i64 0, .slice none 0 0, .slice B3 r_3.Rows.length c4]) k_pl_31 k_zero_31 rfl (mpc rfl (mpc rfl mpn)) rfl)) ?_
            refine ra_all (rs := [9]) (by kernel_rfl) rfl ?_
            refine ra_s0 (i := 9) rfl rfl rfl (Ys_store (i := 3) (s := 4) (B := some ⟨b2, 0, none⟩) (T' := 31) (v := .agg #[.int .i64 c.Qubits, .int .i64 0, .slice none 0 0, .slice B3 r_3.Rows.length c4]) (vs := [.int .i64 c.Qubits, .int .i64 0, .slice none 0 0, .slice B3 r_3.Rows.length c4]) (k := 0) (cs' := [.int .i64 c.Qubits, .int .i64 0, .slice none 0 0, .slice B3 r_3.Rows.length c4]) hS34 k_sz_31_4 rfl rfl rfl rfl rfl rfl rfl (Nat.le_of_ble_eq_true rfl) rfl rfl) ?_ ?_
            · rintro _ w_29 ⟨rfl, hS35⟩
              have hS35 : ST w0 [] _ [⟨some ⟨b, 0, none⟩, 36, [.int .i64 c.Qubits, .slice B c.Gates.length c1], 2⟩, ⟨some ⟨b1, 0, none⟩, 31, [.int .i64 0, .int .i64 0, .slice none 0 0, .slice none 0 0], 4⟩, ⟨some ⟨b3, 0, none⟩, 54, ((List.replicate 32 0).flatMap encI), 32⟩, ⟨some ⟨b2, 0, none⟩, 31, [.int .i64 c.Qubits, .int .i64 0, .slice none 0 0, .slice B3 r_3.Rows.length c4], 4⟩, ⟨B3, 3, (r_3.Rows.flatMap encI), c4 * 1⟩] [⟨B, (c.Gates.flatMap enc_Gate)⟩] := hS35
              refine ⟨(ST.sel hS35 [0, 1] rfl rfl), ?_⟩
              refine ra_all (rs := [10]) (by kernel_rfl) rfl ?_
              refine ra_s0 (i := 10) rfl rfl rfl (Ys_store (i := 2) (s := 32) (B := some ⟨b3, 0, none⟩) (T' := 54) (v := .agg ((List.replicate 32 0).flatMap encI).toArray) (vs := ((List.replicate 32 0).flatMap encI)) (k := 0) (cs' := ((List.replicate 32 0).flatMap encI)) hS35 k_sz_54_32 rfl rfl rfl rfl (fm_lenn2 encI_len (List.length_replicate (n := 32)) rfl) (fm_one' encI_one _) rfl (fm_fit encI_len (List.length_replicate (n := 32)) rfl) (fm_spl encI_len (List.length_replicate (n := 32)) (List.length_replicate (n := 32))) rfl) ?_ ?_
              · rintro _ w_30 ⟨rfl, hS36⟩
                have hS36 : ST w0 [] _ [⟨some ⟨b, 0, none⟩, 36, [.int .i64 c.Qubits, .slice B c.Gates.length c1], 2⟩, ⟨some ⟨b1, 0, none⟩, 31, [.int .i64 0, .int .i64 0, .slice none 0 0, .slice none 0 0], 4⟩, ⟨some ⟨b3, 0, none⟩, 54, ((List.replicate 32 0).flatMap encI), 32⟩, ⟨some ⟨b2, 0, none⟩, 31, [.int .i64 c.Qubits, .int .i64 0, .slice none 0 0, .slice B3 r_3.Rows.length c4], 4⟩, ⟨B3, 3, (r_3.Rows.flatMap encI), c4 * 1⟩] [⟨B, (c.Gates.flatMap enc_Gate)⟩] := hS36
                refine ⟨(ST.sel hS36 [0, 1] rfl rfl), ?_⟩
                refine ra_done (by kernel_rfl) ?_
                exact ⟨some ⟨b2, 0, none⟩, B3, c4, some ⟨b3, 0, none⟩, (FF.cons rfl (FF.cons rfl (FF.cons rfl (FF.cons rfl FF.nil)))), (hS36.sel [0, 1, 3, 4, 2] rfl rfl)⟩
              exact allR_nil
            exact allR_nil
          exact allR_nil
        exact allR_nil
      exact allR_nil
    rintro f w ⟨B4, B5, c5, B6, hf, hS8⟩
    refine cw_seq ?_
    refine cw_region ?_
    refine sq 21 rfl rfl (Y_fieldAddr (B := B4) (i := 0) (s := 0) k_fd_31_3_3_29 k_sz_29_1 rfl (hf.get 4 2 rfl)) ?_
    refine sq 22 rfl rfl (Y_fieldAddr (B := B4) (i := 3) (s := 0) k_fd_29_0_0_27 k_sz_27_1 rfl rfl) ?_
    refine sq 23 rfl rfl (Y_load1 (B := B4) (i := 3) (cs := [.int .i64 c.Qubits, .int .i64 0, .slice none 0 0, .slice B5 r_3.Rows.length c5]) (v := .slice B5 r_3.Rows.length c5) k_sc_27 rfl rfl (hS8.cf (i := 2) rfl) rfl) ?_
    refine sq 6 rfl rfl (Y_assign (v := .slice B5 r_3.Rows.length c5) rfl rfl) ?_
    refine rw_nil ?_
    refine cw_seq ?_
    refine cw_seq ?_
    refine cw_region ?_
    refine sq 24 rfl rfl (Y_fieldAddr (B := some ⟨b, 0, none⟩) (i := 0) (s := 0) k_fd_36_1_1_34 k_sz_34_1 rfl (hf.get 1 0 rfl)) ?_
    refine sq 25 rfl rfl (Y_load1 (B := some ⟨b, 0, none⟩) (i := 1) (cs := [.int .i64 c.Qubits, .slice B c.Gates.length c1]) (v := .slice B c.Gates.length c1) k_sc_34 rfl rfl (hS8.cf (i := 0) rfl) rfl) ?_
    refine sq 26 rfl rfl (Y_len (B := B) (m := c.Gates.length) (c := c1) k_sl_34_48 rfl rfl) ?_
    refine sq 27 rfl rfl (Y_move (v := .int .i64 0) rfl rfl) ?_
    refine rw_nil ?_
    obtain ⟨hN, hF2⟩ := chk_inv hF2
    obtain ⟨z, hz, hF3⟩ := bind_inv hF2
    refine cw_block ?_
    refine cw_loop (fun k f w => ∃ (i : Nat) (Phase : Int) (Out : List Int) (sums : List Int), FF f [(2, pt (some ⟨b1, 0, none⟩) 0), (4, pt B4 0), (5, pt B6 0), (6, .slice B5 r_3.Rows.length c5), (25, .slice B c.Gates.length c1), (26, .int .i64 (c.Gates.length : Int)), (27, .int .i64 (i : Int))] ∧ Out.length = r_3.Rows.length ∧ sums.length = 32 ∧ ST w0 [] w [⟨some ⟨b1, 0, none⟩, 31, [.int .i64 0, .int .i64 0, .slice none 0 0, .slice none 0 0], 4⟩, ⟨B4, 31, [.int .i64 c.Qubits, .int .i64 Phase, .slice none 0 0, .slice B5 r_3.Rows.length c5], 4⟩, ⟨B5, 3, (Out.flatMap encI), c5 * 1⟩, ⟨B6, 54, (sums.flatMap encI), 32⟩] [⟨B, (c.Gates.flatMap enc_Gate)⟩] ∧ i + k = c.Gates.length ∧ forX (F_impl_PhasePolyOf_l1 c) k i (Phase, Out, sums) = some z) c.Gates.length ⟨0, 0, r_3.Rows, (List.replicate 32 0), (FF.cons (hf.get 2 1 rfl) (FF.cons (hf.get 4 2 rfl) (FF.cons (hf.get 5 3 rfl) (FF.cons rfl (FF.cons rfl (FF.cons rfl (FF.cons rfl FF.nil))))))), rfl, (List.length_replicate (n := 32)), (hS8.sel [1, 2, 3, 4] rfl rfl), Nat.zero_add _, hz⟩ ?_
    rintro k_ f w ⟨i, Phase, Out, sums, hf1, hl, hl1, hS37, hik, hL⟩
    refine cw_seq ?_
    refine cw_region ?_
    refine sq 28 rfl rfl (Y_lt (k := .i64) (a := (i : Int)) (b := (c.Gates.length : Int)) rfl (hf1.get 27 6 rfl) (hf1.get 26 5 rfl)) ?_
    refine rw_nil ?_
    refine cw_seq ?_
    refine cw_cond (b := (decide ((i : Int) < (c.Gates.length : Int)))) rfl (fun hlt => ?_) (fun hlt => ?_)
    · skip
      have hlt1 : i < c.Gates.length := by have h := of_decide_eq_true hlt; omega
      obtain ⟨k_1, rfl⟩ : ∃ k2, k_ = k2 + 1 := ⟨k_ - 1, by omega⟩
      obtain ⟨y, hb1, hL1⟩ := forX_go hL
      unfold F_impl_PhasePolyOf_l1 at hb1
      refine cw_skip ?_
      refine cw_seq ?_
      obtain ⟨z1, hz1, hF4⟩ := bind_inv hb1
      refine cw_mid (fun f w => ∃ (Phase1 : Int) (Out1 : List Int) (sums1 : List Int), .inl (Phase1, Out1, sums1) = z1 ∧ FF f [(2, pt (some ⟨b1, 0, none⟩) 0), (4, pt B4 0), (5, pt B6 0), (6, .slice B5 r_3.Rows.length c5), (25, .slice B c.Gates.length c1), (26, .int .i64 (c.Gates.length : Int)), (27, .int .i64 (i : Int))] ∧ Out1.length = r_3.Rows.length ∧ sums1.length = 32 ∧ ST w0 [] w [⟨some ⟨b1, 0, none⟩, 31, [.int .i64 0, .int .i64 0, .slice none 0 0, .slice none 0 0], 4⟩, ⟨B4, 31, [.int .i64 c.Qubits, .int .i64 Phase1, .slice none 0 0, .slice B5 r_3.Rows.length c5], 4⟩, ⟨B5, 3, (Out1.flatMap encI), c5 * 1⟩, ⟨B6, 54, (sums1.flatMap encI), 32⟩] [⟨B, (c.Gates.flatMap enc_Gate)⟩]) ?_ ?_
      · skip
        refine cw_block ?_
        refine cw_seq ?_
        refine cw_region ?_
        obtain ⟨x, hx, hz1⟩ := bind_inv hz1
        refine sq 29 rfl rfl (Y_index (B := B) (m := c.Gates.length) (c := c1) (k := .i64) (i := (i : Int)) k_sl_34_48 k_sz_48_3 rfl (hf1.get 25 4 rfl) (hf1.get 27 6 rfl) (gi_isSome enc_Gate_len rfl (hS37.rf (i := 0) rfl) hx) (getI_nn hx) (getI_ltI hx rfl)) ?_
        refine sq 30 rfl rfl (Y_loadA (B := B) (i := (i : Int).toNat * 3) (cs := (c.Gates.flatMap enc_Gate)) (vs := [.int .i64 x.Kind, .int .i64 x.A, .int .i64 x.B]) k_ag_48 k_sz_48_3 rfl rfl (hS37.rf (i := 0) rfl) (enc_Gate_len x) (gi_seg enc_Gate_len hx)) ?_
        refine ss 8 rfl rfl (Ys_alloc (T := 48) (cs := [.int .i64 0, .int .i64 0, .int .i64 0]) (m := 3) hS37 k_zero_48 rfl rfl rfl) ?_
        rintro _ w_31 ⟨b4, rfl, hS39⟩
        have hS39 : ST w0 [] _ [⟨some ⟨b1, 0, none⟩, 31, [.int .i64 0, .int .i64 0, .slice none 0 0, .slice none 0 0], 4⟩, ⟨B4, 31, [.int .i64 c.Qubits, .int .i64 Phase, .slice none 0 0, .slice B5 r_3.Rows.length c5], 4⟩, ⟨B5, 3, (Out.flatMap encI), c5 * 1⟩, ⟨B6, 54, (sums.flatMap encI), 32⟩, ⟨some ⟨b4, 0, none⟩, 48, [.int .i64 0, .int .i64 0, .int .i64 0], 3⟩] [⟨B, (c.Gates.flatMap enc_Gate)⟩] := hS39
        refine ss0 rfl rfl (Ys_store (i := 4) (s := 3) (B := some ⟨b4, 0, none⟩) (T' := 48) (v := .agg #[.int .i64 x.Kind, .int .i64 x.A, .int .i64 x.B]) (vs := [.int .i64 x.Kind, .int .i64 x.A, .int .i64 x.B]) (k := 0) (cs' := [.int .i64 x.Kind, .int .i64 x.A, .int .i64 x.B]) hS39 k_sz_48_3 rfl rfl rfl rfl rfl rfl rfl (Nat.le_of_ble_eq_true rfl) rfl rfl) ?_
        rintro _ w_32 ⟨rfl, hS40⟩
        have hS40 : ST w0 [] _ [⟨some ⟨b1, 0, none⟩, 31, [.int .i64 0, .int .i64 0, .slice none 0 0, .slice none 0 0], 4⟩, ⟨B4, 31, [.int .i64 c.Qubits, .int .i64 Phase, .slice none 0 0, .slice B5 r_3.Rows.length c5], 4⟩, ⟨B5, 3, (Out.flatMap encI), c5 * 1⟩, ⟨B6, 54, (sums.flatMap encI), 32⟩, ⟨some ⟨b4, 0, none⟩, 48, [.int .i64 x.Kind, .int .i64 x.A, .int .i64 x.B], 3⟩] [⟨B, (c.Gates.flatMap enc_Gate)⟩] := hS40
        refine rw_nil ?_
        refine cw_seq ?_
        refine cw_region ?_
        refine sq 31 rfl rfl (Y_fieldAddr (B := some ⟨b4, 0, none⟩) (i := 0) (s := 0) k_fd_48_0_0_3 k_sz_3_1 rfl rfl) ?_
        refine sq 32 rfl rfl (Y_load1 (B := some ⟨b4, 0, none⟩) (i := 0) (cs := [.int .i64 x.Kind, .int .i64 x.A, .int .i64 x.B]) (v := .int .i64 x.Kind) k_sc_3 rfl rfl (hS40.cf (i := 4) rfl) rfl) ?_
        refine rw_nil ?_
        refine cw_block ?_
        refine cw_seq ?_
        refine cw_region ?_
        refine sq 47 rfl rfl (Y_eq (k := .i64) (a := x.Kind) (b := 9) rfl rfl rfl) ?_
        refine sq 46 rfl rfl (Y_assign (v := .bool (x.Kind == 9)) rfl rfl) ?_
        refine rw_nil ?_
        refine cw_cond (b := (x.Kind == 9)) rfl (fun hb2 => ?_) (fun hb2 => ?_)
        · skip
          have hF5 := ct hz1 hb2
          obtain ⟨x1, hx1, hF5⟩ := bind_inv hF5
          obtain ⟨x2, hx2, hF5⟩ := bind_inv hF5
          refine cw_mid (fun f w => FF f [(2, pt (some ⟨b1, 0, none⟩) 0), (4, pt B4 0), (5, pt B6 0), (6, .slice B5 r_3.Rows.length c5), (25, .slice B c.Gates.length c1), (26, .int .i64 (c.Gates.length : Int)), (27, .int .i64 (i : Int))] ∧ ST w0 [] w [⟨some ⟨b1, 0, none⟩, 31, [.int .i64 0, .int .i64 0, .slice none 0 0, .slice none 0 0], 4⟩, ⟨B4, 31, [.int .i64 c.Qubits, .int .i64 Phase, .slice none 0 0, .slice B5 r_3.Rows.length c5], 4⟩, ⟨B5, 3, ((Out.set x.B.toNat (bits .xor .i64 x1 x2)).flatMap encI), c5 * 1⟩, ⟨B6, 54, (sums.flatMap encI), 32⟩] [⟨B, (c.Gates.flatMap enc_Gate)⟩]) ?_ ?_
          · skip
            refine ra_start (ST.sel hS40 [0, 1, 3, 4] rfl rfl).fn (by kernel_rfl) ?_
            have hS42 := hS40.drew
            refine ra_q 0 48 (v := .slice B5 r_3.Rows.length c5) rfl rfl rfl (by kernel_rfl) (by kernel_rfl) (by kernel_rfl) (ST.sel hS42 [0, 1, 3, 4] rfl rfl) (fun w' hw' => (Y_move (v := .slice B5 r_3.Rows.length c5) rfl (hf1.get 6 3 rfl))) ?_
            refine ra_q 1 49 (v := pt (some ⟨b4, 0, none⟩) 2) rfl rfl rfl (by kernel_rfl) (by kernel_rfl) (by kernel_rfl) (ST.sel hS42 [0, 1, 3, 4] rfl rfl) (fun w' hw' => (Y_fieldAddr (B := some ⟨b4, 0, none⟩) (i := 0) (s := 0) k_fd_48_2_2_3 k_sz_3_1 rfl rfl)) ?_
            refine ra_q 2 50 (v := .int .i64 x.B) rfl rfl rfl (by kernel_rfl) (by kernel_rfl) (by kernel_rfl) (ST.sel hS42 [0, 1, 3, 4] rfl rfl) (fun w' hw' => (Y_load1 (B := some ⟨b4, 0, none⟩) (i := 2) (cs := [.int .i64 x.Kind, .int .i64 x.A, .int .i64 x.B]) (v := .int .i64 x.B) k_sc_3 rfl rfl (ST.cf hw' (i := 3) rfl) rfl)) ?_
            refine ra_q 5 53 (v := .slice B5 r_3.Rows.length c5) rfl rfl rfl (by kernel_rfl) (by kernel_rfl) (by kernel_rfl) (ST.sel hS42 [0, 1, 3, 4] rfl rfl) (fun w' hw' => (Y_move (v := .slice B5 r_3.Rows.length c5) rfl (hf1.get 6 3 rfl))) ?_
            refine ra_q 6 54 (v := pt (some ⟨b4, 0, none⟩) 1) rfl rfl rfl (by kernel_rfl) (by kernel_rfl) (by kernel_rfl) (ST.sel hS42 [0, 1, 3, 4] rfl rfl) (fun w' hw' => (Y_fieldAddr (B := some ⟨b4, 0, none⟩) (i := 0) (s := 0) k_fd_48_1_1_3 k_sz_3_1 rfl rfl)) ?_
            refine ra_q 7 55 (v := .int .i64 x.A) rfl rfl rfl (by kernel_rfl) (by kernel_rfl) (by kernel_rfl) (ST.sel hS42 [0, 1, 3, 4] rfl rfl) (fun w' hw' => (Y_load1 (B := some ⟨b4, 0, none⟩) (i := 1) (cs := [.int .i64 x.Kind, .int .i64 x.A, .int .i64 x.B]) (v := .int .i64 x.A) k_sc_3 rfl rfl (ST.cf hw' (i := 3) rfl) rfl)) ?_
            refine ra_all (rs := [3, 8]) (by kernel_rfl) rfl ?_
            refine ra_y 51 (i := 3) (v := pt B5 (x.B.toNat * 1)) rfl rfl rfl (Y_index (B := B5) (m := r_3.Rows.length) (c := c5) (k := .i64) (i := x.B) k_sl_27_3 k_sz_3_1 rfl rfl rfl (gi_isSome encI_len rfl (hS42.cf (i := 2) rfl) hx1) (getI_nn hx1) (getI_ltI hx1 hl)) (ST.sel hS42 [0, 1, 3, 4] rfl rfl) ?_ ?_
            · skip
              refine ra_all (rs := [4, 8]) (by kernel_rfl) rfl ?_
              refine ra_y 52 (i := 4) (v := .int .i64 x1) rfl rfl rfl (Y_load1 (B := B5) (i := x.B.toNat * 1) (cs := (Out.flatMap encI)) (v := .int .i64 x1) k_sc_3 rfl rfl (hS42.cf (i := 2) rfl) (gi_at0 encI_len hx1 rfl)) (ST.sel hS42 [0, 1, 3, 4] rfl rfl) ?_ ?_
              · skip
                refine ra_all (rs := [8]) (by kernel_rfl) rfl ?_
                refine ra_y 56 (i := 8) (v := pt B5 (x.A.toNat * 1)) rfl rfl rfl (Y_index (B := B5) (m := r_3.Rows.length) (c := c5) (k := .i64) (i := x.A) k_sl_27_3 k_sz_3_1 rfl rfl rfl (gi_isSome encI_len rfl (hS42.cf (i := 2) rfl) hx2) (getI_nn hx2) (getI_ltI hx2 hl)) (ST.sel hS42 [0, 1, 3, 4] rfl rfl) ?_ ?_
                · skip
                  refine ra_all (rs := [9]) (by kernel_rfl) rfl ?_
                  refine ra_y 57 (i := 9) (v := .int .i64 x2) rfl rfl rfl (Y_load1 (B := B5) (i := x.A.toNat * 1) (cs := (Out.flatMap encI)) (v := .int .i64 x2) k_sc_3 rfl rfl (hS42.cf (i := 2) rfl) (gi_at0 encI_len hx2 rfl)) (ST.sel hS42 [0, 1, 3, 4] rfl rfl) ?_ ?_
                  · skip
                    refine ra_q 10 58 (v := .int .i64 (bits .xor .i64 x1 x2)) rfl rfl rfl (by kernel_rfl) (by kernel_rfl) (by kernel_rfl) (ST.sel hS42 [0, 1, 3, 4] rfl rfl) (fun w' hw' => (Y_bxor (k := .i64) (a := x1) (b := x2) rfl rfl rfl)) ?_
                    refine ra_all (rs := [11]) (by kernel_rfl) rfl ?_
                    refine ra_y 59 (i := 11) (v := pt B5 (x.B.toNat * 1)) rfl rfl rfl (Y_index (B := B5) (m := r_3.Rows.length) (c := c5) (k := .i64) (i := x.B) k_sl_27_3 k_sz_3_1 rfl rfl rfl (gi_isSome encI_len rfl (hS42.cf (i := 2) rfl) hx1) (getI_nn hx1) (getI_ltI hx1 hl)) (ST.sel hS42 [0, 1, 3, 4] rfl rfl) ?_ ?_
                    · skip
                      refine ra_all (rs := [12]) (by kernel_rfl) rfl ?_
                      refine ra_s0 (i := 12) rfl rfl rfl (Ys_store (i := 2) (s := 1) (B := B5) (T' := 3) (v := .int .i64 (bits .xor .i64 x1 x2)) (vs := [.int .i64 (bits .xor .i64 x1 x2)]) (k := x.B.toNat * 1) (cs' := ((Out.set x.B.toNat (bits .xor .i64 x1 x2)).flatMap encI)) hS42 k_sz_3_1 rfl rfl rfl rfl rfl rfl rfl (gi_fit0 encI_len hx1) (gi_set encI_len hx1 (bits .xor .i64 x1 x2) rfl) rfl) ?_ ?_
                      · rintro _ w_33 ⟨rfl, hS43⟩
                        have hS43 : ST w0 [] _ [⟨some ⟨b1, 0, none⟩, 31, [.int .i64 0, .int .i64 0, .slice none 0 0, .slice none 0 0], 4⟩, ⟨B4, 31, [.int .i64 c.Qubits, .int .i64 Phase, .slice none 0 0, .slice B5 r_3.Rows.length c5], 4⟩, ⟨B5, 3, ((Out.set x.B.toNat (bits .xor .i64 x1 x2)).flatMap encI), c5 * 1⟩, ⟨B6, 54, (sums.flatMap encI), 32⟩, ⟨some ⟨b4, 0, none⟩, 48, [.int .i64 x.Kind, .int .i64 x.A, .int .i64 x.B], 3⟩] [⟨B, (c.Gates.flatMap enc_Gate)⟩] := hS43
                        refine ⟨(ST.sel hS43 [0, 1, 3, 4] rfl rfl), ?_⟩
                        refine ra_done (by kernel_rfl) ?_
                        exact ⟨(FF.cons (hf1.get 2 0 rfl) (FF.cons (hf1.get 4 1 rfl) (FF.cons (hf1.get 5 2 rfl) (FF.cons (hf1.get 6 3 rfl) (FF.cons (hf1.get 25 4 rfl) (FF.cons (hf1.get 26 5 rfl) (FF.cons (hf1.get 27 6 rfl) FF.nil))))))), (hS43.sel [0, 1, 2, 3] rfl rfl)⟩
                      exact allR_nil
                    exact allR_nil
                  exact allR_nil
                exact allR_nil
              refine ra_y 56 (i := 8) (v := pt B5 (x.A.toNat * 1)) rfl rfl rfl (Y_index (B := B5) (m := r_3.Rows.length) (c := c5) (k := .i64) (i := x.A) k_sl_27_3 k_sz_3_1 rfl rfl rfl (gi_isSome encI_len rfl (hS42.cf (i := 2) rfl) hx2) (getI_nn hx2) (getI_ltI hx2 hl)) (ST.sel hS42 [0, 1, 3, 4] rfl rfl) ?_ ?_
              · skip
                refine ra_all (rs := [4, 9]) (by kernel_rfl) rfl ?_
                refine ra_y 52 (i := 4) (v := .int .i64 x1) rfl rfl rfl (Y_load1 (B := B5) (i := x.B.toNat * 1) (cs := (Out.flatMap encI)) (v := .int .i64 x1) k_sc_3 rfl rfl (hS42.cf (i := 2) rfl) (gi_at0 encI_len hx1 rfl)) (ST.sel hS42 [0, 1, 3, 4] rfl rfl) ?_ ?_
                · skip
                  refine ra_all (rs := [9]) (by kernel_rfl) rfl ?_
                  refine ra_y 57 (i := 9) (v := .int .i64 x2) rfl rfl rfl (Y_load1 (B := B5) (i := x.A.toNat * 1) (cs := (Out.flatMap encI)) (v := .int .i64 x2) k_sc_3 rfl rfl (hS42.cf (i := 2) rfl) (gi_at0 encI_len hx2 rfl)) (ST.sel hS42 [0, 1, 3, 4] rfl rfl) ?_ ?_
                  · skip
                    refine ra_q 10 58 (v := .int .i64 (bits .xor .i64 x1 x2)) rfl rfl rfl (by kernel_rfl) (by kernel_rfl) (by kernel_rfl) (ST.sel hS42 [0, 1, 3, 4] rfl rfl) (fun w' hw' => (Y_bxor (k := .i64) (a := x1) (b := x2) rfl rfl rfl)) ?_
                    refine ra_all (rs := [11]) (by kernel_rfl) rfl ?_
                    refine ra_y 59 (i := 11) (v := pt B5 (x.B.toNat * 1)) rfl rfl rfl (Y_index (B := B5) (m := r_3.Rows.length) (c := c5) (k := .i64) (i := x.B) k_sl_27_3 k_sz_3_1 rfl rfl rfl (gi_isSome encI_len rfl (hS42.cf (i := 2) rfl) hx1) (getI_nn hx1) (getI_ltI hx1 hl)) (ST.sel hS42 [0, 1, 3, 4] rfl rfl) ?_ ?_
                    · skip
                      refine ra_all (rs := [12]) (by kernel_rfl) rfl ?_
                      refine ra_s0 (i := 12) rfl rfl rfl (Ys_store (i := 2) (s := 1) (B := B5) (T' := 3) (v := .int .i64 (bits .xor .i64 x1 x2)) (vs := [.int .i64 (bits .xor .i64 x1 x2)]) (k := x.B.toNat * 1) (cs' := ((Out.set x.B.toNat (bits .xor .i64 x1 x2)).flatMap encI)) hS42 k_sz_3_1 rfl rfl rfl rfl rfl rfl rfl (gi_fit0 encI_len hx1) (gi_set encI_len hx1 (bits .xor .i64 x1 x2) rfl) rfl) ?_ ?_
                      · rintro _ w_34 ⟨rfl, hS44⟩
                        have hS44 : ST w0 [] _ [⟨some ⟨b1, 0, none⟩, 31, [.int .i64 0, .int .i64 0, .slice none 0 0, .slice none 0 0], 4⟩, ⟨B4, 31, [.int .i64 c.Qubits, .int .i64 Phase, .slice none 0 0, .slice B5 r_3.Rows.length c5], 4⟩, ⟨B5, 3, ((Out.set x.B.toNat (bits .xor .i64 x1 x2)).flatMap encI), c5 * 1⟩, ⟨B6, 54, (sums.flatMap encI), 32⟩, ⟨some ⟨b4, 0, none⟩, 48, [.int .i64 x.Kind, .int .i64 x.A, .int .i64 x.B], 3⟩] [⟨B, (c.Gates.flatMap enc_Gate)⟩] := hS44
                        refine ⟨(ST.sel hS44 [0, 1, 3, 4] rfl rfl), ?_⟩
                        refine ra_done (by kernel_rfl) ?_
                        exact ⟨(FF.cons (hf1.get 2 0 rfl) (FF.cons (hf1.get 4 1 rfl) (FF.cons (hf1.get 5 2 rfl) (FF.cons (hf1.get 6 3 rfl) (FF.cons (hf1.get 25 4 rfl) (FF.cons (hf1.get 26 5 rfl) (FF.cons (hf1.get 27 6 rfl) FF.nil))))))), (hS44.sel [0, 1, 2, 3] rfl rfl)⟩
                      exact allR_nil
                    exact allR_nil
                  exact allR_nil
                refine ra_y 57 (i := 9) (v := .int .i64 x2) rfl rfl rfl (Y_load1 (B := B5) (i := x.A.toNat * 1) (cs := (Out.flatMap encI)) (v := .int .i64 x2) k_sc_3 rfl rfl (hS42.cf (i := 2) rfl) (gi_at0 encI_len hx2 rfl)) (ST.sel hS42 [0, 1, 3, 4] rfl rfl) ?_ ?_
                · skip
                  refine ra_all (rs := [4]) (by kernel_rfl) rfl ?_
                  refine ra_y 52 (i := 4) (v := .int .i64 x1) rfl rfl rfl (Y_load1 (B := B5) (i := x.B.toNat * 1) (cs := (Out.flatMap encI)) (v := .int .i64 x1) k_sc_3 rfl rfl (hS42.cf (i := 2) rfl) (gi_at0 encI_len hx1 rfl)) (ST.sel hS42 [0, 1, 3, 4] rfl rfl) ?_ ?_
                  · skip
                    refine ra_q 10 58 (v := .int .i64 (bits .xor .i64 x1 x2)) rfl rfl rfl (by kernel_rfl) (by kernel_rfl) (by kernel_rfl) (ST.sel hS42 [0, 1, 3, 4] rfl rfl) (fun w' hw' => (Y_bxor (k := .i64) (a := x1) (b := x2) rfl rfl rfl)) ?_
                    refine ra_all (rs := [11]) (by kernel_rfl) rfl ?_
                    refine ra_y 59 (i := 11) (v := pt B5 (x.B.toNat * 1)) rfl rfl rfl (Y_index (B := B5) (m := r_3.Rows.length) (c := c5) (k := .i64) (i := x.B) k_sl_27_3 k_sz_3_1 rfl rfl rfl (gi_isSome encI_len rfl (hS42.cf (i := 2) rfl) hx1) (getI_nn hx1) (getI_ltI hx1 hl)) (ST.sel hS42 [0, 1, 3, 4] rfl rfl) ?_ ?_
                    · skip
                      refine ra_all (rs := [12]) (by kernel_rfl) rfl ?_
                      refine ra_s0 (i := 12) rfl rfl rfl (Ys_store (i := 2) (s := 1) (B := B5) (T' := 3) (v := .int .i64 (bits .xor .i64 x1 x2)) (vs := [.int .i64 (bits .xor .i64 x1 x2)]) (k := x.B.toNat * 1) (cs' := ((Out.set x.B.toNat (bits .xor .i64 x1 x2)).flatMap encI)) hS42 k_sz_3_1 rfl rfl rfl rfl rfl rfl rfl (gi_fit0 encI_len hx1) (gi_set encI_len hx1 (bits .xor .i64 x1 x2) rfl) rfl) ?_ ?_
                      · rintro _ w_35 ⟨rfl, hS45⟩
                        have hS45 : ST w0 [] _ [⟨some ⟨b1, 0, none⟩, 31, [.int .i64 0, .int .i64 0, .slice none 0 0, .slice none 0 0], 4⟩, ⟨B4, 31, [.int .i64 c.Qubits, .int .i64 Phase, .slice none 0 0, .slice B5 r_3.Rows.length c5], 4⟩, ⟨B5, 3, ((Out.set x.B.toNat (bits .xor .i64 x1 x2)).flatMap encI), c5 * 1⟩, ⟨B6, 54, (sums.flatMap encI), 32⟩, ⟨some ⟨b4, 0, none⟩, 48, [.int .i64 x.Kind, .int .i64 x.A, .int .i64 x.B], 3⟩] [⟨B, (c.Gates.flatMap enc_Gate)⟩] := hS45
                        refine ⟨(ST.sel hS45 [0, 1, 3, 4] rfl rfl), ?_⟩
                        refine ra_done (by kernel_rfl) ?_
                        exact ⟨(FF.cons (hf1.get 2 0 rfl) (FF.cons (hf1.get 4 1 rfl) (FF.cons (hf1.get 5 2 rfl) (FF.cons (hf1.get 6 3 rfl) (FF.cons (hf1.get 25 4 rfl) (FF.cons (hf1.get 26 5 rfl) (FF.cons (hf1.get 27 6 rfl) FF.nil))))))), (hS45.sel [0, 1, 2, 3] rfl rfl)⟩
                      exact allR_nil
                    exact allR_nil
                  exact allR_nil
                exact allR_nil
              exact allR_nil
            refine ra_y 56 (i := 8) (v := pt B5 (x.A.toNat * 1)) rfl rfl rfl (Y_index (B := B5) (m := r_3.Rows.length) (c := c5) (k := .i64) (i := x.A) k_sl_27_3 k_sz_3_1 rfl rfl rfl (gi_isSome encI_len rfl (hS42.cf (i := 2) rfl) hx2) (getI_nn hx2) (getI_ltI hx2 hl)) (ST.sel hS42 [0, 1, 3, 4] rfl rfl) ?_ ?_
            · skip
              refine ra_all (rs := [3, 9]) (by kernel_rfl) rfl ?_
              refine ra_y 51 (i := 3) (v := pt B5 (x.B.toNat * 1)) rfl rfl rfl (Y_index (B := B5) (m := r_3.Rows.length) (c := c5) (k := .i64) (i := x.B) k_sl_27_3 k_sz_3_1 rfl rfl rfl (gi_isSome encI_len rfl (hS42.cf (i := 2) rfl) hx1) (getI_nn hx1) (getI_ltI hx1 hl)) (ST.sel hS42 [0, 1, 3, 4] rfl rfl) ?_ ?_
              · skip
                refine ra_all (rs := [4, 9]) (by kernel_rfl) rfl ?_
                refine ra_y 52 (i := 4) (v := .int .i64 x1) rfl rfl rfl (Y_load1 (B := B5) (i := x.B.toNat * 1) (cs := (Out.flatMap encI)) (v := .int .i64 x1) k_sc_3 rfl rfl (hS42.cf (i := 2) rfl) (gi_at0 encI_len hx1 rfl)) (ST.sel hS42 [0, 1, 3, 4] rfl rfl) ?_ ?_
                · skip
                  refine ra_all (rs := [9]) (by kernel_rfl) rfl ?_
                  refine ra_y 57 (i := 9) (v := .int .i64 x2) rfl rfl rfl (Y_load1 (B := B5) (i := x.A.toNat * 1) (cs := (Out.flatMap encI)) (v := .int .i64 x2) k_sc_3 rfl rfl (hS42.cf (i := 2) rfl) (gi_at0 encI_len hx2 rfl)) (ST.sel hS42 [0, 1, 3, 4] rfl rfl) ?_ ?_
                  · skip
                    refine ra_q 10 58 (v := .int .i64 (bits .xor .i64 x1 x2)) rfl rfl rfl (by kernel_rfl) (by kernel_rfl) (by kernel_rfl) (ST.sel hS42 [0, 1, 3, 4] rfl rfl) (fun w' hw' => (Y_bxor (k := .i64) (a := x1) (b := x2) rfl rfl rfl)) ?_
                    refine ra_all (rs := [11]) (by kernel_rfl) rfl ?_
                    refine ra_y 59 (i := 11) (v := pt B5 (x.B.toNat * 1)) rfl rfl rfl (Y_index (B := B5) (m := r_3.Rows.length) (c := c5) (k := .i64) (i := x.B) k_sl_27_3 k_sz_3_1 rfl rfl rfl (gi_isSome encI_len rfl (hS42.cf (i := 2) rfl) hx1) (getI_nn hx1) (getI_ltI hx1 hl)) (ST.sel hS42 [0, 1, 3, 4] rfl rfl) ?_ ?_
                    · skip
                      refine ra_all (rs := [12]) (by kernel_rfl) rfl ?_
                      refine ra_s0 (i := 12) rfl rfl rfl (Ys_store (i := 2) (s := 1) (B := B5) (T' := 3) (v := .int .i64 (bits .xor .i64 x1 x2)) (vs := [.int .i64 (bits .xor .i64 x1 x2)]) (k := x.B.toNat * 1) (cs' := ((Out.set x.B.toNat (bits .xor .i64 x1 x2)).flatMap encI)) hS42 k_sz_3_1 rfl rfl rfl rfl rfl rfl rfl (gi_fit0 encI_len hx1) (gi_set encI_len hx1 (bits .xor .i64 x1 x2) rfl) rfl) ?_ ?_
                      · rintro _ w_36 ⟨rfl, hS46⟩
                        have hS46 : ST w0 [] _ [⟨some ⟨b1, 0, none⟩, 31, [.int .i64 0, .int .i64 0, .slice none 0 0, .slice none 0 0], 4⟩, ⟨B4, 31, [.int .i64 c.Qubits, .int .i64 Phase, .slice none 0 0, .slice B5 r_3.Rows.length c5], 4⟩, ⟨B5, 3, ((Out.set x.B.toNat (bits .xor .i64 x1 x2)).flatMap encI), c5 * 1⟩, ⟨B6, 54, (sums.flatMap encI), 32⟩, ⟨some ⟨b4, 0, none⟩, 48, [.int .i64 x.Kind, .int .i64 x.A, .int .i64 x.B], 3⟩] [⟨B, (c.Gates.flatMap enc_Gate)⟩] := hS46
                        refine ⟨(ST.sel hS46 [0, 1, 3, 4] rfl rfl), ?_⟩
                        refine ra_done (by kernel_rfl) ?_
                        exact ⟨(FF.cons (hf1.get 2 0 rfl) (FF.cons (hf1.get 4 1 rfl) (FF.cons (hf1.get 5 2 rfl) (FF.cons (hf1.get 6 3 rfl) (FF.cons (hf1.get 25 4 rfl) (FF.cons (hf1.get 26 5 rfl) (FF.cons (hf1.get 27 6 rfl) FF.nil))))))), (hS46.sel [0, 1, 2, 3] rfl rfl)⟩
                      exact allR_nil
                    exact allR_nil
                  exact allR_nil
                refine ra_y 57 (i := 9) (v := .int .i64 x2) rfl rfl rfl (Y_load1 (B := B5) (i := x.A.toNat * 1) (cs := (Out.flatMap encI)) (v := .int .i64 x2) k_sc_3 rfl rfl (hS42.cf (i := 2) rfl) (gi_at0 encI_len hx2 rfl)) (ST.sel hS42 [0, 1, 3, 4] rfl rfl) ?_ ?_
                · skip
                  refine ra_all (rs := [4]) (by kernel_rfl) rfl ?_
                  refine ra_y 52 (i := 4) (v := .int .i64 x1) rfl rfl rfl (Y_load1 (B := B5) (i := x.B.toNat * 1) (cs := (Out.flatMap encI)) (v := .int .i64 x1) k_sc_3 rfl rfl (hS42.cf (i := 2) rfl) (gi_at0 encI_len hx1 rfl)) (ST.sel hS42 [0, 1, 3, 4] rfl rfl) ?_ ?_
                  · skip
                    refine ra_q 10 58 (v := .int .i64 (bits .xor .i64 x1 x2)) rfl rfl rfl (by kernel_rfl) (by kernel_rfl) (by kernel_rfl) (ST.sel hS42 [0, 1, 3, 4] rfl rfl) (fun w' hw' => (Y_bxor (k := .i64) (a := x1) (b := x2) rfl rfl rfl)) ?_
                    refine ra_all (rs := [11]) (by kernel_rfl) rfl ?_
                    refine ra_y 59 (i := 11) (v := pt B5 (x.B.toNat * 1)) rfl rfl rfl (Y_index (B := B5) (m := r_3.Rows.length) (c := c5) (k := .i64) (i := x.B) k_sl_27_3 k_sz_3_1 rfl rfl rfl (gi_isSome encI_len rfl (hS42.cf (i := 2) rfl) hx1) (getI_nn hx1) (getI_ltI hx1 hl)) (ST.sel hS42 [0, 1, 3, 4] rfl rfl) ?_ ?_
                    · skip
                      refine ra_all (rs := [12]) (by kernel_rfl) rfl ?_
                      refine ra_s0 (i := 12) rfl rfl rfl (Ys_store (i := 2) (s := 1) (B := B5) (T' := 3) (v := .int .i64 (bits .xor .i64 x1 x2)) (vs := [.int .i64 (bits .xor .i64 x1 x2)]) (k := x.B.toNat * 1) (cs' := ((Out.set x.B.toNat (bits .xor .i64 x1 x2)).flatMap encI)) hS42 k_sz_3_1 rfl rfl rfl rfl rfl rfl rfl (gi_fit0 encI_len hx1) (gi_set encI_len hx1 (bits .xor .i64 x1 x2) rfl) rfl) ?_ ?_
                      · rintro _ w_37 ⟨rfl, hS47⟩
                        have hS47 : ST w0 [] _ [⟨some ⟨b1, 0, none⟩, 31, [.int .i64 0, .int .i64 0, .slice none 0 0, .slice none 0 0], 4⟩, ⟨B4, 31, [.int .i64 c.Qubits, .int .i64 Phase, .slice none 0 0, .slice B5 r_3.Rows.length c5], 4⟩, ⟨B5, 3, ((Out.set x.B.toNat (bits .xor .i64 x1 x2)).flatMap encI), c5 * 1⟩, ⟨B6, 54, (sums.flatMap encI), 32⟩, ⟨some ⟨b4, 0, none⟩, 48, [.int .i64 x.Kind, .int .i64 x.A, .int .i64 x.B], 3⟩] [⟨B, (c.Gates.flatMap enc_Gate)⟩] := hS47
                        refine ⟨(ST.sel hS47 [0, 1, 3, 4] rfl rfl), ?_⟩
                        refine ra_done (by kernel_rfl) ?_
                        exact ⟨(FF.cons (hf1.get 2 0 rfl) (FF.cons (hf1.get 4 1 rfl) (FF.cons (hf1.get 5 2 rfl) (FF.cons (hf1.get 6 3 rfl) (FF.cons (hf1.get 25 4 rfl) (FF.cons (hf1.get 26 5 rfl) (FF.cons (hf1.get 27 6 rfl) FF.nil))))))), (hS47.sel [0, 1, 2, 3] rfl rfl)⟩
                      exact allR_nil
                    exact allR_nil
                  exact allR_nil
                exact allR_nil
              refine ra_y 57 (i := 9) (v := .int .i64 x2) rfl rfl rfl (Y_load1 (B := B5) (i := x.A.toNat * 1) (cs := (Out.flatMap encI)) (v := .int .i64 x2) k_sc_3 rfl rfl (hS42.cf (i := 2) rfl) (gi_at0 encI_len hx2 rfl)) (ST.sel hS42 [0, 1, 3, 4] rfl rfl) ?_ ?_
              · skip
                refine ra_all (rs := [3]) (by kernel_rfl) rfl ?_
                refine ra_y 51 (i := 3) (v := pt B5 (x.B.toNat * 1)) rfl rfl rfl (Y_index (B := B5) (m := r_3.Rows.length) (c := c5) (k := .i64) (i := x.B) k_sl_27_3 k_sz_3_1 rfl rfl rfl (gi_isSome encI_len rfl (hS42.cf (i := 2) rfl) hx1) (getI_nn hx1) (getI_ltI hx1 hl)) (ST.sel hS42 [0, 1, 3, 4] rfl rfl) ?_ ?_
                · skip
                  refine ra_all (rs := [4]) (by kernel_rfl) rfl ?_
                  refine ra_y 52 (i := 4) (v := .int .i64 x1) rfl rfl rfl (Y_load1 (B := B5) (i := x.B.toNat * 1) (cs := (Out.flatMap encI)) (v := .int .i64 x1) k_sc_3 rfl rfl (hS42.cf (i := 2) rfl) (gi_at0 encI_len hx1 rfl)) (ST.sel hS42 [0, 1, 3, 4] rfl rfl) ?_ ?_
                  · skip
                    refine ra_q 10 58 (v := .int .i64 (bits .xor .i64 x1 x2)) rfl rfl rfl (by kernel_rfl) (by kernel_rfl) (by kernel_rfl) (ST.sel hS42 [0, 1, 3, 4] rfl rfl) (fun w' hw' => (Y_bxor (k := .i64) (a := x1) (b := x2) rfl rfl rfl)) ?_
                    refine ra_all (rs := [11]) (by kernel_rfl) rfl ?_
                    refine ra_y 59 (i := 11) (v := pt B5 (x.B.toNat * 1)) rfl rfl rfl (Y_index (B := B5) (m := r_3.Rows.length) (c := c5) (k := .i64) (i := x.B) k_sl_27_3 k_sz_3_1 rfl rfl rfl (gi_isSome encI_len rfl (hS42.cf (i := 2) rfl) hx1) (getI_nn hx1) (getI_ltI hx1 hl)) (ST.sel hS42 [0, 1, 3, 4] rfl rfl) ?_ ?_
                    · skip
                      refine ra_all (rs := [12]) (by kernel_rfl) rfl ?_
                      refine ra_s0 (i := 12) rfl rfl rfl (Ys_store (i := 2) (s := 1) (B := B5) (T' := 3) (v := .int .i64 (bits .xor .i64 x1 x2)) (vs := [.int .i64 (bits .xor .i64 x1 x2)]) (k := x.B.toNat * 1) (cs' := ((Out.set x.B.toNat (bits .xor .i64 x1 x2)).flatMap encI)) hS42 k_sz_3_1 rfl rfl rfl rfl rfl rfl rfl (gi_fit0 encI_len hx1) (gi_set encI_len hx1 (bits .xor .i64 x1 x2) rfl) rfl) ?_ ?_
                      · rintro _ w_38 ⟨rfl, hS48⟩
                        have hS48 : ST w0 [] _ [⟨some ⟨b1, 0, none⟩, 31, [.int .i64 0, .int .i64 0, .slice none 0 0, .slice none 0 0], 4⟩, ⟨B4, 31, [.int .i64 c.Qubits, .int .i64 Phase, .slice none 0 0, .slice B5 r_3.Rows.length c5], 4⟩, ⟨B5, 3, ((Out.set x.B.toNat (bits .xor .i64 x1 x2)).flatMap encI), c5 * 1⟩, ⟨B6, 54, (sums.flatMap encI), 32⟩, ⟨some ⟨b4, 0, none⟩, 48, [.int .i64 x.Kind, .int .i64 x.A, .int .i64 x.B], 3⟩] [⟨B, (c.Gates.flatMap enc_Gate)⟩] := hS48
                        refine ⟨(ST.sel hS48 [0, 1, 3, 4] rfl rfl), ?_⟩
                        refine ra_done (by kernel_rfl) ?_
                        exact ⟨(FF.cons (hf1.get 2 0 rfl) (FF.cons (hf1.get 4 1 rfl) (FF.cons (hf1.get 5 2 rfl) (FF.cons (hf1.get 6 3 rfl) (FF.cons (hf1.get 25 4 rfl) (FF.cons (hf1.get 26 5 rfl) (FF.cons (hf1.get 27 6 rfl) FF.nil))))))), (hS48.sel [0, 1, 2, 3] rfl rfl)⟩
                      exact allR_nil
                    exact allR_nil
                  exact allR_nil
                exact allR_nil
              exact allR_nil
            exact allR_nil
          rintro f w ⟨hf3, hS41⟩
          exact ⟨Phase, (Out.set x.B.toNat (bits .xor .i64 x1 x2)), sums, (some_inj hF5), (FF.cons (hf3.get 2 0 rfl) (FF.cons (hf3.get 4 1 rfl) (FF.cons (hf3.get 5 2 rfl) (FF.cons (hf3.get 6 3 rfl) (FF.cons (hf3.get 25 4 rfl) (FF.cons (hf3.get 26 5 rfl) (FF.cons (hf3.get 27 6 rfl) FF.nil))))))), (set_len _ _ _ hl), hl1, (hS41.sel [0, 1, 2, 3] rfl rfl)⟩
        · skip
          have hF6 := cf' hz1 hb2
          refine cw_seq ?_
          refine cw_region ?_
          refine sq 61 rfl rfl (Y_eq (k := .i64) (a := x.Kind) (b := 11) rfl rfl rfl) ?_
          refine sq 60 rfl rfl (Y_assign (v := .bool (x.Kind == 11)) rfl rfl) ?_
          refine rw_nil ?_
          refine cw_cond (b := (x.Kind == 11)) rfl (fun hb3 => ?_) (fun hb3 => ?_)
          · skip
            have hF7 := ct hF6 hb3
            obtain ⟨x3, hx3, hF7⟩ := bind_inv hF7
            obtain ⟨x4, hx4, hF7⟩ := bind_inv hF7
            obtain ⟨x5, hx5, hF7⟩ := bind_inv hF7
            refine cw_mid (fun f w => FF f [(2, pt (some ⟨b1, 0, none⟩) 0), (4, pt B4 0), (5, pt B6 0), (6, .slice B5 r_3.Rows.length c5), (25, .slice B c.Gates.length c1), (26, .int .i64 (c.Gates.length : Int)), (27, .int .i64 (i : Int))] ∧ ST w0 [] w [⟨some ⟨b1, 0, none⟩, 31, [.int .i64 0, .int .i64 0, .slice none 0 0, .slice none 0 0], 4⟩, ⟨B4, 31, [.int .i64 c.Qubits, .int .i64 Phase, .slice none 0 0, .slice B5 r_3.Rows.length c5], 4⟩, ⟨B5, 3, (((Out.set x.A.toNat x3).set x.B.toNat x4).flatMap encI), c5 * 1⟩, ⟨B6, 54, (sums.flatMap encI), 32⟩] [⟨B, (c.Gates.flatMap enc_Gate)⟩]) ?_ ?_
            · skip
              refine ra_start (ST.sel hS40 [0, 1, 3, 4] rfl rfl).fn (by kernel_rfl) ?_
              have hS50 := hS40.drew
              refine ra_q 0 62 (v := .slice B5 r_3.Rows.length c5) rfl rfl rfl (by kernel_rfl) (by kernel_rfl) (by kernel_rfl) (ST.sel hS50 [0, 1, 3, 4] rfl rfl) (fun w' hw' => (Y_move (v := .slice B5 r_3.Rows.length c5) rfl (hf1.get 6 3 rfl))) ?_
              refine ra_q 1 63 (v := pt (some ⟨b4, 0, none⟩) 1) rfl rfl rfl (by kernel_rfl) (by kernel_rfl) (by kernel_rfl) (ST.sel hS50 [0, 1, 3, 4] rfl rfl) (fun w' hw' => (Y_fieldAddr (B := some ⟨b4, 0, none⟩) (i := 0) (s := 0) k_fd_48_1_1_3 k_sz_3_1 rfl rfl)) ?_
              refine ra_q 2 64 (v := .int .i64 x.A) rfl rfl rfl (by kernel_rfl) (by kernel_rfl) (by kernel_rfl) (ST.sel hS50 [0, 1, 3, 4] rfl rfl) (fun w' hw' => (Y_load1 (B := some ⟨b4, 0, none⟩) (i := 1) (cs := [.int .i64 x.Kind, .int .i64 x.A, .int .i64 x.B]) (v := .int .i64 x.A) k_sc_3 rfl rfl (ST.cf hw' (i := 3) rfl) rfl)) ?_
              refine ra_q 3 65 (v := .slice B5 r_3.Rows.length c5) rfl rfl rfl (by kernel_rfl) (by kernel_rfl) (by kernel_rfl) (ST.sel hS50 [0, 1, 3, 4] rfl rfl) (fun w' hw' => (Y_move (v := .slice B5 r_3.Rows.length c5) rfl (hf1.get 6 3 rfl))) ?_
              refine ra_q 4 66 (v := pt (some ⟨b4, 0, none⟩) 2) rfl rfl rfl (by kernel_rfl) (by kernel_rfl) (by kernel_rfl) (ST.sel hS50 [0, 1, 3, 4] rfl rfl) (fun w' hw' => (Y_fieldAddr (B := some ⟨b4, 0, none⟩) (i := 0) (s := 0) k_fd_48_2_2_3 k_sz_3_1 rfl rfl)) ?_
              refine ra_q 5 67 (v := .int .i64 x.B) rfl rfl rfl (by kernel_rfl) (by kernel_rfl) (by kernel_rfl) (ST.sel hS50 [0, 1, 3, 4] rfl rfl) (fun w' hw' => (Y_load1 (B := some ⟨b4, 0, none⟩) (i := 2) (cs := [.int .i64 x.Kind, .int .i64 x.A, .int .i64 x.B]) (v := .int .i64 x.B) k_sc_3 rfl rfl (ST.cf hw' (i := 3) rfl) rfl)) ?_
              refine ra_q 6 68 (v := .slice B5 r_3.Rows.length c5) rfl rfl rfl (by kernel_rfl) (by kernel_rfl) (by kernel_rfl) (ST.sel hS50 [0, 1, 3, 4] rfl rfl) (fun w' hw' => (Y_move (v := .slice B5 r_3.Rows.length c5) rfl (hf1.get 6 3 rfl))) ?_
              refine ra_q 7 69 (v := pt (some ⟨b4, 0, none⟩) 2) rfl rfl rfl (by kernel_rfl) (by kernel_rfl) (by kernel_rfl) (ST.sel hS50 [0, 1, 3, 4] rfl rfl) (fun w' hw' => (Y_fieldAddr (B := some ⟨b4, 0, none⟩) (i := 0) (s := 0) k_fd_48_2_2_3 k_sz_3_1 rfl rfl)) ?_
              refine ra_q 8 70 (v := .int .i64 x.B) rfl rfl rfl (by kernel_rfl) (by kernel_rfl) (by kernel_rfl) (ST.sel hS50 [0, 1, 3, 4] rfl rfl) (fun w' hw' => (Y_load1 (B := some ⟨b4, 0, none⟩) (i := 2) (cs := [.int .i64 x.Kind, .int .i64 x.A, .int .i64 x.B]) (v := .int .i64 x.B) k_sc_3 rfl rfl (ST.cf hw' (i := 3) rfl) rfl)) ?_
              refine ra_q 11 73 (v := .slice B5 r_3.Rows.length c5) rfl rfl rfl (by kernel_rfl) (by kernel_rfl) (by kernel_rfl) (ST.sel hS50 [0, 1, 3, 4] rfl rfl) (fun w' hw' => (Y_move (v := .slice B5 r_3.Rows.length c5) rfl (hf1.get 6 3 rfl))) ?_
              refine ra_q 12 74 (v := pt (some ⟨b4, 0, none⟩) 1) rfl rfl rfl (by kernel_rfl) (by kernel_rfl) (by kernel_rfl) (ST.sel hS50 [0, 1, 3, 4] rfl rfl) (fun w' hw' => (Y_fieldAddr (B := some ⟨b4, 0, none⟩) (i := 0) (s := 0) k_fd_48_1_1_3 k_sz_3_1 rfl rfl)) ?_
              refine ra_q 13 75 (v := .int .i64 x.A) rfl rfl rfl (by kernel_rfl) (by kernel_rfl) (by kernel_rfl) (ST.sel hS50 [0, 1, 3, 4] rfl rfl) (fun w' hw' => (Y_load1 (B := some ⟨b4, 0, none⟩) (i := 1) (cs := [.int .i64 x.Kind, .int .i64 x.A, .int .i64 x.B]) (v := .int .i64 x.A) k_sc_3 rfl rfl (ST.cf hw' (i := 3) rfl) rfl)) ?_
              refine ra_all (rs := [9, 14]) (by kernel_rfl) rfl ?_
              refine ra_y 71 (i := 9) (v := pt B5 (x.B.toNat * 1)) rfl rfl rfl (Y_index (B := B5) (m := r_3.Rows.length) (c := c5) (k := .i64) (i := x.B) k_sl_27_3 k_sz_3_1 rfl rfl rfl (gi_isSome encI_len rfl (hS50.cf (i := 2) rfl) hx3) (getI_nn hx3) (getI_ltI hx3 hl)) (ST.sel hS50 [0, 1, 3, 4] rfl rfl) ?_ ?_
              · skip
                refine ra_all (rs := [10, 14]) (by kernel_rfl) rfl ?_
                refine ra_y 72 (i := 10) (v := .int .i64 x3) rfl rfl rfl (Y_load1 (B := B5) (i := x.B.toNat * 1) (cs := (Out.flatMap encI)) (v := .int .i64 x3) k_sc_3 rfl rfl (hS50.cf (i := 2) rfl) (gi_at0 encI_len hx3 rfl)) (ST.sel hS50 [0, 1, 3, 4] rfl rfl) ?_ ?_
                · skip
                  refine ra_all (rs := [14]) (by kernel_rfl) rfl ?_
                  refine ra_y 76 (i := 14) (v := pt B5 (x.A.toNat * 1)) rfl rfl rfl (Y_index (B := B5) (m := r_3.Rows.length) (c := c5) (k := .i64) (i := x.A) k_sl_27_3 k_sz_3_1 rfl rfl rfl (gi_isSome encI_len rfl (hS50.cf (i := 2) rfl) hx4) (getI_nn hx4) (getI_ltI hx4 hl)) (ST.sel hS50 [0, 1, 3, 4] rfl rfl) ?_ ?_
                  · skip
                    refine ra_all (rs := [15]) (by kernel_rfl) rfl ?_
                    refine ra_y 77 (i := 15) (v := .int .i64 x4) rfl rfl rfl (Y_load1 (B := B5) (i := x.A.toNat * 1) (cs := (Out.flatMap encI)) (v := .int .i64 x4) k_sc_3 rfl rfl (hS50.cf (i := 2) rfl) (gi_at0 encI_len hx4 rfl)) (ST.sel hS50 [0, 1, 3, 4] rfl rfl) ?_ ?_
                    · skip
                      refine ra_all (rs := [16]) (by kernel_rfl) rfl ?_
                      refine ra_y 78 (i := 16) (v := pt B5 (x.A.toNat * 1)) rfl rfl rfl (Y_index (B := B5) (m := r_3.Rows.length) (c := c5) (k := .i64) (i := x.A) k_sl_27_3 k_sz_3_1 rfl rfl rfl (gi_isSome encI_len rfl (hS50.cf (i := 2) rfl) hx4) (getI_nn hx4) (getI_ltI hx4 hl)) (ST.sel hS50 [0, 1, 3, 4] rfl rfl) ?_ ?_
                      · skip
                        refine ra_all (rs := [17]) (by kernel_rfl) rfl ?_
                        refine ra_s0 (i := 17) rfl rfl rfl (Ys_store (i := 2) (s := 1) (B := B5) (T' := 3) (v := .int .i64 x3) (vs := [.int .i64 x3]) (k := x.A.toNat * 1) (cs' := ((Out.set x.A.toNat x3).flatMap encI)) hS50 k_sz_3_1 rfl rfl rfl rfl rfl rfl rfl (gi_fit0 encI_len hx4) (gi_set encI_len hx4 x3 rfl) rfl) ?_ ?_
                        · rintro _ w_39 ⟨rfl, hS51⟩
                          have hS51 : ST w0 [] _ [⟨some ⟨b1, 0, none⟩, 31, [.int .i64 0, .int .i64 0, .slice none 0 0, .slice none 0 0], 4⟩, ⟨B4, 31, [.int .i64 c.Qubits, .int .i64 Phase, .slice none 0 0, .slice B5 r_3.Rows.length c5], 4⟩, ⟨B5, 3, ((Out.set x.A.toNat x3).flatMap encI), c5 * 1⟩, ⟨B6, 54, (sums.flatMap encI), 32⟩, ⟨some ⟨b4, 0, none⟩, 48, [.int .i64 x.Kind, .int .i64 x.A, .int .i64 x.B], 3⟩] [⟨B, (c.Gates.flatMap enc_Gate)⟩] := hS51
                          refine ⟨(ST.sel hS51 [0, 1, 3, 4] rfl rfl), ?_⟩
                          refine ra_all (rs := [18]) (by kernel_rfl) rfl ?_
                          refine ra_y 79 (i := 18) (v := pt B5 (x.B.toNat * 1)) rfl rfl rfl (Y_index (B := B5) (m := r_3.Rows.length) (c := c5) (k := .i64) (i := x.B) k_sl_27_3 k_sz_3_1 rfl rfl rfl (gi_isSome encI_len rfl (hS51.cf (i := 2) rfl) hx5) (getI_nn hx5) (getI_ltI hx5 (set_len _ _ _ hl))) (ST.sel hS51 [0, 1, 3, 4] rfl rfl) ?_ ?_
                          · skip
                            refine ra_all (rs := [19]) (by kernel_rfl) rfl ?_
                            refine ra_s0 (i := 19) rfl rfl rfl (Ys_store (i := 2) (s := 1) (B := B5) (T' := 3) (v := .int .i64 x4) (vs := [.int .i64 x4]) (k := x.B.toNat * 1) (cs' := (((Out.set x.A.toNat x3).set x.B.toNat x4).flatMap encI)) hS51 k_sz_3_1 rfl rfl rfl rfl rfl rfl rfl (gi_fit0 encI_len hx5) (gi_set encI_len hx5 x4 rfl) rfl) ?_ ?_
                            · rintro _ w_40 ⟨rfl, hS52⟩
                              have hS52 : ST w0 [] _ [⟨some ⟨b1, 0, none⟩, 31, [.int .i64 0, .int .i64 0, .slice none 0 0, .slice none 0 0], 4⟩, ⟨B4, 31, [.int .i64 c.Qubits, .int .i64 Phase, .slice none 0 0, .slice B5 r_3.Rows.length c5], 4⟩, ⟨B5, 3, (((Out.set x.A.toNat x3).set x.B.toNat x4).flatMap encI), c5 * 1⟩, ⟨B6, 54, (sums.flatMap encI), 32⟩, ⟨some ⟨b4, 0, none⟩, 48, [.int .i64 x.Kind, .int .i64 x.A, .int .i64 x.B], 3⟩] [⟨B, (c.Gates.flatMap enc_Gate)⟩] := hS52
                              refine ⟨(ST.sel hS52 [0, 1, 3, 4] rfl rfl), ?_⟩
                              refine ra_done (by kernel_rfl) ?_
                              exact ⟨(FF.cons (hf1.get 2 0 rfl) (FF.cons (hf1.get 4 1 rfl) (FF.cons (hf1.get 5 2 rfl) (FF.cons (hf1.get 6 3 rfl) (FF.cons (hf1.get 25 4 rfl) (FF.cons (hf1.get 26 5 rfl) (FF.cons (hf1.get 27 6 rfl) FF.nil))))))), (hS52.sel [0, 1, 2, 3] rfl rfl)⟩
                            exact allR_nil
                          exact allR_nil
                        exact allR_nil
                      exact allR_nil
                    exact allR_nil
                  exact allR_nil
                refine ra_y 76 (i := 14) (v := pt B5 (x.A.toNat * 1)) rfl rfl rfl (Y_index (B := B5) (m := r_3.Rows.length) (c := c5) (k := .i64) (i := x.A) k_sl_27_3 k_sz_3_1 rfl rfl rfl (gi_isSome encI_len rfl (hS50.cf (i := 2) rfl) hx4) (getI_nn hx4) (getI_ltI hx4 hl)) (ST.sel hS50 [0, 1, 3, 4] rfl rfl) ?_ ?_
                · skip
                  refine ra_all (rs := [10, 15]) (by kernel_rfl) rfl ?_
                  refine ra_y 72 (i := 10) (v := .int .i64 x3) rfl rfl rfl (Y_load1 (B := B5) (i := x.B.toNat * 1) (cs := (Out.flatMap encI)) (v := .int .i64 x3) k_sc_3 rfl rfl (hS50.cf (i := 2) rfl) (gi_at0 encI_len hx3 rfl)) (ST.sel hS50 [0, 1, 3, 4] rfl rfl) ?_ ?_
                  · skip
                    refine ra_all (rs := [15]) (by kernel_rfl) rfl ?_
                    refine ra_y 77 (i := 15) (v := .int .i64 x4) rfl rfl rfl (Y_load1 (B := B5) (i := x.A.toNat * 1) (cs := (Out.flatMap encI)) (v := .int .i64 x4) k_sc_3 rfl rfl (hS50.cf (i := 2) rfl) (gi_at0 encI_len hx4 rfl)) (ST.sel hS50 [0, 1, 3, 4] rfl rfl) ?_ ?_
                    · skip
                      refine ra_all (rs := [16]) (by kernel_rfl) rfl ?_
                      refine ra_y 78 (i := 16) (v := pt B5 (x.A.toNat * 1)) rfl rfl rfl (Y_index (B := B5) (m := r_3.Rows.length) (c := c5) (k := .i64) (i := x.A) k_sl_27_3 k_sz_3_1 rfl rfl rfl (gi_isSome encI_len rfl (hS50.cf (i := 2) rfl) hx4) (getI_nn hx4) (getI_ltI hx4 hl)) (ST.sel hS50 [0, 1, 3, 4] rfl rfl) ?_ ?_
                      · skip
                        refine ra_all (rs := [17]) (by kernel_rfl) rfl ?_
                        refine ra_s0 (i := 17) rfl rfl rfl (Ys_store (i := 2) (s := 1) (B := B5) (T' := 3) (v := .int .i64 x3) (vs := [.int .i64 x3]) (k := x.A.toNat * 1) (cs' := ((Out.set x.A.toNat x3).flatMap encI)) hS50 k_sz_3_1 rfl rfl rfl rfl rfl rfl rfl (gi_fit0 encI_len hx4) (gi_set encI_len hx4 x3 rfl) rfl) ?_ ?_
                        · rintro _ w_41 ⟨rfl, hS53⟩
                          have hS53 : ST w0 [] _ [⟨some ⟨b1, 0, none⟩, 31, [.int .i64 0, .int .i64 0, .slice none 0 0, .slice none 0 0], 4⟩, ⟨B4, 31, [.int .i64 c.Qubits, .int .i64 Phase, .slice none 0 0, .slice B5 r_3.Rows.length c5], 4⟩, ⟨B5, 3, ((Out.set x.A.toNat x3).flatMap encI), c5 * 1⟩, ⟨B6, 54, (sums.flatMap encI), 32⟩, ⟨some ⟨b4, 0, none⟩, 48, [.int .i64 x.Kind, .int .i64 x.A, .int .i64 x.B], 3⟩] [⟨B, (c.Gates.flatMap enc_Gate)⟩] := hS53
                          refine ⟨(ST.sel hS53 [0, 1, 3, 4] rfl rfl), ?_⟩
                          refine ra_all (rs := [18]) (by kernel_rfl) rfl ?_
                          refine ra_y 79 (i := 18) (v := pt B5 (x.B.toNat * 1)) rfl rfl rfl (Y_index (B := B5) (m := r_3.Rows.length) (c := c5) (k := .i64) (i := x.B) k_sl_27_3 k_sz_3_1 rfl rfl rfl (gi_isSome encI_len rfl (hS53.cf (i := 2) rfl) hx5) (getI_nn hx5) (getI_ltI hx5 (set_len _ _ _ hl))) (ST.sel hS53 [0, 1, 3, 4] rfl rfl) ?_ ?_
                          · skip
                            refine ra_all (rs := [19]) (by kernel_rfl) rfl ?_
                            refine ra_s0 (i := 19) rfl rfl rfl (Ys_store (i := 2) (s := 1) (B := B5) (T' := 3) (v := .int .i64 x4) (vs := [.int .i64 x4]) (k := x.B.toNat * 1) (cs' := (((Out.set x.A.toNat x3).set x.B.toNat x4).flatMap encI)) hS53 k_sz_3_1 rfl rfl rfl rfl rfl rfl rfl (gi_fit0 encI_len hx5) (gi_set encI_len hx5 x4 rfl) rfl) ?_ ?_
                            · rintro _ w_42 ⟨rfl, hS54⟩
                              have hS54 : ST w0 [] _ [⟨some ⟨b1, 0, none⟩, 31, [.int .i64 0, .int .i64 0, .slice none 0 0, .slice none 0 0], 4⟩, ⟨B4, 31, [.int .i64 c.Qubits, .int .i64 Phase, .slice none 0 0, .slice B5 r_3.Rows.length c5], 4⟩, ⟨B5, 3, (((Out.set x.A.toNat x3).set x.B.toNat x4).flatMap encI), c5 * 1⟩, ⟨B6, 54, (sums.flatMap encI), 32⟩, ⟨some ⟨b4, 0, none⟩, 48, [.int .i64 x.Kind, .int .i64 x.A, .int .i64 x.B], 3⟩] [⟨B, (c.Gates.flatMap enc_Gate)⟩] := hS54
                              refine ⟨(ST.sel hS54 [0, 1, 3, 4] rfl rfl), ?_⟩
                              refine ra_done (by kernel_rfl) ?_
                              exact ⟨(FF.cons (hf1.get 2 0 rfl) (FF.cons (hf1.get 4 1 rfl) (FF.cons (hf1.get 5 2 rfl) (FF.cons (hf1.get 6 3 rfl) (FF.cons (hf1.get 25 4 rfl) (FF.cons (hf1.get 26 5 rfl) (FF.cons (hf1.get 27 6 rfl) FF.nil))))))), (hS54.sel [0, 1, 2, 3] rfl rfl)⟩
                            exact allR_nil
                          exact allR_nil
                        exact allR_nil
                      exact allR_nil
                    exact allR_nil
                  refine ra_y 77 (i := 15) (v := .int .i64 x4) rfl rfl rfl (Y_load1 (B := B5) (i := x.A.toNat * 1) (cs := (Out.flatMap encI)) (v := .int .i64 x4) k_sc_3 rfl rfl (hS50.cf (i := 2) rfl) (gi_at0 encI_len hx4 rfl)) (ST.sel hS50 [0, 1, 3, 4] rfl rfl) ?_ ?_
                  · skip
                    refine ra_all (rs := [10]) (by kernel_rfl) rfl ?_
                    refine ra_y 72 (i := 10) (v := .int .i64 x3) rfl rfl rfl (Y_load1 (B := B5) (i := x.B.toNat * 1) (cs := (Out.flatMap encI)) (v := .int .i64 x3) k_sc_3 rfl rfl (hS50.cf (i := 2) rfl) (gi_at0 encI_len hx3 rfl)) (ST.sel hS50 [0, 1, 3, 4] rfl rfl) ?_ ?_
                    · skip
                      refine ra_all (rs := [16]) (by kernel_rfl) rfl ?_
                      refine ra_y 78 (i := 16) (v := pt B5 (x.A.toNat * 1)) rfl rfl rfl (Y_index (B := B5) (m := r_3.Rows.length) (c := c5) (k := .i64) (i := x.A) k_sl_27_3 k_sz_3_1 rfl rfl rfl (gi_isSome encI_len rfl (hS50.cf (i := 2) rfl) hx4) (getI_nn hx4) (getI_ltI hx4 hl)) (ST.sel hS50 [0, 1, 3, 4] rfl rfl) ?_ ?_
                      · skip
                        refine ra_all (rs := [17]) (by kernel_rfl) rfl ?_
                        refine ra_s0 (i := 17) rfl rfl rfl (Ys_store (i := 2) (s := 1) (B := B5) (T' := 3) (v := .int .i64 x3) (vs := [.int .i64 x3]) (k := x.A.toNat * 1) (cs' := ((Out.set x.A.toNat x3).flatMap encI)) hS50 k_sz_3_1 rfl rfl rfl rfl rfl rfl rfl (gi_fit0 encI_len hx4) (gi_set encI_len hx4 x3 rfl) rfl) ?_ ?_
                        · rintro _ w_43 ⟨rfl, hS55⟩
                          have hS55 : ST w0 [] _ [⟨some ⟨b1, 0, none⟩, 31, [.int .i64 0, .int .i64 0, .slice none 0 0, .slice none 0 0], 4⟩, ⟨B4, 31, [.int .i64 c.Qubits, .int .i64 Phase, .slice none 0 0, .slice B5 r_3.Rows.length c5], 4⟩, ⟨B5, 3, ((Out.set x.A.toNat x3).flatMap encI), c5 * 1⟩, ⟨B6, 54, (sums.flatMap encI), 32⟩, ⟨some ⟨b4, 0, none⟩, 48, [.int .i64 x.Kind, .int .i64 x.A, .int .i64 x.B], 3⟩] [⟨B, (c.Gates.flatMap enc_Gate)⟩] := hS55
                          refine ⟨(ST.sel hS55 [0, 1, 3, 4] rfl rfl), ?_⟩
                          refine ra_all (rs := [18]) (by kernel_rfl) rfl ?_
                          refine ra_y 79 (i := 18) (v := pt B5 (x.B.toNat * 1)) rfl rfl rfl (Y_index (B := B5) (m := r_3.Rows.length) (c := c5) (k := .i64) (i := x.B) k_sl_27_3 k_sz_3_1 rfl rfl rfl (gi_isSome encI_len rfl (hS55.cf (i := 2) rfl) hx5) (getI_nn hx5) (getI_ltI hx5 (set_len _ _ _ hl))) (ST.sel hS55 [0, 1, 3, 4] rfl rfl) ?_ ?_
                          · skip
                            refine ra_all (rs := [19]) (by kernel_rfl) rfl ?_
                            refine ra_s0 (i := 19) rfl rfl rfl (Ys_store (i := 2) (s := 1) (B := B5) (T' := 3) (v := .int .i64 x4) (vs := [.int .i64 x4]) (k := x.B.toNat * 1) (cs' := (((Out.set x.A.toNat x3).set x.B.toNat x4).flatMap encI)) hS55 k_sz_3_1 rfl rfl rfl rfl rfl rfl rfl (gi_fit0 encI_len hx5) (gi_set encI_len hx5 x4 rfl) rfl) ?_ ?_
                            · rintro _ w_44 ⟨rfl, hS56⟩
                              have hS56 : ST w0 [] _ [⟨some ⟨b1, 0, none⟩, 31, [.int .i64 0, .int .i64 0, .slice none 0 0, .slice none 0 0], 4⟩, ⟨B4, 31, [.int .i64 c.Qubits, .int .i64 Phase, .slice none 0 0, .slice B5 r_3.Rows.length c5], 4⟩, ⟨B5, 3, (((Out.set x.A.toNat x3).set x.B.toNat x4).flatMap encI), c5 * 1⟩, ⟨B6, 54, (sums.flatMap encI), 32⟩, ⟨some ⟨b4, 0, none⟩, 48, [.int .i64 x.Kind, .int .i64 x.A, .int .i64 x.B], 3⟩] [⟨B, (c.Gates.flatMap enc_Gate)⟩] := hS56
                              refine ⟨(ST.sel hS56 [0, 1, 3, 4] rfl rfl), ?_⟩
                              refine ra_done (by kernel_rfl) ?_
                              exact ⟨(FF.cons (hf1.get 2 0 rfl) (FF.cons (hf1.get 4 1 rfl) (FF.cons (hf1.get 5 2 rfl) (FF.cons (hf1.get 6 3 rfl) (FF.cons (hf1.get 25 4 rfl) (FF.cons (hf1.get 26 5 rfl) (FF.cons (hf1.get 27 6 rfl) FF.nil))))))), (hS56.sel [0, 1, 2, 3] rfl rfl)⟩
                            exact allR_nil
                          exact allR_nil
                        exact allR_nil
                      exact allR_nil
                    exact allR_nil
                  exact allR_nil
                exact allR_nil
              refine ra_y 76 (i := 14) (v := pt B5 (x.A.toNat * 1)) rfl rfl rfl (Y_index (B := B5) (m := r_3.Rows.length) (c := c5) (k := .i64) (i := x.A) k_sl_27_3 k_sz_3_1 rfl rfl rfl (gi_isSome encI_len rfl (hS50.cf (i := 2) rfl) hx4) (getI_nn hx4) (getI_ltI hx4 hl)) (ST.sel hS50 [0, 1, 3, 4] rfl rfl) ?_ ?_
              · skip
                refine ra_all (rs := [9, 15]) (by kernel_rfl) rfl ?_
                refine ra_y 71 (i := 9) (v := pt B5 (x.B.toNat * 1)) rfl rfl rfl (Y_index (B := B5) (m := r_3.Rows.length) (c := c5) (k := .i64) (i := x.B) k_sl_27_3 k_sz_3_1 rfl rfl rfl (gi_isSome encI_len rfl (hS50.cf (i := 2) rfl) hx3) (getI_nn hx3) (getI_ltI hx3 hl)) (ST.sel hS50 [0, 1, 3, 4] rfl rfl) ?_ ?_
                · skip
                  refine ra_all (rs := [10, 15]) (by kernel_rfl) rfl ?_
                  refine ra_y 72 (i := 10) (v := .int .i64 x3) rfl rfl rfl (Y_load1 (B := B5) (i := x.B.toNat * 1) (cs := (Out.flatMap encI)) (v := .int .i64 x3) k_sc_3 rfl rfl (hS50.cf (i := 2) rfl) (gi_at0 encI_len hx3 rfl)) (ST.sel hS50 [0, 1, 3, 4] rfl rfl) ?_ ?_
                  · skip
                    refine ra_all (rs := [15]) (by kernel_rfl) rfl ?_
                    refine ra_y 77 (i := 15) (v := .int .i64 x4) rfl rfl rfl (Y_load1 (B := B5) (i := x.A.toNat * 1) (cs := (Out.flatMap encI)) (v := .int .i64 x4) k_sc_3 rfl rfl (hS50.cf (i := 2) rfl) (gi_at0 encI_len hx4 rfl)) (ST.sel hS50 [0, 1, 3, 4] rfl rfl) ?_ ?_
                    · skip
                      refine ra_all (rs := [16]) (by kernel_rfl) rfl ?_
                      refine ra_y 78 (i := 16) (v := pt B5 (x.A.toNat * 1)) rfl rfl rfl (Y_index (B := B5) (m := r_3.Rows.length) (c := c5) (k := .i64) (i := x.A) k_sl_27_3 k_sz_3_1 rfl rfl rfl (gi_isSome encI_len rfl (hS50.cf (i := 2) rfl) hx4) (getI_nn hx4) (getI_ltI hx4 hl)) (ST.sel hS50 [0, 1, 3, 4] rfl rfl) ?_ ?_
                      · skip
                        refine ra_all (rs := [17]) (by kernel_rfl) rfl ?_
                        refine ra_s0 (i := 17) rfl rfl rfl (Ys_store (i := 2) (s := 1) (B := B5) (T' := 3) (v := .int .i64 x3) (vs := [.int .i64 x3]) (k := x.A.toNat * 1) (cs' := ((Out.set x.A.toNat x3).flatMap encI)) hS50 k_sz_3_1 rfl rfl rfl rfl rfl rfl rfl (gi_fit0 encI_len hx4) (gi_set encI_len hx4 x3 rfl) rfl) ?_ ?_
                        · rintro _ w_45 ⟨rfl, hS57⟩
                          have hS57 : ST w0 [] _ [⟨some ⟨b1, 0, none⟩, 31, [.int .i64 0, .int .i64 0, .slice none 0 0, .slice none 0 0], 4⟩, ⟨B4, 31, [.int .i64 c.Qubits, .int .i64 Phase, .slice none 0 0, .slice B5 r_3.Rows.length c5], 4⟩, ⟨B5, 3, ((Out.set x.A.toNat x3).flatMap encI), c5 * 1⟩, ⟨B6, 54, (sums.flatMap encI), 32⟩, ⟨some ⟨b4, 0, none⟩, 48, [.int .i64 x.Kind, .int .i64 x.A, .int .i64 x.B], 3⟩] [⟨B, (c.Gates.flatMap enc_Gate)⟩] := hS57
                          refine ⟨(ST.sel hS57 [0, 1, 3, 4] rfl rfl), ?_⟩
                          refine ra_all (rs := [18]) (by kernel_rfl) rfl ?_
                          refine ra_y 79 (i := 18) (v := pt B5 (x.B.toNat * 1)) rfl rfl rfl (Y_index (B := B5) (m := r_3.Rows.length) (c := c5) (k := .i64) (i := x.B) k_sl_27_3 k_sz_3_1 rfl rfl rfl (gi_isSome encI_len rfl (hS57.cf (i := 2) rfl) hx5) (getI_nn hx5) (getI_ltI hx5 (set_len _ _ _ hl))) (ST.sel hS57 [0, 1, 3, 4] rfl rfl) ?_ ?_
                          · skip
                            refine ra_all (rs := [19]) (by kernel_rfl) rfl ?_
                            refine ra_s0 (i := 19) rfl rfl rfl (Ys_store (i := 2) (s := 1) (B := B5) (T' := 3) (v := .int .i64 x4) (vs := [.int .i64 x4]) (k := x.B.toNat * 1) (cs' := (((Out.set x.A.toNat x3).set x.B.toNat x4).flatMap encI)) hS57 k_sz_3_1 rfl rfl rfl rfl rfl rfl rfl (gi_fit0 encI_len hx5) (gi_set encI_len hx5 x4 rfl) rfl) ?_ ?_
                            · rintro _ w_46 ⟨rfl, hS58⟩
                              have hS58 : ST w0 [] _ [⟨some ⟨b1, 0, none⟩, 31, [.int .i64 0, .int .i64 0, .slice none 0 0, .slice none 0 0], 4⟩, ⟨B4, 31, [.int .i64 c.Qubits, .int .i64 Phase, .slice none 0 0, .slice B5 r_3.Rows.length c5], 4⟩, ⟨B5, 3, (((Out.set x.A.toNat x3).set x.B.toNat x4).flatMap encI), c5 * 1⟩, ⟨B6, 54, (sums.flatMap encI), 32⟩, ⟨some ⟨b4, 0, none⟩, 48, [.int .i64 x.Kind, .int .i64 x.A, .int .i64 x.B], 3⟩] [⟨B, (c.Gates.flatMap enc_Gate)⟩] := hS58
                              refine ⟨(ST.sel hS58 [0, 1, 3, 4] rfl rfl), ?_⟩
                              refine ra_done (by kernel_rfl) ?_
                              exact ⟨(FF.cons (hf1.get 2 0 rfl) (FF.cons (hf1.get 4 1 rfl) (FF.cons (hf1.get 5 2 rfl) (FF.cons (hf1.get 6 3 rfl) (FF.cons (hf1.get 25 4 rfl) (FF.cons (hf1.get 26 5 rfl) (FF.cons (hf1.get 27 6 rfl) FF.nil))))))), (hS58.sel [0, 1, 2, 3] rfl rfl)⟩
                            exact allR_nil
                          exact allR_nil
                        exact allR_nil
                      exact allR_nil
                    exact allR_nil
                  refine ra_y 77 (i := 15) (v := .int .i64 x4) rfl rfl rfl (Y_load1 (B := B5) (i := x.A.toNat * 1) (cs := (Out.flatMap encI)) (v := .int .i64 x4) k_sc_3 rfl rfl (hS50.cf (i := 2) rfl) (gi_at0 encI_len hx4 rfl)) (ST.sel hS50 [0, 1, 3, 4] rfl rfl) ?_ ?_
                  · skip
                    refine ra_all (rs := [10]) (by kernel_rfl) rfl ?_
                    refine ra_y 72 (i := 10) (v := .int .i64 x3) rfl rfl rfl (Y_load1 (B := B5) (i := x.B.toNat * 1) (cs := (Out.flatMap encI)) (v := .int .i64 x3) k_sc_3 rfl rfl (hS50.cf (i := 2) rfl) (gi_at0 encI_len hx3 rfl)) (ST.sel hS50 [0, 1, 3, 4] rfl rfl) ?_ ?_
                    · skip
                      refine ra_all (rs := [16]) (by kernel_rfl) rfl ?_
                      refine ra_y 78 (i := 16) (v := pt B5 (x.A.toNat * 1)) rfl rfl rfl (Y_index (B := B5) (m := r_3.Rows.length) (c := c5) (k := .i64) (i := x.A) k_sl_27_3 k_sz_3_1 rfl rfl rfl (gi_isSome encI_len rfl (hS50.cf (i := 2) rfl) hx4) (getI_nn hx4) (getI_ltI hx4 hl)) (ST.sel hS50 [0, 1, 3, 4] rfl rfl) ?_ ?_
                      · skip
                        refine ra_all (rs := [17]) (by kernel_rfl) rfl ?_
                        refine ra_s0 (i := 17) rfl rfl rfl (Ys_store (i := 2) (s := 1) (B := B5) (T' := 3) (v := .int .i64 x3) (vs := [.int .i64 x3]) (k := x.A.toNat * 1) (cs' := ((Out.set x.A.toNat x3).flatMap encI)) hS50 k_sz_3_1 rfl rfl rfl rfl rfl rfl rfl (gi_fit0 encI_len hx4) (gi_set encI_len hx4 x3 rfl) rfl) ?_ ?_
                        · rintro _ w_47 ⟨rfl, hS59⟩
                          have hS59 : ST w0 [] _ [⟨some ⟨b1, 0, none⟩, 31, [.int .i64 0, .int .i64 0, .slice none 0 0, .slice none 0 0], 4⟩, ⟨B4, 31, [.int .i64 c.Qubits, .int .i64 Phase, .slice none 0 0, .slice B5 r_3.Rows.length c5], 4⟩, ⟨B5, 3, ((Out.set x.A.toNat x3).flatMap encI), c5 * 1⟩, ⟨B6, 54, (sums.flatMap encI), 32⟩, ⟨some ⟨b4, 0, none⟩, 48, [.int .i64 x.Kind, .int .i64 x.A, .int .i64 x.B], 3⟩] [⟨B, (c.Gates.flatMap enc_Gate)⟩] := hS59
                          refine ⟨(ST.sel hS59 [0, 1, 3, 4] rfl rfl), ?_⟩
                          refine ra_all (rs := [18]) (by kernel_rfl) rfl ?_
                          refine ra_y 79 (i := 18) (v := pt B5 (x.B.toNat * 1)) rfl rfl rfl (Y_index (B := B5) (m := r_3.Rows.length) (c := c5) (k := .i64) (i := x.B) k_sl_27_3 k_sz_3_1 rfl rfl rfl (gi_isSome encI_len rfl (hS59.cf (i := 2) rfl) hx5) (getI_nn hx5) (getI_ltI hx5 (set_len _ _ _ hl))) (ST.sel hS59 [0, 1, 3, 4] rfl rfl) ?_ ?_
                          · skip
                            refine ra_all (rs := [19]) (by kernel_rfl) rfl ?_
                            refine ra_s0 (i := 19) rfl rfl rfl (Ys_store (i := 2) (s := 1) (B := B5) (T' := 3) (v := .int .i64 x4) (vs := [.int .i64 x4]) (k := x.B.toNat * 1) (cs' := (((Out.set x.A.toNat x3).set x.B.toNat x4).flatMap encI)) hS59 k_sz_3_1 rfl rfl rfl rfl rfl rfl rfl (gi_fit0 encI_len hx5) (gi_set encI_len hx5 x4 rfl) rfl) ?_ ?_
                            · rintro _ w_48 ⟨rfl, hS60⟩
                              have hS60 : ST w0 [] _ [⟨some ⟨b1, 0, none⟩, 31, [.int .i64 0, .int .i64 0, .slice none 0 0, .slice none 0 0], 4⟩, ⟨B4, 31, [.int .i64 c.Qubits, .int .i64 Phase, .slice none 0 0, .slice B5 r_3.Rows.length c5], 4⟩, ⟨B5, 3, (((Out.set x.A.toNat x3).set x.B.toNat x4).flatMap encI), c5 * 1⟩, ⟨B6, 54, (sums.flatMap encI), 32⟩, ⟨some ⟨b4, 0, none⟩, 48, [.int .i64 x.Kind, .int .i64 x.A, .int .i64 x.B], 3⟩] [⟨B, (c.Gates.flatMap enc_Gate)⟩] := hS60
                              refine ⟨(ST.sel hS60 [0, 1, 3, 4] rfl rfl), ?_⟩
                              refine ra_done (by kernel_rfl) ?_
                              exact ⟨(FF.cons (hf1.get 2 0 rfl) (FF.cons (hf1.get 4 1 rfl) (FF.cons (hf1.get 5 2 rfl) (FF.cons (hf1.get 6 3 rfl) (FF.cons (hf1.get 25 4 rfl) (FF.cons (hf1.get 26 5 rfl) (FF.cons (hf1.get 27 6 rfl) FF.nil))))))), (hS60.sel [0, 1, 2, 3] rfl rfl)⟩
                            exact allR_nil
                          exact allR_nil
                        exact allR_nil
                      exact allR_nil
                    exact allR_nil
                  exact allR_nil
                refine ra_y 77 (i := 15) (v := .int .i64 x4) rfl rfl rfl (Y_load1 (B := B5) (i := x.A.toNat * 1) (cs := (Out.flatMap encI)) (v := .int .i64 x4) k_sc_3 rfl rfl (hS50.cf (i := 2) rfl) (gi_at0 encI_len hx4 rfl)) (ST.sel hS50 [0, 1, 3, 4] rfl rfl) ?_ ?_
                · skip
                  refine ra_all (rs := [9]) (by kernel_rfl) rfl ?_
                  refine ra_y 71 (i := 9) (v := pt B5 (x.B.toNat * 1)) rfl rfl rfl (Y_index (B := B5) (m := r_3.Rows.length) (c := c5) (k := .i64) (i := x.B) k_sl_27_3 k_sz_3_1 rfl rfl rfl (gi_isSome encI_len rfl (hS50.cf (i := 2) rfl) hx3) (getI_nn hx3) (getI_ltI hx3 hl)) (ST.sel hS50 [0, 1, 3, 4] rfl rfl) ?_ ?_
                  · skip
                    refine ra_all (rs := [10]) (by kernel_rfl) rfl ?_
                    refine ra_y 72 (i := 10) (v := .int .i64 x3) rfl rfl rfl (Y_load1 (B := B5) (i := x.B.toNat * 1) (cs := (Out.flatMap encI)) (v := .int .i64 x3) k_sc_3 rfl rfl (hS50.cf (i := 2) rfl) (gi_at0 encI_len hx3 rfl)) (ST.sel hS50 [0, 1, 3, 4] rfl rfl) ?_ ?_
                    · skip
                      refine ra_all (rs := [16]) (by kernel_rfl) rfl ?_
                      refine ra_y 78 (i := 16) (v := pt B5 (x.A.toNat * 1)) rfl rfl rfl (Y_index (B := B5) (m := r_3.Rows.length) (c := c5) (k := .i64) (i := x.A) k_sl_27_3 k_sz_3_1 rfl rfl rfl (gi_isSome encI_len rfl (hS50.cf (i := 2) rfl) hx4) (getI_nn hx4) (getI_ltI hx4 hl)) (ST.sel hS50 [0, 1, 3, 4] rfl rfl) ?_ ?_
                      · skip
                        refine ra_all (rs := [17]) (by kernel_rfl) rfl ?_
                        refine ra_s0 (i := 17) rfl rfl rfl (Ys_store (i := 2) (s := 1) (B := B5) (T' := 3) (v := .int .i64 x3) (vs := [.int .i64 x3]) (k := x.A.toNat * 1) (cs' := ((Out.set x.A.toNat x3).flatMap encI)) hS50 k_sz_3_1 rfl rfl rfl rfl rfl rfl rfl (gi_fit0 encI_len hx4) (gi_set encI_len hx4 x3 rfl) rfl) ?_ ?_
                        · rintro _ w_49 ⟨rfl, hS61⟩
                          have hS61 : ST w0 [] _ [⟨some ⟨b1, 0, none⟩, 31, [.int .i64 0, .int .i64 0, .slice none 0 0, .slice none 0 0], 4⟩, ⟨B4, 31, [.int .i64 c.Qubits, .int .i64 Phase, .slice none 0 0, .slice B5 r_3.Rows.length c5], 4⟩, ⟨B5, 3, ((Out.set x.A.toNat x3).flatMap encI), c5 * 1⟩, ⟨B6, 54, (sums.flatMap encI), 32⟩, ⟨some ⟨b4, 0, none⟩, 48, [.int .i64 x.Kind, .int .i64 x.A, .int .i64 x.B], 3⟩] [⟨B, (c.Gates.flatMap enc_Gate)⟩] := hS61
                          refine ⟨(ST.sel hS61 [0, 1, 3, 4] rfl rfl), ?_⟩
                          refine ra_all (rs := [18]) (by kernel_rfl) rfl ?_
                          refine ra_y 79 (i := 18) (v := pt B5 (x.B.toNat * 1)) rfl rfl rfl (Y_index (B := B5) (m := r_3.Rows.length) (c := c5) (k := .i64) (i := x.B) k_sl_27_3 k_sz_3_1 rfl rfl rfl (gi_isSome encI_len rfl (hS61.cf (i := 2) rfl) hx5) (getI_nn hx5) (getI_ltI hx5 (set_len _ _ _ hl))) (ST.sel hS61 [0, 1, 3, 4] rfl rfl) ?_ ?_
                          · skip
                            refine ra_all (rs := [19]) (by kernel_rfl) rfl ?_
                            refine ra_s0 (i := 19) rfl rfl rfl (Ys_store (i := 2) (s := 1) (B := B5) (T' := 3) (v := .int .i64 x4) (vs := [.int .i64 x4]) (k := x.B.toNat * 1) (cs' := (((Out.set x.A.toNat x3).set x.B.toNat x4).flatMap encI)) hS61 k_sz_3_1 rfl rfl rfl rfl rfl rfl rfl (gi_fit0 encI_len hx5) (gi_set encI_len hx5 x4 rfl) rfl) ?_ ?_
                            · rintro _ w_50 ⟨rfl, hS62⟩
                              have hS62 : ST w0 [] _ [⟨some ⟨b1, 0, none⟩, 31, [.int .i64 0, .int .i64 0, .slice none 0 0, .slice none 0 0], 4⟩, ⟨B4, 31, [.int .i64 c.Qubits, .int .i64 Phase, .slice none 0 0, .slice B5 r_3.Rows.length c5], 4⟩, ⟨B5, 3, (((Out.set x.A.toNat x3).set x.B.toNat x4).flatMap encI), c5 * 1⟩, ⟨B6, 54, (sums.flatMap encI), 32⟩, ⟨some ⟨b4, 0, none⟩, 48, [.int .i64 x.Kind, .int .i64 x.A, .int .i64 x.B], 3⟩] [⟨B, (c.Gates.flatMap enc_Gate)⟩] := hS62
                              refine ⟨(ST.sel hS62 [0, 1, 3, 4] rfl rfl), ?_⟩
                              refine ra_done (by kernel_rfl) ?_
                              exact ⟨(FF.cons (hf1.get 2 0 rfl) (FF.cons (hf1.get 4 1 rfl) (FF.cons (hf1.get 5 2 rfl) (FF.cons (hf1.get 6 3 rfl) (FF.cons (hf1.get 25 4 rfl) (FF.cons (hf1.get 26 5 rfl) (FF.cons (hf1.get 27 6 rfl) FF.nil))))))), (hS62.sel [0, 1, 2, 3] rfl rfl)⟩
                            exact allR_nil
                          exact allR_nil
                        exact allR_nil
                      exact allR_nil
                    exact allR_nil
                  exact allR_nil
                exact allR_nil
              exact allR_nil
            rintro f w ⟨hf4, hS49⟩
            exact ⟨Phase, ((Out.set x.A.toNat x3).set x.B.toNat x4), sums, (some_inj hF7), (FF.cons (hf4.get 2 0 rfl) (FF.cons (hf4.get 4 1 rfl) (FF.cons (hf4.get 5 2 rfl) (FF.cons (hf4.get 6 3 rfl) (FF.cons (hf4.get 25 4 rfl) (FF.cons (hf4.get 26 5 rfl) (FF.cons (hf4.get 27 6 rfl) FF.nil))))))), (set_len _ _ _ (set_len _ _ _ hl)), hl1, (hS49.sel [0, 1, 2, 3] rfl rfl)⟩
          · skip
            have hF8 := cf' hF6 hb3
            refine cw_seq ?_
            refine cw_region ?_
            refine sq 81 rfl rfl (Y_eq (k := .i64) (a := x.Kind) (b := 10) rfl rfl rfl) ?_
            refine sq 80 rfl rfl (Y_assign (v := .bool (x.Kind == 10)) rfl rfl) ?_
            refine rw_nil ?_
            refine cw_cond (b := (x.Kind == 10)) rfl (fun hb4 => ?_) (fun hb4 => ?_)
            · skip
              have hF9 := ct hF8 hb4
              refine cw_seq ?_
              refine cw_region ?_
              refine sq 82 rfl rfl (Y_move (v := .slice B5 r_3.Rows.length c5) rfl (hf1.get 6 3 rfl)) ?_
              refine sq 83 rfl rfl (Y_fieldAddr (B := some ⟨b4, 0, none⟩) (i := 0) (s := 0) k_fd_48_1_1_3 k_sz_3_1 rfl rfl) ?_
              refine sq 84 rfl rfl (Y_load1 (B := some ⟨b4, 0, none⟩) (i := 1) (cs := [.int .i64 x.Kind, .int .i64 x.A, .int .i64 x.B]) (v := .int .i64 x.A) k_sc_3 rfl rfl (hS40.cf (i := 4) rfl) rfl) ?_
              obtain ⟨x6, hx6, hF9⟩ := bind_inv hF9
              refine sq 85 rfl rfl (Y_index (B := B5) (m := r_3.Rows.length) (c := c5) (k := .i64) (i := x.A) k_sl_27_3 k_sz_3_1 rfl rfl rfl (gi_isSome encI_len rfl (hS40.cf (i := 2) rfl) hx6) (getI_nn hx6) (getI_ltI hx6 hl)) ?_
              refine sq 86 rfl rfl (Y_load1 (B := B5) (i := x.A.toNat * 1) (cs := (Out.flatMap encI)) (v := .int .i64 x6) k_sc_3 rfl rfl (hS40.cf (i := 2) rfl) (gi_at0 encI_len hx6 rfl)) ?_
              obtain ⟨m, hc2, hF9⟩ := bind_inv hF9
              refine sc 87 rfl rfl (Yc_func (g := 22) (vs := [pt B6 0, .int .i64 x6, .int .i64 2]) k_call_22 rfl (mc (hf1.get 5 2 rfl) (mc rfl (mc rfl mn))) (c_impl_coefficients_add sums x6 2 B6 _ hl1 (hS40.inn [false, false, false, true, false] rfl [] rfl) hc2)) ?_
              rintro _ w_51 ⟨rfl, hl4, hd6⟩
              have hS63 := hS40.out [false, false, false, true, false] rfl hd6
              have hS63 : ST w0 [] _ [⟨some ⟨b1, 0, none⟩, 31, [.int .i64 0, .int .i64 0, .slice none 0 0, .slice none 0 0], 4⟩, ⟨B4, 31, [.int .i64 c.Qubits, .int .i64 Phase, .slice none 0 0, .slice B5 r_3.Rows.length c5], 4⟩, ⟨B5, 3, (Out.flatMap encI), c5 * 1⟩, ⟨some ⟨b4, 0, none⟩, 48, [.int .i64 x.Kind, .int .i64 x.A, .int .i64 x.B], 3⟩, ⟨B6, 54, (m.flatMap encI), 32⟩] [⟨B, (c.Gates.flatMap enc_Gate)⟩] := hS63
              refine rw_nil ?_
              refine cw_seq ?_
              refine cw_region ?_
              refine sq 88 rfl rfl (Y_move (v := .slice B5 r_3.Rows.length c5) rfl (hf1.get 6 3 rfl)) ?_
              refine sq 89 rfl rfl (Y_fieldAddr (B := some ⟨b4, 0, none⟩) (i := 0) (s := 0) k_fd_48_2_2_3 k_sz_3_1 rfl rfl) ?_
              refine sq 90 rfl rfl (Y_load1 (B := some ⟨b4, 0, none⟩) (i := 2) (cs := [.int .i64 x.Kind, .int .i64 x.A, .int .i64 x.B]) (v := .int .i64 x.B) k_sc_3 rfl rfl (hS63.cf (i := 3) rfl) rfl) ?_
              obtain ⟨x7, hx7, hF9⟩ := bind_inv hF9
              refine sq 91 rfl rfl (Y_index (B := B5) (m := r_3.Rows.length) (c := c5) (k := .i64) (i := x.B) k_sl_27_3 k_sz_3_1 rfl rfl rfl (gi_isSome encI_len rfl (hS63.cf (i := 2) rfl) hx7) (getI_nn hx7) (getI_ltI hx7 hl)) ?_
              refine sq 92 rfl rfl (Y_load1 (B := B5) (i := x.B.toNat * 1) (cs := (Out.flatMap encI)) (v := .int .i64 x7) k_sc_3 rfl rfl (hS63.cf (i := 2) rfl) (gi_at0 encI_len hx7 rfl)) ?_
              obtain ⟨m1, hc3, hF9⟩ := bind_inv hF9
              refine sc 93 rfl rfl (Yc_func (g := 22) (vs := [pt B6 0, .int .i64 x7, .int .i64 2]) k_call_22 rfl (mc (hf1.get 5 2 rfl) (mc rfl (mc rfl mn))) (c_impl_coefficients_add m x7 2 B6 _ hl4 (hS63.inn [false, false, false, false, true] rfl [] rfl) hc3)) ?_
              rintro _ w_52 ⟨rfl, hl5, hd7⟩
              have hS64 := hS63.out [false, false, false, false, true] rfl hd7
              have hS64 : ST w0 [] _ [⟨some ⟨b1, 0, none⟩, 31, [.int .i64 0, .int .i64 0, .slice none 0 0, .slice none 0 0], 4⟩, ⟨B4, 31, [.int .i64 c.Qubits, .int .i64 Phase, .slice none 0 0, .slice B5 r_3.Rows.length c5], 4⟩, ⟨B5, 3, (Out.flatMap encI), c5 * 1⟩, ⟨some ⟨b4, 0, none⟩, 48, [.int .i64 x.Kind, .int .i64 x.A, .int .i64 x.B], 3⟩, ⟨B6, 54, (m1.flatMap encI), 32⟩] [⟨B, (c.Gates.flatMap enc_Gate)⟩] := hS64
              refine rw_nil ?_
              obtain ⟨m2, hc4, hF9⟩ := bind_inv hF9
              refine ra_start (ST.sel hS64 [0, 1, 2, 3] rfl rfl).fn (by kernel_rfl) ?_
              have hS66 := hS64.drew
              refine ra_q 0 94 (v := .slice B5 r_3.Rows.length c5) rfl rfl rfl (by kernel_rfl) (by kernel_rfl) (by kernel_rfl) (ST.sel hS66 [0, 1, 2, 3] rfl rfl) (fun w' hw' => (Y_move (v := .slice B5 r_3.Rows.length c5) rfl (hf1.get 6 3 rfl))) ?_
              refine ra_q 1 95 (v := pt (some ⟨b4, 0, none⟩) 1) rfl rfl rfl (by kernel_rfl) (by kernel_rfl) (by kernel_rfl) (ST.sel hS66 [0, 1, 2, 3] rfl rfl) (fun w' hw' => (Y_fieldAddr (B := some ⟨b4, 0, none⟩) (i := 0) (s := 0) k_fd_48_1_1_3 k_sz_3_1 rfl rfl)) ?_
              refine ra_q 2 96 (v := .int .i64 x.A) rfl rfl rfl (by kernel_rfl) (by kernel_rfl) (by kernel_rfl) (ST.sel hS66 [0, 1, 2, 3] rfl rfl) (fun w' hw' => (Y_load1 (B := some ⟨b4, 0, none⟩) (i := 1) (cs := [.int .i64 x.Kind, .int .i64 x.A, .int .i64 x.B]) (v := .int .i64 x.A) k_sc_3 rfl rfl (ST.cf hw' (i := 3) rfl) rfl)) ?_
              refine ra_q 3 97 (v := pt B5 (x.A.toNat * 1)) rfl rfl rfl (by kernel_rfl) (by kernel_rfl) (by kernel_rfl) (ST.sel hS66 [0, 1, 2, 3] rfl rfl) (fun w' hw' => (Y_index (B := B5) (m := r_3.Rows.length) (c := c5) (k := .i64) (i := x.A) k_sl_27_3 k_sz_3_1 rfl rfl rfl (gi_isSome encI_len rfl (ST.cf hw' (i := 2) rfl) hx6) (getI_nn hx6) (getI_ltI hx6 hl))) ?_
              refine ra_q 4 98 (v := .int .i64 x6) rfl rfl rfl (by kernel_rfl) (by kernel_rfl) (by kernel_rfl) (ST.sel hS66 [0, 1, 2, 3] rfl rfl) (fun w' hw' => (Y_load1 (B := B5) (i := x.A.toNat * 1) (cs := (Out.flatMap encI)) (v := .int .i64 x6) k_sc_3 rfl rfl (ST.cf hw' (i := 2) rfl) (gi_at0 encI_len hx6 rfl))) ?_
              refine ra_q 5 99 (v := .slice B5 r_3.Rows.length c5) rfl rfl rfl (by kernel_rfl) (by kernel_rfl) (by kernel_rfl) (ST.sel hS66 [0, 1, 2, 3] rfl rfl) (fun w' hw' => (Y_move (v := .slice B5 r_3.Rows.length c5) rfl (hf1.get 6 3 rfl))) ?_
              refine ra_q 6 100 (v := pt (some ⟨b4, 0, none⟩) 2) rfl rfl rfl (by kernel_rfl) (by kernel_rfl) (by kernel_rfl) (ST.sel hS66 [0, 1, 2, 3] rfl rfl) (fun w' hw' => (Y_fieldAddr (B := some ⟨b4, 0, none⟩) (i := 0) (s := 0) k_fd_48_2_2_3 k_sz_3_1 rfl rfl)) ?_
              refine ra_q 7 101 (v := .int .i64 x.B) rfl rfl rfl (by kernel_rfl) (by kernel_rfl) (by kernel_rfl) (ST.sel hS66 [0, 1, 2, 3] rfl rfl) (fun w' hw' => (Y_load1 (B := some ⟨b4, 0, none⟩) (i := 2) (cs := [.int .i64 x.Kind, .int .i64 x.A, .int .i64 x.B]) (v := .int .i64 x.B) k_sc_3 rfl rfl (ST.cf hw' (i := 3) rfl) rfl)) ?_
              refine ra_q 8 102 (v := pt B5 (x.B.toNat * 1)) rfl rfl rfl (by kernel_rfl) (by kernel_rfl) (by kernel_rfl) (ST.sel hS66 [0, 1, 2, 3] rfl rfl) (fun w' hw' => (Y_index (B := B5) (m := r_3.Rows.length) (c := c5) (k := .i64) (i := x.B) k_sl_27_3 k_sz_3_1 rfl rfl rfl (gi_isSome encI_len rfl (ST.cf hw' (i := 2) rfl) hx7) (getI_nn hx7) (getI_ltI hx7 hl))) ?_
              refine ra_q 9 103 (v := .int .i64 x7) rfl rfl rfl (by kernel_rfl) (by kernel_rfl) (by kernel_rfl) (ST.sel hS66 [0, 1, 2, 3] rfl rfl) (fun w' hw' => (Y_load1 (B := B5) (i := x.B.toNat * 1) (cs := (Out.flatMap encI)) (v := .int .i64 x7) k_sc_3 rfl rfl (ST.cf hw' (i := 2) rfl) (gi_at0 encI_len hx7 rfl))) ?_
              refine ra_q 10 104 (v := .int .i64 (bits .xor .i64 x6 x7)) rfl rfl rfl (by kernel_rfl) (by kernel_rfl) (by kernel_rfl) (ST.sel hS66 [0, 1, 2, 3] rfl rfl) (fun w' hw' => (Y_bxor (k := .i64) (a := x6) (b := x7) rfl rfl rfl)) ?_
              refine ra_all (rs := [11]) (by kernel_rfl) rfl ?_
              refine ra_c 105 (i := 11) rfl rfl rfl (Yc_func (g := 22) (vs := [pt B6 0, .int .i64 (bits .xor .i64 x6 x7), .int .i64 6]) k_call_22 rfl (mc (hf1.get 5 2 rfl) (mc rfl (mc rfl mn))) (c_impl_coefficients_add m1 (bits .xor .i64 x6 x7) 6 B6 _ hl5 (hS66.inn [false, false, false, false, true] rfl [] rfl) hc4)) ?_ ?_
              · rintro _ w_53 ⟨rfl, hl6, hd8⟩
                have hS67 := hS66.out [false, false, false, false, true] rfl hd8
                have hS67 : ST w0 [] _ [⟨some ⟨b1, 0, none⟩, 31, [.int .i64 0, .int .i64 0, .slice none 0 0, .slice none 0 0], 4⟩, ⟨B4, 31, [.int .i64 c.Qubits, .int .i64 Phase, .slice none 0 0, .slice B5 r_3.Rows.length c5], 4⟩, ⟨B5, 3, (Out.flatMap encI), c5 * 1⟩, ⟨some ⟨b4, 0, none⟩, 48, [.int .i64 x.Kind, .int .i64 x.A, .int .i64 x.B], 3⟩, ⟨B6, 54, (m2.flatMap encI), 32⟩] [⟨B, (c.Gates.flatMap enc_Gate)⟩] := hS67
                refine ⟨(ST.sel hS67 [0, 1, 2, 3] rfl rfl), ?_⟩
                refine ra_done (by kernel_rfl) ?_
                exact ⟨Phase, Out, m2, (some_inj hF9), (FF.cons (hf1.get 2 0 rfl) (FF.cons (hf1.get 4 1 rfl) (FF.cons (hf1.get 5 2 rfl) (FF.cons (hf1.get 6 3 rfl) (FF.cons (hf1.get 25 4 rfl) (FF.cons (hf1.get 26 5 rfl) (FF.cons (hf1.get 27 6 rfl) FF.nil))))))), hl, hl6, (hS67.sel [0, 1, 2, 4] rfl rfl)⟩
              exact allR_nil
            · skip
              have hF10 := cf' hF8 hb4
              refine cw_seq ?_
              refine cw_region ?_
              refine sq 107 rfl rfl (Y_eq (k := .i64) (a := x.Kind) (b := 12) rfl rfl rfl) ?_
              refine sq 106 rfl rfl (Y_assign (v := .bool (x.Kind == 12)) rfl rfl) ?_
              refine rw_nil ?_
              refine cw_cond (b := (x.Kind == 12)) rfl (fun hb5 => ?_) (fun hb5 => ?_)
              · skip
                have hF11 := ct hF10 hb5
                refine cw_region ?_
                refine sq 108 rfl rfl (Y_fieldAddr (B := B4) (i := 0) (s := 0) k_fd_31_1_1_3 k_sz_3_1 rfl (hf1.get 4 1 rfl)) ?_
                refine sq 109 rfl rfl (Y_load1 (B := B4) (i := 1) (cs := [.int .i64 c.Qubits, .int .i64 Phase, .slice none 0 0, .slice B5 r_3.Rows.length c5]) (v := .int .i64 Phase) k_sc_3 rfl rfl (hS40.cf (i := 1) rfl) rfl) ?_
                refine sq 110 rfl rfl (Y_add (k := .i64) (a := Phase) (b := 1) rfl rfl rfl) ?_
                refine sq 111 rfl rfl (Y_rem (k := .i64) (a := (IntKind.i64.wrap (Phase + 1))) (b := 8) rfl rfl rfl (by decide)) ?_
                refine sq 112 rfl rfl (Y_fieldAddr (B := B4) (i := 0) (s := 0) k_fd_31_1_1_3 k_sz_3_1 rfl (hf1.get 4 1 rfl)) ?_
                refine ss0 rfl rfl (Ys_store (i := 1) (s := 1) (B := B4) (T' := 31) (v := .int .i64 (Int.tmod (IntKind.i64.wrap (Phase + 1)) 8)) (vs := [.int .i64 (Int.tmod (IntKind.i64.wrap (Phase + 1)) 8)]) (k := 1) (cs' := [.int .i64 c.Qubits, .int .i64 (Int.tmod (IntKind.i64.wrap (Phase + 1)) 8), .slice none 0 0, .slice B5 r_3.Rows.length c5]) hS40 k_sz_3_1 rfl rfl rfl rfl rfl rfl rfl (Nat.le_of_ble_eq_true rfl) rfl rfl) ?_
                rintro _ w_54 ⟨rfl, hS68⟩
                have hS68 : ST w0 [] _ [⟨some ⟨b1, 0, none⟩, 31, [.int .i64 0, .int .i64 0, .slice none 0 0, .slice none 0 0], 4⟩, ⟨B4, 31, [.int .i64 c.Qubits, .int .i64 (Int.tmod (IntKind.i64.wrap (Phase + 1)) 8), .slice none 0 0, .slice B5 r_3.Rows.length c5], 4⟩, ⟨B5, 3, (Out.flatMap encI), c5 * 1⟩, ⟨B6, 54, (sums.flatMap encI), 32⟩, ⟨some ⟨b4, 0, none⟩, 48, [.int .i64 x.Kind, .int .i64 x.A, .int .i64 x.B], 3⟩] [⟨B, (c.Gates.flatMap enc_Gate)⟩] := hS68
                refine rw_nil ?_
                exact ⟨(Int.tmod (IntKind.i64.wrap (Phase + 1)) 8), Out, sums, (some_inj hF11), (FF.cons (hf1.get 2 0 rfl) (FF.cons (hf1.get 4 1 rfl) (FF.cons (hf1.get 5 2 rfl) (FF.cons (hf1.get 6 3 rfl) (FF.cons (hf1.get 25 4 rfl) (FF.cons (hf1.get 26 5 rfl) (FF.cons (hf1.get 27 6 rfl) FF.nil))))))), hl, hl1, (hS68.sel [0, 1, 2, 3] rfl rfl)⟩
              · skip
                have hF12 := cf' hF10 hb5
                refine cw_seq ?_
                refine cw_region ?_
                refine sq 33 rfl rfl (Y_fieldAddr (B := some ⟨b4, 0, none⟩) (i := 0) (s := 0) k_fd_48_0_0_3 k_sz_3_1 rfl rfl) ?_
                refine sq 34 rfl rfl (Y_load1 (B := some ⟨b4, 0, none⟩) (i := 0) (cs := [.int .i64 x.Kind, .int .i64 x.A, .int .i64 x.B]) (v := .int .i64 x.Kind) k_sc_3 rfl rfl (hS40.cf (i := 4) rfl) rfl) ?_
                obtain ⟨r_4, hc5, hF12⟩ := bind_inv hF12
                refine sc 35 rfl rfl (Yc_func (g := 23) (vs := [.int .i64 x.Kind]) k_call_23 rfl (mc rfl mn) (c_impl_rotationCoef x.Kind _  (hS40.inn0 [] rfl) hc5)) ?_
                rintro _ w_55 ⟨rfl, hd9⟩
                have hS69 := hS40.out00 hd9
                have hS69 : ST w0 [] _ [⟨some ⟨b1, 0, none⟩, 31, [.int .i64 0, .int .i64 0, .slice none 0 0, .slice none 0 0], 4⟩, ⟨B4, 31, [.int .i64 c.Qubits, .int .i64 Phase, .slice none 0 0, .slice B5 r_3.Rows.length c5], 4⟩, ⟨B5, 3, (Out.flatMap encI), c5 * 1⟩, ⟨B6, 54, (sums.flatMap encI), 32⟩, ⟨some ⟨b4, 0, none⟩, 48, [.int .i64 x.Kind, .int .i64 x.A, .int .i64 x.B], 3⟩] [⟨B, (c.Gates.flatMap enc_Gate)⟩] := hS69
                refine sq 9 rfl rfl (Y_assign (v := .int .i64 r_4) rfl rfl) ?_
                refine rw_nil ?_
                refine cw_seq ?_
                refine cw_seq ?_
                refine cw_region ?_
                refine sq 36 rfl rfl (Y_move (v := .int .i64 r_4) rfl rfl) ?_
                refine sq 37 rfl rfl (Y_eq (k := .i64) (a := r_4) (b := 0) rfl rfl rfl) ?_
                refine rw_nil ?_
                refine cw_cond (b := (r_4 == 0)) rfl (fun hb6 => ?_) (fun hb6 => ?_)
                · skip
                  have hF13 := ct hF12 hb6
                  refine cw_seq ?_
                  refine cw_region ?_
                  refine sq 38 rfl rfl (Y_buildS (zs := [.int .i64 0, .int .i64 0, .slice none 0 0, .slice none 0 0]) (vs := []) (cs := [.int .i64 0, .int .i64 0, .slice none 0 0, .slice none 0 0]) k_pl_31 k_zero_31 rfl mpn rfl) ?_
                  refine ss0 rfl rfl (Ys_store (i := 0) (s := 4) (B := some ⟨b1, 0, none⟩) (T' := 31) (v := .agg #[.int .i64 0, .int .i64 0, .slice none 0 0, .slice none 0 0]) (vs := [.int .i64 0, .int .i64 0, .slice none 0 0, .slice none 0 0]) (k := 0) (cs' := [.int .i64 0, .int .i64 0, .slice none 0 0, .slice none 0 0]) hS69 k_sz_31_4 rfl (hf1.get 2 0 rfl) rfl rfl rfl rfl rfl (Nat.le_of_ble_eq_true rfl) rfl rfl) ?_
                  rintro _ w_56 ⟨rfl, hS70⟩
                  have hS70 : ST w0 [] _ [⟨some ⟨b1, 0, none⟩, 31, [.int .i64 0, .int .i64 0, .slice none 0 0, .slice none 0 0], 4⟩, ⟨B4, 31, [.int .i64 c.Qubits, .int .i64 Phase, .slice none 0 0, .slice B5 r_3.Rows.length c5], 4⟩, ⟨B5, 3, (Out.flatMap encI), c5 * 1⟩, ⟨B6, 54, (sums.flatMap encI), 32⟩, ⟨some ⟨b4, 0, none⟩, 48, [.int .i64 x.Kind, .int .i64 x.A, .int .i64 x.B], 3⟩] [⟨B, (c.Gates.flatMap enc_Gate)⟩] := hS70
                  refine sq 3 rfl rfl (Y_assign (v := .bool false) rfl rfl) ?_
                  refine rw_nil ?_
                  refine cw_ret ?_
                  have hS71 := hS70.addNil 67
                  have hS72 := hS71.addNil 3
                  obtain rfl := some_inj hF13
                  obtain rfl := some_inj hF4
                  obtain rfl := some_inj hL1
                  obtain ⟨rfl, rfl⟩ := pr2 (some_inj hF3)
                  exact ret2 Try.results7 (v1 := .agg #[.int .i64 0, .int .i64 0, .slice none 0 0, .slice none 0 0]) (resAt_cellA (B := some ⟨b1, 0, none⟩) (i := 0) (cs := [.int .i64 0, .int .i64 0, .slice none 0 0, .slice none 0 0]) (vs := [.int .i64 0, .int .i64 0, .slice none 0 0, .slice none 0 0]) (hf1.get 2 0 rfl) k_ag_31 k_sz_31_4 (hS72.cf (i := 0) rfl) rfl rfl) (v2 := .bool false) (resAt_tmp rfl) ⟨none, 0, none, 0, rfl, (ST.subR (R' := []) (hS72.sel [5, 6] rfl rfl) (fun _ h => by cases h))⟩
                · skip
                  have hF14 := cf' hF12 hb6
                  refine cw_skip ?_
                  refine cw_region ?_
                  refine sq 39 rfl rfl (Y_move (v := .slice B5 r_3.Rows.length c5) rfl (hf1.get 6 3 rfl)) ?_
                  refine sq 40 rfl rfl (Y_fieldAddr (B := some ⟨b4, 0, none⟩) (i := 0) (s := 0) k_fd_48_1_1_3 k_sz_3_1 rfl rfl) ?_
                  refine sq 41 rfl rfl (Y_load1 (B := some ⟨b4, 0, none⟩) (i := 1) (cs := [.int .i64 x.Kind, .int .i64 x.A, .int .i64 x.B]) (v := .int .i64 x.A) k_sc_3 rfl rfl (hS69.cf (i := 4) rfl) rfl) ?_
                  obtain ⟨x8, hx8, hF14⟩ := bind_inv hF14
                  refine sq 42 rfl rfl (Y_index (B := B5) (m := r_3.Rows.length) (c := c5) (k := .i64) (i := x.A) k_sl_27_3 k_sz_3_1 rfl rfl rfl (gi_isSome encI_len rfl (hS69.cf (i := 2) rfl) hx8) (getI_nn hx8) (getI_ltI hx8 hl)) ?_
                  refine sq 43 rfl rfl (Y_load1 (B := B5) (i := x.A.toNat * 1) (cs := (Out.flatMap encI)) (v := .int .i64 x8) k_sc_3 rfl rfl (hS69.cf (i := 2) rfl) (gi_at0 encI_len hx8 rfl)) ?_
                  refine sq 44 rfl rfl (Y_move (v := .int .i64 r_4) rfl rfl) ?_
                  obtain ⟨m3, hc6, hF14⟩ := bind_inv hF14
                  refine sc 45 rfl rfl (Yc_func (g := 22) (vs := [pt B6 0, .int .i64 x8, .int .i64 r_4]) k_call_22 rfl (mc (hf1.get 5 2 rfl) (mc rfl (mc rfl mn))) (c_impl_coefficients_add sums x8 r_4 B6 _ hl1 (hS69.inn [false, false, false, true, false] rfl [] rfl) hc6)) ?_
                  rintro _ w_57 ⟨rfl, hl7, hd10⟩
                  have hS73 := hS69.out [false, false, false, true, false] rfl hd10
                  have hS73 : ST w0 [] _ [⟨some ⟨b1, 0, none⟩, 31, [.int .i64 0, .int .i64 0, .slice none 0 0, .slice none 0 0], 4⟩, ⟨B4, 31, [.int .i64 c.Qubits, .int .i64 Phase, .slice none 0 0, .slice B5 r_3.Rows.length c5], 4⟩, ⟨B5, 3, (Out.flatMap encI), c5 * 1⟩, ⟨some ⟨b4, 0, none⟩, 48, [.int .i64 x.Kind, .int .i64 x.A, .int .i64 x.B], 3⟩, ⟨B6, 54, (m3.flatMap encI), 32⟩] [⟨B, (c.Gates.flatMap enc_Gate)⟩] := hS73
                  refine rw_nil ?_
                  exact ⟨Phase, Out, m3, (some_inj hF14), (FF.cons (hf1.get 2 0 rfl) (FF.cons (hf1.get 4 1 rfl) (FF.cons (hf1.get 5 2 rfl) (FF.cons (hf1.get 6 3 rfl) (FF.cons (hf1.get 25 4 rfl) (FF.cons (hf1.get 26 5 rfl) (FF.cons (hf1.get 27 6 rfl) FF.nil))))))), hl, hl7, (hS73.sel [0, 1, 2, 4] rfl rfl)⟩
      rintro f w ⟨Phase1, Out1, sums1, rfl, hf2, hl2, hl3, hS38⟩
      refine cw_region ?_
      refine sq 113 rfl rfl (Y_add (k := .i64) (a := (i : Int)) (b := 1) rfl (hf2.get 27 6 rfl) rfl) ?_
      refine sq 27 rfl rfl (Y_move (v := .int .i64 (IntKind.i64.wrap ((i : Int) + 1))) rfl rfl) ?_
      refine rw_nil ?_
      obtain rfl := some_inj hF4
      exact ⟨k_1, Nat.lt_succ_self _, i + 1, Phase1, Out1, sums1, (FF.cons (hf2.get 2 0 rfl) (FF.cons (hf2.get 4 1 rfl) (FF.cons (hf2.get 5 2 rfl) (FF.cons (hf2.get 6 3 rfl) (FF.cons (hf2.get 25 4 rfl) (FF.cons (hf2.get 26 5 rfl) (FF.cons (congrArg (Value.int .i64) (wr_succ hlt1 hN)) FF.nil))))))), hl2, hl3, (hS38.sel [0, 1, 2, 3] rfl rfl), (by omega), hL1⟩
    · skip
      obtain rfl : k_ = 0 := by have h := of_decide_eq_false hlt; omega
      refine cw_exit rfl ?_
      obtain rfl := some_inj hL
      refine cw_seq ?_
      refine cw_region ?_
      refine sq 114 rfl rfl (Y_loadA (B := B6) (i := 0) (cs := (sums.flatMap encI)) (vs := (sums.flatMap encI)) k_ag_54 k_sz_54_32 rfl (hf1.get 5 2 rfl) (hS37.cf (i := 3) rfl) (fm_lenn2 encI_len hl1 rfl) (fm_whole encI_len hl1 rfl)) ?_
      obtain ⟨r_5, hc7, hF3⟩ := bind_inv hF3
      refine sc 115 rfl rfl (Yc_func (g := 24) (vs := [.agg (sums.flatMap encI).toArray]) k_call_24 rfl (mc rfl mn) (c_impl_coefficients_terms sums _ hl1 (hS37.inn0 [] rfl) hc7)) ?_
      rintro _ w_58 ⟨B7, c6, rfl, hd11⟩
      have hS74 := hS37.out0 hd11
      have hS74 : ST w0 [] _ [⟨some ⟨b1, 0, none⟩, 31, [.int .i64 0, .int .i64 0, .slice none 0 0, .slice none 0 0], 4⟩, ⟨B4, 31, [.int .i64 c.Qubits, .int .i64 Phase, .slice none 0 0, .slice B5 r_3.Rows.length c5], 4⟩, ⟨B5, 3, (Out.flatMap encI), c5 * 1⟩, ⟨B6, 54, (sums.flatMap encI), 32⟩, ⟨B7, 67, (r_5.flatMap enc_Term), c6 * 2⟩] [⟨B, (c.Gates.flatMap enc_Gate)⟩] := hS74
      refine sq 116 rfl rfl (Y_fieldAddr (B := B4) (i := 0) (s := 0) k_fd_31_2_2_26 k_sz_26_1 rfl (hf1.get 4 1 rfl)) ?_
      refine ss0 rfl rfl (Ys_store (i := 1) (s := 1) (B := B4) (T' := 31) (v := .slice B7 r_5.length c6) (vs := [.slice B7 r_5.length c6]) (k := 2) (cs' := [.int .i64 c.Qubits, .int .i64 Phase, .slice B7 r_5.length c6, .slice B5 r_3.Rows.length c5]) hS74 k_sz_26_1 rfl rfl rfl rfl rfl rfl rfl (Nat.le_of_ble_eq_true rfl) rfl rfl) ?_
      rintro _ w_59 ⟨rfl, hS75⟩
      have hS75 : ST w0 [] _ [⟨some ⟨b1, 0, none⟩, 31, [.int .i64 0, .int .i64 0, .slice none 0 0, .slice none 0 0], 4⟩, ⟨B4, 31, [.int .i64 c.Qubits, .int .i64 Phase, .slice B7 r_5.length c6, .slice B5 r_3.Rows.length c5], 4⟩, ⟨B5, 3, (Out.flatMap encI), c5 * 1⟩, ⟨B6, 54, (sums.flatMap encI), 32⟩, ⟨B7, 67, (r_5.flatMap enc_Term), c6 * 2⟩] [⟨B, (c.Gates.flatMap enc_Gate)⟩] := hS75
      refine rw_nil ?_
      refine cw_seq ?_
      refine cw_region ?_
      refine sq 117 rfl rfl (Y_loadA (B := B4) (i := 0) (cs := [.int .i64 c.Qubits, .int .i64 Phase, .slice B7 r_5.length c6, .slice B5 r_3.Rows.length c5]) (vs := [.int .i64 c.Qubits, .int .i64 Phase, .slice B7 r_5.length c6, .slice B5 r_3.Rows.length c5]) k_ag_31 k_sz_31_4 rfl (hf1.get 4 1 rfl) (hS75.cf (i := 1) rfl) rfl rfl) ?_
      refine ss0 rfl rfl (Ys_store (i := 0) (s := 4) (B := some ⟨b1, 0, none⟩) (T' := 31) (v := .agg #[.int .i64 c.Qubits, .int .i64 Phase, .slice B7 r_5.length c6, .slice B5 r_3.Rows.length c5]) (vs := [.int .i64 c.Qubits, .int .i64 Phase, .slice B7 r_5.length c6, .slice B5 r_3.Rows.length c5]) (k := 0) (cs' := [.int .i64 c.Qubits, .int .i64 Phase, .slice B7 r_5.length c6, .slice B5 r_3.Rows.length c5]) hS75 k_sz_31_4 rfl (hf1.get 2 0 rfl) rfl rfl rfl rfl rfl (Nat.le_of_ble_eq_true rfl) rfl rfl) ?_
      rintro _ w_60 ⟨rfl, hS76⟩
      have hS76 : ST w0 [] _ [⟨some ⟨b1, 0, none⟩, 31, [.int .i64 c.Qubits, .int .i64 Phase, .slice B7 r_5.length c6, .slice B5 r_3.Rows.length c5], 4⟩, ⟨B4, 31, [.int .i64 c.Qubits, .int .i64 Phase, .slice B7 r_5.length c6, .slice B5 r_3.Rows.length c5], 4⟩, ⟨B5, 3, (Out.flatMap encI), c5 * 1⟩, ⟨B6, 54, (sums.flatMap encI), 32⟩, ⟨B7, 67, (r_5.flatMap enc_Term), c6 * 2⟩] [⟨B, (c.Gates.flatMap enc_Gate)⟩] := hS76
      refine sq 3 rfl rfl (Y_assign (v := .bool true) rfl rfl) ?_
      refine rw_nil ?_
      refine cw_ret ?_
      obtain ⟨rfl, rfl⟩ := pr2 (some_inj hF3)
      exact ret2 Try.results7 (v1 := .agg #[.int .i64 c.Qubits, .int .i64 Phase, .slice B7 r_5.length c6, .slice B5 r_3.Rows.length c5]) (resAt_cellA (B := some ⟨b1, 0, none⟩) (i := 0) (cs := [.int .i64 c.Qubits, .int .i64 Phase, .slice B7 r_5.length c6, .slice B5 r_3.Rows.length c5]) (vs := [.int .i64 c.Qubits, .int .i64 Phase, .slice B7 r_5.length c6, .slice B5 r_3.Rows.length c5]) (hf1.get 2 0 rfl) k_ag_31 k_sz_31_4 (hS76.cf (i := 0) rfl) rfl rfl) (v2 := .bool true) (resAt_tmp rfl) ⟨B7, c6, B5, c5, (by simp [hl]), (ST.subR (R' := []) (hS76.sel [4, 2] rfl rfl) (fun _ h => by cases h))⟩

theorem c_laws_eqTerm (a : TTerm) (b : TTerm)  (w0 : World)  (hS : ST w0 [] w0 [] []) {r_ : Bool} (hF : F_laws_eqTerm a b = some r_) :
    CV Try.prog 41 #[.agg #[.int .i64 a.Mask, .int .i64 a.Coef], .agg #[.int .i64 b.Mask, .int .i64 b.Coef]] w0 (fun v w' => v = .bool r_ ∧ ST w0 [] w' [] []) := by
  unfold F_laws_eqTerm at hF
  refine cv_of_cw 15 Try.func41 rfl Try.ntmps41 rfl ?_
  refine cw_seq ?_
  refine cw_region ?_
  refine ss 2 rfl rfl (Ys_box (T := 67) (v := .agg #[.int .i64 a.Mask, .int .i64 a.Coef]) (cs := [.int .i64 a.Mask, .int .i64 a.Coef]) (m := 2) hS rfl rfl rfl rfl) ?_
  rintro _ w_ ⟨b1, rfl, hS1⟩
  refine ss 3 rfl rfl (Ys_box (T := 67) (v := .agg #[.int .i64 b.Mask, .int .i64 b.Coef]) (cs := [.int .i64 b.Mask, .int .i64 b.Coef]) (m := 2) hS1 rfl rfl rfl rfl) ?_
  rintro _ w_1 ⟨b2, rfl, hS2⟩
  have hS2 : ST w0 [] _ [⟨some ⟨b1, 0, none⟩, 67, [.int .i64 a.Mask, .int .i64 a.Coef], 2⟩, ⟨some ⟨b2, 0, none⟩, 67, [.int .i64 b.Mask, .int .i64 b.Coef], 2⟩] [] := hS2
  refine sq 4 rfl rfl (Y_assign (v := .bool false) rfl rfl) ?_
  refine rw_nil ?_
  refine cw_seq ?_
  refine cw_seq ?_
  refine cw_region ?_
  refine sq 5 rfl rfl (Y_fieldAddr (B := some ⟨b1, 0, none⟩) (i := 0) (s := 0) k_fd_67_0_0_3 k_sz_3_1 rfl rfl) ?_
  refine sq 6 rfl rfl (Y_load1 (B := some ⟨b1, 0, none⟩) (i := 0) (cs := [.int .i64 a.Mask, .int .i64 a.Coef]) (v := .int .i64 a.Mask) k_sc_3 rfl rfl (hS2.cf (i := 0) rfl) rfl) ?_
  refine sq 7 rfl rfl (Y_fieldAddr (B := some ⟨b2, 0, none⟩) (i := 0) (s := 0) k_fd_67_0_0_3 k_sz_3_1 rfl rfl) ?_
  refine sq 8 rfl rfl (Y_load1 (B := some ⟨b2, 0, none⟩) (i := 0) (cs := [.int .i64 b.Mask, .int .i64 b.Coef]) (v := .int .i64 b.Mask) k_sc_3 rfl rfl (hS2.cf (i := 1) rfl) rfl) ?_
  refine sq 9 rfl rfl (Y_ne (k := .i64) (a := a.Mask) (b := b.Mask) rfl rfl rfl) ?_
  refine rw_nil ?_
  refine cw_cond (b := (a.Mask != b.Mask)) rfl (fun hb => ?_) (fun hb => ?_)
  · skip
    have hF1 := ct hF hb
    refine cw_seq ?_
    refine cw_region ?_
    refine sq 4 rfl rfl (Y_assign (v := .bool false) rfl rfl) ?_
    refine rw_nil ?_
    refine cw_ret ?_
    obtain rfl := some_inj hF1
    exact ret1 Try.results41 (v1 := .bool false) (resAt_tmp rfl) ⟨rfl, (ST.subR (R' := []) (hS2.sel [] rfl rfl) (fun _ h => by cases h))⟩
  · skip
    have hF2 := cf' hF hb
    refine cw_skip ?_
    refine cw_seq ?_
    refine cw_seq ?_
    refine cw_region ?_
    refine sq 10 rfl rfl (Y_fieldAddr (B := some ⟨b1, 0, none⟩) (i := 0) (s := 0) k_fd_67_1_1_3 k_sz_3_1 rfl rfl) ?_
    refine sq 11 rfl rfl (Y_load1 (B := some ⟨b1, 0, none⟩) (i := 1) (cs := [.int .i64 a.Mask, .int .i64 a.Coef]) (v := .int .i64 a.Coef) k_sc_3 rfl rfl (hS2.cf (i := 0) rfl) rfl) ?_
    refine sq 12 rfl rfl (Y_fieldAddr (B := some ⟨b2, 0, none⟩) (i := 0) (s := 0) k_fd_67_1_1_3 k_sz_3_1 rfl rfl) ?_
    refine sq 13 rfl rfl (Y_load1 (B := some ⟨b2, 0, none⟩) (i := 1) (cs := [.int .i64 b.Mask, .int .i64 b.Coef]) (v := .int .i64 b.Coef) k_sc_3 rfl rfl (hS2.cf (i := 1) rfl) rfl) ?_
    refine sq 14 rfl rfl (Y_ne (k := .i64) (a := a.Coef) (b := b.Coef) rfl rfl rfl) ?_
    refine rw_nil ?_
    refine cw_cond (b := (a.Coef != b.Coef)) rfl (fun hb1 => ?_) (fun hb1 => ?_)
    · skip
      have hF3 := ct hF2 hb1
      refine cw_seq ?_
      refine cw_region ?_
      refine sq 4 rfl rfl (Y_assign (v := .bool false) rfl rfl) ?_
      refine rw_nil ?_
      refine cw_ret ?_
      obtain rfl := some_inj hF3
      exact ret1 Try.results41 (v1 := .bool false) (resAt_tmp rfl) ⟨rfl, (ST.subR (R' := []) (hS2.sel [] rfl rfl) (fun _ h => by cases h))⟩
    · skip
      have hF4 := cf' hF2 hb1
      refine cw_skip ?_
      refine cw_seq ?_
      refine cw_region ?_
      refine sq 4 rfl rfl (Y_assign (v := .bool true) rfl rfl) ?_
      refine rw_nil ?_
      refine cw_ret ?_
      obtain rfl := some_inj hF4
      exact ret1 Try.results41 (v1 := .bool true) (resAt_tmp rfl) ⟨rfl, (ST.subR (R' := []) (hS2.sel [] rfl rfl) (fun _ h => by cases h))⟩

theorem c_laws_eqTermS (a : List TTerm) (b : List TTerm) (B : Option Addr) (c n : Nat) (B1 : Option Addr) (c1 n1 : Nat) (w0 : World) (hn : a.length = n) (hn1 : b.length = n1) (hS : ST w0 [] w0 [] [⟨B, (a.flatMap enc_Term)⟩, ⟨B1, (b.flatMap enc_Term)⟩]) {r_ : Bool} (hF : F_laws_eqTermS a b = some r_) :
    CV Try.prog 25 #[.slice B n c, .slice B1 n1 c1] w0 (fun v w' => v = .bool r_ ∧ ST w0 [] w' [] []) := by
  subst hn
  subst hn1
  unfold F_laws_eqTermS at hF
  refine cv_of_cw 27 Try.func25 rfl Try.ntmps25 rfl ?_
  refine cw_seq ?_
  refine cw_region ?_
  refine sq 4 rfl rfl (Y_assign (v := .bool false) rfl rfl) ?_
  refine rw_nil ?_
  refine cw_seq ?_
  refine cw_seq ?_
  refine cw_region ?_
  refine sq 6 rfl rfl (Y_move (v := .slice B a.length c) rfl rfl) ?_
  refine sq 7 rfl rfl (Y_len (B := B) (m := a.length) (c := c) k_sl_26_67 rfl rfl) ?_
  refine sq 8 rfl rfl (Y_move (v := .slice B1 b.length c1) rfl rfl) ?_
  refine sq 9 rfl rfl (Y_len (B := B1) (m := b.length) (c := c1) k_sl_26_67 rfl rfl) ?_
  refine sq 10 rfl rfl (Y_ne (k := .i64) (a := (a.length : Int)) (b := (b.length : Int)) rfl rfl rfl) ?_
  refine rw_nil ?_
  refine cw_cond (b := ((a.length : Int) != (b.length : Int))) rfl (fun hb => ?_) (fun hb => ?_)
  · skip
    have hF1 := ct hF hb
    refine cw_seq ?_
    refine cw_region ?_
    refine sq 4 rfl rfl (Y_assign (v := .bool false) rfl rfl) ?_
    refine rw_nil ?_
    refine cw_ret ?_
    obtain rfl := some_inj hF1
    exact ret1 Try.results25 (v1 := .bool false) (resAt_tmp rfl) ⟨rfl, (ST.subR (R' := []) (hS.sel [] rfl rfl) (fun _ h => by cases h))⟩
  · skip
    have hF2 := cf' hF hb
    refine cw_skip ?_
    refine cw_seq ?_
    refine cw_seq ?_
    refine cw_region ?_
    refine sq 5 rfl rfl (Y_assign (v := .int .i64 0) rfl rfl) ?_
    refine rw_nil ?_
    obtain ⟨hN, hF2⟩ := chk_inv hF2
    obtain ⟨z, hz, hF3⟩ := bind_inv hF2
    refine cw_block ?_
    refine cw_loop (fun k f w => ∃ (i1 : Nat), FF f [(0, .slice B a.length c), (1, .slice B1 b.length c1), (5, .int .i64 (i1 : Int))] ∧ ST w0 [] w [] [⟨B, (a.flatMap enc_Term)⟩, ⟨B1, (b.flatMap enc_Term)⟩] ∧ i1 + k = a.length ∧ forX (F_laws_eqTermS_l1 a b) k i1 () = some z) a.length ⟨0, (FF.cons rfl (FF.cons rfl (FF.cons rfl FF.nil))), (hS.sel [] rfl rfl), Nat.zero_add _, hz⟩ ?_
    rintro k_ f w ⟨i1, hf, hS1, hik, hL⟩
    refine cw_seq ?_
    refine cw_seq ?_
    refine cw_region ?_
    refine sq 11 rfl rfl (Y_move (v := .int .i64 (i1 : Int)) rfl (hf.get 5 2 rfl)) ?_
    refine sq 12 rfl rfl (Y_move (v := .slice B a.length c) rfl (hf.get 0 0 rfl)) ?_
    refine sq 13 rfl rfl (Y_len (B := B) (m := a.length) (c := c) k_sl_26_67 rfl rfl) ?_
    refine sq 14 rfl rfl (Y_lt (k := .i64) (a := (i1 : Int)) (b := (a.length : Int)) rfl rfl rfl) ?_
    refine rw_nil ?_
    refine cw_cond (b := (decide ((i1 : Int) < (a.length : Int)))) rfl (fun hlt => ?_) (fun hlt => ?_)
    · skip
      have hlt1 : i1 < a.length := by have h := of_decide_eq_true hlt; omega
      obtain ⟨k_1, rfl⟩ : ∃ k2, k_ = k2 + 1 := ⟨k_ - 1, by omega⟩
      obtain ⟨y, hb1, hL1⟩ := forX_go hL
      unfold F_laws_eqTermS_l1 at hb1
      refine cw_skip ?_
      refine cw_seq ?_
      refine cw_block ?_
      refine cw_seq ?_
      obtain ⟨x, hx, hb1⟩ := bind_inv hb1
      obtain ⟨x1, hx1, hb1⟩ := bind_inv hb1
      obtain ⟨r_1, hc, hb1⟩ := bind_inv hb1
      refine ra_start (ST.sel hS1 [] rfl rfl).fn (by kernel_rfl) ?_
      have hS3 := hS1.drew
      refine ra_q 0 17 (v := .slice B a.length c) rfl rfl rfl (by kernel_rfl) (by kernel_rfl) (by kernel_rfl) (ST.sel hS3 [] rfl rfl) (fun w' hw' => (Y_move (v := .slice B a.length c) rfl (hf.get 0 0 rfl))) ?_
      refine ra_q 1 18 (v := .int .i64 (i1 : Int)) rfl rfl rfl (by kernel_rfl) (by kernel_rfl) (by kernel_rfl) (ST.sel hS3 [] rfl rfl) (fun w' hw' => (Y_move (v := .int .i64 (i1 : Int)) rfl (hf.get 5 2 rfl))) ?_
      refine ra_q 2 19 (v := pt B ((i1 : Int).toNat * 2)) rfl rfl rfl (by kernel_rfl) (by kernel_rfl) (by kernel_rfl) (ST.sel hS3 [] rfl rfl) (fun w' hw' => (Y_index (B := B) (m := a.length) (c := c) (k := .i64) (i := (i1 : Int)) k_sl_26_67 k_sz_67_2 rfl rfl rfl (gi_isSome enc_Term_len rfl (ST.rf hw' (i := 0) rfl) hx) (getI_nn hx) (getI_ltI hx rfl))) ?_
      refine ra_q 3 20 (v := .agg #[.int .i64 x.Mask, .int .i64 x.Coef]) rfl rfl rfl (by kernel_rfl) (by kernel_rfl) (by kernel_rfl) (ST.sel hS3 [] rfl rfl) (fun w' hw' => (Y_loadA (B := B) (i := (i1 : Int).toNat * 2) (cs := (a.flatMap enc_Term)) (vs := [.int .i64 x.Mask, .int .i64 x.Coef]) k_ag_67 k_sz_67_2 rfl rfl (ST.rf hw' (i := 0) rfl) (enc_Term_len x) (gi_seg enc_Term_len hx))) ?_
      refine ra_q 4 21 (v := .slice B1 b.length c1) rfl rfl rfl (by kernel_rfl) (by kernel_rfl) (by kernel_rfl) (ST.sel hS3 [] rfl rfl) (fun w' hw' => (Y_move (v := .slice B1 b.length c1) rfl (hf.get 1 1 rfl))) ?_
      refine ra_q 5 22 (v := .int .i64 (i1 : Int)) rfl rfl rfl (by kernel_rfl) (by kernel_rfl) (by kernel_rfl) (ST.sel hS3 [] rfl rfl) (fun w' hw' => (Y_move (v := .int .i64 (i1 : Int)) rfl (hf.get 5 2 rfl))) ?_
      refine ra_q 6 23 (v := pt B1 ((i1 : Int).toNat * 2)) rfl rfl rfl (by kernel_rfl) (by kernel_rfl) (by kernel_rfl) (ST.sel hS3 [] rfl rfl) (fun w' hw' => (Y_index (B := B1) (m := b.length) (c := c1) (k := .i64) (i := (i1 : Int)) k_sl_26_67 k_sz_67_2 rfl rfl rfl (gi_isSome enc_Term_len rfl (ST.rf hw' (i := 1) rfl) hx1) (getI_nn hx1) (getI_ltI hx1 rfl))) ?_
      refine ra_q 7 24 (v := .agg #[.int .i64 x1.Mask, .int .i64 x1.Coef]) rfl rfl rfl (by kernel_rfl) (by kernel_rfl) (by kernel_rfl) (ST.sel hS3 [] rfl rfl) (fun w' hw' => (Y_loadA (B := B1) (i := (i1 : Int).toNat * 2) (cs := (b.flatMap enc_Term)) (vs := [.int .i64 x1.Mask, .int .i64 x1.Coef]) k_ag_67 k_sz_67_2 rfl rfl (ST.rf hw' (i := 1) rfl) (enc_Term_len x1) (gi_seg enc_Term_len hx1))) ?_
      refine ra_all (rs := [8]) (by kernel_rfl) rfl ?_
      refine ra_c 25 (i := 8) rfl rfl rfl (Yc_func (g := 41) (vs := [.agg #[.int .i64 x.Mask, .int .i64 x.Coef], .agg #[.int .i64 x1.Mask, .int .i64 x1.Coef]]) k_call_41 rfl (mc rfl (mc rfl mn)) (c_laws_eqTerm x x1 _  (hS3.inn0 [] rfl) hc)) ?_ ?_
      · rintro _ w_ ⟨rfl, hd⟩
        have hS4 := hS3.out00 hd
        refine ⟨(ST.sel hS4 [] rfl rfl), ?_⟩
        refine ra_q 9 26 (v := .bool (!r_1)) rfl rfl rfl (by kernel_rfl) (by kernel_rfl) (by kernel_rfl) (ST.sel hS4 [] rfl rfl) (fun w' hw' => (Y_not (p := r_1) rfl rfl)) ?_
        refine ra_done (by kernel_rfl) ?_
        refine cw_cond (b := (!r_1)) rfl (fun hb2 => ?_) (fun hb2 => ?_)
        · skip
          have hF4 := ct hb1 hb2
          refine cw_seq ?_
          refine cw_region ?_
          refine sq 4 rfl rfl (Y_assign (v := .bool false) rfl rfl) ?_
          refine rw_nil ?_
          refine cw_ret ?_
          obtain rfl := some_inj hF4
          obtain rfl := some_inj hL1
          obtain rfl := some_inj hF3
          exact ret1 Try.results25 (v1 := .bool false) (resAt_tmp rfl) ⟨rfl, (ST.subR (R' := []) (hS4.sel [] rfl rfl) (fun _ h => by cases h))⟩
        · skip
          have hF5 := cf' hb1 hb2
          refine cw_skip ?_
          refine cw_region ?_
          refine sq 15 rfl rfl (Y_move (v := .int .i64 (i1 : Int)) rfl (hf.get 5 2 rfl)) ?_
          refine sq 16 rfl rfl (Y_add (k := .i64) (a := (i1 : Int)) (b := 1) rfl rfl rfl) ?_
          refine sq 5 rfl rfl (Y_assign (v := .int .i64 (IntKind.i64.wrap ((i1 : Int) + 1))) rfl rfl) ?_
          refine rw_nil ?_
          obtain rfl := some_inj hF5
          exact ⟨k_1, Nat.lt_succ_self _, i1 + 1, (FF.cons (hf.get 0 0 rfl) (FF.cons (hf.get 1 1 rfl) (FF.cons (congrArg (Value.int .i64) (wr_succ hlt1 hN)) FF.nil))), (hS4.sel [] rfl rfl), (by omega), hL1⟩
      exact allR_nil
    · skip
      obtain rfl : k_ = 0 := by have h := of_decide_eq_false hlt; omega
      refine cw_exit rfl ?_
      obtain rfl := some_inj hL
      refine cw_seq ?_
      refine cw_region ?_
      refine sq 4 rfl rfl (Y_assign (v := .bool true) rfl rfl) ?_
      refine rw_nil ?_
      refine cw_ret ?_
      obtain rfl := some_inj hF3
      exact ret1 Try.results25 (v1 := .bool true) (resAt_tmp rfl) ⟨rfl, (ST.subR (R' := []) (hS1.sel [] rfl rfl) (fun _ h => by cases h))⟩

theorem c_laws_eqIntS (a : List Int) (b : List Int) (B : Option Addr) (c n : Nat) (B1 : Option Addr) (c1 n1 : Nat) (w0 : World) (hn : a.length = n) (hn1 : b.length = n1) (hS : ST w0 [] w0 [] [⟨B, (a.flatMap encI)⟩, ⟨B1, (b.flatMap encI)⟩]) {r_ : Bool} (hF : F_laws_eqIntS a b = some r_) :
    CV Try.prog 42 #[.slice B n c, .slice B1 n1 c1] w0 (fun v w' => v = .bool r_ ∧ ST w0 [] w' [] []) := by
  subst hn
  subst hn1
  unfold F_laws_eqIntS at hF
  refine cv_of_cw 26 Try.func42 rfl Try.ntmps42 rfl ?_
  refine cw_seq ?_
  refine cw_region ?_
  refine sq 4 rfl rfl (Y_assign (v := .bool false) rfl rfl) ?_
  refine rw_nil ?_
  refine cw_seq ?_
  refine cw_seq ?_
  refine cw_region ?_
  refine sq 6 rfl rfl (Y_move (v := .slice B a.length c) rfl rfl) ?_
  refine sq 7 rfl rfl (Y_len (B := B) (m := a.length) (c := c) k_sl_27_3 rfl rfl) ?_
  refine sq 8 rfl rfl (Y_move (v := .slice B1 b.length c1) rfl rfl) ?_
  refine sq 9 rfl rfl (Y_len (B := B1) (m := b.length) (c := c1) k_sl_27_3 rfl rfl) ?_
  refine sq 10 rfl rfl (Y_ne (k := .i64) (a := (a.length : Int)) (b := (b.length : Int)) rfl rfl rfl) ?_
  refine rw_nil ?_
  refine cw_cond (b := ((a.length : Int) != (b.length : Int))) rfl (fun hb => ?_) (fun hb => ?_)
  · skip
    have hF1 := ct hF hb
    refine cw_seq ?_
    refine cw_region ?_
    refine sq 4 rfl rfl (Y_assign (v := .bool false) rfl rfl) ?_
    refine rw_nil ?_
    refine cw_ret ?_
    obtain rfl := some_inj hF1
    exact ret1 Try.results42 (v1 := .bool false) (resAt_tmp rfl) ⟨rfl, (ST.subR (R' := []) (hS.sel [] rfl rfl) (fun _ h => by cases h))⟩
  · skip
    have hF2 := cf' hF hb
    refine cw_skip ?_
    refine cw_seq ?_
    refine cw_seq ?_
    refine cw_region ?_
    refine sq 5 rfl rfl (Y_assign (v := .int .i64 0) rfl rfl) ?_
    refine rw_nil ?_
    obtain ⟨hN, hF2⟩ := chk_inv hF2
    obtain ⟨z, hz, hF3⟩ := bind_inv hF2
    refine cw_block ?_
    refine cw_loop (fun k f w => ∃ (i1 : Nat), FF f [(0, .slice B a.length c), (1, .slice B1 b.length c1), (5, .int .i64 (i1 : Int))] ∧ ST w0 [] w [] [⟨B, (a.flatMap encI)⟩, ⟨B1, (b.flatMap encI)⟩] ∧ i1 + k = a.length ∧ forX (F_laws_eqIntS_l1 a b) k i1 () = some z) a.length ⟨0, (FF.cons rfl (FF.cons rfl (FF.cons rfl FF.nil))), (hS.sel [] rfl rfl), Nat.zero_add _, hz⟩ ?_
    rintro k_ f w ⟨i1, hf, hS1, hik, hL⟩
    refine cw_seq ?_
    refine cw_seq ?_
    refine cw_region ?_
    refine sq 11 rfl rfl (Y_move (v := .int .i64 (i1 : Int)) rfl (hf.get 5 2 rfl)) ?_
    refine sq 12 rfl rfl (Y_move (v := .slice B a.length c) rfl (hf.get 0 0 rfl)) ?_
    refine sq 13 rfl rfl (Y_len (B := B) (m := a.length) (c := c) k_sl_27_3 rfl rfl) ?_
    refine sq 14 rfl rfl (Y_lt (k := .i64) (a := (i1 : Int)) (b := (a.length : Int)) rfl rfl rfl) ?_
    refine rw_nil ?_
    refine cw_cond (b := (decide ((i1 : Int) < (a.length : Int)))) rfl (fun hlt => ?_) (fun hlt => ?_)
    · skip
      have hlt1 : i1 < a.length := by have h := of_decide_eq_true hlt; omega
      obtain ⟨k_1, rfl⟩ : ∃ k2, k_ = k2 + 1 := ⟨k_ - 1, by omega⟩
      obtain ⟨y, hb1, hL1⟩ := forX_go hL
      unfold F_laws_eqIntS_l1 at hb1
      refine cw_skip ?_
      refine cw_seq ?_
      refine cw_block ?_
      refine cw_seq ?_
      obtain ⟨x, hx, hb1⟩ := bind_inv hb1
      obtain ⟨x1, hx1, hb1⟩ := bind_inv hb1
      refine ra_start (ST.sel hS1 [] rfl rfl).fn (by kernel_rfl) ?_
      have hS2 := hS1.drew
      refine ra_q 0 17 (v := .slice B a.length c) rfl rfl rfl (by kernel_rfl) (by kernel_rfl) (by kernel_rfl) (ST.sel hS2 [] rfl rfl) (fun w' hw' => (Y_move (v := .slice B a.length c) rfl (hf.get 0 0 rfl))) ?_
      refine ra_q 1 18 (v := .int .i64 (i1 : Int)) rfl rfl rfl (by kernel_rfl) (by kernel_rfl) (by kernel_rfl) (ST.sel hS2 [] rfl rfl) (fun w' hw' => (Y_move (v := .int .i64 (i1 : Int)) rfl (hf.get 5 2 rfl))) ?_
      refine ra_q 2 19 (v := pt B ((i1 : Int).toNat * 1)) rfl rfl rfl (by kernel_rfl) (by kernel_rfl) (by kernel_rfl) (ST.sel hS2 [] rfl rfl) (fun w' hw' => (Y_index (B := B) (m := a.length) (c := c) (k := .i64) (i := (i1 : Int)) k_sl_27_3 k_sz_3_1 rfl rfl rfl (gi_isSome encI_len rfl (ST.rf hw' (i := 0) rfl) hx) (getI_nn hx) (getI_ltI hx rfl))) ?_
      refine ra_q 3 20 (v := .int .i64 x) rfl rfl rfl (by kernel_rfl) (by kernel_rfl) (by kernel_rfl) (ST.sel hS2 [] rfl rfl) (fun w' hw' => (Y_load1 (B := B) (i := (i1 : Int).toNat * 1) (cs := (a.flatMap encI)) (v := .int .i64 x) k_sc_3 rfl rfl (ST.rf hw' (i := 0) rfl) (gi_at0 encI_len hx rfl))) ?_
      refine ra_q 4 21 (v := .slice B1 b.length c1) rfl rfl rfl (by kernel_rfl) (by kernel_rfl) (by kernel_rfl) (ST.sel hS2 [] rfl rfl) (fun w' hw' => (Y_move (v := .slice B1 b.length c1) rfl (hf.get 1 1 rfl))) ?_
      refine ra_q 5 22 (v := .int .i64 (i1 : Int)) rfl rfl rfl (by kernel_rfl) (by kernel_rfl) (by kernel_rfl) (ST.sel hS2 [] rfl rfl) (fun w' hw' => (Y_move (v := .int .i64 (i1 : Int)) rfl (hf.get 5 2 rfl))) ?_
      refine ra_q 6 23 (v := pt B1 ((i1 : Int).toNat * 1)) rfl rfl rfl (by kernel_rfl) (by kernel_rfl) (by kernel_rfl) (ST.sel hS2 [] rfl rfl) (fun w' hw' => (Y_index (B := B1) (m := b.length) (c := c1) (k := .i64) (i := (i1 : Int)) k_sl_27_3 k_sz_3_1 rfl rfl rfl (gi_isSome encI_len rfl (ST.rf hw' (i := 1) rfl) hx1) (getI_nn hx1) (getI_ltI hx1 rfl))) ?_
      refine ra_q 7 24 (v := .int .i64 x1) rfl rfl rfl (by kernel_rfl) (by kernel_rfl) (by kernel_rfl) (ST.sel hS2 [] rfl rfl) (fun w' hw' => (Y_load1 (B := B1) (i := (i1 : Int).toNat * 1) (cs := (b.flatMap encI)) (v := .int .i64 x1) k_sc_3 rfl rfl (ST.rf hw' (i := 1) rfl) (gi_at0 encI_len hx1 rfl))) ?_
      refine ra_q 8 25 (v := .bool (x != x1)) rfl rfl rfl (by kernel_rfl) (by kernel_rfl) (by kernel_rfl) (ST.sel hS2 [] rfl rfl) (fun w' hw' => (Y_ne (k := .i64) (a := x) (b := x1) rfl rfl rfl)) ?_
      refine ra_done (by kernel_rfl) ?_
      refine cw_cond (b := (x != x1)) rfl (fun hb2 => ?_) (fun hb2 => ?_)
      · skip
        have hF4 := ct hb1 hb2
        refine cw_seq ?_
        refine cw_region ?_
        refine sq 4 rfl rfl (Y_assign (v := .bool false) rfl rfl) ?_
        refine rw_nil ?_
        refine cw_ret ?_
        obtain rfl := some_inj hF4
        obtain rfl := some_inj hL1
        obtain rfl := some_inj hF3
        exact ret1 Try.results42 (v1 := .bool false) (resAt_tmp rfl) ⟨rfl, (ST.subR (R' := []) (hS2.sel [] rfl rfl) (fun _ h => by cases h))⟩
      · skip
        have hF5 := cf' hb1 hb2
        refine cw_skip ?_
        refine cw_region ?_
        refine sq 15 rfl rfl (Y_move (v := .int .i64 (i1 : Int)) rfl (hf.get 5 2 rfl)) ?_
        refine sq 16 rfl rfl (Y_add (k := .i64) (a := (i1 : Int)) (b := 1) rfl rfl rfl) ?_
        refine sq 5 rfl rfl (Y_assign (v := .int .i64 (IntKind.i64.wrap ((i1 : Int) + 1))) rfl rfl) ?_
        refine rw_nil ?_
        obtain rfl := some_inj hF5
        exact ⟨k_1, Nat.lt_succ_self _, i1 + 1, (FF.cons (hf.get 0 0 rfl) (FF.cons (hf.get 1 1 rfl) (FF.cons (congrArg (Value.int .i64) (wr_succ hlt1 hN)) FF.nil))), (hS2.sel [] rfl rfl), (by omega), hL1⟩
    · skip
      obtain rfl : k_ = 0 := by have h := of_decide_eq_false hlt; omega
      refine cw_exit rfl ?_
      obtain rfl := some_inj hL
      refine cw_seq ?_
      refine cw_region ?_
      refine sq 4 rfl rfl (Y_assign (v := .bool true) rfl rfl) ?_
      refine rw_nil ?_
      refine cw_ret ?_
      obtain rfl := some_inj hF3
      exact ret1 Try.results42 (v1 := .bool true) (resAt_tmp rfl) ⟨rfl, (ST.subR (R' := []) (hS1.sel [] rfl rfl) (fun _ h => by cases h))⟩

theorem c_laws_eqLinear (a : TLinear) (b : TLinear) (B : Option Addr) (c n : Nat) (B1 : Option Addr) (c1 n1 : Nat) (w0 : World) (hn : a.Rows.length = n) (hn1 : b.Rows.length = n1) (hS : ST w0 [] w0 [] [⟨B, (a.Rows.flatMap encI)⟩, ⟨B1, (b.Rows.flatMap encI)⟩]) {r_ : Bool} (hF : F_laws_eqLinear a b = some r_) :
    CV Try.prog 26 #[.agg #[.slice B n c], .agg #[.slice B1 n1 c1]] w0 (fun v w' => v = .bool r_ ∧ ST w0 [] w' [] []) := by
  subst hn
  subst hn1
  unfold F_laws_eqLinear at hF
  refine cv_of_cw 11 Try.func26 rfl Try.ntmps26 rfl ?_
  refine cw_seq ?_
  refine cw_region ?_
  refine ss 2 rfl rfl (Ys_box (T := 29) (v := .agg #[.slice B a.Rows.length c]) (cs := [.slice B a.Rows.length c]) (m := 1) hS rfl rfl rfl rfl) ?_
  rintro _ w_ ⟨b1, rfl, hS1⟩
  refine ss 3 rfl rfl (Ys_box (T := 29) (v := .agg #[.slice B1 b.Rows.length c1]) (cs := [.slice B1 b.Rows.length c1]) (m := 1) hS1 rfl rfl rfl rfl) ?_
  rintro _ w_1 ⟨b2, rfl, hS2⟩
  have hS2 : ST w0 [] _ [⟨some ⟨b1, 0, none⟩, 29, [.slice B a.Rows.length c], 1⟩, ⟨some ⟨b2, 0, none⟩, 29, [.slice B1 b.Rows.length c1], 1⟩] [⟨B, (a.Rows.flatMap encI)⟩, ⟨B1, (b.Rows.flatMap encI)⟩] := hS2
  refine sq 4 rfl rfl (Y_assign (v := .bool false) rfl rfl) ?_
  refine rw_nil ?_
  refine cw_seq ?_
  refine cw_seq ?_
  refine cw_region ?_
  refine sq 5 rfl rfl (Y_fieldAddr (B := some ⟨b1, 0, none⟩) (i := 0) (s := 0) k_fd_29_0_0_27 k_sz_27_1 rfl rfl) ?_
  refine sq 6 rfl rfl (Y_load1 (B := some ⟨b1, 0, none⟩) (i := 0) (cs := [.slice B a.Rows.length c]) (v := .slice B a.Rows.length c) k_sc_27 rfl rfl (hS2.cf (i := 0) rfl) rfl) ?_
  refine sq 7 rfl rfl (Y_fieldAddr (B := some ⟨b2, 0, none⟩) (i := 0) (s := 0) k_fd_29_0_0_27 k_sz_27_1 rfl rfl) ?_
  refine sq 8 rfl rfl (Y_load1 (B := some ⟨b2, 0, none⟩) (i := 0) (cs := [.slice B1 b.Rows.length c1]) (v := .slice B1 b.Rows.length c1) k_sc_27 rfl rfl (hS2.cf (i := 1) rfl) rfl) ?_
  obtain ⟨r_1, hc, hF⟩ := bind_inv hF
  refine sc 9 rfl rfl (Yc_func (g := 42) (vs := [.slice B a.Rows.length c, .slice B1 b.Rows.length c1]) k_call_42 rfl (mc rfl (mc rfl mn)) (c_laws_eqIntS a.Rows b.Rows B c a.Rows.length B1 c1 b.Rows.length _ rfl rfl (hS2.inn0 [(true, 0), (true, 1)] rfl) hc)) ?_
  rintro _ w_2 ⟨rfl, hd⟩
  have hS3 := hS2.out00 hd
  have hS3 : ST w0 [] _ [⟨some ⟨b1, 0, none⟩, 29, [.slice B a.Rows.length c], 1⟩, ⟨some ⟨b2, 0, none⟩, 29, [.slice B1 b.Rows.length c1], 1⟩] [⟨B, (a.Rows.flatMap encI)⟩, ⟨B1, (b.Rows.flatMap encI)⟩] := hS3
  refine sq 10 rfl rfl (Y_not (p := r_1) rfl rfl) ?_
  refine rw_nil ?_
  refine cw_cond (b := (!r_1)) rfl (fun hb => ?_) (fun hb => ?_)
  · skip
    have hF1 := ct hF hb
    refine cw_seq ?_
    refine cw_region ?_
    refine sq 4 rfl rfl (Y_assign (v := .bool false) rfl rfl) ?_
    refine rw_nil ?_
    refine cw_ret ?_
    obtain rfl := some_inj hF1
    exact ret1 Try.results26 (v1 := .bool false) (resAt_tmp rfl) ⟨rfl, (ST.subR (R' := []) (hS3.sel [] rfl rfl) (fun _ h => by cases h))⟩
  · skip
    have hF2 := cf' hF hb
    refine cw_skip ?_
    refine cw_seq ?_
    refine cw_region ?_
    refine sq 4 rfl rfl (Y_assign (v := .bool true) rfl rfl) ?_
    refine rw_nil ?_
    refine cw_ret ?_
    obtain rfl := some_inj hF2
    exact ret1 Try.results26 (v1 := .bool true) (resAt_tmp rfl) ⟨rfl, (ST.subR (R' := []) (hS3.sel [] rfl rfl) (fun _ h => by cases h))⟩

theorem c_laws_eqPhasePoly (a : TPhasePoly) (b : TPhasePoly) (B : Option Addr) (c n : Nat) (B1 : Option Addr) (c1 n1 : Nat) (B2 : Option Addr) (c2 n2 : Nat) (B3 : Option Addr) (c3 n3 : Nat) (w0 : World) (hn : a.Terms.length = n) (hn1 : a.Out.Rows.length = n1) (hn2 : b.Terms.length = n2) (hn3 : b.Out.Rows.length = n3) (hS : ST w0 [] w0 [] [⟨B, (a.Terms.flatMap enc_Term)⟩, ⟨B1, (a.Out.Rows.flatMap encI)⟩, ⟨B2, (b.Terms.flatMap enc_Term)⟩, ⟨B3, (b.Out.Rows.flatMap encI)⟩]) {r_ : Bool} (hF : F_laws_eqPhasePoly a b = some r_) :
    CV Try.prog 8 #[.agg #[.int .i64 a.Qubits, .int .i64 a.Phase, .slice B n c, .slice B1 n1 c1], .agg #[.int .i64 b.Qubits, .int .i64 b.Phase, .slice B2 n2 c2, .slice B3 n3 c3]] w0 (fun v w' => v = .bool r_ ∧ ST w0 [] w' [] []) := by
  subst hn
  subst hn1
  subst hn2
  subst hn3
  unfold F_laws_eqPhasePoly at hF
  refine cv_of_cw 27 Try.func8 rfl Try.ntmps8 rfl ?_
  refine cw_seq ?_
  refine cw_region ?_
  refine ss 2 rfl rfl (Ys_box (T := 31) (v := .agg #[.int .i64 a.Qubits, .int .i64 a.Phase, .slice B a.Terms.length c, .slice B1 a.Out.Rows.length c1]) (cs := [.int .i64 a.Qubits, .int .i64 a.Phase, .slice B a.Terms.length c, .slice B1 a.Out.Rows.length c1]) (m := 4) hS rfl rfl rfl rfl) ?_
  rintro _ w_ ⟨b1, rfl, hS1⟩
  refine ss 3 rfl rfl (Ys_box (T := 31) (v := .agg #[.int .i64 b.Qubits, .int .i64 b.Phase, .slice B2 b.Terms.length c2, .slice B3 b.Out.Rows.length c3]) (cs := [.int .i64 b.Qubits, .int .i64 b.Phase, .slice B2 b.Terms.length c2, .slice B3 b.Out.Rows.length c3]) (m := 4) hS1 rfl rfl rfl rfl) ?_
  rintro _ w_1 ⟨b2, rfl, hS2⟩
  have hS2 : ST w0 [] _ [⟨some ⟨b1, 0, none⟩, 31, [.int .i64 a.Qubits, .int .i64 a.Phase, .slice B a.Terms.length c, .slice B1 a.Out.Rows.length c1], 4⟩, ⟨some ⟨b2, 0, none⟩, 31, [.int .i64 b.Qubits, .int .i64 b.Phase, .slice B2 b.Terms.length c2, .slice B3 b.Out.Rows.length c3], 4⟩] [⟨B, (a.Terms.flatMap enc_Term)⟩, ⟨B1, (a.Out.Rows.flatMap encI)⟩, ⟨B2, (b.Terms.flatMap enc_Term)⟩, ⟨B3, (b.Out.Rows.flatMap encI)⟩] := hS2
  refine sq 4 rfl rfl (Y_assign (v := .bool false) rfl rfl) ?_
  refine rw_nil ?_
  refine cw_seq ?_
  refine cw_seq ?_
  refine cw_region ?_
  refine sq 5 rfl rfl (Y_fieldAddr (B := some ⟨b1, 0, none⟩) (i := 0) (s := 0) k_fd_31_0_0_3 k_sz_3_1 rfl rfl) ?_
  refine sq 6 rfl rfl (Y_load1 (B := some ⟨b1, 0, none⟩) (i := 0) (cs := [.int .i64 a.Qubits, .int .i64 a.Phase, .slice B a.Terms.length c, .slice B1 a.Out.Rows.length c1]) (v := .int .i64 a.Qubits) k_sc_3 rfl rfl (hS2.cf (i := 0) rfl) rfl) ?_
  refine sq 7 rfl rfl (Y_fieldAddr (B := some ⟨b2, 0, none⟩) (i := 0) (s := 0) k_fd_31_0_0_3 k_sz_3_1 rfl rfl) ?_
  refine sq 8 rfl rfl (Y_load1 (B := some ⟨b2, 0, none⟩) (i := 0) (cs := [.int .i64 b.Qubits, .int .i64 b.Phase, .slice B2 b.Terms.length c2, .slice B3 b.Out.Rows.length c3]) (v := .int .i64 b.Qubits) k_sc_3 rfl rfl (hS2.cf (i := 1) rfl) rfl) ?_
  refine sq 9 rfl rfl (Y_ne (k := .i64) (a := a.Qubits) (b := b.Qubits) rfl rfl rfl) ?_
  refine rw_nil ?_
  refine cw_cond (b := (a.Qubits != b.Qubits)) rfl (fun hb => ?_) (fun hb => ?_)
  · skip
    have hF1 := ct hF hb
    refine cw_seq ?_
    refine cw_region ?_
    refine sq 4 rfl rfl (Y_assign (v := .bool false) rfl rfl) ?_
    refine rw_nil ?_
    refine cw_ret ?_
    obtain rfl := some_inj hF1
    exact ret1 Try.results8 (v1 := .bool false) (resAt_tmp rfl) ⟨rfl, (ST.subR (R' := []) (hS2.sel [] rfl rfl) (fun _ h => by cases h))⟩
  · skip
    have hF2 := cf' hF hb
    refine cw_skip ?_
    refine cw_seq ?_
    refine cw_seq ?_
    refine cw_region ?_
    refine sq 10 rfl rfl (Y_fieldAddr (B := some ⟨b1, 0, none⟩) (i := 0) (s := 0) k_fd_31_1_1_3 k_sz_3_1 rfl rfl) ?_
    refine sq 11 rfl rfl (Y_load1 (B := some ⟨b1, 0, none⟩) (i := 1) (cs := [.int .i64 a.Qubits, .int .i64 a.Phase, .slice B a.Terms.length c, .slice B1 a.Out.Rows.length c1]) (v := .int .i64 a.Phase) k_sc_3 rfl rfl (hS2.cf (i := 0) rfl) rfl) ?_
    refine sq 12 rfl rfl (Y_fieldAddr (B := some ⟨b2, 0, none⟩) (i := 0) (s := 0) k_fd_31_1_1_3 k_sz_3_1 rfl rfl) ?_
    refine sq 13 rfl rfl (Y_load1 (B := some ⟨b2, 0, none⟩) (i := 1) (cs := [.int .i64 b.Qubits, .int .i64 b.Phase, .slice B2 b.Terms.length c2, .slice B3 b.Out.Rows.length c3]) (v := .int .i64 b.Phase) k_sc_3 rfl rfl (hS2.cf (i := 1) rfl) rfl) ?_
    refine sq 14 rfl rfl (Y_ne (k := .i64) (a := a.Phase) (b := b.Phase) rfl rfl rfl) ?_
    refine rw_nil ?_
    refine cw_cond (b := (a.Phase != b.Phase)) rfl (fun hb1 => ?_) (fun hb1 => ?_)
    · skip
      have hF3 := ct hF2 hb1
      refine cw_seq ?_
      refine cw_region ?_
      refine sq 4 rfl rfl (Y_assign (v := .bool false) rfl rfl) ?_
      refine rw_nil ?_
      refine cw_ret ?_
      obtain rfl := some_inj hF3
      exact ret1 Try.results8 (v1 := .bool false) (resAt_tmp rfl) ⟨rfl, (ST.subR (R' := []) (hS2.sel [] rfl rfl) (fun _ h => by cases h))⟩
    · skip
      have hF4 := cf' hF2 hb1
      refine cw_skip ?_
      refine cw_seq ?_
      refine cw_seq ?_
      refine cw_region ?_
      refine sq 15 rfl rfl (Y_fieldAddr (B := some ⟨b1, 0, none⟩) (i := 0) (s := 0) k_fd_31_2_2_26 k_sz_26_1 rfl rfl) ?_
      refine sq 16 rfl rfl (Y_load1 (B := some ⟨b1, 0, none⟩) (i := 2) (cs := [.int .i64 a.Qubits, .int .i64 a.Phase, .slice B a.Terms.length c, .slice B1 a.Out.Rows.length c1]) (v := .slice B a.Terms.length c) k_sc_26 rfl rfl (hS2.cf (i := 0) rfl) rfl) ?_
      refine sq 17 rfl rfl (Y_fieldAddr (B := some ⟨b2, 0, none⟩) (i := 0) (s := 0) k_fd_31_2_2_26 k_sz_26_1 rfl rfl) ?_
      refine sq 18 rfl rfl (Y_load1 (B := some ⟨b2, 0, none⟩) (i := 2) (cs := [.int .i64 b.Qubits, .int .i64 b.Phase, .slice B2 b.Terms.length c2, .slice B3 b.Out.Rows.length c3]) (v := .slice B2 b.Terms.length c2) k_sc_26 rfl rfl (hS2.cf (i := 1) rfl) rfl) ?_
      obtain ⟨r_1, hc, hF4⟩ := bind_inv hF4
      refine sc 19 rfl rfl (Yc_func (g := 25) (vs := [.slice B a.Terms.length c, .slice B2 b.Terms.length c2]) k_call_25 rfl (mc rfl (mc rfl mn)) (c_laws_eqTermS a.Terms b.Terms B c a.Terms.length B2 c2 b.Terms.length _ rfl rfl (hS2.inn0 [(true, 0), (true, 2)] rfl) hc)) ?_
      rintro _ w_2 ⟨rfl, hd⟩
      have hS3 := hS2.out00 hd
      have hS3 : ST w0 [] _ [⟨some ⟨b1, 0, none⟩, 31, [.int .i64 a.Qubits, .int .i64 a.Phase, .slice B a.Terms.length c, .slice B1 a.Out.Rows.length c1], 4⟩, ⟨some ⟨b2, 0, none⟩, 31, [.int .i64 b.Qubits, .int .i64 b.Phase, .slice B2 b.Terms.length c2, .slice B3 b.Out.Rows.length c3], 4⟩] [⟨B, (a.Terms.flatMap enc_Term)⟩, ⟨B1, (a.Out.Rows.flatMap encI)⟩, ⟨B2, (b.Terms.flatMap enc_Term)⟩, ⟨B3, (b.Out.Rows.flatMap encI)⟩] := hS3
      refine sq 20 rfl rfl (Y_not (p := r_1) rfl rfl) ?_
      refine rw_nil ?_
      refine cw_cond (b := (!r_1)) rfl (fun hb2 => ?_) (fun hb2 => ?_)
      · skip
        have hF5 := ct hF4 hb2
        refine cw_seq ?_
        refine cw_region ?_
        refine sq 4 rfl rfl (Y_assign (v := .bool false) rfl rfl) ?_
        refine rw_nil ?_
        refine cw_ret ?_
        obtain rfl := some_inj hF5
        exact ret1 Try.results8 (v1 := .bool false) (resAt_tmp rfl) ⟨rfl, (ST.subR (R' := []) (hS3.sel [] rfl rfl) (fun _ h => by cases h))⟩
      · skip
        have hF6 := cf' hF4 hb2
        refine cw_skip ?_
        refine cw_seq ?_
        refine cw_seq ?_
        refine cw_region ?_
        refine sq 21 rfl rfl (Y_fieldAddr (B := some ⟨b1, 0, none⟩) (i := 0) (s := 0) k_fd_31_3_3_29 k_sz_29_1 rfl rfl) ?_
        refine sq 22 rfl rfl (Y_loadA (B := some ⟨b1, 0, none⟩) (i := 3) (cs := [.int .i64 a.Qubits, .int .i64 a.Phase, .slice B a.Terms.length c, .slice B1 a.Out.Rows.length c1]) (vs := [.slice B1 a.Out.Rows.length c1]) k_ag_29 k_sz_29_1 rfl rfl (hS3.cf (i := 0) rfl) rfl rfl) ?_
        refine sq 23 rfl rfl (Y_fieldAddr (B := some ⟨b2, 0, none⟩) (i := 0) (s := 0) k_fd_31_3_3_29 k_sz_29_1 rfl rfl) ?_
        refine sq 24 rfl rfl (Y_loadA (B := some ⟨b2, 0, none⟩) (i := 3) (cs := [.int .i64 b.Qubits, .int .i64 b.Phase, .slice B2 b.Terms.length c2, .slice B3 b.Out.Rows.length c3]) (vs := [.slice B3 b.Out.Rows.length c3]) k_ag_29 k_sz_29_1 rfl rfl (hS3.cf (i := 1) rfl) rfl rfl) ?_
        obtain ⟨r_2, hc1, hF6⟩ := bind_inv hF6
        refine sc 25 rfl rfl (Yc_func (g := 26) (vs := [.agg #[.slice B1 a.Out.Rows.length c1], .agg #[.slice B3 b.Out.Rows.length c3]]) k_call_26 rfl (mc rfl (mc rfl mn)) (c_laws_eqLinear a.Out b.Out B1 c1 a.Out.Rows.length B3 c3 b.Out.Rows.length _ rfl rfl (hS3.inn0 [(true, 1), (true, 3)] rfl) hc1)) ?_
        rintro _ w_3 ⟨rfl, hd1⟩
        have hS4 := hS3.out00 hd1
        have hS4 : ST w0 [] _ [⟨some ⟨b1, 0, none⟩, 31, [.int .i64 a.Qubits, .int .i64 a.Phase, .slice B a.Terms.length c, .slice B1 a.Out.Rows.length c1], 4⟩, ⟨some ⟨b2, 0, none⟩, 31, [.int .i64 b.Qubits, .int .i64 b.Phase, .slice B2 b.Terms.length c2, .slice B3 b.Out.Rows.length c3], 4⟩] [⟨B, (a.Terms.flatMap enc_Term)⟩, ⟨B1, (a.Out.Rows.flatMap encI)⟩, ⟨B2, (b.Terms.flatMap enc_Term)⟩, ⟨B3, (b.Out.Rows.flatMap encI)⟩] := hS4
        refine sq 26 rfl rfl (Y_not (p := r_2) rfl rfl) ?_
        refine rw_nil ?_
        refine cw_cond (b := (!r_2)) rfl (fun hb3 => ?_) (fun hb3 => ?_)
        · skip
          have hF7 := ct hF6 hb3
          refine cw_seq ?_
          refine cw_region ?_
          refine sq 4 rfl rfl (Y_assign (v := .bool false) rfl rfl) ?_
          refine rw_nil ?_
          refine cw_ret ?_
          obtain rfl := some_inj hF7
          exact ret1 Try.results8 (v1 := .bool false) (resAt_tmp rfl) ⟨rfl, (ST.subR (R' := []) (hS4.sel [] rfl rfl) (fun _ h => by cases h))⟩
        · skip
          have hF8 := cf' hF6 hb3
          refine cw_skip ?_
          refine cw_seq ?_
          refine cw_region ?_
          refine sq 4 rfl rfl (Y_assign (v := .bool true) rfl rfl) ?_
          refine rw_nil ?_
          refine cw_ret ?_
          obtain rfl := some_inj hF8
          exact ret1 Try.results8 (v1 := .bool true) (resAt_tmp rfl) ⟨rfl, (ST.subR (R' := []) (hS4.sel [] rfl rfl) (fun _ h => by cases h))⟩

theorem c_laws_eqGate (a : TGate) (b : TGate)  (w0 : World)  (hS : ST w0 [] w0 [] []) {r_ : Bool} (hF : F_laws_eqGate a b = some r_) :
    CV Try.prog 43 #[.agg #[.int .i64 a.Kind, .int .i64 a.A, .int .i64 a.B], .agg #[.int .i64 b.Kind, .int .i64 b.A, .int .i64 b.B]] w0 (fun v w' => v = .bool r_ ∧ ST w0 [] w' [] []) := by
  unfold F_laws_eqGate at hF
  refine cv_of_cw 20 Try.func43 rfl Try.ntmps43 rfl ?_
  refine cw_seq ?_
  refine cw_region ?_
  refine ss 2 rfl rfl (Ys_box (T := 48) (v := .agg #[.int .i64 a.Kind, .int .i64 a.A, .int .i64 a.B]) (cs := [.int .i64 a.Kind, .int .i64 a.A, .int .i64 a.B]) (m := 3) hS rfl rfl rfl rfl) ?_
  rintro _ w_ ⟨b1, rfl, hS1⟩
  refine ss 3 rfl rfl (Ys_box (T := 48) (v := .agg #[.int .i64 b.Kind, .int .i64 b.A, .int .i64 b.B]) (cs := [.int .i64 b.Kind, .int .i64 b.A, .int .i64 b.B]) (m := 3) hS1 rfl rfl rfl rfl) ?_
  rintro _ w_1 ⟨b2, rfl, hS2⟩
  have hS2 : ST w0 [] _ [⟨some ⟨b1, 0, none⟩, 48, [.int .i64 a.Kind, .int .i64 a.A, .int .i64 a.B], 3⟩, ⟨some ⟨b2, 0, none⟩, 48, [.int .i64 b.Kind, .int .i64 b.A, .int .i64 b.B], 3⟩] [] := hS2
  refine sq 4 rfl rfl (Y_assign (v := .bool false) rfl rfl) ?_
  refine rw_nil ?_
  refine cw_seq ?_
  refine cw_seq ?_
  refine cw_region ?_
  refine sq 5 rfl rfl (Y_fieldAddr (B := some ⟨b1, 0, none⟩) (i := 0) (s := 0) k_fd_48_0_0_3 k_sz_3_1 rfl rfl) ?_
  refine sq 6 rfl rfl (Y_load1 (B := some ⟨b1, 0, none⟩) (i := 0) (cs := [.int .i64 a.Kind, .int .i64 a.A, .int .i64 a.B]) (v := .int .i64 a.Kind) k_sc_3 rfl rfl (hS2.cf (i := 0) rfl) rfl) ?_
  refine sq 7 rfl rfl (Y_fieldAddr (B := some ⟨b2, 0, none⟩) (i := 0) (s := 0) k_fd_48_0_0_3 k_sz_3_1 rfl rfl) ?_
  refine sq 8 rfl rfl (Y_load1 (B := some ⟨b2, 0, none⟩) (i := 0) (cs := [.int .i64 b.Kind, .int .i64 b.A, .int .i64 b.B]) (v := .int .i64 b.Kind) k_sc_3 rfl rfl (hS2.cf (i := 1) rfl) rfl) ?_
  refine sq 9 rfl rfl (Y_ne (k := .i64) (a := a.Kind) (b := b.Kind) rfl rfl rfl) ?_
  refine rw_nil ?_
  refine cw_cond (b := (a.Kind != b.Kind)) rfl (fun hb => ?_) (fun hb => ?_)
  · skip
    have hF1 := ct hF hb
    refine cw_seq ?_
    refine cw_region ?_
    refine sq 4 rfl rfl (Y_assign (v := .bool false) rfl rfl) ?_
    refine rw_nil ?_
    refine cw_ret ?_
    obtain rfl := some_inj hF1
    exact ret1 Try.results43 (v1 := .bool false) (resAt_tmp rfl) ⟨rfl, (ST.subR (R' := []) (hS2.sel [] rfl rfl) (fun _ h => by cases h))⟩
  · skip
    have hF2 := cf' hF hb
    refine cw_skip ?_
    refine cw_seq ?_
    refine cw_seq ?_
    refine cw_region ?_
    refine sq 10 rfl rfl (Y_fieldAddr (B := some ⟨b1, 0, none⟩) (i := 0) (s := 0) k_fd_48_1_1_3 k_sz_3_1 rfl rfl) ?_
    refine sq 11 rfl rfl (Y_load1 (B := some ⟨b1, 0, none⟩) (i := 1) (cs := [.int .i64 a.Kind, .int .i64 a.A, .int .i64 a.B]) (v := .int .i64 a.A) k_sc_3 rfl rfl (hS2.cf (i := 0) rfl) rfl) ?_
    refine sq 12 rfl rfl (Y_fieldAddr (B := some ⟨b2, 0, none⟩) (i := 0) (s := 0) k_fd_48_1_1_3 k_sz_3_1 rfl rfl) ?_
    refine sq 13 rfl rfl (Y_load1 (B := some ⟨b2, 0, none⟩) (i := 1) (cs := [.int .i64 b.Kind, .int .i64 b.A, .int .i64 b.B]) (v := .int .i64 b.A) k_sc_3 rfl rfl (hS2.cf (i := 1) rfl) rfl) ?_
    refine sq 14 rfl rfl (Y_ne (k := .i64) (a := a.A) (b := b.A) rfl rfl rfl) ?_
    refine rw_nil ?_
    refine cw_cond (b := (a.A != b.A)) rfl (fun hb1 => ?_) (fun hb1 => ?_)
    · skip
      have hF3 := ct hF2 hb1
      refine cw_seq ?_
      refine cw_region ?_
      refine sq 4 rfl rfl (Y_assign (v := .bool false) rfl rfl) ?_
      refine rw_nil ?_
      refine cw_ret ?_
      obtain rfl := some_inj hF3
      exact ret1 Try.results43 (v1 := .bool false) (resAt_tmp rfl) ⟨rfl, (ST.subR (R' := []) (hS2.sel [] rfl rfl) (fun _ h => by cases h))⟩
    · skip
      have hF4 := cf' hF2 hb1
      refine cw_skip ?_
      refine cw_seq ?_
      refine cw_seq ?_
      refine cw_region ?_
      refine sq 15 rfl rfl (Y_fieldAddr (B := some ⟨b1, 0, none⟩) (i := 0) (s := 0) k_fd_48_2_2_3 k_sz_3_1 rfl rfl) ?_
      refine sq 16 rfl rfl (Y_load1 (B := some ⟨b1, 0, none⟩) (i := 2) (cs := [.int .i64 a.Kind, .int .i64 a.A, .int .i64 a.B]) (v := .int .i64 a.B) k_sc_3 rfl rfl (hS2.cf (i := 0) rfl) rfl) ?_
      refine sq 17 rfl rfl (Y_fieldAddr (B := some ⟨b2, 0, none⟩) (i := 0) (s := 0) k_fd_48_2_2_3 k_sz_3_1 rfl rfl) ?_
      refine sq 18 rfl rfl (Y_load1 (B := some ⟨b2, 0, none⟩) (i := 2) (cs := [.int .i64 b.Kind, .int .i64 b.A, .int .i64 b.B]) (v := .int .i64 b.B) k_sc_3 rfl rfl (hS2.cf (i := 1) rfl) rfl) ?_
      refine sq 19 rfl rfl (Y_ne (k := .i64) (a := a.B) (b := b.B) rfl rfl rfl) ?_
      refine rw_nil ?_
      refine cw_cond (b := (a.B != b.B)) rfl (fun hb2 => ?_) (fun hb2 => ?_)
      · skip
        have hF5 := ct hF4 hb2
        refine cw_seq ?_
        refine cw_region ?_
        refine sq 4 rfl rfl (Y_assign (v := .bool false) rfl rfl) ?_
        refine rw_nil ?_
        refine cw_ret ?_
        obtain rfl := some_inj hF5
        exact ret1 Try.results43 (v1 := .bool false) (resAt_tmp rfl) ⟨rfl, (ST.subR (R' := []) (hS2.sel [] rfl rfl) (fun _ h => by cases h))⟩
      · skip
        have hF6 := cf' hF4 hb2
        refine cw_skip ?_
        refine cw_seq ?_
        refine cw_region ?_
        refine sq 4 rfl rfl (Y_assign (v := .bool true) rfl rfl) ?_
        refine rw_nil ?_
        refine cw_ret ?_
        obtain rfl := some_inj hF6
        exact ret1 Try.results43 (v1 := .bool true) (resAt_tmp rfl) ⟨rfl, (ST.subR (R' := []) (hS2.sel [] rfl rfl) (fun _ h => by cases h))⟩

theorem c_laws_eqGateS (a : List TGate) (b : List TGate) (B : Option Addr) (c n : Nat) (B1 : Option Addr) (c1 n1 : Nat) (w0 : World) (hn : a.length = n) (hn1 : b.length = n1) (hS : ST w0 [] w0 [] [⟨B, (a.flatMap enc_Gate)⟩, ⟨B1, (b.flatMap enc_Gate)⟩]) {r_ : Bool} (hF : F_laws_eqGateS a b = some r_) :
    CV Try.prog 27 #[.slice B n c, .slice B1 n1 c1] w0 (fun v w' => v = .bool r_ ∧ ST w0 [] w' [] []) := by
  subst hn
  subst hn1
  unfold F_laws_eqGateS at hF
  refine cv_of_cw 27 Try.func27 rfl Try.ntmps27 rfl ?_
  refine cw_seq ?_
  refine cw_region ?_
  refine sq 4 rfl rfl (Y_assign (v := .bool false) rfl rfl) ?_
  refine rw_nil ?_
  refine cw_seq ?_
  refine cw_seq ?_
  refine cw_region ?_
  refine sq 6 rfl rfl (Y_move (v := .slice B a.length c) rfl rfl) ?_
  refine sq 7 rfl rfl (Y_len (B := B) (m := a.length) (c := c) k_sl_34_48 rfl rfl) ?_
  refine sq 8 rfl rfl (Y_move (v := .slice B1 b.length c1) rfl rfl) ?_
  refine sq 9 rfl rfl (Y_len (B := B1) (m := b.length) (c := c1) k_sl_34_48 rfl rfl) ?_
  refine sq 10 rfl rfl (Y_ne (k := .i64) (a := (a.length : Int)) (b := (b.length : Int)) rfl rfl rfl) ?_
  refine rw_nil ?_
  refine cw_cond (b := ((a.length : Int) != (b.length : Int))) rfl (fun hb => ?_) (fun hb => ?_)
  · skip
    have hF1 := ct hF hb
    refine cw_seq ?_
    refine cw_region ?_
    refine sq 4 rfl rfl (Y_assign (v := .bool false) rfl rfl) ?_
    refine rw_nil ?_
    refine cw_ret ?_
    obtain rfl := some_inj hF1
    exact ret1 Try.results27 (v1 := .bool false) (resAt_tmp rfl) ⟨rfl, (ST.subR (R' := []) (hS.sel [] rfl rfl) (fun _ h => by cases h))⟩
  · skip
    have hF2 := cf' hF hb
    refine cw_skip ?_
    refine cw_seq ?_
    refine cw_seq ?_
    refine cw_region ?_
    refine sq 5 rfl rfl (Y_assign (v := .int .i64 0) rfl rfl) ?_
    refine rw_nil ?_
    obtain ⟨hN, hF2⟩ := chk_inv hF2
    obtain ⟨z, hz, hF3⟩ := bind_inv hF2
    refine cw_block ?_
    refine cw_loop (fun k f w => ∃ (i1 : Nat), FF f [(0, .slice B a.length c), (1, .slice B1 b.length c1), (5, .int .i64 (i1 : Int))] ∧ ST w0 [] w [] [⟨B, (a.flatMap enc_Gate)⟩, ⟨B1, (b.flatMap enc_Gate)⟩] ∧ i1 + k = a.length ∧ forX (F_laws_eqGateS_l1 a b) k i1 () = some z) a.length ⟨0, (FF.cons rfl (FF.cons rfl (FF.cons rfl FF.nil))), (hS.sel [] rfl rfl), Nat.zero_add _, hz⟩ ?_
    rintro k_ f w ⟨i1, hf, hS1, hik, hL⟩
    refine cw_seq ?_
    refine cw_seq ?_
    refine cw_region ?_
    refine sq 11 rfl rfl (Y_move (v := .int .i64 (i1 : Int)) rfl (hf.get 5 2 rfl)) ?_
    refine sq 12 rfl rfl (Y_move (v := .slice B a.length c) rfl (hf.get 0 0 rfl)) ?_
    refine sq 13 rfl rfl (Y_len (B := B) (m := a.length) (c := c) k_sl_34_48 rfl rfl) ?_
    refine sq 14 rfl rfl (Y_lt (k := .i64) (a := (i1 : Int)) (b := (a.length : Int)) rfl rfl rfl) ?_
    refine rw_nil ?_
    refine cw_cond (b := (decide ((i1 : Int) < (a.length : Int)))) rfl (fun hlt => ?_) (fun hlt => ?_)
    · skip
      have hlt1 : i1 < a.length := by have h := of_decide_eq_true hlt; omega
      obtain ⟨k_1, rfl⟩ : ∃ k2, k_ = k2 + 1 := ⟨k_ - 1, by omega⟩
      obtain ⟨y, hb1, hL1⟩ := forX_go hL
      unfold F_laws_eqGateS_l1 at hb1
      refine cw_skip ?_
      refine cw_seq ?_
      refine cw_block ?_
      refine cw_seq ?_
      obtain ⟨x, hx, hb1⟩ := bind_inv hb1
      obtain ⟨x1, hx1, hb1⟩ := bind_inv hb1
      obtain ⟨r_1, hc, hb1⟩ := bind_inv hb1
      refine ra_start (ST.sel hS1 [] rfl rfl).fn (by kernel_rfl) ?_
      have hS3 := hS1.drew
      refine ra_q 0 17 (v := .slice B a.length c) rfl rfl rfl (by kernel_rfl) (by kernel_rfl) (by kernel_rfl) (ST.sel hS3 [] rfl rfl) (fun w' hw' => (Y_move (v := .slice B a.length c) rfl (hf.get 0 0 rfl))) ?_
      refine ra_q 1 18 (v := .int .i64 (i1 : Int)) rfl rfl rfl (by kernel_rfl) (by kernel_rfl) (by kernel_rfl) (ST.sel hS3 [] rfl rfl) (fun w' hw' => (Y_move (v := .int .i64 (i1 : Int)) rfl (hf.get 5 2 rfl))) ?_
      refine ra_q 2 19 (v := pt B ((i1 : Int).toNat * 3)) rfl rfl rfl (by kernel_rfl) (by kernel_rfl) (by kernel_rfl) (ST.sel hS3 [] rfl rfl) (fun w' hw' => (Y_index (B := B) (m := a.length) (c := c) (k := .i64) (i := (i1 : Int)) k_sl_34_48 k_sz_48_3 rfl rfl rfl (gi_isSome enc_Gate_len rfl (ST.rf hw' (i := 0) rfl) hx) (getI_nn hx) (getI_ltI hx rfl))) ?_
      refine ra_q 3 20 (v := .agg #[.int .i64 x.Kind, .int .i64 x.A, .int .i64 x.B]) rfl rfl rfl (by kernel_rfl) (by kernel_rfl) (by kernel_rfl) (ST.sel hS3 [] rfl rfl) (fun w' hw' => (Y_loadA (B := B) (i := (i1 : Int).toNat * 3) (cs := (a.flatMap enc_Gate)) (vs := [.int .i64 x.Kind, .int .i64 x.A, .int .i64 x.B]) k_ag_48 k_sz_48_3 rfl rfl (ST.rf hw' (i := 0) rfl) (enc_Gate_len x) (gi_seg enc_Gate_len hx))) ?_
      refine ra_q 4 21 (v := .slice B1 b.length c1) rfl rfl rfl (by kernel_rfl) (by kernel_rfl) (by kernel_rfl) (ST.sel hS3 [] rfl rfl) (fun w' hw' => (Y_move (v := .slice B1 b.length c1) rfl (hf.get 1 1 rfl))) ?_
      refine ra_q 5 22 (v := .int .i64 (i1 : Int)) rfl rfl rfl (by kernel_rfl) (by kernel_rfl) (by kernel_rfl) (ST.sel hS3 [] rfl rfl) (fun w' hw' => (Y_move (v := .int .i64 (i1 : Int)) rfl (hf.get 5 2 rfl))) ?_
      refine ra_q 6 23 (v := pt B1 ((i1 : Int).toNat * 3)) rfl rfl rfl (by kernel_rfl) (by kernel_rfl) (by kernel_rfl) (ST.sel hS3 [] rfl rfl) (fun w' hw' => (Y_index (B := B1) (m := b.length) (c := c1) (k := .i64) (i := (i1 : Int)) k_sl_34_48 k_sz_48_3 rfl rfl rfl (gi_isSome enc_Gate_len rfl (ST.rf hw' (i := 1) rfl) hx1) (getI_nn hx1) (getI_ltI hx1 rfl))) ?_
      refine ra_q 7 24 (v := .agg #[.int .i64 x1.Kind, .int .i64 x1.A, .int .i64 x1.B]) rfl rfl rfl (by kernel_rfl) (by kernel_rfl) (by kernel_rfl) (ST.sel hS3 [] rfl rfl) (fun w' hw' => (Y_loadA (B := B1) (i := (i1 : Int).toNat * 3) (cs := (b.flatMap enc_Gate)) (vs := [.int .i64 x1.Kind, .int .i64 x1.A, .int .i64 x1.B]) k_ag_48 k_sz_48_3 rfl rfl (ST.rf hw' (i := 1) rfl) (enc_Gate_len x1) (gi_seg enc_Gate_len hx1))) ?_
      refine ra_all (rs := [8]) (by kernel_rfl) rfl ?_
      refine ra_c 25 (i := 8) rfl rfl rfl (Yc_func (g := 43) (vs := [.agg #[.int .i64 x.Kind, .int .i64 x.A, .int .i64 x.B], .agg #[.int .i64 x1.Kind, .int .i64 x1.A, .int .i64 x1.B]]) k_call_43 rfl (mc rfl (mc rfl mn)) (c_laws_eqGate x x1 _  (hS3.inn0 [] rfl) hc)) ?_ ?_
      · rintro _ w_ ⟨rfl, hd⟩
        have hS4 := hS3.out00 hd
        refine ⟨(ST.sel hS4 [] rfl rfl), ?_⟩
        refine ra_q 9 26 (v := .bool (!r_1)) rfl rfl rfl (by kernel_rfl) (by kernel_rfl) (by kernel_rfl) (ST.sel hS4 [] rfl rfl) (fun w' hw' => (Y_not (p := r_1) rfl rfl)) ?_
        refine ra_done (by kernel_rfl) ?_
        refine cw_cond (b := (!r_1)) rfl (fun hb2 => ?_) (fun hb2 => ?_)
        · skip
          have hF4 := ct hb1 hb2
          refine cw_seq ?_
          refine cw_region ?_
          refine sq 4 rfl rfl (Y_assign (v := .bool false) rfl rfl) ?_
          refine rw_nil ?_
          refine cw_ret ?_
          obtain rfl := some_inj hF4
          obtain rfl := some_inj hL1
          obtain rfl := some_inj hF3
          exact ret1 Try.results27 (v1 := .bool false) (resAt_tmp rfl) ⟨rfl, (ST.subR (R' := []) (hS4.sel [] rfl rfl) (fun _ h => by cases h))⟩
        · skip
          have hF5 := cf' hb1 hb2
          refine cw_skip ?_
          refine cw_region ?_
          refine sq 15 rfl rfl (Y_move (v := .int .i64 (i1 : Int)) rfl (hf.get 5 2 rfl)) ?_
          refine sq 16 rfl rfl (Y_add (k := .i64) (a := (i1 : Int)) (b := 1) rfl rfl rfl) ?_
          refine sq 5 rfl rfl (Y_assign (v := .int .i64 (IntKind.i64.wrap ((i1 : Int) + 1))) rfl rfl) ?_
          refine rw_nil ?_
          obtain rfl := some_inj hF5
          exact ⟨k_1, Nat.lt_succ_self _, i1 + 1, (FF.cons (hf.get 0 0 rfl) (FF.cons (hf.get 1 1 rfl) (FF.cons (congrArg (Value.int .i64) (wr_succ hlt1 hN)) FF.nil))), (hS4.sel [] rfl rfl), (by omega), hL1⟩
      exact allR_nil
    · skip
      obtain rfl : k_ = 0 := by have h := of_decide_eq_false hlt; omega
      refine cw_exit rfl ?_
      obtain rfl := some_inj hL
      refine cw_seq ?_
      refine cw_region ?_
      refine sq 4 rfl rfl (Y_assign (v := .bool true) rfl rfl) ?_
      refine rw_nil ?_
      refine cw_ret ?_
      obtain rfl := some_inj hF3
      exact ret1 Try.results27 (v1 := .bool true) (resAt_tmp rfl) ⟨rfl, (ST.subR (R' := []) (hS1.sel [] rfl rfl) (fun _ h => by cases h))⟩

theorem c_laws_eqCircuit (a : TCircuit) (b : TCircuit) (B : Option Addr) (c n : Nat) (B1 : Option Addr) (c1 n1 : Nat) (w0 : World) (hn : a.Gates.length = n) (hn1 : b.Gates.length = n1) (hS : ST w0 [] w0 [] [⟨B, (a.Gates.flatMap enc_Gate)⟩, ⟨B1, (b.Gates.flatMap enc_Gate)⟩]) {r_ : Bool} (hF : F_laws_eqCircuit a b = some r_) :
    CV Try.prog 9 #[.agg #[.int .i64 a.Qubits, .slice B n c], .agg #[.int .i64 b.Qubits, .slice B1 n1 c1]] w0 (fun v w' => v = .bool r_ ∧ ST w0 [] w' [] []) := by
  subst hn
  subst hn1
  unfold F_laws_eqCircuit at hF
  refine cv_of_cw 16 Try.func9 rfl Try.ntmps9 rfl ?_
  refine cw_seq ?_
  refine cw_region ?_
  refine ss 2 rfl rfl (Ys_box (T := 36) (v := .agg #[.int .i64 a.Qubits, .slice B a.Gates.length c]) (cs := [.int .i64 a.Qubits, .slice B a.Gates.length c]) (m := 2) hS rfl rfl rfl rfl) ?_
  rintro _ w_ ⟨b1, rfl, hS1⟩
  refine ss 3 rfl rfl (Ys_box (T := 36) (v := .agg #[.int .i64 b.Qubits, .slice B1 b.Gates.length c1]) (cs := [.int .i64 b.Qubits, .slice B1 b.Gates.length c1]) (m := 2) hS1 rfl rfl rfl rfl) ?_
  rintro _ w_1 ⟨b2, rfl, hS2⟩
  have hS2 : ST w0 [] _ [⟨some ⟨b1, 0, none⟩, 36, [.int .i64 a.Qubits, .slice B a.Gates.length c], 2⟩, ⟨some ⟨b2, 0, none⟩, 36, [.int .i64 b.Qubits, .slice B1 b.Gates.length c1], 2⟩] [⟨B, (a.Gates.flatMap enc_Gate)⟩, ⟨B1, (b.Gates.flatMap enc_Gate)⟩] := hS2
  refine sq 4 rfl rfl (Y_assign (v := .bool false) rfl rfl) ?_
  refine rw_nil ?_
  refine cw_seq ?_
  refine cw_seq ?_
  refine cw_region ?_
  refine sq 5 rfl rfl (Y_fieldAddr (B := some ⟨b1, 0, none⟩) (i := 0) (s := 0) k_fd_36_0_0_3 k_sz_3_1 rfl rfl) ?_
  refine sq 6 rfl rfl (Y_load1 (B := some ⟨b1, 0, none⟩) (i := 0) (cs := [.int .i64 a.Qubits, .slice B a.Gates.length c]) (v := .int .i64 a.Qubits) k_sc_3 rfl rfl (hS2.cf (i := 0) rfl) rfl) ?_
  refine sq 7 rfl rfl (Y_fieldAddr (B := some ⟨b2, 0, none⟩) (i := 0) (s := 0) k_fd_36_0_0_3 k_sz_3_1 rfl rfl) ?_
  refine sq 8 rfl rfl (Y_load1 (B := some ⟨b2, 0, none⟩) (i := 0) (cs := [.int .i64 b.Qubits, .slice B1 b.Gates.length c1]) (v := .int .i64 b.Qubits) k_sc_3 rfl rfl (hS2.cf (i := 1) rfl) rfl) ?_
  refine sq 9 rfl rfl (Y_ne (k := .i64) (a := a.Qubits) (b := b.Qubits) rfl rfl rfl) ?_
  refine rw_nil ?_
  refine cw_cond (b := (a.Qubits != b.Qubits)) rfl (fun hb => ?_) (fun hb => ?_)
  · skip
    have hF1 := ct hF hb
    refine cw_seq ?_
    refine cw_region ?_
    refine sq 4 rfl rfl (Y_assign (v := .bool false) rfl rfl) ?_
    refine rw_nil ?_
    refine cw_ret ?_
    obtain rfl := some_inj hF1
    exact ret1 Try.results9 (v1 := .bool false) (resAt_tmp rfl) ⟨rfl, (ST.subR (R' := []) (hS2.sel [] rfl rfl) (fun _ h => by cases h))⟩
  · skip
    have hF2 := cf' hF hb
    refine cw_skip ?_
    refine cw_seq ?_
    refine cw_seq ?_
    refine cw_region ?_
    refine sq 10 rfl rfl (Y_fieldAddr (B := some ⟨b1, 0, none⟩) (i := 0) (s := 0) k_fd_36_1_1_34 k_sz_34_1 rfl rfl) ?_
    refine sq 11 rfl rfl (Y_load1 (B := some ⟨b1, 0, none⟩) (i := 1) (cs := [.int .i64 a.Qubits, .slice B a.Gates.length c]) (v := .slice B a.Gates.length c) k_sc_34 rfl rfl (hS2.cf (i := 0) rfl) rfl) ?_
    refine sq 12 rfl rfl (Y_fieldAddr (B := some ⟨b2, 0, none⟩) (i := 0) (s := 0) k_fd_36_1_1_34 k_sz_34_1 rfl rfl) ?_
    refine sq 13 rfl rfl (Y_load1 (B := some ⟨b2, 0, none⟩) (i := 1) (cs := [.int .i64 b.Qubits, .slice B1 b.Gates.length c1]) (v := .slice B1 b.Gates.length c1) k_sc_34 rfl rfl (hS2.cf (i := 1) rfl) rfl) ?_
    obtain ⟨r_1, hc, hF2⟩ := bind_inv hF2
    refine sc 14 rfl rfl (Yc_func (g := 27) (vs := [.slice B a.Gates.length c, .slice B1 b.Gates.length c1]) k_call_27 rfl (mc rfl (mc rfl mn)) (c_laws_eqGateS a.Gates b.Gates B c a.Gates.length B1 c1 b.Gates.length _ rfl rfl (hS2.inn0 [(true, 0), (true, 1)] rfl) hc)) ?_
    rintro _ w_2 ⟨rfl, hd⟩
    have hS3 := hS2.out00 hd
    have hS3 : ST w0 [] _ [⟨some ⟨b1, 0, none⟩, 36, [.int .i64 a.Qubits, .slice B a.Gates.length c], 2⟩, ⟨some ⟨b2, 0, none⟩, 36, [.int .i64 b.Qubits, .slice B1 b.Gates.length c1], 2⟩] [⟨B, (a.Gates.flatMap enc_Gate)⟩, ⟨B1, (b.Gates.flatMap enc_Gate)⟩] := hS3
    refine sq 15 rfl rfl (Y_not (p := r_1) rfl rfl) ?_
    refine rw_nil ?_
    refine cw_cond (b := (!r_1)) rfl (fun hb1 => ?_) (fun hb1 => ?_)
    · skip
      have hF3 := ct hF2 hb1
      refine cw_seq ?_
      refine cw_region ?_
      refine sq 4 rfl rfl (Y_assign (v := .bool false) rfl rfl) ?_
      refine rw_nil ?_
      refine cw_ret ?_
      obtain rfl := some_inj hF3
      exact ret1 Try.results9 (v1 := .bool false) (resAt_tmp rfl) ⟨rfl, (ST.subR (R' := []) (hS3.sel [] rfl rfl) (fun _ h => by cases h))⟩
    · skip
      have hF4 := cf' hF2 hb1
      refine cw_skip ?_
      refine cw_seq ?_
      refine cw_region ?_
      refine sq 4 rfl rfl (Y_assign (v := .bool true) rfl rfl) ?_
      refine rw_nil ?_
      refine cw_ret ?_
      obtain rfl := some_inj hF4
      exact ret1 Try.results9 (v1 := .bool true) (resAt_tmp rfl) ⟨rfl, (ST.subR (R' := []) (hS3.sel [] rfl rfl) (fun _ h => by cases h))⟩

theorem c_laws_markGateS (a : List TGate) (k_ : Int) (B : Option Addr) (c n : Nat) (w0 : World) (hn : a.length = n) (hS : ST w0 (bl [⟨B, 48, (a.flatMap enc_Gate), c * 3⟩]) w0 [⟨B, 48, (a.flatMap enc_Gate), c * 3⟩] []) {r_ : Int} {m : List TGate} (hF : F_laws_markGateS a k_ = some (r_, m)) :
    CV Try.prog 28 #[.slice B n c, .int .i64 k_] w0 (fun v w' => v = .int .i64 r_ ∧ m.length = n ∧ ST w0 (bl [⟨B, 48, (a.flatMap enc_Gate), c * 3⟩]) w' [⟨B, 48, (m.flatMap enc_Gate), c * 3⟩] []) := by
  subst hn
  unfold F_laws_markGateS at hF
  refine cv_of_cw 34 Try.func28 rfl Try.ntmps28 rfl ?_
  refine cw_seq ?_
  refine cw_region ?_
  refine sq 4 rfl rfl (Y_assign (v := .int .i64 0) rfl rfl) ?_
  refine rw_nil ?_
  refine cw_seq ?_
  refine cw_seq ?_
  refine cw_region ?_
  refine sq 5 rfl rfl (Y_assign (v := .int .i64 0) rfl rfl) ?_
  refine rw_nil ?_
  obtain ⟨hN, hF⟩ := chk_inv hF
  obtain ⟨z, hz, hF1⟩ := bind_inv hF
  refine cw_block ?_
  refine cw_loop (fun k f w => ∃ (i1 : Nat) (m1 : List TGate) (k_1 : Int), FF f [(0, .slice B a.length c), (1, .int .i64 k_1), (5, .int .i64 (i1 : Int))] ∧ m1.length = a.length ∧ ST w0 (bl [⟨B, 48, (a.flatMap enc_Gate), c * 3⟩]) w [⟨B, 48, (m1.flatMap enc_Gate), c * 3⟩] [] ∧ i1 + k = a.length ∧ forN F_laws_markGateS_l1 k i1 (m1, k_1) = some z) a.length ⟨0, a, k_, (FF.cons rfl (FF.cons rfl (FF.cons rfl FF.nil))), rfl, (hS.sel [0] rfl rfl), Nat.zero_add _, hz⟩ ?_
  rintro k_2 f w ⟨i1, m1, k_1, hf, hl, hS1, hik, hL⟩
  refine cw_seq ?_
  refine cw_seq ?_
  refine cw_region ?_
  refine sq 6 rfl rfl (Y_move (v := .int .i64 (i1 : Int)) rfl (hf.get 5 2 rfl)) ?_
  refine sq 7 rfl rfl (Y_move (v := .slice B a.length c) rfl (hf.get 0 0 rfl)) ?_
  refine sq 8 rfl rfl (Y_len (B := B) (m := a.length) (c := c) k_sl_34_48 rfl rfl) ?_
  refine sq 9 rfl rfl (Y_lt (k := .i64) (a := (i1 : Int)) (b := (a.length : Int)) rfl rfl rfl) ?_
  refine rw_nil ?_
  refine cw_cond (b := (decide ((i1 : Int) < (a.length : Int)))) rfl (fun hlt => ?_) (fun hlt => ?_)
  · skip
    have hlt1 : i1 < a.length := by have h := of_decide_eq_true hlt; omega
    obtain ⟨k_3, rfl⟩ : ∃ k2, k_2 = k2 + 1 := ⟨k_2 - 1, by omega⟩
    obtain ⟨y, hb, hL1⟩ := forN_go hL
    unfold F_laws_markGateS_l1 at hb
    refine cw_skip ?_
    refine cw_seq ?_
    refine cw_block ?_
    refine cw_seq ?_
    refine cw_region ?_
    refine sq 12 rfl rfl (Y_move (v := .slice B a.length c) rfl (hf.get 0 0 rfl)) ?_
    refine sq 13 rfl rfl (Y_move (v := .int .i64 (i1 : Int)) rfl (hf.get 5 2 rfl)) ?_
    refine sq 14 rfl rfl (Y_move (v := .int .i64 k_1) rfl (hf.get 1 1 rfl)) ?_
    obtain ⟨x, hx, hb⟩ := bind_inv hb
    refine sq 15 rfl rfl (Y_index (B := B) (m := a.length) (c := c) (k := .i64) (i := (i1 : Int)) k_sl_34_48 k_sz_48_3 rfl rfl rfl (gi_isSome enc_Gate_len rfl (hS1.cf (i := 0) rfl) hx) (getI_nn hx) (getI_ltI hx hl)) ?_
    refine sq 16 rfl rfl (Y_fieldAddr (B := B) (i := (i1 : Int).toNat * 3) (s := 0) k_fd_48_0_0_3 k_sz_3_1 rfl rfl) ?_
    refine ss0 rfl rfl (Ys_store (i := 0) (s := 1) (B := B) (T' := 48) (v := .int .i64 k_1) (vs := [.int .i64 k_1]) (k := (i1 : Int).toNat * 3 + 0) (cs' := ((m1.set (i1 : Int).toNat (TGate.mk k_1 x.A x.B)).flatMap enc_Gate)) hS1 k_sz_3_1 rfl rfl rfl rfl rfl rfl rfl (gi_fit enc_Gate_len hx (j := 0) (k := 1) (by decide)) (gi_setf enc_Gate_len hx (TGate.mk k_1 x.A x.B) rfl (Nat.le_of_ble_eq_true rfl)) rfl) ?_
    rintro _ w_ ⟨rfl, hS2⟩
    refine rw_nil ?_
    refine cw_seq ?_
    refine cw_region ?_
    refine sq 17 rfl rfl (Y_move (v := .int .i64 k_1) rfl (hf.get 1 1 rfl)) ?_
    refine sq 18 rfl rfl (Y_add (k := .i64) (a := k_1) (b := 1) rfl rfl rfl) ?_
    refine sq 1 rfl rfl (Y_assign (v := .int .i64 (IntKind.i64.wrap (k_1 + 1))) rfl rfl) ?_
    refine rw_nil ?_
    refine cw_seq ?_
    refine cw_region ?_
    refine sq 19 rfl rfl (Y_move (v := .slice B a.length c) rfl (hf.get 0 0 rfl)) ?_
    refine sq 20 rfl rfl (Y_move (v := .int .i64 (i1 : Int)) rfl (hf.get 5 2 rfl)) ?_
    refine sq 21 rfl rfl (Y_move (v := .int .i64 (IntKind.i64.wrap (k_1 + 1))) rfl rfl) ?_
    refine sq 22 rfl rfl (Y_index (B := B) (m := a.length) (c := c) (k := .i64) (i := (i1 : Int)) k_sl_34_48 k_sz_48_3 rfl rfl rfl (gi_isSome enc_Gate_len rfl (hS2.cf (i := 0) rfl) (getI_set (y := (TGate.mk k_1 x.A x.B)) hx)) (getI_nn (getI_set (y := (TGate.mk k_1 x.A x.B)) hx)) (getI_ltI (getI_set (y := (TGate.mk k_1 x.A x.B)) hx) (set_len _ _ _ hl))) ?_
    refine sq 23 rfl rfl (Y_fieldAddr (B := B) (i := (i1 : Int).toNat * 3) (s := 0) k_fd_48_1_1_3 k_sz_3_1 rfl rfl) ?_
    refine ss0 rfl rfl (Ys_store (i := 0) (s := 1) (B := B) (T' := 48) (v := .int .i64 (IntKind.i64.wrap (k_1 + 1))) (vs := [.int .i64 (IntKind.i64.wrap (k_1 + 1))]) (k := (i1 : Int).toNat * 3 + 1) (cs' := (((m1.set (i1 : Int).toNat (TGate.mk k_1 x.A x.B)).set (i1 : Int).toNat (TGate.mk k_1 (IntKind.i64.wrap (k_1 + 1)) x.B)).flatMap enc_Gate)) hS2 k_sz_3_1 rfl rfl rfl rfl rfl rfl rfl (gi_fit enc_Gate_len (getI_set (y := (TGate.mk k_1 x.A x.B)) hx) (j := 1) (k := 1) (by decide)) (gi_setf enc_Gate_len (getI_set (y := (TGate.mk k_1 x.A x.B)) hx) (TGate.mk k_1 (IntKind.i64.wrap (k_1 + 1)) x.B) rfl (Nat.le_of_ble_eq_true rfl)) rfl) ?_
    rintro _ w_1 ⟨rfl, hS3⟩
    refine rw_nil ?_
    refine cw_seq ?_
    refine cw_region ?_
    refine sq 24 rfl rfl (Y_move (v := .int .i64 (IntKind.i64.wrap (k_1 + 1))) rfl rfl) ?_
    refine sq 25 rfl rfl (Y_add (k := .i64) (a := (IntKind.i64.wrap (k_1 + 1))) (b := 1) rfl rfl rfl) ?_
    refine sq 1 rfl rfl (Y_assign (v := .int .i64 (IntKind.i64.wrap ((IntKind.i64.wrap (k_1 + 1)) + 1))) rfl rfl) ?_
    refine rw_nil ?_
    refine cw_seq ?_
    refine cw_region ?_
    refine sq 26 rfl rfl (Y_move (v := .slice B a.length c) rfl (hf.get 0 0 rfl)) ?_
    refine sq 27 rfl rfl (Y_move (v := .int .i64 (i1 : Int)) rfl (hf.get 5 2 rfl)) ?_
    refine sq 28 rfl rfl (Y_move (v := .int .i64 (IntKind.i64.wrap ((IntKind.i64.wrap (k_1 + 1)) + 1))) rfl rfl) ?_
    refine sq 29 rfl rfl (Y_index (B := B) (m := a.length) (c := c) (k := .i64) (i := (i1 : Int)) k_sl_34_48 k_sz_48_3 rfl rfl rfl (gi_isSome enc_Gate_len rfl (hS3.cf (i := 0) rfl) (getI_set (y := (TGate.mk k_1 (IntKind.i64.wrap (k_1 + 1)) x.B)) (getI_set (y := (TGate.mk k_1 x.A x.B)) hx))) (getI_nn (getI_set (y := (TGate.mk k_1 (IntKind.i64.wrap (k_1 + 1)) x.B)) (getI_set (y := (TGate.mk k_1 x.A x.B)) hx))) (getI_ltI (getI_set (y := (TGate.mk k_1 (IntKind.i64.wrap (k_1 + 1)) x.B)) (getI_set (y := (TGate.mk k_1 x.A x.B)) hx)) (set_len _ _ _ (set_len _ _ _ hl)))) ?_
    refine sq 30 rfl rfl (Y_fieldAddr (B := B) (i := (i1 : Int).toNat * 3) (s := 0) k_fd_48_2_2_3 k_sz_3_1 rfl rfl) ?_
    refine ss0 rfl rfl (Ys_store (i := 0) (s := 1) (B := B) (T' := 48) (v := .int .i64 (IntKind.i64.wrap ((IntKind.i64.wrap (k_1 + 1)) + 1))) (vs := [.int .i64 (IntKind.i64.wrap ((IntKind.i64.wrap (k_1 + 1)) + 1))]) (k := (i1 : Int).toNat * 3 + 2) (cs' := ((((m1.set (i1 : Int).toNat (TGate.mk k_1 x.A x.B)).set (i1 : Int).toNat (TGate.mk k_1 (IntKind.i64.wrap (k_1 + 1)) x.B)).set (i1 : Int).toNat (TGate.mk k_1 (IntKind.i64.wrap (k_1 + 1)) (IntKind.i64.wrap ((IntKind.i64.wrap (k_1 + 1)) + 1)))).flatMap enc_Gate)) hS3 k_sz_3_1 rfl rfl rfl rfl rfl rfl rfl (gi_fit enc_Gate_len (getI_set (y := (TGate.mk k_1 (IntKind.i64.wrap (k_1 + 1)) x.B)) (getI_set (y := (TGate.mk k_1 x.A x.B)) hx)) (j := 2) (k := 1) (by decide)) (gi_setf enc_Gate_len (getI_set (y := (TGate.mk k_1 (IntKind.i64.wrap (k_1 + 1)) x.B)) (getI_set (y := (TGate.mk k_1 x.A x.B)) hx)) (TGate.mk k_1 (IntKind.i64.wrap (k_1 + 1)) (IntKind.i64.wrap ((IntKind.i64.wrap (k_1 + 1)) + 1))) rfl (Nat.le_of_ble_eq_true rfl)) rfl) ?_
    rintro _ w_2 ⟨rfl, hS4⟩
    refine rw_nil ?_
    refine cw_region ?_
    refine sq 31 rfl rfl (Y_move (v := .int .i64 (IntKind.i64.wrap ((IntKind.i64.wrap (k_1 + 1)) + 1))) rfl rfl) ?_
    refine sq 32 rfl rfl (Y_add (k := .i64) (a := (IntKind.i64.wrap ((IntKind.i64.wrap (k_1 + 1)) + 1))) (b := 1) rfl rfl rfl) ?_
    refine sq 1 rfl rfl (Y_assign (v := .int .i64 (IntKind.i64.wrap ((IntKind.i64.wrap ((IntKind.i64.wrap (k_1 + 1)) + 1)) + 1))) rfl rfl) ?_
    refine rw_nil ?_
    refine cw_region ?_
    refine sq 10 rfl rfl (Y_move (v := .int .i64 (i1 : Int)) rfl (hf.get 5 2 rfl)) ?_
    refine sq 11 rfl rfl (Y_add (k := .i64) (a := (i1 : Int)) (b := 1) rfl rfl rfl) ?_
    refine sq 5 rfl rfl (Y_assign (v := .int .i64 (IntKind.i64.wrap ((i1 : Int) + 1))) rfl rfl) ?_
    refine rw_nil ?_
    obtain rfl := some_inj hb
    exact ⟨k_3, Nat.lt_succ_self _, i1 + 1, (((m1.set (i1 : Int).toNat (TGate.mk k_1 x.A x.B)).set (i1 : Int).toNat (TGate.mk k_1 (IntKind.i64.wrap (k_1 + 1)) x.B)).set (i1 : Int).toNat (TGate.mk k_1 (IntKind.i64.wrap (k_1 + 1)) (IntKind.i64.wrap ((IntKind.i64.wrap (k_1 + 1)) + 1)))), (IntKind.i64.wrap ((IntKind.i64.wrap ((IntKind.i64.wrap (k_1 + 1)) + 1)) + 1)), (FF.cons (hf.get 0 0 rfl) (FF.cons rfl (FF.cons (congrArg (Value.int .i64) (wr_succ hlt1 hN)) FF.nil))), (set_len _ _ _ (set_len _ _ _ (set_len _ _ _ hl))), (hS4.sel [0] rfl rfl), (by omega), hL1⟩
  · skip
    obtain rfl : k_2 = 0 := by have h := of_decide_eq_false hlt; omega
    refine cw_exit rfl ?_
    obtain rfl := some_inj hL
    refine cw_seq ?_
    refine cw_region ?_
    refine sq 33 rfl rfl (Y_move (v := .int .i64 k_1) rfl (hf.get 1 1 rfl)) ?_
    refine sq 4 rfl rfl (Y_assign (v := .int .i64 k_1) rfl rfl) ?_
    refine rw_nil ?_
    refine cw_ret ?_
    obtain ⟨rfl, rfl⟩ := pr2 (some_inj hF1)
    exact ret1 Try.results28 (v1 := .int .i64 k_1) (resAt_tmp rfl) ⟨rfl, hl, (ST.subR (R' := []) (hS1.sel [0] rfl rfl) (fun _ h => by cases h))⟩

theorem c_laws_markCircuit (a : TCircuit) (k_ : Int) (B : Option Addr) (c n : Nat) (w0 : World) (hn : a.Gates.length = n) (hS : ST w0 (bl [⟨B, 48, (a.Gates.flatMap enc_Gate), c * 3⟩]) w0 [⟨B, 48, (a.Gates.flatMap enc_Gate), c * 3⟩] []) {r_ : Int} {m : List TGate} (hF : F_laws_markCircuit a k_ = some (r_, m)) :
    CV Try.prog 10 #[.agg #[.int .i64 a.Qubits, .slice B n c], .int .i64 k_] w0 (fun v w' => v = .int .i64 r_ ∧ m.length = n ∧ ST w0 (bl [⟨B, 48, (a.Gates.flatMap enc_Gate), c * 3⟩]) w' [⟨B, 48, (m.flatMap enc_Gate), c * 3⟩] []) := by
  subst hn
  unfold F_laws_markCircuit at hF
  refine cv_of_cw 10 Try.func10 rfl Try.ntmps10 rfl ?_
  refine cw_seq ?_
  refine cw_region ?_
  refine ss 2 rfl rfl (Ys_box (T := 36) (v := .agg #[.int .i64 a.Qubits, .slice B a.Gates.length c]) (cs := [.int .i64 a.Qubits, .slice B a.Gates.length c]) (m := 2) hS rfl rfl rfl rfl) ?_
  rintro _ w_ ⟨b, rfl, hS1⟩
  have hS1 : ST w0 (bl [⟨B, 48, (a.Gates.flatMap enc_Gate), c * 3⟩]) _ [⟨B, 48, (a.Gates.flatMap enc_Gate), c * 3⟩, ⟨some ⟨b, 0, none⟩, 36, [.int .i64 a.Qubits, .slice B a.Gates.length c], 2⟩] [] := hS1
  refine sq 4 rfl rfl (Y_assign (v := .int .i64 0) rfl rfl) ?_
  refine rw_nil ?_
  refine cw_seq ?_
  refine cw_region ?_
  refine sq 5 rfl rfl (Y_fieldAddr (B := some ⟨b, 0, none⟩) (i := 0) (s := 0) k_fd_36_1_1_34 k_sz_34_1 rfl rfl) ?_
  refine sq 6 rfl rfl (Y_load1 (B := some ⟨b, 0, none⟩) (i := 1) (cs := [.int .i64 a.Qubits, .slice B a.Gates.length c]) (v := .slice B a.Gates.length c) k_sc_34 rfl rfl (hS1.cf (i := 1) rfl) rfl) ?_
  refine sq 7 rfl rfl (Y_move (v := .int .i64 k_) rfl rfl) ?_
  obtain ⟨⟨r_1, m1⟩, hc, hF⟩ := bind_inv hF
  refine sc 8 rfl rfl (Yc_func (g := 28) (vs := [.slice B a.Gates.length c, .int .i64 k_]) k_call_28 rfl (mc rfl (mc rfl mn)) (c_laws_markGateS a.Gates k_ B c a.Gates.length _ rfl (hS1.inn [true, false] rfl [] rfl) hc)) ?_
  rintro _ w_1 ⟨rfl, hl, hd⟩
  have hS2 := hS1.out [true, false] rfl hd
  have hS2 : ST w0 (bl [⟨B, 48, (a.Gates.flatMap enc_Gate), c * 3⟩]) _ [⟨some ⟨b, 0, none⟩, 36, [.int .i64 a.Qubits, .slice B a.Gates.length c], 2⟩, ⟨B, 48, (m1.flatMap enc_Gate), c * 3⟩] [] := hS2
  refine sq 1 rfl rfl (Y_assign (v := .int .i64 r_1) rfl rfl) ?_
  refine rw_nil ?_
  refine cw_seq ?_
  refine cw_region ?_
  refine sq 9 rfl rfl (Y_move (v := .int .i64 r_1) rfl rfl) ?_
  refine sq 4 rfl rfl (Y_assign (v := .int .i64 r_1) rfl rfl) ?_
  refine rw_nil ?_
  refine cw_ret ?_
  obtain ⟨rfl, rfl⟩ := pr2 (some_inj hF)
  exact ret1 Try.results10 (v1 := .int .i64 r_1) (resAt_tmp rfl) ⟨rfl, hl, (ST.subR (R' := []) (hS2.sel [1] rfl rfl) (fun _ h => by cases h))⟩

theorem c_laws_markTermS (a : List TTerm) (k_ : Int) (B : Option Addr) (c n : Nat) (w0 : World) (hn : a.length = n) (hS : ST w0 (bl [⟨B, 67, (a.flatMap enc_Term), c * 2⟩]) w0 [⟨B, 67, (a.flatMap enc_Term), c * 2⟩] []) {r_ : Int} {m : List TTerm} (hF : F_laws_markTermS a k_ = some (r_, m)) :
    CV Try.prog 29 #[.slice B n c, .int .i64 k_] w0 (fun v w' => v = .int .i64 r_ ∧ m.length = n ∧ ST w0 (bl [⟨B, 67, (a.flatMap enc_Term), c * 2⟩]) w' [⟨B, 67, (m.flatMap enc_Term), c * 2⟩] []) := by
  subst hn
  unfold F_laws_markTermS at hF
  refine cv_of_cw 27 Try.func29 rfl Try.ntmps29 rfl ?_
  refine cw_seq ?_
  refine cw_region ?_
  refine sq 4 rfl rfl (Y_assign (v := .int .i64 0) rfl rfl) ?_
  refine rw_nil ?_
  refine cw_seq ?_
  refine cw_seq ?_
  refine cw_region ?_
  refine sq 5 rfl rfl (Y_assign (v := .int .i64 0) rfl rfl) ?_
  refine rw_nil ?_
  obtain ⟨hN, hF⟩ := chk_inv hF
  obtain ⟨z, hz, hF1⟩ := bind_inv hF
  refine cw_block ?_
  refine cw_loop (fun k f w => ∃ (i1 : Nat) (m1 : List TTerm) (k_1 : Int), FF f [(0, .slice B a.length c), (1, .int .i64 k_1), (5, .int .i64 (i1 : Int))] ∧ m1.length = a.length ∧ ST w0 (bl [⟨B, 67, (a.flatMap enc_Term), c * 2⟩]) w [⟨B, 67, (m1.flatMap enc_Term), c * 2⟩] [] ∧ i1 + k = a.length ∧ forN F_laws_markTermS_l1 k i1 (m1, k_1) = some z) a.length ⟨0, a, k_, (FF.cons rfl (FF.cons rfl (FF.cons rfl FF.nil))), rfl, (hS.sel [0] rfl rfl), Nat.zero_add _, hz⟩ ?_
  rintro k_2 f w ⟨i1, m1, k_1, hf, hl, hS1, hik, hL⟩
  refine cw_seq ?_
  refine cw_seq ?_
  refine cw_region ?_
  refine sq 6 rfl rfl (Y_move (v := .int .i64 (i1 : Int)) rfl (hf.get 5 2 rfl)) ?_
  refine sq 7 rfl rfl (Y_move (v := .slice B a.length c) rfl (hf.get 0 0 rfl)) ?_
  refine sq 8 rfl rfl (Y_len (B := B) (m := a.length) (c := c) k_sl_26_67 rfl rfl) ?_
  refine sq 9 rfl rfl (Y_lt (k := .i64) (a := (i1 : Int)) (b := (a.length : Int)) rfl rfl rfl) ?_
  refine rw_nil ?_
  refine cw_cond (b := (decide ((i1 : Int) < (a.length : Int)))) rfl (fun hlt => ?_) (fun hlt => ?_)
  · skip
    have hlt1 : i1 < a.length := by have h := of_decide_eq_true hlt; omega
    obtain ⟨k_3, rfl⟩ : ∃ k2, k_2 = k2 + 1 := ⟨k_2 - 1, by omega⟩
    obtain ⟨y, hb, hL1⟩ := forN_go hL
    unfold F_laws_markTermS_l1 at hb
    refine cw_skip ?_
    refine cw_seq ?_
    refine cw_block ?_
    refine cw_seq ?_
    refine cw_region ?_
    refine sq 12 rfl rfl (Y_move (v := .slice B a.length c) rfl (hf.get 0 0 rfl)) ?_
    refine sq 13 rfl rfl (Y_move (v := .int .i64 (i1 : Int)) rfl (hf.get 5 2 rfl)) ?_
    refine sq 14 rfl rfl (Y_move (v := .int .i64 k_1) rfl (hf.get 1 1 rfl)) ?_
    obtain ⟨x, hx, hb⟩ := bind_inv hb
    refine sq 15 rfl rfl (Y_index (B := B) (m := a.length) (c := c) (k := .i64) (i := (i1 : Int)) k_sl_26_67 k_sz_67_2 rfl rfl rfl (gi_isSome enc_Term_len rfl (hS1.cf (i := 0) rfl) hx) (getI_nn hx) (getI_ltI hx hl)) ?_
    refine sq 16 rfl rfl (Y_fieldAddr (B := B) (i := (i1 : Int).toNat * 2) (s := 0) k_fd_67_0_0_3 k_sz_3_1 rfl rfl) ?_
    refine ss0 rfl rfl (Ys_store (i := 0) (s := 1) (B := B) (T' := 67) (v := .int .i64 k_1) (vs := [.int .i64 k_1]) (k := (i1 : Int).toNat * 2 + 0) (cs' := ((m1.set (i1 : Int).toNat (TTerm.mk k_1 x.Coef)).flatMap enc_Term)) hS1 k_sz_3_1 rfl rfl rfl rfl rfl rfl rfl (gi_fit enc_Term_len hx (j := 0) (k := 1) (by decide)) (gi_setf enc_Term_len hx (TTerm.mk k_1 x.Coef) rfl (Nat.le_of_ble_eq_true rfl)) rfl) ?_
    rintro _ w_ ⟨rfl, hS2⟩
    refine rw_nil ?_
    refine cw_seq ?_
    refine cw_region ?_
    refine sq 17 rfl rfl (Y_move (v := .int .i64 k_1) rfl (hf.get 1 1 rfl)) ?_
    refine sq 18 rfl rfl (Y_add (k := .i64) (a := k_1) (b := 1) rfl rfl rfl) ?_
    refine sq 1 rfl rfl (Y_assign (v := .int .i64 (IntKind.i64.wrap (k_1 + 1))) rfl rfl) ?_
    refine rw_nil ?_
    refine cw_seq ?_
    refine cw_region ?_
    refine sq 19 rfl rfl (Y_move (v := .slice B a.length c) rfl (hf.get 0 0 rfl)) ?_
    refine sq 20 rfl rfl (Y_move (v := .int .i64 (i1 : Int)) rfl (hf.get 5 2 rfl)) ?_
    refine sq 21 rfl rfl (Y_move (v := .int .i64 (IntKind.i64.wrap (k_1 + 1))) rfl rfl) ?_
    refine sq 22 rfl rfl (Y_index (B := B) (m := a.length) (c := c) (k := .i64) (i := (i1 : Int)) k_sl_26_67 k_sz_67_2 rfl rfl rfl (gi_isSome enc_Term_len rfl (hS2.cf (i := 0) rfl) (getI_set (y := (TTerm.mk k_1 x.Coef)) hx)) (getI_nn (getI_set (y := (TTerm.mk k_1 x.Coef)) hx)) (getI_ltI (getI_set (y := (TTerm.mk k_1 x.Coef)) hx) (set_len _ _ _ hl))) ?_
    refine sq 23 rfl rfl (Y_fieldAddr (B := B) (i := (i1 : Int).toNat * 2) (s := 0) k_fd_67_1_1_3 k_sz_3_1 rfl rfl) ?_
    refine ss0 rfl rfl (Ys_store (i := 0) (s := 1) (B := B) (T' := 67) (v := .int .i64 (IntKind.i64.wrap (k_1 + 1))) (vs := [.int .i64 (IntKind.i64.wrap (k_1 + 1))]) (k := (i1 : Int).toNat * 2 + 1) (cs' := (((m1.set (i1 : Int).toNat (TTerm.mk k_1 x.Coef)).set (i1 : Int).toNat (TTerm.mk k_1 (IntKind.i64.wrap (k_1 + 1)))).flatMap enc_Term)) hS2 k_sz_3_1 rfl rfl rfl rfl rfl rfl rfl (gi_fit enc_Term_len (getI_set (y := (TTerm.mk k_1 x.Coef)) hx) (j := 1) (k := 1) (by decide)) (gi_setf enc_Term_len (getI_set (y := (TTerm.mk k_1 x.Coef)) hx) (TTerm.mk k_1 (IntKind.i64.wrap (k_1 + 1))) rfl (Nat.le_of_ble_eq_true rfl)) rfl) ?_
    rintro _ w_1 ⟨rfl, hS3⟩
    refine rw_nil ?_
    refine cw_region ?_
    refine sq 24 rfl rfl (Y_move (v := .int .i64 (IntKind.i64.wrap (k_1 + 1))) rfl rfl) ?_
    refine sq 25 rfl rfl (Y_add (k := .i64) (a := (IntKind.i64.wrap (k_1 + 1))) (b := 1) rfl rfl rfl) ?_
    refine sq 1 rfl rfl (Y_assign (v := .int .i64 (IntKind.i64.wrap ((IntKind.i64.wrap (k_1 + 1)) + 1))) rfl rfl) ?_
    refine rw_nil ?_
    refine cw_region ?_
    refine sq 10 rfl rfl (Y_move (v := .int .i64 (i1 : Int)) rfl (hf.get 5 2 rfl)) ?_
    refine sq 11 rfl rfl (Y_add (k := .i64) (a := (i1 : Int)) (b := 1) rfl rfl rfl) ?_
    refine sq 5 rfl rfl (Y_assign (v := .int .i64 (IntKind.i64.wrap ((i1 : Int) + 1))) rfl rfl) ?_
    refine rw_nil ?_
    obtain rfl := some_inj hb
    exact ⟨k_3, Nat.lt_succ_self _, i1 + 1, ((m1.set (i1 : Int).toNat (TTerm.mk k_1 x.Coef)).set (i1 : Int).toNat (TTerm.mk k_1 (IntKind.i64.wrap (k_1 + 1)))), (IntKind.i64.wrap ((IntKind.i64.wrap (k_1 + 1)) + 1)), (FF.cons (hf.get 0 0 rfl) (FF.cons rfl (FF.cons (congrArg (Value.int .i64) (wr_succ hlt1 hN)) FF.nil))), (set_len _ _ _ (set_len _ _ _ hl)), (hS3.sel [0] rfl rfl), (by omega), hL1⟩
  · skip
    obtain rfl : k_2 = 0 := by have h := of_decide_eq_false hlt; omega
    refine cw_exit rfl ?_
    obtain rfl := some_inj hL
    refine cw_seq ?_
    refine cw_region ?_
    refine sq 26 rfl rfl (Y_move (v := .int .i64 k_1) rfl (hf.get 1 1 rfl)) ?_
    refine sq 4 rfl rfl (Y_assign (v := .int .i64 k_1) rfl rfl) ?_
    refine rw_nil ?_
    refine cw_ret ?_
    obtain ⟨rfl, rfl⟩ := pr2 (some_inj hF1)
    exact ret1 Try.results29 (v1 := .int .i64 k_1) (resAt_tmp rfl) ⟨rfl, hl, (ST.subR (R' := []) (hS1.sel [0] rfl rfl) (fun _ h => by cases h))⟩

theorem c_laws_markIntS (a : List Int) (k_ : Int) (B : Option Addr) (c n : Nat) (w0 : World) (hn : a.length = n) (hS : ST w0 (bl [⟨B, 3, (a.flatMap encI), c * 1⟩]) w0 [⟨B, 3, (a.flatMap encI), c * 1⟩] []) {r_ : Int} {m : List Int} (hF : F_laws_markIntS a k_ = some (r_, m)) :
    CV Try.prog 44 #[.slice B n c, .int .i64 k_] w0 (fun v w' => v = .int .i64 r_ ∧ m.length = n ∧ ST w0 (bl [⟨B, 3, (a.flatMap encI), c * 1⟩]) w' [⟨B, 3, (m.flatMap encI), c * 1⟩] []) := by
  subst hn
  unfold F_laws_markIntS at hF
  refine cv_of_cw 19 Try.func44 rfl Try.ntmps44 rfl ?_
  refine cw_seq ?_
  refine cw_region ?_
  refine sq 4 rfl rfl (Y_assign (v := .int .i64 0) rfl rfl) ?_
  refine rw_nil ?_
  refine cw_seq ?_
  refine cw_seq ?_
  refine cw_region ?_
  refine sq 5 rfl rfl (Y_assign (v := .int .i64 0) rfl rfl) ?_
  refine rw_nil ?_
  obtain ⟨hN, hF⟩ := chk_inv hF
  obtain ⟨z, hz, hF1⟩ := bind_inv hF
  refine cw_block ?_
  refine cw_loop (fun k f w => ∃ (i1 : Nat) (m1 : List Int) (k_1 : Int), FF f [(0, .slice B a.length c), (1, .int .i64 k_1), (5, .int .i64 (i1 : Int))] ∧ m1.length = a.length ∧ ST w0 (bl [⟨B, 3, (a.flatMap encI), c * 1⟩]) w [⟨B, 3, (m1.flatMap encI), c * 1⟩] [] ∧ i1 + k = a.length ∧ forN F_laws_markIntS_l1 k i1 (m1, k_1) = some z) a.length ⟨0, a, k_, (FF.cons rfl (FF.cons rfl (FF.cons rfl FF.nil))), rfl, (hS.sel [0] rfl rfl), Nat.zero_add _, hz⟩ ?_
  rintro k_2 f w ⟨i1, m1, k_1, hf, hl, hS1, hik, hL⟩
  refine cw_seq ?_
  refine cw_seq ?_
  refine cw_region ?_
  refine sq 6 rfl rfl (Y_move (v := .int .i64 (i1 : Int)) rfl (hf.get 5 2 rfl)) ?_
  refine sq 7 rfl rfl (Y_move (v := .slice B a.length c) rfl (hf.get 0 0 rfl)) ?_
  refine sq 8 rfl rfl (Y_len (B := B) (m := a.length) (c := c) k_sl_27_3 rfl rfl) ?_
  refine sq 9 rfl rfl (Y_lt (k := .i64) (a := (i1 : Int)) (b := (a.length : Int)) rfl rfl rfl) ?_
  refine rw_nil ?_
  refine cw_cond (b := (decide ((i1 : Int) < (a.length : Int)))) rfl (fun hlt => ?_) (fun hlt => ?_)
  · skip
    have hlt1 : i1 < a.length := by have h := of_decide_eq_true hlt; omega
    obtain ⟨k_3, rfl⟩ : ∃ k2, k_2 = k2 + 1 := ⟨k_2 - 1, by omega⟩
    obtain ⟨y, hb, hL1⟩ := forN_go hL
    unfold F_laws_markIntS_l1 at hb
    refine cw_skip ?_
    refine cw_seq ?_
    refine cw_block ?_
    refine cw_seq ?_
    refine cw_region ?_
    refine sq 12 rfl rfl (Y_move (v := .slice B a.length c) rfl (hf.get 0 0 rfl)) ?_
    refine sq 13 rfl rfl (Y_move (v := .int .i64 (i1 : Int)) rfl (hf.get 5 2 rfl)) ?_
    refine sq 14 rfl rfl (Y_move (v := .int .i64 k_1) rfl (hf.get 1 1 rfl)) ?_
    obtain ⟨x, hx, hb⟩ := bind_inv hb
    refine sq 15 rfl rfl (Y_index (B := B) (m := a.length) (c := c) (k := .i64) (i := (i1 : Int)) k_sl_27_3 k_sz_3_1 rfl rfl rfl (gi_isSome encI_len rfl (hS1.cf (i := 0) rfl) hx) (getI_nn hx) (getI_ltI hx hl)) ?_
    refine ss0 rfl rfl (Ys_store (i := 0) (s := 1) (B := B) (T' := 3) (v := .int .i64 k_1) (vs := [.int .i64 k_1]) (k := (i1 : Int).toNat * 1) (cs' := ((m1.set (i1 : Int).toNat k_1).flatMap encI)) hS1 k_sz_3_1 rfl rfl rfl rfl rfl rfl rfl (gi_fit0 encI_len hx) (gi_set encI_len hx k_1 rfl) rfl) ?_
    rintro _ w_ ⟨rfl, hS2⟩
    refine rw_nil ?_
    refine cw_region ?_
    refine sq 16 rfl rfl (Y_move (v := .int .i64 k_1) rfl (hf.get 1 1 rfl)) ?_
    refine sq 17 rfl rfl (Y_add (k := .i64) (a := k_1) (b := 1) rfl rfl rfl) ?_
    refine sq 1 rfl rfl (Y_assign (v := .int .i64 (IntKind.i64.wrap (k_1 + 1))) rfl rfl) ?_
    refine rw_nil ?_
    refine cw_region ?_
    refine sq 10 rfl rfl (Y_move (v := .int .i64 (i1 : Int)) rfl (hf.get 5 2 rfl)) ?_
    refine sq 11 rfl rfl (Y_add (k := .i64) (a := (i1 : Int)) (b := 1) rfl rfl rfl) ?_
    refine sq 5 rfl rfl (Y_assign (v := .int .i64 (IntKind.i64.wrap ((i1 : Int) + 1))) rfl rfl) ?_
    refine rw_nil ?_
    obtain rfl := some_inj hb
    exact ⟨k_3, Nat.lt_succ_self _, i1 + 1, (m1.set (i1 : Int).toNat k_1), (IntKind.i64.wrap (k_1 + 1)), (FF.cons (hf.get 0 0 rfl) (FF.cons rfl (FF.cons (congrArg (Value.int .i64) (wr_succ hlt1 hN)) FF.nil))), (set_len _ _ _ hl), (hS2.sel [0] rfl rfl), (by omega), hL1⟩
  · skip
    obtain rfl : k_2 = 0 := by have h := of_decide_eq_false hlt; omega
    refine cw_exit rfl ?_
    obtain rfl := some_inj hL
    refine cw_seq ?_
    refine cw_region ?_
    refine sq 18 rfl rfl (Y_move (v := .int .i64 k_1) rfl (hf.get 1 1 rfl)) ?_
    refine sq 4 rfl rfl (Y_assign (v := .int .i64 k_1) rfl rfl) ?_
    refine rw_nil ?_
    refine cw_ret ?_
    obtain ⟨rfl, rfl⟩ := pr2 (some_inj hF1)
    exact ret1 Try.results44 (v1 := .int .i64 k_1) (resAt_tmp rfl) ⟨rfl, hl, (ST.subR (R' := []) (hS1.sel [0] rfl rfl) (fun _ h => by cases h))⟩

theorem c_laws_markLinear (a : TLinear) (k_ : Int) (B : Option Addr) (c n : Nat) (w0 : World) (hn : a.Rows.length = n) (hS : ST w0 (bl [⟨B, 3, (a.Rows.flatMap encI), c * 1⟩]) w0 [⟨B, 3, (a.Rows.flatMap encI), c * 1⟩] []) {r_ : Int} {m : List Int} (hF : F_laws_markLinear a k_ = some (r_, m)) :
    CV Try.prog 30 #[.agg #[.slice B n c], .int .i64 k_] w0 (fun v w' => v = .int .i64 r_ ∧ m.length = n ∧ ST w0 (bl [⟨B, 3, (a.Rows.flatMap encI), c * 1⟩]) w' [⟨B, 3, (m.flatMap encI), c * 1⟩] []) := by
  subst hn
  unfold F_laws_markLinear at hF
  refine cv_of_cw 10 Try.func30 rfl Try.ntmps30 rfl ?_
  refine cw_seq ?_
  refine cw_region ?_
  refine ss 2 rfl rfl (Ys_box (T := 29) (v := .agg #[.slice B a.Rows.length c]) (cs := [.slice B a.Rows.length c]) (m := 1) hS rfl rfl rfl rfl) ?_
  rintro _ w_ ⟨b, rfl, hS1⟩
  have hS1 : ST w0 (bl [⟨B, 3, (a.Rows.flatMap encI), c * 1⟩]) _ [⟨B, 3, (a.Rows.flatMap encI), c * 1⟩, ⟨some ⟨b, 0, none⟩, 29, [.slice B a.Rows.length c], 1⟩] [] := hS1
  refine sq 4 rfl rfl (Y_assign (v := .int .i64 0) rfl rfl) ?_
  refine rw_nil ?_
  refine cw_seq ?_
  refine cw_region ?_
  refine sq 5 rfl rfl (Y_fieldAddr (B := some ⟨b, 0, none⟩) (i := 0) (s := 0) k_fd_29_0_0_27 k_sz_27_1 rfl rfl) ?_
  refine sq 6 rfl rfl (Y_load1 (B := some ⟨b, 0, none⟩) (i := 0) (cs := [.slice B a.Rows.length c]) (v := .slice B a.Rows.length c) k_sc_27 rfl rfl (hS1.cf (i := 1) rfl) rfl) ?_
  refine sq 7 rfl rfl (Y_move (v := .int .i64 k_) rfl rfl) ?_
  obtain ⟨⟨r_1, m1⟩, hc, hF⟩ := bind_inv hF
  refine sc 8 rfl rfl (Yc_func (g := 44) (vs := [.slice B a.Rows.length c, .int .i64 k_]) k_call_44 rfl (mc rfl (mc rfl mn)) (c_laws_markIntS a.Rows k_ B c a.Rows.length _ rfl (hS1.inn [true, false] rfl [] rfl) hc)) ?_
  rintro _ w_1 ⟨rfl, hl, hd⟩
  have hS2 := hS1.out [true, false] rfl hd
  have hS2 : ST w0 (bl [⟨B, 3, (a.Rows.flatMap encI), c * 1⟩]) _ [⟨some ⟨b, 0, none⟩, 29, [.slice B a.Rows.length c], 1⟩, ⟨B, 3, (m1.flatMap encI), c * 1⟩] [] := hS2
  refine sq 1 rfl rfl (Y_assign (v := .int .i64 r_1) rfl rfl) ?_
  refine rw_nil ?_
  refine cw_seq ?_
  refine cw_region ?_
  refine sq 9 rfl rfl (Y_move (v := .int .i64 r_1) rfl rfl) ?_
  refine sq 4 rfl rfl (Y_assign (v := .int .i64 r_1) rfl rfl) ?_
  refine rw_nil ?_
  refine cw_ret ?_
  obtain ⟨rfl, rfl⟩ := pr2 (some_inj hF)
  exact ret1 Try.results30 (v1 := .int .i64 r_1) (resAt_tmp rfl) ⟨rfl, hl, (ST.subR (R' := []) (hS2.sel [1] rfl rfl) (fun _ h => by cases h))⟩

theorem c_laws_markPhasePoly (a : TPhasePoly) (k_ : Int) (B : Option Addr) (c n : Nat) (B1 : Option Addr) (c1 n1 : Nat) (w0 : World) (hn : a.Terms.length = n) (hn1 : a.Out.Rows.length = n1) (hS : ST w0 (bl [⟨B, 67, (a.Terms.flatMap enc_Term), c * 2⟩, ⟨B1, 3, (a.Out.Rows.flatMap encI), c1 * 1⟩]) w0 [⟨B, 67, (a.Terms.flatMap enc_Term), c * 2⟩, ⟨B1, 3, (a.Out.Rows.flatMap encI), c1 * 1⟩] []) {r_ : Int} {m : List TTerm} {m1 : List Int} (hF : F_laws_markPhasePoly a k_ = some (r_, m, m1)) :
    CV Try.prog 11 #[.agg #[.int .i64 a.Qubits, .int .i64 a.Phase, .slice B n c, .slice B1 n1 c1], .int .i64 k_] w0 (fun v w' => v = .int .i64 r_ ∧ m.length = n ∧ m1.length = n1 ∧ ST w0 (bl [⟨B, 67, (a.Terms.flatMap enc_Term), c * 2⟩, ⟨B1, 3, (a.Out.Rows.flatMap encI), c1 * 1⟩]) w' [⟨B, 67, (m.flatMap enc_Term), c * 2⟩, ⟨B1, 3, (m1.flatMap encI), c1 * 1⟩] []) := by
  subst hn
  subst hn1
  unfold F_laws_markPhasePoly at hF
  refine cv_of_cw 14 Try.func11 rfl Try.ntmps11 rfl ?_
  refine cw_seq ?_
  refine cw_region ?_
  refine ss 2 rfl rfl (Ys_box (T := 31) (v := .agg #[.int .i64 a.Qubits, .int .i64 a.Phase, .slice B a.Terms.length c, .slice B1 a.Out.Rows.length c1]) (cs := [.int .i64 a.Qubits, .int .i64 a.Phase, .slice B a.Terms.length c, .slice B1 a.Out.Rows.length c1]) (m := 4) hS rfl rfl rfl rfl) ?_
  rintro _ w_ ⟨b, rfl, hS1⟩
  have hS1 : ST w0 (bl [⟨B, 67, (a.Terms.flatMap enc_Term), c * 2⟩, ⟨B1, 3, (a.Out.Rows.flatMap encI), c1 * 1⟩]) _ [⟨B, 67, (a.Terms.flatMap enc_Term), c * 2⟩, ⟨B1, 3, (a.Out.Rows.flatMap encI), c1 * 1⟩, ⟨some ⟨b, 0, none⟩, 31, [.int .i64 a.Qubits, .int .i64 a.Phase, .slice B a.Terms.length c, .slice B1 a.Out.Rows.length c1], 4⟩] [] := hS1
  refine sq 4 rfl rfl (Y_assign (v := .int .i64 0) rfl rfl) ?_
  refine rw_nil ?_
  refine cw_seq ?_
  refine cw_region ?_
  refine sq 5 rfl rfl (Y_fieldAddr (B := some ⟨b, 0, none⟩) (i := 0) (s := 0) k_fd_31_2_2_26 k_sz_26_1 rfl rfl) ?_
  refine sq 6 rfl rfl (Y_load1 (B := some ⟨b, 0, none⟩) (i := 2) (cs := [.int .i64 a.Qubits, .int .i64 a.Phase, .slice B a.Terms.length c, .slice B1 a.Out.Rows.length c1]) (v := .slice B a.Terms.length c) k_sc_26 rfl rfl (hS1.cf (i := 2) rfl) rfl) ?_
  refine sq 7 rfl rfl (Y_move (v := .int .i64 k_) rfl rfl) ?_
  obtain ⟨⟨r_1, m2⟩, hc, hF⟩ := bind_inv hF
  refine sc 8 rfl rfl (Yc_func (g := 29) (vs := [.slice B a.Terms.length c, .int .i64 k_]) k_call_29 rfl (mc rfl (mc rfl mn)) (c_laws_markTermS a.Terms k_ B c a.Terms.length _ rfl (hS1.inn [true, false, false] rfl [] rfl) hc)) ?_
  rintro _ w_1 ⟨rfl, hl, hd⟩
  have hS2 := hS1.out [true, false, false] rfl hd
  have hS2 : ST w0 (bl [⟨B, 67, (a.Terms.flatMap enc_Term), c * 2⟩, ⟨B1, 3, (a.Out.Rows.flatMap encI), c1 * 1⟩]) _ [⟨B1, 3, (a.Out.Rows.flatMap encI), c1 * 1⟩, ⟨some ⟨b, 0, none⟩, 31, [.int .i64 a.Qubits, .int .i64 a.Phase, .slice B a.Terms.length c, .slice B1 a.Out.Rows.length c1], 4⟩, ⟨B, 67, (m2.flatMap enc_Term), c * 2⟩] [] := hS2
  refine sq 1 rfl rfl (Y_assign (v := .int .i64 r_1) rfl rfl) ?_
  refine rw_nil ?_
  refine cw_seq ?_
  refine cw_region ?_
  refine sq 9 rfl rfl (Y_fieldAddr (B := some ⟨b, 0, none⟩) (i := 0) (s := 0) k_fd_31_3_3_29 k_sz_29_1 rfl rfl) ?_
  refine sq 10 rfl rfl (Y_loadA (B := some ⟨b, 0, none⟩) (i := 3) (cs := [.int .i64 a.Qubits, .int .i64 a.Phase, .slice B a.Terms.length c, .slice B1 a.Out.Rows.length c1]) (vs := [.slice B1 a.Out.Rows.length c1]) k_ag_29 k_sz_29_1 rfl rfl (hS2.cf (i := 1) rfl) rfl rfl) ?_
  refine sq 11 rfl rfl (Y_move (v := .int .i64 r_1) rfl rfl) ?_
  obtain ⟨⟨r_2, m3⟩, hc1, hF⟩ := bind_inv hF
  refine sc 12 rfl rfl (Yc_func (g := 30) (vs := [.agg #[.slice B1 a.Out.Rows.length c1], .int .i64 r_1]) k_call_30 rfl (mc rfl (mc rfl mn)) (c_laws_markLinear a.Out r_1 B1 c1 a.Out.Rows.length _ rfl (hS2.inn [true, false, false] rfl [] rfl) hc1)) ?_
  rintro _ w_2 ⟨rfl, hl1, hd1⟩
  have hS3 := hS2.out [true, false, false] rfl hd1
  have hS3 : ST w0 (bl [⟨B, 67, (a.Terms.flatMap enc_Term), c * 2⟩, ⟨B1, 3, (a.Out.Rows.flatMap encI), c1 * 1⟩]) _ [⟨some ⟨b, 0, none⟩, 31, [.int .i64 a.Qubits, .int .i64 a.Phase, .slice B a.Terms.length c, .slice B1 a.Out.Rows.length c1], 4⟩, ⟨B, 67, (m2.flatMap enc_Term), c * 2⟩, ⟨B1, 3, (m3.flatMap encI), c1 * 1⟩] [] := hS3
  refine sq 1 rfl rfl (Y_assign (v := .int .i64 r_2) rfl rfl) ?_
  refine rw_nil ?_
  refine cw_seq ?_
  refine cw_region ?_
  refine sq 13 rfl rfl (Y_move (v := .int .i64 r_2) rfl rfl) ?_
  refine sq 4 rfl rfl (Y_assign (v := .int .i64 r_2) rfl rfl) ?_
  refine rw_nil ?_
  refine cw_ret ?_
  obtain ⟨rfl, rfl, rfl⟩ := pr3 (some_inj hF)
  exact ret1 Try.results11 (v1 := .int .i64 r_2) (resAt_tmp rfl) ⟨rfl, hl, hl1, (ST.subR (R' := []) (hS3.sel [1, 2] rfl rfl) (fun _ h => by cases h))⟩

theorem c_laws_heldTermS (a : List TTerm) (k_ : Int) (B : Option Addr) (c n : Nat) (w0 : World) (hn : a.length = n) (hS : ST w0 [] w0 [] [⟨B, (a.flatMap enc_Term)⟩]) {r_ : Int} (hF : F_laws_heldTermS a k_ = some r_) :
    CV Try.prog 31 #[.slice B n c, .int .i64 k_] w0 (fun v w' => v = .int .i64 r_ ∧ ST w0 [] w' [] []) := by
  subst hn
  unfold F_laws_heldTermS at hF
  refine cv_of_cw 31 Try.func31 rfl Try.ntmps31 rfl ?_
  refine cw_seq ?_
  refine cw_region ?_
  refine sq 4 rfl rfl (Y_assign (v := .int .i64 0) rfl rfl) ?_
  refine rw_nil ?_
  refine cw_seq ?_
  refine cw_seq ?_
  refine cw_region ?_
  refine sq 5 rfl rfl (Y_assign (v := .int .i64 0) rfl rfl) ?_
  refine rw_nil ?_
  obtain ⟨hN, hF⟩ := chk_inv hF
  obtain ⟨z, hz, hF1⟩ := bind_inv hF
  refine cw_block ?_
  refine cw_loop (fun k f w => ∃ (i1 : Nat) (k_1 : Int), FF f [(0, .slice B a.length c), (1, .int .i64 k_1), (5, .int .i64 (i1 : Int))] ∧ ST w0 [] w [] [⟨B, (a.flatMap enc_Term)⟩] ∧ i1 + k = a.length ∧ forX (F_laws_heldTermS_l1 a) k i1 k_1 = some z) a.length ⟨0, k_, (FF.cons rfl (FF.cons rfl (FF.cons rfl FF.nil))), (hS.sel [] rfl rfl), Nat.zero_add _, hz⟩ ?_
  rintro k_2 f w ⟨i1, k_1, hf, hS1, hik, hL⟩
  refine cw_seq ?_
  refine cw_seq ?_
  refine cw_region ?_
  refine sq 6 rfl rfl (Y_move (v := .int .i64 (i1 : Int)) rfl (hf.get 5 2 rfl)) ?_
  refine sq 7 rfl rfl (Y_move (v := .slice B a.length c) rfl (hf.get 0 0 rfl)) ?_
  refine sq 8 rfl rfl (Y_len (B := B) (m := a.length) (c := c) k_sl_26_67 rfl rfl) ?_
  refine sq 9 rfl rfl (Y_lt (k := .i64) (a := (i1 : Int)) (b := (a.length : Int)) rfl rfl rfl) ?_
  refine rw_nil ?_
  refine cw_cond (b := (decide ((i1 : Int) < (a.length : Int)))) rfl (fun hlt => ?_) (fun hlt => ?_)
  · skip
    have hlt1 : i1 < a.length := by have h := of_decide_eq_true hlt; omega
    obtain ⟨k_3, rfl⟩ : ∃ k2, k_2 = k2 + 1 := ⟨k_2 - 1, by omega⟩
    obtain ⟨y, hb, hL1⟩ := forX_go hL
    unfold F_laws_heldTermS_l1 at hb
    refine cw_skip ?_
    refine cw_seq ?_
    refine cw_block ?_
    refine cw_seq ?_
    refine cw_seq ?_
    refine cw_region ?_
    refine sq 12 rfl rfl (Y_move (v := .slice B a.length c) rfl (hf.get 0 0 rfl)) ?_
    refine sq 13 rfl rfl (Y_move (v := .int .i64 (i1 : Int)) rfl (hf.get 5 2 rfl)) ?_
    obtain ⟨x, hx, hb⟩ := bind_inv hb
    refine sq 14 rfl rfl (Y_index (B := B) (m := a.length) (c := c) (k := .i64) (i := (i1 : Int)) k_sl_26_67 k_sz_67_2 rfl rfl rfl (gi_isSome enc_Term_len rfl (hS1.rf (i := 0) rfl) hx) (getI_nn hx) (getI_ltI hx rfl)) ?_
    refine sq 15 rfl rfl (Y_fieldAddr (B := B) (i := (i1 : Int).toNat * 2) (s := 0) k_fd_67_0_0_3 k_sz_3_1 rfl rfl) ?_
    refine sq 16 rfl rfl (Y_load1 (B := B) (i := (i1 : Int).toNat * 2 + 0) (cs := (a.flatMap enc_Term)) (v := .int .i64 x.Mask) k_sc_3 rfl rfl (hS1.rf (i := 0) rfl) (gi_at enc_Term_len hx rfl)) ?_
    refine sq 17 rfl rfl (Y_move (v := .int .i64 k_1) rfl (hf.get 1 1 rfl)) ?_
    refine sq 18 rfl rfl (Y_ne (k := .i64) (a := x.Mask) (b := k_1) rfl rfl rfl) ?_
    refine rw_nil ?_
    refine cw_cond (b := (x.Mask != k_1)) rfl (fun hb1 => ?_) (fun hb1 => ?_)
    · skip
      have hF2 := ct hb hb1
      refine cw_seq ?_
      refine cw_region ?_
      refine sq 4 rfl rfl (Y_assign (v := .int .i64 (-1)) rfl rfl) ?_
      refine rw_nil ?_
      refine cw_ret ?_
      obtain rfl := some_inj hF2
      obtain rfl := some_inj hL1
      obtain rfl := some_inj hF1
      exact ret1 Try.results31 (v1 := .int .i64 (-1)) (resAt_tmp rfl) ⟨rfl, (ST.subR (R' := []) (hS1.sel [] rfl rfl) (fun _ h => by cases h))⟩
    · skip
      have hF3 := cf' hb hb1
      refine cw_skip ?_
      refine cw_seq ?_
      refine cw_region ?_
      refine sq 19 rfl rfl (Y_move (v := .int .i64 k_1) rfl (hf.get 1 1 rfl)) ?_
      refine sq 20 rfl rfl (Y_add (k := .i64) (a := k_1) (b := 1) rfl rfl rfl) ?_
      refine sq 1 rfl rfl (Y_assign (v := .int .i64 (IntKind.i64.wrap (k_1 + 1))) rfl rfl) ?_
      refine rw_nil ?_
      refine cw_seq ?_
      refine cw_seq ?_
      refine cw_region ?_
      refine sq 21 rfl rfl (Y_move (v := .slice B a.length c) rfl (hf.get 0 0 rfl)) ?_
      refine sq 22 rfl rfl (Y_move (v := .int .i64 (i1 : Int)) rfl (hf.get 5 2 rfl)) ?_
      refine sq 23 rfl rfl (Y_index (B := B) (m := a.length) (c := c) (k := .i64) (i := (i1 : Int)) k_sl_26_67 k_sz_67_2 rfl rfl rfl (gi_isSome enc_Term_len rfl (hS1.rf (i := 0) rfl) hx) (getI_nn hx) (getI_ltI hx rfl)) ?_
      refine sq 24 rfl rfl (Y_fieldAddr (B := B) (i := (i1 : Int).toNat * 2) (s := 0) k_fd_67_1_1_3 k_sz_3_1 rfl rfl) ?_
      refine sq 25 rfl rfl (Y_load1 (B := B) (i := (i1 : Int).toNat * 2 + 1) (cs := (a.flatMap enc_Term)) (v := .int .i64 x.Coef) k_sc_3 rfl rfl (hS1.rf (i := 0) rfl) (gi_at enc_Term_len hx rfl)) ?_
      refine sq 26 rfl rfl (Y_move (v := .int .i64 (IntKind.i64.wrap (k_1 + 1))) rfl rfl) ?_
      refine sq 27 rfl rfl (Y_ne (k := .i64) (a := x.Coef) (b := (IntKind.i64.wrap (k_1 + 1))) rfl rfl rfl) ?_
      refine rw_nil ?_
      refine cw_cond (b := (x.Coef != (IntKind.i64.wrap (k_1 + 1)))) rfl (fun hb2 => ?_) (fun hb2 => ?_)
      · skip
        have hF4 := ct hF3 hb2
        refine cw_seq ?_
        refine cw_region ?_
        refine sq 4 rfl rfl (Y_assign (v := .int .i64 (-1)) rfl rfl) ?_
        refine rw_nil ?_
        refine cw_ret ?_
        obtain rfl := some_inj hF4
        obtain rfl := some_inj hL1
        obtain rfl := some_inj hF1
        exact ret1 Try.results31 (v1 := .int .i64 (-1)) (resAt_tmp rfl) ⟨rfl, (ST.subR (R' := []) (hS1.sel [] rfl rfl) (fun _ h => by cases h))⟩
      · skip
        have hF5 := cf' hF3 hb2
        refine cw_skip ?_
        refine cw_region ?_
        refine sq 28 rfl rfl (Y_move (v := .int .i64 (IntKind.i64.wrap (k_1 + 1))) rfl rfl) ?_
        refine sq 29 rfl rfl (Y_add (k := .i64) (a := (IntKind.i64.wrap (k_1 + 1))) (b := 1) rfl rfl rfl) ?_
        refine sq 1 rfl rfl (Y_assign (v := .int .i64 (IntKind.i64.wrap ((IntKind.i64.wrap (k_1 + 1)) + 1))) rfl rfl) ?_
        refine rw_nil ?_
        refine cw_region ?_
        refine sq 10 rfl rfl (Y_move (v := .int .i64 (i1 : Int)) rfl (hf.get 5 2 rfl)) ?_
        refine sq 11 rfl rfl (Y_add (k := .i64) (a := (i1 : Int)) (b := 1) rfl rfl rfl) ?_
        refine sq 5 rfl rfl (Y_assign (v := .int .i64 (IntKind.i64.wrap ((i1 : Int) + 1))) rfl rfl) ?_
        refine rw_nil ?_
        obtain rfl := some_inj hF5
        exact ⟨k_3, Nat.lt_succ_self _, i1 + 1, (IntKind.i64.wrap ((IntKind.i64.wrap (k_1 + 1)) + 1)), (FF.cons (hf.get 0 0 rfl) (FF.cons rfl (FF.cons (congrArg (Value.int .i64) (wr_succ hlt1 hN)) FF.nil))), (hS1.sel [] rfl rfl), (by omega), hL1⟩
  · skip
    obtain rfl : k_2 = 0 := by have h := of_decide_eq_false hlt; omega
    refine cw_exit rfl ?_
    obtain rfl := some_inj hL
    refine cw_seq ?_
    refine cw_region ?_
    refine sq 30 rfl rfl (Y_move (v := .int .i64 k_1) rfl (hf.get 1 1 rfl)) ?_
    refine sq 4 rfl rfl (Y_assign (v := .int .i64 k_1) rfl rfl) ?_
    refine rw_nil ?_
    refine cw_ret ?_
    obtain rfl := some_inj hF1
    exact ret1 Try.results31 (v1 := .int .i64 k_1) (resAt_tmp rfl) ⟨rfl, (ST.subR (R' := []) (hS1.sel [] rfl rfl) (fun _ h => by cases h))⟩

theorem c_laws_heldIntS (a : List Int) (k_ : Int) (B : Option Addr) (c n : Nat) (w0 : World) (hn : a.length = n) (hS : ST w0 [] w0 [] [⟨B, (a.flatMap encI)⟩]) {r_ : Int} (hF : F_laws_heldIntS a k_ = some r_) :
    CV Try.prog 45 #[.slice B n c, .int .i64 k_] w0 (fun v w' => v = .int .i64 r_ ∧ ST w0 [] w' [] []) := by
  subst hn
  unfold F_laws_heldIntS at hF
  refine cv_of_cw 21 Try.func45 rfl Try.ntmps45 rfl ?_
  refine cw_seq ?_
  refine cw_region ?_
  refine sq 4 rfl rfl (Y_assign (v := .int .i64 0) rfl rfl) ?_
  refine rw_nil ?_
  refine cw_seq ?_
  refine cw_seq ?_
  refine cw_region ?_
  refine sq 5 rfl rfl (Y_assign (v := .int .i64 0) rfl rfl) ?_
  refine rw_nil ?_
  obtain ⟨hN, hF⟩ := chk_inv hF
  obtain ⟨z, hz, hF1⟩ := bind_inv hF
  refine cw_block ?_
  refine cw_loop (fun k f w => ∃ (i1 : Nat) (k_1 : Int), FF f [(0, .slice B a.length c), (1, .int .i64 k_1), (5, .int .i64 (i1 : Int))] ∧ ST w0 [] w [] [⟨B, (a.flatMap encI)⟩] ∧ i1 + k = a.length ∧ forX (F_laws_heldIntS_l1 a) k i1 k_1 = some z) a.length ⟨0, k_, (FF.cons rfl (FF.cons rfl (FF.cons rfl FF.nil))), (hS.sel [] rfl rfl), Nat.zero_add _, hz⟩ ?_
  rintro k_2 f w ⟨i1, k_1, hf, hS1, hik, hL⟩
  refine cw_seq ?_
  refine cw_seq ?_
  refine cw_region ?_
  refine sq 6 rfl rfl (Y_move (v := .int .i64 (i1 : Int)) rfl (hf.get 5 2 rfl)) ?_
  refine sq 7 rfl rfl (Y_move (v := .slice B a.length c) rfl (hf.get 0 0 rfl)) ?_
  refine sq 8 rfl rfl (Y_len (B := B) (m := a.length) (c := c) k_sl_27_3 rfl rfl) ?_
  refine sq 9 rfl rfl (Y_lt (k := .i64) (a := (i1 : Int)) (b := (a.length : Int)) rfl rfl rfl) ?_
  refine rw_nil ?_
  refine cw_cond (b := (decide ((i1 : Int) < (a.length : Int)))) rfl (fun hlt => ?_) (fun hlt => ?_)
  · skip
    have hlt1 : i1 < a.length := by have h := of_decide_eq_true hlt; omega
    obtain ⟨k_3, rfl⟩ : ∃ k2, k_2 = k2 + 1 := ⟨k_2 - 1, by omega⟩
    obtain ⟨y, hb, hL1⟩ := forX_go hL
    unfold F_laws_heldIntS_l1 at hb
    refine cw_skip ?_
    refine cw_seq ?_
    refine cw_block ?_
    refine cw_seq ?_
    refine cw_seq ?_
    refine cw_region ?_
    refine sq 12 rfl rfl (Y_move (v := .slice B a.length c) rfl (hf.get 0 0 rfl)) ?_
    refine sq 13 rfl rfl (Y_move (v := .int .i64 (i1 : Int)) rfl (hf.get 5 2 rfl)) ?_
    obtain ⟨x, hx, hb⟩ := bind_inv hb
    refine sq 14 rfl rfl (Y_index (B := B) (m := a.length) (c := c) (k := .i64) (i := (i1 : Int)) k_sl_27_3 k_sz_3_1 rfl rfl rfl (gi_isSome encI_len rfl (hS1.rf (i := 0) rfl) hx) (getI_nn hx) (getI_ltI hx rfl)) ?_
    refine sq 15 rfl rfl (Y_load1 (B := B) (i := (i1 : Int).toNat * 1) (cs := (a.flatMap encI)) (v := .int .i64 x) k_sc_3 rfl rfl (hS1.rf (i := 0) rfl) (gi_at0 encI_len hx rfl)) ?_
    refine sq 16 rfl rfl (Y_move (v := .int .i64 k_1) rfl (hf.get 1 1 rfl)) ?_
    refine sq 17 rfl rfl (Y_ne (k := .i64) (a := x) (b := k_1) rfl rfl rfl) ?_
    refine rw_nil ?_
    refine cw_cond (b := (x != k_1)) rfl (fun hb1 => ?_) (fun hb1 => ?_)
    · skip
      have hF2 := ct hb hb1
      refine cw_seq ?_
      refine cw_region ?_
      refine sq 4 rfl rfl (Y_assign (v := .int .i64 (-1)) rfl rfl) ?_
      refine rw_nil ?_
      refine cw_ret ?_
      obtain rfl := some_inj hF2
      obtain rfl := some_inj hL1
      obtain rfl := some_inj hF1
      exact ret1 Try.results45 (v1 := .int .i64 (-1)) (resAt_tmp rfl) ⟨rfl, (ST.subR (R' := []) (hS1.sel [] rfl rfl) (fun _ h => by cases h))⟩
    · skip
      have hF3 := cf' hb hb1
      refine cw_skip ?_
      refine cw_region ?_
      refine sq 18 rfl rfl (Y_move (v := .int .i64 k_1) rfl (hf.get 1 1 rfl)) ?_
      refine sq 19 rfl rfl (Y_add (k := .i64) (a := k_1) (b := 1) rfl rfl rfl) ?_
      refine sq 1 rfl rfl (Y_assign (v := .int .i64 (IntKind.i64.wrap (k_1 + 1))) rfl rfl) ?_
      refine rw_nil ?_
      refine cw_region ?_
      refine sq 10 rfl rfl (Y_move (v := .int .i64 (i1 : Int)) rfl (hf.get 5 2 rfl)) ?_
      refine sq 11 rfl rfl (Y_add (k := .i64) (a := (i1 : Int)) (b := 1) rfl rfl rfl) ?_
      refine sq 5 rfl rfl (Y_assign (v := .int .i64 (IntKind.i64.wrap ((i1 : Int) + 1))) rfl rfl) ?_
      refine rw_nil ?_
      obtain rfl := some_inj hF3
      exact ⟨k_3, Nat.lt_succ_self _, i1 + 1, (IntKind.i64.wrap (k_1 + 1)), (FF.cons (hf.get 0 0 rfl) (FF.cons rfl (FF.cons (congrArg (Value.int .i64) (wr_succ hlt1 hN)) FF.nil))), (hS1.sel [] rfl rfl), (by omega), hL1⟩
  · skip
    obtain rfl : k_2 = 0 := by have h := of_decide_eq_false hlt; omega
    refine cw_exit rfl ?_
    obtain rfl := some_inj hL
    refine cw_seq ?_
    refine cw_region ?_
    refine sq 20 rfl rfl (Y_move (v := .int .i64 k_1) rfl (hf.get 1 1 rfl)) ?_
    refine sq 4 rfl rfl (Y_assign (v := .int .i64 k_1) rfl rfl) ?_
    refine rw_nil ?_
    refine cw_ret ?_
    obtain rfl := some_inj hF1
    exact ret1 Try.results45 (v1 := .int .i64 k_1) (resAt_tmp rfl) ⟨rfl, (ST.subR (R' := []) (hS1.sel [] rfl rfl) (fun _ h => by cases h))⟩

theorem c_laws_heldLinear (a : TLinear) (k_ : Int) (B : Option Addr) (c n : Nat) (w0 : World) (hn : a.Rows.length = n) (hS : ST w0 [] w0 [] [⟨B, (a.Rows.flatMap encI)⟩]) {r_ : Int} (hF : F_laws_heldLinear a k_ = some r_) :
    CV Try.prog 32 #[.agg #[.slice B n c], .int .i64 k_] w0 (fun v w' => v = .int .i64 r_ ∧ ST w0 [] w' [] []) := by
  subst hn
  unfold F_laws_heldLinear at hF
  refine cv_of_cw 12 Try.func32 rfl Try.ntmps32 rfl ?_
  refine cw_seq ?_
  refine cw_region ?_
  refine ss 2 rfl rfl (Ys_box (T := 29) (v := .agg #[.slice B a.Rows.length c]) (cs := [.slice B a.Rows.length c]) (m := 1) hS rfl rfl rfl rfl) ?_
  rintro _ w_ ⟨b, rfl, hS1⟩
  refine sq 4 rfl rfl (Y_assign (v := .int .i64 0) rfl rfl) ?_
  refine rw_nil ?_
  refine cw_seq ?_
  refine cw_region ?_
  refine sq 5 rfl rfl (Y_fieldAddr (B := some ⟨b, 0, none⟩) (i := 0) (s := 0) k_fd_29_0_0_27 k_sz_27_1 rfl rfl) ?_
  refine sq 6 rfl rfl (Y_load1 (B := some ⟨b, 0, none⟩) (i := 0) (cs := [.slice B a.Rows.length c]) (v := .slice B a.Rows.length c) k_sc_27 rfl rfl (hS1.cf (i := 0) rfl) rfl) ?_
  refine sq 7 rfl rfl (Y_move (v := .int .i64 k_) rfl rfl) ?_
  obtain ⟨r_1, hc, hF⟩ := bind_inv hF
  refine sc 8 rfl rfl (Yc_func (g := 45) (vs := [.slice B a.Rows.length c, .int .i64 k_]) k_call_45 rfl (mc rfl (mc rfl mn)) (c_laws_heldIntS a.Rows k_ B c a.Rows.length _ rfl (hS1.inn0 [(true, 0)] rfl) hc)) ?_
  rintro _ w_1 ⟨rfl, hd⟩
  have hS2 := hS1.out00 hd
  refine sq 1 rfl rfl (Y_assign (v := .int .i64 r_1) rfl rfl) ?_
  refine rw_nil ?_
  refine cw_seq ?_
  refine cw_seq ?_
  refine cw_region ?_
  refine sq 9 rfl rfl (Y_move (v := .int .i64 r_1) rfl rfl) ?_
  refine sq 10 rfl rfl (Y_lt (k := .i64) (a := r_1) (b := 0) rfl rfl rfl) ?_
  refine rw_nil ?_
  refine cw_cond (b := (decide (r_1 < 0))) rfl (fun hb => ?_) (fun hb => ?_)
  · skip
    have hF1 := ct hF hb
    refine cw_seq ?_
    refine cw_region ?_
    refine sq 4 rfl rfl (Y_assign (v := .int .i64 (-1)) rfl rfl) ?_
    refine rw_nil ?_
    refine cw_ret ?_
    obtain rfl := some_inj hF1
    exact ret1 Try.results32 (v1 := .int .i64 (-1)) (resAt_tmp rfl) ⟨rfl, (ST.subR (R' := []) (hS2.sel [] rfl rfl) (fun _ h => by cases h))⟩
  · skip
    have hF2 := cf' hF hb
    refine cw_skip ?_
    refine cw_seq ?_
    refine cw_region ?_
    refine sq 11 rfl rfl (Y_move (v := .int .i64 r_1) rfl rfl) ?_
    refine sq 4 rfl rfl (Y_assign (v := .int .i64 r_1) rfl rfl) ?_
    refine rw_nil ?_
    refine cw_ret ?_
    obtain rfl := some_inj hF2
    exact ret1 Try.results32 (v1 := .int .i64 r_1) (resAt_tmp rfl) ⟨rfl, (ST.subR (R' := []) (hS2.sel [] rfl rfl) (fun _ h => by cases h))⟩

theorem c_laws_heldPhasePoly (a : TPhasePoly) (k_ : Int) (B : Option Addr) (c n : Nat) (B1 : Option Addr) (c1 n1 : Nat) (w0 : World) (hn : a.Terms.length = n) (hn1 : a.Out.Rows.length = n1) (hS : ST w0 [] w0 [] [⟨B, (a.Terms.flatMap enc_Term)⟩, ⟨B1, (a.Out.Rows.flatMap encI)⟩]) {r_ : Int} (hF : F_laws_heldPhasePoly a k_ = some r_) :
    CV Try.prog 12 #[.agg #[.int .i64 a.Qubits, .int .i64 a.Phase, .slice B n c, .slice B1 n1 c1], .int .i64 k_] w0 (fun v w' => v = .int .i64 r_ ∧ ST w0 [] w' [] []) := by
  subst hn
  subst hn1
  unfold F_laws_heldPhasePoly at hF
  refine cv_of_cw 18 Try.func12 rfl Try.ntmps12 rfl ?_
  refine cw_seq ?_
  refine cw_region ?_
  refine ss 2 rfl rfl (Ys_box (T := 31) (v := .agg #[.int .i64 a.Qubits, .int .i64 a.Phase, .slice B a.Terms.length c, .slice B1 a.Out.Rows.length c1]) (cs := [.int .i64 a.Qubits, .int .i64 a.Phase, .slice B a.Terms.length c, .slice B1 a.Out.Rows.length c1]) (m := 4) hS rfl rfl rfl rfl) ?_
  rintro _ w_ ⟨b, rfl, hS1⟩
  refine sq 4 rfl rfl (Y_assign (v := .int .i64 0) rfl rfl) ?_
  refine rw_nil ?_
  refine cw_seq ?_
  refine cw_region ?_
  refine sq 5 rfl rfl (Y_fieldAddr (B := some ⟨b, 0, none⟩) (i := 0) (s := 0) k_fd_31_2_2_26 k_sz_26_1 rfl rfl) ?_
  refine sq 6 rfl rfl (Y_load1 (B := some ⟨b, 0, none⟩) (i := 2) (cs := [.int .i64 a.Qubits, .int .i64 a.Phase, .slice B a.Terms.length c, .slice B1 a.Out.Rows.length c1]) (v := .slice B a.Terms.length c) k_sc_26 rfl rfl (hS1.cf (i := 0) rfl) rfl) ?_
  refine sq 7 rfl rfl (Y_move (v := .int .i64 k_) rfl rfl) ?_
  obtain ⟨r_1, hc, hF⟩ := bind_inv hF
  refine sc 8 rfl rfl (Yc_func (g := 31) (vs := [.slice B a.Terms.length c, .int .i64 k_]) k_call_31 rfl (mc rfl (mc rfl mn)) (c_laws_heldTermS a.Terms k_ B c a.Terms.length _ rfl (hS1.inn0 [(true, 0)] rfl) hc)) ?_
  rintro _ w_1 ⟨rfl, hd⟩
  have hS2 := hS1.out00 hd
  refine sq 1 rfl rfl (Y_assign (v := .int .i64 r_1) rfl rfl) ?_
  refine rw_nil ?_
  refine cw_seq ?_
  refine cw_seq ?_
  refine cw_region ?_
  refine sq 9 rfl rfl (Y_move (v := .int .i64 r_1) rfl rfl) ?_
  refine sq 10 rfl rfl (Y_lt (k := .i64) (a := r_1) (b := 0) rfl rfl rfl) ?_
  refine rw_nil ?_
  refine cw_cond (b := (decide (r_1 < 0))) rfl (fun hb => ?_) (fun hb => ?_)
  · skip
    have hF1 := ct hF hb
    refine cw_seq ?_
    refine cw_region ?_
    refine sq 4 rfl rfl (Y_assign (v := .int .i64 (-1)) rfl rfl) ?_
    refine rw_nil ?_
    refine cw_ret ?_
    obtain rfl := some_inj hF1
    exact ret1 Try.results12 (v1 := .int .i64 (-1)) (resAt_tmp rfl) ⟨rfl, (ST.subR (R' := []) (hS2.sel [] rfl rfl) (fun _ h => by cases h))⟩
  · skip
    have hF2 := cf' hF hb
    refine cw_skip ?_
    refine cw_seq ?_
    refine cw_region ?_
    refine sq 11 rfl rfl (Y_fieldAddr (B := some ⟨b, 0, none⟩) (i := 0) (s := 0) k_fd_31_3_3_29 k_sz_29_1 rfl rfl) ?_
    refine sq 12 rfl rfl (Y_loadA (B := some ⟨b, 0, none⟩) (i := 3) (cs := [.int .i64 a.Qubits, .int .i64 a.Phase, .slice B a.Terms.length c, .slice B1 a.Out.Rows.length c1]) (vs := [.slice B1 a.Out.Rows.length c1]) k_ag_29 k_sz_29_1 rfl rfl (hS2.cf (i := 0) rfl) rfl rfl) ?_
    refine sq 13 rfl rfl (Y_move (v := .int .i64 r_1) rfl rfl) ?_
    obtain ⟨r_2, hc1, hF2⟩ := bind_inv hF2
    refine sc 14 rfl rfl (Yc_func (g := 32) (vs := [.agg #[.slice B1 a.Out.Rows.length c1], .int .i64 r_1]) k_call_32 rfl (mc rfl (mc rfl mn)) (c_laws_heldLinear a.Out r_1 B1 c1 a.Out.Rows.length _ rfl (hS2.inn0 [(true, 1)] rfl) hc1)) ?_
    rintro _ w_2 ⟨rfl, hd1⟩
    have hS3 := hS2.out00 hd1
    refine sq 1 rfl rfl (Y_assign (v := .int .i64 r_2) rfl rfl) ?_
    refine rw_nil ?_
    refine cw_seq ?_
    refine cw_seq ?_
    refine cw_region ?_
    refine sq 15 rfl rfl (Y_move (v := .int .i64 r_2) rfl rfl) ?_
    refine sq 16 rfl rfl (Y_lt (k := .i64) (a := r_2) (b := 0) rfl rfl rfl) ?_
    refine rw_nil ?_
    refine cw_cond (b := (decide (r_2 < 0))) rfl (fun hb1 => ?_) (fun hb1 => ?_)
    · skip
      have hF3 := ct hF2 hb1
      refine cw_seq ?_
      refine cw_region ?_
      refine sq 4 rfl rfl (Y_assign (v := .int .i64 (-1)) rfl rfl) ?_
      refine rw_nil ?_
      refine cw_ret ?_
      obtain rfl := some_inj hF3
      exact ret1 Try.results12 (v1 := .int .i64 (-1)) (resAt_tmp rfl) ⟨rfl, (ST.subR (R' := []) (hS3.sel [] rfl rfl) (fun _ h => by cases h))⟩
    · skip
      have hF4 := cf' hF2 hb1
      refine cw_skip ?_
      refine cw_seq ?_
      refine cw_region ?_
      refine sq 17 rfl rfl (Y_move (v := .int .i64 r_2) rfl rfl) ?_
      refine sq 4 rfl rfl (Y_assign (v := .int .i64 r_2) rfl rfl) ?_
      refine rw_nil ?_
      refine cw_ret ?_
      obtain rfl := some_inj hF4
      exact ret1 Try.results12 (v1 := .int .i64 r_2) (resAt_tmp rfl) ⟨rfl, (ST.subR (R' := []) (hS3.sel [] rfl rfl) (fun _ h => by cases h))⟩
end Go.VK
