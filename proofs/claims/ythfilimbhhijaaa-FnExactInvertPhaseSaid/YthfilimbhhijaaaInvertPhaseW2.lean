/- Walks: each Go function returns what its Lean function says. By program. -/
import Derived.Test.YthfilimbhhijaaaInvertPhaseFa
import Derived.Test.YthfilimbhhijaaaInvertPhaseW1
set_option linter.unusedVariables false
set_option maxRecDepth 100000
set_option maxHeartbeats 1000000
namespace Go.VK
open Go.RowKit
open Go.Proofs
attribute [local irreducible] CW RW RA CV Y Yw Yc Ys RetOf
attribute [local irreducible] F_laws_szTermS F_laws_szIntS F_laws_szLinear F_laws_szPhasePoly F_laws_toTerm F_laws_toTermS F_laws_toIntS F_laws_toLinear F_laws_toPhasePoly F_laws_eqTerm F_laws_eqTermS F_laws_eqIntS F_laws_eqLinear F_laws_eqPhasePoly F_laws_markTermS F_laws_markIntS F_laws_markLinear F_laws_markPhasePoly F_laws_heldTermS F_laws_heldIntS F_laws_heldLinear F_laws_heldPhasePoly F_spec_l1In F_spec_l1All F_spec_l1Own F_spec_l12Rank F_spec_l12Valid F_spec_l13Valid F_spec_l1Set F_spec_l13Through F_spec_l13List F_spec_l12Identity F_spec_l12CX F_spec_l12Reduce F_spec_InvertLinear F_spec_InvertPhase F_impl_within F_impl_areTerms F_slices_IndexFunc_int_int F_slices_ContainsFunc_int_int F_impl_IsValidLinear_1 F_slices_Clone_int_int F_impl_rankOf_1 F_slices_Delete_int_int F_impl_rankOf F_impl_IsValidLinear F_impl_IsValidPhasePoly F_impl_coefficients_add F_impl_coefficients_terms F_impl_Linear_through F_impl_identityLinear F_impl_eliminated_1 F_impl_eliminated F_impl_Linear_inverted F_impl_InvertPhase F_laws_FnExactInvertPhase
theorem c_spec_l12Reduce (m : TLinear) (B : Option Addr) (c n : Nat) (w0 : World) (hn : m.Rows.length = n) (hS : ST w0 [] w0 [] [⟨B, (m.Rows.flatMap encI)⟩]) {r_ : List TGate} (hF : F_spec_l12Reduce m = some r_) :
    CV Try.prog 171 #[.agg #[.slice B n c]] w0 (fun v w' => ∃ (B1 : Option Addr) (c1 : Nat), v = .slice B1 r_.length c1 ∧ ST w0 [] w' [⟨B1, 180, (r_.flatMap enc_Gate), c1 * 3⟩] []) := by
  subst hn
  unfold F_spec_l12Reduce at hF
  refine cv_of_cw 91 Try.func171 rfl Try.ntmps171 rfl ?_
  refine cw_seq ?_
  refine cw_region ?_
  refine ss 1 rfl rfl (Ys_box (T := 43) (v := .agg #[.slice B m.Rows.length c]) (cs := [.slice B m.Rows.length c]) (m := 1) hS rfl rfl rfl rfl) ?_
  rintro _ w_ ⟨b, rfl, hS1⟩
  refine sq 2 rfl rfl (Y_assign (v := .slice none 0 0) rfl rfl) ?_
  refine rw_nil ?_
  refine cw_seq ?_
  refine cw_region ?_
  refine sq 9 rfl rfl (Y_fieldAddr (B := some ⟨b, 0, none⟩) (i := 0) (s := 0) k_fd_43_0_0_34 k_sz_34_1 rfl rfl) ?_
  refine sq 10 rfl rfl (Y_load1 (B := some ⟨b, 0, none⟩) (i := 0) (cs := [.slice B m.Rows.length c]) (v := .slice B m.Rows.length c) k_sc_34 rfl rfl (hS1.cf (i := 0) rfl) rfl) ?_
  obtain ⟨r_1, hc, hF⟩ := bind_inv hF
  refine sc 11 rfl rfl (Yc_func (g := 204) (vs := [.slice B m.Rows.length c]) k_call_204 rfl (mc rfl mn) (c_spec_l1Own m.Rows B c m.Rows.length _ rfl (hS1.inn0 [(true, 0)] rfl) hc)) ?_
  rintro _ w_1 ⟨B2, c2, rfl, hd⟩
  have hS2 := hS1.out0 hd
  have hS2 : ST w0 [] _ [⟨some ⟨b, 0, none⟩, 43, [.slice B m.Rows.length c], 1⟩, ⟨B2, 3, (r_1.flatMap encI), c2 * 1⟩] [⟨B, (m.Rows.flatMap encI)⟩] := hS2
  refine sq 12 rfl rfl (Y_buildS (zs := [.slice none 0 0]) (vs := [(0, .slice B2 r_1.length c2)]) (cs := [.slice B2 r_1.length c2]) k_pl_43 k_zero_43 rfl (mpc rfl mpn) rfl) ?_
  refine ss 3 rfl rfl (Ys_alloc (T := 43) (cs := [.slice none 0 0]) (m := 1) hS2 k_zero_43 rfl rfl rfl) ?_
  rintro _ w_2 ⟨b1, rfl, hS3⟩
  have hS3 : ST w0 [] _ [⟨some ⟨b, 0, none⟩, 43, [.slice B m.Rows.length c], 1⟩, ⟨B2, 3, (r_1.flatMap encI), c2 * 1⟩, ⟨some ⟨b1, 0, none⟩, 43, [.slice none 0 0], 1⟩] [⟨B, (m.Rows.flatMap encI)⟩] := hS3
  refine ss0 rfl rfl (Ys_store (i := 2) (s := 1) (B := some ⟨b1, 0, none⟩) (T' := 43) (v := .agg #[.slice B2 r_1.length c2]) (vs := [.slice B2 r_1.length c2]) (k := 0) (cs' := [.slice B2 r_1.length c2]) hS3 k_sz_43_1 rfl rfl rfl rfl rfl rfl rfl (Nat.le_of_ble_eq_true rfl) rfl rfl) ?_
  rintro _ w_3 ⟨rfl, hS4⟩
  have hS4 : ST w0 [] _ [⟨some ⟨b, 0, none⟩, 43, [.slice B m.Rows.length c], 1⟩, ⟨B2, 3, (r_1.flatMap encI), c2 * 1⟩, ⟨some ⟨b1, 0, none⟩, 43, [.slice B2 r_1.length c2], 1⟩] [⟨B, (m.Rows.flatMap encI)⟩] := hS4
  refine rw_nil ?_
  refine cw_seq ?_
  refine cw_region ?_
  refine sq 13 rfl rfl (Y_fieldAddr (B := some ⟨b1, 0, none⟩) (i := 0) (s := 0) k_fd_43_0_0_34 k_sz_34_1 rfl rfl) ?_
  refine sq 14 rfl rfl (Y_load1 (B := some ⟨b1, 0, none⟩) (i := 0) (cs := [.slice B2 r_1.length c2]) (v := .slice B2 r_1.length c2) k_sc_34 rfl rfl (hS4.cf (i := 2) rfl) rfl) ?_
  refine sq 15 rfl rfl (Y_len (B := B2) (m := r_1.length) (c := c2) k_sl_34_3 rfl rfl) ?_
  refine sq 4 rfl rfl (Y_assign (v := .int .i64 (r_1.length : Int)) rfl rfl) ?_
  refine rw_nil ?_
  refine cw_seq ?_
  refine cw_region ?_
  refine sq 5 rfl rfl (Y_assign (v := .slice none 0 0) rfl rfl) ?_
  refine rw_nil ?_
  refine cw_seq ?_
  refine cw_seq ?_
  refine cw_region ?_
  refine sq 6 rfl rfl (Y_assign (v := .int .i64 0) rfl rfl) ?_
  refine rw_nil ?_
  obtain ⟨hN, hF⟩ := chk_inv hF
  obtain ⟨z, hz, hF1⟩ := bind_inv hF
  have hS6 := hS4.addNil 180
  refine cw_block ?_
  refine cw_loop (fun k f w => ∃ (k_ : Nat) (Rows : List Int) (out : List TGate) (B3 : Option Addr) (c3 : Nat) (B4 : Option Addr) (c4 : Nat), FF f [(3, pt (some ⟨b1, 0, none⟩) 0), (4, .int .i64 (r_1.length : Int)), (5, .slice B4 out.length c4), (6, .int .i64 (k_ : Int))] ∧ ST w0 [] w [⟨some ⟨b1, 0, none⟩, 43, [.slice B3 Rows.length c3], 1⟩, ⟨B3, 3, (Rows.flatMap encI), c3 * 1⟩, ⟨B4, 180, (out.flatMap enc_Gate), c4 * 3⟩] [⟨B, (m.Rows.flatMap encI)⟩] ∧ k_ + k = r_1.length ∧ forN (F_spec_l12Reduce_l1 r_1) k k_ (Rows, out) = some z) r_1.length ⟨0, r_1, [], B2, c2, none, 0, (FF.cons rfl (FF.cons rfl (FF.cons rfl (FF.cons rfl FF.nil)))), (hS6.sel [2, 1, 3] rfl rfl), Nat.zero_add _, hz⟩ ?_
  rintro k_1 f w ⟨k_, Rows, out, B3, c3, B4, c4, hf, hS5, hik, hL⟩
  refine cw_seq ?_
  refine cw_seq ?_
  refine cw_region ?_
  refine sq 16 rfl rfl (Y_move (v := .int .i64 (k_ : Int)) rfl (hf.get 6 3 rfl)) ?_
  refine sq 17 rfl rfl (Y_move (v := .int .i64 (r_1.length : Int)) rfl (hf.get 4 1 rfl)) ?_
  refine sq 18 rfl rfl (Y_lt (k := .i64) (a := (k_ : Int)) (b := (r_1.length : Int)) rfl rfl rfl) ?_
  refine rw_nil ?_
  refine cw_cond (b := (decide ((k_ : Int) < (r_1.length : Int)))) rfl (fun hlt => ?_) (fun hlt => ?_)
  · skip
    have hlt1 : k_ < r_1.length := by have h := of_decide_eq_true hlt; omega
    obtain ⟨k_2, rfl⟩ : ∃ k2, k_1 = k2 + 1 := ⟨k_1 - 1, by omega⟩
    obtain ⟨y, hb, hL1⟩ := forN_go hL
    unfold F_spec_l12Reduce_l1 at hb
    refine cw_skip ?_
    refine cw_seq ?_
    refine cw_block ?_
    refine cw_seq ?_
    refine cw_seq ?_
    refine cw_region ?_
    refine sq 21 rfl rfl (Y_move (v := .int .i64 (k_ : Int)) rfl (hf.get 6 3 rfl)) ?_
    refine sq 22 rfl rfl (Y_add (k := .i64) (a := (k_ : Int)) (b := 1) rfl rfl rfl) ?_
    refine sq 7 rfl rfl (Y_assign (v := .int .i64 (IntKind.i64.wrap ((k_ : Int) + 1))) rfl rfl) ?_
    refine rw_nil ?_
    obtain ⟨z1, hz1, hF2⟩ := bind_inv hb
    refine cw_block ?_
    refine cw_loop (fun k f w => ∃ (Rows1 : List Int) (out1 : List TGate) (i1 : Int) (B5 : Option Addr) (c5 : Nat) (B6 : Option Addr) (c6 : Nat), FF f [(3, pt (some ⟨b1, 0, none⟩) 0), (4, .int .i64 (r_1.length : Int)), (5, .slice B6 out1.length c6), (6, .int .i64 (k_ : Int)), (7, .int .i64 i1)] ∧ ST w0 [] w [⟨some ⟨b1, 0, none⟩, 43, [.slice B5 Rows1.length c5], 1⟩, ⟨B5, 3, (Rows1.flatMap encI), c5 * 1⟩, ⟨B6, 180, (out1.flatMap enc_Gate), c6 * 3⟩] [⟨B, (m.Rows.flatMap encI)⟩] ∧ whX (F_spec_l12Reduce_l2 r_1 k_ Rows) k (Rows1, out1, i1) = some z1) fuel ⟨Rows, out, (IntKind.i64.wrap ((k_ : Int) + 1)), B3, c3, B4, c4, (FF.cons (hf.get 3 0 rfl) (FF.cons (hf.get 4 1 rfl) (FF.cons (hf.get 5 2 rfl) (FF.cons (hf.get 6 3 rfl) (FF.cons rfl FF.nil))))), (hS5.sel [0, 1, 2] rfl rfl), hz1⟩ ?_
    rintro k_3 f w ⟨Rows1, out1, i1, B5, c5, B6, c6, hf1, hS7, hL2⟩
    obtain ⟨k_4, y1, rfl, hb1, hL3⟩ := whX_go hL2
    unfold F_spec_l12Reduce_l2 at hb1
    refine cw_seq ?_
    refine cw_seq ?_
    refine cw_region ?_
    refine sq 23 rfl rfl (Y_move (v := .int .i64 i1) rfl (hf1.get 7 4 rfl)) ?_
    refine sq 24 rfl rfl (Y_move (v := .int .i64 (r_1.length : Int)) rfl (hf1.get 4 1 rfl)) ?_
    refine sq 25 rfl rfl (Y_lt (k := .i64) (a := i1) (b := (r_1.length : Int)) rfl rfl rfl) ?_
    refine sq 26 rfl rfl (Y_move (v := .bool (decide (i1 < (r_1.length : Int)))) rfl rfl) ?_
    refine sgq 27 (B := (decide (i1 < (r_1.length : Int)))) (v := pt (some ⟨b1, 0, none⟩) 0) rfl rfl (wt_t (gd_of (t := 26) (by kernel_rfl) rfl)) (fun hg => (Y_fieldAddr (B := some ⟨b1, 0, none⟩) (i := 0) (s := 0) k_fd_43_0_0_34 k_sz_34_1 rfl (hf1.get 3 0 rfl))) ?_
    refine sgq 28 (B := (decide (i1 < (r_1.length : Int)))) (v := .slice B5 Rows1.length c5) rfl rfl (wt_t (gd_of (t := 26) (by kernel_rfl) rfl)) (fun hg1 => (Y_load1 (B := some ⟨b1, 0, none⟩) (i := 0) (cs := [.slice B5 Rows1.length c5]) (v := .slice B5 Rows1.length c5) k_sc_34 rfl (gv_of (B := (decide (i1 < (r_1.length : Int)))) (v := pt (some ⟨b1, 0, none⟩) 0) hg1) (hS7.cf (i := 0) rfl) rfl)) ?_
    refine sgq 29 (B := (decide (i1 < (r_1.length : Int)))) (v := .int .i64 (k_ : Int)) rfl rfl (wt_t (gd_of (t := 26) (by kernel_rfl) rfl)) (fun hg2 => (Y_move (v := .int .i64 (k_ : Int)) rfl (hf1.get 6 3 rfl))) ?_
    obtain ⟨x, hx, hb1⟩ := bind_inv hb1
    refine sgq 30 (B := (decide (i1 < (r_1.length : Int)))) (v := pt B5 ((k_ : Int).toNat * 1)) rfl rfl (wt_t (gd_of (t := 26) (by kernel_rfl) rfl)) (fun hg3 => (Y_index (B := B5) (m := Rows1.length) (c := c5) (k := .i64) (i := (k_ : Int)) k_sl_34_3 k_sz_3_1 rfl (gv_of (B := (decide (i1 < (r_1.length : Int)))) (v := .slice B5 Rows1.length c5) hg3) (gv_of (B := (decide (i1 < (r_1.length : Int)))) (v := .int .i64 (k_ : Int)) hg3) (gi_isSome encI_len rfl (hS7.cf (i := 1) rfl) (gb_inv hx hg3)) (getI_nn (gb_inv hx hg3)) (getI_ltI (gb_inv hx hg3) rfl))) ?_
    refine sgq 31 (B := (decide (i1 < (r_1.length : Int)))) (v := .int .i64 x) rfl rfl (wt_t (gd_of (t := 26) (by kernel_rfl) rfl)) (fun hg4 => (Y_load1 (B := B5) (i := (k_ : Int).toNat * 1) (cs := (Rows1.flatMap encI)) (v := .int .i64 x) k_sc_3 rfl (gv_of (B := (decide (i1 < (r_1.length : Int)))) (v := pt B5 ((k_ : Int).toNat * 1)) hg4) (hS7.cf (i := 1) rfl) (gi_at0 encI_len (gb_inv hx hg4) rfl))) ?_
    refine sgq 32 (B := (decide (i1 < (r_1.length : Int)))) (v := .int .i64 (k_ : Int)) rfl rfl (wt_t (gd_of (t := 26) (by kernel_rfl) rfl)) (fun hg5 => (Y_move (v := .int .i64 (k_ : Int)) rfl (hf1.get 6 3 rfl))) ?_
    refine sgq 33 (B := (decide (i1 < (r_1.length : Int)))) (v := .int .u64 (IntKind.u64.wrap (k_ : Int))) rfl rfl (wt_t (gd_of (t := 26) (by kernel_rfl) rfl)) (fun hg6 => (Y_conv (k := .i64) (a := (k_ : Int)) (T := 3) (T' := 148) k_us_3 k_int_148_u64 rfl (gv_of (B := (decide (i1 < (r_1.length : Int)))) (v := .int .i64 (k_ : Int)) hg6))) ?_
    obtain ⟨hsh, hb1⟩ := chk_inv hb1
    refine sgq 34 (B := (decide (i1 < (r_1.length : Int)))) (v := .int .i64 (shrK .i64 x (IntKind.u64.wrap (k_ : Int)))) rfl rfl (wt_t (gd_of (t := 26) (by kernel_rfl) rfl)) (fun hg7 => (Y_shr (k := .i64) (a := x) (k' := .u64) (b := (IntKind.u64.wrap (k_ : Int))) rfl (gv_of (B := (decide (i1 < (r_1.length : Int)))) (v := .int .i64 x) hg7) (gv_of (B := (decide (i1 < (r_1.length : Int)))) (v := .int .u64 (IntKind.u64.wrap (k_ : Int))) hg7) (hsh hg7))) ?_
    refine sgq 35 (B := (decide (i1 < (r_1.length : Int)))) (v := .int .i64 (bits .and .i64 (shrK .i64 x (IntKind.u64.wrap (k_ : Int))) 1)) rfl rfl (wt_t (gd_of (t := 26) (by kernel_rfl) rfl)) (fun hg8 => (Y_band (k := .i64) (a := (shrK .i64 x (IntKind.u64.wrap (k_ : Int)))) (b := 1) rfl (gv_of (B := (decide (i1 < (r_1.length : Int)))) (v := .int .i64 (shrK .i64 x (IntKind.u64.wrap (k_ : Int)))) hg8) rfl)) ?_
    refine sgq 36 (B := (decide (i1 < (r_1.length : Int)))) (v := .bool ((bits .and .i64 (shrK .i64 x (IntKind.u64.wrap (k_ : Int))) 1) == 0)) rfl rfl (wt_t (gd_of (t := 26) (by kernel_rfl) rfl)) (fun hg9 => (Y_eq (k := .i64) (a := (bits .and .i64 (shrK .i64 x (IntKind.u64.wrap (k_ : Int))) 1)) (b := 0) rfl (gv_of (B := (decide (i1 < (r_1.length : Int)))) (v := .int .i64 (bits .and .i64 (shrK .i64 x (IntKind.u64.wrap (k_ : Int))) 1)) hg9) rfl)) ?_
    refine sq 37 rfl rfl (Y_and (b := (decide (i1 < (r_1.length : Int)))) (z := ((bits .and .i64 (shrK .i64 x (IntKind.u64.wrap (k_ : Int))) 1) == 0)) rfl rfl rfl rfl) ?_
    refine rw_nil ?_
    refine cw_cond (b := ((decide (i1 < (r_1.length : Int))) && ((bits .and .i64 (shrK .i64 x (IntKind.u64.wrap (k_ : Int))) 1) == 0))) rfl (fun hb2 => ?_) (fun hb2 => ?_)
    · skip
      have hF3 := ct hb1 hb2
      refine cw_skip ?_
      refine cw_seq ?_
      obtain ⟨z2, hz2, hF4⟩ := bind_inv hF3
      refine cw_mid (fun f w => ∃ (Rows2 : List Int) (out2 : List TGate) (B7 : Option Addr) (c7 : Nat) (B8 : Option Addr) (c8 : Nat), (Rows2, out2) = z2 ∧ FF f [(3, pt (some ⟨b1, 0, none⟩) 0), (4, .int .i64 (r_1.length : Int)), (5, .slice B8 out2.length c8), (6, .int .i64 (k_ : Int)), (7, .int .i64 i1)] ∧ ST w0 [] w [⟨some ⟨b1, 0, none⟩, 43, [.slice B7 Rows2.length c7], 1⟩, ⟨B7, 3, (Rows2.flatMap encI), c7 * 1⟩, ⟨B8, 180, (out2.flatMap enc_Gate), c8 * 3⟩] [⟨B, (m.Rows.flatMap encI)⟩]) ?_ ?_
      · skip
        refine cw_block ?_
        refine cw_seq ?_
        refine cw_region ?_
        refine sq 40 rfl rfl (Y_fieldAddr (B := some ⟨b1, 0, none⟩) (i := 0) (s := 0) k_fd_43_0_0_34 k_sz_34_1 rfl (hf1.get 3 0 rfl)) ?_
        refine sq 41 rfl rfl (Y_load1 (B := some ⟨b1, 0, none⟩) (i := 0) (cs := [.slice B5 Rows1.length c5]) (v := .slice B5 Rows1.length c5) k_sc_34 rfl rfl (hS7.cf (i := 0) rfl) rfl) ?_
        refine sq 42 rfl rfl (Y_move (v := .int .i64 i1) rfl (hf1.get 7 4 rfl)) ?_
        obtain ⟨x1, hx1, hz2⟩ := bind_inv hz2
        refine sq 43 rfl rfl (Y_index (B := B5) (m := Rows1.length) (c := c5) (k := .i64) (i := i1) k_sl_34_3 k_sz_3_1 rfl rfl rfl (gi_isSome encI_len rfl (hS7.cf (i := 1) rfl) hx1) (getI_nn hx1) (getI_ltI hx1 rfl)) ?_
        refine sq 44 rfl rfl (Y_load1 (B := B5) (i := i1.toNat * 1) (cs := (Rows1.flatMap encI)) (v := .int .i64 x1) k_sc_3 rfl rfl (hS7.cf (i := 1) rfl) (gi_at0 encI_len hx1 rfl)) ?_
        refine sq 45 rfl rfl (Y_move (v := .int .i64 (k_ : Int)) rfl (hf1.get 6 3 rfl)) ?_
        refine sq 46 rfl rfl (Y_conv (k := .i64) (a := (k_ : Int)) (T := 3) (T' := 148) k_us_3 k_int_148_u64 rfl rfl) ?_
        obtain ⟨hsh1, hz2⟩ := chk_inv hz2
        refine sq 47 rfl rfl (Y_shr (k := .i64) (a := x1) (k' := .u64) (b := (IntKind.u64.wrap (k_ : Int))) rfl rfl rfl hsh1) ?_
        refine sq 48 rfl rfl (Y_band (k := .i64) (a := (shrK .i64 x1 (IntKind.u64.wrap (k_ : Int)))) (b := 1) rfl rfl rfl) ?_
        refine sq 49 rfl rfl (Y_eq (k := .i64) (a := (bits .and .i64 (shrK .i64 x1 (IntKind.u64.wrap (k_ : Int))) 1)) (b := 1) rfl rfl rfl) ?_
        refine rw_nil ?_
        refine cw_cond (b := ((bits .and .i64 (shrK .i64 x1 (IntKind.u64.wrap (k_ : Int))) 1) == 1)) rfl (fun hb3 => ?_) (fun hb3 => ?_)
        · skip
          have hF5 := ct hz2 hb3
          refine cw_seq ?_
          refine cw_region ?_
          refine sq 50 rfl rfl (Y_loadA (B := some ⟨b1, 0, none⟩) (i := 0) (cs := [.slice B5 Rows1.length c5]) (vs := [.slice B5 Rows1.length c5]) k_ag_43 k_sz_43_1 rfl (hf1.get 3 0 rfl) (hS7.cf (i := 0) rfl) rfl rfl) ?_
          refine sq 51 rfl rfl (Y_move (v := .int .i64 i1) rfl (hf1.get 7 4 rfl)) ?_
          refine sq 52 rfl rfl (Y_move (v := .int .i64 (k_ : Int)) rfl (hf1.get 6 3 rfl)) ?_
          obtain ⟨r_2, hc1, hF5⟩ := bind_inv hF5
          refine sc 53 rfl rfl (Yc_func (g := 172) (vs := [.agg #[.slice B5 Rows1.length c5], .int .i64 i1, .int .i64 (k_ : Int)]) k_call_172 rfl (mc rfl (mc rfl (mc rfl mn))) (c_spec_l12CX (TLinear.mk Rows1) i1 (k_ : Int) B5 c5 Rows1.length _ rfl (hS7.inn0 [(false, 1)] rfl) hc1)) ?_
          rintro _ w_4 ⟨B9, c9, rfl, hd1⟩
          have hS9 := hS7.out0 hd1
          have hS9 : ST w0 [] _ [⟨some ⟨b1, 0, none⟩, 43, [.slice B5 Rows1.length c5], 1⟩, ⟨B5, 3, (Rows1.flatMap encI), c5 * 1⟩, ⟨B6, 180, (out1.flatMap enc_Gate), c6 * 3⟩, ⟨B9, 3, (r_2.Rows.flatMap encI), c9 * 1⟩] [⟨B, (m.Rows.flatMap encI)⟩] := hS9
          refine ss0 rfl rfl (Ys_store (i := 0) (s := 1) (B := some ⟨b1, 0, none⟩) (T' := 43) (v := .agg #[.slice B9 r_2.Rows.length c9]) (vs := [.slice B9 r_2.Rows.length c9]) (k := 0) (cs' := [.slice B9 r_2.Rows.length c9]) hS9 k_sz_43_1 rfl (hf1.get 3 0 rfl) rfl rfl rfl rfl rfl (Nat.le_of_ble_eq_true rfl) rfl rfl) ?_
          rintro _ w_5 ⟨rfl, hS10⟩
          have hS10 : ST w0 [] _ [⟨some ⟨b1, 0, none⟩, 43, [.slice B9 r_2.Rows.length c9], 1⟩, ⟨B5, 3, (Rows1.flatMap encI), c5 * 1⟩, ⟨B6, 180, (out1.flatMap enc_Gate), c6 * 3⟩, ⟨B9, 3, (r_2.Rows.flatMap encI), c9 * 1⟩] [⟨B, (m.Rows.flatMap encI)⟩] := hS10
          refine rw_nil ?_
          refine cw_region ?_
          refine sq 54 rfl rfl (Y_move (v := .slice B6 out1.length c6) rfl (hf1.get 5 2 rfl)) ?_
          refine sq 55 rfl rfl (Y_move (v := .int .i64 i1) rfl (hf1.get 7 4 rfl)) ?_
          refine sq 56 rfl rfl (Y_move (v := .int .i64 (k_ : Int)) rfl (hf1.get 6 3 rfl)) ?_
          refine sq 57 rfl rfl (Y_buildS (zs := [.int .i64 0, .int .i64 0, .int .i64 0]) (vs := [(0, .int .i64 9), (1, .int .i64 i1), (2, .int .i64 (k_ : Int))]) (cs := [.int .i64 9, .int .i64 i1, .int .i64 (k_ : Int)]) k_pl_180 k_zero_180 rfl (mpc rfl (mpc rfl (mpc rfl mpn))) rfl) ?_
          refine ss 58 rfl rfl (Ys_bslice (s := 3) (len := 1) (vs := [(0, .agg #[.int .i64 9, .int .i64 i1, .int .i64 (k_ : Int)])]) (cs := [.int .i64 9, .int .i64 i1, .int .i64 (k_ : Int)]) (zs := [.int .i64 0, .int .i64 0, .int .i64 0]) (m := 3) hS10 k_sl_176_180 k_sz_180_3 k_zc_180 rfl (mpc rfl mpn) rfl rfl rfl (by kernel_rfl) (by kernel_rfl) rfl) ?_
          rintro _ w_6 ⟨b2, rfl, hS11⟩
          have hS11 : ST w0 [] _ [⟨some ⟨b1, 0, none⟩, 43, [.slice B9 r_2.Rows.length c9], 1⟩, ⟨B5, 3, (Rows1.flatMap encI), c5 * 1⟩, ⟨B6, 180, (out1.flatMap enc_Gate), c6 * 3⟩, ⟨B9, 3, (r_2.Rows.flatMap encI), c9 * 1⟩, ⟨some ⟨b2, 0, none⟩, 180, ([(TGate.mk 9 i1 (k_ : Int))].flatMap enc_Gate), 1 * 3⟩] [⟨B, (m.Rows.flatMap encI)⟩] := hS11
          obtain ⟨hap, hF5⟩ := chk_inv hF5
          refine ss 59 rfl rfl (Ys_append (s := 3) (by' := 24) (i := 2) (nn := out1.length) (c := c6) (k := 1) (len := (out1 ++ [(TGate.mk 9 i1 (k_ : Int))]).length) (B := B6) (xs := ([(TGate.mk 9 i1 (k_ : Int))].flatMap enc_Gate)) (cs' := ((out1 ++ [(TGate.mk 9 i1 (k_ : Int))]).flatMap enc_Gate)) hS11 k_sl_176_180 k_sz_180_3 k_by_180_24 k_zero_180 rfl (by decide) rfl rfl rfl rfl (fm_lenn (l := out1) enc_Gate_len rfl) rfl (hS11.cf (i := 4) rfl) (fm_lenn (l := [(TGate.mk 9 i1 (k_ : Int))]) enc_Gate_len rfl) (fm_one' (enc := enc_Gate) enc_Gate_one [(TGate.mk 9 i1 (k_ : Int))]) (by have := hap; omega) (by have := hap; simp only [maxLen]; omega) (fm_app _ _) (app_len (l := out1) (l' := [(TGate.mk 9 i1 (k_ : Int))]) rfl rfl)) ?_
          rintro _ w_7 ⟨B10, c10, rfl, hS12⟩
          have hS12 : ST w0 [] _ [⟨some ⟨b1, 0, none⟩, 43, [.slice B9 r_2.Rows.length c9], 1⟩, ⟨B5, 3, (Rows1.flatMap encI), c5 * 1⟩, ⟨B10, 180, ((out1 ++ [(TGate.mk 9 i1 (k_ : Int))]).flatMap enc_Gate), c10 * 3⟩, ⟨B9, 3, (r_2.Rows.flatMap encI), c9 * 1⟩, ⟨some ⟨b2, 0, none⟩, 180, ([(TGate.mk 9 i1 (k_ : Int))].flatMap enc_Gate), 1 * 3⟩] [⟨B, (m.Rows.flatMap encI)⟩] := hS12
          refine sq 5 rfl rfl (Y_assign (v := .slice B10 ((out1 ++ [(TGate.mk 9 i1 (k_ : Int))]).length) c10) rfl rfl) ?_
          refine rw_nil ?_
          exact ⟨r_2.Rows, (out1 ++ [(TGate.mk 9 i1 (k_ : Int))]), B9, c9, B10, c10, (some_inj hF5), (FF.cons (hf1.get 3 0 rfl) (FF.cons (hf1.get 4 1 rfl) (FF.cons rfl (FF.cons (hf1.get 6 3 rfl) (FF.cons (hf1.get 7 4 rfl) FF.nil))))), (hS12.sel [0, 3, 2] rfl rfl)⟩
        · skip
          have hF6 := cf' hz2 hb3
          refine cw_skip ?_
          exact ⟨Rows1, out1, B5, c5, B6, c6, (some_inj hF6), (FF.cons (hf1.get 3 0 rfl) (FF.cons (hf1.get 4 1 rfl) (FF.cons (hf1.get 5 2 rfl) (FF.cons (hf1.get 6 3 rfl) (FF.cons (hf1.get 7 4 rfl) FF.nil))))), (hS7.sel [0, 1, 2] rfl rfl)⟩
      rintro f w ⟨Rows2, out2, B7, c7, B8, c8, rfl, hf2, hS8⟩
      refine cw_region ?_
      refine sq 38 rfl rfl (Y_move (v := .int .i64 i1) rfl (hf2.get 7 4 rfl)) ?_
      refine sq 39 rfl rfl (Y_add (k := .i64) (a := i1) (b := 1) rfl rfl rfl) ?_
      refine sq 7 rfl rfl (Y_assign (v := .int .i64 (IntKind.i64.wrap (i1 + 1))) rfl rfl) ?_
      refine rw_nil ?_
      obtain rfl := some_inj hF4
      exact ⟨k_4, Nat.lt_succ_self _, Rows2, out2, (IntKind.i64.wrap (i1 + 1)), B7, c7, B8, c8, (FF.cons (hf2.get 3 0 rfl) (FF.cons (hf2.get 4 1 rfl) (FF.cons (hf2.get 5 2 rfl) (FF.cons (hf2.get 6 3 rfl) (FF.cons rfl FF.nil))))), (hS8.sel [0, 1, 2] rfl rfl), hL3⟩
    · skip
      have hF7 := cf' hb1 hb2
      refine cw_exit rfl ?_
      obtain rfl := some_inj hF7
      obtain rfl := some_inj hL3
      refine cw_seq ?_
      refine cw_region ?_
      refine sq 8 rfl rfl (Y_assign (v := .int .i64 0) rfl rfl) ?_
      refine rw_nil ?_
      obtain ⟨hN1, hF2⟩ := chk_inv hF2
      obtain ⟨z3, hz3, hF8⟩ := bind_inv hF2
      refine cw_block ?_
      refine cw_loop (fun k f w => ∃ (i3 : Nat) (Rows3 : List Int) (out3 : List TGate) (B11 : Option Addr) (c11 : Nat) (B12 : Option Addr) (c12 : Nat), FF f [(3, pt (some ⟨b1, 0, none⟩) 0), (4, .int .i64 (r_1.length : Int)), (5, .slice B12 out3.length c12), (6, .int .i64 (k_ : Int)), (8, .int .i64 (i3 : Int))] ∧ ST w0 [] w [⟨some ⟨b1, 0, none⟩, 43, [.slice B11 Rows3.length c11], 1⟩, ⟨B11, 3, (Rows3.flatMap encI), c11 * 1⟩, ⟨B12, 180, (out3.flatMap enc_Gate), c12 * 3⟩] [⟨B, (m.Rows.flatMap encI)⟩] ∧ i3 + k = r_1.length ∧ forN (F_spec_l12Reduce_l3 k_ Rows) k i3 (Rows3, out3) = some z3) r_1.length ⟨0, Rows1, out1, B5, c5, B6, c6, (FF.cons (hf1.get 3 0 rfl) (FF.cons (hf1.get 4 1 rfl) (FF.cons (hf1.get 5 2 rfl) (FF.cons (hf1.get 6 3 rfl) (FF.cons rfl FF.nil))))), (hS7.sel [0, 1, 2] rfl rfl), Nat.zero_add _, hz3⟩ ?_
      rintro k_5 f w ⟨i3, Rows3, out3, B11, c11, B12, c12, hf3, hS13, hik2, hL4⟩
      refine cw_seq ?_
      refine cw_seq ?_
      refine cw_region ?_
      refine sq 60 rfl rfl (Y_move (v := .int .i64 (i3 : Int)) rfl (hf3.get 8 4 rfl)) ?_
      refine sq 61 rfl rfl (Y_move (v := .int .i64 (r_1.length : Int)) rfl (hf3.get 4 1 rfl)) ?_
      refine sq 62 rfl rfl (Y_lt (k := .i64) (a := (i3 : Int)) (b := (r_1.length : Int)) rfl rfl rfl) ?_
      refine rw_nil ?_
      refine cw_cond (b := (decide ((i3 : Int) < (r_1.length : Int)))) rfl (fun hlt2 => ?_) (fun hlt2 => ?_)
      · skip
        have hlt3 : i3 < r_1.length := by have h := of_decide_eq_true hlt2; omega
        obtain ⟨k_6, rfl⟩ : ∃ k2, k_5 = k2 + 1 := ⟨k_5 - 1, by omega⟩
        obtain ⟨y2, hb4, hL5⟩ := forN_go hL4
        unfold F_spec_l12Reduce_l3 at hb4
        refine cw_skip ?_
        refine cw_seq ?_
        obtain ⟨z4, hz4, hF9⟩ := bind_inv hb4
        refine cw_mid (fun f w => ∃ (Rows4 : List Int) (out4 : List TGate) (B13 : Option Addr) (c13 : Nat) (B14 : Option Addr) (c14 : Nat), (Rows4, out4) = z4 ∧ FF f [(3, pt (some ⟨b1, 0, none⟩) 0), (4, .int .i64 (r_1.length : Int)), (5, .slice B14 out4.length c14), (6, .int .i64 (k_ : Int)), (8, .int .i64 (i3 : Int))] ∧ ST w0 [] w [⟨some ⟨b1, 0, none⟩, 43, [.slice B13 Rows4.length c13], 1⟩, ⟨B13, 3, (Rows4.flatMap encI), c13 * 1⟩, ⟨B14, 180, (out4.flatMap enc_Gate), c14 * 3⟩] [⟨B, (m.Rows.flatMap encI)⟩]) ?_ ?_
        · skip
          refine cw_block ?_
          refine cw_seq ?_
          refine cw_region ?_
          refine sq 65 rfl rfl (Y_move (v := .int .i64 (i3 : Int)) rfl (hf3.get 8 4 rfl)) ?_
          refine sq 66 rfl rfl (Y_move (v := .int .i64 (k_ : Int)) rfl (hf3.get 6 3 rfl)) ?_
          refine sq 67 rfl rfl (Y_ne (k := .i64) (a := (i3 : Int)) (b := (k_ : Int)) rfl rfl rfl) ?_
          refine sq 68 rfl rfl (Y_move (v := .bool ((i3 : Int) != (k_ : Int))) rfl rfl) ?_
          refine sgq 69 (B := ((i3 : Int) != (k_ : Int))) (v := pt (some ⟨b1, 0, none⟩) 0) rfl rfl (wt_t (gd_of (t := 68) (by kernel_rfl) rfl)) (fun hg10 => (Y_fieldAddr (B := some ⟨b1, 0, none⟩) (i := 0) (s := 0) k_fd_43_0_0_34 k_sz_34_1 rfl (hf3.get 3 0 rfl))) ?_
          refine sgq 70 (B := ((i3 : Int) != (k_ : Int))) (v := .slice B11 Rows3.length c11) rfl rfl (wt_t (gd_of (t := 68) (by kernel_rfl) rfl)) (fun hg11 => (Y_load1 (B := some ⟨b1, 0, none⟩) (i := 0) (cs := [.slice B11 Rows3.length c11]) (v := .slice B11 Rows3.length c11) k_sc_34 rfl (gv_of (B := ((i3 : Int) != (k_ : Int))) (v := pt (some ⟨b1, 0, none⟩) 0) hg11) (hS13.cf (i := 0) rfl) rfl)) ?_
          refine sgq 71 (B := ((i3 : Int) != (k_ : Int))) (v := .int .i64 (i3 : Int)) rfl rfl (wt_t (gd_of (t := 68) (by kernel_rfl) rfl)) (fun hg12 => (Y_move (v := .int .i64 (i3 : Int)) rfl (hf3.get 8 4 rfl))) ?_
          obtain ⟨x2, hx2, hz4⟩ := bind_inv hz4
          refine sgq 72 (B := ((i3 : Int) != (k_ : Int))) (v := pt B11 ((i3 : Int).toNat * 1)) rfl rfl (wt_t (gd_of (t := 68) (by kernel_rfl) rfl)) (fun hg13 => (Y_index (B := B11) (m := Rows3.length) (c := c11) (k := .i64) (i := (i3 : Int)) k_sl_34_3 k_sz_3_1 rfl (gv_of (B := ((i3 : Int) != (k_ : Int))) (v := .slice B11 Rows3.length c11) hg13) (gv_of (B := ((i3 : Int) != (k_ : Int))) (v := .int .i64 (i3 : Int)) hg13) (gi_isSome encI_len rfl (hS13.cf (i := 1) rfl) (gb_inv hx2 hg13)) (getI_nn (gb_inv hx2 hg13)) (getI_ltI (gb_inv hx2 hg13) rfl))) ?_
          refine sgq 73 (B := ((i3 : Int) != (k_ : Int))) (v := .int .i64 x2) rfl rfl (wt_t (gd_of (t := 68) (by kernel_rfl) rfl)) (fun hg14 => (Y_load1 (B := B11) (i := (i3 : Int).toNat * 1) (cs := (Rows3.flatMap encI)) (v := .int .i64 x2) k_sc_3 rfl (gv_of (B := ((i3 : Int) != (k_ : Int))) (v := pt B11 ((i3 : Int).toNat * 1)) hg14) (hS13.cf (i := 1) rfl) (gi_at0 encI_len (gb_inv hx2 hg14) rfl))) ?_
          refine sgq 74 (B := ((i3 : Int) != (k_ : Int))) (v := .int .i64 (k_ : Int)) rfl rfl (wt_t (gd_of (t := 68) (by kernel_rfl) rfl)) (fun hg15 => (Y_move (v := .int .i64 (k_ : Int)) rfl (hf3.get 6 3 rfl))) ?_
          refine sgq 75 (B := ((i3 : Int) != (k_ : Int))) (v := .int .u64 (IntKind.u64.wrap (k_ : Int))) rfl rfl (wt_t (gd_of (t := 68) (by kernel_rfl) rfl)) (fun hg16 => (Y_conv (k := .i64) (a := (k_ : Int)) (T := 3) (T' := 148) k_us_3 k_int_148_u64 rfl (gv_of (B := ((i3 : Int) != (k_ : Int))) (v := .int .i64 (k_ : Int)) hg16))) ?_
          obtain ⟨hsh2, hz4⟩ := chk_inv hz4
          refine sgq 76 (B := ((i3 : Int) != (k_ : Int))) (v := .int .i64 (shrK .i64 x2 (IntKind.u64.wrap (k_ : Int)))) rfl rfl (wt_t (gd_of (t := 68) (by kernel_rfl) rfl)) (fun hg17 => (Y_shr (k := .i64) (a := x2) (k' := .u64) (b := (IntKind.u64.wrap (k_ : Int))) rfl (gv_of (B := ((i3 : Int) != (k_ : Int))) (v := .int .i64 x2) hg17) (gv_of (B := ((i3 : Int) != (k_ : Int))) (v := .int .u64 (IntKind.u64.wrap (k_ : Int))) hg17) (hsh2 hg17))) ?_
          refine sgq 77 (B := ((i3 : Int) != (k_ : Int))) (v := .int .i64 (bits .and .i64 (shrK .i64 x2 (IntKind.u64.wrap (k_ : Int))) 1)) rfl rfl (wt_t (gd_of (t := 68) (by kernel_rfl) rfl)) (fun hg18 => (Y_band (k := .i64) (a := (shrK .i64 x2 (IntKind.u64.wrap (k_ : Int)))) (b := 1) rfl (gv_of (B := ((i3 : Int) != (k_ : Int))) (v := .int .i64 (shrK .i64 x2 (IntKind.u64.wrap (k_ : Int)))) hg18) rfl)) ?_
          refine sgq 78 (B := ((i3 : Int) != (k_ : Int))) (v := .bool ((bits .and .i64 (shrK .i64 x2 (IntKind.u64.wrap (k_ : Int))) 1) == 1)) rfl rfl (wt_t (gd_of (t := 68) (by kernel_rfl) rfl)) (fun hg19 => (Y_eq (k := .i64) (a := (bits .and .i64 (shrK .i64 x2 (IntKind.u64.wrap (k_ : Int))) 1)) (b := 1) rfl (gv_of (B := ((i3 : Int) != (k_ : Int))) (v := .int .i64 (bits .and .i64 (shrK .i64 x2 (IntKind.u64.wrap (k_ : Int))) 1)) hg19) rfl)) ?_
          refine sq 79 rfl rfl (Y_and (b := ((i3 : Int) != (k_ : Int))) (z := ((bits .and .i64 (shrK .i64 x2 (IntKind.u64.wrap (k_ : Int))) 1) == 1)) rfl rfl rfl rfl) ?_
          refine rw_nil ?_
          refine cw_cond (b := (((i3 : Int) != (k_ : Int)) && ((bits .and .i64 (shrK .i64 x2 (IntKind.u64.wrap (k_ : Int))) 1) == 1))) rfl (fun hb5 => ?_) (fun hb5 => ?_)
          · skip
            have hF10 := ct hz4 hb5
            refine cw_seq ?_
            refine cw_region ?_
            refine sq 80 rfl rfl (Y_loadA (B := some ⟨b1, 0, none⟩) (i := 0) (cs := [.slice B11 Rows3.length c11]) (vs := [.slice B11 Rows3.length c11]) k_ag_43 k_sz_43_1 rfl (hf3.get 3 0 rfl) (hS13.cf (i := 0) rfl) rfl rfl) ?_
            refine sq 81 rfl rfl (Y_move (v := .int .i64 (k_ : Int)) rfl (hf3.get 6 3 rfl)) ?_
            refine sq 82 rfl rfl (Y_move (v := .int .i64 (i3 : Int)) rfl (hf3.get 8 4 rfl)) ?_
            obtain ⟨r_3, hc2, hF10⟩ := bind_inv hF10
            refine sc 83 rfl rfl (Yc_func (g := 172) (vs := [.agg #[.slice B11 Rows3.length c11], .int .i64 (k_ : Int), .int .i64 (i3 : Int)]) k_call_172 rfl (mc rfl (mc rfl (mc rfl mn))) (c_spec_l12CX (TLinear.mk Rows3) (k_ : Int) (i3 : Int) B11 c11 Rows3.length _ rfl (hS13.inn0 [(false, 1)] rfl) hc2)) ?_
            rintro _ w_8 ⟨B15, c15, rfl, hd2⟩
            have hS15 := hS13.out0 hd2
            have hS15 : ST w0 [] _ [⟨some ⟨b1, 0, none⟩, 43, [.slice B11 Rows3.length c11], 1⟩, ⟨B11, 3, (Rows3.flatMap encI), c11 * 1⟩, ⟨B12, 180, (out3.flatMap enc_Gate), c12 * 3⟩, ⟨B15, 3, (r_3.Rows.flatMap encI), c15 * 1⟩] [⟨B, (m.Rows.flatMap encI)⟩] := hS15
            refine ss0 rfl rfl (Ys_store (i := 0) (s := 1) (B := some ⟨b1, 0, none⟩) (T' := 43) (v := .agg #[.slice B15 r_3.Rows.length c15]) (vs := [.slice B15 r_3.Rows.length c15]) (k := 0) (cs' := [.slice B15 r_3.Rows.length c15]) hS15 k_sz_43_1 rfl (hf3.get 3 0 rfl) rfl rfl rfl rfl rfl (Nat.le_of_ble_eq_true rfl) rfl rfl) ?_
            rintro _ w_9 ⟨rfl, hS16⟩
            have hS16 : ST w0 [] _ [⟨some ⟨b1, 0, none⟩, 43, [.slice B15 r_3.Rows.length c15], 1⟩, ⟨B11, 3, (Rows3.flatMap encI), c11 * 1⟩, ⟨B12, 180, (out3.flatMap enc_Gate), c12 * 3⟩, ⟨B15, 3, (r_3.Rows.flatMap encI), c15 * 1⟩] [⟨B, (m.Rows.flatMap encI)⟩] := hS16
            refine rw_nil ?_
            refine cw_region ?_
            refine sq 84 rfl rfl (Y_move (v := .slice B12 out3.length c12) rfl (hf3.get 5 2 rfl)) ?_
            refine sq 85 rfl rfl (Y_move (v := .int .i64 (k_ : Int)) rfl (hf3.get 6 3 rfl)) ?_
            refine sq 86 rfl rfl (Y_move (v := .int .i64 (i3 : Int)) rfl (hf3.get 8 4 rfl)) ?_
            refine sq 87 rfl rfl (Y_buildS (zs := [.int .i64 0, .int .i64 0, .int .i64 0]) (vs := [(0, .int .i64 9), (1, .int .i64 (k_ : Int)), (2, .int .i64 (i3 : Int))]) (cs := [.int .i64 9, .int .i64 (k_ : Int), .int .i64 (i3 : Int)]) k_pl_180 k_zero_180 rfl (mpc rfl (mpc rfl (mpc rfl mpn))) rfl) ?_
            refine ss 88 rfl rfl (Ys_bslice (s := 3) (len := 1) (vs := [(0, .agg #[.int .i64 9, .int .i64 (k_ : Int), .int .i64 (i3 : Int)])]) (cs := [.int .i64 9, .int .i64 (k_ : Int), .int .i64 (i3 : Int)]) (zs := [.int .i64 0, .int .i64 0, .int .i64 0]) (m := 3) hS16 k_sl_176_180 k_sz_180_3 k_zc_180 rfl (mpc rfl mpn) rfl rfl rfl (by kernel_rfl) (by kernel_rfl) rfl) ?_
            rintro _ w_10 ⟨b3, rfl, hS17⟩
            have hS17 : ST w0 [] _ [⟨some ⟨b1, 0, none⟩, 43, [.slice B15 r_3.Rows.length c15], 1⟩, ⟨B11, 3, (Rows3.flatMap encI), c11 * 1⟩, ⟨B12, 180, (out3.flatMap enc_Gate), c12 * 3⟩, ⟨B15, 3, (r_3.Rows.flatMap encI), c15 * 1⟩, ⟨some ⟨b3, 0, none⟩, 180, ([(TGate.mk 9 (k_ : Int) (i3 : Int))].flatMap enc_Gate), 1 * 3⟩] [⟨B, (m.Rows.flatMap encI)⟩] := hS17
            obtain ⟨hap1, hF10⟩ := chk_inv hF10
            refine ss 89 rfl rfl (Ys_append (s := 3) (by' := 24) (i := 2) (nn := out3.length) (c := c12) (k := 1) (len := (out3 ++ [(TGate.mk 9 (k_ : Int) (i3 : Int))]).length) (B := B12) (xs := ([(TGate.mk 9 (k_ : Int) (i3 : Int))].flatMap enc_Gate)) (cs' := ((out3 ++ [(TGate.mk 9 (k_ : Int) (i3 : Int))]).flatMap enc_Gate)) hS17 k_sl_176_180 k_sz_180_3 k_by_180_24 k_zero_180 rfl (by decide) rfl rfl rfl rfl (fm_lenn (l := out3) enc_Gate_len rfl) rfl (hS17.cf (i := 4) rfl) (fm_lenn (l := [(TGate.mk 9 (k_ : Int) (i3 : Int))]) enc_Gate_len rfl) (fm_one' (enc := enc_Gate) enc_Gate_one [(TGate.mk 9 (k_ : Int) (i3 : Int))]) (by have := hap1; omega) (by have := hap1; simp only [maxLen]; omega) (fm_app _ _) (app_len (l := out3) (l' := [(TGate.mk 9 (k_ : Int) (i3 : Int))]) rfl rfl)) ?_
            rintro _ w_11 ⟨B16, c16, rfl, hS18⟩
            have hS18 : ST w0 [] _ [⟨some ⟨b1, 0, none⟩, 43, [.slice B15 r_3.Rows.length c15], 1⟩, ⟨B11, 3, (Rows3.flatMap encI), c11 * 1⟩, ⟨B16, 180, ((out3 ++ [(TGate.mk 9 (k_ : Int) (i3 : Int))]).flatMap enc_Gate), c16 * 3⟩, ⟨B15, 3, (r_3.Rows.flatMap encI), c15 * 1⟩, ⟨some ⟨b3, 0, none⟩, 180, ([(TGate.mk 9 (k_ : Int) (i3 : Int))].flatMap enc_Gate), 1 * 3⟩] [⟨B, (m.Rows.flatMap encI)⟩] := hS18
            refine sq 5 rfl rfl (Y_assign (v := .slice B16 ((out3 ++ [(TGate.mk 9 (k_ : Int) (i3 : Int))]).length) c16) rfl rfl) ?_
            refine rw_nil ?_
            exact ⟨r_3.Rows, (out3 ++ [(TGate.mk 9 (k_ : Int) (i3 : Int))]), B15, c15, B16, c16, (some_inj hF10), (FF.cons (hf3.get 3 0 rfl) (FF.cons (hf3.get 4 1 rfl) (FF.cons rfl (FF.cons (hf3.get 6 3 rfl) (FF.cons (hf3.get 8 4 rfl) FF.nil))))), (hS18.sel [0, 3, 2] rfl rfl)⟩
          · skip
            have hF11 := cf' hz4 hb5
            refine cw_skip ?_
            exact ⟨Rows3, out3, B11, c11, B12, c12, (some_inj hF11), (FF.cons (hf3.get 3 0 rfl) (FF.cons (hf3.get 4 1 rfl) (FF.cons (hf3.get 5 2 rfl) (FF.cons (hf3.get 6 3 rfl) (FF.cons (hf3.get 8 4 rfl) FF.nil))))), (hS13.sel [0, 1, 2] rfl rfl)⟩
        rintro f w ⟨Rows4, out4, B13, c13, B14, c14, rfl, hf4, hS14⟩
        refine cw_region ?_
        refine sq 63 rfl rfl (Y_move (v := .int .i64 (i3 : Int)) rfl (hf4.get 8 4 rfl)) ?_
        refine sq 64 rfl rfl (Y_add (k := .i64) (a := (i3 : Int)) (b := 1) rfl rfl rfl) ?_
        refine sq 8 rfl rfl (Y_assign (v := .int .i64 (IntKind.i64.wrap ((i3 : Int) + 1))) rfl rfl) ?_
        refine rw_nil ?_
        obtain rfl := some_inj hF9
        exact ⟨k_6, Nat.lt_succ_self _, i3 + 1, Rows4, out4, B13, c13, B14, c14, (FF.cons (hf4.get 3 0 rfl) (FF.cons (hf4.get 4 1 rfl) (FF.cons (hf4.get 5 2 rfl) (FF.cons (hf4.get 6 3 rfl) (FF.cons (congrArg (Value.int .i64) (wr_succ hlt3 hN1)) FF.nil))))), (hS14.sel [0, 1, 2] rfl rfl), (by omega), hL5⟩
      · skip
        obtain rfl : k_5 = 0 := by have h := of_decide_eq_false hlt2; omega
        refine cw_exit rfl ?_
        obtain rfl := some_inj hL4
        refine cw_region ?_
        refine sq 19 rfl rfl (Y_move (v := .int .i64 (k_ : Int)) rfl (hf3.get 6 3 rfl)) ?_
        refine sq 20 rfl rfl (Y_add (k := .i64) (a := (k_ : Int)) (b := 1) rfl rfl rfl) ?_
        refine sq 6 rfl rfl (Y_assign (v := .int .i64 (IntKind.i64.wrap ((k_ : Int) + 1))) rfl rfl) ?_
        refine rw_nil ?_
        obtain rfl := some_inj hF8
        exact ⟨k_2, Nat.lt_succ_self _, k_ + 1, Rows3, out3, B11, c11, B12, c12, (FF.cons (hf3.get 3 0 rfl) (FF.cons (hf3.get 4 1 rfl) (FF.cons (hf3.get 5 2 rfl) (FF.cons (congrArg (Value.int .i64) (wr_succ hlt1 hN)) FF.nil)))), (hS13.sel [0, 1, 2] rfl rfl), (by omega), hL1⟩
  · skip
    obtain rfl : k_1 = 0 := by have h := of_decide_eq_false hlt; omega
    refine cw_exit rfl ?_
    obtain rfl := some_inj hL
    refine cw_seq ?_
    refine cw_region ?_
    refine sq 90 rfl rfl (Y_move (v := .slice B4 out.length c4) rfl (hf.get 5 2 rfl)) ?_
    refine sq 2 rfl rfl (Y_assign (v := .slice B4 out.length c4) rfl rfl) ?_
    refine rw_nil ?_
    refine cw_ret ?_
    obtain rfl := some_inj hF1
    exact ret1 Try.results171 (v1 := .slice B4 out.length c4) (resAt_tmp rfl) ⟨B4, c4, rfl, (ST.subR (R' := []) (hS5.sel [2] rfl rfl) (fun _ h => by cases h))⟩

theorem c_spec_InvertLinear (m : TLinear) (B : Option Addr) (c n : Nat) (w0 : World) (hn : m.Rows.length = n) (hS : ST w0 [] w0 [] [⟨B, (m.Rows.flatMap encI)⟩]) {r_ : TLinear} {r_1 : Bool} (hF : F_spec_InvertLinear m = some (r_, r_1)) :
    CV Try.prog 121 #[.agg #[.slice B n c]] w0 (fun v w' => ∃ (B1 : Option Addr) (c1 : Nat), v = .tuple #[.agg #[.slice B1 r_.Rows.length c1], .bool r_1] ∧ ST w0 [] w' [⟨B1, 3, (r_.Rows.flatMap encI), c1 * 1⟩] []) := by
  subst hn
  unfold F_spec_InvertLinear at hF
  refine cv_of_cw 30 Try.func121 rfl Try.ntmps121 rfl ?_
  refine cw_seq ?_
  refine cw_region ?_
  refine ss 1 rfl rfl (Ys_box (T := 43) (v := .agg #[.slice B m.Rows.length c]) (cs := [.slice B m.Rows.length c]) (m := 1) hS rfl rfl rfl rfl) ?_
  rintro _ w_ ⟨b, rfl, hS1⟩
  refine ss 2 rfl rfl (Ys_alloc (T := 43) (cs := [.slice none 0 0]) (m := 1) hS1 k_zero_43 rfl rfl rfl) ?_
  rintro _ w_1 ⟨b1, rfl, hS2⟩
  have hS2 : ST w0 [] _ [⟨some ⟨b, 0, none⟩, 43, [.slice B m.Rows.length c], 1⟩, ⟨some ⟨b1, 0, none⟩, 43, [.slice none 0 0], 1⟩] [⟨B, (m.Rows.flatMap encI)⟩] := hS2
  refine sq 3 rfl rfl (Y_assign (v := .bool false) rfl rfl) ?_
  refine rw_nil ?_
  refine cw_seq ?_
  refine cw_seq ?_
  refine cw_region ?_
  refine sq 7 rfl rfl (Y_loadA (B := some ⟨b, 0, none⟩) (i := 0) (cs := [.slice B m.Rows.length c]) (vs := [.slice B m.Rows.length c]) k_ag_43 k_sz_43_1 rfl rfl (hS2.cf (i := 0) rfl) rfl rfl) ?_
  obtain ⟨r_2, hc, hF⟩ := bind_inv hF
  refine sc 8 rfl rfl (Yc_func (g := 141) (vs := [.agg #[.slice B m.Rows.length c]]) k_call_141 rfl (mc rfl mn) (c_spec_l12Valid m B c m.Rows.length _ rfl (hS2.inn0 [(true, 0)] rfl) hc)) ?_
  rintro _ w_2 ⟨rfl, hd⟩
  have hS3 := hS2.out00 hd
  have hS3 : ST w0 [] _ [⟨some ⟨b, 0, none⟩, 43, [.slice B m.Rows.length c], 1⟩, ⟨some ⟨b1, 0, none⟩, 43, [.slice none 0 0], 1⟩] [⟨B, (m.Rows.flatMap encI)⟩] := hS3
  refine sq 9 rfl rfl (Y_not (p := r_2) rfl rfl) ?_
  refine rw_nil ?_
  refine cw_cond (b := (!r_2)) rfl (fun hb => ?_) (fun hb => ?_)
  · skip
    have hF1 := ct hF hb
    refine cw_seq ?_
    refine cw_region ?_
    refine sq 10 rfl rfl (Y_buildS (zs := [.slice none 0 0]) (vs := []) (cs := [.slice none 0 0]) k_pl_43 k_zero_43 rfl mpn rfl) ?_
    refine ss0 rfl rfl (Ys_store (i := 1) (s := 1) (B := some ⟨b1, 0, none⟩) (T' := 43) (v := .agg #[.slice none 0 0]) (vs := [.slice none 0 0]) (k := 0) (cs' := [.slice none 0 0]) hS3 k_sz_43_1 rfl rfl rfl rfl rfl rfl rfl (Nat.le_of_ble_eq_true rfl) rfl rfl) ?_
    rintro _ w_3 ⟨rfl, hS4⟩
    have hS4 : ST w0 [] _ [⟨some ⟨b, 0, none⟩, 43, [.slice B m.Rows.length c], 1⟩, ⟨some ⟨b1, 0, none⟩, 43, [.slice none 0 0], 1⟩] [⟨B, (m.Rows.flatMap encI)⟩] := hS4
    refine sq 3 rfl rfl (Y_assign (v := .bool false) rfl rfl) ?_
    refine rw_nil ?_
    refine cw_ret ?_
    have hS5 := hS4.addNil 3
    obtain ⟨rfl, rfl⟩ := pr2 (some_inj hF1)
    exact ret2 Try.results121 (v1 := .agg #[.slice none 0 0]) (resAt_cellA (B := some ⟨b1, 0, none⟩) (i := 0) (cs := [.slice none 0 0]) (vs := [.slice none 0 0]) rfl k_ag_43 k_sz_43_1 (hS5.cf (i := 1) rfl) rfl rfl) (v2 := .bool false) (resAt_tmp rfl) ⟨none, 0, rfl, (ST.subR (R' := []) (hS5.sel [2] rfl rfl) (fun _ h => by cases h))⟩
  · skip
    have hF2 := cf' hF hb
    refine cw_skip ?_
    refine cw_seq ?_
    refine cw_region ?_
    refine sq 11 rfl rfl (Y_fieldAddr (B := some ⟨b, 0, none⟩) (i := 0) (s := 0) k_fd_43_0_0_34 k_sz_34_1 rfl rfl) ?_
    refine sq 12 rfl rfl (Y_load1 (B := some ⟨b, 0, none⟩) (i := 0) (cs := [.slice B m.Rows.length c]) (v := .slice B m.Rows.length c) k_sc_34 rfl rfl (hS3.cf (i := 0) rfl) rfl) ?_
    refine sq 13 rfl rfl (Y_len (B := B) (m := m.Rows.length) (c := c) k_sl_34_3 rfl rfl) ?_
    obtain ⟨r_3, hc1, hF2⟩ := bind_inv hF2
    refine sc 14 rfl rfl (Yc_func (g := 170) (vs := [.int .i64 (m.Rows.length : Int)]) k_call_170 rfl (mc rfl mn) (c_spec_l12Identity (m.Rows.length : Int) _  (hS3.inn0 [] rfl) hc1)) ?_
    rintro _ w_4 ⟨B2, c2, rfl, hd1⟩
    have hS6 := hS3.out0 hd1
    have hS6 : ST w0 [] _ [⟨some ⟨b, 0, none⟩, 43, [.slice B m.Rows.length c], 1⟩, ⟨some ⟨b1, 0, none⟩, 43, [.slice none 0 0], 1⟩, ⟨B2, 3, (r_3.Rows.flatMap encI), c2 * 1⟩] [⟨B, (m.Rows.flatMap encI)⟩] := hS6
    refine ss 4 rfl rfl (Ys_alloc (T := 43) (cs := [.slice none 0 0]) (m := 1) hS6 k_zero_43 rfl rfl rfl) ?_
    rintro _ w_5 ⟨b2, rfl, hS7⟩
    have hS7 : ST w0 [] _ [⟨some ⟨b, 0, none⟩, 43, [.slice B m.Rows.length c], 1⟩, ⟨some ⟨b1, 0, none⟩, 43, [.slice none 0 0], 1⟩, ⟨B2, 3, (r_3.Rows.flatMap encI), c2 * 1⟩, ⟨some ⟨b2, 0, none⟩, 43, [.slice none 0 0], 1⟩] [⟨B, (m.Rows.flatMap encI)⟩] := hS7
    refine ss0 rfl rfl (Ys_store (i := 3) (s := 1) (B := some ⟨b2, 0, none⟩) (T' := 43) (v := .agg #[.slice B2 r_3.Rows.length c2]) (vs := [.slice B2 r_3.Rows.length c2]) (k := 0) (cs' := [.slice B2 r_3.Rows.length c2]) hS7 k_sz_43_1 rfl rfl rfl rfl rfl rfl rfl (Nat.le_of_ble_eq_true rfl) rfl rfl) ?_
    rintro _ w_6 ⟨rfl, hS8⟩
    have hS8 : ST w0 [] _ [⟨some ⟨b, 0, none⟩, 43, [.slice B m.Rows.length c], 1⟩, ⟨some ⟨b1, 0, none⟩, 43, [.slice none 0 0], 1⟩, ⟨B2, 3, (r_3.Rows.flatMap encI), c2 * 1⟩, ⟨some ⟨b2, 0, none⟩, 43, [.slice B2 r_3.Rows.length c2], 1⟩] [⟨B, (m.Rows.flatMap encI)⟩] := hS8
    refine rw_nil ?_
    refine cw_seq ?_
    refine cw_seq ?_
    refine cw_region ?_
    refine sq 15 rfl rfl (Y_loadA (B := some ⟨b, 0, none⟩) (i := 0) (cs := [.slice B m.Rows.length c]) (vs := [.slice B m.Rows.length c]) k_ag_43 k_sz_43_1 rfl rfl (hS8.cf (i := 0) rfl) rfl rfl) ?_
    obtain ⟨r_4, hc2, hF2⟩ := bind_inv hF2
    refine sc 16 rfl rfl (Yc_func (g := 171) (vs := [.agg #[.slice B m.Rows.length c]]) k_call_171 rfl (mc rfl mn) (c_spec_l12Reduce m B c m.Rows.length _ rfl (hS8.inn0 [(true, 0)] rfl) hc2)) ?_
    rintro _ w_7 ⟨B3, c3, rfl, hd2⟩
    have hS9 := hS8.out0 hd2
    have hS9 : ST w0 [] _ [⟨some ⟨b, 0, none⟩, 43, [.slice B m.Rows.length c], 1⟩, ⟨some ⟨b1, 0, none⟩, 43, [.slice none 0 0], 1⟩, ⟨B2, 3, (r_3.Rows.flatMap encI), c2 * 1⟩, ⟨some ⟨b2, 0, none⟩, 43, [.slice B2 r_3.Rows.length c2], 1⟩, ⟨B3, 180, (r_4.flatMap enc_Gate), c3 * 3⟩] [⟨B, (m.Rows.flatMap encI)⟩] := hS9
    refine sq 17 rfl rfl (Y_len (B := B3) (m := r_4.length) (c := c3) k_sl_176_180 rfl rfl) ?_
    refine sq 18 rfl rfl (Y_move (v := .int .i64 0) rfl rfl) ?_
    refine rw_nil ?_
    obtain ⟨hN, hF2⟩ := chk_inv hF2
    obtain ⟨z, hz, hF3⟩ := bind_inv hF2
    refine cw_block ?_
    refine cw_loop (fun k f w => ∃ (i : Nat) (Rows : List Int) (B4 : Option Addr) (c4 : Nat), FF f [(2, pt (some ⟨b1, 0, none⟩) 0), (4, pt (some ⟨b2, 0, none⟩) 0), (16, .slice B3 r_4.length c3), (17, .int .i64 (r_4.length : Int)), (18, .int .i64 (i : Int))] ∧ ST w0 [] w [⟨some ⟨b1, 0, none⟩, 43, [.slice none 0 0], 1⟩, ⟨some ⟨b2, 0, none⟩, 43, [.slice B4 Rows.length c4], 1⟩, ⟨B4, 3, (Rows.flatMap encI), c4 * 1⟩, ⟨B3, 180, (r_4.flatMap enc_Gate), c3 * 3⟩] [⟨B, (m.Rows.flatMap encI)⟩] ∧ i + k = r_4.length ∧ forN (F_spec_InvertLinear_l1 r_4) k i Rows = some z) r_4.length ⟨0, r_3.Rows, B2, c2, (FF.cons rfl (FF.cons rfl (FF.cons rfl (FF.cons rfl (FF.cons rfl FF.nil))))), (hS9.sel [1, 3, 2, 4] rfl rfl), Nat.zero_add _, hz⟩ ?_
    rintro k_ f w ⟨i, Rows, B4, c4, hf, hS10, hik, hL⟩
    refine cw_seq ?_
    refine cw_region ?_
    refine sq 19 rfl rfl (Y_lt (k := .i64) (a := (i : Int)) (b := (r_4.length : Int)) rfl (hf.get 18 4 rfl) (hf.get 17 3 rfl)) ?_
    refine rw_nil ?_
    refine cw_seq ?_
    refine cw_cond (b := (decide ((i : Int) < (r_4.length : Int)))) rfl (fun hlt => ?_) (fun hlt => ?_)
    · skip
      have hlt1 : i < r_4.length := by have h := of_decide_eq_true hlt; omega
      obtain ⟨k_1, rfl⟩ : ∃ k2, k_ = k2 + 1 := ⟨k_ - 1, by omega⟩
      obtain ⟨y, hb1, hL1⟩ := forN_go hL
      unfold F_spec_InvertLinear_l1 at hb1
      refine cw_skip ?_
      refine cw_seq ?_
      refine cw_block ?_
      refine cw_seq ?_
      refine cw_region ?_
      obtain ⟨x, hx, hb1⟩ := bind_inv hb1
      refine sq 20 rfl rfl (Y_index (B := B3) (m := r_4.length) (c := c3) (k := .i64) (i := (i : Int)) k_sl_176_180 k_sz_180_3 rfl (hf.get 16 2 rfl) (hf.get 18 4 rfl) (gi_isSome enc_Gate_len rfl (hS10.cf (i := 3) rfl) hx) (getI_nn hx) (getI_ltI hx rfl)) ?_
      refine sq 21 rfl rfl (Y_loadA (B := B3) (i := (i : Int).toNat * 3) (cs := (r_4.flatMap enc_Gate)) (vs := [.int .i64 x.Kind, .int .i64 x.A, .int .i64 x.B]) k_ag_180 k_sz_180_3 rfl rfl (hS10.cf (i := 3) rfl) (enc_Gate_len x) (gi_seg enc_Gate_len hx)) ?_
      refine ss 6 rfl rfl (Ys_alloc (T := 180) (cs := [.int .i64 0, .int .i64 0, .int .i64 0]) (m := 3) hS10 k_zero_180 rfl rfl rfl) ?_
      rintro _ w_8 ⟨b3, rfl, hS11⟩
      have hS11 : ST w0 [] _ [⟨some ⟨b1, 0, none⟩, 43, [.slice none 0 0], 1⟩, ⟨some ⟨b2, 0, none⟩, 43, [.slice B4 Rows.length c4], 1⟩, ⟨B4, 3, (Rows.flatMap encI), c4 * 1⟩, ⟨B3, 180, (r_4.flatMap enc_Gate), c3 * 3⟩, ⟨some ⟨b3, 0, none⟩, 180, [.int .i64 0, .int .i64 0, .int .i64 0], 3⟩] [⟨B, (m.Rows.flatMap encI)⟩] := hS11
      refine ss0 rfl rfl (Ys_store (i := 4) (s := 3) (B := some ⟨b3, 0, none⟩) (T' := 180) (v := .agg #[.int .i64 x.Kind, .int .i64 x.A, .int .i64 x.B]) (vs := [.int .i64 x.Kind, .int .i64 x.A, .int .i64 x.B]) (k := 0) (cs' := [.int .i64 x.Kind, .int .i64 x.A, .int .i64 x.B]) hS11 k_sz_180_3 rfl rfl rfl rfl rfl rfl rfl (Nat.le_of_ble_eq_true rfl) rfl rfl) ?_
      rintro _ w_9 ⟨rfl, hS12⟩
      have hS12 : ST w0 [] _ [⟨some ⟨b1, 0, none⟩, 43, [.slice none 0 0], 1⟩, ⟨some ⟨b2, 0, none⟩, 43, [.slice B4 Rows.length c4], 1⟩, ⟨B4, 3, (Rows.flatMap encI), c4 * 1⟩, ⟨B3, 180, (r_4.flatMap enc_Gate), c3 * 3⟩, ⟨some ⟨b3, 0, none⟩, 180, [.int .i64 x.Kind, .int .i64 x.A, .int .i64 x.B], 3⟩] [⟨B, (m.Rows.flatMap encI)⟩] := hS12
      refine rw_nil ?_
      refine cw_region ?_
      refine sq 22 rfl rfl (Y_loadA (B := some ⟨b2, 0, none⟩) (i := 0) (cs := [.slice B4 Rows.length c4]) (vs := [.slice B4 Rows.length c4]) k_ag_43 k_sz_43_1 rfl (hf.get 4 1 rfl) (hS12.cf (i := 1) rfl) rfl rfl) ?_
      refine sq 23 rfl rfl (Y_fieldAddr (B := some ⟨b3, 0, none⟩) (i := 0) (s := 0) k_fd_180_1_1_3 k_sz_3_1 rfl rfl) ?_
      refine sq 24 rfl rfl (Y_load1 (B := some ⟨b3, 0, none⟩) (i := 1) (cs := [.int .i64 x.Kind, .int .i64 x.A, .int .i64 x.B]) (v := .int .i64 x.A) k_sc_3 rfl rfl (hS12.cf (i := 4) rfl) rfl) ?_
      refine sq 25 rfl rfl (Y_fieldAddr (B := some ⟨b3, 0, none⟩) (i := 0) (s := 0) k_fd_180_2_2_3 k_sz_3_1 rfl rfl) ?_
      refine sq 26 rfl rfl (Y_load1 (B := some ⟨b3, 0, none⟩) (i := 2) (cs := [.int .i64 x.Kind, .int .i64 x.A, .int .i64 x.B]) (v := .int .i64 x.B) k_sc_3 rfl rfl (hS12.cf (i := 4) rfl) rfl) ?_
      obtain ⟨r_5, hc3, hb1⟩ := bind_inv hb1
      refine sc 27 rfl rfl (Yc_func (g := 172) (vs := [.agg #[.slice B4 Rows.length c4], .int .i64 x.A, .int .i64 x.B]) k_call_172 rfl (mc rfl (mc rfl (mc rfl mn))) (c_spec_l12CX (TLinear.mk Rows) x.A x.B B4 c4 Rows.length _ rfl (hS12.inn0 [(false, 2)] rfl) hc3)) ?_
      rintro _ w_10 ⟨B5, c5, rfl, hd3⟩
      have hS13 := hS12.out0 hd3
      have hS13 : ST w0 [] _ [⟨some ⟨b1, 0, none⟩, 43, [.slice none 0 0], 1⟩, ⟨some ⟨b2, 0, none⟩, 43, [.slice B4 Rows.length c4], 1⟩, ⟨B4, 3, (Rows.flatMap encI), c4 * 1⟩, ⟨B3, 180, (r_4.flatMap enc_Gate), c3 * 3⟩, ⟨some ⟨b3, 0, none⟩, 180, [.int .i64 x.Kind, .int .i64 x.A, .int .i64 x.B], 3⟩, ⟨B5, 3, (r_5.Rows.flatMap encI), c5 * 1⟩] [⟨B, (m.Rows.flatMap encI)⟩] := hS13
      refine ss0 rfl rfl (Ys_store (i := 1) (s := 1) (B := some ⟨b2, 0, none⟩) (T' := 43) (v := .agg #[.slice B5 r_5.Rows.length c5]) (vs := [.slice B5 r_5.Rows.length c5]) (k := 0) (cs' := [.slice B5 r_5.Rows.length c5]) hS13 k_sz_43_1 rfl (hf.get 4 1 rfl) rfl rfl rfl rfl rfl (Nat.le_of_ble_eq_true rfl) rfl rfl) ?_
      rintro _ w_11 ⟨rfl, hS14⟩
      have hS14 : ST w0 [] _ [⟨some ⟨b1, 0, none⟩, 43, [.slice none 0 0], 1⟩, ⟨some ⟨b2, 0, none⟩, 43, [.slice B5 r_5.Rows.length c5], 1⟩, ⟨B4, 3, (Rows.flatMap encI), c4 * 1⟩, ⟨B3, 180, (r_4.flatMap enc_Gate), c3 * 3⟩, ⟨some ⟨b3, 0, none⟩, 180, [.int .i64 x.Kind, .int .i64 x.A, .int .i64 x.B], 3⟩, ⟨B5, 3, (r_5.Rows.flatMap encI), c5 * 1⟩] [⟨B, (m.Rows.flatMap encI)⟩] := hS14
      refine rw_nil ?_
      refine cw_region ?_
      refine sq 28 rfl rfl (Y_add (k := .i64) (a := (i : Int)) (b := 1) rfl (hf.get 18 4 rfl) rfl) ?_
      refine sq 18 rfl rfl (Y_move (v := .int .i64 (IntKind.i64.wrap ((i : Int) + 1))) rfl rfl) ?_
      refine rw_nil ?_
      obtain rfl := some_inj hb1
      exact ⟨k_1, Nat.lt_succ_self _, i + 1, r_5.Rows, B5, c5, (FF.cons (hf.get 2 0 rfl) (FF.cons (hf.get 4 1 rfl) (FF.cons (hf.get 16 2 rfl) (FF.cons (hf.get 17 3 rfl) (FF.cons (congrArg (Value.int .i64) (wr_succ hlt1 hN)) FF.nil))))), (hS14.sel [0, 1, 5, 3] rfl rfl), (by omega), hL1⟩
    · skip
      obtain rfl : k_ = 0 := by have h := of_decide_eq_false hlt; omega
      refine cw_exit rfl ?_
      obtain rfl := some_inj hL
      refine cw_seq ?_
      refine cw_region ?_
      refine sq 29 rfl rfl (Y_loadA (B := some ⟨b2, 0, none⟩) (i := 0) (cs := [.slice B4 Rows.length c4]) (vs := [.slice B4 Rows.length c4]) k_ag_43 k_sz_43_1 rfl (hf.get 4 1 rfl) (hS10.cf (i := 1) rfl) rfl rfl) ?_
      refine ss0 rfl rfl (Ys_store (i := 0) (s := 1) (B := some ⟨b1, 0, none⟩) (T' := 43) (v := .agg #[.slice B4 Rows.length c4]) (vs := [.slice B4 Rows.length c4]) (k := 0) (cs' := [.slice B4 Rows.length c4]) hS10 k_sz_43_1 rfl (hf.get 2 0 rfl) rfl rfl rfl rfl rfl (Nat.le_of_ble_eq_true rfl) rfl rfl) ?_
      rintro _ w_12 ⟨rfl, hS15⟩
      have hS15 : ST w0 [] _ [⟨some ⟨b1, 0, none⟩, 43, [.slice B4 Rows.length c4], 1⟩, ⟨some ⟨b2, 0, none⟩, 43, [.slice B4 Rows.length c4], 1⟩, ⟨B4, 3, (Rows.flatMap encI), c4 * 1⟩, ⟨B3, 180, (r_4.flatMap enc_Gate), c3 * 3⟩] [⟨B, (m.Rows.flatMap encI)⟩] := hS15
      refine sq 3 rfl rfl (Y_assign (v := .bool true) rfl rfl) ?_
      refine rw_nil ?_
      refine cw_ret ?_
      obtain ⟨rfl, rfl⟩ := pr2 (some_inj hF3)
      exact ret2 Try.results121 (v1 := .agg #[.slice B4 Rows.length c4]) (resAt_cellA (B := some ⟨b1, 0, none⟩) (i := 0) (cs := [.slice B4 Rows.length c4]) (vs := [.slice B4 Rows.length c4]) (hf.get 2 0 rfl) k_ag_43 k_sz_43_1 (hS15.cf (i := 0) rfl) rfl rfl) (v2 := .bool true) (resAt_tmp rfl) ⟨B4, c4, rfl, (ST.subR (R' := []) (hS15.sel [2] rfl rfl) (fun _ h => by cases h))⟩

theorem c_spec_InvertPhase (p : TPhasePoly) (B : Option Addr) (c n : Nat) (B1 : Option Addr) (c1 n1 : Nat) (w0 : World) (hn : p.Terms.length = n) (hn1 : p.Out.Rows.length = n1) (hS : ST w0 [] w0 [] [⟨B, (p.Terms.flatMap enc_Term)⟩, ⟨B1, (p.Out.Rows.flatMap encI)⟩]) {r_ : TPhasePoly} {r_1 : Bool} (hF : F_spec_InvertPhase p = some (r_, r_1)) :
    CV Try.prog 54 #[.agg #[.int .i64 p.Qubits, .int .i64 p.Phase, .slice B n c, .slice B1 n1 c1]] w0 (fun v w' => ∃ (B2 : Option Addr) (c2 : Nat) (B3 : Option Addr) (c3 : Nat), v = .tuple #[.agg #[.int .i64 r_.Qubits, .int .i64 r_.Phase, .slice B2 r_.Terms.length c2, .slice B3 r_.Out.Rows.length c3], .bool r_1] ∧ ST w0 [] w' [⟨B2, 112, (r_.Terms.flatMap enc_Term), c2 * 2⟩, ⟨B3, 3, (r_.Out.Rows.flatMap encI), c3 * 1⟩] []) := by
  subst hn
  subst hn1
  unfold F_spec_InvertPhase at hF
  refine cv_of_cw 53 Try.func54 rfl Try.ntmps54 rfl ?_
  refine cw_seq ?_
  refine cw_region ?_
  refine ss 1 rfl rfl (Ys_box (T := 45) (v := .agg #[.int .i64 p.Qubits, .int .i64 p.Phase, .slice B p.Terms.length c, .slice B1 p.Out.Rows.length c1]) (cs := [.int .i64 p.Qubits, .int .i64 p.Phase, .slice B p.Terms.length c, .slice B1 p.Out.Rows.length c1]) (m := 4) hS rfl rfl rfl rfl) ?_
  rintro _ w_ ⟨b, rfl, hS1⟩
  refine ss 2 rfl rfl (Ys_alloc (T := 45) (cs := [.int .i64 0, .int .i64 0, .slice none 0 0, .slice none 0 0]) (m := 4) hS1 k_zero_45 rfl rfl rfl) ?_
  rintro _ w_1 ⟨b1, rfl, hS2⟩
  have hS2 : ST w0 [] _ [⟨some ⟨b, 0, none⟩, 45, [.int .i64 p.Qubits, .int .i64 p.Phase, .slice B p.Terms.length c, .slice B1 p.Out.Rows.length c1], 4⟩, ⟨some ⟨b1, 0, none⟩, 45, [.int .i64 0, .int .i64 0, .slice none 0 0, .slice none 0 0], 4⟩] [⟨B, (p.Terms.flatMap enc_Term)⟩, ⟨B1, (p.Out.Rows.flatMap encI)⟩] := hS2
  refine sq 3 rfl rfl (Y_assign (v := .bool false) rfl rfl) ?_
  refine rw_nil ?_
  refine cw_seq ?_
  refine cw_seq ?_
  refine cw_region ?_
  refine sq 9 rfl rfl (Y_loadA (B := some ⟨b, 0, none⟩) (i := 0) (cs := [.int .i64 p.Qubits, .int .i64 p.Phase, .slice B p.Terms.length c, .slice B1 p.Out.Rows.length c1]) (vs := [.int .i64 p.Qubits, .int .i64 p.Phase, .slice B p.Terms.length c, .slice B1 p.Out.Rows.length c1]) k_ag_45 k_sz_45_4 rfl rfl (hS2.cf (i := 0) rfl) rfl rfl) ?_
  obtain ⟨r_2, hc, hF⟩ := bind_inv hF
  refine sc 10 rfl rfl (Yc_func (g := 72) (vs := [.agg #[.int .i64 p.Qubits, .int .i64 p.Phase, .slice B p.Terms.length c, .slice B1 p.Out.Rows.length c1]]) k_call_72 rfl (mc rfl mn) (c_spec_l13Valid p B c p.Terms.length B1 c1 p.Out.Rows.length _ rfl rfl (hS2.inn0 [(true, 0), (true, 1)] rfl) hc)) ?_
  rintro _ w_2 ⟨rfl, hd⟩
  have hS3 := hS2.out00 hd
  have hS3 : ST w0 [] _ [⟨some ⟨b, 0, none⟩, 45, [.int .i64 p.Qubits, .int .i64 p.Phase, .slice B p.Terms.length c, .slice B1 p.Out.Rows.length c1], 4⟩, ⟨some ⟨b1, 0, none⟩, 45, [.int .i64 0, .int .i64 0, .slice none 0 0, .slice none 0 0], 4⟩] [⟨B, (p.Terms.flatMap enc_Term)⟩, ⟨B1, (p.Out.Rows.flatMap encI)⟩] := hS3
  refine sq 11 rfl rfl (Y_not (p := r_2) rfl rfl) ?_
  refine rw_nil ?_
  refine cw_cond (b := (!r_2)) rfl (fun hb => ?_) (fun hb => ?_)
  · skip
    have hF1 := ct hF hb
    refine cw_seq ?_
    refine cw_region ?_
    refine sq 12 rfl rfl (Y_buildS (zs := [.int .i64 0, .int .i64 0, .slice none 0 0, .slice none 0 0]) (vs := []) (cs := [.int .i64 0, .int .i64 0, .slice none 0 0, .slice none 0 0]) k_pl_45 k_zero_45 rfl mpn rfl) ?_
    refine ss0 rfl rfl (Ys_store (i := 1) (s := 4) (B := some ⟨b1, 0, none⟩) (T' := 45) (v := .agg #[.int .i64 0, .int .i64 0, .slice none 0 0, .slice none 0 0]) (vs := [.int .i64 0, .int .i64 0, .slice none 0 0, .slice none 0 0]) (k := 0) (cs' := [.int .i64 0, .int .i64 0, .slice none 0 0, .slice none 0 0]) hS3 k_sz_45_4 rfl rfl rfl rfl rfl rfl rfl (Nat.le_of_ble_eq_true rfl) rfl rfl) ?_
    rintro _ w_3 ⟨rfl, hS4⟩
    have hS4 : ST w0 [] _ [⟨some ⟨b, 0, none⟩, 45, [.int .i64 p.Qubits, .int .i64 p.Phase, .slice B p.Terms.length c, .slice B1 p.Out.Rows.length c1], 4⟩, ⟨some ⟨b1, 0, none⟩, 45, [.int .i64 0, .int .i64 0, .slice none 0 0, .slice none 0 0], 4⟩] [⟨B, (p.Terms.flatMap enc_Term)⟩, ⟨B1, (p.Out.Rows.flatMap encI)⟩] := hS4
    refine sq 3 rfl rfl (Y_assign (v := .bool false) rfl rfl) ?_
    refine rw_nil ?_
    refine cw_ret ?_
    have hS5 := hS4.addNil 112
    have hS6 := hS5.addNil 3
    obtain ⟨rfl, rfl⟩ := pr2 (some_inj hF1)
    exact ret2 Try.results54 (v1 := .agg #[.int .i64 0, .int .i64 0, .slice none 0 0, .slice none 0 0]) (resAt_cellA (B := some ⟨b1, 0, none⟩) (i := 0) (cs := [.int .i64 0, .int .i64 0, .slice none 0 0, .slice none 0 0]) (vs := [.int .i64 0, .int .i64 0, .slice none 0 0, .slice none 0 0]) rfl k_ag_45 k_sz_45_4 (hS6.cf (i := 1) rfl) rfl rfl) (v2 := .bool false) (resAt_tmp rfl) ⟨none, 0, none, 0, rfl, (ST.subR (R' := []) (hS6.sel [2, 3] rfl rfl) (fun _ h => by cases h))⟩
  · skip
    have hF2 := cf' hF hb
    refine cw_skip ?_
    refine cw_seq ?_
    refine cw_region ?_
    refine sq 14 rfl rfl (Y_fieldAddr (B := some ⟨b, 0, none⟩) (i := 0) (s := 0) k_fd_45_3_3_43 k_sz_43_1 rfl rfl) ?_
    refine sq 15 rfl rfl (Y_loadA (B := some ⟨b, 0, none⟩) (i := 3) (cs := [.int .i64 p.Qubits, .int .i64 p.Phase, .slice B p.Terms.length c, .slice B1 p.Out.Rows.length c1]) (vs := [.slice B1 p.Out.Rows.length c1]) k_ag_43 k_sz_43_1 rfl rfl (hS3.cf (i := 0) rfl) rfl rfl) ?_
    obtain ⟨⟨r_3, r_4⟩, hc1, hF2⟩ := bind_inv hF2
    refine sc 16 rfl rfl (Yc_func (g := 121) (vs := [.agg #[.slice B1 p.Out.Rows.length c1]]) k_call_121 rfl (mc rfl mn) (c_spec_InvertLinear p.Out B1 c1 p.Out.Rows.length _ rfl (hS3.inn0 [(true, 1)] rfl) hc1)) ?_
    rintro _ w_4 ⟨B4, c4, rfl, hd1⟩
    have hS7 := hS3.out0 hd1
    have hS7 : ST w0 [] _ [⟨some ⟨b, 0, none⟩, 45, [.int .i64 p.Qubits, .int .i64 p.Phase, .slice B p.Terms.length c, .slice B1 p.Out.Rows.length c1], 4⟩, ⟨some ⟨b1, 0, none⟩, 45, [.int .i64 0, .int .i64 0, .slice none 0 0, .slice none 0 0], 4⟩, ⟨B4, 3, (r_3.Rows.flatMap encI), c4 * 1⟩] [⟨B, (p.Terms.flatMap enc_Term)⟩, ⟨B1, (p.Out.Rows.flatMap encI)⟩] := hS7
    refine sq 13 rfl rfl (Y_move (v := .tuple #[.agg #[.slice B4 r_3.Rows.length c4], .bool r_4]) rfl rfl) ?_
    refine sq 17 rfl rfl (Y_extract (v := .agg #[.slice B4 r_3.Rows.length c4]) rfl rfl rfl) ?_
    refine sq 18 rfl rfl (Y_extract (v := .bool r_4) rfl rfl rfl) ?_
    refine ss 4 rfl rfl (Ys_alloc (T := 43) (cs := [.slice none 0 0]) (m := 1) hS7 k_zero_43 rfl rfl rfl) ?_
    rintro _ w_5 ⟨b2, rfl, hS8⟩
    have hS8 : ST w0 [] _ [⟨some ⟨b, 0, none⟩, 45, [.int .i64 p.Qubits, .int .i64 p.Phase, .slice B p.Terms.length c, .slice B1 p.Out.Rows.length c1], 4⟩, ⟨some ⟨b1, 0, none⟩, 45, [.int .i64 0, .int .i64 0, .slice none 0 0, .slice none 0 0], 4⟩, ⟨B4, 3, (r_3.Rows.flatMap encI), c4 * 1⟩, ⟨some ⟨b2, 0, none⟩, 43, [.slice none 0 0], 1⟩] [⟨B, (p.Terms.flatMap enc_Term)⟩, ⟨B1, (p.Out.Rows.flatMap encI)⟩] := hS8
    refine ss0 rfl rfl (Ys_store (i := 3) (s := 1) (B := some ⟨b2, 0, none⟩) (T' := 43) (v := .agg #[.slice B4 r_3.Rows.length c4]) (vs := [.slice B4 r_3.Rows.length c4]) (k := 0) (cs' := [.slice B4 r_3.Rows.length c4]) hS8 k_sz_43_1 rfl rfl rfl rfl rfl rfl rfl (Nat.le_of_ble_eq_true rfl) rfl rfl) ?_
    rintro _ w_6 ⟨rfl, hS9⟩
    have hS9 : ST w0 [] _ [⟨some ⟨b, 0, none⟩, 45, [.int .i64 p.Qubits, .int .i64 p.Phase, .slice B p.Terms.length c, .slice B1 p.Out.Rows.length c1], 4⟩, ⟨some ⟨b1, 0, none⟩, 45, [.int .i64 0, .int .i64 0, .slice none 0 0, .slice none 0 0], 4⟩, ⟨B4, 3, (r_3.Rows.flatMap encI), c4 * 1⟩, ⟨some ⟨b2, 0, none⟩, 43, [.slice B4 r_3.Rows.length c4], 1⟩] [⟨B, (p.Terms.flatMap enc_Term)⟩, ⟨B1, (p.Out.Rows.flatMap encI)⟩] := hS9
    refine sq 5 rfl rfl (Y_assign (v := .bool r_4) rfl rfl) ?_
    refine rw_nil ?_
    refine cw_seq ?_
    refine cw_region ?_
    refine sq 19 rfl rfl (Y_fieldAddr (B := some ⟨b, 0, none⟩) (i := 0) (s := 0) k_fd_45_0_0_3 k_sz_3_1 rfl rfl) ?_
    refine sq 20 rfl rfl (Y_load1 (B := some ⟨b, 0, none⟩) (i := 0) (cs := [.int .i64 p.Qubits, .int .i64 p.Phase, .slice B p.Terms.length c, .slice B1 p.Out.Rows.length c1]) (v := .int .i64 p.Qubits) k_sc_3 rfl rfl (hS9.cf (i := 0) rfl) rfl) ?_
    refine sq 21 rfl rfl (Y_conv (k := .i64) (a := p.Qubits) (T := 3) (T' := 148) k_us_3 k_int_148_u64 rfl rfl) ?_
    obtain ⟨hsh, hF2⟩ := chk_inv hF2
    refine sq 22 rfl rfl (Y_shl (k := .i64) (a := 1) (k' := .u64) (b := (IntKind.u64.wrap p.Qubits)) rfl rfl rfl hsh) ?_
    obtain ⟨hmk, hF2⟩ := chk_inv hF2
    refine ss 23 rfl rfl (Ys_make (s := 1) (by' := 8) (nn := (shlK .i64 1 (IntKind.u64.wrap p.Qubits)).toNat) (a := (shlK .i64 1 (IntKind.u64.wrap p.Qubits))) (b := (shlK .i64 1 (IntKind.u64.wrap p.Qubits))) (cs := ((List.replicate ((shlK .i64 1 (IntKind.u64.wrap p.Qubits)).toNat) 0).flatMap encI)) hS9 k_sl_34_3 k_sz_3_1 k_by_3_8 k_zero_3 rfl rfl rfl rfl hmk.1 rfl (by have := hmk; omega) (by have := hmk; omega) (by omega) (fm_rep (enc := encI) (d := 0) rfl _)) ?_
    rintro _ w_7 ⟨b3, rfl, hS10⟩
    have hS10 : ST w0 [] _ [⟨some ⟨b, 0, none⟩, 45, [.int .i64 p.Qubits, .int .i64 p.Phase, .slice B p.Terms.length c, .slice B1 p.Out.Rows.length c1], 4⟩, ⟨some ⟨b1, 0, none⟩, 45, [.int .i64 0, .int .i64 0, .slice none 0 0, .slice none 0 0], 4⟩, ⟨B4, 3, (r_3.Rows.flatMap encI), c4 * 1⟩, ⟨some ⟨b2, 0, none⟩, 43, [.slice B4 r_3.Rows.length c4], 1⟩, ⟨some ⟨b3, 0, none⟩, 3, ((List.replicate ((shlK .i64 1 (IntKind.u64.wrap p.Qubits)).toNat) 0).flatMap encI), ((shlK .i64 1 (IntKind.u64.wrap p.Qubits)).toNat) * 1⟩] [⟨B, (p.Terms.flatMap enc_Term)⟩, ⟨B1, (p.Out.Rows.flatMap encI)⟩] := hS10
    refine sq 6 rfl rfl (Y_assign (v := .slice (some ⟨b3, 0, none⟩) ((shlK .i64 1 (IntKind.u64.wrap p.Qubits)).toNat) ((shlK .i64 1 (IntKind.u64.wrap p.Qubits)).toNat)) rfl rfl) ?_
    refine rw_nil ?_
    refine cw_seq ?_
    refine cw_seq ?_
    refine cw_region ?_
    refine sq 24 rfl rfl (Y_fieldAddr (B := some ⟨b, 0, none⟩) (i := 0) (s := 0) k_fd_45_2_2_40 k_sz_40_1 rfl rfl) ?_
    refine sq 25 rfl rfl (Y_load1 (B := some ⟨b, 0, none⟩) (i := 2) (cs := [.int .i64 p.Qubits, .int .i64 p.Phase, .slice B p.Terms.length c, .slice B1 p.Out.Rows.length c1]) (v := .slice B p.Terms.length c) k_sc_40 rfl rfl (hS10.cf (i := 0) rfl) rfl) ?_
    refine sq 26 rfl rfl (Y_len (B := B) (m := p.Terms.length) (c := c) k_sl_40_112 rfl rfl) ?_
    refine sq 27 rfl rfl (Y_move (v := .int .i64 0) rfl rfl) ?_
    refine rw_nil ?_
    obtain ⟨hN, hF2⟩ := chk_inv hF2
    obtain ⟨z, hz, hF3⟩ := bind_inv hF2
    refine cw_block ?_
    refine cw_loop (fun k f w => ∃ (i : Nat) (by_ : List Int), FF f [(1, pt (some ⟨b, 0, none⟩) 0), (2, pt (some ⟨b1, 0, none⟩) 0), (4, pt (some ⟨b2, 0, none⟩) 0), (6, .slice (some ⟨b3, 0, none⟩) ((shlK .i64 1 (IntKind.u64.wrap p.Qubits)).toNat) ((shlK .i64 1 (IntKind.u64.wrap p.Qubits)).toNat)), (25, .slice B p.Terms.length c), (26, .int .i64 (p.Terms.length : Int)), (27, .int .i64 (i : Int))] ∧ by_.length = (shlK .i64 1 (IntKind.u64.wrap p.Qubits)).toNat ∧ ST w0 [] w [⟨some ⟨b, 0, none⟩, 45, [.int .i64 p.Qubits, .int .i64 p.Phase, .slice B p.Terms.length c, .slice B1 p.Out.Rows.length c1], 4⟩, ⟨some ⟨b1, 0, none⟩, 45, [.int .i64 0, .int .i64 0, .slice none 0 0, .slice none 0 0], 4⟩, ⟨some ⟨b2, 0, none⟩, 43, [.slice B4 r_3.Rows.length c4], 1⟩, ⟨B4, 3, (r_3.Rows.flatMap encI), c4 * 1⟩, ⟨some ⟨b3, 0, none⟩, 3, (by_.flatMap encI), ((shlK .i64 1 (IntKind.u64.wrap p.Qubits)).toNat) * 1⟩] [⟨B, (p.Terms.flatMap enc_Term)⟩, ⟨B1, (p.Out.Rows.flatMap encI)⟩] ∧ i + k = p.Terms.length ∧ forN (F_spec_InvertPhase_l1 p r_3) k i by_ = some z) p.Terms.length ⟨0, (List.replicate ((shlK .i64 1 (IntKind.u64.wrap p.Qubits)).toNat) 0), (FF.cons rfl (FF.cons rfl (FF.cons rfl (FF.cons rfl (FF.cons rfl (FF.cons rfl (FF.cons rfl FF.nil))))))), List.length_replicate, (hS10.sel [0, 1, 3, 2, 4] rfl rfl), Nat.zero_add _, hz⟩ ?_
    rintro k_ f w ⟨i, by_, hf, hl, hS11, hik, hL⟩
    refine cw_seq ?_
    refine cw_region ?_
    refine sq 28 rfl rfl (Y_lt (k := .i64) (a := (i : Int)) (b := (p.Terms.length : Int)) rfl (hf.get 27 6 rfl) (hf.get 26 5 rfl)) ?_
    refine rw_nil ?_
    refine cw_seq ?_
    refine cw_cond (b := (decide ((i : Int) < (p.Terms.length : Int)))) rfl (fun hlt => ?_) (fun hlt => ?_)
    · skip
      have hlt1 : i < p.Terms.length := by have h := of_decide_eq_true hlt; omega
      obtain ⟨k_1, rfl⟩ : ∃ k2, k_ = k2 + 1 := ⟨k_ - 1, by omega⟩
      obtain ⟨y, hb1, hL1⟩ := forN_go hL
      unfold F_spec_InvertPhase_l1 at hb1
      refine cw_skip ?_
      refine cw_seq ?_
      refine cw_block ?_
      refine cw_seq ?_
      refine cw_region ?_
      obtain ⟨x, hx, hb1⟩ := bind_inv hb1
      refine sq 29 rfl rfl (Y_index (B := B) (m := p.Terms.length) (c := c) (k := .i64) (i := (i : Int)) k_sl_40_112 k_sz_112_2 rfl (hf.get 25 4 rfl) (hf.get 27 6 rfl) (gi_isSome enc_Term_len rfl (hS11.rf (i := 0) rfl) hx) (getI_nn hx) (getI_ltI hx rfl)) ?_
      refine sq 30 rfl rfl (Y_loadA (B := B) (i := (i : Int).toNat * 2) (cs := (p.Terms.flatMap enc_Term)) (vs := [.int .i64 x.Mask, .int .i64 x.Coef]) k_ag_112 k_sz_112_2 rfl rfl (hS11.rf (i := 0) rfl) (enc_Term_len x) (gi_seg enc_Term_len hx)) ?_
      refine ss 8 rfl rfl (Ys_alloc (T := 112) (cs := [.int .i64 0, .int .i64 0]) (m := 2) hS11 k_zero_112 rfl rfl rfl) ?_
      rintro _ w_8 ⟨b4, rfl, hS12⟩
      have hS12 : ST w0 [] _ [⟨some ⟨b, 0, none⟩, 45, [.int .i64 p.Qubits, .int .i64 p.Phase, .slice B p.Terms.length c, .slice B1 p.Out.Rows.length c1], 4⟩, ⟨some ⟨b1, 0, none⟩, 45, [.int .i64 0, .int .i64 0, .slice none 0 0, .slice none 0 0], 4⟩, ⟨some ⟨b2, 0, none⟩, 43, [.slice B4 r_3.Rows.length c4], 1⟩, ⟨B4, 3, (r_3.Rows.flatMap encI), c4 * 1⟩, ⟨some ⟨b3, 0, none⟩, 3, (by_.flatMap encI), ((shlK .i64 1 (IntKind.u64.wrap p.Qubits)).toNat) * 1⟩, ⟨some ⟨b4, 0, none⟩, 112, [.int .i64 0, .int .i64 0], 2⟩] [⟨B, (p.Terms.flatMap enc_Term)⟩, ⟨B1, (p.Out.Rows.flatMap encI)⟩] := hS12
      refine ss0 rfl rfl (Ys_store (i := 5) (s := 2) (B := some ⟨b4, 0, none⟩) (T' := 112) (v := .agg #[.int .i64 x.Mask, .int .i64 x.Coef]) (vs := [.int .i64 x.Mask, .int .i64 x.Coef]) (k := 0) (cs' := [.int .i64 x.Mask, .int .i64 x.Coef]) hS12 k_sz_112_2 rfl rfl rfl rfl rfl rfl rfl (Nat.le_of_ble_eq_true rfl) rfl rfl) ?_
      rintro _ w_9 ⟨rfl, hS13⟩
      have hS13 : ST w0 [] _ [⟨some ⟨b, 0, none⟩, 45, [.int .i64 p.Qubits, .int .i64 p.Phase, .slice B p.Terms.length c, .slice B1 p.Out.Rows.length c1], 4⟩, ⟨some ⟨b1, 0, none⟩, 45, [.int .i64 0, .int .i64 0, .slice none 0 0, .slice none 0 0], 4⟩, ⟨some ⟨b2, 0, none⟩, 43, [.slice B4 r_3.Rows.length c4], 1⟩, ⟨B4, 3, (r_3.Rows.flatMap encI), c4 * 1⟩, ⟨some ⟨b3, 0, none⟩, 3, (by_.flatMap encI), ((shlK .i64 1 (IntKind.u64.wrap p.Qubits)).toNat) * 1⟩, ⟨some ⟨b4, 0, none⟩, 112, [.int .i64 x.Mask, .int .i64 x.Coef], 2⟩] [⟨B, (p.Terms.flatMap enc_Term)⟩, ⟨B1, (p.Out.Rows.flatMap encI)⟩] := hS13
      refine rw_nil ?_
      obtain ⟨r_5, hc2, hb1⟩ := bind_inv hb1
      obtain ⟨x1, hx1, hb1⟩ := bind_inv hb1
      refine ra_start (ST.sel hS13 [0, 1, 2, 3, 5] rfl rfl).fn (by kernel_rfl) ?_
      have hS15 := hS13.drew
      refine ra_q 0 31 (v := .slice (some ⟨b3, 0, none⟩) ((shlK .i64 1 (IntKind.u64.wrap p.Qubits)).toNat) ((shlK .i64 1 (IntKind.u64.wrap p.Qubits)).toNat)) rfl rfl rfl (by kernel_rfl) (by kernel_rfl) (by kernel_rfl) (ST.sel hS15 [0, 1, 2, 3, 5] rfl rfl) (fun w' hw' => (Y_move (v := .slice (some ⟨b3, 0, none⟩) ((shlK .i64 1 (IntKind.u64.wrap p.Qubits)).toNat) ((shlK .i64 1 (IntKind.u64.wrap p.Qubits)).toNat)) rfl (hf.get 6 3 rfl))) ?_
      refine ra_q 1 32 (v := .agg #[.slice B4 r_3.Rows.length c4]) rfl rfl rfl (by kernel_rfl) (by kernel_rfl) (by kernel_rfl) (ST.sel hS15 [0, 1, 2, 3, 5] rfl rfl) (fun w' hw' => (Y_loadA (B := some ⟨b2, 0, none⟩) (i := 0) (cs := [.slice B4 r_3.Rows.length c4]) (vs := [.slice B4 r_3.Rows.length c4]) k_ag_43 k_sz_43_1 rfl (hf.get 4 2 rfl) (ST.cf hw' (i := 2) rfl) rfl rfl)) ?_
      refine ra_q 2 33 (v := pt (some ⟨b4, 0, none⟩) 0) rfl rfl rfl (by kernel_rfl) (by kernel_rfl) (by kernel_rfl) (ST.sel hS15 [0, 1, 2, 3, 5] rfl rfl) (fun w' hw' => (Y_fieldAddr (B := some ⟨b4, 0, none⟩) (i := 0) (s := 0) k_fd_112_0_0_3 k_sz_3_1 rfl rfl)) ?_
      refine ra_q 3 34 (v := .int .i64 x.Mask) rfl rfl rfl (by kernel_rfl) (by kernel_rfl) (by kernel_rfl) (ST.sel hS15 [0, 1, 2, 3, 5] rfl rfl) (fun w' hw' => (Y_load1 (B := some ⟨b4, 0, none⟩) (i := 0) (cs := [.int .i64 x.Mask, .int .i64 x.Coef]) (v := .int .i64 x.Mask) k_sc_3 rfl rfl (ST.cf hw' (i := 4) rfl) rfl)) ?_
      refine ra_q 7 38 (v := pt (some ⟨b4, 0, none⟩) 1) rfl rfl rfl (by kernel_rfl) (by kernel_rfl) (by kernel_rfl) (ST.sel hS15 [0, 1, 2, 3, 5] rfl rfl) (fun w' hw' => (Y_fieldAddr (B := some ⟨b4, 0, none⟩) (i := 0) (s := 0) k_fd_112_1_1_3 k_sz_3_1 rfl rfl)) ?_
      refine ra_q 8 39 (v := .int .i64 x.Coef) rfl rfl rfl (by kernel_rfl) (by kernel_rfl) (by kernel_rfl) (ST.sel hS15 [0, 1, 2, 3, 5] rfl rfl) (fun w' hw' => (Y_load1 (B := some ⟨b4, 0, none⟩) (i := 1) (cs := [.int .i64 x.Mask, .int .i64 x.Coef]) (v := .int .i64 x.Coef) k_sc_3 rfl rfl (ST.cf hw' (i := 4) rfl) rfl)) ?_
      refine ra_all (rs := [4]) (by kernel_rfl) rfl ?_
      refine ra_c 35 (i := 4) rfl rfl rfl (Yc_func (g := 88) (vs := [.agg #[.slice B4 r_3.Rows.length c4], .int .i64 x.Mask]) k_call_88 rfl (mc rfl (mc rfl mn)) (c_spec_l13Through r_3 x.Mask B4 c4 r_3.Rows.length _ rfl (hS15.inn0 [(false, 3)] rfl) hc2)) ?_ ?_
      · rintro _ w_10 ⟨rfl, hd2⟩
        have hS16 := hS15.out00 hd2
        have hS16 : ST w0 [] _ [⟨some ⟨b, 0, none⟩, 45, [.int .i64 p.Qubits, .int .i64 p.Phase, .slice B p.Terms.length c, .slice B1 p.Out.Rows.length c1], 4⟩, ⟨some ⟨b1, 0, none⟩, 45, [.int .i64 0, .int .i64 0, .slice none 0 0, .slice none 0 0], 4⟩, ⟨some ⟨b2, 0, none⟩, 43, [.slice B4 r_3.Rows.length c4], 1⟩, ⟨B4, 3, (r_3.Rows.flatMap encI), c4 * 1⟩, ⟨some ⟨b3, 0, none⟩, 3, (by_.flatMap encI), ((shlK .i64 1 (IntKind.u64.wrap p.Qubits)).toNat) * 1⟩, ⟨some ⟨b4, 0, none⟩, 112, [.int .i64 x.Mask, .int .i64 x.Coef], 2⟩] [⟨B, (p.Terms.flatMap enc_Term)⟩, ⟨B1, (p.Out.Rows.flatMap encI)⟩] := hS16
        refine ⟨(ST.sel hS16 [0, 1, 2, 3, 5] rfl rfl), ?_⟩
        refine ra_all (rs := [5]) (by kernel_rfl) rfl ?_
        refine ra_y 36 (i := 5) (v := pt (some ⟨b3, 0, none⟩) (r_5.toNat * 1)) rfl rfl rfl (Y_index (B := some ⟨b3, 0, none⟩) (m := (shlK .i64 1 (IntKind.u64.wrap p.Qubits)).toNat) (c := (shlK .i64 1 (IntKind.u64.wrap p.Qubits)).toNat) (k := .i64) (i := r_5) k_sl_34_3 k_sz_3_1 rfl rfl rfl (gi_isSome encI_len rfl (hS16.cf (i := 4) rfl) hx1) (getI_nn hx1) (getI_ltI hx1 hl)) (ST.sel hS16 [0, 1, 2, 3, 5] rfl rfl) ?_ ?_
        · skip
          refine ra_all (rs := [6]) (by kernel_rfl) rfl ?_
          refine ra_y 37 (i := 6) (v := .int .i64 x1) rfl rfl rfl (Y_load1 (B := some ⟨b3, 0, none⟩) (i := r_5.toNat * 1) (cs := (by_.flatMap encI)) (v := .int .i64 x1) k_sc_3 rfl rfl (hS16.cf (i := 4) rfl) (gi_at0 encI_len hx1 rfl)) (ST.sel hS16 [0, 1, 2, 3, 5] rfl rfl) ?_ ?_
          · skip
            refine ra_q 9 40 (v := .int .i64 (IntKind.i64.wrap (x1 - x.Coef))) rfl rfl rfl (by kernel_rfl) (by kernel_rfl) (by kernel_rfl) (ST.sel hS16 [0, 1, 2, 3, 5] rfl rfl) (fun w' hw' => (Y_sub (k := .i64) (a := x1) (b := x.Coef) rfl rfl rfl)) ?_
            refine ra_all (rs := [10]) (by kernel_rfl) rfl ?_
            refine ra_y 41 (i := 10) (v := pt (some ⟨b3, 0, none⟩) (r_5.toNat * 1)) rfl rfl rfl (Y_index (B := some ⟨b3, 0, none⟩) (m := (shlK .i64 1 (IntKind.u64.wrap p.Qubits)).toNat) (c := (shlK .i64 1 (IntKind.u64.wrap p.Qubits)).toNat) (k := .i64) (i := r_5) k_sl_34_3 k_sz_3_1 rfl rfl rfl (gi_isSome encI_len rfl (hS16.cf (i := 4) rfl) hx1) (getI_nn hx1) (getI_ltI hx1 hl)) (ST.sel hS16 [0, 1, 2, 3, 5] rfl rfl) ?_ ?_
            · skip
              refine ra_all (rs := [11]) (by kernel_rfl) rfl ?_
              refine ra_s0 (i := 11) rfl rfl rfl (Ys_store (i := 4) (s := 1) (B := some ⟨b3, 0, none⟩) (T' := 3) (v := .int .i64 (IntKind.i64.wrap (x1 - x.Coef))) (vs := [.int .i64 (IntKind.i64.wrap (x1 - x.Coef))]) (k := r_5.toNat * 1) (cs' := ((by_.set r_5.toNat (IntKind.i64.wrap (x1 - x.Coef))).flatMap encI)) hS16 k_sz_3_1 rfl rfl rfl rfl rfl rfl rfl (gi_fit0 encI_len hx1) (gi_set encI_len hx1 (IntKind.i64.wrap (x1 - x.Coef)) rfl) rfl) ?_ ?_
              · rintro _ w_11 ⟨rfl, hS17⟩
                have hS17 : ST w0 [] _ [⟨some ⟨b, 0, none⟩, 45, [.int .i64 p.Qubits, .int .i64 p.Phase, .slice B p.Terms.length c, .slice B1 p.Out.Rows.length c1], 4⟩, ⟨some ⟨b1, 0, none⟩, 45, [.int .i64 0, .int .i64 0, .slice none 0 0, .slice none 0 0], 4⟩, ⟨some ⟨b2, 0, none⟩, 43, [.slice B4 r_3.Rows.length c4], 1⟩, ⟨B4, 3, (r_3.Rows.flatMap encI), c4 * 1⟩, ⟨some ⟨b3, 0, none⟩, 3, ((by_.set r_5.toNat (IntKind.i64.wrap (x1 - x.Coef))).flatMap encI), ((shlK .i64 1 (IntKind.u64.wrap p.Qubits)).toNat) * 1⟩, ⟨some ⟨b4, 0, none⟩, 112, [.int .i64 x.Mask, .int .i64 x.Coef], 2⟩] [⟨B, (p.Terms.flatMap enc_Term)⟩, ⟨B1, (p.Out.Rows.flatMap encI)⟩] := hS17
                refine ⟨(ST.sel hS17 [0, 1, 2, 3, 5] rfl rfl), ?_⟩
                refine ra_done (by kernel_rfl) ?_
                refine cw_region ?_
                refine sq 42 rfl rfl (Y_add (k := .i64) (a := (i : Int)) (b := 1) rfl (hf.get 27 6 rfl) rfl) ?_
                refine sq 27 rfl rfl (Y_move (v := .int .i64 (IntKind.i64.wrap ((i : Int) + 1))) rfl rfl) ?_
                refine rw_nil ?_
                obtain rfl := some_inj hb1
                exact ⟨k_1, Nat.lt_succ_self _, i + 1, (by_.set r_5.toNat (IntKind.i64.wrap (x1 - x.Coef))), (FF.cons (hf.get 1 0 rfl) (FF.cons (hf.get 2 1 rfl) (FF.cons (hf.get 4 2 rfl) (FF.cons (hf.get 6 3 rfl) (FF.cons (hf.get 25 4 rfl) (FF.cons (hf.get 26 5 rfl) (FF.cons (congrArg (Value.int .i64) (wr_succ hlt1 hN)) FF.nil))))))), (set_len _ _ _ hl), (hS17.sel [0, 1, 2, 3, 4] rfl rfl), (by omega), hL1⟩
              exact allR_nil
            exact allR_nil
          exact allR_nil
        exact allR_nil
      exact allR_nil
    · skip
      obtain rfl : k_ = 0 := by have h := of_decide_eq_false hlt; omega
      refine cw_exit rfl ?_
      obtain rfl := some_inj hL
      refine cw_seq ?_
      obtain ⟨r_6, hc3, hF3⟩ := bind_inv hF3
      refine ra_start (ST.sel hS11 [0, 2, 3, 4] rfl rfl).fn (by kernel_rfl) ?_
      have hS19 := hS11.drew
      refine ra_q 0 43 (v := pt (some ⟨b, 0, none⟩) 0) rfl rfl rfl (by kernel_rfl) (by kernel_rfl) (by kernel_rfl) (ST.sel hS19 [0, 2, 3, 4] rfl rfl) (fun w' hw' => (Y_fieldAddr (B := some ⟨b, 0, none⟩) (i := 0) (s := 0) k_fd_45_0_0_3 k_sz_3_1 rfl (hf.get 1 0 rfl))) ?_
      refine ra_q 1 44 (v := .int .i64 p.Qubits) rfl rfl rfl (by kernel_rfl) (by kernel_rfl) (by kernel_rfl) (ST.sel hS19 [0, 2, 3, 4] rfl rfl) (fun w' hw' => (Y_load1 (B := some ⟨b, 0, none⟩) (i := 0) (cs := [.int .i64 p.Qubits, .int .i64 p.Phase, .slice B p.Terms.length c, .slice B1 p.Out.Rows.length c1]) (v := .int .i64 p.Qubits) k_sc_3 rfl rfl (ST.cf hw' (i := 0) rfl) rfl)) ?_
      refine ra_q 2 45 (v := pt (some ⟨b, 0, none⟩) 1) rfl rfl rfl (by kernel_rfl) (by kernel_rfl) (by kernel_rfl) (ST.sel hS19 [0, 2, 3, 4] rfl rfl) (fun w' hw' => (Y_fieldAddr (B := some ⟨b, 0, none⟩) (i := 0) (s := 0) k_fd_45_1_1_3 k_sz_3_1 rfl (hf.get 1 0 rfl))) ?_
      refine ra_q 3 46 (v := .int .i64 p.Phase) rfl rfl rfl (by kernel_rfl) (by kernel_rfl) (by kernel_rfl) (ST.sel hS19 [0, 2, 3, 4] rfl rfl) (fun w' hw' => (Y_load1 (B := some ⟨b, 0, none⟩) (i := 1) (cs := [.int .i64 p.Qubits, .int .i64 p.Phase, .slice B p.Terms.length c, .slice B1 p.Out.Rows.length c1]) (v := .int .i64 p.Phase) k_sc_3 rfl rfl (ST.cf hw' (i := 0) rfl) rfl)) ?_
      refine ra_q 4 47 (v := .int .i64 (IntKind.i64.wrap (8 - p.Phase))) rfl rfl rfl (by kernel_rfl) (by kernel_rfl) (by kernel_rfl) (ST.sel hS19 [0, 2, 3, 4] rfl rfl) (fun w' hw' => (Y_sub (k := .i64) (a := 8) (b := p.Phase) rfl rfl rfl)) ?_
      refine ra_q 5 48 (v := .int .i64 (Int.tmod (IntKind.i64.wrap (8 - p.Phase)) 8)) rfl rfl rfl (by kernel_rfl) (by kernel_rfl) (by kernel_rfl) (ST.sel hS19 [0, 2, 3, 4] rfl rfl) (fun w' hw' => (Y_rem (k := .i64) (a := (IntKind.i64.wrap (8 - p.Phase))) (b := 8) rfl rfl rfl (by decide))) ?_
      refine ra_q 6 49 (v := .slice (some ⟨b3, 0, none⟩) ((shlK .i64 1 (IntKind.u64.wrap p.Qubits)).toNat) ((shlK .i64 1 (IntKind.u64.wrap p.Qubits)).toNat)) rfl rfl rfl (by kernel_rfl) (by kernel_rfl) (by kernel_rfl) (ST.sel hS19 [0, 2, 3, 4] rfl rfl) (fun w' hw' => (Y_move (v := .slice (some ⟨b3, 0, none⟩) ((shlK .i64 1 (IntKind.u64.wrap p.Qubits)).toNat) ((shlK .i64 1 (IntKind.u64.wrap p.Qubits)).toNat)) rfl (hf.get 6 3 rfl))) ?_
      refine ra_q 8 51 (v := .agg #[.slice B4 r_3.Rows.length c4]) rfl rfl rfl (by kernel_rfl) (by kernel_rfl) (by kernel_rfl) (ST.sel hS19 [0, 2, 3, 4] rfl rfl) (fun w' hw' => (Y_loadA (B := some ⟨b2, 0, none⟩) (i := 0) (cs := [.slice B4 r_3.Rows.length c4]) (vs := [.slice B4 r_3.Rows.length c4]) k_ag_43 k_sz_43_1 rfl (hf.get 4 2 rfl) (ST.cf hw' (i := 1) rfl) rfl rfl)) ?_
      refine ra_all (rs := [7]) (by kernel_rfl) rfl ?_
      refine ra_c 50 (i := 7) rfl rfl rfl (Yc_func (g := 89) (vs := [.slice (some ⟨b3, 0, none⟩) ((shlK .i64 1 (IntKind.u64.wrap p.Qubits)).toNat) ((shlK .i64 1 (IntKind.u64.wrap p.Qubits)).toNat)]) k_call_89 rfl (mc rfl mn) (c_spec_l13List by_ (some ⟨b3, 0, none⟩) ((shlK .i64 1 (IntKind.u64.wrap p.Qubits)).toNat) ((shlK .i64 1 (IntKind.u64.wrap p.Qubits)).toNat) _ hl (hS19.inn0 [(false, 4)] rfl) hc3)) ?_ ?_
      · rintro _ w_12 ⟨B5, c5, rfl, hd3⟩
        have hS20 := hS19.out0 hd3
        have hS20 : ST w0 [] _ [⟨some ⟨b, 0, none⟩, 45, [.int .i64 p.Qubits, .int .i64 p.Phase, .slice B p.Terms.length c, .slice B1 p.Out.Rows.length c1], 4⟩, ⟨some ⟨b1, 0, none⟩, 45, [.int .i64 0, .int .i64 0, .slice none 0 0, .slice none 0 0], 4⟩, ⟨some ⟨b2, 0, none⟩, 43, [.slice B4 r_3.Rows.length c4], 1⟩, ⟨B4, 3, (r_3.Rows.flatMap encI), c4 * 1⟩, ⟨some ⟨b3, 0, none⟩, 3, (by_.flatMap encI), ((shlK .i64 1 (IntKind.u64.wrap p.Qubits)).toNat) * 1⟩, ⟨B5, 112, (r_6.flatMap enc_Term), c5 * 2⟩] [⟨B, (p.Terms.flatMap enc_Term)⟩, ⟨B1, (p.Out.Rows.flatMap encI)⟩] := hS20
        refine ⟨(ST.sel hS20 [0, 2, 3, 4] rfl rfl), ?_⟩
        refine ra_q 9 52 (v := .agg #[.int .i64 p.Qubits, .int .i64 (Int.tmod (IntKind.i64.wrap (8 - p.Phase)) 8), .slice B5 r_6.length c5, .slice B4 r_3.Rows.length c4]) rfl rfl rfl (by kernel_rfl) (by kernel_rfl) (by kernel_rfl) (ST.sel hS20 [0, 2, 3, 4] rfl rfl) (fun w' hw' => (Y_buildS (zs := [.int .i64 0, .int .i64 0, .slice none 0 0, .slice none 0 0]) (vs := [(0, .int .i64 p.Qubits), (1, .int .i64 (Int.tmod (IntKind.i64.wrap (8 - p.Phase)) 8)), (2, .slice B5 r_6.length c5), (3, .agg #[.slice B4 r_3.Rows.length c4])]) (cs := [.int .i64 p.Qubits, .int .i64 (Int.tmod (IntKind.i64.wrap (8 - p.Phase)) 8), .slice B5 r_6.length c5, .slice B4 r_3.Rows.length c4]) k_pl_45 k_zero_45 rfl (mpc rfl (mpc rfl (mpc rfl (mpc rfl mpn)))) rfl)) ?_
        refine ra_all (rs := [10]) (by kernel_rfl) rfl ?_
        refine ra_s0 (i := 10) rfl rfl rfl (Ys_store (i := 1) (s := 4) (B := some ⟨b1, 0, none⟩) (T' := 45) (v := .agg #[.int .i64 p.Qubits, .int .i64 (Int.tmod (IntKind.i64.wrap (8 - p.Phase)) 8), .slice B5 r_6.length c5, .slice B4 r_3.Rows.length c4]) (vs := [.int .i64 p.Qubits, .int .i64 (Int.tmod (IntKind.i64.wrap (8 - p.Phase)) 8), .slice B5 r_6.length c5, .slice B4 r_3.Rows.length c4]) (k := 0) (cs' := [.int .i64 p.Qubits, .int .i64 (Int.tmod (IntKind.i64.wrap (8 - p.Phase)) 8), .slice B5 r_6.length c5, .slice B4 r_3.Rows.length c4]) hS20 k_sz_45_4 rfl (hf.get 2 1 rfl) rfl rfl rfl rfl rfl (Nat.le_of_ble_eq_true rfl) rfl rfl) ?_ ?_
        · rintro _ w_13 ⟨rfl, hS21⟩
          have hS21 : ST w0 [] _ [⟨some ⟨b, 0, none⟩, 45, [.int .i64 p.Qubits, .int .i64 p.Phase, .slice B p.Terms.length c, .slice B1 p.Out.Rows.length c1], 4⟩, ⟨some ⟨b1, 0, none⟩, 45, [.int .i64 p.Qubits, .int .i64 (Int.tmod (IntKind.i64.wrap (8 - p.Phase)) 8), .slice B5 r_6.length c5, .slice B4 r_3.Rows.length c4], 4⟩, ⟨some ⟨b2, 0, none⟩, 43, [.slice B4 r_3.Rows.length c4], 1⟩, ⟨B4, 3, (r_3.Rows.flatMap encI), c4 * 1⟩, ⟨some ⟨b3, 0, none⟩, 3, (by_.flatMap encI), ((shlK .i64 1 (IntKind.u64.wrap p.Qubits)).toNat) * 1⟩, ⟨B5, 112, (r_6.flatMap enc_Term), c5 * 2⟩] [⟨B, (p.Terms.flatMap enc_Term)⟩, ⟨B1, (p.Out.Rows.flatMap encI)⟩] := hS21
          refine ⟨(ST.sel hS21 [0, 2, 3, 4] rfl rfl), ?_⟩
          refine ra_q 11 3 (v := .bool true) rfl rfl rfl (by kernel_rfl) (by kernel_rfl) (by kernel_rfl) (ST.sel hS21 [0, 2, 3, 4] rfl rfl) (fun w' hw' => (Y_assign (v := .bool true) rfl rfl)) ?_
          refine ra_done (by kernel_rfl) ?_
          refine cw_ret ?_
          obtain ⟨rfl, rfl⟩ := pr2 (some_inj hF3)
          exact ret2 Try.results54 (v1 := .agg #[.int .i64 p.Qubits, .int .i64 (Int.tmod (IntKind.i64.wrap (8 - p.Phase)) 8), .slice B5 r_6.length c5, .slice B4 r_3.Rows.length c4]) (resAt_cellA (B := some ⟨b1, 0, none⟩) (i := 0) (cs := [.int .i64 p.Qubits, .int .i64 (Int.tmod (IntKind.i64.wrap (8 - p.Phase)) 8), .slice B5 r_6.length c5, .slice B4 r_3.Rows.length c4]) (vs := [.int .i64 p.Qubits, .int .i64 (Int.tmod (IntKind.i64.wrap (8 - p.Phase)) 8), .slice B5 r_6.length c5, .slice B4 r_3.Rows.length c4]) (hf.get 2 1 rfl) k_ag_45 k_sz_45_4 (hS21.cf (i := 1) rfl) rfl rfl) (v2 := .bool true) (resAt_tmp rfl) ⟨B5, c5, B4, c4, rfl, (ST.subR (R' := []) (hS21.sel [5, 3] rfl rfl) (fun _ h => by cases h))⟩
        exact allR_nil
      exact allR_nil

theorem c_impl_within (n : Int) (low : Int) (high : Int)  (w0 : World)  (hS : ST w0 [] w0 [] []) {r_ : Bool} (hF : F_impl_within n low high = some r_) :
    CV Try.prog 145 #[.int .i64 n, .int .i64 low, .int .i64 high] w0 (fun v w' => v = .bool r_ ∧ ST w0 [] w' [] []) := by
  unfold F_impl_within at hF
  refine cv_of_cw 15 Try.func145 rfl Try.ntmps145 rfl ?_
  refine cw_seq ?_
  refine cw_region ?_
  refine sq 6 rfl rfl (Y_assign (v := .bool false) rfl rfl) ?_
  refine rw_nil ?_
  refine cw_seq ?_
  refine cw_region ?_
  refine sq 7 rfl rfl (Y_move (v := .int .i64 low) rfl rfl) ?_
  refine sq 8 rfl rfl (Y_move (v := .int .i64 n) rfl rfl) ?_
  refine sq 9 rfl rfl (Y_le (k := .i64) (a := low) (b := n) rfl rfl rfl) ?_
  refine sq 10 rfl rfl (Y_move (v := .bool (decide (low ≤ n))) rfl rfl) ?_
  refine sgq 11 (B := (decide (low ≤ n))) (v := .int .i64 n) rfl rfl (wt_t (gd_of (t := 10) (by kernel_rfl) rfl)) (fun hg => (Y_move (v := .int .i64 n) rfl rfl)) ?_
  refine sgq 12 (B := (decide (low ≤ n))) (v := .int .i64 high) rfl rfl (wt_t (gd_of (t := 10) (by kernel_rfl) rfl)) (fun hg1 => (Y_move (v := .int .i64 high) rfl rfl)) ?_
  refine sgq 13 (B := (decide (low ≤ n))) (v := .bool (decide (n ≤ high))) rfl rfl (wt_t (gd_of (t := 10) (by kernel_rfl) rfl)) (fun hg2 => (Y_le (k := .i64) (a := n) (b := high) rfl (gv_of (B := (decide (low ≤ n))) (v := .int .i64 n) hg2) (gv_of (B := (decide (low ≤ n))) (v := .int .i64 high) hg2))) ?_
  refine sq 14 rfl rfl (Y_and (b := (decide (low ≤ n))) (z := (decide (n ≤ high))) rfl rfl rfl rfl) ?_
  refine sq 6 rfl rfl (Y_assign (v := .bool ((decide (low ≤ n)) && (decide (n ≤ high)))) rfl rfl) ?_
  refine rw_nil ?_
  refine cw_ret ?_
  obtain rfl := some_inj hF
  exact ret1 Try.results145 (v1 := .bool ((decide (low ≤ n)) && (decide (n ≤ high)))) (resAt_tmp rfl) ⟨rfl, (ST.subR (R' := []) (hS.sel [] rfl rfl) (fun _ h => by cases h))⟩

theorem c_impl_areTerms (n : Int) (terms : List TTerm) (B : Option Addr) (c n1 : Nat) (w0 : World) (hn : terms.length = n1) (hS : ST w0 [] w0 [] [⟨B, (terms.flatMap enc_Term)⟩]) {r_ : Bool} (hF : F_impl_areTerms n terms = some r_) :
    CV Try.prog 146 #[.int .i64 n, .slice B n1 c] w0 (fun v w' => v = .bool r_ ∧ ST w0 [] w' [] []) := by
  subst hn
  unfold F_impl_areTerms at hF
  refine cv_of_cw 43 Try.func146 rfl Try.ntmps146 rfl ?_
  refine cw_seq ?_
  refine cw_region ?_
  refine sq 4 rfl rfl (Y_assign (v := .bool false) rfl rfl) ?_
  refine rw_nil ?_
  refine cw_seq ?_
  refine cw_seq ?_
  refine cw_region ?_
  refine sq 7 rfl rfl (Y_move (v := .slice B terms.length c) rfl rfl) ?_
  refine sq 8 rfl rfl (Y_len (B := B) (m := terms.length) (c := c) k_sl_40_112 rfl rfl) ?_
  refine sq 9 rfl rfl (Y_move (v := .int .i64 0) rfl rfl) ?_
  refine rw_nil ?_
  obtain ⟨hN, hF⟩ := chk_inv hF
  obtain ⟨z, hz, hF1⟩ := bind_inv hF
  refine cw_block ?_
  refine cw_loop (fun k f w => ∃ (i : Nat), FF f [(0, .int .i64 n), (1, .slice B terms.length c), (7, .slice B terms.length c), (8, .int .i64 (terms.length : Int)), (9, .int .i64 (i : Int))] ∧ ST w0 [] w [] [⟨B, (terms.flatMap enc_Term)⟩] ∧ i + k = terms.length ∧ forX (F_impl_areTerms_l1 terms n) k i () = some z) terms.length ⟨0, (FF.cons rfl (FF.cons rfl (FF.cons rfl (FF.cons rfl (FF.cons rfl FF.nil))))), (hS.sel [] rfl rfl), Nat.zero_add _, hz⟩ ?_
  rintro k_ f w ⟨i, hf, hS1, hik, hL⟩
  refine cw_seq ?_
  refine cw_region ?_
  refine sq 10 rfl rfl (Y_lt (k := .i64) (a := (i : Int)) (b := (terms.length : Int)) rfl (hf.get 9 4 rfl) (hf.get 8 3 rfl)) ?_
  refine rw_nil ?_
  refine cw_seq ?_
  refine cw_cond (b := (decide ((i : Int) < (terms.length : Int)))) rfl (fun hlt => ?_) (fun hlt => ?_)
  · skip
    have hlt1 : i < terms.length := by have h := of_decide_eq_true hlt; omega
    obtain ⟨k_1, rfl⟩ : ∃ k2, k_ = k2 + 1 := ⟨k_ - 1, by omega⟩
    obtain ⟨y, hb, hL1⟩ := forX_go hL
    unfold F_impl_areTerms_l1 at hb
    refine cw_skip ?_
    refine cw_seq ?_
    refine cw_block ?_
    refine cw_seq ?_
    refine cw_region ?_
    refine sq 11 rfl rfl (Y_move (v := .int .i64 (i : Int)) rfl (hf.get 9 4 rfl)) ?_
    obtain ⟨x, hx, hb⟩ := bind_inv hb
    refine sq 12 rfl rfl (Y_index (B := B) (m := terms.length) (c := c) (k := .i64) (i := (i : Int)) k_sl_40_112 k_sz_112_2 rfl (hf.get 7 2 rfl) (hf.get 9 4 rfl) (gi_isSome enc_Term_len rfl (hS1.rf (i := 0) rfl) hx) (getI_nn hx) (getI_ltI hx rfl)) ?_
    refine sq 13 rfl rfl (Y_loadA (B := B) (i := (i : Int).toNat * 2) (cs := (terms.flatMap enc_Term)) (vs := [.int .i64 x.Mask, .int .i64 x.Coef]) k_ag_112 k_sz_112_2 rfl rfl (hS1.rf (i := 0) rfl) (enc_Term_len x) (gi_seg enc_Term_len hx)) ?_
    refine ss 6 rfl rfl (Ys_alloc (T := 112) (cs := [.int .i64 0, .int .i64 0]) (m := 2) hS1 k_zero_112 rfl rfl rfl) ?_
    rintro _ w_ ⟨b, rfl, hS2⟩
    refine sq 5 rfl rfl (Y_assign (v := .int .i64 (i : Int)) rfl rfl) ?_
    refine ss0 rfl rfl (Ys_store (i := 0) (s := 2) (B := some ⟨b, 0, none⟩) (T' := 112) (v := .agg #[.int .i64 x.Mask, .int .i64 x.Coef]) (vs := [.int .i64 x.Mask, .int .i64 x.Coef]) (k := 0) (cs' := [.int .i64 x.Mask, .int .i64 x.Coef]) hS2 k_sz_112_2 rfl rfl rfl rfl rfl rfl rfl (Nat.le_of_ble_eq_true rfl) rfl rfl) ?_
    rintro _ w_1 ⟨rfl, hS3⟩
    refine rw_nil ?_
    refine cw_seq ?_
    obtain ⟨hsh, hb⟩ := chk_inv hb
    obtain ⟨r_1, hc, hb⟩ := bind_inv hb
    obtain ⟨r_2, hc1, hb⟩ := bind_inv hb
    obtain ⟨x1, hx1, hb⟩ := bind_inv hb
    refine ra_start (ST.sel hS3 [0] rfl rfl).fn (by kernel_rfl) ?_
    have hS6 := hS3.drew
    refine ra_q 0 14 (v := pt (some ⟨b, 0, none⟩) 0) rfl rfl rfl (by kernel_rfl) (by kernel_rfl) (by kernel_rfl) (ST.sel hS6 [0] rfl rfl) (fun w' hw' => (Y_fieldAddr (B := some ⟨b, 0, none⟩) (i := 0) (s := 0) k_fd_112_0_0_3 k_sz_3_1 rfl rfl)) ?_
    refine ra_q 1 15 (v := .int .i64 x.Mask) rfl rfl rfl (by kernel_rfl) (by kernel_rfl) (by kernel_rfl) (ST.sel hS6 [0] rfl rfl) (fun w' hw' => (Y_load1 (B := some ⟨b, 0, none⟩) (i := 0) (cs := [.int .i64 x.Mask, .int .i64 x.Coef]) (v := .int .i64 x.Mask) k_sc_3 rfl rfl (ST.cf hw' (i := 0) rfl) rfl)) ?_
    refine ra_q 2 16 (v := .int .i64 n) rfl rfl rfl (by kernel_rfl) (by kernel_rfl) (by kernel_rfl) (ST.sel hS6 [0] rfl rfl) (fun w' hw' => (Y_move (v := .int .i64 n) rfl (hf.get 0 0 rfl))) ?_
    refine ra_q 3 17 (v := .int .i64 (shlK .i64 1 n)) rfl rfl rfl (by kernel_rfl) (by kernel_rfl) (by kernel_rfl) (ST.sel hS6 [0] rfl rfl) (fun w' hw' => (Y_shl (k := .i64) (a := 1) (k' := .i64) (b := n) rfl rfl rfl hsh)) ?_
    refine ra_q 4 18 (v := .int .i64 (IntKind.i64.wrap ((shlK .i64 1 n) - 1))) rfl rfl rfl (by kernel_rfl) (by kernel_rfl) (by kernel_rfl) (ST.sel hS6 [0] rfl rfl) (fun w' hw' => (Y_sub (k := .i64) (a := (shlK .i64 1 n)) (b := 1) rfl rfl rfl)) ?_
    refine ra_all (rs := [5]) (by kernel_rfl) rfl ?_
    refine ra_c 19 (i := 5) rfl rfl rfl (Yc_func (g := 145) (vs := [.int .i64 x.Mask, .int .i64 1, .int .i64 (IntKind.i64.wrap ((shlK .i64 1 n) - 1))]) k_call_145 rfl (mc rfl (mc rfl (mc rfl mn))) (c_impl_within x.Mask 1 (IntKind.i64.wrap ((shlK .i64 1 n) - 1)) _  (hS6.inn0 [] rfl) hc)) ?_ ?_
    · rintro _ w_2 ⟨rfl, hd⟩
      have hS7 := hS6.out00 hd
      refine ⟨(ST.sel hS7 [0] rfl rfl), ?_⟩
      refine ra_q 6 20 (v := .bool (!r_1)) rfl rfl rfl (by kernel_rfl) (by kernel_rfl) (by kernel_rfl) (ST.sel hS7 [0] rfl rfl) (fun w' hw' => (Y_not (p := r_1) rfl rfl)) ?_
      refine ra_q 7 21 (v := .bool (!r_1)) rfl rfl rfl (by kernel_rfl) (by kernel_rfl) (by kernel_rfl) (ST.sel hS7 [0] rfl rfl) (fun w' hw' => (Y_move (v := .bool (!r_1)) rfl rfl)) ?_
      refine ra_gq 8 22 (B := (!(!r_1))) (v := pt (some ⟨b, 0, none⟩) 1) rfl rfl rfl (wt_f (gd_of (t := 21) (by kernel_rfl) rfl)) (by kernel_rfl) (by kernel_rfl) (by kernel_rfl) (ST.sel hS7 [0] rfl rfl) (fun hg w' hw' => (Y_fieldAddr (B := some ⟨b, 0, none⟩) (i := 0) (s := 0) k_fd_112_1_1_3 k_sz_3_1 rfl rfl)) ?_
      refine ra_gq 9 23 (B := (!(!r_1))) (v := .int .i64 x.Coef) rfl rfl rfl (wt_f (gd_of (t := 21) (by kernel_rfl) rfl)) (by kernel_rfl) (by kernel_rfl) (by kernel_rfl) (ST.sel hS7 [0] rfl rfl) (fun hg1 w' hw' => (Y_load1 (B := some ⟨b, 0, none⟩) (i := 1) (cs := [.int .i64 x.Mask, .int .i64 x.Coef]) (v := .int .i64 x.Coef) k_sc_3 rfl (gv_of (B := (!(!r_1))) (v := pt (some ⟨b, 0, none⟩) 1) hg1) (ST.cf hw' (i := 0) rfl) rfl)) ?_
      refine ra_all (rs := [10]) (by kernel_rfl) rfl ?_
      refine ra_gc 24 (i := 10) (B := (!(!r_1))) (v := .bool r_2) (F := hS7.fn) rfl rfl rfl (wt_f (gd_of (t := 21) (by kernel_rfl) rfl)) hS7 (fun hg2 => (Yc_func (g := 145) (vs := [.int .i64 x.Coef, .int .i64 1, .int .i64 7]) k_call_145 rfl (mc (gv_of (B := (!(!r_1))) (v := .int .i64 x.Coef) hg2) (mc rfl (mc rfl mn))) (CV.mono (c_impl_within x.Coef 1 7 _  (hS7.inn0 [] rfl) (gb_inv hc1 hg2)) (by rintro _ _ ⟨rfl, h⟩; exact ⟨rfl, hS7.out00 h⟩)))) ?_ ?_
      · rintro w_3 hS8
        have hS8 : ST _ _ w_3 _ _ := hS8
        refine ⟨(ST.sel hS8 [0] rfl rfl), ?_⟩
        refine ra_gq 11 25 (B := (!(!r_1))) (v := .bool (!r_2)) rfl rfl rfl (wt_f (gd_of (t := 21) (by kernel_rfl) rfl)) (by kernel_rfl) (by kernel_rfl) (by kernel_rfl) (ST.sel hS8 [0] rfl rfl) (fun hg3 w' hw' => (Y_not (p := r_2) rfl (gv_of (B := (!(!r_1))) (v := .bool r_2) hg3))) ?_
        refine ra_q 12 26 (v := .bool ((!r_1) || (!r_2))) rfl rfl rfl (by kernel_rfl) (by kernel_rfl) (by kernel_rfl) (ST.sel hS8 [0] rfl rfl) (fun w' hw' => (Y_or (b := (!r_1)) (z := (!r_2)) rfl rfl rfl rfl)) ?_
        refine ra_q 13 27 (v := .bool ((!r_1) || (!r_2))) rfl rfl rfl (by kernel_rfl) (by kernel_rfl) (by kernel_rfl) (ST.sel hS8 [0] rfl rfl) (fun w' hw' => (Y_move (v := .bool ((!r_1) || (!r_2))) rfl rfl)) ?_
        refine ra_gq 14 28 (B := (!((!r_1) || (!r_2)))) (v := .int .i64 (i : Int)) rfl rfl rfl (wt_f (gd_of (t := 27) (by kernel_rfl) rfl)) (by kernel_rfl) (by kernel_rfl) (by kernel_rfl) (ST.sel hS8 [0] rfl rfl) (fun hg4 w' hw' => (Y_move (v := .int .i64 (i : Int)) rfl rfl)) ?_
        refine ra_gq 15 29 (B := (!((!r_1) || (!r_2)))) (v := .bool (decide (0 < (i : Int)))) rfl rfl rfl (wt_f (gd_of (t := 27) (by kernel_rfl) rfl)) (by kernel_rfl) (by kernel_rfl) (by kernel_rfl) (ST.sel hS8 [0] rfl rfl) (fun hg5 w' hw' => (Y_gt (k := .i64) (a := (i : Int)) (b := 0) rfl (gv_of (B := (!((!r_1) || (!r_2)))) (v := .int .i64 (i : Int)) hg5) rfl)) ?_
        refine ra_gq 16 30 (B := (!((!r_1) || (!r_2)))) (v := .bool (decide (0 < (i : Int)))) rfl rfl rfl (wt_f (gd_of (t := 27) (by kernel_rfl) rfl)) (by kernel_rfl) (by kernel_rfl) (by kernel_rfl) (ST.sel hS8 [0] rfl rfl) (fun hg6 w' hw' => (Y_move (v := .bool (decide (0 < (i : Int)))) rfl (gv_of (B := (!((!r_1) || (!r_2)))) (v := .bool (decide (0 < (i : Int)))) hg6))) ?_
        refine ra_gq 17 31 (B := ((!((!r_1) || (!r_2))) && (decide (0 < (i : Int))))) (v := .slice B terms.length c) rfl rfl rfl (wt_gt (gd_of (t := 30) (by kernel_rfl) rfl)) (by kernel_rfl) (by kernel_rfl) (by kernel_rfl) (ST.sel hS8 [0] rfl rfl) (fun hg7 w' hw' => (Y_move (v := .slice B terms.length c) rfl (hf.get 1 1 rfl))) ?_
        refine ra_gq 18 32 (B := ((!((!r_1) || (!r_2))) && (decide (0 < (i : Int))))) (v := .int .i64 (i : Int)) rfl rfl rfl (wt_gt (gd_of (t := 30) (by kernel_rfl) rfl)) (by kernel_rfl) (by kernel_rfl) (by kernel_rfl) (ST.sel hS8 [0] rfl rfl) (fun hg8 w' hw' => (Y_move (v := .int .i64 (i : Int)) rfl rfl)) ?_
        refine ra_gq 19 33 (B := ((!((!r_1) || (!r_2))) && (decide (0 < (i : Int))))) (v := .int .i64 (IntKind.i64.wrap ((i : Int) - 1))) rfl rfl rfl (wt_gt (gd_of (t := 30) (by kernel_rfl) rfl)) (by kernel_rfl) (by kernel_rfl) (by kernel_rfl) (ST.sel hS8 [0] rfl rfl) (fun hg9 w' hw' => (Y_sub (k := .i64) (a := (i : Int)) (b := 1) rfl (gv_of (B := ((!((!r_1) || (!r_2))) && (decide (0 < (i : Int))))) (v := .int .i64 (i : Int)) hg9) rfl)) ?_
        refine ra_gq 20 34 (B := ((!((!r_1) || (!r_2))) && (decide (0 < (i : Int))))) (v := pt B ((IntKind.i64.wrap ((i : Int) - 1)).toNat * 2)) rfl rfl rfl (wt_gt (gd_of (t := 30) (by kernel_rfl) rfl)) (by kernel_rfl) (by kernel_rfl) (by kernel_rfl) (ST.sel hS8 [0] rfl rfl) (fun hg10 w' hw' => (Y_index (B := B) (m := terms.length) (c := c) (k := .i64) (i := (IntKind.i64.wrap ((i : Int) - 1))) k_sl_40_112 k_sz_112_2 rfl (gv_of (B := ((!((!r_1) || (!r_2))) && (decide (0 < (i : Int))))) (v := .slice B terms.length c) hg10) (gv_of (B := ((!((!r_1) || (!r_2))) && (decide (0 < (i : Int))))) (v := .int .i64 (IntKind.i64.wrap ((i : Int) - 1))) hg10) (gi_isSome enc_Term_len rfl (ST.rf hw' (i := 0) rfl) (gb_inv hx1 hg10)) (getI_nn (gb_inv hx1 hg10)) (getI_ltI (gb_inv hx1 hg10) rfl))) ?_
        refine ra_gq 21 35 (B := ((!((!r_1) || (!r_2))) && (decide (0 < (i : Int))))) (v := pt B ((IntKind.i64.wrap ((i : Int) - 1)).toNat * 2 + 0)) rfl rfl rfl (wt_gt (gd_of (t := 30) (by kernel_rfl) rfl)) (by kernel_rfl) (by kernel_rfl) (by kernel_rfl) (ST.sel hS8 [0] rfl rfl) (fun hg11 w' hw' => (Y_fieldAddr (B := B) (i := (IntKind.i64.wrap ((i : Int) - 1)).toNat * 2) (s := 0) k_fd_112_0_0_3 k_sz_3_1 rfl (gv_of (B := ((!((!r_1) || (!r_2))) && (decide (0 < (i : Int))))) (v := pt B ((IntKind.i64.wrap ((i : Int) - 1)).toNat * 2)) hg11))) ?_
        refine ra_gq 22 36 (B := ((!((!r_1) || (!r_2))) && (decide (0 < (i : Int))))) (v := .int .i64 x1.Mask) rfl rfl rfl (wt_gt (gd_of (t := 30) (by kernel_rfl) rfl)) (by kernel_rfl) (by kernel_rfl) (by kernel_rfl) (ST.sel hS8 [0] rfl rfl) (fun hg12 w' hw' => (Y_load1 (B := B) (i := (IntKind.i64.wrap ((i : Int) - 1)).toNat * 2 + 0) (cs := (terms.flatMap enc_Term)) (v := .int .i64 x1.Mask) k_sc_3 rfl (gv_of (B := ((!((!r_1) || (!r_2))) && (decide (0 < (i : Int))))) (v := pt B ((IntKind.i64.wrap ((i : Int) - 1)).toNat * 2 + 0)) hg12) (ST.rf hw' (i := 0) rfl) (gi_at enc_Term_len (gb_inv hx1 hg12) rfl))) ?_
        refine ra_gq 23 37 (B := ((!((!r_1) || (!r_2))) && (decide (0 < (i : Int))))) (v := pt (some ⟨b, 0, none⟩) 0) rfl rfl rfl (wt_gt (gd_of (t := 30) (by kernel_rfl) rfl)) (by kernel_rfl) (by kernel_rfl) (by kernel_rfl) (ST.sel hS8 [0] rfl rfl) (fun hg13 w' hw' => (Y_fieldAddr (B := some ⟨b, 0, none⟩) (i := 0) (s := 0) k_fd_112_0_0_3 k_sz_3_1 rfl rfl)) ?_
        refine ra_gq 24 38 (B := ((!((!r_1) || (!r_2))) && (decide (0 < (i : Int))))) (v := .int .i64 x.Mask) rfl rfl rfl (wt_gt (gd_of (t := 30) (by kernel_rfl) rfl)) (by kernel_rfl) (by kernel_rfl) (by kernel_rfl) (ST.sel hS8 [0] rfl rfl) (fun hg14 w' hw' => (Y_load1 (B := some ⟨b, 0, none⟩) (i := 0) (cs := [.int .i64 x.Mask, .int .i64 x.Coef]) (v := .int .i64 x.Mask) k_sc_3 rfl (gv_of (B := ((!((!r_1) || (!r_2))) && (decide (0 < (i : Int))))) (v := pt (some ⟨b, 0, none⟩) 0) hg14) (ST.cf hw' (i := 0) rfl) rfl)) ?_
        refine ra_gq 25 39 (B := ((!((!r_1) || (!r_2))) && (decide (0 < (i : Int))))) (v := .bool (decide (x.Mask ≤ x1.Mask))) rfl rfl rfl (wt_gt (gd_of (t := 30) (by kernel_rfl) rfl)) (by kernel_rfl) (by kernel_rfl) (by kernel_rfl) (ST.sel hS8 [0] rfl rfl) (fun hg15 w' hw' => (Y_ge (k := .i64) (a := x1.Mask) (b := x.Mask) rfl (gv_of (B := ((!((!r_1) || (!r_2))) && (decide (0 < (i : Int))))) (v := .int .i64 x1.Mask) hg15) (gv_of (B := ((!((!r_1) || (!r_2))) && (decide (0 < (i : Int))))) (v := .int .i64 x.Mask) hg15))) ?_
        refine ra_gq 26 40 (B := (!((!r_1) || (!r_2)))) (v := .bool ((decide (0 < (i : Int))) && (decide (x.Mask ≤ x1.Mask)))) rfl rfl rfl (wt_f (gd_of (t := 27) (by kernel_rfl) rfl)) (by kernel_rfl) (by kernel_rfl) (by kernel_rfl) (ST.sel hS8 [0] rfl rfl) (fun hg16 w' hw' => (Y_and (b := (decide (0 < (i : Int)))) (z := (decide (x.Mask ≤ x1.Mask))) rfl (gv_of (B := (!((!r_1) || (!r_2)))) (v := .bool (decide (0 < (i : Int)))) hg16) (gv_and (B := (!((!r_1) || (!r_2)))) (C := (decide (0 < (i : Int)))) (v := .bool (decide (x.Mask ≤ x1.Mask))) hg16) rfl)) ?_
        refine ra_q 27 41 (v := .bool (((!r_1) || (!r_2)) || ((decide (0 < (i : Int))) && (decide (x.Mask ≤ x1.Mask))))) rfl rfl rfl (by kernel_rfl) (by kernel_rfl) (by kernel_rfl) (ST.sel hS8 [0] rfl rfl) (fun w' hw' => (Y_or (b := ((!r_1) || (!r_2))) (z := ((decide (0 < (i : Int))) && (decide (x.Mask ≤ x1.Mask)))) rfl rfl rfl rfl)) ?_
        refine ra_done (by kernel_rfl) ?_
        refine cw_cond (b := (((!r_1) || (!r_2)) || ((decide (0 < (i : Int))) && (decide (x.Mask ≤ x1.Mask))))) rfl (fun hb1 => ?_) (fun hb1 => ?_)
        · skip
          have hF2 := ct hb hb1
          refine cw_seq ?_
          refine cw_region ?_
          refine sq 4 rfl rfl (Y_assign (v := .bool false) rfl rfl) ?_
          refine rw_nil ?_
          refine cw_ret ?_
          obtain rfl := some_inj hF2
          obtain rfl := some_inj hL1
          obtain rfl := some_inj hF1
          exact ret1 Try.results146 (v1 := .bool false) (resAt_tmp rfl) ⟨rfl, (ST.subR (R' := []) (hS8.sel [] rfl rfl) (fun _ h => by cases h))⟩
        · skip
          have hF3 := cf' hb hb1
          refine cw_skip ?_
          refine cw_region ?_
          refine sq 42 rfl rfl (Y_add (k := .i64) (a := (i : Int)) (b := 1) rfl (hf.get 9 4 rfl) rfl) ?_
          refine sq 9 rfl rfl (Y_move (v := .int .i64 (IntKind.i64.wrap ((i : Int) + 1))) rfl rfl) ?_
          refine rw_nil ?_
          obtain rfl := some_inj hF3
          exact ⟨k_1, Nat.lt_succ_self _, i + 1, (FF.cons (hf.get 0 0 rfl) (FF.cons (hf.get 1 1 rfl) (FF.cons (hf.get 7 2 rfl) (FF.cons (hf.get 8 3 rfl) (FF.cons (congrArg (Value.int .i64) (wr_succ hlt1 hN)) FF.nil))))), (hS8.sel [] rfl rfl), (by omega), hL1⟩
      exact allR_nil
    exact allR_nil
  · skip
    obtain rfl : k_ = 0 := by have h := of_decide_eq_false hlt; omega
    refine cw_exit rfl ?_
    obtain rfl := some_inj hL
    refine cw_seq ?_
    refine cw_region ?_
    refine sq 4 rfl rfl (Y_assign (v := .bool true) rfl rfl) ?_
    refine rw_nil ?_
    refine cw_ret ?_
    obtain rfl := some_inj hF1
    exact ret1 Try.results146 (v1 := .bool true) (resAt_tmp rfl) ⟨rfl, (ST.subR (R' := []) (hS1.sel [] rfl rfl) (fun _ h => by cases h))⟩

theorem c_slices_IndexFunc_int_int (s : List Int) (f_ : Int → Option (Bool)) (B : Option Addr) (c n : Nat) (kf : Nat) (caps : Array Value) (Rf : List Ro) (w0 : World) (hn : s.length = n) (hk : callB Try.prog kf = true) (hp : ∀ (w : World), ST w [] w [] Rf → ∀ (x : Int) (y : Bool), f_ x = some y → CV Try.prog kf ((.int .i64 x) :: caps.toList).toArray w (fun v w' => v = .bool y ∧ ST w [] w' [] [])) (hS : ST w0 [] w0 [] (⟨B, (s.flatMap encI)⟩ :: Rf)) {r_ : Int} (hF : F_slices_IndexFunc_int_int s f_ = some r_) :
    CV Try.prog 209 #[.slice B n c, .func (.func kf) #[] caps] w0 (fun v w' => v = .int .i64 r_ ∧ ST w0 [] w' [] []) := by
  subst hn
  unfold F_slices_IndexFunc_int_int at hF
  refine cv_of_cw 19 Try.func209 rfl Try.ntmps209 rfl ?_
  refine cw_seq ?_
  refine cw_region ?_
  refine sq 4 rfl rfl (Y_assign (v := .int .i64 0) rfl rfl) ?_
  refine rw_nil ?_
  refine cw_seq ?_
  refine cw_seq ?_
  refine cw_region ?_
  refine sq 6 rfl rfl (Y_move (v := .slice B s.length c) rfl rfl) ?_
  refine sq 7 rfl rfl (Y_len (B := B) (m := s.length) (c := c) k_sl_34_3 rfl rfl) ?_
  refine sq 8 rfl rfl (Y_move (v := .int .i64 0) rfl rfl) ?_
  refine rw_nil ?_
  obtain ⟨hN, hF⟩ := chk_inv hF
  obtain ⟨z, hz, hF1⟩ := bind_inv hF
  refine cw_block ?_
  refine cw_loop (fun k f w => ∃ (i : Nat), FF f [(0, .slice B s.length c), (1, .func (.func kf) #[] caps), (7, .int .i64 (s.length : Int)), (8, .int .i64 (i : Int))] ∧ ST w0 [] w [] (⟨B, (s.flatMap encI)⟩ :: Rf) ∧ i + k = s.length ∧ forX (F_slices_IndexFunc_int_int_l1 s f_) k i () = some z) s.length ⟨0, (FF.cons rfl (FF.cons rfl (FF.cons rfl (FF.cons rfl FF.nil)))), (hS.sel [] rfl rfl), Nat.zero_add _, hz⟩ ?_
  rintro k_ f w ⟨i, hf, hS1, hik, hL⟩
  refine cw_seq ?_
  refine cw_region ?_
  refine sq 9 rfl rfl (Y_lt (k := .i64) (a := (i : Int)) (b := (s.length : Int)) rfl (hf.get 8 3 rfl) (hf.get 7 2 rfl)) ?_
  refine rw_nil ?_
  refine cw_seq ?_
  refine cw_cond (b := (decide ((i : Int) < (s.length : Int)))) rfl (fun hlt => ?_) (fun hlt => ?_)
  · skip
    have hlt1 : i < s.length := by have h := of_decide_eq_true hlt; omega
    obtain ⟨k_1, rfl⟩ : ∃ k2, k_ = k2 + 1 := ⟨k_ - 1, by omega⟩
    obtain ⟨y1, hb, hL1⟩ := forX_go hL
    unfold F_slices_IndexFunc_int_int_l1 at hb
    refine cw_skip ?_
    refine cw_seq ?_
    refine cw_block ?_
    refine cw_seq ?_
    refine cw_region ?_
    refine sq 10 rfl rfl (Y_move (v := .int .i64 (i : Int)) rfl (hf.get 8 3 rfl)) ?_
    refine sq 5 rfl rfl (Y_assign (v := .int .i64 (i : Int)) rfl rfl) ?_
    refine rw_nil ?_
    refine cw_seq ?_
    refine cw_region ?_
    refine sq 11 rfl rfl (Y_move (v := .func (.func kf) #[] caps) rfl (hf.get 1 1 rfl)) ?_
    refine sq 12 rfl rfl (Y_move (v := .slice B s.length c) rfl (hf.get 0 0 rfl)) ?_
    refine sq 13 rfl rfl (Y_move (v := .int .i64 (i : Int)) rfl rfl) ?_
    obtain ⟨x1, hx, hb⟩ := bind_inv hb
    refine sq 14 rfl rfl (Y_index (B := B) (m := s.length) (c := c) (k := .i64) (i := (i : Int)) k_sl_34_3 k_sz_3_1 rfl rfl rfl (gi_isSome encI_len rfl (hS1.rf (i := 0) rfl) hx) (getI_nn hx) (getI_ltI hx rfl)) ?_
    refine sq 15 rfl rfl (Y_load1 (B := B) (i := (i : Int).toNat * 1) (cs := (s.flatMap encI)) (v := .int .i64 x1) k_sc_3 rfl rfl (hS1.rf (i := 0) rfl) (gi_at0 encI_len hx rfl)) ?_
    obtain ⟨r_1, hc, hb⟩ := bind_inv hb
    refine sc 16 rfl rfl (Yc_clos (g := kf) (vs := (.int .i64 x1) :: caps.toList) hk rfl rfl (clo_args (mc rfl mn)) (hp _ (hS1.innS (fun _ h => List.mem_of_mem_drop (i := 1) h)) x1 r_1 hc)) ?_
    rintro _ w_ ⟨rfl, hd⟩
    have hS2 := hS1.out00 hd
    refine rw_nil ?_
    refine cw_cond (b := r_1) rfl (fun hb1 => ?_) (fun hb1 => ?_)
    · skip
      have hF2 := ct hb hb1
      refine cw_seq ?_
      refine cw_region ?_
      refine sq 17 rfl rfl (Y_move (v := .int .i64 (i : Int)) rfl rfl) ?_
      refine sq 4 rfl rfl (Y_assign (v := .int .i64 (i : Int)) rfl rfl) ?_
      refine rw_nil ?_
      refine cw_ret ?_
      obtain rfl := some_inj hF2
      obtain rfl := some_inj hL1
      obtain rfl := some_inj hF1
      exact ret1 Try.results209 (v1 := .int .i64 (i : Int)) (resAt_tmp rfl) ⟨rfl, (ST.subR (R' := []) (hS2.sel [] rfl rfl) (fun _ h => by cases h))⟩
    · skip
      have hF3 := cf' hb hb1
      refine cw_skip ?_
      refine cw_region ?_
      refine sq 18 rfl rfl (Y_add (k := .i64) (a := (i : Int)) (b := 1) rfl (hf.get 8 3 rfl) rfl) ?_
      refine sq 8 rfl rfl (Y_move (v := .int .i64 (IntKind.i64.wrap ((i : Int) + 1))) rfl rfl) ?_
      refine rw_nil ?_
      obtain rfl := some_inj hF3
      exact ⟨k_1, Nat.lt_succ_self _, i + 1, (FF.cons (hf.get 0 0 rfl) (FF.cons (hf.get 1 1 rfl) (FF.cons (hf.get 7 2 rfl) (FF.cons (congrArg (Value.int .i64) (wr_succ hlt1 hN)) FF.nil)))), (hS2.sel [] rfl rfl), (by omega), hL1⟩
  · skip
    obtain rfl : k_ = 0 := by have h := of_decide_eq_false hlt; omega
    refine cw_exit rfl ?_
    obtain rfl := some_inj hL
    refine cw_seq ?_
    refine cw_region ?_
    refine sq 4 rfl rfl (Y_assign (v := .int .i64 (-1)) rfl rfl) ?_
    refine rw_nil ?_
    refine cw_ret ?_
    obtain rfl := some_inj hF1
    exact ret1 Try.results209 (v1 := .int .i64 (-1)) (resAt_tmp rfl) ⟨rfl, (ST.subR (R' := []) (hS1.sel [] rfl rfl) (fun _ h => by cases h))⟩

theorem c_slices_ContainsFunc_int_int (s : List Int) (f_ : Int → Option (Bool)) (B : Option Addr) (c n : Nat) (kf : Nat) (caps : Array Value) (Rf : List Ro) (w0 : World) (hn : s.length = n) (hk : callB Try.prog kf = true) (hp : ∀ (w : World), ST w [] w [] Rf → ∀ (x : Int) (y : Bool), f_ x = some y → CV Try.prog kf ((.int .i64 x) :: caps.toList).toArray w (fun v w' => v = .bool y ∧ ST w [] w' [] [])) (hS : ST w0 [] w0 [] (⟨B, (s.flatMap encI)⟩ :: Rf)) {r_ : Bool} (hF : F_slices_ContainsFunc_int_int s f_ = some r_) :
    CV Try.prog 193 #[.slice B n c, .func (.func kf) #[] caps] w0 (fun v w' => v = .bool r_ ∧ ST w0 [] w' [] []) := by
  subst hn
  unfold F_slices_ContainsFunc_int_int at hF
  refine cv_of_cw 9 Try.func193 rfl Try.ntmps193 rfl ?_
  refine cw_seq ?_
  refine cw_region ?_
  refine sq 4 rfl rfl (Y_assign (v := .bool false) rfl rfl) ?_
  refine rw_nil ?_
  refine cw_seq ?_
  refine cw_region ?_
  refine sq 5 rfl rfl (Y_move (v := .slice B s.length c) rfl rfl) ?_
  refine sq 6 rfl rfl (Y_move (v := .func (.func kf) #[] caps) rfl rfl) ?_
  obtain ⟨r_1, hc, hF⟩ := bind_inv hF
  refine sc 7 rfl rfl (Yc_func (g := 209) (vs := [.slice B s.length c, .func (.func kf) #[] caps]) k_call_209 rfl (mc rfl (mc rfl mn)) (c_slices_IndexFunc_int_int s f_ B c s.length kf caps Rf _ rfl hk hp (hS.innS (subc (mem_at (i := 0) rfl) (fun _ h => List.mem_of_mem_drop (i := 1) h))) hc)) ?_
  rintro _ w_ ⟨rfl, hd⟩
  have hS1 := hS.out00 hd
  refine sq 8 rfl rfl (Y_ge (k := .i64) (a := r_1) (b := 0) rfl rfl rfl) ?_
  refine sq 4 rfl rfl (Y_assign (v := .bool (decide (0 ≤ r_1))) rfl rfl) ?_
  refine rw_nil ?_
  refine cw_ret ?_
  obtain rfl := some_inj hF
  exact ret1 Try.results193 (v1 := .bool (decide (0 ≤ r_1))) (resAt_tmp rfl) ⟨rfl, (ST.subR (R' := []) (hS1.sel [] rfl rfl) (fun _ h => by cases h))⟩

theorem c_impl_IsValidLinear_1 (row : Int) (p : Int) (B : Option Addr) (w0 : World)  (hS : ST w0 [] w0 [] [⟨B, [.int .i64 p]⟩]) {r_ : Bool} (hF : F_impl_IsValidLinear_1 row p = some r_) :
    CV Try.prog 194 #[.int .i64 row, pt B 0] w0 (fun v w' => v = .bool r_ ∧ ST w0 [] w' [] []) := by
  unfold F_impl_IsValidLinear_1 at hF
  refine cv_of_cw 10 Try.func194 rfl Try.ntmps194 rfl ?_
  refine cw_seq ?_
  refine cw_region ?_
  refine sq 3 rfl rfl (Y_assign (v := .bool false) rfl rfl) ?_
  refine rw_nil ?_
  refine cw_seq ?_
  refine cw_region ?_
  refine sq 4 rfl rfl (Y_move (v := .int .i64 row) rfl rfl) ?_
  refine sq 5 rfl rfl (Y_load1 (B := B) (i := 0) (cs := [.int .i64 p]) (v := .int .i64 p) k_sc_3 rfl rfl (hS.rf (i := 0) rfl) rfl) ?_
  obtain ⟨hsh, hF⟩ := chk_inv hF
  refine sq 6 rfl rfl (Y_shl (k := .i64) (a := 1) (k' := .i64) (b := p) rfl rfl rfl hsh) ?_
  refine sq 7 rfl rfl (Y_sub (k := .i64) (a := (shlK .i64 1 p)) (b := 1) rfl rfl rfl) ?_
  obtain ⟨r_1, hc, hF⟩ := bind_inv hF
  refine sc 8 rfl rfl (Yc_func (g := 145) (vs := [.int .i64 row, .int .i64 0, .int .i64 (IntKind.i64.wrap ((shlK .i64 1 p) - 1))]) k_call_145 rfl (mc rfl (mc rfl (mc rfl mn))) (c_impl_within row 0 (IntKind.i64.wrap ((shlK .i64 1 p) - 1)) _  (hS.inn0 [] rfl) hc)) ?_
  rintro _ w_ ⟨rfl, hd⟩
  have hS1 := hS.out00 hd
  refine sq 9 rfl rfl (Y_not (p := r_1) rfl rfl) ?_
  refine sq 3 rfl rfl (Y_assign (v := .bool (!r_1)) rfl rfl) ?_
  refine rw_nil ?_
  refine cw_ret ?_
  obtain rfl := some_inj hF
  exact ret1 Try.results194 (v1 := .bool (!r_1)) (resAt_tmp rfl) ⟨rfl, (ST.subR (R' := []) (hS1.sel [] rfl rfl) (fun _ h => by cases h))⟩

theorem c_slices_Clone_int_int (s : List Int) (B : Option Addr) (c n : Nat) (w0 : World) (hn : s.length = n) (hS : ST w0 [] w0 [] [⟨B, (s.flatMap encI)⟩]) {r_ : List Int} (hF : F_slices_Clone_int_int s = some r_) :
    CV Try.prog 205 #[.slice B n c] w0 (fun v w' => ∃ (B1 : Option Addr) (c1 : Nat), v = .slice B1 r_.length c1 ∧ ST w0 [] w' [⟨B1, 3, (r_.flatMap encI), c1 * 1⟩] []) := by
  subst hn
  unfold F_slices_Clone_int_int at hF
  refine cv_of_cw 8 Try.func205 rfl Try.ntmps205 rfl ?_
  refine cw_seq ?_
  refine cw_region ?_
  refine sq 2 rfl rfl (Y_assign (v := .slice none 0 0) rfl rfl) ?_
  refine rw_nil ?_
  refine cw_seq ?_
  refine cw_seq ?_
  refine cw_region ?_
  refine sq 3 rfl rfl (Y_move (v := .slice B s.length c) rfl rfl) ?_
  refine sq 4 rfl rfl (Y_nileql (B := B) (m := s.length) (c := c) k_sl_34_3 rfl rfl rfl) ?_
  refine rw_nil ?_
  refine cw_cond (b := B.isNone) rfl (fun hb => ?_) (fun hb => ?_)
  · skip
    have hl : s = [] := nil_cont encI_len (hS.rf (i := 0) rfl) rfl hb
    rw [hl] at hF
    have hF1 : (some ([])) = some r_ := by simpa [chk] using hF
    subst hl
    refine cw_seq ?_
    refine cw_region ?_
    refine sq 2 rfl rfl (Y_assign (v := .slice none 0 0) rfl rfl) ?_
    refine rw_nil ?_
    refine cw_ret ?_
    have hS1 := hS.addNil 3
    obtain rfl := some_inj hF1
    exact ret1 Try.results205 (v1 := .slice none 0 0) (resAt_tmp rfl) ⟨none, 0, rfl, (ST.subR (R' := []) (hS1.sel [0] rfl rfl) (fun _ h => by cases h))⟩
  · skip
    refine cw_skip ?_
    refine cw_seq ?_
    refine cw_region ?_
    refine ss 5 rfl rfl (Ys_bslice0 (s := 1) (e := 3) hS k_sl_34_3 k_sz_3_1 rfl) ?_
    rintro _ w_ ⟨b, rfl, hS2⟩
    refine sq 6 rfl rfl (Y_move (v := .slice B s.length c) rfl rfl) ?_
    obtain ⟨hap, hF⟩ := chk_inv hF
    refine ss 7 rfl rfl (Ys_append (s := 1) (by' := 8) (i := 0) (nn := 0) (c := 0) (k := s.length) (len := s.length) (B := some ⟨b, 0, none⟩) (xs := (s.flatMap encI)) (cs' := (s.flatMap encI)) hS2 k_sl_34_3 k_sz_3_1 k_by_3_8 k_zero_3 rfl (by decide) rfl rfl rfl rfl (fm_lenn (l := []) encI_len rfl) rfl (hS2.rf (i := 0) rfl) (fm_lenn (l := s) encI_len rfl) (fm_one' (enc := encI) encI_one s) (by have := hap; omega) (by have := hap; simp only [maxLen]; omega) rfl (app_len0 (l := s) rfl)) ?_
    rintro _ w_1 ⟨B2, c2, rfl, hS3⟩
    refine sq 2 rfl rfl (Y_assign (v := .slice B2 s.length c2) rfl rfl) ?_
    refine rw_nil ?_
    refine cw_ret ?_
    obtain rfl := some_inj hF
    exact ret1 Try.results205 (v1 := .slice B2 s.length c2) (resAt_tmp rfl) ⟨B2, c2, rfl, (ST.subR (R' := []) (hS3.sel [0] rfl rfl) (fun _ h => by cases h))⟩

theorem c_impl_rankOf_1 (row : Int) (p : Int) (B : Option Addr) (w0 : World)  (hS : ST w0 [] w0 [] [⟨B, [.int .i64 p]⟩]) {r_ : Bool} (hF : F_impl_rankOf_1 row p = some r_) :
    CV Try.prog 210 #[.int .i64 row, pt B 0] w0 (fun v w' => v = .bool r_ ∧ ST w0 [] w' [] []) := by
  unfold F_impl_rankOf_1 at hF
  refine cv_of_cw 9 Try.func210 rfl Try.ntmps210 rfl ?_
  refine cw_seq ?_
  refine cw_region ?_
  refine sq 3 rfl rfl (Y_assign (v := .bool false) rfl rfl) ?_
  refine rw_nil ?_
  refine cw_seq ?_
  refine cw_region ?_
  refine sq 4 rfl rfl (Y_move (v := .int .i64 row) rfl rfl) ?_
  refine sq 5 rfl rfl (Y_load1 (B := B) (i := 0) (cs := [.int .i64 p]) (v := .int .i64 p) k_sc_3 rfl rfl (hS.rf (i := 0) rfl) rfl) ?_
  obtain ⟨hsh, hF⟩ := chk_inv hF
  refine sq 6 rfl rfl (Y_shr (k := .i64) (a := row) (k' := .i64) (b := p) rfl rfl rfl hsh) ?_
  refine sq 7 rfl rfl (Y_band (k := .i64) (a := (shrK .i64 row p)) (b := 1) rfl rfl rfl) ?_
  refine sq 8 rfl rfl (Y_eq (k := .i64) (a := (bits .and .i64 (shrK .i64 row p) 1)) (b := 1) rfl rfl rfl) ?_
  refine sq 3 rfl rfl (Y_assign (v := .bool ((bits .and .i64 (shrK .i64 row p) 1) == 1)) rfl rfl) ?_
  refine rw_nil ?_
  refine cw_ret ?_
  obtain rfl := some_inj hF
  exact ret1 Try.results210 (v1 := .bool ((bits .and .i64 (shrK .i64 row p) 1) == 1)) (resAt_tmp rfl) ⟨rfl, (ST.subR (R' := []) (hS.sel [] rfl rfl) (fun _ h => by cases h))⟩

theorem c_slices_Delete_int_int (s : List Int) (i : Int) (j : Int) (B : Option Addr) (c n : Nat) (w0 : World) (hn : s.length = n) (hS : ST w0 (bl [⟨B, 3, (s.flatMap encI), c * 1⟩]) w0 [⟨B, 3, (s.flatMap encI), c * 1⟩] []) {r_ : List Int} (hF : F_slices_Delete_int_int s i j = some r_) :
    CV Try.prog 211 #[.slice B n c, .int .i64 i, .int .i64 j] w0 (fun v w' => ∃ (B1 : Option Addr) (c1 : Nat), v = .slice B1 r_.length c1 ∧ ST w0 (bl [⟨B, 3, (s.flatMap encI), c * 1⟩]) w' [⟨B1, 3, (r_.flatMap encI), c1 * 1⟩] []) := by
  subst hn
  unfold F_slices_Delete_int_int at hF
  refine cv_of_cw 33 Try.func211 rfl Try.ntmps211 rfl ?_
  refine cw_seq ?_
  refine cw_region ?_
  refine sq 6 rfl rfl (Y_assign (v := .slice none 0 0) rfl rfl) ?_
  refine rw_nil ?_
  refine cw_seq ?_
  refine cw_region ?_
  refine sq 8 rfl rfl (Y_move (v := .slice B s.length c) rfl rfl) ?_
  refine sq 9 rfl rfl (Y_move (v := .int .i64 i) rfl rfl) ?_
  refine sq 10 rfl rfl (Y_move (v := .int .i64 j) rfl rfl) ?_
  refine sq 11 rfl rfl (Y_move (v := .slice B s.length c) rfl rfl) ?_
  refine sq 12 rfl rfl (Y_len (B := B) (m := s.length) (c := c) k_sl_34_3 rfl rfl) ?_
  obtain ⟨hsl, hF⟩ := chk_inv hF
  have hcap : s.length ≤ c := hS.lencap (i := 0) rfl (fm_lenn (l := s) encI_len rfl) rfl rfl
  refine sq 13 rfl rfl (Y_slice (B := B) (m := s.length) (c := c) (l := i.toNat) (h := j.toNat) (q := s.length) (s := 1) k_sl_34_3 k_sz_3_1 rfl rfl ⟨_, _, rfl, rfl⟩ ⟨_, _, rfl, (Int.toNat_of_nonneg (by omega)).symm⟩ ⟨_, _, rfl, (Int.toNat_of_nonneg (by omega)).symm⟩ rfl (by omega) (by omega) (by omega)) ?_
  refine rw_nil ?_
  refine cw_seq ?_
  refine cw_seq ?_
  refine cw_region ?_
  refine sq 14 rfl rfl (Y_move (v := .int .i64 i) rfl rfl) ?_
  refine sq 15 rfl rfl (Y_move (v := .int .i64 j) rfl rfl) ?_
  refine sq 16 rfl rfl (Y_eq (k := .i64) (a := i) (b := j) rfl rfl rfl) ?_
  refine rw_nil ?_
  refine cw_cond (b := (i == j)) rfl (fun hb => ?_) (fun hb => ?_)
  · skip
    have hF1 := ct hF hb
    refine cw_seq ?_
    refine cw_region ?_
    refine sq 17 rfl rfl (Y_move (v := .slice B s.length c) rfl rfl) ?_
    refine sq 6 rfl rfl (Y_assign (v := .slice B s.length c) rfl rfl) ?_
    refine rw_nil ?_
    refine cw_ret ?_
    obtain rfl := some_inj hF1
    exact ret1 Try.results211 (v1 := .slice B s.length c) (resAt_tmp rfl) ⟨B, c, rfl, (ST.subR (R' := []) (hS.sel [0] rfl rfl) (fun _ h => by cases h))⟩
  · skip
    have hF2 := cf' hF hb
    refine cw_skip ?_
    refine cw_seq ?_
    refine cw_region ?_
    refine sq 18 rfl rfl (Y_move (v := .slice B s.length c) rfl rfl) ?_
    refine sq 19 rfl rfl (Y_len (B := B) (m := s.length) (c := c) k_sl_34_3 rfl rfl) ?_
    refine sq 7 rfl rfl (Y_assign (v := .int .i64 (s.length : Int)) rfl rfl) ?_
    refine rw_nil ?_
    refine cw_seq ?_
    obtain ⟨hij, hF2⟩ := chk_inv hF2
    refine ra_start (ST.sel hS [] rfl rfl).fn (by kernel_rfl) ?_
    have hS1 := hS.drew
    refine ra_q 0 20 (v := .slice B s.length c) rfl rfl rfl (by kernel_rfl) (by kernel_rfl) (by kernel_rfl) (ST.sel hS1 [] rfl rfl) (fun w' hw' => (Y_move (v := .slice B s.length c) rfl rfl)) ?_
    refine ra_q 1 21 (v := .int .i64 i) rfl rfl rfl (by kernel_rfl) (by kernel_rfl) (by kernel_rfl) (ST.sel hS1 [] rfl rfl) (fun w' hw' => (Y_move (v := .int .i64 i) rfl rfl)) ?_
    refine ra_q 2 22 (v := .slice (sv B 0 c 1) (i.toNat - 0) (c - 0)) rfl rfl rfl (by kernel_rfl) (by kernel_rfl) (by kernel_rfl) (ST.sel hS1 [] rfl rfl) (fun w' hw' => (Y_slice (B := B) (m := s.length) (c := c) (l := 0) (h := i.toNat) (q := c) (s := 1) k_sl_34_3 k_sz_3_1 rfl rfl rfl ⟨_, _, rfl, (Int.toNat_of_nonneg (by omega)).symm⟩ rfl rfl (by omega) (by omega) (by omega))) ?_
    refine ra_q 3 23 (v := .slice B s.length c) rfl rfl rfl (by kernel_rfl) (by kernel_rfl) (by kernel_rfl) (ST.sel hS1 [] rfl rfl) (fun w' hw' => (Y_move (v := .slice B s.length c) rfl rfl)) ?_
    refine ra_q 4 24 (v := .int .i64 j) rfl rfl rfl (by kernel_rfl) (by kernel_rfl) (by kernel_rfl) (ST.sel hS1 [] rfl rfl) (fun w' hw' => (Y_move (v := .int .i64 j) rfl rfl)) ?_
    refine ra_q 5 25 (v := .slice (sv B j.toNat c 1) (s.length - j.toNat) (c - j.toNat)) rfl rfl rfl (by kernel_rfl) (by kernel_rfl) (by kernel_rfl) (ST.sel hS1 [] rfl rfl) (fun w' hw' => (Y_slice (B := B) (m := s.length) (c := c) (l := j.toNat) (h := s.length) (q := c) (s := 1) k_sl_34_3 k_sz_3_1 rfl rfl rfl rfl ⟨_, _, rfl, (Int.toNat_of_nonneg (by omega)).symm⟩ rfl (by omega) (by omega) (by omega))) ?_
    refine ra_all (rs := [6]) (by kernel_rfl) rfl ?_
    refine ra_s 26 (i := 6) rfl rfl rfl (Ys_cut (enc := encI) (s := 1) (k := 0) (i := i.toNat) (j := j.toNat) (m := s.length) (c := c) (B := B) (l := s) hS1 k_sl_34_3 k_sz_3_1 rfl rfl rfl rfl rfl rfl encI_len encI_one (by omega) (by omega)) ?_ ?_
    · rintro _ w_ ⟨rfl, hS2⟩
      refine ⟨(ST.sel hS2 [] rfl rfl), ?_⟩
      refine ra_q 7 0 (v := .slice B (i.toNat + (s.length - j.toNat)) c) rfl rfl rfl (by kernel_rfl) (by kernel_rfl) (by kernel_rfl) (ST.sel hS2 [] rfl rfl) (fun w' hw' => (Y_assign (v := .slice B (i.toNat + (s.length - j.toNat)) c) rfl rfl)) ?_
      refine ra_done (by kernel_rfl) ?_
      refine cw_seq ?_
      refine cw_region ?_
      refine sq 27 rfl rfl (Y_move (v := .slice B (i.toNat + (s.length - j.toNat)) c) rfl rfl) ?_
      refine sq 28 rfl rfl (Y_move (v := .slice B (i.toNat + (s.length - j.toNat)) c) rfl rfl) ?_
      refine sq 29 rfl rfl (Y_len (B := B) (m := (i.toNat + (s.length - j.toNat))) (c := c) k_sl_34_3 rfl rfl) ?_
      refine sq 30 rfl rfl (Y_move (v := .int .i64 (s.length : Int)) rfl rfl) ?_
      refine sq 31 rfl rfl (Y_slice (B := B) (m := (i.toNat + (s.length - j.toNat))) (c := c) (l := (i.toNat + (s.length - j.toNat))) (h := s.length) (q := c) (s := 1) k_sl_34_3 k_sz_3_1 rfl rfl rfl ⟨_, _, rfl, rfl⟩ ⟨_, _, rfl, rfl⟩ rfl (by omega) (by omega) (by omega)) ?_
      refine ss0 rfl rfl (Ys_clear (s := 1) (k := 0) (p := (i.toNat + (s.length - j.toNat))) (h := s.length) (c := c) (m := c * 1) (B := B) (cs := ((List.take i.toNat s ++ List.drop j.toNat s).flatMap encI)) (z := .int .i64 0) hS2 k_sl_34_3 k_sz_3_1 rfl k_zero_3 rfl rfl rfl rfl rfl (fm_lenn (l := (List.take i.toNat s ++ List.drop j.toNat s)) encI_len (cut_len rfl (by omega))) rfl (by omega) (by omega)) ?_
      rintro _ w_1 ⟨rfl, hS3⟩
      refine rw_nil ?_
      refine cw_seq ?_
      refine cw_region ?_
      refine sq 32 rfl rfl (Y_move (v := .slice B (i.toNat + (s.length - j.toNat)) c) rfl rfl) ?_
      refine sq 6 rfl rfl (Y_assign (v := .slice B (i.toNat + (s.length - j.toNat)) c) rfl rfl) ?_
      refine rw_nil ?_
      refine cw_ret ?_
      obtain rfl := some_inj hF2
      exact ret1 Try.results211 (v1 := .slice B (i.toNat + (s.length - j.toNat)) c) (resAt_tmp rfl) ⟨B, c, (sl_eqv (cut_len rfl (by omega))), (ST.subR (R' := []) (hS3.sel [0] rfl rfl) (fun _ h => by cases h))⟩
    exact allR_nil

theorem c_impl_rankOf (rows : List Int) (B : Option Addr) (c n : Nat) (w0 : World) (hn : rows.length = n) (hS : ST w0 [] w0 [] [⟨B, (rows.flatMap encI)⟩]) {r_ : Int} (hF : F_impl_rankOf rows = some r_) :
    CV Try.prog 195 #[.slice B n c] w0 (fun v w' => v = .int .i64 r_ ∧ ST w0 [] w' [] []) := by
  subst hn
  unfold F_impl_rankOf at hF
  refine cv_of_cw 52 Try.func195 rfl Try.ntmps195 rfl ?_
  refine cw_seq ?_
  refine cw_region ?_
  refine sq 2 rfl rfl (Y_assign (v := .int .i64 0) rfl rfl) ?_
  refine rw_nil ?_
  refine cw_seq ?_
  refine cw_region ?_
  refine sq 10 rfl rfl (Y_move (v := .slice B rows.length c) rfl rfl) ?_
  obtain ⟨r_1, hc, hF⟩ := bind_inv hF
  refine sc 11 rfl rfl (Yc_func (g := 205) (vs := [.slice B rows.length c]) k_call_205 rfl (mc rfl mn) (c_slices_Clone_int_int rows B c rows.length _ rfl (hS.inn0 [(true, 0)] rfl) hc)) ?_
  rintro _ w_ ⟨B1, c1, rfl, hd⟩
  have hS1 := hS.out0 hd
  refine sq 3 rfl rfl (Y_assign (v := .slice B1 r_1.length c1) rfl rfl) ?_
  refine sq 4 rfl rfl (Y_assign (v := .int .i64 0) rfl rfl) ?_
  refine rw_nil ?_
  refine cw_seq ?_
  refine cw_seq ?_
  refine cw_region ?_
  refine sq 12 rfl rfl (Y_move (v := .int .i64 0) rfl rfl) ?_
  refine rw_nil ?_
  obtain ⟨z, hz, hF1⟩ := bind_inv hF
  refine cw_block ?_
  refine cw_loop (fun k f w => ∃ (i : Nat) (left : List Int) (rank : Int) (B2 : Option Addr) (c2 : Nat), FF f [(3, .slice B2 left.length c2), (4, .int .i64 rank), (12, .int .i64 (i : Int))] ∧ ST w0 [] w [⟨B2, 3, (left.flatMap encI), c2 * 1⟩] [⟨B, (rows.flatMap encI)⟩] ∧ i + k = 10 ∧ forN F_impl_rankOf_l1 k i (left, rank) = some z) 10 ⟨0, r_1, 0, B1, c1, (FF.cons rfl (FF.cons rfl (FF.cons rfl FF.nil))), (hS1.sel [0] rfl rfl), Nat.zero_add _, hz⟩ ?_
  rintro k_ f w ⟨i, left, rank, B2, c2, hf, hS2, hik, hL⟩
  refine cw_seq ?_
  refine cw_region ?_
  refine sq 13 rfl rfl (Y_lt (k := .i64) (a := (i : Int)) (b := 10) rfl (hf.get 12 2 rfl) rfl) ?_
  refine rw_nil ?_
  refine cw_seq ?_
  refine cw_cond (b := (decide ((i : Int) < 10))) rfl (fun hlt => ?_) (fun hlt => ?_)
  · skip
    have hlt1 : i < 10 := by have h := of_decide_eq_true hlt; omega
    obtain ⟨k_1, rfl⟩ : ∃ k2, k_ = k2 + 1 := ⟨k_ - 1, by omega⟩
    obtain ⟨y, hb, hL1⟩ := forN_go hL
    unfold F_impl_rankOf_l1 at hb
    refine cw_skip ?_
    refine cw_seq ?_
    obtain ⟨z1, hz1, hF2⟩ := bind_inv hb
    refine cw_mid (fun f w => ∃ (left1 : List Int) (rank1 : Int) (B3 : Option Addr) (c3 : Nat), (left1, rank1) = z1 ∧ FF f [(3, .slice B3 left1.length c3), (4, .int .i64 rank1), (12, .int .i64 (i : Int))] ∧ ST w0 [] w [⟨B3, 3, (left1.flatMap encI), c3 * 1⟩] [⟨B, (rows.flatMap encI)⟩]) ?_ ?_
    · skip
      refine cw_block ?_
      refine cw_seq ?_
      refine cw_region ?_
      refine sq 14 rfl rfl (Y_move (v := .int .i64 (i : Int)) rfl (hf.get 12 2 rfl)) ?_
      refine ss 5 rfl rfl (Ys_alloc (T := 3) (cs := [.int .i64 0]) (m := 1) hS2 k_zero_3 rfl rfl rfl) ?_
      rintro _ w_1 ⟨b, rfl, hS4⟩
      have hS4 : ST w0 [] _ [⟨B2, 3, (left.flatMap encI), c2 * 1⟩, ⟨some ⟨b, 0, none⟩, 3, [.int .i64 0], 1⟩] [⟨B, (rows.flatMap encI)⟩] := hS4
      refine ss0 rfl rfl (Ys_store (i := 1) (s := 1) (B := some ⟨b, 0, none⟩) (T' := 3) (v := .int .i64 (i : Int)) (vs := [.int .i64 (i : Int)]) (k := 0) (cs' := [.int .i64 (i : Int)]) hS4 k_sz_3_1 rfl rfl rfl rfl rfl rfl rfl (Nat.le_of_ble_eq_true rfl) rfl rfl) ?_
      rintro _ w_2 ⟨rfl, hS5⟩
      have hS5 : ST w0 [] _ [⟨B2, 3, (left.flatMap encI), c2 * 1⟩, ⟨some ⟨b, 0, none⟩, 3, [.int .i64 (i : Int)], 1⟩] [⟨B, (rows.flatMap encI)⟩] := hS5
      refine rw_nil ?_
      refine cw_seq ?_
      refine cw_region ?_
      refine sq 15 rfl rfl (Y_move (v := .slice B2 left.length c2) rfl (hf.get 3 0 rfl)) ?_
      refine sq 16 rfl rfl (Y_makeFunc (cs := [pt (some ⟨b, 0, none⟩) 0]) rfl rfl (mc rfl mn)) ?_
      obtain ⟨r_2, hc1, hz1⟩ := bind_inv hz1
      refine sc 17 rfl rfl (Yc_func (g := 209) (vs := [.slice B2 left.length c2, .func (.func 210) #[] #[pt (some ⟨b, 0, none⟩) 0]]) k_call_209 rfl (mc rfl (mc rfl mn)) (c_slices_IndexFunc_int_int left (fun x_0 => F_impl_rankOf_1 x_0 (i : Int)) B2 c2 left.length 210 (#[pt (some ⟨b, 0, none⟩) 0]) [⟨some ⟨b, 0, none⟩, [.int .i64 (i : Int)]⟩] _ rfl k_call_210 (fun w hw x_0 y_0 h_ => c_impl_rankOf_1 x_0 (i : Int) (some ⟨b, 0, none⟩) w  hw h_) (hS5.inn0 [(false, 0), (false, 1)] rfl) hc1)) ?_
      rintro _ w_3 ⟨rfl, hd1⟩
      have hS6 := hS5.out00 hd1
      have hS6 : ST w0 [] _ [⟨B2, 3, (left.flatMap encI), c2 * 1⟩, ⟨some ⟨b, 0, none⟩, 3, [.int .i64 (i : Int)], 1⟩] [⟨B, (rows.flatMap encI)⟩] := hS6
      refine sq 6 rfl rfl (Y_assign (v := .int .i64 r_2) rfl rfl) ?_
      refine rw_nil ?_
      refine cw_seq ?_
      refine cw_seq ?_
      refine cw_region ?_
      refine sq 18 rfl rfl (Y_move (v := .int .i64 r_2) rfl rfl) ?_
      refine sq 19 rfl rfl (Y_lt (k := .i64) (a := r_2) (b := 0) rfl rfl rfl) ?_
      refine rw_nil ?_
      refine cw_cond (b := (decide (r_2 < 0))) rfl (fun hb1 => ?_) (fun hb1 => ?_)
      · skip
        have hF3 := ct hz1 hb1
        refine cw_exit rfl ?_
        exact ⟨left, rank, B2, c2, (some_inj hF3), (FF.cons (hf.get 3 0 rfl) (FF.cons (hf.get 4 1 rfl) (FF.cons (hf.get 12 2 rfl) FF.nil))), (hS6.sel [0] rfl rfl)⟩
      · skip
        have hF4 := cf' hz1 hb1
        refine cw_skip ?_
        refine cw_seq ?_
        refine cw_region ?_
        refine sq 20 rfl rfl (Y_move (v := .slice B2 left.length c2) rfl (hf.get 3 0 rfl)) ?_
        refine sq 21 rfl rfl (Y_move (v := .int .i64 r_2) rfl rfl) ?_
        obtain ⟨x, hx, hF4⟩ := bind_inv hF4
        refine sq 22 rfl rfl (Y_index (B := B2) (m := left.length) (c := c2) (k := .i64) (i := r_2) k_sl_34_3 k_sz_3_1 rfl rfl rfl (gi_isSome encI_len rfl (hS6.cf (i := 0) rfl) hx) (getI_nn hx) (getI_ltI hx rfl)) ?_
        refine sq 23 rfl rfl (Y_load1 (B := B2) (i := r_2.toNat * 1) (cs := (left.flatMap encI)) (v := .int .i64 x) k_sc_3 rfl rfl (hS6.cf (i := 0) rfl) (gi_at0 encI_len hx rfl)) ?_
        refine sq 7 rfl rfl (Y_assign (v := .int .i64 x) rfl rfl) ?_
        refine rw_nil ?_
        refine cw_seq ?_
        refine cw_region ?_
        refine sq 24 rfl rfl (Y_move (v := .slice B2 left.length c2) rfl (hf.get 3 0 rfl)) ?_
        refine sq 25 rfl rfl (Y_move (v := .int .i64 r_2) rfl rfl) ?_
        refine sq 26 rfl rfl (Y_move (v := .int .i64 r_2) rfl rfl) ?_
        refine sq 27 rfl rfl (Y_add (k := .i64) (a := r_2) (b := 1) rfl rfl rfl) ?_
        obtain ⟨r_3, hc2, hF4⟩ := bind_inv hF4
        refine sc 28 rfl rfl (Yc_func (g := 211) (vs := [.slice B2 left.length c2, .int .i64 r_2, .int .i64 (IntKind.i64.wrap (r_2 + 1))]) k_call_211 rfl (mc rfl (mc rfl (mc rfl mn))) (c_slices_Delete_int_int left r_2 (IntKind.i64.wrap (r_2 + 1)) B2 c2 left.length _ rfl (hS6.inn [true, false] rfl [] rfl) hc2)) ?_
        rintro _ w_4 ⟨B4, c4, rfl, hd2⟩
        have hS7 := hS6.out [true, false] rfl hd2
        have hS7 : ST w0 [] _ [⟨some ⟨b, 0, none⟩, 3, [.int .i64 (i : Int)], 1⟩, ⟨B4, 3, (r_3.flatMap encI), c4 * 1⟩] [⟨B, (rows.flatMap encI)⟩] := hS7
        refine sq 3 rfl rfl (Y_assign (v := .slice B4 r_3.length c4) rfl rfl) ?_
        refine rw_nil ?_
        refine cw_seq ?_
        refine cw_seq ?_
        refine cw_region ?_
        refine sq 29 rfl rfl (Y_move (v := .slice B4 r_3.length c4) rfl rfl) ?_
        refine sq 30 rfl rfl (Y_len (B := B4) (m := r_3.length) (c := c4) k_sl_34_3 rfl rfl) ?_
        refine sq 31 rfl rfl (Y_move (v := .int .i64 0) rfl rfl) ?_
        refine rw_nil ?_
        obtain ⟨hN, hF4⟩ := chk_inv hF4
        obtain ⟨z2, hz2, hF5⟩ := bind_inv hF4
        refine cw_block ?_
        refine cw_loop (fun k f w => ∃ (i1 : Nat) (left2 : List Int), FF f [(3, .slice B4 r_3.length c4), (4, .int .i64 rank), (5, pt (some ⟨b, 0, none⟩) 0), (7, .int .i64 x), (12, .int .i64 (i : Int)), (29, .slice B4 r_3.length c4), (30, .int .i64 (r_3.length : Int)), (31, .int .i64 (i1 : Int))] ∧ left2.length = r_3.length ∧ ST w0 [] w [⟨B4, 3, (left2.flatMap encI), c4 * 1⟩, ⟨some ⟨b, 0, none⟩, 3, [.int .i64 (i : Int)], 1⟩] [⟨B, (rows.flatMap encI)⟩] ∧ i1 + k = r_3.length ∧ forN (F_impl_rankOf_l2 i x) k i1 left2 = some z2) r_3.length ⟨0, r_3, (FF.cons rfl (FF.cons (hf.get 4 1 rfl) (FF.cons rfl (FF.cons rfl (FF.cons (hf.get 12 2 rfl) (FF.cons rfl (FF.cons rfl (FF.cons rfl FF.nil)))))))), rfl, (hS7.sel [1, 0] rfl rfl), Nat.zero_add _, hz2⟩ ?_
        rintro k_2 f w ⟨i1, left2, hf2, hl, hS8, hik1, hL2⟩
        refine cw_seq ?_
        refine cw_region ?_
        refine sq 32 rfl rfl (Y_lt (k := .i64) (a := (i1 : Int)) (b := (r_3.length : Int)) rfl (hf2.get 31 7 rfl) (hf2.get 30 6 rfl)) ?_
        refine rw_nil ?_
        refine cw_seq ?_
        refine cw_cond (b := (decide ((i1 : Int) < (r_3.length : Int)))) rfl (fun hlt2 => ?_) (fun hlt2 => ?_)
        · skip
          have hlt3 : i1 < r_3.length := by have h := of_decide_eq_true hlt2; omega
          obtain ⟨k_3, rfl⟩ : ∃ k2, k_2 = k2 + 1 := ⟨k_2 - 1, by omega⟩
          obtain ⟨y1, hb2, hL3⟩ := forN_go hL2
          unfold F_impl_rankOf_l2 at hb2
          refine cw_skip ?_
          refine cw_seq ?_
          obtain ⟨z3, hz3, hF6⟩ := bind_inv hb2
          refine cw_mid (fun f w => ∃ (left3 : List Int), left3 = z3 ∧ FF f [(3, .slice B4 r_3.length c4), (4, .int .i64 rank), (5, pt (some ⟨b, 0, none⟩) 0), (7, .int .i64 x), (12, .int .i64 (i : Int)), (29, .slice B4 r_3.length c4), (30, .int .i64 (r_3.length : Int)), (31, .int .i64 (i1 : Int))] ∧ left3.length = r_3.length ∧ ST w0 [] w [⟨B4, 3, (left3.flatMap encI), c4 * 1⟩, ⟨some ⟨b, 0, none⟩, 3, [.int .i64 (i : Int)], 1⟩] [⟨B, (rows.flatMap encI)⟩]) ?_ ?_
          · skip
            refine cw_block ?_
            refine cw_seq ?_
            refine cw_region ?_
            refine sq 33 rfl rfl (Y_move (v := .int .i64 (i1 : Int)) rfl (hf2.get 31 7 rfl)) ?_
            obtain ⟨x1, hx1, hz3⟩ := bind_inv hz3
            refine sq 34 rfl rfl (Y_index (B := B4) (m := r_3.length) (c := c4) (k := .i64) (i := (i1 : Int)) k_sl_34_3 k_sz_3_1 rfl (hf2.get 29 5 rfl) (hf2.get 31 7 rfl) (gi_isSome encI_len rfl (hS8.cf (i := 0) rfl) hx1) (getI_nn hx1) (getI_ltI hx1 hl)) ?_
            refine sq 35 rfl rfl (Y_load1 (B := B4) (i := (i1 : Int).toNat * 1) (cs := (left2.flatMap encI)) (v := .int .i64 x1) k_sc_3 rfl rfl (hS8.cf (i := 0) rfl) (gi_at0 encI_len hx1 rfl)) ?_
            refine sq 8 rfl rfl (Y_assign (v := .int .i64 (i1 : Int)) rfl rfl) ?_
            refine sq 9 rfl rfl (Y_assign (v := .int .i64 x1) rfl rfl) ?_
            refine rw_nil ?_
            refine cw_seq ?_
            refine cw_region ?_
            refine sq 36 rfl rfl (Y_move (v := .int .i64 x1) rfl rfl) ?_
            refine sq 37 rfl rfl (Y_load1 (B := some ⟨b, 0, none⟩) (i := 0) (cs := [.int .i64 (i : Int)]) (v := .int .i64 (i : Int)) k_sc_3 rfl (hf2.get 5 2 rfl) (hS8.cf (i := 1) rfl) rfl) ?_
            obtain ⟨hsh, hz3⟩ := chk_inv hz3
            refine sq 38 rfl rfl (Y_shr (k := .i64) (a := x1) (k' := .i64) (b := (i : Int)) rfl rfl rfl hsh) ?_
            refine sq 39 rfl rfl (Y_band (k := .i64) (a := (shrK .i64 x1 (i : Int))) (b := 1) rfl rfl rfl) ?_
            refine sq 40 rfl rfl (Y_eq (k := .i64) (a := (bits .and .i64 (shrK .i64 x1 (i : Int)) 1)) (b := 1) rfl rfl rfl) ?_
            refine rw_nil ?_
            refine cw_cond (b := ((bits .and .i64 (shrK .i64 x1 (i : Int)) 1) == 1)) rfl (fun hb3 => ?_) (fun hb3 => ?_)
            · skip
              have hF7 := ct hz3 hb3
              refine cw_region ?_
              refine sq 41 rfl rfl (Y_move (v := .slice B4 r_3.length c4) rfl (hf2.get 3 0 rfl)) ?_
              refine sq 42 rfl rfl (Y_move (v := .int .i64 (i1 : Int)) rfl rfl) ?_
              refine sq 43 rfl rfl (Y_move (v := .int .i64 x1) rfl rfl) ?_
              refine sq 44 rfl rfl (Y_move (v := .int .i64 x) rfl (hf2.get 7 3 rfl)) ?_
              refine sq 45 rfl rfl (Y_bxor (k := .i64) (a := x1) (b := x) rfl rfl rfl) ?_
              refine sq 46 rfl rfl (Y_index (B := B4) (m := r_3.length) (c := c4) (k := .i64) (i := (i1 : Int)) k_sl_34_3 k_sz_3_1 rfl rfl rfl (gi_isSome encI_len rfl (hS8.cf (i := 0) rfl) hx1) (getI_nn hx1) (getI_ltI hx1 hl)) ?_
              refine ss0 rfl rfl (Ys_store (i := 0) (s := 1) (B := B4) (T' := 3) (v := .int .i64 (bits .xor .i64 x1 x)) (vs := [.int .i64 (bits .xor .i64 x1 x)]) (k := (i1 : Int).toNat * 1) (cs' := ((left2.set (i1 : Int).toNat (bits .xor .i64 x1 x)).flatMap encI)) hS8 k_sz_3_1 rfl rfl rfl rfl rfl rfl rfl (gi_fit0 encI_len hx1) (gi_set encI_len hx1 (bits .xor .i64 x1 x) rfl) rfl) ?_
              rintro _ w_5 ⟨rfl, hS10⟩
              have hS10 : ST w0 [] _ [⟨B4, 3, ((left2.set (i1 : Int).toNat (bits .xor .i64 x1 x)).flatMap encI), c4 * 1⟩, ⟨some ⟨b, 0, none⟩, 3, [.int .i64 (i : Int)], 1⟩] [⟨B, (rows.flatMap encI)⟩] := hS10
              refine rw_nil ?_
              exact ⟨(left2.set (i1 : Int).toNat (bits .xor .i64 x1 x)), (some_inj hF7), (FF.cons (hf2.get 3 0 rfl) (FF.cons (hf2.get 4 1 rfl) (FF.cons (hf2.get 5 2 rfl) (FF.cons (hf2.get 7 3 rfl) (FF.cons (hf2.get 12 4 rfl) (FF.cons (hf2.get 29 5 rfl) (FF.cons (hf2.get 30 6 rfl) (FF.cons (hf2.get 31 7 rfl) FF.nil)))))))), (set_len _ _ _ hl), (hS10.sel [0, 1] rfl rfl)⟩
            · skip
              have hF8 := cf' hz3 hb3
              refine cw_skip ?_
              exact ⟨left2, (some_inj hF8), (FF.cons (hf2.get 3 0 rfl) (FF.cons (hf2.get 4 1 rfl) (FF.cons (hf2.get 5 2 rfl) (FF.cons (hf2.get 7 3 rfl) (FF.cons (hf2.get 12 4 rfl) (FF.cons (hf2.get 29 5 rfl) (FF.cons (hf2.get 30 6 rfl) (FF.cons (hf2.get 31 7 rfl) FF.nil)))))))), hl, (hS8.sel [0, 1] rfl rfl)⟩
          rintro f w ⟨left3, rfl, hf3, hl1, hS9⟩
          refine cw_region ?_
          refine sq 47 rfl rfl (Y_add (k := .i64) (a := (i1 : Int)) (b := 1) rfl (hf3.get 31 7 rfl) rfl) ?_
          refine sq 31 rfl rfl (Y_move (v := .int .i64 (IntKind.i64.wrap ((i1 : Int) + 1))) rfl rfl) ?_
          refine rw_nil ?_
          obtain rfl := some_inj hF6
          exact ⟨k_3, Nat.lt_succ_self _, i1 + 1, left3, (FF.cons (hf3.get 3 0 rfl) (FF.cons (hf3.get 4 1 rfl) (FF.cons (hf3.get 5 2 rfl) (FF.cons (hf3.get 7 3 rfl) (FF.cons (hf3.get 12 4 rfl) (FF.cons (hf3.get 29 5 rfl) (FF.cons (hf3.get 30 6 rfl) (FF.cons (congrArg (Value.int .i64) (wr_succ hlt3 hN)) FF.nil)))))))), hl1, (hS9.sel [0, 1] rfl rfl), (by omega), hL3⟩
        · skip
          obtain rfl : k_2 = 0 := by have h := of_decide_eq_false hlt2; omega
          refine cw_exit rfl ?_
          obtain rfl := some_inj hL2
          refine cw_region ?_
          refine sq 48 rfl rfl (Y_move (v := .int .i64 rank) rfl (hf2.get 4 1 rfl)) ?_
          refine sq 49 rfl rfl (Y_add (k := .i64) (a := rank) (b := 1) rfl rfl rfl) ?_
          refine sq 4 rfl rfl (Y_assign (v := .int .i64 (IntKind.i64.wrap (rank + 1))) rfl rfl) ?_
          refine rw_nil ?_
          exact ⟨left2, (IntKind.i64.wrap (rank + 1)), B4, c4, (some_inj hF5), (FF.cons (sl_len hl (hf2.get 3 0 rfl)) (FF.cons rfl (FF.cons (hf2.get 12 4 rfl) FF.nil))), (hS8.sel [0] rfl rfl)⟩
    rintro f w ⟨left1, rank1, B3, c3, rfl, hf1, hS3⟩
    refine cw_region ?_
    refine sq 50 rfl rfl (Y_add (k := .i64) (a := (i : Int)) (b := 1) rfl (hf1.get 12 2 rfl) rfl) ?_
    refine sq 12 rfl rfl (Y_move (v := .int .i64 (IntKind.i64.wrap ((i : Int) + 1))) rfl rfl) ?_
    refine rw_nil ?_
    obtain rfl := some_inj hF2
    exact ⟨k_1, Nat.lt_succ_self _, i + 1, left1, rank1, B3, c3, (FF.cons (hf1.get 3 0 rfl) (FF.cons (hf1.get 4 1 rfl) (FF.cons (congrArg (Value.int .i64) (wr_succ hlt1 (show 10 ≤ 9223372036854775807 by decide))) FF.nil))), (hS3.sel [0] rfl rfl), (by omega), hL1⟩
  · skip
    obtain rfl : k_ = 0 := by have h := of_decide_eq_false hlt; omega
    refine cw_exit rfl ?_
    obtain rfl := some_inj hL
    refine cw_seq ?_
    refine cw_region ?_
    refine sq 51 rfl rfl (Y_move (v := .int .i64 rank) rfl (hf.get 4 1 rfl)) ?_
    refine sq 2 rfl rfl (Y_assign (v := .int .i64 rank) rfl rfl) ?_
    refine rw_nil ?_
    refine cw_ret ?_
    obtain rfl := some_inj hF1
    exact ret1 Try.results195 (v1 := .int .i64 rank) (resAt_tmp rfl) ⟨rfl, (ST.subR (R' := []) (hS2.sel [] rfl rfl) (fun _ h => by cases h))⟩

theorem c_impl_IsValidLinear (m : TLinear) (B : Option Addr) (c n : Nat) (w0 : World) (hn : m.Rows.length = n) (hS : ST w0 [] w0 [] [⟨B, (m.Rows.flatMap encI)⟩]) {r_ : Bool} (hF : F_impl_IsValidLinear m = some r_) :
    CV Try.prog 147 #[.agg #[.slice B n c]] w0 (fun v w' => v = .bool r_ ∧ ST w0 [] w' [] []) := by
  subst hn
  unfold F_impl_IsValidLinear at hF
  refine cv_of_cw 23 Try.func147 rfl Try.ntmps147 rfl ?_
  refine cw_seq ?_
  refine cw_region ?_
  refine ss 1 rfl rfl (Ys_box (T := 43) (v := .agg #[.slice B m.Rows.length c]) (cs := [.slice B m.Rows.length c]) (m := 1) hS rfl rfl rfl rfl) ?_
  rintro _ w_ ⟨b, rfl, hS1⟩
  refine sq 2 rfl rfl (Y_assign (v := .bool false) rfl rfl) ?_
  refine rw_nil ?_
  refine cw_seq ?_
  refine cw_region ?_
  refine sq 4 rfl rfl (Y_fieldAddr (B := some ⟨b, 0, none⟩) (i := 0) (s := 0) k_fd_43_0_0_34 k_sz_34_1 rfl rfl) ?_
  refine sq 5 rfl rfl (Y_load1 (B := some ⟨b, 0, none⟩) (i := 0) (cs := [.slice B m.Rows.length c]) (v := .slice B m.Rows.length c) k_sc_34 rfl rfl (hS1.cf (i := 0) rfl) rfl) ?_
  refine sq 6 rfl rfl (Y_len (B := B) (m := m.Rows.length) (c := c) k_sl_34_3 rfl rfl) ?_
  refine ss 3 rfl rfl (Ys_alloc (T := 3) (cs := [.int .i64 0]) (m := 1) hS1 k_zero_3 rfl rfl rfl) ?_
  rintro _ w_1 ⟨b1, rfl, hS2⟩
  have hS2 : ST w0 [] _ [⟨some ⟨b, 0, none⟩, 43, [.slice B m.Rows.length c], 1⟩, ⟨some ⟨b1, 0, none⟩, 3, [.int .i64 0], 1⟩] [⟨B, (m.Rows.flatMap encI)⟩] := hS2
  refine ss0 rfl rfl (Ys_store (i := 1) (s := 1) (B := some ⟨b1, 0, none⟩) (T' := 3) (v := .int .i64 (m.Rows.length : Int)) (vs := [.int .i64 (m.Rows.length : Int)]) (k := 0) (cs' := [.int .i64 (m.Rows.length : Int)]) hS2 k_sz_3_1 rfl rfl rfl rfl rfl rfl rfl (Nat.le_of_ble_eq_true rfl) rfl rfl) ?_
  rintro _ w_2 ⟨rfl, hS3⟩
  have hS3 : ST w0 [] _ [⟨some ⟨b, 0, none⟩, 43, [.slice B m.Rows.length c], 1⟩, ⟨some ⟨b1, 0, none⟩, 3, [.int .i64 (m.Rows.length : Int)], 1⟩] [⟨B, (m.Rows.flatMap encI)⟩] := hS3
  refine rw_nil ?_
  refine cw_seq ?_
  obtain ⟨r_1, hc, hF⟩ := bind_inv hF
  obtain ⟨r_2, hc1, hF⟩ := bind_inv hF
  obtain ⟨r_3, hc2, hF⟩ := bind_inv hF
  refine ra_start (ST.sel hS3 [0, 1] rfl rfl).fn (by kernel_rfl) ?_
  have hS7 := hS3.drew
  refine ra_q 0 7 (v := .int .i64 (m.Rows.length : Int)) rfl rfl rfl (by kernel_rfl) (by kernel_rfl) (by kernel_rfl) (ST.sel hS7 [0, 1] rfl rfl) (fun w' hw' => (Y_load1 (B := some ⟨b1, 0, none⟩) (i := 0) (cs := [.int .i64 (m.Rows.length : Int)]) (v := .int .i64 (m.Rows.length : Int)) k_sc_3 rfl rfl (ST.cf hw' (i := 1) rfl) rfl)) ?_
  refine ra_all (rs := [1]) (by kernel_rfl) rfl ?_
  refine ra_c 8 (i := 1) rfl rfl rfl (Yc_func (g := 145) (vs := [.int .i64 (m.Rows.length : Int), .int .i64 1, .int .i64 5]) k_call_145 rfl (mc rfl (mc rfl (mc rfl mn))) (c_impl_within (m.Rows.length : Int) 1 5 _  (hS7.inn0 [] rfl) hc)) ?_ ?_
  · rintro _ w_3 ⟨rfl, hd⟩
    have hS8 := hS7.out00 hd
    have hS8 : ST w0 [] _ [⟨some ⟨b, 0, none⟩, 43, [.slice B m.Rows.length c], 1⟩, ⟨some ⟨b1, 0, none⟩, 3, [.int .i64 (m.Rows.length : Int)], 1⟩] [⟨B, (m.Rows.flatMap encI)⟩] := hS8
    refine ⟨(ST.sel hS8 [0, 1] rfl rfl), ?_⟩
    refine ra_q 2 9 (v := .bool r_1) rfl rfl rfl (by kernel_rfl) (by kernel_rfl) (by kernel_rfl) (ST.sel hS8 [0, 1] rfl rfl) (fun w' hw' => (Y_move (v := .bool r_1) rfl rfl)) ?_
    refine ra_gq 3 10 (B := r_1) (v := pt (some ⟨b, 0, none⟩) 0) rfl rfl rfl (wt_t (gd_of (t := 9) (by kernel_rfl) rfl)) (by kernel_rfl) (by kernel_rfl) (by kernel_rfl) (ST.sel hS8 [0, 1] rfl rfl) (fun hg w' hw' => (Y_fieldAddr (B := some ⟨b, 0, none⟩) (i := 0) (s := 0) k_fd_43_0_0_34 k_sz_34_1 rfl rfl)) ?_
    refine ra_gq 4 11 (B := r_1) (v := .slice B m.Rows.length c) rfl rfl rfl (wt_t (gd_of (t := 9) (by kernel_rfl) rfl)) (by kernel_rfl) (by kernel_rfl) (by kernel_rfl) (ST.sel hS8 [0, 1] rfl rfl) (fun hg1 w' hw' => (Y_load1 (B := some ⟨b, 0, none⟩) (i := 0) (cs := [.slice B m.Rows.length c]) (v := .slice B m.Rows.length c) k_sc_34 rfl (gv_of (B := r_1) (v := pt (some ⟨b, 0, none⟩) 0) hg1) (ST.cf hw' (i := 0) rfl) rfl)) ?_
    refine ra_gq 5 12 (B := r_1) (v := .func (.func 194) #[] #[pt (some ⟨b1, 0, none⟩) 0]) rfl rfl rfl (wt_t (gd_of (t := 9) (by kernel_rfl) rfl)) (by kernel_rfl) (by kernel_rfl) (by kernel_rfl) (ST.sel hS8 [0, 1] rfl rfl) (fun hg2 w' hw' => (Y_makeFunc (cs := [pt (some ⟨b1, 0, none⟩) 0]) rfl rfl (mc rfl mn))) ?_
    refine ra_all (rs := [6]) (by kernel_rfl) rfl ?_
    refine ra_gc 13 (i := 6) (B := r_1) (v := .bool r_2) (F := hS8.fn) rfl rfl rfl (wt_t (gd_of (t := 9) (by kernel_rfl) rfl)) hS8 (fun hg3 => (Yc_func (g := 193) (vs := [.slice B m.Rows.length c, .func (.func 194) #[] #[pt (some ⟨b1, 0, none⟩) 0]]) k_call_193 rfl (mc (gv_of (B := r_1) (v := .slice B m.Rows.length c) hg3) (mc (gv_of (B := r_1) (v := .func (.func 194) #[] #[pt (some ⟨b1, 0, none⟩) 0]) hg3) mn)) (CV.mono (c_slices_ContainsFunc_int_int m.Rows (fun x_0 => F_impl_IsValidLinear_1 x_0 (m.Rows.length : Int)) B c m.Rows.length 194 (#[pt (some ⟨b1, 0, none⟩) 0]) [⟨some ⟨b1, 0, none⟩, [.int .i64 (m.Rows.length : Int)]⟩] _ rfl k_call_194 (fun w hw x_0 y_0 h_ => c_impl_IsValidLinear_1 x_0 (m.Rows.length : Int) (some ⟨b1, 0, none⟩) w  hw h_) (hS8.inn0 [(true, 0), (false, 1)] rfl) (gb_inv hc1 hg3)) (by rintro _ _ ⟨rfl, h⟩; exact ⟨rfl, hS8.out00 h⟩)))) ?_ ?_
    · rintro w_4 hS9
      have hS9 : ST _ _ w_4 _ _ := hS9
      refine ⟨(ST.sel hS9 [0, 1] rfl rfl), ?_⟩
      refine ra_gq 7 14 (B := r_1) (v := .bool (!r_2)) rfl rfl rfl (wt_t (gd_of (t := 9) (by kernel_rfl) rfl)) (by kernel_rfl) (by kernel_rfl) (by kernel_rfl) (ST.sel hS9 [0, 1] rfl rfl) (fun hg4 w' hw' => (Y_not (p := r_2) rfl (gv_of (B := r_1) (v := .bool r_2) hg4))) ?_
      refine ra_q 8 15 (v := .bool (r_1 && (!r_2))) rfl rfl rfl (by kernel_rfl) (by kernel_rfl) (by kernel_rfl) (ST.sel hS9 [0, 1] rfl rfl) (fun w' hw' => (Y_and (b := r_1) (z := (!r_2)) rfl rfl rfl rfl)) ?_
      refine ra_q 9 16 (v := .bool (r_1 && (!r_2))) rfl rfl rfl (by kernel_rfl) (by kernel_rfl) (by kernel_rfl) (ST.sel hS9 [0, 1] rfl rfl) (fun w' hw' => (Y_move (v := .bool (r_1 && (!r_2))) rfl rfl)) ?_
      refine ra_gq 10 17 (B := (r_1 && (!r_2))) (v := pt (some ⟨b, 0, none⟩) 0) rfl rfl rfl (wt_t (gd_of (t := 16) (by kernel_rfl) rfl)) (by kernel_rfl) (by kernel_rfl) (by kernel_rfl) (ST.sel hS9 [0, 1] rfl rfl) (fun hg5 w' hw' => (Y_fieldAddr (B := some ⟨b, 0, none⟩) (i := 0) (s := 0) k_fd_43_0_0_34 k_sz_34_1 rfl rfl)) ?_
      refine ra_gq 11 18 (B := (r_1 && (!r_2))) (v := .slice B m.Rows.length c) rfl rfl rfl (wt_t (gd_of (t := 16) (by kernel_rfl) rfl)) (by kernel_rfl) (by kernel_rfl) (by kernel_rfl) (ST.sel hS9 [0, 1] rfl rfl) (fun hg6 w' hw' => (Y_load1 (B := some ⟨b, 0, none⟩) (i := 0) (cs := [.slice B m.Rows.length c]) (v := .slice B m.Rows.length c) k_sc_34 rfl (gv_of (B := (r_1 && (!r_2))) (v := pt (some ⟨b, 0, none⟩) 0) hg6) (ST.cf hw' (i := 0) rfl) rfl)) ?_
      refine ra_gq 13 20 (B := (r_1 && (!r_2))) (v := .int .i64 (m.Rows.length : Int)) rfl rfl rfl (wt_t (gd_of (t := 16) (by kernel_rfl) rfl)) (by kernel_rfl) (by kernel_rfl) (by kernel_rfl) (ST.sel hS9 [0, 1] rfl rfl) (fun hg8 w' hw' => (Y_load1 (B := some ⟨b1, 0, none⟩) (i := 0) (cs := [.int .i64 (m.Rows.length : Int)]) (v := .int .i64 (m.Rows.length : Int)) k_sc_3 rfl rfl (ST.cf hw' (i := 1) rfl) rfl)) ?_
      refine ra_all (rs := [12]) (by kernel_rfl) rfl ?_
      refine ra_gc 19 (i := 12) (B := (r_1 && (!r_2))) (v := .int .i64 r_3) (F := hS9.fn) rfl rfl rfl (wt_t (gd_of (t := 16) (by kernel_rfl) rfl)) hS9 (fun hg7 => (Yc_func (g := 195) (vs := [.slice B m.Rows.length c]) k_call_195 rfl (mc (gv_of (B := (r_1 && (!r_2))) (v := .slice B m.Rows.length c) hg7) mn) (CV.mono (c_impl_rankOf m.Rows B c m.Rows.length _ rfl (hS9.inn0 [(true, 0)] rfl) (gb_inv hc2 hg7)) (by rintro _ _ ⟨rfl, h⟩; exact ⟨rfl, hS9.out00 h⟩)))) ?_ ?_
      · rintro w_5 hS10
        have hS10 : ST _ _ w_5 _ _ := hS10
        refine ⟨(ST.sel hS10 [0, 1] rfl rfl), ?_⟩
        refine ra_gq 14 21 (B := (r_1 && (!r_2))) (v := .bool (r_3 == (m.Rows.length : Int))) rfl rfl rfl (wt_t (gd_of (t := 16) (by kernel_rfl) rfl)) (by kernel_rfl) (by kernel_rfl) (by kernel_rfl) (ST.sel hS10 [0, 1] rfl rfl) (fun hg9 w' hw' => (Y_eq (k := .i64) (a := r_3) (b := (m.Rows.length : Int)) rfl (gv_of (B := (r_1 && (!r_2))) (v := .int .i64 r_3) hg9) (gv_of (B := (r_1 && (!r_2))) (v := .int .i64 (m.Rows.length : Int)) hg9))) ?_
        refine ra_q 15 22 (v := .bool ((r_1 && (!r_2)) && (r_3 == (m.Rows.length : Int)))) rfl rfl rfl (by kernel_rfl) (by kernel_rfl) (by kernel_rfl) (ST.sel hS10 [0, 1] rfl rfl) (fun w' hw' => (Y_and (b := (r_1 && (!r_2))) (z := (r_3 == (m.Rows.length : Int))) rfl rfl rfl rfl)) ?_
        refine ra_q 16 2 (v := .bool ((r_1 && (!r_2)) && (r_3 == (m.Rows.length : Int)))) rfl rfl rfl (by kernel_rfl) (by kernel_rfl) (by kernel_rfl) (ST.sel hS10 [0, 1] rfl rfl) (fun w' hw' => (Y_assign (v := .bool ((r_1 && (!r_2)) && (r_3 == (m.Rows.length : Int)))) rfl rfl)) ?_
        refine ra_done (by kernel_rfl) ?_
        refine cw_ret ?_
        obtain rfl := some_inj hF
        exact ret1 Try.results147 (v1 := .bool ((r_1 && (!r_2)) && (r_3 == (m.Rows.length : Int)))) (resAt_tmp rfl) ⟨rfl, (ST.subR (R' := []) (hS10.sel [] rfl rfl) (fun _ h => by cases h))⟩
      exact allR_nil
    exact allR_nil
  exact allR_nil

theorem c_impl_IsValidPhasePoly (p : TPhasePoly) (B : Option Addr) (c n : Nat) (B1 : Option Addr) (c1 n1 : Nat) (w0 : World) (hn : p.Terms.length = n) (hn1 : p.Out.Rows.length = n1) (hS : ST w0 [] w0 [] [⟨B, (p.Terms.flatMap enc_Term)⟩, ⟨B1, (p.Out.Rows.flatMap encI)⟩]) {r_ : Bool} (hF : F_impl_IsValidPhasePoly p = some r_) :
    CV Try.prog 76 #[.agg #[.int .i64 p.Qubits, .int .i64 p.Phase, .slice B n c, .slice B1 n1 c1]] w0 (fun v w' => v = .bool r_ ∧ ST w0 [] w' [] []) := by
  subst hn
  subst hn1
  unfold F_impl_IsValidPhasePoly at hF
  refine cv_of_cw 32 Try.func76 rfl Try.ntmps76 rfl ?_
  refine cw_seq ?_
  refine cw_region ?_
  refine ss 1 rfl rfl (Ys_box (T := 45) (v := .agg #[.int .i64 p.Qubits, .int .i64 p.Phase, .slice B p.Terms.length c, .slice B1 p.Out.Rows.length c1]) (cs := [.int .i64 p.Qubits, .int .i64 p.Phase, .slice B p.Terms.length c, .slice B1 p.Out.Rows.length c1]) (m := 4) hS rfl rfl rfl rfl) ?_
  rintro _ w_ ⟨b, rfl, hS1⟩
  refine sq 2 rfl rfl (Y_assign (v := .bool false) rfl rfl) ?_
  refine rw_nil ?_
  refine cw_seq ?_
  refine cw_region ?_
  refine sq 3 rfl rfl (Y_fieldAddr (B := some ⟨b, 0, none⟩) (i := 0) (s := 0) k_fd_45_0_0_3 k_sz_3_1 rfl rfl) ?_
  refine sq 4 rfl rfl (Y_load1 (B := some ⟨b, 0, none⟩) (i := 0) (cs := [.int .i64 p.Qubits, .int .i64 p.Phase, .slice B p.Terms.length c, .slice B1 p.Out.Rows.length c1]) (v := .int .i64 p.Qubits) k_sc_3 rfl rfl (hS1.cf (i := 0) rfl) rfl) ?_
  obtain ⟨r_1, hc, hF⟩ := bind_inv hF
  refine sc 5 rfl rfl (Yc_func (g := 145) (vs := [.int .i64 p.Qubits, .int .i64 1, .int .i64 5]) k_call_145 rfl (mc rfl (mc rfl (mc rfl mn))) (c_impl_within p.Qubits 1 5 _  (hS1.inn0 [] rfl) hc)) ?_
  rintro _ w_1 ⟨rfl, hd⟩
  have hS2 := hS1.out00 hd
  refine sq 6 rfl rfl (Y_move (v := .bool r_1) rfl rfl) ?_
  refine sgq 7 (B := r_1) (v := pt (some ⟨b, 0, none⟩) 1) rfl rfl (wt_t (gd_of (t := 6) (by kernel_rfl) rfl)) (fun hg => (Y_fieldAddr (B := some ⟨b, 0, none⟩) (i := 0) (s := 0) k_fd_45_1_1_3 k_sz_3_1 rfl rfl)) ?_
  refine sgq 8 (B := r_1) (v := .int .i64 p.Phase) rfl rfl (wt_t (gd_of (t := 6) (by kernel_rfl) rfl)) (fun hg1 => (Y_load1 (B := some ⟨b, 0, none⟩) (i := 1) (cs := [.int .i64 p.Qubits, .int .i64 p.Phase, .slice B p.Terms.length c, .slice B1 p.Out.Rows.length c1]) (v := .int .i64 p.Phase) k_sc_3 rfl (gv_of (B := r_1) (v := pt (some ⟨b, 0, none⟩) 1) hg1) (hS2.cf (i := 0) rfl) rfl)) ?_
  obtain ⟨r_2, hc1, hF⟩ := bind_inv hF
  refine sgc 9 (B := r_1) (v := .bool r_2) (F := hS2.fn) rfl rfl (wt_t (gd_of (t := 6) (by kernel_rfl) rfl)) hS2 (fun hg2 => (Yc_func (g := 145) (vs := [.int .i64 p.Phase, .int .i64 0, .int .i64 7]) k_call_145 rfl (mc (gv_of (B := r_1) (v := .int .i64 p.Phase) hg2) (mc rfl (mc rfl mn))) (CV.mono (c_impl_within p.Phase 0 7 _  (hS2.inn0 [] rfl) (gb_inv hc1 hg2)) (by rintro _ _ ⟨rfl, h⟩; exact ⟨rfl, hS2.out00 h⟩)))) ?_
  rintro w_2 hS3
  have hS3 : ST _ _ w_2 _ _ := hS3
  refine sq 10 rfl rfl (Y_and (b := r_1) (z := r_2) rfl rfl rfl rfl) ?_
  refine sq 11 rfl rfl (Y_move (v := .bool (r_1 && r_2)) rfl rfl) ?_
  refine sgq 12 (B := (r_1 && r_2)) (v := pt (some ⟨b, 0, none⟩) 0) rfl rfl (wt_t (gd_of (t := 11) (by kernel_rfl) rfl)) (fun hg3 => (Y_fieldAddr (B := some ⟨b, 0, none⟩) (i := 0) (s := 0) k_fd_45_0_0_3 k_sz_3_1 rfl rfl)) ?_
  refine sgq 13 (B := (r_1 && r_2)) (v := .int .i64 p.Qubits) rfl rfl (wt_t (gd_of (t := 11) (by kernel_rfl) rfl)) (fun hg4 => (Y_load1 (B := some ⟨b, 0, none⟩) (i := 0) (cs := [.int .i64 p.Qubits, .int .i64 p.Phase, .slice B p.Terms.length c, .slice B1 p.Out.Rows.length c1]) (v := .int .i64 p.Qubits) k_sc_3 rfl (gv_of (B := (r_1 && r_2)) (v := pt (some ⟨b, 0, none⟩) 0) hg4) (hS3.cf (i := 0) rfl) rfl)) ?_
  refine sgq 14 (B := (r_1 && r_2)) (v := pt (some ⟨b, 0, none⟩) 2) rfl rfl (wt_t (gd_of (t := 11) (by kernel_rfl) rfl)) (fun hg5 => (Y_fieldAddr (B := some ⟨b, 0, none⟩) (i := 0) (s := 0) k_fd_45_2_2_40 k_sz_40_1 rfl rfl)) ?_
  refine sgq 15 (B := (r_1 && r_2)) (v := .slice B p.Terms.length c) rfl rfl (wt_t (gd_of (t := 11) (by kernel_rfl) rfl)) (fun hg6 => (Y_load1 (B := some ⟨b, 0, none⟩) (i := 2) (cs := [.int .i64 p.Qubits, .int .i64 p.Phase, .slice B p.Terms.length c, .slice B1 p.Out.Rows.length c1]) (v := .slice B p.Terms.length c) k_sc_40 rfl (gv_of (B := (r_1 && r_2)) (v := pt (some ⟨b, 0, none⟩) 2) hg6) (hS3.cf (i := 0) rfl) rfl)) ?_
  obtain ⟨r_3, hc2, hF⟩ := bind_inv hF
  refine sgc 16 (B := (r_1 && r_2)) (v := .bool r_3) (F := hS3.fn) rfl rfl (wt_t (gd_of (t := 11) (by kernel_rfl) rfl)) hS3 (fun hg7 => (Yc_func (g := 146) (vs := [.int .i64 p.Qubits, .slice B p.Terms.length c]) k_call_146 rfl (mc (gv_of (B := (r_1 && r_2)) (v := .int .i64 p.Qubits) hg7) (mc (gv_of (B := (r_1 && r_2)) (v := .slice B p.Terms.length c) hg7) mn)) (CV.mono (c_impl_areTerms p.Qubits p.Terms B c p.Terms.length _ rfl (hS3.inn0 [(true, 0)] rfl) (gb_inv hc2 hg7)) (by rintro _ _ ⟨rfl, h⟩; exact ⟨rfl, hS3.out00 h⟩)))) ?_
  rintro w_3 hS4
  have hS4 : ST _ _ w_3 _ _ := hS4
  refine sq 17 rfl rfl (Y_and (b := (r_1 && r_2)) (z := r_3) rfl rfl rfl rfl) ?_
  refine sq 18 rfl rfl (Y_move (v := .bool ((r_1 && r_2) && r_3)) rfl rfl) ?_
  refine sgq 19 (B := ((r_1 && r_2) && r_3)) (v := pt (some ⟨b, 0, none⟩) 3) rfl rfl (wt_t (gd_of (t := 18) (by kernel_rfl) rfl)) (fun hg8 => (Y_fieldAddr (B := some ⟨b, 0, none⟩) (i := 0) (s := 0) k_fd_45_3_3_43 k_sz_43_1 rfl rfl)) ?_
  refine sgq 20 (B := ((r_1 && r_2) && r_3)) (v := pt (some ⟨b, 0, none⟩) 3) rfl rfl (wt_t (gd_of (t := 18) (by kernel_rfl) rfl)) (fun hg9 => (Y_fieldAddr (B := some ⟨b, 0, none⟩) (i := 3) (s := 0) k_fd_43_0_0_34 k_sz_34_1 rfl (gv_of (B := ((r_1 && r_2) && r_3)) (v := pt (some ⟨b, 0, none⟩) 3) hg9))) ?_
  refine sgq 21 (B := ((r_1 && r_2) && r_3)) (v := .slice B1 p.Out.Rows.length c1) rfl rfl (wt_t (gd_of (t := 18) (by kernel_rfl) rfl)) (fun hg10 => (Y_load1 (B := some ⟨b, 0, none⟩) (i := 3) (cs := [.int .i64 p.Qubits, .int .i64 p.Phase, .slice B p.Terms.length c, .slice B1 p.Out.Rows.length c1]) (v := .slice B1 p.Out.Rows.length c1) k_sc_34 rfl (gv_of (B := ((r_1 && r_2) && r_3)) (v := pt (some ⟨b, 0, none⟩) 3) hg10) (hS4.cf (i := 0) rfl) rfl)) ?_
  refine sgq 22 (B := ((r_1 && r_2) && r_3)) (v := .int .i64 (p.Out.Rows.length : Int)) rfl rfl (wt_t (gd_of (t := 18) (by kernel_rfl) rfl)) (fun hg11 => (Y_len (B := B1) (m := p.Out.Rows.length) (c := c1) k_sl_34_3 rfl (gv_of (B := ((r_1 && r_2) && r_3)) (v := .slice B1 p.Out.Rows.length c1) hg11))) ?_
  refine sgq 23 (B := ((r_1 && r_2) && r_3)) (v := pt (some ⟨b, 0, none⟩) 0) rfl rfl (wt_t (gd_of (t := 18) (by kernel_rfl) rfl)) (fun hg12 => (Y_fieldAddr (B := some ⟨b, 0, none⟩) (i := 0) (s := 0) k_fd_45_0_0_3 k_sz_3_1 rfl rfl)) ?_
  refine sgq 24 (B := ((r_1 && r_2) && r_3)) (v := .int .i64 p.Qubits) rfl rfl (wt_t (gd_of (t := 18) (by kernel_rfl) rfl)) (fun hg13 => (Y_load1 (B := some ⟨b, 0, none⟩) (i := 0) (cs := [.int .i64 p.Qubits, .int .i64 p.Phase, .slice B p.Terms.length c, .slice B1 p.Out.Rows.length c1]) (v := .int .i64 p.Qubits) k_sc_3 rfl (gv_of (B := ((r_1 && r_2) && r_3)) (v := pt (some ⟨b, 0, none⟩) 0) hg13) (hS4.cf (i := 0) rfl) rfl)) ?_
  refine sgq 25 (B := ((r_1 && r_2) && r_3)) (v := .bool ((p.Out.Rows.length : Int) == p.Qubits)) rfl rfl (wt_t (gd_of (t := 18) (by kernel_rfl) rfl)) (fun hg14 => (Y_eq (k := .i64) (a := (p.Out.Rows.length : Int)) (b := p.Qubits) rfl (gv_of (B := ((r_1 && r_2) && r_3)) (v := .int .i64 (p.Out.Rows.length : Int)) hg14) (gv_of (B := ((r_1 && r_2) && r_3)) (v := .int .i64 p.Qubits) hg14))) ?_
  refine sq 26 rfl rfl (Y_and (b := ((r_1 && r_2) && r_3)) (z := ((p.Out.Rows.length : Int) == p.Qubits)) rfl rfl rfl rfl) ?_
  refine sq 27 rfl rfl (Y_move (v := .bool (((r_1 && r_2) && r_3) && ((p.Out.Rows.length : Int) == p.Qubits))) rfl rfl) ?_
  refine sgq 28 (B := (((r_1 && r_2) && r_3) && ((p.Out.Rows.length : Int) == p.Qubits))) (v := pt (some ⟨b, 0, none⟩) 3) rfl rfl (wt_t (gd_of (t := 27) (by kernel_rfl) rfl)) (fun hg15 => (Y_fieldAddr (B := some ⟨b, 0, none⟩) (i := 0) (s := 0) k_fd_45_3_3_43 k_sz_43_1 rfl rfl)) ?_
  refine sgq 29 (B := (((r_1 && r_2) && r_3) && ((p.Out.Rows.length : Int) == p.Qubits))) (v := .agg #[.slice B1 p.Out.Rows.length c1]) rfl rfl (wt_t (gd_of (t := 27) (by kernel_rfl) rfl)) (fun hg16 => (Y_loadA (B := some ⟨b, 0, none⟩) (i := 3) (cs := [.int .i64 p.Qubits, .int .i64 p.Phase, .slice B p.Terms.length c, .slice B1 p.Out.Rows.length c1]) (vs := [.slice B1 p.Out.Rows.length c1]) k_ag_43 k_sz_43_1 rfl (gv_of (B := (((r_1 && r_2) && r_3) && ((p.Out.Rows.length : Int) == p.Qubits))) (v := pt (some ⟨b, 0, none⟩) 3) hg16) (hS4.cf (i := 0) rfl) rfl rfl)) ?_
  obtain ⟨r_4, hc3, hF⟩ := bind_inv hF
  refine sgc 30 (B := (((r_1 && r_2) && r_3) && ((p.Out.Rows.length : Int) == p.Qubits))) (v := .bool r_4) (F := hS4.fn) rfl rfl (wt_t (gd_of (t := 27) (by kernel_rfl) rfl)) hS4 (fun hg17 => (Yc_func (g := 147) (vs := [.agg #[.slice B1 p.Out.Rows.length c1]]) k_call_147 rfl (mc (gv_of (B := (((r_1 && r_2) && r_3) && ((p.Out.Rows.length : Int) == p.Qubits))) (v := .agg #[.slice B1 p.Out.Rows.length c1]) hg17) mn) (CV.mono (c_impl_IsValidLinear p.Out B1 c1 p.Out.Rows.length _ rfl (hS4.inn0 [(true, 1)] rfl) (gb_inv hc3 hg17)) (by rintro _ _ ⟨rfl, h⟩; exact ⟨rfl, hS4.out00 h⟩)))) ?_
  rintro w_4 hS5
  have hS5 : ST _ _ w_4 _ _ := hS5
  refine sq 31 rfl rfl (Y_and (b := (((r_1 && r_2) && r_3) && ((p.Out.Rows.length : Int) == p.Qubits))) (z := r_4) rfl rfl rfl rfl) ?_
  refine sq 2 rfl rfl (Y_assign (v := .bool ((((r_1 && r_2) && r_3) && ((p.Out.Rows.length : Int) == p.Qubits)) && r_4)) rfl rfl) ?_
  refine rw_nil ?_
  refine cw_ret ?_
  obtain rfl := some_inj hF
  exact ret1 Try.results76 (v1 := .bool ((((r_1 && r_2) && r_3) && ((p.Out.Rows.length : Int) == p.Qubits)) && r_4)) (resAt_tmp rfl) ⟨rfl, (ST.subR (R' := []) (hS5.sel [] rfl rfl) (fun _ h => by cases h))⟩

theorem c_impl_coefficients_add (c : List Int) (mask : Int) (coef : Int) (B : Option Addr) (w0 : World) (hlen : c.length = 32) (hS : ST w0 (bl [⟨B, 108, (c.flatMap encI), 32⟩]) w0 [⟨B, 108, (c.flatMap encI), 32⟩] []) {m : List Int} (hF : F_impl_coefficients_add c mask coef = some m) :
    CV Try.prog 78 #[pt B 0, .int .i64 mask, .int .i64 coef] w0 (fun v w' => v = .tuple #[] ∧ m.length = 32 ∧ ST w0 (bl [⟨B, 108, (c.flatMap encI), 32⟩]) w' [⟨B, 108, (m.flatMap encI), 32⟩] []) := by
  unfold F_impl_coefficients_add at hF
  refine cv_of_cw 20 Try.func78 rfl Try.ntmps78 rfl ?_
  obtain ⟨x, hx, hF⟩ := bind_inv hF
  refine ra_start (ST.sel hS [] rfl rfl).fn (by kernel_rfl) ?_
  have hS1 := hS.drew
  refine ra_q 0 6 (v := pt B 0) rfl rfl rfl (by kernel_rfl) (by kernel_rfl) (by kernel_rfl) (ST.sel hS1 [] rfl rfl) (fun w' hw' => (Y_move (v := pt B 0) rfl rfl)) ?_
  refine ra_q 1 7 (v := .int .i64 mask) rfl rfl rfl (by kernel_rfl) (by kernel_rfl) (by kernel_rfl) (ST.sel hS1 [] rfl rfl) (fun w' hw' => (Y_move (v := .int .i64 mask) rfl rfl)) ?_
  refine ra_q 2 8 (v := pt B 0) rfl rfl rfl (by kernel_rfl) (by kernel_rfl) (by kernel_rfl) (ST.sel hS1 [] rfl rfl) (fun w' hw' => (Y_move (v := pt B 0) rfl rfl)) ?_
  refine ra_q 3 9 (v := .int .i64 mask) rfl rfl rfl (by kernel_rfl) (by kernel_rfl) (by kernel_rfl) (ST.sel hS1 [] rfl rfl) (fun w' hw' => (Y_move (v := .int .i64 mask) rfl rfl)) ?_
  refine ra_q 4 10 (v := pt B 0) rfl rfl rfl (by kernel_rfl) (by kernel_rfl) (by kernel_rfl) (ST.sel hS1 [] rfl rfl) (fun w' hw' => (Y_nilCheck (B := B) (i := 0) rfl rfl)) ?_
  refine ra_q 5 11 (v := pt B (mask.toNat * 1)) rfl rfl rfl (by kernel_rfl) (by kernel_rfl) (by kernel_rfl) (ST.sel hS1 [] rfl rfl) (fun w' hw' => (Y_indexArr0 (B := B) (k := .i64) (i := mask) k_ar_108_32_3 k_sz_3_1 rfl rfl rfl (getI_nn hx) (getI_ltI hx hlen))) ?_
  refine ra_q 7 13 (v := .int .i64 coef) rfl rfl rfl (by kernel_rfl) (by kernel_rfl) (by kernel_rfl) (ST.sel hS1 [] rfl rfl) (fun w' hw' => (Y_move (v := .int .i64 coef) rfl rfl)) ?_
  refine ra_q 12 18 (v := pt B 0) rfl rfl rfl (by kernel_rfl) (by kernel_rfl) (by kernel_rfl) (ST.sel hS1 [] rfl rfl) (fun w' hw' => (Y_nilCheck (B := B) (i := 0) rfl rfl)) ?_
  refine ra_all (rs := [6]) (by kernel_rfl) rfl ?_
  refine ra_y 12 (i := 6) (v := .int .i64 x) rfl rfl rfl (Y_load1 (B := B) (i := mask.toNat * 1) (cs := (c.flatMap encI)) (v := .int .i64 x) k_sc_3 rfl rfl (hS1.cf (i := 0) rfl) (gi_at0 encI_len hx rfl)) (ST.sel hS1 [] rfl rfl) ?_ ?_
  · skip
    refine ra_q 8 14 (v := .int .i64 (IntKind.i64.wrap (x + coef))) rfl rfl rfl (by kernel_rfl) (by kernel_rfl) (by kernel_rfl) (ST.sel hS1 [] rfl rfl) (fun w' hw' => (Y_add (k := .i64) (a := x) (b := coef) rfl rfl rfl)) ?_
    refine ra_q 9 15 (v := .int .i64 (Int.tmod (IntKind.i64.wrap (x + coef)) 8)) rfl rfl rfl (by kernel_rfl) (by kernel_rfl) (by kernel_rfl) (ST.sel hS1 [] rfl rfl) (fun w' hw' => (Y_rem (k := .i64) (a := (IntKind.i64.wrap (x + coef))) (b := 8) rfl rfl rfl (by decide))) ?_
    refine ra_q 10 16 (v := .int .i64 (IntKind.i64.wrap ((Int.tmod (IntKind.i64.wrap (x + coef)) 8) + 8))) rfl rfl rfl (by kernel_rfl) (by kernel_rfl) (by kernel_rfl) (ST.sel hS1 [] rfl rfl) (fun w' hw' => (Y_add (k := .i64) (a := (Int.tmod (IntKind.i64.wrap (x + coef)) 8)) (b := 8) rfl rfl rfl)) ?_
    refine ra_q 11 17 (v := .int .i64 (Int.tmod (IntKind.i64.wrap ((Int.tmod (IntKind.i64.wrap (x + coef)) 8) + 8)) 8)) rfl rfl rfl (by kernel_rfl) (by kernel_rfl) (by kernel_rfl) (ST.sel hS1 [] rfl rfl) (fun w' hw' => (Y_rem (k := .i64) (a := (IntKind.i64.wrap ((Int.tmod (IntKind.i64.wrap (x + coef)) 8) + 8))) (b := 8) rfl rfl rfl (by decide))) ?_
    refine ra_q 13 19 (v := pt B (mask.toNat * 1)) rfl rfl rfl (by kernel_rfl) (by kernel_rfl) (by kernel_rfl) (ST.sel hS1 [] rfl rfl) (fun w' hw' => (Y_indexArr0 (B := B) (k := .i64) (i := mask) k_ar_108_32_3 k_sz_3_1 rfl rfl rfl (getI_nn hx) (getI_ltI hx hlen))) ?_
    refine ra_all (rs := [14]) (by kernel_rfl) rfl ?_
    refine ra_s0 (i := 14) rfl rfl rfl (Ys_store (i := 0) (s := 1) (B := B) (T' := 108) (v := .int .i64 (Int.tmod (IntKind.i64.wrap ((Int.tmod (IntKind.i64.wrap (x + coef)) 8) + 8)) 8)) (vs := [.int .i64 (Int.tmod (IntKind.i64.wrap ((Int.tmod (IntKind.i64.wrap (x + coef)) 8) + 8)) 8)]) (k := mask.toNat * 1) (cs' := ((c.set mask.toNat (Int.tmod (IntKind.i64.wrap ((Int.tmod (IntKind.i64.wrap (x + coef)) 8) + 8)) 8)).flatMap encI)) hS1 k_sz_3_1 rfl rfl rfl rfl rfl rfl rfl (gi_fit0 encI_len hx) (gi_set encI_len hx (Int.tmod (IntKind.i64.wrap ((Int.tmod (IntKind.i64.wrap (x + coef)) 8) + 8)) 8) rfl) rfl) ?_ ?_
    · rintro _ w_ ⟨rfl, hS2⟩
      refine ⟨(ST.sel hS2 [] rfl rfl), ?_⟩
      refine ra_done (by kernel_rfl) ?_
      obtain rfl := some_inj hF
      exact ret0 Try.results78  ⟨rfl, (set_len _ _ _ hlen), (ST.subR (R' := []) (hS2.sel [0] rfl rfl) (fun _ h => by cases h))⟩
    exact allR_nil
  exact allR_nil

theorem c_impl_coefficients_terms (c : List Int)  (w0 : World) (hlen : c.length = 32) (hS : ST w0 [] w0 [] []) {r_ : List TTerm} (hF : F_impl_coefficients_terms c = some r_) :
    CV Try.prog 79 #[.agg (c.flatMap encI).toArray] w0 (fun v w' => ∃ (B : Option Addr) (c1 : Nat), v = .slice B r_.length c1 ∧ ST w0 [] w' [⟨B, 112, (r_.flatMap enc_Term), c1 * 2⟩] []) := by
  unfold F_impl_coefficients_terms at hF
  refine cv_of_cw 26 Try.func79 rfl Try.ntmps79 rfl ?_
  refine cw_seq ?_
  refine cw_region ?_
  refine ss 1 rfl rfl (Ys_box (T := 108) (v := .agg (c.flatMap encI).toArray) (cs := (c.flatMap encI)) (m := 32) hS rfl rfl rfl (fm_lenn2 encI_len hlen rfl)) ?_
  rintro _ w_ ⟨b, rfl, hS1⟩
  refine sq 2 rfl rfl (Y_assign (v := .slice none 0 0) rfl rfl) ?_
  refine rw_nil ?_
  refine cw_seq ?_
  refine cw_region ?_
  refine ss 6 rfl rfl (Ys_bslice0 (s := 2) (e := 112) hS1 k_sl_40_112 k_sz_112_2 rfl) ?_
  rintro _ w_1 ⟨b1, rfl, hS2⟩
  have hS2 : ST w0 [] _ [⟨some ⟨b, 0, none⟩, 108, (c.flatMap encI), 32⟩, ⟨some ⟨b1, 0, none⟩, 112, ([].flatMap enc_Term), 0 * 2⟩] [] := hS2
  refine sq 3 rfl rfl (Y_assign (v := .slice (some ⟨b1, 0, none⟩) 0 0) rfl rfl) ?_
  refine rw_nil ?_
  refine cw_seq ?_
  refine cw_seq ?_
  refine cw_region ?_
  refine sq 7 rfl rfl (Y_loadA (B := some ⟨b, 0, none⟩) (i := 0) (cs := (c.flatMap encI)) (vs := (c.flatMap encI)) k_ag_108 k_sz_108_32 rfl rfl (hS2.cf (i := 0) rfl) (fm_lenn2 encI_len hlen rfl) (fm_whole encI_len hlen rfl)) ?_
  refine sq 8 rfl rfl (Y_move (v := .int .i64 0) rfl rfl) ?_
  refine rw_nil ?_
  obtain ⟨z, hz, hF1⟩ := bind_inv hF
  refine cw_block ?_
  refine cw_loop (fun k f w => ∃ (i : Nat) (out : List TTerm) (B1 : Option Addr) (c2 : Nat), FF f [(3, .slice B1 out.length c2), (7, .agg (c.flatMap encI).toArray), (8, .int .i64 (i : Int))] ∧ ST w0 [] w [⟨B1, 112, (out.flatMap enc_Term), c2 * 2⟩] [] ∧ i + k = 32 ∧ forN (F_impl_coefficients_terms_l1 c) k i out = some z) 32 ⟨0, [], some ⟨b1, 0, none⟩, 0, (FF.cons rfl (FF.cons rfl (FF.cons rfl FF.nil))), (hS2.sel [1] rfl rfl), Nat.zero_add _, hz⟩ ?_
  rintro k_ f w ⟨i, out, B1, c2, hf, hS3, hik, hL⟩
  refine cw_seq ?_
  refine cw_region ?_
  refine sq 9 rfl rfl (Y_lt (k := .i64) (a := (i : Int)) (b := 32) rfl (hf.get 8 2 rfl) rfl) ?_
  refine rw_nil ?_
  refine cw_seq ?_
  refine cw_cond (b := (decide ((i : Int) < 32))) rfl (fun hlt => ?_) (fun hlt => ?_)
  · skip
    have hlt1 : i < 32 := by have h := of_decide_eq_true hlt; omega
    obtain ⟨k_1, rfl⟩ : ∃ k2, k_ = k2 + 1 := ⟨k_ - 1, by omega⟩
    obtain ⟨y, hb, hL1⟩ := forN_go hL
    unfold F_impl_coefficients_terms_l1 at hb
    refine cw_skip ?_
    refine cw_seq ?_
    obtain ⟨z1, hz1, hF2⟩ := bind_inv hb
    refine cw_mid (fun f w => ∃ (out1 : List TTerm) (B2 : Option Addr) (c3 : Nat), out1 = z1 ∧ FF f [(3, .slice B2 out1.length c3), (7, .agg (c.flatMap encI).toArray), (8, .int .i64 (i : Int))] ∧ ST w0 [] w [⟨B2, 112, (out1.flatMap enc_Term), c3 * 2⟩] []) ?_ ?_
    · skip
      refine cw_block ?_
      refine cw_seq ?_
      refine cw_region ?_
      refine sq 10 rfl rfl (Y_move (v := .int .i64 (i : Int)) rfl (hf.get 8 2 rfl)) ?_
      obtain ⟨x, hx, hz1⟩ := bind_inv hz1
      refine sq 11 rfl rfl (Y_idx1 (cl := (c.flatMap encI)) (k := .i64) (i := (i : Int)) (v := .int .i64 x) k_ar_108_32_3 k_sz_3_1 k_sc_3 rfl (hf.get 7 1 rfl) (hf.get 8 2 rfl) (getI_nn hx) (getI_ltI hx hlen) (gi_at0 encI_len hx rfl)) ?_
      refine sq 4 rfl rfl (Y_assign (v := .int .i64 (i : Int)) rfl rfl) ?_
      refine sq 5 rfl rfl (Y_assign (v := .int .i64 x) rfl rfl) ?_
      refine rw_nil ?_
      refine cw_seq ?_
      refine cw_region ?_
      refine sq 12 rfl rfl (Y_move (v := .int .i64 (i : Int)) rfl rfl) ?_
      refine sq 13 rfl rfl (Y_gt (k := .i64) (a := (i : Int)) (b := 0) rfl rfl rfl) ?_
      refine sq 14 rfl rfl (Y_move (v := .bool (decide (0 < (i : Int)))) rfl rfl) ?_
      refine sgq 15 (B := (decide (0 < (i : Int)))) (v := .int .i64 x) rfl rfl (wt_t (gd_of (t := 14) (by kernel_rfl) rfl)) (fun hg => (Y_move (v := .int .i64 x) rfl rfl)) ?_
      refine sgq 16 (B := (decide (0 < (i : Int)))) (v := .bool (decide (0 < x))) rfl rfl (wt_t (gd_of (t := 14) (by kernel_rfl) rfl)) (fun hg1 => (Y_gt (k := .i64) (a := x) (b := 0) rfl (gv_of (B := (decide (0 < (i : Int)))) (v := .int .i64 x) hg1) rfl)) ?_
      refine sq 17 rfl rfl (Y_and (b := (decide (0 < (i : Int)))) (z := (decide (0 < x))) rfl rfl rfl rfl) ?_
      refine rw_nil ?_
      refine cw_cond (b := ((decide (0 < (i : Int))) && (decide (0 < x)))) rfl (fun hb1 => ?_) (fun hb1 => ?_)
      · skip
        have hF3 := ct hz1 hb1
        refine cw_region ?_
        refine sq 18 rfl rfl (Y_move (v := .slice B1 out.length c2) rfl (hf.get 3 0 rfl)) ?_
        refine sq 19 rfl rfl (Y_move (v := .int .i64 (i : Int)) rfl rfl) ?_
        refine sq 20 rfl rfl (Y_move (v := .int .i64 x) rfl rfl) ?_
        refine sq 21 rfl rfl (Y_buildS (zs := [.int .i64 0, .int .i64 0]) (vs := [(0, .int .i64 (i : Int)), (1, .int .i64 x)]) (cs := [.int .i64 (i : Int), .int .i64 x]) k_pl_112 k_zero_112 rfl (mpc rfl (mpc rfl mpn)) rfl) ?_
        refine ss 22 rfl rfl (Ys_bslice (s := 2) (len := 1) (vs := [(0, .agg #[.int .i64 (i : Int), .int .i64 x])]) (cs := [.int .i64 (i : Int), .int .i64 x]) (zs := [.int .i64 0, .int .i64 0]) (m := 2) hS3 k_sl_40_112 k_sz_112_2 k_zc_112 rfl (mpc rfl mpn) rfl rfl rfl (by kernel_rfl) (by kernel_rfl) rfl) ?_
        rintro _ w_2 ⟨b2, rfl, hS5⟩
        have hS5 : ST w0 [] _ [⟨B1, 112, (out.flatMap enc_Term), c2 * 2⟩, ⟨some ⟨b2, 0, none⟩, 112, ([(TTerm.mk (i : Int) x)].flatMap enc_Term), 1 * 2⟩] [] := hS5
        obtain ⟨hap, hF3⟩ := chk_inv hF3
        refine ss 23 rfl rfl (Ys_append (s := 2) (by' := 16) (i := 0) (nn := out.length) (c := c2) (k := 1) (len := (out ++ [(TTerm.mk (i : Int) x)]).length) (B := B1) (xs := ([(TTerm.mk (i : Int) x)].flatMap enc_Term)) (cs' := ((out ++ [(TTerm.mk (i : Int) x)]).flatMap enc_Term)) hS5 k_sl_40_112 k_sz_112_2 k_by_112_16 k_zero_112 rfl (by decide) rfl rfl rfl rfl (fm_lenn (l := out) enc_Term_len rfl) rfl (hS5.cf (i := 1) rfl) (fm_lenn (l := [(TTerm.mk (i : Int) x)]) enc_Term_len rfl) (fm_one' (enc := enc_Term) enc_Term_one [(TTerm.mk (i : Int) x)]) (by have := hap; omega) (by have := hap; simp only [maxLen]; omega) (fm_app _ _) (app_len (l := out) (l' := [(TTerm.mk (i : Int) x)]) rfl rfl)) ?_
        rintro _ w_3 ⟨B3, c4, rfl, hS6⟩
        have hS6 : ST w0 [] _ [⟨B3, 112, ((out ++ [(TTerm.mk (i : Int) x)]).flatMap enc_Term), c4 * 2⟩, ⟨some ⟨b2, 0, none⟩, 112, ([(TTerm.mk (i : Int) x)].flatMap enc_Term), 1 * 2⟩] [] := hS6
        refine sq 3 rfl rfl (Y_assign (v := .slice B3 ((out ++ [(TTerm.mk (i : Int) x)]).length) c4) rfl rfl) ?_
        refine rw_nil ?_
        exact ⟨(out ++ [(TTerm.mk (i : Int) x)]), B3, c4, (some_inj hF3), (FF.cons rfl (FF.cons (hf.get 7 1 rfl) (FF.cons (hf.get 8 2 rfl) FF.nil))), (hS6.sel [0] rfl rfl)⟩
      · skip
        have hF4 := cf' hz1 hb1
        refine cw_skip ?_
        exact ⟨out, B1, c2, (some_inj hF4), (FF.cons (hf.get 3 0 rfl) (FF.cons (hf.get 7 1 rfl) (FF.cons (hf.get 8 2 rfl) FF.nil))), (hS3.sel [0] rfl rfl)⟩
    rintro f w ⟨out1, B2, c3, rfl, hf1, hS4⟩
    refine cw_region ?_
    refine sq 24 rfl rfl (Y_add (k := .i64) (a := (i : Int)) (b := 1) rfl (hf1.get 8 2 rfl) rfl) ?_
    refine sq 8 rfl rfl (Y_move (v := .int .i64 (IntKind.i64.wrap ((i : Int) + 1))) rfl rfl) ?_
    refine rw_nil ?_
    obtain rfl := some_inj hF2
    exact ⟨k_1, Nat.lt_succ_self _, i + 1, out1, B2, c3, (FF.cons (hf1.get 3 0 rfl) (FF.cons (hf1.get 7 1 rfl) (FF.cons (congrArg (Value.int .i64) (wr_succ hlt1 (show 32 ≤ 9223372036854775807 by decide))) FF.nil))), (hS4.sel [0] rfl rfl), (by omega), hL1⟩
  · skip
    obtain rfl : k_ = 0 := by have h := of_decide_eq_false hlt; omega
    refine cw_exit rfl ?_
    obtain rfl := some_inj hL
    refine cw_seq ?_
    refine cw_region ?_
    refine sq 25 rfl rfl (Y_move (v := .slice B1 out.length c2) rfl (hf.get 3 0 rfl)) ?_
    refine sq 2 rfl rfl (Y_assign (v := .slice B1 out.length c2) rfl rfl) ?_
    refine rw_nil ?_
    refine cw_ret ?_
    obtain rfl := some_inj hF1
    exact ret1 Try.results79 (v1 := .slice B1 out.length c2) (resAt_tmp rfl) ⟨B1, c2, rfl, (ST.subR (R' := []) (hS3.sel [0] rfl rfl) (fun _ h => by cases h))⟩

theorem c_impl_Linear_through (m : TLinear) (mask : Int) (B : Option Addr) (c n : Nat) (w0 : World) (hn : m.Rows.length = n) (hS : ST w0 [] w0 [] [⟨B, (m.Rows.flatMap encI)⟩]) {r_ : Int} (hF : F_impl_Linear_through m mask = some r_) :
    CV Try.prog 91 #[.agg #[.slice B n c], .int .i64 mask] w0 (fun v w' => v = .int .i64 r_ ∧ ST w0 [] w' [] []) := by
  subst hn
  unfold F_impl_Linear_through at hF
  refine cv_of_cw 26 Try.func91 rfl Try.ntmps91 rfl ?_
  refine cw_seq ?_
  refine cw_region ?_
  refine ss 2 rfl rfl (Ys_box (T := 43) (v := .agg #[.slice B m.Rows.length c]) (cs := [.slice B m.Rows.length c]) (m := 1) hS rfl rfl rfl rfl) ?_
  rintro _ w_ ⟨b, rfl, hS1⟩
  refine sq 4 rfl rfl (Y_assign (v := .int .i64 0) rfl rfl) ?_
  refine rw_nil ?_
  refine cw_seq ?_
  refine cw_region ?_
  refine sq 5 rfl rfl (Y_assign (v := .int .i64 0) rfl rfl) ?_
  refine rw_nil ?_
  refine cw_seq ?_
  refine cw_seq ?_
  refine cw_region ?_
  refine sq 8 rfl rfl (Y_fieldAddr (B := some ⟨b, 0, none⟩) (i := 0) (s := 0) k_fd_43_0_0_34 k_sz_34_1 rfl rfl) ?_
  refine sq 9 rfl rfl (Y_load1 (B := some ⟨b, 0, none⟩) (i := 0) (cs := [.slice B m.Rows.length c]) (v := .slice B m.Rows.length c) k_sc_34 rfl rfl (hS1.cf (i := 0) rfl) rfl) ?_
  refine sq 10 rfl rfl (Y_len (B := B) (m := m.Rows.length) (c := c) k_sl_34_3 rfl rfl) ?_
  refine sq 11 rfl rfl (Y_move (v := .int .i64 0) rfl rfl) ?_
  refine rw_nil ?_
  obtain ⟨hN, hF⟩ := chk_inv hF
  obtain ⟨z, hz, hF1⟩ := bind_inv hF
  refine cw_block ?_
  refine cw_loop (fun k f w => ∃ (i : Nat) (out : Int), FF f [(1, .int .i64 mask), (5, .int .i64 out), (9, .slice B m.Rows.length c), (10, .int .i64 (m.Rows.length : Int)), (11, .int .i64 (i : Int))] ∧ ST w0 [] w [] [⟨B, (m.Rows.flatMap encI)⟩] ∧ i + k = m.Rows.length ∧ forN (F_impl_Linear_through_l1 m mask) k i out = some z) m.Rows.length ⟨0, 0, (FF.cons rfl (FF.cons rfl (FF.cons rfl (FF.cons rfl (FF.cons rfl FF.nil))))), (hS1.sel [] rfl rfl), Nat.zero_add _, hz⟩ ?_
  rintro k_ f w ⟨i, out, hf, hS2, hik, hL⟩
  refine cw_seq ?_
  refine cw_region ?_
  refine sq 12 rfl rfl (Y_lt (k := .i64) (a := (i : Int)) (b := (m.Rows.length : Int)) rfl (hf.get 11 4 rfl) (hf.get 10 3 rfl)) ?_
  refine rw_nil ?_
  refine cw_seq ?_
  refine cw_cond (b := (decide ((i : Int) < (m.Rows.length : Int)))) rfl (fun hlt => ?_) (fun hlt => ?_)
  · skip
    have hlt1 : i < m.Rows.length := by have h := of_decide_eq_true hlt; omega
    obtain ⟨k_1, rfl⟩ : ∃ k2, k_ = k2 + 1 := ⟨k_ - 1, by omega⟩
    obtain ⟨y, hb, hL1⟩ := forN_go hL
    unfold F_impl_Linear_through_l1 at hb
    refine cw_skip ?_
    refine cw_seq ?_
    obtain ⟨z1, hz1, hF2⟩ := bind_inv hb
    refine cw_mid (fun f w => ∃ (out1 : Int), out1 = z1 ∧ FF f [(1, .int .i64 mask), (5, .int .i64 out1), (9, .slice B m.Rows.length c), (10, .int .i64 (m.Rows.length : Int)), (11, .int .i64 (i : Int))] ∧ ST w0 [] w [] [⟨B, (m.Rows.flatMap encI)⟩]) ?_ ?_
    · skip
      refine cw_block ?_
      refine cw_seq ?_
      refine cw_region ?_
      refine sq 13 rfl rfl (Y_move (v := .int .i64 (i : Int)) rfl (hf.get 11 4 rfl)) ?_
      obtain ⟨x, hx, hz1⟩ := bind_inv hz1
      refine sq 14 rfl rfl (Y_index (B := B) (m := m.Rows.length) (c := c) (k := .i64) (i := (i : Int)) k_sl_34_3 k_sz_3_1 rfl (hf.get 9 2 rfl) (hf.get 11 4 rfl) (gi_isSome encI_len rfl (hS2.rf (i := 0) rfl) hx) (getI_nn hx) (getI_ltI hx rfl)) ?_
      refine sq 15 rfl rfl (Y_load1 (B := B) (i := (i : Int).toNat * 1) (cs := (m.Rows.flatMap encI)) (v := .int .i64 x) k_sc_3 rfl rfl (hS2.rf (i := 0) rfl) (gi_at0 encI_len hx rfl)) ?_
      refine sq 6 rfl rfl (Y_assign (v := .int .i64 (i : Int)) rfl rfl) ?_
      refine sq 7 rfl rfl (Y_assign (v := .int .i64 x) rfl rfl) ?_
      refine rw_nil ?_
      refine cw_seq ?_
      refine cw_region ?_
      refine sq 16 rfl rfl (Y_move (v := .int .i64 mask) rfl (hf.get 1 0 rfl)) ?_
      refine sq 17 rfl rfl (Y_move (v := .int .i64 (i : Int)) rfl rfl) ?_
      obtain ⟨hsh, hz1⟩ := chk_inv hz1
      refine sq 18 rfl rfl (Y_shr (k := .i64) (a := mask) (k' := .i64) (b := (i : Int)) rfl rfl rfl hsh) ?_
      refine sq 19 rfl rfl (Y_band (k := .i64) (a := (shrK .i64 mask (i : Int))) (b := 1) rfl rfl rfl) ?_
      refine sq 20 rfl rfl (Y_eq (k := .i64) (a := (bits .and .i64 (shrK .i64 mask (i : Int)) 1)) (b := 1) rfl rfl rfl) ?_
      refine rw_nil ?_
      refine cw_cond (b := ((bits .and .i64 (shrK .i64 mask (i : Int)) 1) == 1)) rfl (fun hb1 => ?_) (fun hb1 => ?_)
      · skip
        have hF3 := ct hz1 hb1
        refine cw_region ?_
        refine sq 21 rfl rfl (Y_move (v := .int .i64 out) rfl (hf.get 5 1 rfl)) ?_
        refine sq 22 rfl rfl (Y_move (v := .int .i64 x) rfl rfl) ?_
        refine sq 23 rfl rfl (Y_bxor (k := .i64) (a := out) (b := x) rfl rfl rfl) ?_
        refine sq 5 rfl rfl (Y_assign (v := .int .i64 (bits .xor .i64 out x)) rfl rfl) ?_
        refine rw_nil ?_
        exact ⟨(bits .xor .i64 out x), (some_inj hF3), (FF.cons (hf.get 1 0 rfl) (FF.cons rfl (FF.cons (hf.get 9 2 rfl) (FF.cons (hf.get 10 3 rfl) (FF.cons (hf.get 11 4 rfl) FF.nil))))), (hS2.sel [] rfl rfl)⟩
      · skip
        have hF4 := cf' hz1 hb1
        refine cw_skip ?_
        exact ⟨out, (some_inj hF4), (FF.cons (hf.get 1 0 rfl) (FF.cons (hf.get 5 1 rfl) (FF.cons (hf.get 9 2 rfl) (FF.cons (hf.get 10 3 rfl) (FF.cons (hf.get 11 4 rfl) FF.nil))))), (hS2.sel [] rfl rfl)⟩
    rintro f w ⟨out1, rfl, hf1, hS3⟩
    refine cw_region ?_
    refine sq 24 rfl rfl (Y_add (k := .i64) (a := (i : Int)) (b := 1) rfl (hf1.get 11 4 rfl) rfl) ?_
    refine sq 11 rfl rfl (Y_move (v := .int .i64 (IntKind.i64.wrap ((i : Int) + 1))) rfl rfl) ?_
    refine rw_nil ?_
    obtain rfl := some_inj hF2
    exact ⟨k_1, Nat.lt_succ_self _, i + 1, out1, (FF.cons (hf1.get 1 0 rfl) (FF.cons (hf1.get 5 1 rfl) (FF.cons (hf1.get 9 2 rfl) (FF.cons (hf1.get 10 3 rfl) (FF.cons (congrArg (Value.int .i64) (wr_succ hlt1 hN)) FF.nil))))), (hS3.sel [] rfl rfl), (by omega), hL1⟩
  · skip
    obtain rfl : k_ = 0 := by have h := of_decide_eq_false hlt; omega
    refine cw_exit rfl ?_
    obtain rfl := some_inj hL
    refine cw_seq ?_
    refine cw_region ?_
    refine sq 25 rfl rfl (Y_move (v := .int .i64 out) rfl (hf.get 5 1 rfl)) ?_
    refine sq 4 rfl rfl (Y_assign (v := .int .i64 out) rfl rfl) ?_
    refine rw_nil ?_
    refine cw_ret ?_
    obtain rfl := some_inj hF1
    exact ret1 Try.results91 (v1 := .int .i64 out) (resAt_tmp rfl) ⟨rfl, (ST.subR (R' := []) (hS2.sel [] rfl rfl) (fun _ h => by cases h))⟩

theorem c_impl_identityLinear (n : Int)  (w0 : World)  (hS : ST w0 [] w0 [] []) {r_ : TLinear} (hF : F_impl_identityLinear n = some r_) :
    CV Try.prog 173 #[.int .i64 n] w0 (fun v w' => ∃ (B : Option Addr) (c : Nat), v = .agg #[.slice B r_.Rows.length c] ∧ ST w0 [] w' [⟨B, 3, (r_.Rows.flatMap encI), c * 1⟩] []) := by
  unfold F_impl_identityLinear at hF
  refine cv_of_cw 19 Try.func173 rfl Try.ntmps173 rfl ?_
  refine cw_seq ?_
  refine cw_region ?_
  refine ss 2 rfl rfl (Ys_alloc (T := 43) (cs := [.slice none 0 0]) (m := 1) hS k_zero_43 rfl rfl rfl) ?_
  rintro _ w_ ⟨b, rfl, hS1⟩
  refine rw_nil ?_
  refine cw_seq ?_
  refine cw_region ?_
  refine sq 5 rfl rfl (Y_buildS (zs := [.slice none 0 0]) (vs := []) (cs := [.slice none 0 0]) k_pl_43 k_zero_43 rfl mpn rfl) ?_
  refine ss 3 rfl rfl (Ys_alloc (T := 43) (cs := [.slice none 0 0]) (m := 1) hS1 k_zero_43 rfl rfl rfl) ?_
  rintro _ w_1 ⟨b1, rfl, hS2⟩
  have hS2 : ST w0 [] _ [⟨some ⟨b, 0, none⟩, 43, [.slice none 0 0], 1⟩, ⟨some ⟨b1, 0, none⟩, 43, [.slice none 0 0], 1⟩] [] := hS2
  refine ss0 rfl rfl (Ys_store (i := 1) (s := 1) (B := some ⟨b1, 0, none⟩) (T' := 43) (v := .agg #[.slice none 0 0]) (vs := [.slice none 0 0]) (k := 0) (cs' := [.slice none 0 0]) hS2 k_sz_43_1 rfl rfl rfl rfl rfl rfl rfl (Nat.le_of_ble_eq_true rfl) rfl rfl) ?_
  rintro _ w_2 ⟨rfl, hS3⟩
  have hS3 : ST w0 [] _ [⟨some ⟨b, 0, none⟩, 43, [.slice none 0 0], 1⟩, ⟨some ⟨b1, 0, none⟩, 43, [.slice none 0 0], 1⟩] [] := hS3
  refine rw_nil ?_
  refine cw_seq ?_
  refine cw_seq ?_
  refine cw_region ?_
  refine sq 6 rfl rfl (Y_move (v := .int .i64 n) rfl rfl) ?_
  refine sq 7 rfl rfl (Y_move (v := .int .i64 0) rfl rfl) ?_
  refine rw_nil ?_
  obtain ⟨hN, hF⟩ := chk_inv hF
  obtain ⟨z, hz, hF1⟩ := bind_inv hF
  have hS5 := hS3.addNil 3
  refine cw_block ?_
  refine cw_loop (fun k f w => ∃ (i : Nat) (Rows : List Int) (B1 : Option Addr) (c1 : Nat), FF f [(2, pt (some ⟨b, 0, none⟩) 0), (3, pt (some ⟨b1, 0, none⟩) 0), (6, .int .i64 n), (7, .int .i64 (i : Int))] ∧ ST w0 [] w [⟨some ⟨b, 0, none⟩, 43, [.slice none 0 0], 1⟩, ⟨some ⟨b1, 0, none⟩, 43, [.slice B1 Rows.length c1], 1⟩, ⟨B1, 3, (Rows.flatMap encI), c1 * 1⟩] [] ∧ i + k = n.toNat ∧ forN F_impl_identityLinear_l1 k i Rows = some z) n.toNat ⟨0, [], none, 0, (FF.cons rfl (FF.cons rfl (FF.cons rfl (FF.cons rfl FF.nil)))), (hS5.sel [0, 1, 2] rfl rfl), Nat.zero_add _, hz⟩ ?_
  rintro k_ f w ⟨i, Rows, B1, c1, hf, hS4, hik, hL⟩
  refine cw_seq ?_
  refine cw_region ?_
  refine sq 8 rfl rfl (Y_lt (k := .i64) (a := (i : Int)) (b := n) rfl (hf.get 7 3 rfl) (hf.get 6 2 rfl)) ?_
  refine rw_nil ?_
  refine cw_seq ?_
  refine cw_cond (b := (decide ((i : Int) < n))) rfl (fun hlt => ?_) (fun hlt => ?_)
  · skip
    have hlt1 : i < n.toNat := by have h := of_decide_eq_true hlt; omega
    obtain ⟨k_1, rfl⟩ : ∃ k2, k_ = k2 + 1 := ⟨k_ - 1, by omega⟩
    obtain ⟨y, hb, hL1⟩ := forN_go hL
    unfold F_impl_identityLinear_l1 at hb
    refine cw_skip ?_
    refine cw_seq ?_
    refine cw_block ?_
    refine cw_seq ?_
    refine cw_region ?_
    refine sq 9 rfl rfl (Y_move (v := .int .i64 (i : Int)) rfl (hf.get 7 3 rfl)) ?_
    refine sq 4 rfl rfl (Y_assign (v := .int .i64 (i : Int)) rfl rfl) ?_
    refine rw_nil ?_
    obtain ⟨hsh, hb⟩ := chk_inv hb
    obtain ⟨hap, hb⟩ := chk_inv hb
    refine cw_mid (fun f w => ∃ (B3 : Option Addr) (c3 : Nat), FF f [(2, pt (some ⟨b, 0, none⟩) 0), (3, pt (some ⟨b1, 0, none⟩) 0), (6, .int .i64 n), (7, .int .i64 (i : Int))] ∧ ST w0 [] w [⟨some ⟨b, 0, none⟩, 43, [.slice none 0 0], 1⟩, ⟨some ⟨b1, 0, none⟩, 43, [.slice B3 ((Rows ++ [(shlK .i64 1 (i : Int))]).length) c3], 1⟩, ⟨B3, 3, ((Rows ++ [(shlK .i64 1 (i : Int))]).flatMap encI), c3 * 1⟩] []) ?_ ?_
    · skip
      refine ra_start (ST.sel hS4 [0] rfl rfl).fn (by kernel_rfl) ?_
      have hS7 := hS4.drew
      refine ra_q 0 10 (v := pt (some ⟨b1, 0, none⟩) 0) rfl rfl rfl (by kernel_rfl) (by kernel_rfl) (by kernel_rfl) (ST.sel hS7 [0] rfl rfl) (fun w' hw' => (Y_fieldAddr (B := some ⟨b1, 0, none⟩) (i := 0) (s := 0) k_fd_43_0_0_34 k_sz_34_1 rfl (hf.get 3 1 rfl))) ?_
      refine ra_q 2 12 (v := .int .i64 (i : Int)) rfl rfl rfl (by kernel_rfl) (by kernel_rfl) (by kernel_rfl) (ST.sel hS7 [0] rfl rfl) (fun w' hw' => (Y_move (v := .int .i64 (i : Int)) rfl rfl)) ?_
      refine ra_q 3 13 (v := .int .i64 (shlK .i64 1 (i : Int))) rfl rfl rfl (by kernel_rfl) (by kernel_rfl) (by kernel_rfl) (ST.sel hS7 [0] rfl rfl) (fun w' hw' => (Y_shl (k := .i64) (a := 1) (k' := .i64) (b := (i : Int)) rfl rfl rfl hsh)) ?_
      refine ra_all (rs := [1, 4]) (by kernel_rfl) rfl ?_
      refine ra_y 11 (i := 1) (v := .slice B1 Rows.length c1) rfl rfl rfl (Y_load1 (B := some ⟨b1, 0, none⟩) (i := 0) (cs := [.slice B1 Rows.length c1]) (v := .slice B1 Rows.length c1) k_sc_34 rfl rfl (hS7.cf (i := 1) rfl) rfl) (ST.sel hS7 [0] rfl rfl) ?_ ?_
      · skip
        refine ra_all (rs := [4]) (by kernel_rfl) rfl ?_
        refine ra_s 14 (i := 4) rfl rfl rfl (Ys_bslice (s := 1) (len := 1) (vs := [(0, .int .i64 (shlK .i64 1 (i : Int)))]) (cs := [.int .i64 (shlK .i64 1 (i : Int))]) (zs := [.int .i64 0]) (m := 1) hS7 k_sl_34_3 k_sz_3_1 k_zc_3 rfl (mpc rfl mpn) rfl rfl rfl (by kernel_rfl) (by kernel_rfl) rfl) ?_ ?_
        · rintro _ w_3 ⟨b2, rfl, hS8⟩
          have hS8 : ST w0 [] _ [⟨some ⟨b, 0, none⟩, 43, [.slice none 0 0], 1⟩, ⟨some ⟨b1, 0, none⟩, 43, [.slice B1 Rows.length c1], 1⟩, ⟨B1, 3, (Rows.flatMap encI), c1 * 1⟩, ⟨some ⟨b2, 0, none⟩, 3, ([(shlK .i64 1 (i : Int))].flatMap encI), 1 * 1⟩] [] := hS8
          refine ⟨(ST.sel hS8 [0] rfl rfl), ?_⟩
          refine ra_all (rs := [5]) (by kernel_rfl) rfl ?_
          refine ra_s 15 (i := 5) rfl rfl rfl (Ys_append (s := 1) (by' := 8) (i := 2) (nn := Rows.length) (c := c1) (k := 1) (len := (Rows ++ [(shlK .i64 1 (i : Int))]).length) (B := B1) (xs := ([(shlK .i64 1 (i : Int))].flatMap encI)) (cs' := ((Rows ++ [(shlK .i64 1 (i : Int))]).flatMap encI)) hS8 k_sl_34_3 k_sz_3_1 k_by_3_8 k_zero_3 rfl (by decide) rfl rfl rfl rfl (fm_lenn (l := Rows) encI_len rfl) rfl (hS8.cf (i := 3) rfl) (fm_lenn (l := [(shlK .i64 1 (i : Int))]) encI_len rfl) (fm_one' (enc := encI) encI_one [(shlK .i64 1 (i : Int))]) (by have := hap; omega) (by have := hap; simp only [maxLen]; omega) (fm_app _ _) (app_len (l := Rows) (l' := [(shlK .i64 1 (i : Int))]) rfl rfl)) ?_ ?_
          · rintro _ w_4 ⟨B2, c2, rfl, hS9⟩
            have hS9 : ST w0 [] _ [⟨some ⟨b, 0, none⟩, 43, [.slice none 0 0], 1⟩, ⟨some ⟨b1, 0, none⟩, 43, [.slice B1 Rows.length c1], 1⟩, ⟨B2, 3, ((Rows ++ [(shlK .i64 1 (i : Int))]).flatMap encI), c2 * 1⟩, ⟨some ⟨b2, 0, none⟩, 3, ([(shlK .i64 1 (i : Int))].flatMap encI), 1 * 1⟩] [] := hS9
            refine ⟨(ST.sel hS9 [0] rfl rfl), ?_⟩
            refine ra_q 6 16 (v := pt (some ⟨b1, 0, none⟩) 0) rfl rfl rfl (by kernel_rfl) (by kernel_rfl) (by kernel_rfl) (ST.sel hS9 [0] rfl rfl) (fun w' hw' => (Y_fieldAddr (B := some ⟨b1, 0, none⟩) (i := 0) (s := 0) k_fd_43_0_0_34 k_sz_34_1 rfl (hf.get 3 1 rfl))) ?_
            refine ra_all (rs := [7]) (by kernel_rfl) rfl ?_
            refine ra_s0 (i := 7) rfl rfl rfl (Ys_store (i := 1) (s := 1) (B := some ⟨b1, 0, none⟩) (T' := 43) (v := .slice B2 ((Rows ++ [(shlK .i64 1 (i : Int))]).length) c2) (vs := [.slice B2 ((Rows ++ [(shlK .i64 1 (i : Int))]).length) c2]) (k := 0) (cs' := [.slice B2 ((Rows ++ [(shlK .i64 1 (i : Int))]).length) c2]) hS9 k_sz_34_1 rfl rfl rfl rfl rfl rfl rfl (Nat.le_of_ble_eq_true rfl) rfl rfl) ?_ ?_
            · rintro _ w_5 ⟨rfl, hS10⟩
              have hS10 : ST w0 [] _ [⟨some ⟨b, 0, none⟩, 43, [.slice none 0 0], 1⟩, ⟨some ⟨b1, 0, none⟩, 43, [.slice B2 ((Rows ++ [(shlK .i64 1 (i : Int))]).length) c2], 1⟩, ⟨B2, 3, ((Rows ++ [(shlK .i64 1 (i : Int))]).flatMap encI), c2 * 1⟩, ⟨some ⟨b2, 0, none⟩, 3, ([(shlK .i64 1 (i : Int))].flatMap encI), 1 * 1⟩] [] := hS10
              refine ⟨(ST.sel hS10 [0] rfl rfl), ?_⟩
              refine ra_done (by kernel_rfl) ?_
              exact ⟨B2, c2, (FF.cons (hf.get 2 0 rfl) (FF.cons (hf.get 3 1 rfl) (FF.cons (hf.get 6 2 rfl) (FF.cons (hf.get 7 3 rfl) FF.nil)))), (hS10.sel [0, 1, 2] rfl rfl)⟩
            exact allR_nil
          exact allR_nil
        exact allR_nil
      refine ra_s 14 (i := 4) rfl rfl rfl (Ys_bslice (s := 1) (len := 1) (vs := [(0, .int .i64 (shlK .i64 1 (i : Int)))]) (cs := [.int .i64 (shlK .i64 1 (i : Int))]) (zs := [.int .i64 0]) (m := 1) hS7 k_sl_34_3 k_sz_3_1 k_zc_3 rfl (mpc rfl mpn) rfl rfl rfl (by kernel_rfl) (by kernel_rfl) rfl) ?_ ?_
      · rintro _ w_6 ⟨b2, rfl, hS11⟩
        have hS11 : ST w0 [] _ [⟨some ⟨b, 0, none⟩, 43, [.slice none 0 0], 1⟩, ⟨some ⟨b1, 0, none⟩, 43, [.slice B1 Rows.length c1], 1⟩, ⟨B1, 3, (Rows.flatMap encI), c1 * 1⟩, ⟨some ⟨b2, 0, none⟩, 3, ([(shlK .i64 1 (i : Int))].flatMap encI), 1 * 1⟩] [] := hS11
        refine ⟨(ST.sel hS11 [0] rfl rfl), ?_⟩
        refine ra_all (rs := [1]) (by kernel_rfl) rfl ?_
        refine ra_y 11 (i := 1) (v := .slice B1 Rows.length c1) rfl rfl rfl (Y_load1 (B := some ⟨b1, 0, none⟩) (i := 0) (cs := [.slice B1 Rows.length c1]) (v := .slice B1 Rows.length c1) k_sc_34 rfl rfl (hS11.cf (i := 1) rfl) rfl) (ST.sel hS11 [0] rfl rfl) ?_ ?_
        · skip
          refine ra_all (rs := [5]) (by kernel_rfl) rfl ?_
          refine ra_s 15 (i := 5) rfl rfl rfl (Ys_append (s := 1) (by' := 8) (i := 2) (nn := Rows.length) (c := c1) (k := 1) (len := (Rows ++ [(shlK .i64 1 (i : Int))]).length) (B := B1) (xs := ([(shlK .i64 1 (i : Int))].flatMap encI)) (cs' := ((Rows ++ [(shlK .i64 1 (i : Int))]).flatMap encI)) hS11 k_sl_34_3 k_sz_3_1 k_by_3_8 k_zero_3 rfl (by decide) rfl rfl rfl rfl (fm_lenn (l := Rows) encI_len rfl) rfl (hS11.cf (i := 3) rfl) (fm_lenn (l := [(shlK .i64 1 (i : Int))]) encI_len rfl) (fm_one' (enc := encI) encI_one [(shlK .i64 1 (i : Int))]) (by have := hap; omega) (by have := hap; simp only [maxLen]; omega) (fm_app _ _) (app_len (l := Rows) (l' := [(shlK .i64 1 (i : Int))]) rfl rfl)) ?_ ?_
          · rintro _ w_7 ⟨B2, c2, rfl, hS12⟩
            have hS12 : ST w0 [] _ [⟨some ⟨b, 0, none⟩, 43, [.slice none 0 0], 1⟩, ⟨some ⟨b1, 0, none⟩, 43, [.slice B1 Rows.length c1], 1⟩, ⟨B2, 3, ((Rows ++ [(shlK .i64 1 (i : Int))]).flatMap encI), c2 * 1⟩, ⟨some ⟨b2, 0, none⟩, 3, ([(shlK .i64 1 (i : Int))].flatMap encI), 1 * 1⟩] [] := hS12
            refine ⟨(ST.sel hS12 [0] rfl rfl), ?_⟩
            refine ra_q 6 16 (v := pt (some ⟨b1, 0, none⟩) 0) rfl rfl rfl (by kernel_rfl) (by kernel_rfl) (by kernel_rfl) (ST.sel hS12 [0] rfl rfl) (fun w' hw' => (Y_fieldAddr (B := some ⟨b1, 0, none⟩) (i := 0) (s := 0) k_fd_43_0_0_34 k_sz_34_1 rfl (hf.get 3 1 rfl))) ?_
            refine ra_all (rs := [7]) (by kernel_rfl) rfl ?_
            refine ra_s0 (i := 7) rfl rfl rfl (Ys_store (i := 1) (s := 1) (B := some ⟨b1, 0, none⟩) (T' := 43) (v := .slice B2 ((Rows ++ [(shlK .i64 1 (i : Int))]).length) c2) (vs := [.slice B2 ((Rows ++ [(shlK .i64 1 (i : Int))]).length) c2]) (k := 0) (cs' := [.slice B2 ((Rows ++ [(shlK .i64 1 (i : Int))]).length) c2]) hS12 k_sz_34_1 rfl rfl rfl rfl rfl rfl rfl (Nat.le_of_ble_eq_true rfl) rfl rfl) ?_ ?_
            · rintro _ w_8 ⟨rfl, hS13⟩
              have hS13 : ST w0 [] _ [⟨some ⟨b, 0, none⟩, 43, [.slice none 0 0], 1⟩, ⟨some ⟨b1, 0, none⟩, 43, [.slice B2 ((Rows ++ [(shlK .i64 1 (i : Int))]).length) c2], 1⟩, ⟨B2, 3, ((Rows ++ [(shlK .i64 1 (i : Int))]).flatMap encI), c2 * 1⟩, ⟨some ⟨b2, 0, none⟩, 3, ([(shlK .i64 1 (i : Int))].flatMap encI), 1 * 1⟩] [] := hS13
              refine ⟨(ST.sel hS13 [0] rfl rfl), ?_⟩
              refine ra_done (by kernel_rfl) ?_
              exact ⟨B2, c2, (FF.cons (hf.get 2 0 rfl) (FF.cons (hf.get 3 1 rfl) (FF.cons (hf.get 6 2 rfl) (FF.cons (hf.get 7 3 rfl) FF.nil)))), (hS13.sel [0, 1, 2] rfl rfl)⟩
            exact allR_nil
          exact allR_nil
        exact allR_nil
      exact allR_nil
    rintro f w ⟨B3, c3, hf1, hS6⟩
    refine cw_region ?_
    refine sq 17 rfl rfl (Y_add (k := .i64) (a := (i : Int)) (b := 1) rfl (hf1.get 7 3 rfl) rfl) ?_
    refine sq 7 rfl rfl (Y_move (v := .int .i64 (IntKind.i64.wrap ((i : Int) + 1))) rfl rfl) ?_
    refine rw_nil ?_
    obtain rfl := some_inj hb
    exact ⟨k_1, Nat.lt_succ_self _, i + 1, (Rows ++ [(shlK .i64 1 (i : Int))]), B3, c3, (FF.cons (hf1.get 2 0 rfl) (FF.cons (hf1.get 3 1 rfl) (FF.cons (hf1.get 6 2 rfl) (FF.cons (congrArg (Value.int .i64) (wr_succ hlt1 hN)) FF.nil)))), (hS6.sel [0, 1, 2] rfl rfl), (by omega), hL1⟩
  · skip
    obtain rfl : k_ = 0 := by have h := of_decide_eq_false hlt; omega
    refine cw_exit rfl ?_
    obtain rfl := some_inj hL
    refine cw_seq ?_
    refine cw_region ?_
    refine sq 18 rfl rfl (Y_loadA (B := some ⟨b1, 0, none⟩) (i := 0) (cs := [.slice B1 Rows.length c1]) (vs := [.slice B1 Rows.length c1]) k_ag_43 k_sz_43_1 rfl (hf.get 3 1 rfl) (hS4.cf (i := 1) rfl) rfl rfl) ?_
    refine ss0 rfl rfl (Ys_store (i := 0) (s := 1) (B := some ⟨b, 0, none⟩) (T' := 43) (v := .agg #[.slice B1 Rows.length c1]) (vs := [.slice B1 Rows.length c1]) (k := 0) (cs' := [.slice B1 Rows.length c1]) hS4 k_sz_43_1 rfl (hf.get 2 0 rfl) rfl rfl rfl rfl rfl (Nat.le_of_ble_eq_true rfl) rfl rfl) ?_
    rintro _ w_9 ⟨rfl, hS14⟩
    have hS14 : ST w0 [] _ [⟨some ⟨b, 0, none⟩, 43, [.slice B1 Rows.length c1], 1⟩, ⟨some ⟨b1, 0, none⟩, 43, [.slice B1 Rows.length c1], 1⟩, ⟨B1, 3, (Rows.flatMap encI), c1 * 1⟩] [] := hS14
    refine rw_nil ?_
    refine cw_ret ?_
    obtain rfl := some_inj hF1
    exact ret1 Try.results173 (v1 := .agg #[.slice B1 Rows.length c1]) (resAt_cellA (B := some ⟨b, 0, none⟩) (i := 0) (cs := [.slice B1 Rows.length c1]) (vs := [.slice B1 Rows.length c1]) (hf.get 2 0 rfl) k_ag_43 k_sz_43_1 (hS14.cf (i := 0) rfl) rfl rfl) ⟨B1, c1, rfl, (ST.subR (R' := []) (hS14.sel [2] rfl rfl) (fun _ h => by cases h))⟩

theorem c_impl_eliminated_1 (from_ : Int) (to_ : Int) (p : List Int) (p1 : List TGate) (B : Option Addr) (B1 : Option Addr) (c n : Nat) (B2 : Option Addr) (B3 : Option Addr) (c1 n1 : Nat) (w0 : World) (hn : p.length = n) (hn1 : p1.length = n1) (hS : ST w0 (bl [⟨B1, 3, (p.flatMap encI), c * 1⟩, ⟨B2, 176, [.slice B3 n1 c1], 1⟩, ⟨B3, 180, (p1.flatMap enc_Gate), c1 * 3⟩]) w0 [⟨B1, 3, (p.flatMap encI), c * 1⟩, ⟨B2, 176, [.slice B3 n1 c1], 1⟩, ⟨B3, 180, (p1.flatMap enc_Gate), c1 * 3⟩] [⟨B, [.slice B1 n c]⟩]) {m : List Int} {m1 : List TGate} (hF : F_impl_eliminated_1 from_ to_ p p1 = some (m, m1)) :
    CV Try.prog 206 #[.int .i64 from_, .int .i64 to_, pt B 0, pt B2 0] w0 (fun v w' => ∃ (B4 : Option Addr) (c2 : Nat), v = .tuple #[] ∧ m.length = n ∧ ST w0 (bl [⟨B1, 3, (p.flatMap encI), c * 1⟩, ⟨B2, 176, [.slice B3 n1 c1], 1⟩, ⟨B3, 180, (p1.flatMap enc_Gate), c1 * 3⟩]) w' [⟨B1, 3, (m.flatMap encI), c * 1⟩, ⟨B2, 176, [.slice B4 m1.length c2], 1⟩, ⟨B4, 180, (m1.flatMap enc_Gate), c2 * 3⟩] []) := by
  subst hn
  subst hn1
  unfold F_impl_eliminated_1 at hF
  refine cv_of_cw 22 Try.func206 rfl Try.ntmps206 rfl ?_
  refine cw_seq ?_
  obtain ⟨x, hx, hF⟩ := bind_inv hF
  obtain ⟨x1, hx1, hF⟩ := bind_inv hF
  refine cw_mid (fun f w => FF f [(0, .int .i64 from_), (1, .int .i64 to_), (3, pt B2 0)] ∧ ST w0 (bl [⟨B1, 3, (p.flatMap encI), c * 1⟩, ⟨B2, 176, [.slice B3 p1.length c1], 1⟩, ⟨B3, 180, (p1.flatMap enc_Gate), c1 * 3⟩]) w [⟨B1, 3, ((p.set to_.toNat (bits .xor .i64 x x1)).flatMap encI), c * 1⟩, ⟨B2, 176, [.slice B3 p1.length c1], 1⟩, ⟨B3, 180, (p1.flatMap enc_Gate), c1 * 3⟩] [⟨B, [.slice B1 p.length c]⟩]) ?_ ?_
  · skip
    refine ra_start (ST.sel hS [1, 2] rfl rfl).fn (by kernel_rfl) ?_
    have hS2 := hS.drew
    refine ra_q 0 6 (v := .slice B1 p.length c) rfl rfl rfl (by kernel_rfl) (by kernel_rfl) (by kernel_rfl) (ST.sel hS2 [1, 2] rfl rfl) (fun w' hw' => (Y_load1 (B := B) (i := 0) (cs := [.slice B1 p.length c]) (v := .slice B1 p.length c) k_sc_34 rfl rfl (ST.rf hw' (i := 0) rfl) rfl)) ?_
    refine ra_q 1 7 (v := .int .i64 to_) rfl rfl rfl (by kernel_rfl) (by kernel_rfl) (by kernel_rfl) (ST.sel hS2 [1, 2] rfl rfl) (fun w' hw' => (Y_move (v := .int .i64 to_) rfl rfl)) ?_
    refine ra_q 4 10 (v := .slice B1 p.length c) rfl rfl rfl (by kernel_rfl) (by kernel_rfl) (by kernel_rfl) (ST.sel hS2 [1, 2] rfl rfl) (fun w' hw' => (Y_load1 (B := B) (i := 0) (cs := [.slice B1 p.length c]) (v := .slice B1 p.length c) k_sc_34 rfl rfl (ST.rf hw' (i := 0) rfl) rfl)) ?_
    refine ra_q 5 11 (v := .int .i64 from_) rfl rfl rfl (by kernel_rfl) (by kernel_rfl) (by kernel_rfl) (ST.sel hS2 [1, 2] rfl rfl) (fun w' hw' => (Y_move (v := .int .i64 from_) rfl rfl)) ?_
    refine ra_all (rs := [2, 6]) (by kernel_rfl) rfl ?_
    refine ra_y 8 (i := 2) (v := pt B1 (to_.toNat * 1)) rfl rfl rfl (Y_index (B := B1) (m := p.length) (c := c) (k := .i64) (i := to_) k_sl_34_3 k_sz_3_1 rfl rfl rfl (gi_isSome encI_len rfl (hS2.cf (i := 0) rfl) hx) (getI_nn hx) (getI_ltI hx rfl)) (ST.sel hS2 [1, 2] rfl rfl) ?_ ?_
    · skip
      refine ra_all (rs := [3, 6]) (by kernel_rfl) rfl ?_
      refine ra_y 9 (i := 3) (v := .int .i64 x) rfl rfl rfl (Y_load1 (B := B1) (i := to_.toNat * 1) (cs := (p.flatMap encI)) (v := .int .i64 x) k_sc_3 rfl rfl (hS2.cf (i := 0) rfl) (gi_at0 encI_len hx rfl)) (ST.sel hS2 [1, 2] rfl rfl) ?_ ?_
      · skip
        refine ra_all (rs := [6]) (by kernel_rfl) rfl ?_
        refine ra_y 12 (i := 6) (v := pt B1 (from_.toNat * 1)) rfl rfl rfl (Y_index (B := B1) (m := p.length) (c := c) (k := .i64) (i := from_) k_sl_34_3 k_sz_3_1 rfl rfl rfl (gi_isSome encI_len rfl (hS2.cf (i := 0) rfl) hx1) (getI_nn hx1) (getI_ltI hx1 rfl)) (ST.sel hS2 [1, 2] rfl rfl) ?_ ?_
        · skip
          refine ra_all (rs := [7]) (by kernel_rfl) rfl ?_
          refine ra_y 13 (i := 7) (v := .int .i64 x1) rfl rfl rfl (Y_load1 (B := B1) (i := from_.toNat * 1) (cs := (p.flatMap encI)) (v := .int .i64 x1) k_sc_3 rfl rfl (hS2.cf (i := 0) rfl) (gi_at0 encI_len hx1 rfl)) (ST.sel hS2 [1, 2] rfl rfl) ?_ ?_
          · skip
            refine ra_q 8 14 (v := .int .i64 (bits .xor .i64 x x1)) rfl rfl rfl (by kernel_rfl) (by kernel_rfl) (by kernel_rfl) (ST.sel hS2 [1, 2] rfl rfl) (fun w' hw' => (Y_bxor (k := .i64) (a := x) (b := x1) rfl rfl rfl)) ?_
            refine ra_all (rs := [9]) (by kernel_rfl) rfl ?_
            refine ra_y 15 (i := 9) (v := pt B1 (to_.toNat * 1)) rfl rfl rfl (Y_index (B := B1) (m := p.length) (c := c) (k := .i64) (i := to_) k_sl_34_3 k_sz_3_1 rfl rfl rfl (gi_isSome encI_len rfl (hS2.cf (i := 0) rfl) hx) (getI_nn hx) (getI_ltI hx rfl)) (ST.sel hS2 [1, 2] rfl rfl) ?_ ?_
            · skip
              refine ra_all (rs := [10]) (by kernel_rfl) rfl ?_
              refine ra_s0 (i := 10) rfl rfl rfl (Ys_store (i := 0) (s := 1) (B := B1) (T' := 3) (v := .int .i64 (bits .xor .i64 x x1)) (vs := [.int .i64 (bits .xor .i64 x x1)]) (k := to_.toNat * 1) (cs' := ((p.set to_.toNat (bits .xor .i64 x x1)).flatMap encI)) hS2 k_sz_3_1 rfl rfl rfl rfl rfl rfl rfl (gi_fit0 encI_len hx) (gi_set encI_len hx (bits .xor .i64 x x1) rfl) rfl) ?_ ?_
              · rintro _ w_ ⟨rfl, hS3⟩
                have hS3 : ST w0 (bl [⟨B1, 3, (p.flatMap encI), c * 1⟩, ⟨B2, 176, [.slice B3 p1.length c1], 1⟩, ⟨B3, 180, (p1.flatMap enc_Gate), c1 * 3⟩]) _ [⟨B1, 3, ((p.set to_.toNat (bits .xor .i64 x x1)).flatMap encI), c * 1⟩, ⟨B2, 176, [.slice B3 p1.length c1], 1⟩, ⟨B3, 180, (p1.flatMap enc_Gate), c1 * 3⟩] [⟨B, [.slice B1 p.length c]⟩] := hS3
                refine ⟨(ST.sel hS3 [1, 2] rfl rfl), ?_⟩
                refine ra_done (by kernel_rfl) ?_
                exact ⟨(FF.cons rfl (FF.cons rfl (FF.cons rfl FF.nil))), (hS3.sel [0, 1, 2] rfl rfl)⟩
              exact allR_nil
            exact allR_nil
          exact allR_nil
        exact allR_nil
      refine ra_y 12 (i := 6) (v := pt B1 (from_.toNat * 1)) rfl rfl rfl (Y_index (B := B1) (m := p.length) (c := c) (k := .i64) (i := from_) k_sl_34_3 k_sz_3_1 rfl rfl rfl (gi_isSome encI_len rfl (hS2.cf (i := 0) rfl) hx1) (getI_nn hx1) (getI_ltI hx1 rfl)) (ST.sel hS2 [1, 2] rfl rfl) ?_ ?_
      · skip
        refine ra_all (rs := [3, 7]) (by kernel_rfl) rfl ?_
        refine ra_y 9 (i := 3) (v := .int .i64 x) rfl rfl rfl (Y_load1 (B := B1) (i := to_.toNat * 1) (cs := (p.flatMap encI)) (v := .int .i64 x) k_sc_3 rfl rfl (hS2.cf (i := 0) rfl) (gi_at0 encI_len hx rfl)) (ST.sel hS2 [1, 2] rfl rfl) ?_ ?_
        · skip
          refine ra_all (rs := [7]) (by kernel_rfl) rfl ?_
          refine ra_y 13 (i := 7) (v := .int .i64 x1) rfl rfl rfl (Y_load1 (B := B1) (i := from_.toNat * 1) (cs := (p.flatMap encI)) (v := .int .i64 x1) k_sc_3 rfl rfl (hS2.cf (i := 0) rfl) (gi_at0 encI_len hx1 rfl)) (ST.sel hS2 [1, 2] rfl rfl) ?_ ?_
          · skip
            refine ra_q 8 14 (v := .int .i64 (bits .xor .i64 x x1)) rfl rfl rfl (by kernel_rfl) (by kernel_rfl) (by kernel_rfl) (ST.sel hS2 [1, 2] rfl rfl) (fun w' hw' => (Y_bxor (k := .i64) (a := x) (b := x1) rfl rfl rfl)) ?_
            refine ra_all (rs := [9]) (by kernel_rfl) rfl ?_
            refine ra_y 15 (i := 9) (v := pt B1 (to_.toNat * 1)) rfl rfl rfl (Y_index (B := B1) (m := p.length) (c := c) (k := .i64) (i := to_) k_sl_34_3 k_sz_3_1 rfl rfl rfl (gi_isSome encI_len rfl (hS2.cf (i := 0) rfl) hx) (getI_nn hx) (getI_ltI hx rfl)) (ST.sel hS2 [1, 2] rfl rfl) ?_ ?_
            · skip
              refine ra_all (rs := [10]) (by kernel_rfl) rfl ?_
              refine ra_s0 (i := 10) rfl rfl rfl (Ys_store (i := 0) (s := 1) (B := B1) (T' := 3) (v := .int .i64 (bits .xor .i64 x x1)) (vs := [.int .i64 (bits .xor .i64 x x1)]) (k := to_.toNat * 1) (cs' := ((p.set to_.toNat (bits .xor .i64 x x1)).flatMap encI)) hS2 k_sz_3_1 rfl rfl rfl rfl rfl rfl rfl (gi_fit0 encI_len hx) (gi_set encI_len hx (bits .xor .i64 x x1) rfl) rfl) ?_ ?_
              · rintro _ w_1 ⟨rfl, hS4⟩
                have hS4 : ST w0 (bl [⟨B1, 3, (p.flatMap encI), c * 1⟩, ⟨B2, 176, [.slice B3 p1.length c1], 1⟩, ⟨B3, 180, (p1.flatMap enc_Gate), c1 * 3⟩]) _ [⟨B1, 3, ((p.set to_.toNat (bits .xor .i64 x x1)).flatMap encI), c * 1⟩, ⟨B2, 176, [.slice B3 p1.length c1], 1⟩, ⟨B3, 180, (p1.flatMap enc_Gate), c1 * 3⟩] [⟨B, [.slice B1 p.length c]⟩] := hS4
                refine ⟨(ST.sel hS4 [1, 2] rfl rfl), ?_⟩
                refine ra_done (by kernel_rfl) ?_
                exact ⟨(FF.cons rfl (FF.cons rfl (FF.cons rfl FF.nil))), (hS4.sel [0, 1, 2] rfl rfl)⟩
              exact allR_nil
            exact allR_nil
          exact allR_nil
        refine ra_y 13 (i := 7) (v := .int .i64 x1) rfl rfl rfl (Y_load1 (B := B1) (i := from_.toNat * 1) (cs := (p.flatMap encI)) (v := .int .i64 x1) k_sc_3 rfl rfl (hS2.cf (i := 0) rfl) (gi_at0 encI_len hx1 rfl)) (ST.sel hS2 [1, 2] rfl rfl) ?_ ?_
        · skip
          refine ra_all (rs := [3]) (by kernel_rfl) rfl ?_
          refine ra_y 9 (i := 3) (v := .int .i64 x) rfl rfl rfl (Y_load1 (B := B1) (i := to_.toNat * 1) (cs := (p.flatMap encI)) (v := .int .i64 x) k_sc_3 rfl rfl (hS2.cf (i := 0) rfl) (gi_at0 encI_len hx rfl)) (ST.sel hS2 [1, 2] rfl rfl) ?_ ?_
          · skip
            refine ra_q 8 14 (v := .int .i64 (bits .xor .i64 x x1)) rfl rfl rfl (by kernel_rfl) (by kernel_rfl) (by kernel_rfl) (ST.sel hS2 [1, 2] rfl rfl) (fun w' hw' => (Y_bxor (k := .i64) (a := x) (b := x1) rfl rfl rfl)) ?_
            refine ra_all (rs := [9]) (by kernel_rfl) rfl ?_
            refine ra_y 15 (i := 9) (v := pt B1 (to_.toNat * 1)) rfl rfl rfl (Y_index (B := B1) (m := p.length) (c := c) (k := .i64) (i := to_) k_sl_34_3 k_sz_3_1 rfl rfl rfl (gi_isSome encI_len rfl (hS2.cf (i := 0) rfl) hx) (getI_nn hx) (getI_ltI hx rfl)) (ST.sel hS2 [1, 2] rfl rfl) ?_ ?_
            · skip
              refine ra_all (rs := [10]) (by kernel_rfl) rfl ?_
              refine ra_s0 (i := 10) rfl rfl rfl (Ys_store (i := 0) (s := 1) (B := B1) (T' := 3) (v := .int .i64 (bits .xor .i64 x x1)) (vs := [.int .i64 (bits .xor .i64 x x1)]) (k := to_.toNat * 1) (cs' := ((p.set to_.toNat (bits .xor .i64 x x1)).flatMap encI)) hS2 k_sz_3_1 rfl rfl rfl rfl rfl rfl rfl (gi_fit0 encI_len hx) (gi_set encI_len hx (bits .xor .i64 x x1) rfl) rfl) ?_ ?_
              · rintro _ w_2 ⟨rfl, hS5⟩
                have hS5 : ST w0 (bl [⟨B1, 3, (p.flatMap encI), c * 1⟩, ⟨B2, 176, [.slice B3 p1.length c1], 1⟩, ⟨B3, 180, (p1.flatMap enc_Gate), c1 * 3⟩]) _ [⟨B1, 3, ((p.set to_.toNat (bits .xor .i64 x x1)).flatMap encI), c * 1⟩, ⟨B2, 176, [.slice B3 p1.length c1], 1⟩, ⟨B3, 180, (p1.flatMap enc_Gate), c1 * 3⟩] [⟨B, [.slice B1 p.length c]⟩] := hS5
                refine ⟨(ST.sel hS5 [1, 2] rfl rfl), ?_⟩
                refine ra_done (by kernel_rfl) ?_
                exact ⟨(FF.cons rfl (FF.cons rfl (FF.cons rfl FF.nil))), (hS5.sel [0, 1, 2] rfl rfl)⟩
              exact allR_nil
            exact allR_nil
          exact allR_nil
        exact allR_nil
      exact allR_nil
    refine ra_y 12 (i := 6) (v := pt B1 (from_.toNat * 1)) rfl rfl rfl (Y_index (B := B1) (m := p.length) (c := c) (k := .i64) (i := from_) k_sl_34_3 k_sz_3_1 rfl rfl rfl (gi_isSome encI_len rfl (hS2.cf (i := 0) rfl) hx1) (getI_nn hx1) (getI_ltI hx1 rfl)) (ST.sel hS2 [1, 2] rfl rfl) ?_ ?_
    · skip
      refine ra_all (rs := [2, 7]) (by kernel_rfl) rfl ?_
      refine ra_y 8 (i := 2) (v := pt B1 (to_.toNat * 1)) rfl rfl rfl (Y_index (B := B1) (m := p.length) (c := c) (k := .i64) (i := to_) k_sl_34_3 k_sz_3_1 rfl rfl rfl (gi_isSome encI_len rfl (hS2.cf (i := 0) rfl) hx) (getI_nn hx) (getI_ltI hx rfl)) (ST.sel hS2 [1, 2] rfl rfl) ?_ ?_
      · skip
        refine ra_all (rs := [3, 7]) (by kernel_rfl) rfl ?_
        refine ra_y 9 (i := 3) (v := .int .i64 x) rfl rfl rfl (Y_load1 (B := B1) (i := to_.toNat * 1) (cs := (p.flatMap encI)) (v := .int .i64 x) k_sc_3 rfl rfl (hS2.cf (i := 0) rfl) (gi_at0 encI_len hx rfl)) (ST.sel hS2 [1, 2] rfl rfl) ?_ ?_
        · skip
          refine ra_all (rs := [7]) (by kernel_rfl) rfl ?_
          refine ra_y 13 (i := 7) (v := .int .i64 x1) rfl rfl rfl (Y_load1 (B := B1) (i := from_.toNat * 1) (cs := (p.flatMap encI)) (v := .int .i64 x1) k_sc_3 rfl rfl (hS2.cf (i := 0) rfl) (gi_at0 encI_len hx1 rfl)) (ST.sel hS2 [1, 2] rfl rfl) ?_ ?_
          · skip
            refine ra_q 8 14 (v := .int .i64 (bits .xor .i64 x x1)) rfl rfl rfl (by kernel_rfl) (by kernel_rfl) (by kernel_rfl) (ST.sel hS2 [1, 2] rfl rfl) (fun w' hw' => (Y_bxor (k := .i64) (a := x) (b := x1) rfl rfl rfl)) ?_
            refine ra_all (rs := [9]) (by kernel_rfl) rfl ?_
            refine ra_y 15 (i := 9) (v := pt B1 (to_.toNat * 1)) rfl rfl rfl (Y_index (B := B1) (m := p.length) (c := c) (k := .i64) (i := to_) k_sl_34_3 k_sz_3_1 rfl rfl rfl (gi_isSome encI_len rfl (hS2.cf (i := 0) rfl) hx) (getI_nn hx) (getI_ltI hx rfl)) (ST.sel hS2 [1, 2] rfl rfl) ?_ ?_
            · skip
              refine ra_all (rs := [10]) (by kernel_rfl) rfl ?_
              refine ra_s0 (i := 10) rfl rfl rfl (Ys_store (i := 0) (s := 1) (B := B1) (T' := 3) (v := .int .i64 (bits .xor .i64 x x1)) (vs := [.int .i64 (bits .xor .i64 x x1)]) (k := to_.toNat * 1) (cs' := ((p.set to_.toNat (bits .xor .i64 x x1)).flatMap encI)) hS2 k_sz_3_1 rfl rfl rfl rfl rfl rfl rfl (gi_fit0 encI_len hx) (gi_set encI_len hx (bits .xor .i64 x x1) rfl) rfl) ?_ ?_
              · rintro _ w_3 ⟨rfl, hS6⟩
                have hS6 : ST w0 (bl [⟨B1, 3, (p.flatMap encI), c * 1⟩, ⟨B2, 176, [.slice B3 p1.length c1], 1⟩, ⟨B3, 180, (p1.flatMap enc_Gate), c1 * 3⟩]) _ [⟨B1, 3, ((p.set to_.toNat (bits .xor .i64 x x1)).flatMap encI), c * 1⟩, ⟨B2, 176, [.slice B3 p1.length c1], 1⟩, ⟨B3, 180, (p1.flatMap enc_Gate), c1 * 3⟩] [⟨B, [.slice B1 p.length c]⟩] := hS6
                refine ⟨(ST.sel hS6 [1, 2] rfl rfl), ?_⟩
                refine ra_done (by kernel_rfl) ?_
                exact ⟨(FF.cons rfl (FF.cons rfl (FF.cons rfl FF.nil))), (hS6.sel [0, 1, 2] rfl rfl)⟩
              exact allR_nil
            exact allR_nil
          exact allR_nil
        refine ra_y 13 (i := 7) (v := .int .i64 x1) rfl rfl rfl (Y_load1 (B := B1) (i := from_.toNat * 1) (cs := (p.flatMap encI)) (v := .int .i64 x1) k_sc_3 rfl rfl (hS2.cf (i := 0) rfl) (gi_at0 encI_len hx1 rfl)) (ST.sel hS2 [1, 2] rfl rfl) ?_ ?_
        · skip
          refine ra_all (rs := [3]) (by kernel_rfl) rfl ?_
          refine ra_y 9 (i := 3) (v := .int .i64 x) rfl rfl rfl (Y_load1 (B := B1) (i := to_.toNat * 1) (cs := (p.flatMap encI)) (v := .int .i64 x) k_sc_3 rfl rfl (hS2.cf (i := 0) rfl) (gi_at0 encI_len hx rfl)) (ST.sel hS2 [1, 2] rfl rfl) ?_ ?_
          · skip
            refine ra_q 8 14 (v := .int .i64 (bits .xor .i64 x x1)) rfl rfl rfl (by kernel_rfl) (by kernel_rfl) (by kernel_rfl) (ST.sel hS2 [1, 2] rfl rfl) (fun w' hw' => (Y_bxor (k := .i64) (a := x) (b := x1) rfl rfl rfl)) ?_
            refine ra_all (rs := [9]) (by kernel_rfl) rfl ?_
            refine ra_y 15 (i := 9) (v := pt B1 (to_.toNat * 1)) rfl rfl rfl (Y_index (B := B1) (m := p.length) (c := c) (k := .i64) (i := to_) k_sl_34_3 k_sz_3_1 rfl rfl rfl (gi_isSome encI_len rfl (hS2.cf (i := 0) rfl) hx) (getI_nn hx) (getI_ltI hx rfl)) (ST.sel hS2 [1, 2] rfl rfl) ?_ ?_
            · skip
              refine ra_all (rs := [10]) (by kernel_rfl) rfl ?_
              refine ra_s0 (i := 10) rfl rfl rfl (Ys_store (i := 0) (s := 1) (B := B1) (T' := 3) (v := .int .i64 (bits .xor .i64 x x1)) (vs := [.int .i64 (bits .xor .i64 x x1)]) (k := to_.toNat * 1) (cs' := ((p.set to_.toNat (bits .xor .i64 x x1)).flatMap encI)) hS2 k_sz_3_1 rfl rfl rfl rfl rfl rfl rfl (gi_fit0 encI_len hx) (gi_set encI_len hx (bits .xor .i64 x x1) rfl) rfl) ?_ ?_
              · rintro _ w_4 ⟨rfl, hS7⟩
                have hS7 : ST w0 (bl [⟨B1, 3, (p.flatMap encI), c * 1⟩, ⟨B2, 176, [.slice B3 p1.length c1], 1⟩, ⟨B3, 180, (p1.flatMap enc_Gate), c1 * 3⟩]) _ [⟨B1, 3, ((p.set to_.toNat (bits .xor .i64 x x1)).flatMap encI), c * 1⟩, ⟨B2, 176, [.slice B3 p1.length c1], 1⟩, ⟨B3, 180, (p1.flatMap enc_Gate), c1 * 3⟩] [⟨B, [.slice B1 p.length c]⟩] := hS7
                refine ⟨(ST.sel hS7 [1, 2] rfl rfl), ?_⟩
                refine ra_done (by kernel_rfl) ?_
                exact ⟨(FF.cons rfl (FF.cons rfl (FF.cons rfl FF.nil))), (hS7.sel [0, 1, 2] rfl rfl)⟩
              exact allR_nil
            exact allR_nil
          exact allR_nil
        exact allR_nil
      refine ra_y 13 (i := 7) (v := .int .i64 x1) rfl rfl rfl (Y_load1 (B := B1) (i := from_.toNat * 1) (cs := (p.flatMap encI)) (v := .int .i64 x1) k_sc_3 rfl rfl (hS2.cf (i := 0) rfl) (gi_at0 encI_len hx1 rfl)) (ST.sel hS2 [1, 2] rfl rfl) ?_ ?_
      · skip
        refine ra_all (rs := [2]) (by kernel_rfl) rfl ?_
        refine ra_y 8 (i := 2) (v := pt B1 (to_.toNat * 1)) rfl rfl rfl (Y_index (B := B1) (m := p.length) (c := c) (k := .i64) (i := to_) k_sl_34_3 k_sz_3_1 rfl rfl rfl (gi_isSome encI_len rfl (hS2.cf (i := 0) rfl) hx) (getI_nn hx) (getI_ltI hx rfl)) (ST.sel hS2 [1, 2] rfl rfl) ?_ ?_
        · skip
          refine ra_all (rs := [3]) (by kernel_rfl) rfl ?_
          refine ra_y 9 (i := 3) (v := .int .i64 x) rfl rfl rfl (Y_load1 (B := B1) (i := to_.toNat * 1) (cs := (p.flatMap encI)) (v := .int .i64 x) k_sc_3 rfl rfl (hS2.cf (i := 0) rfl) (gi_at0 encI_len hx rfl)) (ST.sel hS2 [1, 2] rfl rfl) ?_ ?_
          · skip
            refine ra_q 8 14 (v := .int .i64 (bits .xor .i64 x x1)) rfl rfl rfl (by kernel_rfl) (by kernel_rfl) (by kernel_rfl) (ST.sel hS2 [1, 2] rfl rfl) (fun w' hw' => (Y_bxor (k := .i64) (a := x) (b := x1) rfl rfl rfl)) ?_
            refine ra_all (rs := [9]) (by kernel_rfl) rfl ?_
            refine ra_y 15 (i := 9) (v := pt B1 (to_.toNat * 1)) rfl rfl rfl (Y_index (B := B1) (m := p.length) (c := c) (k := .i64) (i := to_) k_sl_34_3 k_sz_3_1 rfl rfl rfl (gi_isSome encI_len rfl (hS2.cf (i := 0) rfl) hx) (getI_nn hx) (getI_ltI hx rfl)) (ST.sel hS2 [1, 2] rfl rfl) ?_ ?_
            · skip
              refine ra_all (rs := [10]) (by kernel_rfl) rfl ?_
              refine ra_s0 (i := 10) rfl rfl rfl (Ys_store (i := 0) (s := 1) (B := B1) (T' := 3) (v := .int .i64 (bits .xor .i64 x x1)) (vs := [.int .i64 (bits .xor .i64 x x1)]) (k := to_.toNat * 1) (cs' := ((p.set to_.toNat (bits .xor .i64 x x1)).flatMap encI)) hS2 k_sz_3_1 rfl rfl rfl rfl rfl rfl rfl (gi_fit0 encI_len hx) (gi_set encI_len hx (bits .xor .i64 x x1) rfl) rfl) ?_ ?_
              · rintro _ w_5 ⟨rfl, hS8⟩
                have hS8 : ST w0 (bl [⟨B1, 3, (p.flatMap encI), c * 1⟩, ⟨B2, 176, [.slice B3 p1.length c1], 1⟩, ⟨B3, 180, (p1.flatMap enc_Gate), c1 * 3⟩]) _ [⟨B1, 3, ((p.set to_.toNat (bits .xor .i64 x x1)).flatMap encI), c * 1⟩, ⟨B2, 176, [.slice B3 p1.length c1], 1⟩, ⟨B3, 180, (p1.flatMap enc_Gate), c1 * 3⟩] [⟨B, [.slice B1 p.length c]⟩] := hS8
                refine ⟨(ST.sel hS8 [1, 2] rfl rfl), ?_⟩
                refine ra_done (by kernel_rfl) ?_
                exact ⟨(FF.cons rfl (FF.cons rfl (FF.cons rfl FF.nil))), (hS8.sel [0, 1, 2] rfl rfl)⟩
              exact allR_nil
            exact allR_nil
          exact allR_nil
        exact allR_nil
      exact allR_nil
    exact allR_nil
  rintro f w ⟨hf, hS1⟩
  refine cw_region ?_
  refine sq 16 rfl rfl (Y_load1 (B := B2) (i := 0) (cs := [.slice B3 p1.length c1]) (v := .slice B3 p1.length c1) k_sc_176 rfl (hf.get 3 2 rfl) (hS1.cf (i := 1) rfl) rfl) ?_
  refine sq 17 rfl rfl (Y_move (v := .int .i64 from_) rfl (hf.get 0 0 rfl)) ?_
  refine sq 18 rfl rfl (Y_move (v := .int .i64 to_) rfl (hf.get 1 1 rfl)) ?_
  refine sq 19 rfl rfl (Y_buildS (zs := [.int .i64 0, .int .i64 0, .int .i64 0]) (vs := [(0, .int .i64 9), (1, .int .i64 from_), (2, .int .i64 to_)]) (cs := [.int .i64 9, .int .i64 from_, .int .i64 to_]) k_pl_180 k_zero_180 rfl (mpc rfl (mpc rfl (mpc rfl mpn))) rfl) ?_
  refine ss 20 rfl rfl (Ys_bslice (s := 3) (len := 1) (vs := [(0, .agg #[.int .i64 9, .int .i64 from_, .int .i64 to_])]) (cs := [.int .i64 9, .int .i64 from_, .int .i64 to_]) (zs := [.int .i64 0, .int .i64 0, .int .i64 0]) (m := 3) hS1 k_sl_176_180 k_sz_180_3 k_zc_180 rfl (mpc rfl mpn) rfl rfl rfl (by kernel_rfl) (by kernel_rfl) rfl) ?_
  rintro _ w_6 ⟨b, rfl, hS9⟩
  have hS9 : ST w0 (bl [⟨B1, 3, (p.flatMap encI), c * 1⟩, ⟨B2, 176, [.slice B3 p1.length c1], 1⟩, ⟨B3, 180, (p1.flatMap enc_Gate), c1 * 3⟩]) _ [⟨B1, 3, ((p.set to_.toNat (bits .xor .i64 x x1)).flatMap encI), c * 1⟩, ⟨B2, 176, [.slice B3 p1.length c1], 1⟩, ⟨B3, 180, (p1.flatMap enc_Gate), c1 * 3⟩, ⟨some ⟨b, 0, none⟩, 180, ([(TGate.mk 9 from_ to_)].flatMap enc_Gate), 1 * 3⟩] [⟨B, [.slice B1 p.length c]⟩] := hS9
  obtain ⟨hap, hF⟩ := chk_inv hF
  refine ss 21 rfl rfl (Ys_append (s := 3) (by' := 24) (i := 2) (nn := p1.length) (c := c1) (k := 1) (len := (p1 ++ [(TGate.mk 9 from_ to_)]).length) (B := B3) (xs := ([(TGate.mk 9 from_ to_)].flatMap enc_Gate)) (cs' := ((p1 ++ [(TGate.mk 9 from_ to_)]).flatMap enc_Gate)) hS9 k_sl_176_180 k_sz_180_3 k_by_180_24 k_zero_180 rfl (by decide) rfl rfl rfl rfl (fm_lenn (l := p1) enc_Gate_len rfl) rfl (hS9.cf (i := 3) rfl) (fm_lenn (l := [(TGate.mk 9 from_ to_)]) enc_Gate_len rfl) (fm_one' (enc := enc_Gate) enc_Gate_one [(TGate.mk 9 from_ to_)]) (by have := hap; omega) (by have := hap; simp only [maxLen]; omega) (fm_app _ _) (app_len (l := p1) (l' := [(TGate.mk 9 from_ to_)]) rfl rfl)) ?_
  rintro _ w_7 ⟨B5, c3, rfl, hS10⟩
  have hS10 : ST w0 (bl [⟨B1, 3, (p.flatMap encI), c * 1⟩, ⟨B2, 176, [.slice B3 p1.length c1], 1⟩, ⟨B3, 180, (p1.flatMap enc_Gate), c1 * 3⟩]) _ [⟨B1, 3, ((p.set to_.toNat (bits .xor .i64 x x1)).flatMap encI), c * 1⟩, ⟨B2, 176, [.slice B3 p1.length c1], 1⟩, ⟨B5, 180, ((p1 ++ [(TGate.mk 9 from_ to_)]).flatMap enc_Gate), c3 * 3⟩, ⟨some ⟨b, 0, none⟩, 180, ([(TGate.mk 9 from_ to_)].flatMap enc_Gate), 1 * 3⟩] [⟨B, [.slice B1 p.length c]⟩] := hS10
  refine ss0 rfl rfl (Ys_store (i := 1) (s := 1) (B := B2) (T' := 176) (v := .slice B5 ((p1 ++ [(TGate.mk 9 from_ to_)]).length) c3) (vs := [.slice B5 ((p1 ++ [(TGate.mk 9 from_ to_)]).length) c3]) (k := 0) (cs' := [.slice B5 ((p1 ++ [(TGate.mk 9 from_ to_)]).length) c3]) hS10 k_sz_176_1 rfl (hf.get 3 2 rfl) rfl rfl rfl rfl rfl (Nat.le_of_ble_eq_true rfl) rfl rfl) ?_
  rintro _ w_8 ⟨rfl, hS11⟩
  have hS11 : ST w0 (bl [⟨B1, 3, (p.flatMap encI), c * 1⟩, ⟨B2, 176, [.slice B3 p1.length c1], 1⟩, ⟨B3, 180, (p1.flatMap enc_Gate), c1 * 3⟩]) _ [⟨B1, 3, ((p.set to_.toNat (bits .xor .i64 x x1)).flatMap encI), c * 1⟩, ⟨B2, 176, [.slice B5 ((p1 ++ [(TGate.mk 9 from_ to_)]).length) c3], 1⟩, ⟨B5, 180, ((p1 ++ [(TGate.mk 9 from_ to_)]).flatMap enc_Gate), c3 * 3⟩, ⟨some ⟨b, 0, none⟩, 180, ([(TGate.mk 9 from_ to_)].flatMap enc_Gate), 1 * 3⟩] [⟨B, [.slice B1 p.length c]⟩] := hS11
  refine rw_nil ?_
  obtain ⟨rfl, rfl⟩ := pr2 (some_inj hF)
  exact ret0 Try.results206  ⟨B5, c3, rfl, (set_len _ _ _ rfl), (ST.subR (R' := []) (hS11.sel [0, 1, 2] rfl rfl) (fun _ h => by cases h))⟩

theorem c_impl_eliminated (m : TLinear) (B : Option Addr) (c n : Nat) (w0 : World) (hn : m.Rows.length = n) (hS : ST w0 [] w0 [] [⟨B, (m.Rows.flatMap encI)⟩]) {r_ : List TGate} (hF : F_impl_eliminated m = some r_) :
    CV Try.prog 174 #[.agg #[.slice B n c]] w0 (fun v w' => ∃ (B1 : Option Addr) (c1 : Nat), v = .slice B1 r_.length c1 ∧ ST w0 [] w' [⟨B1, 180, (r_.flatMap enc_Gate), c1 * 3⟩] []) := by
  subst hn
  unfold F_impl_eliminated at hF
  refine cv_of_cw 74 Try.func174 rfl Try.ntmps174 rfl ?_
  refine cw_seq ?_
  refine cw_region ?_
  refine ss 1 rfl rfl (Ys_box (T := 43) (v := .agg #[.slice B m.Rows.length c]) (cs := [.slice B m.Rows.length c]) (m := 1) hS rfl rfl rfl rfl) ?_
  rintro _ w_ ⟨b, rfl, hS1⟩
  refine sq 2 rfl rfl (Y_assign (v := .slice none 0 0) rfl rfl) ?_
  refine rw_nil ?_
  refine cw_seq ?_
  refine cw_region ?_
  refine sq 9 rfl rfl (Y_fieldAddr (B := some ⟨b, 0, none⟩) (i := 0) (s := 0) k_fd_43_0_0_34 k_sz_34_1 rfl rfl) ?_
  refine sq 10 rfl rfl (Y_load1 (B := some ⟨b, 0, none⟩) (i := 0) (cs := [.slice B m.Rows.length c]) (v := .slice B m.Rows.length c) k_sc_34 rfl rfl (hS1.cf (i := 0) rfl) rfl) ?_
  obtain ⟨r_1, hc, hF⟩ := bind_inv hF
  refine sc 11 rfl rfl (Yc_func (g := 205) (vs := [.slice B m.Rows.length c]) k_call_205 rfl (mc rfl mn) (c_slices_Clone_int_int m.Rows B c m.Rows.length _ rfl (hS1.inn0 [(true, 0)] rfl) hc)) ?_
  rintro _ w_1 ⟨B2, c2, rfl, hd⟩
  have hS2 := hS1.out0 hd
  have hS2 : ST w0 [] _ [⟨some ⟨b, 0, none⟩, 43, [.slice B m.Rows.length c], 1⟩, ⟨B2, 3, (r_1.flatMap encI), c2 * 1⟩] [⟨B, (m.Rows.flatMap encI)⟩] := hS2
  refine ss 12 rfl rfl (Ys_bslice0 (s := 3) (e := 180) hS2 k_sl_176_180 k_sz_180_3 rfl) ?_
  rintro _ w_2 ⟨b1, rfl, hS3⟩
  have hS3 : ST w0 [] _ [⟨some ⟨b, 0, none⟩, 43, [.slice B m.Rows.length c], 1⟩, ⟨B2, 3, (r_1.flatMap encI), c2 * 1⟩, ⟨some ⟨b1, 0, none⟩, 180, ([].flatMap enc_Gate), 0 * 3⟩] [⟨B, (m.Rows.flatMap encI)⟩] := hS3
  refine ss 3 rfl rfl (Ys_alloc (T := 34) (cs := [.slice none 0 0]) (m := 1) hS3 k_zero_34 rfl rfl rfl) ?_
  rintro _ w_3 ⟨b2, rfl, hS4⟩
  have hS4 : ST w0 [] _ [⟨some ⟨b, 0, none⟩, 43, [.slice B m.Rows.length c], 1⟩, ⟨B2, 3, (r_1.flatMap encI), c2 * 1⟩, ⟨some ⟨b1, 0, none⟩, 180, ([].flatMap enc_Gate), 0 * 3⟩, ⟨some ⟨b2, 0, none⟩, 34, [.slice none 0 0], 1⟩] [⟨B, (m.Rows.flatMap encI)⟩] := hS4
  refine ss 4 rfl rfl (Ys_alloc (T := 176) (cs := [.slice none 0 0]) (m := 1) hS4 k_zero_176 rfl rfl rfl) ?_
  rintro _ w_4 ⟨b3, rfl, hS5⟩
  have hS5 : ST w0 [] _ [⟨some ⟨b, 0, none⟩, 43, [.slice B m.Rows.length c], 1⟩, ⟨B2, 3, (r_1.flatMap encI), c2 * 1⟩, ⟨some ⟨b1, 0, none⟩, 180, ([].flatMap enc_Gate), 0 * 3⟩, ⟨some ⟨b2, 0, none⟩, 34, [.slice none 0 0], 1⟩, ⟨some ⟨b3, 0, none⟩, 176, [.slice none 0 0], 1⟩] [⟨B, (m.Rows.flatMap encI)⟩] := hS5
  refine ss0 rfl rfl (Ys_store (i := 3) (s := 1) (B := some ⟨b2, 0, none⟩) (T' := 34) (v := .slice B2 r_1.length c2) (vs := [.slice B2 r_1.length c2]) (k := 0) (cs' := [.slice B2 r_1.length c2]) hS5 k_sz_34_1 rfl rfl rfl rfl rfl rfl rfl (Nat.le_of_ble_eq_true rfl) rfl rfl) ?_
  rintro _ w_5 ⟨rfl, hS6⟩
  have hS6 : ST w0 [] _ [⟨some ⟨b, 0, none⟩, 43, [.slice B m.Rows.length c], 1⟩, ⟨B2, 3, (r_1.flatMap encI), c2 * 1⟩, ⟨some ⟨b1, 0, none⟩, 180, ([].flatMap enc_Gate), 0 * 3⟩, ⟨some ⟨b2, 0, none⟩, 34, [.slice B2 r_1.length c2], 1⟩, ⟨some ⟨b3, 0, none⟩, 176, [.slice none 0 0], 1⟩] [⟨B, (m.Rows.flatMap encI)⟩] := hS6
  refine ss0 rfl rfl (Ys_store (i := 4) (s := 1) (B := some ⟨b3, 0, none⟩) (T' := 176) (v := .slice (some ⟨b1, 0, none⟩) 0 0) (vs := [.slice (some ⟨b1, 0, none⟩) 0 0]) (k := 0) (cs' := [.slice (some ⟨b1, 0, none⟩) 0 0]) hS6 k_sz_176_1 rfl rfl rfl rfl rfl rfl rfl (Nat.le_of_ble_eq_true rfl) rfl rfl) ?_
  rintro _ w_6 ⟨rfl, hS7⟩
  have hS7 : ST w0 [] _ [⟨some ⟨b, 0, none⟩, 43, [.slice B m.Rows.length c], 1⟩, ⟨B2, 3, (r_1.flatMap encI), c2 * 1⟩, ⟨some ⟨b1, 0, none⟩, 180, ([].flatMap enc_Gate), 0 * 3⟩, ⟨some ⟨b2, 0, none⟩, 34, [.slice B2 r_1.length c2], 1⟩, ⟨some ⟨b3, 0, none⟩, 176, [.slice (some ⟨b1, 0, none⟩) 0 0], 1⟩] [⟨B, (m.Rows.flatMap encI)⟩] := hS7
  refine rw_nil ?_
  refine cw_seq ?_
  refine cw_region ?_
  refine sq 13 rfl rfl (Y_makeFunc (cs := [pt (some ⟨b2, 0, none⟩) 0, pt (some ⟨b3, 0, none⟩) 0]) rfl rfl (mc rfl (mc rfl mn))) ?_
  refine sq 5 rfl rfl (Y_assign (v := .func (.func 206) #[] #[pt (some ⟨b2, 0, none⟩) 0, pt (some ⟨b3, 0, none⟩) 0]) rfl rfl) ?_
  refine rw_nil ?_
  refine cw_seq ?_
  refine cw_seq ?_
  refine cw_region ?_
  refine sq 14 rfl rfl (Y_load1 (B := some ⟨b2, 0, none⟩) (i := 0) (cs := [.slice B2 r_1.length c2]) (v := .slice B2 r_1.length c2) k_sc_34 rfl rfl (hS7.cf (i := 3) rfl) rfl) ?_
  refine sq 15 rfl rfl (Y_len (B := B2) (m := r_1.length) (c := c2) k_sl_34_3 rfl rfl) ?_
  refine sq 16 rfl rfl (Y_move (v := .int .i64 0) rfl rfl) ?_
  refine rw_nil ?_
  obtain ⟨hN, hF⟩ := chk_inv hF
  obtain ⟨z, hz, hF1⟩ := bind_inv hF
  refine cw_block ?_
  refine cw_loop (fun k f w => ∃ (i : Nat) (rows : List Int) (out : List TGate) (B3 : Option Addr) (c3 : Nat), FF f [(3, pt (some ⟨b2, 0, none⟩) 0), (4, pt (some ⟨b3, 0, none⟩) 0), (5, .func (.func 206) #[] #[pt (some ⟨b2, 0, none⟩) 0, pt (some ⟨b3, 0, none⟩) 0]), (15, .int .i64 (r_1.length : Int)), (16, .int .i64 (i : Int))] ∧ rows.length = r_1.length ∧ ST w0 [] w [⟨some ⟨b2, 0, none⟩, 34, [.slice B2 r_1.length c2], 1⟩, ⟨B2, 3, (rows.flatMap encI), c2 * 1⟩, ⟨some ⟨b3, 0, none⟩, 176, [.slice B3 out.length c3], 1⟩, ⟨B3, 180, (out.flatMap enc_Gate), c3 * 3⟩] [⟨B, (m.Rows.flatMap encI)⟩] ∧ i + k = r_1.length ∧ forN (F_impl_eliminated_l1 r_1) k i (rows, out) = some z) r_1.length ⟨0, r_1, [], some ⟨b1, 0, none⟩, 0, (FF.cons rfl (FF.cons rfl (FF.cons rfl (FF.cons rfl (FF.cons rfl FF.nil))))), rfl, (hS7.sel [3, 1, 4, 2] rfl rfl), Nat.zero_add _, hz⟩ ?_
  rintro k_ f w ⟨i, rows, out, B3, c3, hf, hl, hS8, hik, hL⟩
  refine cw_seq ?_
  refine cw_region ?_
  refine sq 17 rfl rfl (Y_lt (k := .i64) (a := (i : Int)) (b := (r_1.length : Int)) rfl (hf.get 16 4 rfl) (hf.get 15 3 rfl)) ?_
  refine rw_nil ?_
  refine cw_seq ?_
  refine cw_cond (b := (decide ((i : Int) < (r_1.length : Int)))) rfl (fun hlt => ?_) (fun hlt => ?_)
  · skip
    have hlt1 : i < r_1.length := by have h := of_decide_eq_true hlt; omega
    obtain ⟨k_1, rfl⟩ : ∃ k2, k_ = k2 + 1 := ⟨k_ - 1, by omega⟩
    obtain ⟨y, hb, hL1⟩ := forN_go hL
    unfold F_impl_eliminated_l1 at hb
    refine cw_skip ?_
    refine cw_seq ?_
    refine cw_block ?_
    refine cw_seq ?_
    refine cw_region ?_
    refine sq 18 rfl rfl (Y_move (v := .int .i64 (i : Int)) rfl (hf.get 16 4 rfl)) ?_
    refine sq 6 rfl rfl (Y_assign (v := .int .i64 (i : Int)) rfl rfl) ?_
    refine rw_nil ?_
    refine cw_seq ?_
    refine cw_seq ?_
    refine cw_region ?_
    refine sq 19 rfl rfl (Y_move (v := .int .i64 (i : Int)) rfl rfl) ?_
    refine sq 20 rfl rfl (Y_add (k := .i64) (a := (i : Int)) (b := 1) rfl rfl rfl) ?_
    refine sq 7 rfl rfl (Y_assign (v := .int .i64 (IntKind.i64.wrap ((i : Int) + 1))) rfl rfl) ?_
    refine rw_nil ?_
    obtain ⟨z1, hz1, hF2⟩ := bind_inv hb
    refine cw_block ?_
    refine cw_loop (fun k f w => ∃ (rows1 : List Int) (out1 : List TGate) (i1 : Int) (B4 : Option Addr) (c4 : Nat), FF f [(3, pt (some ⟨b2, 0, none⟩) 0), (4, pt (some ⟨b3, 0, none⟩) 0), (5, .func (.func 206) #[] #[pt (some ⟨b2, 0, none⟩) 0, pt (some ⟨b3, 0, none⟩) 0]), (6, .int .i64 (i : Int)), (7, .int .i64 i1), (15, .int .i64 (r_1.length : Int)), (16, .int .i64 (i : Int))] ∧ rows1.length = r_1.length ∧ ST w0 [] w [⟨some ⟨b2, 0, none⟩, 34, [.slice B2 r_1.length c2], 1⟩, ⟨B2, 3, (rows1.flatMap encI), c2 * 1⟩, ⟨some ⟨b3, 0, none⟩, 176, [.slice B4 out1.length c4], 1⟩, ⟨B4, 180, (out1.flatMap enc_Gate), c4 * 3⟩] [⟨B, (m.Rows.flatMap encI)⟩] ∧ whX (F_impl_eliminated_l2 r_1 i) k (rows1, out1, i1) = some z1) fuel ⟨rows, out, (IntKind.i64.wrap ((i : Int) + 1)), B3, c3, (FF.cons (hf.get 3 0 rfl) (FF.cons (hf.get 4 1 rfl) (FF.cons (hf.get 5 2 rfl) (FF.cons rfl (FF.cons rfl (FF.cons (hf.get 15 3 rfl) (FF.cons (hf.get 16 4 rfl) FF.nil))))))), hl, (hS8.sel [0, 1, 2, 3] rfl rfl), hz1⟩ ?_
    rintro k_2 f w ⟨rows1, out1, i1, B4, c4, hf1, hl1, hS9, hL2⟩
    obtain ⟨k_3, y1, rfl, hb1, hL3⟩ := whX_go hL2
    unfold F_impl_eliminated_l2 at hb1
    refine cw_seq ?_
    refine cw_seq ?_
    refine cw_region ?_
    refine sq 21 rfl rfl (Y_move (v := .int .i64 i1) rfl (hf1.get 7 4 rfl)) ?_
    refine sq 22 rfl rfl (Y_load1 (B := some ⟨b2, 0, none⟩) (i := 0) (cs := [.slice B2 r_1.length c2]) (v := .slice B2 r_1.length c2) k_sc_34 rfl (hf1.get 3 0 rfl) (hS9.cf (i := 0) rfl) rfl) ?_
    refine sq 23 rfl rfl (Y_len (B := B2) (m := r_1.length) (c := c2) k_sl_34_3 rfl rfl) ?_
    refine sq 24 rfl rfl (Y_lt (k := .i64) (a := i1) (b := (r_1.length : Int)) rfl rfl rfl) ?_
    refine sq 25 rfl rfl (Y_move (v := .bool (decide (i1 < (r_1.length : Int)))) rfl rfl) ?_
    refine sgq 26 (B := (decide (i1 < (r_1.length : Int)))) (v := .slice B2 r_1.length c2) rfl rfl (wt_t (gd_of (t := 25) (by kernel_rfl) rfl)) (fun hg => (Y_load1 (B := some ⟨b2, 0, none⟩) (i := 0) (cs := [.slice B2 r_1.length c2]) (v := .slice B2 r_1.length c2) k_sc_34 rfl (hf1.get 3 0 rfl) (hS9.cf (i := 0) rfl) rfl)) ?_
    refine sgq 27 (B := (decide (i1 < (r_1.length : Int)))) (v := .int .i64 (i : Int)) rfl rfl (wt_t (gd_of (t := 25) (by kernel_rfl) rfl)) (fun hg1 => (Y_move (v := .int .i64 (i : Int)) rfl (hf1.get 6 3 rfl))) ?_
    obtain ⟨x, hx, hb1⟩ := bind_inv hb1
    refine sgq 28 (B := (decide (i1 < (r_1.length : Int)))) (v := pt B2 ((i : Int).toNat * 1)) rfl rfl (wt_t (gd_of (t := 25) (by kernel_rfl) rfl)) (fun hg2 => (Y_index (B := B2) (m := r_1.length) (c := c2) (k := .i64) (i := (i : Int)) k_sl_34_3 k_sz_3_1 rfl (gv_of (B := (decide (i1 < (r_1.length : Int)))) (v := .slice B2 r_1.length c2) hg2) (gv_of (B := (decide (i1 < (r_1.length : Int)))) (v := .int .i64 (i : Int)) hg2) (gi_isSome encI_len rfl (hS9.cf (i := 1) rfl) (gb_inv hx hg2)) (getI_nn (gb_inv hx hg2)) (getI_ltI (gb_inv hx hg2) hl1))) ?_
    refine sgq 29 (B := (decide (i1 < (r_1.length : Int)))) (v := .int .i64 x) rfl rfl (wt_t (gd_of (t := 25) (by kernel_rfl) rfl)) (fun hg3 => (Y_load1 (B := B2) (i := (i : Int).toNat * 1) (cs := (rows1.flatMap encI)) (v := .int .i64 x) k_sc_3 rfl (gv_of (B := (decide (i1 < (r_1.length : Int)))) (v := pt B2 ((i : Int).toNat * 1)) hg3) (hS9.cf (i := 1) rfl) (gi_at0 encI_len (gb_inv hx hg3) rfl))) ?_
    refine sgq 30 (B := (decide (i1 < (r_1.length : Int)))) (v := .int .i64 (i : Int)) rfl rfl (wt_t (gd_of (t := 25) (by kernel_rfl) rfl)) (fun hg4 => (Y_move (v := .int .i64 (i : Int)) rfl (hf1.get 6 3 rfl))) ?_
    obtain ⟨hsh, hb1⟩ := chk_inv hb1
    refine sgq 31 (B := (decide (i1 < (r_1.length : Int)))) (v := .int .i64 (shrK .i64 x (i : Int))) rfl rfl (wt_t (gd_of (t := 25) (by kernel_rfl) rfl)) (fun hg5 => (Y_shr (k := .i64) (a := x) (k' := .i64) (b := (i : Int)) rfl (gv_of (B := (decide (i1 < (r_1.length : Int)))) (v := .int .i64 x) hg5) (gv_of (B := (decide (i1 < (r_1.length : Int)))) (v := .int .i64 (i : Int)) hg5) (hsh hg5))) ?_
    refine sgq 32 (B := (decide (i1 < (r_1.length : Int)))) (v := .int .i64 (bits .and .i64 (shrK .i64 x (i : Int)) 1)) rfl rfl (wt_t (gd_of (t := 25) (by kernel_rfl) rfl)) (fun hg6 => (Y_band (k := .i64) (a := (shrK .i64 x (i : Int))) (b := 1) rfl (gv_of (B := (decide (i1 < (r_1.length : Int)))) (v := .int .i64 (shrK .i64 x (i : Int))) hg6) rfl)) ?_
    refine sgq 33 (B := (decide (i1 < (r_1.length : Int)))) (v := .bool ((bits .and .i64 (shrK .i64 x (i : Int)) 1) == 0)) rfl rfl (wt_t (gd_of (t := 25) (by kernel_rfl) rfl)) (fun hg7 => (Y_eq (k := .i64) (a := (bits .and .i64 (shrK .i64 x (i : Int)) 1)) (b := 0) rfl (gv_of (B := (decide (i1 < (r_1.length : Int)))) (v := .int .i64 (bits .and .i64 (shrK .i64 x (i : Int)) 1)) hg7) rfl)) ?_
    refine sq 34 rfl rfl (Y_and (b := (decide (i1 < (r_1.length : Int)))) (z := ((bits .and .i64 (shrK .i64 x (i : Int)) 1) == 0)) rfl rfl rfl rfl) ?_
    refine rw_nil ?_
    refine cw_cond (b := ((decide (i1 < (r_1.length : Int))) && ((bits .and .i64 (shrK .i64 x (i : Int)) 1) == 0))) rfl (fun hb2 => ?_) (fun hb2 => ?_)
    · skip
      have hF3 := ct hb1 hb2
      refine cw_skip ?_
      refine cw_seq ?_
      obtain ⟨z2, hz2, hF4⟩ := bind_inv hF3
      refine cw_mid (fun f w => ∃ (rows2 : List Int) (out2 : List TGate) (B5 : Option Addr) (c5 : Nat), (rows2, out2) = z2 ∧ FF f [(3, pt (some ⟨b2, 0, none⟩) 0), (4, pt (some ⟨b3, 0, none⟩) 0), (5, .func (.func 206) #[] #[pt (some ⟨b2, 0, none⟩) 0, pt (some ⟨b3, 0, none⟩) 0]), (6, .int .i64 (i : Int)), (7, .int .i64 i1), (15, .int .i64 (r_1.length : Int)), (16, .int .i64 (i : Int))] ∧ rows2.length = r_1.length ∧ ST w0 [] w [⟨some ⟨b2, 0, none⟩, 34, [.slice B2 r_1.length c2], 1⟩, ⟨B2, 3, (rows2.flatMap encI), c2 * 1⟩, ⟨some ⟨b3, 0, none⟩, 176, [.slice B5 out2.length c5], 1⟩, ⟨B5, 180, (out2.flatMap enc_Gate), c5 * 3⟩] [⟨B, (m.Rows.flatMap encI)⟩]) ?_ ?_
      · skip
        refine cw_block ?_
        refine cw_seq ?_
        refine cw_region ?_
        refine sq 37 rfl rfl (Y_load1 (B := some ⟨b2, 0, none⟩) (i := 0) (cs := [.slice B2 r_1.length c2]) (v := .slice B2 r_1.length c2) k_sc_34 rfl (hf1.get 3 0 rfl) (hS9.cf (i := 0) rfl) rfl) ?_
        refine sq 38 rfl rfl (Y_move (v := .int .i64 i1) rfl (hf1.get 7 4 rfl)) ?_
        obtain ⟨x1, hx1, hz2⟩ := bind_inv hz2
        refine sq 39 rfl rfl (Y_index (B := B2) (m := r_1.length) (c := c2) (k := .i64) (i := i1) k_sl_34_3 k_sz_3_1 rfl rfl rfl (gi_isSome encI_len rfl (hS9.cf (i := 1) rfl) hx1) (getI_nn hx1) (getI_ltI hx1 hl1)) ?_
        refine sq 40 rfl rfl (Y_load1 (B := B2) (i := i1.toNat * 1) (cs := (rows1.flatMap encI)) (v := .int .i64 x1) k_sc_3 rfl rfl (hS9.cf (i := 1) rfl) (gi_at0 encI_len hx1 rfl)) ?_
        refine sq 41 rfl rfl (Y_move (v := .int .i64 (i : Int)) rfl (hf1.get 6 3 rfl)) ?_
        obtain ⟨hsh1, hz2⟩ := chk_inv hz2
        refine sq 42 rfl rfl (Y_shr (k := .i64) (a := x1) (k' := .i64) (b := (i : Int)) rfl rfl rfl hsh1) ?_
        refine sq 43 rfl rfl (Y_band (k := .i64) (a := (shrK .i64 x1 (i : Int))) (b := 1) rfl rfl rfl) ?_
        refine sq 44 rfl rfl (Y_eq (k := .i64) (a := (bits .and .i64 (shrK .i64 x1 (i : Int)) 1)) (b := 1) rfl rfl rfl) ?_
        refine rw_nil ?_
        refine cw_cond (b := ((bits .and .i64 (shrK .i64 x1 (i : Int)) 1) == 1)) rfl (fun hb3 => ?_) (fun hb3 => ?_)
        · skip
          have hF5 := ct hz2 hb3
          refine cw_region ?_
          refine sq 45 rfl rfl (Y_move (v := .func (.func 206) #[] #[pt (some ⟨b2, 0, none⟩) 0, pt (some ⟨b3, 0, none⟩) 0]) rfl (hf1.get 5 2 rfl)) ?_
          refine sq 46 rfl rfl (Y_move (v := .int .i64 i1) rfl (hf1.get 7 4 rfl)) ?_
          refine sq 47 rfl rfl (Y_move (v := .int .i64 (i : Int)) rfl (hf1.get 6 3 rfl)) ?_
          obtain ⟨⟨m1, m2⟩, hc1, hF5⟩ := bind_inv hF5
          refine sc 48 rfl rfl (Yc_clos (g := 206) (vs := [.int .i64 i1, .int .i64 (i : Int), pt (some ⟨b2, 0, none⟩) 0, pt (some ⟨b3, 0, none⟩) 0]) k_call_206 rfl rfl (clo_args (mc rfl (mc rfl mn))) (c_impl_eliminated_1 i1 (i : Int) rows1 out1 (some ⟨b2, 0, none⟩) B2 c2 r_1.length (some ⟨b3, 0, none⟩) B4 c4 out1.length _ hl1 rfl (hS9.inn [false, true, true, true] rfl [(false, 0)] rfl) hc1)) ?_
          rintro _ w_7 ⟨B6, c6, rfl, hl3, hd1⟩
          have hS11 := hS9.out [false, true, true, true] rfl hd1
          have hS11 : ST w0 [] _ [⟨some ⟨b2, 0, none⟩, 34, [.slice B2 r_1.length c2], 1⟩, ⟨B2, 3, (m1.flatMap encI), c2 * 1⟩, ⟨some ⟨b3, 0, none⟩, 176, [.slice B6 m2.length c6], 1⟩, ⟨B6, 180, (m2.flatMap enc_Gate), c6 * 3⟩] [⟨B, (m.Rows.flatMap encI)⟩] := hS11
          refine rw_nil ?_
          exact ⟨m1, m2, B6, c6, (some_inj hF5), (FF.cons (hf1.get 3 0 rfl) (FF.cons (hf1.get 4 1 rfl) (FF.cons (hf1.get 5 2 rfl) (FF.cons (hf1.get 6 3 rfl) (FF.cons (hf1.get 7 4 rfl) (FF.cons (hf1.get 15 5 rfl) (FF.cons (hf1.get 16 6 rfl) FF.nil))))))), hl3, (hS11.sel [0, 1, 2, 3] rfl rfl)⟩
        · skip
          have hF6 := cf' hz2 hb3
          refine cw_skip ?_
          exact ⟨rows1, out1, B4, c4, (some_inj hF6), (FF.cons (hf1.get 3 0 rfl) (FF.cons (hf1.get 4 1 rfl) (FF.cons (hf1.get 5 2 rfl) (FF.cons (hf1.get 6 3 rfl) (FF.cons (hf1.get 7 4 rfl) (FF.cons (hf1.get 15 5 rfl) (FF.cons (hf1.get 16 6 rfl) FF.nil))))))), hl1, (hS9.sel [0, 1, 2, 3] rfl rfl)⟩
      rintro f w ⟨rows2, out2, B5, c5, rfl, hf2, hl2, hS10⟩
      refine cw_region ?_
      refine sq 35 rfl rfl (Y_move (v := .int .i64 i1) rfl (hf2.get 7 4 rfl)) ?_
      refine sq 36 rfl rfl (Y_add (k := .i64) (a := i1) (b := 1) rfl rfl rfl) ?_
      refine sq 7 rfl rfl (Y_assign (v := .int .i64 (IntKind.i64.wrap (i1 + 1))) rfl rfl) ?_
      refine rw_nil ?_
      obtain rfl := some_inj hF4
      exact ⟨k_3, Nat.lt_succ_self _, rows2, out2, (IntKind.i64.wrap (i1 + 1)), B5, c5, (FF.cons (hf2.get 3 0 rfl) (FF.cons (hf2.get 4 1 rfl) (FF.cons (hf2.get 5 2 rfl) (FF.cons (hf2.get 6 3 rfl) (FF.cons rfl (FF.cons (hf2.get 15 5 rfl) (FF.cons (hf2.get 16 6 rfl) FF.nil))))))), hl2, (hS10.sel [0, 1, 2, 3] rfl rfl), hL3⟩
    · skip
      have hF7 := cf' hb1 hb2
      refine cw_exit rfl ?_
      obtain rfl := some_inj hF7
      obtain rfl := some_inj hL3
      refine cw_seq ?_
      refine cw_region ?_
      refine sq 49 rfl rfl (Y_load1 (B := some ⟨b2, 0, none⟩) (i := 0) (cs := [.slice B2 r_1.length c2]) (v := .slice B2 r_1.length c2) k_sc_34 rfl (hf1.get 3 0 rfl) (hS9.cf (i := 0) rfl) rfl) ?_
      refine sq 50 rfl rfl (Y_len (B := B2) (m := r_1.length) (c := c2) k_sl_34_3 rfl rfl) ?_
      refine sq 51 rfl rfl (Y_move (v := .int .i64 0) rfl rfl) ?_
      refine rw_nil ?_
      obtain ⟨hN1, hF2⟩ := chk_inv hF2
      obtain ⟨z3, hz3, hF8⟩ := bind_inv hF2
      refine cw_block ?_
      refine cw_loop (fun k f w => ∃ (i2 : Nat) (rows3 : List Int) (out3 : List TGate) (B7 : Option Addr) (c7 : Nat), FF f [(3, pt (some ⟨b2, 0, none⟩) 0), (4, pt (some ⟨b3, 0, none⟩) 0), (5, .func (.func 206) #[] #[pt (some ⟨b2, 0, none⟩) 0, pt (some ⟨b3, 0, none⟩) 0]), (6, .int .i64 (i : Int)), (15, .int .i64 (r_1.length : Int)), (16, .int .i64 (i : Int)), (50, .int .i64 (r_1.length : Int)), (51, .int .i64 (i2 : Int))] ∧ rows3.length = r_1.length ∧ ST w0 [] w [⟨some ⟨b2, 0, none⟩, 34, [.slice B2 r_1.length c2], 1⟩, ⟨B2, 3, (rows3.flatMap encI), c2 * 1⟩, ⟨some ⟨b3, 0, none⟩, 176, [.slice B7 out3.length c7], 1⟩, ⟨B7, 180, (out3.flatMap enc_Gate), c7 * 3⟩] [⟨B, (m.Rows.flatMap encI)⟩] ∧ i2 + k = r_1.length ∧ forN (F_impl_eliminated_l3 i) k i2 (rows3, out3) = some z3) r_1.length ⟨0, rows1, out1, B4, c4, (FF.cons (hf1.get 3 0 rfl) (FF.cons (hf1.get 4 1 rfl) (FF.cons (hf1.get 5 2 rfl) (FF.cons (hf1.get 6 3 rfl) (FF.cons (hf1.get 15 5 rfl) (FF.cons (hf1.get 16 6 rfl) (FF.cons rfl (FF.cons rfl FF.nil)))))))), hl1, (hS9.sel [0, 1, 2, 3] rfl rfl), Nat.zero_add _, hz3⟩ ?_
      rintro k_4 f w ⟨i2, rows3, out3, B7, c7, hf3, hl4, hS12, hik2, hL4⟩
      refine cw_seq ?_
      refine cw_region ?_
      refine sq 52 rfl rfl (Y_lt (k := .i64) (a := (i2 : Int)) (b := (r_1.length : Int)) rfl (hf3.get 51 7 rfl) (hf3.get 50 6 rfl)) ?_
      refine rw_nil ?_
      refine cw_seq ?_
      refine cw_cond (b := (decide ((i2 : Int) < (r_1.length : Int)))) rfl (fun hlt2 => ?_) (fun hlt2 => ?_)
      · skip
        have hlt3 : i2 < r_1.length := by have h := of_decide_eq_true hlt2; omega
        obtain ⟨k_5, rfl⟩ : ∃ k2, k_4 = k2 + 1 := ⟨k_4 - 1, by omega⟩
        obtain ⟨y2, hb4, hL5⟩ := forN_go hL4
        unfold F_impl_eliminated_l3 at hb4
        refine cw_skip ?_
        refine cw_seq ?_
        obtain ⟨z4, hz4, hF9⟩ := bind_inv hb4
        refine cw_mid (fun f w => ∃ (rows4 : List Int) (out4 : List TGate) (B8 : Option Addr) (c8 : Nat), (rows4, out4) = z4 ∧ FF f [(3, pt (some ⟨b2, 0, none⟩) 0), (4, pt (some ⟨b3, 0, none⟩) 0), (5, .func (.func 206) #[] #[pt (some ⟨b2, 0, none⟩) 0, pt (some ⟨b3, 0, none⟩) 0]), (6, .int .i64 (i : Int)), (15, .int .i64 (r_1.length : Int)), (16, .int .i64 (i : Int)), (50, .int .i64 (r_1.length : Int)), (51, .int .i64 (i2 : Int))] ∧ rows4.length = r_1.length ∧ ST w0 [] w [⟨some ⟨b2, 0, none⟩, 34, [.slice B2 r_1.length c2], 1⟩, ⟨B2, 3, (rows4.flatMap encI), c2 * 1⟩, ⟨some ⟨b3, 0, none⟩, 176, [.slice B8 out4.length c8], 1⟩, ⟨B8, 180, (out4.flatMap enc_Gate), c8 * 3⟩] [⟨B, (m.Rows.flatMap encI)⟩]) ?_ ?_
        · skip
          refine cw_block ?_
          refine cw_seq ?_
          refine cw_region ?_
          refine sq 53 rfl rfl (Y_move (v := .int .i64 (i2 : Int)) rfl (hf3.get 51 7 rfl)) ?_
          refine sq 8 rfl rfl (Y_assign (v := .int .i64 (i2 : Int)) rfl rfl) ?_
          refine rw_nil ?_
          refine cw_seq ?_
          refine cw_region ?_
          refine sq 54 rfl rfl (Y_move (v := .int .i64 (i2 : Int)) rfl rfl) ?_
          refine sq 55 rfl rfl (Y_move (v := .int .i64 (i : Int)) rfl (hf3.get 6 3 rfl)) ?_
          refine sq 56 rfl rfl (Y_ne (k := .i64) (a := (i2 : Int)) (b := (i : Int)) rfl rfl rfl) ?_
          refine sq 57 rfl rfl (Y_move (v := .bool ((i2 : Int) != (i : Int))) rfl rfl) ?_
          refine sgq 58 (B := ((i2 : Int) != (i : Int))) (v := .slice B2 r_1.length c2) rfl rfl (wt_t (gd_of (t := 57) (by kernel_rfl) rfl)) (fun hg8 => (Y_load1 (B := some ⟨b2, 0, none⟩) (i := 0) (cs := [.slice B2 r_1.length c2]) (v := .slice B2 r_1.length c2) k_sc_34 rfl (hf3.get 3 0 rfl) (hS12.cf (i := 0) rfl) rfl)) ?_
          refine sgq 59 (B := ((i2 : Int) != (i : Int))) (v := .int .i64 (i2 : Int)) rfl rfl (wt_t (gd_of (t := 57) (by kernel_rfl) rfl)) (fun hg9 => (Y_move (v := .int .i64 (i2 : Int)) rfl rfl)) ?_
          obtain ⟨x2, hx2, hz4⟩ := bind_inv hz4
          refine sgq 60 (B := ((i2 : Int) != (i : Int))) (v := pt B2 ((i2 : Int).toNat * 1)) rfl rfl (wt_t (gd_of (t := 57) (by kernel_rfl) rfl)) (fun hg10 => (Y_index (B := B2) (m := r_1.length) (c := c2) (k := .i64) (i := (i2 : Int)) k_sl_34_3 k_sz_3_1 rfl (gv_of (B := ((i2 : Int) != (i : Int))) (v := .slice B2 r_1.length c2) hg10) (gv_of (B := ((i2 : Int) != (i : Int))) (v := .int .i64 (i2 : Int)) hg10) (gi_isSome encI_len rfl (hS12.cf (i := 1) rfl) (gb_inv hx2 hg10)) (getI_nn (gb_inv hx2 hg10)) (getI_ltI (gb_inv hx2 hg10) hl4))) ?_
          refine sgq 61 (B := ((i2 : Int) != (i : Int))) (v := .int .i64 x2) rfl rfl (wt_t (gd_of (t := 57) (by kernel_rfl) rfl)) (fun hg11 => (Y_load1 (B := B2) (i := (i2 : Int).toNat * 1) (cs := (rows3.flatMap encI)) (v := .int .i64 x2) k_sc_3 rfl (gv_of (B := ((i2 : Int) != (i : Int))) (v := pt B2 ((i2 : Int).toNat * 1)) hg11) (hS12.cf (i := 1) rfl) (gi_at0 encI_len (gb_inv hx2 hg11) rfl))) ?_
          refine sgq 62 (B := ((i2 : Int) != (i : Int))) (v := .int .i64 (i : Int)) rfl rfl (wt_t (gd_of (t := 57) (by kernel_rfl) rfl)) (fun hg12 => (Y_move (v := .int .i64 (i : Int)) rfl (hf3.get 6 3 rfl))) ?_
          obtain ⟨hsh2, hz4⟩ := chk_inv hz4
          refine sgq 63 (B := ((i2 : Int) != (i : Int))) (v := .int .i64 (shrK .i64 x2 (i : Int))) rfl rfl (wt_t (gd_of (t := 57) (by kernel_rfl) rfl)) (fun hg13 => (Y_shr (k := .i64) (a := x2) (k' := .i64) (b := (i : Int)) rfl (gv_of (B := ((i2 : Int) != (i : Int))) (v := .int .i64 x2) hg13) (gv_of (B := ((i2 : Int) != (i : Int))) (v := .int .i64 (i : Int)) hg13) (hsh2 hg13))) ?_
          refine sgq 64 (B := ((i2 : Int) != (i : Int))) (v := .int .i64 (bits .and .i64 (shrK .i64 x2 (i : Int)) 1)) rfl rfl (wt_t (gd_of (t := 57) (by kernel_rfl) rfl)) (fun hg14 => (Y_band (k := .i64) (a := (shrK .i64 x2 (i : Int))) (b := 1) rfl (gv_of (B := ((i2 : Int) != (i : Int))) (v := .int .i64 (shrK .i64 x2 (i : Int))) hg14) rfl)) ?_
          refine sgq 65 (B := ((i2 : Int) != (i : Int))) (v := .bool ((bits .and .i64 (shrK .i64 x2 (i : Int)) 1) == 1)) rfl rfl (wt_t (gd_of (t := 57) (by kernel_rfl) rfl)) (fun hg15 => (Y_eq (k := .i64) (a := (bits .and .i64 (shrK .i64 x2 (i : Int)) 1)) (b := 1) rfl (gv_of (B := ((i2 : Int) != (i : Int))) (v := .int .i64 (bits .and .i64 (shrK .i64 x2 (i : Int)) 1)) hg15) rfl)) ?_
          refine sq 66 rfl rfl (Y_and (b := ((i2 : Int) != (i : Int))) (z := ((bits .and .i64 (shrK .i64 x2 (i : Int)) 1) == 1)) rfl rfl rfl rfl) ?_
          refine rw_nil ?_
          refine cw_cond (b := (((i2 : Int) != (i : Int)) && ((bits .and .i64 (shrK .i64 x2 (i : Int)) 1) == 1))) rfl (fun hb5 => ?_) (fun hb5 => ?_)
          · skip
            have hF10 := ct hz4 hb5
            refine cw_region ?_
            refine sq 67 rfl rfl (Y_move (v := .func (.func 206) #[] #[pt (some ⟨b2, 0, none⟩) 0, pt (some ⟨b3, 0, none⟩) 0]) rfl (hf3.get 5 2 rfl)) ?_
            refine sq 68 rfl rfl (Y_move (v := .int .i64 (i : Int)) rfl (hf3.get 6 3 rfl)) ?_
            refine sq 69 rfl rfl (Y_move (v := .int .i64 (i2 : Int)) rfl rfl) ?_
            obtain ⟨⟨m3, m4⟩, hc2, hF10⟩ := bind_inv hF10
            refine sc 70 rfl rfl (Yc_clos (g := 206) (vs := [.int .i64 (i : Int), .int .i64 (i2 : Int), pt (some ⟨b2, 0, none⟩) 0, pt (some ⟨b3, 0, none⟩) 0]) k_call_206 rfl rfl (clo_args (mc rfl (mc rfl mn))) (c_impl_eliminated_1 (i : Int) (i2 : Int) rows3 out3 (some ⟨b2, 0, none⟩) B2 c2 r_1.length (some ⟨b3, 0, none⟩) B7 c7 out3.length _ hl4 rfl (hS12.inn [false, true, true, true] rfl [(false, 0)] rfl) hc2)) ?_
            rintro _ w_8 ⟨B9, c9, rfl, hl6, hd2⟩
            have hS14 := hS12.out [false, true, true, true] rfl hd2
            have hS14 : ST w0 [] _ [⟨some ⟨b2, 0, none⟩, 34, [.slice B2 r_1.length c2], 1⟩, ⟨B2, 3, (m3.flatMap encI), c2 * 1⟩, ⟨some ⟨b3, 0, none⟩, 176, [.slice B9 m4.length c9], 1⟩, ⟨B9, 180, (m4.flatMap enc_Gate), c9 * 3⟩] [⟨B, (m.Rows.flatMap encI)⟩] := hS14
            refine rw_nil ?_
            exact ⟨m3, m4, B9, c9, (some_inj hF10), (FF.cons (hf3.get 3 0 rfl) (FF.cons (hf3.get 4 1 rfl) (FF.cons (hf3.get 5 2 rfl) (FF.cons (hf3.get 6 3 rfl) (FF.cons (hf3.get 15 4 rfl) (FF.cons (hf3.get 16 5 rfl) (FF.cons (hf3.get 50 6 rfl) (FF.cons (hf3.get 51 7 rfl) FF.nil)))))))), hl6, (hS14.sel [0, 1, 2, 3] rfl rfl)⟩
          · skip
            have hF11 := cf' hz4 hb5
            refine cw_skip ?_
            exact ⟨rows3, out3, B7, c7, (some_inj hF11), (FF.cons (hf3.get 3 0 rfl) (FF.cons (hf3.get 4 1 rfl) (FF.cons (hf3.get 5 2 rfl) (FF.cons (hf3.get 6 3 rfl) (FF.cons (hf3.get 15 4 rfl) (FF.cons (hf3.get 16 5 rfl) (FF.cons (hf3.get 50 6 rfl) (FF.cons (hf3.get 51 7 rfl) FF.nil)))))))), hl4, (hS12.sel [0, 1, 2, 3] rfl rfl)⟩
        rintro f w ⟨rows4, out4, B8, c8, rfl, hf4, hl5, hS13⟩
        refine cw_region ?_
        refine sq 71 rfl rfl (Y_add (k := .i64) (a := (i2 : Int)) (b := 1) rfl (hf4.get 51 7 rfl) rfl) ?_
        refine sq 51 rfl rfl (Y_move (v := .int .i64 (IntKind.i64.wrap ((i2 : Int) + 1))) rfl rfl) ?_
        refine rw_nil ?_
        obtain rfl := some_inj hF9
        exact ⟨k_5, Nat.lt_succ_self _, i2 + 1, rows4, out4, B8, c8, (FF.cons (hf4.get 3 0 rfl) (FF.cons (hf4.get 4 1 rfl) (FF.cons (hf4.get 5 2 rfl) (FF.cons (hf4.get 6 3 rfl) (FF.cons (hf4.get 15 4 rfl) (FF.cons (hf4.get 16 5 rfl) (FF.cons (hf4.get 50 6 rfl) (FF.cons (congrArg (Value.int .i64) (wr_succ hlt3 hN1)) FF.nil)))))))), hl5, (hS13.sel [0, 1, 2, 3] rfl rfl), (by omega), hL5⟩
      · skip
        obtain rfl : k_4 = 0 := by have h := of_decide_eq_false hlt2; omega
        refine cw_exit rfl ?_
        obtain rfl := some_inj hL4
        refine cw_region ?_
        refine sq 72 rfl rfl (Y_add (k := .i64) (a := (i : Int)) (b := 1) rfl (hf3.get 16 5 rfl) rfl) ?_
        refine sq 16 rfl rfl (Y_move (v := .int .i64 (IntKind.i64.wrap ((i : Int) + 1))) rfl rfl) ?_
        refine rw_nil ?_
        obtain rfl := some_inj hF8
        exact ⟨k_1, Nat.lt_succ_self _, i + 1, rows3, out3, B7, c7, (FF.cons (hf3.get 3 0 rfl) (FF.cons (hf3.get 4 1 rfl) (FF.cons (hf3.get 5 2 rfl) (FF.cons (hf3.get 15 4 rfl) (FF.cons (congrArg (Value.int .i64) (wr_succ hlt1 hN)) FF.nil))))), hl4, (hS12.sel [0, 1, 2, 3] rfl rfl), (by omega), hL1⟩
  · skip
    obtain rfl : k_ = 0 := by have h := of_decide_eq_false hlt; omega
    refine cw_exit rfl ?_
    obtain rfl := some_inj hL
    refine cw_seq ?_
    refine cw_region ?_
    refine sq 73 rfl rfl (Y_load1 (B := some ⟨b3, 0, none⟩) (i := 0) (cs := [.slice B3 out.length c3]) (v := .slice B3 out.length c3) k_sc_176 rfl (hf.get 4 1 rfl) (hS8.cf (i := 2) rfl) rfl) ?_
    refine sq 2 rfl rfl (Y_assign (v := .slice B3 out.length c3) rfl rfl) ?_
    refine rw_nil ?_
    refine cw_ret ?_
    obtain rfl := some_inj hF1
    exact ret1 Try.results174 (v1 := .slice B3 out.length c3) (resAt_tmp rfl) ⟨B3, c3, rfl, (ST.subR (R' := []) (hS8.sel [3] rfl rfl) (fun _ h => by cases h))⟩
end Go.VK
