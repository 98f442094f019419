/- Walks: each Go function returns what its Lean function says. By program. -/
import Derived.Test.YthfilimbhhijaaaInvertPhaseFa
import Derived.Test.YthfilimbhhijaaaInvertPhaseW2
set_option linter.unusedVariables false
set_option maxRecDepth 100000
set_option maxHeartbeats 1000000
namespace Go.VK
open Go.RowKit
open Go.Proofs
attribute [local irreducible] CW RW RA CV Y Yw Yc Ys RetOf
attribute [local irreducible] F_laws_szTermS F_laws_szIntS F_laws_szLinear F_laws_szPhasePoly F_laws_toTerm F_laws_toTermS F_laws_toIntS F_laws_toLinear F_laws_toPhasePoly F_laws_eqTerm F_laws_eqTermS F_laws_eqIntS F_laws_eqLinear F_laws_eqPhasePoly F_laws_markTermS F_laws_markIntS F_laws_markLinear F_laws_markPhasePoly F_laws_heldTermS F_laws_heldIntS F_laws_heldLinear F_laws_heldPhasePoly F_spec_l1In F_spec_l1All F_spec_l1Own F_spec_l12Rank F_spec_l12Valid F_spec_l13Valid F_spec_l1Set F_spec_l13Through F_spec_l13List F_spec_l12Identity F_spec_l12CX F_spec_l12Reduce F_spec_InvertLinear F_spec_InvertPhase F_impl_within F_impl_areTerms F_slices_IndexFunc_int_int F_slices_ContainsFunc_int_int F_impl_IsValidLinear_1 F_slices_Clone_int_int F_impl_rankOf_1 F_slices_Delete_int_int F_impl_rankOf F_impl_IsValidLinear F_impl_IsValidPhasePoly F_impl_coefficients_add F_impl_coefficients_terms F_impl_Linear_through F_impl_identityLinear F_impl_eliminated_1 F_impl_eliminated F_impl_Linear_inverted F_impl_InvertPhase F_laws_FnExactInvertPhase
theorem c_impl_Linear_inverted (m : TLinear) (B : Option Addr) (c n : Nat) (w0 : World) (hn : m.Rows.length = n) (hS : ST w0 [] w0 [] [⟨B, (m.Rows.flatMap encI)⟩]) {r_ : TLinear} (hF : F_impl_Linear_inverted m = some r_) :
    CV Try.prog 122 #[.agg #[.slice B n c]] w0 (fun v w' => ∃ (B1 : Option Addr) (c1 : Nat), v = .agg #[.slice B1 r_.Rows.length c1] ∧ ST w0 [] w' [⟨B1, 3, (r_.Rows.flatMap encI), c1 * 1⟩] []) := by
  subst hn
  unfold F_impl_Linear_inverted at hF
  refine cv_of_cw 33 Try.func122 rfl Try.ntmps122 rfl ?_
  refine cw_seq ?_
  refine cw_region ?_
  refine ss 1 rfl rfl (Ys_box (T := 43) (v := .agg #[.slice B m.Rows.length c]) (cs := [.slice B m.Rows.length c]) (m := 1) hS rfl rfl rfl rfl) ?_
  rintro _ w_ ⟨b, rfl, hS1⟩
  refine ss 2 rfl rfl (Ys_alloc (T := 43) (cs := [.slice none 0 0]) (m := 1) hS1 k_zero_43 rfl rfl rfl) ?_
  rintro _ w_1 ⟨b1, rfl, hS2⟩
  have hS2 : ST w0 [] _ [⟨some ⟨b, 0, none⟩, 43, [.slice B m.Rows.length c], 1⟩, ⟨some ⟨b1, 0, none⟩, 43, [.slice none 0 0], 1⟩] [⟨B, (m.Rows.flatMap encI)⟩] := hS2
  refine rw_nil ?_
  refine cw_seq ?_
  refine cw_region ?_
  refine sq 6 rfl rfl (Y_fieldAddr (B := some ⟨b, 0, none⟩) (i := 0) (s := 0) k_fd_43_0_0_34 k_sz_34_1 rfl rfl) ?_
  refine sq 7 rfl rfl (Y_load1 (B := some ⟨b, 0, none⟩) (i := 0) (cs := [.slice B m.Rows.length c]) (v := .slice B m.Rows.length c) k_sc_34 rfl rfl (hS2.cf (i := 0) rfl) rfl) ?_
  refine sq 8 rfl rfl (Y_len (B := B) (m := m.Rows.length) (c := c) k_sl_34_3 rfl rfl) ?_
  obtain ⟨r_1, hc, hF⟩ := bind_inv hF
  refine sc 9 rfl rfl (Yc_func (g := 173) (vs := [.int .i64 (m.Rows.length : Int)]) k_call_173 rfl (mc rfl mn) (c_impl_identityLinear (m.Rows.length : Int) _  (hS2.inn0 [] rfl) hc)) ?_
  rintro _ w_2 ⟨B2, c2, rfl, hd⟩
  have hS3 := hS2.out0 hd
  have hS3 : ST w0 [] _ [⟨some ⟨b, 0, none⟩, 43, [.slice B m.Rows.length c], 1⟩, ⟨some ⟨b1, 0, none⟩, 43, [.slice none 0 0], 1⟩, ⟨B2, 3, (r_1.Rows.flatMap encI), c2 * 1⟩] [⟨B, (m.Rows.flatMap encI)⟩] := hS3
  refine ss 3 rfl rfl (Ys_alloc (T := 43) (cs := [.slice none 0 0]) (m := 1) hS3 k_zero_43 rfl rfl rfl) ?_
  rintro _ w_3 ⟨b2, rfl, hS4⟩
  have hS4 : ST w0 [] _ [⟨some ⟨b, 0, none⟩, 43, [.slice B m.Rows.length c], 1⟩, ⟨some ⟨b1, 0, none⟩, 43, [.slice none 0 0], 1⟩, ⟨B2, 3, (r_1.Rows.flatMap encI), c2 * 1⟩, ⟨some ⟨b2, 0, none⟩, 43, [.slice none 0 0], 1⟩] [⟨B, (m.Rows.flatMap encI)⟩] := hS4
  refine ss0 rfl rfl (Ys_store (i := 3) (s := 1) (B := some ⟨b2, 0, none⟩) (T' := 43) (v := .agg #[.slice B2 r_1.Rows.length c2]) (vs := [.slice B2 r_1.Rows.length c2]) (k := 0) (cs' := [.slice B2 r_1.Rows.length c2]) hS4 k_sz_43_1 rfl rfl rfl rfl rfl rfl rfl (Nat.le_of_ble_eq_true rfl) rfl rfl) ?_
  rintro _ w_4 ⟨rfl, hS5⟩
  have hS5 : ST w0 [] _ [⟨some ⟨b, 0, none⟩, 43, [.slice B m.Rows.length c], 1⟩, ⟨some ⟨b1, 0, none⟩, 43, [.slice none 0 0], 1⟩, ⟨B2, 3, (r_1.Rows.flatMap encI), c2 * 1⟩, ⟨some ⟨b2, 0, none⟩, 43, [.slice B2 r_1.Rows.length c2], 1⟩] [⟨B, (m.Rows.flatMap encI)⟩] := hS5
  refine rw_nil ?_
  refine cw_seq ?_
  refine cw_seq ?_
  refine cw_region ?_
  refine sq 10 rfl rfl (Y_loadA (B := some ⟨b, 0, none⟩) (i := 0) (cs := [.slice B m.Rows.length c]) (vs := [.slice B m.Rows.length c]) k_ag_43 k_sz_43_1 rfl rfl (hS5.cf (i := 0) rfl) rfl rfl) ?_
  obtain ⟨r_2, hc1, hF⟩ := bind_inv hF
  refine sc 11 rfl rfl (Yc_func (g := 174) (vs := [.agg #[.slice B m.Rows.length c]]) k_call_174 rfl (mc rfl mn) (c_impl_eliminated m B c m.Rows.length _ rfl (hS5.inn0 [(true, 0)] rfl) hc1)) ?_
  rintro _ w_5 ⟨B3, c3, rfl, hd1⟩
  have hS6 := hS5.out0 hd1
  have hS6 : ST w0 [] _ [⟨some ⟨b, 0, none⟩, 43, [.slice B m.Rows.length c], 1⟩, ⟨some ⟨b1, 0, none⟩, 43, [.slice none 0 0], 1⟩, ⟨B2, 3, (r_1.Rows.flatMap encI), c2 * 1⟩, ⟨some ⟨b2, 0, none⟩, 43, [.slice B2 r_1.Rows.length c2], 1⟩, ⟨B3, 180, (r_2.flatMap enc_Gate), c3 * 3⟩] [⟨B, (m.Rows.flatMap encI)⟩] := hS6
  refine sq 12 rfl rfl (Y_len (B := B3) (m := r_2.length) (c := c3) k_sl_176_180 rfl rfl) ?_
  refine sq 13 rfl rfl (Y_move (v := .int .i64 0) rfl rfl) ?_
  refine rw_nil ?_
  obtain ⟨hN, hF⟩ := chk_inv hF
  obtain ⟨z, hz, hF1⟩ := bind_inv hF
  refine cw_block ?_
  refine cw_loop (fun k f w => ∃ (i : Nat) (Rows : List Int), FF f [(2, pt (some ⟨b1, 0, none⟩) 0), (3, pt (some ⟨b2, 0, none⟩) 0), (11, .slice B3 r_2.length c3), (12, .int .i64 (r_2.length : Int)), (13, .int .i64 (i : Int))] ∧ Rows.length = r_1.Rows.length ∧ ST w0 [] w [⟨some ⟨b1, 0, none⟩, 43, [.slice none 0 0], 1⟩, ⟨some ⟨b2, 0, none⟩, 43, [.slice B2 r_1.Rows.length c2], 1⟩, ⟨B2, 3, (Rows.flatMap encI), c2 * 1⟩, ⟨B3, 180, (r_2.flatMap enc_Gate), c3 * 3⟩] [⟨B, (m.Rows.flatMap encI)⟩] ∧ i + k = r_2.length ∧ forN (F_impl_Linear_inverted_l1 r_2) k i Rows = some z) r_2.length ⟨0, r_1.Rows, (FF.cons rfl (FF.cons rfl (FF.cons rfl (FF.cons rfl (FF.cons rfl FF.nil))))), rfl, (hS6.sel [1, 3, 2, 4] rfl rfl), Nat.zero_add _, hz⟩ ?_
  rintro k_ f w ⟨i, Rows, hf, hl, hS7, hik, hL⟩
  refine cw_seq ?_
  refine cw_region ?_
  refine sq 14 rfl rfl (Y_lt (k := .i64) (a := (i : Int)) (b := (r_2.length : Int)) rfl (hf.get 13 4 rfl) (hf.get 12 3 rfl)) ?_
  refine rw_nil ?_
  refine cw_seq ?_
  refine cw_cond (b := (decide ((i : Int) < (r_2.length : Int)))) rfl (fun hlt => ?_) (fun hlt => ?_)
  · skip
    have hlt1 : i < r_2.length := by have h := of_decide_eq_true hlt; omega
    obtain ⟨k_1, rfl⟩ : ∃ k2, k_ = k2 + 1 := ⟨k_ - 1, by omega⟩
    obtain ⟨y, hb, hL1⟩ := forN_go hL
    unfold F_impl_Linear_inverted_l1 at hb
    refine cw_skip ?_
    refine cw_seq ?_
    refine cw_block ?_
    refine cw_seq ?_
    refine cw_region ?_
    obtain ⟨x, hx, hb⟩ := bind_inv hb
    refine sq 15 rfl rfl (Y_index (B := B3) (m := r_2.length) (c := c3) (k := .i64) (i := (i : Int)) k_sl_176_180 k_sz_180_3 rfl (hf.get 11 2 rfl) (hf.get 13 4 rfl) (gi_isSome enc_Gate_len rfl (hS7.cf (i := 3) rfl) hx) (getI_nn hx) (getI_ltI hx rfl)) ?_
    refine sq 16 rfl rfl (Y_loadA (B := B3) (i := (i : Int).toNat * 3) (cs := (r_2.flatMap enc_Gate)) (vs := [.int .i64 x.Kind, .int .i64 x.A, .int .i64 x.B]) k_ag_180 k_sz_180_3 rfl rfl (hS7.cf (i := 3) rfl) (enc_Gate_len x) (gi_seg enc_Gate_len hx)) ?_
    refine ss 5 rfl rfl (Ys_alloc (T := 180) (cs := [.int .i64 0, .int .i64 0, .int .i64 0]) (m := 3) hS7 k_zero_180 rfl rfl rfl) ?_
    rintro _ w_6 ⟨b3, rfl, hS8⟩
    have hS8 : ST w0 [] _ [⟨some ⟨b1, 0, none⟩, 43, [.slice none 0 0], 1⟩, ⟨some ⟨b2, 0, none⟩, 43, [.slice B2 r_1.Rows.length c2], 1⟩, ⟨B2, 3, (Rows.flatMap encI), c2 * 1⟩, ⟨B3, 180, (r_2.flatMap enc_Gate), c3 * 3⟩, ⟨some ⟨b3, 0, none⟩, 180, [.int .i64 0, .int .i64 0, .int .i64 0], 3⟩] [⟨B, (m.Rows.flatMap encI)⟩] := hS8
    refine ss0 rfl rfl (Ys_store (i := 4) (s := 3) (B := some ⟨b3, 0, none⟩) (T' := 180) (v := .agg #[.int .i64 x.Kind, .int .i64 x.A, .int .i64 x.B]) (vs := [.int .i64 x.Kind, .int .i64 x.A, .int .i64 x.B]) (k := 0) (cs' := [.int .i64 x.Kind, .int .i64 x.A, .int .i64 x.B]) hS8 k_sz_180_3 rfl rfl rfl rfl rfl rfl rfl (Nat.le_of_ble_eq_true rfl) rfl rfl) ?_
    rintro _ w_7 ⟨rfl, hS9⟩
    have hS9 : ST w0 [] _ [⟨some ⟨b1, 0, none⟩, 43, [.slice none 0 0], 1⟩, ⟨some ⟨b2, 0, none⟩, 43, [.slice B2 r_1.Rows.length c2], 1⟩, ⟨B2, 3, (Rows.flatMap encI), c2 * 1⟩, ⟨B3, 180, (r_2.flatMap enc_Gate), c3 * 3⟩, ⟨some ⟨b3, 0, none⟩, 180, [.int .i64 x.Kind, .int .i64 x.A, .int .i64 x.B], 3⟩] [⟨B, (m.Rows.flatMap encI)⟩] := hS9
    refine rw_nil ?_
    obtain ⟨x1, hx1, hb⟩ := bind_inv hb
    obtain ⟨x2, hx2, hb⟩ := bind_inv hb
    refine cw_mid (fun f w => FF f [(2, pt (some ⟨b1, 0, none⟩) 0), (3, pt (some ⟨b2, 0, none⟩) 0), (11, .slice B3 r_2.length c3), (12, .int .i64 (r_2.length : Int)), (13, .int .i64 (i : Int))] ∧ ST w0 [] w [⟨some ⟨b1, 0, none⟩, 43, [.slice none 0 0], 1⟩, ⟨some ⟨b2, 0, none⟩, 43, [.slice B2 r_1.Rows.length c2], 1⟩, ⟨B2, 3, ((Rows.set x.B.toNat (bits .xor .i64 x1 x2)).flatMap encI), c2 * 1⟩, ⟨B3, 180, (r_2.flatMap enc_Gate), c3 * 3⟩] [⟨B, (m.Rows.flatMap encI)⟩]) ?_ ?_
    · skip
      refine ra_start (ST.sel hS9 [0, 1, 3, 4] rfl rfl).fn (by kernel_rfl) ?_
      have hS11 := hS9.drew
      refine ra_q 0 17 (v := pt (some ⟨b2, 0, none⟩) 0) rfl rfl rfl (by kernel_rfl) (by kernel_rfl) (by kernel_rfl) (ST.sel hS11 [0, 1, 3, 4] rfl rfl) (fun w' hw' => (Y_fieldAddr (B := some ⟨b2, 0, none⟩) (i := 0) (s := 0) k_fd_43_0_0_34 k_sz_34_1 rfl (hf.get 3 1 rfl))) ?_
      refine ra_q 1 18 (v := .slice B2 r_1.Rows.length c2) rfl rfl rfl (by kernel_rfl) (by kernel_rfl) (by kernel_rfl) (ST.sel hS11 [0, 1, 3, 4] rfl rfl) (fun w' hw' => (Y_load1 (B := some ⟨b2, 0, none⟩) (i := 0) (cs := [.slice B2 r_1.Rows.length c2]) (v := .slice B2 r_1.Rows.length c2) k_sc_34 rfl rfl (ST.cf hw' (i := 1) rfl) rfl)) ?_
      refine ra_q 2 19 (v := pt (some ⟨b3, 0, none⟩) 2) rfl rfl rfl (by kernel_rfl) (by kernel_rfl) (by kernel_rfl) (ST.sel hS11 [0, 1, 3, 4] rfl rfl) (fun w' hw' => (Y_fieldAddr (B := some ⟨b3, 0, none⟩) (i := 0) (s := 0) k_fd_180_2_2_3 k_sz_3_1 rfl rfl)) ?_
      refine ra_q 3 20 (v := .int .i64 x.B) rfl rfl rfl (by kernel_rfl) (by kernel_rfl) (by kernel_rfl) (ST.sel hS11 [0, 1, 3, 4] rfl rfl) (fun w' hw' => (Y_load1 (B := some ⟨b3, 0, none⟩) (i := 2) (cs := [.int .i64 x.Kind, .int .i64 x.A, .int .i64 x.B]) (v := .int .i64 x.B) k_sc_3 rfl rfl (ST.cf hw' (i := 3) rfl) rfl)) ?_
      refine ra_q 6 23 (v := pt (some ⟨b2, 0, none⟩) 0) rfl rfl rfl (by kernel_rfl) (by kernel_rfl) (by kernel_rfl) (ST.sel hS11 [0, 1, 3, 4] rfl rfl) (fun w' hw' => (Y_fieldAddr (B := some ⟨b2, 0, none⟩) (i := 0) (s := 0) k_fd_43_0_0_34 k_sz_34_1 rfl (hf.get 3 1 rfl))) ?_
      refine ra_q 7 24 (v := .slice B2 r_1.Rows.length c2) rfl rfl rfl (by kernel_rfl) (by kernel_rfl) (by kernel_rfl) (ST.sel hS11 [0, 1, 3, 4] rfl rfl) (fun w' hw' => (Y_load1 (B := some ⟨b2, 0, none⟩) (i := 0) (cs := [.slice B2 r_1.Rows.length c2]) (v := .slice B2 r_1.Rows.length c2) k_sc_34 rfl rfl (ST.cf hw' (i := 1) rfl) rfl)) ?_
      refine ra_q 8 25 (v := pt (some ⟨b3, 0, none⟩) 1) rfl rfl rfl (by kernel_rfl) (by kernel_rfl) (by kernel_rfl) (ST.sel hS11 [0, 1, 3, 4] rfl rfl) (fun w' hw' => (Y_fieldAddr (B := some ⟨b3, 0, none⟩) (i := 0) (s := 0) k_fd_180_1_1_3 k_sz_3_1 rfl rfl)) ?_
      refine ra_q 9 26 (v := .int .i64 x.A) rfl rfl rfl (by kernel_rfl) (by kernel_rfl) (by kernel_rfl) (ST.sel hS11 [0, 1, 3, 4] rfl rfl) (fun w' hw' => (Y_load1 (B := some ⟨b3, 0, none⟩) (i := 1) (cs := [.int .i64 x.Kind, .int .i64 x.A, .int .i64 x.B]) (v := .int .i64 x.A) k_sc_3 rfl rfl (ST.cf hw' (i := 3) rfl) rfl)) ?_
      refine ra_all (rs := [4, 10]) (by kernel_rfl) rfl ?_
      refine ra_y 21 (i := 4) (v := pt B2 (x.B.toNat * 1)) rfl rfl rfl (Y_index (B := B2) (m := r_1.Rows.length) (c := c2) (k := .i64) (i := x.B) k_sl_34_3 k_sz_3_1 rfl rfl rfl (gi_isSome encI_len rfl (hS11.cf (i := 2) rfl) hx1) (getI_nn hx1) (getI_ltI hx1 hl)) (ST.sel hS11 [0, 1, 3, 4] rfl rfl) ?_ ?_
      · skip
        refine ra_all (rs := [5, 10]) (by kernel_rfl) rfl ?_
        refine ra_y 22 (i := 5) (v := .int .i64 x1) rfl rfl rfl (Y_load1 (B := B2) (i := x.B.toNat * 1) (cs := (Rows.flatMap encI)) (v := .int .i64 x1) k_sc_3 rfl rfl (hS11.cf (i := 2) rfl) (gi_at0 encI_len hx1 rfl)) (ST.sel hS11 [0, 1, 3, 4] rfl rfl) ?_ ?_
        · skip
          refine ra_all (rs := [10]) (by kernel_rfl) rfl ?_
          refine ra_y 27 (i := 10) (v := pt B2 (x.A.toNat * 1)) rfl rfl rfl (Y_index (B := B2) (m := r_1.Rows.length) (c := c2) (k := .i64) (i := x.A) k_sl_34_3 k_sz_3_1 rfl rfl rfl (gi_isSome encI_len rfl (hS11.cf (i := 2) rfl) hx2) (getI_nn hx2) (getI_ltI hx2 hl)) (ST.sel hS11 [0, 1, 3, 4] rfl rfl) ?_ ?_
          · skip
            refine ra_all (rs := [11]) (by kernel_rfl) rfl ?_
            refine ra_y 28 (i := 11) (v := .int .i64 x2) rfl rfl rfl (Y_load1 (B := B2) (i := x.A.toNat * 1) (cs := (Rows.flatMap encI)) (v := .int .i64 x2) k_sc_3 rfl rfl (hS11.cf (i := 2) rfl) (gi_at0 encI_len hx2 rfl)) (ST.sel hS11 [0, 1, 3, 4] rfl rfl) ?_ ?_
            · skip
              refine ra_q 12 29 (v := .int .i64 (bits .xor .i64 x1 x2)) rfl rfl rfl (by kernel_rfl) (by kernel_rfl) (by kernel_rfl) (ST.sel hS11 [0, 1, 3, 4] rfl rfl) (fun w' hw' => (Y_bxor (k := .i64) (a := x1) (b := x2) rfl rfl rfl)) ?_
              refine ra_all (rs := [13]) (by kernel_rfl) rfl ?_
              refine ra_y 30 (i := 13) (v := pt B2 (x.B.toNat * 1)) rfl rfl rfl (Y_index (B := B2) (m := r_1.Rows.length) (c := c2) (k := .i64) (i := x.B) k_sl_34_3 k_sz_3_1 rfl rfl rfl (gi_isSome encI_len rfl (hS11.cf (i := 2) rfl) hx1) (getI_nn hx1) (getI_ltI hx1 hl)) (ST.sel hS11 [0, 1, 3, 4] rfl rfl) ?_ ?_
              · skip
                refine ra_all (rs := [14]) (by kernel_rfl) rfl ?_
                refine ra_s0 (i := 14) rfl rfl rfl (Ys_store (i := 2) (s := 1) (B := B2) (T' := 3) (v := .int .i64 (bits .xor .i64 x1 x2)) (vs := [.int .i64 (bits .xor .i64 x1 x2)]) (k := x.B.toNat * 1) (cs' := ((Rows.set x.B.toNat (bits .xor .i64 x1 x2)).flatMap encI)) hS11 k_sz_3_1 rfl rfl rfl rfl rfl rfl rfl (gi_fit0 encI_len hx1) (gi_set encI_len hx1 (bits .xor .i64 x1 x2) rfl) rfl) ?_ ?_
                · rintro _ w_8 ⟨rfl, hS12⟩
                  have hS12 : ST w0 [] _ [⟨some ⟨b1, 0, none⟩, 43, [.slice none 0 0], 1⟩, ⟨some ⟨b2, 0, none⟩, 43, [.slice B2 r_1.Rows.length c2], 1⟩, ⟨B2, 3, ((Rows.set x.B.toNat (bits .xor .i64 x1 x2)).flatMap encI), c2 * 1⟩, ⟨B3, 180, (r_2.flatMap enc_Gate), c3 * 3⟩, ⟨some ⟨b3, 0, none⟩, 180, [.int .i64 x.Kind, .int .i64 x.A, .int .i64 x.B], 3⟩] [⟨B, (m.Rows.flatMap encI)⟩] := hS12
                  refine ⟨(ST.sel hS12 [0, 1, 3, 4] rfl rfl), ?_⟩
                  refine ra_done (by kernel_rfl) ?_
                  exact ⟨(FF.cons (hf.get 2 0 rfl) (FF.cons (hf.get 3 1 rfl) (FF.cons (hf.get 11 2 rfl) (FF.cons (hf.get 12 3 rfl) (FF.cons (hf.get 13 4 rfl) FF.nil))))), (hS12.sel [0, 1, 2, 3] rfl rfl)⟩
                exact allR_nil
              exact allR_nil
            exact allR_nil
          exact allR_nil
        refine ra_y 27 (i := 10) (v := pt B2 (x.A.toNat * 1)) rfl rfl rfl (Y_index (B := B2) (m := r_1.Rows.length) (c := c2) (k := .i64) (i := x.A) k_sl_34_3 k_sz_3_1 rfl rfl rfl (gi_isSome encI_len rfl (hS11.cf (i := 2) rfl) hx2) (getI_nn hx2) (getI_ltI hx2 hl)) (ST.sel hS11 [0, 1, 3, 4] rfl rfl) ?_ ?_
        · skip
          refine ra_all (rs := [5, 11]) (by kernel_rfl) rfl ?_
          refine ra_y 22 (i := 5) (v := .int .i64 x1) rfl rfl rfl (Y_load1 (B := B2) (i := x.B.toNat * 1) (cs := (Rows.flatMap encI)) (v := .int .i64 x1) k_sc_3 rfl rfl (hS11.cf (i := 2) rfl) (gi_at0 encI_len hx1 rfl)) (ST.sel hS11 [0, 1, 3, 4] rfl rfl) ?_ ?_
          · skip
            refine ra_all (rs := [11]) (by kernel_rfl) rfl ?_
            refine ra_y 28 (i := 11) (v := .int .i64 x2) rfl rfl rfl (Y_load1 (B := B2) (i := x.A.toNat * 1) (cs := (Rows.flatMap encI)) (v := .int .i64 x2) k_sc_3 rfl rfl (hS11.cf (i := 2) rfl) (gi_at0 encI_len hx2 rfl)) (ST.sel hS11 [0, 1, 3, 4] rfl rfl) ?_ ?_
            · skip
              refine ra_q 12 29 (v := .int .i64 (bits .xor .i64 x1 x2)) rfl rfl rfl (by kernel_rfl) (by kernel_rfl) (by kernel_rfl) (ST.sel hS11 [0, 1, 3, 4] rfl rfl) (fun w' hw' => (Y_bxor (k := .i64) (a := x1) (b := x2) rfl rfl rfl)) ?_
              refine ra_all (rs := [13]) (by kernel_rfl) rfl ?_
              refine ra_y 30 (i := 13) (v := pt B2 (x.B.toNat * 1)) rfl rfl rfl (Y_index (B := B2) (m := r_1.Rows.length) (c := c2) (k := .i64) (i := x.B) k_sl_34_3 k_sz_3_1 rfl rfl rfl (gi_isSome encI_len rfl (hS11.cf (i := 2) rfl) hx1) (getI_nn hx1) (getI_ltI hx1 hl)) (ST.sel hS11 [0, 1, 3, 4] rfl rfl) ?_ ?_
              · skip
                refine ra_all (rs := [14]) (by kernel_rfl) rfl ?_
                refine ra_s0 (i := 14) rfl rfl rfl (Ys_store (i := 2) (s := 1) (B := B2) (T' := 3) (v := .int .i64 (bits .xor .i64 x1 x2)) (vs := [.int .i64 (bits .xor .i64 x1 x2)]) (k := x.B.toNat * 1) (cs' := ((Rows.set x.B.toNat (bits .xor .i64 x1 x2)).flatMap encI)) hS11 k_sz_3_1 rfl rfl rfl rfl rfl rfl rfl (gi_fit0 encI_len hx1) (gi_set encI_len hx1 (bits .xor .i64 x1 x2) rfl) rfl) ?_ ?_
                · rintro _ w_9 ⟨rfl, hS13⟩
                  have hS13 : ST w0 [] _ [⟨some ⟨b1, 0, none⟩, 43, [.slice none 0 0], 1⟩, ⟨some ⟨b2, 0, none⟩, 43, [.slice B2 r_1.Rows.length c2], 1⟩, ⟨B2, 3, ((Rows.set x.B.toNat (bits .xor .i64 x1 x2)).flatMap encI), c2 * 1⟩, ⟨B3, 180, (r_2.flatMap enc_Gate), c3 * 3⟩, ⟨some ⟨b3, 0, none⟩, 180, [.int .i64 x.Kind, .int .i64 x.A, .int .i64 x.B], 3⟩] [⟨B, (m.Rows.flatMap encI)⟩] := hS13
                  refine ⟨(ST.sel hS13 [0, 1, 3, 4] rfl rfl), ?_⟩
                  refine ra_done (by kernel_rfl) ?_
                  exact ⟨(FF.cons (hf.get 2 0 rfl) (FF.cons (hf.get 3 1 rfl) (FF.cons (hf.get 11 2 rfl) (FF.cons (hf.get 12 3 rfl) (FF.cons (hf.get 13 4 rfl) FF.nil))))), (hS13.sel [0, 1, 2, 3] rfl rfl)⟩
                exact allR_nil
              exact allR_nil
            exact allR_nil
          refine ra_y 28 (i := 11) (v := .int .i64 x2) rfl rfl rfl (Y_load1 (B := B2) (i := x.A.toNat * 1) (cs := (Rows.flatMap encI)) (v := .int .i64 x2) k_sc_3 rfl rfl (hS11.cf (i := 2) rfl) (gi_at0 encI_len hx2 rfl)) (ST.sel hS11 [0, 1, 3, 4] rfl rfl) ?_ ?_
          · skip
            refine ra_all (rs := [5]) (by kernel_rfl) rfl ?_
            refine ra_y 22 (i := 5) (v := .int .i64 x1) rfl rfl rfl (Y_load1 (B := B2) (i := x.B.toNat * 1) (cs := (Rows.flatMap encI)) (v := .int .i64 x1) k_sc_3 rfl rfl (hS11.cf (i := 2) rfl) (gi_at0 encI_len hx1 rfl)) (ST.sel hS11 [0, 1, 3, 4] rfl rfl) ?_ ?_
            · skip
              refine ra_q 12 29 (v := .int .i64 (bits .xor .i64 x1 x2)) rfl rfl rfl (by kernel_rfl) (by kernel_rfl) (by kernel_rfl) (ST.sel hS11 [0, 1, 3, 4] rfl rfl) (fun w' hw' => (Y_bxor (k := .i64) (a := x1) (b := x2) rfl rfl rfl)) ?_
              refine ra_all (rs := [13]) (by kernel_rfl) rfl ?_
              refine ra_y 30 (i := 13) (v := pt B2 (x.B.toNat * 1)) rfl rfl rfl (Y_index (B := B2) (m := r_1.Rows.length) (c := c2) (k := .i64) (i := x.B) k_sl_34_3 k_sz_3_1 rfl rfl rfl (gi_isSome encI_len rfl (hS11.cf (i := 2) rfl) hx1) (getI_nn hx1) (getI_ltI hx1 hl)) (ST.sel hS11 [0, 1, 3, 4] rfl rfl) ?_ ?_
              · skip
                refine ra_all (rs := [14]) (by kernel_rfl) rfl ?_
                refine ra_s0 (i := 14) rfl rfl rfl (Ys_store (i := 2) (s := 1) (B := B2) (T' := 3) (v := .int .i64 (bits .xor .i64 x1 x2)) (vs := [.int .i64 (bits .xor .i64 x1 x2)]) (k := x.B.toNat * 1) (cs' := ((Rows.set x.B.toNat (bits .xor .i64 x1 x2)).flatMap encI)) hS11 k_sz_3_1 rfl rfl rfl rfl rfl rfl rfl (gi_fit0 encI_len hx1) (gi_set encI_len hx1 (bits .xor .i64 x1 x2) rfl) rfl) ?_ ?_
                · rintro _ w_10 ⟨rfl, hS14⟩
                  have hS14 : ST w0 [] _ [⟨some ⟨b1, 0, none⟩, 43, [.slice none 0 0], 1⟩, ⟨some ⟨b2, 0, none⟩, 43, [.slice B2 r_1.Rows.length c2], 1⟩, ⟨B2, 3, ((Rows.set x.B.toNat (bits .xor .i64 x1 x2)).flatMap encI), c2 * 1⟩, ⟨B3, 180, (r_2.flatMap enc_Gate), c3 * 3⟩, ⟨some ⟨b3, 0, none⟩, 180, [.int .i64 x.Kind, .int .i64 x.A, .int .i64 x.B], 3⟩] [⟨B, (m.Rows.flatMap encI)⟩] := hS14
                  refine ⟨(ST.sel hS14 [0, 1, 3, 4] rfl rfl), ?_⟩
                  refine ra_done (by kernel_rfl) ?_
                  exact ⟨(FF.cons (hf.get 2 0 rfl) (FF.cons (hf.get 3 1 rfl) (FF.cons (hf.get 11 2 rfl) (FF.cons (hf.get 12 3 rfl) (FF.cons (hf.get 13 4 rfl) FF.nil))))), (hS14.sel [0, 1, 2, 3] rfl rfl)⟩
                exact allR_nil
              exact allR_nil
            exact allR_nil
          exact allR_nil
        exact allR_nil
      refine ra_y 27 (i := 10) (v := pt B2 (x.A.toNat * 1)) rfl rfl rfl (Y_index (B := B2) (m := r_1.Rows.length) (c := c2) (k := .i64) (i := x.A) k_sl_34_3 k_sz_3_1 rfl rfl rfl (gi_isSome encI_len rfl (hS11.cf (i := 2) rfl) hx2) (getI_nn hx2) (getI_ltI hx2 hl)) (ST.sel hS11 [0, 1, 3, 4] rfl rfl) ?_ ?_
      · skip
        refine ra_all (rs := [4, 11]) (by kernel_rfl) rfl ?_
        refine ra_y 21 (i := 4) (v := pt B2 (x.B.toNat * 1)) rfl rfl rfl (Y_index (B := B2) (m := r_1.Rows.length) (c := c2) (k := .i64) (i := x.B) k_sl_34_3 k_sz_3_1 rfl rfl rfl (gi_isSome encI_len rfl (hS11.cf (i := 2) rfl) hx1) (getI_nn hx1) (getI_ltI hx1 hl)) (ST.sel hS11 [0, 1, 3, 4] rfl rfl) ?_ ?_
        · skip
          refine ra_all (rs := [5, 11]) (by kernel_rfl) rfl ?_
          refine ra_y 22 (i := 5) (v := .int .i64 x1) rfl rfl rfl (Y_load1 (B := B2) (i := x.B.toNat * 1) (cs := (Rows.flatMap encI)) (v := .int .i64 x1) k_sc_3 rfl rfl (hS11.cf (i := 2) rfl) (gi_at0 encI_len hx1 rfl)) (ST.sel hS11 [0, 1, 3, 4] rfl rfl) ?_ ?_
          · skip
            refine ra_all (rs := [11]) (by kernel_rfl) rfl ?_
            refine ra_y 28 (i := 11) (v := .int .i64 x2) rfl rfl rfl (Y_load1 (B := B2) (i := x.A.toNat * 1) (cs := (Rows.flatMap encI)) (v := .int .i64 x2) k_sc_3 rfl rfl (hS11.cf (i := 2) rfl) (gi_at0 encI_len hx2 rfl)) (ST.sel hS11 [0, 1, 3, 4] rfl rfl) ?_ ?_
            · skip
              refine ra_q 12 29 (v := .int .i64 (bits .xor .i64 x1 x2)) rfl rfl rfl (by kernel_rfl) (by kernel_rfl) (by kernel_rfl) (ST.sel hS11 [0, 1, 3, 4] rfl rfl) (fun w' hw' => (Y_bxor (k := .i64) (a := x1) (b := x2) rfl rfl rfl)) ?_
              refine ra_all (rs := [13]) (by kernel_rfl) rfl ?_
              refine ra_y 30 (i := 13) (v := pt B2 (x.B.toNat * 1)) rfl rfl rfl (Y_index (B := B2) (m := r_1.Rows.length) (c := c2) (k := .i64) (i := x.B) k_sl_34_3 k_sz_3_1 rfl rfl rfl (gi_isSome encI_len rfl (hS11.cf (i := 2) rfl) hx1) (getI_nn hx1) (getI_ltI hx1 hl)) (ST.sel hS11 [0, 1, 3, 4] rfl rfl) ?_ ?_
              · skip
                refine ra_all (rs := [14]) (by kernel_rfl) rfl ?_
                refine ra_s0 (i := 14) rfl rfl rfl (Ys_store (i := 2) (s := 1) (B := B2) (T' := 3) (v := .int .i64 (bits .xor .i64 x1 x2)) (vs := [.int .i64 (bits .xor .i64 x1 x2)]) (k := x.B.toNat * 1) (cs' := ((Rows.set x.B.toNat (bits .xor .i64 x1 x2)).flatMap encI)) hS11 k_sz_3_1 rfl rfl rfl rfl rfl rfl rfl (gi_fit0 encI_len hx1) (gi_set encI_len hx1 (bits .xor .i64 x1 x2) rfl) rfl) ?_ ?_
                · rintro _ w_11 ⟨rfl, hS15⟩
                  have hS15 : ST w0 [] _ [⟨some ⟨b1, 0, none⟩, 43, [.slice none 0 0], 1⟩, ⟨some ⟨b2, 0, none⟩, 43, [.slice B2 r_1.Rows.length c2], 1⟩, ⟨B2, 3, ((Rows.set x.B.toNat (bits .xor .i64 x1 x2)).flatMap encI), c2 * 1⟩, ⟨B3, 180, (r_2.flatMap enc_Gate), c3 * 3⟩, ⟨some ⟨b3, 0, none⟩, 180, [.int .i64 x.Kind, .int .i64 x.A, .int .i64 x.B], 3⟩] [⟨B, (m.Rows.flatMap encI)⟩] := hS15
                  refine ⟨(ST.sel hS15 [0, 1, 3, 4] rfl rfl), ?_⟩
                  refine ra_done (by kernel_rfl) ?_
                  exact ⟨(FF.cons (hf.get 2 0 rfl) (FF.cons (hf.get 3 1 rfl) (FF.cons (hf.get 11 2 rfl) (FF.cons (hf.get 12 3 rfl) (FF.cons (hf.get 13 4 rfl) FF.nil))))), (hS15.sel [0, 1, 2, 3] rfl rfl)⟩
                exact allR_nil
              exact allR_nil
            exact allR_nil
          refine ra_y 28 (i := 11) (v := .int .i64 x2) rfl rfl rfl (Y_load1 (B := B2) (i := x.A.toNat * 1) (cs := (Rows.flatMap encI)) (v := .int .i64 x2) k_sc_3 rfl rfl (hS11.cf (i := 2) rfl) (gi_at0 encI_len hx2 rfl)) (ST.sel hS11 [0, 1, 3, 4] rfl rfl) ?_ ?_
          · skip
            refine ra_all (rs := [5]) (by kernel_rfl) rfl ?_
            refine ra_y 22 (i := 5) (v := .int .i64 x1) rfl rfl rfl (Y_load1 (B := B2) (i := x.B.toNat * 1) (cs := (Rows.flatMap encI)) (v := .int .i64 x1) k_sc_3 rfl rfl (hS11.cf (i := 2) rfl) (gi_at0 encI_len hx1 rfl)) (ST.sel hS11 [0, 1, 3, 4] rfl rfl) ?_ ?_
            · skip
              refine ra_q 12 29 (v := .int .i64 (bits .xor .i64 x1 x2)) rfl rfl rfl (by kernel_rfl) (by kernel_rfl) (by kernel_rfl) (ST.sel hS11 [0, 1, 3, 4] rfl rfl) (fun w' hw' => (Y_bxor (k := .i64) (a := x1) (b := x2) rfl rfl rfl)) ?_
              refine ra_all (rs := [13]) (by kernel_rfl) rfl ?_
              refine ra_y 30 (i := 13) (v := pt B2 (x.B.toNat * 1)) rfl rfl rfl (Y_index (B := B2) (m := r_1.Rows.length) (c := c2) (k := .i64) (i := x.B) k_sl_34_3 k_sz_3_1 rfl rfl rfl (gi_isSome encI_len rfl (hS11.cf (i := 2) rfl) hx1) (getI_nn hx1) (getI_ltI hx1 hl)) (ST.sel hS11 [0, 1, 3, 4] rfl rfl) ?_ ?_
              · skip
                refine ra_all (rs := [14]) (by kernel_rfl) rfl ?_
                refine ra_s0 (i := 14) rfl rfl rfl (Ys_store (i := 2) (s := 1) (B := B2) (T' := 3) (v := .int .i64 (bits .xor .i64 x1 x2)) (vs := [.int .i64 (bits .xor .i64 x1 x2)]) (k := x.B.toNat * 1) (cs' := ((Rows.set x.B.toNat (bits .xor .i64 x1 x2)).flatMap encI)) hS11 k_sz_3_1 rfl rfl rfl rfl rfl rfl rfl (gi_fit0 encI_len hx1) (gi_set encI_len hx1 (bits .xor .i64 x1 x2) rfl) rfl) ?_ ?_
                · rintro _ w_12 ⟨rfl, hS16⟩
                  have hS16 : ST w0 [] _ [⟨some ⟨b1, 0, none⟩, 43, [.slice none 0 0], 1⟩, ⟨some ⟨b2, 0, none⟩, 43, [.slice B2 r_1.Rows.length c2], 1⟩, ⟨B2, 3, ((Rows.set x.B.toNat (bits .xor .i64 x1 x2)).flatMap encI), c2 * 1⟩, ⟨B3, 180, (r_2.flatMap enc_Gate), c3 * 3⟩, ⟨some ⟨b3, 0, none⟩, 180, [.int .i64 x.Kind, .int .i64 x.A, .int .i64 x.B], 3⟩] [⟨B, (m.Rows.flatMap encI)⟩] := hS16
                  refine ⟨(ST.sel hS16 [0, 1, 3, 4] rfl rfl), ?_⟩
                  refine ra_done (by kernel_rfl) ?_
                  exact ⟨(FF.cons (hf.get 2 0 rfl) (FF.cons (hf.get 3 1 rfl) (FF.cons (hf.get 11 2 rfl) (FF.cons (hf.get 12 3 rfl) (FF.cons (hf.get 13 4 rfl) FF.nil))))), (hS16.sel [0, 1, 2, 3] rfl rfl)⟩
                exact allR_nil
              exact allR_nil
            exact allR_nil
          exact allR_nil
        refine ra_y 28 (i := 11) (v := .int .i64 x2) rfl rfl rfl (Y_load1 (B := B2) (i := x.A.toNat * 1) (cs := (Rows.flatMap encI)) (v := .int .i64 x2) k_sc_3 rfl rfl (hS11.cf (i := 2) rfl) (gi_at0 encI_len hx2 rfl)) (ST.sel hS11 [0, 1, 3, 4] rfl rfl) ?_ ?_
        · skip
          refine ra_all (rs := [4]) (by kernel_rfl) rfl ?_
          refine ra_y 21 (i := 4) (v := pt B2 (x.B.toNat * 1)) rfl rfl rfl (Y_index (B := B2) (m := r_1.Rows.length) (c := c2) (k := .i64) (i := x.B) k_sl_34_3 k_sz_3_1 rfl rfl rfl (gi_isSome encI_len rfl (hS11.cf (i := 2) rfl) hx1) (getI_nn hx1) (getI_ltI hx1 hl)) (ST.sel hS11 [0, 1, 3, 4] rfl rfl) ?_ ?_
          · skip
            refine ra_all (rs := [5]) (by kernel_rfl) rfl ?_
            refine ra_y 22 (i := 5) (v := .int .i64 x1) rfl rfl rfl (Y_load1 (B := B2) (i := x.B.toNat * 1) (cs := (Rows.flatMap encI)) (v := .int .i64 x1) k_sc_3 rfl rfl (hS11.cf (i := 2) rfl) (gi_at0 encI_len hx1 rfl)) (ST.sel hS11 [0, 1, 3, 4] rfl rfl) ?_ ?_
            · skip
              refine ra_q 12 29 (v := .int .i64 (bits .xor .i64 x1 x2)) rfl rfl rfl (by kernel_rfl) (by kernel_rfl) (by kernel_rfl) (ST.sel hS11 [0, 1, 3, 4] rfl rfl) (fun w' hw' => (Y_bxor (k := .i64) (a := x1) (b := x2) rfl rfl rfl)) ?_
              refine ra_all (rs := [13]) (by kernel_rfl) rfl ?_
              refine ra_y 30 (i := 13) (v := pt B2 (x.B.toNat * 1)) rfl rfl rfl (Y_index (B := B2) (m := r_1.Rows.length) (c := c2) (k := .i64) (i := x.B) k_sl_34_3 k_sz_3_1 rfl rfl rfl (gi_isSome encI_len rfl (hS11.cf (i := 2) rfl) hx1) (getI_nn hx1) (getI_ltI hx1 hl)) (ST.sel hS11 [0, 1, 3, 4] rfl rfl) ?_ ?_
              · skip
                refine ra_all (rs := [14]) (by kernel_rfl) rfl ?_
                refine ra_s0 (i := 14) rfl rfl rfl (Ys_store (i := 2) (s := 1) (B := B2) (T' := 3) (v := .int .i64 (bits .xor .i64 x1 x2)) (vs := [.int .i64 (bits .xor .i64 x1 x2)]) (k := x.B.toNat * 1) (cs' := ((Rows.set x.B.toNat (bits .xor .i64 x1 x2)).flatMap encI)) hS11 k_sz_3_1 rfl rfl rfl rfl rfl rfl rfl (gi_fit0 encI_len hx1) (gi_set encI_len hx1 (bits .xor .i64 x1 x2) rfl) rfl) ?_ ?_
                · rintro _ w_13 ⟨rfl, hS17⟩
                  have hS17 : ST w0 [] _ [⟨some ⟨b1, 0, none⟩, 43, [.slice none 0 0], 1⟩, ⟨some ⟨b2, 0, none⟩, 43, [.slice B2 r_1.Rows.length c2], 1⟩, ⟨B2, 3, ((Rows.set x.B.toNat (bits .xor .i64 x1 x2)).flatMap encI), c2 * 1⟩, ⟨B3, 180, (r_2.flatMap enc_Gate), c3 * 3⟩, ⟨some ⟨b3, 0, none⟩, 180, [.int .i64 x.Kind, .int .i64 x.A, .int .i64 x.B], 3⟩] [⟨B, (m.Rows.flatMap encI)⟩] := hS17
                  refine ⟨(ST.sel hS17 [0, 1, 3, 4] rfl rfl), ?_⟩
                  refine ra_done (by kernel_rfl) ?_
                  exact ⟨(FF.cons (hf.get 2 0 rfl) (FF.cons (hf.get 3 1 rfl) (FF.cons (hf.get 11 2 rfl) (FF.cons (hf.get 12 3 rfl) (FF.cons (hf.get 13 4 rfl) FF.nil))))), (hS17.sel [0, 1, 2, 3] rfl rfl)⟩
                exact allR_nil
              exact allR_nil
            exact allR_nil
          exact allR_nil
        exact allR_nil
      exact allR_nil
    rintro f w ⟨hf1, hS10⟩
    refine cw_region ?_
    refine sq 31 rfl rfl (Y_add (k := .i64) (a := (i : Int)) (b := 1) rfl (hf1.get 13 4 rfl) rfl) ?_
    refine sq 13 rfl rfl (Y_move (v := .int .i64 (IntKind.i64.wrap ((i : Int) + 1))) rfl rfl) ?_
    refine rw_nil ?_
    obtain rfl := some_inj hb
    exact ⟨k_1, Nat.lt_succ_self _, i + 1, (Rows.set x.B.toNat (bits .xor .i64 x1 x2)), (FF.cons (hf1.get 2 0 rfl) (FF.cons (hf1.get 3 1 rfl) (FF.cons (hf1.get 11 2 rfl) (FF.cons (hf1.get 12 3 rfl) (FF.cons (congrArg (Value.int .i64) (wr_succ hlt1 hN)) FF.nil))))), (set_len _ _ _ hl), (hS10.sel [0, 1, 2, 3] rfl rfl), (by omega), hL1⟩
  · skip
    obtain rfl : k_ = 0 := by have h := of_decide_eq_false hlt; omega
    refine cw_exit rfl ?_
    obtain rfl := some_inj hL
    refine cw_seq ?_
    refine cw_region ?_
    refine sq 32 rfl rfl (Y_loadA (B := some ⟨b2, 0, none⟩) (i := 0) (cs := [.slice B2 r_1.Rows.length c2]) (vs := [.slice B2 r_1.Rows.length c2]) k_ag_43 k_sz_43_1 rfl (hf.get 3 1 rfl) (hS7.cf (i := 1) rfl) rfl rfl) ?_
    refine ss0 rfl rfl (Ys_store (i := 0) (s := 1) (B := some ⟨b1, 0, none⟩) (T' := 43) (v := .agg #[.slice B2 r_1.Rows.length c2]) (vs := [.slice B2 r_1.Rows.length c2]) (k := 0) (cs' := [.slice B2 r_1.Rows.length c2]) hS7 k_sz_43_1 rfl (hf.get 2 0 rfl) rfl rfl rfl rfl rfl (Nat.le_of_ble_eq_true rfl) rfl rfl) ?_
    rintro _ w_14 ⟨rfl, hS18⟩
    have hS18 : ST w0 [] _ [⟨some ⟨b1, 0, none⟩, 43, [.slice B2 r_1.Rows.length c2], 1⟩, ⟨some ⟨b2, 0, none⟩, 43, [.slice B2 r_1.Rows.length c2], 1⟩, ⟨B2, 3, (Rows.flatMap encI), c2 * 1⟩, ⟨B3, 180, (r_2.flatMap enc_Gate), c3 * 3⟩] [⟨B, (m.Rows.flatMap encI)⟩] := hS18
    refine rw_nil ?_
    refine cw_ret ?_
    obtain rfl := some_inj hF1
    exact ret1 Try.results122 (v1 := .agg #[.slice B2 r_1.Rows.length c2]) (resAt_cellA (B := some ⟨b1, 0, none⟩) (i := 0) (cs := [.slice B2 r_1.Rows.length c2]) (vs := [.slice B2 r_1.Rows.length c2]) (hf.get 2 0 rfl) k_ag_43 k_sz_43_1 (hS18.cf (i := 0) rfl) rfl rfl) ⟨B2, c2, (by simp [hl]), (ST.subR (R' := []) (hS18.sel [2] rfl rfl) (fun _ h => by cases h))⟩

theorem c_impl_InvertPhase (p : TPhasePoly) (B : Option Addr) (c n : Nat) (B1 : Option Addr) (c1 n1 : Nat) (w0 : World) (hn : p.Terms.length = n) (hn1 : p.Out.Rows.length = n1) (hS : ST w0 [] w0 [] [⟨B, (p.Terms.flatMap enc_Term)⟩, ⟨B1, (p.Out.Rows.flatMap encI)⟩]) {r_ : TPhasePoly} {r_1 : Bool} (hF : F_impl_InvertPhase p = some (r_, r_1)) :
    CV Try.prog 55 #[.agg #[.int .i64 p.Qubits, .int .i64 p.Phase, .slice B n c, .slice B1 n1 c1]] w0 (fun v w' => ∃ (B2 : Option Addr) (c2 : Nat) (B3 : Option Addr) (c3 : Nat), v = .tuple #[.agg #[.int .i64 r_.Qubits, .int .i64 r_.Phase, .slice B2 r_.Terms.length c2, .slice B3 r_.Out.Rows.length c3], .bool r_1] ∧ ST w0 [] w' [⟨B2, 112, (r_.Terms.flatMap enc_Term), c2 * 2⟩, ⟨B3, 3, (r_.Out.Rows.flatMap encI), c3 * 1⟩] []) := by
  subst hn
  subst hn1
  unfold F_impl_InvertPhase at hF
  refine cv_of_cw 42 Try.func55 rfl Try.ntmps55 rfl ?_
  refine cw_seq ?_
  refine cw_region ?_
  refine ss 1 rfl rfl (Ys_box (T := 45) (v := .agg #[.int .i64 p.Qubits, .int .i64 p.Phase, .slice B p.Terms.length c, .slice B1 p.Out.Rows.length c1]) (cs := [.int .i64 p.Qubits, .int .i64 p.Phase, .slice B p.Terms.length c, .slice B1 p.Out.Rows.length c1]) (m := 4) hS rfl rfl rfl rfl) ?_
  rintro _ w_ ⟨b, rfl, hS1⟩
  refine ss 2 rfl rfl (Ys_alloc (T := 45) (cs := [.int .i64 0, .int .i64 0, .slice none 0 0, .slice none 0 0]) (m := 4) hS1 k_zero_45 rfl rfl rfl) ?_
  rintro _ w_1 ⟨b1, rfl, hS2⟩
  have hS2 : ST w0 [] _ [⟨some ⟨b, 0, none⟩, 45, [.int .i64 p.Qubits, .int .i64 p.Phase, .slice B p.Terms.length c, .slice B1 p.Out.Rows.length c1], 4⟩, ⟨some ⟨b1, 0, none⟩, 45, [.int .i64 0, .int .i64 0, .slice none 0 0, .slice none 0 0], 4⟩] [⟨B, (p.Terms.flatMap enc_Term)⟩, ⟨B1, (p.Out.Rows.flatMap encI)⟩] := hS2
  refine sq 3 rfl rfl (Y_assign (v := .bool false) rfl rfl) ?_
  refine rw_nil ?_
  refine cw_seq ?_
  refine cw_seq ?_
  refine cw_region ?_
  refine sq 8 rfl rfl (Y_loadA (B := some ⟨b, 0, none⟩) (i := 0) (cs := [.int .i64 p.Qubits, .int .i64 p.Phase, .slice B p.Terms.length c, .slice B1 p.Out.Rows.length c1]) (vs := [.int .i64 p.Qubits, .int .i64 p.Phase, .slice B p.Terms.length c, .slice B1 p.Out.Rows.length c1]) k_ag_45 k_sz_45_4 rfl rfl (hS2.cf (i := 0) rfl) rfl rfl) ?_
  obtain ⟨r_2, hc, hF⟩ := bind_inv hF
  refine sc 9 rfl rfl (Yc_func (g := 76) (vs := [.agg #[.int .i64 p.Qubits, .int .i64 p.Phase, .slice B p.Terms.length c, .slice B1 p.Out.Rows.length c1]]) k_call_76 rfl (mc rfl mn) (c_impl_IsValidPhasePoly p B c p.Terms.length B1 c1 p.Out.Rows.length _ rfl rfl (hS2.inn0 [(true, 0), (true, 1)] rfl) hc)) ?_
  rintro _ w_2 ⟨rfl, hd⟩
  have hS3 := hS2.out00 hd
  have hS3 : ST w0 [] _ [⟨some ⟨b, 0, none⟩, 45, [.int .i64 p.Qubits, .int .i64 p.Phase, .slice B p.Terms.length c, .slice B1 p.Out.Rows.length c1], 4⟩, ⟨some ⟨b1, 0, none⟩, 45, [.int .i64 0, .int .i64 0, .slice none 0 0, .slice none 0 0], 4⟩] [⟨B, (p.Terms.flatMap enc_Term)⟩, ⟨B1, (p.Out.Rows.flatMap encI)⟩] := hS3
  refine sq 10 rfl rfl (Y_not (p := r_2) rfl rfl) ?_
  refine rw_nil ?_
  refine cw_cond (b := (!r_2)) rfl (fun hb => ?_) (fun hb => ?_)
  · skip
    have hF1 := ct hF hb
    refine cw_seq ?_
    refine cw_region ?_
    refine sq 11 rfl rfl (Y_buildS (zs := [.int .i64 0, .int .i64 0, .slice none 0 0, .slice none 0 0]) (vs := []) (cs := [.int .i64 0, .int .i64 0, .slice none 0 0, .slice none 0 0]) k_pl_45 k_zero_45 rfl mpn rfl) ?_
    refine ss0 rfl rfl (Ys_store (i := 1) (s := 4) (B := some ⟨b1, 0, none⟩) (T' := 45) (v := .agg #[.int .i64 0, .int .i64 0, .slice none 0 0, .slice none 0 0]) (vs := [.int .i64 0, .int .i64 0, .slice none 0 0, .slice none 0 0]) (k := 0) (cs' := [.int .i64 0, .int .i64 0, .slice none 0 0, .slice none 0 0]) hS3 k_sz_45_4 rfl rfl rfl rfl rfl rfl rfl (Nat.le_of_ble_eq_true rfl) rfl rfl) ?_
    rintro _ w_3 ⟨rfl, hS4⟩
    have hS4 : ST w0 [] _ [⟨some ⟨b, 0, none⟩, 45, [.int .i64 p.Qubits, .int .i64 p.Phase, .slice B p.Terms.length c, .slice B1 p.Out.Rows.length c1], 4⟩, ⟨some ⟨b1, 0, none⟩, 45, [.int .i64 0, .int .i64 0, .slice none 0 0, .slice none 0 0], 4⟩] [⟨B, (p.Terms.flatMap enc_Term)⟩, ⟨B1, (p.Out.Rows.flatMap encI)⟩] := hS4
    refine sq 3 rfl rfl (Y_assign (v := .bool false) rfl rfl) ?_
    refine rw_nil ?_
    refine cw_ret ?_
    have hS5 := hS4.addNil 112
    have hS6 := hS5.addNil 3
    obtain ⟨rfl, rfl⟩ := pr2 (some_inj hF1)
    exact ret2 Try.results55 (v1 := .agg #[.int .i64 0, .int .i64 0, .slice none 0 0, .slice none 0 0]) (resAt_cellA (B := some ⟨b1, 0, none⟩) (i := 0) (cs := [.int .i64 0, .int .i64 0, .slice none 0 0, .slice none 0 0]) (vs := [.int .i64 0, .int .i64 0, .slice none 0 0, .slice none 0 0]) rfl k_ag_45 k_sz_45_4 (hS6.cf (i := 1) rfl) rfl rfl) (v2 := .bool false) (resAt_tmp rfl) ⟨none, 0, none, 0, rfl, (ST.subR (R' := []) (hS6.sel [2, 3] rfl rfl) (fun _ h => by cases h))⟩
  · skip
    have hF2 := cf' hF hb
    refine cw_skip ?_
    refine cw_seq ?_
    refine cw_region ?_
    refine sq 12 rfl rfl (Y_fieldAddr (B := some ⟨b, 0, none⟩) (i := 0) (s := 0) k_fd_45_3_3_43 k_sz_43_1 rfl rfl) ?_
    refine sq 13 rfl rfl (Y_loadA (B := some ⟨b, 0, none⟩) (i := 3) (cs := [.int .i64 p.Qubits, .int .i64 p.Phase, .slice B p.Terms.length c, .slice B1 p.Out.Rows.length c1]) (vs := [.slice B1 p.Out.Rows.length c1]) k_ag_43 k_sz_43_1 rfl rfl (hS3.cf (i := 0) rfl) rfl rfl) ?_
    obtain ⟨r_3, hc1, hF2⟩ := bind_inv hF2
    refine sc 14 rfl rfl (Yc_func (g := 122) (vs := [.agg #[.slice B1 p.Out.Rows.length c1]]) k_call_122 rfl (mc rfl mn) (c_impl_Linear_inverted p.Out B1 c1 p.Out.Rows.length _ rfl (hS3.inn0 [(true, 1)] rfl) hc1)) ?_
    rintro _ w_4 ⟨B4, c4, rfl, hd1⟩
    have hS7 := hS3.out0 hd1
    have hS7 : ST w0 [] _ [⟨some ⟨b, 0, none⟩, 45, [.int .i64 p.Qubits, .int .i64 p.Phase, .slice B p.Terms.length c, .slice B1 p.Out.Rows.length c1], 4⟩, ⟨some ⟨b1, 0, none⟩, 45, [.int .i64 0, .int .i64 0, .slice none 0 0, .slice none 0 0], 4⟩, ⟨B4, 3, (r_3.Rows.flatMap encI), c4 * 1⟩] [⟨B, (p.Terms.flatMap enc_Term)⟩, ⟨B1, (p.Out.Rows.flatMap encI)⟩] := hS7
    refine sq 15 rfl rfl (show Y _ _ _ _ _ (.agg ((List.replicate 32 0).flatMap encI).toArray) from Y_buildA (zs := [.int .i64 0, .int .i64 0, .int .i64 0, .int .i64 0, .int .i64 0, .int .i64 0, .int .i64 0, .int .i64 0, .int .i64 0, .int .i64 0, .int .i64 0, .int .i64 0, .int .i64 0, .int .i64 0, .int .i64 0, .int .i64 0, .int .i64 0, .int .i64 0, .int .i64 0, .int .i64 0, .int .i64 0, .int .i64 0, .int .i64 0, .int .i64 0, .int .i64 0, .int .i64 0, .int .i64 0, .int .i64 0, .int .i64 0, .int .i64 0, .int .i64 0, .int .i64 0]) (vs := []) (cs := [.int .i64 0, .int .i64 0, .int .i64 0, .int .i64 0, .int .i64 0, .int .i64 0, .int .i64 0, .int .i64 0, .int .i64 0, .int .i64 0, .int .i64 0, .int .i64 0, .int .i64 0, .int .i64 0, .int .i64 0, .int .i64 0, .int .i64 0, .int .i64 0, .int .i64 0, .int .i64 0, .int .i64 0, .int .i64 0, .int .i64 0, .int .i64 0, .int .i64 0, .int .i64 0, .int .i64 0, .int .i64 0, .int .i64 0, .int .i64 0, .int .i64 0, .int .i64 0]) k_ar_108_32_3 k_sz_3_1 k_zero_108 rfl rfl rfl) ?_
    refine ss 4 rfl rfl (Ys_alloc (T := 43) (cs := [.slice none 0 0]) (m := 1) hS7 k_zero_43 rfl rfl rfl) ?_
    rintro _ w_5 ⟨b2, rfl, hS8⟩
    have hS8 : ST w0 [] _ [⟨some ⟨b, 0, none⟩, 45, [.int .i64 p.Qubits, .int .i64 p.Phase, .slice B p.Terms.length c, .slice B1 p.Out.Rows.length c1], 4⟩, ⟨some ⟨b1, 0, none⟩, 45, [.int .i64 0, .int .i64 0, .slice none 0 0, .slice none 0 0], 4⟩, ⟨B4, 3, (r_3.Rows.flatMap encI), c4 * 1⟩, ⟨some ⟨b2, 0, none⟩, 43, [.slice none 0 0], 1⟩] [⟨B, (p.Terms.flatMap enc_Term)⟩, ⟨B1, (p.Out.Rows.flatMap encI)⟩] := hS8
    refine ss 5 rfl rfl (Ys_alloc (T := 108) (cs := ((List.replicate 32 0).flatMap encI)) (m := 32) hS8 k_zero_108 rfl rfl rfl) ?_
    rintro _ w_6 ⟨b3, rfl, hS9⟩
    have hS9 : ST w0 [] _ [⟨some ⟨b, 0, none⟩, 45, [.int .i64 p.Qubits, .int .i64 p.Phase, .slice B p.Terms.length c, .slice B1 p.Out.Rows.length c1], 4⟩, ⟨some ⟨b1, 0, none⟩, 45, [.int .i64 0, .int .i64 0, .slice none 0 0, .slice none 0 0], 4⟩, ⟨B4, 3, (r_3.Rows.flatMap encI), c4 * 1⟩, ⟨some ⟨b2, 0, none⟩, 43, [.slice none 0 0], 1⟩, ⟨some ⟨b3, 0, none⟩, 108, ((List.replicate 32 0).flatMap encI), 32⟩] [⟨B, (p.Terms.flatMap enc_Term)⟩, ⟨B1, (p.Out.Rows.flatMap encI)⟩] := hS9
    refine ss0 rfl rfl (Ys_store (i := 3) (s := 1) (B := some ⟨b2, 0, none⟩) (T' := 43) (v := .agg #[.slice B4 r_3.Rows.length c4]) (vs := [.slice B4 r_3.Rows.length c4]) (k := 0) (cs' := [.slice B4 r_3.Rows.length c4]) hS9 k_sz_43_1 rfl rfl rfl rfl rfl rfl rfl (Nat.le_of_ble_eq_true rfl) rfl rfl) ?_
    rintro _ w_7 ⟨rfl, hS10⟩
    have hS10 : ST w0 [] _ [⟨some ⟨b, 0, none⟩, 45, [.int .i64 p.Qubits, .int .i64 p.Phase, .slice B p.Terms.length c, .slice B1 p.Out.Rows.length c1], 4⟩, ⟨some ⟨b1, 0, none⟩, 45, [.int .i64 0, .int .i64 0, .slice none 0 0, .slice none 0 0], 4⟩, ⟨B4, 3, (r_3.Rows.flatMap encI), c4 * 1⟩, ⟨some ⟨b2, 0, none⟩, 43, [.slice B4 r_3.Rows.length c4], 1⟩, ⟨some ⟨b3, 0, none⟩, 108, ((List.replicate 32 0).flatMap encI), 32⟩] [⟨B, (p.Terms.flatMap enc_Term)⟩, ⟨B1, (p.Out.Rows.flatMap encI)⟩] := hS10
    refine ss0 rfl rfl (Ys_store (i := 4) (s := 32) (B := some ⟨b3, 0, none⟩) (T' := 108) (v := .agg ((List.replicate 32 0).flatMap encI).toArray) (vs := ((List.replicate 32 0).flatMap encI)) (k := 0) (cs' := ((List.replicate 32 0).flatMap encI)) hS10 k_sz_108_32 rfl rfl rfl rfl (fm_lenn2 encI_len (List.length_replicate (n := 32)) rfl) (fm_one' encI_one _) rfl (fm_fit encI_len (List.length_replicate (n := 32)) rfl) (fm_spl encI_len (List.length_replicate (n := 32)) (List.length_replicate (n := 32))) rfl) ?_
    rintro _ w_8 ⟨rfl, hS11⟩
    have hS11 : ST w0 [] _ [⟨some ⟨b, 0, none⟩, 45, [.int .i64 p.Qubits, .int .i64 p.Phase, .slice B p.Terms.length c, .slice B1 p.Out.Rows.length c1], 4⟩, ⟨some ⟨b1, 0, none⟩, 45, [.int .i64 0, .int .i64 0, .slice none 0 0, .slice none 0 0], 4⟩, ⟨B4, 3, (r_3.Rows.flatMap encI), c4 * 1⟩, ⟨some ⟨b2, 0, none⟩, 43, [.slice B4 r_3.Rows.length c4], 1⟩, ⟨some ⟨b3, 0, none⟩, 108, ((List.replicate 32 0).flatMap encI), 32⟩] [⟨B, (p.Terms.flatMap enc_Term)⟩, ⟨B1, (p.Out.Rows.flatMap encI)⟩] := hS11
    refine rw_nil ?_
    refine cw_seq ?_
    refine cw_seq ?_
    refine cw_region ?_
    refine sq 16 rfl rfl (Y_fieldAddr (B := some ⟨b, 0, none⟩) (i := 0) (s := 0) k_fd_45_2_2_40 k_sz_40_1 rfl rfl) ?_
    refine sq 17 rfl rfl (Y_load1 (B := some ⟨b, 0, none⟩) (i := 2) (cs := [.int .i64 p.Qubits, .int .i64 p.Phase, .slice B p.Terms.length c, .slice B1 p.Out.Rows.length c1]) (v := .slice B p.Terms.length c) k_sc_40 rfl rfl (hS11.cf (i := 0) rfl) rfl) ?_
    refine sq 18 rfl rfl (Y_len (B := B) (m := p.Terms.length) (c := c) k_sl_40_112 rfl rfl) ?_
    refine sq 19 rfl rfl (Y_move (v := .int .i64 0) rfl rfl) ?_
    refine rw_nil ?_
    obtain ⟨hN, hF2⟩ := chk_inv hF2
    obtain ⟨z, hz, hF3⟩ := bind_inv hF2
    refine cw_block ?_
    refine cw_loop (fun k f w => ∃ (i : Nat) (sums : List Int), FF f [(1, pt (some ⟨b, 0, none⟩) 0), (2, pt (some ⟨b1, 0, none⟩) 0), (4, pt (some ⟨b2, 0, none⟩) 0), (5, pt (some ⟨b3, 0, none⟩) 0), (17, .slice B p.Terms.length c), (18, .int .i64 (p.Terms.length : Int)), (19, .int .i64 (i : Int))] ∧ sums.length = 32 ∧ ST w0 [] w [⟨some ⟨b, 0, none⟩, 45, [.int .i64 p.Qubits, .int .i64 p.Phase, .slice B p.Terms.length c, .slice B1 p.Out.Rows.length c1], 4⟩, ⟨some ⟨b1, 0, none⟩, 45, [.int .i64 0, .int .i64 0, .slice none 0 0, .slice none 0 0], 4⟩, ⟨some ⟨b2, 0, none⟩, 43, [.slice B4 r_3.Rows.length c4], 1⟩, ⟨B4, 3, (r_3.Rows.flatMap encI), c4 * 1⟩, ⟨some ⟨b3, 0, none⟩, 108, (sums.flatMap encI), 32⟩] [⟨B, (p.Terms.flatMap enc_Term)⟩, ⟨B1, (p.Out.Rows.flatMap encI)⟩] ∧ i + k = p.Terms.length ∧ forN (F_impl_InvertPhase_l1 p r_3) k i sums = some z) p.Terms.length ⟨0, (List.replicate 32 0), (FF.cons rfl (FF.cons rfl (FF.cons rfl (FF.cons rfl (FF.cons rfl (FF.cons rfl (FF.cons rfl FF.nil))))))), (List.length_replicate (n := 32)), (hS11.sel [0, 1, 3, 2, 4] rfl rfl), Nat.zero_add _, hz⟩ ?_
    rintro k_ f w ⟨i, sums, hf, hl, hS12, hik, hL⟩
    refine cw_seq ?_
    refine cw_region ?_
    refine sq 20 rfl rfl (Y_lt (k := .i64) (a := (i : Int)) (b := (p.Terms.length : Int)) rfl (hf.get 19 6 rfl) (hf.get 18 5 rfl)) ?_
    refine rw_nil ?_
    refine cw_seq ?_
    refine cw_cond (b := (decide ((i : Int) < (p.Terms.length : Int)))) rfl (fun hlt => ?_) (fun hlt => ?_)
    · skip
      have hlt1 : i < p.Terms.length := by have h := of_decide_eq_true hlt; omega
      obtain ⟨k_1, rfl⟩ : ∃ k2, k_ = k2 + 1 := ⟨k_ - 1, by omega⟩
      obtain ⟨y, hb1, hL1⟩ := forN_go hL
      unfold F_impl_InvertPhase_l1 at hb1
      refine cw_skip ?_
      refine cw_seq ?_
      refine cw_block ?_
      refine cw_seq ?_
      refine cw_region ?_
      obtain ⟨x, hx, hb1⟩ := bind_inv hb1
      refine sq 21 rfl rfl (Y_index (B := B) (m := p.Terms.length) (c := c) (k := .i64) (i := (i : Int)) k_sl_40_112 k_sz_112_2 rfl (hf.get 17 4 rfl) (hf.get 19 6 rfl) (gi_isSome enc_Term_len rfl (hS12.rf (i := 0) rfl) hx) (getI_nn hx) (getI_ltI hx rfl)) ?_
      refine sq 22 rfl rfl (Y_loadA (B := B) (i := (i : Int).toNat * 2) (cs := (p.Terms.flatMap enc_Term)) (vs := [.int .i64 x.Mask, .int .i64 x.Coef]) k_ag_112 k_sz_112_2 rfl rfl (hS12.rf (i := 0) rfl) (enc_Term_len x) (gi_seg enc_Term_len hx)) ?_
      refine ss 7 rfl rfl (Ys_alloc (T := 112) (cs := [.int .i64 0, .int .i64 0]) (m := 2) hS12 k_zero_112 rfl rfl rfl) ?_
      rintro _ w_9 ⟨b4, rfl, hS13⟩
      have hS13 : ST w0 [] _ [⟨some ⟨b, 0, none⟩, 45, [.int .i64 p.Qubits, .int .i64 p.Phase, .slice B p.Terms.length c, .slice B1 p.Out.Rows.length c1], 4⟩, ⟨some ⟨b1, 0, none⟩, 45, [.int .i64 0, .int .i64 0, .slice none 0 0, .slice none 0 0], 4⟩, ⟨some ⟨b2, 0, none⟩, 43, [.slice B4 r_3.Rows.length c4], 1⟩, ⟨B4, 3, (r_3.Rows.flatMap encI), c4 * 1⟩, ⟨some ⟨b3, 0, none⟩, 108, (sums.flatMap encI), 32⟩, ⟨some ⟨b4, 0, none⟩, 112, [.int .i64 0, .int .i64 0], 2⟩] [⟨B, (p.Terms.flatMap enc_Term)⟩, ⟨B1, (p.Out.Rows.flatMap encI)⟩] := hS13
      refine ss0 rfl rfl (Ys_store (i := 5) (s := 2) (B := some ⟨b4, 0, none⟩) (T' := 112) (v := .agg #[.int .i64 x.Mask, .int .i64 x.Coef]) (vs := [.int .i64 x.Mask, .int .i64 x.Coef]) (k := 0) (cs' := [.int .i64 x.Mask, .int .i64 x.Coef]) hS13 k_sz_112_2 rfl rfl rfl rfl rfl rfl rfl (Nat.le_of_ble_eq_true rfl) rfl rfl) ?_
      rintro _ w_10 ⟨rfl, hS14⟩
      have hS14 : ST w0 [] _ [⟨some ⟨b, 0, none⟩, 45, [.int .i64 p.Qubits, .int .i64 p.Phase, .slice B p.Terms.length c, .slice B1 p.Out.Rows.length c1], 4⟩, ⟨some ⟨b1, 0, none⟩, 45, [.int .i64 0, .int .i64 0, .slice none 0 0, .slice none 0 0], 4⟩, ⟨some ⟨b2, 0, none⟩, 43, [.slice B4 r_3.Rows.length c4], 1⟩, ⟨B4, 3, (r_3.Rows.flatMap encI), c4 * 1⟩, ⟨some ⟨b3, 0, none⟩, 108, (sums.flatMap encI), 32⟩, ⟨some ⟨b4, 0, none⟩, 112, [.int .i64 x.Mask, .int .i64 x.Coef], 2⟩] [⟨B, (p.Terms.flatMap enc_Term)⟩, ⟨B1, (p.Out.Rows.flatMap encI)⟩] := hS14
      refine rw_nil ?_
      obtain ⟨r_4, hc2, hb1⟩ := bind_inv hb1
      obtain ⟨m, hc3, hb1⟩ := bind_inv hb1
      refine ra_start (ST.sel hS14 [0, 1, 2, 3, 5] rfl rfl).fn (by kernel_rfl) ?_
      have hS17 := hS14.drew
      refine ra_q 0 23 (v := .agg #[.slice B4 r_3.Rows.length c4]) rfl rfl rfl (by kernel_rfl) (by kernel_rfl) (by kernel_rfl) (ST.sel hS17 [0, 1, 2, 3, 5] rfl rfl) (fun w' hw' => (Y_loadA (B := some ⟨b2, 0, none⟩) (i := 0) (cs := [.slice B4 r_3.Rows.length c4]) (vs := [.slice B4 r_3.Rows.length c4]) k_ag_43 k_sz_43_1 rfl (hf.get 4 2 rfl) (ST.cf hw' (i := 2) rfl) rfl rfl)) ?_
      refine ra_q 1 24 (v := pt (some ⟨b4, 0, none⟩) 0) rfl rfl rfl (by kernel_rfl) (by kernel_rfl) (by kernel_rfl) (ST.sel hS17 [0, 1, 2, 3, 5] rfl rfl) (fun w' hw' => (Y_fieldAddr (B := some ⟨b4, 0, none⟩) (i := 0) (s := 0) k_fd_112_0_0_3 k_sz_3_1 rfl rfl)) ?_
      refine ra_q 2 25 (v := .int .i64 x.Mask) rfl rfl rfl (by kernel_rfl) (by kernel_rfl) (by kernel_rfl) (ST.sel hS17 [0, 1, 2, 3, 5] rfl rfl) (fun w' hw' => (Y_load1 (B := some ⟨b4, 0, none⟩) (i := 0) (cs := [.int .i64 x.Mask, .int .i64 x.Coef]) (v := .int .i64 x.Mask) k_sc_3 rfl rfl (ST.cf hw' (i := 4) rfl) rfl)) ?_
      refine ra_q 4 27 (v := pt (some ⟨b4, 0, none⟩) 1) rfl rfl rfl (by kernel_rfl) (by kernel_rfl) (by kernel_rfl) (ST.sel hS17 [0, 1, 2, 3, 5] rfl rfl) (fun w' hw' => (Y_fieldAddr (B := some ⟨b4, 0, none⟩) (i := 0) (s := 0) k_fd_112_1_1_3 k_sz_3_1 rfl rfl)) ?_
      refine ra_q 5 28 (v := .int .i64 x.Coef) rfl rfl rfl (by kernel_rfl) (by kernel_rfl) (by kernel_rfl) (ST.sel hS17 [0, 1, 2, 3, 5] rfl rfl) (fun w' hw' => (Y_load1 (B := some ⟨b4, 0, none⟩) (i := 1) (cs := [.int .i64 x.Mask, .int .i64 x.Coef]) (v := .int .i64 x.Coef) k_sc_3 rfl rfl (ST.cf hw' (i := 4) rfl) rfl)) ?_
      refine ra_q 6 29 (v := .int .i64 (IntKind.i64.wrap (-x.Coef))) rfl rfl rfl (by kernel_rfl) (by kernel_rfl) (by kernel_rfl) (ST.sel hS17 [0, 1, 2, 3, 5] rfl rfl) (fun w' hw' => (Y_neg (k := .i64) (a := x.Coef) rfl rfl)) ?_
      refine ra_all (rs := [3]) (by kernel_rfl) rfl ?_
      refine ra_c 26 (i := 3) rfl rfl rfl (Yc_func (g := 91) (vs := [.agg #[.slice B4 r_3.Rows.length c4], .int .i64 x.Mask]) k_call_91 rfl (mc rfl (mc rfl mn)) (c_impl_Linear_through r_3 x.Mask B4 c4 r_3.Rows.length _ rfl (hS17.inn0 [(false, 3)] rfl) hc2)) ?_ ?_
      · rintro _ w_11 ⟨rfl, hd2⟩
        have hS18 := hS17.out00 hd2
        have hS18 : ST w0 [] _ [⟨some ⟨b, 0, none⟩, 45, [.int .i64 p.Qubits, .int .i64 p.Phase, .slice B p.Terms.length c, .slice B1 p.Out.Rows.length c1], 4⟩, ⟨some ⟨b1, 0, none⟩, 45, [.int .i64 0, .int .i64 0, .slice none 0 0, .slice none 0 0], 4⟩, ⟨some ⟨b2, 0, none⟩, 43, [.slice B4 r_3.Rows.length c4], 1⟩, ⟨B4, 3, (r_3.Rows.flatMap encI), c4 * 1⟩, ⟨some ⟨b3, 0, none⟩, 108, (sums.flatMap encI), 32⟩, ⟨some ⟨b4, 0, none⟩, 112, [.int .i64 x.Mask, .int .i64 x.Coef], 2⟩] [⟨B, (p.Terms.flatMap enc_Term)⟩, ⟨B1, (p.Out.Rows.flatMap encI)⟩] := hS18
        refine ⟨(ST.sel hS18 [0, 1, 2, 3, 5] rfl rfl), ?_⟩
        refine ra_all (rs := [7]) (by kernel_rfl) rfl ?_
        refine ra_c 30 (i := 7) rfl rfl rfl (Yc_func (g := 78) (vs := [pt (some ⟨b3, 0, none⟩) 0, .int .i64 r_4, .int .i64 (IntKind.i64.wrap (-x.Coef))]) k_call_78 rfl (mc (hf.get 5 3 rfl) (mc rfl (mc rfl mn))) (c_impl_coefficients_add sums r_4 (IntKind.i64.wrap (-x.Coef)) (some ⟨b3, 0, none⟩) _ hl (hS18.inn [false, false, false, false, true, false] rfl [] rfl) hc3)) ?_ ?_
        · rintro _ w_12 ⟨rfl, hl1, hd3⟩
          have hS19 := hS18.out [false, false, false, false, true, false] rfl hd3
          have hS19 : ST w0 [] _ [⟨some ⟨b, 0, none⟩, 45, [.int .i64 p.Qubits, .int .i64 p.Phase, .slice B p.Terms.length c, .slice B1 p.Out.Rows.length c1], 4⟩, ⟨some ⟨b1, 0, none⟩, 45, [.int .i64 0, .int .i64 0, .slice none 0 0, .slice none 0 0], 4⟩, ⟨some ⟨b2, 0, none⟩, 43, [.slice B4 r_3.Rows.length c4], 1⟩, ⟨B4, 3, (r_3.Rows.flatMap encI), c4 * 1⟩, ⟨some ⟨b4, 0, none⟩, 112, [.int .i64 x.Mask, .int .i64 x.Coef], 2⟩, ⟨some ⟨b3, 0, none⟩, 108, (m.flatMap encI), 32⟩] [⟨B, (p.Terms.flatMap enc_Term)⟩, ⟨B1, (p.Out.Rows.flatMap encI)⟩] := hS19
          refine ⟨(ST.sel hS19 [0, 1, 2, 3, 4] rfl rfl), ?_⟩
          refine ra_done (by kernel_rfl) ?_
          refine cw_region ?_
          refine sq 31 rfl rfl (Y_add (k := .i64) (a := (i : Int)) (b := 1) rfl (hf.get 19 6 rfl) rfl) ?_
          refine sq 19 rfl rfl (Y_move (v := .int .i64 (IntKind.i64.wrap ((i : Int) + 1))) rfl rfl) ?_
          refine rw_nil ?_
          obtain rfl := some_inj hb1
          exact ⟨k_1, Nat.lt_succ_self _, i + 1, m, (FF.cons (hf.get 1 0 rfl) (FF.cons (hf.get 2 1 rfl) (FF.cons (hf.get 4 2 rfl) (FF.cons (hf.get 5 3 rfl) (FF.cons (hf.get 17 4 rfl) (FF.cons (hf.get 18 5 rfl) (FF.cons (congrArg (Value.int .i64) (wr_succ hlt1 hN)) FF.nil))))))), hl1, (hS19.sel [0, 1, 2, 3, 5] rfl rfl), (by omega), hL1⟩
        exact allR_nil
      exact allR_nil
    · skip
      obtain rfl : k_ = 0 := by have h := of_decide_eq_false hlt; omega
      refine cw_exit rfl ?_
      obtain rfl := some_inj hL
      refine cw_seq ?_
      obtain ⟨r_5, hc4, hF3⟩ := bind_inv hF3
      refine ra_start (ST.sel hS12 [0, 2, 3, 4] rfl rfl).fn (by kernel_rfl) ?_
      have hS21 := hS12.drew
      refine ra_q 0 32 (v := pt (some ⟨b, 0, none⟩) 0) rfl rfl rfl (by kernel_rfl) (by kernel_rfl) (by kernel_rfl) (ST.sel hS21 [0, 2, 3, 4] rfl rfl) (fun w' hw' => (Y_fieldAddr (B := some ⟨b, 0, none⟩) (i := 0) (s := 0) k_fd_45_0_0_3 k_sz_3_1 rfl (hf.get 1 0 rfl))) ?_
      refine ra_q 1 33 (v := .int .i64 p.Qubits) rfl rfl rfl (by kernel_rfl) (by kernel_rfl) (by kernel_rfl) (ST.sel hS21 [0, 2, 3, 4] rfl rfl) (fun w' hw' => (Y_load1 (B := some ⟨b, 0, none⟩) (i := 0) (cs := [.int .i64 p.Qubits, .int .i64 p.Phase, .slice B p.Terms.length c, .slice B1 p.Out.Rows.length c1]) (v := .int .i64 p.Qubits) k_sc_3 rfl rfl (ST.cf hw' (i := 0) rfl) rfl)) ?_
      refine ra_q 2 34 (v := pt (some ⟨b, 0, none⟩) 1) rfl rfl rfl (by kernel_rfl) (by kernel_rfl) (by kernel_rfl) (ST.sel hS21 [0, 2, 3, 4] rfl rfl) (fun w' hw' => (Y_fieldAddr (B := some ⟨b, 0, none⟩) (i := 0) (s := 0) k_fd_45_1_1_3 k_sz_3_1 rfl (hf.get 1 0 rfl))) ?_
      refine ra_q 3 35 (v := .int .i64 p.Phase) rfl rfl rfl (by kernel_rfl) (by kernel_rfl) (by kernel_rfl) (ST.sel hS21 [0, 2, 3, 4] rfl rfl) (fun w' hw' => (Y_load1 (B := some ⟨b, 0, none⟩) (i := 1) (cs := [.int .i64 p.Qubits, .int .i64 p.Phase, .slice B p.Terms.length c, .slice B1 p.Out.Rows.length c1]) (v := .int .i64 p.Phase) k_sc_3 rfl rfl (ST.cf hw' (i := 0) rfl) rfl)) ?_
      refine ra_q 4 36 (v := .int .i64 (IntKind.i64.wrap (8 - p.Phase))) rfl rfl rfl (by kernel_rfl) (by kernel_rfl) (by kernel_rfl) (ST.sel hS21 [0, 2, 3, 4] rfl rfl) (fun w' hw' => (Y_sub (k := .i64) (a := 8) (b := p.Phase) rfl rfl rfl)) ?_
      refine ra_q 5 37 (v := .int .i64 (Int.tmod (IntKind.i64.wrap (8 - p.Phase)) 8)) rfl rfl rfl (by kernel_rfl) (by kernel_rfl) (by kernel_rfl) (ST.sel hS21 [0, 2, 3, 4] rfl rfl) (fun w' hw' => (Y_rem (k := .i64) (a := (IntKind.i64.wrap (8 - p.Phase))) (b := 8) rfl rfl rfl (by decide))) ?_
      refine ra_q 6 38 (v := .agg (sums.flatMap encI).toArray) rfl rfl rfl (by kernel_rfl) (by kernel_rfl) (by kernel_rfl) (ST.sel hS21 [0, 2, 3, 4] rfl rfl) (fun w' hw' => (Y_loadA (B := some ⟨b3, 0, none⟩) (i := 0) (cs := (sums.flatMap encI)) (vs := (sums.flatMap encI)) k_ag_108 k_sz_108_32 rfl (hf.get 5 3 rfl) (ST.cf hw' (i := 3) rfl) (fm_lenn2 encI_len hl rfl) (fm_whole encI_len hl rfl))) ?_
      refine ra_q 8 40 (v := .agg #[.slice B4 r_3.Rows.length c4]) rfl rfl rfl (by kernel_rfl) (by kernel_rfl) (by kernel_rfl) (ST.sel hS21 [0, 2, 3, 4] rfl rfl) (fun w' hw' => (Y_loadA (B := some ⟨b2, 0, none⟩) (i := 0) (cs := [.slice B4 r_3.Rows.length c4]) (vs := [.slice B4 r_3.Rows.length c4]) k_ag_43 k_sz_43_1 rfl (hf.get 4 2 rfl) (ST.cf hw' (i := 1) rfl) rfl rfl)) ?_
      refine ra_all (rs := [7]) (by kernel_rfl) rfl ?_
      refine ra_c 39 (i := 7) rfl rfl rfl (Yc_func (g := 79) (vs := [.agg (sums.flatMap encI).toArray]) k_call_79 rfl (mc rfl mn) (c_impl_coefficients_terms sums _ hl (hS21.inn0 [] rfl) hc4)) ?_ ?_
      · rintro _ w_13 ⟨B5, c5, rfl, hd4⟩
        have hS22 := hS21.out0 hd4
        have hS22 : ST w0 [] _ [⟨some ⟨b, 0, none⟩, 45, [.int .i64 p.Qubits, .int .i64 p.Phase, .slice B p.Terms.length c, .slice B1 p.Out.Rows.length c1], 4⟩, ⟨some ⟨b1, 0, none⟩, 45, [.int .i64 0, .int .i64 0, .slice none 0 0, .slice none 0 0], 4⟩, ⟨some ⟨b2, 0, none⟩, 43, [.slice B4 r_3.Rows.length c4], 1⟩, ⟨B4, 3, (r_3.Rows.flatMap encI), c4 * 1⟩, ⟨some ⟨b3, 0, none⟩, 108, (sums.flatMap encI), 32⟩, ⟨B5, 112, (r_5.flatMap enc_Term), c5 * 2⟩] [⟨B, (p.Terms.flatMap enc_Term)⟩, ⟨B1, (p.Out.Rows.flatMap encI)⟩] := hS22
        refine ⟨(ST.sel hS22 [0, 2, 3, 4] rfl rfl), ?_⟩
        refine ra_q 9 41 (v := .agg #[.int .i64 p.Qubits, .int .i64 (Int.tmod (IntKind.i64.wrap (8 - p.Phase)) 8), .slice B5 r_5.length c5, .slice B4 r_3.Rows.length c4]) rfl rfl rfl (by kernel_rfl) (by kernel_rfl) (by kernel_rfl) (ST.sel hS22 [0, 2, 3, 4] rfl rfl) (fun w' hw' => (Y_buildS (zs := [.int .i64 0, .int .i64 0, .slice none 0 0, .slice none 0 0]) (vs := [(0, .int .i64 p.Qubits), (1, .int .i64 (Int.tmod (IntKind.i64.wrap (8 - p.Phase)) 8)), (2, .slice B5 r_5.length c5), (3, .agg #[.slice B4 r_3.Rows.length c4])]) (cs := [.int .i64 p.Qubits, .int .i64 (Int.tmod (IntKind.i64.wrap (8 - p.Phase)) 8), .slice B5 r_5.length c5, .slice B4 r_3.Rows.length c4]) k_pl_45 k_zero_45 rfl (mpc rfl (mpc rfl (mpc rfl (mpc rfl mpn)))) rfl)) ?_
        refine ra_all (rs := [10]) (by kernel_rfl) rfl ?_
        refine ra_s0 (i := 10) rfl rfl rfl (Ys_store (i := 1) (s := 4) (B := some ⟨b1, 0, none⟩) (T' := 45) (v := .agg #[.int .i64 p.Qubits, .int .i64 (Int.tmod (IntKind.i64.wrap (8 - p.Phase)) 8), .slice B5 r_5.length c5, .slice B4 r_3.Rows.length c4]) (vs := [.int .i64 p.Qubits, .int .i64 (Int.tmod (IntKind.i64.wrap (8 - p.Phase)) 8), .slice B5 r_5.length c5, .slice B4 r_3.Rows.length c4]) (k := 0) (cs' := [.int .i64 p.Qubits, .int .i64 (Int.tmod (IntKind.i64.wrap (8 - p.Phase)) 8), .slice B5 r_5.length c5, .slice B4 r_3.Rows.length c4]) hS22 k_sz_45_4 rfl (hf.get 2 1 rfl) rfl rfl rfl rfl rfl (Nat.le_of_ble_eq_true rfl) rfl rfl) ?_ ?_
        · rintro _ w_14 ⟨rfl, hS23⟩
          have hS23 : ST w0 [] _ [⟨some ⟨b, 0, none⟩, 45, [.int .i64 p.Qubits, .int .i64 p.Phase, .slice B p.Terms.length c, .slice B1 p.Out.Rows.length c1], 4⟩, ⟨some ⟨b1, 0, none⟩, 45, [.int .i64 p.Qubits, .int .i64 (Int.tmod (IntKind.i64.wrap (8 - p.Phase)) 8), .slice B5 r_5.length c5, .slice B4 r_3.Rows.length c4], 4⟩, ⟨some ⟨b2, 0, none⟩, 43, [.slice B4 r_3.Rows.length c4], 1⟩, ⟨B4, 3, (r_3.Rows.flatMap encI), c4 * 1⟩, ⟨some ⟨b3, 0, none⟩, 108, (sums.flatMap encI), 32⟩, ⟨B5, 112, (r_5.flatMap enc_Term), c5 * 2⟩] [⟨B, (p.Terms.flatMap enc_Term)⟩, ⟨B1, (p.Out.Rows.flatMap encI)⟩] := hS23
          refine ⟨(ST.sel hS23 [0, 2, 3, 4] rfl rfl), ?_⟩
          refine ra_q 11 3 (v := .bool true) rfl rfl rfl (by kernel_rfl) (by kernel_rfl) (by kernel_rfl) (ST.sel hS23 [0, 2, 3, 4] rfl rfl) (fun w' hw' => (Y_assign (v := .bool true) rfl rfl)) ?_
          refine ra_done (by kernel_rfl) ?_
          refine cw_ret ?_
          obtain ⟨rfl, rfl⟩ := pr2 (some_inj hF3)
          exact ret2 Try.results55 (v1 := .agg #[.int .i64 p.Qubits, .int .i64 (Int.tmod (IntKind.i64.wrap (8 - p.Phase)) 8), .slice B5 r_5.length c5, .slice B4 r_3.Rows.length c4]) (resAt_cellA (B := some ⟨b1, 0, none⟩) (i := 0) (cs := [.int .i64 p.Qubits, .int .i64 (Int.tmod (IntKind.i64.wrap (8 - p.Phase)) 8), .slice B5 r_5.length c5, .slice B4 r_3.Rows.length c4]) (vs := [.int .i64 p.Qubits, .int .i64 (Int.tmod (IntKind.i64.wrap (8 - p.Phase)) 8), .slice B5 r_5.length c5, .slice B4 r_3.Rows.length c4]) (hf.get 2 1 rfl) k_ag_45 k_sz_45_4 (hS23.cf (i := 1) rfl) rfl rfl) (v2 := .bool true) (resAt_tmp rfl) ⟨B5, c5, B4, c4, rfl, (ST.subR (R' := []) (hS23.sel [5, 3] rfl rfl) (fun _ h => by cases h))⟩
        exact allR_nil
      exact allR_nil

theorem c_laws_FnExactInvertPhase (aP : TPhasePoly) (B : Option Addr) (c n : Nat) (B1 : Option Addr) (c1 n1 : Nat) (w0 : World) (hn : aP.Terms.length = n) (hn1 : aP.Out.Rows.length = n1) (hS : ST w0 [] w0 [] [⟨B, (aP.Terms.flatMap enc_Term)⟩, ⟨B1, (aP.Out.Rows.flatMap encI)⟩]) {r_ : Bool} (hF : F_laws_FnExactInvertPhase aP = some r_) :
    CV Try.prog 13 #[.agg #[.int .i64 aP.Qubits, .int .i64 aP.Phase, .slice B n c, .slice B1 n1 c1]] w0 (fun v w' => v = .bool r_ ∧ ST w0 [] w' [] []) := by
  subst hn
  subst hn1
  unfold F_laws_FnExactInvertPhase at hF
  refine cv_of_cw 96 Try.func13 rfl Try.ntmps13 rfl ?_
  refine cw_seq ?_
  refine cw_region ?_
  refine ss 1 rfl rfl (Ys_box (T := 38) (v := .agg #[.int .i64 aP.Qubits, .int .i64 aP.Phase, .slice B aP.Terms.length c, .slice B1 aP.Out.Rows.length c1]) (cs := [.int .i64 aP.Qubits, .int .i64 aP.Phase, .slice B aP.Terms.length c, .slice B1 aP.Out.Rows.length c1]) (m := 4) hS rfl rfl rfl rfl) ?_
  rintro _ w_ ⟨b, rfl, hS1⟩
  refine sq 2 rfl rfl (Y_assign (v := .bool false) rfl rfl) ?_
  refine rw_nil ?_
  refine cw_seq ?_
  refine cw_region ?_
  refine sq 3 rfl rfl (Y_assign (v := .int .i64 1048576) rfl rfl) ?_
  refine rw_nil ?_
  refine cw_seq ?_
  refine cw_region ?_
  refine sq 14 rfl rfl (Y_loadA (B := some ⟨b, 0, none⟩) (i := 0) (cs := [.int .i64 aP.Qubits, .int .i64 aP.Phase, .slice B aP.Terms.length c, .slice B1 aP.Out.Rows.length c1]) (vs := [.int .i64 aP.Qubits, .int .i64 aP.Phase, .slice B aP.Terms.length c, .slice B1 aP.Out.Rows.length c1]) k_ag_38 k_sz_38_4 rfl rfl (hS1.cf (i := 0) rfl) rfl rfl) ?_
  refine sq 15 rfl rfl (Y_move (v := .int .i64 1048576) rfl rfl) ?_
  obtain ⟨r_1, hc, hF⟩ := bind_inv hF
  refine sc 16 rfl rfl (Yc_func (g := 20) (vs := [.agg #[.int .i64 aP.Qubits, .int .i64 aP.Phase, .slice B aP.Terms.length c, .slice B1 aP.Out.Rows.length c1], .int .i64 1048576]) k_call_20 rfl (mc rfl (mc rfl mn)) (c_laws_szPhasePoly aP 1048576 B c aP.Terms.length B1 c1 aP.Out.Rows.length _ rfl rfl (hS1.inn0 [(true, 0), (true, 1)] rfl) hc)) ?_
  rintro _ w_1 ⟨rfl, hd⟩
  have hS2 := hS1.out00 hd
  refine sq 3 rfl rfl (Y_assign (v := .int .i64 r_1) rfl rfl) ?_
  refine rw_nil ?_
  refine cw_seq ?_
  refine cw_seq ?_
  refine cw_region ?_
  refine sq 17 rfl rfl (Y_move (v := .int .i64 r_1) rfl rfl) ?_
  refine sq 18 rfl rfl (Y_lt (k := .i64) (a := r_1) (b := 0) rfl rfl rfl) ?_
  refine rw_nil ?_
  refine cw_cond (b := (decide (r_1 < 0))) rfl (fun hb => ?_) (fun hb => ?_)
  · skip
    have hF1 := ct hF hb
    refine cw_seq ?_
    refine cw_region ?_
    refine sq 2 rfl rfl (Y_assign (v := .bool true) rfl rfl) ?_
    refine rw_nil ?_
    refine cw_ret ?_
    obtain rfl := some_inj hF1
    exact ret1 Try.results13 (v1 := .bool true) (resAt_tmp rfl) ⟨rfl, (ST.subR (R' := []) (hS2.sel [] rfl rfl) (fun _ h => by cases h))⟩
  · skip
    have hF2 := cf' hF hb
    refine cw_skip ?_
    refine cw_seq ?_
    refine cw_region ?_
    refine sq 20 rfl rfl (Y_loadA (B := some ⟨b, 0, none⟩) (i := 0) (cs := [.int .i64 aP.Qubits, .int .i64 aP.Phase, .slice B aP.Terms.length c, .slice B1 aP.Out.Rows.length c1]) (vs := [.int .i64 aP.Qubits, .int .i64 aP.Phase, .slice B aP.Terms.length c, .slice B1 aP.Out.Rows.length c1]) k_ag_38 k_sz_38_4 rfl rfl (hS2.cf (i := 0) rfl) rfl rfl) ?_
    obtain ⟨r_2, hc1, hF2⟩ := bind_inv hF2
    refine sc 21 rfl rfl (Yc_func (g := 22) (vs := [.agg #[.int .i64 aP.Qubits, .int .i64 aP.Phase, .slice B aP.Terms.length c, .slice B1 aP.Out.Rows.length c1]]) k_call_22 rfl (mc rfl mn) (c_laws_toPhasePoly aP B c aP.Terms.length B1 c1 aP.Out.Rows.length _ rfl rfl (hS2.inn0 [(true, 0), (true, 1)] rfl) hc1)) ?_
    rintro _ w_2 ⟨B2, c2, B3, c3, rfl, hd1⟩
    have hS3 := hS2.out0 hd1
    have hS3 : ST w0 [] _ [⟨some ⟨b, 0, none⟩, 38, [.int .i64 aP.Qubits, .int .i64 aP.Phase, .slice B aP.Terms.length c, .slice B1 aP.Out.Rows.length c1], 4⟩, ⟨B2, 112, (r_2.Terms.flatMap enc_Term), c2 * 2⟩, ⟨B3, 3, (r_2.Out.Rows.flatMap encI), c3 * 1⟩] [⟨B, (aP.Terms.flatMap enc_Term)⟩, ⟨B1, (aP.Out.Rows.flatMap encI)⟩] := hS3
    obtain ⟨⟨r_3, r_4⟩, hc2, hF2⟩ := bind_inv hF2
    refine sc 22 rfl rfl (Yc_func (g := 54) (vs := [.agg #[.int .i64 r_2.Qubits, .int .i64 r_2.Phase, .slice B2 r_2.Terms.length c2, .slice B3 r_2.Out.Rows.length c3]]) k_call_54 rfl (mc rfl mn) (c_spec_InvertPhase r_2 B2 c2 r_2.Terms.length B3 c3 r_2.Out.Rows.length _ rfl rfl (hS3.inn0 [(false, 1), (false, 2)] rfl) hc2)) ?_
    rintro _ w_3 ⟨B4, c4, B5, c5, rfl, hd2⟩
    have hS4 := hS3.out0 hd2
    have hS4 : ST w0 [] _ [⟨some ⟨b, 0, none⟩, 38, [.int .i64 aP.Qubits, .int .i64 aP.Phase, .slice B aP.Terms.length c, .slice B1 aP.Out.Rows.length c1], 4⟩, ⟨B2, 112, (r_2.Terms.flatMap enc_Term), c2 * 2⟩, ⟨B3, 3, (r_2.Out.Rows.flatMap encI), c3 * 1⟩, ⟨B4, 112, (r_3.Terms.flatMap enc_Term), c4 * 2⟩, ⟨B5, 3, (r_3.Out.Rows.flatMap encI), c5 * 1⟩] [⟨B, (aP.Terms.flatMap enc_Term)⟩, ⟨B1, (aP.Out.Rows.flatMap encI)⟩] := hS4
    refine sq 19 rfl rfl (Y_move (v := .tuple #[.agg #[.int .i64 r_3.Qubits, .int .i64 r_3.Phase, .slice B4 r_3.Terms.length c4, .slice B5 r_3.Out.Rows.length c5], .bool r_4]) rfl rfl) ?_
    refine sq 23 rfl rfl (Y_extract (v := .agg #[.int .i64 r_3.Qubits, .int .i64 r_3.Phase, .slice B4 r_3.Terms.length c4, .slice B5 r_3.Out.Rows.length c5]) rfl rfl rfl) ?_
    refine sq 24 rfl rfl (Y_extract (v := .bool r_4) rfl rfl rfl) ?_
    refine ss 4 rfl rfl (Ys_alloc (T := 45) (cs := [.int .i64 0, .int .i64 0, .slice none 0 0, .slice none 0 0]) (m := 4) hS4 k_zero_45 rfl rfl rfl) ?_
    rintro _ w_4 ⟨b1, rfl, hS5⟩
    have hS5 : ST w0 [] _ [⟨some ⟨b, 0, none⟩, 38, [.int .i64 aP.Qubits, .int .i64 aP.Phase, .slice B aP.Terms.length c, .slice B1 aP.Out.Rows.length c1], 4⟩, ⟨B2, 112, (r_2.Terms.flatMap enc_Term), c2 * 2⟩, ⟨B3, 3, (r_2.Out.Rows.flatMap encI), c3 * 1⟩, ⟨B4, 112, (r_3.Terms.flatMap enc_Term), c4 * 2⟩, ⟨B5, 3, (r_3.Out.Rows.flatMap encI), c5 * 1⟩, ⟨some ⟨b1, 0, none⟩, 45, [.int .i64 0, .int .i64 0, .slice none 0 0, .slice none 0 0], 4⟩] [⟨B, (aP.Terms.flatMap enc_Term)⟩, ⟨B1, (aP.Out.Rows.flatMap encI)⟩] := hS5
    refine ss0 rfl rfl (Ys_store (i := 5) (s := 4) (B := some ⟨b1, 0, none⟩) (T' := 45) (v := .agg #[.int .i64 r_3.Qubits, .int .i64 r_3.Phase, .slice B4 r_3.Terms.length c4, .slice B5 r_3.Out.Rows.length c5]) (vs := [.int .i64 r_3.Qubits, .int .i64 r_3.Phase, .slice B4 r_3.Terms.length c4, .slice B5 r_3.Out.Rows.length c5]) (k := 0) (cs' := [.int .i64 r_3.Qubits, .int .i64 r_3.Phase, .slice B4 r_3.Terms.length c4, .slice B5 r_3.Out.Rows.length c5]) hS5 k_sz_45_4 rfl rfl rfl rfl rfl rfl rfl (Nat.le_of_ble_eq_true rfl) rfl rfl) ?_
    rintro _ w_5 ⟨rfl, hS6⟩
    have hS6 : ST w0 [] _ [⟨some ⟨b, 0, none⟩, 38, [.int .i64 aP.Qubits, .int .i64 aP.Phase, .slice B aP.Terms.length c, .slice B1 aP.Out.Rows.length c1], 4⟩, ⟨B2, 112, (r_2.Terms.flatMap enc_Term), c2 * 2⟩, ⟨B3, 3, (r_2.Out.Rows.flatMap encI), c3 * 1⟩, ⟨B4, 112, (r_3.Terms.flatMap enc_Term), c4 * 2⟩, ⟨B5, 3, (r_3.Out.Rows.flatMap encI), c5 * 1⟩, ⟨some ⟨b1, 0, none⟩, 45, [.int .i64 r_3.Qubits, .int .i64 r_3.Phase, .slice B4 r_3.Terms.length c4, .slice B5 r_3.Out.Rows.length c5], 4⟩] [⟨B, (aP.Terms.flatMap enc_Term)⟩, ⟨B1, (aP.Out.Rows.flatMap encI)⟩] := hS6
    refine sq 5 rfl rfl (Y_assign (v := .bool r_4) rfl rfl) ?_
    refine rw_nil ?_
    refine cw_seq ?_
    refine cw_region ?_
    refine sq 25 rfl rfl (Y_loadA (B := some ⟨b, 0, none⟩) (i := 0) (cs := [.int .i64 aP.Qubits, .int .i64 aP.Phase, .slice B aP.Terms.length c, .slice B1 aP.Out.Rows.length c1]) (vs := [.int .i64 aP.Qubits, .int .i64 aP.Phase, .slice B aP.Terms.length c, .slice B1 aP.Out.Rows.length c1]) k_ag_38 k_sz_38_4 rfl rfl (hS6.cf (i := 0) rfl) rfl rfl) ?_
    obtain ⟨r_5, hc3, hF2⟩ := bind_inv hF2
    refine sc 26 rfl rfl (Yc_func (g := 22) (vs := [.agg #[.int .i64 aP.Qubits, .int .i64 aP.Phase, .slice B aP.Terms.length c, .slice B1 aP.Out.Rows.length c1]]) k_call_22 rfl (mc rfl mn) (c_laws_toPhasePoly aP B c aP.Terms.length B1 c1 aP.Out.Rows.length _ rfl rfl (hS6.inn0 [(true, 0), (true, 1)] rfl) hc3)) ?_
    rintro _ w_6 ⟨B6, c6, B7, c7, rfl, hd3⟩
    have hS7 := hS6.out0 hd3
    have hS7 : ST w0 [] _ [⟨some ⟨b, 0, none⟩, 38, [.int .i64 aP.Qubits, .int .i64 aP.Phase, .slice B aP.Terms.length c, .slice B1 aP.Out.Rows.length c1], 4⟩, ⟨B2, 112, (r_2.Terms.flatMap enc_Term), c2 * 2⟩, ⟨B3, 3, (r_2.Out.Rows.flatMap encI), c3 * 1⟩, ⟨B4, 112, (r_3.Terms.flatMap enc_Term), c4 * 2⟩, ⟨B5, 3, (r_3.Out.Rows.flatMap encI), c5 * 1⟩, ⟨some ⟨b1, 0, none⟩, 45, [.int .i64 r_3.Qubits, .int .i64 r_3.Phase, .slice B4 r_3.Terms.length c4, .slice B5 r_3.Out.Rows.length c5], 4⟩, ⟨B6, 112, (r_5.Terms.flatMap enc_Term), c6 * 2⟩, ⟨B7, 3, (r_5.Out.Rows.flatMap encI), c7 * 1⟩] [⟨B, (aP.Terms.flatMap enc_Term)⟩, ⟨B1, (aP.Out.Rows.flatMap encI)⟩] := hS7
    refine ss 6 rfl rfl (Ys_alloc (T := 45) (cs := [.int .i64 0, .int .i64 0, .slice none 0 0, .slice none 0 0]) (m := 4) hS7 k_zero_45 rfl rfl rfl) ?_
    rintro _ w_7 ⟨b2, rfl, hS8⟩
    have hS8 : ST w0 [] _ [⟨some ⟨b, 0, none⟩, 38, [.int .i64 aP.Qubits, .int .i64 aP.Phase, .slice B aP.Terms.length c, .slice B1 aP.Out.Rows.length c1], 4⟩, ⟨B2, 112, (r_2.Terms.flatMap enc_Term), c2 * 2⟩, ⟨B3, 3, (r_2.Out.Rows.flatMap encI), c3 * 1⟩, ⟨B4, 112, (r_3.Terms.flatMap enc_Term), c4 * 2⟩, ⟨B5, 3, (r_3.Out.Rows.flatMap encI), c5 * 1⟩, ⟨some ⟨b1, 0, none⟩, 45, [.int .i64 r_3.Qubits, .int .i64 r_3.Phase, .slice B4 r_3.Terms.length c4, .slice B5 r_3.Out.Rows.length c5], 4⟩, ⟨B6, 112, (r_5.Terms.flatMap enc_Term), c6 * 2⟩, ⟨B7, 3, (r_5.Out.Rows.flatMap encI), c7 * 1⟩, ⟨some ⟨b2, 0, none⟩, 45, [.int .i64 0, .int .i64 0, .slice none 0 0, .slice none 0 0], 4⟩] [⟨B, (aP.Terms.flatMap enc_Term)⟩, ⟨B1, (aP.Out.Rows.flatMap encI)⟩] := hS8
    refine ss0 rfl rfl (Ys_store (i := 8) (s := 4) (B := some ⟨b2, 0, none⟩) (T' := 45) (v := .agg #[.int .i64 r_5.Qubits, .int .i64 r_5.Phase, .slice B6 r_5.Terms.length c6, .slice B7 r_5.Out.Rows.length c7]) (vs := [.int .i64 r_5.Qubits, .int .i64 r_5.Phase, .slice B6 r_5.Terms.length c6, .slice B7 r_5.Out.Rows.length c7]) (k := 0) (cs' := [.int .i64 r_5.Qubits, .int .i64 r_5.Phase, .slice B6 r_5.Terms.length c6, .slice B7 r_5.Out.Rows.length c7]) hS8 k_sz_45_4 rfl rfl rfl rfl rfl rfl rfl (Nat.le_of_ble_eq_true rfl) rfl rfl) ?_
    rintro _ w_8 ⟨rfl, hS9⟩
    have hS9 : ST w0 [] _ [⟨some ⟨b, 0, none⟩, 38, [.int .i64 aP.Qubits, .int .i64 aP.Phase, .slice B aP.Terms.length c, .slice B1 aP.Out.Rows.length c1], 4⟩, ⟨B2, 112, (r_2.Terms.flatMap enc_Term), c2 * 2⟩, ⟨B3, 3, (r_2.Out.Rows.flatMap encI), c3 * 1⟩, ⟨B4, 112, (r_3.Terms.flatMap enc_Term), c4 * 2⟩, ⟨B5, 3, (r_3.Out.Rows.flatMap encI), c5 * 1⟩, ⟨some ⟨b1, 0, none⟩, 45, [.int .i64 r_3.Qubits, .int .i64 r_3.Phase, .slice B4 r_3.Terms.length c4, .slice B5 r_3.Out.Rows.length c5], 4⟩, ⟨B6, 112, (r_5.Terms.flatMap enc_Term), c6 * 2⟩, ⟨B7, 3, (r_5.Out.Rows.flatMap encI), c7 * 1⟩, ⟨some ⟨b2, 0, none⟩, 45, [.int .i64 r_5.Qubits, .int .i64 r_5.Phase, .slice B6 r_5.Terms.length c6, .slice B7 r_5.Out.Rows.length c7], 4⟩] [⟨B, (aP.Terms.flatMap enc_Term)⟩, ⟨B1, (aP.Out.Rows.flatMap encI)⟩] := hS9
    refine rw_nil ?_
    refine cw_seq ?_
    refine cw_region ?_
    refine sq 28 rfl rfl (Y_loadA (B := some ⟨b2, 0, none⟩) (i := 0) (cs := [.int .i64 r_5.Qubits, .int .i64 r_5.Phase, .slice B6 r_5.Terms.length c6, .slice B7 r_5.Out.Rows.length c7]) (vs := [.int .i64 r_5.Qubits, .int .i64 r_5.Phase, .slice B6 r_5.Terms.length c6, .slice B7 r_5.Out.Rows.length c7]) k_ag_45 k_sz_45_4 rfl rfl (hS9.cf (i := 8) rfl) rfl rfl) ?_
    obtain ⟨⟨r_6, r_7⟩, hc4, hF2⟩ := bind_inv hF2
    refine sc 29 rfl rfl (Yc_func (g := 55) (vs := [.agg #[.int .i64 r_5.Qubits, .int .i64 r_5.Phase, .slice B6 r_5.Terms.length c6, .slice B7 r_5.Out.Rows.length c7]]) k_call_55 rfl (mc rfl mn) (c_impl_InvertPhase r_5 B6 c6 r_5.Terms.length B7 c7 r_5.Out.Rows.length _ rfl rfl (hS9.inn0 [(false, 6), (false, 7)] rfl) hc4)) ?_
    rintro _ w_9 ⟨B8, c8, B9, c9, rfl, hd4⟩
    have hS10 := hS9.out0 hd4
    have hS10 : ST w0 [] _ [⟨some ⟨b, 0, none⟩, 38, [.int .i64 aP.Qubits, .int .i64 aP.Phase, .slice B aP.Terms.length c, .slice B1 aP.Out.Rows.length c1], 4⟩, ⟨B2, 112, (r_2.Terms.flatMap enc_Term), c2 * 2⟩, ⟨B3, 3, (r_2.Out.Rows.flatMap encI), c3 * 1⟩, ⟨B4, 112, (r_3.Terms.flatMap enc_Term), c4 * 2⟩, ⟨B5, 3, (r_3.Out.Rows.flatMap encI), c5 * 1⟩, ⟨some ⟨b1, 0, none⟩, 45, [.int .i64 r_3.Qubits, .int .i64 r_3.Phase, .slice B4 r_3.Terms.length c4, .slice B5 r_3.Out.Rows.length c5], 4⟩, ⟨B6, 112, (r_5.Terms.flatMap enc_Term), c6 * 2⟩, ⟨B7, 3, (r_5.Out.Rows.flatMap encI), c7 * 1⟩, ⟨some ⟨b2, 0, none⟩, 45, [.int .i64 r_5.Qubits, .int .i64 r_5.Phase, .slice B6 r_5.Terms.length c6, .slice B7 r_5.Out.Rows.length c7], 4⟩, ⟨B8, 112, (r_6.Terms.flatMap enc_Term), c8 * 2⟩, ⟨B9, 3, (r_6.Out.Rows.flatMap encI), c9 * 1⟩] [⟨B, (aP.Terms.flatMap enc_Term)⟩, ⟨B1, (aP.Out.Rows.flatMap encI)⟩] := hS10
    refine sq 27 rfl rfl (Y_move (v := .tuple #[.agg #[.int .i64 r_6.Qubits, .int .i64 r_6.Phase, .slice B8 r_6.Terms.length c8, .slice B9 r_6.Out.Rows.length c9], .bool r_7]) rfl rfl) ?_
    refine sq 30 rfl rfl (Y_extract (v := .agg #[.int .i64 r_6.Qubits, .int .i64 r_6.Phase, .slice B8 r_6.Terms.length c8, .slice B9 r_6.Out.Rows.length c9]) rfl rfl rfl) ?_
    refine sq 31 rfl rfl (Y_extract (v := .bool r_7) rfl rfl rfl) ?_
    refine ss 7 rfl rfl (Ys_alloc (T := 45) (cs := [.int .i64 0, .int .i64 0, .slice none 0 0, .slice none 0 0]) (m := 4) hS10 k_zero_45 rfl rfl rfl) ?_
    rintro _ w_10 ⟨b3, rfl, hS11⟩
    have hS11 : ST w0 [] _ [⟨some ⟨b, 0, none⟩, 38, [.int .i64 aP.Qubits, .int .i64 aP.Phase, .slice B aP.Terms.length c, .slice B1 aP.Out.Rows.length c1], 4⟩, ⟨B2, 112, (r_2.Terms.flatMap enc_Term), c2 * 2⟩, ⟨B3, 3, (r_2.Out.Rows.flatMap encI), c3 * 1⟩, ⟨B4, 112, (r_3.Terms.flatMap enc_Term), c4 * 2⟩, ⟨B5, 3, (r_3.Out.Rows.flatMap encI), c5 * 1⟩, ⟨some ⟨b1, 0, none⟩, 45, [.int .i64 r_3.Qubits, .int .i64 r_3.Phase, .slice B4 r_3.Terms.length c4, .slice B5 r_3.Out.Rows.length c5], 4⟩, ⟨B6, 112, (r_5.Terms.flatMap enc_Term), c6 * 2⟩, ⟨B7, 3, (r_5.Out.Rows.flatMap encI), c7 * 1⟩, ⟨some ⟨b2, 0, none⟩, 45, [.int .i64 r_5.Qubits, .int .i64 r_5.Phase, .slice B6 r_5.Terms.length c6, .slice B7 r_5.Out.Rows.length c7], 4⟩, ⟨B8, 112, (r_6.Terms.flatMap enc_Term), c8 * 2⟩, ⟨B9, 3, (r_6.Out.Rows.flatMap encI), c9 * 1⟩, ⟨some ⟨b3, 0, none⟩, 45, [.int .i64 0, .int .i64 0, .slice none 0 0, .slice none 0 0], 4⟩] [⟨B, (aP.Terms.flatMap enc_Term)⟩, ⟨B1, (aP.Out.Rows.flatMap encI)⟩] := hS11
    refine ss0 rfl rfl (Ys_store (i := 11) (s := 4) (B := some ⟨b3, 0, none⟩) (T' := 45) (v := .agg #[.int .i64 r_6.Qubits, .int .i64 r_6.Phase, .slice B8 r_6.Terms.length c8, .slice B9 r_6.Out.Rows.length c9]) (vs := [.int .i64 r_6.Qubits, .int .i64 r_6.Phase, .slice B8 r_6.Terms.length c8, .slice B9 r_6.Out.Rows.length c9]) (k := 0) (cs' := [.int .i64 r_6.Qubits, .int .i64 r_6.Phase, .slice B8 r_6.Terms.length c8, .slice B9 r_6.Out.Rows.length c9]) hS11 k_sz_45_4 rfl rfl rfl rfl rfl rfl rfl (Nat.le_of_ble_eq_true rfl) rfl rfl) ?_
    rintro _ w_11 ⟨rfl, hS12⟩
    have hS12 : ST w0 [] _ [⟨some ⟨b, 0, none⟩, 38, [.int .i64 aP.Qubits, .int .i64 aP.Phase, .slice B aP.Terms.length c, .slice B1 aP.Out.Rows.length c1], 4⟩, ⟨B2, 112, (r_2.Terms.flatMap enc_Term), c2 * 2⟩, ⟨B3, 3, (r_2.Out.Rows.flatMap encI), c3 * 1⟩, ⟨B4, 112, (r_3.Terms.flatMap enc_Term), c4 * 2⟩, ⟨B5, 3, (r_3.Out.Rows.flatMap encI), c5 * 1⟩, ⟨some ⟨b1, 0, none⟩, 45, [.int .i64 r_3.Qubits, .int .i64 r_3.Phase, .slice B4 r_3.Terms.length c4, .slice B5 r_3.Out.Rows.length c5], 4⟩, ⟨B6, 112, (r_5.Terms.flatMap enc_Term), c6 * 2⟩, ⟨B7, 3, (r_5.Out.Rows.flatMap encI), c7 * 1⟩, ⟨some ⟨b2, 0, none⟩, 45, [.int .i64 r_5.Qubits, .int .i64 r_5.Phase, .slice B6 r_5.Terms.length c6, .slice B7 r_5.Out.Rows.length c7], 4⟩, ⟨B8, 112, (r_6.Terms.flatMap enc_Term), c8 * 2⟩, ⟨B9, 3, (r_6.Out.Rows.flatMap encI), c9 * 1⟩, ⟨some ⟨b3, 0, none⟩, 45, [.int .i64 r_6.Qubits, .int .i64 r_6.Phase, .slice B8 r_6.Terms.length c8, .slice B9 r_6.Out.Rows.length c9], 4⟩] [⟨B, (aP.Terms.flatMap enc_Term)⟩, ⟨B1, (aP.Out.Rows.flatMap encI)⟩] := hS12
    refine sq 8 rfl rfl (Y_assign (v := .bool r_7) rfl rfl) ?_
    refine rw_nil ?_
    refine cw_seq ?_
    refine cw_seq ?_
    refine cw_region ?_
    refine sq 32 rfl rfl (Y_loadA (B := some ⟨b3, 0, none⟩) (i := 0) (cs := [.int .i64 r_6.Qubits, .int .i64 r_6.Phase, .slice B8 r_6.Terms.length c8, .slice B9 r_6.Out.Rows.length c9]) (vs := [.int .i64 r_6.Qubits, .int .i64 r_6.Phase, .slice B8 r_6.Terms.length c8, .slice B9 r_6.Out.Rows.length c9]) k_ag_45 k_sz_45_4 rfl rfl (hS12.cf (i := 11) rfl) rfl rfl) ?_
    refine sq 33 rfl rfl (Y_loadA (B := some ⟨b1, 0, none⟩) (i := 0) (cs := [.int .i64 r_3.Qubits, .int .i64 r_3.Phase, .slice B4 r_3.Terms.length c4, .slice B5 r_3.Out.Rows.length c5]) (vs := [.int .i64 r_3.Qubits, .int .i64 r_3.Phase, .slice B4 r_3.Terms.length c4, .slice B5 r_3.Out.Rows.length c5]) k_ag_45 k_sz_45_4 rfl rfl (hS12.cf (i := 5) rfl) rfl rfl) ?_
    obtain ⟨r_8, hc5, hF2⟩ := bind_inv hF2
    refine sc 34 rfl rfl (Yc_func (g := 25) (vs := [.agg #[.int .i64 r_6.Qubits, .int .i64 r_6.Phase, .slice B8 r_6.Terms.length c8, .slice B9 r_6.Out.Rows.length c9], .agg #[.int .i64 r_3.Qubits, .int .i64 r_3.Phase, .slice B4 r_3.Terms.length c4, .slice B5 r_3.Out.Rows.length c5]]) k_call_25 rfl (mc rfl (mc rfl mn)) (c_laws_eqPhasePoly r_6 r_3 B8 c8 r_6.Terms.length B9 c9 r_6.Out.Rows.length B4 c4 r_3.Terms.length B5 c5 r_3.Out.Rows.length _ rfl rfl rfl rfl (hS12.inn0 [(false, 9), (false, 10), (false, 3), (false, 4)] rfl) hc5)) ?_
    rintro _ w_12 ⟨rfl, hd5⟩
    have hS13 := hS12.out00 hd5
    have hS13 : ST w0 [] _ [⟨some ⟨b, 0, none⟩, 38, [.int .i64 aP.Qubits, .int .i64 aP.Phase, .slice B aP.Terms.length c, .slice B1 aP.Out.Rows.length c1], 4⟩, ⟨B2, 112, (r_2.Terms.flatMap enc_Term), c2 * 2⟩, ⟨B3, 3, (r_2.Out.Rows.flatMap encI), c3 * 1⟩, ⟨B4, 112, (r_3.Terms.flatMap enc_Term), c4 * 2⟩, ⟨B5, 3, (r_3.Out.Rows.flatMap encI), c5 * 1⟩, ⟨some ⟨b1, 0, none⟩, 45, [.int .i64 r_3.Qubits, .int .i64 r_3.Phase, .slice B4 r_3.Terms.length c4, .slice B5 r_3.Out.Rows.length c5], 4⟩, ⟨B6, 112, (r_5.Terms.flatMap enc_Term), c6 * 2⟩, ⟨B7, 3, (r_5.Out.Rows.flatMap encI), c7 * 1⟩, ⟨some ⟨b2, 0, none⟩, 45, [.int .i64 r_5.Qubits, .int .i64 r_5.Phase, .slice B6 r_5.Terms.length c6, .slice B7 r_5.Out.Rows.length c7], 4⟩, ⟨B8, 112, (r_6.Terms.flatMap enc_Term), c8 * 2⟩, ⟨B9, 3, (r_6.Out.Rows.flatMap encI), c9 * 1⟩, ⟨some ⟨b3, 0, none⟩, 45, [.int .i64 r_6.Qubits, .int .i64 r_6.Phase, .slice B8 r_6.Terms.length c8, .slice B9 r_6.Out.Rows.length c9], 4⟩] [⟨B, (aP.Terms.flatMap enc_Term)⟩, ⟨B1, (aP.Out.Rows.flatMap encI)⟩] := hS13
    refine sq 35 rfl rfl (Y_not (p := r_8) rfl rfl) ?_
    refine sq 36 rfl rfl (Y_move (v := .bool (!r_8)) rfl rfl) ?_
    refine sgq 37 (B := (!(!r_8))) (v := .bool r_7) rfl rfl (wt_f (gd_of (t := 36) (by kernel_rfl) rfl)) (fun hg => (Y_move (v := .bool r_7) rfl rfl)) ?_
    refine sgq 38 (B := (!(!r_8))) (v := .bool r_4) rfl rfl (wt_f (gd_of (t := 36) (by kernel_rfl) rfl)) (fun hg1 => (Y_move (v := .bool r_4) rfl rfl)) ?_
    refine sgq 39 (B := (!(!r_8))) (v := .bool (!(r_7 == r_4))) rfl rfl (wt_f (gd_of (t := 36) (by kernel_rfl) rfl)) (fun hg2 => (Y_bne (p := r_7) (q := r_4) k_und_4 rfl (gv_of (B := (!(!r_8))) (v := .bool r_7) hg2) (gv_of (B := (!(!r_8))) (v := .bool r_4) hg2))) ?_
    refine sq 40 rfl rfl (Y_or (b := (!r_8)) (z := (!(r_7 == r_4))) rfl rfl rfl rfl) ?_
    refine rw_nil ?_
    refine cw_cond (b := ((!r_8) || (!(r_7 == r_4)))) rfl (fun hb1 => ?_) (fun hb1 => ?_)
    · skip
      have hF3 := ct hF2 hb1
      refine cw_seq ?_
      refine cw_region ?_
      refine sq 2 rfl rfl (Y_assign (v := .bool false) rfl rfl) ?_
      refine rw_nil ?_
      refine cw_ret ?_
      obtain rfl := some_inj hF3
      exact ret1 Try.results13 (v1 := .bool false) (resAt_tmp rfl) ⟨rfl, (ST.subR (R' := []) (hS13.sel [] rfl rfl) (fun _ h => by cases h))⟩
    · skip
      have hF4 := cf' hF2 hb1
      refine cw_skip ?_
      refine cw_seq ?_
      refine cw_seq ?_
      obtain ⟨r_9, hc6, hF4⟩ := bind_inv hF4
      obtain ⟨r_10, hc7, hF4⟩ := bind_inv hF4
      refine ra_start (ST.sel hS13 [0, 1, 2, 3, 4, 5, 6, 7, 8, 9, 10, 11] rfl rfl).fn (by kernel_rfl) ?_
      have hS16 := hS13.drew
      refine ra_q 0 41 (v := .agg #[.int .i64 r_5.Qubits, .int .i64 r_5.Phase, .slice B6 r_5.Terms.length c6, .slice B7 r_5.Out.Rows.length c7]) rfl rfl rfl (by kernel_rfl) (by kernel_rfl) (by kernel_rfl) (ST.sel hS16 [0, 1, 2, 3, 4, 5, 6, 7, 8, 9, 10, 11] rfl rfl) (fun w' hw' => (Y_loadA (B := some ⟨b2, 0, none⟩) (i := 0) (cs := [.int .i64 r_5.Qubits, .int .i64 r_5.Phase, .slice B6 r_5.Terms.length c6, .slice B7 r_5.Out.Rows.length c7]) (vs := [.int .i64 r_5.Qubits, .int .i64 r_5.Phase, .slice B6 r_5.Terms.length c6, .slice B7 r_5.Out.Rows.length c7]) k_ag_45 k_sz_45_4 rfl rfl (ST.cf hw' (i := 8) rfl) rfl rfl)) ?_
      refine ra_q 1 42 (v := .agg #[.int .i64 aP.Qubits, .int .i64 aP.Phase, .slice B aP.Terms.length c, .slice B1 aP.Out.Rows.length c1]) rfl rfl rfl (by kernel_rfl) (by kernel_rfl) (by kernel_rfl) (ST.sel hS16 [0, 1, 2, 3, 4, 5, 6, 7, 8, 9, 10, 11] rfl rfl) (fun w' hw' => (Y_loadA (B := some ⟨b, 0, none⟩) (i := 0) (cs := [.int .i64 aP.Qubits, .int .i64 aP.Phase, .slice B aP.Terms.length c, .slice B1 aP.Out.Rows.length c1]) (vs := [.int .i64 aP.Qubits, .int .i64 aP.Phase, .slice B aP.Terms.length c, .slice B1 aP.Out.Rows.length c1]) k_ag_38 k_sz_38_4 rfl rfl (ST.cf hw' (i := 0) rfl) rfl rfl)) ?_
      refine ra_all (rs := [2]) (by kernel_rfl) rfl ?_
      refine ra_c 43 (i := 2) rfl rfl rfl (Yc_func (g := 22) (vs := [.agg #[.int .i64 aP.Qubits, .int .i64 aP.Phase, .slice B aP.Terms.length c, .slice B1 aP.Out.Rows.length c1]]) k_call_22 rfl (mc rfl mn) (c_laws_toPhasePoly aP B c aP.Terms.length B1 c1 aP.Out.Rows.length _ rfl rfl (hS16.inn0 [(true, 0), (true, 1)] rfl) hc6)) ?_ ?_
      · rintro _ w_13 ⟨B10, c10, B11, c11, rfl, hd6⟩
        have hS17 := hS16.out0 hd6
        have hS17 : ST w0 [] _ [⟨some ⟨b, 0, none⟩, 38, [.int .i64 aP.Qubits, .int .i64 aP.Phase, .slice B aP.Terms.length c, .slice B1 aP.Out.Rows.length c1], 4⟩, ⟨B2, 112, (r_2.Terms.flatMap enc_Term), c2 * 2⟩, ⟨B3, 3, (r_2.Out.Rows.flatMap encI), c3 * 1⟩, ⟨B4, 112, (r_3.Terms.flatMap enc_Term), c4 * 2⟩, ⟨B5, 3, (r_3.Out.Rows.flatMap encI), c5 * 1⟩, ⟨some ⟨b1, 0, none⟩, 45, [.int .i64 r_3.Qubits, .int .i64 r_3.Phase, .slice B4 r_3.Terms.length c4, .slice B5 r_3.Out.Rows.length c5], 4⟩, ⟨B6, 112, (r_5.Terms.flatMap enc_Term), c6 * 2⟩, ⟨B7, 3, (r_5.Out.Rows.flatMap encI), c7 * 1⟩, ⟨some ⟨b2, 0, none⟩, 45, [.int .i64 r_5.Qubits, .int .i64 r_5.Phase, .slice B6 r_5.Terms.length c6, .slice B7 r_5.Out.Rows.length c7], 4⟩, ⟨B8, 112, (r_6.Terms.flatMap enc_Term), c8 * 2⟩, ⟨B9, 3, (r_6.Out.Rows.flatMap encI), c9 * 1⟩, ⟨some ⟨b3, 0, none⟩, 45, [.int .i64 r_6.Qubits, .int .i64 r_6.Phase, .slice B8 r_6.Terms.length c8, .slice B9 r_6.Out.Rows.length c9], 4⟩, ⟨B10, 112, (r_9.Terms.flatMap enc_Term), c10 * 2⟩, ⟨B11, 3, (r_9.Out.Rows.flatMap encI), c11 * 1⟩] [⟨B, (aP.Terms.flatMap enc_Term)⟩, ⟨B1, (aP.Out.Rows.flatMap encI)⟩] := hS17
        refine ⟨(ST.sel hS17 [0, 1, 2, 3, 4, 5, 6, 7, 8, 9, 10, 11] rfl rfl), ?_⟩
        refine ra_all (rs := [3]) (by kernel_rfl) rfl ?_
        refine ra_c 44 (i := 3) rfl rfl rfl (Yc_func (g := 25) (vs := [.agg #[.int .i64 r_5.Qubits, .int .i64 r_5.Phase, .slice B6 r_5.Terms.length c6, .slice B7 r_5.Out.Rows.length c7], .agg #[.int .i64 r_9.Qubits, .int .i64 r_9.Phase, .slice B10 r_9.Terms.length c10, .slice B11 r_9.Out.Rows.length c11]]) k_call_25 rfl (mc rfl (mc rfl mn)) (c_laws_eqPhasePoly r_5 r_9 B6 c6 r_5.Terms.length B7 c7 r_5.Out.Rows.length B10 c10 r_9.Terms.length B11 c11 r_9.Out.Rows.length _ rfl rfl rfl rfl (hS17.inn0 [(false, 6), (false, 7), (false, 12), (false, 13)] rfl) hc7)) ?_ ?_
        · rintro _ w_14 ⟨rfl, hd7⟩
          have hS18 := hS17.out00 hd7
          have hS18 : ST w0 [] _ [⟨some ⟨b, 0, none⟩, 38, [.int .i64 aP.Qubits, .int .i64 aP.Phase, .slice B aP.Terms.length c, .slice B1 aP.Out.Rows.length c1], 4⟩, ⟨B2, 112, (r_2.Terms.flatMap enc_Term), c2 * 2⟩, ⟨B3, 3, (r_2.Out.Rows.flatMap encI), c3 * 1⟩, ⟨B4, 112, (r_3.Terms.flatMap enc_Term), c4 * 2⟩, ⟨B5, 3, (r_3.Out.Rows.flatMap encI), c5 * 1⟩, ⟨some ⟨b1, 0, none⟩, 45, [.int .i64 r_3.Qubits, .int .i64 r_3.Phase, .slice B4 r_3.Terms.length c4, .slice B5 r_3.Out.Rows.length c5], 4⟩, ⟨B6, 112, (r_5.Terms.flatMap enc_Term), c6 * 2⟩, ⟨B7, 3, (r_5.Out.Rows.flatMap encI), c7 * 1⟩, ⟨some ⟨b2, 0, none⟩, 45, [.int .i64 r_5.Qubits, .int .i64 r_5.Phase, .slice B6 r_5.Terms.length c6, .slice B7 r_5.Out.Rows.length c7], 4⟩, ⟨B8, 112, (r_6.Terms.flatMap enc_Term), c8 * 2⟩, ⟨B9, 3, (r_6.Out.Rows.flatMap encI), c9 * 1⟩, ⟨some ⟨b3, 0, none⟩, 45, [.int .i64 r_6.Qubits, .int .i64 r_6.Phase, .slice B8 r_6.Terms.length c8, .slice B9 r_6.Out.Rows.length c9], 4⟩, ⟨B10, 112, (r_9.Terms.flatMap enc_Term), c10 * 2⟩, ⟨B11, 3, (r_9.Out.Rows.flatMap encI), c11 * 1⟩] [⟨B, (aP.Terms.flatMap enc_Term)⟩, ⟨B1, (aP.Out.Rows.flatMap encI)⟩] := hS18
          refine ⟨(ST.sel hS18 [0, 1, 2, 3, 4, 5, 6, 7, 8, 9, 10, 11] rfl rfl), ?_⟩
          refine ra_q 4 45 (v := .bool (!r_10)) rfl rfl rfl (by kernel_rfl) (by kernel_rfl) (by kernel_rfl) (ST.sel hS18 [0, 1, 2, 3, 4, 5, 6, 7, 8, 9, 10, 11] rfl rfl) (fun w' hw' => (Y_not (p := r_10) rfl rfl)) ?_
          refine ra_done (by kernel_rfl) ?_
          refine cw_cond (b := (!r_10)) rfl (fun hb2 => ?_) (fun hb2 => ?_)
          · skip
            have hF5 := ct hF4 hb2
            refine cw_seq ?_
            refine cw_region ?_
            refine sq 2 rfl rfl (Y_assign (v := .bool false) rfl rfl) ?_
            refine rw_nil ?_
            refine cw_ret ?_
            obtain rfl := some_inj hF5
            exact ret1 Try.results13 (v1 := .bool false) (resAt_tmp rfl) ⟨rfl, (ST.subR (R' := []) (hS18.sel [] rfl rfl) (fun _ h => by cases h))⟩
          · skip
            have hF6 := cf' hF4 hb2
            refine cw_skip ?_
            refine cw_seq ?_
            refine cw_region ?_
            refine sq 9 rfl rfl (Y_assign (v := .int .i64 1) rfl rfl) ?_
            refine rw_nil ?_
            refine cw_seq ?_
            refine cw_region ?_
            refine sq 46 rfl rfl (Y_loadA (B := some ⟨b2, 0, none⟩) (i := 0) (cs := [.int .i64 r_5.Qubits, .int .i64 r_5.Phase, .slice B6 r_5.Terms.length c6, .slice B7 r_5.Out.Rows.length c7]) (vs := [.int .i64 r_5.Qubits, .int .i64 r_5.Phase, .slice B6 r_5.Terms.length c6, .slice B7 r_5.Out.Rows.length c7]) k_ag_45 k_sz_45_4 rfl rfl (hS18.cf (i := 8) rfl) rfl rfl) ?_
            refine sq 47 rfl rfl (Y_move (v := .int .i64 1) rfl rfl) ?_
            obtain ⟨⟨r_11, m, m1⟩, hc8, hF6⟩ := bind_inv hF6
            refine sc 48 rfl rfl (Yc_func (g := 26) (vs := [.agg #[.int .i64 r_5.Qubits, .int .i64 r_5.Phase, .slice B6 r_5.Terms.length c6, .slice B7 r_5.Out.Rows.length c7], .int .i64 1]) k_call_26 rfl (mc rfl (mc rfl mn)) (c_laws_markPhasePoly r_5 1 B6 c6 r_5.Terms.length B7 c7 r_5.Out.Rows.length _ rfl rfl (hS18.inn [false, false, false, false, false, false, true, true, false, false, false, false, false, false] rfl [] rfl) hc8)) ?_
            rintro _ w_15 ⟨rfl, hl, hl1, hd8⟩
            have hS19 := hS18.out [false, false, false, false, false, false, true, true, false, false, false, false, false, false] rfl hd8
            have hS19 : ST w0 [] _ [⟨some ⟨b, 0, none⟩, 38, [.int .i64 aP.Qubits, .int .i64 aP.Phase, .slice B aP.Terms.length c, .slice B1 aP.Out.Rows.length c1], 4⟩, ⟨B2, 112, (r_2.Terms.flatMap enc_Term), c2 * 2⟩, ⟨B3, 3, (r_2.Out.Rows.flatMap encI), c3 * 1⟩, ⟨B4, 112, (r_3.Terms.flatMap enc_Term), c4 * 2⟩, ⟨B5, 3, (r_3.Out.Rows.flatMap encI), c5 * 1⟩, ⟨some ⟨b1, 0, none⟩, 45, [.int .i64 r_3.Qubits, .int .i64 r_3.Phase, .slice B4 r_3.Terms.length c4, .slice B5 r_3.Out.Rows.length c5], 4⟩, ⟨some ⟨b2, 0, none⟩, 45, [.int .i64 r_5.Qubits, .int .i64 r_5.Phase, .slice B6 r_5.Terms.length c6, .slice B7 r_5.Out.Rows.length c7], 4⟩, ⟨B8, 112, (r_6.Terms.flatMap enc_Term), c8 * 2⟩, ⟨B9, 3, (r_6.Out.Rows.flatMap encI), c9 * 1⟩, ⟨some ⟨b3, 0, none⟩, 45, [.int .i64 r_6.Qubits, .int .i64 r_6.Phase, .slice B8 r_6.Terms.length c8, .slice B9 r_6.Out.Rows.length c9], 4⟩, ⟨B10, 112, (r_9.Terms.flatMap enc_Term), c10 * 2⟩, ⟨B11, 3, (r_9.Out.Rows.flatMap encI), c11 * 1⟩, ⟨B6, 112, (m.flatMap enc_Term), c6 * 2⟩, ⟨B7, 3, (m1.flatMap encI), c7 * 1⟩] [⟨B, (aP.Terms.flatMap enc_Term)⟩, ⟨B1, (aP.Out.Rows.flatMap encI)⟩] := hS19
            refine sq 9 rfl rfl (Y_assign (v := .int .i64 r_11) rfl rfl) ?_
            refine rw_nil ?_
            refine cw_seq ?_
            refine cw_seq ?_
            refine cw_region ?_
            refine sq 49 rfl rfl (Y_move (v := .int .i64 r_11) rfl rfl) ?_
            refine sq 50 rfl rfl (Y_lt (k := .i64) (a := r_11) (b := 0) rfl rfl rfl) ?_
            refine sq 51 rfl rfl (Y_move (v := .bool (decide (r_11 < 0))) rfl rfl) ?_
            refine sgq 52 (B := (!(decide (r_11 < 0)))) (v := .agg #[.int .i64 r_6.Qubits, .int .i64 r_6.Phase, .slice B8 r_6.Terms.length c8, .slice B9 r_6.Out.Rows.length c9]) rfl rfl (wt_f (gd_of (t := 51) (by kernel_rfl) rfl)) (fun hg3 => (Y_loadA (B := some ⟨b3, 0, none⟩) (i := 0) (cs := [.int .i64 r_6.Qubits, .int .i64 r_6.Phase, .slice B8 r_6.Terms.length c8, .slice B9 r_6.Out.Rows.length c9]) (vs := [.int .i64 r_6.Qubits, .int .i64 r_6.Phase, .slice B8 r_6.Terms.length c8, .slice B9 r_6.Out.Rows.length c9]) k_ag_45 k_sz_45_4 rfl rfl (hS19.cf (i := 9) rfl) rfl rfl)) ?_
            refine sgq 53 (B := (!(decide (r_11 < 0)))) (v := .agg #[.int .i64 r_3.Qubits, .int .i64 r_3.Phase, .slice B4 r_3.Terms.length c4, .slice B5 r_3.Out.Rows.length c5]) rfl rfl (wt_f (gd_of (t := 51) (by kernel_rfl) rfl)) (fun hg4 => (Y_loadA (B := some ⟨b1, 0, none⟩) (i := 0) (cs := [.int .i64 r_3.Qubits, .int .i64 r_3.Phase, .slice B4 r_3.Terms.length c4, .slice B5 r_3.Out.Rows.length c5]) (vs := [.int .i64 r_3.Qubits, .int .i64 r_3.Phase, .slice B4 r_3.Terms.length c4, .slice B5 r_3.Out.Rows.length c5]) k_ag_45 k_sz_45_4 rfl rfl (hS19.cf (i := 5) rfl) rfl rfl)) ?_
            obtain ⟨r_12, hc9, hF6⟩ := bind_inv hF6
            refine sgc 54 (B := (!(decide (r_11 < 0)))) (v := .bool r_12) (F := hS19.fn) rfl rfl (wt_f (gd_of (t := 51) (by kernel_rfl) rfl)) hS19 (fun hg5 => (Yc_func (g := 25) (vs := [.agg #[.int .i64 r_6.Qubits, .int .i64 r_6.Phase, .slice B8 r_6.Terms.length c8, .slice B9 r_6.Out.Rows.length c9], .agg #[.int .i64 r_3.Qubits, .int .i64 r_3.Phase, .slice B4 r_3.Terms.length c4, .slice B5 r_3.Out.Rows.length c5]]) k_call_25 rfl (mc (gv_of (B := (!(decide (r_11 < 0)))) (v := .agg #[.int .i64 r_6.Qubits, .int .i64 r_6.Phase, .slice B8 r_6.Terms.length c8, .slice B9 r_6.Out.Rows.length c9]) hg5) (mc (gv_of (B := (!(decide (r_11 < 0)))) (v := .agg #[.int .i64 r_3.Qubits, .int .i64 r_3.Phase, .slice B4 r_3.Terms.length c4, .slice B5 r_3.Out.Rows.length c5]) hg5) mn)) (CV.mono (c_laws_eqPhasePoly r_6 r_3 B8 c8 r_6.Terms.length B9 c9 r_6.Out.Rows.length B4 c4 r_3.Terms.length B5 c5 r_3.Out.Rows.length _ rfl rfl rfl rfl (hS19.inn0 [(false, 7), (false, 8), (false, 3), (false, 4)] rfl) (gb_inv hc9 hg5)) (by rintro _ _ ⟨rfl, h⟩; exact ⟨rfl, hS19.out00 h⟩)))) ?_
            rintro w_16 hS20
            have hS20 : ST _ _ w_16 _ _ := hS20
            refine sgq 55 (B := (!(decide (r_11 < 0)))) (v := .bool (!r_12)) rfl rfl (wt_f (gd_of (t := 51) (by kernel_rfl) rfl)) (fun hg6 => (Y_not (p := r_12) rfl (gv_of (B := (!(decide (r_11 < 0)))) (v := .bool r_12) hg6))) ?_
            refine sq 56 rfl rfl (Y_or (b := (decide (r_11 < 0))) (z := (!r_12)) rfl rfl rfl rfl) ?_
            refine sq 57 rfl rfl (Y_move (v := .bool ((decide (r_11 < 0)) || (!r_12))) rfl rfl) ?_
            refine sgq 58 (B := (!((decide (r_11 < 0)) || (!r_12)))) (v := .bool r_7) rfl rfl (wt_f (gd_of (t := 57) (by kernel_rfl) rfl)) (fun hg7 => (Y_move (v := .bool r_7) rfl rfl)) ?_
            refine sgq 59 (B := (!((decide (r_11 < 0)) || (!r_12)))) (v := .bool r_4) rfl rfl (wt_f (gd_of (t := 57) (by kernel_rfl) rfl)) (fun hg8 => (Y_move (v := .bool r_4) rfl rfl)) ?_
            refine sgq 60 (B := (!((decide (r_11 < 0)) || (!r_12)))) (v := .bool (!(r_7 == r_4))) rfl rfl (wt_f (gd_of (t := 57) (by kernel_rfl) rfl)) (fun hg9 => (Y_bne (p := r_7) (q := r_4) k_und_4 rfl (gv_of (B := (!((decide (r_11 < 0)) || (!r_12)))) (v := .bool r_7) hg9) (gv_of (B := (!((decide (r_11 < 0)) || (!r_12)))) (v := .bool r_4) hg9))) ?_
            refine sq 61 rfl rfl (Y_or (b := ((decide (r_11 < 0)) || (!r_12))) (z := (!(r_7 == r_4))) rfl rfl rfl rfl) ?_
            refine rw_nil ?_
            refine cw_cond (b := (((decide (r_11 < 0)) || (!r_12)) || (!(r_7 == r_4)))) rfl (fun hb3 => ?_) (fun hb3 => ?_)
            · skip
              have hF7 := ct hF6 hb3
              refine cw_seq ?_
              refine cw_region ?_
              refine sq 2 rfl rfl (Y_assign (v := .bool false) rfl rfl) ?_
              refine rw_nil ?_
              refine cw_ret ?_
              obtain rfl := some_inj hF7
              exact ret1 Try.results13 (v1 := .bool false) (resAt_tmp rfl) ⟨rfl, (ST.subR (R' := []) (hS20.sel [] rfl rfl) (fun _ h => by cases h))⟩
            · skip
              have hF8 := cf' hF6 hb3
              refine cw_skip ?_
              refine cw_seq ?_
              refine cw_region ?_
              refine sq 10 rfl rfl (Y_assign (v := .int .i64 1) rfl rfl) ?_
              refine rw_nil ?_
              refine cw_seq ?_
              refine cw_region ?_
              refine sq 62 rfl rfl (Y_loadA (B := some ⟨b3, 0, none⟩) (i := 0) (cs := [.int .i64 r_6.Qubits, .int .i64 r_6.Phase, .slice B8 r_6.Terms.length c8, .slice B9 r_6.Out.Rows.length c9]) (vs := [.int .i64 r_6.Qubits, .int .i64 r_6.Phase, .slice B8 r_6.Terms.length c8, .slice B9 r_6.Out.Rows.length c9]) k_ag_45 k_sz_45_4 rfl rfl (hS20.cf (i := 9) rfl) rfl rfl) ?_
              refine sq 63 rfl rfl (Y_move (v := .int .i64 1) rfl rfl) ?_
              obtain ⟨⟨r_13, m2, m3⟩, hc10, hF8⟩ := bind_inv hF8
              refine sc 64 rfl rfl (Yc_func (g := 26) (vs := [.agg #[.int .i64 r_6.Qubits, .int .i64 r_6.Phase, .slice B8 r_6.Terms.length c8, .slice B9 r_6.Out.Rows.length c9], .int .i64 1]) k_call_26 rfl (mc rfl (mc rfl mn)) (c_laws_markPhasePoly r_6 1 B8 c8 r_6.Terms.length B9 c9 r_6.Out.Rows.length _ rfl rfl (hS20.inn [false, false, false, false, false, false, false, true, true, false, false, false, false, false] rfl [] rfl) hc10)) ?_
              rintro _ w_17 ⟨rfl, hl2, hl3, hd9⟩
              have hS21 := hS20.out [false, false, false, false, false, false, false, true, true, false, false, false, false, false] rfl hd9
              have hS21 : ST w0 [] _ [⟨some ⟨b, 0, none⟩, 38, [.int .i64 aP.Qubits, .int .i64 aP.Phase, .slice B aP.Terms.length c, .slice B1 aP.Out.Rows.length c1], 4⟩, ⟨B2, 112, (r_2.Terms.flatMap enc_Term), c2 * 2⟩, ⟨B3, 3, (r_2.Out.Rows.flatMap encI), c3 * 1⟩, ⟨B4, 112, (r_3.Terms.flatMap enc_Term), c4 * 2⟩, ⟨B5, 3, (r_3.Out.Rows.flatMap encI), c5 * 1⟩, ⟨some ⟨b1, 0, none⟩, 45, [.int .i64 r_3.Qubits, .int .i64 r_3.Phase, .slice B4 r_3.Terms.length c4, .slice B5 r_3.Out.Rows.length c5], 4⟩, ⟨some ⟨b2, 0, none⟩, 45, [.int .i64 r_5.Qubits, .int .i64 r_5.Phase, .slice B6 r_5.Terms.length c6, .slice B7 r_5.Out.Rows.length c7], 4⟩, ⟨some ⟨b3, 0, none⟩, 45, [.int .i64 r_6.Qubits, .int .i64 r_6.Phase, .slice B8 r_6.Terms.length c8, .slice B9 r_6.Out.Rows.length c9], 4⟩, ⟨B10, 112, (r_9.Terms.flatMap enc_Term), c10 * 2⟩, ⟨B11, 3, (r_9.Out.Rows.flatMap encI), c11 * 1⟩, ⟨B6, 112, (m.flatMap enc_Term), c6 * 2⟩, ⟨B7, 3, (m1.flatMap encI), c7 * 1⟩, ⟨B8, 112, (m2.flatMap enc_Term), c8 * 2⟩, ⟨B9, 3, (m3.flatMap encI), c9 * 1⟩] [⟨B, (aP.Terms.flatMap enc_Term)⟩, ⟨B1, (aP.Out.Rows.flatMap encI)⟩] := hS21
              refine sq 10 rfl rfl (Y_assign (v := .int .i64 r_13) rfl rfl) ?_
              refine rw_nil ?_
              refine cw_seq ?_
              refine cw_region ?_
              refine sq 11 rfl rfl (Y_assign (v := .int .i64 1) rfl rfl) ?_
              refine rw_nil ?_
              refine cw_seq ?_
              refine cw_region ?_
              refine sq 65 rfl rfl (Y_loadA (B := some ⟨b3, 0, none⟩) (i := 0) (cs := [.int .i64 r_6.Qubits, .int .i64 r_6.Phase, .slice B8 r_6.Terms.length c8, .slice B9 r_6.Out.Rows.length c9]) (vs := [.int .i64 r_6.Qubits, .int .i64 r_6.Phase, .slice B8 r_6.Terms.length c8, .slice B9 r_6.Out.Rows.length c9]) k_ag_45 k_sz_45_4 rfl rfl (hS21.cf (i := 7) rfl) rfl rfl) ?_
              refine sq 66 rfl rfl (Y_move (v := .int .i64 1) rfl rfl) ?_
              obtain ⟨r_14, hc11, hF8⟩ := bind_inv hF8
              refine sc 67 rfl rfl (Yc_func (g := 33) (vs := [.agg #[.int .i64 r_6.Qubits, .int .i64 r_6.Phase, .slice B8 r_6.Terms.length c8, .slice B9 r_6.Out.Rows.length c9], .int .i64 1]) k_call_33 rfl (mc rfl (mc rfl mn)) (c_laws_heldPhasePoly (TPhasePoly.mk r_6.Qubits r_6.Phase m2 (TLinear.mk m3)) 1 B8 c8 r_6.Terms.length B9 c9 r_6.Out.Rows.length _ hl2 hl3 (hS21.inn0 [(false, 12), (false, 13)] rfl) hc11)) ?_
              rintro _ w_18 ⟨rfl, hd10⟩
              have hS22 := hS21.out00 hd10
              have hS22 : ST w0 [] _ [⟨some ⟨b, 0, none⟩, 38, [.int .i64 aP.Qubits, .int .i64 aP.Phase, .slice B aP.Terms.length c, .slice B1 aP.Out.Rows.length c1], 4⟩, ⟨B2, 112, (r_2.Terms.flatMap enc_Term), c2 * 2⟩, ⟨B3, 3, (r_2.Out.Rows.flatMap encI), c3 * 1⟩, ⟨B4, 112, (r_3.Terms.flatMap enc_Term), c4 * 2⟩, ⟨B5, 3, (r_3.Out.Rows.flatMap encI), c5 * 1⟩, ⟨some ⟨b1, 0, none⟩, 45, [.int .i64 r_3.Qubits, .int .i64 r_3.Phase, .slice B4 r_3.Terms.length c4, .slice B5 r_3.Out.Rows.length c5], 4⟩, ⟨some ⟨b2, 0, none⟩, 45, [.int .i64 r_5.Qubits, .int .i64 r_5.Phase, .slice B6 r_5.Terms.length c6, .slice B7 r_5.Out.Rows.length c7], 4⟩, ⟨some ⟨b3, 0, none⟩, 45, [.int .i64 r_6.Qubits, .int .i64 r_6.Phase, .slice B8 r_6.Terms.length c8, .slice B9 r_6.Out.Rows.length c9], 4⟩, ⟨B10, 112, (r_9.Terms.flatMap enc_Term), c10 * 2⟩, ⟨B11, 3, (r_9.Out.Rows.flatMap encI), c11 * 1⟩, ⟨B6, 112, (m.flatMap enc_Term), c6 * 2⟩, ⟨B7, 3, (m1.flatMap encI), c7 * 1⟩, ⟨B8, 112, (m2.flatMap enc_Term), c8 * 2⟩, ⟨B9, 3, (m3.flatMap encI), c9 * 1⟩] [⟨B, (aP.Terms.flatMap enc_Term)⟩, ⟨B1, (aP.Out.Rows.flatMap encI)⟩] := hS22
              refine sq 11 rfl rfl (Y_assign (v := .int .i64 r_14) rfl rfl) ?_
              refine rw_nil ?_
              refine cw_seq ?_
              refine cw_seq ?_
              refine cw_region ?_
              refine sq 68 rfl rfl (Y_move (v := .int .i64 r_14) rfl rfl) ?_
              refine sq 69 rfl rfl (Y_lt (k := .i64) (a := r_14) (b := 0) rfl rfl rfl) ?_
              refine rw_nil ?_
              refine cw_cond (b := (decide (r_14 < 0))) rfl (fun hb4 => ?_) (fun hb4 => ?_)
              · skip
                have hF9 := ct hF8 hb4
                refine cw_seq ?_
                refine cw_region ?_
                refine sq 2 rfl rfl (Y_assign (v := .bool false) rfl rfl) ?_
                refine rw_nil ?_
                refine cw_ret ?_
                obtain rfl := some_inj hF9
                exact ret1 Try.results13 (v1 := .bool false) (resAt_tmp rfl) ⟨rfl, (ST.subR (R' := []) (hS22.sel [] rfl rfl) (fun _ h => by cases h))⟩
              · skip
                have hF10 := cf' hF8 hb4
                refine cw_skip ?_
                refine cw_seq ?_
                refine cw_seq ?_
                refine cw_region ?_
                refine sq 70 rfl rfl (Y_move (v := .int .i64 r_14) rfl rfl) ?_
                refine sq 71 rfl rfl (Y_move (v := .int .i64 r_13) rfl rfl) ?_
                refine sq 72 rfl rfl (Y_ne (k := .i64) (a := r_14) (b := r_13) rfl rfl rfl) ?_
                refine rw_nil ?_
                refine cw_cond (b := (r_14 != r_13)) rfl (fun hb5 => ?_) (fun hb5 => ?_)
                · skip
                  have hF11 := ct hF10 hb5
                  refine cw_seq ?_
                  refine cw_region ?_
                  refine sq 2 rfl rfl (Y_assign (v := .bool false) rfl rfl) ?_
                  refine rw_nil ?_
                  refine cw_ret ?_
                  obtain rfl := some_inj hF11
                  exact ret1 Try.results13 (v1 := .bool false) (resAt_tmp rfl) ⟨rfl, (ST.subR (R' := []) (hS22.sel [] rfl rfl) (fun _ h => by cases h))⟩
                · skip
                  have hF12 := cf' hF10 hb5
                  refine cw_skip ?_
                  refine cw_seq ?_
                  refine cw_region ?_
                  refine sq 74 rfl rfl (Y_loadA (B := some ⟨b, 0, none⟩) (i := 0) (cs := [.int .i64 aP.Qubits, .int .i64 aP.Phase, .slice B aP.Terms.length c, .slice B1 aP.Out.Rows.length c1]) (vs := [.int .i64 aP.Qubits, .int .i64 aP.Phase, .slice B aP.Terms.length c, .slice B1 aP.Out.Rows.length c1]) k_ag_38 k_sz_38_4 rfl rfl (hS22.cf (i := 0) rfl) rfl rfl) ?_
                  obtain ⟨r_15, hc12, hF12⟩ := bind_inv hF12
                  refine sc 75 rfl rfl (Yc_func (g := 22) (vs := [.agg #[.int .i64 aP.Qubits, .int .i64 aP.Phase, .slice B aP.Terms.length c, .slice B1 aP.Out.Rows.length c1]]) k_call_22 rfl (mc rfl mn) (c_laws_toPhasePoly aP B c aP.Terms.length B1 c1 aP.Out.Rows.length _ rfl rfl (hS22.inn0 [(true, 0), (true, 1)] rfl) hc12)) ?_
                  rintro _ w_19 ⟨B12, c12, B13, c13, rfl, hd11⟩
                  have hS23 := hS22.out0 hd11
                  have hS23 : ST w0 [] _ [⟨some ⟨b, 0, none⟩, 38, [.int .i64 aP.Qubits, .int .i64 aP.Phase, .slice B aP.Terms.length c, .slice B1 aP.Out.Rows.length c1], 4⟩, ⟨B2, 112, (r_2.Terms.flatMap enc_Term), c2 * 2⟩, ⟨B3, 3, (r_2.Out.Rows.flatMap encI), c3 * 1⟩, ⟨B4, 112, (r_3.Terms.flatMap enc_Term), c4 * 2⟩, ⟨B5, 3, (r_3.Out.Rows.flatMap encI), c5 * 1⟩, ⟨some ⟨b1, 0, none⟩, 45, [.int .i64 r_3.Qubits, .int .i64 r_3.Phase, .slice B4 r_3.Terms.length c4, .slice B5 r_3.Out.Rows.length c5], 4⟩, ⟨some ⟨b2, 0, none⟩, 45, [.int .i64 r_5.Qubits, .int .i64 r_5.Phase, .slice B6 r_5.Terms.length c6, .slice B7 r_5.Out.Rows.length c7], 4⟩, ⟨some ⟨b3, 0, none⟩, 45, [.int .i64 r_6.Qubits, .int .i64 r_6.Phase, .slice B8 r_6.Terms.length c8, .slice B9 r_6.Out.Rows.length c9], 4⟩, ⟨B10, 112, (r_9.Terms.flatMap enc_Term), c10 * 2⟩, ⟨B11, 3, (r_9.Out.Rows.flatMap encI), c11 * 1⟩, ⟨B6, 112, (m.flatMap enc_Term), c6 * 2⟩, ⟨B7, 3, (m1.flatMap encI), c7 * 1⟩, ⟨B8, 112, (m2.flatMap enc_Term), c8 * 2⟩, ⟨B9, 3, (m3.flatMap encI), c9 * 1⟩, ⟨B12, 112, (r_15.Terms.flatMap enc_Term), c12 * 2⟩, ⟨B13, 3, (r_15.Out.Rows.flatMap encI), c13 * 1⟩] [⟨B, (aP.Terms.flatMap enc_Term)⟩, ⟨B1, (aP.Out.Rows.flatMap encI)⟩] := hS23
                  obtain ⟨⟨r_16, r_17⟩, hc13, hF12⟩ := bind_inv hF12
                  refine sc 76 rfl rfl (Yc_func (g := 55) (vs := [.agg #[.int .i64 r_15.Qubits, .int .i64 r_15.Phase, .slice B12 r_15.Terms.length c12, .slice B13 r_15.Out.Rows.length c13]]) k_call_55 rfl (mc rfl mn) (c_impl_InvertPhase r_15 B12 c12 r_15.Terms.length B13 c13 r_15.Out.Rows.length _ rfl rfl (hS23.inn0 [(false, 14), (false, 15)] rfl) hc13)) ?_
                  rintro _ w_20 ⟨B14, c14, B15, c15, rfl, hd12⟩
                  have hS24 := hS23.out0 hd12
                  have hS24 : ST w0 [] _ [⟨some ⟨b, 0, none⟩, 38, [.int .i64 aP.Qubits, .int .i64 aP.Phase, .slice B aP.Terms.length c, .slice B1 aP.Out.Rows.length c1], 4⟩, ⟨B2, 112, (r_2.Terms.flatMap enc_Term), c2 * 2⟩, ⟨B3, 3, (r_2.Out.Rows.flatMap encI), c3 * 1⟩, ⟨B4, 112, (r_3.Terms.flatMap enc_Term), c4 * 2⟩, ⟨B5, 3, (r_3.Out.Rows.flatMap encI), c5 * 1⟩, ⟨some ⟨b1, 0, none⟩, 45, [.int .i64 r_3.Qubits, .int .i64 r_3.Phase, .slice B4 r_3.Terms.length c4, .slice B5 r_3.Out.Rows.length c5], 4⟩, ⟨some ⟨b2, 0, none⟩, 45, [.int .i64 r_5.Qubits, .int .i64 r_5.Phase, .slice B6 r_5.Terms.length c6, .slice B7 r_5.Out.Rows.length c7], 4⟩, ⟨some ⟨b3, 0, none⟩, 45, [.int .i64 r_6.Qubits, .int .i64 r_6.Phase, .slice B8 r_6.Terms.length c8, .slice B9 r_6.Out.Rows.length c9], 4⟩, ⟨B10, 112, (r_9.Terms.flatMap enc_Term), c10 * 2⟩, ⟨B11, 3, (r_9.Out.Rows.flatMap encI), c11 * 1⟩, ⟨B6, 112, (m.flatMap enc_Term), c6 * 2⟩, ⟨B7, 3, (m1.flatMap encI), c7 * 1⟩, ⟨B8, 112, (m2.flatMap enc_Term), c8 * 2⟩, ⟨B9, 3, (m3.flatMap encI), c9 * 1⟩, ⟨B12, 112, (r_15.Terms.flatMap enc_Term), c12 * 2⟩, ⟨B13, 3, (r_15.Out.Rows.flatMap encI), c13 * 1⟩, ⟨B14, 112, (r_16.Terms.flatMap enc_Term), c14 * 2⟩, ⟨B15, 3, (r_16.Out.Rows.flatMap encI), c15 * 1⟩] [⟨B, (aP.Terms.flatMap enc_Term)⟩, ⟨B1, (aP.Out.Rows.flatMap encI)⟩] := hS24
                  refine sq 73 rfl rfl (Y_move (v := .tuple #[.agg #[.int .i64 r_16.Qubits, .int .i64 r_16.Phase, .slice B14 r_16.Terms.length c14, .slice B15 r_16.Out.Rows.length c15], .bool r_17]) rfl rfl) ?_
                  refine sq 77 rfl rfl (Y_extract (v := .agg #[.int .i64 r_16.Qubits, .int .i64 r_16.Phase, .slice B14 r_16.Terms.length c14, .slice B15 r_16.Out.Rows.length c15]) rfl rfl rfl) ?_
                  refine sq 78 rfl rfl (Y_extract (v := .bool r_17) rfl rfl rfl) ?_
                  refine ss 12 rfl rfl (Ys_alloc (T := 45) (cs := [.int .i64 0, .int .i64 0, .slice none 0 0, .slice none 0 0]) (m := 4) hS24 k_zero_45 rfl rfl rfl) ?_
                  rintro _ w_21 ⟨b4, rfl, hS25⟩
                  have hS25 : ST w0 [] _ [⟨some ⟨b, 0, none⟩, 38, [.int .i64 aP.Qubits, .int .i64 aP.Phase, .slice B aP.Terms.length c, .slice B1 aP.Out.Rows.length c1], 4⟩, ⟨B2, 112, (r_2.Terms.flatMap enc_Term), c2 * 2⟩, ⟨B3, 3, (r_2.Out.Rows.flatMap encI), c3 * 1⟩, ⟨B4, 112, (r_3.Terms.flatMap enc_Term), c4 * 2⟩, ⟨B5, 3, (r_3.Out.Rows.flatMap encI), c5 * 1⟩, ⟨some ⟨b1, 0, none⟩, 45, [.int .i64 r_3.Qubits, .int .i64 r_3.Phase, .slice B4 r_3.Terms.length c4, .slice B5 r_3.Out.Rows.length c5], 4⟩, ⟨some ⟨b2, 0, none⟩, 45, [.int .i64 r_5.Qubits, .int .i64 r_5.Phase, .slice B6 r_5.Terms.length c6, .slice B7 r_5.Out.Rows.length c7], 4⟩, ⟨some ⟨b3, 0, none⟩, 45, [.int .i64 r_6.Qubits, .int .i64 r_6.Phase, .slice B8 r_6.Terms.length c8, .slice B9 r_6.Out.Rows.length c9], 4⟩, ⟨B10, 112, (r_9.Terms.flatMap enc_Term), c10 * 2⟩, ⟨B11, 3, (r_9.Out.Rows.flatMap encI), c11 * 1⟩, ⟨B6, 112, (m.flatMap enc_Term), c6 * 2⟩, ⟨B7, 3, (m1.flatMap encI), c7 * 1⟩, ⟨B8, 112, (m2.flatMap enc_Term), c8 * 2⟩, ⟨B9, 3, (m3.flatMap encI), c9 * 1⟩, ⟨B12, 112, (r_15.Terms.flatMap enc_Term), c12 * 2⟩, ⟨B13, 3, (r_15.Out.Rows.flatMap encI), c13 * 1⟩, ⟨B14, 112, (r_16.Terms.flatMap enc_Term), c14 * 2⟩, ⟨B15, 3, (r_16.Out.Rows.flatMap encI), c15 * 1⟩, ⟨some ⟨b4, 0, none⟩, 45, [.int .i64 0, .int .i64 0, .slice none 0 0, .slice none 0 0], 4⟩] [⟨B, (aP.Terms.flatMap enc_Term)⟩, ⟨B1, (aP.Out.Rows.flatMap encI)⟩] := hS25
                  refine ss0 rfl rfl (Ys_store (i := 18) (s := 4) (B := some ⟨b4, 0, none⟩) (T' := 45) (v := .agg #[.int .i64 r_16.Qubits, .int .i64 r_16.Phase, .slice B14 r_16.Terms.length c14, .slice B15 r_16.Out.Rows.length c15]) (vs := [.int .i64 r_16.Qubits, .int .i64 r_16.Phase, .slice B14 r_16.Terms.length c14, .slice B15 r_16.Out.Rows.length c15]) (k := 0) (cs' := [.int .i64 r_16.Qubits, .int .i64 r_16.Phase, .slice B14 r_16.Terms.length c14, .slice B15 r_16.Out.Rows.length c15]) hS25 k_sz_45_4 rfl rfl rfl rfl rfl rfl rfl (Nat.le_of_ble_eq_true rfl) rfl rfl) ?_
                  rintro _ w_22 ⟨rfl, hS26⟩
                  have hS26 : ST w0 [] _ [⟨some ⟨b, 0, none⟩, 38, [.int .i64 aP.Qubits, .int .i64 aP.Phase, .slice B aP.Terms.length c, .slice B1 aP.Out.Rows.length c1], 4⟩, ⟨B2, 112, (r_2.Terms.flatMap enc_Term), c2 * 2⟩, ⟨B3, 3, (r_2.Out.Rows.flatMap encI), c3 * 1⟩, ⟨B4, 112, (r_3.Terms.flatMap enc_Term), c4 * 2⟩, ⟨B5, 3, (r_3.Out.Rows.flatMap encI), c5 * 1⟩, ⟨some ⟨b1, 0, none⟩, 45, [.int .i64 r_3.Qubits, .int .i64 r_3.Phase, .slice B4 r_3.Terms.length c4, .slice B5 r_3.Out.Rows.length c5], 4⟩, ⟨some ⟨b2, 0, none⟩, 45, [.int .i64 r_5.Qubits, .int .i64 r_5.Phase, .slice B6 r_5.Terms.length c6, .slice B7 r_5.Out.Rows.length c7], 4⟩, ⟨some ⟨b3, 0, none⟩, 45, [.int .i64 r_6.Qubits, .int .i64 r_6.Phase, .slice B8 r_6.Terms.length c8, .slice B9 r_6.Out.Rows.length c9], 4⟩, ⟨B10, 112, (r_9.Terms.flatMap enc_Term), c10 * 2⟩, ⟨B11, 3, (r_9.Out.Rows.flatMap encI), c11 * 1⟩, ⟨B6, 112, (m.flatMap enc_Term), c6 * 2⟩, ⟨B7, 3, (m1.flatMap encI), c7 * 1⟩, ⟨B8, 112, (m2.flatMap enc_Term), c8 * 2⟩, ⟨B9, 3, (m3.flatMap encI), c9 * 1⟩, ⟨B12, 112, (r_15.Terms.flatMap enc_Term), c12 * 2⟩, ⟨B13, 3, (r_15.Out.Rows.flatMap encI), c13 * 1⟩, ⟨B14, 112, (r_16.Terms.flatMap enc_Term), c14 * 2⟩, ⟨B15, 3, (r_16.Out.Rows.flatMap encI), c15 * 1⟩, ⟨some ⟨b4, 0, none⟩, 45, [.int .i64 r_16.Qubits, .int .i64 r_16.Phase, .slice B14 r_16.Terms.length c14, .slice B15 r_16.Out.Rows.length c15], 4⟩] [⟨B, (aP.Terms.flatMap enc_Term)⟩, ⟨B1, (aP.Out.Rows.flatMap encI)⟩] := hS26
                  refine sq 13 rfl rfl (Y_assign (v := .bool r_17) rfl rfl) ?_
                  refine rw_nil ?_
                  refine cw_seq ?_
                  refine cw_seq ?_
                  refine cw_region ?_
                  refine sq 79 rfl rfl (Y_loadA (B := some ⟨b4, 0, none⟩) (i := 0) (cs := [.int .i64 r_16.Qubits, .int .i64 r_16.Phase, .slice B14 r_16.Terms.length c14, .slice B15 r_16.Out.Rows.length c15]) (vs := [.int .i64 r_16.Qubits, .int .i64 r_16.Phase, .slice B14 r_16.Terms.length c14, .slice B15 r_16.Out.Rows.length c15]) k_ag_45 k_sz_45_4 rfl rfl (hS26.cf (i := 18) rfl) rfl rfl) ?_
                  refine sq 80 rfl rfl (Y_loadA (B := some ⟨b1, 0, none⟩) (i := 0) (cs := [.int .i64 r_3.Qubits, .int .i64 r_3.Phase, .slice B4 r_3.Terms.length c4, .slice B5 r_3.Out.Rows.length c5]) (vs := [.int .i64 r_3.Qubits, .int .i64 r_3.Phase, .slice B4 r_3.Terms.length c4, .slice B5 r_3.Out.Rows.length c5]) k_ag_45 k_sz_45_4 rfl rfl (hS26.cf (i := 5) rfl) rfl rfl) ?_
                  obtain ⟨r_18, hc14, hF12⟩ := bind_inv hF12
                  refine sc 81 rfl rfl (Yc_func (g := 25) (vs := [.agg #[.int .i64 r_16.Qubits, .int .i64 r_16.Phase, .slice B14 r_16.Terms.length c14, .slice B15 r_16.Out.Rows.length c15], .agg #[.int .i64 r_3.Qubits, .int .i64 r_3.Phase, .slice B4 r_3.Terms.length c4, .slice B5 r_3.Out.Rows.length c5]]) k_call_25 rfl (mc rfl (mc rfl mn)) (c_laws_eqPhasePoly r_16 r_3 B14 c14 r_16.Terms.length B15 c15 r_16.Out.Rows.length B4 c4 r_3.Terms.length B5 c5 r_3.Out.Rows.length _ rfl rfl rfl rfl (hS26.inn0 [(false, 16), (false, 17), (false, 3), (false, 4)] rfl) hc14)) ?_
                  rintro _ w_23 ⟨rfl, hd13⟩
                  have hS27 := hS26.out00 hd13
                  have hS27 : ST w0 [] _ [⟨some ⟨b, 0, none⟩, 38, [.int .i64 aP.Qubits, .int .i64 aP.Phase, .slice B aP.Terms.length c, .slice B1 aP.Out.Rows.length c1], 4⟩, ⟨B2, 112, (r_2.Terms.flatMap enc_Term), c2 * 2⟩, ⟨B3, 3, (r_2.Out.Rows.flatMap encI), c3 * 1⟩, ⟨B4, 112, (r_3.Terms.flatMap enc_Term), c4 * 2⟩, ⟨B5, 3, (r_3.Out.Rows.flatMap encI), c5 * 1⟩, ⟨some ⟨b1, 0, none⟩, 45, [.int .i64 r_3.Qubits, .int .i64 r_3.Phase, .slice B4 r_3.Terms.length c4, .slice B5 r_3.Out.Rows.length c5], 4⟩, ⟨some ⟨b2, 0, none⟩, 45, [.int .i64 r_5.Qubits, .int .i64 r_5.Phase, .slice B6 r_5.Terms.length c6, .slice B7 r_5.Out.Rows.length c7], 4⟩, ⟨some ⟨b3, 0, none⟩, 45, [.int .i64 r_6.Qubits, .int .i64 r_6.Phase, .slice B8 r_6.Terms.length c8, .slice B9 r_6.Out.Rows.length c9], 4⟩, ⟨B10, 112, (r_9.Terms.flatMap enc_Term), c10 * 2⟩, ⟨B11, 3, (r_9.Out.Rows.flatMap encI), c11 * 1⟩, ⟨B6, 112, (m.flatMap enc_Term), c6 * 2⟩, ⟨B7, 3, (m1.flatMap encI), c7 * 1⟩, ⟨B8, 112, (m2.flatMap enc_Term), c8 * 2⟩, ⟨B9, 3, (m3.flatMap encI), c9 * 1⟩, ⟨B12, 112, (r_15.Terms.flatMap enc_Term), c12 * 2⟩, ⟨B13, 3, (r_15.Out.Rows.flatMap encI), c13 * 1⟩, ⟨B14, 112, (r_16.Terms.flatMap enc_Term), c14 * 2⟩, ⟨B15, 3, (r_16.Out.Rows.flatMap encI), c15 * 1⟩, ⟨some ⟨b4, 0, none⟩, 45, [.int .i64 r_16.Qubits, .int .i64 r_16.Phase, .slice B14 r_16.Terms.length c14, .slice B15 r_16.Out.Rows.length c15], 4⟩] [⟨B, (aP.Terms.flatMap enc_Term)⟩, ⟨B1, (aP.Out.Rows.flatMap encI)⟩] := hS27
                  refine sq 82 rfl rfl (Y_not (p := r_18) rfl rfl) ?_
                  refine sq 83 rfl rfl (Y_move (v := .bool (!r_18)) rfl rfl) ?_
                  refine sgq 84 (B := (!(!r_18))) (v := .bool r_17) rfl rfl (wt_f (gd_of (t := 83) (by kernel_rfl) rfl)) (fun hg10 => (Y_move (v := .bool r_17) rfl rfl)) ?_
                  refine sgq 85 (B := (!(!r_18))) (v := .bool r_4) rfl rfl (wt_f (gd_of (t := 83) (by kernel_rfl) rfl)) (fun hg11 => (Y_move (v := .bool r_4) rfl rfl)) ?_
                  refine sgq 86 (B := (!(!r_18))) (v := .bool (!(r_17 == r_4))) rfl rfl (wt_f (gd_of (t := 83) (by kernel_rfl) rfl)) (fun hg12 => (Y_bne (p := r_17) (q := r_4) k_und_4 rfl (gv_of (B := (!(!r_18))) (v := .bool r_17) hg12) (gv_of (B := (!(!r_18))) (v := .bool r_4) hg12))) ?_
                  refine sq 87 rfl rfl (Y_or (b := (!r_18)) (z := (!(r_17 == r_4))) rfl rfl rfl rfl) ?_
                  refine rw_nil ?_
                  refine cw_cond (b := ((!r_18) || (!(r_17 == r_4)))) rfl (fun hb6 => ?_) (fun hb6 => ?_)
                  · skip
                    have hF13 := ct hF12 hb6
                    refine cw_seq ?_
                    refine cw_region ?_
                    refine sq 2 rfl rfl (Y_assign (v := .bool false) rfl rfl) ?_
                    refine rw_nil ?_
                    refine cw_ret ?_
                    obtain rfl := some_inj hF13
                    exact ret1 Try.results13 (v1 := .bool false) (resAt_tmp rfl) ⟨rfl, (ST.subR (R' := []) (hS27.sel [] rfl rfl) (fun _ h => by cases h))⟩
                  · skip
                    have hF14 := cf' hF12 hb6
                    refine cw_skip ?_
                    refine cw_seq ?_
                    refine cw_region ?_
                    refine sq 11 rfl rfl (Y_assign (v := .int .i64 1) rfl rfl) ?_
                    refine rw_nil ?_
                    refine cw_seq ?_
                    refine cw_region ?_
                    refine sq 88 rfl rfl (Y_loadA (B := some ⟨b3, 0, none⟩) (i := 0) (cs := [.int .i64 r_6.Qubits, .int .i64 r_6.Phase, .slice B8 r_6.Terms.length c8, .slice B9 r_6.Out.Rows.length c9]) (vs := [.int .i64 r_6.Qubits, .int .i64 r_6.Phase, .slice B8 r_6.Terms.length c8, .slice B9 r_6.Out.Rows.length c9]) k_ag_45 k_sz_45_4 rfl rfl (hS27.cf (i := 7) rfl) rfl rfl) ?_
                    refine sq 89 rfl rfl (Y_move (v := .int .i64 1) rfl rfl) ?_
                    obtain ⟨r_19, hc15, hF14⟩ := bind_inv hF14
                    refine sc 90 rfl rfl (Yc_func (g := 33) (vs := [.agg #[.int .i64 r_6.Qubits, .int .i64 r_6.Phase, .slice B8 r_6.Terms.length c8, .slice B9 r_6.Out.Rows.length c9], .int .i64 1]) k_call_33 rfl (mc rfl (mc rfl mn)) (c_laws_heldPhasePoly (TPhasePoly.mk r_6.Qubits r_6.Phase m2 (TLinear.mk m3)) 1 B8 c8 r_6.Terms.length B9 c9 r_6.Out.Rows.length _ hl2 hl3 (hS27.inn0 [(false, 12), (false, 13)] rfl) hc15)) ?_
                    rintro _ w_24 ⟨rfl, hd14⟩
                    have hS28 := hS27.out00 hd14
                    have hS28 : ST w0 [] _ [⟨some ⟨b, 0, none⟩, 38, [.int .i64 aP.Qubits, .int .i64 aP.Phase, .slice B aP.Terms.length c, .slice B1 aP.Out.Rows.length c1], 4⟩, ⟨B2, 112, (r_2.Terms.flatMap enc_Term), c2 * 2⟩, ⟨B3, 3, (r_2.Out.Rows.flatMap encI), c3 * 1⟩, ⟨B4, 112, (r_3.Terms.flatMap enc_Term), c4 * 2⟩, ⟨B5, 3, (r_3.Out.Rows.flatMap encI), c5 * 1⟩, ⟨some ⟨b1, 0, none⟩, 45, [.int .i64 r_3.Qubits, .int .i64 r_3.Phase, .slice B4 r_3.Terms.length c4, .slice B5 r_3.Out.Rows.length c5], 4⟩, ⟨some ⟨b2, 0, none⟩, 45, [.int .i64 r_5.Qubits, .int .i64 r_5.Phase, .slice B6 r_5.Terms.length c6, .slice B7 r_5.Out.Rows.length c7], 4⟩, ⟨some ⟨b3, 0, none⟩, 45, [.int .i64 r_6.Qubits, .int .i64 r_6.Phase, .slice B8 r_6.Terms.length c8, .slice B9 r_6.Out.Rows.length c9], 4⟩, ⟨B10, 112, (r_9.Terms.flatMap enc_Term), c10 * 2⟩, ⟨B11, 3, (r_9.Out.Rows.flatMap encI), c11 * 1⟩, ⟨B6, 112, (m.flatMap enc_Term), c6 * 2⟩, ⟨B7, 3, (m1.flatMap encI), c7 * 1⟩, ⟨B8, 112, (m2.flatMap enc_Term), c8 * 2⟩, ⟨B9, 3, (m3.flatMap encI), c9 * 1⟩, ⟨B12, 112, (r_15.Terms.flatMap enc_Term), c12 * 2⟩, ⟨B13, 3, (r_15.Out.Rows.flatMap encI), c13 * 1⟩, ⟨B14, 112, (r_16.Terms.flatMap enc_Term), c14 * 2⟩, ⟨B15, 3, (r_16.Out.Rows.flatMap encI), c15 * 1⟩, ⟨some ⟨b4, 0, none⟩, 45, [.int .i64 r_16.Qubits, .int .i64 r_16.Phase, .slice B14 r_16.Terms.length c14, .slice B15 r_16.Out.Rows.length c15], 4⟩] [⟨B, (aP.Terms.flatMap enc_Term)⟩, ⟨B1, (aP.Out.Rows.flatMap encI)⟩] := hS28
                    refine sq 11 rfl rfl (Y_assign (v := .int .i64 r_19) rfl rfl) ?_
                    refine rw_nil ?_
                    refine cw_seq ?_
                    refine cw_seq ?_
                    refine cw_region ?_
                    refine sq 91 rfl rfl (Y_move (v := .int .i64 r_19) rfl rfl) ?_
                    refine sq 92 rfl rfl (Y_lt (k := .i64) (a := r_19) (b := 0) rfl rfl rfl) ?_
                    refine rw_nil ?_
                    refine cw_cond (b := (decide (r_19 < 0))) rfl (fun hb7 => ?_) (fun hb7 => ?_)
                    · skip
                      have hF15 := ct hF14 hb7
                      refine cw_seq ?_
                      refine cw_region ?_
                      refine sq 2 rfl rfl (Y_assign (v := .bool false) rfl rfl) ?_
                      refine rw_nil ?_
                      refine cw_ret ?_
                      obtain rfl := some_inj hF15
                      exact ret1 Try.results13 (v1 := .bool false) (resAt_tmp rfl) ⟨rfl, (ST.subR (R' := []) (hS28.sel [] rfl rfl) (fun _ h => by cases h))⟩
                    · skip
                      have hF16 := cf' hF14 hb7
                      refine cw_skip ?_
                      refine cw_seq ?_
                      refine cw_seq ?_
                      refine cw_region ?_
                      refine sq 93 rfl rfl (Y_move (v := .int .i64 r_19) rfl rfl) ?_
                      refine sq 94 rfl rfl (Y_move (v := .int .i64 r_13) rfl rfl) ?_
                      refine sq 95 rfl rfl (Y_ne (k := .i64) (a := r_19) (b := r_13) rfl rfl rfl) ?_
                      refine rw_nil ?_
                      refine cw_cond (b := (r_19 != r_13)) rfl (fun hb8 => ?_) (fun hb8 => ?_)
                      · skip
                        have hF17 := ct hF16 hb8
                        refine cw_seq ?_
                        refine cw_region ?_
                        refine sq 2 rfl rfl (Y_assign (v := .bool false) rfl rfl) ?_
                        refine rw_nil ?_
                        refine cw_ret ?_
                        obtain rfl := some_inj hF17
                        exact ret1 Try.results13 (v1 := .bool false) (resAt_tmp rfl) ⟨rfl, (ST.subR (R' := []) (hS28.sel [] rfl rfl) (fun _ h => by cases h))⟩
                      · skip
                        have hF18 := cf' hF16 hb8
                        refine cw_skip ?_
                        refine cw_seq ?_
                        refine cw_region ?_
                        refine sq 2 rfl rfl (Y_assign (v := .bool true) rfl rfl) ?_
                        refine rw_nil ?_
                        refine cw_ret ?_
                        obtain rfl := some_inj hF18
                        exact ret1 Try.results13 (v1 := .bool true) (resAt_tmp rfl) ⟨rfl, (ST.subR (R' := []) (hS28.sel [] rfl rfl) (fun _ h => by cases h))⟩
        exact allR_nil
      exact allR_nil
end Go.VK
