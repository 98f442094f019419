/- Walks: each Go function returns what its Lean function says. By program. -/
import Derived.Test.YtklicjfbpikobaaPathSumOfFa
import Derived.Test.YtklicjfbpikobaaPathSumOfShelf
import Derived.Test.YtklicjfbpikobaaLibT
import Derived.WalkKit
import Derived.Test.YtklicjfbpikobaaPathSumOfW3
set_option linter.unusedVariables false
set_option maxRecDepth 100000
set_option maxHeartbeats 4000000
namespace Go.VK
open Go.RowKit
open Go.Proofs
attribute [local irreducible] CW RW RA CV Y Yw Yc Ys RetOf
attribute [local irreducible] F_laws_eqGate F_laws_eqGateS F_laws_eqCircuit F_laws_markGateS F_laws_markCircuit F_laws_szGateS F_laws_szCircuit F_laws_toGate F_laws_toGateS F_laws_toCircuit F_laws_eqTerm F_laws_eqTermS F_laws_eqAffine F_laws_eqAffineS F_laws_eqPathSum F_laws_markTermS F_laws_markAffineS F_laws_markPathSum F_laws_heldTermS F_laws_heldAffineS F_laws_heldPathSum F_spec_l1In F_spec_l4Gate F_spec_l4Good F_spec_l21Sum_add F_spec_l1Set F_spec_l21Sum_times F_spec_l21Sum_product F_spec_l21Xor F_spec_l13Coef F_spec_l21Of F_spec_PathSumOf F_impl_within F_slices_IndexFunc_impl_Gate_impl_Gate F_slices_ContainsFunc_impl_Gate_impl_Gate F_impl_isTwo F_impl_IsValidGate F_impl_IsValidCircuit_1 F_impl_IsValidCircuit F_impl_polynomial_add F_impl_bitsOf F_impl_polynomial_expand F_impl_polynomial_product F_impl_rotationCoef F_impl_summer_process F_impl_polynomial_terms F_impl_PathSumOf F_laws_FnExactPathSumOf
theorem c_impl_PathSumOf (c : TCircuit) (B : Option Addr) (c1 n : Nat) (w0 : World) (hn : c.Gates.length = n) (hS : ST w0 [] w0 [] [⟨B, (c.Gates.flatMap enc_Gate)⟩]) {r_ : TPathSum} {r_1 : Bool} (hF : F_impl_PathSumOf c = some (r_, r_1)) :
    CV Try.prog 29 #[.agg #[.int .i64 c.Qubits, .slice B n c1]] w0 (fun v w' => ∃ (B1 : Option Addr) (c2 : Nat) (B2 : Option Addr) (c3 : Nat), v = .tuple #[.agg #[.int .i64 r_.Ins, .int .i64 r_.Vars, .int .i64 r_.Root, .int .i64 r_.Phase, .slice B1 r_.Terms.length c2, .slice B2 r_.Out.length c3], .bool r_1] ∧ ST w0 [] w' [⟨B1, 136, (r_.Terms.flatMap enc_Term), c2 * 2⟩, ⟨B2, 61, (r_.Out.flatMap enc_Affine), c3 * 2⟩] []) := by
  subst hn
  unfold F_impl_PathSumOf at hF
  refine cv_of_cw 79 Try.func29 rfl Try.ntmps29 rfl ?_
  refine cw_seq ?_
  refine cw_region ?_
  refine ss 1 rfl rfl (Ys_box (T := 28) (v := .agg #[.int .i64 c.Qubits, .slice B c.Gates.length c1]) (cs := [.int .i64 c.Qubits, .slice B c.Gates.length c1]) (m := 2) hS rfl rfl rfl rfl) ?_
  rintro _ w_ ⟨b, rfl, hS1⟩
  refine ss 2 rfl rfl (Ys_alloc (T := 57) (cs := [.int .i64 0, .int .i64 0, .int .i64 0, .int .i64 0, .slice none 0 0, .slice none 0 0]) (m := 6) hS1 k_zero_57 rfl rfl rfl) ?_
  rintro _ w_1 ⟨b1, rfl, hS2⟩
  have hS2 : ST w0 [] _ [⟨some ⟨b, 0, none⟩, 28, [.int .i64 c.Qubits, .slice B c.Gates.length c1], 2⟩, ⟨some ⟨b1, 0, none⟩, 57, [.int .i64 0, .int .i64 0, .int .i64 0, .int .i64 0, .slice none 0 0, .slice none 0 0], 6⟩] [⟨B, (c.Gates.flatMap enc_Gate)⟩] := hS2
  refine sq 3 rfl rfl (Y_assign (v := .bool false) rfl rfl) ?_
  refine rw_nil ?_
  refine cw_seq ?_
  refine cw_seq ?_
  refine cw_region ?_
  refine sq 8 rfl rfl (Y_loadA (B := some ⟨b, 0, none⟩) (i := 0) (cs := [.int .i64 c.Qubits, .slice B c.Gates.length c1]) (vs := [.int .i64 c.Qubits, .slice B c.Gates.length c1]) k_ag_28 k_sz_28_2 rfl rfl (hS2.cf (i := 0) rfl) rfl rfl) ?_
  obtain ⟨r_2, hc, hF⟩ := bind_inv hF
  refine sc 9 rfl rfl (Yc_func (g := 66) (vs := [.agg #[.int .i64 c.Qubits, .slice B c.Gates.length c1]]) k_call_66 rfl (mc rfl mn) (c_impl_IsValidCircuit c B c1 c.Gates.length _ rfl (hS2.inn0 [(true, 0)] rfl) hc)) ?_
  rintro _ w_2 ⟨rfl, hd⟩
  have hS3 := hS2.out00 hd
  have hS3 : ST w0 [] _ [⟨some ⟨b, 0, none⟩, 28, [.int .i64 c.Qubits, .slice B c.Gates.length c1], 2⟩, ⟨some ⟨b1, 0, none⟩, 57, [.int .i64 0, .int .i64 0, .int .i64 0, .int .i64 0, .slice none 0 0, .slice none 0 0], 6⟩] [⟨B, (c.Gates.flatMap enc_Gate)⟩] := hS3
  refine sq 10 rfl rfl (Y_not (p := r_2) rfl rfl) ?_
  refine rw_nil ?_
  refine cw_cond (b := (!r_2)) rfl (fun hb => ?_) (fun hb => ?_)
  · skip
    have hF1 := ct hF hb
    refine cw_seq ?_
    refine cw_region ?_
    refine sq 11 rfl rfl (Y_buildS (zs := [.int .i64 0, .int .i64 0, .int .i64 0, .int .i64 0, .slice none 0 0, .slice none 0 0]) (vs := []) (cs := [.int .i64 0, .int .i64 0, .int .i64 0, .int .i64 0, .slice none 0 0, .slice none 0 0]) k_pl_57 k_zero_57 rfl mpn rfl) ?_
    refine ss0 rfl rfl (Ys_store (i := 1) (s := 6) (B := some ⟨b1, 0, none⟩) (T' := 57) (v := .agg #[.int .i64 0, .int .i64 0, .int .i64 0, .int .i64 0, .slice none 0 0, .slice none 0 0]) (vs := [.int .i64 0, .int .i64 0, .int .i64 0, .int .i64 0, .slice none 0 0, .slice none 0 0]) (k := 0) (cs' := [.int .i64 0, .int .i64 0, .int .i64 0, .int .i64 0, .slice none 0 0, .slice none 0 0]) hS3 k_sz_57_6 rfl rfl rfl rfl rfl rfl rfl (Nat.le_of_ble_eq_true rfl) rfl rfl) ?_
    rintro _ w_3 ⟨rfl, hS4⟩
    have hS4 : ST w0 [] _ [⟨some ⟨b, 0, none⟩, 28, [.int .i64 c.Qubits, .slice B c.Gates.length c1], 2⟩, ⟨some ⟨b1, 0, none⟩, 57, [.int .i64 0, .int .i64 0, .int .i64 0, .int .i64 0, .slice none 0 0, .slice none 0 0], 6⟩] [⟨B, (c.Gates.flatMap enc_Gate)⟩] := hS4
    refine sq 3 rfl rfl (Y_assign (v := .bool false) rfl rfl) ?_
    refine rw_nil ?_
    refine cw_ret ?_
    have hS5 := hS4.addNil 136
    have hS6 := hS5.addNil 61
    obtain ⟨rfl, rfl⟩ := pr2 (some_inj hF1)
    exact ret2 Try.results29 (v1 := .agg #[.int .i64 0, .int .i64 0, .int .i64 0, .int .i64 0, .slice none 0 0, .slice none 0 0]) (resAt_cellA (B := some ⟨b1, 0, none⟩) (i := 0) (cs := [.int .i64 0, .int .i64 0, .int .i64 0, .int .i64 0, .slice none 0 0, .slice none 0 0]) (vs := [.int .i64 0, .int .i64 0, .int .i64 0, .int .i64 0, .slice none 0 0, .slice none 0 0]) rfl k_ag_57 k_sz_57_6 (hS6.cf (i := 1) rfl) rfl rfl) (v2 := .bool false) (resAt_tmp rfl) ⟨none, 0, none, 0, rfl, (ST.subR (R' := []) (hS6.sel [2, 3] rfl rfl) (fun _ h => by cases h))⟩
  · skip
    have hF2 := cf' hF hb
    refine cw_skip ?_
    refine cw_seq ?_
    refine cw_region ?_
    refine sq 12 rfl rfl (Y_fieldAddr (B := some ⟨b, 0, none⟩) (i := 0) (s := 0) k_fd_28_0_0_3 k_sz_3_1 rfl rfl) ?_
    refine sq 13 rfl rfl (Y_load1 (B := some ⟨b, 0, none⟩) (i := 0) (cs := [.int .i64 c.Qubits, .slice B c.Gates.length c1]) (v := .int .i64 c.Qubits) k_sc_3 rfl rfl (hS3.cf (i := 0) rfl) rfl) ?_
    refine sq 14 rfl rfl (Y_buildS (zs := [.int .i64 0, .int .i64 0, .int .i64 0, .int .i64 0, .slice none 0 0, .slice none 0 0]) (vs := [(0, .int .i64 c.Qubits)]) (cs := [.int .i64 c.Qubits, .int .i64 0, .int .i64 0, .int .i64 0, .slice none 0 0, .slice none 0 0]) k_pl_57 k_zero_57 rfl (mpc rfl mpn) rfl) ?_
    refine ss 15 rfl rfl (Ys_mkMap (T := 105) hS3 rfl) ?_
    rintro _ w_4 ⟨g, rfl, hS7⟩
    have hS7 : ST w0 [] _ [⟨some ⟨b, 0, none⟩, 28, [.int .i64 c.Qubits, .slice B c.Gates.length c1], 2⟩, ⟨some ⟨b1, 0, none⟩, 57, [.int .i64 0, .int .i64 0, .int .i64 0, .int .i64 0, .slice none 0 0, .slice none 0 0], 6⟩, ⟨(some ⟨g, 0, none⟩), .mp (mpE (Value.int .i64) (Value.int .i64) ([] : List (Int × Int))), [], 0⟩] [⟨B, (c.Gates.flatMap enc_Gate)⟩] := hS7
    refine sq 16 rfl rfl (Y_buildS (zs := [.int .i64 0, .int .i64 0, .int .i64 0, .int .i64 0, .slice none 0 0, .slice none 0 0, .map none, .slice none 0 0]) (vs := [(0, .agg #[.int .i64 c.Qubits, .int .i64 0, .int .i64 0, .int .i64 0, .slice none 0 0, .slice none 0 0]), (1, .map (some g))]) (cs := [.int .i64 c.Qubits, .int .i64 0, .int .i64 0, .int .i64 0, .slice none 0 0, .slice none 0 0, .map (some g), .slice none 0 0]) k_pl_107 k_zero_107 rfl (mpc rfl (mpc rfl mpn)) rfl) ?_
    refine ss 17 rfl rfl (Ys_box (T := 107) (v := .agg #[.int .i64 c.Qubits, .int .i64 0, .int .i64 0, .int .i64 0, .slice none 0 0, .slice none 0 0, .map (some g), .slice none 0 0]) (cs := [.int .i64 c.Qubits, .int .i64 0, .int .i64 0, .int .i64 0, .slice none 0 0, .slice none 0 0, .map (some g), .slice none 0 0]) (m := 8) hS7 rfl rfl rfl rfl) ?_
    rintro _ w_5 ⟨b2, rfl, hS8⟩
    have hS8 : ST w0 [] _ [⟨some ⟨b, 0, none⟩, 28, [.int .i64 c.Qubits, .slice B c.Gates.length c1], 2⟩, ⟨some ⟨b1, 0, none⟩, 57, [.int .i64 0, .int .i64 0, .int .i64 0, .int .i64 0, .slice none 0 0, .slice none 0 0], 6⟩, ⟨(some ⟨g, 0, none⟩), .mp (mpE (Value.int .i64) (Value.int .i64) ([] : List (Int × Int))), [], 0⟩, ⟨some ⟨b2, 0, none⟩, 107, [.int .i64 c.Qubits, .int .i64 0, .int .i64 0, .int .i64 0, .slice none 0 0, .slice none 0 0, .map (some g), .slice none 0 0], 8⟩] [⟨B, (c.Gates.flatMap enc_Gate)⟩] := hS8
    refine sq 4 rfl rfl (Y_assign (v := pt (some ⟨b2, 0, none⟩) 0) rfl rfl) ?_
    refine rw_nil ?_
    refine cw_seq ?_
    refine cw_seq ?_
    refine cw_region ?_
    refine sq 18 rfl rfl (Y_fieldAddr (B := some ⟨b, 0, none⟩) (i := 0) (s := 0) k_fd_28_0_0_3 k_sz_3_1 rfl rfl) ?_
    refine sq 19 rfl rfl (Y_load1 (B := some ⟨b, 0, none⟩) (i := 0) (cs := [.int .i64 c.Qubits, .slice B c.Gates.length c1]) (v := .int .i64 c.Qubits) k_sc_3 rfl rfl (hS8.cf (i := 0) rfl) rfl) ?_
    refine sq 20 rfl rfl (Y_move (v := .int .i64 0) rfl rfl) ?_
    refine rw_nil ?_
    obtain ⟨hN, hF2⟩ := chk_inv hF2
    obtain ⟨z, hz, hF3⟩ := bind_inv hF2
    have hS10 := hS8.addNil 61
    refine cw_block ?_
    refine cw_loop (fun k f w => ∃ (i : Nat) (values : List TAffine) (B3 : Option Addr) (c4 : Nat), FF f [(1, pt (some ⟨b, 0, none⟩) 0), (2, pt (some ⟨b1, 0, none⟩) 0), (4, pt (some ⟨b2, 0, none⟩) 0), (19, .int .i64 c.Qubits), (20, .int .i64 (i : Int))] ∧ ST w0 [] w [⟨some ⟨b, 0, none⟩, 28, [.int .i64 c.Qubits, .slice B c.Gates.length c1], 2⟩, ⟨some ⟨b1, 0, none⟩, 57, [.int .i64 0, .int .i64 0, .int .i64 0, .int .i64 0, .slice none 0 0, .slice none 0 0], 6⟩, ⟨some ⟨b2, 0, none⟩, 107, [.int .i64 c.Qubits, .int .i64 0, .int .i64 0, .int .i64 0, .slice none 0 0, .slice none 0 0, .map (some g), .slice B3 values.length c4], 8⟩, ⟨(some ⟨g, 0, none⟩), .mp (mpE (Value.int .i64) (Value.int .i64) ([] : List (Int × Int))), [], 0⟩, ⟨B3, 61, (values.flatMap enc_Affine), c4 * 2⟩] [⟨B, (c.Gates.flatMap enc_Gate)⟩] ∧ i + k = c.Qubits.toNat ∧ forN F_impl_PathSumOf_l1 k i values = some z) c.Qubits.toNat ⟨0, [], none, 0, (FF.cons rfl (FF.cons rfl (FF.cons rfl (FF.cons rfl (FF.cons rfl FF.nil))))), (hS10.sel [0, 1, 3, 2, 4] rfl rfl), Nat.zero_add _, hz⟩ ?_
    rintro k_ f w ⟨i, values, B3, c4, hf, hS9, hik, hL⟩
    refine cw_seq ?_
    refine cw_region ?_
    refine sq 21 rfl rfl (Y_lt (k := .i64) (a := (i : Int)) (b := c.Qubits) rfl (hf.get 20 4 rfl) (hf.get 19 3 rfl)) ?_
    refine rw_nil ?_
    refine cw_seq ?_
    refine cw_cond (b := (decide ((i : Int) < c.Qubits))) rfl (fun hlt => ?_) (fun hlt => ?_)
    · skip
      have hlt1 : i < c.Qubits.toNat := by have h := of_decide_eq_true hlt; omega
      obtain ⟨k_1, rfl⟩ : ∃ k2, k_ = k2 + 1 := ⟨k_ - 1, by omega⟩
      obtain ⟨y, hb1, hL1⟩ := forN_go hL
      unfold F_impl_PathSumOf_l1 at hb1
      refine cw_skip ?_
      refine cw_seq ?_
      refine cw_block ?_
      refine cw_seq ?_
      refine cw_region ?_
      refine sq 22 rfl rfl (Y_move (v := .int .i64 (i : Int)) rfl (hf.get 20 4 rfl)) ?_
      refine sq 5 rfl rfl (Y_assign (v := .int .i64 (i : Int)) rfl rfl) ?_
      refine rw_nil ?_
      obtain ⟨hsh, hb1⟩ := chk_inv hb1
      obtain ⟨hap, hb1⟩ := chk_inv hb1
      refine cw_mid (fun f w => ∃ (B5 : Option Addr) (c6 : Nat), FF f [(1, pt (some ⟨b, 0, none⟩) 0), (2, pt (some ⟨b1, 0, none⟩) 0), (4, pt (some ⟨b2, 0, none⟩) 0), (19, .int .i64 c.Qubits), (20, .int .i64 (i : Int))] ∧ ST w0 [] w [⟨some ⟨b, 0, none⟩, 28, [.int .i64 c.Qubits, .slice B c.Gates.length c1], 2⟩, ⟨some ⟨b1, 0, none⟩, 57, [.int .i64 0, .int .i64 0, .int .i64 0, .int .i64 0, .slice none 0 0, .slice none 0 0], 6⟩, ⟨some ⟨b2, 0, none⟩, 107, [.int .i64 c.Qubits, .int .i64 0, .int .i64 0, .int .i64 0, .slice none 0 0, .slice none 0 0, .map (some g), .slice B5 ((values ++ [(TAffine.mk (shlK .i64 1 (i : Int)) 0)]).length) c6], 8⟩, ⟨(some ⟨g, 0, none⟩), .mp (mpE (Value.int .i64) (Value.int .i64) ([] : List (Int × Int))), [], 0⟩, ⟨B5, 61, ((values ++ [(TAffine.mk (shlK .i64 1 (i : Int)) 0)]).flatMap enc_Affine), c6 * 2⟩] [⟨B, (c.Gates.flatMap enc_Gate)⟩]) ?_ ?_
      · skip
        refine ra_start (ST.sel hS9 [0, 1, 3] rfl rfl).fn (by kernel_rfl) ?_
        have hS12 := hS9.drew
        refine ra_q 0 23 (v := pt (some ⟨b2, 0, none⟩) 0) rfl rfl rfl (by kernel_rfl) (by kernel_rfl) (by kernel_rfl) (ST.sel hS12 [0, 1, 3] rfl rfl) (fun w' hw' => (Y_move (v := pt (some ⟨b2, 0, none⟩) 0) rfl (hf.get 4 2 rfl))) ?_
        refine ra_q 1 24 (v := pt (some ⟨b2, 0, none⟩) 0) rfl rfl rfl (by kernel_rfl) (by kernel_rfl) (by kernel_rfl) (ST.sel hS12 [0, 1, 3] rfl rfl) (fun w' hw' => (Y_move (v := pt (some ⟨b2, 0, none⟩) 0) rfl (hf.get 4 2 rfl))) ?_
        refine ra_q 2 25 (v := pt (some ⟨b2, 0, none⟩) 0) rfl rfl rfl (by kernel_rfl) (by kernel_rfl) (by kernel_rfl) (ST.sel hS12 [0, 1, 3] rfl rfl) (fun w' hw' => (Y_nilCheck (B := some ⟨b2, 0, none⟩) (i := 0) rfl rfl)) ?_
        refine ra_q 3 26 (v := pt (some ⟨b2, 0, none⟩) 7) rfl rfl rfl (by kernel_rfl) (by kernel_rfl) (by kernel_rfl) (ST.sel hS12 [0, 1, 3] rfl rfl) (fun w' hw' => (Y_fieldAddr (B := some ⟨b2, 0, none⟩) (i := 0) (s := 0) k_fd_107_2_7_55 k_sz_55_1 rfl rfl)) ?_
        refine ra_q 5 28 (v := .int .i64 (i : Int)) rfl rfl rfl (by kernel_rfl) (by kernel_rfl) (by kernel_rfl) (ST.sel hS12 [0, 1, 3] rfl rfl) (fun w' hw' => (Y_move (v := .int .i64 (i : Int)) rfl rfl)) ?_
        refine ra_q 6 29 (v := .int .i64 (shlK .i64 1 (i : Int))) rfl rfl rfl (by kernel_rfl) (by kernel_rfl) (by kernel_rfl) (ST.sel hS12 [0, 1, 3] rfl rfl) (fun w' hw' => (Y_shl (k := .i64) (a := 1) (k' := .i64) (b := (i : Int)) rfl rfl rfl hsh)) ?_
        refine ra_q 7 30 (v := .agg #[.int .i64 (shlK .i64 1 (i : Int)), .int .i64 0]) rfl rfl rfl (by kernel_rfl) (by kernel_rfl) (by kernel_rfl) (ST.sel hS12 [0, 1, 3] rfl rfl) (fun w' hw' => (Y_buildS (zs := [.int .i64 0, .int .i64 0]) (vs := [(0, .int .i64 (shlK .i64 1 (i : Int)))]) (cs := [.int .i64 (shlK .i64 1 (i : Int)), .int .i64 0]) k_pl_61 k_zero_61 rfl (mpc rfl mpn) rfl)) ?_
        refine ra_all (rs := [4, 8]) (by kernel_rfl) rfl ?_
        refine ra_y 27 (i := 4) (v := .slice B3 values.length c4) rfl rfl rfl (Y_load1 (B := some ⟨b2, 0, none⟩) (i := 7) (cs := [.int .i64 c.Qubits, .int .i64 0, .int .i64 0, .int .i64 0, .slice none 0 0, .slice none 0 0, .map (some g), .slice B3 values.length c4]) (v := .slice B3 values.length c4) k_sc_55 rfl rfl (hS12.cf (i := 2) rfl) rfl) (ST.sel hS12 [0, 1, 3] rfl rfl) ?_ ?_
        · skip
          refine ra_all (rs := [8]) (by kernel_rfl) rfl ?_
          refine ra_s 31 (i := 8) rfl rfl rfl (Ys_bslice (s := 2) (len := 1) (vs := [(0, .agg #[.int .i64 (shlK .i64 1 (i : Int)), .int .i64 0])]) (cs := [.int .i64 (shlK .i64 1 (i : Int)), .int .i64 0]) (zs := [.int .i64 0, .int .i64 0]) (m := 2) hS12 k_sl_55_61 k_sz_61_2 k_zc_61 rfl (mpc rfl mpn) rfl rfl rfl (by kernel_rfl) (by kernel_rfl) rfl) ?_ ?_
          · rintro _ w_6 ⟨b3, rfl, hS13⟩
            have hS13 : ST w0 [] _ [⟨some ⟨b, 0, none⟩, 28, [.int .i64 c.Qubits, .slice B c.Gates.length c1], 2⟩, ⟨some ⟨b1, 0, none⟩, 57, [.int .i64 0, .int .i64 0, .int .i64 0, .int .i64 0, .slice none 0 0, .slice none 0 0], 6⟩, ⟨some ⟨b2, 0, none⟩, 107, [.int .i64 c.Qubits, .int .i64 0, .int .i64 0, .int .i64 0, .slice none 0 0, .slice none 0 0, .map (some g), .slice B3 values.length c4], 8⟩, ⟨(some ⟨g, 0, none⟩), .mp (mpE (Value.int .i64) (Value.int .i64) ([] : List (Int × Int))), [], 0⟩, ⟨B3, 61, (values.flatMap enc_Affine), c4 * 2⟩, ⟨some ⟨b3, 0, none⟩, 61, ([(TAffine.mk (shlK .i64 1 (i : Int)) 0)].flatMap enc_Affine), 1 * 2⟩] [⟨B, (c.Gates.flatMap enc_Gate)⟩] := hS13
            refine ⟨(ST.sel hS13 [0, 1, 3] rfl rfl), ?_⟩
            refine ra_all (rs := [9]) (by kernel_rfl) rfl ?_
            refine ra_s 32 (i := 9) rfl rfl rfl (Ys_append (s := 2) (by' := 16) (i := 4) (nn := values.length) (c := c4) (k := 1) (len := (values ++ [(TAffine.mk (shlK .i64 1 (i : Int)) 0)]).length) (B := B3) (xs := ([(TAffine.mk (shlK .i64 1 (i : Int)) 0)].flatMap enc_Affine)) (cs' := ((values ++ [(TAffine.mk (shlK .i64 1 (i : Int)) 0)]).flatMap enc_Affine)) hS13 k_sl_55_61 k_sz_61_2 k_by_61_16 k_zero_61 rfl (by decide) rfl rfl rfl rfl (fm_lenn (l := values) enc_Affine_len rfl) rfl (hS13.cf (i := 5) rfl) (fm_lenn (l := [(TAffine.mk (shlK .i64 1 (i : Int)) 0)]) enc_Affine_len rfl) (fm_one' (enc := enc_Affine) enc_Affine_one [(TAffine.mk (shlK .i64 1 (i : Int)) 0)]) (by have := hap; omega) (by have := hap; simp only [maxLen]; omega) (fm_app _ _) (app_len (l := values) (l' := [(TAffine.mk (shlK .i64 1 (i : Int)) 0)]) rfl rfl)) ?_ ?_
            · rintro _ w_7 ⟨B4, c5, rfl, hS14⟩
              have hS14 : ST w0 [] _ [⟨some ⟨b, 0, none⟩, 28, [.int .i64 c.Qubits, .slice B c.Gates.length c1], 2⟩, ⟨some ⟨b1, 0, none⟩, 57, [.int .i64 0, .int .i64 0, .int .i64 0, .int .i64 0, .slice none 0 0, .slice none 0 0], 6⟩, ⟨some ⟨b2, 0, none⟩, 107, [.int .i64 c.Qubits, .int .i64 0, .int .i64 0, .int .i64 0, .slice none 0 0, .slice none 0 0, .map (some g), .slice B3 values.length c4], 8⟩, ⟨(some ⟨g, 0, none⟩), .mp (mpE (Value.int .i64) (Value.int .i64) ([] : List (Int × Int))), [], 0⟩, ⟨B4, 61, ((values ++ [(TAffine.mk (shlK .i64 1 (i : Int)) 0)]).flatMap enc_Affine), c5 * 2⟩, ⟨some ⟨b3, 0, none⟩, 61, ([(TAffine.mk (shlK .i64 1 (i : Int)) 0)].flatMap enc_Affine), 1 * 2⟩] [⟨B, (c.Gates.flatMap enc_Gate)⟩] := hS14
              refine ⟨(ST.sel hS14 [0, 1, 3] rfl rfl), ?_⟩
              refine ra_q 10 33 (v := pt (some ⟨b2, 0, none⟩) 0) rfl rfl rfl (by kernel_rfl) (by kernel_rfl) (by kernel_rfl) (ST.sel hS14 [0, 1, 3] rfl rfl) (fun w' hw' => (Y_nilCheck (B := some ⟨b2, 0, none⟩) (i := 0) rfl rfl)) ?_
              refine ra_q 11 34 (v := pt (some ⟨b2, 0, none⟩) 7) rfl rfl rfl (by kernel_rfl) (by kernel_rfl) (by kernel_rfl) (ST.sel hS14 [0, 1, 3] rfl rfl) (fun w' hw' => (Y_fieldAddr (B := some ⟨b2, 0, none⟩) (i := 0) (s := 0) k_fd_107_2_7_55 k_sz_55_1 rfl rfl)) ?_
              refine ra_all (rs := [12]) (by kernel_rfl) rfl ?_
              refine ra_s0 (i := 12) rfl rfl rfl (Ys_store (i := 2) (s := 1) (B := some ⟨b2, 0, none⟩) (T' := 107) (v := .slice B4 ((values ++ [(TAffine.mk (shlK .i64 1 (i : Int)) 0)]).length) c5) (vs := [.slice B4 ((values ++ [(TAffine.mk (shlK .i64 1 (i : Int)) 0)]).length) c5]) (k := 7) (cs' := [.int .i64 c.Qubits, .int .i64 0, .int .i64 0, .int .i64 0, .slice none 0 0, .slice none 0 0, .map (some g), .slice B4 ((values ++ [(TAffine.mk (shlK .i64 1 (i : Int)) 0)]).length) c5]) hS14 k_sz_55_1 rfl rfl rfl rfl rfl rfl rfl (Nat.le_of_ble_eq_true rfl) rfl rfl) ?_ ?_
              · rintro _ w_8 ⟨rfl, hS15⟩
                have hS15 : ST w0 [] _ [⟨some ⟨b, 0, none⟩, 28, [.int .i64 c.Qubits, .slice B c.Gates.length c1], 2⟩, ⟨some ⟨b1, 0, none⟩, 57, [.int .i64 0, .int .i64 0, .int .i64 0, .int .i64 0, .slice none 0 0, .slice none 0 0], 6⟩, ⟨some ⟨b2, 0, none⟩, 107, [.int .i64 c.Qubits, .int .i64 0, .int .i64 0, .int .i64 0, .slice none 0 0, .slice none 0 0, .map (some g), .slice B4 ((values ++ [(TAffine.mk (shlK .i64 1 (i : Int)) 0)]).length) c5], 8⟩, ⟨(some ⟨g, 0, none⟩), .mp (mpE (Value.int .i64) (Value.int .i64) ([] : List (Int × Int))), [], 0⟩, ⟨B4, 61, ((values ++ [(TAffine.mk (shlK .i64 1 (i : Int)) 0)]).flatMap enc_Affine), c5 * 2⟩, ⟨some ⟨b3, 0, none⟩, 61, ([(TAffine.mk (shlK .i64 1 (i : Int)) 0)].flatMap enc_Affine), 1 * 2⟩] [⟨B, (c.Gates.flatMap enc_Gate)⟩] := hS15
                refine ⟨(ST.sel hS15 [0, 1, 3] rfl rfl), ?_⟩
                refine ra_done (by kernel_rfl) ?_
                exact ⟨B4, c5, (FF.cons (hf.get 1 0 rfl) (FF.cons (hf.get 2 1 rfl) (FF.cons (hf.get 4 2 rfl) (FF.cons (hf.get 19 3 rfl) (FF.cons (hf.get 20 4 rfl) FF.nil))))), (hS15.sel [0, 1, 2, 3, 4] rfl rfl)⟩
              exact allR_nil
            exact allR_nil
          exact allR_nil
        refine ra_s 31 (i := 8) rfl rfl rfl (Ys_bslice (s := 2) (len := 1) (vs := [(0, .agg #[.int .i64 (shlK .i64 1 (i : Int)), .int .i64 0])]) (cs := [.int .i64 (shlK .i64 1 (i : Int)), .int .i64 0]) (zs := [.int .i64 0, .int .i64 0]) (m := 2) hS12 k_sl_55_61 k_sz_61_2 k_zc_61 rfl (mpc rfl mpn) rfl rfl rfl (by kernel_rfl) (by kernel_rfl) rfl) ?_ ?_
        · rintro _ w_9 ⟨b3, rfl, hS16⟩
          have hS16 : ST w0 [] _ [⟨some ⟨b, 0, none⟩, 28, [.int .i64 c.Qubits, .slice B c.Gates.length c1], 2⟩, ⟨some ⟨b1, 0, none⟩, 57, [.int .i64 0, .int .i64 0, .int .i64 0, .int .i64 0, .slice none 0 0, .slice none 0 0], 6⟩, ⟨some ⟨b2, 0, none⟩, 107, [.int .i64 c.Qubits, .int .i64 0, .int .i64 0, .int .i64 0, .slice none 0 0, .slice none 0 0, .map (some g), .slice B3 values.length c4], 8⟩, ⟨(some ⟨g, 0, none⟩), .mp (mpE (Value.int .i64) (Value.int .i64) ([] : List (Int × Int))), [], 0⟩, ⟨B3, 61, (values.flatMap enc_Affine), c4 * 2⟩, ⟨some ⟨b3, 0, none⟩, 61, ([(TAffine.mk (shlK .i64 1 (i : Int)) 0)].flatMap enc_Affine), 1 * 2⟩] [⟨B, (c.Gates.flatMap enc_Gate)⟩] := hS16
          refine ⟨(ST.sel hS16 [0, 1, 3] rfl rfl), ?_⟩
          refine ra_all (rs := [4]) (by kernel_rfl) rfl ?_
          refine ra_y 27 (i := 4) (v := .slice B3 values.length c4) rfl rfl rfl (Y_load1 (B := some ⟨b2, 0, none⟩) (i := 7) (cs := [.int .i64 c.Qubits, .int .i64 0, .int .i64 0, .int .i64 0, .slice none 0 0, .slice none 0 0, .map (some g), .slice B3 values.length c4]) (v := .slice B3 values.length c4) k_sc_55 rfl rfl (hS16.cf (i := 2) rfl) rfl) (ST.sel hS16 [0, 1, 3] rfl rfl) ?_ ?_
          · skip
            refine ra_all (rs := [9]) (by kernel_rfl) rfl ?_
            refine ra_s 32 (i := 9) rfl rfl rfl (Ys_append (s := 2) (by' := 16) (i := 4) (nn := values.length) (c := c4) (k := 1) (len := (values ++ [(TAffine.mk (shlK .i64 1 (i : Int)) 0)]).length) (B := B3) (xs := ([(TAffine.mk (shlK .i64 1 (i : Int)) 0)].flatMap enc_Affine)) (cs' := ((values ++ [(TAffine.mk (shlK .i64 1 (i : Int)) 0)]).flatMap enc_Affine)) hS16 k_sl_55_61 k_sz_61_2 k_by_61_16 k_zero_61 rfl (by decide) rfl rfl rfl rfl (fm_lenn (l := values) enc_Affine_len rfl) rfl (hS16.cf (i := 5) rfl) (fm_lenn (l := [(TAffine.mk (shlK .i64 1 (i : Int)) 0)]) enc_Affine_len rfl) (fm_one' (enc := enc_Affine) enc_Affine_one [(TAffine.mk (shlK .i64 1 (i : Int)) 0)]) (by have := hap; omega) (by have := hap; simp only [maxLen]; omega) (fm_app _ _) (app_len (l := values) (l' := [(TAffine.mk (shlK .i64 1 (i : Int)) 0)]) rfl rfl)) ?_ ?_
            · rintro _ w_10 ⟨B4, c5, rfl, hS17⟩
              have hS17 : ST w0 [] _ [⟨some ⟨b, 0, none⟩, 28, [.int .i64 c.Qubits, .slice B c.Gates.length c1], 2⟩, ⟨some ⟨b1, 0, none⟩, 57, [.int .i64 0, .int .i64 0, .int .i64 0, .int .i64 0, .slice none 0 0, .slice none 0 0], 6⟩, ⟨some ⟨b2, 0, none⟩, 107, [.int .i64 c.Qubits, .int .i64 0, .int .i64 0, .int .i64 0, .slice none 0 0, .slice none 0 0, .map (some g), .slice B3 values.length c4], 8⟩, ⟨(some ⟨g, 0, none⟩), .mp (mpE (Value.int .i64) (Value.int .i64) ([] : List (Int × Int))), [], 0⟩, ⟨B4, 61, ((values ++ [(TAffine.mk (shlK .i64 1 (i : Int)) 0)]).flatMap enc_Affine), c5 * 2⟩, ⟨some ⟨b3, 0, none⟩, 61, ([(TAffine.mk (shlK .i64 1 (i : Int)) 0)].flatMap enc_Affine), 1 * 2⟩] [⟨B, (c.Gates.flatMap enc_Gate)⟩] := hS17
              refine ⟨(ST.sel hS17 [0, 1, 3] rfl rfl), ?_⟩
              refine ra_q 10 33 (v := pt (some ⟨b2, 0, none⟩) 0) rfl rfl rfl (by kernel_rfl) (by kernel_rfl) (by kernel_rfl) (ST.sel hS17 [0, 1, 3] rfl rfl) (fun w' hw' => (Y_nilCheck (B := some ⟨b2, 0, none⟩) (i := 0) rfl rfl)) ?_
              refine ra_q 11 34 (v := pt (some ⟨b2, 0, none⟩) 7) rfl rfl rfl (by kernel_rfl) (by kernel_rfl) (by kernel_rfl) (ST.sel hS17 [0, 1, 3] rfl rfl) (fun w' hw' => (Y_fieldAddr (B := some ⟨b2, 0, none⟩) (i := 0) (s := 0) k_fd_107_2_7_55 k_sz_55_1 rfl rfl)) ?_
              refine ra_all (rs := [12]) (by kernel_rfl) rfl ?_
              refine ra_s0 (i := 12) rfl rfl rfl (Ys_store (i := 2) (s := 1) (B := some ⟨b2, 0, none⟩) (T' := 107) (v := .slice B4 ((values ++ [(TAffine.mk (shlK .i64 1 (i : Int)) 0)]).length) c5) (vs := [.slice B4 ((values ++ [(TAffine.mk (shlK .i64 1 (i : Int)) 0)]).length) c5]) (k := 7) (cs' := [.int .i64 c.Qubits, .int .i64 0, .int .i64 0, .int .i64 0, .slice none 0 0, .slice none 0 0, .map (some g), .slice B4 ((values ++ [(TAffine.mk (shlK .i64 1 (i : Int)) 0)]).length) c5]) hS17 k_sz_55_1 rfl rfl rfl rfl rfl rfl rfl (Nat.le_of_ble_eq_true rfl) rfl rfl) ?_ ?_
              · rintro _ w_11 ⟨rfl, hS18⟩
                have hS18 : ST w0 [] _ [⟨some ⟨b, 0, none⟩, 28, [.int .i64 c.Qubits, .slice B c.Gates.length c1], 2⟩, ⟨some ⟨b1, 0, none⟩, 57, [.int .i64 0, .int .i64 0, .int .i64 0, .int .i64 0, .slice none 0 0, .slice none 0 0], 6⟩, ⟨some ⟨b2, 0, none⟩, 107, [.int .i64 c.Qubits, .int .i64 0, .int .i64 0, .int .i64 0, .slice none 0 0, .slice none 0 0, .map (some g), .slice B4 ((values ++ [(TAffine.mk (shlK .i64 1 (i : Int)) 0)]).length) c5], 8⟩, ⟨(some ⟨g, 0, none⟩), .mp (mpE (Value.int .i64) (Value.int .i64) ([] : List (Int × Int))), [], 0⟩, ⟨B4, 61, ((values ++ [(TAffine.mk (shlK .i64 1 (i : Int)) 0)]).flatMap enc_Affine), c5 * 2⟩, ⟨some ⟨b3, 0, none⟩, 61, ([(TAffine.mk (shlK .i64 1 (i : Int)) 0)].flatMap enc_Affine), 1 * 2⟩] [⟨B, (c.Gates.flatMap enc_Gate)⟩] := hS18
                refine ⟨(ST.sel hS18 [0, 1, 3] rfl rfl), ?_⟩
                refine ra_done (by kernel_rfl) ?_
                exact ⟨B4, c5, (FF.cons (hf.get 1 0 rfl) (FF.cons (hf.get 2 1 rfl) (FF.cons (hf.get 4 2 rfl) (FF.cons (hf.get 19 3 rfl) (FF.cons (hf.get 20 4 rfl) FF.nil))))), (hS18.sel [0, 1, 2, 3, 4] rfl rfl)⟩
              exact allR_nil
            exact allR_nil
          exact allR_nil
        exact allR_nil
      rintro f w ⟨B5, c6, hf1, hS11⟩
      refine cw_region ?_
      refine sq 35 rfl rfl (Y_add (k := .i64) (a := (i : Int)) (b := 1) rfl (hf1.get 20 4 rfl) rfl) ?_
      refine sq 20 rfl rfl (Y_move (v := .int .i64 (IntKind.i64.wrap ((i : Int) + 1))) rfl rfl) ?_
      refine rw_nil ?_
      obtain rfl := some_inj hb1
      exact ⟨k_1, Nat.lt_succ_self _, i + 1, (values ++ [(TAffine.mk (shlK .i64 1 (i : Int)) 0)]), B5, c6, (FF.cons (hf1.get 1 0 rfl) (FF.cons (hf1.get 2 1 rfl) (FF.cons (hf1.get 4 2 rfl) (FF.cons (hf1.get 19 3 rfl) (FF.cons (congrArg (Value.int .i64) (wr_succ hlt1 hN)) FF.nil))))), (hS11.sel [0, 1, 2, 3, 4] rfl rfl), (by omega), hL1⟩
    · skip
      obtain rfl : k_ = 0 := by have h := of_decide_eq_false hlt; omega
      refine cw_exit rfl ?_
      obtain rfl := some_inj hL
      refine cw_seq ?_
      refine cw_seq ?_
      refine cw_region ?_
      refine sq 36 rfl rfl (Y_fieldAddr (B := some ⟨b, 0, none⟩) (i := 0) (s := 0) k_fd_28_1_1_26 k_sz_26_1 rfl (hf.get 1 0 rfl)) ?_
      refine sq 37 rfl rfl (Y_load1 (B := some ⟨b, 0, none⟩) (i := 1) (cs := [.int .i64 c.Qubits, .slice B c.Gates.length c1]) (v := .slice B c.Gates.length c1) k_sc_26 rfl rfl (hS9.cf (i := 0) rfl) rfl) ?_
      refine sq 38 rfl rfl (Y_len (B := B) (m := c.Gates.length) (c := c1) k_sl_26_76 rfl rfl) ?_
      refine sq 39 rfl rfl (Y_move (v := .int .i64 0) rfl rfl) ?_
      refine rw_nil ?_
      obtain ⟨hN1, hF3⟩ := chk_inv hF3
      obtain ⟨z1, hz1, hF4⟩ := bind_inv hF3
      refine cw_block ?_
      refine cw_loop (fun k f w => ∃ (i1 : Nat) (Ins : Int) (Vars : Int) (Root : Int) (Phase : Int) (poly : List (Int × Int)) (values1 : List TAffine), FF f [(2, pt (some ⟨b1, 0, none⟩) 0), (4, pt (some ⟨b2, 0, none⟩) 0), (37, .slice B c.Gates.length c1), (38, .int .i64 (c.Gates.length : Int)), (39, .int .i64 (i1 : Int))] ∧ values1.length = values.length ∧ ST w0 [] w [⟨some ⟨b1, 0, none⟩, 57, [.int .i64 0, .int .i64 0, .int .i64 0, .int .i64 0, .slice none 0 0, .slice none 0 0], 6⟩, ⟨some ⟨b2, 0, none⟩, 107, [.int .i64 Ins, .int .i64 Vars, .int .i64 Root, .int .i64 Phase, .slice none 0 0, .slice none 0 0, .map (some g), .slice B3 values.length c4], 8⟩, ⟨(some ⟨g, 0, none⟩), .mp (mpE (Value.int .i64) (Value.int .i64) poly), [], 0⟩, ⟨B3, 61, (values1.flatMap enc_Affine), c4 * 2⟩] [⟨B, (c.Gates.flatMap enc_Gate)⟩] ∧ i1 + k = c.Gates.length ∧ forX (F_impl_PathSumOf_l2 c) k i1 (Ins, Vars, Root, Phase, poly, values1) = some z1) c.Gates.length ⟨0, c.Qubits, 0, 0, 0, ([] : List (Int × Int)), values, (FF.cons (hf.get 2 1 rfl) (FF.cons (hf.get 4 2 rfl) (FF.cons rfl (FF.cons rfl (FF.cons rfl FF.nil))))), rfl, (hS9.sel [1, 2, 3, 4] rfl rfl), Nat.zero_add _, hz1⟩ ?_
      rintro k_2 f w ⟨i1, Ins, Vars, Root, Phase, poly, values1, hf2, hl, hS19, hik1, hL2⟩
      refine cw_seq ?_
      refine cw_region ?_
      refine sq 40 rfl rfl (Y_lt (k := .i64) (a := (i1 : Int)) (b := (c.Gates.length : Int)) rfl (hf2.get 39 4 rfl) (hf2.get 38 3 rfl)) ?_
      refine rw_nil ?_
      refine cw_seq ?_
      refine cw_cond (b := (decide ((i1 : Int) < (c.Gates.length : Int)))) rfl (fun hlt2 => ?_) (fun hlt2 => ?_)
      · skip
        have hlt3 : i1 < c.Gates.length := by have h := of_decide_eq_true hlt2; omega
        obtain ⟨k_3, rfl⟩ : ∃ k2, k_2 = k2 + 1 := ⟨k_2 - 1, by omega⟩
        obtain ⟨y1, hb2, hL3⟩ := forX_go hL2
        unfold F_impl_PathSumOf_l2 at hb2
        refine cw_skip ?_
        refine cw_seq ?_
        refine cw_block ?_
        refine cw_seq ?_
        refine cw_region ?_
        obtain ⟨x, hx, hb2⟩ := bind_inv hb2
        refine sq 41 rfl rfl (Y_index (B := B) (m := c.Gates.length) (c := c1) (k := .i64) (i := (i1 : Int)) k_sl_26_76 k_sz_76_3 rfl (hf2.get 37 2 rfl) (hf2.get 39 4 rfl) (gi_isSome enc_Gate_len rfl (hS19.rf (i := 0) rfl) hx) (getI_nn hx) (getI_ltI hx rfl)) ?_
        refine sq 42 rfl rfl (Y_loadA (B := B) (i := (i1 : Int).toNat * 3) (cs := (c.Gates.flatMap enc_Gate)) (vs := [.int .i64 x.Kind, .int .i64 x.A, .int .i64 x.B]) k_ag_76 k_sz_76_3 rfl rfl (hS19.rf (i := 0) rfl) (enc_Gate_len x) (gi_seg enc_Gate_len hx)) ?_
        refine ss 7 rfl rfl (Ys_alloc (T := 76) (cs := [.int .i64 0, .int .i64 0, .int .i64 0]) (m := 3) hS19 k_zero_76 rfl rfl rfl) ?_
        rintro _ w_12 ⟨b4, rfl, hS20⟩
        have hS20 : ST w0 [] _ [⟨some ⟨b1, 0, none⟩, 57, [.int .i64 0, .int .i64 0, .int .i64 0, .int .i64 0, .slice none 0 0, .slice none 0 0], 6⟩, ⟨some ⟨b2, 0, none⟩, 107, [.int .i64 Ins, .int .i64 Vars, .int .i64 Root, .int .i64 Phase, .slice none 0 0, .slice none 0 0, .map (some g), .slice B3 values.length c4], 8⟩, ⟨(some ⟨g, 0, none⟩), .mp (mpE (Value.int .i64) (Value.int .i64) poly), [], 0⟩, ⟨B3, 61, (values1.flatMap enc_Affine), c4 * 2⟩, ⟨some ⟨b4, 0, none⟩, 76, [.int .i64 0, .int .i64 0, .int .i64 0], 3⟩] [⟨B, (c.Gates.flatMap enc_Gate)⟩] := hS20
        refine ss0 rfl rfl (Ys_store (i := 4) (s := 3) (B := some ⟨b4, 0, none⟩) (T' := 76) (v := .agg #[.int .i64 x.Kind, .int .i64 x.A, .int .i64 x.B]) (vs := [.int .i64 x.Kind, .int .i64 x.A, .int .i64 x.B]) (k := 0) (cs' := [.int .i64 x.Kind, .int .i64 x.A, .int .i64 x.B]) hS20 k_sz_76_3 rfl rfl rfl rfl rfl rfl rfl (Nat.le_of_ble_eq_true rfl) rfl rfl) ?_
        rintro _ w_13 ⟨rfl, hS21⟩
        have hS21 : ST w0 [] _ [⟨some ⟨b1, 0, none⟩, 57, [.int .i64 0, .int .i64 0, .int .i64 0, .int .i64 0, .slice none 0 0, .slice none 0 0], 6⟩, ⟨some ⟨b2, 0, none⟩, 107, [.int .i64 Ins, .int .i64 Vars, .int .i64 Root, .int .i64 Phase, .slice none 0 0, .slice none 0 0, .map (some g), .slice B3 values.length c4], 8⟩, ⟨(some ⟨g, 0, none⟩), .mp (mpE (Value.int .i64) (Value.int .i64) poly), [], 0⟩, ⟨B3, 61, (values1.flatMap enc_Affine), c4 * 2⟩, ⟨some ⟨b4, 0, none⟩, 76, [.int .i64 x.Kind, .int .i64 x.A, .int .i64 x.B], 3⟩] [⟨B, (c.Gates.flatMap enc_Gate)⟩] := hS21
        refine rw_nil ?_
        refine cw_seq ?_
        refine cw_region ?_
        refine sq 43 rfl rfl (Y_move (v := pt (some ⟨b2, 0, none⟩) 0) rfl (hf2.get 4 1 rfl)) ?_
        refine sq 44 rfl rfl (Y_loadA (B := some ⟨b4, 0, none⟩) (i := 0) (cs := [.int .i64 x.Kind, .int .i64 x.A, .int .i64 x.B]) (vs := [.int .i64 x.Kind, .int .i64 x.A, .int .i64 x.B]) k_ag_76 k_sz_76_3 rfl rfl (hS21.cf (i := 4) rfl) rfl rfl) ?_
        obtain ⟨⟨r_3, m, m1, m2⟩, hc1, hb2⟩ := bind_inv hb2
        have hS22 := hS21.addNil 136
        have hS23 := hS22.addNil 61
        refine sc 45 rfl rfl (Yc_func (g := 67) (vs := [pt (some ⟨b2, 0, none⟩) 0, .agg #[.int .i64 x.Kind, .int .i64 x.A, .int .i64 x.B]]) k_call_67 rfl (mc rfl (mc rfl mn)) (c_impl_summer_process (Tsummer.mk (TPathSum.mk Ins Vars Root Phase [] []) poly values1) x (some ⟨b2, 0, none⟩) none 0 0 none 0 0 g B3 c4 values.length _ rfl rfl hl (hS23.inn [false, true, true, true, false, false, false] rfl [(false, 2), (false, 3)] rfl) hc1)) ?_
        rintro _ w_14 ⟨rfl, hl1, hd1⟩
        have hS24 := hS23.out [false, true, true, true, false, false, false] rfl hd1
        have hS24 : ST w0 [] _ [⟨some ⟨b1, 0, none⟩, 57, [.int .i64 0, .int .i64 0, .int .i64 0, .int .i64 0, .slice none 0 0, .slice none 0 0], 6⟩, ⟨some ⟨b4, 0, none⟩, 76, [.int .i64 x.Kind, .int .i64 x.A, .int .i64 x.B], 3⟩, ⟨none, 136, ([].flatMap enc_Term), 0 * 2⟩, ⟨none, 61, ([].flatMap enc_Affine), 0 * 2⟩, ⟨some ⟨b2, 0, none⟩, 107, [.int .i64 m.sum.Ins, .int .i64 m.sum.Vars, .int .i64 m.sum.Root, .int .i64 m.sum.Phase, .slice none 0 0, .slice none 0 0, .map (some g), .slice B3 values.length c4], 8⟩, ⟨(some ⟨g, 0, none⟩), .mp (mpE (Value.int .i64) (Value.int .i64) m1), [], 0⟩, ⟨B3, 61, (m2.flatMap enc_Affine), c4 * 2⟩] [⟨B, (c.Gates.flatMap enc_Gate)⟩] := hS24
        refine sq 46 rfl rfl (Y_not (p := r_3) rfl rfl) ?_
        refine rw_nil ?_
        refine cw_cond (b := (!r_3)) rfl (fun hb3 => ?_) (fun hb3 => ?_)
        · skip
          have hF5 := ct hb2 hb3
          refine cw_seq ?_
          refine cw_region ?_
          refine sq 47 rfl rfl (Y_buildS (zs := [.int .i64 0, .int .i64 0, .int .i64 0, .int .i64 0, .slice none 0 0, .slice none 0 0]) (vs := []) (cs := [.int .i64 0, .int .i64 0, .int .i64 0, .int .i64 0, .slice none 0 0, .slice none 0 0]) k_pl_57 k_zero_57 rfl mpn rfl) ?_
          refine ss0 rfl rfl (Ys_store (i := 0) (s := 6) (B := some ⟨b1, 0, none⟩) (T' := 57) (v := .agg #[.int .i64 0, .int .i64 0, .int .i64 0, .int .i64 0, .slice none 0 0, .slice none 0 0]) (vs := [.int .i64 0, .int .i64 0, .int .i64 0, .int .i64 0, .slice none 0 0, .slice none 0 0]) (k := 0) (cs' := [.int .i64 0, .int .i64 0, .int .i64 0, .int .i64 0, .slice none 0 0, .slice none 0 0]) hS24 k_sz_57_6 rfl (hf2.get 2 0 rfl) rfl rfl rfl rfl rfl (Nat.le_of_ble_eq_true rfl) rfl rfl) ?_
          rintro _ w_15 ⟨rfl, hS25⟩
          have hS25 : ST w0 [] _ [⟨some ⟨b1, 0, none⟩, 57, [.int .i64 0, .int .i64 0, .int .i64 0, .int .i64 0, .slice none 0 0, .slice none 0 0], 6⟩, ⟨some ⟨b4, 0, none⟩, 76, [.int .i64 x.Kind, .int .i64 x.A, .int .i64 x.B], 3⟩, ⟨none, 136, ([].flatMap enc_Term), 0 * 2⟩, ⟨none, 61, ([].flatMap enc_Affine), 0 * 2⟩, ⟨some ⟨b2, 0, none⟩, 107, [.int .i64 m.sum.Ins, .int .i64 m.sum.Vars, .int .i64 m.sum.Root, .int .i64 m.sum.Phase, .slice none 0 0, .slice none 0 0, .map (some g), .slice B3 values.length c4], 8⟩, ⟨(some ⟨g, 0, none⟩), .mp (mpE (Value.int .i64) (Value.int .i64) m1), [], 0⟩, ⟨B3, 61, (m2.flatMap enc_Affine), c4 * 2⟩] [⟨B, (c.Gates.flatMap enc_Gate)⟩] := hS25
          refine sq 3 rfl rfl (Y_assign (v := .bool false) rfl rfl) ?_
          refine rw_nil ?_
          refine cw_ret ?_
          have hS26 := hS25.addNil 136
          have hS27 := hS26.addNil 61
          obtain rfl := some_inj hF5
          obtain rfl := some_inj hL3
          obtain ⟨rfl, rfl⟩ := pr2 (some_inj hF4)
          exact ret2 Try.results29 (v1 := .agg #[.int .i64 0, .int .i64 0, .int .i64 0, .int .i64 0, .slice none 0 0, .slice none 0 0]) (resAt_cellA (B := some ⟨b1, 0, none⟩) (i := 0) (cs := [.int .i64 0, .int .i64 0, .int .i64 0, .int .i64 0, .slice none 0 0, .slice none 0 0]) (vs := [.int .i64 0, .int .i64 0, .int .i64 0, .int .i64 0, .slice none 0 0, .slice none 0 0]) (hf2.get 2 0 rfl) k_ag_57 k_sz_57_6 (hS27.cf (i := 0) rfl) rfl rfl) (v2 := .bool false) (resAt_tmp rfl) ⟨none, 0, none, 0, rfl, (ST.subR (R' := []) (hS27.sel [7, 8] rfl rfl) (fun _ h => by cases h))⟩
        · skip
          have hF6 := cf' hb2 hb3
          refine cw_skip ?_
          refine cw_region ?_
          refine sq 48 rfl rfl (Y_add (k := .i64) (a := (i1 : Int)) (b := 1) rfl (hf2.get 39 4 rfl) rfl) ?_
          refine sq 39 rfl rfl (Y_move (v := .int .i64 (IntKind.i64.wrap ((i1 : Int) + 1))) rfl rfl) ?_
          refine rw_nil ?_
          obtain rfl := some_inj hF6
          exact ⟨k_3, Nat.lt_succ_self _, i1 + 1, m.sum.Ins, m.sum.Vars, m.sum.Root, m.sum.Phase, m1, m2, (FF.cons (hf2.get 2 0 rfl) (FF.cons (hf2.get 4 1 rfl) (FF.cons (hf2.get 37 2 rfl) (FF.cons (hf2.get 38 3 rfl) (FF.cons (congrArg (Value.int .i64) (wr_succ hlt3 hN1)) FF.nil))))), hl1, (hS24.sel [0, 4, 5, 6] rfl rfl), (by omega), hL3⟩
      · skip
        obtain rfl : k_2 = 0 := by have h := of_decide_eq_false hlt2; omega
        refine cw_exit rfl ?_
        obtain rfl := some_inj hL2
        refine cw_seq ?_
        obtain ⟨r_4, hc2, hF4⟩ := bind_inv hF4
        refine cw_mid (fun f w => ∃ (B7 : Option Addr) (c8 : Nat), FF f [(2, pt (some ⟨b1, 0, none⟩) 0), (4, pt (some ⟨b2, 0, none⟩) 0)] ∧ ST w0 [] w [⟨some ⟨b1, 0, none⟩, 57, [.int .i64 0, .int .i64 0, .int .i64 0, .int .i64 0, .slice none 0 0, .slice none 0 0], 6⟩, ⟨some ⟨b2, 0, none⟩, 107, [.int .i64 Ins, .int .i64 Vars, .int .i64 Root, .int .i64 (mgt poly 0 0), .slice B7 r_4.length c8, .slice B3 values.length c4, .map (some g), .slice B3 values.length c4], 8⟩, ⟨B7, 136, (r_4.flatMap enc_Term), c8 * 2⟩, ⟨B3, 61, (values1.flatMap enc_Affine), c4 * 2⟩, ⟨(some ⟨g, 0, none⟩), .mp (mpE (Value.int .i64) (Value.int .i64) poly), [], 0⟩] [⟨B, (c.Gates.flatMap enc_Gate)⟩]) ?_ ?_
        · skip
          refine ra_start (ST.sel hS19 [0, 3] rfl rfl).fn (by kernel_rfl) ?_
          have hS30 := hS19.drew
          refine ra_q 0 49 (v := pt (some ⟨b2, 0, none⟩) 0) rfl rfl rfl (by kernel_rfl) (by kernel_rfl) (by kernel_rfl) (ST.sel hS30 [0, 3] rfl rfl) (fun w' hw' => (Y_move (v := pt (some ⟨b2, 0, none⟩) 0) rfl (hf2.get 4 1 rfl))) ?_
          refine ra_q 1 50 (v := pt (some ⟨b2, 0, none⟩) 0) rfl rfl rfl (by kernel_rfl) (by kernel_rfl) (by kernel_rfl) (ST.sel hS30 [0, 3] rfl rfl) (fun w' hw' => (Y_move (v := pt (some ⟨b2, 0, none⟩) 0) rfl (hf2.get 4 1 rfl))) ?_
          refine ra_q 2 51 (v := pt (some ⟨b2, 0, none⟩) 0) rfl rfl rfl (by kernel_rfl) (by kernel_rfl) (by kernel_rfl) (ST.sel hS30 [0, 3] rfl rfl) (fun w' hw' => (Y_move (v := pt (some ⟨b2, 0, none⟩) 0) rfl (hf2.get 4 1 rfl))) ?_
          refine ra_q 3 52 (v := pt (some ⟨b2, 0, none⟩) 0) rfl rfl rfl (by kernel_rfl) (by kernel_rfl) (by kernel_rfl) (ST.sel hS30 [0, 3] rfl rfl) (fun w' hw' => (Y_move (v := pt (some ⟨b2, 0, none⟩) 0) rfl (hf2.get 4 1 rfl))) ?_
          refine ra_q 4 53 (v := pt (some ⟨b2, 0, none⟩) 0) rfl rfl rfl (by kernel_rfl) (by kernel_rfl) (by kernel_rfl) (ST.sel hS30 [0, 3] rfl rfl) (fun w' hw' => (Y_nilCheck (B := some ⟨b2, 0, none⟩) (i := 0) rfl rfl)) ?_
          refine ra_q 5 54 (v := pt (some ⟨b2, 0, none⟩) 6) rfl rfl rfl (by kernel_rfl) (by kernel_rfl) (by kernel_rfl) (ST.sel hS30 [0, 3] rfl rfl) (fun w' hw' => (Y_fieldAddr (B := some ⟨b2, 0, none⟩) (i := 0) (s := 0) k_fd_107_1_6_105 k_sz_105_1 rfl rfl)) ?_
          refine ra_q 8 57 (v := pt (some ⟨b2, 0, none⟩) 0) rfl rfl rfl (by kernel_rfl) (by kernel_rfl) (by kernel_rfl) (ST.sel hS30 [0, 3] rfl rfl) (fun w' hw' => (Y_move (v := pt (some ⟨b2, 0, none⟩) 0) rfl (hf2.get 4 1 rfl))) ?_
          refine ra_q 9 58 (v := pt (some ⟨b2, 0, none⟩) 0) rfl rfl rfl (by kernel_rfl) (by kernel_rfl) (by kernel_rfl) (ST.sel hS30 [0, 3] rfl rfl) (fun w' hw' => (Y_nilCheck (B := some ⟨b2, 0, none⟩) (i := 0) rfl rfl)) ?_
          refine ra_q 10 59 (v := pt (some ⟨b2, 0, none⟩) 6) rfl rfl rfl (by kernel_rfl) (by kernel_rfl) (by kernel_rfl) (ST.sel hS30 [0, 3] rfl rfl) (fun w' hw' => (Y_fieldAddr (B := some ⟨b2, 0, none⟩) (i := 0) (s := 0) k_fd_107_1_6_105 k_sz_105_1 rfl rfl)) ?_
          refine ra_q 13 62 (v := pt (some ⟨b2, 0, none⟩) 0) rfl rfl rfl (by kernel_rfl) (by kernel_rfl) (by kernel_rfl) (ST.sel hS30 [0, 3] rfl rfl) (fun w' hw' => (Y_move (v := pt (some ⟨b2, 0, none⟩) 0) rfl (hf2.get 4 1 rfl))) ?_
          refine ra_q 14 63 (v := pt (some ⟨b2, 0, none⟩) 0) rfl rfl rfl (by kernel_rfl) (by kernel_rfl) (by kernel_rfl) (ST.sel hS30 [0, 3] rfl rfl) (fun w' hw' => (Y_nilCheck (B := some ⟨b2, 0, none⟩) (i := 0) rfl rfl)) ?_
          refine ra_q 15 64 (v := pt (some ⟨b2, 0, none⟩) 7) rfl rfl rfl (by kernel_rfl) (by kernel_rfl) (by kernel_rfl) (ST.sel hS30 [0, 3] rfl rfl) (fun w' hw' => (Y_fieldAddr (B := some ⟨b2, 0, none⟩) (i := 0) (s := 0) k_fd_107_2_7_55 k_sz_55_1 rfl rfl)) ?_
          refine ra_all (rs := [6, 11, 16]) (by kernel_rfl) rfl ?_
          refine ra_y 55 (i := 6) (v := .map (some g)) rfl rfl rfl (Y_load1 (B := some ⟨b2, 0, none⟩) (i := 6) (cs := [.int .i64 Ins, .int .i64 Vars, .int .i64 Root, .int .i64 Phase, .slice none 0 0, .slice none 0 0, .map (some g), .slice B3 values.length c4]) (v := .map (some g)) k_sc_105 rfl rfl (hS30.cf (i := 1) rfl) rfl) (ST.sel hS30 [0, 3] rfl rfl) ?_ ?_
          · skip
            refine ra_all (rs := [7, 11, 16]) (by kernel_rfl) rfl ?_
            refine ra_y 56 (i := 7) (v := .int .i64 (mgt poly 0 0)) rfl rfl rfl (Y_mapGet (kE := (Value.int .i64)) (vE := (Value.int .i64)) (l := poly) (a := 0) (d := 0) (g := g) (i := 2) hS30 (keyInt k_int_3_i64) k_map_105_3_3 k_zero_3 rfl rfl rfl rfl) (ST.sel hS30 [0, 3] rfl rfl) ?_ ?_
            · skip
              refine ra_all (rs := [11, 16]) (by kernel_rfl) rfl ?_
              refine ra_y 60 (i := 11) (v := .map (some g)) rfl rfl rfl (Y_load1 (B := some ⟨b2, 0, none⟩) (i := 6) (cs := [.int .i64 Ins, .int .i64 Vars, .int .i64 Root, .int .i64 Phase, .slice none 0 0, .slice none 0 0, .map (some g), .slice B3 values.length c4]) (v := .map (some g)) k_sc_105 rfl rfl (hS30.cf (i := 1) rfl) rfl) (ST.sel hS30 [0, 3] rfl rfl) ?_ ?_
              · skip
                refine ra_all (rs := [12, 16]) (by kernel_rfl) rfl ?_
                refine ra_c 61 (i := 12) rfl rfl rfl (Yc_func (g := 68) (vs := [.map (some g)]) k_call_68 rfl (mc rfl mn) (c_impl_polynomial_terms poly g _  (hS30.inn [false, false, true, false] rfl [] rfl) hc2)) ?_ ?_
                · rintro _ w_16 ⟨B6, c7, rfl, hd2⟩
                  have hS31 := hS30.out [false, false, true, false] rfl hd2
                  have hS31 : ST w0 [] _ [⟨some ⟨b1, 0, none⟩, 57, [.int .i64 0, .int .i64 0, .int .i64 0, .int .i64 0, .slice none 0 0, .slice none 0 0], 6⟩, ⟨some ⟨b2, 0, none⟩, 107, [.int .i64 Ins, .int .i64 Vars, .int .i64 Root, .int .i64 Phase, .slice none 0 0, .slice none 0 0, .map (some g), .slice B3 values.length c4], 8⟩, ⟨B3, 61, (values1.flatMap enc_Affine), c4 * 2⟩, ⟨(some ⟨g, 0, none⟩), .mp (mpE (Value.int .i64) (Value.int .i64) poly), [], 0⟩, ⟨B6, 136, (r_4.flatMap enc_Term), c7 * 2⟩] [⟨B, (c.Gates.flatMap enc_Gate)⟩] := hS31
                  refine ⟨(ST.sel hS31 [0, 2] rfl rfl), ?_⟩
                  refine ra_all (rs := [16]) (by kernel_rfl) rfl ?_
                  refine ra_y 65 (i := 16) (v := .slice B3 values.length c4) rfl rfl rfl (Y_load1 (B := some ⟨b2, 0, none⟩) (i := 7) (cs := [.int .i64 Ins, .int .i64 Vars, .int .i64 Root, .int .i64 Phase, .slice none 0 0, .slice none 0 0, .map (some g), .slice B3 values.length c4]) (v := .slice B3 values.length c4) k_sc_55 rfl rfl (hS31.cf (i := 1) rfl) rfl) (ST.sel hS31 [0, 2] rfl rfl) ?_ ?_
                  · skip
                    refine ra_q 17 66 (v := pt (some ⟨b2, 0, none⟩) 0) rfl rfl rfl (by kernel_rfl) (by kernel_rfl) (by kernel_rfl) (ST.sel hS31 [0, 2] rfl rfl) (fun w' hw' => (Y_nilCheck (B := some ⟨b2, 0, none⟩) (i := 0) rfl rfl)) ?_
                    refine ra_q 18 67 (v := pt (some ⟨b2, 0, none⟩) 0) rfl rfl rfl (by kernel_rfl) (by kernel_rfl) (by kernel_rfl) (ST.sel hS31 [0, 2] rfl rfl) (fun w' hw' => (Y_fieldAddr (B := some ⟨b2, 0, none⟩) (i := 0) (s := 5) k_fd_107_0_0_57 k_sz_57_6 rfl rfl)) ?_
                    refine ra_q 19 68 (v := pt (some ⟨b2, 0, none⟩) 3) rfl rfl rfl (by kernel_rfl) (by kernel_rfl) (by kernel_rfl) (ST.sel hS31 [0, 2] rfl rfl) (fun w' hw' => (Y_fieldAddr (B := some ⟨b2, 0, none⟩) (i := 0) (s := 0) k_fd_57_3_3_3 k_sz_3_1 rfl rfl)) ?_
                    refine ra_all (rs := [20]) (by kernel_rfl) rfl ?_
                    refine ra_s0 (i := 20) rfl rfl rfl (Ys_store (i := 1) (s := 1) (B := some ⟨b2, 0, none⟩) (T' := 107) (v := .int .i64 (mgt poly 0 0)) (vs := [.int .i64 (mgt poly 0 0)]) (k := 3) (cs' := [.int .i64 Ins, .int .i64 Vars, .int .i64 Root, .int .i64 (mgt poly 0 0), .slice none 0 0, .slice none 0 0, .map (some g), .slice B3 values.length c4]) hS31 k_sz_3_1 rfl rfl rfl rfl rfl rfl rfl (Nat.le_of_ble_eq_true rfl) rfl rfl) ?_ ?_
                    · rintro _ w_17 ⟨rfl, hS32⟩
                      have hS32 : ST w0 [] _ [⟨some ⟨b1, 0, none⟩, 57, [.int .i64 0, .int .i64 0, .int .i64 0, .int .i64 0, .slice none 0 0, .slice none 0 0], 6⟩, ⟨some ⟨b2, 0, none⟩, 107, [.int .i64 Ins, .int .i64 Vars, .int .i64 Root, .int .i64 (mgt poly 0 0), .slice none 0 0, .slice none 0 0, .map (some g), .slice B3 values.length c4], 8⟩, ⟨B3, 61, (values1.flatMap enc_Affine), c4 * 2⟩, ⟨(some ⟨g, 0, none⟩), .mp (mpE (Value.int .i64) (Value.int .i64) poly), [], 0⟩, ⟨B6, 136, (r_4.flatMap enc_Term), c7 * 2⟩] [⟨B, (c.Gates.flatMap enc_Gate)⟩] := hS32
                      refine ⟨(ST.sel hS32 [0, 2] rfl rfl), ?_⟩
                      refine ra_q 21 69 (v := pt (some ⟨b2, 0, none⟩) 0) rfl rfl rfl (by kernel_rfl) (by kernel_rfl) (by kernel_rfl) (ST.sel hS32 [0, 2] rfl rfl) (fun w' hw' => (Y_nilCheck (B := some ⟨b2, 0, none⟩) (i := 0) rfl rfl)) ?_
                      refine ra_q 22 70 (v := pt (some ⟨b2, 0, none⟩) 0) rfl rfl rfl (by kernel_rfl) (by kernel_rfl) (by kernel_rfl) (ST.sel hS32 [0, 2] rfl rfl) (fun w' hw' => (Y_fieldAddr (B := some ⟨b2, 0, none⟩) (i := 0) (s := 5) k_fd_107_0_0_57 k_sz_57_6 rfl rfl)) ?_
                      refine ra_q 23 71 (v := pt (some ⟨b2, 0, none⟩) 4) rfl rfl rfl (by kernel_rfl) (by kernel_rfl) (by kernel_rfl) (ST.sel hS32 [0, 2] rfl rfl) (fun w' hw' => (Y_fieldAddr (B := some ⟨b2, 0, none⟩) (i := 0) (s := 0) k_fd_57_4_4_54 k_sz_54_1 rfl rfl)) ?_
                      refine ra_all (rs := [24]) (by kernel_rfl) rfl ?_
                      refine ra_s0 (i := 24) rfl rfl rfl (Ys_store (i := 1) (s := 1) (B := some ⟨b2, 0, none⟩) (T' := 107) (v := .slice B6 r_4.length c7) (vs := [.slice B6 r_4.length c7]) (k := 4) (cs' := [.int .i64 Ins, .int .i64 Vars, .int .i64 Root, .int .i64 (mgt poly 0 0), .slice B6 r_4.length c7, .slice none 0 0, .map (some g), .slice B3 values.length c4]) hS32 k_sz_54_1 rfl rfl rfl rfl rfl rfl rfl (Nat.le_of_ble_eq_true rfl) rfl rfl) ?_ ?_
                      · rintro _ w_18 ⟨rfl, hS33⟩
                        have hS33 : ST w0 [] _ [⟨some ⟨b1, 0, none⟩, 57, [.int .i64 0, .int .i64 0, .int .i64 0, .int .i64 0, .slice none 0 0, .slice none 0 0], 6⟩, ⟨some ⟨b2, 0, none⟩, 107, [.int .i64 Ins, .int .i64 Vars, .int .i64 Root, .int .i64 (mgt poly 0 0), .slice B6 r_4.length c7, .slice none 0 0, .map (some g), .slice B3 values.length c4], 8⟩, ⟨B3, 61, (values1.flatMap enc_Affine), c4 * 2⟩, ⟨(some ⟨g, 0, none⟩), .mp (mpE (Value.int .i64) (Value.int .i64) poly), [], 0⟩, ⟨B6, 136, (r_4.flatMap enc_Term), c7 * 2⟩] [⟨B, (c.Gates.flatMap enc_Gate)⟩] := hS33
                        refine ⟨(ST.sel hS33 [0, 2] rfl rfl), ?_⟩
                        refine ra_q 25 72 (v := pt (some ⟨b2, 0, none⟩) 0) rfl rfl rfl (by kernel_rfl) (by kernel_rfl) (by kernel_rfl) (ST.sel hS33 [0, 2] rfl rfl) (fun w' hw' => (Y_nilCheck (B := some ⟨b2, 0, none⟩) (i := 0) rfl rfl)) ?_
                        refine ra_q 26 73 (v := pt (some ⟨b2, 0, none⟩) 0) rfl rfl rfl (by kernel_rfl) (by kernel_rfl) (by kernel_rfl) (ST.sel hS33 [0, 2] rfl rfl) (fun w' hw' => (Y_fieldAddr (B := some ⟨b2, 0, none⟩) (i := 0) (s := 5) k_fd_107_0_0_57 k_sz_57_6 rfl rfl)) ?_
                        refine ra_q 27 74 (v := pt (some ⟨b2, 0, none⟩) 5) rfl rfl rfl (by kernel_rfl) (by kernel_rfl) (by kernel_rfl) (ST.sel hS33 [0, 2] rfl rfl) (fun w' hw' => (Y_fieldAddr (B := some ⟨b2, 0, none⟩) (i := 0) (s := 0) k_fd_57_5_5_55 k_sz_55_1 rfl rfl)) ?_
                        refine ra_all (rs := [28]) (by kernel_rfl) rfl ?_
                        refine ra_s0 (i := 28) rfl rfl rfl (Ys_store (i := 1) (s := 1) (B := some ⟨b2, 0, none⟩) (T' := 107) (v := .slice B3 values.length c4) (vs := [.slice B3 values.length c4]) (k := 5) (cs' := [.int .i64 Ins, .int .i64 Vars, .int .i64 Root, .int .i64 (mgt poly 0 0), .slice B6 r_4.length c7, .slice B3 values.length c4, .map (some g), .slice B3 values.length c4]) hS33 k_sz_55_1 rfl rfl rfl rfl rfl rfl rfl (Nat.le_of_ble_eq_true rfl) rfl rfl) ?_ ?_
                        · rintro _ w_19 ⟨rfl, hS34⟩
                          have hS34 : ST w0 [] _ [⟨some ⟨b1, 0, none⟩, 57, [.int .i64 0, .int .i64 0, .int .i64 0, .int .i64 0, .slice none 0 0, .slice none 0 0], 6⟩, ⟨some ⟨b2, 0, none⟩, 107, [.int .i64 Ins, .int .i64 Vars, .int .i64 Root, .int .i64 (mgt poly 0 0), .slice B6 r_4.length c7, .slice B3 values.length c4, .map (some g), .slice B3 values.length c4], 8⟩, ⟨B3, 61, (values1.flatMap enc_Affine), c4 * 2⟩, ⟨(some ⟨g, 0, none⟩), .mp (mpE (Value.int .i64) (Value.int .i64) poly), [], 0⟩, ⟨B6, 136, (r_4.flatMap enc_Term), c7 * 2⟩] [⟨B, (c.Gates.flatMap enc_Gate)⟩] := hS34
                          refine ⟨(ST.sel hS34 [0, 2] rfl rfl), ?_⟩
                          refine ra_done (by kernel_rfl) ?_
                          exact ⟨B6, c7, (FF.cons (hf2.get 2 0 rfl) (FF.cons (hf2.get 4 1 rfl) FF.nil)), (hS34.sel [0, 1, 4, 2, 3] rfl rfl)⟩
                        exact allR_nil
                      exact allR_nil
                    exact allR_nil
                  exact allR_nil
                refine ra_y 65 (i := 16) (v := .slice B3 values.length c4) rfl rfl rfl (Y_load1 (B := some ⟨b2, 0, none⟩) (i := 7) (cs := [.int .i64 Ins, .int .i64 Vars, .int .i64 Root, .int .i64 Phase, .slice none 0 0, .slice none 0 0, .map (some g), .slice B3 values.length c4]) (v := .slice B3 values.length c4) k_sc_55 rfl rfl (hS30.cf (i := 1) rfl) rfl) (ST.sel hS30 [0, 3] rfl rfl) ?_ ?_
                · skip
                  refine ra_all (rs := [12]) (by kernel_rfl) rfl ?_
                  refine ra_c 61 (i := 12) rfl rfl rfl (Yc_func (g := 68) (vs := [.map (some g)]) k_call_68 rfl (mc rfl mn) (c_impl_polynomial_terms poly g _  (hS30.inn [false, false, true, false] rfl [] rfl) hc2)) ?_ ?_
                  · rintro _ w_20 ⟨B6, c7, rfl, hd3⟩
                    have hS35 := hS30.out [false, false, true, false] rfl hd3
                    have hS35 : ST w0 [] _ [⟨some ⟨b1, 0, none⟩, 57, [.int .i64 0, .int .i64 0, .int .i64 0, .int .i64 0, .slice none 0 0, .slice none 0 0], 6⟩, ⟨some ⟨b2, 0, none⟩, 107, [.int .i64 Ins, .int .i64 Vars, .int .i64 Root, .int .i64 Phase, .slice none 0 0, .slice none 0 0, .map (some g), .slice B3 values.length c4], 8⟩, ⟨B3, 61, (values1.flatMap enc_Affine), c4 * 2⟩, ⟨(some ⟨g, 0, none⟩), .mp (mpE (Value.int .i64) (Value.int .i64) poly), [], 0⟩, ⟨B6, 136, (r_4.flatMap enc_Term), c7 * 2⟩] [⟨B, (c.Gates.flatMap enc_Gate)⟩] := hS35
                    refine ⟨(ST.sel hS35 [0, 2] rfl rfl), ?_⟩
                    refine ra_q 17 66 (v := pt (some ⟨b2, 0, none⟩) 0) rfl rfl rfl (by kernel_rfl) (by kernel_rfl) (by kernel_rfl) (ST.sel hS35 [0, 2] rfl rfl) (fun w' hw' => (Y_nilCheck (B := some ⟨b2, 0, none⟩) (i := 0) rfl rfl)) ?_
                    refine ra_q 18 67 (v := pt (some ⟨b2, 0, none⟩) 0) rfl rfl rfl (by kernel_rfl) (by kernel_rfl) (by kernel_rfl) (ST.sel hS35 [0, 2] rfl rfl) (fun w' hw' => (Y_fieldAddr (B := some ⟨b2, 0, none⟩) (i := 0) (s := 5) k_fd_107_0_0_57 k_sz_57_6 rfl rfl)) ?_
                    refine ra_q 19 68 (v := pt (some ⟨b2, 0, none⟩) 3) rfl rfl rfl (by kernel_rfl) (by kernel_rfl) (by kernel_rfl) (ST.sel hS35 [0, 2] rfl rfl) (fun w' hw' => (Y_fieldAddr (B := some ⟨b2, 0, none⟩) (i := 0) (s := 0) k_fd_57_3_3_3 k_sz_3_1 rfl rfl)) ?_
                    refine ra_all (rs := [20]) (by kernel_rfl) rfl ?_
                    refine ra_s0 (i := 20) rfl rfl rfl (Ys_store (i := 1) (s := 1) (B := some ⟨b2, 0, none⟩) (T' := 107) (v := .int .i64 (mgt poly 0 0)) (vs := [.int .i64 (mgt poly 0 0)]) (k := 3) (cs' := [.int .i64 Ins, .int .i64 Vars, .int .i64 Root, .int .i64 (mgt poly 0 0), .slice none 0 0, .slice none 0 0, .map (some g), .slice B3 values.length c4]) hS35 k_sz_3_1 rfl rfl rfl rfl rfl rfl rfl (Nat.le_of_ble_eq_true rfl) rfl rfl) ?_ ?_
                    · rintro _ w_21 ⟨rfl, hS36⟩
                      have hS36 : ST w0 [] _ [⟨some ⟨b1, 0, none⟩, 57, [.int .i64 0, .int .i64 0, .int .i64 0, .int .i64 0, .slice none 0 0, .slice none 0 0], 6⟩, ⟨some ⟨b2, 0, none⟩, 107, [.int .i64 Ins, .int .i64 Vars, .int .i64 Root, .int .i64 (mgt poly 0 0), .slice none 0 0, .slice none 0 0, .map (some g), .slice B3 values.length c4], 8⟩, ⟨B3, 61, (values1.flatMap enc_Affine), c4 * 2⟩, ⟨(some ⟨g, 0, none⟩), .mp (mpE (Value.int .i64) (Value.int .i64) poly), [], 0⟩, ⟨B6, 136, (r_4.flatMap enc_Term), c7 * 2⟩] [⟨B, (c.Gates.flatMap enc_Gate)⟩] := hS36
                      refine ⟨(ST.sel hS36 [0, 2] rfl rfl), ?_⟩
                      refine ra_q 21 69 (v := pt (some ⟨b2, 0, none⟩) 0) rfl rfl rfl (by kernel_rfl) (by kernel_rfl) (by kernel_rfl) (ST.sel hS36 [0, 2] rfl rfl) (fun w' hw' => (Y_nilCheck (B := some ⟨b2, 0, none⟩) (i := 0) rfl rfl)) ?_
                      refine ra_q 22 70 (v := pt (some ⟨b2, 0, none⟩) 0) rfl rfl rfl (by kernel_rfl) (by kernel_rfl) (by kernel_rfl) (ST.sel hS36 [0, 2] rfl rfl) (fun w' hw' => (Y_fieldAddr (B := some ⟨b2, 0, none⟩) (i := 0) (s := 5) k_fd_107_0_0_57 k_sz_57_6 rfl rfl)) ?_
                      refine ra_q 23 71 (v := pt (some ⟨b2, 0, none⟩) 4) rfl rfl rfl (by kernel_rfl) (by kernel_rfl) (by kernel_rfl) (ST.sel hS36 [0, 2] rfl rfl) (fun w' hw' => (Y_fieldAddr (B := some ⟨b2, 0, none⟩) (i := 0) (s := 0) k_fd_57_4_4_54 k_sz_54_1 rfl rfl)) ?_
                      refine ra_all (rs := [24]) (by kernel_rfl) rfl ?_
                      refine ra_s0 (i := 24) rfl rfl rfl (Ys_store (i := 1) (s := 1) (B := some ⟨b2, 0, none⟩) (T' := 107) (v := .slice B6 r_4.length c7) (vs := [.slice B6 r_4.length c7]) (k := 4) (cs' := [.int .i64 Ins, .int .i64 Vars, .int .i64 Root, .int .i64 (mgt poly 0 0), .slice B6 r_4.length c7, .slice none 0 0, .map (some g), .slice B3 values.length c4]) hS36 k_sz_54_1 rfl rfl rfl rfl rfl rfl rfl (Nat.le_of_ble_eq_true rfl) rfl rfl) ?_ ?_
                      · rintro _ w_22 ⟨rfl, hS37⟩
                        have hS37 : ST w0 [] _ [⟨some ⟨b1, 0, none⟩, 57, [.int .i64 0, .int .i64 0, .int .i64 0, .int .i64 0, .slice none 0 0, .slice none 0 0], 6⟩, ⟨some ⟨b2, 0, none⟩, 107, [.int .i64 Ins, .int .i64 Vars, .int .i64 Root, .int .i64 (mgt poly 0 0), .slice B6 r_4.length c7, .slice none 0 0, .map (some g), .slice B3 values.length c4], 8⟩, ⟨B3, 61, (values1.flatMap enc_Affine), c4 * 2⟩, ⟨(some ⟨g, 0, none⟩), .mp (mpE (Value.int .i64) (Value.int .i64) poly), [], 0⟩, ⟨B6, 136, (r_4.flatMap enc_Term), c7 * 2⟩] [⟨B, (c.Gates.flatMap enc_Gate)⟩] := hS37
                        refine ⟨(ST.sel hS37 [0, 2] rfl rfl), ?_⟩
                        refine ra_q 25 72 (v := pt (some ⟨b2, 0, none⟩) 0) rfl rfl rfl (by kernel_rfl) (by kernel_rfl) (by kernel_rfl) (ST.sel hS37 [0, 2] rfl rfl) (fun w' hw' => (Y_nilCheck (B := some ⟨b2, 0, none⟩) (i := 0) rfl rfl)) ?_
                        refine ra_q 26 73 (v := pt (some ⟨b2, 0, none⟩) 0) rfl rfl rfl (by kernel_rfl) (by kernel_rfl) (by kernel_rfl) (ST.sel hS37 [0, 2] rfl rfl) (fun w' hw' => (Y_fieldAddr (B := some ⟨b2, 0, none⟩) (i := 0) (s := 5) k_fd_107_0_0_57 k_sz_57_6 rfl rfl)) ?_
                        refine ra_q 27 74 (v := pt (some ⟨b2, 0, none⟩) 5) rfl rfl rfl (by kernel_rfl) (by kernel_rfl) (by kernel_rfl) (ST.sel hS37 [0, 2] rfl rfl) (fun w' hw' => (Y_fieldAddr (B := some ⟨b2, 0, none⟩) (i := 0) (s := 0) k_fd_57_5_5_55 k_sz_55_1 rfl rfl)) ?_
                        refine ra_all (rs := [28]) (by kernel_rfl) rfl ?_
                        refine ra_s0 (i := 28) rfl rfl rfl (Ys_store (i := 1) (s := 1) (B := some ⟨b2, 0, none⟩) (T' := 107) (v := .slice B3 values.length c4) (vs := [.slice B3 values.length c4]) (k := 5) (cs' := [.int .i64 Ins, .int .i64 Vars, .int .i64 Root, .int .i64 (mgt poly 0 0), .slice B6 r_4.length c7, .slice B3 values.length c4, .map (some g), .slice B3 values.length c4]) hS37 k_sz_55_1 rfl rfl rfl rfl rfl rfl rfl (Nat.le_of_ble_eq_true rfl) rfl rfl) ?_ ?_
                        · rintro _ w_23 ⟨rfl, hS38⟩
                          have hS38 : ST w0 [] _ [⟨some ⟨b1, 0, none⟩, 57, [.int .i64 0, .int .i64 0, .int .i64 0, .int .i64 0, .slice none 0 0, .slice none 0 0], 6⟩, ⟨some ⟨b2, 0, none⟩, 107, [.int .i64 Ins, .int .i64 Vars, .int .i64 Root, .int .i64 (mgt poly 0 0), .slice B6 r_4.length c7, .slice B3 values.length c4, .map (some g), .slice B3 values.length c4], 8⟩, ⟨B3, 61, (values1.flatMap enc_Affine), c4 * 2⟩, ⟨(some ⟨g, 0, none⟩), .mp (mpE (Value.int .i64) (Value.int .i64) poly), [], 0⟩, ⟨B6, 136, (r_4.flatMap enc_Term), c7 * 2⟩] [⟨B, (c.Gates.flatMap enc_Gate)⟩] := hS38
                          refine ⟨(ST.sel hS38 [0, 2] rfl rfl), ?_⟩
                          refine ra_done (by kernel_rfl) ?_
                          exact ⟨B6, c7, (FF.cons (hf2.get 2 0 rfl) (FF.cons (hf2.get 4 1 rfl) FF.nil)), (hS38.sel [0, 1, 4, 2, 3] rfl rfl)⟩
                        exact allR_nil
                      exact allR_nil
                    exact allR_nil
                  exact allR_nil
                exact allR_nil
              refine ra_y 65 (i := 16) (v := .slice B3 values.length c4) rfl rfl rfl (Y_load1 (B := some ⟨b2, 0, none⟩) (i := 7) (cs := [.int .i64 Ins, .int .i64 Vars, .int .i64 Root, .int .i64 Phase, .slice none 0 0, .slice none 0 0, .map (some g), .slice B3 values.length c4]) (v := .slice B3 values.length c4) k_sc_55 rfl rfl (hS30.cf (i := 1) rfl) rfl) (ST.sel hS30 [0, 3] rfl rfl) ?_ ?_
              · skip
                refine ra_all (rs := [11]) (by kernel_rfl) rfl ?_
                refine ra_y 60 (i := 11) (v := .map (some g)) rfl rfl rfl (Y_load1 (B := some ⟨b2, 0, none⟩) (i := 6) (cs := [.int .i64 Ins, .int .i64 Vars, .int .i64 Root, .int .i64 Phase, .slice none 0 0, .slice none 0 0, .map (some g), .slice B3 values.length c4]) (v := .map (some g)) k_sc_105 rfl rfl (hS30.cf (i := 1) rfl) rfl) (ST.sel hS30 [0, 3] rfl rfl) ?_ ?_
                · skip
                  refine ra_all (rs := [12]) (by kernel_rfl) rfl ?_
                  refine ra_c 61 (i := 12) rfl rfl rfl (Yc_func (g := 68) (vs := [.map (some g)]) k_call_68 rfl (mc rfl mn) (c_impl_polynomial_terms poly g _  (hS30.inn [false, false, true, false] rfl [] rfl) hc2)) ?_ ?_
                  · rintro _ w_24 ⟨B6, c7, rfl, hd4⟩
                    have hS39 := hS30.out [false, false, true, false] rfl hd4
                    have hS39 : ST w0 [] _ [⟨some ⟨b1, 0, none⟩, 57, [.int .i64 0, .int .i64 0, .int .i64 0, .int .i64 0, .slice none 0 0, .slice none 0 0], 6⟩, ⟨some ⟨b2, 0, none⟩, 107, [.int .i64 Ins, .int .i64 Vars, .int .i64 Root, .int .i64 Phase, .slice none 0 0, .slice none 0 0, .map (some g), .slice B3 values.length c4], 8⟩, ⟨B3, 61, (values1.flatMap enc_Affine), c4 * 2⟩, ⟨(some ⟨g, 0, none⟩), .mp (mpE (Value.int .i64) (Value.int .i64) poly), [], 0⟩, ⟨B6, 136, (r_4.flatMap enc_Term), c7 * 2⟩] [⟨B, (c.Gates.flatMap enc_Gate)⟩] := hS39
                    refine ⟨(ST.sel hS39 [0, 2] rfl rfl), ?_⟩
                    refine ra_q 17 66 (v := pt (some ⟨b2, 0, none⟩) 0) rfl rfl rfl (by kernel_rfl) (by kernel_rfl) (by kernel_rfl) (ST.sel hS39 [0, 2] rfl rfl) (fun w' hw' => (Y_nilCheck (B := some ⟨b2, 0, none⟩) (i := 0) rfl rfl)) ?_
                    refine ra_q 18 67 (v := pt (some ⟨b2, 0, none⟩) 0) rfl rfl rfl (by kernel_rfl) (by kernel_rfl) (by kernel_rfl) (ST.sel hS39 [0, 2] rfl rfl) (fun w' hw' => (Y_fieldAddr (B := some ⟨b2, 0, none⟩) (i := 0) (s := 5) k_fd_107_0_0_57 k_sz_57_6 rfl rfl)) ?_
                    refine ra_q 19 68 (v := pt (some ⟨b2, 0, none⟩) 3) rfl rfl rfl (by kernel_rfl) (by kernel_rfl) (by kernel_rfl) (ST.sel hS39 [0, 2] rfl rfl) (fun w' hw' => (Y_fieldAddr (B := some ⟨b2, 0, none⟩) (i := 0) (s := 0) k_fd_57_3_3_3 k_sz_3_1 rfl rfl)) ?_
                    refine ra_all (rs := [20]) (by kernel_rfl) rfl ?_
                    refine ra_s0 (i := 20) rfl rfl rfl (Ys_store (i := 1) (s := 1) (B := some ⟨b2, 0, none⟩) (T' := 107) (v := .int .i64 (mgt poly 0 0)) (vs := [.int .i64 (mgt poly 0 0)]) (k := 3) (cs' := [.int .i64 Ins, .int .i64 Vars, .int .i64 Root, .int .i64 (mgt poly 0 0), .slice none 0 0, .slice none 0 0, .map (some g), .slice B3 values.length c4]) hS39 k_sz_3_1 rfl rfl rfl rfl rfl rfl rfl (Nat.le_of_ble_eq_true rfl) rfl rfl) ?_ ?_
                    · rintro _ w_25 ⟨rfl, hS40⟩
                      have hS40 : ST w0 [] _ [⟨some ⟨b1, 0, none⟩, 57, [.int .i64 0, .int .i64 0, .int .i64 0, .int .i64 0, .slice none 0 0, .slice none 0 0], 6⟩, ⟨some ⟨b2, 0, none⟩, 107, [.int .i64 Ins, .int .i64 Vars, .int .i64 Root, .int .i64 (mgt poly 0 0), .slice none 0 0, .slice none 0 0, .map (some g), .slice B3 values.length c4], 8⟩, ⟨B3, 61, (values1.flatMap enc_Affine), c4 * 2⟩, ⟨(some ⟨g, 0, none⟩), .mp (mpE (Value.int .i64) (Value.int .i64) poly), [], 0⟩, ⟨B6, 136, (r_4.flatMap enc_Term), c7 * 2⟩] [⟨B, (c.Gates.flatMap enc_Gate)⟩] := hS40
                      refine ⟨(ST.sel hS40 [0, 2] rfl rfl), ?_⟩
                      refine ra_q 21 69 (v := pt (some ⟨b2, 0, none⟩) 0) rfl rfl rfl (by kernel_rfl) (by kernel_rfl) (by kernel_rfl) (ST.sel hS40 [0, 2] rfl rfl) (fun w' hw' => (Y_nilCheck (B := some ⟨b2, 0, none⟩) (i := 0) rfl rfl)) ?_
                      refine ra_q 22 70 (v := pt (some ⟨b2, 0, none⟩) 0) rfl rfl rfl (by kernel_rfl) (by kernel_rfl) (by kernel_rfl) (ST.sel hS40 [0, 2] rfl rfl) (fun w' hw' => (Y_fieldAddr (B := some ⟨b2, 0, none⟩) (i := 0) (s := 5) k_fd_107_0_0_57 k_sz_57_6 rfl rfl)) ?_
                      refine ra_q 23 71 (v := pt (some ⟨b2, 0, none⟩) 4) rfl rfl rfl (by kernel_rfl) (by kernel_rfl) (by kernel_rfl) (ST.sel hS40 [0, 2] rfl rfl) (fun w' hw' => (Y_fieldAddr (B := some ⟨b2, 0, none⟩) (i := 0) (s := 0) k_fd_57_4_4_54 k_sz_54_1 rfl rfl)) ?_
                      refine ra_all (rs := [24]) (by kernel_rfl) rfl ?_
                      refine ra_s0 (i := 24) rfl rfl rfl (Ys_store (i := 1) (s := 1) (B := some ⟨b2, 0, none⟩) (T' := 107) (v := .slice B6 r_4.length c7) (vs := [.slice B6 r_4.length c7]) (k := 4) (cs' := [.int .i64 Ins, .int .i64 Vars, .int .i64 Root, .int .i64 (mgt poly 0 0), .slice B6 r_4.length c7, .slice none 0 0, .map (some g), .slice B3 values.length c4]) hS40 k_sz_54_1 rfl rfl rfl rfl rfl rfl rfl (Nat.le_of_ble_eq_true rfl) rfl rfl) ?_ ?_
                      · rintro _ w_26 ⟨rfl, hS41⟩
                        have hS41 : ST w0 [] _ [⟨some ⟨b1, 0, none⟩, 57, [.int .i64 0, .int .i64 0, .int .i64 0, .int .i64 0, .slice none 0 0, .slice none 0 0], 6⟩, ⟨some ⟨b2, 0, none⟩, 107, [.int .i64 Ins, .int .i64 Vars, .int .i64 Root, .int .i64 (mgt poly 0 0), .slice B6 r_4.length c7, .slice none 0 0, .map (some g), .slice B3 values.length c4], 8⟩, ⟨B3, 61, (values1.flatMap enc_Affine), c4 * 2⟩, ⟨(some ⟨g, 0, none⟩), .mp (mpE (Value.int .i64) (Value.int .i64) poly), [], 0⟩, ⟨B6, 136, (r_4.flatMap enc_Term), c7 * 2⟩] [⟨B, (c.Gates.flatMap enc_Gate)⟩] := hS41
                        refine ⟨(ST.sel hS41 [0, 2] rfl rfl), ?_⟩
                        refine ra_q 25 72 (v := pt (some ⟨b2, 0, none⟩) 0) rfl rfl rfl (by kernel_rfl) (by kernel_rfl) (by kernel_rfl) (ST.sel hS41 [0, 2] rfl rfl) (fun w' hw' => (Y_nilCheck (B := some ⟨b2, 0, none⟩) (i := 0) rfl rfl)) ?_
                        refine ra_q 26 73 (v := pt (some ⟨b2, 0, none⟩) 0) rfl rfl rfl (by kernel_rfl) (by kernel_rfl) (by kernel_rfl) (ST.sel hS41 [0, 2] rfl rfl) (fun w' hw' => (Y_fieldAddr (B := some ⟨b2, 0, none⟩) (i := 0) (s := 5) k_fd_107_0_0_57 k_sz_57_6 rfl rfl)) ?_
                        refine ra_q 27 74 (v := pt (some ⟨b2, 0, none⟩) 5) rfl rfl rfl (by kernel_rfl) (by kernel_rfl) (by kernel_rfl) (ST.sel hS41 [0, 2] rfl rfl) (fun w' hw' => (Y_fieldAddr (B := some ⟨b2, 0, none⟩) (i := 0) (s := 0) k_fd_57_5_5_55 k_sz_55_1 rfl rfl)) ?_
                        refine ra_all (rs := [28]) (by kernel_rfl) rfl ?_
                        refine ra_s0 (i := 28) rfl rfl rfl (Ys_store (i := 1) (s := 1) (B := some ⟨b2, 0, none⟩) (T' := 107) (v := .slice B3 values.length c4) (vs := [.slice B3 values.length c4]) (k := 5) (cs' := [.int .i64 Ins, .int .i64 Vars, .int .i64 Root, .int .i64 (mgt poly 0 0), .slice B6 r_4.length c7, .slice B3 values.length c4, .map (some g), .slice B3 values.length c4]) hS41 k_sz_55_1 rfl rfl rfl rfl rfl rfl rfl (Nat.le_of_ble_eq_true rfl) rfl rfl) ?_ ?_
                        · rintro _ w_27 ⟨rfl, hS42⟩
                          have hS42 : ST w0 [] _ [⟨some ⟨b1, 0, none⟩, 57, [.int .i64 0, .int .i64 0, .int .i64 0, .int .i64 0, .slice none 0 0, .slice none 0 0], 6⟩, ⟨some ⟨b2, 0, none⟩, 107, [.int .i64 Ins, .int .i64 Vars, .int .i64 Root, .int .i64 (mgt poly 0 0), .slice B6 r_4.length c7, .slice B3 values.length c4, .map (some g), .slice B3 values.length c4], 8⟩, ⟨B3, 61, (values1.flatMap enc_Affine), c4 * 2⟩, ⟨(some ⟨g, 0, none⟩), .mp (mpE (Value.int .i64) (Value.int .i64) poly), [], 0⟩, ⟨B6, 136, (r_4.flatMap enc_Term), c7 * 2⟩] [⟨B, (c.Gates.flatMap enc_Gate)⟩] := hS42
                          refine ⟨(ST.sel hS42 [0, 2] rfl rfl), ?_⟩
                          refine ra_done (by kernel_rfl) ?_
                          exact ⟨B6, c7, (FF.cons (hf2.get 2 0 rfl) (FF.cons (hf2.get 4 1 rfl) FF.nil)), (hS42.sel [0, 1, 4, 2, 3] rfl rfl)⟩
                        exact allR_nil
                      exact allR_nil
                    exact allR_nil
                  exact allR_nil
                exact allR_nil
              exact allR_nil
            refine ra_y 60 (i := 11) (v := .map (some g)) rfl rfl rfl (Y_load1 (B := some ⟨b2, 0, none⟩) (i := 6) (cs := [.int .i64 Ins, .int .i64 Vars, .int .i64 Root, .int .i64 Phase, .slice none 0 0, .slice none 0 0, .map (some g), .slice B3 values.length c4]) (v := .map (some g)) k_sc_105 rfl rfl (hS30.cf (i := 1) rfl) rfl) (ST.sel hS30 [0, 3] rfl rfl) ?_ ?_
            · skip
              refine ra_all (rs := [7, 12, 16]) (by kernel_rfl) rfl ?_
              refine ra_y 56 (i := 7) (v := .int .i64 (mgt poly 0 0)) rfl rfl rfl (Y_mapGet (kE := (Value.int .i64)) (vE := (Value.int .i64)) (l := poly) (a := 0) (d := 0) (g := g) (i := 2) hS30 (keyInt k_int_3_i64) k_map_105_3_3 k_zero_3 rfl rfl rfl rfl) (ST.sel hS30 [0, 3] rfl rfl) ?_ ?_
              · skip
                refine ra_all (rs := [12, 16]) (by kernel_rfl) rfl ?_
                refine ra_c 61 (i := 12) rfl rfl rfl (Yc_func (g := 68) (vs := [.map (some g)]) k_call_68 rfl (mc rfl mn) (c_impl_polynomial_terms poly g _  (hS30.inn [false, false, true, false] rfl [] rfl) hc2)) ?_ ?_
                · rintro _ w_28 ⟨B6, c7, rfl, hd5⟩
                  have hS43 := hS30.out [false, false, true, false] rfl hd5
                  have hS43 : ST w0 [] _ [⟨some ⟨b1, 0, none⟩, 57, [.int .i64 0, .int .i64 0, .int .i64 0, .int .i64 0, .slice none 0 0, .slice none 0 0], 6⟩, ⟨some ⟨b2, 0, none⟩, 107, [.int .i64 Ins, .int .i64 Vars, .int .i64 Root, .int .i64 Phase, .slice none 0 0, .slice none 0 0, .map (some g), .slice B3 values.length c4], 8⟩, ⟨B3, 61, (values1.flatMap enc_Affine), c4 * 2⟩, ⟨(some ⟨g, 0, none⟩), .mp (mpE (Value.int .i64) (Value.int .i64) poly), [], 0⟩, ⟨B6, 136, (r_4.flatMap enc_Term), c7 * 2⟩] [⟨B, (c.Gates.flatMap enc_Gate)⟩] := hS43
                  refine ⟨(ST.sel hS43 [0, 2] rfl rfl), ?_⟩
                  refine ra_all (rs := [16]) (by kernel_rfl) rfl ?_
                  refine ra_y 65 (i := 16) (v := .slice B3 values.length c4) rfl rfl rfl (Y_load1 (B := some ⟨b2, 0, none⟩) (i := 7) (cs := [.int .i64 Ins, .int .i64 Vars, .int .i64 Root, .int .i64 Phase, .slice none 0 0, .slice none 0 0, .map (some g), .slice B3 values.length c4]) (v := .slice B3 values.length c4) k_sc_55 rfl rfl (hS43.cf (i := 1) rfl) rfl) (ST.sel hS43 [0, 2] rfl rfl) ?_ ?_
                  · skip
                    refine ra_q 17 66 (v := pt (some ⟨b2, 0, none⟩) 0) rfl rfl rfl (by kernel_rfl) (by kernel_rfl) (by kernel_rfl) (ST.sel hS43 [0, 2] rfl rfl) (fun w' hw' => (Y_nilCheck (B := some ⟨b2, 0, none⟩) (i := 0) rfl rfl)) ?_
                    refine ra_q 18 67 (v := pt (some ⟨b2, 0, none⟩) 0) rfl rfl rfl (by kernel_rfl) (by kernel_rfl) (by kernel_rfl) (ST.sel hS43 [0, 2] rfl rfl) (fun w' hw' => (Y_fieldAddr (B := some ⟨b2, 0, none⟩) (i := 0) (s := 5) k_fd_107_0_0_57 k_sz_57_6 rfl rfl)) ?_
                    refine ra_q 19 68 (v := pt (some ⟨b2, 0, none⟩) 3) rfl rfl rfl (by kernel_rfl) (by kernel_rfl) (by kernel_rfl) (ST.sel hS43 [0, 2] rfl rfl) (fun w' hw' => (Y_fieldAddr (B := some ⟨b2, 0, none⟩) (i := 0) (s := 0) k_fd_57_3_3_3 k_sz_3_1 rfl rfl)) ?_
                    refine ra_all (rs := [20]) (by kernel_rfl) rfl ?_
                    refine ra_s0 (i := 20) rfl rfl rfl (Ys_store (i := 1) (s := 1) (B := some ⟨b2, 0, none⟩) (T' := 107) (v := .int .i64 (mgt poly 0 0)) (vs := [.int .i64 (mgt poly 0 0)]) (k := 3) (cs' := [.int .i64 Ins, .int .i64 Vars, .int .i64 Root, .int .i64 (mgt poly 0 0), .slice none 0 0, .slice none 0 0, .map (some g), .slice B3 values.length c4]) hS43 k_sz_3_1 rfl rfl rfl rfl rfl rfl rfl (Nat.le_of_ble_eq_true rfl) rfl rfl) ?_ ?_
                    · rintro _ w_29 ⟨rfl, hS44⟩
                      have hS44 : ST w0 [] _ [⟨some ⟨b1, 0, none⟩, 57, [.int .i64 0, .int .i64 0, .int .i64 0, .int .i64 0, .slice none 0 0, .slice none 0 0], 6⟩, ⟨some ⟨b2, 0, none⟩, 107, [.int .i64 Ins, .int .i64 Vars, .int .i64 Root, .int .i64 (mgt poly 0 0), .slice none 0 0, .slice none 0 0, .map (some g), .slice B3 values.length c4], 8⟩, ⟨B3, 61, (values1.flatMap enc_Affine), c4 * 2⟩, ⟨(some ⟨g, 0, none⟩), .mp (mpE (Value.int .i64) (Value.int .i64) poly), [], 0⟩, ⟨B6, 136, (r_4.flatMap enc_Term), c7 * 2⟩] [⟨B, (c.Gates.flatMap enc_Gate)⟩] := hS44
                      refine ⟨(ST.sel hS44 [0, 2] rfl rfl), ?_⟩
                      refine ra_q 21 69 (v := pt (some ⟨b2, 0, none⟩) 0) rfl rfl rfl (by kernel_rfl) (by kernel_rfl) (by kernel_rfl) (ST.sel hS44 [0, 2] rfl rfl) (fun w' hw' => (Y_nilCheck (B := some ⟨b2, 0, none⟩) (i := 0) rfl rfl)) ?_
                      refine ra_q 22 70 (v := pt (some ⟨b2, 0, none⟩) 0) rfl rfl rfl (by kernel_rfl) (by kernel_rfl) (by kernel_rfl) (ST.sel hS44 [0, 2] rfl rfl) (fun w' hw' => (Y_fieldAddr (B := some ⟨b2, 0, none⟩) (i := 0) (s := 5) k_fd_107_0_0_57 k_sz_57_6 rfl rfl)) ?_
                      refine ra_q 23 71 (v := pt (some ⟨b2, 0, none⟩) 4) rfl rfl rfl (by kernel_rfl) (by kernel_rfl) (by kernel_rfl) (ST.sel hS44 [0, 2] rfl rfl) (fun w' hw' => (Y_fieldAddr (B := some ⟨b2, 0, none⟩) (i := 0) (s := 0) k_fd_57_4_4_54 k_sz_54_1 rfl rfl)) ?_
                      refine ra_all (rs := [24]) (by kernel_rfl) rfl ?_
                      refine ra_s0 (i := 24) rfl rfl rfl (Ys_store (i := 1) (s := 1) (B := some ⟨b2, 0, none⟩) (T' := 107) (v := .slice B6 r_4.length c7) (vs := [.slice B6 r_4.length c7]) (k := 4) (cs' := [.int .i64 Ins, .int .i64 Vars, .int .i64 Root, .int .i64 (mgt poly 0 0), .slice B6 r_4.length c7, .slice none 0 0, .map (some g), .slice B3 values.length c4]) hS44 k_sz_54_1 rfl rfl rfl rfl rfl rfl rfl (Nat.le_of_ble_eq_true rfl) rfl rfl) ?_ ?_
                      · rintro _ w_30 ⟨rfl, hS45⟩
                        have hS45 : ST w0 [] _ [⟨some ⟨b1, 0, none⟩, 57, [.int .i64 0, .int .i64 0, .int .i64 0, .int .i64 0, .slice none 0 0, .slice none 0 0], 6⟩, ⟨some ⟨b2, 0, none⟩, 107, [.int .i64 Ins, .int .i64 Vars, .int .i64 Root, .int .i64 (mgt poly 0 0), .slice B6 r_4.length c7, .slice none 0 0, .map (some g), .slice B3 values.length c4], 8⟩, ⟨B3, 61, (values1.flatMap enc_Affine), c4 * 2⟩, ⟨(some ⟨g, 0, none⟩), .mp (mpE (Value.int .i64) (Value.int .i64) poly), [], 0⟩, ⟨B6, 136, (r_4.flatMap enc_Term), c7 * 2⟩] [⟨B, (c.Gates.flatMap enc_Gate)⟩] := hS45
                        refine ⟨(ST.sel hS45 [0, 2] rfl rfl), ?_⟩
                        refine ra_q 25 72 (v := pt (some ⟨b2, 0, none⟩) 0) rfl rfl rfl (by kernel_rfl) (by kernel_rfl) (by kernel_rfl) (ST.sel hS45 [0, 2] rfl rfl) (fun w' hw' => (Y_nilCheck (B := some ⟨b2, 0, none⟩) (i := 0) rfl rfl)) ?_
                        refine ra_q 26 73 (v := pt (some ⟨b2, 0, none⟩) 0) rfl rfl rfl (by kernel_rfl) (by kernel_rfl) (by kernel_rfl) (ST.sel hS45 [0, 2] rfl rfl) (fun w' hw' => (Y_fieldAddr (B := some ⟨b2, 0, none⟩) (i := 0) (s := 5) k_fd_107_0_0_57 k_sz_57_6 rfl rfl)) ?_
                        refine ra_q 27 74 (v := pt (some ⟨b2, 0, none⟩) 5) rfl rfl rfl (by kernel_rfl) (by kernel_rfl) (by kernel_rfl) (ST.sel hS45 [0, 2] rfl rfl) (fun w' hw' => (Y_fieldAddr (B := some ⟨b2, 0, none⟩) (i := 0) (s := 0) k_fd_57_5_5_55 k_sz_55_1 rfl rfl)) ?_
                        refine ra_all (rs := [28]) (by kernel_rfl) rfl ?_
                        refine ra_s0 (i := 28) rfl rfl rfl (Ys_store (i := 1) (s := 1) (B := some ⟨b2, 0, none⟩) (T' := 107) (v := .slice B3 values.length c4) (vs := [.slice B3 values.length c4]) (k := 5) (cs' := [.int .i64 Ins, .int .i64 Vars, .int .i64 Root, .int .i64 (mgt poly 0 0), .slice B6 r_4.length c7, .slice B3 values.length c4, .map (some g), .slice B3 values.length c4]) hS45 k_sz_55_1 rfl rfl rfl rfl rfl rfl rfl (Nat.le_of_ble_eq_true rfl) rfl rfl) ?_ ?_
                        · rintro _ w_31 ⟨rfl, hS46⟩
                          have hS46 : ST w0 [] _ [⟨some ⟨b1, 0, none⟩, 57, [.int .i64 0, .int .i64 0, .int .i64 0, .int .i64 0, .slice none 0 0, .slice none 0 0], 6⟩, ⟨some ⟨b2, 0, none⟩, 107, [.int .i64 Ins, .int .i64 Vars, .int .i64 Root, .int .i64 (mgt poly 0 0), .slice B6 r_4.length c7, .slice B3 values.length c4, .map (some g), .slice B3 values.length c4], 8⟩, ⟨B3, 61, (values1.flatMap enc_Affine), c4 * 2⟩, ⟨(some ⟨g, 0, none⟩), .mp (mpE (Value.int .i64) (Value.int .i64) poly), [], 0⟩, ⟨B6, 136, (r_4.flatMap enc_Term), c7 * 2⟩] [⟨B, (c.Gates.flatMap enc_Gate)⟩] := hS46
                          refine ⟨(ST.sel hS46 [0, 2] rfl rfl), ?_⟩
                          refine ra_done (by kernel_rfl) ?_
                          exact ⟨B6, c7, (FF.cons (hf2.get 2 0 rfl) (FF.cons (hf2.get 4 1 rfl) FF.nil)), (hS46.sel [0, 1, 4, 2, 3] rfl rfl)⟩
                        exact allR_nil
                      exact allR_nil
                    exact allR_nil
                  exact allR_nil
                refine ra_y 65 (i := 16) (v := .slice B3 values.length c4) rfl rfl rfl (Y_load1 (B := some ⟨b2, 0, none⟩) (i := 7) (cs := [.int .i64 Ins, .int .i64 Vars, .int .i64 Root, .int .i64 Phase, .slice none 0 0, .slice none 0 0, .map (some g), .slice B3 values.length c4]) (v := .slice B3 values.length c4) k_sc_55 rfl rfl (hS30.cf (i := 1) rfl) rfl) (ST.sel hS30 [0, 3] rfl rfl) ?_ ?_
                · skip
                  refine ra_all (rs := [12]) (by kernel_rfl) rfl ?_
                  refine ra_c 61 (i := 12) rfl rfl rfl (Yc_func (g := 68) (vs := [.map (some g)]) k_call_68 rfl (mc rfl mn) (c_impl_polynomial_terms poly g _  (hS30.inn [false, false, true, false] rfl [] rfl) hc2)) ?_ ?_
                  · rintro _ w_32 ⟨B6, c7, rfl, hd6⟩
                    have hS47 := hS30.out [false, false, true, false] rfl hd6
                    have hS47 : ST w0 [] _ [⟨some ⟨b1, 0, none⟩, 57, [.int .i64 0, .int .i64 0, .int .i64 0, .int .i64 0, .slice none 0 0, .slice none 0 0], 6⟩, ⟨some ⟨b2, 0, none⟩, 107, [.int .i64 Ins, .int .i64 Vars, .int .i64 Root, .int .i64 Phase, .slice none 0 0, .slice none 0 0, .map (some g), .slice B3 values.length c4], 8⟩, ⟨B3, 61, (values1.flatMap enc_Affine), c4 * 2⟩, ⟨(some ⟨g, 0, none⟩), .mp (mpE (Value.int .i64) (Value.int .i64) poly), [], 0⟩, ⟨B6, 136, (r_4.flatMap enc_Term), c7 * 2⟩] [⟨B, (c.Gates.flatMap enc_Gate)⟩] := hS47
                    refine ⟨(ST.sel hS47 [0, 2] rfl rfl), ?_⟩
                    refine ra_q 17 66 (v := pt (some ⟨b2, 0, none⟩) 0) rfl rfl rfl (by kernel_rfl) (by kernel_rfl) (by kernel_rfl) (ST.sel hS47 [0, 2] rfl rfl) (fun w' hw' => (Y_nilCheck (B := some ⟨b2, 0, none⟩) (i := 0) rfl rfl)) ?_
                    refine ra_q 18 67 (v := pt (some ⟨b2, 0, none⟩) 0) rfl rfl rfl (by kernel_rfl) (by kernel_rfl) (by kernel_rfl) (ST.sel hS47 [0, 2] rfl rfl) (fun w' hw' => (Y_fieldAddr (B := some ⟨b2, 0, none⟩) (i := 0) (s := 5) k_fd_107_0_0_57 k_sz_57_6 rfl rfl)) ?_
                    refine ra_q 19 68 (v := pt (some ⟨b2, 0, none⟩) 3) rfl rfl rfl (by kernel_rfl) (by kernel_rfl) (by kernel_rfl) (ST.sel hS47 [0, 2] rfl rfl) (fun w' hw' => (Y_fieldAddr (B := some ⟨b2, 0, none⟩) (i := 0) (s := 0) k_fd_57_3_3_3 k_sz_3_1 rfl rfl)) ?_
                    refine ra_all (rs := [20]) (by kernel_rfl) rfl ?_
                    refine ra_s0 (i := 20) rfl rfl rfl (Ys_store (i := 1) (s := 1) (B := some ⟨b2, 0, none⟩) (T' := 107) (v := .int .i64 (mgt poly 0 0)) (vs := [.int .i64 (mgt poly 0 0)]) (k := 3) (cs' := [.int .i64 Ins, .int .i64 Vars, .int .i64 Root, .int .i64 (mgt poly 0 0), .slice none 0 0, .slice none 0 0, .map (some g), .slice B3 values.length c4]) hS47 k_sz_3_1 rfl rfl rfl rfl rfl rfl rfl (Nat.le_of_ble_eq_true rfl) rfl rfl) ?_ ?_
                    · rintro _ w_33 ⟨rfl, hS48⟩
                      have hS48 : ST w0 [] _ [⟨some ⟨b1, 0, none⟩, 57, [.int .i64 0, .int .i64 0, .int .i64 0, .int .i64 0, .slice none 0 0, .slice none 0 0], 6⟩, ⟨some ⟨b2, 0, none⟩, 107, [.int .i64 Ins, .int .i64 Vars, .int .i64 Root, .int .i64 (mgt poly 0 0), .slice none 0 0, .slice none 0 0, .map (some g), .slice B3 values.length c4], 8⟩, ⟨B3, 61, (values1.flatMap enc_Affine), c4 * 2⟩, ⟨(some ⟨g, 0, none⟩), .mp (mpE (Value.int .i64) (Value.int .i64) poly), [], 0⟩, ⟨B6, 136, (r_4.flatMap enc_Term), c7 * 2⟩] [⟨B, (c.Gates.flatMap enc_Gate)⟩] := hS48
                      refine ⟨(ST.sel hS48 [0, 2] rfl rfl), ?_⟩
                      refine ra_q 21 69 (v := pt (some ⟨b2, 0, none⟩) 0) rfl rfl rfl (by kernel_rfl) (by kernel_rfl) (by kernel_rfl) (ST.sel hS48 [0, 2] rfl rfl) (fun w' hw' => (Y_nilCheck (B := some ⟨b2, 0, none⟩) (i := 0) rfl rfl)) ?_
                      refine ra_q 22 70 (v := pt (some ⟨b2, 0, none⟩) 0) rfl rfl rfl (by kernel_rfl) (by kernel_rfl) (by kernel_rfl) (ST.sel hS48 [0, 2] rfl rfl) (fun w' hw' => (Y_fieldAddr (B := some ⟨b2, 0, none⟩) (i := 0) (s := 5) k_fd_107_0_0_57 k_sz_57_6 rfl rfl)) ?_
                      refine ra_q 23 71 (v := pt (some ⟨b2, 0, none⟩) 4) rfl rfl rfl (by kernel_rfl) (by kernel_rfl) (by kernel_rfl) (ST.sel hS48 [0, 2] rfl rfl) (fun w' hw' => (Y_fieldAddr (B := some ⟨b2, 0, none⟩) (i := 0) (s := 0) k_fd_57_4_4_54 k_sz_54_1 rfl rfl)) ?_
                      refine ra_all (rs := [24]) (by kernel_rfl) rfl ?_
                      refine ra_s0 (i := 24) rfl rfl rfl (Ys_store (i := 1) (s := 1) (B := some ⟨b2, 0, none⟩) (T' := 107) (v := .slice B6 r_4.length c7) (vs := [.slice B6 r_4.length c7]) (k := 4) (cs' := [.int .i64 Ins, .int .i64 Vars, .int .i64 Root, .int .i64 (mgt poly 0 0), .slice B6 r_4.length c7, .slice none 0 0, .map (some g), .slice B3 values.length c4]) hS48 k_sz_54_1 rfl rfl rfl rfl rfl rfl rfl (Nat.le_of_ble_eq_true rfl) rfl rfl) ?_ ?_
                      · rintro _ w_34 ⟨rfl, hS49⟩
                        have hS49 : ST w0 [] _ [⟨some ⟨b1, 0, none⟩, 57, [.int .i64 0, .int .i64 0, .int .i64 0, .int .i64 0, .slice none 0 0, .slice none 0 0], 6⟩, ⟨some ⟨b2, 0, none⟩, 107, [.int .i64 Ins, .int .i64 Vars, .int .i64 Root, .int .i64 (mgt poly 0 0), .slice B6 r_4.length c7, .slice none 0 0, .map (some g), .slice B3 values.length c4], 8⟩, ⟨B3, 61, (values1.flatMap enc_Affine), c4 * 2⟩, ⟨(some ⟨g, 0, none⟩), .mp (mpE (Value.int .i64) (Value.int .i64) poly), [], 0⟩, ⟨B6, 136, (r_4.flatMap enc_Term), c7 * 2⟩] [⟨B, (c.Gates.flatMap enc_Gate)⟩] := hS49
                        refine ⟨(ST.sel hS49 [0, 2] rfl rfl), ?_⟩
                        refine ra_q 25 72 (v := pt (some ⟨b2, 0, none⟩) 0) rfl rfl rfl (by kernel_rfl) (by kernel_rfl) (by kernel_rfl) (ST.sel hS49 [0, 2] rfl rfl) (fun w' hw' => (Y_nilCheck (B := some ⟨b2, 0, none⟩) (i := 0) rfl rfl)) ?_
                        refine ra_q 26 73 (v := pt (some ⟨b2, 0, none⟩) 0) rfl rfl rfl (by kernel_rfl) (by kernel_rfl) (by kernel_rfl) (ST.sel hS49 [0, 2] rfl rfl) (fun w' hw' => (Y_fieldAddr (B := some ⟨b2, 0, none⟩) (i := 0) (s := 5) k_fd_107_0_0_57 k_sz_57_6 rfl rfl)) ?_
                        refine ra_q 27 74 (v := pt (some ⟨b2, 0, none⟩) 5) rfl rfl rfl (by kernel_rfl) (by kernel_rfl) (by kernel_rfl) (ST.sel hS49 [0, 2] rfl rfl) (fun w' hw' => (Y_fieldAddr (B := some ⟨b2, 0, none⟩) (i := 0) (s := 0) k_fd_57_5_5_55 k_sz_55_1 rfl rfl)) ?_
                        refine ra_all (rs := [28]) (by kernel_rfl) rfl ?_
                        refine ra_s0 (i := 28) rfl rfl rfl (Ys_store (i := 1) (s := 1) (B := some ⟨b2, 0, none⟩) (T' := 107) (v := .slice B3 values.length c4) (vs := [.slice B3 values.length c4]) (k := 5) (cs' := [.int .i64 Ins, .int .i64 Vars, .int .i64 Root, .int .i64 (mgt poly 0 0), .slice B6 r_4.length c7, .slice B3 values.length c4, .map (some g), .slice B3 values.length c4]) hS49 k_sz_55_1 rfl rfl rfl rfl rfl rfl rfl (Nat.le_of_ble_eq_true rfl) rfl rfl) ?_ ?_
                        · rintro _ w_35 ⟨rfl, hS50⟩
                          have hS50 : ST w0 [] _ [⟨some ⟨b1, 0, none⟩, 57, [.int .i64 0, .int .i64 0, .int .i64 0, .int .i64 0, .slice none 0 0, .slice none 0 0], 6⟩, ⟨some ⟨b2, 0, none⟩, 107, [.int .i64 Ins, .int .i64 Vars, .int .i64 Root, .int .i64 (mgt poly 0 0), .slice B6 r_4.length c7, .slice B3 values.length c4, .map (some g), .slice B3 values.length c4], 8⟩, ⟨B3, 61, (values1.flatMap enc_Affine), c4 * 2⟩, ⟨(some ⟨g, 0, none⟩), .mp (mpE (Value.int .i64) (Value.int .i64) poly), [], 0⟩, ⟨B6, 136, (r_4.flatMap enc_Term), c7 * 2⟩] [⟨B, (c.Gates.flatMap enc_Gate)⟩] := hS50
                          refine ⟨(ST.sel hS50 [0, 2] rfl rfl), ?_⟩
                          refine ra_done (by kernel_rfl) ?_
                          exact ⟨B6, c7, (FF.cons (hf2.get 2 0 rfl) (FF.cons (hf2.get 4 1 rfl) FF.nil)), (hS50.sel [0, 1, 4, 2, 3] rfl rfl)⟩
                        exact allR_nil
                      exact allR_nil
                    exact allR_nil
                  exact allR_nil
                exact allR_nil
              refine ra_c 61 (i := 12) rfl rfl rfl (Yc_func (g := 68) (vs := [.map (some g)]) k_call_68 rfl (mc rfl mn) (c_impl_polynomial_terms poly g _  (hS30.inn [false, false, true, false] rfl [] rfl) hc2)) ?_ ?_
              · rintro _ w_36 ⟨B6, c7, rfl, hd7⟩
                have hS51 := hS30.out [false, false, true, false] rfl hd7
                have hS51 : ST w0 [] _ [⟨some ⟨b1, 0, none⟩, 57, [.int .i64 0, .int .i64 0, .int .i64 0, .int .i64 0, .slice none 0 0, .slice none 0 0], 6⟩, ⟨some ⟨b2, 0, none⟩, 107, [.int .i64 Ins, .int .i64 Vars, .int .i64 Root, .int .i64 Phase, .slice none 0 0, .slice none 0 0, .map (some g), .slice B3 values.length c4], 8⟩, ⟨B3, 61, (values1.flatMap enc_Affine), c4 * 2⟩, ⟨(some ⟨g, 0, none⟩), .mp (mpE (Value.int .i64) (Value.int .i64) poly), [], 0⟩, ⟨B6, 136, (r_4.flatMap enc_Term), c7 * 2⟩] [⟨B, (c.Gates.flatMap enc_Gate)⟩] := hS51
                refine ⟨(ST.sel hS51 [0, 2] rfl rfl), ?_⟩
                refine ra_all (rs := [7, 16]) (by kernel_rfl) rfl ?_
                refine ra_y 56 (i := 7) (v := .int .i64 (mgt poly 0 0)) rfl rfl rfl (Y_mapGet (kE := (Value.int .i64)) (vE := (Value.int .i64)) (l := poly) (a := 0) (d := 0) (g := g) (i := 3) hS51 (keyInt k_int_3_i64) k_map_105_3_3 k_zero_3 rfl rfl rfl rfl) (ST.sel hS51 [0, 2] rfl rfl) ?_ ?_
                · skip
                  refine ra_all (rs := [16]) (by kernel_rfl) rfl ?_
                  refine ra_y 65 (i := 16) (v := .slice B3 values.length c4) rfl rfl rfl (Y_load1 (B := some ⟨b2, 0, none⟩) (i := 7) (cs := [.int .i64 Ins, .int .i64 Vars, .int .i64 Root, .int .i64 Phase, .slice none 0 0, .slice none 0 0, .map (some g), .slice B3 values.length c4]) (v := .slice B3 values.length c4) k_sc_55 rfl rfl (hS51.cf (i := 1) rfl) rfl) (ST.sel hS51 [0, 2] rfl rfl) ?_ ?_
                  · skip
                    refine ra_q 17 66 (v := pt (some ⟨b2, 0, none⟩) 0) rfl rfl rfl (by kernel_rfl) (by kernel_rfl) (by kernel_rfl) (ST.sel hS51 [0, 2] rfl rfl) (fun w' hw' => (Y_nilCheck (B := some ⟨b2, 0, none⟩) (i := 0) rfl rfl)) ?_
                    refine ra_q 18 67 (v := pt (some ⟨b2, 0, none⟩) 0) rfl rfl rfl (by kernel_rfl) (by kernel_rfl) (by kernel_rfl) (ST.sel hS51 [0, 2] rfl rfl) (fun w' hw' => (Y_fieldAddr (B := some ⟨b2, 0, none⟩) (i := 0) (s := 5) k_fd_107_0_0_57 k_sz_57_6 rfl rfl)) ?_
                    refine ra_q 19 68 (v := pt (some ⟨b2, 0, none⟩) 3) rfl rfl rfl (by kernel_rfl) (by kernel_rfl) (by kernel_rfl) (ST.sel hS51 [0, 2] rfl rfl) (fun w' hw' => (Y_fieldAddr (B := some ⟨b2, 0, none⟩) (i := 0) (s := 0) k_fd_57_3_3_3 k_sz_3_1 rfl rfl)) ?_
                    refine ra_all (rs := [20]) (by kernel_rfl) rfl ?_
                    refine ra_s0 (i := 20) rfl rfl rfl (Ys_store (i := 1) (s := 1) (B := some ⟨b2, 0, none⟩) (T' := 107) (v := .int .i64 (mgt poly 0 0)) (vs := [.int .i64 (mgt poly 0 0)]) (k := 3) (cs' := [.int .i64 Ins, .int .i64 Vars, .int .i64 Root, .int .i64 (mgt poly 0 0), .slice none 0 0, .slice none 0 0, .map (some g), .slice B3 values.length c4]) hS51 k_sz_3_1 rfl rfl rfl rfl rfl rfl rfl (Nat.le_of_ble_eq_true rfl) rfl rfl) ?_ ?_
                    · rintro _ w_37 ⟨rfl, hS52⟩
                      have hS52 : ST w0 [] _ [⟨some ⟨b1, 0, none⟩, 57, [.int .i64 0, .int .i64 0, .int .i64 0, .int .i64 0, .slice none 0 0, .slice none 0 0], 6⟩, ⟨some ⟨b2, 0, none⟩, 107, [.int .i64 Ins, .int .i64 Vars, .int .i64 Root, .int .i64 (mgt poly 0 0), .slice none 0 0, .slice none 0 0, .map (some g), .slice B3 values.length c4], 8⟩, ⟨B3, 61, (values1.flatMap enc_Affine), c4 * 2⟩, ⟨(some ⟨g, 0, none⟩), .mp (mpE (Value.int .i64) (Value.int .i64) poly), [], 0⟩, ⟨B6, 136, (r_4.flatMap enc_Term), c7 * 2⟩] [⟨B, (c.Gates.flatMap enc_Gate)⟩] := hS52
                      refine ⟨(ST.sel hS52 [0, 2] rfl rfl), ?_⟩
                      refine ra_q 21 69 (v := pt (some ⟨b2, 0, none⟩) 0) rfl rfl rfl (by kernel_rfl) (by kernel_rfl) (by kernel_rfl) (ST.sel hS52 [0, 2] rfl rfl) (fun w' hw' => (Y_nilCheck (B := some ⟨b2, 0, none⟩) (i := 0) rfl rfl)) ?_
                      refine ra_q 22 70 (v := pt (some ⟨b2, 0, none⟩) 0) rfl rfl rfl (by kernel_rfl) (by kernel_rfl) (by kernel_rfl) (ST.sel hS52 [0, 2] rfl rfl) (fun w' hw' => (Y_fieldAddr (B := some ⟨b2, 0, none⟩) (i := 0) (s := 5) k_fd_107_0_0_57 k_sz_57_6 rfl rfl)) ?_
                      refine ra_q 23 71 (v := pt (some ⟨b2, 0, none⟩) 4) rfl rfl rfl (by kernel_rfl) (by kernel_rfl) (by kernel_rfl) (ST.sel hS52 [0, 2] rfl rfl) (fun w' hw' => (Y_fieldAddr (B := some ⟨b2, 0, none⟩) (i := 0) (s := 0) k_fd_57_4_4_54 k_sz_54_1 rfl rfl)) ?_
                      refine ra_all (rs := [24]) (by kernel_rfl) rfl ?_
                      refine ra_s0 (i := 24) rfl rfl rfl (Ys_store (i := 1) (s := 1) (B := some ⟨b2, 0, none⟩) (T' := 107) (v := .slice B6 r_4.length c7) (vs := [.slice B6 r_4.length c7]) (k := 4) (cs' := [.int .i64 Ins, .int .i64 Vars, .int .i64 Root, .int .i64 (mgt poly 0 0), .slice B6 r_4.length c7, .slice none 0 0, .map (some g), .slice B3 values.length c4]) hS52 k_sz_54_1 rfl rfl rfl rfl rfl rfl rfl (Nat.le_of_ble_eq_true rfl) rfl rfl) ?_ ?_
                      · rintro _ w_38 ⟨rfl, hS53⟩
                        have hS53 : ST w0 [] _ [⟨some ⟨b1, 0, none⟩, 57, [.int .i64 0, .int .i64 0, .int .i64 0, .int .i64 0, .slice none 0 0, .slice none 0 0], 6⟩, ⟨some ⟨b2, 0, none⟩, 107, [.int .i64 Ins, .int .i64 Vars, .int .i64 Root, .int .i64 (mgt poly 0 0), .slice B6 r_4.length c7, .slice none 0 0, .map (some g), .slice B3 values.length c4], 8⟩, ⟨B3, 61, (values1.flatMap enc_Affine), c4 * 2⟩, ⟨(some ⟨g, 0, none⟩), .mp (mpE (Value.int .i64) (Value.int .i64) poly), [], 0⟩, ⟨B6, 136, (r_4.flatMap enc_Term), c7 * 2⟩] [⟨B, (c.Gates.flatMap enc_Gate)⟩] := hS53
                        refine ⟨(ST.sel hS53 [0, 2] rfl rfl), ?_⟩
                        refine ra_q 25 72 (v := pt (some ⟨b2, 0, none⟩) 0) rfl rfl rfl (by kernel_rfl) (by kernel_rfl) (by kernel_rfl) (ST.sel hS53 [0, 2] rfl rfl) (fun w' hw' => (Y_nilCheck (B := some ⟨b2, 0, none⟩) (i := 0) rfl rfl)) ?_
                        refine ra_q 26 73 (v := pt (some ⟨b2, 0, none⟩) 0) rfl rfl rfl (by kernel_rfl) (by kernel_rfl) (by kernel_rfl) (ST.sel hS53 [0, 2] rfl rfl) (fun w' hw' => (Y_fieldAddr (B := some ⟨b2, 0, none⟩) (i := 0) (s := 5) k_fd_107_0_0_57 k_sz_57_6 rfl rfl)) ?_
                        refine ra_q 27 74 (v := pt (some ⟨b2, 0, none⟩) 5) rfl rfl rfl (by kernel_rfl) (by kernel_rfl) (by kernel_rfl) (ST.sel hS53 [0, 2] rfl rfl) (fun w' hw' => (Y_fieldAddr (B := some ⟨b2, 0, none⟩) (i := 0) (s := 0) k_fd_57_5_5_55 k_sz_55_1 rfl rfl)) ?_
                        refine ra_all (rs := [28]) (by kernel_rfl) rfl ?_
                        refine ra_s0 (i := 28) rfl rfl rfl (Ys_store (i := 1) (s := 1) (B := some ⟨b2, 0, none⟩) (T' := 107) (v := .slice B3 values.length c4) (vs := [.slice B3 values.length c4]) (k := 5) (cs' := [.int .i64 Ins, .int .i64 Vars, .int .i64 Root, .int .i64 (mgt poly 0 0), .slice B6 r_4.length c7, .slice B3 values.length c4, .map (some g), .slice B3 values.length c4]) hS53 k_sz_55_1 rfl rfl rfl rfl rfl rfl rfl (Nat.le_of_ble_eq_true rfl) rfl rfl) ?_ ?_
                        · rintro _ w_39 ⟨rfl, hS54⟩
                          have hS54 : ST w0 [] _ [⟨some ⟨b1, 0, none⟩, 57, [.int .i64 0, .int .i64 0, .int .i64 0, .int .i64 0, .slice none 0 0, .slice none 0 0], 6⟩, ⟨some ⟨b2, 0, none⟩, 107, [.int .i64 Ins, .int .i64 Vars, .int .i64 Root, .int .i64 (mgt poly 0 0), .slice B6 r_4.length c7, .slice B3 values.length c4, .map (some g), .slice B3 values.length c4], 8⟩, ⟨B3, 61, (values1.flatMap enc_Affine), c4 * 2⟩, ⟨(some ⟨g, 0, none⟩), .mp (mpE (Value.int .i64) (Value.int .i64) poly), [], 0⟩, ⟨B6, 136, (r_4.flatMap enc_Term), c7 * 2⟩] [⟨B, (c.Gates.flatMap enc_Gate)⟩] := hS54
                          refine ⟨(ST.sel hS54 [0, 2] rfl rfl), ?_⟩
                          refine ra_done (by kernel_rfl) ?_
                          exact ⟨B6, c7, (FF.cons (hf2.get 2 0 rfl) (FF.cons (hf2.get 4 1 rfl) FF.nil)), (hS54.sel [0, 1, 4, 2, 3] rfl rfl)⟩
                        exact allR_nil
                      exact allR_nil
                    exact allR_nil
                  exact allR_nil
                refine ra_y 65 (i := 16) (v := .slice B3 values.length c4) rfl rfl rfl (Y_load1 (B := some ⟨b2, 0, none⟩) (i := 7) (cs := [.int .i64 Ins, .int .i64 Vars, .int .i64 Root, .int .i64 Phase, .slice none 0 0, .slice none 0 0, .map (some g), .slice B3 values.length c4]) (v := .slice B3 values.length c4) k_sc_55 rfl rfl (hS51.cf (i := 1) rfl) rfl) (ST.sel hS51 [0, 2] rfl rfl) ?_ ?_
                · skip
                  refine ra_all (rs := [7]) (by kernel_rfl) rfl ?_
                  refine ra_y 56 (i := 7) (v := .int .i64 (mgt poly 0 0)) rfl rfl rfl (Y_mapGet (kE := (Value.int .i64)) (vE := (Value.int .i64)) (l := poly) (a := 0) (d := 0) (g := g) (i := 3) hS51 (keyInt k_int_3_i64) k_map_105_3_3 k_zero_3 rfl rfl rfl rfl) (ST.sel hS51 [0, 2] rfl rfl) ?_ ?_
                  · skip
                    refine ra_q 17 66 (v := pt (some ⟨b2, 0, none⟩) 0) rfl rfl rfl (by kernel_rfl) (by kernel_rfl) (by kernel_rfl) (ST.sel hS51 [0, 2] rfl rfl) (fun w' hw' => (Y_nilCheck (B := some ⟨b2, 0, none⟩) (i := 0) rfl rfl)) ?_
                    refine ra_q 18 67 (v := pt (some ⟨b2, 0, none⟩) 0) rfl rfl rfl (by kernel_rfl) (by kernel_rfl) (by kernel_rfl) (ST.sel hS51 [0, 2] rfl rfl) (fun w' hw' => (Y_fieldAddr (B := some ⟨b2, 0, none⟩) (i := 0) (s := 5) k_fd_107_0_0_57 k_sz_57_6 rfl rfl)) ?_
                    refine ra_q 19 68 (v := pt (some ⟨b2, 0, none⟩) 3) rfl rfl rfl (by kernel_rfl) (by kernel_rfl) (by kernel_rfl) (ST.sel hS51 [0, 2] rfl rfl) (fun w' hw' => (Y_fieldAddr (B := some ⟨b2, 0, none⟩) (i := 0) (s := 0) k_fd_57_3_3_3 k_sz_3_1 rfl rfl)) ?_
                    refine ra_all (rs := [20]) (by kernel_rfl) rfl ?_
                    refine ra_s0 (i := 20) rfl rfl rfl (Ys_store (i := 1) (s := 1) (B := some ⟨b2, 0, none⟩) (T' := 107) (v := .int .i64 (mgt poly 0 0)) (vs := [.int .i64 (mgt poly 0 0)]) (k := 3) (cs' := [.int .i64 Ins, .int .i64 Vars, .int .i64 Root, .int .i64 (mgt poly 0 0), .slice none 0 0, .slice none 0 0, .map (some g), .slice B3 values.length c4]) hS51 k_sz_3_1 rfl rfl rfl rfl rfl rfl rfl (Nat.le_of_ble_eq_true rfl) rfl rfl) ?_ ?_
                    · rintro _ w_40 ⟨rfl, hS55⟩
                      have hS55 : ST w0 [] _ [⟨some ⟨b1, 0, none⟩, 57, [.int .i64 0, .int .i64 0, .int .i64 0, .int .i64 0, .slice none 0 0, .slice none 0 0], 6⟩, ⟨some ⟨b2, 0, none⟩, 107, [.int .i64 Ins, .int .i64 Vars, .int .i64 Root, .int .i64 (mgt poly 0 0), .slice none 0 0, .slice none 0 0, .map (some g), .slice B3 values.length c4], 8⟩, ⟨B3, 61, (values1.flatMap enc_Affine), c4 * 2⟩, ⟨(some ⟨g, 0, none⟩), .mp (mpE (Value.int .i64) (Value.int .i64) poly), [], 0⟩, ⟨B6, 136, (r_4.flatMap enc_Term), c7 * 2⟩] [⟨B, (c.Gates.flatMap enc_Gate)⟩] := hS55
                      refine ⟨(ST.sel hS55 [0, 2] rfl rfl), ?_⟩
                      refine ra_q 21 69 (v := pt (some ⟨b2, 0, none⟩) 0) rfl rfl rfl (by kernel_rfl) (by kernel_rfl) (by kernel_rfl) (ST.sel hS55 [0, 2] rfl rfl) (fun w' hw' => (Y_nilCheck (B := some ⟨b2, 0, none⟩) (i := 0) rfl rfl)) ?_
                      refine ra_q 22 70 (v := pt (some ⟨b2, 0, none⟩) 0) rfl rfl rfl (by kernel_rfl) (by kernel_rfl) (by kernel_rfl) (ST.sel hS55 [0, 2] rfl rfl) (fun w' hw' => (Y_fieldAddr (B := some ⟨b2, 0, none⟩) (i := 0) (s := 5) k_fd_107_0_0_57 k_sz_57_6 rfl rfl)) ?_
                      refine ra_q 23 71 (v := pt (some ⟨b2, 0, none⟩) 4) rfl rfl rfl (by kernel_rfl) (by kernel_rfl) (by kernel_rfl) (ST.sel hS55 [0, 2] rfl rfl) (fun w' hw' => (Y_fieldAddr (B := some ⟨b2, 0, none⟩) (i := 0) (s := 0) k_fd_57_4_4_54 k_sz_54_1 rfl rfl)) ?_
                      refine ra_all (rs := [24]) (by kernel_rfl) rfl ?_
                      refine ra_s0 (i := 24) rfl rfl rfl (Ys_store (i := 1) (s := 1) (B := some ⟨b2, 0, none⟩) (T' := 107) (v := .slice B6 r_4.length c7) (vs := [.slice B6 r_4.length c7]) (k := 4) (cs' := [.int .i64 Ins, .int .i64 Vars, .int .i64 Root, .int .i64 (mgt poly 0 0), .slice B6 r_4.length c7, .slice none 0 0, .map (some g), .slice B3 values.length c4]) hS55 k_sz_54_1 rfl rfl rfl rfl rfl rfl rfl (Nat.le_of_ble_eq_true rfl) rfl rfl) ?_ ?_
                      · rintro _ w_41 ⟨rfl, hS56⟩
                        have hS56 : ST w0 [] _ [⟨some ⟨b1, 0, none⟩, 57, [.int .i64 0, .int .i64 0, .int .i64 0, .int .i64 0, .slice none 0 0, .slice none 0 0], 6⟩, ⟨some ⟨b2, 0, none⟩, 107, [.int .i64 Ins, .int .i64 Vars, .int .i64 Root, .int .i64 (mgt poly 0 0), .slice B6 r_4.length c7, .slice none 0 0, .map (some g), .slice B3 values.length c4], 8⟩, ⟨B3, 61, (values1.flatMap enc_Affine), c4 * 2⟩, ⟨(some ⟨g, 0, none⟩), .mp (mpE (Value.int .i64) (Value.int .i64) poly), [], 0⟩, ⟨B6, 136, (r_4.flatMap enc_Term), c7 * 2⟩] [⟨B, (c.Gates.flatMap enc_Gate)⟩] := hS56
                        refine ⟨(ST.sel hS56 [0, 2] rfl rfl), ?_⟩
                        refine ra_q 25 72 (v := pt (some ⟨b2, 0, none⟩) 0) rfl rfl rfl (by kernel_rfl) (by kernel_rfl) (by kernel_rfl) (ST.sel hS56 [0, 2] rfl rfl) (fun w' hw' => (Y_nilCheck (B := some ⟨b2, 0, none⟩) (i := 0) rfl rfl)) ?_
                        refine ra_q 26 73 (v := pt (some ⟨b2, 0, none⟩) 0) rfl rfl rfl (by kernel_rfl) (by kernel_rfl) (by kernel_rfl) (ST.sel hS56 [0, 2] rfl rfl) (fun w' hw' => (Y_fieldAddr (B := some ⟨b2, 0, none⟩) (i := 0) (s := 5) k_fd_107_0_0_57 k_sz_57_6 rfl rfl)) ?_
                        refine ra_q 27 74 (v := pt (some ⟨b2, 0, none⟩) 5) rfl rfl rfl (by kernel_rfl) (by kernel_rfl) (by kernel_rfl) (ST.sel hS56 [0, 2] rfl rfl) (fun w' hw' => (Y_fieldAddr (B := some ⟨b2, 0, none⟩) (i := 0) (s := 0) k_fd_57_5_5_55 k_sz_55_1 rfl rfl)) ?_
                        refine ra_all (rs := [28]) (by kernel_rfl) rfl ?_
                        refine ra_s0 (i := 28) rfl rfl rfl (Ys_store (i := 1) (s := 1) (B := some ⟨b2, 0, none⟩) (T' := 107) (v := .slice B3 values.length c4) (vs := [.slice B3 values.length c4]) (k := 5) (cs' := [.int .i64 Ins, .int .i64 Vars, .int .i64 Root, .int .i64 (mgt poly 0 0), .slice B6 r_4.length c7, .slice B3 values.length c4, .map (some g), .slice B3 values.length c4]) hS56 k_sz_55_1 rfl rfl rfl rfl rfl rfl rfl (Nat.le_of_ble_eq_true rfl) rfl rfl) ?_ ?_
                        · rintro _ w_42 ⟨rfl, hS57⟩
                          have hS57 : ST w0 [] _ [⟨some ⟨b1, 0, none⟩, 57, [.int .i64 0, .int .i64 0, .int .i64 0, .int .i64 0, .slice none 0 0, .slice none 0 0], 6⟩, ⟨some ⟨b2, 0, none⟩, 107, [.int .i64 Ins, .int .i64 Vars, .int .i64 Root, .int .i64 (mgt poly 0 0), .slice B6 r_4.length c7, .slice B3 values.length c4, .map (some g), .slice B3 values.length c4], 8⟩, ⟨B3, 61, (values1.flatMap enc_Affine), c4 * 2⟩, ⟨(some ⟨g, 0, none⟩), .mp (mpE (Value.int .i64) (Value.int .i64) poly), [], 0⟩, ⟨B6, 136, (r_4.flatMap enc_Term), c7 * 2⟩] [⟨B, (c.Gates.flatMap enc_Gate)⟩] := hS57
                          refine ⟨(ST.sel hS57 [0, 2] rfl rfl), ?_⟩
                          refine ra_done (by kernel_rfl) ?_
                          exact ⟨B6, c7, (FF.cons (hf2.get 2 0 rfl) (FF.cons (hf2.get 4 1 rfl) FF.nil)), (hS57.sel [0, 1, 4, 2, 3] rfl rfl)⟩
                        exact allR_nil
                      exact allR_nil
                    exact allR_nil
                  exact allR_nil
                exact allR_nil
              refine ra_y 65 (i := 16) (v := .slice B3 values.length c4) rfl rfl rfl (Y_load1 (B := some ⟨b2, 0, none⟩) (i := 7) (cs := [.int .i64 Ins, .int .i64 Vars, .int .i64 Root, .int .i64 Phase, .slice none 0 0, .slice none 0 0, .map (some g), .slice B3 values.length c4]) (v := .slice B3 values.length c4) k_sc_55 rfl rfl (hS30.cf (i := 1) rfl) rfl) (ST.sel hS30 [0, 3] rfl rfl) ?_ ?_
              · skip
                refine ra_all (rs := [7, 12]) (by kernel_rfl) rfl ?_
                refine ra_y 56 (i := 7) (v := .int .i64 (mgt poly 0 0)) rfl rfl rfl (Y_mapGet (kE := (Value.int .i64)) (vE := (Value.int .i64)) (l := poly) (a := 0) (d := 0) (g := g) (i := 2) hS30 (keyInt k_int_3_i64) k_map_105_3_3 k_zero_3 rfl rfl rfl rfl) (ST.sel hS30 [0, 3] rfl rfl) ?_ ?_
                · skip
                  refine ra_all (rs := [12]) (by kernel_rfl) rfl ?_
                  refine ra_c 61 (i := 12) rfl rfl rfl (Yc_func (g := 68) (vs := [.map (some g)]) k_call_68 rfl (mc rfl mn) (c_impl_polynomial_terms poly g _  (hS30.inn [false, false, true, false] rfl [] rfl) hc2)) ?_ ?_
                  · rintro _ w_43 ⟨B6, c7, rfl, hd8⟩
                    have hS58 := hS30.out [false, false, true, false] rfl hd8
                    have hS58 : ST w0 [] _ [⟨some ⟨b1, 0, none⟩, 57, [.int .i64 0, .int .i64 0, .int .i64 0, .int .i64 0, .slice none 0 0, .slice none 0 0], 6⟩, ⟨some ⟨b2, 0, none⟩, 107, [.int .i64 Ins, .int .i64 Vars, .int .i64 Root, .int .i64 Phase, .slice none 0 0, .slice none 0 0, .map (some g), .slice B3 values.length c4], 8⟩, ⟨B3, 61, (values1.flatMap enc_Affine), c4 * 2⟩, ⟨(some ⟨g, 0, none⟩), .mp (mpE (Value.int .i64) (Value.int .i64) poly), [], 0⟩, ⟨B6, 136, (r_4.flatMap enc_Term), c7 * 2⟩] [⟨B, (c.Gates.flatMap enc_Gate)⟩] := hS58
                    refine ⟨(ST.sel hS58 [0, 2] rfl rfl), ?_⟩
                    refine ra_q 17 66 (v := pt (some ⟨b2, 0, none⟩) 0) rfl rfl rfl (by kernel_rfl) (by kernel_rfl) (by kernel_rfl) (ST.sel hS58 [0, 2] rfl rfl) (fun w' hw' => (Y_nilCheck (B := some ⟨b2, 0, none⟩) (i := 0) rfl rfl)) ?_
                    refine ra_q 18 67 (v := pt (some ⟨b2, 0, none⟩) 0) rfl rfl rfl (by kernel_rfl) (by kernel_rfl) (by kernel_rfl) (ST.sel hS58 [0, 2] rfl rfl) (fun w' hw' => (Y_fieldAddr (B := some ⟨b2, 0, none⟩) (i := 0) (s := 5) k_fd_107_0_0_57 k_sz_57_6 rfl rfl)) ?_
                    refine ra_q 19 68 (v := pt (some ⟨b2, 0, none⟩) 3) rfl rfl rfl (by kernel_rfl) (by kernel_rfl) (by kernel_rfl) (ST.sel hS58 [0, 2] rfl rfl) (fun w' hw' => (Y_fieldAddr (B := some ⟨b2, 0, none⟩) (i := 0) (s := 0) k_fd_57_3_3_3 k_sz_3_1 rfl rfl)) ?_
                    refine ra_all (rs := [20]) (by kernel_rfl) rfl ?_
                    refine ra_s0 (i := 20) rfl rfl rfl (Ys_store (i := 1) (s := 1) (B := some ⟨b2, 0, none⟩) (T' := 107) (v := .int .i64 (mgt poly 0 0)) (vs := [.int .i64 (mgt poly 0 0)]) (k := 3) (cs' := [.int .i64 Ins, .int .i64 Vars, .int .i64 Root, .int .i64 (mgt poly 0 0), .slice none 0 0, .slice none 0 0, .map (some g), .slice B3 values.length c4]) hS58 k_sz_3_1 rfl rfl rfl rfl rfl rfl rfl (Nat.le_of_ble_eq_true rfl) rfl rfl) ?_ ?_
                    · rintro _ w_44 ⟨rfl, hS59⟩
                      have hS59 : ST w0 [] _ [⟨some ⟨b1, 0, none⟩, 57, [.int .i64 0, .int .i64 0, .int .i64 0, .int .i64 0, .slice none 0 0, .slice none 0 0], 6⟩, ⟨some ⟨b2, 0, none⟩, 107, [.int .i64 Ins, .int .i64 Vars, .int .i64 Root, .int .i64 (mgt poly 0 0), .slice none 0 0, .slice none 0 0, .map (some g), .slice B3 values.length c4], 8⟩, ⟨B3, 61, (values1.flatMap enc_Affine), c4 * 2⟩, ⟨(some ⟨g, 0, none⟩), .mp (mpE (Value.int .i64) (Value.int .i64) poly), [], 0⟩, ⟨B6, 136, (r_4.flatMap enc_Term), c7 * 2⟩] [⟨B, (c.Gates.flatMap enc_Gate)⟩] := hS59
                      refine ⟨(ST.sel hS59 [0, 2] rfl rfl), ?_⟩
                      refine ra_q 21 69 (v := pt (some ⟨b2, 0, none⟩) 0) rfl rfl rfl (by kernel_rfl) (by kernel_rfl) (by kernel_rfl) (ST.sel hS59 [0, 2] rfl rfl) (fun w' hw' => (Y_nilCheck (B := some ⟨b2, 0, none⟩) (i := 0) rfl rfl)) ?_
                      refine ra_q 22 70 (v := pt (some ⟨b2, 0, none⟩) 0) rfl rfl rfl (by kernel_rfl) (by kernel_rfl) (by kernel_rfl) (ST.sel hS59 [0, 2] rfl rfl) (fun w' hw' => (Y_fieldAddr (B := some ⟨b2, 0, none⟩) (i := 0) (s := 5) k_fd_107_0_0_57 k_sz_57_6 rfl rfl)) ?_
                      refine ra_q 23 71 (v := pt (some ⟨b2, 0, none⟩) 4) rfl rfl rfl (by kernel_rfl) (by kernel_rfl) (by kernel_rfl) (ST.sel hS59 [0, 2] rfl rfl) (fun w' hw' => (Y_fieldAddr (B := some ⟨b2, 0, none⟩) (i := 0) (s := 0) k_fd_57_4_4_54 k_sz_54_1 rfl rfl)) ?_
                      refine ra_all (rs := [24]) (by kernel_rfl) rfl ?_
                      refine ra_s0 (i := 24) rfl rfl rfl (Ys_store (i := 1) (s := 1) (B := some ⟨b2, 0, none⟩) (T' := 107) (v := .slice B6 r_4.length c7) (vs := [.slice B6 r_4.length c7]) (k := 4) (cs' := [.int .i64 Ins, .int .i64 Vars, .int .i64 Root, .int .i64 (mgt poly 0 0), .slice B6 r_4.length c7, .slice none 0 0, .map (some g), .slice B3 values.length c4]) hS59 k_sz_54_1 rfl rfl rfl rfl rfl rfl rfl (Nat.le_of_ble_eq_true rfl) rfl rfl) ?_ ?_
                      · rintro _ w_45 ⟨rfl, hS60⟩
                        have hS60 : ST w0 [] _ [⟨some ⟨b1, 0, none⟩, 57, [.int .i64 0, .int .i64 0, .int .i64 0, .int .i64 0, .slice none 0 0, .slice none 0 0], 6⟩, ⟨some ⟨b2, 0, none⟩, 107, [.int .i64 Ins, .int .i64 Vars, .int .i64 Root, .int .i64 (mgt poly 0 0), .slice B6 r_4.length c7, .slice none 0 0, .map (some g), .slice B3 values.length c4], 8⟩, ⟨B3, 61, (values1.flatMap enc_Affine), c4 * 2⟩, ⟨(some ⟨g, 0, none⟩), .mp (mpE (Value.int .i64) (Value.int .i64) poly), [], 0⟩, ⟨B6, 136, (r_4.flatMap enc_Term), c7 * 2⟩] [⟨B, (c.Gates.flatMap enc_Gate)⟩] := hS60
                        refine ⟨(ST.sel hS60 [0, 2] rfl rfl), ?_⟩
                        refine ra_q 25 72 (v := pt (some ⟨b2, 0, none⟩) 0) rfl rfl rfl (by kernel_rfl) (by kernel_rfl) (by kernel_rfl) (ST.sel hS60 [0, 2] rfl rfl) (fun w' hw' => (Y_nilCheck (B := some ⟨b2, 0, none⟩) (i := 0) rfl rfl)) ?_
                        refine ra_q 26 73 (v := pt (some ⟨b2, 0, none⟩) 0) rfl rfl rfl (by kernel_rfl) (by kernel_rfl) (by kernel_rfl) (ST.sel hS60 [0, 2] rfl rfl) (fun w' hw' => (Y_fieldAddr (B := some ⟨b2, 0, none⟩) (i := 0) (s := 5) k_fd_107_0_0_57 k_sz_57_6 rfl rfl)) ?_
                        refine ra_q 27 74 (v := pt (some ⟨b2, 0, none⟩) 5) rfl rfl rfl (by kernel_rfl) (by kernel_rfl) (by kernel_rfl) (ST.sel hS60 [0, 2] rfl rfl) (fun w' hw' => (Y_fieldAddr (B := some ⟨b2, 0, none⟩) (i := 0) (s := 0) k_fd_57_5_5_55 k_sz_55_1 rfl rfl)) ?_
                        refine ra_all (rs := [28]) (by kernel_rfl) rfl ?_
                        refine ra_s0 (i := 28) rfl rfl rfl (Ys_store (i := 1) (s := 1) (B := some ⟨b2, 0, none⟩) (T' := 107) (v := .slice B3 values.length c4) (vs := [.slice B3 values.length c4]) (k := 5) (cs' := [.int .i64 Ins, .int .i64 Vars, .int .i64 Root, .int .i64 (mgt poly 0 0), .slice B6 r_4.length c7, .slice B3 values.length c4, .map (some g), .slice B3 values.length c4]) hS60 k_sz_55_1 rfl rfl rfl rfl rfl rfl rfl (Nat.le_of_ble_eq_true rfl) rfl rfl) ?_ ?_
                        · rintro _ w_46 ⟨rfl, hS61⟩
                          have hS61 : ST w0 [] _ [⟨some ⟨b1, 0, none⟩, 57, [.int .i64 0, .int .i64 0, .int .i64 0, .int .i64 0, .slice none 0 0, .slice none 0 0], 6⟩, ⟨some ⟨b2, 0, none⟩, 107, [.int .i64 Ins, .int .i64 Vars, .int .i64 Root, .int .i64 (mgt poly 0 0), .slice B6 r_4.length c7, .slice B3 values.length c4, .map (some g), .slice B3 values.length c4], 8⟩, ⟨B3, 61, (values1.flatMap enc_Affine), c4 * 2⟩, ⟨(some ⟨g, 0, none⟩), .mp (mpE (Value.int .i64) (Value.int .i64) poly), [], 0⟩, ⟨B6, 136, (r_4.flatMap enc_Term), c7 * 2⟩] [⟨B, (c.Gates.flatMap enc_Gate)⟩] := hS61
                          refine ⟨(ST.sel hS61 [0, 2] rfl rfl), ?_⟩
                          refine ra_done (by kernel_rfl) ?_
                          exact ⟨B6, c7, (FF.cons (hf2.get 2 0 rfl) (FF.cons (hf2.get 4 1 rfl) FF.nil)), (hS61.sel [0, 1, 4, 2, 3] rfl rfl)⟩
                        exact allR_nil
                      exact allR_nil
                    exact allR_nil
                  exact allR_nil
                refine ra_c 61 (i := 12) rfl rfl rfl (Yc_func (g := 68) (vs := [.map (some g)]) k_call_68 rfl (mc rfl mn) (c_impl_polynomial_terms poly g _  (hS30.inn [false, false, true, false] rfl [] rfl) hc2)) ?_ ?_
                · rintro _ w_47 ⟨B6, c7, rfl, hd9⟩
                  have hS62 := hS30.out [false, false, true, false] rfl hd9
                  have hS62 : ST w0 [] _ [⟨some ⟨b1, 0, none⟩, 57, [.int .i64 0, .int .i64 0, .int .i64 0, .int .i64 0, .slice none 0 0, .slice none 0 0], 6⟩, ⟨some ⟨b2, 0, none⟩, 107, [.int .i64 Ins, .int .i64 Vars, .int .i64 Root, .int .i64 Phase, .slice none 0 0, .slice none 0 0, .map (some g), .slice B3 values.length c4], 8⟩, ⟨B3, 61, (values1.flatMap enc_Affine), c4 * 2⟩, ⟨(some ⟨g, 0, none⟩), .mp (mpE (Value.int .i64) (Value.int .i64) poly), [], 0⟩, ⟨B6, 136, (r_4.flatMap enc_Term), c7 * 2⟩] [⟨B, (c.Gates.flatMap enc_Gate)⟩] := hS62
                  refine ⟨(ST.sel hS62 [0, 2] rfl rfl), ?_⟩
                  refine ra_all (rs := [7]) (by kernel_rfl) rfl ?_
                  refine ra_y 56 (i := 7) (v := .int .i64 (mgt poly 0 0)) rfl rfl rfl (Y_mapGet (kE := (Value.int .i64)) (vE := (Value.int .i64)) (l := poly) (a := 0) (d := 0) (g := g) (i := 3) hS62 (keyInt k_int_3_i64) k_map_105_3_3 k_zero_3 rfl rfl rfl rfl) (ST.sel hS62 [0, 2] rfl rfl) ?_ ?_
                  · skip
                    refine ra_q 17 66 (v := pt (some ⟨b2, 0, none⟩) 0) rfl rfl rfl (by kernel_rfl) (by kernel_rfl) (by kernel_rfl) (ST.sel hS62 [0, 2] rfl rfl) (fun w' hw' => (Y_nilCheck (B := some ⟨b2, 0, none⟩) (i := 0) rfl rfl)) ?_
                    refine ra_q 18 67 (v := pt (some ⟨b2, 0, none⟩) 0) rfl rfl rfl (by kernel_rfl) (by kernel_rfl) (by kernel_rfl) (ST.sel hS62 [0, 2] rfl rfl) (fun w' hw' => (Y_fieldAddr (B := some ⟨b2, 0, none⟩) (i := 0) (s := 5) k_fd_107_0_0_57 k_sz_57_6 rfl rfl)) ?_
                    refine ra_q 19 68 (v := pt (some ⟨b2, 0, none⟩) 3) rfl rfl rfl (by kernel_rfl) (by kernel_rfl) (by kernel_rfl) (ST.sel hS62 [0, 2] rfl rfl) (fun w' hw' => (Y_fieldAddr (B := some ⟨b2, 0, none⟩) (i := 0) (s := 0) k_fd_57_3_3_3 k_sz_3_1 rfl rfl)) ?_
                    refine ra_all (rs := [20]) (by kernel_rfl) rfl ?_
                    refine ra_s0 (i := 20) rfl rfl rfl (Ys_store (i := 1) (s := 1) (B := some ⟨b2, 0, none⟩) (T' := 107) (v := .int .i64 (mgt poly 0 0)) (vs := [.int .i64 (mgt poly 0 0)]) (k := 3) (cs' := [.int .i64 Ins, .int .i64 Vars, .int .i64 Root, .int .i64 (mgt poly 0 0), .slice none 0 0, .slice none 0 0, .map (some g), .slice B3 values.length c4]) hS62 k_sz_3_1 rfl rfl rfl rfl rfl rfl rfl (Nat.le_of_ble_eq_true rfl) rfl rfl) ?_ ?_
                    · rintro _ w_48 ⟨rfl, hS63⟩
                      have hS63 : ST w0 [] _ [⟨some ⟨b1, 0, none⟩, 57, [.int .i64 0, .int .i64 0, .int .i64 0, .int .i64 0, .slice none 0 0, .slice none 0 0], 6⟩, ⟨some ⟨b2, 0, none⟩, 107, [.int .i64 Ins, .int .i64 Vars, .int .i64 Root, .int .i64 (mgt poly 0 0), .slice none 0 0, .slice none 0 0, .map (some g), .slice B3 values.length c4], 8⟩, ⟨B3, 61, (values1.flatMap enc_Affine), c4 * 2⟩, ⟨(some ⟨g, 0, none⟩), .mp (mpE (Value.int .i64) (Value.int .i64) poly), [], 0⟩, ⟨B6, 136, (r_4.flatMap enc_Term), c7 * 2⟩] [⟨B, (c.Gates.flatMap enc_Gate)⟩] := hS63
                      refine ⟨(ST.sel hS63 [0, 2] rfl rfl), ?_⟩
                      refine ra_q 21 69 (v := pt (some ⟨b2, 0, none⟩) 0) rfl rfl rfl (by kernel_rfl) (by kernel_rfl) (by kernel_rfl) (ST.sel hS63 [0, 2] rfl rfl) (fun w' hw' => (Y_nilCheck (B := some ⟨b2, 0, none⟩) (i := 0) rfl rfl)) ?_
                      refine ra_q 22 70 (v := pt (some ⟨b2, 0, none⟩) 0) rfl rfl rfl (by kernel_rfl) (by kernel_rfl) (by kernel_rfl) (ST.sel hS63 [0, 2] rfl rfl) (fun w' hw' => (Y_fieldAddr (B := some ⟨b2, 0, none⟩) (i := 0) (s := 5) k_fd_107_0_0_57 k_sz_57_6 rfl rfl)) ?_
                      refine ra_q 23 71 (v := pt (some ⟨b2, 0, none⟩) 4) rfl rfl rfl (by kernel_rfl) (by kernel_rfl) (by kernel_rfl) (ST.sel hS63 [0, 2] rfl rfl) (fun w' hw' => (Y_fieldAddr (B := some ⟨b2, 0, none⟩) (i := 0) (s := 0) k_fd_57_4_4_54 k_sz_54_1 rfl rfl)) ?_
                      refine ra_all (rs := [24]) (by kernel_rfl) rfl ?_
                      refine ra_s0 (i := 24) rfl rfl rfl (Ys_store (i := 1) (s := 1) (B := some ⟨b2, 0, none⟩) (T' := 107) (v := .slice B6 r_4.length c7) (vs := [.slice B6 r_4.length c7]) (k := 4) (cs' := [.int .i64 Ins, .int .i64 Vars, .int .i64 Root, .int .i64 (mgt poly 0 0), .slice B6 r_4.length c7, .slice none 0 0, .map (some g), .slice B3 values.length c4]) hS63 k_sz_54_1 rfl rfl rfl rfl rfl rfl rfl (Nat.le_of_ble_eq_true rfl) rfl rfl) ?_ ?_
                      · rintro _ w_49 ⟨rfl, hS64⟩
                        have hS64 : ST w0 [] _ [⟨some ⟨b1, 0, none⟩, 57, [.int .i64 0, .int .i64 0, .int .i64 0, .int .i64 0, .slice none 0 0, .slice none 0 0], 6⟩, ⟨some ⟨b2, 0, none⟩, 107, [.int .i64 Ins, .int .i64 Vars, .int .i64 Root, .int .i64 (mgt poly 0 0), .slice B6 r_4.length c7, .slice none 0 0, .map (some g), .slice B3 values.length c4], 8⟩, ⟨B3, 61, (values1.flatMap enc_Affine), c4 * 2⟩, ⟨(some ⟨g, 0, none⟩), .mp (mpE (Value.int .i64) (Value.int .i64) poly), [], 0⟩, ⟨B6, 136, (r_4.flatMap enc_Term), c7 * 2⟩] [⟨B, (c.Gates.flatMap enc_Gate)⟩] := hS64
                        refine ⟨(ST.sel hS64 [0, 2] rfl rfl), ?_⟩
                        refine ra_q 25 72 (v := pt (some ⟨b2, 0, none⟩) 0) rfl rfl rfl (by kernel_rfl) (by kernel_rfl) (by kernel_rfl) (ST.sel hS64 [0, 2] rfl rfl) (fun w' hw' => (Y_nilCheck (B := some ⟨b2, 0, none⟩) (i := 0) rfl rfl)) ?_
                        refine ra_q 26 73 (v := pt (some ⟨b2, 0, none⟩) 0) rfl rfl rfl (by kernel_rfl) (by kernel_rfl) (by kernel_rfl) (ST.sel hS64 [0, 2] rfl rfl) (fun w' hw' => (Y_fieldAddr (B := some ⟨b2, 0, none⟩) (i := 0) (s := 5) k_fd_107_0_0_57 k_sz_57_6 rfl rfl)) ?_
                        refine ra_q 27 74 (v := pt (some ⟨b2, 0, none⟩) 5) rfl rfl rfl (by kernel_rfl) (by kernel_rfl) (by kernel_rfl) (ST.sel hS64 [0, 2] rfl rfl) (fun w' hw' => (Y_fieldAddr (B := some ⟨b2, 0, none⟩) (i := 0) (s := 0) k_fd_57_5_5_55 k_sz_55_1 rfl rfl)) ?_
                        refine ra_all (rs := [28]) (by kernel_rfl) rfl ?_
                        refine ra_s0 (i := 28) rfl rfl rfl (Ys_store (i := 1) (s := 1) (B := some ⟨b2, 0, none⟩) (T' := 107) (v := .slice B3 values.length c4) (vs := [.slice B3 values.length c4]) (k := 5) (cs' := [.int .i64 Ins, .int .i64 Vars, .int .i64 Root, .int .i64 (mgt poly 0 0), .slice B6 r_4.length c7, .slice B3 values.length c4, .map (some g), .slice B3 values.length c4]) hS64 k_sz_55_1 rfl rfl rfl rfl rfl rfl rfl (Nat.le_of_ble_eq_true rfl) rfl rfl) ?_ ?_
                        · rintro _ w_50 ⟨rfl, hS65⟩
                          have hS65 : ST w0 [] _ [⟨some ⟨b1, 0, none⟩, 57, [.int .i64 0, .int .i64 0, .int .i64 0, .int .i64 0, .slice none 0 0, .slice none 0 0], 6⟩, ⟨some ⟨b2, 0, none⟩, 107, [.int .i64 Ins, .int .i64 Vars, .int .i64 Root, .int .i64 (mgt poly 0 0), .slice B6 r_4.length c7, .slice B3 values.length c4, .map (some g), .slice B3 values.length c4], 8⟩, ⟨B3, 61, (values1.flatMap enc_Affine), c4 * 2⟩, ⟨(some ⟨g, 0, none⟩), .mp (mpE (Value.int .i64) (Value.int .i64) poly), [], 0⟩, ⟨B6, 136, (r_4.flatMap enc_Term), c7 * 2⟩] [⟨B, (c.Gates.flatMap enc_Gate)⟩] := hS65
                          refine ⟨(ST.sel hS65 [0, 2] rfl rfl), ?_⟩
                          refine ra_done (by kernel_rfl) ?_
                          exact ⟨B6, c7, (FF.cons (hf2.get 2 0 rfl) (FF.cons (hf2.get 4 1 rfl) FF.nil)), (hS65.sel [0, 1, 4, 2, 3] rfl rfl)⟩
                        exact allR_nil
                      exact allR_nil
                    exact allR_nil
                  exact allR_nil
                exact allR_nil
              exact allR_nil
            refine ra_y 65 (i := 16) (v := .slice B3 values.length c4) rfl rfl rfl (Y_load1 (B := some ⟨b2, 0, none⟩) (i := 7) (cs := [.int .i64 Ins, .int .i64 Vars, .int .i64 Root, .int .i64 Phase, .slice none 0 0, .slice none 0 0, .map (some g), .slice B3 values.length c4]) (v := .slice B3 values.length c4) k_sc_55 rfl rfl (hS30.cf (i := 1) rfl) rfl) (ST.sel hS30 [0, 3] rfl rfl) ?_ ?_
            · skip
              refine ra_all (rs := [7, 11]) (by kernel_rfl) rfl ?_
              refine ra_y 56 (i := 7) (v := .int .i64 (mgt poly 0 0)) rfl rfl rfl (Y_mapGet (kE := (Value.int .i64)) (vE := (Value.int .i64)) (l := poly) (a := 0) (d := 0) (g := g) (i := 2) hS30 (keyInt k_int_3_i64) k_map_105_3_3 k_zero_3 rfl rfl rfl rfl) (ST.sel hS30 [0, 3] rfl rfl) ?_ ?_
              · skip
                refine ra_all (rs := [11]) (by kernel_rfl) rfl ?_
                refine ra_y 60 (i := 11) (v := .map (some g)) rfl rfl rfl (Y_load1 (B := some ⟨b2, 0, none⟩) (i := 6) (cs := [.int .i64 Ins, .int .i64 Vars, .int .i64 Root, .int .i64 Phase, .slice none 0 0, .slice none 0 0, .map (some g), .slice B3 values.length c4]) (v := .map (some g)) k_sc_105 rfl rfl (hS30.cf (i := 1) rfl) rfl) (ST.sel hS30 [0, 3] rfl rfl) ?_ ?_
                · skip
                  refine ra_all (rs := [12]) (by kernel_rfl) rfl ?_
                  refine ra_c 61 (i := 12) rfl rfl rfl (Yc_func (g := 68) (vs := [.map (some g)]) k_call_68 rfl (mc rfl mn) (c_impl_polynomial_terms poly g _  (hS30.inn [false, false, true, false] rfl [] rfl) hc2)) ?_ ?_
                  · rintro _ w_51 ⟨B6, c7, rfl, hd10⟩
                    have hS66 := hS30.out [false, false, true, false] rfl hd10
                    have hS66 : ST w0 [] _ [⟨some ⟨b1, 0, none⟩, 57, [.int .i64 0, .int .i64 0, .int .i64 0, .int .i64 0, .slice none 0 0, .slice none 0 0], 6⟩, ⟨some ⟨b2, 0, none⟩, 107, [.int .i64 Ins, .int .i64 Vars, .int .i64 Root, .int .i64 Phase, .slice none 0 0, .slice none 0 0, .map (some g), .slice B3 values.length c4], 8⟩, ⟨B3, 61, (values1.flatMap enc_Affine), c4 * 2⟩, ⟨(some ⟨g, 0, none⟩), .mp (mpE (Value.int .i64) (Value.int .i64) poly), [], 0⟩, ⟨B6, 136, (r_4.flatMap enc_Term), c7 * 2⟩] [⟨B, (c.Gates.flatMap enc_Gate)⟩] := hS66
                    refine ⟨(ST.sel hS66 [0, 2] rfl rfl), ?_⟩
                    refine ra_q 17 66 (v := pt (some ⟨b2, 0, none⟩) 0) rfl rfl rfl (by kernel_rfl) (by kernel_rfl) (by kernel_rfl) (ST.sel hS66 [0, 2] rfl rfl) (fun w' hw' => (Y_nilCheck (B := some ⟨b2, 0, none⟩) (i := 0) rfl rfl)) ?_
                    refine ra_q 18 67 (v := pt (some ⟨b2, 0, none⟩) 0) rfl rfl rfl (by kernel_rfl) (by kernel_rfl) (by kernel_rfl) (ST.sel hS66 [0, 2] rfl rfl) (fun w' hw' => (Y_fieldAddr (B := some ⟨b2, 0, none⟩) (i := 0) (s := 5) k_fd_107_0_0_57 k_sz_57_6 rfl rfl)) ?_
                    refine ra_q 19 68 (v := pt (some ⟨b2, 0, none⟩) 3) rfl rfl rfl (by kernel_rfl) (by kernel_rfl) (by kernel_rfl) (ST.sel hS66 [0, 2] rfl rfl) (fun w' hw' => (Y_fieldAddr (B := some ⟨b2, 0, none⟩) (i := 0) (s := 0) k_fd_57_3_3_3 k_sz_3_1 rfl rfl)) ?_
                    refine ra_all (rs := [20]) (by kernel_rfl) rfl ?_
                    refine ra_s0 (i := 20) rfl rfl rfl (Ys_store (i := 1) (s := 1) (B := some ⟨b2, 0, none⟩) (T' := 107) (v := .int .i64 (mgt poly 0 0)) (vs := [.int .i64 (mgt poly 0 0)]) (k := 3) (cs' := [.int .i64 Ins, .int .i64 Vars, .int .i64 Root, .int .i64 (mgt poly 0 0), .slice none 0 0, .slice none 0 0, .map (some g), .slice B3 values.length c4]) hS66 k_sz_3_1 rfl rfl rfl rfl rfl rfl rfl (Nat.le_of_ble_eq_true rfl) rfl rfl) ?_ ?_
                    · rintro _ w_52 ⟨rfl, hS67⟩
                      have hS67 : ST w0 [] _ [⟨some ⟨b1, 0, none⟩, 57, [.int .i64 0, .int .i64 0, .int .i64 0, .int .i64 0, .slice none 0 0, .slice none 0 0], 6⟩, ⟨some ⟨b2, 0, none⟩, 107, [.int .i64 Ins, .int .i64 Vars, .int .i64 Root, .int .i64 (mgt poly 0 0), .slice none 0 0, .slice none 0 0, .map (some g), .slice B3 values.length c4], 8⟩, ⟨B3, 61, (values1.flatMap enc_Affine), c4 * 2⟩, ⟨(some ⟨g, 0, none⟩), .mp (mpE (Value.int .i64) (Value.int .i64) poly), [], 0⟩, ⟨B6, 136, (r_4.flatMap enc_Term), c7 * 2⟩] [⟨B, (c.Gates.flatMap enc_Gate)⟩] := hS67
                      refine ⟨(ST.sel hS67 [0, 2] rfl rfl), ?_⟩
                      refine ra_q 21 69 (v := pt (some ⟨b2, 0, none⟩) 0) rfl rfl rfl (by kernel_rfl) (by kernel_rfl) (by kernel_rfl) (ST.sel hS67 [0, 2] rfl rfl) (fun w' hw' => (Y_nilCheck (B := some ⟨b2, 0, none⟩) (i := 0) rfl rfl)) ?_
                      refine ra_q 22 70 (v := pt (some ⟨b2, 0, none⟩) 0) rfl rfl rfl (by kernel_rfl) (by kernel_rfl) (by kernel_rfl) (ST.sel hS67 [0, 2] rfl rfl) (fun w' hw' => (Y_fieldAddr (B := some ⟨b2, 0, none⟩) (i := 0) (s := 5) k_fd_107_0_0_57 k_sz_57_6 rfl rfl)) ?_
                      refine ra_q 23 71 (v := pt (some ⟨b2, 0, none⟩) 4) rfl rfl rfl (by kernel_rfl) (by kernel_rfl) (by kernel_rfl) (ST.sel hS67 [0, 2] rfl rfl) (fun w' hw' => (Y_fieldAddr (B := some ⟨b2, 0, none⟩) (i := 0) (s := 0) k_fd_57_4_4_54 k_sz_54_1 rfl rfl)) ?_
                      refine ra_all (rs := [24]) (by kernel_rfl) rfl ?_
                      refine ra_s0 (i := 24) rfl rfl rfl (Ys_store (i := 1) (s := 1) (B := some ⟨b2, 0, none⟩) (T' := 107) (v := .slice B6 r_4.length c7) (vs := [.slice B6 r_4.length c7]) (k := 4) (cs' := [.int .i64 Ins, .int .i64 Vars, .int .i64 Root, .int .i64 (mgt poly 0 0), .slice B6 r_4.length c7, .slice none 0 0, .map (some g), .slice B3 values.length c4]) hS67 k_sz_54_1 rfl rfl rfl rfl rfl rfl rfl (Nat.le_of_ble_eq_true rfl) rfl rfl) ?_ ?_
                      · rintro _ w_53 ⟨rfl, hS68⟩
                        have hS68 : ST w0 [] _ [⟨some ⟨b1, 0, none⟩, 57, [.int .i64 0, .int .i64 0, .int .i64 0, .int .i64 0, .slice none 0 0, .slice none 0 0], 6⟩, ⟨some ⟨b2, 0, none⟩, 107, [.int .i64 Ins, .int .i64 Vars, .int .i64 Root, .int .i64 (mgt poly 0 0), .slice B6 r_4.length c7, .slice none 0 0, .map (some g), .slice B3 values.length c4], 8⟩, ⟨B3, 61, (values1.flatMap enc_Affine), c4 * 2⟩, ⟨(some ⟨g, 0, none⟩), .mp (mpE (Value.int .i64) (Value.int .i64) poly), [], 0⟩, ⟨B6, 136, (r_4.flatMap enc_Term), c7 * 2⟩] [⟨B, (c.Gates.flatMap enc_Gate)⟩] := hS68
                        refine ⟨(ST.sel hS68 [0, 2] rfl rfl), ?_⟩
                        refine ra_q 25 72 (v := pt (some ⟨b2, 0, none⟩) 0) rfl rfl rfl (by kernel_rfl) (by kernel_rfl) (by kernel_rfl) (ST.sel hS68 [0, 2] rfl rfl) (fun w' hw' => (Y_nilCheck (B := some ⟨b2, 0, none⟩) (i := 0) rfl rfl)) ?_
                        refine ra_q 26 73 (v := pt (some ⟨b2, 0, none⟩) 0) rfl rfl rfl (by kernel_rfl) (by kernel_rfl) (by kernel_rfl) (ST.sel hS68 [0, 2] rfl rfl) (fun w' hw' => (Y_fieldAddr (B := some ⟨b2, 0, none⟩) (i := 0) (s := 5) k_fd_107_0_0_57 k_sz_57_6 rfl rfl)) ?_
                        refine ra_q 27 74 (v := pt (some ⟨b2, 0, none⟩) 5) rfl rfl rfl (by kernel_rfl) (by kernel_rfl) (by kernel_rfl) (ST.sel hS68 [0, 2] rfl rfl) (fun w' hw' => (Y_fieldAddr (B := some ⟨b2, 0, none⟩) (i := 0) (s := 0) k_fd_57_5_5_55 k_sz_55_1 rfl rfl)) ?_
                        refine ra_all (rs := [28]) (by kernel_rfl) rfl ?_
                        refine ra_s0 (i := 28) rfl rfl rfl (Ys_store (i := 1) (s := 1) (B := some ⟨b2, 0, none⟩) (T' := 107) (v := .slice B3 values.length c4) (vs := [.slice B3 values.length c4]) (k := 5) (cs' := [.int .i64 Ins, .int .i64 Vars, .int .i64 Root, .int .i64 (mgt poly 0 0), .slice B6 r_4.length c7, .slice B3 values.length c4, .map (some g), .slice B3 values.length c4]) hS68 k_sz_55_1 rfl rfl rfl rfl rfl rfl rfl (Nat.le_of_ble_eq_true rfl) rfl rfl) ?_ ?_
                        · rintro _ w_54 ⟨rfl, hS69⟩
                          have hS69 : ST w0 [] _ [⟨some ⟨b1, 0, none⟩, 57, [.int .i64 0, .int .i64 0, .int .i64 0, .int .i64 0, .slice none 0 0, .slice none 0 0], 6⟩, ⟨some ⟨b2, 0, none⟩, 107, [.int .i64 Ins, .int .i64 Vars, .int .i64 Root, .int .i64 (mgt poly 0 0), .slice B6 r_4.length c7, .slice B3 values.length c4, .map (some g), .slice B3 values.length c4], 8⟩, ⟨B3, 61, (values1.flatMap enc_Affine), c4 * 2⟩, ⟨(some ⟨g, 0, none⟩), .mp (mpE (Value.int .i64) (Value.int .i64) poly), [], 0⟩, ⟨B6, 136, (r_4.flatMap enc_Term), c7 * 2⟩] [⟨B, (c.Gates.flatMap enc_Gate)⟩] := hS69
                          refine ⟨(ST.sel hS69 [0, 2] rfl rfl), ?_⟩
                          refine ra_done (by kernel_rfl) ?_
                          exact ⟨B6, c7, (FF.cons (hf2.get 2 0 rfl) (FF.cons (hf2.get 4 1 rfl) FF.nil)), (hS69.sel [0, 1, 4, 2, 3] rfl rfl)⟩
                        exact allR_nil
                      exact allR_nil
                    exact allR_nil
                  exact allR_nil
                exact allR_nil
              refine ra_y 60 (i := 11) (v := .map (some g)) rfl rfl rfl (Y_load1 (B := some ⟨b2, 0, none⟩) (i := 6) (cs := [.int .i64 Ins, .int .i64 Vars, .int .i64 Root, .int .i64 Phase, .slice none 0 0, .slice none 0 0, .map (some g), .slice B3 values.length c4]) (v := .map (some g)) k_sc_105 rfl rfl (hS30.cf (i := 1) rfl) rfl) (ST.sel hS30 [0, 3] rfl rfl) ?_ ?_
              · skip
                refine ra_all (rs := [7, 12]) (by kernel_rfl) rfl ?_
                refine ra_y 56 (i := 7) (v := .int .i64 (mgt poly 0 0)) rfl rfl rfl (Y_mapGet (kE := (Value.int .i64)) (vE := (Value.int .i64)) (l := poly) (a := 0) (d := 0) (g := g) (i := 2) hS30 (keyInt k_int_3_i64) k_map_105_3_3 k_zero_3 rfl rfl rfl rfl) (ST.sel hS30 [0, 3] rfl rfl) ?_ ?_
                · skip
                  refine ra_all (rs := [12]) (by kernel_rfl) rfl ?_
                  refine ra_c 61 (i := 12) rfl rfl rfl (Yc_func (g := 68) (vs := [.map (some g)]) k_call_68 rfl (mc rfl mn) (c_impl_polynomial_terms poly g _  (hS30.inn [false, false, true, false] rfl [] rfl) hc2)) ?_ ?_
                  · rintro _ w_55 ⟨B6, c7, rfl, hd11⟩
                    have hS70 := hS30.out [false, false, true, false] rfl hd11
                    have hS70 : ST w0 [] _ [⟨some ⟨b1, 0, none⟩, 57, [.int .i64 0, .int .i64 0, .int .i64 0, .int .i64 0, .slice none 0 0, .slice none 0 0], 6⟩, ⟨some ⟨b2, 0, none⟩, 107, [.int .i64 Ins, .int .i64 Vars, .int .i64 Root, .int .i64 Phase, .slice none 0 0, .slice none 0 0, .map (some g), .slice B3 values.length c4], 8⟩, ⟨B3, 61, (values1.flatMap enc_Affine), c4 * 2⟩, ⟨(some ⟨g, 0, none⟩), .mp (mpE (Value.int .i64) (Value.int .i64) poly), [], 0⟩, ⟨B6, 136, (r_4.flatMap enc_Term), c7 * 2⟩] [⟨B, (c.Gates.flatMap enc_Gate)⟩] := hS70
                    refine ⟨(ST.sel hS70 [0, 2] rfl rfl), ?_⟩
                    refine ra_q 17 66 (v := pt (some ⟨b2, 0, none⟩) 0) rfl rfl rfl (by kernel_rfl) (by kernel_rfl) (by kernel_rfl) (ST.sel hS70 [0, 2] rfl rfl) (fun w' hw' => (Y_nilCheck (B := some ⟨b2, 0, none⟩) (i := 0) rfl rfl)) ?_
                    refine ra_q 18 67 (v := pt (some ⟨b2, 0, none⟩) 0) rfl rfl rfl (by kernel_rfl) (by kernel_rfl) (by kernel_rfl) (ST.sel hS70 [0, 2] rfl rfl) (fun w' hw' => (Y_fieldAddr (B := some ⟨b2, 0, none⟩) (i := 0) (s := 5) k_fd_107_0_0_57 k_sz_57_6 rfl rfl)) ?_
                    refine ra_q 19 68 (v := pt (some ⟨b2, 0, none⟩) 3) rfl rfl rfl (by kernel_rfl) (by kernel_rfl) (by kernel_rfl) (ST.sel hS70 [0, 2] rfl rfl) (fun w' hw' => (Y_fieldAddr (B := some ⟨b2, 0, none⟩) (i := 0) (s := 0) k_fd_57_3_3_3 k_sz_3_1 rfl rfl)) ?_
                    refine ra_all (rs := [20]) (by kernel_rfl) rfl ?_
                    refine ra_s0 (i := 20) rfl rfl rfl (Ys_store (i := 1) (s := 1) (B := some ⟨b2, 0, none⟩) (T' := 107) (v := .int .i64 (mgt poly 0 0)) (vs := [.int .i64 (mgt poly 0 0)]) (k := 3) (cs' := [.int .i64 Ins, .int .i64 Vars, .int .i64 Root, .int .i64 (mgt poly 0 0), .slice none 0 0, .slice none 0 0, .map (some g), .slice B3 values.length c4]) hS70 k_sz_3_1 rfl rfl rfl rfl rfl rfl rfl (Nat.le_of_ble_eq_true rfl) rfl rfl) ?_ ?_
                    · rintro _ w_56 ⟨rfl, hS71⟩
                      have hS71 : ST w0 [] _ [⟨some ⟨b1, 0, none⟩, 57, [.int .i64 0, .int .i64 0, .int .i64 0, .int .i64 0, .slice none 0 0, .slice none 0 0], 6⟩, ⟨some ⟨b2, 0, none⟩, 107, [.int .i64 Ins, .int .i64 Vars, .int .i64 Root, .int .i64 (mgt poly 0 0), .slice none 0 0, .slice none 0 0, .map (some g), .slice B3 values.length c4], 8⟩, ⟨B3, 61, (values1.flatMap enc_Affine), c4 * 2⟩, ⟨(some ⟨g, 0, none⟩), .mp (mpE (Value.int .i64) (Value.int .i64) poly), [], 0⟩, ⟨B6, 136, (r_4.flatMap enc_Term), c7 * 2⟩] [⟨B, (c.Gates.flatMap enc_Gate)⟩] := hS71
                      refine ⟨(ST.sel hS71 [0, 2] rfl rfl), ?_⟩
                      refine ra_q 21 69 (v := pt (some ⟨b2, 0, none⟩) 0) rfl rfl rfl (by kernel_rfl) (by kernel_rfl) (by kernel_rfl) (ST.sel hS71 [0, 2] rfl rfl) (fun w' hw' => (Y_nilCheck (B := some ⟨b2, 0, none⟩) (i := 0) rfl rfl)) ?_
                      refine ra_q 22 70 (v := pt (some ⟨b2, 0, none⟩) 0) rfl rfl rfl (by kernel_rfl) (by kernel_rfl) (by kernel_rfl) (ST.sel hS71 [0, 2] rfl rfl) (fun w' hw' => (Y_fieldAddr (B := some ⟨b2, 0, none⟩) (i := 0) (s := 5) k_fd_107_0_0_57 k_sz_57_6 rfl rfl)) ?_
                      refine ra_q 23 71 (v := pt (some ⟨b2, 0, none⟩) 4) rfl rfl rfl (by kernel_rfl) (by kernel_rfl) (by kernel_rfl) (ST.sel hS71 [0, 2] rfl rfl) (fun w' hw' => (Y_fieldAddr (B := some ⟨b2, 0, none⟩) (i := 0) (s := 0) k_fd_57_4_4_54 k_sz_54_1 rfl rfl)) ?_
                      refine ra_all (rs := [24]) (by kernel_rfl) rfl ?_
                      refine ra_s0 (i := 24) rfl rfl rfl (Ys_store (i := 1) (s := 1) (B := some ⟨b2, 0, none⟩) (T' := 107) (v := .slice B6 r_4.length c7) (vs := [.slice B6 r_4.length c7]) (k := 4) (cs' := [.int .i64 Ins, .int .i64 Vars, .int .i64 Root, .int .i64 (mgt poly 0 0), .slice B6 r_4.length c7, .slice none 0 0, .map (some g), .slice B3 values.length c4]) hS71 k_sz_54_1 rfl rfl rfl rfl rfl rfl rfl (Nat.le_of_ble_eq_true rfl) rfl rfl) ?_ ?_
                      · rintro _ w_57 ⟨rfl, hS72⟩
                        have hS72 : ST w0 [] _ [⟨some ⟨b1, 0, none⟩, 57, [.int .i64 0, .int .i64 0, .int .i64 0, .int .i64 0, .slice none 0 0, .slice none 0 0], 6⟩, ⟨some ⟨b2, 0, none⟩, 107, [.int .i64 Ins, .int .i64 Vars, .int .i64 Root, .int .i64 (mgt poly 0 0), .slice B6 r_4.length c7, .slice none 0 0, .map (some g), .slice B3 values.length c4], 8⟩, ⟨B3, 61, (values1.flatMap enc_Affine), c4 * 2⟩, ⟨(some ⟨g, 0, none⟩), .mp (mpE (Value.int .i64) (Value.int .i64) poly), [], 0⟩, ⟨B6, 136, (r_4.flatMap enc_Term), c7 * 2⟩] [⟨B, (c.Gates.flatMap enc_Gate)⟩] := hS72
                        refine ⟨(ST.sel hS72 [0, 2] rfl rfl), ?_⟩
                        refine ra_q 25 72 (v := pt (some ⟨b2, 0, none⟩) 0) rfl rfl rfl (by kernel_rfl) (by kernel_rfl) (by kernel_rfl) (ST.sel hS72 [0, 2] rfl rfl) (fun w' hw' => (Y_nilCheck (B := some ⟨b2, 0, none⟩) (i := 0) rfl rfl)) ?_
                        refine ra_q 26 73 (v := pt (some ⟨b2, 0, none⟩) 0) rfl rfl rfl (by kernel_rfl) (by kernel_rfl) (by kernel_rfl) (ST.sel hS72 [0, 2] rfl rfl) (fun w' hw' => (Y_fieldAddr (B := some ⟨b2, 0, none⟩) (i := 0) (s := 5) k_fd_107_0_0_57 k_sz_57_6 rfl rfl)) ?_
                        refine ra_q 27 74 (v := pt (some ⟨b2, 0, none⟩) 5) rfl rfl rfl (by kernel_rfl) (by kernel_rfl) (by kernel_rfl) (ST.sel hS72 [0, 2] rfl rfl) (fun w' hw' => (Y_fieldAddr (B := some ⟨b2, 0, none⟩) (i := 0) (s := 0) k_fd_57_5_5_55 k_sz_55_1 rfl rfl)) ?_
                        refine ra_all (rs := [28]) (by kernel_rfl) rfl ?_
                        refine ra_s0 (i := 28) rfl rfl rfl (Ys_store (i := 1) (s := 1) (B := some ⟨b2, 0, none⟩) (T' := 107) (v := .slice B3 values.length c4) (vs := [.slice B3 values.length c4]) (k := 5) (cs' := [.int .i64 Ins, .int .i64 Vars, .int .i64 Root, .int .i64 (mgt poly 0 0), .slice B6 r_4.length c7, .slice B3 values.length c4, .map (some g), .slice B3 values.length c4]) hS72 k_sz_55_1 rfl rfl rfl rfl rfl rfl rfl (Nat.le_of_ble_eq_true rfl) rfl rfl) ?_ ?_
                        · rintro _ w_58 ⟨rfl, hS73⟩
                          have hS73 : ST w0 [] _ [⟨some ⟨b1, 0, none⟩, 57, [.int .i64 0, .int .i64 0, .int .i64 0, .int .i64 0, .slice none 0 0, .slice none 0 0], 6⟩, ⟨some ⟨b2, 0, none⟩, 107, [.int .i64 Ins, .int .i64 Vars, .int .i64 Root, .int .i64 (mgt poly 0 0), .slice B6 r_4.length c7, .slice B3 values.length c4, .map (some g), .slice B3 values.length c4], 8⟩, ⟨B3, 61, (values1.flatMap enc_Affine), c4 * 2⟩, ⟨(some ⟨g, 0, none⟩), .mp (mpE (Value.int .i64) (Value.int .i64) poly), [], 0⟩, ⟨B6, 136, (r_4.flatMap enc_Term), c7 * 2⟩] [⟨B, (c.Gates.flatMap enc_Gate)⟩] := hS73
                          refine ⟨(ST.sel hS73 [0, 2] rfl rfl), ?_⟩
                          refine ra_done (by kernel_rfl) ?_
                          exact ⟨B6, c7, (FF.cons (hf2.get 2 0 rfl) (FF.cons (hf2.get 4 1 rfl) FF.nil)), (hS73.sel [0, 1, 4, 2, 3] rfl rfl)⟩
                        exact allR_nil
                      exact allR_nil
                    exact allR_nil
                  exact allR_nil
                refine ra_c 61 (i := 12) rfl rfl rfl (Yc_func (g := 68) (vs := [.map (some g)]) k_call_68 rfl (mc rfl mn) (c_impl_polynomial_terms poly g _  (hS30.inn [false, false, true, false] rfl [] rfl) hc2)) ?_ ?_
                · rintro _ w_59 ⟨B6, c7, rfl, hd12⟩
                  have hS74 := hS30.out [false, false, true, false] rfl hd12
                  have hS74 : ST w0 [] _ [⟨some ⟨b1, 0, none⟩, 57, [.int .i64 0, .int .i64 0, .int .i64 0, .int .i64 0, .slice none 0 0, .slice none 0 0], 6⟩, ⟨some ⟨b2, 0, none⟩, 107, [.int .i64 Ins, .int .i64 Vars, .int .i64 Root, .int .i64 Phase, .slice none 0 0, .slice none 0 0, .map (some g), .slice B3 values.length c4], 8⟩, ⟨B3, 61, (values1.flatMap enc_Affine), c4 * 2⟩, ⟨(some ⟨g, 0, none⟩), .mp (mpE (Value.int .i64) (Value.int .i64) poly), [], 0⟩, ⟨B6, 136, (r_4.flatMap enc_Term), c7 * 2⟩] [⟨B, (c.Gates.flatMap enc_Gate)⟩] := hS74
                  refine ⟨(ST.sel hS74 [0, 2] rfl rfl), ?_⟩
                  refine ra_all (rs := [7]) (by kernel_rfl) rfl ?_
                  refine ra_y 56 (i := 7) (v := .int .i64 (mgt poly 0 0)) rfl rfl rfl (Y_mapGet (kE := (Value.int .i64)) (vE := (Value.int .i64)) (l := poly) (a := 0) (d := 0) (g := g) (i := 3) hS74 (keyInt k_int_3_i64) k_map_105_3_3 k_zero_3 rfl rfl rfl rfl) (ST.sel hS74 [0, 2] rfl rfl) ?_ ?_
                  · skip
                    refine ra_q 17 66 (v := pt (some ⟨b2, 0, none⟩) 0) rfl rfl rfl (by kernel_rfl) (by kernel_rfl) (by kernel_rfl) (ST.sel hS74 [0, 2] rfl rfl) (fun w' hw' => (Y_nilCheck (B := some ⟨b2, 0, none⟩) (i := 0) rfl rfl)) ?_
                    refine ra_q 18 67 (v := pt (some ⟨b2, 0, none⟩) 0) rfl rfl rfl (by kernel_rfl) (by kernel_rfl) (by kernel_rfl) (ST.sel hS74 [0, 2] rfl rfl) (fun w' hw' => (Y_fieldAddr (B := some ⟨b2, 0, none⟩) (i := 0) (s := 5) k_fd_107_0_0_57 k_sz_57_6 rfl rfl)) ?_
                    refine ra_q 19 68 (v := pt (some ⟨b2, 0, none⟩) 3) rfl rfl rfl (by kernel_rfl) (by kernel_rfl) (by kernel_rfl) (ST.sel hS74 [0, 2] rfl rfl) (fun w' hw' => (Y_fieldAddr (B := some ⟨b2, 0, none⟩) (i := 0) (s := 0) k_fd_57_3_3_3 k_sz_3_1 rfl rfl)) ?_
                    refine ra_all (rs := [20]) (by kernel_rfl) rfl ?_
                    refine ra_s0 (i := 20) rfl rfl rfl (Ys_store (i := 1) (s := 1) (B := some ⟨b2, 0, none⟩) (T' := 107) (v := .int .i64 (mgt poly 0 0)) (vs := [.int .i64 (mgt poly 0 0)]) (k := 3) (cs' := [.int .i64 Ins, .int .i64 Vars, .int .i64 Root, .int .i64 (mgt poly 0 0), .slice none 0 0, .slice none 0 0, .map (some g), .slice B3 values.length c4]) hS74 k_sz_3_1 rfl rfl rfl rfl rfl rfl rfl (Nat.le_of_ble_eq_true rfl) rfl rfl) ?_ ?_
                    · rintro _ w_60 ⟨rfl, hS75⟩
                      have hS75 : ST w0 [] _ [⟨some ⟨b1, 0, none⟩, 57, [.int .i64 0, .int .i64 0, .int .i64 0, .int .i64 0, .slice none 0 0, .slice none 0 0], 6⟩, ⟨some ⟨b2, 0, none⟩, 107, [.int .i64 Ins, .int .i64 Vars, .int .i64 Root, .int .i64 (mgt poly 0 0), .slice none 0 0, .slice none 0 0, .map (some g), .slice B3 values.length c4], 8⟩, ⟨B3, 61, (values1.flatMap enc_Affine), c4 * 2⟩, ⟨(some ⟨g, 0, none⟩), .mp (mpE (Value.int .i64) (Value.int .i64) poly), [], 0⟩, ⟨B6, 136, (r_4.flatMap enc_Term), c7 * 2⟩] [⟨B, (c.Gates.flatMap enc_Gate)⟩] := hS75
                      refine ⟨(ST.sel hS75 [0, 2] rfl rfl), ?_⟩
                      refine ra_q 21 69 (v := pt (some ⟨b2, 0, none⟩) 0) rfl rfl rfl (by kernel_rfl) (by kernel_rfl) (by kernel_rfl) (ST.sel hS75 [0, 2] rfl rfl) (fun w' hw' => (Y_nilCheck (B := some ⟨b2, 0, none⟩) (i := 0) rfl rfl)) ?_
                      refine ra_q 22 70 (v := pt (some ⟨b2, 0, none⟩) 0) rfl rfl rfl (by kernel_rfl) (by kernel_rfl) (by kernel_rfl) (ST.sel hS75 [0, 2] rfl rfl) (fun w' hw' => (Y_fieldAddr (B := some ⟨b2, 0, none⟩) (i := 0) (s := 5) k_fd_107_0_0_57 k_sz_57_6 rfl rfl)) ?_
                      refine ra_q 23 71 (v := pt (some ⟨b2, 0, none⟩) 4) rfl rfl rfl (by kernel_rfl) (by kernel_rfl) (by kernel_rfl) (ST.sel hS75 [0, 2] rfl rfl) (fun w' hw' => (Y_fieldAddr (B := some ⟨b2, 0, none⟩) (i := 0) (s := 0) k_fd_57_4_4_54 k_sz_54_1 rfl rfl)) ?_
                      refine ra_all (rs := [24]) (by kernel_rfl) rfl ?_
                      refine ra_s0 (i := 24) rfl rfl rfl (Ys_store (i := 1) (s := 1) (B := some ⟨b2, 0, none⟩) (T' := 107) (v := .slice B6 r_4.length c7) (vs := [.slice B6 r_4.length c7]) (k := 4) (cs' := [.int .i64 Ins, .int .i64 Vars, .int .i64 Root, .int .i64 (mgt poly 0 0), .slice B6 r_4.length c7, .slice none 0 0, .map (some g), .slice B3 values.length c4]) hS75 k_sz_54_1 rfl rfl rfl rfl rfl rfl rfl (Nat.le_of_ble_eq_true rfl) rfl rfl) ?_ ?_
                      · rintro _ w_61 ⟨rfl, hS76⟩
                        have hS76 : ST w0 [] _ [⟨some ⟨b1, 0, none⟩, 57, [.int .i64 0, .int .i64 0, .int .i64 0, .int .i64 0, .slice none 0 0, .slice none 0 0], 6⟩, ⟨some ⟨b2, 0, none⟩, 107, [.int .i64 Ins, .int .i64 Vars, .int .i64 Root, .int .i64 (mgt poly 0 0), .slice B6 r_4.length c7, .slice none 0 0, .map (some g), .slice B3 values.length c4], 8⟩, ⟨B3, 61, (values1.flatMap enc_Affine), c4 * 2⟩, ⟨(some ⟨g, 0, none⟩), .mp (mpE (Value.int .i64) (Value.int .i64) poly), [], 0⟩, ⟨B6, 136, (r_4.flatMap enc_Term), c7 * 2⟩] [⟨B, (c.Gates.flatMap enc_Gate)⟩] := hS76
                        refine ⟨(ST.sel hS76 [0, 2] rfl rfl), ?_⟩
                        refine ra_q 25 72 (v := pt (some ⟨b2, 0, none⟩) 0) rfl rfl rfl (by kernel_rfl) (by kernel_rfl) (by kernel_rfl) (ST.sel hS76 [0, 2] rfl rfl) (fun w' hw' => (Y_nilCheck (B := some ⟨b2, 0, none⟩) (i := 0) rfl rfl)) ?_
                        refine ra_q 26 73 (v := pt (some ⟨b2, 0, none⟩) 0) rfl rfl rfl (by kernel_rfl) (by kernel_rfl) (by kernel_rfl) (ST.sel hS76 [0, 2] rfl rfl) (fun w' hw' => (Y_fieldAddr (B := some ⟨b2, 0, none⟩) (i := 0) (s := 5) k_fd_107_0_0_57 k_sz_57_6 rfl rfl)) ?_
                        refine ra_q 27 74 (v := pt (some ⟨b2, 0, none⟩) 5) rfl rfl rfl (by kernel_rfl) (by kernel_rfl) (by kernel_rfl) (ST.sel hS76 [0, 2] rfl rfl) (fun w' hw' => (Y_fieldAddr (B := some ⟨b2, 0, none⟩) (i := 0) (s := 0) k_fd_57_5_5_55 k_sz_55_1 rfl rfl)) ?_
                        refine ra_all (rs := [28]) (by kernel_rfl) rfl ?_
                        refine ra_s0 (i := 28) rfl rfl rfl (Ys_store (i := 1) (s := 1) (B := some ⟨b2, 0, none⟩) (T' := 107) (v := .slice B3 values.length c4) (vs := [.slice B3 values.length c4]) (k := 5) (cs' := [.int .i64 Ins, .int .i64 Vars, .int .i64 Root, .int .i64 (mgt poly 0 0), .slice B6 r_4.length c7, .slice B3 values.length c4, .map (some g), .slice B3 values.length c4]) hS76 k_sz_55_1 rfl rfl rfl rfl rfl rfl rfl (Nat.le_of_ble_eq_true rfl) rfl rfl) ?_ ?_
                        · rintro _ w_62 ⟨rfl, hS77⟩
                          have hS77 : ST w0 [] _ [⟨some ⟨b1, 0, none⟩, 57, [.int .i64 0, .int .i64 0, .int .i64 0, .int .i64 0, .slice none 0 0, .slice none 0 0], 6⟩, ⟨some ⟨b2, 0, none⟩, 107, [.int .i64 Ins, .int .i64 Vars, .int .i64 Root, .int .i64 (mgt poly 0 0), .slice B6 r_4.length c7, .slice B3 values.length c4, .map (some g), .slice B3 values.length c4], 8⟩, ⟨B3, 61, (values1.flatMap enc_Affine), c4 * 2⟩, ⟨(some ⟨g, 0, none⟩), .mp (mpE (Value.int .i64) (Value.int .i64) poly), [], 0⟩, ⟨B6, 136, (r_4.flatMap enc_Term), c7 * 2⟩] [⟨B, (c.Gates.flatMap enc_Gate)⟩] := hS77
                          refine ⟨(ST.sel hS77 [0, 2] rfl rfl), ?_⟩
                          refine ra_done (by kernel_rfl) ?_
                          exact ⟨B6, c7, (FF.cons (hf2.get 2 0 rfl) (FF.cons (hf2.get 4 1 rfl) FF.nil)), (hS77.sel [0, 1, 4, 2, 3] rfl rfl)⟩
                        exact allR_nil
                      exact allR_nil
                    exact allR_nil
                  exact allR_nil
                exact allR_nil
              exact allR_nil
            exact allR_nil
          refine ra_y 60 (i := 11) (v := .map (some g)) rfl rfl rfl (Y_load1 (B := some ⟨b2, 0, none⟩) (i := 6) (cs := [.int .i64 Ins, .int .i64 Vars, .int .i64 Root, .int .i64 Phase, .slice none 0 0, .slice none 0 0, .map (some g), .slice B3 values.length c4]) (v := .map (some g)) k_sc_105 rfl rfl (hS30.cf (i := 1) rfl) rfl) (ST.sel hS30 [0, 3] rfl rfl) ?_ ?_
          · skip
            refine ra_all (rs := [6, 12, 16]) (by kernel_rfl) rfl ?_
            refine ra_y 55 (i := 6) (v := .map (some g)) rfl rfl rfl (Y_load1 (B := some ⟨b2, 0, none⟩) (i := 6) (cs := [.int .i64 Ins, .int .i64 Vars, .int .i64 Root, .int .i64 Phase, .slice none 0 0, .slice none 0 0, .map (some g), .slice B3 values.length c4]) (v := .map (some g)) k_sc_105 rfl rfl (hS30.cf (i := 1) rfl) rfl) (ST.sel hS30 [0, 3] rfl rfl) ?_ ?_
            · skip
              refine ra_all (rs := [7, 12, 16]) (by kernel_rfl) rfl ?_
              refine ra_y 56 (i := 7) (v := .int .i64 (mgt poly 0 0)) rfl rfl rfl (Y_mapGet (kE := (Value.int .i64)) (vE := (Value.int .i64)) (l := poly) (a := 0) (d := 0) (g := g) (i := 2) hS30 (keyInt k_int_3_i64) k_map_105_3_3 k_zero_3 rfl rfl rfl rfl) (ST.sel hS30 [0, 3] rfl rfl) ?_ ?_
              · skip
                refine ra_all (rs := [12, 16]) (by kernel_rfl) rfl ?_
                refine ra_c 61 (i := 12) rfl rfl rfl (Yc_func (g := 68) (vs := [.map (some g)]) k_call_68 rfl (mc rfl mn) (c_impl_polynomial_terms poly g _  (hS30.inn [false, false, true, false] rfl [] rfl) hc2)) ?_ ?_
                · rintro _ w_63 ⟨B6, c7, rfl, hd13⟩
                  have hS78 := hS30.out [false, false, true, false] rfl hd13
                  have hS78 : ST w0 [] _ [⟨some ⟨b1, 0, none⟩, 57, [.int .i64 0, .int .i64 0, .int .i64 0, .int .i64 0, .slice none 0 0, .slice none 0 0], 6⟩, ⟨some ⟨b2, 0, none⟩, 107, [.int .i64 Ins, .int .i64 Vars, .int .i64 Root, .int .i64 Phase, .slice none 0 0, .slice none 0 0, .map (some g), .slice B3 values.length c4], 8⟩, ⟨B3, 61, (values1.flatMap enc_Affine), c4 * 2⟩, ⟨(some ⟨g, 0, none⟩), .mp (mpE (Value.int .i64) (Value.int .i64) poly), [], 0⟩, ⟨B6, 136, (r_4.flatMap enc_Term), c7 * 2⟩] [⟨B, (c.Gates.flatMap enc_Gate)⟩] := hS78
                  refine ⟨(ST.sel hS78 [0, 2] rfl rfl), ?_⟩
                  refine ra_all (rs := [16]) (by kernel_rfl) rfl ?_
                  refine ra_y 65 (i := 16) (v := .slice B3 values.length c4) rfl rfl rfl (Y_load1 (B := some ⟨b2, 0, none⟩) (i := 7) (cs := [.int .i64 Ins, .int .i64 Vars, .int .i64 Root, .int .i64 Phase, .slice none 0 0, .slice none 0 0, .map (some g), .slice B3 values.length c4]) (v := .slice B3 values.length c4) k_sc_55 rfl rfl (hS78.cf (i := 1) rfl) rfl) (ST.sel hS78 [0, 2] rfl rfl) ?_ ?_
                  · skip
                    refine ra_q 17 66 (v := pt (some ⟨b2, 0, none⟩) 0) rfl rfl rfl (by kernel_rfl) (by kernel_rfl) (by kernel_rfl) (ST.sel hS78 [0, 2] rfl rfl) (fun w' hw' => (Y_nilCheck (B := some ⟨b2, 0, none⟩) (i := 0) rfl rfl)) ?_
                    refine ra_q 18 67 (v := pt (some ⟨b2, 0, none⟩) 0) rfl rfl rfl (by kernel_rfl) (by kernel_rfl) (by kernel_rfl) (ST.sel hS78 [0, 2] rfl rfl) (fun w' hw' => (Y_fieldAddr (B := some ⟨b2, 0, none⟩) (i := 0) (s := 5) k_fd_107_0_0_57 k_sz_57_6 rfl rfl)) ?_
                    refine ra_q 19 68 (v := pt (some ⟨b2, 0, none⟩) 3) rfl rfl rfl (by kernel_rfl) (by kernel_rfl) (by kernel_rfl) (ST.sel hS78 [0, 2] rfl rfl) (fun w' hw' => (Y_fieldAddr (B := some ⟨b2, 0, none⟩) (i := 0) (s := 0) k_fd_57_3_3_3 k_sz_3_1 rfl rfl)) ?_
                    refine ra_all (rs := [20]) (by kernel_rfl) rfl ?_
                    refine ra_s0 (i := 20) rfl rfl rfl (Ys_store (i := 1) (s := 1) (B := some ⟨b2, 0, none⟩) (T' := 107) (v := .int .i64 (mgt poly 0 0)) (vs := [.int .i64 (mgt poly 0 0)]) (k := 3) (cs' := [.int .i64 Ins, .int .i64 Vars, .int .i64 Root, .int .i64 (mgt poly 0 0), .slice none 0 0, .slice none 0 0, .map (some g), .slice B3 values.length c4]) hS78 k_sz_3_1 rfl rfl rfl rfl rfl rfl rfl (Nat.le_of_ble_eq_true rfl) rfl rfl) ?_ ?_
                    · rintro _ w_64 ⟨rfl, hS79⟩
                      have hS79 : ST w0 [] _ [⟨some ⟨b1, 0, none⟩, 57, [.int .i64 0, .int .i64 0, .int .i64 0, .int .i64 0, .slice none 0 0, .slice none 0 0], 6⟩, ⟨some ⟨b2, 0, none⟩, 107, [.int .i64 Ins, .int .i64 Vars, .int .i64 Root, .int .i64 (mgt poly 0 0), .slice none 0 0, .slice none 0 0, .map (some g), .slice B3 values.length c4], 8⟩, ⟨B3, 61, (values1.flatMap enc_Affine), c4 * 2⟩, ⟨(some ⟨g, 0, none⟩), .mp (mpE (Value.int .i64) (Value.int .i64) poly), [], 0⟩, ⟨B6, 136, (r_4.flatMap enc_Term), c7 * 2⟩] [⟨B, (c.Gates.flatMap enc_Gate)⟩] := hS79
                      refine ⟨(ST.sel hS79 [0, 2] rfl rfl), ?_⟩
                      refine ra_q 21 69 (v := pt (some ⟨b2, 0, none⟩) 0) rfl rfl rfl (by kernel_rfl) (by kernel_rfl) (by kernel_rfl) (ST.sel hS79 [0, 2] rfl rfl) (fun w' hw' => (Y_nilCheck (B := some ⟨b2, 0, none⟩) (i := 0) rfl rfl)) ?_
                      refine ra_q 22 70 (v := pt (some ⟨b2, 0, none⟩) 0) rfl rfl rfl (by kernel_rfl) (by kernel_rfl) (by kernel_rfl) (ST.sel hS79 [0, 2] rfl rfl) (fun w' hw' => (Y_fieldAddr (B := some ⟨b2, 0, none⟩) (i := 0) (s := 5) k_fd_107_0_0_57 k_sz_57_6 rfl rfl)) ?_
                      refine ra_q 23 71 (v := pt (some ⟨b2, 0, none⟩) 4) rfl rfl rfl (by kernel_rfl) (by kernel_rfl) (by kernel_rfl) (ST.sel hS79 [0, 2] rfl rfl) (fun w' hw' => (Y_fieldAddr (B := some ⟨b2, 0, none⟩) (i := 0) (s := 0) k_fd_57_4_4_54 k_sz_54_1 rfl rfl)) ?_
                      refine ra_all (rs := [24]) (by kernel_rfl) rfl ?_
                      refine ra_s0 (i := 24) rfl rfl rfl (Ys_store (i := 1) (s := 1) (B := some ⟨b2, 0, none⟩) (T' := 107) (v := .slice B6 r_4.length c7) (vs := [.slice B6 r_4.length c7]) (k := 4) (cs' := [.int .i64 Ins, .int .i64 Vars, .int .i64 Root, .int .i64 (mgt poly 0 0), .slice B6 r_4.length c7, .slice none 0 0, .map (some g), .slice B3 values.length c4]) hS79 k_sz_54_1 rfl rfl rfl rfl rfl rfl rfl (Nat.le_of_ble_eq_true rfl) rfl rfl) ?_ ?_
                      · rintro _ w_65 ⟨rfl, hS80⟩
                        have hS80 : ST w0 [] _ [⟨some ⟨b1, 0, none⟩, 57, [.int .i64 0, .int .i64 0, .int .i64 0, .int .i64 0, .slice none 0 0, .slice none 0 0], 6⟩, ⟨some ⟨b2, 0, none⟩, 107, [.int .i64 Ins, .int .i64 Vars, .int .i64 Root, .int .i64 (mgt poly 0 0), .slice B6 r_4.length c7, .slice none 0 0, .map (some g), .slice B3 values.length c4], 8⟩, ⟨B3, 61, (values1.flatMap enc_Affine), c4 * 2⟩, ⟨(some ⟨g, 0, none⟩), .mp (mpE (Value.int .i64) (Value.int .i64) poly), [], 0⟩, ⟨B6, 136, (r_4.flatMap enc_Term), c7 * 2⟩] [⟨B, (c.Gates.flatMap enc_Gate)⟩] := hS80
                        refine ⟨(ST.sel hS80 [0, 2] rfl rfl), ?_⟩
                        refine ra_q 25 72 (v := pt (some ⟨b2, 0, none⟩) 0) rfl rfl rfl (by kernel_rfl) (by kernel_rfl) (by kernel_rfl) (ST.sel hS80 [0, 2] rfl rfl) (fun w' hw' => (Y_nilCheck (B := some ⟨b2, 0, none⟩) (i := 0) rfl rfl)) ?_
                        refine ra_q 26 73 (v := pt (some ⟨b2, 0, none⟩) 0) rfl rfl rfl (by kernel_rfl) (by kernel_rfl) (by kernel_rfl) (ST.sel hS80 [0, 2] rfl rfl) (fun w' hw' => (Y_fieldAddr (B := some ⟨b2, 0, none⟩) (i := 0) (s := 5) k_fd_107_0_0_57 k_sz_57_6 rfl rfl)) ?_
                        refine ra_q 27 74 (v := pt (some ⟨b2, 0, none⟩) 5) rfl rfl rfl (by kernel_rfl) (by kernel_rfl) (by kernel_rfl) (ST.sel hS80 [0, 2] rfl rfl) (fun w' hw' => (Y_fieldAddr (B := some ⟨b2, 0, none⟩) (i := 0) (s := 0) k_fd_57_5_5_55 k_sz_55_1 rfl rfl)) ?_
                        refine ra_all (rs := [28]) (by kernel_rfl) rfl ?_
                        refine ra_s0 (i := 28) rfl rfl rfl (Ys_store (i := 1) (s := 1) (B := some ⟨b2, 0, none⟩) (T' := 107) (v := .slice B3 values.length c4) (vs := [.slice B3 values.length c4]) (k := 5) (cs' := [.int .i64 Ins, .int .i64 Vars, .int .i64 Root, .int .i64 (mgt poly 0 0), .slice B6 r_4.length c7, .slice B3 values.length c4, .map (some g), .slice B3 values.length c4]) hS80 k_sz_55_1 rfl rfl rfl rfl rfl rfl rfl (Nat.le_of_ble_eq_true rfl) rfl rfl) ?_ ?_
                        · rintro _ w_66 ⟨rfl, hS81⟩
                          have hS81 : ST w0 [] _ [⟨some ⟨b1, 0, none⟩, 57, [.int .i64 0, .int .i64 0, .int .i64 0, .int .i64 0, .slice none 0 0, .slice none 0 0], 6⟩, ⟨some ⟨b2, 0, none⟩, 107, [.int .i64 Ins, .int .i64 Vars, .int .i64 Root, .int .i64 (mgt poly 0 0), .slice B6 r_4.length c7, .slice B3 values.length c4, .map (some g), .slice B3 values.length c4], 8⟩, ⟨B3, 61, (values1.flatMap enc_Affine), c4 * 2⟩, ⟨(some ⟨g, 0, none⟩), .mp (mpE (Value.int .i64) (Value.int .i64) poly), [], 0⟩, ⟨B6, 136, (r_4.flatMap enc_Term), c7 * 2⟩] [⟨B, (c.Gates.flatMap enc_Gate)⟩] := hS81
                          refine ⟨(ST.sel hS81 [0, 2] rfl rfl), ?_⟩
                          refine ra_done (by kernel_rfl) ?_
                          exact ⟨B6, c7, (FF.cons (hf2.get 2 0 rfl) (FF.cons (hf2.get 4 1 rfl) FF.nil)), (hS81.sel [0, 1, 4, 2, 3] rfl rfl)⟩
                        exact allR_nil
                      exact allR_nil
                    exact allR_nil
                  exact allR_nil
                refine ra_y 65 (i := 16) (v := .slice B3 values.length c4) rfl rfl rfl (Y_load1 (B := some ⟨b2, 0, none⟩) (i := 7) (cs := [.int .i64 Ins, .int .i64 Vars, .int .i64 Root, .int .i64 Phase, .slice none 0 0, .slice none 0 0, .map (some g), .slice B3 values.length c4]) (v := .slice B3 values.length c4) k_sc_55 rfl rfl (hS30.cf (i := 1) rfl) rfl) (ST.sel hS30 [0, 3] rfl rfl) ?_ ?_
                · skip
                  refine ra_all (rs := [12]) (by kernel_rfl) rfl ?_
                  refine ra_c 61 (i := 12) rfl rfl rfl (Yc_func (g := 68) (vs := [.map (some g)]) k_call_68 rfl (mc rfl mn) (c_impl_polynomial_terms poly g _  (hS30.inn [false, false, true, false] rfl [] rfl) hc2)) ?_ ?_
                  · rintro _ w_67 ⟨B6, c7, rfl, hd14⟩
                    have hS82 := hS30.out [false, false, true, false] rfl hd14
                    have hS82 : ST w0 [] _ [⟨some ⟨b1, 0, none⟩, 57, [.int .i64 0, .int .i64 0, .int .i64 0, .int .i64 0, .slice none 0 0, .slice none 0 0], 6⟩, ⟨some ⟨b2, 0, none⟩, 107, [.int .i64 Ins, .int .i64 Vars, .int .i64 Root, .int .i64 Phase, .slice none 0 0, .slice none 0 0, .map (some g), .slice B3 values.length c4], 8⟩, ⟨B3, 61, (values1.flatMap enc_Affine), c4 * 2⟩, ⟨(some ⟨g, 0, none⟩), .mp (mpE (Value.int .i64) (Value.int .i64) poly), [], 0⟩, ⟨B6, 136, (r_4.flatMap enc_Term), c7 * 2⟩] [⟨B, (c.Gates.flatMap enc_Gate)⟩] := hS82
                    refine ⟨(ST.sel hS82 [0, 2] rfl rfl), ?_⟩
                    refine ra_q 17 66 (v := pt (some ⟨b2, 0, none⟩) 0) rfl rfl rfl (by kernel_rfl) (by kernel_rfl) (by kernel_rfl) (ST.sel hS82 [0, 2] rfl rfl) (fun w' hw' => (Y_nilCheck (B := some ⟨b2, 0, none⟩) (i := 0) rfl rfl)) ?_
                    refine ra_q 18 67 (v := pt (some ⟨b2, 0, none⟩) 0) rfl rfl rfl (by kernel_rfl) (by kernel_rfl) (by kernel_rfl) (ST.sel hS82 [0, 2] rfl rfl) (fun w' hw' => (Y_fieldAddr (B := some ⟨b2, 0, none⟩) (i := 0) (s := 5) k_fd_107_0_0_57 k_sz_57_6 rfl rfl)) ?_
                    refine ra_q 19 68 (v := pt (some ⟨b2, 0, none⟩) 3) rfl rfl rfl (by kernel_rfl) (by kernel_rfl) (by kernel_rfl) (ST.sel hS82 [0, 2] rfl rfl) (fun w' hw' => (Y_fieldAddr (B := some ⟨b2, 0, none⟩) (i := 0) (s := 0) k_fd_57_3_3_3 k_sz_3_1 rfl rfl)) ?_
                    refine ra_all (rs := [20]) (by kernel_rfl) rfl ?_
                    refine ra_s0 (i := 20) rfl rfl rfl (Ys_store (i := 1) (s := 1) (B := some ⟨b2, 0, none⟩) (T' := 107) (v := .int .i64 (mgt poly 0 0)) (vs := [.int .i64 (mgt poly 0 0)]) (k := 3) (cs' := [.int .i64 Ins, .int .i64 Vars, .int .i64 Root, .int .i64 (mgt poly 0 0), .slice none 0 0, .slice none 0 0, .map (some g), .slice B3 values.length c4]) hS82 k_sz_3_1 rfl rfl rfl rfl rfl rfl rfl (Nat.le_of_ble_eq_true rfl) rfl rfl) ?_ ?_
                    · rintro _ w_68 ⟨rfl, hS83⟩
                      have hS83 : ST w0 [] _ [⟨some ⟨b1, 0, none⟩, 57, [.int .i64 0, .int .i64 0, .int .i64 0, .int .i64 0, .slice none 0 0, .slice none 0 0], 6⟩, ⟨some ⟨b2, 0, none⟩, 107, [.int .i64 Ins, .int .i64 Vars, .int .i64 Root, .int .i64 (mgt poly 0 0), .slice none 0 0, .slice none 0 0, .map (some g), .slice B3 values.length c4], 8⟩, ⟨B3, 61, (values1.flatMap enc_Affine), c4 * 2⟩, ⟨(some ⟨g, 0, none⟩), .mp (mpE (Value.int .i64) (Value.int .i64) poly), [], 0⟩, ⟨B6, 136, (r_4.flatMap enc_Term), c7 * 2⟩] [⟨B, (c.Gates.flatMap enc_Gate)⟩] := hS83
                      refine ⟨(ST.sel hS83 [0, 2] rfl rfl), ?_⟩
                      refine ra_q 21 69 (v := pt (some ⟨b2, 0, none⟩) 0) rfl rfl rfl (by kernel_rfl) (by kernel_rfl) (by kernel_rfl) (ST.sel hS83 [0, 2] rfl rfl) (fun w' hw' => (Y_nilCheck (B := some ⟨b2, 0, none⟩) (i := 0) rfl rfl)) ?_
                      refine ra_q 22 70 (v := pt (some ⟨b2, 0, none⟩) 0) rfl rfl rfl (by kernel_rfl) (by kernel_rfl) (by kernel_rfl) (ST.sel hS83 [0, 2] rfl rfl) (fun w' hw' => (Y_fieldAddr (B := some ⟨b2, 0, none⟩) (i := 0) (s := 5) k_fd_107_0_0_57 k_sz_57_6 rfl rfl)) ?_
                      refine ra_q 23 71 (v := pt (some ⟨b2, 0, none⟩) 4) rfl rfl rfl (by kernel_rfl) (by kernel_rfl) (by kernel_rfl) (ST.sel hS83 [0, 2] rfl rfl) (fun w' hw' => (Y_fieldAddr (B := some ⟨b2, 0, none⟩) (i := 0) (s := 0) k_fd_57_4_4_54 k_sz_54_1 rfl rfl)) ?_
                      refine ra_all (rs := [24]) (by kernel_rfl) rfl ?_
                      refine ra_s0 (i := 24) rfl rfl rfl (Ys_store (i := 1) (s := 1) (B := some ⟨b2, 0, none⟩) (T' := 107) (v := .slice B6 r_4.length c7) (vs := [.slice B6 r_4.length c7]) (k := 4) (cs' := [.int .i64 Ins, .int .i64 Vars, .int .i64 Root, .int .i64 (mgt poly 0 0), .slice B6 r_4.length c7, .slice none 0 0, .map (some g), .slice B3 values.length c4]) hS83 k_sz_54_1 rfl rfl rfl rfl rfl rfl rfl (Nat.le_of_ble_eq_true rfl) rfl rfl) ?_ ?_
                      · rintro _ w_69 ⟨rfl, hS84⟩
                        have hS84 : ST w0 [] _ [⟨some ⟨b1, 0, none⟩, 57, [.int .i64 0, .int .i64 0, .int .i64 0, .int .i64 0, .slice none 0 0, .slice none 0 0], 6⟩, ⟨some ⟨b2, 0, none⟩, 107, [.int .i64 Ins, .int .i64 Vars, .int .i64 Root, .int .i64 (mgt poly 0 0), .slice B6 r_4.length c7, .slice none 0 0, .map (some g), .slice B3 values.length c4], 8⟩, ⟨B3, 61, (values1.flatMap enc_Affine), c4 * 2⟩, ⟨(some ⟨g, 0, none⟩), .mp (mpE (Value.int .i64) (Value.int .i64) poly), [], 0⟩, ⟨B6, 136, (r_4.flatMap enc_Term), c7 * 2⟩] [⟨B, (c.Gates.flatMap enc_Gate)⟩] := hS84
                        refine ⟨(ST.sel hS84 [0, 2] rfl rfl), ?_⟩
                        refine ra_q 25 72 (v := pt (some ⟨b2, 0, none⟩) 0) rfl rfl rfl (by kernel_rfl) (by kernel_rfl) (by kernel_rfl) (ST.sel hS84 [0, 2] rfl rfl) (fun w' hw' => (Y_nilCheck (B := some ⟨b2, 0, none⟩) (i := 0) rfl rfl)) ?_
                        refine ra_q 26 73 (v := pt (some ⟨b2, 0, none⟩) 0) rfl rfl rfl (by kernel_rfl) (by kernel_rfl) (by kernel_rfl) (ST.sel hS84 [0, 2] rfl rfl) (fun w' hw' => (Y_fieldAddr (B := some ⟨b2, 0, none⟩) (i := 0) (s := 5) k_fd_107_0_0_57 k_sz_57_6 rfl rfl)) ?_
                        refine ra_q 27 74 (v := pt (some ⟨b2, 0, none⟩) 5) rfl rfl rfl (by kernel_rfl) (by kernel_rfl) (by kernel_rfl) (ST.sel hS84 [0, 2] rfl rfl) (fun w' hw' => (Y_fieldAddr (B := some ⟨b2, 0, none⟩) (i := 0) (s := 0) k_fd_57_5_5_55 k_sz_55_1 rfl rfl)) ?_
                        refine ra_all (rs := [28]) (by kernel_rfl) rfl ?_
                        refine ra_s0 (i := 28) rfl rfl rfl (Ys_store (i := 1) (s := 1) (B := some ⟨b2, 0, none⟩) (T' := 107) (v := .slice B3 values.length c4) (vs := [.slice B3 values.length c4]) (k := 5) (cs' := [.int .i64 Ins, .int .i64 Vars, .int .i64 Root, .int .i64 (mgt poly 0 0), .slice B6 r_4.length c7, .slice B3 values.length c4, .map (some g), .slice B3 values.length c4]) hS84 k_sz_55_1 rfl rfl rfl rfl rfl rfl rfl (Nat.le_of_ble_eq_true rfl) rfl rfl) ?_ ?_
                        · rintro _ w_70 ⟨rfl, hS85⟩
                          have hS85 : ST w0 [] _ [⟨some ⟨b1, 0, none⟩, 57, [.int .i64 0, .int .i64 0, .int .i64 0, .int .i64 0, .slice none 0 0, .slice none 0 0], 6⟩, ⟨some ⟨b2, 0, none⟩, 107, [.int .i64 Ins, .int .i64 Vars, .int .i64 Root, .int .i64 (mgt poly 0 0), .slice B6 r_4.length c7, .slice B3 values.length c4, .map (some g), .slice B3 values.length c4], 8⟩, ⟨B3, 61, (values1.flatMap enc_Affine), c4 * 2⟩, ⟨(some ⟨g, 0, none⟩), .mp (mpE (Value.int .i64) (Value.int .i64) poly), [], 0⟩, ⟨B6, 136, (r_4.flatMap enc_Term), c7 * 2⟩] [⟨B, (c.Gates.flatMap enc_Gate)⟩] := hS85
                          refine ⟨(ST.sel hS85 [0, 2] rfl rfl), ?_⟩
                          refine ra_done (by kernel_rfl) ?_
                          exact ⟨B6, c7, (FF.cons (hf2.get 2 0 rfl) (FF.cons (hf2.get 4 1 rfl) FF.nil)), (hS85.sel [0, 1, 4, 2, 3] rfl rfl)⟩
                        exact allR_nil
                      exact allR_nil
                    exact allR_nil
                  exact allR_nil
                exact allR_nil
              refine ra_c 61 (i := 12) rfl rfl rfl (Yc_func (g := 68) (vs := [.map (some g)]) k_call_68 rfl (mc rfl mn) (c_impl_polynomial_terms poly g _  (hS30.inn [false, false, true, false] rfl [] rfl) hc2)) ?_ ?_
              · rintro _ w_71 ⟨B6, c7, rfl, hd15⟩
                have hS86 := hS30.out [false, false, true, false] rfl hd15
                have hS86 : ST w0 [] _ [⟨some ⟨b1, 0, none⟩, 57, [.int .i64 0, .int .i64 0, .int .i64 0, .int .i64 0, .slice none 0 0, .slice none 0 0], 6⟩, ⟨some ⟨b2, 0, none⟩, 107, [.int .i64 Ins, .int .i64 Vars, .int .i64 Root, .int .i64 Phase, .slice none 0 0, .slice none 0 0, .map (some g), .slice B3 values.length c4], 8⟩, ⟨B3, 61, (values1.flatMap enc_Affine), c4 * 2⟩, ⟨(some ⟨g, 0, none⟩), .mp (mpE (Value.int .i64) (Value.int .i64) poly), [], 0⟩, ⟨B6, 136, (r_4.flatMap enc_Term), c7 * 2⟩] [⟨B, (c.Gates.flatMap enc_Gate)⟩] := hS86
                refine ⟨(ST.sel hS86 [0, 2] rfl rfl), ?_⟩
                refine ra_all (rs := [7, 16]) (by kernel_rfl) rfl ?_
                refine ra_y 56 (i := 7) (v := .int .i64 (mgt poly 0 0)) rfl rfl rfl (Y_mapGet (kE := (Value.int .i64)) (vE := (Value.int .i64)) (l := poly) (a := 0) (d := 0) (g := g) (i := 3) hS86 (keyInt k_int_3_i64) k_map_105_3_3 k_zero_3 rfl rfl rfl rfl) (ST.sel hS86 [0, 2] rfl rfl) ?_ ?_
                · skip
                  refine ra_all (rs := [16]) (by kernel_rfl) rfl ?_
                  refine ra_y 65 (i := 16) (v := .slice B3 values.length c4) rfl rfl rfl (Y_load1 (B := some ⟨b2, 0, none⟩) (i := 7) (cs := [.int .i64 Ins, .int .i64 Vars, .int .i64 Root, .int .i64 Phase, .slice none 0 0, .slice none 0 0, .map (some g), .slice B3 values.length c4]) (v := .slice B3 values.length c4) k_sc_55 rfl rfl (hS86.cf (i := 1) rfl) rfl) (ST.sel hS86 [0, 2] rfl rfl) ?_ ?_
                  · skip
                    refine ra_q 17 66 (v := pt (some ⟨b2, 0, none⟩) 0) rfl rfl rfl (by kernel_rfl) (by kernel_rfl) (by kernel_rfl) (ST.sel hS86 [0, 2] rfl rfl) (fun w' hw' => (Y_nilCheck (B := some ⟨b2, 0, none⟩) (i := 0) rfl rfl)) ?_
                    refine ra_q 18 67 (v := pt (some ⟨b2, 0, none⟩) 0) rfl rfl rfl (by kernel_rfl) (by kernel_rfl) (by kernel_rfl) (ST.sel hS86 [0, 2] rfl rfl) (fun w' hw' => (Y_fieldAddr (B := some ⟨b2, 0, none⟩) (i := 0) (s := 5) k_fd_107_0_0_57 k_sz_57_6 rfl rfl)) ?_
                    refine ra_q 19 68 (v := pt (some ⟨b2, 0, none⟩) 3) rfl rfl rfl (by kernel_rfl) (by kernel_rfl) (by kernel_rfl) (ST.sel hS86 [0, 2] rfl rfl) (fun w' hw' => (Y_fieldAddr (B := some ⟨b2, 0, none⟩) (i := 0) (s := 0) k_fd_57_3_3_3 k_sz_3_1 rfl rfl)) ?_
                    refine ra_all (rs := [20]) (by kernel_rfl) rfl ?_
                    refine ra_s0 (i := 20) rfl rfl rfl (Ys_store (i := 1) (s := 1) (B := some ⟨b2, 0, none⟩) (T' := 107) (v := .int .i64 (mgt poly 0 0)) (vs := [.int .i64 (mgt poly 0 0)]) (k := 3) (cs' := [.int .i64 Ins, .int .i64 Vars, .int .i64 Root, .int .i64 (mgt poly 0 0), .slice none 0 0, .slice none 0 0, .map (some g), .slice B3 values.length c4]) hS86 k_sz_3_1 rfl rfl rfl rfl rfl rfl rfl (Nat.le_of_ble_eq_true rfl) rfl rfl) ?_ ?_
                    · rintro _ w_72 ⟨rfl, hS87⟩
                      have hS87 : ST w0 [] _ [⟨some ⟨b1, 0, none⟩, 57, [.int .i64 0, .int .i64 0, .int .i64 0, .int .i64 0, .slice none 0 0, .slice none 0 0], 6⟩, ⟨some ⟨b2, 0, none⟩, 107, [.int .i64 Ins, .int .i64 Vars, .int .i64 Root, .int .i64 (mgt poly 0 0), .slice none 0 0, .slice none 0 0, .map (some g), .slice B3 values.length c4], 8⟩, ⟨B3, 61, (values1.flatMap enc_Affine), c4 * 2⟩, ⟨(some ⟨g, 0, none⟩), .mp (mpE (Value.int .i64) (Value.int .i64) poly), [], 0⟩, ⟨B6, 136, (r_4.flatMap enc_Term), c7 * 2⟩] [⟨B, (c.Gates.flatMap enc_Gate)⟩] := hS87
                      refine ⟨(ST.sel hS87 [0, 2] rfl rfl), ?_⟩
                      refine ra_q 21 69 (v := pt (some ⟨b2, 0, none⟩) 0) rfl rfl rfl (by kernel_rfl) (by kernel_rfl) (by kernel_rfl) (ST.sel hS87 [0, 2] rfl rfl) (fun w' hw' => (Y_nilCheck (B := some ⟨b2, 0, none⟩) (i := 0) rfl rfl)) ?_
                      refine ra_q 22 70 (v := pt (some ⟨b2, 0, none⟩) 0) rfl rfl rfl (by kernel_rfl) (by kernel_rfl) (by kernel_rfl) (ST.sel hS87 [0, 2] rfl rfl) (fun w' hw' => (Y_fieldAddr (B := some ⟨b2, 0, none⟩) (i := 0) (s := 5) k_fd_107_0_0_57 k_sz_57_6 rfl rfl)) ?_
                      refine ra_q 23 71 (v := pt (some ⟨b2, 0, none⟩) 4) rfl rfl rfl (by kernel_rfl) (by kernel_rfl) (by kernel_rfl) (ST.sel hS87 [0, 2] rfl rfl) (fun w' hw' => (Y_fieldAddr (B := some ⟨b2, 0, none⟩) (i := 0) (s := 0) k_fd_57_4_4_54 k_sz_54_1 rfl rfl)) ?_
                      refine ra_all (rs := [24]) (by kernel_rfl) rfl ?_
                      refine ra_s0 (i := 24) rfl rfl rfl (Ys_store (i := 1) (s := 1) (B := some ⟨b2, 0, none⟩) (T' := 107) (v := .slice B6 r_4.length c7) (vs := [.slice B6 r_4.length c7]) (k := 4) (cs' := [.int .i64 Ins, .int .i64 Vars, .int .i64 Root, .int .i64 (mgt poly 0 0), .slice B6 r_4.length c7, .slice none 0 0, .map (some g), .slice B3 values.length c4]) hS87 k_sz_54_1 rfl rfl rfl rfl rfl rfl rfl (Nat.le_of_ble_eq_true rfl) rfl rfl) ?_ ?_
                      · rintro _ w_73 ⟨rfl, hS88⟩
                        have hS88 : ST w0 [] _ [⟨some ⟨b1, 0, none⟩, 57, [.int .i64 0, .int .i64 0, .int .i64 0, .int .i64 0, .slice none 0 0, .slice none 0 0], 6⟩, ⟨some ⟨b2, 0, none⟩, 107, [.int .i64 Ins, .int .i64 Vars, .int .i64 Root, .int .i64 (mgt poly 0 0), .slice B6 r_4.length c7, .slice none 0 0, .map (some g), .slice B3 values.length c4], 8⟩, ⟨B3, 61, (values1.flatMap enc_Affine), c4 * 2⟩, ⟨(some ⟨g, 0, none⟩), .mp (mpE (Value.int .i64) (Value.int .i64) poly), [], 0⟩, ⟨B6, 136, (r_4.flatMap enc_Term), c7 * 2⟩] [⟨B, (c.Gates.flatMap enc_Gate)⟩] := hS88
                        refine ⟨(ST.sel hS88 [0, 2] rfl rfl), ?_⟩
                        refine ra_q 25 72 (v := pt (some ⟨b2, 0, none⟩) 0) rfl rfl rfl (by kernel_rfl) (by kernel_rfl) (by kernel_rfl) (ST.sel hS88 [0, 2] rfl rfl) (fun w' hw' => (Y_nilCheck (B := some ⟨b2, 0, none⟩) (i := 0) rfl rfl)) ?_
                        refine ra_q 26 73 (v := pt (some ⟨b2, 0, none⟩) 0) rfl rfl rfl (by kernel_rfl) (by kernel_rfl) (by kernel_rfl) (ST.sel hS88 [0, 2] rfl rfl) (fun w' hw' => (Y_fieldAddr (B := some ⟨b2, 0, none⟩) (i := 0) (s := 5) k_fd_107_0_0_57 k_sz_57_6 rfl rfl)) ?_
                        refine ra_q 27 74 (v := pt (some ⟨b2, 0, none⟩) 5) rfl rfl rfl (by kernel_rfl) (by kernel_rfl) (by kernel_rfl) (ST.sel hS88 [0, 2] rfl rfl) (fun w' hw' => (Y_fieldAddr (B := some ⟨b2, 0, none⟩) (i := 0) (s := 0) k_fd_57_5_5_55 k_sz_55_1 rfl rfl)) ?_
                        refine ra_all (rs := [28]) (by kernel_rfl) rfl ?_
                        refine ra_s0 (i := 28) rfl rfl rfl (Ys_store (i := 1) (s := 1) (B := some ⟨b2, 0, none⟩) (T' := 107) (v := .slice B3 values.length c4) (vs := [.slice B3 values.length c4]) (k := 5) (cs' := [.int .i64 Ins, .int .i64 Vars, .int .i64 Root, .int .i64 (mgt poly 0 0), .slice B6 r_4.length c7, .slice B3 values.length c4, .map (some g), .slice B3 values.length c4]) hS88 k_sz_55_1 rfl rfl rfl rfl rfl rfl rfl (Nat.le_of_ble_eq_true rfl) rfl rfl) ?_ ?_
                        · rintro _ w_74 ⟨rfl, hS89⟩
                          have hS89 : ST w0 [] _ [⟨some ⟨b1, 0, none⟩, 57, [.int .i64 0, .int .i64 0, .int .i64 0, .int .i64 0, .slice none 0 0, .slice none 0 0], 6⟩, ⟨some ⟨b2, 0, none⟩, 107, [.int .i64 Ins, .int .i64 Vars, .int .i64 Root, .int .i64 (mgt poly 0 0), .slice B6 r_4.length c7, .slice B3 values.length c4, .map (some g), .slice B3 values.length c4], 8⟩, ⟨B3, 61, (values1.flatMap enc_Affine), c4 * 2⟩, ⟨(some ⟨g, 0, none⟩), .mp (mpE (Value.int .i64) (Value.int .i64) poly), [], 0⟩, ⟨B6, 136, (r_4.flatMap enc_Term), c7 * 2⟩] [⟨B, (c.Gates.flatMap enc_Gate)⟩] := hS89
                          refine ⟨(ST.sel hS89 [0, 2] rfl rfl), ?_⟩
                          refine ra_done (by kernel_rfl) ?_
                          exact ⟨B6, c7, (FF.cons (hf2.get 2 0 rfl) (FF.cons (hf2.get 4 1 rfl) FF.nil)), (hS89.sel [0, 1, 4, 2, 3] rfl rfl)⟩
                        exact allR_nil
                      exact allR_nil
                    exact allR_nil
                  exact allR_nil
                refine ra_y 65 (i := 16) (v := .slice B3 values.length c4) rfl rfl rfl (Y_load1 (B := some ⟨b2, 0, none⟩) (i := 7) (cs := [.int .i64 Ins, .int .i64 Vars, .int .i64 Root, .int .i64 Phase, .slice none 0 0, .slice none 0 0, .map (some g), .slice B3 values.length c4]) (v := .slice B3 values.length c4) k_sc_55 rfl rfl (hS86.cf (i := 1) rfl) rfl) (ST.sel hS86 [0, 2] rfl rfl) ?_ ?_
                · skip
                  refine ra_all (rs := [7]) (by kernel_rfl) rfl ?_
                  refine ra_y 56 (i := 7) (v := .int .i64 (mgt poly 0 0)) rfl rfl rfl (Y_mapGet (kE := (Value.int .i64)) (vE := (Value.int .i64)) (l := poly) (a := 0) (d := 0) (g := g) (i := 3) hS86 (keyInt k_int_3_i64) k_map_105_3_3 k_zero_3 rfl rfl rfl rfl) (ST.sel hS86 [0, 2] rfl rfl) ?_ ?_
                  · skip
                    refine ra_q 17 66 (v := pt (some ⟨b2, 0, none⟩) 0) rfl rfl rfl (by kernel_rfl) (by kernel_rfl) (by kernel_rfl) (ST.sel hS86 [0, 2] rfl rfl) (fun w' hw' => (Y_nilCheck (B := some ⟨b2, 0, none⟩) (i := 0) rfl rfl)) ?_
                    refine ra_q 18 67 (v := pt (some ⟨b2, 0, none⟩) 0) rfl rfl rfl (by kernel_rfl) (by kernel_rfl) (by kernel_rfl) (ST.sel hS86 [0, 2] rfl rfl) (fun w' hw' => (Y_fieldAddr (B := some ⟨b2, 0, none⟩) (i := 0) (s := 5) k_fd_107_0_0_57 k_sz_57_6 rfl rfl)) ?_
                    refine ra_q 19 68 (v := pt (some ⟨b2, 0, none⟩) 3) rfl rfl rfl (by kernel_rfl) (by kernel_rfl) (by kernel_rfl) (ST.sel hS86 [0, 2] rfl rfl) (fun w' hw' => (Y_fieldAddr (B := some ⟨b2, 0, none⟩) (i := 0) (s := 0) k_fd_57_3_3_3 k_sz_3_1 rfl rfl)) ?_
                    refine ra_all (rs := [20]) (by kernel_rfl) rfl ?_
                    refine ra_s0 (i := 20) rfl rfl rfl (Ys_store (i := 1) (s := 1) (B := some ⟨b2, 0, none⟩) (T' := 107) (v := .int .i64 (mgt poly 0 0)) (vs := [.int .i64 (mgt poly 0 0)]) (k := 3) (cs' := [.int .i64 Ins, .int .i64 Vars, .int .i64 Root, .int .i64 (mgt poly 0 0), .slice none 0 0, .slice none 0 0, .map (some g), .slice B3 values.length c4]) hS86 k_sz_3_1 rfl rfl rfl rfl rfl rfl rfl (Nat.le_of_ble_eq_true rfl) rfl rfl) ?_ ?_
                    · rintro _ w_75 ⟨rfl, hS90⟩
                      have hS90 : ST w0 [] _ [⟨some ⟨b1, 0, none⟩, 57, [.int .i64 0, .int .i64 0, .int .i64 0, .int .i64 0, .slice none 0 0, .slice none 0 0], 6⟩, ⟨some ⟨b2, 0, none⟩, 107, [.int .i64 Ins, .int .i64 Vars, .int .i64 Root, .int .i64 (mgt poly 0 0), .slice none 0 0, .slice none 0 0, .map (some g), .slice B3 values.length c4], 8⟩, ⟨B3, 61, (values1.flatMap enc_Affine), c4 * 2⟩, ⟨(some ⟨g, 0, none⟩), .mp (mpE (Value.int .i64) (Value.int .i64) poly), [], 0⟩, ⟨B6, 136, (r_4.flatMap enc_Term), c7 * 2⟩] [⟨B, (c.Gates.flatMap enc_Gate)⟩] := hS90
                      refine ⟨(ST.sel hS90 [0, 2] rfl rfl), ?_⟩
                      refine ra_q 21 69 (v := pt (some ⟨b2, 0, none⟩) 0) rfl rfl rfl (by kernel_rfl) (by kernel_rfl) (by kernel_rfl) (ST.sel hS90 [0, 2] rfl rfl) (fun w' hw' => (Y_nilCheck (B := some ⟨b2, 0, none⟩) (i := 0) rfl rfl)) ?_
                      refine ra_q 22 70 (v := pt (some ⟨b2, 0, none⟩) 0) rfl rfl rfl (by kernel_rfl) (by kernel_rfl) (by kernel_rfl) (ST.sel hS90 [0, 2] rfl rfl) (fun w' hw' => (Y_fieldAddr (B := some ⟨b2, 0, none⟩) (i := 0) (s := 5) k_fd_107_0_0_57 k_sz_57_6 rfl rfl)) ?_
                      refine ra_q 23 71 (v := pt (some ⟨b2, 0, none⟩) 4) rfl rfl rfl (by kernel_rfl) (by kernel_rfl) (by kernel_rfl) (ST.sel hS90 [0, 2] rfl rfl) (fun w' hw' => (Y_fieldAddr (B := some ⟨b2, 0, none⟩) (i := 0) (s := 0) k_fd_57_4_4_54 k_sz_54_1 rfl rfl)) ?_
                      refine ra_all (rs := [24]) (by kernel_rfl) rfl ?_
                      refine ra_s0 (i := 24) rfl rfl rfl (Ys_store (i := 1) (s := 1) (B := some ⟨b2, 0, none⟩) (T' := 107) (v := .slice B6 r_4.length c7) (vs := [.slice B6 r_4.length c7]) (k := 4) (cs' := [.int .i64 Ins, .int .i64 Vars, .int .i64 Root, .int .i64 (mgt poly 0 0), .slice B6 r_4.length c7, .slice none 0 0, .map (some g), .slice B3 values.length c4]) hS90 k_sz_54_1 rfl rfl rfl rfl rfl rfl rfl (Nat.le_of_ble_eq_true rfl) rfl rfl) ?_ ?_
                      · rintro _ w_76 ⟨rfl, hS91⟩
                        have hS91 : ST w0 [] _ [⟨some ⟨b1, 0, none⟩, 57, [.int .i64 0, .int .i64 0, .int .i64 0, .int .i64 0, .slice none 0 0, .slice none 0 0], 6⟩, ⟨some ⟨b2, 0, none⟩, 107, [.int .i64 Ins, .int .i64 Vars, .int .i64 Root, .int .i64 (mgt poly 0 0), .slice B6 r_4.length c7, .slice none 0 0, .map (some g), .slice B3 values.length c4], 8⟩, ⟨B3, 61, (values1.flatMap enc_Affine), c4 * 2⟩, ⟨(some ⟨g, 0, none⟩), .mp (mpE (Value.int .i64) (Value.int .i64) poly), [], 0⟩, ⟨B6, 136, (r_4.flatMap enc_Term), c7 * 2⟩] [⟨B, (c.Gates.flatMap enc_Gate)⟩] := hS91
                        refine ⟨(ST.sel hS91 [0, 2] rfl rfl), ?_⟩
                        refine ra_q 25 72 (v := pt (some ⟨b2, 0, none⟩) 0) rfl rfl rfl (by kernel_rfl) (by kernel_rfl) (by kernel_rfl) (ST.sel hS91 [0, 2] rfl rfl) (fun w' hw' => (Y_nilCheck (B := some ⟨b2, 0, none⟩) (i := 0) rfl rfl)) ?_
                        refine ra_q 26 73 (v := pt (some ⟨b2, 0, none⟩) 0) rfl rfl rfl (by kernel_rfl) (by kernel_rfl) (by kernel_rfl) (ST.sel hS91 [0, 2] rfl rfl) (fun w' hw' => (Y_fieldAddr (B := some ⟨b2, 0, none⟩) (i := 0) (s := 5) k_fd_107_0_0_57 k_sz_57_6 rfl rfl)) ?_
                        refine ra_q 27 74 (v := pt (some ⟨b2, 0, none⟩) 5) rfl rfl rfl (by kernel_rfl) (by kernel_rfl) (by kernel_rfl) (ST.sel hS91 [0, 2] rfl rfl) (fun w' hw' => (Y_fieldAddr (B := some ⟨b2, 0, none⟩) (i := 0) (s := 0) k_fd_57_5_5_55 k_sz_55_1 rfl rfl)) ?_
                        refine ra_all (rs := [28]) (by kernel_rfl) rfl ?_
                        refine ra_s0 (i := 28) rfl rfl rfl (Ys_store (i := 1) (s := 1) (B := some ⟨b2, 0, none⟩) (T' := 107) (v := .slice B3 values.length c4) (vs := [.slice B3 values.length c4]) (k := 5) (cs' := [.int .i64 Ins, .int .i64 Vars, .int .i64 Root, .int .i64 (mgt poly 0 0), .slice B6 r_4.length c7, .slice B3 values.length c4, .map (some g), .slice B3 values.length c4]) hS91 k_sz_55_1 rfl rfl rfl rfl rfl rfl rfl (Nat.le_of_ble_eq_true rfl) rfl rfl) ?_ ?_
                        · rintro _ w_77 ⟨rfl, hS92⟩
                          have hS92 : ST w0 [] _ [⟨some ⟨b1, 0, none⟩, 57, [.int .i64 0, .int .i64 0, .int .i64 0, .int .i64 0, .slice none 0 0, .slice none 0 0], 6⟩, ⟨some ⟨b2, 0, none⟩, 107, [.int .i64 Ins, .int .i64 Vars, .int .i64 Root, .int .i64 (mgt poly 0 0), .slice B6 r_4.length c7, .slice B3 values.length c4, .map (some g), .slice B3 values.length c4], 8⟩, ⟨B3, 61, (values1.flatMap enc_Affine), c4 * 2⟩, ⟨(some ⟨g, 0, none⟩), .mp (mpE (Value.int .i64) (Value.int .i64) poly), [], 0⟩, ⟨B6, 136, (r_4.flatMap enc_Term), c7 * 2⟩] [⟨B, (c.Gates.flatMap enc_Gate)⟩] := hS92
                          refine ⟨(ST.sel hS92 [0, 2] rfl rfl), ?_⟩
                          refine ra_done (by kernel_rfl) ?_
                          exact ⟨B6, c7, (FF.cons (hf2.get 2 0 rfl) (FF.cons (hf2.get 4 1 rfl) FF.nil)), (hS92.sel [0, 1, 4, 2, 3] rfl rfl)⟩
                        exact allR_nil
                      exact allR_nil
                    exact allR_nil
                  exact allR_nil
                exact allR_nil
              refine ra_y 65 (i := 16) (v := .slice B3 values.length c4) rfl rfl rfl (Y_load1 (B := some ⟨b2, 0, none⟩) (i := 7) (cs := [.int .i64 Ins, .int .i64 Vars, .int .i64 Root, .int .i64 Phase, .slice none 0 0, .slice none 0 0, .map (some g), .slice B3 values.length c4]) (v := .slice B3 values.length c4) k_sc_55 rfl rfl (hS30.cf (i := 1) rfl) rfl) (ST.sel hS30 [0, 3] rfl rfl) ?_ ?_
              · skip
                refine ra_all (rs := [7, 12]) (by kernel_rfl) rfl ?_
                refine ra_y 56 (i := 7) (v := .int .i64 (mgt poly 0 0)) rfl rfl rfl (Y_mapGet (kE := (Value.int .i64)) (vE := (Value.int .i64)) (l := poly) (a := 0) (d := 0) (g := g) (i := 2) hS30 (keyInt k_int_3_i64) k_map_105_3_3 k_zero_3 rfl rfl rfl rfl) (ST.sel hS30 [0, 3] rfl rfl) ?_ ?_
                · skip
                  refine ra_all (rs := [12]) (by kernel_rfl) rfl ?_
                  refine ra_c 61 (i := 12) rfl rfl rfl (Yc_func (g := 68) (vs := [.map (some g)]) k_call_68 rfl (mc rfl mn) (c_impl_polynomial_terms poly g _  (hS30.inn [false, false, true, false] rfl [] rfl) hc2)) ?_ ?_
                  · rintro _ w_78 ⟨B6, c7, rfl, hd16⟩
                    have hS93 := hS30.out [false, false, true, false] rfl hd16
                    have hS93 : ST w0 [] _ [⟨some ⟨b1, 0, none⟩, 57, [.int .i64 0, .int .i64 0, .int .i64 0, .int .i64 0, .slice none 0 0, .slice none 0 0], 6⟩, ⟨some ⟨b2, 0, none⟩, 107, [.int .i64 Ins, .int .i64 Vars, .int .i64 Root, .int .i64 Phase, .slice none 0 0, .slice none 0 0, .map (some g), .slice B3 values.length c4], 8⟩, ⟨B3, 61, (values1.flatMap enc_Affine), c4 * 2⟩, ⟨(some ⟨g, 0, none⟩), .mp (mpE (Value.int .i64) (Value.int .i64) poly), [], 0⟩, ⟨B6, 136, (r_4.flatMap enc_Term), c7 * 2⟩] [⟨B, (c.Gates.flatMap enc_Gate)⟩] := hS93
                    refine ⟨(ST.sel hS93 [0, 2] rfl rfl), ?_⟩
                    refine ra_q 17 66 (v := pt (some ⟨b2, 0, none⟩) 0) rfl rfl rfl (by kernel_rfl) (by kernel_rfl) (by kernel_rfl) (ST.sel hS93 [0, 2] rfl rfl) (fun w' hw' => (Y_nilCheck (B := some ⟨b2, 0, none⟩) (i := 0) rfl rfl)) ?_
                    refine ra_q 18 67 (v := pt (some ⟨b2, 0, none⟩) 0) rfl rfl rfl (by kernel_rfl) (by kernel_rfl) (by kernel_rfl) (ST.sel hS93 [0, 2] rfl rfl) (fun w' hw' => (Y_fieldAddr (B := some ⟨b2, 0, none⟩) (i := 0) (s := 5) k_fd_107_0_0_57 k_sz_57_6 rfl rfl)) ?_
                    refine ra_q 19 68 (v := pt (some ⟨b2, 0, none⟩) 3) rfl rfl rfl (by kernel_rfl) (by kernel_rfl) (by kernel_rfl) (ST.sel hS93 [0, 2] rfl rfl) (fun w' hw' => (Y_fieldAddr (B := some ⟨b2, 0, none⟩) (i := 0) (s := 0) k_fd_57_3_3_3 k_sz_3_1 rfl rfl)) ?_
                    refine ra_all (rs := [20]) (by kernel_rfl) rfl ?_
                    refine ra_s0 (i := 20) rfl rfl rfl (Ys_store (i := 1) (s := 1) (B := some ⟨b2, 0, none⟩) (T' := 107) (v := .int .i64 (mgt poly 0 0)) (vs := [.int .i64 (mgt poly 0 0)]) (k := 3) (cs' := [.int .i64 Ins, .int .i64 Vars, .int .i64 Root, .int .i64 (mgt poly 0 0), .slice none 0 0, .slice none 0 0, .map (some g), .slice B3 values.length c4]) hS93 k_sz_3_1 rfl rfl rfl rfl rfl rfl rfl (Nat.le_of_ble_eq_true rfl) rfl rfl) ?_ ?_
                    · rintro _ w_79 ⟨rfl, hS94⟩
                      have hS94 : ST w0 [] _ [⟨some ⟨b1, 0, none⟩, 57, [.int .i64 0, .int .i64 0, .int .i64 0, .int .i64 0, .slice none 0 0, .slice none 0 0], 6⟩, ⟨some ⟨b2, 0, none⟩, 107, [.int .i64 Ins, .int .i64 Vars, .int .i64 Root, .int .i64 (mgt poly 0 0), .slice none 0 0, .slice none 0 0, .map (some g), .slice B3 values.length c4], 8⟩, ⟨B3, 61, (values1.flatMap enc_Affine), c4 * 2⟩, ⟨(some ⟨g, 0, none⟩), .mp (mpE (Value.int .i64) (Value.int .i64) poly), [], 0⟩, ⟨B6, 136, (r_4.flatMap enc_Term), c7 * 2⟩] [⟨B, (c.Gates.flatMap enc_Gate)⟩] := hS94
                      refine ⟨(ST.sel hS94 [0, 2] rfl rfl), ?_⟩
                      refine ra_q 21 69 (v := pt (some ⟨b2, 0, none⟩) 0) rfl rfl rfl (by kernel_rfl) (by kernel_rfl) (by kernel_rfl) (ST.sel hS94 [0, 2] rfl rfl) (fun w' hw' => (Y_nilCheck (B := some ⟨b2, 0, none⟩) (i := 0) rfl rfl)) ?_
                      refine ra_q 22 70 (v := pt (some ⟨b2, 0, none⟩) 0) rfl rfl rfl (by kernel_rfl) (by kernel_rfl) (by kernel_rfl) (ST.sel hS94 [0, 2] rfl rfl) (fun w' hw' => (Y_fieldAddr (B := some ⟨b2, 0, none⟩) (i := 0) (s := 5) k_fd_107_0_0_57 k_sz_57_6 rfl rfl)) ?_
                      refine ra_q 23 71 (v := pt (some ⟨b2, 0, none⟩) 4) rfl rfl rfl (by kernel_rfl) (by kernel_rfl) (by kernel_rfl) (ST.sel hS94 [0, 2] rfl rfl) (fun w' hw' => (Y_fieldAddr (B := some ⟨b2, 0, none⟩) (i := 0) (s := 0) k_fd_57_4_4_54 k_sz_54_1 rfl rfl)) ?_
                      refine ra_all (rs := [24]) (by kernel_rfl) rfl ?_
                      refine ra_s0 (i := 24) rfl rfl rfl (Ys_store (i := 1) (s := 1) (B := some ⟨b2, 0, none⟩) (T' := 107) (v := .slice B6 r_4.length c7) (vs := [.slice B6 r_4.length c7]) (k := 4) (cs' := [.int .i64 Ins, .int .i64 Vars, .int .i64 Root, .int .i64 (mgt poly 0 0), .slice B6 r_4.length c7, .slice none 0 0, .map (some g), .slice B3 values.length c4]) hS94 k_sz_54_1 rfl rfl rfl rfl rfl rfl rfl (Nat.le_of_ble_eq_true rfl) rfl rfl) ?_ ?_
                      · rintro _ w_80 ⟨rfl, hS95⟩
                        have hS95 : ST w0 [] _ [⟨some ⟨b1, 0, none⟩, 57, [.int .i64 0, .int .i64 0, .int .i64 0, .int .i64 0, .slice none 0 0, .slice none 0 0], 6⟩, ⟨some ⟨b2, 0, none⟩, 107, [.int .i64 Ins, .int .i64 Vars, .int .i64 Root, .int .i64 (mgt poly 0 0), .slice B6 r_4.length c7, .slice none 0 0, .map (some g), .slice B3 values.length c4], 8⟩, ⟨B3, 61, (values1.flatMap enc_Affine), c4 * 2⟩, ⟨(some ⟨g, 0, none⟩), .mp (mpE (Value.int .i64) (Value.int .i64) poly), [], 0⟩, ⟨B6, 136, (r_4.flatMap enc_Term), c7 * 2⟩] [⟨B, (c.Gates.flatMap enc_Gate)⟩] := hS95
                        refine ⟨(ST.sel hS95 [0, 2] rfl rfl), ?_⟩
                        refine ra_q 25 72 (v := pt (some ⟨b2, 0, none⟩) 0) rfl rfl rfl (by kernel_rfl) (by kernel_rfl) (by kernel_rfl) (ST.sel hS95 [0, 2] rfl rfl) (fun w' hw' => (Y_nilCheck (B := some ⟨b2, 0, none⟩) (i := 0) rfl rfl)) ?_
                        refine ra_q 26 73 (v := pt (some ⟨b2, 0, none⟩) 0) rfl rfl rfl (by kernel_rfl) (by kernel_rfl) (by kernel_rfl) (ST.sel hS95 [0, 2] rfl rfl) (fun w' hw' => (Y_fieldAddr (B := some ⟨b2, 0, none⟩) (i := 0) (s := 5) k_fd_107_0_0_57 k_sz_57_6 rfl rfl)) ?_
                        refine ra_q 27 74 (v := pt (some ⟨b2, 0, none⟩) 5) rfl rfl rfl (by kernel_rfl) (by kernel_rfl) (by kernel_rfl) (ST.sel hS95 [0, 2] rfl rfl) (fun w' hw' => (Y_fieldAddr (B := some ⟨b2, 0, none⟩) (i := 0) (s := 0) k_fd_57_5_5_55 k_sz_55_1 rfl rfl)) ?_
                        refine ra_all (rs := [28]) (by kernel_rfl) rfl ?_
                        refine ra_s0 (i := 28) rfl rfl rfl (Ys_store (i := 1) (s := 1) (B := some ⟨b2, 0, none⟩) (T' := 107) (v := .slice B3 values.length c4) (vs := [.slice B3 values.length c4]) (k := 5) (cs' := [.int .i64 Ins, .int .i64 Vars, .int .i64 Root, .int .i64 (mgt poly 0 0), .slice B6 r_4.length c7, .slice B3 values.length c4, .map (some g), .slice B3 values.length c4]) hS95 k_sz_55_1 rfl rfl rfl rfl rfl rfl rfl (Nat.le_of_ble_eq_true rfl) rfl rfl) ?_ ?_
                        · rintro _ w_81 ⟨rfl, hS96⟩
                          have hS96 : ST w0 [] _ [⟨some ⟨b1, 0, none⟩, 57, [.int .i64 0, .int .i64 0, .int .i64 0, .int .i64 0, .slice none 0 0, .slice none 0 0], 6⟩, ⟨some ⟨b2, 0, none⟩, 107, [.int .i64 Ins, .int .i64 Vars, .int .i64 Root, .int .i64 (mgt poly 0 0), .slice B6 r_4.length c7, .slice B3 values.length c4, .map (some g), .slice B3 values.length c4], 8⟩, ⟨B3, 61, (values1.flatMap enc_Affine), c4 * 2⟩, ⟨(some ⟨g, 0, none⟩), .mp (mpE (Value.int .i64) (Value.int .i64) poly), [], 0⟩, ⟨B6, 136, (r_4.flatMap enc_Term), c7 * 2⟩] [⟨B, (c.Gates.flatMap enc_Gate)⟩] := hS96
                          refine ⟨(ST.sel hS96 [0, 2] rfl rfl), ?_⟩
                          refine ra_done (by kernel_rfl) ?_
                          exact ⟨B6, c7, (FF.cons (hf2.get 2 0 rfl) (FF.cons (hf2.get 4 1 rfl) FF.nil)), (hS96.sel [0, 1, 4, 2, 3] rfl rfl)⟩
                        exact allR_nil
                      exact allR_nil
                    exact allR_nil
                  exact allR_nil
                refine ra_c 61 (i := 12) rfl rfl rfl (Yc_func (g := 68) (vs := [.map (some g)]) k_call_68 rfl (mc rfl mn) (c_impl_polynomial_terms poly g _  (hS30.inn [false, false, true, false] rfl [] rfl) hc2)) ?_ ?_
                · rintro _ w_82 ⟨B6, c7, rfl, hd17⟩
                  have hS97 := hS30.out [false, false, true, false] rfl hd17
                  have hS97 : ST w0 [] _ [⟨some ⟨b1, 0, none⟩, 57, [.int .i64 0, .int .i64 0, .int .i64 0, .int .i64 0, .slice none 0 0, .slice none 0 0], 6⟩, ⟨some ⟨b2, 0, none⟩, 107, [.int .i64 Ins, .int .i64 Vars, .int .i64 Root, .int .i64 Phase, .slice none 0 0, .slice none 0 0, .map (some g), .slice B3 values.length c4], 8⟩, ⟨B3, 61, (values1.flatMap enc_Affine), c4 * 2⟩, ⟨(some ⟨g, 0, none⟩), .mp (mpE (Value.int .i64) (Value.int .i64) poly), [], 0⟩, ⟨B6, 136, (r_4.flatMap enc_Term), c7 * 2⟩] [⟨B, (c.Gates.flatMap enc_Gate)⟩] := hS97
                  refine ⟨(ST.sel hS97 [0, 2] rfl rfl), ?_⟩
                  refine ra_all (rs := [7]) (by kernel_rfl) rfl ?_
                  refine ra_y 56 (i := 7) (v := .int .i64 (mgt poly 0 0)) rfl rfl rfl (Y_mapGet (kE := (Value.int .i64)) (vE := (Value.int .i64)) (l := poly) (a := 0) (d := 0) (g := g) (i := 3) hS97 (keyInt k_int_3_i64) k_map_105_3_3 k_zero_3 rfl rfl rfl rfl) (ST.sel hS97 [0, 2] rfl rfl) ?_ ?_
                  · skip
                    refine ra_q 17 66 (v := pt (some ⟨b2, 0, none⟩) 0) rfl rfl rfl (by kernel_rfl) (by kernel_rfl) (by kernel_rfl) (ST.sel hS97 [0, 2] rfl rfl) (fun w' hw' => (Y_nilCheck (B := some ⟨b2, 0, none⟩) (i := 0) rfl rfl)) ?_
                    refine ra_q 18 67 (v := pt (some ⟨b2, 0, none⟩) 0) rfl rfl rfl (by kernel_rfl) (by kernel_rfl) (by kernel_rfl) (ST.sel hS97 [0, 2] rfl rfl) (fun w' hw' => (Y_fieldAddr (B := some ⟨b2, 0, none⟩) (i := 0) (s := 5) k_fd_107_0_0_57 k_sz_57_6 rfl rfl)) ?_
                    refine ra_q 19 68 (v := pt (some ⟨b2, 0, none⟩) 3) rfl rfl rfl (by kernel_rfl) (by kernel_rfl) (by kernel_rfl) (ST.sel hS97 [0, 2] rfl rfl) (fun w' hw' => (Y_fieldAddr (B := some ⟨b2, 0, none⟩) (i := 0) (s := 0) k_fd_57_3_3_3 k_sz_3_1 rfl rfl)) ?_
                    refine ra_all (rs := [20]) (by kernel_rfl) rfl ?_
                    refine ra_s0 (i := 20) rfl rfl rfl (Ys_store (i := 1) (s := 1) (B := some ⟨b2, 0, none⟩) (T' := 107) (v := .int .i64 (mgt poly 0 0)) (vs := [.int .i64 (mgt poly 0 0)]) (k := 3) (cs' := [.int .i64 Ins, .int .i64 Vars, .int .i64 Root, .int .i64 (mgt poly 0 0), .slice none 0 0, .slice none 0 0, .map (some g), .slice B3 values.length c4]) hS97 k_sz_3_1 rfl rfl rfl rfl rfl rfl rfl (Nat.le_of_ble_eq_true rfl) rfl rfl) ?_ ?_
                    · rintro _ w_83 ⟨rfl, hS98⟩
                      have hS98 : ST w0 [] _ [⟨some ⟨b1, 0, none⟩, 57, [.int .i64 0, .int .i64 0, .int .i64 0, .int .i64 0, .slice none 0 0, .slice none 0 0], 6⟩, ⟨some ⟨b2, 0, none⟩, 107, [.int .i64 Ins, .int .i64 Vars, .int .i64 Root, .int .i64 (mgt poly 0 0), .slice none 0 0, .slice none 0 0, .map (some g), .slice B3 values.length c4], 8⟩, ⟨B3, 61, (values1.flatMap enc_Affine), c4 * 2⟩, ⟨(some ⟨g, 0, none⟩), .mp (mpE (Value.int .i64) (Value.int .i64) poly), [], 0⟩, ⟨B6, 136, (r_4.flatMap enc_Term), c7 * 2⟩] [⟨B, (c.Gates.flatMap enc_Gate)⟩] := hS98
                      refine ⟨(ST.sel hS98 [0, 2] rfl rfl), ?_⟩
                      refine ra_q 21 69 (v := pt (some ⟨b2, 0, none⟩) 0) rfl rfl rfl (by kernel_rfl) (by kernel_rfl) (by kernel_rfl) (ST.sel hS98 [0, 2] rfl rfl) (fun w' hw' => (Y_nilCheck (B := some ⟨b2, 0, none⟩) (i := 0) rfl rfl)) ?_
                      refine ra_q 22 70 (v := pt (some ⟨b2, 0, none⟩) 0) rfl rfl rfl (by kernel_rfl) (by kernel_rfl) (by kernel_rfl) (ST.sel hS98 [0, 2] rfl rfl) (fun w' hw' => (Y_fieldAddr (B := some ⟨b2, 0, none⟩) (i := 0) (s := 5) k_fd_107_0_0_57 k_sz_57_6 rfl rfl)) ?_
                      refine ra_q 23 71 (v := pt (some ⟨b2, 0, none⟩) 4) rfl rfl rfl (by kernel_rfl) (by kernel_rfl) (by kernel_rfl) (ST.sel hS98 [0, 2] rfl rfl) (fun w' hw' => (Y_fieldAddr (B := some ⟨b2, 0, none⟩) (i := 0) (s := 0) k_fd_57_4_4_54 k_sz_54_1 rfl rfl)) ?_
                      refine ra_all (rs := [24]) (by kernel_rfl) rfl ?_
                      refine ra_s0 (i := 24) rfl rfl rfl (Ys_store (i := 1) (s := 1) (B := some ⟨b2, 0, none⟩) (T' := 107) (v := .slice B6 r_4.length c7) (vs := [.slice B6 r_4.length c7]) (k := 4) (cs' := [.int .i64 Ins, .int .i64 Vars, .int .i64 Root, .int .i64 (mgt poly 0 0), .slice B6 r_4.length c7, .slice none 0 0, .map (some g), .slice B3 values.length c4]) hS98 k_sz_54_1 rfl rfl rfl rfl rfl rfl rfl (Nat.le_of_ble_eq_true rfl) rfl rfl) ?_ ?_
                      · rintro _ w_84 ⟨rfl, hS99⟩
                        have hS99 : ST w0 [] _ [⟨some ⟨b1, 0, none⟩, 57, [.int .i64 0, .int .i64 0, .int .i64 0, .int .i64 0, .slice none 0 0, .slice none 0 0], 6⟩, ⟨some ⟨b2, 0, none⟩, 107, [.int .i64 Ins, .int .i64 Vars, .int .i64 Root, .int .i64 (mgt poly 0 0), .slice B6 r_4.length c7, .slice none 0 0, .map (some g), .slice B3 values.length c4], 8⟩, ⟨B3, 61, (values1.flatMap enc_Affine), c4 * 2⟩, ⟨(some ⟨g, 0, none⟩), .mp (mpE (Value.int .i64) (Value.int .i64) poly), [], 0⟩, ⟨B6, 136, (r_4.flatMap enc_Term), c7 * 2⟩] [⟨B, (c.Gates.flatMap enc_Gate)⟩] := hS99
                        refine ⟨(ST.sel hS99 [0, 2] rfl rfl), ?_⟩
                        refine ra_q 25 72 (v := pt (some ⟨b2, 0, none⟩) 0) rfl rfl rfl (by kernel_rfl) (by kernel_rfl) (by kernel_rfl) (ST.sel hS99 [0, 2] rfl rfl) (fun w' hw' => (Y_nilCheck (B := some ⟨b2, 0, none⟩) (i := 0) rfl rfl)) ?_
                        refine ra_q 26 73 (v := pt (some ⟨b2, 0, none⟩) 0) rfl rfl rfl (by kernel_rfl) (by kernel_rfl) (by kernel_rfl) (ST.sel hS99 [0, 2] rfl rfl) (fun w' hw' => (Y_fieldAddr (B := some ⟨b2, 0, none⟩) (i := 0) (s := 5) k_fd_107_0_0_57 k_sz_57_6 rfl rfl)) ?_
                        refine ra_q 27 74 (v := pt (some ⟨b2, 0, none⟩) 5) rfl rfl rfl (by kernel_rfl) (by kernel_rfl) (by kernel_rfl) (ST.sel hS99 [0, 2] rfl rfl) (fun w' hw' => (Y_fieldAddr (B := some ⟨b2, 0, none⟩) (i := 0) (s := 0) k_fd_57_5_5_55 k_sz_55_1 rfl rfl)) ?_
                        refine ra_all (rs := [28]) (by kernel_rfl) rfl ?_
                        refine ra_s0 (i := 28) rfl rfl rfl (Ys_store (i := 1) (s := 1) (B := some ⟨b2, 0, none⟩) (T' := 107) (v := .slice B3 values.length c4) (vs := [.slice B3 values.length c4]) (k := 5) (cs' := [.int .i64 Ins, .int .i64 Vars, .int .i64 Root, .int .i64 (mgt poly 0 0), .slice B6 r_4.length c7, .slice B3 values.length c4, .map (some g), .slice B3 values.length c4]) hS99 k_sz_55_1 rfl rfl rfl rfl rfl rfl rfl (Nat.le_of_ble_eq_true rfl) rfl rfl) ?_ ?_
                        · rintro _ w_85 ⟨rfl, hS100⟩
                          have hS100 : ST w0 [] _ [⟨some ⟨b1, 0, none⟩, 57, [.int .i64 0, .int .i64 0, .int .i64 0, .int .i64 0, .slice none 0 0, .slice none 0 0], 6⟩, ⟨some ⟨b2, 0, none⟩, 107, [.int .i64 Ins, .int .i64 Vars, .int .i64 Root, .int .i64 (mgt poly 0 0), .slice B6 r_4.length c7, .slice B3 values.length c4, .map (some g), .slice B3 values.length c4], 8⟩, ⟨B3, 61, (values1.flatMap enc_Affine), c4 * 2⟩, ⟨(some ⟨g, 0, none⟩), .mp (mpE (Value.int .i64) (Value.int .i64) poly), [], 0⟩, ⟨B6, 136, (r_4.flatMap enc_Term), c7 * 2⟩] [⟨B, (c.Gates.flatMap enc_Gate)⟩] := hS100
                          refine ⟨(ST.sel hS100 [0, 2] rfl rfl), ?_⟩
                          refine ra_done (by kernel_rfl) ?_
                          exact ⟨B6, c7, (FF.cons (hf2.get 2 0 rfl) (FF.cons (hf2.get 4 1 rfl) FF.nil)), (hS100.sel [0, 1, 4, 2, 3] rfl rfl)⟩
                        exact allR_nil
                      exact allR_nil
                    exact allR_nil
                  exact allR_nil
                exact allR_nil
              exact allR_nil
            refine ra_c 61 (i := 12) rfl rfl rfl (Yc_func (g := 68) (vs := [.map (some g)]) k_call_68 rfl (mc rfl mn) (c_impl_polynomial_terms poly g _  (hS30.inn [false, false, true, false] rfl [] rfl) hc2)) ?_ ?_
            · rintro _ w_86 ⟨B6, c7, rfl, hd18⟩
              have hS101 := hS30.out [false, false, true, false] rfl hd18
              have hS101 : ST w0 [] _ [⟨some ⟨b1, 0, none⟩, 57, [.int .i64 0, .int .i64 0, .int .i64 0, .int .i64 0, .slice none 0 0, .slice none 0 0], 6⟩, ⟨some ⟨b2, 0, none⟩, 107, [.int .i64 Ins, .int .i64 Vars, .int .i64 Root, .int .i64 Phase, .slice none 0 0, .slice none 0 0, .map (some g), .slice B3 values.length c4], 8⟩, ⟨B3, 61, (values1.flatMap enc_Affine), c4 * 2⟩, ⟨(some ⟨g, 0, none⟩), .mp (mpE (Value.int .i64) (Value.int .i64) poly), [], 0⟩, ⟨B6, 136, (r_4.flatMap enc_Term), c7 * 2⟩] [⟨B, (c.Gates.flatMap enc_Gate)⟩] := hS101
              refine ⟨(ST.sel hS101 [0, 2] rfl rfl), ?_⟩
              refine ra_all (rs := [6, 16]) (by kernel_rfl) rfl ?_
              refine ra_y 55 (i := 6) (v := .map (some g)) rfl rfl rfl (Y_load1 (B := some ⟨b2, 0, none⟩) (i := 6) (cs := [.int .i64 Ins, .int .i64 Vars, .int .i64 Root, .int .i64 Phase, .slice none 0 0, .slice none 0 0, .map (some g), .slice B3 values.length c4]) (v := .map (some g)) k_sc_105 rfl rfl (hS101.cf (i := 1) rfl) rfl) (ST.sel hS101 [0, 2] rfl rfl) ?_ ?_
              · skip
                refine ra_all (rs := [7, 16]) (by kernel_rfl) rfl ?_
                refine ra_y 56 (i := 7) (v := .int .i64 (mgt poly 0 0)) rfl rfl rfl (Y_mapGet (kE := (Value.int .i64)) (vE := (Value.int .i64)) (l := poly) (a := 0) (d := 0) (g := g) (i := 3) hS101 (keyInt k_int_3_i64) k_map_105_3_3 k_zero_3 rfl rfl rfl rfl) (ST.sel hS101 [0, 2] rfl rfl) ?_ ?_
                · skip
                  refine ra_all (rs := [16]) (by kernel_rfl) rfl ?_
                  refine ra_y 65 (i := 16) (v := .slice B3 values.length c4) rfl rfl rfl (Y_load1 (B := some ⟨b2, 0, none⟩) (i := 7) (cs := [.int .i64 Ins, .int .i64 Vars, .int .i64 Root, .int .i64 Phase, .slice none 0 0, .slice none 0 0, .map (some g), .slice B3 values.length c4]) (v := .slice B3 values.length c4) k_sc_55 rfl rfl (hS101.cf (i := 1) rfl) rfl) (ST.sel hS101 [0, 2] rfl rfl) ?_ ?_
                  · skip
                    refine ra_q 17 66 (v := pt (some ⟨b2, 0, none⟩) 0) rfl rfl rfl (by kernel_rfl) (by kernel_rfl) (by kernel_rfl) (ST.sel hS101 [0, 2] rfl rfl) (fun w' hw' => (Y_nilCheck (B := some ⟨b2, 0, none⟩) (i := 0) rfl rfl)) ?_
                    refine ra_q 18 67 (v := pt (some ⟨b2, 0, none⟩) 0) rfl rfl rfl (by kernel_rfl) (by kernel_rfl) (by kernel_rfl) (ST.sel hS101 [0, 2] rfl rfl) (fun w' hw' => (Y_fieldAddr (B := some ⟨b2, 0, none⟩) (i := 0) (s := 5) k_fd_107_0_0_57 k_sz_57_6 rfl rfl)) ?_
                    refine ra_q 19 68 (v := pt (some ⟨b2, 0, none⟩) 3) rfl rfl rfl (by kernel_rfl) (by kernel_rfl) (by kernel_rfl) (ST.sel hS101 [0, 2] rfl rfl) (fun w' hw' => (Y_fieldAddr (B := some ⟨b2, 0, none⟩) (i := 0) (s := 0) k_fd_57_3_3_3 k_sz_3_1 rfl rfl)) ?_
                    refine ra_all (rs := [20]) (by kernel_rfl) rfl ?_
                    refine ra_s0 (i := 20) rfl rfl rfl (Ys_store (i := 1) (s := 1) (B := some ⟨b2, 0, none⟩) (T' := 107) (v := .int .i64 (mgt poly 0 0)) (vs := [.int .i64 (mgt poly 0 0)]) (k := 3) (cs' := [.int .i64 Ins, .int .i64 Vars, .int .i64 Root, .int .i64 (mgt poly 0 0), .slice none 0 0, .slice none 0 0, .map (some g), .slice B3 values.length c4]) hS101 k_sz_3_1 rfl rfl rfl rfl rfl rfl rfl (Nat.le_of_ble_eq_true rfl) rfl rfl) ?_ ?_
                    · rintro _ w_87 ⟨rfl, hS102⟩
                      have hS102 : ST w0 [] _ [⟨some ⟨b1, 0, none⟩, 57, [.int .i64 0, .int .i64 0, .int .i64 0, .int .i64 0, .slice none 0 0, .slice none 0 0], 6⟩, ⟨some ⟨b2, 0, none⟩, 107, [.int .i64 Ins, .int .i64 Vars, .int .i64 Root, .int .i64 (mgt poly 0 0), .slice none 0 0, .slice none 0 0, .map (some g), .slice B3 values.length c4], 8⟩, ⟨B3, 61, (values1.flatMap enc_Affine), c4 * 2⟩, ⟨(some ⟨g, 0, none⟩), .mp (mpE (Value.int .i64) (Value.int .i64) poly), [], 0⟩, ⟨B6, 136, (r_4.flatMap enc_Term), c7 * 2⟩] [⟨B, (c.Gates.flatMap enc_Gate)⟩] := hS102
                      refine ⟨(ST.sel hS102 [0, 2] rfl rfl), ?_⟩
                      refine ra_q 21 69 (v := pt (some ⟨b2, 0, none⟩) 0) rfl rfl rfl (by kernel_rfl) (by kernel_rfl) (by kernel_rfl) (ST.sel hS102 [0, 2] rfl rfl) (fun w' hw' => (Y_nilCheck (B := some ⟨b2, 0, none⟩) (i := 0) rfl rfl)) ?_
                      refine ra_q 22 70 (v := pt (some ⟨b2, 0, none⟩) 0) rfl rfl rfl (by kernel_rfl) (by kernel_rfl) (by kernel_rfl) (ST.sel hS102 [0, 2] rfl rfl) (fun w' hw' => (Y_fieldAddr (B := some ⟨b2, 0, none⟩) (i := 0) (s := 5) k_fd_107_0_0_57 k_sz_57_6 rfl rfl)) ?_
                      refine ra_q 23 71 (v := pt (some ⟨b2, 0, none⟩) 4) rfl rfl rfl (by kernel_rfl) (by kernel_rfl) (by kernel_rfl) (ST.sel hS102 [0, 2] rfl rfl) (fun w' hw' => (Y_fieldAddr (B := some ⟨b2, 0, none⟩) (i := 0) (s := 0) k_fd_57_4_4_54 k_sz_54_1 rfl rfl)) ?_
                      refine ra_all (rs := [24]) (by kernel_rfl) rfl ?_
                      refine ra_s0 (i := 24) rfl rfl rfl (Ys_store (i := 1) (s := 1) (B := some ⟨b2, 0, none⟩) (T' := 107) (v := .slice B6 r_4.length c7) (vs := [.slice B6 r_4.length c7]) (k := 4) (cs' := [.int .i64 Ins, .int .i64 Vars, .int .i64 Root, .int .i64 (mgt poly 0 0), .slice B6 r_4.length c7, .slice none 0 0, .map (some g), .slice B3 values.length c4]) hS102 k_sz_54_1 rfl rfl rfl rfl rfl rfl rfl (Nat.le_of_ble_eq_true rfl) rfl rfl) ?_ ?_
                      · rintro _ w_88 ⟨rfl, hS103⟩
                        have hS103 : ST w0 [] _ [⟨some ⟨b1, 0, none⟩, 57, [.int .i64 0, .int .i64 0, .int .i64 0, .int .i64 0, .slice none 0 0, .slice none 0 0], 6⟩, ⟨some ⟨b2, 0, none⟩, 107, [.int .i64 Ins, .int .i64 Vars, .int .i64 Root, .int .i64 (mgt poly 0 0), .slice B6 r_4.length c7, .slice none 0 0, .map (some g), .slice B3 values.length c4], 8⟩, ⟨B3, 61, (values1.flatMap enc_Affine), c4 * 2⟩, ⟨(some ⟨g, 0, none⟩), .mp (mpE (Value.int .i64) (Value.int .i64) poly), [], 0⟩, ⟨B6, 136, (r_4.flatMap enc_Term), c7 * 2⟩] [⟨B, (c.Gates.flatMap enc_Gate)⟩] := hS103
                        refine ⟨(ST.sel hS103 [0, 2] rfl rfl), ?_⟩
                        refine ra_q 25 72 (v := pt (some ⟨b2, 0, none⟩) 0) rfl rfl rfl (by kernel_rfl) (by kernel_rfl) (by kernel_rfl) (ST.sel hS103 [0, 2] rfl rfl) (fun w' hw' => (Y_nilCheck (B := some ⟨b2, 0, none⟩) (i := 0) rfl rfl)) ?_
                        refine ra_q 26 73 (v := pt (some ⟨b2, 0, none⟩) 0) rfl rfl rfl (by kernel_rfl) (by kernel_rfl) (by kernel_rfl) (ST.sel hS103 [0, 2] rfl rfl) (fun w' hw' => (Y_fieldAddr (B := some ⟨b2, 0, none⟩) (i := 0) (s := 5) k_fd_107_0_0_57 k_sz_57_6 rfl rfl)) ?_
                        refine ra_q 27 74 (v := pt (some ⟨b2, 0, none⟩) 5) rfl rfl rfl (by kernel_rfl) (by kernel_rfl) (by kernel_rfl) (ST.sel hS103 [0, 2] rfl rfl) (fun w' hw' => (Y_fieldAddr (B := some ⟨b2, 0, none⟩) (i := 0) (s := 0) k_fd_57_5_5_55 k_sz_55_1 rfl rfl)) ?_
                        refine ra_all (rs := [28]) (by kernel_rfl) rfl ?_
                        refine ra_s0 (i := 28) rfl rfl rfl (Ys_store (i := 1) (s := 1) (B := some ⟨b2, 0, none⟩) (T' := 107) (v := .slice B3 values.length c4) (vs := [.slice B3 values.length c4]) (k := 5) (cs' := [.int .i64 Ins, .int .i64 Vars, .int .i64 Root, .int .i64 (mgt poly 0 0), .slice B6 r_4.length c7, .slice B3 values.length c4, .map (some g), .slice B3 values.length c4]) hS103 k_sz_55_1 rfl rfl rfl rfl rfl rfl rfl (Nat.le_of_ble_eq_true rfl) rfl rfl) ?_ ?_
                        · rintro _ w_89 ⟨rfl, hS104⟩
                          have hS104 : ST w0 [] _ [⟨some ⟨b1, 0, none⟩, 57, [.int .i64 0, .int .i64 0, .int .i64 0, .int .i64 0, .slice none 0 0, .slice none 0 0], 6⟩, ⟨some ⟨b2, 0, none⟩, 107, [.int .i64 Ins, .int .i64 Vars, .int .i64 Root, .int .i64 (mgt poly 0 0), .slice B6 r_4.length c7, .slice B3 values.length c4, .map (some g), .slice B3 values.length c4], 8⟩, ⟨B3, 61, (values1.flatMap enc_Affine), c4 * 2⟩, ⟨(some ⟨g, 0, none⟩), .mp (mpE (Value.int .i64) (Value.int .i64) poly), [], 0⟩, ⟨B6, 136, (r_4.flatMap enc_Term), c7 * 2⟩] [⟨B, (c.Gates.flatMap enc_Gate)⟩] := hS104
                          refine ⟨(ST.sel hS104 [0, 2] rfl rfl), ?_⟩
                          refine ra_done (by kernel_rfl) ?_
                          exact ⟨B6, c7, (FF.cons (hf2.get 2 0 rfl) (FF.cons (hf2.get 4 1 rfl) FF.nil)), (hS104.sel [0, 1, 4, 2, 3] rfl rfl)⟩
                        exact allR_nil
                      exact allR_nil
                    exact allR_nil
                  exact allR_nil
                refine ra_y 65 (i := 16) (v := .slice B3 values.length c4) rfl rfl rfl (Y_load1 (B := some ⟨b2, 0, none⟩) (i := 7) (cs := [.int .i64 Ins, .int .i64 Vars, .int .i64 Root, .int .i64 Phase, .slice none 0 0, .slice none 0 0, .map (some g), .slice B3 values.length c4]) (v := .slice B3 values.length c4) k_sc_55 rfl rfl (hS101.cf (i := 1) rfl) rfl) (ST.sel hS101 [0, 2] rfl rfl) ?_ ?_
                · skip
                  refine ra_all (rs := [7]) (by kernel_rfl) rfl ?_
                  refine ra_y 56 (i := 7) (v := .int .i64 (mgt poly 0 0)) rfl rfl rfl (Y_mapGet (kE := (Value.int .i64)) (vE := (Value.int .i64)) (l := poly) (a := 0) (d := 0) (g := g) (i := 3) hS101 (keyInt k_int_3_i64) k_map_105_3_3 k_zero_3 rfl rfl rfl rfl) (ST.sel hS101 [0, 2] rfl rfl) ?_ ?_
                  · skip
                    refine ra_q 17 66 (v := pt (some ⟨b2, 0, none⟩) 0) rfl rfl rfl (by kernel_rfl) (by kernel_rfl) (by kernel_rfl) (ST.sel hS101 [0, 2] rfl rfl) (fun w' hw' => (Y_nilCheck (B := some ⟨b2, 0, none⟩) (i := 0) rfl rfl)) ?_
                    refine ra_q 18 67 (v := pt (some ⟨b2, 0, none⟩) 0) rfl rfl rfl (by kernel_rfl) (by kernel_rfl) (by kernel_rfl) (ST.sel hS101 [0, 2] rfl rfl) (fun w' hw' => (Y_fieldAddr (B := some ⟨b2, 0, none⟩) (i := 0) (s := 5) k_fd_107_0_0_57 k_sz_57_6 rfl rfl)) ?_
                    refine ra_q 19 68 (v := pt (some ⟨b2, 0, none⟩) 3) rfl rfl rfl (by kernel_rfl) (by kernel_rfl) (by kernel_rfl) (ST.sel hS101 [0, 2] rfl rfl) (fun w' hw' => (Y_fieldAddr (B := some ⟨b2, 0, none⟩) (i := 0) (s := 0) k_fd_57_3_3_3 k_sz_3_1 rfl rfl)) ?_
                    refine ra_all (rs := [20]) (by kernel_rfl) rfl ?_
                    refine ra_s0 (i := 20) rfl rfl rfl (Ys_store (i := 1) (s := 1) (B := some ⟨b2, 0, none⟩) (T' := 107) (v := .int .i64 (mgt poly 0 0)) (vs := [.int .i64 (mgt poly 0 0)]) (k := 3) (cs' := [.int .i64 Ins, .int .i64 Vars, .int .i64 Root, .int .i64 (mgt poly 0 0), .slice none 0 0, .slice none 0 0, .map (some g), .slice B3 values.length c4]) hS101 k_sz_3_1 rfl rfl rfl rfl rfl rfl rfl (Nat.le_of_ble_eq_true rfl) rfl rfl) ?_ ?_
                    · rintro _ w_90 ⟨rfl, hS105⟩
                      have hS105 : ST w0 [] _ [⟨some ⟨b1, 0, none⟩, 57, [.int .i64 0, .int .i64 0, .int .i64 0, .int .i64 0, .slice none 0 0, .slice none 0 0], 6⟩, ⟨some ⟨b2, 0, none⟩, 107, [.int .i64 Ins, .int .i64 Vars, .int .i64 Root, .int .i64 (mgt poly 0 0), .slice none 0 0, .slice none 0 0, .map (some g), .slice B3 values.length c4], 8⟩, ⟨B3, 61, (values1.flatMap enc_Affine), c4 * 2⟩, ⟨(some ⟨g, 0, none⟩), .mp (mpE (Value.int .i64) (Value.int .i64) poly), [], 0⟩, ⟨B6, 136, (r_4.flatMap enc_Term), c7 * 2⟩] [⟨B, (c.Gates.flatMap enc_Gate)⟩] := hS105
                      refine ⟨(ST.sel hS105 [0, 2] rfl rfl), ?_⟩
                      refine ra_q 21 69 (v := pt (some ⟨b2, 0, none⟩) 0) rfl rfl rfl (by kernel_rfl) (by kernel_rfl) (by kernel_rfl) (ST.sel hS105 [0, 2] rfl rfl) (fun w' hw' => (Y_nilCheck (B := some ⟨b2, 0, none⟩) (i := 0) rfl rfl)) ?_
                      refine ra_q 22 70 (v := pt (some ⟨b2, 0, none⟩) 0) rfl rfl rfl (by kernel_rfl) (by kernel_rfl) (by kernel_rfl) (ST.sel hS105 [0, 2] rfl rfl) (fun w' hw' => (Y_fieldAddr (B := some ⟨b2, 0, none⟩) (i := 0) (s := 5) k_fd_107_0_0_57 k_sz_57_6 rfl rfl)) ?_
                      refine ra_q 23 71 (v := pt (some ⟨b2, 0, none⟩) 4) rfl rfl rfl (by kernel_rfl) (by kernel_rfl) (by kernel_rfl) (ST.sel hS105 [0, 2] rfl rfl) (fun w' hw' => (Y_fieldAddr (B := some ⟨b2, 0, none⟩) (i := 0) (s := 0) k_fd_57_4_4_54 k_sz_54_1 rfl rfl)) ?_
                      refine ra_all (rs := [24]) (by kernel_rfl) rfl ?_
                      refine ra_s0 (i := 24) rfl rfl rfl (Ys_store (i := 1) (s := 1) (B := some ⟨b2, 0, none⟩) (T' := 107) (v := .slice B6 r_4.length c7) (vs := [.slice B6 r_4.length c7]) (k := 4) (cs' := [.int .i64 Ins, .int .i64 Vars, .int .i64 Root, .int .i64 (mgt poly 0 0), .slice B6 r_4.length c7, .slice none 0 0, .map (some g), .slice B3 values.length c4]) hS105 k_sz_54_1 rfl rfl rfl rfl rfl rfl rfl (Nat.le_of_ble_eq_true rfl) rfl rfl) ?_ ?_
                      · rintro _ w_91 ⟨rfl, hS106⟩
                        have hS106 : ST w0 [] _ [⟨some ⟨b1, 0, none⟩, 57, [.int .i64 0, .int .i64 0, .int .i64 0, .int .i64 0, .slice none 0 0, .slice none 0 0], 6⟩, ⟨some ⟨b2, 0, none⟩, 107, [.int .i64 Ins, .int .i64 Vars, .int .i64 Root, .int .i64 (mgt poly 0 0), .slice B6 r_4.length c7, .slice none 0 0, .map (some g), .slice B3 values.length c4], 8⟩, ⟨B3, 61, (values1.flatMap enc_Affine), c4 * 2⟩, ⟨(some ⟨g, 0, none⟩), .mp (mpE (Value.int .i64) (Value.int .i64) poly), [], 0⟩, ⟨B6, 136, (r_4.flatMap enc_Term), c7 * 2⟩] [⟨B, (c.Gates.flatMap enc_Gate)⟩] := hS106
                        refine ⟨(ST.sel hS106 [0, 2] rfl rfl), ?_⟩
                        refine ra_q 25 72 (v := pt (some ⟨b2, 0, none⟩) 0) rfl rfl rfl (by kernel_rfl) (by kernel_rfl) (by kernel_rfl) (ST.sel hS106 [0, 2] rfl rfl) (fun w' hw' => (Y_nilCheck (B := some ⟨b2, 0, none⟩) (i := 0) rfl rfl)) ?_
                        refine ra_q 26 73 (v := pt (some ⟨b2, 0, none⟩) 0) rfl rfl rfl (by kernel_rfl) (by kernel_rfl) (by kernel_rfl) (ST.sel hS106 [0, 2] rfl rfl) (fun w' hw' => (Y_fieldAddr (B := some ⟨b2, 0, none⟩) (i := 0) (s := 5) k_fd_107_0_0_57 k_sz_57_6 rfl rfl)) ?_
                        refine ra_q 27 74 (v := pt (some ⟨b2, 0, none⟩) 5) rfl rfl rfl (by kernel_rfl) (by kernel_rfl) (by kernel_rfl) (ST.sel hS106 [0, 2] rfl rfl) (fun w' hw' => (Y_fieldAddr (B := some ⟨b2, 0, none⟩) (i := 0) (s := 0) k_fd_57_5_5_55 k_sz_55_1 rfl rfl)) ?_
                        refine ra_all (rs := [28]) (by kernel_rfl) rfl ?_
                        refine ra_s0 (i := 28) rfl rfl rfl (Ys_store (i := 1) (s := 1) (B := some ⟨b2, 0, none⟩) (T' := 107) (v := .slice B3 values.length c4) (vs := [.slice B3 values.length c4]) (k := 5) (cs' := [.int .i64 Ins, .int .i64 Vars, .int .i64 Root, .int .i64 (mgt poly 0 0), .slice B6 r_4.length c7, .slice B3 values.length c4, .map (some g), .slice B3 values.length c4]) hS106 k_sz_55_1 rfl rfl rfl rfl rfl rfl rfl (Nat.le_of_ble_eq_true rfl) rfl rfl) ?_ ?_
                        · rintro _ w_92 ⟨rfl, hS107⟩
                          have hS107 : ST w0 [] _ [⟨some ⟨b1, 0, none⟩, 57, [.int .i64 0, .int .i64 0, .int .i64 0, .int .i64 0, .slice none 0 0, .slice none 0 0], 6⟩, ⟨some ⟨b2, 0, none⟩, 107, [.int .i64 Ins, .int .i64 Vars, .int .i64 Root, .int .i64 (mgt poly 0 0), .slice B6 r_4.length c7, .slice B3 values.length c4, .map (some g), .slice B3 values.length c4], 8⟩, ⟨B3, 61, (values1.flatMap enc_Affine), c4 * 2⟩, ⟨(some ⟨g, 0, none⟩), .mp (mpE (Value.int .i64) (Value.int .i64) poly), [], 0⟩, ⟨B6, 136, (r_4.flatMap enc_Term), c7 * 2⟩] [⟨B, (c.Gates.flatMap enc_Gate)⟩] := hS107
                          refine ⟨(ST.sel hS107 [0, 2] rfl rfl), ?_⟩
                          refine ra_done (by kernel_rfl) ?_
                          exact ⟨B6, c7, (FF.cons (hf2.get 2 0 rfl) (FF.cons (hf2.get 4 1 rfl) FF.nil)), (hS107.sel [0, 1, 4, 2, 3] rfl rfl)⟩
                        exact allR_nil
                      exact allR_nil
                    exact allR_nil
                  exact allR_nil
                exact allR_nil
              refine ra_y 65 (i := 16) (v := .slice B3 values.length c4) rfl rfl rfl (Y_load1 (B := some ⟨b2, 0, none⟩) (i := 7) (cs := [.int .i64 Ins, .int .i64 Vars, .int .i64 Root, .int .i64 Phase, .slice none 0 0, .slice none 0 0, .map (some g), .slice B3 values.length c4]) (v := .slice B3 values.length c4) k_sc_55 rfl rfl (hS101.cf (i := 1) rfl) rfl) (ST.sel hS101 [0, 2] rfl rfl) ?_ ?_
              · skip
                refine ra_all (rs := [6]) (by kernel_rfl) rfl ?_
                refine ra_y 55 (i := 6) (v := .map (some g)) rfl rfl rfl (Y_load1 (B := some ⟨b2, 0, none⟩) (i := 6) (cs := [.int .i64 Ins, .int .i64 Vars, .int .i64 Root, .int .i64 Phase, .slice none 0 0, .slice none 0 0, .map (some g), .slice B3 values.length c4]) (v := .map (some g)) k_sc_105 rfl rfl (hS101.cf (i := 1) rfl) rfl) (ST.sel hS101 [0, 2] rfl rfl) ?_ ?_
                · skip
                  refine ra_all (rs := [7]) (by kernel_rfl) rfl ?_
                  refine ra_y 56 (i := 7) (v := .int .i64 (mgt poly 0 0)) rfl rfl rfl (Y_mapGet (kE := (Value.int .i64)) (vE := (Value.int .i64)) (l := poly) (a := 0) (d := 0) (g := g) (i := 3) hS101 (keyInt k_int_3_i64) k_map_105_3_3 k_zero_3 rfl rfl rfl rfl) (ST.sel hS101 [0, 2] rfl rfl) ?_ ?_
                  · skip
                    refine ra_q 17 66 (v := pt (some ⟨b2, 0, none⟩) 0) rfl rfl rfl (by kernel_rfl) (by kernel_rfl) (by kernel_rfl) (ST.sel hS101 [0, 2] rfl rfl) (fun w' hw' => (Y_nilCheck (B := some ⟨b2, 0, none⟩) (i := 0) rfl rfl)) ?_
                    refine ra_q 18 67 (v := pt (some ⟨b2, 0, none⟩) 0) rfl rfl rfl (by kernel_rfl) (by kernel_rfl) (by kernel_rfl) (ST.sel hS101 [0, 2] rfl rfl) (fun w' hw' => (Y_fieldAddr (B := some ⟨b2, 0, none⟩) (i := 0) (s := 5) k_fd_107_0_0_57 k_sz_57_6 rfl rfl)) ?_
                    refine ra_q 19 68 (v := pt (some ⟨b2, 0, none⟩) 3) rfl rfl rfl (by kernel_rfl) (by kernel_rfl) (by kernel_rfl) (ST.sel hS101 [0, 2] rfl rfl) (fun w' hw' => (Y_fieldAddr (B := some ⟨b2, 0, none⟩) (i := 0) (s := 0) k_fd_57_3_3_3 k_sz_3_1 rfl rfl)) ?_
                    refine ra_all (rs := [20]) (by kernel_rfl) rfl ?_
                    refine ra_s0 (i := 20) rfl rfl rfl (Ys_store (i := 1) (s := 1) (B := some ⟨b2, 0, none⟩) (T' := 107) (v := .int .i64 (mgt poly 0 0)) (vs := [.int .i64 (mgt poly 0 0)]) (k := 3) (cs' := [.int .i64 Ins, .int .i64 Vars, .int .i64 Root, .int .i64 (mgt poly 0 0), .slice none 0 0, .slice none 0 0, .map (some g), .slice B3 values.length c4]) hS101 k_sz_3_1 rfl rfl rfl rfl rfl rfl rfl (Nat.le_of_ble_eq_true rfl) rfl rfl) ?_ ?_
                    · rintro _ w_93 ⟨rfl, hS108⟩
                      have hS108 : ST w0 [] _ [⟨some ⟨b1, 0, none⟩, 57, [.int .i64 0, .int .i64 0, .int .i64 0, .int .i64 0, .slice none 0 0, .slice none 0 0], 6⟩, ⟨some ⟨b2, 0, none⟩, 107, [.int .i64 Ins, .int .i64 Vars, .int .i64 Root, .int .i64 (mgt poly 0 0), .slice none 0 0, .slice none 0 0, .map (some g), .slice B3 values.length c4], 8⟩, ⟨B3, 61, (values1.flatMap enc_Affine), c4 * 2⟩, ⟨(some ⟨g, 0, none⟩), .mp (mpE (Value.int .i64) (Value.int .i64) poly), [], 0⟩, ⟨B6, 136, (r_4.flatMap enc_Term), c7 * 2⟩] [⟨B, (c.Gates.flatMap enc_Gate)⟩] := hS108
                      refine ⟨(ST.sel hS108 [0, 2] rfl rfl), ?_⟩
                      refine ra_q 21 69 (v := pt (some ⟨b2, 0, none⟩) 0) rfl rfl rfl (by kernel_rfl) (by kernel_rfl) (by kernel_rfl) (ST.sel hS108 [0, 2] rfl rfl) (fun w' hw' => (Y_nilCheck (B := some ⟨b2, 0, none⟩) (i := 0) rfl rfl)) ?_
                      refine ra_q 22 70 (v := pt (some ⟨b2, 0, none⟩) 0) rfl rfl rfl (by kernel_rfl) (by kernel_rfl) (by kernel_rfl) (ST.sel hS108 [0, 2] rfl rfl) (fun w' hw' => (Y_fieldAddr (B := some ⟨b2, 0, none⟩) (i := 0) (s := 5) k_fd_107_0_0_57 k_sz_57_6 rfl rfl)) ?_
                      refine ra_q 23 71 (v := pt (some ⟨b2, 0, none⟩) 4) rfl rfl rfl (by kernel_rfl) (by kernel_rfl) (by kernel_rfl) (ST.sel hS108 [0, 2] rfl rfl) (fun w' hw' => (Y_fieldAddr (B := some ⟨b2, 0, none⟩) (i := 0) (s := 0) k_fd_57_4_4_54 k_sz_54_1 rfl rfl)) ?_
                      refine ra_all (rs := [24]) (by kernel_rfl) rfl ?_
                      refine ra_s0 (i := 24) rfl rfl rfl (Ys_store (i := 1) (s := 1) (B := some ⟨b2, 0, none⟩) (T' := 107) (v := .slice B6 r_4.length c7) (vs := [.slice B6 r_4.length c7]) (k := 4) (cs' := [.int .i64 Ins, .int .i64 Vars, .int .i64 Root, .int .i64 (mgt poly 0 0), .slice B6 r_4.length c7, .slice none 0 0, .map (some g), .slice B3 values.length c4]) hS108 k_sz_54_1 rfl rfl rfl rfl rfl rfl rfl (Nat.le_of_ble_eq_true rfl) rfl rfl) ?_ ?_
                      · rintro _ w_94 ⟨rfl, hS109⟩
                        have hS109 : ST w0 [] _ [⟨some ⟨b1, 0, none⟩, 57, [.int .i64 0, .int .i64 0, .int .i64 0, .int .i64 0, .slice none 0 0, .slice none 0 0], 6⟩, ⟨some ⟨b2, 0, none⟩, 107, [.int .i64 Ins, .int .i64 Vars, .int .i64 Root, .int .i64 (mgt poly 0 0), .slice B6 r_4.length c7, .slice none 0 0, .map (some g), .slice B3 values.length c4], 8⟩, ⟨B3, 61, (values1.flatMap enc_Affine), c4 * 2⟩, ⟨(some ⟨g, 0, none⟩), .mp (mpE (Value.int .i64) (Value.int .i64) poly), [], 0⟩, ⟨B6, 136, (r_4.flatMap enc_Term), c7 * 2⟩] [⟨B, (c.Gates.flatMap enc_Gate)⟩] := hS109
                        refine ⟨(ST.sel hS109 [0, 2] rfl rfl), ?_⟩
                        refine ra_q 25 72 (v := pt (some ⟨b2, 0, none⟩) 0) rfl rfl rfl (by kernel_rfl) (by kernel_rfl) (by kernel_rfl) (ST.sel hS109 [0, 2] rfl rfl) (fun w' hw' => (Y_nilCheck (B := some ⟨b2, 0, none⟩) (i := 0) rfl rfl)) ?_
                        refine ra_q 26 73 (v := pt (some ⟨b2, 0, none⟩) 0) rfl rfl rfl (by kernel_rfl) (by kernel_rfl) (by kernel_rfl) (ST.sel hS109 [0, 2] rfl rfl) (fun w' hw' => (Y_fieldAddr (B := some ⟨b2, 0, none⟩) (i := 0) (s := 5) k_fd_107_0_0_57 k_sz_57_6 rfl rfl)) ?_
                        refine ra_q 27 74 (v := pt (some ⟨b2, 0, none⟩) 5) rfl rfl rfl (by kernel_rfl) (by kernel_rfl) (by kernel_rfl) (ST.sel hS109 [0, 2] rfl rfl) (fun w' hw' => (Y_fieldAddr (B := some ⟨b2, 0, none⟩) (i := 0) (s := 0) k_fd_57_5_5_55 k_sz_55_1 rfl rfl)) ?_
                        refine ra_all (rs := [28]) (by kernel_rfl) rfl ?_
                        refine ra_s0 (i := 28) rfl rfl rfl (Ys_store (i := 1) (s := 1) (B := some ⟨b2, 0, none⟩) (T' := 107) (v := .slice B3 values.length c4) (vs := [.slice B3 values.length c4]) (k := 5) (cs' := [.int .i64 Ins, .int .i64 Vars, .int .i64 Root, .int .i64 (mgt poly 0 0), .slice B6 r_4.length c7, .slice B3 values.length c4, .map (some g), .slice B3 values.length c4]) hS109 k_sz_55_1 rfl rfl rfl rfl rfl rfl rfl (Nat.le_of_ble_eq_true rfl) rfl rfl) ?_ ?_
                        · rintro _ w_95 ⟨rfl, hS110⟩
                          have hS110 : ST w0 [] _ [⟨some ⟨b1, 0, none⟩, 57, [.int .i64 0, .int .i64 0, .int .i64 0, .int .i64 0, .slice none 0 0, .slice none 0 0], 6⟩, ⟨some ⟨b2, 0, none⟩, 107, [.int .i64 Ins, .int .i64 Vars, .int .i64 Root, .int .i64 (mgt poly 0 0), .slice B6 r_4.length c7, .slice B3 values.length c4, .map (some g), .slice B3 values.length c4], 8⟩, ⟨B3, 61, (values1.flatMap enc_Affine), c4 * 2⟩, ⟨(some ⟨g, 0, none⟩), .mp (mpE (Value.int .i64) (Value.int .i64) poly), [], 0⟩, ⟨B6, 136, (r_4.flatMap enc_Term), c7 * 2⟩] [⟨B, (c.Gates.flatMap enc_Gate)⟩] := hS110
                          refine ⟨(ST.sel hS110 [0, 2] rfl rfl), ?_⟩
                          refine ra_done (by kernel_rfl) ?_
                          exact ⟨B6, c7, (FF.cons (hf2.get 2 0 rfl) (FF.cons (hf2.get 4 1 rfl) FF.nil)), (hS110.sel [0, 1, 4, 2, 3] rfl rfl)⟩
                        exact allR_nil
                      exact allR_nil
                    exact allR_nil
                  exact allR_nil
                exact allR_nil
              exact allR_nil
            refine ra_y 65 (i := 16) (v := .slice B3 values.length c4) rfl rfl rfl (Y_load1 (B := some ⟨b2, 0, none⟩) (i := 7) (cs := [.int .i64 Ins, .int .i64 Vars, .int .i64 Root, .int .i64 Phase, .slice none 0 0, .slice none 0 0, .map (some g), .slice B3 values.length c4]) (v := .slice B3 values.length c4) k_sc_55 rfl rfl (hS30.cf (i := 1) rfl) rfl) (ST.sel hS30 [0, 3] rfl rfl) ?_ ?_
            · skip
              refine ra_all (rs := [6, 12]) (by kernel_rfl) rfl ?_
              refine ra_y 55 (i := 6) (v := .map (some g)) rfl rfl rfl (Y_load1 (B := some ⟨b2, 0, none⟩) (i := 6) (cs := [.int .i64 Ins, .int .i64 Vars, .int .i64 Root, .int .i64 Phase, .slice none 0 0, .slice none 0 0, .map (some g), .slice B3 values.length c4]) (v := .map (some g)) k_sc_105 rfl rfl (hS30.cf (i := 1) rfl) rfl) (ST.sel hS30 [0, 3] rfl rfl) ?_ ?_
              · skip
                refine ra_all (rs := [7, 12]) (by kernel_rfl) rfl ?_
                refine ra_y 56 (i := 7) (v := .int .i64 (mgt poly 0 0)) rfl rfl rfl (Y_mapGet (kE := (Value.int .i64)) (vE := (Value.int .i64)) (l := poly) (a := 0) (d := 0) (g := g) (i := 2) hS30 (keyInt k_int_3_i64) k_map_105_3_3 k_zero_3 rfl rfl rfl rfl) (ST.sel hS30 [0, 3] rfl rfl) ?_ ?_
                · skip
                  refine ra_all (rs := [12]) (by kernel_rfl) rfl ?_
                  refine ra_c 61 (i := 12) rfl rfl rfl (Yc_func (g := 68) (vs := [.map (some g)]) k_call_68 rfl (mc rfl mn) (c_impl_polynomial_terms poly g _  (hS30.inn [false, false, true, false] rfl [] rfl) hc2)) ?_ ?_
                  · rintro _ w_96 ⟨B6, c7, rfl, hd19⟩
                    have hS111 := hS30.out [false, false, true, false] rfl hd19
                    have hS111 : ST w0 [] _ [⟨some ⟨b1, 0, none⟩, 57, [.int .i64 0, .int .i64 0, .int .i64 0, .int .i64 0, .slice none 0 0, .slice none 0 0], 6⟩, ⟨some ⟨b2, 0, none⟩, 107, [.int .i64 Ins, .int .i64 Vars, .int .i64 Root, .int .i64 Phase, .slice none 0 0, .slice none 0 0, .map (some g), .slice B3 values.length c4], 8⟩, ⟨B3, 61, (values1.flatMap enc_Affine), c4 * 2⟩, ⟨(some ⟨g, 0, none⟩), .mp (mpE (Value.int .i64) (Value.int .i64) poly), [], 0⟩, ⟨B6, 136, (r_4.flatMap enc_Term), c7 * 2⟩] [⟨B, (c.Gates.flatMap enc_Gate)⟩] := hS111
                    refine ⟨(ST.sel hS111 [0, 2] rfl rfl), ?_⟩
                    refine ra_q 17 66 (v := pt (some ⟨b2, 0, none⟩) 0) rfl rfl rfl (by kernel_rfl) (by kernel_rfl) (by kernel_rfl) (ST.sel hS111 [0, 2] rfl rfl) (fun w' hw' => (Y_nilCheck (B := some ⟨b2, 0, none⟩) (i := 0) rfl rfl)) ?_
                    refine ra_q 18 67 (v := pt (some ⟨b2, 0, none⟩) 0) rfl rfl rfl (by kernel_rfl) (by kernel_rfl) (by kernel_rfl) (ST.sel hS111 [0, 2] rfl rfl) (fun w' hw' => (Y_fieldAddr (B := some ⟨b2, 0, none⟩) (i := 0) (s := 5) k_fd_107_0_0_57 k_sz_57_6 rfl rfl)) ?_
                    refine ra_q 19 68 (v := pt (some ⟨b2, 0, none⟩) 3) rfl rfl rfl (by kernel_rfl) (by kernel_rfl) (by kernel_rfl) (ST.sel hS111 [0, 2] rfl rfl) (fun w' hw' => (Y_fieldAddr (B := some ⟨b2, 0, none⟩) (i := 0) (s := 0) k_fd_57_3_3_3 k_sz_3_1 rfl rfl)) ?_
                    refine ra_all (rs := [20]) (by kernel_rfl) rfl ?_
                    refine ra_s0 (i := 20) rfl rfl rfl (Ys_store (i := 1) (s := 1) (B := some ⟨b2, 0, none⟩) (T' := 107) (v := .int .i64 (mgt poly 0 0)) (vs := [.int .i64 (mgt poly 0 0)]) (k := 3) (cs' := [.int .i64 Ins, .int .i64 Vars, .int .i64 Root, .int .i64 (mgt poly 0 0), .slice none 0 0, .slice none 0 0, .map (some g), .slice B3 values.length c4]) hS111 k_sz_3_1 rfl rfl rfl rfl rfl rfl rfl (Nat.le_of_ble_eq_true rfl) rfl rfl) ?_ ?_
                    · rintro _ w_97 ⟨rfl, hS112⟩
                      have hS112 : ST w0 [] _ [⟨some ⟨b1, 0, none⟩, 57, [.int .i64 0, .int .i64 0, .int .i64 0, .int .i64 0, .slice none 0 0, .slice none 0 0], 6⟩, ⟨some ⟨b2, 0, none⟩, 107, [.int .i64 Ins, .int .i64 Vars, .int .i64 Root, .int .i64 (mgt poly 0 0), .slice none 0 0, .slice none 0 0, .map (some g), .slice B3 values.length c4], 8⟩, ⟨B3, 61, (values1.flatMap enc_Affine), c4 * 2⟩, ⟨(some ⟨g, 0, none⟩), .mp (mpE (Value.int .i64) (Value.int .i64) poly), [], 0⟩, ⟨B6, 136, (r_4.flatMap enc_Term), c7 * 2⟩] [⟨B, (c.Gates.flatMap enc_Gate)⟩] := hS112
                      refine ⟨(ST.sel hS112 [0, 2] rfl rfl), ?_⟩
                      refine ra_q 21 69 (v := pt (some ⟨b2, 0, none⟩) 0) rfl rfl rfl (by kernel_rfl) (by kernel_rfl) (by kernel_rfl) (ST.sel hS112 [0, 2] rfl rfl) (fun w' hw' => (Y_nilCheck (B := some ⟨b2, 0, none⟩) (i := 0) rfl rfl)) ?_
                      refine ra_q 22 70 (v := pt (some ⟨b2, 0, none⟩) 0) rfl rfl rfl (by kernel_rfl) (by kernel_rfl) (by kernel_rfl) (ST.sel hS112 [0, 2] rfl rfl) (fun w' hw' => (Y_fieldAddr (B := some ⟨b2, 0, none⟩) (i := 0) (s := 5) k_fd_107_0_0_57 k_sz_57_6 rfl rfl)) ?_
                      refine ra_q 23 71 (v := pt (some ⟨b2, 0, none⟩) 4) rfl rfl rfl (by kernel_rfl) (by kernel_rfl) (by kernel_rfl) (ST.sel hS112 [0, 2] rfl rfl) (fun w' hw' => (Y_fieldAddr (B := some ⟨b2, 0, none⟩) (i := 0) (s := 0) k_fd_57_4_4_54 k_sz_54_1 rfl rfl)) ?_
                      refine ra_all (rs := [24]) (by kernel_rfl) rfl ?_
                      refine ra_s0 (i := 24) rfl rfl rfl (Ys_store (i := 1) (s := 1) (B := some ⟨b2, 0, none⟩) (T' := 107) (v := .slice B6 r_4.length c7) (vs := [.slice B6 r_4.length c7]) (k := 4) (cs' := [.int .i64 Ins, .int .i64 Vars, .int .i64 Root, .int .i64 (mgt poly 0 0), .slice B6 r_4.length c7, .slice none 0 0, .map (some g), .slice B3 values.length c4]) hS112 k_sz_54_1 rfl rfl rfl rfl rfl rfl rfl (Nat.le_of_ble_eq_true rfl) rfl rfl) ?_ ?_
                      · rintro _ w_98 ⟨rfl, hS113⟩
                        have hS113 : ST w0 [] _ [⟨some ⟨b1, 0, none⟩, 57, [.int .i64 0, .int .i64 0, .int .i64 0, .int .i64 0, .slice none 0 0, .slice none 0 0], 6⟩, ⟨some ⟨b2, 0, none⟩, 107, [.int .i64 Ins, .int .i64 Vars, .int .i64 Root, .int .i64 (mgt poly 0 0), .slice B6 r_4.length c7, .slice none 0 0, .map (some g), .slice B3 values.length c4], 8⟩, ⟨B3, 61, (values1.flatMap enc_Affine), c4 * 2⟩, ⟨(some ⟨g, 0, none⟩), .mp (mpE (Value.int .i64) (Value.int .i64) poly), [], 0⟩, ⟨B6, 136, (r_4.flatMap enc_Term), c7 * 2⟩] [⟨B, (c.Gates.flatMap enc_Gate)⟩] := hS113
                        refine ⟨(ST.sel hS113 [0, 2] rfl rfl), ?_⟩
                        refine ra_q 25 72 (v := pt (some ⟨b2, 0, none⟩) 0) rfl rfl rfl (by kernel_rfl) (by kernel_rfl) (by kernel_rfl) (ST.sel hS113 [0, 2] rfl rfl) (fun w' hw' => (Y_nilCheck (B := some ⟨b2, 0, none⟩) (i := 0) rfl rfl)) ?_
                        refine ra_q 26 73 (v := pt (some ⟨b2, 0, none⟩) 0) rfl rfl rfl (by kernel_rfl) (by kernel_rfl) (by kernel_rfl) (ST.sel hS113 [0, 2] rfl rfl) (fun w' hw' => (Y_fieldAddr (B := some ⟨b2, 0, none⟩) (i := 0) (s := 5) k_fd_107_0_0_57 k_sz_57_6 rfl rfl)) ?_
                        refine ra_q 27 74 (v := pt (some ⟨b2, 0, none⟩) 5) rfl rfl rfl (by kernel_rfl) (by kernel_rfl) (by kernel_rfl) (ST.sel hS113 [0, 2] rfl rfl) (fun w' hw' => (Y_fieldAddr (B := some ⟨b2, 0, none⟩) (i := 0) (s := 0) k_fd_57_5_5_55 k_sz_55_1 rfl rfl)) ?_
                        refine ra_all (rs := [28]) (by kernel_rfl) rfl ?_
                        refine ra_s0 (i := 28) rfl rfl rfl (Ys_store (i := 1) (s := 1) (B := some ⟨b2, 0, none⟩) (T' := 107) (v := .slice B3 values.length c4) (vs := [.slice B3 values.length c4]) (k := 5) (cs' := [.int .i64 Ins, .int .i64 Vars, .int .i64 Root, .int .i64 (mgt poly 0 0), .slice B6 r_4.length c7, .slice B3 values.length c4, .map (some g), .slice B3 values.length c4]) hS113 k_sz_55_1 rfl rfl rfl rfl rfl rfl rfl (Nat.le_of_ble_eq_true rfl) rfl rfl) ?_ ?_
                        · rintro _ w_99 ⟨rfl, hS114⟩
                          have hS114 : ST w0 [] _ [⟨some ⟨b1, 0, none⟩, 57, [.int .i64 0, .int .i64 0, .int .i64 0, .int .i64 0, .slice none 0 0, .slice none 0 0], 6⟩, ⟨some ⟨b2, 0, none⟩, 107, [.int .i64 Ins, .int .i64 Vars, .int .i64 Root, .int .i64 (mgt poly 0 0), .slice B6 r_4.length c7, .slice B3 values.length c4, .map (some g), .slice B3 values.length c4], 8⟩, ⟨B3, 61, (values1.flatMap enc_Affine), c4 * 2⟩, ⟨(some ⟨g, 0, none⟩), .mp (mpE (Value.int .i64) (Value.int .i64) poly), [], 0⟩, ⟨B6, 136, (r_4.flatMap enc_Term), c7 * 2⟩] [⟨B, (c.Gates.flatMap enc_Gate)⟩] := hS114
                          refine ⟨(ST.sel hS114 [0, 2] rfl rfl), ?_⟩
                          refine ra_done (by kernel_rfl) ?_
                          exact ⟨B6, c7, (FF.cons (hf2.get 2 0 rfl) (FF.cons (hf2.get 4 1 rfl) FF.nil)), (hS114.sel [0, 1, 4, 2, 3] rfl rfl)⟩
                        exact allR_nil
                      exact allR_nil
                    exact allR_nil
                  exact allR_nil
                refine ra_c 61 (i := 12) rfl rfl rfl (Yc_func (g := 68) (vs := [.map (some g)]) k_call_68 rfl (mc rfl mn) (c_impl_polynomial_terms poly g _  (hS30.inn [false, false, true, false] rfl [] rfl) hc2)) ?_ ?_
                · rintro _ w_100 ⟨B6, c7, rfl, hd20⟩
                  have hS115 := hS30.out [false, false, true, false] rfl hd20
                  have hS115 : ST w0 [] _ [⟨some ⟨b1, 0, none⟩, 57, [.int .i64 0, .int .i64 0, .int .i64 0, .int .i64 0, .slice none 0 0, .slice none 0 0], 6⟩, ⟨some ⟨b2, 0, none⟩, 107, [.int .i64 Ins, .int .i64 Vars, .int .i64 Root, .int .i64 Phase, .slice none 0 0, .slice none 0 0, .map (some g), .slice B3 values.length c4], 8⟩, ⟨B3, 61, (values1.flatMap enc_Affine), c4 * 2⟩, ⟨(some ⟨g, 0, none⟩), .mp (mpE (Value.int .i64) (Value.int .i64) poly), [], 0⟩, ⟨B6, 136, (r_4.flatMap enc_Term), c7 * 2⟩] [⟨B, (c.Gates.flatMap enc_Gate)⟩] := hS115
                  refine ⟨(ST.sel hS115 [0, 2] rfl rfl), ?_⟩
                  refine ra_all (rs := [7]) (by kernel_rfl) rfl ?_
                  refine ra_y 56 (i := 7) (v := .int .i64 (mgt poly 0 0)) rfl rfl rfl (Y_mapGet (kE := (Value.int .i64)) (vE := (Value.int .i64)) (l := poly) (a := 0) (d := 0) (g := g) (i := 3) hS115 (keyInt k_int_3_i64) k_map_105_3_3 k_zero_3 rfl rfl rfl rfl) (ST.sel hS115 [0, 2] rfl rfl) ?_ ?_
                  · skip
                    refine ra_q 17 66 (v := pt (some ⟨b2, 0, none⟩) 0) rfl rfl rfl (by kernel_rfl) (by kernel_rfl) (by kernel_rfl) (ST.sel hS115 [0, 2] rfl rfl) (fun w' hw' => (Y_nilCheck (B := some ⟨b2, 0, none⟩) (i := 0) rfl rfl)) ?_
                    refine ra_q 18 67 (v := pt (some ⟨b2, 0, none⟩) 0) rfl rfl rfl (by kernel_rfl) (by kernel_rfl) (by kernel_rfl) (ST.sel hS115 [0, 2] rfl rfl) (fun w' hw' => (Y_fieldAddr (B := some ⟨b2, 0, none⟩) (i := 0) (s := 5) k_fd_107_0_0_57 k_sz_57_6 rfl rfl)) ?_
                    refine ra_q 19 68 (v := pt (some ⟨b2, 0, none⟩) 3) rfl rfl rfl (by kernel_rfl) (by kernel_rfl) (by kernel_rfl) (ST.sel hS115 [0, 2] rfl rfl) (fun w' hw' => (Y_fieldAddr (B := some ⟨b2, 0, none⟩) (i := 0) (s := 0) k_fd_57_3_3_3 k_sz_3_1 rfl rfl)) ?_
                    refine ra_all (rs := [20]) (by kernel_rfl) rfl ?_
                    refine ra_s0 (i := 20) rfl rfl rfl (Ys_store (i := 1) (s := 1) (B := some ⟨b2, 0, none⟩) (T' := 107) (v := .int .i64 (mgt poly 0 0)) (vs := [.int .i64 (mgt poly 0 0)]) (k := 3) (cs' := [.int .i64 Ins, .int .i64 Vars, .int .i64 Root, .int .i64 (mgt poly 0 0), .slice none 0 0, .slice none 0 0, .map (some g), .slice B3 values.length c4]) hS115 k_sz_3_1 rfl rfl rfl rfl rfl rfl rfl (Nat.le_of_ble_eq_true rfl) rfl rfl) ?_ ?_
                    · rintro _ w_101 ⟨rfl, hS116⟩
                      have hS116 : ST w0 [] _ [⟨some ⟨b1, 0, none⟩, 57, [.int .i64 0, .int .i64 0, .int .i64 0, .int .i64 0, .slice none 0 0, .slice none 0 0], 6⟩, ⟨some ⟨b2, 0, none⟩, 107, [.int .i64 Ins, .int .i64 Vars, .int .i64 Root, .int .i64 (mgt poly 0 0), .slice none 0 0, .slice none 0 0, .map (some g), .slice B3 values.length c4], 8⟩, ⟨B3, 61, (values1.flatMap enc_Affine), c4 * 2⟩, ⟨(some ⟨g, 0, none⟩), .mp (mpE (Value.int .i64) (Value.int .i64) poly), [], 0⟩, ⟨B6, 136, (r_4.flatMap enc_Term), c7 * 2⟩] [⟨B, (c.Gates.flatMap enc_Gate)⟩] := hS116
                      refine ⟨(ST.sel hS116 [0, 2] rfl rfl), ?_⟩
                      refine ra_q 21 69 (v := pt (some ⟨b2, 0, none⟩) 0) rfl rfl rfl (by kernel_rfl) (by kernel_rfl) (by kernel_rfl) (ST.sel hS116 [0, 2] rfl rfl) (fun w' hw' => (Y_nilCheck (B := some ⟨b2, 0, none⟩) (i := 0) rfl rfl)) ?_
                      refine ra_q 22 70 (v := pt (some ⟨b2, 0, none⟩) 0) rfl rfl rfl (by kernel_rfl) (by kernel_rfl) (by kernel_rfl) (ST.sel hS116 [0, 2] rfl rfl) (fun w' hw' => (Y_fieldAddr (B := some ⟨b2, 0, none⟩) (i := 0) (s := 5) k_fd_107_0_0_57 k_sz_57_6 rfl rfl)) ?_
                      refine ra_q 23 71 (v := pt (some ⟨b2, 0, none⟩) 4) rfl rfl rfl (by kernel_rfl) (by kernel_rfl) (by kernel_rfl) (ST.sel hS116 [0, 2] rfl rfl) (fun w' hw' => (Y_fieldAddr (B := some ⟨b2, 0, none⟩) (i := 0) (s := 0) k_fd_57_4_4_54 k_sz_54_1 rfl rfl)) ?_
                      refine ra_all (rs := [24]) (by kernel_rfl) rfl ?_
                      refine ra_s0 (i := 24) rfl rfl rfl (Ys_store (i := 1) (s := 1) (B := some ⟨b2, 0, none⟩) (T' := 107) (v := .slice B6 r_4.length c7) (vs := [.slice B6 r_4.length c7]) (k := 4) (cs' := [.int .i64 Ins, .int .i64 Vars, .int .i64 Root, .int .i64 (mgt poly 0 0), .slice B6 r_4.length c7, .slice none 0 0, .map (some g), .slice B3 values.length c4]) hS116 k_sz_54_1 rfl rfl rfl rfl rfl rfl rfl (Nat.le_of_ble_eq_true rfl) rfl rfl) ?_ ?_
                      · rintro _ w_102 ⟨rfl, hS117⟩
                        have hS117 : ST w0 [] _ [⟨some ⟨b1, 0, none⟩, 57, [.int .i64 0, .int .i64 0, .int .i64 0, .int .i64 0, .slice none 0 0, .slice none 0 0], 6⟩, ⟨some ⟨b2, 0, none⟩, 107, [.int .i64 Ins, .int .i64 Vars, .int .i64 Root, .int .i64 (mgt poly 0 0), .slice B6 r_4.length c7, .slice none 0 0, .map (some g), .slice B3 values.length c4], 8⟩, ⟨B3, 61, (values1.flatMap enc_Affine), c4 * 2⟩, ⟨(some ⟨g, 0, none⟩), .mp (mpE (Value.int .i64) (Value.int .i64) poly), [], 0⟩, ⟨B6, 136, (r_4.flatMap enc_Term), c7 * 2⟩] [⟨B, (c.Gates.flatMap enc_Gate)⟩] := hS117
                        refine ⟨(ST.sel hS117 [0, 2] rfl rfl), ?_⟩
                        refine ra_q 25 72 (v := pt (some ⟨b2, 0, none⟩) 0) rfl rfl rfl (by kernel_rfl) (by kernel_rfl) (by kernel_rfl) (ST.sel hS117 [0, 2] rfl rfl) (fun w' hw' => (Y_nilCheck (B := some ⟨b2, 0, none⟩) (i := 0) rfl rfl)) ?_
                        refine ra_q 26 73 (v := pt (some ⟨b2, 0, none⟩) 0) rfl rfl rfl (by kernel_rfl) (by kernel_rfl) (by kernel_rfl) (ST.sel hS117 [0, 2] rfl rfl) (fun w' hw' => (Y_fieldAddr (B := some ⟨b2, 0, none⟩) (i := 0) (s := 5) k_fd_107_0_0_57 k_sz_57_6 rfl rfl)) ?_
                        refine ra_q 27 74 (v := pt (some ⟨b2, 0, none⟩) 5) rfl rfl rfl (by kernel_rfl) (by kernel_rfl) (by kernel_rfl) (ST.sel hS117 [0, 2] rfl rfl) (fun w' hw' => (Y_fieldAddr (B := some ⟨b2, 0, none⟩) (i := 0) (s := 0) k_fd_57_5_5_55 k_sz_55_1 rfl rfl)) ?_
                        refine ra_all (rs := [28]) (by kernel_rfl) rfl ?_
                        refine ra_s0 (i := 28) rfl rfl rfl (Ys_store (i := 1) (s := 1) (B := some ⟨b2, 0, none⟩) (T' := 107) (v := .slice B3 values.length c4) (vs := [.slice B3 values.length c4]) (k := 5) (cs' := [.int .i64 Ins, .int .i64 Vars, .int .i64 Root, .int .i64 (mgt poly 0 0), .slice B6 r_4.length c7, .slice B3 values.length c4, .map (some g), .slice B3 values.length c4]) hS117 k_sz_55_1 rfl rfl rfl rfl rfl rfl rfl (Nat.le_of_ble_eq_true rfl) rfl rfl) ?_ ?_
                        · rintro _ w_103 ⟨rfl, hS118⟩
                          have hS118 : ST w0 [] _ [⟨some ⟨b1, 0, none⟩, 57, [.int .i64 0, .int .i64 0, .int .i64 0, .int .i64 0, .slice none 0 0, .slice none 0 0], 6⟩, ⟨some ⟨b2, 0, none⟩, 107, [.int .i64 Ins, .int .i64 Vars, .int .i64 Root, .int .i64 (mgt poly 0 0), .slice B6 r_4.length c7, .slice B3 values.length c4, .map (some g), .slice B3 values.length c4], 8⟩, ⟨B3, 61, (values1.flatMap enc_Affine), c4 * 2⟩, ⟨(some ⟨g, 0, none⟩), .mp (mpE (Value.int .i64) (Value.int .i64) poly), [], 0⟩, ⟨B6, 136, (r_4.flatMap enc_Term), c7 * 2⟩] [⟨B, (c.Gates.flatMap enc_Gate)⟩] := hS118
                          refine ⟨(ST.sel hS118 [0, 2] rfl rfl), ?_⟩
                          refine ra_done (by kernel_rfl) ?_
                          exact ⟨B6, c7, (FF.cons (hf2.get 2 0 rfl) (FF.cons (hf2.get 4 1 rfl) FF.nil)), (hS118.sel [0, 1, 4, 2, 3] rfl rfl)⟩
                        exact allR_nil
                      exact allR_nil
                    exact allR_nil
                  exact allR_nil
                exact allR_nil
              refine ra_c 61 (i := 12) rfl rfl rfl (Yc_func (g := 68) (vs := [.map (some g)]) k_call_68 rfl (mc rfl mn) (c_impl_polynomial_terms poly g _  (hS30.inn [false, false, true, false] rfl [] rfl) hc2)) ?_ ?_
              · rintro _ w_104 ⟨B6, c7, rfl, hd21⟩
                have hS119 := hS30.out [false, false, true, false] rfl hd21
                have hS119 : ST w0 [] _ [⟨some ⟨b1, 0, none⟩, 57, [.int .i64 0, .int .i64 0, .int .i64 0, .int .i64 0, .slice none 0 0, .slice none 0 0], 6⟩, ⟨some ⟨b2, 0, none⟩, 107, [.int .i64 Ins, .int .i64 Vars, .int .i64 Root, .int .i64 Phase, .slice none 0 0, .slice none 0 0, .map (some g), .slice B3 values.length c4], 8⟩, ⟨B3, 61, (values1.flatMap enc_Affine), c4 * 2⟩, ⟨(some ⟨g, 0, none⟩), .mp (mpE (Value.int .i64) (Value.int .i64) poly), [], 0⟩, ⟨B6, 136, (r_4.flatMap enc_Term), c7 * 2⟩] [⟨B, (c.Gates.flatMap enc_Gate)⟩] := hS119
                refine ⟨(ST.sel hS119 [0, 2] rfl rfl), ?_⟩
                refine ra_all (rs := [6]) (by kernel_rfl) rfl ?_
                refine ra_y 55 (i := 6) (v := .map (some g)) rfl rfl rfl (Y_load1 (B := some ⟨b2, 0, none⟩) (i := 6) (cs := [.int .i64 Ins, .int .i64 Vars, .int .i64 Root, .int .i64 Phase, .slice none 0 0, .slice none 0 0, .map (some g), .slice B3 values.length c4]) (v := .map (some g)) k_sc_105 rfl rfl (hS119.cf (i := 1) rfl) rfl) (ST.sel hS119 [0, 2] rfl rfl) ?_ ?_
                · skip
                  refine ra_all (rs := [7]) (by kernel_rfl) rfl ?_
                  refine ra_y 56 (i := 7) (v := .int .i64 (mgt poly 0 0)) rfl rfl rfl (Y_mapGet (kE := (Value.int .i64)) (vE := (Value.int .i64)) (l := poly) (a := 0) (d := 0) (g := g) (i := 3) hS119 (keyInt k_int_3_i64) k_map_105_3_3 k_zero_3 rfl rfl rfl rfl) (ST.sel hS119 [0, 2] rfl rfl) ?_ ?_
                  · skip
                    refine ra_q 17 66 (v := pt (some ⟨b2, 0, none⟩) 0) rfl rfl rfl (by kernel_rfl) (by kernel_rfl) (by kernel_rfl) (ST.sel hS119 [0, 2] rfl rfl) (fun w' hw' => (Y_nilCheck (B := some ⟨b2, 0, none⟩) (i := 0) rfl rfl)) ?_
                    refine ra_q 18 67 (v := pt (some ⟨b2, 0, none⟩) 0) rfl rfl rfl (by kernel_rfl) (by kernel_rfl) (by kernel_rfl) (ST.sel hS119 [0, 2] rfl rfl) (fun w' hw' => (Y_fieldAddr (B := some ⟨b2, 0, none⟩) (i := 0) (s := 5) k_fd_107_0_0_57 k_sz_57_6 rfl rfl)) ?_
                    refine ra_q 19 68 (v := pt (some ⟨b2, 0, none⟩) 3) rfl rfl rfl (by kernel_rfl) (by kernel_rfl) (by kernel_rfl) (ST.sel hS119 [0, 2] rfl rfl) (fun w' hw' => (Y_fieldAddr (B := some ⟨b2, 0, none⟩) (i := 0) (s := 0) k_fd_57_3_3_3 k_sz_3_1 rfl rfl)) ?_
                    refine ra_all (rs := [20]) (by kernel_rfl) rfl ?_
                    refine ra_s0 (i := 20) rfl rfl rfl (Ys_store (i := 1) (s := 1) (B := some ⟨b2, 0, none⟩) (T' := 107) (v := .int .i64 (mgt poly 0 0)) (vs := [.int .i64 (mgt poly 0 0)]) (k := 3) (cs' := [.int .i64 Ins, .int .i64 Vars, .int .i64 Root, .int .i64 (mgt poly 0 0), .slice none 0 0, .slice none 0 0, .map (some g), .slice B3 values.length c4]) hS119 k_sz_3_1 rfl rfl rfl rfl rfl rfl rfl (Nat.le_of_ble_eq_true rfl) rfl rfl) ?_ ?_
                    · rintro _ w_105 ⟨rfl, hS120⟩
                      have hS120 : ST w0 [] _ [⟨some ⟨b1, 0, none⟩, 57, [.int .i64 0, .int .i64 0, .int .i64 0, .int .i64 0, .slice none 0 0, .slice none 0 0], 6⟩, ⟨some ⟨b2, 0, none⟩, 107, [.int .i64 Ins, .int .i64 Vars, .int .i64 Root, .int .i64 (mgt poly 0 0), .slice none 0 0, .slice none 0 0, .map (some g), .slice B3 values.length c4], 8⟩, ⟨B3, 61, (values1.flatMap enc_Affine), c4 * 2⟩, ⟨(some ⟨g, 0, none⟩), .mp (mpE (Value.int .i64) (Value.int .i64) poly), [], 0⟩, ⟨B6, 136, (r_4.flatMap enc_Term), c7 * 2⟩] [⟨B, (c.Gates.flatMap enc_Gate)⟩] := hS120
                      refine ⟨(ST.sel hS120 [0, 2] rfl rfl), ?_⟩
                      refine ra_q 21 69 (v := pt (some ⟨b2, 0, none⟩) 0) rfl rfl rfl (by kernel_rfl) (by kernel_rfl) (by kernel_rfl) (ST.sel hS120 [0, 2] rfl rfl) (fun w' hw' => (Y_nilCheck (B := some ⟨b2, 0, none⟩) (i := 0) rfl rfl)) ?_
                      refine ra_q 22 70 (v := pt (some ⟨b2, 0, none⟩) 0) rfl rfl rfl (by kernel_rfl) (by kernel_rfl) (by kernel_rfl) (ST.sel hS120 [0, 2] rfl rfl) (fun w' hw' => (Y_fieldAddr (B := some ⟨b2, 0, none⟩) (i := 0) (s := 5) k_fd_107_0_0_57 k_sz_57_6 rfl rfl)) ?_
                      refine ra_q 23 71 (v := pt (some ⟨b2, 0, none⟩) 4) rfl rfl rfl (by kernel_rfl) (by kernel_rfl) (by kernel_rfl) (ST.sel hS120 [0, 2] rfl rfl) (fun w' hw' => (Y_fieldAddr (B := some ⟨b2, 0, none⟩) (i := 0) (s := 0) k_fd_57_4_4_54 k_sz_54_1 rfl rfl)) ?_
                      refine ra_all (rs := [24]) (by kernel_rfl) rfl ?_
                      refine ra_s0 (i := 24) rfl rfl rfl (Ys_store (i := 1) (s := 1) (B := some ⟨b2, 0, none⟩) (T' := 107) (v := .slice B6 r_4.length c7) (vs := [.slice B6 r_4.length c7]) (k := 4) (cs' := [.int .i64 Ins, .int .i64 Vars, .int .i64 Root, .int .i64 (mgt poly 0 0), .slice B6 r_4.length c7, .slice none 0 0, .map (some g), .slice B3 values.length c4]) hS120 k_sz_54_1 rfl rfl rfl rfl rfl rfl rfl (Nat.le_of_ble_eq_true rfl) rfl rfl) ?_ ?_
                      · rintro _ w_106 ⟨rfl, hS121⟩
                        have hS121 : ST w0 [] _ [⟨some ⟨b1, 0, none⟩, 57, [.int .i64 0, .int .i64 0, .int .i64 0, .int .i64 0, .slice none 0 0, .slice none 0 0], 6⟩, ⟨some ⟨b2, 0, none⟩, 107, [.int .i64 Ins, .int .i64 Vars, .int .i64 Root, .int .i64 (mgt poly 0 0), .slice B6 r_4.length c7, .slice none 0 0, .map (some g), .slice B3 values.length c4], 8⟩, ⟨B3, 61, (values1.flatMap enc_Affine), c4 * 2⟩, ⟨(some ⟨g, 0, none⟩), .mp (mpE (Value.int .i64) (Value.int .i64) poly), [], 0⟩, ⟨B6, 136, (r_4.flatMap enc_Term), c7 * 2⟩] [⟨B, (c.Gates.flatMap enc_Gate)⟩] := hS121
                        refine ⟨(ST.sel hS121 [0, 2] rfl rfl), ?_⟩
                        refine ra_q 25 72 (v := pt (some ⟨b2, 0, none⟩) 0) rfl rfl rfl (by kernel_rfl) (by kernel_rfl) (by kernel_rfl) (ST.sel hS121 [0, 2] rfl rfl) (fun w' hw' => (Y_nilCheck (B := some ⟨b2, 0, none⟩) (i := 0) rfl rfl)) ?_
                        refine ra_q 26 73 (v := pt (some ⟨b2, 0, none⟩) 0) rfl rfl rfl (by kernel_rfl) (by kernel_rfl) (by kernel_rfl) (ST.sel hS121 [0, 2] rfl rfl) (fun w' hw' => (Y_fieldAddr (B := some ⟨b2, 0, none⟩) (i := 0) (s := 5) k_fd_107_0_0_57 k_sz_57_6 rfl rfl)) ?_
                        refine ra_q 27 74 (v := pt (some ⟨b2, 0, none⟩) 5) rfl rfl rfl (by kernel_rfl) (by kernel_rfl) (by kernel_rfl) (ST.sel hS121 [0, 2] rfl rfl) (fun w' hw' => (Y_fieldAddr (B := some ⟨b2, 0, none⟩) (i := 0) (s := 0) k_fd_57_5_5_55 k_sz_55_1 rfl rfl)) ?_
                        refine ra_all (rs := [28]) (by kernel_rfl) rfl ?_
                        refine ra_s0 (i := 28) rfl rfl rfl (Ys_store (i := 1) (s := 1) (B := some ⟨b2, 0, none⟩) (T' := 107) (v := .slice B3 values.length c4) (vs := [.slice B3 values.length c4]) (k := 5) (cs' := [.int .i64 Ins, .int .i64 Vars, .int .i64 Root, .int .i64 (mgt poly 0 0), .slice B6 r_4.length c7, .slice B3 values.length c4, .map (some g), .slice B3 values.length c4]) hS121 k_sz_55_1 rfl rfl rfl rfl rfl rfl rfl (Nat.le_of_ble_eq_true rfl) rfl rfl) ?_ ?_
                        · rintro _ w_107 ⟨rfl, hS122⟩
                          have hS122 : ST w0 [] _ [⟨some ⟨b1, 0, none⟩, 57, [.int .i64 0, .int .i64 0, .int .i64 0, .int .i64 0, .slice none 0 0, .slice none 0 0], 6⟩, ⟨some ⟨b2, 0, none⟩, 107, [.int .i64 Ins, .int .i64 Vars, .int .i64 Root, .int .i64 (mgt poly 0 0), .slice B6 r_4.length c7, .slice B3 values.length c4, .map (some g), .slice B3 values.length c4], 8⟩, ⟨B3, 61, (values1.flatMap enc_Affine), c4 * 2⟩, ⟨(some ⟨g, 0, none⟩), .mp (mpE (Value.int .i64) (Value.int .i64) poly), [], 0⟩, ⟨B6, 136, (r_4.flatMap enc_Term), c7 * 2⟩] [⟨B, (c.Gates.flatMap enc_Gate)⟩] := hS122
                          refine ⟨(ST.sel hS122 [0, 2] rfl rfl), ?_⟩
                          refine ra_done (by kernel_rfl) ?_
                          exact ⟨B6, c7, (FF.cons (hf2.get 2 0 rfl) (FF.cons (hf2.get 4 1 rfl) FF.nil)), (hS122.sel [0, 1, 4, 2, 3] rfl rfl)⟩
                        exact allR_nil
                      exact allR_nil
                    exact allR_nil
                  exact allR_nil
                exact allR_nil
              exact allR_nil
            exact allR_nil
          refine ra_y 65 (i := 16) (v := .slice B3 values.length c4) rfl rfl rfl (Y_load1 (B := some ⟨b2, 0, none⟩) (i := 7) (cs := [.int .i64 Ins, .int .i64 Vars, .int .i64 Root, .int .i64 Phase, .slice none 0 0, .slice none 0 0, .map (some g), .slice B3 values.length c4]) (v := .slice B3 values.length c4) k_sc_55 rfl rfl (hS30.cf (i := 1) rfl) rfl) (ST.sel hS30 [0, 3] rfl rfl) ?_ ?_
          · skip
            refine ra_all (rs := [6, 11]) (by kernel_rfl) rfl ?_
            refine ra_y 55 (i := 6) (v := .map (some g)) rfl rfl rfl (Y_load1 (B := some ⟨b2, 0, none⟩) (i := 6) (cs := [.int .i64 Ins, .int .i64 Vars, .int .i64 Root, .int .i64 Phase, .slice none 0 0, .slice none 0 0, .map (some g), .slice B3 values.length c4]) (v := .map (some g)) k_sc_105 rfl rfl (hS30.cf (i := 1) rfl) rfl) (ST.sel hS30 [0, 3] rfl rfl) ?_ ?_
            · skip
              refine ra_all (rs := [7, 11]) (by kernel_rfl) rfl ?_
              refine ra_y 56 (i := 7) (v := .int .i64 (mgt poly 0 0)) rfl rfl rfl (Y_mapGet (kE := (Value.int .i64)) (vE := (Value.int .i64)) (l := poly) (a := 0) (d := 0) (g := g) (i := 2) hS30 (keyInt k_int_3_i64) k_map_105_3_3 k_zero_3 rfl rfl rfl rfl) (ST.sel hS30 [0, 3] rfl rfl) ?_ ?_
              · skip
                refine ra_all (rs := [11]) (by kernel_rfl) rfl ?_
                refine ra_y 60 (i := 11) (v := .map (some g)) rfl rfl rfl (Y_load1 (B := some ⟨b2, 0, none⟩) (i := 6) (cs := [.int .i64 Ins, .int .i64 Vars, .int .i64 Root, .int .i64 Phase, .slice none 0 0, .slice none 0 0, .map (some g), .slice B3 values.length c4]) (v := .map (some g)) k_sc_105 rfl rfl (hS30.cf (i := 1) rfl) rfl) (ST.sel hS30 [0, 3] rfl rfl) ?_ ?_
                · skip
                  refine ra_all (rs := [12]) (by kernel_rfl) rfl ?_
                  refine ra_c 61 (i := 12) rfl rfl rfl (Yc_func (g := 68) (vs := [.map (some g)]) k_call_68 rfl (mc rfl mn) (c_impl_polynomial_terms poly g _  (hS30.inn [false, false, true, false] rfl [] rfl) hc2)) ?_ ?_
                  · rintro _ w_108 ⟨B6, c7, rfl, hd22⟩
                    have hS123 := hS30.out [false, false, true, false] rfl hd22
                    have hS123 : ST w0 [] _ [⟨some ⟨b1, 0, none⟩, 57, [.int .i64 0, .int .i64 0, .int .i64 0, .int .i64 0, .slice none 0 0, .slice none 0 0], 6⟩, ⟨some ⟨b2, 0, none⟩, 107, [.int .i64 Ins, .int .i64 Vars, .int .i64 Root, .int .i64 Phase, .slice none 0 0, .slice none 0 0, .map (some g), .slice B3 values.length c4], 8⟩, ⟨B3, 61, (values1.flatMap enc_Affine), c4 * 2⟩, ⟨(some ⟨g, 0, none⟩), .mp (mpE (Value.int .i64) (Value.int .i64) poly), [], 0⟩, ⟨B6, 136, (r_4.flatMap enc_Term), c7 * 2⟩] [⟨B, (c.Gates.flatMap enc_Gate)⟩] := hS123
                    refine ⟨(ST.sel hS123 [0, 2] rfl rfl), ?_⟩
                    refine ra_q 17 66 (v := pt (some ⟨b2, 0, none⟩) 0) rfl rfl rfl (by kernel_rfl) (by kernel_rfl) (by kernel_rfl) (ST.sel hS123 [0, 2] rfl rfl) (fun w' hw' => (Y_nilCheck (B := some ⟨b2, 0, none⟩) (i := 0) rfl rfl)) ?_
                    refine ra_q 18 67 (v := pt (some ⟨b2, 0, none⟩) 0) rfl rfl rfl (by kernel_rfl) (by kernel_rfl) (by kernel_rfl) (ST.sel hS123 [0, 2] rfl rfl) (fun w' hw' => (Y_fieldAddr (B := some ⟨b2, 0, none⟩) (i := 0) (s := 5) k_fd_107_0_0_57 k_sz_57_6 rfl rfl)) ?_
                    refine ra_q 19 68 (v := pt (some ⟨b2, 0, none⟩) 3) rfl rfl rfl (by kernel_rfl) (by kernel_rfl) (by kernel_rfl) (ST.sel hS123 [0, 2] rfl rfl) (fun w' hw' => (Y_fieldAddr (B := some ⟨b2, 0, none⟩) (i := 0) (s := 0) k_fd_57_3_3_3 k_sz_3_1 rfl rfl)) ?_
                    refine ra_all (rs := [20]) (by kernel_rfl) rfl ?_
                    refine ra_s0 (i := 20) rfl rfl rfl (Ys_store (i := 1) (s := 1) (B := some ⟨b2, 0, none⟩) (T' := 107) (v := .int .i64 (mgt poly 0 0)) (vs := [.int .i64 (mgt poly 0 0)]) (k := 3) (cs' := [.int .i64 Ins, .int .i64 Vars, .int .i64 Root, .int .i64 (mgt poly 0 0), .slice none 0 0, .slice none 0 0, .map (some g), .slice B3 values.length c4]) hS123 k_sz_3_1 rfl rfl rfl rfl rfl rfl rfl (Nat.le_of_ble_eq_true rfl) rfl rfl) ?_ ?_
                    · rintro _ w_109 ⟨rfl, hS124⟩
                      have hS124 : ST w0 [] _ [⟨some ⟨b1, 0, none⟩, 57, [.int .i64 0, .int .i64 0, .int .i64 0, .int .i64 0, .slice none 0 0, .slice none 0 0], 6⟩, ⟨some ⟨b2, 0, none⟩, 107, [.int .i64 Ins, .int .i64 Vars, .int .i64 Root, .int .i64 (mgt poly 0 0), .slice none 0 0, .slice none 0 0, .map (some g), .slice B3 values.length c4], 8⟩, ⟨B3, 61, (values1.flatMap enc_Affine), c4 * 2⟩, ⟨(some ⟨g, 0, none⟩), .mp (mpE (Value.int .i64) (Value.int .i64) poly), [], 0⟩, ⟨B6, 136, (r_4.flatMap enc_Term), c7 * 2⟩] [⟨B, (c.Gates.flatMap enc_Gate)⟩] := hS124
                      refine ⟨(ST.sel hS124 [0, 2] rfl rfl), ?_⟩
                      refine ra_q 21 69 (v := pt (some ⟨b2, 0, none⟩) 0) rfl rfl rfl (by kernel_rfl) (by kernel_rfl) (by kernel_rfl) (ST.sel hS124 [0, 2] rfl rfl) (fun w' hw' => (Y_nilCheck (B := some ⟨b2, 0, none⟩) (i := 0) rfl rfl)) ?_
                      refine ra_q 22 70 (v := pt (some ⟨b2, 0, none⟩) 0) rfl rfl rfl (by kernel_rfl) (by kernel_rfl) (by kernel_rfl) (ST.sel hS124 [0, 2] rfl rfl) (fun w' hw' => (Y_fieldAddr (B := some ⟨b2, 0, none⟩) (i := 0) (s := 5) k_fd_107_0_0_57 k_sz_57_6 rfl rfl)) ?_
                      refine ra_q 23 71 (v := pt (some ⟨b2, 0, none⟩) 4) rfl rfl rfl (by kernel_rfl) (by kernel_rfl) (by kernel_rfl) (ST.sel hS124 [0, 2] rfl rfl) (fun w' hw' => (Y_fieldAddr (B := some ⟨b2, 0, none⟩) (i := 0) (s := 0) k_fd_57_4_4_54 k_sz_54_1 rfl rfl)) ?_
                      refine ra_all (rs := [24]) (by kernel_rfl) rfl ?_
                      refine ra_s0 (i := 24) rfl rfl rfl (Ys_store (i := 1) (s := 1) (B := some ⟨b2, 0, none⟩) (T' := 107) (v := .slice B6 r_4.length c7) (vs := [.slice B6 r_4.length c7]) (k := 4) (cs' := [.int .i64 Ins, .int .i64 Vars, .int .i64 Root, .int .i64 (mgt poly 0 0), .slice B6 r_4.length c7, .slice none 0 0, .map (some g), .slice B3 values.length c4]) hS124 k_sz_54_1 rfl rfl rfl rfl rfl rfl rfl (Nat.le_of_ble_eq_true rfl) rfl rfl) ?_ ?_
                      · rintro _ w_110 ⟨rfl, hS125⟩
                        have hS125 : ST w0 [] _ [⟨some ⟨b1, 0, none⟩, 57, [.int .i64 0, .int .i64 0, .int .i64 0, .int .i64 0, .slice none 0 0, .slice none 0 0], 6⟩, ⟨some ⟨b2, 0, none⟩, 107, [.int .i64 Ins, .int .i64 Vars, .int .i64 Root, .int .i64 (mgt poly 0 0), .slice B6 r_4.length c7, .slice none 0 0, .map (some g), .slice B3 values.length c4], 8⟩, ⟨B3, 61, (values1.flatMap enc_Affine), c4 * 2⟩, ⟨(some ⟨g, 0, none⟩), .mp (mpE (Value.int .i64) (Value.int .i64) poly), [], 0⟩, ⟨B6, 136, (r_4.flatMap enc_Term), c7 * 2⟩] [⟨B, (c.Gates.flatMap enc_Gate)⟩] := hS125
                        refine ⟨(ST.sel hS125 [0, 2] rfl rfl), ?_⟩
                        refine ra_q 25 72 (v := pt (some ⟨b2, 0, none⟩) 0) rfl rfl rfl (by kernel_rfl) (by kernel_rfl) (by kernel_rfl) (ST.sel hS125 [0, 2] rfl rfl) (fun w' hw' => (Y_nilCheck (B := some ⟨b2, 0, none⟩) (i := 0) rfl rfl)) ?_
                        refine ra_q 26 73 (v := pt (some ⟨b2, 0, none⟩) 0) rfl rfl rfl (by kernel_rfl) (by kernel_rfl) (by kernel_rfl) (ST.sel hS125 [0, 2] rfl rfl) (fun w' hw' => (Y_fieldAddr (B := some ⟨b2, 0, none⟩) (i := 0) (s := 5) k_fd_107_0_0_57 k_sz_57_6 rfl rfl)) ?_
                        refine ra_q 27 74 (v := pt (some ⟨b2, 0, none⟩) 5) rfl rfl rfl (by kernel_rfl) (by kernel_rfl) (by kernel_rfl) (ST.sel hS125 [0, 2] rfl rfl) (fun w' hw' => (Y_fieldAddr (B := some ⟨b2, 0, none⟩) (i := 0) (s := 0) k_fd_57_5_5_55 k_sz_55_1 rfl rfl)) ?_
                        refine ra_all (rs := [28]) (by kernel_rfl) rfl ?_
                        refine ra_s0 (i := 28) rfl rfl rfl (Ys_store (i := 1) (s := 1) (B := some ⟨b2, 0, none⟩) (T' := 107) (v := .slice B3 values.length c4) (vs := [.slice B3 values.length c4]) (k := 5) (cs' := [.int .i64 Ins, .int .i64 Vars, .int .i64 Root, .int .i64 (mgt poly 0 0), .slice B6 r_4.length c7, .slice B3 values.length c4, .map (some g), .slice B3 values.length c4]) hS125 k_sz_55_1 rfl rfl rfl rfl rfl rfl rfl (Nat.le_of_ble_eq_true rfl) rfl rfl) ?_ ?_
                        · rintro _ w_111 ⟨rfl, hS126⟩
                          have hS126 : ST w0 [] _ [⟨some ⟨b1, 0, none⟩, 57, [.int .i64 0, .int .i64 0, .int .i64 0, .int .i64 0, .slice none 0 0, .slice none 0 0], 6⟩, ⟨some ⟨b2, 0, none⟩, 107, [.int .i64 Ins, .int .i64 Vars, .int .i64 Root, .int .i64 (mgt poly 0 0), .slice B6 r_4.length c7, .slice B3 values.length c4, .map (some g), .slice B3 values.length c4], 8⟩, ⟨B3, 61, (values1.flatMap enc_Affine), c4 * 2⟩, ⟨(some ⟨g, 0, none⟩), .mp (mpE (Value.int .i64) (Value.int .i64) poly), [], 0⟩, ⟨B6, 136, (r_4.flatMap enc_Term), c7 * 2⟩] [⟨B, (c.Gates.flatMap enc_Gate)⟩] := hS126
                          refine ⟨(ST.sel hS126 [0, 2] rfl rfl), ?_⟩
                          refine ra_done (by kernel_rfl) ?_
                          exact ⟨B6, c7, (FF.cons (hf2.get 2 0 rfl) (FF.cons (hf2.get 4 1 rfl) FF.nil)), (hS126.sel [0, 1, 4, 2, 3] rfl rfl)⟩
                        exact allR_nil
                      exact allR_nil
                    exact allR_nil
                  exact allR_nil
                exact allR_nil
              refine ra_y 60 (i := 11) (v := .map (some g)) rfl rfl rfl (Y_load1 (B := some ⟨b2, 0, none⟩) (i := 6) (cs := [.int .i64 Ins, .int .i64 Vars, .int .i64 Root, .int .i64 Phase, .slice none 0 0, .slice none 0 0, .map (some g), .slice B3 values.length c4]) (v := .map (some g)) k_sc_105 rfl rfl (hS30.cf (i := 1) rfl) rfl) (ST.sel hS30 [0, 3] rfl rfl) ?_ ?_
              · skip
                refine ra_all (rs := [7, 12]) (by kernel_rfl) rfl ?_
                refine ra_y 56 (i := 7) (v := .int .i64 (mgt poly 0 0)) rfl rfl rfl (Y_mapGet (kE := (Value.int .i64)) (vE := (Value.int .i64)) (l := poly) (a := 0) (d := 0) (g := g) (i := 2) hS30 (keyInt k_int_3_i64) k_map_105_3_3 k_zero_3 rfl rfl rfl rfl) (ST.sel hS30 [0, 3] rfl rfl) ?_ ?_
                · skip
                  refine ra_all (rs := [12]) (by kernel_rfl) rfl ?_
                  refine ra_c 61 (i := 12) rfl rfl rfl (Yc_func (g := 68) (vs := [.map (some g)]) k_call_68 rfl (mc rfl mn) (c_impl_polynomial_terms poly g _  (hS30.inn [false, false, true, false] rfl [] rfl) hc2)) ?_ ?_
                  · rintro _ w_112 ⟨B6, c7, rfl, hd23⟩
                    have hS127 := hS30.out [false, false, true, false] rfl hd23
                    have hS127 : ST w0 [] _ [⟨some ⟨b1, 0, none⟩, 57, [.int .i64 0, .int .i64 0, .int .i64 0, .int .i64 0, .slice none 0 0, .slice none 0 0], 6⟩, ⟨some ⟨b2, 0, none⟩, 107, [.int .i64 Ins, .int .i64 Vars, .int .i64 Root, .int .i64 Phase, .slice none 0 0, .slice none 0 0, .map (some g), .slice B3 values.length c4], 8⟩, ⟨B3, 61, (values1.flatMap enc_Affine), c4 * 2⟩, ⟨(some ⟨g, 0, none⟩), .mp (mpE (Value.int .i64) (Value.int .i64) poly), [], 0⟩, ⟨B6, 136, (r_4.flatMap enc_Term), c7 * 2⟩] [⟨B, (c.Gates.flatMap enc_Gate)⟩] := hS127
                    refine ⟨(ST.sel hS127 [0, 2] rfl rfl), ?_⟩
                    refine ra_q 17 66 (v := pt (some ⟨b2, 0, none⟩) 0) rfl rfl rfl (by kernel_rfl) (by kernel_rfl) (by kernel_rfl) (ST.sel hS127 [0, 2] rfl rfl) (fun w' hw' => (Y_nilCheck (B := some ⟨b2, 0, none⟩) (i := 0) rfl rfl)) ?_
                    refine ra_q 18 67 (v := pt (some ⟨b2, 0, none⟩) 0) rfl rfl rfl (by kernel_rfl) (by kernel_rfl) (by kernel_rfl) (ST.sel hS127 [0, 2] rfl rfl) (fun w' hw' => (Y_fieldAddr (B := some ⟨b2, 0, none⟩) (i := 0) (s := 5) k_fd_107_0_0_57 k_sz_57_6 rfl rfl)) ?_
                    refine ra_q 19 68 (v := pt (some ⟨b2, 0, none⟩) 3) rfl rfl rfl (by kernel_rfl) (by kernel_rfl) (by kernel_rfl) (ST.sel hS127 [0, 2] rfl rfl) (fun w' hw' => (Y_fieldAddr (B := some ⟨b2, 0, none⟩) (i := 0) (s := 0) k_fd_57_3_3_3 k_sz_3_1 rfl rfl)) ?_
                    refine ra_all (rs := [20]) (by kernel_rfl) rfl ?_
                    refine ra_s0 (i := 20) rfl rfl rfl (Ys_store (i := 1) (s := 1) (B := some ⟨b2, 0, none⟩) (T' := 107) (v := .int .i64 (mgt poly 0 0)) (vs := [.int .i64 (mgt poly 0 0)]) (k := 3) (cs' := [.int .i64 Ins, .int .i64 Vars, .int .i64 Root, .int .i64 (mgt poly 0 0), .slice none 0 0, .slice none 0 0, .map (some g), .slice B3 values.length c4]) hS127 k_sz_3_1 rfl rfl rfl rfl rfl rfl rfl (Nat.le_of_ble_eq_true rfl) rfl rfl) ?_ ?_
                    · rintro _ w_113 ⟨rfl, hS128⟩
                      have hS128 : ST w0 [] _ [⟨some ⟨b1, 0, none⟩, 57, [.int .i64 0, .int .i64 0, .int .i64 0, .int .i64 0, .slice none 0 0, .slice none 0 0], 6⟩, ⟨some ⟨b2, 0, none⟩, 107, [.int .i64 Ins, .int .i64 Vars, .int .i64 Root, .int .i64 (mgt poly 0 0), .slice none 0 0, .slice none 0 0, .map (some g), .slice B3 values.length c4], 8⟩, ⟨B3, 61, (values1.flatMap enc_Affine), c4 * 2⟩, ⟨(some ⟨g, 0, none⟩), .mp (mpE (Value.int .i64) (Value.int .i64) poly), [], 0⟩, ⟨B6, 136, (r_4.flatMap enc_Term), c7 * 2⟩] [⟨B, (c.Gates.flatMap enc_Gate)⟩] := hS128
                      refine ⟨(ST.sel hS128 [0, 2] rfl rfl), ?_⟩
                      refine ra_q 21 69 (v := pt (some ⟨b2, 0, none⟩) 0) rfl rfl rfl (by kernel_rfl) (by kernel_rfl) (by kernel_rfl) (ST.sel hS128 [0, 2] rfl rfl) (fun w' hw' => (Y_nilCheck (B := some ⟨b2, 0, none⟩) (i := 0) rfl rfl)) ?_
                      refine ra_q 22 70 (v := pt (some ⟨b2, 0, none⟩) 0) rfl rfl rfl (by kernel_rfl) (by kernel_rfl) (by kernel_rfl) (ST.sel hS128 [0, 2] rfl rfl) (fun w' hw' => (Y_fieldAddr (B := some ⟨b2, 0, none⟩) (i := 0) (s := 5) k_fd_107_0_0_57 k_sz_57_6 rfl rfl)) ?_
                      refine ra_q 23 71 (v := pt (some ⟨b2, 0, none⟩) 4) rfl rfl rfl (by kernel_rfl) (by kernel_rfl) (by kernel_rfl) (ST.sel hS128 [0, 2] rfl rfl) (fun w' hw' => (Y_fieldAddr (B := some ⟨b2, 0, none⟩) (i := 0) (s := 0) k_fd_57_4_4_54 k_sz_54_1 rfl rfl)) ?_
                      refine ra_all (rs := [24]) (by kernel_rfl) rfl ?_
                      refine ra_s0 (i := 24) rfl rfl rfl (Ys_store (i := 1) (s := 1) (B := some ⟨b2, 0, none⟩) (T' := 107) (v := .slice B6 r_4.length c7) (vs := [.slice B6 r_4.length c7]) (k := 4) (cs' := [.int .i64 Ins, .int .i64 Vars, .int .i64 Root, .int .i64 (mgt poly 0 0), .slice B6 r_4.length c7, .slice none 0 0, .map (some g), .slice B3 values.length c4]) hS128 k_sz_54_1 rfl rfl rfl rfl rfl rfl rfl (Nat.le_of_ble_eq_true rfl) rfl rfl) ?_ ?_
                      · rintro _ w_114 ⟨rfl, hS129⟩
                        have hS129 : ST w0 [] _ [⟨some ⟨b1, 0, none⟩, 57, [.int .i64 0, .int .i64 0, .int .i64 0, .int .i64 0, .slice none 0 0, .slice none 0 0], 6⟩, ⟨some ⟨b2, 0, none⟩, 107, [.int .i64 Ins, .int .i64 Vars, .int .i64 Root, .int .i64 (mgt poly 0 0), .slice B6 r_4.length c7, .slice none 0 0, .map (some g), .slice B3 values.length c4], 8⟩, ⟨B3, 61, (values1.flatMap enc_Affine), c4 * 2⟩, ⟨(some ⟨g, 0, none⟩), .mp (mpE (Value.int .i64) (Value.int .i64) poly), [], 0⟩, ⟨B6, 136, (r_4.flatMap enc_Term), c7 * 2⟩] [⟨B, (c.Gates.flatMap enc_Gate)⟩] := hS129
                        refine ⟨(ST.sel hS129 [0, 2] rfl rfl), ?_⟩
                        refine ra_q 25 72 (v := pt (some ⟨b2, 0, none⟩) 0) rfl rfl rfl (by kernel_rfl) (by kernel_rfl) (by kernel_rfl) (ST.sel hS129 [0, 2] rfl rfl) (fun w' hw' => (Y_nilCheck (B := some ⟨b2, 0, none⟩) (i := 0) rfl rfl)) ?_
                        refine ra_q 26 73 (v := pt (some ⟨b2, 0, none⟩) 0) rfl rfl rfl (by kernel_rfl) (by kernel_rfl) (by kernel_rfl) (ST.sel hS129 [0, 2] rfl rfl) (fun w' hw' => (Y_fieldAddr (B := some ⟨b2, 0, none⟩) (i := 0) (s := 5) k_fd_107_0_0_57 k_sz_57_6 rfl rfl)) ?_
                        refine ra_q 27 74 (v := pt (some ⟨b2, 0, none⟩) 5) rfl rfl rfl (by kernel_rfl) (by kernel_rfl) (by kernel_rfl) (ST.sel hS129 [0, 2] rfl rfl) (fun w' hw' => (Y_fieldAddr (B := some ⟨b2, 0, none⟩) (i := 0) (s := 0) k_fd_57_5_5_55 k_sz_55_1 rfl rfl)) ?_
                        refine ra_all (rs := [28]) (by kernel_rfl) rfl ?_
                        refine ra_s0 (i := 28) rfl rfl rfl (Ys_store (i := 1) (s := 1) (B := some ⟨b2, 0, none⟩) (T' := 107) (v := .slice B3 values.length c4) (vs := [.slice B3 values.length c4]) (k := 5) (cs' := [.int .i64 Ins, .int .i64 Vars, .int .i64 Root, .int .i64 (mgt poly 0 0), .slice B6 r_4.length c7, .slice B3 values.length c4, .map (some g), .slice B3 values.length c4]) hS129 k_sz_55_1 rfl rfl rfl rfl rfl rfl rfl (Nat.le_of_ble_eq_true rfl) rfl rfl) ?_ ?_
                        · rintro _ w_115 ⟨rfl, hS130⟩
                          have hS130 : ST w0 [] _ [⟨some ⟨b1, 0, none⟩, 57, [.int .i64 0, .int .i64 0, .int .i64 0, .int .i64 0, .slice none 0 0, .slice none 0 0], 6⟩, ⟨some ⟨b2, 0, none⟩, 107, [.int .i64 Ins, .int .i64 Vars, .int .i64 Root, .int .i64 (mgt poly 0 0), .slice B6 r_4.length c7, .slice B3 values.length c4, .map (some g), .slice B3 values.length c4], 8⟩, ⟨B3, 61, (values1.flatMap enc_Affine), c4 * 2⟩, ⟨(some ⟨g, 0, none⟩), .mp (mpE (Value.int .i64) (Value.int .i64) poly), [], 0⟩, ⟨B6, 136, (r_4.flatMap enc_Term), c7 * 2⟩] [⟨B, (c.Gates.flatMap enc_Gate)⟩] := hS130
                          refine ⟨(ST.sel hS130 [0, 2] rfl rfl), ?_⟩
                          refine ra_done (by kernel_rfl) ?_
                          exact ⟨B6, c7, (FF.cons (hf2.get 2 0 rfl) (FF.cons (hf2.get 4 1 rfl) FF.nil)), (hS130.sel [0, 1, 4, 2, 3] rfl rfl)⟩
                        exact allR_nil
                      exact allR_nil
                    exact allR_nil
                  exact allR_nil
                refine ra_c 61 (i := 12) rfl rfl rfl (Yc_func (g := 68) (vs := [.map (some g)]) k_call_68 rfl (mc rfl mn) (c_impl_polynomial_terms poly g _  (hS30.inn [false, false, true, false] rfl [] rfl) hc2)) ?_ ?_
                · rintro _ w_116 ⟨B6, c7, rfl, hd24⟩
                  have hS131 := hS30.out [false, false, true, false] rfl hd24
                  have hS131 : ST w0 [] _ [⟨some ⟨b1, 0, none⟩, 57, [.int .i64 0, .int .i64 0, .int .i64 0, .int .i64 0, .slice none 0 0, .slice none 0 0], 6⟩, ⟨some ⟨b2, 0, none⟩, 107, [.int .i64 Ins, .int .i64 Vars, .int .i64 Root, .int .i64 Phase, .slice none 0 0, .slice none 0 0, .map (some g), .slice B3 values.length c4], 8⟩, ⟨B3, 61, (values1.flatMap enc_Affine), c4 * 2⟩, ⟨(some ⟨g, 0, none⟩), .mp (mpE (Value.int .i64) (Value.int .i64) poly), [], 0⟩, ⟨B6, 136, (r_4.flatMap enc_Term), c7 * 2⟩] [⟨B, (c.Gates.flatMap enc_Gate)⟩] := hS131
                  refine ⟨(ST.sel hS131 [0, 2] rfl rfl), ?_⟩
                  refine ra_all (rs := [7]) (by kernel_rfl) rfl ?_
                  refine ra_y 56 (i := 7) (v := .int .i64 (mgt poly 0 0)) rfl rfl rfl (Y_mapGet (kE := (Value.int .i64)) (vE := (Value.int .i64)) (l := poly) (a := 0) (d := 0) (g := g) (i := 3) hS131 (keyInt k_int_3_i64) k_map_105_3_3 k_zero_3 rfl rfl rfl rfl) (ST.sel hS131 [0, 2] rfl rfl) ?_ ?_
                  · skip
                    refine ra_q 17 66 (v := pt (some ⟨b2, 0, none⟩) 0) rfl rfl rfl (by kernel_rfl) (by kernel_rfl) (by kernel_rfl) (ST.sel hS131 [0, 2] rfl rfl) (fun w' hw' => (Y_nilCheck (B := some ⟨b2, 0, none⟩) (i := 0) rfl rfl)) ?_
                    refine ra_q 18 67 (v := pt (some ⟨b2, 0, none⟩) 0) rfl rfl rfl (by kernel_rfl) (by kernel_rfl) (by kernel_rfl) (ST.sel hS131 [0, 2] rfl rfl) (fun w' hw' => (Y_fieldAddr (B := some ⟨b2, 0, none⟩) (i := 0) (s := 5) k_fd_107_0_0_57 k_sz_57_6 rfl rfl)) ?_
                    refine ra_q 19 68 (v := pt (some ⟨b2, 0, none⟩) 3) rfl rfl rfl (by kernel_rfl) (by kernel_rfl) (by kernel_rfl) (ST.sel hS131 [0, 2] rfl rfl) (fun w' hw' => (Y_fieldAddr (B := some ⟨b2, 0, none⟩) (i := 0) (s := 0) k_fd_57_3_3_3 k_sz_3_1 rfl rfl)) ?_
                    refine ra_all (rs := [20]) (by kernel_rfl) rfl ?_
                    refine ra_s0 (i := 20) rfl rfl rfl (Ys_store (i := 1) (s := 1) (B := some ⟨b2, 0, none⟩) (T' := 107) (v := .int .i64 (mgt poly 0 0)) (vs := [.int .i64 (mgt poly 0 0)]) (k := 3) (cs' := [.int .i64 Ins, .int .i64 Vars, .int .i64 Root, .int .i64 (mgt poly 0 0), .slice none 0 0, .slice none 0 0, .map (some g), .slice B3 values.length c4]) hS131 k_sz_3_1 rfl rfl rfl rfl rfl rfl rfl (Nat.le_of_ble_eq_true rfl) rfl rfl) ?_ ?_
                    · rintro _ w_117 ⟨rfl, hS132⟩
                      have hS132 : ST w0 [] _ [⟨some ⟨b1, 0, none⟩, 57, [.int .i64 0, .int .i64 0, .int .i64 0, .int .i64 0, .slice none 0 0, .slice none 0 0], 6⟩, ⟨some ⟨b2, 0, none⟩, 107, [.int .i64 Ins, .int .i64 Vars, .int .i64 Root, .int .i64 (mgt poly 0 0), .slice none 0 0, .slice none 0 0, .map (some g), .slice B3 values.length c4], 8⟩, ⟨B3, 61, (values1.flatMap enc_Affine), c4 * 2⟩, ⟨(some ⟨g, 0, none⟩), .mp (mpE (Value.int .i64) (Value.int .i64) poly), [], 0⟩, ⟨B6, 136, (r_4.flatMap enc_Term), c7 * 2⟩] [⟨B, (c.Gates.flatMap enc_Gate)⟩] := hS132
                      refine ⟨(ST.sel hS132 [0, 2] rfl rfl), ?_⟩
                      refine ra_q 21 69 (v := pt (some ⟨b2, 0, none⟩) 0) rfl rfl rfl (by kernel_rfl) (by kernel_rfl) (by kernel_rfl) (ST.sel hS132 [0, 2] rfl rfl) (fun w' hw' => (Y_nilCheck (B := some ⟨b2, 0, none⟩) (i := 0) rfl rfl)) ?_
                      refine ra_q 22 70 (v := pt (some ⟨b2, 0, none⟩) 0) rfl rfl rfl (by kernel_rfl) (by kernel_rfl) (by kernel_rfl) (ST.sel hS132 [0, 2] rfl rfl) (fun w' hw' => (Y_fieldAddr (B := some ⟨b2, 0, none⟩) (i := 0) (s := 5) k_fd_107_0_0_57 k_sz_57_6 rfl rfl)) ?_
                      refine ra_q 23 71 (v := pt (some ⟨b2, 0, none⟩) 4) rfl rfl rfl (by kernel_rfl) (by kernel_rfl) (by kernel_rfl) (ST.sel hS132 [0, 2] rfl rfl) (fun w' hw' => (Y_fieldAddr (B := some ⟨b2, 0, none⟩) (i := 0) (s := 0) k_fd_57_4_4_54 k_sz_54_1 rfl rfl)) ?_
                      refine ra_all (rs := [24]) (by kernel_rfl) rfl ?_
                      refine ra_s0 (i := 24) rfl rfl rfl (Ys_store (i := 1) (s := 1) (B := some ⟨b2, 0, none⟩) (T' := 107) (v := .slice B6 r_4.length c7) (vs := [.slice B6 r_4.length c7]) (k := 4) (cs' := [.int .i64 Ins, .int .i64 Vars, .int .i64 Root, .int .i64 (mgt poly 0 0), .slice B6 r_4.length c7, .slice none 0 0, .map (some g), .slice B3 values.length c4]) hS132 k_sz_54_1 rfl rfl rfl rfl rfl rfl rfl (Nat.le_of_ble_eq_true rfl) rfl rfl) ?_ ?_
                      · rintro _ w_118 ⟨rfl, hS133⟩
                        have hS133 : ST w0 [] _ [⟨some ⟨b1, 0, none⟩, 57, [.int .i64 0, .int .i64 0, .int .i64 0, .int .i64 0, .slice none 0 0, .slice none 0 0], 6⟩, ⟨some ⟨b2, 0, none⟩, 107, [.int .i64 Ins, .int .i64 Vars, .int .i64 Root, .int .i64 (mgt poly 0 0), .slice B6 r_4.length c7, .slice none 0 0, .map (some g), .slice B3 values.length c4], 8⟩, ⟨B3, 61, (values1.flatMap enc_Affine), c4 * 2⟩, ⟨(some ⟨g, 0, none⟩), .mp (mpE (Value.int .i64) (Value.int .i64) poly), [], 0⟩, ⟨B6, 136, (r_4.flatMap enc_Term), c7 * 2⟩] [⟨B, (c.Gates.flatMap enc_Gate)⟩] := hS133
                        refine ⟨(ST.sel hS133 [0, 2] rfl rfl), ?_⟩
                        refine ra_q 25 72 (v := pt (some ⟨b2, 0, none⟩) 0) rfl rfl rfl (by kernel_rfl) (by kernel_rfl) (by kernel_rfl) (ST.sel hS133 [0, 2] rfl rfl) (fun w' hw' => (Y_nilCheck (B := some ⟨b2, 0, none⟩) (i := 0) rfl rfl)) ?_
                        refine ra_q 26 73 (v := pt (some ⟨b2, 0, none⟩) 0) rfl rfl rfl (by kernel_rfl) (by kernel_rfl) (by kernel_rfl) (ST.sel hS133 [0, 2] rfl rfl) (fun w' hw' => (Y_fieldAddr (B := some ⟨b2, 0, none⟩) (i := 0) (s := 5) k_fd_107_0_0_57 k_sz_57_6 rfl rfl)) ?_
                        refine ra_q 27 74 (v := pt (some ⟨b2, 0, none⟩) 5) rfl rfl rfl (by kernel_rfl) (by kernel_rfl) (by kernel_rfl) (ST.sel hS133 [0, 2] rfl rfl) (fun w' hw' => (Y_fieldAddr (B := some ⟨b2, 0, none⟩) (i := 0) (s := 0) k_fd_57_5_5_55 k_sz_55_1 rfl rfl)) ?_
                        refine ra_all (rs := [28]) (by kernel_rfl) rfl ?_
                        refine ra_s0 (i := 28) rfl rfl rfl (Ys_store (i := 1) (s := 1) (B := some ⟨b2, 0, none⟩) (T' := 107) (v := .slice B3 values.length c4) (vs := [.slice B3 values.length c4]) (k := 5) (cs' := [.int .i64 Ins, .int .i64 Vars, .int .i64 Root, .int .i64 (mgt poly 0 0), .slice B6 r_4.length c7, .slice B3 values.length c4, .map (some g), .slice B3 values.length c4]) hS133 k_sz_55_1 rfl rfl rfl rfl rfl rfl rfl (Nat.le_of_ble_eq_true rfl) rfl rfl) ?_ ?_
                        · rintro _ w_119 ⟨rfl, hS134⟩
                          have hS134 : ST w0 [] _ [⟨some ⟨b1, 0, none⟩, 57, [.int .i64 0, .int .i64 0, .int .i64 0, .int .i64 0, .slice none 0 0, .slice none 0 0], 6⟩, ⟨some ⟨b2, 0, none⟩, 107, [.int .i64 Ins, .int .i64 Vars, .int .i64 Root, .int .i64 (mgt poly 0 0), .slice B6 r_4.length c7, .slice B3 values.length c4, .map (some g), .slice B3 values.length c4], 8⟩, ⟨B3, 61, (values1.flatMap enc_Affine), c4 * 2⟩, ⟨(some ⟨g, 0, none⟩), .mp (mpE (Value.int .i64) (Value.int .i64) poly), [], 0⟩, ⟨B6, 136, (r_4.flatMap enc_Term), c7 * 2⟩] [⟨B, (c.Gates.flatMap enc_Gate)⟩] := hS134
                          refine ⟨(ST.sel hS134 [0, 2] rfl rfl), ?_⟩
                          refine ra_done (by kernel_rfl) ?_
                          exact ⟨B6, c7, (FF.cons (hf2.get 2 0 rfl) (FF.cons (hf2.get 4 1 rfl) FF.nil)), (hS134.sel [0, 1, 4, 2, 3] rfl rfl)⟩
                        exact allR_nil
                      exact allR_nil
                    exact allR_nil
                  exact allR_nil
                exact allR_nil
              exact allR_nil
            refine ra_y 60 (i := 11) (v := .map (some g)) rfl rfl rfl (Y_load1 (B := some ⟨b2, 0, none⟩) (i := 6) (cs := [.int .i64 Ins, .int .i64 Vars, .int .i64 Root, .int .i64 Phase, .slice none 0 0, .slice none 0 0, .map (some g), .slice B3 values.length c4]) (v := .map (some g)) k_sc_105 rfl rfl (hS30.cf (i := 1) rfl) rfl) (ST.sel hS30 [0, 3] rfl rfl) ?_ ?_
            · skip
              refine ra_all (rs := [6, 12]) (by kernel_rfl) rfl ?_
              refine ra_y 55 (i := 6) (v := .map (some g)) rfl rfl rfl (Y_load1 (B := some ⟨b2, 0, none⟩) (i := 6) (cs := [.int .i64 Ins, .int .i64 Vars, .int .i64 Root, .int .i64 Phase, .slice none 0 0, .slice none 0 0, .map (some g), .slice B3 values.length c4]) (v := .map (some g)) k_sc_105 rfl rfl (hS30.cf (i := 1) rfl) rfl) (ST.sel hS30 [0, 3] rfl rfl) ?_ ?_
              · skip
                refine ra_all (rs := [7, 12]) (by kernel_rfl) rfl ?_
                refine ra_y 56 (i := 7) (v := .int .i64 (mgt poly 0 0)) rfl rfl rfl (Y_mapGet (kE := (Value.int .i64)) (vE := (Value.int .i64)) (l := poly) (a := 0) (d := 0) (g := g) (i := 2) hS30 (keyInt k_int_3_i64) k_map_105_3_3 k_zero_3 rfl rfl rfl rfl) (ST.sel hS30 [0, 3] rfl rfl) ?_ ?_
                · skip
                  refine ra_all (rs := [12]) (by kernel_rfl) rfl ?_
                  refine ra_c 61 (i := 12) rfl rfl rfl (Yc_func (g := 68) (vs := [.map (some g)]) k_call_68 rfl (mc rfl mn) (c_impl_polynomial_terms poly g _  (hS30.inn [false, false, true, false] rfl [] rfl) hc2)) ?_ ?_
                  · rintro _ w_120 ⟨B6, c7, rfl, hd25⟩
                    have hS135 := hS30.out [false, false, true, false] rfl hd25
                    have hS135 : ST w0 [] _ [⟨some ⟨b1, 0, none⟩, 57, [.int .i64 0, .int .i64 0, .int .i64 0, .int .i64 0, .slice none 0 0, .slice none 0 0], 6⟩, ⟨some ⟨b2, 0, none⟩, 107, [.int .i64 Ins, .int .i64 Vars, .int .i64 Root, .int .i64 Phase, .slice none 0 0, .slice none 0 0, .map (some g), .slice B3 values.length c4], 8⟩, ⟨B3, 61, (values1.flatMap enc_Affine), c4 * 2⟩, ⟨(some ⟨g, 0, none⟩), .mp (mpE (Value.int .i64) (Value.int .i64) poly), [], 0⟩, ⟨B6, 136, (r_4.flatMap enc_Term), c7 * 2⟩] [⟨B, (c.Gates.flatMap enc_Gate)⟩] := hS135
                    refine ⟨(ST.sel hS135 [0, 2] rfl rfl), ?_⟩
                    refine ra_q 17 66 (v := pt (some ⟨b2, 0, none⟩) 0) rfl rfl rfl (by kernel_rfl) (by kernel_rfl) (by kernel_rfl) (ST.sel hS135 [0, 2] rfl rfl) (fun w' hw' => (Y_nilCheck (B := some ⟨b2, 0, none⟩) (i := 0) rfl rfl)) ?_
                    refine ra_q 18 67 (v := pt (some ⟨b2, 0, none⟩) 0) rfl rfl rfl (by kernel_rfl) (by kernel_rfl) (by kernel_rfl) (ST.sel hS135 [0, 2] rfl rfl) (fun w' hw' => (Y_fieldAddr (B := some ⟨b2, 0, none⟩) (i := 0) (s := 5) k_fd_107_0_0_57 k_sz_57_6 rfl rfl)) ?_
                    refine ra_q 19 68 (v := pt (some ⟨b2, 0, none⟩) 3) rfl rfl rfl (by kernel_rfl) (by kernel_rfl) (by kernel_rfl) (ST.sel hS135 [0, 2] rfl rfl) (fun w' hw' => (Y_fieldAddr (B := some ⟨b2, 0, none⟩) (i := 0) (s := 0) k_fd_57_3_3_3 k_sz_3_1 rfl rfl)) ?_
                    refine ra_all (rs := [20]) (by kernel_rfl) rfl ?_
                    refine ra_s0 (i := 20) rfl rfl rfl (Ys_store (i := 1) (s := 1) (B := some ⟨b2, 0, none⟩) (T' := 107) (v := .int .i64 (mgt poly 0 0)) (vs := [.int .i64 (mgt poly 0 0)]) (k := 3) (cs' := [.int .i64 Ins, .int .i64 Vars, .int .i64 Root, .int .i64 (mgt poly 0 0), .slice none 0 0, .slice none 0 0, .map (some g), .slice B3 values.length c4]) hS135 k_sz_3_1 rfl rfl rfl rfl rfl rfl rfl (Nat.le_of_ble_eq_true rfl) rfl rfl) ?_ ?_
                    · rintro _ w_121 ⟨rfl, hS136⟩
                      have hS136 : ST w0 [] _ [⟨some ⟨b1, 0, none⟩, 57, [.int .i64 0, .int .i64 0, .int .i64 0, .int .i64 0, .slice none 0 0, .slice none 0 0], 6⟩, ⟨some ⟨b2, 0, none⟩, 107, [.int .i64 Ins, .int .i64 Vars, .int .i64 Root, .int .i64 (mgt poly 0 0), .slice none 0 0, .slice none 0 0, .map (some g), .slice B3 values.length c4], 8⟩, ⟨B3, 61, (values1.flatMap enc_Affine), c4 * 2⟩, ⟨(some ⟨g, 0, none⟩), .mp (mpE (Value.int .i64) (Value.int .i64) poly), [], 0⟩, ⟨B6, 136, (r_4.flatMap enc_Term), c7 * 2⟩] [⟨B, (c.Gates.flatMap enc_Gate)⟩] := hS136
                      refine ⟨(ST.sel hS136 [0, 2] rfl rfl), ?_⟩
                      refine ra_q 21 69 (v := pt (some ⟨b2, 0, none⟩) 0) rfl rfl rfl (by kernel_rfl) (by kernel_rfl) (by kernel_rfl) (ST.sel hS136 [0, 2] rfl rfl) (fun w' hw' => (Y_nilCheck (B := some ⟨b2, 0, none⟩) (i := 0) rfl rfl)) ?_
                      refine ra_q 22 70 (v := pt (some ⟨b2, 0, none⟩) 0) rfl rfl rfl (by kernel_rfl) (by kernel_rfl) (by kernel_rfl) (ST.sel hS136 [0, 2] rfl rfl) (fun w' hw' => (Y_fieldAddr (B := some ⟨b2, 0, none⟩) (i := 0) (s := 5) k_fd_107_0_0_57 k_sz_57_6 rfl rfl)) ?_
                      refine ra_q 23 71 (v := pt (some ⟨b2, 0, none⟩) 4) rfl rfl rfl (by kernel_rfl) (by kernel_rfl) (by kernel_rfl) (ST.sel hS136 [0, 2] rfl rfl) (fun w' hw' => (Y_fieldAddr (B := some ⟨b2, 0, none⟩) (i := 0) (s := 0) k_fd_57_4_4_54 k_sz_54_1 rfl rfl)) ?_
                      refine ra_all (rs := [24]) (by kernel_rfl) rfl ?_
                      refine ra_s0 (i := 24) rfl rfl rfl (Ys_store (i := 1) (s := 1) (B := some ⟨b2, 0, none⟩) (T' := 107) (v := .slice B6 r_4.length c7) (vs := [.slice B6 r_4.length c7]) (k := 4) (cs' := [.int .i64 Ins, .int .i64 Vars, .int .i64 Root, .int .i64 (mgt poly 0 0), .slice B6 r_4.length c7, .slice none 0 0, .map (some g), .slice B3 values.length c4]) hS136 k_sz_54_1 rfl rfl rfl rfl rfl rfl rfl (Nat.le_of_ble_eq_true rfl) rfl rfl) ?_ ?_
                      · rintro _ w_122 ⟨rfl, hS137⟩
                        have hS137 : ST w0 [] _ [⟨some ⟨b1, 0, none⟩, 57, [.int .i64 0, .int .i64 0, .int .i64 0, .int .i64 0, .slice none 0 0, .slice none 0 0], 6⟩, ⟨some ⟨b2, 0, none⟩, 107, [.int .i64 Ins, .int .i64 Vars, .int .i64 Root, .int .i64 (mgt poly 0 0), .slice B6 r_4.length c7, .slice none 0 0, .map (some g), .slice B3 values.length c4], 8⟩, ⟨B3, 61, (values1.flatMap enc_Affine), c4 * 2⟩, ⟨(some ⟨g, 0, none⟩), .mp (mpE (Value.int .i64) (Value.int .i64) poly), [], 0⟩, ⟨B6, 136, (r_4.flatMap enc_Term), c7 * 2⟩] [⟨B, (c.Gates.flatMap enc_Gate)⟩] := hS137
                        refine ⟨(ST.sel hS137 [0, 2] rfl rfl), ?_⟩
                        refine ra_q 25 72 (v := pt (some ⟨b2, 0, none⟩) 0) rfl rfl rfl (by kernel_rfl) (by kernel_rfl) (by kernel_rfl) (ST.sel hS137 [0, 2] rfl rfl) (fun w' hw' => (Y_nilCheck (B := some ⟨b2, 0, none⟩) (i := 0) rfl rfl)) ?_
                        refine ra_q 26 73 (v := pt (some ⟨b2, 0, none⟩) 0) rfl rfl rfl (by kernel_rfl) (by kernel_rfl) (by kernel_rfl) (ST.sel hS137 [0, 2] rfl rfl) (fun w' hw' => (Y_fieldAddr (B := some ⟨b2, 0, none⟩) (i := 0) (s := 5) k_fd_107_0_0_57 k_sz_57_6 rfl rfl)) ?_
                        refine ra_q 27 74 (v := pt (some ⟨b2, 0, none⟩) 5) rfl rfl rfl (by kernel_rfl) (by kernel_rfl) (by kernel_rfl) (ST.sel hS137 [0, 2] rfl rfl) (fun w' hw' => (Y_fieldAddr (B := some ⟨b2, 0, none⟩) (i := 0) (s := 0) k_fd_57_5_5_55 k_sz_55_1 rfl rfl)) ?_
                        refine ra_all (rs := [28]) (by kernel_rfl) rfl ?_
                        refine ra_s0 (i := 28) rfl rfl rfl (Ys_store (i := 1) (s := 1) (B := some ⟨b2, 0, none⟩) (T' := 107) (v := .slice B3 values.length c4) (vs := [.slice B3 values.length c4]) (k := 5) (cs' := [.int .i64 Ins, .int .i64 Vars, .int .i64 Root, .int .i64 (mgt poly 0 0), .slice B6 r_4.length c7, .slice B3 values.length c4, .map (some g), .slice B3 values.length c4]) hS137 k_sz_55_1 rfl rfl rfl rfl rfl rfl rfl (Nat.le_of_ble_eq_true rfl) rfl rfl) ?_ ?_
                        · rintro _ w_123 ⟨rfl, hS138⟩
                          have hS138 : ST w0 [] _ [⟨some ⟨b1, 0, none⟩, 57, [.int .i64 0, .int .i64 0, .int .i64 0, .int .i64 0, .slice none 0 0, .slice none 0 0], 6⟩, ⟨some ⟨b2, 0, none⟩, 107, [.int .i64 Ins, .int .i64 Vars, .int .i64 Root, .int .i64 (mgt poly 0 0), .slice B6 r_4.length c7, .slice B3 values.length c4, .map (some g), .slice B3 values.length c4], 8⟩, ⟨B3, 61, (values1.flatMap enc_Affine), c4 * 2⟩, ⟨(some ⟨g, 0, none⟩), .mp (mpE (Value.int .i64) (Value.int .i64) poly), [], 0⟩, ⟨B6, 136, (r_4.flatMap enc_Term), c7 * 2⟩] [⟨B, (c.Gates.flatMap enc_Gate)⟩] := hS138
                          refine ⟨(ST.sel hS138 [0, 2] rfl rfl), ?_⟩
                          refine ra_done (by kernel_rfl) ?_
                          exact ⟨B6, c7, (FF.cons (hf2.get 2 0 rfl) (FF.cons (hf2.get 4 1 rfl) FF.nil)), (hS138.sel [0, 1, 4, 2, 3] rfl rfl)⟩
                        exact allR_nil
                      exact allR_nil
                    exact allR_nil
                  exact allR_nil
                refine ra_c 61 (i := 12) rfl rfl rfl (Yc_func (g := 68) (vs := [.map (some g)]) k_call_68 rfl (mc rfl mn) (c_impl_polynomial_terms poly g _  (hS30.inn [false, false, true, false] rfl [] rfl) hc2)) ?_ ?_
                · rintro _ w_124 ⟨B6, c7, rfl, hd26⟩
                  have hS139 := hS30.out [false, false, true, false] rfl hd26
                  have hS139 : ST w0 [] _ [⟨some ⟨b1, 0, none⟩, 57, [.int .i64 0, .int .i64 0, .int .i64 0, .int .i64 0, .slice none 0 0, .slice none 0 0], 6⟩, ⟨some ⟨b2, 0, none⟩, 107, [.int .i64 Ins, .int .i64 Vars, .int .i64 Root, .int .i64 Phase, .slice none 0 0, .slice none 0 0, .map (some g), .slice B3 values.length c4], 8⟩, ⟨B3, 61, (values1.flatMap enc_Affine), c4 * 2⟩, ⟨(some ⟨g, 0, none⟩), .mp (mpE (Value.int .i64) (Value.int .i64) poly), [], 0⟩, ⟨B6, 136, (r_4.flatMap enc_Term), c7 * 2⟩] [⟨B, (c.Gates.flatMap enc_Gate)⟩] := hS139
                  refine ⟨(ST.sel hS139 [0, 2] rfl rfl), ?_⟩
                  refine ra_all (rs := [7]) (by kernel_rfl) rfl ?_
                  refine ra_y 56 (i := 7) (v := .int .i64 (mgt poly 0 0)) rfl rfl rfl (Y_mapGet (kE := (Value.int .i64)) (vE := (Value.int .i64)) (l := poly) (a := 0) (d := 0) (g := g) (i := 3) hS139 (keyInt k_int_3_i64) k_map_105_3_3 k_zero_3 rfl rfl rfl rfl) (ST.sel hS139 [0, 2] rfl rfl) ?_ ?_
                  · skip
                    refine ra_q 17 66 (v := pt (some ⟨b2, 0, none⟩) 0) rfl rfl rfl (by kernel_rfl) (by kernel_rfl) (by kernel_rfl) (ST.sel hS139 [0, 2] rfl rfl) (fun w' hw' => (Y_nilCheck (B := some ⟨b2, 0, none⟩) (i := 0) rfl rfl)) ?_
                    refine ra_q 18 67 (v := pt (some ⟨b2, 0, none⟩) 0) rfl rfl rfl (by kernel_rfl) (by kernel_rfl) (by kernel_rfl) (ST.sel hS139 [0, 2] rfl rfl) (fun w' hw' => (Y_fieldAddr (B := some ⟨b2, 0, none⟩) (i := 0) (s := 5) k_fd_107_0_0_57 k_sz_57_6 rfl rfl)) ?_
                    refine ra_q 19 68 (v := pt (some ⟨b2, 0, none⟩) 3) rfl rfl rfl (by kernel_rfl) (by kernel_rfl) (by kernel_rfl) (ST.sel hS139 [0, 2] rfl rfl) (fun w' hw' => (Y_fieldAddr (B := some ⟨b2, 0, none⟩) (i := 0) (s := 0) k_fd_57_3_3_3 k_sz_3_1 rfl rfl)) ?_
                    refine ra_all (rs := [20]) (by kernel_rfl) rfl ?_
                    refine ra_s0 (i := 20) rfl rfl rfl (Ys_store (i := 1) (s := 1) (B := some ⟨b2, 0, none⟩) (T' := 107) (v := .int .i64 (mgt poly 0 0)) (vs := [.int .i64 (mgt poly 0 0)]) (k := 3) (cs' := [.int .i64 Ins, .int .i64 Vars, .int .i64 Root, .int .i64 (mgt poly 0 0), .slice none 0 0, .slice none 0 0, .map (some g), .slice B3 values.length c4]) hS139 k_sz_3_1 rfl rfl rfl rfl rfl rfl rfl (Nat.le_of_ble_eq_true rfl) rfl rfl) ?_ ?_
                    · rintro _ w_125 ⟨rfl, hS140⟩
                      have hS140 : ST w0 [] _ [⟨some ⟨b1, 0, none⟩, 57, [.int .i64 0, .int .i64 0, .int .i64 0, .int .i64 0, .slice none 0 0, .slice none 0 0], 6⟩, ⟨some ⟨b2, 0, none⟩, 107, [.int .i64 Ins, .int .i64 Vars, .int .i64 Root, .int .i64 (mgt poly 0 0), .slice none 0 0, .slice none 0 0, .map (some g), .slice B3 values.length c4], 8⟩, ⟨B3, 61, (values1.flatMap enc_Affine), c4 * 2⟩, ⟨(some ⟨g, 0, none⟩), .mp (mpE (Value.int .i64) (Value.int .i64) poly), [], 0⟩, ⟨B6, 136, (r_4.flatMap enc_Term), c7 * 2⟩] [⟨B, (c.Gates.flatMap enc_Gate)⟩] := hS140
                      refine ⟨(ST.sel hS140 [0, 2] rfl rfl), ?_⟩
                      refine ra_q 21 69 (v := pt (some ⟨b2, 0, none⟩) 0) rfl rfl rfl (by kernel_rfl) (by kernel_rfl) (by kernel_rfl) (ST.sel hS140 [0, 2] rfl rfl) (fun w' hw' => (Y_nilCheck (B := some ⟨b2, 0, none⟩) (i := 0) rfl rfl)) ?_
                      refine ra_q 22 70 (v := pt (some ⟨b2, 0, none⟩) 0) rfl rfl rfl (by kernel_rfl) (by kernel_rfl) (by kernel_rfl) (ST.sel hS140 [0, 2] rfl rfl) (fun w' hw' => (Y_fieldAddr (B := some ⟨b2, 0, none⟩) (i := 0) (s := 5) k_fd_107_0_0_57 k_sz_57_6 rfl rfl)) ?_
                      refine ra_q 23 71 (v := pt (some ⟨b2, 0, none⟩) 4) rfl rfl rfl (by kernel_rfl) (by kernel_rfl) (by kernel_rfl) (ST.sel hS140 [0, 2] rfl rfl) (fun w' hw' => (Y_fieldAddr (B := some ⟨b2, 0, none⟩) (i := 0) (s := 0) k_fd_57_4_4_54 k_sz_54_1 rfl rfl)) ?_
                      refine ra_all (rs := [24]) (by kernel_rfl) rfl ?_
                      refine ra_s0 (i := 24) rfl rfl rfl (Ys_store (i := 1) (s := 1) (B := some ⟨b2, 0, none⟩) (T' := 107) (v := .slice B6 r_4.length c7) (vs := [.slice B6 r_4.length c7]) (k := 4) (cs' := [.int .i64 Ins, .int .i64 Vars, .int .i64 Root, .int .i64 (mgt poly 0 0), .slice B6 r_4.length c7, .slice none 0 0, .map (some g), .slice B3 values.length c4]) hS140 k_sz_54_1 rfl rfl rfl rfl rfl rfl rfl (Nat.le_of_ble_eq_true rfl) rfl rfl) ?_ ?_
                      · rintro _ w_126 ⟨rfl, hS141⟩
                        have hS141 : ST w0 [] _ [⟨some ⟨b1, 0, none⟩, 57, [.int .i64 0, .int .i64 0, .int .i64 0, .int .i64 0, .slice none 0 0, .slice none 0 0], 6⟩, ⟨some ⟨b2, 0, none⟩, 107, [.int .i64 Ins, .int .i64 Vars, .int .i64 Root, .int .i64 (mgt poly 0 0), .slice B6 r_4.length c7, .slice none 0 0, .map (some g), .slice B3 values.length c4], 8⟩, ⟨B3, 61, (values1.flatMap enc_Affine), c4 * 2⟩, ⟨(some ⟨g, 0, none⟩), .mp (mpE (Value.int .i64) (Value.int .i64) poly), [], 0⟩, ⟨B6, 136, (r_4.flatMap enc_Term), c7 * 2⟩] [⟨B, (c.Gates.flatMap enc_Gate)⟩] := hS141
                        refine ⟨(ST.sel hS141 [0, 2] rfl rfl), ?_⟩
                        refine ra_q 25 72 (v := pt (some ⟨b2, 0, none⟩) 0) rfl rfl rfl (by kernel_rfl) (by kernel_rfl) (by kernel_rfl) (ST.sel hS141 [0, 2] rfl rfl) (fun w' hw' => (Y_nilCheck (B := some ⟨b2, 0, none⟩) (i := 0) rfl rfl)) ?_
                        refine ra_q 26 73 (v := pt (some ⟨b2, 0, none⟩) 0) rfl rfl rfl (by kernel_rfl) (by kernel_rfl) (by kernel_rfl) (ST.sel hS141 [0, 2] rfl rfl) (fun w' hw' => (Y_fieldAddr (B := some ⟨b2, 0, none⟩) (i := 0) (s := 5) k_fd_107_0_0_57 k_sz_57_6 rfl rfl)) ?_
                        refine ra_q 27 74 (v := pt (some ⟨b2, 0, none⟩) 5) rfl rfl rfl (by kernel_rfl) (by kernel_rfl) (by kernel_rfl) (ST.sel hS141 [0, 2] rfl rfl) (fun w' hw' => (Y_fieldAddr (B := some ⟨b2, 0, none⟩) (i := 0) (s := 0) k_fd_57_5_5_55 k_sz_55_1 rfl rfl)) ?_
                        refine ra_all (rs := [28]) (by kernel_rfl) rfl ?_
                        refine ra_s0 (i := 28) rfl rfl rfl (Ys_store (i := 1) (s := 1) (B := some ⟨b2, 0, none⟩) (T' := 107) (v := .slice B3 values.length c4) (vs := [.slice B3 values.length c4]) (k := 5) (cs' := [.int .i64 Ins, .int .i64 Vars, .int .i64 Root, .int .i64 (mgt poly 0 0), .slice B6 r_4.length c7, .slice B3 values.length c4, .map (some g), .slice B3 values.length c4]) hS141 k_sz_55_1 rfl rfl rfl rfl rfl rfl rfl (Nat.le_of_ble_eq_true rfl) rfl rfl) ?_ ?_
                        · rintro _ w_127 ⟨rfl, hS142⟩
                          have hS142 : ST w0 [] _ [⟨some ⟨b1, 0, none⟩, 57, [.int .i64 0, .int .i64 0, .int .i64 0, .int .i64 0, .slice none 0 0, .slice none 0 0], 6⟩, ⟨some ⟨b2, 0, none⟩, 107, [.int .i64 Ins, .int .i64 Vars, .int .i64 Root, .int .i64 (mgt poly 0 0), .slice B6 r_4.length c7, .slice B3 values.length c4, .map (some g), .slice B3 values.length c4], 8⟩, ⟨B3, 61, (values1.flatMap enc_Affine), c4 * 2⟩, ⟨(some ⟨g, 0, none⟩), .mp (mpE (Value.int .i64) (Value.int .i64) poly), [], 0⟩, ⟨B6, 136, (r_4.flatMap enc_Term), c7 * 2⟩] [⟨B, (c.Gates.flatMap enc_Gate)⟩] := hS142
                          refine ⟨(ST.sel hS142 [0, 2] rfl rfl), ?_⟩
                          refine ra_done (by kernel_rfl) ?_
                          exact ⟨B6, c7, (FF.cons (hf2.get 2 0 rfl) (FF.cons (hf2.get 4 1 rfl) FF.nil)), (hS142.sel [0, 1, 4, 2, 3] rfl rfl)⟩
                        exact allR_nil
                      exact allR_nil
                    exact allR_nil
                  exact allR_nil
                exact allR_nil
              refine ra_c 61 (i := 12) rfl rfl rfl (Yc_func (g := 68) (vs := [.map (some g)]) k_call_68 rfl (mc rfl mn) (c_impl_polynomial_terms poly g _  (hS30.inn [false, false, true, false] rfl [] rfl) hc2)) ?_ ?_
              · rintro _ w_128 ⟨B6, c7, rfl, hd27⟩
                have hS143 := hS30.out [false, false, true, false] rfl hd27
                have hS143 : ST w0 [] _ [⟨some ⟨b1, 0, none⟩, 57, [.int .i64 0, .int .i64 0, .int .i64 0, .int .i64 0, .slice none 0 0, .slice none 0 0], 6⟩, ⟨some ⟨b2, 0, none⟩, 107, [.int .i64 Ins, .int .i64 Vars, .int .i64 Root, .int .i64 Phase, .slice none 0 0, .slice none 0 0, .map (some g), .slice B3 values.length c4], 8⟩, ⟨B3, 61, (values1.flatMap enc_Affine), c4 * 2⟩, ⟨(some ⟨g, 0, none⟩), .mp (mpE (Value.int .i64) (Value.int .i64) poly), [], 0⟩, ⟨B6, 136, (r_4.flatMap enc_Term), c7 * 2⟩] [⟨B, (c.Gates.flatMap enc_Gate)⟩] := hS143
                refine ⟨(ST.sel hS143 [0, 2] rfl rfl), ?_⟩
                refine ra_all (rs := [6]) (by kernel_rfl) rfl ?_
                refine ra_y 55 (i := 6) (v := .map (some g)) rfl rfl rfl (Y_load1 (B := some ⟨b2, 0, none⟩) (i := 6) (cs := [.int .i64 Ins, .int .i64 Vars, .int .i64 Root, .int .i64 Phase, .slice none 0 0, .slice none 0 0, .map (some g), .slice B3 values.length c4]) (v := .map (some g)) k_sc_105 rfl rfl (hS143.cf (i := 1) rfl) rfl) (ST.sel hS143 [0, 2] rfl rfl) ?_ ?_
                · skip
                  refine ra_all (rs := [7]) (by kernel_rfl) rfl ?_
                  refine ra_y 56 (i := 7) (v := .int .i64 (mgt poly 0 0)) rfl rfl rfl (Y_mapGet (kE := (Value.int .i64)) (vE := (Value.int .i64)) (l := poly) (a := 0) (d := 0) (g := g) (i := 3) hS143 (keyInt k_int_3_i64) k_map_105_3_3 k_zero_3 rfl rfl rfl rfl) (ST.sel hS143 [0, 2] rfl rfl) ?_ ?_
                  · skip
                    refine ra_q 17 66 (v := pt (some ⟨b2, 0, none⟩) 0) rfl rfl rfl (by kernel_rfl) (by kernel_rfl) (by kernel_rfl) (ST.sel hS143 [0, 2] rfl rfl) (fun w' hw' => (Y_nilCheck (B := some ⟨b2, 0, none⟩) (i := 0) rfl rfl)) ?_
                    refine ra_q 18 67 (v := pt (some ⟨b2, 0, none⟩) 0) rfl rfl rfl (by kernel_rfl) (by kernel_rfl) (by kernel_rfl) (ST.sel hS143 [0, 2] rfl rfl) (fun w' hw' => (Y_fieldAddr (B := some ⟨b2, 0, none⟩) (i := 0) (s := 5) k_fd_107_0_0_57 k_sz_57_6 rfl rfl)) ?_
                    refine ra_q 19 68 (v := pt (some ⟨b2, 0, none⟩) 3) rfl rfl rfl (by kernel_rfl) (by kernel_rfl) (by kernel_rfl) (ST.sel hS143 [0, 2] rfl rfl) (fun w' hw' => (Y_fieldAddr (B := some ⟨b2, 0, none⟩) (i := 0) (s := 0) k_fd_57_3_3_3 k_sz_3_1 rfl rfl)) ?_
                    refine ra_all (rs := [20]) (by kernel_rfl) rfl ?_
                    refine ra_s0 (i := 20) rfl rfl rfl (Ys_store (i := 1) (s := 1) (B := some ⟨b2, 0, none⟩) (T' := 107) (v := .int .i64 (mgt poly 0 0)) (vs := [.int .i64 (mgt poly 0 0)]) (k := 3) (cs' := [.int .i64 Ins, .int .i64 Vars, .int .i64 Root, .int .i64 (mgt poly 0 0), .slice none 0 0, .slice none 0 0, .map (some g), .slice B3 values.length c4]) hS143 k_sz_3_1 rfl rfl rfl rfl rfl rfl rfl (Nat.le_of_ble_eq_true rfl) rfl rfl) ?_ ?_
                    · rintro _ w_129 ⟨rfl, hS144⟩
                      have hS144 : ST w0 [] _ [⟨some ⟨b1, 0, none⟩, 57, [.int .i64 0, .int .i64 0, .int .i64 0, .int .i64 0, .slice none 0 0, .slice none 0 0], 6⟩, ⟨some ⟨b2, 0, none⟩, 107, [.int .i64 Ins, .int .i64 Vars, .int .i64 Root, .int .i64 (mgt poly 0 0), .slice none 0 0, .slice none 0 0, .map (some g), .slice B3 values.length c4], 8⟩, ⟨B3, 61, (values1.flatMap enc_Affine), c4 * 2⟩, ⟨(some ⟨g, 0, none⟩), .mp (mpE (Value.int .i64) (Value.int .i64) poly), [], 0⟩, ⟨B6, 136, (r_4.flatMap enc_Term), c7 * 2⟩] [⟨B, (c.Gates.flatMap enc_Gate)⟩] := hS144
                      refine ⟨(ST.sel hS144 [0, 2] rfl rfl), ?_⟩
                      refine ra_q 21 69 (v := pt (some ⟨b2, 0, none⟩) 0) rfl rfl rfl (by kernel_rfl) (by kernel_rfl) (by kernel_rfl) (ST.sel hS144 [0, 2] rfl rfl) (fun w' hw' => (Y_nilCheck (B := some ⟨b2, 0, none⟩) (i := 0) rfl rfl)) ?_
                      refine ra_q 22 70 (v := pt (some ⟨b2, 0, none⟩) 0) rfl rfl rfl (by kernel_rfl) (by kernel_rfl) (by kernel_rfl) (ST.sel hS144 [0, 2] rfl rfl) (fun w' hw' => (Y_fieldAddr (B := some ⟨b2, 0, none⟩) (i := 0) (s := 5) k_fd_107_0_0_57 k_sz_57_6 rfl rfl)) ?_
                      refine ra_q 23 71 (v := pt (some ⟨b2, 0, none⟩) 4) rfl rfl rfl (by kernel_rfl) (by kernel_rfl) (by kernel_rfl) (ST.sel hS144 [0, 2] rfl rfl) (fun w' hw' => (Y_fieldAddr (B := some ⟨b2, 0, none⟩) (i := 0) (s := 0) k_fd_57_4_4_54 k_sz_54_1 rfl rfl)) ?_
                      refine ra_all (rs := [24]) (by kernel_rfl) rfl ?_
                      refine ra_s0 (i := 24) rfl rfl rfl (Ys_store (i := 1) (s := 1) (B := some ⟨b2, 0, none⟩) (T' := 107) (v := .slice B6 r_4.length c7) (vs := [.slice B6 r_4.length c7]) (k := 4) (cs' := [.int .i64 Ins, .int .i64 Vars, .int .i64 Root, .int .i64 (mgt poly 0 0), .slice B6 r_4.length c7, .slice none 0 0, .map (some g), .slice B3 values.length c4]) hS144 k_sz_54_1 rfl rfl rfl rfl rfl rfl rfl (Nat.le_of_ble_eq_true rfl) rfl rfl) ?_ ?_
                      · rintro _ w_130 ⟨rfl, hS145⟩
                        have hS145 : ST w0 [] _ [⟨some ⟨b1, 0, none⟩, 57, [.int .i64 0, .int .i64 0, .int .i64 0, .int .i64 0, .slice none 0 0, .slice none 0 0], 6⟩, ⟨some ⟨b2, 0, none⟩, 107, [.int .i64 Ins, .int .i64 Vars, .int .i64 Root, .int .i64 (mgt poly 0 0), .slice B6 r_4.length c7, .slice none 0 0, .map (some g), .slice B3 values.length c4], 8⟩, ⟨B3, 61, (values1.flatMap enc_Affine), c4 * 2⟩, ⟨(some ⟨g, 0, none⟩), .mp (mpE (Value.int .i64) (Value.int .i64) poly), [], 0⟩, ⟨B6, 136, (r_4.flatMap enc_Term), c7 * 2⟩] [⟨B, (c.Gates.flatMap enc_Gate)⟩] := hS145
                        refine ⟨(ST.sel hS145 [0, 2] rfl rfl), ?_⟩
                        refine ra_q 25 72 (v := pt (some ⟨b2, 0, none⟩) 0) rfl rfl rfl (by kernel_rfl) (by kernel_rfl) (by kernel_rfl) (ST.sel hS145 [0, 2] rfl rfl) (fun w' hw' => (Y_nilCheck (B := some ⟨b2, 0, none⟩) (i := 0) rfl rfl)) ?_
                        refine ra_q 26 73 (v := pt (some ⟨b2, 0, none⟩) 0) rfl rfl rfl (by kernel_rfl) (by kernel_rfl) (by kernel_rfl) (ST.sel hS145 [0, 2] rfl rfl) (fun w' hw' => (Y_fieldAddr (B := some ⟨b2, 0, none⟩) (i := 0) (s := 5) k_fd_107_0_0_57 k_sz_57_6 rfl rfl)) ?_
                        refine ra_q 27 74 (v := pt (some ⟨b2, 0, none⟩) 5) rfl rfl rfl (by kernel_rfl) (by kernel_rfl) (by kernel_rfl) (ST.sel hS145 [0, 2] rfl rfl) (fun w' hw' => (Y_fieldAddr (B := some ⟨b2, 0, none⟩) (i := 0) (s := 0) k_fd_57_5_5_55 k_sz_55_1 rfl rfl)) ?_
                        refine ra_all (rs := [28]) (by kernel_rfl) rfl ?_
                        refine ra_s0 (i := 28) rfl rfl rfl (Ys_store (i := 1) (s := 1) (B := some ⟨b2, 0, none⟩) (T' := 107) (v := .slice B3 values.length c4) (vs := [.slice B3 values.length c4]) (k := 5) (cs' := [.int .i64 Ins, .int .i64 Vars, .int .i64 Root, .int .i64 (mgt poly 0 0), .slice B6 r_4.length c7, .slice B3 values.length c4, .map (some g), .slice B3 values.length c4]) hS145 k_sz_55_1 rfl rfl rfl rfl rfl rfl rfl (Nat.le_of_ble_eq_true rfl) rfl rfl) ?_ ?_
                        · rintro _ w_131 ⟨rfl, hS146⟩
                          have hS146 : ST w0 [] _ [⟨some ⟨b1, 0, none⟩, 57, [.int .i64 0, .int .i64 0, .int .i64 0, .int .i64 0, .slice none 0 0, .slice none 0 0], 6⟩, ⟨some ⟨b2, 0, none⟩, 107, [.int .i64 Ins, .int .i64 Vars, .int .i64 Root, .int .i64 (mgt poly 0 0), .slice B6 r_4.length c7, .slice B3 values.length c4, .map (some g), .slice B3 values.length c4], 8⟩, ⟨B3, 61, (values1.flatMap enc_Affine), c4 * 2⟩, ⟨(some ⟨g, 0, none⟩), .mp (mpE (Value.int .i64) (Value.int .i64) poly), [], 0⟩, ⟨B6, 136, (r_4.flatMap enc_Term), c7 * 2⟩] [⟨B, (c.Gates.flatMap enc_Gate)⟩] := hS146
                          refine ⟨(ST.sel hS146 [0, 2] rfl rfl), ?_⟩
                          refine ra_done (by kernel_rfl) ?_
                          exact ⟨B6, c7, (FF.cons (hf2.get 2 0 rfl) (FF.cons (hf2.get 4 1 rfl) FF.nil)), (hS146.sel [0, 1, 4, 2, 3] rfl rfl)⟩
                        exact allR_nil
                      exact allR_nil
                    exact allR_nil
                  exact allR_nil
                exact allR_nil
              exact allR_nil
            exact allR_nil
          exact allR_nil
        rintro f w ⟨B7, c8, hf3, hS29⟩
        refine cw_seq ?_
        refine cw_region ?_
        refine sq 75 rfl rfl (Y_move (v := pt (some ⟨b2, 0, none⟩) 0) rfl (hf3.get 4 1 rfl)) ?_
        refine sq 76 rfl rfl (Y_nilCheck (B := some ⟨b2, 0, none⟩) (i := 0) rfl rfl) ?_
        refine sq 77 rfl rfl (Y_fieldAddr (B := some ⟨b2, 0, none⟩) (i := 0) (s := 5) k_fd_107_0_0_57 k_sz_57_6 rfl rfl) ?_
        refine sq 78 rfl rfl (Y_loadA (B := some ⟨b2, 0, none⟩) (i := 0) (cs := [.int .i64 Ins, .int .i64 Vars, .int .i64 Root, .int .i64 (mgt poly 0 0), .slice B7 r_4.length c8, .slice B3 values.length c4, .map (some g), .slice B3 values.length c4]) (vs := [.int .i64 Ins, .int .i64 Vars, .int .i64 Root, .int .i64 (mgt poly 0 0), .slice B7 r_4.length c8, .slice B3 values.length c4]) k_ag_57 k_sz_57_6 rfl rfl (hS29.cf (i := 1) rfl) rfl rfl) ?_
        refine ss0 rfl rfl (Ys_store (i := 0) (s := 6) (B := some ⟨b1, 0, none⟩) (T' := 57) (v := .agg #[.int .i64 Ins, .int .i64 Vars, .int .i64 Root, .int .i64 (mgt poly 0 0), .slice B7 r_4.length c8, .slice B3 values.length c4]) (vs := [.int .i64 Ins, .int .i64 Vars, .int .i64 Root, .int .i64 (mgt poly 0 0), .slice B7 r_4.length c8, .slice B3 values.length c4]) (k := 0) (cs' := [.int .i64 Ins, .int .i64 Vars, .int .i64 Root, .int .i64 (mgt poly 0 0), .slice B7 r_4.length c8, .slice B3 values.length c4]) hS29 k_sz_57_6 rfl (hf3.get 2 0 rfl) rfl rfl rfl rfl rfl (Nat.le_of_ble_eq_true rfl) rfl rfl) ?_
        rintro _ w_132 ⟨rfl, hS147⟩
        have hS147 : ST w0 [] _ [⟨some ⟨b1, 0, none⟩, 57, [.int .i64 Ins, .int .i64 Vars, .int .i64 Root, .int .i64 (mgt poly 0 0), .slice B7 r_4.length c8, .slice B3 values.length c4], 6⟩, ⟨some ⟨b2, 0, none⟩, 107, [.int .i64 Ins, .int .i64 Vars, .int .i64 Root, .int .i64 (mgt poly 0 0), .slice B7 r_4.length c8, .slice B3 values.length c4, .map (some g), .slice B3 values.length c4], 8⟩, ⟨B7, 136, (r_4.flatMap enc_Term), c8 * 2⟩, ⟨B3, 61, (values1.flatMap enc_Affine), c4 * 2⟩, ⟨(some ⟨g, 0, none⟩), .mp (mpE (Value.int .i64) (Value.int .i64) poly), [], 0⟩] [⟨B, (c.Gates.flatMap enc_Gate)⟩] := hS147
        refine sq 3 rfl rfl (Y_assign (v := .bool true) rfl rfl) ?_
        refine rw_nil ?_
        refine cw_ret ?_
        obtain ⟨rfl, rfl⟩ := pr2 (some_inj hF4)
        exact ret2 Try.results29 (v1 := .agg #[.int .i64 Ins, .int .i64 Vars, .int .i64 Root, .int .i64 (mgt poly 0 0), .slice B7 r_4.length c8, .slice B3 values.length c4]) (resAt_cellA (B := some ⟨b1, 0, none⟩) (i := 0) (cs := [.int .i64 Ins, .int .i64 Vars, .int .i64 Root, .int .i64 (mgt poly 0 0), .slice B7 r_4.length c8, .slice B3 values.length c4]) (vs := [.int .i64 Ins, .int .i64 Vars, .int .i64 Root, .int .i64 (mgt poly 0 0), .slice B7 r_4.length c8, .slice B3 values.length c4]) (hf3.get 2 0 rfl) k_ag_57 k_sz_57_6 (hS147.cf (i := 0) rfl) rfl rfl) (v2 := .bool true) (resAt_tmp rfl) ⟨B7, c8, B3, c4, (by simp [hl]), (ST.subR (R' := []) (hS147.sel [2, 3] rfl rfl) (fun _ h => by cases h))⟩
end Go.VK
