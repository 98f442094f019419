/- Walks: each Go function returns what its Lean function says. By program. -/
import Derived.Test.YtbhancgonaleoaaStateAfterFa
import Derived.Test.YtbhancgonaleoaaStateAfterW4
set_option linter.unusedVariables false
set_option maxRecDepth 100000
set_option maxHeartbeats 1000000
namespace Go.VK
open Go.RowKit
open Go.Proofs
attribute [local irreducible] CW RW RA CV Y Yw Yc Ys RetOf
attribute [local irreducible] F_laws_szGateS F_laws_szCircuit F_spec_l1In F_spec_l4Gate F_spec_l4Good F_spec_l2C_matrix F_spec_l1All F_spec_l1Good F_spec_l2C_ring F_spec_l1Root F_spec_l1Even F_spec_l1Half F_spec_l2Low F_spec_l1Add F_spec_l2C_add F_spec_l1Mul F_spec_l2C_mul F_spec_l2C_times F_spec_l1Turn F_spec_l2Power F_spec_l6Bit F_spec_l1Neg F_spec_l2Neg F_spec_l6One F_spec_l6Cell F_spec_l6Gate F_spec_l2C_run F_spec_l3Column F_spec_l3Unit F_spec_StateAfter F_laws_toGate F_laws_toGateS F_laws_toCircuit F_impl_within F_slices_IndexFunc_impl_Gate_impl_Gate F_slices_ContainsFunc_impl_Gate_impl_Gate F_impl_isTwo F_impl_IsValidGate F_impl_IsValidCircuit_1 F_impl_IsValidCircuit F_impl_isDim F_impl_matrixOf F_impl_whole F_impl_IdentityMatrix_1 F_impl_IdentityMatrix F_slices_IndexFunc_impl_Dyadic_impl_Dyadic F_slices_ContainsFunc_impl_Dyadic_impl_Dyadic F_impl_isCoef F_impl_IsValidRing F_impl_isEven F_impl_IsValidDyadic F_impl_IsValidMatrix_1 F_impl_IsValidMatrix F_impl_Matrix_at F_impl_ColumnOf_1 F_impl_ColumnOf F_impl_MulOmega F_impl_phase F_impl_bitOf F_impl_flipped F_impl_comesFrom F_impl_small F_impl_entry F_impl_GateMatrix_1 F_impl_GateMatrix F_impl_ringIf F_impl_MulRing F_impl_DivRootTwo F_impl_DyadicOf F_impl_MulDyadic F_impl_MulRootTwo F_impl_raised F_impl_combined F_impl_AddRing F_impl_AddDyadic F_impl_MulMatrix_1 F_impl_MulMatrix F_impl_applied F_impl_StateAfter F_laws_eqRing F_laws_eqDyadic F_laws_eqDyadicS F_laws_eqMatrix F_laws_eqGate F_laws_eqGateS F_laws_eqCircuit F_laws_markGateS F_laws_markCircuit F_laws_markDyadicS F_laws_markMatrix F_laws_heldDyadicS F_laws_heldMatrix F_laws_FnExactStateAfter
theorem c_laws_markGateS (a : List TGate) (k_ : Int) (B : Option Addr) (c n : Nat) (w0 : World) (hn : a.length = n) (hS : ST w0 (bl [⟨B, 109, (a.flatMap enc_Gate), c * 3⟩]) w0 [⟨B, 109, (a.flatMap enc_Gate), c * 3⟩] []) {r_ : Int} {m : List TGate} (hF : F_laws_markGateS a k_ = some (r_, m)) :
    CV Try.prog 42 #[.slice B n c, .int .i64 k_] w0 (fun v w' => v = .int .i64 r_ ∧ m.length = n ∧ ST w0 (bl [⟨B, 109, (a.flatMap enc_Gate), c * 3⟩]) w' [⟨B, 109, (m.flatMap enc_Gate), c * 3⟩] []) := by
  subst hn
  unfold F_laws_markGateS at hF
  refine cv_of_cw 34 Try.func42 rfl Try.ntmps42 rfl ?_
  refine cw_seq ?_
  refine cw_region ?_
  refine sq 4 rfl rfl (Y_assign (v := .int .i64 0) rfl rfl) ?_
  refine rw_nil ?_
  refine cw_seq ?_
  refine cw_seq ?_
  refine cw_region ?_
  refine sq 5 rfl rfl (Y_assign (v := .int .i64 0) rfl rfl) ?_
  refine rw_nil ?_
  obtain ⟨hN, hF⟩ := chk_inv hF
  obtain ⟨z, hz, hF1⟩ := bind_inv hF
  refine cw_block ?_
  refine cw_loop (fun k f w => ∃ (i1 : Nat) (m1 : List TGate) (k_1 : Int), FF f [(0, .slice B a.length c), (1, .int .i64 k_1), (5, .int .i64 (i1 : Int))] ∧ m1.length = a.length ∧ ST w0 (bl [⟨B, 109, (a.flatMap enc_Gate), c * 3⟩]) w [⟨B, 109, (m1.flatMap enc_Gate), c * 3⟩] [] ∧ i1 + k = a.length ∧ forN F_laws_markGateS_l1 k i1 (m1, k_1) = some z) a.length ⟨0, a, k_, (FF.cons rfl (FF.cons rfl (FF.cons rfl FF.nil))), rfl, (hS.sel [0] rfl rfl), Nat.zero_add _, hz⟩ ?_
  rintro k_2 f w ⟨i1, m1, k_1, hf, hl, hS1, hik, hL⟩
  refine cw_seq ?_
  refine cw_seq ?_
  refine cw_region ?_
  refine sq 6 rfl rfl (Y_move (v := .int .i64 (i1 : Int)) rfl (hf.get 5 2 rfl)) ?_
  refine sq 7 rfl rfl (Y_move (v := .slice B a.length c) rfl (hf.get 0 0 rfl)) ?_
  refine sq 8 rfl rfl (Y_len (B := B) (m := a.length) (c := c) k_sl_31_109 rfl rfl) ?_
  refine sq 9 rfl rfl (Y_lt (k := .i64) (a := (i1 : Int)) (b := (a.length : Int)) rfl rfl rfl) ?_
  refine rw_nil ?_
  refine cw_cond (b := (decide ((i1 : Int) < (a.length : Int)))) rfl (fun hlt => ?_) (fun hlt => ?_)
  · skip
    have hlt1 : i1 < a.length := by have h := of_decide_eq_true hlt; omega
    obtain ⟨k_3, rfl⟩ : ∃ k2, k_2 = k2 + 1 := ⟨k_2 - 1, by omega⟩
    obtain ⟨y, hb, hL1⟩ := forN_go hL
    unfold F_laws_markGateS_l1 at hb
    refine cw_skip ?_
    refine cw_seq ?_
    refine cw_block ?_
    refine cw_seq ?_
    refine cw_region ?_
    refine sq 12 rfl rfl (Y_move (v := .slice B a.length c) rfl (hf.get 0 0 rfl)) ?_
    refine sq 13 rfl rfl (Y_move (v := .int .i64 (i1 : Int)) rfl (hf.get 5 2 rfl)) ?_
    refine sq 14 rfl rfl (Y_move (v := .int .i64 k_1) rfl (hf.get 1 1 rfl)) ?_
    obtain ⟨x, hx, hb⟩ := bind_inv hb
    refine sq 15 rfl rfl (Y_index (B := B) (m := a.length) (c := c) (k := .i64) (i := (i1 : Int)) k_sl_31_109 k_sz_109_3 rfl rfl rfl (gi_isSome enc_Gate_len rfl (hS1.cf (i := 0) rfl) hx) (getI_nn hx) (getI_ltI hx hl)) ?_
    refine sq 16 rfl rfl (Y_fieldAddr (B := B) (i := (i1 : Int).toNat * 3) (s := 0) k_fd_109_0_0_3 k_sz_3_1 rfl rfl) ?_
    refine ss0 rfl rfl (Ys_store (i := 0) (s := 1) (B := B) (T' := 109) (v := .int .i64 k_1) (vs := [.int .i64 k_1]) (k := (i1 : Int).toNat * 3 + 0) (cs' := ((m1.set (i1 : Int).toNat (TGate.mk k_1 x.A x.B)).flatMap enc_Gate)) hS1 k_sz_3_1 rfl rfl rfl rfl rfl rfl rfl (gi_fit enc_Gate_len hx (j := 0) (k := 1) (by decide)) (gi_setf enc_Gate_len hx (TGate.mk k_1 x.A x.B) rfl (Nat.le_of_ble_eq_true rfl)) rfl) ?_
    rintro _ w_ ⟨rfl, hS2⟩
    refine rw_nil ?_
    refine cw_seq ?_
    refine cw_region ?_
    refine sq 17 rfl rfl (Y_move (v := .int .i64 k_1) rfl (hf.get 1 1 rfl)) ?_
    refine sq 18 rfl rfl (Y_add (k := .i64) (a := k_1) (b := 1) rfl rfl rfl) ?_
    refine sq 1 rfl rfl (Y_assign (v := .int .i64 (IntKind.i64.wrap (k_1 + 1))) rfl rfl) ?_
    refine rw_nil ?_
    refine cw_seq ?_
    refine cw_region ?_
    refine sq 19 rfl rfl (Y_move (v := .slice B a.length c) rfl (hf.get 0 0 rfl)) ?_
    refine sq 20 rfl rfl (Y_move (v := .int .i64 (i1 : Int)) rfl (hf.get 5 2 rfl)) ?_
    refine sq 21 rfl rfl (Y_move (v := .int .i64 (IntKind.i64.wrap (k_1 + 1))) rfl rfl) ?_
    refine sq 22 rfl rfl (Y_index (B := B) (m := a.length) (c := c) (k := .i64) (i := (i1 : Int)) k_sl_31_109 k_sz_109_3 rfl rfl rfl (gi_isSome enc_Gate_len rfl (hS2.cf (i := 0) rfl) (getI_set (y := (TGate.mk k_1 x.A x.B)) hx)) (getI_nn (getI_set (y := (TGate.mk k_1 x.A x.B)) hx)) (getI_ltI (getI_set (y := (TGate.mk k_1 x.A x.B)) hx) (set_len _ _ _ hl))) ?_
    refine sq 23 rfl rfl (Y_fieldAddr (B := B) (i := (i1 : Int).toNat * 3) (s := 0) k_fd_109_1_1_3 k_sz_3_1 rfl rfl) ?_
    refine ss0 rfl rfl (Ys_store (i := 0) (s := 1) (B := B) (T' := 109) (v := .int .i64 (IntKind.i64.wrap (k_1 + 1))) (vs := [.int .i64 (IntKind.i64.wrap (k_1 + 1))]) (k := (i1 : Int).toNat * 3 + 1) (cs' := (((m1.set (i1 : Int).toNat (TGate.mk k_1 x.A x.B)).set (i1 : Int).toNat (TGate.mk k_1 (IntKind.i64.wrap (k_1 + 1)) x.B)).flatMap enc_Gate)) hS2 k_sz_3_1 rfl rfl rfl rfl rfl rfl rfl (gi_fit enc_Gate_len (getI_set (y := (TGate.mk k_1 x.A x.B)) hx) (j := 1) (k := 1) (by decide)) (gi_setf enc_Gate_len (getI_set (y := (TGate.mk k_1 x.A x.B)) hx) (TGate.mk k_1 (IntKind.i64.wrap (k_1 + 1)) x.B) rfl (Nat.le_of_ble_eq_true rfl)) rfl) ?_
    rintro _ w_1 ⟨rfl, hS3⟩
    refine rw_nil ?_
    refine cw_seq ?_
    refine cw_region ?_
    refine sq 24 rfl rfl (Y_move (v := .int .i64 (IntKind.i64.wrap (k_1 + 1))) rfl rfl) ?_
    refine sq 25 rfl rfl (Y_add (k := .i64) (a := (IntKind.i64.wrap (k_1 + 1))) (b := 1) rfl rfl rfl) ?_
    refine sq 1 rfl rfl (Y_assign (v := .int .i64 (IntKind.i64.wrap ((IntKind.i64.wrap (k_1 + 1)) + 1))) rfl rfl) ?_
    refine rw_nil ?_
    refine cw_seq ?_
    refine cw_region ?_
    refine sq 26 rfl rfl (Y_move (v := .slice B a.length c) rfl (hf.get 0 0 rfl)) ?_
    refine sq 27 rfl rfl (Y_move (v := .int .i64 (i1 : Int)) rfl (hf.get 5 2 rfl)) ?_
    refine sq 28 rfl rfl (Y_move (v := .int .i64 (IntKind.i64.wrap ((IntKind.i64.wrap (k_1 + 1)) + 1))) rfl rfl) ?_
    refine sq 29 rfl rfl (Y_index (B := B) (m := a.length) (c := c) (k := .i64) (i := (i1 : Int)) k_sl_31_109 k_sz_109_3 rfl rfl rfl (gi_isSome enc_Gate_len rfl (hS3.cf (i := 0) rfl) (getI_set (y := (TGate.mk k_1 (IntKind.i64.wrap (k_1 + 1)) x.B)) (getI_set (y := (TGate.mk k_1 x.A x.B)) hx))) (getI_nn (getI_set (y := (TGate.mk k_1 (IntKind.i64.wrap (k_1 + 1)) x.B)) (getI_set (y := (TGate.mk k_1 x.A x.B)) hx))) (getI_ltI (getI_set (y := (TGate.mk k_1 (IntKind.i64.wrap (k_1 + 1)) x.B)) (getI_set (y := (TGate.mk k_1 x.A x.B)) hx)) (set_len _ _ _ (set_len _ _ _ hl)))) ?_
    refine sq 30 rfl rfl (Y_fieldAddr (B := B) (i := (i1 : Int).toNat * 3) (s := 0) k_fd_109_2_2_3 k_sz_3_1 rfl rfl) ?_
    refine ss0 rfl rfl (Ys_store (i := 0) (s := 1) (B := B) (T' := 109) (v := .int .i64 (IntKind.i64.wrap ((IntKind.i64.wrap (k_1 + 1)) + 1))) (vs := [.int .i64 (IntKind.i64.wrap ((IntKind.i64.wrap (k_1 + 1)) + 1))]) (k := (i1 : Int).toNat * 3 + 2) (cs' := ((((m1.set (i1 : Int).toNat (TGate.mk k_1 x.A x.B)).set (i1 : Int).toNat (TGate.mk k_1 (IntKind.i64.wrap (k_1 + 1)) x.B)).set (i1 : Int).toNat (TGate.mk k_1 (IntKind.i64.wrap (k_1 + 1)) (IntKind.i64.wrap ((IntKind.i64.wrap (k_1 + 1)) + 1)))).flatMap enc_Gate)) hS3 k_sz_3_1 rfl rfl rfl rfl rfl rfl rfl (gi_fit enc_Gate_len (getI_set (y := (TGate.mk k_1 (IntKind.i64.wrap (k_1 + 1)) x.B)) (getI_set (y := (TGate.mk k_1 x.A x.B)) hx)) (j := 2) (k := 1) (by decide)) (gi_setf enc_Gate_len (getI_set (y := (TGate.mk k_1 (IntKind.i64.wrap (k_1 + 1)) x.B)) (getI_set (y := (TGate.mk k_1 x.A x.B)) hx)) (TGate.mk k_1 (IntKind.i64.wrap (k_1 + 1)) (IntKind.i64.wrap ((IntKind.i64.wrap (k_1 + 1)) + 1))) rfl (Nat.le_of_ble_eq_true rfl)) rfl) ?_
    rintro _ w_2 ⟨rfl, hS4⟩
    refine rw_nil ?_
    refine cw_region ?_
    refine sq 31 rfl rfl (Y_move (v := .int .i64 (IntKind.i64.wrap ((IntKind.i64.wrap (k_1 + 1)) + 1))) rfl rfl) ?_
    refine sq 32 rfl rfl (Y_add (k := .i64) (a := (IntKind.i64.wrap ((IntKind.i64.wrap (k_1 + 1)) + 1))) (b := 1) rfl rfl rfl) ?_
    refine sq 1 rfl rfl (Y_assign (v := .int .i64 (IntKind.i64.wrap ((IntKind.i64.wrap ((IntKind.i64.wrap (k_1 + 1)) + 1)) + 1))) rfl rfl) ?_
    refine rw_nil ?_
    refine cw_region ?_
    refine sq 10 rfl rfl (Y_move (v := .int .i64 (i1 : Int)) rfl (hf.get 5 2 rfl)) ?_
    refine sq 11 rfl rfl (Y_add (k := .i64) (a := (i1 : Int)) (b := 1) rfl rfl rfl) ?_
    refine sq 5 rfl rfl (Y_assign (v := .int .i64 (IntKind.i64.wrap ((i1 : Int) + 1))) rfl rfl) ?_
    refine rw_nil ?_
    obtain rfl := some_inj hb
    exact ⟨k_3, Nat.lt_succ_self _, i1 + 1, (((m1.set (i1 : Int).toNat (TGate.mk k_1 x.A x.B)).set (i1 : Int).toNat (TGate.mk k_1 (IntKind.i64.wrap (k_1 + 1)) x.B)).set (i1 : Int).toNat (TGate.mk k_1 (IntKind.i64.wrap (k_1 + 1)) (IntKind.i64.wrap ((IntKind.i64.wrap (k_1 + 1)) + 1)))), (IntKind.i64.wrap ((IntKind.i64.wrap ((IntKind.i64.wrap (k_1 + 1)) + 1)) + 1)), (FF.cons (hf.get 0 0 rfl) (FF.cons rfl (FF.cons (congrArg (Value.int .i64) (wr_succ hlt1 hN)) FF.nil))), (set_len _ _ _ (set_len _ _ _ (set_len _ _ _ hl))), (hS4.sel [0] rfl rfl), (by omega), hL1⟩
  · skip
    obtain rfl : k_2 = 0 := by have h := of_decide_eq_false hlt; omega
    refine cw_exit rfl ?_
    obtain rfl := some_inj hL
    refine cw_seq ?_
    refine cw_region ?_
    refine sq 33 rfl rfl (Y_move (v := .int .i64 k_1) rfl (hf.get 1 1 rfl)) ?_
    refine sq 4 rfl rfl (Y_assign (v := .int .i64 k_1) rfl rfl) ?_
    refine rw_nil ?_
    refine cw_ret ?_
    obtain ⟨rfl, rfl⟩ := pr2 (some_inj hF1)
    exact ret1 Try.results42 (v1 := .int .i64 k_1) (resAt_tmp rfl) ⟨rfl, hl, (ST.subR (R' := []) (hS1.sel [0] rfl rfl) (fun _ h => by cases h))⟩

theorem c_laws_markCircuit (a : TCircuit) (k_ : Int) (B : Option Addr) (c n : Nat) (w0 : World) (hn : a.Gates.length = n) (hS : ST w0 (bl [⟨B, 109, (a.Gates.flatMap enc_Gate), c * 3⟩]) w0 [⟨B, 109, (a.Gates.flatMap enc_Gate), c * 3⟩] []) {r_ : Int} {m : List TGate} (hF : F_laws_markCircuit a k_ = some (r_, m)) :
    CV Try.prog 13 #[.agg #[.int .i64 a.Qubits, .slice B n c], .int .i64 k_] w0 (fun v w' => v = .int .i64 r_ ∧ m.length = n ∧ ST w0 (bl [⟨B, 109, (a.Gates.flatMap enc_Gate), c * 3⟩]) w' [⟨B, 109, (m.flatMap enc_Gate), c * 3⟩] []) := by
  subst hn
  unfold F_laws_markCircuit at hF
  refine cv_of_cw 10 Try.func13 rfl Try.ntmps13 rfl ?_
  refine cw_seq ?_
  refine cw_region ?_
  refine ss 2 rfl rfl (Ys_box (T := 33) (v := .agg #[.int .i64 a.Qubits, .slice B a.Gates.length c]) (cs := [.int .i64 a.Qubits, .slice B a.Gates.length c]) (m := 2) hS rfl rfl rfl rfl) ?_
  rintro _ w_ ⟨b, rfl, hS1⟩
  have hS1 : ST w0 (bl [⟨B, 109, (a.Gates.flatMap enc_Gate), c * 3⟩]) _ [⟨B, 109, (a.Gates.flatMap enc_Gate), c * 3⟩, ⟨some ⟨b, 0, none⟩, 33, [.int .i64 a.Qubits, .slice B a.Gates.length c], 2⟩] [] := hS1
  refine sq 4 rfl rfl (Y_assign (v := .int .i64 0) rfl rfl) ?_
  refine rw_nil ?_
  refine cw_seq ?_
  refine cw_region ?_
  refine sq 5 rfl rfl (Y_fieldAddr (B := some ⟨b, 0, none⟩) (i := 0) (s := 0) k_fd_33_1_1_31 k_sz_31_1 rfl rfl) ?_
  refine sq 6 rfl rfl (Y_load1 (B := some ⟨b, 0, none⟩) (i := 1) (cs := [.int .i64 a.Qubits, .slice B a.Gates.length c]) (v := .slice B a.Gates.length c) k_sc_31 rfl rfl (hS1.cf (i := 1) rfl) rfl) ?_
  refine sq 7 rfl rfl (Y_move (v := .int .i64 k_) rfl rfl) ?_
  obtain ⟨⟨r_1, m1⟩, hc, hF⟩ := bind_inv hF
  refine sc 8 rfl rfl (Yc_func (g := 42) (vs := [.slice B a.Gates.length c, .int .i64 k_]) k_call_42 rfl (mc rfl (mc rfl mn)) (c_laws_markGateS a.Gates k_ B c a.Gates.length _ rfl (hS1.inn [true, false] rfl [] rfl) hc)) ?_
  rintro _ w_1 ⟨rfl, hl, hd⟩
  have hS2 := hS1.out [true, false] rfl hd
  have hS2 : ST w0 (bl [⟨B, 109, (a.Gates.flatMap enc_Gate), c * 3⟩]) _ [⟨some ⟨b, 0, none⟩, 33, [.int .i64 a.Qubits, .slice B a.Gates.length c], 2⟩, ⟨B, 109, (m1.flatMap enc_Gate), c * 3⟩] [] := hS2
  refine sq 1 rfl rfl (Y_assign (v := .int .i64 r_1) rfl rfl) ?_
  refine rw_nil ?_
  refine cw_seq ?_
  refine cw_region ?_
  refine sq 9 rfl rfl (Y_move (v := .int .i64 r_1) rfl rfl) ?_
  refine sq 4 rfl rfl (Y_assign (v := .int .i64 r_1) rfl rfl) ?_
  refine rw_nil ?_
  refine cw_ret ?_
  obtain ⟨rfl, rfl⟩ := pr2 (some_inj hF)
  exact ret1 Try.results13 (v1 := .int .i64 r_1) (resAt_tmp rfl) ⟨rfl, hl, (ST.subR (R' := []) (hS2.sel [1] rfl rfl) (fun _ h => by cases h))⟩

theorem c_laws_markDyadicS (a : List TDyadic) (k_ : Int) (B : Option Addr) (c n : Nat) (w0 : World) (hn : a.length = n) (hS : ST w0 (bl [⟨B, 116, (a.flatMap enc_Dyadic), c * 5⟩]) w0 [⟨B, 116, (a.flatMap enc_Dyadic), c * 5⟩] []) {r_ : Int} {m : List TDyadic} (hF : F_laws_markDyadicS a k_ = some (r_, m)) :
    CV Try.prog 43 #[.slice B n c, .int .i64 k_] w0 (fun v w' => v = .int .i64 r_ ∧ m.length = n ∧ ST w0 (bl [⟨B, 116, (a.flatMap enc_Dyadic), c * 5⟩]) w' [⟨B, 116, (m.flatMap enc_Dyadic), c * 5⟩] []) := by
  subst hn
  unfold F_laws_markDyadicS at hF
  refine cv_of_cw 52 Try.func43 rfl Try.ntmps43 rfl ?_
  refine cw_seq ?_
  refine cw_region ?_
  refine sq 4 rfl rfl (Y_assign (v := .int .i64 0) rfl rfl) ?_
  refine rw_nil ?_
  refine cw_seq ?_
  refine cw_seq ?_
  refine cw_region ?_
  refine sq 5 rfl rfl (Y_assign (v := .int .i64 0) rfl rfl) ?_
  refine rw_nil ?_
  obtain ⟨hN, hF⟩ := chk_inv hF
  obtain ⟨z, hz, hF1⟩ := bind_inv hF
  refine cw_block ?_
  refine cw_loop (fun k f w => ∃ (i1 : Nat) (m1 : List TDyadic) (k_1 : Int), FF f [(0, .slice B a.length c), (1, .int .i64 k_1), (5, .int .i64 (i1 : Int))] ∧ m1.length = a.length ∧ ST w0 (bl [⟨B, 116, (a.flatMap enc_Dyadic), c * 5⟩]) w [⟨B, 116, (m1.flatMap enc_Dyadic), c * 5⟩] [] ∧ i1 + k = a.length ∧ forN F_laws_markDyadicS_l1 k i1 (m1, k_1) = some z) a.length ⟨0, a, k_, (FF.cons rfl (FF.cons rfl (FF.cons rfl FF.nil))), rfl, (hS.sel [0] rfl rfl), Nat.zero_add _, hz⟩ ?_
  rintro k_2 f w ⟨i1, m1, k_1, hf, hl, hS1, hik, hL⟩
  refine cw_seq ?_
  refine cw_seq ?_
  refine cw_region ?_
  refine sq 6 rfl rfl (Y_move (v := .int .i64 (i1 : Int)) rfl (hf.get 5 2 rfl)) ?_
  refine sq 7 rfl rfl (Y_move (v := .slice B a.length c) rfl (hf.get 0 0 rfl)) ?_
  refine sq 8 rfl rfl (Y_len (B := B) (m := a.length) (c := c) k_sl_26_116 rfl rfl) ?_
  refine sq 9 rfl rfl (Y_lt (k := .i64) (a := (i1 : Int)) (b := (a.length : Int)) rfl rfl rfl) ?_
  refine rw_nil ?_
  refine cw_cond (b := (decide ((i1 : Int) < (a.length : Int)))) rfl (fun hlt => ?_) (fun hlt => ?_)
  · skip
    have hlt1 : i1 < a.length := by have h := of_decide_eq_true hlt; omega
    obtain ⟨k_3, rfl⟩ : ∃ k2, k_2 = k2 + 1 := ⟨k_2 - 1, by omega⟩
    obtain ⟨y, hb, hL1⟩ := forN_go hL
    unfold F_laws_markDyadicS_l1 at hb
    refine cw_skip ?_
    refine cw_seq ?_
    refine cw_block ?_
    refine cw_seq ?_
    refine cw_region ?_
    refine sq 12 rfl rfl (Y_move (v := .slice B a.length c) rfl (hf.get 0 0 rfl)) ?_
    refine sq 13 rfl rfl (Y_move (v := .int .i64 (i1 : Int)) rfl (hf.get 5 2 rfl)) ?_
    refine sq 14 rfl rfl (Y_move (v := .int .i64 k_1) rfl (hf.get 1 1 rfl)) ?_
    obtain ⟨x, hx, hb⟩ := bind_inv hb
    refine sq 15 rfl rfl (Y_index (B := B) (m := a.length) (c := c) (k := .i64) (i := (i1 : Int)) k_sl_26_116 k_sz_116_5 rfl rfl rfl (gi_isSome enc_Dyadic_len rfl (hS1.cf (i := 0) rfl) hx) (getI_nn hx) (getI_ltI hx hl)) ?_
    refine sq 16 rfl rfl (Y_fieldAddr (B := B) (i := (i1 : Int).toNat * 5) (s := 3) k_fd_116_0_0_114 k_sz_114_4 rfl rfl) ?_
    refine sq 17 rfl rfl (Y_fieldAddr2 (B := B) (i := (i1 : Int).toNat * 5) (e := 0) (l := 0) (s := 0) k_fd_114_0_0_3 k_sz_3_1 rfl rfl rfl) ?_
    refine ss0 rfl rfl (Ys_store (i := 0) (s := 1) (B := B) (T' := 116) (v := .int .i64 k_1) (vs := [.int .i64 k_1]) (k := (i1 : Int).toNat * 5 + 0) (cs' := ((m1.set (i1 : Int).toNat (TDyadic.mk (TRing.mk k_1 x.Num.B x.Num.C x.Num.D) x.Exp)).flatMap enc_Dyadic)) hS1 k_sz_3_1 rfl rfl rfl rfl rfl rfl rfl (gi_fit enc_Dyadic_len hx (j := 0) (k := 1) (by decide)) (gi_setf enc_Dyadic_len hx (TDyadic.mk (TRing.mk k_1 x.Num.B x.Num.C x.Num.D) x.Exp) rfl (Nat.le_of_ble_eq_true rfl)) rfl) ?_
    rintro _ w_ ⟨rfl, hS2⟩
    refine rw_nil ?_
    refine cw_seq ?_
    refine cw_region ?_
    refine sq 18 rfl rfl (Y_move (v := .int .i64 k_1) rfl (hf.get 1 1 rfl)) ?_
    refine sq 19 rfl rfl (Y_add (k := .i64) (a := k_1) (b := 1) rfl rfl rfl) ?_
    refine sq 1 rfl rfl (Y_assign (v := .int .i64 (IntKind.i64.wrap (k_1 + 1))) rfl rfl) ?_
    refine rw_nil ?_
    refine cw_seq ?_
    refine cw_region ?_
    refine sq 20 rfl rfl (Y_move (v := .slice B a.length c) rfl (hf.get 0 0 rfl)) ?_
    refine sq 21 rfl rfl (Y_move (v := .int .i64 (i1 : Int)) rfl (hf.get 5 2 rfl)) ?_
    refine sq 22 rfl rfl (Y_move (v := .int .i64 (IntKind.i64.wrap (k_1 + 1))) rfl rfl) ?_
    refine sq 23 rfl rfl (Y_index (B := B) (m := a.length) (c := c) (k := .i64) (i := (i1 : Int)) k_sl_26_116 k_sz_116_5 rfl rfl rfl (gi_isSome enc_Dyadic_len rfl (hS2.cf (i := 0) rfl) (getI_set (y := (TDyadic.mk (TRing.mk k_1 x.Num.B x.Num.C x.Num.D) x.Exp)) hx)) (getI_nn (getI_set (y := (TDyadic.mk (TRing.mk k_1 x.Num.B x.Num.C x.Num.D) x.Exp)) hx)) (getI_ltI (getI_set (y := (TDyadic.mk (TRing.mk k_1 x.Num.B x.Num.C x.Num.D) x.Exp)) hx) (set_len _ _ _ hl))) ?_
    refine sq 24 rfl rfl (Y_fieldAddr (B := B) (i := (i1 : Int).toNat * 5) (s := 3) k_fd_116_0_0_114 k_sz_114_4 rfl rfl) ?_
    refine sq 25 rfl rfl (Y_fieldAddr2 (B := B) (i := (i1 : Int).toNat * 5) (e := 0) (l := 1) (s := 0) k_fd_114_1_1_3 k_sz_3_1 rfl rfl rfl) ?_
    refine ss0 rfl rfl (Ys_store (i := 0) (s := 1) (B := B) (T' := 116) (v := .int .i64 (IntKind.i64.wrap (k_1 + 1))) (vs := [.int .i64 (IntKind.i64.wrap (k_1 + 1))]) (k := (i1 : Int).toNat * 5 + 1) (cs' := (((m1.set (i1 : Int).toNat (TDyadic.mk (TRing.mk k_1 x.Num.B x.Num.C x.Num.D) x.Exp)).set (i1 : Int).toNat (TDyadic.mk (TRing.mk k_1 (IntKind.i64.wrap (k_1 + 1)) x.Num.C x.Num.D) x.Exp)).flatMap enc_Dyadic)) hS2 k_sz_3_1 rfl rfl rfl rfl rfl rfl rfl (gi_fit enc_Dyadic_len (getI_set (y := (TDyadic.mk (TRing.mk k_1 x.Num.B x.Num.C x.Num.D) x.Exp)) hx) (j := 1) (k := 1) (by decide)) (gi_setf enc_Dyadic_len (getI_set (y := (TDyadic.mk (TRing.mk k_1 x.Num.B x.Num.C x.Num.D) x.Exp)) hx) (TDyadic.mk (TRing.mk k_1 (IntKind.i64.wrap (k_1 + 1)) x.Num.C x.Num.D) x.Exp) rfl (Nat.le_of_ble_eq_true rfl)) rfl) ?_
    rintro _ w_1 ⟨rfl, hS3⟩
    refine rw_nil ?_
    refine cw_seq ?_
    refine cw_region ?_
    refine sq 26 rfl rfl (Y_move (v := .int .i64 (IntKind.i64.wrap (k_1 + 1))) rfl rfl) ?_
    refine sq 27 rfl rfl (Y_add (k := .i64) (a := (IntKind.i64.wrap (k_1 + 1))) (b := 1) rfl rfl rfl) ?_
    refine sq 1 rfl rfl (Y_assign (v := .int .i64 (IntKind.i64.wrap ((IntKind.i64.wrap (k_1 + 1)) + 1))) rfl rfl) ?_
    refine rw_nil ?_
    refine cw_seq ?_
    refine cw_region ?_
    refine sq 28 rfl rfl (Y_move (v := .slice B a.length c) rfl (hf.get 0 0 rfl)) ?_
    refine sq 29 rfl rfl (Y_move (v := .int .i64 (i1 : Int)) rfl (hf.get 5 2 rfl)) ?_
    refine sq 30 rfl rfl (Y_move (v := .int .i64 (IntKind.i64.wrap ((IntKind.i64.wrap (k_1 + 1)) + 1))) rfl rfl) ?_
    refine sq 31 rfl rfl (Y_index (B := B) (m := a.length) (c := c) (k := .i64) (i := (i1 : Int)) k_sl_26_116 k_sz_116_5 rfl rfl rfl (gi_isSome enc_Dyadic_len rfl (hS3.cf (i := 0) rfl) (getI_set (y := (TDyadic.mk (TRing.mk k_1 (IntKind.i64.wrap (k_1 + 1)) x.Num.C x.Num.D) x.Exp)) (getI_set (y := (TDyadic.mk (TRing.mk k_1 x.Num.B x.Num.C x.Num.D) x.Exp)) hx))) (getI_nn (getI_set (y := (TDyadic.mk (TRing.mk k_1 (IntKind.i64.wrap (k_1 + 1)) x.Num.C x.Num.D) x.Exp)) (getI_set (y := (TDyadic.mk (TRing.mk k_1 x.Num.B x.Num.C x.Num.D) x.Exp)) hx))) (getI_ltI (getI_set (y := (TDyadic.mk (TRing.mk k_1 (IntKind.i64.wrap (k_1 + 1)) x.Num.C x.Num.D) x.Exp)) (getI_set (y := (TDyadic.mk (TRing.mk k_1 x.Num.B x.Num.C x.Num.D) x.Exp)) hx)) (set_len _ _ _ (set_len _ _ _ hl)))) ?_
    refine sq 32 rfl rfl (Y_fieldAddr (B := B) (i := (i1 : Int).toNat * 5) (s := 3) k_fd_116_0_0_114 k_sz_114_4 rfl rfl) ?_
    refine sq 33 rfl rfl (Y_fieldAddr2 (B := B) (i := (i1 : Int).toNat * 5) (e := 0) (l := 2) (s := 0) k_fd_114_2_2_3 k_sz_3_1 rfl rfl rfl) ?_
    refine ss0 rfl rfl (Ys_store (i := 0) (s := 1) (B := B) (T' := 116) (v := .int .i64 (IntKind.i64.wrap ((IntKind.i64.wrap (k_1 + 1)) + 1))) (vs := [.int .i64 (IntKind.i64.wrap ((IntKind.i64.wrap (k_1 + 1)) + 1))]) (k := (i1 : Int).toNat * 5 + 2) (cs' := ((((m1.set (i1 : Int).toNat (TDyadic.mk (TRing.mk k_1 x.Num.B x.Num.C x.Num.D) x.Exp)).set (i1 : Int).toNat (TDyadic.mk (TRing.mk k_1 (IntKind.i64.wrap (k_1 + 1)) x.Num.C x.Num.D) x.Exp)).set (i1 : Int).toNat (TDyadic.mk (TRing.mk k_1 (IntKind.i64.wrap (k_1 + 1)) (IntKind.i64.wrap ((IntKind.i64.wrap (k_1 + 1)) + 1)) x.Num.D) x.Exp)).flatMap enc_Dyadic)) hS3 k_sz_3_1 rfl rfl rfl rfl rfl rfl rfl (gi_fit enc_Dyadic_len (getI_set (y := (TDyadic.mk (TRing.mk k_1 (IntKind.i64.wrap (k_1 + 1)) x.Num.C x.Num.D) x.Exp)) (getI_set (y := (TDyadic.mk (TRing.mk k_1 x.Num.B x.Num.C x.Num.D) x.Exp)) hx)) (j := 2) (k := 1) (by decide)) (gi_setf enc_Dyadic_len (getI_set (y := (TDyadic.mk (TRing.mk k_1 (IntKind.i64.wrap (k_1 + 1)) x.Num.C x.Num.D) x.Exp)) (getI_set (y := (TDyadic.mk (TRing.mk k_1 x.Num.B x.Num.C x.Num.D) x.Exp)) hx)) (TDyadic.mk (TRing.mk k_1 (IntKind.i64.wrap (k_1 + 1)) (IntKind.i64.wrap ((IntKind.i64.wrap (k_1 + 1)) + 1)) x.Num.D) x.Exp) rfl (Nat.le_of_ble_eq_true rfl)) rfl) ?_
    rintro _ w_2 ⟨rfl, hS4⟩
    refine rw_nil ?_
    refine cw_seq ?_
    refine cw_region ?_
    refine sq 34 rfl rfl (Y_move (v := .int .i64 (IntKind.i64.wrap ((IntKind.i64.wrap (k_1 + 1)) + 1))) rfl rfl) ?_
    refine sq 35 rfl rfl (Y_add (k := .i64) (a := (IntKind.i64.wrap ((IntKind.i64.wrap (k_1 + 1)) + 1))) (b := 1) rfl rfl rfl) ?_
    refine sq 1 rfl rfl (Y_assign (v := .int .i64 (IntKind.i64.wrap ((IntKind.i64.wrap ((IntKind.i64.wrap (k_1 + 1)) + 1)) + 1))) rfl rfl) ?_
    refine rw_nil ?_
    refine cw_seq ?_
    refine cw_region ?_
    refine sq 36 rfl rfl (Y_move (v := .slice B a.length c) rfl (hf.get 0 0 rfl)) ?_
    refine sq 37 rfl rfl (Y_move (v := .int .i64 (i1 : Int)) rfl (hf.get 5 2 rfl)) ?_
    refine sq 38 rfl rfl (Y_move (v := .int .i64 (IntKind.i64.wrap ((IntKind.i64.wrap ((IntKind.i64.wrap (k_1 + 1)) + 1)) + 1))) rfl rfl) ?_
    refine sq 39 rfl rfl (Y_index (B := B) (m := a.length) (c := c) (k := .i64) (i := (i1 : Int)) k_sl_26_116 k_sz_116_5 rfl rfl rfl (gi_isSome enc_Dyadic_len rfl (hS4.cf (i := 0) rfl) (getI_set (y := (TDyadic.mk (TRing.mk k_1 (IntKind.i64.wrap (k_1 + 1)) (IntKind.i64.wrap ((IntKind.i64.wrap (k_1 + 1)) + 1)) x.Num.D) x.Exp)) (getI_set (y := (TDyadic.mk (TRing.mk k_1 (IntKind.i64.wrap (k_1 + 1)) x.Num.C x.Num.D) x.Exp)) (getI_set (y := (TDyadic.mk (TRing.mk k_1 x.Num.B x.Num.C x.Num.D) x.Exp)) hx)))) (getI_nn (getI_set (y := (TDyadic.mk (TRing.mk k_1 (IntKind.i64.wrap (k_1 + 1)) (IntKind.i64.wrap ((IntKind.i64.wrap (k_1 + 1)) + 1)) x.Num.D) x.Exp)) (getI_set (y := (TDyadic.mk (TRing.mk k_1 (IntKind.i64.wrap (k_1 + 1)) x.Num.C x.Num.D) x.Exp)) (getI_set (y := (TDyadic.mk (TRing.mk k_1 x.Num.B x.Num.C x.Num.D) x.Exp)) hx)))) (getI_ltI (getI_set (y := (TDyadic.mk (TRing.mk k_1 (IntKind.i64.wrap (k_1 + 1)) (IntKind.i64.wrap ((IntKind.i64.wrap (k_1 + 1)) + 1)) x.Num.D) x.Exp)) (getI_set (y := (TDyadic.mk (TRing.mk k_1 (IntKind.i64.wrap (k_1 + 1)) x.Num.C x.Num.D) x.Exp)) (getI_set (y := (TDyadic.mk (TRing.mk k_1 x.Num.B x.Num.C x.Num.D) x.Exp)) hx))) (set_len _ _ _ (set_len _ _ _ (set_len _ _ _ hl))))) ?_
    refine sq 40 rfl rfl (Y_fieldAddr (B := B) (i := (i1 : Int).toNat * 5) (s := 3) k_fd_116_0_0_114 k_sz_114_4 rfl rfl) ?_
    refine sq 41 rfl rfl (Y_fieldAddr2 (B := B) (i := (i1 : Int).toNat * 5) (e := 0) (l := 3) (s := 0) k_fd_114_3_3_3 k_sz_3_1 rfl rfl rfl) ?_
    refine ss0 rfl rfl (Ys_store (i := 0) (s := 1) (B := B) (T' := 116) (v := .int .i64 (IntKind.i64.wrap ((IntKind.i64.wrap ((IntKind.i64.wrap (k_1 + 1)) + 1)) + 1))) (vs := [.int .i64 (IntKind.i64.wrap ((IntKind.i64.wrap ((IntKind.i64.wrap (k_1 + 1)) + 1)) + 1))]) (k := (i1 : Int).toNat * 5 + 3) (cs' := (((((m1.set (i1 : Int).toNat (TDyadic.mk (TRing.mk k_1 x.Num.B x.Num.C x.Num.D) x.Exp)).set (i1 : Int).toNat (TDyadic.mk (TRing.mk k_1 (IntKind.i64.wrap (k_1 + 1)) x.Num.C x.Num.D) x.Exp)).set (i1 : Int).toNat (TDyadic.mk (TRing.mk k_1 (IntKind.i64.wrap (k_1 + 1)) (IntKind.i64.wrap ((IntKind.i64.wrap (k_1 + 1)) + 1)) x.Num.D) x.Exp)).set (i1 : Int).toNat (TDyadic.mk (TRing.mk k_1 (IntKind.i64.wrap (k_1 + 1)) (IntKind.i64.wrap ((IntKind.i64.wrap (k_1 + 1)) + 1)) (IntKind.i64.wrap ((IntKind.i64.wrap ((IntKind.i64.wrap (k_1 + 1)) + 1)) + 1))) x.Exp)).flatMap enc_Dyadic)) hS4 k_sz_3_1 rfl rfl rfl rfl rfl rfl rfl (gi_fit enc_Dyadic_len (getI_set (y := (TDyadic.mk (TRing.mk k_1 (IntKind.i64.wrap (k_1 + 1)) (IntKind.i64.wrap ((IntKind.i64.wrap (k_1 + 1)) + 1)) x.Num.D) x.Exp)) (getI_set (y := (TDyadic.mk (TRing.mk k_1 (IntKind.i64.wrap (k_1 + 1)) x.Num.C x.Num.D) x.Exp)) (getI_set (y := (TDyadic.mk (TRing.mk k_1 x.Num.B x.Num.C x.Num.D) x.Exp)) hx))) (j := 3) (k := 1) (by decide)) (gi_setf enc_Dyadic_len (getI_set (y := (TDyadic.mk (TRing.mk k_1 (IntKind.i64.wrap (k_1 + 1)) (IntKind.i64.wrap ((IntKind.i64.wrap (k_1 + 1)) + 1)) x.Num.D) x.Exp)) (getI_set (y := (TDyadic.mk (TRing.mk k_1 (IntKind.i64.wrap (k_1 + 1)) x.Num.C x.Num.D) x.Exp)) (getI_set (y := (TDyadic.mk (TRing.mk k_1 x.Num.B x.Num.C x.Num.D) x.Exp)) hx))) (TDyadic.mk (TRing.mk k_1 (IntKind.i64.wrap (k_1 + 1)) (IntKind.i64.wrap ((IntKind.i64.wrap (k_1 + 1)) + 1)) (IntKind.i64.wrap ((IntKind.i64.wrap ((IntKind.i64.wrap (k_1 + 1)) + 1)) + 1))) x.Exp) rfl (Nat.le_of_ble_eq_true rfl)) rfl) ?_
    rintro _ w_3 ⟨rfl, hS5⟩
    refine rw_nil ?_
    refine cw_seq ?_
    refine cw_region ?_
    refine sq 42 rfl rfl (Y_move (v := .int .i64 (IntKind.i64.wrap ((IntKind.i64.wrap ((IntKind.i64.wrap (k_1 + 1)) + 1)) + 1))) rfl rfl) ?_
    refine sq 43 rfl rfl (Y_add (k := .i64) (a := (IntKind.i64.wrap ((IntKind.i64.wrap ((IntKind.i64.wrap (k_1 + 1)) + 1)) + 1))) (b := 1) rfl rfl rfl) ?_
    refine sq 1 rfl rfl (Y_assign (v := .int .i64 (IntKind.i64.wrap ((IntKind.i64.wrap ((IntKind.i64.wrap ((IntKind.i64.wrap (k_1 + 1)) + 1)) + 1)) + 1))) rfl rfl) ?_
    refine rw_nil ?_
    refine cw_seq ?_
    refine cw_region ?_
    refine sq 44 rfl rfl (Y_move (v := .slice B a.length c) rfl (hf.get 0 0 rfl)) ?_
    refine sq 45 rfl rfl (Y_move (v := .int .i64 (i1 : Int)) rfl (hf.get 5 2 rfl)) ?_
    refine sq 46 rfl rfl (Y_move (v := .int .i64 (IntKind.i64.wrap ((IntKind.i64.wrap ((IntKind.i64.wrap ((IntKind.i64.wrap (k_1 + 1)) + 1)) + 1)) + 1))) rfl rfl) ?_
    refine sq 47 rfl rfl (Y_index (B := B) (m := a.length) (c := c) (k := .i64) (i := (i1 : Int)) k_sl_26_116 k_sz_116_5 rfl rfl rfl (gi_isSome enc_Dyadic_len rfl (hS5.cf (i := 0) rfl) (getI_set (y := (TDyadic.mk (TRing.mk k_1 (IntKind.i64.wrap (k_1 + 1)) (IntKind.i64.wrap ((IntKind.i64.wrap (k_1 + 1)) + 1)) (IntKind.i64.wrap ((IntKind.i64.wrap ((IntKind.i64.wrap (k_1 + 1)) + 1)) + 1))) x.Exp)) (getI_set (y := (TDyadic.mk (TRing.mk k_1 (IntKind.i64.wrap (k_1 + 1)) (IntKind.i64.wrap ((IntKind.i64.wrap (k_1 + 1)) + 1)) x.Num.D) x.Exp)) (getI_set (y := (TDyadic.mk (TRing.mk k_1 (IntKind.i64.wrap (k_1 + 1)) x.Num.C x.Num.D) x.Exp)) (getI_set (y := (TDyadic.mk (TRing.mk k_1 x.Num.B x.Num.C x.Num.D) x.Exp)) hx))))) (getI_nn (getI_set (y := (TDyadic.mk (TRing.mk k_1 (IntKind.i64.wrap (k_1 + 1)) (IntKind.i64.wrap ((IntKind.i64.wrap (k_1 + 1)) + 1)) (IntKind.i64.wrap ((IntKind.i64.wrap ((IntKind.i64.wrap (k_1 + 1)) + 1)) + 1))) x.Exp)) (getI_set (y := (TDyadic.mk (TRing.mk k_1 (IntKind.i64.wrap (k_1 + 1)) (IntKind.i64.wrap ((IntKind.i64.wrap (k_1 + 1)) + 1)) x.Num.D) x.Exp)) (getI_set (y := (TDyadic.mk (TRing.mk k_1 (IntKind.i64.wrap (k_1 + 1)) x.Num.C x.Num.D) x.Exp)) (getI_set (y := (TDyadic.mk (TRing.mk k_1 x.Num.B x.Num.C x.Num.D) x.Exp)) hx))))) (getI_ltI (getI_set (y := (TDyadic.mk (TRing.mk k_1 (IntKind.i64.wrap (k_1 + 1)) (IntKind.i64.wrap ((IntKind.i64.wrap (k_1 + 1)) + 1)) (IntKind.i64.wrap ((IntKind.i64.wrap ((IntKind.i64.wrap (k_1 + 1)) + 1)) + 1))) x.Exp)) (getI_set (y := (TDyadic.mk (TRing.mk k_1 (IntKind.i64.wrap (k_1 + 1)) (IntKind.i64.wrap ((IntKind.i64.wrap (k_1 + 1)) + 1)) x.Num.D) x.Exp)) (getI_set (y := (TDyadic.mk (TRing.mk k_1 (IntKind.i64.wrap (k_1 + 1)) x.Num.C x.Num.D) x.Exp)) (getI_set (y := (TDyadic.mk (TRing.mk k_1 x.Num.B x.Num.C x.Num.D) x.Exp)) hx)))) (set_len _ _ _ (set_len _ _ _ (set_len _ _ _ (set_len _ _ _ hl)))))) ?_
    refine sq 48 rfl rfl (Y_fieldAddr (B := B) (i := (i1 : Int).toNat * 5) (s := 0) k_fd_116_1_4_3 k_sz_3_1 rfl rfl) ?_
    refine ss0 rfl rfl (Ys_store (i := 0) (s := 1) (B := B) (T' := 116) (v := .int .i64 (IntKind.i64.wrap ((IntKind.i64.wrap ((IntKind.i64.wrap ((IntKind.i64.wrap (k_1 + 1)) + 1)) + 1)) + 1))) (vs := [.int .i64 (IntKind.i64.wrap ((IntKind.i64.wrap ((IntKind.i64.wrap ((IntKind.i64.wrap (k_1 + 1)) + 1)) + 1)) + 1))]) (k := (i1 : Int).toNat * 5 + 4) (cs' := ((((((m1.set (i1 : Int).toNat (TDyadic.mk (TRing.mk k_1 x.Num.B x.Num.C x.Num.D) x.Exp)).set (i1 : Int).toNat (TDyadic.mk (TRing.mk k_1 (IntKind.i64.wrap (k_1 + 1)) x.Num.C x.Num.D) x.Exp)).set (i1 : Int).toNat (TDyadic.mk (TRing.mk k_1 (IntKind.i64.wrap (k_1 + 1)) (IntKind.i64.wrap ((IntKind.i64.wrap (k_1 + 1)) + 1)) x.Num.D) x.Exp)).set (i1 : Int).toNat (TDyadic.mk (TRing.mk k_1 (IntKind.i64.wrap (k_1 + 1)) (IntKind.i64.wrap ((IntKind.i64.wrap (k_1 + 1)) + 1)) (IntKind.i64.wrap ((IntKind.i64.wrap ((IntKind.i64.wrap (k_1 + 1)) + 1)) + 1))) x.Exp)).set (i1 : Int).toNat (TDyadic.mk (TRing.mk k_1 (IntKind.i64.wrap (k_1 + 1)) (IntKind.i64.wrap ((IntKind.i64.wrap (k_1 + 1)) + 1)) (IntKind.i64.wrap ((IntKind.i64.wrap ((IntKind.i64.wrap (k_1 + 1)) + 1)) + 1))) (IntKind.i64.wrap ((IntKind.i64.wrap ((IntKind.i64.wrap ((IntKind.i64.wrap (k_1 + 1)) + 1)) + 1)) + 1)))).flatMap enc_Dyadic)) hS5 k_sz_3_1 rfl rfl rfl rfl rfl rfl rfl (gi_fit enc_Dyadic_len (getI_set (y := (TDyadic.mk (TRing.mk k_1 (IntKind.i64.wrap (k_1 + 1)) (IntKind.i64.wrap ((IntKind.i64.wrap (k_1 + 1)) + 1)) (IntKind.i64.wrap ((IntKind.i64.wrap ((IntKind.i64.wrap (k_1 + 1)) + 1)) + 1))) x.Exp)) (getI_set (y := (TDyadic.mk (TRing.mk k_1 (IntKind.i64.wrap (k_1 + 1)) (IntKind.i64.wrap ((IntKind.i64.wrap (k_1 + 1)) + 1)) x.Num.D) x.Exp)) (getI_set (y := (TDyadic.mk (TRing.mk k_1 (IntKind.i64.wrap (k_1 + 1)) x.Num.C x.Num.D) x.Exp)) (getI_set (y := (TDyadic.mk (TRing.mk k_1 x.Num.B x.Num.C x.Num.D) x.Exp)) hx)))) (j := 4) (k := 1) (by decide)) (gi_setf enc_Dyadic_len (getI_set (y := (TDyadic.mk (TRing.mk k_1 (IntKind.i64.wrap (k_1 + 1)) (IntKind.i64.wrap ((IntKind.i64.wrap (k_1 + 1)) + 1)) (IntKind.i64.wrap ((IntKind.i64.wrap ((IntKind.i64.wrap (k_1 + 1)) + 1)) + 1))) x.Exp)) (getI_set (y := (TDyadic.mk (TRing.mk k_1 (IntKind.i64.wrap (k_1 + 1)) (IntKind.i64.wrap ((IntKind.i64.wrap (k_1 + 1)) + 1)) x.Num.D) x.Exp)) (getI_set (y := (TDyadic.mk (TRing.mk k_1 (IntKind.i64.wrap (k_1 + 1)) x.Num.C x.Num.D) x.Exp)) (getI_set (y := (TDyadic.mk (TRing.mk k_1 x.Num.B x.Num.C x.Num.D) x.Exp)) hx)))) (TDyadic.mk (TRing.mk k_1 (IntKind.i64.wrap (k_1 + 1)) (IntKind.i64.wrap ((IntKind.i64.wrap (k_1 + 1)) + 1)) (IntKind.i64.wrap ((IntKind.i64.wrap ((IntKind.i64.wrap (k_1 + 1)) + 1)) + 1))) (IntKind.i64.wrap ((IntKind.i64.wrap ((IntKind.i64.wrap ((IntKind.i64.wrap (k_1 + 1)) + 1)) + 1)) + 1))) rfl (Nat.le_of_ble_eq_true rfl)) rfl) ?_
    rintro _ w_4 ⟨rfl, hS6⟩
    refine rw_nil ?_
    refine cw_region ?_
    refine sq 49 rfl rfl (Y_move (v := .int .i64 (IntKind.i64.wrap ((IntKind.i64.wrap ((IntKind.i64.wrap ((IntKind.i64.wrap (k_1 + 1)) + 1)) + 1)) + 1))) rfl rfl) ?_
    refine sq 50 rfl rfl (Y_add (k := .i64) (a := (IntKind.i64.wrap ((IntKind.i64.wrap ((IntKind.i64.wrap ((IntKind.i64.wrap (k_1 + 1)) + 1)) + 1)) + 1))) (b := 1) rfl rfl rfl) ?_
    refine sq 1 rfl rfl (Y_assign (v := .int .i64 (IntKind.i64.wrap ((IntKind.i64.wrap ((IntKind.i64.wrap ((IntKind.i64.wrap ((IntKind.i64.wrap (k_1 + 1)) + 1)) + 1)) + 1)) + 1))) rfl rfl) ?_
    refine rw_nil ?_
    refine cw_region ?_
    refine sq 10 rfl rfl (Y_move (v := .int .i64 (i1 : Int)) rfl (hf.get 5 2 rfl)) ?_
    refine sq 11 rfl rfl (Y_add (k := .i64) (a := (i1 : Int)) (b := 1) rfl rfl rfl) ?_
    refine sq 5 rfl rfl (Y_assign (v := .int .i64 (IntKind.i64.wrap ((i1 : Int) + 1))) rfl rfl) ?_
    refine rw_nil ?_
    obtain rfl := some_inj hb
    exact ⟨k_3, Nat.lt_succ_self _, i1 + 1, (((((m1.set (i1 : Int).toNat (TDyadic.mk (TRing.mk k_1 x.Num.B x.Num.C x.Num.D) x.Exp)).set (i1 : Int).toNat (TDyadic.mk (TRing.mk k_1 (IntKind.i64.wrap (k_1 + 1)) x.Num.C x.Num.D) x.Exp)).set (i1 : Int).toNat (TDyadic.mk (TRing.mk k_1 (IntKind.i64.wrap (k_1 + 1)) (IntKind.i64.wrap ((IntKind.i64.wrap (k_1 + 1)) + 1)) x.Num.D) x.Exp)).set (i1 : Int).toNat (TDyadic.mk (TRing.mk k_1 (IntKind.i64.wrap (k_1 + 1)) (IntKind.i64.wrap ((IntKind.i64.wrap (k_1 + 1)) + 1)) (IntKind.i64.wrap ((IntKind.i64.wrap ((IntKind.i64.wrap (k_1 + 1)) + 1)) + 1))) x.Exp)).set (i1 : Int).toNat (TDyadic.mk (TRing.mk k_1 (IntKind.i64.wrap (k_1 + 1)) (IntKind.i64.wrap ((IntKind.i64.wrap (k_1 + 1)) + 1)) (IntKind.i64.wrap ((IntKind.i64.wrap ((IntKind.i64.wrap (k_1 + 1)) + 1)) + 1))) (IntKind.i64.wrap ((IntKind.i64.wrap ((IntKind.i64.wrap ((IntKind.i64.wrap (k_1 + 1)) + 1)) + 1)) + 1)))), (IntKind.i64.wrap ((IntKind.i64.wrap ((IntKind.i64.wrap ((IntKind.i64.wrap ((IntKind.i64.wrap (k_1 + 1)) + 1)) + 1)) + 1)) + 1)), (FF.cons (hf.get 0 0 rfl) (FF.cons rfl (FF.cons (congrArg (Value.int .i64) (wr_succ hlt1 hN)) FF.nil))), (set_len _ _ _ (set_len _ _ _ (set_len _ _ _ (set_len _ _ _ (set_len _ _ _ hl))))), (hS6.sel [0] rfl rfl), (by omega), hL1⟩
  · skip
    obtain rfl : k_2 = 0 := by have h := of_decide_eq_false hlt; omega
    refine cw_exit rfl ?_
    obtain rfl := some_inj hL
    refine cw_seq ?_
    refine cw_region ?_
    refine sq 51 rfl rfl (Y_move (v := .int .i64 k_1) rfl (hf.get 1 1 rfl)) ?_
    refine sq 4 rfl rfl (Y_assign (v := .int .i64 k_1) rfl rfl) ?_
    refine rw_nil ?_
    refine cw_ret ?_
    obtain ⟨rfl, rfl⟩ := pr2 (some_inj hF1)
    exact ret1 Try.results43 (v1 := .int .i64 k_1) (resAt_tmp rfl) ⟨rfl, hl, (ST.subR (R' := []) (hS1.sel [0] rfl rfl) (fun _ h => by cases h))⟩

theorem c_laws_markMatrix (a : TMatrix) (k_ : Int) (B : Option Addr) (c n : Nat) (w0 : World) (hn : a.Cells.length = n) (hS : ST w0 (bl [⟨B, 116, (a.Cells.flatMap enc_Dyadic), c * 5⟩]) w0 [⟨B, 116, (a.Cells.flatMap enc_Dyadic), c * 5⟩] []) {r_ : Int} {m : List TDyadic} (hF : F_laws_markMatrix a k_ = some (r_, m)) :
    CV Try.prog 14 #[.agg #[.int .i64 a.Rows, .int .i64 a.Cols, .slice B n c], .int .i64 k_] w0 (fun v w' => v = .int .i64 r_ ∧ m.length = n ∧ ST w0 (bl [⟨B, 116, (a.Cells.flatMap enc_Dyadic), c * 5⟩]) w' [⟨B, 116, (m.flatMap enc_Dyadic), c * 5⟩] []) := by
  subst hn
  unfold F_laws_markMatrix at hF
  refine cv_of_cw 10 Try.func14 rfl Try.ntmps14 rfl ?_
  refine cw_seq ?_
  refine cw_region ?_
  refine ss 2 rfl rfl (Ys_box (T := 28) (v := .agg #[.int .i64 a.Rows, .int .i64 a.Cols, .slice B a.Cells.length c]) (cs := [.int .i64 a.Rows, .int .i64 a.Cols, .slice B a.Cells.length c]) (m := 3) hS rfl rfl rfl rfl) ?_
  rintro _ w_ ⟨b, rfl, hS1⟩
  have hS1 : ST w0 (bl [⟨B, 116, (a.Cells.flatMap enc_Dyadic), c * 5⟩]) _ [⟨B, 116, (a.Cells.flatMap enc_Dyadic), c * 5⟩, ⟨some ⟨b, 0, none⟩, 28, [.int .i64 a.Rows, .int .i64 a.Cols, .slice B a.Cells.length c], 3⟩] [] := hS1
  refine sq 4 rfl rfl (Y_assign (v := .int .i64 0) rfl rfl) ?_
  refine rw_nil ?_
  refine cw_seq ?_
  refine cw_region ?_
  refine sq 5 rfl rfl (Y_fieldAddr (B := some ⟨b, 0, none⟩) (i := 0) (s := 0) k_fd_28_2_2_26 k_sz_26_1 rfl rfl) ?_
  refine sq 6 rfl rfl (Y_load1 (B := some ⟨b, 0, none⟩) (i := 2) (cs := [.int .i64 a.Rows, .int .i64 a.Cols, .slice B a.Cells.length c]) (v := .slice B a.Cells.length c) k_sc_26 rfl rfl (hS1.cf (i := 1) rfl) rfl) ?_
  refine sq 7 rfl rfl (Y_move (v := .int .i64 k_) rfl rfl) ?_
  obtain ⟨⟨r_1, m1⟩, hc, hF⟩ := bind_inv hF
  refine sc 8 rfl rfl (Yc_func (g := 43) (vs := [.slice B a.Cells.length c, .int .i64 k_]) k_call_43 rfl (mc rfl (mc rfl mn)) (c_laws_markDyadicS a.Cells k_ B c a.Cells.length _ rfl (hS1.inn [true, false] rfl [] rfl) hc)) ?_
  rintro _ w_1 ⟨rfl, hl, hd⟩
  have hS2 := hS1.out [true, false] rfl hd
  have hS2 : ST w0 (bl [⟨B, 116, (a.Cells.flatMap enc_Dyadic), c * 5⟩]) _ [⟨some ⟨b, 0, none⟩, 28, [.int .i64 a.Rows, .int .i64 a.Cols, .slice B a.Cells.length c], 3⟩, ⟨B, 116, (m1.flatMap enc_Dyadic), c * 5⟩] [] := hS2
  refine sq 1 rfl rfl (Y_assign (v := .int .i64 r_1) rfl rfl) ?_
  refine rw_nil ?_
  refine cw_seq ?_
  refine cw_region ?_
  refine sq 9 rfl rfl (Y_move (v := .int .i64 r_1) rfl rfl) ?_
  refine sq 4 rfl rfl (Y_assign (v := .int .i64 r_1) rfl rfl) ?_
  refine rw_nil ?_
  refine cw_ret ?_
  obtain ⟨rfl, rfl⟩ := pr2 (some_inj hF)
  exact ret1 Try.results14 (v1 := .int .i64 r_1) (resAt_tmp rfl) ⟨rfl, hl, (ST.subR (R' := []) (hS2.sel [1] rfl rfl) (fun _ h => by cases h))⟩

theorem c_laws_heldDyadicS (a : List TDyadic) (k_ : Int) (B : Option Addr) (c n : Nat) (w0 : World) (hn : a.length = n) (hS : ST w0 [] w0 [] [⟨B, (a.flatMap enc_Dyadic)⟩]) {r_ : Int} (hF : F_laws_heldDyadicS a k_ = some r_) :
    CV Try.prog 44 #[.slice B n c, .int .i64 k_] w0 (fun v w' => v = .int .i64 r_ ∧ ST w0 [] w' [] []) := by
  subst hn
  unfold F_laws_heldDyadicS at hF
  refine cv_of_cw 62 Try.func44 rfl Try.ntmps44 rfl ?_
  refine cw_seq ?_
  refine cw_region ?_
  refine sq 4 rfl rfl (Y_assign (v := .int .i64 0) rfl rfl) ?_
  refine rw_nil ?_
  refine cw_seq ?_
  refine cw_seq ?_
  refine cw_region ?_
  refine sq 5 rfl rfl (Y_assign (v := .int .i64 0) rfl rfl) ?_
  refine rw_nil ?_
  obtain ⟨hN, hF⟩ := chk_inv hF
  obtain ⟨z, hz, hF1⟩ := bind_inv hF
  refine cw_block ?_
  refine cw_loop (fun k f w => ∃ (i1 : Nat) (k_1 : Int), FF f [(0, .slice B a.length c), (1, .int .i64 k_1), (5, .int .i64 (i1 : Int))] ∧ ST w0 [] w [] [⟨B, (a.flatMap enc_Dyadic)⟩] ∧ i1 + k = a.length ∧ forX (F_laws_heldDyadicS_l1 a) k i1 k_1 = some z) a.length ⟨0, k_, (FF.cons rfl (FF.cons rfl (FF.cons rfl FF.nil))), (hS.sel [] rfl rfl), Nat.zero_add _, hz⟩ ?_
  rintro k_2 f w ⟨i1, k_1, hf, hS1, hik, hL⟩
  refine cw_seq ?_
  refine cw_seq ?_
  refine cw_region ?_
  refine sq 6 rfl rfl (Y_move (v := .int .i64 (i1 : Int)) rfl (hf.get 5 2 rfl)) ?_
  refine sq 7 rfl rfl (Y_move (v := .slice B a.length c) rfl (hf.get 0 0 rfl)) ?_
  refine sq 8 rfl rfl (Y_len (B := B) (m := a.length) (c := c) k_sl_26_116 rfl rfl) ?_
  refine sq 9 rfl rfl (Y_lt (k := .i64) (a := (i1 : Int)) (b := (a.length : Int)) rfl rfl rfl) ?_
  refine rw_nil ?_
  refine cw_cond (b := (decide ((i1 : Int) < (a.length : Int)))) rfl (fun hlt => ?_) (fun hlt => ?_)
  · skip
    have hlt1 : i1 < a.length := by have h := of_decide_eq_true hlt; omega
    obtain ⟨k_3, rfl⟩ : ∃ k2, k_2 = k2 + 1 := ⟨k_2 - 1, by omega⟩
    obtain ⟨y, hb, hL1⟩ := forX_go hL
    unfold F_laws_heldDyadicS_l1 at hb
    refine cw_skip ?_
    refine cw_seq ?_
    refine cw_block ?_
    refine cw_seq ?_
    refine cw_seq ?_
    refine cw_region ?_
    refine sq 12 rfl rfl (Y_move (v := .slice B a.length c) rfl (hf.get 0 0 rfl)) ?_
    refine sq 13 rfl rfl (Y_move (v := .int .i64 (i1 : Int)) rfl (hf.get 5 2 rfl)) ?_
    obtain ⟨x, hx, hb⟩ := bind_inv hb
    refine sq 14 rfl rfl (Y_index (B := B) (m := a.length) (c := c) (k := .i64) (i := (i1 : Int)) k_sl_26_116 k_sz_116_5 rfl rfl rfl (gi_isSome enc_Dyadic_len rfl (hS1.rf (i := 0) rfl) hx) (getI_nn hx) (getI_ltI hx rfl)) ?_
    refine sq 15 rfl rfl (Y_fieldAddr (B := B) (i := (i1 : Int).toNat * 5) (s := 3) k_fd_116_0_0_114 k_sz_114_4 rfl rfl) ?_
    refine sq 16 rfl rfl (Y_fieldAddr2 (B := B) (i := (i1 : Int).toNat * 5) (e := 0) (l := 0) (s := 0) k_fd_114_0_0_3 k_sz_3_1 rfl rfl rfl) ?_
    refine sq 17 rfl rfl (Y_load1 (B := B) (i := (i1 : Int).toNat * 5 + 0) (cs := (a.flatMap enc_Dyadic)) (v := .int .i64 x.Num.A) k_sc_3 rfl rfl (hS1.rf (i := 0) rfl) (gi_at enc_Dyadic_len hx rfl)) ?_
    refine sq 18 rfl rfl (Y_move (v := .int .i64 k_1) rfl (hf.get 1 1 rfl)) ?_
    refine sq 19 rfl rfl (Y_ne (k := .i64) (a := x.Num.A) (b := k_1) rfl rfl rfl) ?_
    refine rw_nil ?_
    refine cw_cond (b := (x.Num.A != k_1)) rfl (fun hb1 => ?_) (fun hb1 => ?_)
    · skip
      have hF2 := ct hb hb1
      refine cw_seq ?_
      refine cw_region ?_
      refine sq 4 rfl rfl (Y_assign (v := .int .i64 (-1)) rfl rfl) ?_
      refine rw_nil ?_
      refine cw_ret ?_
      obtain rfl := some_inj hF2
      obtain rfl := some_inj hL1
      obtain rfl := some_inj hF1
      exact ret1 Try.results44 (v1 := .int .i64 (-1)) (resAt_tmp rfl) ⟨rfl, (ST.subR (R' := []) (hS1.sel [] rfl rfl) (fun _ h => by cases h))⟩
    · skip
      have hF3 := cf' hb hb1
      refine cw_skip ?_
      refine cw_seq ?_
      refine cw_region ?_
      refine sq 20 rfl rfl (Y_move (v := .int .i64 k_1) rfl (hf.get 1 1 rfl)) ?_
      refine sq 21 rfl rfl (Y_add (k := .i64) (a := k_1) (b := 1) rfl rfl rfl) ?_
      refine sq 1 rfl rfl (Y_assign (v := .int .i64 (IntKind.i64.wrap (k_1 + 1))) rfl rfl) ?_
      refine rw_nil ?_
      refine cw_seq ?_
      refine cw_seq ?_
      refine cw_region ?_
      refine sq 22 rfl rfl (Y_move (v := .slice B a.length c) rfl (hf.get 0 0 rfl)) ?_
      refine sq 23 rfl rfl (Y_move (v := .int .i64 (i1 : Int)) rfl (hf.get 5 2 rfl)) ?_
      refine sq 24 rfl rfl (Y_index (B := B) (m := a.length) (c := c) (k := .i64) (i := (i1 : Int)) k_sl_26_116 k_sz_116_5 rfl rfl rfl (gi_isSome enc_Dyadic_len rfl (hS1.rf (i := 0) rfl) hx) (getI_nn hx) (getI_ltI hx rfl)) ?_
      refine sq 25 rfl rfl (Y_fieldAddr (B := B) (i := (i1 : Int).toNat * 5) (s := 3) k_fd_116_0_0_114 k_sz_114_4 rfl rfl) ?_
      refine sq 26 rfl rfl (Y_fieldAddr2 (B := B) (i := (i1 : Int).toNat * 5) (e := 0) (l := 1) (s := 0) k_fd_114_1_1_3 k_sz_3_1 rfl rfl rfl) ?_
      refine sq 27 rfl rfl (Y_load1 (B := B) (i := (i1 : Int).toNat * 5 + 1) (cs := (a.flatMap enc_Dyadic)) (v := .int .i64 x.Num.B) k_sc_3 rfl rfl (hS1.rf (i := 0) rfl) (gi_at enc_Dyadic_len hx rfl)) ?_
      refine sq 28 rfl rfl (Y_move (v := .int .i64 (IntKind.i64.wrap (k_1 + 1))) rfl rfl) ?_
      refine sq 29 rfl rfl (Y_ne (k := .i64) (a := x.Num.B) (b := (IntKind.i64.wrap (k_1 + 1))) rfl rfl rfl) ?_
      refine rw_nil ?_
      refine cw_cond (b := (x.Num.B != (IntKind.i64.wrap (k_1 + 1)))) rfl (fun hb2 => ?_) (fun hb2 => ?_)
      · skip
        have hF4 := ct hF3 hb2
        refine cw_seq ?_
        refine cw_region ?_
        refine sq 4 rfl rfl (Y_assign (v := .int .i64 (-1)) rfl rfl) ?_
        refine rw_nil ?_
        refine cw_ret ?_
        obtain rfl := some_inj hF4
        obtain rfl := some_inj hL1
        obtain rfl := some_inj hF1
        exact ret1 Try.results44 (v1 := .int .i64 (-1)) (resAt_tmp rfl) ⟨rfl, (ST.subR (R' := []) (hS1.sel [] rfl rfl) (fun _ h => by cases h))⟩
      · skip
        have hF5 := cf' hF3 hb2
        refine cw_skip ?_
        refine cw_seq ?_
        refine cw_region ?_
        refine sq 30 rfl rfl (Y_move (v := .int .i64 (IntKind.i64.wrap (k_1 + 1))) rfl rfl) ?_
        refine sq 31 rfl rfl (Y_add (k := .i64) (a := (IntKind.i64.wrap (k_1 + 1))) (b := 1) rfl rfl rfl) ?_
        refine sq 1 rfl rfl (Y_assign (v := .int .i64 (IntKind.i64.wrap ((IntKind.i64.wrap (k_1 + 1)) + 1))) rfl rfl) ?_
        refine rw_nil ?_
        refine cw_seq ?_
        refine cw_seq ?_
        refine cw_region ?_
        refine sq 32 rfl rfl (Y_move (v := .slice B a.length c) rfl (hf.get 0 0 rfl)) ?_
        refine sq 33 rfl rfl (Y_move (v := .int .i64 (i1 : Int)) rfl (hf.get 5 2 rfl)) ?_
        refine sq 34 rfl rfl (Y_index (B := B) (m := a.length) (c := c) (k := .i64) (i := (i1 : Int)) k_sl_26_116 k_sz_116_5 rfl rfl rfl (gi_isSome enc_Dyadic_len rfl (hS1.rf (i := 0) rfl) hx) (getI_nn hx) (getI_ltI hx rfl)) ?_
        refine sq 35 rfl rfl (Y_fieldAddr (B := B) (i := (i1 : Int).toNat * 5) (s := 3) k_fd_116_0_0_114 k_sz_114_4 rfl rfl) ?_
        refine sq 36 rfl rfl (Y_fieldAddr2 (B := B) (i := (i1 : Int).toNat * 5) (e := 0) (l := 2) (s := 0) k_fd_114_2_2_3 k_sz_3_1 rfl rfl rfl) ?_
        refine sq 37 rfl rfl (Y_load1 (B := B) (i := (i1 : Int).toNat * 5 + 2) (cs := (a.flatMap enc_Dyadic)) (v := .int .i64 x.Num.C) k_sc_3 rfl rfl (hS1.rf (i := 0) rfl) (gi_at enc_Dyadic_len hx rfl)) ?_
        refine sq 38 rfl rfl (Y_move (v := .int .i64 (IntKind.i64.wrap ((IntKind.i64.wrap (k_1 + 1)) + 1))) rfl rfl) ?_
        refine sq 39 rfl rfl (Y_ne (k := .i64) (a := x.Num.C) (b := (IntKind.i64.wrap ((IntKind.i64.wrap (k_1 + 1)) + 1))) rfl rfl rfl) ?_
        refine rw_nil ?_
        refine cw_cond (b := (x.Num.C != (IntKind.i64.wrap ((IntKind.i64.wrap (k_1 + 1)) + 1)))) rfl (fun hb3 => ?_) (fun hb3 => ?_)
        · skip
          have hF6 := ct hF5 hb3
          refine cw_seq ?_
          refine cw_region ?_
          refine sq 4 rfl rfl (Y_assign (v := .int .i64 (-1)) rfl rfl) ?_
          refine rw_nil ?_
          refine cw_ret ?_
          obtain rfl := some_inj hF6
          obtain rfl := some_inj hL1
          obtain rfl := some_inj hF1
          exact ret1 Try.results44 (v1 := .int .i64 (-1)) (resAt_tmp rfl) ⟨rfl, (ST.subR (R' := []) (hS1.sel [] rfl rfl) (fun _ h => by cases h))⟩
        · skip
          have hF7 := cf' hF5 hb3
          refine cw_skip ?_
          refine cw_seq ?_
          refine cw_region ?_
          refine sq 40 rfl rfl (Y_move (v := .int .i64 (IntKind.i64.wrap ((IntKind.i64.wrap (k_1 + 1)) + 1))) rfl rfl) ?_
          refine sq 41 rfl rfl (Y_add (k := .i64) (a := (IntKind.i64.wrap ((IntKind.i64.wrap (k_1 + 1)) + 1))) (b := 1) rfl rfl rfl) ?_
          refine sq 1 rfl rfl (Y_assign (v := .int .i64 (IntKind.i64.wrap ((IntKind.i64.wrap ((IntKind.i64.wrap (k_1 + 1)) + 1)) + 1))) rfl rfl) ?_
          refine rw_nil ?_
          refine cw_seq ?_
          refine cw_seq ?_
          refine cw_region ?_
          refine sq 42 rfl rfl (Y_move (v := .slice B a.length c) rfl (hf.get 0 0 rfl)) ?_
          refine sq 43 rfl rfl (Y_move (v := .int .i64 (i1 : Int)) rfl (hf.get 5 2 rfl)) ?_
          refine sq 44 rfl rfl (Y_index (B := B) (m := a.length) (c := c) (k := .i64) (i := (i1 : Int)) k_sl_26_116 k_sz_116_5 rfl rfl rfl (gi_isSome enc_Dyadic_len rfl (hS1.rf (i := 0) rfl) hx) (getI_nn hx) (getI_ltI hx rfl)) ?_
          refine sq 45 rfl rfl (Y_fieldAddr (B := B) (i := (i1 : Int).toNat * 5) (s := 3) k_fd_116_0_0_114 k_sz_114_4 rfl rfl) ?_
          refine sq 46 rfl rfl (Y_fieldAddr2 (B := B) (i := (i1 : Int).toNat * 5) (e := 0) (l := 3) (s := 0) k_fd_114_3_3_3 k_sz_3_1 rfl rfl rfl) ?_
          refine sq 47 rfl rfl (Y_load1 (B := B) (i := (i1 : Int).toNat * 5 + 3) (cs := (a.flatMap enc_Dyadic)) (v := .int .i64 x.Num.D) k_sc_3 rfl rfl (hS1.rf (i := 0) rfl) (gi_at enc_Dyadic_len hx rfl)) ?_
          refine sq 48 rfl rfl (Y_move (v := .int .i64 (IntKind.i64.wrap ((IntKind.i64.wrap ((IntKind.i64.wrap (k_1 + 1)) + 1)) + 1))) rfl rfl) ?_
          refine sq 49 rfl rfl (Y_ne (k := .i64) (a := x.Num.D) (b := (IntKind.i64.wrap ((IntKind.i64.wrap ((IntKind.i64.wrap (k_1 + 1)) + 1)) + 1))) rfl rfl rfl) ?_
          refine rw_nil ?_
          refine cw_cond (b := (x.Num.D != (IntKind.i64.wrap ((IntKind.i64.wrap ((IntKind.i64.wrap (k_1 + 1)) + 1)) + 1)))) rfl (fun hb4 => ?_) (fun hb4 => ?_)
          · skip
            have hF8 := ct hF7 hb4
            refine cw_seq ?_
            refine cw_region ?_
            refine sq 4 rfl rfl (Y_assign (v := .int .i64 (-1)) rfl rfl) ?_
            refine rw_nil ?_
            refine cw_ret ?_
            obtain rfl := some_inj hF8
            obtain rfl := some_inj hL1
            obtain rfl := some_inj hF1
            exact ret1 Try.results44 (v1 := .int .i64 (-1)) (resAt_tmp rfl) ⟨rfl, (ST.subR (R' := []) (hS1.sel [] rfl rfl) (fun _ h => by cases h))⟩
          · skip
            have hF9 := cf' hF7 hb4
            refine cw_skip ?_
            refine cw_seq ?_
            refine cw_region ?_
            refine sq 50 rfl rfl (Y_move (v := .int .i64 (IntKind.i64.wrap ((IntKind.i64.wrap ((IntKind.i64.wrap (k_1 + 1)) + 1)) + 1))) rfl rfl) ?_
            refine sq 51 rfl rfl (Y_add (k := .i64) (a := (IntKind.i64.wrap ((IntKind.i64.wrap ((IntKind.i64.wrap (k_1 + 1)) + 1)) + 1))) (b := 1) rfl rfl rfl) ?_
            refine sq 1 rfl rfl (Y_assign (v := .int .i64 (IntKind.i64.wrap ((IntKind.i64.wrap ((IntKind.i64.wrap ((IntKind.i64.wrap (k_1 + 1)) + 1)) + 1)) + 1))) rfl rfl) ?_
            refine rw_nil ?_
            refine cw_seq ?_
            refine cw_seq ?_
            refine cw_region ?_
            refine sq 52 rfl rfl (Y_move (v := .slice B a.length c) rfl (hf.get 0 0 rfl)) ?_
            refine sq 53 rfl rfl (Y_move (v := .int .i64 (i1 : Int)) rfl (hf.get 5 2 rfl)) ?_
            refine sq 54 rfl rfl (Y_index (B := B) (m := a.length) (c := c) (k := .i64) (i := (i1 : Int)) k_sl_26_116 k_sz_116_5 rfl rfl rfl (gi_isSome enc_Dyadic_len rfl (hS1.rf (i := 0) rfl) hx) (getI_nn hx) (getI_ltI hx rfl)) ?_
            refine sq 55 rfl rfl (Y_fieldAddr (B := B) (i := (i1 : Int).toNat * 5) (s := 0) k_fd_116_1_4_3 k_sz_3_1 rfl rfl) ?_
            refine sq 56 rfl rfl (Y_load1 (B := B) (i := (i1 : Int).toNat * 5 + 4) (cs := (a.flatMap enc_Dyadic)) (v := .int .i64 x.Exp) k_sc_3 rfl rfl (hS1.rf (i := 0) rfl) (gi_at enc_Dyadic_len hx rfl)) ?_
            refine sq 57 rfl rfl (Y_move (v := .int .i64 (IntKind.i64.wrap ((IntKind.i64.wrap ((IntKind.i64.wrap ((IntKind.i64.wrap (k_1 + 1)) + 1)) + 1)) + 1))) rfl rfl) ?_
            refine sq 58 rfl rfl (Y_ne (k := .i64) (a := x.Exp) (b := (IntKind.i64.wrap ((IntKind.i64.wrap ((IntKind.i64.wrap ((IntKind.i64.wrap (k_1 + 1)) + 1)) + 1)) + 1))) rfl rfl rfl) ?_
            refine rw_nil ?_
            refine cw_cond (b := (x.Exp != (IntKind.i64.wrap ((IntKind.i64.wrap ((IntKind.i64.wrap ((IntKind.i64.wrap (k_1 + 1)) + 1)) + 1)) + 1)))) rfl (fun hb5 => ?_) (fun hb5 => ?_)
            · skip
              have hF10 := ct hF9 hb5
              refine cw_seq ?_
              refine cw_region ?_
              refine sq 4 rfl rfl (Y_assign (v := .int .i64 (-1)) rfl rfl) ?_
              refine rw_nil ?_
              refine cw_ret ?_
              obtain rfl := some_inj hF10
              obtain rfl := some_inj hL1
              obtain rfl := some_inj hF1
              exact ret1 Try.results44 (v1 := .int .i64 (-1)) (resAt_tmp rfl) ⟨rfl, (ST.subR (R' := []) (hS1.sel [] rfl rfl) (fun _ h => by cases h))⟩
            · skip
              have hF11 := cf' hF9 hb5
              refine cw_skip ?_
              refine cw_region ?_
              refine sq 59 rfl rfl (Y_move (v := .int .i64 (IntKind.i64.wrap ((IntKind.i64.wrap ((IntKind.i64.wrap ((IntKind.i64.wrap (k_1 + 1)) + 1)) + 1)) + 1))) rfl rfl) ?_
              refine sq 60 rfl rfl (Y_add (k := .i64) (a := (IntKind.i64.wrap ((IntKind.i64.wrap ((IntKind.i64.wrap ((IntKind.i64.wrap (k_1 + 1)) + 1)) + 1)) + 1))) (b := 1) rfl rfl rfl) ?_
              refine sq 1 rfl rfl (Y_assign (v := .int .i64 (IntKind.i64.wrap ((IntKind.i64.wrap ((IntKind.i64.wrap ((IntKind.i64.wrap ((IntKind.i64.wrap (k_1 + 1)) + 1)) + 1)) + 1)) + 1))) rfl rfl) ?_
              refine rw_nil ?_
              refine cw_region ?_
              refine sq 10 rfl rfl (Y_move (v := .int .i64 (i1 : Int)) rfl (hf.get 5 2 rfl)) ?_
              refine sq 11 rfl rfl (Y_add (k := .i64) (a := (i1 : Int)) (b := 1) rfl rfl rfl) ?_
              refine sq 5 rfl rfl (Y_assign (v := .int .i64 (IntKind.i64.wrap ((i1 : Int) + 1))) rfl rfl) ?_
              refine rw_nil ?_
              obtain rfl := some_inj hF11
              exact ⟨k_3, Nat.lt_succ_self _, i1 + 1, (IntKind.i64.wrap ((IntKind.i64.wrap ((IntKind.i64.wrap ((IntKind.i64.wrap ((IntKind.i64.wrap (k_1 + 1)) + 1)) + 1)) + 1)) + 1)), (FF.cons (hf.get 0 0 rfl) (FF.cons rfl (FF.cons (congrArg (Value.int .i64) (wr_succ hlt1 hN)) FF.nil))), (hS1.sel [] rfl rfl), (by omega), hL1⟩
  · skip
    obtain rfl : k_2 = 0 := by have h := of_decide_eq_false hlt; omega
    refine cw_exit rfl ?_
    obtain rfl := some_inj hL
    refine cw_seq ?_
    refine cw_region ?_
    refine sq 61 rfl rfl (Y_move (v := .int .i64 k_1) rfl (hf.get 1 1 rfl)) ?_
    refine sq 4 rfl rfl (Y_assign (v := .int .i64 k_1) rfl rfl) ?_
    refine rw_nil ?_
    refine cw_ret ?_
    obtain rfl := some_inj hF1
    exact ret1 Try.results44 (v1 := .int .i64 k_1) (resAt_tmp rfl) ⟨rfl, (ST.subR (R' := []) (hS1.sel [] rfl rfl) (fun _ h => by cases h))⟩

theorem c_laws_heldMatrix (a : TMatrix) (k_ : Int) (B : Option Addr) (c n : Nat) (w0 : World) (hn : a.Cells.length = n) (hS : ST w0 [] w0 [] [⟨B, (a.Cells.flatMap enc_Dyadic)⟩]) {r_ : Int} (hF : F_laws_heldMatrix a k_ = some r_) :
    CV Try.prog 15 #[.agg #[.int .i64 a.Rows, .int .i64 a.Cols, .slice B n c], .int .i64 k_] w0 (fun v w' => v = .int .i64 r_ ∧ ST w0 [] w' [] []) := by
  subst hn
  unfold F_laws_heldMatrix at hF
  refine cv_of_cw 12 Try.func15 rfl Try.ntmps15 rfl ?_
  refine cw_seq ?_
  refine cw_region ?_
  refine ss 2 rfl rfl (Ys_box (T := 28) (v := .agg #[.int .i64 a.Rows, .int .i64 a.Cols, .slice B a.Cells.length c]) (cs := [.int .i64 a.Rows, .int .i64 a.Cols, .slice B a.Cells.length c]) (m := 3) hS rfl rfl rfl rfl) ?_
  rintro _ w_ ⟨b, rfl, hS1⟩
  refine sq 4 rfl rfl (Y_assign (v := .int .i64 0) rfl rfl) ?_
  refine rw_nil ?_
  refine cw_seq ?_
  refine cw_region ?_
  refine sq 5 rfl rfl (Y_fieldAddr (B := some ⟨b, 0, none⟩) (i := 0) (s := 0) k_fd_28_2_2_26 k_sz_26_1 rfl rfl) ?_
  refine sq 6 rfl rfl (Y_load1 (B := some ⟨b, 0, none⟩) (i := 2) (cs := [.int .i64 a.Rows, .int .i64 a.Cols, .slice B a.Cells.length c]) (v := .slice B a.Cells.length c) k_sc_26 rfl rfl (hS1.cf (i := 0) rfl) rfl) ?_
  refine sq 7 rfl rfl (Y_move (v := .int .i64 k_) rfl rfl) ?_
  obtain ⟨r_1, hc, hF⟩ := bind_inv hF
  refine sc 8 rfl rfl (Yc_func (g := 44) (vs := [.slice B a.Cells.length c, .int .i64 k_]) k_call_44 rfl (mc rfl (mc rfl mn)) (c_laws_heldDyadicS a.Cells k_ B c a.Cells.length _ rfl (hS1.inn0 [(true, 0)] rfl) hc)) ?_
  rintro _ w_1 ⟨rfl, hd⟩
  have hS2 := hS1.out00 hd
  refine sq 1 rfl rfl (Y_assign (v := .int .i64 r_1) rfl rfl) ?_
  refine rw_nil ?_
  refine cw_seq ?_
  refine cw_seq ?_
  refine cw_region ?_
  refine sq 9 rfl rfl (Y_move (v := .int .i64 r_1) rfl rfl) ?_
  refine sq 10 rfl rfl (Y_lt (k := .i64) (a := r_1) (b := 0) rfl rfl rfl) ?_
  refine rw_nil ?_
  refine cw_cond (b := (decide (r_1 < 0))) rfl (fun hb => ?_) (fun hb => ?_)
  · skip
    have hF1 := ct hF hb
    refine cw_seq ?_
    refine cw_region ?_
    refine sq 4 rfl rfl (Y_assign (v := .int .i64 (-1)) rfl rfl) ?_
    refine rw_nil ?_
    refine cw_ret ?_
    obtain rfl := some_inj hF1
    exact ret1 Try.results15 (v1 := .int .i64 (-1)) (resAt_tmp rfl) ⟨rfl, (ST.subR (R' := []) (hS2.sel [] rfl rfl) (fun _ h => by cases h))⟩
  · skip
    have hF2 := cf' hF hb
    refine cw_skip ?_
    refine cw_seq ?_
    refine cw_region ?_
    refine sq 11 rfl rfl (Y_move (v := .int .i64 r_1) rfl rfl) ?_
    refine sq 4 rfl rfl (Y_assign (v := .int .i64 r_1) rfl rfl) ?_
    refine rw_nil ?_
    refine cw_ret ?_
    obtain rfl := some_inj hF2
    exact ret1 Try.results15 (v1 := .int .i64 r_1) (resAt_tmp rfl) ⟨rfl, (ST.subR (R' := []) (hS2.sel [] rfl rfl) (fun _ h => by cases h))⟩

theorem c_laws_FnExactStateAfter (aC : TCircuit) (aStart : Int) (B : Option Addr) (c n : Nat) (w0 : World) (hn : aC.Gates.length = n) (hS : ST w0 [] w0 [] [⟨B, (aC.Gates.flatMap enc_Gate)⟩]) {r_ : Bool} (hF : F_laws_FnExactStateAfter aC aStart = some r_) :
    CV Try.prog 3 #[.agg #[.int .i64 aC.Qubits, .slice B n c], .int .i64 aStart] w0 (fun v w' => v = .bool r_ ∧ ST w0 [] w' [] []) := by
  subst hn
  unfold F_laws_FnExactStateAfter at hF
  refine cv_of_cw 101 Try.func3 rfl Try.ntmps3 rfl ?_
  refine cw_seq ?_
  refine cw_region ?_
  refine ss 2 rfl rfl (Ys_box (T := 24) (v := .agg #[.int .i64 aC.Qubits, .slice B aC.Gates.length c]) (cs := [.int .i64 aC.Qubits, .slice B aC.Gates.length c]) (m := 2) hS rfl rfl rfl rfl) ?_
  rintro _ w_ ⟨b, rfl, hS1⟩
  refine sq 4 rfl rfl (Y_assign (v := .bool false) rfl rfl) ?_
  refine rw_nil ?_
  refine cw_seq ?_
  refine cw_region ?_
  refine sq 5 rfl rfl (Y_assign (v := .int .i64 1048576) rfl rfl) ?_
  refine rw_nil ?_
  refine cw_seq ?_
  refine cw_region ?_
  refine sq 16 rfl rfl (Y_loadA (B := some ⟨b, 0, none⟩) (i := 0) (cs := [.int .i64 aC.Qubits, .slice B aC.Gates.length c]) (vs := [.int .i64 aC.Qubits, .slice B aC.Gates.length c]) k_ag_24 k_sz_24_2 rfl rfl (hS1.cf (i := 0) rfl) rfl rfl) ?_
  refine sq 17 rfl rfl (Y_move (v := .int .i64 1048576) rfl rfl) ?_
  obtain ⟨r_1, hc, hF⟩ := bind_inv hF
  refine sc 18 rfl rfl (Yc_func (g := 7) (vs := [.agg #[.int .i64 aC.Qubits, .slice B aC.Gates.length c], .int .i64 1048576]) k_call_7 rfl (mc rfl (mc rfl mn)) (c_laws_szCircuit aC 1048576 B c aC.Gates.length _ rfl (hS1.inn0 [(true, 0)] rfl) hc)) ?_
  rintro _ w_1 ⟨rfl, hd⟩
  have hS2 := hS1.out00 hd
  refine sq 5 rfl rfl (Y_assign (v := .int .i64 r_1) rfl rfl) ?_
  refine rw_nil ?_
  refine cw_seq ?_
  refine cw_seq ?_
  refine cw_region ?_
  refine sq 19 rfl rfl (Y_move (v := .int .i64 r_1) rfl rfl) ?_
  refine sq 20 rfl rfl (Y_lt (k := .i64) (a := r_1) (b := 0) rfl rfl rfl) ?_
  refine rw_nil ?_
  refine cw_cond (b := (decide (r_1 < 0))) rfl (fun hb => ?_) (fun hb => ?_)
  · skip
    have hF1 := ct hF hb
    refine cw_seq ?_
    refine cw_region ?_
    refine sq 4 rfl rfl (Y_assign (v := .bool true) rfl rfl) ?_
    refine rw_nil ?_
    refine cw_ret ?_
    obtain rfl := some_inj hF1
    exact ret1 Try.results3 (v1 := .bool true) (resAt_tmp rfl) ⟨rfl, (ST.subR (R' := []) (hS2.sel [] rfl rfl) (fun _ h => by cases h))⟩
  · skip
    have hF2 := cf' hF hb
    refine cw_skip ?_
    refine cw_seq ?_
    refine cw_region ?_
    refine sq 22 rfl rfl (Y_loadA (B := some ⟨b, 0, none⟩) (i := 0) (cs := [.int .i64 aC.Qubits, .slice B aC.Gates.length c]) (vs := [.int .i64 aC.Qubits, .slice B aC.Gates.length c]) k_ag_24 k_sz_24_2 rfl rfl (hS2.cf (i := 0) rfl) rfl rfl) ?_
    obtain ⟨r_2, hc1, hF2⟩ := bind_inv hF2
    refine sc 23 rfl rfl (Yc_func (g := 9) (vs := [.agg #[.int .i64 aC.Qubits, .slice B aC.Gates.length c]]) k_call_9 rfl (mc rfl mn) (c_laws_toCircuit aC B c aC.Gates.length _ rfl (hS2.inn0 [(true, 0)] rfl) hc1)) ?_
    rintro _ w_2 ⟨B1, c1, rfl, hd1⟩
    have hS3 := hS2.out0 hd1
    have hS3 : ST w0 [] _ [⟨some ⟨b, 0, none⟩, 24, [.int .i64 aC.Qubits, .slice B aC.Gates.length c], 2⟩, ⟨B1, 109, (r_2.Gates.flatMap enc_Gate), c1 * 3⟩] [⟨B, (aC.Gates.flatMap enc_Gate)⟩] := hS3
    refine sq 24 rfl rfl (Y_move (v := .int .i64 aStart) rfl rfl) ?_
    obtain ⟨⟨r_3, r_4⟩, hc2, hF2⟩ := bind_inv hF2
    refine sc 25 rfl rfl (Yc_func (g := 8) (vs := [.agg #[.int .i64 r_2.Qubits, .slice B1 r_2.Gates.length c1], .int .i64 aStart]) k_call_8 rfl (mc rfl (mc rfl mn)) (c_spec_StateAfter r_2 aStart B1 c1 r_2.Gates.length _ rfl (hS3.inn0 [(false, 1)] rfl) hc2)) ?_
    rintro _ w_3 ⟨B2, c2, rfl, hd2⟩
    have hS4 := hS3.out0 hd2
    have hS4 : ST w0 [] _ [⟨some ⟨b, 0, none⟩, 24, [.int .i64 aC.Qubits, .slice B aC.Gates.length c], 2⟩, ⟨B1, 109, (r_2.Gates.flatMap enc_Gate), c1 * 3⟩, ⟨B2, 116, (r_3.Cells.flatMap enc_Dyadic), c2 * 5⟩] [⟨B, (aC.Gates.flatMap enc_Gate)⟩] := hS4
    refine sq 21 rfl rfl (Y_move (v := .tuple #[.agg #[.int .i64 r_3.Rows, .int .i64 r_3.Cols, .slice B2 r_3.Cells.length c2], .bool r_4]) rfl rfl) ?_
    refine sq 26 rfl rfl (Y_extract (v := .agg #[.int .i64 r_3.Rows, .int .i64 r_3.Cols, .slice B2 r_3.Cells.length c2]) rfl rfl rfl) ?_
    refine sq 27 rfl rfl (Y_extract (v := .bool r_4) rfl rfl rfl) ?_
    refine ss 6 rfl rfl (Ys_alloc (T := 28) (cs := [.int .i64 0, .int .i64 0, .slice none 0 0]) (m := 3) hS4 k_zero_28 rfl rfl rfl) ?_
    rintro _ w_4 ⟨b1, rfl, hS5⟩
    have hS5 : ST w0 [] _ [⟨some ⟨b, 0, none⟩, 24, [.int .i64 aC.Qubits, .slice B aC.Gates.length c], 2⟩, ⟨B1, 109, (r_2.Gates.flatMap enc_Gate), c1 * 3⟩, ⟨B2, 116, (r_3.Cells.flatMap enc_Dyadic), c2 * 5⟩, ⟨some ⟨b1, 0, none⟩, 28, [.int .i64 0, .int .i64 0, .slice none 0 0], 3⟩] [⟨B, (aC.Gates.flatMap enc_Gate)⟩] := hS5
    refine ss0 rfl rfl (Ys_store (i := 3) (s := 3) (B := some ⟨b1, 0, none⟩) (T' := 28) (v := .agg #[.int .i64 r_3.Rows, .int .i64 r_3.Cols, .slice B2 r_3.Cells.length c2]) (vs := [.int .i64 r_3.Rows, .int .i64 r_3.Cols, .slice B2 r_3.Cells.length c2]) (k := 0) (cs' := [.int .i64 r_3.Rows, .int .i64 r_3.Cols, .slice B2 r_3.Cells.length c2]) hS5 k_sz_28_3 rfl rfl rfl rfl rfl rfl rfl (Nat.le_of_ble_eq_true rfl) rfl rfl) ?_
    rintro _ w_5 ⟨rfl, hS6⟩
    have hS6 : ST w0 [] _ [⟨some ⟨b, 0, none⟩, 24, [.int .i64 aC.Qubits, .slice B aC.Gates.length c], 2⟩, ⟨B1, 109, (r_2.Gates.flatMap enc_Gate), c1 * 3⟩, ⟨B2, 116, (r_3.Cells.flatMap enc_Dyadic), c2 * 5⟩, ⟨some ⟨b1, 0, none⟩, 28, [.int .i64 r_3.Rows, .int .i64 r_3.Cols, .slice B2 r_3.Cells.length c2], 3⟩] [⟨B, (aC.Gates.flatMap enc_Gate)⟩] := hS6
    refine sq 7 rfl rfl (Y_assign (v := .bool r_4) rfl rfl) ?_
    refine rw_nil ?_
    refine cw_seq ?_
    refine cw_region ?_
    refine sq 28 rfl rfl (Y_loadA (B := some ⟨b, 0, none⟩) (i := 0) (cs := [.int .i64 aC.Qubits, .slice B aC.Gates.length c]) (vs := [.int .i64 aC.Qubits, .slice B aC.Gates.length c]) k_ag_24 k_sz_24_2 rfl rfl (hS6.cf (i := 0) rfl) rfl rfl) ?_
    obtain ⟨r_5, hc3, hF2⟩ := bind_inv hF2
    refine sc 29 rfl rfl (Yc_func (g := 9) (vs := [.agg #[.int .i64 aC.Qubits, .slice B aC.Gates.length c]]) k_call_9 rfl (mc rfl mn) (c_laws_toCircuit aC B c aC.Gates.length _ rfl (hS6.inn0 [(true, 0)] rfl) hc3)) ?_
    rintro _ w_6 ⟨B3, c3, rfl, hd3⟩
    have hS7 := hS6.out0 hd3
    have hS7 : ST w0 [] _ [⟨some ⟨b, 0, none⟩, 24, [.int .i64 aC.Qubits, .slice B aC.Gates.length c], 2⟩, ⟨B1, 109, (r_2.Gates.flatMap enc_Gate), c1 * 3⟩, ⟨B2, 116, (r_3.Cells.flatMap enc_Dyadic), c2 * 5⟩, ⟨some ⟨b1, 0, none⟩, 28, [.int .i64 r_3.Rows, .int .i64 r_3.Cols, .slice B2 r_3.Cells.length c2], 3⟩, ⟨B3, 109, (r_5.Gates.flatMap enc_Gate), c3 * 3⟩] [⟨B, (aC.Gates.flatMap enc_Gate)⟩] := hS7
    refine ss 8 rfl rfl (Ys_alloc (T := 33) (cs := [.int .i64 0, .slice none 0 0]) (m := 2) hS7 k_zero_33 rfl rfl rfl) ?_
    rintro _ w_7 ⟨b2, rfl, hS8⟩
    have hS8 : ST w0 [] _ [⟨some ⟨b, 0, none⟩, 24, [.int .i64 aC.Qubits, .slice B aC.Gates.length c], 2⟩, ⟨B1, 109, (r_2.Gates.flatMap enc_Gate), c1 * 3⟩, ⟨B2, 116, (r_3.Cells.flatMap enc_Dyadic), c2 * 5⟩, ⟨some ⟨b1, 0, none⟩, 28, [.int .i64 r_3.Rows, .int .i64 r_3.Cols, .slice B2 r_3.Cells.length c2], 3⟩, ⟨B3, 109, (r_5.Gates.flatMap enc_Gate), c3 * 3⟩, ⟨some ⟨b2, 0, none⟩, 33, [.int .i64 0, .slice none 0 0], 2⟩] [⟨B, (aC.Gates.flatMap enc_Gate)⟩] := hS8
    refine ss0 rfl rfl (Ys_store (i := 5) (s := 2) (B := some ⟨b2, 0, none⟩) (T' := 33) (v := .agg #[.int .i64 r_5.Qubits, .slice B3 r_5.Gates.length c3]) (vs := [.int .i64 r_5.Qubits, .slice B3 r_5.Gates.length c3]) (k := 0) (cs' := [.int .i64 r_5.Qubits, .slice B3 r_5.Gates.length c3]) hS8 k_sz_33_2 rfl rfl rfl rfl rfl rfl rfl (Nat.le_of_ble_eq_true rfl) rfl rfl) ?_
    rintro _ w_8 ⟨rfl, hS9⟩
    have hS9 : ST w0 [] _ [⟨some ⟨b, 0, none⟩, 24, [.int .i64 aC.Qubits, .slice B aC.Gates.length c], 2⟩, ⟨B1, 109, (r_2.Gates.flatMap enc_Gate), c1 * 3⟩, ⟨B2, 116, (r_3.Cells.flatMap enc_Dyadic), c2 * 5⟩, ⟨some ⟨b1, 0, none⟩, 28, [.int .i64 r_3.Rows, .int .i64 r_3.Cols, .slice B2 r_3.Cells.length c2], 3⟩, ⟨B3, 109, (r_5.Gates.flatMap enc_Gate), c3 * 3⟩, ⟨some ⟨b2, 0, none⟩, 33, [.int .i64 r_5.Qubits, .slice B3 r_5.Gates.length c3], 2⟩] [⟨B, (aC.Gates.flatMap enc_Gate)⟩] := hS9
    refine rw_nil ?_
    refine cw_seq ?_
    refine cw_region ?_
    refine sq 31 rfl rfl (Y_loadA (B := some ⟨b2, 0, none⟩) (i := 0) (cs := [.int .i64 r_5.Qubits, .slice B3 r_5.Gates.length c3]) (vs := [.int .i64 r_5.Qubits, .slice B3 r_5.Gates.length c3]) k_ag_33 k_sz_33_2 rfl rfl (hS9.cf (i := 5) rfl) rfl rfl) ?_
    refine sq 32 rfl rfl (Y_move (v := .int .i64 aStart) rfl rfl) ?_
    obtain ⟨⟨r_6, r_7⟩, hc4, hF2⟩ := bind_inv hF2
    refine sc 33 rfl rfl (Yc_func (g := 10) (vs := [.agg #[.int .i64 r_5.Qubits, .slice B3 r_5.Gates.length c3], .int .i64 aStart]) k_call_10 rfl (mc rfl (mc rfl mn)) (c_impl_StateAfter r_5 aStart B3 c3 r_5.Gates.length _ rfl (hS9.inn0 [(false, 4)] rfl) hc4)) ?_
    rintro _ w_9 ⟨B4, c4, rfl, hd4⟩
    have hS10 := hS9.out0 hd4
    have hS10 : ST w0 [] _ [⟨some ⟨b, 0, none⟩, 24, [.int .i64 aC.Qubits, .slice B aC.Gates.length c], 2⟩, ⟨B1, 109, (r_2.Gates.flatMap enc_Gate), c1 * 3⟩, ⟨B2, 116, (r_3.Cells.flatMap enc_Dyadic), c2 * 5⟩, ⟨some ⟨b1, 0, none⟩, 28, [.int .i64 r_3.Rows, .int .i64 r_3.Cols, .slice B2 r_3.Cells.length c2], 3⟩, ⟨B3, 109, (r_5.Gates.flatMap enc_Gate), c3 * 3⟩, ⟨some ⟨b2, 0, none⟩, 33, [.int .i64 r_5.Qubits, .slice B3 r_5.Gates.length c3], 2⟩, ⟨B4, 116, (r_6.Cells.flatMap enc_Dyadic), c4 * 5⟩] [⟨B, (aC.Gates.flatMap enc_Gate)⟩] := hS10
    refine sq 30 rfl rfl (Y_move (v := .tuple #[.agg #[.int .i64 r_6.Rows, .int .i64 r_6.Cols, .slice B4 r_6.Cells.length c4], .bool r_7]) rfl rfl) ?_
    refine sq 34 rfl rfl (Y_extract (v := .agg #[.int .i64 r_6.Rows, .int .i64 r_6.Cols, .slice B4 r_6.Cells.length c4]) rfl rfl rfl) ?_
    refine sq 35 rfl rfl (Y_extract (v := .bool r_7) rfl rfl rfl) ?_
    refine ss 9 rfl rfl (Ys_alloc (T := 28) (cs := [.int .i64 0, .int .i64 0, .slice none 0 0]) (m := 3) hS10 k_zero_28 rfl rfl rfl) ?_
    rintro _ w_10 ⟨b3, rfl, hS11⟩
    have hS11 : ST w0 [] _ [⟨some ⟨b, 0, none⟩, 24, [.int .i64 aC.Qubits, .slice B aC.Gates.length c], 2⟩, ⟨B1, 109, (r_2.Gates.flatMap enc_Gate), c1 * 3⟩, ⟨B2, 116, (r_3.Cells.flatMap enc_Dyadic), c2 * 5⟩, ⟨some ⟨b1, 0, none⟩, 28, [.int .i64 r_3.Rows, .int .i64 r_3.Cols, .slice B2 r_3.Cells.length c2], 3⟩, ⟨B3, 109, (r_5.Gates.flatMap enc_Gate), c3 * 3⟩, ⟨some ⟨b2, 0, none⟩, 33, [.int .i64 r_5.Qubits, .slice B3 r_5.Gates.length c3], 2⟩, ⟨B4, 116, (r_6.Cells.flatMap enc_Dyadic), c4 * 5⟩, ⟨some ⟨b3, 0, none⟩, 28, [.int .i64 0, .int .i64 0, .slice none 0 0], 3⟩] [⟨B, (aC.Gates.flatMap enc_Gate)⟩] := hS11
    refine ss0 rfl rfl (Ys_store (i := 7) (s := 3) (B := some ⟨b3, 0, none⟩) (T' := 28) (v := .agg #[.int .i64 r_6.Rows, .int .i64 r_6.Cols, .slice B4 r_6.Cells.length c4]) (vs := [.int .i64 r_6.Rows, .int .i64 r_6.Cols, .slice B4 r_6.Cells.length c4]) (k := 0) (cs' := [.int .i64 r_6.Rows, .int .i64 r_6.Cols, .slice B4 r_6.Cells.length c4]) hS11 k_sz_28_3 rfl rfl rfl rfl rfl rfl rfl (Nat.le_of_ble_eq_true rfl) rfl rfl) ?_
    rintro _ w_11 ⟨rfl, hS12⟩
    have hS12 : ST w0 [] _ [⟨some ⟨b, 0, none⟩, 24, [.int .i64 aC.Qubits, .slice B aC.Gates.length c], 2⟩, ⟨B1, 109, (r_2.Gates.flatMap enc_Gate), c1 * 3⟩, ⟨B2, 116, (r_3.Cells.flatMap enc_Dyadic), c2 * 5⟩, ⟨some ⟨b1, 0, none⟩, 28, [.int .i64 r_3.Rows, .int .i64 r_3.Cols, .slice B2 r_3.Cells.length c2], 3⟩, ⟨B3, 109, (r_5.Gates.flatMap enc_Gate), c3 * 3⟩, ⟨some ⟨b2, 0, none⟩, 33, [.int .i64 r_5.Qubits, .slice B3 r_5.Gates.length c3], 2⟩, ⟨B4, 116, (r_6.Cells.flatMap enc_Dyadic), c4 * 5⟩, ⟨some ⟨b3, 0, none⟩, 28, [.int .i64 r_6.Rows, .int .i64 r_6.Cols, .slice B4 r_6.Cells.length c4], 3⟩] [⟨B, (aC.Gates.flatMap enc_Gate)⟩] := hS12
    refine sq 10 rfl rfl (Y_assign (v := .bool r_7) rfl rfl) ?_
    refine rw_nil ?_
    refine cw_seq ?_
    refine cw_seq ?_
    refine cw_region ?_
    refine sq 36 rfl rfl (Y_loadA (B := some ⟨b3, 0, none⟩) (i := 0) (cs := [.int .i64 r_6.Rows, .int .i64 r_6.Cols, .slice B4 r_6.Cells.length c4]) (vs := [.int .i64 r_6.Rows, .int .i64 r_6.Cols, .slice B4 r_6.Cells.length c4]) k_ag_28 k_sz_28_3 rfl rfl (hS12.cf (i := 7) rfl) rfl rfl) ?_
    refine sq 37 rfl rfl (Y_loadA (B := some ⟨b1, 0, none⟩) (i := 0) (cs := [.int .i64 r_3.Rows, .int .i64 r_3.Cols, .slice B2 r_3.Cells.length c2]) (vs := [.int .i64 r_3.Rows, .int .i64 r_3.Cols, .slice B2 r_3.Cells.length c2]) k_ag_28 k_sz_28_3 rfl rfl (hS12.cf (i := 3) rfl) rfl rfl) ?_
    obtain ⟨r_8, hc5, hF2⟩ := bind_inv hF2
    refine sc 38 rfl rfl (Yc_func (g := 11) (vs := [.agg #[.int .i64 r_6.Rows, .int .i64 r_6.Cols, .slice B4 r_6.Cells.length c4], .agg #[.int .i64 r_3.Rows, .int .i64 r_3.Cols, .slice B2 r_3.Cells.length c2]]) k_call_11 rfl (mc rfl (mc rfl mn)) (c_laws_eqMatrix r_6 r_3 B4 c4 r_6.Cells.length B2 c2 r_3.Cells.length _ rfl rfl (hS12.inn0 [(false, 6), (false, 2)] rfl) hc5)) ?_
    rintro _ w_12 ⟨rfl, hd5⟩
    have hS13 := hS12.out00 hd5
    have hS13 : ST w0 [] _ [⟨some ⟨b, 0, none⟩, 24, [.int .i64 aC.Qubits, .slice B aC.Gates.length c], 2⟩, ⟨B1, 109, (r_2.Gates.flatMap enc_Gate), c1 * 3⟩, ⟨B2, 116, (r_3.Cells.flatMap enc_Dyadic), c2 * 5⟩, ⟨some ⟨b1, 0, none⟩, 28, [.int .i64 r_3.Rows, .int .i64 r_3.Cols, .slice B2 r_3.Cells.length c2], 3⟩, ⟨B3, 109, (r_5.Gates.flatMap enc_Gate), c3 * 3⟩, ⟨some ⟨b2, 0, none⟩, 33, [.int .i64 r_5.Qubits, .slice B3 r_5.Gates.length c3], 2⟩, ⟨B4, 116, (r_6.Cells.flatMap enc_Dyadic), c4 * 5⟩, ⟨some ⟨b3, 0, none⟩, 28, [.int .i64 r_6.Rows, .int .i64 r_6.Cols, .slice B4 r_6.Cells.length c4], 3⟩] [⟨B, (aC.Gates.flatMap enc_Gate)⟩] := hS13
    refine sq 39 rfl rfl (Y_not (p := r_8) rfl rfl) ?_
    refine sq 40 rfl rfl (Y_move (v := .bool (!r_8)) rfl rfl) ?_
    refine sgq 41 (B := (!(!r_8))) (v := .bool r_7) rfl rfl (wt_f (gd_of (t := 40) (by kernel_rfl) rfl)) (fun hg => (Y_move (v := .bool r_7) rfl rfl)) ?_
    refine sgq 42 (B := (!(!r_8))) (v := .bool r_4) rfl rfl (wt_f (gd_of (t := 40) (by kernel_rfl) rfl)) (fun hg1 => (Y_move (v := .bool r_4) rfl rfl)) ?_
    refine sgq 43 (B := (!(!r_8))) (v := .bool (!(r_7 == r_4))) rfl rfl (wt_f (gd_of (t := 40) (by kernel_rfl) rfl)) (fun hg2 => (Y_bne (p := r_7) (q := r_4) k_und_4 rfl (gv_of (B := (!(!r_8))) (v := .bool r_7) hg2) (gv_of (B := (!(!r_8))) (v := .bool r_4) hg2))) ?_
    refine sq 44 rfl rfl (Y_or (b := (!r_8)) (z := (!(r_7 == r_4))) rfl rfl rfl rfl) ?_
    refine rw_nil ?_
    refine cw_cond (b := ((!r_8) || (!(r_7 == r_4)))) rfl (fun hb1 => ?_) (fun hb1 => ?_)
    · skip
      have hF3 := ct hF2 hb1
      refine cw_seq ?_
      refine cw_region ?_
      refine sq 4 rfl rfl (Y_assign (v := .bool false) rfl rfl) ?_
      refine rw_nil ?_
      refine cw_ret ?_
      obtain rfl := some_inj hF3
      exact ret1 Try.results3 (v1 := .bool false) (resAt_tmp rfl) ⟨rfl, (ST.subR (R' := []) (hS13.sel [] rfl rfl) (fun _ h => by cases h))⟩
    · skip
      have hF4 := cf' hF2 hb1
      refine cw_skip ?_
      refine cw_seq ?_
      refine cw_seq ?_
      obtain ⟨r_9, hc6, hF4⟩ := bind_inv hF4
      obtain ⟨r_10, hc7, hF4⟩ := bind_inv hF4
      refine ra_start (ST.sel hS13 [0, 1, 2, 3, 4, 5, 6, 7] rfl rfl).fn (by kernel_rfl) ?_
      have hS16 := hS13.drew
      refine ra_q 0 45 (v := .agg #[.int .i64 r_5.Qubits, .slice B3 r_5.Gates.length c3]) rfl rfl rfl (by kernel_rfl) (by kernel_rfl) (by kernel_rfl) (ST.sel hS16 [0, 1, 2, 3, 4, 5, 6, 7] rfl rfl) (fun w' hw' => (Y_loadA (B := some ⟨b2, 0, none⟩) (i := 0) (cs := [.int .i64 r_5.Qubits, .slice B3 r_5.Gates.length c3]) (vs := [.int .i64 r_5.Qubits, .slice B3 r_5.Gates.length c3]) k_ag_33 k_sz_33_2 rfl rfl (ST.cf hw' (i := 5) rfl) rfl rfl)) ?_
      refine ra_q 1 46 (v := .agg #[.int .i64 aC.Qubits, .slice B aC.Gates.length c]) rfl rfl rfl (by kernel_rfl) (by kernel_rfl) (by kernel_rfl) (ST.sel hS16 [0, 1, 2, 3, 4, 5, 6, 7] rfl rfl) (fun w' hw' => (Y_loadA (B := some ⟨b, 0, none⟩) (i := 0) (cs := [.int .i64 aC.Qubits, .slice B aC.Gates.length c]) (vs := [.int .i64 aC.Qubits, .slice B aC.Gates.length c]) k_ag_24 k_sz_24_2 rfl rfl (ST.cf hw' (i := 0) rfl) rfl rfl)) ?_
      refine ra_all (rs := [2]) (by kernel_rfl) rfl ?_
      refine ra_c 47 (i := 2) rfl rfl rfl (Yc_func (g := 9) (vs := [.agg #[.int .i64 aC.Qubits, .slice B aC.Gates.length c]]) k_call_9 rfl (mc rfl mn) (c_laws_toCircuit aC B c aC.Gates.length _ rfl (hS16.inn0 [(true, 0)] rfl) hc6)) ?_ ?_
      · rintro _ w_13 ⟨B5, c5, rfl, hd6⟩
        have hS17 := hS16.out0 hd6
        have hS17 : ST w0 [] _ [⟨some ⟨b, 0, none⟩, 24, [.int .i64 aC.Qubits, .slice B aC.Gates.length c], 2⟩, ⟨B1, 109, (r_2.Gates.flatMap enc_Gate), c1 * 3⟩, ⟨B2, 116, (r_3.Cells.flatMap enc_Dyadic), c2 * 5⟩, ⟨some ⟨b1, 0, none⟩, 28, [.int .i64 r_3.Rows, .int .i64 r_3.Cols, .slice B2 r_3.Cells.length c2], 3⟩, ⟨B3, 109, (r_5.Gates.flatMap enc_Gate), c3 * 3⟩, ⟨some ⟨b2, 0, none⟩, 33, [.int .i64 r_5.Qubits, .slice B3 r_5.Gates.length c3], 2⟩, ⟨B4, 116, (r_6.Cells.flatMap enc_Dyadic), c4 * 5⟩, ⟨some ⟨b3, 0, none⟩, 28, [.int .i64 r_6.Rows, .int .i64 r_6.Cols, .slice B4 r_6.Cells.length c4], 3⟩, ⟨B5, 109, (r_9.Gates.flatMap enc_Gate), c5 * 3⟩] [⟨B, (aC.Gates.flatMap enc_Gate)⟩] := hS17
        refine ⟨(ST.sel hS17 [0, 1, 2, 3, 4, 5, 6, 7] rfl rfl), ?_⟩
        refine ra_all (rs := [3]) (by kernel_rfl) rfl ?_
        refine ra_c 48 (i := 3) rfl rfl rfl (Yc_func (g := 12) (vs := [.agg #[.int .i64 r_5.Qubits, .slice B3 r_5.Gates.length c3], .agg #[.int .i64 r_9.Qubits, .slice B5 r_9.Gates.length c5]]) k_call_12 rfl (mc rfl (mc rfl mn)) (c_laws_eqCircuit r_5 r_9 B3 c3 r_5.Gates.length B5 c5 r_9.Gates.length _ rfl rfl (hS17.inn0 [(false, 4), (false, 8)] rfl) hc7)) ?_ ?_
        · rintro _ w_14 ⟨rfl, hd7⟩
          have hS18 := hS17.out00 hd7
          have hS18 : ST w0 [] _ [⟨some ⟨b, 0, none⟩, 24, [.int .i64 aC.Qubits, .slice B aC.Gates.length c], 2⟩, ⟨B1, 109, (r_2.Gates.flatMap enc_Gate), c1 * 3⟩, ⟨B2, 116, (r_3.Cells.flatMap enc_Dyadic), c2 * 5⟩, ⟨some ⟨b1, 0, none⟩, 28, [.int .i64 r_3.Rows, .int .i64 r_3.Cols, .slice B2 r_3.Cells.length c2], 3⟩, ⟨B3, 109, (r_5.Gates.flatMap enc_Gate), c3 * 3⟩, ⟨some ⟨b2, 0, none⟩, 33, [.int .i64 r_5.Qubits, .slice B3 r_5.Gates.length c3], 2⟩, ⟨B4, 116, (r_6.Cells.flatMap enc_Dyadic), c4 * 5⟩, ⟨some ⟨b3, 0, none⟩, 28, [.int .i64 r_6.Rows, .int .i64 r_6.Cols, .slice B4 r_6.Cells.length c4], 3⟩, ⟨B5, 109, (r_9.Gates.flatMap enc_Gate), c5 * 3⟩] [⟨B, (aC.Gates.flatMap enc_Gate)⟩] := hS18
          refine ⟨(ST.sel hS18 [0, 1, 2, 3, 4, 5, 6, 7] rfl rfl), ?_⟩
          refine ra_q 4 49 (v := .bool (!r_10)) rfl rfl rfl (by kernel_rfl) (by kernel_rfl) (by kernel_rfl) (ST.sel hS18 [0, 1, 2, 3, 4, 5, 6, 7] rfl rfl) (fun w' hw' => (Y_not (p := r_10) rfl rfl)) ?_
          refine ra_done (by kernel_rfl) ?_
          refine cw_cond (b := (!r_10)) rfl (fun hb2 => ?_) (fun hb2 => ?_)
          · skip
            have hF5 := ct hF4 hb2
            refine cw_seq ?_
            refine cw_region ?_
            refine sq 4 rfl rfl (Y_assign (v := .bool false) rfl rfl) ?_
            refine rw_nil ?_
            refine cw_ret ?_
            obtain rfl := some_inj hF5
            exact ret1 Try.results3 (v1 := .bool false) (resAt_tmp rfl) ⟨rfl, (ST.subR (R' := []) (hS18.sel [] rfl rfl) (fun _ h => by cases h))⟩
          · skip
            have hF6 := cf' hF4 hb2
            refine cw_skip ?_
            refine cw_seq ?_
            refine cw_region ?_
            refine sq 11 rfl rfl (Y_assign (v := .int .i64 1) rfl rfl) ?_
            refine rw_nil ?_
            refine cw_seq ?_
            refine cw_region ?_
            refine sq 50 rfl rfl (Y_loadA (B := some ⟨b2, 0, none⟩) (i := 0) (cs := [.int .i64 r_5.Qubits, .slice B3 r_5.Gates.length c3]) (vs := [.int .i64 r_5.Qubits, .slice B3 r_5.Gates.length c3]) k_ag_33 k_sz_33_2 rfl rfl (hS18.cf (i := 5) rfl) rfl rfl) ?_
            refine sq 51 rfl rfl (Y_move (v := .int .i64 1) rfl rfl) ?_
            obtain ⟨⟨r_11, m⟩, hc8, hF6⟩ := bind_inv hF6
            refine sc 52 rfl rfl (Yc_func (g := 13) (vs := [.agg #[.int .i64 r_5.Qubits, .slice B3 r_5.Gates.length c3], .int .i64 1]) k_call_13 rfl (mc rfl (mc rfl mn)) (c_laws_markCircuit r_5 1 B3 c3 r_5.Gates.length _ rfl (hS18.inn [false, false, false, false, true, false, false, false, false] rfl [] rfl) hc8)) ?_
            rintro _ w_15 ⟨rfl, hl, hd8⟩
            have hS19 := hS18.out [false, false, false, false, true, false, false, false, false] rfl hd8
            have hS19 : ST w0 [] _ [⟨some ⟨b, 0, none⟩, 24, [.int .i64 aC.Qubits, .slice B aC.Gates.length c], 2⟩, ⟨B1, 109, (r_2.Gates.flatMap enc_Gate), c1 * 3⟩, ⟨B2, 116, (r_3.Cells.flatMap enc_Dyadic), c2 * 5⟩, ⟨some ⟨b1, 0, none⟩, 28, [.int .i64 r_3.Rows, .int .i64 r_3.Cols, .slice B2 r_3.Cells.length c2], 3⟩, ⟨some ⟨b2, 0, none⟩, 33, [.int .i64 r_5.Qubits, .slice B3 r_5.Gates.length c3], 2⟩, ⟨B4, 116, (r_6.Cells.flatMap enc_Dyadic), c4 * 5⟩, ⟨some ⟨b3, 0, none⟩, 28, [.int .i64 r_6.Rows, .int .i64 r_6.Cols, .slice B4 r_6.Cells.length c4], 3⟩, ⟨B5, 109, (r_9.Gates.flatMap enc_Gate), c5 * 3⟩, ⟨B3, 109, (m.flatMap enc_Gate), c3 * 3⟩] [⟨B, (aC.Gates.flatMap enc_Gate)⟩] := hS19
            refine sq 11 rfl rfl (Y_assign (v := .int .i64 r_11) rfl rfl) ?_
            refine rw_nil ?_
            refine cw_seq ?_
            refine cw_seq ?_
            refine cw_region ?_
            refine sq 53 rfl rfl (Y_move (v := .int .i64 r_11) rfl rfl) ?_
            refine sq 54 rfl rfl (Y_lt (k := .i64) (a := r_11) (b := 0) rfl rfl rfl) ?_
            refine sq 55 rfl rfl (Y_move (v := .bool (decide (r_11 < 0))) rfl rfl) ?_
            refine sgq 56 (B := (!(decide (r_11 < 0)))) (v := .agg #[.int .i64 r_6.Rows, .int .i64 r_6.Cols, .slice B4 r_6.Cells.length c4]) rfl rfl (wt_f (gd_of (t := 55) (by kernel_rfl) rfl)) (fun hg3 => (Y_loadA (B := some ⟨b3, 0, none⟩) (i := 0) (cs := [.int .i64 r_6.Rows, .int .i64 r_6.Cols, .slice B4 r_6.Cells.length c4]) (vs := [.int .i64 r_6.Rows, .int .i64 r_6.Cols, .slice B4 r_6.Cells.length c4]) k_ag_28 k_sz_28_3 rfl rfl (hS19.cf (i := 6) rfl) rfl rfl)) ?_
            refine sgq 57 (B := (!(decide (r_11 < 0)))) (v := .agg #[.int .i64 r_3.Rows, .int .i64 r_3.Cols, .slice B2 r_3.Cells.length c2]) rfl rfl (wt_f (gd_of (t := 55) (by kernel_rfl) rfl)) (fun hg4 => (Y_loadA (B := some ⟨b1, 0, none⟩) (i := 0) (cs := [.int .i64 r_3.Rows, .int .i64 r_3.Cols, .slice B2 r_3.Cells.length c2]) (vs := [.int .i64 r_3.Rows, .int .i64 r_3.Cols, .slice B2 r_3.Cells.length c2]) k_ag_28 k_sz_28_3 rfl rfl (hS19.cf (i := 3) rfl) rfl rfl)) ?_
            obtain ⟨r_12, hc9, hF6⟩ := bind_inv hF6
            refine sgc 58 (B := (!(decide (r_11 < 0)))) (v := .bool r_12) (F := hS19.fn) rfl rfl (wt_f (gd_of (t := 55) (by kernel_rfl) rfl)) hS19 (fun hg5 => (Yc_func (g := 11) (vs := [.agg #[.int .i64 r_6.Rows, .int .i64 r_6.Cols, .slice B4 r_6.Cells.length c4], .agg #[.int .i64 r_3.Rows, .int .i64 r_3.Cols, .slice B2 r_3.Cells.length c2]]) k_call_11 rfl (mc (gv_of (B := (!(decide (r_11 < 0)))) (v := .agg #[.int .i64 r_6.Rows, .int .i64 r_6.Cols, .slice B4 r_6.Cells.length c4]) hg5) (mc (gv_of (B := (!(decide (r_11 < 0)))) (v := .agg #[.int .i64 r_3.Rows, .int .i64 r_3.Cols, .slice B2 r_3.Cells.length c2]) hg5) mn)) (CV.mono (c_laws_eqMatrix r_6 r_3 B4 c4 r_6.Cells.length B2 c2 r_3.Cells.length _ rfl rfl (hS19.inn0 [(false, 5), (false, 2)] rfl) (gb_inv hc9 hg5)) (by rintro _ _ ⟨rfl, h⟩; exact ⟨rfl, hS19.out00 h⟩)))) ?_
            rintro w_16 hS20
            have hS20 : ST _ _ w_16 _ _ := hS20
            refine sgq 59 (B := (!(decide (r_11 < 0)))) (v := .bool (!r_12)) rfl rfl (wt_f (gd_of (t := 55) (by kernel_rfl) rfl)) (fun hg6 => (Y_not (p := r_12) rfl (gv_of (B := (!(decide (r_11 < 0)))) (v := .bool r_12) hg6))) ?_
            refine sq 60 rfl rfl (Y_or (b := (decide (r_11 < 0))) (z := (!r_12)) rfl rfl rfl rfl) ?_
            refine sq 61 rfl rfl (Y_move (v := .bool ((decide (r_11 < 0)) || (!r_12))) rfl rfl) ?_
            refine sgq 62 (B := (!((decide (r_11 < 0)) || (!r_12)))) (v := .bool r_7) rfl rfl (wt_f (gd_of (t := 61) (by kernel_rfl) rfl)) (fun hg7 => (Y_move (v := .bool r_7) rfl rfl)) ?_
            refine sgq 63 (B := (!((decide (r_11 < 0)) || (!r_12)))) (v := .bool r_4) rfl rfl (wt_f (gd_of (t := 61) (by kernel_rfl) rfl)) (fun hg8 => (Y_move (v := .bool r_4) rfl rfl)) ?_
            refine sgq 64 (B := (!((decide (r_11 < 0)) || (!r_12)))) (v := .bool (!(r_7 == r_4))) rfl rfl (wt_f (gd_of (t := 61) (by kernel_rfl) rfl)) (fun hg9 => (Y_bne (p := r_7) (q := r_4) k_und_4 rfl (gv_of (B := (!((decide (r_11 < 0)) || (!r_12)))) (v := .bool r_7) hg9) (gv_of (B := (!((decide (r_11 < 0)) || (!r_12)))) (v := .bool r_4) hg9))) ?_
            refine sq 65 rfl rfl (Y_or (b := ((decide (r_11 < 0)) || (!r_12))) (z := (!(r_7 == r_4))) rfl rfl rfl rfl) ?_
            refine rw_nil ?_
            refine cw_cond (b := (((decide (r_11 < 0)) || (!r_12)) || (!(r_7 == r_4)))) rfl (fun hb3 => ?_) (fun hb3 => ?_)
            · skip
              have hF7 := ct hF6 hb3
              refine cw_seq ?_
              refine cw_region ?_
              refine sq 4 rfl rfl (Y_assign (v := .bool false) rfl rfl) ?_
              refine rw_nil ?_
              refine cw_ret ?_
              obtain rfl := some_inj hF7
              exact ret1 Try.results3 (v1 := .bool false) (resAt_tmp rfl) ⟨rfl, (ST.subR (R' := []) (hS20.sel [] rfl rfl) (fun _ h => by cases h))⟩
            · skip
              have hF8 := cf' hF6 hb3
              refine cw_skip ?_
              refine cw_seq ?_
              refine cw_region ?_
              refine sq 12 rfl rfl (Y_assign (v := .int .i64 1) rfl rfl) ?_
              refine rw_nil ?_
              refine cw_seq ?_
              refine cw_region ?_
              refine sq 66 rfl rfl (Y_loadA (B := some ⟨b3, 0, none⟩) (i := 0) (cs := [.int .i64 r_6.Rows, .int .i64 r_6.Cols, .slice B4 r_6.Cells.length c4]) (vs := [.int .i64 r_6.Rows, .int .i64 r_6.Cols, .slice B4 r_6.Cells.length c4]) k_ag_28 k_sz_28_3 rfl rfl (hS20.cf (i := 6) rfl) rfl rfl) ?_
              refine sq 67 rfl rfl (Y_move (v := .int .i64 1) rfl rfl) ?_
              obtain ⟨⟨r_13, m1⟩, hc10, hF8⟩ := bind_inv hF8
              refine sc 68 rfl rfl (Yc_func (g := 14) (vs := [.agg #[.int .i64 r_6.Rows, .int .i64 r_6.Cols, .slice B4 r_6.Cells.length c4], .int .i64 1]) k_call_14 rfl (mc rfl (mc rfl mn)) (c_laws_markMatrix r_6 1 B4 c4 r_6.Cells.length _ rfl (hS20.inn [false, false, false, false, false, true, false, false, false] rfl [] rfl) hc10)) ?_
              rintro _ w_17 ⟨rfl, hl1, hd9⟩
              have hS21 := hS20.out [false, false, false, false, false, true, false, false, false] rfl hd9
              have hS21 : ST w0 [] _ [⟨some ⟨b, 0, none⟩, 24, [.int .i64 aC.Qubits, .slice B aC.Gates.length c], 2⟩, ⟨B1, 109, (r_2.Gates.flatMap enc_Gate), c1 * 3⟩, ⟨B2, 116, (r_3.Cells.flatMap enc_Dyadic), c2 * 5⟩, ⟨some ⟨b1, 0, none⟩, 28, [.int .i64 r_3.Rows, .int .i64 r_3.Cols, .slice B2 r_3.Cells.length c2], 3⟩, ⟨some ⟨b2, 0, none⟩, 33, [.int .i64 r_5.Qubits, .slice B3 r_5.Gates.length c3], 2⟩, ⟨some ⟨b3, 0, none⟩, 28, [.int .i64 r_6.Rows, .int .i64 r_6.Cols, .slice B4 r_6.Cells.length c4], 3⟩, ⟨B5, 109, (r_9.Gates.flatMap enc_Gate), c5 * 3⟩, ⟨B3, 109, (m.flatMap enc_Gate), c3 * 3⟩, ⟨B4, 116, (m1.flatMap enc_Dyadic), c4 * 5⟩] [⟨B, (aC.Gates.flatMap enc_Gate)⟩] := hS21
              refine sq 12 rfl rfl (Y_assign (v := .int .i64 r_13) rfl rfl) ?_
              refine rw_nil ?_
              refine cw_seq ?_
              refine cw_region ?_
              refine sq 13 rfl rfl (Y_assign (v := .int .i64 1) rfl rfl) ?_
              refine rw_nil ?_
              refine cw_seq ?_
              refine cw_region ?_
              refine sq 69 rfl rfl (Y_loadA (B := some ⟨b3, 0, none⟩) (i := 0) (cs := [.int .i64 r_6.Rows, .int .i64 r_6.Cols, .slice B4 r_6.Cells.length c4]) (vs := [.int .i64 r_6.Rows, .int .i64 r_6.Cols, .slice B4 r_6.Cells.length c4]) k_ag_28 k_sz_28_3 rfl rfl (hS21.cf (i := 5) rfl) rfl rfl) ?_
              refine sq 70 rfl rfl (Y_move (v := .int .i64 1) rfl rfl) ?_
              obtain ⟨r_14, hc11, hF8⟩ := bind_inv hF8
              refine sc 71 rfl rfl (Yc_func (g := 15) (vs := [.agg #[.int .i64 r_6.Rows, .int .i64 r_6.Cols, .slice B4 r_6.Cells.length c4], .int .i64 1]) k_call_15 rfl (mc rfl (mc rfl mn)) (c_laws_heldMatrix (TMatrix.mk r_6.Rows r_6.Cols m1) 1 B4 c4 r_6.Cells.length _ hl1 (hS21.inn0 [(false, 8)] rfl) hc11)) ?_
              rintro _ w_18 ⟨rfl, hd10⟩
              have hS22 := hS21.out00 hd10
              have hS22 : ST w0 [] _ [⟨some ⟨b, 0, none⟩, 24, [.int .i64 aC.Qubits, .slice B aC.Gates.length c], 2⟩, ⟨B1, 109, (r_2.Gates.flatMap enc_Gate), c1 * 3⟩, ⟨B2, 116, (r_3.Cells.flatMap enc_Dyadic), c2 * 5⟩, ⟨some ⟨b1, 0, none⟩, 28, [.int .i64 r_3.Rows, .int .i64 r_3.Cols, .slice B2 r_3.Cells.length c2], 3⟩, ⟨some ⟨b2, 0, none⟩, 33, [.int .i64 r_5.Qubits, .slice B3 r_5.Gates.length c3], 2⟩, ⟨some ⟨b3, 0, none⟩, 28, [.int .i64 r_6.Rows, .int .i64 r_6.Cols, .slice B4 r_6.Cells.length c4], 3⟩, ⟨B5, 109, (r_9.Gates.flatMap enc_Gate), c5 * 3⟩, ⟨B3, 109, (m.flatMap enc_Gate), c3 * 3⟩, ⟨B4, 116, (m1.flatMap enc_Dyadic), c4 * 5⟩] [⟨B, (aC.Gates.flatMap enc_Gate)⟩] := hS22
              refine sq 13 rfl rfl (Y_assign (v := .int .i64 r_14) rfl rfl) ?_
              refine rw_nil ?_
              refine cw_seq ?_
              refine cw_seq ?_
              refine cw_region ?_
              refine sq 72 rfl rfl (Y_move (v := .int .i64 r_14) rfl rfl) ?_
              refine sq 73 rfl rfl (Y_lt (k := .i64) (a := r_14) (b := 0) rfl rfl rfl) ?_
              refine rw_nil ?_
              refine cw_cond (b := (decide (r_14 < 0))) rfl (fun hb4 => ?_) (fun hb4 => ?_)
              · skip
                have hF9 := ct hF8 hb4
                refine cw_seq ?_
                refine cw_region ?_
                refine sq 4 rfl rfl (Y_assign (v := .bool false) rfl rfl) ?_
                refine rw_nil ?_
                refine cw_ret ?_
                obtain rfl := some_inj hF9
                exact ret1 Try.results3 (v1 := .bool false) (resAt_tmp rfl) ⟨rfl, (ST.subR (R' := []) (hS22.sel [] rfl rfl) (fun _ h => by cases h))⟩
              · skip
                have hF10 := cf' hF8 hb4
                refine cw_skip ?_
                refine cw_seq ?_
                refine cw_seq ?_
                refine cw_region ?_
                refine sq 74 rfl rfl (Y_move (v := .int .i64 r_14) rfl rfl) ?_
                refine sq 75 rfl rfl (Y_move (v := .int .i64 r_13) rfl rfl) ?_
                refine sq 76 rfl rfl (Y_ne (k := .i64) (a := r_14) (b := r_13) rfl rfl rfl) ?_
                refine rw_nil ?_
                refine cw_cond (b := (r_14 != r_13)) rfl (fun hb5 => ?_) (fun hb5 => ?_)
                · skip
                  have hF11 := ct hF10 hb5
                  refine cw_seq ?_
                  refine cw_region ?_
                  refine sq 4 rfl rfl (Y_assign (v := .bool false) rfl rfl) ?_
                  refine rw_nil ?_
                  refine cw_ret ?_
                  obtain rfl := some_inj hF11
                  exact ret1 Try.results3 (v1 := .bool false) (resAt_tmp rfl) ⟨rfl, (ST.subR (R' := []) (hS22.sel [] rfl rfl) (fun _ h => by cases h))⟩
                · skip
                  have hF12 := cf' hF10 hb5
                  refine cw_skip ?_
                  refine cw_seq ?_
                  refine cw_region ?_
                  refine sq 78 rfl rfl (Y_loadA (B := some ⟨b, 0, none⟩) (i := 0) (cs := [.int .i64 aC.Qubits, .slice B aC.Gates.length c]) (vs := [.int .i64 aC.Qubits, .slice B aC.Gates.length c]) k_ag_24 k_sz_24_2 rfl rfl (hS22.cf (i := 0) rfl) rfl rfl) ?_
                  obtain ⟨r_15, hc12, hF12⟩ := bind_inv hF12
                  refine sc 79 rfl rfl (Yc_func (g := 9) (vs := [.agg #[.int .i64 aC.Qubits, .slice B aC.Gates.length c]]) k_call_9 rfl (mc rfl mn) (c_laws_toCircuit aC B c aC.Gates.length _ rfl (hS22.inn0 [(true, 0)] rfl) hc12)) ?_
                  rintro _ w_19 ⟨B6, c6, rfl, hd11⟩
                  have hS23 := hS22.out0 hd11
                  have hS23 : ST w0 [] _ [⟨some ⟨b, 0, none⟩, 24, [.int .i64 aC.Qubits, .slice B aC.Gates.length c], 2⟩, ⟨B1, 109, (r_2.Gates.flatMap enc_Gate), c1 * 3⟩, ⟨B2, 116, (r_3.Cells.flatMap enc_Dyadic), c2 * 5⟩, ⟨some ⟨b1, 0, none⟩, 28, [.int .i64 r_3.Rows, .int .i64 r_3.Cols, .slice B2 r_3.Cells.length c2], 3⟩, ⟨some ⟨b2, 0, none⟩, 33, [.int .i64 r_5.Qubits, .slice B3 r_5.Gates.length c3], 2⟩, ⟨some ⟨b3, 0, none⟩, 28, [.int .i64 r_6.Rows, .int .i64 r_6.Cols, .slice B4 r_6.Cells.length c4], 3⟩, ⟨B5, 109, (r_9.Gates.flatMap enc_Gate), c5 * 3⟩, ⟨B3, 109, (m.flatMap enc_Gate), c3 * 3⟩, ⟨B4, 116, (m1.flatMap enc_Dyadic), c4 * 5⟩, ⟨B6, 109, (r_15.Gates.flatMap enc_Gate), c6 * 3⟩] [⟨B, (aC.Gates.flatMap enc_Gate)⟩] := hS23
                  refine sq 80 rfl rfl (Y_move (v := .int .i64 aStart) rfl rfl) ?_
                  obtain ⟨⟨r_16, r_17⟩, hc13, hF12⟩ := bind_inv hF12
                  refine sc 81 rfl rfl (Yc_func (g := 10) (vs := [.agg #[.int .i64 r_15.Qubits, .slice B6 r_15.Gates.length c6], .int .i64 aStart]) k_call_10 rfl (mc rfl (mc rfl mn)) (c_impl_StateAfter r_15 aStart B6 c6 r_15.Gates.length _ rfl (hS23.inn0 [(false, 9)] rfl) hc13)) ?_
                  rintro _ w_20 ⟨B7, c7, rfl, hd12⟩
                  have hS24 := hS23.out0 hd12
                  have hS24 : ST w0 [] _ [⟨some ⟨b, 0, none⟩, 24, [.int .i64 aC.Qubits, .slice B aC.Gates.length c], 2⟩, ⟨B1, 109, (r_2.Gates.flatMap enc_Gate), c1 * 3⟩, ⟨B2, 116, (r_3.Cells.flatMap enc_Dyadic), c2 * 5⟩, ⟨some ⟨b1, 0, none⟩, 28, [.int .i64 r_3.Rows, .int .i64 r_3.Cols, .slice B2 r_3.Cells.length c2], 3⟩, ⟨some ⟨b2, 0, none⟩, 33, [.int .i64 r_5.Qubits, .slice B3 r_5.Gates.length c3], 2⟩, ⟨some ⟨b3, 0, none⟩, 28, [.int .i64 r_6.Rows, .int .i64 r_6.Cols, .slice B4 r_6.Cells.length c4], 3⟩, ⟨B5, 109, (r_9.Gates.flatMap enc_Gate), c5 * 3⟩, ⟨B3, 109, (m.flatMap enc_Gate), c3 * 3⟩, ⟨B4, 116, (m1.flatMap enc_Dyadic), c4 * 5⟩, ⟨B6, 109, (r_15.Gates.flatMap enc_Gate), c6 * 3⟩, ⟨B7, 116, (r_16.Cells.flatMap enc_Dyadic), c7 * 5⟩] [⟨B, (aC.Gates.flatMap enc_Gate)⟩] := hS24
                  refine sq 77 rfl rfl (Y_move (v := .tuple #[.agg #[.int .i64 r_16.Rows, .int .i64 r_16.Cols, .slice B7 r_16.Cells.length c7], .bool r_17]) rfl rfl) ?_
                  refine sq 82 rfl rfl (Y_extract (v := .agg #[.int .i64 r_16.Rows, .int .i64 r_16.Cols, .slice B7 r_16.Cells.length c7]) rfl rfl rfl) ?_
                  refine sq 83 rfl rfl (Y_extract (v := .bool r_17) rfl rfl rfl) ?_
                  refine ss 14 rfl rfl (Ys_alloc (T := 28) (cs := [.int .i64 0, .int .i64 0, .slice none 0 0]) (m := 3) hS24 k_zero_28 rfl rfl rfl) ?_
                  rintro _ w_21 ⟨b4, rfl, hS25⟩
                  have hS25 : ST w0 [] _ [⟨some ⟨b, 0, none⟩, 24, [.int .i64 aC.Qubits, .slice B aC.Gates.length c], 2⟩, ⟨B1, 109, (r_2.Gates.flatMap enc_Gate), c1 * 3⟩, ⟨B2, 116, (r_3.Cells.flatMap enc_Dyadic), c2 * 5⟩, ⟨some ⟨b1, 0, none⟩, 28, [.int .i64 r_3.Rows, .int .i64 r_3.Cols, .slice B2 r_3.Cells.length c2], 3⟩, ⟨some ⟨b2, 0, none⟩, 33, [.int .i64 r_5.Qubits, .slice B3 r_5.Gates.length c3], 2⟩, ⟨some ⟨b3, 0, none⟩, 28, [.int .i64 r_6.Rows, .int .i64 r_6.Cols, .slice B4 r_6.Cells.length c4], 3⟩, ⟨B5, 109, (r_9.Gates.flatMap enc_Gate), c5 * 3⟩, ⟨B3, 109, (m.flatMap enc_Gate), c3 * 3⟩, ⟨B4, 116, (m1.flatMap enc_Dyadic), c4 * 5⟩, ⟨B6, 109, (r_15.Gates.flatMap enc_Gate), c6 * 3⟩, ⟨B7, 116, (r_16.Cells.flatMap enc_Dyadic), c7 * 5⟩, ⟨some ⟨b4, 0, none⟩, 28, [.int .i64 0, .int .i64 0, .slice none 0 0], 3⟩] [⟨B, (aC.Gates.flatMap enc_Gate)⟩] := hS25
                  refine ss0 rfl rfl (Ys_store (i := 11) (s := 3) (B := some ⟨b4, 0, none⟩) (T' := 28) (v := .agg #[.int .i64 r_16.Rows, .int .i64 r_16.Cols, .slice B7 r_16.Cells.length c7]) (vs := [.int .i64 r_16.Rows, .int .i64 r_16.Cols, .slice B7 r_16.Cells.length c7]) (k := 0) (cs' := [.int .i64 r_16.Rows, .int .i64 r_16.Cols, .slice B7 r_16.Cells.length c7]) hS25 k_sz_28_3 rfl rfl rfl rfl rfl rfl rfl (Nat.le_of_ble_eq_true rfl) rfl rfl) ?_
                  rintro _ w_22 ⟨rfl, hS26⟩
                  have hS26 : ST w0 [] _ [⟨some ⟨b, 0, none⟩, 24, [.int .i64 aC.Qubits, .slice B aC.Gates.length c], 2⟩, ⟨B1, 109, (r_2.Gates.flatMap enc_Gate), c1 * 3⟩, ⟨B2, 116, (r_3.Cells.flatMap enc_Dyadic), c2 * 5⟩, ⟨some ⟨b1, 0, none⟩, 28, [.int .i64 r_3.Rows, .int .i64 r_3.Cols, .slice B2 r_3.Cells.length c2], 3⟩, ⟨some ⟨b2, 0, none⟩, 33, [.int .i64 r_5.Qubits, .slice B3 r_5.Gates.length c3], 2⟩, ⟨some ⟨b3, 0, none⟩, 28, [.int .i64 r_6.Rows, .int .i64 r_6.Cols, .slice B4 r_6.Cells.length c4], 3⟩, ⟨B5, 109, (r_9.Gates.flatMap enc_Gate), c5 * 3⟩, ⟨B3, 109, (m.flatMap enc_Gate), c3 * 3⟩, ⟨B4, 116, (m1.flatMap enc_Dyadic), c4 * 5⟩, ⟨B6, 109, (r_15.Gates.flatMap enc_Gate), c6 * 3⟩, ⟨B7, 116, (r_16.Cells.flatMap enc_Dyadic), c7 * 5⟩, ⟨some ⟨b4, 0, none⟩, 28, [.int .i64 r_16.Rows, .int .i64 r_16.Cols, .slice B7 r_16.Cells.length c7], 3⟩] [⟨B, (aC.Gates.flatMap enc_Gate)⟩] := hS26
                  refine sq 15 rfl rfl (Y_assign (v := .bool r_17) rfl rfl) ?_
                  refine rw_nil ?_
                  refine cw_seq ?_
                  refine cw_seq ?_
                  refine cw_region ?_
                  refine sq 84 rfl rfl (Y_loadA (B := some ⟨b4, 0, none⟩) (i := 0) (cs := [.int .i64 r_16.Rows, .int .i64 r_16.Cols, .slice B7 r_16.Cells.length c7]) (vs := [.int .i64 r_16.Rows, .int .i64 r_16.Cols, .slice B7 r_16.Cells.length c7]) k_ag_28 k_sz_28_3 rfl rfl (hS26.cf (i := 11) rfl) rfl rfl) ?_
                  refine sq 85 rfl rfl (Y_loadA (B := some ⟨b1, 0, none⟩) (i := 0) (cs := [.int .i64 r_3.Rows, .int .i64 r_3.Cols, .slice B2 r_3.Cells.length c2]) (vs := [.int .i64 r_3.Rows, .int .i64 r_3.Cols, .slice B2 r_3.Cells.length c2]) k_ag_28 k_sz_28_3 rfl rfl (hS26.cf (i := 3) rfl) rfl rfl) ?_
                  obtain ⟨r_18, hc14, hF12⟩ := bind_inv hF12
                  refine sc 86 rfl rfl (Yc_func (g := 11) (vs := [.agg #[.int .i64 r_16.Rows, .int .i64 r_16.Cols, .slice B7 r_16.Cells.length c7], .agg #[.int .i64 r_3.Rows, .int .i64 r_3.Cols, .slice B2 r_3.Cells.length c2]]) k_call_11 rfl (mc rfl (mc rfl mn)) (c_laws_eqMatrix r_16 r_3 B7 c7 r_16.Cells.length B2 c2 r_3.Cells.length _ rfl rfl (hS26.inn0 [(false, 10), (false, 2)] rfl) hc14)) ?_
                  rintro _ w_23 ⟨rfl, hd13⟩
                  have hS27 := hS26.out00 hd13
                  have hS27 : ST w0 [] _ [⟨some ⟨b, 0, none⟩, 24, [.int .i64 aC.Qubits, .slice B aC.Gates.length c], 2⟩, ⟨B1, 109, (r_2.Gates.flatMap enc_Gate), c1 * 3⟩, ⟨B2, 116, (r_3.Cells.flatMap enc_Dyadic), c2 * 5⟩, ⟨some ⟨b1, 0, none⟩, 28, [.int .i64 r_3.Rows, .int .i64 r_3.Cols, .slice B2 r_3.Cells.length c2], 3⟩, ⟨some ⟨b2, 0, none⟩, 33, [.int .i64 r_5.Qubits, .slice B3 r_5.Gates.length c3], 2⟩, ⟨some ⟨b3, 0, none⟩, 28, [.int .i64 r_6.Rows, .int .i64 r_6.Cols, .slice B4 r_6.Cells.length c4], 3⟩, ⟨B5, 109, (r_9.Gates.flatMap enc_Gate), c5 * 3⟩, ⟨B3, 109, (m.flatMap enc_Gate), c3 * 3⟩, ⟨B4, 116, (m1.flatMap enc_Dyadic), c4 * 5⟩, ⟨B6, 109, (r_15.Gates.flatMap enc_Gate), c6 * 3⟩, ⟨B7, 116, (r_16.Cells.flatMap enc_Dyadic), c7 * 5⟩, ⟨some ⟨b4, 0, none⟩, 28, [.int .i64 r_16.Rows, .int .i64 r_16.Cols, .slice B7 r_16.Cells.length c7], 3⟩] [⟨B, (aC.Gates.flatMap enc_Gate)⟩] := hS27
                  refine sq 87 rfl rfl (Y_not (p := r_18) rfl rfl) ?_
                  refine sq 88 rfl rfl (Y_move (v := .bool (!r_18)) rfl rfl) ?_
                  refine sgq 89 (B := (!(!r_18))) (v := .bool r_17) rfl rfl (wt_f (gd_of (t := 88) (by kernel_rfl) rfl)) (fun hg10 => (Y_move (v := .bool r_17) rfl rfl)) ?_
                  refine sgq 90 (B := (!(!r_18))) (v := .bool r_4) rfl rfl (wt_f (gd_of (t := 88) (by kernel_rfl) rfl)) (fun hg11 => (Y_move (v := .bool r_4) rfl rfl)) ?_
                  refine sgq 91 (B := (!(!r_18))) (v := .bool (!(r_17 == r_4))) rfl rfl (wt_f (gd_of (t := 88) (by kernel_rfl) rfl)) (fun hg12 => (Y_bne (p := r_17) (q := r_4) k_und_4 rfl (gv_of (B := (!(!r_18))) (v := .bool r_17) hg12) (gv_of (B := (!(!r_18))) (v := .bool r_4) hg12))) ?_
                  refine sq 92 rfl rfl (Y_or (b := (!r_18)) (z := (!(r_17 == r_4))) rfl rfl rfl rfl) ?_
                  refine rw_nil ?_
                  refine cw_cond (b := ((!r_18) || (!(r_17 == r_4)))) rfl (fun hb6 => ?_) (fun hb6 => ?_)
                  · skip
                    have hF13 := ct hF12 hb6
                    refine cw_seq ?_
                    refine cw_region ?_
                    refine sq 4 rfl rfl (Y_assign (v := .bool false) rfl rfl) ?_
                    refine rw_nil ?_
                    refine cw_ret ?_
                    obtain rfl := some_inj hF13
                    exact ret1 Try.results3 (v1 := .bool false) (resAt_tmp rfl) ⟨rfl, (ST.subR (R' := []) (hS27.sel [] rfl rfl) (fun _ h => by cases h))⟩
                  · skip
                    have hF14 := cf' hF12 hb6
                    refine cw_skip ?_
                    refine cw_seq ?_
                    refine cw_region ?_
                    refine sq 13 rfl rfl (Y_assign (v := .int .i64 1) rfl rfl) ?_
                    refine rw_nil ?_
                    refine cw_seq ?_
                    refine cw_region ?_
                    refine sq 93 rfl rfl (Y_loadA (B := some ⟨b3, 0, none⟩) (i := 0) (cs := [.int .i64 r_6.Rows, .int .i64 r_6.Cols, .slice B4 r_6.Cells.length c4]) (vs := [.int .i64 r_6.Rows, .int .i64 r_6.Cols, .slice B4 r_6.Cells.length c4]) k_ag_28 k_sz_28_3 rfl rfl (hS27.cf (i := 5) rfl) rfl rfl) ?_
                    refine sq 94 rfl rfl (Y_move (v := .int .i64 1) rfl rfl) ?_
                    obtain ⟨r_19, hc15, hF14⟩ := bind_inv hF14
                    refine sc 95 rfl rfl (Yc_func (g := 15) (vs := [.agg #[.int .i64 r_6.Rows, .int .i64 r_6.Cols, .slice B4 r_6.Cells.length c4], .int .i64 1]) k_call_15 rfl (mc rfl (mc rfl mn)) (c_laws_heldMatrix (TMatrix.mk r_6.Rows r_6.Cols m1) 1 B4 c4 r_6.Cells.length _ hl1 (hS27.inn0 [(false, 8)] rfl) hc15)) ?_
                    rintro _ w_24 ⟨rfl, hd14⟩
                    have hS28 := hS27.out00 hd14
                    have hS28 : ST w0 [] _ [⟨some ⟨b, 0, none⟩, 24, [.int .i64 aC.Qubits, .slice B aC.Gates.length c], 2⟩, ⟨B1, 109, (r_2.Gates.flatMap enc_Gate), c1 * 3⟩, ⟨B2, 116, (r_3.Cells.flatMap enc_Dyadic), c2 * 5⟩, ⟨some ⟨b1, 0, none⟩, 28, [.int .i64 r_3.Rows, .int .i64 r_3.Cols, .slice B2 r_3.Cells.length c2], 3⟩, ⟨some ⟨b2, 0, none⟩, 33, [.int .i64 r_5.Qubits, .slice B3 r_5.Gates.length c3], 2⟩, ⟨some ⟨b3, 0, none⟩, 28, [.int .i64 r_6.Rows, .int .i64 r_6.Cols, .slice B4 r_6.Cells.length c4], 3⟩, ⟨B5, 109, (r_9.Gates.flatMap enc_Gate), c5 * 3⟩, ⟨B3, 109, (m.flatMap enc_Gate), c3 * 3⟩, ⟨B4, 116, (m1.flatMap enc_Dyadic), c4 * 5⟩, ⟨B6, 109, (r_15.Gates.flatMap enc_Gate), c6 * 3⟩, ⟨B7, 116, (r_16.Cells.flatMap enc_Dyadic), c7 * 5⟩, ⟨some ⟨b4, 0, none⟩, 28, [.int .i64 r_16.Rows, .int .i64 r_16.Cols, .slice B7 r_16.Cells.length c7], 3⟩] [⟨B, (aC.Gates.flatMap enc_Gate)⟩] := hS28
                    refine sq 13 rfl rfl (Y_assign (v := .int .i64 r_19) rfl rfl) ?_
                    refine rw_nil ?_
                    refine cw_seq ?_
                    refine cw_seq ?_
                    refine cw_region ?_
                    refine sq 96 rfl rfl (Y_move (v := .int .i64 r_19) rfl rfl) ?_
                    refine sq 97 rfl rfl (Y_lt (k := .i64) (a := r_19) (b := 0) rfl rfl rfl) ?_
                    refine rw_nil ?_
                    refine cw_cond (b := (decide (r_19 < 0))) rfl (fun hb7 => ?_) (fun hb7 => ?_)
                    · skip
                      have hF15 := ct hF14 hb7
                      refine cw_seq ?_
                      refine cw_region ?_
                      refine sq 4 rfl rfl (Y_assign (v := .bool false) rfl rfl) ?_
                      refine rw_nil ?_
                      refine cw_ret ?_
                      obtain rfl := some_inj hF15
                      exact ret1 Try.results3 (v1 := .bool false) (resAt_tmp rfl) ⟨rfl, (ST.subR (R' := []) (hS28.sel [] rfl rfl) (fun _ h => by cases h))⟩
                    · skip
                      have hF16 := cf' hF14 hb7
                      refine cw_skip ?_
                      refine cw_seq ?_
                      refine cw_seq ?_
                      refine cw_region ?_
                      refine sq 98 rfl rfl (Y_move (v := .int .i64 r_19) rfl rfl) ?_
                      refine sq 99 rfl rfl (Y_move (v := .int .i64 r_13) rfl rfl) ?_
                      refine sq 100 rfl rfl (Y_ne (k := .i64) (a := r_19) (b := r_13) rfl rfl rfl) ?_
                      refine rw_nil ?_
                      refine cw_cond (b := (r_19 != r_13)) rfl (fun hb8 => ?_) (fun hb8 => ?_)
                      · skip
                        have hF17 := ct hF16 hb8
                        refine cw_seq ?_
                        refine cw_region ?_
                        refine sq 4 rfl rfl (Y_assign (v := .bool false) rfl rfl) ?_
                        refine rw_nil ?_
                        refine cw_ret ?_
                        obtain rfl := some_inj hF17
                        exact ret1 Try.results3 (v1 := .bool false) (resAt_tmp rfl) ⟨rfl, (ST.subR (R' := []) (hS28.sel [] rfl rfl) (fun _ h => by cases h))⟩
                      · skip
                        have hF18 := cf' hF16 hb8
                        refine cw_skip ?_
                        refine cw_seq ?_
                        refine cw_region ?_
                        refine sq 4 rfl rfl (Y_assign (v := .bool true) rfl rfl) ?_
                        refine rw_nil ?_
                        refine cw_ret ?_
                        obtain rfl := some_inj hF18
                        exact ret1 Try.results3 (v1 := .bool true) (resAt_tmp rfl) ⟨rfl, (ST.subR (R' := []) (hS28.sel [] rfl rfl) (fun _ h => by cases h))⟩
        exact allR_nil
      exact allR_nil
end Go.VK
