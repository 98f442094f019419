/- Walks: each Go function returns what its Lean function says. By program. -/
import Derived.Test.YtbhancgonaleoaaGreatDoorCircuitOfFormFa
import Derived.Test.YtbhancgonaleoaaGreatDoorCircuitOfFormW4
set_option linter.unusedVariables false
set_option maxRecDepth 100000
set_option maxHeartbeats 1000000
namespace Go.VK
open Go.RowKit
open Go.Proofs
open Go.IntKind
attribute [local irreducible] CW RW RA CV Y Yw Yc Ys RetOf
attribute [local irreducible] F_laws_szNormalForm F_spec_l1In F_spec_l10Valid F_spec_l9Same F_spec_l1Even F_spec_l1Root F_spec_l1Half F_spec_l2Low F_spec_l1All F_spec_l1Good F_spec_l2C_ring F_spec_l1Mul F_spec_l2C_mul F_spec_l1Add F_spec_l2C_add F_spec_l2C_times F_spec_l1Neg F_spec_l2Neg F_spec_l1Turn F_spec_l2Power F_spec_l6One F_spec_l9Pauli F_spec_l1Conj F_spec_l2Conj F_spec_l3Adj F_spec_l9Bloch F_spec_l6Bit F_spec_l6Cell F_spec_l6Gate F_spec_l2C_run F_spec_l3Unit F_spec_l6Op F_spec_l9Word F_spec_l9Words F_spec_l10Gates F_spec_l10Circuit F_spec_CircuitOfForm F_laws_toNormalForm F_impl_within F_impl_IsValidForm F_impl_isCoef F_impl_IsValidRing F_impl_isEven F_impl_IsValidDyadic F_impl_ringIf F_impl_MulRing F_impl_DivRootTwo F_impl_DyadicOf F_impl_MulDyadic F_impl_MulRootTwo F_impl_raised F_impl_combined F_impl_AddRing F_impl_AddDyadic F_impl_mulBloch F_impl_whole F_impl_small F_impl_isDim F_impl_matrixOf F_impl_isTwo F_impl_IsValidGate F_impl_MulOmega F_impl_phase F_impl_bitOf F_impl_flipped F_impl_comesFrom F_impl_entry F_impl_GateMatrix_1 F_impl_GateMatrix F_slices_IndexFunc_impl_Dyadic_impl_Dyadic F_slices_ContainsFunc_impl_Dyadic_impl_Dyadic F_impl_IsValidMatrix_1 F_impl_IsValidMatrix F_impl_IdentityMatrix_1 F_impl_IdentityMatrix F_impl_Matrix_at F_impl_MulMatrix_1 F_impl_MulMatrix F_impl_Conjugate F_impl_ConjDyadic F_impl_Adjoint_1 F_impl_Adjoint F_slices_Equal_impl_Dyadic_impl_Dyadic F_impl_EqualMatrices F_impl_IsUnitary F_impl_IsOneQubit F_impl_TraceOf F_impl_blochCell F_impl_BlochOf F_impl_blochGate F_slices_IndexFunc_SSimpl_Dyadic_impl_Dyadic F_slices_ContainsFunc_SSimpl_Dyadic_impl_Dyadic F_impl_cliffordList_1 F_impl_cliffordList F_impl_CliffordWord F_impl_wordGates F_impl_syllableGates F_impl_formGates F_slices_IndexFunc_impl_Gate_impl_Gate F_slices_ContainsFunc_impl_Gate_impl_Gate F_impl_IsValidCircuit_1 F_impl_IsValidCircuit F_impl_circuitIf F_impl_CircuitOfForm F_laws_eqGate F_laws_eqGateS F_laws_eqCircuit F_laws_markGateS F_laws_markCircuit F_laws_heldGateS F_laws_heldCircuit F_laws_FnExactCircuitOfForm
theorem c_laws_heldGateS (a : List TGate) (k_ : Int) (B : Option Addr) (c n : Nat) (w0 : World) (hn : a.length = n) (hS : ST w0 [] w0 [] [⟨B, (a.flatMap eN2)⟩]) {r_ : Int} (hF : F_laws_heldGateS a k_ = some r_) :
  CV Tryz.prog 38 #[.slice B n c, vi k_] w0 (fun v w' => v = vi r_ ∧ ST w0 [] w' [] []) := by
 subst hn
 unfold F_laws_heldGateS at hF
 refine cv_of_cw 40 Tryz.func38 rfl Tryz.ntmps38 rfl ?_
 refine cw_seq (cw_region ?_)
 refine sQ 4 (Y_assign (v := vi 0) rfl rfl) (rw_nil (cw_seq (cw_seq (cw_region ?_))))
 refine sQ 5 (Y_assign (v := vi 0) rfl rfl) (rw_nil ?_)
 obtain ⟨hN, hF⟩ := chk_inv hF
 obtain ⟨z, hz, hF1⟩ := bind_inv hF
 refine cw_block ?_
 refine cw_loop (fun k f w => ∃ (i1 : Nat) (k_1 : Int), FF f [(0, .slice B a.length c), (1, vi k_1), (5, vi (i1 : Int))] ∧ ST w0 [] w [] [⟨B, (a.flatMap eN2)⟩] ∧ i1 + k = a.length ∧ forX (F_laws_heldGateS_l1 a) k i1 k_1 = some z) a.length ⟨0, k_, (FF.cons rfl (FF.cons rfl (FF.cons rfl FF.nil))), (hS.sel [] rfl rfl), Nat.zero_add _, hz⟩ ?_
 rintro k_2 f w ⟨i1, k_1, hf, hS1, hik, hL⟩
 refine cw_seq (cw_seq (cw_region ?_))
 refine sQ 6 (Y_move (v := vi (i1 : Int)) rfl (hf.get 5 2 rfl)) ?_
 refine sQ 7 (Y_move (v := .slice B a.length c) rfl (hf.get 0 0 rfl)) ?_
 refine sQ 8 (Y_len (B := B) (m := a.length) (c := c) k_sl_37_70 rfl rfl) ?_
 refine sQ 9 (Y_lt (k := .i64) (a := (i1 : Int)) (b := (a.length : Int)) rfl rfl rfl) (rw_nil ?_)
 refine cw_cond (b := (decide ((i1 : Int) < (a.length : Int)))) rfl (fun hlt => ?_) (fun hlt => ?_)
 ·skip
  have hlt1 : i1 < a.length := by have h := of_decide_eq_true hlt; omega
  obtain ⟨k_3, rfl⟩ : ∃ k2, k_2 = k2 + 1 := ⟨k_2 - 1, by omega⟩
  obtain ⟨y, hb, hL1⟩ := forX_go hL
  unfold F_laws_heldGateS_l1 at hb
  refine cw_skip (cw_seq (cw_block (cw_seq (cw_seq (cw_region ?_)))))
  refine sQ 12 (Y_move (v := .slice B a.length c) rfl (hf.get 0 0 rfl)) ?_
  refine sQ 13 (Y_move (v := vi (i1 : Int)) rfl (hf.get 5 2 rfl)) ?_
  obtain ⟨x, hx, hb⟩ := bind_inv hb
  refine sQ 14 (Y_index (B := B) (m := a.length) (c := c) (k := .i64) (i := (i1 : Int)) k_sl_37_70 k_sz_70_3 rfl rfl rfl (gi_isSome enc_Gate_len rfl (hS1.rf (i := 0) rfl) hx) (getI_nn hx) (getI_ltI hx rfl)) ?_
  refine sQ 15 (Y_fieldAddr (B := B) (i := (i1 : Int).toNat * 3) (s := 0) k_fd_70_0_0_3 k_sz_3_1 rfl rfl) ?_
  refine sQ 16 (Y_load1 (B := B) (i := (i1 : Int).toNat * 3 + 0) (cs := (a.flatMap eN2)) (v := vi x.Kind) k_sc_3 rfl rfl (hS1.rf (i := 0) rfl) (gi_at enc_Gate_len hx rfl)) ?_
  refine sQ 17 (Y_move (v := vi k_1) rfl (hf.get 1 1 rfl)) ?_
  refine sQ 18 (Y_ne (k := .i64) (a := x.Kind) (b := k_1) rfl rfl rfl) (rw_nil ?_)
  refine cw_cond (b := (x.Kind != k_1)) rfl (fun hb1 => ?_) (fun hb1 => ?_)
  ·skip
   have hF2 := ct hb hb1
   refine cw_seq (cw_region ?_)
   refine sQ 4 (Y_assign (v := vi (-1)) rfl rfl) (rw_nil (cw_ret ?_))
   obtain rfl := some_inj hF2
   obtain rfl := some_inj hL1
   obtain rfl := some_inj hF1
   exact ret1 Tryz.results38 (v1 := vi (-1)) (resAt_tmp rfl) ⟨rfl, (hS1.sN [])⟩
  ·skip
   have hF3 := cf' hb hb1
   refine cw_skip (cw_seq (cw_region ?_))
   refine sQ 19 (Y_move (v := vi k_1) rfl (hf.get 1 1 rfl)) ?_
   refine sQ 20 (Y_add (k := .i64) (a := k_1) (b := 1) rfl rfl rfl) ?_
   refine sQ 1 (Y_assign (v := vi (i64.wrap (k_1 + 1))) rfl rfl) (rw_nil (cw_seq (cw_seq (cw_region ?_))))
   refine sQ 21 (Y_move (v := .slice B a.length c) rfl (hf.get 0 0 rfl)) ?_
   refine sQ 22 (Y_move (v := vi (i1 : Int)) rfl (hf.get 5 2 rfl)) ?_
   refine sQ 23 (Y_index (B := B) (m := a.length) (c := c) (k := .i64) (i := (i1 : Int)) k_sl_37_70 k_sz_70_3 rfl rfl rfl (gi_isSome enc_Gate_len rfl (hS1.rf (i := 0) rfl) hx) (getI_nn hx) (getI_ltI hx rfl)) ?_
   refine sQ 24 (Y_fieldAddr (B := B) (i := (i1 : Int).toNat * 3) (s := 0) k_fd_70_1_1_3 k_sz_3_1 rfl rfl) ?_
   refine sQ 25 (Y_load1 (B := B) (i := (i1 : Int).toNat * 3 + 1) (cs := (a.flatMap eN2)) (v := vi x.A) k_sc_3 rfl rfl (hS1.rf (i := 0) rfl) (gi_at enc_Gate_len hx rfl)) ?_
   refine sQ 26 (Y_move (v := vi (i64.wrap (k_1 + 1))) rfl rfl) ?_
   refine sQ 27 (Y_ne (k := .i64) (a := x.A) (b := (i64.wrap (k_1 + 1))) rfl rfl rfl) (rw_nil ?_)
   refine cw_cond (b := (x.A != (i64.wrap (k_1 + 1)))) rfl (fun hb2 => ?_) (fun hb2 => ?_)
   ·skip
    have hF4 := ct hF3 hb2
    refine cw_seq (cw_region ?_)
    refine sQ 4 (Y_assign (v := vi (-1)) rfl rfl) (rw_nil (cw_ret ?_))
    obtain rfl := some_inj hF4
    obtain rfl := some_inj hL1
    obtain rfl := some_inj hF1
    exact ret1 Tryz.results38 (v1 := vi (-1)) (resAt_tmp rfl) ⟨rfl, (hS1.sN [])⟩
   ·skip
    have hF5 := cf' hF3 hb2
    refine cw_skip (cw_seq (cw_region ?_))
    refine sQ 28 (Y_move (v := vi (i64.wrap (k_1 + 1))) rfl rfl) ?_
    refine sQ 29 (Y_add (k := .i64) (a := (i64.wrap (k_1 + 1))) (b := 1) rfl rfl rfl) ?_
    refine sQ 1 (Y_assign (v := vi (i64.wrap ((i64.wrap (k_1 + 1)) + 1))) rfl rfl) (rw_nil (cw_seq (cw_seq (cw_region ?_))))
    refine sQ 30 (Y_move (v := .slice B a.length c) rfl (hf.get 0 0 rfl)) ?_
    refine sQ 31 (Y_move (v := vi (i1 : Int)) rfl (hf.get 5 2 rfl)) ?_
    refine sQ 32 (Y_index (B := B) (m := a.length) (c := c) (k := .i64) (i := (i1 : Int)) k_sl_37_70 k_sz_70_3 rfl rfl rfl (gi_isSome enc_Gate_len rfl (hS1.rf (i := 0) rfl) hx) (getI_nn hx) (getI_ltI hx rfl)) ?_
    refine sQ 33 (Y_fieldAddr (B := B) (i := (i1 : Int).toNat * 3) (s := 0) k_fd_70_2_2_3 k_sz_3_1 rfl rfl) ?_
    refine sQ 34 (Y_load1 (B := B) (i := (i1 : Int).toNat * 3 + 2) (cs := (a.flatMap eN2)) (v := vi x.B) k_sc_3 rfl rfl (hS1.rf (i := 0) rfl) (gi_at enc_Gate_len hx rfl)) ?_
    refine sQ 35 (Y_move (v := vi (i64.wrap ((i64.wrap (k_1 + 1)) + 1))) rfl rfl) ?_
    refine sQ 36 (Y_ne (k := .i64) (a := x.B) (b := (i64.wrap ((i64.wrap (k_1 + 1)) + 1))) rfl rfl rfl) (rw_nil ?_)
    refine cw_cond (b := (x.B != (i64.wrap ((i64.wrap (k_1 + 1)) + 1)))) rfl (fun hb3 => ?_) (fun hb3 => ?_)
    ·skip
     have hF6 := ct hF5 hb3
     refine cw_seq (cw_region ?_)
     refine sQ 4 (Y_assign (v := vi (-1)) rfl rfl) (rw_nil (cw_ret ?_))
     obtain rfl := some_inj hF6
     obtain rfl := some_inj hL1
     obtain rfl := some_inj hF1
     exact ret1 Tryz.results38 (v1 := vi (-1)) (resAt_tmp rfl) ⟨rfl, (hS1.sN [])⟩
    ·skip
     have hF7 := cf' hF5 hb3
     refine cw_skip (cw_region ?_)
     refine sQ 37 (Y_move (v := vi (i64.wrap ((i64.wrap (k_1 + 1)) + 1))) rfl rfl) ?_
     refine sQ 38 (Y_add (k := .i64) (a := (i64.wrap ((i64.wrap (k_1 + 1)) + 1))) (b := 1) rfl rfl rfl) ?_
     refine sQ 1 (Y_assign (v := vi (i64.wrap ((i64.wrap ((i64.wrap (k_1 + 1)) + 1)) + 1))) rfl rfl) (rw_nil (cw_region ?_))
     refine sQ 10 (Y_move (v := vi (i1 : Int)) rfl (hf.get 5 2 rfl)) ?_
     refine sQ 11 (Y_add (k := .i64) (a := (i1 : Int)) (b := 1) rfl rfl rfl) ?_
     refine sQ 5 (Y_assign (v := vi (i64.wrap ((i1 : Int) + 1))) rfl rfl) (rw_nil ?_)
     obtain rfl := some_inj hF7
     exact ⟨k_3, Nat.lt_succ_self _, i1 + 1, (i64.wrap ((i64.wrap ((i64.wrap (k_1 + 1)) + 1)) + 1)), (FF.cons (hf.get 0 0 rfl) (FF.cons rfl (FF.cons (congrArg (Value.int .i64) (wr_succ hlt1 hN)) FF.nil))), (hS1.sel [] rfl rfl), (by omega), hL1⟩
 ·skip
  obtain rfl : k_2 = 0 := by have h := of_decide_eq_false hlt; omega
  refine cw_exit rfl ?_
  obtain rfl := some_inj hL
  refine cw_seq (cw_region ?_)
  refine sQ 39 (Y_move (v := vi k_1) rfl (hf.get 1 1 rfl)) ?_
  refine sQ 4 (Y_assign (v := vi k_1) rfl rfl) (rw_nil (cw_ret ?_))
  obtain rfl := some_inj hF1
  exact ret1 Tryz.results38 (v1 := vi k_1) (resAt_tmp rfl) ⟨rfl, (hS1.sN [])⟩

theorem c_laws_heldCircuit (a : TCircuit) (k_ : Int) (B : Option Addr) (c n : Nat) (w0 : World) (hn : a.Gates.length = n) (hS : ST w0 [] w0 [] [⟨B, (a.Gates.flatMap eN2)⟩]) {r_ : Int} (hF : F_laws_heldCircuit a k_ = some r_) :
  CV Tryz.prog 17 #[.agg #[vi a.Qubits, .slice B n c], vi k_] w0 (fun v w' => v = vi r_ ∧ ST w0 [] w' [] []) := by
 subst hn
 unfold F_laws_heldCircuit at hF
 refine cv_of_cw 12 Tryz.func17 rfl Tryz.ntmps17 rfl ?_
 refine cw_seq (cw_region ?_)
 refine sS 2 (Ys_box (T := 39) (v := .agg #[vi a.Qubits, .slice B a.Gates.length c]) (cs := [vi a.Qubits, .slice B a.Gates.length c]) (m := 2) hS rfl rfl rfl rfl) ?_
 rintro _ w_ ⟨b, rfl, hS1⟩
 refine sQ 4 (Y_assign (v := vi 0) rfl rfl) (rw_nil (cw_seq (cw_region ?_)))
 refine sQ 5 (Y_fieldAddr (B := aD b) (i := 0) (s := 0) k_fd_39_1_1_37 k_sz_37_1 rfl rfl) ?_
 refine sQ 6 (Y_load1 (B := aD b) (i := 1) (cs := [vi a.Qubits, .slice B a.Gates.length c]) (v := .slice B a.Gates.length c) k_sc_37 rfl rfl (hS1.cf (i := 0) rfl) rfl) ?_
 refine sQ 7 (Y_move (v := vi k_) rfl rfl) ?_
 obtain ⟨r_1, hc, hF⟩ := bind_inv hF
 refine sc 8 rfl rfl (Yc_func (g := 38) (vs := [.slice B a.Gates.length c, vi k_]) k_call_38 rfl (mc rfl (mc rfl mn)) (c_laws_heldGateS a.Gates k_ B c a.Gates.length _ rfl (hS1.inn0 [(true, 0)] rfl) hc)) ?_
 rintro _ w_1 ⟨rfl, hd⟩
 have hS2 := hS1.out00 hd
 refine sQ 1 (Y_assign (v := vi r_1) rfl rfl) (rw_nil (cw_seq (cw_seq (cw_region ?_))))
 refine sQ 9 (Y_move (v := vi r_1) rfl rfl) ?_
 refine sQ 10 (Y_lt (k := .i64) (a := r_1) (b := 0) rfl rfl rfl) (rw_nil ?_)
 refine cw_cond (b := (decide (r_1 < 0))) rfl (fun hb => ?_) (fun hb => ?_)
 ·skip
  have hF1 := ct hF hb
  refine cw_seq (cw_region ?_)
  refine sQ 4 (Y_assign (v := vi (-1)) rfl rfl) (rw_nil (cw_ret ?_))
  obtain rfl := some_inj hF1
  exact ret1 Tryz.results17 (v1 := vi (-1)) (resAt_tmp rfl) ⟨rfl, (hS2.sN [])⟩
 ·skip
  have hF2 := cf' hF hb
  refine cw_skip (cw_seq (cw_region ?_))
  refine sQ 11 (Y_move (v := vi r_1) rfl rfl) ?_
  refine sQ 4 (Y_assign (v := vi r_1) rfl rfl) (rw_nil (cw_ret ?_))
  obtain rfl := some_inj hF2
  exact ret1 Tryz.results17 (v1 := vi r_1) (resAt_tmp rfl) ⟨rfl, (hS2.sN [])⟩

theorem c_laws_FnExactCircuitOfForm (aF : TNormalForm)  (w0 : World)  (hS : ST w0 [] w0 [] [⟨(aD 0), [vi 1, vi 0, vi 0, vi 0, vi 2]⟩]) {r_ : Bool} (hF : F_laws_FnExactCircuitOfForm aF = some r_) :
  CV Tryz.prog 4 #[.agg #[.string (bstr aF.Syllables), vi aF.Clifford, vi aF.Phase]] w0 (fun v w' => v = .bool r_ ∧ ST w0 [] w' [] []) := by
 unfold F_laws_FnExactCircuitOfForm at hF
 refine cv_of_cw 72 Tryz.func4 rfl Tryz.ntmps4 rfl ?_
 refine cw_seq (cw_region ?_)
 refine sS 1 (Ys_box (T := 35) (v := .agg #[.string (bstr aF.Syllables), vi aF.Clifford, vi aF.Phase]) (cs := [.string (bstr aF.Syllables), vi aF.Clifford, vi aF.Phase]) (m := 3) hS rfl rfl rfl rfl) ?_
 rintro _ w_ ⟨b, rfl, hS1⟩
 refine sQ 2 (Y_assign (v := .bool false) rfl rfl) (rw_nil (cw_seq (cw_region ?_)))
 refine sQ 3 (Y_assign (v := vi 1048576) rfl rfl) (rw_nil (cw_seq (cw_region ?_)))
 refine sQ 12 (Y_loadA (B := aD b) (i := 0) (cs := [.string (bstr aF.Syllables), vi aF.Clifford, vi aF.Phase]) (vs := [.string (bstr aF.Syllables), vi aF.Clifford, vi aF.Phase]) k_ag_35 k_sz_35_3 rfl rfl (hS1.cf (i := 0) rfl) rfl rfl) ?_
 refine sQ 13 (Y_move (v := vi 1048576) rfl rfl) ?_
 obtain ⟨r_1, hc, hF⟩ := bind_inv hF
 refine sc 14 rfl rfl (Yc_func (g := 11) (vs := [.agg #[.string (bstr aF.Syllables), vi aF.Clifford, vi aF.Phase], vi 1048576]) k_call_11 rfl (mc rfl (mc rfl mn)) (c_laws_szNormalForm aF 1048576 _  (hS1.inn0 [] rfl) hc)) ?_
 rintro _ w_1 ⟨rfl, hd⟩
 have hS2 := hS1.out00 hd
 refine sQ 3 (Y_assign (v := vi r_1) rfl rfl) (rw_nil (cw_seq (cw_seq (cw_region ?_))))
 refine sQ 15 (Y_move (v := vi r_1) rfl rfl) ?_
 refine sQ 16 (Y_lt (k := .i64) (a := r_1) (b := 0) rfl rfl rfl) (rw_nil ?_)
 refine cw_cond (b := (decide (r_1 < 0))) rfl (fun hb => ?_) (fun hb => ?_)
 ·skip
  have hF1 := ct hF hb
  refine cw_seq (cw_region ?_)
  refine sQ 2 (Y_assign (v := .bool true) rfl rfl) (rw_nil (cw_ret ?_))
  obtain rfl := some_inj hF1
  exact ret1 Tryz.results4 (v1 := .bool true) (resAt_tmp rfl) ⟨rfl, (hS2.sN [])⟩
 ·skip
  have hF2 := cf' hF hb
  refine cw_skip (cw_seq (cw_region ?_))
  refine sQ 18 (Y_loadA (B := aD b) (i := 0) (cs := [.string (bstr aF.Syllables), vi aF.Clifford, vi aF.Phase]) (vs := [.string (bstr aF.Syllables), vi aF.Clifford, vi aF.Phase]) k_ag_35 k_sz_35_3 rfl rfl (hS2.cf (i := 0) rfl) rfl rfl) ?_
  obtain ⟨r_2, hc1, hF2⟩ := bind_inv hF2
  refine sc 19 rfl rfl (Yc_func (g := 13) (vs := [.agg #[.string (bstr aF.Syllables), vi aF.Clifford, vi aF.Phase]]) k_call_13 rfl (mc rfl mn) (c_laws_toNormalForm aF _  (hS2.inn0 [] rfl) hc1)) ?_
  rintro _ w_2 ⟨rfl, hd1⟩
  have hS3 := hS2.out00 hd1
  obtain ⟨⟨r_3, r_4⟩, hc2, hF2⟩ := bind_inv hF2
  refine sc 20 rfl rfl (Yc_func (g := 12) (vs := [.agg #[.string (bstr r_2.Syllables), vi r_2.Clifford, vi r_2.Phase]]) k_call_12 rfl (mc rfl mn) (c_spec_CircuitOfForm r_2 _  (hS3.inn0 [] rfl) hc2)) ?_
  rintro _ w_3 ⟨B, c, rfl, hd2⟩
  have hS4 := hS3.out0 hd2
  refine sQ 17 (Y_move (v := .tuple #[.agg #[vi r_3.Qubits, .slice B r_3.Gates.length c], .bool r_4]) rfl rfl) ?_
  refine sQ 21 (Y_extract (v := .agg #[vi r_3.Qubits, .slice B r_3.Gates.length c]) rfl rfl rfl) ?_
  refine sQ 22 (Y_extract (v := .bool r_4) rfl rfl rfl) ?_
  refine sS 4 (Ys_alloc (T := 39) (cs := [vi 0, .slice none 0 0]) (m := 2) hS4 k_zero_39 rfl rfl rfl) ?_
  rintro _ w_4 ⟨b1, rfl, hS5⟩
  refine s0 (Ys_store (i := 2) (s := 2) (B := aD b1) (T' := 39) (v := .agg #[vi r_3.Qubits, .slice B r_3.Gates.length c]) (vs := [vi r_3.Qubits, .slice B r_3.Gates.length c]) (k := 0) (cs' := [vi r_3.Qubits, .slice B r_3.Gates.length c]) hS5 k_sz_39_2 rfl rfl rfl rfl rfl rfl rfl (lB rfl) rfl rfl) ?_
  rintro _ w_5 ⟨rfl, hS6⟩
  refine sQ 5 (Y_assign (v := .bool r_4) rfl rfl) (rw_nil (cw_seq (cw_region ?_)))
  refine sQ 24 (Y_loadA (B := aD b) (i := 0) (cs := [.string (bstr aF.Syllables), vi aF.Clifford, vi aF.Phase]) (vs := [.string (bstr aF.Syllables), vi aF.Clifford, vi aF.Phase]) k_ag_35 k_sz_35_3 rfl rfl (hS6.cf (i := 0) rfl) rfl rfl) ?_
  obtain ⟨r_5, hc3, hF2⟩ := bind_inv hF2
  refine sc 25 rfl rfl (Yc_func (g := 13) (vs := [.agg #[.string (bstr aF.Syllables), vi aF.Clifford, vi aF.Phase]]) k_call_13 rfl (mc rfl mn) (c_laws_toNormalForm aF _  (hS6.inn0 [] rfl) hc3)) ?_
  rintro _ w_6 ⟨rfl, hd3⟩
  have hS7 := hS6.out00 hd3
  obtain ⟨⟨r_6, r_7⟩, hc4, hF2⟩ := bind_inv hF2
  refine sc 26 rfl rfl (Yc_func (g := 14) (vs := [.agg #[.string (bstr r_5.Syllables), vi r_5.Clifford, vi r_5.Phase]]) k_call_14 rfl (mc rfl mn) (c_impl_CircuitOfForm r_5 _  (hS7.inn0 [(true, 0)] rfl) hc4)) ?_
  rintro _ w_7 ⟨B1, c1, rfl, hd4⟩
  have hS8 := hS7.out0 hd4
  refine sQ 23 (Y_move (v := .tuple #[.agg #[vi r_6.Qubits, .slice B1 r_6.Gates.length c1], .bool r_7]) rfl rfl) ?_
  refine sQ 27 (Y_extract (v := .agg #[vi r_6.Qubits, .slice B1 r_6.Gates.length c1]) rfl rfl rfl) ?_
  refine sQ 28 (Y_extract (v := .bool r_7) rfl rfl rfl) ?_
  refine sS 6 (Ys_alloc (T := 39) (cs := [vi 0, .slice none 0 0]) (m := 2) hS8 k_zero_39 rfl rfl rfl) ?_
  rintro _ w_8 ⟨b2, rfl, hS9⟩
  refine s0 (Ys_store (i := 4) (s := 2) (B := aD b2) (T' := 39) (v := .agg #[vi r_6.Qubits, .slice B1 r_6.Gates.length c1]) (vs := [vi r_6.Qubits, .slice B1 r_6.Gates.length c1]) (k := 0) (cs' := [vi r_6.Qubits, .slice B1 r_6.Gates.length c1]) hS9 k_sz_39_2 rfl rfl rfl rfl rfl rfl rfl (lB rfl) rfl rfl) ?_
  rintro _ w_9 ⟨rfl, hS10⟩
  refine sQ 7 (Y_assign (v := .bool r_7) rfl rfl) (rw_nil (cw_seq (cw_seq (cw_region ?_))))
  refine sQ 29 (Y_loadA (B := aD b2) (i := 0) (cs := [vi r_6.Qubits, .slice B1 r_6.Gates.length c1]) (vs := [vi r_6.Qubits, .slice B1 r_6.Gates.length c1]) k_ag_39 k_sz_39_2 rfl rfl (hS10.cf (i := 4) rfl) rfl rfl) ?_
  refine sQ 30 (Y_loadA (B := aD b1) (i := 0) (cs := [vi r_3.Qubits, .slice B r_3.Gates.length c]) (vs := [vi r_3.Qubits, .slice B r_3.Gates.length c]) k_ag_39 k_sz_39_2 rfl rfl (hS10.cf (i := 2) rfl) rfl rfl) ?_
  obtain ⟨r_8, hc5, hF2⟩ := bind_inv hF2
  refine sc 31 rfl rfl (Yc_func (g := 15) (vs := [.agg #[vi r_6.Qubits, .slice B1 r_6.Gates.length c1], .agg #[vi r_3.Qubits, .slice B r_3.Gates.length c]]) k_call_15 rfl (mc rfl (mc rfl mn)) (c_laws_eqCircuit r_6 r_3 B1 c1 r_6.Gates.length B c r_3.Gates.length _ rfl rfl (hS10.inn0 [(false, 3), (false, 1)] rfl) hc5)) ?_
  rintro _ w_10 ⟨rfl, hd5⟩
  have hS11 := hS10.out00 hd5
  have hS11 : ST w0 [] _ [⟨aD b, 35, [.string (bstr aF.Syllables), vi aF.Clifford, vi aF.Phase], 3⟩, ⟨B, 70, (r_3.Gates.flatMap eN2), c * 3⟩, ⟨aD b1, 39, [vi r_3.Qubits, .slice B r_3.Gates.length c], 2⟩, ⟨B1, 70, (r_6.Gates.flatMap eN2), c1 * 3⟩, ⟨aD b2, 39, [vi r_6.Qubits, .slice B1 r_6.Gates.length c1], 2⟩] [⟨(aD 0), [vi 1, vi 0, vi 0, vi 0, vi 2]⟩] := hS11
  refine sQ 32 (Y_not (p := r_8) rfl rfl) ?_
  refine sQ 33 (Y_move (v := .bool (!r_8)) rfl rfl) ?_
  refine sgq 34 (B := (!(!r_8))) (v := .bool r_7) rfl rfl (wF 33) (fun hg => (Y_move (v := .bool r_7) rfl rfl)) ?_
  refine sgq 35 (B := (!(!r_8))) (v := .bool r_4) rfl rfl (wF 33) (fun hg1 => (Y_move (v := .bool r_4) rfl rfl)) ?_
  refine sgq 36 (B := (!(!r_8))) (v := .bool (!(r_7 == r_4))) rfl rfl (wF 33) (fun hg2 => (Y_bne (p := r_7) (q := r_4) k_und_4 rfl (gv_of (v := .bool r_7) hg2) (gv_of (v := .bool r_4) hg2))) ?_
  refine sQ 37 (Y_or (b := (!r_8)) (z := (!(r_7 == r_4))) rfl rfl rfl rfl) (rw_nil ?_)
  refine cw_cond (b := ((!r_8) || (!(r_7 == r_4)))) rfl (fun hb1 => ?_) (fun hb1 => ?_)
  ·skip
   have hF3 := ct hF2 hb1
   refine cw_seq (cw_region ?_)
   refine sQ 2 (Y_assign (v := .bool false) rfl rfl) (rw_nil (cw_ret ?_))
   obtain rfl := some_inj hF3
   exact ret1 Tryz.results4 (v1 := .bool false) (resAt_tmp rfl) ⟨rfl, (hS11.sN [])⟩
  ·skip
   have hF4 := cf' hF2 hb1
   refine cw_skip (cw_seq (cw_region ?_))
   refine sQ 8 (Y_assign (v := vi 1) rfl rfl) (rw_nil (cw_seq (cw_region ?_)))
   refine sQ 38 (Y_loadA (B := aD b2) (i := 0) (cs := [vi r_6.Qubits, .slice B1 r_6.Gates.length c1]) (vs := [vi r_6.Qubits, .slice B1 r_6.Gates.length c1]) k_ag_39 k_sz_39_2 rfl rfl (hS11.cf (i := 4) rfl) rfl rfl) ?_
   refine sQ 39 (Y_move (v := vi 1) rfl rfl) ?_
   obtain ⟨⟨r_9, m⟩, hc6, hF4⟩ := bind_inv hF4
   refine sc 40 rfl rfl (Yc_func (g := 16) (vs := [.agg #[vi r_6.Qubits, .slice B1 r_6.Gates.length c1], vi 1]) k_call_16 rfl (mc rfl (mc rfl mn)) (c_laws_markCircuit r_6 1 B1 c1 r_6.Gates.length _ rfl (hS11.inn [false, false, false, true, false] rfl [] rfl) hc6)) ?_
   rintro _ w_11 ⟨rfl, hl, hd6⟩
   have hS12 := hS11.out [false, false, false, true, false] rfl hd6
   refine sQ 8 (Y_assign (v := vi r_9) rfl rfl) (rw_nil (cw_seq (cw_region ?_)))
   refine sQ 9 (Y_assign (v := vi 1) rfl rfl) (rw_nil (cw_seq (cw_region ?_)))
   refine sQ 41 (Y_loadA (B := aD b2) (i := 0) (cs := [vi r_6.Qubits, .slice B1 r_6.Gates.length c1]) (vs := [vi r_6.Qubits, .slice B1 r_6.Gates.length c1]) k_ag_39 k_sz_39_2 rfl rfl (hS12.cf (i := 3) rfl) rfl rfl) ?_
   refine sQ 42 (Y_move (v := vi 1) rfl rfl) ?_
   obtain ⟨r_10, hc7, hF4⟩ := bind_inv hF4
   refine sc 43 rfl rfl (Yc_func (g := 17) (vs := [.agg #[vi r_6.Qubits, .slice B1 r_6.Gates.length c1], vi 1]) k_call_17 rfl (mc rfl (mc rfl mn)) (c_laws_heldCircuit (TCircuit.mk r_6.Qubits m) 1 B1 c1 r_6.Gates.length _ hl (hS12.inn0 [(false, 4)] rfl) hc7)) ?_
   rintro _ w_12 ⟨rfl, hd7⟩
   have hS13 := hS12.out00 hd7
   refine sQ 9 (Y_assign (v := vi r_10) rfl rfl) (rw_nil (cw_seq (cw_seq (cw_region ?_))))
   refine sQ 44 (Y_move (v := vi r_10) rfl rfl) ?_
   refine sQ 45 (Y_lt (k := .i64) (a := r_10) (b := 0) rfl rfl rfl) (rw_nil ?_)
   refine cw_cond (b := (decide (r_10 < 0))) rfl (fun hb2 => ?_) (fun hb2 => ?_)
   ·skip
    have hF5 := ct hF4 hb2
    refine cw_seq (cw_region ?_)
    refine sQ 2 (Y_assign (v := .bool false) rfl rfl) (rw_nil (cw_ret ?_))
    obtain rfl := some_inj hF5
    exact ret1 Tryz.results4 (v1 := .bool false) (resAt_tmp rfl) ⟨rfl, (hS13.sN [])⟩
   ·skip
    have hF6 := cf' hF4 hb2
    refine cw_skip (cw_seq (cw_seq (cw_region ?_)))
    refine sQ 46 (Y_move (v := vi r_10) rfl rfl) ?_
    refine sQ 47 (Y_move (v := vi r_9) rfl rfl) ?_
    refine sQ 48 (Y_ne (k := .i64) (a := r_10) (b := r_9) rfl rfl rfl) (rw_nil ?_)
    refine cw_cond (b := (r_10 != r_9)) rfl (fun hb3 => ?_) (fun hb3 => ?_)
    ·skip
     have hF7 := ct hF6 hb3
     refine cw_seq (cw_region ?_)
     refine sQ 2 (Y_assign (v := .bool false) rfl rfl) (rw_nil (cw_ret ?_))
     obtain rfl := some_inj hF7
     exact ret1 Tryz.results4 (v1 := .bool false) (resAt_tmp rfl) ⟨rfl, (hS13.sN [])⟩
    ·skip
     have hF8 := cf' hF6 hb3
     refine cw_skip (cw_seq (cw_region ?_))
     refine sQ 50 (Y_loadA (B := aD b) (i := 0) (cs := [.string (bstr aF.Syllables), vi aF.Clifford, vi aF.Phase]) (vs := [.string (bstr aF.Syllables), vi aF.Clifford, vi aF.Phase]) k_ag_35 k_sz_35_3 rfl rfl (hS13.cf (i := 0) rfl) rfl rfl) ?_
     obtain ⟨r_11, hc8, hF8⟩ := bind_inv hF8
     refine sc 51 rfl rfl (Yc_func (g := 13) (vs := [.agg #[.string (bstr aF.Syllables), vi aF.Clifford, vi aF.Phase]]) k_call_13 rfl (mc rfl mn) (c_laws_toNormalForm aF _  (hS13.inn0 [] rfl) hc8)) ?_
     rintro _ w_13 ⟨rfl, hd8⟩
     have hS14 := hS13.out00 hd8
     obtain ⟨⟨r_12, r_13⟩, hc9, hF8⟩ := bind_inv hF8
     refine sc 52 rfl rfl (Yc_func (g := 14) (vs := [.agg #[.string (bstr r_11.Syllables), vi r_11.Clifford, vi r_11.Phase]]) k_call_14 rfl (mc rfl mn) (c_impl_CircuitOfForm r_11 _  (hS14.inn0 [(true, 0)] rfl) hc9)) ?_
     rintro _ w_14 ⟨B2, c2, rfl, hd9⟩
     have hS15 := hS14.out0 hd9
     refine sQ 49 (Y_move (v := .tuple #[.agg #[vi r_12.Qubits, .slice B2 r_12.Gates.length c2], .bool r_13]) rfl rfl) ?_
     refine sQ 53 (Y_extract (v := .agg #[vi r_12.Qubits, .slice B2 r_12.Gates.length c2]) rfl rfl rfl) ?_
     refine sQ 54 (Y_extract (v := .bool r_13) rfl rfl rfl) ?_
     refine sS 10 (Ys_alloc (T := 39) (cs := [vi 0, .slice none 0 0]) (m := 2) hS15 k_zero_39 rfl rfl rfl) ?_
     rintro _ w_15 ⟨b3, rfl, hS16⟩
     refine s0 (Ys_store (i := 6) (s := 2) (B := aD b3) (T' := 39) (v := .agg #[vi r_12.Qubits, .slice B2 r_12.Gates.length c2]) (vs := [vi r_12.Qubits, .slice B2 r_12.Gates.length c2]) (k := 0) (cs' := [vi r_12.Qubits, .slice B2 r_12.Gates.length c2]) hS16 k_sz_39_2 rfl rfl rfl rfl rfl rfl rfl (lB rfl) rfl rfl) ?_
     rintro _ w_16 ⟨rfl, hS17⟩
     refine sQ 11 (Y_assign (v := .bool r_13) rfl rfl) (rw_nil (cw_seq (cw_seq (cw_region ?_))))
     refine sQ 55 (Y_loadA (B := aD b3) (i := 0) (cs := [vi r_12.Qubits, .slice B2 r_12.Gates.length c2]) (vs := [vi r_12.Qubits, .slice B2 r_12.Gates.length c2]) k_ag_39 k_sz_39_2 rfl rfl (hS17.cf (i := 6) rfl) rfl rfl) ?_
     refine sQ 56 (Y_loadA (B := aD b1) (i := 0) (cs := [vi r_3.Qubits, .slice B r_3.Gates.length c]) (vs := [vi r_3.Qubits, .slice B r_3.Gates.length c]) k_ag_39 k_sz_39_2 rfl rfl (hS17.cf (i := 2) rfl) rfl rfl) ?_
     obtain ⟨r_14, hc10, hF8⟩ := bind_inv hF8
     refine sc 57 rfl rfl (Yc_func (g := 15) (vs := [.agg #[vi r_12.Qubits, .slice B2 r_12.Gates.length c2], .agg #[vi r_3.Qubits, .slice B r_3.Gates.length c]]) k_call_15 rfl (mc rfl (mc rfl mn)) (c_laws_eqCircuit r_12 r_3 B2 c2 r_12.Gates.length B c r_3.Gates.length _ rfl rfl (hS17.inn0 [(false, 5), (false, 1)] rfl) hc10)) ?_
     rintro _ w_17 ⟨rfl, hd10⟩
     have hS18 := hS17.out00 hd10
     refine sQ 58 (Y_not (p := r_14) rfl rfl) ?_
     refine sQ 59 (Y_move (v := .bool (!r_14)) rfl rfl) ?_
     refine sgq 60 (B := (!(!r_14))) (v := .bool r_13) rfl rfl (wF 59) (fun hg3 => (Y_move (v := .bool r_13) rfl rfl)) ?_
     refine sgq 61 (B := (!(!r_14))) (v := .bool r_4) rfl rfl (wF 59) (fun hg4 => (Y_move (v := .bool r_4) rfl rfl)) ?_
     refine sgq 62 (B := (!(!r_14))) (v := .bool (!(r_13 == r_4))) rfl rfl (wF 59) (fun hg5 => (Y_bne (p := r_13) (q := r_4) k_und_4 rfl (gv_of (v := .bool r_13) hg5) (gv_of (v := .bool r_4) hg5))) ?_
     refine sQ 63 (Y_or (b := (!r_14)) (z := (!(r_13 == r_4))) rfl rfl rfl rfl) (rw_nil ?_)
     refine cw_cond (b := ((!r_14) || (!(r_13 == r_4)))) rfl (fun hb4 => ?_) (fun hb4 => ?_)
     ·skip
      have hF9 := ct hF8 hb4
      refine cw_seq (cw_region ?_)
      refine sQ 2 (Y_assign (v := .bool false) rfl rfl) (rw_nil (cw_ret ?_))
      obtain rfl := some_inj hF9
      exact ret1 Tryz.results4 (v1 := .bool false) (resAt_tmp rfl) ⟨rfl, (hS18.sN [])⟩
     ·skip
      have hF10 := cf' hF8 hb4
      refine cw_skip (cw_seq (cw_region ?_))
      refine sQ 9 (Y_assign (v := vi 1) rfl rfl) (rw_nil (cw_seq (cw_region ?_)))
      refine sQ 64 (Y_loadA (B := aD b2) (i := 0) (cs := [vi r_6.Qubits, .slice B1 r_6.Gates.length c1]) (vs := [vi r_6.Qubits, .slice B1 r_6.Gates.length c1]) k_ag_39 k_sz_39_2 rfl rfl (hS18.cf (i := 3) rfl) rfl rfl) ?_
      refine sQ 65 (Y_move (v := vi 1) rfl rfl) ?_
      obtain ⟨r_15, hc11, hF10⟩ := bind_inv hF10
      refine sc 66 rfl rfl (Yc_func (g := 17) (vs := [.agg #[vi r_6.Qubits, .slice B1 r_6.Gates.length c1], vi 1]) k_call_17 rfl (mc rfl (mc rfl mn)) (c_laws_heldCircuit (TCircuit.mk r_6.Qubits m) 1 B1 c1 r_6.Gates.length _ hl (hS18.inn0 [(false, 4)] rfl) hc11)) ?_
      rintro _ w_18 ⟨rfl, hd11⟩
      have hS19 := hS18.out00 hd11
      have hS19 : ST w0 [] _ [⟨aD b, 35, [.string (bstr aF.Syllables), vi aF.Clifford, vi aF.Phase], 3⟩, ⟨B, 70, (r_3.Gates.flatMap eN2), c * 3⟩, ⟨aD b1, 39, [vi r_3.Qubits, .slice B r_3.Gates.length c], 2⟩, ⟨aD b2, 39, [vi r_6.Qubits, .slice B1 r_6.Gates.length c1], 2⟩, ⟨B1, 70, (m.flatMap eN2), c1 * 3⟩, ⟨B2, 70, (r_12.Gates.flatMap eN2), c2 * 3⟩, ⟨aD b3, 39, [vi r_12.Qubits, .slice B2 r_12.Gates.length c2], 2⟩] [⟨(aD 0), [vi 1, vi 0, vi 0, vi 0, vi 2]⟩] := hS19
      refine sQ 9 (Y_assign (v := vi r_15) rfl rfl) (rw_nil (cw_seq (cw_seq (cw_region ?_))))
      refine sQ 67 (Y_move (v := vi r_15) rfl rfl) ?_
      refine sQ 68 (Y_lt (k := .i64) (a := r_15) (b := 0) rfl rfl rfl) (rw_nil ?_)
      refine cw_cond (b := (decide (r_15 < 0))) rfl (fun hb5 => ?_) (fun hb5 => ?_)
      ·skip
       have hF11 := ct hF10 hb5
       refine cw_seq (cw_region ?_)
       refine sQ 2 (Y_assign (v := .bool false) rfl rfl) (rw_nil (cw_ret ?_))
       obtain rfl := some_inj hF11
       exact ret1 Tryz.results4 (v1 := .bool false) (resAt_tmp rfl) ⟨rfl, (hS19.sN [])⟩
      ·skip
       have hF12 := cf' hF10 hb5
       refine cw_skip (cw_seq (cw_seq (cw_region ?_)))
       refine sQ 69 (Y_move (v := vi r_15) rfl rfl) ?_
       refine sQ 70 (Y_move (v := vi r_9) rfl rfl) ?_
       refine sQ 71 (Y_ne (k := .i64) (a := r_15) (b := r_9) rfl rfl rfl) (rw_nil ?_)
       refine cw_cond (b := (r_15 != r_9)) rfl (fun hb6 => ?_) (fun hb6 => ?_)
       ·skip
        have hF13 := ct hF12 hb6
        refine cw_seq (cw_region ?_)
        refine sQ 2 (Y_assign (v := .bool false) rfl rfl) (rw_nil (cw_ret ?_))
        obtain rfl := some_inj hF13
        exact ret1 Tryz.results4 (v1 := .bool false) (resAt_tmp rfl) ⟨rfl, (hS19.sN [])⟩
       ·skip
        have hF14 := cf' hF12 hb6
        refine cw_skip (cw_seq (cw_region ?_))
        refine sQ 2 (Y_assign (v := .bool true) rfl rfl) (rw_nil (cw_ret ?_))
        obtain rfl := some_inj hF14
        exact ret1 Tryz.results4 (v1 := .bool true) (resAt_tmp rfl) ⟨rfl, (hS19.sN [])⟩
end Go.VK
