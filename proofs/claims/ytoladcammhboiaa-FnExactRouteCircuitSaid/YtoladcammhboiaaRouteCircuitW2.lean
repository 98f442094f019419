/- Walks: each Go function returns what its Lean function says. By program. -/
import Derived.Test.YtoladcammhboiaaRouteCircuitFa
import Derived.Test.YtoladcammhboiaaRouteCircuitW1
set_option linter.unusedVariables false
set_option maxRecDepth 100000
set_option maxHeartbeats 1000000
namespace Go.VK
open Go.RowKit
open Go.Proofs
attribute [local irreducible] CW RW RA CV Y Yw Yc Ys RetOf
attribute [local irreducible] F_laws_szEdgeS F_laws_szCouplingGraph F_laws_szGateS F_laws_szCircuit F_laws_szIntS F_laws_szRouteStepS F_laws_szRoute F_laws_toEdge F_laws_toEdgeS F_laws_toCouplingGraph F_laws_toGate F_laws_toGateS F_laws_toCircuit F_laws_toIntS F_laws_toRouteStep F_laws_toRouteStepS F_laws_toRoute F_laws_eqEdge F_laws_eqEdgeS F_laws_eqCouplingGraph F_laws_eqGate F_laws_eqGateS F_laws_eqCircuit F_laws_eqIntS F_laws_eqRouteStep F_laws_eqRouteStepS F_laws_eqRoute F_laws_markEdgeS F_laws_markCouplingGraph F_laws_markGateS F_laws_markCircuit F_laws_markIntS F_laws_markRouteStepS F_laws_markRoute F_spec_l1In F_spec_l22Valid F_spec_l4Gate F_spec_l4Good F_spec_l23Fits F_spec_l1Own F_spec_l23Swap F_spec_l1Has F_spec_l23Placement F_spec_l22Edge F_spec_l22Two F_spec_l23Qubits F_spec_l23Ready F_spec_l23Near F_spec_l23Play F_spec_RouteCircuit F_impl_within F_impl_areEdges F_impl_IsValidCouplingGraph F_slices_IndexFunc_impl_Gate_impl_Gate F_slices_ContainsFunc_impl_Gate_impl_Gate F_impl_isTwo F_impl_IsValidGate F_impl_IsValidCircuit_1 F_impl_IsValidCircuit F_impl_canRoute F_slices_Clone_int_int F_impl_newRouting F_slices_Index_impl_Edge_impl_Edge F_slices_Contains_impl_Edge_impl_Edge F_impl_CouplingGraph_joins F_impl_routing_swap F_slices_IndexFunc_int_int F_slices_ContainsFunc_int_int F_impl_qubitsOf F_slices_Index_int_int F_slices_Contains_int_int F_impl_meet_1 F_impl_meet F_impl_routing_isReady F_impl_routing_fits F_impl_routing_step F_impl_CouplingGraph_isPlacement F_slices_Index_bool_bool F_slices_Contains_bool_bool F_impl_check F_impl_CheckRoute F_impl_mapped F_impl_circuitIf F_impl_RouteCircuit F_laws_heldGateS F_laws_heldCircuit F_laws_FnExactRouteCircuit
theorem c_spec_l4Good (c : TCircuit) (B : Option Addr) (c1 n : Nat) (w0 : World) (hn : c.Gates.length = n) (hS : ST w0 [] w0 [] [⟨B, (c.Gates.flatMap enc_Gate)⟩]) {r_ : Bool} (hF : F_spec_l4Good c = some r_) :
    CV Try.prog 233 #[.agg #[.int .i64 c.Qubits, .slice B n c1]] w0 (fun v w' => v = .bool r_ ∧ ST w0 [] w' [] []) := by
  subst hn
  unfold F_spec_l4Good at hF
  refine cv_of_cw 28 Try.func233 rfl Try.ntmps233 rfl ?_
  refine cw_seq ?_
  refine cw_region ?_
  refine ss 1 rfl rfl (Ys_box (T := 104) (v := .agg #[.int .i64 c.Qubits, .slice B c.Gates.length c1]) (cs := [.int .i64 c.Qubits, .slice B c.Gates.length c1]) (m := 2) hS rfl rfl rfl rfl) ?_
  rintro _ w_ ⟨b, rfl, hS1⟩
  refine sq 2 rfl rfl (Y_assign (v := .bool false) rfl rfl) ?_
  refine rw_nil ?_
  refine cw_seq ?_
  refine cw_seq ?_
  refine cw_region ?_
  refine sq 5 rfl rfl (Y_fieldAddr (B := some ⟨b, 0, none⟩) (i := 0) (s := 0) k_fd_104_0_0_3 k_sz_3_1 rfl rfl) ?_
  refine sq 6 rfl rfl (Y_load1 (B := some ⟨b, 0, none⟩) (i := 0) (cs := [.int .i64 c.Qubits, .slice B c.Gates.length c1]) (v := .int .i64 c.Qubits) k_sc_3 rfl rfl (hS1.cf (i := 0) rfl) rfl) ?_
  obtain ⟨r_1, hc, hF⟩ := bind_inv hF
  refine sc 7 rfl rfl (Yc_func (g := 201) (vs := [.int .i64 c.Qubits, .int .i64 1, .int .i64 5]) k_call_201 rfl (mc rfl (mc rfl (mc rfl mn))) (c_spec_l1In c.Qubits 1 5 _  (hS1.inn0 [] rfl) hc)) ?_
  rintro _ w_1 ⟨rfl, hd⟩
  have hS2 := hS1.out00 hd
  refine sq 8 rfl rfl (Y_not (p := r_1) rfl rfl) ?_
  refine sq 9 rfl rfl (Y_move (v := .bool (!r_1)) rfl rfl) ?_
  refine sgq 10 (B := (!(!r_1))) (v := pt (some ⟨b, 0, none⟩) 1) rfl rfl (wt_f (gd_of (t := 9) (by kernel_rfl) rfl)) (fun hg => (Y_fieldAddr (B := some ⟨b, 0, none⟩) (i := 0) (s := 0) k_fd_104_1_1_102 k_sz_102_1 rfl rfl)) ?_
  refine sgq 11 (B := (!(!r_1))) (v := .slice B c.Gates.length c1) rfl rfl (wt_f (gd_of (t := 9) (by kernel_rfl) rfl)) (fun hg1 => (Y_load1 (B := some ⟨b, 0, none⟩) (i := 1) (cs := [.int .i64 c.Qubits, .slice B c.Gates.length c1]) (v := .slice B c.Gates.length c1) k_sc_102 rfl (gv_of (B := (!(!r_1))) (v := pt (some ⟨b, 0, none⟩) 1) hg1) (hS2.cf (i := 0) rfl) rfl)) ?_
  refine sgq 12 (B := (!(!r_1))) (v := .int .i64 (c.Gates.length : Int)) rfl rfl (wt_f (gd_of (t := 9) (by kernel_rfl) rfl)) (fun hg2 => (Y_len (B := B) (m := c.Gates.length) (c := c1) k_sl_102_213 rfl (gv_of (B := (!(!r_1))) (v := .slice B c.Gates.length c1) hg2))) ?_
  refine sgq 13 (B := (!(!r_1))) (v := .bool (decide (400 < (c.Gates.length : Int)))) rfl rfl (wt_f (gd_of (t := 9) (by kernel_rfl) rfl)) (fun hg3 => (Y_gt (k := .i64) (a := (c.Gates.length : Int)) (b := 400) rfl (gv_of (B := (!(!r_1))) (v := .int .i64 (c.Gates.length : Int)) hg3) rfl)) ?_
  refine sq 14 rfl rfl (Y_or (b := (!r_1)) (z := (decide (400 < (c.Gates.length : Int)))) rfl rfl rfl rfl) ?_
  refine rw_nil ?_
  refine cw_cond (b := ((!r_1) || (decide (400 < (c.Gates.length : Int))))) rfl (fun hb => ?_) (fun hb => ?_)
  · skip
    have hF1 := ct hF hb
    refine cw_seq ?_
    refine cw_region ?_
    refine sq 2 rfl rfl (Y_assign (v := .bool false) rfl rfl) ?_
    refine rw_nil ?_
    refine cw_ret ?_
    obtain rfl := some_inj hF1
    exact ret1 Try.results233 (v1 := .bool false) (resAt_tmp rfl) ⟨rfl, (ST.subR (R' := []) (hS2.sel [] rfl rfl) (fun _ h => by cases h))⟩
  · skip
    have hF2 := cf' hF hb
    refine cw_skip ?_
    refine cw_seq ?_
    refine cw_seq ?_
    refine cw_region ?_
    refine sq 15 rfl rfl (Y_fieldAddr (B := some ⟨b, 0, none⟩) (i := 0) (s := 0) k_fd_104_1_1_102 k_sz_102_1 rfl rfl) ?_
    refine sq 16 rfl rfl (Y_load1 (B := some ⟨b, 0, none⟩) (i := 1) (cs := [.int .i64 c.Qubits, .slice B c.Gates.length c1]) (v := .slice B c.Gates.length c1) k_sc_102 rfl rfl (hS2.cf (i := 0) rfl) rfl) ?_
    refine sq 17 rfl rfl (Y_len (B := B) (m := c.Gates.length) (c := c1) k_sl_102_213 rfl rfl) ?_
    refine sq 18 rfl rfl (Y_move (v := .int .i64 0) rfl rfl) ?_
    refine rw_nil ?_
    obtain ⟨hN, hF2⟩ := chk_inv hF2
    obtain ⟨z, hz, hF3⟩ := bind_inv hF2
    refine cw_block ?_
    refine cw_loop (fun k f w => ∃ (i : Nat), FF f [(1, pt (some ⟨b, 0, none⟩) 0), (16, .slice B c.Gates.length c1), (17, .int .i64 (c.Gates.length : Int)), (18, .int .i64 (i : Int))] ∧ ST w0 [] w [⟨some ⟨b, 0, none⟩, 104, [.int .i64 c.Qubits, .slice B c.Gates.length c1], 2⟩] [⟨B, (c.Gates.flatMap enc_Gate)⟩] ∧ i + k = c.Gates.length ∧ forX (F_spec_l4Good_l1 c) k i () = some z) c.Gates.length ⟨0, (FF.cons rfl (FF.cons rfl (FF.cons rfl (FF.cons rfl FF.nil)))), (hS2.sel [0] rfl rfl), Nat.zero_add _, hz⟩ ?_
    rintro k_ f w ⟨i, hf, hS3, hik, hL⟩
    refine cw_seq ?_
    refine cw_region ?_
    refine sq 19 rfl rfl (Y_lt (k := .i64) (a := (i : Int)) (b := (c.Gates.length : Int)) rfl (hf.get 18 3 rfl) (hf.get 17 2 rfl)) ?_
    refine rw_nil ?_
    refine cw_seq ?_
    refine cw_cond (b := (decide ((i : Int) < (c.Gates.length : Int)))) rfl (fun hlt => ?_) (fun hlt => ?_)
    · skip
      have hlt1 : i < c.Gates.length := by have h := of_decide_eq_true hlt; omega
      obtain ⟨k_1, rfl⟩ : ∃ k2, k_ = k2 + 1 := ⟨k_ - 1, by omega⟩
      obtain ⟨y, hb1, hL1⟩ := forX_go hL
      unfold F_spec_l4Good_l1 at hb1
      refine cw_skip ?_
      refine cw_seq ?_
      refine cw_block ?_
      refine cw_seq ?_
      refine cw_region ?_
      obtain ⟨x, hx, hb1⟩ := bind_inv hb1
      refine sq 20 rfl rfl (Y_index (B := B) (m := c.Gates.length) (c := c1) (k := .i64) (i := (i : Int)) k_sl_102_213 k_sz_213_3 rfl (hf.get 16 1 rfl) (hf.get 18 3 rfl) (gi_isSome enc_Gate_len rfl (hS3.rf (i := 0) rfl) hx) (getI_nn hx) (getI_ltI hx rfl)) ?_
      refine sq 21 rfl rfl (Y_loadA (B := B) (i := (i : Int).toNat * 3) (cs := (c.Gates.flatMap enc_Gate)) (vs := [.int .i64 x.Kind, .int .i64 x.A, .int .i64 x.B]) k_ag_213 k_sz_213_3 rfl rfl (hS3.rf (i := 0) rfl) (enc_Gate_len x) (gi_seg enc_Gate_len hx)) ?_
      refine ss 4 rfl rfl (Ys_alloc (T := 213) (cs := [.int .i64 0, .int .i64 0, .int .i64 0]) (m := 3) hS3 k_zero_213 rfl rfl rfl) ?_
      rintro _ w_2 ⟨b1, rfl, hS4⟩
      have hS4 : ST w0 [] _ [⟨some ⟨b, 0, none⟩, 104, [.int .i64 c.Qubits, .slice B c.Gates.length c1], 2⟩, ⟨some ⟨b1, 0, none⟩, 213, [.int .i64 0, .int .i64 0, .int .i64 0], 3⟩] [⟨B, (c.Gates.flatMap enc_Gate)⟩] := hS4
      refine ss0 rfl rfl (Ys_store (i := 1) (s := 3) (B := some ⟨b1, 0, none⟩) (T' := 213) (v := .agg #[.int .i64 x.Kind, .int .i64 x.A, .int .i64 x.B]) (vs := [.int .i64 x.Kind, .int .i64 x.A, .int .i64 x.B]) (k := 0) (cs' := [.int .i64 x.Kind, .int .i64 x.A, .int .i64 x.B]) hS4 k_sz_213_3 rfl rfl rfl rfl rfl rfl rfl (Nat.le_of_ble_eq_true rfl) rfl rfl) ?_
      rintro _ w_3 ⟨rfl, hS5⟩
      have hS5 : ST w0 [] _ [⟨some ⟨b, 0, none⟩, 104, [.int .i64 c.Qubits, .slice B c.Gates.length c1], 2⟩, ⟨some ⟨b1, 0, none⟩, 213, [.int .i64 x.Kind, .int .i64 x.A, .int .i64 x.B], 3⟩] [⟨B, (c.Gates.flatMap enc_Gate)⟩] := hS5
      refine rw_nil ?_
      refine cw_seq ?_
      refine cw_region ?_
      refine sq 22 rfl rfl (Y_fieldAddr (B := some ⟨b, 0, none⟩) (i := 0) (s := 0) k_fd_104_0_0_3 k_sz_3_1 rfl (hf.get 1 0 rfl)) ?_
      refine sq 23 rfl rfl (Y_load1 (B := some ⟨b, 0, none⟩) (i := 0) (cs := [.int .i64 c.Qubits, .slice B c.Gates.length c1]) (v := .int .i64 c.Qubits) k_sc_3 rfl rfl (hS5.cf (i := 0) rfl) rfl) ?_
      refine sq 24 rfl rfl (Y_loadA (B := some ⟨b1, 0, none⟩) (i := 0) (cs := [.int .i64 x.Kind, .int .i64 x.A, .int .i64 x.B]) (vs := [.int .i64 x.Kind, .int .i64 x.A, .int .i64 x.B]) k_ag_213 k_sz_213_3 rfl rfl (hS5.cf (i := 1) rfl) rfl rfl) ?_
      obtain ⟨r_2, hc1, hb1⟩ := bind_inv hb1
      refine sc 25 rfl rfl (Yc_func (g := 310) (vs := [.int .i64 c.Qubits, .agg #[.int .i64 x.Kind, .int .i64 x.A, .int .i64 x.B]]) k_call_310 rfl (mc rfl (mc rfl mn)) (c_spec_l4Gate c.Qubits x _  (hS5.inn0 [] rfl) hc1)) ?_
      rintro _ w_4 ⟨rfl, hd1⟩
      have hS6 := hS5.out00 hd1
      have hS6 : ST w0 [] _ [⟨some ⟨b, 0, none⟩, 104, [.int .i64 c.Qubits, .slice B c.Gates.length c1], 2⟩, ⟨some ⟨b1, 0, none⟩, 213, [.int .i64 x.Kind, .int .i64 x.A, .int .i64 x.B], 3⟩] [⟨B, (c.Gates.flatMap enc_Gate)⟩] := hS6
      refine sq 26 rfl rfl (Y_not (p := r_2) rfl rfl) ?_
      refine rw_nil ?_
      refine cw_cond (b := (!r_2)) rfl (fun hb2 => ?_) (fun hb2 => ?_)
      · skip
        have hF4 := ct hb1 hb2
        refine cw_seq ?_
        refine cw_region ?_
        refine sq 2 rfl rfl (Y_assign (v := .bool false) rfl rfl) ?_
        refine rw_nil ?_
        refine cw_ret ?_
        obtain rfl := some_inj hF4
        obtain rfl := some_inj hL1
        obtain rfl := some_inj hF3
        exact ret1 Try.results233 (v1 := .bool false) (resAt_tmp rfl) ⟨rfl, (ST.subR (R' := []) (hS6.sel [] rfl rfl) (fun _ h => by cases h))⟩
      · skip
        have hF5 := cf' hb1 hb2
        refine cw_skip ?_
        refine cw_region ?_
        refine sq 27 rfl rfl (Y_add (k := .i64) (a := (i : Int)) (b := 1) rfl (hf.get 18 3 rfl) rfl) ?_
        refine sq 18 rfl rfl (Y_move (v := .int .i64 (IntKind.i64.wrap ((i : Int) + 1))) rfl rfl) ?_
        refine rw_nil ?_
        obtain rfl := some_inj hF5
        exact ⟨k_1, Nat.lt_succ_self _, i + 1, (FF.cons (hf.get 1 0 rfl) (FF.cons (hf.get 16 1 rfl) (FF.cons (hf.get 17 2 rfl) (FF.cons (congrArg (Value.int .i64) (wr_succ hlt1 hN)) FF.nil)))), (hS6.sel [0] rfl rfl), (by omega), hL1⟩
    · skip
      obtain rfl : k_ = 0 := by have h := of_decide_eq_false hlt; omega
      refine cw_exit rfl ?_
      obtain rfl := some_inj hL
      refine cw_seq ?_
      refine cw_region ?_
      refine sq 2 rfl rfl (Y_assign (v := .bool true) rfl rfl) ?_
      refine rw_nil ?_
      refine cw_ret ?_
      obtain rfl := some_inj hF3
      exact ret1 Try.results233 (v1 := .bool true) (resAt_tmp rfl) ⟨rfl, (ST.subR (R' := []) (hS3.sel [] rfl rfl) (fun _ h => by cases h))⟩

theorem c_spec_l23Fits (g : TCouplingGraph) (c1 : TCircuit) (B : Option Addr) (c n : Nat) (B1 : Option Addr) (c2 n1 : Nat) (w0 : World) (hn : g.Edges.length = n) (hn1 : c1.Gates.length = n1) (hS : ST w0 [] w0 [] [⟨B, (g.Edges.flatMap enc_Edge)⟩, ⟨B1, (c1.Gates.flatMap enc_Gate)⟩]) {r_ : Bool} (hF : F_spec_l23Fits g c1 = some r_) :
    CV Try.prog 148 #[.agg #[.int .i64 g.Nodes, .slice B n c], .agg #[.int .i64 c1.Qubits, .slice B1 n1 c2]] w0 (fun v w' => v = .bool r_ ∧ ST w0 [] w' [] []) := by
  subst hn
  subst hn1
  unfold F_spec_l23Fits at hF
  refine cv_of_cw 18 Try.func148 rfl Try.ntmps148 rfl ?_
  refine cw_seq ?_
  refine cw_region ?_
  refine ss 2 rfl rfl (Ys_box (T := 100) (v := .agg #[.int .i64 g.Nodes, .slice B g.Edges.length c]) (cs := [.int .i64 g.Nodes, .slice B g.Edges.length c]) (m := 2) hS rfl rfl rfl rfl) ?_
  rintro _ w_ ⟨b, rfl, hS1⟩
  refine ss 3 rfl rfl (Ys_box (T := 104) (v := .agg #[.int .i64 c1.Qubits, .slice B1 c1.Gates.length c2]) (cs := [.int .i64 c1.Qubits, .slice B1 c1.Gates.length c2]) (m := 2) hS1 rfl rfl rfl rfl) ?_
  rintro _ w_1 ⟨b1, rfl, hS2⟩
  have hS2 : ST w0 [] _ [⟨some ⟨b, 0, none⟩, 100, [.int .i64 g.Nodes, .slice B g.Edges.length c], 2⟩, ⟨some ⟨b1, 0, none⟩, 104, [.int .i64 c1.Qubits, .slice B1 c1.Gates.length c2], 2⟩] [⟨B, (g.Edges.flatMap enc_Edge)⟩, ⟨B1, (c1.Gates.flatMap enc_Gate)⟩] := hS2
  refine sq 4 rfl rfl (Y_assign (v := .bool false) rfl rfl) ?_
  refine rw_nil ?_
  refine cw_seq ?_
  refine cw_region ?_
  refine sq 5 rfl rfl (Y_loadA (B := some ⟨b, 0, none⟩) (i := 0) (cs := [.int .i64 g.Nodes, .slice B g.Edges.length c]) (vs := [.int .i64 g.Nodes, .slice B g.Edges.length c]) k_ag_100 k_sz_100_2 rfl rfl (hS2.cf (i := 0) rfl) rfl rfl) ?_
  obtain ⟨r_1, hc, hF⟩ := bind_inv hF
  refine sc 6 rfl rfl (Yc_func (g := 232) (vs := [.agg #[.int .i64 g.Nodes, .slice B g.Edges.length c]]) k_call_232 rfl (mc rfl mn) (c_spec_l22Valid g B c g.Edges.length _ rfl (hS2.inn0 [(true, 0)] rfl) hc)) ?_
  rintro _ w_2 ⟨rfl, hd⟩
  have hS3 := hS2.out00 hd
  have hS3 : ST w0 [] _ [⟨some ⟨b, 0, none⟩, 100, [.int .i64 g.Nodes, .slice B g.Edges.length c], 2⟩, ⟨some ⟨b1, 0, none⟩, 104, [.int .i64 c1.Qubits, .slice B1 c1.Gates.length c2], 2⟩] [⟨B, (g.Edges.flatMap enc_Edge)⟩, ⟨B1, (c1.Gates.flatMap enc_Gate)⟩] := hS3
  refine sq 7 rfl rfl (Y_move (v := .bool r_1) rfl rfl) ?_
  refine sgq 8 (B := r_1) (v := .agg #[.int .i64 c1.Qubits, .slice B1 c1.Gates.length c2]) rfl rfl (wt_t (gd_of (t := 7) (by kernel_rfl) rfl)) (fun hg => (Y_loadA (B := some ⟨b1, 0, none⟩) (i := 0) (cs := [.int .i64 c1.Qubits, .slice B1 c1.Gates.length c2]) (vs := [.int .i64 c1.Qubits, .slice B1 c1.Gates.length c2]) k_ag_104 k_sz_104_2 rfl rfl (hS3.cf (i := 1) rfl) rfl rfl)) ?_
  obtain ⟨r_2, hc1, hF⟩ := bind_inv hF
  refine sgc 9 (B := r_1) (v := .bool r_2) (F := hS3.fn) rfl rfl (wt_t (gd_of (t := 7) (by kernel_rfl) rfl)) hS3 (fun hg1 => (Yc_func (g := 233) (vs := [.agg #[.int .i64 c1.Qubits, .slice B1 c1.Gates.length c2]]) k_call_233 rfl (mc (gv_of (B := r_1) (v := .agg #[.int .i64 c1.Qubits, .slice B1 c1.Gates.length c2]) hg1) mn) (CV.mono (c_spec_l4Good c1 B1 c2 c1.Gates.length _ rfl (hS3.inn0 [(true, 1)] rfl) (gb_inv hc1 hg1)) (by rintro _ _ ⟨rfl, h⟩; exact ⟨rfl, hS3.out00 h⟩)))) ?_
  rintro w_3 hS4
  have hS4 : ST _ _ w_3 _ _ := hS4
  refine sq 10 rfl rfl (Y_and (b := r_1) (z := r_2) rfl rfl rfl rfl) ?_
  refine sq 11 rfl rfl (Y_move (v := .bool (r_1 && r_2)) rfl rfl) ?_
  refine sgq 12 (B := (r_1 && r_2)) (v := pt (some ⟨b1, 0, none⟩) 0) rfl rfl (wt_t (gd_of (t := 11) (by kernel_rfl) rfl)) (fun hg2 => (Y_fieldAddr (B := some ⟨b1, 0, none⟩) (i := 0) (s := 0) k_fd_104_0_0_3 k_sz_3_1 rfl rfl)) ?_
  refine sgq 13 (B := (r_1 && r_2)) (v := .int .i64 c1.Qubits) rfl rfl (wt_t (gd_of (t := 11) (by kernel_rfl) rfl)) (fun hg3 => (Y_load1 (B := some ⟨b1, 0, none⟩) (i := 0) (cs := [.int .i64 c1.Qubits, .slice B1 c1.Gates.length c2]) (v := .int .i64 c1.Qubits) k_sc_3 rfl (gv_of (B := (r_1 && r_2)) (v := pt (some ⟨b1, 0, none⟩) 0) hg3) (hS4.cf (i := 1) rfl) rfl)) ?_
  refine sgq 14 (B := (r_1 && r_2)) (v := pt (some ⟨b, 0, none⟩) 0) rfl rfl (wt_t (gd_of (t := 11) (by kernel_rfl) rfl)) (fun hg4 => (Y_fieldAddr (B := some ⟨b, 0, none⟩) (i := 0) (s := 0) k_fd_100_0_0_3 k_sz_3_1 rfl rfl)) ?_
  refine sgq 15 (B := (r_1 && r_2)) (v := .int .i64 g.Nodes) rfl rfl (wt_t (gd_of (t := 11) (by kernel_rfl) rfl)) (fun hg5 => (Y_load1 (B := some ⟨b, 0, none⟩) (i := 0) (cs := [.int .i64 g.Nodes, .slice B g.Edges.length c]) (v := .int .i64 g.Nodes) k_sc_3 rfl (gv_of (B := (r_1 && r_2)) (v := pt (some ⟨b, 0, none⟩) 0) hg5) (hS4.cf (i := 0) rfl) rfl)) ?_
  refine sgq 16 (B := (r_1 && r_2)) (v := .bool (decide (c1.Qubits ≤ g.Nodes))) rfl rfl (wt_t (gd_of (t := 11) (by kernel_rfl) rfl)) (fun hg6 => (Y_le (k := .i64) (a := c1.Qubits) (b := g.Nodes) rfl (gv_of (B := (r_1 && r_2)) (v := .int .i64 c1.Qubits) hg6) (gv_of (B := (r_1 && r_2)) (v := .int .i64 g.Nodes) hg6))) ?_
  refine sq 17 rfl rfl (Y_and (b := (r_1 && r_2)) (z := (decide (c1.Qubits ≤ g.Nodes))) rfl rfl rfl rfl) ?_
  refine sq 4 rfl rfl (Y_assign (v := .bool ((r_1 && r_2) && (decide (c1.Qubits ≤ g.Nodes)))) rfl rfl) ?_
  refine rw_nil ?_
  refine cw_ret ?_
  obtain rfl := some_inj hF
  exact ret1 Try.results148 (v1 := .bool ((r_1 && r_2) && (decide (c1.Qubits ≤ g.Nodes)))) (resAt_tmp rfl) ⟨rfl, (ST.subR (R' := []) (hS4.sel [] rfl rfl) (fun _ h => by cases h))⟩

theorem c_spec_l1Own (l : List Int) (B : Option Addr) (c n : Nat) (w0 : World) (hn : l.length = n) (hS : ST w0 [] w0 [] [⟨B, (l.flatMap encI)⟩]) {r_ : List Int} (hF : F_spec_l1Own l = some r_) :
    CV Try.prog 235 #[.slice B n c] w0 (fun v w' => ∃ (B1 : Option Addr) (c1 : Nat), v = .slice B1 r_.length c1 ∧ ST w0 [] w' [⟨B1, 3, (r_.flatMap encI), c1 * 1⟩] []) := by
  subst hn
  unfold F_spec_l1Own at hF
  refine cv_of_cw 6 Try.func235 rfl Try.ntmps235 rfl ?_
  refine cw_seq ?_
  refine cw_region ?_
  refine sq 2 rfl rfl (Y_assign (v := .slice none 0 0) rfl rfl) ?_
  refine rw_nil ?_
  refine cw_seq ?_
  refine cw_region ?_
  refine ss 3 rfl rfl (Ys_bslice0 (s := 1) (e := 3) hS k_sl_59_3 k_sz_3_1 rfl) ?_
  rintro _ w_ ⟨b, rfl, hS1⟩
  refine sq 4 rfl rfl (Y_move (v := .slice B l.length c) rfl rfl) ?_
  obtain ⟨hap, hF⟩ := chk_inv hF
  refine ss 5 rfl rfl (Ys_append (s := 1) (by' := 8) (i := 0) (nn := 0) (c := 0) (k := l.length) (len := l.length) (B := some ⟨b, 0, none⟩) (xs := (l.flatMap encI)) (cs' := (l.flatMap encI)) hS1 k_sl_59_3 k_sz_3_1 k_by_3_8 k_zero_3 rfl (by decide) rfl rfl rfl rfl (fm_lenn (l := []) encI_len rfl) rfl (hS1.rf (i := 0) rfl) (fm_lenn (l := l) encI_len rfl) (fm_one' (enc := encI) encI_one l) (by have := hap; omega) (by have := hap; simp only [maxLen]; omega) rfl (app_len0 (l := l) rfl)) ?_
  rintro _ w_1 ⟨B2, c2, rfl, hS2⟩
  refine sq 2 rfl rfl (Y_assign (v := .slice B2 l.length c2) rfl rfl) ?_
  refine rw_nil ?_
  refine cw_ret ?_
  obtain rfl := some_inj hF
  exact ret1 Try.results235 (v1 := .slice B2 l.length c2) (resAt_tmp rfl) ⟨B2, c2, rfl, (ST.subR (R' := []) (hS2.sel [0] rfl rfl) (fun _ h => by cases h))⟩

theorem c_spec_l23Swap (place : List Int) (a : Int) (b : Int) (B : Option Addr) (c n : Nat) (w0 : World) (hn : place.length = n) (hS : ST w0 [] w0 [] [⟨B, (place.flatMap encI)⟩]) {r_ : List Int} (hF : F_spec_l23Swap place a b = some r_) :
    CV Try.prog 162 #[.slice B n c, .int .i64 a, .int .i64 b] w0 (fun v w' => ∃ (B1 : Option Addr) (c1 : Nat), v = .slice B1 r_.length c1 ∧ ST w0 [] w' [⟨B1, 3, (r_.flatMap encI), c1 * 1⟩] []) := by
  subst hn
  unfold F_spec_l23Swap at hF
  refine cv_of_cw 36 Try.func162 rfl Try.ntmps162 rfl ?_
  refine cw_seq ?_
  refine cw_region ?_
  refine sq 6 rfl rfl (Y_assign (v := .slice none 0 0) rfl rfl) ?_
  refine rw_nil ?_
  refine cw_seq ?_
  refine cw_region ?_
  refine sq 10 rfl rfl (Y_move (v := .slice B place.length c) rfl rfl) ?_
  obtain ⟨r_1, hc, hF⟩ := bind_inv hF
  refine sc 11 rfl rfl (Yc_func (g := 235) (vs := [.slice B place.length c]) k_call_235 rfl (mc rfl mn) (c_spec_l1Own place B c place.length _ rfl (hS.inn0 [(true, 0)] rfl) hc)) ?_
  rintro _ w_ ⟨B2, c2, rfl, hd⟩
  have hS1 := hS.out0 hd
  refine sq 7 rfl rfl (Y_assign (v := .slice B2 r_1.length c2) rfl rfl) ?_
  refine rw_nil ?_
  refine cw_seq ?_
  refine cw_seq ?_
  refine cw_region ?_
  refine sq 12 rfl rfl (Y_move (v := .slice B place.length c) rfl rfl) ?_
  refine sq 13 rfl rfl (Y_len (B := B) (m := place.length) (c := c) k_sl_59_3 rfl rfl) ?_
  refine sq 14 rfl rfl (Y_move (v := .int .i64 0) rfl rfl) ?_
  refine rw_nil ?_
  obtain ⟨hN, hF⟩ := chk_inv hF
  obtain ⟨z, hz, hF1⟩ := bind_inv hF
  refine cw_block ?_
  refine cw_loop (fun k f w => ∃ (i : Nat) (out : List Int), FF f [(1, .int .i64 a), (2, .int .i64 b), (7, .slice B2 r_1.length c2), (12, .slice B place.length c), (13, .int .i64 (place.length : Int)), (14, .int .i64 (i : Int))] ∧ out.length = r_1.length ∧ ST w0 [] w [⟨B2, 3, (out.flatMap encI), c2 * 1⟩] [⟨B, (place.flatMap encI)⟩] ∧ i + k = place.length ∧ forN (F_spec_l23Swap_l1 place a b) k i out = some z) place.length ⟨0, r_1, (FF.cons rfl (FF.cons rfl (FF.cons rfl (FF.cons rfl (FF.cons rfl (FF.cons rfl FF.nil)))))), rfl, (hS1.sel [0] rfl rfl), Nat.zero_add _, hz⟩ ?_
  rintro k_ f w ⟨i, out, hf, hl, hS2, hik, hL⟩
  refine cw_seq ?_
  refine cw_region ?_
  refine sq 15 rfl rfl (Y_lt (k := .i64) (a := (i : Int)) (b := (place.length : Int)) rfl (hf.get 14 5 rfl) (hf.get 13 4 rfl)) ?_
  refine rw_nil ?_
  refine cw_seq ?_
  refine cw_cond (b := (decide ((i : Int) < (place.length : Int)))) rfl (fun hlt => ?_) (fun hlt => ?_)
  · skip
    have hlt1 : i < place.length := by have h := of_decide_eq_true hlt; omega
    obtain ⟨k_1, rfl⟩ : ∃ k2, k_ = k2 + 1 := ⟨k_ - 1, by omega⟩
    obtain ⟨y, hb, hL1⟩ := forN_go hL
    unfold F_spec_l23Swap_l1 at hb
    refine cw_skip ?_
    refine cw_seq ?_
    obtain ⟨z1, hz1, hF2⟩ := bind_inv hb
    refine cw_mid (fun f w => ∃ (out1 : List Int), out1 = z1 ∧ FF f [(1, .int .i64 a), (2, .int .i64 b), (7, .slice B2 r_1.length c2), (12, .slice B place.length c), (13, .int .i64 (place.length : Int)), (14, .int .i64 (i : Int))] ∧ out1.length = r_1.length ∧ ST w0 [] w [⟨B2, 3, (out1.flatMap encI), c2 * 1⟩] [⟨B, (place.flatMap encI)⟩]) ?_ ?_
    · skip
      refine cw_block ?_
      refine cw_seq ?_
      refine cw_region ?_
      refine sq 16 rfl rfl (Y_move (v := .int .i64 (i : Int)) rfl (hf.get 14 5 rfl)) ?_
      obtain ⟨x, hx, hz1⟩ := bind_inv hz1
      refine sq 17 rfl rfl (Y_index (B := B) (m := place.length) (c := c) (k := .i64) (i := (i : Int)) k_sl_59_3 k_sz_3_1 rfl (hf.get 12 3 rfl) (hf.get 14 5 rfl) (gi_isSome encI_len rfl (hS2.rf (i := 0) rfl) hx) (getI_nn hx) (getI_ltI hx rfl)) ?_
      refine sq 18 rfl rfl (Y_load1 (B := B) (i := (i : Int).toNat * 1) (cs := (place.flatMap encI)) (v := .int .i64 x) k_sc_3 rfl rfl (hS2.rf (i := 0) rfl) (gi_at0 encI_len hx rfl)) ?_
      refine sq 8 rfl rfl (Y_assign (v := .int .i64 (i : Int)) rfl rfl) ?_
      refine sq 9 rfl rfl (Y_assign (v := .int .i64 x) rfl rfl) ?_
      refine rw_nil ?_
      refine cw_seq ?_
      refine cw_region ?_
      refine sq 19 rfl rfl (Y_move (v := .int .i64 x) rfl rfl) ?_
      refine rw_nil ?_
      refine cw_block ?_
      refine cw_seq ?_
      refine cw_region ?_
      refine sq 21 rfl rfl (Y_move (v := .int .i64 a) rfl (hf.get 1 0 rfl)) ?_
      refine sq 22 rfl rfl (Y_eq (k := .i64) (a := x) (b := a) rfl rfl rfl) ?_
      refine sq 20 rfl rfl (Y_assign (v := .bool (x == a)) rfl rfl) ?_
      refine rw_nil ?_
      refine cw_cond (b := (x == a)) rfl (fun hb1 => ?_) (fun hb1 => ?_)
      · skip
        have hF3 := ct hz1 hb1
        refine cw_region ?_
        refine sq 23 rfl rfl (Y_move (v := .slice B2 r_1.length c2) rfl (hf.get 7 2 rfl)) ?_
        refine sq 24 rfl rfl (Y_move (v := .int .i64 (i : Int)) rfl rfl) ?_
        refine sq 25 rfl rfl (Y_move (v := .int .i64 b) rfl (hf.get 2 1 rfl)) ?_
        obtain ⟨x1, hx1, hF3⟩ := bind_inv hF3
        refine sq 26 rfl rfl (Y_index (B := B2) (m := r_1.length) (c := c2) (k := .i64) (i := (i : Int)) k_sl_59_3 k_sz_3_1 rfl rfl rfl (gi_isSome encI_len rfl (hS2.cf (i := 0) rfl) hx1) (getI_nn hx1) (getI_ltI hx1 hl)) ?_
        refine ss0 rfl rfl (Ys_store (i := 0) (s := 1) (B := B2) (T' := 3) (v := .int .i64 b) (vs := [.int .i64 b]) (k := (i : Int).toNat * 1) (cs' := ((out.set (i : Int).toNat b).flatMap encI)) hS2 k_sz_3_1 rfl rfl rfl rfl rfl rfl rfl (gi_fit0 encI_len hx1) (gi_set encI_len hx1 b rfl) rfl) ?_
        rintro _ w_1 ⟨rfl, hS4⟩
        refine rw_nil ?_
        exact ⟨(out.set (i : Int).toNat b), (some_inj hF3), (FF.cons (hf.get 1 0 rfl) (FF.cons (hf.get 2 1 rfl) (FF.cons (hf.get 7 2 rfl) (FF.cons (hf.get 12 3 rfl) (FF.cons (hf.get 13 4 rfl) (FF.cons (hf.get 14 5 rfl) FF.nil)))))), (set_len _ _ _ hl), (hS4.sel [0] rfl rfl)⟩
      · skip
        have hF4 := cf' hz1 hb1
        refine cw_seq ?_
        refine cw_region ?_
        refine sq 28 rfl rfl (Y_move (v := .int .i64 b) rfl (hf.get 2 1 rfl)) ?_
        refine sq 29 rfl rfl (Y_eq (k := .i64) (a := x) (b := b) rfl rfl rfl) ?_
        refine sq 27 rfl rfl (Y_assign (v := .bool (x == b)) rfl rfl) ?_
        refine rw_nil ?_
        refine cw_cond (b := (x == b)) rfl (fun hb2 => ?_) (fun hb2 => ?_)
        · skip
          have hF5 := ct hF4 hb2
          refine cw_region ?_
          refine sq 30 rfl rfl (Y_move (v := .slice B2 r_1.length c2) rfl (hf.get 7 2 rfl)) ?_
          refine sq 31 rfl rfl (Y_move (v := .int .i64 (i : Int)) rfl rfl) ?_
          refine sq 32 rfl rfl (Y_move (v := .int .i64 a) rfl (hf.get 1 0 rfl)) ?_
          obtain ⟨x2, hx2, hF5⟩ := bind_inv hF5
          refine sq 33 rfl rfl (Y_index (B := B2) (m := r_1.length) (c := c2) (k := .i64) (i := (i : Int)) k_sl_59_3 k_sz_3_1 rfl rfl rfl (gi_isSome encI_len rfl (hS2.cf (i := 0) rfl) hx2) (getI_nn hx2) (getI_ltI hx2 hl)) ?_
          refine ss0 rfl rfl (Ys_store (i := 0) (s := 1) (B := B2) (T' := 3) (v := .int .i64 a) (vs := [.int .i64 a]) (k := (i : Int).toNat * 1) (cs' := ((out.set (i : Int).toNat a).flatMap encI)) hS2 k_sz_3_1 rfl rfl rfl rfl rfl rfl rfl (gi_fit0 encI_len hx2) (gi_set encI_len hx2 a rfl) rfl) ?_
          rintro _ w_2 ⟨rfl, hS5⟩
          refine rw_nil ?_
          exact ⟨(out.set (i : Int).toNat a), (some_inj hF5), (FF.cons (hf.get 1 0 rfl) (FF.cons (hf.get 2 1 rfl) (FF.cons (hf.get 7 2 rfl) (FF.cons (hf.get 12 3 rfl) (FF.cons (hf.get 13 4 rfl) (FF.cons (hf.get 14 5 rfl) FF.nil)))))), (set_len _ _ _ hl), (hS5.sel [0] rfl rfl)⟩
        · skip
          have hF6 := cf' hF4 hb2
          refine cw_skip ?_
          exact ⟨out, (some_inj hF6), (FF.cons (hf.get 1 0 rfl) (FF.cons (hf.get 2 1 rfl) (FF.cons (hf.get 7 2 rfl) (FF.cons (hf.get 12 3 rfl) (FF.cons (hf.get 13 4 rfl) (FF.cons (hf.get 14 5 rfl) FF.nil)))))), hl, (hS2.sel [0] rfl rfl)⟩
    rintro f w ⟨out1, rfl, hf1, hl1, hS3⟩
    refine cw_region ?_
    refine sq 34 rfl rfl (Y_add (k := .i64) (a := (i : Int)) (b := 1) rfl (hf1.get 14 5 rfl) rfl) ?_
    refine sq 14 rfl rfl (Y_move (v := .int .i64 (IntKind.i64.wrap ((i : Int) + 1))) rfl rfl) ?_
    refine rw_nil ?_
    obtain rfl := some_inj hF2
    exact ⟨k_1, Nat.lt_succ_self _, i + 1, out1, (FF.cons (hf1.get 1 0 rfl) (FF.cons (hf1.get 2 1 rfl) (FF.cons (hf1.get 7 2 rfl) (FF.cons (hf1.get 12 3 rfl) (FF.cons (hf1.get 13 4 rfl) (FF.cons (congrArg (Value.int .i64) (wr_succ hlt1 hN)) FF.nil)))))), hl1, (hS3.sel [0] rfl rfl), (by omega), hL1⟩
  · skip
    obtain rfl : k_ = 0 := by have h := of_decide_eq_false hlt; omega
    refine cw_exit rfl ?_
    obtain rfl := some_inj hL
    refine cw_seq ?_
    refine cw_region ?_
    refine sq 35 rfl rfl (Y_move (v := .slice B2 r_1.length c2) rfl (hf.get 7 2 rfl)) ?_
    refine sq 6 rfl rfl (Y_assign (v := .slice B2 r_1.length c2) rfl rfl) ?_
    refine rw_nil ?_
    refine cw_ret ?_
    obtain rfl := some_inj hF1
    exact ret1 Try.results162 (v1 := .slice B2 r_1.length c2) (resAt_tmp rfl) ⟨B2, c2, (sl_eqv hl), (ST.subR (R' := []) (hS2.sel [0] rfl rfl) (fun _ h => by cases h))⟩

theorem c_spec_l1Has (l : List Int) (n1 : Int) (B : Option Addr) (c n : Nat) (w0 : World) (hn : l.length = n) (hS : ST w0 [] w0 [] [⟨B, (l.flatMap encI)⟩]) {r_ : Bool} (hF : F_spec_l1Has l n1 = some r_) :
    CV Try.prog 297 #[.slice B n c, .int .i64 n1] w0 (fun v w' => v = .bool r_ ∧ ST w0 [] w' [] []) := by
  subst hn
  unfold F_spec_l1Has at hF
  refine cv_of_cw 17 Try.func297 rfl Try.ntmps297 rfl ?_
  refine cw_seq ?_
  refine cw_region ?_
  refine sq 4 rfl rfl (Y_assign (v := .bool false) rfl rfl) ?_
  refine rw_nil ?_
  refine cw_seq ?_
  refine cw_seq ?_
  refine cw_region ?_
  refine sq 7 rfl rfl (Y_move (v := .slice B l.length c) rfl rfl) ?_
  refine sq 8 rfl rfl (Y_len (B := B) (m := l.length) (c := c) k_sl_59_3 rfl rfl) ?_
  refine sq 9 rfl rfl (Y_move (v := .int .i64 0) rfl rfl) ?_
  refine rw_nil ?_
  obtain ⟨hN, hF⟩ := chk_inv hF
  obtain ⟨z, hz, hF1⟩ := bind_inv hF
  refine cw_block ?_
  refine cw_loop (fun k f w => ∃ (i : Nat), FF f [(1, .int .i64 n1), (7, .slice B l.length c), (8, .int .i64 (l.length : Int)), (9, .int .i64 (i : Int))] ∧ ST w0 [] w [] [⟨B, (l.flatMap encI)⟩] ∧ i + k = l.length ∧ forX (F_spec_l1Has_l1 l n1) k i () = some z) l.length ⟨0, (FF.cons rfl (FF.cons rfl (FF.cons rfl (FF.cons rfl FF.nil)))), (hS.sel [] rfl rfl), Nat.zero_add _, hz⟩ ?_
  rintro k_ f w ⟨i, hf, hS1, hik, hL⟩
  refine cw_seq ?_
  refine cw_region ?_
  refine sq 10 rfl rfl (Y_lt (k := .i64) (a := (i : Int)) (b := (l.length : Int)) rfl (hf.get 9 3 rfl) (hf.get 8 2 rfl)) ?_
  refine rw_nil ?_
  refine cw_seq ?_
  refine cw_cond (b := (decide ((i : Int) < (l.length : Int)))) rfl (fun hlt => ?_) (fun hlt => ?_)
  · skip
    have hlt1 : i < l.length := by have h := of_decide_eq_true hlt; omega
    obtain ⟨k_1, rfl⟩ : ∃ k2, k_ = k2 + 1 := ⟨k_ - 1, by omega⟩
    obtain ⟨y, hb, hL1⟩ := forX_go hL
    unfold F_spec_l1Has_l1 at hb
    refine cw_skip ?_
    refine cw_seq ?_
    refine cw_block ?_
    refine cw_seq ?_
    refine cw_region ?_
    obtain ⟨x, hx, hb⟩ := bind_inv hb
    refine sq 11 rfl rfl (Y_index (B := B) (m := l.length) (c := c) (k := .i64) (i := (i : Int)) k_sl_59_3 k_sz_3_1 rfl (hf.get 7 1 rfl) (hf.get 9 3 rfl) (gi_isSome encI_len rfl (hS1.rf (i := 0) rfl) hx) (getI_nn hx) (getI_ltI hx rfl)) ?_
    refine sq 12 rfl rfl (Y_load1 (B := B) (i := (i : Int).toNat * 1) (cs := (l.flatMap encI)) (v := .int .i64 x) k_sc_3 rfl rfl (hS1.rf (i := 0) rfl) (gi_at0 encI_len hx rfl)) ?_
    refine sq 6 rfl rfl (Y_assign (v := .int .i64 x) rfl rfl) ?_
    refine rw_nil ?_
    refine cw_seq ?_
    refine cw_region ?_
    refine sq 13 rfl rfl (Y_move (v := .int .i64 x) rfl rfl) ?_
    refine sq 14 rfl rfl (Y_move (v := .int .i64 n1) rfl (hf.get 1 0 rfl)) ?_
    refine sq 15 rfl rfl (Y_eq (k := .i64) (a := x) (b := n1) rfl rfl rfl) ?_
    refine rw_nil ?_
    refine cw_cond (b := (x == n1)) rfl (fun hb1 => ?_) (fun hb1 => ?_)
    · skip
      have hF2 := ct hb hb1
      refine cw_seq ?_
      refine cw_region ?_
      refine sq 4 rfl rfl (Y_assign (v := .bool true) rfl rfl) ?_
      refine rw_nil ?_
      refine cw_ret ?_
      obtain rfl := some_inj hF2
      obtain rfl := some_inj hL1
      obtain rfl := some_inj hF1
      exact ret1 Try.results297 (v1 := .bool true) (resAt_tmp rfl) ⟨rfl, (ST.subR (R' := []) (hS1.sel [] rfl rfl) (fun _ h => by cases h))⟩
    · skip
      have hF3 := cf' hb hb1
      refine cw_skip ?_
      refine cw_region ?_
      refine sq 16 rfl rfl (Y_add (k := .i64) (a := (i : Int)) (b := 1) rfl (hf.get 9 3 rfl) rfl) ?_
      refine sq 9 rfl rfl (Y_move (v := .int .i64 (IntKind.i64.wrap ((i : Int) + 1))) rfl rfl) ?_
      refine rw_nil ?_
      obtain rfl := some_inj hF3
      exact ⟨k_1, Nat.lt_succ_self _, i + 1, (FF.cons (hf.get 1 0 rfl) (FF.cons (hf.get 7 1 rfl) (FF.cons (hf.get 8 2 rfl) (FF.cons (congrArg (Value.int .i64) (wr_succ hlt1 hN)) FF.nil)))), (hS1.sel [] rfl rfl), (by omega), hL1⟩
  · skip
    obtain rfl : k_ = 0 := by have h := of_decide_eq_false hlt; omega
    refine cw_exit rfl ?_
    obtain rfl := some_inj hL
    refine cw_seq ?_
    refine cw_region ?_
    refine sq 4 rfl rfl (Y_assign (v := .bool false) rfl rfl) ?_
    refine rw_nil ?_
    refine cw_ret ?_
    obtain rfl := some_inj hF1
    exact ret1 Try.results297 (v1 := .bool false) (resAt_tmp rfl) ⟨rfl, (ST.subR (R' := []) (hS1.sel [] rfl rfl) (fun _ h => by cases h))⟩

theorem c_spec_l23Placement (g : TCouplingGraph) (n1 : Int) (place : List Int) (B : Option Addr) (c n : Nat) (B1 : Option Addr) (c1 n2 : Nat) (w0 : World) (hn : g.Edges.length = n) (hn1 : place.length = n2) (hq : n2 ≤ c1) (hS : ST w0 [] w0 [] [⟨B, (g.Edges.flatMap enc_Edge)⟩, ⟨B1, (place.flatMap encI)⟩]) {r_ : Bool} (hF : F_spec_l23Placement g n1 place = some r_) :
    CV Try.prog 234 #[.agg #[.int .i64 g.Nodes, .slice B n c], .int .i64 n1, .slice B1 n2 c1] w0 (fun v w' => v = .bool r_ ∧ ST w0 [] w' [] []) := by
  subst hn
  subst hn1
  unfold F_spec_l23Placement at hF
  refine cv_of_cw 34 Try.func234 rfl Try.ntmps234 rfl ?_
  refine cw_seq ?_
  refine cw_region ?_
  refine ss 3 rfl rfl (Ys_box (T := 100) (v := .agg #[.int .i64 g.Nodes, .slice B g.Edges.length c]) (cs := [.int .i64 g.Nodes, .slice B g.Edges.length c]) (m := 2) hS rfl rfl rfl rfl) ?_
  rintro _ w_ ⟨b, rfl, hS1⟩
  refine sq 6 rfl rfl (Y_assign (v := .bool false) rfl rfl) ?_
  refine rw_nil ?_
  refine cw_seq ?_
  refine cw_seq ?_
  refine cw_region ?_
  refine sq 9 rfl rfl (Y_move (v := .slice B1 place.length c1) rfl rfl) ?_
  refine sq 10 rfl rfl (Y_len (B := B1) (m := place.length) (c := c1) k_sl_59_3 rfl rfl) ?_
  refine sq 11 rfl rfl (Y_move (v := .int .i64 0) rfl rfl) ?_
  refine rw_nil ?_
  obtain ⟨hN, hF⟩ := chk_inv hF
  obtain ⟨z, hz, hF1⟩ := bind_inv hF
  refine cw_block ?_
  refine cw_loop (fun k f w => ∃ (i : Nat), FF f [(1, .int .i64 n1), (2, .slice B1 place.length c1), (3, pt (some ⟨b, 0, none⟩) 0), (9, .slice B1 place.length c1), (10, .int .i64 (place.length : Int)), (11, .int .i64 (i : Int))] ∧ ST w0 [] w [⟨some ⟨b, 0, none⟩, 100, [.int .i64 g.Nodes, .slice B g.Edges.length c], 2⟩] [⟨B, (g.Edges.flatMap enc_Edge)⟩, ⟨B1, (place.flatMap encI)⟩] ∧ i + k = place.length ∧ forX (F_spec_l23Placement_l1 place g) k i () = some z) place.length ⟨0, (FF.cons rfl (FF.cons rfl (FF.cons rfl (FF.cons rfl (FF.cons rfl (FF.cons rfl FF.nil)))))), (hS1.sel [0] rfl rfl), Nat.zero_add _, hz⟩ ?_
  rintro k_ f w ⟨i, hf, hS2, hik, hL⟩
  refine cw_seq ?_
  refine cw_region ?_
  refine sq 12 rfl rfl (Y_lt (k := .i64) (a := (i : Int)) (b := (place.length : Int)) rfl (hf.get 11 5 rfl) (hf.get 10 4 rfl)) ?_
  refine rw_nil ?_
  refine cw_seq ?_
  refine cw_cond (b := (decide ((i : Int) < (place.length : Int)))) rfl (fun hlt => ?_) (fun hlt => ?_)
  · skip
    have hlt1 : i < place.length := by have h := of_decide_eq_true hlt; omega
    obtain ⟨k_1, rfl⟩ : ∃ k2, k_ = k2 + 1 := ⟨k_ - 1, by omega⟩
    obtain ⟨y, hb, hL1⟩ := forX_go hL
    unfold F_spec_l23Placement_l1 at hb
    refine cw_skip ?_
    refine cw_seq ?_
    refine cw_block ?_
    refine cw_seq ?_
    refine cw_region ?_
    refine sq 13 rfl rfl (Y_move (v := .int .i64 (i : Int)) rfl (hf.get 11 5 rfl)) ?_
    obtain ⟨x, hx, hb⟩ := bind_inv hb
    refine sq 14 rfl rfl (Y_index (B := B1) (m := place.length) (c := c1) (k := .i64) (i := (i : Int)) k_sl_59_3 k_sz_3_1 rfl (hf.get 9 3 rfl) (hf.get 11 5 rfl) (gi_isSome encI_len rfl (hS2.rf (i := 1) rfl) hx) (getI_nn hx) (getI_ltI hx rfl)) ?_
    refine sq 15 rfl rfl (Y_load1 (B := B1) (i := (i : Int).toNat * 1) (cs := (place.flatMap encI)) (v := .int .i64 x) k_sc_3 rfl rfl (hS2.rf (i := 1) rfl) (gi_at0 encI_len hx rfl)) ?_
    refine sq 7 rfl rfl (Y_assign (v := .int .i64 (i : Int)) rfl rfl) ?_
    refine sq 8 rfl rfl (Y_assign (v := .int .i64 x) rfl rfl) ?_
    refine rw_nil ?_
    refine cw_seq ?_
    refine cw_region ?_
    refine sq 16 rfl rfl (Y_move (v := .int .i64 x) rfl rfl) ?_
    refine sq 17 rfl rfl (Y_fieldAddr (B := some ⟨b, 0, none⟩) (i := 0) (s := 0) k_fd_100_0_0_3 k_sz_3_1 rfl (hf.get 3 2 rfl)) ?_
    refine sq 18 rfl rfl (Y_load1 (B := some ⟨b, 0, none⟩) (i := 0) (cs := [.int .i64 g.Nodes, .slice B g.Edges.length c]) (v := .int .i64 g.Nodes) k_sc_3 rfl rfl (hS2.cf (i := 0) rfl) rfl) ?_
    refine sq 19 rfl rfl (Y_sub (k := .i64) (a := g.Nodes) (b := 1) rfl rfl rfl) ?_
    obtain ⟨r_1, hc, hb⟩ := bind_inv hb
    refine sc 20 rfl rfl (Yc_func (g := 201) (vs := [.int .i64 x, .int .i64 0, .int .i64 (IntKind.i64.wrap (g.Nodes - 1))]) k_call_201 rfl (mc rfl (mc rfl (mc rfl mn))) (c_spec_l1In x 0 (IntKind.i64.wrap (g.Nodes - 1)) _  (hS2.inn0 [] rfl) hc)) ?_
    rintro _ w_1 ⟨rfl, hd⟩
    have hS3 := hS2.out00 hd
    refine sq 21 rfl rfl (Y_not (p := r_1) rfl rfl) ?_
    refine sq 22 rfl rfl (Y_move (v := .bool (!r_1)) rfl rfl) ?_
    refine sgq 23 (B := (!(!r_1))) (v := .slice B1 place.length c1) rfl rfl (wt_f (gd_of (t := 22) (by kernel_rfl) rfl)) (fun hg => (Y_move (v := .slice B1 place.length c1) rfl (hf.get 2 1 rfl))) ?_
    refine sgq 24 (B := (!(!r_1))) (v := .int .i64 (i : Int)) rfl rfl (wt_f (gd_of (t := 22) (by kernel_rfl) rfl)) (fun hg1 => (Y_move (v := .int .i64 (i : Int)) rfl rfl)) ?_
    refine rw_split (B := (!(!r_1))) (fun hb1 => ?_) (fun hb1 => ?_)
    · skip
      have hF2 := ct hb hb1
      obtain ⟨hsl, hF2⟩ := chk_inv hF2
      have hcap : place.length ≤ c1 := hq
      have hv : (List.take i place).length = i := (take_len rfl (by omega))
      have hq1 : i ≤ c1 := by omega
      have ho : Org w0 [] [⟨B, (g.Edges.flatMap enc_Edge)⟩, ⟨B1, (place.flatMap encI)⟩] [⟨B1, ((List.take i place).flatMap encI)⟩] := org_view encI_len (q := c1) (org_mem (i := 1) rfl) (sv_zero _ _ _).symm rfl
      have hS4 : ST w0 [] _ [⟨some ⟨b, 0, none⟩, 100, [.int .i64 g.Nodes, .slice B g.Edges.length c], 2⟩] [⟨B1, ((List.take i place).flatMap encI)⟩, ⟨B, (g.Edges.flatMap enc_Edge)⟩, ⟨B1, (place.flatMap encI)⟩] := ST.view encI_len hS3 (i := 1) rfl (lo := 0) (h := i) (q := c1) (by omega) (by omega) (sv_zero _ _ _).symm rfl
      refine sqg 25 rfl rfl (wt_f (gd_of (t := 22) (by kernel_rfl) rfl)) hb1 (Y_slice0 (B := B1) (m := place.length) (c := c1) (h := i) (s := 1) k_sl_59_3 k_sz_3_1 rfl (gv_of (B := (!(!r_1))) (v := .slice B1 place.length c1) hb1) (bnd_some (gv_of (B := (!(!r_1))) (v := .int .i64 (i : Int)) hb1) rfl) (by omega)) ?_
      refine sqg 26 rfl rfl (wt_f (gd_of (t := 22) (by kernel_rfl) rfl)) hb1 (Y_move (v := .int .i64 x) rfl rfl) ?_
      obtain ⟨r_2, hc1, hF2⟩ := bind_inv hF2
      refine scg 27 rfl rfl (wt_f (gd_of (t := 22) (by kernel_rfl) rfl)) hb1 (Yc_func (g := 297) (vs := [.slice B1 i c1, .int .i64 x]) k_call_297 rfl (mc rfl (mc rfl mn)) (c_spec_l1Has (List.take i place) x B1 c1 i _ hv (hS4.inn0 [(true, 0)] rfl) hc1)) ?_
      rintro _ w_2 ⟨rfl, hd1⟩
      have hS5 := hS4.out00 hd1
      refine sq 28 rfl rfl (Y_pickF (b := (!r_1)) (v := .bool r_2) rfl rfl (nt hb1) rfl) ?_
      refine rw_nil ?_
      refine cw_cond (b := r_2) rfl (fun hb2 => ?_) (fun hb2 => ?_)
      · skip
        have hF3 := ct hF2 hb2
        refine cw_seq ?_
        refine cw_region ?_
        refine sq 6 rfl rfl (Y_assign (v := .bool false) rfl rfl) ?_
        refine rw_nil ?_
        refine cw_ret ?_
        obtain rfl := some_inj hF3
        obtain rfl := some_inj hL1
        obtain rfl := some_inj hF1
        exact ret1 Try.results234 (v1 := .bool false) (resAt_tmp rfl) ⟨rfl, (ST.subR (R' := []) (hS5.sel [] rfl rfl) (fun _ h => by cases h))⟩
      · skip
        have hF4 := cf' hF2 hb2
        refine cw_skip ?_
        refine cw_region ?_
        refine sq 29 rfl rfl (Y_add (k := .i64) (a := (i : Int)) (b := 1) rfl (hf.get 11 5 rfl) rfl) ?_
        refine sq 11 rfl rfl (Y_move (v := .int .i64 (IntKind.i64.wrap ((i : Int) + 1))) rfl rfl) ?_
        refine rw_nil ?_
        obtain rfl := some_inj hF4
        have hS6 : ST w0 [] _ [⟨some ⟨b, 0, none⟩, 100, [.int .i64 g.Nodes, .slice B g.Edges.length c], 2⟩] [⟨B, (g.Edges.flatMap enc_Edge)⟩, ⟨B1, (place.flatMap encI)⟩] := ST.subR hS5 (subc (mem_at (i := 1) rfl) (subc (mem_at (i := 2) rfl) (fun _ h => by cases h)))
        exact ⟨k_1, Nat.lt_succ_self _, i + 1, (FF.cons (hf.get 1 0 rfl) (FF.cons (hf.get 2 1 rfl) (FF.cons (hf.get 3 2 rfl) (FF.cons (hf.get 9 3 rfl) (FF.cons (hf.get 10 4 rfl) (FF.cons (congrArg (Value.int .i64) (wr_succ hlt1 hN)) FF.nil)))))), (hS6.sel [0] rfl rfl), (by omega), hL1⟩
    · skip
      have hF5 := cf' hb hb1
      refine sgn 25 rfl rfl (wt_f (gd_of (t := 22) (by kernel_rfl) rfl)) hb1 ?_
      refine sgn 26 rfl rfl (wt_f (gd_of (t := 22) (by kernel_rfl) rfl)) hb1 ?_
      refine sgn 27 rfl rfl (wt_f (gd_of (t := 22) (by kernel_rfl) rfl)) hb1 ?_
      refine sq 28 rfl rfl (Y_pickT (b := (!r_1)) (v := .bool true) rfl rfl (nf hb1) rfl) ?_
      refine rw_nil ?_
      refine cw_cond (b := true) rfl (fun _ => ?_) (fun h => by cases h)
      refine cw_seq ?_
      refine cw_region ?_
      refine sq 6 rfl rfl (Y_assign (v := .bool false) rfl rfl) ?_
      refine rw_nil ?_
      refine cw_ret ?_
      obtain rfl := some_inj hF5
      obtain rfl := some_inj hL1
      obtain rfl := some_inj hF1
      exact ret1 Try.results234 (v1 := .bool false) (resAt_tmp rfl) ⟨rfl, (ST.subR (R' := []) (hS3.sel [] rfl rfl) (fun _ h => by cases h))⟩
  · skip
    obtain rfl : k_ = 0 := by have h := of_decide_eq_false hlt; omega
    refine cw_exit rfl ?_
    obtain rfl := some_inj hL
    refine cw_seq ?_
    refine cw_region ?_
    refine sq 30 rfl rfl (Y_move (v := .slice B1 place.length c1) rfl (hf.get 2 1 rfl)) ?_
    refine sq 31 rfl rfl (Y_len (B := B1) (m := place.length) (c := c1) k_sl_59_3 rfl rfl) ?_
    refine sq 32 rfl rfl (Y_move (v := .int .i64 n1) rfl (hf.get 1 0 rfl)) ?_
    refine sq 33 rfl rfl (Y_eq (k := .i64) (a := (place.length : Int)) (b := n1) rfl rfl rfl) ?_
    refine sq 6 rfl rfl (Y_assign (v := .bool ((place.length : Int) == n1)) rfl rfl) ?_
    refine rw_nil ?_
    refine cw_ret ?_
    obtain rfl := some_inj hF1
    exact ret1 Try.results234 (v1 := .bool ((place.length : Int) == n1)) (resAt_tmp rfl) ⟨rfl, (ST.subR (R' := []) (hS2.sel [] rfl rfl) (fun _ h => by cases h))⟩

theorem c_spec_l22Edge (g : TCouplingGraph) (a : Int) (b : Int) (B : Option Addr) (c n : Nat) (w0 : World) (hn : g.Edges.length = n) (hS : ST w0 [] w0 [] [⟨B, (g.Edges.flatMap enc_Edge)⟩]) {r_ : Bool} (hF : F_spec_l22Edge g a b = some r_) :
    CV Try.prog 236 #[.agg #[.int .i64 g.Nodes, .slice B n c], .int .i64 a, .int .i64 b] w0 (fun v w' => v = .bool r_ ∧ ST w0 [] w' [] []) := by
  subst hn
  unfold F_spec_l22Edge at hF
  refine cv_of_cw 39 Try.func236 rfl Try.ntmps236 rfl ?_
  refine cw_seq ?_
  refine cw_region ?_
  refine ss 3 rfl rfl (Ys_box (T := 100) (v := .agg #[.int .i64 g.Nodes, .slice B g.Edges.length c]) (cs := [.int .i64 g.Nodes, .slice B g.Edges.length c]) (m := 2) hS rfl rfl rfl rfl) ?_
  rintro _ w_ ⟨b1, rfl, hS1⟩
  refine sq 6 rfl rfl (Y_assign (v := .bool false) rfl rfl) ?_
  refine rw_nil ?_
  refine cw_seq ?_
  refine cw_seq ?_
  refine cw_region ?_
  refine sq 9 rfl rfl (Y_fieldAddr (B := some ⟨b1, 0, none⟩) (i := 0) (s := 0) k_fd_100_1_1_98 k_sz_98_1 rfl rfl) ?_
  refine sq 10 rfl rfl (Y_load1 (B := some ⟨b1, 0, none⟩) (i := 1) (cs := [.int .i64 g.Nodes, .slice B g.Edges.length c]) (v := .slice B g.Edges.length c) k_sc_98 rfl rfl (hS1.cf (i := 0) rfl) rfl) ?_
  refine sq 11 rfl rfl (Y_len (B := B) (m := g.Edges.length) (c := c) k_sl_98_277 rfl rfl) ?_
  refine sq 12 rfl rfl (Y_move (v := .int .i64 0) rfl rfl) ?_
  refine rw_nil ?_
  obtain ⟨hN, hF⟩ := chk_inv hF
  obtain ⟨z, hz, hF1⟩ := bind_inv hF
  refine cw_block ?_
  refine cw_loop (fun k f w => ∃ (i : Nat), FF f [(1, .int .i64 a), (2, .int .i64 b), (10, .slice B g.Edges.length c), (11, .int .i64 (g.Edges.length : Int)), (12, .int .i64 (i : Int))] ∧ ST w0 [] w [] [⟨B, (g.Edges.flatMap enc_Edge)⟩] ∧ i + k = g.Edges.length ∧ forX (F_spec_l22Edge_l1 g a b) k i () = some z) g.Edges.length ⟨0, (FF.cons rfl (FF.cons rfl (FF.cons rfl (FF.cons rfl (FF.cons rfl FF.nil))))), (hS1.sel [] rfl rfl), Nat.zero_add _, hz⟩ ?_
  rintro k_ f w ⟨i, hf, hS2, hik, hL⟩
  refine cw_seq ?_
  refine cw_region ?_
  refine sq 13 rfl rfl (Y_lt (k := .i64) (a := (i : Int)) (b := (g.Edges.length : Int)) rfl (hf.get 12 4 rfl) (hf.get 11 3 rfl)) ?_
  refine rw_nil ?_
  refine cw_seq ?_
  refine cw_cond (b := (decide ((i : Int) < (g.Edges.length : Int)))) rfl (fun hlt => ?_) (fun hlt => ?_)
  · skip
    have hlt1 : i < g.Edges.length := by have h := of_decide_eq_true hlt; omega
    obtain ⟨k_1, rfl⟩ : ∃ k2, k_ = k2 + 1 := ⟨k_ - 1, by omega⟩
    obtain ⟨y, hb, hL1⟩ := forX_go hL
    unfold F_spec_l22Edge_l1 at hb
    refine cw_skip ?_
    refine cw_seq ?_
    refine cw_block ?_
    refine cw_seq ?_
    refine cw_region ?_
    obtain ⟨x, hx, hb⟩ := bind_inv hb
    refine sq 14 rfl rfl (Y_index (B := B) (m := g.Edges.length) (c := c) (k := .i64) (i := (i : Int)) k_sl_98_277 k_sz_277_2 rfl (hf.get 10 2 rfl) (hf.get 12 4 rfl) (gi_isSome enc_Edge_len rfl (hS2.rf (i := 0) rfl) hx) (getI_nn hx) (getI_ltI hx rfl)) ?_
    refine sq 15 rfl rfl (Y_loadA (B := B) (i := (i : Int).toNat * 2) (cs := (g.Edges.flatMap enc_Edge)) (vs := [.int .i64 x.A, .int .i64 x.B]) k_ag_277 k_sz_277_2 rfl rfl (hS2.rf (i := 0) rfl) (enc_Edge_len x) (gi_seg enc_Edge_len hx)) ?_
    refine ss 8 rfl rfl (Ys_alloc (T := 277) (cs := [.int .i64 0, .int .i64 0]) (m := 2) hS2 k_zero_277 rfl rfl rfl) ?_
    rintro _ w_1 ⟨b2, rfl, hS3⟩
    refine ss0 rfl rfl (Ys_store (i := 0) (s := 2) (B := some ⟨b2, 0, none⟩) (T' := 277) (v := .agg #[.int .i64 x.A, .int .i64 x.B]) (vs := [.int .i64 x.A, .int .i64 x.B]) (k := 0) (cs' := [.int .i64 x.A, .int .i64 x.B]) hS3 k_sz_277_2 rfl rfl rfl rfl rfl rfl rfl (Nat.le_of_ble_eq_true rfl) rfl rfl) ?_
    rintro _ w_2 ⟨rfl, hS4⟩
    refine rw_nil ?_
    refine cw_seq ?_
    refine cw_region ?_
    refine sq 16 rfl rfl (Y_fieldAddr (B := some ⟨b2, 0, none⟩) (i := 0) (s := 0) k_fd_277_0_0_3 k_sz_3_1 rfl rfl) ?_
    refine sq 17 rfl rfl (Y_load1 (B := some ⟨b2, 0, none⟩) (i := 0) (cs := [.int .i64 x.A, .int .i64 x.B]) (v := .int .i64 x.A) k_sc_3 rfl rfl (hS4.cf (i := 0) rfl) rfl) ?_
    refine sq 18 rfl rfl (Y_move (v := .int .i64 a) rfl (hf.get 1 0 rfl)) ?_
    refine sq 19 rfl rfl (Y_eq (k := .i64) (a := x.A) (b := a) rfl rfl rfl) ?_
    refine sq 20 rfl rfl (Y_move (v := .bool (x.A == a)) rfl rfl) ?_
    refine sgq 21 (B := (x.A == a)) (v := pt (some ⟨b2, 0, none⟩) 1) rfl rfl (wt_t (gd_of (t := 20) (by kernel_rfl) rfl)) (fun hg => (Y_fieldAddr (B := some ⟨b2, 0, none⟩) (i := 0) (s := 0) k_fd_277_1_1_3 k_sz_3_1 rfl rfl)) ?_
    refine sgq 22 (B := (x.A == a)) (v := .int .i64 x.B) rfl rfl (wt_t (gd_of (t := 20) (by kernel_rfl) rfl)) (fun hg1 => (Y_load1 (B := some ⟨b2, 0, none⟩) (i := 1) (cs := [.int .i64 x.A, .int .i64 x.B]) (v := .int .i64 x.B) k_sc_3 rfl (gv_of (B := (x.A == a)) (v := pt (some ⟨b2, 0, none⟩) 1) hg1) (hS4.cf (i := 0) rfl) rfl)) ?_
    refine sgq 23 (B := (x.A == a)) (v := .int .i64 b) rfl rfl (wt_t (gd_of (t := 20) (by kernel_rfl) rfl)) (fun hg2 => (Y_move (v := .int .i64 b) rfl (hf.get 2 1 rfl))) ?_
    refine sgq 24 (B := (x.A == a)) (v := .bool (x.B == b)) rfl rfl (wt_t (gd_of (t := 20) (by kernel_rfl) rfl)) (fun hg3 => (Y_eq (k := .i64) (a := x.B) (b := b) rfl (gv_of (B := (x.A == a)) (v := .int .i64 x.B) hg3) (gv_of (B := (x.A == a)) (v := .int .i64 b) hg3))) ?_
    refine sq 25 rfl rfl (Y_and (b := (x.A == a)) (z := (x.B == b)) rfl rfl rfl rfl) ?_
    refine sq 26 rfl rfl (Y_move (v := .bool ((x.A == a) && (x.B == b))) rfl rfl) ?_
    refine sgq 27 (B := (!((x.A == a) && (x.B == b)))) (v := pt (some ⟨b2, 0, none⟩) 0) rfl rfl (wt_f (gd_of (t := 26) (by kernel_rfl) rfl)) (fun hg4 => (Y_fieldAddr (B := some ⟨b2, 0, none⟩) (i := 0) (s := 0) k_fd_277_0_0_3 k_sz_3_1 rfl rfl)) ?_
    refine sgq 28 (B := (!((x.A == a) && (x.B == b)))) (v := .int .i64 x.A) rfl rfl (wt_f (gd_of (t := 26) (by kernel_rfl) rfl)) (fun hg5 => (Y_load1 (B := some ⟨b2, 0, none⟩) (i := 0) (cs := [.int .i64 x.A, .int .i64 x.B]) (v := .int .i64 x.A) k_sc_3 rfl (gv_of (B := (!((x.A == a) && (x.B == b)))) (v := pt (some ⟨b2, 0, none⟩) 0) hg5) (hS4.cf (i := 0) rfl) rfl)) ?_
    refine sgq 29 (B := (!((x.A == a) && (x.B == b)))) (v := .int .i64 b) rfl rfl (wt_f (gd_of (t := 26) (by kernel_rfl) rfl)) (fun hg6 => (Y_move (v := .int .i64 b) rfl (hf.get 2 1 rfl))) ?_
    refine sgq 30 (B := (!((x.A == a) && (x.B == b)))) (v := .bool (x.A == b)) rfl rfl (wt_f (gd_of (t := 26) (by kernel_rfl) rfl)) (fun hg7 => (Y_eq (k := .i64) (a := x.A) (b := b) rfl (gv_of (B := (!((x.A == a) && (x.B == b)))) (v := .int .i64 x.A) hg7) (gv_of (B := (!((x.A == a) && (x.B == b)))) (v := .int .i64 b) hg7))) ?_
    refine sgq 31 (B := (!((x.A == a) && (x.B == b)))) (v := .bool (x.A == b)) rfl rfl (wt_f (gd_of (t := 26) (by kernel_rfl) rfl)) (fun hg8 => (Y_move (v := .bool (x.A == b)) rfl (gv_of (B := (!((x.A == a) && (x.B == b)))) (v := .bool (x.A == b)) hg8))) ?_
    refine sgq 32 (B := ((!((x.A == a) && (x.B == b))) && (x.A == b))) (v := pt (some ⟨b2, 0, none⟩) 1) rfl rfl (wt_gt (gd_of (t := 31) (by kernel_rfl) rfl)) (fun hg9 => (Y_fieldAddr (B := some ⟨b2, 0, none⟩) (i := 0) (s := 0) k_fd_277_1_1_3 k_sz_3_1 rfl rfl)) ?_
    refine sgq 33 (B := ((!((x.A == a) && (x.B == b))) && (x.A == b))) (v := .int .i64 x.B) rfl rfl (wt_gt (gd_of (t := 31) (by kernel_rfl) rfl)) (fun hg10 => (Y_load1 (B := some ⟨b2, 0, none⟩) (i := 1) (cs := [.int .i64 x.A, .int .i64 x.B]) (v := .int .i64 x.B) k_sc_3 rfl (gv_of (B := ((!((x.A == a) && (x.B == b))) && (x.A == b))) (v := pt (some ⟨b2, 0, none⟩) 1) hg10) (hS4.cf (i := 0) rfl) rfl)) ?_
    refine sgq 34 (B := ((!((x.A == a) && (x.B == b))) && (x.A == b))) (v := .int .i64 a) rfl rfl (wt_gt (gd_of (t := 31) (by kernel_rfl) rfl)) (fun hg11 => (Y_move (v := .int .i64 a) rfl (hf.get 1 0 rfl))) ?_
    refine sgq 35 (B := ((!((x.A == a) && (x.B == b))) && (x.A == b))) (v := .bool (x.B == a)) rfl rfl (wt_gt (gd_of (t := 31) (by kernel_rfl) rfl)) (fun hg12 => (Y_eq (k := .i64) (a := x.B) (b := a) rfl (gv_of (B := ((!((x.A == a) && (x.B == b))) && (x.A == b))) (v := .int .i64 x.B) hg12) (gv_of (B := ((!((x.A == a) && (x.B == b))) && (x.A == b))) (v := .int .i64 a) hg12))) ?_
    refine sgq 36 (B := (!((x.A == a) && (x.B == b)))) (v := .bool ((x.A == b) && (x.B == a))) rfl rfl (wt_f (gd_of (t := 26) (by kernel_rfl) rfl)) (fun hg13 => (Y_and (b := (x.A == b)) (z := (x.B == a)) rfl (gv_of (B := (!((x.A == a) && (x.B == b)))) (v := .bool (x.A == b)) hg13) (gv_and (B := (!((x.A == a) && (x.B == b)))) (C := (x.A == b)) (v := .bool (x.B == a)) hg13) rfl)) ?_
    refine sq 37 rfl rfl (Y_or (b := ((x.A == a) && (x.B == b))) (z := ((x.A == b) && (x.B == a))) rfl rfl rfl rfl) ?_
    refine rw_nil ?_
    refine cw_cond (b := (((x.A == a) && (x.B == b)) || ((x.A == b) && (x.B == a)))) rfl (fun hb1 => ?_) (fun hb1 => ?_)
    · skip
      have hF2 := ct hb hb1
      refine cw_seq ?_
      refine cw_region ?_
      refine sq 6 rfl rfl (Y_assign (v := .bool true) rfl rfl) ?_
      refine rw_nil ?_
      refine cw_ret ?_
      obtain rfl := some_inj hF2
      obtain rfl := some_inj hL1
      obtain rfl := some_inj hF1
      exact ret1 Try.results236 (v1 := .bool true) (resAt_tmp rfl) ⟨rfl, (ST.subR (R' := []) (hS4.sel [] rfl rfl) (fun _ h => by cases h))⟩
    · skip
      have hF3 := cf' hb hb1
      refine cw_skip ?_
      refine cw_region ?_
      refine sq 38 rfl rfl (Y_add (k := .i64) (a := (i : Int)) (b := 1) rfl (hf.get 12 4 rfl) rfl) ?_
      refine sq 12 rfl rfl (Y_move (v := .int .i64 (IntKind.i64.wrap ((i : Int) + 1))) rfl rfl) ?_
      refine rw_nil ?_
      obtain rfl := some_inj hF3
      exact ⟨k_1, Nat.lt_succ_self _, i + 1, (FF.cons (hf.get 1 0 rfl) (FF.cons (hf.get 2 1 rfl) (FF.cons (hf.get 10 2 rfl) (FF.cons (hf.get 11 3 rfl) (FF.cons (congrArg (Value.int .i64) (wr_succ hlt1 hN)) FF.nil))))), (hS4.sel [] rfl rfl), (by omega), hL1⟩
  · skip
    obtain rfl : k_ = 0 := by have h := of_decide_eq_false hlt; omega
    refine cw_exit rfl ?_
    obtain rfl := some_inj hL
    refine cw_seq ?_
    refine cw_region ?_
    refine sq 6 rfl rfl (Y_assign (v := .bool false) rfl rfl) ?_
    refine rw_nil ?_
    refine cw_ret ?_
    obtain rfl := some_inj hF1
    exact ret1 Try.results236 (v1 := .bool false) (resAt_tmp rfl) ⟨rfl, (ST.subR (R' := []) (hS2.sel [] rfl rfl) (fun _ h => by cases h))⟩

theorem c_spec_l22Two (g : TGate)  (w0 : World)  (hS : ST w0 [] w0 [] []) {r_ : Bool} (hF : F_spec_l22Two g = some r_) :
    CV Try.prog 163 #[.agg #[.int .i64 g.Kind, .int .i64 g.A, .int .i64 g.B]] w0 (fun v w' => v = .bool r_ ∧ ST w0 [] w' [] []) := by
  unfold F_spec_l22Two at hF
  refine cv_of_cw 16 Try.func163 rfl Try.ntmps163 rfl ?_
  refine cw_seq ?_
  refine cw_region ?_
  refine ss 1 rfl rfl (Ys_box (T := 213) (v := .agg #[.int .i64 g.Kind, .int .i64 g.A, .int .i64 g.B]) (cs := [.int .i64 g.Kind, .int .i64 g.A, .int .i64 g.B]) (m := 3) hS rfl rfl rfl rfl) ?_
  rintro _ w_ ⟨b, rfl, hS1⟩
  refine sq 2 rfl rfl (Y_assign (v := .bool false) rfl rfl) ?_
  refine rw_nil ?_
  refine cw_seq ?_
  refine cw_region ?_
  refine sq 3 rfl rfl (Y_fieldAddr (B := some ⟨b, 0, none⟩) (i := 0) (s := 0) k_fd_213_0_0_3 k_sz_3_1 rfl rfl) ?_
  refine sq 4 rfl rfl (Y_load1 (B := some ⟨b, 0, none⟩) (i := 0) (cs := [.int .i64 g.Kind, .int .i64 g.A, .int .i64 g.B]) (v := .int .i64 g.Kind) k_sc_3 rfl rfl (hS1.cf (i := 0) rfl) rfl) ?_
  refine sq 5 rfl rfl (Y_eq (k := .i64) (a := g.Kind) (b := 9) rfl rfl rfl) ?_
  refine sq 6 rfl rfl (Y_move (v := .bool (g.Kind == 9)) rfl rfl) ?_
  refine sgq 7 (B := (!(g.Kind == 9))) (v := pt (some ⟨b, 0, none⟩) 0) rfl rfl (wt_f (gd_of (t := 6) (by kernel_rfl) rfl)) (fun hg => (Y_fieldAddr (B := some ⟨b, 0, none⟩) (i := 0) (s := 0) k_fd_213_0_0_3 k_sz_3_1 rfl rfl)) ?_
  refine sgq 8 (B := (!(g.Kind == 9))) (v := .int .i64 g.Kind) rfl rfl (wt_f (gd_of (t := 6) (by kernel_rfl) rfl)) (fun hg1 => (Y_load1 (B := some ⟨b, 0, none⟩) (i := 0) (cs := [.int .i64 g.Kind, .int .i64 g.A, .int .i64 g.B]) (v := .int .i64 g.Kind) k_sc_3 rfl (gv_of (B := (!(g.Kind == 9))) (v := pt (some ⟨b, 0, none⟩) 0) hg1) (hS1.cf (i := 0) rfl) rfl)) ?_
  refine sgq 9 (B := (!(g.Kind == 9))) (v := .bool (g.Kind == 10)) rfl rfl (wt_f (gd_of (t := 6) (by kernel_rfl) rfl)) (fun hg2 => (Y_eq (k := .i64) (a := g.Kind) (b := 10) rfl (gv_of (B := (!(g.Kind == 9))) (v := .int .i64 g.Kind) hg2) rfl)) ?_
  refine sq 10 rfl rfl (Y_or (b := (g.Kind == 9)) (z := (g.Kind == 10)) rfl rfl rfl rfl) ?_
  refine sq 11 rfl rfl (Y_move (v := .bool ((g.Kind == 9) || (g.Kind == 10))) rfl rfl) ?_
  refine sgq 12 (B := (!((g.Kind == 9) || (g.Kind == 10)))) (v := pt (some ⟨b, 0, none⟩) 0) rfl rfl (wt_f (gd_of (t := 11) (by kernel_rfl) rfl)) (fun hg3 => (Y_fieldAddr (B := some ⟨b, 0, none⟩) (i := 0) (s := 0) k_fd_213_0_0_3 k_sz_3_1 rfl rfl)) ?_
  refine sgq 13 (B := (!((g.Kind == 9) || (g.Kind == 10)))) (v := .int .i64 g.Kind) rfl rfl (wt_f (gd_of (t := 11) (by kernel_rfl) rfl)) (fun hg4 => (Y_load1 (B := some ⟨b, 0, none⟩) (i := 0) (cs := [.int .i64 g.Kind, .int .i64 g.A, .int .i64 g.B]) (v := .int .i64 g.Kind) k_sc_3 rfl (gv_of (B := (!((g.Kind == 9) || (g.Kind == 10)))) (v := pt (some ⟨b, 0, none⟩) 0) hg4) (hS1.cf (i := 0) rfl) rfl)) ?_
  refine sgq 14 (B := (!((g.Kind == 9) || (g.Kind == 10)))) (v := .bool (g.Kind == 11)) rfl rfl (wt_f (gd_of (t := 11) (by kernel_rfl) rfl)) (fun hg5 => (Y_eq (k := .i64) (a := g.Kind) (b := 11) rfl (gv_of (B := (!((g.Kind == 9) || (g.Kind == 10)))) (v := .int .i64 g.Kind) hg5) rfl)) ?_
  refine sq 15 rfl rfl (Y_or (b := ((g.Kind == 9) || (g.Kind == 10))) (z := (g.Kind == 11)) rfl rfl rfl rfl) ?_
  refine sq 2 rfl rfl (Y_assign (v := .bool (((g.Kind == 9) || (g.Kind == 10)) || (g.Kind == 11))) rfl rfl) ?_
  refine rw_nil ?_
  refine cw_ret ?_
  obtain rfl := some_inj hF
  exact ret1 Try.results163 (v1 := .bool (((g.Kind == 9) || (g.Kind == 10)) || (g.Kind == 11))) (resAt_tmp rfl) ⟨rfl, (ST.subR (R' := []) (hS1.sel [] rfl rfl) (fun _ h => by cases h))⟩

theorem c_spec_l23Qubits (x : TGate)  (w0 : World)  (hS : ST w0 [] w0 [] []) {r_ : List Int} (hF : F_spec_l23Qubits x = some r_) :
    CV Try.prog 311 #[.agg #[.int .i64 x.Kind, .int .i64 x.A, .int .i64 x.B]] w0 (fun v w' => ∃ (B : Option Addr) (c : Nat), v = .slice B r_.length c ∧ ST w0 [] w' [⟨B, 3, (r_.flatMap encI), c * 1⟩] []) := by
  unfold F_spec_l23Qubits at hF
  refine cv_of_cw 18 Try.func311 rfl Try.ntmps311 rfl ?_
  refine cw_seq ?_
  refine cw_region ?_
  refine ss 1 rfl rfl (Ys_box (T := 213) (v := .agg #[.int .i64 x.Kind, .int .i64 x.A, .int .i64 x.B]) (cs := [.int .i64 x.Kind, .int .i64 x.A, .int .i64 x.B]) (m := 3) hS rfl rfl rfl rfl) ?_
  rintro _ w_ ⟨b, rfl, hS1⟩
  refine sq 2 rfl rfl (Y_assign (v := .slice none 0 0) rfl rfl) ?_
  refine rw_nil ?_
  refine cw_seq ?_
  refine cw_block ?_
  refine cw_seq ?_
  refine cw_region ?_
  refine sq 4 rfl rfl (Y_fieldAddr (B := some ⟨b, 0, none⟩) (i := 0) (s := 0) k_fd_213_0_0_3 k_sz_3_1 rfl rfl) ?_
  refine sq 5 rfl rfl (Y_load1 (B := some ⟨b, 0, none⟩) (i := 0) (cs := [.int .i64 x.Kind, .int .i64 x.A, .int .i64 x.B]) (v := .int .i64 x.Kind) k_sc_3 rfl rfl (hS1.cf (i := 0) rfl) rfl) ?_
  refine sq 6 rfl rfl (Y_eq (k := .i64) (a := x.Kind) (b := 12) rfl rfl rfl) ?_
  refine sq 3 rfl rfl (Y_assign (v := .bool (x.Kind == 12)) rfl rfl) ?_
  refine rw_nil ?_
  refine cw_cond (b := (x.Kind == 12)) rfl (fun hb => ?_) (fun hb => ?_)
  · skip
    have hF1 := ct hF hb
    refine cw_seq ?_
    refine cw_region ?_
    refine sq 2 rfl rfl (Y_assign (v := .slice none 0 0) rfl rfl) ?_
    refine rw_nil ?_
    refine cw_ret ?_
    have hS2 := hS1.addNil 3
    obtain rfl := some_inj hF1
    exact ret1 Try.results311 (v1 := .slice none 0 0) (resAt_tmp rfl) ⟨none, 0, rfl, (ST.subR (R' := []) (hS2.sel [1] rfl rfl) (fun _ h => by cases h))⟩
  · skip
    have hF2 := cf' hF hb
    refine cw_seq ?_
    refine cw_region ?_
    refine sq 8 rfl rfl (Y_loadA (B := some ⟨b, 0, none⟩) (i := 0) (cs := [.int .i64 x.Kind, .int .i64 x.A, .int .i64 x.B]) (vs := [.int .i64 x.Kind, .int .i64 x.A, .int .i64 x.B]) k_ag_213 k_sz_213_3 rfl rfl (hS1.cf (i := 0) rfl) rfl rfl) ?_
    obtain ⟨r_1, hc, hF2⟩ := bind_inv hF2
    refine sc 9 rfl rfl (Yc_func (g := 163) (vs := [.agg #[.int .i64 x.Kind, .int .i64 x.A, .int .i64 x.B]]) k_call_163 rfl (mc rfl mn) (c_spec_l22Two x _  (hS1.inn0 [] rfl) hc)) ?_
    rintro _ w_1 ⟨rfl, hd⟩
    have hS3 := hS1.out00 hd
    refine sq 7 rfl rfl (Y_assign (v := .bool r_1) rfl rfl) ?_
    refine rw_nil ?_
    refine cw_cond (b := r_1) rfl (fun hb1 => ?_) (fun hb1 => ?_)
    · skip
      have hF3 := ct hF2 hb1
      refine cw_seq ?_
      refine cw_region ?_
      refine sq 10 rfl rfl (Y_fieldAddr (B := some ⟨b, 0, none⟩) (i := 0) (s := 0) k_fd_213_1_1_3 k_sz_3_1 rfl rfl) ?_
      refine sq 11 rfl rfl (Y_load1 (B := some ⟨b, 0, none⟩) (i := 1) (cs := [.int .i64 x.Kind, .int .i64 x.A, .int .i64 x.B]) (v := .int .i64 x.A) k_sc_3 rfl rfl (hS3.cf (i := 0) rfl) rfl) ?_
      refine sq 12 rfl rfl (Y_fieldAddr (B := some ⟨b, 0, none⟩) (i := 0) (s := 0) k_fd_213_2_2_3 k_sz_3_1 rfl rfl) ?_
      refine sq 13 rfl rfl (Y_load1 (B := some ⟨b, 0, none⟩) (i := 2) (cs := [.int .i64 x.Kind, .int .i64 x.A, .int .i64 x.B]) (v := .int .i64 x.B) k_sc_3 rfl rfl (hS3.cf (i := 0) rfl) rfl) ?_
      refine ss 14 rfl rfl (Ys_bslice (s := 1) (len := 2) (vs := [(0, .int .i64 x.A), (1, .int .i64 x.B)]) (cs := [.int .i64 x.A, .int .i64 x.B]) (zs := [.int .i64 0, .int .i64 0]) (m := 2) hS3 k_sl_59_3 k_sz_3_1 k_zc_3 rfl (mpc rfl (mpc rfl mpn)) rfl rfl rfl (by kernel_rfl) (by kernel_rfl) rfl) ?_
      rintro _ w_2 ⟨b1, rfl, hS4⟩
      have hS4 : ST w0 [] _ [⟨some ⟨b, 0, none⟩, 213, [.int .i64 x.Kind, .int .i64 x.A, .int .i64 x.B], 3⟩, ⟨some ⟨b1, 0, none⟩, 3, ([x.A, x.B].flatMap encI), 2 * 1⟩] [] := hS4
      refine sq 2 rfl rfl (Y_assign (v := .slice (some ⟨b1, 0, none⟩) 2 2) rfl rfl) ?_
      refine rw_nil ?_
      refine cw_ret ?_
      obtain rfl := some_inj hF3
      exact ret1 Try.results311 (v1 := .slice (some ⟨b1, 0, none⟩) 2 2) (resAt_tmp rfl) ⟨some ⟨b1, 0, none⟩, 2, rfl, (ST.subR (R' := []) (hS4.sel [1] rfl rfl) (fun _ h => by cases h))⟩
    · skip
      have hF4 := cf' hF2 hb1
      refine cw_skip ?_
      refine cw_seq ?_
      refine cw_region ?_
      refine sq 15 rfl rfl (Y_fieldAddr (B := some ⟨b, 0, none⟩) (i := 0) (s := 0) k_fd_213_1_1_3 k_sz_3_1 rfl rfl) ?_
      refine sq 16 rfl rfl (Y_load1 (B := some ⟨b, 0, none⟩) (i := 1) (cs := [.int .i64 x.Kind, .int .i64 x.A, .int .i64 x.B]) (v := .int .i64 x.A) k_sc_3 rfl rfl (hS3.cf (i := 0) rfl) rfl) ?_
      refine ss 17 rfl rfl (Ys_bslice (s := 1) (len := 1) (vs := [(0, .int .i64 x.A)]) (cs := [.int .i64 x.A]) (zs := [.int .i64 0]) (m := 1) hS3 k_sl_59_3 k_sz_3_1 k_zc_3 rfl (mpc rfl mpn) rfl rfl rfl (by kernel_rfl) (by kernel_rfl) rfl) ?_
      rintro _ w_3 ⟨b2, rfl, hS5⟩
      have hS5 : ST w0 [] _ [⟨some ⟨b, 0, none⟩, 213, [.int .i64 x.Kind, .int .i64 x.A, .int .i64 x.B], 3⟩, ⟨some ⟨b2, 0, none⟩, 3, ([x.A].flatMap encI), 1 * 1⟩] [] := hS5
      refine sq 2 rfl rfl (Y_assign (v := .slice (some ⟨b2, 0, none⟩) 1 1) rfl rfl) ?_
      refine rw_nil ?_
      refine cw_ret ?_
      obtain rfl := some_inj hF4
      exact ret1 Try.results311 (v1 := .slice (some ⟨b2, 0, none⟩) 1 1) (resAt_tmp rfl) ⟨some ⟨b2, 0, none⟩, 1, rfl, (ST.subR (R' := []) (hS5.sel [1] rfl rfl) (fun _ h => by cases h))⟩

theorem c_spec_l23Ready (c : TCircuit) (done : List Bool) (k_ : Int) (B : Option Addr) (c1 n : Nat) (B1 : Option Addr) (c2 n1 : Nat) (w0 : World) (hn : c.Gates.length = n) (hn1 : done.length = n1) (hS : ST w0 [] w0 [] [⟨B, (c.Gates.flatMap enc_Gate)⟩, ⟨B1, (done.flatMap encB)⟩]) {r_ : Bool} (hF : F_spec_l23Ready c done k_ = some r_) :
    CV Try.prog 237 #[.agg #[.int .i64 c.Qubits, .slice B n c1], .slice B1 n1 c2, .int .i64 k_] w0 (fun v w' => v = .bool r_ ∧ ST w0 [] w' [] []) := by
  subst hn
  subst hn1
  unfold F_spec_l23Ready at hF
  refine cv_of_cw 57 Try.func237 rfl Try.ntmps237 rfl ?_
  refine cw_seq ?_
  refine cw_region ?_
  refine ss 3 rfl rfl (Ys_box (T := 104) (v := .agg #[.int .i64 c.Qubits, .slice B c.Gates.length c1]) (cs := [.int .i64 c.Qubits, .slice B c.Gates.length c1]) (m := 2) hS rfl rfl rfl rfl) ?_
  rintro _ w_ ⟨b, rfl, hS1⟩
  refine sq 6 rfl rfl (Y_assign (v := .bool false) rfl rfl) ?_
  refine rw_nil ?_
  refine cw_seq ?_
  refine cw_seq ?_
  refine cw_region ?_
  refine sq 11 rfl rfl (Y_move (v := .int .i64 k_) rfl rfl) ?_
  refine sq 12 rfl rfl (Y_fieldAddr (B := some ⟨b, 0, none⟩) (i := 0) (s := 0) k_fd_104_1_1_102 k_sz_102_1 rfl rfl) ?_
  refine sq 13 rfl rfl (Y_load1 (B := some ⟨b, 0, none⟩) (i := 1) (cs := [.int .i64 c.Qubits, .slice B c.Gates.length c1]) (v := .slice B c.Gates.length c1) k_sc_102 rfl rfl (hS1.cf (i := 0) rfl) rfl) ?_
  refine sq 14 rfl rfl (Y_len (B := B) (m := c.Gates.length) (c := c1) k_sl_102_213 rfl rfl) ?_
  refine sq 15 rfl rfl (Y_sub (k := .i64) (a := (c.Gates.length : Int)) (b := 1) rfl rfl rfl) ?_
  obtain ⟨r_1, hc, hF⟩ := bind_inv hF
  refine sc 16 rfl rfl (Yc_func (g := 201) (vs := [.int .i64 k_, .int .i64 0, .int .i64 (IntKind.i64.wrap ((c.Gates.length : Int) - 1))]) k_call_201 rfl (mc rfl (mc rfl (mc rfl mn))) (c_spec_l1In k_ 0 (IntKind.i64.wrap ((c.Gates.length : Int) - 1)) _  (hS1.inn0 [] rfl) hc)) ?_
  rintro _ w_1 ⟨rfl, hd⟩
  have hS2 := hS1.out00 hd
  refine sq 17 rfl rfl (Y_not (p := r_1) rfl rfl) ?_
  refine sq 18 rfl rfl (Y_move (v := .bool (!r_1)) rfl rfl) ?_
  refine sgq 19 (B := (!(!r_1))) (v := .slice B1 done.length c2) rfl rfl (wt_f (gd_of (t := 18) (by kernel_rfl) rfl)) (fun hg => (Y_move (v := .slice B1 done.length c2) rfl rfl)) ?_
  refine sgq 20 (B := (!(!r_1))) (v := .int .i64 k_) rfl rfl (wt_f (gd_of (t := 18) (by kernel_rfl) rfl)) (fun hg1 => (Y_move (v := .int .i64 k_) rfl rfl)) ?_
  obtain ⟨x, hx, hF⟩ := bind_inv hF
  refine sgq 21 (B := (!(!r_1))) (v := pt B1 (k_.toNat * 1)) rfl rfl (wt_f (gd_of (t := 18) (by kernel_rfl) rfl)) (fun hg2 => (Y_index (B := B1) (m := done.length) (c := c2) (k := .i64) (i := k_) k_sl_199_4 k_sz_4_1 rfl (gv_of (B := (!(!r_1))) (v := .slice B1 done.length c2) hg2) (gv_of (B := (!(!r_1))) (v := .int .i64 k_) hg2) (gi_isSome encB_len rfl (hS2.rf (i := 1) rfl) (gb_inv hx hg2)) (getI_nn (gb_inv hx hg2)) (getI_ltI (gb_inv hx hg2) rfl))) ?_
  refine sgq 22 (B := (!(!r_1))) (v := .bool x) rfl rfl (wt_f (gd_of (t := 18) (by kernel_rfl) rfl)) (fun hg3 => (Y_load1 (B := B1) (i := k_.toNat * 1) (cs := (done.flatMap encB)) (v := .bool x) k_sc_4 rfl (gv_of (B := (!(!r_1))) (v := pt B1 (k_.toNat * 1)) hg3) (hS2.rf (i := 1) rfl) (gi_at0 encB_len (gb_inv hx hg3) rfl))) ?_
  refine sq 23 rfl rfl (Y_or (b := (!r_1)) (z := x) rfl rfl rfl rfl) ?_
  refine rw_nil ?_
  refine cw_cond (b := ((!r_1) || x)) rfl (fun hb => ?_) (fun hb => ?_)
  · skip
    have hF1 := ct hF hb
    refine cw_seq ?_
    refine cw_region ?_
    refine sq 6 rfl rfl (Y_assign (v := .bool false) rfl rfl) ?_
    refine rw_nil ?_
    refine cw_ret ?_
    obtain rfl := some_inj hF1
    exact ret1 Try.results237 (v1 := .bool false) (resAt_tmp rfl) ⟨rfl, (ST.subR (R' := []) (hS2.sel [] rfl rfl) (fun _ h => by cases h))⟩
  · skip
    have hF2 := cf' hF hb
    refine cw_skip ?_
    refine cw_seq ?_
    refine cw_region ?_
    refine sq 24 rfl rfl (Y_fieldAddr (B := some ⟨b, 0, none⟩) (i := 0) (s := 0) k_fd_104_1_1_102 k_sz_102_1 rfl rfl) ?_
    refine sq 25 rfl rfl (Y_load1 (B := some ⟨b, 0, none⟩) (i := 1) (cs := [.int .i64 c.Qubits, .slice B c.Gates.length c1]) (v := .slice B c.Gates.length c1) k_sc_102 rfl rfl (hS2.cf (i := 0) rfl) rfl) ?_
    refine sq 26 rfl rfl (Y_move (v := .int .i64 k_) rfl rfl) ?_
    obtain ⟨x1, hx1, hF2⟩ := bind_inv hF2
    refine sq 27 rfl rfl (Y_index (B := B) (m := c.Gates.length) (c := c1) (k := .i64) (i := k_) k_sl_102_213 k_sz_213_3 rfl rfl rfl (gi_isSome enc_Gate_len rfl (hS2.rf (i := 0) rfl) hx1) (getI_nn hx1) (getI_ltI hx1 rfl)) ?_
    refine sq 28 rfl rfl (Y_loadA (B := B) (i := k_.toNat * 3) (cs := (c.Gates.flatMap enc_Gate)) (vs := [.int .i64 x1.Kind, .int .i64 x1.A, .int .i64 x1.B]) k_ag_213 k_sz_213_3 rfl rfl (hS2.rf (i := 0) rfl) (enc_Gate_len x1) (gi_seg enc_Gate_len hx1)) ?_
    obtain ⟨r_2, hc1, hF2⟩ := bind_inv hF2
    refine sc 29 rfl rfl (Yc_func (g := 311) (vs := [.agg #[.int .i64 x1.Kind, .int .i64 x1.A, .int .i64 x1.B]]) k_call_311 rfl (mc rfl mn) (c_spec_l23Qubits x1 _  (hS2.inn0 [] rfl) hc1)) ?_
    rintro _ w_2 ⟨B2, c3, rfl, hd1⟩
    have hS3 := hS2.out0 hd1
    have hS3 : ST w0 [] _ [⟨some ⟨b, 0, none⟩, 104, [.int .i64 c.Qubits, .slice B c.Gates.length c1], 2⟩, ⟨B2, 3, (r_2.flatMap encI), c3 * 1⟩] [⟨B, (c.Gates.flatMap enc_Gate)⟩, ⟨B1, (done.flatMap encB)⟩] := hS3
    refine sq 7 rfl rfl (Y_assign (v := .slice B2 r_2.length c3) rfl rfl) ?_
    refine rw_nil ?_
    refine cw_seq ?_
    refine cw_seq ?_
    refine cw_region ?_
    refine sq 8 rfl rfl (Y_assign (v := .int .i64 0) rfl rfl) ?_
    refine rw_nil ?_
    obtain ⟨hN, hF2⟩ := chk_inv hF2
    obtain ⟨z, hz, hF3⟩ := bind_inv hF2
    refine cw_block ?_
    refine cw_loop (fun k f w => ∃ (i1 : Nat), FF f [(1, .slice B1 done.length c2), (2, .int .i64 k_), (3, pt (some ⟨b, 0, none⟩) 0), (7, .slice B2 r_2.length c3), (8, .int .i64 (i1 : Int))] ∧ ST w0 [] w [⟨some ⟨b, 0, none⟩, 104, [.int .i64 c.Qubits, .slice B c.Gates.length c1], 2⟩, ⟨B2, 3, (r_2.flatMap encI), c3 * 1⟩] [⟨B, (c.Gates.flatMap enc_Gate)⟩, ⟨B1, (done.flatMap encB)⟩] ∧ i1 + k = k_.toNat ∧ forX (F_spec_l23Ready_l1 c done r_2) k i1 () = some z) k_.toNat ⟨0, (FF.cons rfl (FF.cons rfl (FF.cons rfl (FF.cons rfl (FF.cons rfl FF.nil))))), (hS3.sel [0, 1] rfl rfl), Nat.zero_add _, hz⟩ ?_
    rintro k_1 f w ⟨i1, hf, hS4, hik, hL⟩
    refine cw_seq ?_
    refine cw_seq ?_
    refine cw_region ?_
    refine sq 30 rfl rfl (Y_move (v := .int .i64 (i1 : Int)) rfl (hf.get 8 4 rfl)) ?_
    refine sq 31 rfl rfl (Y_move (v := .int .i64 k_) rfl (hf.get 2 1 rfl)) ?_
    refine sq 32 rfl rfl (Y_lt (k := .i64) (a := (i1 : Int)) (b := k_) rfl rfl rfl) ?_
    refine rw_nil ?_
    refine cw_cond (b := (decide ((i1 : Int) < k_))) rfl (fun hlt => ?_) (fun hlt => ?_)
    · skip
      have hlt1 : i1 < k_.toNat := by have h := of_decide_eq_true hlt; omega
      obtain ⟨k_2, rfl⟩ : ∃ k2, k_1 = k2 + 1 := ⟨k_1 - 1, by omega⟩
      obtain ⟨y, hb1, hL1⟩ := forX_go hL
      unfold F_spec_l23Ready_l1 at hb1
      refine cw_skip ?_
      refine cw_seq ?_
      refine cw_block ?_
      refine cw_seq ?_
      refine cw_region ?_
      refine sq 35 rfl rfl (Y_fieldAddr (B := some ⟨b, 0, none⟩) (i := 0) (s := 0) k_fd_104_1_1_102 k_sz_102_1 rfl (hf.get 3 2 rfl)) ?_
      refine sq 36 rfl rfl (Y_load1 (B := some ⟨b, 0, none⟩) (i := 1) (cs := [.int .i64 c.Qubits, .slice B c.Gates.length c1]) (v := .slice B c.Gates.length c1) k_sc_102 rfl rfl (hS4.cf (i := 0) rfl) rfl) ?_
      refine sq 37 rfl rfl (Y_move (v := .int .i64 (i1 : Int)) rfl (hf.get 8 4 rfl)) ?_
      obtain ⟨x2, hx2, hb1⟩ := bind_inv hb1
      refine sq 38 rfl rfl (Y_index (B := B) (m := c.Gates.length) (c := c1) (k := .i64) (i := (i1 : Int)) k_sl_102_213 k_sz_213_3 rfl rfl rfl (gi_isSome enc_Gate_len rfl (hS4.rf (i := 0) rfl) hx2) (getI_nn hx2) (getI_ltI hx2 rfl)) ?_
      refine sq 39 rfl rfl (Y_loadA (B := B) (i := (i1 : Int).toNat * 3) (cs := (c.Gates.flatMap enc_Gate)) (vs := [.int .i64 x2.Kind, .int .i64 x2.A, .int .i64 x2.B]) k_ag_213 k_sz_213_3 rfl rfl (hS4.rf (i := 0) rfl) (enc_Gate_len x2) (gi_seg enc_Gate_len hx2)) ?_
      obtain ⟨r_3, hc2, hb1⟩ := bind_inv hb1
      refine sc 40 rfl rfl (Yc_func (g := 311) (vs := [.agg #[.int .i64 x2.Kind, .int .i64 x2.A, .int .i64 x2.B]]) k_call_311 rfl (mc rfl mn) (c_spec_l23Qubits x2 _  (hS4.inn0 [] rfl) hc2)) ?_
      rintro _ w_3 ⟨B3, c4, rfl, hd2⟩
      have hS5 := hS4.out0 hd2
      have hS5 : ST w0 [] _ [⟨some ⟨b, 0, none⟩, 104, [.int .i64 c.Qubits, .slice B c.Gates.length c1], 2⟩, ⟨B2, 3, (r_2.flatMap encI), c3 * 1⟩, ⟨B3, 3, (r_3.flatMap encI), c4 * 1⟩] [⟨B, (c.Gates.flatMap enc_Gate)⟩, ⟨B1, (done.flatMap encB)⟩] := hS5
      refine sq 41 rfl rfl (Y_len (B := B3) (m := r_3.length) (c := c4) k_sl_59_3 rfl rfl) ?_
      refine sq 42 rfl rfl (Y_move (v := .int .i64 0) rfl rfl) ?_
      refine rw_nil ?_
      obtain ⟨hN1, hb1⟩ := chk_inv hb1
      obtain ⟨z1, hz1, hF4⟩ := bind_inv hb1
      refine cw_block ?_
      refine cw_loop (fun k f w => ∃ (i2 : Nat), FF f [(1, .slice B1 done.length c2), (2, .int .i64 k_), (3, pt (some ⟨b, 0, none⟩) 0), (7, .slice B2 r_2.length c3), (8, .int .i64 (i1 : Int)), (40, .slice B3 r_3.length c4), (41, .int .i64 (r_3.length : Int)), (42, .int .i64 (i2 : Int))] ∧ ST w0 [] w [⟨some ⟨b, 0, none⟩, 104, [.int .i64 c.Qubits, .slice B c.Gates.length c1], 2⟩, ⟨B2, 3, (r_2.flatMap encI), c3 * 1⟩, ⟨B3, 3, (r_3.flatMap encI), c4 * 1⟩] [⟨B, (c.Gates.flatMap enc_Gate)⟩, ⟨B1, (done.flatMap encB)⟩] ∧ i2 + k = r_3.length ∧ forX (F_spec_l23Ready_l2 r_3 done i1 r_2) k i2 () = some z1) r_3.length ⟨0, (FF.cons (hf.get 1 0 rfl) (FF.cons (hf.get 2 1 rfl) (FF.cons (hf.get 3 2 rfl) (FF.cons (hf.get 7 3 rfl) (FF.cons (hf.get 8 4 rfl) (FF.cons rfl (FF.cons rfl (FF.cons rfl FF.nil)))))))), (hS5.sel [0, 1, 2] rfl rfl), Nat.zero_add _, hz1⟩ ?_
      rintro k_3 f w ⟨i2, hf1, hS6, hik1, hL2⟩
      refine cw_seq ?_
      refine cw_region ?_
      refine sq 43 rfl rfl (Y_lt (k := .i64) (a := (i2 : Int)) (b := (r_3.length : Int)) rfl (hf1.get 42 7 rfl) (hf1.get 41 6 rfl)) ?_
      refine rw_nil ?_
      refine cw_seq ?_
      refine cw_cond (b := (decide ((i2 : Int) < (r_3.length : Int)))) rfl (fun hlt2 => ?_) (fun hlt2 => ?_)
      · skip
        have hlt3 : i2 < r_3.length := by have h := of_decide_eq_true hlt2; omega
        obtain ⟨k_4, rfl⟩ : ∃ k2, k_3 = k2 + 1 := ⟨k_3 - 1, by omega⟩
        obtain ⟨y1, hb2, hL3⟩ := forX_go hL2
        unfold F_spec_l23Ready_l2 at hb2
        refine cw_skip ?_
        refine cw_seq ?_
        refine cw_block ?_
        refine cw_seq ?_
        refine cw_region ?_
        obtain ⟨x3, hx3, hb2⟩ := bind_inv hb2
        refine sq 44 rfl rfl (Y_index (B := B3) (m := r_3.length) (c := c4) (k := .i64) (i := (i2 : Int)) k_sl_59_3 k_sz_3_1 rfl (hf1.get 40 5 rfl) (hf1.get 42 7 rfl) (gi_isSome encI_len rfl (hS6.cf (i := 2) rfl) hx3) (getI_nn hx3) (getI_ltI hx3 rfl)) ?_
        refine sq 45 rfl rfl (Y_load1 (B := B3) (i := (i2 : Int).toNat * 1) (cs := (r_3.flatMap encI)) (v := .int .i64 x3) k_sc_3 rfl rfl (hS6.cf (i := 2) rfl) (gi_at0 encI_len hx3 rfl)) ?_
        refine sq 10 rfl rfl (Y_assign (v := .int .i64 x3) rfl rfl) ?_
        refine rw_nil ?_
        refine cw_seq ?_
        refine cw_region ?_
        refine sq 46 rfl rfl (Y_move (v := .slice B1 done.length c2) rfl (hf1.get 1 0 rfl)) ?_
        refine sq 47 rfl rfl (Y_move (v := .int .i64 (i1 : Int)) rfl (hf1.get 8 4 rfl)) ?_
        obtain ⟨x4, hx4, hb2⟩ := bind_inv hb2
        refine sq 48 rfl rfl (Y_index (B := B1) (m := done.length) (c := c2) (k := .i64) (i := (i1 : Int)) k_sl_199_4 k_sz_4_1 rfl rfl rfl (gi_isSome encB_len rfl (hS6.rf (i := 1) rfl) hx4) (getI_nn hx4) (getI_ltI hx4 rfl)) ?_
        refine sq 49 rfl rfl (Y_load1 (B := B1) (i := (i1 : Int).toNat * 1) (cs := (done.flatMap encB)) (v := .bool x4) k_sc_4 rfl rfl (hS6.rf (i := 1) rfl) (gi_at0 encB_len hx4 rfl)) ?_
        refine sq 50 rfl rfl (Y_not (p := x4) rfl rfl) ?_
        refine sq 51 rfl rfl (Y_move (v := .bool (!x4)) rfl rfl) ?_
        refine sgq 52 (B := (!x4)) (v := .slice B2 r_2.length c3) rfl rfl (wt_t (gd_of (t := 51) (by kernel_rfl) rfl)) (fun hg4 => (Y_move (v := .slice B2 r_2.length c3) rfl (hf1.get 7 3 rfl))) ?_
        refine sgq 53 (B := (!x4)) (v := .int .i64 x3) rfl rfl (wt_t (gd_of (t := 51) (by kernel_rfl) rfl)) (fun hg5 => (Y_move (v := .int .i64 x3) rfl rfl)) ?_
        obtain ⟨r_4, hc3, hb2⟩ := bind_inv hb2
        refine sgc 54 (B := (!x4)) (v := .bool r_4) (F := hS6.fn) rfl rfl (wt_t (gd_of (t := 51) (by kernel_rfl) rfl)) hS6 (fun hg6 => (Yc_func (g := 297) (vs := [.slice B2 r_2.length c3, .int .i64 x3]) k_call_297 rfl (mc (gv_of (B := (!x4)) (v := .slice B2 r_2.length c3) hg6) (mc (gv_of (B := (!x4)) (v := .int .i64 x3) hg6) mn)) (CV.mono (c_spec_l1Has r_2 x3 B2 c3 r_2.length _ rfl (hS6.inn0 [(false, 1)] rfl) (gb_inv hc3 hg6)) (by rintro _ _ ⟨rfl, h⟩; exact ⟨rfl, hS6.out00 h⟩)))) ?_
        rintro w_4 hS7
        have hS7 : ST _ _ w_4 _ _ := hS7
        refine sq 55 rfl rfl (Y_and (b := (!x4)) (z := r_4) rfl rfl rfl rfl) ?_
        refine rw_nil ?_
        refine cw_cond (b := ((!x4) && r_4)) rfl (fun hb3 => ?_) (fun hb3 => ?_)
        · skip
          have hF5 := ct hb2 hb3
          refine cw_seq ?_
          refine cw_region ?_
          refine sq 6 rfl rfl (Y_assign (v := .bool false) rfl rfl) ?_
          refine rw_nil ?_
          refine cw_ret ?_
          obtain rfl := some_inj hF5
          obtain rfl := some_inj hL3
          obtain rfl := some_inj hF4
          obtain rfl := some_inj hL1
          obtain rfl := some_inj hF3
          exact ret1 Try.results237 (v1 := .bool false) (resAt_tmp rfl) ⟨rfl, (ST.subR (R' := []) (hS7.sel [] rfl rfl) (fun _ h => by cases h))⟩
        · skip
          have hF6 := cf' hb2 hb3
          refine cw_skip ?_
          refine cw_region ?_
          refine sq 56 rfl rfl (Y_add (k := .i64) (a := (i2 : Int)) (b := 1) rfl (hf1.get 42 7 rfl) rfl) ?_
          refine sq 42 rfl rfl (Y_move (v := .int .i64 (IntKind.i64.wrap ((i2 : Int) + 1))) rfl rfl) ?_
          refine rw_nil ?_
          obtain rfl := some_inj hF6
          exact ⟨k_4, Nat.lt_succ_self _, i2 + 1, (FF.cons (hf1.get 1 0 rfl) (FF.cons (hf1.get 2 1 rfl) (FF.cons (hf1.get 3 2 rfl) (FF.cons (hf1.get 7 3 rfl) (FF.cons (hf1.get 8 4 rfl) (FF.cons (hf1.get 40 5 rfl) (FF.cons (hf1.get 41 6 rfl) (FF.cons (congrArg (Value.int .i64) (wr_succ hlt3 hN1)) FF.nil)))))))), (hS7.sel [0, 1, 2] rfl rfl), (by omega), hL3⟩
      · skip
        obtain rfl : k_3 = 0 := by have h := of_decide_eq_false hlt2; omega
        refine cw_exit rfl ?_
        obtain rfl := some_inj hL2
        refine cw_region ?_
        refine sq 33 rfl rfl (Y_move (v := .int .i64 (i1 : Int)) rfl (hf1.get 8 4 rfl)) ?_
        refine sq 34 rfl rfl (Y_add (k := .i64) (a := (i1 : Int)) (b := 1) rfl rfl rfl) ?_
        refine sq 8 rfl rfl (Y_assign (v := .int .i64 (IntKind.i64.wrap ((i1 : Int) + 1))) rfl rfl) ?_
        refine rw_nil ?_
        obtain rfl := some_inj hF4
        exact ⟨k_2, Nat.lt_succ_self _, i1 + 1, (FF.cons (hf1.get 1 0 rfl) (FF.cons (hf1.get 2 1 rfl) (FF.cons (hf1.get 3 2 rfl) (FF.cons (hf1.get 7 3 rfl) (FF.cons (congrArg (Value.int .i64) (wr_succ hlt1 hN)) FF.nil))))), (hS6.sel [0, 1] rfl rfl), (by omega), hL1⟩
    · skip
      obtain rfl : k_1 = 0 := by have h := of_decide_eq_false hlt; omega
      refine cw_exit rfl ?_
      obtain rfl := some_inj hL
      refine cw_seq ?_
      refine cw_region ?_
      refine sq 6 rfl rfl (Y_assign (v := .bool true) rfl rfl) ?_
      refine rw_nil ?_
      refine cw_ret ?_
      obtain rfl := some_inj hF3
      exact ret1 Try.results237 (v1 := .bool true) (resAt_tmp rfl) ⟨rfl, (ST.subR (R' := []) (hS4.sel [] rfl rfl) (fun _ h => by cases h))⟩

theorem c_spec_l23Near (g : TCouplingGraph) (place : List Int) (x : TGate) (B : Option Addr) (c n : Nat) (B1 : Option Addr) (c1 n1 : Nat) (w0 : World) (hn : g.Edges.length = n) (hn1 : place.length = n1) (hS : ST w0 [] w0 [] [⟨B, (g.Edges.flatMap enc_Edge)⟩, ⟨B1, (place.flatMap encI)⟩]) {r_ : Bool} (hF : F_spec_l23Near g place x = some r_) :
    CV Try.prog 238 #[.agg #[.int .i64 g.Nodes, .slice B n c], .slice B1 n1 c1, .agg #[.int .i64 x.Kind, .int .i64 x.A, .int .i64 x.B]] w0 (fun v w' => v = .bool r_ ∧ ST w0 [] w' [] []) := by
  subst hn
  subst hn1
  unfold F_spec_l23Near at hF
  refine cv_of_cw 24 Try.func238 rfl Try.ntmps238 rfl ?_
  refine cw_seq ?_
  refine cw_region ?_
  refine ss 3 rfl rfl (Ys_box (T := 100) (v := .agg #[.int .i64 g.Nodes, .slice B g.Edges.length c]) (cs := [.int .i64 g.Nodes, .slice B g.Edges.length c]) (m := 2) hS rfl rfl rfl rfl) ?_
  rintro _ w_ ⟨b, rfl, hS1⟩
  refine ss 5 rfl rfl (Ys_box (T := 213) (v := .agg #[.int .i64 x.Kind, .int .i64 x.A, .int .i64 x.B]) (cs := [.int .i64 x.Kind, .int .i64 x.A, .int .i64 x.B]) (m := 3) hS1 rfl rfl rfl rfl) ?_
  rintro _ w_1 ⟨b1, rfl, hS2⟩
  have hS2 : ST w0 [] _ [⟨some ⟨b, 0, none⟩, 100, [.int .i64 g.Nodes, .slice B g.Edges.length c], 2⟩, ⟨some ⟨b1, 0, none⟩, 213, [.int .i64 x.Kind, .int .i64 x.A, .int .i64 x.B], 3⟩] [⟨B, (g.Edges.flatMap enc_Edge)⟩, ⟨B1, (place.flatMap encI)⟩] := hS2
  refine sq 6 rfl rfl (Y_assign (v := .bool false) rfl rfl) ?_
  refine rw_nil ?_
  refine cw_seq ?_
  obtain ⟨r_1, hc, hF⟩ := bind_inv hF
  obtain ⟨x1, hx, hF⟩ := bind_inv hF
  obtain ⟨x2, hx1, hF⟩ := bind_inv hF
  obtain ⟨r_2, hc1, hF⟩ := bind_inv hF
  refine ra_start (ST.sel hS2 [0, 1] rfl rfl).fn (by kernel_rfl) ?_
  have hS5 := hS2.drew
  refine ra_q 0 7 (v := .agg #[.int .i64 x.Kind, .int .i64 x.A, .int .i64 x.B]) rfl rfl rfl (by kernel_rfl) (by kernel_rfl) (by kernel_rfl) (ST.sel hS5 [0, 1] rfl rfl) (fun w' hw' => (Y_loadA (B := some ⟨b1, 0, none⟩) (i := 0) (cs := [.int .i64 x.Kind, .int .i64 x.A, .int .i64 x.B]) (vs := [.int .i64 x.Kind, .int .i64 x.A, .int .i64 x.B]) k_ag_213 k_sz_213_3 rfl rfl (ST.cf hw' (i := 1) rfl) rfl rfl)) ?_
  refine ra_all (rs := [1]) (by kernel_rfl) rfl ?_
  refine ra_c 8 (i := 1) rfl rfl rfl (Yc_func (g := 163) (vs := [.agg #[.int .i64 x.Kind, .int .i64 x.A, .int .i64 x.B]]) k_call_163 rfl (mc rfl mn) (c_spec_l22Two x _  (hS5.inn0 [] rfl) hc)) ?_ ?_
  · rintro _ w_2 ⟨rfl, hd⟩
    have hS6 := hS5.out00 hd
    have hS6 : ST w0 [] _ [⟨some ⟨b, 0, none⟩, 100, [.int .i64 g.Nodes, .slice B g.Edges.length c], 2⟩, ⟨some ⟨b1, 0, none⟩, 213, [.int .i64 x.Kind, .int .i64 x.A, .int .i64 x.B], 3⟩] [⟨B, (g.Edges.flatMap enc_Edge)⟩, ⟨B1, (place.flatMap encI)⟩] := hS6
    refine ⟨(ST.sel hS6 [0, 1] rfl rfl), ?_⟩
    refine ra_q 2 9 (v := .bool (!r_1)) rfl rfl rfl (by kernel_rfl) (by kernel_rfl) (by kernel_rfl) (ST.sel hS6 [0, 1] rfl rfl) (fun w' hw' => (Y_not (p := r_1) rfl rfl)) ?_
    refine ra_q 3 10 (v := .bool (!r_1)) rfl rfl rfl (by kernel_rfl) (by kernel_rfl) (by kernel_rfl) (ST.sel hS6 [0, 1] rfl rfl) (fun w' hw' => (Y_move (v := .bool (!r_1)) rfl rfl)) ?_
    refine ra_gq 4 11 (B := (!(!r_1))) (v := .agg #[.int .i64 g.Nodes, .slice B g.Edges.length c]) rfl rfl rfl (wt_f (gd_of (t := 10) (by kernel_rfl) rfl)) (by kernel_rfl) (by kernel_rfl) (by kernel_rfl) (ST.sel hS6 [0, 1] rfl rfl) (fun hg w' hw' => (Y_loadA (B := some ⟨b, 0, none⟩) (i := 0) (cs := [.int .i64 g.Nodes, .slice B g.Edges.length c]) (vs := [.int .i64 g.Nodes, .slice B g.Edges.length c]) k_ag_100 k_sz_100_2 rfl rfl (ST.cf hw' (i := 0) rfl) rfl rfl)) ?_
    refine ra_gq 5 12 (B := (!(!r_1))) (v := .slice B1 place.length c1) rfl rfl rfl (wt_f (gd_of (t := 10) (by kernel_rfl) rfl)) (by kernel_rfl) (by kernel_rfl) (by kernel_rfl) (ST.sel hS6 [0, 1] rfl rfl) (fun hg1 w' hw' => (Y_move (v := .slice B1 place.length c1) rfl rfl)) ?_
    refine ra_gq 6 13 (B := (!(!r_1))) (v := pt (some ⟨b1, 0, none⟩) 1) rfl rfl rfl (wt_f (gd_of (t := 10) (by kernel_rfl) rfl)) (by kernel_rfl) (by kernel_rfl) (by kernel_rfl) (ST.sel hS6 [0, 1] rfl rfl) (fun hg2 w' hw' => (Y_fieldAddr (B := some ⟨b1, 0, none⟩) (i := 0) (s := 0) k_fd_213_1_1_3 k_sz_3_1 rfl rfl)) ?_
    refine ra_gq 7 14 (B := (!(!r_1))) (v := .int .i64 x.A) rfl rfl rfl (wt_f (gd_of (t := 10) (by kernel_rfl) rfl)) (by kernel_rfl) (by kernel_rfl) (by kernel_rfl) (ST.sel hS6 [0, 1] rfl rfl) (fun hg3 w' hw' => (Y_load1 (B := some ⟨b1, 0, none⟩) (i := 1) (cs := [.int .i64 x.Kind, .int .i64 x.A, .int .i64 x.B]) (v := .int .i64 x.A) k_sc_3 rfl (gv_of (B := (!(!r_1))) (v := pt (some ⟨b1, 0, none⟩) 1) hg3) (ST.cf hw' (i := 1) rfl) rfl)) ?_
    refine ra_gq 8 15 (B := (!(!r_1))) (v := pt B1 (x.A.toNat * 1)) rfl rfl rfl (wt_f (gd_of (t := 10) (by kernel_rfl) rfl)) (by kernel_rfl) (by kernel_rfl) (by kernel_rfl) (ST.sel hS6 [0, 1] rfl rfl) (fun hg4 w' hw' => (Y_index (B := B1) (m := place.length) (c := c1) (k := .i64) (i := x.A) k_sl_59_3 k_sz_3_1 rfl (gv_of (B := (!(!r_1))) (v := .slice B1 place.length c1) hg4) (gv_of (B := (!(!r_1))) (v := .int .i64 x.A) hg4) (gi_isSome encI_len rfl (ST.rf hw' (i := 1) rfl) (gb_inv hx hg4)) (getI_nn (gb_inv hx hg4)) (getI_ltI (gb_inv hx hg4) rfl))) ?_
    refine ra_gq 9 16 (B := (!(!r_1))) (v := .int .i64 x1) rfl rfl rfl (wt_f (gd_of (t := 10) (by kernel_rfl) rfl)) (by kernel_rfl) (by kernel_rfl) (by kernel_rfl) (ST.sel hS6 [0, 1] rfl rfl) (fun hg5 w' hw' => (Y_load1 (B := B1) (i := x.A.toNat * 1) (cs := (place.flatMap encI)) (v := .int .i64 x1) k_sc_3 rfl (gv_of (B := (!(!r_1))) (v := pt B1 (x.A.toNat * 1)) hg5) (ST.rf hw' (i := 1) rfl) (gi_at0 encI_len (gb_inv hx hg5) rfl))) ?_
    refine ra_gq 10 17 (B := (!(!r_1))) (v := .slice B1 place.length c1) rfl rfl rfl (wt_f (gd_of (t := 10) (by kernel_rfl) rfl)) (by kernel_rfl) (by kernel_rfl) (by kernel_rfl) (ST.sel hS6 [0, 1] rfl rfl) (fun hg6 w' hw' => (Y_move (v := .slice B1 place.length c1) rfl rfl)) ?_
    refine ra_gq 11 18 (B := (!(!r_1))) (v := pt (some ⟨b1, 0, none⟩) 2) rfl rfl rfl (wt_f (gd_of (t := 10) (by kernel_rfl) rfl)) (by kernel_rfl) (by kernel_rfl) (by kernel_rfl) (ST.sel hS6 [0, 1] rfl rfl) (fun hg7 w' hw' => (Y_fieldAddr (B := some ⟨b1, 0, none⟩) (i := 0) (s := 0) k_fd_213_2_2_3 k_sz_3_1 rfl rfl)) ?_
    refine ra_gq 12 19 (B := (!(!r_1))) (v := .int .i64 x.B) rfl rfl rfl (wt_f (gd_of (t := 10) (by kernel_rfl) rfl)) (by kernel_rfl) (by kernel_rfl) (by kernel_rfl) (ST.sel hS6 [0, 1] rfl rfl) (fun hg8 w' hw' => (Y_load1 (B := some ⟨b1, 0, none⟩) (i := 2) (cs := [.int .i64 x.Kind, .int .i64 x.A, .int .i64 x.B]) (v := .int .i64 x.B) k_sc_3 rfl (gv_of (B := (!(!r_1))) (v := pt (some ⟨b1, 0, none⟩) 2) hg8) (ST.cf hw' (i := 1) rfl) rfl)) ?_
    refine ra_gq 13 20 (B := (!(!r_1))) (v := pt B1 (x.B.toNat * 1)) rfl rfl rfl (wt_f (gd_of (t := 10) (by kernel_rfl) rfl)) (by kernel_rfl) (by kernel_rfl) (by kernel_rfl) (ST.sel hS6 [0, 1] rfl rfl) (fun hg9 w' hw' => (Y_index (B := B1) (m := place.length) (c := c1) (k := .i64) (i := x.B) k_sl_59_3 k_sz_3_1 rfl (gv_of (B := (!(!r_1))) (v := .slice B1 place.length c1) hg9) (gv_of (B := (!(!r_1))) (v := .int .i64 x.B) hg9) (gi_isSome encI_len rfl (ST.rf hw' (i := 1) rfl) (gb_inv hx1 hg9)) (getI_nn (gb_inv hx1 hg9)) (getI_ltI (gb_inv hx1 hg9) rfl))) ?_
    refine ra_gq 14 21 (B := (!(!r_1))) (v := .int .i64 x2) rfl rfl rfl (wt_f (gd_of (t := 10) (by kernel_rfl) rfl)) (by kernel_rfl) (by kernel_rfl) (by kernel_rfl) (ST.sel hS6 [0, 1] rfl rfl) (fun hg10 w' hw' => (Y_load1 (B := B1) (i := x.B.toNat * 1) (cs := (place.flatMap encI)) (v := .int .i64 x2) k_sc_3 rfl (gv_of (B := (!(!r_1))) (v := pt B1 (x.B.toNat * 1)) hg10) (ST.rf hw' (i := 1) rfl) (gi_at0 encI_len (gb_inv hx1 hg10) rfl))) ?_
    refine ra_all (rs := [15]) (by kernel_rfl) rfl ?_
    refine ra_gc 22 (i := 15) (B := (!(!r_1))) (v := .bool r_2) (F := hS6.fn) rfl rfl rfl (wt_f (gd_of (t := 10) (by kernel_rfl) rfl)) hS6 (fun hg11 => (Yc_func (g := 236) (vs := [.agg #[.int .i64 g.Nodes, .slice B g.Edges.length c], .int .i64 x1, .int .i64 x2]) k_call_236 rfl (mc (gv_of (B := (!(!r_1))) (v := .agg #[.int .i64 g.Nodes, .slice B g.Edges.length c]) hg11) (mc (gv_of (B := (!(!r_1))) (v := .int .i64 x1) hg11) (mc (gv_of (B := (!(!r_1))) (v := .int .i64 x2) hg11) mn))) (CV.mono (c_spec_l22Edge g x1 x2 B c g.Edges.length _ rfl (hS6.inn0 [(true, 0)] rfl) (gb_inv hc1 hg11)) (by rintro _ _ ⟨rfl, h⟩; exact ⟨rfl, hS6.out00 h⟩)))) ?_ ?_
    · rintro w_3 hS7
      have hS7 : ST _ _ w_3 _ _ := hS7
      refine ⟨(ST.sel hS7 [0, 1] rfl rfl), ?_⟩
      refine ra_q 16 23 (v := .bool ((!r_1) || r_2)) rfl rfl rfl (by kernel_rfl) (by kernel_rfl) (by kernel_rfl) (ST.sel hS7 [0, 1] rfl rfl) (fun w' hw' => (Y_or (b := (!r_1)) (z := r_2) rfl rfl rfl rfl)) ?_
      refine ra_q 17 6 (v := .bool ((!r_1) || r_2)) rfl rfl rfl (by kernel_rfl) (by kernel_rfl) (by kernel_rfl) (ST.sel hS7 [0, 1] rfl rfl) (fun w' hw' => (Y_assign (v := .bool ((!r_1) || r_2)) rfl rfl)) ?_
      refine ra_done (by kernel_rfl) ?_
      refine cw_ret ?_
      obtain rfl := some_inj hF
      exact ret1 Try.results238 (v1 := .bool ((!r_1) || r_2)) (resAt_tmp rfl) ⟨rfl, (ST.subR (R' := []) (hS7.sel [] rfl rfl) (fun _ h => by cases h))⟩
    exact allR_nil
  exact allR_nil

theorem c_spec_l23Play (g : TCouplingGraph) (c1 : TCircuit) (r_ : TRoute) (B : Option Addr) (c n : Nat) (B1 : Option Addr) (c2 n1 : Nat) (B2 : Option Addr) (c3 n2 : Nat) (B3 : Option Addr) (c4 n3 : Nat) (w0 : World) (hn : g.Edges.length = n) (hn1 : c1.Gates.length = n1) (hn2 : r_.Start.length = n2) (hq : n2 ≤ c3) (hn3 : r_.Steps.length = n3) (hS : ST w0 [] w0 [] [⟨B, (g.Edges.flatMap enc_Edge)⟩, ⟨B1, (c1.Gates.flatMap enc_Gate)⟩, ⟨B2, (r_.Start.flatMap encI)⟩, ⟨B3, (r_.Steps.flatMap enc_RouteStep)⟩]) {r_1 : Int} {r_2 : Int} {r_3 : List Int} (hF : F_spec_l23Play g c1 r_ = some (r_1, r_2, r_3)) :
    CV Try.prog 149 #[.agg #[.int .i64 g.Nodes, .slice B n c], .agg #[.int .i64 c1.Qubits, .slice B1 n1 c2], .agg #[.slice B2 n2 c3, .slice B3 n3 c4]] w0 (fun v w' => ∃ (B4 : Option Addr) (c5 : Nat), v = .tuple #[.int .i64 r_1, .int .i64 r_2, .slice B4 r_3.length c5] ∧ ST w0 [] w' [⟨B4, 3, (r_3.flatMap encI), c5 * 1⟩] []) := by
  subst hn
  subst hn1
  subst hn2
  subst hn3
  unfold F_spec_l23Play at hF
  refine cv_of_cw 97 Try.func149 rfl Try.ntmps149 rfl ?_
  refine cw_seq ?_
  refine cw_region ?_
  refine ss 3 rfl rfl (Ys_box (T := 100) (v := .agg #[.int .i64 g.Nodes, .slice B g.Edges.length c]) (cs := [.int .i64 g.Nodes, .slice B g.Edges.length c]) (m := 2) hS rfl rfl rfl rfl) ?_
  rintro _ w_ ⟨b, rfl, hS1⟩
  refine ss 4 rfl rfl (Ys_box (T := 104) (v := .agg #[.int .i64 c1.Qubits, .slice B1 c1.Gates.length c2]) (cs := [.int .i64 c1.Qubits, .slice B1 c1.Gates.length c2]) (m := 2) hS1 rfl rfl rfl rfl) ?_
  rintro _ w_1 ⟨b1, rfl, hS2⟩
  have hS2 : ST w0 [] _ [⟨some ⟨b, 0, none⟩, 100, [.int .i64 g.Nodes, .slice B g.Edges.length c], 2⟩, ⟨some ⟨b1, 0, none⟩, 104, [.int .i64 c1.Qubits, .slice B1 c1.Gates.length c2], 2⟩] [⟨B, (g.Edges.flatMap enc_Edge)⟩, ⟨B1, (c1.Gates.flatMap enc_Gate)⟩, ⟨B2, (r_.Start.flatMap encI)⟩, ⟨B3, (r_.Steps.flatMap enc_RouteStep)⟩] := hS2
  refine ss 5 rfl rfl (Ys_box (T := 108) (v := .agg #[.slice B2 r_.Start.length c3, .slice B3 r_.Steps.length c4]) (cs := [.slice B2 r_.Start.length c3, .slice B3 r_.Steps.length c4]) (m := 2) hS2 rfl rfl rfl rfl) ?_
  rintro _ w_2 ⟨b2, rfl, hS3⟩
  have hS3 : ST w0 [] _ [⟨some ⟨b, 0, none⟩, 100, [.int .i64 g.Nodes, .slice B g.Edges.length c], 2⟩, ⟨some ⟨b1, 0, none⟩, 104, [.int .i64 c1.Qubits, .slice B1 c1.Gates.length c2], 2⟩, ⟨some ⟨b2, 0, none⟩, 108, [.slice B2 r_.Start.length c3, .slice B3 r_.Steps.length c4], 2⟩] [⟨B, (g.Edges.flatMap enc_Edge)⟩, ⟨B1, (c1.Gates.flatMap enc_Gate)⟩, ⟨B2, (r_.Start.flatMap encI)⟩, ⟨B3, (r_.Steps.flatMap enc_RouteStep)⟩] := hS3
  refine sq 6 rfl rfl (Y_assign (v := .int .i64 0) rfl rfl) ?_
  refine sq 7 rfl rfl (Y_assign (v := .int .i64 0) rfl rfl) ?_
  refine sq 8 rfl rfl (Y_assign (v := .slice none 0 0) rfl rfl) ?_
  refine rw_nil ?_
  refine cw_seq ?_
  refine cw_seq ?_
  refine cw_region ?_
  refine sq 14 rfl rfl (Y_loadA (B := some ⟨b, 0, none⟩) (i := 0) (cs := [.int .i64 g.Nodes, .slice B g.Edges.length c]) (vs := [.int .i64 g.Nodes, .slice B g.Edges.length c]) k_ag_100 k_sz_100_2 rfl rfl (hS3.cf (i := 0) rfl) rfl rfl) ?_
  refine sq 15 rfl rfl (Y_fieldAddr (B := some ⟨b1, 0, none⟩) (i := 0) (s := 0) k_fd_104_0_0_3 k_sz_3_1 rfl rfl) ?_
  refine sq 16 rfl rfl (Y_load1 (B := some ⟨b1, 0, none⟩) (i := 0) (cs := [.int .i64 c1.Qubits, .slice B1 c1.Gates.length c2]) (v := .int .i64 c1.Qubits) k_sc_3 rfl rfl (hS3.cf (i := 1) rfl) rfl) ?_
  refine sq 17 rfl rfl (Y_fieldAddr (B := some ⟨b2, 0, none⟩) (i := 0) (s := 0) k_fd_108_0_0_59 k_sz_59_1 rfl rfl) ?_
  refine sq 18 rfl rfl (Y_load1 (B := some ⟨b2, 0, none⟩) (i := 0) (cs := [.slice B2 r_.Start.length c3, .slice B3 r_.Steps.length c4]) (v := .slice B2 r_.Start.length c3) k_sc_59 rfl rfl (hS3.cf (i := 2) rfl) rfl) ?_
  obtain ⟨r_4, hc, hF⟩ := bind_inv hF
  refine sc 19 rfl rfl (Yc_func (g := 234) (vs := [.agg #[.int .i64 g.Nodes, .slice B g.Edges.length c], .int .i64 c1.Qubits, .slice B2 r_.Start.length c3]) k_call_234 rfl (mc rfl (mc rfl (mc rfl mn))) (c_spec_l23Placement g c1.Qubits r_.Start B c g.Edges.length B2 c3 r_.Start.length _ rfl rfl hq (hS3.inn0 [(true, 0), (true, 2)] rfl) hc)) ?_
  rintro _ w_3 ⟨rfl, hd⟩
  have hS4 := hS3.out00 hd
  have hS4 : ST w0 [] _ [⟨some ⟨b, 0, none⟩, 100, [.int .i64 g.Nodes, .slice B g.Edges.length c], 2⟩, ⟨some ⟨b1, 0, none⟩, 104, [.int .i64 c1.Qubits, .slice B1 c1.Gates.length c2], 2⟩, ⟨some ⟨b2, 0, none⟩, 108, [.slice B2 r_.Start.length c3, .slice B3 r_.Steps.length c4], 2⟩] [⟨B, (g.Edges.flatMap enc_Edge)⟩, ⟨B1, (c1.Gates.flatMap enc_Gate)⟩, ⟨B2, (r_.Start.flatMap encI)⟩, ⟨B3, (r_.Steps.flatMap enc_RouteStep)⟩] := hS4
  refine sq 20 rfl rfl (Y_not (p := r_4) rfl rfl) ?_
  refine rw_nil ?_
  refine cw_cond (b := (!r_4)) rfl (fun hb => ?_) (fun hb => ?_)
  · skip
    have hF1 := ct hF hb
    refine cw_seq ?_
    refine cw_region ?_
    refine sq 6 rfl rfl (Y_assign (v := .int .i64 1) rfl rfl) ?_
    refine sq 7 rfl rfl (Y_assign (v := .int .i64 0) rfl rfl) ?_
    refine sq 8 rfl rfl (Y_assign (v := .slice none 0 0) rfl rfl) ?_
    refine rw_nil ?_
    refine cw_ret ?_
    have hS5 := hS4.addNil 3
    obtain ⟨rfl, rfl, rfl⟩ := pr3 (some_inj hF1)
    exact ret3 Try.results149 (v1 := .int .i64 1) (resAt_tmp rfl) (v2 := .int .i64 0) (resAt_tmp rfl) (v3 := .slice none 0 0) (resAt_tmp rfl) ⟨none, 0, rfl, (ST.subR (R' := []) (hS5.sel [3] rfl rfl) (fun _ h => by cases h))⟩
  · skip
    have hF2 := cf' hF hb
    refine cw_skip ?_
    refine cw_seq ?_
    refine cw_region ?_
    refine sq 21 rfl rfl (Y_fieldAddr (B := some ⟨b2, 0, none⟩) (i := 0) (s := 0) k_fd_108_0_0_59 k_sz_59_1 rfl rfl) ?_
    refine sq 22 rfl rfl (Y_load1 (B := some ⟨b2, 0, none⟩) (i := 0) (cs := [.slice B2 r_.Start.length c3, .slice B3 r_.Steps.length c4]) (v := .slice B2 r_.Start.length c3) k_sc_59 rfl rfl (hS4.cf (i := 2) rfl) rfl) ?_
    obtain ⟨r_5, hc1, hF2⟩ := bind_inv hF2
    refine sc 23 rfl rfl (Yc_func (g := 235) (vs := [.slice B2 r_.Start.length c3]) k_call_235 rfl (mc rfl mn) (c_spec_l1Own r_.Start B2 c3 r_.Start.length _ rfl (hS4.inn0 [(true, 2)] rfl) hc1)) ?_
    rintro _ w_4 ⟨B5, c6, rfl, hd1⟩
    have hS6 := hS4.out0 hd1
    have hS6 : ST w0 [] _ [⟨some ⟨b, 0, none⟩, 100, [.int .i64 g.Nodes, .slice B g.Edges.length c], 2⟩, ⟨some ⟨b1, 0, none⟩, 104, [.int .i64 c1.Qubits, .slice B1 c1.Gates.length c2], 2⟩, ⟨some ⟨b2, 0, none⟩, 108, [.slice B2 r_.Start.length c3, .slice B3 r_.Steps.length c4], 2⟩, ⟨B5, 3, (r_5.flatMap encI), c6 * 1⟩] [⟨B, (g.Edges.flatMap enc_Edge)⟩, ⟨B1, (c1.Gates.flatMap enc_Gate)⟩, ⟨B2, (r_.Start.flatMap encI)⟩, ⟨B3, (r_.Steps.flatMap enc_RouteStep)⟩] := hS6
    refine sq 9 rfl rfl (Y_assign (v := .slice B5 r_5.length c6) rfl rfl) ?_
    refine rw_nil ?_
    refine cw_seq ?_
    refine cw_region ?_
    refine sq 24 rfl rfl (Y_fieldAddr (B := some ⟨b1, 0, none⟩) (i := 0) (s := 0) k_fd_104_1_1_102 k_sz_102_1 rfl rfl) ?_
    refine sq 25 rfl rfl (Y_load1 (B := some ⟨b1, 0, none⟩) (i := 1) (cs := [.int .i64 c1.Qubits, .slice B1 c1.Gates.length c2]) (v := .slice B1 c1.Gates.length c2) k_sc_102 rfl rfl (hS6.cf (i := 1) rfl) rfl) ?_
    refine sq 26 rfl rfl (Y_len (B := B1) (m := c1.Gates.length) (c := c2) k_sl_102_213 rfl rfl) ?_
    obtain ⟨hmk, hF2⟩ := chk_inv hF2
    refine ss 27 rfl rfl (Ys_make (s := 1) (by' := 1) (nn := c1.Gates.length) (a := (c1.Gates.length : Int)) (b := (c1.Gates.length : Int)) (cs := ((List.replicate c1.Gates.length false).flatMap encB)) hS6 k_sl_199_4 k_sz_4_1 k_by_4_1 k_zero_4 rfl rfl rfl rfl hmk.1 rfl (by have := hmk; omega) (by have := hmk; omega) (by omega) (fm_rep (enc := encB) (d := false) rfl _)) ?_
    rintro _ w_5 ⟨b3, rfl, hS7⟩
    have hS7 : ST w0 [] _ [⟨some ⟨b, 0, none⟩, 100, [.int .i64 g.Nodes, .slice B g.Edges.length c], 2⟩, ⟨some ⟨b1, 0, none⟩, 104, [.int .i64 c1.Qubits, .slice B1 c1.Gates.length c2], 2⟩, ⟨some ⟨b2, 0, none⟩, 108, [.slice B2 r_.Start.length c3, .slice B3 r_.Steps.length c4], 2⟩, ⟨B5, 3, (r_5.flatMap encI), c6 * 1⟩, ⟨some ⟨b3, 0, none⟩, 4, ((List.replicate c1.Gates.length false).flatMap encB), c1.Gates.length * 1⟩] [⟨B, (g.Edges.flatMap enc_Edge)⟩, ⟨B1, (c1.Gates.flatMap enc_Gate)⟩, ⟨B2, (r_.Start.flatMap encI)⟩, ⟨B3, (r_.Steps.flatMap enc_RouteStep)⟩] := hS7
    refine sq 10 rfl rfl (Y_assign (v := .slice (some ⟨b3, 0, none⟩) c1.Gates.length c1.Gates.length) rfl rfl) ?_
    refine rw_nil ?_
    refine cw_seq ?_
    refine cw_region ?_
    refine sq 28 rfl rfl (Y_fieldAddr (B := some ⟨b1, 0, none⟩) (i := 0) (s := 0) k_fd_104_1_1_102 k_sz_102_1 rfl rfl) ?_
    refine sq 29 rfl rfl (Y_load1 (B := some ⟨b1, 0, none⟩) (i := 1) (cs := [.int .i64 c1.Qubits, .slice B1 c1.Gates.length c2]) (v := .slice B1 c1.Gates.length c2) k_sc_102 rfl rfl (hS7.cf (i := 1) rfl) rfl) ?_
    refine sq 30 rfl rfl (Y_len (B := B1) (m := c1.Gates.length) (c := c2) k_sl_102_213 rfl rfl) ?_
    refine sq 11 rfl rfl (Y_assign (v := .int .i64 (c1.Gates.length : Int)) rfl rfl) ?_
    refine rw_nil ?_
    refine cw_seq ?_
    refine cw_seq ?_
    refine cw_region ?_
    refine sq 31 rfl rfl (Y_fieldAddr (B := some ⟨b2, 0, none⟩) (i := 0) (s := 0) k_fd_108_1_1_106 k_sz_106_1 rfl rfl) ?_
    refine sq 32 rfl rfl (Y_load1 (B := some ⟨b2, 0, none⟩) (i := 1) (cs := [.slice B2 r_.Start.length c3, .slice B3 r_.Steps.length c4]) (v := .slice B3 r_.Steps.length c4) k_sc_106 rfl rfl (hS7.cf (i := 2) rfl) rfl) ?_
    refine sq 33 rfl rfl (Y_len (B := B3) (m := r_.Steps.length) (c := c4) k_sl_106_211 rfl rfl) ?_
    refine sq 34 rfl rfl (Y_move (v := .int .i64 0) rfl rfl) ?_
    refine rw_nil ?_
    obtain ⟨hN, hF2⟩ := chk_inv hF2
    obtain ⟨z, hz, hF3⟩ := bind_inv hF2
    refine cw_block ?_
    refine cw_loop (fun k f w => ∃ (i : Nat) (place : List Int) (done : List Bool) (left : Int) (B6 : Option Addr) (c7 : Nat), FF f [(3, pt (some ⟨b, 0, none⟩) 0), (4, pt (some ⟨b1, 0, none⟩) 0), (5, pt (some ⟨b2, 0, none⟩) 0), (9, .slice B6 place.length c7), (10, .slice (some ⟨b3, 0, none⟩) c1.Gates.length c1.Gates.length), (11, .int .i64 left), (32, .slice B3 r_.Steps.length c4), (33, .int .i64 (r_.Steps.length : Int)), (34, .int .i64 (i : Int))] ∧ done.length = c1.Gates.length ∧ ST w0 [] w [⟨some ⟨b, 0, none⟩, 100, [.int .i64 g.Nodes, .slice B g.Edges.length c], 2⟩, ⟨some ⟨b1, 0, none⟩, 104, [.int .i64 c1.Qubits, .slice B1 c1.Gates.length c2], 2⟩, ⟨some ⟨b2, 0, none⟩, 108, [.slice B2 r_.Start.length c3, .slice B3 r_.Steps.length c4], 2⟩, ⟨B6, 3, (place.flatMap encI), c7 * 1⟩, ⟨some ⟨b3, 0, none⟩, 4, (done.flatMap encB), c1.Gates.length * 1⟩] [⟨B, (g.Edges.flatMap enc_Edge)⟩, ⟨B1, (c1.Gates.flatMap enc_Gate)⟩, ⟨B2, (r_.Start.flatMap encI)⟩, ⟨B3, (r_.Steps.flatMap enc_RouteStep)⟩] ∧ i + k = r_.Steps.length ∧ forX (F_spec_l23Play_l1 r_ g c1) k i (place, done, left) = some z) r_.Steps.length ⟨0, r_5, (List.replicate c1.Gates.length false), (c1.Gates.length : Int), B5, c6, (FF.cons rfl (FF.cons rfl (FF.cons rfl (FF.cons rfl (FF.cons rfl (FF.cons rfl (FF.cons rfl (FF.cons rfl (FF.cons rfl FF.nil))))))))), List.length_replicate, (hS7.sel [0, 1, 2, 3, 4] rfl rfl), Nat.zero_add _, hz⟩ ?_
    rintro k_ f w ⟨i, place, done, left, B6, c7, hf, hl, hS8, hik, hL⟩
    refine cw_seq ?_
    refine cw_region ?_
    refine sq 35 rfl rfl (Y_lt (k := .i64) (a := (i : Int)) (b := (r_.Steps.length : Int)) rfl (hf.get 34 8 rfl) (hf.get 33 7 rfl)) ?_
    refine rw_nil ?_
    refine cw_seq ?_
    refine cw_cond (b := (decide ((i : Int) < (r_.Steps.length : Int)))) rfl (fun hlt => ?_) (fun hlt => ?_)
    · skip
      have hlt1 : i < r_.Steps.length := by have h := of_decide_eq_true hlt; omega
      obtain ⟨k_1, rfl⟩ : ∃ k2, k_ = k2 + 1 := ⟨k_ - 1, by omega⟩
      obtain ⟨y, hb1, hL1⟩ := forX_go hL
      unfold F_spec_l23Play_l1 at hb1
      refine cw_skip ?_
      refine cw_seq ?_
      obtain ⟨z1, hz1, hF4⟩ := bind_inv hb1
      refine cw_mid (fun f w => ∃ (place1 : List Int) (done1 : List Bool) (left1 : Int) (B7 : Option Addr) (c8 : Nat), .inl (place1, done1, left1) = z1 ∧ FF f [(3, pt (some ⟨b, 0, none⟩) 0), (4, pt (some ⟨b1, 0, none⟩) 0), (5, pt (some ⟨b2, 0, none⟩) 0), (9, .slice B7 place1.length c8), (10, .slice (some ⟨b3, 0, none⟩) c1.Gates.length c1.Gates.length), (11, .int .i64 left1), (32, .slice B3 r_.Steps.length c4), (33, .int .i64 (r_.Steps.length : Int)), (34, .int .i64 (i : Int))] ∧ done1.length = c1.Gates.length ∧ ST w0 [] w [⟨some ⟨b, 0, none⟩, 100, [.int .i64 g.Nodes, .slice B g.Edges.length c], 2⟩, ⟨some ⟨b1, 0, none⟩, 104, [.int .i64 c1.Qubits, .slice B1 c1.Gates.length c2], 2⟩, ⟨some ⟨b2, 0, none⟩, 108, [.slice B2 r_.Start.length c3, .slice B3 r_.Steps.length c4], 2⟩, ⟨B7, 3, (place1.flatMap encI), c8 * 1⟩, ⟨some ⟨b3, 0, none⟩, 4, (done1.flatMap encB), c1.Gates.length * 1⟩] [⟨B, (g.Edges.flatMap enc_Edge)⟩, ⟨B1, (c1.Gates.flatMap enc_Gate)⟩, ⟨B2, (r_.Start.flatMap encI)⟩, ⟨B3, (r_.Steps.flatMap enc_RouteStep)⟩]) ?_ ?_
      · skip
        refine cw_block ?_
        refine cw_seq ?_
        refine cw_region ?_
        refine sq 36 rfl rfl (Y_move (v := .int .i64 (i : Int)) rfl (hf.get 34 8 rfl)) ?_
        obtain ⟨x, hx, hz1⟩ := bind_inv hz1
        refine sq 37 rfl rfl (Y_index (B := B3) (m := r_.Steps.length) (c := c4) (k := .i64) (i := (i : Int)) k_sl_106_211 k_sz_211_3 rfl (hf.get 32 6 rfl) (hf.get 34 8 rfl) (gi_isSome enc_RouteStep_len rfl (hS8.rf (i := 3) rfl) hx) (getI_nn hx) (getI_ltI hx rfl)) ?_
        refine sq 38 rfl rfl (Y_loadA (B := B3) (i := (i : Int).toNat * 3) (cs := (r_.Steps.flatMap enc_RouteStep)) (vs := [.int .i64 x.Gate, .int .i64 x.A, .int .i64 x.B]) k_ag_211 k_sz_211_3 rfl rfl (hS8.rf (i := 3) rfl) (enc_RouteStep_len x) (gi_seg enc_RouteStep_len hx)) ?_
        refine ss 13 rfl rfl (Ys_alloc (T := 211) (cs := [.int .i64 0, .int .i64 0, .int .i64 0]) (m := 3) hS8 k_zero_211 rfl rfl rfl) ?_
        rintro _ w_6 ⟨b4, rfl, hS10⟩
        have hS10 : ST w0 [] _ [⟨some ⟨b, 0, none⟩, 100, [.int .i64 g.Nodes, .slice B g.Edges.length c], 2⟩, ⟨some ⟨b1, 0, none⟩, 104, [.int .i64 c1.Qubits, .slice B1 c1.Gates.length c2], 2⟩, ⟨some ⟨b2, 0, none⟩, 108, [.slice B2 r_.Start.length c3, .slice B3 r_.Steps.length c4], 2⟩, ⟨B6, 3, (place.flatMap encI), c7 * 1⟩, ⟨some ⟨b3, 0, none⟩, 4, (done.flatMap encB), c1.Gates.length * 1⟩, ⟨some ⟨b4, 0, none⟩, 211, [.int .i64 0, .int .i64 0, .int .i64 0], 3⟩] [⟨B, (g.Edges.flatMap enc_Edge)⟩, ⟨B1, (c1.Gates.flatMap enc_Gate)⟩, ⟨B2, (r_.Start.flatMap encI)⟩, ⟨B3, (r_.Steps.flatMap enc_RouteStep)⟩] := hS10
        refine sq 12 rfl rfl (Y_assign (v := .int .i64 (i : Int)) rfl rfl) ?_
        refine ss0 rfl rfl (Ys_store (i := 5) (s := 3) (B := some ⟨b4, 0, none⟩) (T' := 211) (v := .agg #[.int .i64 x.Gate, .int .i64 x.A, .int .i64 x.B]) (vs := [.int .i64 x.Gate, .int .i64 x.A, .int .i64 x.B]) (k := 0) (cs' := [.int .i64 x.Gate, .int .i64 x.A, .int .i64 x.B]) hS10 k_sz_211_3 rfl rfl rfl rfl rfl rfl rfl (Nat.le_of_ble_eq_true rfl) rfl rfl) ?_
        rintro _ w_7 ⟨rfl, hS11⟩
        have hS11 : ST w0 [] _ [⟨some ⟨b, 0, none⟩, 100, [.int .i64 g.Nodes, .slice B g.Edges.length c], 2⟩, ⟨some ⟨b1, 0, none⟩, 104, [.int .i64 c1.Qubits, .slice B1 c1.Gates.length c2], 2⟩, ⟨some ⟨b2, 0, none⟩, 108, [.slice B2 r_.Start.length c3, .slice B3 r_.Steps.length c4], 2⟩, ⟨B6, 3, (place.flatMap encI), c7 * 1⟩, ⟨some ⟨b3, 0, none⟩, 4, (done.flatMap encB), c1.Gates.length * 1⟩, ⟨some ⟨b4, 0, none⟩, 211, [.int .i64 x.Gate, .int .i64 x.A, .int .i64 x.B], 3⟩] [⟨B, (g.Edges.flatMap enc_Edge)⟩, ⟨B1, (c1.Gates.flatMap enc_Gate)⟩, ⟨B2, (r_.Start.flatMap encI)⟩, ⟨B3, (r_.Steps.flatMap enc_RouteStep)⟩] := hS11
        refine rw_nil ?_
        refine cw_seq ?_
        refine cw_seq ?_
        refine cw_region ?_
        refine sq 39 rfl rfl (Y_fieldAddr (B := some ⟨b4, 0, none⟩) (i := 0) (s := 0) k_fd_211_0_0_3 k_sz_3_1 rfl rfl) ?_
        refine sq 40 rfl rfl (Y_load1 (B := some ⟨b4, 0, none⟩) (i := 0) (cs := [.int .i64 x.Gate, .int .i64 x.A, .int .i64 x.B]) (v := .int .i64 x.Gate) k_sc_3 rfl rfl (hS11.cf (i := 5) rfl) rfl) ?_
        refine sq 41 rfl rfl (Y_eq (k := .i64) (a := x.Gate) (b := (-1)) rfl rfl rfl) ?_
        refine rw_nil ?_
        refine cw_cond (b := (x.Gate == (-1))) rfl (fun hb2 => ?_) (fun hb2 => ?_)
        · skip
          have hF5 := ct hz1 hb2
          refine cw_seq ?_
          refine cw_seq ?_
          refine cw_region ?_
          refine sq 42 rfl rfl (Y_loadA (B := some ⟨b, 0, none⟩) (i := 0) (cs := [.int .i64 g.Nodes, .slice B g.Edges.length c]) (vs := [.int .i64 g.Nodes, .slice B g.Edges.length c]) k_ag_100 k_sz_100_2 rfl (hf.get 3 0 rfl) (hS11.cf (i := 0) rfl) rfl rfl) ?_
          refine sq 43 rfl rfl (Y_fieldAddr (B := some ⟨b4, 0, none⟩) (i := 0) (s := 0) k_fd_211_1_1_3 k_sz_3_1 rfl rfl) ?_
          refine sq 44 rfl rfl (Y_load1 (B := some ⟨b4, 0, none⟩) (i := 1) (cs := [.int .i64 x.Gate, .int .i64 x.A, .int .i64 x.B]) (v := .int .i64 x.A) k_sc_3 rfl rfl (hS11.cf (i := 5) rfl) rfl) ?_
          refine sq 45 rfl rfl (Y_fieldAddr (B := some ⟨b4, 0, none⟩) (i := 0) (s := 0) k_fd_211_2_2_3 k_sz_3_1 rfl rfl) ?_
          refine sq 46 rfl rfl (Y_load1 (B := some ⟨b4, 0, none⟩) (i := 2) (cs := [.int .i64 x.Gate, .int .i64 x.A, .int .i64 x.B]) (v := .int .i64 x.B) k_sc_3 rfl rfl (hS11.cf (i := 5) rfl) rfl) ?_
          obtain ⟨r_6, hc2, hF5⟩ := bind_inv hF5
          refine sc 47 rfl rfl (Yc_func (g := 236) (vs := [.agg #[.int .i64 g.Nodes, .slice B g.Edges.length c], .int .i64 x.A, .int .i64 x.B]) k_call_236 rfl (mc rfl (mc rfl (mc rfl mn))) (c_spec_l22Edge g x.A x.B B c g.Edges.length _ rfl (hS11.inn0 [(true, 0)] rfl) hc2)) ?_
          rintro _ w_8 ⟨rfl, hd2⟩
          have hS12 := hS11.out00 hd2
          have hS12 : ST w0 [] _ [⟨some ⟨b, 0, none⟩, 100, [.int .i64 g.Nodes, .slice B g.Edges.length c], 2⟩, ⟨some ⟨b1, 0, none⟩, 104, [.int .i64 c1.Qubits, .slice B1 c1.Gates.length c2], 2⟩, ⟨some ⟨b2, 0, none⟩, 108, [.slice B2 r_.Start.length c3, .slice B3 r_.Steps.length c4], 2⟩, ⟨B6, 3, (place.flatMap encI), c7 * 1⟩, ⟨some ⟨b3, 0, none⟩, 4, (done.flatMap encB), c1.Gates.length * 1⟩, ⟨some ⟨b4, 0, none⟩, 211, [.int .i64 x.Gate, .int .i64 x.A, .int .i64 x.B], 3⟩] [⟨B, (g.Edges.flatMap enc_Edge)⟩, ⟨B1, (c1.Gates.flatMap enc_Gate)⟩, ⟨B2, (r_.Start.flatMap encI)⟩, ⟨B3, (r_.Steps.flatMap enc_RouteStep)⟩] := hS12
          refine sq 48 rfl rfl (Y_not (p := r_6) rfl rfl) ?_
          refine rw_nil ?_
          refine cw_cond (b := (!r_6)) rfl (fun hb3 => ?_) (fun hb3 => ?_)
          · skip
            have hF6 := ct hF5 hb3
            refine cw_seq ?_
            refine cw_region ?_
            refine sq 49 rfl rfl (Y_move (v := .int .i64 (i : Int)) rfl rfl) ?_
            refine sq 6 rfl rfl (Y_assign (v := .int .i64 2) rfl rfl) ?_
            refine sq 7 rfl rfl (Y_assign (v := .int .i64 (i : Int)) rfl rfl) ?_
            refine sq 8 rfl rfl (Y_assign (v := .slice none 0 0) rfl rfl) ?_
            refine rw_nil ?_
            refine cw_ret ?_
            have hS13 := hS12.addNil 3
            obtain rfl := some_inj hF6
            obtain rfl := some_inj hF4
            obtain rfl := some_inj hL1
            obtain ⟨rfl, rfl, rfl⟩ := pr3 (some_inj hF3)
            exact ret3 Try.results149 (v1 := .int .i64 2) (resAt_tmp rfl) (v2 := .int .i64 (i : Int)) (resAt_tmp rfl) (v3 := .slice none 0 0) (resAt_tmp rfl) ⟨none, 0, rfl, (ST.subR (R' := []) (hS13.sel [6] rfl rfl) (fun _ h => by cases h))⟩
          · skip
            have hF7 := cf' hF5 hb3
            refine cw_skip ?_
            refine cw_seq ?_
            refine cw_region ?_
            refine sq 50 rfl rfl (Y_move (v := .slice B6 place.length c7) rfl (hf.get 9 3 rfl)) ?_
            refine sq 51 rfl rfl (Y_fieldAddr (B := some ⟨b4, 0, none⟩) (i := 0) (s := 0) k_fd_211_1_1_3 k_sz_3_1 rfl rfl) ?_
            refine sq 52 rfl rfl (Y_load1 (B := some ⟨b4, 0, none⟩) (i := 1) (cs := [.int .i64 x.Gate, .int .i64 x.A, .int .i64 x.B]) (v := .int .i64 x.A) k_sc_3 rfl rfl (hS12.cf (i := 5) rfl) rfl) ?_
            refine sq 53 rfl rfl (Y_fieldAddr (B := some ⟨b4, 0, none⟩) (i := 0) (s := 0) k_fd_211_2_2_3 k_sz_3_1 rfl rfl) ?_
            refine sq 54 rfl rfl (Y_load1 (B := some ⟨b4, 0, none⟩) (i := 2) (cs := [.int .i64 x.Gate, .int .i64 x.A, .int .i64 x.B]) (v := .int .i64 x.B) k_sc_3 rfl rfl (hS12.cf (i := 5) rfl) rfl) ?_
            obtain ⟨r_7, hc3, hF7⟩ := bind_inv hF7
            refine sc 55 rfl rfl (Yc_func (g := 162) (vs := [.slice B6 place.length c7, .int .i64 x.A, .int .i64 x.B]) k_call_162 rfl (mc rfl (mc rfl (mc rfl mn))) (c_spec_l23Swap place x.A x.B B6 c7 place.length _ rfl (hS12.inn0 [(false, 3)] rfl) hc3)) ?_
            rintro _ w_9 ⟨B8, c9, rfl, hd3⟩
            have hS14 := hS12.out0 hd3
            have hS14 : ST w0 [] _ [⟨some ⟨b, 0, none⟩, 100, [.int .i64 g.Nodes, .slice B g.Edges.length c], 2⟩, ⟨some ⟨b1, 0, none⟩, 104, [.int .i64 c1.Qubits, .slice B1 c1.Gates.length c2], 2⟩, ⟨some ⟨b2, 0, none⟩, 108, [.slice B2 r_.Start.length c3, .slice B3 r_.Steps.length c4], 2⟩, ⟨B6, 3, (place.flatMap encI), c7 * 1⟩, ⟨some ⟨b3, 0, none⟩, 4, (done.flatMap encB), c1.Gates.length * 1⟩, ⟨some ⟨b4, 0, none⟩, 211, [.int .i64 x.Gate, .int .i64 x.A, .int .i64 x.B], 3⟩, ⟨B8, 3, (r_7.flatMap encI), c9 * 1⟩] [⟨B, (g.Edges.flatMap enc_Edge)⟩, ⟨B1, (c1.Gates.flatMap enc_Gate)⟩, ⟨B2, (r_.Start.flatMap encI)⟩, ⟨B3, (r_.Steps.flatMap enc_RouteStep)⟩] := hS14
            refine sq 9 rfl rfl (Y_assign (v := .slice B8 r_7.length c9) rfl rfl) ?_
            refine rw_nil ?_
            refine cw_exit rfl ?_
            exact ⟨r_7, done, left, B8, c9, (some_inj hF7), (FF.cons (hf.get 3 0 rfl) (FF.cons (hf.get 4 1 rfl) (FF.cons (hf.get 5 2 rfl) (FF.cons rfl (FF.cons (hf.get 10 4 rfl) (FF.cons (hf.get 11 5 rfl) (FF.cons (hf.get 32 6 rfl) (FF.cons (hf.get 33 7 rfl) (FF.cons (hf.get 34 8 rfl) FF.nil))))))))), hl, (hS14.sel [0, 1, 2, 6, 4] rfl rfl)⟩
        · skip
          have hF8 := cf' hz1 hb2
          refine cw_skip ?_
          refine cw_seq ?_
          refine cw_seq ?_
          refine cw_region ?_
          refine sq 56 rfl rfl (Y_fieldAddr (B := some ⟨b4, 0, none⟩) (i := 0) (s := 0) k_fd_211_1_1_3 k_sz_3_1 rfl rfl) ?_
          refine sq 57 rfl rfl (Y_load1 (B := some ⟨b4, 0, none⟩) (i := 1) (cs := [.int .i64 x.Gate, .int .i64 x.A, .int .i64 x.B]) (v := .int .i64 x.A) k_sc_3 rfl rfl (hS11.cf (i := 5) rfl) rfl) ?_
          refine sq 58 rfl rfl (Y_ne (k := .i64) (a := x.A) (b := 0) rfl rfl rfl) ?_
          refine sq 59 rfl rfl (Y_move (v := .bool (x.A != 0)) rfl rfl) ?_
          refine sgq 60 (B := (!(x.A != 0))) (v := pt (some ⟨b4, 0, none⟩) 2) rfl rfl (wt_f (gd_of (t := 59) (by kernel_rfl) rfl)) (fun hg => (Y_fieldAddr (B := some ⟨b4, 0, none⟩) (i := 0) (s := 0) k_fd_211_2_2_3 k_sz_3_1 rfl rfl)) ?_
          refine sgq 61 (B := (!(x.A != 0))) (v := .int .i64 x.B) rfl rfl (wt_f (gd_of (t := 59) (by kernel_rfl) rfl)) (fun hg1 => (Y_load1 (B := some ⟨b4, 0, none⟩) (i := 2) (cs := [.int .i64 x.Gate, .int .i64 x.A, .int .i64 x.B]) (v := .int .i64 x.B) k_sc_3 rfl (gv_of (B := (!(x.A != 0))) (v := pt (some ⟨b4, 0, none⟩) 2) hg1) (hS11.cf (i := 5) rfl) rfl)) ?_
          refine sgq 62 (B := (!(x.A != 0))) (v := .bool (x.B != 0)) rfl rfl (wt_f (gd_of (t := 59) (by kernel_rfl) rfl)) (fun hg2 => (Y_ne (k := .i64) (a := x.B) (b := 0) rfl (gv_of (B := (!(x.A != 0))) (v := .int .i64 x.B) hg2) rfl)) ?_
          refine sq 63 rfl rfl (Y_or (b := (x.A != 0)) (z := (x.B != 0)) rfl rfl rfl rfl) ?_
          refine sq 64 rfl rfl (Y_move (v := .bool ((x.A != 0) || (x.B != 0))) rfl rfl) ?_
          refine sgq 65 (B := (!((x.A != 0) || (x.B != 0)))) (v := .agg #[.int .i64 c1.Qubits, .slice B1 c1.Gates.length c2]) rfl rfl (wt_f (gd_of (t := 64) (by kernel_rfl) rfl)) (fun hg3 => (Y_loadA (B := some ⟨b1, 0, none⟩) (i := 0) (cs := [.int .i64 c1.Qubits, .slice B1 c1.Gates.length c2]) (vs := [.int .i64 c1.Qubits, .slice B1 c1.Gates.length c2]) k_ag_104 k_sz_104_2 rfl (hf.get 4 1 rfl) (hS11.cf (i := 1) rfl) rfl rfl)) ?_
          refine sgq 66 (B := (!((x.A != 0) || (x.B != 0)))) (v := .slice (some ⟨b3, 0, none⟩) c1.Gates.length c1.Gates.length) rfl rfl (wt_f (gd_of (t := 64) (by kernel_rfl) rfl)) (fun hg4 => (Y_move (v := .slice (some ⟨b3, 0, none⟩) c1.Gates.length c1.Gates.length) rfl (hf.get 10 4 rfl))) ?_
          refine sgq 67 (B := (!((x.A != 0) || (x.B != 0)))) (v := pt (some ⟨b4, 0, none⟩) 0) rfl rfl (wt_f (gd_of (t := 64) (by kernel_rfl) rfl)) (fun hg5 => (Y_fieldAddr (B := some ⟨b4, 0, none⟩) (i := 0) (s := 0) k_fd_211_0_0_3 k_sz_3_1 rfl rfl)) ?_
          refine sgq 68 (B := (!((x.A != 0) || (x.B != 0)))) (v := .int .i64 x.Gate) rfl rfl (wt_f (gd_of (t := 64) (by kernel_rfl) rfl)) (fun hg6 => (Y_load1 (B := some ⟨b4, 0, none⟩) (i := 0) (cs := [.int .i64 x.Gate, .int .i64 x.A, .int .i64 x.B]) (v := .int .i64 x.Gate) k_sc_3 rfl (gv_of (B := (!((x.A != 0) || (x.B != 0)))) (v := pt (some ⟨b4, 0, none⟩) 0) hg6) (hS11.cf (i := 5) rfl) rfl)) ?_
          obtain ⟨r_8, hc4, hF8⟩ := bind_inv hF8
          refine sgc 69 (B := (!((x.A != 0) || (x.B != 0)))) (v := .bool r_8) (F := hS11.fn) rfl rfl (wt_f (gd_of (t := 64) (by kernel_rfl) rfl)) hS11 (fun hg7 => (Yc_func (g := 237) (vs := [.agg #[.int .i64 c1.Qubits, .slice B1 c1.Gates.length c2], .slice (some ⟨b3, 0, none⟩) c1.Gates.length c1.Gates.length, .int .i64 x.Gate]) k_call_237 rfl (mc (gv_of (B := (!((x.A != 0) || (x.B != 0)))) (v := .agg #[.int .i64 c1.Qubits, .slice B1 c1.Gates.length c2]) hg7) (mc (gv_of (B := (!((x.A != 0) || (x.B != 0)))) (v := .slice (some ⟨b3, 0, none⟩) c1.Gates.length c1.Gates.length) hg7) (mc (gv_of (B := (!((x.A != 0) || (x.B != 0)))) (v := .int .i64 x.Gate) hg7) mn))) (CV.mono (c_spec_l23Ready c1 done x.Gate B1 c2 c1.Gates.length (some ⟨b3, 0, none⟩) c1.Gates.length c1.Gates.length _ rfl hl (hS11.inn0 [(true, 1), (false, 4)] rfl) (gb_inv hc4 hg7)) (by rintro _ _ ⟨rfl, h⟩; exact ⟨rfl, hS11.out00 h⟩)))) ?_
          rintro w_10 hS15
          have hS15 : ST _ _ w_10 _ _ := hS15
          refine sgq 70 (B := (!((x.A != 0) || (x.B != 0)))) (v := .bool (!r_8)) rfl rfl (wt_f (gd_of (t := 64) (by kernel_rfl) rfl)) (fun hg8 => (Y_not (p := r_8) rfl (gv_of (B := (!((x.A != 0) || (x.B != 0)))) (v := .bool r_8) hg8))) ?_
          refine sq 71 rfl rfl (Y_or (b := ((x.A != 0) || (x.B != 0))) (z := (!r_8)) rfl rfl rfl rfl) ?_
          refine rw_nil ?_
          refine cw_cond (b := (((x.A != 0) || (x.B != 0)) || (!r_8))) rfl (fun hb4 => ?_) (fun hb4 => ?_)
          · skip
            have hF9 := ct hF8 hb4
            refine cw_seq ?_
            refine cw_region ?_
            refine sq 72 rfl rfl (Y_move (v := .int .i64 (i : Int)) rfl rfl) ?_
            refine sq 6 rfl rfl (Y_assign (v := .int .i64 3) rfl rfl) ?_
            refine sq 7 rfl rfl (Y_assign (v := .int .i64 (i : Int)) rfl rfl) ?_
            refine sq 8 rfl rfl (Y_assign (v := .slice none 0 0) rfl rfl) ?_
            refine rw_nil ?_
            refine cw_ret ?_
            have hS16 := hS15.addNil 3
            obtain rfl := some_inj hF9
            obtain rfl := some_inj hF4
            obtain rfl := some_inj hL1
            obtain ⟨rfl, rfl, rfl⟩ := pr3 (some_inj hF3)
            exact ret3 Try.results149 (v1 := .int .i64 3) (resAt_tmp rfl) (v2 := .int .i64 (i : Int)) (resAt_tmp rfl) (v3 := .slice none 0 0) (resAt_tmp rfl) ⟨none, 0, rfl, (ST.subR (R' := []) (hS16.sel [6] rfl rfl) (fun _ h => by cases h))⟩
          · skip
            have hF10 := cf' hF8 hb4
            refine cw_skip ?_
            refine cw_seq ?_
            refine cw_seq ?_
            obtain ⟨x1, hx1, hF10⟩ := bind_inv hF10
            obtain ⟨r_9, hc5, hF10⟩ := bind_inv hF10
            refine ra_start (ST.sel hS15 [0, 1, 2, 3, 4, 5] rfl rfl).fn (by kernel_rfl) ?_
            have hS18 := hS15.drew
            refine ra_q 0 73 (v := .agg #[.int .i64 g.Nodes, .slice B g.Edges.length c]) rfl rfl rfl (by kernel_rfl) (by kernel_rfl) (by kernel_rfl) (ST.sel hS18 [0, 1, 2, 3, 4, 5] rfl rfl) (fun w' hw' => (Y_loadA (B := some ⟨b, 0, none⟩) (i := 0) (cs := [.int .i64 g.Nodes, .slice B g.Edges.length c]) (vs := [.int .i64 g.Nodes, .slice B g.Edges.length c]) k_ag_100 k_sz_100_2 rfl (hf.get 3 0 rfl) (ST.cf hw' (i := 0) rfl) rfl rfl)) ?_
            refine ra_q 1 74 (v := .slice B6 place.length c7) rfl rfl rfl (by kernel_rfl) (by kernel_rfl) (by kernel_rfl) (ST.sel hS18 [0, 1, 2, 3, 4, 5] rfl rfl) (fun w' hw' => (Y_move (v := .slice B6 place.length c7) rfl (hf.get 9 3 rfl))) ?_
            refine ra_q 2 75 (v := pt (some ⟨b1, 0, none⟩) 1) rfl rfl rfl (by kernel_rfl) (by kernel_rfl) (by kernel_rfl) (ST.sel hS18 [0, 1, 2, 3, 4, 5] rfl rfl) (fun w' hw' => (Y_fieldAddr (B := some ⟨b1, 0, none⟩) (i := 0) (s := 0) k_fd_104_1_1_102 k_sz_102_1 rfl (hf.get 4 1 rfl))) ?_
            refine ra_q 3 76 (v := .slice B1 c1.Gates.length c2) rfl rfl rfl (by kernel_rfl) (by kernel_rfl) (by kernel_rfl) (ST.sel hS18 [0, 1, 2, 3, 4, 5] rfl rfl) (fun w' hw' => (Y_load1 (B := some ⟨b1, 0, none⟩) (i := 1) (cs := [.int .i64 c1.Qubits, .slice B1 c1.Gates.length c2]) (v := .slice B1 c1.Gates.length c2) k_sc_102 rfl rfl (ST.cf hw' (i := 1) rfl) rfl)) ?_
            refine ra_q 4 77 (v := pt (some ⟨b4, 0, none⟩) 0) rfl rfl rfl (by kernel_rfl) (by kernel_rfl) (by kernel_rfl) (ST.sel hS18 [0, 1, 2, 3, 4, 5] rfl rfl) (fun w' hw' => (Y_fieldAddr (B := some ⟨b4, 0, none⟩) (i := 0) (s := 0) k_fd_211_0_0_3 k_sz_3_1 rfl rfl)) ?_
            refine ra_q 5 78 (v := .int .i64 x.Gate) rfl rfl rfl (by kernel_rfl) (by kernel_rfl) (by kernel_rfl) (ST.sel hS18 [0, 1, 2, 3, 4, 5] rfl rfl) (fun w' hw' => (Y_load1 (B := some ⟨b4, 0, none⟩) (i := 0) (cs := [.int .i64 x.Gate, .int .i64 x.A, .int .i64 x.B]) (v := .int .i64 x.Gate) k_sc_3 rfl rfl (ST.cf hw' (i := 5) rfl) rfl)) ?_
            refine ra_q 6 79 (v := pt B1 (x.Gate.toNat * 3)) rfl rfl rfl (by kernel_rfl) (by kernel_rfl) (by kernel_rfl) (ST.sel hS18 [0, 1, 2, 3, 4, 5] rfl rfl) (fun w' hw' => (Y_index (B := B1) (m := c1.Gates.length) (c := c2) (k := .i64) (i := x.Gate) k_sl_102_213 k_sz_213_3 rfl rfl rfl (gi_isSome enc_Gate_len rfl (ST.rf hw' (i := 1) rfl) hx1) (getI_nn hx1) (getI_ltI hx1 rfl))) ?_
            refine ra_q 7 80 (v := .agg #[.int .i64 x1.Kind, .int .i64 x1.A, .int .i64 x1.B]) rfl rfl rfl (by kernel_rfl) (by kernel_rfl) (by kernel_rfl) (ST.sel hS18 [0, 1, 2, 3, 4, 5] rfl rfl) (fun w' hw' => (Y_loadA (B := B1) (i := x.Gate.toNat * 3) (cs := (c1.Gates.flatMap enc_Gate)) (vs := [.int .i64 x1.Kind, .int .i64 x1.A, .int .i64 x1.B]) k_ag_213 k_sz_213_3 rfl rfl (ST.rf hw' (i := 1) rfl) (enc_Gate_len x1) (gi_seg enc_Gate_len hx1))) ?_
            refine ra_all (rs := [8]) (by kernel_rfl) rfl ?_
            refine ra_c 81 (i := 8) rfl rfl rfl (Yc_func (g := 238) (vs := [.agg #[.int .i64 g.Nodes, .slice B g.Edges.length c], .slice B6 place.length c7, .agg #[.int .i64 x1.Kind, .int .i64 x1.A, .int .i64 x1.B]]) k_call_238 rfl (mc rfl (mc rfl (mc rfl mn))) (c_spec_l23Near g place x1 B c g.Edges.length B6 c7 place.length _ rfl rfl (hS18.inn0 [(true, 0), (false, 3)] rfl) hc5)) ?_ ?_
            · rintro _ w_11 ⟨rfl, hd4⟩
              have hS19 := hS18.out00 hd4
              have hS19 : ST w0 [] _ [⟨some ⟨b, 0, none⟩, 100, [.int .i64 g.Nodes, .slice B g.Edges.length c], 2⟩, ⟨some ⟨b1, 0, none⟩, 104, [.int .i64 c1.Qubits, .slice B1 c1.Gates.length c2], 2⟩, ⟨some ⟨b2, 0, none⟩, 108, [.slice B2 r_.Start.length c3, .slice B3 r_.Steps.length c4], 2⟩, ⟨B6, 3, (place.flatMap encI), c7 * 1⟩, ⟨some ⟨b3, 0, none⟩, 4, (done.flatMap encB), c1.Gates.length * 1⟩, ⟨some ⟨b4, 0, none⟩, 211, [.int .i64 x.Gate, .int .i64 x.A, .int .i64 x.B], 3⟩] [⟨B, (g.Edges.flatMap enc_Edge)⟩, ⟨B1, (c1.Gates.flatMap enc_Gate)⟩, ⟨B2, (r_.Start.flatMap encI)⟩, ⟨B3, (r_.Steps.flatMap enc_RouteStep)⟩] := hS19
              refine ⟨(ST.sel hS19 [0, 1, 2, 3, 4, 5] rfl rfl), ?_⟩
              refine ra_q 9 82 (v := .bool (!r_9)) rfl rfl rfl (by kernel_rfl) (by kernel_rfl) (by kernel_rfl) (ST.sel hS19 [0, 1, 2, 3, 4, 5] rfl rfl) (fun w' hw' => (Y_not (p := r_9) rfl rfl)) ?_
              refine ra_done (by kernel_rfl) ?_
              refine cw_cond (b := (!r_9)) rfl (fun hb5 => ?_) (fun hb5 => ?_)
              · skip
                have hF11 := ct hF10 hb5
                refine cw_seq ?_
                refine cw_region ?_
                refine sq 83 rfl rfl (Y_move (v := .int .i64 (i : Int)) rfl rfl) ?_
                refine sq 6 rfl rfl (Y_assign (v := .int .i64 4) rfl rfl) ?_
                refine sq 7 rfl rfl (Y_assign (v := .int .i64 (i : Int)) rfl rfl) ?_
                refine sq 8 rfl rfl (Y_assign (v := .slice none 0 0) rfl rfl) ?_
                refine rw_nil ?_
                refine cw_ret ?_
                have hS20 := hS19.addNil 3
                obtain rfl := some_inj hF11
                obtain rfl := some_inj hF4
                obtain rfl := some_inj hL1
                obtain ⟨rfl, rfl, rfl⟩ := pr3 (some_inj hF3)
                exact ret3 Try.results149 (v1 := .int .i64 4) (resAt_tmp rfl) (v2 := .int .i64 (i : Int)) (resAt_tmp rfl) (v3 := .slice none 0 0) (resAt_tmp rfl) ⟨none, 0, rfl, (ST.subR (R' := []) (hS20.sel [6] rfl rfl) (fun _ h => by cases h))⟩
              · skip
                have hF12 := cf' hF10 hb5
                refine cw_skip ?_
                refine cw_seq ?_
                refine cw_region ?_
                refine sq 84 rfl rfl (Y_move (v := .slice (some ⟨b3, 0, none⟩) c1.Gates.length c1.Gates.length) rfl (hf.get 10 4 rfl)) ?_
                refine sq 85 rfl rfl (Y_fieldAddr (B := some ⟨b4, 0, none⟩) (i := 0) (s := 0) k_fd_211_0_0_3 k_sz_3_1 rfl rfl) ?_
                refine sq 86 rfl rfl (Y_load1 (B := some ⟨b4, 0, none⟩) (i := 0) (cs := [.int .i64 x.Gate, .int .i64 x.A, .int .i64 x.B]) (v := .int .i64 x.Gate) k_sc_3 rfl rfl (hS19.cf (i := 5) rfl) rfl) ?_
                obtain ⟨x2, hx2, hF12⟩ := bind_inv hF12
                refine sq 87 rfl rfl (Y_index (B := some ⟨b3, 0, none⟩) (m := c1.Gates.length) (c := c1.Gates.length) (k := .i64) (i := x.Gate) k_sl_199_4 k_sz_4_1 rfl rfl rfl (gi_isSome encB_len rfl (hS19.cf (i := 4) rfl) hx2) (getI_nn hx2) (getI_ltI hx2 hl)) ?_
                refine ss0 rfl rfl (Ys_store (i := 4) (s := 1) (B := some ⟨b3, 0, none⟩) (T' := 4) (v := .bool true) (vs := [.bool true]) (k := x.Gate.toNat * 1) (cs' := ((done.set x.Gate.toNat true).flatMap encB)) hS19 k_sz_4_1 rfl rfl rfl rfl rfl rfl rfl (gi_fit0 encB_len hx2) (gi_set encB_len hx2 true rfl) rfl) ?_
                rintro _ w_12 ⟨rfl, hS21⟩
                have hS21 : ST w0 [] _ [⟨some ⟨b, 0, none⟩, 100, [.int .i64 g.Nodes, .slice B g.Edges.length c], 2⟩, ⟨some ⟨b1, 0, none⟩, 104, [.int .i64 c1.Qubits, .slice B1 c1.Gates.length c2], 2⟩, ⟨some ⟨b2, 0, none⟩, 108, [.slice B2 r_.Start.length c3, .slice B3 r_.Steps.length c4], 2⟩, ⟨B6, 3, (place.flatMap encI), c7 * 1⟩, ⟨some ⟨b3, 0, none⟩, 4, ((done.set x.Gate.toNat true).flatMap encB), c1.Gates.length * 1⟩, ⟨some ⟨b4, 0, none⟩, 211, [.int .i64 x.Gate, .int .i64 x.A, .int .i64 x.B], 3⟩] [⟨B, (g.Edges.flatMap enc_Edge)⟩, ⟨B1, (c1.Gates.flatMap enc_Gate)⟩, ⟨B2, (r_.Start.flatMap encI)⟩, ⟨B3, (r_.Steps.flatMap enc_RouteStep)⟩] := hS21
                refine rw_nil ?_
                refine cw_region ?_
                refine sq 88 rfl rfl (Y_move (v := .int .i64 left) rfl (hf.get 11 5 rfl)) ?_
                refine sq 89 rfl rfl (Y_sub (k := .i64) (a := left) (b := 1) rfl rfl rfl) ?_
                refine sq 11 rfl rfl (Y_assign (v := .int .i64 (IntKind.i64.wrap (left - 1))) rfl rfl) ?_
                refine rw_nil ?_
                exact ⟨place, (done.set x.Gate.toNat true), (IntKind.i64.wrap (left - 1)), B6, c7, (some_inj hF12), (FF.cons (hf.get 3 0 rfl) (FF.cons (hf.get 4 1 rfl) (FF.cons (hf.get 5 2 rfl) (FF.cons (hf.get 9 3 rfl) (FF.cons (hf.get 10 4 rfl) (FF.cons rfl (FF.cons (hf.get 32 6 rfl) (FF.cons (hf.get 33 7 rfl) (FF.cons (hf.get 34 8 rfl) FF.nil))))))))), (set_len _ _ _ hl), (hS21.sel [0, 1, 2, 3, 4] rfl rfl)⟩
            exact allR_nil
      rintro f w ⟨place1, done1, left1, B7, c8, rfl, hf1, hl1, hS9⟩
      refine cw_region ?_
      refine sq 90 rfl rfl (Y_add (k := .i64) (a := (i : Int)) (b := 1) rfl (hf1.get 34 8 rfl) rfl) ?_
      refine sq 34 rfl rfl (Y_move (v := .int .i64 (IntKind.i64.wrap ((i : Int) + 1))) rfl rfl) ?_
      refine rw_nil ?_
      obtain rfl := some_inj hF4
      exact ⟨k_1, Nat.lt_succ_self _, i + 1, place1, done1, left1, B7, c8, (FF.cons (hf1.get 3 0 rfl) (FF.cons (hf1.get 4 1 rfl) (FF.cons (hf1.get 5 2 rfl) (FF.cons (hf1.get 9 3 rfl) (FF.cons (hf1.get 10 4 rfl) (FF.cons (hf1.get 11 5 rfl) (FF.cons (hf1.get 32 6 rfl) (FF.cons (hf1.get 33 7 rfl) (FF.cons (congrArg (Value.int .i64) (wr_succ hlt1 hN)) FF.nil))))))))), hl1, (hS9.sel [0, 1, 2, 3, 4] rfl rfl), (by omega), hL1⟩
    · skip
      obtain rfl : k_ = 0 := by have h := of_decide_eq_false hlt; omega
      refine cw_exit rfl ?_
      obtain rfl := some_inj hL
      refine cw_seq ?_
      refine cw_seq ?_
      refine cw_region ?_
      refine sq 91 rfl rfl (Y_move (v := .int .i64 left) rfl (hf.get 11 5 rfl)) ?_
      refine sq 92 rfl rfl (Y_gt (k := .i64) (a := left) (b := 0) rfl rfl rfl) ?_
      refine rw_nil ?_
      refine cw_cond (b := (decide (0 < left))) rfl (fun hb6 => ?_) (fun hb6 => ?_)
      · skip
        have hF13 := ct hF3 hb6
        refine cw_seq ?_
        refine ra_start (ST.sel hS8 [0, 1, 2, 3, 4] rfl rfl).fn (by kernel_rfl) ?_
        have hS22 := hS8.drew
        refine ra_q 0 93 (v := pt (some ⟨b2, 0, none⟩) 1) rfl rfl rfl (by kernel_rfl) (by kernel_rfl) (by kernel_rfl) (ST.sel hS22 [0, 1, 2, 3, 4] rfl rfl) (fun w' hw' => (Y_fieldAddr (B := some ⟨b2, 0, none⟩) (i := 0) (s := 0) k_fd_108_1_1_106 k_sz_106_1 rfl (hf.get 5 2 rfl))) ?_
        refine ra_q 1 94 (v := .slice B3 r_.Steps.length c4) rfl rfl rfl (by kernel_rfl) (by kernel_rfl) (by kernel_rfl) (ST.sel hS22 [0, 1, 2, 3, 4] rfl rfl) (fun w' hw' => (Y_load1 (B := some ⟨b2, 0, none⟩) (i := 1) (cs := [.slice B2 r_.Start.length c3, .slice B3 r_.Steps.length c4]) (v := .slice B3 r_.Steps.length c4) k_sc_106 rfl rfl (ST.cf hw' (i := 2) rfl) rfl)) ?_
        refine ra_q 2 95 (v := .int .i64 (r_.Steps.length : Int)) rfl rfl rfl (by kernel_rfl) (by kernel_rfl) (by kernel_rfl) (ST.sel hS22 [0, 1, 2, 3, 4] rfl rfl) (fun w' hw' => (Y_len (B := B3) (m := r_.Steps.length) (c := c4) k_sl_106_211 rfl rfl)) ?_
        refine ra_q 3 6 (v := .int .i64 5) rfl rfl rfl (by kernel_rfl) (by kernel_rfl) (by kernel_rfl) (ST.sel hS22 [0, 1, 2, 3, 4] rfl rfl) (fun w' hw' => (Y_assign (v := .int .i64 5) rfl rfl)) ?_
        refine ra_q 4 7 (v := .int .i64 (r_.Steps.length : Int)) rfl rfl rfl (by kernel_rfl) (by kernel_rfl) (by kernel_rfl) (ST.sel hS22 [0, 1, 2, 3, 4] rfl rfl) (fun w' hw' => (Y_assign (v := .int .i64 (r_.Steps.length : Int)) rfl rfl)) ?_
        refine ra_q 5 8 (v := .slice none 0 0) rfl rfl rfl (by kernel_rfl) (by kernel_rfl) (by kernel_rfl) (ST.sel hS22 [0, 1, 2, 3, 4] rfl rfl) (fun w' hw' => (Y_assign (v := .slice none 0 0) rfl rfl)) ?_
        refine ra_done (by kernel_rfl) ?_
        refine cw_ret ?_
        have hS23 := hS22.addNil 3
        obtain ⟨rfl, rfl, rfl⟩ := pr3 (some_inj hF13)
        exact ret3 Try.results149 (v1 := .int .i64 5) (resAt_tmp rfl) (v2 := .int .i64 (r_.Steps.length : Int)) (resAt_tmp rfl) (v3 := .slice none 0 0) (resAt_tmp rfl) ⟨none, 0, rfl, (ST.subR (R' := []) (hS23.sel [5] rfl rfl) (fun _ h => by cases h))⟩
      · skip
        have hF14 := cf' hF3 hb6
        refine cw_skip ?_
        refine cw_seq ?_
        refine cw_region ?_
        refine sq 96 rfl rfl (Y_move (v := .slice B6 place.length c7) rfl (hf.get 9 3 rfl)) ?_
        refine sq 6 rfl rfl (Y_assign (v := .int .i64 0) rfl rfl) ?_
        refine sq 7 rfl rfl (Y_assign (v := .int .i64 0) rfl rfl) ?_
        refine sq 8 rfl rfl (Y_assign (v := .slice B6 place.length c7) rfl rfl) ?_
        refine rw_nil ?_
        refine cw_ret ?_
        obtain ⟨rfl, rfl, rfl⟩ := pr3 (some_inj hF14)
        exact ret3 Try.results149 (v1 := .int .i64 0) (resAt_tmp rfl) (v2 := .int .i64 0) (resAt_tmp rfl) (v3 := .slice B6 place.length c7) (resAt_tmp rfl) ⟨B6, c7, rfl, (ST.subR (R' := []) (hS8.sel [3] rfl rfl) (fun _ h => by cases h))⟩

theorem c_spec_RouteCircuit (g : TCouplingGraph) (c1 : TCircuit) (r_ : TRoute) (B : Option Addr) (c n : Nat) (B1 : Option Addr) (c2 n1 : Nat) (B2 : Option Addr) (c3 n2 : Nat) (B3 : Option Addr) (c4 n3 : Nat) (w0 : World) (hn : g.Edges.length = n) (hn1 : c1.Gates.length = n1) (hn2 : r_.Start.length = n2) (hq : n2 ≤ c3) (hn3 : r_.Steps.length = n3) (hS : ST w0 (bl [⟨B2, 3, (r_.Start.flatMap encI), c3 * 1⟩]) w0 [⟨B2, 3, (r_.Start.flatMap encI), c3 * 1⟩] [⟨B, (g.Edges.flatMap enc_Edge)⟩, ⟨B1, (c1.Gates.flatMap enc_Gate)⟩, ⟨B3, (r_.Steps.flatMap enc_RouteStep)⟩]) {r_1 : TCircuit} {r_2 : Bool} (hF : F_spec_RouteCircuit g c1 r_ = some (r_1, r_2)) :
    CV Try.prog 70 #[.agg #[.int .i64 g.Nodes, .slice B n c], .agg #[.int .i64 c1.Qubits, .slice B1 n1 c2], .agg #[.slice B2 n2 c3, .slice B3 n3 c4]] w0 (fun v w' => ∃ (B4 : Option Addr) (c5 : Nat), v = .tuple #[.agg #[.int .i64 r_1.Qubits, .slice B4 r_1.Gates.length c5], .bool r_2] ∧ ST w0 (bl [⟨B2, 3, (r_.Start.flatMap encI), c3 * 1⟩]) w' [⟨B4, 213, (r_1.Gates.flatMap enc_Gate), c5 * 3⟩] []) := by
  subst hn
  subst hn1
  subst hn2
  subst hn3
  unfold F_spec_RouteCircuit at hF
  refine cv_of_cw 105 Try.func70 rfl Try.ntmps70 rfl ?_
  refine cw_seq ?_
  refine cw_region ?_
  refine ss 3 rfl rfl (Ys_box (T := 100) (v := .agg #[.int .i64 g.Nodes, .slice B g.Edges.length c]) (cs := [.int .i64 g.Nodes, .slice B g.Edges.length c]) (m := 2) hS rfl rfl rfl rfl) ?_
  rintro _ w_ ⟨b, rfl, hS1⟩
  have hS1 : ST w0 (bl [⟨B2, 3, (r_.Start.flatMap encI), c3 * 1⟩]) _ [⟨B2, 3, (r_.Start.flatMap encI), c3 * 1⟩, ⟨some ⟨b, 0, none⟩, 100, [.int .i64 g.Nodes, .slice B g.Edges.length c], 2⟩] [⟨B, (g.Edges.flatMap enc_Edge)⟩, ⟨B1, (c1.Gates.flatMap enc_Gate)⟩, ⟨B3, (r_.Steps.flatMap enc_RouteStep)⟩] := hS1
  refine ss 4 rfl rfl (Ys_box (T := 104) (v := .agg #[.int .i64 c1.Qubits, .slice B1 c1.Gates.length c2]) (cs := [.int .i64 c1.Qubits, .slice B1 c1.Gates.length c2]) (m := 2) hS1 rfl rfl rfl rfl) ?_
  rintro _ w_1 ⟨b1, rfl, hS2⟩
  have hS2 : ST w0 (bl [⟨B2, 3, (r_.Start.flatMap encI), c3 * 1⟩]) _ [⟨B2, 3, (r_.Start.flatMap encI), c3 * 1⟩, ⟨some ⟨b, 0, none⟩, 100, [.int .i64 g.Nodes, .slice B g.Edges.length c], 2⟩, ⟨some ⟨b1, 0, none⟩, 104, [.int .i64 c1.Qubits, .slice B1 c1.Gates.length c2], 2⟩] [⟨B, (g.Edges.flatMap enc_Edge)⟩, ⟨B1, (c1.Gates.flatMap enc_Gate)⟩, ⟨B3, (r_.Steps.flatMap enc_RouteStep)⟩] := hS2
  refine ss 5 rfl rfl (Ys_box (T := 108) (v := .agg #[.slice B2 r_.Start.length c3, .slice B3 r_.Steps.length c4]) (cs := [.slice B2 r_.Start.length c3, .slice B3 r_.Steps.length c4]) (m := 2) hS2 rfl rfl rfl rfl) ?_
  rintro _ w_2 ⟨b2, rfl, hS3⟩
  have hS3 : ST w0 (bl [⟨B2, 3, (r_.Start.flatMap encI), c3 * 1⟩]) _ [⟨B2, 3, (r_.Start.flatMap encI), c3 * 1⟩, ⟨some ⟨b, 0, none⟩, 100, [.int .i64 g.Nodes, .slice B g.Edges.length c], 2⟩, ⟨some ⟨b1, 0, none⟩, 104, [.int .i64 c1.Qubits, .slice B1 c1.Gates.length c2], 2⟩, ⟨some ⟨b2, 0, none⟩, 108, [.slice B2 r_.Start.length c3, .slice B3 r_.Steps.length c4], 2⟩] [⟨B, (g.Edges.flatMap enc_Edge)⟩, ⟨B1, (c1.Gates.flatMap enc_Gate)⟩, ⟨B3, (r_.Steps.flatMap enc_RouteStep)⟩] := hS3
  refine ss 6 rfl rfl (Ys_alloc (T := 104) (cs := [.int .i64 0, .slice none 0 0]) (m := 2) hS3 k_zero_104 rfl rfl rfl) ?_
  rintro _ w_3 ⟨b3, rfl, hS4⟩
  have hS4 : ST w0 (bl [⟨B2, 3, (r_.Start.flatMap encI), c3 * 1⟩]) _ [⟨B2, 3, (r_.Start.flatMap encI), c3 * 1⟩, ⟨some ⟨b, 0, none⟩, 100, [.int .i64 g.Nodes, .slice B g.Edges.length c], 2⟩, ⟨some ⟨b1, 0, none⟩, 104, [.int .i64 c1.Qubits, .slice B1 c1.Gates.length c2], 2⟩, ⟨some ⟨b2, 0, none⟩, 108, [.slice B2 r_.Start.length c3, .slice B3 r_.Steps.length c4], 2⟩, ⟨some ⟨b3, 0, none⟩, 104, [.int .i64 0, .slice none 0 0], 2⟩] [⟨B, (g.Edges.flatMap enc_Edge)⟩, ⟨B1, (c1.Gates.flatMap enc_Gate)⟩, ⟨B3, (r_.Steps.flatMap enc_RouteStep)⟩] := hS4
  refine sq 7 rfl rfl (Y_assign (v := .bool false) rfl rfl) ?_
  refine rw_nil ?_
  refine cw_seq ?_
  refine cw_seq ?_
  refine cw_region ?_
  refine sq 16 rfl rfl (Y_loadA (B := some ⟨b, 0, none⟩) (i := 0) (cs := [.int .i64 g.Nodes, .slice B g.Edges.length c]) (vs := [.int .i64 g.Nodes, .slice B g.Edges.length c]) k_ag_100 k_sz_100_2 rfl rfl (hS4.cf (i := 1) rfl) rfl rfl) ?_
  refine sq 17 rfl rfl (Y_loadA (B := some ⟨b1, 0, none⟩) (i := 0) (cs := [.int .i64 c1.Qubits, .slice B1 c1.Gates.length c2]) (vs := [.int .i64 c1.Qubits, .slice B1 c1.Gates.length c2]) k_ag_104 k_sz_104_2 rfl rfl (hS4.cf (i := 2) rfl) rfl rfl) ?_
  obtain ⟨r_3, hc, hF⟩ := bind_inv hF
  refine sc 18 rfl rfl (Yc_func (g := 148) (vs := [.agg #[.int .i64 g.Nodes, .slice B g.Edges.length c], .agg #[.int .i64 c1.Qubits, .slice B1 c1.Gates.length c2]]) k_call_148 rfl (mc rfl (mc rfl mn)) (c_spec_l23Fits g c1 B c g.Edges.length B1 c2 c1.Gates.length _ rfl rfl (hS4.inn0 [(true, 0), (true, 1)] rfl) hc)) ?_
  rintro _ w_4 ⟨rfl, hd⟩
  have hS5 := hS4.out00 hd
  have hS5 : ST w0 (bl [⟨B2, 3, (r_.Start.flatMap encI), c3 * 1⟩]) _ [⟨B2, 3, (r_.Start.flatMap encI), c3 * 1⟩, ⟨some ⟨b, 0, none⟩, 100, [.int .i64 g.Nodes, .slice B g.Edges.length c], 2⟩, ⟨some ⟨b1, 0, none⟩, 104, [.int .i64 c1.Qubits, .slice B1 c1.Gates.length c2], 2⟩, ⟨some ⟨b2, 0, none⟩, 108, [.slice B2 r_.Start.length c3, .slice B3 r_.Steps.length c4], 2⟩, ⟨some ⟨b3, 0, none⟩, 104, [.int .i64 0, .slice none 0 0], 2⟩] [⟨B, (g.Edges.flatMap enc_Edge)⟩, ⟨B1, (c1.Gates.flatMap enc_Gate)⟩, ⟨B3, (r_.Steps.flatMap enc_RouteStep)⟩] := hS5
  refine sq 19 rfl rfl (Y_not (p := r_3) rfl rfl) ?_
  refine sq 20 rfl rfl (Y_move (v := .bool (!r_3)) rfl rfl) ?_
  refine sgq 21 (B := (!(!r_3))) (v := pt (some ⟨b, 0, none⟩) 0) rfl rfl (wt_f (gd_of (t := 20) (by kernel_rfl) rfl)) (fun hg => (Y_fieldAddr (B := some ⟨b, 0, none⟩) (i := 0) (s := 0) k_fd_100_0_0_3 k_sz_3_1 rfl rfl)) ?_
  refine sgq 22 (B := (!(!r_3))) (v := .int .i64 g.Nodes) rfl rfl (wt_f (gd_of (t := 20) (by kernel_rfl) rfl)) (fun hg1 => (Y_load1 (B := some ⟨b, 0, none⟩) (i := 0) (cs := [.int .i64 g.Nodes, .slice B g.Edges.length c]) (v := .int .i64 g.Nodes) k_sc_3 rfl (gv_of (B := (!(!r_3))) (v := pt (some ⟨b, 0, none⟩) 0) hg1) (hS5.cf (i := 1) rfl) rfl)) ?_
  refine sgq 23 (B := (!(!r_3))) (v := .bool (decide (5 < g.Nodes))) rfl rfl (wt_f (gd_of (t := 20) (by kernel_rfl) rfl)) (fun hg2 => (Y_gt (k := .i64) (a := g.Nodes) (b := 5) rfl (gv_of (B := (!(!r_3))) (v := .int .i64 g.Nodes) hg2) rfl)) ?_
  refine sq 24 rfl rfl (Y_or (b := (!r_3)) (z := (decide (5 < g.Nodes))) rfl rfl rfl rfl) ?_
  refine sq 25 rfl rfl (Y_move (v := .bool ((!r_3) || (decide (5 < g.Nodes)))) rfl rfl) ?_
  refine sgq 26 (B := (!((!r_3) || (decide (5 < g.Nodes))))) (v := pt (some ⟨b2, 0, none⟩) 1) rfl rfl (wt_f (gd_of (t := 25) (by kernel_rfl) rfl)) (fun hg3 => (Y_fieldAddr (B := some ⟨b2, 0, none⟩) (i := 0) (s := 0) k_fd_108_1_1_106 k_sz_106_1 rfl rfl)) ?_
  refine sgq 27 (B := (!((!r_3) || (decide (5 < g.Nodes))))) (v := .slice B3 r_.Steps.length c4) rfl rfl (wt_f (gd_of (t := 25) (by kernel_rfl) rfl)) (fun hg4 => (Y_load1 (B := some ⟨b2, 0, none⟩) (i := 1) (cs := [.slice B2 r_.Start.length c3, .slice B3 r_.Steps.length c4]) (v := .slice B3 r_.Steps.length c4) k_sc_106 rfl (gv_of (B := (!((!r_3) || (decide (5 < g.Nodes))))) (v := pt (some ⟨b2, 0, none⟩) 1) hg4) (hS5.cf (i := 3) rfl) rfl)) ?_
  refine sgq 28 (B := (!((!r_3) || (decide (5 < g.Nodes))))) (v := .int .i64 (r_.Steps.length : Int)) rfl rfl (wt_f (gd_of (t := 25) (by kernel_rfl) rfl)) (fun hg5 => (Y_len (B := B3) (m := r_.Steps.length) (c := c4) k_sl_106_211 rfl (gv_of (B := (!((!r_3) || (decide (5 < g.Nodes))))) (v := .slice B3 r_.Steps.length c4) hg5))) ?_
  refine sgq 29 (B := (!((!r_3) || (decide (5 < g.Nodes))))) (v := .bool (decide (400 < (r_.Steps.length : Int)))) rfl rfl (wt_f (gd_of (t := 25) (by kernel_rfl) rfl)) (fun hg6 => (Y_gt (k := .i64) (a := (r_.Steps.length : Int)) (b := 400) rfl (gv_of (B := (!((!r_3) || (decide (5 < g.Nodes))))) (v := .int .i64 (r_.Steps.length : Int)) hg6) rfl)) ?_
  refine sq 30 rfl rfl (Y_or (b := ((!r_3) || (decide (5 < g.Nodes)))) (z := (decide (400 < (r_.Steps.length : Int)))) rfl rfl rfl rfl) ?_
  refine rw_nil ?_
  refine cw_cond (b := (((!r_3) || (decide (5 < g.Nodes))) || (decide (400 < (r_.Steps.length : Int))))) rfl (fun hb => ?_) (fun hb => ?_)
  · skip
    have hF1 := ct hF hb
    refine cw_seq ?_
    refine cw_region ?_
    refine sq 31 rfl rfl (Y_buildS (zs := [.int .i64 0, .slice none 0 0]) (vs := []) (cs := [.int .i64 0, .slice none 0 0]) k_pl_104 k_zero_104 rfl mpn rfl) ?_
    refine ss0 rfl rfl (Ys_store (i := 4) (s := 2) (B := some ⟨b3, 0, none⟩) (T' := 104) (v := .agg #[.int .i64 0, .slice none 0 0]) (vs := [.int .i64 0, .slice none 0 0]) (k := 0) (cs' := [.int .i64 0, .slice none 0 0]) hS5 k_sz_104_2 rfl rfl rfl rfl rfl rfl rfl (Nat.le_of_ble_eq_true rfl) rfl rfl) ?_
    rintro _ w_5 ⟨rfl, hS6⟩
    have hS6 : ST w0 (bl [⟨B2, 3, (r_.Start.flatMap encI), c3 * 1⟩]) _ [⟨B2, 3, (r_.Start.flatMap encI), c3 * 1⟩, ⟨some ⟨b, 0, none⟩, 100, [.int .i64 g.Nodes, .slice B g.Edges.length c], 2⟩, ⟨some ⟨b1, 0, none⟩, 104, [.int .i64 c1.Qubits, .slice B1 c1.Gates.length c2], 2⟩, ⟨some ⟨b2, 0, none⟩, 108, [.slice B2 r_.Start.length c3, .slice B3 r_.Steps.length c4], 2⟩, ⟨some ⟨b3, 0, none⟩, 104, [.int .i64 0, .slice none 0 0], 2⟩] [⟨B, (g.Edges.flatMap enc_Edge)⟩, ⟨B1, (c1.Gates.flatMap enc_Gate)⟩, ⟨B3, (r_.Steps.flatMap enc_RouteStep)⟩] := hS6
    refine sq 7 rfl rfl (Y_assign (v := .bool false) rfl rfl) ?_
    refine rw_nil ?_
    refine cw_ret ?_
    have hS7 := hS6.addNil 213
    obtain ⟨rfl, rfl⟩ := pr2 (some_inj hF1)
    exact ret2 Try.results70 (v1 := .agg #[.int .i64 0, .slice none 0 0]) (resAt_cellA (B := some ⟨b3, 0, none⟩) (i := 0) (cs := [.int .i64 0, .slice none 0 0]) (vs := [.int .i64 0, .slice none 0 0]) rfl k_ag_104 k_sz_104_2 (hS7.cf (i := 4) rfl) rfl rfl) (v2 := .bool false) (resAt_tmp rfl) ⟨none, 0, rfl, (ST.subR (R' := []) (hS7.sel [5] rfl rfl) (fun _ h => by cases h))⟩
  · skip
    have hF2 := cf' hF hb
    refine cw_skip ?_
    refine cw_seq ?_
    refine cw_seq ?_
    refine cw_region ?_
    refine sq 33 rfl rfl (Y_loadA (B := some ⟨b, 0, none⟩) (i := 0) (cs := [.int .i64 g.Nodes, .slice B g.Edges.length c]) (vs := [.int .i64 g.Nodes, .slice B g.Edges.length c]) k_ag_100 k_sz_100_2 rfl rfl (hS5.cf (i := 1) rfl) rfl rfl) ?_
    refine sq 34 rfl rfl (Y_loadA (B := some ⟨b1, 0, none⟩) (i := 0) (cs := [.int .i64 c1.Qubits, .slice B1 c1.Gates.length c2]) (vs := [.int .i64 c1.Qubits, .slice B1 c1.Gates.length c2]) k_ag_104 k_sz_104_2 rfl rfl (hS5.cf (i := 2) rfl) rfl rfl) ?_
    refine sq 35 rfl rfl (Y_loadA (B := some ⟨b2, 0, none⟩) (i := 0) (cs := [.slice B2 r_.Start.length c3, .slice B3 r_.Steps.length c4]) (vs := [.slice B2 r_.Start.length c3, .slice B3 r_.Steps.length c4]) k_ag_108 k_sz_108_2 rfl rfl (hS5.cf (i := 3) rfl) rfl rfl) ?_
    obtain ⟨⟨r_4, r_5, r_6⟩, hc1, hF2⟩ := bind_inv hF2
    refine sc 36 rfl rfl (Yc_func (g := 149) (vs := [.agg #[.int .i64 g.Nodes, .slice B g.Edges.length c], .agg #[.int .i64 c1.Qubits, .slice B1 c1.Gates.length c2], .agg #[.slice B2 r_.Start.length c3, .slice B3 r_.Steps.length c4]]) k_call_149 rfl (mc rfl (mc rfl (mc rfl mn))) (c_spec_l23Play g c1 r_ B c g.Edges.length B1 c2 c1.Gates.length B2 c3 r_.Start.length B3 c4 r_.Steps.length _ rfl rfl rfl (hS5.lencap (i := 0) rfl (fm_lenn (l := r_.Start) encI_len rfl) rfl rfl) rfl (hS5.inn0 [(true, 0), (true, 1), (false, 0), (true, 2)] rfl) hc1)) ?_
    rintro _ w_6 ⟨B5, c6, rfl, hd1⟩
    have hS8 := hS5.out0 hd1
    have hS8 : ST w0 (bl [⟨B2, 3, (r_.Start.flatMap encI), c3 * 1⟩]) _ [⟨B2, 3, (r_.Start.flatMap encI), c3 * 1⟩, ⟨some ⟨b, 0, none⟩, 100, [.int .i64 g.Nodes, .slice B g.Edges.length c], 2⟩, ⟨some ⟨b1, 0, none⟩, 104, [.int .i64 c1.Qubits, .slice B1 c1.Gates.length c2], 2⟩, ⟨some ⟨b2, 0, none⟩, 108, [.slice B2 r_.Start.length c3, .slice B3 r_.Steps.length c4], 2⟩, ⟨some ⟨b3, 0, none⟩, 104, [.int .i64 0, .slice none 0 0], 2⟩, ⟨B5, 3, (r_6.flatMap encI), c6 * 1⟩] [⟨B, (g.Edges.flatMap enc_Edge)⟩, ⟨B1, (c1.Gates.flatMap enc_Gate)⟩, ⟨B3, (r_.Steps.flatMap enc_RouteStep)⟩] := hS8
    refine sq 32 rfl rfl (Y_move (v := .tuple #[.int .i64 r_4, .int .i64 r_5, .slice B5 r_6.length c6]) rfl rfl) ?_
    refine sq 37 rfl rfl (Y_extract (v := .int .i64 r_4) rfl rfl rfl) ?_
    refine sq 38 rfl rfl (Y_extract (v := .int .i64 r_5) rfl rfl rfl) ?_
    refine sq 39 rfl rfl (Y_extract (v := .slice B5 r_6.length c6) rfl rfl rfl) ?_
    refine sq 8 rfl rfl (Y_assign (v := .int .i64 r_4) rfl rfl) ?_
    refine sq 9 rfl rfl (Y_assign (v := .int .i64 r_5) rfl rfl) ?_
    refine sq 10 rfl rfl (Y_assign (v := .slice B5 r_6.length c6) rfl rfl) ?_
    refine rw_nil ?_
    refine cw_seq ?_
    refine cw_region ?_
    refine sq 40 rfl rfl (Y_move (v := .int .i64 r_4) rfl rfl) ?_
    refine sq 41 rfl rfl (Y_ne (k := .i64) (a := r_4) (b := 0) rfl rfl rfl) ?_
    refine rw_nil ?_
    refine cw_cond (b := (r_4 != 0)) rfl (fun hb1 => ?_) (fun hb1 => ?_)
    · skip
      have hF3 := ct hF2 hb1
      refine cw_seq ?_
      refine cw_region ?_
      refine sq 42 rfl rfl (Y_buildS (zs := [.int .i64 0, .slice none 0 0]) (vs := []) (cs := [.int .i64 0, .slice none 0 0]) k_pl_104 k_zero_104 rfl mpn rfl) ?_
      refine ss0 rfl rfl (Ys_store (i := 4) (s := 2) (B := some ⟨b3, 0, none⟩) (T' := 104) (v := .agg #[.int .i64 0, .slice none 0 0]) (vs := [.int .i64 0, .slice none 0 0]) (k := 0) (cs' := [.int .i64 0, .slice none 0 0]) hS8 k_sz_104_2 rfl rfl rfl rfl rfl rfl rfl (Nat.le_of_ble_eq_true rfl) rfl rfl) ?_
      rintro _ w_7 ⟨rfl, hS9⟩
      have hS9 : ST w0 (bl [⟨B2, 3, (r_.Start.flatMap encI), c3 * 1⟩]) _ [⟨B2, 3, (r_.Start.flatMap encI), c3 * 1⟩, ⟨some ⟨b, 0, none⟩, 100, [.int .i64 g.Nodes, .slice B g.Edges.length c], 2⟩, ⟨some ⟨b1, 0, none⟩, 104, [.int .i64 c1.Qubits, .slice B1 c1.Gates.length c2], 2⟩, ⟨some ⟨b2, 0, none⟩, 108, [.slice B2 r_.Start.length c3, .slice B3 r_.Steps.length c4], 2⟩, ⟨some ⟨b3, 0, none⟩, 104, [.int .i64 0, .slice none 0 0], 2⟩, ⟨B5, 3, (r_6.flatMap encI), c6 * 1⟩] [⟨B, (g.Edges.flatMap enc_Edge)⟩, ⟨B1, (c1.Gates.flatMap enc_Gate)⟩, ⟨B3, (r_.Steps.flatMap enc_RouteStep)⟩] := hS9
      refine sq 7 rfl rfl (Y_assign (v := .bool false) rfl rfl) ?_
      refine rw_nil ?_
      refine cw_ret ?_
      have hS10 := hS9.addNil 213
      obtain ⟨rfl, rfl⟩ := pr2 (some_inj hF3)
      exact ret2 Try.results70 (v1 := .agg #[.int .i64 0, .slice none 0 0]) (resAt_cellA (B := some ⟨b3, 0, none⟩) (i := 0) (cs := [.int .i64 0, .slice none 0 0]) (vs := [.int .i64 0, .slice none 0 0]) rfl k_ag_104 k_sz_104_2 (hS10.cf (i := 4) rfl) rfl rfl) (v2 := .bool false) (resAt_tmp rfl) ⟨none, 0, rfl, (ST.subR (R' := []) (hS10.sel [6] rfl rfl) (fun _ h => by cases h))⟩
    · skip
      have hF4 := cf' hF2 hb1
      refine cw_skip ?_
      refine cw_seq ?_
      refine cw_region ?_
      refine sq 43 rfl rfl (Y_fieldAddr (B := some ⟨b, 0, none⟩) (i := 0) (s := 0) k_fd_100_0_0_3 k_sz_3_1 rfl rfl) ?_
      refine sq 44 rfl rfl (Y_load1 (B := some ⟨b, 0, none⟩) (i := 0) (cs := [.int .i64 g.Nodes, .slice B g.Edges.length c]) (v := .int .i64 g.Nodes) k_sc_3 rfl rfl (hS8.cf (i := 1) rfl) rfl) ?_
      refine sq 45 rfl rfl (Y_buildS (zs := [.int .i64 0, .slice none 0 0]) (vs := [(0, .int .i64 g.Nodes)]) (cs := [.int .i64 g.Nodes, .slice none 0 0]) k_pl_104 k_zero_104 rfl (mpc rfl mpn) rfl) ?_
      refine ss 11 rfl rfl (Ys_alloc (T := 104) (cs := [.int .i64 0, .slice none 0 0]) (m := 2) hS8 k_zero_104 rfl rfl rfl) ?_
      rintro _ w_8 ⟨b4, rfl, hS11⟩
      have hS11 : ST w0 (bl [⟨B2, 3, (r_.Start.flatMap encI), c3 * 1⟩]) _ [⟨B2, 3, (r_.Start.flatMap encI), c3 * 1⟩, ⟨some ⟨b, 0, none⟩, 100, [.int .i64 g.Nodes, .slice B g.Edges.length c], 2⟩, ⟨some ⟨b1, 0, none⟩, 104, [.int .i64 c1.Qubits, .slice B1 c1.Gates.length c2], 2⟩, ⟨some ⟨b2, 0, none⟩, 108, [.slice B2 r_.Start.length c3, .slice B3 r_.Steps.length c4], 2⟩, ⟨some ⟨b3, 0, none⟩, 104, [.int .i64 0, .slice none 0 0], 2⟩, ⟨B5, 3, (r_6.flatMap encI), c6 * 1⟩, ⟨some ⟨b4, 0, none⟩, 104, [.int .i64 0, .slice none 0 0], 2⟩] [⟨B, (g.Edges.flatMap enc_Edge)⟩, ⟨B1, (c1.Gates.flatMap enc_Gate)⟩, ⟨B3, (r_.Steps.flatMap enc_RouteStep)⟩] := hS11
      refine ss0 rfl rfl (Ys_store (i := 6) (s := 2) (B := some ⟨b4, 0, none⟩) (T' := 104) (v := .agg #[.int .i64 g.Nodes, .slice none 0 0]) (vs := [.int .i64 g.Nodes, .slice none 0 0]) (k := 0) (cs' := [.int .i64 g.Nodes, .slice none 0 0]) hS11 k_sz_104_2 rfl rfl rfl rfl rfl rfl rfl (Nat.le_of_ble_eq_true rfl) rfl rfl) ?_
      rintro _ w_9 ⟨rfl, hS12⟩
      have hS12 : ST w0 (bl [⟨B2, 3, (r_.Start.flatMap encI), c3 * 1⟩]) _ [⟨B2, 3, (r_.Start.flatMap encI), c3 * 1⟩, ⟨some ⟨b, 0, none⟩, 100, [.int .i64 g.Nodes, .slice B g.Edges.length c], 2⟩, ⟨some ⟨b1, 0, none⟩, 104, [.int .i64 c1.Qubits, .slice B1 c1.Gates.length c2], 2⟩, ⟨some ⟨b2, 0, none⟩, 108, [.slice B2 r_.Start.length c3, .slice B3 r_.Steps.length c4], 2⟩, ⟨some ⟨b3, 0, none⟩, 104, [.int .i64 0, .slice none 0 0], 2⟩, ⟨B5, 3, (r_6.flatMap encI), c6 * 1⟩, ⟨some ⟨b4, 0, none⟩, 104, [.int .i64 g.Nodes, .slice none 0 0], 2⟩] [⟨B, (g.Edges.flatMap enc_Edge)⟩, ⟨B1, (c1.Gates.flatMap enc_Gate)⟩, ⟨B3, (r_.Steps.flatMap enc_RouteStep)⟩] := hS12
      refine rw_nil ?_
      refine cw_seq ?_
      refine cw_region ?_
      refine sq 46 rfl rfl (Y_fieldAddr (B := some ⟨b2, 0, none⟩) (i := 0) (s := 0) k_fd_108_0_0_59 k_sz_59_1 rfl rfl) ?_
      refine sq 47 rfl rfl (Y_load1 (B := some ⟨b2, 0, none⟩) (i := 0) (cs := [.slice B2 r_.Start.length c3, .slice B3 r_.Steps.length c4]) (v := .slice B2 r_.Start.length c3) k_sc_59 rfl rfl (hS12.cf (i := 3) rfl) rfl) ?_
      refine sq 12 rfl rfl (Y_assign (v := .slice B2 r_.Start.length c3) rfl rfl) ?_
      refine rw_nil ?_
      refine cw_seq ?_
      refine cw_seq ?_
      refine cw_region ?_
      refine sq 48 rfl rfl (Y_fieldAddr (B := some ⟨b2, 0, none⟩) (i := 0) (s := 0) k_fd_108_1_1_106 k_sz_106_1 rfl rfl) ?_
      refine sq 49 rfl rfl (Y_load1 (B := some ⟨b2, 0, none⟩) (i := 1) (cs := [.slice B2 r_.Start.length c3, .slice B3 r_.Steps.length c4]) (v := .slice B3 r_.Steps.length c4) k_sc_106 rfl rfl (hS12.cf (i := 3) rfl) rfl) ?_
      refine sq 50 rfl rfl (Y_len (B := B3) (m := r_.Steps.length) (c := c4) k_sl_106_211 rfl rfl) ?_
      refine sq 51 rfl rfl (Y_move (v := .int .i64 0) rfl rfl) ?_
      refine rw_nil ?_
      obtain ⟨hN, hF4⟩ := chk_inv hF4
      obtain ⟨z, hz, hF5⟩ := bind_inv hF4
      have hS14 := hS12.addNil 213
      refine cw_block ?_
      refine cw_loop (fun k f w => ∃ (i : Nat) (Gates : List TGate) (place : List Int) (B6 : Option Addr) (c7 : Nat) (B7 : Option Addr) (c8 : Nat), FF f [(4, pt (some ⟨b1, 0, none⟩) 0), (6, pt (some ⟨b3, 0, none⟩) 0), (11, pt (some ⟨b4, 0, none⟩) 0), (12, .slice B7 place.length c8), (49, .slice B3 r_.Steps.length c4), (50, .int .i64 (r_.Steps.length : Int)), (51, .int .i64 (i : Int))] ∧ ST w0 (bl [⟨B2, 3, (r_.Start.flatMap encI), c3 * 1⟩]) w [⟨some ⟨b1, 0, none⟩, 104, [.int .i64 c1.Qubits, .slice B1 c1.Gates.length c2], 2⟩, ⟨some ⟨b3, 0, none⟩, 104, [.int .i64 0, .slice none 0 0], 2⟩, ⟨some ⟨b4, 0, none⟩, 104, [.int .i64 g.Nodes, .slice B6 Gates.length c7], 2⟩, ⟨B6, 213, (Gates.flatMap enc_Gate), c7 * 3⟩, ⟨B7, 3, (place.flatMap encI), c8 * 1⟩] [⟨B, (g.Edges.flatMap enc_Edge)⟩, ⟨B1, (c1.Gates.flatMap enc_Gate)⟩, ⟨B3, (r_.Steps.flatMap enc_RouteStep)⟩] ∧ i + k = r_.Steps.length ∧ forN (F_spec_RouteCircuit_l1 r_ c1) k i (Gates, place) = some z) r_.Steps.length ⟨0, [], r_.Start, none, 0, B2, c3, (FF.cons rfl (FF.cons rfl (FF.cons rfl (FF.cons rfl (FF.cons rfl (FF.cons rfl (FF.cons rfl FF.nil))))))), (hS14.sel [2, 4, 6, 7, 0] rfl rfl), Nat.zero_add _, hz⟩ ?_
      rintro k_ f w ⟨i, Gates, place, B6, c7, B7, c8, hf, hS13, hik, hL⟩
      refine cw_seq ?_
      refine cw_region ?_
      refine sq 52 rfl rfl (Y_lt (k := .i64) (a := (i : Int)) (b := (r_.Steps.length : Int)) rfl (hf.get 51 6 rfl) (hf.get 50 5 rfl)) ?_
      refine rw_nil ?_
      refine cw_seq ?_
      refine cw_cond (b := (decide ((i : Int) < (r_.Steps.length : Int)))) rfl (fun hlt => ?_) (fun hlt => ?_)
      · skip
        have hlt1 : i < r_.Steps.length := by have h := of_decide_eq_true hlt; omega
        obtain ⟨k_1, rfl⟩ : ∃ k2, k_ = k2 + 1 := ⟨k_ - 1, by omega⟩
        obtain ⟨y, hb2, hL1⟩ := forN_go hL
        unfold F_spec_RouteCircuit_l1 at hb2
        refine cw_skip ?_
        refine cw_seq ?_
        obtain ⟨z1, hz1, hF6⟩ := bind_inv hb2
        refine cw_mid (fun f w => ∃ (Gates1 : List TGate) (place1 : List Int) (B8 : Option Addr) (c9 : Nat) (B9 : Option Addr) (c10 : Nat), (Gates1, place1) = z1 ∧ FF f [(4, pt (some ⟨b1, 0, none⟩) 0), (6, pt (some ⟨b3, 0, none⟩) 0), (11, pt (some ⟨b4, 0, none⟩) 0), (12, .slice B9 place1.length c10), (49, .slice B3 r_.Steps.length c4), (50, .int .i64 (r_.Steps.length : Int)), (51, .int .i64 (i : Int))] ∧ ST w0 (bl [⟨B2, 3, (r_.Start.flatMap encI), c3 * 1⟩]) w [⟨some ⟨b1, 0, none⟩, 104, [.int .i64 c1.Qubits, .slice B1 c1.Gates.length c2], 2⟩, ⟨some ⟨b3, 0, none⟩, 104, [.int .i64 0, .slice none 0 0], 2⟩, ⟨some ⟨b4, 0, none⟩, 104, [.int .i64 g.Nodes, .slice B8 Gates1.length c9], 2⟩, ⟨B8, 213, (Gates1.flatMap enc_Gate), c9 * 3⟩, ⟨B9, 3, (place1.flatMap encI), c10 * 1⟩] [⟨B, (g.Edges.flatMap enc_Edge)⟩, ⟨B1, (c1.Gates.flatMap enc_Gate)⟩, ⟨B3, (r_.Steps.flatMap enc_RouteStep)⟩]) ?_ ?_
        · skip
          refine cw_block ?_
          refine cw_seq ?_
          refine cw_region ?_
          obtain ⟨x, hx, hz1⟩ := bind_inv hz1
          refine sq 53 rfl rfl (Y_index (B := B3) (m := r_.Steps.length) (c := c4) (k := .i64) (i := (i : Int)) k_sl_106_211 k_sz_211_3 rfl (hf.get 49 4 rfl) (hf.get 51 6 rfl) (gi_isSome enc_RouteStep_len rfl (hS13.rf (i := 2) rfl) hx) (getI_nn hx) (getI_ltI hx rfl)) ?_
          refine sq 54 rfl rfl (Y_loadA (B := B3) (i := (i : Int).toNat * 3) (cs := (r_.Steps.flatMap enc_RouteStep)) (vs := [.int .i64 x.Gate, .int .i64 x.A, .int .i64 x.B]) k_ag_211 k_sz_211_3 rfl rfl (hS13.rf (i := 2) rfl) (enc_RouteStep_len x) (gi_seg enc_RouteStep_len hx)) ?_
          refine ss 14 rfl rfl (Ys_alloc (T := 211) (cs := [.int .i64 0, .int .i64 0, .int .i64 0]) (m := 3) hS13 k_zero_211 rfl rfl rfl) ?_
          rintro _ w_10 ⟨b5, rfl, hS16⟩
          have hS16 : ST w0 (bl [⟨B2, 3, (r_.Start.flatMap encI), c3 * 1⟩]) _ [⟨some ⟨b1, 0, none⟩, 104, [.int .i64 c1.Qubits, .slice B1 c1.Gates.length c2], 2⟩, ⟨some ⟨b3, 0, none⟩, 104, [.int .i64 0, .slice none 0 0], 2⟩, ⟨some ⟨b4, 0, none⟩, 104, [.int .i64 g.Nodes, .slice B6 Gates.length c7], 2⟩, ⟨B6, 213, (Gates.flatMap enc_Gate), c7 * 3⟩, ⟨B7, 3, (place.flatMap encI), c8 * 1⟩, ⟨some ⟨b5, 0, none⟩, 211, [.int .i64 0, .int .i64 0, .int .i64 0], 3⟩] [⟨B, (g.Edges.flatMap enc_Edge)⟩, ⟨B1, (c1.Gates.flatMap enc_Gate)⟩, ⟨B3, (r_.Steps.flatMap enc_RouteStep)⟩] := hS16
          refine ss0 rfl rfl (Ys_store (i := 5) (s := 3) (B := some ⟨b5, 0, none⟩) (T' := 211) (v := .agg #[.int .i64 x.Gate, .int .i64 x.A, .int .i64 x.B]) (vs := [.int .i64 x.Gate, .int .i64 x.A, .int .i64 x.B]) (k := 0) (cs' := [.int .i64 x.Gate, .int .i64 x.A, .int .i64 x.B]) hS16 k_sz_211_3 rfl rfl rfl rfl rfl rfl rfl (Nat.le_of_ble_eq_true rfl) rfl rfl) ?_
          rintro _ w_11 ⟨rfl, hS17⟩
          have hS17 : ST w0 (bl [⟨B2, 3, (r_.Start.flatMap encI), c3 * 1⟩]) _ [⟨some ⟨b1, 0, none⟩, 104, [.int .i64 c1.Qubits, .slice B1 c1.Gates.length c2], 2⟩, ⟨some ⟨b3, 0, none⟩, 104, [.int .i64 0, .slice none 0 0], 2⟩, ⟨some ⟨b4, 0, none⟩, 104, [.int .i64 g.Nodes, .slice B6 Gates.length c7], 2⟩, ⟨B6, 213, (Gates.flatMap enc_Gate), c7 * 3⟩, ⟨B7, 3, (place.flatMap encI), c8 * 1⟩, ⟨some ⟨b5, 0, none⟩, 211, [.int .i64 x.Gate, .int .i64 x.A, .int .i64 x.B], 3⟩] [⟨B, (g.Edges.flatMap enc_Edge)⟩, ⟨B1, (c1.Gates.flatMap enc_Gate)⟩, ⟨B3, (r_.Steps.flatMap enc_RouteStep)⟩] := hS17
          refine rw_nil ?_
          refine cw_seq ?_
          refine cw_seq ?_
          refine cw_region ?_
          refine sq 55 rfl rfl (Y_fieldAddr (B := some ⟨b5, 0, none⟩) (i := 0) (s := 0) k_fd_211_0_0_3 k_sz_3_1 rfl rfl) ?_
          refine sq 56 rfl rfl (Y_load1 (B := some ⟨b5, 0, none⟩) (i := 0) (cs := [.int .i64 x.Gate, .int .i64 x.A, .int .i64 x.B]) (v := .int .i64 x.Gate) k_sc_3 rfl rfl (hS17.cf (i := 5) rfl) rfl) ?_
          refine sq 57 rfl rfl (Y_eq (k := .i64) (a := x.Gate) (b := (-1)) rfl rfl rfl) ?_
          refine rw_nil ?_
          refine cw_cond (b := (x.Gate == (-1))) rfl (fun hb3 => ?_) (fun hb3 => ?_)
          · skip
            have hF7 := ct hz1 hb3
            refine cw_seq ?_
            refine cw_region ?_
            refine sq 58 rfl rfl (Y_fieldAddr (B := some ⟨b4, 0, none⟩) (i := 0) (s := 0) k_fd_104_1_1_102 k_sz_102_1 rfl (hf.get 11 2 rfl)) ?_
            refine sq 59 rfl rfl (Y_load1 (B := some ⟨b4, 0, none⟩) (i := 1) (cs := [.int .i64 g.Nodes, .slice B6 Gates.length c7]) (v := .slice B6 Gates.length c7) k_sc_102 rfl rfl (hS17.cf (i := 2) rfl) rfl) ?_
            refine sq 60 rfl rfl (Y_fieldAddr (B := some ⟨b5, 0, none⟩) (i := 0) (s := 0) k_fd_211_1_1_3 k_sz_3_1 rfl rfl) ?_
            refine sq 61 rfl rfl (Y_load1 (B := some ⟨b5, 0, none⟩) (i := 1) (cs := [.int .i64 x.Gate, .int .i64 x.A, .int .i64 x.B]) (v := .int .i64 x.A) k_sc_3 rfl rfl (hS17.cf (i := 5) rfl) rfl) ?_
            refine sq 62 rfl rfl (Y_fieldAddr (B := some ⟨b5, 0, none⟩) (i := 0) (s := 0) k_fd_211_2_2_3 k_sz_3_1 rfl rfl) ?_
            refine sq 63 rfl rfl (Y_load1 (B := some ⟨b5, 0, none⟩) (i := 2) (cs := [.int .i64 x.Gate, .int .i64 x.A, .int .i64 x.B]) (v := .int .i64 x.B) k_sc_3 rfl rfl (hS17.cf (i := 5) rfl) rfl) ?_
            refine sq 64 rfl rfl (Y_buildS (zs := [.int .i64 0, .int .i64 0, .int .i64 0]) (vs := [(0, .int .i64 11), (1, .int .i64 x.A), (2, .int .i64 x.B)]) (cs := [.int .i64 11, .int .i64 x.A, .int .i64 x.B]) k_pl_213 k_zero_213 rfl (mpc rfl (mpc rfl (mpc rfl mpn))) rfl) ?_
            refine ss 65 rfl rfl (Ys_bslice (s := 3) (len := 1) (vs := [(0, .agg #[.int .i64 11, .int .i64 x.A, .int .i64 x.B])]) (cs := [.int .i64 11, .int .i64 x.A, .int .i64 x.B]) (zs := [.int .i64 0, .int .i64 0, .int .i64 0]) (m := 3) hS17 k_sl_102_213 k_sz_213_3 k_zc_213 rfl (mpc rfl mpn) rfl rfl rfl (by kernel_rfl) (by kernel_rfl) rfl) ?_
            rintro _ w_12 ⟨b6, rfl, hS18⟩
            have hS18 : ST w0 (bl [⟨B2, 3, (r_.Start.flatMap encI), c3 * 1⟩]) _ [⟨some ⟨b1, 0, none⟩, 104, [.int .i64 c1.Qubits, .slice B1 c1.Gates.length c2], 2⟩, ⟨some ⟨b3, 0, none⟩, 104, [.int .i64 0, .slice none 0 0], 2⟩, ⟨some ⟨b4, 0, none⟩, 104, [.int .i64 g.Nodes, .slice B6 Gates.length c7], 2⟩, ⟨B6, 213, (Gates.flatMap enc_Gate), c7 * 3⟩, ⟨B7, 3, (place.flatMap encI), c8 * 1⟩, ⟨some ⟨b5, 0, none⟩, 211, [.int .i64 x.Gate, .int .i64 x.A, .int .i64 x.B], 3⟩, ⟨some ⟨b6, 0, none⟩, 213, ([(TGate.mk 11 x.A x.B)].flatMap enc_Gate), 1 * 3⟩] [⟨B, (g.Edges.flatMap enc_Edge)⟩, ⟨B1, (c1.Gates.flatMap enc_Gate)⟩, ⟨B3, (r_.Steps.flatMap enc_RouteStep)⟩] := hS18
            obtain ⟨hap, hF7⟩ := chk_inv hF7
            refine ss 66 rfl rfl (Ys_append (s := 3) (by' := 24) (i := 3) (nn := Gates.length) (c := c7) (k := 1) (len := (Gates ++ [(TGate.mk 11 x.A x.B)]).length) (B := B6) (xs := ([(TGate.mk 11 x.A x.B)].flatMap enc_Gate)) (cs' := ((Gates ++ [(TGate.mk 11 x.A x.B)]).flatMap enc_Gate)) hS18 k_sl_102_213 k_sz_213_3 k_by_213_24 k_zero_213 rfl (by decide) rfl rfl rfl rfl (fm_lenn (l := Gates) enc_Gate_len rfl) rfl (hS18.cf (i := 6) rfl) (fm_lenn (l := [(TGate.mk 11 x.A x.B)]) enc_Gate_len rfl) (fm_one' (enc := enc_Gate) enc_Gate_one [(TGate.mk 11 x.A x.B)]) (by have := hap; omega) (by have := hap; simp only [maxLen]; omega) (fm_app _ _) (app_len (l := Gates) (l' := [(TGate.mk 11 x.A x.B)]) rfl rfl)) ?_
            rintro _ w_13 ⟨B10, c11, rfl, hS19⟩
            have hS19 : ST w0 (bl [⟨B2, 3, (r_.Start.flatMap encI), c3 * 1⟩]) _ [⟨some ⟨b1, 0, none⟩, 104, [.int .i64 c1.Qubits, .slice B1 c1.Gates.length c2], 2⟩, ⟨some ⟨b3, 0, none⟩, 104, [.int .i64 0, .slice none 0 0], 2⟩, ⟨some ⟨b4, 0, none⟩, 104, [.int .i64 g.Nodes, .slice B6 Gates.length c7], 2⟩, ⟨B10, 213, ((Gates ++ [(TGate.mk 11 x.A x.B)]).flatMap enc_Gate), c11 * 3⟩, ⟨B7, 3, (place.flatMap encI), c8 * 1⟩, ⟨some ⟨b5, 0, none⟩, 211, [.int .i64 x.Gate, .int .i64 x.A, .int .i64 x.B], 3⟩, ⟨some ⟨b6, 0, none⟩, 213, ([(TGate.mk 11 x.A x.B)].flatMap enc_Gate), 1 * 3⟩] [⟨B, (g.Edges.flatMap enc_Edge)⟩, ⟨B1, (c1.Gates.flatMap enc_Gate)⟩, ⟨B3, (r_.Steps.flatMap enc_RouteStep)⟩] := hS19
            refine sq 67 rfl rfl (Y_fieldAddr (B := some ⟨b4, 0, none⟩) (i := 0) (s := 0) k_fd_104_1_1_102 k_sz_102_1 rfl (hf.get 11 2 rfl)) ?_
            refine ss0 rfl rfl (Ys_store (i := 2) (s := 1) (B := some ⟨b4, 0, none⟩) (T' := 104) (v := .slice B10 ((Gates ++ [(TGate.mk 11 x.A x.B)]).length) c11) (vs := [.slice B10 ((Gates ++ [(TGate.mk 11 x.A x.B)]).length) c11]) (k := 1) (cs' := [.int .i64 g.Nodes, .slice B10 ((Gates ++ [(TGate.mk 11 x.A x.B)]).length) c11]) hS19 k_sz_102_1 rfl rfl rfl rfl rfl rfl rfl (Nat.le_of_ble_eq_true rfl) rfl rfl) ?_
            rintro _ w_14 ⟨rfl, hS20⟩
            have hS20 : ST w0 (bl [⟨B2, 3, (r_.Start.flatMap encI), c3 * 1⟩]) _ [⟨some ⟨b1, 0, none⟩, 104, [.int .i64 c1.Qubits, .slice B1 c1.Gates.length c2], 2⟩, ⟨some ⟨b3, 0, none⟩, 104, [.int .i64 0, .slice none 0 0], 2⟩, ⟨some ⟨b4, 0, none⟩, 104, [.int .i64 g.Nodes, .slice B10 ((Gates ++ [(TGate.mk 11 x.A x.B)]).length) c11], 2⟩, ⟨B10, 213, ((Gates ++ [(TGate.mk 11 x.A x.B)]).flatMap enc_Gate), c11 * 3⟩, ⟨B7, 3, (place.flatMap encI), c8 * 1⟩, ⟨some ⟨b5, 0, none⟩, 211, [.int .i64 x.Gate, .int .i64 x.A, .int .i64 x.B], 3⟩, ⟨some ⟨b6, 0, none⟩, 213, ([(TGate.mk 11 x.A x.B)].flatMap enc_Gate), 1 * 3⟩] [⟨B, (g.Edges.flatMap enc_Edge)⟩, ⟨B1, (c1.Gates.flatMap enc_Gate)⟩, ⟨B3, (r_.Steps.flatMap enc_RouteStep)⟩] := hS20
            refine rw_nil ?_
            refine cw_seq ?_
            refine cw_region ?_
            refine sq 68 rfl rfl (Y_move (v := .slice B7 place.length c8) rfl (hf.get 12 3 rfl)) ?_
            refine sq 69 rfl rfl (Y_fieldAddr (B := some ⟨b5, 0, none⟩) (i := 0) (s := 0) k_fd_211_1_1_3 k_sz_3_1 rfl rfl) ?_
            refine sq 70 rfl rfl (Y_load1 (B := some ⟨b5, 0, none⟩) (i := 1) (cs := [.int .i64 x.Gate, .int .i64 x.A, .int .i64 x.B]) (v := .int .i64 x.A) k_sc_3 rfl rfl (hS20.cf (i := 5) rfl) rfl) ?_
            refine sq 71 rfl rfl (Y_fieldAddr (B := some ⟨b5, 0, none⟩) (i := 0) (s := 0) k_fd_211_2_2_3 k_sz_3_1 rfl rfl) ?_
            refine sq 72 rfl rfl (Y_load1 (B := some ⟨b5, 0, none⟩) (i := 2) (cs := [.int .i64 x.Gate, .int .i64 x.A, .int .i64 x.B]) (v := .int .i64 x.B) k_sc_3 rfl rfl (hS20.cf (i := 5) rfl) rfl) ?_
            obtain ⟨r_7, hc2, hF7⟩ := bind_inv hF7
            refine sc 73 rfl rfl (Yc_func (g := 162) (vs := [.slice B7 place.length c8, .int .i64 x.A, .int .i64 x.B]) k_call_162 rfl (mc rfl (mc rfl (mc rfl mn))) (c_spec_l23Swap place x.A x.B B7 c8 place.length _ rfl (hS20.inn0 [(false, 4)] rfl) hc2)) ?_
            rintro _ w_15 ⟨B11, c12, rfl, hd2⟩
            have hS21 := hS20.out0 hd2
            have hS21 : ST w0 (bl [⟨B2, 3, (r_.Start.flatMap encI), c3 * 1⟩]) _ [⟨some ⟨b1, 0, none⟩, 104, [.int .i64 c1.Qubits, .slice B1 c1.Gates.length c2], 2⟩, ⟨some ⟨b3, 0, none⟩, 104, [.int .i64 0, .slice none 0 0], 2⟩, ⟨some ⟨b4, 0, none⟩, 104, [.int .i64 g.Nodes, .slice B10 ((Gates ++ [(TGate.mk 11 x.A x.B)]).length) c11], 2⟩, ⟨B10, 213, ((Gates ++ [(TGate.mk 11 x.A x.B)]).flatMap enc_Gate), c11 * 3⟩, ⟨B7, 3, (place.flatMap encI), c8 * 1⟩, ⟨some ⟨b5, 0, none⟩, 211, [.int .i64 x.Gate, .int .i64 x.A, .int .i64 x.B], 3⟩, ⟨some ⟨b6, 0, none⟩, 213, ([(TGate.mk 11 x.A x.B)].flatMap enc_Gate), 1 * 3⟩, ⟨B11, 3, (r_7.flatMap encI), c12 * 1⟩] [⟨B, (g.Edges.flatMap enc_Edge)⟩, ⟨B1, (c1.Gates.flatMap enc_Gate)⟩, ⟨B3, (r_.Steps.flatMap enc_RouteStep)⟩] := hS21
            refine sq 12 rfl rfl (Y_assign (v := .slice B11 r_7.length c12) rfl rfl) ?_
            refine rw_nil ?_
            refine cw_exit rfl ?_
            exact ⟨(Gates ++ [(TGate.mk 11 x.A x.B)]), r_7, B10, c11, B11, c12, (some_inj hF7), (FF.cons (hf.get 4 0 rfl) (FF.cons (hf.get 6 1 rfl) (FF.cons (hf.get 11 2 rfl) (FF.cons rfl (FF.cons (hf.get 49 4 rfl) (FF.cons (hf.get 50 5 rfl) (FF.cons (hf.get 51 6 rfl) FF.nil))))))), (hS21.sel [0, 1, 2, 3, 7] rfl rfl)⟩
          · skip
            have hF8 := cf' hz1 hb3
            refine cw_skip ?_
            refine cw_seq ?_
            refine cw_region ?_
            refine sq 74 rfl rfl (Y_fieldAddr (B := some ⟨b1, 0, none⟩) (i := 0) (s := 0) k_fd_104_1_1_102 k_sz_102_1 rfl (hf.get 4 0 rfl)) ?_
            refine sq 75 rfl rfl (Y_load1 (B := some ⟨b1, 0, none⟩) (i := 1) (cs := [.int .i64 c1.Qubits, .slice B1 c1.Gates.length c2]) (v := .slice B1 c1.Gates.length c2) k_sc_102 rfl rfl (hS17.cf (i := 0) rfl) rfl) ?_
            refine sq 76 rfl rfl (Y_fieldAddr (B := some ⟨b5, 0, none⟩) (i := 0) (s := 0) k_fd_211_0_0_3 k_sz_3_1 rfl rfl) ?_
            refine sq 77 rfl rfl (Y_load1 (B := some ⟨b5, 0, none⟩) (i := 0) (cs := [.int .i64 x.Gate, .int .i64 x.A, .int .i64 x.B]) (v := .int .i64 x.Gate) k_sc_3 rfl rfl (hS17.cf (i := 5) rfl) rfl) ?_
            obtain ⟨x1, hx1, hF8⟩ := bind_inv hF8
            refine sq 78 rfl rfl (Y_index (B := B1) (m := c1.Gates.length) (c := c2) (k := .i64) (i := x.Gate) k_sl_102_213 k_sz_213_3 rfl rfl rfl (gi_isSome enc_Gate_len rfl (hS17.rf (i := 1) rfl) hx1) (getI_nn hx1) (getI_ltI hx1 rfl)) ?_
            refine sq 79 rfl rfl (Y_loadA (B := B1) (i := x.Gate.toNat * 3) (cs := (c1.Gates.flatMap enc_Gate)) (vs := [.int .i64 x1.Kind, .int .i64 x1.A, .int .i64 x1.B]) k_ag_213 k_sz_213_3 rfl rfl (hS17.rf (i := 1) rfl) (enc_Gate_len x1) (gi_seg enc_Gate_len hx1)) ?_
            refine ss 15 rfl rfl (Ys_alloc (T := 213) (cs := [.int .i64 0, .int .i64 0, .int .i64 0]) (m := 3) hS17 k_zero_213 rfl rfl rfl) ?_
            rintro _ w_16 ⟨b7, rfl, hS22⟩
            have hS22 : ST w0 (bl [⟨B2, 3, (r_.Start.flatMap encI), c3 * 1⟩]) _ [⟨some ⟨b1, 0, none⟩, 104, [.int .i64 c1.Qubits, .slice B1 c1.Gates.length c2], 2⟩, ⟨some ⟨b3, 0, none⟩, 104, [.int .i64 0, .slice none 0 0], 2⟩, ⟨some ⟨b4, 0, none⟩, 104, [.int .i64 g.Nodes, .slice B6 Gates.length c7], 2⟩, ⟨B6, 213, (Gates.flatMap enc_Gate), c7 * 3⟩, ⟨B7, 3, (place.flatMap encI), c8 * 1⟩, ⟨some ⟨b5, 0, none⟩, 211, [.int .i64 x.Gate, .int .i64 x.A, .int .i64 x.B], 3⟩, ⟨some ⟨b7, 0, none⟩, 213, [.int .i64 0, .int .i64 0, .int .i64 0], 3⟩] [⟨B, (g.Edges.flatMap enc_Edge)⟩, ⟨B1, (c1.Gates.flatMap enc_Gate)⟩, ⟨B3, (r_.Steps.flatMap enc_RouteStep)⟩] := hS22
            refine ss0 rfl rfl (Ys_store (i := 6) (s := 3) (B := some ⟨b7, 0, none⟩) (T' := 213) (v := .agg #[.int .i64 x1.Kind, .int .i64 x1.A, .int .i64 x1.B]) (vs := [.int .i64 x1.Kind, .int .i64 x1.A, .int .i64 x1.B]) (k := 0) (cs' := [.int .i64 x1.Kind, .int .i64 x1.A, .int .i64 x1.B]) hS22 k_sz_213_3 rfl rfl rfl rfl rfl rfl rfl (Nat.le_of_ble_eq_true rfl) rfl rfl) ?_
            rintro _ w_17 ⟨rfl, hS23⟩
            have hS23 : ST w0 (bl [⟨B2, 3, (r_.Start.flatMap encI), c3 * 1⟩]) _ [⟨some ⟨b1, 0, none⟩, 104, [.int .i64 c1.Qubits, .slice B1 c1.Gates.length c2], 2⟩, ⟨some ⟨b3, 0, none⟩, 104, [.int .i64 0, .slice none 0 0], 2⟩, ⟨some ⟨b4, 0, none⟩, 104, [.int .i64 g.Nodes, .slice B6 Gates.length c7], 2⟩, ⟨B6, 213, (Gates.flatMap enc_Gate), c7 * 3⟩, ⟨B7, 3, (place.flatMap encI), c8 * 1⟩, ⟨some ⟨b5, 0, none⟩, 211, [.int .i64 x.Gate, .int .i64 x.A, .int .i64 x.B], 3⟩, ⟨some ⟨b7, 0, none⟩, 213, [.int .i64 x1.Kind, .int .i64 x1.A, .int .i64 x1.B], 3⟩] [⟨B, (g.Edges.flatMap enc_Edge)⟩, ⟨B1, (c1.Gates.flatMap enc_Gate)⟩, ⟨B3, (r_.Steps.flatMap enc_RouteStep)⟩] := hS23
            refine rw_nil ?_
            refine cw_seq ?_
            obtain ⟨z2, hz2, hF9⟩ := bind_inv hF8
            refine cw_mid (fun f w => ∃ (B12 : Int), B12 = z2 ∧ FF f [(4, pt (some ⟨b1, 0, none⟩) 0), (6, pt (some ⟨b3, 0, none⟩) 0), (11, pt (some ⟨b4, 0, none⟩) 0), (12, .slice B7 place.length c8), (15, pt (some ⟨b7, 0, none⟩) 0), (49, .slice B3 r_.Steps.length c4), (50, .int .i64 (r_.Steps.length : Int)), (51, .int .i64 (i : Int))] ∧ ST w0 (bl [⟨B2, 3, (r_.Start.flatMap encI), c3 * 1⟩]) w [⟨some ⟨b1, 0, none⟩, 104, [.int .i64 c1.Qubits, .slice B1 c1.Gates.length c2], 2⟩, ⟨some ⟨b3, 0, none⟩, 104, [.int .i64 0, .slice none 0 0], 2⟩, ⟨some ⟨b4, 0, none⟩, 104, [.int .i64 g.Nodes, .slice B6 Gates.length c7], 2⟩, ⟨B6, 213, (Gates.flatMap enc_Gate), c7 * 3⟩, ⟨B7, 3, (place.flatMap encI), c8 * 1⟩, ⟨some ⟨b7, 0, none⟩, 213, [.int .i64 x1.Kind, .int .i64 x1.A, .int .i64 B12], 3⟩] [⟨B, (g.Edges.flatMap enc_Edge)⟩, ⟨B1, (c1.Gates.flatMap enc_Gate)⟩, ⟨B3, (r_.Steps.flatMap enc_RouteStep)⟩]) ?_ ?_
            · skip
              refine cw_seq ?_
              refine cw_region ?_
              refine sq 80 rfl rfl (Y_loadA (B := some ⟨b7, 0, none⟩) (i := 0) (cs := [.int .i64 x1.Kind, .int .i64 x1.A, .int .i64 x1.B]) (vs := [.int .i64 x1.Kind, .int .i64 x1.A, .int .i64 x1.B]) k_ag_213 k_sz_213_3 rfl rfl (hS23.cf (i := 6) rfl) rfl rfl) ?_
              obtain ⟨r_8, hc3, hz2⟩ := bind_inv hz2
              refine sc 81 rfl rfl (Yc_func (g := 163) (vs := [.agg #[.int .i64 x1.Kind, .int .i64 x1.A, .int .i64 x1.B]]) k_call_163 rfl (mc rfl mn) (c_spec_l22Two x1 _  (hS23.inn0 [] rfl) hc3)) ?_
              rintro _ w_18 ⟨rfl, hd3⟩
              have hS25 := hS23.out00 hd3
              have hS25 : ST w0 (bl [⟨B2, 3, (r_.Start.flatMap encI), c3 * 1⟩]) _ [⟨some ⟨b1, 0, none⟩, 104, [.int .i64 c1.Qubits, .slice B1 c1.Gates.length c2], 2⟩, ⟨some ⟨b3, 0, none⟩, 104, [.int .i64 0, .slice none 0 0], 2⟩, ⟨some ⟨b4, 0, none⟩, 104, [.int .i64 g.Nodes, .slice B6 Gates.length c7], 2⟩, ⟨B6, 213, (Gates.flatMap enc_Gate), c7 * 3⟩, ⟨B7, 3, (place.flatMap encI), c8 * 1⟩, ⟨some ⟨b5, 0, none⟩, 211, [.int .i64 x.Gate, .int .i64 x.A, .int .i64 x.B], 3⟩, ⟨some ⟨b7, 0, none⟩, 213, [.int .i64 x1.Kind, .int .i64 x1.A, .int .i64 x1.B], 3⟩] [⟨B, (g.Edges.flatMap enc_Edge)⟩, ⟨B1, (c1.Gates.flatMap enc_Gate)⟩, ⟨B3, (r_.Steps.flatMap enc_RouteStep)⟩] := hS25
              refine rw_nil ?_
              refine cw_cond (b := r_8) rfl (fun hb4 => ?_) (fun hb4 => ?_)
              · skip
                have hF10 := ct hz2 hb4
                refine cw_region ?_
                refine sq 82 rfl rfl (Y_move (v := .slice B7 place.length c8) rfl (hf.get 12 3 rfl)) ?_
                refine sq 83 rfl rfl (Y_fieldAddr (B := some ⟨b7, 0, none⟩) (i := 0) (s := 0) k_fd_213_2_2_3 k_sz_3_1 rfl rfl) ?_
                refine sq 84 rfl rfl (Y_load1 (B := some ⟨b7, 0, none⟩) (i := 2) (cs := [.int .i64 x1.Kind, .int .i64 x1.A, .int .i64 x1.B]) (v := .int .i64 x1.B) k_sc_3 rfl rfl (hS25.cf (i := 6) rfl) rfl) ?_
                obtain ⟨x2, hx2, hF10⟩ := bind_inv hF10
                refine sq 85 rfl rfl (Y_index (B := B7) (m := place.length) (c := c8) (k := .i64) (i := x1.B) k_sl_59_3 k_sz_3_1 rfl rfl rfl (gi_isSome encI_len rfl (hS25.cf (i := 4) rfl) hx2) (getI_nn hx2) (getI_ltI hx2 rfl)) ?_
                refine sq 86 rfl rfl (Y_load1 (B := B7) (i := x1.B.toNat * 1) (cs := (place.flatMap encI)) (v := .int .i64 x2) k_sc_3 rfl rfl (hS25.cf (i := 4) rfl) (gi_at0 encI_len hx2 rfl)) ?_
                refine sq 87 rfl rfl (Y_fieldAddr (B := some ⟨b7, 0, none⟩) (i := 0) (s := 0) k_fd_213_2_2_3 k_sz_3_1 rfl rfl) ?_
                refine ss0 rfl rfl (Ys_store (i := 6) (s := 1) (B := some ⟨b7, 0, none⟩) (T' := 213) (v := .int .i64 x2) (vs := [.int .i64 x2]) (k := 2) (cs' := [.int .i64 x1.Kind, .int .i64 x1.A, .int .i64 x2]) hS25 k_sz_3_1 rfl rfl rfl rfl rfl rfl rfl (Nat.le_of_ble_eq_true rfl) rfl rfl) ?_
                rintro _ w_19 ⟨rfl, hS26⟩
                have hS26 : ST w0 (bl [⟨B2, 3, (r_.Start.flatMap encI), c3 * 1⟩]) _ [⟨some ⟨b1, 0, none⟩, 104, [.int .i64 c1.Qubits, .slice B1 c1.Gates.length c2], 2⟩, ⟨some ⟨b3, 0, none⟩, 104, [.int .i64 0, .slice none 0 0], 2⟩, ⟨some ⟨b4, 0, none⟩, 104, [.int .i64 g.Nodes, .slice B6 Gates.length c7], 2⟩, ⟨B6, 213, (Gates.flatMap enc_Gate), c7 * 3⟩, ⟨B7, 3, (place.flatMap encI), c8 * 1⟩, ⟨some ⟨b5, 0, none⟩, 211, [.int .i64 x.Gate, .int .i64 x.A, .int .i64 x.B], 3⟩, ⟨some ⟨b7, 0, none⟩, 213, [.int .i64 x1.Kind, .int .i64 x1.A, .int .i64 x2], 3⟩] [⟨B, (g.Edges.flatMap enc_Edge)⟩, ⟨B1, (c1.Gates.flatMap enc_Gate)⟩, ⟨B3, (r_.Steps.flatMap enc_RouteStep)⟩] := hS26
                refine rw_nil ?_
                exact ⟨x2, (some_inj hF10), (FF.cons (hf.get 4 0 rfl) (FF.cons (hf.get 6 1 rfl) (FF.cons (hf.get 11 2 rfl) (FF.cons (hf.get 12 3 rfl) (FF.cons rfl (FF.cons (hf.get 49 4 rfl) (FF.cons (hf.get 50 5 rfl) (FF.cons (hf.get 51 6 rfl) FF.nil)))))))), (hS26.sel [0, 1, 2, 3, 4, 6] rfl rfl)⟩
              · skip
                have hF11 := cf' hz2 hb4
                refine cw_skip ?_
                exact ⟨x1.B, (some_inj hF11), (FF.cons (hf.get 4 0 rfl) (FF.cons (hf.get 6 1 rfl) (FF.cons (hf.get 11 2 rfl) (FF.cons (hf.get 12 3 rfl) (FF.cons rfl (FF.cons (hf.get 49 4 rfl) (FF.cons (hf.get 50 5 rfl) (FF.cons (hf.get 51 6 rfl) FF.nil)))))))), (hS25.sel [0, 1, 2, 3, 4, 6] rfl rfl)⟩
            rintro f w ⟨B12, rfl, hf2, hS24⟩
            refine cw_seq ?_
            obtain ⟨z3, hz3, hF12⟩ := bind_inv hF9
            refine cw_mid (fun f w => ∃ (A : Int), A = z3 ∧ FF f [(4, pt (some ⟨b1, 0, none⟩) 0), (6, pt (some ⟨b3, 0, none⟩) 0), (11, pt (some ⟨b4, 0, none⟩) 0), (12, .slice B7 place.length c8), (15, pt (some ⟨b7, 0, none⟩) 0), (49, .slice B3 r_.Steps.length c4), (50, .int .i64 (r_.Steps.length : Int)), (51, .int .i64 (i : Int))] ∧ ST w0 (bl [⟨B2, 3, (r_.Start.flatMap encI), c3 * 1⟩]) w [⟨some ⟨b1, 0, none⟩, 104, [.int .i64 c1.Qubits, .slice B1 c1.Gates.length c2], 2⟩, ⟨some ⟨b3, 0, none⟩, 104, [.int .i64 0, .slice none 0 0], 2⟩, ⟨some ⟨b4, 0, none⟩, 104, [.int .i64 g.Nodes, .slice B6 Gates.length c7], 2⟩, ⟨B6, 213, (Gates.flatMap enc_Gate), c7 * 3⟩, ⟨B7, 3, (place.flatMap encI), c8 * 1⟩, ⟨some ⟨b7, 0, none⟩, 213, [.int .i64 x1.Kind, .int .i64 A, .int .i64 B12], 3⟩] [⟨B, (g.Edges.flatMap enc_Edge)⟩, ⟨B1, (c1.Gates.flatMap enc_Gate)⟩, ⟨B3, (r_.Steps.flatMap enc_RouteStep)⟩]) ?_ ?_
            · skip
              refine cw_seq ?_
              refine cw_region ?_
              refine sq 88 rfl rfl (Y_fieldAddr (B := some ⟨b7, 0, none⟩) (i := 0) (s := 0) k_fd_213_0_0_3 k_sz_3_1 rfl (hf2.get 15 4 rfl)) ?_
              refine sq 89 rfl rfl (Y_load1 (B := some ⟨b7, 0, none⟩) (i := 0) (cs := [.int .i64 x1.Kind, .int .i64 x1.A, .int .i64 B12]) (v := .int .i64 x1.Kind) k_sc_3 rfl rfl (hS24.cf (i := 5) rfl) rfl) ?_
              refine sq 90 rfl rfl (Y_ne (k := .i64) (a := x1.Kind) (b := 12) rfl rfl rfl) ?_
              refine rw_nil ?_
              refine cw_cond (b := (x1.Kind != 12)) rfl (fun hb5 => ?_) (fun hb5 => ?_)
              · skip
                have hF13 := ct hz3 hb5
                refine cw_region ?_
                refine sq 91 rfl rfl (Y_move (v := .slice B7 place.length c8) rfl (hf2.get 12 3 rfl)) ?_
                refine sq 92 rfl rfl (Y_fieldAddr (B := some ⟨b7, 0, none⟩) (i := 0) (s := 0) k_fd_213_1_1_3 k_sz_3_1 rfl (hf2.get 15 4 rfl)) ?_
                refine sq 93 rfl rfl (Y_load1 (B := some ⟨b7, 0, none⟩) (i := 1) (cs := [.int .i64 x1.Kind, .int .i64 x1.A, .int .i64 B12]) (v := .int .i64 x1.A) k_sc_3 rfl rfl (hS24.cf (i := 5) rfl) rfl) ?_
                obtain ⟨x3, hx3, hF13⟩ := bind_inv hF13
                refine sq 94 rfl rfl (Y_index (B := B7) (m := place.length) (c := c8) (k := .i64) (i := x1.A) k_sl_59_3 k_sz_3_1 rfl rfl rfl (gi_isSome encI_len rfl (hS24.cf (i := 4) rfl) hx3) (getI_nn hx3) (getI_ltI hx3 rfl)) ?_
                refine sq 95 rfl rfl (Y_load1 (B := B7) (i := x1.A.toNat * 1) (cs := (place.flatMap encI)) (v := .int .i64 x3) k_sc_3 rfl rfl (hS24.cf (i := 4) rfl) (gi_at0 encI_len hx3 rfl)) ?_
                refine sq 96 rfl rfl (Y_fieldAddr (B := some ⟨b7, 0, none⟩) (i := 0) (s := 0) k_fd_213_1_1_3 k_sz_3_1 rfl (hf2.get 15 4 rfl)) ?_
                refine ss0 rfl rfl (Ys_store (i := 5) (s := 1) (B := some ⟨b7, 0, none⟩) (T' := 213) (v := .int .i64 x3) (vs := [.int .i64 x3]) (k := 1) (cs' := [.int .i64 x1.Kind, .int .i64 x3, .int .i64 B12]) hS24 k_sz_3_1 rfl rfl rfl rfl rfl rfl rfl (Nat.le_of_ble_eq_true rfl) rfl rfl) ?_
                rintro _ w_20 ⟨rfl, hS28⟩
                have hS28 : ST w0 (bl [⟨B2, 3, (r_.Start.flatMap encI), c3 * 1⟩]) _ [⟨some ⟨b1, 0, none⟩, 104, [.int .i64 c1.Qubits, .slice B1 c1.Gates.length c2], 2⟩, ⟨some ⟨b3, 0, none⟩, 104, [.int .i64 0, .slice none 0 0], 2⟩, ⟨some ⟨b4, 0, none⟩, 104, [.int .i64 g.Nodes, .slice B6 Gates.length c7], 2⟩, ⟨B6, 213, (Gates.flatMap enc_Gate), c7 * 3⟩, ⟨B7, 3, (place.flatMap encI), c8 * 1⟩, ⟨some ⟨b7, 0, none⟩, 213, [.int .i64 x1.Kind, .int .i64 x3, .int .i64 B12], 3⟩] [⟨B, (g.Edges.flatMap enc_Edge)⟩, ⟨B1, (c1.Gates.flatMap enc_Gate)⟩, ⟨B3, (r_.Steps.flatMap enc_RouteStep)⟩] := hS28
                refine rw_nil ?_
                exact ⟨x3, (some_inj hF13), (FF.cons (hf2.get 4 0 rfl) (FF.cons (hf2.get 6 1 rfl) (FF.cons (hf2.get 11 2 rfl) (FF.cons (hf2.get 12 3 rfl) (FF.cons (hf2.get 15 4 rfl) (FF.cons (hf2.get 49 5 rfl) (FF.cons (hf2.get 50 6 rfl) (FF.cons (hf2.get 51 7 rfl) FF.nil)))))))), (hS28.sel [0, 1, 2, 3, 4, 5] rfl rfl)⟩
              · skip
                have hF14 := cf' hz3 hb5
                refine cw_skip ?_
                exact ⟨x1.A, (some_inj hF14), (FF.cons (hf2.get 4 0 rfl) (FF.cons (hf2.get 6 1 rfl) (FF.cons (hf2.get 11 2 rfl) (FF.cons (hf2.get 12 3 rfl) (FF.cons (hf2.get 15 4 rfl) (FF.cons (hf2.get 49 5 rfl) (FF.cons (hf2.get 50 6 rfl) (FF.cons (hf2.get 51 7 rfl) FF.nil)))))))), (hS24.sel [0, 1, 2, 3, 4, 5] rfl rfl)⟩
            rintro f w ⟨A, rfl, hf3, hS27⟩
            refine cw_region ?_
            refine sq 97 rfl rfl (Y_fieldAddr (B := some ⟨b4, 0, none⟩) (i := 0) (s := 0) k_fd_104_1_1_102 k_sz_102_1 rfl (hf3.get 11 2 rfl)) ?_
            refine sq 98 rfl rfl (Y_load1 (B := some ⟨b4, 0, none⟩) (i := 1) (cs := [.int .i64 g.Nodes, .slice B6 Gates.length c7]) (v := .slice B6 Gates.length c7) k_sc_102 rfl rfl (hS27.cf (i := 2) rfl) rfl) ?_
            refine sq 99 rfl rfl (Y_loadA (B := some ⟨b7, 0, none⟩) (i := 0) (cs := [.int .i64 x1.Kind, .int .i64 A, .int .i64 B12]) (vs := [.int .i64 x1.Kind, .int .i64 A, .int .i64 B12]) k_ag_213 k_sz_213_3 rfl (hf3.get 15 4 rfl) (hS27.cf (i := 5) rfl) rfl rfl) ?_
            refine ss 100 rfl rfl (Ys_bslice (s := 3) (len := 1) (vs := [(0, .agg #[.int .i64 x1.Kind, .int .i64 A, .int .i64 B12])]) (cs := [.int .i64 x1.Kind, .int .i64 A, .int .i64 B12]) (zs := [.int .i64 0, .int .i64 0, .int .i64 0]) (m := 3) hS27 k_sl_102_213 k_sz_213_3 k_zc_213 rfl (mpc rfl mpn) rfl rfl rfl (by kernel_rfl) (by kernel_rfl) rfl) ?_
            rintro _ w_21 ⟨b8, rfl, hS29⟩
            have hS29 : ST w0 (bl [⟨B2, 3, (r_.Start.flatMap encI), c3 * 1⟩]) _ [⟨some ⟨b1, 0, none⟩, 104, [.int .i64 c1.Qubits, .slice B1 c1.Gates.length c2], 2⟩, ⟨some ⟨b3, 0, none⟩, 104, [.int .i64 0, .slice none 0 0], 2⟩, ⟨some ⟨b4, 0, none⟩, 104, [.int .i64 g.Nodes, .slice B6 Gates.length c7], 2⟩, ⟨B6, 213, (Gates.flatMap enc_Gate), c7 * 3⟩, ⟨B7, 3, (place.flatMap encI), c8 * 1⟩, ⟨some ⟨b7, 0, none⟩, 213, [.int .i64 x1.Kind, .int .i64 A, .int .i64 B12], 3⟩, ⟨some ⟨b8, 0, none⟩, 213, ([(TGate.mk x1.Kind A B12)].flatMap enc_Gate), 1 * 3⟩] [⟨B, (g.Edges.flatMap enc_Edge)⟩, ⟨B1, (c1.Gates.flatMap enc_Gate)⟩, ⟨B3, (r_.Steps.flatMap enc_RouteStep)⟩] := hS29
            obtain ⟨hap1, hF12⟩ := chk_inv hF12
            refine ss 101 rfl rfl (Ys_append (s := 3) (by' := 24) (i := 3) (nn := Gates.length) (c := c7) (k := 1) (len := (Gates ++ [(TGate.mk x1.Kind A B12)]).length) (B := B6) (xs := ([(TGate.mk x1.Kind A B12)].flatMap enc_Gate)) (cs' := ((Gates ++ [(TGate.mk x1.Kind A B12)]).flatMap enc_Gate)) hS29 k_sl_102_213 k_sz_213_3 k_by_213_24 k_zero_213 rfl (by decide) rfl rfl rfl rfl (fm_lenn (l := Gates) enc_Gate_len rfl) rfl (hS29.cf (i := 6) rfl) (fm_lenn (l := [(TGate.mk x1.Kind A B12)]) enc_Gate_len rfl) (fm_one' (enc := enc_Gate) enc_Gate_one [(TGate.mk x1.Kind A B12)]) (by have := hap1; omega) (by have := hap1; simp only [maxLen]; omega) (fm_app _ _) (app_len (l := Gates) (l' := [(TGate.mk x1.Kind A B12)]) rfl rfl)) ?_
            rintro _ w_22 ⟨B13, c13, rfl, hS30⟩
            have hS30 : ST w0 (bl [⟨B2, 3, (r_.Start.flatMap encI), c3 * 1⟩]) _ [⟨some ⟨b1, 0, none⟩, 104, [.int .i64 c1.Qubits, .slice B1 c1.Gates.length c2], 2⟩, ⟨some ⟨b3, 0, none⟩, 104, [.int .i64 0, .slice none 0 0], 2⟩, ⟨some ⟨b4, 0, none⟩, 104, [.int .i64 g.Nodes, .slice B6 Gates.length c7], 2⟩, ⟨B13, 213, ((Gates ++ [(TGate.mk x1.Kind A B12)]).flatMap enc_Gate), c13 * 3⟩, ⟨B7, 3, (place.flatMap encI), c8 * 1⟩, ⟨some ⟨b7, 0, none⟩, 213, [.int .i64 x1.Kind, .int .i64 A, .int .i64 B12], 3⟩, ⟨some ⟨b8, 0, none⟩, 213, ([(TGate.mk x1.Kind A B12)].flatMap enc_Gate), 1 * 3⟩] [⟨B, (g.Edges.flatMap enc_Edge)⟩, ⟨B1, (c1.Gates.flatMap enc_Gate)⟩, ⟨B3, (r_.Steps.flatMap enc_RouteStep)⟩] := hS30
            refine sq 102 rfl rfl (Y_fieldAddr (B := some ⟨b4, 0, none⟩) (i := 0) (s := 0) k_fd_104_1_1_102 k_sz_102_1 rfl (hf3.get 11 2 rfl)) ?_
            refine ss0 rfl rfl (Ys_store (i := 2) (s := 1) (B := some ⟨b4, 0, none⟩) (T' := 104) (v := .slice B13 ((Gates ++ [(TGate.mk x1.Kind A B12)]).length) c13) (vs := [.slice B13 ((Gates ++ [(TGate.mk x1.Kind A B12)]).length) c13]) (k := 1) (cs' := [.int .i64 g.Nodes, .slice B13 ((Gates ++ [(TGate.mk x1.Kind A B12)]).length) c13]) hS30 k_sz_102_1 rfl rfl rfl rfl rfl rfl rfl (Nat.le_of_ble_eq_true rfl) rfl rfl) ?_
            rintro _ w_23 ⟨rfl, hS31⟩
            have hS31 : ST w0 (bl [⟨B2, 3, (r_.Start.flatMap encI), c3 * 1⟩]) _ [⟨some ⟨b1, 0, none⟩, 104, [.int .i64 c1.Qubits, .slice B1 c1.Gates.length c2], 2⟩, ⟨some ⟨b3, 0, none⟩, 104, [.int .i64 0, .slice none 0 0], 2⟩, ⟨some ⟨b4, 0, none⟩, 104, [.int .i64 g.Nodes, .slice B13 ((Gates ++ [(TGate.mk x1.Kind A B12)]).length) c13], 2⟩, ⟨B13, 213, ((Gates ++ [(TGate.mk x1.Kind A B12)]).flatMap enc_Gate), c13 * 3⟩, ⟨B7, 3, (place.flatMap encI), c8 * 1⟩, ⟨some ⟨b7, 0, none⟩, 213, [.int .i64 x1.Kind, .int .i64 A, .int .i64 B12], 3⟩, ⟨some ⟨b8, 0, none⟩, 213, ([(TGate.mk x1.Kind A B12)].flatMap enc_Gate), 1 * 3⟩] [⟨B, (g.Edges.flatMap enc_Edge)⟩, ⟨B1, (c1.Gates.flatMap enc_Gate)⟩, ⟨B3, (r_.Steps.flatMap enc_RouteStep)⟩] := hS31
            refine rw_nil ?_
            exact ⟨(Gates ++ [(TGate.mk x1.Kind A B12)]), place, B13, c13, B7, c8, (some_inj hF12), (FF.cons (hf3.get 4 0 rfl) (FF.cons (hf3.get 6 1 rfl) (FF.cons (hf3.get 11 2 rfl) (FF.cons (hf3.get 12 3 rfl) (FF.cons (hf3.get 49 5 rfl) (FF.cons (hf3.get 50 6 rfl) (FF.cons (hf3.get 51 7 rfl) FF.nil))))))), (hS31.sel [0, 1, 2, 3, 4] rfl rfl)⟩
        rintro f w ⟨Gates1, place1, B8, c9, B9, c10, rfl, hf1, hS15⟩
        refine cw_region ?_
        refine sq 103 rfl rfl (Y_add (k := .i64) (a := (i : Int)) (b := 1) rfl (hf1.get 51 6 rfl) rfl) ?_
        refine sq 51 rfl rfl (Y_move (v := .int .i64 (IntKind.i64.wrap ((i : Int) + 1))) rfl rfl) ?_
        refine rw_nil ?_
        obtain rfl := some_inj hF6
        exact ⟨k_1, Nat.lt_succ_self _, i + 1, Gates1, place1, B8, c9, B9, c10, (FF.cons (hf1.get 4 0 rfl) (FF.cons (hf1.get 6 1 rfl) (FF.cons (hf1.get 11 2 rfl) (FF.cons (hf1.get 12 3 rfl) (FF.cons (hf1.get 49 4 rfl) (FF.cons (hf1.get 50 5 rfl) (FF.cons (congrArg (Value.int .i64) (wr_succ hlt1 hN)) FF.nil))))))), (hS15.sel [0, 1, 2, 3, 4] rfl rfl), (by omega), hL1⟩
      · skip
        obtain rfl : k_ = 0 := by have h := of_decide_eq_false hlt; omega
        refine cw_exit rfl ?_
        obtain rfl := some_inj hL
        refine cw_seq ?_
        refine cw_region ?_
        refine sq 104 rfl rfl (Y_loadA (B := some ⟨b4, 0, none⟩) (i := 0) (cs := [.int .i64 g.Nodes, .slice B6 Gates.length c7]) (vs := [.int .i64 g.Nodes, .slice B6 Gates.length c7]) k_ag_104 k_sz_104_2 rfl (hf.get 11 2 rfl) (hS13.cf (i := 2) rfl) rfl rfl) ?_
        refine ss0 rfl rfl (Ys_store (i := 1) (s := 2) (B := some ⟨b3, 0, none⟩) (T' := 104) (v := .agg #[.int .i64 g.Nodes, .slice B6 Gates.length c7]) (vs := [.int .i64 g.Nodes, .slice B6 Gates.length c7]) (k := 0) (cs' := [.int .i64 g.Nodes, .slice B6 Gates.length c7]) hS13 k_sz_104_2 rfl (hf.get 6 1 rfl) rfl rfl rfl rfl rfl (Nat.le_of_ble_eq_true rfl) rfl rfl) ?_
        rintro _ w_24 ⟨rfl, hS32⟩
        have hS32 : ST w0 (bl [⟨B2, 3, (r_.Start.flatMap encI), c3 * 1⟩]) _ [⟨some ⟨b1, 0, none⟩, 104, [.int .i64 c1.Qubits, .slice B1 c1.Gates.length c2], 2⟩, ⟨some ⟨b3, 0, none⟩, 104, [.int .i64 g.Nodes, .slice B6 Gates.length c7], 2⟩, ⟨some ⟨b4, 0, none⟩, 104, [.int .i64 g.Nodes, .slice B6 Gates.length c7], 2⟩, ⟨B6, 213, (Gates.flatMap enc_Gate), c7 * 3⟩, ⟨B7, 3, (place.flatMap encI), c8 * 1⟩] [⟨B, (g.Edges.flatMap enc_Edge)⟩, ⟨B1, (c1.Gates.flatMap enc_Gate)⟩, ⟨B3, (r_.Steps.flatMap enc_RouteStep)⟩] := hS32
        refine sq 7 rfl rfl (Y_assign (v := .bool true) rfl rfl) ?_
        refine rw_nil ?_
        refine cw_ret ?_
        obtain ⟨rfl, rfl⟩ := pr2 (some_inj hF5)
        exact ret2 Try.results70 (v1 := .agg #[.int .i64 g.Nodes, .slice B6 Gates.length c7]) (resAt_cellA (B := some ⟨b3, 0, none⟩) (i := 0) (cs := [.int .i64 g.Nodes, .slice B6 Gates.length c7]) (vs := [.int .i64 g.Nodes, .slice B6 Gates.length c7]) (hf.get 6 1 rfl) k_ag_104 k_sz_104_2 (hS32.cf (i := 1) rfl) rfl rfl) (v2 := .bool true) (resAt_tmp rfl) ⟨B6, c7, rfl, (ST.subR (R' := []) (hS32.sel [3] rfl rfl) (fun _ h => by cases h))⟩

theorem c_impl_within (n : Int) (low : Int) (high : Int)  (w0 : World)  (hS : ST w0 [] w0 [] []) {r_ : Bool} (hF : F_impl_within n low high = some r_) :
    CV Try.prog 130 #[.int .i64 n, .int .i64 low, .int .i64 high] w0 (fun v w' => v = .bool r_ ∧ ST w0 [] w' [] []) := by
  unfold F_impl_within at hF
  refine cv_of_cw 15 Try.func130 rfl Try.ntmps130 rfl ?_
  refine cw_seq ?_
  refine cw_region ?_
  refine sq 6 rfl rfl (Y_assign (v := .bool false) rfl rfl) ?_
  refine rw_nil ?_
  refine cw_seq ?_
  refine cw_region ?_
  refine sq 7 rfl rfl (Y_move (v := .int .i64 low) rfl rfl) ?_
  refine sq 8 rfl rfl (Y_move (v := .int .i64 n) rfl rfl) ?_
  refine sq 9 rfl rfl (Y_le (k := .i64) (a := low) (b := n) rfl rfl rfl) ?_
  refine sq 10 rfl rfl (Y_move (v := .bool (decide (low ≤ n))) rfl rfl) ?_
  refine sgq 11 (B := (decide (low ≤ n))) (v := .int .i64 n) rfl rfl (wt_t (gd_of (t := 10) (by kernel_rfl) rfl)) (fun hg => (Y_move (v := .int .i64 n) rfl rfl)) ?_
  refine sgq 12 (B := (decide (low ≤ n))) (v := .int .i64 high) rfl rfl (wt_t (gd_of (t := 10) (by kernel_rfl) rfl)) (fun hg1 => (Y_move (v := .int .i64 high) rfl rfl)) ?_
  refine sgq 13 (B := (decide (low ≤ n))) (v := .bool (decide (n ≤ high))) rfl rfl (wt_t (gd_of (t := 10) (by kernel_rfl) rfl)) (fun hg2 => (Y_le (k := .i64) (a := n) (b := high) rfl (gv_of (B := (decide (low ≤ n))) (v := .int .i64 n) hg2) (gv_of (B := (decide (low ≤ n))) (v := .int .i64 high) hg2))) ?_
  refine sq 14 rfl rfl (Y_and (b := (decide (low ≤ n))) (z := (decide (n ≤ high))) rfl rfl rfl rfl) ?_
  refine sq 6 rfl rfl (Y_assign (v := .bool ((decide (low ≤ n)) && (decide (n ≤ high)))) rfl rfl) ?_
  refine rw_nil ?_
  refine cw_ret ?_
  obtain rfl := some_inj hF
  exact ret1 Try.results130 (v1 := .bool ((decide (low ≤ n)) && (decide (n ≤ high)))) (resAt_tmp rfl) ⟨rfl, (ST.subR (R' := []) (hS.sel [] rfl rfl) (fun _ h => by cases h))⟩

theorem c_impl_areEdges (n : Int) (edges : List TEdge) (B : Option Addr) (c n1 : Nat) (w0 : World) (hn : edges.length = n1) (hS : ST w0 [] w0 [] [⟨B, (edges.flatMap enc_Edge)⟩]) {r_ : Bool} (hF : F_impl_areEdges n edges = some r_) :
    CV Try.prog 312 #[.int .i64 n, .slice B n1 c] w0 (fun v w' => v = .bool r_ ∧ ST w0 [] w' [] []) := by
  subst hn
  unfold F_impl_areEdges at hF
  refine cv_of_cw 68 Try.func312 rfl Try.ntmps312 rfl ?_
  refine cw_seq ?_
  refine cw_region ?_
  refine sq 4 rfl rfl (Y_assign (v := .bool false) rfl rfl) ?_
  refine rw_nil ?_
  refine cw_seq ?_
  refine cw_seq ?_
  refine cw_region ?_
  refine sq 7 rfl rfl (Y_move (v := .slice B edges.length c) rfl rfl) ?_
  refine sq 8 rfl rfl (Y_len (B := B) (m := edges.length) (c := c) k_sl_98_277 rfl rfl) ?_
  refine sq 9 rfl rfl (Y_move (v := .int .i64 0) rfl rfl) ?_
  refine rw_nil ?_
  obtain ⟨hN, hF⟩ := chk_inv hF
  obtain ⟨z, hz, hF1⟩ := bind_inv hF
  refine cw_block ?_
  refine cw_loop (fun k f w => ∃ (i : Nat), FF f [(0, .int .i64 n), (1, .slice B edges.length c), (7, .slice B edges.length c), (8, .int .i64 (edges.length : Int)), (9, .int .i64 (i : Int))] ∧ ST w0 [] w [] [⟨B, (edges.flatMap enc_Edge)⟩] ∧ i + k = edges.length ∧ forX (F_impl_areEdges_l1 edges n) k i () = some z) edges.length ⟨0, (FF.cons rfl (FF.cons rfl (FF.cons rfl (FF.cons rfl (FF.cons rfl FF.nil))))), (hS.sel [] rfl rfl), Nat.zero_add _, hz⟩ ?_
  rintro k_ f w ⟨i, hf, hS1, hik, hL⟩
  refine cw_seq ?_
  refine cw_region ?_
  refine sq 10 rfl rfl (Y_lt (k := .i64) (a := (i : Int)) (b := (edges.length : Int)) rfl (hf.get 9 4 rfl) (hf.get 8 3 rfl)) ?_
  refine rw_nil ?_
  refine cw_seq ?_
  refine cw_cond (b := (decide ((i : Int) < (edges.length : Int)))) rfl (fun hlt => ?_) (fun hlt => ?_)
  · skip
    have hlt1 : i < edges.length := by have h := of_decide_eq_true hlt; omega
    obtain ⟨k_1, rfl⟩ : ∃ k2, k_ = k2 + 1 := ⟨k_ - 1, by omega⟩
    obtain ⟨y, hb, hL1⟩ := forX_go hL
    unfold F_impl_areEdges_l1 at hb
    refine cw_skip ?_
    refine cw_seq ?_
    refine cw_block ?_
    refine cw_seq ?_
    refine cw_region ?_
    refine sq 11 rfl rfl (Y_move (v := .int .i64 (i : Int)) rfl (hf.get 9 4 rfl)) ?_
    obtain ⟨x, hx, hb⟩ := bind_inv hb
    refine sq 12 rfl rfl (Y_index (B := B) (m := edges.length) (c := c) (k := .i64) (i := (i : Int)) k_sl_98_277 k_sz_277_2 rfl (hf.get 7 2 rfl) (hf.get 9 4 rfl) (gi_isSome enc_Edge_len rfl (hS1.rf (i := 0) rfl) hx) (getI_nn hx) (getI_ltI hx rfl)) ?_
    refine sq 13 rfl rfl (Y_loadA (B := B) (i := (i : Int).toNat * 2) (cs := (edges.flatMap enc_Edge)) (vs := [.int .i64 x.A, .int .i64 x.B]) k_ag_277 k_sz_277_2 rfl rfl (hS1.rf (i := 0) rfl) (enc_Edge_len x) (gi_seg enc_Edge_len hx)) ?_
    refine ss 6 rfl rfl (Ys_alloc (T := 277) (cs := [.int .i64 0, .int .i64 0]) (m := 2) hS1 k_zero_277 rfl rfl rfl) ?_
    rintro _ w_ ⟨b, rfl, hS2⟩
    refine sq 5 rfl rfl (Y_assign (v := .int .i64 (i : Int)) rfl rfl) ?_
    refine ss0 rfl rfl (Ys_store (i := 0) (s := 2) (B := some ⟨b, 0, none⟩) (T' := 277) (v := .agg #[.int .i64 x.A, .int .i64 x.B]) (vs := [.int .i64 x.A, .int .i64 x.B]) (k := 0) (cs' := [.int .i64 x.A, .int .i64 x.B]) hS2 k_sz_277_2 rfl rfl rfl rfl rfl rfl rfl (Nat.le_of_ble_eq_true rfl) rfl rfl) ?_
    rintro _ w_1 ⟨rfl, hS3⟩
    refine rw_nil ?_
    refine cw_seq ?_
    obtain ⟨x1, hx1, hb⟩ := bind_inv hb
    obtain ⟨x2, hx2, hb⟩ := bind_inv hb
    obtain ⟨x3, hx3, hb⟩ := bind_inv hb
    refine ra_start (ST.sel hS3 [0] rfl rfl).fn (by kernel_rfl) ?_
    have hS4 := hS3.drew
    refine ra_q 0 14 (v := pt (some ⟨b, 0, none⟩) 0) rfl rfl rfl (by kernel_rfl) (by kernel_rfl) (by kernel_rfl) (ST.sel hS4 [0] rfl rfl) (fun w' hw' => (Y_fieldAddr (B := some ⟨b, 0, none⟩) (i := 0) (s := 0) k_fd_277_0_0_3 k_sz_3_1 rfl rfl)) ?_
    refine ra_q 1 15 (v := .int .i64 x.A) rfl rfl rfl (by kernel_rfl) (by kernel_rfl) (by kernel_rfl) (ST.sel hS4 [0] rfl rfl) (fun w' hw' => (Y_load1 (B := some ⟨b, 0, none⟩) (i := 0) (cs := [.int .i64 x.A, .int .i64 x.B]) (v := .int .i64 x.A) k_sc_3 rfl rfl (ST.cf hw' (i := 0) rfl) rfl)) ?_
    refine ra_q 2 16 (v := .bool (decide (x.A < 0))) rfl rfl rfl (by kernel_rfl) (by kernel_rfl) (by kernel_rfl) (ST.sel hS4 [0] rfl rfl) (fun w' hw' => (Y_lt (k := .i64) (a := x.A) (b := 0) rfl rfl rfl)) ?_
    refine ra_q 3 17 (v := .bool (decide (x.A < 0))) rfl rfl rfl (by kernel_rfl) (by kernel_rfl) (by kernel_rfl) (ST.sel hS4 [0] rfl rfl) (fun w' hw' => (Y_move (v := .bool (decide (x.A < 0))) rfl rfl)) ?_
    refine ra_gq 4 18 (B := (!(decide (x.A < 0)))) (v := pt (some ⟨b, 0, none⟩) 0) rfl rfl rfl (wt_f (gd_of (t := 17) (by kernel_rfl) rfl)) (by kernel_rfl) (by kernel_rfl) (by kernel_rfl) (ST.sel hS4 [0] rfl rfl) (fun hg w' hw' => (Y_fieldAddr (B := some ⟨b, 0, none⟩) (i := 0) (s := 0) k_fd_277_0_0_3 k_sz_3_1 rfl rfl)) ?_
    refine ra_gq 5 19 (B := (!(decide (x.A < 0)))) (v := .int .i64 x.A) rfl rfl rfl (wt_f (gd_of (t := 17) (by kernel_rfl) rfl)) (by kernel_rfl) (by kernel_rfl) (by kernel_rfl) (ST.sel hS4 [0] rfl rfl) (fun hg1 w' hw' => (Y_load1 (B := some ⟨b, 0, none⟩) (i := 0) (cs := [.int .i64 x.A, .int .i64 x.B]) (v := .int .i64 x.A) k_sc_3 rfl (gv_of (B := (!(decide (x.A < 0)))) (v := pt (some ⟨b, 0, none⟩) 0) hg1) (ST.cf hw' (i := 0) rfl) rfl)) ?_
    refine ra_gq 6 20 (B := (!(decide (x.A < 0)))) (v := pt (some ⟨b, 0, none⟩) 1) rfl rfl rfl (wt_f (gd_of (t := 17) (by kernel_rfl) rfl)) (by kernel_rfl) (by kernel_rfl) (by kernel_rfl) (ST.sel hS4 [0] rfl rfl) (fun hg2 w' hw' => (Y_fieldAddr (B := some ⟨b, 0, none⟩) (i := 0) (s := 0) k_fd_277_1_1_3 k_sz_3_1 rfl rfl)) ?_
    refine ra_gq 7 21 (B := (!(decide (x.A < 0)))) (v := .int .i64 x.B) rfl rfl rfl (wt_f (gd_of (t := 17) (by kernel_rfl) rfl)) (by kernel_rfl) (by kernel_rfl) (by kernel_rfl) (ST.sel hS4 [0] rfl rfl) (fun hg3 w' hw' => (Y_load1 (B := some ⟨b, 0, none⟩) (i := 1) (cs := [.int .i64 x.A, .int .i64 x.B]) (v := .int .i64 x.B) k_sc_3 rfl (gv_of (B := (!(decide (x.A < 0)))) (v := pt (some ⟨b, 0, none⟩) 1) hg3) (ST.cf hw' (i := 0) rfl) rfl)) ?_
    refine ra_gq 8 22 (B := (!(decide (x.A < 0)))) (v := .bool (decide (x.B ≤ x.A))) rfl rfl rfl (wt_f (gd_of (t := 17) (by kernel_rfl) rfl)) (by kernel_rfl) (by kernel_rfl) (by kernel_rfl) (ST.sel hS4 [0] rfl rfl) (fun hg4 w' hw' => (Y_ge (k := .i64) (a := x.A) (b := x.B) rfl (gv_of (B := (!(decide (x.A < 0)))) (v := .int .i64 x.A) hg4) (gv_of (B := (!(decide (x.A < 0)))) (v := .int .i64 x.B) hg4))) ?_
    refine ra_q 9 23 (v := .bool ((decide (x.A < 0)) || (decide (x.B ≤ x.A)))) rfl rfl rfl (by kernel_rfl) (by kernel_rfl) (by kernel_rfl) (ST.sel hS4 [0] rfl rfl) (fun w' hw' => (Y_or (b := (decide (x.A < 0))) (z := (decide (x.B ≤ x.A))) rfl rfl rfl rfl)) ?_
    refine ra_q 10 24 (v := .bool ((decide (x.A < 0)) || (decide (x.B ≤ x.A)))) rfl rfl rfl (by kernel_rfl) (by kernel_rfl) (by kernel_rfl) (ST.sel hS4 [0] rfl rfl) (fun w' hw' => (Y_move (v := .bool ((decide (x.A < 0)) || (decide (x.B ≤ x.A)))) rfl rfl)) ?_
    refine ra_gq 11 25 (B := (!((decide (x.A < 0)) || (decide (x.B ≤ x.A))))) (v := pt (some ⟨b, 0, none⟩) 1) rfl rfl rfl (wt_f (gd_of (t := 24) (by kernel_rfl) rfl)) (by kernel_rfl) (by kernel_rfl) (by kernel_rfl) (ST.sel hS4 [0] rfl rfl) (fun hg5 w' hw' => (Y_fieldAddr (B := some ⟨b, 0, none⟩) (i := 0) (s := 0) k_fd_277_1_1_3 k_sz_3_1 rfl rfl)) ?_
    refine ra_gq 12 26 (B := (!((decide (x.A < 0)) || (decide (x.B ≤ x.A))))) (v := .int .i64 x.B) rfl rfl rfl (wt_f (gd_of (t := 24) (by kernel_rfl) rfl)) (by kernel_rfl) (by kernel_rfl) (by kernel_rfl) (ST.sel hS4 [0] rfl rfl) (fun hg6 w' hw' => (Y_load1 (B := some ⟨b, 0, none⟩) (i := 1) (cs := [.int .i64 x.A, .int .i64 x.B]) (v := .int .i64 x.B) k_sc_3 rfl (gv_of (B := (!((decide (x.A < 0)) || (decide (x.B ≤ x.A))))) (v := pt (some ⟨b, 0, none⟩) 1) hg6) (ST.cf hw' (i := 0) rfl) rfl)) ?_
    refine ra_gq 13 27 (B := (!((decide (x.A < 0)) || (decide (x.B ≤ x.A))))) (v := .int .i64 n) rfl rfl rfl (wt_f (gd_of (t := 24) (by kernel_rfl) rfl)) (by kernel_rfl) (by kernel_rfl) (by kernel_rfl) (ST.sel hS4 [0] rfl rfl) (fun hg7 w' hw' => (Y_move (v := .int .i64 n) rfl (hf.get 0 0 rfl))) ?_
    refine ra_gq 14 28 (B := (!((decide (x.A < 0)) || (decide (x.B ≤ x.A))))) (v := .bool (decide (n ≤ x.B))) rfl rfl rfl (wt_f (gd_of (t := 24) (by kernel_rfl) rfl)) (by kernel_rfl) (by kernel_rfl) (by kernel_rfl) (ST.sel hS4 [0] rfl rfl) (fun hg8 w' hw' => (Y_ge (k := .i64) (a := x.B) (b := n) rfl (gv_of (B := (!((decide (x.A < 0)) || (decide (x.B ≤ x.A))))) (v := .int .i64 x.B) hg8) (gv_of (B := (!((decide (x.A < 0)) || (decide (x.B ≤ x.A))))) (v := .int .i64 n) hg8))) ?_
    refine ra_q 15 29 (v := .bool (((decide (x.A < 0)) || (decide (x.B ≤ x.A))) || (decide (n ≤ x.B)))) rfl rfl rfl (by kernel_rfl) (by kernel_rfl) (by kernel_rfl) (ST.sel hS4 [0] rfl rfl) (fun w' hw' => (Y_or (b := ((decide (x.A < 0)) || (decide (x.B ≤ x.A)))) (z := (decide (n ≤ x.B))) rfl rfl rfl rfl)) ?_
    refine ra_q 16 30 (v := .bool (((decide (x.A < 0)) || (decide (x.B ≤ x.A))) || (decide (n ≤ x.B)))) rfl rfl rfl (by kernel_rfl) (by kernel_rfl) (by kernel_rfl) (ST.sel hS4 [0] rfl rfl) (fun w' hw' => (Y_move (v := .bool (((decide (x.A < 0)) || (decide (x.B ≤ x.A))) || (decide (n ≤ x.B)))) rfl rfl)) ?_
    refine ra_gq 17 31 (B := (!(((decide (x.A < 0)) || (decide (x.B ≤ x.A))) || (decide (n ≤ x.B))))) (v := .int .i64 (i : Int)) rfl rfl rfl (wt_f (gd_of (t := 30) (by kernel_rfl) rfl)) (by kernel_rfl) (by kernel_rfl) (by kernel_rfl) (ST.sel hS4 [0] rfl rfl) (fun hg9 w' hw' => (Y_move (v := .int .i64 (i : Int)) rfl rfl)) ?_
    refine ra_gq 18 32 (B := (!(((decide (x.A < 0)) || (decide (x.B ≤ x.A))) || (decide (n ≤ x.B))))) (v := .bool (decide (0 < (i : Int)))) rfl rfl rfl (wt_f (gd_of (t := 30) (by kernel_rfl) rfl)) (by kernel_rfl) (by kernel_rfl) (by kernel_rfl) (ST.sel hS4 [0] rfl rfl) (fun hg10 w' hw' => (Y_gt (k := .i64) (a := (i : Int)) (b := 0) rfl (gv_of (B := (!(((decide (x.A < 0)) || (decide (x.B ≤ x.A))) || (decide (n ≤ x.B))))) (v := .int .i64 (i : Int)) hg10) rfl)) ?_
    refine ra_gq 19 33 (B := (!(((decide (x.A < 0)) || (decide (x.B ≤ x.A))) || (decide (n ≤ x.B))))) (v := .bool (decide (0 < (i : Int)))) rfl rfl rfl (wt_f (gd_of (t := 30) (by kernel_rfl) rfl)) (by kernel_rfl) (by kernel_rfl) (by kernel_rfl) (ST.sel hS4 [0] rfl rfl) (fun hg11 w' hw' => (Y_move (v := .bool (decide (0 < (i : Int)))) rfl (gv_of (B := (!(((decide (x.A < 0)) || (decide (x.B ≤ x.A))) || (decide (n ≤ x.B))))) (v := .bool (decide (0 < (i : Int)))) hg11))) ?_
    refine ra_gq 20 34 (B := ((!(((decide (x.A < 0)) || (decide (x.B ≤ x.A))) || (decide (n ≤ x.B)))) && (decide (0 < (i : Int))))) (v := .slice B edges.length c) rfl rfl rfl (wt_gt (gd_of (t := 33) (by kernel_rfl) rfl)) (by kernel_rfl) (by kernel_rfl) (by kernel_rfl) (ST.sel hS4 [0] rfl rfl) (fun hg12 w' hw' => (Y_move (v := .slice B edges.length c) rfl (hf.get 1 1 rfl))) ?_
    refine ra_gq 21 35 (B := ((!(((decide (x.A < 0)) || (decide (x.B ≤ x.A))) || (decide (n ≤ x.B)))) && (decide (0 < (i : Int))))) (v := .int .i64 (i : Int)) rfl rfl rfl (wt_gt (gd_of (t := 33) (by kernel_rfl) rfl)) (by kernel_rfl) (by kernel_rfl) (by kernel_rfl) (ST.sel hS4 [0] rfl rfl) (fun hg13 w' hw' => (Y_move (v := .int .i64 (i : Int)) rfl rfl)) ?_
    refine ra_gq 22 36 (B := ((!(((decide (x.A < 0)) || (decide (x.B ≤ x.A))) || (decide (n ≤ x.B)))) && (decide (0 < (i : Int))))) (v := .int .i64 (IntKind.i64.wrap ((i : Int) - 1))) rfl rfl rfl (wt_gt (gd_of (t := 33) (by kernel_rfl) rfl)) (by kernel_rfl) (by kernel_rfl) (by kernel_rfl) (ST.sel hS4 [0] rfl rfl) (fun hg14 w' hw' => (Y_sub (k := .i64) (a := (i : Int)) (b := 1) rfl (gv_of (B := ((!(((decide (x.A < 0)) || (decide (x.B ≤ x.A))) || (decide (n ≤ x.B)))) && (decide (0 < (i : Int))))) (v := .int .i64 (i : Int)) hg14) rfl)) ?_
    refine ra_gq 23 37 (B := ((!(((decide (x.A < 0)) || (decide (x.B ≤ x.A))) || (decide (n ≤ x.B)))) && (decide (0 < (i : Int))))) (v := pt B ((IntKind.i64.wrap ((i : Int) - 1)).toNat * 2)) rfl rfl rfl (wt_gt (gd_of (t := 33) (by kernel_rfl) rfl)) (by kernel_rfl) (by kernel_rfl) (by kernel_rfl) (ST.sel hS4 [0] rfl rfl) (fun hg15 w' hw' => (Y_index (B := B) (m := edges.length) (c := c) (k := .i64) (i := (IntKind.i64.wrap ((i : Int) - 1))) k_sl_98_277 k_sz_277_2 rfl (gv_of (B := ((!(((decide (x.A < 0)) || (decide (x.B ≤ x.A))) || (decide (n ≤ x.B)))) && (decide (0 < (i : Int))))) (v := .slice B edges.length c) hg15) (gv_of (B := ((!(((decide (x.A < 0)) || (decide (x.B ≤ x.A))) || (decide (n ≤ x.B)))) && (decide (0 < (i : Int))))) (v := .int .i64 (IntKind.i64.wrap ((i : Int) - 1))) hg15) (gi_isSome enc_Edge_len rfl (ST.rf hw' (i := 0) rfl) (gb_inv hx1 hg15)) (getI_nn (gb_inv hx1 hg15)) (getI_ltI (gb_inv hx1 hg15) rfl))) ?_
    refine ra_gq 24 38 (B := ((!(((decide (x.A < 0)) || (decide (x.B ≤ x.A))) || (decide (n ≤ x.B)))) && (decide (0 < (i : Int))))) (v := pt B ((IntKind.i64.wrap ((i : Int) - 1)).toNat * 2 + 0)) rfl rfl rfl (wt_gt (gd_of (t := 33) (by kernel_rfl) rfl)) (by kernel_rfl) (by kernel_rfl) (by kernel_rfl) (ST.sel hS4 [0] rfl rfl) (fun hg16 w' hw' => (Y_fieldAddr (B := B) (i := (IntKind.i64.wrap ((i : Int) - 1)).toNat * 2) (s := 0) k_fd_277_0_0_3 k_sz_3_1 rfl (gv_of (B := ((!(((decide (x.A < 0)) || (decide (x.B ≤ x.A))) || (decide (n ≤ x.B)))) && (decide (0 < (i : Int))))) (v := pt B ((IntKind.i64.wrap ((i : Int) - 1)).toNat * 2)) hg16))) ?_
    refine ra_gq 25 39 (B := ((!(((decide (x.A < 0)) || (decide (x.B ≤ x.A))) || (decide (n ≤ x.B)))) && (decide (0 < (i : Int))))) (v := .int .i64 x1.A) rfl rfl rfl (wt_gt (gd_of (t := 33) (by kernel_rfl) rfl)) (by kernel_rfl) (by kernel_rfl) (by kernel_rfl) (ST.sel hS4 [0] rfl rfl) (fun hg17 w' hw' => (Y_load1 (B := B) (i := (IntKind.i64.wrap ((i : Int) - 1)).toNat * 2 + 0) (cs := (edges.flatMap enc_Edge)) (v := .int .i64 x1.A) k_sc_3 rfl (gv_of (B := ((!(((decide (x.A < 0)) || (decide (x.B ≤ x.A))) || (decide (n ≤ x.B)))) && (decide (0 < (i : Int))))) (v := pt B ((IntKind.i64.wrap ((i : Int) - 1)).toNat * 2 + 0)) hg17) (ST.rf hw' (i := 0) rfl) (gi_at enc_Edge_len (gb_inv hx1 hg17) rfl))) ?_
    refine ra_gq 26 40 (B := ((!(((decide (x.A < 0)) || (decide (x.B ≤ x.A))) || (decide (n ≤ x.B)))) && (decide (0 < (i : Int))))) (v := pt (some ⟨b, 0, none⟩) 0) rfl rfl rfl (wt_gt (gd_of (t := 33) (by kernel_rfl) rfl)) (by kernel_rfl) (by kernel_rfl) (by kernel_rfl) (ST.sel hS4 [0] rfl rfl) (fun hg18 w' hw' => (Y_fieldAddr (B := some ⟨b, 0, none⟩) (i := 0) (s := 0) k_fd_277_0_0_3 k_sz_3_1 rfl rfl)) ?_
    refine ra_gq 27 41 (B := ((!(((decide (x.A < 0)) || (decide (x.B ≤ x.A))) || (decide (n ≤ x.B)))) && (decide (0 < (i : Int))))) (v := .int .i64 x.A) rfl rfl rfl (wt_gt (gd_of (t := 33) (by kernel_rfl) rfl)) (by kernel_rfl) (by kernel_rfl) (by kernel_rfl) (ST.sel hS4 [0] rfl rfl) (fun hg19 w' hw' => (Y_load1 (B := some ⟨b, 0, none⟩) (i := 0) (cs := [.int .i64 x.A, .int .i64 x.B]) (v := .int .i64 x.A) k_sc_3 rfl (gv_of (B := ((!(((decide (x.A < 0)) || (decide (x.B ≤ x.A))) || (decide (n ≤ x.B)))) && (decide (0 < (i : Int))))) (v := pt (some ⟨b, 0, none⟩) 0) hg19) (ST.cf hw' (i := 0) rfl) rfl)) ?_
    refine ra_gq 28 42 (B := ((!(((decide (x.A < 0)) || (decide (x.B ≤ x.A))) || (decide (n ≤ x.B)))) && (decide (0 < (i : Int))))) (v := .bool (decide (x.A < x1.A))) rfl rfl rfl (wt_gt (gd_of (t := 33) (by kernel_rfl) rfl)) (by kernel_rfl) (by kernel_rfl) (by kernel_rfl) (ST.sel hS4 [0] rfl rfl) (fun hg20 w' hw' => (Y_gt (k := .i64) (a := x1.A) (b := x.A) rfl (gv_of (B := ((!(((decide (x.A < 0)) || (decide (x.B ≤ x.A))) || (decide (n ≤ x.B)))) && (decide (0 < (i : Int))))) (v := .int .i64 x1.A) hg20) (gv_of (B := ((!(((decide (x.A < 0)) || (decide (x.B ≤ x.A))) || (decide (n ≤ x.B)))) && (decide (0 < (i : Int))))) (v := .int .i64 x.A) hg20))) ?_
    refine ra_gq 29 43 (B := ((!(((decide (x.A < 0)) || (decide (x.B ≤ x.A))) || (decide (n ≤ x.B)))) && (decide (0 < (i : Int))))) (v := .bool (decide (x.A < x1.A))) rfl rfl rfl (wt_gt (gd_of (t := 33) (by kernel_rfl) rfl)) (by kernel_rfl) (by kernel_rfl) (by kernel_rfl) (ST.sel hS4 [0] rfl rfl) (fun hg21 w' hw' => (Y_move (v := .bool (decide (x.A < x1.A))) rfl (gv_of (B := ((!(((decide (x.A < 0)) || (decide (x.B ≤ x.A))) || (decide (n ≤ x.B)))) && (decide (0 < (i : Int))))) (v := .bool (decide (x.A < x1.A))) hg21))) ?_
    refine ra_gq 30 44 (B := (((!(((decide (x.A < 0)) || (decide (x.B ≤ x.A))) || (decide (n ≤ x.B)))) && (decide (0 < (i : Int)))) && (!(decide (x.A < x1.A))))) (v := .slice B edges.length c) rfl rfl rfl (wt_gf (gd_of (t := 43) (by kernel_rfl) rfl)) (by kernel_rfl) (by kernel_rfl) (by kernel_rfl) (ST.sel hS4 [0] rfl rfl) (fun hg22 w' hw' => (Y_move (v := .slice B edges.length c) rfl (hf.get 1 1 rfl))) ?_
    refine ra_gq 31 45 (B := (((!(((decide (x.A < 0)) || (decide (x.B ≤ x.A))) || (decide (n ≤ x.B)))) && (decide (0 < (i : Int)))) && (!(decide (x.A < x1.A))))) (v := .int .i64 (i : Int)) rfl rfl rfl (wt_gf (gd_of (t := 43) (by kernel_rfl) rfl)) (by kernel_rfl) (by kernel_rfl) (by kernel_rfl) (ST.sel hS4 [0] rfl rfl) (fun hg23 w' hw' => (Y_move (v := .int .i64 (i : Int)) rfl rfl)) ?_
    refine ra_gq 32 46 (B := (((!(((decide (x.A < 0)) || (decide (x.B ≤ x.A))) || (decide (n ≤ x.B)))) && (decide (0 < (i : Int)))) && (!(decide (x.A < x1.A))))) (v := .int .i64 (IntKind.i64.wrap ((i : Int) - 1))) rfl rfl rfl (wt_gf (gd_of (t := 43) (by kernel_rfl) rfl)) (by kernel_rfl) (by kernel_rfl) (by kernel_rfl) (ST.sel hS4 [0] rfl rfl) (fun hg24 w' hw' => (Y_sub (k := .i64) (a := (i : Int)) (b := 1) rfl (gv_of (B := (((!(((decide (x.A < 0)) || (decide (x.B ≤ x.A))) || (decide (n ≤ x.B)))) && (decide (0 < (i : Int)))) && (!(decide (x.A < x1.A))))) (v := .int .i64 (i : Int)) hg24) rfl)) ?_
    refine ra_gq 33 47 (B := (((!(((decide (x.A < 0)) || (decide (x.B ≤ x.A))) || (decide (n ≤ x.B)))) && (decide (0 < (i : Int)))) && (!(decide (x.A < x1.A))))) (v := pt B ((IntKind.i64.wrap ((i : Int) - 1)).toNat * 2)) rfl rfl rfl (wt_gf (gd_of (t := 43) (by kernel_rfl) rfl)) (by kernel_rfl) (by kernel_rfl) (by kernel_rfl) (ST.sel hS4 [0] rfl rfl) (fun hg25 w' hw' => (Y_index (B := B) (m := edges.length) (c := c) (k := .i64) (i := (IntKind.i64.wrap ((i : Int) - 1))) k_sl_98_277 k_sz_277_2 rfl (gv_of (B := (((!(((decide (x.A < 0)) || (decide (x.B ≤ x.A))) || (decide (n ≤ x.B)))) && (decide (0 < (i : Int)))) && (!(decide (x.A < x1.A))))) (v := .slice B edges.length c) hg25) (gv_of (B := (((!(((decide (x.A < 0)) || (decide (x.B ≤ x.A))) || (decide (n ≤ x.B)))) && (decide (0 < (i : Int)))) && (!(decide (x.A < x1.A))))) (v := .int .i64 (IntKind.i64.wrap ((i : Int) - 1))) hg25) (gi_isSome enc_Edge_len rfl (ST.rf hw' (i := 0) rfl) (gb_inv hx2 hg25)) (getI_nn (gb_inv hx2 hg25)) (getI_ltI (gb_inv hx2 hg25) rfl))) ?_
    refine ra_gq 34 48 (B := (((!(((decide (x.A < 0)) || (decide (x.B ≤ x.A))) || (decide (n ≤ x.B)))) && (decide (0 < (i : Int)))) && (!(decide (x.A < x1.A))))) (v := pt B ((IntKind.i64.wrap ((i : Int) - 1)).toNat * 2 + 0)) rfl rfl rfl (wt_gf (gd_of (t := 43) (by kernel_rfl) rfl)) (by kernel_rfl) (by kernel_rfl) (by kernel_rfl) (ST.sel hS4 [0] rfl rfl) (fun hg26 w' hw' => (Y_fieldAddr (B := B) (i := (IntKind.i64.wrap ((i : Int) - 1)).toNat * 2) (s := 0) k_fd_277_0_0_3 k_sz_3_1 rfl (gv_of (B := (((!(((decide (x.A < 0)) || (decide (x.B ≤ x.A))) || (decide (n ≤ x.B)))) && (decide (0 < (i : Int)))) && (!(decide (x.A < x1.A))))) (v := pt B ((IntKind.i64.wrap ((i : Int) - 1)).toNat * 2)) hg26))) ?_
    refine ra_gq 35 49 (B := (((!(((decide (x.A < 0)) || (decide (x.B ≤ x.A))) || (decide (n ≤ x.B)))) && (decide (0 < (i : Int)))) && (!(decide (x.A < x1.A))))) (v := .int .i64 x2.A) rfl rfl rfl (wt_gf (gd_of (t := 43) (by kernel_rfl) rfl)) (by kernel_rfl) (by kernel_rfl) (by kernel_rfl) (ST.sel hS4 [0] rfl rfl) (fun hg27 w' hw' => (Y_load1 (B := B) (i := (IntKind.i64.wrap ((i : Int) - 1)).toNat * 2 + 0) (cs := (edges.flatMap enc_Edge)) (v := .int .i64 x2.A) k_sc_3 rfl (gv_of (B := (((!(((decide (x.A < 0)) || (decide (x.B ≤ x.A))) || (decide (n ≤ x.B)))) && (decide (0 < (i : Int)))) && (!(decide (x.A < x1.A))))) (v := pt B ((IntKind.i64.wrap ((i : Int) - 1)).toNat * 2 + 0)) hg27) (ST.rf hw' (i := 0) rfl) (gi_at enc_Edge_len (gb_inv hx2 hg27) rfl))) ?_
    refine ra_gq 36 50 (B := (((!(((decide (x.A < 0)) || (decide (x.B ≤ x.A))) || (decide (n ≤ x.B)))) && (decide (0 < (i : Int)))) && (!(decide (x.A < x1.A))))) (v := pt (some ⟨b, 0, none⟩) 0) rfl rfl rfl (wt_gf (gd_of (t := 43) (by kernel_rfl) rfl)) (by kernel_rfl) (by kernel_rfl) (by kernel_rfl) (ST.sel hS4 [0] rfl rfl) (fun hg28 w' hw' => (Y_fieldAddr (B := some ⟨b, 0, none⟩) (i := 0) (s := 0) k_fd_277_0_0_3 k_sz_3_1 rfl rfl)) ?_
    refine ra_gq 37 51 (B := (((!(((decide (x.A < 0)) || (decide (x.B ≤ x.A))) || (decide (n ≤ x.B)))) && (decide (0 < (i : Int)))) && (!(decide (x.A < x1.A))))) (v := .int .i64 x.A) rfl rfl rfl (wt_gf (gd_of (t := 43) (by kernel_rfl) rfl)) (by kernel_rfl) (by kernel_rfl) (by kernel_rfl) (ST.sel hS4 [0] rfl rfl) (fun hg29 w' hw' => (Y_load1 (B := some ⟨b, 0, none⟩) (i := 0) (cs := [.int .i64 x.A, .int .i64 x.B]) (v := .int .i64 x.A) k_sc_3 rfl (gv_of (B := (((!(((decide (x.A < 0)) || (decide (x.B ≤ x.A))) || (decide (n ≤ x.B)))) && (decide (0 < (i : Int)))) && (!(decide (x.A < x1.A))))) (v := pt (some ⟨b, 0, none⟩) 0) hg29) (ST.cf hw' (i := 0) rfl) rfl)) ?_
    refine ra_gq 38 52 (B := (((!(((decide (x.A < 0)) || (decide (x.B ≤ x.A))) || (decide (n ≤ x.B)))) && (decide (0 < (i : Int)))) && (!(decide (x.A < x1.A))))) (v := .bool (x2.A == x.A)) rfl rfl rfl (wt_gf (gd_of (t := 43) (by kernel_rfl) rfl)) (by kernel_rfl) (by kernel_rfl) (by kernel_rfl) (ST.sel hS4 [0] rfl rfl) (fun hg30 w' hw' => (Y_eq (k := .i64) (a := x2.A) (b := x.A) rfl (gv_of (B := (((!(((decide (x.A < 0)) || (decide (x.B ≤ x.A))) || (decide (n ≤ x.B)))) && (decide (0 < (i : Int)))) && (!(decide (x.A < x1.A))))) (v := .int .i64 x2.A) hg30) (gv_of (B := (((!(((decide (x.A < 0)) || (decide (x.B ≤ x.A))) || (decide (n ≤ x.B)))) && (decide (0 < (i : Int)))) && (!(decide (x.A < x1.A))))) (v := .int .i64 x.A) hg30))) ?_
    refine ra_gq 39 53 (B := (((!(((decide (x.A < 0)) || (decide (x.B ≤ x.A))) || (decide (n ≤ x.B)))) && (decide (0 < (i : Int)))) && (!(decide (x.A < x1.A))))) (v := .bool (x2.A == x.A)) rfl rfl rfl (wt_gf (gd_of (t := 43) (by kernel_rfl) rfl)) (by kernel_rfl) (by kernel_rfl) (by kernel_rfl) (ST.sel hS4 [0] rfl rfl) (fun hg31 w' hw' => (Y_move (v := .bool (x2.A == x.A)) rfl (gv_of (B := (((!(((decide (x.A < 0)) || (decide (x.B ≤ x.A))) || (decide (n ≤ x.B)))) && (decide (0 < (i : Int)))) && (!(decide (x.A < x1.A))))) (v := .bool (x2.A == x.A)) hg31))) ?_
    refine ra_gq 40 54 (B := ((((!(((decide (x.A < 0)) || (decide (x.B ≤ x.A))) || (decide (n ≤ x.B)))) && (decide (0 < (i : Int)))) && (!(decide (x.A < x1.A)))) && (x2.A == x.A))) (v := .slice B edges.length c) rfl rfl rfl (wt_gt (gd_of (t := 53) (by kernel_rfl) rfl)) (by kernel_rfl) (by kernel_rfl) (by kernel_rfl) (ST.sel hS4 [0] rfl rfl) (fun hg32 w' hw' => (Y_move (v := .slice B edges.length c) rfl (hf.get 1 1 rfl))) ?_
    refine ra_gq 41 55 (B := ((((!(((decide (x.A < 0)) || (decide (x.B ≤ x.A))) || (decide (n ≤ x.B)))) && (decide (0 < (i : Int)))) && (!(decide (x.A < x1.A)))) && (x2.A == x.A))) (v := .int .i64 (i : Int)) rfl rfl rfl (wt_gt (gd_of (t := 53) (by kernel_rfl) rfl)) (by kernel_rfl) (by kernel_rfl) (by kernel_rfl) (ST.sel hS4 [0] rfl rfl) (fun hg33 w' hw' => (Y_move (v := .int .i64 (i : Int)) rfl rfl)) ?_
    refine ra_gq 42 56 (B := ((((!(((decide (x.A < 0)) || (decide (x.B ≤ x.A))) || (decide (n ≤ x.B)))) && (decide (0 < (i : Int)))) && (!(decide (x.A < x1.A)))) && (x2.A == x.A))) (v := .int .i64 (IntKind.i64.wrap ((i : Int) - 1))) rfl rfl rfl (wt_gt (gd_of (t := 53) (by kernel_rfl) rfl)) (by kernel_rfl) (by kernel_rfl) (by kernel_rfl) (ST.sel hS4 [0] rfl rfl) (fun hg34 w' hw' => (Y_sub (k := .i64) (a := (i : Int)) (b := 1) rfl (gv_of (B := ((((!(((decide (x.A < 0)) || (decide (x.B ≤ x.A))) || (decide (n ≤ x.B)))) && (decide (0 < (i : Int)))) && (!(decide (x.A < x1.A)))) && (x2.A == x.A))) (v := .int .i64 (i : Int)) hg34) rfl)) ?_
    refine ra_gq 43 57 (B := ((((!(((decide (x.A < 0)) || (decide (x.B ≤ x.A))) || (decide (n ≤ x.B)))) && (decide (0 < (i : Int)))) && (!(decide (x.A < x1.A)))) && (x2.A == x.A))) (v := pt B ((IntKind.i64.wrap ((i : Int) - 1)).toNat * 2)) rfl rfl rfl (wt_gt (gd_of (t := 53) (by kernel_rfl) rfl)) (by kernel_rfl) (by kernel_rfl) (by kernel_rfl) (ST.sel hS4 [0] rfl rfl) (fun hg35 w' hw' => (Y_index (B := B) (m := edges.length) (c := c) (k := .i64) (i := (IntKind.i64.wrap ((i : Int) - 1))) k_sl_98_277 k_sz_277_2 rfl (gv_of (B := ((((!(((decide (x.A < 0)) || (decide (x.B ≤ x.A))) || (decide (n ≤ x.B)))) && (decide (0 < (i : Int)))) && (!(decide (x.A < x1.A)))) && (x2.A == x.A))) (v := .slice B edges.length c) hg35) (gv_of (B := ((((!(((decide (x.A < 0)) || (decide (x.B ≤ x.A))) || (decide (n ≤ x.B)))) && (decide (0 < (i : Int)))) && (!(decide (x.A < x1.A)))) && (x2.A == x.A))) (v := .int .i64 (IntKind.i64.wrap ((i : Int) - 1))) hg35) (gi_isSome enc_Edge_len rfl (ST.rf hw' (i := 0) rfl) (gb_inv hx3 hg35)) (getI_nn (gb_inv hx3 hg35)) (getI_ltI (gb_inv hx3 hg35) rfl))) ?_
    refine ra_gq 44 58 (B := ((((!(((decide (x.A < 0)) || (decide (x.B ≤ x.A))) || (decide (n ≤ x.B)))) && (decide (0 < (i : Int)))) && (!(decide (x.A < x1.A)))) && (x2.A == x.A))) (v := pt B ((IntKind.i64.wrap ((i : Int) - 1)).toNat * 2 + 1)) rfl rfl rfl (wt_gt (gd_of (t := 53) (by kernel_rfl) rfl)) (by kernel_rfl) (by kernel_rfl) (by kernel_rfl) (ST.sel hS4 [0] rfl rfl) (fun hg36 w' hw' => (Y_fieldAddr (B := B) (i := (IntKind.i64.wrap ((i : Int) - 1)).toNat * 2) (s := 0) k_fd_277_1_1_3 k_sz_3_1 rfl (gv_of (B := ((((!(((decide (x.A < 0)) || (decide (x.B ≤ x.A))) || (decide (n ≤ x.B)))) && (decide (0 < (i : Int)))) && (!(decide (x.A < x1.A)))) && (x2.A == x.A))) (v := pt B ((IntKind.i64.wrap ((i : Int) - 1)).toNat * 2)) hg36))) ?_
    refine ra_gq 45 59 (B := ((((!(((decide (x.A < 0)) || (decide (x.B ≤ x.A))) || (decide (n ≤ x.B)))) && (decide (0 < (i : Int)))) && (!(decide (x.A < x1.A)))) && (x2.A == x.A))) (v := .int .i64 x3.B) rfl rfl rfl (wt_gt (gd_of (t := 53) (by kernel_rfl) rfl)) (by kernel_rfl) (by kernel_rfl) (by kernel_rfl) (ST.sel hS4 [0] rfl rfl) (fun hg37 w' hw' => (Y_load1 (B := B) (i := (IntKind.i64.wrap ((i : Int) - 1)).toNat * 2 + 1) (cs := (edges.flatMap enc_Edge)) (v := .int .i64 x3.B) k_sc_3 rfl (gv_of (B := ((((!(((decide (x.A < 0)) || (decide (x.B ≤ x.A))) || (decide (n ≤ x.B)))) && (decide (0 < (i : Int)))) && (!(decide (x.A < x1.A)))) && (x2.A == x.A))) (v := pt B ((IntKind.i64.wrap ((i : Int) - 1)).toNat * 2 + 1)) hg37) (ST.rf hw' (i := 0) rfl) (gi_at enc_Edge_len (gb_inv hx3 hg37) rfl))) ?_
    refine ra_gq 46 60 (B := ((((!(((decide (x.A < 0)) || (decide (x.B ≤ x.A))) || (decide (n ≤ x.B)))) && (decide (0 < (i : Int)))) && (!(decide (x.A < x1.A)))) && (x2.A == x.A))) (v := pt (some ⟨b, 0, none⟩) 1) rfl rfl rfl (wt_gt (gd_of (t := 53) (by kernel_rfl) rfl)) (by kernel_rfl) (by kernel_rfl) (by kernel_rfl) (ST.sel hS4 [0] rfl rfl) (fun hg38 w' hw' => (Y_fieldAddr (B := some ⟨b, 0, none⟩) (i := 0) (s := 0) k_fd_277_1_1_3 k_sz_3_1 rfl rfl)) ?_
    refine ra_gq 47 61 (B := ((((!(((decide (x.A < 0)) || (decide (x.B ≤ x.A))) || (decide (n ≤ x.B)))) && (decide (0 < (i : Int)))) && (!(decide (x.A < x1.A)))) && (x2.A == x.A))) (v := .int .i64 x.B) rfl rfl rfl (wt_gt (gd_of (t := 53) (by kernel_rfl) rfl)) (by kernel_rfl) (by kernel_rfl) (by kernel_rfl) (ST.sel hS4 [0] rfl rfl) (fun hg39 w' hw' => (Y_load1 (B := some ⟨b, 0, none⟩) (i := 1) (cs := [.int .i64 x.A, .int .i64 x.B]) (v := .int .i64 x.B) k_sc_3 rfl (gv_of (B := ((((!(((decide (x.A < 0)) || (decide (x.B ≤ x.A))) || (decide (n ≤ x.B)))) && (decide (0 < (i : Int)))) && (!(decide (x.A < x1.A)))) && (x2.A == x.A))) (v := pt (some ⟨b, 0, none⟩) 1) hg39) (ST.cf hw' (i := 0) rfl) rfl)) ?_
    refine ra_gq 48 62 (B := ((((!(((decide (x.A < 0)) || (decide (x.B ≤ x.A))) || (decide (n ≤ x.B)))) && (decide (0 < (i : Int)))) && (!(decide (x.A < x1.A)))) && (x2.A == x.A))) (v := .bool (decide (x.B ≤ x3.B))) rfl rfl rfl (wt_gt (gd_of (t := 53) (by kernel_rfl) rfl)) (by kernel_rfl) (by kernel_rfl) (by kernel_rfl) (ST.sel hS4 [0] rfl rfl) (fun hg40 w' hw' => (Y_ge (k := .i64) (a := x3.B) (b := x.B) rfl (gv_of (B := ((((!(((decide (x.A < 0)) || (decide (x.B ≤ x.A))) || (decide (n ≤ x.B)))) && (decide (0 < (i : Int)))) && (!(decide (x.A < x1.A)))) && (x2.A == x.A))) (v := .int .i64 x3.B) hg40) (gv_of (B := ((((!(((decide (x.A < 0)) || (decide (x.B ≤ x.A))) || (decide (n ≤ x.B)))) && (decide (0 < (i : Int)))) && (!(decide (x.A < x1.A)))) && (x2.A == x.A))) (v := .int .i64 x.B) hg40))) ?_
    refine ra_gq 49 63 (B := (((!(((decide (x.A < 0)) || (decide (x.B ≤ x.A))) || (decide (n ≤ x.B)))) && (decide (0 < (i : Int)))) && (!(decide (x.A < x1.A))))) (v := .bool ((x2.A == x.A) && (decide (x.B ≤ x3.B)))) rfl rfl rfl (wt_gf (gd_of (t := 43) (by kernel_rfl) rfl)) (by kernel_rfl) (by kernel_rfl) (by kernel_rfl) (ST.sel hS4 [0] rfl rfl) (fun hg41 w' hw' => (Y_and (b := (x2.A == x.A)) (z := (decide (x.B ≤ x3.B))) rfl (gv_of (B := (((!(((decide (x.A < 0)) || (decide (x.B ≤ x.A))) || (decide (n ≤ x.B)))) && (decide (0 < (i : Int)))) && (!(decide (x.A < x1.A))))) (v := .bool (x2.A == x.A)) hg41) (gv_and (B := (((!(((decide (x.A < 0)) || (decide (x.B ≤ x.A))) || (decide (n ≤ x.B)))) && (decide (0 < (i : Int)))) && (!(decide (x.A < x1.A))))) (C := (x2.A == x.A)) (v := .bool (decide (x.B ≤ x3.B))) hg41) rfl)) ?_
    refine ra_gq 50 64 (B := ((!(((decide (x.A < 0)) || (decide (x.B ≤ x.A))) || (decide (n ≤ x.B)))) && (decide (0 < (i : Int))))) (v := .bool ((decide (x.A < x1.A)) || ((x2.A == x.A) && (decide (x.B ≤ x3.B))))) rfl rfl rfl (wt_gt (gd_of (t := 33) (by kernel_rfl) rfl)) (by kernel_rfl) (by kernel_rfl) (by kernel_rfl) (ST.sel hS4 [0] rfl rfl) (fun hg42 w' hw' => (Y_or (b := (decide (x.A < x1.A))) (z := ((x2.A == x.A) && (decide (x.B ≤ x3.B)))) rfl (gv_of (B := ((!(((decide (x.A < 0)) || (decide (x.B ≤ x.A))) || (decide (n ≤ x.B)))) && (decide (0 < (i : Int))))) (v := .bool (decide (x.A < x1.A))) hg42) rfl (gv_and (B := ((!(((decide (x.A < 0)) || (decide (x.B ≤ x.A))) || (decide (n ≤ x.B)))) && (decide (0 < (i : Int))))) (C := (!(decide (x.A < x1.A)))) (v := .bool ((x2.A == x.A) && (decide (x.B ≤ x3.B)))) hg42))) ?_
    refine ra_gq 51 65 (B := (!(((decide (x.A < 0)) || (decide (x.B ≤ x.A))) || (decide (n ≤ x.B))))) (v := .bool ((decide (0 < (i : Int))) && ((decide (x.A < x1.A)) || ((x2.A == x.A) && (decide (x.B ≤ x3.B)))))) rfl rfl rfl (wt_f (gd_of (t := 30) (by kernel_rfl) rfl)) (by kernel_rfl) (by kernel_rfl) (by kernel_rfl) (ST.sel hS4 [0] rfl rfl) (fun hg43 w' hw' => (Y_and (b := (decide (0 < (i : Int)))) (z := ((decide (x.A < x1.A)) || ((x2.A == x.A) && (decide (x.B ≤ x3.B))))) rfl (gv_of (B := (!(((decide (x.A < 0)) || (decide (x.B ≤ x.A))) || (decide (n ≤ x.B))))) (v := .bool (decide (0 < (i : Int)))) hg43) (gv_and (B := (!(((decide (x.A < 0)) || (decide (x.B ≤ x.A))) || (decide (n ≤ x.B))))) (C := (decide (0 < (i : Int)))) (v := .bool ((decide (x.A < x1.A)) || ((x2.A == x.A) && (decide (x.B ≤ x3.B))))) hg43) rfl)) ?_
    refine ra_q 52 66 (v := .bool ((((decide (x.A < 0)) || (decide (x.B ≤ x.A))) || (decide (n ≤ x.B))) || ((decide (0 < (i : Int))) && ((decide (x.A < x1.A)) || ((x2.A == x.A) && (decide (x.B ≤ x3.B))))))) rfl rfl rfl (by kernel_rfl) (by kernel_rfl) (by kernel_rfl) (ST.sel hS4 [0] rfl rfl) (fun w' hw' => (Y_or (b := (((decide (x.A < 0)) || (decide (x.B ≤ x.A))) || (decide (n ≤ x.B)))) (z := ((decide (0 < (i : Int))) && ((decide (x.A < x1.A)) || ((x2.A == x.A) && (decide (x.B ≤ x3.B)))))) rfl rfl rfl rfl)) ?_
    refine ra_done (by kernel_rfl) ?_
    refine cw_cond (b := ((((decide (x.A < 0)) || (decide (x.B ≤ x.A))) || (decide (n ≤ x.B))) || ((decide (0 < (i : Int))) && ((decide (x.A < x1.A)) || ((x2.A == x.A) && (decide (x.B ≤ x3.B))))))) rfl (fun hb1 => ?_) (fun hb1 => ?_)
    · skip
      have hF2 := ct hb hb1
      refine cw_seq ?_
      refine cw_region ?_
      refine sq 4 rfl rfl (Y_assign (v := .bool false) rfl rfl) ?_
      refine rw_nil ?_
      refine cw_ret ?_
      obtain rfl := some_inj hF2
      obtain rfl := some_inj hL1
      obtain rfl := some_inj hF1
      exact ret1 Try.results312 (v1 := .bool false) (resAt_tmp rfl) ⟨rfl, (ST.subR (R' := []) (hS4.sel [] rfl rfl) (fun _ h => by cases h))⟩
    · skip
      have hF3 := cf' hb hb1
      refine cw_skip ?_
      refine cw_region ?_
      refine sq 67 rfl rfl (Y_add (k := .i64) (a := (i : Int)) (b := 1) rfl (hf.get 9 4 rfl) rfl) ?_
      refine sq 9 rfl rfl (Y_move (v := .int .i64 (IntKind.i64.wrap ((i : Int) + 1))) rfl rfl) ?_
      refine rw_nil ?_
      obtain rfl := some_inj hF3
      exact ⟨k_1, Nat.lt_succ_self _, i + 1, (FF.cons (hf.get 0 0 rfl) (FF.cons (hf.get 1 1 rfl) (FF.cons (hf.get 7 2 rfl) (FF.cons (hf.get 8 3 rfl) (FF.cons (congrArg (Value.int .i64) (wr_succ hlt1 hN)) FF.nil))))), (hS4.sel [] rfl rfl), (by omega), hL1⟩
  · skip
    obtain rfl : k_ = 0 := by have h := of_decide_eq_false hlt; omega
    refine cw_exit rfl ?_
    obtain rfl := some_inj hL
    refine cw_seq ?_
    refine cw_region ?_
    refine sq 4 rfl rfl (Y_assign (v := .bool true) rfl rfl) ?_
    refine rw_nil ?_
    refine cw_ret ?_
    obtain rfl := some_inj hF1
    exact ret1 Try.results312 (v1 := .bool true) (resAt_tmp rfl) ⟨rfl, (ST.subR (R' := []) (hS1.sel [] rfl rfl) (fun _ h => by cases h))⟩

theorem c_impl_IsValidCouplingGraph (g : TCouplingGraph) (B : Option Addr) (c n : Nat) (w0 : World) (hn : g.Edges.length = n) (hS : ST w0 [] w0 [] [⟨B, (g.Edges.flatMap enc_Edge)⟩]) {r_ : Bool} (hF : F_impl_IsValidCouplingGraph g = some r_) :
    CV Try.prog 242 #[.agg #[.int .i64 g.Nodes, .slice B n c]] w0 (fun v w' => v = .bool r_ ∧ ST w0 [] w' [] []) := by
  subst hn
  unfold F_impl_IsValidCouplingGraph at hF
  refine cv_of_cw 13 Try.func242 rfl Try.ntmps242 rfl ?_
  refine cw_seq ?_
  refine cw_region ?_
  refine ss 1 rfl rfl (Ys_box (T := 100) (v := .agg #[.int .i64 g.Nodes, .slice B g.Edges.length c]) (cs := [.int .i64 g.Nodes, .slice B g.Edges.length c]) (m := 2) hS rfl rfl rfl rfl) ?_
  rintro _ w_ ⟨b, rfl, hS1⟩
  refine sq 2 rfl rfl (Y_assign (v := .bool false) rfl rfl) ?_
  refine rw_nil ?_
  refine cw_seq ?_
  refine cw_region ?_
  refine sq 3 rfl rfl (Y_fieldAddr (B := some ⟨b, 0, none⟩) (i := 0) (s := 0) k_fd_100_0_0_3 k_sz_3_1 rfl rfl) ?_
  refine sq 4 rfl rfl (Y_load1 (B := some ⟨b, 0, none⟩) (i := 0) (cs := [.int .i64 g.Nodes, .slice B g.Edges.length c]) (v := .int .i64 g.Nodes) k_sc_3 rfl rfl (hS1.cf (i := 0) rfl) rfl) ?_
  obtain ⟨r_1, hc, hF⟩ := bind_inv hF
  refine sc 5 rfl rfl (Yc_func (g := 130) (vs := [.int .i64 g.Nodes, .int .i64 1, .int .i64 8]) k_call_130 rfl (mc rfl (mc rfl (mc rfl mn))) (c_impl_within g.Nodes 1 8 _  (hS1.inn0 [] rfl) hc)) ?_
  rintro _ w_1 ⟨rfl, hd⟩
  have hS2 := hS1.out00 hd
  refine sq 6 rfl rfl (Y_move (v := .bool r_1) rfl rfl) ?_
  refine sgq 7 (B := r_1) (v := pt (some ⟨b, 0, none⟩) 0) rfl rfl (wt_t (gd_of (t := 6) (by kernel_rfl) rfl)) (fun hg => (Y_fieldAddr (B := some ⟨b, 0, none⟩) (i := 0) (s := 0) k_fd_100_0_0_3 k_sz_3_1 rfl rfl)) ?_
  refine sgq 8 (B := r_1) (v := .int .i64 g.Nodes) rfl rfl (wt_t (gd_of (t := 6) (by kernel_rfl) rfl)) (fun hg1 => (Y_load1 (B := some ⟨b, 0, none⟩) (i := 0) (cs := [.int .i64 g.Nodes, .slice B g.Edges.length c]) (v := .int .i64 g.Nodes) k_sc_3 rfl (gv_of (B := r_1) (v := pt (some ⟨b, 0, none⟩) 0) hg1) (hS2.cf (i := 0) rfl) rfl)) ?_
  refine sgq 9 (B := r_1) (v := pt (some ⟨b, 0, none⟩) 1) rfl rfl (wt_t (gd_of (t := 6) (by kernel_rfl) rfl)) (fun hg2 => (Y_fieldAddr (B := some ⟨b, 0, none⟩) (i := 0) (s := 0) k_fd_100_1_1_98 k_sz_98_1 rfl rfl)) ?_
  refine sgq 10 (B := r_1) (v := .slice B g.Edges.length c) rfl rfl (wt_t (gd_of (t := 6) (by kernel_rfl) rfl)) (fun hg3 => (Y_load1 (B := some ⟨b, 0, none⟩) (i := 1) (cs := [.int .i64 g.Nodes, .slice B g.Edges.length c]) (v := .slice B g.Edges.length c) k_sc_98 rfl (gv_of (B := r_1) (v := pt (some ⟨b, 0, none⟩) 1) hg3) (hS2.cf (i := 0) rfl) rfl)) ?_
  obtain ⟨r_2, hc1, hF⟩ := bind_inv hF
  refine sgc 11 (B := r_1) (v := .bool r_2) (F := hS2.fn) rfl rfl (wt_t (gd_of (t := 6) (by kernel_rfl) rfl)) hS2 (fun hg4 => (Yc_func (g := 312) (vs := [.int .i64 g.Nodes, .slice B g.Edges.length c]) k_call_312 rfl (mc (gv_of (B := r_1) (v := .int .i64 g.Nodes) hg4) (mc (gv_of (B := r_1) (v := .slice B g.Edges.length c) hg4) mn)) (CV.mono (c_impl_areEdges g.Nodes g.Edges B c g.Edges.length _ rfl (hS2.inn0 [(true, 0)] rfl) (gb_inv hc1 hg4)) (by rintro _ _ ⟨rfl, h⟩; exact ⟨rfl, hS2.out00 h⟩)))) ?_
  rintro w_2 hS3
  have hS3 : ST _ _ w_2 _ _ := hS3
  refine sq 12 rfl rfl (Y_and (b := r_1) (z := r_2) rfl rfl rfl rfl) ?_
  refine sq 2 rfl rfl (Y_assign (v := .bool (r_1 && r_2)) rfl rfl) ?_
  refine rw_nil ?_
  refine cw_ret ?_
  obtain rfl := some_inj hF
  exact ret1 Try.results242 (v1 := .bool (r_1 && r_2)) (resAt_tmp rfl) ⟨rfl, (ST.subR (R' := []) (hS3.sel [] rfl rfl) (fun _ h => by cases h))⟩

theorem c_slices_IndexFunc_impl_Gate_impl_Gate (s : List TGate) (f_ : TGate → Option (Bool)) (B : Option Addr) (c n : Nat) (kf : Nat) (caps : Array Value) (Rf : List Ro) (w0 : World) (hn : s.length = n) (hk : callB Try.prog kf = true) (hp : ∀ (w : World), ST w [] w [] Rf → ∀ (x : TGate) (y : Bool), f_ x = some y → CV Try.prog kf ((.agg #[.int .i64 x.Kind, .int .i64 x.A, .int .i64 x.B]) :: caps.toList).toArray w (fun v w' => v = .bool y ∧ ST w [] w' [] [])) (hS : ST w0 [] w0 [] (⟨B, (s.flatMap enc_Gate)⟩ :: Rf)) {r_ : Int} (hF : F_slices_IndexFunc_impl_Gate_impl_Gate s f_ = some r_) :
    CV Try.prog 336 #[.slice B n c, .func (.func kf) #[] caps] w0 (fun v w' => v = .int .i64 r_ ∧ ST w0 [] w' [] []) := by
  subst hn
  unfold F_slices_IndexFunc_impl_Gate_impl_Gate at hF
  refine cv_of_cw 19 Try.func336 rfl Try.ntmps336 rfl ?_
  refine cw_seq ?_
  refine cw_region ?_
  refine sq 4 rfl rfl (Y_assign (v := .int .i64 0) rfl rfl) ?_
  refine rw_nil ?_
  refine cw_seq ?_
  refine cw_seq ?_
  refine cw_region ?_
  refine sq 6 rfl rfl (Y_move (v := .slice B s.length c) rfl rfl) ?_
  refine sq 7 rfl rfl (Y_len (B := B) (m := s.length) (c := c) k_sl_102_213 rfl rfl) ?_
  refine sq 8 rfl rfl (Y_move (v := .int .i64 0) rfl rfl) ?_
  refine rw_nil ?_
  obtain ⟨hN, hF⟩ := chk_inv hF
  obtain ⟨z, hz, hF1⟩ := bind_inv hF
  refine cw_block ?_
  refine cw_loop (fun k f w => ∃ (i : Nat), FF f [(0, .slice B s.length c), (1, .func (.func kf) #[] caps), (7, .int .i64 (s.length : Int)), (8, .int .i64 (i : Int))] ∧ ST w0 [] w [] (⟨B, (s.flatMap enc_Gate)⟩ :: Rf) ∧ i + k = s.length ∧ forX (F_slices_IndexFunc_impl_Gate_impl_Gate_l1 s f_) k i () = some z) s.length ⟨0, (FF.cons rfl (FF.cons rfl (FF.cons rfl (FF.cons rfl FF.nil)))), (hS.sel [] rfl rfl), Nat.zero_add _, hz⟩ ?_
  rintro k_ f w ⟨i, hf, hS1, hik, hL⟩
  refine cw_seq ?_
  refine cw_region ?_
  refine sq 9 rfl rfl (Y_lt (k := .i64) (a := (i : Int)) (b := (s.length : Int)) rfl (hf.get 8 3 rfl) (hf.get 7 2 rfl)) ?_
  refine rw_nil ?_
  refine cw_seq ?_
  refine cw_cond (b := (decide ((i : Int) < (s.length : Int)))) rfl (fun hlt => ?_) (fun hlt => ?_)
  · skip
    have hlt1 : i < s.length := by have h := of_decide_eq_true hlt; omega
    obtain ⟨k_1, rfl⟩ : ∃ k2, k_ = k2 + 1 := ⟨k_ - 1, by omega⟩
    obtain ⟨y1, hb, hL1⟩ := forX_go hL
    unfold F_slices_IndexFunc_impl_Gate_impl_Gate_l1 at hb
    refine cw_skip ?_
    refine cw_seq ?_
    refine cw_block ?_
    refine cw_seq ?_
    refine cw_region ?_
    refine sq 10 rfl rfl (Y_move (v := .int .i64 (i : Int)) rfl (hf.get 8 3 rfl)) ?_
    refine sq 5 rfl rfl (Y_assign (v := .int .i64 (i : Int)) rfl rfl) ?_
    refine rw_nil ?_
    refine cw_seq ?_
    refine cw_region ?_
    refine sq 11 rfl rfl (Y_move (v := .func (.func kf) #[] caps) rfl (hf.get 1 1 rfl)) ?_
    refine sq 12 rfl rfl (Y_move (v := .slice B s.length c) rfl (hf.get 0 0 rfl)) ?_
    refine sq 13 rfl rfl (Y_move (v := .int .i64 (i : Int)) rfl rfl) ?_
    obtain ⟨x1, hx, hb⟩ := bind_inv hb
    refine sq 14 rfl rfl (Y_index (B := B) (m := s.length) (c := c) (k := .i64) (i := (i : Int)) k_sl_102_213 k_sz_213_3 rfl rfl rfl (gi_isSome enc_Gate_len rfl (hS1.rf (i := 0) rfl) hx) (getI_nn hx) (getI_ltI hx rfl)) ?_
    refine sq 15 rfl rfl (Y_loadA (B := B) (i := (i : Int).toNat * 3) (cs := (s.flatMap enc_Gate)) (vs := [.int .i64 x1.Kind, .int .i64 x1.A, .int .i64 x1.B]) k_ag_213 k_sz_213_3 rfl rfl (hS1.rf (i := 0) rfl) (enc_Gate_len x1) (gi_seg enc_Gate_len hx)) ?_
    obtain ⟨r_1, hc, hb⟩ := bind_inv hb
    refine sc 16 rfl rfl (Yc_clos (g := kf) (vs := (.agg #[.int .i64 x1.Kind, .int .i64 x1.A, .int .i64 x1.B]) :: caps.toList) hk rfl rfl (clo_args (mc rfl mn)) (hp _ (hS1.innS (fun _ h => List.mem_of_mem_drop (i := 1) h)) x1 r_1 hc)) ?_
    rintro _ w_ ⟨rfl, hd⟩
    have hS2 := hS1.out00 hd
    refine rw_nil ?_
    refine cw_cond (b := r_1) rfl (fun hb1 => ?_) (fun hb1 => ?_)
    · skip
      have hF2 := ct hb hb1
      refine cw_seq ?_
      refine cw_region ?_
      refine sq 17 rfl rfl (Y_move (v := .int .i64 (i : Int)) rfl rfl) ?_
      refine sq 4 rfl rfl (Y_assign (v := .int .i64 (i : Int)) rfl rfl) ?_
      refine rw_nil ?_
      refine cw_ret ?_
      obtain rfl := some_inj hF2
      obtain rfl := some_inj hL1
      obtain rfl := some_inj hF1
      exact ret1 Try.results336 (v1 := .int .i64 (i : Int)) (resAt_tmp rfl) ⟨rfl, (ST.subR (R' := []) (hS2.sel [] rfl rfl) (fun _ h => by cases h))⟩
    · skip
      have hF3 := cf' hb hb1
      refine cw_skip ?_
      refine cw_region ?_
      refine sq 18 rfl rfl (Y_add (k := .i64) (a := (i : Int)) (b := 1) rfl (hf.get 8 3 rfl) rfl) ?_
      refine sq 8 rfl rfl (Y_move (v := .int .i64 (IntKind.i64.wrap ((i : Int) + 1))) rfl rfl) ?_
      refine rw_nil ?_
      obtain rfl := some_inj hF3
      exact ⟨k_1, Nat.lt_succ_self _, i + 1, (FF.cons (hf.get 0 0 rfl) (FF.cons (hf.get 1 1 rfl) (FF.cons (hf.get 7 2 rfl) (FF.cons (congrArg (Value.int .i64) (wr_succ hlt1 hN)) FF.nil)))), (hS2.sel [] rfl rfl), (by omega), hL1⟩
  · skip
    obtain rfl : k_ = 0 := by have h := of_decide_eq_false hlt; omega
    refine cw_exit rfl ?_
    obtain rfl := some_inj hL
    refine cw_seq ?_
    refine cw_region ?_
    refine sq 4 rfl rfl (Y_assign (v := .int .i64 (-1)) rfl rfl) ?_
    refine rw_nil ?_
    refine cw_ret ?_
    obtain rfl := some_inj hF1
    exact ret1 Try.results336 (v1 := .int .i64 (-1)) (resAt_tmp rfl) ⟨rfl, (ST.subR (R' := []) (hS1.sel [] rfl rfl) (fun _ h => by cases h))⟩

theorem c_slices_ContainsFunc_impl_Gate_impl_Gate (s : List TGate) (f_ : TGate → Option (Bool)) (B : Option Addr) (c n : Nat) (kf : Nat) (caps : Array Value) (Rf : List Ro) (w0 : World) (hn : s.length = n) (hk : callB Try.prog kf = true) (hp : ∀ (w : World), ST w [] w [] Rf → ∀ (x : TGate) (y : Bool), f_ x = some y → CV Try.prog kf ((.agg #[.int .i64 x.Kind, .int .i64 x.A, .int .i64 x.B]) :: caps.toList).toArray w (fun v w' => v = .bool y ∧ ST w [] w' [] [])) (hS : ST w0 [] w0 [] (⟨B, (s.flatMap enc_Gate)⟩ :: Rf)) {r_ : Bool} (hF : F_slices_ContainsFunc_impl_Gate_impl_Gate s f_ = some r_) :
    CV Try.prog 313 #[.slice B n c, .func (.func kf) #[] caps] w0 (fun v w' => v = .bool r_ ∧ ST w0 [] w' [] []) := by
  subst hn
  unfold F_slices_ContainsFunc_impl_Gate_impl_Gate at hF
  refine cv_of_cw 9 Try.func313 rfl Try.ntmps313 rfl ?_
  refine cw_seq ?_
  refine cw_region ?_
  refine sq 4 rfl rfl (Y_assign (v := .bool false) rfl rfl) ?_
  refine rw_nil ?_
  refine cw_seq ?_
  refine cw_region ?_
  refine sq 5 rfl rfl (Y_move (v := .slice B s.length c) rfl rfl) ?_
  refine sq 6 rfl rfl (Y_move (v := .func (.func kf) #[] caps) rfl rfl) ?_
  obtain ⟨r_1, hc, hF⟩ := bind_inv hF
  refine sc 7 rfl rfl (Yc_func (g := 336) (vs := [.slice B s.length c, .func (.func kf) #[] caps]) k_call_336 rfl (mc rfl (mc rfl mn)) (c_slices_IndexFunc_impl_Gate_impl_Gate s f_ B c s.length kf caps Rf _ rfl hk hp (hS.innS (subc (mem_at (i := 0) rfl) (fun _ h => List.mem_of_mem_drop (i := 1) h))) hc)) ?_
  rintro _ w_ ⟨rfl, hd⟩
  have hS1 := hS.out00 hd
  refine sq 8 rfl rfl (Y_ge (k := .i64) (a := r_1) (b := 0) rfl rfl rfl) ?_
  refine sq 4 rfl rfl (Y_assign (v := .bool (decide (0 ≤ r_1))) rfl rfl) ?_
  refine rw_nil ?_
  refine cw_ret ?_
  obtain rfl := some_inj hF
  exact ret1 Try.results313 (v1 := .bool (decide (0 ≤ r_1))) (resAt_tmp rfl) ⟨rfl, (ST.subR (R' := []) (hS1.sel [] rfl rfl) (fun _ h => by cases h))⟩

theorem c_impl_isTwo (kind : Int)  (w0 : World)  (hS : ST w0 [] w0 [] []) {r_ : Bool} (hF : F_impl_isTwo kind = some r_) :
    CV Try.prog 250 #[.int .i64 kind] w0 (fun v w' => v = .bool r_ ∧ ST w0 [] w' [] []) := by
  unfold F_impl_isTwo at hF
  refine cv_of_cw 5 Try.func250 rfl Try.ntmps250 rfl ?_
  refine cw_seq ?_
  refine cw_region ?_
  refine sq 2 rfl rfl (Y_assign (v := .bool false) rfl rfl) ?_
  refine rw_nil ?_
  refine cw_seq ?_
  refine cw_region ?_
  refine sq 3 rfl rfl (Y_move (v := .int .i64 kind) rfl rfl) ?_
  obtain ⟨r_1, hc, hF⟩ := bind_inv hF
  refine sc 4 rfl rfl (Yc_func (g := 130) (vs := [.int .i64 kind, .int .i64 9, .int .i64 11]) k_call_130 rfl (mc rfl (mc rfl (mc rfl mn))) (c_impl_within kind 9 11 _  (hS.inn0 [] rfl) hc)) ?_
  rintro _ w_ ⟨rfl, hd⟩
  have hS1 := hS.out00 hd
  refine sq 2 rfl rfl (Y_assign (v := .bool r_1) rfl rfl) ?_
  refine rw_nil ?_
  refine cw_ret ?_
  obtain rfl := some_inj hF
  exact ret1 Try.results250 (v1 := .bool r_1) (resAt_tmp rfl) ⟨rfl, (ST.subR (R' := []) (hS1.sel [] rfl rfl) (fun _ h => by cases h))⟩
end Go.VK
