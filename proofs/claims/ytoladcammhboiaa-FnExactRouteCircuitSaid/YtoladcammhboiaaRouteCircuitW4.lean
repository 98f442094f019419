/- Walks: each Go function returns what its Lean function says. By program. -/
import Derived.Test.YtoladcammhboiaaRouteCircuitFa
import Derived.Test.YtoladcammhboiaaRouteCircuitW3
set_option linter.unusedVariables false
set_option maxRecDepth 100000
set_option maxHeartbeats 1000000
namespace Go.VK
open Go.RowKit
open Go.Proofs
attribute [local irreducible] CW RW RA CV Y Yw Yc Ys RetOf
attribute [local irreducible] F_laws_szEdgeS F_laws_szCouplingGraph F_laws_szGateS F_laws_szCircuit F_laws_szIntS F_laws_szRouteStepS F_laws_szRoute F_laws_toEdge F_laws_toEdgeS F_laws_toCouplingGraph F_laws_toGate F_laws_toGateS F_laws_toCircuit F_laws_toIntS F_laws_toRouteStep F_laws_toRouteStepS F_laws_toRoute F_laws_eqEdge F_laws_eqEdgeS F_laws_eqCouplingGraph F_laws_eqGate F_laws_eqGateS F_laws_eqCircuit F_laws_eqIntS F_laws_eqRouteStep F_laws_eqRouteStepS F_laws_eqRoute F_laws_markEdgeS F_laws_markCouplingGraph F_laws_markGateS F_laws_markCircuit F_laws_markIntS F_laws_markRouteStepS F_laws_markRoute F_spec_l1In F_spec_l22Valid F_spec_l4Gate F_spec_l4Good F_spec_l23Fits F_spec_l1Own F_spec_l23Swap F_spec_l1Has F_spec_l23Placement F_spec_l22Edge F_spec_l22Two F_spec_l23Qubits F_spec_l23Ready F_spec_l23Near F_spec_l23Play F_spec_RouteCircuit F_impl_within F_impl_areEdges F_impl_IsValidCouplingGraph F_slices_IndexFunc_impl_Gate_impl_Gate F_slices_ContainsFunc_impl_Gate_impl_Gate F_impl_isTwo F_impl_IsValidGate F_impl_IsValidCircuit_1 F_impl_IsValidCircuit F_impl_canRoute F_slices_Clone_int_int F_impl_newRouting F_slices_Index_impl_Edge_impl_Edge F_slices_Contains_impl_Edge_impl_Edge F_impl_CouplingGraph_joins F_impl_routing_swap F_slices_IndexFunc_int_int F_slices_ContainsFunc_int_int F_impl_qubitsOf F_slices_Index_int_int F_slices_Contains_int_int F_impl_meet_1 F_impl_meet F_impl_routing_isReady F_impl_routing_fits F_impl_routing_step F_impl_CouplingGraph_isPlacement F_slices_Index_bool_bool F_slices_Contains_bool_bool F_impl_check F_impl_CheckRoute F_impl_mapped F_impl_circuitIf F_impl_RouteCircuit F_laws_heldGateS F_laws_heldCircuit F_laws_FnExactRouteCircuit
theorem c_impl_circuitIf (n : Int) (gates : List TGate) (B : Option Addr) (c n1 : Nat) (w0 : World) (hn : gates.length = n1) (hS : ST w0 [] w0 [] [⟨B, (gates.flatMap enc_Gate)⟩]) {r_ : TCircuit} {r_1 : Bool} (hF : F_impl_circuitIf n gates = some (r_, r_1)) :
    CV Try.prog 167 #[.int .i64 n, .slice B n1 c] w0 (fun v w' => ∃ (B1 : Option Addr) (c1 : Nat), v = .tuple #[.agg #[.int .i64 r_.Qubits, .slice B1 r_.Gates.length c1], .bool r_1] ∧ ST w0 [] w' [⟨B1, 213, (r_.Gates.flatMap enc_Gate), c1 * 3⟩] []) := by
  subst hn
  unfold F_impl_circuitIf at hF
  refine cv_of_cw 17 Try.func167 rfl Try.ntmps167 rfl ?_
  refine cw_seq ?_
  refine cw_region ?_
  refine ss 4 rfl rfl (Ys_alloc (T := 104) (cs := [.int .i64 0, .slice none 0 0]) (m := 2) hS k_zero_104 rfl rfl rfl) ?_
  rintro _ w_ ⟨b, rfl, hS1⟩
  refine sq 5 rfl rfl (Y_assign (v := .bool false) rfl rfl) ?_
  refine rw_nil ?_
  refine cw_seq ?_
  refine cw_region ?_
  refine sq 7 rfl rfl (Y_move (v := .int .i64 n) rfl rfl) ?_
  refine ss 8 rfl rfl (Ys_bslice0 (s := 3) (e := 213) hS1 k_sl_102_213 k_sz_213_3 rfl) ?_
  rintro _ w_1 ⟨b1, rfl, hS2⟩
  have hS2 : ST w0 [] _ [⟨some ⟨b, 0, none⟩, 104, [.int .i64 0, .slice none 0 0], 2⟩, ⟨some ⟨b1, 0, none⟩, 213, ([].flatMap enc_Gate), 0 * 3⟩] [⟨B, (gates.flatMap enc_Gate)⟩] := hS2
  refine sq 9 rfl rfl (Y_move (v := .slice B gates.length c) rfl rfl) ?_
  obtain ⟨hap, hF⟩ := chk_inv hF
  refine ss 10 rfl rfl (Ys_append (s := 3) (by' := 24) (i := 1) (nn := 0) (c := 0) (k := gates.length) (len := gates.length) (B := some ⟨b1, 0, none⟩) (xs := (gates.flatMap enc_Gate)) (cs' := (gates.flatMap enc_Gate)) hS2 k_sl_102_213 k_sz_213_3 k_by_213_24 k_zero_213 rfl (by decide) rfl rfl rfl rfl (fm_lenn (l := []) enc_Gate_len rfl) rfl (hS2.rf (i := 0) rfl) (fm_lenn (l := gates) enc_Gate_len rfl) (fm_one' (enc := enc_Gate) enc_Gate_one gates) (by have := hap; omega) (by have := hap; simp only [maxLen]; omega) rfl (app_len0 (l := gates) rfl)) ?_
  rintro _ w_2 ⟨B2, c2, rfl, hS3⟩
  have hS3 : ST w0 [] _ [⟨some ⟨b, 0, none⟩, 104, [.int .i64 0, .slice none 0 0], 2⟩, ⟨B2, 213, (gates.flatMap enc_Gate), c2 * 3⟩] [⟨B, (gates.flatMap enc_Gate)⟩] := hS3
  refine sq 11 rfl rfl (Y_buildS (zs := [.int .i64 0, .slice none 0 0]) (vs := [(0, .int .i64 n), (1, .slice B2 gates.length c2)]) (cs := [.int .i64 n, .slice B2 gates.length c2]) k_pl_104 k_zero_104 rfl (mpc rfl (mpc rfl mpn)) rfl) ?_
  refine ss 6 rfl rfl (Ys_alloc (T := 104) (cs := [.int .i64 0, .slice none 0 0]) (m := 2) hS3 k_zero_104 rfl rfl rfl) ?_
  rintro _ w_3 ⟨b2, rfl, hS4⟩
  have hS4 : ST w0 [] _ [⟨some ⟨b, 0, none⟩, 104, [.int .i64 0, .slice none 0 0], 2⟩, ⟨B2, 213, (gates.flatMap enc_Gate), c2 * 3⟩, ⟨some ⟨b2, 0, none⟩, 104, [.int .i64 0, .slice none 0 0], 2⟩] [⟨B, (gates.flatMap enc_Gate)⟩] := hS4
  refine ss0 rfl rfl (Ys_store (i := 2) (s := 2) (B := some ⟨b2, 0, none⟩) (T' := 104) (v := .agg #[.int .i64 n, .slice B2 gates.length c2]) (vs := [.int .i64 n, .slice B2 gates.length c2]) (k := 0) (cs' := [.int .i64 n, .slice B2 gates.length c2]) hS4 k_sz_104_2 rfl rfl rfl rfl rfl rfl rfl (Nat.le_of_ble_eq_true rfl) rfl rfl) ?_
  rintro _ w_4 ⟨rfl, hS5⟩
  have hS5 : ST w0 [] _ [⟨some ⟨b, 0, none⟩, 104, [.int .i64 0, .slice none 0 0], 2⟩, ⟨B2, 213, (gates.flatMap enc_Gate), c2 * 3⟩, ⟨some ⟨b2, 0, none⟩, 104, [.int .i64 n, .slice B2 gates.length c2], 2⟩] [⟨B, (gates.flatMap enc_Gate)⟩] := hS5
  refine rw_nil ?_
  refine cw_seq ?_
  refine cw_seq ?_
  refine cw_region ?_
  refine sq 12 rfl rfl (Y_loadA (B := some ⟨b2, 0, none⟩) (i := 0) (cs := [.int .i64 n, .slice B2 gates.length c2]) (vs := [.int .i64 n, .slice B2 gates.length c2]) k_ag_104 k_sz_104_2 rfl rfl (hS5.cf (i := 2) rfl) rfl rfl) ?_
  obtain ⟨r_2, hc, hF⟩ := bind_inv hF
  refine sc 13 rfl rfl (Yc_func (g := 243) (vs := [.agg #[.int .i64 n, .slice B2 gates.length c2]]) k_call_243 rfl (mc rfl mn) (c_impl_IsValidCircuit (TCircuit.mk n gates) B2 c2 gates.length _ rfl (hS5.inn0 [(false, 1)] rfl) hc)) ?_
  rintro _ w_5 ⟨rfl, hd⟩
  have hS6 := hS5.out00 hd
  have hS6 : ST w0 [] _ [⟨some ⟨b, 0, none⟩, 104, [.int .i64 0, .slice none 0 0], 2⟩, ⟨B2, 213, (gates.flatMap enc_Gate), c2 * 3⟩, ⟨some ⟨b2, 0, none⟩, 104, [.int .i64 n, .slice B2 gates.length c2], 2⟩] [⟨B, (gates.flatMap enc_Gate)⟩] := hS6
  refine sq 14 rfl rfl (Y_not (p := r_2) rfl rfl) ?_
  refine rw_nil ?_
  refine cw_cond (b := (!r_2)) rfl (fun hb => ?_) (fun hb => ?_)
  · skip
    have hF1 := ct hF hb
    refine cw_seq ?_
    refine cw_region ?_
    refine sq 15 rfl rfl (Y_buildS (zs := [.int .i64 0, .slice none 0 0]) (vs := []) (cs := [.int .i64 0, .slice none 0 0]) k_pl_104 k_zero_104 rfl mpn rfl) ?_
    refine ss0 rfl rfl (Ys_store (i := 0) (s := 2) (B := some ⟨b, 0, none⟩) (T' := 104) (v := .agg #[.int .i64 0, .slice none 0 0]) (vs := [.int .i64 0, .slice none 0 0]) (k := 0) (cs' := [.int .i64 0, .slice none 0 0]) hS6 k_sz_104_2 rfl rfl rfl rfl rfl rfl rfl (Nat.le_of_ble_eq_true rfl) rfl rfl) ?_
    rintro _ w_6 ⟨rfl, hS7⟩
    have hS7 : ST w0 [] _ [⟨some ⟨b, 0, none⟩, 104, [.int .i64 0, .slice none 0 0], 2⟩, ⟨B2, 213, (gates.flatMap enc_Gate), c2 * 3⟩, ⟨some ⟨b2, 0, none⟩, 104, [.int .i64 n, .slice B2 gates.length c2], 2⟩] [⟨B, (gates.flatMap enc_Gate)⟩] := hS7
    refine sq 5 rfl rfl (Y_assign (v := .bool false) rfl rfl) ?_
    refine rw_nil ?_
    refine cw_ret ?_
    have hS8 := hS7.addNil 213
    obtain ⟨rfl, rfl⟩ := pr2 (some_inj hF1)
    exact ret2 Try.results167 (v1 := .agg #[.int .i64 0, .slice none 0 0]) (resAt_cellA (B := some ⟨b, 0, none⟩) (i := 0) (cs := [.int .i64 0, .slice none 0 0]) (vs := [.int .i64 0, .slice none 0 0]) rfl k_ag_104 k_sz_104_2 (hS8.cf (i := 0) rfl) rfl rfl) (v2 := .bool false) (resAt_tmp rfl) ⟨none, 0, rfl, (ST.subR (R' := []) (hS8.sel [3] rfl rfl) (fun _ h => by cases h))⟩
  · skip
    have hF2 := cf' hF hb
    refine cw_skip ?_
    refine cw_seq ?_
    refine cw_region ?_
    refine sq 16 rfl rfl (Y_loadA (B := some ⟨b2, 0, none⟩) (i := 0) (cs := [.int .i64 n, .slice B2 gates.length c2]) (vs := [.int .i64 n, .slice B2 gates.length c2]) k_ag_104 k_sz_104_2 rfl rfl (hS6.cf (i := 2) rfl) rfl rfl) ?_
    refine ss0 rfl rfl (Ys_store (i := 0) (s := 2) (B := some ⟨b, 0, none⟩) (T' := 104) (v := .agg #[.int .i64 n, .slice B2 gates.length c2]) (vs := [.int .i64 n, .slice B2 gates.length c2]) (k := 0) (cs' := [.int .i64 n, .slice B2 gates.length c2]) hS6 k_sz_104_2 rfl rfl rfl rfl rfl rfl rfl (Nat.le_of_ble_eq_true rfl) rfl rfl) ?_
    rintro _ w_7 ⟨rfl, hS9⟩
    have hS9 : ST w0 [] _ [⟨some ⟨b, 0, none⟩, 104, [.int .i64 n, .slice B2 gates.length c2], 2⟩, ⟨B2, 213, (gates.flatMap enc_Gate), c2 * 3⟩, ⟨some ⟨b2, 0, none⟩, 104, [.int .i64 n, .slice B2 gates.length c2], 2⟩] [⟨B, (gates.flatMap enc_Gate)⟩] := hS9
    refine sq 5 rfl rfl (Y_assign (v := .bool true) rfl rfl) ?_
    refine rw_nil ?_
    refine cw_ret ?_
    obtain ⟨rfl, rfl⟩ := pr2 (some_inj hF2)
    exact ret2 Try.results167 (v1 := .agg #[.int .i64 n, .slice B2 gates.length c2]) (resAt_cellA (B := some ⟨b, 0, none⟩) (i := 0) (cs := [.int .i64 n, .slice B2 gates.length c2]) (vs := [.int .i64 n, .slice B2 gates.length c2]) rfl k_ag_104 k_sz_104_2 (hS9.cf (i := 0) rfl) rfl rfl) (v2 := .bool true) (resAt_tmp rfl) ⟨B2, c2, rfl, (ST.subR (R' := []) (hS9.sel [1] rfl rfl) (fun _ h => by cases h))⟩

theorem c_impl_RouteCircuit (g : TCouplingGraph) (c1 : TCircuit) (r_ : TRoute) (B : Option Addr) (c n : Nat) (B1 : Option Addr) (c2 n1 : Nat) (B2 : Option Addr) (c3 n2 : Nat) (B3 : Option Addr) (c4 n3 : Nat) (w0 : World) (hn : g.Edges.length = n) (hq : n ≤ c) (hn1 : c1.Gates.length = n1) (hq1 : n1 ≤ c2) (hn2 : r_.Start.length = n2) (hq2 : n2 ≤ c3) (hn3 : r_.Steps.length = n3) (hS : ST w0 [] w0 [] [⟨B, (g.Edges.flatMap enc_Edge)⟩, ⟨B1, (c1.Gates.flatMap enc_Gate)⟩, ⟨B2, (r_.Start.flatMap encI)⟩, ⟨B3, (r_.Steps.flatMap enc_RouteStep)⟩]) {r_1 : TCircuit} {r_2 : Bool} (hF : F_impl_RouteCircuit g c1 r_ = some (r_1, r_2)) :
    CV Try.prog 71 #[.agg #[.int .i64 g.Nodes, .slice B n c], .agg #[.int .i64 c1.Qubits, .slice B1 n1 c2], .agg #[.slice B2 n2 c3, .slice B3 n3 c4]] w0 (fun v w' => ∃ (B4 : Option Addr) (c5 : Nat), v = .tuple #[.agg #[.int .i64 r_1.Qubits, .slice B4 r_1.Gates.length c5], .bool r_2] ∧ ST w0 [] w' [⟨B4, 213, (r_1.Gates.flatMap enc_Gate), c5 * 3⟩] []) := by
  subst hn
  subst hn1
  subst hn2
  subst hn3
  unfold F_impl_RouteCircuit at hF
  refine cv_of_cw 82 Try.func71 rfl Try.ntmps71 rfl ?_
  refine cw_seq ?_
  refine cw_region ?_
  refine ss 3 rfl rfl (Ys_box (T := 100) (v := .agg #[.int .i64 g.Nodes, .slice B g.Edges.length c]) (cs := [.int .i64 g.Nodes, .slice B g.Edges.length c]) (m := 2) hS rfl rfl rfl rfl) ?_
  rintro _ w_ ⟨b, rfl, hS1⟩
  refine ss 4 rfl rfl (Ys_box (T := 104) (v := .agg #[.int .i64 c1.Qubits, .slice B1 c1.Gates.length c2]) (cs := [.int .i64 c1.Qubits, .slice B1 c1.Gates.length c2]) (m := 2) hS1 rfl rfl rfl rfl) ?_
  rintro _ w_1 ⟨b1, rfl, hS2⟩
  have hS2 : ST w0 [] _ [⟨some ⟨b, 0, none⟩, 100, [.int .i64 g.Nodes, .slice B g.Edges.length c], 2⟩, ⟨some ⟨b1, 0, none⟩, 104, [.int .i64 c1.Qubits, .slice B1 c1.Gates.length c2], 2⟩] [⟨B, (g.Edges.flatMap enc_Edge)⟩, ⟨B1, (c1.Gates.flatMap enc_Gate)⟩, ⟨B2, (r_.Start.flatMap encI)⟩, ⟨B3, (r_.Steps.flatMap enc_RouteStep)⟩] := hS2
  refine ss 5 rfl rfl (Ys_box (T := 108) (v := .agg #[.slice B2 r_.Start.length c3, .slice B3 r_.Steps.length c4]) (cs := [.slice B2 r_.Start.length c3, .slice B3 r_.Steps.length c4]) (m := 2) hS2 rfl rfl rfl rfl) ?_
  rintro _ w_2 ⟨b2, rfl, hS3⟩
  have hS3 : ST w0 [] _ [⟨some ⟨b, 0, none⟩, 100, [.int .i64 g.Nodes, .slice B g.Edges.length c], 2⟩, ⟨some ⟨b1, 0, none⟩, 104, [.int .i64 c1.Qubits, .slice B1 c1.Gates.length c2], 2⟩, ⟨some ⟨b2, 0, none⟩, 108, [.slice B2 r_.Start.length c3, .slice B3 r_.Steps.length c4], 2⟩] [⟨B, (g.Edges.flatMap enc_Edge)⟩, ⟨B1, (c1.Gates.flatMap enc_Gate)⟩, ⟨B2, (r_.Start.flatMap encI)⟩, ⟨B3, (r_.Steps.flatMap enc_RouteStep)⟩] := hS3
  refine ss 6 rfl rfl (Ys_alloc (T := 104) (cs := [.int .i64 0, .slice none 0 0]) (m := 2) hS3 k_zero_104 rfl rfl rfl) ?_
  rintro _ w_3 ⟨b3, rfl, hS4⟩
  have hS4 : ST w0 [] _ [⟨some ⟨b, 0, none⟩, 100, [.int .i64 g.Nodes, .slice B g.Edges.length c], 2⟩, ⟨some ⟨b1, 0, none⟩, 104, [.int .i64 c1.Qubits, .slice B1 c1.Gates.length c2], 2⟩, ⟨some ⟨b2, 0, none⟩, 108, [.slice B2 r_.Start.length c3, .slice B3 r_.Steps.length c4], 2⟩, ⟨some ⟨b3, 0, none⟩, 104, [.int .i64 0, .slice none 0 0], 2⟩] [⟨B, (g.Edges.flatMap enc_Edge)⟩, ⟨B1, (c1.Gates.flatMap enc_Gate)⟩, ⟨B2, (r_.Start.flatMap encI)⟩, ⟨B3, (r_.Steps.flatMap enc_RouteStep)⟩] := hS4
  refine sq 7 rfl rfl (Y_assign (v := .bool false) rfl rfl) ?_
  refine rw_nil ?_
  refine cw_seq ?_
  refine cw_seq ?_
  refine cw_region ?_
  refine sq 16 rfl rfl (Y_loadA (B := some ⟨b, 0, none⟩) (i := 0) (cs := [.int .i64 g.Nodes, .slice B g.Edges.length c]) (vs := [.int .i64 g.Nodes, .slice B g.Edges.length c]) k_ag_100 k_sz_100_2 rfl rfl (hS4.cf (i := 0) rfl) rfl rfl) ?_
  refine sq 17 rfl rfl (Y_loadA (B := some ⟨b1, 0, none⟩) (i := 0) (cs := [.int .i64 c1.Qubits, .slice B1 c1.Gates.length c2]) (vs := [.int .i64 c1.Qubits, .slice B1 c1.Gates.length c2]) k_ag_104 k_sz_104_2 rfl rfl (hS4.cf (i := 1) rfl) rfl rfl) ?_
  refine sq 18 rfl rfl (Y_loadA (B := some ⟨b2, 0, none⟩) (i := 0) (cs := [.slice B2 r_.Start.length c3, .slice B3 r_.Steps.length c4]) (vs := [.slice B2 r_.Start.length c3, .slice B3 r_.Steps.length c4]) k_ag_108 k_sz_108_2 rfl rfl (hS4.cf (i := 2) rfl) rfl rfl) ?_
  obtain ⟨⟨r_3, r_4, r_5⟩, hc, hF⟩ := bind_inv hF
  refine sc 19 rfl rfl (Yc_func (g := 58) (vs := [.agg #[.int .i64 g.Nodes, .slice B g.Edges.length c], .agg #[.int .i64 c1.Qubits, .slice B1 c1.Gates.length c2], .agg #[.slice B2 r_.Start.length c3, .slice B3 r_.Steps.length c4]]) k_call_58 rfl (mc rfl (mc rfl (mc rfl mn))) (c_impl_CheckRoute g c1 r_ B c g.Edges.length B1 c2 c1.Gates.length B2 c3 r_.Start.length B3 c4 r_.Steps.length _ rfl hq rfl hq1 rfl hq2 rfl (hS4.inn0 [(true, 0), (true, 1), (true, 2), (true, 3)] rfl) hc)) ?_
  rintro _ w_4 ⟨rfl, hd⟩
  have hS5 := hS4.out00 hd
  have hS5 : ST w0 [] _ [⟨some ⟨b, 0, none⟩, 100, [.int .i64 g.Nodes, .slice B g.Edges.length c], 2⟩, ⟨some ⟨b1, 0, none⟩, 104, [.int .i64 c1.Qubits, .slice B1 c1.Gates.length c2], 2⟩, ⟨some ⟨b2, 0, none⟩, 108, [.slice B2 r_.Start.length c3, .slice B3 r_.Steps.length c4], 2⟩, ⟨some ⟨b3, 0, none⟩, 104, [.int .i64 0, .slice none 0 0], 2⟩] [⟨B, (g.Edges.flatMap enc_Edge)⟩, ⟨B1, (c1.Gates.flatMap enc_Gate)⟩, ⟨B2, (r_.Start.flatMap encI)⟩, ⟨B3, (r_.Steps.flatMap enc_RouteStep)⟩] := hS5
  refine sq 15 rfl rfl (Y_move (v := .tuple #[.int .i64 r_3, .int .i64 r_4, .bool r_5]) rfl rfl) ?_
  refine sq 20 rfl rfl (Y_extract (v := .int .i64 r_3) rfl rfl rfl) ?_
  refine sq 21 rfl rfl (Y_extract (v := .int .i64 r_4) rfl rfl rfl) ?_
  refine sq 22 rfl rfl (Y_extract (v := .bool r_5) rfl rfl rfl) ?_
  refine sq 8 rfl rfl (Y_assign (v := .int .i64 r_3) rfl rfl) ?_
  refine sq 9 rfl rfl (Y_assign (v := .int .i64 r_4) rfl rfl) ?_
  refine sq 10 rfl rfl (Y_assign (v := .bool r_5) rfl rfl) ?_
  refine rw_nil ?_
  refine cw_seq ?_
  refine cw_region ?_
  refine sq 23 rfl rfl (Y_move (v := .bool r_5) rfl rfl) ?_
  refine sq 24 rfl rfl (Y_not (p := r_5) rfl rfl) ?_
  refine sq 25 rfl rfl (Y_move (v := .bool (!r_5)) rfl rfl) ?_
  refine sgq 26 (B := (!(!r_5))) (v := .int .i64 r_3) rfl rfl (wt_f (gd_of (t := 25) (by kernel_rfl) rfl)) (fun hg => (Y_move (v := .int .i64 r_3) rfl rfl)) ?_
  refine sgq 27 (B := (!(!r_5))) (v := .bool (r_3 != 0)) rfl rfl (wt_f (gd_of (t := 25) (by kernel_rfl) rfl)) (fun hg1 => (Y_ne (k := .i64) (a := r_3) (b := 0) rfl (gv_of (B := (!(!r_5))) (v := .int .i64 r_3) hg1) rfl)) ?_
  refine sq 28 rfl rfl (Y_or (b := (!r_5)) (z := (r_3 != 0)) rfl rfl rfl rfl) ?_
  refine sq 29 rfl rfl (Y_move (v := .bool ((!r_5) || (r_3 != 0))) rfl rfl) ?_
  refine sgq 30 (B := (!((!r_5) || (r_3 != 0)))) (v := pt (some ⟨b, 0, none⟩) 0) rfl rfl (wt_f (gd_of (t := 29) (by kernel_rfl) rfl)) (fun hg2 => (Y_fieldAddr (B := some ⟨b, 0, none⟩) (i := 0) (s := 0) k_fd_100_0_0_3 k_sz_3_1 rfl rfl)) ?_
  refine sgq 31 (B := (!((!r_5) || (r_3 != 0)))) (v := .int .i64 g.Nodes) rfl rfl (wt_f (gd_of (t := 29) (by kernel_rfl) rfl)) (fun hg3 => (Y_load1 (B := some ⟨b, 0, none⟩) (i := 0) (cs := [.int .i64 g.Nodes, .slice B g.Edges.length c]) (v := .int .i64 g.Nodes) k_sc_3 rfl (gv_of (B := (!((!r_5) || (r_3 != 0)))) (v := pt (some ⟨b, 0, none⟩) 0) hg3) (hS5.cf (i := 0) rfl) rfl)) ?_
  refine sgq 32 (B := (!((!r_5) || (r_3 != 0)))) (v := .bool (decide (5 < g.Nodes))) rfl rfl (wt_f (gd_of (t := 29) (by kernel_rfl) rfl)) (fun hg4 => (Y_gt (k := .i64) (a := g.Nodes) (b := 5) rfl (gv_of (B := (!((!r_5) || (r_3 != 0)))) (v := .int .i64 g.Nodes) hg4) rfl)) ?_
  refine sq 33 rfl rfl (Y_or (b := ((!r_5) || (r_3 != 0))) (z := (decide (5 < g.Nodes))) rfl rfl rfl rfl) ?_
  refine rw_nil ?_
  refine cw_cond (b := (((!r_5) || (r_3 != 0)) || (decide (5 < g.Nodes)))) rfl (fun hb => ?_) (fun hb => ?_)
  · skip
    have hF1 := ct hF hb
    refine cw_seq ?_
    refine cw_region ?_
    refine sq 34 rfl rfl (Y_buildS (zs := [.int .i64 0, .slice none 0 0]) (vs := []) (cs := [.int .i64 0, .slice none 0 0]) k_pl_104 k_zero_104 rfl mpn rfl) ?_
    refine ss0 rfl rfl (Ys_store (i := 3) (s := 2) (B := some ⟨b3, 0, none⟩) (T' := 104) (v := .agg #[.int .i64 0, .slice none 0 0]) (vs := [.int .i64 0, .slice none 0 0]) (k := 0) (cs' := [.int .i64 0, .slice none 0 0]) hS5 k_sz_104_2 rfl rfl rfl rfl rfl rfl rfl (Nat.le_of_ble_eq_true rfl) rfl rfl) ?_
    rintro _ w_5 ⟨rfl, hS6⟩
    have hS6 : ST w0 [] _ [⟨some ⟨b, 0, none⟩, 100, [.int .i64 g.Nodes, .slice B g.Edges.length c], 2⟩, ⟨some ⟨b1, 0, none⟩, 104, [.int .i64 c1.Qubits, .slice B1 c1.Gates.length c2], 2⟩, ⟨some ⟨b2, 0, none⟩, 108, [.slice B2 r_.Start.length c3, .slice B3 r_.Steps.length c4], 2⟩, ⟨some ⟨b3, 0, none⟩, 104, [.int .i64 0, .slice none 0 0], 2⟩] [⟨B, (g.Edges.flatMap enc_Edge)⟩, ⟨B1, (c1.Gates.flatMap enc_Gate)⟩, ⟨B2, (r_.Start.flatMap encI)⟩, ⟨B3, (r_.Steps.flatMap enc_RouteStep)⟩] := hS6
    refine sq 7 rfl rfl (Y_assign (v := .bool false) rfl rfl) ?_
    refine rw_nil ?_
    refine cw_ret ?_
    have hS7 := hS6.addNil 213
    obtain ⟨rfl, rfl⟩ := pr2 (some_inj hF1)
    exact ret2 Try.results71 (v1 := .agg #[.int .i64 0, .slice none 0 0]) (resAt_cellA (B := some ⟨b3, 0, none⟩) (i := 0) (cs := [.int .i64 0, .slice none 0 0]) (vs := [.int .i64 0, .slice none 0 0]) rfl k_ag_104 k_sz_104_2 (hS7.cf (i := 3) rfl) rfl rfl) (v2 := .bool false) (resAt_tmp rfl) ⟨none, 0, rfl, (ST.subR (R' := []) (hS7.sel [4] rfl rfl) (fun _ h => by cases h))⟩
  · skip
    have hF2 := cf' hF hb
    refine cw_skip ?_
    refine cw_seq ?_
    refine cw_region ?_
    refine sq 35 rfl rfl (Y_loadA (B := some ⟨b, 0, none⟩) (i := 0) (cs := [.int .i64 g.Nodes, .slice B g.Edges.length c]) (vs := [.int .i64 g.Nodes, .slice B g.Edges.length c]) k_ag_100 k_sz_100_2 rfl rfl (hS5.cf (i := 0) rfl) rfl rfl) ?_
    refine sq 36 rfl rfl (Y_loadA (B := some ⟨b1, 0, none⟩) (i := 0) (cs := [.int .i64 c1.Qubits, .slice B1 c1.Gates.length c2]) (vs := [.int .i64 c1.Qubits, .slice B1 c1.Gates.length c2]) k_ag_104 k_sz_104_2 rfl rfl (hS5.cf (i := 1) rfl) rfl rfl) ?_
    refine sq 37 rfl rfl (Y_fieldAddr (B := some ⟨b2, 0, none⟩) (i := 0) (s := 0) k_fd_108_0_0_59 k_sz_59_1 rfl rfl) ?_
    refine sq 38 rfl rfl (Y_load1 (B := some ⟨b2, 0, none⟩) (i := 0) (cs := [.slice B2 r_.Start.length c3, .slice B3 r_.Steps.length c4]) (v := .slice B2 r_.Start.length c3) k_sc_59 rfl rfl (hS5.cf (i := 2) rfl) rfl) ?_
    obtain ⟨r_6, hc1, hF2⟩ := bind_inv hF2
    refine sc 39 rfl rfl (Yc_func (g := 164) (vs := [.agg #[.int .i64 g.Nodes, .slice B g.Edges.length c], .agg #[.int .i64 c1.Qubits, .slice B1 c1.Gates.length c2], .slice B2 r_.Start.length c3]) k_call_164 rfl (mc rfl (mc rfl (mc rfl mn))) (c_impl_newRouting g c1 r_.Start B c g.Edges.length B1 c2 c1.Gates.length B2 c3 r_.Start.length _ rfl hq rfl hq1 rfl (hS5.inn0 [(true, 0), (true, 1), (true, 2)] rfl) hc1)) ?_
    rintro _ w_6 ⟨B5, c6, B6, c7, B7, c8, B8, c9, rfl, hq3, hq4, ho, hd1⟩
    have hS8 := ST.outR0 hS5 hd1 ho (subc (mem_at (i := 0) rfl) (subc (mem_at (i := 1) rfl) (subc (mem_at (i := 2) rfl) (fun _ h => by cases h))))
    have ho1 : Org w0 [] [⟨B, (g.Edges.flatMap enc_Edge)⟩, ⟨B1, (c1.Gates.flatMap enc_Gate)⟩, ⟨B2, (r_.Start.flatMap encI)⟩, ⟨B3, (r_.Steps.flatMap enc_RouteStep)⟩] [⟨B5, (r_6.g.Edges.flatMap enc_Edge)⟩, ⟨B6, (r_6.c.Gates.flatMap enc_Gate)⟩] := org_trans0 hS5 ho (org_cons (org_mem (i := 0) rfl) (org_cons (org_mem (i := 1) rfl) (org_cons (org_mem (i := 2) rfl) org_nil)))
    have hS9 : ST w0 [] _ [⟨some ⟨b, 0, none⟩, 100, [.int .i64 g.Nodes, .slice B g.Edges.length c], 2⟩, ⟨some ⟨b1, 0, none⟩, 104, [.int .i64 c1.Qubits, .slice B1 c1.Gates.length c2], 2⟩, ⟨some ⟨b2, 0, none⟩, 108, [.slice B2 r_.Start.length c3, .slice B3 r_.Steps.length c4], 2⟩, ⟨some ⟨b3, 0, none⟩, 104, [.int .i64 0, .slice none 0 0], 2⟩, ⟨B7, 3, (r_6.place.flatMap encI), c8 * 1⟩, ⟨B8, 4, (r_6.done.flatMap encB), c9 * 1⟩] [⟨B5, (r_6.g.Edges.flatMap enc_Edge)⟩, ⟨B6, (r_6.c.Gates.flatMap enc_Gate)⟩, ⟨B, (g.Edges.flatMap enc_Edge)⟩, ⟨B1, (c1.Gates.flatMap enc_Gate)⟩, ⟨B2, (r_.Start.flatMap encI)⟩, ⟨B3, (r_.Steps.flatMap enc_RouteStep)⟩] := hS8
    have hS9 : ST w0 [] _ [⟨some ⟨b, 0, none⟩, 100, [.int .i64 g.Nodes, .slice B g.Edges.length c], 2⟩, ⟨some ⟨b1, 0, none⟩, 104, [.int .i64 c1.Qubits, .slice B1 c1.Gates.length c2], 2⟩, ⟨some ⟨b2, 0, none⟩, 108, [.slice B2 r_.Start.length c3, .slice B3 r_.Steps.length c4], 2⟩, ⟨some ⟨b3, 0, none⟩, 104, [.int .i64 0, .slice none 0 0], 2⟩, ⟨B7, 3, (r_6.place.flatMap encI), c8 * 1⟩, ⟨B8, 4, (r_6.done.flatMap encB), c9 * 1⟩] [⟨B5, (r_6.g.Edges.flatMap enc_Edge)⟩, ⟨B6, (r_6.c.Gates.flatMap enc_Gate)⟩, ⟨B, (g.Edges.flatMap enc_Edge)⟩, ⟨B1, (c1.Gates.flatMap enc_Gate)⟩, ⟨B2, (r_.Start.flatMap encI)⟩, ⟨B3, (r_.Steps.flatMap enc_RouteStep)⟩] := hS9
    refine ss 40 rfl rfl (Ys_bslice0 (s := 3) (e := 213) hS9 k_sl_102_213 k_sz_213_3 rfl) ?_
    rintro _ w_7 ⟨b4, rfl, hS10⟩
    have hS10 : ST w0 [] _ [⟨some ⟨b, 0, none⟩, 100, [.int .i64 g.Nodes, .slice B g.Edges.length c], 2⟩, ⟨some ⟨b1, 0, none⟩, 104, [.int .i64 c1.Qubits, .slice B1 c1.Gates.length c2], 2⟩, ⟨some ⟨b2, 0, none⟩, 108, [.slice B2 r_.Start.length c3, .slice B3 r_.Steps.length c4], 2⟩, ⟨some ⟨b3, 0, none⟩, 104, [.int .i64 0, .slice none 0 0], 2⟩, ⟨B7, 3, (r_6.place.flatMap encI), c8 * 1⟩, ⟨B8, 4, (r_6.done.flatMap encB), c9 * 1⟩, ⟨some ⟨b4, 0, none⟩, 213, ([].flatMap enc_Gate), 0 * 3⟩] [⟨B5, (r_6.g.Edges.flatMap enc_Edge)⟩, ⟨B6, (r_6.c.Gates.flatMap enc_Gate)⟩, ⟨B, (g.Edges.flatMap enc_Edge)⟩, ⟨B1, (c1.Gates.flatMap enc_Gate)⟩, ⟨B2, (r_.Start.flatMap encI)⟩, ⟨B3, (r_.Steps.flatMap enc_RouteStep)⟩] := hS10
    refine ss 11 rfl rfl (Ys_alloc (T := 201) (cs := [.int .i64 0, .slice none 0 0, .int .i64 0, .slice none 0 0, .slice none 0 0, .slice none 0 0]) (m := 6) hS10 k_zero_201 rfl rfl rfl) ?_
    rintro _ w_8 ⟨b5, rfl, hS11⟩
    have hS11 : ST w0 [] _ [⟨some ⟨b, 0, none⟩, 100, [.int .i64 g.Nodes, .slice B g.Edges.length c], 2⟩, ⟨some ⟨b1, 0, none⟩, 104, [.int .i64 c1.Qubits, .slice B1 c1.Gates.length c2], 2⟩, ⟨some ⟨b2, 0, none⟩, 108, [.slice B2 r_.Start.length c3, .slice B3 r_.Steps.length c4], 2⟩, ⟨some ⟨b3, 0, none⟩, 104, [.int .i64 0, .slice none 0 0], 2⟩, ⟨B7, 3, (r_6.place.flatMap encI), c8 * 1⟩, ⟨B8, 4, (r_6.done.flatMap encB), c9 * 1⟩, ⟨some ⟨b4, 0, none⟩, 213, ([].flatMap enc_Gate), 0 * 3⟩, ⟨some ⟨b5, 0, none⟩, 201, [.int .i64 0, .slice none 0 0, .int .i64 0, .slice none 0 0, .slice none 0 0, .slice none 0 0], 6⟩] [⟨B5, (r_6.g.Edges.flatMap enc_Edge)⟩, ⟨B6, (r_6.c.Gates.flatMap enc_Gate)⟩, ⟨B, (g.Edges.flatMap enc_Edge)⟩, ⟨B1, (c1.Gates.flatMap enc_Gate)⟩, ⟨B2, (r_.Start.flatMap encI)⟩, ⟨B3, (r_.Steps.flatMap enc_RouteStep)⟩] := hS11
    refine ss0 rfl rfl (Ys_store (i := 7) (s := 6) (B := some ⟨b5, 0, none⟩) (T' := 201) (v := .agg #[.int .i64 r_6.g.Nodes, .slice B5 r_6.g.Edges.length c6, .int .i64 r_6.c.Qubits, .slice B6 r_6.c.Gates.length c7, .slice B7 r_6.place.length c8, .slice B8 r_6.done.length c9]) (vs := [.int .i64 r_6.g.Nodes, .slice B5 r_6.g.Edges.length c6, .int .i64 r_6.c.Qubits, .slice B6 r_6.c.Gates.length c7, .slice B7 r_6.place.length c8, .slice B8 r_6.done.length c9]) (k := 0) (cs' := [.int .i64 r_6.g.Nodes, .slice B5 r_6.g.Edges.length c6, .int .i64 r_6.c.Qubits, .slice B6 r_6.c.Gates.length c7, .slice B7 r_6.place.length c8, .slice B8 r_6.done.length c9]) hS11 k_sz_201_6 rfl rfl rfl rfl rfl rfl rfl (Nat.le_of_ble_eq_true rfl) rfl rfl) ?_
    rintro _ w_9 ⟨rfl, hS12⟩
    have hS12 : ST w0 [] _ [⟨some ⟨b, 0, none⟩, 100, [.int .i64 g.Nodes, .slice B g.Edges.length c], 2⟩, ⟨some ⟨b1, 0, none⟩, 104, [.int .i64 c1.Qubits, .slice B1 c1.Gates.length c2], 2⟩, ⟨some ⟨b2, 0, none⟩, 108, [.slice B2 r_.Start.length c3, .slice B3 r_.Steps.length c4], 2⟩, ⟨some ⟨b3, 0, none⟩, 104, [.int .i64 0, .slice none 0 0], 2⟩, ⟨B7, 3, (r_6.place.flatMap encI), c8 * 1⟩, ⟨B8, 4, (r_6.done.flatMap encB), c9 * 1⟩, ⟨some ⟨b4, 0, none⟩, 213, ([].flatMap enc_Gate), 0 * 3⟩, ⟨some ⟨b5, 0, none⟩, 201, [.int .i64 r_6.g.Nodes, .slice B5 r_6.g.Edges.length c6, .int .i64 r_6.c.Qubits, .slice B6 r_6.c.Gates.length c7, .slice B7 r_6.place.length c8, .slice B8 r_6.done.length c9], 6⟩] [⟨B5, (r_6.g.Edges.flatMap enc_Edge)⟩, ⟨B6, (r_6.c.Gates.flatMap enc_Gate)⟩, ⟨B, (g.Edges.flatMap enc_Edge)⟩, ⟨B1, (c1.Gates.flatMap enc_Gate)⟩, ⟨B2, (r_.Start.flatMap encI)⟩, ⟨B3, (r_.Steps.flatMap enc_RouteStep)⟩] := hS12
    refine sq 12 rfl rfl (Y_assign (v := .slice (some ⟨b4, 0, none⟩) 0 0) rfl rfl) ?_
    refine rw_nil ?_
    refine cw_seq ?_
    refine cw_seq ?_
    refine cw_region ?_
    refine sq 41 rfl rfl (Y_fieldAddr (B := some ⟨b2, 0, none⟩) (i := 0) (s := 0) k_fd_108_1_1_106 k_sz_106_1 rfl rfl) ?_
    refine sq 42 rfl rfl (Y_load1 (B := some ⟨b2, 0, none⟩) (i := 1) (cs := [.slice B2 r_.Start.length c3, .slice B3 r_.Steps.length c4]) (v := .slice B3 r_.Steps.length c4) k_sc_106 rfl rfl (hS12.cf (i := 2) rfl) rfl) ?_
    refine sq 43 rfl rfl (Y_len (B := B3) (m := r_.Steps.length) (c := c4) k_sl_106_211 rfl rfl) ?_
    refine sq 44 rfl rfl (Y_move (v := .int .i64 0) rfl rfl) ?_
    refine rw_nil ?_
    obtain ⟨hN, hF2⟩ := chk_inv hF2
    obtain ⟨z, hz, hF3⟩ := bind_inv hF2
    refine cw_block ?_
    refine cw_loop (fun k f w => ∃ (i : Nat) (place : List Int) (done : List Bool) (out : List TGate) (B9 : Option Addr) (c10 : Nat), FF f [(3, pt (some ⟨b, 0, none⟩) 0), (4, pt (some ⟨b1, 0, none⟩) 0), (6, pt (some ⟨b3, 0, none⟩) 0), (11, pt (some ⟨b5, 0, none⟩) 0), (12, .slice B9 out.length c10), (42, .slice B3 r_.Steps.length c4), (43, .int .i64 (r_.Steps.length : Int)), (44, .int .i64 (i : Int))] ∧ place.length = r_6.place.length ∧ done.length = r_6.done.length ∧ ST w0 [] w [⟨some ⟨b, 0, none⟩, 100, [.int .i64 g.Nodes, .slice B g.Edges.length c], 2⟩, ⟨some ⟨b1, 0, none⟩, 104, [.int .i64 c1.Qubits, .slice B1 c1.Gates.length c2], 2⟩, ⟨some ⟨b3, 0, none⟩, 104, [.int .i64 0, .slice none 0 0], 2⟩, ⟨some ⟨b5, 0, none⟩, 201, [.int .i64 r_6.g.Nodes, .slice B5 r_6.g.Edges.length c6, .int .i64 r_6.c.Qubits, .slice B6 r_6.c.Gates.length c7, .slice B7 r_6.place.length c8, .slice B8 r_6.done.length c9], 6⟩, ⟨B7, 3, (place.flatMap encI), c8 * 1⟩, ⟨B8, 4, (done.flatMap encB), c9 * 1⟩, ⟨B9, 213, (out.flatMap enc_Gate), c10 * 3⟩] [⟨B5, (r_6.g.Edges.flatMap enc_Edge)⟩, ⟨B6, (r_6.c.Gates.flatMap enc_Gate)⟩, ⟨B, (g.Edges.flatMap enc_Edge)⟩, ⟨B1, (c1.Gates.flatMap enc_Gate)⟩, ⟨B2, (r_.Start.flatMap encI)⟩, ⟨B3, (r_.Steps.flatMap enc_RouteStep)⟩] ∧ i + k = r_.Steps.length ∧ forN (F_impl_RouteCircuit_l1 r_ c1 r_6 g) k i (place, done, out) = some z) r_.Steps.length ⟨0, r_6.place, r_6.done, [], some ⟨b4, 0, none⟩, 0, (FF.cons rfl (FF.cons rfl (FF.cons rfl (FF.cons rfl (FF.cons rfl (FF.cons rfl (FF.cons rfl (FF.cons rfl FF.nil)))))))), rfl, rfl, (hS12.sel [0, 1, 3, 7, 4, 5, 6] rfl rfl), Nat.zero_add _, hz⟩ ?_
    rintro k_ f w ⟨i, place, done, out, B9, c10, hf, hl, hl1, hS13, hik, hL⟩
    refine cw_seq ?_
    refine cw_region ?_
    refine sq 45 rfl rfl (Y_lt (k := .i64) (a := (i : Int)) (b := (r_.Steps.length : Int)) rfl (hf.get 44 7 rfl) (hf.get 43 6 rfl)) ?_
    refine rw_nil ?_
    refine cw_seq ?_
    refine cw_cond (b := (decide ((i : Int) < (r_.Steps.length : Int)))) rfl (fun hlt => ?_) (fun hlt => ?_)
    · skip
      have hlt1 : i < r_.Steps.length := by have h := of_decide_eq_true hlt; omega
      obtain ⟨k_1, rfl⟩ : ∃ k2, k_ = k2 + 1 := ⟨k_ - 1, by omega⟩
      obtain ⟨y, hb1, hL1⟩ := forN_go hL
      unfold F_impl_RouteCircuit_l1 at hb1
      refine cw_skip ?_
      refine cw_seq ?_
      refine cw_block ?_
      refine cw_seq ?_
      refine cw_region ?_
      obtain ⟨x, hx, hb1⟩ := bind_inv hb1
      refine sq 46 rfl rfl (Y_index (B := B3) (m := r_.Steps.length) (c := c4) (k := .i64) (i := (i : Int)) k_sl_106_211 k_sz_211_3 rfl (hf.get 42 5 rfl) (hf.get 44 7 rfl) (gi_isSome enc_RouteStep_len rfl (hS13.rf (i := 5) rfl) hx) (getI_nn hx) (getI_ltI hx rfl)) ?_
      refine sq 47 rfl rfl (Y_loadA (B := B3) (i := (i : Int).toNat * 3) (cs := (r_.Steps.flatMap enc_RouteStep)) (vs := [.int .i64 x.Gate, .int .i64 x.A, .int .i64 x.B]) k_ag_211 k_sz_211_3 rfl rfl (hS13.rf (i := 5) rfl) (enc_RouteStep_len x) (gi_seg enc_RouteStep_len hx)) ?_
      refine ss 14 rfl rfl (Ys_alloc (T := 211) (cs := [.int .i64 0, .int .i64 0, .int .i64 0]) (m := 3) hS13 k_zero_211 rfl rfl rfl) ?_
      rintro _ w_10 ⟨b6, rfl, hS14⟩
      have hS14 : ST w0 [] _ [⟨some ⟨b, 0, none⟩, 100, [.int .i64 g.Nodes, .slice B g.Edges.length c], 2⟩, ⟨some ⟨b1, 0, none⟩, 104, [.int .i64 c1.Qubits, .slice B1 c1.Gates.length c2], 2⟩, ⟨some ⟨b3, 0, none⟩, 104, [.int .i64 0, .slice none 0 0], 2⟩, ⟨some ⟨b5, 0, none⟩, 201, [.int .i64 r_6.g.Nodes, .slice B5 r_6.g.Edges.length c6, .int .i64 r_6.c.Qubits, .slice B6 r_6.c.Gates.length c7, .slice B7 r_6.place.length c8, .slice B8 r_6.done.length c9], 6⟩, ⟨B7, 3, (place.flatMap encI), c8 * 1⟩, ⟨B8, 4, (done.flatMap encB), c9 * 1⟩, ⟨B9, 213, (out.flatMap enc_Gate), c10 * 3⟩, ⟨some ⟨b6, 0, none⟩, 211, [.int .i64 0, .int .i64 0, .int .i64 0], 3⟩] [⟨B5, (r_6.g.Edges.flatMap enc_Edge)⟩, ⟨B6, (r_6.c.Gates.flatMap enc_Gate)⟩, ⟨B, (g.Edges.flatMap enc_Edge)⟩, ⟨B1, (c1.Gates.flatMap enc_Gate)⟩, ⟨B2, (r_.Start.flatMap encI)⟩, ⟨B3, (r_.Steps.flatMap enc_RouteStep)⟩] := hS14
      refine ss0 rfl rfl (Ys_store (i := 7) (s := 3) (B := some ⟨b6, 0, none⟩) (T' := 211) (v := .agg #[.int .i64 x.Gate, .int .i64 x.A, .int .i64 x.B]) (vs := [.int .i64 x.Gate, .int .i64 x.A, .int .i64 x.B]) (k := 0) (cs' := [.int .i64 x.Gate, .int .i64 x.A, .int .i64 x.B]) hS14 k_sz_211_3 rfl rfl rfl rfl rfl rfl rfl (Nat.le_of_ble_eq_true rfl) rfl rfl) ?_
      rintro _ w_11 ⟨rfl, hS15⟩
      have hS15 : ST w0 [] _ [⟨some ⟨b, 0, none⟩, 100, [.int .i64 g.Nodes, .slice B g.Edges.length c], 2⟩, ⟨some ⟨b1, 0, none⟩, 104, [.int .i64 c1.Qubits, .slice B1 c1.Gates.length c2], 2⟩, ⟨some ⟨b3, 0, none⟩, 104, [.int .i64 0, .slice none 0 0], 2⟩, ⟨some ⟨b5, 0, none⟩, 201, [.int .i64 r_6.g.Nodes, .slice B5 r_6.g.Edges.length c6, .int .i64 r_6.c.Qubits, .slice B6 r_6.c.Gates.length c7, .slice B7 r_6.place.length c8, .slice B8 r_6.done.length c9], 6⟩, ⟨B7, 3, (place.flatMap encI), c8 * 1⟩, ⟨B8, 4, (done.flatMap encB), c9 * 1⟩, ⟨B9, 213, (out.flatMap enc_Gate), c10 * 3⟩, ⟨some ⟨b6, 0, none⟩, 211, [.int .i64 x.Gate, .int .i64 x.A, .int .i64 x.B], 3⟩] [⟨B5, (r_6.g.Edges.flatMap enc_Edge)⟩, ⟨B6, (r_6.c.Gates.flatMap enc_Gate)⟩, ⟨B, (g.Edges.flatMap enc_Edge)⟩, ⟨B1, (c1.Gates.flatMap enc_Gate)⟩, ⟨B2, (r_.Start.flatMap encI)⟩, ⟨B3, (r_.Steps.flatMap enc_RouteStep)⟩] := hS15
      refine rw_nil ?_
      refine cw_seq ?_
      obtain ⟨z1, hz1, hF4⟩ := bind_inv hb1
      refine cw_mid (fun f w => ∃ (out1 : List TGate) (B10 : Option Addr) (c11 : Nat), out1 = z1 ∧ FF f [(3, pt (some ⟨b, 0, none⟩) 0), (4, pt (some ⟨b1, 0, none⟩) 0), (6, pt (some ⟨b3, 0, none⟩) 0), (11, pt (some ⟨b5, 0, none⟩) 0), (12, .slice B10 out1.length c11), (14, pt (some ⟨b6, 0, none⟩) 0), (42, .slice B3 r_.Steps.length c4), (43, .int .i64 (r_.Steps.length : Int)), (44, .int .i64 (i : Int))] ∧ ST w0 [] w [⟨some ⟨b, 0, none⟩, 100, [.int .i64 g.Nodes, .slice B g.Edges.length c], 2⟩, ⟨some ⟨b1, 0, none⟩, 104, [.int .i64 c1.Qubits, .slice B1 c1.Gates.length c2], 2⟩, ⟨some ⟨b3, 0, none⟩, 104, [.int .i64 0, .slice none 0 0], 2⟩, ⟨some ⟨b5, 0, none⟩, 201, [.int .i64 r_6.g.Nodes, .slice B5 r_6.g.Edges.length c6, .int .i64 r_6.c.Qubits, .slice B6 r_6.c.Gates.length c7, .slice B7 r_6.place.length c8, .slice B8 r_6.done.length c9], 6⟩, ⟨B7, 3, (place.flatMap encI), c8 * 1⟩, ⟨B8, 4, (done.flatMap encB), c9 * 1⟩, ⟨B10, 213, (out1.flatMap enc_Gate), c11 * 3⟩, ⟨some ⟨b6, 0, none⟩, 211, [.int .i64 x.Gate, .int .i64 x.A, .int .i64 x.B], 3⟩] [⟨B5, (r_6.g.Edges.flatMap enc_Edge)⟩, ⟨B6, (r_6.c.Gates.flatMap enc_Gate)⟩, ⟨B, (g.Edges.flatMap enc_Edge)⟩, ⟨B1, (c1.Gates.flatMap enc_Gate)⟩, ⟨B2, (r_.Start.flatMap encI)⟩, ⟨B3, (r_.Steps.flatMap enc_RouteStep)⟩]) ?_ ?_
      · skip
        refine cw_seq ?_
        refine cw_region ?_
        refine sq 48 rfl rfl (Y_fieldAddr (B := some ⟨b6, 0, none⟩) (i := 0) (s := 0) k_fd_211_0_0_3 k_sz_3_1 rfl rfl) ?_
        refine sq 49 rfl rfl (Y_load1 (B := some ⟨b6, 0, none⟩) (i := 0) (cs := [.int .i64 x.Gate, .int .i64 x.A, .int .i64 x.B]) (v := .int .i64 x.Gate) k_sc_3 rfl rfl (hS15.cf (i := 7) rfl) rfl) ?_
        refine sq 50 rfl rfl (Y_eq (k := .i64) (a := x.Gate) (b := (-1)) rfl rfl rfl) ?_
        refine rw_nil ?_
        refine cw_cond (b := (x.Gate == (-1))) rfl (fun hb2 => ?_) (fun hb2 => ?_)
        · skip
          have hF5 := ct hz1 hb2
          refine cw_region ?_
          refine sq 51 rfl rfl (Y_move (v := .slice B9 out.length c10) rfl (hf.get 12 4 rfl)) ?_
          refine sq 52 rfl rfl (Y_fieldAddr (B := some ⟨b6, 0, none⟩) (i := 0) (s := 0) k_fd_211_1_1_3 k_sz_3_1 rfl rfl) ?_
          refine sq 53 rfl rfl (Y_load1 (B := some ⟨b6, 0, none⟩) (i := 1) (cs := [.int .i64 x.Gate, .int .i64 x.A, .int .i64 x.B]) (v := .int .i64 x.A) k_sc_3 rfl rfl (hS15.cf (i := 7) rfl) rfl) ?_
          refine sq 54 rfl rfl (Y_fieldAddr (B := some ⟨b6, 0, none⟩) (i := 0) (s := 0) k_fd_211_2_2_3 k_sz_3_1 rfl rfl) ?_
          refine sq 55 rfl rfl (Y_load1 (B := some ⟨b6, 0, none⟩) (i := 2) (cs := [.int .i64 x.Gate, .int .i64 x.A, .int .i64 x.B]) (v := .int .i64 x.B) k_sc_3 rfl rfl (hS15.cf (i := 7) rfl) rfl) ?_
          refine sq 56 rfl rfl (Y_buildS (zs := [.int .i64 0, .int .i64 0, .int .i64 0]) (vs := [(0, .int .i64 11), (1, .int .i64 x.A), (2, .int .i64 x.B)]) (cs := [.int .i64 11, .int .i64 x.A, .int .i64 x.B]) k_pl_213 k_zero_213 rfl (mpc rfl (mpc rfl (mpc rfl mpn))) rfl) ?_
          refine ss 57 rfl rfl (Ys_bslice (s := 3) (len := 1) (vs := [(0, .agg #[.int .i64 11, .int .i64 x.A, .int .i64 x.B])]) (cs := [.int .i64 11, .int .i64 x.A, .int .i64 x.B]) (zs := [.int .i64 0, .int .i64 0, .int .i64 0]) (m := 3) hS15 k_sl_102_213 k_sz_213_3 k_zc_213 rfl (mpc rfl mpn) rfl rfl rfl (by kernel_rfl) (by kernel_rfl) rfl) ?_
          rintro _ w_12 ⟨b7, rfl, hS17⟩
          have hS17 : ST w0 [] _ [⟨some ⟨b, 0, none⟩, 100, [.int .i64 g.Nodes, .slice B g.Edges.length c], 2⟩, ⟨some ⟨b1, 0, none⟩, 104, [.int .i64 c1.Qubits, .slice B1 c1.Gates.length c2], 2⟩, ⟨some ⟨b3, 0, none⟩, 104, [.int .i64 0, .slice none 0 0], 2⟩, ⟨some ⟨b5, 0, none⟩, 201, [.int .i64 r_6.g.Nodes, .slice B5 r_6.g.Edges.length c6, .int .i64 r_6.c.Qubits, .slice B6 r_6.c.Gates.length c7, .slice B7 r_6.place.length c8, .slice B8 r_6.done.length c9], 6⟩, ⟨B7, 3, (place.flatMap encI), c8 * 1⟩, ⟨B8, 4, (done.flatMap encB), c9 * 1⟩, ⟨B9, 213, (out.flatMap enc_Gate), c10 * 3⟩, ⟨some ⟨b6, 0, none⟩, 211, [.int .i64 x.Gate, .int .i64 x.A, .int .i64 x.B], 3⟩, ⟨some ⟨b7, 0, none⟩, 213, ([(TGate.mk 11 x.A x.B)].flatMap enc_Gate), 1 * 3⟩] [⟨B5, (r_6.g.Edges.flatMap enc_Edge)⟩, ⟨B6, (r_6.c.Gates.flatMap enc_Gate)⟩, ⟨B, (g.Edges.flatMap enc_Edge)⟩, ⟨B1, (c1.Gates.flatMap enc_Gate)⟩, ⟨B2, (r_.Start.flatMap encI)⟩, ⟨B3, (r_.Steps.flatMap enc_RouteStep)⟩] := hS17
          obtain ⟨hap, hF5⟩ := chk_inv hF5
          refine ss 58 rfl rfl (Ys_append (s := 3) (by' := 24) (i := 6) (nn := out.length) (c := c10) (k := 1) (len := (out ++ [(TGate.mk 11 x.A x.B)]).length) (B := B9) (xs := ([(TGate.mk 11 x.A x.B)].flatMap enc_Gate)) (cs' := ((out ++ [(TGate.mk 11 x.A x.B)]).flatMap enc_Gate)) hS17 k_sl_102_213 k_sz_213_3 k_by_213_24 k_zero_213 rfl (by decide) rfl rfl rfl rfl (fm_lenn (l := out) enc_Gate_len rfl) rfl (hS17.cf (i := 8) rfl) (fm_lenn (l := [(TGate.mk 11 x.A x.B)]) enc_Gate_len rfl) (fm_one' (enc := enc_Gate) enc_Gate_one [(TGate.mk 11 x.A x.B)]) (by have := hap; omega) (by have := hap; simp only [maxLen]; omega) (fm_app _ _) (app_len (l := out) (l' := [(TGate.mk 11 x.A x.B)]) rfl rfl)) ?_
          rintro _ w_13 ⟨B11, c12, rfl, hS18⟩
          have hS18 : ST w0 [] _ [⟨some ⟨b, 0, none⟩, 100, [.int .i64 g.Nodes, .slice B g.Edges.length c], 2⟩, ⟨some ⟨b1, 0, none⟩, 104, [.int .i64 c1.Qubits, .slice B1 c1.Gates.length c2], 2⟩, ⟨some ⟨b3, 0, none⟩, 104, [.int .i64 0, .slice none 0 0], 2⟩, ⟨some ⟨b5, 0, none⟩, 201, [.int .i64 r_6.g.Nodes, .slice B5 r_6.g.Edges.length c6, .int .i64 r_6.c.Qubits, .slice B6 r_6.c.Gates.length c7, .slice B7 r_6.place.length c8, .slice B8 r_6.done.length c9], 6⟩, ⟨B7, 3, (place.flatMap encI), c8 * 1⟩, ⟨B8, 4, (done.flatMap encB), c9 * 1⟩, ⟨B11, 213, ((out ++ [(TGate.mk 11 x.A x.B)]).flatMap enc_Gate), c12 * 3⟩, ⟨some ⟨b6, 0, none⟩, 211, [.int .i64 x.Gate, .int .i64 x.A, .int .i64 x.B], 3⟩, ⟨some ⟨b7, 0, none⟩, 213, ([(TGate.mk 11 x.A x.B)].flatMap enc_Gate), 1 * 3⟩] [⟨B5, (r_6.g.Edges.flatMap enc_Edge)⟩, ⟨B6, (r_6.c.Gates.flatMap enc_Gate)⟩, ⟨B, (g.Edges.flatMap enc_Edge)⟩, ⟨B1, (c1.Gates.flatMap enc_Gate)⟩, ⟨B2, (r_.Start.flatMap encI)⟩, ⟨B3, (r_.Steps.flatMap enc_RouteStep)⟩] := hS18
          refine sq 12 rfl rfl (Y_assign (v := .slice B11 ((out ++ [(TGate.mk 11 x.A x.B)]).length) c12) rfl rfl) ?_
          refine rw_nil ?_
          exact ⟨(out ++ [(TGate.mk 11 x.A x.B)]), B11, c12, (some_inj hF5), (FF.cons (hf.get 3 0 rfl) (FF.cons (hf.get 4 1 rfl) (FF.cons (hf.get 6 2 rfl) (FF.cons (hf.get 11 3 rfl) (FF.cons rfl (FF.cons rfl (FF.cons (hf.get 42 5 rfl) (FF.cons (hf.get 43 6 rfl) (FF.cons (hf.get 44 7 rfl) FF.nil))))))))), (hS18.sel [0, 1, 2, 3, 4, 5, 6, 7] rfl rfl)⟩
        · skip
          have hF6 := cf' hz1 hb2
          obtain ⟨hsl, hF6⟩ := chk_inv hF6
          obtain ⟨r_7, hc2, hF6⟩ := bind_inv hF6
          obtain ⟨hap1, hF6⟩ := chk_inv hF6
          have hcap : c1.Gates.length ≤ c2 := hq1
          have hv : (List.drop x.Gate.toNat (List.take ((IntKind.i64.wrap (x.Gate + 1)).toNat) c1.Gates)).length = ((IntKind.i64.wrap (x.Gate + 1)).toNat - x.Gate.toNat) := (view_len rfl (by omega))
          have hq5 : ((IntKind.i64.wrap (x.Gate + 1)).toNat - x.Gate.toNat) ≤ (c2 - x.Gate.toNat) := by omega
          have ho2 : Org w0 [] [⟨B, (g.Edges.flatMap enc_Edge)⟩, ⟨B1, (c1.Gates.flatMap enc_Gate)⟩, ⟨B2, (r_.Start.flatMap encI)⟩, ⟨B3, (r_.Steps.flatMap enc_RouteStep)⟩] [⟨(sv B1 x.Gate.toNat c2 3), ((List.drop x.Gate.toNat (List.take ((IntKind.i64.wrap (x.Gate + 1)).toNat) c1.Gates)).flatMap enc_Gate)⟩] := org_view enc_Gate_len (q := c2) (org_mem (i := 1) rfl) rfl rfl
          have hS21 : ST w0 [] _ [⟨some ⟨b, 0, none⟩, 100, [.int .i64 g.Nodes, .slice B g.Edges.length c], 2⟩, ⟨some ⟨b1, 0, none⟩, 104, [.int .i64 c1.Qubits, .slice B1 c1.Gates.length c2], 2⟩, ⟨some ⟨b3, 0, none⟩, 104, [.int .i64 0, .slice none 0 0], 2⟩, ⟨some ⟨b5, 0, none⟩, 201, [.int .i64 r_6.g.Nodes, .slice B5 r_6.g.Edges.length c6, .int .i64 r_6.c.Qubits, .slice B6 r_6.c.Gates.length c7, .slice B7 r_6.place.length c8, .slice B8 r_6.done.length c9], 6⟩, ⟨B7, 3, (place.flatMap encI), c8 * 1⟩, ⟨B8, 4, (done.flatMap encB), c9 * 1⟩, ⟨B9, 213, (out.flatMap enc_Gate), c10 * 3⟩, ⟨some ⟨b6, 0, none⟩, 211, [.int .i64 x.Gate, .int .i64 x.A, .int .i64 x.B], 3⟩] [⟨(sv B1 x.Gate.toNat c2 3), ((List.drop x.Gate.toNat (List.take ((IntKind.i64.wrap (x.Gate + 1)).toNat) c1.Gates)).flatMap enc_Gate)⟩, ⟨B5, (r_6.g.Edges.flatMap enc_Edge)⟩, ⟨B6, (r_6.c.Gates.flatMap enc_Gate)⟩, ⟨B, (g.Edges.flatMap enc_Edge)⟩, ⟨B1, (c1.Gates.flatMap enc_Gate)⟩, ⟨B2, (r_.Start.flatMap encI)⟩, ⟨B3, (r_.Steps.flatMap enc_RouteStep)⟩] := ST.view enc_Gate_len hS15 (i := 3) rfl (lo := x.Gate.toNat) (h := (IntKind.i64.wrap (x.Gate + 1)).toNat) (q := c2) (by omega) (by omega) rfl rfl
          refine ra_start (ST.sel hS21 [0, 1, 2, 3, 4, 5, 7] rfl rfl).fn (by kernel_rfl) ?_
          have hS22 := hS21.drew
          refine ra_q 0 59 (v := .slice B9 out.length c10) rfl rfl rfl (by kernel_rfl) (by kernel_rfl) (by kernel_rfl) (ST.sel hS22 [0, 1, 2, 3, 4, 5, 7] rfl rfl) (fun w' hw' => (Y_move (v := .slice B9 out.length c10) rfl (hf.get 12 4 rfl))) ?_
          refine ra_q 1 60 (v := pt (some ⟨b1, 0, none⟩) 1) rfl rfl rfl (by kernel_rfl) (by kernel_rfl) (by kernel_rfl) (ST.sel hS22 [0, 1, 2, 3, 4, 5, 7] rfl rfl) (fun w' hw' => (Y_fieldAddr (B := some ⟨b1, 0, none⟩) (i := 0) (s := 0) k_fd_104_1_1_102 k_sz_102_1 rfl (hf.get 4 1 rfl))) ?_
          refine ra_q 2 61 (v := .slice B1 c1.Gates.length c2) rfl rfl rfl (by kernel_rfl) (by kernel_rfl) (by kernel_rfl) (ST.sel hS22 [0, 1, 2, 3, 4, 5, 7] rfl rfl) (fun w' hw' => (Y_load1 (B := some ⟨b1, 0, none⟩) (i := 1) (cs := [.int .i64 c1.Qubits, .slice B1 c1.Gates.length c2]) (v := .slice B1 c1.Gates.length c2) k_sc_102 rfl rfl (ST.cf hw' (i := 1) rfl) rfl)) ?_
          refine ra_q 3 62 (v := pt (some ⟨b6, 0, none⟩) 0) rfl rfl rfl (by kernel_rfl) (by kernel_rfl) (by kernel_rfl) (ST.sel hS22 [0, 1, 2, 3, 4, 5, 7] rfl rfl) (fun w' hw' => (Y_fieldAddr (B := some ⟨b6, 0, none⟩) (i := 0) (s := 0) k_fd_211_0_0_3 k_sz_3_1 rfl rfl)) ?_
          refine ra_q 4 63 (v := .int .i64 x.Gate) rfl rfl rfl (by kernel_rfl) (by kernel_rfl) (by kernel_rfl) (ST.sel hS22 [0, 1, 2, 3, 4, 5, 7] rfl rfl) (fun w' hw' => (Y_load1 (B := some ⟨b6, 0, none⟩) (i := 0) (cs := [.int .i64 x.Gate, .int .i64 x.A, .int .i64 x.B]) (v := .int .i64 x.Gate) k_sc_3 rfl rfl (ST.cf hw' (i := 6) rfl) rfl)) ?_
          refine ra_q 5 64 (v := pt (some ⟨b6, 0, none⟩) 0) rfl rfl rfl (by kernel_rfl) (by kernel_rfl) (by kernel_rfl) (ST.sel hS22 [0, 1, 2, 3, 4, 5, 7] rfl rfl) (fun w' hw' => (Y_fieldAddr (B := some ⟨b6, 0, none⟩) (i := 0) (s := 0) k_fd_211_0_0_3 k_sz_3_1 rfl rfl)) ?_
          refine ra_q 6 65 (v := .int .i64 x.Gate) rfl rfl rfl (by kernel_rfl) (by kernel_rfl) (by kernel_rfl) (ST.sel hS22 [0, 1, 2, 3, 4, 5, 7] rfl rfl) (fun w' hw' => (Y_load1 (B := some ⟨b6, 0, none⟩) (i := 0) (cs := [.int .i64 x.Gate, .int .i64 x.A, .int .i64 x.B]) (v := .int .i64 x.Gate) k_sc_3 rfl rfl (ST.cf hw' (i := 6) rfl) rfl)) ?_
          refine ra_q 7 66 (v := .int .i64 (IntKind.i64.wrap (x.Gate + 1))) rfl rfl rfl (by kernel_rfl) (by kernel_rfl) (by kernel_rfl) (ST.sel hS22 [0, 1, 2, 3, 4, 5, 7] rfl rfl) (fun w' hw' => (Y_add (k := .i64) (a := x.Gate) (b := 1) rfl rfl rfl)) ?_
          refine ra_q 8 67 (v := .slice (sv B1 x.Gate.toNat c2 3) ((IntKind.i64.wrap (x.Gate + 1)).toNat - x.Gate.toNat) (c2 - x.Gate.toNat)) rfl rfl rfl (by kernel_rfl) (by kernel_rfl) (by kernel_rfl) (ST.sel hS22 [0, 1, 2, 3, 4, 5, 7] rfl rfl) (fun w' hw' => (Y_slice1 (B := B1) (m := c1.Gates.length) (c := c2) (l := x.Gate.toNat) (h := (IntKind.i64.wrap (x.Gate + 1)).toNat) (s := 3) k_sl_102_213 k_sz_213_3 rfl rfl (bnd_some rfl (nn_toNat (by omega))) (bnd_some rfl (nn_toNat (by omega))) (by omega) (by omega))) ?_
          refine ra_q 9 68 (v := pt (some ⟨b5, 0, none⟩) 4) rfl rfl rfl (by kernel_rfl) (by kernel_rfl) (by kernel_rfl) (ST.sel hS22 [0, 1, 2, 3, 4, 5, 7] rfl rfl) (fun w' hw' => (Y_fieldAddr (B := some ⟨b5, 0, none⟩) (i := 0) (s := 0) k_fd_201_2_4_59 k_sz_59_1 rfl (hf.get 11 3 rfl))) ?_
          refine ra_q 10 69 (v := .slice B7 r_6.place.length c8) rfl rfl rfl (by kernel_rfl) (by kernel_rfl) (by kernel_rfl) (ST.sel hS22 [0, 1, 2, 3, 4, 5, 7] rfl rfl) (fun w' hw' => (Y_load1 (B := some ⟨b5, 0, none⟩) (i := 4) (cs := [.int .i64 r_6.g.Nodes, .slice B5 r_6.g.Edges.length c6, .int .i64 r_6.c.Qubits, .slice B6 r_6.c.Gates.length c7, .slice B7 r_6.place.length c8, .slice B8 r_6.done.length c9]) (v := .slice B7 r_6.place.length c8) k_sc_59 rfl rfl (ST.cf hw' (i := 3) rfl) rfl)) ?_
          refine ra_all (rs := [11]) (by kernel_rfl) rfl ?_
          refine ra_c 70 (i := 11) rfl rfl rfl (Yc_func (g := 165) (vs := [.slice (sv B1 x.Gate.toNat c2 3) ((IntKind.i64.wrap (x.Gate + 1)).toNat - x.Gate.toNat) (c2 - x.Gate.toNat), .slice B7 r_6.place.length c8]) k_call_165 rfl (mc rfl (mc rfl mn)) (c_impl_mapped (List.drop x.Gate.toNat (List.take ((IntKind.i64.wrap (x.Gate + 1)).toNat) c1.Gates)) place (sv B1 x.Gate.toNat c2 3) (c2 - x.Gate.toNat) ((IntKind.i64.wrap (x.Gate + 1)).toNat - x.Gate.toNat) B7 c8 r_6.place.length _ hv hl (hS22.inn0 [(true, 0), (false, 4)] rfl) hc2)) ?_ ?_
          · rintro _ w_14 ⟨B12, c13, rfl, hd2⟩
            have hS23 := hS22.out0 hd2
            have hS23 : ST w0 [] _ [⟨some ⟨b, 0, none⟩, 100, [.int .i64 g.Nodes, .slice B g.Edges.length c], 2⟩, ⟨some ⟨b1, 0, none⟩, 104, [.int .i64 c1.Qubits, .slice B1 c1.Gates.length c2], 2⟩, ⟨some ⟨b3, 0, none⟩, 104, [.int .i64 0, .slice none 0 0], 2⟩, ⟨some ⟨b5, 0, none⟩, 201, [.int .i64 r_6.g.Nodes, .slice B5 r_6.g.Edges.length c6, .int .i64 r_6.c.Qubits, .slice B6 r_6.c.Gates.length c7, .slice B7 r_6.place.length c8, .slice B8 r_6.done.length c9], 6⟩, ⟨B7, 3, (place.flatMap encI), c8 * 1⟩, ⟨B8, 4, (done.flatMap encB), c9 * 1⟩, ⟨B9, 213, (out.flatMap enc_Gate), c10 * 3⟩, ⟨some ⟨b6, 0, none⟩, 211, [.int .i64 x.Gate, .int .i64 x.A, .int .i64 x.B], 3⟩, ⟨B12, 213, (r_7.flatMap enc_Gate), c13 * 3⟩] [⟨(sv B1 x.Gate.toNat c2 3), ((List.drop x.Gate.toNat (List.take ((IntKind.i64.wrap (x.Gate + 1)).toNat) c1.Gates)).flatMap enc_Gate)⟩, ⟨B5, (r_6.g.Edges.flatMap enc_Edge)⟩, ⟨B6, (r_6.c.Gates.flatMap enc_Gate)⟩, ⟨B, (g.Edges.flatMap enc_Edge)⟩, ⟨B1, (c1.Gates.flatMap enc_Gate)⟩, ⟨B2, (r_.Start.flatMap encI)⟩, ⟨B3, (r_.Steps.flatMap enc_RouteStep)⟩] := hS23
            refine ⟨(ST.sel hS23 [0, 1, 2, 3, 4, 5, 7] rfl rfl), ?_⟩
            refine ra_all (rs := [12]) (by kernel_rfl) rfl ?_
            refine ra_s 71 (i := 12) rfl rfl rfl (Ys_append (s := 3) (by' := 24) (i := 6) (nn := out.length) (c := c10) (k := r_7.length) (len := (out ++ r_7).length) (B := B9) (xs := (r_7.flatMap enc_Gate)) (cs' := ((out ++ r_7).flatMap enc_Gate)) hS23 k_sl_102_213 k_sz_213_3 k_by_213_24 k_zero_213 rfl (by decide) rfl rfl rfl rfl (fm_lenn (l := out) enc_Gate_len rfl) rfl (hS23.cf (i := 8) rfl) (fm_lenn (l := r_7) enc_Gate_len rfl) (fm_one' (enc := enc_Gate) enc_Gate_one r_7) (by have := hap1; omega) (by have := hap1; simp only [maxLen]; omega) (fm_app _ _) (app_len (l := out) (l' := r_7) rfl rfl)) ?_ ?_
            · rintro _ w_15 ⟨B13, c14, rfl, hS24⟩
              have hS24 : ST w0 [] _ [⟨some ⟨b, 0, none⟩, 100, [.int .i64 g.Nodes, .slice B g.Edges.length c], 2⟩, ⟨some ⟨b1, 0, none⟩, 104, [.int .i64 c1.Qubits, .slice B1 c1.Gates.length c2], 2⟩, ⟨some ⟨b3, 0, none⟩, 104, [.int .i64 0, .slice none 0 0], 2⟩, ⟨some ⟨b5, 0, none⟩, 201, [.int .i64 r_6.g.Nodes, .slice B5 r_6.g.Edges.length c6, .int .i64 r_6.c.Qubits, .slice B6 r_6.c.Gates.length c7, .slice B7 r_6.place.length c8, .slice B8 r_6.done.length c9], 6⟩, ⟨B7, 3, (place.flatMap encI), c8 * 1⟩, ⟨B8, 4, (done.flatMap encB), c9 * 1⟩, ⟨B13, 213, ((out ++ r_7).flatMap enc_Gate), c14 * 3⟩, ⟨some ⟨b6, 0, none⟩, 211, [.int .i64 x.Gate, .int .i64 x.A, .int .i64 x.B], 3⟩, ⟨B12, 213, (r_7.flatMap enc_Gate), c13 * 3⟩] [⟨(sv B1 x.Gate.toNat c2 3), ((List.drop x.Gate.toNat (List.take ((IntKind.i64.wrap (x.Gate + 1)).toNat) c1.Gates)).flatMap enc_Gate)⟩, ⟨B5, (r_6.g.Edges.flatMap enc_Edge)⟩, ⟨B6, (r_6.c.Gates.flatMap enc_Gate)⟩, ⟨B, (g.Edges.flatMap enc_Edge)⟩, ⟨B1, (c1.Gates.flatMap enc_Gate)⟩, ⟨B2, (r_.Start.flatMap encI)⟩, ⟨B3, (r_.Steps.flatMap enc_RouteStep)⟩] := hS24
              refine ⟨(ST.sel hS24 [0, 1, 2, 3, 4, 5, 7] rfl rfl), ?_⟩
              refine ra_q 13 12 (v := .slice B13 ((out ++ r_7).length) c14) rfl rfl rfl (by kernel_rfl) (by kernel_rfl) (by kernel_rfl) (ST.sel hS24 [0, 1, 2, 3, 4, 5, 7] rfl rfl) (fun w' hw' => (Y_assign (v := .slice B13 ((out ++ r_7).length) c14) rfl rfl)) ?_
              refine ra_done (by kernel_rfl) ?_
              have hS25 : ST w0 [] _ [⟨some ⟨b, 0, none⟩, 100, [.int .i64 g.Nodes, .slice B g.Edges.length c], 2⟩, ⟨some ⟨b1, 0, none⟩, 104, [.int .i64 c1.Qubits, .slice B1 c1.Gates.length c2], 2⟩, ⟨some ⟨b3, 0, none⟩, 104, [.int .i64 0, .slice none 0 0], 2⟩, ⟨some ⟨b5, 0, none⟩, 201, [.int .i64 r_6.g.Nodes, .slice B5 r_6.g.Edges.length c6, .int .i64 r_6.c.Qubits, .slice B6 r_6.c.Gates.length c7, .slice B7 r_6.place.length c8, .slice B8 r_6.done.length c9], 6⟩, ⟨B7, 3, (place.flatMap encI), c8 * 1⟩, ⟨B8, 4, (done.flatMap encB), c9 * 1⟩, ⟨B13, 213, ((out ++ r_7).flatMap enc_Gate), c14 * 3⟩, ⟨some ⟨b6, 0, none⟩, 211, [.int .i64 x.Gate, .int .i64 x.A, .int .i64 x.B], 3⟩, ⟨B12, 213, (r_7.flatMap enc_Gate), c13 * 3⟩] [⟨B5, (r_6.g.Edges.flatMap enc_Edge)⟩, ⟨B6, (r_6.c.Gates.flatMap enc_Gate)⟩, ⟨B, (g.Edges.flatMap enc_Edge)⟩, ⟨B1, (c1.Gates.flatMap enc_Gate)⟩, ⟨B2, (r_.Start.flatMap encI)⟩, ⟨B3, (r_.Steps.flatMap enc_RouteStep)⟩] := ST.subR hS24 (subc (mem_at (i := 1) rfl) (subc (mem_at (i := 2) rfl) (subc (mem_at (i := 3) rfl) (subc (mem_at (i := 4) rfl) (subc (mem_at (i := 5) rfl) (subc (mem_at (i := 6) rfl) (fun _ h => by cases h)))))))
              exact ⟨(out ++ r_7), B13, c14, (some_inj hF6), (FF.cons (hf.get 3 0 rfl) (FF.cons (hf.get 4 1 rfl) (FF.cons (hf.get 6 2 rfl) (FF.cons (hf.get 11 3 rfl) (FF.cons rfl (FF.cons rfl (FF.cons (hf.get 42 5 rfl) (FF.cons (hf.get 43 6 rfl) (FF.cons (hf.get 44 7 rfl) FF.nil))))))))), (hS25.sel [0, 1, 2, 3, 4, 5, 6, 7] rfl rfl)⟩
            exact allR_nil
          exact allR_nil
      rintro f w ⟨out1, B10, c11, rfl, hf1, hS16⟩
      refine cw_region ?_
      refine sq 72 rfl rfl (Y_loadA (B := some ⟨b5, 0, none⟩) (i := 0) (cs := [.int .i64 r_6.g.Nodes, .slice B5 r_6.g.Edges.length c6, .int .i64 r_6.c.Qubits, .slice B6 r_6.c.Gates.length c7, .slice B7 r_6.place.length c8, .slice B8 r_6.done.length c9]) (vs := [.int .i64 r_6.g.Nodes, .slice B5 r_6.g.Edges.length c6, .int .i64 r_6.c.Qubits, .slice B6 r_6.c.Gates.length c7, .slice B7 r_6.place.length c8, .slice B8 r_6.done.length c9]) k_ag_201 k_sz_201_6 rfl (hf1.get 11 3 rfl) (hS16.cf (i := 3) rfl) rfl rfl) ?_
      refine sq 73 rfl rfl (Y_loadA (B := some ⟨b6, 0, none⟩) (i := 0) (cs := [.int .i64 x.Gate, .int .i64 x.A, .int .i64 x.B]) (vs := [.int .i64 x.Gate, .int .i64 x.A, .int .i64 x.B]) k_ag_211 k_sz_211_3 rfl (hf1.get 14 5 rfl) (hS16.cf (i := 7) rfl) rfl rfl) ?_
      obtain ⟨⟨r_8, m, m1⟩, hc3, hF4⟩ := bind_inv hF4
      refine sc 74 rfl rfl (Yc_func (g := 166) (vs := [.agg #[.int .i64 r_6.g.Nodes, .slice B5 r_6.g.Edges.length c6, .int .i64 r_6.c.Qubits, .slice B6 r_6.c.Gates.length c7, .slice B7 r_6.place.length c8, .slice B8 r_6.done.length c9], .agg #[.int .i64 x.Gate, .int .i64 x.A, .int .i64 x.B]]) k_call_166 rfl (mc rfl (mc rfl mn)) (c_impl_routing_step (Trouting.mk r_6.g r_6.c place done) x B5 c6 r_6.g.Edges.length B6 c7 r_6.c.Gates.length B7 c8 r_6.place.length B8 c9 r_6.done.length _ rfl rfl hq4 hl hl1 (hS16.inn [false, false, false, false, true, true, false, false] rfl [(true, 0), (true, 1)] rfl) hc3)) ?_
      rintro _ w_16 ⟨rfl, hl2, hl3, hd3⟩
      have hS26 := hS16.out [false, false, false, false, true, true, false, false] rfl hd3
      have hS26 : ST w0 [] _ [⟨some ⟨b, 0, none⟩, 100, [.int .i64 g.Nodes, .slice B g.Edges.length c], 2⟩, ⟨some ⟨b1, 0, none⟩, 104, [.int .i64 c1.Qubits, .slice B1 c1.Gates.length c2], 2⟩, ⟨some ⟨b3, 0, none⟩, 104, [.int .i64 0, .slice none 0 0], 2⟩, ⟨some ⟨b5, 0, none⟩, 201, [.int .i64 r_6.g.Nodes, .slice B5 r_6.g.Edges.length c6, .int .i64 r_6.c.Qubits, .slice B6 r_6.c.Gates.length c7, .slice B7 r_6.place.length c8, .slice B8 r_6.done.length c9], 6⟩, ⟨B10, 213, (out1.flatMap enc_Gate), c11 * 3⟩, ⟨some ⟨b6, 0, none⟩, 211, [.int .i64 x.Gate, .int .i64 x.A, .int .i64 x.B], 3⟩, ⟨B7, 3, (m.flatMap encI), c8 * 1⟩, ⟨B8, 4, (m1.flatMap encB), c9 * 1⟩] [⟨B5, (r_6.g.Edges.flatMap enc_Edge)⟩, ⟨B6, (r_6.c.Gates.flatMap enc_Gate)⟩, ⟨B, (g.Edges.flatMap enc_Edge)⟩, ⟨B1, (c1.Gates.flatMap enc_Gate)⟩, ⟨B2, (r_.Start.flatMap encI)⟩, ⟨B3, (r_.Steps.flatMap enc_RouteStep)⟩] := hS26
      refine rw_nil ?_
      refine cw_region ?_
      refine sq 75 rfl rfl (Y_add (k := .i64) (a := (i : Int)) (b := 1) rfl (hf1.get 44 8 rfl) rfl) ?_
      refine sq 44 rfl rfl (Y_move (v := .int .i64 (IntKind.i64.wrap ((i : Int) + 1))) rfl rfl) ?_
      refine rw_nil ?_
      obtain rfl := some_inj hF4
      exact ⟨k_1, Nat.lt_succ_self _, i + 1, m, m1, out1, B10, c11, (FF.cons (hf1.get 3 0 rfl) (FF.cons (hf1.get 4 1 rfl) (FF.cons (hf1.get 6 2 rfl) (FF.cons (hf1.get 11 3 rfl) (FF.cons (hf1.get 12 4 rfl) (FF.cons (hf1.get 42 6 rfl) (FF.cons (hf1.get 43 7 rfl) (FF.cons (congrArg (Value.int .i64) (wr_succ hlt1 hN)) FF.nil)))))))), hl2, hl3, (hS26.sel [0, 1, 2, 3, 6, 7, 4] rfl rfl), (by omega), hL1⟩
    · skip
      obtain rfl : k_ = 0 := by have h := of_decide_eq_false hlt; omega
      refine cw_exit rfl ?_
      obtain rfl := some_inj hL
      refine cw_seq ?_
      refine cw_region ?_
      refine sq 76 rfl rfl (Y_fieldAddr (B := some ⟨b, 0, none⟩) (i := 0) (s := 0) k_fd_100_0_0_3 k_sz_3_1 rfl (hf.get 3 0 rfl)) ?_
      refine sq 77 rfl rfl (Y_load1 (B := some ⟨b, 0, none⟩) (i := 0) (cs := [.int .i64 g.Nodes, .slice B g.Edges.length c]) (v := .int .i64 g.Nodes) k_sc_3 rfl rfl (hS13.cf (i := 0) rfl) rfl) ?_
      refine sq 78 rfl rfl (Y_move (v := .slice B9 out.length c10) rfl (hf.get 12 4 rfl)) ?_
      obtain ⟨⟨r_9, r_10⟩, hc4, hF3⟩ := bind_inv hF3
      refine sc 79 rfl rfl (Yc_func (g := 167) (vs := [.int .i64 g.Nodes, .slice B9 out.length c10]) k_call_167 rfl (mc rfl (mc rfl mn)) (c_impl_circuitIf g.Nodes out B9 c10 out.length _ rfl (hS13.inn0 [(false, 6)] rfl) hc4)) ?_
      rintro _ w_17 ⟨B14, c15, rfl, hd4⟩
      have hS27 := hS13.out0 hd4
      have hS27 : ST w0 [] _ [⟨some ⟨b, 0, none⟩, 100, [.int .i64 g.Nodes, .slice B g.Edges.length c], 2⟩, ⟨some ⟨b1, 0, none⟩, 104, [.int .i64 c1.Qubits, .slice B1 c1.Gates.length c2], 2⟩, ⟨some ⟨b3, 0, none⟩, 104, [.int .i64 0, .slice none 0 0], 2⟩, ⟨some ⟨b5, 0, none⟩, 201, [.int .i64 r_6.g.Nodes, .slice B5 r_6.g.Edges.length c6, .int .i64 r_6.c.Qubits, .slice B6 r_6.c.Gates.length c7, .slice B7 r_6.place.length c8, .slice B8 r_6.done.length c9], 6⟩, ⟨B7, 3, (place.flatMap encI), c8 * 1⟩, ⟨B8, 4, (done.flatMap encB), c9 * 1⟩, ⟨B9, 213, (out.flatMap enc_Gate), c10 * 3⟩, ⟨B14, 213, (r_9.Gates.flatMap enc_Gate), c15 * 3⟩] [⟨B5, (r_6.g.Edges.flatMap enc_Edge)⟩, ⟨B6, (r_6.c.Gates.flatMap enc_Gate)⟩, ⟨B, (g.Edges.flatMap enc_Edge)⟩, ⟨B1, (c1.Gates.flatMap enc_Gate)⟩, ⟨B2, (r_.Start.flatMap encI)⟩, ⟨B3, (r_.Steps.flatMap enc_RouteStep)⟩] := hS27
      refine sq 80 rfl rfl (Y_extract (v := .agg #[.int .i64 r_9.Qubits, .slice B14 r_9.Gates.length c15]) rfl rfl rfl) ?_
      refine sq 81 rfl rfl (Y_extract (v := .bool r_10) rfl rfl rfl) ?_
      refine ss0 rfl rfl (Ys_store (i := 2) (s := 2) (B := some ⟨b3, 0, none⟩) (T' := 104) (v := .agg #[.int .i64 r_9.Qubits, .slice B14 r_9.Gates.length c15]) (vs := [.int .i64 r_9.Qubits, .slice B14 r_9.Gates.length c15]) (k := 0) (cs' := [.int .i64 r_9.Qubits, .slice B14 r_9.Gates.length c15]) hS27 k_sz_104_2 rfl (hf.get 6 2 rfl) rfl rfl rfl rfl rfl (Nat.le_of_ble_eq_true rfl) rfl rfl) ?_
      rintro _ w_18 ⟨rfl, hS28⟩
      have hS28 : ST w0 [] _ [⟨some ⟨b, 0, none⟩, 100, [.int .i64 g.Nodes, .slice B g.Edges.length c], 2⟩, ⟨some ⟨b1, 0, none⟩, 104, [.int .i64 c1.Qubits, .slice B1 c1.Gates.length c2], 2⟩, ⟨some ⟨b3, 0, none⟩, 104, [.int .i64 r_9.Qubits, .slice B14 r_9.Gates.length c15], 2⟩, ⟨some ⟨b5, 0, none⟩, 201, [.int .i64 r_6.g.Nodes, .slice B5 r_6.g.Edges.length c6, .int .i64 r_6.c.Qubits, .slice B6 r_6.c.Gates.length c7, .slice B7 r_6.place.length c8, .slice B8 r_6.done.length c9], 6⟩, ⟨B7, 3, (place.flatMap encI), c8 * 1⟩, ⟨B8, 4, (done.flatMap encB), c9 * 1⟩, ⟨B9, 213, (out.flatMap enc_Gate), c10 * 3⟩, ⟨B14, 213, (r_9.Gates.flatMap enc_Gate), c15 * 3⟩] [⟨B5, (r_6.g.Edges.flatMap enc_Edge)⟩, ⟨B6, (r_6.c.Gates.flatMap enc_Gate)⟩, ⟨B, (g.Edges.flatMap enc_Edge)⟩, ⟨B1, (c1.Gates.flatMap enc_Gate)⟩, ⟨B2, (r_.Start.flatMap encI)⟩, ⟨B3, (r_.Steps.flatMap enc_RouteStep)⟩] := hS28
      refine sq 7 rfl rfl (Y_assign (v := .bool r_10) rfl rfl) ?_
      refine rw_nil ?_
      refine cw_ret ?_
      obtain ⟨rfl, rfl⟩ := pr2 (some_inj hF3)
      exact ret2 Try.results71 (v1 := .agg #[.int .i64 r_9.Qubits, .slice B14 r_9.Gates.length c15]) (resAt_cellA (B := some ⟨b3, 0, none⟩) (i := 0) (cs := [.int .i64 r_9.Qubits, .slice B14 r_9.Gates.length c15]) (vs := [.int .i64 r_9.Qubits, .slice B14 r_9.Gates.length c15]) (hf.get 6 2 rfl) k_ag_104 k_sz_104_2 (hS28.cf (i := 2) rfl) rfl rfl) (v2 := .bool r_10) (resAt_tmp rfl) ⟨B14, c15, rfl, (ST.subR (R' := []) (hS28.sel [7] rfl rfl) (fun _ h => by cases h))⟩

theorem c_laws_heldGateS (a : List TGate) (k_ : Int) (B : Option Addr) (c n : Nat) (w0 : World) (hn : a.length = n) (hS : ST w0 [] w0 [] [⟨B, (a.flatMap enc_Gate)⟩]) {r_ : Int} (hF : F_laws_heldGateS a k_ = some r_) :
    CV Try.prog 168 #[.slice B n c, .int .i64 k_] w0 (fun v w' => v = .int .i64 r_ ∧ ST w0 [] w' [] []) := by
  subst hn
  unfold F_laws_heldGateS at hF
  refine cv_of_cw 40 Try.func168 rfl Try.ntmps168 rfl ?_
  refine cw_seq ?_
  refine cw_region ?_
  refine sq 4 rfl rfl (Y_assign (v := .int .i64 0) rfl rfl) ?_
  refine rw_nil ?_
  refine cw_seq ?_
  refine cw_seq ?_
  refine cw_region ?_
  refine sq 5 rfl rfl (Y_assign (v := .int .i64 0) rfl rfl) ?_
  refine rw_nil ?_
  obtain ⟨hN, hF⟩ := chk_inv hF
  obtain ⟨z, hz, hF1⟩ := bind_inv hF
  refine cw_block ?_
  refine cw_loop (fun k f w => ∃ (i1 : Nat) (k_1 : Int), FF f [(0, .slice B a.length c), (1, .int .i64 k_1), (5, .int .i64 (i1 : Int))] ∧ ST w0 [] w [] [⟨B, (a.flatMap enc_Gate)⟩] ∧ i1 + k = a.length ∧ forX (F_laws_heldGateS_l1 a) k i1 k_1 = some z) a.length ⟨0, k_, (FF.cons rfl (FF.cons rfl (FF.cons rfl FF.nil))), (hS.sel [] rfl rfl), Nat.zero_add _, hz⟩ ?_
  rintro k_2 f w ⟨i1, k_1, hf, hS1, hik, hL⟩
  refine cw_seq ?_
  refine cw_seq ?_
  refine cw_region ?_
  refine sq 6 rfl rfl (Y_move (v := .int .i64 (i1 : Int)) rfl (hf.get 5 2 rfl)) ?_
  refine sq 7 rfl rfl (Y_move (v := .slice B a.length c) rfl (hf.get 0 0 rfl)) ?_
  refine sq 8 rfl rfl (Y_len (B := B) (m := a.length) (c := c) k_sl_102_213 rfl rfl) ?_
  refine sq 9 rfl rfl (Y_lt (k := .i64) (a := (i1 : Int)) (b := (a.length : Int)) rfl rfl rfl) ?_
  refine rw_nil ?_
  refine cw_cond (b := (decide ((i1 : Int) < (a.length : Int)))) rfl (fun hlt => ?_) (fun hlt => ?_)
  · skip
    have hlt1 : i1 < a.length := by have h := of_decide_eq_true hlt; omega
    obtain ⟨k_3, rfl⟩ : ∃ k2, k_2 = k2 + 1 := ⟨k_2 - 1, by omega⟩
    obtain ⟨y, hb, hL1⟩ := forX_go hL
    unfold F_laws_heldGateS_l1 at hb
    refine cw_skip ?_
    refine cw_seq ?_
    refine cw_block ?_
    refine cw_seq ?_
    refine cw_seq ?_
    refine cw_region ?_
    refine sq 12 rfl rfl (Y_move (v := .slice B a.length c) rfl (hf.get 0 0 rfl)) ?_
    refine sq 13 rfl rfl (Y_move (v := .int .i64 (i1 : Int)) rfl (hf.get 5 2 rfl)) ?_
    obtain ⟨x, hx, hb⟩ := bind_inv hb
    refine sq 14 rfl rfl (Y_index (B := B) (m := a.length) (c := c) (k := .i64) (i := (i1 : Int)) k_sl_102_213 k_sz_213_3 rfl rfl rfl (gi_isSome enc_Gate_len rfl (hS1.rf (i := 0) rfl) hx) (getI_nn hx) (getI_ltI hx rfl)) ?_
    refine sq 15 rfl rfl (Y_fieldAddr (B := B) (i := (i1 : Int).toNat * 3) (s := 0) k_fd_213_0_0_3 k_sz_3_1 rfl rfl) ?_
    refine sq 16 rfl rfl (Y_load1 (B := B) (i := (i1 : Int).toNat * 3 + 0) (cs := (a.flatMap enc_Gate)) (v := .int .i64 x.Kind) k_sc_3 rfl rfl (hS1.rf (i := 0) rfl) (gi_at enc_Gate_len hx rfl)) ?_
    refine sq 17 rfl rfl (Y_move (v := .int .i64 k_1) rfl (hf.get 1 1 rfl)) ?_
    refine sq 18 rfl rfl (Y_ne (k := .i64) (a := x.Kind) (b := k_1) rfl rfl rfl) ?_
    refine rw_nil ?_
    refine cw_cond (b := (x.Kind != k_1)) rfl (fun hb1 => ?_) (fun hb1 => ?_)
    · skip
      have hF2 := ct hb hb1
      refine cw_seq ?_
      refine cw_region ?_
      refine sq 4 rfl rfl (Y_assign (v := .int .i64 (-1)) rfl rfl) ?_
      refine rw_nil ?_
      refine cw_ret ?_
      obtain rfl := some_inj hF2
      obtain rfl := some_inj hL1
      obtain rfl := some_inj hF1
      exact ret1 Try.results168 (v1 := .int .i64 (-1)) (resAt_tmp rfl) ⟨rfl, (ST.subR (R' := []) (hS1.sel [] rfl rfl) (fun _ h => by cases h))⟩
    · skip
      have hF3 := cf' hb hb1
      refine cw_skip ?_
      refine cw_seq ?_
      refine cw_region ?_
      refine sq 19 rfl rfl (Y_move (v := .int .i64 k_1) rfl (hf.get 1 1 rfl)) ?_
      refine sq 20 rfl rfl (Y_add (k := .i64) (a := k_1) (b := 1) rfl rfl rfl) ?_
      refine sq 1 rfl rfl (Y_assign (v := .int .i64 (IntKind.i64.wrap (k_1 + 1))) rfl rfl) ?_
      refine rw_nil ?_
      refine cw_seq ?_
      refine cw_seq ?_
      refine cw_region ?_
      refine sq 21 rfl rfl (Y_move (v := .slice B a.length c) rfl (hf.get 0 0 rfl)) ?_
      refine sq 22 rfl rfl (Y_move (v := .int .i64 (i1 : Int)) rfl (hf.get 5 2 rfl)) ?_
      refine sq 23 rfl rfl (Y_index (B := B) (m := a.length) (c := c) (k := .i64) (i := (i1 : Int)) k_sl_102_213 k_sz_213_3 rfl rfl rfl (gi_isSome enc_Gate_len rfl (hS1.rf (i := 0) rfl) hx) (getI_nn hx) (getI_ltI hx rfl)) ?_
      refine sq 24 rfl rfl (Y_fieldAddr (B := B) (i := (i1 : Int).toNat * 3) (s := 0) k_fd_213_1_1_3 k_sz_3_1 rfl rfl) ?_
      refine sq 25 rfl rfl (Y_load1 (B := B) (i := (i1 : Int).toNat * 3 + 1) (cs := (a.flatMap enc_Gate)) (v := .int .i64 x.A) k_sc_3 rfl rfl (hS1.rf (i := 0) rfl) (gi_at enc_Gate_len hx rfl)) ?_
      refine sq 26 rfl rfl (Y_move (v := .int .i64 (IntKind.i64.wrap (k_1 + 1))) rfl rfl) ?_
      refine sq 27 rfl rfl (Y_ne (k := .i64) (a := x.A) (b := (IntKind.i64.wrap (k_1 + 1))) rfl rfl rfl) ?_
      refine rw_nil ?_
      refine cw_cond (b := (x.A != (IntKind.i64.wrap (k_1 + 1)))) rfl (fun hb2 => ?_) (fun hb2 => ?_)
      · skip
        have hF4 := ct hF3 hb2
        refine cw_seq ?_
        refine cw_region ?_
        refine sq 4 rfl rfl (Y_assign (v := .int .i64 (-1)) rfl rfl) ?_
        refine rw_nil ?_
        refine cw_ret ?_
        obtain rfl := some_inj hF4
        obtain rfl := some_inj hL1
        obtain rfl := some_inj hF1
        exact ret1 Try.results168 (v1 := .int .i64 (-1)) (resAt_tmp rfl) ⟨rfl, (ST.subR (R' := []) (hS1.sel [] rfl rfl) (fun _ h => by cases h))⟩
      · skip
        have hF5 := cf' hF3 hb2
        refine cw_skip ?_
        refine cw_seq ?_
        refine cw_region ?_
        refine sq 28 rfl rfl (Y_move (v := .int .i64 (IntKind.i64.wrap (k_1 + 1))) rfl rfl) ?_
        refine sq 29 rfl rfl (Y_add (k := .i64) (a := (IntKind.i64.wrap (k_1 + 1))) (b := 1) rfl rfl rfl) ?_
        refine sq 1 rfl rfl (Y_assign (v := .int .i64 (IntKind.i64.wrap ((IntKind.i64.wrap (k_1 + 1)) + 1))) rfl rfl) ?_
        refine rw_nil ?_
        refine cw_seq ?_
        refine cw_seq ?_
        refine cw_region ?_
        refine sq 30 rfl rfl (Y_move (v := .slice B a.length c) rfl (hf.get 0 0 rfl)) ?_
        refine sq 31 rfl rfl (Y_move (v := .int .i64 (i1 : Int)) rfl (hf.get 5 2 rfl)) ?_
        refine sq 32 rfl rfl (Y_index (B := B) (m := a.length) (c := c) (k := .i64) (i := (i1 : Int)) k_sl_102_213 k_sz_213_3 rfl rfl rfl (gi_isSome enc_Gate_len rfl (hS1.rf (i := 0) rfl) hx) (getI_nn hx) (getI_ltI hx rfl)) ?_
        refine sq 33 rfl rfl (Y_fieldAddr (B := B) (i := (i1 : Int).toNat * 3) (s := 0) k_fd_213_2_2_3 k_sz_3_1 rfl rfl) ?_
        refine sq 34 rfl rfl (Y_load1 (B := B) (i := (i1 : Int).toNat * 3 + 2) (cs := (a.flatMap enc_Gate)) (v := .int .i64 x.B) k_sc_3 rfl rfl (hS1.rf (i := 0) rfl) (gi_at enc_Gate_len hx rfl)) ?_
        refine sq 35 rfl rfl (Y_move (v := .int .i64 (IntKind.i64.wrap ((IntKind.i64.wrap (k_1 + 1)) + 1))) rfl rfl) ?_
        refine sq 36 rfl rfl (Y_ne (k := .i64) (a := x.B) (b := (IntKind.i64.wrap ((IntKind.i64.wrap (k_1 + 1)) + 1))) rfl rfl rfl) ?_
        refine rw_nil ?_
        refine cw_cond (b := (x.B != (IntKind.i64.wrap ((IntKind.i64.wrap (k_1 + 1)) + 1)))) rfl (fun hb3 => ?_) (fun hb3 => ?_)
        · skip
          have hF6 := ct hF5 hb3
          refine cw_seq ?_
          refine cw_region ?_
          refine sq 4 rfl rfl (Y_assign (v := .int .i64 (-1)) rfl rfl) ?_
          refine rw_nil ?_
          refine cw_ret ?_
          obtain rfl := some_inj hF6
          obtain rfl := some_inj hL1
          obtain rfl := some_inj hF1
          exact ret1 Try.results168 (v1 := .int .i64 (-1)) (resAt_tmp rfl) ⟨rfl, (ST.subR (R' := []) (hS1.sel [] rfl rfl) (fun _ h => by cases h))⟩
        · skip
          have hF7 := cf' hF5 hb3
          refine cw_skip ?_
          refine cw_region ?_
          refine sq 37 rfl rfl (Y_move (v := .int .i64 (IntKind.i64.wrap ((IntKind.i64.wrap (k_1 + 1)) + 1))) rfl rfl) ?_
          refine sq 38 rfl rfl (Y_add (k := .i64) (a := (IntKind.i64.wrap ((IntKind.i64.wrap (k_1 + 1)) + 1))) (b := 1) rfl rfl rfl) ?_
          refine sq 1 rfl rfl (Y_assign (v := .int .i64 (IntKind.i64.wrap ((IntKind.i64.wrap ((IntKind.i64.wrap (k_1 + 1)) + 1)) + 1))) rfl rfl) ?_
          refine rw_nil ?_
          refine cw_region ?_
          refine sq 10 rfl rfl (Y_move (v := .int .i64 (i1 : Int)) rfl (hf.get 5 2 rfl)) ?_
          refine sq 11 rfl rfl (Y_add (k := .i64) (a := (i1 : Int)) (b := 1) rfl rfl rfl) ?_
          refine sq 5 rfl rfl (Y_assign (v := .int .i64 (IntKind.i64.wrap ((i1 : Int) + 1))) rfl rfl) ?_
          refine rw_nil ?_
          obtain rfl := some_inj hF7
          exact ⟨k_3, Nat.lt_succ_self _, i1 + 1, (IntKind.i64.wrap ((IntKind.i64.wrap ((IntKind.i64.wrap (k_1 + 1)) + 1)) + 1)), (FF.cons (hf.get 0 0 rfl) (FF.cons rfl (FF.cons (congrArg (Value.int .i64) (wr_succ hlt1 hN)) FF.nil))), (hS1.sel [] rfl rfl), (by omega), hL1⟩
  · skip
    obtain rfl : k_2 = 0 := by have h := of_decide_eq_false hlt; omega
    refine cw_exit rfl ?_
    obtain rfl := some_inj hL
    refine cw_seq ?_
    refine cw_region ?_
    refine sq 39 rfl rfl (Y_move (v := .int .i64 k_1) rfl (hf.get 1 1 rfl)) ?_
    refine sq 4 rfl rfl (Y_assign (v := .int .i64 k_1) rfl rfl) ?_
    refine rw_nil ?_
    refine cw_ret ?_
    obtain rfl := some_inj hF1
    exact ret1 Try.results168 (v1 := .int .i64 k_1) (resAt_tmp rfl) ⟨rfl, (ST.subR (R' := []) (hS1.sel [] rfl rfl) (fun _ h => by cases h))⟩

theorem c_laws_heldCircuit (a : TCircuit) (k_ : Int) (B : Option Addr) (c n : Nat) (w0 : World) (hn : a.Gates.length = n) (hS : ST w0 [] w0 [] [⟨B, (a.Gates.flatMap enc_Gate)⟩]) {r_ : Int} (hF : F_laws_heldCircuit a k_ = some r_) :
    CV Try.prog 72 #[.agg #[.int .i64 a.Qubits, .slice B n c], .int .i64 k_] w0 (fun v w' => v = .int .i64 r_ ∧ ST w0 [] w' [] []) := by
  subst hn
  unfold F_laws_heldCircuit at hF
  refine cv_of_cw 12 Try.func72 rfl Try.ntmps72 rfl ?_
  refine cw_seq ?_
  refine cw_region ?_
  refine ss 2 rfl rfl (Ys_box (T := 104) (v := .agg #[.int .i64 a.Qubits, .slice B a.Gates.length c]) (cs := [.int .i64 a.Qubits, .slice B a.Gates.length c]) (m := 2) hS rfl rfl rfl rfl) ?_
  rintro _ w_ ⟨b, rfl, hS1⟩
  refine sq 4 rfl rfl (Y_assign (v := .int .i64 0) rfl rfl) ?_
  refine rw_nil ?_
  refine cw_seq ?_
  refine cw_region ?_
  refine sq 5 rfl rfl (Y_fieldAddr (B := some ⟨b, 0, none⟩) (i := 0) (s := 0) k_fd_104_1_1_102 k_sz_102_1 rfl rfl) ?_
  refine sq 6 rfl rfl (Y_load1 (B := some ⟨b, 0, none⟩) (i := 1) (cs := [.int .i64 a.Qubits, .slice B a.Gates.length c]) (v := .slice B a.Gates.length c) k_sc_102 rfl rfl (hS1.cf (i := 0) rfl) rfl) ?_
  refine sq 7 rfl rfl (Y_move (v := .int .i64 k_) rfl rfl) ?_
  obtain ⟨r_1, hc, hF⟩ := bind_inv hF
  refine sc 8 rfl rfl (Yc_func (g := 168) (vs := [.slice B a.Gates.length c, .int .i64 k_]) k_call_168 rfl (mc rfl (mc rfl mn)) (c_laws_heldGateS a.Gates k_ B c a.Gates.length _ rfl (hS1.inn0 [(true, 0)] rfl) hc)) ?_
  rintro _ w_1 ⟨rfl, hd⟩
  have hS2 := hS1.out00 hd
  refine sq 1 rfl rfl (Y_assign (v := .int .i64 r_1) rfl rfl) ?_
  refine rw_nil ?_
  refine cw_seq ?_
  refine cw_seq ?_
  refine cw_region ?_
  refine sq 9 rfl rfl (Y_move (v := .int .i64 r_1) rfl rfl) ?_
  refine sq 10 rfl rfl (Y_lt (k := .i64) (a := r_1) (b := 0) rfl rfl rfl) ?_
  refine rw_nil ?_
  refine cw_cond (b := (decide (r_1 < 0))) rfl (fun hb => ?_) (fun hb => ?_)
  · skip
    have hF1 := ct hF hb
    refine cw_seq ?_
    refine cw_region ?_
    refine sq 4 rfl rfl (Y_assign (v := .int .i64 (-1)) rfl rfl) ?_
    refine rw_nil ?_
    refine cw_ret ?_
    obtain rfl := some_inj hF1
    exact ret1 Try.results72 (v1 := .int .i64 (-1)) (resAt_tmp rfl) ⟨rfl, (ST.subR (R' := []) (hS2.sel [] rfl rfl) (fun _ h => by cases h))⟩
  · skip
    have hF2 := cf' hF hb
    refine cw_skip ?_
    refine cw_seq ?_
    refine cw_region ?_
    refine sq 11 rfl rfl (Y_move (v := .int .i64 r_1) rfl rfl) ?_
    refine sq 4 rfl rfl (Y_assign (v := .int .i64 r_1) rfl rfl) ?_
    refine rw_nil ?_
    refine cw_ret ?_
    obtain rfl := some_inj hF2
    exact ret1 Try.results72 (v1 := .int .i64 r_1) (resAt_tmp rfl) ⟨rfl, (ST.subR (R' := []) (hS2.sel [] rfl rfl) (fun _ h => by cases h))⟩
end Go.VK
