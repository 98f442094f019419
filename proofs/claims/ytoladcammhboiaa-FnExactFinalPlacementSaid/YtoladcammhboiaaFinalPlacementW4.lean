/- Walks: each Go function returns what its Lean function says. By program. -/
import Derived.Test.YtoladcammhboiaaFinalPlacementFa
import Derived.Test.YtoladcammhboiaaFinalPlacementW3
set_option linter.unusedVariables false
set_option maxRecDepth 100000
set_option maxHeartbeats 1000000
namespace Go.VK
open Go.RowKit
open Go.Proofs
attribute [local irreducible] CW RW RA CV Y Yw Yc Ys RetOf
attribute [local irreducible] F_laws_szEdgeS F_laws_szCouplingGraph F_laws_szGateS F_laws_szCircuit F_laws_szIntS F_laws_szRouteStepS F_laws_szRoute F_laws_toEdge F_laws_toEdgeS F_laws_toCouplingGraph F_laws_toGate F_laws_toGateS F_laws_toCircuit F_laws_toIntS F_laws_toRouteStep F_laws_toRouteStepS F_laws_toRoute F_laws_eqEdge F_laws_eqEdgeS F_laws_eqCouplingGraph F_laws_eqGate F_laws_eqGateS F_laws_eqCircuit F_laws_eqIntS F_laws_eqRouteStep F_laws_eqRouteStepS F_laws_eqRoute F_spec_l1In F_spec_l22Valid F_spec_l4Gate F_spec_l4Good F_spec_l23Fits F_spec_l1Own F_spec_l23Swap F_spec_l1Has F_spec_l23Placement F_spec_l22Edge F_spec_l22Two F_spec_l23Qubits F_spec_l23Ready F_spec_l23Near F_spec_l23Play F_spec_FinalPlacement F_impl_within F_impl_areEdges F_impl_IsValidCouplingGraph F_slices_IndexFunc_impl_Gate_impl_Gate F_slices_ContainsFunc_impl_Gate_impl_Gate F_impl_isTwo F_impl_IsValidGate F_impl_IsValidCircuit_1 F_impl_IsValidCircuit F_impl_canRoute F_slices_Clone_int_int F_impl_newRouting F_slices_Index_impl_Edge_impl_Edge F_slices_Contains_impl_Edge_impl_Edge F_impl_CouplingGraph_joins F_impl_routing_swap F_slices_IndexFunc_int_int F_slices_ContainsFunc_int_int F_impl_qubitsOf F_slices_Index_int_int F_slices_Contains_int_int F_impl_meet_1 F_impl_meet F_impl_routing_isReady F_impl_routing_fits F_impl_routing_step F_impl_CouplingGraph_isPlacement F_slices_Index_bool_bool F_slices_Contains_bool_bool F_impl_check F_impl_FinalPlacement F_laws_markEdgeS F_laws_markCouplingGraph F_laws_markGateS F_laws_markCircuit F_laws_markIntS F_laws_markRouteStepS F_laws_markRoute F_laws_heldIntS F_laws_FnExactFinalPlacement
theorem c_laws_FnExactFinalPlacement (aG : TCouplingGraph) (aC : TCircuit) (aR : TRoute) (B : Option Addr) (c n : Nat) (B1 : Option Addr) (c1 n1 : Nat) (B2 : Option Addr) (c2 n2 : Nat) (B3 : Option Addr) (c3 n3 : Nat) (w0 : World) (hn : aG.Edges.length = n) (hn1 : aC.Gates.length = n1) (hn2 : aR.Start.length = n2) (hn3 : aR.Steps.length = n3) (hS : ST w0 [] w0 [] [⟨B, (aG.Edges.flatMap enc_Edge)⟩, ⟨B1, (aC.Gates.flatMap enc_Gate)⟩, ⟨B2, (aR.Start.flatMap encI)⟩, ⟨B3, (aR.Steps.flatMap enc_RouteStep)⟩]) {r_ : Bool} (hF : F_laws_FnExactFinalPlacement aG aC aR = some r_) :
    CV Try.prog 9 #[.agg #[.int .i64 aG.Nodes, .slice B n c], .agg #[.int .i64 aC.Qubits, .slice B1 n1 c1], .agg #[.slice B2 n2 c2, .slice B3 n3 c3]] w0 (fun v w' => v = .bool r_ ∧ ST w0 [] w' [] []) := by
  subst hn
  subst hn1
  subst hn2
  subst hn3
  unfold F_laws_FnExactFinalPlacement at hF
  refine cv_of_cw 142 Try.func9 rfl Try.ntmps9 rfl ?_
  refine cw_seq ?_
  refine cw_region ?_
  refine ss 3 rfl rfl (Ys_box (T := 86) (v := .agg #[.int .i64 aG.Nodes, .slice B aG.Edges.length c]) (cs := [.int .i64 aG.Nodes, .slice B aG.Edges.length c]) (m := 2) hS rfl rfl rfl rfl) ?_
  rintro _ w_ ⟨b, rfl, hS1⟩
  refine ss 4 rfl rfl (Ys_box (T := 89) (v := .agg #[.int .i64 aC.Qubits, .slice B1 aC.Gates.length c1]) (cs := [.int .i64 aC.Qubits, .slice B1 aC.Gates.length c1]) (m := 2) hS1 rfl rfl rfl rfl) ?_
  rintro _ w_1 ⟨b1, rfl, hS2⟩
  have hS2 : ST w0 [] _ [⟨some ⟨b, 0, none⟩, 86, [.int .i64 aG.Nodes, .slice B aG.Edges.length c], 2⟩, ⟨some ⟨b1, 0, none⟩, 89, [.int .i64 aC.Qubits, .slice B1 aC.Gates.length c1], 2⟩] [⟨B, (aG.Edges.flatMap enc_Edge)⟩, ⟨B1, (aC.Gates.flatMap enc_Gate)⟩, ⟨B2, (aR.Start.flatMap encI)⟩, ⟨B3, (aR.Steps.flatMap enc_RouteStep)⟩] := hS2
  refine ss 5 rfl rfl (Ys_box (T := 92) (v := .agg #[.slice B2 aR.Start.length c2, .slice B3 aR.Steps.length c3]) (cs := [.slice B2 aR.Start.length c2, .slice B3 aR.Steps.length c3]) (m := 2) hS2 rfl rfl rfl rfl) ?_
  rintro _ w_2 ⟨b2, rfl, hS3⟩
  have hS3 : ST w0 [] _ [⟨some ⟨b, 0, none⟩, 86, [.int .i64 aG.Nodes, .slice B aG.Edges.length c], 2⟩, ⟨some ⟨b1, 0, none⟩, 89, [.int .i64 aC.Qubits, .slice B1 aC.Gates.length c1], 2⟩, ⟨some ⟨b2, 0, none⟩, 92, [.slice B2 aR.Start.length c2, .slice B3 aR.Steps.length c3], 2⟩] [⟨B, (aG.Edges.flatMap enc_Edge)⟩, ⟨B1, (aC.Gates.flatMap enc_Gate)⟩, ⟨B2, (aR.Start.flatMap encI)⟩, ⟨B3, (aR.Steps.flatMap enc_RouteStep)⟩] := hS3
  refine sq 6 rfl rfl (Y_assign (v := .bool false) rfl rfl) ?_
  refine rw_nil ?_
  refine cw_seq ?_
  refine cw_region ?_
  refine sq 7 rfl rfl (Y_assign (v := .int .i64 1048576) rfl rfl) ?_
  refine rw_nil ?_
  refine cw_seq ?_
  refine cw_region ?_
  refine sq 20 rfl rfl (Y_loadA (B := some ⟨b, 0, none⟩) (i := 0) (cs := [.int .i64 aG.Nodes, .slice B aG.Edges.length c]) (vs := [.int .i64 aG.Nodes, .slice B aG.Edges.length c]) k_ag_86 k_sz_86_2 rfl rfl (hS3.cf (i := 0) rfl) rfl rfl) ?_
  refine sq 21 rfl rfl (Y_move (v := .int .i64 1048576) rfl rfl) ?_
  obtain ⟨r_1, hc, hF⟩ := bind_inv hF
  refine sc 22 rfl rfl (Yc_func (g := 51) (vs := [.agg #[.int .i64 aG.Nodes, .slice B aG.Edges.length c], .int .i64 1048576]) k_call_51 rfl (mc rfl (mc rfl mn)) (c_laws_szCouplingGraph aG 1048576 B c aG.Edges.length _ rfl (hS3.inn0 [(true, 0)] rfl) hc)) ?_
  rintro _ w_3 ⟨rfl, hd⟩
  have hS4 := hS3.out00 hd
  have hS4 : ST w0 [] _ [⟨some ⟨b, 0, none⟩, 86, [.int .i64 aG.Nodes, .slice B aG.Edges.length c], 2⟩, ⟨some ⟨b1, 0, none⟩, 89, [.int .i64 aC.Qubits, .slice B1 aC.Gates.length c1], 2⟩, ⟨some ⟨b2, 0, none⟩, 92, [.slice B2 aR.Start.length c2, .slice B3 aR.Steps.length c3], 2⟩] [⟨B, (aG.Edges.flatMap enc_Edge)⟩, ⟨B1, (aC.Gates.flatMap enc_Gate)⟩, ⟨B2, (aR.Start.flatMap encI)⟩, ⟨B3, (aR.Steps.flatMap enc_RouteStep)⟩] := hS4
  refine sq 7 rfl rfl (Y_assign (v := .int .i64 r_1) rfl rfl) ?_
  refine rw_nil ?_
  refine cw_seq ?_
  refine cw_seq ?_
  refine cw_region ?_
  refine sq 23 rfl rfl (Y_move (v := .int .i64 r_1) rfl rfl) ?_
  refine sq 24 rfl rfl (Y_lt (k := .i64) (a := r_1) (b := 0) rfl rfl rfl) ?_
  refine rw_nil ?_
  refine cw_cond (b := (decide (r_1 < 0))) rfl (fun hb => ?_) (fun hb => ?_)
  · skip
    have hF1 := ct hF hb
    refine cw_seq ?_
    refine cw_region ?_
    refine sq 6 rfl rfl (Y_assign (v := .bool true) rfl rfl) ?_
    refine rw_nil ?_
    refine cw_ret ?_
    obtain rfl := some_inj hF1
    exact ret1 Try.results9 (v1 := .bool true) (resAt_tmp rfl) ⟨rfl, (ST.subR (R' := []) (hS4.sel [] rfl rfl) (fun _ h => by cases h))⟩
  · skip
    have hF2 := cf' hF hb
    refine cw_skip ?_
    refine cw_seq ?_
    refine cw_region ?_
    refine sq 25 rfl rfl (Y_loadA (B := some ⟨b1, 0, none⟩) (i := 0) (cs := [.int .i64 aC.Qubits, .slice B1 aC.Gates.length c1]) (vs := [.int .i64 aC.Qubits, .slice B1 aC.Gates.length c1]) k_ag_89 k_sz_89_2 rfl rfl (hS4.cf (i := 1) rfl) rfl rfl) ?_
    refine sq 26 rfl rfl (Y_move (v := .int .i64 r_1) rfl rfl) ?_
    obtain ⟨r_2, hc1, hF2⟩ := bind_inv hF2
    refine sc 27 rfl rfl (Yc_func (g := 52) (vs := [.agg #[.int .i64 aC.Qubits, .slice B1 aC.Gates.length c1], .int .i64 r_1]) k_call_52 rfl (mc rfl (mc rfl mn)) (c_laws_szCircuit aC r_1 B1 c1 aC.Gates.length _ rfl (hS4.inn0 [(true, 1)] rfl) hc1)) ?_
    rintro _ w_4 ⟨rfl, hd1⟩
    have hS5 := hS4.out00 hd1
    have hS5 : ST w0 [] _ [⟨some ⟨b, 0, none⟩, 86, [.int .i64 aG.Nodes, .slice B aG.Edges.length c], 2⟩, ⟨some ⟨b1, 0, none⟩, 89, [.int .i64 aC.Qubits, .slice B1 aC.Gates.length c1], 2⟩, ⟨some ⟨b2, 0, none⟩, 92, [.slice B2 aR.Start.length c2, .slice B3 aR.Steps.length c3], 2⟩] [⟨B, (aG.Edges.flatMap enc_Edge)⟩, ⟨B1, (aC.Gates.flatMap enc_Gate)⟩, ⟨B2, (aR.Start.flatMap encI)⟩, ⟨B3, (aR.Steps.flatMap enc_RouteStep)⟩] := hS5
    refine sq 7 rfl rfl (Y_assign (v := .int .i64 r_2) rfl rfl) ?_
    refine rw_nil ?_
    refine cw_seq ?_
    refine cw_seq ?_
    refine cw_region ?_
    refine sq 28 rfl rfl (Y_move (v := .int .i64 r_2) rfl rfl) ?_
    refine sq 29 rfl rfl (Y_lt (k := .i64) (a := r_2) (b := 0) rfl rfl rfl) ?_
    refine rw_nil ?_
    refine cw_cond (b := (decide (r_2 < 0))) rfl (fun hb1 => ?_) (fun hb1 => ?_)
    · skip
      have hF3 := ct hF2 hb1
      refine cw_seq ?_
      refine cw_region ?_
      refine sq 6 rfl rfl (Y_assign (v := .bool true) rfl rfl) ?_
      refine rw_nil ?_
      refine cw_ret ?_
      obtain rfl := some_inj hF3
      exact ret1 Try.results9 (v1 := .bool true) (resAt_tmp rfl) ⟨rfl, (ST.subR (R' := []) (hS5.sel [] rfl rfl) (fun _ h => by cases h))⟩
    · skip
      have hF4 := cf' hF2 hb1
      refine cw_skip ?_
      refine cw_seq ?_
      refine cw_region ?_
      refine sq 30 rfl rfl (Y_loadA (B := some ⟨b2, 0, none⟩) (i := 0) (cs := [.slice B2 aR.Start.length c2, .slice B3 aR.Steps.length c3]) (vs := [.slice B2 aR.Start.length c2, .slice B3 aR.Steps.length c3]) k_ag_92 k_sz_92_2 rfl rfl (hS5.cf (i := 2) rfl) rfl rfl) ?_
      refine sq 31 rfl rfl (Y_move (v := .int .i64 r_2) rfl rfl) ?_
      obtain ⟨r_3, hc2, hF4⟩ := bind_inv hF4
      refine sc 32 rfl rfl (Yc_func (g := 53) (vs := [.agg #[.slice B2 aR.Start.length c2, .slice B3 aR.Steps.length c3], .int .i64 r_2]) k_call_53 rfl (mc rfl (mc rfl mn)) (c_laws_szRoute aR r_2 B2 c2 aR.Start.length B3 c3 aR.Steps.length _ rfl rfl (hS5.inn0 [(true, 2), (true, 3)] rfl) hc2)) ?_
      rintro _ w_5 ⟨rfl, hd2⟩
      have hS6 := hS5.out00 hd2
      have hS6 : ST w0 [] _ [⟨some ⟨b, 0, none⟩, 86, [.int .i64 aG.Nodes, .slice B aG.Edges.length c], 2⟩, ⟨some ⟨b1, 0, none⟩, 89, [.int .i64 aC.Qubits, .slice B1 aC.Gates.length c1], 2⟩, ⟨some ⟨b2, 0, none⟩, 92, [.slice B2 aR.Start.length c2, .slice B3 aR.Steps.length c3], 2⟩] [⟨B, (aG.Edges.flatMap enc_Edge)⟩, ⟨B1, (aC.Gates.flatMap enc_Gate)⟩, ⟨B2, (aR.Start.flatMap encI)⟩, ⟨B3, (aR.Steps.flatMap enc_RouteStep)⟩] := hS6
      refine sq 7 rfl rfl (Y_assign (v := .int .i64 r_3) rfl rfl) ?_
      refine rw_nil ?_
      refine cw_seq ?_
      refine cw_seq ?_
      refine cw_region ?_
      refine sq 33 rfl rfl (Y_move (v := .int .i64 r_3) rfl rfl) ?_
      refine sq 34 rfl rfl (Y_lt (k := .i64) (a := r_3) (b := 0) rfl rfl rfl) ?_
      refine rw_nil ?_
      refine cw_cond (b := (decide (r_3 < 0))) rfl (fun hb2 => ?_) (fun hb2 => ?_)
      · skip
        have hF5 := ct hF4 hb2
        refine cw_seq ?_
        refine cw_region ?_
        refine sq 6 rfl rfl (Y_assign (v := .bool true) rfl rfl) ?_
        refine rw_nil ?_
        refine cw_ret ?_
        obtain rfl := some_inj hF5
        exact ret1 Try.results9 (v1 := .bool true) (resAt_tmp rfl) ⟨rfl, (ST.subR (R' := []) (hS6.sel [] rfl rfl) (fun _ h => by cases h))⟩
      · skip
        have hF6 := cf' hF4 hb2
        refine cw_skip ?_
        refine cw_seq ?_
        obtain ⟨r_4, hc3, hF6⟩ := bind_inv hF6
        obtain ⟨r_5, hc4, hF6⟩ := bind_inv hF6
        obtain ⟨r_6, hc5, hF6⟩ := bind_inv hF6
        obtain ⟨⟨r_7, r_8⟩, hc6, hF6⟩ := bind_inv hF6
        refine ra_start (ST.sel hS6 [0, 1, 2] rfl rfl).fn (by kernel_rfl) ?_
        have hS11 := hS6.drew
        refine ra_q 0 36 (v := .agg #[.int .i64 aG.Nodes, .slice B aG.Edges.length c]) rfl rfl rfl (by kernel_rfl) (by kernel_rfl) (by kernel_rfl) (ST.sel hS11 [0, 1, 2] rfl rfl) (fun w' hw' => (Y_loadA (B := some ⟨b, 0, none⟩) (i := 0) (cs := [.int .i64 aG.Nodes, .slice B aG.Edges.length c]) (vs := [.int .i64 aG.Nodes, .slice B aG.Edges.length c]) k_ag_86 k_sz_86_2 rfl rfl (ST.cf hw' (i := 0) rfl) rfl rfl)) ?_
        refine ra_q 2 38 (v := .agg #[.int .i64 aC.Qubits, .slice B1 aC.Gates.length c1]) rfl rfl rfl (by kernel_rfl) (by kernel_rfl) (by kernel_rfl) (ST.sel hS11 [0, 1, 2] rfl rfl) (fun w' hw' => (Y_loadA (B := some ⟨b1, 0, none⟩) (i := 0) (cs := [.int .i64 aC.Qubits, .slice B1 aC.Gates.length c1]) (vs := [.int .i64 aC.Qubits, .slice B1 aC.Gates.length c1]) k_ag_89 k_sz_89_2 rfl rfl (ST.cf hw' (i := 1) rfl) rfl rfl)) ?_
        refine ra_q 4 40 (v := .agg #[.slice B2 aR.Start.length c2, .slice B3 aR.Steps.length c3]) rfl rfl rfl (by kernel_rfl) (by kernel_rfl) (by kernel_rfl) (ST.sel hS11 [0, 1, 2] rfl rfl) (fun w' hw' => (Y_loadA (B := some ⟨b2, 0, none⟩) (i := 0) (cs := [.slice B2 aR.Start.length c2, .slice B3 aR.Steps.length c3]) (vs := [.slice B2 aR.Start.length c2, .slice B3 aR.Steps.length c3]) k_ag_92 k_sz_92_2 rfl rfl (ST.cf hw' (i := 2) rfl) rfl rfl)) ?_
        refine ra_all (rs := [1]) (by kernel_rfl) rfl ?_
        refine ra_c 37 (i := 1) rfl rfl rfl (Yc_func (g := 55) (vs := [.agg #[.int .i64 aG.Nodes, .slice B aG.Edges.length c]]) k_call_55 rfl (mc rfl mn) (c_laws_toCouplingGraph aG B c aG.Edges.length _ rfl (hS11.inn0 [(true, 0)] rfl) hc3)) ?_ ?_
        · rintro _ w_6 ⟨B4, c4, rfl, hd3⟩
          have hS12 := hS11.out0 hd3
          have hS12 : ST w0 [] _ [⟨some ⟨b, 0, none⟩, 86, [.int .i64 aG.Nodes, .slice B aG.Edges.length c], 2⟩, ⟨some ⟨b1, 0, none⟩, 89, [.int .i64 aC.Qubits, .slice B1 aC.Gates.length c1], 2⟩, ⟨some ⟨b2, 0, none⟩, 92, [.slice B2 aR.Start.length c2, .slice B3 aR.Steps.length c3], 2⟩, ⟨B4, 277, (r_4.Edges.flatMap enc_Edge), c4 * 2⟩] [⟨B, (aG.Edges.flatMap enc_Edge)⟩, ⟨B1, (aC.Gates.flatMap enc_Gate)⟩, ⟨B2, (aR.Start.flatMap encI)⟩, ⟨B3, (aR.Steps.flatMap enc_RouteStep)⟩] := hS12
          refine ⟨(ST.sel hS12 [0, 1, 2] rfl rfl), ?_⟩
          refine ra_all (rs := [3]) (by kernel_rfl) rfl ?_
          refine ra_c 39 (i := 3) rfl rfl rfl (Yc_func (g := 56) (vs := [.agg #[.int .i64 aC.Qubits, .slice B1 aC.Gates.length c1]]) k_call_56 rfl (mc rfl mn) (c_laws_toCircuit aC B1 c1 aC.Gates.length _ rfl (hS12.inn0 [(true, 1)] rfl) hc4)) ?_ ?_
          · rintro _ w_7 ⟨B5, c5, rfl, hd4⟩
            have hS13 := hS12.out0 hd4
            have hS13 : ST w0 [] _ [⟨some ⟨b, 0, none⟩, 86, [.int .i64 aG.Nodes, .slice B aG.Edges.length c], 2⟩, ⟨some ⟨b1, 0, none⟩, 89, [.int .i64 aC.Qubits, .slice B1 aC.Gates.length c1], 2⟩, ⟨some ⟨b2, 0, none⟩, 92, [.slice B2 aR.Start.length c2, .slice B3 aR.Steps.length c3], 2⟩, ⟨B4, 277, (r_4.Edges.flatMap enc_Edge), c4 * 2⟩, ⟨B5, 213, (r_5.Gates.flatMap enc_Gate), c5 * 3⟩] [⟨B, (aG.Edges.flatMap enc_Edge)⟩, ⟨B1, (aC.Gates.flatMap enc_Gate)⟩, ⟨B2, (aR.Start.flatMap encI)⟩, ⟨B3, (aR.Steps.flatMap enc_RouteStep)⟩] := hS13
            refine ⟨(ST.sel hS13 [0, 1, 2] rfl rfl), ?_⟩
            refine ra_all (rs := [5]) (by kernel_rfl) rfl ?_
            refine ra_c 41 (i := 5) rfl rfl rfl (Yc_func (g := 57) (vs := [.agg #[.slice B2 aR.Start.length c2, .slice B3 aR.Steps.length c3]]) k_call_57 rfl (mc rfl mn) (c_laws_toRoute aR B2 c2 aR.Start.length B3 c3 aR.Steps.length _ rfl rfl (hS13.inn0 [(true, 2), (true, 3)] rfl) hc5)) ?_ ?_
            · rintro _ w_8 ⟨B6, c6, B7, c7, rfl, hd5⟩
              have hS14 := hS13.out0 hd5
              have hS14 : ST w0 [] _ [⟨some ⟨b, 0, none⟩, 86, [.int .i64 aG.Nodes, .slice B aG.Edges.length c], 2⟩, ⟨some ⟨b1, 0, none⟩, 89, [.int .i64 aC.Qubits, .slice B1 aC.Gates.length c1], 2⟩, ⟨some ⟨b2, 0, none⟩, 92, [.slice B2 aR.Start.length c2, .slice B3 aR.Steps.length c3], 2⟩, ⟨B4, 277, (r_4.Edges.flatMap enc_Edge), c4 * 2⟩, ⟨B5, 213, (r_5.Gates.flatMap enc_Gate), c5 * 3⟩, ⟨B6, 3, (r_6.Start.flatMap encI), c6 * 1⟩, ⟨B7, 211, (r_6.Steps.flatMap enc_RouteStep), c7 * 3⟩] [⟨B, (aG.Edges.flatMap enc_Edge)⟩, ⟨B1, (aC.Gates.flatMap enc_Gate)⟩, ⟨B2, (aR.Start.flatMap encI)⟩, ⟨B3, (aR.Steps.flatMap enc_RouteStep)⟩] := hS14
              refine ⟨(ST.sel hS14 [0, 1, 2] rfl rfl), ?_⟩
              refine ra_all (rs := [6]) (by kernel_rfl) rfl ?_
              refine ra_c 42 (i := 6) rfl rfl rfl (Yc_func (g := 62) (vs := [.agg #[.int .i64 r_4.Nodes, .slice B4 r_4.Edges.length c4], .agg #[.int .i64 r_5.Qubits, .slice B5 r_5.Gates.length c5], .agg #[.slice B6 r_6.Start.length c6, .slice B7 r_6.Steps.length c7]]) k_call_62 rfl (mc rfl (mc rfl (mc rfl mn))) (c_spec_FinalPlacement r_4 r_5 r_6 B4 c4 r_4.Edges.length B5 c5 r_5.Gates.length B6 c6 r_6.Start.length B7 c7 r_6.Steps.length _ rfl rfl rfl (hS14.lencap (i := 5) rfl (fm_lenn (l := r_6.Start) encI_len rfl) rfl rfl) rfl (hS14.inn0 [(false, 3), (false, 4), (false, 5), (false, 6)] rfl) hc6)) ?_ ?_
              · rintro _ w_9 ⟨B8, c8, rfl, hd6⟩
                have hS15 := hS14.out0 hd6
                have hS15 : ST w0 [] _ [⟨some ⟨b, 0, none⟩, 86, [.int .i64 aG.Nodes, .slice B aG.Edges.length c], 2⟩, ⟨some ⟨b1, 0, none⟩, 89, [.int .i64 aC.Qubits, .slice B1 aC.Gates.length c1], 2⟩, ⟨some ⟨b2, 0, none⟩, 92, [.slice B2 aR.Start.length c2, .slice B3 aR.Steps.length c3], 2⟩, ⟨B4, 277, (r_4.Edges.flatMap enc_Edge), c4 * 2⟩, ⟨B5, 213, (r_5.Gates.flatMap enc_Gate), c5 * 3⟩, ⟨B6, 3, (r_6.Start.flatMap encI), c6 * 1⟩, ⟨B7, 211, (r_6.Steps.flatMap enc_RouteStep), c7 * 3⟩, ⟨B8, 3, (r_7.flatMap encI), c8 * 1⟩] [⟨B, (aG.Edges.flatMap enc_Edge)⟩, ⟨B1, (aC.Gates.flatMap enc_Gate)⟩, ⟨B2, (aR.Start.flatMap encI)⟩, ⟨B3, (aR.Steps.flatMap enc_RouteStep)⟩] := hS15
                refine ⟨(ST.sel hS15 [0, 1, 2] rfl rfl), ?_⟩
                refine ra_q 7 35 (v := .tuple #[.slice B8 r_7.length c8, .bool r_8]) rfl rfl rfl (by kernel_rfl) (by kernel_rfl) (by kernel_rfl) (ST.sel hS15 [0, 1, 2] rfl rfl) (fun w' hw' => (Y_move (v := .tuple #[.slice B8 r_7.length c8, .bool r_8]) rfl rfl)) ?_
                refine ra_q 8 43 (v := .slice B8 r_7.length c8) rfl rfl rfl (by kernel_rfl) (by kernel_rfl) (by kernel_rfl) (ST.sel hS15 [0, 1, 2] rfl rfl) (fun w' hw' => (Y_extract (v := .slice B8 r_7.length c8) rfl rfl rfl)) ?_
                refine ra_q 9 44 (v := .bool r_8) rfl rfl rfl (by kernel_rfl) (by kernel_rfl) (by kernel_rfl) (ST.sel hS15 [0, 1, 2] rfl rfl) (fun w' hw' => (Y_extract (v := .bool r_8) rfl rfl rfl)) ?_
                refine ra_q 10 8 (v := .slice B8 r_7.length c8) rfl rfl rfl (by kernel_rfl) (by kernel_rfl) (by kernel_rfl) (ST.sel hS15 [0, 1, 2] rfl rfl) (fun w' hw' => (Y_assign (v := .slice B8 r_7.length c8) rfl rfl)) ?_
                refine ra_q 11 9 (v := .bool r_8) rfl rfl rfl (by kernel_rfl) (by kernel_rfl) (by kernel_rfl) (ST.sel hS15 [0, 1, 2] rfl rfl) (fun w' hw' => (Y_assign (v := .bool r_8) rfl rfl)) ?_
                refine ra_done (by kernel_rfl) ?_
                refine cw_seq ?_
                refine cw_region ?_
                refine sq 45 rfl rfl (Y_loadA (B := some ⟨b, 0, none⟩) (i := 0) (cs := [.int .i64 aG.Nodes, .slice B aG.Edges.length c]) (vs := [.int .i64 aG.Nodes, .slice B aG.Edges.length c]) k_ag_86 k_sz_86_2 rfl rfl (hS15.cf (i := 0) rfl) rfl rfl) ?_
                obtain ⟨r_9, hc7, hF6⟩ := bind_inv hF6
                refine sc 46 rfl rfl (Yc_func (g := 55) (vs := [.agg #[.int .i64 aG.Nodes, .slice B aG.Edges.length c]]) k_call_55 rfl (mc rfl mn) (c_laws_toCouplingGraph aG B c aG.Edges.length _ rfl (hS15.inn0 [(true, 0)] rfl) hc7)) ?_
                rintro _ w_10 ⟨B9, c9, rfl, hd7⟩
                have hS16 := hS15.out0 hd7
                have hS16 : ST w0 [] _ [⟨some ⟨b, 0, none⟩, 86, [.int .i64 aG.Nodes, .slice B aG.Edges.length c], 2⟩, ⟨some ⟨b1, 0, none⟩, 89, [.int .i64 aC.Qubits, .slice B1 aC.Gates.length c1], 2⟩, ⟨some ⟨b2, 0, none⟩, 92, [.slice B2 aR.Start.length c2, .slice B3 aR.Steps.length c3], 2⟩, ⟨B4, 277, (r_4.Edges.flatMap enc_Edge), c4 * 2⟩, ⟨B5, 213, (r_5.Gates.flatMap enc_Gate), c5 * 3⟩, ⟨B6, 3, (r_6.Start.flatMap encI), c6 * 1⟩, ⟨B7, 211, (r_6.Steps.flatMap enc_RouteStep), c7 * 3⟩, ⟨B8, 3, (r_7.flatMap encI), c8 * 1⟩, ⟨B9, 277, (r_9.Edges.flatMap enc_Edge), c9 * 2⟩] [⟨B, (aG.Edges.flatMap enc_Edge)⟩, ⟨B1, (aC.Gates.flatMap enc_Gate)⟩, ⟨B2, (aR.Start.flatMap encI)⟩, ⟨B3, (aR.Steps.flatMap enc_RouteStep)⟩] := hS16
                refine ss 10 rfl rfl (Ys_alloc (T := 100) (cs := [.int .i64 0, .slice none 0 0]) (m := 2) hS16 k_zero_100 rfl rfl rfl) ?_
                rintro _ w_11 ⟨b3, rfl, hS17⟩
                have hS17 : ST w0 [] _ [⟨some ⟨b, 0, none⟩, 86, [.int .i64 aG.Nodes, .slice B aG.Edges.length c], 2⟩, ⟨some ⟨b1, 0, none⟩, 89, [.int .i64 aC.Qubits, .slice B1 aC.Gates.length c1], 2⟩, ⟨some ⟨b2, 0, none⟩, 92, [.slice B2 aR.Start.length c2, .slice B3 aR.Steps.length c3], 2⟩, ⟨B4, 277, (r_4.Edges.flatMap enc_Edge), c4 * 2⟩, ⟨B5, 213, (r_5.Gates.flatMap enc_Gate), c5 * 3⟩, ⟨B6, 3, (r_6.Start.flatMap encI), c6 * 1⟩, ⟨B7, 211, (r_6.Steps.flatMap enc_RouteStep), c7 * 3⟩, ⟨B8, 3, (r_7.flatMap encI), c8 * 1⟩, ⟨B9, 277, (r_9.Edges.flatMap enc_Edge), c9 * 2⟩, ⟨some ⟨b3, 0, none⟩, 100, [.int .i64 0, .slice none 0 0], 2⟩] [⟨B, (aG.Edges.flatMap enc_Edge)⟩, ⟨B1, (aC.Gates.flatMap enc_Gate)⟩, ⟨B2, (aR.Start.flatMap encI)⟩, ⟨B3, (aR.Steps.flatMap enc_RouteStep)⟩] := hS17
                refine ss0 rfl rfl (Ys_store (i := 9) (s := 2) (B := some ⟨b3, 0, none⟩) (T' := 100) (v := .agg #[.int .i64 r_9.Nodes, .slice B9 r_9.Edges.length c9]) (vs := [.int .i64 r_9.Nodes, .slice B9 r_9.Edges.length c9]) (k := 0) (cs' := [.int .i64 r_9.Nodes, .slice B9 r_9.Edges.length c9]) hS17 k_sz_100_2 rfl rfl rfl rfl rfl rfl rfl (Nat.le_of_ble_eq_true rfl) rfl rfl) ?_
                rintro _ w_12 ⟨rfl, hS18⟩
                have hS18 : ST w0 [] _ [⟨some ⟨b, 0, none⟩, 86, [.int .i64 aG.Nodes, .slice B aG.Edges.length c], 2⟩, ⟨some ⟨b1, 0, none⟩, 89, [.int .i64 aC.Qubits, .slice B1 aC.Gates.length c1], 2⟩, ⟨some ⟨b2, 0, none⟩, 92, [.slice B2 aR.Start.length c2, .slice B3 aR.Steps.length c3], 2⟩, ⟨B4, 277, (r_4.Edges.flatMap enc_Edge), c4 * 2⟩, ⟨B5, 213, (r_5.Gates.flatMap enc_Gate), c5 * 3⟩, ⟨B6, 3, (r_6.Start.flatMap encI), c6 * 1⟩, ⟨B7, 211, (r_6.Steps.flatMap enc_RouteStep), c7 * 3⟩, ⟨B8, 3, (r_7.flatMap encI), c8 * 1⟩, ⟨B9, 277, (r_9.Edges.flatMap enc_Edge), c9 * 2⟩, ⟨some ⟨b3, 0, none⟩, 100, [.int .i64 r_9.Nodes, .slice B9 r_9.Edges.length c9], 2⟩] [⟨B, (aG.Edges.flatMap enc_Edge)⟩, ⟨B1, (aC.Gates.flatMap enc_Gate)⟩, ⟨B2, (aR.Start.flatMap encI)⟩, ⟨B3, (aR.Steps.flatMap enc_RouteStep)⟩] := hS18
                refine rw_nil ?_
                refine cw_seq ?_
                refine cw_region ?_
                refine sq 47 rfl rfl (Y_loadA (B := some ⟨b1, 0, none⟩) (i := 0) (cs := [.int .i64 aC.Qubits, .slice B1 aC.Gates.length c1]) (vs := [.int .i64 aC.Qubits, .slice B1 aC.Gates.length c1]) k_ag_89 k_sz_89_2 rfl rfl (hS18.cf (i := 1) rfl) rfl rfl) ?_
                obtain ⟨r_10, hc8, hF6⟩ := bind_inv hF6
                refine sc 48 rfl rfl (Yc_func (g := 56) (vs := [.agg #[.int .i64 aC.Qubits, .slice B1 aC.Gates.length c1]]) k_call_56 rfl (mc rfl mn) (c_laws_toCircuit aC B1 c1 aC.Gates.length _ rfl (hS18.inn0 [(true, 1)] rfl) hc8)) ?_
                rintro _ w_13 ⟨B10, c10, rfl, hd8⟩
                have hS19 := hS18.out0 hd8
                have hS19 : ST w0 [] _ [⟨some ⟨b, 0, none⟩, 86, [.int .i64 aG.Nodes, .slice B aG.Edges.length c], 2⟩, ⟨some ⟨b1, 0, none⟩, 89, [.int .i64 aC.Qubits, .slice B1 aC.Gates.length c1], 2⟩, ⟨some ⟨b2, 0, none⟩, 92, [.slice B2 aR.Start.length c2, .slice B3 aR.Steps.length c3], 2⟩, ⟨B4, 277, (r_4.Edges.flatMap enc_Edge), c4 * 2⟩, ⟨B5, 213, (r_5.Gates.flatMap enc_Gate), c5 * 3⟩, ⟨B6, 3, (r_6.Start.flatMap encI), c6 * 1⟩, ⟨B7, 211, (r_6.Steps.flatMap enc_RouteStep), c7 * 3⟩, ⟨B8, 3, (r_7.flatMap encI), c8 * 1⟩, ⟨B9, 277, (r_9.Edges.flatMap enc_Edge), c9 * 2⟩, ⟨some ⟨b3, 0, none⟩, 100, [.int .i64 r_9.Nodes, .slice B9 r_9.Edges.length c9], 2⟩, ⟨B10, 213, (r_10.Gates.flatMap enc_Gate), c10 * 3⟩] [⟨B, (aG.Edges.flatMap enc_Edge)⟩, ⟨B1, (aC.Gates.flatMap enc_Gate)⟩, ⟨B2, (aR.Start.flatMap encI)⟩, ⟨B3, (aR.Steps.flatMap enc_RouteStep)⟩] := hS19
                refine ss 11 rfl rfl (Ys_alloc (T := 104) (cs := [.int .i64 0, .slice none 0 0]) (m := 2) hS19 k_zero_104 rfl rfl rfl) ?_
                rintro _ w_14 ⟨b4, rfl, hS20⟩
                have hS20 : ST w0 [] _ [⟨some ⟨b, 0, none⟩, 86, [.int .i64 aG.Nodes, .slice B aG.Edges.length c], 2⟩, ⟨some ⟨b1, 0, none⟩, 89, [.int .i64 aC.Qubits, .slice B1 aC.Gates.length c1], 2⟩, ⟨some ⟨b2, 0, none⟩, 92, [.slice B2 aR.Start.length c2, .slice B3 aR.Steps.length c3], 2⟩, ⟨B4, 277, (r_4.Edges.flatMap enc_Edge), c4 * 2⟩, ⟨B5, 213, (r_5.Gates.flatMap enc_Gate), c5 * 3⟩, ⟨B6, 3, (r_6.Start.flatMap encI), c6 * 1⟩, ⟨B7, 211, (r_6.Steps.flatMap enc_RouteStep), c7 * 3⟩, ⟨B8, 3, (r_7.flatMap encI), c8 * 1⟩, ⟨B9, 277, (r_9.Edges.flatMap enc_Edge), c9 * 2⟩, ⟨some ⟨b3, 0, none⟩, 100, [.int .i64 r_9.Nodes, .slice B9 r_9.Edges.length c9], 2⟩, ⟨B10, 213, (r_10.Gates.flatMap enc_Gate), c10 * 3⟩, ⟨some ⟨b4, 0, none⟩, 104, [.int .i64 0, .slice none 0 0], 2⟩] [⟨B, (aG.Edges.flatMap enc_Edge)⟩, ⟨B1, (aC.Gates.flatMap enc_Gate)⟩, ⟨B2, (aR.Start.flatMap encI)⟩, ⟨B3, (aR.Steps.flatMap enc_RouteStep)⟩] := hS20
                refine ss0 rfl rfl (Ys_store (i := 11) (s := 2) (B := some ⟨b4, 0, none⟩) (T' := 104) (v := .agg #[.int .i64 r_10.Qubits, .slice B10 r_10.Gates.length c10]) (vs := [.int .i64 r_10.Qubits, .slice B10 r_10.Gates.length c10]) (k := 0) (cs' := [.int .i64 r_10.Qubits, .slice B10 r_10.Gates.length c10]) hS20 k_sz_104_2 rfl rfl rfl rfl rfl rfl rfl (Nat.le_of_ble_eq_true rfl) rfl rfl) ?_
                rintro _ w_15 ⟨rfl, hS21⟩
                have hS21 : ST w0 [] _ [⟨some ⟨b, 0, none⟩, 86, [.int .i64 aG.Nodes, .slice B aG.Edges.length c], 2⟩, ⟨some ⟨b1, 0, none⟩, 89, [.int .i64 aC.Qubits, .slice B1 aC.Gates.length c1], 2⟩, ⟨some ⟨b2, 0, none⟩, 92, [.slice B2 aR.Start.length c2, .slice B3 aR.Steps.length c3], 2⟩, ⟨B4, 277, (r_4.Edges.flatMap enc_Edge), c4 * 2⟩, ⟨B5, 213, (r_5.Gates.flatMap enc_Gate), c5 * 3⟩, ⟨B6, 3, (r_6.Start.flatMap encI), c6 * 1⟩, ⟨B7, 211, (r_6.Steps.flatMap enc_RouteStep), c7 * 3⟩, ⟨B8, 3, (r_7.flatMap encI), c8 * 1⟩, ⟨B9, 277, (r_9.Edges.flatMap enc_Edge), c9 * 2⟩, ⟨some ⟨b3, 0, none⟩, 100, [.int .i64 r_9.Nodes, .slice B9 r_9.Edges.length c9], 2⟩, ⟨B10, 213, (r_10.Gates.flatMap enc_Gate), c10 * 3⟩, ⟨some ⟨b4, 0, none⟩, 104, [.int .i64 r_10.Qubits, .slice B10 r_10.Gates.length c10], 2⟩] [⟨B, (aG.Edges.flatMap enc_Edge)⟩, ⟨B1, (aC.Gates.flatMap enc_Gate)⟩, ⟨B2, (aR.Start.flatMap encI)⟩, ⟨B3, (aR.Steps.flatMap enc_RouteStep)⟩] := hS21
                refine rw_nil ?_
                refine cw_seq ?_
                refine cw_region ?_
                refine sq 49 rfl rfl (Y_loadA (B := some ⟨b2, 0, none⟩) (i := 0) (cs := [.slice B2 aR.Start.length c2, .slice B3 aR.Steps.length c3]) (vs := [.slice B2 aR.Start.length c2, .slice B3 aR.Steps.length c3]) k_ag_92 k_sz_92_2 rfl rfl (hS21.cf (i := 2) rfl) rfl rfl) ?_
                obtain ⟨r_11, hc9, hF6⟩ := bind_inv hF6
                refine sc 50 rfl rfl (Yc_func (g := 57) (vs := [.agg #[.slice B2 aR.Start.length c2, .slice B3 aR.Steps.length c3]]) k_call_57 rfl (mc rfl mn) (c_laws_toRoute aR B2 c2 aR.Start.length B3 c3 aR.Steps.length _ rfl rfl (hS21.inn0 [(true, 2), (true, 3)] rfl) hc9)) ?_
                rintro _ w_16 ⟨B11, c11, B12, c12, rfl, hd9⟩
                have hS22 := hS21.out0 hd9
                have hS22 : ST w0 [] _ [⟨some ⟨b, 0, none⟩, 86, [.int .i64 aG.Nodes, .slice B aG.Edges.length c], 2⟩, ⟨some ⟨b1, 0, none⟩, 89, [.int .i64 aC.Qubits, .slice B1 aC.Gates.length c1], 2⟩, ⟨some ⟨b2, 0, none⟩, 92, [.slice B2 aR.Start.length c2, .slice B3 aR.Steps.length c3], 2⟩, ⟨B4, 277, (r_4.Edges.flatMap enc_Edge), c4 * 2⟩, ⟨B5, 213, (r_5.Gates.flatMap enc_Gate), c5 * 3⟩, ⟨B6, 3, (r_6.Start.flatMap encI), c6 * 1⟩, ⟨B7, 211, (r_6.Steps.flatMap enc_RouteStep), c7 * 3⟩, ⟨B8, 3, (r_7.flatMap encI), c8 * 1⟩, ⟨B9, 277, (r_9.Edges.flatMap enc_Edge), c9 * 2⟩, ⟨some ⟨b3, 0, none⟩, 100, [.int .i64 r_9.Nodes, .slice B9 r_9.Edges.length c9], 2⟩, ⟨B10, 213, (r_10.Gates.flatMap enc_Gate), c10 * 3⟩, ⟨some ⟨b4, 0, none⟩, 104, [.int .i64 r_10.Qubits, .slice B10 r_10.Gates.length c10], 2⟩, ⟨B11, 3, (r_11.Start.flatMap encI), c11 * 1⟩, ⟨B12, 211, (r_11.Steps.flatMap enc_RouteStep), c12 * 3⟩] [⟨B, (aG.Edges.flatMap enc_Edge)⟩, ⟨B1, (aC.Gates.flatMap enc_Gate)⟩, ⟨B2, (aR.Start.flatMap encI)⟩, ⟨B3, (aR.Steps.flatMap enc_RouteStep)⟩] := hS22
                refine ss 12 rfl rfl (Ys_alloc (T := 108) (cs := [.slice none 0 0, .slice none 0 0]) (m := 2) hS22 k_zero_108 rfl rfl rfl) ?_
                rintro _ w_17 ⟨b5, rfl, hS23⟩
                have hS23 : ST w0 [] _ [⟨some ⟨b, 0, none⟩, 86, [.int .i64 aG.Nodes, .slice B aG.Edges.length c], 2⟩, ⟨some ⟨b1, 0, none⟩, 89, [.int .i64 aC.Qubits, .slice B1 aC.Gates.length c1], 2⟩, ⟨some ⟨b2, 0, none⟩, 92, [.slice B2 aR.Start.length c2, .slice B3 aR.Steps.length c3], 2⟩, ⟨B4, 277, (r_4.Edges.flatMap enc_Edge), c4 * 2⟩, ⟨B5, 213, (r_5.Gates.flatMap enc_Gate), c5 * 3⟩, ⟨B6, 3, (r_6.Start.flatMap encI), c6 * 1⟩, ⟨B7, 211, (r_6.Steps.flatMap enc_RouteStep), c7 * 3⟩, ⟨B8, 3, (r_7.flatMap encI), c8 * 1⟩, ⟨B9, 277, (r_9.Edges.flatMap enc_Edge), c9 * 2⟩, ⟨some ⟨b3, 0, none⟩, 100, [.int .i64 r_9.Nodes, .slice B9 r_9.Edges.length c9], 2⟩, ⟨B10, 213, (r_10.Gates.flatMap enc_Gate), c10 * 3⟩, ⟨some ⟨b4, 0, none⟩, 104, [.int .i64 r_10.Qubits, .slice B10 r_10.Gates.length c10], 2⟩, ⟨B11, 3, (r_11.Start.flatMap encI), c11 * 1⟩, ⟨B12, 211, (r_11.Steps.flatMap enc_RouteStep), c12 * 3⟩, ⟨some ⟨b5, 0, none⟩, 108, [.slice none 0 0, .slice none 0 0], 2⟩] [⟨B, (aG.Edges.flatMap enc_Edge)⟩, ⟨B1, (aC.Gates.flatMap enc_Gate)⟩, ⟨B2, (aR.Start.flatMap encI)⟩, ⟨B3, (aR.Steps.flatMap enc_RouteStep)⟩] := hS23
                refine ss0 rfl rfl (Ys_store (i := 14) (s := 2) (B := some ⟨b5, 0, none⟩) (T' := 108) (v := .agg #[.slice B11 r_11.Start.length c11, .slice B12 r_11.Steps.length c12]) (vs := [.slice B11 r_11.Start.length c11, .slice B12 r_11.Steps.length c12]) (k := 0) (cs' := [.slice B11 r_11.Start.length c11, .slice B12 r_11.Steps.length c12]) hS23 k_sz_108_2 rfl rfl rfl rfl rfl rfl rfl (Nat.le_of_ble_eq_true rfl) rfl rfl) ?_
                rintro _ w_18 ⟨rfl, hS24⟩
                have hS24 : ST w0 [] _ [⟨some ⟨b, 0, none⟩, 86, [.int .i64 aG.Nodes, .slice B aG.Edges.length c], 2⟩, ⟨some ⟨b1, 0, none⟩, 89, [.int .i64 aC.Qubits, .slice B1 aC.Gates.length c1], 2⟩, ⟨some ⟨b2, 0, none⟩, 92, [.slice B2 aR.Start.length c2, .slice B3 aR.Steps.length c3], 2⟩, ⟨B4, 277, (r_4.Edges.flatMap enc_Edge), c4 * 2⟩, ⟨B5, 213, (r_5.Gates.flatMap enc_Gate), c5 * 3⟩, ⟨B6, 3, (r_6.Start.flatMap encI), c6 * 1⟩, ⟨B7, 211, (r_6.Steps.flatMap enc_RouteStep), c7 * 3⟩, ⟨B8, 3, (r_7.flatMap encI), c8 * 1⟩, ⟨B9, 277, (r_9.Edges.flatMap enc_Edge), c9 * 2⟩, ⟨some ⟨b3, 0, none⟩, 100, [.int .i64 r_9.Nodes, .slice B9 r_9.Edges.length c9], 2⟩, ⟨B10, 213, (r_10.Gates.flatMap enc_Gate), c10 * 3⟩, ⟨some ⟨b4, 0, none⟩, 104, [.int .i64 r_10.Qubits, .slice B10 r_10.Gates.length c10], 2⟩, ⟨B11, 3, (r_11.Start.flatMap encI), c11 * 1⟩, ⟨B12, 211, (r_11.Steps.flatMap enc_RouteStep), c12 * 3⟩, ⟨some ⟨b5, 0, none⟩, 108, [.slice B11 r_11.Start.length c11, .slice B12 r_11.Steps.length c12], 2⟩] [⟨B, (aG.Edges.flatMap enc_Edge)⟩, ⟨B1, (aC.Gates.flatMap enc_Gate)⟩, ⟨B2, (aR.Start.flatMap encI)⟩, ⟨B3, (aR.Steps.flatMap enc_RouteStep)⟩] := hS24
                refine rw_nil ?_
                refine cw_seq ?_
                refine cw_region ?_
                refine sq 52 rfl rfl (Y_loadA (B := some ⟨b3, 0, none⟩) (i := 0) (cs := [.int .i64 r_9.Nodes, .slice B9 r_9.Edges.length c9]) (vs := [.int .i64 r_9.Nodes, .slice B9 r_9.Edges.length c9]) k_ag_100 k_sz_100_2 rfl rfl (hS24.cf (i := 9) rfl) rfl rfl) ?_
                refine sq 53 rfl rfl (Y_loadA (B := some ⟨b4, 0, none⟩) (i := 0) (cs := [.int .i64 r_10.Qubits, .slice B10 r_10.Gates.length c10]) (vs := [.int .i64 r_10.Qubits, .slice B10 r_10.Gates.length c10]) k_ag_104 k_sz_104_2 rfl rfl (hS24.cf (i := 11) rfl) rfl rfl) ?_
                refine sq 54 rfl rfl (Y_loadA (B := some ⟨b5, 0, none⟩) (i := 0) (cs := [.slice B11 r_11.Start.length c11, .slice B12 r_11.Steps.length c12]) (vs := [.slice B11 r_11.Start.length c11, .slice B12 r_11.Steps.length c12]) k_ag_108 k_sz_108_2 rfl rfl (hS24.cf (i := 14) rfl) rfl rfl) ?_
                obtain ⟨⟨r_12, r_13⟩, hc10, hF6⟩ := bind_inv hF6
                refine sc 55 rfl rfl (Yc_func (g := 63) (vs := [.agg #[.int .i64 r_9.Nodes, .slice B9 r_9.Edges.length c9], .agg #[.int .i64 r_10.Qubits, .slice B10 r_10.Gates.length c10], .agg #[.slice B11 r_11.Start.length c11, .slice B12 r_11.Steps.length c12]]) k_call_63 rfl (mc rfl (mc rfl (mc rfl mn))) (c_impl_FinalPlacement r_9 r_10 r_11 B9 c9 r_9.Edges.length B10 c10 r_10.Gates.length B11 c11 r_11.Start.length B12 c12 r_11.Steps.length _ rfl (hS24.lencap (i := 8) rfl (fm_lenn (l := r_9.Edges) enc_Edge_len rfl) rfl rfl) rfl (hS24.lencap (i := 10) rfl (fm_lenn (l := r_10.Gates) enc_Gate_len rfl) rfl rfl) rfl (hS24.lencap (i := 12) rfl (fm_lenn (l := r_11.Start) encI_len rfl) rfl rfl) rfl (hS24.inn0 [(false, 8), (false, 10), (false, 12), (false, 13)] rfl) hc10)) ?_
                rintro _ w_19 ⟨B13, c13, rfl, hd10⟩
                have hS25 := hS24.out0 hd10
                have hS25 : ST w0 [] _ [⟨some ⟨b, 0, none⟩, 86, [.int .i64 aG.Nodes, .slice B aG.Edges.length c], 2⟩, ⟨some ⟨b1, 0, none⟩, 89, [.int .i64 aC.Qubits, .slice B1 aC.Gates.length c1], 2⟩, ⟨some ⟨b2, 0, none⟩, 92, [.slice B2 aR.Start.length c2, .slice B3 aR.Steps.length c3], 2⟩, ⟨B4, 277, (r_4.Edges.flatMap enc_Edge), c4 * 2⟩, ⟨B5, 213, (r_5.Gates.flatMap enc_Gate), c5 * 3⟩, ⟨B6, 3, (r_6.Start.flatMap encI), c6 * 1⟩, ⟨B7, 211, (r_6.Steps.flatMap enc_RouteStep), c7 * 3⟩, ⟨B8, 3, (r_7.flatMap encI), c8 * 1⟩, ⟨B9, 277, (r_9.Edges.flatMap enc_Edge), c9 * 2⟩, ⟨some ⟨b3, 0, none⟩, 100, [.int .i64 r_9.Nodes, .slice B9 r_9.Edges.length c9], 2⟩, ⟨B10, 213, (r_10.Gates.flatMap enc_Gate), c10 * 3⟩, ⟨some ⟨b4, 0, none⟩, 104, [.int .i64 r_10.Qubits, .slice B10 r_10.Gates.length c10], 2⟩, ⟨B11, 3, (r_11.Start.flatMap encI), c11 * 1⟩, ⟨B12, 211, (r_11.Steps.flatMap enc_RouteStep), c12 * 3⟩, ⟨some ⟨b5, 0, none⟩, 108, [.slice B11 r_11.Start.length c11, .slice B12 r_11.Steps.length c12], 2⟩, ⟨B13, 3, (r_12.flatMap encI), c13 * 1⟩] [⟨B, (aG.Edges.flatMap enc_Edge)⟩, ⟨B1, (aC.Gates.flatMap enc_Gate)⟩, ⟨B2, (aR.Start.flatMap encI)⟩, ⟨B3, (aR.Steps.flatMap enc_RouteStep)⟩] := hS25
                refine sq 51 rfl rfl (Y_move (v := .tuple #[.slice B13 r_12.length c13, .bool r_13]) rfl rfl) ?_
                refine sq 56 rfl rfl (Y_extract (v := .slice B13 r_12.length c13) rfl rfl rfl) ?_
                refine sq 57 rfl rfl (Y_extract (v := .bool r_13) rfl rfl rfl) ?_
                refine sq 13 rfl rfl (Y_assign (v := .slice B13 r_12.length c13) rfl rfl) ?_
                refine sq 14 rfl rfl (Y_assign (v := .bool r_13) rfl rfl) ?_
                refine rw_nil ?_
                refine cw_seq ?_
                refine cw_seq ?_
                refine cw_region ?_
                refine sq 58 rfl rfl (Y_move (v := .slice B13 r_12.length c13) rfl rfl) ?_
                refine sq 59 rfl rfl (Y_move (v := .slice B8 r_7.length c8) rfl rfl) ?_
                obtain ⟨r_14, hc11, hF6⟩ := bind_inv hF6
                refine sc 60 rfl rfl (Yc_func (g := 64) (vs := [.slice B13 r_12.length c13, .slice B8 r_7.length c8]) k_call_64 rfl (mc rfl (mc rfl mn)) (c_laws_eqIntS r_12 r_7 B13 c13 r_12.length B8 c8 r_7.length _ rfl rfl (hS25.inn0 [(false, 15), (false, 7)] rfl) hc11)) ?_
                rintro _ w_20 ⟨rfl, hd11⟩
                have hS26 := hS25.out00 hd11
                have hS26 : ST w0 [] _ [⟨some ⟨b, 0, none⟩, 86, [.int .i64 aG.Nodes, .slice B aG.Edges.length c], 2⟩, ⟨some ⟨b1, 0, none⟩, 89, [.int .i64 aC.Qubits, .slice B1 aC.Gates.length c1], 2⟩, ⟨some ⟨b2, 0, none⟩, 92, [.slice B2 aR.Start.length c2, .slice B3 aR.Steps.length c3], 2⟩, ⟨B4, 277, (r_4.Edges.flatMap enc_Edge), c4 * 2⟩, ⟨B5, 213, (r_5.Gates.flatMap enc_Gate), c5 * 3⟩, ⟨B6, 3, (r_6.Start.flatMap encI), c6 * 1⟩, ⟨B7, 211, (r_6.Steps.flatMap enc_RouteStep), c7 * 3⟩, ⟨B8, 3, (r_7.flatMap encI), c8 * 1⟩, ⟨B9, 277, (r_9.Edges.flatMap enc_Edge), c9 * 2⟩, ⟨some ⟨b3, 0, none⟩, 100, [.int .i64 r_9.Nodes, .slice B9 r_9.Edges.length c9], 2⟩, ⟨B10, 213, (r_10.Gates.flatMap enc_Gate), c10 * 3⟩, ⟨some ⟨b4, 0, none⟩, 104, [.int .i64 r_10.Qubits, .slice B10 r_10.Gates.length c10], 2⟩, ⟨B11, 3, (r_11.Start.flatMap encI), c11 * 1⟩, ⟨B12, 211, (r_11.Steps.flatMap enc_RouteStep), c12 * 3⟩, ⟨some ⟨b5, 0, none⟩, 108, [.slice B11 r_11.Start.length c11, .slice B12 r_11.Steps.length c12], 2⟩, ⟨B13, 3, (r_12.flatMap encI), c13 * 1⟩] [⟨B, (aG.Edges.flatMap enc_Edge)⟩, ⟨B1, (aC.Gates.flatMap enc_Gate)⟩, ⟨B2, (aR.Start.flatMap encI)⟩, ⟨B3, (aR.Steps.flatMap enc_RouteStep)⟩] := hS26
                refine sq 61 rfl rfl (Y_not (p := r_14) rfl rfl) ?_
                refine sq 62 rfl rfl (Y_move (v := .bool (!r_14)) rfl rfl) ?_
                refine sgq 63 (B := (!(!r_14))) (v := .bool r_13) rfl rfl (wt_f (gd_of (t := 62) (by kernel_rfl) rfl)) (fun hg => (Y_move (v := .bool r_13) rfl rfl)) ?_
                refine sgq 64 (B := (!(!r_14))) (v := .bool r_8) rfl rfl (wt_f (gd_of (t := 62) (by kernel_rfl) rfl)) (fun hg1 => (Y_move (v := .bool r_8) rfl rfl)) ?_
                refine sgq 65 (B := (!(!r_14))) (v := .bool (!(r_13 == r_8))) rfl rfl (wt_f (gd_of (t := 62) (by kernel_rfl) rfl)) (fun hg2 => (Y_bne (p := r_13) (q := r_8) k_und_4 rfl (gv_of (B := (!(!r_14))) (v := .bool r_13) hg2) (gv_of (B := (!(!r_14))) (v := .bool r_8) hg2))) ?_
                refine sq 66 rfl rfl (Y_or (b := (!r_14)) (z := (!(r_13 == r_8))) rfl rfl rfl rfl) ?_
                refine rw_nil ?_
                refine cw_cond (b := ((!r_14) || (!(r_13 == r_8)))) rfl (fun hb3 => ?_) (fun hb3 => ?_)
                · skip
                  have hF7 := ct hF6 hb3
                  refine cw_seq ?_
                  refine cw_region ?_
                  refine sq 6 rfl rfl (Y_assign (v := .bool false) rfl rfl) ?_
                  refine rw_nil ?_
                  refine cw_ret ?_
                  obtain rfl := some_inj hF7
                  exact ret1 Try.results9 (v1 := .bool false) (resAt_tmp rfl) ⟨rfl, (ST.subR (R' := []) (hS26.sel [] rfl rfl) (fun _ h => by cases h))⟩
                · skip
                  have hF8 := cf' hF6 hb3
                  refine cw_skip ?_
                  refine cw_seq ?_
                  refine cw_seq ?_
                  obtain ⟨r_15, hc12, hF8⟩ := bind_inv hF8
                  obtain ⟨r_16, hc13, hF8⟩ := bind_inv hF8
                  refine ra_start (ST.sel hS26 [0, 1, 2, 3, 4, 5, 6, 7, 8, 9, 10, 11, 12, 13, 14, 15] rfl rfl).fn (by kernel_rfl) ?_
                  have hS29 := hS26.drew
                  refine ra_q 0 67 (v := .agg #[.int .i64 r_9.Nodes, .slice B9 r_9.Edges.length c9]) rfl rfl rfl (by kernel_rfl) (by kernel_rfl) (by kernel_rfl) (ST.sel hS29 [0, 1, 2, 3, 4, 5, 6, 7, 8, 9, 10, 11, 12, 13, 14, 15] rfl rfl) (fun w' hw' => (Y_loadA (B := some ⟨b3, 0, none⟩) (i := 0) (cs := [.int .i64 r_9.Nodes, .slice B9 r_9.Edges.length c9]) (vs := [.int .i64 r_9.Nodes, .slice B9 r_9.Edges.length c9]) k_ag_100 k_sz_100_2 rfl rfl (ST.cf hw' (i := 9) rfl) rfl rfl)) ?_
                  refine ra_q 1 68 (v := .agg #[.int .i64 aG.Nodes, .slice B aG.Edges.length c]) rfl rfl rfl (by kernel_rfl) (by kernel_rfl) (by kernel_rfl) (ST.sel hS29 [0, 1, 2, 3, 4, 5, 6, 7, 8, 9, 10, 11, 12, 13, 14, 15] rfl rfl) (fun w' hw' => (Y_loadA (B := some ⟨b, 0, none⟩) (i := 0) (cs := [.int .i64 aG.Nodes, .slice B aG.Edges.length c]) (vs := [.int .i64 aG.Nodes, .slice B aG.Edges.length c]) k_ag_86 k_sz_86_2 rfl rfl (ST.cf hw' (i := 0) rfl) rfl rfl)) ?_
                  refine ra_all (rs := [2]) (by kernel_rfl) rfl ?_
                  refine ra_c 69 (i := 2) rfl rfl rfl (Yc_func (g := 55) (vs := [.agg #[.int .i64 aG.Nodes, .slice B aG.Edges.length c]]) k_call_55 rfl (mc rfl mn) (c_laws_toCouplingGraph aG B c aG.Edges.length _ rfl (hS29.inn0 [(true, 0)] rfl) hc12)) ?_ ?_
                  · rintro _ w_21 ⟨B14, c14, rfl, hd12⟩
                    have hS30 := hS29.out0 hd12
                    have hS30 : ST w0 [] _ [⟨some ⟨b, 0, none⟩, 86, [.int .i64 aG.Nodes, .slice B aG.Edges.length c], 2⟩, ⟨some ⟨b1, 0, none⟩, 89, [.int .i64 aC.Qubits, .slice B1 aC.Gates.length c1], 2⟩, ⟨some ⟨b2, 0, none⟩, 92, [.slice B2 aR.Start.length c2, .slice B3 aR.Steps.length c3], 2⟩, ⟨B4, 277, (r_4.Edges.flatMap enc_Edge), c4 * 2⟩, ⟨B5, 213, (r_5.Gates.flatMap enc_Gate), c5 * 3⟩, ⟨B6, 3, (r_6.Start.flatMap encI), c6 * 1⟩, ⟨B7, 211, (r_6.Steps.flatMap enc_RouteStep), c7 * 3⟩, ⟨B8, 3, (r_7.flatMap encI), c8 * 1⟩, ⟨B9, 277, (r_9.Edges.flatMap enc_Edge), c9 * 2⟩, ⟨some ⟨b3, 0, none⟩, 100, [.int .i64 r_9.Nodes, .slice B9 r_9.Edges.length c9], 2⟩, ⟨B10, 213, (r_10.Gates.flatMap enc_Gate), c10 * 3⟩, ⟨some ⟨b4, 0, none⟩, 104, [.int .i64 r_10.Qubits, .slice B10 r_10.Gates.length c10], 2⟩, ⟨B11, 3, (r_11.Start.flatMap encI), c11 * 1⟩, ⟨B12, 211, (r_11.Steps.flatMap enc_RouteStep), c12 * 3⟩, ⟨some ⟨b5, 0, none⟩, 108, [.slice B11 r_11.Start.length c11, .slice B12 r_11.Steps.length c12], 2⟩, ⟨B13, 3, (r_12.flatMap encI), c13 * 1⟩, ⟨B14, 277, (r_15.Edges.flatMap enc_Edge), c14 * 2⟩] [⟨B, (aG.Edges.flatMap enc_Edge)⟩, ⟨B1, (aC.Gates.flatMap enc_Gate)⟩, ⟨B2, (aR.Start.flatMap encI)⟩, ⟨B3, (aR.Steps.flatMap enc_RouteStep)⟩] := hS30
                    refine ⟨(ST.sel hS30 [0, 1, 2, 3, 4, 5, 6, 7, 8, 9, 10, 11, 12, 13, 14, 15] rfl rfl), ?_⟩
                    refine ra_all (rs := [3]) (by kernel_rfl) rfl ?_
                    refine ra_c 70 (i := 3) rfl rfl rfl (Yc_func (g := 59) (vs := [.agg #[.int .i64 r_9.Nodes, .slice B9 r_9.Edges.length c9], .agg #[.int .i64 r_15.Nodes, .slice B14 r_15.Edges.length c14]]) k_call_59 rfl (mc rfl (mc rfl mn)) (c_laws_eqCouplingGraph r_9 r_15 B9 c9 r_9.Edges.length B14 c14 r_15.Edges.length _ rfl rfl (hS30.inn0 [(false, 8), (false, 16)] rfl) hc13)) ?_ ?_
                    · rintro _ w_22 ⟨rfl, hd13⟩
                      have hS31 := hS30.out00 hd13
                      have hS31 : ST w0 [] _ [⟨some ⟨b, 0, none⟩, 86, [.int .i64 aG.Nodes, .slice B aG.Edges.length c], 2⟩, ⟨some ⟨b1, 0, none⟩, 89, [.int .i64 aC.Qubits, .slice B1 aC.Gates.length c1], 2⟩, ⟨some ⟨b2, 0, none⟩, 92, [.slice B2 aR.Start.length c2, .slice B3 aR.Steps.length c3], 2⟩, ⟨B4, 277, (r_4.Edges.flatMap enc_Edge), c4 * 2⟩, ⟨B5, 213, (r_5.Gates.flatMap enc_Gate), c5 * 3⟩, ⟨B6, 3, (r_6.Start.flatMap encI), c6 * 1⟩, ⟨B7, 211, (r_6.Steps.flatMap enc_RouteStep), c7 * 3⟩, ⟨B8, 3, (r_7.flatMap encI), c8 * 1⟩, ⟨B9, 277, (r_9.Edges.flatMap enc_Edge), c9 * 2⟩, ⟨some ⟨b3, 0, none⟩, 100, [.int .i64 r_9.Nodes, .slice B9 r_9.Edges.length c9], 2⟩, ⟨B10, 213, (r_10.Gates.flatMap enc_Gate), c10 * 3⟩, ⟨some ⟨b4, 0, none⟩, 104, [.int .i64 r_10.Qubits, .slice B10 r_10.Gates.length c10], 2⟩, ⟨B11, 3, (r_11.Start.flatMap encI), c11 * 1⟩, ⟨B12, 211, (r_11.Steps.flatMap enc_RouteStep), c12 * 3⟩, ⟨some ⟨b5, 0, none⟩, 108, [.slice B11 r_11.Start.length c11, .slice B12 r_11.Steps.length c12], 2⟩, ⟨B13, 3, (r_12.flatMap encI), c13 * 1⟩, ⟨B14, 277, (r_15.Edges.flatMap enc_Edge), c14 * 2⟩] [⟨B, (aG.Edges.flatMap enc_Edge)⟩, ⟨B1, (aC.Gates.flatMap enc_Gate)⟩, ⟨B2, (aR.Start.flatMap encI)⟩, ⟨B3, (aR.Steps.flatMap enc_RouteStep)⟩] := hS31
                      refine ⟨(ST.sel hS31 [0, 1, 2, 3, 4, 5, 6, 7, 8, 9, 10, 11, 12, 13, 14, 15] rfl rfl), ?_⟩
                      refine ra_q 4 71 (v := .bool (!r_16)) rfl rfl rfl (by kernel_rfl) (by kernel_rfl) (by kernel_rfl) (ST.sel hS31 [0, 1, 2, 3, 4, 5, 6, 7, 8, 9, 10, 11, 12, 13, 14, 15] rfl rfl) (fun w' hw' => (Y_not (p := r_16) rfl rfl)) ?_
                      refine ra_done (by kernel_rfl) ?_
                      refine cw_cond (b := (!r_16)) rfl (fun hb4 => ?_) (fun hb4 => ?_)
                      · skip
                        have hF9 := ct hF8 hb4
                        refine cw_seq ?_
                        refine cw_region ?_
                        refine sq 6 rfl rfl (Y_assign (v := .bool false) rfl rfl) ?_
                        refine rw_nil ?_
                        refine cw_ret ?_
                        obtain rfl := some_inj hF9
                        exact ret1 Try.results9 (v1 := .bool false) (resAt_tmp rfl) ⟨rfl, (ST.subR (R' := []) (hS31.sel [] rfl rfl) (fun _ h => by cases h))⟩
                      · skip
                        have hF10 := cf' hF8 hb4
                        refine cw_skip ?_
                        refine cw_seq ?_
                        refine cw_seq ?_
                        obtain ⟨r_17, hc14, hF10⟩ := bind_inv hF10
                        obtain ⟨r_18, hc15, hF10⟩ := bind_inv hF10
                        refine ra_start (ST.sel hS31 [0, 1, 2, 3, 4, 5, 6, 7, 8, 9, 10, 11, 12, 13, 14, 15, 16] rfl rfl).fn (by kernel_rfl) ?_
                        have hS34 := hS31.drew
                        refine ra_q 0 72 (v := .agg #[.int .i64 r_10.Qubits, .slice B10 r_10.Gates.length c10]) rfl rfl rfl (by kernel_rfl) (by kernel_rfl) (by kernel_rfl) (ST.sel hS34 [0, 1, 2, 3, 4, 5, 6, 7, 8, 9, 10, 11, 12, 13, 14, 15, 16] rfl rfl) (fun w' hw' => (Y_loadA (B := some ⟨b4, 0, none⟩) (i := 0) (cs := [.int .i64 r_10.Qubits, .slice B10 r_10.Gates.length c10]) (vs := [.int .i64 r_10.Qubits, .slice B10 r_10.Gates.length c10]) k_ag_104 k_sz_104_2 rfl rfl (ST.cf hw' (i := 11) rfl) rfl rfl)) ?_
                        refine ra_q 1 73 (v := .agg #[.int .i64 aC.Qubits, .slice B1 aC.Gates.length c1]) rfl rfl rfl (by kernel_rfl) (by kernel_rfl) (by kernel_rfl) (ST.sel hS34 [0, 1, 2, 3, 4, 5, 6, 7, 8, 9, 10, 11, 12, 13, 14, 15, 16] rfl rfl) (fun w' hw' => (Y_loadA (B := some ⟨b1, 0, none⟩) (i := 0) (cs := [.int .i64 aC.Qubits, .slice B1 aC.Gates.length c1]) (vs := [.int .i64 aC.Qubits, .slice B1 aC.Gates.length c1]) k_ag_89 k_sz_89_2 rfl rfl (ST.cf hw' (i := 1) rfl) rfl rfl)) ?_
                        refine ra_all (rs := [2]) (by kernel_rfl) rfl ?_
                        refine ra_c 74 (i := 2) rfl rfl rfl (Yc_func (g := 56) (vs := [.agg #[.int .i64 aC.Qubits, .slice B1 aC.Gates.length c1]]) k_call_56 rfl (mc rfl mn) (c_laws_toCircuit aC B1 c1 aC.Gates.length _ rfl (hS34.inn0 [(true, 1)] rfl) hc14)) ?_ ?_
                        · rintro _ w_23 ⟨B15, c15, rfl, hd14⟩
                          have hS35 := hS34.out0 hd14
                          have hS35 : ST w0 [] _ [⟨some ⟨b, 0, none⟩, 86, [.int .i64 aG.Nodes, .slice B aG.Edges.length c], 2⟩, ⟨some ⟨b1, 0, none⟩, 89, [.int .i64 aC.Qubits, .slice B1 aC.Gates.length c1], 2⟩, ⟨some ⟨b2, 0, none⟩, 92, [.slice B2 aR.Start.length c2, .slice B3 aR.Steps.length c3], 2⟩, ⟨B4, 277, (r_4.Edges.flatMap enc_Edge), c4 * 2⟩, ⟨B5, 213, (r_5.Gates.flatMap enc_Gate), c5 * 3⟩, ⟨B6, 3, (r_6.Start.flatMap encI), c6 * 1⟩, ⟨B7, 211, (r_6.Steps.flatMap enc_RouteStep), c7 * 3⟩, ⟨B8, 3, (r_7.flatMap encI), c8 * 1⟩, ⟨B9, 277, (r_9.Edges.flatMap enc_Edge), c9 * 2⟩, ⟨some ⟨b3, 0, none⟩, 100, [.int .i64 r_9.Nodes, .slice B9 r_9.Edges.length c9], 2⟩, ⟨B10, 213, (r_10.Gates.flatMap enc_Gate), c10 * 3⟩, ⟨some ⟨b4, 0, none⟩, 104, [.int .i64 r_10.Qubits, .slice B10 r_10.Gates.length c10], 2⟩, ⟨B11, 3, (r_11.Start.flatMap encI), c11 * 1⟩, ⟨B12, 211, (r_11.Steps.flatMap enc_RouteStep), c12 * 3⟩, ⟨some ⟨b5, 0, none⟩, 108, [.slice B11 r_11.Start.length c11, .slice B12 r_11.Steps.length c12], 2⟩, ⟨B13, 3, (r_12.flatMap encI), c13 * 1⟩, ⟨B14, 277, (r_15.Edges.flatMap enc_Edge), c14 * 2⟩, ⟨B15, 213, (r_17.Gates.flatMap enc_Gate), c15 * 3⟩] [⟨B, (aG.Edges.flatMap enc_Edge)⟩, ⟨B1, (aC.Gates.flatMap enc_Gate)⟩, ⟨B2, (aR.Start.flatMap encI)⟩, ⟨B3, (aR.Steps.flatMap enc_RouteStep)⟩] := hS35
                          refine ⟨(ST.sel hS35 [0, 1, 2, 3, 4, 5, 6, 7, 8, 9, 10, 11, 12, 13, 14, 15, 16] rfl rfl), ?_⟩
                          refine ra_all (rs := [3]) (by kernel_rfl) rfl ?_
                          refine ra_c 75 (i := 3) rfl rfl rfl (Yc_func (g := 60) (vs := [.agg #[.int .i64 r_10.Qubits, .slice B10 r_10.Gates.length c10], .agg #[.int .i64 r_17.Qubits, .slice B15 r_17.Gates.length c15]]) k_call_60 rfl (mc rfl (mc rfl mn)) (c_laws_eqCircuit r_10 r_17 B10 c10 r_10.Gates.length B15 c15 r_17.Gates.length _ rfl rfl (hS35.inn0 [(false, 10), (false, 17)] rfl) hc15)) ?_ ?_
                          · rintro _ w_24 ⟨rfl, hd15⟩
                            have hS36 := hS35.out00 hd15
                            have hS36 : ST w0 [] _ [⟨some ⟨b, 0, none⟩, 86, [.int .i64 aG.Nodes, .slice B aG.Edges.length c], 2⟩, ⟨some ⟨b1, 0, none⟩, 89, [.int .i64 aC.Qubits, .slice B1 aC.Gates.length c1], 2⟩, ⟨some ⟨b2, 0, none⟩, 92, [.slice B2 aR.Start.length c2, .slice B3 aR.Steps.length c3], 2⟩, ⟨B4, 277, (r_4.Edges.flatMap enc_Edge), c4 * 2⟩, ⟨B5, 213, (r_5.Gates.flatMap enc_Gate), c5 * 3⟩, ⟨B6, 3, (r_6.Start.flatMap encI), c6 * 1⟩, ⟨B7, 211, (r_6.Steps.flatMap enc_RouteStep), c7 * 3⟩, ⟨B8, 3, (r_7.flatMap encI), c8 * 1⟩, ⟨B9, 277, (r_9.Edges.flatMap enc_Edge), c9 * 2⟩, ⟨some ⟨b3, 0, none⟩, 100, [.int .i64 r_9.Nodes, .slice B9 r_9.Edges.length c9], 2⟩, ⟨B10, 213, (r_10.Gates.flatMap enc_Gate), c10 * 3⟩, ⟨some ⟨b4, 0, none⟩, 104, [.int .i64 r_10.Qubits, .slice B10 r_10.Gates.length c10], 2⟩, ⟨B11, 3, (r_11.Start.flatMap encI), c11 * 1⟩, ⟨B12, 211, (r_11.Steps.flatMap enc_RouteStep), c12 * 3⟩, ⟨some ⟨b5, 0, none⟩, 108, [.slice B11 r_11.Start.length c11, .slice B12 r_11.Steps.length c12], 2⟩, ⟨B13, 3, (r_12.flatMap encI), c13 * 1⟩, ⟨B14, 277, (r_15.Edges.flatMap enc_Edge), c14 * 2⟩, ⟨B15, 213, (r_17.Gates.flatMap enc_Gate), c15 * 3⟩] [⟨B, (aG.Edges.flatMap enc_Edge)⟩, ⟨B1, (aC.Gates.flatMap enc_Gate)⟩, ⟨B2, (aR.Start.flatMap encI)⟩, ⟨B3, (aR.Steps.flatMap enc_RouteStep)⟩] := hS36
                            refine ⟨(ST.sel hS36 [0, 1, 2, 3, 4, 5, 6, 7, 8, 9, 10, 11, 12, 13, 14, 15, 16] rfl rfl), ?_⟩
                            refine ra_q 4 76 (v := .bool (!r_18)) rfl rfl rfl (by kernel_rfl) (by kernel_rfl) (by kernel_rfl) (ST.sel hS36 [0, 1, 2, 3, 4, 5, 6, 7, 8, 9, 10, 11, 12, 13, 14, 15, 16] rfl rfl) (fun w' hw' => (Y_not (p := r_18) rfl rfl)) ?_
                            refine ra_done (by kernel_rfl) ?_
                            refine cw_cond (b := (!r_18)) rfl (fun hb5 => ?_) (fun hb5 => ?_)
                            · skip
                              have hF11 := ct hF10 hb5
                              refine cw_seq ?_
                              refine cw_region ?_
                              refine sq 6 rfl rfl (Y_assign (v := .bool false) rfl rfl) ?_
                              refine rw_nil ?_
                              refine cw_ret ?_
                              obtain rfl := some_inj hF11
                              exact ret1 Try.results9 (v1 := .bool false) (resAt_tmp rfl) ⟨rfl, (ST.subR (R' := []) (hS36.sel [] rfl rfl) (fun _ h => by cases h))⟩
                            · skip
                              have hF12 := cf' hF10 hb5
                              refine cw_skip ?_
                              refine cw_seq ?_
                              refine cw_seq ?_
                              obtain ⟨r_19, hc16, hF12⟩ := bind_inv hF12
                              obtain ⟨r_20, hc17, hF12⟩ := bind_inv hF12
                              refine ra_start (ST.sel hS36 [0, 1, 2, 3, 4, 5, 6, 7, 8, 9, 10, 11, 12, 13, 14, 15, 16, 17] rfl rfl).fn (by kernel_rfl) ?_
                              have hS39 := hS36.drew
                              refine ra_q 0 77 (v := .agg #[.slice B11 r_11.Start.length c11, .slice B12 r_11.Steps.length c12]) rfl rfl rfl (by kernel_rfl) (by kernel_rfl) (by kernel_rfl) (ST.sel hS39 [0, 1, 2, 3, 4, 5, 6, 7, 8, 9, 10, 11, 12, 13, 14, 15, 16, 17] rfl rfl) (fun w' hw' => (Y_loadA (B := some ⟨b5, 0, none⟩) (i := 0) (cs := [.slice B11 r_11.Start.length c11, .slice B12 r_11.Steps.length c12]) (vs := [.slice B11 r_11.Start.length c11, .slice B12 r_11.Steps.length c12]) k_ag_108 k_sz_108_2 rfl rfl (ST.cf hw' (i := 14) rfl) rfl rfl)) ?_
                              refine ra_q 1 78 (v := .agg #[.slice B2 aR.Start.length c2, .slice B3 aR.Steps.length c3]) rfl rfl rfl (by kernel_rfl) (by kernel_rfl) (by kernel_rfl) (ST.sel hS39 [0, 1, 2, 3, 4, 5, 6, 7, 8, 9, 10, 11, 12, 13, 14, 15, 16, 17] rfl rfl) (fun w' hw' => (Y_loadA (B := some ⟨b2, 0, none⟩) (i := 0) (cs := [.slice B2 aR.Start.length c2, .slice B3 aR.Steps.length c3]) (vs := [.slice B2 aR.Start.length c2, .slice B3 aR.Steps.length c3]) k_ag_92 k_sz_92_2 rfl rfl (ST.cf hw' (i := 2) rfl) rfl rfl)) ?_
                              refine ra_all (rs := [2]) (by kernel_rfl) rfl ?_
                              refine ra_c 79 (i := 2) rfl rfl rfl (Yc_func (g := 57) (vs := [.agg #[.slice B2 aR.Start.length c2, .slice B3 aR.Steps.length c3]]) k_call_57 rfl (mc rfl mn) (c_laws_toRoute aR B2 c2 aR.Start.length B3 c3 aR.Steps.length _ rfl rfl (hS39.inn0 [(true, 2), (true, 3)] rfl) hc16)) ?_ ?_
                              · rintro _ w_25 ⟨B16, c16, B17, c17, rfl, hd16⟩
                                have hS40 := hS39.out0 hd16
                                have hS40 : ST w0 [] _ [⟨some ⟨b, 0, none⟩, 86, [.int .i64 aG.Nodes, .slice B aG.Edges.length c], 2⟩, ⟨some ⟨b1, 0, none⟩, 89, [.int .i64 aC.Qubits, .slice B1 aC.Gates.length c1], 2⟩, ⟨some ⟨b2, 0, none⟩, 92, [.slice B2 aR.Start.length c2, .slice B3 aR.Steps.length c3], 2⟩, ⟨B4, 277, (r_4.Edges.flatMap enc_Edge), c4 * 2⟩, ⟨B5, 213, (r_5.Gates.flatMap enc_Gate), c5 * 3⟩, ⟨B6, 3, (r_6.Start.flatMap encI), c6 * 1⟩, ⟨B7, 211, (r_6.Steps.flatMap enc_RouteStep), c7 * 3⟩, ⟨B8, 3, (r_7.flatMap encI), c8 * 1⟩, ⟨B9, 277, (r_9.Edges.flatMap enc_Edge), c9 * 2⟩, ⟨some ⟨b3, 0, none⟩, 100, [.int .i64 r_9.Nodes, .slice B9 r_9.Edges.length c9], 2⟩, ⟨B10, 213, (r_10.Gates.flatMap enc_Gate), c10 * 3⟩, ⟨some ⟨b4, 0, none⟩, 104, [.int .i64 r_10.Qubits, .slice B10 r_10.Gates.length c10], 2⟩, ⟨B11, 3, (r_11.Start.flatMap encI), c11 * 1⟩, ⟨B12, 211, (r_11.Steps.flatMap enc_RouteStep), c12 * 3⟩, ⟨some ⟨b5, 0, none⟩, 108, [.slice B11 r_11.Start.length c11, .slice B12 r_11.Steps.length c12], 2⟩, ⟨B13, 3, (r_12.flatMap encI), c13 * 1⟩, ⟨B14, 277, (r_15.Edges.flatMap enc_Edge), c14 * 2⟩, ⟨B15, 213, (r_17.Gates.flatMap enc_Gate), c15 * 3⟩, ⟨B16, 3, (r_19.Start.flatMap encI), c16 * 1⟩, ⟨B17, 211, (r_19.Steps.flatMap enc_RouteStep), c17 * 3⟩] [⟨B, (aG.Edges.flatMap enc_Edge)⟩, ⟨B1, (aC.Gates.flatMap enc_Gate)⟩, ⟨B2, (aR.Start.flatMap encI)⟩, ⟨B3, (aR.Steps.flatMap enc_RouteStep)⟩] := hS40
                                refine ⟨(ST.sel hS40 [0, 1, 2, 3, 4, 5, 6, 7, 8, 9, 10, 11, 12, 13, 14, 15, 16, 17] rfl rfl), ?_⟩
                                refine ra_all (rs := [3]) (by kernel_rfl) rfl ?_
                                refine ra_c 80 (i := 3) rfl rfl rfl (Yc_func (g := 61) (vs := [.agg #[.slice B11 r_11.Start.length c11, .slice B12 r_11.Steps.length c12], .agg #[.slice B16 r_19.Start.length c16, .slice B17 r_19.Steps.length c17]]) k_call_61 rfl (mc rfl (mc rfl mn)) (c_laws_eqRoute r_11 r_19 B11 c11 r_11.Start.length B12 c12 r_11.Steps.length B16 c16 r_19.Start.length B17 c17 r_19.Steps.length _ rfl rfl rfl rfl (hS40.inn0 [(false, 12), (false, 13), (false, 18), (false, 19)] rfl) hc17)) ?_ ?_
                                · rintro _ w_26 ⟨rfl, hd17⟩
                                  have hS41 := hS40.out00 hd17
                                  have hS41 : ST w0 [] _ [⟨some ⟨b, 0, none⟩, 86, [.int .i64 aG.Nodes, .slice B aG.Edges.length c], 2⟩, ⟨some ⟨b1, 0, none⟩, 89, [.int .i64 aC.Qubits, .slice B1 aC.Gates.length c1], 2⟩, ⟨some ⟨b2, 0, none⟩, 92, [.slice B2 aR.Start.length c2, .slice B3 aR.Steps.length c3], 2⟩, ⟨B4, 277, (r_4.Edges.flatMap enc_Edge), c4 * 2⟩, ⟨B5, 213, (r_5.Gates.flatMap enc_Gate), c5 * 3⟩, ⟨B6, 3, (r_6.Start.flatMap encI), c6 * 1⟩, ⟨B7, 211, (r_6.Steps.flatMap enc_RouteStep), c7 * 3⟩, ⟨B8, 3, (r_7.flatMap encI), c8 * 1⟩, ⟨B9, 277, (r_9.Edges.flatMap enc_Edge), c9 * 2⟩, ⟨some ⟨b3, 0, none⟩, 100, [.int .i64 r_9.Nodes, .slice B9 r_9.Edges.length c9], 2⟩, ⟨B10, 213, (r_10.Gates.flatMap enc_Gate), c10 * 3⟩, ⟨some ⟨b4, 0, none⟩, 104, [.int .i64 r_10.Qubits, .slice B10 r_10.Gates.length c10], 2⟩, ⟨B11, 3, (r_11.Start.flatMap encI), c11 * 1⟩, ⟨B12, 211, (r_11.Steps.flatMap enc_RouteStep), c12 * 3⟩, ⟨some ⟨b5, 0, none⟩, 108, [.slice B11 r_11.Start.length c11, .slice B12 r_11.Steps.length c12], 2⟩, ⟨B13, 3, (r_12.flatMap encI), c13 * 1⟩, ⟨B14, 277, (r_15.Edges.flatMap enc_Edge), c14 * 2⟩, ⟨B15, 213, (r_17.Gates.flatMap enc_Gate), c15 * 3⟩, ⟨B16, 3, (r_19.Start.flatMap encI), c16 * 1⟩, ⟨B17, 211, (r_19.Steps.flatMap enc_RouteStep), c17 * 3⟩] [⟨B, (aG.Edges.flatMap enc_Edge)⟩, ⟨B1, (aC.Gates.flatMap enc_Gate)⟩, ⟨B2, (aR.Start.flatMap encI)⟩, ⟨B3, (aR.Steps.flatMap enc_RouteStep)⟩] := hS41
                                  refine ⟨(ST.sel hS41 [0, 1, 2, 3, 4, 5, 6, 7, 8, 9, 10, 11, 12, 13, 14, 15, 16, 17] rfl rfl), ?_⟩
                                  refine ra_q 4 81 (v := .bool (!r_20)) rfl rfl rfl (by kernel_rfl) (by kernel_rfl) (by kernel_rfl) (ST.sel hS41 [0, 1, 2, 3, 4, 5, 6, 7, 8, 9, 10, 11, 12, 13, 14, 15, 16, 17] rfl rfl) (fun w' hw' => (Y_not (p := r_20) rfl rfl)) ?_
                                  refine ra_done (by kernel_rfl) ?_
                                  refine cw_cond (b := (!r_20)) rfl (fun hb6 => ?_) (fun hb6 => ?_)
                                  · skip
                                    have hF13 := ct hF12 hb6
                                    refine cw_seq ?_
                                    refine cw_region ?_
                                    refine sq 6 rfl rfl (Y_assign (v := .bool false) rfl rfl) ?_
                                    refine rw_nil ?_
                                    refine cw_ret ?_
                                    obtain rfl := some_inj hF13
                                    exact ret1 Try.results9 (v1 := .bool false) (resAt_tmp rfl) ⟨rfl, (ST.subR (R' := []) (hS41.sel [] rfl rfl) (fun _ h => by cases h))⟩
                                  · skip
                                    have hF14 := cf' hF12 hb6
                                    refine cw_skip ?_
                                    refine cw_seq ?_
                                    refine cw_region ?_
                                    refine sq 15 rfl rfl (Y_assign (v := .int .i64 1) rfl rfl) ?_
                                    refine rw_nil ?_
                                    refine cw_seq ?_
                                    refine cw_region ?_
                                    refine sq 82 rfl rfl (Y_loadA (B := some ⟨b3, 0, none⟩) (i := 0) (cs := [.int .i64 r_9.Nodes, .slice B9 r_9.Edges.length c9]) (vs := [.int .i64 r_9.Nodes, .slice B9 r_9.Edges.length c9]) k_ag_100 k_sz_100_2 rfl rfl (hS41.cf (i := 9) rfl) rfl rfl) ?_
                                    refine sq 83 rfl rfl (Y_move (v := .int .i64 1) rfl rfl) ?_
                                    obtain ⟨⟨r_21, m⟩, hc18, hF14⟩ := bind_inv hF14
                                    refine sc 84 rfl rfl (Yc_func (g := 65) (vs := [.agg #[.int .i64 r_9.Nodes, .slice B9 r_9.Edges.length c9], .int .i64 1]) k_call_65 rfl (mc rfl (mc rfl mn)) (c_laws_markCouplingGraph r_9 1 B9 c9 r_9.Edges.length _ rfl (hS41.inn [false, false, false, false, false, false, false, false, true, false, false, false, false, false, false, false, false, false, false, false] rfl [] rfl) hc18)) ?_
                                    rintro _ w_27 ⟨rfl, hl, hd18⟩
                                    have hS42 := hS41.out [false, false, false, false, false, false, false, false, true, false, false, false, false, false, false, false, false, false, false, false] rfl hd18
                                    have hS42 : ST w0 [] _ [⟨some ⟨b, 0, none⟩, 86, [.int .i64 aG.Nodes, .slice B aG.Edges.length c], 2⟩, ⟨some ⟨b1, 0, none⟩, 89, [.int .i64 aC.Qubits, .slice B1 aC.Gates.length c1], 2⟩, ⟨some ⟨b2, 0, none⟩, 92, [.slice B2 aR.Start.length c2, .slice B3 aR.Steps.length c3], 2⟩, ⟨B4, 277, (r_4.Edges.flatMap enc_Edge), c4 * 2⟩, ⟨B5, 213, (r_5.Gates.flatMap enc_Gate), c5 * 3⟩, ⟨B6, 3, (r_6.Start.flatMap encI), c6 * 1⟩, ⟨B7, 211, (r_6.Steps.flatMap enc_RouteStep), c7 * 3⟩, ⟨B8, 3, (r_7.flatMap encI), c8 * 1⟩, ⟨some ⟨b3, 0, none⟩, 100, [.int .i64 r_9.Nodes, .slice B9 r_9.Edges.length c9], 2⟩, ⟨B10, 213, (r_10.Gates.flatMap enc_Gate), c10 * 3⟩, ⟨some ⟨b4, 0, none⟩, 104, [.int .i64 r_10.Qubits, .slice B10 r_10.Gates.length c10], 2⟩, ⟨B11, 3, (r_11.Start.flatMap encI), c11 * 1⟩, ⟨B12, 211, (r_11.Steps.flatMap enc_RouteStep), c12 * 3⟩, ⟨some ⟨b5, 0, none⟩, 108, [.slice B11 r_11.Start.length c11, .slice B12 r_11.Steps.length c12], 2⟩, ⟨B13, 3, (r_12.flatMap encI), c13 * 1⟩, ⟨B14, 277, (r_15.Edges.flatMap enc_Edge), c14 * 2⟩, ⟨B15, 213, (r_17.Gates.flatMap enc_Gate), c15 * 3⟩, ⟨B16, 3, (r_19.Start.flatMap encI), c16 * 1⟩, ⟨B17, 211, (r_19.Steps.flatMap enc_RouteStep), c17 * 3⟩, ⟨B9, 277, (m.flatMap enc_Edge), c9 * 2⟩] [⟨B, (aG.Edges.flatMap enc_Edge)⟩, ⟨B1, (aC.Gates.flatMap enc_Gate)⟩, ⟨B2, (aR.Start.flatMap encI)⟩, ⟨B3, (aR.Steps.flatMap enc_RouteStep)⟩] := hS42
                                    refine sq 15 rfl rfl (Y_assign (v := .int .i64 r_21) rfl rfl) ?_
                                    refine rw_nil ?_
                                    refine cw_seq ?_
                                    refine cw_region ?_
                                    refine sq 85 rfl rfl (Y_loadA (B := some ⟨b4, 0, none⟩) (i := 0) (cs := [.int .i64 r_10.Qubits, .slice B10 r_10.Gates.length c10]) (vs := [.int .i64 r_10.Qubits, .slice B10 r_10.Gates.length c10]) k_ag_104 k_sz_104_2 rfl rfl (hS42.cf (i := 10) rfl) rfl rfl) ?_
                                    refine sq 86 rfl rfl (Y_move (v := .int .i64 r_21) rfl rfl) ?_
                                    obtain ⟨⟨r_22, m1⟩, hc19, hF14⟩ := bind_inv hF14
                                    refine sc 87 rfl rfl (Yc_func (g := 66) (vs := [.agg #[.int .i64 r_10.Qubits, .slice B10 r_10.Gates.length c10], .int .i64 r_21]) k_call_66 rfl (mc rfl (mc rfl mn)) (c_laws_markCircuit r_10 r_21 B10 c10 r_10.Gates.length _ rfl (hS42.inn [false, false, false, false, false, false, false, false, false, true, false, false, false, false, false, false, false, false, false, false] rfl [] rfl) hc19)) ?_
                                    rintro _ w_28 ⟨rfl, hl1, hd19⟩
                                    have hS43 := hS42.out [false, false, false, false, false, false, false, false, false, true, false, false, false, false, false, false, false, false, false, false] rfl hd19
                                    have hS43 : ST w0 [] _ [⟨some ⟨b, 0, none⟩, 86, [.int .i64 aG.Nodes, .slice B aG.Edges.length c], 2⟩, ⟨some ⟨b1, 0, none⟩, 89, [.int .i64 aC.Qubits, .slice B1 aC.Gates.length c1], 2⟩, ⟨some ⟨b2, 0, none⟩, 92, [.slice B2 aR.Start.length c2, .slice B3 aR.Steps.length c3], 2⟩, ⟨B4, 277, (r_4.Edges.flatMap enc_Edge), c4 * 2⟩, ⟨B5, 213, (r_5.Gates.flatMap enc_Gate), c5 * 3⟩, ⟨B6, 3, (r_6.Start.flatMap encI), c6 * 1⟩, ⟨B7, 211, (r_6.Steps.flatMap enc_RouteStep), c7 * 3⟩, ⟨B8, 3, (r_7.flatMap encI), c8 * 1⟩, ⟨some ⟨b3, 0, none⟩, 100, [.int .i64 r_9.Nodes, .slice B9 r_9.Edges.length c9], 2⟩, ⟨some ⟨b4, 0, none⟩, 104, [.int .i64 r_10.Qubits, .slice B10 r_10.Gates.length c10], 2⟩, ⟨B11, 3, (r_11.Start.flatMap encI), c11 * 1⟩, ⟨B12, 211, (r_11.Steps.flatMap enc_RouteStep), c12 * 3⟩, ⟨some ⟨b5, 0, none⟩, 108, [.slice B11 r_11.Start.length c11, .slice B12 r_11.Steps.length c12], 2⟩, ⟨B13, 3, (r_12.flatMap encI), c13 * 1⟩, ⟨B14, 277, (r_15.Edges.flatMap enc_Edge), c14 * 2⟩, ⟨B15, 213, (r_17.Gates.flatMap enc_Gate), c15 * 3⟩, ⟨B16, 3, (r_19.Start.flatMap encI), c16 * 1⟩, ⟨B17, 211, (r_19.Steps.flatMap enc_RouteStep), c17 * 3⟩, ⟨B9, 277, (m.flatMap enc_Edge), c9 * 2⟩, ⟨B10, 213, (m1.flatMap enc_Gate), c10 * 3⟩] [⟨B, (aG.Edges.flatMap enc_Edge)⟩, ⟨B1, (aC.Gates.flatMap enc_Gate)⟩, ⟨B2, (aR.Start.flatMap encI)⟩, ⟨B3, (aR.Steps.flatMap enc_RouteStep)⟩] := hS43
                                    refine sq 15 rfl rfl (Y_assign (v := .int .i64 r_22) rfl rfl) ?_
                                    refine rw_nil ?_
                                    refine cw_seq ?_
                                    refine cw_region ?_
                                    refine sq 88 rfl rfl (Y_loadA (B := some ⟨b5, 0, none⟩) (i := 0) (cs := [.slice B11 r_11.Start.length c11, .slice B12 r_11.Steps.length c12]) (vs := [.slice B11 r_11.Start.length c11, .slice B12 r_11.Steps.length c12]) k_ag_108 k_sz_108_2 rfl rfl (hS43.cf (i := 12) rfl) rfl rfl) ?_
                                    refine sq 89 rfl rfl (Y_move (v := .int .i64 r_22) rfl rfl) ?_
                                    obtain ⟨⟨r_23, m2, m3⟩, hc20, hF14⟩ := bind_inv hF14
                                    refine sc 90 rfl rfl (Yc_func (g := 67) (vs := [.agg #[.slice B11 r_11.Start.length c11, .slice B12 r_11.Steps.length c12], .int .i64 r_22]) k_call_67 rfl (mc rfl (mc rfl mn)) (c_laws_markRoute r_11 r_22 B11 c11 r_11.Start.length B12 c12 r_11.Steps.length _ rfl rfl (hS43.inn [false, false, false, false, false, false, false, false, false, false, true, true, false, false, false, false, false, false, false, false] rfl [] rfl) hc20)) ?_
                                    rintro _ w_29 ⟨rfl, hl2, hl3, hd20⟩
                                    have hS44 := hS43.out [false, false, false, false, false, false, false, false, false, false, true, true, false, false, false, false, false, false, false, false] rfl hd20
                                    have hS44 : ST w0 [] _ [⟨some ⟨b, 0, none⟩, 86, [.int .i64 aG.Nodes, .slice B aG.Edges.length c], 2⟩, ⟨some ⟨b1, 0, none⟩, 89, [.int .i64 aC.Qubits, .slice B1 aC.Gates.length c1], 2⟩, ⟨some ⟨b2, 0, none⟩, 92, [.slice B2 aR.Start.length c2, .slice B3 aR.Steps.length c3], 2⟩, ⟨B4, 277, (r_4.Edges.flatMap enc_Edge), c4 * 2⟩, ⟨B5, 213, (r_5.Gates.flatMap enc_Gate), c5 * 3⟩, ⟨B6, 3, (r_6.Start.flatMap encI), c6 * 1⟩, ⟨B7, 211, (r_6.Steps.flatMap enc_RouteStep), c7 * 3⟩, ⟨B8, 3, (r_7.flatMap encI), c8 * 1⟩, ⟨some ⟨b3, 0, none⟩, 100, [.int .i64 r_9.Nodes, .slice B9 r_9.Edges.length c9], 2⟩, ⟨some ⟨b4, 0, none⟩, 104, [.int .i64 r_10.Qubits, .slice B10 r_10.Gates.length c10], 2⟩, ⟨some ⟨b5, 0, none⟩, 108, [.slice B11 r_11.Start.length c11, .slice B12 r_11.Steps.length c12], 2⟩, ⟨B13, 3, (r_12.flatMap encI), c13 * 1⟩, ⟨B14, 277, (r_15.Edges.flatMap enc_Edge), c14 * 2⟩, ⟨B15, 213, (r_17.Gates.flatMap enc_Gate), c15 * 3⟩, ⟨B16, 3, (r_19.Start.flatMap encI), c16 * 1⟩, ⟨B17, 211, (r_19.Steps.flatMap enc_RouteStep), c17 * 3⟩, ⟨B9, 277, (m.flatMap enc_Edge), c9 * 2⟩, ⟨B10, 213, (m1.flatMap enc_Gate), c10 * 3⟩, ⟨B11, 3, (m2.flatMap encI), c11 * 1⟩, ⟨B12, 211, (m3.flatMap enc_RouteStep), c12 * 3⟩] [⟨B, (aG.Edges.flatMap enc_Edge)⟩, ⟨B1, (aC.Gates.flatMap enc_Gate)⟩, ⟨B2, (aR.Start.flatMap encI)⟩, ⟨B3, (aR.Steps.flatMap enc_RouteStep)⟩] := hS44
                                    refine sq 15 rfl rfl (Y_assign (v := .int .i64 r_23) rfl rfl) ?_
                                    refine rw_nil ?_
                                    refine cw_seq ?_
                                    refine cw_seq ?_
                                    refine cw_region ?_
                                    refine sq 91 rfl rfl (Y_move (v := .int .i64 r_23) rfl rfl) ?_
                                    refine sq 92 rfl rfl (Y_lt (k := .i64) (a := r_23) (b := 0) rfl rfl rfl) ?_
                                    refine sq 93 rfl rfl (Y_move (v := .bool (decide (r_23 < 0))) rfl rfl) ?_
                                    refine sgq 94 (B := (!(decide (r_23 < 0)))) (v := .slice B13 r_12.length c13) rfl rfl (wt_f (gd_of (t := 93) (by kernel_rfl) rfl)) (fun hg3 => (Y_move (v := .slice B13 r_12.length c13) rfl rfl)) ?_
                                    refine sgq 95 (B := (!(decide (r_23 < 0)))) (v := .slice B8 r_7.length c8) rfl rfl (wt_f (gd_of (t := 93) (by kernel_rfl) rfl)) (fun hg4 => (Y_move (v := .slice B8 r_7.length c8) rfl rfl)) ?_
                                    obtain ⟨r_24, hc21, hF14⟩ := bind_inv hF14
                                    refine sgc 96 (B := (!(decide (r_23 < 0)))) (v := .bool r_24) (F := hS44.fn) rfl rfl (wt_f (gd_of (t := 93) (by kernel_rfl) rfl)) hS44 (fun hg5 => (Yc_func (g := 64) (vs := [.slice B13 r_12.length c13, .slice B8 r_7.length c8]) k_call_64 rfl (mc (gv_of (B := (!(decide (r_23 < 0)))) (v := .slice B13 r_12.length c13) hg5) (mc (gv_of (B := (!(decide (r_23 < 0)))) (v := .slice B8 r_7.length c8) hg5) mn)) (CV.mono (c_laws_eqIntS r_12 r_7 B13 c13 r_12.length B8 c8 r_7.length _ rfl rfl (hS44.inn0 [(false, 11), (false, 7)] rfl) (gb_inv hc21 hg5)) (by rintro _ _ ⟨rfl, h⟩; exact ⟨rfl, hS44.out00 h⟩)))) ?_
                                    rintro w_30 hS45
                                    have hS45 : ST _ _ w_30 _ _ := hS45
                                    refine sgq 97 (B := (!(decide (r_23 < 0)))) (v := .bool (!r_24)) rfl rfl (wt_f (gd_of (t := 93) (by kernel_rfl) rfl)) (fun hg6 => (Y_not (p := r_24) rfl (gv_of (B := (!(decide (r_23 < 0)))) (v := .bool r_24) hg6))) ?_
                                    refine sq 98 rfl rfl (Y_or (b := (decide (r_23 < 0))) (z := (!r_24)) rfl rfl rfl rfl) ?_
                                    refine sq 99 rfl rfl (Y_move (v := .bool ((decide (r_23 < 0)) || (!r_24))) rfl rfl) ?_
                                    refine sgq 100 (B := (!((decide (r_23 < 0)) || (!r_24)))) (v := .bool r_13) rfl rfl (wt_f (gd_of (t := 99) (by kernel_rfl) rfl)) (fun hg7 => (Y_move (v := .bool r_13) rfl rfl)) ?_
                                    refine sgq 101 (B := (!((decide (r_23 < 0)) || (!r_24)))) (v := .bool r_8) rfl rfl (wt_f (gd_of (t := 99) (by kernel_rfl) rfl)) (fun hg8 => (Y_move (v := .bool r_8) rfl rfl)) ?_
                                    refine sgq 102 (B := (!((decide (r_23 < 0)) || (!r_24)))) (v := .bool (!(r_13 == r_8))) rfl rfl (wt_f (gd_of (t := 99) (by kernel_rfl) rfl)) (fun hg9 => (Y_bne (p := r_13) (q := r_8) k_und_4 rfl (gv_of (B := (!((decide (r_23 < 0)) || (!r_24)))) (v := .bool r_13) hg9) (gv_of (B := (!((decide (r_23 < 0)) || (!r_24)))) (v := .bool r_8) hg9))) ?_
                                    refine sq 103 rfl rfl (Y_or (b := ((decide (r_23 < 0)) || (!r_24))) (z := (!(r_13 == r_8))) rfl rfl rfl rfl) ?_
                                    refine rw_nil ?_
                                    refine cw_cond (b := (((decide (r_23 < 0)) || (!r_24)) || (!(r_13 == r_8)))) rfl (fun hb7 => ?_) (fun hb7 => ?_)
                                    · skip
                                      have hF15 := ct hF14 hb7
                                      refine cw_seq ?_
                                      refine cw_region ?_
                                      refine sq 6 rfl rfl (Y_assign (v := .bool false) rfl rfl) ?_
                                      refine rw_nil ?_
                                      refine cw_ret ?_
                                      obtain rfl := some_inj hF15
                                      exact ret1 Try.results9 (v1 := .bool false) (resAt_tmp rfl) ⟨rfl, (ST.subR (R' := []) (hS45.sel [] rfl rfl) (fun _ h => by cases h))⟩
                                    · skip
                                      have hF16 := cf' hF14 hb7
                                      refine cw_skip ?_
                                      refine cw_seq ?_
                                      refine cw_region ?_
                                      refine sq 16 rfl rfl (Y_assign (v := .int .i64 1) rfl rfl) ?_
                                      refine rw_nil ?_
                                      refine cw_seq ?_
                                      refine cw_region ?_
                                      refine sq 104 rfl rfl (Y_move (v := .slice B13 r_12.length c13) rfl rfl) ?_
                                      refine sq 105 rfl rfl (Y_move (v := .int .i64 1) rfl rfl) ?_
                                      obtain ⟨⟨r_25, m4⟩, hc22, hF16⟩ := bind_inv hF16
                                      refine sc 106 rfl rfl (Yc_func (g := 68) (vs := [.slice B13 r_12.length c13, .int .i64 1]) k_call_68 rfl (mc rfl (mc rfl mn)) (c_laws_markIntS r_12 1 B13 c13 r_12.length _ rfl (hS45.inn [false, false, false, false, false, false, false, false, false, false, false, true, false, false, false, false, false, false, false, false] rfl [] rfl) hc22)) ?_
                                      rintro _ w_31 ⟨rfl, hl4, hd21⟩
                                      have hS46 := hS45.out [false, false, false, false, false, false, false, false, false, false, false, true, false, false, false, false, false, false, false, false] rfl hd21
                                      have hS46 : ST w0 [] _ [⟨some ⟨b, 0, none⟩, 86, [.int .i64 aG.Nodes, .slice B aG.Edges.length c], 2⟩, ⟨some ⟨b1, 0, none⟩, 89, [.int .i64 aC.Qubits, .slice B1 aC.Gates.length c1], 2⟩, ⟨some ⟨b2, 0, none⟩, 92, [.slice B2 aR.Start.length c2, .slice B3 aR.Steps.length c3], 2⟩, ⟨B4, 277, (r_4.Edges.flatMap enc_Edge), c4 * 2⟩, ⟨B5, 213, (r_5.Gates.flatMap enc_Gate), c5 * 3⟩, ⟨B6, 3, (r_6.Start.flatMap encI), c6 * 1⟩, ⟨B7, 211, (r_6.Steps.flatMap enc_RouteStep), c7 * 3⟩, ⟨B8, 3, (r_7.flatMap encI), c8 * 1⟩, ⟨some ⟨b3, 0, none⟩, 100, [.int .i64 r_9.Nodes, .slice B9 r_9.Edges.length c9], 2⟩, ⟨some ⟨b4, 0, none⟩, 104, [.int .i64 r_10.Qubits, .slice B10 r_10.Gates.length c10], 2⟩, ⟨some ⟨b5, 0, none⟩, 108, [.slice B11 r_11.Start.length c11, .slice B12 r_11.Steps.length c12], 2⟩, ⟨B14, 277, (r_15.Edges.flatMap enc_Edge), c14 * 2⟩, ⟨B15, 213, (r_17.Gates.flatMap enc_Gate), c15 * 3⟩, ⟨B16, 3, (r_19.Start.flatMap encI), c16 * 1⟩, ⟨B17, 211, (r_19.Steps.flatMap enc_RouteStep), c17 * 3⟩, ⟨B9, 277, (m.flatMap enc_Edge), c9 * 2⟩, ⟨B10, 213, (m1.flatMap enc_Gate), c10 * 3⟩, ⟨B11, 3, (m2.flatMap encI), c11 * 1⟩, ⟨B12, 211, (m3.flatMap enc_RouteStep), c12 * 3⟩, ⟨B13, 3, (m4.flatMap encI), c13 * 1⟩] [⟨B, (aG.Edges.flatMap enc_Edge)⟩, ⟨B1, (aC.Gates.flatMap enc_Gate)⟩, ⟨B2, (aR.Start.flatMap encI)⟩, ⟨B3, (aR.Steps.flatMap enc_RouteStep)⟩] := hS46
                                      refine sq 16 rfl rfl (Y_assign (v := .int .i64 r_25) rfl rfl) ?_
                                      refine rw_nil ?_
                                      refine cw_seq ?_
                                      refine cw_region ?_
                                      refine sq 17 rfl rfl (Y_assign (v := .int .i64 1) rfl rfl) ?_
                                      refine rw_nil ?_
                                      refine cw_seq ?_
                                      refine cw_region ?_
                                      refine sq 107 rfl rfl (Y_move (v := .slice B13 r_12.length c13) rfl rfl) ?_
                                      refine sq 108 rfl rfl (Y_move (v := .int .i64 1) rfl rfl) ?_
                                      obtain ⟨r_26, hc23, hF16⟩ := bind_inv hF16
                                      refine sc 109 rfl rfl (Yc_func (g := 69) (vs := [.slice B13 r_12.length c13, .int .i64 1]) k_call_69 rfl (mc rfl (mc rfl mn)) (c_laws_heldIntS m4 1 B13 c13 r_12.length _ hl4 (hS46.inn0 [(false, 19)] rfl) hc23)) ?_
                                      rintro _ w_32 ⟨rfl, hd22⟩
                                      have hS47 := hS46.out00 hd22
                                      have hS47 : ST w0 [] _ [⟨some ⟨b, 0, none⟩, 86, [.int .i64 aG.Nodes, .slice B aG.Edges.length c], 2⟩, ⟨some ⟨b1, 0, none⟩, 89, [.int .i64 aC.Qubits, .slice B1 aC.Gates.length c1], 2⟩, ⟨some ⟨b2, 0, none⟩, 92, [.slice B2 aR.Start.length c2, .slice B3 aR.Steps.length c3], 2⟩, ⟨B4, 277, (r_4.Edges.flatMap enc_Edge), c4 * 2⟩, ⟨B5, 213, (r_5.Gates.flatMap enc_Gate), c5 * 3⟩, ⟨B6, 3, (r_6.Start.flatMap encI), c6 * 1⟩, ⟨B7, 211, (r_6.Steps.flatMap enc_RouteStep), c7 * 3⟩, ⟨B8, 3, (r_7.flatMap encI), c8 * 1⟩, ⟨some ⟨b3, 0, none⟩, 100, [.int .i64 r_9.Nodes, .slice B9 r_9.Edges.length c9], 2⟩, ⟨some ⟨b4, 0, none⟩, 104, [.int .i64 r_10.Qubits, .slice B10 r_10.Gates.length c10], 2⟩, ⟨some ⟨b5, 0, none⟩, 108, [.slice B11 r_11.Start.length c11, .slice B12 r_11.Steps.length c12], 2⟩, ⟨B14, 277, (r_15.Edges.flatMap enc_Edge), c14 * 2⟩, ⟨B15, 213, (r_17.Gates.flatMap enc_Gate), c15 * 3⟩, ⟨B16, 3, (r_19.Start.flatMap encI), c16 * 1⟩, ⟨B17, 211, (r_19.Steps.flatMap enc_RouteStep), c17 * 3⟩, ⟨B9, 277, (m.flatMap enc_Edge), c9 * 2⟩, ⟨B10, 213, (m1.flatMap enc_Gate), c10 * 3⟩, ⟨B11, 3, (m2.flatMap encI), c11 * 1⟩, ⟨B12, 211, (m3.flatMap enc_RouteStep), c12 * 3⟩, ⟨B13, 3, (m4.flatMap encI), c13 * 1⟩] [⟨B, (aG.Edges.flatMap enc_Edge)⟩, ⟨B1, (aC.Gates.flatMap enc_Gate)⟩, ⟨B2, (aR.Start.flatMap encI)⟩, ⟨B3, (aR.Steps.flatMap enc_RouteStep)⟩] := hS47
                                      refine sq 17 rfl rfl (Y_assign (v := .int .i64 r_26) rfl rfl) ?_
                                      refine rw_nil ?_
                                      refine cw_seq ?_
                                      refine cw_seq ?_
                                      refine cw_region ?_
                                      refine sq 110 rfl rfl (Y_move (v := .int .i64 r_26) rfl rfl) ?_
                                      refine sq 111 rfl rfl (Y_lt (k := .i64) (a := r_26) (b := 0) rfl rfl rfl) ?_
                                      refine rw_nil ?_
                                      refine cw_cond (b := (decide (r_26 < 0))) rfl (fun hb8 => ?_) (fun hb8 => ?_)
                                      · skip
                                        have hF17 := ct hF16 hb8
                                        refine cw_seq ?_
                                        refine cw_region ?_
                                        refine sq 6 rfl rfl (Y_assign (v := .bool false) rfl rfl) ?_
                                        refine rw_nil ?_
                                        refine cw_ret ?_
                                        obtain rfl := some_inj hF17
                                        exact ret1 Try.results9 (v1 := .bool false) (resAt_tmp rfl) ⟨rfl, (ST.subR (R' := []) (hS47.sel [] rfl rfl) (fun _ h => by cases h))⟩
                                      · skip
                                        have hF18 := cf' hF16 hb8
                                        refine cw_skip ?_
                                        refine cw_seq ?_
                                        refine cw_seq ?_
                                        refine cw_region ?_
                                        refine sq 112 rfl rfl (Y_move (v := .int .i64 r_26) rfl rfl) ?_
                                        refine sq 113 rfl rfl (Y_move (v := .int .i64 r_25) rfl rfl) ?_
                                        refine sq 114 rfl rfl (Y_ne (k := .i64) (a := r_26) (b := r_25) rfl rfl rfl) ?_
                                        refine rw_nil ?_
                                        refine cw_cond (b := (r_26 != r_25)) rfl (fun hb9 => ?_) (fun hb9 => ?_)
                                        · skip
                                          have hF19 := ct hF18 hb9
                                          refine cw_seq ?_
                                          refine cw_region ?_
                                          refine sq 6 rfl rfl (Y_assign (v := .bool false) rfl rfl) ?_
                                          refine rw_nil ?_
                                          refine cw_ret ?_
                                          obtain rfl := some_inj hF19
                                          exact ret1 Try.results9 (v1 := .bool false) (resAt_tmp rfl) ⟨rfl, (ST.subR (R' := []) (hS47.sel [] rfl rfl) (fun _ h => by cases h))⟩
                                        · skip
                                          have hF20 := cf' hF18 hb9
                                          refine cw_skip ?_
                                          refine cw_seq ?_
                                          obtain ⟨r_27, hc24, hF20⟩ := bind_inv hF20
                                          obtain ⟨r_28, hc25, hF20⟩ := bind_inv hF20
                                          obtain ⟨r_29, hc26, hF20⟩ := bind_inv hF20
                                          obtain ⟨⟨r_30, r_31⟩, hc27, hF20⟩ := bind_inv hF20
                                          refine ra_start (ST.sel hS47 [0, 1, 2, 3, 4, 5, 6, 7, 8, 9, 10, 11, 12, 13, 14, 15, 16, 17, 18, 19] rfl rfl).fn (by kernel_rfl) ?_
                                          have hS52 := hS47.drew
                                          refine ra_q 0 116 (v := .agg #[.int .i64 aG.Nodes, .slice B aG.Edges.length c]) rfl rfl rfl (by kernel_rfl) (by kernel_rfl) (by kernel_rfl) (ST.sel hS52 [0, 1, 2, 3, 4, 5, 6, 7, 8, 9, 10, 11, 12, 13, 14, 15, 16, 17, 18, 19] rfl rfl) (fun w' hw' => (Y_loadA (B := some ⟨b, 0, none⟩) (i := 0) (cs := [.int .i64 aG.Nodes, .slice B aG.Edges.length c]) (vs := [.int .i64 aG.Nodes, .slice B aG.Edges.length c]) k_ag_86 k_sz_86_2 rfl rfl (ST.cf hw' (i := 0) rfl) rfl rfl)) ?_
                                          refine ra_q 2 118 (v := .agg #[.int .i64 aC.Qubits, .slice B1 aC.Gates.length c1]) rfl rfl rfl (by kernel_rfl) (by kernel_rfl) (by kernel_rfl) (ST.sel hS52 [0, 1, 2, 3, 4, 5, 6, 7, 8, 9, 10, 11, 12, 13, 14, 15, 16, 17, 18, 19] rfl rfl) (fun w' hw' => (Y_loadA (B := some ⟨b1, 0, none⟩) (i := 0) (cs := [.int .i64 aC.Qubits, .slice B1 aC.Gates.length c1]) (vs := [.int .i64 aC.Qubits, .slice B1 aC.Gates.length c1]) k_ag_89 k_sz_89_2 rfl rfl (ST.cf hw' (i := 1) rfl) rfl rfl)) ?_
                                          refine ra_q 4 120 (v := .agg #[.slice B2 aR.Start.length c2, .slice B3 aR.Steps.length c3]) rfl rfl rfl (by kernel_rfl) (by kernel_rfl) (by kernel_rfl) (ST.sel hS52 [0, 1, 2, 3, 4, 5, 6, 7, 8, 9, 10, 11, 12, 13, 14, 15, 16, 17, 18, 19] rfl rfl) (fun w' hw' => (Y_loadA (B := some ⟨b2, 0, none⟩) (i := 0) (cs := [.slice B2 aR.Start.length c2, .slice B3 aR.Steps.length c3]) (vs := [.slice B2 aR.Start.length c2, .slice B3 aR.Steps.length c3]) k_ag_92 k_sz_92_2 rfl rfl (ST.cf hw' (i := 2) rfl) rfl rfl)) ?_
                                          refine ra_all (rs := [1]) (by kernel_rfl) rfl ?_
                                          refine ra_c 117 (i := 1) rfl rfl rfl (Yc_func (g := 55) (vs := [.agg #[.int .i64 aG.Nodes, .slice B aG.Edges.length c]]) k_call_55 rfl (mc rfl mn) (c_laws_toCouplingGraph aG B c aG.Edges.length _ rfl (hS52.inn0 [(true, 0)] rfl) hc24)) ?_ ?_
                                          · rintro _ w_33 ⟨B18, c18, rfl, hd23⟩
                                            have hS53 := hS52.out0 hd23
                                            have hS53 : ST w0 [] _ [⟨some ⟨b, 0, none⟩, 86, [.int .i64 aG.Nodes, .slice B aG.Edges.length c], 2⟩, ⟨some ⟨b1, 0, none⟩, 89, [.int .i64 aC.Qubits, .slice B1 aC.Gates.length c1], 2⟩, ⟨some ⟨b2, 0, none⟩, 92, [.slice B2 aR.Start.length c2, .slice B3 aR.Steps.length c3], 2⟩, ⟨B4, 277, (r_4.Edges.flatMap enc_Edge), c4 * 2⟩, ⟨B5, 213, (r_5.Gates.flatMap enc_Gate), c5 * 3⟩, ⟨B6, 3, (r_6.Start.flatMap encI), c6 * 1⟩, ⟨B7, 211, (r_6.Steps.flatMap enc_RouteStep), c7 * 3⟩, ⟨B8, 3, (r_7.flatMap encI), c8 * 1⟩, ⟨some ⟨b3, 0, none⟩, 100, [.int .i64 r_9.Nodes, .slice B9 r_9.Edges.length c9], 2⟩, ⟨some ⟨b4, 0, none⟩, 104, [.int .i64 r_10.Qubits, .slice B10 r_10.Gates.length c10], 2⟩, ⟨some ⟨b5, 0, none⟩, 108, [.slice B11 r_11.Start.length c11, .slice B12 r_11.Steps.length c12], 2⟩, ⟨B14, 277, (r_15.Edges.flatMap enc_Edge), c14 * 2⟩, ⟨B15, 213, (r_17.Gates.flatMap enc_Gate), c15 * 3⟩, ⟨B16, 3, (r_19.Start.flatMap encI), c16 * 1⟩, ⟨B17, 211, (r_19.Steps.flatMap enc_RouteStep), c17 * 3⟩, ⟨B9, 277, (m.flatMap enc_Edge), c9 * 2⟩, ⟨B10, 213, (m1.flatMap enc_Gate), c10 * 3⟩, ⟨B11, 3, (m2.flatMap encI), c11 * 1⟩, ⟨B12, 211, (m3.flatMap enc_RouteStep), c12 * 3⟩, ⟨B13, 3, (m4.flatMap encI), c13 * 1⟩, ⟨B18, 277, (r_27.Edges.flatMap enc_Edge), c18 * 2⟩] [⟨B, (aG.Edges.flatMap enc_Edge)⟩, ⟨B1, (aC.Gates.flatMap enc_Gate)⟩, ⟨B2, (aR.Start.flatMap encI)⟩, ⟨B3, (aR.Steps.flatMap enc_RouteStep)⟩] := hS53
                                            refine ⟨(ST.sel hS53 [0, 1, 2, 3, 4, 5, 6, 7, 8, 9, 10, 11, 12, 13, 14, 15, 16, 17, 18, 19] rfl rfl), ?_⟩
                                            refine ra_all (rs := [3]) (by kernel_rfl) rfl ?_
                                            refine ra_c 119 (i := 3) rfl rfl rfl (Yc_func (g := 56) (vs := [.agg #[.int .i64 aC.Qubits, .slice B1 aC.Gates.length c1]]) k_call_56 rfl (mc rfl mn) (c_laws_toCircuit aC B1 c1 aC.Gates.length _ rfl (hS53.inn0 [(true, 1)] rfl) hc25)) ?_ ?_
                                            · rintro _ w_34 ⟨B19, c19, rfl, hd24⟩
                                              have hS54 := hS53.out0 hd24
                                              have hS54 : ST w0 [] _ [⟨some ⟨b, 0, none⟩, 86, [.int .i64 aG.Nodes, .slice B aG.Edges.length c], 2⟩, ⟨some ⟨b1, 0, none⟩, 89, [.int .i64 aC.Qubits, .slice B1 aC.Gates.length c1], 2⟩, ⟨some ⟨b2, 0, none⟩, 92, [.slice B2 aR.Start.length c2, .slice B3 aR.Steps.length c3], 2⟩, ⟨B4, 277, (r_4.Edges.flatMap enc_Edge), c4 * 2⟩, ⟨B5, 213, (r_5.Gates.flatMap enc_Gate), c5 * 3⟩, ⟨B6, 3, (r_6.Start.flatMap encI), c6 * 1⟩, ⟨B7, 211, (r_6.Steps.flatMap enc_RouteStep), c7 * 3⟩, ⟨B8, 3, (r_7.flatMap encI), c8 * 1⟩, ⟨some ⟨b3, 0, none⟩, 100, [.int .i64 r_9.Nodes, .slice B9 r_9.Edges.length c9], 2⟩, ⟨some ⟨b4, 0, none⟩, 104, [.int .i64 r_10.Qubits, .slice B10 r_10.Gates.length c10], 2⟩, ⟨some ⟨b5, 0, none⟩, 108, [.slice B11 r_11.Start.length c11, .slice B12 r_11.Steps.length c12], 2⟩, ⟨B14, 277, (r_15.Edges.flatMap enc_Edge), c14 * 2⟩, ⟨B15, 213, (r_17.Gates.flatMap enc_Gate), c15 * 3⟩, ⟨B16, 3, (r_19.Start.flatMap encI), c16 * 1⟩, ⟨B17, 211, (r_19.Steps.flatMap enc_RouteStep), c17 * 3⟩, ⟨B9, 277, (m.flatMap enc_Edge), c9 * 2⟩, ⟨B10, 213, (m1.flatMap enc_Gate), c10 * 3⟩, ⟨B11, 3, (m2.flatMap encI), c11 * 1⟩, ⟨B12, 211, (m3.flatMap enc_RouteStep), c12 * 3⟩, ⟨B13, 3, (m4.flatMap encI), c13 * 1⟩, ⟨B18, 277, (r_27.Edges.flatMap enc_Edge), c18 * 2⟩, ⟨B19, 213, (r_28.Gates.flatMap enc_Gate), c19 * 3⟩] [⟨B, (aG.Edges.flatMap enc_Edge)⟩, ⟨B1, (aC.Gates.flatMap enc_Gate)⟩, ⟨B2, (aR.Start.flatMap encI)⟩, ⟨B3, (aR.Steps.flatMap enc_RouteStep)⟩] := hS54
                                              refine ⟨(ST.sel hS54 [0, 1, 2, 3, 4, 5, 6, 7, 8, 9, 10, 11, 12, 13, 14, 15, 16, 17, 18, 19] rfl rfl), ?_⟩
                                              refine ra_all (rs := [5]) (by kernel_rfl) rfl ?_
                                              refine ra_c 121 (i := 5) rfl rfl rfl (Yc_func (g := 57) (vs := [.agg #[.slice B2 aR.Start.length c2, .slice B3 aR.Steps.length c3]]) k_call_57 rfl (mc rfl mn) (c_laws_toRoute aR B2 c2 aR.Start.length B3 c3 aR.Steps.length _ rfl rfl (hS54.inn0 [(true, 2), (true, 3)] rfl) hc26)) ?_ ?_
                                              · rintro _ w_35 ⟨B20, c20, B21, c21, rfl, hd25⟩
                                                have hS55 := hS54.out0 hd25
                                                have hS55 : ST w0 [] _ [⟨some ⟨b, 0, none⟩, 86, [.int .i64 aG.Nodes, .slice B aG.Edges.length c], 2⟩, ⟨some ⟨b1, 0, none⟩, 89, [.int .i64 aC.Qubits, .slice B1 aC.Gates.length c1], 2⟩, ⟨some ⟨b2, 0, none⟩, 92, [.slice B2 aR.Start.length c2, .slice B3 aR.Steps.length c3], 2⟩, ⟨B4, 277, (r_4.Edges.flatMap enc_Edge), c4 * 2⟩, ⟨B5, 213, (r_5.Gates.flatMap enc_Gate), c5 * 3⟩, ⟨B6, 3, (r_6.Start.flatMap encI), c6 * 1⟩, ⟨B7, 211, (r_6.Steps.flatMap enc_RouteStep), c7 * 3⟩, ⟨B8, 3, (r_7.flatMap encI), c8 * 1⟩, ⟨some ⟨b3, 0, none⟩, 100, [.int .i64 r_9.Nodes, .slice B9 r_9.Edges.length c9], 2⟩, ⟨some ⟨b4, 0, none⟩, 104, [.int .i64 r_10.Qubits, .slice B10 r_10.Gates.length c10], 2⟩, ⟨some ⟨b5, 0, none⟩, 108, [.slice B11 r_11.Start.length c11, .slice B12 r_11.Steps.length c12], 2⟩, ⟨B14, 277, (r_15.Edges.flatMap enc_Edge), c14 * 2⟩, ⟨B15, 213, (r_17.Gates.flatMap enc_Gate), c15 * 3⟩, ⟨B16, 3, (r_19.Start.flatMap encI), c16 * 1⟩, ⟨B17, 211, (r_19.Steps.flatMap enc_RouteStep), c17 * 3⟩, ⟨B9, 277, (m.flatMap enc_Edge), c9 * 2⟩, ⟨B10, 213, (m1.flatMap enc_Gate), c10 * 3⟩, ⟨B11, 3, (m2.flatMap encI), c11 * 1⟩, ⟨B12, 211, (m3.flatMap enc_RouteStep), c12 * 3⟩, ⟨B13, 3, (m4.flatMap encI), c13 * 1⟩, ⟨B18, 277, (r_27.Edges.flatMap enc_Edge), c18 * 2⟩, ⟨B19, 213, (r_28.Gates.flatMap enc_Gate), c19 * 3⟩, ⟨B20, 3, (r_29.Start.flatMap encI), c20 * 1⟩, ⟨B21, 211, (r_29.Steps.flatMap enc_RouteStep), c21 * 3⟩] [⟨B, (aG.Edges.flatMap enc_Edge)⟩, ⟨B1, (aC.Gates.flatMap enc_Gate)⟩, ⟨B2, (aR.Start.flatMap encI)⟩, ⟨B3, (aR.Steps.flatMap enc_RouteStep)⟩] := hS55
                                                refine ⟨(ST.sel hS55 [0, 1, 2, 3, 4, 5, 6, 7, 8, 9, 10, 11, 12, 13, 14, 15, 16, 17, 18, 19] rfl rfl), ?_⟩
                                                refine ra_all (rs := [6]) (by kernel_rfl) rfl ?_
                                                refine ra_c 122 (i := 6) rfl rfl rfl (Yc_func (g := 63) (vs := [.agg #[.int .i64 r_27.Nodes, .slice B18 r_27.Edges.length c18], .agg #[.int .i64 r_28.Qubits, .slice B19 r_28.Gates.length c19], .agg #[.slice B20 r_29.Start.length c20, .slice B21 r_29.Steps.length c21]]) k_call_63 rfl (mc rfl (mc rfl (mc rfl mn))) (c_impl_FinalPlacement r_27 r_28 r_29 B18 c18 r_27.Edges.length B19 c19 r_28.Gates.length B20 c20 r_29.Start.length B21 c21 r_29.Steps.length _ rfl (hS55.lencap (i := 20) rfl (fm_lenn (l := r_27.Edges) enc_Edge_len rfl) rfl rfl) rfl (hS55.lencap (i := 21) rfl (fm_lenn (l := r_28.Gates) enc_Gate_len rfl) rfl rfl) rfl (hS55.lencap (i := 22) rfl (fm_lenn (l := r_29.Start) encI_len rfl) rfl rfl) rfl (hS55.inn0 [(false, 20), (false, 21), (false, 22), (false, 23)] rfl) hc27)) ?_ ?_
                                                · rintro _ w_36 ⟨B22, c22, rfl, hd26⟩
                                                  have hS56 := hS55.out0 hd26
                                                  have hS56 : ST w0 [] _ [⟨some ⟨b, 0, none⟩, 86, [.int .i64 aG.Nodes, .slice B aG.Edges.length c], 2⟩, ⟨some ⟨b1, 0, none⟩, 89, [.int .i64 aC.Qubits, .slice B1 aC.Gates.length c1], 2⟩, ⟨some ⟨b2, 0, none⟩, 92, [.slice B2 aR.Start.length c2, .slice B3 aR.Steps.length c3], 2⟩, ⟨B4, 277, (r_4.Edges.flatMap enc_Edge), c4 * 2⟩, ⟨B5, 213, (r_5.Gates.flatMap enc_Gate), c5 * 3⟩, ⟨B6, 3, (r_6.Start.flatMap encI), c6 * 1⟩, ⟨B7, 211, (r_6.Steps.flatMap enc_RouteStep), c7 * 3⟩, ⟨B8, 3, (r_7.flatMap encI), c8 * 1⟩, ⟨some ⟨b3, 0, none⟩, 100, [.int .i64 r_9.Nodes, .slice B9 r_9.Edges.length c9], 2⟩, ⟨some ⟨b4, 0, none⟩, 104, [.int .i64 r_10.Qubits, .slice B10 r_10.Gates.length c10], 2⟩, ⟨some ⟨b5, 0, none⟩, 108, [.slice B11 r_11.Start.length c11, .slice B12 r_11.Steps.length c12], 2⟩, ⟨B14, 277, (r_15.Edges.flatMap enc_Edge), c14 * 2⟩, ⟨B15, 213, (r_17.Gates.flatMap enc_Gate), c15 * 3⟩, ⟨B16, 3, (r_19.Start.flatMap encI), c16 * 1⟩, ⟨B17, 211, (r_19.Steps.flatMap enc_RouteStep), c17 * 3⟩, ⟨B9, 277, (m.flatMap enc_Edge), c9 * 2⟩, ⟨B10, 213, (m1.flatMap enc_Gate), c10 * 3⟩, ⟨B11, 3, (m2.flatMap encI), c11 * 1⟩, ⟨B12, 211, (m3.flatMap enc_RouteStep), c12 * 3⟩, ⟨B13, 3, (m4.flatMap encI), c13 * 1⟩, ⟨B18, 277, (r_27.Edges.flatMap enc_Edge), c18 * 2⟩, ⟨B19, 213, (r_28.Gates.flatMap enc_Gate), c19 * 3⟩, ⟨B20, 3, (r_29.Start.flatMap encI), c20 * 1⟩, ⟨B21, 211, (r_29.Steps.flatMap enc_RouteStep), c21 * 3⟩, ⟨B22, 3, (r_30.flatMap encI), c22 * 1⟩] [⟨B, (aG.Edges.flatMap enc_Edge)⟩, ⟨B1, (aC.Gates.flatMap enc_Gate)⟩, ⟨B2, (aR.Start.flatMap encI)⟩, ⟨B3, (aR.Steps.flatMap enc_RouteStep)⟩] := hS56
                                                  refine ⟨(ST.sel hS56 [0, 1, 2, 3, 4, 5, 6, 7, 8, 9, 10, 11, 12, 13, 14, 15, 16, 17, 18, 19] rfl rfl), ?_⟩
                                                  refine ra_q 7 115 (v := .tuple #[.slice B22 r_30.length c22, .bool r_31]) rfl rfl rfl (by kernel_rfl) (by kernel_rfl) (by kernel_rfl) (ST.sel hS56 [0, 1, 2, 3, 4, 5, 6, 7, 8, 9, 10, 11, 12, 13, 14, 15, 16, 17, 18, 19] rfl rfl) (fun w' hw' => (Y_move (v := .tuple #[.slice B22 r_30.length c22, .bool r_31]) rfl rfl)) ?_
                                                  refine ra_q 8 123 (v := .slice B22 r_30.length c22) rfl rfl rfl (by kernel_rfl) (by kernel_rfl) (by kernel_rfl) (ST.sel hS56 [0, 1, 2, 3, 4, 5, 6, 7, 8, 9, 10, 11, 12, 13, 14, 15, 16, 17, 18, 19] rfl rfl) (fun w' hw' => (Y_extract (v := .slice B22 r_30.length c22) rfl rfl rfl)) ?_
                                                  refine ra_q 9 124 (v := .bool r_31) rfl rfl rfl (by kernel_rfl) (by kernel_rfl) (by kernel_rfl) (ST.sel hS56 [0, 1, 2, 3, 4, 5, 6, 7, 8, 9, 10, 11, 12, 13, 14, 15, 16, 17, 18, 19] rfl rfl) (fun w' hw' => (Y_extract (v := .bool r_31) rfl rfl rfl)) ?_
                                                  refine ra_q 10 18 (v := .slice B22 r_30.length c22) rfl rfl rfl (by kernel_rfl) (by kernel_rfl) (by kernel_rfl) (ST.sel hS56 [0, 1, 2, 3, 4, 5, 6, 7, 8, 9, 10, 11, 12, 13, 14, 15, 16, 17, 18, 19] rfl rfl) (fun w' hw' => (Y_assign (v := .slice B22 r_30.length c22) rfl rfl)) ?_
                                                  refine ra_q 11 19 (v := .bool r_31) rfl rfl rfl (by kernel_rfl) (by kernel_rfl) (by kernel_rfl) (ST.sel hS56 [0, 1, 2, 3, 4, 5, 6, 7, 8, 9, 10, 11, 12, 13, 14, 15, 16, 17, 18, 19] rfl rfl) (fun w' hw' => (Y_assign (v := .bool r_31) rfl rfl)) ?_
                                                  refine ra_done (by kernel_rfl) ?_
                                                  refine cw_seq ?_
                                                  refine cw_seq ?_
                                                  refine cw_region ?_
                                                  refine sq 125 rfl rfl (Y_move (v := .slice B22 r_30.length c22) rfl rfl) ?_
                                                  refine sq 126 rfl rfl (Y_move (v := .slice B8 r_7.length c8) rfl rfl) ?_
                                                  obtain ⟨r_32, hc28, hF20⟩ := bind_inv hF20
                                                  refine sc 127 rfl rfl (Yc_func (g := 64) (vs := [.slice B22 r_30.length c22, .slice B8 r_7.length c8]) k_call_64 rfl (mc rfl (mc rfl mn)) (c_laws_eqIntS r_30 r_7 B22 c22 r_30.length B8 c8 r_7.length _ rfl rfl (hS56.inn0 [(false, 24), (false, 7)] rfl) hc28)) ?_
                                                  rintro _ w_37 ⟨rfl, hd27⟩
                                                  have hS57 := hS56.out00 hd27
                                                  have hS57 : ST w0 [] _ [⟨some ⟨b, 0, none⟩, 86, [.int .i64 aG.Nodes, .slice B aG.Edges.length c], 2⟩, ⟨some ⟨b1, 0, none⟩, 89, [.int .i64 aC.Qubits, .slice B1 aC.Gates.length c1], 2⟩, ⟨some ⟨b2, 0, none⟩, 92, [.slice B2 aR.Start.length c2, .slice B3 aR.Steps.length c3], 2⟩, ⟨B4, 277, (r_4.Edges.flatMap enc_Edge), c4 * 2⟩, ⟨B5, 213, (r_5.Gates.flatMap enc_Gate), c5 * 3⟩, ⟨B6, 3, (r_6.Start.flatMap encI), c6 * 1⟩, ⟨B7, 211, (r_6.Steps.flatMap enc_RouteStep), c7 * 3⟩, ⟨B8, 3, (r_7.flatMap encI), c8 * 1⟩, ⟨some ⟨b3, 0, none⟩, 100, [.int .i64 r_9.Nodes, .slice B9 r_9.Edges.length c9], 2⟩, ⟨some ⟨b4, 0, none⟩, 104, [.int .i64 r_10.Qubits, .slice B10 r_10.Gates.length c10], 2⟩, ⟨some ⟨b5, 0, none⟩, 108, [.slice B11 r_11.Start.length c11, .slice B12 r_11.Steps.length c12], 2⟩, ⟨B14, 277, (r_15.Edges.flatMap enc_Edge), c14 * 2⟩, ⟨B15, 213, (r_17.Gates.flatMap enc_Gate), c15 * 3⟩, ⟨B16, 3, (r_19.Start.flatMap encI), c16 * 1⟩, ⟨B17, 211, (r_19.Steps.flatMap enc_RouteStep), c17 * 3⟩, ⟨B9, 277, (m.flatMap enc_Edge), c9 * 2⟩, ⟨B10, 213, (m1.flatMap enc_Gate), c10 * 3⟩, ⟨B11, 3, (m2.flatMap encI), c11 * 1⟩, ⟨B12, 211, (m3.flatMap enc_RouteStep), c12 * 3⟩, ⟨B13, 3, (m4.flatMap encI), c13 * 1⟩, ⟨B18, 277, (r_27.Edges.flatMap enc_Edge), c18 * 2⟩, ⟨B19, 213, (r_28.Gates.flatMap enc_Gate), c19 * 3⟩, ⟨B20, 3, (r_29.Start.flatMap encI), c20 * 1⟩, ⟨B21, 211, (r_29.Steps.flatMap enc_RouteStep), c21 * 3⟩, ⟨B22, 3, (r_30.flatMap encI), c22 * 1⟩] [⟨B, (aG.Edges.flatMap enc_Edge)⟩, ⟨B1, (aC.Gates.flatMap enc_Gate)⟩, ⟨B2, (aR.Start.flatMap encI)⟩, ⟨B3, (aR.Steps.flatMap enc_RouteStep)⟩] := hS57
                                                  refine sq 128 rfl rfl (Y_not (p := r_32) rfl rfl) ?_
                                                  refine sq 129 rfl rfl (Y_move (v := .bool (!r_32)) rfl rfl) ?_
                                                  refine sgq 130 (B := (!(!r_32))) (v := .bool r_31) rfl rfl (wt_f (gd_of (t := 129) (by kernel_rfl) rfl)) (fun hg10 => (Y_move (v := .bool r_31) rfl rfl)) ?_
                                                  refine sgq 131 (B := (!(!r_32))) (v := .bool r_8) rfl rfl (wt_f (gd_of (t := 129) (by kernel_rfl) rfl)) (fun hg11 => (Y_move (v := .bool r_8) rfl rfl)) ?_
                                                  refine sgq 132 (B := (!(!r_32))) (v := .bool (!(r_31 == r_8))) rfl rfl (wt_f (gd_of (t := 129) (by kernel_rfl) rfl)) (fun hg12 => (Y_bne (p := r_31) (q := r_8) k_und_4 rfl (gv_of (B := (!(!r_32))) (v := .bool r_31) hg12) (gv_of (B := (!(!r_32))) (v := .bool r_8) hg12))) ?_
                                                  refine sq 133 rfl rfl (Y_or (b := (!r_32)) (z := (!(r_31 == r_8))) rfl rfl rfl rfl) ?_
                                                  refine rw_nil ?_
                                                  refine cw_cond (b := ((!r_32) || (!(r_31 == r_8)))) rfl (fun hb10 => ?_) (fun hb10 => ?_)
                                                  · skip
                                                    have hF21 := ct hF20 hb10
                                                    refine cw_seq ?_
                                                    refine cw_region ?_
                                                    refine sq 6 rfl rfl (Y_assign (v := .bool false) rfl rfl) ?_
                                                    refine rw_nil ?_
                                                    refine cw_ret ?_
                                                    obtain rfl := some_inj hF21
                                                    exact ret1 Try.results9 (v1 := .bool false) (resAt_tmp rfl) ⟨rfl, (ST.subR (R' := []) (hS57.sel [] rfl rfl) (fun _ h => by cases h))⟩
                                                  · skip
                                                    have hF22 := cf' hF20 hb10
                                                    refine cw_skip ?_
                                                    refine cw_seq ?_
                                                    refine cw_region ?_
                                                    refine sq 17 rfl rfl (Y_assign (v := .int .i64 1) rfl rfl) ?_
                                                    refine rw_nil ?_
                                                    refine cw_seq ?_
                                                    refine cw_region ?_
                                                    refine sq 134 rfl rfl (Y_move (v := .slice B13 r_12.length c13) rfl rfl) ?_
                                                    refine sq 135 rfl rfl (Y_move (v := .int .i64 1) rfl rfl) ?_
                                                    obtain ⟨r_33, hc29, hF22⟩ := bind_inv hF22
                                                    refine sc 136 rfl rfl (Yc_func (g := 69) (vs := [.slice B13 r_12.length c13, .int .i64 1]) k_call_69 rfl (mc rfl (mc rfl mn)) (c_laws_heldIntS m4 1 B13 c13 r_12.length _ hl4 (hS57.inn0 [(false, 19)] rfl) hc29)) ?_
                                                    rintro _ w_38 ⟨rfl, hd28⟩
                                                    have hS58 := hS57.out00 hd28
                                                    have hS58 : ST w0 [] _ [⟨some ⟨b, 0, none⟩, 86, [.int .i64 aG.Nodes, .slice B aG.Edges.length c], 2⟩, ⟨some ⟨b1, 0, none⟩, 89, [.int .i64 aC.Qubits, .slice B1 aC.Gates.length c1], 2⟩, ⟨some ⟨b2, 0, none⟩, 92, [.slice B2 aR.Start.length c2, .slice B3 aR.Steps.length c3], 2⟩, ⟨B4, 277, (r_4.Edges.flatMap enc_Edge), c4 * 2⟩, ⟨B5, 213, (r_5.Gates.flatMap enc_Gate), c5 * 3⟩, ⟨B6, 3, (r_6.Start.flatMap encI), c6 * 1⟩, ⟨B7, 211, (r_6.Steps.flatMap enc_RouteStep), c7 * 3⟩, ⟨B8, 3, (r_7.flatMap encI), c8 * 1⟩, ⟨some ⟨b3, 0, none⟩, 100, [.int .i64 r_9.Nodes, .slice B9 r_9.Edges.length c9], 2⟩, ⟨some ⟨b4, 0, none⟩, 104, [.int .i64 r_10.Qubits, .slice B10 r_10.Gates.length c10], 2⟩, ⟨some ⟨b5, 0, none⟩, 108, [.slice B11 r_11.Start.length c11, .slice B12 r_11.Steps.length c12], 2⟩, ⟨B14, 277, (r_15.Edges.flatMap enc_Edge), c14 * 2⟩, ⟨B15, 213, (r_17.Gates.flatMap enc_Gate), c15 * 3⟩, ⟨B16, 3, (r_19.Start.flatMap encI), c16 * 1⟩, ⟨B17, 211, (r_19.Steps.flatMap enc_RouteStep), c17 * 3⟩, ⟨B9, 277, (m.flatMap enc_Edge), c9 * 2⟩, ⟨B10, 213, (m1.flatMap enc_Gate), c10 * 3⟩, ⟨B11, 3, (m2.flatMap encI), c11 * 1⟩, ⟨B12, 211, (m3.flatMap enc_RouteStep), c12 * 3⟩, ⟨B13, 3, (m4.flatMap encI), c13 * 1⟩, ⟨B18, 277, (r_27.Edges.flatMap enc_Edge), c18 * 2⟩, ⟨B19, 213, (r_28.Gates.flatMap enc_Gate), c19 * 3⟩, ⟨B20, 3, (r_29.Start.flatMap encI), c20 * 1⟩, ⟨B21, 211, (r_29.Steps.flatMap enc_RouteStep), c21 * 3⟩, ⟨B22, 3, (r_30.flatMap encI), c22 * 1⟩] [⟨B, (aG.Edges.flatMap enc_Edge)⟩, ⟨B1, (aC.Gates.flatMap enc_Gate)⟩, ⟨B2, (aR.Start.flatMap encI)⟩, ⟨B3, (aR.Steps.flatMap enc_RouteStep)⟩] := hS58
                                                    refine sq 17 rfl rfl (Y_assign (v := .int .i64 r_33) rfl rfl) ?_
                                                    refine rw_nil ?_
                                                    refine cw_seq ?_
                                                    refine cw_seq ?_
                                                    refine cw_region ?_
                                                    refine sq 137 rfl rfl (Y_move (v := .int .i64 r_33) rfl rfl) ?_
                                                    refine sq 138 rfl rfl (Y_lt (k := .i64) (a := r_33) (b := 0) rfl rfl rfl) ?_
                                                    refine rw_nil ?_
                                                    refine cw_cond (b := (decide (r_33 < 0))) rfl (fun hb11 => ?_) (fun hb11 => ?_)
                                                    · skip
                                                      have hF23 := ct hF22 hb11
                                                      refine cw_seq ?_
                                                      refine cw_region ?_
                                                      refine sq 6 rfl rfl (Y_assign (v := .bool false) rfl rfl) ?_
                                                      refine rw_nil ?_
                                                      refine cw_ret ?_
                                                      obtain rfl := some_inj hF23
                                                      exact ret1 Try.results9 (v1 := .bool false) (resAt_tmp rfl) ⟨rfl, (ST.subR (R' := []) (hS58.sel [] rfl rfl) (fun _ h => by cases h))⟩
                                                    · skip
                                                      have hF24 := cf' hF22 hb11
                                                      refine cw_skip ?_
                                                      refine cw_seq ?_
                                                      refine cw_seq ?_
                                                      refine cw_region ?_
                                                      refine sq 139 rfl rfl (Y_move (v := .int .i64 r_33) rfl rfl) ?_
                                                      refine sq 140 rfl rfl (Y_move (v := .int .i64 r_25) rfl rfl) ?_
                                                      refine sq 141 rfl rfl (Y_ne (k := .i64) (a := r_33) (b := r_25) rfl rfl rfl) ?_
                                                      refine rw_nil ?_
                                                      refine cw_cond (b := (r_33 != r_25)) rfl (fun hb12 => ?_) (fun hb12 => ?_)
                                                      · skip
                                                        have hF25 := ct hF24 hb12
                                                        refine cw_seq ?_
                                                        refine cw_region ?_
                                                        refine sq 6 rfl rfl (Y_assign (v := .bool false) rfl rfl) ?_
                                                        refine rw_nil ?_
                                                        refine cw_ret ?_
                                                        obtain rfl := some_inj hF25
                                                        exact ret1 Try.results9 (v1 := .bool false) (resAt_tmp rfl) ⟨rfl, (ST.subR (R' := []) (hS58.sel [] rfl rfl) (fun _ h => by cases h))⟩
                                                      · skip
                                                        have hF26 := cf' hF24 hb12
                                                        refine cw_skip ?_
                                                        refine cw_seq ?_
                                                        refine cw_region ?_
                                                        refine sq 6 rfl rfl (Y_assign (v := .bool true) rfl rfl) ?_
                                                        refine rw_nil ?_
                                                        refine cw_ret ?_
                                                        obtain rfl := some_inj hF26
                                                        exact ret1 Try.results9 (v1 := .bool true) (resAt_tmp rfl) ⟨rfl, (ST.subR (R' := []) (hS58.sel [] rfl rfl) (fun _ h => by cases h))⟩
                                                exact allR_nil
                                              exact allR_nil
                                            exact allR_nil
                                          exact allR_nil
                                exact allR_nil
                              exact allR_nil
                          exact allR_nil
                        exact allR_nil
                    exact allR_nil
                  exact allR_nil
              exact allR_nil
            exact allR_nil
          exact allR_nil
        exact allR_nil
end Go.VK
