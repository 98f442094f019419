/- Walks: each Go function returns what its Lean function says. By program. -/
import Derived.Test.YtoladcammhboiaaCheckRouteFa
import Derived.Test.YtoladcammhboiaaCheckRouteW2
set_option linter.unusedVariables false
set_option maxRecDepth 100000
set_option maxHeartbeats 1000000
namespace Go.VK
open Go.RowKit
open Go.Proofs
attribute [local irreducible] CW RW RA CV Y Yw Yc Ys RetOf
attribute [local irreducible] F_laws_szEdgeS F_laws_szCouplingGraph F_laws_szGateS F_laws_szCircuit F_laws_szIntS F_laws_szRouteStepS F_laws_szRoute F_spec_l1In F_spec_l22Valid F_spec_l4Gate F_spec_l4Good F_spec_l23Fits F_spec_l1Own F_spec_l23Swap F_spec_l1Has F_spec_l23Placement F_spec_l22Edge F_spec_l22Two F_spec_l23Qubits F_spec_l23Ready F_spec_l23Near F_spec_l23Play F_spec_CheckRoute F_laws_toEdge F_laws_toEdgeS F_laws_toCouplingGraph F_laws_toGate F_laws_toGateS F_laws_toCircuit F_laws_toIntS F_laws_toRouteStep F_laws_toRouteStepS F_laws_toRoute F_impl_within F_impl_areEdges F_impl_IsValidCouplingGraph F_slices_IndexFunc_impl_Gate_impl_Gate F_slices_ContainsFunc_impl_Gate_impl_Gate F_impl_isTwo F_impl_IsValidGate F_impl_IsValidCircuit_1 F_impl_IsValidCircuit F_impl_canRoute F_slices_Clone_int_int F_impl_newRouting F_slices_Index_impl_Edge_impl_Edge F_slices_Contains_impl_Edge_impl_Edge F_impl_CouplingGraph_joins F_impl_routing_swap F_slices_IndexFunc_int_int F_slices_ContainsFunc_int_int F_impl_qubitsOf F_slices_Index_int_int F_slices_Contains_int_int F_impl_meet_1 F_impl_meet F_impl_routing_isReady F_impl_routing_fits F_impl_routing_step F_impl_CouplingGraph_isPlacement F_slices_Index_bool_bool F_slices_Contains_bool_bool F_impl_check F_impl_CheckRoute F_laws_eqEdge F_laws_eqEdgeS F_laws_eqCouplingGraph F_laws_eqGate F_laws_eqGateS F_laws_eqCircuit F_laws_eqIntS F_laws_eqRouteStep F_laws_eqRouteStepS F_laws_eqRoute F_laws_FnExactCheckRoute
theorem c_impl_check (g : TCouplingGraph) (c1 : TCircuit) (route : TRoute) (B : Option Addr) (c n : Nat) (B1 : Option Addr) (c2 n1 : Nat) (B2 : Option Addr) (c3 n2 : Nat) (B3 : Option Addr) (c4 n3 : Nat) (w0 : World) (hn : g.Edges.length = n) (hq : n ≤ c) (hn1 : c1.Gates.length = n1) (hq1 : n1 ≤ c2) (hn2 : route.Start.length = n2) (hq2 : n2 ≤ c3) (hn3 : route.Steps.length = n3) (hS : ST w0 [] w0 [] [⟨B, (g.Edges.flatMap enc_Edge)⟩, ⟨B1, (c1.Gates.flatMap enc_Gate)⟩, ⟨B2, (route.Start.flatMap encI)⟩, ⟨B3, (route.Steps.flatMap enc_RouteStep)⟩]) {r_ : Int} {r_1 : Int} {r_2 : Trouting} (hF : F_impl_check g c1 route = some (r_, r_1, r_2)) :
    CV Try.prog 155 #[.agg #[.int .i64 g.Nodes, .slice B n c], .agg #[.int .i64 c1.Qubits, .slice B1 n1 c2], .agg #[.slice B2 n2 c3, .slice B3 n3 c4]] w0 (fun v w' => ∃ (B4 : Option Addr) (c5 : Nat) (B5 : Option Addr) (c6 : Nat) (B6 : Option Addr) (c7 : Nat) (B7 : Option Addr) (c8 : Nat), v = .tuple #[.int .i64 r_, .int .i64 r_1, .agg #[.int .i64 r_2.g.Nodes, .slice B4 r_2.g.Edges.length c5, .int .i64 r_2.c.Qubits, .slice B5 r_2.c.Gates.length c6, .slice B6 r_2.place.length c7, .slice B7 r_2.done.length c8]] ∧ r_2.g.Edges.length ≤ c5 ∧ r_2.c.Gates.length ≤ c6 ∧ Org w0 [] [⟨B, (g.Edges.flatMap enc_Edge)⟩, ⟨B1, (c1.Gates.flatMap enc_Gate)⟩, ⟨B2, (route.Start.flatMap encI)⟩, ⟨B3, (route.Steps.flatMap enc_RouteStep)⟩] [⟨B4, (r_2.g.Edges.flatMap enc_Edge)⟩, ⟨B5, (r_2.c.Gates.flatMap enc_Gate)⟩] ∧ ST w0 [] w' [⟨B6, 3, (r_2.place.flatMap encI), c7 * 1⟩, ⟨B7, 4, (r_2.done.flatMap encB), c8 * 1⟩] [⟨B4, (r_2.g.Edges.flatMap enc_Edge)⟩, ⟨B5, (r_2.c.Gates.flatMap enc_Gate)⟩]) := by
  subst hn
  subst hn1
  subst hn2
  subst hn3
  unfold F_impl_check at hF
  refine cv_of_cw 51 Try.func155 rfl Try.ntmps155 rfl ?_
  refine cw_seq ?_
  refine cw_region ?_
  refine ss 3 rfl rfl (Ys_box (T := 100) (v := .agg #[.int .i64 g.Nodes, .slice B g.Edges.length c]) (cs := [.int .i64 g.Nodes, .slice B g.Edges.length c]) (m := 2) hS rfl rfl rfl rfl) ?_
  rintro _ w_ ⟨b, rfl, hS1⟩
  refine ss 4 rfl rfl (Ys_box (T := 104) (v := .agg #[.int .i64 c1.Qubits, .slice B1 c1.Gates.length c2]) (cs := [.int .i64 c1.Qubits, .slice B1 c1.Gates.length c2]) (m := 2) hS1 rfl rfl rfl rfl) ?_
  rintro _ w_1 ⟨b1, rfl, hS2⟩
  have hS2 : ST w0 [] _ [⟨some ⟨b, 0, none⟩, 100, [.int .i64 g.Nodes, .slice B g.Edges.length c], 2⟩, ⟨some ⟨b1, 0, none⟩, 104, [.int .i64 c1.Qubits, .slice B1 c1.Gates.length c2], 2⟩] [⟨B, (g.Edges.flatMap enc_Edge)⟩, ⟨B1, (c1.Gates.flatMap enc_Gate)⟩, ⟨B2, (route.Start.flatMap encI)⟩, ⟨B3, (route.Steps.flatMap enc_RouteStep)⟩] := hS2
  refine ss 5 rfl rfl (Ys_box (T := 108) (v := .agg #[.slice B2 route.Start.length c3, .slice B3 route.Steps.length c4]) (cs := [.slice B2 route.Start.length c3, .slice B3 route.Steps.length c4]) (m := 2) hS2 rfl rfl rfl rfl) ?_
  rintro _ w_2 ⟨b2, rfl, hS3⟩
  have hS3 : ST w0 [] _ [⟨some ⟨b, 0, none⟩, 100, [.int .i64 g.Nodes, .slice B g.Edges.length c], 2⟩, ⟨some ⟨b1, 0, none⟩, 104, [.int .i64 c1.Qubits, .slice B1 c1.Gates.length c2], 2⟩, ⟨some ⟨b2, 0, none⟩, 108, [.slice B2 route.Start.length c3, .slice B3 route.Steps.length c4], 2⟩] [⟨B, (g.Edges.flatMap enc_Edge)⟩, ⟨B1, (c1.Gates.flatMap enc_Gate)⟩, ⟨B2, (route.Start.flatMap encI)⟩, ⟨B3, (route.Steps.flatMap enc_RouteStep)⟩] := hS3
  refine sq 6 rfl rfl (Y_assign (v := .int .i64 0) rfl rfl) ?_
  refine sq 7 rfl rfl (Y_assign (v := .int .i64 0) rfl rfl) ?_
  refine ss 8 rfl rfl (Ys_alloc (T := 201) (cs := [.int .i64 0, .slice none 0 0, .int .i64 0, .slice none 0 0, .slice none 0 0, .slice none 0 0]) (m := 6) hS3 k_zero_201 rfl rfl rfl) ?_
  rintro _ w_3 ⟨b3, rfl, hS4⟩
  have hS4 : ST w0 [] _ [⟨some ⟨b, 0, none⟩, 100, [.int .i64 g.Nodes, .slice B g.Edges.length c], 2⟩, ⟨some ⟨b1, 0, none⟩, 104, [.int .i64 c1.Qubits, .slice B1 c1.Gates.length c2], 2⟩, ⟨some ⟨b2, 0, none⟩, 108, [.slice B2 route.Start.length c3, .slice B3 route.Steps.length c4], 2⟩, ⟨some ⟨b3, 0, none⟩, 201, [.int .i64 0, .slice none 0 0, .int .i64 0, .slice none 0 0, .slice none 0 0, .slice none 0 0], 6⟩] [⟨B, (g.Edges.flatMap enc_Edge)⟩, ⟨B1, (c1.Gates.flatMap enc_Gate)⟩, ⟨B2, (route.Start.flatMap encI)⟩, ⟨B3, (route.Steps.flatMap enc_RouteStep)⟩] := hS4
  refine rw_nil ?_
  refine cw_seq ?_
  refine cw_seq ?_
  refine cw_region ?_
  refine sq 13 rfl rfl (Y_loadA (B := some ⟨b, 0, none⟩) (i := 0) (cs := [.int .i64 g.Nodes, .slice B g.Edges.length c]) (vs := [.int .i64 g.Nodes, .slice B g.Edges.length c]) k_ag_100 k_sz_100_2 rfl rfl (hS4.cf (i := 0) rfl) rfl rfl) ?_
  refine sq 14 rfl rfl (Y_fieldAddr (B := some ⟨b1, 0, none⟩) (i := 0) (s := 0) k_fd_104_0_0_3 k_sz_3_1 rfl rfl) ?_
  refine sq 15 rfl rfl (Y_load1 (B := some ⟨b1, 0, none⟩) (i := 0) (cs := [.int .i64 c1.Qubits, .slice B1 c1.Gates.length c2]) (v := .int .i64 c1.Qubits) k_sc_3 rfl rfl (hS4.cf (i := 1) rfl) rfl) ?_
  refine sq 16 rfl rfl (Y_fieldAddr (B := some ⟨b2, 0, none⟩) (i := 0) (s := 0) k_fd_108_0_0_59 k_sz_59_1 rfl rfl) ?_
  refine sq 17 rfl rfl (Y_load1 (B := some ⟨b2, 0, none⟩) (i := 0) (cs := [.slice B2 route.Start.length c3, .slice B3 route.Steps.length c4]) (v := .slice B2 route.Start.length c3) k_sc_59 rfl rfl (hS4.cf (i := 2) rfl) rfl) ?_
  obtain ⟨r_3, hc, hF⟩ := bind_inv hF
  refine sc 18 rfl rfl (Yc_func (g := 244) (vs := [.agg #[.int .i64 g.Nodes, .slice B g.Edges.length c], .int .i64 c1.Qubits, .slice B2 route.Start.length c3]) k_call_244 rfl (mc rfl (mc rfl (mc rfl mn))) (c_impl_CouplingGraph_isPlacement g c1.Qubits route.Start B c g.Edges.length B2 c3 route.Start.length _ rfl rfl hq2 (hS4.inn0 [(true, 0), (true, 2)] rfl) hc)) ?_
  rintro _ w_4 ⟨rfl, hd⟩
  have hS5 := hS4.out00 hd
  have hS5 : ST w0 [] _ [⟨some ⟨b, 0, none⟩, 100, [.int .i64 g.Nodes, .slice B g.Edges.length c], 2⟩, ⟨some ⟨b1, 0, none⟩, 104, [.int .i64 c1.Qubits, .slice B1 c1.Gates.length c2], 2⟩, ⟨some ⟨b2, 0, none⟩, 108, [.slice B2 route.Start.length c3, .slice B3 route.Steps.length c4], 2⟩, ⟨some ⟨b3, 0, none⟩, 201, [.int .i64 0, .slice none 0 0, .int .i64 0, .slice none 0 0, .slice none 0 0, .slice none 0 0], 6⟩] [⟨B, (g.Edges.flatMap enc_Edge)⟩, ⟨B1, (c1.Gates.flatMap enc_Gate)⟩, ⟨B2, (route.Start.flatMap encI)⟩, ⟨B3, (route.Steps.flatMap enc_RouteStep)⟩] := hS5
  refine sq 19 rfl rfl (Y_not (p := r_3) rfl rfl) ?_
  refine rw_nil ?_
  refine cw_cond (b := (!r_3)) rfl (fun hb => ?_) (fun hb => ?_)
  · skip
    have hF1 := ct hF hb
    refine cw_seq ?_
    refine cw_region ?_
    refine sq 20 rfl rfl (Y_buildS (zs := [.int .i64 0, .slice none 0 0, .int .i64 0, .slice none 0 0, .slice none 0 0, .slice none 0 0]) (vs := []) (cs := [.int .i64 0, .slice none 0 0, .int .i64 0, .slice none 0 0, .slice none 0 0, .slice none 0 0]) k_pl_201 k_zero_201 rfl mpn rfl) ?_
    refine sq 6 rfl rfl (Y_assign (v := .int .i64 1) rfl rfl) ?_
    refine sq 7 rfl rfl (Y_assign (v := .int .i64 0) rfl rfl) ?_
    refine ss0 rfl rfl (Ys_store (i := 3) (s := 6) (B := some ⟨b3, 0, none⟩) (T' := 201) (v := .agg #[.int .i64 0, .slice none 0 0, .int .i64 0, .slice none 0 0, .slice none 0 0, .slice none 0 0]) (vs := [.int .i64 0, .slice none 0 0, .int .i64 0, .slice none 0 0, .slice none 0 0, .slice none 0 0]) (k := 0) (cs' := [.int .i64 0, .slice none 0 0, .int .i64 0, .slice none 0 0, .slice none 0 0, .slice none 0 0]) hS5 k_sz_201_6 rfl rfl rfl rfl rfl rfl rfl (Nat.le_of_ble_eq_true rfl) rfl rfl) ?_
    rintro _ w_5 ⟨rfl, hS6⟩
    have hS6 : ST w0 [] _ [⟨some ⟨b, 0, none⟩, 100, [.int .i64 g.Nodes, .slice B g.Edges.length c], 2⟩, ⟨some ⟨b1, 0, none⟩, 104, [.int .i64 c1.Qubits, .slice B1 c1.Gates.length c2], 2⟩, ⟨some ⟨b2, 0, none⟩, 108, [.slice B2 route.Start.length c3, .slice B3 route.Steps.length c4], 2⟩, ⟨some ⟨b3, 0, none⟩, 201, [.int .i64 0, .slice none 0 0, .int .i64 0, .slice none 0 0, .slice none 0 0, .slice none 0 0], 6⟩] [⟨B, (g.Edges.flatMap enc_Edge)⟩, ⟨B1, (c1.Gates.flatMap enc_Gate)⟩, ⟨B2, (route.Start.flatMap encI)⟩, ⟨B3, (route.Steps.flatMap enc_RouteStep)⟩] := hS6
    refine rw_nil ?_
    refine cw_ret ?_
    have hS7 : ST w0 [] _ [⟨some ⟨b, 0, none⟩, 100, [.int .i64 g.Nodes, .slice B g.Edges.length c], 2⟩, ⟨some ⟨b1, 0, none⟩, 104, [.int .i64 c1.Qubits, .slice B1 c1.Gates.length c2], 2⟩, ⟨some ⟨b2, 0, none⟩, 108, [.slice B2 route.Start.length c3, .slice B3 route.Steps.length c4], 2⟩, ⟨some ⟨b3, 0, none⟩, 201, [.int .i64 0, .slice none 0 0, .int .i64 0, .slice none 0 0, .slice none 0 0, .slice none 0 0], 6⟩] [⟨none, ([].flatMap enc_Edge)⟩, ⟨B, (g.Edges.flatMap enc_Edge)⟩, ⟨B1, (c1.Gates.flatMap enc_Gate)⟩, ⟨B2, (route.Start.flatMap encI)⟩, ⟨B3, (route.Steps.flatMap enc_RouteStep)⟩] := ST.nilRo hS6
    have hS8 : ST w0 [] _ [⟨some ⟨b, 0, none⟩, 100, [.int .i64 g.Nodes, .slice B g.Edges.length c], 2⟩, ⟨some ⟨b1, 0, none⟩, 104, [.int .i64 c1.Qubits, .slice B1 c1.Gates.length c2], 2⟩, ⟨some ⟨b2, 0, none⟩, 108, [.slice B2 route.Start.length c3, .slice B3 route.Steps.length c4], 2⟩, ⟨some ⟨b3, 0, none⟩, 201, [.int .i64 0, .slice none 0 0, .int .i64 0, .slice none 0 0, .slice none 0 0, .slice none 0 0], 6⟩] [⟨none, ([].flatMap enc_Gate)⟩, ⟨none, ([].flatMap enc_Edge)⟩, ⟨B, (g.Edges.flatMap enc_Edge)⟩, ⟨B1, (c1.Gates.flatMap enc_Gate)⟩, ⟨B2, (route.Start.flatMap encI)⟩, ⟨B3, (route.Steps.flatMap enc_RouteStep)⟩] := ST.nilRo hS7
    have hS9 := hS8.addNil 3
    have hS10 := hS9.addNil 4
    obtain ⟨rfl, rfl, rfl⟩ := pr3 (some_inj hF1)
    exact ret3 Try.results155 (v1 := .int .i64 1) (resAt_tmp rfl) (v2 := .int .i64 0) (resAt_tmp rfl) (v3 := .agg #[.int .i64 0, .slice none 0 0, .int .i64 0, .slice none 0 0, .slice none 0 0, .slice none 0 0]) (resAt_cellA (B := some ⟨b3, 0, none⟩) (i := 0) (cs := [.int .i64 0, .slice none 0 0, .int .i64 0, .slice none 0 0, .slice none 0 0, .slice none 0 0]) (vs := [.int .i64 0, .slice none 0 0, .int .i64 0, .slice none 0 0, .slice none 0 0, .slice none 0 0]) rfl k_ag_201 k_sz_201_6 (hS10.cf (i := 3) rfl) rfl rfl) ⟨none, 0, none, 0, none, 0, none, 0, rfl, (len_le rfl (Nat.le_refl 0)), (len_le rfl (Nat.le_refl 0)), (org_cons org_none (org_cons org_none org_nil)), (ST.subR (R' := [⟨none, ([].flatMap enc_Edge)⟩, ⟨none, ([].flatMap enc_Gate)⟩]) (hS10.sel [4, 5] rfl rfl) (subc (mem_at (i := 1) rfl) (subc (mem_at (i := 0) rfl) (fun _ h => by cases h))))⟩
  · skip
    have hF2 := cf' hF hb
    refine cw_skip ?_
    refine cw_seq ?_
    refine cw_region ?_
    refine sq 21 rfl rfl (Y_loadA (B := some ⟨b, 0, none⟩) (i := 0) (cs := [.int .i64 g.Nodes, .slice B g.Edges.length c]) (vs := [.int .i64 g.Nodes, .slice B g.Edges.length c]) k_ag_100 k_sz_100_2 rfl rfl (hS5.cf (i := 0) rfl) rfl rfl) ?_
    refine sq 22 rfl rfl (Y_loadA (B := some ⟨b1, 0, none⟩) (i := 0) (cs := [.int .i64 c1.Qubits, .slice B1 c1.Gates.length c2]) (vs := [.int .i64 c1.Qubits, .slice B1 c1.Gates.length c2]) k_ag_104 k_sz_104_2 rfl rfl (hS5.cf (i := 1) rfl) rfl rfl) ?_
    refine sq 23 rfl rfl (Y_fieldAddr (B := some ⟨b2, 0, none⟩) (i := 0) (s := 0) k_fd_108_0_0_59 k_sz_59_1 rfl rfl) ?_
    refine sq 24 rfl rfl (Y_load1 (B := some ⟨b2, 0, none⟩) (i := 0) (cs := [.slice B2 route.Start.length c3, .slice B3 route.Steps.length c4]) (v := .slice B2 route.Start.length c3) k_sc_59 rfl rfl (hS5.cf (i := 2) rfl) rfl) ?_
    obtain ⟨r_4, hc1, hF2⟩ := bind_inv hF2
    refine sc 25 rfl rfl (Yc_func (g := 164) (vs := [.agg #[.int .i64 g.Nodes, .slice B g.Edges.length c], .agg #[.int .i64 c1.Qubits, .slice B1 c1.Gates.length c2], .slice B2 route.Start.length c3]) k_call_164 rfl (mc rfl (mc rfl (mc rfl mn))) (c_impl_newRouting g c1 route.Start B c g.Edges.length B1 c2 c1.Gates.length B2 c3 route.Start.length _ rfl hq rfl hq1 rfl (hS5.inn0 [(true, 0), (true, 1), (true, 2)] rfl) hc1)) ?_
    rintro _ w_6 ⟨B8, c9, B9, c10, B10, c11, B11, c12, rfl, hq3, hq4, ho, hd1⟩
    have hS11 := ST.outR0 hS5 hd1 ho (subc (mem_at (i := 0) rfl) (subc (mem_at (i := 1) rfl) (subc (mem_at (i := 2) rfl) (fun _ h => by cases h))))
    have ho1 : Org w0 [] [⟨B, (g.Edges.flatMap enc_Edge)⟩, ⟨B1, (c1.Gates.flatMap enc_Gate)⟩, ⟨B2, (route.Start.flatMap encI)⟩, ⟨B3, (route.Steps.flatMap enc_RouteStep)⟩] [⟨B8, (r_4.g.Edges.flatMap enc_Edge)⟩, ⟨B9, (r_4.c.Gates.flatMap enc_Gate)⟩] := org_trans0 hS5 ho (org_cons (org_mem (i := 0) rfl) (org_cons (org_mem (i := 1) rfl) (org_cons (org_mem (i := 2) rfl) org_nil)))
    have hS12 : ST w0 [] _ [⟨some ⟨b, 0, none⟩, 100, [.int .i64 g.Nodes, .slice B g.Edges.length c], 2⟩, ⟨some ⟨b1, 0, none⟩, 104, [.int .i64 c1.Qubits, .slice B1 c1.Gates.length c2], 2⟩, ⟨some ⟨b2, 0, none⟩, 108, [.slice B2 route.Start.length c3, .slice B3 route.Steps.length c4], 2⟩, ⟨some ⟨b3, 0, none⟩, 201, [.int .i64 0, .slice none 0 0, .int .i64 0, .slice none 0 0, .slice none 0 0, .slice none 0 0], 6⟩, ⟨B10, 3, (r_4.place.flatMap encI), c11 * 1⟩, ⟨B11, 4, (r_4.done.flatMap encB), c12 * 1⟩] [⟨B8, (r_4.g.Edges.flatMap enc_Edge)⟩, ⟨B9, (r_4.c.Gates.flatMap enc_Gate)⟩, ⟨B, (g.Edges.flatMap enc_Edge)⟩, ⟨B1, (c1.Gates.flatMap enc_Gate)⟩, ⟨B2, (route.Start.flatMap encI)⟩, ⟨B3, (route.Steps.flatMap enc_RouteStep)⟩] := hS11
    have hS12 : ST w0 [] _ [⟨some ⟨b, 0, none⟩, 100, [.int .i64 g.Nodes, .slice B g.Edges.length c], 2⟩, ⟨some ⟨b1, 0, none⟩, 104, [.int .i64 c1.Qubits, .slice B1 c1.Gates.length c2], 2⟩, ⟨some ⟨b2, 0, none⟩, 108, [.slice B2 route.Start.length c3, .slice B3 route.Steps.length c4], 2⟩, ⟨some ⟨b3, 0, none⟩, 201, [.int .i64 0, .slice none 0 0, .int .i64 0, .slice none 0 0, .slice none 0 0, .slice none 0 0], 6⟩, ⟨B10, 3, (r_4.place.flatMap encI), c11 * 1⟩, ⟨B11, 4, (r_4.done.flatMap encB), c12 * 1⟩] [⟨B8, (r_4.g.Edges.flatMap enc_Edge)⟩, ⟨B9, (r_4.c.Gates.flatMap enc_Gate)⟩, ⟨B, (g.Edges.flatMap enc_Edge)⟩, ⟨B1, (c1.Gates.flatMap enc_Gate)⟩, ⟨B2, (route.Start.flatMap encI)⟩, ⟨B3, (route.Steps.flatMap enc_RouteStep)⟩] := hS12
    refine ss 9 rfl rfl (Ys_alloc (T := 201) (cs := [.int .i64 0, .slice none 0 0, .int .i64 0, .slice none 0 0, .slice none 0 0, .slice none 0 0]) (m := 6) hS12 k_zero_201 rfl rfl rfl) ?_
    rintro _ w_7 ⟨b4, rfl, hS13⟩
    have hS13 : ST w0 [] _ [⟨some ⟨b, 0, none⟩, 100, [.int .i64 g.Nodes, .slice B g.Edges.length c], 2⟩, ⟨some ⟨b1, 0, none⟩, 104, [.int .i64 c1.Qubits, .slice B1 c1.Gates.length c2], 2⟩, ⟨some ⟨b2, 0, none⟩, 108, [.slice B2 route.Start.length c3, .slice B3 route.Steps.length c4], 2⟩, ⟨some ⟨b3, 0, none⟩, 201, [.int .i64 0, .slice none 0 0, .int .i64 0, .slice none 0 0, .slice none 0 0, .slice none 0 0], 6⟩, ⟨B10, 3, (r_4.place.flatMap encI), c11 * 1⟩, ⟨B11, 4, (r_4.done.flatMap encB), c12 * 1⟩, ⟨some ⟨b4, 0, none⟩, 201, [.int .i64 0, .slice none 0 0, .int .i64 0, .slice none 0 0, .slice none 0 0, .slice none 0 0], 6⟩] [⟨B8, (r_4.g.Edges.flatMap enc_Edge)⟩, ⟨B9, (r_4.c.Gates.flatMap enc_Gate)⟩, ⟨B, (g.Edges.flatMap enc_Edge)⟩, ⟨B1, (c1.Gates.flatMap enc_Gate)⟩, ⟨B2, (route.Start.flatMap encI)⟩, ⟨B3, (route.Steps.flatMap enc_RouteStep)⟩] := hS13
    refine ss0 rfl rfl (Ys_store (i := 6) (s := 6) (B := some ⟨b4, 0, none⟩) (T' := 201) (v := .agg #[.int .i64 r_4.g.Nodes, .slice B8 r_4.g.Edges.length c9, .int .i64 r_4.c.Qubits, .slice B9 r_4.c.Gates.length c10, .slice B10 r_4.place.length c11, .slice B11 r_4.done.length c12]) (vs := [.int .i64 r_4.g.Nodes, .slice B8 r_4.g.Edges.length c9, .int .i64 r_4.c.Qubits, .slice B9 r_4.c.Gates.length c10, .slice B10 r_4.place.length c11, .slice B11 r_4.done.length c12]) (k := 0) (cs' := [.int .i64 r_4.g.Nodes, .slice B8 r_4.g.Edges.length c9, .int .i64 r_4.c.Qubits, .slice B9 r_4.c.Gates.length c10, .slice B10 r_4.place.length c11, .slice B11 r_4.done.length c12]) hS13 k_sz_201_6 rfl rfl rfl rfl rfl rfl rfl (Nat.le_of_ble_eq_true rfl) rfl rfl) ?_
    rintro _ w_8 ⟨rfl, hS14⟩
    have hS14 : ST w0 [] _ [⟨some ⟨b, 0, none⟩, 100, [.int .i64 g.Nodes, .slice B g.Edges.length c], 2⟩, ⟨some ⟨b1, 0, none⟩, 104, [.int .i64 c1.Qubits, .slice B1 c1.Gates.length c2], 2⟩, ⟨some ⟨b2, 0, none⟩, 108, [.slice B2 route.Start.length c3, .slice B3 route.Steps.length c4], 2⟩, ⟨some ⟨b3, 0, none⟩, 201, [.int .i64 0, .slice none 0 0, .int .i64 0, .slice none 0 0, .slice none 0 0, .slice none 0 0], 6⟩, ⟨B10, 3, (r_4.place.flatMap encI), c11 * 1⟩, ⟨B11, 4, (r_4.done.flatMap encB), c12 * 1⟩, ⟨some ⟨b4, 0, none⟩, 201, [.int .i64 r_4.g.Nodes, .slice B8 r_4.g.Edges.length c9, .int .i64 r_4.c.Qubits, .slice B9 r_4.c.Gates.length c10, .slice B10 r_4.place.length c11, .slice B11 r_4.done.length c12], 6⟩] [⟨B8, (r_4.g.Edges.flatMap enc_Edge)⟩, ⟨B9, (r_4.c.Gates.flatMap enc_Gate)⟩, ⟨B, (g.Edges.flatMap enc_Edge)⟩, ⟨B1, (c1.Gates.flatMap enc_Gate)⟩, ⟨B2, (route.Start.flatMap encI)⟩, ⟨B3, (route.Steps.flatMap enc_RouteStep)⟩] := hS14
    refine rw_nil ?_
    refine cw_seq ?_
    refine cw_seq ?_
    refine cw_region ?_
    refine sq 26 rfl rfl (Y_fieldAddr (B := some ⟨b2, 0, none⟩) (i := 0) (s := 0) k_fd_108_1_1_106 k_sz_106_1 rfl rfl) ?_
    refine sq 27 rfl rfl (Y_load1 (B := some ⟨b2, 0, none⟩) (i := 1) (cs := [.slice B2 route.Start.length c3, .slice B3 route.Steps.length c4]) (v := .slice B3 route.Steps.length c4) k_sc_106 rfl rfl (hS14.cf (i := 2) rfl) rfl) ?_
    refine sq 28 rfl rfl (Y_len (B := B3) (m := route.Steps.length) (c := c4) k_sl_106_211 rfl rfl) ?_
    refine sq 29 rfl rfl (Y_move (v := .int .i64 0) rfl rfl) ?_
    refine rw_nil ?_
    obtain ⟨hN, hF2⟩ := chk_inv hF2
    obtain ⟨z, hz, hF3⟩ := bind_inv hF2
    refine cw_block ?_
    refine cw_loop (fun k f w => ∃ (i : Nat) (place : List Int) (done : List Bool), FF f [(5, pt (some ⟨b2, 0, none⟩) 0), (8, pt (some ⟨b3, 0, none⟩) 0), (9, pt (some ⟨b4, 0, none⟩) 0), (27, .slice B3 route.Steps.length c4), (28, .int .i64 (route.Steps.length : Int)), (29, .int .i64 (i : Int))] ∧ place.length = r_4.place.length ∧ done.length = r_4.done.length ∧ ST w0 [] w [⟨some ⟨b2, 0, none⟩, 108, [.slice B2 route.Start.length c3, .slice B3 route.Steps.length c4], 2⟩, ⟨some ⟨b3, 0, none⟩, 201, [.int .i64 0, .slice none 0 0, .int .i64 0, .slice none 0 0, .slice none 0 0, .slice none 0 0], 6⟩, ⟨some ⟨b4, 0, none⟩, 201, [.int .i64 r_4.g.Nodes, .slice B8 r_4.g.Edges.length c9, .int .i64 r_4.c.Qubits, .slice B9 r_4.c.Gates.length c10, .slice B10 r_4.place.length c11, .slice B11 r_4.done.length c12], 6⟩, ⟨B10, 3, (place.flatMap encI), c11 * 1⟩, ⟨B11, 4, (done.flatMap encB), c12 * 1⟩] [⟨B8, (r_4.g.Edges.flatMap enc_Edge)⟩, ⟨B9, (r_4.c.Gates.flatMap enc_Gate)⟩, ⟨B, (g.Edges.flatMap enc_Edge)⟩, ⟨B1, (c1.Gates.flatMap enc_Gate)⟩, ⟨B2, (route.Start.flatMap encI)⟩, ⟨B3, (route.Steps.flatMap enc_RouteStep)⟩] ∧ i + k = route.Steps.length ∧ forX (F_impl_check_l1 route r_4 g) k i (place, done) = some z) route.Steps.length ⟨0, r_4.place, r_4.done, (FF.cons rfl (FF.cons rfl (FF.cons rfl (FF.cons rfl (FF.cons rfl (FF.cons rfl FF.nil)))))), rfl, rfl, (hS14.sel [2, 3, 6, 4, 5] rfl rfl), Nat.zero_add _, hz⟩ ?_
    rintro k_ f w ⟨i, place, done, hf, hl, hl1, hS15, hik, hL⟩
    refine cw_seq ?_
    refine cw_region ?_
    refine sq 30 rfl rfl (Y_lt (k := .i64) (a := (i : Int)) (b := (route.Steps.length : Int)) rfl (hf.get 29 5 rfl) (hf.get 28 4 rfl)) ?_
    refine rw_nil ?_
    refine cw_seq ?_
    refine cw_cond (b := (decide ((i : Int) < (route.Steps.length : Int)))) rfl (fun hlt => ?_) (fun hlt => ?_)
    · skip
      have hlt1 : i < route.Steps.length := by have h := of_decide_eq_true hlt; omega
      obtain ⟨k_1, rfl⟩ : ∃ k2, k_ = k2 + 1 := ⟨k_ - 1, by omega⟩
      obtain ⟨y, hb1, hL1⟩ := forX_go hL
      unfold F_impl_check_l1 at hb1
      refine cw_skip ?_
      refine cw_seq ?_
      refine cw_block ?_
      refine cw_seq ?_
      refine cw_region ?_
      refine sq 31 rfl rfl (Y_move (v := .int .i64 (i : Int)) rfl (hf.get 29 5 rfl)) ?_
      obtain ⟨x, hx, hb1⟩ := bind_inv hb1
      refine sq 32 rfl rfl (Y_index (B := B3) (m := route.Steps.length) (c := c4) (k := .i64) (i := (i : Int)) k_sl_106_211 k_sz_211_3 rfl (hf.get 27 3 rfl) (hf.get 29 5 rfl) (gi_isSome enc_RouteStep_len rfl (hS15.rf (i := 5) rfl) hx) (getI_nn hx) (getI_ltI hx rfl)) ?_
      refine sq 33 rfl rfl (Y_loadA (B := B3) (i := (i : Int).toNat * 3) (cs := (route.Steps.flatMap enc_RouteStep)) (vs := [.int .i64 x.Gate, .int .i64 x.A, .int .i64 x.B]) k_ag_211 k_sz_211_3 rfl rfl (hS15.rf (i := 5) rfl) (enc_RouteStep_len x) (gi_seg enc_RouteStep_len hx)) ?_
      refine ss 11 rfl rfl (Ys_alloc (T := 211) (cs := [.int .i64 0, .int .i64 0, .int .i64 0]) (m := 3) hS15 k_zero_211 rfl rfl rfl) ?_
      rintro _ w_9 ⟨b5, rfl, hS16⟩
      have hS16 : ST w0 [] _ [⟨some ⟨b2, 0, none⟩, 108, [.slice B2 route.Start.length c3, .slice B3 route.Steps.length c4], 2⟩, ⟨some ⟨b3, 0, none⟩, 201, [.int .i64 0, .slice none 0 0, .int .i64 0, .slice none 0 0, .slice none 0 0, .slice none 0 0], 6⟩, ⟨some ⟨b4, 0, none⟩, 201, [.int .i64 r_4.g.Nodes, .slice B8 r_4.g.Edges.length c9, .int .i64 r_4.c.Qubits, .slice B9 r_4.c.Gates.length c10, .slice B10 r_4.place.length c11, .slice B11 r_4.done.length c12], 6⟩, ⟨B10, 3, (place.flatMap encI), c11 * 1⟩, ⟨B11, 4, (done.flatMap encB), c12 * 1⟩, ⟨some ⟨b5, 0, none⟩, 211, [.int .i64 0, .int .i64 0, .int .i64 0], 3⟩] [⟨B8, (r_4.g.Edges.flatMap enc_Edge)⟩, ⟨B9, (r_4.c.Gates.flatMap enc_Gate)⟩, ⟨B, (g.Edges.flatMap enc_Edge)⟩, ⟨B1, (c1.Gates.flatMap enc_Gate)⟩, ⟨B2, (route.Start.flatMap encI)⟩, ⟨B3, (route.Steps.flatMap enc_RouteStep)⟩] := hS16
      refine sq 10 rfl rfl (Y_assign (v := .int .i64 (i : Int)) rfl rfl) ?_
      refine ss0 rfl rfl (Ys_store (i := 5) (s := 3) (B := some ⟨b5, 0, none⟩) (T' := 211) (v := .agg #[.int .i64 x.Gate, .int .i64 x.A, .int .i64 x.B]) (vs := [.int .i64 x.Gate, .int .i64 x.A, .int .i64 x.B]) (k := 0) (cs' := [.int .i64 x.Gate, .int .i64 x.A, .int .i64 x.B]) hS16 k_sz_211_3 rfl rfl rfl rfl rfl rfl rfl (Nat.le_of_ble_eq_true rfl) rfl rfl) ?_
      rintro _ w_10 ⟨rfl, hS17⟩
      have hS17 : ST w0 [] _ [⟨some ⟨b2, 0, none⟩, 108, [.slice B2 route.Start.length c3, .slice B3 route.Steps.length c4], 2⟩, ⟨some ⟨b3, 0, none⟩, 201, [.int .i64 0, .slice none 0 0, .int .i64 0, .slice none 0 0, .slice none 0 0, .slice none 0 0], 6⟩, ⟨some ⟨b4, 0, none⟩, 201, [.int .i64 r_4.g.Nodes, .slice B8 r_4.g.Edges.length c9, .int .i64 r_4.c.Qubits, .slice B9 r_4.c.Gates.length c10, .slice B10 r_4.place.length c11, .slice B11 r_4.done.length c12], 6⟩, ⟨B10, 3, (place.flatMap encI), c11 * 1⟩, ⟨B11, 4, (done.flatMap encB), c12 * 1⟩, ⟨some ⟨b5, 0, none⟩, 211, [.int .i64 x.Gate, .int .i64 x.A, .int .i64 x.B], 3⟩] [⟨B8, (r_4.g.Edges.flatMap enc_Edge)⟩, ⟨B9, (r_4.c.Gates.flatMap enc_Gate)⟩, ⟨B, (g.Edges.flatMap enc_Edge)⟩, ⟨B1, (c1.Gates.flatMap enc_Gate)⟩, ⟨B2, (route.Start.flatMap encI)⟩, ⟨B3, (route.Steps.flatMap enc_RouteStep)⟩] := hS17
      refine rw_nil ?_
      refine cw_seq ?_
      refine cw_region ?_
      refine sq 34 rfl rfl (Y_loadA (B := some ⟨b4, 0, none⟩) (i := 0) (cs := [.int .i64 r_4.g.Nodes, .slice B8 r_4.g.Edges.length c9, .int .i64 r_4.c.Qubits, .slice B9 r_4.c.Gates.length c10, .slice B10 r_4.place.length c11, .slice B11 r_4.done.length c12]) (vs := [.int .i64 r_4.g.Nodes, .slice B8 r_4.g.Edges.length c9, .int .i64 r_4.c.Qubits, .slice B9 r_4.c.Gates.length c10, .slice B10 r_4.place.length c11, .slice B11 r_4.done.length c12]) k_ag_201 k_sz_201_6 rfl (hf.get 9 2 rfl) (hS17.cf (i := 2) rfl) rfl rfl) ?_
      refine sq 35 rfl rfl (Y_loadA (B := some ⟨b5, 0, none⟩) (i := 0) (cs := [.int .i64 x.Gate, .int .i64 x.A, .int .i64 x.B]) (vs := [.int .i64 x.Gate, .int .i64 x.A, .int .i64 x.B]) k_ag_211 k_sz_211_3 rfl rfl (hS17.cf (i := 5) rfl) rfl rfl) ?_
      obtain ⟨⟨r_5, m, m1⟩, hc2, hb1⟩ := bind_inv hb1
      refine sc 36 rfl rfl (Yc_func (g := 166) (vs := [.agg #[.int .i64 r_4.g.Nodes, .slice B8 r_4.g.Edges.length c9, .int .i64 r_4.c.Qubits, .slice B9 r_4.c.Gates.length c10, .slice B10 r_4.place.length c11, .slice B11 r_4.done.length c12], .agg #[.int .i64 x.Gate, .int .i64 x.A, .int .i64 x.B]]) k_call_166 rfl (mc rfl (mc rfl mn)) (c_impl_routing_step (Trouting.mk r_4.g r_4.c place done) x B8 c9 r_4.g.Edges.length B9 c10 r_4.c.Gates.length B10 c11 r_4.place.length B11 c12 r_4.done.length _ rfl rfl hq4 hl hl1 (hS17.inn [false, false, false, true, true, false] rfl [(true, 0), (true, 1)] rfl) hc2)) ?_
      rintro _ w_11 ⟨rfl, hl2, hl3, hd2⟩
      have hS18 := hS17.out [false, false, false, true, true, false] rfl hd2
      have hS18 : ST w0 [] _ [⟨some ⟨b2, 0, none⟩, 108, [.slice B2 route.Start.length c3, .slice B3 route.Steps.length c4], 2⟩, ⟨some ⟨b3, 0, none⟩, 201, [.int .i64 0, .slice none 0 0, .int .i64 0, .slice none 0 0, .slice none 0 0, .slice none 0 0], 6⟩, ⟨some ⟨b4, 0, none⟩, 201, [.int .i64 r_4.g.Nodes, .slice B8 r_4.g.Edges.length c9, .int .i64 r_4.c.Qubits, .slice B9 r_4.c.Gates.length c10, .slice B10 r_4.place.length c11, .slice B11 r_4.done.length c12], 6⟩, ⟨some ⟨b5, 0, none⟩, 211, [.int .i64 x.Gate, .int .i64 x.A, .int .i64 x.B], 3⟩, ⟨B10, 3, (m.flatMap encI), c11 * 1⟩, ⟨B11, 4, (m1.flatMap encB), c12 * 1⟩] [⟨B8, (r_4.g.Edges.flatMap enc_Edge)⟩, ⟨B9, (r_4.c.Gates.flatMap enc_Gate)⟩, ⟨B, (g.Edges.flatMap enc_Edge)⟩, ⟨B1, (c1.Gates.flatMap enc_Gate)⟩, ⟨B2, (route.Start.flatMap encI)⟩, ⟨B3, (route.Steps.flatMap enc_RouteStep)⟩] := hS18
      refine sq 12 rfl rfl (Y_assign (v := .int .i64 r_5) rfl rfl) ?_
      refine rw_nil ?_
      refine cw_seq ?_
      refine cw_region ?_
      refine sq 37 rfl rfl (Y_move (v := .int .i64 r_5) rfl rfl) ?_
      refine sq 38 rfl rfl (Y_ne (k := .i64) (a := r_5) (b := 0) rfl rfl rfl) ?_
      refine rw_nil ?_
      refine cw_cond (b := (r_5 != 0)) rfl (fun hb2 => ?_) (fun hb2 => ?_)
      · skip
        have hF4 := ct hb1 hb2
        refine cw_seq ?_
        refine ra_start (ST.sel hS18 [0, 2, 3, 4, 5] rfl rfl).fn (by kernel_rfl) ?_
        have hS19 := hS18.drew
        refine ra_q 0 39 (v := .int .i64 r_5) rfl rfl rfl (by kernel_rfl) (by kernel_rfl) (by kernel_rfl) (ST.sel hS19 [0, 2, 3, 4, 5] rfl rfl) (fun w' hw' => (Y_move (v := .int .i64 r_5) rfl rfl)) ?_
        refine ra_q 1 40 (v := .int .i64 (i : Int)) rfl rfl rfl (by kernel_rfl) (by kernel_rfl) (by kernel_rfl) (ST.sel hS19 [0, 2, 3, 4, 5] rfl rfl) (fun w' hw' => (Y_move (v := .int .i64 (i : Int)) rfl rfl)) ?_
        refine ra_q 2 41 (v := .agg #[.int .i64 r_4.g.Nodes, .slice B8 r_4.g.Edges.length c9, .int .i64 r_4.c.Qubits, .slice B9 r_4.c.Gates.length c10, .slice B10 r_4.place.length c11, .slice B11 r_4.done.length c12]) rfl rfl rfl (by kernel_rfl) (by kernel_rfl) (by kernel_rfl) (ST.sel hS19 [0, 2, 3, 4, 5] rfl rfl) (fun w' hw' => (Y_loadA (B := some ⟨b4, 0, none⟩) (i := 0) (cs := [.int .i64 r_4.g.Nodes, .slice B8 r_4.g.Edges.length c9, .int .i64 r_4.c.Qubits, .slice B9 r_4.c.Gates.length c10, .slice B10 r_4.place.length c11, .slice B11 r_4.done.length c12]) (vs := [.int .i64 r_4.g.Nodes, .slice B8 r_4.g.Edges.length c9, .int .i64 r_4.c.Qubits, .slice B9 r_4.c.Gates.length c10, .slice B10 r_4.place.length c11, .slice B11 r_4.done.length c12]) k_ag_201 k_sz_201_6 rfl (hf.get 9 2 rfl) (ST.cf hw' (i := 1) rfl) rfl rfl)) ?_
        refine ra_q 3 6 (v := .int .i64 r_5) rfl rfl rfl (by kernel_rfl) (by kernel_rfl) (by kernel_rfl) (ST.sel hS19 [0, 2, 3, 4, 5] rfl rfl) (fun w' hw' => (Y_assign (v := .int .i64 r_5) rfl rfl)) ?_
        refine ra_q 4 7 (v := .int .i64 (i : Int)) rfl rfl rfl (by kernel_rfl) (by kernel_rfl) (by kernel_rfl) (ST.sel hS19 [0, 2, 3, 4, 5] rfl rfl) (fun w' hw' => (Y_assign (v := .int .i64 (i : Int)) rfl rfl)) ?_
        refine ra_all (rs := [5]) (by kernel_rfl) rfl ?_
        refine ra_s0 (i := 5) rfl rfl rfl (Ys_store (i := 1) (s := 6) (B := some ⟨b3, 0, none⟩) (T' := 201) (v := .agg #[.int .i64 r_4.g.Nodes, .slice B8 r_4.g.Edges.length c9, .int .i64 r_4.c.Qubits, .slice B9 r_4.c.Gates.length c10, .slice B10 r_4.place.length c11, .slice B11 r_4.done.length c12]) (vs := [.int .i64 r_4.g.Nodes, .slice B8 r_4.g.Edges.length c9, .int .i64 r_4.c.Qubits, .slice B9 r_4.c.Gates.length c10, .slice B10 r_4.place.length c11, .slice B11 r_4.done.length c12]) (k := 0) (cs' := [.int .i64 r_4.g.Nodes, .slice B8 r_4.g.Edges.length c9, .int .i64 r_4.c.Qubits, .slice B9 r_4.c.Gates.length c10, .slice B10 r_4.place.length c11, .slice B11 r_4.done.length c12]) hS19 k_sz_201_6 rfl (hf.get 8 1 rfl) rfl rfl rfl rfl rfl (Nat.le_of_ble_eq_true rfl) rfl rfl) ?_ ?_
        · rintro _ w_12 ⟨rfl, hS20⟩
          have hS20 : ST w0 [] _ [⟨some ⟨b2, 0, none⟩, 108, [.slice B2 route.Start.length c3, .slice B3 route.Steps.length c4], 2⟩, ⟨some ⟨b3, 0, none⟩, 201, [.int .i64 r_4.g.Nodes, .slice B8 r_4.g.Edges.length c9, .int .i64 r_4.c.Qubits, .slice B9 r_4.c.Gates.length c10, .slice B10 r_4.place.length c11, .slice B11 r_4.done.length c12], 6⟩, ⟨some ⟨b4, 0, none⟩, 201, [.int .i64 r_4.g.Nodes, .slice B8 r_4.g.Edges.length c9, .int .i64 r_4.c.Qubits, .slice B9 r_4.c.Gates.length c10, .slice B10 r_4.place.length c11, .slice B11 r_4.done.length c12], 6⟩, ⟨some ⟨b5, 0, none⟩, 211, [.int .i64 x.Gate, .int .i64 x.A, .int .i64 x.B], 3⟩, ⟨B10, 3, (m.flatMap encI), c11 * 1⟩, ⟨B11, 4, (m1.flatMap encB), c12 * 1⟩] [⟨B8, (r_4.g.Edges.flatMap enc_Edge)⟩, ⟨B9, (r_4.c.Gates.flatMap enc_Gate)⟩, ⟨B, (g.Edges.flatMap enc_Edge)⟩, ⟨B1, (c1.Gates.flatMap enc_Gate)⟩, ⟨B2, (route.Start.flatMap encI)⟩, ⟨B3, (route.Steps.flatMap enc_RouteStep)⟩] := hS20
          refine ⟨(ST.sel hS20 [0, 2, 3, 4, 5] rfl rfl), ?_⟩
          refine ra_done (by kernel_rfl) ?_
          refine cw_ret ?_
          obtain rfl := some_inj hF4
          obtain rfl := some_inj hL1
          obtain ⟨rfl, rfl, rfl⟩ := pr3 (some_inj hF3)
          exact ret3 Try.results155 (v1 := .int .i64 r_5) (resAt_tmp rfl) (v2 := .int .i64 (i : Int)) (resAt_tmp rfl) (v3 := .agg #[.int .i64 r_4.g.Nodes, .slice B8 r_4.g.Edges.length c9, .int .i64 r_4.c.Qubits, .slice B9 r_4.c.Gates.length c10, .slice B10 r_4.place.length c11, .slice B11 r_4.done.length c12]) (resAt_cellA (B := some ⟨b3, 0, none⟩) (i := 0) (cs := [.int .i64 r_4.g.Nodes, .slice B8 r_4.g.Edges.length c9, .int .i64 r_4.c.Qubits, .slice B9 r_4.c.Gates.length c10, .slice B10 r_4.place.length c11, .slice B11 r_4.done.length c12]) (vs := [.int .i64 r_4.g.Nodes, .slice B8 r_4.g.Edges.length c9, .int .i64 r_4.c.Qubits, .slice B9 r_4.c.Gates.length c10, .slice B10 r_4.place.length c11, .slice B11 r_4.done.length c12]) (hf.get 8 1 rfl) k_ag_201 k_sz_201_6 (hS20.cf (i := 1) rfl) rfl rfl) ⟨B8, c9, B9, c10, B10, c11, B11, c12, (by simp [hl2, hl3]), (len_le rfl hq3), (len_le rfl hq4), (org_cons (org_sub ho1 (subc (mem_at (i := 0) rfl) (fun _ h => by cases h))) (org_cons (org_sub ho1 (subc (mem_at (i := 1) rfl) (fun _ h => by cases h))) org_nil)), (ST.subR (R' := [⟨B8, (r_4.g.Edges.flatMap enc_Edge)⟩, ⟨B9, (r_4.c.Gates.flatMap enc_Gate)⟩]) (hS20.sel [4, 5] rfl rfl) (subc (mem_at (i := 0) rfl) (subc (mem_at (i := 1) rfl) (fun _ h => by cases h))))⟩
        exact allR_nil
      · skip
        have hF5 := cf' hb1 hb2
        refine cw_skip ?_
        refine cw_region ?_
        refine sq 42 rfl rfl (Y_add (k := .i64) (a := (i : Int)) (b := 1) rfl (hf.get 29 5 rfl) rfl) ?_
        refine sq 29 rfl rfl (Y_move (v := .int .i64 (IntKind.i64.wrap ((i : Int) + 1))) rfl rfl) ?_
        refine rw_nil ?_
        obtain rfl := some_inj hF5
        exact ⟨k_1, Nat.lt_succ_self _, i + 1, m, m1, (FF.cons (hf.get 5 0 rfl) (FF.cons (hf.get 8 1 rfl) (FF.cons (hf.get 9 2 rfl) (FF.cons (hf.get 27 3 rfl) (FF.cons (hf.get 28 4 rfl) (FF.cons (congrArg (Value.int .i64) (wr_succ hlt1 hN)) FF.nil)))))), hl2, hl3, (hS18.sel [0, 1, 2, 4, 5] rfl rfl), (by omega), hL1⟩
    · skip
      obtain rfl : k_ = 0 := by have h := of_decide_eq_false hlt; omega
      refine cw_exit rfl ?_
      obtain rfl := some_inj hL
      refine cw_seq ?_
      refine cw_seq ?_
      refine cw_region ?_
      refine sq 43 rfl rfl (Y_fieldAddr (B := some ⟨b4, 0, none⟩) (i := 0) (s := 0) k_fd_201_3_5_199 k_sz_199_1 rfl (hf.get 9 2 rfl)) ?_
      refine sq 44 rfl rfl (Y_load1 (B := some ⟨b4, 0, none⟩) (i := 5) (cs := [.int .i64 r_4.g.Nodes, .slice B8 r_4.g.Edges.length c9, .int .i64 r_4.c.Qubits, .slice B9 r_4.c.Gates.length c10, .slice B10 r_4.place.length c11, .slice B11 r_4.done.length c12]) (v := .slice B11 r_4.done.length c12) k_sc_199 rfl rfl (hS15.cf (i := 2) rfl) rfl) ?_
      obtain ⟨r_6, hc3, hF3⟩ := bind_inv hF3
      refine sc 45 rfl rfl (Yc_func (g := 245) (vs := [.slice B11 r_4.done.length c12, .bool false]) k_call_245 rfl (mc rfl (mc rfl mn)) (c_slices_Contains_bool_bool done false B11 c12 r_4.done.length _ hl1 (hS15.inn0 [(false, 4)] rfl) hc3)) ?_
      rintro _ w_13 ⟨rfl, hd3⟩
      have hS21 := hS15.out00 hd3
      have hS21 : ST w0 [] _ [⟨some ⟨b2, 0, none⟩, 108, [.slice B2 route.Start.length c3, .slice B3 route.Steps.length c4], 2⟩, ⟨some ⟨b3, 0, none⟩, 201, [.int .i64 0, .slice none 0 0, .int .i64 0, .slice none 0 0, .slice none 0 0, .slice none 0 0], 6⟩, ⟨some ⟨b4, 0, none⟩, 201, [.int .i64 r_4.g.Nodes, .slice B8 r_4.g.Edges.length c9, .int .i64 r_4.c.Qubits, .slice B9 r_4.c.Gates.length c10, .slice B10 r_4.place.length c11, .slice B11 r_4.done.length c12], 6⟩, ⟨B10, 3, (place.flatMap encI), c11 * 1⟩, ⟨B11, 4, (done.flatMap encB), c12 * 1⟩] [⟨B8, (r_4.g.Edges.flatMap enc_Edge)⟩, ⟨B9, (r_4.c.Gates.flatMap enc_Gate)⟩, ⟨B, (g.Edges.flatMap enc_Edge)⟩, ⟨B1, (c1.Gates.flatMap enc_Gate)⟩, ⟨B2, (route.Start.flatMap encI)⟩, ⟨B3, (route.Steps.flatMap enc_RouteStep)⟩] := hS21
      refine rw_nil ?_
      refine cw_cond (b := r_6) rfl (fun hb3 => ?_) (fun hb3 => ?_)
      · skip
        have hF6 := ct hF3 hb3
        refine cw_seq ?_
        refine ra_start (ST.sel hS21 [0, 2, 3, 4] rfl rfl).fn (by kernel_rfl) ?_
        have hS22 := hS21.drew
        refine ra_q 0 46 (v := pt (some ⟨b2, 0, none⟩) 1) rfl rfl rfl (by kernel_rfl) (by kernel_rfl) (by kernel_rfl) (ST.sel hS22 [0, 2, 3, 4] rfl rfl) (fun w' hw' => (Y_fieldAddr (B := some ⟨b2, 0, none⟩) (i := 0) (s := 0) k_fd_108_1_1_106 k_sz_106_1 rfl (hf.get 5 0 rfl))) ?_
        refine ra_q 1 47 (v := .slice B3 route.Steps.length c4) rfl rfl rfl (by kernel_rfl) (by kernel_rfl) (by kernel_rfl) (ST.sel hS22 [0, 2, 3, 4] rfl rfl) (fun w' hw' => (Y_load1 (B := some ⟨b2, 0, none⟩) (i := 1) (cs := [.slice B2 route.Start.length c3, .slice B3 route.Steps.length c4]) (v := .slice B3 route.Steps.length c4) k_sc_106 rfl rfl (ST.cf hw' (i := 0) rfl) rfl)) ?_
        refine ra_q 2 48 (v := .int .i64 (route.Steps.length : Int)) rfl rfl rfl (by kernel_rfl) (by kernel_rfl) (by kernel_rfl) (ST.sel hS22 [0, 2, 3, 4] rfl rfl) (fun w' hw' => (Y_len (B := B3) (m := route.Steps.length) (c := c4) k_sl_106_211 rfl rfl)) ?_
        refine ra_q 3 49 (v := .agg #[.int .i64 r_4.g.Nodes, .slice B8 r_4.g.Edges.length c9, .int .i64 r_4.c.Qubits, .slice B9 r_4.c.Gates.length c10, .slice B10 r_4.place.length c11, .slice B11 r_4.done.length c12]) rfl rfl rfl (by kernel_rfl) (by kernel_rfl) (by kernel_rfl) (ST.sel hS22 [0, 2, 3, 4] rfl rfl) (fun w' hw' => (Y_loadA (B := some ⟨b4, 0, none⟩) (i := 0) (cs := [.int .i64 r_4.g.Nodes, .slice B8 r_4.g.Edges.length c9, .int .i64 r_4.c.Qubits, .slice B9 r_4.c.Gates.length c10, .slice B10 r_4.place.length c11, .slice B11 r_4.done.length c12]) (vs := [.int .i64 r_4.g.Nodes, .slice B8 r_4.g.Edges.length c9, .int .i64 r_4.c.Qubits, .slice B9 r_4.c.Gates.length c10, .slice B10 r_4.place.length c11, .slice B11 r_4.done.length c12]) k_ag_201 k_sz_201_6 rfl (hf.get 9 2 rfl) (ST.cf hw' (i := 1) rfl) rfl rfl)) ?_
        refine ra_q 4 6 (v := .int .i64 5) rfl rfl rfl (by kernel_rfl) (by kernel_rfl) (by kernel_rfl) (ST.sel hS22 [0, 2, 3, 4] rfl rfl) (fun w' hw' => (Y_assign (v := .int .i64 5) rfl rfl)) ?_
        refine ra_q 5 7 (v := .int .i64 (route.Steps.length : Int)) rfl rfl rfl (by kernel_rfl) (by kernel_rfl) (by kernel_rfl) (ST.sel hS22 [0, 2, 3, 4] rfl rfl) (fun w' hw' => (Y_assign (v := .int .i64 (route.Steps.length : Int)) rfl rfl)) ?_
        refine ra_all (rs := [6]) (by kernel_rfl) rfl ?_
        refine ra_s0 (i := 6) rfl rfl rfl (Ys_store (i := 1) (s := 6) (B := some ⟨b3, 0, none⟩) (T' := 201) (v := .agg #[.int .i64 r_4.g.Nodes, .slice B8 r_4.g.Edges.length c9, .int .i64 r_4.c.Qubits, .slice B9 r_4.c.Gates.length c10, .slice B10 r_4.place.length c11, .slice B11 r_4.done.length c12]) (vs := [.int .i64 r_4.g.Nodes, .slice B8 r_4.g.Edges.length c9, .int .i64 r_4.c.Qubits, .slice B9 r_4.c.Gates.length c10, .slice B10 r_4.place.length c11, .slice B11 r_4.done.length c12]) (k := 0) (cs' := [.int .i64 r_4.g.Nodes, .slice B8 r_4.g.Edges.length c9, .int .i64 r_4.c.Qubits, .slice B9 r_4.c.Gates.length c10, .slice B10 r_4.place.length c11, .slice B11 r_4.done.length c12]) hS22 k_sz_201_6 rfl (hf.get 8 1 rfl) rfl rfl rfl rfl rfl (Nat.le_of_ble_eq_true rfl) rfl rfl) ?_ ?_
        · rintro _ w_14 ⟨rfl, hS23⟩
          have hS23 : ST w0 [] _ [⟨some ⟨b2, 0, none⟩, 108, [.slice B2 route.Start.length c3, .slice B3 route.Steps.length c4], 2⟩, ⟨some ⟨b3, 0, none⟩, 201, [.int .i64 r_4.g.Nodes, .slice B8 r_4.g.Edges.length c9, .int .i64 r_4.c.Qubits, .slice B9 r_4.c.Gates.length c10, .slice B10 r_4.place.length c11, .slice B11 r_4.done.length c12], 6⟩, ⟨some ⟨b4, 0, none⟩, 201, [.int .i64 r_4.g.Nodes, .slice B8 r_4.g.Edges.length c9, .int .i64 r_4.c.Qubits, .slice B9 r_4.c.Gates.length c10, .slice B10 r_4.place.length c11, .slice B11 r_4.done.length c12], 6⟩, ⟨B10, 3, (place.flatMap encI), c11 * 1⟩, ⟨B11, 4, (done.flatMap encB), c12 * 1⟩] [⟨B8, (r_4.g.Edges.flatMap enc_Edge)⟩, ⟨B9, (r_4.c.Gates.flatMap enc_Gate)⟩, ⟨B, (g.Edges.flatMap enc_Edge)⟩, ⟨B1, (c1.Gates.flatMap enc_Gate)⟩, ⟨B2, (route.Start.flatMap encI)⟩, ⟨B3, (route.Steps.flatMap enc_RouteStep)⟩] := hS23
          refine ⟨(ST.sel hS23 [0, 2, 3, 4] rfl rfl), ?_⟩
          refine ra_done (by kernel_rfl) ?_
          refine cw_ret ?_
          obtain ⟨rfl, rfl, rfl⟩ := pr3 (some_inj hF6)
          exact ret3 Try.results155 (v1 := .int .i64 5) (resAt_tmp rfl) (v2 := .int .i64 (route.Steps.length : Int)) (resAt_tmp rfl) (v3 := .agg #[.int .i64 r_4.g.Nodes, .slice B8 r_4.g.Edges.length c9, .int .i64 r_4.c.Qubits, .slice B9 r_4.c.Gates.length c10, .slice B10 r_4.place.length c11, .slice B11 r_4.done.length c12]) (resAt_cellA (B := some ⟨b3, 0, none⟩) (i := 0) (cs := [.int .i64 r_4.g.Nodes, .slice B8 r_4.g.Edges.length c9, .int .i64 r_4.c.Qubits, .slice B9 r_4.c.Gates.length c10, .slice B10 r_4.place.length c11, .slice B11 r_4.done.length c12]) (vs := [.int .i64 r_4.g.Nodes, .slice B8 r_4.g.Edges.length c9, .int .i64 r_4.c.Qubits, .slice B9 r_4.c.Gates.length c10, .slice B10 r_4.place.length c11, .slice B11 r_4.done.length c12]) (hf.get 8 1 rfl) k_ag_201 k_sz_201_6 (hS23.cf (i := 1) rfl) rfl rfl) ⟨B8, c9, B9, c10, B10, c11, B11, c12, (by simp [hl, hl1]), (len_le rfl hq3), (len_le rfl hq4), (org_cons (org_sub ho1 (subc (mem_at (i := 0) rfl) (fun _ h => by cases h))) (org_cons (org_sub ho1 (subc (mem_at (i := 1) rfl) (fun _ h => by cases h))) org_nil)), (ST.subR (R' := [⟨B8, (r_4.g.Edges.flatMap enc_Edge)⟩, ⟨B9, (r_4.c.Gates.flatMap enc_Gate)⟩]) (hS23.sel [3, 4] rfl rfl) (subc (mem_at (i := 0) rfl) (subc (mem_at (i := 1) rfl) (fun _ h => by cases h))))⟩
        exact allR_nil
      · skip
        have hF7 := cf' hF3 hb3
        refine cw_skip ?_
        refine cw_seq ?_
        refine ra_start (ST.sel hS21 [0, 2, 3, 4] rfl rfl).fn (by kernel_rfl) ?_
        have hS24 := hS21.drew
        refine ra_q 0 50 (v := .agg #[.int .i64 r_4.g.Nodes, .slice B8 r_4.g.Edges.length c9, .int .i64 r_4.c.Qubits, .slice B9 r_4.c.Gates.length c10, .slice B10 r_4.place.length c11, .slice B11 r_4.done.length c12]) rfl rfl rfl (by kernel_rfl) (by kernel_rfl) (by kernel_rfl) (ST.sel hS24 [0, 2, 3, 4] rfl rfl) (fun w' hw' => (Y_loadA (B := some ⟨b4, 0, none⟩) (i := 0) (cs := [.int .i64 r_4.g.Nodes, .slice B8 r_4.g.Edges.length c9, .int .i64 r_4.c.Qubits, .slice B9 r_4.c.Gates.length c10, .slice B10 r_4.place.length c11, .slice B11 r_4.done.length c12]) (vs := [.int .i64 r_4.g.Nodes, .slice B8 r_4.g.Edges.length c9, .int .i64 r_4.c.Qubits, .slice B9 r_4.c.Gates.length c10, .slice B10 r_4.place.length c11, .slice B11 r_4.done.length c12]) k_ag_201 k_sz_201_6 rfl (hf.get 9 2 rfl) (ST.cf hw' (i := 1) rfl) rfl rfl)) ?_
        refine ra_q 1 6 (v := .int .i64 0) rfl rfl rfl (by kernel_rfl) (by kernel_rfl) (by kernel_rfl) (ST.sel hS24 [0, 2, 3, 4] rfl rfl) (fun w' hw' => (Y_assign (v := .int .i64 0) rfl rfl)) ?_
        refine ra_q 2 7 (v := .int .i64 0) rfl rfl rfl (by kernel_rfl) (by kernel_rfl) (by kernel_rfl) (ST.sel hS24 [0, 2, 3, 4] rfl rfl) (fun w' hw' => (Y_assign (v := .int .i64 0) rfl rfl)) ?_
        refine ra_all (rs := [3]) (by kernel_rfl) rfl ?_
        refine ra_s0 (i := 3) rfl rfl rfl (Ys_store (i := 1) (s := 6) (B := some ⟨b3, 0, none⟩) (T' := 201) (v := .agg #[.int .i64 r_4.g.Nodes, .slice B8 r_4.g.Edges.length c9, .int .i64 r_4.c.Qubits, .slice B9 r_4.c.Gates.length c10, .slice B10 r_4.place.length c11, .slice B11 r_4.done.length c12]) (vs := [.int .i64 r_4.g.Nodes, .slice B8 r_4.g.Edges.length c9, .int .i64 r_4.c.Qubits, .slice B9 r_4.c.Gates.length c10, .slice B10 r_4.place.length c11, .slice B11 r_4.done.length c12]) (k := 0) (cs' := [.int .i64 r_4.g.Nodes, .slice B8 r_4.g.Edges.length c9, .int .i64 r_4.c.Qubits, .slice B9 r_4.c.Gates.length c10, .slice B10 r_4.place.length c11, .slice B11 r_4.done.length c12]) hS24 k_sz_201_6 rfl (hf.get 8 1 rfl) rfl rfl rfl rfl rfl (Nat.le_of_ble_eq_true rfl) rfl rfl) ?_ ?_
        · rintro _ w_15 ⟨rfl, hS25⟩
          have hS25 : ST w0 [] _ [⟨some ⟨b2, 0, none⟩, 108, [.slice B2 route.Start.length c3, .slice B3 route.Steps.length c4], 2⟩, ⟨some ⟨b3, 0, none⟩, 201, [.int .i64 r_4.g.Nodes, .slice B8 r_4.g.Edges.length c9, .int .i64 r_4.c.Qubits, .slice B9 r_4.c.Gates.length c10, .slice B10 r_4.place.length c11, .slice B11 r_4.done.length c12], 6⟩, ⟨some ⟨b4, 0, none⟩, 201, [.int .i64 r_4.g.Nodes, .slice B8 r_4.g.Edges.length c9, .int .i64 r_4.c.Qubits, .slice B9 r_4.c.Gates.length c10, .slice B10 r_4.place.length c11, .slice B11 r_4.done.length c12], 6⟩, ⟨B10, 3, (place.flatMap encI), c11 * 1⟩, ⟨B11, 4, (done.flatMap encB), c12 * 1⟩] [⟨B8, (r_4.g.Edges.flatMap enc_Edge)⟩, ⟨B9, (r_4.c.Gates.flatMap enc_Gate)⟩, ⟨B, (g.Edges.flatMap enc_Edge)⟩, ⟨B1, (c1.Gates.flatMap enc_Gate)⟩, ⟨B2, (route.Start.flatMap encI)⟩, ⟨B3, (route.Steps.flatMap enc_RouteStep)⟩] := hS25
          refine ⟨(ST.sel hS25 [0, 2, 3, 4] rfl rfl), ?_⟩
          refine ra_done (by kernel_rfl) ?_
          refine cw_ret ?_
          obtain ⟨rfl, rfl, rfl⟩ := pr3 (some_inj hF7)
          exact ret3 Try.results155 (v1 := .int .i64 0) (resAt_tmp rfl) (v2 := .int .i64 0) (resAt_tmp rfl) (v3 := .agg #[.int .i64 r_4.g.Nodes, .slice B8 r_4.g.Edges.length c9, .int .i64 r_4.c.Qubits, .slice B9 r_4.c.Gates.length c10, .slice B10 r_4.place.length c11, .slice B11 r_4.done.length c12]) (resAt_cellA (B := some ⟨b3, 0, none⟩) (i := 0) (cs := [.int .i64 r_4.g.Nodes, .slice B8 r_4.g.Edges.length c9, .int .i64 r_4.c.Qubits, .slice B9 r_4.c.Gates.length c10, .slice B10 r_4.place.length c11, .slice B11 r_4.done.length c12]) (vs := [.int .i64 r_4.g.Nodes, .slice B8 r_4.g.Edges.length c9, .int .i64 r_4.c.Qubits, .slice B9 r_4.c.Gates.length c10, .slice B10 r_4.place.length c11, .slice B11 r_4.done.length c12]) (hf.get 8 1 rfl) k_ag_201 k_sz_201_6 (hS25.cf (i := 1) rfl) rfl rfl) ⟨B8, c9, B9, c10, B10, c11, B11, c12, (by simp [hl, hl1]), (len_le rfl hq3), (len_le rfl hq4), (org_cons (org_sub ho1 (subc (mem_at (i := 0) rfl) (fun _ h => by cases h))) (org_cons (org_sub ho1 (subc (mem_at (i := 1) rfl) (fun _ h => by cases h))) org_nil)), (ST.subR (R' := [⟨B8, (r_4.g.Edges.flatMap enc_Edge)⟩, ⟨B9, (r_4.c.Gates.flatMap enc_Gate)⟩]) (hS25.sel [3, 4] rfl rfl) (subc (mem_at (i := 0) rfl) (subc (mem_at (i := 1) rfl) (fun _ h => by cases h))))⟩
        exact allR_nil

theorem c_impl_CheckRoute (g : TCouplingGraph) (c1 : TCircuit) (r_ : TRoute) (B : Option Addr) (c n : Nat) (B1 : Option Addr) (c2 n1 : Nat) (B2 : Option Addr) (c3 n2 : Nat) (B3 : Option Addr) (c4 n3 : Nat) (w0 : World) (hn : g.Edges.length = n) (hq : n ≤ c) (hn1 : c1.Gates.length = n1) (hq1 : n1 ≤ c2) (hn2 : r_.Start.length = n2) (hq2 : n2 ≤ c3) (hn3 : r_.Steps.length = n3) (hS : ST w0 [] w0 [] [⟨B, (g.Edges.flatMap enc_Edge)⟩, ⟨B1, (c1.Gates.flatMap enc_Gate)⟩, ⟨B2, (r_.Start.flatMap encI)⟩, ⟨B3, (r_.Steps.flatMap enc_RouteStep)⟩]) {r_1 : Int} {r_2 : Int} {r_3 : Bool} (hF : F_impl_CheckRoute g c1 r_ = some (r_1, r_2, r_3)) :
    CV Try.prog 58 #[.agg #[.int .i64 g.Nodes, .slice B n c], .agg #[.int .i64 c1.Qubits, .slice B1 n1 c2], .agg #[.slice B2 n2 c3, .slice B3 n3 c4]] w0 (fun v w' => v = .tuple #[.int .i64 r_1, .int .i64 r_2, .bool r_3] ∧ ST w0 [] w' [] []) := by
  subst hn
  subst hn1
  subst hn2
  subst hn3
  unfold F_impl_CheckRoute at hF
  refine cv_of_cw 26 Try.func58 rfl Try.ntmps58 rfl ?_
  refine cw_seq ?_
  refine cw_region ?_
  refine ss 3 rfl rfl (Ys_box (T := 100) (v := .agg #[.int .i64 g.Nodes, .slice B g.Edges.length c]) (cs := [.int .i64 g.Nodes, .slice B g.Edges.length c]) (m := 2) hS rfl rfl rfl rfl) ?_
  rintro _ w_ ⟨b, rfl, hS1⟩
  refine ss 4 rfl rfl (Ys_box (T := 104) (v := .agg #[.int .i64 c1.Qubits, .slice B1 c1.Gates.length c2]) (cs := [.int .i64 c1.Qubits, .slice B1 c1.Gates.length c2]) (m := 2) hS1 rfl rfl rfl rfl) ?_
  rintro _ w_1 ⟨b1, rfl, hS2⟩
  have hS2 : ST w0 [] _ [⟨some ⟨b, 0, none⟩, 100, [.int .i64 g.Nodes, .slice B g.Edges.length c], 2⟩, ⟨some ⟨b1, 0, none⟩, 104, [.int .i64 c1.Qubits, .slice B1 c1.Gates.length c2], 2⟩] [⟨B, (g.Edges.flatMap enc_Edge)⟩, ⟨B1, (c1.Gates.flatMap enc_Gate)⟩, ⟨B2, (r_.Start.flatMap encI)⟩, ⟨B3, (r_.Steps.flatMap enc_RouteStep)⟩] := hS2
  refine ss 5 rfl rfl (Ys_box (T := 108) (v := .agg #[.slice B2 r_.Start.length c3, .slice B3 r_.Steps.length c4]) (cs := [.slice B2 r_.Start.length c3, .slice B3 r_.Steps.length c4]) (m := 2) hS2 rfl rfl rfl rfl) ?_
  rintro _ w_2 ⟨b2, rfl, hS3⟩
  have hS3 : ST w0 [] _ [⟨some ⟨b, 0, none⟩, 100, [.int .i64 g.Nodes, .slice B g.Edges.length c], 2⟩, ⟨some ⟨b1, 0, none⟩, 104, [.int .i64 c1.Qubits, .slice B1 c1.Gates.length c2], 2⟩, ⟨some ⟨b2, 0, none⟩, 108, [.slice B2 r_.Start.length c3, .slice B3 r_.Steps.length c4], 2⟩] [⟨B, (g.Edges.flatMap enc_Edge)⟩, ⟨B1, (c1.Gates.flatMap enc_Gate)⟩, ⟨B2, (r_.Start.flatMap encI)⟩, ⟨B3, (r_.Steps.flatMap enc_RouteStep)⟩] := hS3
  refine sq 6 rfl rfl (Y_assign (v := .int .i64 0) rfl rfl) ?_
  refine sq 7 rfl rfl (Y_assign (v := .int .i64 0) rfl rfl) ?_
  refine sq 8 rfl rfl (Y_assign (v := .bool false) rfl rfl) ?_
  refine rw_nil ?_
  refine cw_seq ?_
  refine cw_seq ?_
  refine cw_region ?_
  refine sq 12 rfl rfl (Y_loadA (B := some ⟨b, 0, none⟩) (i := 0) (cs := [.int .i64 g.Nodes, .slice B g.Edges.length c]) (vs := [.int .i64 g.Nodes, .slice B g.Edges.length c]) k_ag_100 k_sz_100_2 rfl rfl (hS3.cf (i := 0) rfl) rfl rfl) ?_
  refine sq 13 rfl rfl (Y_loadA (B := some ⟨b1, 0, none⟩) (i := 0) (cs := [.int .i64 c1.Qubits, .slice B1 c1.Gates.length c2]) (vs := [.int .i64 c1.Qubits, .slice B1 c1.Gates.length c2]) k_ag_104 k_sz_104_2 rfl rfl (hS3.cf (i := 1) rfl) rfl rfl) ?_
  obtain ⟨r_4, hc, hF⟩ := bind_inv hF
  refine sc 14 rfl rfl (Yc_func (g := 154) (vs := [.agg #[.int .i64 g.Nodes, .slice B g.Edges.length c], .agg #[.int .i64 c1.Qubits, .slice B1 c1.Gates.length c2]]) k_call_154 rfl (mc rfl (mc rfl mn)) (c_impl_canRoute g c1 B c g.Edges.length B1 c2 c1.Gates.length _ rfl rfl (hS3.inn0 [(true, 0), (true, 1)] rfl) hc)) ?_
  rintro _ w_3 ⟨rfl, hd⟩
  have hS4 := hS3.out00 hd
  have hS4 : ST w0 [] _ [⟨some ⟨b, 0, none⟩, 100, [.int .i64 g.Nodes, .slice B g.Edges.length c], 2⟩, ⟨some ⟨b1, 0, none⟩, 104, [.int .i64 c1.Qubits, .slice B1 c1.Gates.length c2], 2⟩, ⟨some ⟨b2, 0, none⟩, 108, [.slice B2 r_.Start.length c3, .slice B3 r_.Steps.length c4], 2⟩] [⟨B, (g.Edges.flatMap enc_Edge)⟩, ⟨B1, (c1.Gates.flatMap enc_Gate)⟩, ⟨B2, (r_.Start.flatMap encI)⟩, ⟨B3, (r_.Steps.flatMap enc_RouteStep)⟩] := hS4
  refine sq 15 rfl rfl (Y_not (p := r_4) rfl rfl) ?_
  refine rw_nil ?_
  refine cw_cond (b := (!r_4)) rfl (fun hb => ?_) (fun hb => ?_)
  · skip
    have hF1 := ct hF hb
    refine cw_seq ?_
    refine cw_region ?_
    refine sq 6 rfl rfl (Y_assign (v := .int .i64 0) rfl rfl) ?_
    refine sq 7 rfl rfl (Y_assign (v := .int .i64 0) rfl rfl) ?_
    refine sq 8 rfl rfl (Y_assign (v := .bool false) rfl rfl) ?_
    refine rw_nil ?_
    refine cw_ret ?_
    obtain ⟨rfl, rfl, rfl⟩ := pr3 (some_inj hF1)
    exact ret3 Try.results58 (v1 := .int .i64 0) (resAt_tmp rfl) (v2 := .int .i64 0) (resAt_tmp rfl) (v3 := .bool false) (resAt_tmp rfl) ⟨rfl, (ST.subR (R' := []) (hS4.sel [] rfl rfl) (fun _ h => by cases h))⟩
  · skip
    have hF2 := cf' hF hb
    refine cw_skip ?_
    refine cw_seq ?_
    refine cw_region ?_
    refine sq 17 rfl rfl (Y_loadA (B := some ⟨b, 0, none⟩) (i := 0) (cs := [.int .i64 g.Nodes, .slice B g.Edges.length c]) (vs := [.int .i64 g.Nodes, .slice B g.Edges.length c]) k_ag_100 k_sz_100_2 rfl rfl (hS4.cf (i := 0) rfl) rfl rfl) ?_
    refine sq 18 rfl rfl (Y_loadA (B := some ⟨b1, 0, none⟩) (i := 0) (cs := [.int .i64 c1.Qubits, .slice B1 c1.Gates.length c2]) (vs := [.int .i64 c1.Qubits, .slice B1 c1.Gates.length c2]) k_ag_104 k_sz_104_2 rfl rfl (hS4.cf (i := 1) rfl) rfl rfl) ?_
    refine sq 19 rfl rfl (Y_loadA (B := some ⟨b2, 0, none⟩) (i := 0) (cs := [.slice B2 r_.Start.length c3, .slice B3 r_.Steps.length c4]) (vs := [.slice B2 r_.Start.length c3, .slice B3 r_.Steps.length c4]) k_ag_108 k_sz_108_2 rfl rfl (hS4.cf (i := 2) rfl) rfl rfl) ?_
    obtain ⟨⟨r_5, r_6, r_7⟩, hc1, hF2⟩ := bind_inv hF2
    refine sc 20 rfl rfl (Yc_func (g := 155) (vs := [.agg #[.int .i64 g.Nodes, .slice B g.Edges.length c], .agg #[.int .i64 c1.Qubits, .slice B1 c1.Gates.length c2], .agg #[.slice B2 r_.Start.length c3, .slice B3 r_.Steps.length c4]]) k_call_155 rfl (mc rfl (mc rfl (mc rfl mn))) (c_impl_check g c1 r_ B c g.Edges.length B1 c2 c1.Gates.length B2 c3 r_.Start.length B3 c4 r_.Steps.length _ rfl hq rfl hq1 rfl hq2 rfl (hS4.inn0 [(true, 0), (true, 1), (true, 2), (true, 3)] rfl) hc1)) ?_
    rintro _ w_4 ⟨B4, c5, B5, c6, B6, c7, B7, c8, rfl, hq3, hq4, ho, hd1⟩
    have hS5 := ST.outR0 hS4 hd1 ho (subc (mem_at (i := 0) rfl) (subc (mem_at (i := 1) rfl) (subc (mem_at (i := 2) rfl) (subc (mem_at (i := 3) rfl) (fun _ h => by cases h)))))
    have ho1 : Org w0 [] [⟨B, (g.Edges.flatMap enc_Edge)⟩, ⟨B1, (c1.Gates.flatMap enc_Gate)⟩, ⟨B2, (r_.Start.flatMap encI)⟩, ⟨B3, (r_.Steps.flatMap enc_RouteStep)⟩] [⟨B4, (r_7.g.Edges.flatMap enc_Edge)⟩, ⟨B5, (r_7.c.Gates.flatMap enc_Gate)⟩] := org_trans0 hS4 ho (org_cons (org_mem (i := 0) rfl) (org_cons (org_mem (i := 1) rfl) (org_cons (org_mem (i := 2) rfl) (org_cons (org_mem (i := 3) rfl) org_nil))))
    have hS6 : ST w0 [] _ [⟨some ⟨b, 0, none⟩, 100, [.int .i64 g.Nodes, .slice B g.Edges.length c], 2⟩, ⟨some ⟨b1, 0, none⟩, 104, [.int .i64 c1.Qubits, .slice B1 c1.Gates.length c2], 2⟩, ⟨some ⟨b2, 0, none⟩, 108, [.slice B2 r_.Start.length c3, .slice B3 r_.Steps.length c4], 2⟩, ⟨B6, 3, (r_7.place.flatMap encI), c7 * 1⟩, ⟨B7, 4, (r_7.done.flatMap encB), c8 * 1⟩] [⟨B4, (r_7.g.Edges.flatMap enc_Edge)⟩, ⟨B5, (r_7.c.Gates.flatMap enc_Gate)⟩, ⟨B, (g.Edges.flatMap enc_Edge)⟩, ⟨B1, (c1.Gates.flatMap enc_Gate)⟩, ⟨B2, (r_.Start.flatMap encI)⟩, ⟨B3, (r_.Steps.flatMap enc_RouteStep)⟩] := hS5
    have hS6 : ST w0 [] _ [⟨some ⟨b, 0, none⟩, 100, [.int .i64 g.Nodes, .slice B g.Edges.length c], 2⟩, ⟨some ⟨b1, 0, none⟩, 104, [.int .i64 c1.Qubits, .slice B1 c1.Gates.length c2], 2⟩, ⟨some ⟨b2, 0, none⟩, 108, [.slice B2 r_.Start.length c3, .slice B3 r_.Steps.length c4], 2⟩, ⟨B6, 3, (r_7.place.flatMap encI), c7 * 1⟩, ⟨B7, 4, (r_7.done.flatMap encB), c8 * 1⟩] [⟨B4, (r_7.g.Edges.flatMap enc_Edge)⟩, ⟨B5, (r_7.c.Gates.flatMap enc_Gate)⟩, ⟨B, (g.Edges.flatMap enc_Edge)⟩, ⟨B1, (c1.Gates.flatMap enc_Gate)⟩, ⟨B2, (r_.Start.flatMap encI)⟩, ⟨B3, (r_.Steps.flatMap enc_RouteStep)⟩] := hS6
    refine sq 16 rfl rfl (Y_move (v := .tuple #[.int .i64 r_5, .int .i64 r_6, .agg #[.int .i64 r_7.g.Nodes, .slice B4 r_7.g.Edges.length c5, .int .i64 r_7.c.Qubits, .slice B5 r_7.c.Gates.length c6, .slice B6 r_7.place.length c7, .slice B7 r_7.done.length c8]]) rfl rfl) ?_
    refine sq 21 rfl rfl (Y_extract (v := .int .i64 r_5) rfl rfl rfl) ?_
    refine sq 22 rfl rfl (Y_extract (v := .int .i64 r_6) rfl rfl rfl) ?_
    refine sq 23 rfl rfl (Y_extract (v := .agg #[.int .i64 r_7.g.Nodes, .slice B4 r_7.g.Edges.length c5, .int .i64 r_7.c.Qubits, .slice B5 r_7.c.Gates.length c6, .slice B6 r_7.place.length c7, .slice B7 r_7.done.length c8]) rfl rfl rfl) ?_
    refine ss 11 rfl rfl (Ys_alloc (T := 201) (cs := [.int .i64 0, .slice none 0 0, .int .i64 0, .slice none 0 0, .slice none 0 0, .slice none 0 0]) (m := 6) hS6 k_zero_201 rfl rfl rfl) ?_
    rintro _ w_5 ⟨b3, rfl, hS7⟩
    have hS7 : ST w0 [] _ [⟨some ⟨b, 0, none⟩, 100, [.int .i64 g.Nodes, .slice B g.Edges.length c], 2⟩, ⟨some ⟨b1, 0, none⟩, 104, [.int .i64 c1.Qubits, .slice B1 c1.Gates.length c2], 2⟩, ⟨some ⟨b2, 0, none⟩, 108, [.slice B2 r_.Start.length c3, .slice B3 r_.Steps.length c4], 2⟩, ⟨B6, 3, (r_7.place.flatMap encI), c7 * 1⟩, ⟨B7, 4, (r_7.done.flatMap encB), c8 * 1⟩, ⟨some ⟨b3, 0, none⟩, 201, [.int .i64 0, .slice none 0 0, .int .i64 0, .slice none 0 0, .slice none 0 0, .slice none 0 0], 6⟩] [⟨B4, (r_7.g.Edges.flatMap enc_Edge)⟩, ⟨B5, (r_7.c.Gates.flatMap enc_Gate)⟩, ⟨B, (g.Edges.flatMap enc_Edge)⟩, ⟨B1, (c1.Gates.flatMap enc_Gate)⟩, ⟨B2, (r_.Start.flatMap encI)⟩, ⟨B3, (r_.Steps.flatMap enc_RouteStep)⟩] := hS7
    refine sq 9 rfl rfl (Y_assign (v := .int .i64 r_5) rfl rfl) ?_
    refine sq 10 rfl rfl (Y_assign (v := .int .i64 r_6) rfl rfl) ?_
    refine ss0 rfl rfl (Ys_store (i := 5) (s := 6) (B := some ⟨b3, 0, none⟩) (T' := 201) (v := .agg #[.int .i64 r_7.g.Nodes, .slice B4 r_7.g.Edges.length c5, .int .i64 r_7.c.Qubits, .slice B5 r_7.c.Gates.length c6, .slice B6 r_7.place.length c7, .slice B7 r_7.done.length c8]) (vs := [.int .i64 r_7.g.Nodes, .slice B4 r_7.g.Edges.length c5, .int .i64 r_7.c.Qubits, .slice B5 r_7.c.Gates.length c6, .slice B6 r_7.place.length c7, .slice B7 r_7.done.length c8]) (k := 0) (cs' := [.int .i64 r_7.g.Nodes, .slice B4 r_7.g.Edges.length c5, .int .i64 r_7.c.Qubits, .slice B5 r_7.c.Gates.length c6, .slice B6 r_7.place.length c7, .slice B7 r_7.done.length c8]) hS7 k_sz_201_6 rfl rfl rfl rfl rfl rfl rfl (Nat.le_of_ble_eq_true rfl) rfl rfl) ?_
    rintro _ w_6 ⟨rfl, hS8⟩
    have hS8 : ST w0 [] _ [⟨some ⟨b, 0, none⟩, 100, [.int .i64 g.Nodes, .slice B g.Edges.length c], 2⟩, ⟨some ⟨b1, 0, none⟩, 104, [.int .i64 c1.Qubits, .slice B1 c1.Gates.length c2], 2⟩, ⟨some ⟨b2, 0, none⟩, 108, [.slice B2 r_.Start.length c3, .slice B3 r_.Steps.length c4], 2⟩, ⟨B6, 3, (r_7.place.flatMap encI), c7 * 1⟩, ⟨B7, 4, (r_7.done.flatMap encB), c8 * 1⟩, ⟨some ⟨b3, 0, none⟩, 201, [.int .i64 r_7.g.Nodes, .slice B4 r_7.g.Edges.length c5, .int .i64 r_7.c.Qubits, .slice B5 r_7.c.Gates.length c6, .slice B6 r_7.place.length c7, .slice B7 r_7.done.length c8], 6⟩] [⟨B4, (r_7.g.Edges.flatMap enc_Edge)⟩, ⟨B5, (r_7.c.Gates.flatMap enc_Gate)⟩, ⟨B, (g.Edges.flatMap enc_Edge)⟩, ⟨B1, (c1.Gates.flatMap enc_Gate)⟩, ⟨B2, (r_.Start.flatMap encI)⟩, ⟨B3, (r_.Steps.flatMap enc_RouteStep)⟩] := hS8
    refine rw_nil ?_
    refine cw_seq ?_
    refine cw_region ?_
    refine sq 24 rfl rfl (Y_move (v := .int .i64 r_5) rfl rfl) ?_
    refine sq 25 rfl rfl (Y_move (v := .int .i64 r_6) rfl rfl) ?_
    refine sq 6 rfl rfl (Y_assign (v := .int .i64 r_5) rfl rfl) ?_
    refine sq 7 rfl rfl (Y_assign (v := .int .i64 r_6) rfl rfl) ?_
    refine sq 8 rfl rfl (Y_assign (v := .bool true) rfl rfl) ?_
    refine rw_nil ?_
    refine cw_ret ?_
    obtain ⟨rfl, rfl, rfl⟩ := pr3 (some_inj hF2)
    exact ret3 Try.results58 (v1 := .int .i64 r_5) (resAt_tmp rfl) (v2 := .int .i64 r_6) (resAt_tmp rfl) (v3 := .bool true) (resAt_tmp rfl) ⟨rfl, (ST.subR (R' := []) (hS8.sel [] rfl rfl) (fun _ h => by cases h))⟩

theorem c_laws_eqEdge (a : TEdge) (b : TEdge)  (w0 : World)  (hS : ST w0 [] w0 [] []) {r_ : Bool} (hF : F_laws_eqEdge a b = some r_) :
    CV Try.prog 246 #[.agg #[.int .i64 a.A, .int .i64 a.B], .agg #[.int .i64 b.A, .int .i64 b.B]] w0 (fun v w' => v = .bool r_ ∧ ST w0 [] w' [] []) := by
  unfold F_laws_eqEdge at hF
  refine cv_of_cw 15 Try.func246 rfl Try.ntmps246 rfl ?_
  refine cw_seq ?_
  refine cw_region ?_
  refine ss 2 rfl rfl (Ys_box (T := 277) (v := .agg #[.int .i64 a.A, .int .i64 a.B]) (cs := [.int .i64 a.A, .int .i64 a.B]) (m := 2) hS rfl rfl rfl rfl) ?_
  rintro _ w_ ⟨b1, rfl, hS1⟩
  refine ss 3 rfl rfl (Ys_box (T := 277) (v := .agg #[.int .i64 b.A, .int .i64 b.B]) (cs := [.int .i64 b.A, .int .i64 b.B]) (m := 2) hS1 rfl rfl rfl rfl) ?_
  rintro _ w_1 ⟨b2, rfl, hS2⟩
  have hS2 : ST w0 [] _ [⟨some ⟨b1, 0, none⟩, 277, [.int .i64 a.A, .int .i64 a.B], 2⟩, ⟨some ⟨b2, 0, none⟩, 277, [.int .i64 b.A, .int .i64 b.B], 2⟩] [] := hS2
  refine sq 4 rfl rfl (Y_assign (v := .bool false) rfl rfl) ?_
  refine rw_nil ?_
  refine cw_seq ?_
  refine cw_seq ?_
  refine cw_region ?_
  refine sq 5 rfl rfl (Y_fieldAddr (B := some ⟨b1, 0, none⟩) (i := 0) (s := 0) k_fd_277_0_0_3 k_sz_3_1 rfl rfl) ?_
  refine sq 6 rfl rfl (Y_load1 (B := some ⟨b1, 0, none⟩) (i := 0) (cs := [.int .i64 a.A, .int .i64 a.B]) (v := .int .i64 a.A) k_sc_3 rfl rfl (hS2.cf (i := 0) rfl) rfl) ?_
  refine sq 7 rfl rfl (Y_fieldAddr (B := some ⟨b2, 0, none⟩) (i := 0) (s := 0) k_fd_277_0_0_3 k_sz_3_1 rfl rfl) ?_
  refine sq 8 rfl rfl (Y_load1 (B := some ⟨b2, 0, none⟩) (i := 0) (cs := [.int .i64 b.A, .int .i64 b.B]) (v := .int .i64 b.A) k_sc_3 rfl rfl (hS2.cf (i := 1) rfl) rfl) ?_
  refine sq 9 rfl rfl (Y_ne (k := .i64) (a := a.A) (b := b.A) rfl rfl rfl) ?_
  refine rw_nil ?_
  refine cw_cond (b := (a.A != b.A)) rfl (fun hb => ?_) (fun hb => ?_)
  · skip
    have hF1 := ct hF hb
    refine cw_seq ?_
    refine cw_region ?_
    refine sq 4 rfl rfl (Y_assign (v := .bool false) rfl rfl) ?_
    refine rw_nil ?_
    refine cw_ret ?_
    obtain rfl := some_inj hF1
    exact ret1 Try.results246 (v1 := .bool false) (resAt_tmp rfl) ⟨rfl, (ST.subR (R' := []) (hS2.sel [] rfl rfl) (fun _ h => by cases h))⟩
  · skip
    have hF2 := cf' hF hb
    refine cw_skip ?_
    refine cw_seq ?_
    refine cw_seq ?_
    refine cw_region ?_
    refine sq 10 rfl rfl (Y_fieldAddr (B := some ⟨b1, 0, none⟩) (i := 0) (s := 0) k_fd_277_1_1_3 k_sz_3_1 rfl rfl) ?_
    refine sq 11 rfl rfl (Y_load1 (B := some ⟨b1, 0, none⟩) (i := 1) (cs := [.int .i64 a.A, .int .i64 a.B]) (v := .int .i64 a.B) k_sc_3 rfl rfl (hS2.cf (i := 0) rfl) rfl) ?_
    refine sq 12 rfl rfl (Y_fieldAddr (B := some ⟨b2, 0, none⟩) (i := 0) (s := 0) k_fd_277_1_1_3 k_sz_3_1 rfl rfl) ?_
    refine sq 13 rfl rfl (Y_load1 (B := some ⟨b2, 0, none⟩) (i := 1) (cs := [.int .i64 b.A, .int .i64 b.B]) (v := .int .i64 b.B) k_sc_3 rfl rfl (hS2.cf (i := 1) rfl) rfl) ?_
    refine sq 14 rfl rfl (Y_ne (k := .i64) (a := a.B) (b := b.B) rfl rfl rfl) ?_
    refine rw_nil ?_
    refine cw_cond (b := (a.B != b.B)) rfl (fun hb1 => ?_) (fun hb1 => ?_)
    · skip
      have hF3 := ct hF2 hb1
      refine cw_seq ?_
      refine cw_region ?_
      refine sq 4 rfl rfl (Y_assign (v := .bool false) rfl rfl) ?_
      refine rw_nil ?_
      refine cw_ret ?_
      obtain rfl := some_inj hF3
      exact ret1 Try.results246 (v1 := .bool false) (resAt_tmp rfl) ⟨rfl, (ST.subR (R' := []) (hS2.sel [] rfl rfl) (fun _ h => by cases h))⟩
    · skip
      have hF4 := cf' hF2 hb1
      refine cw_skip ?_
      refine cw_seq ?_
      refine cw_region ?_
      refine sq 4 rfl rfl (Y_assign (v := .bool true) rfl rfl) ?_
      refine rw_nil ?_
      refine cw_ret ?_
      obtain rfl := some_inj hF4
      exact ret1 Try.results246 (v1 := .bool true) (resAt_tmp rfl) ⟨rfl, (ST.subR (R' := []) (hS2.sel [] rfl rfl) (fun _ h => by cases h))⟩

theorem c_laws_eqEdgeS (a : List TEdge) (b : List TEdge) (B : Option Addr) (c n : Nat) (B1 : Option Addr) (c1 n1 : Nat) (w0 : World) (hn : a.length = n) (hn1 : b.length = n1) (hS : ST w0 [] w0 [] [⟨B, (a.flatMap enc_Edge)⟩, ⟨B1, (b.flatMap enc_Edge)⟩]) {r_ : Bool} (hF : F_laws_eqEdgeS a b = some r_) :
    CV Try.prog 156 #[.slice B n c, .slice B1 n1 c1] w0 (fun v w' => v = .bool r_ ∧ ST w0 [] w' [] []) := by
  subst hn
  subst hn1
  unfold F_laws_eqEdgeS at hF
  refine cv_of_cw 27 Try.func156 rfl Try.ntmps156 rfl ?_
  refine cw_seq ?_
  refine cw_region ?_
  refine sq 4 rfl rfl (Y_assign (v := .bool false) rfl rfl) ?_
  refine rw_nil ?_
  refine cw_seq ?_
  refine cw_seq ?_
  refine cw_region ?_
  refine sq 6 rfl rfl (Y_move (v := .slice B a.length c) rfl rfl) ?_
  refine sq 7 rfl rfl (Y_len (B := B) (m := a.length) (c := c) k_sl_98_277 rfl rfl) ?_
  refine sq 8 rfl rfl (Y_move (v := .slice B1 b.length c1) rfl rfl) ?_
  refine sq 9 rfl rfl (Y_len (B := B1) (m := b.length) (c := c1) k_sl_98_277 rfl rfl) ?_
  refine sq 10 rfl rfl (Y_ne (k := .i64) (a := (a.length : Int)) (b := (b.length : Int)) rfl rfl rfl) ?_
  refine rw_nil ?_
  refine cw_cond (b := ((a.length : Int) != (b.length : Int))) rfl (fun hb => ?_) (fun hb => ?_)
  · skip
    have hF1 := ct hF hb
    refine cw_seq ?_
    refine cw_region ?_
    refine sq 4 rfl rfl (Y_assign (v := .bool false) rfl rfl) ?_
    refine rw_nil ?_
    refine cw_ret ?_
    obtain rfl := some_inj hF1
    exact ret1 Try.results156 (v1 := .bool false) (resAt_tmp rfl) ⟨rfl, (ST.subR (R' := []) (hS.sel [] rfl rfl) (fun _ h => by cases h))⟩
  · skip
    have hF2 := cf' hF hb
    refine cw_skip ?_
    refine cw_seq ?_
    refine cw_seq ?_
    refine cw_region ?_
    refine sq 5 rfl rfl (Y_assign (v := .int .i64 0) rfl rfl) ?_
    refine rw_nil ?_
    obtain ⟨hN, hF2⟩ := chk_inv hF2
    obtain ⟨z, hz, hF3⟩ := bind_inv hF2
    refine cw_block ?_
    refine cw_loop (fun k f w => ∃ (i1 : Nat), FF f [(0, .slice B a.length c), (1, .slice B1 b.length c1), (5, .int .i64 (i1 : Int))] ∧ ST w0 [] w [] [⟨B, (a.flatMap enc_Edge)⟩, ⟨B1, (b.flatMap enc_Edge)⟩] ∧ i1 + k = a.length ∧ forX (F_laws_eqEdgeS_l1 a b) k i1 () = some z) a.length ⟨0, (FF.cons rfl (FF.cons rfl (FF.cons rfl FF.nil))), (hS.sel [] rfl rfl), Nat.zero_add _, hz⟩ ?_
    rintro k_ f w ⟨i1, hf, hS1, hik, hL⟩
    refine cw_seq ?_
    refine cw_seq ?_
    refine cw_region ?_
    refine sq 11 rfl rfl (Y_move (v := .int .i64 (i1 : Int)) rfl (hf.get 5 2 rfl)) ?_
    refine sq 12 rfl rfl (Y_move (v := .slice B a.length c) rfl (hf.get 0 0 rfl)) ?_
    refine sq 13 rfl rfl (Y_len (B := B) (m := a.length) (c := c) k_sl_98_277 rfl rfl) ?_
    refine sq 14 rfl rfl (Y_lt (k := .i64) (a := (i1 : Int)) (b := (a.length : Int)) rfl rfl rfl) ?_
    refine rw_nil ?_
    refine cw_cond (b := (decide ((i1 : Int) < (a.length : Int)))) rfl (fun hlt => ?_) (fun hlt => ?_)
    · skip
      have hlt1 : i1 < a.length := by have h := of_decide_eq_true hlt; omega
      obtain ⟨k_1, rfl⟩ : ∃ k2, k_ = k2 + 1 := ⟨k_ - 1, by omega⟩
      obtain ⟨y, hb1, hL1⟩ := forX_go hL
      unfold F_laws_eqEdgeS_l1 at hb1
      refine cw_skip ?_
      refine cw_seq ?_
      refine cw_block ?_
      refine cw_seq ?_
      obtain ⟨x, hx, hb1⟩ := bind_inv hb1
      obtain ⟨x1, hx1, hb1⟩ := bind_inv hb1
      obtain ⟨r_1, hc, hb1⟩ := bind_inv hb1
      refine ra_start (ST.sel hS1 [] rfl rfl).fn (by kernel_rfl) ?_
      have hS3 := hS1.drew
      refine ra_q 0 17 (v := .slice B a.length c) rfl rfl rfl (by kernel_rfl) (by kernel_rfl) (by kernel_rfl) (ST.sel hS3 [] rfl rfl) (fun w' hw' => (Y_move (v := .slice B a.length c) rfl (hf.get 0 0 rfl))) ?_
      refine ra_q 1 18 (v := .int .i64 (i1 : Int)) rfl rfl rfl (by kernel_rfl) (by kernel_rfl) (by kernel_rfl) (ST.sel hS3 [] rfl rfl) (fun w' hw' => (Y_move (v := .int .i64 (i1 : Int)) rfl (hf.get 5 2 rfl))) ?_
      refine ra_q 2 19 (v := pt B ((i1 : Int).toNat * 2)) rfl rfl rfl (by kernel_rfl) (by kernel_rfl) (by kernel_rfl) (ST.sel hS3 [] rfl rfl) (fun w' hw' => (Y_index (B := B) (m := a.length) (c := c) (k := .i64) (i := (i1 : Int)) k_sl_98_277 k_sz_277_2 rfl rfl rfl (gi_isSome enc_Edge_len rfl (ST.rf hw' (i := 0) rfl) hx) (getI_nn hx) (getI_ltI hx rfl))) ?_
      refine ra_q 3 20 (v := .agg #[.int .i64 x.A, .int .i64 x.B]) rfl rfl rfl (by kernel_rfl) (by kernel_rfl) (by kernel_rfl) (ST.sel hS3 [] rfl rfl) (fun w' hw' => (Y_loadA (B := B) (i := (i1 : Int).toNat * 2) (cs := (a.flatMap enc_Edge)) (vs := [.int .i64 x.A, .int .i64 x.B]) k_ag_277 k_sz_277_2 rfl rfl (ST.rf hw' (i := 0) rfl) (enc_Edge_len x) (gi_seg enc_Edge_len hx))) ?_
      refine ra_q 4 21 (v := .slice B1 b.length c1) rfl rfl rfl (by kernel_rfl) (by kernel_rfl) (by kernel_rfl) (ST.sel hS3 [] rfl rfl) (fun w' hw' => (Y_move (v := .slice B1 b.length c1) rfl (hf.get 1 1 rfl))) ?_
      refine ra_q 5 22 (v := .int .i64 (i1 : Int)) rfl rfl rfl (by kernel_rfl) (by kernel_rfl) (by kernel_rfl) (ST.sel hS3 [] rfl rfl) (fun w' hw' => (Y_move (v := .int .i64 (i1 : Int)) rfl (hf.get 5 2 rfl))) ?_
      refine ra_q 6 23 (v := pt B1 ((i1 : Int).toNat * 2)) rfl rfl rfl (by kernel_rfl) (by kernel_rfl) (by kernel_rfl) (ST.sel hS3 [] rfl rfl) (fun w' hw' => (Y_index (B := B1) (m := b.length) (c := c1) (k := .i64) (i := (i1 : Int)) k_sl_98_277 k_sz_277_2 rfl rfl rfl (gi_isSome enc_Edge_len rfl (ST.rf hw' (i := 1) rfl) hx1) (getI_nn hx1) (getI_ltI hx1 rfl))) ?_
      refine ra_q 7 24 (v := .agg #[.int .i64 x1.A, .int .i64 x1.B]) rfl rfl rfl (by kernel_rfl) (by kernel_rfl) (by kernel_rfl) (ST.sel hS3 [] rfl rfl) (fun w' hw' => (Y_loadA (B := B1) (i := (i1 : Int).toNat * 2) (cs := (b.flatMap enc_Edge)) (vs := [.int .i64 x1.A, .int .i64 x1.B]) k_ag_277 k_sz_277_2 rfl rfl (ST.rf hw' (i := 1) rfl) (enc_Edge_len x1) (gi_seg enc_Edge_len hx1))) ?_
      refine ra_all (rs := [8]) (by kernel_rfl) rfl ?_
      refine ra_c 25 (i := 8) rfl rfl rfl (Yc_func (g := 246) (vs := [.agg #[.int .i64 x.A, .int .i64 x.B], .agg #[.int .i64 x1.A, .int .i64 x1.B]]) k_call_246 rfl (mc rfl (mc rfl mn)) (c_laws_eqEdge x x1 _  (hS3.inn0 [] rfl) hc)) ?_ ?_
      · rintro _ w_ ⟨rfl, hd⟩
        have hS4 := hS3.out00 hd
        refine ⟨(ST.sel hS4 [] rfl rfl), ?_⟩
        refine ra_q 9 26 (v := .bool (!r_1)) rfl rfl rfl (by kernel_rfl) (by kernel_rfl) (by kernel_rfl) (ST.sel hS4 [] rfl rfl) (fun w' hw' => (Y_not (p := r_1) rfl rfl)) ?_
        refine ra_done (by kernel_rfl) ?_
        refine cw_cond (b := (!r_1)) rfl (fun hb2 => ?_) (fun hb2 => ?_)
        · skip
          have hF4 := ct hb1 hb2
          refine cw_seq ?_
          refine cw_region ?_
          refine sq 4 rfl rfl (Y_assign (v := .bool false) rfl rfl) ?_
          refine rw_nil ?_
          refine cw_ret ?_
          obtain rfl := some_inj hF4
          obtain rfl := some_inj hL1
          obtain rfl := some_inj hF3
          exact ret1 Try.results156 (v1 := .bool false) (resAt_tmp rfl) ⟨rfl, (ST.subR (R' := []) (hS4.sel [] rfl rfl) (fun _ h => by cases h))⟩
        · skip
          have hF5 := cf' hb1 hb2
          refine cw_skip ?_
          refine cw_region ?_
          refine sq 15 rfl rfl (Y_move (v := .int .i64 (i1 : Int)) rfl (hf.get 5 2 rfl)) ?_
          refine sq 16 rfl rfl (Y_add (k := .i64) (a := (i1 : Int)) (b := 1) rfl rfl rfl) ?_
          refine sq 5 rfl rfl (Y_assign (v := .int .i64 (IntKind.i64.wrap ((i1 : Int) + 1))) rfl rfl) ?_
          refine rw_nil ?_
          obtain rfl := some_inj hF5
          exact ⟨k_1, Nat.lt_succ_self _, i1 + 1, (FF.cons (hf.get 0 0 rfl) (FF.cons (hf.get 1 1 rfl) (FF.cons (congrArg (Value.int .i64) (wr_succ hlt1 hN)) FF.nil))), (hS4.sel [] rfl rfl), (by omega), hL1⟩
      exact allR_nil
    · skip
      obtain rfl : k_ = 0 := by have h := of_decide_eq_false hlt; omega
      refine cw_exit rfl ?_
      obtain rfl := some_inj hL
      refine cw_seq ?_
      refine cw_region ?_
      refine sq 4 rfl rfl (Y_assign (v := .bool true) rfl rfl) ?_
      refine rw_nil ?_
      refine cw_ret ?_
      obtain rfl := some_inj hF3
      exact ret1 Try.results156 (v1 := .bool true) (resAt_tmp rfl) ⟨rfl, (ST.subR (R' := []) (hS1.sel [] rfl rfl) (fun _ h => by cases h))⟩

theorem c_laws_eqCouplingGraph (a : TCouplingGraph) (b : TCouplingGraph) (B : Option Addr) (c n : Nat) (B1 : Option Addr) (c1 n1 : Nat) (w0 : World) (hn : a.Edges.length = n) (hn1 : b.Edges.length = n1) (hS : ST w0 [] w0 [] [⟨B, (a.Edges.flatMap enc_Edge)⟩, ⟨B1, (b.Edges.flatMap enc_Edge)⟩]) {r_ : Bool} (hF : F_laws_eqCouplingGraph a b = some r_) :
    CV Try.prog 59 #[.agg #[.int .i64 a.Nodes, .slice B n c], .agg #[.int .i64 b.Nodes, .slice B1 n1 c1]] w0 (fun v w' => v = .bool r_ ∧ ST w0 [] w' [] []) := by
  subst hn
  subst hn1
  unfold F_laws_eqCouplingGraph at hF
  refine cv_of_cw 16 Try.func59 rfl Try.ntmps59 rfl ?_
  refine cw_seq ?_
  refine cw_region ?_
  refine ss 2 rfl rfl (Ys_box (T := 100) (v := .agg #[.int .i64 a.Nodes, .slice B a.Edges.length c]) (cs := [.int .i64 a.Nodes, .slice B a.Edges.length c]) (m := 2) hS rfl rfl rfl rfl) ?_
  rintro _ w_ ⟨b1, rfl, hS1⟩
  refine ss 3 rfl rfl (Ys_box (T := 100) (v := .agg #[.int .i64 b.Nodes, .slice B1 b.Edges.length c1]) (cs := [.int .i64 b.Nodes, .slice B1 b.Edges.length c1]) (m := 2) hS1 rfl rfl rfl rfl) ?_
  rintro _ w_1 ⟨b2, rfl, hS2⟩
  have hS2 : ST w0 [] _ [⟨some ⟨b1, 0, none⟩, 100, [.int .i64 a.Nodes, .slice B a.Edges.length c], 2⟩, ⟨some ⟨b2, 0, none⟩, 100, [.int .i64 b.Nodes, .slice B1 b.Edges.length c1], 2⟩] [⟨B, (a.Edges.flatMap enc_Edge)⟩, ⟨B1, (b.Edges.flatMap enc_Edge)⟩] := hS2
  refine sq 4 rfl rfl (Y_assign (v := .bool false) rfl rfl) ?_
  refine rw_nil ?_
  refine cw_seq ?_
  refine cw_seq ?_
  refine cw_region ?_
  refine sq 5 rfl rfl (Y_fieldAddr (B := some ⟨b1, 0, none⟩) (i := 0) (s := 0) k_fd_100_0_0_3 k_sz_3_1 rfl rfl) ?_
  refine sq 6 rfl rfl (Y_load1 (B := some ⟨b1, 0, none⟩) (i := 0) (cs := [.int .i64 a.Nodes, .slice B a.Edges.length c]) (v := .int .i64 a.Nodes) k_sc_3 rfl rfl (hS2.cf (i := 0) rfl) rfl) ?_
  refine sq 7 rfl rfl (Y_fieldAddr (B := some ⟨b2, 0, none⟩) (i := 0) (s := 0) k_fd_100_0_0_3 k_sz_3_1 rfl rfl) ?_
  refine sq 8 rfl rfl (Y_load1 (B := some ⟨b2, 0, none⟩) (i := 0) (cs := [.int .i64 b.Nodes, .slice B1 b.Edges.length c1]) (v := .int .i64 b.Nodes) k_sc_3 rfl rfl (hS2.cf (i := 1) rfl) rfl) ?_
  refine sq 9 rfl rfl (Y_ne (k := .i64) (a := a.Nodes) (b := b.Nodes) rfl rfl rfl) ?_
  refine rw_nil ?_
  refine cw_cond (b := (a.Nodes != b.Nodes)) rfl (fun hb => ?_) (fun hb => ?_)
  · skip
    have hF1 := ct hF hb
    refine cw_seq ?_
    refine cw_region ?_
    refine sq 4 rfl rfl (Y_assign (v := .bool false) rfl rfl) ?_
    refine rw_nil ?_
    refine cw_ret ?_
    obtain rfl := some_inj hF1
    exact ret1 Try.results59 (v1 := .bool false) (resAt_tmp rfl) ⟨rfl, (ST.subR (R' := []) (hS2.sel [] rfl rfl) (fun _ h => by cases h))⟩
  · skip
    have hF2 := cf' hF hb
    refine cw_skip ?_
    refine cw_seq ?_
    refine cw_seq ?_
    refine cw_region ?_
    refine sq 10 rfl rfl (Y_fieldAddr (B := some ⟨b1, 0, none⟩) (i := 0) (s := 0) k_fd_100_1_1_98 k_sz_98_1 rfl rfl) ?_
    refine sq 11 rfl rfl (Y_load1 (B := some ⟨b1, 0, none⟩) (i := 1) (cs := [.int .i64 a.Nodes, .slice B a.Edges.length c]) (v := .slice B a.Edges.length c) k_sc_98 rfl rfl (hS2.cf (i := 0) rfl) rfl) ?_
    refine sq 12 rfl rfl (Y_fieldAddr (B := some ⟨b2, 0, none⟩) (i := 0) (s := 0) k_fd_100_1_1_98 k_sz_98_1 rfl rfl) ?_
    refine sq 13 rfl rfl (Y_load1 (B := some ⟨b2, 0, none⟩) (i := 1) (cs := [.int .i64 b.Nodes, .slice B1 b.Edges.length c1]) (v := .slice B1 b.Edges.length c1) k_sc_98 rfl rfl (hS2.cf (i := 1) rfl) rfl) ?_
    obtain ⟨r_1, hc, hF2⟩ := bind_inv hF2
    refine sc 14 rfl rfl (Yc_func (g := 156) (vs := [.slice B a.Edges.length c, .slice B1 b.Edges.length c1]) k_call_156 rfl (mc rfl (mc rfl mn)) (c_laws_eqEdgeS a.Edges b.Edges B c a.Edges.length B1 c1 b.Edges.length _ rfl rfl (hS2.inn0 [(true, 0), (true, 1)] rfl) hc)) ?_
    rintro _ w_2 ⟨rfl, hd⟩
    have hS3 := hS2.out00 hd
    have hS3 : ST w0 [] _ [⟨some ⟨b1, 0, none⟩, 100, [.int .i64 a.Nodes, .slice B a.Edges.length c], 2⟩, ⟨some ⟨b2, 0, none⟩, 100, [.int .i64 b.Nodes, .slice B1 b.Edges.length c1], 2⟩] [⟨B, (a.Edges.flatMap enc_Edge)⟩, ⟨B1, (b.Edges.flatMap enc_Edge)⟩] := hS3
    refine sq 15 rfl rfl (Y_not (p := r_1) rfl rfl) ?_
    refine rw_nil ?_
    refine cw_cond (b := (!r_1)) rfl (fun hb1 => ?_) (fun hb1 => ?_)
    · skip
      have hF3 := ct hF2 hb1
      refine cw_seq ?_
      refine cw_region ?_
      refine sq 4 rfl rfl (Y_assign (v := .bool false) rfl rfl) ?_
      refine rw_nil ?_
      refine cw_ret ?_
      obtain rfl := some_inj hF3
      exact ret1 Try.results59 (v1 := .bool false) (resAt_tmp rfl) ⟨rfl, (ST.subR (R' := []) (hS3.sel [] rfl rfl) (fun _ h => by cases h))⟩
    · skip
      have hF4 := cf' hF2 hb1
      refine cw_skip ?_
      refine cw_seq ?_
      refine cw_region ?_
      refine sq 4 rfl rfl (Y_assign (v := .bool true) rfl rfl) ?_
      refine rw_nil ?_
      refine cw_ret ?_
      obtain rfl := some_inj hF4
      exact ret1 Try.results59 (v1 := .bool true) (resAt_tmp rfl) ⟨rfl, (ST.subR (R' := []) (hS3.sel [] rfl rfl) (fun _ h => by cases h))⟩

theorem c_laws_eqGate (a : TGate) (b : TGate)  (w0 : World)  (hS : ST w0 [] w0 [] []) {r_ : Bool} (hF : F_laws_eqGate a b = some r_) :
    CV Try.prog 247 #[.agg #[.int .i64 a.Kind, .int .i64 a.A, .int .i64 a.B], .agg #[.int .i64 b.Kind, .int .i64 b.A, .int .i64 b.B]] w0 (fun v w' => v = .bool r_ ∧ ST w0 [] w' [] []) := by
  unfold F_laws_eqGate at hF
  refine cv_of_cw 20 Try.func247 rfl Try.ntmps247 rfl ?_
  refine cw_seq ?_
  refine cw_region ?_
  refine ss 2 rfl rfl (Ys_box (T := 213) (v := .agg #[.int .i64 a.Kind, .int .i64 a.A, .int .i64 a.B]) (cs := [.int .i64 a.Kind, .int .i64 a.A, .int .i64 a.B]) (m := 3) hS rfl rfl rfl rfl) ?_
  rintro _ w_ ⟨b1, rfl, hS1⟩
  refine ss 3 rfl rfl (Ys_box (T := 213) (v := .agg #[.int .i64 b.Kind, .int .i64 b.A, .int .i64 b.B]) (cs := [.int .i64 b.Kind, .int .i64 b.A, .int .i64 b.B]) (m := 3) hS1 rfl rfl rfl rfl) ?_
  rintro _ w_1 ⟨b2, rfl, hS2⟩
  have hS2 : ST w0 [] _ [⟨some ⟨b1, 0, none⟩, 213, [.int .i64 a.Kind, .int .i64 a.A, .int .i64 a.B], 3⟩, ⟨some ⟨b2, 0, none⟩, 213, [.int .i64 b.Kind, .int .i64 b.A, .int .i64 b.B], 3⟩] [] := hS2
  refine sq 4 rfl rfl (Y_assign (v := .bool false) rfl rfl) ?_
  refine rw_nil ?_
  refine cw_seq ?_
  refine cw_seq ?_
  refine cw_region ?_
  refine sq 5 rfl rfl (Y_fieldAddr (B := some ⟨b1, 0, none⟩) (i := 0) (s := 0) k_fd_213_0_0_3 k_sz_3_1 rfl rfl) ?_
  refine sq 6 rfl rfl (Y_load1 (B := some ⟨b1, 0, none⟩) (i := 0) (cs := [.int .i64 a.Kind, .int .i64 a.A, .int .i64 a.B]) (v := .int .i64 a.Kind) k_sc_3 rfl rfl (hS2.cf (i := 0) rfl) rfl) ?_
  refine sq 7 rfl rfl (Y_fieldAddr (B := some ⟨b2, 0, none⟩) (i := 0) (s := 0) k_fd_213_0_0_3 k_sz_3_1 rfl rfl) ?_
  refine sq 8 rfl rfl (Y_load1 (B := some ⟨b2, 0, none⟩) (i := 0) (cs := [.int .i64 b.Kind, .int .i64 b.A, .int .i64 b.B]) (v := .int .i64 b.Kind) k_sc_3 rfl rfl (hS2.cf (i := 1) rfl) rfl) ?_
  refine sq 9 rfl rfl (Y_ne (k := .i64) (a := a.Kind) (b := b.Kind) rfl rfl rfl) ?_
  refine rw_nil ?_
  refine cw_cond (b := (a.Kind != b.Kind)) rfl (fun hb => ?_) (fun hb => ?_)
  · skip
    have hF1 := ct hF hb
    refine cw_seq ?_
    refine cw_region ?_
    refine sq 4 rfl rfl (Y_assign (v := .bool false) rfl rfl) ?_
    refine rw_nil ?_
    refine cw_ret ?_
    obtain rfl := some_inj hF1
    exact ret1 Try.results247 (v1 := .bool false) (resAt_tmp rfl) ⟨rfl, (ST.subR (R' := []) (hS2.sel [] rfl rfl) (fun _ h => by cases h))⟩
  · skip
    have hF2 := cf' hF hb
    refine cw_skip ?_
    refine cw_seq ?_
    refine cw_seq ?_
    refine cw_region ?_
    refine sq 10 rfl rfl (Y_fieldAddr (B := some ⟨b1, 0, none⟩) (i := 0) (s := 0) k_fd_213_1_1_3 k_sz_3_1 rfl rfl) ?_
    refine sq 11 rfl rfl (Y_load1 (B := some ⟨b1, 0, none⟩) (i := 1) (cs := [.int .i64 a.Kind, .int .i64 a.A, .int .i64 a.B]) (v := .int .i64 a.A) k_sc_3 rfl rfl (hS2.cf (i := 0) rfl) rfl) ?_
    refine sq 12 rfl rfl (Y_fieldAddr (B := some ⟨b2, 0, none⟩) (i := 0) (s := 0) k_fd_213_1_1_3 k_sz_3_1 rfl rfl) ?_
    refine sq 13 rfl rfl (Y_load1 (B := some ⟨b2, 0, none⟩) (i := 1) (cs := [.int .i64 b.Kind, .int .i64 b.A, .int .i64 b.B]) (v := .int .i64 b.A) k_sc_3 rfl rfl (hS2.cf (i := 1) rfl) rfl) ?_
    refine sq 14 rfl rfl (Y_ne (k := .i64) (a := a.A) (b := b.A) rfl rfl rfl) ?_
    refine rw_nil ?_
    refine cw_cond (b := (a.A != b.A)) rfl (fun hb1 => ?_) (fun hb1 => ?_)
    · skip
      have hF3 := ct hF2 hb1
      refine cw_seq ?_
      refine cw_region ?_
      refine sq 4 rfl rfl (Y_assign (v := .bool false) rfl rfl) ?_
      refine rw_nil ?_
      refine cw_ret ?_
      obtain rfl := some_inj hF3
      exact ret1 Try.results247 (v1 := .bool false) (resAt_tmp rfl) ⟨rfl, (ST.subR (R' := []) (hS2.sel [] rfl rfl) (fun _ h => by cases h))⟩
    · skip
      have hF4 := cf' hF2 hb1
      refine cw_skip ?_
      refine cw_seq ?_
      refine cw_seq ?_
      refine cw_region ?_
      refine sq 15 rfl rfl (Y_fieldAddr (B := some ⟨b1, 0, none⟩) (i := 0) (s := 0) k_fd_213_2_2_3 k_sz_3_1 rfl rfl) ?_
      refine sq 16 rfl rfl (Y_load1 (B := some ⟨b1, 0, none⟩) (i := 2) (cs := [.int .i64 a.Kind, .int .i64 a.A, .int .i64 a.B]) (v := .int .i64 a.B) k_sc_3 rfl rfl (hS2.cf (i := 0) rfl) rfl) ?_
      refine sq 17 rfl rfl (Y_fieldAddr (B := some ⟨b2, 0, none⟩) (i := 0) (s := 0) k_fd_213_2_2_3 k_sz_3_1 rfl rfl) ?_
      refine sq 18 rfl rfl (Y_load1 (B := some ⟨b2, 0, none⟩) (i := 2) (cs := [.int .i64 b.Kind, .int .i64 b.A, .int .i64 b.B]) (v := .int .i64 b.B) k_sc_3 rfl rfl (hS2.cf (i := 1) rfl) rfl) ?_
      refine sq 19 rfl rfl (Y_ne (k := .i64) (a := a.B) (b := b.B) rfl rfl rfl) ?_
      refine rw_nil ?_
      refine cw_cond (b := (a.B != b.B)) rfl (fun hb2 => ?_) (fun hb2 => ?_)
      · skip
        have hF5 := ct hF4 hb2
        refine cw_seq ?_
        refine cw_region ?_
        refine sq 4 rfl rfl (Y_assign (v := .bool false) rfl rfl) ?_
        refine rw_nil ?_
        refine cw_ret ?_
        obtain rfl := some_inj hF5
        exact ret1 Try.results247 (v1 := .bool false) (resAt_tmp rfl) ⟨rfl, (ST.subR (R' := []) (hS2.sel [] rfl rfl) (fun _ h => by cases h))⟩
      · skip
        have hF6 := cf' hF4 hb2
        refine cw_skip ?_
        refine cw_seq ?_
        refine cw_region ?_
        refine sq 4 rfl rfl (Y_assign (v := .bool true) rfl rfl) ?_
        refine rw_nil ?_
        refine cw_ret ?_
        obtain rfl := some_inj hF6
        exact ret1 Try.results247 (v1 := .bool true) (resAt_tmp rfl) ⟨rfl, (ST.subR (R' := []) (hS2.sel [] rfl rfl) (fun _ h => by cases h))⟩

theorem c_laws_eqGateS (a : List TGate) (b : List TGate) (B : Option Addr) (c n : Nat) (B1 : Option Addr) (c1 n1 : Nat) (w0 : World) (hn : a.length = n) (hn1 : b.length = n1) (hS : ST w0 [] w0 [] [⟨B, (a.flatMap enc_Gate)⟩, ⟨B1, (b.flatMap enc_Gate)⟩]) {r_ : Bool} (hF : F_laws_eqGateS a b = some r_) :
    CV Try.prog 157 #[.slice B n c, .slice B1 n1 c1] w0 (fun v w' => v = .bool r_ ∧ ST w0 [] w' [] []) := by
  subst hn
  subst hn1
  unfold F_laws_eqGateS at hF
  refine cv_of_cw 27 Try.func157 rfl Try.ntmps157 rfl ?_
  refine cw_seq ?_
  refine cw_region ?_
  refine sq 4 rfl rfl (Y_assign (v := .bool false) rfl rfl) ?_
  refine rw_nil ?_
  refine cw_seq ?_
  refine cw_seq ?_
  refine cw_region ?_
  refine sq 6 rfl rfl (Y_move (v := .slice B a.length c) rfl rfl) ?_
  refine sq 7 rfl rfl (Y_len (B := B) (m := a.length) (c := c) k_sl_102_213 rfl rfl) ?_
  refine sq 8 rfl rfl (Y_move (v := .slice B1 b.length c1) rfl rfl) ?_
  refine sq 9 rfl rfl (Y_len (B := B1) (m := b.length) (c := c1) k_sl_102_213 rfl rfl) ?_
  refine sq 10 rfl rfl (Y_ne (k := .i64) (a := (a.length : Int)) (b := (b.length : Int)) rfl rfl rfl) ?_
  refine rw_nil ?_
  refine cw_cond (b := ((a.length : Int) != (b.length : Int))) rfl (fun hb => ?_) (fun hb => ?_)
  · skip
    have hF1 := ct hF hb
    refine cw_seq ?_
    refine cw_region ?_
    refine sq 4 rfl rfl (Y_assign (v := .bool false) rfl rfl) ?_
    refine rw_nil ?_
    refine cw_ret ?_
    obtain rfl := some_inj hF1
    exact ret1 Try.results157 (v1 := .bool false) (resAt_tmp rfl) ⟨rfl, (ST.subR (R' := []) (hS.sel [] rfl rfl) (fun _ h => by cases h))⟩
  · skip
    have hF2 := cf' hF hb
    refine cw_skip ?_
    refine cw_seq ?_
    refine cw_seq ?_
    refine cw_region ?_
    refine sq 5 rfl rfl (Y_assign (v := .int .i64 0) rfl rfl) ?_
    refine rw_nil ?_
    obtain ⟨hN, hF2⟩ := chk_inv hF2
    obtain ⟨z, hz, hF3⟩ := bind_inv hF2
    refine cw_block ?_
    refine cw_loop (fun k f w => ∃ (i1 : Nat), FF f [(0, .slice B a.length c), (1, .slice B1 b.length c1), (5, .int .i64 (i1 : Int))] ∧ ST w0 [] w [] [⟨B, (a.flatMap enc_Gate)⟩, ⟨B1, (b.flatMap enc_Gate)⟩] ∧ i1 + k = a.length ∧ forX (F_laws_eqGateS_l1 a b) k i1 () = some z) a.length ⟨0, (FF.cons rfl (FF.cons rfl (FF.cons rfl FF.nil))), (hS.sel [] rfl rfl), Nat.zero_add _, hz⟩ ?_
    rintro k_ f w ⟨i1, hf, hS1, hik, hL⟩
    refine cw_seq ?_
    refine cw_seq ?_
    refine cw_region ?_
    refine sq 11 rfl rfl (Y_move (v := .int .i64 (i1 : Int)) rfl (hf.get 5 2 rfl)) ?_
    refine sq 12 rfl rfl (Y_move (v := .slice B a.length c) rfl (hf.get 0 0 rfl)) ?_
    refine sq 13 rfl rfl (Y_len (B := B) (m := a.length) (c := c) k_sl_102_213 rfl rfl) ?_
    refine sq 14 rfl rfl (Y_lt (k := .i64) (a := (i1 : Int)) (b := (a.length : Int)) rfl rfl rfl) ?_
    refine rw_nil ?_
    refine cw_cond (b := (decide ((i1 : Int) < (a.length : Int)))) rfl (fun hlt => ?_) (fun hlt => ?_)
    · skip
      have hlt1 : i1 < a.length := by have h := of_decide_eq_true hlt; omega
      obtain ⟨k_1, rfl⟩ : ∃ k2, k_ = k2 + 1 := ⟨k_ - 1, by omega⟩
      obtain ⟨y, hb1, hL1⟩ := forX_go hL
      unfold F_laws_eqGateS_l1 at hb1
      refine cw_skip ?_
      refine cw_seq ?_
      refine cw_block ?_
      refine cw_seq ?_
      obtain ⟨x, hx, hb1⟩ := bind_inv hb1
      obtain ⟨x1, hx1, hb1⟩ := bind_inv hb1
      obtain ⟨r_1, hc, hb1⟩ := bind_inv hb1
      refine ra_start (ST.sel hS1 [] rfl rfl).fn (by kernel_rfl) ?_
      have hS3 := hS1.drew
      refine ra_q 0 17 (v := .slice B a.length c) rfl rfl rfl (by kernel_rfl) (by kernel_rfl) (by kernel_rfl) (ST.sel hS3 [] rfl rfl) (fun w' hw' => (Y_move (v := .slice B a.length c) rfl (hf.get 0 0 rfl))) ?_
      refine ra_q 1 18 (v := .int .i64 (i1 : Int)) rfl rfl rfl (by kernel_rfl) (by kernel_rfl) (by kernel_rfl) (ST.sel hS3 [] rfl rfl) (fun w' hw' => (Y_move (v := .int .i64 (i1 : Int)) rfl (hf.get 5 2 rfl))) ?_
      refine ra_q 2 19 (v := pt B ((i1 : Int).toNat * 3)) rfl rfl rfl (by kernel_rfl) (by kernel_rfl) (by kernel_rfl) (ST.sel hS3 [] rfl rfl) (fun w' hw' => (Y_index (B := B) (m := a.length) (c := c) (k := .i64) (i := (i1 : Int)) k_sl_102_213 k_sz_213_3 rfl rfl rfl (gi_isSome enc_Gate_len rfl (ST.rf hw' (i := 0) rfl) hx) (getI_nn hx) (getI_ltI hx rfl))) ?_
      refine ra_q 3 20 (v := .agg #[.int .i64 x.Kind, .int .i64 x.A, .int .i64 x.B]) rfl rfl rfl (by kernel_rfl) (by kernel_rfl) (by kernel_rfl) (ST.sel hS3 [] rfl rfl) (fun w' hw' => (Y_loadA (B := B) (i := (i1 : Int).toNat * 3) (cs := (a.flatMap enc_Gate)) (vs := [.int .i64 x.Kind, .int .i64 x.A, .int .i64 x.B]) k_ag_213 k_sz_213_3 rfl rfl (ST.rf hw' (i := 0) rfl) (enc_Gate_len x) (gi_seg enc_Gate_len hx))) ?_
      refine ra_q 4 21 (v := .slice B1 b.length c1) rfl rfl rfl (by kernel_rfl) (by kernel_rfl) (by kernel_rfl) (ST.sel hS3 [] rfl rfl) (fun w' hw' => (Y_move (v := .slice B1 b.length c1) rfl (hf.get 1 1 rfl))) ?_
      refine ra_q 5 22 (v := .int .i64 (i1 : Int)) rfl rfl rfl (by kernel_rfl) (by kernel_rfl) (by kernel_rfl) (ST.sel hS3 [] rfl rfl) (fun w' hw' => (Y_move (v := .int .i64 (i1 : Int)) rfl (hf.get 5 2 rfl))) ?_
      refine ra_q 6 23 (v := pt B1 ((i1 : Int).toNat * 3)) rfl rfl rfl (by kernel_rfl) (by kernel_rfl) (by kernel_rfl) (ST.sel hS3 [] rfl rfl) (fun w' hw' => (Y_index (B := B1) (m := b.length) (c := c1) (k := .i64) (i := (i1 : Int)) k_sl_102_213 k_sz_213_3 rfl rfl rfl (gi_isSome enc_Gate_len rfl (ST.rf hw' (i := 1) rfl) hx1) (getI_nn hx1) (getI_ltI hx1 rfl))) ?_
      refine ra_q 7 24 (v := .agg #[.int .i64 x1.Kind, .int .i64 x1.A, .int .i64 x1.B]) rfl rfl rfl (by kernel_rfl) (by kernel_rfl) (by kernel_rfl) (ST.sel hS3 [] rfl rfl) (fun w' hw' => (Y_loadA (B := B1) (i := (i1 : Int).toNat * 3) (cs := (b.flatMap enc_Gate)) (vs := [.int .i64 x1.Kind, .int .i64 x1.A, .int .i64 x1.B]) k_ag_213 k_sz_213_3 rfl rfl (ST.rf hw' (i := 1) rfl) (enc_Gate_len x1) (gi_seg enc_Gate_len hx1))) ?_
      refine ra_all (rs := [8]) (by kernel_rfl) rfl ?_
      refine ra_c 25 (i := 8) rfl rfl rfl (Yc_func (g := 247) (vs := [.agg #[.int .i64 x.Kind, .int .i64 x.A, .int .i64 x.B], .agg #[.int .i64 x1.Kind, .int .i64 x1.A, .int .i64 x1.B]]) k_call_247 rfl (mc rfl (mc rfl mn)) (c_laws_eqGate x x1 _  (hS3.inn0 [] rfl) hc)) ?_ ?_
      · rintro _ w_ ⟨rfl, hd⟩
        have hS4 := hS3.out00 hd
        refine ⟨(ST.sel hS4 [] rfl rfl), ?_⟩
        refine ra_q 9 26 (v := .bool (!r_1)) rfl rfl rfl (by kernel_rfl) (by kernel_rfl) (by kernel_rfl) (ST.sel hS4 [] rfl rfl) (fun w' hw' => (Y_not (p := r_1) rfl rfl)) ?_
        refine ra_done (by kernel_rfl) ?_
        refine cw_cond (b := (!r_1)) rfl (fun hb2 => ?_) (fun hb2 => ?_)
        · skip
          have hF4 := ct hb1 hb2
          refine cw_seq ?_
          refine cw_region ?_
          refine sq 4 rfl rfl (Y_assign (v := .bool false) rfl rfl) ?_
          refine rw_nil ?_
          refine cw_ret ?_
          obtain rfl := some_inj hF4
          obtain rfl := some_inj hL1
          obtain rfl := some_inj hF3
          exact ret1 Try.results157 (v1 := .bool false) (resAt_tmp rfl) ⟨rfl, (ST.subR (R' := []) (hS4.sel [] rfl rfl) (fun _ h => by cases h))⟩
        · skip
          have hF5 := cf' hb1 hb2
          refine cw_skip ?_
          refine cw_region ?_
          refine sq 15 rfl rfl (Y_move (v := .int .i64 (i1 : Int)) rfl (hf.get 5 2 rfl)) ?_
          refine sq 16 rfl rfl (Y_add (k := .i64) (a := (i1 : Int)) (b := 1) rfl rfl rfl) ?_
          refine sq 5 rfl rfl (Y_assign (v := .int .i64 (IntKind.i64.wrap ((i1 : Int) + 1))) rfl rfl) ?_
          refine rw_nil ?_
          obtain rfl := some_inj hF5
          exact ⟨k_1, Nat.lt_succ_self _, i1 + 1, (FF.cons (hf.get 0 0 rfl) (FF.cons (hf.get 1 1 rfl) (FF.cons (congrArg (Value.int .i64) (wr_succ hlt1 hN)) FF.nil))), (hS4.sel [] rfl rfl), (by omega), hL1⟩
      exact allR_nil
    · skip
      obtain rfl : k_ = 0 := by have h := of_decide_eq_false hlt; omega
      refine cw_exit rfl ?_
      obtain rfl := some_inj hL
      refine cw_seq ?_
      refine cw_region ?_
      refine sq 4 rfl rfl (Y_assign (v := .bool true) rfl rfl) ?_
      refine rw_nil ?_
      refine cw_ret ?_
      obtain rfl := some_inj hF3
      exact ret1 Try.results157 (v1 := .bool true) (resAt_tmp rfl) ⟨rfl, (ST.subR (R' := []) (hS1.sel [] rfl rfl) (fun _ h => by cases h))⟩

theorem c_laws_eqCircuit (a : TCircuit) (b : TCircuit) (B : Option Addr) (c n : Nat) (B1 : Option Addr) (c1 n1 : Nat) (w0 : World) (hn : a.Gates.length = n) (hn1 : b.Gates.length = n1) (hS : ST w0 [] w0 [] [⟨B, (a.Gates.flatMap enc_Gate)⟩, ⟨B1, (b.Gates.flatMap enc_Gate)⟩]) {r_ : Bool} (hF : F_laws_eqCircuit a b = some r_) :
    CV Try.prog 60 #[.agg #[.int .i64 a.Qubits, .slice B n c], .agg #[.int .i64 b.Qubits, .slice B1 n1 c1]] w0 (fun v w' => v = .bool r_ ∧ ST w0 [] w' [] []) := by
  subst hn
  subst hn1
  unfold F_laws_eqCircuit at hF
  refine cv_of_cw 16 Try.func60 rfl Try.ntmps60 rfl ?_
  refine cw_seq ?_
  refine cw_region ?_
  refine ss 2 rfl rfl (Ys_box (T := 104) (v := .agg #[.int .i64 a.Qubits, .slice B a.Gates.length c]) (cs := [.int .i64 a.Qubits, .slice B a.Gates.length c]) (m := 2) hS rfl rfl rfl rfl) ?_
  rintro _ w_ ⟨b1, rfl, hS1⟩
  refine ss 3 rfl rfl (Ys_box (T := 104) (v := .agg #[.int .i64 b.Qubits, .slice B1 b.Gates.length c1]) (cs := [.int .i64 b.Qubits, .slice B1 b.Gates.length c1]) (m := 2) hS1 rfl rfl rfl rfl) ?_
  rintro _ w_1 ⟨b2, rfl, hS2⟩
  have hS2 : ST w0 [] _ [⟨some ⟨b1, 0, none⟩, 104, [.int .i64 a.Qubits, .slice B a.Gates.length c], 2⟩, ⟨some ⟨b2, 0, none⟩, 104, [.int .i64 b.Qubits, .slice B1 b.Gates.length c1], 2⟩] [⟨B, (a.Gates.flatMap enc_Gate)⟩, ⟨B1, (b.Gates.flatMap enc_Gate)⟩] := hS2
  refine sq 4 rfl rfl (Y_assign (v := .bool false) rfl rfl) ?_
  refine rw_nil ?_
  refine cw_seq ?_
  refine cw_seq ?_
  refine cw_region ?_
  refine sq 5 rfl rfl (Y_fieldAddr (B := some ⟨b1, 0, none⟩) (i := 0) (s := 0) k_fd_104_0_0_3 k_sz_3_1 rfl rfl) ?_
  refine sq 6 rfl rfl (Y_load1 (B := some ⟨b1, 0, none⟩) (i := 0) (cs := [.int .i64 a.Qubits, .slice B a.Gates.length c]) (v := .int .i64 a.Qubits) k_sc_3 rfl rfl (hS2.cf (i := 0) rfl) rfl) ?_
  refine sq 7 rfl rfl (Y_fieldAddr (B := some ⟨b2, 0, none⟩) (i := 0) (s := 0) k_fd_104_0_0_3 k_sz_3_1 rfl rfl) ?_
  refine sq 8 rfl rfl (Y_load1 (B := some ⟨b2, 0, none⟩) (i := 0) (cs := [.int .i64 b.Qubits, .slice B1 b.Gates.length c1]) (v := .int .i64 b.Qubits) k_sc_3 rfl rfl (hS2.cf (i := 1) rfl) rfl) ?_
  refine sq 9 rfl rfl (Y_ne (k := .i64) (a := a.Qubits) (b := b.Qubits) rfl rfl rfl) ?_
  refine rw_nil ?_
  refine cw_cond (b := (a.Qubits != b.Qubits)) rfl (fun hb => ?_) (fun hb => ?_)
  · skip
    have hF1 := ct hF hb
    refine cw_seq ?_
    refine cw_region ?_
    refine sq 4 rfl rfl (Y_assign (v := .bool false) rfl rfl) ?_
    refine rw_nil ?_
    refine cw_ret ?_
    obtain rfl := some_inj hF1
    exact ret1 Try.results60 (v1 := .bool false) (resAt_tmp rfl) ⟨rfl, (ST.subR (R' := []) (hS2.sel [] rfl rfl) (fun _ h => by cases h))⟩
  · skip
    have hF2 := cf' hF hb
    refine cw_skip ?_
    refine cw_seq ?_
    refine cw_seq ?_
    refine cw_region ?_
    refine sq 10 rfl rfl (Y_fieldAddr (B := some ⟨b1, 0, none⟩) (i := 0) (s := 0) k_fd_104_1_1_102 k_sz_102_1 rfl rfl) ?_
    refine sq 11 rfl rfl (Y_load1 (B := some ⟨b1, 0, none⟩) (i := 1) (cs := [.int .i64 a.Qubits, .slice B a.Gates.length c]) (v := .slice B a.Gates.length c) k_sc_102 rfl rfl (hS2.cf (i := 0) rfl) rfl) ?_
    refine sq 12 rfl rfl (Y_fieldAddr (B := some ⟨b2, 0, none⟩) (i := 0) (s := 0) k_fd_104_1_1_102 k_sz_102_1 rfl rfl) ?_
    refine sq 13 rfl rfl (Y_load1 (B := some ⟨b2, 0, none⟩) (i := 1) (cs := [.int .i64 b.Qubits, .slice B1 b.Gates.length c1]) (v := .slice B1 b.Gates.length c1) k_sc_102 rfl rfl (hS2.cf (i := 1) rfl) rfl) ?_
    obtain ⟨r_1, hc, hF2⟩ := bind_inv hF2
    refine sc 14 rfl rfl (Yc_func (g := 157) (vs := [.slice B a.Gates.length c, .slice B1 b.Gates.length c1]) k_call_157 rfl (mc rfl (mc rfl mn)) (c_laws_eqGateS a.Gates b.Gates B c a.Gates.length B1 c1 b.Gates.length _ rfl rfl (hS2.inn0 [(true, 0), (true, 1)] rfl) hc)) ?_
    rintro _ w_2 ⟨rfl, hd⟩
    have hS3 := hS2.out00 hd
    have hS3 : ST w0 [] _ [⟨some ⟨b1, 0, none⟩, 104, [.int .i64 a.Qubits, .slice B a.Gates.length c], 2⟩, ⟨some ⟨b2, 0, none⟩, 104, [.int .i64 b.Qubits, .slice B1 b.Gates.length c1], 2⟩] [⟨B, (a.Gates.flatMap enc_Gate)⟩, ⟨B1, (b.Gates.flatMap enc_Gate)⟩] := hS3
    refine sq 15 rfl rfl (Y_not (p := r_1) rfl rfl) ?_
    refine rw_nil ?_
    refine cw_cond (b := (!r_1)) rfl (fun hb1 => ?_) (fun hb1 => ?_)
    · skip
      have hF3 := ct hF2 hb1
      refine cw_seq ?_
      refine cw_region ?_
      refine sq 4 rfl rfl (Y_assign (v := .bool false) rfl rfl) ?_
      refine rw_nil ?_
      refine cw_ret ?_
      obtain rfl := some_inj hF3
      exact ret1 Try.results60 (v1 := .bool false) (resAt_tmp rfl) ⟨rfl, (ST.subR (R' := []) (hS3.sel [] rfl rfl) (fun _ h => by cases h))⟩
    · skip
      have hF4 := cf' hF2 hb1
      refine cw_skip ?_
      refine cw_seq ?_
      refine cw_region ?_
      refine sq 4 rfl rfl (Y_assign (v := .bool true) rfl rfl) ?_
      refine rw_nil ?_
      refine cw_ret ?_
      obtain rfl := some_inj hF4
      exact ret1 Try.results60 (v1 := .bool true) (resAt_tmp rfl) ⟨rfl, (ST.subR (R' := []) (hS3.sel [] rfl rfl) (fun _ h => by cases h))⟩

theorem c_laws_eqIntS (a : List Int) (b : List Int) (B : Option Addr) (c n : Nat) (B1 : Option Addr) (c1 n1 : Nat) (w0 : World) (hn : a.length = n) (hn1 : b.length = n1) (hS : ST w0 [] w0 [] [⟨B, (a.flatMap encI)⟩, ⟨B1, (b.flatMap encI)⟩]) {r_ : Bool} (hF : F_laws_eqIntS a b = some r_) :
    CV Try.prog 64 #[.slice B n c, .slice B1 n1 c1] w0 (fun v w' => v = .bool r_ ∧ ST w0 [] w' [] []) := by
  subst hn
  subst hn1
  unfold F_laws_eqIntS at hF
  refine cv_of_cw 26 Try.func64 rfl Try.ntmps64 rfl ?_
  refine cw_seq ?_
  refine cw_region ?_
  refine sq 4 rfl rfl (Y_assign (v := .bool false) rfl rfl) ?_
  refine rw_nil ?_
  refine cw_seq ?_
  refine cw_seq ?_
  refine cw_region ?_
  refine sq 6 rfl rfl (Y_move (v := .slice B a.length c) rfl rfl) ?_
  refine sq 7 rfl rfl (Y_len (B := B) (m := a.length) (c := c) k_sl_59_3 rfl rfl) ?_
  refine sq 8 rfl rfl (Y_move (v := .slice B1 b.length c1) rfl rfl) ?_
  refine sq 9 rfl rfl (Y_len (B := B1) (m := b.length) (c := c1) k_sl_59_3 rfl rfl) ?_
  refine sq 10 rfl rfl (Y_ne (k := .i64) (a := (a.length : Int)) (b := (b.length : Int)) rfl rfl rfl) ?_
  refine rw_nil ?_
  refine cw_cond (b := ((a.length : Int) != (b.length : Int))) rfl (fun hb => ?_) (fun hb => ?_)
  · skip
    have hF1 := ct hF hb
    refine cw_seq ?_
    refine cw_region ?_
    refine sq 4 rfl rfl (Y_assign (v := .bool false) rfl rfl) ?_
    refine rw_nil ?_
    refine cw_ret ?_
    obtain rfl := some_inj hF1
    exact ret1 Try.results64 (v1 := .bool false) (resAt_tmp rfl) ⟨rfl, (ST.subR (R' := []) (hS.sel [] rfl rfl) (fun _ h => by cases h))⟩
  · skip
    have hF2 := cf' hF hb
    refine cw_skip ?_
    refine cw_seq ?_
    refine cw_seq ?_
    refine cw_region ?_
    refine sq 5 rfl rfl (Y_assign (v := .int .i64 0) rfl rfl) ?_
    refine rw_nil ?_
    obtain ⟨hN, hF2⟩ := chk_inv hF2
    obtain ⟨z, hz, hF3⟩ := bind_inv hF2
    refine cw_block ?_
    refine cw_loop (fun k f w => ∃ (i1 : Nat), FF f [(0, .slice B a.length c), (1, .slice B1 b.length c1), (5, .int .i64 (i1 : Int))] ∧ ST w0 [] w [] [⟨B, (a.flatMap encI)⟩, ⟨B1, (b.flatMap encI)⟩] ∧ i1 + k = a.length ∧ forX (F_laws_eqIntS_l1 a b) k i1 () = some z) a.length ⟨0, (FF.cons rfl (FF.cons rfl (FF.cons rfl FF.nil))), (hS.sel [] rfl rfl), Nat.zero_add _, hz⟩ ?_
    rintro k_ f w ⟨i1, hf, hS1, hik, hL⟩
    refine cw_seq ?_
    refine cw_seq ?_
    refine cw_region ?_
    refine sq 11 rfl rfl (Y_move (v := .int .i64 (i1 : Int)) rfl (hf.get 5 2 rfl)) ?_
    refine sq 12 rfl rfl (Y_move (v := .slice B a.length c) rfl (hf.get 0 0 rfl)) ?_
    refine sq 13 rfl rfl (Y_len (B := B) (m := a.length) (c := c) k_sl_59_3 rfl rfl) ?_
    refine sq 14 rfl rfl (Y_lt (k := .i64) (a := (i1 : Int)) (b := (a.length : Int)) rfl rfl rfl) ?_
    refine rw_nil ?_
    refine cw_cond (b := (decide ((i1 : Int) < (a.length : Int)))) rfl (fun hlt => ?_) (fun hlt => ?_)
    · skip
      have hlt1 : i1 < a.length := by have h := of_decide_eq_true hlt; omega
      obtain ⟨k_1, rfl⟩ : ∃ k2, k_ = k2 + 1 := ⟨k_ - 1, by omega⟩
      obtain ⟨y, hb1, hL1⟩ := forX_go hL
      unfold F_laws_eqIntS_l1 at hb1
      refine cw_skip ?_
      refine cw_seq ?_
      refine cw_block ?_
      refine cw_seq ?_
      obtain ⟨x, hx, hb1⟩ := bind_inv hb1
      obtain ⟨x1, hx1, hb1⟩ := bind_inv hb1
      refine ra_start (ST.sel hS1 [] rfl rfl).fn (by kernel_rfl) ?_
      have hS2 := hS1.drew
      refine ra_q 0 17 (v := .slice B a.length c) rfl rfl rfl (by kernel_rfl) (by kernel_rfl) (by kernel_rfl) (ST.sel hS2 [] rfl rfl) (fun w' hw' => (Y_move (v := .slice B a.length c) rfl (hf.get 0 0 rfl))) ?_
      refine ra_q 1 18 (v := .int .i64 (i1 : Int)) rfl rfl rfl (by kernel_rfl) (by kernel_rfl) (by kernel_rfl) (ST.sel hS2 [] rfl rfl) (fun w' hw' => (Y_move (v := .int .i64 (i1 : Int)) rfl (hf.get 5 2 rfl))) ?_
      refine ra_q 2 19 (v := pt B ((i1 : Int).toNat * 1)) rfl rfl rfl (by kernel_rfl) (by kernel_rfl) (by kernel_rfl) (ST.sel hS2 [] rfl rfl) (fun w' hw' => (Y_index (B := B) (m := a.length) (c := c) (k := .i64) (i := (i1 : Int)) k_sl_59_3 k_sz_3_1 rfl rfl rfl (gi_isSome encI_len rfl (ST.rf hw' (i := 0) rfl) hx) (getI_nn hx) (getI_ltI hx rfl))) ?_
      refine ra_q 3 20 (v := .int .i64 x) rfl rfl rfl (by kernel_rfl) (by kernel_rfl) (by kernel_rfl) (ST.sel hS2 [] rfl rfl) (fun w' hw' => (Y_load1 (B := B) (i := (i1 : Int).toNat * 1) (cs := (a.flatMap encI)) (v := .int .i64 x) k_sc_3 rfl rfl (ST.rf hw' (i := 0) rfl) (gi_at0 encI_len hx rfl))) ?_
      refine ra_q 4 21 (v := .slice B1 b.length c1) rfl rfl rfl (by kernel_rfl) (by kernel_rfl) (by kernel_rfl) (ST.sel hS2 [] rfl rfl) (fun w' hw' => (Y_move (v := .slice B1 b.length c1) rfl (hf.get 1 1 rfl))) ?_
      refine ra_q 5 22 (v := .int .i64 (i1 : Int)) rfl rfl rfl (by kernel_rfl) (by kernel_rfl) (by kernel_rfl) (ST.sel hS2 [] rfl rfl) (fun w' hw' => (Y_move (v := .int .i64 (i1 : Int)) rfl (hf.get 5 2 rfl))) ?_
      refine ra_q 6 23 (v := pt B1 ((i1 : Int).toNat * 1)) rfl rfl rfl (by kernel_rfl) (by kernel_rfl) (by kernel_rfl) (ST.sel hS2 [] rfl rfl) (fun w' hw' => (Y_index (B := B1) (m := b.length) (c := c1) (k := .i64) (i := (i1 : Int)) k_sl_59_3 k_sz_3_1 rfl rfl rfl (gi_isSome encI_len rfl (ST.rf hw' (i := 1) rfl) hx1) (getI_nn hx1) (getI_ltI hx1 rfl))) ?_
      refine ra_q 7 24 (v := .int .i64 x1) rfl rfl rfl (by kernel_rfl) (by kernel_rfl) (by kernel_rfl) (ST.sel hS2 [] rfl rfl) (fun w' hw' => (Y_load1 (B := B1) (i := (i1 : Int).toNat * 1) (cs := (b.flatMap encI)) (v := .int .i64 x1) k_sc_3 rfl rfl (ST.rf hw' (i := 1) rfl) (gi_at0 encI_len hx1 rfl))) ?_
      refine ra_q 8 25 (v := .bool (x != x1)) rfl rfl rfl (by kernel_rfl) (by kernel_rfl) (by kernel_rfl) (ST.sel hS2 [] rfl rfl) (fun w' hw' => (Y_ne (k := .i64) (a := x) (b := x1) rfl rfl rfl)) ?_
      refine ra_done (by kernel_rfl) ?_
      refine cw_cond (b := (x != x1)) rfl (fun hb2 => ?_) (fun hb2 => ?_)
      · skip
        have hF4 := ct hb1 hb2
        refine cw_seq ?_
        refine cw_region ?_
        refine sq 4 rfl rfl (Y_assign (v := .bool false) rfl rfl) ?_
        refine rw_nil ?_
        refine cw_ret ?_
        obtain rfl := some_inj hF4
        obtain rfl := some_inj hL1
        obtain rfl := some_inj hF3
        exact ret1 Try.results64 (v1 := .bool false) (resAt_tmp rfl) ⟨rfl, (ST.subR (R' := []) (hS2.sel [] rfl rfl) (fun _ h => by cases h))⟩
      · skip
        have hF5 := cf' hb1 hb2
        refine cw_skip ?_
        refine cw_region ?_
        refine sq 15 rfl rfl (Y_move (v := .int .i64 (i1 : Int)) rfl (hf.get 5 2 rfl)) ?_
        refine sq 16 rfl rfl (Y_add (k := .i64) (a := (i1 : Int)) (b := 1) rfl rfl rfl) ?_
        refine sq 5 rfl rfl (Y_assign (v := .int .i64 (IntKind.i64.wrap ((i1 : Int) + 1))) rfl rfl) ?_
        refine rw_nil ?_
        obtain rfl := some_inj hF5
        exact ⟨k_1, Nat.lt_succ_self _, i1 + 1, (FF.cons (hf.get 0 0 rfl) (FF.cons (hf.get 1 1 rfl) (FF.cons (congrArg (Value.int .i64) (wr_succ hlt1 hN)) FF.nil))), (hS2.sel [] rfl rfl), (by omega), hL1⟩
    · skip
      obtain rfl : k_ = 0 := by have h := of_decide_eq_false hlt; omega
      refine cw_exit rfl ?_
      obtain rfl := some_inj hL
      refine cw_seq ?_
      refine cw_region ?_
      refine sq 4 rfl rfl (Y_assign (v := .bool true) rfl rfl) ?_
      refine rw_nil ?_
      refine cw_ret ?_
      obtain rfl := some_inj hF3
      exact ret1 Try.results64 (v1 := .bool true) (resAt_tmp rfl) ⟨rfl, (ST.subR (R' := []) (hS1.sel [] rfl rfl) (fun _ h => by cases h))⟩

theorem c_laws_eqRouteStep (a : TRouteStep) (b : TRouteStep)  (w0 : World)  (hS : ST w0 [] w0 [] []) {r_ : Bool} (hF : F_laws_eqRouteStep a b = some r_) :
    CV Try.prog 248 #[.agg #[.int .i64 a.Gate, .int .i64 a.A, .int .i64 a.B], .agg #[.int .i64 b.Gate, .int .i64 b.A, .int .i64 b.B]] w0 (fun v w' => v = .bool r_ ∧ ST w0 [] w' [] []) := by
  unfold F_laws_eqRouteStep at hF
  refine cv_of_cw 20 Try.func248 rfl Try.ntmps248 rfl ?_
  refine cw_seq ?_
  refine cw_region ?_
  refine ss 2 rfl rfl (Ys_box (T := 211) (v := .agg #[.int .i64 a.Gate, .int .i64 a.A, .int .i64 a.B]) (cs := [.int .i64 a.Gate, .int .i64 a.A, .int .i64 a.B]) (m := 3) hS rfl rfl rfl rfl) ?_
  rintro _ w_ ⟨b1, rfl, hS1⟩
  refine ss 3 rfl rfl (Ys_box (T := 211) (v := .agg #[.int .i64 b.Gate, .int .i64 b.A, .int .i64 b.B]) (cs := [.int .i64 b.Gate, .int .i64 b.A, .int .i64 b.B]) (m := 3) hS1 rfl rfl rfl rfl) ?_
  rintro _ w_1 ⟨b2, rfl, hS2⟩
  have hS2 : ST w0 [] _ [⟨some ⟨b1, 0, none⟩, 211, [.int .i64 a.Gate, .int .i64 a.A, .int .i64 a.B], 3⟩, ⟨some ⟨b2, 0, none⟩, 211, [.int .i64 b.Gate, .int .i64 b.A, .int .i64 b.B], 3⟩] [] := hS2
  refine sq 4 rfl rfl (Y_assign (v := .bool false) rfl rfl) ?_
  refine rw_nil ?_
  refine cw_seq ?_
  refine cw_seq ?_
  refine cw_region ?_
  refine sq 5 rfl rfl (Y_fieldAddr (B := some ⟨b1, 0, none⟩) (i := 0) (s := 0) k_fd_211_0_0_3 k_sz_3_1 rfl rfl) ?_
  refine sq 6 rfl rfl (Y_load1 (B := some ⟨b1, 0, none⟩) (i := 0) (cs := [.int .i64 a.Gate, .int .i64 a.A, .int .i64 a.B]) (v := .int .i64 a.Gate) k_sc_3 rfl rfl (hS2.cf (i := 0) rfl) rfl) ?_
  refine sq 7 rfl rfl (Y_fieldAddr (B := some ⟨b2, 0, none⟩) (i := 0) (s := 0) k_fd_211_0_0_3 k_sz_3_1 rfl rfl) ?_
  refine sq 8 rfl rfl (Y_load1 (B := some ⟨b2, 0, none⟩) (i := 0) (cs := [.int .i64 b.Gate, .int .i64 b.A, .int .i64 b.B]) (v := .int .i64 b.Gate) k_sc_3 rfl rfl (hS2.cf (i := 1) rfl) rfl) ?_
  refine sq 9 rfl rfl (Y_ne (k := .i64) (a := a.Gate) (b := b.Gate) rfl rfl rfl) ?_
  refine rw_nil ?_
  refine cw_cond (b := (a.Gate != b.Gate)) rfl (fun hb => ?_) (fun hb => ?_)
  · skip
    have hF1 := ct hF hb
    refine cw_seq ?_
    refine cw_region ?_
    refine sq 4 rfl rfl (Y_assign (v := .bool false) rfl rfl) ?_
    refine rw_nil ?_
    refine cw_ret ?_
    obtain rfl := some_inj hF1
    exact ret1 Try.results248 (v1 := .bool false) (resAt_tmp rfl) ⟨rfl, (ST.subR (R' := []) (hS2.sel [] rfl rfl) (fun _ h => by cases h))⟩
  · skip
    have hF2 := cf' hF hb
    refine cw_skip ?_
    refine cw_seq ?_
    refine cw_seq ?_
    refine cw_region ?_
    refine sq 10 rfl rfl (Y_fieldAddr (B := some ⟨b1, 0, none⟩) (i := 0) (s := 0) k_fd_211_1_1_3 k_sz_3_1 rfl rfl) ?_
    refine sq 11 rfl rfl (Y_load1 (B := some ⟨b1, 0, none⟩) (i := 1) (cs := [.int .i64 a.Gate, .int .i64 a.A, .int .i64 a.B]) (v := .int .i64 a.A) k_sc_3 rfl rfl (hS2.cf (i := 0) rfl) rfl) ?_
    refine sq 12 rfl rfl (Y_fieldAddr (B := some ⟨b2, 0, none⟩) (i := 0) (s := 0) k_fd_211_1_1_3 k_sz_3_1 rfl rfl) ?_
    refine sq 13 rfl rfl (Y_load1 (B := some ⟨b2, 0, none⟩) (i := 1) (cs := [.int .i64 b.Gate, .int .i64 b.A, .int .i64 b.B]) (v := .int .i64 b.A) k_sc_3 rfl rfl (hS2.cf (i := 1) rfl) rfl) ?_
    refine sq 14 rfl rfl (Y_ne (k := .i64) (a := a.A) (b := b.A) rfl rfl rfl) ?_
    refine rw_nil ?_
    refine cw_cond (b := (a.A != b.A)) rfl (fun hb1 => ?_) (fun hb1 => ?_)
    · skip
      have hF3 := ct hF2 hb1
      refine cw_seq ?_
      refine cw_region ?_
      refine sq 4 rfl rfl (Y_assign (v := .bool false) rfl rfl) ?_
      refine rw_nil ?_
      refine cw_ret ?_
      obtain rfl := some_inj hF3
      exact ret1 Try.results248 (v1 := .bool false) (resAt_tmp rfl) ⟨rfl, (ST.subR (R' := []) (hS2.sel [] rfl rfl) (fun _ h => by cases h))⟩
    · skip
      have hF4 := cf' hF2 hb1
      refine cw_skip ?_
      refine cw_seq ?_
      refine cw_seq ?_
      refine cw_region ?_
      refine sq 15 rfl rfl (Y_fieldAddr (B := some ⟨b1, 0, none⟩) (i := 0) (s := 0) k_fd_211_2_2_3 k_sz_3_1 rfl rfl) ?_
      refine sq 16 rfl rfl (Y_load1 (B := some ⟨b1, 0, none⟩) (i := 2) (cs := [.int .i64 a.Gate, .int .i64 a.A, .int .i64 a.B]) (v := .int .i64 a.B) k_sc_3 rfl rfl (hS2.cf (i := 0) rfl) rfl) ?_
      refine sq 17 rfl rfl (Y_fieldAddr (B := some ⟨b2, 0, none⟩) (i := 0) (s := 0) k_fd_211_2_2_3 k_sz_3_1 rfl rfl) ?_
      refine sq 18 rfl rfl (Y_load1 (B := some ⟨b2, 0, none⟩) (i := 2) (cs := [.int .i64 b.Gate, .int .i64 b.A, .int .i64 b.B]) (v := .int .i64 b.B) k_sc_3 rfl rfl (hS2.cf (i := 1) rfl) rfl) ?_
      refine sq 19 rfl rfl (Y_ne (k := .i64) (a := a.B) (b := b.B) rfl rfl rfl) ?_
      refine rw_nil ?_
      refine cw_cond (b := (a.B != b.B)) rfl (fun hb2 => ?_) (fun hb2 => ?_)
      · skip
        have hF5 := ct hF4 hb2
        refine cw_seq ?_
        refine cw_region ?_
        refine sq 4 rfl rfl (Y_assign (v := .bool false) rfl rfl) ?_
        refine rw_nil ?_
        refine cw_ret ?_
        obtain rfl := some_inj hF5
        exact ret1 Try.results248 (v1 := .bool false) (resAt_tmp rfl) ⟨rfl, (ST.subR (R' := []) (hS2.sel [] rfl rfl) (fun _ h => by cases h))⟩
      · skip
        have hF6 := cf' hF4 hb2
        refine cw_skip ?_
        refine cw_seq ?_
        refine cw_region ?_
        refine sq 4 rfl rfl (Y_assign (v := .bool true) rfl rfl) ?_
        refine rw_nil ?_
        refine cw_ret ?_
        obtain rfl := some_inj hF6
        exact ret1 Try.results248 (v1 := .bool true) (resAt_tmp rfl) ⟨rfl, (ST.subR (R' := []) (hS2.sel [] rfl rfl) (fun _ h => by cases h))⟩

theorem c_laws_eqRouteStepS (a : List TRouteStep) (b : List TRouteStep) (B : Option Addr) (c n : Nat) (B1 : Option Addr) (c1 n1 : Nat) (w0 : World) (hn : a.length = n) (hn1 : b.length = n1) (hS : ST w0 [] w0 [] [⟨B, (a.flatMap enc_RouteStep)⟩, ⟨B1, (b.flatMap enc_RouteStep)⟩]) {r_ : Bool} (hF : F_laws_eqRouteStepS a b = some r_) :
    CV Try.prog 158 #[.slice B n c, .slice B1 n1 c1] w0 (fun v w' => v = .bool r_ ∧ ST w0 [] w' [] []) := by
  subst hn
  subst hn1
  unfold F_laws_eqRouteStepS at hF
  refine cv_of_cw 27 Try.func158 rfl Try.ntmps158 rfl ?_
  refine cw_seq ?_
  refine cw_region ?_
  refine sq 4 rfl rfl (Y_assign (v := .bool false) rfl rfl) ?_
  refine rw_nil ?_
  refine cw_seq ?_
  refine cw_seq ?_
  refine cw_region ?_
  refine sq 6 rfl rfl (Y_move (v := .slice B a.length c) rfl rfl) ?_
  refine sq 7 rfl rfl (Y_len (B := B) (m := a.length) (c := c) k_sl_106_211 rfl rfl) ?_
  refine sq 8 rfl rfl (Y_move (v := .slice B1 b.length c1) rfl rfl) ?_
  refine sq 9 rfl rfl (Y_len (B := B1) (m := b.length) (c := c1) k_sl_106_211 rfl rfl) ?_
  refine sq 10 rfl rfl (Y_ne (k := .i64) (a := (a.length : Int)) (b := (b.length : Int)) rfl rfl rfl) ?_
  refine rw_nil ?_
  refine cw_cond (b := ((a.length : Int) != (b.length : Int))) rfl (fun hb => ?_) (fun hb => ?_)
  · skip
    have hF1 := ct hF hb
    refine cw_seq ?_
    refine cw_region ?_
    refine sq 4 rfl rfl (Y_assign (v := .bool false) rfl rfl) ?_
    refine rw_nil ?_
    refine cw_ret ?_
    obtain rfl := some_inj hF1
    exact ret1 Try.results158 (v1 := .bool false) (resAt_tmp rfl) ⟨rfl, (ST.subR (R' := []) (hS.sel [] rfl rfl) (fun _ h => by cases h))⟩
  · skip
    have hF2 := cf' hF hb
    refine cw_skip ?_
    refine cw_seq ?_
    refine cw_seq ?_
    refine cw_region ?_
    refine sq 5 rfl rfl (Y_assign (v := .int .i64 0) rfl rfl) ?_
    refine rw_nil ?_
    obtain ⟨hN, hF2⟩ := chk_inv hF2
    obtain ⟨z, hz, hF3⟩ := bind_inv hF2
    refine cw_block ?_
    refine cw_loop (fun k f w => ∃ (i1 : Nat), FF f [(0, .slice B a.length c), (1, .slice B1 b.length c1), (5, .int .i64 (i1 : Int))] ∧ ST w0 [] w [] [⟨B, (a.flatMap enc_RouteStep)⟩, ⟨B1, (b.flatMap enc_RouteStep)⟩] ∧ i1 + k = a.length ∧ forX (F_laws_eqRouteStepS_l1 a b) k i1 () = some z) a.length ⟨0, (FF.cons rfl (FF.cons rfl (FF.cons rfl FF.nil))), (hS.sel [] rfl rfl), Nat.zero_add _, hz⟩ ?_
    rintro k_ f w ⟨i1, hf, hS1, hik, hL⟩
    refine cw_seq ?_
    refine cw_seq ?_
    refine cw_region ?_
    refine sq 11 rfl rfl (Y_move (v := .int .i64 (i1 : Int)) rfl (hf.get 5 2 rfl)) ?_
    refine sq 12 rfl rfl (Y_move (v := .slice B a.length c) rfl (hf.get 0 0 rfl)) ?_
    refine sq 13 rfl rfl (Y_len (B := B) (m := a.length) (c := c) k_sl_106_211 rfl rfl) ?_
    refine sq 14 rfl rfl (Y_lt (k := .i64) (a := (i1 : Int)) (b := (a.length : Int)) rfl rfl rfl) ?_
    refine rw_nil ?_
    refine cw_cond (b := (decide ((i1 : Int) < (a.length : Int)))) rfl (fun hlt => ?_) (fun hlt => ?_)
    · skip
      have hlt1 : i1 < a.length := by have h := of_decide_eq_true hlt; omega
      obtain ⟨k_1, rfl⟩ : ∃ k2, k_ = k2 + 1 := ⟨k_ - 1, by omega⟩
      obtain ⟨y, hb1, hL1⟩ := forX_go hL
      unfold F_laws_eqRouteStepS_l1 at hb1
      refine cw_skip ?_
      refine cw_seq ?_
      refine cw_block ?_
      refine cw_seq ?_
      obtain ⟨x, hx, hb1⟩ := bind_inv hb1
      obtain ⟨x1, hx1, hb1⟩ := bind_inv hb1
      obtain ⟨r_1, hc, hb1⟩ := bind_inv hb1
      refine ra_start (ST.sel hS1 [] rfl rfl).fn (by kernel_rfl) ?_
      have hS3 := hS1.drew
      refine ra_q 0 17 (v := .slice B a.length c) rfl rfl rfl (by kernel_rfl) (by kernel_rfl) (by kernel_rfl) (ST.sel hS3 [] rfl rfl) (fun w' hw' => (Y_move (v := .slice B a.length c) rfl (hf.get 0 0 rfl))) ?_
      refine ra_q 1 18 (v := .int .i64 (i1 : Int)) rfl rfl rfl (by kernel_rfl) (by kernel_rfl) (by kernel_rfl) (ST.sel hS3 [] rfl rfl) (fun w' hw' => (Y_move (v := .int .i64 (i1 : Int)) rfl (hf.get 5 2 rfl))) ?_
      refine ra_q 2 19 (v := pt B ((i1 : Int).toNat * 3)) rfl rfl rfl (by kernel_rfl) (by kernel_rfl) (by kernel_rfl) (ST.sel hS3 [] rfl rfl) (fun w' hw' => (Y_index (B := B) (m := a.length) (c := c) (k := .i64) (i := (i1 : Int)) k_sl_106_211 k_sz_211_3 rfl rfl rfl (gi_isSome enc_RouteStep_len rfl (ST.rf hw' (i := 0) rfl) hx) (getI_nn hx) (getI_ltI hx rfl))) ?_
      refine ra_q 3 20 (v := .agg #[.int .i64 x.Gate, .int .i64 x.A, .int .i64 x.B]) rfl rfl rfl (by kernel_rfl) (by kernel_rfl) (by kernel_rfl) (ST.sel hS3 [] rfl rfl) (fun w' hw' => (Y_loadA (B := B) (i := (i1 : Int).toNat * 3) (cs := (a.flatMap enc_RouteStep)) (vs := [.int .i64 x.Gate, .int .i64 x.A, .int .i64 x.B]) k_ag_211 k_sz_211_3 rfl rfl (ST.rf hw' (i := 0) rfl) (enc_RouteStep_len x) (gi_seg enc_RouteStep_len hx))) ?_
      refine ra_q 4 21 (v := .slice B1 b.length c1) rfl rfl rfl (by kernel_rfl) (by kernel_rfl) (by kernel_rfl) (ST.sel hS3 [] rfl rfl) (fun w' hw' => (Y_move (v := .slice B1 b.length c1) rfl (hf.get 1 1 rfl))) ?_
      refine ra_q 5 22 (v := .int .i64 (i1 : Int)) rfl rfl rfl (by kernel_rfl) (by kernel_rfl) (by kernel_rfl) (ST.sel hS3 [] rfl rfl) (fun w' hw' => (Y_move (v := .int .i64 (i1 : Int)) rfl (hf.get 5 2 rfl))) ?_
      refine ra_q 6 23 (v := pt B1 ((i1 : Int).toNat * 3)) rfl rfl rfl (by kernel_rfl) (by kernel_rfl) (by kernel_rfl) (ST.sel hS3 [] rfl rfl) (fun w' hw' => (Y_index (B := B1) (m := b.length) (c := c1) (k := .i64) (i := (i1 : Int)) k_sl_106_211 k_sz_211_3 rfl rfl rfl (gi_isSome enc_RouteStep_len rfl (ST.rf hw' (i := 1) rfl) hx1) (getI_nn hx1) (getI_ltI hx1 rfl))) ?_
      refine ra_q 7 24 (v := .agg #[.int .i64 x1.Gate, .int .i64 x1.A, .int .i64 x1.B]) rfl rfl rfl (by kernel_rfl) (by kernel_rfl) (by kernel_rfl) (ST.sel hS3 [] rfl rfl) (fun w' hw' => (Y_loadA (B := B1) (i := (i1 : Int).toNat * 3) (cs := (b.flatMap enc_RouteStep)) (vs := [.int .i64 x1.Gate, .int .i64 x1.A, .int .i64 x1.B]) k_ag_211 k_sz_211_3 rfl rfl (ST.rf hw' (i := 1) rfl) (enc_RouteStep_len x1) (gi_seg enc_RouteStep_len hx1))) ?_
      refine ra_all (rs := [8]) (by kernel_rfl) rfl ?_
      refine ra_c 25 (i := 8) rfl rfl rfl (Yc_func (g := 248) (vs := [.agg #[.int .i64 x.Gate, .int .i64 x.A, .int .i64 x.B], .agg #[.int .i64 x1.Gate, .int .i64 x1.A, .int .i64 x1.B]]) k_call_248 rfl (mc rfl (mc rfl mn)) (c_laws_eqRouteStep x x1 _  (hS3.inn0 [] rfl) hc)) ?_ ?_
      · rintro _ w_ ⟨rfl, hd⟩
        have hS4 := hS3.out00 hd
        refine ⟨(ST.sel hS4 [] rfl rfl), ?_⟩
        refine ra_q 9 26 (v := .bool (!r_1)) rfl rfl rfl (by kernel_rfl) (by kernel_rfl) (by kernel_rfl) (ST.sel hS4 [] rfl rfl) (fun w' hw' => (Y_not (p := r_1) rfl rfl)) ?_
        refine ra_done (by kernel_rfl) ?_
        refine cw_cond (b := (!r_1)) rfl (fun hb2 => ?_) (fun hb2 => ?_)
        · skip
          have hF4 := ct hb1 hb2
          refine cw_seq ?_
          refine cw_region ?_
          refine sq 4 rfl rfl (Y_assign (v := .bool false) rfl rfl) ?_
          refine rw_nil ?_
          refine cw_ret ?_
          obtain rfl := some_inj hF4
          obtain rfl := some_inj hL1
          obtain rfl := some_inj hF3
          exact ret1 Try.results158 (v1 := .bool false) (resAt_tmp rfl) ⟨rfl, (ST.subR (R' := []) (hS4.sel [] rfl rfl) (fun _ h => by cases h))⟩
        · skip
          have hF5 := cf' hb1 hb2
          refine cw_skip ?_
          refine cw_region ?_
          refine sq 15 rfl rfl (Y_move (v := .int .i64 (i1 : Int)) rfl (hf.get 5 2 rfl)) ?_
          refine sq 16 rfl rfl (Y_add (k := .i64) (a := (i1 : Int)) (b := 1) rfl rfl rfl) ?_
          refine sq 5 rfl rfl (Y_assign (v := .int .i64 (IntKind.i64.wrap ((i1 : Int) + 1))) rfl rfl) ?_
          refine rw_nil ?_
          obtain rfl := some_inj hF5
          exact ⟨k_1, Nat.lt_succ_self _, i1 + 1, (FF.cons (hf.get 0 0 rfl) (FF.cons (hf.get 1 1 rfl) (FF.cons (congrArg (Value.int .i64) (wr_succ hlt1 hN)) FF.nil))), (hS4.sel [] rfl rfl), (by omega), hL1⟩
      exact allR_nil
    · skip
      obtain rfl : k_ = 0 := by have h := of_decide_eq_false hlt; omega
      refine cw_exit rfl ?_
      obtain rfl := some_inj hL
      refine cw_seq ?_
      refine cw_region ?_
      refine sq 4 rfl rfl (Y_assign (v := .bool true) rfl rfl) ?_
      refine rw_nil ?_
      refine cw_ret ?_
      obtain rfl := some_inj hF3
      exact ret1 Try.results158 (v1 := .bool true) (resAt_tmp rfl) ⟨rfl, (ST.subR (R' := []) (hS1.sel [] rfl rfl) (fun _ h => by cases h))⟩

theorem c_laws_eqRoute (a : TRoute) (b : TRoute) (B : Option Addr) (c n : Nat) (B1 : Option Addr) (c1 n1 : Nat) (B2 : Option Addr) (c2 n2 : Nat) (B3 : Option Addr) (c3 n3 : Nat) (w0 : World) (hn : a.Start.length = n) (hn1 : a.Steps.length = n1) (hn2 : b.Start.length = n2) (hn3 : b.Steps.length = n3) (hS : ST w0 [] w0 [] [⟨B, (a.Start.flatMap encI)⟩, ⟨B1, (a.Steps.flatMap enc_RouteStep)⟩, ⟨B2, (b.Start.flatMap encI)⟩, ⟨B3, (b.Steps.flatMap enc_RouteStep)⟩]) {r_ : Bool} (hF : F_laws_eqRoute a b = some r_) :
    CV Try.prog 61 #[.agg #[.slice B n c, .slice B1 n1 c1], .agg #[.slice B2 n2 c2, .slice B3 n3 c3]] w0 (fun v w' => v = .bool r_ ∧ ST w0 [] w' [] []) := by
  subst hn
  subst hn1
  subst hn2
  subst hn3
  unfold F_laws_eqRoute at hF
  refine cv_of_cw 17 Try.func61 rfl Try.ntmps61 rfl ?_
  refine cw_seq ?_
  refine cw_region ?_
  refine ss 2 rfl rfl (Ys_box (T := 108) (v := .agg #[.slice B a.Start.length c, .slice B1 a.Steps.length c1]) (cs := [.slice B a.Start.length c, .slice B1 a.Steps.length c1]) (m := 2) hS rfl rfl rfl rfl) ?_
  rintro _ w_ ⟨b1, rfl, hS1⟩
  refine ss 3 rfl rfl (Ys_box (T := 108) (v := .agg #[.slice B2 b.Start.length c2, .slice B3 b.Steps.length c3]) (cs := [.slice B2 b.Start.length c2, .slice B3 b.Steps.length c3]) (m := 2) hS1 rfl rfl rfl rfl) ?_
  rintro _ w_1 ⟨b2, rfl, hS2⟩
  have hS2 : ST w0 [] _ [⟨some ⟨b1, 0, none⟩, 108, [.slice B a.Start.length c, .slice B1 a.Steps.length c1], 2⟩, ⟨some ⟨b2, 0, none⟩, 108, [.slice B2 b.Start.length c2, .slice B3 b.Steps.length c3], 2⟩] [⟨B, (a.Start.flatMap encI)⟩, ⟨B1, (a.Steps.flatMap enc_RouteStep)⟩, ⟨B2, (b.Start.flatMap encI)⟩, ⟨B3, (b.Steps.flatMap enc_RouteStep)⟩] := hS2
  refine sq 4 rfl rfl (Y_assign (v := .bool false) rfl rfl) ?_
  refine rw_nil ?_
  refine cw_seq ?_
  refine cw_seq ?_
  refine cw_region ?_
  refine sq 5 rfl rfl (Y_fieldAddr (B := some ⟨b1, 0, none⟩) (i := 0) (s := 0) k_fd_108_0_0_59 k_sz_59_1 rfl rfl) ?_
  refine sq 6 rfl rfl (Y_load1 (B := some ⟨b1, 0, none⟩) (i := 0) (cs := [.slice B a.Start.length c, .slice B1 a.Steps.length c1]) (v := .slice B a.Start.length c) k_sc_59 rfl rfl (hS2.cf (i := 0) rfl) rfl) ?_
  refine sq 7 rfl rfl (Y_fieldAddr (B := some ⟨b2, 0, none⟩) (i := 0) (s := 0) k_fd_108_0_0_59 k_sz_59_1 rfl rfl) ?_
  refine sq 8 rfl rfl (Y_load1 (B := some ⟨b2, 0, none⟩) (i := 0) (cs := [.slice B2 b.Start.length c2, .slice B3 b.Steps.length c3]) (v := .slice B2 b.Start.length c2) k_sc_59 rfl rfl (hS2.cf (i := 1) rfl) rfl) ?_
  obtain ⟨r_1, hc, hF⟩ := bind_inv hF
  refine sc 9 rfl rfl (Yc_func (g := 64) (vs := [.slice B a.Start.length c, .slice B2 b.Start.length c2]) k_call_64 rfl (mc rfl (mc rfl mn)) (c_laws_eqIntS a.Start b.Start B c a.Start.length B2 c2 b.Start.length _ rfl rfl (hS2.inn0 [(true, 0), (true, 2)] rfl) hc)) ?_
  rintro _ w_2 ⟨rfl, hd⟩
  have hS3 := hS2.out00 hd
  have hS3 : ST w0 [] _ [⟨some ⟨b1, 0, none⟩, 108, [.slice B a.Start.length c, .slice B1 a.Steps.length c1], 2⟩, ⟨some ⟨b2, 0, none⟩, 108, [.slice B2 b.Start.length c2, .slice B3 b.Steps.length c3], 2⟩] [⟨B, (a.Start.flatMap encI)⟩, ⟨B1, (a.Steps.flatMap enc_RouteStep)⟩, ⟨B2, (b.Start.flatMap encI)⟩, ⟨B3, (b.Steps.flatMap enc_RouteStep)⟩] := hS3
  refine sq 10 rfl rfl (Y_not (p := r_1) rfl rfl) ?_
  refine rw_nil ?_
  refine cw_cond (b := (!r_1)) rfl (fun hb => ?_) (fun hb => ?_)
  · skip
    have hF1 := ct hF hb
    refine cw_seq ?_
    refine cw_region ?_
    refine sq 4 rfl rfl (Y_assign (v := .bool false) rfl rfl) ?_
    refine rw_nil ?_
    refine cw_ret ?_
    obtain rfl := some_inj hF1
    exact ret1 Try.results61 (v1 := .bool false) (resAt_tmp rfl) ⟨rfl, (ST.subR (R' := []) (hS3.sel [] rfl rfl) (fun _ h => by cases h))⟩
  · skip
    have hF2 := cf' hF hb
    refine cw_skip ?_
    refine cw_seq ?_
    refine cw_seq ?_
    refine cw_region ?_
    refine sq 11 rfl rfl (Y_fieldAddr (B := some ⟨b1, 0, none⟩) (i := 0) (s := 0) k_fd_108_1_1_106 k_sz_106_1 rfl rfl) ?_
    refine sq 12 rfl rfl (Y_load1 (B := some ⟨b1, 0, none⟩) (i := 1) (cs := [.slice B a.Start.length c, .slice B1 a.Steps.length c1]) (v := .slice B1 a.Steps.length c1) k_sc_106 rfl rfl (hS3.cf (i := 0) rfl) rfl) ?_
    refine sq 13 rfl rfl (Y_fieldAddr (B := some ⟨b2, 0, none⟩) (i := 0) (s := 0) k_fd_108_1_1_106 k_sz_106_1 rfl rfl) ?_
    refine sq 14 rfl rfl (Y_load1 (B := some ⟨b2, 0, none⟩) (i := 1) (cs := [.slice B2 b.Start.length c2, .slice B3 b.Steps.length c3]) (v := .slice B3 b.Steps.length c3) k_sc_106 rfl rfl (hS3.cf (i := 1) rfl) rfl) ?_
    obtain ⟨r_2, hc1, hF2⟩ := bind_inv hF2
    refine sc 15 rfl rfl (Yc_func (g := 158) (vs := [.slice B1 a.Steps.length c1, .slice B3 b.Steps.length c3]) k_call_158 rfl (mc rfl (mc rfl mn)) (c_laws_eqRouteStepS a.Steps b.Steps B1 c1 a.Steps.length B3 c3 b.Steps.length _ rfl rfl (hS3.inn0 [(true, 1), (true, 3)] rfl) hc1)) ?_
    rintro _ w_3 ⟨rfl, hd1⟩
    have hS4 := hS3.out00 hd1
    have hS4 : ST w0 [] _ [⟨some ⟨b1, 0, none⟩, 108, [.slice B a.Start.length c, .slice B1 a.Steps.length c1], 2⟩, ⟨some ⟨b2, 0, none⟩, 108, [.slice B2 b.Start.length c2, .slice B3 b.Steps.length c3], 2⟩] [⟨B, (a.Start.flatMap encI)⟩, ⟨B1, (a.Steps.flatMap enc_RouteStep)⟩, ⟨B2, (b.Start.flatMap encI)⟩, ⟨B3, (b.Steps.flatMap enc_RouteStep)⟩] := hS4
    refine sq 16 rfl rfl (Y_not (p := r_2) rfl rfl) ?_
    refine rw_nil ?_
    refine cw_cond (b := (!r_2)) rfl (fun hb1 => ?_) (fun hb1 => ?_)
    · skip
      have hF3 := ct hF2 hb1
      refine cw_seq ?_
      refine cw_region ?_
      refine sq 4 rfl rfl (Y_assign (v := .bool false) rfl rfl) ?_
      refine rw_nil ?_
      refine cw_ret ?_
      obtain rfl := some_inj hF3
      exact ret1 Try.results61 (v1 := .bool false) (resAt_tmp rfl) ⟨rfl, (ST.subR (R' := []) (hS4.sel [] rfl rfl) (fun _ h => by cases h))⟩
    · skip
      have hF4 := cf' hF2 hb1
      refine cw_skip ?_
      refine cw_seq ?_
      refine cw_region ?_
      refine sq 4 rfl rfl (Y_assign (v := .bool true) rfl rfl) ?_
      refine rw_nil ?_
      refine cw_ret ?_
      obtain rfl := some_inj hF4
      exact ret1 Try.results61 (v1 := .bool true) (resAt_tmp rfl) ⟨rfl, (ST.subR (R' := []) (hS4.sel [] rfl rfl) (fun _ h => by cases h))⟩

theorem c_laws_FnExactCheckRoute (aG : TCouplingGraph) (aC : TCircuit) (aR : TRoute) (B : Option Addr) (c n : Nat) (B1 : Option Addr) (c1 n1 : Nat) (B2 : Option Addr) (c2 n2 : Nat) (B3 : Option Addr) (c3 n3 : Nat) (w0 : World) (hn : aG.Edges.length = n) (hn1 : aC.Gates.length = n1) (hn2 : aR.Start.length = n2) (hn3 : aR.Steps.length = n3) (hS : ST w0 [] w0 [] [⟨B, (aG.Edges.flatMap enc_Edge)⟩, ⟨B1, (aC.Gates.flatMap enc_Gate)⟩, ⟨B2, (aR.Start.flatMap encI)⟩, ⟨B3, (aR.Steps.flatMap enc_RouteStep)⟩]) {r_ : Bool} (hF : F_laws_FnExactCheckRoute aG aC aR = some r_) :
    CV Try.prog 8 #[.agg #[.int .i64 aG.Nodes, .slice B n c], .agg #[.int .i64 aC.Qubits, .slice B1 n1 c1], .agg #[.slice B2 n2 c2, .slice B3 n3 c3]] w0 (fun v w' => v = .bool r_ ∧ ST w0 [] w' [] []) := by
  subst hn
  subst hn1
  subst hn2
  subst hn3
  unfold F_laws_FnExactCheckRoute at hF
  refine cv_of_cw 85 Try.func8 rfl Try.ntmps8 rfl ?_
  refine cw_seq ?_
  refine cw_region ?_
  refine ss 3 rfl rfl (Ys_box (T := 86) (v := .agg #[.int .i64 aG.Nodes, .slice B aG.Edges.length c]) (cs := [.int .i64 aG.Nodes, .slice B aG.Edges.length c]) (m := 2) hS rfl rfl rfl rfl) ?_
  rintro _ w_ ⟨b, rfl, hS1⟩
  refine ss 4 rfl rfl (Ys_box (T := 89) (v := .agg #[.int .i64 aC.Qubits, .slice B1 aC.Gates.length c1]) (cs := [.int .i64 aC.Qubits, .slice B1 aC.Gates.length c1]) (m := 2) hS1 rfl rfl rfl rfl) ?_
  rintro _ w_1 ⟨b1, rfl, hS2⟩
  have hS2 : ST w0 [] _ [⟨some ⟨b, 0, none⟩, 86, [.int .i64 aG.Nodes, .slice B aG.Edges.length c], 2⟩, ⟨some ⟨b1, 0, none⟩, 89, [.int .i64 aC.Qubits, .slice B1 aC.Gates.length c1], 2⟩] [⟨B, (aG.Edges.flatMap enc_Edge)⟩, ⟨B1, (aC.Gates.flatMap enc_Gate)⟩, ⟨B2, (aR.Start.flatMap encI)⟩, ⟨B3, (aR.Steps.flatMap enc_RouteStep)⟩] := hS2
  refine ss 5 rfl rfl (Ys_box (T := 92) (v := .agg #[.slice B2 aR.Start.length c2, .slice B3 aR.Steps.length c3]) (cs := [.slice B2 aR.Start.length c2, .slice B3 aR.Steps.length c3]) (m := 2) hS2 rfl rfl rfl rfl) ?_
  rintro _ w_2 ⟨b2, rfl, hS3⟩
  have hS3 : ST w0 [] _ [⟨some ⟨b, 0, none⟩, 86, [.int .i64 aG.Nodes, .slice B aG.Edges.length c], 2⟩, ⟨some ⟨b1, 0, none⟩, 89, [.int .i64 aC.Qubits, .slice B1 aC.Gates.length c1], 2⟩, ⟨some ⟨b2, 0, none⟩, 92, [.slice B2 aR.Start.length c2, .slice B3 aR.Steps.length c3], 2⟩] [⟨B, (aG.Edges.flatMap enc_Edge)⟩, ⟨B1, (aC.Gates.flatMap enc_Gate)⟩, ⟨B2, (aR.Start.flatMap encI)⟩, ⟨B3, (aR.Steps.flatMap enc_RouteStep)⟩] := hS3
  refine sq 6 rfl rfl (Y_assign (v := .bool false) rfl rfl) ?_
  refine rw_nil ?_
  refine cw_seq ?_
  refine cw_region ?_
  refine sq 7 rfl rfl (Y_assign (v := .int .i64 1048576) rfl rfl) ?_
  refine rw_nil ?_
  refine cw_seq ?_
  refine cw_region ?_
  refine sq 17 rfl rfl (Y_loadA (B := some ⟨b, 0, none⟩) (i := 0) (cs := [.int .i64 aG.Nodes, .slice B aG.Edges.length c]) (vs := [.int .i64 aG.Nodes, .slice B aG.Edges.length c]) k_ag_86 k_sz_86_2 rfl rfl (hS3.cf (i := 0) rfl) rfl rfl) ?_
  refine sq 18 rfl rfl (Y_move (v := .int .i64 1048576) rfl rfl) ?_
  obtain ⟨r_1, hc, hF⟩ := bind_inv hF
  refine sc 19 rfl rfl (Yc_func (g := 51) (vs := [.agg #[.int .i64 aG.Nodes, .slice B aG.Edges.length c], .int .i64 1048576]) k_call_51 rfl (mc rfl (mc rfl mn)) (c_laws_szCouplingGraph aG 1048576 B c aG.Edges.length _ rfl (hS3.inn0 [(true, 0)] rfl) hc)) ?_
  rintro _ w_3 ⟨rfl, hd⟩
  have hS4 := hS3.out00 hd
  have hS4 : ST w0 [] _ [⟨some ⟨b, 0, none⟩, 86, [.int .i64 aG.Nodes, .slice B aG.Edges.length c], 2⟩, ⟨some ⟨b1, 0, none⟩, 89, [.int .i64 aC.Qubits, .slice B1 aC.Gates.length c1], 2⟩, ⟨some ⟨b2, 0, none⟩, 92, [.slice B2 aR.Start.length c2, .slice B3 aR.Steps.length c3], 2⟩] [⟨B, (aG.Edges.flatMap enc_Edge)⟩, ⟨B1, (aC.Gates.flatMap enc_Gate)⟩, ⟨B2, (aR.Start.flatMap encI)⟩, ⟨B3, (aR.Steps.flatMap enc_RouteStep)⟩] := hS4
  refine sq 7 rfl rfl (Y_assign (v := .int .i64 r_1) rfl rfl) ?_
  refine rw_nil ?_
  refine cw_seq ?_
  refine cw_seq ?_
  refine cw_region ?_
  refine sq 20 rfl rfl (Y_move (v := .int .i64 r_1) rfl rfl) ?_
  refine sq 21 rfl rfl (Y_lt (k := .i64) (a := r_1) (b := 0) rfl rfl rfl) ?_
  refine rw_nil ?_
  refine cw_cond (b := (decide (r_1 < 0))) rfl (fun hb => ?_) (fun hb => ?_)
  · skip
    have hF1 := ct hF hb
    refine cw_seq ?_
    refine cw_region ?_
    refine sq 6 rfl rfl (Y_assign (v := .bool true) rfl rfl) ?_
    refine rw_nil ?_
    refine cw_ret ?_
    obtain rfl := some_inj hF1
    exact ret1 Try.results8 (v1 := .bool true) (resAt_tmp rfl) ⟨rfl, (ST.subR (R' := []) (hS4.sel [] rfl rfl) (fun _ h => by cases h))⟩
  · skip
    have hF2 := cf' hF hb
    refine cw_skip ?_
    refine cw_seq ?_
    refine cw_region ?_
    refine sq 22 rfl rfl (Y_loadA (B := some ⟨b1, 0, none⟩) (i := 0) (cs := [.int .i64 aC.Qubits, .slice B1 aC.Gates.length c1]) (vs := [.int .i64 aC.Qubits, .slice B1 aC.Gates.length c1]) k_ag_89 k_sz_89_2 rfl rfl (hS4.cf (i := 1) rfl) rfl rfl) ?_
    refine sq 23 rfl rfl (Y_move (v := .int .i64 r_1) rfl rfl) ?_
    obtain ⟨r_2, hc1, hF2⟩ := bind_inv hF2
    refine sc 24 rfl rfl (Yc_func (g := 52) (vs := [.agg #[.int .i64 aC.Qubits, .slice B1 aC.Gates.length c1], .int .i64 r_1]) k_call_52 rfl (mc rfl (mc rfl mn)) (c_laws_szCircuit aC r_1 B1 c1 aC.Gates.length _ rfl (hS4.inn0 [(true, 1)] rfl) hc1)) ?_
    rintro _ w_4 ⟨rfl, hd1⟩
    have hS5 := hS4.out00 hd1
    have hS5 : ST w0 [] _ [⟨some ⟨b, 0, none⟩, 86, [.int .i64 aG.Nodes, .slice B aG.Edges.length c], 2⟩, ⟨some ⟨b1, 0, none⟩, 89, [.int .i64 aC.Qubits, .slice B1 aC.Gates.length c1], 2⟩, ⟨some ⟨b2, 0, none⟩, 92, [.slice B2 aR.Start.length c2, .slice B3 aR.Steps.length c3], 2⟩] [⟨B, (aG.Edges.flatMap enc_Edge)⟩, ⟨B1, (aC.Gates.flatMap enc_Gate)⟩, ⟨B2, (aR.Start.flatMap encI)⟩, ⟨B3, (aR.Steps.flatMap enc_RouteStep)⟩] := hS5
    refine sq 7 rfl rfl (Y_assign (v := .int .i64 r_2) rfl rfl) ?_
    refine rw_nil ?_
    refine cw_seq ?_
    refine cw_seq ?_
    refine cw_region ?_
    refine sq 25 rfl rfl (Y_move (v := .int .i64 r_2) rfl rfl) ?_
    refine sq 26 rfl rfl (Y_lt (k := .i64) (a := r_2) (b := 0) rfl rfl rfl) ?_
    refine rw_nil ?_
    refine cw_cond (b := (decide (r_2 < 0))) rfl (fun hb1 => ?_) (fun hb1 => ?_)
    · skip
      have hF3 := ct hF2 hb1
      refine cw_seq ?_
      refine cw_region ?_
      refine sq 6 rfl rfl (Y_assign (v := .bool true) rfl rfl) ?_
      refine rw_nil ?_
      refine cw_ret ?_
      obtain rfl := some_inj hF3
      exact ret1 Try.results8 (v1 := .bool true) (resAt_tmp rfl) ⟨rfl, (ST.subR (R' := []) (hS5.sel [] rfl rfl) (fun _ h => by cases h))⟩
    · skip
      have hF4 := cf' hF2 hb1
      refine cw_skip ?_
      refine cw_seq ?_
      refine cw_region ?_
      refine sq 27 rfl rfl (Y_loadA (B := some ⟨b2, 0, none⟩) (i := 0) (cs := [.slice B2 aR.Start.length c2, .slice B3 aR.Steps.length c3]) (vs := [.slice B2 aR.Start.length c2, .slice B3 aR.Steps.length c3]) k_ag_92 k_sz_92_2 rfl rfl (hS5.cf (i := 2) rfl) rfl rfl) ?_
      refine sq 28 rfl rfl (Y_move (v := .int .i64 r_2) rfl rfl) ?_
      obtain ⟨r_3, hc2, hF4⟩ := bind_inv hF4
      refine sc 29 rfl rfl (Yc_func (g := 53) (vs := [.agg #[.slice B2 aR.Start.length c2, .slice B3 aR.Steps.length c3], .int .i64 r_2]) k_call_53 rfl (mc rfl (mc rfl mn)) (c_laws_szRoute aR r_2 B2 c2 aR.Start.length B3 c3 aR.Steps.length _ rfl rfl (hS5.inn0 [(true, 2), (true, 3)] rfl) hc2)) ?_
      rintro _ w_5 ⟨rfl, hd2⟩
      have hS6 := hS5.out00 hd2
      have hS6 : ST w0 [] _ [⟨some ⟨b, 0, none⟩, 86, [.int .i64 aG.Nodes, .slice B aG.Edges.length c], 2⟩, ⟨some ⟨b1, 0, none⟩, 89, [.int .i64 aC.Qubits, .slice B1 aC.Gates.length c1], 2⟩, ⟨some ⟨b2, 0, none⟩, 92, [.slice B2 aR.Start.length c2, .slice B3 aR.Steps.length c3], 2⟩] [⟨B, (aG.Edges.flatMap enc_Edge)⟩, ⟨B1, (aC.Gates.flatMap enc_Gate)⟩, ⟨B2, (aR.Start.flatMap encI)⟩, ⟨B3, (aR.Steps.flatMap enc_RouteStep)⟩] := hS6
      refine sq 7 rfl rfl (Y_assign (v := .int .i64 r_3) rfl rfl) ?_
      refine rw_nil ?_
      refine cw_seq ?_
      refine cw_seq ?_
      refine cw_region ?_
      refine sq 30 rfl rfl (Y_move (v := .int .i64 r_3) rfl rfl) ?_
      refine sq 31 rfl rfl (Y_lt (k := .i64) (a := r_3) (b := 0) rfl rfl rfl) ?_
      refine rw_nil ?_
      refine cw_cond (b := (decide (r_3 < 0))) rfl (fun hb2 => ?_) (fun hb2 => ?_)
      · skip
        have hF5 := ct hF4 hb2
        refine cw_seq ?_
        refine cw_region ?_
        refine sq 6 rfl rfl (Y_assign (v := .bool true) rfl rfl) ?_
        refine rw_nil ?_
        refine cw_ret ?_
        obtain rfl := some_inj hF5
        exact ret1 Try.results8 (v1 := .bool true) (resAt_tmp rfl) ⟨rfl, (ST.subR (R' := []) (hS6.sel [] rfl rfl) (fun _ h => by cases h))⟩
      · skip
        have hF6 := cf' hF4 hb2
        refine cw_skip ?_
        refine cw_seq ?_
        obtain ⟨r_4, hc3, hF6⟩ := bind_inv hF6
        obtain ⟨r_5, hc4, hF6⟩ := bind_inv hF6
        obtain ⟨r_6, hc5, hF6⟩ := bind_inv hF6
        obtain ⟨⟨r_7, r_8, r_9⟩, hc6, hF6⟩ := bind_inv hF6
        refine ra_start (ST.sel hS6 [0, 1, 2] rfl rfl).fn (by kernel_rfl) ?_
        have hS11 := hS6.drew
        refine ra_q 0 33 (v := .agg #[.int .i64 aG.Nodes, .slice B aG.Edges.length c]) rfl rfl rfl (by kernel_rfl) (by kernel_rfl) (by kernel_rfl) (ST.sel hS11 [0, 1, 2] rfl rfl) (fun w' hw' => (Y_loadA (B := some ⟨b, 0, none⟩) (i := 0) (cs := [.int .i64 aG.Nodes, .slice B aG.Edges.length c]) (vs := [.int .i64 aG.Nodes, .slice B aG.Edges.length c]) k_ag_86 k_sz_86_2 rfl rfl (ST.cf hw' (i := 0) rfl) rfl rfl)) ?_
        refine ra_q 2 35 (v := .agg #[.int .i64 aC.Qubits, .slice B1 aC.Gates.length c1]) rfl rfl rfl (by kernel_rfl) (by kernel_rfl) (by kernel_rfl) (ST.sel hS11 [0, 1, 2] rfl rfl) (fun w' hw' => (Y_loadA (B := some ⟨b1, 0, none⟩) (i := 0) (cs := [.int .i64 aC.Qubits, .slice B1 aC.Gates.length c1]) (vs := [.int .i64 aC.Qubits, .slice B1 aC.Gates.length c1]) k_ag_89 k_sz_89_2 rfl rfl (ST.cf hw' (i := 1) rfl) rfl rfl)) ?_
        refine ra_q 4 37 (v := .agg #[.slice B2 aR.Start.length c2, .slice B3 aR.Steps.length c3]) rfl rfl rfl (by kernel_rfl) (by kernel_rfl) (by kernel_rfl) (ST.sel hS11 [0, 1, 2] rfl rfl) (fun w' hw' => (Y_loadA (B := some ⟨b2, 0, none⟩) (i := 0) (cs := [.slice B2 aR.Start.length c2, .slice B3 aR.Steps.length c3]) (vs := [.slice B2 aR.Start.length c2, .slice B3 aR.Steps.length c3]) k_ag_92 k_sz_92_2 rfl rfl (ST.cf hw' (i := 2) rfl) rfl rfl)) ?_
        refine ra_all (rs := [1]) (by kernel_rfl) rfl ?_
        refine ra_c 34 (i := 1) rfl rfl rfl (Yc_func (g := 55) (vs := [.agg #[.int .i64 aG.Nodes, .slice B aG.Edges.length c]]) k_call_55 rfl (mc rfl mn) (c_laws_toCouplingGraph aG B c aG.Edges.length _ rfl (hS11.inn0 [(true, 0)] rfl) hc3)) ?_ ?_
        · rintro _ w_6 ⟨B4, c4, rfl, hd3⟩
          have hS12 := hS11.out0 hd3
          have hS12 : ST w0 [] _ [⟨some ⟨b, 0, none⟩, 86, [.int .i64 aG.Nodes, .slice B aG.Edges.length c], 2⟩, ⟨some ⟨b1, 0, none⟩, 89, [.int .i64 aC.Qubits, .slice B1 aC.Gates.length c1], 2⟩, ⟨some ⟨b2, 0, none⟩, 92, [.slice B2 aR.Start.length c2, .slice B3 aR.Steps.length c3], 2⟩, ⟨B4, 277, (r_4.Edges.flatMap enc_Edge), c4 * 2⟩] [⟨B, (aG.Edges.flatMap enc_Edge)⟩, ⟨B1, (aC.Gates.flatMap enc_Gate)⟩, ⟨B2, (aR.Start.flatMap encI)⟩, ⟨B3, (aR.Steps.flatMap enc_RouteStep)⟩] := hS12
          refine ⟨(ST.sel hS12 [0, 1, 2] rfl rfl), ?_⟩
          refine ra_all (rs := [3]) (by kernel_rfl) rfl ?_
          refine ra_c 36 (i := 3) rfl rfl rfl (Yc_func (g := 56) (vs := [.agg #[.int .i64 aC.Qubits, .slice B1 aC.Gates.length c1]]) k_call_56 rfl (mc rfl mn) (c_laws_toCircuit aC B1 c1 aC.Gates.length _ rfl (hS12.inn0 [(true, 1)] rfl) hc4)) ?_ ?_
          · rintro _ w_7 ⟨B5, c5, rfl, hd4⟩
            have hS13 := hS12.out0 hd4
            have hS13 : ST w0 [] _ [⟨some ⟨b, 0, none⟩, 86, [.int .i64 aG.Nodes, .slice B aG.Edges.length c], 2⟩, ⟨some ⟨b1, 0, none⟩, 89, [.int .i64 aC.Qubits, .slice B1 aC.Gates.length c1], 2⟩, ⟨some ⟨b2, 0, none⟩, 92, [.slice B2 aR.Start.length c2, .slice B3 aR.Steps.length c3], 2⟩, ⟨B4, 277, (r_4.Edges.flatMap enc_Edge), c4 * 2⟩, ⟨B5, 213, (r_5.Gates.flatMap enc_Gate), c5 * 3⟩] [⟨B, (aG.Edges.flatMap enc_Edge)⟩, ⟨B1, (aC.Gates.flatMap enc_Gate)⟩, ⟨B2, (aR.Start.flatMap encI)⟩, ⟨B3, (aR.Steps.flatMap enc_RouteStep)⟩] := hS13
            refine ⟨(ST.sel hS13 [0, 1, 2] rfl rfl), ?_⟩
            refine ra_all (rs := [5]) (by kernel_rfl) rfl ?_
            refine ra_c 38 (i := 5) rfl rfl rfl (Yc_func (g := 57) (vs := [.agg #[.slice B2 aR.Start.length c2, .slice B3 aR.Steps.length c3]]) k_call_57 rfl (mc rfl mn) (c_laws_toRoute aR B2 c2 aR.Start.length B3 c3 aR.Steps.length _ rfl rfl (hS13.inn0 [(true, 2), (true, 3)] rfl) hc5)) ?_ ?_
            · rintro _ w_8 ⟨B6, c6, B7, c7, rfl, hd5⟩
              have hS14 := hS13.out0 hd5
              have hS14 : ST w0 [] _ [⟨some ⟨b, 0, none⟩, 86, [.int .i64 aG.Nodes, .slice B aG.Edges.length c], 2⟩, ⟨some ⟨b1, 0, none⟩, 89, [.int .i64 aC.Qubits, .slice B1 aC.Gates.length c1], 2⟩, ⟨some ⟨b2, 0, none⟩, 92, [.slice B2 aR.Start.length c2, .slice B3 aR.Steps.length c3], 2⟩, ⟨B4, 277, (r_4.Edges.flatMap enc_Edge), c4 * 2⟩, ⟨B5, 213, (r_5.Gates.flatMap enc_Gate), c5 * 3⟩, ⟨B6, 3, (r_6.Start.flatMap encI), c6 * 1⟩, ⟨B7, 211, (r_6.Steps.flatMap enc_RouteStep), c7 * 3⟩] [⟨B, (aG.Edges.flatMap enc_Edge)⟩, ⟨B1, (aC.Gates.flatMap enc_Gate)⟩, ⟨B2, (aR.Start.flatMap encI)⟩, ⟨B3, (aR.Steps.flatMap enc_RouteStep)⟩] := hS14
              refine ⟨(ST.sel hS14 [0, 1, 2] rfl rfl), ?_⟩
              refine ra_all (rs := [6]) (by kernel_rfl) rfl ?_
              refine ra_c 39 (i := 6) rfl rfl rfl (Yc_func (g := 54) (vs := [.agg #[.int .i64 r_4.Nodes, .slice B4 r_4.Edges.length c4], .agg #[.int .i64 r_5.Qubits, .slice B5 r_5.Gates.length c5], .agg #[.slice B6 r_6.Start.length c6, .slice B7 r_6.Steps.length c7]]) k_call_54 rfl (mc rfl (mc rfl (mc rfl mn))) (c_spec_CheckRoute r_4 r_5 r_6 B4 c4 r_4.Edges.length B5 c5 r_5.Gates.length B6 c6 r_6.Start.length B7 c7 r_6.Steps.length _ rfl rfl rfl (hS14.lencap (i := 5) rfl (fm_lenn (l := r_6.Start) encI_len rfl) rfl rfl) rfl (hS14.inn0 [(false, 3), (false, 4), (false, 5), (false, 6)] rfl) hc6)) ?_ ?_
              · rintro _ w_9 ⟨rfl, hd6⟩
                have hS15 := hS14.out00 hd6
                have hS15 : ST w0 [] _ [⟨some ⟨b, 0, none⟩, 86, [.int .i64 aG.Nodes, .slice B aG.Edges.length c], 2⟩, ⟨some ⟨b1, 0, none⟩, 89, [.int .i64 aC.Qubits, .slice B1 aC.Gates.length c1], 2⟩, ⟨some ⟨b2, 0, none⟩, 92, [.slice B2 aR.Start.length c2, .slice B3 aR.Steps.length c3], 2⟩, ⟨B4, 277, (r_4.Edges.flatMap enc_Edge), c4 * 2⟩, ⟨B5, 213, (r_5.Gates.flatMap enc_Gate), c5 * 3⟩, ⟨B6, 3, (r_6.Start.flatMap encI), c6 * 1⟩, ⟨B7, 211, (r_6.Steps.flatMap enc_RouteStep), c7 * 3⟩] [⟨B, (aG.Edges.flatMap enc_Edge)⟩, ⟨B1, (aC.Gates.flatMap enc_Gate)⟩, ⟨B2, (aR.Start.flatMap encI)⟩, ⟨B3, (aR.Steps.flatMap enc_RouteStep)⟩] := hS15
                refine ⟨(ST.sel hS15 [0, 1, 2] rfl rfl), ?_⟩
                refine ra_q 7 32 (v := .tuple #[.int .i64 r_7, .int .i64 r_8, .bool r_9]) rfl rfl rfl (by kernel_rfl) (by kernel_rfl) (by kernel_rfl) (ST.sel hS15 [0, 1, 2] rfl rfl) (fun w' hw' => (Y_move (v := .tuple #[.int .i64 r_7, .int .i64 r_8, .bool r_9]) rfl rfl)) ?_
                refine ra_q 8 40 (v := .int .i64 r_7) rfl rfl rfl (by kernel_rfl) (by kernel_rfl) (by kernel_rfl) (ST.sel hS15 [0, 1, 2] rfl rfl) (fun w' hw' => (Y_extract (v := .int .i64 r_7) rfl rfl rfl)) ?_
                refine ra_q 9 41 (v := .int .i64 r_8) rfl rfl rfl (by kernel_rfl) (by kernel_rfl) (by kernel_rfl) (ST.sel hS15 [0, 1, 2] rfl rfl) (fun w' hw' => (Y_extract (v := .int .i64 r_8) rfl rfl rfl)) ?_
                refine ra_q 10 42 (v := .bool r_9) rfl rfl rfl (by kernel_rfl) (by kernel_rfl) (by kernel_rfl) (ST.sel hS15 [0, 1, 2] rfl rfl) (fun w' hw' => (Y_extract (v := .bool r_9) rfl rfl rfl)) ?_
                refine ra_q 11 8 (v := .int .i64 r_7) rfl rfl rfl (by kernel_rfl) (by kernel_rfl) (by kernel_rfl) (ST.sel hS15 [0, 1, 2] rfl rfl) (fun w' hw' => (Y_assign (v := .int .i64 r_7) rfl rfl)) ?_
                refine ra_q 12 9 (v := .int .i64 r_8) rfl rfl rfl (by kernel_rfl) (by kernel_rfl) (by kernel_rfl) (ST.sel hS15 [0, 1, 2] rfl rfl) (fun w' hw' => (Y_assign (v := .int .i64 r_8) rfl rfl)) ?_
                refine ra_q 13 10 (v := .bool r_9) rfl rfl rfl (by kernel_rfl) (by kernel_rfl) (by kernel_rfl) (ST.sel hS15 [0, 1, 2] rfl rfl) (fun w' hw' => (Y_assign (v := .bool r_9) rfl rfl)) ?_
                refine ra_done (by kernel_rfl) ?_
                refine cw_seq ?_
                refine cw_region ?_
                refine sq 43 rfl rfl (Y_loadA (B := some ⟨b, 0, none⟩) (i := 0) (cs := [.int .i64 aG.Nodes, .slice B aG.Edges.length c]) (vs := [.int .i64 aG.Nodes, .slice B aG.Edges.length c]) k_ag_86 k_sz_86_2 rfl rfl (hS15.cf (i := 0) rfl) rfl rfl) ?_
                obtain ⟨r_10, hc7, hF6⟩ := bind_inv hF6
                refine sc 44 rfl rfl (Yc_func (g := 55) (vs := [.agg #[.int .i64 aG.Nodes, .slice B aG.Edges.length c]]) k_call_55 rfl (mc rfl mn) (c_laws_toCouplingGraph aG B c aG.Edges.length _ rfl (hS15.inn0 [(true, 0)] rfl) hc7)) ?_
                rintro _ w_10 ⟨B8, c8, rfl, hd7⟩
                have hS16 := hS15.out0 hd7
                have hS16 : ST w0 [] _ [⟨some ⟨b, 0, none⟩, 86, [.int .i64 aG.Nodes, .slice B aG.Edges.length c], 2⟩, ⟨some ⟨b1, 0, none⟩, 89, [.int .i64 aC.Qubits, .slice B1 aC.Gates.length c1], 2⟩, ⟨some ⟨b2, 0, none⟩, 92, [.slice B2 aR.Start.length c2, .slice B3 aR.Steps.length c3], 2⟩, ⟨B4, 277, (r_4.Edges.flatMap enc_Edge), c4 * 2⟩, ⟨B5, 213, (r_5.Gates.flatMap enc_Gate), c5 * 3⟩, ⟨B6, 3, (r_6.Start.flatMap encI), c6 * 1⟩, ⟨B7, 211, (r_6.Steps.flatMap enc_RouteStep), c7 * 3⟩, ⟨B8, 277, (r_10.Edges.flatMap enc_Edge), c8 * 2⟩] [⟨B, (aG.Edges.flatMap enc_Edge)⟩, ⟨B1, (aC.Gates.flatMap enc_Gate)⟩, ⟨B2, (aR.Start.flatMap encI)⟩, ⟨B3, (aR.Steps.flatMap enc_RouteStep)⟩] := hS16
                refine ss 11 rfl rfl (Ys_alloc (T := 100) (cs := [.int .i64 0, .slice none 0 0]) (m := 2) hS16 k_zero_100 rfl rfl rfl) ?_
                rintro _ w_11 ⟨b3, rfl, hS17⟩
                have hS17 : ST w0 [] _ [⟨some ⟨b, 0, none⟩, 86, [.int .i64 aG.Nodes, .slice B aG.Edges.length c], 2⟩, ⟨some ⟨b1, 0, none⟩, 89, [.int .i64 aC.Qubits, .slice B1 aC.Gates.length c1], 2⟩, ⟨some ⟨b2, 0, none⟩, 92, [.slice B2 aR.Start.length c2, .slice B3 aR.Steps.length c3], 2⟩, ⟨B4, 277, (r_4.Edges.flatMap enc_Edge), c4 * 2⟩, ⟨B5, 213, (r_5.Gates.flatMap enc_Gate), c5 * 3⟩, ⟨B6, 3, (r_6.Start.flatMap encI), c6 * 1⟩, ⟨B7, 211, (r_6.Steps.flatMap enc_RouteStep), c7 * 3⟩, ⟨B8, 277, (r_10.Edges.flatMap enc_Edge), c8 * 2⟩, ⟨some ⟨b3, 0, none⟩, 100, [.int .i64 0, .slice none 0 0], 2⟩] [⟨B, (aG.Edges.flatMap enc_Edge)⟩, ⟨B1, (aC.Gates.flatMap enc_Gate)⟩, ⟨B2, (aR.Start.flatMap encI)⟩, ⟨B3, (aR.Steps.flatMap enc_RouteStep)⟩] := hS17
                refine ss0 rfl rfl (Ys_store (i := 8) (s := 2) (B := some ⟨b3, 0, none⟩) (T' := 100) (v := .agg #[.int .i64 r_10.Nodes, .slice B8 r_10.Edges.length c8]) (vs := [.int .i64 r_10.Nodes, .slice B8 r_10.Edges.length c8]) (k := 0) (cs' := [.int .i64 r_10.Nodes, .slice B8 r_10.Edges.length c8]) hS17 k_sz_100_2 rfl rfl rfl rfl rfl rfl rfl (Nat.le_of_ble_eq_true rfl) rfl rfl) ?_
                rintro _ w_12 ⟨rfl, hS18⟩
                have hS18 : ST w0 [] _ [⟨some ⟨b, 0, none⟩, 86, [.int .i64 aG.Nodes, .slice B aG.Edges.length c], 2⟩, ⟨some ⟨b1, 0, none⟩, 89, [.int .i64 aC.Qubits, .slice B1 aC.Gates.length c1], 2⟩, ⟨some ⟨b2, 0, none⟩, 92, [.slice B2 aR.Start.length c2, .slice B3 aR.Steps.length c3], 2⟩, ⟨B4, 277, (r_4.Edges.flatMap enc_Edge), c4 * 2⟩, ⟨B5, 213, (r_5.Gates.flatMap enc_Gate), c5 * 3⟩, ⟨B6, 3, (r_6.Start.flatMap encI), c6 * 1⟩, ⟨B7, 211, (r_6.Steps.flatMap enc_RouteStep), c7 * 3⟩, ⟨B8, 277, (r_10.Edges.flatMap enc_Edge), c8 * 2⟩, ⟨some ⟨b3, 0, none⟩, 100, [.int .i64 r_10.Nodes, .slice B8 r_10.Edges.length c8], 2⟩] [⟨B, (aG.Edges.flatMap enc_Edge)⟩, ⟨B1, (aC.Gates.flatMap enc_Gate)⟩, ⟨B2, (aR.Start.flatMap encI)⟩, ⟨B3, (aR.Steps.flatMap enc_RouteStep)⟩] := hS18
                refine rw_nil ?_
                refine cw_seq ?_
                refine cw_region ?_
                refine sq 45 rfl rfl (Y_loadA (B := some ⟨b1, 0, none⟩) (i := 0) (cs := [.int .i64 aC.Qubits, .slice B1 aC.Gates.length c1]) (vs := [.int .i64 aC.Qubits, .slice B1 aC.Gates.length c1]) k_ag_89 k_sz_89_2 rfl rfl (hS18.cf (i := 1) rfl) rfl rfl) ?_
                obtain ⟨r_11, hc8, hF6⟩ := bind_inv hF6
                refine sc 46 rfl rfl (Yc_func (g := 56) (vs := [.agg #[.int .i64 aC.Qubits, .slice B1 aC.Gates.length c1]]) k_call_56 rfl (mc rfl mn) (c_laws_toCircuit aC B1 c1 aC.Gates.length _ rfl (hS18.inn0 [(true, 1)] rfl) hc8)) ?_
                rintro _ w_13 ⟨B9, c9, rfl, hd8⟩
                have hS19 := hS18.out0 hd8
                have hS19 : ST w0 [] _ [⟨some ⟨b, 0, none⟩, 86, [.int .i64 aG.Nodes, .slice B aG.Edges.length c], 2⟩, ⟨some ⟨b1, 0, none⟩, 89, [.int .i64 aC.Qubits, .slice B1 aC.Gates.length c1], 2⟩, ⟨some ⟨b2, 0, none⟩, 92, [.slice B2 aR.Start.length c2, .slice B3 aR.Steps.length c3], 2⟩, ⟨B4, 277, (r_4.Edges.flatMap enc_Edge), c4 * 2⟩, ⟨B5, 213, (r_5.Gates.flatMap enc_Gate), c5 * 3⟩, ⟨B6, 3, (r_6.Start.flatMap encI), c6 * 1⟩, ⟨B7, 211, (r_6.Steps.flatMap enc_RouteStep), c7 * 3⟩, ⟨B8, 277, (r_10.Edges.flatMap enc_Edge), c8 * 2⟩, ⟨some ⟨b3, 0, none⟩, 100, [.int .i64 r_10.Nodes, .slice B8 r_10.Edges.length c8], 2⟩, ⟨B9, 213, (r_11.Gates.flatMap enc_Gate), c9 * 3⟩] [⟨B, (aG.Edges.flatMap enc_Edge)⟩, ⟨B1, (aC.Gates.flatMap enc_Gate)⟩, ⟨B2, (aR.Start.flatMap encI)⟩, ⟨B3, (aR.Steps.flatMap enc_RouteStep)⟩] := hS19
                refine ss 12 rfl rfl (Ys_alloc (T := 104) (cs := [.int .i64 0, .slice none 0 0]) (m := 2) hS19 k_zero_104 rfl rfl rfl) ?_
                rintro _ w_14 ⟨b4, rfl, hS20⟩
                have hS20 : ST w0 [] _ [⟨some ⟨b, 0, none⟩, 86, [.int .i64 aG.Nodes, .slice B aG.Edges.length c], 2⟩, ⟨some ⟨b1, 0, none⟩, 89, [.int .i64 aC.Qubits, .slice B1 aC.Gates.length c1], 2⟩, ⟨some ⟨b2, 0, none⟩, 92, [.slice B2 aR.Start.length c2, .slice B3 aR.Steps.length c3], 2⟩, ⟨B4, 277, (r_4.Edges.flatMap enc_Edge), c4 * 2⟩, ⟨B5, 213, (r_5.Gates.flatMap enc_Gate), c5 * 3⟩, ⟨B6, 3, (r_6.Start.flatMap encI), c6 * 1⟩, ⟨B7, 211, (r_6.Steps.flatMap enc_RouteStep), c7 * 3⟩, ⟨B8, 277, (r_10.Edges.flatMap enc_Edge), c8 * 2⟩, ⟨some ⟨b3, 0, none⟩, 100, [.int .i64 r_10.Nodes, .slice B8 r_10.Edges.length c8], 2⟩, ⟨B9, 213, (r_11.Gates.flatMap enc_Gate), c9 * 3⟩, ⟨some ⟨b4, 0, none⟩, 104, [.int .i64 0, .slice none 0 0], 2⟩] [⟨B, (aG.Edges.flatMap enc_Edge)⟩, ⟨B1, (aC.Gates.flatMap enc_Gate)⟩, ⟨B2, (aR.Start.flatMap encI)⟩, ⟨B3, (aR.Steps.flatMap enc_RouteStep)⟩] := hS20
                refine ss0 rfl rfl (Ys_store (i := 10) (s := 2) (B := some ⟨b4, 0, none⟩) (T' := 104) (v := .agg #[.int .i64 r_11.Qubits, .slice B9 r_11.Gates.length c9]) (vs := [.int .i64 r_11.Qubits, .slice B9 r_11.Gates.length c9]) (k := 0) (cs' := [.int .i64 r_11.Qubits, .slice B9 r_11.Gates.length c9]) hS20 k_sz_104_2 rfl rfl rfl rfl rfl rfl rfl (Nat.le_of_ble_eq_true rfl) rfl rfl) ?_
                rintro _ w_15 ⟨rfl, hS21⟩
                have hS21 : ST w0 [] _ [⟨some ⟨b, 0, none⟩, 86, [.int .i64 aG.Nodes, .slice B aG.Edges.length c], 2⟩, ⟨some ⟨b1, 0, none⟩, 89, [.int .i64 aC.Qubits, .slice B1 aC.Gates.length c1], 2⟩, ⟨some ⟨b2, 0, none⟩, 92, [.slice B2 aR.Start.length c2, .slice B3 aR.Steps.length c3], 2⟩, ⟨B4, 277, (r_4.Edges.flatMap enc_Edge), c4 * 2⟩, ⟨B5, 213, (r_5.Gates.flatMap enc_Gate), c5 * 3⟩, ⟨B6, 3, (r_6.Start.flatMap encI), c6 * 1⟩, ⟨B7, 211, (r_6.Steps.flatMap enc_RouteStep), c7 * 3⟩, ⟨B8, 277, (r_10.Edges.flatMap enc_Edge), c8 * 2⟩, ⟨some ⟨b3, 0, none⟩, 100, [.int .i64 r_10.Nodes, .slice B8 r_10.Edges.length c8], 2⟩, ⟨B9, 213, (r_11.Gates.flatMap enc_Gate), c9 * 3⟩, ⟨some ⟨b4, 0, none⟩, 104, [.int .i64 r_11.Qubits, .slice B9 r_11.Gates.length c9], 2⟩] [⟨B, (aG.Edges.flatMap enc_Edge)⟩, ⟨B1, (aC.Gates.flatMap enc_Gate)⟩, ⟨B2, (aR.Start.flatMap encI)⟩, ⟨B3, (aR.Steps.flatMap enc_RouteStep)⟩] := hS21
                refine rw_nil ?_
                refine cw_seq ?_
                refine cw_region ?_
                refine sq 47 rfl rfl (Y_loadA (B := some ⟨b2, 0, none⟩) (i := 0) (cs := [.slice B2 aR.Start.length c2, .slice B3 aR.Steps.length c3]) (vs := [.slice B2 aR.Start.length c2, .slice B3 aR.Steps.length c3]) k_ag_92 k_sz_92_2 rfl rfl (hS21.cf (i := 2) rfl) rfl rfl) ?_
                obtain ⟨r_12, hc9, hF6⟩ := bind_inv hF6
                refine sc 48 rfl rfl (Yc_func (g := 57) (vs := [.agg #[.slice B2 aR.Start.length c2, .slice B3 aR.Steps.length c3]]) k_call_57 rfl (mc rfl mn) (c_laws_toRoute aR B2 c2 aR.Start.length B3 c3 aR.Steps.length _ rfl rfl (hS21.inn0 [(true, 2), (true, 3)] rfl) hc9)) ?_
                rintro _ w_16 ⟨B10, c10, B11, c11, rfl, hd9⟩
                have hS22 := hS21.out0 hd9
                have hS22 : ST w0 [] _ [⟨some ⟨b, 0, none⟩, 86, [.int .i64 aG.Nodes, .slice B aG.Edges.length c], 2⟩, ⟨some ⟨b1, 0, none⟩, 89, [.int .i64 aC.Qubits, .slice B1 aC.Gates.length c1], 2⟩, ⟨some ⟨b2, 0, none⟩, 92, [.slice B2 aR.Start.length c2, .slice B3 aR.Steps.length c3], 2⟩, ⟨B4, 277, (r_4.Edges.flatMap enc_Edge), c4 * 2⟩, ⟨B5, 213, (r_5.Gates.flatMap enc_Gate), c5 * 3⟩, ⟨B6, 3, (r_6.Start.flatMap encI), c6 * 1⟩, ⟨B7, 211, (r_6.Steps.flatMap enc_RouteStep), c7 * 3⟩, ⟨B8, 277, (r_10.Edges.flatMap enc_Edge), c8 * 2⟩, ⟨some ⟨b3, 0, none⟩, 100, [.int .i64 r_10.Nodes, .slice B8 r_10.Edges.length c8], 2⟩, ⟨B9, 213, (r_11.Gates.flatMap enc_Gate), c9 * 3⟩, ⟨some ⟨b4, 0, none⟩, 104, [.int .i64 r_11.Qubits, .slice B9 r_11.Gates.length c9], 2⟩, ⟨B10, 3, (r_12.Start.flatMap encI), c10 * 1⟩, ⟨B11, 211, (r_12.Steps.flatMap enc_RouteStep), c11 * 3⟩] [⟨B, (aG.Edges.flatMap enc_Edge)⟩, ⟨B1, (aC.Gates.flatMap enc_Gate)⟩, ⟨B2, (aR.Start.flatMap encI)⟩, ⟨B3, (aR.Steps.flatMap enc_RouteStep)⟩] := hS22
                refine ss 13 rfl rfl (Ys_alloc (T := 108) (cs := [.slice none 0 0, .slice none 0 0]) (m := 2) hS22 k_zero_108 rfl rfl rfl) ?_
                rintro _ w_17 ⟨b5, rfl, hS23⟩
                have hS23 : ST w0 [] _ [⟨some ⟨b, 0, none⟩, 86, [.int .i64 aG.Nodes, .slice B aG.Edges.length c], 2⟩, ⟨some ⟨b1, 0, none⟩, 89, [.int .i64 aC.Qubits, .slice B1 aC.Gates.length c1], 2⟩, ⟨some ⟨b2, 0, none⟩, 92, [.slice B2 aR.Start.length c2, .slice B3 aR.Steps.length c3], 2⟩, ⟨B4, 277, (r_4.Edges.flatMap enc_Edge), c4 * 2⟩, ⟨B5, 213, (r_5.Gates.flatMap enc_Gate), c5 * 3⟩, ⟨B6, 3, (r_6.Start.flatMap encI), c6 * 1⟩, ⟨B7, 211, (r_6.Steps.flatMap enc_RouteStep), c7 * 3⟩, ⟨B8, 277, (r_10.Edges.flatMap enc_Edge), c8 * 2⟩, ⟨some ⟨b3, 0, none⟩, 100, [.int .i64 r_10.Nodes, .slice B8 r_10.Edges.length c8], 2⟩, ⟨B9, 213, (r_11.Gates.flatMap enc_Gate), c9 * 3⟩, ⟨some ⟨b4, 0, none⟩, 104, [.int .i64 r_11.Qubits, .slice B9 r_11.Gates.length c9], 2⟩, ⟨B10, 3, (r_12.Start.flatMap encI), c10 * 1⟩, ⟨B11, 211, (r_12.Steps.flatMap enc_RouteStep), c11 * 3⟩, ⟨some ⟨b5, 0, none⟩, 108, [.slice none 0 0, .slice none 0 0], 2⟩] [⟨B, (aG.Edges.flatMap enc_Edge)⟩, ⟨B1, (aC.Gates.flatMap enc_Gate)⟩, ⟨B2, (aR.Start.flatMap encI)⟩, ⟨B3, (aR.Steps.flatMap enc_RouteStep)⟩] := hS23
                refine ss0 rfl rfl (Ys_store (i := 13) (s := 2) (B := some ⟨b5, 0, none⟩) (T' := 108) (v := .agg #[.slice B10 r_12.Start.length c10, .slice B11 r_12.Steps.length c11]) (vs := [.slice B10 r_12.Start.length c10, .slice B11 r_12.Steps.length c11]) (k := 0) (cs' := [.slice B10 r_12.Start.length c10, .slice B11 r_12.Steps.length c11]) hS23 k_sz_108_2 rfl rfl rfl rfl rfl rfl rfl (Nat.le_of_ble_eq_true rfl) rfl rfl) ?_
                rintro _ w_18 ⟨rfl, hS24⟩
                have hS24 : ST w0 [] _ [⟨some ⟨b, 0, none⟩, 86, [.int .i64 aG.Nodes, .slice B aG.Edges.length c], 2⟩, ⟨some ⟨b1, 0, none⟩, 89, [.int .i64 aC.Qubits, .slice B1 aC.Gates.length c1], 2⟩, ⟨some ⟨b2, 0, none⟩, 92, [.slice B2 aR.Start.length c2, .slice B3 aR.Steps.length c3], 2⟩, ⟨B4, 277, (r_4.Edges.flatMap enc_Edge), c4 * 2⟩, ⟨B5, 213, (r_5.Gates.flatMap enc_Gate), c5 * 3⟩, ⟨B6, 3, (r_6.Start.flatMap encI), c6 * 1⟩, ⟨B7, 211, (r_6.Steps.flatMap enc_RouteStep), c7 * 3⟩, ⟨B8, 277, (r_10.Edges.flatMap enc_Edge), c8 * 2⟩, ⟨some ⟨b3, 0, none⟩, 100, [.int .i64 r_10.Nodes, .slice B8 r_10.Edges.length c8], 2⟩, ⟨B9, 213, (r_11.Gates.flatMap enc_Gate), c9 * 3⟩, ⟨some ⟨b4, 0, none⟩, 104, [.int .i64 r_11.Qubits, .slice B9 r_11.Gates.length c9], 2⟩, ⟨B10, 3, (r_12.Start.flatMap encI), c10 * 1⟩, ⟨B11, 211, (r_12.Steps.flatMap enc_RouteStep), c11 * 3⟩, ⟨some ⟨b5, 0, none⟩, 108, [.slice B10 r_12.Start.length c10, .slice B11 r_12.Steps.length c11], 2⟩] [⟨B, (aG.Edges.flatMap enc_Edge)⟩, ⟨B1, (aC.Gates.flatMap enc_Gate)⟩, ⟨B2, (aR.Start.flatMap encI)⟩, ⟨B3, (aR.Steps.flatMap enc_RouteStep)⟩] := hS24
                refine rw_nil ?_
                refine cw_seq ?_
                refine cw_region ?_
                refine sq 50 rfl rfl (Y_loadA (B := some ⟨b3, 0, none⟩) (i := 0) (cs := [.int .i64 r_10.Nodes, .slice B8 r_10.Edges.length c8]) (vs := [.int .i64 r_10.Nodes, .slice B8 r_10.Edges.length c8]) k_ag_100 k_sz_100_2 rfl rfl (hS24.cf (i := 8) rfl) rfl rfl) ?_
                refine sq 51 rfl rfl (Y_loadA (B := some ⟨b4, 0, none⟩) (i := 0) (cs := [.int .i64 r_11.Qubits, .slice B9 r_11.Gates.length c9]) (vs := [.int .i64 r_11.Qubits, .slice B9 r_11.Gates.length c9]) k_ag_104 k_sz_104_2 rfl rfl (hS24.cf (i := 10) rfl) rfl rfl) ?_
                refine sq 52 rfl rfl (Y_loadA (B := some ⟨b5, 0, none⟩) (i := 0) (cs := [.slice B10 r_12.Start.length c10, .slice B11 r_12.Steps.length c11]) (vs := [.slice B10 r_12.Start.length c10, .slice B11 r_12.Steps.length c11]) k_ag_108 k_sz_108_2 rfl rfl (hS24.cf (i := 13) rfl) rfl rfl) ?_
                obtain ⟨⟨r_13, r_14, r_15⟩, hc10, hF6⟩ := bind_inv hF6
                refine sc 53 rfl rfl (Yc_func (g := 58) (vs := [.agg #[.int .i64 r_10.Nodes, .slice B8 r_10.Edges.length c8], .agg #[.int .i64 r_11.Qubits, .slice B9 r_11.Gates.length c9], .agg #[.slice B10 r_12.Start.length c10, .slice B11 r_12.Steps.length c11]]) k_call_58 rfl (mc rfl (mc rfl (mc rfl mn))) (c_impl_CheckRoute r_10 r_11 r_12 B8 c8 r_10.Edges.length B9 c9 r_11.Gates.length B10 c10 r_12.Start.length B11 c11 r_12.Steps.length _ rfl (hS24.lencap (i := 7) rfl (fm_lenn (l := r_10.Edges) enc_Edge_len rfl) rfl rfl) rfl (hS24.lencap (i := 9) rfl (fm_lenn (l := r_11.Gates) enc_Gate_len rfl) rfl rfl) rfl (hS24.lencap (i := 11) rfl (fm_lenn (l := r_12.Start) encI_len rfl) rfl rfl) rfl (hS24.inn0 [(false, 7), (false, 9), (false, 11), (false, 12)] rfl) hc10)) ?_
                rintro _ w_19 ⟨rfl, hd10⟩
                have hS25 := hS24.out00 hd10
                have hS25 : ST w0 [] _ [⟨some ⟨b, 0, none⟩, 86, [.int .i64 aG.Nodes, .slice B aG.Edges.length c], 2⟩, ⟨some ⟨b1, 0, none⟩, 89, [.int .i64 aC.Qubits, .slice B1 aC.Gates.length c1], 2⟩, ⟨some ⟨b2, 0, none⟩, 92, [.slice B2 aR.Start.length c2, .slice B3 aR.Steps.length c3], 2⟩, ⟨B4, 277, (r_4.Edges.flatMap enc_Edge), c4 * 2⟩, ⟨B5, 213, (r_5.Gates.flatMap enc_Gate), c5 * 3⟩, ⟨B6, 3, (r_6.Start.flatMap encI), c6 * 1⟩, ⟨B7, 211, (r_6.Steps.flatMap enc_RouteStep), c7 * 3⟩, ⟨B8, 277, (r_10.Edges.flatMap enc_Edge), c8 * 2⟩, ⟨some ⟨b3, 0, none⟩, 100, [.int .i64 r_10.Nodes, .slice B8 r_10.Edges.length c8], 2⟩, ⟨B9, 213, (r_11.Gates.flatMap enc_Gate), c9 * 3⟩, ⟨some ⟨b4, 0, none⟩, 104, [.int .i64 r_11.Qubits, .slice B9 r_11.Gates.length c9], 2⟩, ⟨B10, 3, (r_12.Start.flatMap encI), c10 * 1⟩, ⟨B11, 211, (r_12.Steps.flatMap enc_RouteStep), c11 * 3⟩, ⟨some ⟨b5, 0, none⟩, 108, [.slice B10 r_12.Start.length c10, .slice B11 r_12.Steps.length c11], 2⟩] [⟨B, (aG.Edges.flatMap enc_Edge)⟩, ⟨B1, (aC.Gates.flatMap enc_Gate)⟩, ⟨B2, (aR.Start.flatMap encI)⟩, ⟨B3, (aR.Steps.flatMap enc_RouteStep)⟩] := hS25
                refine sq 49 rfl rfl (Y_move (v := .tuple #[.int .i64 r_13, .int .i64 r_14, .bool r_15]) rfl rfl) ?_
                refine sq 54 rfl rfl (Y_extract (v := .int .i64 r_13) rfl rfl rfl) ?_
                refine sq 55 rfl rfl (Y_extract (v := .int .i64 r_14) rfl rfl rfl) ?_
                refine sq 56 rfl rfl (Y_extract (v := .bool r_15) rfl rfl rfl) ?_
                refine sq 14 rfl rfl (Y_assign (v := .int .i64 r_13) rfl rfl) ?_
                refine sq 15 rfl rfl (Y_assign (v := .int .i64 r_14) rfl rfl) ?_
                refine sq 16 rfl rfl (Y_assign (v := .bool r_15) rfl rfl) ?_
                refine rw_nil ?_
                refine cw_seq ?_
                refine cw_seq ?_
                refine cw_region ?_
                refine sq 57 rfl rfl (Y_move (v := .int .i64 r_13) rfl rfl) ?_
                refine sq 58 rfl rfl (Y_move (v := .int .i64 r_7) rfl rfl) ?_
                refine sq 59 rfl rfl (Y_ne (k := .i64) (a := r_13) (b := r_7) rfl rfl rfl) ?_
                refine sq 60 rfl rfl (Y_move (v := .bool (r_13 != r_7)) rfl rfl) ?_
                refine sgq 61 (B := (!(r_13 != r_7))) (v := .int .i64 r_14) rfl rfl (wt_f (gd_of (t := 60) (by kernel_rfl) rfl)) (fun hg => (Y_move (v := .int .i64 r_14) rfl rfl)) ?_
                refine sgq 62 (B := (!(r_13 != r_7))) (v := .int .i64 r_8) rfl rfl (wt_f (gd_of (t := 60) (by kernel_rfl) rfl)) (fun hg1 => (Y_move (v := .int .i64 r_8) rfl rfl)) ?_
                refine sgq 63 (B := (!(r_13 != r_7))) (v := .bool (r_14 != r_8)) rfl rfl (wt_f (gd_of (t := 60) (by kernel_rfl) rfl)) (fun hg2 => (Y_ne (k := .i64) (a := r_14) (b := r_8) rfl (gv_of (B := (!(r_13 != r_7))) (v := .int .i64 r_14) hg2) (gv_of (B := (!(r_13 != r_7))) (v := .int .i64 r_8) hg2))) ?_
                refine sq 64 rfl rfl (Y_or (b := (r_13 != r_7)) (z := (r_14 != r_8)) rfl rfl rfl rfl) ?_
                refine sq 65 rfl rfl (Y_move (v := .bool ((r_13 != r_7) || (r_14 != r_8))) rfl rfl) ?_
                refine sgq 66 (B := (!((r_13 != r_7) || (r_14 != r_8)))) (v := .bool r_15) rfl rfl (wt_f (gd_of (t := 65) (by kernel_rfl) rfl)) (fun hg3 => (Y_move (v := .bool r_15) rfl rfl)) ?_
                refine sgq 67 (B := (!((r_13 != r_7) || (r_14 != r_8)))) (v := .bool r_9) rfl rfl (wt_f (gd_of (t := 65) (by kernel_rfl) rfl)) (fun hg4 => (Y_move (v := .bool r_9) rfl rfl)) ?_
                refine sgq 68 (B := (!((r_13 != r_7) || (r_14 != r_8)))) (v := .bool (!(r_15 == r_9))) rfl rfl (wt_f (gd_of (t := 65) (by kernel_rfl) rfl)) (fun hg5 => (Y_bne (p := r_15) (q := r_9) k_und_4 rfl (gv_of (B := (!((r_13 != r_7) || (r_14 != r_8)))) (v := .bool r_15) hg5) (gv_of (B := (!((r_13 != r_7) || (r_14 != r_8)))) (v := .bool r_9) hg5))) ?_
                refine sq 69 rfl rfl (Y_or (b := ((r_13 != r_7) || (r_14 != r_8))) (z := (!(r_15 == r_9))) rfl rfl rfl rfl) ?_
                refine rw_nil ?_
                refine cw_cond (b := (((r_13 != r_7) || (r_14 != r_8)) || (!(r_15 == r_9)))) rfl (fun hb3 => ?_) (fun hb3 => ?_)
                · skip
                  have hF7 := ct hF6 hb3
                  refine cw_seq ?_
                  refine cw_region ?_
                  refine sq 6 rfl rfl (Y_assign (v := .bool false) rfl rfl) ?_
                  refine rw_nil ?_
                  refine cw_ret ?_
                  obtain rfl := some_inj hF7
                  exact ret1 Try.results8 (v1 := .bool false) (resAt_tmp rfl) ⟨rfl, (ST.subR (R' := []) (hS25.sel [] rfl rfl) (fun _ h => by cases h))⟩
                · skip
                  have hF8 := cf' hF6 hb3
                  refine cw_skip ?_
                  refine cw_seq ?_
                  refine cw_seq ?_
                  obtain ⟨r_16, hc11, hF8⟩ := bind_inv hF8
                  obtain ⟨r_17, hc12, hF8⟩ := bind_inv hF8
                  refine ra_start (ST.sel hS25 [0, 1, 2, 3, 4, 5, 6, 7, 8, 9, 10, 11, 12, 13] rfl rfl).fn (by kernel_rfl) ?_
                  have hS28 := hS25.drew
                  refine ra_q 0 70 (v := .agg #[.int .i64 r_10.Nodes, .slice B8 r_10.Edges.length c8]) rfl rfl rfl (by kernel_rfl) (by kernel_rfl) (by kernel_rfl) (ST.sel hS28 [0, 1, 2, 3, 4, 5, 6, 7, 8, 9, 10, 11, 12, 13] rfl rfl) (fun w' hw' => (Y_loadA (B := some ⟨b3, 0, none⟩) (i := 0) (cs := [.int .i64 r_10.Nodes, .slice B8 r_10.Edges.length c8]) (vs := [.int .i64 r_10.Nodes, .slice B8 r_10.Edges.length c8]) k_ag_100 k_sz_100_2 rfl rfl (ST.cf hw' (i := 8) rfl) rfl rfl)) ?_
                  refine ra_q 1 71 (v := .agg #[.int .i64 aG.Nodes, .slice B aG.Edges.length c]) rfl rfl rfl (by kernel_rfl) (by kernel_rfl) (by kernel_rfl) (ST.sel hS28 [0, 1, 2, 3, 4, 5, 6, 7, 8, 9, 10, 11, 12, 13] rfl rfl) (fun w' hw' => (Y_loadA (B := some ⟨b, 0, none⟩) (i := 0) (cs := [.int .i64 aG.Nodes, .slice B aG.Edges.length c]) (vs := [.int .i64 aG.Nodes, .slice B aG.Edges.length c]) k_ag_86 k_sz_86_2 rfl rfl (ST.cf hw' (i := 0) rfl) rfl rfl)) ?_
                  refine ra_all (rs := [2]) (by kernel_rfl) rfl ?_
                  refine ra_c 72 (i := 2) rfl rfl rfl (Yc_func (g := 55) (vs := [.agg #[.int .i64 aG.Nodes, .slice B aG.Edges.length c]]) k_call_55 rfl (mc rfl mn) (c_laws_toCouplingGraph aG B c aG.Edges.length _ rfl (hS28.inn0 [(true, 0)] rfl) hc11)) ?_ ?_
                  · rintro _ w_20 ⟨B12, c12, rfl, hd11⟩
                    have hS29 := hS28.out0 hd11
                    have hS29 : ST w0 [] _ [⟨some ⟨b, 0, none⟩, 86, [.int .i64 aG.Nodes, .slice B aG.Edges.length c], 2⟩, ⟨some ⟨b1, 0, none⟩, 89, [.int .i64 aC.Qubits, .slice B1 aC.Gates.length c1], 2⟩, ⟨some ⟨b2, 0, none⟩, 92, [.slice B2 aR.Start.length c2, .slice B3 aR.Steps.length c3], 2⟩, ⟨B4, 277, (r_4.Edges.flatMap enc_Edge), c4 * 2⟩, ⟨B5, 213, (r_5.Gates.flatMap enc_Gate), c5 * 3⟩, ⟨B6, 3, (r_6.Start.flatMap encI), c6 * 1⟩, ⟨B7, 211, (r_6.Steps.flatMap enc_RouteStep), c7 * 3⟩, ⟨B8, 277, (r_10.Edges.flatMap enc_Edge), c8 * 2⟩, ⟨some ⟨b3, 0, none⟩, 100, [.int .i64 r_10.Nodes, .slice B8 r_10.Edges.length c8], 2⟩, ⟨B9, 213, (r_11.Gates.flatMap enc_Gate), c9 * 3⟩, ⟨some ⟨b4, 0, none⟩, 104, [.int .i64 r_11.Qubits, .slice B9 r_11.Gates.length c9], 2⟩, ⟨B10, 3, (r_12.Start.flatMap encI), c10 * 1⟩, ⟨B11, 211, (r_12.Steps.flatMap enc_RouteStep), c11 * 3⟩, ⟨some ⟨b5, 0, none⟩, 108, [.slice B10 r_12.Start.length c10, .slice B11 r_12.Steps.length c11], 2⟩, ⟨B12, 277, (r_16.Edges.flatMap enc_Edge), c12 * 2⟩] [⟨B, (aG.Edges.flatMap enc_Edge)⟩, ⟨B1, (aC.Gates.flatMap enc_Gate)⟩, ⟨B2, (aR.Start.flatMap encI)⟩, ⟨B3, (aR.Steps.flatMap enc_RouteStep)⟩] := hS29
                    refine ⟨(ST.sel hS29 [0, 1, 2, 3, 4, 5, 6, 7, 8, 9, 10, 11, 12, 13] rfl rfl), ?_⟩
                    refine ra_all (rs := [3]) (by kernel_rfl) rfl ?_
                    refine ra_c 73 (i := 3) rfl rfl rfl (Yc_func (g := 59) (vs := [.agg #[.int .i64 r_10.Nodes, .slice B8 r_10.Edges.length c8], .agg #[.int .i64 r_16.Nodes, .slice B12 r_16.Edges.length c12]]) k_call_59 rfl (mc rfl (mc rfl mn)) (c_laws_eqCouplingGraph r_10 r_16 B8 c8 r_10.Edges.length B12 c12 r_16.Edges.length _ rfl rfl (hS29.inn0 [(false, 7), (false, 14)] rfl) hc12)) ?_ ?_
                    · rintro _ w_21 ⟨rfl, hd12⟩
                      have hS30 := hS29.out00 hd12
                      have hS30 : ST w0 [] _ [⟨some ⟨b, 0, none⟩, 86, [.int .i64 aG.Nodes, .slice B aG.Edges.length c], 2⟩, ⟨some ⟨b1, 0, none⟩, 89, [.int .i64 aC.Qubits, .slice B1 aC.Gates.length c1], 2⟩, ⟨some ⟨b2, 0, none⟩, 92, [.slice B2 aR.Start.length c2, .slice B3 aR.Steps.length c3], 2⟩, ⟨B4, 277, (r_4.Edges.flatMap enc_Edge), c4 * 2⟩, ⟨B5, 213, (r_5.Gates.flatMap enc_Gate), c5 * 3⟩, ⟨B6, 3, (r_6.Start.flatMap encI), c6 * 1⟩, ⟨B7, 211, (r_6.Steps.flatMap enc_RouteStep), c7 * 3⟩, ⟨B8, 277, (r_10.Edges.flatMap enc_Edge), c8 * 2⟩, ⟨some ⟨b3, 0, none⟩, 100, [.int .i64 r_10.Nodes, .slice B8 r_10.Edges.length c8], 2⟩, ⟨B9, 213, (r_11.Gates.flatMap enc_Gate), c9 * 3⟩, ⟨some ⟨b4, 0, none⟩, 104, [.int .i64 r_11.Qubits, .slice B9 r_11.Gates.length c9], 2⟩, ⟨B10, 3, (r_12.Start.flatMap encI), c10 * 1⟩, ⟨B11, 211, (r_12.Steps.flatMap enc_RouteStep), c11 * 3⟩, ⟨some ⟨b5, 0, none⟩, 108, [.slice B10 r_12.Start.length c10, .slice B11 r_12.Steps.length c11], 2⟩, ⟨B12, 277, (r_16.Edges.flatMap enc_Edge), c12 * 2⟩] [⟨B, (aG.Edges.flatMap enc_Edge)⟩, ⟨B1, (aC.Gates.flatMap enc_Gate)⟩, ⟨B2, (aR.Start.flatMap encI)⟩, ⟨B3, (aR.Steps.flatMap enc_RouteStep)⟩] := hS30
                      refine ⟨(ST.sel hS30 [0, 1, 2, 3, 4, 5, 6, 7, 8, 9, 10, 11, 12, 13] rfl rfl), ?_⟩
                      refine ra_q 4 74 (v := .bool (!r_17)) rfl rfl rfl (by kernel_rfl) (by kernel_rfl) (by kernel_rfl) (ST.sel hS30 [0, 1, 2, 3, 4, 5, 6, 7, 8, 9, 10, 11, 12, 13] rfl rfl) (fun w' hw' => (Y_not (p := r_17) rfl rfl)) ?_
                      refine ra_done (by kernel_rfl) ?_
                      refine cw_cond (b := (!r_17)) rfl (fun hb4 => ?_) (fun hb4 => ?_)
                      · skip
                        have hF9 := ct hF8 hb4
                        refine cw_seq ?_
                        refine cw_region ?_
                        refine sq 6 rfl rfl (Y_assign (v := .bool false) rfl rfl) ?_
                        refine rw_nil ?_
                        refine cw_ret ?_
                        obtain rfl := some_inj hF9
                        exact ret1 Try.results8 (v1 := .bool false) (resAt_tmp rfl) ⟨rfl, (ST.subR (R' := []) (hS30.sel [] rfl rfl) (fun _ h => by cases h))⟩
                      · skip
                        have hF10 := cf' hF8 hb4
                        refine cw_skip ?_
                        refine cw_seq ?_
                        refine cw_seq ?_
                        obtain ⟨r_18, hc13, hF10⟩ := bind_inv hF10
                        obtain ⟨r_19, hc14, hF10⟩ := bind_inv hF10
                        refine ra_start (ST.sel hS30 [0, 1, 2, 3, 4, 5, 6, 7, 8, 9, 10, 11, 12, 13, 14] rfl rfl).fn (by kernel_rfl) ?_
                        have hS33 := hS30.drew
                        refine ra_q 0 75 (v := .agg #[.int .i64 r_11.Qubits, .slice B9 r_11.Gates.length c9]) rfl rfl rfl (by kernel_rfl) (by kernel_rfl) (by kernel_rfl) (ST.sel hS33 [0, 1, 2, 3, 4, 5, 6, 7, 8, 9, 10, 11, 12, 13, 14] rfl rfl) (fun w' hw' => (Y_loadA (B := some ⟨b4, 0, none⟩) (i := 0) (cs := [.int .i64 r_11.Qubits, .slice B9 r_11.Gates.length c9]) (vs := [.int .i64 r_11.Qubits, .slice B9 r_11.Gates.length c9]) k_ag_104 k_sz_104_2 rfl rfl (ST.cf hw' (i := 10) rfl) rfl rfl)) ?_
                        refine ra_q 1 76 (v := .agg #[.int .i64 aC.Qubits, .slice B1 aC.Gates.length c1]) rfl rfl rfl (by kernel_rfl) (by kernel_rfl) (by kernel_rfl) (ST.sel hS33 [0, 1, 2, 3, 4, 5, 6, 7, 8, 9, 10, 11, 12, 13, 14] rfl rfl) (fun w' hw' => (Y_loadA (B := some ⟨b1, 0, none⟩) (i := 0) (cs := [.int .i64 aC.Qubits, .slice B1 aC.Gates.length c1]) (vs := [.int .i64 aC.Qubits, .slice B1 aC.Gates.length c1]) k_ag_89 k_sz_89_2 rfl rfl (ST.cf hw' (i := 1) rfl) rfl rfl)) ?_
                        refine ra_all (rs := [2]) (by kernel_rfl) rfl ?_
                        refine ra_c 77 (i := 2) rfl rfl rfl (Yc_func (g := 56) (vs := [.agg #[.int .i64 aC.Qubits, .slice B1 aC.Gates.length c1]]) k_call_56 rfl (mc rfl mn) (c_laws_toCircuit aC B1 c1 aC.Gates.length _ rfl (hS33.inn0 [(true, 1)] rfl) hc13)) ?_ ?_
                        · rintro _ w_22 ⟨B13, c13, rfl, hd13⟩
                          have hS34 := hS33.out0 hd13
                          have hS34 : ST w0 [] _ [⟨some ⟨b, 0, none⟩, 86, [.int .i64 aG.Nodes, .slice B aG.Edges.length c], 2⟩, ⟨some ⟨b1, 0, none⟩, 89, [.int .i64 aC.Qubits, .slice B1 aC.Gates.length c1], 2⟩, ⟨some ⟨b2, 0, none⟩, 92, [.slice B2 aR.Start.length c2, .slice B3 aR.Steps.length c3], 2⟩, ⟨B4, 277, (r_4.Edges.flatMap enc_Edge), c4 * 2⟩, ⟨B5, 213, (r_5.Gates.flatMap enc_Gate), c5 * 3⟩, ⟨B6, 3, (r_6.Start.flatMap encI), c6 * 1⟩, ⟨B7, 211, (r_6.Steps.flatMap enc_RouteStep), c7 * 3⟩, ⟨B8, 277, (r_10.Edges.flatMap enc_Edge), c8 * 2⟩, ⟨some ⟨b3, 0, none⟩, 100, [.int .i64 r_10.Nodes, .slice B8 r_10.Edges.length c8], 2⟩, ⟨B9, 213, (r_11.Gates.flatMap enc_Gate), c9 * 3⟩, ⟨some ⟨b4, 0, none⟩, 104, [.int .i64 r_11.Qubits, .slice B9 r_11.Gates.length c9], 2⟩, ⟨B10, 3, (r_12.Start.flatMap encI), c10 * 1⟩, ⟨B11, 211, (r_12.Steps.flatMap enc_RouteStep), c11 * 3⟩, ⟨some ⟨b5, 0, none⟩, 108, [.slice B10 r_12.Start.length c10, .slice B11 r_12.Steps.length c11], 2⟩, ⟨B12, 277, (r_16.Edges.flatMap enc_Edge), c12 * 2⟩, ⟨B13, 213, (r_18.Gates.flatMap enc_Gate), c13 * 3⟩] [⟨B, (aG.Edges.flatMap enc_Edge)⟩, ⟨B1, (aC.Gates.flatMap enc_Gate)⟩, ⟨B2, (aR.Start.flatMap encI)⟩, ⟨B3, (aR.Steps.flatMap enc_RouteStep)⟩] := hS34
                          refine ⟨(ST.sel hS34 [0, 1, 2, 3, 4, 5, 6, 7, 8, 9, 10, 11, 12, 13, 14] rfl rfl), ?_⟩
                          refine ra_all (rs := [3]) (by kernel_rfl) rfl ?_
                          refine ra_c 78 (i := 3) rfl rfl rfl (Yc_func (g := 60) (vs := [.agg #[.int .i64 r_11.Qubits, .slice B9 r_11.Gates.length c9], .agg #[.int .i64 r_18.Qubits, .slice B13 r_18.Gates.length c13]]) k_call_60 rfl (mc rfl (mc rfl mn)) (c_laws_eqCircuit r_11 r_18 B9 c9 r_11.Gates.length B13 c13 r_18.Gates.length _ rfl rfl (hS34.inn0 [(false, 9), (false, 15)] rfl) hc14)) ?_ ?_
                          · rintro _ w_23 ⟨rfl, hd14⟩
                            have hS35 := hS34.out00 hd14
                            have hS35 : ST w0 [] _ [⟨some ⟨b, 0, none⟩, 86, [.int .i64 aG.Nodes, .slice B aG.Edges.length c], 2⟩, ⟨some ⟨b1, 0, none⟩, 89, [.int .i64 aC.Qubits, .slice B1 aC.Gates.length c1], 2⟩, ⟨some ⟨b2, 0, none⟩, 92, [.slice B2 aR.Start.length c2, .slice B3 aR.Steps.length c3], 2⟩, ⟨B4, 277, (r_4.Edges.flatMap enc_Edge), c4 * 2⟩, ⟨B5, 213, (r_5.Gates.flatMap enc_Gate), c5 * 3⟩, ⟨B6, 3, (r_6.Start.flatMap encI), c6 * 1⟩, ⟨B7, 211, (r_6.Steps.flatMap enc_RouteStep), c7 * 3⟩, ⟨B8, 277, (r_10.Edges.flatMap enc_Edge), c8 * 2⟩, ⟨some ⟨b3, 0, none⟩, 100, [.int .i64 r_10.Nodes, .slice B8 r_10.Edges.length c8], 2⟩, ⟨B9, 213, (r_11.Gates.flatMap enc_Gate), c9 * 3⟩, ⟨some ⟨b4, 0, none⟩, 104, [.int .i64 r_11.Qubits, .slice B9 r_11.Gates.length c9], 2⟩, ⟨B10, 3, (r_12.Start.flatMap encI), c10 * 1⟩, ⟨B11, 211, (r_12.Steps.flatMap enc_RouteStep), c11 * 3⟩, ⟨some ⟨b5, 0, none⟩, 108, [.slice B10 r_12.Start.length c10, .slice B11 r_12.Steps.length c11], 2⟩, ⟨B12, 277, (r_16.Edges.flatMap enc_Edge), c12 * 2⟩, ⟨B13, 213, (r_18.Gates.flatMap enc_Gate), c13 * 3⟩] [⟨B, (aG.Edges.flatMap enc_Edge)⟩, ⟨B1, (aC.Gates.flatMap enc_Gate)⟩, ⟨B2, (aR.Start.flatMap encI)⟩, ⟨B3, (aR.Steps.flatMap enc_RouteStep)⟩] := hS35
                            refine ⟨(ST.sel hS35 [0, 1, 2, 3, 4, 5, 6, 7, 8, 9, 10, 11, 12, 13, 14] rfl rfl), ?_⟩
                            refine ra_q 4 79 (v := .bool (!r_19)) rfl rfl rfl (by kernel_rfl) (by kernel_rfl) (by kernel_rfl) (ST.sel hS35 [0, 1, 2, 3, 4, 5, 6, 7, 8, 9, 10, 11, 12, 13, 14] rfl rfl) (fun w' hw' => (Y_not (p := r_19) rfl rfl)) ?_
                            refine ra_done (by kernel_rfl) ?_
                            refine cw_cond (b := (!r_19)) rfl (fun hb5 => ?_) (fun hb5 => ?_)
                            · skip
                              have hF11 := ct hF10 hb5
                              refine cw_seq ?_
                              refine cw_region ?_
                              refine sq 6 rfl rfl (Y_assign (v := .bool false) rfl rfl) ?_
                              refine rw_nil ?_
                              refine cw_ret ?_
                              obtain rfl := some_inj hF11
                              exact ret1 Try.results8 (v1 := .bool false) (resAt_tmp rfl) ⟨rfl, (ST.subR (R' := []) (hS35.sel [] rfl rfl) (fun _ h => by cases h))⟩
                            · skip
                              have hF12 := cf' hF10 hb5
                              refine cw_skip ?_
                              refine cw_seq ?_
                              refine cw_seq ?_
                              obtain ⟨r_20, hc15, hF12⟩ := bind_inv hF12
                              obtain ⟨r_21, hc16, hF12⟩ := bind_inv hF12
                              refine ra_start (ST.sel hS35 [0, 1, 2, 3, 4, 5, 6, 7, 8, 9, 10, 11, 12, 13, 14, 15] rfl rfl).fn (by kernel_rfl) ?_
                              have hS38 := hS35.drew
                              refine ra_q 0 80 (v := .agg #[.slice B10 r_12.Start.length c10, .slice B11 r_12.Steps.length c11]) rfl rfl rfl (by kernel_rfl) (by kernel_rfl) (by kernel_rfl) (ST.sel hS38 [0, 1, 2, 3, 4, 5, 6, 7, 8, 9, 10, 11, 12, 13, 14, 15] rfl rfl) (fun w' hw' => (Y_loadA (B := some ⟨b5, 0, none⟩) (i := 0) (cs := [.slice B10 r_12.Start.length c10, .slice B11 r_12.Steps.length c11]) (vs := [.slice B10 r_12.Start.length c10, .slice B11 r_12.Steps.length c11]) k_ag_108 k_sz_108_2 rfl rfl (ST.cf hw' (i := 13) rfl) rfl rfl)) ?_
                              refine ra_q 1 81 (v := .agg #[.slice B2 aR.Start.length c2, .slice B3 aR.Steps.length c3]) rfl rfl rfl (by kernel_rfl) (by kernel_rfl) (by kernel_rfl) (ST.sel hS38 [0, 1, 2, 3, 4, 5, 6, 7, 8, 9, 10, 11, 12, 13, 14, 15] rfl rfl) (fun w' hw' => (Y_loadA (B := some ⟨b2, 0, none⟩) (i := 0) (cs := [.slice B2 aR.Start.length c2, .slice B3 aR.Steps.length c3]) (vs := [.slice B2 aR.Start.length c2, .slice B3 aR.Steps.length c3]) k_ag_92 k_sz_92_2 rfl rfl (ST.cf hw' (i := 2) rfl) rfl rfl)) ?_
                              refine ra_all (rs := [2]) (by kernel_rfl) rfl ?_
                              refine ra_c 82 (i := 2) rfl rfl rfl (Yc_func (g := 57) (vs := [.agg #[.slice B2 aR.Start.length c2, .slice B3 aR.Steps.length c3]]) k_call_57 rfl (mc rfl mn) (c_laws_toRoute aR B2 c2 aR.Start.length B3 c3 aR.Steps.length _ rfl rfl (hS38.inn0 [(true, 2), (true, 3)] rfl) hc15)) ?_ ?_
                              · rintro _ w_24 ⟨B14, c14, B15, c15, rfl, hd15⟩
                                have hS39 := hS38.out0 hd15
                                have hS39 : ST w0 [] _ [⟨some ⟨b, 0, none⟩, 86, [.int .i64 aG.Nodes, .slice B aG.Edges.length c], 2⟩, ⟨some ⟨b1, 0, none⟩, 89, [.int .i64 aC.Qubits, .slice B1 aC.Gates.length c1], 2⟩, ⟨some ⟨b2, 0, none⟩, 92, [.slice B2 aR.Start.length c2, .slice B3 aR.Steps.length c3], 2⟩, ⟨B4, 277, (r_4.Edges.flatMap enc_Edge), c4 * 2⟩, ⟨B5, 213, (r_5.Gates.flatMap enc_Gate), c5 * 3⟩, ⟨B6, 3, (r_6.Start.flatMap encI), c6 * 1⟩, ⟨B7, 211, (r_6.Steps.flatMap enc_RouteStep), c7 * 3⟩, ⟨B8, 277, (r_10.Edges.flatMap enc_Edge), c8 * 2⟩, ⟨some ⟨b3, 0, none⟩, 100, [.int .i64 r_10.Nodes, .slice B8 r_10.Edges.length c8], 2⟩, ⟨B9, 213, (r_11.Gates.flatMap enc_Gate), c9 * 3⟩, ⟨some ⟨b4, 0, none⟩, 104, [.int .i64 r_11.Qubits, .slice B9 r_11.Gates.length c9], 2⟩, ⟨B10, 3, (r_12.Start.flatMap encI), c10 * 1⟩, ⟨B11, 211, (r_12.Steps.flatMap enc_RouteStep), c11 * 3⟩, ⟨some ⟨b5, 0, none⟩, 108, [.slice B10 r_12.Start.length c10, .slice B11 r_12.Steps.length c11], 2⟩, ⟨B12, 277, (r_16.Edges.flatMap enc_Edge), c12 * 2⟩, ⟨B13, 213, (r_18.Gates.flatMap enc_Gate), c13 * 3⟩, ⟨B14, 3, (r_20.Start.flatMap encI), c14 * 1⟩, ⟨B15, 211, (r_20.Steps.flatMap enc_RouteStep), c15 * 3⟩] [⟨B, (aG.Edges.flatMap enc_Edge)⟩, ⟨B1, (aC.Gates.flatMap enc_Gate)⟩, ⟨B2, (aR.Start.flatMap encI)⟩, ⟨B3, (aR.Steps.flatMap enc_RouteStep)⟩] := hS39
                                refine ⟨(ST.sel hS39 [0, 1, 2, 3, 4, 5, 6, 7, 8, 9, 10, 11, 12, 13, 14, 15] rfl rfl), ?_⟩
                                refine ra_all (rs := [3]) (by kernel_rfl) rfl ?_
                                refine ra_c 83 (i := 3) rfl rfl rfl (Yc_func (g := 61) (vs := [.agg #[.slice B10 r_12.Start.length c10, .slice B11 r_12.Steps.length c11], .agg #[.slice B14 r_20.Start.length c14, .slice B15 r_20.Steps.length c15]]) k_call_61 rfl (mc rfl (mc rfl mn)) (c_laws_eqRoute r_12 r_20 B10 c10 r_12.Start.length B11 c11 r_12.Steps.length B14 c14 r_20.Start.length B15 c15 r_20.Steps.length _ rfl rfl rfl rfl (hS39.inn0 [(false, 11), (false, 12), (false, 16), (false, 17)] rfl) hc16)) ?_ ?_
                                · rintro _ w_25 ⟨rfl, hd16⟩
                                  have hS40 := hS39.out00 hd16
                                  have hS40 : ST w0 [] _ [⟨some ⟨b, 0, none⟩, 86, [.int .i64 aG.Nodes, .slice B aG.Edges.length c], 2⟩, ⟨some ⟨b1, 0, none⟩, 89, [.int .i64 aC.Qubits, .slice B1 aC.Gates.length c1], 2⟩, ⟨some ⟨b2, 0, none⟩, 92, [.slice B2 aR.Start.length c2, .slice B3 aR.Steps.length c3], 2⟩, ⟨B4, 277, (r_4.Edges.flatMap enc_Edge), c4 * 2⟩, ⟨B5, 213, (r_5.Gates.flatMap enc_Gate), c5 * 3⟩, ⟨B6, 3, (r_6.Start.flatMap encI), c6 * 1⟩, ⟨B7, 211, (r_6.Steps.flatMap enc_RouteStep), c7 * 3⟩, ⟨B8, 277, (r_10.Edges.flatMap enc_Edge), c8 * 2⟩, ⟨some ⟨b3, 0, none⟩, 100, [.int .i64 r_10.Nodes, .slice B8 r_10.Edges.length c8], 2⟩, ⟨B9, 213, (r_11.Gates.flatMap enc_Gate), c9 * 3⟩, ⟨some ⟨b4, 0, none⟩, 104, [.int .i64 r_11.Qubits, .slice B9 r_11.Gates.length c9], 2⟩, ⟨B10, 3, (r_12.Start.flatMap encI), c10 * 1⟩, ⟨B11, 211, (r_12.Steps.flatMap enc_RouteStep), c11 * 3⟩, ⟨some ⟨b5, 0, none⟩, 108, [.slice B10 r_12.Start.length c10, .slice B11 r_12.Steps.length c11], 2⟩, ⟨B12, 277, (r_16.Edges.flatMap enc_Edge), c12 * 2⟩, ⟨B13, 213, (r_18.Gates.flatMap enc_Gate), c13 * 3⟩, ⟨B14, 3, (r_20.Start.flatMap encI), c14 * 1⟩, ⟨B15, 211, (r_20.Steps.flatMap enc_RouteStep), c15 * 3⟩] [⟨B, (aG.Edges.flatMap enc_Edge)⟩, ⟨B1, (aC.Gates.flatMap enc_Gate)⟩, ⟨B2, (aR.Start.flatMap encI)⟩, ⟨B3, (aR.Steps.flatMap enc_RouteStep)⟩] := hS40
                                  refine ⟨(ST.sel hS40 [0, 1, 2, 3, 4, 5, 6, 7, 8, 9, 10, 11, 12, 13, 14, 15] rfl rfl), ?_⟩
                                  refine ra_q 4 84 (v := .bool (!r_21)) rfl rfl rfl (by kernel_rfl) (by kernel_rfl) (by kernel_rfl) (ST.sel hS40 [0, 1, 2, 3, 4, 5, 6, 7, 8, 9, 10, 11, 12, 13, 14, 15] rfl rfl) (fun w' hw' => (Y_not (p := r_21) rfl rfl)) ?_
                                  refine ra_done (by kernel_rfl) ?_
                                  refine cw_cond (b := (!r_21)) rfl (fun hb6 => ?_) (fun hb6 => ?_)
                                  · skip
                                    have hF13 := ct hF12 hb6
                                    refine cw_seq ?_
                                    refine cw_region ?_
                                    refine sq 6 rfl rfl (Y_assign (v := .bool false) rfl rfl) ?_
                                    refine rw_nil ?_
                                    refine cw_ret ?_
                                    obtain rfl := some_inj hF13
                                    exact ret1 Try.results8 (v1 := .bool false) (resAt_tmp rfl) ⟨rfl, (ST.subR (R' := []) (hS40.sel [] rfl rfl) (fun _ h => by cases h))⟩
                                  · skip
                                    have hF14 := cf' hF12 hb6
                                    refine cw_skip ?_
                                    refine cw_seq ?_
                                    refine cw_region ?_
                                    refine sq 6 rfl rfl (Y_assign (v := .bool true) rfl rfl) ?_
                                    refine rw_nil ?_
                                    refine cw_ret ?_
                                    obtain rfl := some_inj hF14
                                    exact ret1 Try.results8 (v1 := .bool true) (resAt_tmp rfl) ⟨rfl, (ST.subR (R' := []) (hS40.sel [] rfl rfl) (fun _ h => by cases h))⟩
                                exact allR_nil
                              exact allR_nil
                          exact allR_nil
                        exact allR_nil
                    exact allR_nil
                  exact allR_nil
              exact allR_nil
            exact allR_nil
          exact allR_nil
        exact allR_nil
end Go.VK
