/- Walks: each Go function returns what its Lean function says. By program. -/
import Derived.Test.YtoladcammhboiaaRouteCircuitFa
set_option linter.unusedVariables false
set_option maxRecDepth 100000
set_option maxHeartbeats 1000000
namespace Go.VK
open Go.RowKit
open Go.Proofs
attribute [local irreducible] CW RW RA CV Y Yw Yc Ys RetOf
attribute [local irreducible] F_laws_szEdgeS F_laws_szCouplingGraph F_laws_szGateS F_laws_szCircuit F_laws_szIntS F_laws_szRouteStepS F_laws_szRoute F_laws_toEdge F_laws_toEdgeS F_laws_toCouplingGraph F_laws_toGate F_laws_toGateS F_laws_toCircuit F_laws_toIntS F_laws_toRouteStep F_laws_toRouteStepS F_laws_toRoute F_laws_eqEdge F_laws_eqEdgeS F_laws_eqCouplingGraph F_laws_eqGate F_laws_eqGateS F_laws_eqCircuit F_laws_eqIntS F_laws_eqRouteStep F_laws_eqRouteStepS F_laws_eqRoute F_laws_markEdgeS F_laws_markCouplingGraph F_laws_markGateS F_laws_markCircuit F_laws_markIntS F_laws_markRouteStepS F_laws_markRoute F_spec_l1In F_spec_l22Valid F_spec_l4Gate F_spec_l4Good F_spec_l23Fits F_spec_l1Own F_spec_l23Swap F_spec_l1Has F_spec_l23Placement F_spec_l22Edge F_spec_l22Two F_spec_l23Qubits F_spec_l23Ready F_spec_l23Near F_spec_l23Play F_spec_RouteCircuit F_impl_within F_impl_areEdges F_impl_IsValidCouplingGraph F_slices_IndexFunc_impl_Gate_impl_Gate F_slices_ContainsFunc_impl_Gate_impl_Gate F_impl_isTwo F_impl_IsValidGate F_impl_IsValidCircuit_1 F_impl_IsValidCircuit F_impl_canRoute F_slices_Clone_int_int F_impl_newRouting F_slices_Index_impl_Edge_impl_Edge F_slices_Contains_impl_Edge_impl_Edge F_impl_CouplingGraph_joins F_impl_routing_swap F_slices_IndexFunc_int_int F_slices_ContainsFunc_int_int F_impl_qubitsOf F_slices_Index_int_int F_slices_Contains_int_int F_impl_meet_1 F_impl_meet F_impl_routing_isReady F_impl_routing_fits F_impl_routing_step F_impl_CouplingGraph_isPlacement F_slices_Index_bool_bool F_slices_Contains_bool_bool F_impl_check F_impl_CheckRoute F_impl_mapped F_impl_circuitIf F_impl_RouteCircuit F_laws_heldGateS F_laws_heldCircuit F_laws_FnExactRouteCircuit
theorem c_laws_szEdgeS (a : List TEdge) (left : Int) (B : Option Addr) (c n : Nat) (w0 : World) (hn : a.length = n) (hS : ST w0 [] w0 [] [⟨B, (a.flatMap enc_Edge)⟩]) {r_ : Int} (hF : F_laws_szEdgeS a left = some r_) :
    CV Try.prog 144 #[.slice B n c, .int .i64 left] w0 (fun v w' => v = .int .i64 r_ ∧ ST w0 [] w' [] []) := by
  subst hn
  unfold F_laws_szEdgeS at hF
  refine cv_of_cw 12 Try.func144 rfl Try.ntmps144 rfl ?_
  refine cw_seq ?_
  refine cw_region ?_
  refine sq 4 rfl rfl (Y_assign (v := .int .i64 0) rfl rfl) ?_
  refine rw_nil ?_
  refine cw_seq ?_
  refine cw_region ?_
  refine sq 5 rfl rfl (Y_move (v := .int .i64 left) rfl rfl) ?_
  refine sq 6 rfl rfl (Y_move (v := .slice B a.length c) rfl rfl) ?_
  refine sq 7 rfl rfl (Y_len (B := B) (m := a.length) (c := c) k_sl_84_279 rfl rfl) ?_
  refine sq 8 rfl rfl (Y_sub (k := .i64) (a := left) (b := (a.length : Int)) rfl rfl rfl) ?_
  refine sq 1 rfl rfl (Y_assign (v := .int .i64 (IntKind.i64.wrap (left - (a.length : Int)))) rfl rfl) ?_
  refine rw_nil ?_
  refine cw_seq ?_
  refine cw_seq ?_
  refine cw_region ?_
  refine sq 9 rfl rfl (Y_move (v := .int .i64 (IntKind.i64.wrap (left - (a.length : Int)))) rfl rfl) ?_
  refine sq 10 rfl rfl (Y_lt (k := .i64) (a := (IntKind.i64.wrap (left - (a.length : Int)))) (b := 0) rfl rfl rfl) ?_
  refine rw_nil ?_
  refine cw_cond (b := (decide ((IntKind.i64.wrap (left - (a.length : Int))) < 0))) rfl (fun hb => ?_) (fun hb => ?_)
  · skip
    have hF1 := ct hF hb
    refine cw_seq ?_
    refine cw_region ?_
    refine sq 4 rfl rfl (Y_assign (v := .int .i64 (-1)) rfl rfl) ?_
    refine rw_nil ?_
    refine cw_ret ?_
    obtain rfl := some_inj hF1
    exact ret1 Try.results144 (v1 := .int .i64 (-1)) (resAt_tmp rfl) ⟨rfl, (ST.subR (R' := []) (hS.sel [] rfl rfl) (fun _ h => by cases h))⟩
  · skip
    have hF2 := cf' hF hb
    refine cw_skip ?_
    refine cw_seq ?_
    refine cw_region ?_
    refine sq 11 rfl rfl (Y_move (v := .int .i64 (IntKind.i64.wrap (left - (a.length : Int)))) rfl rfl) ?_
    refine sq 4 rfl rfl (Y_assign (v := .int .i64 (IntKind.i64.wrap (left - (a.length : Int)))) rfl rfl) ?_
    refine rw_nil ?_
    refine cw_ret ?_
    obtain rfl := some_inj hF2
    exact ret1 Try.results144 (v1 := .int .i64 (IntKind.i64.wrap (left - (a.length : Int)))) (resAt_tmp rfl) ⟨rfl, (ST.subR (R' := []) (hS.sel [] rfl rfl) (fun _ h => by cases h))⟩

theorem c_laws_szCouplingGraph (a : TCouplingGraph) (left : Int) (B : Option Addr) (c n : Nat) (w0 : World) (hn : a.Edges.length = n) (hS : ST w0 [] w0 [] [⟨B, (a.Edges.flatMap enc_Edge)⟩]) {r_ : Int} (hF : F_laws_szCouplingGraph a left = some r_) :
    CV Try.prog 51 #[.agg #[.int .i64 a.Nodes, .slice B n c], .int .i64 left] w0 (fun v w' => v = .int .i64 r_ ∧ ST w0 [] w' [] []) := by
  subst hn
  unfold F_laws_szCouplingGraph at hF
  refine cv_of_cw 12 Try.func51 rfl Try.ntmps51 rfl ?_
  refine cw_seq ?_
  refine cw_region ?_
  refine ss 2 rfl rfl (Ys_box (T := 86) (v := .agg #[.int .i64 a.Nodes, .slice B a.Edges.length c]) (cs := [.int .i64 a.Nodes, .slice B a.Edges.length c]) (m := 2) hS rfl rfl rfl rfl) ?_
  rintro _ w_ ⟨b, rfl, hS1⟩
  refine sq 4 rfl rfl (Y_assign (v := .int .i64 0) rfl rfl) ?_
  refine rw_nil ?_
  refine cw_seq ?_
  refine cw_region ?_
  refine sq 5 rfl rfl (Y_fieldAddr (B := some ⟨b, 0, none⟩) (i := 0) (s := 0) k_fd_86_1_1_84 k_sz_84_1 rfl rfl) ?_
  refine sq 6 rfl rfl (Y_load1 (B := some ⟨b, 0, none⟩) (i := 1) (cs := [.int .i64 a.Nodes, .slice B a.Edges.length c]) (v := .slice B a.Edges.length c) k_sc_84 rfl rfl (hS1.cf (i := 0) rfl) rfl) ?_
  refine sq 7 rfl rfl (Y_move (v := .int .i64 left) rfl rfl) ?_
  obtain ⟨r_1, hc, hF⟩ := bind_inv hF
  refine sc 8 rfl rfl (Yc_func (g := 144) (vs := [.slice B a.Edges.length c, .int .i64 left]) k_call_144 rfl (mc rfl (mc rfl mn)) (c_laws_szEdgeS a.Edges left B c a.Edges.length _ rfl (hS1.inn0 [(true, 0)] rfl) hc)) ?_
  rintro _ w_1 ⟨rfl, hd⟩
  have hS2 := hS1.out00 hd
  refine sq 1 rfl rfl (Y_assign (v := .int .i64 r_1) rfl rfl) ?_
  refine rw_nil ?_
  refine cw_seq ?_
  refine cw_seq ?_
  refine cw_region ?_
  refine sq 9 rfl rfl (Y_move (v := .int .i64 r_1) rfl rfl) ?_
  refine sq 10 rfl rfl (Y_lt (k := .i64) (a := r_1) (b := 0) rfl rfl rfl) ?_
  refine rw_nil ?_
  refine cw_cond (b := (decide (r_1 < 0))) rfl (fun hb => ?_) (fun hb => ?_)
  · skip
    have hF1 := ct hF hb
    refine cw_seq ?_
    refine cw_region ?_
    refine sq 4 rfl rfl (Y_assign (v := .int .i64 (-1)) rfl rfl) ?_
    refine rw_nil ?_
    refine cw_ret ?_
    obtain rfl := some_inj hF1
    exact ret1 Try.results51 (v1 := .int .i64 (-1)) (resAt_tmp rfl) ⟨rfl, (ST.subR (R' := []) (hS2.sel [] rfl rfl) (fun _ h => by cases h))⟩
  · skip
    have hF2 := cf' hF hb
    refine cw_skip ?_
    refine cw_seq ?_
    refine cw_region ?_
    refine sq 11 rfl rfl (Y_move (v := .int .i64 r_1) rfl rfl) ?_
    refine sq 4 rfl rfl (Y_assign (v := .int .i64 r_1) rfl rfl) ?_
    refine rw_nil ?_
    refine cw_ret ?_
    obtain rfl := some_inj hF2
    exact ret1 Try.results51 (v1 := .int .i64 r_1) (resAt_tmp rfl) ⟨rfl, (ST.subR (R' := []) (hS2.sel [] rfl rfl) (fun _ h => by cases h))⟩

theorem c_laws_szGateS (a : List TGate) (left : Int) (B : Option Addr) (c n : Nat) (w0 : World) (hn : a.length = n) (hS : ST w0 [] w0 [] [⟨B, (a.flatMap enc_Gate)⟩]) {r_ : Int} (hF : F_laws_szGateS a left = some r_) :
    CV Try.prog 145 #[.slice B n c, .int .i64 left] w0 (fun v w' => v = .int .i64 r_ ∧ ST w0 [] w' [] []) := by
  subst hn
  unfold F_laws_szGateS at hF
  refine cv_of_cw 12 Try.func145 rfl Try.ntmps145 rfl ?_
  refine cw_seq ?_
  refine cw_region ?_
  refine sq 4 rfl rfl (Y_assign (v := .int .i64 0) rfl rfl) ?_
  refine rw_nil ?_
  refine cw_seq ?_
  refine cw_region ?_
  refine sq 5 rfl rfl (Y_move (v := .int .i64 left) rfl rfl) ?_
  refine sq 6 rfl rfl (Y_move (v := .slice B a.length c) rfl rfl) ?_
  refine sq 7 rfl rfl (Y_len (B := B) (m := a.length) (c := c) k_sl_87_281 rfl rfl) ?_
  refine sq 8 rfl rfl (Y_sub (k := .i64) (a := left) (b := (a.length : Int)) rfl rfl rfl) ?_
  refine sq 1 rfl rfl (Y_assign (v := .int .i64 (IntKind.i64.wrap (left - (a.length : Int)))) rfl rfl) ?_
  refine rw_nil ?_
  refine cw_seq ?_
  refine cw_seq ?_
  refine cw_region ?_
  refine sq 9 rfl rfl (Y_move (v := .int .i64 (IntKind.i64.wrap (left - (a.length : Int)))) rfl rfl) ?_
  refine sq 10 rfl rfl (Y_lt (k := .i64) (a := (IntKind.i64.wrap (left - (a.length : Int)))) (b := 0) rfl rfl rfl) ?_
  refine rw_nil ?_
  refine cw_cond (b := (decide ((IntKind.i64.wrap (left - (a.length : Int))) < 0))) rfl (fun hb => ?_) (fun hb => ?_)
  · skip
    have hF1 := ct hF hb
    refine cw_seq ?_
    refine cw_region ?_
    refine sq 4 rfl rfl (Y_assign (v := .int .i64 (-1)) rfl rfl) ?_
    refine rw_nil ?_
    refine cw_ret ?_
    obtain rfl := some_inj hF1
    exact ret1 Try.results145 (v1 := .int .i64 (-1)) (resAt_tmp rfl) ⟨rfl, (ST.subR (R' := []) (hS.sel [] rfl rfl) (fun _ h => by cases h))⟩
  · skip
    have hF2 := cf' hF hb
    refine cw_skip ?_
    refine cw_seq ?_
    refine cw_region ?_
    refine sq 11 rfl rfl (Y_move (v := .int .i64 (IntKind.i64.wrap (left - (a.length : Int)))) rfl rfl) ?_
    refine sq 4 rfl rfl (Y_assign (v := .int .i64 (IntKind.i64.wrap (left - (a.length : Int)))) rfl rfl) ?_
    refine rw_nil ?_
    refine cw_ret ?_
    obtain rfl := some_inj hF2
    exact ret1 Try.results145 (v1 := .int .i64 (IntKind.i64.wrap (left - (a.length : Int)))) (resAt_tmp rfl) ⟨rfl, (ST.subR (R' := []) (hS.sel [] rfl rfl) (fun _ h => by cases h))⟩

theorem c_laws_szCircuit (a : TCircuit) (left : Int) (B : Option Addr) (c n : Nat) (w0 : World) (hn : a.Gates.length = n) (hS : ST w0 [] w0 [] [⟨B, (a.Gates.flatMap enc_Gate)⟩]) {r_ : Int} (hF : F_laws_szCircuit a left = some r_) :
    CV Try.prog 52 #[.agg #[.int .i64 a.Qubits, .slice B n c], .int .i64 left] w0 (fun v w' => v = .int .i64 r_ ∧ ST w0 [] w' [] []) := by
  subst hn
  unfold F_laws_szCircuit at hF
  refine cv_of_cw 12 Try.func52 rfl Try.ntmps52 rfl ?_
  refine cw_seq ?_
  refine cw_region ?_
  refine ss 2 rfl rfl (Ys_box (T := 89) (v := .agg #[.int .i64 a.Qubits, .slice B a.Gates.length c]) (cs := [.int .i64 a.Qubits, .slice B a.Gates.length c]) (m := 2) hS rfl rfl rfl rfl) ?_
  rintro _ w_ ⟨b, rfl, hS1⟩
  refine sq 4 rfl rfl (Y_assign (v := .int .i64 0) rfl rfl) ?_
  refine rw_nil ?_
  refine cw_seq ?_
  refine cw_region ?_
  refine sq 5 rfl rfl (Y_fieldAddr (B := some ⟨b, 0, none⟩) (i := 0) (s := 0) k_fd_89_1_1_87 k_sz_87_1 rfl rfl) ?_
  refine sq 6 rfl rfl (Y_load1 (B := some ⟨b, 0, none⟩) (i := 1) (cs := [.int .i64 a.Qubits, .slice B a.Gates.length c]) (v := .slice B a.Gates.length c) k_sc_87 rfl rfl (hS1.cf (i := 0) rfl) rfl) ?_
  refine sq 7 rfl rfl (Y_move (v := .int .i64 left) rfl rfl) ?_
  obtain ⟨r_1, hc, hF⟩ := bind_inv hF
  refine sc 8 rfl rfl (Yc_func (g := 145) (vs := [.slice B a.Gates.length c, .int .i64 left]) k_call_145 rfl (mc rfl (mc rfl mn)) (c_laws_szGateS a.Gates left B c a.Gates.length _ rfl (hS1.inn0 [(true, 0)] rfl) hc)) ?_
  rintro _ w_1 ⟨rfl, hd⟩
  have hS2 := hS1.out00 hd
  refine sq 1 rfl rfl (Y_assign (v := .int .i64 r_1) rfl rfl) ?_
  refine rw_nil ?_
  refine cw_seq ?_
  refine cw_seq ?_
  refine cw_region ?_
  refine sq 9 rfl rfl (Y_move (v := .int .i64 r_1) rfl rfl) ?_
  refine sq 10 rfl rfl (Y_lt (k := .i64) (a := r_1) (b := 0) rfl rfl rfl) ?_
  refine rw_nil ?_
  refine cw_cond (b := (decide (r_1 < 0))) rfl (fun hb => ?_) (fun hb => ?_)
  · skip
    have hF1 := ct hF hb
    refine cw_seq ?_
    refine cw_region ?_
    refine sq 4 rfl rfl (Y_assign (v := .int .i64 (-1)) rfl rfl) ?_
    refine rw_nil ?_
    refine cw_ret ?_
    obtain rfl := some_inj hF1
    exact ret1 Try.results52 (v1 := .int .i64 (-1)) (resAt_tmp rfl) ⟨rfl, (ST.subR (R' := []) (hS2.sel [] rfl rfl) (fun _ h => by cases h))⟩
  · skip
    have hF2 := cf' hF hb
    refine cw_skip ?_
    refine cw_seq ?_
    refine cw_region ?_
    refine sq 11 rfl rfl (Y_move (v := .int .i64 r_1) rfl rfl) ?_
    refine sq 4 rfl rfl (Y_assign (v := .int .i64 r_1) rfl rfl) ?_
    refine rw_nil ?_
    refine cw_ret ?_
    obtain rfl := some_inj hF2
    exact ret1 Try.results52 (v1 := .int .i64 r_1) (resAt_tmp rfl) ⟨rfl, (ST.subR (R' := []) (hS2.sel [] rfl rfl) (fun _ h => by cases h))⟩

theorem c_laws_szIntS (a : List Int) (left : Int) (B : Option Addr) (c n : Nat) (w0 : World) (hn : a.length = n) (hS : ST w0 [] w0 [] [⟨B, (a.flatMap encI)⟩]) {r_ : Int} (hF : F_laws_szIntS a left = some r_) :
    CV Try.prog 146 #[.slice B n c, .int .i64 left] w0 (fun v w' => v = .int .i64 r_ ∧ ST w0 [] w' [] []) := by
  subst hn
  unfold F_laws_szIntS at hF
  refine cv_of_cw 12 Try.func146 rfl Try.ntmps146 rfl ?_
  refine cw_seq ?_
  refine cw_region ?_
  refine sq 4 rfl rfl (Y_assign (v := .int .i64 0) rfl rfl) ?_
  refine rw_nil ?_
  refine cw_seq ?_
  refine cw_region ?_
  refine sq 5 rfl rfl (Y_move (v := .int .i64 left) rfl rfl) ?_
  refine sq 6 rfl rfl (Y_move (v := .slice B a.length c) rfl rfl) ?_
  refine sq 7 rfl rfl (Y_len (B := B) (m := a.length) (c := c) k_sl_59_3 rfl rfl) ?_
  refine sq 8 rfl rfl (Y_sub (k := .i64) (a := left) (b := (a.length : Int)) rfl rfl rfl) ?_
  refine sq 1 rfl rfl (Y_assign (v := .int .i64 (IntKind.i64.wrap (left - (a.length : Int)))) rfl rfl) ?_
  refine rw_nil ?_
  refine cw_seq ?_
  refine cw_seq ?_
  refine cw_region ?_
  refine sq 9 rfl rfl (Y_move (v := .int .i64 (IntKind.i64.wrap (left - (a.length : Int)))) rfl rfl) ?_
  refine sq 10 rfl rfl (Y_lt (k := .i64) (a := (IntKind.i64.wrap (left - (a.length : Int)))) (b := 0) rfl rfl rfl) ?_
  refine rw_nil ?_
  refine cw_cond (b := (decide ((IntKind.i64.wrap (left - (a.length : Int))) < 0))) rfl (fun hb => ?_) (fun hb => ?_)
  · skip
    have hF1 := ct hF hb
    refine cw_seq ?_
    refine cw_region ?_
    refine sq 4 rfl rfl (Y_assign (v := .int .i64 (-1)) rfl rfl) ?_
    refine rw_nil ?_
    refine cw_ret ?_
    obtain rfl := some_inj hF1
    exact ret1 Try.results146 (v1 := .int .i64 (-1)) (resAt_tmp rfl) ⟨rfl, (ST.subR (R' := []) (hS.sel [] rfl rfl) (fun _ h => by cases h))⟩
  · skip
    have hF2 := cf' hF hb
    refine cw_skip ?_
    refine cw_seq ?_
    refine cw_region ?_
    refine sq 11 rfl rfl (Y_move (v := .int .i64 (IntKind.i64.wrap (left - (a.length : Int)))) rfl rfl) ?_
    refine sq 4 rfl rfl (Y_assign (v := .int .i64 (IntKind.i64.wrap (left - (a.length : Int)))) rfl rfl) ?_
    refine rw_nil ?_
    refine cw_ret ?_
    obtain rfl := some_inj hF2
    exact ret1 Try.results146 (v1 := .int .i64 (IntKind.i64.wrap (left - (a.length : Int)))) (resAt_tmp rfl) ⟨rfl, (ST.subR (R' := []) (hS.sel [] rfl rfl) (fun _ h => by cases h))⟩

theorem c_laws_szRouteStepS (a : List TRouteStep) (left : Int) (B : Option Addr) (c n : Nat) (w0 : World) (hn : a.length = n) (hS : ST w0 [] w0 [] [⟨B, (a.flatMap enc_RouteStep)⟩]) {r_ : Int} (hF : F_laws_szRouteStepS a left = some r_) :
    CV Try.prog 147 #[.slice B n c, .int .i64 left] w0 (fun v w' => v = .int .i64 r_ ∧ ST w0 [] w' [] []) := by
  subst hn
  unfold F_laws_szRouteStepS at hF
  refine cv_of_cw 12 Try.func147 rfl Try.ntmps147 rfl ?_
  refine cw_seq ?_
  refine cw_region ?_
  refine sq 4 rfl rfl (Y_assign (v := .int .i64 0) rfl rfl) ?_
  refine rw_nil ?_
  refine cw_seq ?_
  refine cw_region ?_
  refine sq 5 rfl rfl (Y_move (v := .int .i64 left) rfl rfl) ?_
  refine sq 6 rfl rfl (Y_move (v := .slice B a.length c) rfl rfl) ?_
  refine sq 7 rfl rfl (Y_len (B := B) (m := a.length) (c := c) k_sl_90_283 rfl rfl) ?_
  refine sq 8 rfl rfl (Y_sub (k := .i64) (a := left) (b := (a.length : Int)) rfl rfl rfl) ?_
  refine sq 1 rfl rfl (Y_assign (v := .int .i64 (IntKind.i64.wrap (left - (a.length : Int)))) rfl rfl) ?_
  refine rw_nil ?_
  refine cw_seq ?_
  refine cw_seq ?_
  refine cw_region ?_
  refine sq 9 rfl rfl (Y_move (v := .int .i64 (IntKind.i64.wrap (left - (a.length : Int)))) rfl rfl) ?_
  refine sq 10 rfl rfl (Y_lt (k := .i64) (a := (IntKind.i64.wrap (left - (a.length : Int)))) (b := 0) rfl rfl rfl) ?_
  refine rw_nil ?_
  refine cw_cond (b := (decide ((IntKind.i64.wrap (left - (a.length : Int))) < 0))) rfl (fun hb => ?_) (fun hb => ?_)
  · skip
    have hF1 := ct hF hb
    refine cw_seq ?_
    refine cw_region ?_
    refine sq 4 rfl rfl (Y_assign (v := .int .i64 (-1)) rfl rfl) ?_
    refine rw_nil ?_
    refine cw_ret ?_
    obtain rfl := some_inj hF1
    exact ret1 Try.results147 (v1 := .int .i64 (-1)) (resAt_tmp rfl) ⟨rfl, (ST.subR (R' := []) (hS.sel [] rfl rfl) (fun _ h => by cases h))⟩
  · skip
    have hF2 := cf' hF hb
    refine cw_skip ?_
    refine cw_seq ?_
    refine cw_region ?_
    refine sq 11 rfl rfl (Y_move (v := .int .i64 (IntKind.i64.wrap (left - (a.length : Int)))) rfl rfl) ?_
    refine sq 4 rfl rfl (Y_assign (v := .int .i64 (IntKind.i64.wrap (left - (a.length : Int)))) rfl rfl) ?_
    refine rw_nil ?_
    refine cw_ret ?_
    obtain rfl := some_inj hF2
    exact ret1 Try.results147 (v1 := .int .i64 (IntKind.i64.wrap (left - (a.length : Int)))) (resAt_tmp rfl) ⟨rfl, (ST.subR (R' := []) (hS.sel [] rfl rfl) (fun _ h => by cases h))⟩

theorem c_laws_szRoute (a : TRoute) (left : Int) (B : Option Addr) (c n : Nat) (B1 : Option Addr) (c1 n1 : Nat) (w0 : World) (hn : a.Start.length = n) (hn1 : a.Steps.length = n1) (hS : ST w0 [] w0 [] [⟨B, (a.Start.flatMap encI)⟩, ⟨B1, (a.Steps.flatMap enc_RouteStep)⟩]) {r_ : Int} (hF : F_laws_szRoute a left = some r_) :
    CV Try.prog 53 #[.agg #[.slice B n c, .slice B1 n1 c1], .int .i64 left] w0 (fun v w' => v = .int .i64 r_ ∧ ST w0 [] w' [] []) := by
  subst hn
  subst hn1
  unfold F_laws_szRoute at hF
  refine cv_of_cw 18 Try.func53 rfl Try.ntmps53 rfl ?_
  refine cw_seq ?_
  refine cw_region ?_
  refine ss 2 rfl rfl (Ys_box (T := 92) (v := .agg #[.slice B a.Start.length c, .slice B1 a.Steps.length c1]) (cs := [.slice B a.Start.length c, .slice B1 a.Steps.length c1]) (m := 2) hS rfl rfl rfl rfl) ?_
  rintro _ w_ ⟨b, rfl, hS1⟩
  refine sq 4 rfl rfl (Y_assign (v := .int .i64 0) rfl rfl) ?_
  refine rw_nil ?_
  refine cw_seq ?_
  refine cw_region ?_
  refine sq 5 rfl rfl (Y_fieldAddr (B := some ⟨b, 0, none⟩) (i := 0) (s := 0) k_fd_92_0_0_59 k_sz_59_1 rfl rfl) ?_
  refine sq 6 rfl rfl (Y_load1 (B := some ⟨b, 0, none⟩) (i := 0) (cs := [.slice B a.Start.length c, .slice B1 a.Steps.length c1]) (v := .slice B a.Start.length c) k_sc_59 rfl rfl (hS1.cf (i := 0) rfl) rfl) ?_
  refine sq 7 rfl rfl (Y_move (v := .int .i64 left) rfl rfl) ?_
  obtain ⟨r_1, hc, hF⟩ := bind_inv hF
  refine sc 8 rfl rfl (Yc_func (g := 146) (vs := [.slice B a.Start.length c, .int .i64 left]) k_call_146 rfl (mc rfl (mc rfl mn)) (c_laws_szIntS a.Start left B c a.Start.length _ rfl (hS1.inn0 [(true, 0)] rfl) hc)) ?_
  rintro _ w_1 ⟨rfl, hd⟩
  have hS2 := hS1.out00 hd
  refine sq 1 rfl rfl (Y_assign (v := .int .i64 r_1) rfl rfl) ?_
  refine rw_nil ?_
  refine cw_seq ?_
  refine cw_seq ?_
  refine cw_region ?_
  refine sq 9 rfl rfl (Y_move (v := .int .i64 r_1) rfl rfl) ?_
  refine sq 10 rfl rfl (Y_lt (k := .i64) (a := r_1) (b := 0) rfl rfl rfl) ?_
  refine rw_nil ?_
  refine cw_cond (b := (decide (r_1 < 0))) rfl (fun hb => ?_) (fun hb => ?_)
  · skip
    have hF1 := ct hF hb
    refine cw_seq ?_
    refine cw_region ?_
    refine sq 4 rfl rfl (Y_assign (v := .int .i64 (-1)) rfl rfl) ?_
    refine rw_nil ?_
    refine cw_ret ?_
    obtain rfl := some_inj hF1
    exact ret1 Try.results53 (v1 := .int .i64 (-1)) (resAt_tmp rfl) ⟨rfl, (ST.subR (R' := []) (hS2.sel [] rfl rfl) (fun _ h => by cases h))⟩
  · skip
    have hF2 := cf' hF hb
    refine cw_skip ?_
    refine cw_seq ?_
    refine cw_region ?_
    refine sq 11 rfl rfl (Y_fieldAddr (B := some ⟨b, 0, none⟩) (i := 0) (s := 0) k_fd_92_1_1_90 k_sz_90_1 rfl rfl) ?_
    refine sq 12 rfl rfl (Y_load1 (B := some ⟨b, 0, none⟩) (i := 1) (cs := [.slice B a.Start.length c, .slice B1 a.Steps.length c1]) (v := .slice B1 a.Steps.length c1) k_sc_90 rfl rfl (hS2.cf (i := 0) rfl) rfl) ?_
    refine sq 13 rfl rfl (Y_move (v := .int .i64 r_1) rfl rfl) ?_
    obtain ⟨r_2, hc1, hF2⟩ := bind_inv hF2
    refine sc 14 rfl rfl (Yc_func (g := 147) (vs := [.slice B1 a.Steps.length c1, .int .i64 r_1]) k_call_147 rfl (mc rfl (mc rfl mn)) (c_laws_szRouteStepS a.Steps r_1 B1 c1 a.Steps.length _ rfl (hS2.inn0 [(true, 1)] rfl) hc1)) ?_
    rintro _ w_2 ⟨rfl, hd1⟩
    have hS3 := hS2.out00 hd1
    refine sq 1 rfl rfl (Y_assign (v := .int .i64 r_2) rfl rfl) ?_
    refine rw_nil ?_
    refine cw_seq ?_
    refine cw_seq ?_
    refine cw_region ?_
    refine sq 15 rfl rfl (Y_move (v := .int .i64 r_2) rfl rfl) ?_
    refine sq 16 rfl rfl (Y_lt (k := .i64) (a := r_2) (b := 0) rfl rfl rfl) ?_
    refine rw_nil ?_
    refine cw_cond (b := (decide (r_2 < 0))) rfl (fun hb1 => ?_) (fun hb1 => ?_)
    · skip
      have hF3 := ct hF2 hb1
      refine cw_seq ?_
      refine cw_region ?_
      refine sq 4 rfl rfl (Y_assign (v := .int .i64 (-1)) rfl rfl) ?_
      refine rw_nil ?_
      refine cw_ret ?_
      obtain rfl := some_inj hF3
      exact ret1 Try.results53 (v1 := .int .i64 (-1)) (resAt_tmp rfl) ⟨rfl, (ST.subR (R' := []) (hS3.sel [] rfl rfl) (fun _ h => by cases h))⟩
    · skip
      have hF4 := cf' hF2 hb1
      refine cw_skip ?_
      refine cw_seq ?_
      refine cw_region ?_
      refine sq 17 rfl rfl (Y_move (v := .int .i64 r_2) rfl rfl) ?_
      refine sq 4 rfl rfl (Y_assign (v := .int .i64 r_2) rfl rfl) ?_
      refine rw_nil ?_
      refine cw_ret ?_
      obtain rfl := some_inj hF4
      exact ret1 Try.results53 (v1 := .int .i64 r_2) (resAt_tmp rfl) ⟨rfl, (ST.subR (R' := []) (hS3.sel [] rfl rfl) (fun _ h => by cases h))⟩

theorem c_laws_toEdge (a : TEdge)  (w0 : World)  (hS : ST w0 [] w0 [] []) {r_ : TEdge} (hF : F_laws_toEdge a = some r_) :
    CV Try.prog 239 #[.agg #[.int .i64 a.A, .int .i64 a.B]] w0 (fun v w' => v = .agg #[.int .i64 r_.A, .int .i64 r_.B] ∧ ST w0 [] w' [] []) := by
  unfold F_laws_toEdge at hF
  refine cv_of_cw 11 Try.func239 rfl Try.ntmps239 rfl ?_
  refine cw_seq ?_
  refine cw_region ?_
  refine ss 1 rfl rfl (Ys_box (T := 279) (v := .agg #[.int .i64 a.A, .int .i64 a.B]) (cs := [.int .i64 a.A, .int .i64 a.B]) (m := 2) hS rfl rfl rfl rfl) ?_
  rintro _ w_ ⟨b, rfl, hS1⟩
  refine ss 2 rfl rfl (Ys_alloc (T := 277) (cs := [.int .i64 0, .int .i64 0]) (m := 2) hS1 k_zero_277 rfl rfl rfl) ?_
  rintro _ w_1 ⟨b1, rfl, hS2⟩
  have hS2 : ST w0 [] _ [⟨some ⟨b, 0, none⟩, 279, [.int .i64 a.A, .int .i64 a.B], 2⟩, ⟨some ⟨b1, 0, none⟩, 277, [.int .i64 0, .int .i64 0], 2⟩] [] := hS2
  refine rw_nil ?_
  refine cw_seq ?_
  refine cw_region ?_
  refine ss 3 rfl rfl (Ys_alloc (T := 277) (cs := [.int .i64 0, .int .i64 0]) (m := 2) hS2 k_zero_277 rfl rfl rfl) ?_
  rintro _ w_2 ⟨b2, rfl, hS3⟩
  have hS3 : ST w0 [] _ [⟨some ⟨b, 0, none⟩, 279, [.int .i64 a.A, .int .i64 a.B], 2⟩, ⟨some ⟨b1, 0, none⟩, 277, [.int .i64 0, .int .i64 0], 2⟩, ⟨some ⟨b2, 0, none⟩, 277, [.int .i64 0, .int .i64 0], 2⟩] [] := hS3
  refine rw_nil ?_
  refine cw_seq ?_
  refine cw_region ?_
  refine sq 4 rfl rfl (Y_fieldAddr (B := some ⟨b, 0, none⟩) (i := 0) (s := 0) k_fd_279_0_0_3 k_sz_3_1 rfl rfl) ?_
  refine sq 5 rfl rfl (Y_load1 (B := some ⟨b, 0, none⟩) (i := 0) (cs := [.int .i64 a.A, .int .i64 a.B]) (v := .int .i64 a.A) k_sc_3 rfl rfl (hS3.cf (i := 0) rfl) rfl) ?_
  refine sq 6 rfl rfl (Y_fieldAddr (B := some ⟨b2, 0, none⟩) (i := 0) (s := 0) k_fd_277_0_0_3 k_sz_3_1 rfl rfl) ?_
  refine ss0 rfl rfl (Ys_store (i := 2) (s := 1) (B := some ⟨b2, 0, none⟩) (T' := 277) (v := .int .i64 a.A) (vs := [.int .i64 a.A]) (k := 0) (cs' := [.int .i64 a.A, .int .i64 0]) hS3 k_sz_3_1 rfl rfl rfl rfl rfl rfl rfl (Nat.le_of_ble_eq_true rfl) rfl rfl) ?_
  rintro _ w_3 ⟨rfl, hS4⟩
  have hS4 : ST w0 [] _ [⟨some ⟨b, 0, none⟩, 279, [.int .i64 a.A, .int .i64 a.B], 2⟩, ⟨some ⟨b1, 0, none⟩, 277, [.int .i64 0, .int .i64 0], 2⟩, ⟨some ⟨b2, 0, none⟩, 277, [.int .i64 a.A, .int .i64 0], 2⟩] [] := hS4
  refine rw_nil ?_
  refine cw_seq ?_
  refine cw_region ?_
  refine sq 7 rfl rfl (Y_fieldAddr (B := some ⟨b, 0, none⟩) (i := 0) (s := 0) k_fd_279_1_1_3 k_sz_3_1 rfl rfl) ?_
  refine sq 8 rfl rfl (Y_load1 (B := some ⟨b, 0, none⟩) (i := 1) (cs := [.int .i64 a.A, .int .i64 a.B]) (v := .int .i64 a.B) k_sc_3 rfl rfl (hS4.cf (i := 0) rfl) rfl) ?_
  refine sq 9 rfl rfl (Y_fieldAddr (B := some ⟨b2, 0, none⟩) (i := 0) (s := 0) k_fd_277_1_1_3 k_sz_3_1 rfl rfl) ?_
  refine ss0 rfl rfl (Ys_store (i := 2) (s := 1) (B := some ⟨b2, 0, none⟩) (T' := 277) (v := .int .i64 a.B) (vs := [.int .i64 a.B]) (k := 1) (cs' := [.int .i64 a.A, .int .i64 a.B]) hS4 k_sz_3_1 rfl rfl rfl rfl rfl rfl rfl (Nat.le_of_ble_eq_true rfl) rfl rfl) ?_
  rintro _ w_4 ⟨rfl, hS5⟩
  have hS5 : ST w0 [] _ [⟨some ⟨b, 0, none⟩, 279, [.int .i64 a.A, .int .i64 a.B], 2⟩, ⟨some ⟨b1, 0, none⟩, 277, [.int .i64 0, .int .i64 0], 2⟩, ⟨some ⟨b2, 0, none⟩, 277, [.int .i64 a.A, .int .i64 a.B], 2⟩] [] := hS5
  refine rw_nil ?_
  refine cw_seq ?_
  refine cw_region ?_
  refine sq 10 rfl rfl (Y_loadA (B := some ⟨b2, 0, none⟩) (i := 0) (cs := [.int .i64 a.A, .int .i64 a.B]) (vs := [.int .i64 a.A, .int .i64 a.B]) k_ag_277 k_sz_277_2 rfl rfl (hS5.cf (i := 2) rfl) rfl rfl) ?_
  refine ss0 rfl rfl (Ys_store (i := 1) (s := 2) (B := some ⟨b1, 0, none⟩) (T' := 277) (v := .agg #[.int .i64 a.A, .int .i64 a.B]) (vs := [.int .i64 a.A, .int .i64 a.B]) (k := 0) (cs' := [.int .i64 a.A, .int .i64 a.B]) hS5 k_sz_277_2 rfl rfl rfl rfl rfl rfl rfl (Nat.le_of_ble_eq_true rfl) rfl rfl) ?_
  rintro _ w_5 ⟨rfl, hS6⟩
  have hS6 : ST w0 [] _ [⟨some ⟨b, 0, none⟩, 279, [.int .i64 a.A, .int .i64 a.B], 2⟩, ⟨some ⟨b1, 0, none⟩, 277, [.int .i64 a.A, .int .i64 a.B], 2⟩, ⟨some ⟨b2, 0, none⟩, 277, [.int .i64 a.A, .int .i64 a.B], 2⟩] [] := hS6
  refine rw_nil ?_
  refine cw_ret ?_
  obtain rfl := some_inj hF
  exact ret1 Try.results239 (v1 := .agg #[.int .i64 a.A, .int .i64 a.B]) (resAt_cellA (B := some ⟨b1, 0, none⟩) (i := 0) (cs := [.int .i64 a.A, .int .i64 a.B]) (vs := [.int .i64 a.A, .int .i64 a.B]) rfl k_ag_277 k_sz_277_2 (hS6.cf (i := 1) rfl) rfl rfl) ⟨rfl, (ST.subR (R' := []) (hS6.sel [] rfl rfl) (fun _ h => by cases h))⟩

theorem c_laws_toEdgeS (a : List TEdge) (B : Option Addr) (c n : Nat) (w0 : World) (hn : a.length = n) (hS : ST w0 [] w0 [] [⟨B, (a.flatMap enc_Edge)⟩]) {r_ : List TEdge} (hF : F_laws_toEdgeS a = some r_) :
    CV Try.prog 150 #[.slice B n c] w0 (fun v w' => ∃ (B1 : Option Addr) (c1 : Nat), v = .slice B1 r_.length c1 ∧ ST w0 [] w' [⟨B1, 277, (r_.flatMap enc_Edge), c1 * 2⟩] []) := by
  subst hn
  unfold F_laws_toEdgeS at hF
  refine cv_of_cw 23 Try.func150 rfl Try.ntmps150 rfl ?_
  refine cw_seq ?_
  refine cw_region ?_
  refine sq 2 rfl rfl (Y_assign (v := .slice none 0 0) rfl rfl) ?_
  refine rw_nil ?_
  refine cw_seq ?_
  refine cw_region ?_
  refine sq 5 rfl rfl (Y_move (v := .slice B a.length c) rfl rfl) ?_
  refine sq 6 rfl rfl (Y_len (B := B) (m := a.length) (c := c) k_sl_84_279 rfl rfl) ?_
  obtain ⟨hmk, hF⟩ := chk_inv hF
  refine ss 7 rfl rfl (Ys_make (s := 2) (by' := 16) (nn := a.length) (a := (a.length : Int)) (b := (a.length : Int)) (cs := ((List.replicate a.length (TEdge.mk 0 0)).flatMap enc_Edge)) hS k_sl_98_277 k_sz_277_2 k_by_277_16 k_zero_277 rfl rfl rfl rfl hmk.1 rfl (by have := hmk; omega) (by have := hmk; omega) (by omega) (fm_rep (enc := enc_Edge) (d := (TEdge.mk 0 0)) rfl _)) ?_
  rintro _ w_ ⟨b, rfl, hS1⟩
  refine sq 3 rfl rfl (Y_assign (v := .slice (some ⟨b, 0, none⟩) a.length a.length) rfl rfl) ?_
  refine rw_nil ?_
  refine cw_seq ?_
  refine cw_seq ?_
  refine cw_region ?_
  refine sq 4 rfl rfl (Y_assign (v := .int .i64 0) rfl rfl) ?_
  refine rw_nil ?_
  obtain ⟨hN, hF⟩ := chk_inv hF
  obtain ⟨z, hz, hF1⟩ := bind_inv hF
  refine cw_block ?_
  refine cw_loop (fun k f w => ∃ (i1 : Nat) (out : List TEdge), FF f [(0, .slice B a.length c), (3, .slice (some ⟨b, 0, none⟩) a.length a.length), (4, .int .i64 (i1 : Int))] ∧ out.length = a.length ∧ ST w0 [] w [⟨some ⟨b, 0, none⟩, 277, (out.flatMap enc_Edge), a.length * 2⟩] [⟨B, (a.flatMap enc_Edge)⟩] ∧ i1 + k = a.length ∧ forN (F_laws_toEdgeS_l1 a) k i1 out = some z) a.length ⟨0, (List.replicate a.length (TEdge.mk 0 0)), (FF.cons rfl (FF.cons rfl (FF.cons rfl FF.nil))), List.length_replicate, (hS1.sel [0] rfl rfl), Nat.zero_add _, hz⟩ ?_
  rintro k_ f w ⟨i1, out, hf, hl, hS2, hik, hL⟩
  refine cw_seq ?_
  refine cw_seq ?_
  refine cw_region ?_
  refine sq 8 rfl rfl (Y_move (v := .int .i64 (i1 : Int)) rfl (hf.get 4 2 rfl)) ?_
  refine sq 9 rfl rfl (Y_move (v := .slice B a.length c) rfl (hf.get 0 0 rfl)) ?_
  refine sq 10 rfl rfl (Y_len (B := B) (m := a.length) (c := c) k_sl_84_279 rfl rfl) ?_
  refine sq 11 rfl rfl (Y_lt (k := .i64) (a := (i1 : Int)) (b := (a.length : Int)) rfl rfl rfl) ?_
  refine rw_nil ?_
  refine cw_cond (b := (decide ((i1 : Int) < (a.length : Int)))) rfl (fun hlt => ?_) (fun hlt => ?_)
  · skip
    have hlt1 : i1 < a.length := by have h := of_decide_eq_true hlt; omega
    obtain ⟨k_1, rfl⟩ : ∃ k2, k_ = k2 + 1 := ⟨k_ - 1, by omega⟩
    obtain ⟨y, hb, hL1⟩ := forN_go hL
    unfold F_laws_toEdgeS_l1 at hb
    refine cw_skip ?_
    refine cw_seq ?_
    refine cw_block ?_
    refine cw_region ?_
    refine sq 14 rfl rfl (Y_move (v := .slice (some ⟨b, 0, none⟩) a.length a.length) rfl (hf.get 3 1 rfl)) ?_
    refine sq 15 rfl rfl (Y_move (v := .int .i64 (i1 : Int)) rfl (hf.get 4 2 rfl)) ?_
    refine sq 16 rfl rfl (Y_move (v := .slice B a.length c) rfl (hf.get 0 0 rfl)) ?_
    refine sq 17 rfl rfl (Y_move (v := .int .i64 (i1 : Int)) rfl (hf.get 4 2 rfl)) ?_
    obtain ⟨x, hx, hb⟩ := bind_inv hb
    refine sq 18 rfl rfl (Y_index (B := B) (m := a.length) (c := c) (k := .i64) (i := (i1 : Int)) k_sl_84_279 k_sz_279_2 rfl rfl rfl (gi_isSome enc_Edge_len rfl (hS2.rf (i := 0) rfl) hx) (getI_nn hx) (getI_ltI hx rfl)) ?_
    refine sq 19 rfl rfl (Y_loadA (B := B) (i := (i1 : Int).toNat * 2) (cs := (a.flatMap enc_Edge)) (vs := [.int .i64 x.A, .int .i64 x.B]) k_ag_279 k_sz_279_2 rfl rfl (hS2.rf (i := 0) rfl) (enc_Edge_len x) (gi_seg enc_Edge_len hx)) ?_
    obtain ⟨r_1, hc, hb⟩ := bind_inv hb
    refine sc 20 rfl rfl (Yc_func (g := 239) (vs := [.agg #[.int .i64 x.A, .int .i64 x.B]]) k_call_239 rfl (mc rfl mn) (c_laws_toEdge x _  (hS2.inn0 [] rfl) hc)) ?_
    rintro _ w_1 ⟨rfl, hd⟩
    have hS3 := hS2.out00 hd
    obtain ⟨x1, hx1, hb⟩ := bind_inv hb
    refine sq 21 rfl rfl (Y_index (B := some ⟨b, 0, none⟩) (m := a.length) (c := a.length) (k := .i64) (i := (i1 : Int)) k_sl_98_277 k_sz_277_2 rfl rfl rfl (gi_isSome enc_Edge_len rfl (hS3.cf (i := 0) rfl) hx1) (getI_nn hx1) (getI_ltI hx1 hl)) ?_
    refine ss0 rfl rfl (Ys_store (i := 0) (s := 2) (B := some ⟨b, 0, none⟩) (T' := 277) (v := .agg #[.int .i64 r_1.A, .int .i64 r_1.B]) (vs := [.int .i64 r_1.A, .int .i64 r_1.B]) (k := (i1 : Int).toNat * 2) (cs' := ((out.set (i1 : Int).toNat r_1).flatMap enc_Edge)) hS3 k_sz_277_2 rfl rfl rfl rfl rfl rfl rfl (gi_fit0 enc_Edge_len hx1) (gi_set enc_Edge_len hx1 r_1 rfl) rfl) ?_
    rintro _ w_2 ⟨rfl, hS4⟩
    refine rw_nil ?_
    refine cw_region ?_
    refine sq 12 rfl rfl (Y_move (v := .int .i64 (i1 : Int)) rfl (hf.get 4 2 rfl)) ?_
    refine sq 13 rfl rfl (Y_add (k := .i64) (a := (i1 : Int)) (b := 1) rfl rfl rfl) ?_
    refine sq 4 rfl rfl (Y_assign (v := .int .i64 (IntKind.i64.wrap ((i1 : Int) + 1))) rfl rfl) ?_
    refine rw_nil ?_
    obtain rfl := some_inj hb
    exact ⟨k_1, Nat.lt_succ_self _, i1 + 1, (out.set (i1 : Int).toNat r_1), (FF.cons (hf.get 0 0 rfl) (FF.cons (hf.get 3 1 rfl) (FF.cons (congrArg (Value.int .i64) (wr_succ hlt1 hN)) FF.nil))), (set_len _ _ _ hl), (hS4.sel [0] rfl rfl), (by omega), hL1⟩
  · skip
    obtain rfl : k_ = 0 := by have h := of_decide_eq_false hlt; omega
    refine cw_exit rfl ?_
    obtain rfl := some_inj hL
    refine cw_seq ?_
    refine cw_region ?_
    refine sq 22 rfl rfl (Y_move (v := .slice (some ⟨b, 0, none⟩) a.length a.length) rfl (hf.get 3 1 rfl)) ?_
    refine sq 2 rfl rfl (Y_assign (v := .slice (some ⟨b, 0, none⟩) a.length a.length) rfl rfl) ?_
    refine rw_nil ?_
    refine cw_ret ?_
    obtain rfl := some_inj hF1
    exact ret1 Try.results150 (v1 := .slice (some ⟨b, 0, none⟩) a.length a.length) (resAt_tmp rfl) ⟨some ⟨b, 0, none⟩, a.length, (sl_eqv hl), (ST.subR (R' := []) (hS2.sel [0] rfl rfl) (fun _ h => by cases h))⟩

theorem c_laws_toCouplingGraph (a : TCouplingGraph) (B : Option Addr) (c n : Nat) (w0 : World) (hn : a.Edges.length = n) (hS : ST w0 [] w0 [] [⟨B, (a.Edges.flatMap enc_Edge)⟩]) {r_ : TCouplingGraph} (hF : F_laws_toCouplingGraph a = some r_) :
    CV Try.prog 55 #[.agg #[.int .i64 a.Nodes, .slice B n c]] w0 (fun v w' => ∃ (B1 : Option Addr) (c1 : Nat), v = .agg #[.int .i64 r_.Nodes, .slice B1 r_.Edges.length c1] ∧ ST w0 [] w' [⟨B1, 277, (r_.Edges.flatMap enc_Edge), c1 * 2⟩] []) := by
  subst hn
  unfold F_laws_toCouplingGraph at hF
  refine cv_of_cw 12 Try.func55 rfl Try.ntmps55 rfl ?_
  refine cw_seq ?_
  refine cw_region ?_
  refine ss 1 rfl rfl (Ys_box (T := 86) (v := .agg #[.int .i64 a.Nodes, .slice B a.Edges.length c]) (cs := [.int .i64 a.Nodes, .slice B a.Edges.length c]) (m := 2) hS rfl rfl rfl rfl) ?_
  rintro _ w_ ⟨b, rfl, hS1⟩
  refine ss 2 rfl rfl (Ys_alloc (T := 100) (cs := [.int .i64 0, .slice none 0 0]) (m := 2) hS1 k_zero_100 rfl rfl rfl) ?_
  rintro _ w_1 ⟨b1, rfl, hS2⟩
  have hS2 : ST w0 [] _ [⟨some ⟨b, 0, none⟩, 86, [.int .i64 a.Nodes, .slice B a.Edges.length c], 2⟩, ⟨some ⟨b1, 0, none⟩, 100, [.int .i64 0, .slice none 0 0], 2⟩] [⟨B, (a.Edges.flatMap enc_Edge)⟩] := hS2
  refine rw_nil ?_
  refine cw_seq ?_
  refine cw_region ?_
  refine ss 3 rfl rfl (Ys_alloc (T := 100) (cs := [.int .i64 0, .slice none 0 0]) (m := 2) hS2 k_zero_100 rfl rfl rfl) ?_
  rintro _ w_2 ⟨b2, rfl, hS3⟩
  have hS3 : ST w0 [] _ [⟨some ⟨b, 0, none⟩, 86, [.int .i64 a.Nodes, .slice B a.Edges.length c], 2⟩, ⟨some ⟨b1, 0, none⟩, 100, [.int .i64 0, .slice none 0 0], 2⟩, ⟨some ⟨b2, 0, none⟩, 100, [.int .i64 0, .slice none 0 0], 2⟩] [⟨B, (a.Edges.flatMap enc_Edge)⟩] := hS3
  refine rw_nil ?_
  refine cw_seq ?_
  refine cw_region ?_
  refine sq 4 rfl rfl (Y_fieldAddr (B := some ⟨b, 0, none⟩) (i := 0) (s := 0) k_fd_86_0_0_3 k_sz_3_1 rfl rfl) ?_
  refine sq 5 rfl rfl (Y_load1 (B := some ⟨b, 0, none⟩) (i := 0) (cs := [.int .i64 a.Nodes, .slice B a.Edges.length c]) (v := .int .i64 a.Nodes) k_sc_3 rfl rfl (hS3.cf (i := 0) rfl) rfl) ?_
  refine sq 6 rfl rfl (Y_fieldAddr (B := some ⟨b2, 0, none⟩) (i := 0) (s := 0) k_fd_100_0_0_3 k_sz_3_1 rfl rfl) ?_
  refine ss0 rfl rfl (Ys_store (i := 2) (s := 1) (B := some ⟨b2, 0, none⟩) (T' := 100) (v := .int .i64 a.Nodes) (vs := [.int .i64 a.Nodes]) (k := 0) (cs' := [.int .i64 a.Nodes, .slice none 0 0]) hS3 k_sz_3_1 rfl rfl rfl rfl rfl rfl rfl (Nat.le_of_ble_eq_true rfl) rfl rfl) ?_
  rintro _ w_3 ⟨rfl, hS4⟩
  have hS4 : ST w0 [] _ [⟨some ⟨b, 0, none⟩, 86, [.int .i64 a.Nodes, .slice B a.Edges.length c], 2⟩, ⟨some ⟨b1, 0, none⟩, 100, [.int .i64 0, .slice none 0 0], 2⟩, ⟨some ⟨b2, 0, none⟩, 100, [.int .i64 a.Nodes, .slice none 0 0], 2⟩] [⟨B, (a.Edges.flatMap enc_Edge)⟩] := hS4
  refine rw_nil ?_
  refine cw_seq ?_
  refine cw_region ?_
  refine sq 7 rfl rfl (Y_fieldAddr (B := some ⟨b, 0, none⟩) (i := 0) (s := 0) k_fd_86_1_1_84 k_sz_84_1 rfl rfl) ?_
  refine sq 8 rfl rfl (Y_load1 (B := some ⟨b, 0, none⟩) (i := 1) (cs := [.int .i64 a.Nodes, .slice B a.Edges.length c]) (v := .slice B a.Edges.length c) k_sc_84 rfl rfl (hS4.cf (i := 0) rfl) rfl) ?_
  obtain ⟨r_1, hc, hF⟩ := bind_inv hF
  refine sc 9 rfl rfl (Yc_func (g := 150) (vs := [.slice B a.Edges.length c]) k_call_150 rfl (mc rfl mn) (c_laws_toEdgeS a.Edges B c a.Edges.length _ rfl (hS4.inn0 [(true, 0)] rfl) hc)) ?_
  rintro _ w_4 ⟨B2, c2, rfl, hd⟩
  have hS5 := hS4.out0 hd
  have hS5 : ST w0 [] _ [⟨some ⟨b, 0, none⟩, 86, [.int .i64 a.Nodes, .slice B a.Edges.length c], 2⟩, ⟨some ⟨b1, 0, none⟩, 100, [.int .i64 0, .slice none 0 0], 2⟩, ⟨some ⟨b2, 0, none⟩, 100, [.int .i64 a.Nodes, .slice none 0 0], 2⟩, ⟨B2, 277, (r_1.flatMap enc_Edge), c2 * 2⟩] [⟨B, (a.Edges.flatMap enc_Edge)⟩] := hS5
  refine sq 10 rfl rfl (Y_fieldAddr (B := some ⟨b2, 0, none⟩) (i := 0) (s := 0) k_fd_100_1_1_98 k_sz_98_1 rfl rfl) ?_
  refine ss0 rfl rfl (Ys_store (i := 2) (s := 1) (B := some ⟨b2, 0, none⟩) (T' := 100) (v := .slice B2 r_1.length c2) (vs := [.slice B2 r_1.length c2]) (k := 1) (cs' := [.int .i64 a.Nodes, .slice B2 r_1.length c2]) hS5 k_sz_98_1 rfl rfl rfl rfl rfl rfl rfl (Nat.le_of_ble_eq_true rfl) rfl rfl) ?_
  rintro _ w_5 ⟨rfl, hS6⟩
  have hS6 : ST w0 [] _ [⟨some ⟨b, 0, none⟩, 86, [.int .i64 a.Nodes, .slice B a.Edges.length c], 2⟩, ⟨some ⟨b1, 0, none⟩, 100, [.int .i64 0, .slice none 0 0], 2⟩, ⟨some ⟨b2, 0, none⟩, 100, [.int .i64 a.Nodes, .slice B2 r_1.length c2], 2⟩, ⟨B2, 277, (r_1.flatMap enc_Edge), c2 * 2⟩] [⟨B, (a.Edges.flatMap enc_Edge)⟩] := hS6
  refine rw_nil ?_
  refine cw_seq ?_
  refine cw_region ?_
  refine sq 11 rfl rfl (Y_loadA (B := some ⟨b2, 0, none⟩) (i := 0) (cs := [.int .i64 a.Nodes, .slice B2 r_1.length c2]) (vs := [.int .i64 a.Nodes, .slice B2 r_1.length c2]) k_ag_100 k_sz_100_2 rfl rfl (hS6.cf (i := 2) rfl) rfl rfl) ?_
  refine ss0 rfl rfl (Ys_store (i := 1) (s := 2) (B := some ⟨b1, 0, none⟩) (T' := 100) (v := .agg #[.int .i64 a.Nodes, .slice B2 r_1.length c2]) (vs := [.int .i64 a.Nodes, .slice B2 r_1.length c2]) (k := 0) (cs' := [.int .i64 a.Nodes, .slice B2 r_1.length c2]) hS6 k_sz_100_2 rfl rfl rfl rfl rfl rfl rfl (Nat.le_of_ble_eq_true rfl) rfl rfl) ?_
  rintro _ w_6 ⟨rfl, hS7⟩
  have hS7 : ST w0 [] _ [⟨some ⟨b, 0, none⟩, 86, [.int .i64 a.Nodes, .slice B a.Edges.length c], 2⟩, ⟨some ⟨b1, 0, none⟩, 100, [.int .i64 a.Nodes, .slice B2 r_1.length c2], 2⟩, ⟨some ⟨b2, 0, none⟩, 100, [.int .i64 a.Nodes, .slice B2 r_1.length c2], 2⟩, ⟨B2, 277, (r_1.flatMap enc_Edge), c2 * 2⟩] [⟨B, (a.Edges.flatMap enc_Edge)⟩] := hS7
  refine rw_nil ?_
  refine cw_ret ?_
  obtain rfl := some_inj hF
  exact ret1 Try.results55 (v1 := .agg #[.int .i64 a.Nodes, .slice B2 r_1.length c2]) (resAt_cellA (B := some ⟨b1, 0, none⟩) (i := 0) (cs := [.int .i64 a.Nodes, .slice B2 r_1.length c2]) (vs := [.int .i64 a.Nodes, .slice B2 r_1.length c2]) rfl k_ag_100 k_sz_100_2 (hS7.cf (i := 1) rfl) rfl rfl) ⟨B2, c2, rfl, (ST.subR (R' := []) (hS7.sel [3] rfl rfl) (fun _ h => by cases h))⟩

theorem c_laws_toGate (a : TGate)  (w0 : World)  (hS : ST w0 [] w0 [] []) {r_ : TGate} (hF : F_laws_toGate a = some r_) :
    CV Try.prog 240 #[.agg #[.int .i64 a.Kind, .int .i64 a.A, .int .i64 a.B]] w0 (fun v w' => v = .agg #[.int .i64 r_.Kind, .int .i64 r_.A, .int .i64 r_.B] ∧ ST w0 [] w' [] []) := by
  unfold F_laws_toGate at hF
  refine cv_of_cw 14 Try.func240 rfl Try.ntmps240 rfl ?_
  refine cw_seq ?_
  refine cw_region ?_
  refine ss 1 rfl rfl (Ys_box (T := 281) (v := .agg #[.int .i64 a.Kind, .int .i64 a.A, .int .i64 a.B]) (cs := [.int .i64 a.Kind, .int .i64 a.A, .int .i64 a.B]) (m := 3) hS rfl rfl rfl rfl) ?_
  rintro _ w_ ⟨b, rfl, hS1⟩
  refine ss 2 rfl rfl (Ys_alloc (T := 213) (cs := [.int .i64 0, .int .i64 0, .int .i64 0]) (m := 3) hS1 k_zero_213 rfl rfl rfl) ?_
  rintro _ w_1 ⟨b1, rfl, hS2⟩
  have hS2 : ST w0 [] _ [⟨some ⟨b, 0, none⟩, 281, [.int .i64 a.Kind, .int .i64 a.A, .int .i64 a.B], 3⟩, ⟨some ⟨b1, 0, none⟩, 213, [.int .i64 0, .int .i64 0, .int .i64 0], 3⟩] [] := hS2
  refine rw_nil ?_
  refine cw_seq ?_
  refine cw_region ?_
  refine ss 3 rfl rfl (Ys_alloc (T := 213) (cs := [.int .i64 0, .int .i64 0, .int .i64 0]) (m := 3) hS2 k_zero_213 rfl rfl rfl) ?_
  rintro _ w_2 ⟨b2, rfl, hS3⟩
  have hS3 : ST w0 [] _ [⟨some ⟨b, 0, none⟩, 281, [.int .i64 a.Kind, .int .i64 a.A, .int .i64 a.B], 3⟩, ⟨some ⟨b1, 0, none⟩, 213, [.int .i64 0, .int .i64 0, .int .i64 0], 3⟩, ⟨some ⟨b2, 0, none⟩, 213, [.int .i64 0, .int .i64 0, .int .i64 0], 3⟩] [] := hS3
  refine rw_nil ?_
  refine cw_seq ?_
  refine cw_region ?_
  refine sq 4 rfl rfl (Y_fieldAddr (B := some ⟨b, 0, none⟩) (i := 0) (s := 0) k_fd_281_0_0_3 k_sz_3_1 rfl rfl) ?_
  refine sq 5 rfl rfl (Y_load1 (B := some ⟨b, 0, none⟩) (i := 0) (cs := [.int .i64 a.Kind, .int .i64 a.A, .int .i64 a.B]) (v := .int .i64 a.Kind) k_sc_3 rfl rfl (hS3.cf (i := 0) rfl) rfl) ?_
  refine sq 6 rfl rfl (Y_fieldAddr (B := some ⟨b2, 0, none⟩) (i := 0) (s := 0) k_fd_213_0_0_3 k_sz_3_1 rfl rfl) ?_
  refine ss0 rfl rfl (Ys_store (i := 2) (s := 1) (B := some ⟨b2, 0, none⟩) (T' := 213) (v := .int .i64 a.Kind) (vs := [.int .i64 a.Kind]) (k := 0) (cs' := [.int .i64 a.Kind, .int .i64 0, .int .i64 0]) hS3 k_sz_3_1 rfl rfl rfl rfl rfl rfl rfl (Nat.le_of_ble_eq_true rfl) rfl rfl) ?_
  rintro _ w_3 ⟨rfl, hS4⟩
  have hS4 : ST w0 [] _ [⟨some ⟨b, 0, none⟩, 281, [.int .i64 a.Kind, .int .i64 a.A, .int .i64 a.B], 3⟩, ⟨some ⟨b1, 0, none⟩, 213, [.int .i64 0, .int .i64 0, .int .i64 0], 3⟩, ⟨some ⟨b2, 0, none⟩, 213, [.int .i64 a.Kind, .int .i64 0, .int .i64 0], 3⟩] [] := hS4
  refine rw_nil ?_
  refine cw_seq ?_
  refine cw_region ?_
  refine sq 7 rfl rfl (Y_fieldAddr (B := some ⟨b, 0, none⟩) (i := 0) (s := 0) k_fd_281_1_1_3 k_sz_3_1 rfl rfl) ?_
  refine sq 8 rfl rfl (Y_load1 (B := some ⟨b, 0, none⟩) (i := 1) (cs := [.int .i64 a.Kind, .int .i64 a.A, .int .i64 a.B]) (v := .int .i64 a.A) k_sc_3 rfl rfl (hS4.cf (i := 0) rfl) rfl) ?_
  refine sq 9 rfl rfl (Y_fieldAddr (B := some ⟨b2, 0, none⟩) (i := 0) (s := 0) k_fd_213_1_1_3 k_sz_3_1 rfl rfl) ?_
  refine ss0 rfl rfl (Ys_store (i := 2) (s := 1) (B := some ⟨b2, 0, none⟩) (T' := 213) (v := .int .i64 a.A) (vs := [.int .i64 a.A]) (k := 1) (cs' := [.int .i64 a.Kind, .int .i64 a.A, .int .i64 0]) hS4 k_sz_3_1 rfl rfl rfl rfl rfl rfl rfl (Nat.le_of_ble_eq_true rfl) rfl rfl) ?_
  rintro _ w_4 ⟨rfl, hS5⟩
  have hS5 : ST w0 [] _ [⟨some ⟨b, 0, none⟩, 281, [.int .i64 a.Kind, .int .i64 a.A, .int .i64 a.B], 3⟩, ⟨some ⟨b1, 0, none⟩, 213, [.int .i64 0, .int .i64 0, .int .i64 0], 3⟩, ⟨some ⟨b2, 0, none⟩, 213, [.int .i64 a.Kind, .int .i64 a.A, .int .i64 0], 3⟩] [] := hS5
  refine rw_nil ?_
  refine cw_seq ?_
  refine cw_region ?_
  refine sq 10 rfl rfl (Y_fieldAddr (B := some ⟨b, 0, none⟩) (i := 0) (s := 0) k_fd_281_2_2_3 k_sz_3_1 rfl rfl) ?_
  refine sq 11 rfl rfl (Y_load1 (B := some ⟨b, 0, none⟩) (i := 2) (cs := [.int .i64 a.Kind, .int .i64 a.A, .int .i64 a.B]) (v := .int .i64 a.B) k_sc_3 rfl rfl (hS5.cf (i := 0) rfl) rfl) ?_
  refine sq 12 rfl rfl (Y_fieldAddr (B := some ⟨b2, 0, none⟩) (i := 0) (s := 0) k_fd_213_2_2_3 k_sz_3_1 rfl rfl) ?_
  refine ss0 rfl rfl (Ys_store (i := 2) (s := 1) (B := some ⟨b2, 0, none⟩) (T' := 213) (v := .int .i64 a.B) (vs := [.int .i64 a.B]) (k := 2) (cs' := [.int .i64 a.Kind, .int .i64 a.A, .int .i64 a.B]) hS5 k_sz_3_1 rfl rfl rfl rfl rfl rfl rfl (Nat.le_of_ble_eq_true rfl) rfl rfl) ?_
  rintro _ w_5 ⟨rfl, hS6⟩
  have hS6 : ST w0 [] _ [⟨some ⟨b, 0, none⟩, 281, [.int .i64 a.Kind, .int .i64 a.A, .int .i64 a.B], 3⟩, ⟨some ⟨b1, 0, none⟩, 213, [.int .i64 0, .int .i64 0, .int .i64 0], 3⟩, ⟨some ⟨b2, 0, none⟩, 213, [.int .i64 a.Kind, .int .i64 a.A, .int .i64 a.B], 3⟩] [] := hS6
  refine rw_nil ?_
  refine cw_seq ?_
  refine cw_region ?_
  refine sq 13 rfl rfl (Y_loadA (B := some ⟨b2, 0, none⟩) (i := 0) (cs := [.int .i64 a.Kind, .int .i64 a.A, .int .i64 a.B]) (vs := [.int .i64 a.Kind, .int .i64 a.A, .int .i64 a.B]) k_ag_213 k_sz_213_3 rfl rfl (hS6.cf (i := 2) rfl) rfl rfl) ?_
  refine ss0 rfl rfl (Ys_store (i := 1) (s := 3) (B := some ⟨b1, 0, none⟩) (T' := 213) (v := .agg #[.int .i64 a.Kind, .int .i64 a.A, .int .i64 a.B]) (vs := [.int .i64 a.Kind, .int .i64 a.A, .int .i64 a.B]) (k := 0) (cs' := [.int .i64 a.Kind, .int .i64 a.A, .int .i64 a.B]) hS6 k_sz_213_3 rfl rfl rfl rfl rfl rfl rfl (Nat.le_of_ble_eq_true rfl) rfl rfl) ?_
  rintro _ w_6 ⟨rfl, hS7⟩
  have hS7 : ST w0 [] _ [⟨some ⟨b, 0, none⟩, 281, [.int .i64 a.Kind, .int .i64 a.A, .int .i64 a.B], 3⟩, ⟨some ⟨b1, 0, none⟩, 213, [.int .i64 a.Kind, .int .i64 a.A, .int .i64 a.B], 3⟩, ⟨some ⟨b2, 0, none⟩, 213, [.int .i64 a.Kind, .int .i64 a.A, .int .i64 a.B], 3⟩] [] := hS7
  refine rw_nil ?_
  refine cw_ret ?_
  obtain rfl := some_inj hF
  exact ret1 Try.results240 (v1 := .agg #[.int .i64 a.Kind, .int .i64 a.A, .int .i64 a.B]) (resAt_cellA (B := some ⟨b1, 0, none⟩) (i := 0) (cs := [.int .i64 a.Kind, .int .i64 a.A, .int .i64 a.B]) (vs := [.int .i64 a.Kind, .int .i64 a.A, .int .i64 a.B]) rfl k_ag_213 k_sz_213_3 (hS7.cf (i := 1) rfl) rfl rfl) ⟨rfl, (ST.subR (R' := []) (hS7.sel [] rfl rfl) (fun _ h => by cases h))⟩

theorem c_laws_toGateS (a : List TGate) (B : Option Addr) (c n : Nat) (w0 : World) (hn : a.length = n) (hS : ST w0 [] w0 [] [⟨B, (a.flatMap enc_Gate)⟩]) {r_ : List TGate} (hF : F_laws_toGateS a = some r_) :
    CV Try.prog 151 #[.slice B n c] w0 (fun v w' => ∃ (B1 : Option Addr) (c1 : Nat), v = .slice B1 r_.length c1 ∧ ST w0 [] w' [⟨B1, 213, (r_.flatMap enc_Gate), c1 * 3⟩] []) := by
  subst hn
  unfold F_laws_toGateS at hF
  refine cv_of_cw 23 Try.func151 rfl Try.ntmps151 rfl ?_
  refine cw_seq ?_
  refine cw_region ?_
  refine sq 2 rfl rfl (Y_assign (v := .slice none 0 0) rfl rfl) ?_
  refine rw_nil ?_
  refine cw_seq ?_
  refine cw_region ?_
  refine sq 5 rfl rfl (Y_move (v := .slice B a.length c) rfl rfl) ?_
  refine sq 6 rfl rfl (Y_len (B := B) (m := a.length) (c := c) k_sl_87_281 rfl rfl) ?_
  obtain ⟨hmk, hF⟩ := chk_inv hF
  refine ss 7 rfl rfl (Ys_make (s := 3) (by' := 24) (nn := a.length) (a := (a.length : Int)) (b := (a.length : Int)) (cs := ((List.replicate a.length (TGate.mk 0 0 0)).flatMap enc_Gate)) hS k_sl_102_213 k_sz_213_3 k_by_213_24 k_zero_213 rfl rfl rfl rfl hmk.1 rfl (by have := hmk; omega) (by have := hmk; omega) (by omega) (fm_rep (enc := enc_Gate) (d := (TGate.mk 0 0 0)) rfl _)) ?_
  rintro _ w_ ⟨b, rfl, hS1⟩
  refine sq 3 rfl rfl (Y_assign (v := .slice (some ⟨b, 0, none⟩) a.length a.length) rfl rfl) ?_
  refine rw_nil ?_
  refine cw_seq ?_
  refine cw_seq ?_
  refine cw_region ?_
  refine sq 4 rfl rfl (Y_assign (v := .int .i64 0) rfl rfl) ?_
  refine rw_nil ?_
  obtain ⟨hN, hF⟩ := chk_inv hF
  obtain ⟨z, hz, hF1⟩ := bind_inv hF
  refine cw_block ?_
  refine cw_loop (fun k f w => ∃ (i1 : Nat) (out : List TGate), FF f [(0, .slice B a.length c), (3, .slice (some ⟨b, 0, none⟩) a.length a.length), (4, .int .i64 (i1 : Int))] ∧ out.length = a.length ∧ ST w0 [] w [⟨some ⟨b, 0, none⟩, 213, (out.flatMap enc_Gate), a.length * 3⟩] [⟨B, (a.flatMap enc_Gate)⟩] ∧ i1 + k = a.length ∧ forN (F_laws_toGateS_l1 a) k i1 out = some z) a.length ⟨0, (List.replicate a.length (TGate.mk 0 0 0)), (FF.cons rfl (FF.cons rfl (FF.cons rfl FF.nil))), List.length_replicate, (hS1.sel [0] rfl rfl), Nat.zero_add _, hz⟩ ?_
  rintro k_ f w ⟨i1, out, hf, hl, hS2, hik, hL⟩
  refine cw_seq ?_
  refine cw_seq ?_
  refine cw_region ?_
  refine sq 8 rfl rfl (Y_move (v := .int .i64 (i1 : Int)) rfl (hf.get 4 2 rfl)) ?_
  refine sq 9 rfl rfl (Y_move (v := .slice B a.length c) rfl (hf.get 0 0 rfl)) ?_
  refine sq 10 rfl rfl (Y_len (B := B) (m := a.length) (c := c) k_sl_87_281 rfl rfl) ?_
  refine sq 11 rfl rfl (Y_lt (k := .i64) (a := (i1 : Int)) (b := (a.length : Int)) rfl rfl rfl) ?_
  refine rw_nil ?_
  refine cw_cond (b := (decide ((i1 : Int) < (a.length : Int)))) rfl (fun hlt => ?_) (fun hlt => ?_)
  · skip
    have hlt1 : i1 < a.length := by have h := of_decide_eq_true hlt; omega
    obtain ⟨k_1, rfl⟩ : ∃ k2, k_ = k2 + 1 := ⟨k_ - 1, by omega⟩
    obtain ⟨y, hb, hL1⟩ := forN_go hL
    unfold F_laws_toGateS_l1 at hb
    refine cw_skip ?_
    refine cw_seq ?_
    refine cw_block ?_
    refine cw_region ?_
    refine sq 14 rfl rfl (Y_move (v := .slice (some ⟨b, 0, none⟩) a.length a.length) rfl (hf.get 3 1 rfl)) ?_
    refine sq 15 rfl rfl (Y_move (v := .int .i64 (i1 : Int)) rfl (hf.get 4 2 rfl)) ?_
    refine sq 16 rfl rfl (Y_move (v := .slice B a.length c) rfl (hf.get 0 0 rfl)) ?_
    refine sq 17 rfl rfl (Y_move (v := .int .i64 (i1 : Int)) rfl (hf.get 4 2 rfl)) ?_
    obtain ⟨x, hx, hb⟩ := bind_inv hb
    refine sq 18 rfl rfl (Y_index (B := B) (m := a.length) (c := c) (k := .i64) (i := (i1 : Int)) k_sl_87_281 k_sz_281_3 rfl rfl rfl (gi_isSome enc_Gate_len rfl (hS2.rf (i := 0) rfl) hx) (getI_nn hx) (getI_ltI hx rfl)) ?_
    refine sq 19 rfl rfl (Y_loadA (B := B) (i := (i1 : Int).toNat * 3) (cs := (a.flatMap enc_Gate)) (vs := [.int .i64 x.Kind, .int .i64 x.A, .int .i64 x.B]) k_ag_281 k_sz_281_3 rfl rfl (hS2.rf (i := 0) rfl) (enc_Gate_len x) (gi_seg enc_Gate_len hx)) ?_
    obtain ⟨r_1, hc, hb⟩ := bind_inv hb
    refine sc 20 rfl rfl (Yc_func (g := 240) (vs := [.agg #[.int .i64 x.Kind, .int .i64 x.A, .int .i64 x.B]]) k_call_240 rfl (mc rfl mn) (c_laws_toGate x _  (hS2.inn0 [] rfl) hc)) ?_
    rintro _ w_1 ⟨rfl, hd⟩
    have hS3 := hS2.out00 hd
    obtain ⟨x1, hx1, hb⟩ := bind_inv hb
    refine sq 21 rfl rfl (Y_index (B := some ⟨b, 0, none⟩) (m := a.length) (c := a.length) (k := .i64) (i := (i1 : Int)) k_sl_102_213 k_sz_213_3 rfl rfl rfl (gi_isSome enc_Gate_len rfl (hS3.cf (i := 0) rfl) hx1) (getI_nn hx1) (getI_ltI hx1 hl)) ?_
    refine ss0 rfl rfl (Ys_store (i := 0) (s := 3) (B := some ⟨b, 0, none⟩) (T' := 213) (v := .agg #[.int .i64 r_1.Kind, .int .i64 r_1.A, .int .i64 r_1.B]) (vs := [.int .i64 r_1.Kind, .int .i64 r_1.A, .int .i64 r_1.B]) (k := (i1 : Int).toNat * 3) (cs' := ((out.set (i1 : Int).toNat r_1).flatMap enc_Gate)) hS3 k_sz_213_3 rfl rfl rfl rfl rfl rfl rfl (gi_fit0 enc_Gate_len hx1) (gi_set enc_Gate_len hx1 r_1 rfl) rfl) ?_
    rintro _ w_2 ⟨rfl, hS4⟩
    refine rw_nil ?_
    refine cw_region ?_
    refine sq 12 rfl rfl (Y_move (v := .int .i64 (i1 : Int)) rfl (hf.get 4 2 rfl)) ?_
    refine sq 13 rfl rfl (Y_add (k := .i64) (a := (i1 : Int)) (b := 1) rfl rfl rfl) ?_
    refine sq 4 rfl rfl (Y_assign (v := .int .i64 (IntKind.i64.wrap ((i1 : Int) + 1))) rfl rfl) ?_
    refine rw_nil ?_
    obtain rfl := some_inj hb
    exact ⟨k_1, Nat.lt_succ_self _, i1 + 1, (out.set (i1 : Int).toNat r_1), (FF.cons (hf.get 0 0 rfl) (FF.cons (hf.get 3 1 rfl) (FF.cons (congrArg (Value.int .i64) (wr_succ hlt1 hN)) FF.nil))), (set_len _ _ _ hl), (hS4.sel [0] rfl rfl), (by omega), hL1⟩
  · skip
    obtain rfl : k_ = 0 := by have h := of_decide_eq_false hlt; omega
    refine cw_exit rfl ?_
    obtain rfl := some_inj hL
    refine cw_seq ?_
    refine cw_region ?_
    refine sq 22 rfl rfl (Y_move (v := .slice (some ⟨b, 0, none⟩) a.length a.length) rfl (hf.get 3 1 rfl)) ?_
    refine sq 2 rfl rfl (Y_assign (v := .slice (some ⟨b, 0, none⟩) a.length a.length) rfl rfl) ?_
    refine rw_nil ?_
    refine cw_ret ?_
    obtain rfl := some_inj hF1
    exact ret1 Try.results151 (v1 := .slice (some ⟨b, 0, none⟩) a.length a.length) (resAt_tmp rfl) ⟨some ⟨b, 0, none⟩, a.length, (sl_eqv hl), (ST.subR (R' := []) (hS2.sel [0] rfl rfl) (fun _ h => by cases h))⟩

theorem c_laws_toCircuit (a : TCircuit) (B : Option Addr) (c n : Nat) (w0 : World) (hn : a.Gates.length = n) (hS : ST w0 [] w0 [] [⟨B, (a.Gates.flatMap enc_Gate)⟩]) {r_ : TCircuit} (hF : F_laws_toCircuit a = some r_) :
    CV Try.prog 56 #[.agg #[.int .i64 a.Qubits, .slice B n c]] w0 (fun v w' => ∃ (B1 : Option Addr) (c1 : Nat), v = .agg #[.int .i64 r_.Qubits, .slice B1 r_.Gates.length c1] ∧ ST w0 [] w' [⟨B1, 213, (r_.Gates.flatMap enc_Gate), c1 * 3⟩] []) := by
  subst hn
  unfold F_laws_toCircuit at hF
  refine cv_of_cw 12 Try.func56 rfl Try.ntmps56 rfl ?_
  refine cw_seq ?_
  refine cw_region ?_
  refine ss 1 rfl rfl (Ys_box (T := 89) (v := .agg #[.int .i64 a.Qubits, .slice B a.Gates.length c]) (cs := [.int .i64 a.Qubits, .slice B a.Gates.length c]) (m := 2) hS rfl rfl rfl rfl) ?_
  rintro _ w_ ⟨b, rfl, hS1⟩
  refine ss 2 rfl rfl (Ys_alloc (T := 104) (cs := [.int .i64 0, .slice none 0 0]) (m := 2) hS1 k_zero_104 rfl rfl rfl) ?_
  rintro _ w_1 ⟨b1, rfl, hS2⟩
  have hS2 : ST w0 [] _ [⟨some ⟨b, 0, none⟩, 89, [.int .i64 a.Qubits, .slice B a.Gates.length c], 2⟩, ⟨some ⟨b1, 0, none⟩, 104, [.int .i64 0, .slice none 0 0], 2⟩] [⟨B, (a.Gates.flatMap enc_Gate)⟩] := hS2
  refine rw_nil ?_
  refine cw_seq ?_
  refine cw_region ?_
  refine ss 3 rfl rfl (Ys_alloc (T := 104) (cs := [.int .i64 0, .slice none 0 0]) (m := 2) hS2 k_zero_104 rfl rfl rfl) ?_
  rintro _ w_2 ⟨b2, rfl, hS3⟩
  have hS3 : ST w0 [] _ [⟨some ⟨b, 0, none⟩, 89, [.int .i64 a.Qubits, .slice B a.Gates.length c], 2⟩, ⟨some ⟨b1, 0, none⟩, 104, [.int .i64 0, .slice none 0 0], 2⟩, ⟨some ⟨b2, 0, none⟩, 104, [.int .i64 0, .slice none 0 0], 2⟩] [⟨B, (a.Gates.flatMap enc_Gate)⟩] := hS3
  refine rw_nil ?_
  refine cw_seq ?_
  refine cw_region ?_
  refine sq 4 rfl rfl (Y_fieldAddr (B := some ⟨b, 0, none⟩) (i := 0) (s := 0) k_fd_89_0_0_3 k_sz_3_1 rfl rfl) ?_
  refine sq 5 rfl rfl (Y_load1 (B := some ⟨b, 0, none⟩) (i := 0) (cs := [.int .i64 a.Qubits, .slice B a.Gates.length c]) (v := .int .i64 a.Qubits) k_sc_3 rfl rfl (hS3.cf (i := 0) rfl) rfl) ?_
  refine sq 6 rfl rfl (Y_fieldAddr (B := some ⟨b2, 0, none⟩) (i := 0) (s := 0) k_fd_104_0_0_3 k_sz_3_1 rfl rfl) ?_
  refine ss0 rfl rfl (Ys_store (i := 2) (s := 1) (B := some ⟨b2, 0, none⟩) (T' := 104) (v := .int .i64 a.Qubits) (vs := [.int .i64 a.Qubits]) (k := 0) (cs' := [.int .i64 a.Qubits, .slice none 0 0]) hS3 k_sz_3_1 rfl rfl rfl rfl rfl rfl rfl (Nat.le_of_ble_eq_true rfl) rfl rfl) ?_
  rintro _ w_3 ⟨rfl, hS4⟩
  have hS4 : ST w0 [] _ [⟨some ⟨b, 0, none⟩, 89, [.int .i64 a.Qubits, .slice B a.Gates.length c], 2⟩, ⟨some ⟨b1, 0, none⟩, 104, [.int .i64 0, .slice none 0 0], 2⟩, ⟨some ⟨b2, 0, none⟩, 104, [.int .i64 a.Qubits, .slice none 0 0], 2⟩] [⟨B, (a.Gates.flatMap enc_Gate)⟩] := hS4
  refine rw_nil ?_
  refine cw_seq ?_
  refine cw_region ?_
  refine sq 7 rfl rfl (Y_fieldAddr (B := some ⟨b, 0, none⟩) (i := 0) (s := 0) k_fd_89_1_1_87 k_sz_87_1 rfl rfl) ?_
  refine sq 8 rfl rfl (Y_load1 (B := some ⟨b, 0, none⟩) (i := 1) (cs := [.int .i64 a.Qubits, .slice B a.Gates.length c]) (v := .slice B a.Gates.length c) k_sc_87 rfl rfl (hS4.cf (i := 0) rfl) rfl) ?_
  obtain ⟨r_1, hc, hF⟩ := bind_inv hF
  refine sc 9 rfl rfl (Yc_func (g := 151) (vs := [.slice B a.Gates.length c]) k_call_151 rfl (mc rfl mn) (c_laws_toGateS a.Gates B c a.Gates.length _ rfl (hS4.inn0 [(true, 0)] rfl) hc)) ?_
  rintro _ w_4 ⟨B2, c2, rfl, hd⟩
  have hS5 := hS4.out0 hd
  have hS5 : ST w0 [] _ [⟨some ⟨b, 0, none⟩, 89, [.int .i64 a.Qubits, .slice B a.Gates.length c], 2⟩, ⟨some ⟨b1, 0, none⟩, 104, [.int .i64 0, .slice none 0 0], 2⟩, ⟨some ⟨b2, 0, none⟩, 104, [.int .i64 a.Qubits, .slice none 0 0], 2⟩, ⟨B2, 213, (r_1.flatMap enc_Gate), c2 * 3⟩] [⟨B, (a.Gates.flatMap enc_Gate)⟩] := hS5
  refine sq 10 rfl rfl (Y_fieldAddr (B := some ⟨b2, 0, none⟩) (i := 0) (s := 0) k_fd_104_1_1_102 k_sz_102_1 rfl rfl) ?_
  refine ss0 rfl rfl (Ys_store (i := 2) (s := 1) (B := some ⟨b2, 0, none⟩) (T' := 104) (v := .slice B2 r_1.length c2) (vs := [.slice B2 r_1.length c2]) (k := 1) (cs' := [.int .i64 a.Qubits, .slice B2 r_1.length c2]) hS5 k_sz_102_1 rfl rfl rfl rfl rfl rfl rfl (Nat.le_of_ble_eq_true rfl) rfl rfl) ?_
  rintro _ w_5 ⟨rfl, hS6⟩
  have hS6 : ST w0 [] _ [⟨some ⟨b, 0, none⟩, 89, [.int .i64 a.Qubits, .slice B a.Gates.length c], 2⟩, ⟨some ⟨b1, 0, none⟩, 104, [.int .i64 0, .slice none 0 0], 2⟩, ⟨some ⟨b2, 0, none⟩, 104, [.int .i64 a.Qubits, .slice B2 r_1.length c2], 2⟩, ⟨B2, 213, (r_1.flatMap enc_Gate), c2 * 3⟩] [⟨B, (a.Gates.flatMap enc_Gate)⟩] := hS6
  refine rw_nil ?_
  refine cw_seq ?_
  refine cw_region ?_
  refine sq 11 rfl rfl (Y_loadA (B := some ⟨b2, 0, none⟩) (i := 0) (cs := [.int .i64 a.Qubits, .slice B2 r_1.length c2]) (vs := [.int .i64 a.Qubits, .slice B2 r_1.length c2]) k_ag_104 k_sz_104_2 rfl rfl (hS6.cf (i := 2) rfl) rfl rfl) ?_
  refine ss0 rfl rfl (Ys_store (i := 1) (s := 2) (B := some ⟨b1, 0, none⟩) (T' := 104) (v := .agg #[.int .i64 a.Qubits, .slice B2 r_1.length c2]) (vs := [.int .i64 a.Qubits, .slice B2 r_1.length c2]) (k := 0) (cs' := [.int .i64 a.Qubits, .slice B2 r_1.length c2]) hS6 k_sz_104_2 rfl rfl rfl rfl rfl rfl rfl (Nat.le_of_ble_eq_true rfl) rfl rfl) ?_
  rintro _ w_6 ⟨rfl, hS7⟩
  have hS7 : ST w0 [] _ [⟨some ⟨b, 0, none⟩, 89, [.int .i64 a.Qubits, .slice B a.Gates.length c], 2⟩, ⟨some ⟨b1, 0, none⟩, 104, [.int .i64 a.Qubits, .slice B2 r_1.length c2], 2⟩, ⟨some ⟨b2, 0, none⟩, 104, [.int .i64 a.Qubits, .slice B2 r_1.length c2], 2⟩, ⟨B2, 213, (r_1.flatMap enc_Gate), c2 * 3⟩] [⟨B, (a.Gates.flatMap enc_Gate)⟩] := hS7
  refine rw_nil ?_
  refine cw_ret ?_
  obtain rfl := some_inj hF
  exact ret1 Try.results56 (v1 := .agg #[.int .i64 a.Qubits, .slice B2 r_1.length c2]) (resAt_cellA (B := some ⟨b1, 0, none⟩) (i := 0) (cs := [.int .i64 a.Qubits, .slice B2 r_1.length c2]) (vs := [.int .i64 a.Qubits, .slice B2 r_1.length c2]) rfl k_ag_104 k_sz_104_2 (hS7.cf (i := 1) rfl) rfl rfl) ⟨B2, c2, rfl, (ST.subR (R' := []) (hS7.sel [3] rfl rfl) (fun _ h => by cases h))⟩

theorem c_laws_toIntS (a : List Int) (B : Option Addr) (c n : Nat) (w0 : World) (hn : a.length = n) (hS : ST w0 [] w0 [] [⟨B, (a.flatMap encI)⟩]) {r_ : List Int} (hF : F_laws_toIntS a = some r_) :
    CV Try.prog 152 #[.slice B n c] w0 (fun v w' => ∃ (B1 : Option Addr) (c1 : Nat), v = .slice B1 r_.length c1 ∧ ST w0 [] w' [⟨B1, 3, (r_.flatMap encI), c1 * 1⟩] []) := by
  subst hn
  unfold F_laws_toIntS at hF
  refine cv_of_cw 22 Try.func152 rfl Try.ntmps152 rfl ?_
  refine cw_seq ?_
  refine cw_region ?_
  refine sq 2 rfl rfl (Y_assign (v := .slice none 0 0) rfl rfl) ?_
  refine rw_nil ?_
  refine cw_seq ?_
  refine cw_region ?_
  refine sq 5 rfl rfl (Y_move (v := .slice B a.length c) rfl rfl) ?_
  refine sq 6 rfl rfl (Y_len (B := B) (m := a.length) (c := c) k_sl_59_3 rfl rfl) ?_
  obtain ⟨hmk, hF⟩ := chk_inv hF
  refine ss 7 rfl rfl (Ys_make (s := 1) (by' := 8) (nn := a.length) (a := (a.length : Int)) (b := (a.length : Int)) (cs := ((List.replicate a.length 0).flatMap encI)) hS k_sl_59_3 k_sz_3_1 k_by_3_8 k_zero_3 rfl rfl rfl rfl hmk.1 rfl (by have := hmk; omega) (by have := hmk; omega) (by omega) (fm_rep (enc := encI) (d := 0) rfl _)) ?_
  rintro _ w_ ⟨b, rfl, hS1⟩
  refine sq 3 rfl rfl (Y_assign (v := .slice (some ⟨b, 0, none⟩) a.length a.length) rfl rfl) ?_
  refine rw_nil ?_
  refine cw_seq ?_
  refine cw_seq ?_
  refine cw_region ?_
  refine sq 4 rfl rfl (Y_assign (v := .int .i64 0) rfl rfl) ?_
  refine rw_nil ?_
  obtain ⟨hN, hF⟩ := chk_inv hF
  obtain ⟨z, hz, hF1⟩ := bind_inv hF
  refine cw_block ?_
  refine cw_loop (fun k f w => ∃ (i1 : Nat) (out : List Int), FF f [(0, .slice B a.length c), (3, .slice (some ⟨b, 0, none⟩) a.length a.length), (4, .int .i64 (i1 : Int))] ∧ out.length = a.length ∧ ST w0 [] w [⟨some ⟨b, 0, none⟩, 3, (out.flatMap encI), a.length * 1⟩] [⟨B, (a.flatMap encI)⟩] ∧ i1 + k = a.length ∧ forN (F_laws_toIntS_l1 a) k i1 out = some z) a.length ⟨0, (List.replicate a.length 0), (FF.cons rfl (FF.cons rfl (FF.cons rfl FF.nil))), List.length_replicate, (hS1.sel [0] rfl rfl), Nat.zero_add _, hz⟩ ?_
  rintro k_ f w ⟨i1, out, hf, hl, hS2, hik, hL⟩
  refine cw_seq ?_
  refine cw_seq ?_
  refine cw_region ?_
  refine sq 8 rfl rfl (Y_move (v := .int .i64 (i1 : Int)) rfl (hf.get 4 2 rfl)) ?_
  refine sq 9 rfl rfl (Y_move (v := .slice B a.length c) rfl (hf.get 0 0 rfl)) ?_
  refine sq 10 rfl rfl (Y_len (B := B) (m := a.length) (c := c) k_sl_59_3 rfl rfl) ?_
  refine sq 11 rfl rfl (Y_lt (k := .i64) (a := (i1 : Int)) (b := (a.length : Int)) rfl rfl rfl) ?_
  refine rw_nil ?_
  refine cw_cond (b := (decide ((i1 : Int) < (a.length : Int)))) rfl (fun hlt => ?_) (fun hlt => ?_)
  · skip
    have hlt1 : i1 < a.length := by have h := of_decide_eq_true hlt; omega
    obtain ⟨k_1, rfl⟩ : ∃ k2, k_ = k2 + 1 := ⟨k_ - 1, by omega⟩
    obtain ⟨y, hb, hL1⟩ := forN_go hL
    unfold F_laws_toIntS_l1 at hb
    refine cw_skip ?_
    refine cw_seq ?_
    refine cw_block ?_
    refine cw_region ?_
    refine sq 14 rfl rfl (Y_move (v := .slice (some ⟨b, 0, none⟩) a.length a.length) rfl (hf.get 3 1 rfl)) ?_
    refine sq 15 rfl rfl (Y_move (v := .int .i64 (i1 : Int)) rfl (hf.get 4 2 rfl)) ?_
    refine sq 16 rfl rfl (Y_move (v := .slice B a.length c) rfl (hf.get 0 0 rfl)) ?_
    refine sq 17 rfl rfl (Y_move (v := .int .i64 (i1 : Int)) rfl (hf.get 4 2 rfl)) ?_
    obtain ⟨x, hx, hb⟩ := bind_inv hb
    refine sq 18 rfl rfl (Y_index (B := B) (m := a.length) (c := c) (k := .i64) (i := (i1 : Int)) k_sl_59_3 k_sz_3_1 rfl rfl rfl (gi_isSome encI_len rfl (hS2.rf (i := 0) rfl) hx) (getI_nn hx) (getI_ltI hx rfl)) ?_
    refine sq 19 rfl rfl (Y_load1 (B := B) (i := (i1 : Int).toNat * 1) (cs := (a.flatMap encI)) (v := .int .i64 x) k_sc_3 rfl rfl (hS2.rf (i := 0) rfl) (gi_at0 encI_len hx rfl)) ?_
    obtain ⟨x1, hx1, hb⟩ := bind_inv hb
    refine sq 20 rfl rfl (Y_index (B := some ⟨b, 0, none⟩) (m := a.length) (c := a.length) (k := .i64) (i := (i1 : Int)) k_sl_59_3 k_sz_3_1 rfl rfl rfl (gi_isSome encI_len rfl (hS2.cf (i := 0) rfl) hx1) (getI_nn hx1) (getI_ltI hx1 hl)) ?_
    refine ss0 rfl rfl (Ys_store (i := 0) (s := 1) (B := some ⟨b, 0, none⟩) (T' := 3) (v := .int .i64 x) (vs := [.int .i64 x]) (k := (i1 : Int).toNat * 1) (cs' := ((out.set (i1 : Int).toNat x).flatMap encI)) hS2 k_sz_3_1 rfl rfl rfl rfl rfl rfl rfl (gi_fit0 encI_len hx1) (gi_set encI_len hx1 x rfl) rfl) ?_
    rintro _ w_1 ⟨rfl, hS3⟩
    refine rw_nil ?_
    refine cw_region ?_
    refine sq 12 rfl rfl (Y_move (v := .int .i64 (i1 : Int)) rfl (hf.get 4 2 rfl)) ?_
    refine sq 13 rfl rfl (Y_add (k := .i64) (a := (i1 : Int)) (b := 1) rfl rfl rfl) ?_
    refine sq 4 rfl rfl (Y_assign (v := .int .i64 (IntKind.i64.wrap ((i1 : Int) + 1))) rfl rfl) ?_
    refine rw_nil ?_
    obtain rfl := some_inj hb
    exact ⟨k_1, Nat.lt_succ_self _, i1 + 1, (out.set (i1 : Int).toNat x), (FF.cons (hf.get 0 0 rfl) (FF.cons (hf.get 3 1 rfl) (FF.cons (congrArg (Value.int .i64) (wr_succ hlt1 hN)) FF.nil))), (set_len _ _ _ hl), (hS3.sel [0] rfl rfl), (by omega), hL1⟩
  · skip
    obtain rfl : k_ = 0 := by have h := of_decide_eq_false hlt; omega
    refine cw_exit rfl ?_
    obtain rfl := some_inj hL
    refine cw_seq ?_
    refine cw_region ?_
    refine sq 21 rfl rfl (Y_move (v := .slice (some ⟨b, 0, none⟩) a.length a.length) rfl (hf.get 3 1 rfl)) ?_
    refine sq 2 rfl rfl (Y_assign (v := .slice (some ⟨b, 0, none⟩) a.length a.length) rfl rfl) ?_
    refine rw_nil ?_
    refine cw_ret ?_
    obtain rfl := some_inj hF1
    exact ret1 Try.results152 (v1 := .slice (some ⟨b, 0, none⟩) a.length a.length) (resAt_tmp rfl) ⟨some ⟨b, 0, none⟩, a.length, (sl_eqv hl), (ST.subR (R' := []) (hS2.sel [0] rfl rfl) (fun _ h => by cases h))⟩

theorem c_laws_toRouteStep (a : TRouteStep)  (w0 : World)  (hS : ST w0 [] w0 [] []) {r_ : TRouteStep} (hF : F_laws_toRouteStep a = some r_) :
    CV Try.prog 241 #[.agg #[.int .i64 a.Gate, .int .i64 a.A, .int .i64 a.B]] w0 (fun v w' => v = .agg #[.int .i64 r_.Gate, .int .i64 r_.A, .int .i64 r_.B] ∧ ST w0 [] w' [] []) := by
  unfold F_laws_toRouteStep at hF
  refine cv_of_cw 14 Try.func241 rfl Try.ntmps241 rfl ?_
  refine cw_seq ?_
  refine cw_region ?_
  refine ss 1 rfl rfl (Ys_box (T := 283) (v := .agg #[.int .i64 a.Gate, .int .i64 a.A, .int .i64 a.B]) (cs := [.int .i64 a.Gate, .int .i64 a.A, .int .i64 a.B]) (m := 3) hS rfl rfl rfl rfl) ?_
  rintro _ w_ ⟨b, rfl, hS1⟩
  refine ss 2 rfl rfl (Ys_alloc (T := 211) (cs := [.int .i64 0, .int .i64 0, .int .i64 0]) (m := 3) hS1 k_zero_211 rfl rfl rfl) ?_
  rintro _ w_1 ⟨b1, rfl, hS2⟩
  have hS2 : ST w0 [] _ [⟨some ⟨b, 0, none⟩, 283, [.int .i64 a.Gate, .int .i64 a.A, .int .i64 a.B], 3⟩, ⟨some ⟨b1, 0, none⟩, 211, [.int .i64 0, .int .i64 0, .int .i64 0], 3⟩] [] := hS2
  refine rw_nil ?_
  refine cw_seq ?_
  refine cw_region ?_
  refine ss 3 rfl rfl (Ys_alloc (T := 211) (cs := [.int .i64 0, .int .i64 0, .int .i64 0]) (m := 3) hS2 k_zero_211 rfl rfl rfl) ?_
  rintro _ w_2 ⟨b2, rfl, hS3⟩
  have hS3 : ST w0 [] _ [⟨some ⟨b, 0, none⟩, 283, [.int .i64 a.Gate, .int .i64 a.A, .int .i64 a.B], 3⟩, ⟨some ⟨b1, 0, none⟩, 211, [.int .i64 0, .int .i64 0, .int .i64 0], 3⟩, ⟨some ⟨b2, 0, none⟩, 211, [.int .i64 0, .int .i64 0, .int .i64 0], 3⟩] [] := hS3
  refine rw_nil ?_
  refine cw_seq ?_
  refine cw_region ?_
  refine sq 4 rfl rfl (Y_fieldAddr (B := some ⟨b, 0, none⟩) (i := 0) (s := 0) k_fd_283_0_0_3 k_sz_3_1 rfl rfl) ?_
  refine sq 5 rfl rfl (Y_load1 (B := some ⟨b, 0, none⟩) (i := 0) (cs := [.int .i64 a.Gate, .int .i64 a.A, .int .i64 a.B]) (v := .int .i64 a.Gate) k_sc_3 rfl rfl (hS3.cf (i := 0) rfl) rfl) ?_
  refine sq 6 rfl rfl (Y_fieldAddr (B := some ⟨b2, 0, none⟩) (i := 0) (s := 0) k_fd_211_0_0_3 k_sz_3_1 rfl rfl) ?_
  refine ss0 rfl rfl (Ys_store (i := 2) (s := 1) (B := some ⟨b2, 0, none⟩) (T' := 211) (v := .int .i64 a.Gate) (vs := [.int .i64 a.Gate]) (k := 0) (cs' := [.int .i64 a.Gate, .int .i64 0, .int .i64 0]) hS3 k_sz_3_1 rfl rfl rfl rfl rfl rfl rfl (Nat.le_of_ble_eq_true rfl) rfl rfl) ?_
  rintro _ w_3 ⟨rfl, hS4⟩
  have hS4 : ST w0 [] _ [⟨some ⟨b, 0, none⟩, 283, [.int .i64 a.Gate, .int .i64 a.A, .int .i64 a.B], 3⟩, ⟨some ⟨b1, 0, none⟩, 211, [.int .i64 0, .int .i64 0, .int .i64 0], 3⟩, ⟨some ⟨b2, 0, none⟩, 211, [.int .i64 a.Gate, .int .i64 0, .int .i64 0], 3⟩] [] := hS4
  refine rw_nil ?_
  refine cw_seq ?_
  refine cw_region ?_
  refine sq 7 rfl rfl (Y_fieldAddr (B := some ⟨b, 0, none⟩) (i := 0) (s := 0) k_fd_283_1_1_3 k_sz_3_1 rfl rfl) ?_
  refine sq 8 rfl rfl (Y_load1 (B := some ⟨b, 0, none⟩) (i := 1) (cs := [.int .i64 a.Gate, .int .i64 a.A, .int .i64 a.B]) (v := .int .i64 a.A) k_sc_3 rfl rfl (hS4.cf (i := 0) rfl) rfl) ?_
  refine sq 9 rfl rfl (Y_fieldAddr (B := some ⟨b2, 0, none⟩) (i := 0) (s := 0) k_fd_211_1_1_3 k_sz_3_1 rfl rfl) ?_
  refine ss0 rfl rfl (Ys_store (i := 2) (s := 1) (B := some ⟨b2, 0, none⟩) (T' := 211) (v := .int .i64 a.A) (vs := [.int .i64 a.A]) (k := 1) (cs' := [.int .i64 a.Gate, .int .i64 a.A, .int .i64 0]) hS4 k_sz_3_1 rfl rfl rfl rfl rfl rfl rfl (Nat.le_of_ble_eq_true rfl) rfl rfl) ?_
  rintro _ w_4 ⟨rfl, hS5⟩
  have hS5 : ST w0 [] _ [⟨some ⟨b, 0, none⟩, 283, [.int .i64 a.Gate, .int .i64 a.A, .int .i64 a.B], 3⟩, ⟨some ⟨b1, 0, none⟩, 211, [.int .i64 0, .int .i64 0, .int .i64 0], 3⟩, ⟨some ⟨b2, 0, none⟩, 211, [.int .i64 a.Gate, .int .i64 a.A, .int .i64 0], 3⟩] [] := hS5
  refine rw_nil ?_
  refine cw_seq ?_
  refine cw_region ?_
  refine sq 10 rfl rfl (Y_fieldAddr (B := some ⟨b, 0, none⟩) (i := 0) (s := 0) k_fd_283_2_2_3 k_sz_3_1 rfl rfl) ?_
  refine sq 11 rfl rfl (Y_load1 (B := some ⟨b, 0, none⟩) (i := 2) (cs := [.int .i64 a.Gate, .int .i64 a.A, .int .i64 a.B]) (v := .int .i64 a.B) k_sc_3 rfl rfl (hS5.cf (i := 0) rfl) rfl) ?_
  refine sq 12 rfl rfl (Y_fieldAddr (B := some ⟨b2, 0, none⟩) (i := 0) (s := 0) k_fd_211_2_2_3 k_sz_3_1 rfl rfl) ?_
  refine ss0 rfl rfl (Ys_store (i := 2) (s := 1) (B := some ⟨b2, 0, none⟩) (T' := 211) (v := .int .i64 a.B) (vs := [.int .i64 a.B]) (k := 2) (cs' := [.int .i64 a.Gate, .int .i64 a.A, .int .i64 a.B]) hS5 k_sz_3_1 rfl rfl rfl rfl rfl rfl rfl (Nat.le_of_ble_eq_true rfl) rfl rfl) ?_
  rintro _ w_5 ⟨rfl, hS6⟩
  have hS6 : ST w0 [] _ [⟨some ⟨b, 0, none⟩, 283, [.int .i64 a.Gate, .int .i64 a.A, .int .i64 a.B], 3⟩, ⟨some ⟨b1, 0, none⟩, 211, [.int .i64 0, .int .i64 0, .int .i64 0], 3⟩, ⟨some ⟨b2, 0, none⟩, 211, [.int .i64 a.Gate, .int .i64 a.A, .int .i64 a.B], 3⟩] [] := hS6
  refine rw_nil ?_
  refine cw_seq ?_
  refine cw_region ?_
  refine sq 13 rfl rfl (Y_loadA (B := some ⟨b2, 0, none⟩) (i := 0) (cs := [.int .i64 a.Gate, .int .i64 a.A, .int .i64 a.B]) (vs := [.int .i64 a.Gate, .int .i64 a.A, .int .i64 a.B]) k_ag_211 k_sz_211_3 rfl rfl (hS6.cf (i := 2) rfl) rfl rfl) ?_
  refine ss0 rfl rfl (Ys_store (i := 1) (s := 3) (B := some ⟨b1, 0, none⟩) (T' := 211) (v := .agg #[.int .i64 a.Gate, .int .i64 a.A, .int .i64 a.B]) (vs := [.int .i64 a.Gate, .int .i64 a.A, .int .i64 a.B]) (k := 0) (cs' := [.int .i64 a.Gate, .int .i64 a.A, .int .i64 a.B]) hS6 k_sz_211_3 rfl rfl rfl rfl rfl rfl rfl (Nat.le_of_ble_eq_true rfl) rfl rfl) ?_
  rintro _ w_6 ⟨rfl, hS7⟩
  have hS7 : ST w0 [] _ [⟨some ⟨b, 0, none⟩, 283, [.int .i64 a.Gate, .int .i64 a.A, .int .i64 a.B], 3⟩, ⟨some ⟨b1, 0, none⟩, 211, [.int .i64 a.Gate, .int .i64 a.A, .int .i64 a.B], 3⟩, ⟨some ⟨b2, 0, none⟩, 211, [.int .i64 a.Gate, .int .i64 a.A, .int .i64 a.B], 3⟩] [] := hS7
  refine rw_nil ?_
  refine cw_ret ?_
  obtain rfl := some_inj hF
  exact ret1 Try.results241 (v1 := .agg #[.int .i64 a.Gate, .int .i64 a.A, .int .i64 a.B]) (resAt_cellA (B := some ⟨b1, 0, none⟩) (i := 0) (cs := [.int .i64 a.Gate, .int .i64 a.A, .int .i64 a.B]) (vs := [.int .i64 a.Gate, .int .i64 a.A, .int .i64 a.B]) rfl k_ag_211 k_sz_211_3 (hS7.cf (i := 1) rfl) rfl rfl) ⟨rfl, (ST.subR (R' := []) (hS7.sel [] rfl rfl) (fun _ h => by cases h))⟩

theorem c_laws_toRouteStepS (a : List TRouteStep) (B : Option Addr) (c n : Nat) (w0 : World) (hn : a.length = n) (hS : ST w0 [] w0 [] [⟨B, (a.flatMap enc_RouteStep)⟩]) {r_ : List TRouteStep} (hF : F_laws_toRouteStepS a = some r_) :
    CV Try.prog 153 #[.slice B n c] w0 (fun v w' => ∃ (B1 : Option Addr) (c1 : Nat), v = .slice B1 r_.length c1 ∧ ST w0 [] w' [⟨B1, 211, (r_.flatMap enc_RouteStep), c1 * 3⟩] []) := by
  subst hn
  unfold F_laws_toRouteStepS at hF
  refine cv_of_cw 23 Try.func153 rfl Try.ntmps153 rfl ?_
  refine cw_seq ?_
  refine cw_region ?_
  refine sq 2 rfl rfl (Y_assign (v := .slice none 0 0) rfl rfl) ?_
  refine rw_nil ?_
  refine cw_seq ?_
  refine cw_region ?_
  refine sq 5 rfl rfl (Y_move (v := .slice B a.length c) rfl rfl) ?_
  refine sq 6 rfl rfl (Y_len (B := B) (m := a.length) (c := c) k_sl_90_283 rfl rfl) ?_
  obtain ⟨hmk, hF⟩ := chk_inv hF
  refine ss 7 rfl rfl (Ys_make (s := 3) (by' := 24) (nn := a.length) (a := (a.length : Int)) (b := (a.length : Int)) (cs := ((List.replicate a.length (TRouteStep.mk 0 0 0)).flatMap enc_RouteStep)) hS k_sl_106_211 k_sz_211_3 k_by_211_24 k_zero_211 rfl rfl rfl rfl hmk.1 rfl (by have := hmk; omega) (by have := hmk; omega) (by omega) (fm_rep (enc := enc_RouteStep) (d := (TRouteStep.mk 0 0 0)) rfl _)) ?_
  rintro _ w_ ⟨b, rfl, hS1⟩
  refine sq 3 rfl rfl (Y_assign (v := .slice (some ⟨b, 0, none⟩) a.length a.length) rfl rfl) ?_
  refine rw_nil ?_
  refine cw_seq ?_
  refine cw_seq ?_
  refine cw_region ?_
  refine sq 4 rfl rfl (Y_assign (v := .int .i64 0) rfl rfl) ?_
  refine rw_nil ?_
  obtain ⟨hN, hF⟩ := chk_inv hF
  obtain ⟨z, hz, hF1⟩ := bind_inv hF
  refine cw_block ?_
  refine cw_loop (fun k f w => ∃ (i1 : Nat) (out : List TRouteStep), FF f [(0, .slice B a.length c), (3, .slice (some ⟨b, 0, none⟩) a.length a.length), (4, .int .i64 (i1 : Int))] ∧ out.length = a.length ∧ ST w0 [] w [⟨some ⟨b, 0, none⟩, 211, (out.flatMap enc_RouteStep), a.length * 3⟩] [⟨B, (a.flatMap enc_RouteStep)⟩] ∧ i1 + k = a.length ∧ forN (F_laws_toRouteStepS_l1 a) k i1 out = some z) a.length ⟨0, (List.replicate a.length (TRouteStep.mk 0 0 0)), (FF.cons rfl (FF.cons rfl (FF.cons rfl FF.nil))), List.length_replicate, (hS1.sel [0] rfl rfl), Nat.zero_add _, hz⟩ ?_
  rintro k_ f w ⟨i1, out, hf, hl, hS2, hik, hL⟩
  refine cw_seq ?_
  refine cw_seq ?_
  refine cw_region ?_
  refine sq 8 rfl rfl (Y_move (v := .int .i64 (i1 : Int)) rfl (hf.get 4 2 rfl)) ?_
  refine sq 9 rfl rfl (Y_move (v := .slice B a.length c) rfl (hf.get 0 0 rfl)) ?_
  refine sq 10 rfl rfl (Y_len (B := B) (m := a.length) (c := c) k_sl_90_283 rfl rfl) ?_
  refine sq 11 rfl rfl (Y_lt (k := .i64) (a := (i1 : Int)) (b := (a.length : Int)) rfl rfl rfl) ?_
  refine rw_nil ?_
  refine cw_cond (b := (decide ((i1 : Int) < (a.length : Int)))) rfl (fun hlt => ?_) (fun hlt => ?_)
  · skip
    have hlt1 : i1 < a.length := by have h := of_decide_eq_true hlt; omega
    obtain ⟨k_1, rfl⟩ : ∃ k2, k_ = k2 + 1 := ⟨k_ - 1, by omega⟩
    obtain ⟨y, hb, hL1⟩ := forN_go hL
    unfold F_laws_toRouteStepS_l1 at hb
    refine cw_skip ?_
    refine cw_seq ?_
    refine cw_block ?_
    refine cw_region ?_
    refine sq 14 rfl rfl (Y_move (v := .slice (some ⟨b, 0, none⟩) a.length a.length) rfl (hf.get 3 1 rfl)) ?_
    refine sq 15 rfl rfl (Y_move (v := .int .i64 (i1 : Int)) rfl (hf.get 4 2 rfl)) ?_
    refine sq 16 rfl rfl (Y_move (v := .slice B a.length c) rfl (hf.get 0 0 rfl)) ?_
    refine sq 17 rfl rfl (Y_move (v := .int .i64 (i1 : Int)) rfl (hf.get 4 2 rfl)) ?_
    obtain ⟨x, hx, hb⟩ := bind_inv hb
    refine sq 18 rfl rfl (Y_index (B := B) (m := a.length) (c := c) (k := .i64) (i := (i1 : Int)) k_sl_90_283 k_sz_283_3 rfl rfl rfl (gi_isSome enc_RouteStep_len rfl (hS2.rf (i := 0) rfl) hx) (getI_nn hx) (getI_ltI hx rfl)) ?_
    refine sq 19 rfl rfl (Y_loadA (B := B) (i := (i1 : Int).toNat * 3) (cs := (a.flatMap enc_RouteStep)) (vs := [.int .i64 x.Gate, .int .i64 x.A, .int .i64 x.B]) k_ag_283 k_sz_283_3 rfl rfl (hS2.rf (i := 0) rfl) (enc_RouteStep_len x) (gi_seg enc_RouteStep_len hx)) ?_
    obtain ⟨r_1, hc, hb⟩ := bind_inv hb
    refine sc 20 rfl rfl (Yc_func (g := 241) (vs := [.agg #[.int .i64 x.Gate, .int .i64 x.A, .int .i64 x.B]]) k_call_241 rfl (mc rfl mn) (c_laws_toRouteStep x _  (hS2.inn0 [] rfl) hc)) ?_
    rintro _ w_1 ⟨rfl, hd⟩
    have hS3 := hS2.out00 hd
    obtain ⟨x1, hx1, hb⟩ := bind_inv hb
    refine sq 21 rfl rfl (Y_index (B := some ⟨b, 0, none⟩) (m := a.length) (c := a.length) (k := .i64) (i := (i1 : Int)) k_sl_106_211 k_sz_211_3 rfl rfl rfl (gi_isSome enc_RouteStep_len rfl (hS3.cf (i := 0) rfl) hx1) (getI_nn hx1) (getI_ltI hx1 hl)) ?_
    refine ss0 rfl rfl (Ys_store (i := 0) (s := 3) (B := some ⟨b, 0, none⟩) (T' := 211) (v := .agg #[.int .i64 r_1.Gate, .int .i64 r_1.A, .int .i64 r_1.B]) (vs := [.int .i64 r_1.Gate, .int .i64 r_1.A, .int .i64 r_1.B]) (k := (i1 : Int).toNat * 3) (cs' := ((out.set (i1 : Int).toNat r_1).flatMap enc_RouteStep)) hS3 k_sz_211_3 rfl rfl rfl rfl rfl rfl rfl (gi_fit0 enc_RouteStep_len hx1) (gi_set enc_RouteStep_len hx1 r_1 rfl) rfl) ?_
    rintro _ w_2 ⟨rfl, hS4⟩
    refine rw_nil ?_
    refine cw_region ?_
    refine sq 12 rfl rfl (Y_move (v := .int .i64 (i1 : Int)) rfl (hf.get 4 2 rfl)) ?_
    refine sq 13 rfl rfl (Y_add (k := .i64) (a := (i1 : Int)) (b := 1) rfl rfl rfl) ?_
    refine sq 4 rfl rfl (Y_assign (v := .int .i64 (IntKind.i64.wrap ((i1 : Int) + 1))) rfl rfl) ?_
    refine rw_nil ?_
    obtain rfl := some_inj hb
    exact ⟨k_1, Nat.lt_succ_self _, i1 + 1, (out.set (i1 : Int).toNat r_1), (FF.cons (hf.get 0 0 rfl) (FF.cons (hf.get 3 1 rfl) (FF.cons (congrArg (Value.int .i64) (wr_succ hlt1 hN)) FF.nil))), (set_len _ _ _ hl), (hS4.sel [0] rfl rfl), (by omega), hL1⟩
  · skip
    obtain rfl : k_ = 0 := by have h := of_decide_eq_false hlt; omega
    refine cw_exit rfl ?_
    obtain rfl := some_inj hL
    refine cw_seq ?_
    refine cw_region ?_
    refine sq 22 rfl rfl (Y_move (v := .slice (some ⟨b, 0, none⟩) a.length a.length) rfl (hf.get 3 1 rfl)) ?_
    refine sq 2 rfl rfl (Y_assign (v := .slice (some ⟨b, 0, none⟩) a.length a.length) rfl rfl) ?_
    refine rw_nil ?_
    refine cw_ret ?_
    obtain rfl := some_inj hF1
    exact ret1 Try.results153 (v1 := .slice (some ⟨b, 0, none⟩) a.length a.length) (resAt_tmp rfl) ⟨some ⟨b, 0, none⟩, a.length, (sl_eqv hl), (ST.subR (R' := []) (hS2.sel [0] rfl rfl) (fun _ h => by cases h))⟩

theorem c_laws_toRoute (a : TRoute) (B : Option Addr) (c n : Nat) (B1 : Option Addr) (c1 n1 : Nat) (w0 : World) (hn : a.Start.length = n) (hn1 : a.Steps.length = n1) (hS : ST w0 [] w0 [] [⟨B, (a.Start.flatMap encI)⟩, ⟨B1, (a.Steps.flatMap enc_RouteStep)⟩]) {r_ : TRoute} (hF : F_laws_toRoute a = some r_) :
    CV Try.prog 57 #[.agg #[.slice B n c, .slice B1 n1 c1]] w0 (fun v w' => ∃ (B2 : Option Addr) (c2 : Nat) (B3 : Option Addr) (c3 : Nat), v = .agg #[.slice B2 r_.Start.length c2, .slice B3 r_.Steps.length c3] ∧ ST w0 [] w' [⟨B2, 3, (r_.Start.flatMap encI), c2 * 1⟩, ⟨B3, 211, (r_.Steps.flatMap enc_RouteStep), c3 * 3⟩] []) := by
  subst hn
  subst hn1
  unfold F_laws_toRoute at hF
  refine cv_of_cw 13 Try.func57 rfl Try.ntmps57 rfl ?_
  refine cw_seq ?_
  refine cw_region ?_
  refine ss 1 rfl rfl (Ys_box (T := 92) (v := .agg #[.slice B a.Start.length c, .slice B1 a.Steps.length c1]) (cs := [.slice B a.Start.length c, .slice B1 a.Steps.length c1]) (m := 2) hS rfl rfl rfl rfl) ?_
  rintro _ w_ ⟨b, rfl, hS1⟩
  refine ss 2 rfl rfl (Ys_alloc (T := 108) (cs := [.slice none 0 0, .slice none 0 0]) (m := 2) hS1 k_zero_108 rfl rfl rfl) ?_
  rintro _ w_1 ⟨b1, rfl, hS2⟩
  have hS2 : ST w0 [] _ [⟨some ⟨b, 0, none⟩, 92, [.slice B a.Start.length c, .slice B1 a.Steps.length c1], 2⟩, ⟨some ⟨b1, 0, none⟩, 108, [.slice none 0 0, .slice none 0 0], 2⟩] [⟨B, (a.Start.flatMap encI)⟩, ⟨B1, (a.Steps.flatMap enc_RouteStep)⟩] := hS2
  refine rw_nil ?_
  refine cw_seq ?_
  refine cw_region ?_
  refine ss 3 rfl rfl (Ys_alloc (T := 108) (cs := [.slice none 0 0, .slice none 0 0]) (m := 2) hS2 k_zero_108 rfl rfl rfl) ?_
  rintro _ w_2 ⟨b2, rfl, hS3⟩
  have hS3 : ST w0 [] _ [⟨some ⟨b, 0, none⟩, 92, [.slice B a.Start.length c, .slice B1 a.Steps.length c1], 2⟩, ⟨some ⟨b1, 0, none⟩, 108, [.slice none 0 0, .slice none 0 0], 2⟩, ⟨some ⟨b2, 0, none⟩, 108, [.slice none 0 0, .slice none 0 0], 2⟩] [⟨B, (a.Start.flatMap encI)⟩, ⟨B1, (a.Steps.flatMap enc_RouteStep)⟩] := hS3
  refine rw_nil ?_
  refine cw_seq ?_
  refine cw_region ?_
  refine sq 4 rfl rfl (Y_fieldAddr (B := some ⟨b, 0, none⟩) (i := 0) (s := 0) k_fd_92_0_0_59 k_sz_59_1 rfl rfl) ?_
  refine sq 5 rfl rfl (Y_load1 (B := some ⟨b, 0, none⟩) (i := 0) (cs := [.slice B a.Start.length c, .slice B1 a.Steps.length c1]) (v := .slice B a.Start.length c) k_sc_59 rfl rfl (hS3.cf (i := 0) rfl) rfl) ?_
  obtain ⟨r_1, hc, hF⟩ := bind_inv hF
  refine sc 6 rfl rfl (Yc_func (g := 152) (vs := [.slice B a.Start.length c]) k_call_152 rfl (mc rfl mn) (c_laws_toIntS a.Start B c a.Start.length _ rfl (hS3.inn0 [(true, 0)] rfl) hc)) ?_
  rintro _ w_3 ⟨B4, c4, rfl, hd⟩
  have hS4 := hS3.out0 hd
  have hS4 : ST w0 [] _ [⟨some ⟨b, 0, none⟩, 92, [.slice B a.Start.length c, .slice B1 a.Steps.length c1], 2⟩, ⟨some ⟨b1, 0, none⟩, 108, [.slice none 0 0, .slice none 0 0], 2⟩, ⟨some ⟨b2, 0, none⟩, 108, [.slice none 0 0, .slice none 0 0], 2⟩, ⟨B4, 3, (r_1.flatMap encI), c4 * 1⟩] [⟨B, (a.Start.flatMap encI)⟩, ⟨B1, (a.Steps.flatMap enc_RouteStep)⟩] := hS4
  refine sq 7 rfl rfl (Y_fieldAddr (B := some ⟨b2, 0, none⟩) (i := 0) (s := 0) k_fd_108_0_0_59 k_sz_59_1 rfl rfl) ?_
  refine ss0 rfl rfl (Ys_store (i := 2) (s := 1) (B := some ⟨b2, 0, none⟩) (T' := 108) (v := .slice B4 r_1.length c4) (vs := [.slice B4 r_1.length c4]) (k := 0) (cs' := [.slice B4 r_1.length c4, .slice none 0 0]) hS4 k_sz_59_1 rfl rfl rfl rfl rfl rfl rfl (Nat.le_of_ble_eq_true rfl) rfl rfl) ?_
  rintro _ w_4 ⟨rfl, hS5⟩
  have hS5 : ST w0 [] _ [⟨some ⟨b, 0, none⟩, 92, [.slice B a.Start.length c, .slice B1 a.Steps.length c1], 2⟩, ⟨some ⟨b1, 0, none⟩, 108, [.slice none 0 0, .slice none 0 0], 2⟩, ⟨some ⟨b2, 0, none⟩, 108, [.slice B4 r_1.length c4, .slice none 0 0], 2⟩, ⟨B4, 3, (r_1.flatMap encI), c4 * 1⟩] [⟨B, (a.Start.flatMap encI)⟩, ⟨B1, (a.Steps.flatMap enc_RouteStep)⟩] := hS5
  refine rw_nil ?_
  refine cw_seq ?_
  refine cw_region ?_
  refine sq 8 rfl rfl (Y_fieldAddr (B := some ⟨b, 0, none⟩) (i := 0) (s := 0) k_fd_92_1_1_90 k_sz_90_1 rfl rfl) ?_
  refine sq 9 rfl rfl (Y_load1 (B := some ⟨b, 0, none⟩) (i := 1) (cs := [.slice B a.Start.length c, .slice B1 a.Steps.length c1]) (v := .slice B1 a.Steps.length c1) k_sc_90 rfl rfl (hS5.cf (i := 0) rfl) rfl) ?_
  obtain ⟨r_2, hc1, hF⟩ := bind_inv hF
  refine sc 10 rfl rfl (Yc_func (g := 153) (vs := [.slice B1 a.Steps.length c1]) k_call_153 rfl (mc rfl mn) (c_laws_toRouteStepS a.Steps B1 c1 a.Steps.length _ rfl (hS5.inn0 [(true, 1)] rfl) hc1)) ?_
  rintro _ w_5 ⟨B5, c5, rfl, hd1⟩
  have hS6 := hS5.out0 hd1
  have hS6 : ST w0 [] _ [⟨some ⟨b, 0, none⟩, 92, [.slice B a.Start.length c, .slice B1 a.Steps.length c1], 2⟩, ⟨some ⟨b1, 0, none⟩, 108, [.slice none 0 0, .slice none 0 0], 2⟩, ⟨some ⟨b2, 0, none⟩, 108, [.slice B4 r_1.length c4, .slice none 0 0], 2⟩, ⟨B4, 3, (r_1.flatMap encI), c4 * 1⟩, ⟨B5, 211, (r_2.flatMap enc_RouteStep), c5 * 3⟩] [⟨B, (a.Start.flatMap encI)⟩, ⟨B1, (a.Steps.flatMap enc_RouteStep)⟩] := hS6
  refine sq 11 rfl rfl (Y_fieldAddr (B := some ⟨b2, 0, none⟩) (i := 0) (s := 0) k_fd_108_1_1_106 k_sz_106_1 rfl rfl) ?_
  refine ss0 rfl rfl (Ys_store (i := 2) (s := 1) (B := some ⟨b2, 0, none⟩) (T' := 108) (v := .slice B5 r_2.length c5) (vs := [.slice B5 r_2.length c5]) (k := 1) (cs' := [.slice B4 r_1.length c4, .slice B5 r_2.length c5]) hS6 k_sz_106_1 rfl rfl rfl rfl rfl rfl rfl (Nat.le_of_ble_eq_true rfl) rfl rfl) ?_
  rintro _ w_6 ⟨rfl, hS7⟩
  have hS7 : ST w0 [] _ [⟨some ⟨b, 0, none⟩, 92, [.slice B a.Start.length c, .slice B1 a.Steps.length c1], 2⟩, ⟨some ⟨b1, 0, none⟩, 108, [.slice none 0 0, .slice none 0 0], 2⟩, ⟨some ⟨b2, 0, none⟩, 108, [.slice B4 r_1.length c4, .slice B5 r_2.length c5], 2⟩, ⟨B4, 3, (r_1.flatMap encI), c4 * 1⟩, ⟨B5, 211, (r_2.flatMap enc_RouteStep), c5 * 3⟩] [⟨B, (a.Start.flatMap encI)⟩, ⟨B1, (a.Steps.flatMap enc_RouteStep)⟩] := hS7
  refine rw_nil ?_
  refine cw_seq ?_
  refine cw_region ?_
  refine sq 12 rfl rfl (Y_loadA (B := some ⟨b2, 0, none⟩) (i := 0) (cs := [.slice B4 r_1.length c4, .slice B5 r_2.length c5]) (vs := [.slice B4 r_1.length c4, .slice B5 r_2.length c5]) k_ag_108 k_sz_108_2 rfl rfl (hS7.cf (i := 2) rfl) rfl rfl) ?_
  refine ss0 rfl rfl (Ys_store (i := 1) (s := 2) (B := some ⟨b1, 0, none⟩) (T' := 108) (v := .agg #[.slice B4 r_1.length c4, .slice B5 r_2.length c5]) (vs := [.slice B4 r_1.length c4, .slice B5 r_2.length c5]) (k := 0) (cs' := [.slice B4 r_1.length c4, .slice B5 r_2.length c5]) hS7 k_sz_108_2 rfl rfl rfl rfl rfl rfl rfl (Nat.le_of_ble_eq_true rfl) rfl rfl) ?_
  rintro _ w_7 ⟨rfl, hS8⟩
  have hS8 : ST w0 [] _ [⟨some ⟨b, 0, none⟩, 92, [.slice B a.Start.length c, .slice B1 a.Steps.length c1], 2⟩, ⟨some ⟨b1, 0, none⟩, 108, [.slice B4 r_1.length c4, .slice B5 r_2.length c5], 2⟩, ⟨some ⟨b2, 0, none⟩, 108, [.slice B4 r_1.length c4, .slice B5 r_2.length c5], 2⟩, ⟨B4, 3, (r_1.flatMap encI), c4 * 1⟩, ⟨B5, 211, (r_2.flatMap enc_RouteStep), c5 * 3⟩] [⟨B, (a.Start.flatMap encI)⟩, ⟨B1, (a.Steps.flatMap enc_RouteStep)⟩] := hS8
  refine rw_nil ?_
  refine cw_ret ?_
  obtain rfl := some_inj hF
  exact ret1 Try.results57 (v1 := .agg #[.slice B4 r_1.length c4, .slice B5 r_2.length c5]) (resAt_cellA (B := some ⟨b1, 0, none⟩) (i := 0) (cs := [.slice B4 r_1.length c4, .slice B5 r_2.length c5]) (vs := [.slice B4 r_1.length c4, .slice B5 r_2.length c5]) rfl k_ag_108 k_sz_108_2 (hS8.cf (i := 1) rfl) rfl rfl) ⟨B4, c4, B5, c5, rfl, (ST.subR (R' := []) (hS8.sel [3, 4] rfl rfl) (fun _ h => by cases h))⟩

theorem c_laws_eqEdge (a : TEdge) (b : TEdge)  (w0 : World)  (hS : ST w0 [] w0 [] []) {r_ : Bool} (hF : F_laws_eqEdge a b = some r_) :
    CV Try.prog 246 #[.agg #[.int .i64 a.A, .int .i64 a.B], .agg #[.int .i64 b.A, .int .i64 b.B]] w0 (fun v w' => v = .bool r_ ∧ ST w0 [] w' [] []) := by
  unfold F_laws_eqEdge at hF
  refine cv_of_cw 15 Try.func246 rfl Try.ntmps246 rfl ?_
  refine cw_seq ?_
  refine cw_region ?_
  refine ss 2 rfl rfl (Ys_box (T := 277) (v := .agg #[.int .i64 a.A, .int .i64 a.B]) (cs := [.int .i64 a.A, .int .i64 a.B]) (m := 2) hS rfl rfl rfl rfl) ?_
  rintro _ w_ ⟨b1, rfl, hS1⟩
  refine ss 3 rfl rfl (Ys_box (T := 277) (v := .agg #[.int .i64 b.A, .int .i64 b.B]) (cs := [.int .i64 b.A, .int .i64 b.B]) (m := 2) hS1 rfl rfl rfl rfl) ?_
  rintro _ w_1 ⟨b2, rfl, hS2⟩
  have hS2 : ST w0 [] _ [⟨some ⟨b1, 0, none⟩, 277, [.int .i64 a.A, .int .i64 a.B], 2⟩, ⟨some ⟨b2, 0, none⟩, 277, [.int .i64 b.A, .int .i64 b.B], 2⟩] [] := hS2
  refine sq 4 rfl rfl (Y_assign (v := .bool false) rfl rfl) ?_
  refine rw_nil ?_
  refine cw_seq ?_
  refine cw_seq ?_
  refine cw_region ?_
  refine sq 5 rfl rfl (Y_fieldAddr (B := some ⟨b1, 0, none⟩) (i := 0) (s := 0) k_fd_277_0_0_3 k_sz_3_1 rfl rfl) ?_
  refine sq 6 rfl rfl (Y_load1 (B := some ⟨b1, 0, none⟩) (i := 0) (cs := [.int .i64 a.A, .int .i64 a.B]) (v := .int .i64 a.A) k_sc_3 rfl rfl (hS2.cf (i := 0) rfl) rfl) ?_
  refine sq 7 rfl rfl (Y_fieldAddr (B := some ⟨b2, 0, none⟩) (i := 0) (s := 0) k_fd_277_0_0_3 k_sz_3_1 rfl rfl) ?_
  refine sq 8 rfl rfl (Y_load1 (B := some ⟨b2, 0, none⟩) (i := 0) (cs := [.int .i64 b.A, .int .i64 b.B]) (v := .int .i64 b.A) k_sc_3 rfl rfl (hS2.cf (i := 1) rfl) rfl) ?_
  refine sq 9 rfl rfl (Y_ne (k := .i64) (a := a.A) (b := b.A) rfl rfl rfl) ?_
  refine rw_nil ?_
  refine cw_cond (b := (a.A != b.A)) rfl (fun hb => ?_) (fun hb => ?_)
  · skip
    have hF1 := ct hF hb
    refine cw_seq ?_
    refine cw_region ?_
    refine sq 4 rfl rfl (Y_assign (v := .bool false) rfl rfl) ?_
    refine rw_nil ?_
    refine cw_ret ?_
    obtain rfl := some_inj hF1
    exact ret1 Try.results246 (v1 := .bool false) (resAt_tmp rfl) ⟨rfl, (ST.subR (R' := []) (hS2.sel [] rfl rfl) (fun _ h => by cases h))⟩
  · skip
    have hF2 := cf' hF hb
    refine cw_skip ?_
    refine cw_seq ?_
    refine cw_seq ?_
    refine cw_region ?_
    refine sq 10 rfl rfl (Y_fieldAddr (B := some ⟨b1, 0, none⟩) (i := 0) (s := 0) k_fd_277_1_1_3 k_sz_3_1 rfl rfl) ?_
    refine sq 11 rfl rfl (Y_load1 (B := some ⟨b1, 0, none⟩) (i := 1) (cs := [.int .i64 a.A, .int .i64 a.B]) (v := .int .i64 a.B) k_sc_3 rfl rfl (hS2.cf (i := 0) rfl) rfl) ?_
    refine sq 12 rfl rfl (Y_fieldAddr (B := some ⟨b2, 0, none⟩) (i := 0) (s := 0) k_fd_277_1_1_3 k_sz_3_1 rfl rfl) ?_
    refine sq 13 rfl rfl (Y_load1 (B := some ⟨b2, 0, none⟩) (i := 1) (cs := [.int .i64 b.A, .int .i64 b.B]) (v := .int .i64 b.B) k_sc_3 rfl rfl (hS2.cf (i := 1) rfl) rfl) ?_
    refine sq 14 rfl rfl (Y_ne (k := .i64) (a := a.B) (b := b.B) rfl rfl rfl) ?_
    refine rw_nil ?_
    refine cw_cond (b := (a.B != b.B)) rfl (fun hb1 => ?_) (fun hb1 => ?_)
    · skip
      have hF3 := ct hF2 hb1
      refine cw_seq ?_
      refine cw_region ?_
      refine sq 4 rfl rfl (Y_assign (v := .bool false) rfl rfl) ?_
      refine rw_nil ?_
      refine cw_ret ?_
      obtain rfl := some_inj hF3
      exact ret1 Try.results246 (v1 := .bool false) (resAt_tmp rfl) ⟨rfl, (ST.subR (R' := []) (hS2.sel [] rfl rfl) (fun _ h => by cases h))⟩
    · skip
      have hF4 := cf' hF2 hb1
      refine cw_skip ?_
      refine cw_seq ?_
      refine cw_region ?_
      refine sq 4 rfl rfl (Y_assign (v := .bool true) rfl rfl) ?_
      refine rw_nil ?_
      refine cw_ret ?_
      obtain rfl := some_inj hF4
      exact ret1 Try.results246 (v1 := .bool true) (resAt_tmp rfl) ⟨rfl, (ST.subR (R' := []) (hS2.sel [] rfl rfl) (fun _ h => by cases h))⟩

theorem c_laws_eqEdgeS (a : List TEdge) (b : List TEdge) (B : Option Addr) (c n : Nat) (B1 : Option Addr) (c1 n1 : Nat) (w0 : World) (hn : a.length = n) (hn1 : b.length = n1) (hS : ST w0 [] w0 [] [⟨B, (a.flatMap enc_Edge)⟩, ⟨B1, (b.flatMap enc_Edge)⟩]) {r_ : Bool} (hF : F_laws_eqEdgeS a b = some r_) :
    CV Try.prog 156 #[.slice B n c, .slice B1 n1 c1] w0 (fun v w' => v = .bool r_ ∧ ST w0 [] w' [] []) := by
  subst hn
  subst hn1
  unfold F_laws_eqEdgeS at hF
  refine cv_of_cw 27 Try.func156 rfl Try.ntmps156 rfl ?_
  refine cw_seq ?_
  refine cw_region ?_
  refine sq 4 rfl rfl (Y_assign (v := .bool false) rfl rfl) ?_
  refine rw_nil ?_
  refine cw_seq ?_
  refine cw_seq ?_
  refine cw_region ?_
  refine sq 6 rfl rfl (Y_move (v := .slice B a.length c) rfl rfl) ?_
  refine sq 7 rfl rfl (Y_len (B := B) (m := a.length) (c := c) k_sl_98_277 rfl rfl) ?_
  refine sq 8 rfl rfl (Y_move (v := .slice B1 b.length c1) rfl rfl) ?_
  refine sq 9 rfl rfl (Y_len (B := B1) (m := b.length) (c := c1) k_sl_98_277 rfl rfl) ?_
  refine sq 10 rfl rfl (Y_ne (k := .i64) (a := (a.length : Int)) (b := (b.length : Int)) rfl rfl rfl) ?_
  refine rw_nil ?_
  refine cw_cond (b := ((a.length : Int) != (b.length : Int))) rfl (fun hb => ?_) (fun hb => ?_)
  · skip
    have hF1 := ct hF hb
    refine cw_seq ?_
    refine cw_region ?_
    refine sq 4 rfl rfl (Y_assign (v := .bool false) rfl rfl) ?_
    refine rw_nil ?_
    refine cw_ret ?_
    obtain rfl := some_inj hF1
    exact ret1 Try.results156 (v1 := .bool false) (resAt_tmp rfl) ⟨rfl, (ST.subR (R' := []) (hS.sel [] rfl rfl) (fun _ h => by cases h))⟩
  · skip
    have hF2 := cf' hF hb
    refine cw_skip ?_
    refine cw_seq ?_
    refine cw_seq ?_
    refine cw_region ?_
    refine sq 5 rfl rfl (Y_assign (v := .int .i64 0) rfl rfl) ?_
    refine rw_nil ?_
    obtain ⟨hN, hF2⟩ := chk_inv hF2
    obtain ⟨z, hz, hF3⟩ := bind_inv hF2
    refine cw_block ?_
    refine cw_loop (fun k f w => ∃ (i1 : Nat), FF f [(0, .slice B a.length c), (1, .slice B1 b.length c1), (5, .int .i64 (i1 : Int))] ∧ ST w0 [] w [] [⟨B, (a.flatMap enc_Edge)⟩, ⟨B1, (b.flatMap enc_Edge)⟩] ∧ i1 + k = a.length ∧ forX (F_laws_eqEdgeS_l1 a b) k i1 () = some z) a.length ⟨0, (FF.cons rfl (FF.cons rfl (FF.cons rfl FF.nil))), (hS.sel [] rfl rfl), Nat.zero_add _, hz⟩ ?_
    rintro k_ f w ⟨i1, hf, hS1, hik, hL⟩
    refine cw_seq ?_
    refine cw_seq ?_
    refine cw_region ?_
    refine sq 11 rfl rfl (Y_move (v := .int .i64 (i1 : Int)) rfl (hf.get 5 2 rfl)) ?_
    refine sq 12 rfl rfl (Y_move (v := .slice B a.length c) rfl (hf.get 0 0 rfl)) ?_
    refine sq 13 rfl rfl (Y_len (B := B) (m := a.length) (c := c) k_sl_98_277 rfl rfl) ?_
    refine sq 14 rfl rfl (Y_lt (k := .i64) (a := (i1 : Int)) (b := (a.length : Int)) rfl rfl rfl) ?_
    refine rw_nil ?_
    refine cw_cond (b := (decide ((i1 : Int) < (a.length : Int)))) rfl (fun hlt => ?_) (fun hlt => ?_)
    · skip
      have hlt1 : i1 < a.length := by have h := of_decide_eq_true hlt; omega
      obtain ⟨k_1, rfl⟩ : ∃ k2, k_ = k2 + 1 := ⟨k_ - 1, by omega⟩
      obtain ⟨y, hb1, hL1⟩ := forX_go hL
      unfold F_laws_eqEdgeS_l1 at hb1
      refine cw_skip ?_
      refine cw_seq ?_
      refine cw_block ?_
      refine cw_seq ?_
      obtain ⟨x, hx, hb1⟩ := bind_inv hb1
      obtain ⟨x1, hx1, hb1⟩ := bind_inv hb1
      obtain ⟨r_1, hc, hb1⟩ := bind_inv hb1
      refine ra_start (ST.sel hS1 [] rfl rfl).fn (by kernel_rfl) ?_
      have hS3 := hS1.drew
      refine ra_q 0 17 (v := .slice B a.length c) rfl rfl rfl (by kernel_rfl) (by kernel_rfl) (by kernel_rfl) (ST.sel hS3 [] rfl rfl) (fun w' hw' => (Y_move (v := .slice B a.length c) rfl (hf.get 0 0 rfl))) ?_
      refine ra_q 1 18 (v := .int .i64 (i1 : Int)) rfl rfl rfl (by kernel_rfl) (by kernel_rfl) (by kernel_rfl) (ST.sel hS3 [] rfl rfl) (fun w' hw' => (Y_move (v := .int .i64 (i1 : Int)) rfl (hf.get 5 2 rfl))) ?_
      refine ra_q 2 19 (v := pt B ((i1 : Int).toNat * 2)) rfl rfl rfl (by kernel_rfl) (by kernel_rfl) (by kernel_rfl) (ST.sel hS3 [] rfl rfl) (fun w' hw' => (Y_index (B := B) (m := a.length) (c := c) (k := .i64) (i := (i1 : Int)) k_sl_98_277 k_sz_277_2 rfl rfl rfl (gi_isSome enc_Edge_len rfl (ST.rf hw' (i := 0) rfl) hx) (getI_nn hx) (getI_ltI hx rfl))) ?_
      refine ra_q 3 20 (v := .agg #[.int .i64 x.A, .int .i64 x.B]) rfl rfl rfl (by kernel_rfl) (by kernel_rfl) (by kernel_rfl) (ST.sel hS3 [] rfl rfl) (fun w' hw' => (Y_loadA (B := B) (i := (i1 : Int).toNat * 2) (cs := (a.flatMap enc_Edge)) (vs := [.int .i64 x.A, .int .i64 x.B]) k_ag_277 k_sz_277_2 rfl rfl (ST.rf hw' (i := 0) rfl) (enc_Edge_len x) (gi_seg enc_Edge_len hx))) ?_
      refine ra_q 4 21 (v := .slice B1 b.length c1) rfl rfl rfl (by kernel_rfl) (by kernel_rfl) (by kernel_rfl) (ST.sel hS3 [] rfl rfl) (fun w' hw' => (Y_move (v := .slice B1 b.length c1) rfl (hf.get 1 1 rfl))) ?_
      refine ra_q 5 22 (v := .int .i64 (i1 : Int)) rfl rfl rfl (by kernel_rfl) (by kernel_rfl) (by kernel_rfl) (ST.sel hS3 [] rfl rfl) (fun w' hw' => (Y_move (v := .int .i64 (i1 : Int)) rfl (hf.get 5 2 rfl))) ?_
      refine ra_q 6 23 (v := pt B1 ((i1 : Int).toNat * 2)) rfl rfl rfl (by kernel_rfl) (by kernel_rfl) (by kernel_rfl) (ST.sel hS3 [] rfl rfl) (fun w' hw' => (Y_index (B := B1) (m := b.length) (c := c1) (k := .i64) (i := (i1 : Int)) k_sl_98_277 k_sz_277_2 rfl rfl rfl (gi_isSome enc_Edge_len rfl (ST.rf hw' (i := 1) rfl) hx1) (getI_nn hx1) (getI_ltI hx1 rfl))) ?_
      refine ra_q 7 24 (v := .agg #[.int .i64 x1.A, .int .i64 x1.B]) rfl rfl rfl (by kernel_rfl) (by kernel_rfl) (by kernel_rfl) (ST.sel hS3 [] rfl rfl) (fun w' hw' => (Y_loadA (B := B1) (i := (i1 : Int).toNat * 2) (cs := (b.flatMap enc_Edge)) (vs := [.int .i64 x1.A, .int .i64 x1.B]) k_ag_277 k_sz_277_2 rfl rfl (ST.rf hw' (i := 1) rfl) (enc_Edge_len x1) (gi_seg enc_Edge_len hx1))) ?_
      refine ra_all (rs := [8]) (by kernel_rfl) rfl ?_
      refine ra_c 25 (i := 8) rfl rfl rfl (Yc_func (g := 246) (vs := [.agg #[.int .i64 x.A, .int .i64 x.B], .agg #[.int .i64 x1.A, .int .i64 x1.B]]) k_call_246 rfl (mc rfl (mc rfl mn)) (c_laws_eqEdge x x1 _  (hS3.inn0 [] rfl) hc)) ?_ ?_
      · rintro _ w_ ⟨rfl, hd⟩
        have hS4 := hS3.out00 hd
        refine ⟨(ST.sel hS4 [] rfl rfl), ?_⟩
        refine ra_q 9 26 (v := .bool (!r_1)) rfl rfl rfl (by kernel_rfl) (by kernel_rfl) (by kernel_rfl) (ST.sel hS4 [] rfl rfl) (fun w' hw' => (Y_not (p := r_1) rfl rfl)) ?_
        refine ra_done (by kernel_rfl) ?_
        refine cw_cond (b := (!r_1)) rfl (fun hb2 => ?_) (fun hb2 => ?_)
        · skip
          have hF4 := ct hb1 hb2
          refine cw_seq ?_
          refine cw_region ?_
          refine sq 4 rfl rfl (Y_assign (v := .bool false) rfl rfl) ?_
          refine rw_nil ?_
          refine cw_ret ?_
          obtain rfl := some_inj hF4
          obtain rfl := some_inj hL1
          obtain rfl := some_inj hF3
          exact ret1 Try.results156 (v1 := .bool false) (resAt_tmp rfl) ⟨rfl, (ST.subR (R' := []) (hS4.sel [] rfl rfl) (fun _ h => by cases h))⟩
        · skip
          have hF5 := cf' hb1 hb2
          refine cw_skip ?_
          refine cw_region ?_
          refine sq 15 rfl rfl (Y_move (v := .int .i64 (i1 : Int)) rfl (hf.get 5 2 rfl)) ?_
          refine sq 16 rfl rfl (Y_add (k := .i64) (a := (i1 : Int)) (b := 1) rfl rfl rfl) ?_
          refine sq 5 rfl rfl (Y_assign (v := .int .i64 (IntKind.i64.wrap ((i1 : Int) + 1))) rfl rfl) ?_
          refine rw_nil ?_
          obtain rfl := some_inj hF5
          exact ⟨k_1, Nat.lt_succ_self _, i1 + 1, (FF.cons (hf.get 0 0 rfl) (FF.cons (hf.get 1 1 rfl) (FF.cons (congrArg (Value.int .i64) (wr_succ hlt1 hN)) FF.nil))), (hS4.sel [] rfl rfl), (by omega), hL1⟩
      exact allR_nil
    · skip
      obtain rfl : k_ = 0 := by have h := of_decide_eq_false hlt; omega
      refine cw_exit rfl ?_
      obtain rfl := some_inj hL
      refine cw_seq ?_
      refine cw_region ?_
      refine sq 4 rfl rfl (Y_assign (v := .bool true) rfl rfl) ?_
      refine rw_nil ?_
      refine cw_ret ?_
      obtain rfl := some_inj hF3
      exact ret1 Try.results156 (v1 := .bool true) (resAt_tmp rfl) ⟨rfl, (ST.subR (R' := []) (hS1.sel [] rfl rfl) (fun _ h => by cases h))⟩

theorem c_laws_eqCouplingGraph (a : TCouplingGraph) (b : TCouplingGraph) (B : Option Addr) (c n : Nat) (B1 : Option Addr) (c1 n1 : Nat) (w0 : World) (hn : a.Edges.length = n) (hn1 : b.Edges.length = n1) (hS : ST w0 [] w0 [] [⟨B, (a.Edges.flatMap enc_Edge)⟩, ⟨B1, (b.Edges.flatMap enc_Edge)⟩]) {r_ : Bool} (hF : F_laws_eqCouplingGraph a b = some r_) :
    CV Try.prog 59 #[.agg #[.int .i64 a.Nodes, .slice B n c], .agg #[.int .i64 b.Nodes, .slice B1 n1 c1]] w0 (fun v w' => v = .bool r_ ∧ ST w0 [] w' [] []) := by
  subst hn
  subst hn1
  unfold F_laws_eqCouplingGraph at hF
  refine cv_of_cw 16 Try.func59 rfl Try.ntmps59 rfl ?_
  refine cw_seq ?_
  refine cw_region ?_
  refine ss 2 rfl rfl (Ys_box (T := 100) (v := .agg #[.int .i64 a.Nodes, .slice B a.Edges.length c]) (cs := [.int .i64 a.Nodes, .slice B a.Edges.length c]) (m := 2) hS rfl rfl rfl rfl) ?_
  rintro _ w_ ⟨b1, rfl, hS1⟩
  refine ss 3 rfl rfl (Ys_box (T := 100) (v := .agg #[.int .i64 b.Nodes, .slice B1 b.Edges.length c1]) (cs := [.int .i64 b.Nodes, .slice B1 b.Edges.length c1]) (m := 2) hS1 rfl rfl rfl rfl) ?_
  rintro _ w_1 ⟨b2, rfl, hS2⟩
  have hS2 : ST w0 [] _ [⟨some ⟨b1, 0, none⟩, 100, [.int .i64 a.Nodes, .slice B a.Edges.length c], 2⟩, ⟨some ⟨b2, 0, none⟩, 100, [.int .i64 b.Nodes, .slice B1 b.Edges.length c1], 2⟩] [⟨B, (a.Edges.flatMap enc_Edge)⟩, ⟨B1, (b.Edges.flatMap enc_Edge)⟩] := hS2
  refine sq 4 rfl rfl (Y_assign (v := .bool false) rfl rfl) ?_
  refine rw_nil ?_
  refine cw_seq ?_
  refine cw_seq ?_
  refine cw_region ?_
  refine sq 5 rfl rfl (Y_fieldAddr (B := some ⟨b1, 0, none⟩) (i := 0) (s := 0) k_fd_100_0_0_3 k_sz_3_1 rfl rfl) ?_
  refine sq 6 rfl rfl (Y_load1 (B := some ⟨b1, 0, none⟩) (i := 0) (cs := [.int .i64 a.Nodes, .slice B a.Edges.length c]) (v := .int .i64 a.Nodes) k_sc_3 rfl rfl (hS2.cf (i := 0) rfl) rfl) ?_
  refine sq 7 rfl rfl (Y_fieldAddr (B := some ⟨b2, 0, none⟩) (i := 0) (s := 0) k_fd_100_0_0_3 k_sz_3_1 rfl rfl) ?_
  refine sq 8 rfl rfl (Y_load1 (B := some ⟨b2, 0, none⟩) (i := 0) (cs := [.int .i64 b.Nodes, .slice B1 b.Edges.length c1]) (v := .int .i64 b.Nodes) k_sc_3 rfl rfl (hS2.cf (i := 1) rfl) rfl) ?_
  refine sq 9 rfl rfl (Y_ne (k := .i64) (a := a.Nodes) (b := b.Nodes) rfl rfl rfl) ?_
  refine rw_nil ?_
  refine cw_cond (b := (a.Nodes != b.Nodes)) rfl (fun hb => ?_) (fun hb => ?_)
  · skip
    have hF1 := ct hF hb
    refine cw_seq ?_
    refine cw_region ?_
    refine sq 4 rfl rfl (Y_assign (v := .bool false) rfl rfl) ?_
    refine rw_nil ?_
    refine cw_ret ?_
    obtain rfl := some_inj hF1
    exact ret1 Try.results59 (v1 := .bool false) (resAt_tmp rfl) ⟨rfl, (ST.subR (R' := []) (hS2.sel [] rfl rfl) (fun _ h => by cases h))⟩
  · skip
    have hF2 := cf' hF hb
    refine cw_skip ?_
    refine cw_seq ?_
    refine cw_seq ?_
    refine cw_region ?_
    refine sq 10 rfl rfl (Y_fieldAddr (B := some ⟨b1, 0, none⟩) (i := 0) (s := 0) k_fd_100_1_1_98 k_sz_98_1 rfl rfl) ?_
    refine sq 11 rfl rfl (Y_load1 (B := some ⟨b1, 0, none⟩) (i := 1) (cs := [.int .i64 a.Nodes, .slice B a.Edges.length c]) (v := .slice B a.Edges.length c) k_sc_98 rfl rfl (hS2.cf (i := 0) rfl) rfl) ?_
    refine sq 12 rfl rfl (Y_fieldAddr (B := some ⟨b2, 0, none⟩) (i := 0) (s := 0) k_fd_100_1_1_98 k_sz_98_1 rfl rfl) ?_
    refine sq 13 rfl rfl (Y_load1 (B := some ⟨b2, 0, none⟩) (i := 1) (cs := [.int .i64 b.Nodes, .slice B1 b.Edges.length c1]) (v := .slice B1 b.Edges.length c1) k_sc_98 rfl rfl (hS2.cf (i := 1) rfl) rfl) ?_
    obtain ⟨r_1, hc, hF2⟩ := bind_inv hF2
    refine sc 14 rfl rfl (Yc_func (g := 156) (vs := [.slice B a.Edges.length c, .slice B1 b.Edges.length c1]) k_call_156 rfl (mc rfl (mc rfl mn)) (c_laws_eqEdgeS a.Edges b.Edges B c a.Edges.length B1 c1 b.Edges.length _ rfl rfl (hS2.inn0 [(true, 0), (true, 1)] rfl) hc)) ?_
    rintro _ w_2 ⟨rfl, hd⟩
    have hS3 := hS2.out00 hd
    have hS3 : ST w0 [] _ [⟨some ⟨b1, 0, none⟩, 100, [.int .i64 a.Nodes, .slice B a.Edges.length c], 2⟩, ⟨some ⟨b2, 0, none⟩, 100, [.int .i64 b.Nodes, .slice B1 b.Edges.length c1], 2⟩] [⟨B, (a.Edges.flatMap enc_Edge)⟩, ⟨B1, (b.Edges.flatMap enc_Edge)⟩] := hS3
    refine sq 15 rfl rfl (Y_not (p := r_1) rfl rfl) ?_
    refine rw_nil ?_
    refine cw_cond (b := (!r_1)) rfl (fun hb1 => ?_) (fun hb1 => ?_)
    · skip
      have hF3 := ct hF2 hb1
      refine cw_seq ?_
      refine cw_region ?_
      refine sq 4 rfl rfl (Y_assign (v := .bool false) rfl rfl) ?_
      refine rw_nil ?_
      refine cw_ret ?_
      obtain rfl := some_inj hF3
      exact ret1 Try.results59 (v1 := .bool false) (resAt_tmp rfl) ⟨rfl, (ST.subR (R' := []) (hS3.sel [] rfl rfl) (fun _ h => by cases h))⟩
    · skip
      have hF4 := cf' hF2 hb1
      refine cw_skip ?_
      refine cw_seq ?_
      refine cw_region ?_
      refine sq 4 rfl rfl (Y_assign (v := .bool true) rfl rfl) ?_
      refine rw_nil ?_
      refine cw_ret ?_
      obtain rfl := some_inj hF4
      exact ret1 Try.results59 (v1 := .bool true) (resAt_tmp rfl) ⟨rfl, (ST.subR (R' := []) (hS3.sel [] rfl rfl) (fun _ h => by cases h))⟩

theorem c_laws_eqGate (a : TGate) (b : TGate)  (w0 : World)  (hS : ST w0 [] w0 [] []) {r_ : Bool} (hF : F_laws_eqGate a b = some r_) :
    CV Try.prog 247 #[.agg #[.int .i64 a.Kind, .int .i64 a.A, .int .i64 a.B], .agg #[.int .i64 b.Kind, .int .i64 b.A, .int .i64 b.B]] w0 (fun v w' => v = .bool r_ ∧ ST w0 [] w' [] []) := by
  unfold F_laws_eqGate at hF
  refine cv_of_cw 20 Try.func247 rfl Try.ntmps247 rfl ?_
  refine cw_seq ?_
  refine cw_region ?_
  refine ss 2 rfl rfl (Ys_box (T := 213) (v := .agg #[.int .i64 a.Kind, .int .i64 a.A, .int .i64 a.B]) (cs := [.int .i64 a.Kind, .int .i64 a.A, .int .i64 a.B]) (m := 3) hS rfl rfl rfl rfl) ?_
  rintro _ w_ ⟨b1, rfl, hS1⟩
  refine ss 3 rfl rfl (Ys_box (T := 213) (v := .agg #[.int .i64 b.Kind, .int .i64 b.A, .int .i64 b.B]) (cs := [.int .i64 b.Kind, .int .i64 b.A, .int .i64 b.B]) (m := 3) hS1 rfl rfl rfl rfl) ?_
  rintro _ w_1 ⟨b2, rfl, hS2⟩
  have hS2 : ST w0 [] _ [⟨some ⟨b1, 0, none⟩, 213, [.int .i64 a.Kind, .int .i64 a.A, .int .i64 a.B], 3⟩, ⟨some ⟨b2, 0, none⟩, 213, [.int .i64 b.Kind, .int .i64 b.A, .int .i64 b.B], 3⟩] [] := hS2
  refine sq 4 rfl rfl (Y_assign (v := .bool false) rfl rfl) ?_
  refine rw_nil ?_
  refine cw_seq ?_
  refine cw_seq ?_
  refine cw_region ?_
  refine sq 5 rfl rfl (Y_fieldAddr (B := some ⟨b1, 0, none⟩) (i := 0) (s := 0) k_fd_213_0_0_3 k_sz_3_1 rfl rfl) ?_
  refine sq 6 rfl rfl (Y_load1 (B := some ⟨b1, 0, none⟩) (i := 0) (cs := [.int .i64 a.Kind, .int .i64 a.A, .int .i64 a.B]) (v := .int .i64 a.Kind) k_sc_3 rfl rfl (hS2.cf (i := 0) rfl) rfl) ?_
  refine sq 7 rfl rfl (Y_fieldAddr (B := some ⟨b2, 0, none⟩) (i := 0) (s := 0) k_fd_213_0_0_3 k_sz_3_1 rfl rfl) ?_
  refine sq 8 rfl rfl (Y_load1 (B := some ⟨b2, 0, none⟩) (i := 0) (cs := [.int .i64 b.Kind, .int .i64 b.A, .int .i64 b.B]) (v := .int .i64 b.Kind) k_sc_3 rfl rfl (hS2.cf (i := 1) rfl) rfl) ?_
  refine sq 9 rfl rfl (Y_ne (k := .i64) (a := a.Kind) (b := b.Kind) rfl rfl rfl) ?_
  refine rw_nil ?_
  refine cw_cond (b := (a.Kind != b.Kind)) rfl (fun hb => ?_) (fun hb => ?_)
  · skip
    have hF1 := ct hF hb
    refine cw_seq ?_
    refine cw_region ?_
    refine sq 4 rfl rfl (Y_assign (v := .bool false) rfl rfl) ?_
    refine rw_nil ?_
    refine cw_ret ?_
    obtain rfl := some_inj hF1
    exact ret1 Try.results247 (v1 := .bool false) (resAt_tmp rfl) ⟨rfl, (ST.subR (R' := []) (hS2.sel [] rfl rfl) (fun _ h => by cases h))⟩
  · skip
    have hF2 := cf' hF hb
    refine cw_skip ?_
    refine cw_seq ?_
    refine cw_seq ?_
    refine cw_region ?_
    refine sq 10 rfl rfl (Y_fieldAddr (B := some ⟨b1, 0, none⟩) (i := 0) (s := 0) k_fd_213_1_1_3 k_sz_3_1 rfl rfl) ?_
    refine sq 11 rfl rfl (Y_load1 (B := some ⟨b1, 0, none⟩) (i := 1) (cs := [.int .i64 a.Kind, .int .i64 a.A, .int .i64 a.B]) (v := .int .i64 a.A) k_sc_3 rfl rfl (hS2.cf (i := 0) rfl) rfl) ?_
    refine sq 12 rfl rfl (Y_fieldAddr (B := some ⟨b2, 0, none⟩) (i := 0) (s := 0) k_fd_213_1_1_3 k_sz_3_1 rfl rfl) ?_
    refine sq 13 rfl rfl (Y_load1 (B := some ⟨b2, 0, none⟩) (i := 1) (cs := [.int .i64 b.Kind, .int .i64 b.A, .int .i64 b.B]) (v := .int .i64 b.A) k_sc_3 rfl rfl (hS2.cf (i := 1) rfl) rfl) ?_
    refine sq 14 rfl rfl (Y_ne (k := .i64) (a := a.A) (b := b.A) rfl rfl rfl) ?_
    refine rw_nil ?_
    refine cw_cond (b := (a.A != b.A)) rfl (fun hb1 => ?_) (fun hb1 => ?_)
    · skip
      have hF3 := ct hF2 hb1
      refine cw_seq ?_
      refine cw_region ?_
      refine sq 4 rfl rfl (Y_assign (v := .bool false) rfl rfl) ?_
      refine rw_nil ?_
      refine cw_ret ?_
      obtain rfl := some_inj hF3
      exact ret1 Try.results247 (v1 := .bool false) (resAt_tmp rfl) ⟨rfl, (ST.subR (R' := []) (hS2.sel [] rfl rfl) (fun _ h => by cases h))⟩
    · skip
      have hF4 := cf' hF2 hb1
      refine cw_skip ?_
      refine cw_seq ?_
      refine cw_seq ?_
      refine cw_region ?_
      refine sq 15 rfl rfl (Y_fieldAddr (B := some ⟨b1, 0, none⟩) (i := 0) (s := 0) k_fd_213_2_2_3 k_sz_3_1 rfl rfl) ?_
      refine sq 16 rfl rfl (Y_load1 (B := some ⟨b1, 0, none⟩) (i := 2) (cs := [.int .i64 a.Kind, .int .i64 a.A, .int .i64 a.B]) (v := .int .i64 a.B) k_sc_3 rfl rfl (hS2.cf (i := 0) rfl) rfl) ?_
      refine sq 17 rfl rfl (Y_fieldAddr (B := some ⟨b2, 0, none⟩) (i := 0) (s := 0) k_fd_213_2_2_3 k_sz_3_1 rfl rfl) ?_
      refine sq 18 rfl rfl (Y_load1 (B := some ⟨b2, 0, none⟩) (i := 2) (cs := [.int .i64 b.Kind, .int .i64 b.A, .int .i64 b.B]) (v := .int .i64 b.B) k_sc_3 rfl rfl (hS2.cf (i := 1) rfl) rfl) ?_
      refine sq 19 rfl rfl (Y_ne (k := .i64) (a := a.B) (b := b.B) rfl rfl rfl) ?_
      refine rw_nil ?_
      refine cw_cond (b := (a.B != b.B)) rfl (fun hb2 => ?_) (fun hb2 => ?_)
      · skip
        have hF5 := ct hF4 hb2
        refine cw_seq ?_
        refine cw_region ?_
        refine sq 4 rfl rfl (Y_assign (v := .bool false) rfl rfl) ?_
        refine rw_nil ?_
        refine cw_ret ?_
        obtain rfl := some_inj hF5
        exact ret1 Try.results247 (v1 := .bool false) (resAt_tmp rfl) ⟨rfl, (ST.subR (R' := []) (hS2.sel [] rfl rfl) (fun _ h => by cases h))⟩
      · skip
        have hF6 := cf' hF4 hb2
        refine cw_skip ?_
        refine cw_seq ?_
        refine cw_region ?_
        refine sq 4 rfl rfl (Y_assign (v := .bool true) rfl rfl) ?_
        refine rw_nil ?_
        refine cw_ret ?_
        obtain rfl := some_inj hF6
        exact ret1 Try.results247 (v1 := .bool true) (resAt_tmp rfl) ⟨rfl, (ST.subR (R' := []) (hS2.sel [] rfl rfl) (fun _ h => by cases h))⟩

theorem c_laws_eqGateS (a : List TGate) (b : List TGate) (B : Option Addr) (c n : Nat) (B1 : Option Addr) (c1 n1 : Nat) (w0 : World) (hn : a.length = n) (hn1 : b.length = n1) (hS : ST w0 [] w0 [] [⟨B, (a.flatMap enc_Gate)⟩, ⟨B1, (b.flatMap enc_Gate)⟩]) {r_ : Bool} (hF : F_laws_eqGateS a b = some r_) :
    CV Try.prog 157 #[.slice B n c, .slice B1 n1 c1] w0 (fun v w' => v = .bool r_ ∧ ST w0 [] w' [] []) := by
  subst hn
  subst hn1
  unfold F_laws_eqGateS at hF
  refine cv_of_cw 27 Try.func157 rfl Try.ntmps157 rfl ?_
  refine cw_seq ?_
  refine cw_region ?_
  refine sq 4 rfl rfl (Y_assign (v := .bool false) rfl rfl) ?_
  refine rw_nil ?_
  refine cw_seq ?_
  refine cw_seq ?_
  refine cw_region ?_
  refine sq 6 rfl rfl (Y_move (v := .slice B a.length c) rfl rfl) ?_
  refine sq 7 rfl rfl (Y_len (B := B) (m := a.length) (c := c) k_sl_102_213 rfl rfl) ?_
  refine sq 8 rfl rfl (Y_move (v := .slice B1 b.length c1) rfl rfl) ?_
  refine sq 9 rfl rfl (Y_len (B := B1) (m := b.length) (c := c1) k_sl_102_213 rfl rfl) ?_
  refine sq 10 rfl rfl (Y_ne (k := .i64) (a := (a.length : Int)) (b := (b.length : Int)) rfl rfl rfl) ?_
  refine rw_nil ?_
  refine cw_cond (b := ((a.length : Int) != (b.length : Int))) rfl (fun hb => ?_) (fun hb => ?_)
  · skip
    have hF1 := ct hF hb
    refine cw_seq ?_
    refine cw_region ?_
    refine sq 4 rfl rfl (Y_assign (v := .bool false) rfl rfl) ?_
    refine rw_nil ?_
    refine cw_ret ?_
    obtain rfl := some_inj hF1
    exact ret1 Try.results157 (v1 := .bool false) (resAt_tmp rfl) ⟨rfl, (ST.subR (R' := []) (hS.sel [] rfl rfl) (fun _ h => by cases h))⟩
  · skip
    have hF2 := cf' hF hb
    refine cw_skip ?_
    refine cw_seq ?_
    refine cw_seq ?_
    refine cw_region ?_
    refine sq 5 rfl rfl (Y_assign (v := .int .i64 0) rfl rfl) ?_
    refine rw_nil ?_
    obtain ⟨hN, hF2⟩ := chk_inv hF2
    obtain ⟨z, hz, hF3⟩ := bind_inv hF2
    refine cw_block ?_
    refine cw_loop (fun k f w => ∃ (i1 : Nat), FF f [(0, .slice B a.length c), (1, .slice B1 b.length c1), (5, .int .i64 (i1 : Int))] ∧ ST w0 [] w [] [⟨B, (a.flatMap enc_Gate)⟩, ⟨B1, (b.flatMap enc_Gate)⟩] ∧ i1 + k = a.length ∧ forX (F_laws_eqGateS_l1 a b) k i1 () = some z) a.length ⟨0, (FF.cons rfl (FF.cons rfl (FF.cons rfl FF.nil))), (hS.sel [] rfl rfl), Nat.zero_add _, hz⟩ ?_
    rintro k_ f w ⟨i1, hf, hS1, hik, hL⟩
    refine cw_seq ?_
    refine cw_seq ?_
    refine cw_region ?_
    refine sq 11 rfl rfl (Y_move (v := .int .i64 (i1 : Int)) rfl (hf.get 5 2 rfl)) ?_
    refine sq 12 rfl rfl (Y_move (v := .slice B a.length c) rfl (hf.get 0 0 rfl)) ?_
    refine sq 13 rfl rfl (Y_len (B := B) (m := a.length) (c := c) k_sl_102_213 rfl rfl) ?_
    refine sq 14 rfl rfl (Y_lt (k := .i64) (a := (i1 : Int)) (b := (a.length : Int)) rfl rfl rfl) ?_
    refine rw_nil ?_
    refine cw_cond (b := (decide ((i1 : Int) < (a.length : Int)))) rfl (fun hlt => ?_) (fun hlt => ?_)
    · skip
      have hlt1 : i1 < a.length := by have h := of_decide_eq_true hlt; omega
      obtain ⟨k_1, rfl⟩ : ∃ k2, k_ = k2 + 1 := ⟨k_ - 1, by omega⟩
      obtain ⟨y, hb1, hL1⟩ := forX_go hL
      unfold F_laws_eqGateS_l1 at hb1
      refine cw_skip ?_
      refine cw_seq ?_
      refine cw_block ?_
      refine cw_seq ?_
      obtain ⟨x, hx, hb1⟩ := bind_inv hb1
      obtain ⟨x1, hx1, hb1⟩ := bind_inv hb1
      obtain ⟨r_1, hc, hb1⟩ := bind_inv hb1
      refine ra_start (ST.sel hS1 [] rfl rfl).fn (by kernel_rfl) ?_
      have hS3 := hS1.drew
      refine ra_q 0 17 (v := .slice B a.length c) rfl rfl rfl (by kernel_rfl) (by kernel_rfl) (by kernel_rfl) (ST.sel hS3 [] rfl rfl) (fun w' hw' => (Y_move (v := .slice B a.length c) rfl (hf.get 0 0 rfl))) ?_
      refine ra_q 1 18 (v := .int .i64 (i1 : Int)) rfl rfl rfl (by kernel_rfl) (by kernel_rfl) (by kernel_rfl) (ST.sel hS3 [] rfl rfl) (fun w' hw' => (Y_move (v := .int .i64 (i1 : Int)) rfl (hf.get 5 2 rfl))) ?_
      refine ra_q 2 19 (v := pt B ((i1 : Int).toNat * 3)) rfl rfl rfl (by kernel_rfl) (by kernel_rfl) (by kernel_rfl) (ST.sel hS3 [] rfl rfl) (fun w' hw' => (Y_index (B := B) (m := a.length) (c := c) (k := .i64) (i := (i1 : Int)) k_sl_102_213 k_sz_213_3 rfl rfl rfl (gi_isSome enc_Gate_len rfl (ST.rf hw' (i := 0) rfl) hx) (getI_nn hx) (getI_ltI hx rfl))) ?_
      refine ra_q 3 20 (v := .agg #[.int .i64 x.Kind, .int .i64 x.A, .int .i64 x.B]) rfl rfl rfl (by kernel_rfl) (by kernel_rfl) (by kernel_rfl) (ST.sel hS3 [] rfl rfl) (fun w' hw' => (Y_loadA (B := B) (i := (i1 : Int).toNat * 3) (cs := (a.flatMap enc_Gate)) (vs := [.int .i64 x.Kind, .int .i64 x.A, .int .i64 x.B]) k_ag_213 k_sz_213_3 rfl rfl (ST.rf hw' (i := 0) rfl) (enc_Gate_len x) (gi_seg enc_Gate_len hx))) ?_
      refine ra_q 4 21 (v := .slice B1 b.length c1) rfl rfl rfl (by kernel_rfl) (by kernel_rfl) (by kernel_rfl) (ST.sel hS3 [] rfl rfl) (fun w' hw' => (Y_move (v := .slice B1 b.length c1) rfl (hf.get 1 1 rfl))) ?_
      refine ra_q 5 22 (v := .int .i64 (i1 : Int)) rfl rfl rfl (by kernel_rfl) (by kernel_rfl) (by kernel_rfl) (ST.sel hS3 [] rfl rfl) (fun w' hw' => (Y_move (v := .int .i64 (i1 : Int)) rfl (hf.get 5 2 rfl))) ?_
      refine ra_q 6 23 (v := pt B1 ((i1 : Int).toNat * 3)) rfl rfl rfl (by kernel_rfl) (by kernel_rfl) (by kernel_rfl) (ST.sel hS3 [] rfl rfl) (fun w' hw' => (Y_index (B := B1) (m := b.length) (c := c1) (k := .i64) (i := (i1 : Int)) k_sl_102_213 k_sz_213_3 rfl rfl rfl (gi_isSome enc_Gate_len rfl (ST.rf hw' (i := 1) rfl) hx1) (getI_nn hx1) (getI_ltI hx1 rfl))) ?_
      refine ra_q 7 24 (v := .agg #[.int .i64 x1.Kind, .int .i64 x1.A, .int .i64 x1.B]) rfl rfl rfl (by kernel_rfl) (by kernel_rfl) (by kernel_rfl) (ST.sel hS3 [] rfl rfl) (fun w' hw' => (Y_loadA (B := B1) (i := (i1 : Int).toNat * 3) (cs := (b.flatMap enc_Gate)) (vs := [.int .i64 x1.Kind, .int .i64 x1.A, .int .i64 x1.B]) k_ag_213 k_sz_213_3 rfl rfl (ST.rf hw' (i := 1) rfl) (enc_Gate_len x1) (gi_seg enc_Gate_len hx1))) ?_
      refine ra_all (rs := [8]) (by kernel_rfl) rfl ?_
      refine ra_c 25 (i := 8) rfl rfl rfl (Yc_func (g := 247) (vs := [.agg #[.int .i64 x.Kind, .int .i64 x.A, .int .i64 x.B], .agg #[.int .i64 x1.Kind, .int .i64 x1.A, .int .i64 x1.B]]) k_call_247 rfl (mc rfl (mc rfl mn)) (c_laws_eqGate x x1 _  (hS3.inn0 [] rfl) hc)) ?_ ?_
      · rintro _ w_ ⟨rfl, hd⟩
        have hS4 := hS3.out00 hd
        refine ⟨(ST.sel hS4 [] rfl rfl), ?_⟩
        refine ra_q 9 26 (v := .bool (!r_1)) rfl rfl rfl (by kernel_rfl) (by kernel_rfl) (by kernel_rfl) (ST.sel hS4 [] rfl rfl) (fun w' hw' => (Y_not (p := r_1) rfl rfl)) ?_
        refine ra_done (by kernel_rfl) ?_
        refine cw_cond (b := (!r_1)) rfl (fun hb2 => ?_) (fun hb2 => ?_)
        · skip
          have hF4 := ct hb1 hb2
          refine cw_seq ?_
          refine cw_region ?_
          refine sq 4 rfl rfl (Y_assign (v := .bool false) rfl rfl) ?_
          refine rw_nil ?_
          refine cw_ret ?_
          obtain rfl := some_inj hF4
          obtain rfl := some_inj hL1
          obtain rfl := some_inj hF3
          exact ret1 Try.results157 (v1 := .bool false) (resAt_tmp rfl) ⟨rfl, (ST.subR (R' := []) (hS4.sel [] rfl rfl) (fun _ h => by cases h))⟩
        · skip
          have hF5 := cf' hb1 hb2
          refine cw_skip ?_
          refine cw_region ?_
          refine sq 15 rfl rfl (Y_move (v := .int .i64 (i1 : Int)) rfl (hf.get 5 2 rfl)) ?_
          refine sq 16 rfl rfl (Y_add (k := .i64) (a := (i1 : Int)) (b := 1) rfl rfl rfl) ?_
          refine sq 5 rfl rfl (Y_assign (v := .int .i64 (IntKind.i64.wrap ((i1 : Int) + 1))) rfl rfl) ?_
          refine rw_nil ?_
          obtain rfl := some_inj hF5
          exact ⟨k_1, Nat.lt_succ_self _, i1 + 1, (FF.cons (hf.get 0 0 rfl) (FF.cons (hf.get 1 1 rfl) (FF.cons (congrArg (Value.int .i64) (wr_succ hlt1 hN)) FF.nil))), (hS4.sel [] rfl rfl), (by omega), hL1⟩
      exact allR_nil
    · skip
      obtain rfl : k_ = 0 := by have h := of_decide_eq_false hlt; omega
      refine cw_exit rfl ?_
      obtain rfl := some_inj hL
      refine cw_seq ?_
      refine cw_region ?_
      refine sq 4 rfl rfl (Y_assign (v := .bool true) rfl rfl) ?_
      refine rw_nil ?_
      refine cw_ret ?_
      obtain rfl := some_inj hF3
      exact ret1 Try.results157 (v1 := .bool true) (resAt_tmp rfl) ⟨rfl, (ST.subR (R' := []) (hS1.sel [] rfl rfl) (fun _ h => by cases h))⟩

theorem c_laws_eqCircuit (a : TCircuit) (b : TCircuit) (B : Option Addr) (c n : Nat) (B1 : Option Addr) (c1 n1 : Nat) (w0 : World) (hn : a.Gates.length = n) (hn1 : b.Gates.length = n1) (hS : ST w0 [] w0 [] [⟨B, (a.Gates.flatMap enc_Gate)⟩, ⟨B1, (b.Gates.flatMap enc_Gate)⟩]) {r_ : Bool} (hF : F_laws_eqCircuit a b = some r_) :
    CV Try.prog 60 #[.agg #[.int .i64 a.Qubits, .slice B n c], .agg #[.int .i64 b.Qubits, .slice B1 n1 c1]] w0 (fun v w' => v = .bool r_ ∧ ST w0 [] w' [] []) := by
  subst hn
  subst hn1
  unfold F_laws_eqCircuit at hF
  refine cv_of_cw 16 Try.func60 rfl Try.ntmps60 rfl ?_
  refine cw_seq ?_
  refine cw_region ?_
  refine ss 2 rfl rfl (Ys_box (T := 104) (v := .agg #[.int .i64 a.Qubits, .slice B a.Gates.length c]) (cs := [.int .i64 a.Qubits, .slice B a.Gates.length c]) (m := 2) hS rfl rfl rfl rfl) ?_
  rintro _ w_ ⟨b1, rfl, hS1⟩
  refine ss 3 rfl rfl (Ys_box (T := 104) (v := .agg #[.int .i64 b.Qubits, .slice B1 b.Gates.length c1]) (cs := [.int .i64 b.Qubits, .slice B1 b.Gates.length c1]) (m := 2) hS1 rfl rfl rfl rfl) ?_
  rintro _ w_1 ⟨b2, rfl, hS2⟩
  have hS2 : ST w0 [] _ [⟨some ⟨b1, 0, none⟩, 104, [.int .i64 a.Qubits, .slice B a.Gates.length c], 2⟩, ⟨some ⟨b2, 0, none⟩, 104, [.int .i64 b.Qubits, .slice B1 b.Gates.length c1], 2⟩] [⟨B, (a.Gates.flatMap enc_Gate)⟩, ⟨B1, (b.Gates.flatMap enc_Gate)⟩] := hS2
  refine sq 4 rfl rfl (Y_assign (v := .bool false) rfl rfl) ?_
  refine rw_nil ?_
  refine cw_seq ?_
  refine cw_seq ?_
  refine cw_region ?_
  refine sq 5 rfl rfl (Y_fieldAddr (B := some ⟨b1, 0, none⟩) (i := 0) (s := 0) k_fd_104_0_0_3 k_sz_3_1 rfl rfl) ?_
  refine sq 6 rfl rfl (Y_load1 (B := some ⟨b1, 0, none⟩) (i := 0) (cs := [.int .i64 a.Qubits, .slice B a.Gates.length c]) (v := .int .i64 a.Qubits) k_sc_3 rfl rfl (hS2.cf (i := 0) rfl) rfl) ?_
  refine sq 7 rfl rfl (Y_fieldAddr (B := some ⟨b2, 0, none⟩) (i := 0) (s := 0) k_fd_104_0_0_3 k_sz_3_1 rfl rfl) ?_
  refine sq 8 rfl rfl (Y_load1 (B := some ⟨b2, 0, none⟩) (i := 0) (cs := [.int .i64 b.Qubits, .slice B1 b.Gates.length c1]) (v := .int .i64 b.Qubits) k_sc_3 rfl rfl (hS2.cf (i := 1) rfl) rfl) ?_
  refine sq 9 rfl rfl (Y_ne (k := .i64) (a := a.Qubits) (b := b.Qubits) rfl rfl rfl) ?_
  refine rw_nil ?_
  refine cw_cond (b := (a.Qubits != b.Qubits)) rfl (fun hb => ?_) (fun hb => ?_)
  · skip
    have hF1 := ct hF hb
    refine cw_seq ?_
    refine cw_region ?_
    refine sq 4 rfl rfl (Y_assign (v := .bool false) rfl rfl) ?_
    refine rw_nil ?_
    refine cw_ret ?_
    obtain rfl := some_inj hF1
    exact ret1 Try.results60 (v1 := .bool false) (resAt_tmp rfl) ⟨rfl, (ST.subR (R' := []) (hS2.sel [] rfl rfl) (fun _ h => by cases h))⟩
  · skip
    have hF2 := cf' hF hb
    refine cw_skip ?_
    refine cw_seq ?_
    refine cw_seq ?_
    refine cw_region ?_
    refine sq 10 rfl rfl (Y_fieldAddr (B := some ⟨b1, 0, none⟩) (i := 0) (s := 0) k_fd_104_1_1_102 k_sz_102_1 rfl rfl) ?_
    refine sq 11 rfl rfl (Y_load1 (B := some ⟨b1, 0, none⟩) (i := 1) (cs := [.int .i64 a.Qubits, .slice B a.Gates.length c]) (v := .slice B a.Gates.length c) k_sc_102 rfl rfl (hS2.cf (i := 0) rfl) rfl) ?_
    refine sq 12 rfl rfl (Y_fieldAddr (B := some ⟨b2, 0, none⟩) (i := 0) (s := 0) k_fd_104_1_1_102 k_sz_102_1 rfl rfl) ?_
    refine sq 13 rfl rfl (Y_load1 (B := some ⟨b2, 0, none⟩) (i := 1) (cs := [.int .i64 b.Qubits, .slice B1 b.Gates.length c1]) (v := .slice B1 b.Gates.length c1) k_sc_102 rfl rfl (hS2.cf (i := 1) rfl) rfl) ?_
    obtain ⟨r_1, hc, hF2⟩ := bind_inv hF2
    refine sc 14 rfl rfl (Yc_func (g := 157) (vs := [.slice B a.Gates.length c, .slice B1 b.Gates.length c1]) k_call_157 rfl (mc rfl (mc rfl mn)) (c_laws_eqGateS a.Gates b.Gates B c a.Gates.length B1 c1 b.Gates.length _ rfl rfl (hS2.inn0 [(true, 0), (true, 1)] rfl) hc)) ?_
    rintro _ w_2 ⟨rfl, hd⟩
    have hS3 := hS2.out00 hd
    have hS3 : ST w0 [] _ [⟨some ⟨b1, 0, none⟩, 104, [.int .i64 a.Qubits, .slice B a.Gates.length c], 2⟩, ⟨some ⟨b2, 0, none⟩, 104, [.int .i64 b.Qubits, .slice B1 b.Gates.length c1], 2⟩] [⟨B, (a.Gates.flatMap enc_Gate)⟩, ⟨B1, (b.Gates.flatMap enc_Gate)⟩] := hS3
    refine sq 15 rfl rfl (Y_not (p := r_1) rfl rfl) ?_
    refine rw_nil ?_
    refine cw_cond (b := (!r_1)) rfl (fun hb1 => ?_) (fun hb1 => ?_)
    · skip
      have hF3 := ct hF2 hb1
      refine cw_seq ?_
      refine cw_region ?_
      refine sq 4 rfl rfl (Y_assign (v := .bool false) rfl rfl) ?_
      refine rw_nil ?_
      refine cw_ret ?_
      obtain rfl := some_inj hF3
      exact ret1 Try.results60 (v1 := .bool false) (resAt_tmp rfl) ⟨rfl, (ST.subR (R' := []) (hS3.sel [] rfl rfl) (fun _ h => by cases h))⟩
    · skip
      have hF4 := cf' hF2 hb1
      refine cw_skip ?_
      refine cw_seq ?_
      refine cw_region ?_
      refine sq 4 rfl rfl (Y_assign (v := .bool true) rfl rfl) ?_
      refine rw_nil ?_
      refine cw_ret ?_
      obtain rfl := some_inj hF4
      exact ret1 Try.results60 (v1 := .bool true) (resAt_tmp rfl) ⟨rfl, (ST.subR (R' := []) (hS3.sel [] rfl rfl) (fun _ h => by cases h))⟩

theorem c_laws_eqIntS (a : List Int) (b : List Int) (B : Option Addr) (c n : Nat) (B1 : Option Addr) (c1 n1 : Nat) (w0 : World) (hn : a.length = n) (hn1 : b.length = n1) (hS : ST w0 [] w0 [] [⟨B, (a.flatMap encI)⟩, ⟨B1, (b.flatMap encI)⟩]) {r_ : Bool} (hF : F_laws_eqIntS a b = some r_) :
    CV Try.prog 64 #[.slice B n c, .slice B1 n1 c1] w0 (fun v w' => v = .bool r_ ∧ ST w0 [] w' [] []) := by
  subst hn
  subst hn1
  unfold F_laws_eqIntS at hF
  refine cv_of_cw 26 Try.func64 rfl Try.ntmps64 rfl ?_
  refine cw_seq ?_
  refine cw_region ?_
  refine sq 4 rfl rfl (Y_assign (v := .bool false) rfl rfl) ?_
  refine rw_nil ?_
  refine cw_seq ?_
  refine cw_seq ?_
  refine cw_region ?_
  refine sq 6 rfl rfl (Y_move (v := .slice B a.length c) rfl rfl) ?_
  refine sq 7 rfl rfl (Y_len (B := B) (m := a.length) (c := c) k_sl_59_3 rfl rfl) ?_
  refine sq 8 rfl rfl (Y_move (v := .slice B1 b.length c1) rfl rfl) ?_
  refine sq 9 rfl rfl (Y_len (B := B1) (m := b.length) (c := c1) k_sl_59_3 rfl rfl) ?_
  refine sq 10 rfl rfl (Y_ne (k := .i64) (a := (a.length : Int)) (b := (b.length : Int)) rfl rfl rfl) ?_
  refine rw_nil ?_
  refine cw_cond (b := ((a.length : Int) != (b.length : Int))) rfl (fun hb => ?_) (fun hb => ?_)
  · skip
    have hF1 := ct hF hb
    refine cw_seq ?_
    refine cw_region ?_
    refine sq 4 rfl rfl (Y_assign (v := .bool false) rfl rfl) ?_
    refine rw_nil ?_
    refine cw_ret ?_
    obtain rfl := some_inj hF1
    exact ret1 Try.results64 (v1 := .bool false) (resAt_tmp rfl) ⟨rfl, (ST.subR (R' := []) (hS.sel [] rfl rfl) (fun _ h => by cases h))⟩
  · skip
    have hF2 := cf' hF hb
    refine cw_skip ?_
    refine cw_seq ?_
    refine cw_seq ?_
    refine cw_region ?_
    refine sq 5 rfl rfl (Y_assign (v := .int .i64 0) rfl rfl) ?_
    refine rw_nil ?_
    obtain ⟨hN, hF2⟩ := chk_inv hF2
    obtain ⟨z, hz, hF3⟩ := bind_inv hF2
    refine cw_block ?_
    refine cw_loop (fun k f w => ∃ (i1 : Nat), FF f [(0, .slice B a.length c), (1, .slice B1 b.length c1), (5, .int .i64 (i1 : Int))] ∧ ST w0 [] w [] [⟨B, (a.flatMap encI)⟩, ⟨B1, (b.flatMap encI)⟩] ∧ i1 + k = a.length ∧ forX (F_laws_eqIntS_l1 a b) k i1 () = some z) a.length ⟨0, (FF.cons rfl (FF.cons rfl (FF.cons rfl FF.nil))), (hS.sel [] rfl rfl), Nat.zero_add _, hz⟩ ?_
    rintro k_ f w ⟨i1, hf, hS1, hik, hL⟩
    refine cw_seq ?_
    refine cw_seq ?_
    refine cw_region ?_
    refine sq 11 rfl rfl (Y_move (v := .int .i64 (i1 : Int)) rfl (hf.get 5 2 rfl)) ?_
    refine sq 12 rfl rfl (Y_move (v := .slice B a.length c) rfl (hf.get 0 0 rfl)) ?_
    refine sq 13 rfl rfl (Y_len (B := B) (m := a.length) (c := c) k_sl_59_3 rfl rfl) ?_
    refine sq 14 rfl rfl (Y_lt (k := .i64) (a := (i1 : Int)) (b := (a.length : Int)) rfl rfl rfl) ?_
    refine rw_nil ?_
    refine cw_cond (b := (decide ((i1 : Int) < (a.length : Int)))) rfl (fun hlt => ?_) (fun hlt => ?_)
    · skip
      have hlt1 : i1 < a.length := by have h := of_decide_eq_true hlt; omega
      obtain ⟨k_1, rfl⟩ : ∃ k2, k_ = k2 + 1 := ⟨k_ - 1, by omega⟩
      obtain ⟨y, hb1, hL1⟩ := forX_go hL
      unfold F_laws_eqIntS_l1 at hb1
      refine cw_skip ?_
      refine cw_seq ?_
      refine cw_block ?_
      refine cw_seq ?_
      obtain ⟨x, hx, hb1⟩ := bind_inv hb1
      obtain ⟨x1, hx1, hb1⟩ := bind_inv hb1
      refine ra_start (ST.sel hS1 [] rfl rfl).fn (by kernel_rfl) ?_
      have hS2 := hS1.drew
      refine ra_q 0 17 (v := .slice B a.length c) rfl rfl rfl (by kernel_rfl) (by kernel_rfl) (by kernel_rfl) (ST.sel hS2 [] rfl rfl) (fun w' hw' => (Y_move (v := .slice B a.length c) rfl (hf.get 0 0 rfl))) ?_
      refine ra_q 1 18 (v := .int .i64 (i1 : Int)) rfl rfl rfl (by kernel_rfl) (by kernel_rfl) (by kernel_rfl) (ST.sel hS2 [] rfl rfl) (fun w' hw' => (Y_move (v := .int .i64 (i1 : Int)) rfl (hf.get 5 2 rfl))) ?_
      refine ra_q 2 19 (v := pt B ((i1 : Int).toNat * 1)) rfl rfl rfl (by kernel_rfl) (by kernel_rfl) (by kernel_rfl) (ST.sel hS2 [] rfl rfl) (fun w' hw' => (Y_index (B := B) (m := a.length) (c := c) (k := .i64) (i := (i1 : Int)) k_sl_59_3 k_sz_3_1 rfl rfl rfl (gi_isSome encI_len rfl (ST.rf hw' (i := 0) rfl) hx) (getI_nn hx) (getI_ltI hx rfl))) ?_
      refine ra_q 3 20 (v := .int .i64 x) rfl rfl rfl (by kernel_rfl) (by kernel_rfl) (by kernel_rfl) (ST.sel hS2 [] rfl rfl) (fun w' hw' => (Y_load1 (B := B) (i := (i1 : Int).toNat * 1) (cs := (a.flatMap encI)) (v := .int .i64 x) k_sc_3 rfl rfl (ST.rf hw' (i := 0) rfl) (gi_at0 encI_len hx rfl))) ?_
      refine ra_q 4 21 (v := .slice B1 b.length c1) rfl rfl rfl (by kernel_rfl) (by kernel_rfl) (by kernel_rfl) (ST.sel hS2 [] rfl rfl) (fun w' hw' => (Y_move (v := .slice B1 b.length c1) rfl (hf.get 1 1 rfl))) ?_
      refine ra_q 5 22 (v := .int .i64 (i1 : Int)) rfl rfl rfl (by kernel_rfl) (by kernel_rfl) (by kernel_rfl) (ST.sel hS2 [] rfl rfl) (fun w' hw' => (Y_move (v := .int .i64 (i1 : Int)) rfl (hf.get 5 2 rfl))) ?_
      refine ra_q 6 23 (v := pt B1 ((i1 : Int).toNat * 1)) rfl rfl rfl (by kernel_rfl) (by kernel_rfl) (by kernel_rfl) (ST.sel hS2 [] rfl rfl) (fun w' hw' => (Y_index (B := B1) (m := b.length) (c := c1) (k := .i64) (i := (i1 : Int)) k_sl_59_3 k_sz_3_1 rfl rfl rfl (gi_isSome encI_len rfl (ST.rf hw' (i := 1) rfl) hx1) (getI_nn hx1) (getI_ltI hx1 rfl))) ?_
      refine ra_q 7 24 (v := .int .i64 x1) rfl rfl rfl (by kernel_rfl) (by kernel_rfl) (by kernel_rfl) (ST.sel hS2 [] rfl rfl) (fun w' hw' => (Y_load1 (B := B1) (i := (i1 : Int).toNat * 1) (cs := (b.flatMap encI)) (v := .int .i64 x1) k_sc_3 rfl rfl (ST.rf hw' (i := 1) rfl) (gi_at0 encI_len hx1 rfl))) ?_
      refine ra_q 8 25 (v := .bool (x != x1)) rfl rfl rfl (by kernel_rfl) (by kernel_rfl) (by kernel_rfl) (ST.sel hS2 [] rfl rfl) (fun w' hw' => (Y_ne (k := .i64) (a := x) (b := x1) rfl rfl rfl)) ?_
      refine ra_done (by kernel_rfl) ?_
      refine cw_cond (b := (x != x1)) rfl (fun hb2 => ?_) (fun hb2 => ?_)
      · skip
        have hF4 := ct hb1 hb2
        refine cw_seq ?_
        refine cw_region ?_
        refine sq 4 rfl rfl (Y_assign (v := .bool false) rfl rfl) ?_
        refine rw_nil ?_
        refine cw_ret ?_
        obtain rfl := some_inj hF4
        obtain rfl := some_inj hL1
        obtain rfl := some_inj hF3
        exact ret1 Try.results64 (v1 := .bool false) (resAt_tmp rfl) ⟨rfl, (ST.subR (R' := []) (hS2.sel [] rfl rfl) (fun _ h => by cases h))⟩
      · skip
        have hF5 := cf' hb1 hb2
        refine cw_skip ?_
        refine cw_region ?_
        refine sq 15 rfl rfl (Y_move (v := .int .i64 (i1 : Int)) rfl (hf.get 5 2 rfl)) ?_
        refine sq 16 rfl rfl (Y_add (k := .i64) (a := (i1 : Int)) (b := 1) rfl rfl rfl) ?_
        refine sq 5 rfl rfl (Y_assign (v := .int .i64 (IntKind.i64.wrap ((i1 : Int) + 1))) rfl rfl) ?_
        refine rw_nil ?_
        obtain rfl := some_inj hF5
        exact ⟨k_1, Nat.lt_succ_self _, i1 + 1, (FF.cons (hf.get 0 0 rfl) (FF.cons (hf.get 1 1 rfl) (FF.cons (congrArg (Value.int .i64) (wr_succ hlt1 hN)) FF.nil))), (hS2.sel [] rfl rfl), (by omega), hL1⟩
    · skip
      obtain rfl : k_ = 0 := by have h := of_decide_eq_false hlt; omega
      refine cw_exit rfl ?_
      obtain rfl := some_inj hL
      refine cw_seq ?_
      refine cw_region ?_
      refine sq 4 rfl rfl (Y_assign (v := .bool true) rfl rfl) ?_
      refine rw_nil ?_
      refine cw_ret ?_
      obtain rfl := some_inj hF3
      exact ret1 Try.results64 (v1 := .bool true) (resAt_tmp rfl) ⟨rfl, (ST.subR (R' := []) (hS1.sel [] rfl rfl) (fun _ h => by cases h))⟩

theorem c_laws_eqRouteStep (a : TRouteStep) (b : TRouteStep)  (w0 : World)  (hS : ST w0 [] w0 [] []) {r_ : Bool} (hF : F_laws_eqRouteStep a b = some r_) :
    CV Try.prog 248 #[.agg #[.int .i64 a.Gate, .int .i64 a.A, .int .i64 a.B], .agg #[.int .i64 b.Gate, .int .i64 b.A, .int .i64 b.B]] w0 (fun v w' => v = .bool r_ ∧ ST w0 [] w' [] []) := by
  unfold F_laws_eqRouteStep at hF
  refine cv_of_cw 20 Try.func248 rfl Try.ntmps248 rfl ?_
  refine cw_seq ?_
  refine cw_region ?_
  refine ss 2 rfl rfl (Ys_box (T := 211) (v := .agg #[.int .i64 a.Gate, .int .i64 a.A, .int .i64 a.B]) (cs := [.int .i64 a.Gate, .int .i64 a.A, .int .i64 a.B]) (m := 3) hS rfl rfl rfl rfl) ?_
  rintro _ w_ ⟨b1, rfl, hS1⟩
  refine ss 3 rfl rfl (Ys_box (T := 211) (v := .agg #[.int .i64 b.Gate, .int .i64 b.A, .int .i64 b.B]) (cs := [.int .i64 b.Gate, .int .i64 b.A, .int .i64 b.B]) (m := 3) hS1 rfl rfl rfl rfl) ?_
  rintro _ w_1 ⟨b2, rfl, hS2⟩
  have hS2 : ST w0 [] _ [⟨some ⟨b1, 0, none⟩, 211, [.int .i64 a.Gate, .int .i64 a.A, .int .i64 a.B], 3⟩, ⟨some ⟨b2, 0, none⟩, 211, [.int .i64 b.Gate, .int .i64 b.A, .int .i64 b.B], 3⟩] [] := hS2
  refine sq 4 rfl rfl (Y_assign (v := .bool false) rfl rfl) ?_
  refine rw_nil ?_
  refine cw_seq ?_
  refine cw_seq ?_
  refine cw_region ?_
  refine sq 5 rfl rfl (Y_fieldAddr (B := some ⟨b1, 0, none⟩) (i := 0) (s := 0) k_fd_211_0_0_3 k_sz_3_1 rfl rfl) ?_
  refine sq 6 rfl rfl (Y_load1 (B := some ⟨b1, 0, none⟩) (i := 0) (cs := [.int .i64 a.Gate, .int .i64 a.A, .int .i64 a.B]) (v := .int .i64 a.Gate) k_sc_3 rfl rfl (hS2.cf (i := 0) rfl) rfl) ?_
  refine sq 7 rfl rfl (Y_fieldAddr (B := some ⟨b2, 0, none⟩) (i := 0) (s := 0) k_fd_211_0_0_3 k_sz_3_1 rfl rfl) ?_
  refine sq 8 rfl rfl (Y_load1 (B := some ⟨b2, 0, none⟩) (i := 0) (cs := [.int .i64 b.Gate, .int .i64 b.A, .int .i64 b.B]) (v := .int .i64 b.Gate) k_sc_3 rfl rfl (hS2.cf (i := 1) rfl) rfl) ?_
  refine sq 9 rfl rfl (Y_ne (k := .i64) (a := a.Gate) (b := b.Gate) rfl rfl rfl) ?_
  refine rw_nil ?_
  refine cw_cond (b := (a.Gate != b.Gate)) rfl (fun hb => ?_) (fun hb => ?_)
  · skip
    have hF1 := ct hF hb
    refine cw_seq ?_
    refine cw_region ?_
    refine sq 4 rfl rfl (Y_assign (v := .bool false) rfl rfl) ?_
    refine rw_nil ?_
    refine cw_ret ?_
    obtain rfl := some_inj hF1
    exact ret1 Try.results248 (v1 := .bool false) (resAt_tmp rfl) ⟨rfl, (ST.subR (R' := []) (hS2.sel [] rfl rfl) (fun _ h => by cases h))⟩
  · skip
    have hF2 := cf' hF hb
    refine cw_skip ?_
    refine cw_seq ?_
    refine cw_seq ?_
    refine cw_region ?_
    refine sq 10 rfl rfl (Y_fieldAddr (B := some ⟨b1, 0, none⟩) (i := 0) (s := 0) k_fd_211_1_1_3 k_sz_3_1 rfl rfl) ?_
    refine sq 11 rfl rfl (Y_load1 (B := some ⟨b1, 0, none⟩) (i := 1) (cs := [.int .i64 a.Gate, .int .i64 a.A, .int .i64 a.B]) (v := .int .i64 a.A) k_sc_3 rfl rfl (hS2.cf (i := 0) rfl) rfl) ?_
    refine sq 12 rfl rfl (Y_fieldAddr (B := some ⟨b2, 0, none⟩) (i := 0) (s := 0) k_fd_211_1_1_3 k_sz_3_1 rfl rfl) ?_
    refine sq 13 rfl rfl (Y_load1 (B := some ⟨b2, 0, none⟩) (i := 1) (cs := [.int .i64 b.Gate, .int .i64 b.A, .int .i64 b.B]) (v := .int .i64 b.A) k_sc_3 rfl rfl (hS2.cf (i := 1) rfl) rfl) ?_
    refine sq 14 rfl rfl (Y_ne (k := .i64) (a := a.A) (b := b.A) rfl rfl rfl) ?_
    refine rw_nil ?_
    refine cw_cond (b := (a.A != b.A)) rfl (fun hb1 => ?_) (fun hb1 => ?_)
    · skip
      have hF3 := ct hF2 hb1
      refine cw_seq ?_
      refine cw_region ?_
      refine sq 4 rfl rfl (Y_assign (v := .bool false) rfl rfl) ?_
      refine rw_nil ?_
      refine cw_ret ?_
      obtain rfl := some_inj hF3
      exact ret1 Try.results248 (v1 := .bool false) (resAt_tmp rfl) ⟨rfl, (ST.subR (R' := []) (hS2.sel [] rfl rfl) (fun _ h => by cases h))⟩
    · skip
      have hF4 := cf' hF2 hb1
      refine cw_skip ?_
      refine cw_seq ?_
      refine cw_seq ?_
      refine cw_region ?_
      refine sq 15 rfl rfl (Y_fieldAddr (B := some ⟨b1, 0, none⟩) (i := 0) (s := 0) k_fd_211_2_2_3 k_sz_3_1 rfl rfl) ?_
      refine sq 16 rfl rfl (Y_load1 (B := some ⟨b1, 0, none⟩) (i := 2) (cs := [.int .i64 a.Gate, .int .i64 a.A, .int .i64 a.B]) (v := .int .i64 a.B) k_sc_3 rfl rfl (hS2.cf (i := 0) rfl) rfl) ?_
      refine sq 17 rfl rfl (Y_fieldAddr (B := some ⟨b2, 0, none⟩) (i := 0) (s := 0) k_fd_211_2_2_3 k_sz_3_1 rfl rfl) ?_
      refine sq 18 rfl rfl (Y_load1 (B := some ⟨b2, 0, none⟩) (i := 2) (cs := [.int .i64 b.Gate, .int .i64 b.A, .int .i64 b.B]) (v := .int .i64 b.B) k_sc_3 rfl rfl (hS2.cf (i := 1) rfl) rfl) ?_
      refine sq 19 rfl rfl (Y_ne (k := .i64) (a := a.B) (b := b.B) rfl rfl rfl) ?_
      refine rw_nil ?_
      refine cw_cond (b := (a.B != b.B)) rfl (fun hb2 => ?_) (fun hb2 => ?_)
      · skip
        have hF5 := ct hF4 hb2
        refine cw_seq ?_
        refine cw_region ?_
        refine sq 4 rfl rfl (Y_assign (v := .bool false) rfl rfl) ?_
        refine rw_nil ?_
        refine cw_ret ?_
        obtain rfl := some_inj hF5
        exact ret1 Try.results248 (v1 := .bool false) (resAt_tmp rfl) ⟨rfl, (ST.subR (R' := []) (hS2.sel [] rfl rfl) (fun _ h => by cases h))⟩
      · skip
        have hF6 := cf' hF4 hb2
        refine cw_skip ?_
        refine cw_seq ?_
        refine cw_region ?_
        refine sq 4 rfl rfl (Y_assign (v := .bool true) rfl rfl) ?_
        refine rw_nil ?_
        refine cw_ret ?_
        obtain rfl := some_inj hF6
        exact ret1 Try.results248 (v1 := .bool true) (resAt_tmp rfl) ⟨rfl, (ST.subR (R' := []) (hS2.sel [] rfl rfl) (fun _ h => by cases h))⟩

theorem c_laws_eqRouteStepS (a : List TRouteStep) (b : List TRouteStep) (B : Option Addr) (c n : Nat) (B1 : Option Addr) (c1 n1 : Nat) (w0 : World) (hn : a.length = n) (hn1 : b.length = n1) (hS : ST w0 [] w0 [] [⟨B, (a.flatMap enc_RouteStep)⟩, ⟨B1, (b.flatMap enc_RouteStep)⟩]) {r_ : Bool} (hF : F_laws_eqRouteStepS a b = some r_) :
    CV Try.prog 158 #[.slice B n c, .slice B1 n1 c1] w0 (fun v w' => v = .bool r_ ∧ ST w0 [] w' [] []) := by
  subst hn
  subst hn1
  unfold F_laws_eqRouteStepS at hF
  refine cv_of_cw 27 Try.func158 rfl Try.ntmps158 rfl ?_
  refine cw_seq ?_
  refine cw_region ?_
  refine sq 4 rfl rfl (Y_assign (v := .bool false) rfl rfl) ?_
  refine rw_nil ?_
  refine cw_seq ?_
  refine cw_seq ?_
  refine cw_region ?_
  refine sq 6 rfl rfl (Y_move (v := .slice B a.length c) rfl rfl) ?_
  refine sq 7 rfl rfl (Y_len (B := B) (m := a.length) (c := c) k_sl_106_211 rfl rfl) ?_
  refine sq 8 rfl rfl (Y_move (v := .slice B1 b.length c1) rfl rfl) ?_
  refine sq 9 rfl rfl (Y_len (B := B1) (m := b.length) (c := c1) k_sl_106_211 rfl rfl) ?_
  refine sq 10 rfl rfl (Y_ne (k := .i64) (a := (a.length : Int)) (b := (b.length : Int)) rfl rfl rfl) ?_
  refine rw_nil ?_
  refine cw_cond (b := ((a.length : Int) != (b.length : Int))) rfl (fun hb => ?_) (fun hb => ?_)
  · skip
    have hF1 := ct hF hb
    refine cw_seq ?_
    refine cw_region ?_
    refine sq 4 rfl rfl (Y_assign (v := .bool false) rfl rfl) ?_
    refine rw_nil ?_
    refine cw_ret ?_
    obtain rfl := some_inj hF1
    exact ret1 Try.results158 (v1 := .bool false) (resAt_tmp rfl) ⟨rfl, (ST.subR (R' := []) (hS.sel [] rfl rfl) (fun _ h => by cases h))⟩
  · skip
    have hF2 := cf' hF hb
    refine cw_skip ?_
    refine cw_seq ?_
    refine cw_seq ?_
    refine cw_region ?_
    refine sq 5 rfl rfl (Y_assign (v := .int .i64 0) rfl rfl) ?_
    refine rw_nil ?_
    obtain ⟨hN, hF2⟩ := chk_inv hF2
    obtain ⟨z, hz, hF3⟩ := bind_inv hF2
    refine cw_block ?_
    refine cw_loop (fun k f w => ∃ (i1 : Nat), FF f [(0, .slice B a.length c), (1, .slice B1 b.length c1), (5, .int .i64 (i1 : Int))] ∧ ST w0 [] w [] [⟨B, (a.flatMap enc_RouteStep)⟩, ⟨B1, (b.flatMap enc_RouteStep)⟩] ∧ i1 + k = a.length ∧ forX (F_laws_eqRouteStepS_l1 a b) k i1 () = some z) a.length ⟨0, (FF.cons rfl (FF.cons rfl (FF.cons rfl FF.nil))), (hS.sel [] rfl rfl), Nat.zero_add _, hz⟩ ?_
    rintro k_ f w ⟨i1, hf, hS1, hik, hL⟩
    refine cw_seq ?_
    refine cw_seq ?_
    refine cw_region ?_
    refine sq 11 rfl rfl (Y_move (v := .int .i64 (i1 : Int)) rfl (hf.get 5 2 rfl)) ?_
    refine sq 12 rfl rfl (Y_move (v := .slice B a.length c) rfl (hf.get 0 0 rfl)) ?_
    refine sq 13 rfl rfl (Y_len (B := B) (m := a.length) (c := c) k_sl_106_211 rfl rfl) ?_
    refine sq 14 rfl rfl (Y_lt (k := .i64) (a := (i1 : Int)) (b := (a.length : Int)) rfl rfl rfl) ?_
    refine rw_nil ?_
    refine cw_cond (b := (decide ((i1 : Int) < (a.length : Int)))) rfl (fun hlt => ?_) (fun hlt => ?_)
    · skip
      have hlt1 : i1 < a.length := by have h := of_decide_eq_true hlt; omega
      obtain ⟨k_1, rfl⟩ : ∃ k2, k_ = k2 + 1 := ⟨k_ - 1, by omega⟩
      obtain ⟨y, hb1, hL1⟩ := forX_go hL
      unfold F_laws_eqRouteStepS_l1 at hb1
      refine cw_skip ?_
      refine cw_seq ?_
      refine cw_block ?_
      refine cw_seq ?_
      obtain ⟨x, hx, hb1⟩ := bind_inv hb1
      obtain ⟨x1, hx1, hb1⟩ := bind_inv hb1
      obtain ⟨r_1, hc, hb1⟩ := bind_inv hb1
      refine ra_start (ST.sel hS1 [] rfl rfl).fn (by kernel_rfl) ?_
      have hS3 := hS1.drew
      refine ra_q 0 17 (v := .slice B a.length c) rfl rfl rfl (by kernel_rfl) (by kernel_rfl) (by kernel_rfl) (ST.sel hS3 [] rfl rfl) (fun w' hw' => (Y_move (v := .slice B a.length c) rfl (hf.get 0 0 rfl))) ?_
      refine ra_q 1 18 (v := .int .i64 (i1 : Int)) rfl rfl rfl (by kernel_rfl) (by kernel_rfl) (by kernel_rfl) (ST.sel hS3 [] rfl rfl) (fun w' hw' => (Y_move (v := .int .i64 (i1 : Int)) rfl (hf.get 5 2 rfl))) ?_
      refine ra_q 2 19 (v := pt B ((i1 : Int).toNat * 3)) rfl rfl rfl (by kernel_rfl) (by kernel_rfl) (by kernel_rfl) (ST.sel hS3 [] rfl rfl) (fun w' hw' => (Y_index (B := B) (m := a.length) (c := c) (k := .i64) (i := (i1 : Int)) k_sl_106_211 k_sz_211_3 rfl rfl rfl (gi_isSome enc_RouteStep_len rfl (ST.rf hw' (i := 0) rfl) hx) (getI_nn hx) (getI_ltI hx rfl))) ?_
      refine ra_q 3 20 (v := .agg #[.int .i64 x.Gate, .int .i64 x.A, .int .i64 x.B]) rfl rfl rfl (by kernel_rfl) (by kernel_rfl) (by kernel_rfl) (ST.sel hS3 [] rfl rfl) (fun w' hw' => (Y_loadA (B := B) (i := (i1 : Int).toNat * 3) (cs := (a.flatMap enc_RouteStep)) (vs := [.int .i64 x.Gate, .int .i64 x.A, .int .i64 x.B]) k_ag_211 k_sz_211_3 rfl rfl (ST.rf hw' (i := 0) rfl) (enc_RouteStep_len x) (gi_seg enc_RouteStep_len hx))) ?_
      refine ra_q 4 21 (v := .slice B1 b.length c1) rfl rfl rfl (by kernel_rfl) (by kernel_rfl) (by kernel_rfl) (ST.sel hS3 [] rfl rfl) (fun w' hw' => (Y_move (v := .slice B1 b.length c1) rfl (hf.get 1 1 rfl))) ?_
      refine ra_q 5 22 (v := .int .i64 (i1 : Int)) rfl rfl rfl (by kernel_rfl) (by kernel_rfl) (by kernel_rfl) (ST.sel hS3 [] rfl rfl) (fun w' hw' => (Y_move (v := .int .i64 (i1 : Int)) rfl (hf.get 5 2 rfl))) ?_
      refine ra_q 6 23 (v := pt B1 ((i1 : Int).toNat * 3)) rfl rfl rfl (by kernel_rfl) (by kernel_rfl) (by kernel_rfl) (ST.sel hS3 [] rfl rfl) (fun w' hw' => (Y_index (B := B1) (m := b.length) (c := c1) (k := .i64) (i := (i1 : Int)) k_sl_106_211 k_sz_211_3 rfl rfl rfl (gi_isSome enc_RouteStep_len rfl (ST.rf hw' (i := 1) rfl) hx1) (getI_nn hx1) (getI_ltI hx1 rfl))) ?_
      refine ra_q 7 24 (v := .agg #[.int .i64 x1.Gate, .int .i64 x1.A, .int .i64 x1.B]) rfl rfl rfl (by kernel_rfl) (by kernel_rfl) (by kernel_rfl) (ST.sel hS3 [] rfl rfl) (fun w' hw' => (Y_loadA (B := B1) (i := (i1 : Int).toNat * 3) (cs := (b.flatMap enc_RouteStep)) (vs := [.int .i64 x1.Gate, .int .i64 x1.A, .int .i64 x1.B]) k_ag_211 k_sz_211_3 rfl rfl (ST.rf hw' (i := 1) rfl) (enc_RouteStep_len x1) (gi_seg enc_RouteStep_len hx1))) ?_
      refine ra_all (rs := [8]) (by kernel_rfl) rfl ?_
      refine ra_c 25 (i := 8) rfl rfl rfl (Yc_func (g := 248) (vs := [.agg #[.int .i64 x.Gate, .int .i64 x.A, .int .i64 x.B], .agg #[.int .i64 x1.Gate, .int .i64 x1.A, .int .i64 x1.B]]) k_call_248 rfl (mc rfl (mc rfl mn)) (c_laws_eqRouteStep x x1 _  (hS3.inn0 [] rfl) hc)) ?_ ?_
      · rintro _ w_ ⟨rfl, hd⟩
        have hS4 := hS3.out00 hd
        refine ⟨(ST.sel hS4 [] rfl rfl), ?_⟩
        refine ra_q 9 26 (v := .bool (!r_1)) rfl rfl rfl (by kernel_rfl) (by kernel_rfl) (by kernel_rfl) (ST.sel hS4 [] rfl rfl) (fun w' hw' => (Y_not (p := r_1) rfl rfl)) ?_
        refine ra_done (by kernel_rfl) ?_
        refine cw_cond (b := (!r_1)) rfl (fun hb2 => ?_) (fun hb2 => ?_)
        · skip
          have hF4 := ct hb1 hb2
          refine cw_seq ?_
          refine cw_region ?_
          refine sq 4 rfl rfl (Y_assign (v := .bool false) rfl rfl) ?_
          refine rw_nil ?_
          refine cw_ret ?_
          obtain rfl := some_inj hF4
          obtain rfl := some_inj hL1
          obtain rfl := some_inj hF3
          exact ret1 Try.results158 (v1 := .bool false) (resAt_tmp rfl) ⟨rfl, (ST.subR (R' := []) (hS4.sel [] rfl rfl) (fun _ h => by cases h))⟩
        · skip
          have hF5 := cf' hb1 hb2
          refine cw_skip ?_
          refine cw_region ?_
          refine sq 15 rfl rfl (Y_move (v := .int .i64 (i1 : Int)) rfl (hf.get 5 2 rfl)) ?_
          refine sq 16 rfl rfl (Y_add (k := .i64) (a := (i1 : Int)) (b := 1) rfl rfl rfl) ?_
          refine sq 5 rfl rfl (Y_assign (v := .int .i64 (IntKind.i64.wrap ((i1 : Int) + 1))) rfl rfl) ?_
          refine rw_nil ?_
          obtain rfl := some_inj hF5
          exact ⟨k_1, Nat.lt_succ_self _, i1 + 1, (FF.cons (hf.get 0 0 rfl) (FF.cons (hf.get 1 1 rfl) (FF.cons (congrArg (Value.int .i64) (wr_succ hlt1 hN)) FF.nil))), (hS4.sel [] rfl rfl), (by omega), hL1⟩
      exact allR_nil
    · skip
      obtain rfl : k_ = 0 := by have h := of_decide_eq_false hlt; omega
      refine cw_exit rfl ?_
      obtain rfl := some_inj hL
      refine cw_seq ?_
      refine cw_region ?_
      refine sq 4 rfl rfl (Y_assign (v := .bool true) rfl rfl) ?_
      refine rw_nil ?_
      refine cw_ret ?_
      obtain rfl := some_inj hF3
      exact ret1 Try.results158 (v1 := .bool true) (resAt_tmp rfl) ⟨rfl, (ST.subR (R' := []) (hS1.sel [] rfl rfl) (fun _ h => by cases h))⟩

theorem c_laws_eqRoute (a : TRoute) (b : TRoute) (B : Option Addr) (c n : Nat) (B1 : Option Addr) (c1 n1 : Nat) (B2 : Option Addr) (c2 n2 : Nat) (B3 : Option Addr) (c3 n3 : Nat) (w0 : World) (hn : a.Start.length = n) (hn1 : a.Steps.length = n1) (hn2 : b.Start.length = n2) (hn3 : b.Steps.length = n3) (hS : ST w0 [] w0 [] [⟨B, (a.Start.flatMap encI)⟩, ⟨B1, (a.Steps.flatMap enc_RouteStep)⟩, ⟨B2, (b.Start.flatMap encI)⟩, ⟨B3, (b.Steps.flatMap enc_RouteStep)⟩]) {r_ : Bool} (hF : F_laws_eqRoute a b = some r_) :
    CV Try.prog 61 #[.agg #[.slice B n c, .slice B1 n1 c1], .agg #[.slice B2 n2 c2, .slice B3 n3 c3]] w0 (fun v w' => v = .bool r_ ∧ ST w0 [] w' [] []) := by
  subst hn
  subst hn1
  subst hn2
  subst hn3
  unfold F_laws_eqRoute at hF
  refine cv_of_cw 17 Try.func61 rfl Try.ntmps61 rfl ?_
  refine cw_seq ?_
  refine cw_region ?_
  refine ss 2 rfl rfl (Ys_box (T := 108) (v := .agg #[.slice B a.Start.length c, .slice B1 a.Steps.length c1]) (cs := [.slice B a.Start.length c, .slice B1 a.Steps.length c1]) (m := 2) hS rfl rfl rfl rfl) ?_
  rintro _ w_ ⟨b1, rfl, hS1⟩
  refine ss 3 rfl rfl (Ys_box (T := 108) (v := .agg #[.slice B2 b.Start.length c2, .slice B3 b.Steps.length c3]) (cs := [.slice B2 b.Start.length c2, .slice B3 b.Steps.length c3]) (m := 2) hS1 rfl rfl rfl rfl) ?_
  rintro _ w_1 ⟨b2, rfl, hS2⟩
  have hS2 : ST w0 [] _ [⟨some ⟨b1, 0, none⟩, 108, [.slice B a.Start.length c, .slice B1 a.Steps.length c1], 2⟩, ⟨some ⟨b2, 0, none⟩, 108, [.slice B2 b.Start.length c2, .slice B3 b.Steps.length c3], 2⟩] [⟨B, (a.Start.flatMap encI)⟩, ⟨B1, (a.Steps.flatMap enc_RouteStep)⟩, ⟨B2, (b.Start.flatMap encI)⟩, ⟨B3, (b.Steps.flatMap enc_RouteStep)⟩] := hS2
  refine sq 4 rfl rfl (Y_assign (v := .bool false) rfl rfl) ?_
  refine rw_nil ?_
  refine cw_seq ?_
  refine cw_seq ?_
  refine cw_region ?_
  refine sq 5 rfl rfl (Y_fieldAddr (B := some ⟨b1, 0, none⟩) (i := 0) (s := 0) k_fd_108_0_0_59 k_sz_59_1 rfl rfl) ?_
  refine sq 6 rfl rfl (Y_load1 (B := some ⟨b1, 0, none⟩) (i := 0) (cs := [.slice B a.Start.length c, .slice B1 a.Steps.length c1]) (v := .slice B a.Start.length c) k_sc_59 rfl rfl (hS2.cf (i := 0) rfl) rfl) ?_
  refine sq 7 rfl rfl (Y_fieldAddr (B := some ⟨b2, 0, none⟩) (i := 0) (s := 0) k_fd_108_0_0_59 k_sz_59_1 rfl rfl) ?_
  refine sq 8 rfl rfl (Y_load1 (B := some ⟨b2, 0, none⟩) (i := 0) (cs := [.slice B2 b.Start.length c2, .slice B3 b.Steps.length c3]) (v := .slice B2 b.Start.length c2) k_sc_59 rfl rfl (hS2.cf (i := 1) rfl) rfl) ?_
  obtain ⟨r_1, hc, hF⟩ := bind_inv hF
  refine sc 9 rfl rfl (Yc_func (g := 64) (vs := [.slice B a.Start.length c, .slice B2 b.Start.length c2]) k_call_64 rfl (mc rfl (mc rfl mn)) (c_laws_eqIntS a.Start b.Start B c a.Start.length B2 c2 b.Start.length _ rfl rfl (hS2.inn0 [(true, 0), (true, 2)] rfl) hc)) ?_
  rintro _ w_2 ⟨rfl, hd⟩
  have hS3 := hS2.out00 hd
  have hS3 : ST w0 [] _ [⟨some ⟨b1, 0, none⟩, 108, [.slice B a.Start.length c, .slice B1 a.Steps.length c1], 2⟩, ⟨some ⟨b2, 0, none⟩, 108, [.slice B2 b.Start.length c2, .slice B3 b.Steps.length c3], 2⟩] [⟨B, (a.Start.flatMap encI)⟩, ⟨B1, (a.Steps.flatMap enc_RouteStep)⟩, ⟨B2, (b.Start.flatMap encI)⟩, ⟨B3, (b.Steps.flatMap enc_RouteStep)⟩] := hS3
  refine sq 10 rfl rfl (Y_not (p := r_1) rfl rfl) ?_
  refine rw_nil ?_
  refine cw_cond (b := (!r_1)) rfl (fun hb => ?_) (fun hb => ?_)
  · skip
    have hF1 := ct hF hb
    refine cw_seq ?_
    refine cw_region ?_
    refine sq 4 rfl rfl (Y_assign (v := .bool false) rfl rfl) ?_
    refine rw_nil ?_
    refine cw_ret ?_
    obtain rfl := some_inj hF1
    exact ret1 Try.results61 (v1 := .bool false) (resAt_tmp rfl) ⟨rfl, (ST.subR (R' := []) (hS3.sel [] rfl rfl) (fun _ h => by cases h))⟩
  · skip
    have hF2 := cf' hF hb
    refine cw_skip ?_
    refine cw_seq ?_
    refine cw_seq ?_
    refine cw_region ?_
    refine sq 11 rfl rfl (Y_fieldAddr (B := some ⟨b1, 0, none⟩) (i := 0) (s := 0) k_fd_108_1_1_106 k_sz_106_1 rfl rfl) ?_
    refine sq 12 rfl rfl (Y_load1 (B := some ⟨b1, 0, none⟩) (i := 1) (cs := [.slice B a.Start.length c, .slice B1 a.Steps.length c1]) (v := .slice B1 a.Steps.length c1) k_sc_106 rfl rfl (hS3.cf (i := 0) rfl) rfl) ?_
    refine sq 13 rfl rfl (Y_fieldAddr (B := some ⟨b2, 0, none⟩) (i := 0) (s := 0) k_fd_108_1_1_106 k_sz_106_1 rfl rfl) ?_
    refine sq 14 rfl rfl (Y_load1 (B := some ⟨b2, 0, none⟩) (i := 1) (cs := [.slice B2 b.Start.length c2, .slice B3 b.Steps.length c3]) (v := .slice B3 b.Steps.length c3) k_sc_106 rfl rfl (hS3.cf (i := 1) rfl) rfl) ?_
    obtain ⟨r_2, hc1, hF2⟩ := bind_inv hF2
    refine sc 15 rfl rfl (Yc_func (g := 158) (vs := [.slice B1 a.Steps.length c1, .slice B3 b.Steps.length c3]) k_call_158 rfl (mc rfl (mc rfl mn)) (c_laws_eqRouteStepS a.Steps b.Steps B1 c1 a.Steps.length B3 c3 b.Steps.length _ rfl rfl (hS3.inn0 [(true, 1), (true, 3)] rfl) hc1)) ?_
    rintro _ w_3 ⟨rfl, hd1⟩
    have hS4 := hS3.out00 hd1
    have hS4 : ST w0 [] _ [⟨some ⟨b1, 0, none⟩, 108, [.slice B a.Start.length c, .slice B1 a.Steps.length c1], 2⟩, ⟨some ⟨b2, 0, none⟩, 108, [.slice B2 b.Start.length c2, .slice B3 b.Steps.length c3], 2⟩] [⟨B, (a.Start.flatMap encI)⟩, ⟨B1, (a.Steps.flatMap enc_RouteStep)⟩, ⟨B2, (b.Start.flatMap encI)⟩, ⟨B3, (b.Steps.flatMap enc_RouteStep)⟩] := hS4
    refine sq 16 rfl rfl (Y_not (p := r_2) rfl rfl) ?_
    refine rw_nil ?_
    refine cw_cond (b := (!r_2)) rfl (fun hb1 => ?_) (fun hb1 => ?_)
    · skip
      have hF3 := ct hF2 hb1
      refine cw_seq ?_
      refine cw_region ?_
      refine sq 4 rfl rfl (Y_assign (v := .bool false) rfl rfl) ?_
      refine rw_nil ?_
      refine cw_ret ?_
      obtain rfl := some_inj hF3
      exact ret1 Try.results61 (v1 := .bool false) (resAt_tmp rfl) ⟨rfl, (ST.subR (R' := []) (hS4.sel [] rfl rfl) (fun _ h => by cases h))⟩
    · skip
      have hF4 := cf' hF2 hb1
      refine cw_skip ?_
      refine cw_seq ?_
      refine cw_region ?_
      refine sq 4 rfl rfl (Y_assign (v := .bool true) rfl rfl) ?_
      refine rw_nil ?_
      refine cw_ret ?_
      obtain rfl := some_inj hF4
      exact ret1 Try.results61 (v1 := .bool true) (resAt_tmp rfl) ⟨rfl, (ST.subR (R' := []) (hS4.sel [] rfl rfl) (fun _ h => by cases h))⟩

theorem c_laws_markEdgeS (a : List TEdge) (k_ : Int) (B : Option Addr) (c n : Nat) (w0 : World) (hn : a.length = n) (hS : ST w0 (bl [⟨B, 277, (a.flatMap enc_Edge), c * 2⟩]) w0 [⟨B, 277, (a.flatMap enc_Edge), c * 2⟩] []) {r_ : Int} {m : List TEdge} (hF : F_laws_markEdgeS a k_ = some (r_, m)) :
    CV Try.prog 159 #[.slice B n c, .int .i64 k_] w0 (fun v w' => v = .int .i64 r_ ∧ m.length = n ∧ ST w0 (bl [⟨B, 277, (a.flatMap enc_Edge), c * 2⟩]) w' [⟨B, 277, (m.flatMap enc_Edge), c * 2⟩] []) := by
  subst hn
  unfold F_laws_markEdgeS at hF
  refine cv_of_cw 27 Try.func159 rfl Try.ntmps159 rfl ?_
  refine cw_seq ?_
  refine cw_region ?_
  refine sq 4 rfl rfl (Y_assign (v := .int .i64 0) rfl rfl) ?_
  refine rw_nil ?_
  refine cw_seq ?_
  refine cw_seq ?_
  refine cw_region ?_
  refine sq 5 rfl rfl (Y_assign (v := .int .i64 0) rfl rfl) ?_
  refine rw_nil ?_
  obtain ⟨hN, hF⟩ := chk_inv hF
  obtain ⟨z, hz, hF1⟩ := bind_inv hF
  refine cw_block ?_
  refine cw_loop (fun k f w => ∃ (i1 : Nat) (m1 : List TEdge) (k_1 : Int), FF f [(0, .slice B a.length c), (1, .int .i64 k_1), (5, .int .i64 (i1 : Int))] ∧ m1.length = a.length ∧ ST w0 (bl [⟨B, 277, (a.flatMap enc_Edge), c * 2⟩]) w [⟨B, 277, (m1.flatMap enc_Edge), c * 2⟩] [] ∧ i1 + k = a.length ∧ forN F_laws_markEdgeS_l1 k i1 (m1, k_1) = some z) a.length ⟨0, a, k_, (FF.cons rfl (FF.cons rfl (FF.cons rfl FF.nil))), rfl, (hS.sel [0] rfl rfl), Nat.zero_add _, hz⟩ ?_
  rintro k_2 f w ⟨i1, m1, k_1, hf, hl, hS1, hik, hL⟩
  refine cw_seq ?_
  refine cw_seq ?_
  refine cw_region ?_
  refine sq 6 rfl rfl (Y_move (v := .int .i64 (i1 : Int)) rfl (hf.get 5 2 rfl)) ?_
  refine sq 7 rfl rfl (Y_move (v := .slice B a.length c) rfl (hf.get 0 0 rfl)) ?_
  refine sq 8 rfl rfl (Y_len (B := B) (m := a.length) (c := c) k_sl_98_277 rfl rfl) ?_
  refine sq 9 rfl rfl (Y_lt (k := .i64) (a := (i1 : Int)) (b := (a.length : Int)) rfl rfl rfl) ?_
  refine rw_nil ?_
  refine cw_cond (b := (decide ((i1 : Int) < (a.length : Int)))) rfl (fun hlt => ?_) (fun hlt => ?_)
  · skip
    have hlt1 : i1 < a.length := by have h := of_decide_eq_true hlt; omega
    obtain ⟨k_3, rfl⟩ : ∃ k2, k_2 = k2 + 1 := ⟨k_2 - 1, by omega⟩
    obtain ⟨y, hb, hL1⟩ := forN_go hL
    unfold F_laws_markEdgeS_l1 at hb
    refine cw_skip ?_
    refine cw_seq ?_
    refine cw_block ?_
    refine cw_seq ?_
    refine cw_region ?_
    refine sq 12 rfl rfl (Y_move (v := .slice B a.length c) rfl (hf.get 0 0 rfl)) ?_
    refine sq 13 rfl rfl (Y_move (v := .int .i64 (i1 : Int)) rfl (hf.get 5 2 rfl)) ?_
    refine sq 14 rfl rfl (Y_move (v := .int .i64 k_1) rfl (hf.get 1 1 rfl)) ?_
    obtain ⟨x, hx, hb⟩ := bind_inv hb
    refine sq 15 rfl rfl (Y_index (B := B) (m := a.length) (c := c) (k := .i64) (i := (i1 : Int)) k_sl_98_277 k_sz_277_2 rfl rfl rfl (gi_isSome enc_Edge_len rfl (hS1.cf (i := 0) rfl) hx) (getI_nn hx) (getI_ltI hx hl)) ?_
    refine sq 16 rfl rfl (Y_fieldAddr (B := B) (i := (i1 : Int).toNat * 2) (s := 0) k_fd_277_0_0_3 k_sz_3_1 rfl rfl) ?_
    refine ss0 rfl rfl (Ys_store (i := 0) (s := 1) (B := B) (T' := 277) (v := .int .i64 k_1) (vs := [.int .i64 k_1]) (k := (i1 : Int).toNat * 2 + 0) (cs' := ((m1.set (i1 : Int).toNat (TEdge.mk k_1 x.B)).flatMap enc_Edge)) hS1 k_sz_3_1 rfl rfl rfl rfl rfl rfl rfl (gi_fit enc_Edge_len hx (j := 0) (k := 1) (by decide)) (gi_setf enc_Edge_len hx (TEdge.mk k_1 x.B) rfl (Nat.le_of_ble_eq_true rfl)) rfl) ?_
    rintro _ w_ ⟨rfl, hS2⟩
    refine rw_nil ?_
    refine cw_seq ?_
    refine cw_region ?_
    refine sq 17 rfl rfl (Y_move (v := .int .i64 k_1) rfl (hf.get 1 1 rfl)) ?_
    refine sq 18 rfl rfl (Y_add (k := .i64) (a := k_1) (b := 1) rfl rfl rfl) ?_
    refine sq 1 rfl rfl (Y_assign (v := .int .i64 (IntKind.i64.wrap (k_1 + 1))) rfl rfl) ?_
    refine rw_nil ?_
    refine cw_seq ?_
    refine cw_region ?_
    refine sq 19 rfl rfl (Y_move (v := .slice B a.length c) rfl (hf.get 0 0 rfl)) ?_
    refine sq 20 rfl rfl (Y_move (v := .int .i64 (i1 : Int)) rfl (hf.get 5 2 rfl)) ?_
    refine sq 21 rfl rfl (Y_move (v := .int .i64 (IntKind.i64.wrap (k_1 + 1))) rfl rfl) ?_
    refine sq 22 rfl rfl (Y_index (B := B) (m := a.length) (c := c) (k := .i64) (i := (i1 : Int)) k_sl_98_277 k_sz_277_2 rfl rfl rfl (gi_isSome enc_Edge_len rfl (hS2.cf (i := 0) rfl) (getI_set (y := (TEdge.mk k_1 x.B)) hx)) (getI_nn (getI_set (y := (TEdge.mk k_1 x.B)) hx)) (getI_ltI (getI_set (y := (TEdge.mk k_1 x.B)) hx) (set_len _ _ _ hl))) ?_
    refine sq 23 rfl rfl (Y_fieldAddr (B := B) (i := (i1 : Int).toNat * 2) (s := 0) k_fd_277_1_1_3 k_sz_3_1 rfl rfl) ?_
    refine ss0 rfl rfl (Ys_store (i := 0) (s := 1) (B := B) (T' := 277) (v := .int .i64 (IntKind.i64.wrap (k_1 + 1))) (vs := [.int .i64 (IntKind.i64.wrap (k_1 + 1))]) (k := (i1 : Int).toNat * 2 + 1) (cs' := (((m1.set (i1 : Int).toNat (TEdge.mk k_1 x.B)).set (i1 : Int).toNat (TEdge.mk k_1 (IntKind.i64.wrap (k_1 + 1)))).flatMap enc_Edge)) hS2 k_sz_3_1 rfl rfl rfl rfl rfl rfl rfl (gi_fit enc_Edge_len (getI_set (y := (TEdge.mk k_1 x.B)) hx) (j := 1) (k := 1) (by decide)) (gi_setf enc_Edge_len (getI_set (y := (TEdge.mk k_1 x.B)) hx) (TEdge.mk k_1 (IntKind.i64.wrap (k_1 + 1))) rfl (Nat.le_of_ble_eq_true rfl)) rfl) ?_
    rintro _ w_1 ⟨rfl, hS3⟩
    refine rw_nil ?_
    refine cw_region ?_
    refine sq 24 rfl rfl (Y_move (v := .int .i64 (IntKind.i64.wrap (k_1 + 1))) rfl rfl) ?_
    refine sq 25 rfl rfl (Y_add (k := .i64) (a := (IntKind.i64.wrap (k_1 + 1))) (b := 1) rfl rfl rfl) ?_
    refine sq 1 rfl rfl (Y_assign (v := .int .i64 (IntKind.i64.wrap ((IntKind.i64.wrap (k_1 + 1)) + 1))) rfl rfl) ?_
    refine rw_nil ?_
    refine cw_region ?_
    refine sq 10 rfl rfl (Y_move (v := .int .i64 (i1 : Int)) rfl (hf.get 5 2 rfl)) ?_
    refine sq 11 rfl rfl (Y_add (k := .i64) (a := (i1 : Int)) (b := 1) rfl rfl rfl) ?_
    refine sq 5 rfl rfl (Y_assign (v := .int .i64 (IntKind.i64.wrap ((i1 : Int) + 1))) rfl rfl) ?_
    refine rw_nil ?_
    obtain rfl := some_inj hb
    exact ⟨k_3, Nat.lt_succ_self _, i1 + 1, ((m1.set (i1 : Int).toNat (TEdge.mk k_1 x.B)).set (i1 : Int).toNat (TEdge.mk k_1 (IntKind.i64.wrap (k_1 + 1)))), (IntKind.i64.wrap ((IntKind.i64.wrap (k_1 + 1)) + 1)), (FF.cons (hf.get 0 0 rfl) (FF.cons rfl (FF.cons (congrArg (Value.int .i64) (wr_succ hlt1 hN)) FF.nil))), (set_len _ _ _ (set_len _ _ _ hl)), (hS3.sel [0] rfl rfl), (by omega), hL1⟩
  · skip
    obtain rfl : k_2 = 0 := by have h := of_decide_eq_false hlt; omega
    refine cw_exit rfl ?_
    obtain rfl := some_inj hL
    refine cw_seq ?_
    refine cw_region ?_
    refine sq 26 rfl rfl (Y_move (v := .int .i64 k_1) rfl (hf.get 1 1 rfl)) ?_
    refine sq 4 rfl rfl (Y_assign (v := .int .i64 k_1) rfl rfl) ?_
    refine rw_nil ?_
    refine cw_ret ?_
    obtain ⟨rfl, rfl⟩ := pr2 (some_inj hF1)
    exact ret1 Try.results159 (v1 := .int .i64 k_1) (resAt_tmp rfl) ⟨rfl, hl, (ST.subR (R' := []) (hS1.sel [0] rfl rfl) (fun _ h => by cases h))⟩

theorem c_laws_markCouplingGraph (a : TCouplingGraph) (k_ : Int) (B : Option Addr) (c n : Nat) (w0 : World) (hn : a.Edges.length = n) (hS : ST w0 (bl [⟨B, 277, (a.Edges.flatMap enc_Edge), c * 2⟩]) w0 [⟨B, 277, (a.Edges.flatMap enc_Edge), c * 2⟩] []) {r_ : Int} {m : List TEdge} (hF : F_laws_markCouplingGraph a k_ = some (r_, m)) :
    CV Try.prog 65 #[.agg #[.int .i64 a.Nodes, .slice B n c], .int .i64 k_] w0 (fun v w' => v = .int .i64 r_ ∧ m.length = n ∧ ST w0 (bl [⟨B, 277, (a.Edges.flatMap enc_Edge), c * 2⟩]) w' [⟨B, 277, (m.flatMap enc_Edge), c * 2⟩] []) := by
  subst hn
  unfold F_laws_markCouplingGraph at hF
  refine cv_of_cw 10 Try.func65 rfl Try.ntmps65 rfl ?_
  refine cw_seq ?_
  refine cw_region ?_
  refine ss 2 rfl rfl (Ys_box (T := 100) (v := .agg #[.int .i64 a.Nodes, .slice B a.Edges.length c]) (cs := [.int .i64 a.Nodes, .slice B a.Edges.length c]) (m := 2) hS rfl rfl rfl rfl) ?_
  rintro _ w_ ⟨b, rfl, hS1⟩
  have hS1 : ST w0 (bl [⟨B, 277, (a.Edges.flatMap enc_Edge), c * 2⟩]) _ [⟨B, 277, (a.Edges.flatMap enc_Edge), c * 2⟩, ⟨some ⟨b, 0, none⟩, 100, [.int .i64 a.Nodes, .slice B a.Edges.length c], 2⟩] [] := hS1
  refine sq 4 rfl rfl (Y_assign (v := .int .i64 0) rfl rfl) ?_
  refine rw_nil ?_
  refine cw_seq ?_
  refine cw_region ?_
  refine sq 5 rfl rfl (Y_fieldAddr (B := some ⟨b, 0, none⟩) (i := 0) (s := 0) k_fd_100_1_1_98 k_sz_98_1 rfl rfl) ?_
  refine sq 6 rfl rfl (Y_load1 (B := some ⟨b, 0, none⟩) (i := 1) (cs := [.int .i64 a.Nodes, .slice B a.Edges.length c]) (v := .slice B a.Edges.length c) k_sc_98 rfl rfl (hS1.cf (i := 1) rfl) rfl) ?_
  refine sq 7 rfl rfl (Y_move (v := .int .i64 k_) rfl rfl) ?_
  obtain ⟨⟨r_1, m1⟩, hc, hF⟩ := bind_inv hF
  refine sc 8 rfl rfl (Yc_func (g := 159) (vs := [.slice B a.Edges.length c, .int .i64 k_]) k_call_159 rfl (mc rfl (mc rfl mn)) (c_laws_markEdgeS a.Edges k_ B c a.Edges.length _ rfl (hS1.inn [true, false] rfl [] rfl) hc)) ?_
  rintro _ w_1 ⟨rfl, hl, hd⟩
  have hS2 := hS1.out [true, false] rfl hd
  have hS2 : ST w0 (bl [⟨B, 277, (a.Edges.flatMap enc_Edge), c * 2⟩]) _ [⟨some ⟨b, 0, none⟩, 100, [.int .i64 a.Nodes, .slice B a.Edges.length c], 2⟩, ⟨B, 277, (m1.flatMap enc_Edge), c * 2⟩] [] := hS2
  refine sq 1 rfl rfl (Y_assign (v := .int .i64 r_1) rfl rfl) ?_
  refine rw_nil ?_
  refine cw_seq ?_
  refine cw_region ?_
  refine sq 9 rfl rfl (Y_move (v := .int .i64 r_1) rfl rfl) ?_
  refine sq 4 rfl rfl (Y_assign (v := .int .i64 r_1) rfl rfl) ?_
  refine rw_nil ?_
  refine cw_ret ?_
  obtain ⟨rfl, rfl⟩ := pr2 (some_inj hF)
  exact ret1 Try.results65 (v1 := .int .i64 r_1) (resAt_tmp rfl) ⟨rfl, hl, (ST.subR (R' := []) (hS2.sel [1] rfl rfl) (fun _ h => by cases h))⟩

theorem c_laws_markGateS (a : List TGate) (k_ : Int) (B : Option Addr) (c n : Nat) (w0 : World) (hn : a.length = n) (hS : ST w0 (bl [⟨B, 213, (a.flatMap enc_Gate), c * 3⟩]) w0 [⟨B, 213, (a.flatMap enc_Gate), c * 3⟩] []) {r_ : Int} {m : List TGate} (hF : F_laws_markGateS a k_ = some (r_, m)) :
    CV Try.prog 160 #[.slice B n c, .int .i64 k_] w0 (fun v w' => v = .int .i64 r_ ∧ m.length = n ∧ ST w0 (bl [⟨B, 213, (a.flatMap enc_Gate), c * 3⟩]) w' [⟨B, 213, (m.flatMap enc_Gate), c * 3⟩] []) := by
  subst hn
  unfold F_laws_markGateS at hF
  refine cv_of_cw 34 Try.func160 rfl Try.ntmps160 rfl ?_
  refine cw_seq ?_
  refine cw_region ?_
  refine sq 4 rfl rfl (Y_assign (v := .int .i64 0) rfl rfl) ?_
  refine rw_nil ?_
  refine cw_seq ?_
  refine cw_seq ?_
  refine cw_region ?_
  refine sq 5 rfl rfl (Y_assign (v := .int .i64 0) rfl rfl) ?_
  refine rw_nil ?_
  obtain ⟨hN, hF⟩ := chk_inv hF
  obtain ⟨z, hz, hF1⟩ := bind_inv hF
  refine cw_block ?_
  refine cw_loop (fun k f w => ∃ (i1 : Nat) (m1 : List TGate) (k_1 : Int), FF f [(0, .slice B a.length c), (1, .int .i64 k_1), (5, .int .i64 (i1 : Int))] ∧ m1.length = a.length ∧ ST w0 (bl [⟨B, 213, (a.flatMap enc_Gate), c * 3⟩]) w [⟨B, 213, (m1.flatMap enc_Gate), c * 3⟩] [] ∧ i1 + k = a.length ∧ forN F_laws_markGateS_l1 k i1 (m1, k_1) = some z) a.length ⟨0, a, k_, (FF.cons rfl (FF.cons rfl (FF.cons rfl FF.nil))), rfl, (hS.sel [0] rfl rfl), Nat.zero_add _, hz⟩ ?_
  rintro k_2 f w ⟨i1, m1, k_1, hf, hl, hS1, hik, hL⟩
  refine cw_seq ?_
  refine cw_seq ?_
  refine cw_region ?_
  refine sq 6 rfl rfl (Y_move (v := .int .i64 (i1 : Int)) rfl (hf.get 5 2 rfl)) ?_
  refine sq 7 rfl rfl (Y_move (v := .slice B a.length c) rfl (hf.get 0 0 rfl)) ?_
  refine sq 8 rfl rfl (Y_len (B := B) (m := a.length) (c := c) k_sl_102_213 rfl rfl) ?_
  refine sq 9 rfl rfl (Y_lt (k := .i64) (a := (i1 : Int)) (b := (a.length : Int)) rfl rfl rfl) ?_
  refine rw_nil ?_
  refine cw_cond (b := (decide ((i1 : Int) < (a.length : Int)))) rfl (fun hlt => ?_) (fun hlt => ?_)
  · skip
    have hlt1 : i1 < a.length := by have h := of_decide_eq_true hlt; omega
    obtain ⟨k_3, rfl⟩ : ∃ k2, k_2 = k2 + 1 := ⟨k_2 - 1, by omega⟩
    obtain ⟨y, hb, hL1⟩ := forN_go hL
    unfold F_laws_markGateS_l1 at hb
    refine cw_skip ?_
    refine cw_seq ?_
    refine cw_block ?_
    refine cw_seq ?_
    refine cw_region ?_
    refine sq 12 rfl rfl (Y_move (v := .slice B a.length c) rfl (hf.get 0 0 rfl)) ?_
    refine sq 13 rfl rfl (Y_move (v := .int .i64 (i1 : Int)) rfl (hf.get 5 2 rfl)) ?_
    refine sq 14 rfl rfl (Y_move (v := .int .i64 k_1) rfl (hf.get 1 1 rfl)) ?_
    obtain ⟨x, hx, hb⟩ := bind_inv hb
    refine sq 15 rfl rfl (Y_index (B := B) (m := a.length) (c := c) (k := .i64) (i := (i1 : Int)) k_sl_102_213 k_sz_213_3 rfl rfl rfl (gi_isSome enc_Gate_len rfl (hS1.cf (i := 0) rfl) hx) (getI_nn hx) (getI_ltI hx hl)) ?_
    refine sq 16 rfl rfl (Y_fieldAddr (B := B) (i := (i1 : Int).toNat * 3) (s := 0) k_fd_213_0_0_3 k_sz_3_1 rfl rfl) ?_
    refine ss0 rfl rfl (Ys_store (i := 0) (s := 1) (B := B) (T' := 213) (v := .int .i64 k_1) (vs := [.int .i64 k_1]) (k := (i1 : Int).toNat * 3 + 0) (cs' := ((m1.set (i1 : Int).toNat (TGate.mk k_1 x.A x.B)).flatMap enc_Gate)) hS1 k_sz_3_1 rfl rfl rfl rfl rfl rfl rfl (gi_fit enc_Gate_len hx (j := 0) (k := 1) (by decide)) (gi_setf enc_Gate_len hx (TGate.mk k_1 x.A x.B) rfl (Nat.le_of_ble_eq_true rfl)) rfl) ?_
    rintro _ w_ ⟨rfl, hS2⟩
    refine rw_nil ?_
    refine cw_seq ?_
    refine cw_region ?_
    refine sq 17 rfl rfl (Y_move (v := .int .i64 k_1) rfl (hf.get 1 1 rfl)) ?_
    refine sq 18 rfl rfl (Y_add (k := .i64) (a := k_1) (b := 1) rfl rfl rfl) ?_
    refine sq 1 rfl rfl (Y_assign (v := .int .i64 (IntKind.i64.wrap (k_1 + 1))) rfl rfl) ?_
    refine rw_nil ?_
    refine cw_seq ?_
    refine cw_region ?_
    refine sq 19 rfl rfl (Y_move (v := .slice B a.length c) rfl (hf.get 0 0 rfl)) ?_
    refine sq 20 rfl rfl (Y_move (v := .int .i64 (i1 : Int)) rfl (hf.get 5 2 rfl)) ?_
    refine sq 21 rfl rfl (Y_move (v := .int .i64 (IntKind.i64.wrap (k_1 + 1))) rfl rfl) ?_
    refine sq 22 rfl rfl (Y_index (B := B) (m := a.length) (c := c) (k := .i64) (i := (i1 : Int)) k_sl_102_213 k_sz_213_3 rfl rfl rfl (gi_isSome enc_Gate_len rfl (hS2.cf (i := 0) rfl) (getI_set (y := (TGate.mk k_1 x.A x.B)) hx)) (getI_nn (getI_set (y := (TGate.mk k_1 x.A x.B)) hx)) (getI_ltI (getI_set (y := (TGate.mk k_1 x.A x.B)) hx) (set_len _ _ _ hl))) ?_
    refine sq 23 rfl rfl (Y_fieldAddr (B := B) (i := (i1 : Int).toNat * 3) (s := 0) k_fd_213_1_1_3 k_sz_3_1 rfl rfl) ?_
    refine ss0 rfl rfl (Ys_store (i := 0) (s := 1) (B := B) (T' := 213) (v := .int .i64 (IntKind.i64.wrap (k_1 + 1))) (vs := [.int .i64 (IntKind.i64.wrap (k_1 + 1))]) (k := (i1 : Int).toNat * 3 + 1) (cs' := (((m1.set (i1 : Int).toNat (TGate.mk k_1 x.A x.B)).set (i1 : Int).toNat (TGate.mk k_1 (IntKind.i64.wrap (k_1 + 1)) x.B)).flatMap enc_Gate)) hS2 k_sz_3_1 rfl rfl rfl rfl rfl rfl rfl (gi_fit enc_Gate_len (getI_set (y := (TGate.mk k_1 x.A x.B)) hx) (j := 1) (k := 1) (by decide)) (gi_setf enc_Gate_len (getI_set (y := (TGate.mk k_1 x.A x.B)) hx) (TGate.mk k_1 (IntKind.i64.wrap (k_1 + 1)) x.B) rfl (Nat.le_of_ble_eq_true rfl)) rfl) ?_
    rintro _ w_1 ⟨rfl, hS3⟩
    refine rw_nil ?_
    refine cw_seq ?_
    refine cw_region ?_
    refine sq 24 rfl rfl (Y_move (v := .int .i64 (IntKind.i64.wrap (k_1 + 1))) rfl rfl) ?_
    refine sq 25 rfl rfl (Y_add (k := .i64) (a := (IntKind.i64.wrap (k_1 + 1))) (b := 1) rfl rfl rfl) ?_
    refine sq 1 rfl rfl (Y_assign (v := .int .i64 (IntKind.i64.wrap ((IntKind.i64.wrap (k_1 + 1)) + 1))) rfl rfl) ?_
    refine rw_nil ?_
    refine cw_seq ?_
    refine cw_region ?_
    refine sq 26 rfl rfl (Y_move (v := .slice B a.length c) rfl (hf.get 0 0 rfl)) ?_
    refine sq 27 rfl rfl (Y_move (v := .int .i64 (i1 : Int)) rfl (hf.get 5 2 rfl)) ?_
    refine sq 28 rfl rfl (Y_move (v := .int .i64 (IntKind.i64.wrap ((IntKind.i64.wrap (k_1 + 1)) + 1))) rfl rfl) ?_
    refine sq 29 rfl rfl (Y_index (B := B) (m := a.length) (c := c) (k := .i64) (i := (i1 : Int)) k_sl_102_213 k_sz_213_3 rfl rfl rfl (gi_isSome enc_Gate_len rfl (hS3.cf (i := 0) rfl) (getI_set (y := (TGate.mk k_1 (IntKind.i64.wrap (k_1 + 1)) x.B)) (getI_set (y := (TGate.mk k_1 x.A x.B)) hx))) (getI_nn (getI_set (y := (TGate.mk k_1 (IntKind.i64.wrap (k_1 + 1)) x.B)) (getI_set (y := (TGate.mk k_1 x.A x.B)) hx))) (getI_ltI (getI_set (y := (TGate.mk k_1 (IntKind.i64.wrap (k_1 + 1)) x.B)) (getI_set (y := (TGate.mk k_1 x.A x.B)) hx)) (set_len _ _ _ (set_len _ _ _ hl)))) ?_
    refine sq 30 rfl rfl (Y_fieldAddr (B := B) (i := (i1 : Int).toNat * 3) (s := 0) k_fd_213_2_2_3 k_sz_3_1 rfl rfl) ?_
    refine ss0 rfl rfl (Ys_store (i := 0) (s := 1) (B := B) (T' := 213) (v := .int .i64 (IntKind.i64.wrap ((IntKind.i64.wrap (k_1 + 1)) + 1))) (vs := [.int .i64 (IntKind.i64.wrap ((IntKind.i64.wrap (k_1 + 1)) + 1))]) (k := (i1 : Int).toNat * 3 + 2) (cs' := ((((m1.set (i1 : Int).toNat (TGate.mk k_1 x.A x.B)).set (i1 : Int).toNat (TGate.mk k_1 (IntKind.i64.wrap (k_1 + 1)) x.B)).set (i1 : Int).toNat (TGate.mk k_1 (IntKind.i64.wrap (k_1 + 1)) (IntKind.i64.wrap ((IntKind.i64.wrap (k_1 + 1)) + 1)))).flatMap enc_Gate)) hS3 k_sz_3_1 rfl rfl rfl rfl rfl rfl rfl (gi_fit enc_Gate_len (getI_set (y := (TGate.mk k_1 (IntKind.i64.wrap (k_1 + 1)) x.B)) (getI_set (y := (TGate.mk k_1 x.A x.B)) hx)) (j := 2) (k := 1) (by decide)) (gi_setf enc_Gate_len (getI_set (y := (TGate.mk k_1 (IntKind.i64.wrap (k_1 + 1)) x.B)) (getI_set (y := (TGate.mk k_1 x.A x.B)) hx)) (TGate.mk k_1 (IntKind.i64.wrap (k_1 + 1)) (IntKind.i64.wrap ((IntKind.i64.wrap (k_1 + 1)) + 1))) rfl (Nat.le_of_ble_eq_true rfl)) rfl) ?_
    rintro _ w_2 ⟨rfl, hS4⟩
    refine rw_nil ?_
    refine cw_region ?_
    refine sq 31 rfl rfl (Y_move (v := .int .i64 (IntKind.i64.wrap ((IntKind.i64.wrap (k_1 + 1)) + 1))) rfl rfl) ?_
    refine sq 32 rfl rfl (Y_add (k := .i64) (a := (IntKind.i64.wrap ((IntKind.i64.wrap (k_1 + 1)) + 1))) (b := 1) rfl rfl rfl) ?_
    refine sq 1 rfl rfl (Y_assign (v := .int .i64 (IntKind.i64.wrap ((IntKind.i64.wrap ((IntKind.i64.wrap (k_1 + 1)) + 1)) + 1))) rfl rfl) ?_
    refine rw_nil ?_
    refine cw_region ?_
    refine sq 10 rfl rfl (Y_move (v := .int .i64 (i1 : Int)) rfl (hf.get 5 2 rfl)) ?_
    refine sq 11 rfl rfl (Y_add (k := .i64) (a := (i1 : Int)) (b := 1) rfl rfl rfl) ?_
    refine sq 5 rfl rfl (Y_assign (v := .int .i64 (IntKind.i64.wrap ((i1 : Int) + 1))) rfl rfl) ?_
    refine rw_nil ?_
    obtain rfl := some_inj hb
    exact ⟨k_3, Nat.lt_succ_self _, i1 + 1, (((m1.set (i1 : Int).toNat (TGate.mk k_1 x.A x.B)).set (i1 : Int).toNat (TGate.mk k_1 (IntKind.i64.wrap (k_1 + 1)) x.B)).set (i1 : Int).toNat (TGate.mk k_1 (IntKind.i64.wrap (k_1 + 1)) (IntKind.i64.wrap ((IntKind.i64.wrap (k_1 + 1)) + 1)))), (IntKind.i64.wrap ((IntKind.i64.wrap ((IntKind.i64.wrap (k_1 + 1)) + 1)) + 1)), (FF.cons (hf.get 0 0 rfl) (FF.cons rfl (FF.cons (congrArg (Value.int .i64) (wr_succ hlt1 hN)) FF.nil))), (set_len _ _ _ (set_len _ _ _ (set_len _ _ _ hl))), (hS4.sel [0] rfl rfl), (by omega), hL1⟩
  · skip
    obtain rfl : k_2 = 0 := by have h := of_decide_eq_false hlt; omega
    refine cw_exit rfl ?_
    obtain rfl := some_inj hL
    refine cw_seq ?_
    refine cw_region ?_
    refine sq 33 rfl rfl (Y_move (v := .int .i64 k_1) rfl (hf.get 1 1 rfl)) ?_
    refine sq 4 rfl rfl (Y_assign (v := .int .i64 k_1) rfl rfl) ?_
    refine rw_nil ?_
    refine cw_ret ?_
    obtain ⟨rfl, rfl⟩ := pr2 (some_inj hF1)
    exact ret1 Try.results160 (v1 := .int .i64 k_1) (resAt_tmp rfl) ⟨rfl, hl, (ST.subR (R' := []) (hS1.sel [0] rfl rfl) (fun _ h => by cases h))⟩

theorem c_laws_markCircuit (a : TCircuit) (k_ : Int) (B : Option Addr) (c n : Nat) (w0 : World) (hn : a.Gates.length = n) (hS : ST w0 (bl [⟨B, 213, (a.Gates.flatMap enc_Gate), c * 3⟩]) w0 [⟨B, 213, (a.Gates.flatMap enc_Gate), c * 3⟩] []) {r_ : Int} {m : List TGate} (hF : F_laws_markCircuit a k_ = some (r_, m)) :
    CV Try.prog 66 #[.agg #[.int .i64 a.Qubits, .slice B n c], .int .i64 k_] w0 (fun v w' => v = .int .i64 r_ ∧ m.length = n ∧ ST w0 (bl [⟨B, 213, (a.Gates.flatMap enc_Gate), c * 3⟩]) w' [⟨B, 213, (m.flatMap enc_Gate), c * 3⟩] []) := by
  subst hn
  unfold F_laws_markCircuit at hF
  refine cv_of_cw 10 Try.func66 rfl Try.ntmps66 rfl ?_
  refine cw_seq ?_
  refine cw_region ?_
  refine ss 2 rfl rfl (Ys_box (T := 104) (v := .agg #[.int .i64 a.Qubits, .slice B a.Gates.length c]) (cs := [.int .i64 a.Qubits, .slice B a.Gates.length c]) (m := 2) hS rfl rfl rfl rfl) ?_
  rintro _ w_ ⟨b, rfl, hS1⟩
  have hS1 : ST w0 (bl [⟨B, 213, (a.Gates.flatMap enc_Gate), c * 3⟩]) _ [⟨B, 213, (a.Gates.flatMap enc_Gate), c * 3⟩, ⟨some ⟨b, 0, none⟩, 104, [.int .i64 a.Qubits, .slice B a.Gates.length c], 2⟩] [] := hS1
  refine sq 4 rfl rfl (Y_assign (v := .int .i64 0) rfl rfl) ?_
  refine rw_nil ?_
  refine cw_seq ?_
  refine cw_region ?_
  refine sq 5 rfl rfl (Y_fieldAddr (B := some ⟨b, 0, none⟩) (i := 0) (s := 0) k_fd_104_1_1_102 k_sz_102_1 rfl rfl) ?_
  refine sq 6 rfl rfl (Y_load1 (B := some ⟨b, 0, none⟩) (i := 1) (cs := [.int .i64 a.Qubits, .slice B a.Gates.length c]) (v := .slice B a.Gates.length c) k_sc_102 rfl rfl (hS1.cf (i := 1) rfl) rfl) ?_
  refine sq 7 rfl rfl (Y_move (v := .int .i64 k_) rfl rfl) ?_
  obtain ⟨⟨r_1, m1⟩, hc, hF⟩ := bind_inv hF
  refine sc 8 rfl rfl (Yc_func (g := 160) (vs := [.slice B a.Gates.length c, .int .i64 k_]) k_call_160 rfl (mc rfl (mc rfl mn)) (c_laws_markGateS a.Gates k_ B c a.Gates.length _ rfl (hS1.inn [true, false] rfl [] rfl) hc)) ?_
  rintro _ w_1 ⟨rfl, hl, hd⟩
  have hS2 := hS1.out [true, false] rfl hd
  have hS2 : ST w0 (bl [⟨B, 213, (a.Gates.flatMap enc_Gate), c * 3⟩]) _ [⟨some ⟨b, 0, none⟩, 104, [.int .i64 a.Qubits, .slice B a.Gates.length c], 2⟩, ⟨B, 213, (m1.flatMap enc_Gate), c * 3⟩] [] := hS2
  refine sq 1 rfl rfl (Y_assign (v := .int .i64 r_1) rfl rfl) ?_
  refine rw_nil ?_
  refine cw_seq ?_
  refine cw_region ?_
  refine sq 9 rfl rfl (Y_move (v := .int .i64 r_1) rfl rfl) ?_
  refine sq 4 rfl rfl (Y_assign (v := .int .i64 r_1) rfl rfl) ?_
  refine rw_nil ?_
  refine cw_ret ?_
  obtain ⟨rfl, rfl⟩ := pr2 (some_inj hF)
  exact ret1 Try.results66 (v1 := .int .i64 r_1) (resAt_tmp rfl) ⟨rfl, hl, (ST.subR (R' := []) (hS2.sel [1] rfl rfl) (fun _ h => by cases h))⟩

theorem c_laws_markIntS (a : List Int) (k_ : Int) (B : Option Addr) (c n : Nat) (w0 : World) (hn : a.length = n) (hS : ST w0 (bl [⟨B, 3, (a.flatMap encI), c * 1⟩]) w0 [⟨B, 3, (a.flatMap encI), c * 1⟩] []) {r_ : Int} {m : List Int} (hF : F_laws_markIntS a k_ = some (r_, m)) :
    CV Try.prog 68 #[.slice B n c, .int .i64 k_] w0 (fun v w' => v = .int .i64 r_ ∧ m.length = n ∧ ST w0 (bl [⟨B, 3, (a.flatMap encI), c * 1⟩]) w' [⟨B, 3, (m.flatMap encI), c * 1⟩] []) := by
  subst hn
  unfold F_laws_markIntS at hF
  refine cv_of_cw 19 Try.func68 rfl Try.ntmps68 rfl ?_
  refine cw_seq ?_
  refine cw_region ?_
  refine sq 4 rfl rfl (Y_assign (v := .int .i64 0) rfl rfl) ?_
  refine rw_nil ?_
  refine cw_seq ?_
  refine cw_seq ?_
  refine cw_region ?_
  refine sq 5 rfl rfl (Y_assign (v := .int .i64 0) rfl rfl) ?_
  refine rw_nil ?_
  obtain ⟨hN, hF⟩ := chk_inv hF
  obtain ⟨z, hz, hF1⟩ := bind_inv hF
  refine cw_block ?_
  refine cw_loop (fun k f w => ∃ (i1 : Nat) (m1 : List Int) (k_1 : Int), FF f [(0, .slice B a.length c), (1, .int .i64 k_1), (5, .int .i64 (i1 : Int))] ∧ m1.length = a.length ∧ ST w0 (bl [⟨B, 3, (a.flatMap encI), c * 1⟩]) w [⟨B, 3, (m1.flatMap encI), c * 1⟩] [] ∧ i1 + k = a.length ∧ forN F_laws_markIntS_l1 k i1 (m1, k_1) = some z) a.length ⟨0, a, k_, (FF.cons rfl (FF.cons rfl (FF.cons rfl FF.nil))), rfl, (hS.sel [0] rfl rfl), Nat.zero_add _, hz⟩ ?_
  rintro k_2 f w ⟨i1, m1, k_1, hf, hl, hS1, hik, hL⟩
  refine cw_seq ?_
  refine cw_seq ?_
  refine cw_region ?_
  refine sq 6 rfl rfl (Y_move (v := .int .i64 (i1 : Int)) rfl (hf.get 5 2 rfl)) ?_
  refine sq 7 rfl rfl (Y_move (v := .slice B a.length c) rfl (hf.get 0 0 rfl)) ?_
  refine sq 8 rfl rfl (Y_len (B := B) (m := a.length) (c := c) k_sl_59_3 rfl rfl) ?_
  refine sq 9 rfl rfl (Y_lt (k := .i64) (a := (i1 : Int)) (b := (a.length : Int)) rfl rfl rfl) ?_
  refine rw_nil ?_
  refine cw_cond (b := (decide ((i1 : Int) < (a.length : Int)))) rfl (fun hlt => ?_) (fun hlt => ?_)
  · skip
    have hlt1 : i1 < a.length := by have h := of_decide_eq_true hlt; omega
    obtain ⟨k_3, rfl⟩ : ∃ k2, k_2 = k2 + 1 := ⟨k_2 - 1, by omega⟩
    obtain ⟨y, hb, hL1⟩ := forN_go hL
    unfold F_laws_markIntS_l1 at hb
    refine cw_skip ?_
    refine cw_seq ?_
    refine cw_block ?_
    refine cw_seq ?_
    refine cw_region ?_
    refine sq 12 rfl rfl (Y_move (v := .slice B a.length c) rfl (hf.get 0 0 rfl)) ?_
    refine sq 13 rfl rfl (Y_move (v := .int .i64 (i1 : Int)) rfl (hf.get 5 2 rfl)) ?_
    refine sq 14 rfl rfl (Y_move (v := .int .i64 k_1) rfl (hf.get 1 1 rfl)) ?_
    obtain ⟨x, hx, hb⟩ := bind_inv hb
    refine sq 15 rfl rfl (Y_index (B := B) (m := a.length) (c := c) (k := .i64) (i := (i1 : Int)) k_sl_59_3 k_sz_3_1 rfl rfl rfl (gi_isSome encI_len rfl (hS1.cf (i := 0) rfl) hx) (getI_nn hx) (getI_ltI hx hl)) ?_
    refine ss0 rfl rfl (Ys_store (i := 0) (s := 1) (B := B) (T' := 3) (v := .int .i64 k_1) (vs := [.int .i64 k_1]) (k := (i1 : Int).toNat * 1) (cs' := ((m1.set (i1 : Int).toNat k_1).flatMap encI)) hS1 k_sz_3_1 rfl rfl rfl rfl rfl rfl rfl (gi_fit0 encI_len hx) (gi_set encI_len hx k_1 rfl) rfl) ?_
    rintro _ w_ ⟨rfl, hS2⟩
    refine rw_nil ?_
    refine cw_region ?_
    refine sq 16 rfl rfl (Y_move (v := .int .i64 k_1) rfl (hf.get 1 1 rfl)) ?_
    refine sq 17 rfl rfl (Y_add (k := .i64) (a := k_1) (b := 1) rfl rfl rfl) ?_
    refine sq 1 rfl rfl (Y_assign (v := .int .i64 (IntKind.i64.wrap (k_1 + 1))) rfl rfl) ?_
    refine rw_nil ?_
    refine cw_region ?_
    refine sq 10 rfl rfl (Y_move (v := .int .i64 (i1 : Int)) rfl (hf.get 5 2 rfl)) ?_
    refine sq 11 rfl rfl (Y_add (k := .i64) (a := (i1 : Int)) (b := 1) rfl rfl rfl) ?_
    refine sq 5 rfl rfl (Y_assign (v := .int .i64 (IntKind.i64.wrap ((i1 : Int) + 1))) rfl rfl) ?_
    refine rw_nil ?_
    obtain rfl := some_inj hb
    exact ⟨k_3, Nat.lt_succ_self _, i1 + 1, (m1.set (i1 : Int).toNat k_1), (IntKind.i64.wrap (k_1 + 1)), (FF.cons (hf.get 0 0 rfl) (FF.cons rfl (FF.cons (congrArg (Value.int .i64) (wr_succ hlt1 hN)) FF.nil))), (set_len _ _ _ hl), (hS2.sel [0] rfl rfl), (by omega), hL1⟩
  · skip
    obtain rfl : k_2 = 0 := by have h := of_decide_eq_false hlt; omega
    refine cw_exit rfl ?_
    obtain rfl := some_inj hL
    refine cw_seq ?_
    refine cw_region ?_
    refine sq 18 rfl rfl (Y_move (v := .int .i64 k_1) rfl (hf.get 1 1 rfl)) ?_
    refine sq 4 rfl rfl (Y_assign (v := .int .i64 k_1) rfl rfl) ?_
    refine rw_nil ?_
    refine cw_ret ?_
    obtain ⟨rfl, rfl⟩ := pr2 (some_inj hF1)
    exact ret1 Try.results68 (v1 := .int .i64 k_1) (resAt_tmp rfl) ⟨rfl, hl, (ST.subR (R' := []) (hS1.sel [0] rfl rfl) (fun _ h => by cases h))⟩

theorem c_laws_markRouteStepS (a : List TRouteStep) (k_ : Int) (B : Option Addr) (c n : Nat) (w0 : World) (hn : a.length = n) (hS : ST w0 (bl [⟨B, 211, (a.flatMap enc_RouteStep), c * 3⟩]) w0 [⟨B, 211, (a.flatMap enc_RouteStep), c * 3⟩] []) {r_ : Int} {m : List TRouteStep} (hF : F_laws_markRouteStepS a k_ = some (r_, m)) :
    CV Try.prog 161 #[.slice B n c, .int .i64 k_] w0 (fun v w' => v = .int .i64 r_ ∧ m.length = n ∧ ST w0 (bl [⟨B, 211, (a.flatMap enc_RouteStep), c * 3⟩]) w' [⟨B, 211, (m.flatMap enc_RouteStep), c * 3⟩] []) := by
  subst hn
  unfold F_laws_markRouteStepS at hF
  refine cv_of_cw 34 Try.func161 rfl Try.ntmps161 rfl ?_
  refine cw_seq ?_
  refine cw_region ?_
  refine sq 4 rfl rfl (Y_assign (v := .int .i64 0) rfl rfl) ?_
  refine rw_nil ?_
  refine cw_seq ?_
  refine cw_seq ?_
  refine cw_region ?_
  refine sq 5 rfl rfl (Y_assign (v := .int .i64 0) rfl rfl) ?_
  refine rw_nil ?_
  obtain ⟨hN, hF⟩ := chk_inv hF
  obtain ⟨z, hz, hF1⟩ := bind_inv hF
  refine cw_block ?_
  refine cw_loop (fun k f w => ∃ (i1 : Nat) (m1 : List TRouteStep) (k_1 : Int), FF f [(0, .slice B a.length c), (1, .int .i64 k_1), (5, .int .i64 (i1 : Int))] ∧ m1.length = a.length ∧ ST w0 (bl [⟨B, 211, (a.flatMap enc_RouteStep), c * 3⟩]) w [⟨B, 211, (m1.flatMap enc_RouteStep), c * 3⟩] [] ∧ i1 + k = a.length ∧ forN F_laws_markRouteStepS_l1 k i1 (m1, k_1) = some z) a.length ⟨0, a, k_, (FF.cons rfl (FF.cons rfl (FF.cons rfl FF.nil))), rfl, (hS.sel [0] rfl rfl), Nat.zero_add _, hz⟩ ?_
  rintro k_2 f w ⟨i1, m1, k_1, hf, hl, hS1, hik, hL⟩
  refine cw_seq ?_
  refine cw_seq ?_
  refine cw_region ?_
  refine sq 6 rfl rfl (Y_move (v := .int .i64 (i1 : Int)) rfl (hf.get 5 2 rfl)) ?_
  refine sq 7 rfl rfl (Y_move (v := .slice B a.length c) rfl (hf.get 0 0 rfl)) ?_
  refine sq 8 rfl rfl (Y_len (B := B) (m := a.length) (c := c) k_sl_106_211 rfl rfl) ?_
  refine sq 9 rfl rfl (Y_lt (k := .i64) (a := (i1 : Int)) (b := (a.length : Int)) rfl rfl rfl) ?_
  refine rw_nil ?_
  refine cw_cond (b := (decide ((i1 : Int) < (a.length : Int)))) rfl (fun hlt => ?_) (fun hlt => ?_)
  · skip
    have hlt1 : i1 < a.length := by have h := of_decide_eq_true hlt; omega
    obtain ⟨k_3, rfl⟩ : ∃ k2, k_2 = k2 + 1 := ⟨k_2 - 1, by omega⟩
    obtain ⟨y, hb, hL1⟩ := forN_go hL
    unfold F_laws_markRouteStepS_l1 at hb
    refine cw_skip ?_
    refine cw_seq ?_
    refine cw_block ?_
    refine cw_seq ?_
    refine cw_region ?_
    refine sq 12 rfl rfl (Y_move (v := .slice B a.length c) rfl (hf.get 0 0 rfl)) ?_
    refine sq 13 rfl rfl (Y_move (v := .int .i64 (i1 : Int)) rfl (hf.get 5 2 rfl)) ?_
    refine sq 14 rfl rfl (Y_move (v := .int .i64 k_1) rfl (hf.get 1 1 rfl)) ?_
    obtain ⟨x, hx, hb⟩ := bind_inv hb
    refine sq 15 rfl rfl (Y_index (B := B) (m := a.length) (c := c) (k := .i64) (i := (i1 : Int)) k_sl_106_211 k_sz_211_3 rfl rfl rfl (gi_isSome enc_RouteStep_len rfl (hS1.cf (i := 0) rfl) hx) (getI_nn hx) (getI_ltI hx hl)) ?_
    refine sq 16 rfl rfl (Y_fieldAddr (B := B) (i := (i1 : Int).toNat * 3) (s := 0) k_fd_211_0_0_3 k_sz_3_1 rfl rfl) ?_
    refine ss0 rfl rfl (Ys_store (i := 0) (s := 1) (B := B) (T' := 211) (v := .int .i64 k_1) (vs := [.int .i64 k_1]) (k := (i1 : Int).toNat * 3 + 0) (cs' := ((m1.set (i1 : Int).toNat (TRouteStep.mk k_1 x.A x.B)).flatMap enc_RouteStep)) hS1 k_sz_3_1 rfl rfl rfl rfl rfl rfl rfl (gi_fit enc_RouteStep_len hx (j := 0) (k := 1) (by decide)) (gi_setf enc_RouteStep_len hx (TRouteStep.mk k_1 x.A x.B) rfl (Nat.le_of_ble_eq_true rfl)) rfl) ?_
    rintro _ w_ ⟨rfl, hS2⟩
    refine rw_nil ?_
    refine cw_seq ?_
    refine cw_region ?_
    refine sq 17 rfl rfl (Y_move (v := .int .i64 k_1) rfl (hf.get 1 1 rfl)) ?_
    refine sq 18 rfl rfl (Y_add (k := .i64) (a := k_1) (b := 1) rfl rfl rfl) ?_
    refine sq 1 rfl rfl (Y_assign (v := .int .i64 (IntKind.i64.wrap (k_1 + 1))) rfl rfl) ?_
    refine rw_nil ?_
    refine cw_seq ?_
    refine cw_region ?_
    refine sq 19 rfl rfl (Y_move (v := .slice B a.length c) rfl (hf.get 0 0 rfl)) ?_
    refine sq 20 rfl rfl (Y_move (v := .int .i64 (i1 : Int)) rfl (hf.get 5 2 rfl)) ?_
    refine sq 21 rfl rfl (Y_move (v := .int .i64 (IntKind.i64.wrap (k_1 + 1))) rfl rfl) ?_
    refine sq 22 rfl rfl (Y_index (B := B) (m := a.length) (c := c) (k := .i64) (i := (i1 : Int)) k_sl_106_211 k_sz_211_3 rfl rfl rfl (gi_isSome enc_RouteStep_len rfl (hS2.cf (i := 0) rfl) (getI_set (y := (TRouteStep.mk k_1 x.A x.B)) hx)) (getI_nn (getI_set (y := (TRouteStep.mk k_1 x.A x.B)) hx)) (getI_ltI (getI_set (y := (TRouteStep.mk k_1 x.A x.B)) hx) (set_len _ _ _ hl))) ?_
    refine sq 23 rfl rfl (Y_fieldAddr (B := B) (i := (i1 : Int).toNat * 3) (s := 0) k_fd_211_1_1_3 k_sz_3_1 rfl rfl) ?_
    refine ss0 rfl rfl (Ys_store (i := 0) (s := 1) (B := B) (T' := 211) (v := .int .i64 (IntKind.i64.wrap (k_1 + 1))) (vs := [.int .i64 (IntKind.i64.wrap (k_1 + 1))]) (k := (i1 : Int).toNat * 3 + 1) (cs' := (((m1.set (i1 : Int).toNat (TRouteStep.mk k_1 x.A x.B)).set (i1 : Int).toNat (TRouteStep.mk k_1 (IntKind.i64.wrap (k_1 + 1)) x.B)).flatMap enc_RouteStep)) hS2 k_sz_3_1 rfl rfl rfl rfl rfl rfl rfl (gi_fit enc_RouteStep_len (getI_set (y := (TRouteStep.mk k_1 x.A x.B)) hx) (j := 1) (k := 1) (by decide)) (gi_setf enc_RouteStep_len (getI_set (y := (TRouteStep.mk k_1 x.A x.B)) hx) (TRouteStep.mk k_1 (IntKind.i64.wrap (k_1 + 1)) x.B) rfl (Nat.le_of_ble_eq_true rfl)) rfl) ?_
    rintro _ w_1 ⟨rfl, hS3⟩
    refine rw_nil ?_
    refine cw_seq ?_
    refine cw_region ?_
    refine sq 24 rfl rfl (Y_move (v := .int .i64 (IntKind.i64.wrap (k_1 + 1))) rfl rfl) ?_
    refine sq 25 rfl rfl (Y_add (k := .i64) (a := (IntKind.i64.wrap (k_1 + 1))) (b := 1) rfl rfl rfl) ?_
    refine sq 1 rfl rfl (Y_assign (v := .int .i64 (IntKind.i64.wrap ((IntKind.i64.wrap (k_1 + 1)) + 1))) rfl rfl) ?_
    refine rw_nil ?_
    refine cw_seq ?_
    refine cw_region ?_
    refine sq 26 rfl rfl (Y_move (v := .slice B a.length c) rfl (hf.get 0 0 rfl)) ?_
    refine sq 27 rfl rfl (Y_move (v := .int .i64 (i1 : Int)) rfl (hf.get 5 2 rfl)) ?_
    refine sq 28 rfl rfl (Y_move (v := .int .i64 (IntKind.i64.wrap ((IntKind.i64.wrap (k_1 + 1)) + 1))) rfl rfl) ?_
    refine sq 29 rfl rfl (Y_index (B := B) (m := a.length) (c := c) (k := .i64) (i := (i1 : Int)) k_sl_106_211 k_sz_211_3 rfl rfl rfl (gi_isSome enc_RouteStep_len rfl (hS3.cf (i := 0) rfl) (getI_set (y := (TRouteStep.mk k_1 (IntKind.i64.wrap (k_1 + 1)) x.B)) (getI_set (y := (TRouteStep.mk k_1 x.A x.B)) hx))) (getI_nn (getI_set (y := (TRouteStep.mk k_1 (IntKind.i64.wrap (k_1 + 1)) x.B)) (getI_set (y := (TRouteStep.mk k_1 x.A x.B)) hx))) (getI_ltI (getI_set (y := (TRouteStep.mk k_1 (IntKind.i64.wrap (k_1 + 1)) x.B)) (getI_set (y := (TRouteStep.mk k_1 x.A x.B)) hx)) (set_len _ _ _ (set_len _ _ _ hl)))) ?_
    refine sq 30 rfl rfl (Y_fieldAddr (B := B) (i := (i1 : Int).toNat * 3) (s := 0) k_fd_211_2_2_3 k_sz_3_1 rfl rfl) ?_
    refine ss0 rfl rfl (Ys_store (i := 0) (s := 1) (B := B) (T' := 211) (v := .int .i64 (IntKind.i64.wrap ((IntKind.i64.wrap (k_1 + 1)) + 1))) (vs := [.int .i64 (IntKind.i64.wrap ((IntKind.i64.wrap (k_1 + 1)) + 1))]) (k := (i1 : Int).toNat * 3 + 2) (cs' := ((((m1.set (i1 : Int).toNat (TRouteStep.mk k_1 x.A x.B)).set (i1 : Int).toNat (TRouteStep.mk k_1 (IntKind.i64.wrap (k_1 + 1)) x.B)).set (i1 : Int).toNat (TRouteStep.mk k_1 (IntKind.i64.wrap (k_1 + 1)) (IntKind.i64.wrap ((IntKind.i64.wrap (k_1 + 1)) + 1)))).flatMap enc_RouteStep)) hS3 k_sz_3_1 rfl rfl rfl rfl rfl rfl rfl (gi_fit enc_RouteStep_len (getI_set (y := (TRouteStep.mk k_1 (IntKind.i64.wrap (k_1 + 1)) x.B)) (getI_set (y := (TRouteStep.mk k_1 x.A x.B)) hx)) (j := 2) (k := 1) (by decide)) (gi_setf enc_RouteStep_len (getI_set (y := (TRouteStep.mk k_1 (IntKind.i64.wrap (k_1 + 1)) x.B)) (getI_set (y := (TRouteStep.mk k_1 x.A x.B)) hx)) (TRouteStep.mk k_1 (IntKind.i64.wrap (k_1 + 1)) (IntKind.i64.wrap ((IntKind.i64.wrap (k_1 + 1)) + 1))) rfl (Nat.le_of_ble_eq_true rfl)) rfl) ?_
    rintro _ w_2 ⟨rfl, hS4⟩
    refine rw_nil ?_
    refine cw_region ?_
    refine sq 31 rfl rfl (Y_move (v := .int .i64 (IntKind.i64.wrap ((IntKind.i64.wrap (k_1 + 1)) + 1))) rfl rfl) ?_
    refine sq 32 rfl rfl (Y_add (k := .i64) (a := (IntKind.i64.wrap ((IntKind.i64.wrap (k_1 + 1)) + 1))) (b := 1) rfl rfl rfl) ?_
    refine sq 1 rfl rfl (Y_assign (v := .int .i64 (IntKind.i64.wrap ((IntKind.i64.wrap ((IntKind.i64.wrap (k_1 + 1)) + 1)) + 1))) rfl rfl) ?_
    refine rw_nil ?_
    refine cw_region ?_
    refine sq 10 rfl rfl (Y_move (v := .int .i64 (i1 : Int)) rfl (hf.get 5 2 rfl)) ?_
    refine sq 11 rfl rfl (Y_add (k := .i64) (a := (i1 : Int)) (b := 1) rfl rfl rfl) ?_
    refine sq 5 rfl rfl (Y_assign (v := .int .i64 (IntKind.i64.wrap ((i1 : Int) + 1))) rfl rfl) ?_
    refine rw_nil ?_
    obtain rfl := some_inj hb
    exact ⟨k_3, Nat.lt_succ_self _, i1 + 1, (((m1.set (i1 : Int).toNat (TRouteStep.mk k_1 x.A x.B)).set (i1 : Int).toNat (TRouteStep.mk k_1 (IntKind.i64.wrap (k_1 + 1)) x.B)).set (i1 : Int).toNat (TRouteStep.mk k_1 (IntKind.i64.wrap (k_1 + 1)) (IntKind.i64.wrap ((IntKind.i64.wrap (k_1 + 1)) + 1)))), (IntKind.i64.wrap ((IntKind.i64.wrap ((IntKind.i64.wrap (k_1 + 1)) + 1)) + 1)), (FF.cons (hf.get 0 0 rfl) (FF.cons rfl (FF.cons (congrArg (Value.int .i64) (wr_succ hlt1 hN)) FF.nil))), (set_len _ _ _ (set_len _ _ _ (set_len _ _ _ hl))), (hS4.sel [0] rfl rfl), (by omega), hL1⟩
  · skip
    obtain rfl : k_2 = 0 := by have h := of_decide_eq_false hlt; omega
    refine cw_exit rfl ?_
    obtain rfl := some_inj hL
    refine cw_seq ?_
    refine cw_region ?_
    refine sq 33 rfl rfl (Y_move (v := .int .i64 k_1) rfl (hf.get 1 1 rfl)) ?_
    refine sq 4 rfl rfl (Y_assign (v := .int .i64 k_1) rfl rfl) ?_
    refine rw_nil ?_
    refine cw_ret ?_
    obtain ⟨rfl, rfl⟩ := pr2 (some_inj hF1)
    exact ret1 Try.results161 (v1 := .int .i64 k_1) (resAt_tmp rfl) ⟨rfl, hl, (ST.subR (R' := []) (hS1.sel [0] rfl rfl) (fun _ h => by cases h))⟩

theorem c_laws_markRoute (a : TRoute) (k_ : Int) (B : Option Addr) (c n : Nat) (B1 : Option Addr) (c1 n1 : Nat) (w0 : World) (hn : a.Start.length = n) (hn1 : a.Steps.length = n1) (hS : ST w0 (bl [⟨B, 3, (a.Start.flatMap encI), c * 1⟩, ⟨B1, 211, (a.Steps.flatMap enc_RouteStep), c1 * 3⟩]) w0 [⟨B, 3, (a.Start.flatMap encI), c * 1⟩, ⟨B1, 211, (a.Steps.flatMap enc_RouteStep), c1 * 3⟩] []) {r_ : Int} {m : List Int} {m1 : List TRouteStep} (hF : F_laws_markRoute a k_ = some (r_, m, m1)) :
    CV Try.prog 67 #[.agg #[.slice B n c, .slice B1 n1 c1], .int .i64 k_] w0 (fun v w' => v = .int .i64 r_ ∧ m.length = n ∧ m1.length = n1 ∧ ST w0 (bl [⟨B, 3, (a.Start.flatMap encI), c * 1⟩, ⟨B1, 211, (a.Steps.flatMap enc_RouteStep), c1 * 3⟩]) w' [⟨B, 3, (m.flatMap encI), c * 1⟩, ⟨B1, 211, (m1.flatMap enc_RouteStep), c1 * 3⟩] []) := by
  subst hn
  subst hn1
  unfold F_laws_markRoute at hF
  refine cv_of_cw 14 Try.func67 rfl Try.ntmps67 rfl ?_
  refine cw_seq ?_
  refine cw_region ?_
  refine ss 2 rfl rfl (Ys_box (T := 108) (v := .agg #[.slice B a.Start.length c, .slice B1 a.Steps.length c1]) (cs := [.slice B a.Start.length c, .slice B1 a.Steps.length c1]) (m := 2) hS rfl rfl rfl rfl) ?_
  rintro _ w_ ⟨b, rfl, hS1⟩
  have hS1 : ST w0 (bl [⟨B, 3, (a.Start.flatMap encI), c * 1⟩, ⟨B1, 211, (a.Steps.flatMap enc_RouteStep), c1 * 3⟩]) _ [⟨B, 3, (a.Start.flatMap encI), c * 1⟩, ⟨B1, 211, (a.Steps.flatMap enc_RouteStep), c1 * 3⟩, ⟨some ⟨b, 0, none⟩, 108, [.slice B a.Start.length c, .slice B1 a.Steps.length c1], 2⟩] [] := hS1
  refine sq 4 rfl rfl (Y_assign (v := .int .i64 0) rfl rfl) ?_
  refine rw_nil ?_
  refine cw_seq ?_
  refine cw_region ?_
  refine sq 5 rfl rfl (Y_fieldAddr (B := some ⟨b, 0, none⟩) (i := 0) (s := 0) k_fd_108_0_0_59 k_sz_59_1 rfl rfl) ?_
  refine sq 6 rfl rfl (Y_load1 (B := some ⟨b, 0, none⟩) (i := 0) (cs := [.slice B a.Start.length c, .slice B1 a.Steps.length c1]) (v := .slice B a.Start.length c) k_sc_59 rfl rfl (hS1.cf (i := 2) rfl) rfl) ?_
  refine sq 7 rfl rfl (Y_move (v := .int .i64 k_) rfl rfl) ?_
  obtain ⟨⟨r_1, m2⟩, hc, hF⟩ := bind_inv hF
  refine sc 8 rfl rfl (Yc_func (g := 68) (vs := [.slice B a.Start.length c, .int .i64 k_]) k_call_68 rfl (mc rfl (mc rfl mn)) (c_laws_markIntS a.Start k_ B c a.Start.length _ rfl (hS1.inn [true, false, false] rfl [] rfl) hc)) ?_
  rintro _ w_1 ⟨rfl, hl, hd⟩
  have hS2 := hS1.out [true, false, false] rfl hd
  have hS2 : ST w0 (bl [⟨B, 3, (a.Start.flatMap encI), c * 1⟩, ⟨B1, 211, (a.Steps.flatMap enc_RouteStep), c1 * 3⟩]) _ [⟨B1, 211, (a.Steps.flatMap enc_RouteStep), c1 * 3⟩, ⟨some ⟨b, 0, none⟩, 108, [.slice B a.Start.length c, .slice B1 a.Steps.length c1], 2⟩, ⟨B, 3, (m2.flatMap encI), c * 1⟩] [] := hS2
  refine sq 1 rfl rfl (Y_assign (v := .int .i64 r_1) rfl rfl) ?_
  refine rw_nil ?_
  refine cw_seq ?_
  refine cw_region ?_
  refine sq 9 rfl rfl (Y_fieldAddr (B := some ⟨b, 0, none⟩) (i := 0) (s := 0) k_fd_108_1_1_106 k_sz_106_1 rfl rfl) ?_
  refine sq 10 rfl rfl (Y_load1 (B := some ⟨b, 0, none⟩) (i := 1) (cs := [.slice B a.Start.length c, .slice B1 a.Steps.length c1]) (v := .slice B1 a.Steps.length c1) k_sc_106 rfl rfl (hS2.cf (i := 1) rfl) rfl) ?_
  refine sq 11 rfl rfl (Y_move (v := .int .i64 r_1) rfl rfl) ?_
  obtain ⟨⟨r_2, m3⟩, hc1, hF⟩ := bind_inv hF
  refine sc 12 rfl rfl (Yc_func (g := 161) (vs := [.slice B1 a.Steps.length c1, .int .i64 r_1]) k_call_161 rfl (mc rfl (mc rfl mn)) (c_laws_markRouteStepS a.Steps r_1 B1 c1 a.Steps.length _ rfl (hS2.inn [true, false, false] rfl [] rfl) hc1)) ?_
  rintro _ w_2 ⟨rfl, hl1, hd1⟩
  have hS3 := hS2.out [true, false, false] rfl hd1
  have hS3 : ST w0 (bl [⟨B, 3, (a.Start.flatMap encI), c * 1⟩, ⟨B1, 211, (a.Steps.flatMap enc_RouteStep), c1 * 3⟩]) _ [⟨some ⟨b, 0, none⟩, 108, [.slice B a.Start.length c, .slice B1 a.Steps.length c1], 2⟩, ⟨B, 3, (m2.flatMap encI), c * 1⟩, ⟨B1, 211, (m3.flatMap enc_RouteStep), c1 * 3⟩] [] := hS3
  refine sq 1 rfl rfl (Y_assign (v := .int .i64 r_2) rfl rfl) ?_
  refine rw_nil ?_
  refine cw_seq ?_
  refine cw_region ?_
  refine sq 13 rfl rfl (Y_move (v := .int .i64 r_2) rfl rfl) ?_
  refine sq 4 rfl rfl (Y_assign (v := .int .i64 r_2) rfl rfl) ?_
  refine rw_nil ?_
  refine cw_ret ?_
  obtain ⟨rfl, rfl, rfl⟩ := pr3 (some_inj hF)
  exact ret1 Try.results67 (v1 := .int .i64 r_2) (resAt_tmp rfl) ⟨rfl, hl, hl1, (ST.subR (R' := []) (hS3.sel [1, 2] rfl rfl) (fun _ h => by cases h))⟩

theorem c_spec_l1In (n : Int) (lo : Int) (hi : Int)  (w0 : World)  (hS : ST w0 [] w0 [] []) {r_ : Bool} (hF : F_spec_l1In n lo hi = some r_) :
    CV Try.prog 201 #[.int .i64 n, .int .i64 lo, .int .i64 hi] w0 (fun v w' => v = .bool r_ ∧ ST w0 [] w' [] []) := by
  unfold F_spec_l1In at hF
  refine cv_of_cw 15 Try.func201 rfl Try.ntmps201 rfl ?_
  refine cw_seq ?_
  refine cw_region ?_
  refine sq 6 rfl rfl (Y_assign (v := .bool false) rfl rfl) ?_
  refine rw_nil ?_
  refine cw_seq ?_
  refine cw_region ?_
  refine sq 7 rfl rfl (Y_move (v := .int .i64 n) rfl rfl) ?_
  refine sq 8 rfl rfl (Y_move (v := .int .i64 lo) rfl rfl) ?_
  refine sq 9 rfl rfl (Y_ge (k := .i64) (a := n) (b := lo) rfl rfl rfl) ?_
  refine sq 10 rfl rfl (Y_move (v := .bool (decide (lo ≤ n))) rfl rfl) ?_
  refine sgq 11 (B := (decide (lo ≤ n))) (v := .int .i64 n) rfl rfl (wt_t (gd_of (t := 10) (by kernel_rfl) rfl)) (fun hg => (Y_move (v := .int .i64 n) rfl rfl)) ?_
  refine sgq 12 (B := (decide (lo ≤ n))) (v := .int .i64 hi) rfl rfl (wt_t (gd_of (t := 10) (by kernel_rfl) rfl)) (fun hg1 => (Y_move (v := .int .i64 hi) rfl rfl)) ?_
  refine sgq 13 (B := (decide (lo ≤ n))) (v := .bool (decide (n ≤ hi))) rfl rfl (wt_t (gd_of (t := 10) (by kernel_rfl) rfl)) (fun hg2 => (Y_le (k := .i64) (a := n) (b := hi) rfl (gv_of (B := (decide (lo ≤ n))) (v := .int .i64 n) hg2) (gv_of (B := (decide (lo ≤ n))) (v := .int .i64 hi) hg2))) ?_
  refine sq 14 rfl rfl (Y_and (b := (decide (lo ≤ n))) (z := (decide (n ≤ hi))) rfl rfl rfl rfl) ?_
  refine sq 6 rfl rfl (Y_assign (v := .bool ((decide (lo ≤ n)) && (decide (n ≤ hi)))) rfl rfl) ?_
  refine rw_nil ?_
  refine cw_ret ?_
  obtain rfl := some_inj hF
  exact ret1 Try.results201 (v1 := .bool ((decide (lo ≤ n)) && (decide (n ≤ hi)))) (resAt_tmp rfl) ⟨rfl, (ST.subR (R' := []) (hS.sel [] rfl rfl) (fun _ h => by cases h))⟩

theorem c_spec_l22Valid (g : TCouplingGraph) (B : Option Addr) (c n : Nat) (w0 : World) (hn : g.Edges.length = n) (hS : ST w0 [] w0 [] [⟨B, (g.Edges.flatMap enc_Edge)⟩]) {r_ : Bool} (hF : F_spec_l22Valid g = some r_) :
    CV Try.prog 232 #[.agg #[.int .i64 g.Nodes, .slice B n c]] w0 (fun v w' => v = .bool r_ ∧ ST w0 [] w' [] []) := by
  subst hn
  unfold F_spec_l22Valid at hF
  refine cv_of_cw 71 Try.func232 rfl Try.ntmps232 rfl ?_
  refine cw_seq ?_
  refine cw_region ?_
  refine ss 1 rfl rfl (Ys_box (T := 100) (v := .agg #[.int .i64 g.Nodes, .slice B g.Edges.length c]) (cs := [.int .i64 g.Nodes, .slice B g.Edges.length c]) (m := 2) hS rfl rfl rfl rfl) ?_
  rintro _ w_ ⟨b, rfl, hS1⟩
  refine sq 2 rfl rfl (Y_assign (v := .bool false) rfl rfl) ?_
  refine rw_nil ?_
  refine cw_seq ?_
  refine cw_seq ?_
  refine cw_region ?_
  refine sq 5 rfl rfl (Y_fieldAddr (B := some ⟨b, 0, none⟩) (i := 0) (s := 0) k_fd_100_1_1_98 k_sz_98_1 rfl rfl) ?_
  refine sq 6 rfl rfl (Y_load1 (B := some ⟨b, 0, none⟩) (i := 1) (cs := [.int .i64 g.Nodes, .slice B g.Edges.length c]) (v := .slice B g.Edges.length c) k_sc_98 rfl rfl (hS1.cf (i := 0) rfl) rfl) ?_
  refine sq 7 rfl rfl (Y_len (B := B) (m := g.Edges.length) (c := c) k_sl_98_277 rfl rfl) ?_
  refine sq 8 rfl rfl (Y_move (v := .int .i64 0) rfl rfl) ?_
  refine rw_nil ?_
  obtain ⟨hN, hF⟩ := chk_inv hF
  obtain ⟨z, hz, hF1⟩ := bind_inv hF
  refine cw_block ?_
  refine cw_loop (fun k f w => ∃ (i : Nat), FF f [(1, pt (some ⟨b, 0, none⟩) 0), (6, .slice B g.Edges.length c), (7, .int .i64 (g.Edges.length : Int)), (8, .int .i64 (i : Int))] ∧ ST w0 [] w [⟨some ⟨b, 0, none⟩, 100, [.int .i64 g.Nodes, .slice B g.Edges.length c], 2⟩] [⟨B, (g.Edges.flatMap enc_Edge)⟩] ∧ i + k = g.Edges.length ∧ forX (F_spec_l22Valid_l1 g) k i () = some z) g.Edges.length ⟨0, (FF.cons rfl (FF.cons rfl (FF.cons rfl (FF.cons rfl FF.nil)))), (hS1.sel [0] rfl rfl), Nat.zero_add _, hz⟩ ?_
  rintro k_ f w ⟨i, hf, hS2, hik, hL⟩
  refine cw_seq ?_
  refine cw_region ?_
  refine sq 9 rfl rfl (Y_lt (k := .i64) (a := (i : Int)) (b := (g.Edges.length : Int)) rfl (hf.get 8 3 rfl) (hf.get 7 2 rfl)) ?_
  refine rw_nil ?_
  refine cw_seq ?_
  refine cw_cond (b := (decide ((i : Int) < (g.Edges.length : Int)))) rfl (fun hlt => ?_) (fun hlt => ?_)
  · skip
    have hlt1 : i < g.Edges.length := by have h := of_decide_eq_true hlt; omega
    obtain ⟨k_1, rfl⟩ : ∃ k2, k_ = k2 + 1 := ⟨k_ - 1, by omega⟩
    obtain ⟨y, hb, hL1⟩ := forX_go hL
    unfold F_spec_l22Valid_l1 at hb
    refine cw_skip ?_
    refine cw_seq ?_
    refine cw_block ?_
    refine cw_seq ?_
    refine cw_region ?_
    refine sq 10 rfl rfl (Y_move (v := .int .i64 (i : Int)) rfl (hf.get 8 3 rfl)) ?_
    obtain ⟨x, hx, hb⟩ := bind_inv hb
    refine sq 11 rfl rfl (Y_index (B := B) (m := g.Edges.length) (c := c) (k := .i64) (i := (i : Int)) k_sl_98_277 k_sz_277_2 rfl (hf.get 6 1 rfl) (hf.get 8 3 rfl) (gi_isSome enc_Edge_len rfl (hS2.rf (i := 0) rfl) hx) (getI_nn hx) (getI_ltI hx rfl)) ?_
    refine sq 12 rfl rfl (Y_loadA (B := B) (i := (i : Int).toNat * 2) (cs := (g.Edges.flatMap enc_Edge)) (vs := [.int .i64 x.A, .int .i64 x.B]) k_ag_277 k_sz_277_2 rfl rfl (hS2.rf (i := 0) rfl) (enc_Edge_len x) (gi_seg enc_Edge_len hx)) ?_
    refine ss 4 rfl rfl (Ys_alloc (T := 277) (cs := [.int .i64 0, .int .i64 0]) (m := 2) hS2 k_zero_277 rfl rfl rfl) ?_
    rintro _ w_1 ⟨b1, rfl, hS3⟩
    have hS3 : ST w0 [] _ [⟨some ⟨b, 0, none⟩, 100, [.int .i64 g.Nodes, .slice B g.Edges.length c], 2⟩, ⟨some ⟨b1, 0, none⟩, 277, [.int .i64 0, .int .i64 0], 2⟩] [⟨B, (g.Edges.flatMap enc_Edge)⟩] := hS3
    refine sq 3 rfl rfl (Y_assign (v := .int .i64 (i : Int)) rfl rfl) ?_
    refine ss0 rfl rfl (Ys_store (i := 1) (s := 2) (B := some ⟨b1, 0, none⟩) (T' := 277) (v := .agg #[.int .i64 x.A, .int .i64 x.B]) (vs := [.int .i64 x.A, .int .i64 x.B]) (k := 0) (cs' := [.int .i64 x.A, .int .i64 x.B]) hS3 k_sz_277_2 rfl rfl rfl rfl rfl rfl rfl (Nat.le_of_ble_eq_true rfl) rfl rfl) ?_
    rintro _ w_2 ⟨rfl, hS4⟩
    have hS4 : ST w0 [] _ [⟨some ⟨b, 0, none⟩, 100, [.int .i64 g.Nodes, .slice B g.Edges.length c], 2⟩, ⟨some ⟨b1, 0, none⟩, 277, [.int .i64 x.A, .int .i64 x.B], 2⟩] [⟨B, (g.Edges.flatMap enc_Edge)⟩] := hS4
    refine rw_nil ?_
    refine cw_seq ?_
    refine cw_seq ?_
    refine cw_region ?_
    refine sq 13 rfl rfl (Y_fieldAddr (B := some ⟨b1, 0, none⟩) (i := 0) (s := 0) k_fd_277_0_0_3 k_sz_3_1 rfl rfl) ?_
    refine sq 14 rfl rfl (Y_load1 (B := some ⟨b1, 0, none⟩) (i := 0) (cs := [.int .i64 x.A, .int .i64 x.B]) (v := .int .i64 x.A) k_sc_3 rfl rfl (hS4.cf (i := 1) rfl) rfl) ?_
    refine sq 15 rfl rfl (Y_fieldAddr (B := some ⟨b1, 0, none⟩) (i := 0) (s := 0) k_fd_277_1_1_3 k_sz_3_1 rfl rfl) ?_
    refine sq 16 rfl rfl (Y_load1 (B := some ⟨b1, 0, none⟩) (i := 1) (cs := [.int .i64 x.A, .int .i64 x.B]) (v := .int .i64 x.B) k_sc_3 rfl rfl (hS4.cf (i := 1) rfl) rfl) ?_
    refine sq 17 rfl rfl (Y_sub (k := .i64) (a := x.B) (b := 1) rfl rfl rfl) ?_
    obtain ⟨r_1, hc, hb⟩ := bind_inv hb
    refine sc 18 rfl rfl (Yc_func (g := 201) (vs := [.int .i64 x.A, .int .i64 0, .int .i64 (IntKind.i64.wrap (x.B - 1))]) k_call_201 rfl (mc rfl (mc rfl (mc rfl mn))) (c_spec_l1In x.A 0 (IntKind.i64.wrap (x.B - 1)) _  (hS4.inn0 [] rfl) hc)) ?_
    rintro _ w_3 ⟨rfl, hd⟩
    have hS5 := hS4.out00 hd
    have hS5 : ST w0 [] _ [⟨some ⟨b, 0, none⟩, 100, [.int .i64 g.Nodes, .slice B g.Edges.length c], 2⟩, ⟨some ⟨b1, 0, none⟩, 277, [.int .i64 x.A, .int .i64 x.B], 2⟩] [⟨B, (g.Edges.flatMap enc_Edge)⟩] := hS5
    refine sq 19 rfl rfl (Y_not (p := r_1) rfl rfl) ?_
    refine sq 20 rfl rfl (Y_move (v := .bool (!r_1)) rfl rfl) ?_
    refine sgq 21 (B := (!(!r_1))) (v := pt (some ⟨b1, 0, none⟩) 1) rfl rfl (wt_f (gd_of (t := 20) (by kernel_rfl) rfl)) (fun hg => (Y_fieldAddr (B := some ⟨b1, 0, none⟩) (i := 0) (s := 0) k_fd_277_1_1_3 k_sz_3_1 rfl rfl)) ?_
    refine sgq 22 (B := (!(!r_1))) (v := .int .i64 x.B) rfl rfl (wt_f (gd_of (t := 20) (by kernel_rfl) rfl)) (fun hg1 => (Y_load1 (B := some ⟨b1, 0, none⟩) (i := 1) (cs := [.int .i64 x.A, .int .i64 x.B]) (v := .int .i64 x.B) k_sc_3 rfl (gv_of (B := (!(!r_1))) (v := pt (some ⟨b1, 0, none⟩) 1) hg1) (hS5.cf (i := 1) rfl) rfl)) ?_
    refine sgq 23 (B := (!(!r_1))) (v := pt (some ⟨b, 0, none⟩) 0) rfl rfl (wt_f (gd_of (t := 20) (by kernel_rfl) rfl)) (fun hg2 => (Y_fieldAddr (B := some ⟨b, 0, none⟩) (i := 0) (s := 0) k_fd_100_0_0_3 k_sz_3_1 rfl (hf.get 1 0 rfl))) ?_
    refine sgq 24 (B := (!(!r_1))) (v := .int .i64 g.Nodes) rfl rfl (wt_f (gd_of (t := 20) (by kernel_rfl) rfl)) (fun hg3 => (Y_load1 (B := some ⟨b, 0, none⟩) (i := 0) (cs := [.int .i64 g.Nodes, .slice B g.Edges.length c]) (v := .int .i64 g.Nodes) k_sc_3 rfl (gv_of (B := (!(!r_1))) (v := pt (some ⟨b, 0, none⟩) 0) hg3) (hS5.cf (i := 0) rfl) rfl)) ?_
    refine sgq 25 (B := (!(!r_1))) (v := .int .i64 (IntKind.i64.wrap (g.Nodes - 1))) rfl rfl (wt_f (gd_of (t := 20) (by kernel_rfl) rfl)) (fun hg4 => (Y_sub (k := .i64) (a := g.Nodes) (b := 1) rfl (gv_of (B := (!(!r_1))) (v := .int .i64 g.Nodes) hg4) rfl)) ?_
    obtain ⟨r_2, hc1, hb⟩ := bind_inv hb
    refine sgc 26 (B := (!(!r_1))) (v := .bool r_2) (F := hS5.fn) rfl rfl (wt_f (gd_of (t := 20) (by kernel_rfl) rfl)) hS5 (fun hg5 => (Yc_func (g := 201) (vs := [.int .i64 x.B, .int .i64 0, .int .i64 (IntKind.i64.wrap (g.Nodes - 1))]) k_call_201 rfl (mc (gv_of (B := (!(!r_1))) (v := .int .i64 x.B) hg5) (mc rfl (mc (gv_of (B := (!(!r_1))) (v := .int .i64 (IntKind.i64.wrap (g.Nodes - 1))) hg5) mn))) (CV.mono (c_spec_l1In x.B 0 (IntKind.i64.wrap (g.Nodes - 1)) _  (hS5.inn0 [] rfl) (gb_inv hc1 hg5)) (by rintro _ _ ⟨rfl, h⟩; exact ⟨rfl, hS5.out00 h⟩)))) ?_
    rintro w_4 hS6
    have hS6 : ST _ _ w_4 _ _ := hS6
    refine sgq 27 (B := (!(!r_1))) (v := .bool (!r_2)) rfl rfl (wt_f (gd_of (t := 20) (by kernel_rfl) rfl)) (fun hg6 => (Y_not (p := r_2) rfl (gv_of (B := (!(!r_1))) (v := .bool r_2) hg6))) ?_
    refine sq 28 rfl rfl (Y_or (b := (!r_1)) (z := (!r_2)) rfl rfl rfl rfl) ?_
    refine rw_nil ?_
    refine cw_cond (b := ((!r_1) || (!r_2))) rfl (fun hb1 => ?_) (fun hb1 => ?_)
    · skip
      have hF2 := ct hb hb1
      refine cw_seq ?_
      refine cw_region ?_
      refine sq 2 rfl rfl (Y_assign (v := .bool false) rfl rfl) ?_
      refine rw_nil ?_
      refine cw_ret ?_
      obtain rfl := some_inj hF2
      obtain rfl := some_inj hL1
      obtain rfl := some_inj hF1
      exact ret1 Try.results232 (v1 := .bool false) (resAt_tmp rfl) ⟨rfl, (ST.subR (R' := []) (hS6.sel [] rfl rfl) (fun _ h => by cases h))⟩
    · skip
      have hF3 := cf' hb hb1
      refine cw_skip ?_
      refine cw_seq ?_
      obtain ⟨x1, hx1, hF3⟩ := bind_inv hF3
      obtain ⟨x2, hx2, hF3⟩ := bind_inv hF3
      obtain ⟨x3, hx3, hF3⟩ := bind_inv hF3
      refine ra_start (ST.sel hS6 [0, 1] rfl rfl).fn (by kernel_rfl) ?_
      have hS7 := hS6.drew
      refine ra_q 0 29 (v := .int .i64 (i : Int)) rfl rfl rfl (by kernel_rfl) (by kernel_rfl) (by kernel_rfl) (ST.sel hS7 [0, 1] rfl rfl) (fun w' hw' => (Y_move (v := .int .i64 (i : Int)) rfl rfl)) ?_
      refine ra_q 1 30 (v := .bool (decide (0 < (i : Int)))) rfl rfl rfl (by kernel_rfl) (by kernel_rfl) (by kernel_rfl) (ST.sel hS7 [0, 1] rfl rfl) (fun w' hw' => (Y_gt (k := .i64) (a := (i : Int)) (b := 0) rfl rfl rfl)) ?_
      refine ra_q 2 31 (v := .bool (decide (0 < (i : Int)))) rfl rfl rfl (by kernel_rfl) (by kernel_rfl) (by kernel_rfl) (ST.sel hS7 [0, 1] rfl rfl) (fun w' hw' => (Y_move (v := .bool (decide (0 < (i : Int)))) rfl rfl)) ?_
      refine ra_gq 3 32 (B := (decide (0 < (i : Int)))) (v := pt (some ⟨b, 0, none⟩) 1) rfl rfl rfl (wt_t (gd_of (t := 31) (by kernel_rfl) rfl)) (by kernel_rfl) (by kernel_rfl) (by kernel_rfl) (ST.sel hS7 [0, 1] rfl rfl) (fun hg7 w' hw' => (Y_fieldAddr (B := some ⟨b, 0, none⟩) (i := 0) (s := 0) k_fd_100_1_1_98 k_sz_98_1 rfl (hf.get 1 0 rfl))) ?_
      refine ra_gq 4 33 (B := (decide (0 < (i : Int)))) (v := .slice B g.Edges.length c) rfl rfl rfl (wt_t (gd_of (t := 31) (by kernel_rfl) rfl)) (by kernel_rfl) (by kernel_rfl) (by kernel_rfl) (ST.sel hS7 [0, 1] rfl rfl) (fun hg8 w' hw' => (Y_load1 (B := some ⟨b, 0, none⟩) (i := 1) (cs := [.int .i64 g.Nodes, .slice B g.Edges.length c]) (v := .slice B g.Edges.length c) k_sc_98 rfl (gv_of (B := (decide (0 < (i : Int)))) (v := pt (some ⟨b, 0, none⟩) 1) hg8) (ST.cf hw' (i := 0) rfl) rfl)) ?_
      refine ra_gq 5 34 (B := (decide (0 < (i : Int)))) (v := .int .i64 (i : Int)) rfl rfl rfl (wt_t (gd_of (t := 31) (by kernel_rfl) rfl)) (by kernel_rfl) (by kernel_rfl) (by kernel_rfl) (ST.sel hS7 [0, 1] rfl rfl) (fun hg9 w' hw' => (Y_move (v := .int .i64 (i : Int)) rfl rfl)) ?_
      refine ra_gq 6 35 (B := (decide (0 < (i : Int)))) (v := .int .i64 (IntKind.i64.wrap ((i : Int) - 1))) rfl rfl rfl (wt_t (gd_of (t := 31) (by kernel_rfl) rfl)) (by kernel_rfl) (by kernel_rfl) (by kernel_rfl) (ST.sel hS7 [0, 1] rfl rfl) (fun hg10 w' hw' => (Y_sub (k := .i64) (a := (i : Int)) (b := 1) rfl (gv_of (B := (decide (0 < (i : Int)))) (v := .int .i64 (i : Int)) hg10) rfl)) ?_
      refine ra_gq 7 36 (B := (decide (0 < (i : Int)))) (v := pt B ((IntKind.i64.wrap ((i : Int) - 1)).toNat * 2)) rfl rfl rfl (wt_t (gd_of (t := 31) (by kernel_rfl) rfl)) (by kernel_rfl) (by kernel_rfl) (by kernel_rfl) (ST.sel hS7 [0, 1] rfl rfl) (fun hg11 w' hw' => (Y_index (B := B) (m := g.Edges.length) (c := c) (k := .i64) (i := (IntKind.i64.wrap ((i : Int) - 1))) k_sl_98_277 k_sz_277_2 rfl (gv_of (B := (decide (0 < (i : Int)))) (v := .slice B g.Edges.length c) hg11) (gv_of (B := (decide (0 < (i : Int)))) (v := .int .i64 (IntKind.i64.wrap ((i : Int) - 1))) hg11) (gi_isSome enc_Edge_len rfl (ST.rf hw' (i := 0) rfl) (gb_inv hx1 hg11)) (getI_nn (gb_inv hx1 hg11)) (getI_ltI (gb_inv hx1 hg11) rfl))) ?_
      refine ra_gq 8 37 (B := (decide (0 < (i : Int)))) (v := pt B ((IntKind.i64.wrap ((i : Int) - 1)).toNat * 2 + 0)) rfl rfl rfl (wt_t (gd_of (t := 31) (by kernel_rfl) rfl)) (by kernel_rfl) (by kernel_rfl) (by kernel_rfl) (ST.sel hS7 [0, 1] rfl rfl) (fun hg12 w' hw' => (Y_fieldAddr (B := B) (i := (IntKind.i64.wrap ((i : Int) - 1)).toNat * 2) (s := 0) k_fd_277_0_0_3 k_sz_3_1 rfl (gv_of (B := (decide (0 < (i : Int)))) (v := pt B ((IntKind.i64.wrap ((i : Int) - 1)).toNat * 2)) hg12))) ?_
      refine ra_gq 9 38 (B := (decide (0 < (i : Int)))) (v := .int .i64 x1.A) rfl rfl rfl (wt_t (gd_of (t := 31) (by kernel_rfl) rfl)) (by kernel_rfl) (by kernel_rfl) (by kernel_rfl) (ST.sel hS7 [0, 1] rfl rfl) (fun hg13 w' hw' => (Y_load1 (B := B) (i := (IntKind.i64.wrap ((i : Int) - 1)).toNat * 2 + 0) (cs := (g.Edges.flatMap enc_Edge)) (v := .int .i64 x1.A) k_sc_3 rfl (gv_of (B := (decide (0 < (i : Int)))) (v := pt B ((IntKind.i64.wrap ((i : Int) - 1)).toNat * 2 + 0)) hg13) (ST.rf hw' (i := 0) rfl) (gi_at enc_Edge_len (gb_inv hx1 hg13) rfl))) ?_
      refine ra_gq 10 39 (B := (decide (0 < (i : Int)))) (v := pt (some ⟨b1, 0, none⟩) 0) rfl rfl rfl (wt_t (gd_of (t := 31) (by kernel_rfl) rfl)) (by kernel_rfl) (by kernel_rfl) (by kernel_rfl) (ST.sel hS7 [0, 1] rfl rfl) (fun hg14 w' hw' => (Y_fieldAddr (B := some ⟨b1, 0, none⟩) (i := 0) (s := 0) k_fd_277_0_0_3 k_sz_3_1 rfl rfl)) ?_
      refine ra_gq 11 40 (B := (decide (0 < (i : Int)))) (v := .int .i64 x.A) rfl rfl rfl (wt_t (gd_of (t := 31) (by kernel_rfl) rfl)) (by kernel_rfl) (by kernel_rfl) (by kernel_rfl) (ST.sel hS7 [0, 1] rfl rfl) (fun hg15 w' hw' => (Y_load1 (B := some ⟨b1, 0, none⟩) (i := 0) (cs := [.int .i64 x.A, .int .i64 x.B]) (v := .int .i64 x.A) k_sc_3 rfl (gv_of (B := (decide (0 < (i : Int)))) (v := pt (some ⟨b1, 0, none⟩) 0) hg15) (ST.cf hw' (i := 1) rfl) rfl)) ?_
      refine ra_gq 12 41 (B := (decide (0 < (i : Int)))) (v := .bool (decide (x.A < x1.A))) rfl rfl rfl (wt_t (gd_of (t := 31) (by kernel_rfl) rfl)) (by kernel_rfl) (by kernel_rfl) (by kernel_rfl) (ST.sel hS7 [0, 1] rfl rfl) (fun hg16 w' hw' => (Y_gt (k := .i64) (a := x1.A) (b := x.A) rfl (gv_of (B := (decide (0 < (i : Int)))) (v := .int .i64 x1.A) hg16) (gv_of (B := (decide (0 < (i : Int)))) (v := .int .i64 x.A) hg16))) ?_
      refine ra_gq 13 42 (B := (decide (0 < (i : Int)))) (v := .bool (decide (x.A < x1.A))) rfl rfl rfl (wt_t (gd_of (t := 31) (by kernel_rfl) rfl)) (by kernel_rfl) (by kernel_rfl) (by kernel_rfl) (ST.sel hS7 [0, 1] rfl rfl) (fun hg17 w' hw' => (Y_move (v := .bool (decide (x.A < x1.A))) rfl (gv_of (B := (decide (0 < (i : Int)))) (v := .bool (decide (x.A < x1.A))) hg17))) ?_
      refine ra_gq 14 43 (B := ((decide (0 < (i : Int))) && (!(decide (x.A < x1.A))))) (v := pt (some ⟨b, 0, none⟩) 1) rfl rfl rfl (wt_gf (gd_of (t := 42) (by kernel_rfl) rfl)) (by kernel_rfl) (by kernel_rfl) (by kernel_rfl) (ST.sel hS7 [0, 1] rfl rfl) (fun hg18 w' hw' => (Y_fieldAddr (B := some ⟨b, 0, none⟩) (i := 0) (s := 0) k_fd_100_1_1_98 k_sz_98_1 rfl (hf.get 1 0 rfl))) ?_
      refine ra_gq 15 44 (B := ((decide (0 < (i : Int))) && (!(decide (x.A < x1.A))))) (v := .slice B g.Edges.length c) rfl rfl rfl (wt_gf (gd_of (t := 42) (by kernel_rfl) rfl)) (by kernel_rfl) (by kernel_rfl) (by kernel_rfl) (ST.sel hS7 [0, 1] rfl rfl) (fun hg19 w' hw' => (Y_load1 (B := some ⟨b, 0, none⟩) (i := 1) (cs := [.int .i64 g.Nodes, .slice B g.Edges.length c]) (v := .slice B g.Edges.length c) k_sc_98 rfl (gv_of (B := ((decide (0 < (i : Int))) && (!(decide (x.A < x1.A))))) (v := pt (some ⟨b, 0, none⟩) 1) hg19) (ST.cf hw' (i := 0) rfl) rfl)) ?_
      refine ra_gq 16 45 (B := ((decide (0 < (i : Int))) && (!(decide (x.A < x1.A))))) (v := .int .i64 (i : Int)) rfl rfl rfl (wt_gf (gd_of (t := 42) (by kernel_rfl) rfl)) (by kernel_rfl) (by kernel_rfl) (by kernel_rfl) (ST.sel hS7 [0, 1] rfl rfl) (fun hg20 w' hw' => (Y_move (v := .int .i64 (i : Int)) rfl rfl)) ?_
      refine ra_gq 17 46 (B := ((decide (0 < (i : Int))) && (!(decide (x.A < x1.A))))) (v := .int .i64 (IntKind.i64.wrap ((i : Int) - 1))) rfl rfl rfl (wt_gf (gd_of (t := 42) (by kernel_rfl) rfl)) (by kernel_rfl) (by kernel_rfl) (by kernel_rfl) (ST.sel hS7 [0, 1] rfl rfl) (fun hg21 w' hw' => (Y_sub (k := .i64) (a := (i : Int)) (b := 1) rfl (gv_of (B := ((decide (0 < (i : Int))) && (!(decide (x.A < x1.A))))) (v := .int .i64 (i : Int)) hg21) rfl)) ?_
      refine ra_gq 18 47 (B := ((decide (0 < (i : Int))) && (!(decide (x.A < x1.A))))) (v := pt B ((IntKind.i64.wrap ((i : Int) - 1)).toNat * 2)) rfl rfl rfl (wt_gf (gd_of (t := 42) (by kernel_rfl) rfl)) (by kernel_rfl) (by kernel_rfl) (by kernel_rfl) (ST.sel hS7 [0, 1] rfl rfl) (fun hg22 w' hw' => (Y_index (B := B) (m := g.Edges.length) (c := c) (k := .i64) (i := (IntKind.i64.wrap ((i : Int) - 1))) k_sl_98_277 k_sz_277_2 rfl (gv_of (B := ((decide (0 < (i : Int))) && (!(decide (x.A < x1.A))))) (v := .slice B g.Edges.length c) hg22) (gv_of (B := ((decide (0 < (i : Int))) && (!(decide (x.A < x1.A))))) (v := .int .i64 (IntKind.i64.wrap ((i : Int) - 1))) hg22) (gi_isSome enc_Edge_len rfl (ST.rf hw' (i := 0) rfl) (gb_inv hx2 hg22)) (getI_nn (gb_inv hx2 hg22)) (getI_ltI (gb_inv hx2 hg22) rfl))) ?_
      refine ra_gq 19 48 (B := ((decide (0 < (i : Int))) && (!(decide (x.A < x1.A))))) (v := pt B ((IntKind.i64.wrap ((i : Int) - 1)).toNat * 2 + 0)) rfl rfl rfl (wt_gf (gd_of (t := 42) (by kernel_rfl) rfl)) (by kernel_rfl) (by kernel_rfl) (by kernel_rfl) (ST.sel hS7 [0, 1] rfl rfl) (fun hg23 w' hw' => (Y_fieldAddr (B := B) (i := (IntKind.i64.wrap ((i : Int) - 1)).toNat * 2) (s := 0) k_fd_277_0_0_3 k_sz_3_1 rfl (gv_of (B := ((decide (0 < (i : Int))) && (!(decide (x.A < x1.A))))) (v := pt B ((IntKind.i64.wrap ((i : Int) - 1)).toNat * 2)) hg23))) ?_
      refine ra_gq 20 49 (B := ((decide (0 < (i : Int))) && (!(decide (x.A < x1.A))))) (v := .int .i64 x2.A) rfl rfl rfl (wt_gf (gd_of (t := 42) (by kernel_rfl) rfl)) (by kernel_rfl) (by kernel_rfl) (by kernel_rfl) (ST.sel hS7 [0, 1] rfl rfl) (fun hg24 w' hw' => (Y_load1 (B := B) (i := (IntKind.i64.wrap ((i : Int) - 1)).toNat * 2 + 0) (cs := (g.Edges.flatMap enc_Edge)) (v := .int .i64 x2.A) k_sc_3 rfl (gv_of (B := ((decide (0 < (i : Int))) && (!(decide (x.A < x1.A))))) (v := pt B ((IntKind.i64.wrap ((i : Int) - 1)).toNat * 2 + 0)) hg24) (ST.rf hw' (i := 0) rfl) (gi_at enc_Edge_len (gb_inv hx2 hg24) rfl))) ?_
      refine ra_gq 21 50 (B := ((decide (0 < (i : Int))) && (!(decide (x.A < x1.A))))) (v := pt (some ⟨b1, 0, none⟩) 0) rfl rfl rfl (wt_gf (gd_of (t := 42) (by kernel_rfl) rfl)) (by kernel_rfl) (by kernel_rfl) (by kernel_rfl) (ST.sel hS7 [0, 1] rfl rfl) (fun hg25 w' hw' => (Y_fieldAddr (B := some ⟨b1, 0, none⟩) (i := 0) (s := 0) k_fd_277_0_0_3 k_sz_3_1 rfl rfl)) ?_
      refine ra_gq 22 51 (B := ((decide (0 < (i : Int))) && (!(decide (x.A < x1.A))))) (v := .int .i64 x.A) rfl rfl rfl (wt_gf (gd_of (t := 42) (by kernel_rfl) rfl)) (by kernel_rfl) (by kernel_rfl) (by kernel_rfl) (ST.sel hS7 [0, 1] rfl rfl) (fun hg26 w' hw' => (Y_load1 (B := some ⟨b1, 0, none⟩) (i := 0) (cs := [.int .i64 x.A, .int .i64 x.B]) (v := .int .i64 x.A) k_sc_3 rfl (gv_of (B := ((decide (0 < (i : Int))) && (!(decide (x.A < x1.A))))) (v := pt (some ⟨b1, 0, none⟩) 0) hg26) (ST.cf hw' (i := 1) rfl) rfl)) ?_
      refine ra_gq 23 52 (B := ((decide (0 < (i : Int))) && (!(decide (x.A < x1.A))))) (v := .bool (x2.A == x.A)) rfl rfl rfl (wt_gf (gd_of (t := 42) (by kernel_rfl) rfl)) (by kernel_rfl) (by kernel_rfl) (by kernel_rfl) (ST.sel hS7 [0, 1] rfl rfl) (fun hg27 w' hw' => (Y_eq (k := .i64) (a := x2.A) (b := x.A) rfl (gv_of (B := ((decide (0 < (i : Int))) && (!(decide (x.A < x1.A))))) (v := .int .i64 x2.A) hg27) (gv_of (B := ((decide (0 < (i : Int))) && (!(decide (x.A < x1.A))))) (v := .int .i64 x.A) hg27))) ?_
      refine ra_gq 24 53 (B := ((decide (0 < (i : Int))) && (!(decide (x.A < x1.A))))) (v := .bool (x2.A == x.A)) rfl rfl rfl (wt_gf (gd_of (t := 42) (by kernel_rfl) rfl)) (by kernel_rfl) (by kernel_rfl) (by kernel_rfl) (ST.sel hS7 [0, 1] rfl rfl) (fun hg28 w' hw' => (Y_move (v := .bool (x2.A == x.A)) rfl (gv_of (B := ((decide (0 < (i : Int))) && (!(decide (x.A < x1.A))))) (v := .bool (x2.A == x.A)) hg28))) ?_
      refine ra_gq 25 54 (B := (((decide (0 < (i : Int))) && (!(decide (x.A < x1.A)))) && (x2.A == x.A))) (v := pt (some ⟨b, 0, none⟩) 1) rfl rfl rfl (wt_gt (gd_of (t := 53) (by kernel_rfl) rfl)) (by kernel_rfl) (by kernel_rfl) (by kernel_rfl) (ST.sel hS7 [0, 1] rfl rfl) (fun hg29 w' hw' => (Y_fieldAddr (B := some ⟨b, 0, none⟩) (i := 0) (s := 0) k_fd_100_1_1_98 k_sz_98_1 rfl (hf.get 1 0 rfl))) ?_
      refine ra_gq 26 55 (B := (((decide (0 < (i : Int))) && (!(decide (x.A < x1.A)))) && (x2.A == x.A))) (v := .slice B g.Edges.length c) rfl rfl rfl (wt_gt (gd_of (t := 53) (by kernel_rfl) rfl)) (by kernel_rfl) (by kernel_rfl) (by kernel_rfl) (ST.sel hS7 [0, 1] rfl rfl) (fun hg30 w' hw' => (Y_load1 (B := some ⟨b, 0, none⟩) (i := 1) (cs := [.int .i64 g.Nodes, .slice B g.Edges.length c]) (v := .slice B g.Edges.length c) k_sc_98 rfl (gv_of (B := (((decide (0 < (i : Int))) && (!(decide (x.A < x1.A)))) && (x2.A == x.A))) (v := pt (some ⟨b, 0, none⟩) 1) hg30) (ST.cf hw' (i := 0) rfl) rfl)) ?_
      refine ra_gq 27 56 (B := (((decide (0 < (i : Int))) && (!(decide (x.A < x1.A)))) && (x2.A == x.A))) (v := .int .i64 (i : Int)) rfl rfl rfl (wt_gt (gd_of (t := 53) (by kernel_rfl) rfl)) (by kernel_rfl) (by kernel_rfl) (by kernel_rfl) (ST.sel hS7 [0, 1] rfl rfl) (fun hg31 w' hw' => (Y_move (v := .int .i64 (i : Int)) rfl rfl)) ?_
      refine ra_gq 28 57 (B := (((decide (0 < (i : Int))) && (!(decide (x.A < x1.A)))) && (x2.A == x.A))) (v := .int .i64 (IntKind.i64.wrap ((i : Int) - 1))) rfl rfl rfl (wt_gt (gd_of (t := 53) (by kernel_rfl) rfl)) (by kernel_rfl) (by kernel_rfl) (by kernel_rfl) (ST.sel hS7 [0, 1] rfl rfl) (fun hg32 w' hw' => (Y_sub (k := .i64) (a := (i : Int)) (b := 1) rfl (gv_of (B := (((decide (0 < (i : Int))) && (!(decide (x.A < x1.A)))) && (x2.A == x.A))) (v := .int .i64 (i : Int)) hg32) rfl)) ?_
      refine ra_gq 29 58 (B := (((decide (0 < (i : Int))) && (!(decide (x.A < x1.A)))) && (x2.A == x.A))) (v := pt B ((IntKind.i64.wrap ((i : Int) - 1)).toNat * 2)) rfl rfl rfl (wt_gt (gd_of (t := 53) (by kernel_rfl) rfl)) (by kernel_rfl) (by kernel_rfl) (by kernel_rfl) (ST.sel hS7 [0, 1] rfl rfl) (fun hg33 w' hw' => (Y_index (B := B) (m := g.Edges.length) (c := c) (k := .i64) (i := (IntKind.i64.wrap ((i : Int) - 1))) k_sl_98_277 k_sz_277_2 rfl (gv_of (B := (((decide (0 < (i : Int))) && (!(decide (x.A < x1.A)))) && (x2.A == x.A))) (v := .slice B g.Edges.length c) hg33) (gv_of (B := (((decide (0 < (i : Int))) && (!(decide (x.A < x1.A)))) && (x2.A == x.A))) (v := .int .i64 (IntKind.i64.wrap ((i : Int) - 1))) hg33) (gi_isSome enc_Edge_len rfl (ST.rf hw' (i := 0) rfl) (gb_inv hx3 hg33)) (getI_nn (gb_inv hx3 hg33)) (getI_ltI (gb_inv hx3 hg33) rfl))) ?_
      refine ra_gq 30 59 (B := (((decide (0 < (i : Int))) && (!(decide (x.A < x1.A)))) && (x2.A == x.A))) (v := pt B ((IntKind.i64.wrap ((i : Int) - 1)).toNat * 2 + 1)) rfl rfl rfl (wt_gt (gd_of (t := 53) (by kernel_rfl) rfl)) (by kernel_rfl) (by kernel_rfl) (by kernel_rfl) (ST.sel hS7 [0, 1] rfl rfl) (fun hg34 w' hw' => (Y_fieldAddr (B := B) (i := (IntKind.i64.wrap ((i : Int) - 1)).toNat * 2) (s := 0) k_fd_277_1_1_3 k_sz_3_1 rfl (gv_of (B := (((decide (0 < (i : Int))) && (!(decide (x.A < x1.A)))) && (x2.A == x.A))) (v := pt B ((IntKind.i64.wrap ((i : Int) - 1)).toNat * 2)) hg34))) ?_
      refine ra_gq 31 60 (B := (((decide (0 < (i : Int))) && (!(decide (x.A < x1.A)))) && (x2.A == x.A))) (v := .int .i64 x3.B) rfl rfl rfl (wt_gt (gd_of (t := 53) (by kernel_rfl) rfl)) (by kernel_rfl) (by kernel_rfl) (by kernel_rfl) (ST.sel hS7 [0, 1] rfl rfl) (fun hg35 w' hw' => (Y_load1 (B := B) (i := (IntKind.i64.wrap ((i : Int) - 1)).toNat * 2 + 1) (cs := (g.Edges.flatMap enc_Edge)) (v := .int .i64 x3.B) k_sc_3 rfl (gv_of (B := (((decide (0 < (i : Int))) && (!(decide (x.A < x1.A)))) && (x2.A == x.A))) (v := pt B ((IntKind.i64.wrap ((i : Int) - 1)).toNat * 2 + 1)) hg35) (ST.rf hw' (i := 0) rfl) (gi_at enc_Edge_len (gb_inv hx3 hg35) rfl))) ?_
      refine ra_gq 32 61 (B := (((decide (0 < (i : Int))) && (!(decide (x.A < x1.A)))) && (x2.A == x.A))) (v := pt (some ⟨b1, 0, none⟩) 1) rfl rfl rfl (wt_gt (gd_of (t := 53) (by kernel_rfl) rfl)) (by kernel_rfl) (by kernel_rfl) (by kernel_rfl) (ST.sel hS7 [0, 1] rfl rfl) (fun hg36 w' hw' => (Y_fieldAddr (B := some ⟨b1, 0, none⟩) (i := 0) (s := 0) k_fd_277_1_1_3 k_sz_3_1 rfl rfl)) ?_
      refine ra_gq 33 62 (B := (((decide (0 < (i : Int))) && (!(decide (x.A < x1.A)))) && (x2.A == x.A))) (v := .int .i64 x.B) rfl rfl rfl (wt_gt (gd_of (t := 53) (by kernel_rfl) rfl)) (by kernel_rfl) (by kernel_rfl) (by kernel_rfl) (ST.sel hS7 [0, 1] rfl rfl) (fun hg37 w' hw' => (Y_load1 (B := some ⟨b1, 0, none⟩) (i := 1) (cs := [.int .i64 x.A, .int .i64 x.B]) (v := .int .i64 x.B) k_sc_3 rfl (gv_of (B := (((decide (0 < (i : Int))) && (!(decide (x.A < x1.A)))) && (x2.A == x.A))) (v := pt (some ⟨b1, 0, none⟩) 1) hg37) (ST.cf hw' (i := 1) rfl) rfl)) ?_
      refine ra_gq 34 63 (B := (((decide (0 < (i : Int))) && (!(decide (x.A < x1.A)))) && (x2.A == x.A))) (v := .bool (decide (x.B ≤ x3.B))) rfl rfl rfl (wt_gt (gd_of (t := 53) (by kernel_rfl) rfl)) (by kernel_rfl) (by kernel_rfl) (by kernel_rfl) (ST.sel hS7 [0, 1] rfl rfl) (fun hg38 w' hw' => (Y_ge (k := .i64) (a := x3.B) (b := x.B) rfl (gv_of (B := (((decide (0 < (i : Int))) && (!(decide (x.A < x1.A)))) && (x2.A == x.A))) (v := .int .i64 x3.B) hg38) (gv_of (B := (((decide (0 < (i : Int))) && (!(decide (x.A < x1.A)))) && (x2.A == x.A))) (v := .int .i64 x.B) hg38))) ?_
      refine ra_gq 35 64 (B := ((decide (0 < (i : Int))) && (!(decide (x.A < x1.A))))) (v := .bool ((x2.A == x.A) && (decide (x.B ≤ x3.B)))) rfl rfl rfl (wt_gf (gd_of (t := 42) (by kernel_rfl) rfl)) (by kernel_rfl) (by kernel_rfl) (by kernel_rfl) (ST.sel hS7 [0, 1] rfl rfl) (fun hg39 w' hw' => (Y_and (b := (x2.A == x.A)) (z := (decide (x.B ≤ x3.B))) rfl (gv_of (B := ((decide (0 < (i : Int))) && (!(decide (x.A < x1.A))))) (v := .bool (x2.A == x.A)) hg39) (gv_and (B := ((decide (0 < (i : Int))) && (!(decide (x.A < x1.A))))) (C := (x2.A == x.A)) (v := .bool (decide (x.B ≤ x3.B))) hg39) rfl)) ?_
      refine ra_gq 36 65 (B := (decide (0 < (i : Int)))) (v := .bool ((decide (x.A < x1.A)) || ((x2.A == x.A) && (decide (x.B ≤ x3.B))))) rfl rfl rfl (wt_t (gd_of (t := 31) (by kernel_rfl) rfl)) (by kernel_rfl) (by kernel_rfl) (by kernel_rfl) (ST.sel hS7 [0, 1] rfl rfl) (fun hg40 w' hw' => (Y_or (b := (decide (x.A < x1.A))) (z := ((x2.A == x.A) && (decide (x.B ≤ x3.B)))) rfl (gv_of (B := (decide (0 < (i : Int)))) (v := .bool (decide (x.A < x1.A))) hg40) rfl (gv_and (B := (decide (0 < (i : Int)))) (C := (!(decide (x.A < x1.A)))) (v := .bool ((x2.A == x.A) && (decide (x.B ≤ x3.B)))) hg40))) ?_
      refine ra_q 37 66 (v := .bool ((decide (0 < (i : Int))) && ((decide (x.A < x1.A)) || ((x2.A == x.A) && (decide (x.B ≤ x3.B)))))) rfl rfl rfl (by kernel_rfl) (by kernel_rfl) (by kernel_rfl) (ST.sel hS7 [0, 1] rfl rfl) (fun w' hw' => (Y_and (b := (decide (0 < (i : Int)))) (z := ((decide (x.A < x1.A)) || ((x2.A == x.A) && (decide (x.B ≤ x3.B))))) rfl rfl rfl rfl)) ?_
      refine ra_done (by kernel_rfl) ?_
      refine cw_cond (b := ((decide (0 < (i : Int))) && ((decide (x.A < x1.A)) || ((x2.A == x.A) && (decide (x.B ≤ x3.B)))))) rfl (fun hb2 => ?_) (fun hb2 => ?_)
      · skip
        have hF4 := ct hF3 hb2
        refine cw_seq ?_
        refine cw_region ?_
        refine sq 2 rfl rfl (Y_assign (v := .bool false) rfl rfl) ?_
        refine rw_nil ?_
        refine cw_ret ?_
        obtain rfl := some_inj hF4
        obtain rfl := some_inj hL1
        obtain rfl := some_inj hF1
        exact ret1 Try.results232 (v1 := .bool false) (resAt_tmp rfl) ⟨rfl, (ST.subR (R' := []) (hS7.sel [] rfl rfl) (fun _ h => by cases h))⟩
      · skip
        have hF5 := cf' hF3 hb2
        refine cw_skip ?_
        refine cw_region ?_
        refine sq 67 rfl rfl (Y_add (k := .i64) (a := (i : Int)) (b := 1) rfl (hf.get 8 3 rfl) rfl) ?_
        refine sq 8 rfl rfl (Y_move (v := .int .i64 (IntKind.i64.wrap ((i : Int) + 1))) rfl rfl) ?_
        refine rw_nil ?_
        obtain rfl := some_inj hF5
        exact ⟨k_1, Nat.lt_succ_self _, i + 1, (FF.cons (hf.get 1 0 rfl) (FF.cons (hf.get 6 1 rfl) (FF.cons (hf.get 7 2 rfl) (FF.cons (congrArg (Value.int .i64) (wr_succ hlt1 hN)) FF.nil)))), (hS7.sel [0] rfl rfl), (by omega), hL1⟩
  · skip
    obtain rfl : k_ = 0 := by have h := of_decide_eq_false hlt; omega
    refine cw_exit rfl ?_
    obtain rfl := some_inj hL
    refine cw_seq ?_
    refine cw_region ?_
    refine sq 68 rfl rfl (Y_fieldAddr (B := some ⟨b, 0, none⟩) (i := 0) (s := 0) k_fd_100_0_0_3 k_sz_3_1 rfl (hf.get 1 0 rfl)) ?_
    refine sq 69 rfl rfl (Y_load1 (B := some ⟨b, 0, none⟩) (i := 0) (cs := [.int .i64 g.Nodes, .slice B g.Edges.length c]) (v := .int .i64 g.Nodes) k_sc_3 rfl rfl (hS2.cf (i := 0) rfl) rfl) ?_
    obtain ⟨r_3, hc2, hF1⟩ := bind_inv hF1
    refine sc 70 rfl rfl (Yc_func (g := 201) (vs := [.int .i64 g.Nodes, .int .i64 1, .int .i64 8]) k_call_201 rfl (mc rfl (mc rfl (mc rfl mn))) (c_spec_l1In g.Nodes 1 8 _  (hS2.inn0 [] rfl) hc2)) ?_
    rintro _ w_5 ⟨rfl, hd1⟩
    have hS8 := hS2.out00 hd1
    refine sq 2 rfl rfl (Y_assign (v := .bool r_3) rfl rfl) ?_
    refine rw_nil ?_
    refine cw_ret ?_
    obtain rfl := some_inj hF1
    exact ret1 Try.results232 (v1 := .bool r_3) (resAt_tmp rfl) ⟨rfl, (ST.subR (R' := []) (hS8.sel [] rfl rfl) (fun _ h => by cases h))⟩

theorem c_spec_l4Gate (n : Int) (g : TGate)  (w0 : World)  (hS : ST w0 [] w0 [] []) {r_ : Bool} (hF : F_spec_l4Gate n g = some r_) :
    CV Try.prog 310 #[.int .i64 n, .agg #[.int .i64 g.Kind, .int .i64 g.A, .int .i64 g.B]] w0 (fun v w' => v = .bool r_ ∧ ST w0 [] w' [] []) := by
  unfold F_spec_l4Gate at hF
  refine cv_of_cw 55 Try.func310 rfl Try.ntmps310 rfl ?_
  refine cw_seq ?_
  refine cw_region ?_
  refine ss 3 rfl rfl (Ys_box (T := 213) (v := .agg #[.int .i64 g.Kind, .int .i64 g.A, .int .i64 g.B]) (cs := [.int .i64 g.Kind, .int .i64 g.A, .int .i64 g.B]) (m := 3) hS rfl rfl rfl rfl) ?_
  rintro _ w_ ⟨b, rfl, hS1⟩
  refine sq 4 rfl rfl (Y_assign (v := .bool false) rfl rfl) ?_
  refine rw_nil ?_
  refine cw_seq ?_
  refine cw_block ?_
  refine cw_seq ?_
  refine cw_region ?_
  refine sq 6 rfl rfl (Y_fieldAddr (B := some ⟨b, 0, none⟩) (i := 0) (s := 0) k_fd_213_0_0_3 k_sz_3_1 rfl rfl) ?_
  refine sq 7 rfl rfl (Y_load1 (B := some ⟨b, 0, none⟩) (i := 0) (cs := [.int .i64 g.Kind, .int .i64 g.A, .int .i64 g.B]) (v := .int .i64 g.Kind) k_sc_3 rfl rfl (hS1.cf (i := 0) rfl) rfl) ?_
  obtain ⟨r_1, hc, hF⟩ := bind_inv hF
  refine sc 8 rfl rfl (Yc_func (g := 201) (vs := [.int .i64 g.Kind, .int .i64 1, .int .i64 8]) k_call_201 rfl (mc rfl (mc rfl (mc rfl mn))) (c_spec_l1In g.Kind 1 8 _  (hS1.inn0 [] rfl) hc)) ?_
  rintro _ w_1 ⟨rfl, hd⟩
  have hS2 := hS1.out00 hd
  refine sq 5 rfl rfl (Y_assign (v := .bool r_1) rfl rfl) ?_
  refine rw_nil ?_
  refine cw_cond (b := r_1) rfl (fun hb => ?_) (fun hb => ?_)
  · skip
    have hF1 := ct hF hb
    refine cw_seq ?_
    refine cw_region ?_
    refine sq 9 rfl rfl (Y_fieldAddr (B := some ⟨b, 0, none⟩) (i := 0) (s := 0) k_fd_213_1_1_3 k_sz_3_1 rfl rfl) ?_
    refine sq 10 rfl rfl (Y_load1 (B := some ⟨b, 0, none⟩) (i := 1) (cs := [.int .i64 g.Kind, .int .i64 g.A, .int .i64 g.B]) (v := .int .i64 g.A) k_sc_3 rfl rfl (hS2.cf (i := 0) rfl) rfl) ?_
    refine sq 11 rfl rfl (Y_move (v := .int .i64 n) rfl rfl) ?_
    refine sq 12 rfl rfl (Y_sub (k := .i64) (a := n) (b := 1) rfl rfl rfl) ?_
    obtain ⟨r_2, hc1, hF1⟩ := bind_inv hF1
    refine sc 13 rfl rfl (Yc_func (g := 201) (vs := [.int .i64 g.A, .int .i64 0, .int .i64 (IntKind.i64.wrap (n - 1))]) k_call_201 rfl (mc rfl (mc rfl (mc rfl mn))) (c_spec_l1In g.A 0 (IntKind.i64.wrap (n - 1)) _  (hS2.inn0 [] rfl) hc1)) ?_
    rintro _ w_2 ⟨rfl, hd1⟩
    have hS3 := hS2.out00 hd1
    refine sq 14 rfl rfl (Y_move (v := .bool r_2) rfl rfl) ?_
    refine sgq 15 (B := r_2) (v := pt (some ⟨b, 0, none⟩) 2) rfl rfl (wt_t (gd_of (t := 14) (by kernel_rfl) rfl)) (fun hg => (Y_fieldAddr (B := some ⟨b, 0, none⟩) (i := 0) (s := 0) k_fd_213_2_2_3 k_sz_3_1 rfl rfl)) ?_
    refine sgq 16 (B := r_2) (v := .int .i64 g.B) rfl rfl (wt_t (gd_of (t := 14) (by kernel_rfl) rfl)) (fun hg1 => (Y_load1 (B := some ⟨b, 0, none⟩) (i := 2) (cs := [.int .i64 g.Kind, .int .i64 g.A, .int .i64 g.B]) (v := .int .i64 g.B) k_sc_3 rfl (gv_of (B := r_2) (v := pt (some ⟨b, 0, none⟩) 2) hg1) (hS3.cf (i := 0) rfl) rfl)) ?_
    refine sgq 17 (B := r_2) (v := .bool (g.B == 0)) rfl rfl (wt_t (gd_of (t := 14) (by kernel_rfl) rfl)) (fun hg2 => (Y_eq (k := .i64) (a := g.B) (b := 0) rfl (gv_of (B := r_2) (v := .int .i64 g.B) hg2) rfl)) ?_
    refine sq 18 rfl rfl (Y_and (b := r_2) (z := (g.B == 0)) rfl rfl rfl rfl) ?_
    refine sq 4 rfl rfl (Y_assign (v := .bool (r_2 && (g.B == 0))) rfl rfl) ?_
    refine rw_nil ?_
    refine cw_ret ?_
    obtain rfl := some_inj hF1
    exact ret1 Try.results310 (v1 := .bool (r_2 && (g.B == 0))) (resAt_tmp rfl) ⟨rfl, (ST.subR (R' := []) (hS3.sel [] rfl rfl) (fun _ h => by cases h))⟩
  · skip
    have hF2 := cf' hF hb
    refine cw_seq ?_
    refine cw_region ?_
    refine sq 20 rfl rfl (Y_fieldAddr (B := some ⟨b, 0, none⟩) (i := 0) (s := 0) k_fd_213_0_0_3 k_sz_3_1 rfl rfl) ?_
    refine sq 21 rfl rfl (Y_load1 (B := some ⟨b, 0, none⟩) (i := 0) (cs := [.int .i64 g.Kind, .int .i64 g.A, .int .i64 g.B]) (v := .int .i64 g.Kind) k_sc_3 rfl rfl (hS2.cf (i := 0) rfl) rfl) ?_
    obtain ⟨r_3, hc2, hF2⟩ := bind_inv hF2
    refine sc 22 rfl rfl (Yc_func (g := 201) (vs := [.int .i64 g.Kind, .int .i64 9, .int .i64 11]) k_call_201 rfl (mc rfl (mc rfl (mc rfl mn))) (c_spec_l1In g.Kind 9 11 _  (hS2.inn0 [] rfl) hc2)) ?_
    rintro _ w_3 ⟨rfl, hd2⟩
    have hS4 := hS2.out00 hd2
    refine sq 19 rfl rfl (Y_assign (v := .bool r_3) rfl rfl) ?_
    refine rw_nil ?_
    refine cw_cond (b := r_3) rfl (fun hb1 => ?_) (fun hb1 => ?_)
    · skip
      have hF3 := ct hF2 hb1
      refine cw_seq ?_
      refine cw_region ?_
      refine sq 23 rfl rfl (Y_fieldAddr (B := some ⟨b, 0, none⟩) (i := 0) (s := 0) k_fd_213_1_1_3 k_sz_3_1 rfl rfl) ?_
      refine sq 24 rfl rfl (Y_load1 (B := some ⟨b, 0, none⟩) (i := 1) (cs := [.int .i64 g.Kind, .int .i64 g.A, .int .i64 g.B]) (v := .int .i64 g.A) k_sc_3 rfl rfl (hS4.cf (i := 0) rfl) rfl) ?_
      refine sq 25 rfl rfl (Y_move (v := .int .i64 n) rfl rfl) ?_
      refine sq 26 rfl rfl (Y_sub (k := .i64) (a := n) (b := 1) rfl rfl rfl) ?_
      obtain ⟨r_4, hc3, hF3⟩ := bind_inv hF3
      refine sc 27 rfl rfl (Yc_func (g := 201) (vs := [.int .i64 g.A, .int .i64 0, .int .i64 (IntKind.i64.wrap (n - 1))]) k_call_201 rfl (mc rfl (mc rfl (mc rfl mn))) (c_spec_l1In g.A 0 (IntKind.i64.wrap (n - 1)) _  (hS4.inn0 [] rfl) hc3)) ?_
      rintro _ w_4 ⟨rfl, hd3⟩
      have hS5 := hS4.out00 hd3
      refine sq 28 rfl rfl (Y_move (v := .bool r_4) rfl rfl) ?_
      refine sgq 29 (B := r_4) (v := pt (some ⟨b, 0, none⟩) 2) rfl rfl (wt_t (gd_of (t := 28) (by kernel_rfl) rfl)) (fun hg3 => (Y_fieldAddr (B := some ⟨b, 0, none⟩) (i := 0) (s := 0) k_fd_213_2_2_3 k_sz_3_1 rfl rfl)) ?_
      refine sgq 30 (B := r_4) (v := .int .i64 g.B) rfl rfl (wt_t (gd_of (t := 28) (by kernel_rfl) rfl)) (fun hg4 => (Y_load1 (B := some ⟨b, 0, none⟩) (i := 2) (cs := [.int .i64 g.Kind, .int .i64 g.A, .int .i64 g.B]) (v := .int .i64 g.B) k_sc_3 rfl (gv_of (B := r_4) (v := pt (some ⟨b, 0, none⟩) 2) hg4) (hS5.cf (i := 0) rfl) rfl)) ?_
      refine sgq 31 (B := r_4) (v := .int .i64 n) rfl rfl (wt_t (gd_of (t := 28) (by kernel_rfl) rfl)) (fun hg5 => (Y_move (v := .int .i64 n) rfl rfl)) ?_
      refine sgq 32 (B := r_4) (v := .int .i64 (IntKind.i64.wrap (n - 1))) rfl rfl (wt_t (gd_of (t := 28) (by kernel_rfl) rfl)) (fun hg6 => (Y_sub (k := .i64) (a := n) (b := 1) rfl (gv_of (B := r_4) (v := .int .i64 n) hg6) rfl)) ?_
      obtain ⟨r_5, hc4, hF3⟩ := bind_inv hF3
      refine sgc 33 (B := r_4) (v := .bool r_5) (F := hS5.fn) rfl rfl (wt_t (gd_of (t := 28) (by kernel_rfl) rfl)) hS5 (fun hg7 => (Yc_func (g := 201) (vs := [.int .i64 g.B, .int .i64 0, .int .i64 (IntKind.i64.wrap (n - 1))]) k_call_201 rfl (mc (gv_of (B := r_4) (v := .int .i64 g.B) hg7) (mc rfl (mc (gv_of (B := r_4) (v := .int .i64 (IntKind.i64.wrap (n - 1))) hg7) mn))) (CV.mono (c_spec_l1In g.B 0 (IntKind.i64.wrap (n - 1)) _  (hS5.inn0 [] rfl) (gb_inv hc4 hg7)) (by rintro _ _ ⟨rfl, h⟩; exact ⟨rfl, hS5.out00 h⟩)))) ?_
      rintro w_5 hS6
      have hS6 : ST _ _ w_5 _ _ := hS6
      refine sq 34 rfl rfl (Y_and (b := r_4) (z := r_5) rfl rfl rfl rfl) ?_
      refine sq 35 rfl rfl (Y_move (v := .bool (r_4 && r_5)) rfl rfl) ?_
      refine sgq 36 (B := (r_4 && r_5)) (v := pt (some ⟨b, 0, none⟩) 1) rfl rfl (wt_t (gd_of (t := 35) (by kernel_rfl) rfl)) (fun hg8 => (Y_fieldAddr (B := some ⟨b, 0, none⟩) (i := 0) (s := 0) k_fd_213_1_1_3 k_sz_3_1 rfl rfl)) ?_
      refine sgq 37 (B := (r_4 && r_5)) (v := .int .i64 g.A) rfl rfl (wt_t (gd_of (t := 35) (by kernel_rfl) rfl)) (fun hg9 => (Y_load1 (B := some ⟨b, 0, none⟩) (i := 1) (cs := [.int .i64 g.Kind, .int .i64 g.A, .int .i64 g.B]) (v := .int .i64 g.A) k_sc_3 rfl (gv_of (B := (r_4 && r_5)) (v := pt (some ⟨b, 0, none⟩) 1) hg9) (hS6.cf (i := 0) rfl) rfl)) ?_
      refine sgq 38 (B := (r_4 && r_5)) (v := pt (some ⟨b, 0, none⟩) 2) rfl rfl (wt_t (gd_of (t := 35) (by kernel_rfl) rfl)) (fun hg10 => (Y_fieldAddr (B := some ⟨b, 0, none⟩) (i := 0) (s := 0) k_fd_213_2_2_3 k_sz_3_1 rfl rfl)) ?_
      refine sgq 39 (B := (r_4 && r_5)) (v := .int .i64 g.B) rfl rfl (wt_t (gd_of (t := 35) (by kernel_rfl) rfl)) (fun hg11 => (Y_load1 (B := some ⟨b, 0, none⟩) (i := 2) (cs := [.int .i64 g.Kind, .int .i64 g.A, .int .i64 g.B]) (v := .int .i64 g.B) k_sc_3 rfl (gv_of (B := (r_4 && r_5)) (v := pt (some ⟨b, 0, none⟩) 2) hg11) (hS6.cf (i := 0) rfl) rfl)) ?_
      refine sgq 40 (B := (r_4 && r_5)) (v := .bool (g.A != g.B)) rfl rfl (wt_t (gd_of (t := 35) (by kernel_rfl) rfl)) (fun hg12 => (Y_ne (k := .i64) (a := g.A) (b := g.B) rfl (gv_of (B := (r_4 && r_5)) (v := .int .i64 g.A) hg12) (gv_of (B := (r_4 && r_5)) (v := .int .i64 g.B) hg12))) ?_
      refine sq 41 rfl rfl (Y_and (b := (r_4 && r_5)) (z := (g.A != g.B)) rfl rfl rfl rfl) ?_
      refine sq 4 rfl rfl (Y_assign (v := .bool ((r_4 && r_5) && (g.A != g.B))) rfl rfl) ?_
      refine rw_nil ?_
      refine cw_ret ?_
      obtain rfl := some_inj hF3
      exact ret1 Try.results310 (v1 := .bool ((r_4 && r_5) && (g.A != g.B))) (resAt_tmp rfl) ⟨rfl, (ST.subR (R' := []) (hS6.sel [] rfl rfl) (fun _ h => by cases h))⟩
    · skip
      have hF4 := cf' hF2 hb1
      refine cw_skip ?_
      refine cw_seq ?_
      refine cw_region ?_
      refine sq 42 rfl rfl (Y_fieldAddr (B := some ⟨b, 0, none⟩) (i := 0) (s := 0) k_fd_213_0_0_3 k_sz_3_1 rfl rfl) ?_
      refine sq 43 rfl rfl (Y_load1 (B := some ⟨b, 0, none⟩) (i := 0) (cs := [.int .i64 g.Kind, .int .i64 g.A, .int .i64 g.B]) (v := .int .i64 g.Kind) k_sc_3 rfl rfl (hS4.cf (i := 0) rfl) rfl) ?_
      refine sq 44 rfl rfl (Y_eq (k := .i64) (a := g.Kind) (b := 12) rfl rfl rfl) ?_
      refine sq 45 rfl rfl (Y_move (v := .bool (g.Kind == 12)) rfl rfl) ?_
      refine sgq 46 (B := (g.Kind == 12)) (v := pt (some ⟨b, 0, none⟩) 1) rfl rfl (wt_t (gd_of (t := 45) (by kernel_rfl) rfl)) (fun hg13 => (Y_fieldAddr (B := some ⟨b, 0, none⟩) (i := 0) (s := 0) k_fd_213_1_1_3 k_sz_3_1 rfl rfl)) ?_
      refine sgq 47 (B := (g.Kind == 12)) (v := .int .i64 g.A) rfl rfl (wt_t (gd_of (t := 45) (by kernel_rfl) rfl)) (fun hg14 => (Y_load1 (B := some ⟨b, 0, none⟩) (i := 1) (cs := [.int .i64 g.Kind, .int .i64 g.A, .int .i64 g.B]) (v := .int .i64 g.A) k_sc_3 rfl (gv_of (B := (g.Kind == 12)) (v := pt (some ⟨b, 0, none⟩) 1) hg14) (hS4.cf (i := 0) rfl) rfl)) ?_
      refine sgq 48 (B := (g.Kind == 12)) (v := .bool (g.A == 0)) rfl rfl (wt_t (gd_of (t := 45) (by kernel_rfl) rfl)) (fun hg15 => (Y_eq (k := .i64) (a := g.A) (b := 0) rfl (gv_of (B := (g.Kind == 12)) (v := .int .i64 g.A) hg15) rfl)) ?_
      refine sq 49 rfl rfl (Y_and (b := (g.Kind == 12)) (z := (g.A == 0)) rfl rfl rfl rfl) ?_
      refine sq 50 rfl rfl (Y_move (v := .bool ((g.Kind == 12) && (g.A == 0))) rfl rfl) ?_
      refine sgq 51 (B := ((g.Kind == 12) && (g.A == 0))) (v := pt (some ⟨b, 0, none⟩) 2) rfl rfl (wt_t (gd_of (t := 50) (by kernel_rfl) rfl)) (fun hg16 => (Y_fieldAddr (B := some ⟨b, 0, none⟩) (i := 0) (s := 0) k_fd_213_2_2_3 k_sz_3_1 rfl rfl)) ?_
      refine sgq 52 (B := ((g.Kind == 12) && (g.A == 0))) (v := .int .i64 g.B) rfl rfl (wt_t (gd_of (t := 50) (by kernel_rfl) rfl)) (fun hg17 => (Y_load1 (B := some ⟨b, 0, none⟩) (i := 2) (cs := [.int .i64 g.Kind, .int .i64 g.A, .int .i64 g.B]) (v := .int .i64 g.B) k_sc_3 rfl (gv_of (B := ((g.Kind == 12) && (g.A == 0))) (v := pt (some ⟨b, 0, none⟩) 2) hg17) (hS4.cf (i := 0) rfl) rfl)) ?_
      refine sgq 53 (B := ((g.Kind == 12) && (g.A == 0))) (v := .bool (g.B == 0)) rfl rfl (wt_t (gd_of (t := 50) (by kernel_rfl) rfl)) (fun hg18 => (Y_eq (k := .i64) (a := g.B) (b := 0) rfl (gv_of (B := ((g.Kind == 12) && (g.A == 0))) (v := .int .i64 g.B) hg18) rfl)) ?_
      refine sq 54 rfl rfl (Y_and (b := ((g.Kind == 12) && (g.A == 0))) (z := (g.B == 0)) rfl rfl rfl rfl) ?_
      refine sq 4 rfl rfl (Y_assign (v := .bool (((g.Kind == 12) && (g.A == 0)) && (g.B == 0))) rfl rfl) ?_
      refine rw_nil ?_
      refine cw_ret ?_
      obtain rfl := some_inj hF4
      exact ret1 Try.results310 (v1 := .bool (((g.Kind == 12) && (g.A == 0)) && (g.B == 0))) (resAt_tmp rfl) ⟨rfl, (ST.subR (R' := []) (hS4.sel [] rfl rfl) (fun _ h => by cases h))⟩
end Go.VK
