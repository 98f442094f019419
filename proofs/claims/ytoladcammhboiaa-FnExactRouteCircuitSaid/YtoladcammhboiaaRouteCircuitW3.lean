/- Walks: each Go function returns what its Lean function says. By program. -/
import Derived.Test.YtoladcammhboiaaRouteCircuitFa
import Derived.Test.YtoladcammhboiaaRouteCircuitW2
set_option linter.unusedVariables false
set_option maxRecDepth 100000
set_option maxHeartbeats 1000000
namespace Go.VK
open Go.RowKit
open Go.Proofs
attribute [local irreducible] CW RW RA CV Y Yw Yc Ys RetOf
attribute [local irreducible] F_laws_szEdgeS F_laws_szCouplingGraph F_laws_szGateS F_laws_szCircuit F_laws_szIntS F_laws_szRouteStepS F_laws_szRoute F_laws_toEdge F_laws_toEdgeS F_laws_toCouplingGraph F_laws_toGate F_laws_toGateS F_laws_toCircuit F_laws_toIntS F_laws_toRouteStep F_laws_toRouteStepS F_laws_toRoute F_laws_eqEdge F_laws_eqEdgeS F_laws_eqCouplingGraph F_laws_eqGate F_laws_eqGateS F_laws_eqCircuit F_laws_eqIntS F_laws_eqRouteStep F_laws_eqRouteStepS F_laws_eqRoute F_laws_markEdgeS F_laws_markCouplingGraph F_laws_markGateS F_laws_markCircuit F_laws_markIntS F_laws_markRouteStepS F_laws_markRoute F_spec_l1In F_spec_l22Valid F_spec_l4Gate F_spec_l4Good F_spec_l23Fits F_spec_l1Own F_spec_l23Swap F_spec_l1Has F_spec_l23Placement F_spec_l22Edge F_spec_l22Two F_spec_l23Qubits F_spec_l23Ready F_spec_l23Near F_spec_l23Play F_spec_RouteCircuit F_impl_within F_impl_areEdges F_impl_IsValidCouplingGraph F_slices_IndexFunc_impl_Gate_impl_Gate F_slices_ContainsFunc_impl_Gate_impl_Gate F_impl_isTwo F_impl_IsValidGate F_impl_IsValidCircuit_1 F_impl_IsValidCircuit F_impl_canRoute F_slices_Clone_int_int F_impl_newRouting F_slices_Index_impl_Edge_impl_Edge F_slices_Contains_impl_Edge_impl_Edge F_impl_CouplingGraph_joins F_impl_routing_swap F_slices_IndexFunc_int_int F_slices_ContainsFunc_int_int F_impl_qubitsOf F_slices_Index_int_int F_slices_Contains_int_int F_impl_meet_1 F_impl_meet F_impl_routing_isReady F_impl_routing_fits F_impl_routing_step F_impl_CouplingGraph_isPlacement F_slices_Index_bool_bool F_slices_Contains_bool_bool F_impl_check F_impl_CheckRoute F_impl_mapped F_impl_circuitIf F_impl_RouteCircuit F_laws_heldGateS F_laws_heldCircuit F_laws_FnExactRouteCircuit
theorem c_impl_IsValidGate (n : Int) (g : TGate)  (w0 : World)  (hS : ST w0 [] w0 [] []) {r_ : Bool} (hF : F_impl_IsValidGate n g = some r_) :
    CV Try.prog 315 #[.int .i64 n, .agg #[.int .i64 g.Kind, .int .i64 g.A, .int .i64 g.B]] w0 (fun v w' => v = .bool r_ ∧ ST w0 [] w' [] []) := by
  unfold F_impl_IsValidGate at hF
  refine cv_of_cw 60 Try.func315 rfl Try.ntmps315 rfl ?_
  refine cw_seq ?_
  refine cw_region ?_
  refine ss 3 rfl rfl (Ys_box (T := 213) (v := .agg #[.int .i64 g.Kind, .int .i64 g.A, .int .i64 g.B]) (cs := [.int .i64 g.Kind, .int .i64 g.A, .int .i64 g.B]) (m := 3) hS rfl rfl rfl rfl) ?_
  rintro _ w_ ⟨b, rfl, hS1⟩
  refine sq 4 rfl rfl (Y_assign (v := .bool false) rfl rfl) ?_
  refine rw_nil ?_
  refine cw_seq ?_
  refine cw_block ?_
  refine cw_seq ?_
  refine cw_region ?_
  refine sq 6 rfl rfl (Y_move (v := .int .i64 n) rfl rfl) ?_
  obtain ⟨r_1, hc, hF⟩ := bind_inv hF
  refine sc 7 rfl rfl (Yc_func (g := 130) (vs := [.int .i64 n, .int .i64 1, .int .i64 5]) k_call_130 rfl (mc rfl (mc rfl (mc rfl mn))) (c_impl_within n 1 5 _  (hS1.inn0 [] rfl) hc)) ?_
  rintro _ w_1 ⟨rfl, hd⟩
  have hS2 := hS1.out00 hd
  refine sq 8 rfl rfl (Y_not (p := r_1) rfl rfl) ?_
  refine sq 9 rfl rfl (Y_move (v := .bool (!r_1)) rfl rfl) ?_
  refine sgq 10 (B := (!(!r_1))) (v := pt (some ⟨b, 0, none⟩) 0) rfl rfl (wt_f (gd_of (t := 9) (by kernel_rfl) rfl)) (fun hg => (Y_fieldAddr (B := some ⟨b, 0, none⟩) (i := 0) (s := 0) k_fd_213_0_0_3 k_sz_3_1 rfl rfl)) ?_
  refine sgq 11 (B := (!(!r_1))) (v := .int .i64 g.Kind) rfl rfl (wt_f (gd_of (t := 9) (by kernel_rfl) rfl)) (fun hg1 => (Y_load1 (B := some ⟨b, 0, none⟩) (i := 0) (cs := [.int .i64 g.Kind, .int .i64 g.A, .int .i64 g.B]) (v := .int .i64 g.Kind) k_sc_3 rfl (gv_of (B := (!(!r_1))) (v := pt (some ⟨b, 0, none⟩) 0) hg1) (hS2.cf (i := 0) rfl) rfl)) ?_
  obtain ⟨r_2, hc1, hF⟩ := bind_inv hF
  refine sgc 12 (B := (!(!r_1))) (v := .bool r_2) (F := hS2.fn) rfl rfl (wt_f (gd_of (t := 9) (by kernel_rfl) rfl)) hS2 (fun hg2 => (Yc_func (g := 130) (vs := [.int .i64 g.Kind, .int .i64 1, .int .i64 12]) k_call_130 rfl (mc (gv_of (B := (!(!r_1))) (v := .int .i64 g.Kind) hg2) (mc rfl (mc rfl mn))) (CV.mono (c_impl_within g.Kind 1 12 _  (hS2.inn0 [] rfl) (gb_inv hc1 hg2)) (by rintro _ _ ⟨rfl, h⟩; exact ⟨rfl, hS2.out00 h⟩)))) ?_
  rintro w_2 hS3
  have hS3 : ST _ _ w_2 _ _ := hS3
  refine sgq 13 (B := (!(!r_1))) (v := .bool (!r_2)) rfl rfl (wt_f (gd_of (t := 9) (by kernel_rfl) rfl)) (fun hg3 => (Y_not (p := r_2) rfl (gv_of (B := (!(!r_1))) (v := .bool r_2) hg3))) ?_
  refine sq 14 rfl rfl (Y_or (b := (!r_1)) (z := (!r_2)) rfl rfl rfl rfl) ?_
  refine sq 5 rfl rfl (Y_assign (v := .bool ((!r_1) || (!r_2))) rfl rfl) ?_
  refine rw_nil ?_
  refine cw_cond (b := ((!r_1) || (!r_2))) rfl (fun hb => ?_) (fun hb => ?_)
  · skip
    have hF1 := ct hF hb
    refine cw_seq ?_
    refine cw_region ?_
    refine sq 4 rfl rfl (Y_assign (v := .bool false) rfl rfl) ?_
    refine rw_nil ?_
    refine cw_ret ?_
    obtain rfl := some_inj hF1
    exact ret1 Try.results315 (v1 := .bool false) (resAt_tmp rfl) ⟨rfl, (ST.subR (R' := []) (hS3.sel [] rfl rfl) (fun _ h => by cases h))⟩
  · skip
    have hF2 := cf' hF hb
    refine cw_seq ?_
    refine cw_region ?_
    refine sq 16 rfl rfl (Y_fieldAddr (B := some ⟨b, 0, none⟩) (i := 0) (s := 0) k_fd_213_0_0_3 k_sz_3_1 rfl rfl) ?_
    refine sq 17 rfl rfl (Y_load1 (B := some ⟨b, 0, none⟩) (i := 0) (cs := [.int .i64 g.Kind, .int .i64 g.A, .int .i64 g.B]) (v := .int .i64 g.Kind) k_sc_3 rfl rfl (hS3.cf (i := 0) rfl) rfl) ?_
    refine sq 18 rfl rfl (Y_eq (k := .i64) (a := g.Kind) (b := 12) rfl rfl rfl) ?_
    refine sq 15 rfl rfl (Y_assign (v := .bool (g.Kind == 12)) rfl rfl) ?_
    refine rw_nil ?_
    refine cw_cond (b := (g.Kind == 12)) rfl (fun hb1 => ?_) (fun hb1 => ?_)
    · skip
      have hF3 := ct hF2 hb1
      refine cw_seq ?_
      refine cw_region ?_
      refine sq 19 rfl rfl (Y_fieldAddr (B := some ⟨b, 0, none⟩) (i := 0) (s := 0) k_fd_213_1_1_3 k_sz_3_1 rfl rfl) ?_
      refine sq 20 rfl rfl (Y_load1 (B := some ⟨b, 0, none⟩) (i := 1) (cs := [.int .i64 g.Kind, .int .i64 g.A, .int .i64 g.B]) (v := .int .i64 g.A) k_sc_3 rfl rfl (hS3.cf (i := 0) rfl) rfl) ?_
      refine sq 21 rfl rfl (Y_eq (k := .i64) (a := g.A) (b := 0) rfl rfl rfl) ?_
      refine sq 22 rfl rfl (Y_move (v := .bool (g.A == 0)) rfl rfl) ?_
      refine sgq 23 (B := (g.A == 0)) (v := pt (some ⟨b, 0, none⟩) 2) rfl rfl (wt_t (gd_of (t := 22) (by kernel_rfl) rfl)) (fun hg4 => (Y_fieldAddr (B := some ⟨b, 0, none⟩) (i := 0) (s := 0) k_fd_213_2_2_3 k_sz_3_1 rfl rfl)) ?_
      refine sgq 24 (B := (g.A == 0)) (v := .int .i64 g.B) rfl rfl (wt_t (gd_of (t := 22) (by kernel_rfl) rfl)) (fun hg5 => (Y_load1 (B := some ⟨b, 0, none⟩) (i := 2) (cs := [.int .i64 g.Kind, .int .i64 g.A, .int .i64 g.B]) (v := .int .i64 g.B) k_sc_3 rfl (gv_of (B := (g.A == 0)) (v := pt (some ⟨b, 0, none⟩) 2) hg5) (hS3.cf (i := 0) rfl) rfl)) ?_
      refine sgq 25 (B := (g.A == 0)) (v := .bool (g.B == 0)) rfl rfl (wt_t (gd_of (t := 22) (by kernel_rfl) rfl)) (fun hg6 => (Y_eq (k := .i64) (a := g.B) (b := 0) rfl (gv_of (B := (g.A == 0)) (v := .int .i64 g.B) hg6) rfl)) ?_
      refine sq 26 rfl rfl (Y_and (b := (g.A == 0)) (z := (g.B == 0)) rfl rfl rfl rfl) ?_
      refine sq 4 rfl rfl (Y_assign (v := .bool ((g.A == 0) && (g.B == 0))) rfl rfl) ?_
      refine rw_nil ?_
      refine cw_ret ?_
      obtain rfl := some_inj hF3
      exact ret1 Try.results315 (v1 := .bool ((g.A == 0) && (g.B == 0))) (resAt_tmp rfl) ⟨rfl, (ST.subR (R' := []) (hS3.sel [] rfl rfl) (fun _ h => by cases h))⟩
    · skip
      have hF4 := cf' hF2 hb1
      refine cw_seq ?_
      refine cw_region ?_
      refine sq 28 rfl rfl (Y_fieldAddr (B := some ⟨b, 0, none⟩) (i := 0) (s := 0) k_fd_213_0_0_3 k_sz_3_1 rfl rfl) ?_
      refine sq 29 rfl rfl (Y_load1 (B := some ⟨b, 0, none⟩) (i := 0) (cs := [.int .i64 g.Kind, .int .i64 g.A, .int .i64 g.B]) (v := .int .i64 g.Kind) k_sc_3 rfl rfl (hS3.cf (i := 0) rfl) rfl) ?_
      obtain ⟨r_3, hc2, hF4⟩ := bind_inv hF4
      refine sc 30 rfl rfl (Yc_func (g := 250) (vs := [.int .i64 g.Kind]) k_call_250 rfl (mc rfl mn) (c_impl_isTwo g.Kind _  (hS3.inn0 [] rfl) hc2)) ?_
      rintro _ w_3 ⟨rfl, hd1⟩
      have hS4 := hS3.out00 hd1
      refine sq 27 rfl rfl (Y_assign (v := .bool r_3) rfl rfl) ?_
      refine rw_nil ?_
      refine cw_cond (b := r_3) rfl (fun hb2 => ?_) (fun hb2 => ?_)
      · skip
        have hF5 := ct hF4 hb2
        refine cw_seq ?_
        refine cw_region ?_
        refine sq 31 rfl rfl (Y_fieldAddr (B := some ⟨b, 0, none⟩) (i := 0) (s := 0) k_fd_213_1_1_3 k_sz_3_1 rfl rfl) ?_
        refine sq 32 rfl rfl (Y_load1 (B := some ⟨b, 0, none⟩) (i := 1) (cs := [.int .i64 g.Kind, .int .i64 g.A, .int .i64 g.B]) (v := .int .i64 g.A) k_sc_3 rfl rfl (hS4.cf (i := 0) rfl) rfl) ?_
        refine sq 33 rfl rfl (Y_move (v := .int .i64 n) rfl rfl) ?_
        refine sq 34 rfl rfl (Y_sub (k := .i64) (a := n) (b := 1) rfl rfl rfl) ?_
        obtain ⟨r_4, hc3, hF5⟩ := bind_inv hF5
        refine sc 35 rfl rfl (Yc_func (g := 130) (vs := [.int .i64 g.A, .int .i64 0, .int .i64 (IntKind.i64.wrap (n - 1))]) k_call_130 rfl (mc rfl (mc rfl (mc rfl mn))) (c_impl_within g.A 0 (IntKind.i64.wrap (n - 1)) _  (hS4.inn0 [] rfl) hc3)) ?_
        rintro _ w_4 ⟨rfl, hd2⟩
        have hS5 := hS4.out00 hd2
        refine sq 36 rfl rfl (Y_move (v := .bool r_4) rfl rfl) ?_
        refine sgq 37 (B := r_4) (v := pt (some ⟨b, 0, none⟩) 2) rfl rfl (wt_t (gd_of (t := 36) (by kernel_rfl) rfl)) (fun hg7 => (Y_fieldAddr (B := some ⟨b, 0, none⟩) (i := 0) (s := 0) k_fd_213_2_2_3 k_sz_3_1 rfl rfl)) ?_
        refine sgq 38 (B := r_4) (v := .int .i64 g.B) rfl rfl (wt_t (gd_of (t := 36) (by kernel_rfl) rfl)) (fun hg8 => (Y_load1 (B := some ⟨b, 0, none⟩) (i := 2) (cs := [.int .i64 g.Kind, .int .i64 g.A, .int .i64 g.B]) (v := .int .i64 g.B) k_sc_3 rfl (gv_of (B := r_4) (v := pt (some ⟨b, 0, none⟩) 2) hg8) (hS5.cf (i := 0) rfl) rfl)) ?_
        refine sgq 39 (B := r_4) (v := .int .i64 n) rfl rfl (wt_t (gd_of (t := 36) (by kernel_rfl) rfl)) (fun hg9 => (Y_move (v := .int .i64 n) rfl rfl)) ?_
        refine sgq 40 (B := r_4) (v := .int .i64 (IntKind.i64.wrap (n - 1))) rfl rfl (wt_t (gd_of (t := 36) (by kernel_rfl) rfl)) (fun hg10 => (Y_sub (k := .i64) (a := n) (b := 1) rfl (gv_of (B := r_4) (v := .int .i64 n) hg10) rfl)) ?_
        obtain ⟨r_5, hc4, hF5⟩ := bind_inv hF5
        refine sgc 41 (B := r_4) (v := .bool r_5) (F := hS5.fn) rfl rfl (wt_t (gd_of (t := 36) (by kernel_rfl) rfl)) hS5 (fun hg11 => (Yc_func (g := 130) (vs := [.int .i64 g.B, .int .i64 0, .int .i64 (IntKind.i64.wrap (n - 1))]) k_call_130 rfl (mc (gv_of (B := r_4) (v := .int .i64 g.B) hg11) (mc rfl (mc (gv_of (B := r_4) (v := .int .i64 (IntKind.i64.wrap (n - 1))) hg11) mn))) (CV.mono (c_impl_within g.B 0 (IntKind.i64.wrap (n - 1)) _  (hS5.inn0 [] rfl) (gb_inv hc4 hg11)) (by rintro _ _ ⟨rfl, h⟩; exact ⟨rfl, hS5.out00 h⟩)))) ?_
        rintro w_5 hS6
        have hS6 : ST _ _ w_5 _ _ := hS6
        refine sq 42 rfl rfl (Y_and (b := r_4) (z := r_5) rfl rfl rfl rfl) ?_
        refine sq 43 rfl rfl (Y_move (v := .bool (r_4 && r_5)) rfl rfl) ?_
        refine sgq 44 (B := (r_4 && r_5)) (v := pt (some ⟨b, 0, none⟩) 1) rfl rfl (wt_t (gd_of (t := 43) (by kernel_rfl) rfl)) (fun hg12 => (Y_fieldAddr (B := some ⟨b, 0, none⟩) (i := 0) (s := 0) k_fd_213_1_1_3 k_sz_3_1 rfl rfl)) ?_
        refine sgq 45 (B := (r_4 && r_5)) (v := .int .i64 g.A) rfl rfl (wt_t (gd_of (t := 43) (by kernel_rfl) rfl)) (fun hg13 => (Y_load1 (B := some ⟨b, 0, none⟩) (i := 1) (cs := [.int .i64 g.Kind, .int .i64 g.A, .int .i64 g.B]) (v := .int .i64 g.A) k_sc_3 rfl (gv_of (B := (r_4 && r_5)) (v := pt (some ⟨b, 0, none⟩) 1) hg13) (hS6.cf (i := 0) rfl) rfl)) ?_
        refine sgq 46 (B := (r_4 && r_5)) (v := pt (some ⟨b, 0, none⟩) 2) rfl rfl (wt_t (gd_of (t := 43) (by kernel_rfl) rfl)) (fun hg14 => (Y_fieldAddr (B := some ⟨b, 0, none⟩) (i := 0) (s := 0) k_fd_213_2_2_3 k_sz_3_1 rfl rfl)) ?_
        refine sgq 47 (B := (r_4 && r_5)) (v := .int .i64 g.B) rfl rfl (wt_t (gd_of (t := 43) (by kernel_rfl) rfl)) (fun hg15 => (Y_load1 (B := some ⟨b, 0, none⟩) (i := 2) (cs := [.int .i64 g.Kind, .int .i64 g.A, .int .i64 g.B]) (v := .int .i64 g.B) k_sc_3 rfl (gv_of (B := (r_4 && r_5)) (v := pt (some ⟨b, 0, none⟩) 2) hg15) (hS6.cf (i := 0) rfl) rfl)) ?_
        refine sgq 48 (B := (r_4 && r_5)) (v := .bool (g.A != g.B)) rfl rfl (wt_t (gd_of (t := 43) (by kernel_rfl) rfl)) (fun hg16 => (Y_ne (k := .i64) (a := g.A) (b := g.B) rfl (gv_of (B := (r_4 && r_5)) (v := .int .i64 g.A) hg16) (gv_of (B := (r_4 && r_5)) (v := .int .i64 g.B) hg16))) ?_
        refine sq 49 rfl rfl (Y_and (b := (r_4 && r_5)) (z := (g.A != g.B)) rfl rfl rfl rfl) ?_
        refine sq 4 rfl rfl (Y_assign (v := .bool ((r_4 && r_5) && (g.A != g.B))) rfl rfl) ?_
        refine rw_nil ?_
        refine cw_ret ?_
        obtain rfl := some_inj hF5
        exact ret1 Try.results315 (v1 := .bool ((r_4 && r_5) && (g.A != g.B))) (resAt_tmp rfl) ⟨rfl, (ST.subR (R' := []) (hS6.sel [] rfl rfl) (fun _ h => by cases h))⟩
      · skip
        have hF6 := cf' hF4 hb2
        refine cw_skip ?_
        refine cw_seq ?_
        refine cw_region ?_
        refine sq 50 rfl rfl (Y_fieldAddr (B := some ⟨b, 0, none⟩) (i := 0) (s := 0) k_fd_213_1_1_3 k_sz_3_1 rfl rfl) ?_
        refine sq 51 rfl rfl (Y_load1 (B := some ⟨b, 0, none⟩) (i := 1) (cs := [.int .i64 g.Kind, .int .i64 g.A, .int .i64 g.B]) (v := .int .i64 g.A) k_sc_3 rfl rfl (hS4.cf (i := 0) rfl) rfl) ?_
        refine sq 52 rfl rfl (Y_move (v := .int .i64 n) rfl rfl) ?_
        refine sq 53 rfl rfl (Y_sub (k := .i64) (a := n) (b := 1) rfl rfl rfl) ?_
        obtain ⟨r_6, hc5, hF6⟩ := bind_inv hF6
        refine sc 54 rfl rfl (Yc_func (g := 130) (vs := [.int .i64 g.A, .int .i64 0, .int .i64 (IntKind.i64.wrap (n - 1))]) k_call_130 rfl (mc rfl (mc rfl (mc rfl mn))) (c_impl_within g.A 0 (IntKind.i64.wrap (n - 1)) _  (hS4.inn0 [] rfl) hc5)) ?_
        rintro _ w_6 ⟨rfl, hd3⟩
        have hS7 := hS4.out00 hd3
        refine sq 55 rfl rfl (Y_move (v := .bool r_6) rfl rfl) ?_
        refine sgq 56 (B := r_6) (v := pt (some ⟨b, 0, none⟩) 2) rfl rfl (wt_t (gd_of (t := 55) (by kernel_rfl) rfl)) (fun hg17 => (Y_fieldAddr (B := some ⟨b, 0, none⟩) (i := 0) (s := 0) k_fd_213_2_2_3 k_sz_3_1 rfl rfl)) ?_
        refine sgq 57 (B := r_6) (v := .int .i64 g.B) rfl rfl (wt_t (gd_of (t := 55) (by kernel_rfl) rfl)) (fun hg18 => (Y_load1 (B := some ⟨b, 0, none⟩) (i := 2) (cs := [.int .i64 g.Kind, .int .i64 g.A, .int .i64 g.B]) (v := .int .i64 g.B) k_sc_3 rfl (gv_of (B := r_6) (v := pt (some ⟨b, 0, none⟩) 2) hg18) (hS7.cf (i := 0) rfl) rfl)) ?_
        refine sgq 58 (B := r_6) (v := .bool (g.B == 0)) rfl rfl (wt_t (gd_of (t := 55) (by kernel_rfl) rfl)) (fun hg19 => (Y_eq (k := .i64) (a := g.B) (b := 0) rfl (gv_of (B := r_6) (v := .int .i64 g.B) hg19) rfl)) ?_
        refine sq 59 rfl rfl (Y_and (b := r_6) (z := (g.B == 0)) rfl rfl rfl rfl) ?_
        refine sq 4 rfl rfl (Y_assign (v := .bool (r_6 && (g.B == 0))) rfl rfl) ?_
        refine rw_nil ?_
        refine cw_ret ?_
        obtain rfl := some_inj hF6
        exact ret1 Try.results315 (v1 := .bool (r_6 && (g.B == 0))) (resAt_tmp rfl) ⟨rfl, (ST.subR (R' := []) (hS7.sel [] rfl rfl) (fun _ h => by cases h))⟩

theorem c_impl_IsValidCircuit_1 (g : TGate) (p : TCircuit) (B : Option Addr) (B1 : Option Addr) (c n : Nat) (w0 : World) (hn : p.Gates.length = n) (hS : ST w0 [] w0 [] [⟨B, [.int .i64 p.Qubits, .slice B1 n c]⟩, ⟨B1, (p.Gates.flatMap enc_Gate)⟩]) {r_ : Bool} (hF : F_impl_IsValidCircuit_1 g p = some r_) :
    CV Try.prog 314 #[.agg #[.int .i64 g.Kind, .int .i64 g.A, .int .i64 g.B], pt B 0] w0 (fun v w' => v = .bool r_ ∧ ST w0 [] w' [] []) := by
  subst hn
  unfold F_impl_IsValidCircuit_1 at hF
  refine cv_of_cw 9 Try.func314 rfl Try.ntmps314 rfl ?_
  refine cw_seq ?_
  refine cw_region ?_
  refine ss 2 rfl rfl (Ys_box (T := 213) (v := .agg #[.int .i64 g.Kind, .int .i64 g.A, .int .i64 g.B]) (cs := [.int .i64 g.Kind, .int .i64 g.A, .int .i64 g.B]) (m := 3) hS rfl rfl rfl rfl) ?_
  rintro _ w_ ⟨b, rfl, hS1⟩
  refine sq 3 rfl rfl (Y_assign (v := .bool false) rfl rfl) ?_
  refine rw_nil ?_
  refine cw_seq ?_
  refine cw_region ?_
  refine sq 4 rfl rfl (Y_fieldAddr (B := B) (i := 0) (s := 0) k_fd_104_0_0_3 k_sz_3_1 rfl rfl) ?_
  refine sq 5 rfl rfl (Y_load1 (B := B) (i := 0) (cs := [.int .i64 p.Qubits, .slice B1 p.Gates.length c]) (v := .int .i64 p.Qubits) k_sc_3 rfl rfl (hS1.rf (i := 0) rfl) rfl) ?_
  refine sq 6 rfl rfl (Y_loadA (B := some ⟨b, 0, none⟩) (i := 0) (cs := [.int .i64 g.Kind, .int .i64 g.A, .int .i64 g.B]) (vs := [.int .i64 g.Kind, .int .i64 g.A, .int .i64 g.B]) k_ag_213 k_sz_213_3 rfl rfl (hS1.cf (i := 0) rfl) rfl rfl) ?_
  obtain ⟨r_1, hc, hF⟩ := bind_inv hF
  refine sc 7 rfl rfl (Yc_func (g := 315) (vs := [.int .i64 p.Qubits, .agg #[.int .i64 g.Kind, .int .i64 g.A, .int .i64 g.B]]) k_call_315 rfl (mc rfl (mc rfl mn)) (c_impl_IsValidGate p.Qubits g _  (hS1.inn0 [] rfl) hc)) ?_
  rintro _ w_1 ⟨rfl, hd⟩
  have hS2 := hS1.out00 hd
  refine sq 8 rfl rfl (Y_not (p := r_1) rfl rfl) ?_
  refine sq 3 rfl rfl (Y_assign (v := .bool (!r_1)) rfl rfl) ?_
  refine rw_nil ?_
  refine cw_ret ?_
  obtain rfl := some_inj hF
  exact ret1 Try.results314 (v1 := .bool (!r_1)) (resAt_tmp rfl) ⟨rfl, (ST.subR (R' := []) (hS2.sel [] rfl rfl) (fun _ h => by cases h))⟩

theorem c_impl_IsValidCircuit (c : TCircuit) (B : Option Addr) (c1 n : Nat) (w0 : World) (hn : c.Gates.length = n) (hS : ST w0 [] w0 [] [⟨B, (c.Gates.flatMap enc_Gate)⟩]) {r_ : Bool} (hF : F_impl_IsValidCircuit c = some r_) :
    CV Try.prog 243 #[.agg #[.int .i64 c.Qubits, .slice B n c1]] w0 (fun v w' => v = .bool r_ ∧ ST w0 [] w' [] []) := by
  subst hn
  unfold F_impl_IsValidCircuit at hF
  refine cv_of_cw 19 Try.func243 rfl Try.ntmps243 rfl ?_
  refine cw_seq ?_
  refine cw_region ?_
  refine ss 1 rfl rfl (Ys_box (T := 104) (v := .agg #[.int .i64 c.Qubits, .slice B c.Gates.length c1]) (cs := [.int .i64 c.Qubits, .slice B c.Gates.length c1]) (m := 2) hS rfl rfl rfl rfl) ?_
  rintro _ w_ ⟨b, rfl, hS1⟩
  refine sq 2 rfl rfl (Y_assign (v := .bool false) rfl rfl) ?_
  refine rw_nil ?_
  refine cw_seq ?_
  refine cw_region ?_
  refine sq 3 rfl rfl (Y_fieldAddr (B := some ⟨b, 0, none⟩) (i := 0) (s := 0) k_fd_104_0_0_3 k_sz_3_1 rfl rfl) ?_
  refine sq 4 rfl rfl (Y_load1 (B := some ⟨b, 0, none⟩) (i := 0) (cs := [.int .i64 c.Qubits, .slice B c.Gates.length c1]) (v := .int .i64 c.Qubits) k_sc_3 rfl rfl (hS1.cf (i := 0) rfl) rfl) ?_
  obtain ⟨r_1, hc, hF⟩ := bind_inv hF
  refine sc 5 rfl rfl (Yc_func (g := 130) (vs := [.int .i64 c.Qubits, .int .i64 1, .int .i64 5]) k_call_130 rfl (mc rfl (mc rfl (mc rfl mn))) (c_impl_within c.Qubits 1 5 _  (hS1.inn0 [] rfl) hc)) ?_
  rintro _ w_1 ⟨rfl, hd⟩
  have hS2 := hS1.out00 hd
  refine sq 6 rfl rfl (Y_move (v := .bool r_1) rfl rfl) ?_
  refine sgq 7 (B := r_1) (v := pt (some ⟨b, 0, none⟩) 1) rfl rfl (wt_t (gd_of (t := 6) (by kernel_rfl) rfl)) (fun hg => (Y_fieldAddr (B := some ⟨b, 0, none⟩) (i := 0) (s := 0) k_fd_104_1_1_102 k_sz_102_1 rfl rfl)) ?_
  refine sgq 8 (B := r_1) (v := .slice B c.Gates.length c1) rfl rfl (wt_t (gd_of (t := 6) (by kernel_rfl) rfl)) (fun hg1 => (Y_load1 (B := some ⟨b, 0, none⟩) (i := 1) (cs := [.int .i64 c.Qubits, .slice B c.Gates.length c1]) (v := .slice B c.Gates.length c1) k_sc_102 rfl (gv_of (B := r_1) (v := pt (some ⟨b, 0, none⟩) 1) hg1) (hS2.cf (i := 0) rfl) rfl)) ?_
  refine sgq 9 (B := r_1) (v := .int .i64 (c.Gates.length : Int)) rfl rfl (wt_t (gd_of (t := 6) (by kernel_rfl) rfl)) (fun hg2 => (Y_len (B := B) (m := c.Gates.length) (c := c1) k_sl_102_213 rfl (gv_of (B := r_1) (v := .slice B c.Gates.length c1) hg2))) ?_
  refine sgq 10 (B := r_1) (v := .bool (decide ((c.Gates.length : Int) ≤ 400))) rfl rfl (wt_t (gd_of (t := 6) (by kernel_rfl) rfl)) (fun hg3 => (Y_le (k := .i64) (a := (c.Gates.length : Int)) (b := 400) rfl (gv_of (B := r_1) (v := .int .i64 (c.Gates.length : Int)) hg3) rfl)) ?_
  refine sq 11 rfl rfl (Y_and (b := r_1) (z := (decide ((c.Gates.length : Int) ≤ 400))) rfl rfl rfl rfl) ?_
  refine sq 12 rfl rfl (Y_move (v := .bool (r_1 && (decide ((c.Gates.length : Int) ≤ 400)))) rfl rfl) ?_
  refine sgq 13 (B := (r_1 && (decide ((c.Gates.length : Int) ≤ 400)))) (v := pt (some ⟨b, 0, none⟩) 1) rfl rfl (wt_t (gd_of (t := 12) (by kernel_rfl) rfl)) (fun hg4 => (Y_fieldAddr (B := some ⟨b, 0, none⟩) (i := 0) (s := 0) k_fd_104_1_1_102 k_sz_102_1 rfl rfl)) ?_
  refine sgq 14 (B := (r_1 && (decide ((c.Gates.length : Int) ≤ 400)))) (v := .slice B c.Gates.length c1) rfl rfl (wt_t (gd_of (t := 12) (by kernel_rfl) rfl)) (fun hg5 => (Y_load1 (B := some ⟨b, 0, none⟩) (i := 1) (cs := [.int .i64 c.Qubits, .slice B c.Gates.length c1]) (v := .slice B c.Gates.length c1) k_sc_102 rfl (gv_of (B := (r_1 && (decide ((c.Gates.length : Int) ≤ 400)))) (v := pt (some ⟨b, 0, none⟩) 1) hg5) (hS2.cf (i := 0) rfl) rfl)) ?_
  refine sgq 15 (B := (r_1 && (decide ((c.Gates.length : Int) ≤ 400)))) (v := .func (.func 314) #[] #[pt (some ⟨b, 0, none⟩) 0]) rfl rfl (wt_t (gd_of (t := 12) (by kernel_rfl) rfl)) (fun hg6 => (Y_makeFunc (cs := [pt (some ⟨b, 0, none⟩) 0]) rfl rfl (mc rfl mn))) ?_
  obtain ⟨r_2, hc1, hF⟩ := bind_inv hF
  refine sgc 16 (B := (r_1 && (decide ((c.Gates.length : Int) ≤ 400)))) (v := .bool r_2) (F := hS2.fn) rfl rfl (wt_t (gd_of (t := 12) (by kernel_rfl) rfl)) hS2 (fun hg7 => (Yc_func (g := 313) (vs := [.slice B c.Gates.length c1, .func (.func 314) #[] #[pt (some ⟨b, 0, none⟩) 0]]) k_call_313 rfl (mc (gv_of (B := (r_1 && (decide ((c.Gates.length : Int) ≤ 400)))) (v := .slice B c.Gates.length c1) hg7) (mc (gv_of (B := (r_1 && (decide ((c.Gates.length : Int) ≤ 400)))) (v := .func (.func 314) #[] #[pt (some ⟨b, 0, none⟩) 0]) hg7) mn)) (CV.mono (c_slices_ContainsFunc_impl_Gate_impl_Gate c.Gates (fun x_0 => F_impl_IsValidCircuit_1 x_0 c) B c1 c.Gates.length 314 (#[pt (some ⟨b, 0, none⟩) 0]) [⟨some ⟨b, 0, none⟩, [.int .i64 c.Qubits, .slice B c.Gates.length c1]⟩, ⟨B, (c.Gates.flatMap enc_Gate)⟩] _ rfl k_call_314 (fun w hw x_0 y_0 h_ => c_impl_IsValidCircuit_1 x_0 c (some ⟨b, 0, none⟩) B c1 c.Gates.length w rfl hw h_) (hS2.inn0 [(true, 0), (false, 0), (true, 0)] rfl) (gb_inv hc1 hg7)) (by rintro _ _ ⟨rfl, h⟩; exact ⟨rfl, hS2.out00 h⟩)))) ?_
  rintro w_2 hS3
  have hS3 : ST _ _ w_2 _ _ := hS3
  refine sgq 17 (B := (r_1 && (decide ((c.Gates.length : Int) ≤ 400)))) (v := .bool (!r_2)) rfl rfl (wt_t (gd_of (t := 12) (by kernel_rfl) rfl)) (fun hg8 => (Y_not (p := r_2) rfl (gv_of (B := (r_1 && (decide ((c.Gates.length : Int) ≤ 400)))) (v := .bool r_2) hg8))) ?_
  refine sq 18 rfl rfl (Y_and (b := (r_1 && (decide ((c.Gates.length : Int) ≤ 400)))) (z := (!r_2)) rfl rfl rfl rfl) ?_
  refine sq 2 rfl rfl (Y_assign (v := .bool ((r_1 && (decide ((c.Gates.length : Int) ≤ 400))) && (!r_2))) rfl rfl) ?_
  refine rw_nil ?_
  refine cw_ret ?_
  obtain rfl := some_inj hF
  exact ret1 Try.results243 (v1 := .bool ((r_1 && (decide ((c.Gates.length : Int) ≤ 400))) && (!r_2))) (resAt_tmp rfl) ⟨rfl, (ST.subR (R' := []) (hS3.sel [] rfl rfl) (fun _ h => by cases h))⟩

theorem c_impl_canRoute (g : TCouplingGraph) (c1 : TCircuit) (B : Option Addr) (c n : Nat) (B1 : Option Addr) (c2 n1 : Nat) (w0 : World) (hn : g.Edges.length = n) (hn1 : c1.Gates.length = n1) (hS : ST w0 [] w0 [] [⟨B, (g.Edges.flatMap enc_Edge)⟩, ⟨B1, (c1.Gates.flatMap enc_Gate)⟩]) {r_ : Bool} (hF : F_impl_canRoute g c1 = some r_) :
    CV Try.prog 154 #[.agg #[.int .i64 g.Nodes, .slice B n c], .agg #[.int .i64 c1.Qubits, .slice B1 n1 c2]] w0 (fun v w' => v = .bool r_ ∧ ST w0 [] w' [] []) := by
  subst hn
  subst hn1
  unfold F_impl_canRoute at hF
  refine cv_of_cw 18 Try.func154 rfl Try.ntmps154 rfl ?_
  refine cw_seq ?_
  refine cw_region ?_
  refine ss 2 rfl rfl (Ys_box (T := 100) (v := .agg #[.int .i64 g.Nodes, .slice B g.Edges.length c]) (cs := [.int .i64 g.Nodes, .slice B g.Edges.length c]) (m := 2) hS rfl rfl rfl rfl) ?_
  rintro _ w_ ⟨b, rfl, hS1⟩
  refine ss 3 rfl rfl (Ys_box (T := 104) (v := .agg #[.int .i64 c1.Qubits, .slice B1 c1.Gates.length c2]) (cs := [.int .i64 c1.Qubits, .slice B1 c1.Gates.length c2]) (m := 2) hS1 rfl rfl rfl rfl) ?_
  rintro _ w_1 ⟨b1, rfl, hS2⟩
  have hS2 : ST w0 [] _ [⟨some ⟨b, 0, none⟩, 100, [.int .i64 g.Nodes, .slice B g.Edges.length c], 2⟩, ⟨some ⟨b1, 0, none⟩, 104, [.int .i64 c1.Qubits, .slice B1 c1.Gates.length c2], 2⟩] [⟨B, (g.Edges.flatMap enc_Edge)⟩, ⟨B1, (c1.Gates.flatMap enc_Gate)⟩] := hS2
  refine sq 4 rfl rfl (Y_assign (v := .bool false) rfl rfl) ?_
  refine rw_nil ?_
  refine cw_seq ?_
  refine cw_region ?_
  refine sq 5 rfl rfl (Y_loadA (B := some ⟨b, 0, none⟩) (i := 0) (cs := [.int .i64 g.Nodes, .slice B g.Edges.length c]) (vs := [.int .i64 g.Nodes, .slice B g.Edges.length c]) k_ag_100 k_sz_100_2 rfl rfl (hS2.cf (i := 0) rfl) rfl rfl) ?_
  obtain ⟨r_1, hc, hF⟩ := bind_inv hF
  refine sc 6 rfl rfl (Yc_func (g := 242) (vs := [.agg #[.int .i64 g.Nodes, .slice B g.Edges.length c]]) k_call_242 rfl (mc rfl mn) (c_impl_IsValidCouplingGraph g B c g.Edges.length _ rfl (hS2.inn0 [(true, 0)] rfl) hc)) ?_
  rintro _ w_2 ⟨rfl, hd⟩
  have hS3 := hS2.out00 hd
  have hS3 : ST w0 [] _ [⟨some ⟨b, 0, none⟩, 100, [.int .i64 g.Nodes, .slice B g.Edges.length c], 2⟩, ⟨some ⟨b1, 0, none⟩, 104, [.int .i64 c1.Qubits, .slice B1 c1.Gates.length c2], 2⟩] [⟨B, (g.Edges.flatMap enc_Edge)⟩, ⟨B1, (c1.Gates.flatMap enc_Gate)⟩] := hS3
  refine sq 7 rfl rfl (Y_move (v := .bool r_1) rfl rfl) ?_
  refine sgq 8 (B := r_1) (v := .agg #[.int .i64 c1.Qubits, .slice B1 c1.Gates.length c2]) rfl rfl (wt_t (gd_of (t := 7) (by kernel_rfl) rfl)) (fun hg => (Y_loadA (B := some ⟨b1, 0, none⟩) (i := 0) (cs := [.int .i64 c1.Qubits, .slice B1 c1.Gates.length c2]) (vs := [.int .i64 c1.Qubits, .slice B1 c1.Gates.length c2]) k_ag_104 k_sz_104_2 rfl rfl (hS3.cf (i := 1) rfl) rfl rfl)) ?_
  obtain ⟨r_2, hc1, hF⟩ := bind_inv hF
  refine sgc 9 (B := r_1) (v := .bool r_2) (F := hS3.fn) rfl rfl (wt_t (gd_of (t := 7) (by kernel_rfl) rfl)) hS3 (fun hg1 => (Yc_func (g := 243) (vs := [.agg #[.int .i64 c1.Qubits, .slice B1 c1.Gates.length c2]]) k_call_243 rfl (mc (gv_of (B := r_1) (v := .agg #[.int .i64 c1.Qubits, .slice B1 c1.Gates.length c2]) hg1) mn) (CV.mono (c_impl_IsValidCircuit c1 B1 c2 c1.Gates.length _ rfl (hS3.inn0 [(true, 1)] rfl) (gb_inv hc1 hg1)) (by rintro _ _ ⟨rfl, h⟩; exact ⟨rfl, hS3.out00 h⟩)))) ?_
  rintro w_3 hS4
  have hS4 : ST _ _ w_3 _ _ := hS4
  refine sq 10 rfl rfl (Y_and (b := r_1) (z := r_2) rfl rfl rfl rfl) ?_
  refine sq 11 rfl rfl (Y_move (v := .bool (r_1 && r_2)) rfl rfl) ?_
  refine sgq 12 (B := (r_1 && r_2)) (v := pt (some ⟨b1, 0, none⟩) 0) rfl rfl (wt_t (gd_of (t := 11) (by kernel_rfl) rfl)) (fun hg2 => (Y_fieldAddr (B := some ⟨b1, 0, none⟩) (i := 0) (s := 0) k_fd_104_0_0_3 k_sz_3_1 rfl rfl)) ?_
  refine sgq 13 (B := (r_1 && r_2)) (v := .int .i64 c1.Qubits) rfl rfl (wt_t (gd_of (t := 11) (by kernel_rfl) rfl)) (fun hg3 => (Y_load1 (B := some ⟨b1, 0, none⟩) (i := 0) (cs := [.int .i64 c1.Qubits, .slice B1 c1.Gates.length c2]) (v := .int .i64 c1.Qubits) k_sc_3 rfl (gv_of (B := (r_1 && r_2)) (v := pt (some ⟨b1, 0, none⟩) 0) hg3) (hS4.cf (i := 1) rfl) rfl)) ?_
  refine sgq 14 (B := (r_1 && r_2)) (v := pt (some ⟨b, 0, none⟩) 0) rfl rfl (wt_t (gd_of (t := 11) (by kernel_rfl) rfl)) (fun hg4 => (Y_fieldAddr (B := some ⟨b, 0, none⟩) (i := 0) (s := 0) k_fd_100_0_0_3 k_sz_3_1 rfl rfl)) ?_
  refine sgq 15 (B := (r_1 && r_2)) (v := .int .i64 g.Nodes) rfl rfl (wt_t (gd_of (t := 11) (by kernel_rfl) rfl)) (fun hg5 => (Y_load1 (B := some ⟨b, 0, none⟩) (i := 0) (cs := [.int .i64 g.Nodes, .slice B g.Edges.length c]) (v := .int .i64 g.Nodes) k_sc_3 rfl (gv_of (B := (r_1 && r_2)) (v := pt (some ⟨b, 0, none⟩) 0) hg5) (hS4.cf (i := 0) rfl) rfl)) ?_
  refine sgq 16 (B := (r_1 && r_2)) (v := .bool (decide (c1.Qubits ≤ g.Nodes))) rfl rfl (wt_t (gd_of (t := 11) (by kernel_rfl) rfl)) (fun hg6 => (Y_le (k := .i64) (a := c1.Qubits) (b := g.Nodes) rfl (gv_of (B := (r_1 && r_2)) (v := .int .i64 c1.Qubits) hg6) (gv_of (B := (r_1 && r_2)) (v := .int .i64 g.Nodes) hg6))) ?_
  refine sq 17 rfl rfl (Y_and (b := (r_1 && r_2)) (z := (decide (c1.Qubits ≤ g.Nodes))) rfl rfl rfl rfl) ?_
  refine sq 4 rfl rfl (Y_assign (v := .bool ((r_1 && r_2) && (decide (c1.Qubits ≤ g.Nodes)))) rfl rfl) ?_
  refine rw_nil ?_
  refine cw_ret ?_
  obtain rfl := some_inj hF
  exact ret1 Try.results154 (v1 := .bool ((r_1 && r_2) && (decide (c1.Qubits ≤ g.Nodes)))) (resAt_tmp rfl) ⟨rfl, (ST.subR (R' := []) (hS4.sel [] rfl rfl) (fun _ h => by cases h))⟩

theorem c_slices_Clone_int_int (s : List Int) (B : Option Addr) (c n : Nat) (w0 : World) (hn : s.length = n) (hS : ST w0 [] w0 [] [⟨B, (s.flatMap encI)⟩]) {r_ : List Int} (hF : F_slices_Clone_int_int s = some r_) :
    CV Try.prog 249 #[.slice B n c] w0 (fun v w' => ∃ (B1 : Option Addr) (c1 : Nat), v = .slice B1 r_.length c1 ∧ ST w0 [] w' [⟨B1, 3, (r_.flatMap encI), c1 * 1⟩] []) := by
  subst hn
  unfold F_slices_Clone_int_int at hF
  refine cv_of_cw 8 Try.func249 rfl Try.ntmps249 rfl ?_
  refine cw_seq ?_
  refine cw_region ?_
  refine sq 2 rfl rfl (Y_assign (v := .slice none 0 0) rfl rfl) ?_
  refine rw_nil ?_
  refine cw_seq ?_
  refine cw_seq ?_
  refine cw_region ?_
  refine sq 3 rfl rfl (Y_move (v := .slice B s.length c) rfl rfl) ?_
  refine sq 4 rfl rfl (Y_nileql (B := B) (m := s.length) (c := c) k_sl_59_3 rfl rfl rfl) ?_
  refine rw_nil ?_
  refine cw_cond (b := B.isNone) rfl (fun hb => ?_) (fun hb => ?_)
  · skip
    have hl : s = [] := nil_cont encI_len (hS.rf (i := 0) rfl) rfl hb
    rw [hl] at hF
    have hF1 : (some ([])) = some r_ := by simpa [chk] using hF
    subst hl
    refine cw_seq ?_
    refine cw_region ?_
    refine sq 2 rfl rfl (Y_assign (v := .slice none 0 0) rfl rfl) ?_
    refine rw_nil ?_
    refine cw_ret ?_
    have hS1 := hS.addNil 3
    obtain rfl := some_inj hF1
    exact ret1 Try.results249 (v1 := .slice none 0 0) (resAt_tmp rfl) ⟨none, 0, rfl, (ST.subR (R' := []) (hS1.sel [0] rfl rfl) (fun _ h => by cases h))⟩
  · skip
    refine cw_skip ?_
    refine cw_seq ?_
    refine cw_region ?_
    refine ss 5 rfl rfl (Ys_bslice0 (s := 1) (e := 3) hS k_sl_59_3 k_sz_3_1 rfl) ?_
    rintro _ w_ ⟨b, rfl, hS2⟩
    refine sq 6 rfl rfl (Y_move (v := .slice B s.length c) rfl rfl) ?_
    obtain ⟨hap, hF⟩ := chk_inv hF
    refine ss 7 rfl rfl (Ys_append (s := 1) (by' := 8) (i := 0) (nn := 0) (c := 0) (k := s.length) (len := s.length) (B := some ⟨b, 0, none⟩) (xs := (s.flatMap encI)) (cs' := (s.flatMap encI)) hS2 k_sl_59_3 k_sz_3_1 k_by_3_8 k_zero_3 rfl (by decide) rfl rfl rfl rfl (fm_lenn (l := []) encI_len rfl) rfl (hS2.rf (i := 0) rfl) (fm_lenn (l := s) encI_len rfl) (fm_one' (enc := encI) encI_one s) (by have := hap; omega) (by have := hap; simp only [maxLen]; omega) rfl (app_len0 (l := s) rfl)) ?_
    rintro _ w_1 ⟨B2, c2, rfl, hS3⟩
    refine sq 2 rfl rfl (Y_assign (v := .slice B2 s.length c2) rfl rfl) ?_
    refine rw_nil ?_
    refine cw_ret ?_
    obtain rfl := some_inj hF
    exact ret1 Try.results249 (v1 := .slice B2 s.length c2) (resAt_tmp rfl) ⟨B2, c2, rfl, (ST.subR (R' := []) (hS3.sel [0] rfl rfl) (fun _ h => by cases h))⟩

theorem c_impl_newRouting (g : TCouplingGraph) (c1 : TCircuit) (start : List Int) (B : Option Addr) (c n : Nat) (B1 : Option Addr) (c2 n1 : Nat) (B2 : Option Addr) (c3 n2 : Nat) (w0 : World) (hn : g.Edges.length = n) (hq : n ≤ c) (hn1 : c1.Gates.length = n1) (hq1 : n1 ≤ c2) (hn2 : start.length = n2) (hS : ST w0 [] w0 [] [⟨B, (g.Edges.flatMap enc_Edge)⟩, ⟨B1, (c1.Gates.flatMap enc_Gate)⟩, ⟨B2, (start.flatMap encI)⟩]) {r_ : Trouting} (hF : F_impl_newRouting g c1 start = some r_) :
    CV Try.prog 164 #[.agg #[.int .i64 g.Nodes, .slice B n c], .agg #[.int .i64 c1.Qubits, .slice B1 n1 c2], .slice B2 n2 c3] w0 (fun v w' => ∃ (B3 : Option Addr) (c4 : Nat) (B4 : Option Addr) (c5 : Nat) (B5 : Option Addr) (c6 : Nat) (B6 : Option Addr) (c7 : Nat), v = .agg #[.int .i64 r_.g.Nodes, .slice B3 r_.g.Edges.length c4, .int .i64 r_.c.Qubits, .slice B4 r_.c.Gates.length c5, .slice B5 r_.place.length c6, .slice B6 r_.done.length c7] ∧ r_.g.Edges.length ≤ c4 ∧ r_.c.Gates.length ≤ c5 ∧ Org w0 [] [⟨B, (g.Edges.flatMap enc_Edge)⟩, ⟨B1, (c1.Gates.flatMap enc_Gate)⟩, ⟨B2, (start.flatMap encI)⟩] [⟨B3, (r_.g.Edges.flatMap enc_Edge)⟩, ⟨B4, (r_.c.Gates.flatMap enc_Gate)⟩] ∧ ST w0 [] w' [⟨B5, 3, (r_.place.flatMap encI), c6 * 1⟩, ⟨B6, 4, (r_.done.flatMap encB), c7 * 1⟩] [⟨B3, (r_.g.Edges.flatMap enc_Edge)⟩, ⟨B4, (r_.c.Gates.flatMap enc_Gate)⟩]) := by
  subst hn
  subst hn1
  subst hn2
  unfold F_impl_newRouting at hF
  refine cv_of_cw 16 Try.func164 rfl Try.ntmps164 rfl ?_
  refine cw_seq ?_
  refine cw_region ?_
  refine ss 3 rfl rfl (Ys_box (T := 100) (v := .agg #[.int .i64 g.Nodes, .slice B g.Edges.length c]) (cs := [.int .i64 g.Nodes, .slice B g.Edges.length c]) (m := 2) hS rfl rfl rfl rfl) ?_
  rintro _ w_ ⟨b, rfl, hS1⟩
  refine ss 4 rfl rfl (Ys_box (T := 104) (v := .agg #[.int .i64 c1.Qubits, .slice B1 c1.Gates.length c2]) (cs := [.int .i64 c1.Qubits, .slice B1 c1.Gates.length c2]) (m := 2) hS1 rfl rfl rfl rfl) ?_
  rintro _ w_1 ⟨b1, rfl, hS2⟩
  have hS2 : ST w0 [] _ [⟨some ⟨b, 0, none⟩, 100, [.int .i64 g.Nodes, .slice B g.Edges.length c], 2⟩, ⟨some ⟨b1, 0, none⟩, 104, [.int .i64 c1.Qubits, .slice B1 c1.Gates.length c2], 2⟩] [⟨B, (g.Edges.flatMap enc_Edge)⟩, ⟨B1, (c1.Gates.flatMap enc_Gate)⟩, ⟨B2, (start.flatMap encI)⟩] := hS2
  refine ss 6 rfl rfl (Ys_alloc (T := 201) (cs := [.int .i64 0, .slice none 0 0, .int .i64 0, .slice none 0 0, .slice none 0 0, .slice none 0 0]) (m := 6) hS2 k_zero_201 rfl rfl rfl) ?_
  rintro _ w_2 ⟨b2, rfl, hS3⟩
  have hS3 : ST w0 [] _ [⟨some ⟨b, 0, none⟩, 100, [.int .i64 g.Nodes, .slice B g.Edges.length c], 2⟩, ⟨some ⟨b1, 0, none⟩, 104, [.int .i64 c1.Qubits, .slice B1 c1.Gates.length c2], 2⟩, ⟨some ⟨b2, 0, none⟩, 201, [.int .i64 0, .slice none 0 0, .int .i64 0, .slice none 0 0, .slice none 0 0, .slice none 0 0], 6⟩] [⟨B, (g.Edges.flatMap enc_Edge)⟩, ⟨B1, (c1.Gates.flatMap enc_Gate)⟩, ⟨B2, (start.flatMap encI)⟩] := hS3
  refine rw_nil ?_
  refine cw_seq ?_
  obtain ⟨r_1, hc, hF⟩ := bind_inv hF
  obtain ⟨hmk, hF⟩ := chk_inv hF
  refine cw_mid (fun f w => ∃ (B8 : Option Addr) (c9 : Nat) (B9 : Option Addr), FF f [(6, pt (some ⟨b2, 0, none⟩) 0)] ∧ ST w0 [] w [⟨some ⟨b2, 0, none⟩, 201, [.int .i64 g.Nodes, .slice B g.Edges.length c, .int .i64 c1.Qubits, .slice B1 c1.Gates.length c2, .slice B8 r_1.length c9, .slice B9 c1.Gates.length c1.Gates.length], 6⟩, ⟨B8, 3, (r_1.flatMap encI), c9 * 1⟩, ⟨B9, 4, ((List.replicate c1.Gates.length false).flatMap encB), c1.Gates.length * 1⟩] [⟨B, (g.Edges.flatMap enc_Edge)⟩, ⟨B1, (c1.Gates.flatMap enc_Gate)⟩, ⟨B2, (start.flatMap encI)⟩]) ?_ ?_
  · skip
    refine ra_start (ST.sel hS3 [0, 1] rfl rfl).fn (by kernel_rfl) ?_
    have hS6 := hS3.drew
    refine ra_q 0 7 (v := .agg #[.int .i64 g.Nodes, .slice B g.Edges.length c]) rfl rfl rfl (by kernel_rfl) (by kernel_rfl) (by kernel_rfl) (ST.sel hS6 [0, 1] rfl rfl) (fun w' hw' => (Y_loadA (B := some ⟨b, 0, none⟩) (i := 0) (cs := [.int .i64 g.Nodes, .slice B g.Edges.length c]) (vs := [.int .i64 g.Nodes, .slice B g.Edges.length c]) k_ag_100 k_sz_100_2 rfl rfl (ST.cf hw' (i := 0) rfl) rfl rfl)) ?_
    refine ra_q 1 8 (v := .agg #[.int .i64 c1.Qubits, .slice B1 c1.Gates.length c2]) rfl rfl rfl (by kernel_rfl) (by kernel_rfl) (by kernel_rfl) (ST.sel hS6 [0, 1] rfl rfl) (fun w' hw' => (Y_loadA (B := some ⟨b1, 0, none⟩) (i := 0) (cs := [.int .i64 c1.Qubits, .slice B1 c1.Gates.length c2]) (vs := [.int .i64 c1.Qubits, .slice B1 c1.Gates.length c2]) k_ag_104 k_sz_104_2 rfl rfl (ST.cf hw' (i := 1) rfl) rfl rfl)) ?_
    refine ra_q 2 9 (v := .slice B2 start.length c3) rfl rfl rfl (by kernel_rfl) (by kernel_rfl) (by kernel_rfl) (ST.sel hS6 [0, 1] rfl rfl) (fun w' hw' => (Y_move (v := .slice B2 start.length c3) rfl rfl)) ?_
    refine ra_q 4 11 (v := pt (some ⟨b1, 0, none⟩) 1) rfl rfl rfl (by kernel_rfl) (by kernel_rfl) (by kernel_rfl) (ST.sel hS6 [0, 1] rfl rfl) (fun w' hw' => (Y_fieldAddr (B := some ⟨b1, 0, none⟩) (i := 0) (s := 0) k_fd_104_1_1_102 k_sz_102_1 rfl rfl)) ?_
    refine ra_q 5 12 (v := .slice B1 c1.Gates.length c2) rfl rfl rfl (by kernel_rfl) (by kernel_rfl) (by kernel_rfl) (ST.sel hS6 [0, 1] rfl rfl) (fun w' hw' => (Y_load1 (B := some ⟨b1, 0, none⟩) (i := 1) (cs := [.int .i64 c1.Qubits, .slice B1 c1.Gates.length c2]) (v := .slice B1 c1.Gates.length c2) k_sc_102 rfl rfl (ST.cf hw' (i := 1) rfl) rfl)) ?_
    refine ra_q 6 13 (v := .int .i64 (c1.Gates.length : Int)) rfl rfl rfl (by kernel_rfl) (by kernel_rfl) (by kernel_rfl) (ST.sel hS6 [0, 1] rfl rfl) (fun w' hw' => (Y_len (B := B1) (m := c1.Gates.length) (c := c2) k_sl_102_213 rfl rfl)) ?_
    refine ra_all (rs := [3, 7]) (by kernel_rfl) rfl ?_
    refine ra_c 10 (i := 3) rfl rfl rfl (Yc_func (g := 249) (vs := [.slice B2 start.length c3]) k_call_249 rfl (mc rfl mn) (c_slices_Clone_int_int start B2 c3 start.length _ rfl (hS6.inn0 [(true, 2)] rfl) hc)) ?_ ?_
    · rintro _ w_3 ⟨B7, c8, rfl, hd⟩
      have hS7 := hS6.out0 hd
      have hS7 : ST w0 [] _ [⟨some ⟨b, 0, none⟩, 100, [.int .i64 g.Nodes, .slice B g.Edges.length c], 2⟩, ⟨some ⟨b1, 0, none⟩, 104, [.int .i64 c1.Qubits, .slice B1 c1.Gates.length c2], 2⟩, ⟨some ⟨b2, 0, none⟩, 201, [.int .i64 0, .slice none 0 0, .int .i64 0, .slice none 0 0, .slice none 0 0, .slice none 0 0], 6⟩, ⟨B7, 3, (r_1.flatMap encI), c8 * 1⟩] [⟨B, (g.Edges.flatMap enc_Edge)⟩, ⟨B1, (c1.Gates.flatMap enc_Gate)⟩, ⟨B2, (start.flatMap encI)⟩] := hS7
      refine ⟨(ST.sel hS7 [0, 1] rfl rfl), ?_⟩
      refine ra_all (rs := [7]) (by kernel_rfl) rfl ?_
      refine ra_s 14 (i := 7) rfl rfl rfl (Ys_make (s := 1) (by' := 1) (nn := c1.Gates.length) (a := (c1.Gates.length : Int)) (b := (c1.Gates.length : Int)) (cs := ((List.replicate c1.Gates.length false).flatMap encB)) hS7 k_sl_199_4 k_sz_4_1 k_by_4_1 k_zero_4 rfl rfl rfl rfl hmk.1 rfl (by have := hmk; omega) (by have := hmk; omega) (by omega) (fm_rep (enc := encB) (d := false) rfl _)) ?_ ?_
      · rintro _ w_4 ⟨b3, rfl, hS8⟩
        have hS8 : ST w0 [] _ [⟨some ⟨b, 0, none⟩, 100, [.int .i64 g.Nodes, .slice B g.Edges.length c], 2⟩, ⟨some ⟨b1, 0, none⟩, 104, [.int .i64 c1.Qubits, .slice B1 c1.Gates.length c2], 2⟩, ⟨some ⟨b2, 0, none⟩, 201, [.int .i64 0, .slice none 0 0, .int .i64 0, .slice none 0 0, .slice none 0 0, .slice none 0 0], 6⟩, ⟨B7, 3, (r_1.flatMap encI), c8 * 1⟩, ⟨some ⟨b3, 0, none⟩, 4, ((List.replicate c1.Gates.length false).flatMap encB), c1.Gates.length * 1⟩] [⟨B, (g.Edges.flatMap enc_Edge)⟩, ⟨B1, (c1.Gates.flatMap enc_Gate)⟩, ⟨B2, (start.flatMap encI)⟩] := hS8
        refine ⟨(ST.sel hS8 [0, 1] rfl rfl), ?_⟩
        refine ra_q 8 15 (v := .agg #[.int .i64 g.Nodes, .slice B g.Edges.length c, .int .i64 c1.Qubits, .slice B1 c1.Gates.length c2, .slice B7 r_1.length c8, .slice (some ⟨b3, 0, none⟩) c1.Gates.length c1.Gates.length]) rfl rfl rfl (by kernel_rfl) (by kernel_rfl) (by kernel_rfl) (ST.sel hS8 [0, 1] rfl rfl) (fun w' hw' => (Y_buildS (zs := [.int .i64 0, .slice none 0 0, .int .i64 0, .slice none 0 0, .slice none 0 0, .slice none 0 0]) (vs := [(0, .agg #[.int .i64 g.Nodes, .slice B g.Edges.length c]), (1, .agg #[.int .i64 c1.Qubits, .slice B1 c1.Gates.length c2]), (2, .slice B7 r_1.length c8), (3, .slice (some ⟨b3, 0, none⟩) c1.Gates.length c1.Gates.length)]) (cs := [.int .i64 g.Nodes, .slice B g.Edges.length c, .int .i64 c1.Qubits, .slice B1 c1.Gates.length c2, .slice B7 r_1.length c8, .slice (some ⟨b3, 0, none⟩) c1.Gates.length c1.Gates.length]) k_pl_201 k_zero_201 rfl (mpc rfl (mpc rfl (mpc rfl (mpc rfl mpn)))) rfl)) ?_
        refine ra_all (rs := [9]) (by kernel_rfl) rfl ?_
        refine ra_s0 (i := 9) rfl rfl rfl (Ys_store (i := 2) (s := 6) (B := some ⟨b2, 0, none⟩) (T' := 201) (v := .agg #[.int .i64 g.Nodes, .slice B g.Edges.length c, .int .i64 c1.Qubits, .slice B1 c1.Gates.length c2, .slice B7 r_1.length c8, .slice (some ⟨b3, 0, none⟩) c1.Gates.length c1.Gates.length]) (vs := [.int .i64 g.Nodes, .slice B g.Edges.length c, .int .i64 c1.Qubits, .slice B1 c1.Gates.length c2, .slice B7 r_1.length c8, .slice (some ⟨b3, 0, none⟩) c1.Gates.length c1.Gates.length]) (k := 0) (cs' := [.int .i64 g.Nodes, .slice B g.Edges.length c, .int .i64 c1.Qubits, .slice B1 c1.Gates.length c2, .slice B7 r_1.length c8, .slice (some ⟨b3, 0, none⟩) c1.Gates.length c1.Gates.length]) hS8 k_sz_201_6 rfl rfl rfl rfl rfl rfl rfl (Nat.le_of_ble_eq_true rfl) rfl rfl) ?_ ?_
        · rintro _ w_5 ⟨rfl, hS9⟩
          have hS9 : ST w0 [] _ [⟨some ⟨b, 0, none⟩, 100, [.int .i64 g.Nodes, .slice B g.Edges.length c], 2⟩, ⟨some ⟨b1, 0, none⟩, 104, [.int .i64 c1.Qubits, .slice B1 c1.Gates.length c2], 2⟩, ⟨some ⟨b2, 0, none⟩, 201, [.int .i64 g.Nodes, .slice B g.Edges.length c, .int .i64 c1.Qubits, .slice B1 c1.Gates.length c2, .slice B7 r_1.length c8, .slice (some ⟨b3, 0, none⟩) c1.Gates.length c1.Gates.length], 6⟩, ⟨B7, 3, (r_1.flatMap encI), c8 * 1⟩, ⟨some ⟨b3, 0, none⟩, 4, ((List.replicate c1.Gates.length false).flatMap encB), c1.Gates.length * 1⟩] [⟨B, (g.Edges.flatMap enc_Edge)⟩, ⟨B1, (c1.Gates.flatMap enc_Gate)⟩, ⟨B2, (start.flatMap encI)⟩] := hS9
          refine ⟨(ST.sel hS9 [0, 1] rfl rfl), ?_⟩
          refine ra_done (by kernel_rfl) ?_
          exact ⟨B7, c8, some ⟨b3, 0, none⟩, (FF.cons rfl FF.nil), (hS9.sel [2, 3, 4] rfl rfl)⟩
        exact allR_nil
      exact allR_nil
    refine ra_s 14 (i := 7) rfl rfl rfl (Ys_make (s := 1) (by' := 1) (nn := c1.Gates.length) (a := (c1.Gates.length : Int)) (b := (c1.Gates.length : Int)) (cs := ((List.replicate c1.Gates.length false).flatMap encB)) hS6 k_sl_199_4 k_sz_4_1 k_by_4_1 k_zero_4 rfl rfl rfl rfl hmk.1 rfl (by have := hmk; omega) (by have := hmk; omega) (by omega) (fm_rep (enc := encB) (d := false) rfl _)) ?_ ?_
    · rintro _ w_6 ⟨b3, rfl, hS10⟩
      have hS10 : ST w0 [] _ [⟨some ⟨b, 0, none⟩, 100, [.int .i64 g.Nodes, .slice B g.Edges.length c], 2⟩, ⟨some ⟨b1, 0, none⟩, 104, [.int .i64 c1.Qubits, .slice B1 c1.Gates.length c2], 2⟩, ⟨some ⟨b2, 0, none⟩, 201, [.int .i64 0, .slice none 0 0, .int .i64 0, .slice none 0 0, .slice none 0 0, .slice none 0 0], 6⟩, ⟨some ⟨b3, 0, none⟩, 4, ((List.replicate c1.Gates.length false).flatMap encB), c1.Gates.length * 1⟩] [⟨B, (g.Edges.flatMap enc_Edge)⟩, ⟨B1, (c1.Gates.flatMap enc_Gate)⟩, ⟨B2, (start.flatMap encI)⟩] := hS10
      refine ⟨(ST.sel hS10 [0, 1] rfl rfl), ?_⟩
      refine ra_all (rs := [3]) (by kernel_rfl) rfl ?_
      refine ra_c 10 (i := 3) rfl rfl rfl (Yc_func (g := 249) (vs := [.slice B2 start.length c3]) k_call_249 rfl (mc rfl mn) (c_slices_Clone_int_int start B2 c3 start.length _ rfl (hS10.inn0 [(true, 2)] rfl) hc)) ?_ ?_
      · rintro _ w_7 ⟨B7, c8, rfl, hd1⟩
        have hS11 := hS10.out0 hd1
        have hS11 : ST w0 [] _ [⟨some ⟨b, 0, none⟩, 100, [.int .i64 g.Nodes, .slice B g.Edges.length c], 2⟩, ⟨some ⟨b1, 0, none⟩, 104, [.int .i64 c1.Qubits, .slice B1 c1.Gates.length c2], 2⟩, ⟨some ⟨b2, 0, none⟩, 201, [.int .i64 0, .slice none 0 0, .int .i64 0, .slice none 0 0, .slice none 0 0, .slice none 0 0], 6⟩, ⟨some ⟨b3, 0, none⟩, 4, ((List.replicate c1.Gates.length false).flatMap encB), c1.Gates.length * 1⟩, ⟨B7, 3, (r_1.flatMap encI), c8 * 1⟩] [⟨B, (g.Edges.flatMap enc_Edge)⟩, ⟨B1, (c1.Gates.flatMap enc_Gate)⟩, ⟨B2, (start.flatMap encI)⟩] := hS11
        refine ⟨(ST.sel hS11 [0, 1] rfl rfl), ?_⟩
        refine ra_q 8 15 (v := .agg #[.int .i64 g.Nodes, .slice B g.Edges.length c, .int .i64 c1.Qubits, .slice B1 c1.Gates.length c2, .slice B7 r_1.length c8, .slice (some ⟨b3, 0, none⟩) c1.Gates.length c1.Gates.length]) rfl rfl rfl (by kernel_rfl) (by kernel_rfl) (by kernel_rfl) (ST.sel hS11 [0, 1] rfl rfl) (fun w' hw' => (Y_buildS (zs := [.int .i64 0, .slice none 0 0, .int .i64 0, .slice none 0 0, .slice none 0 0, .slice none 0 0]) (vs := [(0, .agg #[.int .i64 g.Nodes, .slice B g.Edges.length c]), (1, .agg #[.int .i64 c1.Qubits, .slice B1 c1.Gates.length c2]), (2, .slice B7 r_1.length c8), (3, .slice (some ⟨b3, 0, none⟩) c1.Gates.length c1.Gates.length)]) (cs := [.int .i64 g.Nodes, .slice B g.Edges.length c, .int .i64 c1.Qubits, .slice B1 c1.Gates.length c2, .slice B7 r_1.length c8, .slice (some ⟨b3, 0, none⟩) c1.Gates.length c1.Gates.length]) k_pl_201 k_zero_201 rfl (mpc rfl (mpc rfl (mpc rfl (mpc rfl mpn)))) rfl)) ?_
        refine ra_all (rs := [9]) (by kernel_rfl) rfl ?_
        refine ra_s0 (i := 9) rfl rfl rfl (Ys_store (i := 2) (s := 6) (B := some ⟨b2, 0, none⟩) (T' := 201) (v := .agg #[.int .i64 g.Nodes, .slice B g.Edges.length c, .int .i64 c1.Qubits, .slice B1 c1.Gates.length c2, .slice B7 r_1.length c8, .slice (some ⟨b3, 0, none⟩) c1.Gates.length c1.Gates.length]) (vs := [.int .i64 g.Nodes, .slice B g.Edges.length c, .int .i64 c1.Qubits, .slice B1 c1.Gates.length c2, .slice B7 r_1.length c8, .slice (some ⟨b3, 0, none⟩) c1.Gates.length c1.Gates.length]) (k := 0) (cs' := [.int .i64 g.Nodes, .slice B g.Edges.length c, .int .i64 c1.Qubits, .slice B1 c1.Gates.length c2, .slice B7 r_1.length c8, .slice (some ⟨b3, 0, none⟩) c1.Gates.length c1.Gates.length]) hS11 k_sz_201_6 rfl rfl rfl rfl rfl rfl rfl (Nat.le_of_ble_eq_true rfl) rfl rfl) ?_ ?_
        · rintro _ w_8 ⟨rfl, hS12⟩
          have hS12 : ST w0 [] _ [⟨some ⟨b, 0, none⟩, 100, [.int .i64 g.Nodes, .slice B g.Edges.length c], 2⟩, ⟨some ⟨b1, 0, none⟩, 104, [.int .i64 c1.Qubits, .slice B1 c1.Gates.length c2], 2⟩, ⟨some ⟨b2, 0, none⟩, 201, [.int .i64 g.Nodes, .slice B g.Edges.length c, .int .i64 c1.Qubits, .slice B1 c1.Gates.length c2, .slice B7 r_1.length c8, .slice (some ⟨b3, 0, none⟩) c1.Gates.length c1.Gates.length], 6⟩, ⟨some ⟨b3, 0, none⟩, 4, ((List.replicate c1.Gates.length false).flatMap encB), c1.Gates.length * 1⟩, ⟨B7, 3, (r_1.flatMap encI), c8 * 1⟩] [⟨B, (g.Edges.flatMap enc_Edge)⟩, ⟨B1, (c1.Gates.flatMap enc_Gate)⟩, ⟨B2, (start.flatMap encI)⟩] := hS12
          refine ⟨(ST.sel hS12 [0, 1] rfl rfl), ?_⟩
          refine ra_done (by kernel_rfl) ?_
          exact ⟨B7, c8, some ⟨b3, 0, none⟩, (FF.cons rfl FF.nil), (hS12.sel [2, 4, 3] rfl rfl)⟩
        exact allR_nil
      exact allR_nil
    exact allR_nil
  rintro f w ⟨B8, c9, B9, hf, hS5⟩
  refine cw_ret ?_
  obtain rfl := some_inj hF
  exact ret1 Try.results164 (v1 := .agg #[.int .i64 g.Nodes, .slice B g.Edges.length c, .int .i64 c1.Qubits, .slice B1 c1.Gates.length c2, .slice B8 r_1.length c9, .slice B9 c1.Gates.length c1.Gates.length]) (resAt_cellA (B := some ⟨b2, 0, none⟩) (i := 0) (cs := [.int .i64 g.Nodes, .slice B g.Edges.length c, .int .i64 c1.Qubits, .slice B1 c1.Gates.length c2, .slice B8 r_1.length c9, .slice B9 c1.Gates.length c1.Gates.length]) (vs := [.int .i64 g.Nodes, .slice B g.Edges.length c, .int .i64 c1.Qubits, .slice B1 c1.Gates.length c2, .slice B8 r_1.length c9, .slice B9 c1.Gates.length c1.Gates.length]) (hf.get 6 0 rfl) k_ag_201 k_sz_201_6 (hS5.cf (i := 0) rfl) rfl rfl) ⟨B, c, B1, c2, B8, c9, B9, c1.Gates.length, (by simp [List.length_replicate]), (len_le rfl hq), (len_le rfl hq1), (org_cons (org_mem (i := 0) rfl) (org_cons (org_mem (i := 1) rfl) org_nil)), (ST.subR (R' := [⟨B, (g.Edges.flatMap enc_Edge)⟩, ⟨B1, (c1.Gates.flatMap enc_Gate)⟩]) (hS5.sel [1, 2] rfl rfl) (subc (mem_at (i := 0) rfl) (subc (mem_at (i := 1) rfl) (fun _ h => by cases h))))⟩

theorem c_slices_Index_impl_Edge_impl_Edge (s : List TEdge) (v_ : TEdge) (B : Option Addr) (c n : Nat) (w0 : World) (hn : s.length = n) (hS : ST w0 [] w0 [] [⟨B, (s.flatMap enc_Edge)⟩]) {r_ : Int} (hF : F_slices_Index_impl_Edge_impl_Edge s v_ = some r_) :
    CV Try.prog 338 #[.slice B n c, .agg #[.int .i64 v_.A, .int .i64 v_.B]] w0 (fun v w' => v = .int .i64 r_ ∧ ST w0 [] w' [] []) := by
  subst hn
  unfold F_slices_Index_impl_Edge_impl_Edge at hF
  refine cv_of_cw 19 Try.func338 rfl Try.ntmps338 rfl ?_
  refine cw_seq ?_
  refine cw_region ?_
  refine ss 3 rfl rfl (Ys_box (T := 277) (v := .agg #[.int .i64 v_.A, .int .i64 v_.B]) (cs := [.int .i64 v_.A, .int .i64 v_.B]) (m := 2) hS rfl rfl rfl rfl) ?_
  rintro _ w_ ⟨b, rfl, hS1⟩
  refine sq 4 rfl rfl (Y_assign (v := .int .i64 0) rfl rfl) ?_
  refine rw_nil ?_
  refine cw_seq ?_
  refine cw_seq ?_
  refine cw_region ?_
  refine sq 6 rfl rfl (Y_move (v := .slice B s.length c) rfl rfl) ?_
  refine sq 7 rfl rfl (Y_len (B := B) (m := s.length) (c := c) k_sl_98_277 rfl rfl) ?_
  refine sq 8 rfl rfl (Y_move (v := .int .i64 0) rfl rfl) ?_
  refine rw_nil ?_
  obtain ⟨hN, hF⟩ := chk_inv hF
  obtain ⟨z, hz, hF1⟩ := bind_inv hF
  refine cw_block ?_
  refine cw_loop (fun k f w => ∃ (i : Nat), FF f [(0, .slice B s.length c), (3, pt (some ⟨b, 0, none⟩) 0), (7, .int .i64 (s.length : Int)), (8, .int .i64 (i : Int))] ∧ ST w0 [] w [⟨some ⟨b, 0, none⟩, 277, [.int .i64 v_.A, .int .i64 v_.B], 2⟩] [⟨B, (s.flatMap enc_Edge)⟩] ∧ i + k = s.length ∧ forX (F_slices_Index_impl_Edge_impl_Edge_l1 s v_) k i () = some z) s.length ⟨0, (FF.cons rfl (FF.cons rfl (FF.cons rfl (FF.cons rfl FF.nil)))), (hS1.sel [0] rfl rfl), Nat.zero_add _, hz⟩ ?_
  rintro k_ f w ⟨i, hf, hS2, hik, hL⟩
  refine cw_seq ?_
  refine cw_region ?_
  refine sq 9 rfl rfl (Y_lt (k := .i64) (a := (i : Int)) (b := (s.length : Int)) rfl (hf.get 8 3 rfl) (hf.get 7 2 rfl)) ?_
  refine rw_nil ?_
  refine cw_seq ?_
  refine cw_cond (b := (decide ((i : Int) < (s.length : Int)))) rfl (fun hlt => ?_) (fun hlt => ?_)
  · skip
    have hlt1 : i < s.length := by have h := of_decide_eq_true hlt; omega
    obtain ⟨k_1, rfl⟩ : ∃ k2, k_ = k2 + 1 := ⟨k_ - 1, by omega⟩
    obtain ⟨y, hb, hL1⟩ := forX_go hL
    unfold F_slices_Index_impl_Edge_impl_Edge_l1 at hb
    refine cw_skip ?_
    refine cw_seq ?_
    refine cw_block ?_
    refine cw_seq ?_
    refine cw_region ?_
    refine sq 10 rfl rfl (Y_move (v := .int .i64 (i : Int)) rfl (hf.get 8 3 rfl)) ?_
    refine sq 5 rfl rfl (Y_assign (v := .int .i64 (i : Int)) rfl rfl) ?_
    refine rw_nil ?_
    refine cw_seq ?_
    obtain ⟨x, hx, hb⟩ := bind_inv hb
    refine ra_start (ST.sel hS2 [0] rfl rfl).fn (by kernel_rfl) ?_
    have hS3 := hS2.drew
    refine ra_q 0 11 (v := .agg #[.int .i64 v_.A, .int .i64 v_.B]) rfl rfl rfl (by kernel_rfl) (by kernel_rfl) (by kernel_rfl) (ST.sel hS3 [0] rfl rfl) (fun w' hw' => (Y_loadA (B := some ⟨b, 0, none⟩) (i := 0) (cs := [.int .i64 v_.A, .int .i64 v_.B]) (vs := [.int .i64 v_.A, .int .i64 v_.B]) k_ag_277 k_sz_277_2 rfl (hf.get 3 1 rfl) (ST.cf hw' (i := 0) rfl) rfl rfl)) ?_
    refine ra_q 1 12 (v := .slice B s.length c) rfl rfl rfl (by kernel_rfl) (by kernel_rfl) (by kernel_rfl) (ST.sel hS3 [0] rfl rfl) (fun w' hw' => (Y_move (v := .slice B s.length c) rfl (hf.get 0 0 rfl))) ?_
    refine ra_q 2 13 (v := .int .i64 (i : Int)) rfl rfl rfl (by kernel_rfl) (by kernel_rfl) (by kernel_rfl) (ST.sel hS3 [0] rfl rfl) (fun w' hw' => (Y_move (v := .int .i64 (i : Int)) rfl rfl)) ?_
    refine ra_q 3 14 (v := pt B ((i : Int).toNat * 2)) rfl rfl rfl (by kernel_rfl) (by kernel_rfl) (by kernel_rfl) (ST.sel hS3 [0] rfl rfl) (fun w' hw' => (Y_index (B := B) (m := s.length) (c := c) (k := .i64) (i := (i : Int)) k_sl_98_277 k_sz_277_2 rfl rfl rfl (gi_isSome enc_Edge_len rfl (ST.rf hw' (i := 0) rfl) hx) (getI_nn hx) (getI_ltI hx rfl))) ?_
    refine ra_q 4 15 (v := .agg #[.int .i64 x.A, .int .i64 x.B]) rfl rfl rfl (by kernel_rfl) (by kernel_rfl) (by kernel_rfl) (ST.sel hS3 [0] rfl rfl) (fun w' hw' => (Y_loadA (B := B) (i := (i : Int).toNat * 2) (cs := (s.flatMap enc_Edge)) (vs := [.int .i64 x.A, .int .i64 x.B]) k_ag_277 k_sz_277_2 rfl rfl (ST.rf hw' (i := 0) rfl) (enc_Edge_len x) (gi_seg enc_Edge_len hx))) ?_
    refine ra_q 5 16 (v := .bool ((v_.A == x.A) && ((v_.B == x.B) && true))) rfl rfl rfl (by kernel_rfl) (by kernel_rfl) (by kernel_rfl) (ST.sel hS3 [0] rfl rfl) (fun w' hw' => (Y_eqA (xs := #[.int .i64 v_.A, .int .i64 v_.B]) (ys := #[.int .i64 x.A, .int .i64 x.B]) (b := ((v_.A == x.A) && ((v_.B == x.B) && true))) k_eg_277 rfl rfl rfl (eqr_struct (xs := [.int .i64 v_.A, .int .i64 v_.B]) (ys := [.int .i64 x.A, .int .i64 x.B]) k_st_277 k_ho_277 (pts_sc k_sc_3 rfl rfl (eqr_int k_int_3_i64) (pts_sc k_sc_3 rfl rfl (eqr_int k_int_3_i64) pts_nil))))) ?_
    refine ra_done (by kernel_rfl) ?_
    refine cw_cond (b := ((v_.A == x.A) && ((v_.B == x.B) && true))) rfl (fun hb1 => ?_) (fun hb1 => ?_)
    · skip
      have hF2 := ct hb hb1
      refine cw_seq ?_
      refine cw_region ?_
      refine sq 17 rfl rfl (Y_move (v := .int .i64 (i : Int)) rfl rfl) ?_
      refine sq 4 rfl rfl (Y_assign (v := .int .i64 (i : Int)) rfl rfl) ?_
      refine rw_nil ?_
      refine cw_ret ?_
      obtain rfl := some_inj hF2
      obtain rfl := some_inj hL1
      obtain rfl := some_inj hF1
      exact ret1 Try.results338 (v1 := .int .i64 (i : Int)) (resAt_tmp rfl) ⟨rfl, (ST.subR (R' := []) (hS3.sel [] rfl rfl) (fun _ h => by cases h))⟩
    · skip
      have hF3 := cf' hb hb1
      refine cw_skip ?_
      refine cw_region ?_
      refine sq 18 rfl rfl (Y_add (k := .i64) (a := (i : Int)) (b := 1) rfl (hf.get 8 3 rfl) rfl) ?_
      refine sq 8 rfl rfl (Y_move (v := .int .i64 (IntKind.i64.wrap ((i : Int) + 1))) rfl rfl) ?_
      refine rw_nil ?_
      obtain rfl := some_inj hF3
      exact ⟨k_1, Nat.lt_succ_self _, i + 1, (FF.cons (hf.get 0 0 rfl) (FF.cons (hf.get 3 1 rfl) (FF.cons (hf.get 7 2 rfl) (FF.cons (congrArg (Value.int .i64) (wr_succ hlt1 hN)) FF.nil)))), (hS3.sel [0] rfl rfl), (by omega), hL1⟩
  · skip
    obtain rfl : k_ = 0 := by have h := of_decide_eq_false hlt; omega
    refine cw_exit rfl ?_
    obtain rfl := some_inj hL
    refine cw_seq ?_
    refine cw_region ?_
    refine sq 4 rfl rfl (Y_assign (v := .int .i64 (-1)) rfl rfl) ?_
    refine rw_nil ?_
    refine cw_ret ?_
    obtain rfl := some_inj hF1
    exact ret1 Try.results338 (v1 := .int .i64 (-1)) (resAt_tmp rfl) ⟨rfl, (ST.subR (R' := []) (hS2.sel [] rfl rfl) (fun _ h => by cases h))⟩

theorem c_slices_Contains_impl_Edge_impl_Edge (s : List TEdge) (v_ : TEdge) (B : Option Addr) (c n : Nat) (w0 : World) (hn : s.length = n) (hS : ST w0 [] w0 [] [⟨B, (s.flatMap enc_Edge)⟩]) {r_ : Bool} (hF : F_slices_Contains_impl_Edge_impl_Edge s v_ = some r_) :
    CV Try.prog 318 #[.slice B n c, .agg #[.int .i64 v_.A, .int .i64 v_.B]] w0 (fun v w' => v = .bool r_ ∧ ST w0 [] w' [] []) := by
  subst hn
  unfold F_slices_Contains_impl_Edge_impl_Edge at hF
  refine cv_of_cw 9 Try.func318 rfl Try.ntmps318 rfl ?_
  refine cw_seq ?_
  refine cw_region ?_
  refine ss 3 rfl rfl (Ys_box (T := 277) (v := .agg #[.int .i64 v_.A, .int .i64 v_.B]) (cs := [.int .i64 v_.A, .int .i64 v_.B]) (m := 2) hS rfl rfl rfl rfl) ?_
  rintro _ w_ ⟨b, rfl, hS1⟩
  refine sq 4 rfl rfl (Y_assign (v := .bool false) rfl rfl) ?_
  refine rw_nil ?_
  refine cw_seq ?_
  refine cw_region ?_
  refine sq 5 rfl rfl (Y_move (v := .slice B s.length c) rfl rfl) ?_
  refine sq 6 rfl rfl (Y_loadA (B := some ⟨b, 0, none⟩) (i := 0) (cs := [.int .i64 v_.A, .int .i64 v_.B]) (vs := [.int .i64 v_.A, .int .i64 v_.B]) k_ag_277 k_sz_277_2 rfl rfl (hS1.cf (i := 0) rfl) rfl rfl) ?_
  obtain ⟨r_1, hc, hF⟩ := bind_inv hF
  refine sc 7 rfl rfl (Yc_func (g := 338) (vs := [.slice B s.length c, .agg #[.int .i64 v_.A, .int .i64 v_.B]]) k_call_338 rfl (mc rfl (mc rfl mn)) (c_slices_Index_impl_Edge_impl_Edge s v_ B c s.length _ rfl (hS1.inn0 [(true, 0)] rfl) hc)) ?_
  rintro _ w_1 ⟨rfl, hd⟩
  have hS2 := hS1.out00 hd
  refine sq 8 rfl rfl (Y_ge (k := .i64) (a := r_1) (b := 0) rfl rfl rfl) ?_
  refine sq 4 rfl rfl (Y_assign (v := .bool (decide (0 ≤ r_1))) rfl rfl) ?_
  refine rw_nil ?_
  refine cw_ret ?_
  obtain rfl := some_inj hF
  exact ret1 Try.results318 (v1 := .bool (decide (0 ≤ r_1))) (resAt_tmp rfl) ⟨rfl, (ST.subR (R' := []) (hS2.sel [] rfl rfl) (fun _ h => by cases h))⟩

theorem c_impl_CouplingGraph_joins (g : TCouplingGraph) (a : Int) (b : Int) (B : Option Addr) (c n : Nat) (w0 : World) (hn : g.Edges.length = n) (hS : ST w0 [] w0 [] [⟨B, (g.Edges.flatMap enc_Edge)⟩]) {r_ : Bool} (hF : F_impl_CouplingGraph_joins g a b = some r_) :
    CV Try.prog 251 #[.agg #[.int .i64 g.Nodes, .slice B n c], .int .i64 a, .int .i64 b] w0 (fun v w' => v = .bool r_ ∧ ST w0 [] w' [] []) := by
  subst hn
  unfold F_impl_CouplingGraph_joins at hF
  refine cv_of_cw 17 Try.func251 rfl Try.ntmps251 rfl ?_
  refine cw_seq ?_
  refine cw_region ?_
  refine ss 3 rfl rfl (Ys_box (T := 100) (v := .agg #[.int .i64 g.Nodes, .slice B g.Edges.length c]) (cs := [.int .i64 g.Nodes, .slice B g.Edges.length c]) (m := 2) hS rfl rfl rfl rfl) ?_
  rintro _ w_ ⟨b1, rfl, hS1⟩
  refine sq 6 rfl rfl (Y_assign (v := .bool false) rfl rfl) ?_
  refine rw_nil ?_
  refine cw_seq ?_
  refine cw_region ?_
  refine sq 7 rfl rfl (Y_fieldAddr (B := some ⟨b1, 0, none⟩) (i := 0) (s := 0) k_fd_100_1_1_98 k_sz_98_1 rfl rfl) ?_
  refine sq 8 rfl rfl (Y_load1 (B := some ⟨b1, 0, none⟩) (i := 1) (cs := [.int .i64 g.Nodes, .slice B g.Edges.length c]) (v := .slice B g.Edges.length c) k_sc_98 rfl rfl (hS1.cf (i := 0) rfl) rfl) ?_
  refine sq 9 rfl rfl (Y_move (v := .int .i64 a) rfl rfl) ?_
  refine sq 10 rfl rfl (Y_move (v := .int .i64 b) rfl rfl) ?_
  refine sq 11 rfl rfl (Y_min2 (k := .i64) (a := a) (b := b) rfl rfl rfl) ?_
  refine sq 12 rfl rfl (Y_move (v := .int .i64 a) rfl rfl) ?_
  refine sq 13 rfl rfl (Y_move (v := .int .i64 b) rfl rfl) ?_
  refine sq 14 rfl rfl (Y_max2 (k := .i64) (a := a) (b := b) rfl rfl rfl) ?_
  refine sq 15 rfl rfl (Y_buildS (zs := [.int .i64 0, .int .i64 0]) (vs := [(0, .int .i64 (if b < a then b else a)), (1, .int .i64 (if a < b then b else a))]) (cs := [.int .i64 (if b < a then b else a), .int .i64 (if a < b then b else a)]) k_pl_277 k_zero_277 rfl (mpc rfl (mpc rfl mpn)) rfl) ?_
  obtain ⟨r_1, hc, hF⟩ := bind_inv hF
  refine sc 16 rfl rfl (Yc_func (g := 318) (vs := [.slice B g.Edges.length c, .agg #[.int .i64 (if b < a then b else a), .int .i64 (if a < b then b else a)]]) k_call_318 rfl (mc rfl (mc rfl mn)) (c_slices_Contains_impl_Edge_impl_Edge g.Edges (TEdge.mk (if b < a then b else a) (if a < b then b else a)) B c g.Edges.length _ rfl (hS1.inn0 [(true, 0)] rfl) hc)) ?_
  rintro _ w_1 ⟨rfl, hd⟩
  have hS2 := hS1.out00 hd
  refine sq 6 rfl rfl (Y_assign (v := .bool r_1) rfl rfl) ?_
  refine rw_nil ?_
  refine cw_ret ?_
  obtain rfl := some_inj hF
  exact ret1 Try.results251 (v1 := .bool r_1) (resAt_tmp rfl) ⟨rfl, (ST.subR (R' := []) (hS2.sel [] rfl rfl) (fun _ h => by cases h))⟩

theorem c_impl_routing_swap (r_ : Trouting) (a : Int) (b : Int) (B : Option Addr) (c n : Nat) (B1 : Option Addr) (c1 n1 : Nat) (B2 : Option Addr) (c2 n2 : Nat) (B3 : Option Addr) (c3 n3 : Nat) (w0 : World) (hn : r_.g.Edges.length = n) (hn1 : r_.c.Gates.length = n1) (hn2 : r_.place.length = n2) (hn3 : r_.done.length = n3) (hS : ST w0 (bl [⟨B2, 3, (r_.place.flatMap encI), c2 * 1⟩]) w0 [⟨B2, 3, (r_.place.flatMap encI), c2 * 1⟩] [⟨B, (r_.g.Edges.flatMap enc_Edge)⟩, ⟨B1, (r_.c.Gates.flatMap enc_Gate)⟩, ⟨B3, (r_.done.flatMap encB)⟩]) {m : List Int} (hF : F_impl_routing_swap r_ a b = some m) :
    CV Try.prog 252 #[.agg #[.int .i64 r_.g.Nodes, .slice B n c, .int .i64 r_.c.Qubits, .slice B1 n1 c1, .slice B2 n2 c2, .slice B3 n3 c3], .int .i64 a, .int .i64 b] w0 (fun v w' => v = .tuple #[] ∧ m.length = n2 ∧ ST w0 (bl [⟨B2, 3, (r_.place.flatMap encI), c2 * 1⟩]) w' [⟨B2, 3, (m.flatMap encI), c2 * 1⟩] []) := by
  subst hn
  subst hn1
  subst hn2
  subst hn3
  unfold F_impl_routing_swap at hF
  refine cv_of_cw 34 Try.func252 rfl Try.ntmps252 rfl ?_
  refine cw_seq ?_
  refine cw_region ?_
  refine ss 3 rfl rfl (Ys_box (T := 201) (v := .agg #[.int .i64 r_.g.Nodes, .slice B r_.g.Edges.length c, .int .i64 r_.c.Qubits, .slice B1 r_.c.Gates.length c1, .slice B2 r_.place.length c2, .slice B3 r_.done.length c3]) (cs := [.int .i64 r_.g.Nodes, .slice B r_.g.Edges.length c, .int .i64 r_.c.Qubits, .slice B1 r_.c.Gates.length c1, .slice B2 r_.place.length c2, .slice B3 r_.done.length c3]) (m := 6) hS rfl rfl rfl rfl) ?_
  rintro _ w_ ⟨b1, rfl, hS1⟩
  have hS1 : ST w0 (bl [⟨B2, 3, (r_.place.flatMap encI), c2 * 1⟩]) _ [⟨B2, 3, (r_.place.flatMap encI), c2 * 1⟩, ⟨some ⟨b1, 0, none⟩, 201, [.int .i64 r_.g.Nodes, .slice B r_.g.Edges.length c, .int .i64 r_.c.Qubits, .slice B1 r_.c.Gates.length c1, .slice B2 r_.place.length c2, .slice B3 r_.done.length c3], 6⟩] [⟨B, (r_.g.Edges.flatMap enc_Edge)⟩, ⟨B1, (r_.c.Gates.flatMap enc_Gate)⟩, ⟨B3, (r_.done.flatMap encB)⟩] := hS1
  refine rw_nil ?_
  refine cw_seq ?_
  refine cw_region ?_
  refine sq 8 rfl rfl (Y_fieldAddr (B := some ⟨b1, 0, none⟩) (i := 0) (s := 0) k_fd_201_2_4_59 k_sz_59_1 rfl rfl) ?_
  refine sq 9 rfl rfl (Y_load1 (B := some ⟨b1, 0, none⟩) (i := 4) (cs := [.int .i64 r_.g.Nodes, .slice B r_.g.Edges.length c, .int .i64 r_.c.Qubits, .slice B1 r_.c.Gates.length c1, .slice B2 r_.place.length c2, .slice B3 r_.done.length c3]) (v := .slice B2 r_.place.length c2) k_sc_59 rfl rfl (hS1.cf (i := 1) rfl) rfl) ?_
  refine sq 10 rfl rfl (Y_len (B := B2) (m := r_.place.length) (c := c2) k_sl_59_3 rfl rfl) ?_
  refine sq 11 rfl rfl (Y_move (v := .int .i64 0) rfl rfl) ?_
  refine rw_nil ?_
  obtain ⟨hN, hF⟩ := chk_inv hF
  obtain ⟨z, hz, hF1⟩ := bind_inv hF
  refine cw_block ?_
  refine cw_loop (fun k f w => ∃ (i : Nat) (m1 : List Int), FF f [(1, .int .i64 a), (2, .int .i64 b), (3, pt (some ⟨b1, 0, none⟩) 0), (9, .slice B2 r_.place.length c2), (10, .int .i64 (r_.place.length : Int)), (11, .int .i64 (i : Int))] ∧ m1.length = r_.place.length ∧ ST w0 (bl [⟨B2, 3, (r_.place.flatMap encI), c2 * 1⟩]) w [⟨B2, 3, (m1.flatMap encI), c2 * 1⟩, ⟨some ⟨b1, 0, none⟩, 201, [.int .i64 r_.g.Nodes, .slice B r_.g.Edges.length c, .int .i64 r_.c.Qubits, .slice B1 r_.c.Gates.length c1, .slice B2 r_.place.length c2, .slice B3 r_.done.length c3], 6⟩] [⟨B, (r_.g.Edges.flatMap enc_Edge)⟩, ⟨B1, (r_.c.Gates.flatMap enc_Gate)⟩, ⟨B3, (r_.done.flatMap encB)⟩] ∧ i + k = r_.place.length ∧ forN (F_impl_routing_swap_l1 a b) k i m1 = some z) r_.place.length ⟨0, r_.place, (FF.cons rfl (FF.cons rfl (FF.cons rfl (FF.cons rfl (FF.cons rfl (FF.cons rfl FF.nil)))))), rfl, (hS1.sel [0, 1] rfl rfl), Nat.zero_add _, hz⟩ ?_
  rintro k_ f w ⟨i, m1, hf, hl, hS2, hik, hL⟩
  refine cw_seq ?_
  refine cw_region ?_
  refine sq 12 rfl rfl (Y_lt (k := .i64) (a := (i : Int)) (b := (r_.place.length : Int)) rfl (hf.get 11 5 rfl) (hf.get 10 4 rfl)) ?_
  refine rw_nil ?_
  refine cw_seq ?_
  refine cw_cond (b := (decide ((i : Int) < (r_.place.length : Int)))) rfl (fun hlt => ?_) (fun hlt => ?_)
  · skip
    have hlt1 : i < r_.place.length := by have h := of_decide_eq_true hlt; omega
    obtain ⟨k_1, rfl⟩ : ∃ k2, k_ = k2 + 1 := ⟨k_ - 1, by omega⟩
    obtain ⟨y, hb, hL1⟩ := forN_go hL
    unfold F_impl_routing_swap_l1 at hb
    refine cw_skip ?_
    refine cw_seq ?_
    obtain ⟨z1, hz1, hF2⟩ := bind_inv hb
    refine cw_mid (fun f w => ∃ (m2 : List Int), m2 = z1 ∧ FF f [(1, .int .i64 a), (2, .int .i64 b), (3, pt (some ⟨b1, 0, none⟩) 0), (9, .slice B2 r_.place.length c2), (10, .int .i64 (r_.place.length : Int)), (11, .int .i64 (i : Int))] ∧ m2.length = r_.place.length ∧ ST w0 (bl [⟨B2, 3, (r_.place.flatMap encI), c2 * 1⟩]) w [⟨B2, 3, (m2.flatMap encI), c2 * 1⟩, ⟨some ⟨b1, 0, none⟩, 201, [.int .i64 r_.g.Nodes, .slice B r_.g.Edges.length c, .int .i64 r_.c.Qubits, .slice B1 r_.c.Gates.length c1, .slice B2 r_.place.length c2, .slice B3 r_.done.length c3], 6⟩] [⟨B, (r_.g.Edges.flatMap enc_Edge)⟩, ⟨B1, (r_.c.Gates.flatMap enc_Gate)⟩, ⟨B3, (r_.done.flatMap encB)⟩]) ?_ ?_
    · skip
      refine cw_block ?_
      refine cw_seq ?_
      refine cw_region ?_
      refine sq 13 rfl rfl (Y_move (v := .int .i64 (i : Int)) rfl (hf.get 11 5 rfl)) ?_
      obtain ⟨x, hx, hz1⟩ := bind_inv hz1
      refine sq 14 rfl rfl (Y_index (B := B2) (m := r_.place.length) (c := c2) (k := .i64) (i := (i : Int)) k_sl_59_3 k_sz_3_1 rfl (hf.get 9 3 rfl) (hf.get 11 5 rfl) (gi_isSome encI_len rfl (hS2.cf (i := 0) rfl) hx) (getI_nn hx) (getI_ltI hx hl)) ?_
      refine sq 15 rfl rfl (Y_load1 (B := B2) (i := (i : Int).toNat * 1) (cs := (m1.flatMap encI)) (v := .int .i64 x) k_sc_3 rfl rfl (hS2.cf (i := 0) rfl) (gi_at0 encI_len hx rfl)) ?_
      refine sq 6 rfl rfl (Y_assign (v := .int .i64 (i : Int)) rfl rfl) ?_
      refine sq 7 rfl rfl (Y_assign (v := .int .i64 x) rfl rfl) ?_
      refine rw_nil ?_
      refine cw_seq ?_
      refine cw_region ?_
      refine sq 16 rfl rfl (Y_move (v := .int .i64 x) rfl rfl) ?_
      refine rw_nil ?_
      refine cw_block ?_
      refine cw_seq ?_
      refine cw_region ?_
      refine sq 18 rfl rfl (Y_move (v := .int .i64 a) rfl (hf.get 1 0 rfl)) ?_
      refine sq 19 rfl rfl (Y_eq (k := .i64) (a := x) (b := a) rfl rfl rfl) ?_
      refine sq 17 rfl rfl (Y_assign (v := .bool (x == a)) rfl rfl) ?_
      refine rw_nil ?_
      refine cw_cond (b := (x == a)) rfl (fun hb1 => ?_) (fun hb1 => ?_)
      · skip
        have hF3 := ct hz1 hb1
        refine cw_region ?_
        refine sq 20 rfl rfl (Y_fieldAddr (B := some ⟨b1, 0, none⟩) (i := 0) (s := 0) k_fd_201_2_4_59 k_sz_59_1 rfl (hf.get 3 2 rfl)) ?_
        refine sq 21 rfl rfl (Y_load1 (B := some ⟨b1, 0, none⟩) (i := 4) (cs := [.int .i64 r_.g.Nodes, .slice B r_.g.Edges.length c, .int .i64 r_.c.Qubits, .slice B1 r_.c.Gates.length c1, .slice B2 r_.place.length c2, .slice B3 r_.done.length c3]) (v := .slice B2 r_.place.length c2) k_sc_59 rfl rfl (hS2.cf (i := 1) rfl) rfl) ?_
        refine sq 22 rfl rfl (Y_move (v := .int .i64 (i : Int)) rfl rfl) ?_
        refine sq 23 rfl rfl (Y_move (v := .int .i64 b) rfl (hf.get 2 1 rfl)) ?_
        refine sq 24 rfl rfl (Y_index (B := B2) (m := r_.place.length) (c := c2) (k := .i64) (i := (i : Int)) k_sl_59_3 k_sz_3_1 rfl rfl rfl (gi_isSome encI_len rfl (hS2.cf (i := 0) rfl) hx) (getI_nn hx) (getI_ltI hx hl)) ?_
        refine ss0 rfl rfl (Ys_store (i := 0) (s := 1) (B := B2) (T' := 3) (v := .int .i64 b) (vs := [.int .i64 b]) (k := (i : Int).toNat * 1) (cs' := ((m1.set (i : Int).toNat b).flatMap encI)) hS2 k_sz_3_1 rfl rfl rfl rfl rfl rfl rfl (gi_fit0 encI_len hx) (gi_set encI_len hx b rfl) rfl) ?_
        rintro _ w_1 ⟨rfl, hS4⟩
        have hS4 : ST w0 (bl [⟨B2, 3, (r_.place.flatMap encI), c2 * 1⟩]) _ [⟨B2, 3, ((m1.set (i : Int).toNat b).flatMap encI), c2 * 1⟩, ⟨some ⟨b1, 0, none⟩, 201, [.int .i64 r_.g.Nodes, .slice B r_.g.Edges.length c, .int .i64 r_.c.Qubits, .slice B1 r_.c.Gates.length c1, .slice B2 r_.place.length c2, .slice B3 r_.done.length c3], 6⟩] [⟨B, (r_.g.Edges.flatMap enc_Edge)⟩, ⟨B1, (r_.c.Gates.flatMap enc_Gate)⟩, ⟨B3, (r_.done.flatMap encB)⟩] := hS4
        refine rw_nil ?_
        exact ⟨(m1.set (i : Int).toNat b), (some_inj hF3), (FF.cons (hf.get 1 0 rfl) (FF.cons (hf.get 2 1 rfl) (FF.cons (hf.get 3 2 rfl) (FF.cons (hf.get 9 3 rfl) (FF.cons (hf.get 10 4 rfl) (FF.cons (hf.get 11 5 rfl) FF.nil)))))), (set_len _ _ _ hl), (hS4.sel [0, 1] rfl rfl)⟩
      · skip
        have hF4 := cf' hz1 hb1
        refine cw_seq ?_
        refine cw_region ?_
        refine sq 26 rfl rfl (Y_move (v := .int .i64 b) rfl (hf.get 2 1 rfl)) ?_
        refine sq 27 rfl rfl (Y_eq (k := .i64) (a := x) (b := b) rfl rfl rfl) ?_
        refine sq 25 rfl rfl (Y_assign (v := .bool (x == b)) rfl rfl) ?_
        refine rw_nil ?_
        refine cw_cond (b := (x == b)) rfl (fun hb2 => ?_) (fun hb2 => ?_)
        · skip
          have hF5 := ct hF4 hb2
          refine cw_region ?_
          refine sq 28 rfl rfl (Y_fieldAddr (B := some ⟨b1, 0, none⟩) (i := 0) (s := 0) k_fd_201_2_4_59 k_sz_59_1 rfl (hf.get 3 2 rfl)) ?_
          refine sq 29 rfl rfl (Y_load1 (B := some ⟨b1, 0, none⟩) (i := 4) (cs := [.int .i64 r_.g.Nodes, .slice B r_.g.Edges.length c, .int .i64 r_.c.Qubits, .slice B1 r_.c.Gates.length c1, .slice B2 r_.place.length c2, .slice B3 r_.done.length c3]) (v := .slice B2 r_.place.length c2) k_sc_59 rfl rfl (hS2.cf (i := 1) rfl) rfl) ?_
          refine sq 30 rfl rfl (Y_move (v := .int .i64 (i : Int)) rfl rfl) ?_
          refine sq 31 rfl rfl (Y_move (v := .int .i64 a) rfl (hf.get 1 0 rfl)) ?_
          refine sq 32 rfl rfl (Y_index (B := B2) (m := r_.place.length) (c := c2) (k := .i64) (i := (i : Int)) k_sl_59_3 k_sz_3_1 rfl rfl rfl (gi_isSome encI_len rfl (hS2.cf (i := 0) rfl) hx) (getI_nn hx) (getI_ltI hx hl)) ?_
          refine ss0 rfl rfl (Ys_store (i := 0) (s := 1) (B := B2) (T' := 3) (v := .int .i64 a) (vs := [.int .i64 a]) (k := (i : Int).toNat * 1) (cs' := ((m1.set (i : Int).toNat a).flatMap encI)) hS2 k_sz_3_1 rfl rfl rfl rfl rfl rfl rfl (gi_fit0 encI_len hx) (gi_set encI_len hx a rfl) rfl) ?_
          rintro _ w_2 ⟨rfl, hS5⟩
          have hS5 : ST w0 (bl [⟨B2, 3, (r_.place.flatMap encI), c2 * 1⟩]) _ [⟨B2, 3, ((m1.set (i : Int).toNat a).flatMap encI), c2 * 1⟩, ⟨some ⟨b1, 0, none⟩, 201, [.int .i64 r_.g.Nodes, .slice B r_.g.Edges.length c, .int .i64 r_.c.Qubits, .slice B1 r_.c.Gates.length c1, .slice B2 r_.place.length c2, .slice B3 r_.done.length c3], 6⟩] [⟨B, (r_.g.Edges.flatMap enc_Edge)⟩, ⟨B1, (r_.c.Gates.flatMap enc_Gate)⟩, ⟨B3, (r_.done.flatMap encB)⟩] := hS5
          refine rw_nil ?_
          exact ⟨(m1.set (i : Int).toNat a), (some_inj hF5), (FF.cons (hf.get 1 0 rfl) (FF.cons (hf.get 2 1 rfl) (FF.cons (hf.get 3 2 rfl) (FF.cons (hf.get 9 3 rfl) (FF.cons (hf.get 10 4 rfl) (FF.cons (hf.get 11 5 rfl) FF.nil)))))), (set_len _ _ _ hl), (hS5.sel [0, 1] rfl rfl)⟩
        · skip
          have hF6 := cf' hF4 hb2
          refine cw_skip ?_
          exact ⟨m1, (some_inj hF6), (FF.cons (hf.get 1 0 rfl) (FF.cons (hf.get 2 1 rfl) (FF.cons (hf.get 3 2 rfl) (FF.cons (hf.get 9 3 rfl) (FF.cons (hf.get 10 4 rfl) (FF.cons (hf.get 11 5 rfl) FF.nil)))))), hl, (hS2.sel [0, 1] rfl rfl)⟩
    rintro f w ⟨m2, rfl, hf1, hl1, hS3⟩
    refine cw_region ?_
    refine sq 33 rfl rfl (Y_add (k := .i64) (a := (i : Int)) (b := 1) rfl (hf1.get 11 5 rfl) rfl) ?_
    refine sq 11 rfl rfl (Y_move (v := .int .i64 (IntKind.i64.wrap ((i : Int) + 1))) rfl rfl) ?_
    refine rw_nil ?_
    obtain rfl := some_inj hF2
    exact ⟨k_1, Nat.lt_succ_self _, i + 1, m2, (FF.cons (hf1.get 1 0 rfl) (FF.cons (hf1.get 2 1 rfl) (FF.cons (hf1.get 3 2 rfl) (FF.cons (hf1.get 9 3 rfl) (FF.cons (hf1.get 10 4 rfl) (FF.cons (congrArg (Value.int .i64) (wr_succ hlt1 hN)) FF.nil)))))), hl1, (hS3.sel [0, 1] rfl rfl), (by omega), hL1⟩
  · skip
    obtain rfl : k_ = 0 := by have h := of_decide_eq_false hlt; omega
    refine cw_exit rfl ?_
    obtain rfl := some_inj hL
    obtain rfl := some_inj hF1
    exact ret0 Try.results252  ⟨rfl, hl, (ST.subR (R' := []) (hS2.sel [0] rfl rfl) (fun _ h => by cases h))⟩

theorem c_slices_IndexFunc_int_int (s : List Int) (f_ : Int → Option (Bool)) (B : Option Addr) (c n : Nat) (kf : Nat) (caps : Array Value) (Rf : List Ro) (w0 : World) (hn : s.length = n) (hk : callB Try.prog kf = true) (hp : ∀ (w : World), ST w [] w [] Rf → ∀ (x : Int) (y : Bool), f_ x = some y → CV Try.prog kf ((.int .i64 x) :: caps.toList).toArray w (fun v w' => v = .bool y ∧ ST w [] w' [] [])) (hS : ST w0 [] w0 [] (⟨B, (s.flatMap encI)⟩ :: Rf)) {r_ : Int} (hF : F_slices_IndexFunc_int_int s f_ = some r_) :
    CV Try.prog 303 #[.slice B n c, .func (.func kf) #[] caps] w0 (fun v w' => v = .int .i64 r_ ∧ ST w0 [] w' [] []) := by
  subst hn
  unfold F_slices_IndexFunc_int_int at hF
  refine cv_of_cw 19 Try.func303 rfl Try.ntmps303 rfl ?_
  refine cw_seq ?_
  refine cw_region ?_
  refine sq 4 rfl rfl (Y_assign (v := .int .i64 0) rfl rfl) ?_
  refine rw_nil ?_
  refine cw_seq ?_
  refine cw_seq ?_
  refine cw_region ?_
  refine sq 6 rfl rfl (Y_move (v := .slice B s.length c) rfl rfl) ?_
  refine sq 7 rfl rfl (Y_len (B := B) (m := s.length) (c := c) k_sl_59_3 rfl rfl) ?_
  refine sq 8 rfl rfl (Y_move (v := .int .i64 0) rfl rfl) ?_
  refine rw_nil ?_
  obtain ⟨hN, hF⟩ := chk_inv hF
  obtain ⟨z, hz, hF1⟩ := bind_inv hF
  refine cw_block ?_
  refine cw_loop (fun k f w => ∃ (i : Nat), FF f [(0, .slice B s.length c), (1, .func (.func kf) #[] caps), (7, .int .i64 (s.length : Int)), (8, .int .i64 (i : Int))] ∧ ST w0 [] w [] (⟨B, (s.flatMap encI)⟩ :: Rf) ∧ i + k = s.length ∧ forX (F_slices_IndexFunc_int_int_l1 s f_) k i () = some z) s.length ⟨0, (FF.cons rfl (FF.cons rfl (FF.cons rfl (FF.cons rfl FF.nil)))), (hS.sel [] rfl rfl), Nat.zero_add _, hz⟩ ?_
  rintro k_ f w ⟨i, hf, hS1, hik, hL⟩
  refine cw_seq ?_
  refine cw_region ?_
  refine sq 9 rfl rfl (Y_lt (k := .i64) (a := (i : Int)) (b := (s.length : Int)) rfl (hf.get 8 3 rfl) (hf.get 7 2 rfl)) ?_
  refine rw_nil ?_
  refine cw_seq ?_
  refine cw_cond (b := (decide ((i : Int) < (s.length : Int)))) rfl (fun hlt => ?_) (fun hlt => ?_)
  · skip
    have hlt1 : i < s.length := by have h := of_decide_eq_true hlt; omega
    obtain ⟨k_1, rfl⟩ : ∃ k2, k_ = k2 + 1 := ⟨k_ - 1, by omega⟩
    obtain ⟨y1, hb, hL1⟩ := forX_go hL
    unfold F_slices_IndexFunc_int_int_l1 at hb
    refine cw_skip ?_
    refine cw_seq ?_
    refine cw_block ?_
    refine cw_seq ?_
    refine cw_region ?_
    refine sq 10 rfl rfl (Y_move (v := .int .i64 (i : Int)) rfl (hf.get 8 3 rfl)) ?_
    refine sq 5 rfl rfl (Y_assign (v := .int .i64 (i : Int)) rfl rfl) ?_
    refine rw_nil ?_
    refine cw_seq ?_
    refine cw_region ?_
    refine sq 11 rfl rfl (Y_move (v := .func (.func kf) #[] caps) rfl (hf.get 1 1 rfl)) ?_
    refine sq 12 rfl rfl (Y_move (v := .slice B s.length c) rfl (hf.get 0 0 rfl)) ?_
    refine sq 13 rfl rfl (Y_move (v := .int .i64 (i : Int)) rfl rfl) ?_
    obtain ⟨x1, hx, hb⟩ := bind_inv hb
    refine sq 14 rfl rfl (Y_index (B := B) (m := s.length) (c := c) (k := .i64) (i := (i : Int)) k_sl_59_3 k_sz_3_1 rfl rfl rfl (gi_isSome encI_len rfl (hS1.rf (i := 0) rfl) hx) (getI_nn hx) (getI_ltI hx rfl)) ?_
    refine sq 15 rfl rfl (Y_load1 (B := B) (i := (i : Int).toNat * 1) (cs := (s.flatMap encI)) (v := .int .i64 x1) k_sc_3 rfl rfl (hS1.rf (i := 0) rfl) (gi_at0 encI_len hx rfl)) ?_
    obtain ⟨r_1, hc, hb⟩ := bind_inv hb
    refine sc 16 rfl rfl (Yc_clos (g := kf) (vs := (.int .i64 x1) :: caps.toList) hk rfl rfl (clo_args (mc rfl mn)) (hp _ (hS1.innS (fun _ h => List.mem_of_mem_drop (i := 1) h)) x1 r_1 hc)) ?_
    rintro _ w_ ⟨rfl, hd⟩
    have hS2 := hS1.out00 hd
    refine rw_nil ?_
    refine cw_cond (b := r_1) rfl (fun hb1 => ?_) (fun hb1 => ?_)
    · skip
      have hF2 := ct hb hb1
      refine cw_seq ?_
      refine cw_region ?_
      refine sq 17 rfl rfl (Y_move (v := .int .i64 (i : Int)) rfl rfl) ?_
      refine sq 4 rfl rfl (Y_assign (v := .int .i64 (i : Int)) rfl rfl) ?_
      refine rw_nil ?_
      refine cw_ret ?_
      obtain rfl := some_inj hF2
      obtain rfl := some_inj hL1
      obtain rfl := some_inj hF1
      exact ret1 Try.results303 (v1 := .int .i64 (i : Int)) (resAt_tmp rfl) ⟨rfl, (ST.subR (R' := []) (hS2.sel [] rfl rfl) (fun _ h => by cases h))⟩
    · skip
      have hF3 := cf' hb hb1
      refine cw_skip ?_
      refine cw_region ?_
      refine sq 18 rfl rfl (Y_add (k := .i64) (a := (i : Int)) (b := 1) rfl (hf.get 8 3 rfl) rfl) ?_
      refine sq 8 rfl rfl (Y_move (v := .int .i64 (IntKind.i64.wrap ((i : Int) + 1))) rfl rfl) ?_
      refine rw_nil ?_
      obtain rfl := some_inj hF3
      exact ⟨k_1, Nat.lt_succ_self _, i + 1, (FF.cons (hf.get 0 0 rfl) (FF.cons (hf.get 1 1 rfl) (FF.cons (hf.get 7 2 rfl) (FF.cons (congrArg (Value.int .i64) (wr_succ hlt1 hN)) FF.nil)))), (hS2.sel [] rfl rfl), (by omega), hL1⟩
  · skip
    obtain rfl : k_ = 0 := by have h := of_decide_eq_false hlt; omega
    refine cw_exit rfl ?_
    obtain rfl := some_inj hL
    refine cw_seq ?_
    refine cw_region ?_
    refine sq 4 rfl rfl (Y_assign (v := .int .i64 (-1)) rfl rfl) ?_
    refine rw_nil ?_
    refine cw_ret ?_
    obtain rfl := some_inj hF1
    exact ret1 Try.results303 (v1 := .int .i64 (-1)) (resAt_tmp rfl) ⟨rfl, (ST.subR (R' := []) (hS1.sel [] rfl rfl) (fun _ h => by cases h))⟩

theorem c_slices_ContainsFunc_int_int (s : List Int) (f_ : Int → Option (Bool)) (B : Option Addr) (c n : Nat) (kf : Nat) (caps : Array Value) (Rf : List Ro) (w0 : World) (hn : s.length = n) (hk : callB Try.prog kf = true) (hp : ∀ (w : World), ST w [] w [] Rf → ∀ (x : Int) (y : Bool), f_ x = some y → CV Try.prog kf ((.int .i64 x) :: caps.toList).toArray w (fun v w' => v = .bool y ∧ ST w [] w' [] [])) (hS : ST w0 [] w0 [] (⟨B, (s.flatMap encI)⟩ :: Rf)) {r_ : Bool} (hF : F_slices_ContainsFunc_int_int s f_ = some r_) :
    CV Try.prog 224 #[.slice B n c, .func (.func kf) #[] caps] w0 (fun v w' => v = .bool r_ ∧ ST w0 [] w' [] []) := by
  subst hn
  unfold F_slices_ContainsFunc_int_int at hF
  refine cv_of_cw 9 Try.func224 rfl Try.ntmps224 rfl ?_
  refine cw_seq ?_
  refine cw_region ?_
  refine sq 4 rfl rfl (Y_assign (v := .bool false) rfl rfl) ?_
  refine rw_nil ?_
  refine cw_seq ?_
  refine cw_region ?_
  refine sq 5 rfl rfl (Y_move (v := .slice B s.length c) rfl rfl) ?_
  refine sq 6 rfl rfl (Y_move (v := .func (.func kf) #[] caps) rfl rfl) ?_
  obtain ⟨r_1, hc, hF⟩ := bind_inv hF
  refine sc 7 rfl rfl (Yc_func (g := 303) (vs := [.slice B s.length c, .func (.func kf) #[] caps]) k_call_303 rfl (mc rfl (mc rfl mn)) (c_slices_IndexFunc_int_int s f_ B c s.length kf caps Rf _ rfl hk hp (hS.innS (subc (mem_at (i := 0) rfl) (fun _ h => List.mem_of_mem_drop (i := 1) h))) hc)) ?_
  rintro _ w_ ⟨rfl, hd⟩
  have hS1 := hS.out00 hd
  refine sq 8 rfl rfl (Y_ge (k := .i64) (a := r_1) (b := 0) rfl rfl rfl) ?_
  refine sq 4 rfl rfl (Y_assign (v := .bool (decide (0 ≤ r_1))) rfl rfl) ?_
  refine rw_nil ?_
  refine cw_ret ?_
  obtain rfl := some_inj hF
  exact ret1 Try.results224 (v1 := .bool (decide (0 ≤ r_1))) (resAt_tmp rfl) ⟨rfl, (ST.subR (R' := []) (hS1.sel [] rfl rfl) (fun _ h => by cases h))⟩

theorem c_impl_qubitsOf (g : TGate)  (w0 : World)  (hS : ST w0 [] w0 [] []) {r_ : List Int} (hF : F_impl_qubitsOf g = some r_) :
    CV Try.prog 339 #[.agg #[.int .i64 g.Kind, .int .i64 g.A, .int .i64 g.B]] w0 (fun v w' => ∃ (B : Option Addr) (c : Nat), v = .slice B r_.length c ∧ ST w0 [] w' [⟨B, 3, (r_.flatMap encI), c * 1⟩] []) := by
  unfold F_impl_qubitsOf at hF
  refine cv_of_cw 19 Try.func339 rfl Try.ntmps339 rfl ?_
  refine cw_seq ?_
  refine cw_region ?_
  refine ss 1 rfl rfl (Ys_box (T := 213) (v := .agg #[.int .i64 g.Kind, .int .i64 g.A, .int .i64 g.B]) (cs := [.int .i64 g.Kind, .int .i64 g.A, .int .i64 g.B]) (m := 3) hS rfl rfl rfl rfl) ?_
  rintro _ w_ ⟨b, rfl, hS1⟩
  refine sq 2 rfl rfl (Y_assign (v := .slice none 0 0) rfl rfl) ?_
  refine rw_nil ?_
  refine cw_seq ?_
  refine cw_block ?_
  refine cw_seq ?_
  refine cw_region ?_
  refine sq 4 rfl rfl (Y_fieldAddr (B := some ⟨b, 0, none⟩) (i := 0) (s := 0) k_fd_213_0_0_3 k_sz_3_1 rfl rfl) ?_
  refine sq 5 rfl rfl (Y_load1 (B := some ⟨b, 0, none⟩) (i := 0) (cs := [.int .i64 g.Kind, .int .i64 g.A, .int .i64 g.B]) (v := .int .i64 g.Kind) k_sc_3 rfl rfl (hS1.cf (i := 0) rfl) rfl) ?_
  refine sq 6 rfl rfl (Y_eq (k := .i64) (a := g.Kind) (b := 12) rfl rfl rfl) ?_
  refine sq 3 rfl rfl (Y_assign (v := .bool (g.Kind == 12)) rfl rfl) ?_
  refine rw_nil ?_
  refine cw_cond (b := (g.Kind == 12)) rfl (fun hb => ?_) (fun hb => ?_)
  · skip
    have hF1 := ct hF hb
    refine cw_seq ?_
    refine cw_region ?_
    refine sq 2 rfl rfl (Y_assign (v := .slice none 0 0) rfl rfl) ?_
    refine rw_nil ?_
    refine cw_ret ?_
    have hS2 := hS1.addNil 3
    obtain rfl := some_inj hF1
    exact ret1 Try.results339 (v1 := .slice none 0 0) (resAt_tmp rfl) ⟨none, 0, rfl, (ST.subR (R' := []) (hS2.sel [1] rfl rfl) (fun _ h => by cases h))⟩
  · skip
    have hF2 := cf' hF hb
    refine cw_seq ?_
    refine cw_region ?_
    refine sq 8 rfl rfl (Y_fieldAddr (B := some ⟨b, 0, none⟩) (i := 0) (s := 0) k_fd_213_0_0_3 k_sz_3_1 rfl rfl) ?_
    refine sq 9 rfl rfl (Y_load1 (B := some ⟨b, 0, none⟩) (i := 0) (cs := [.int .i64 g.Kind, .int .i64 g.A, .int .i64 g.B]) (v := .int .i64 g.Kind) k_sc_3 rfl rfl (hS1.cf (i := 0) rfl) rfl) ?_
    obtain ⟨r_1, hc, hF2⟩ := bind_inv hF2
    refine sc 10 rfl rfl (Yc_func (g := 250) (vs := [.int .i64 g.Kind]) k_call_250 rfl (mc rfl mn) (c_impl_isTwo g.Kind _  (hS1.inn0 [] rfl) hc)) ?_
    rintro _ w_1 ⟨rfl, hd⟩
    have hS3 := hS1.out00 hd
    refine sq 7 rfl rfl (Y_assign (v := .bool r_1) rfl rfl) ?_
    refine rw_nil ?_
    refine cw_cond (b := r_1) rfl (fun hb1 => ?_) (fun hb1 => ?_)
    · skip
      have hF3 := ct hF2 hb1
      refine cw_seq ?_
      refine cw_region ?_
      refine sq 11 rfl rfl (Y_fieldAddr (B := some ⟨b, 0, none⟩) (i := 0) (s := 0) k_fd_213_1_1_3 k_sz_3_1 rfl rfl) ?_
      refine sq 12 rfl rfl (Y_load1 (B := some ⟨b, 0, none⟩) (i := 1) (cs := [.int .i64 g.Kind, .int .i64 g.A, .int .i64 g.B]) (v := .int .i64 g.A) k_sc_3 rfl rfl (hS3.cf (i := 0) rfl) rfl) ?_
      refine sq 13 rfl rfl (Y_fieldAddr (B := some ⟨b, 0, none⟩) (i := 0) (s := 0) k_fd_213_2_2_3 k_sz_3_1 rfl rfl) ?_
      refine sq 14 rfl rfl (Y_load1 (B := some ⟨b, 0, none⟩) (i := 2) (cs := [.int .i64 g.Kind, .int .i64 g.A, .int .i64 g.B]) (v := .int .i64 g.B) k_sc_3 rfl rfl (hS3.cf (i := 0) rfl) rfl) ?_
      refine ss 15 rfl rfl (Ys_bslice (s := 1) (len := 2) (vs := [(0, .int .i64 g.A), (1, .int .i64 g.B)]) (cs := [.int .i64 g.A, .int .i64 g.B]) (zs := [.int .i64 0, .int .i64 0]) (m := 2) hS3 k_sl_59_3 k_sz_3_1 k_zc_3 rfl (mpc rfl (mpc rfl mpn)) rfl rfl rfl (by kernel_rfl) (by kernel_rfl) rfl) ?_
      rintro _ w_2 ⟨b1, rfl, hS4⟩
      have hS4 : ST w0 [] _ [⟨some ⟨b, 0, none⟩, 213, [.int .i64 g.Kind, .int .i64 g.A, .int .i64 g.B], 3⟩, ⟨some ⟨b1, 0, none⟩, 3, ([g.A, g.B].flatMap encI), 2 * 1⟩] [] := hS4
      refine sq 2 rfl rfl (Y_assign (v := .slice (some ⟨b1, 0, none⟩) 2 2) rfl rfl) ?_
      refine rw_nil ?_
      refine cw_ret ?_
      obtain rfl := some_inj hF3
      exact ret1 Try.results339 (v1 := .slice (some ⟨b1, 0, none⟩) 2 2) (resAt_tmp rfl) ⟨some ⟨b1, 0, none⟩, 2, rfl, (ST.subR (R' := []) (hS4.sel [1] rfl rfl) (fun _ h => by cases h))⟩
    · skip
      have hF4 := cf' hF2 hb1
      refine cw_skip ?_
      refine cw_seq ?_
      refine cw_region ?_
      refine sq 16 rfl rfl (Y_fieldAddr (B := some ⟨b, 0, none⟩) (i := 0) (s := 0) k_fd_213_1_1_3 k_sz_3_1 rfl rfl) ?_
      refine sq 17 rfl rfl (Y_load1 (B := some ⟨b, 0, none⟩) (i := 1) (cs := [.int .i64 g.Kind, .int .i64 g.A, .int .i64 g.B]) (v := .int .i64 g.A) k_sc_3 rfl rfl (hS3.cf (i := 0) rfl) rfl) ?_
      refine ss 18 rfl rfl (Ys_bslice (s := 1) (len := 1) (vs := [(0, .int .i64 g.A)]) (cs := [.int .i64 g.A]) (zs := [.int .i64 0]) (m := 1) hS3 k_sl_59_3 k_sz_3_1 k_zc_3 rfl (mpc rfl mpn) rfl rfl rfl (by kernel_rfl) (by kernel_rfl) rfl) ?_
      rintro _ w_3 ⟨b2, rfl, hS5⟩
      have hS5 : ST w0 [] _ [⟨some ⟨b, 0, none⟩, 213, [.int .i64 g.Kind, .int .i64 g.A, .int .i64 g.B], 3⟩, ⟨some ⟨b2, 0, none⟩, 3, ([g.A].flatMap encI), 1 * 1⟩] [] := hS5
      refine sq 2 rfl rfl (Y_assign (v := .slice (some ⟨b2, 0, none⟩) 1 1) rfl rfl) ?_
      refine rw_nil ?_
      refine cw_ret ?_
      obtain rfl := some_inj hF4
      exact ret1 Try.results339 (v1 := .slice (some ⟨b2, 0, none⟩) 1 1) (resAt_tmp rfl) ⟨some ⟨b2, 0, none⟩, 1, rfl, (ST.subR (R' := []) (hS5.sel [1] rfl rfl) (fun _ h => by cases h))⟩

theorem c_slices_Index_int_int (s : List Int) (v_ : Int) (B : Option Addr) (c n : Nat) (w0 : World) (hn : s.length = n) (hS : ST w0 [] w0 [] [⟨B, (s.flatMap encI)⟩]) {r_ : Int} (hF : F_slices_Index_int_int s v_ = some r_) :
    CV Try.prog 337 #[.slice B n c, .int .i64 v_] w0 (fun v w' => v = .int .i64 r_ ∧ ST w0 [] w' [] []) := by
  subst hn
  unfold F_slices_Index_int_int at hF
  refine cv_of_cw 19 Try.func337 rfl Try.ntmps337 rfl ?_
  refine cw_seq ?_
  refine cw_region ?_
  refine sq 4 rfl rfl (Y_assign (v := .int .i64 0) rfl rfl) ?_
  refine rw_nil ?_
  refine cw_seq ?_
  refine cw_seq ?_
  refine cw_region ?_
  refine sq 6 rfl rfl (Y_move (v := .slice B s.length c) rfl rfl) ?_
  refine sq 7 rfl rfl (Y_len (B := B) (m := s.length) (c := c) k_sl_59_3 rfl rfl) ?_
  refine sq 8 rfl rfl (Y_move (v := .int .i64 0) rfl rfl) ?_
  refine rw_nil ?_
  obtain ⟨hN, hF⟩ := chk_inv hF
  obtain ⟨z, hz, hF1⟩ := bind_inv hF
  refine cw_block ?_
  refine cw_loop (fun k f w => ∃ (i : Nat), FF f [(0, .slice B s.length c), (1, .int .i64 v_), (7, .int .i64 (s.length : Int)), (8, .int .i64 (i : Int))] ∧ ST w0 [] w [] [⟨B, (s.flatMap encI)⟩] ∧ i + k = s.length ∧ forX (F_slices_Index_int_int_l1 s v_) k i () = some z) s.length ⟨0, (FF.cons rfl (FF.cons rfl (FF.cons rfl (FF.cons rfl FF.nil)))), (hS.sel [] rfl rfl), Nat.zero_add _, hz⟩ ?_
  rintro k_ f w ⟨i, hf, hS1, hik, hL⟩
  refine cw_seq ?_
  refine cw_region ?_
  refine sq 9 rfl rfl (Y_lt (k := .i64) (a := (i : Int)) (b := (s.length : Int)) rfl (hf.get 8 3 rfl) (hf.get 7 2 rfl)) ?_
  refine rw_nil ?_
  refine cw_seq ?_
  refine cw_cond (b := (decide ((i : Int) < (s.length : Int)))) rfl (fun hlt => ?_) (fun hlt => ?_)
  · skip
    have hlt1 : i < s.length := by have h := of_decide_eq_true hlt; omega
    obtain ⟨k_1, rfl⟩ : ∃ k2, k_ = k2 + 1 := ⟨k_ - 1, by omega⟩
    obtain ⟨y, hb, hL1⟩ := forX_go hL
    unfold F_slices_Index_int_int_l1 at hb
    refine cw_skip ?_
    refine cw_seq ?_
    refine cw_block ?_
    refine cw_seq ?_
    refine cw_region ?_
    refine sq 10 rfl rfl (Y_move (v := .int .i64 (i : Int)) rfl (hf.get 8 3 rfl)) ?_
    refine sq 5 rfl rfl (Y_assign (v := .int .i64 (i : Int)) rfl rfl) ?_
    refine rw_nil ?_
    refine cw_seq ?_
    refine cw_region ?_
    refine sq 11 rfl rfl (Y_move (v := .int .i64 v_) rfl (hf.get 1 1 rfl)) ?_
    refine sq 12 rfl rfl (Y_move (v := .slice B s.length c) rfl (hf.get 0 0 rfl)) ?_
    refine sq 13 rfl rfl (Y_move (v := .int .i64 (i : Int)) rfl rfl) ?_
    obtain ⟨x, hx, hb⟩ := bind_inv hb
    refine sq 14 rfl rfl (Y_index (B := B) (m := s.length) (c := c) (k := .i64) (i := (i : Int)) k_sl_59_3 k_sz_3_1 rfl rfl rfl (gi_isSome encI_len rfl (hS1.rf (i := 0) rfl) hx) (getI_nn hx) (getI_ltI hx rfl)) ?_
    refine sq 15 rfl rfl (Y_load1 (B := B) (i := (i : Int).toNat * 1) (cs := (s.flatMap encI)) (v := .int .i64 x) k_sc_3 rfl rfl (hS1.rf (i := 0) rfl) (gi_at0 encI_len hx rfl)) ?_
    refine sq 16 rfl rfl (Y_eq (k := .i64) (a := v_) (b := x) rfl rfl rfl) ?_
    refine rw_nil ?_
    refine cw_cond (b := (v_ == x)) rfl (fun hb1 => ?_) (fun hb1 => ?_)
    · skip
      have hF2 := ct hb hb1
      refine cw_seq ?_
      refine cw_region ?_
      refine sq 17 rfl rfl (Y_move (v := .int .i64 (i : Int)) rfl rfl) ?_
      refine sq 4 rfl rfl (Y_assign (v := .int .i64 (i : Int)) rfl rfl) ?_
      refine rw_nil ?_
      refine cw_ret ?_
      obtain rfl := some_inj hF2
      obtain rfl := some_inj hL1
      obtain rfl := some_inj hF1
      exact ret1 Try.results337 (v1 := .int .i64 (i : Int)) (resAt_tmp rfl) ⟨rfl, (ST.subR (R' := []) (hS1.sel [] rfl rfl) (fun _ h => by cases h))⟩
    · skip
      have hF3 := cf' hb hb1
      refine cw_skip ?_
      refine cw_region ?_
      refine sq 18 rfl rfl (Y_add (k := .i64) (a := (i : Int)) (b := 1) rfl (hf.get 8 3 rfl) rfl) ?_
      refine sq 8 rfl rfl (Y_move (v := .int .i64 (IntKind.i64.wrap ((i : Int) + 1))) rfl rfl) ?_
      refine rw_nil ?_
      obtain rfl := some_inj hF3
      exact ⟨k_1, Nat.lt_succ_self _, i + 1, (FF.cons (hf.get 0 0 rfl) (FF.cons (hf.get 1 1 rfl) (FF.cons (hf.get 7 2 rfl) (FF.cons (congrArg (Value.int .i64) (wr_succ hlt1 hN)) FF.nil)))), (hS1.sel [] rfl rfl), (by omega), hL1⟩
  · skip
    obtain rfl : k_ = 0 := by have h := of_decide_eq_false hlt; omega
    refine cw_exit rfl ?_
    obtain rfl := some_inj hL
    refine cw_seq ?_
    refine cw_region ?_
    refine sq 4 rfl rfl (Y_assign (v := .int .i64 (-1)) rfl rfl) ?_
    refine rw_nil ?_
    refine cw_ret ?_
    obtain rfl := some_inj hF1
    exact ret1 Try.results337 (v1 := .int .i64 (-1)) (resAt_tmp rfl) ⟨rfl, (ST.subR (R' := []) (hS1.sel [] rfl rfl) (fun _ h => by cases h))⟩

theorem c_slices_Contains_int_int (s : List Int) (v_ : Int) (B : Option Addr) (c n : Nat) (w0 : World) (hn : s.length = n) (hS : ST w0 [] w0 [] [⟨B, (s.flatMap encI)⟩]) {r_ : Bool} (hF : F_slices_Contains_int_int s v_ = some r_) :
    CV Try.prog 316 #[.slice B n c, .int .i64 v_] w0 (fun v w' => v = .bool r_ ∧ ST w0 [] w' [] []) := by
  subst hn
  unfold F_slices_Contains_int_int at hF
  refine cv_of_cw 9 Try.func316 rfl Try.ntmps316 rfl ?_
  refine cw_seq ?_
  refine cw_region ?_
  refine sq 4 rfl rfl (Y_assign (v := .bool false) rfl rfl) ?_
  refine rw_nil ?_
  refine cw_seq ?_
  refine cw_region ?_
  refine sq 5 rfl rfl (Y_move (v := .slice B s.length c) rfl rfl) ?_
  refine sq 6 rfl rfl (Y_move (v := .int .i64 v_) rfl rfl) ?_
  obtain ⟨r_1, hc, hF⟩ := bind_inv hF
  refine sc 7 rfl rfl (Yc_func (g := 337) (vs := [.slice B s.length c, .int .i64 v_]) k_call_337 rfl (mc rfl (mc rfl mn)) (c_slices_Index_int_int s v_ B c s.length _ rfl (hS.inn0 [(true, 0)] rfl) hc)) ?_
  rintro _ w_ ⟨rfl, hd⟩
  have hS1 := hS.out00 hd
  refine sq 8 rfl rfl (Y_ge (k := .i64) (a := r_1) (b := 0) rfl rfl rfl) ?_
  refine sq 4 rfl rfl (Y_assign (v := .bool (decide (0 ≤ r_1))) rfl rfl) ?_
  refine rw_nil ?_
  refine cw_ret ?_
  obtain rfl := some_inj hF
  exact ret1 Try.results316 (v1 := .bool (decide (0 ≤ r_1))) (resAt_tmp rfl) ⟨rfl, (ST.subR (R' := []) (hS1.sel [] rfl rfl) (fun _ h => by cases h))⟩

theorem c_impl_meet_1 (q : Int) (p : TGate) (B : Option Addr) (w0 : World)  (hS : ST w0 [] w0 [] [⟨B, [.int .i64 p.Kind, .int .i64 p.A, .int .i64 p.B]⟩]) {r_ : Bool} (hF : F_impl_meet_1 q p = some r_) :
    CV Try.prog 340 #[.int .i64 q, pt B 0] w0 (fun v w' => v = .bool r_ ∧ ST w0 [] w' [] []) := by
  unfold F_impl_meet_1 at hF
  refine cv_of_cw 8 Try.func340 rfl Try.ntmps340 rfl ?_
  refine cw_seq ?_
  refine cw_region ?_
  refine sq 3 rfl rfl (Y_assign (v := .bool false) rfl rfl) ?_
  refine rw_nil ?_
  refine cw_seq ?_
  refine cw_region ?_
  refine sq 4 rfl rfl (Y_loadA (B := B) (i := 0) (cs := [.int .i64 p.Kind, .int .i64 p.A, .int .i64 p.B]) (vs := [.int .i64 p.Kind, .int .i64 p.A, .int .i64 p.B]) k_ag_213 k_sz_213_3 rfl rfl (hS.rf (i := 0) rfl) rfl rfl) ?_
  obtain ⟨r_1, hc, hF⟩ := bind_inv hF
  refine sc 5 rfl rfl (Yc_func (g := 339) (vs := [.agg #[.int .i64 p.Kind, .int .i64 p.A, .int .i64 p.B]]) k_call_339 rfl (mc rfl mn) (c_impl_qubitsOf p _  (hS.inn0 [] rfl) hc)) ?_
  rintro _ w_ ⟨B1, c, rfl, hd⟩
  have hS1 := hS.out0 hd
  refine sq 6 rfl rfl (Y_move (v := .int .i64 q) rfl rfl) ?_
  obtain ⟨r_2, hc1, hF⟩ := bind_inv hF
  refine sc 7 rfl rfl (Yc_func (g := 316) (vs := [.slice B1 r_1.length c, .int .i64 q]) k_call_316 rfl (mc rfl (mc rfl mn)) (c_slices_Contains_int_int r_1 q B1 c r_1.length _ rfl (hS1.inn0 [(false, 0)] rfl) hc1)) ?_
  rintro _ w_1 ⟨rfl, hd1⟩
  have hS2 := hS1.out00 hd1
  refine sq 3 rfl rfl (Y_assign (v := .bool r_2) rfl rfl) ?_
  refine rw_nil ?_
  refine cw_ret ?_
  obtain rfl := some_inj hF
  exact ret1 Try.results340 (v1 := .bool r_2) (resAt_tmp rfl) ⟨rfl, (ST.subR (R' := []) (hS2.sel [] rfl rfl) (fun _ h => by cases h))⟩

theorem c_impl_meet (g : TGate) (h : TGate)  (w0 : World)  (hS : ST w0 [] w0 [] []) {r_ : Bool} (hF : F_impl_meet g h = some r_) :
    CV Try.prog 319 #[.agg #[.int .i64 g.Kind, .int .i64 g.A, .int .i64 g.B], .agg #[.int .i64 h.Kind, .int .i64 h.A, .int .i64 h.B]] w0 (fun v w' => v = .bool r_ ∧ ST w0 [] w' [] []) := by
  unfold F_impl_meet at hF
  refine cv_of_cw 9 Try.func319 rfl Try.ntmps319 rfl ?_
  refine cw_seq ?_
  refine cw_region ?_
  refine ss 2 rfl rfl (Ys_box (T := 213) (v := .agg #[.int .i64 g.Kind, .int .i64 g.A, .int .i64 g.B]) (cs := [.int .i64 g.Kind, .int .i64 g.A, .int .i64 g.B]) (m := 3) hS rfl rfl rfl rfl) ?_
  rintro _ w_ ⟨b, rfl, hS1⟩
  refine ss 3 rfl rfl (Ys_box (T := 213) (v := .agg #[.int .i64 h.Kind, .int .i64 h.A, .int .i64 h.B]) (cs := [.int .i64 h.Kind, .int .i64 h.A, .int .i64 h.B]) (m := 3) hS1 rfl rfl rfl rfl) ?_
  rintro _ w_1 ⟨b1, rfl, hS2⟩
  have hS2 : ST w0 [] _ [⟨some ⟨b, 0, none⟩, 213, [.int .i64 g.Kind, .int .i64 g.A, .int .i64 g.B], 3⟩, ⟨some ⟨b1, 0, none⟩, 213, [.int .i64 h.Kind, .int .i64 h.A, .int .i64 h.B], 3⟩] [] := hS2
  refine sq 4 rfl rfl (Y_assign (v := .bool false) rfl rfl) ?_
  refine rw_nil ?_
  refine cw_seq ?_
  refine cw_region ?_
  refine sq 5 rfl rfl (Y_loadA (B := some ⟨b, 0, none⟩) (i := 0) (cs := [.int .i64 g.Kind, .int .i64 g.A, .int .i64 g.B]) (vs := [.int .i64 g.Kind, .int .i64 g.A, .int .i64 g.B]) k_ag_213 k_sz_213_3 rfl rfl (hS2.cf (i := 0) rfl) rfl rfl) ?_
  obtain ⟨r_1, hc, hF⟩ := bind_inv hF
  refine sc 6 rfl rfl (Yc_func (g := 339) (vs := [.agg #[.int .i64 g.Kind, .int .i64 g.A, .int .i64 g.B]]) k_call_339 rfl (mc rfl mn) (c_impl_qubitsOf g _  (hS2.inn0 [] rfl) hc)) ?_
  rintro _ w_2 ⟨B, c, rfl, hd⟩
  have hS3 := hS2.out0 hd
  have hS3 : ST w0 [] _ [⟨some ⟨b, 0, none⟩, 213, [.int .i64 g.Kind, .int .i64 g.A, .int .i64 g.B], 3⟩, ⟨some ⟨b1, 0, none⟩, 213, [.int .i64 h.Kind, .int .i64 h.A, .int .i64 h.B], 3⟩, ⟨B, 3, (r_1.flatMap encI), c * 1⟩] [] := hS3
  refine sq 7 rfl rfl (Y_makeFunc (cs := [pt (some ⟨b1, 0, none⟩) 0]) rfl rfl (mc rfl mn)) ?_
  obtain ⟨r_2, hc1, hF⟩ := bind_inv hF
  refine sc 8 rfl rfl (Yc_func (g := 224) (vs := [.slice B r_1.length c, .func (.func 340) #[] #[pt (some ⟨b1, 0, none⟩) 0]]) k_call_224 rfl (mc rfl (mc rfl mn)) (c_slices_ContainsFunc_int_int r_1 (fun x_0 => F_impl_meet_1 x_0 h) B c r_1.length 340 (#[pt (some ⟨b1, 0, none⟩) 0]) [⟨some ⟨b1, 0, none⟩, [.int .i64 h.Kind, .int .i64 h.A, .int .i64 h.B]⟩] _ rfl k_call_340 (fun w hw x_0 y_0 h_ => c_impl_meet_1 x_0 h (some ⟨b1, 0, none⟩) w  hw h_) (hS3.inn0 [(false, 2), (false, 1)] rfl) hc1)) ?_
  rintro _ w_3 ⟨rfl, hd1⟩
  have hS4 := hS3.out00 hd1
  have hS4 : ST w0 [] _ [⟨some ⟨b, 0, none⟩, 213, [.int .i64 g.Kind, .int .i64 g.A, .int .i64 g.B], 3⟩, ⟨some ⟨b1, 0, none⟩, 213, [.int .i64 h.Kind, .int .i64 h.A, .int .i64 h.B], 3⟩, ⟨B, 3, (r_1.flatMap encI), c * 1⟩] [] := hS4
  refine sq 4 rfl rfl (Y_assign (v := .bool r_2) rfl rfl) ?_
  refine rw_nil ?_
  refine cw_ret ?_
  obtain rfl := some_inj hF
  exact ret1 Try.results319 (v1 := .bool r_2) (resAt_tmp rfl) ⟨rfl, (ST.subR (R' := []) (hS4.sel [] rfl rfl) (fun _ h => by cases h))⟩

theorem c_impl_routing_isReady (r_ : Trouting) (k_ : Int) (B : Option Addr) (c n : Nat) (B1 : Option Addr) (c1 n1 : Nat) (B2 : Option Addr) (c2 n2 : Nat) (B3 : Option Addr) (c3 n3 : Nat) (w0 : World) (hn : r_.g.Edges.length = n) (hn1 : r_.c.Gates.length = n1) (hq : n1 ≤ c1) (hn2 : r_.place.length = n2) (hn3 : r_.done.length = n3) (hS : ST w0 [] w0 [] [⟨B, (r_.g.Edges.flatMap enc_Edge)⟩, ⟨B1, (r_.c.Gates.flatMap enc_Gate)⟩, ⟨B2, (r_.place.flatMap encI)⟩, ⟨B3, (r_.done.flatMap encB)⟩]) {r_1 : Bool} (hF : F_impl_routing_isReady r_ k_ = some r_1) :
    CV Try.prog 253 #[.agg #[.int .i64 r_.g.Nodes, .slice B n c, .int .i64 r_.c.Qubits, .slice B1 n1 c1, .slice B2 n2 c2, .slice B3 n3 c3], .int .i64 k_] w0 (fun v w' => v = .bool r_1 ∧ ST w0 [] w' [] []) := by
  subst hn
  subst hn1
  subst hn2
  subst hn3
  unfold F_impl_routing_isReady at hF
  refine cv_of_cw 50 Try.func253 rfl Try.ntmps253 rfl ?_
  refine cw_seq ?_
  refine cw_region ?_
  refine ss 2 rfl rfl (Ys_box (T := 201) (v := .agg #[.int .i64 r_.g.Nodes, .slice B r_.g.Edges.length c, .int .i64 r_.c.Qubits, .slice B1 r_.c.Gates.length c1, .slice B2 r_.place.length c2, .slice B3 r_.done.length c3]) (cs := [.int .i64 r_.g.Nodes, .slice B r_.g.Edges.length c, .int .i64 r_.c.Qubits, .slice B1 r_.c.Gates.length c1, .slice B2 r_.place.length c2, .slice B3 r_.done.length c3]) (m := 6) hS rfl rfl rfl rfl) ?_
  rintro _ w_ ⟨b, rfl, hS1⟩
  refine sq 4 rfl rfl (Y_assign (v := .bool false) rfl rfl) ?_
  refine rw_nil ?_
  refine cw_seq ?_
  refine cw_seq ?_
  refine cw_region ?_
  refine sq 7 rfl rfl (Y_move (v := .int .i64 k_) rfl rfl) ?_
  refine sq 8 rfl rfl (Y_fieldAddr (B := some ⟨b, 0, none⟩) (i := 0) (s := 1) k_fd_201_1_2_104 k_sz_104_2 rfl rfl) ?_
  refine sq 9 rfl rfl (Y_fieldAddr (B := some ⟨b, 0, none⟩) (i := 2) (s := 0) k_fd_104_1_1_102 k_sz_102_1 rfl rfl) ?_
  refine sq 10 rfl rfl (Y_load1 (B := some ⟨b, 0, none⟩) (i := 3) (cs := [.int .i64 r_.g.Nodes, .slice B r_.g.Edges.length c, .int .i64 r_.c.Qubits, .slice B1 r_.c.Gates.length c1, .slice B2 r_.place.length c2, .slice B3 r_.done.length c3]) (v := .slice B1 r_.c.Gates.length c1) k_sc_102 rfl rfl (hS1.cf (i := 0) rfl) rfl) ?_
  refine sq 11 rfl rfl (Y_len (B := B1) (m := r_.c.Gates.length) (c := c1) k_sl_102_213 rfl rfl) ?_
  refine sq 12 rfl rfl (Y_sub (k := .i64) (a := (r_.c.Gates.length : Int)) (b := 1) rfl rfl rfl) ?_
  obtain ⟨r_2, hc, hF⟩ := bind_inv hF
  refine sc 13 rfl rfl (Yc_func (g := 130) (vs := [.int .i64 k_, .int .i64 0, .int .i64 (IntKind.i64.wrap ((r_.c.Gates.length : Int) - 1))]) k_call_130 rfl (mc rfl (mc rfl (mc rfl mn))) (c_impl_within k_ 0 (IntKind.i64.wrap ((r_.c.Gates.length : Int) - 1)) _  (hS1.inn0 [] rfl) hc)) ?_
  rintro _ w_1 ⟨rfl, hd⟩
  have hS2 := hS1.out00 hd
  refine sq 14 rfl rfl (Y_not (p := r_2) rfl rfl) ?_
  refine sq 15 rfl rfl (Y_move (v := .bool (!r_2)) rfl rfl) ?_
  refine sgq 16 (B := (!(!r_2))) (v := pt (some ⟨b, 0, none⟩) 5) rfl rfl (wt_f (gd_of (t := 15) (by kernel_rfl) rfl)) (fun hg => (Y_fieldAddr (B := some ⟨b, 0, none⟩) (i := 0) (s := 0) k_fd_201_3_5_199 k_sz_199_1 rfl rfl)) ?_
  refine sgq 17 (B := (!(!r_2))) (v := .slice B3 r_.done.length c3) rfl rfl (wt_f (gd_of (t := 15) (by kernel_rfl) rfl)) (fun hg1 => (Y_load1 (B := some ⟨b, 0, none⟩) (i := 5) (cs := [.int .i64 r_.g.Nodes, .slice B r_.g.Edges.length c, .int .i64 r_.c.Qubits, .slice B1 r_.c.Gates.length c1, .slice B2 r_.place.length c2, .slice B3 r_.done.length c3]) (v := .slice B3 r_.done.length c3) k_sc_199 rfl (gv_of (B := (!(!r_2))) (v := pt (some ⟨b, 0, none⟩) 5) hg1) (hS2.cf (i := 0) rfl) rfl)) ?_
  refine sgq 18 (B := (!(!r_2))) (v := .int .i64 k_) rfl rfl (wt_f (gd_of (t := 15) (by kernel_rfl) rfl)) (fun hg2 => (Y_move (v := .int .i64 k_) rfl rfl)) ?_
  obtain ⟨x, hx, hF⟩ := bind_inv hF
  refine sgq 19 (B := (!(!r_2))) (v := pt B3 (k_.toNat * 1)) rfl rfl (wt_f (gd_of (t := 15) (by kernel_rfl) rfl)) (fun hg3 => (Y_index (B := B3) (m := r_.done.length) (c := c3) (k := .i64) (i := k_) k_sl_199_4 k_sz_4_1 rfl (gv_of (B := (!(!r_2))) (v := .slice B3 r_.done.length c3) hg3) (gv_of (B := (!(!r_2))) (v := .int .i64 k_) hg3) (gi_isSome encB_len rfl (hS2.rf (i := 3) rfl) (gb_inv hx hg3)) (getI_nn (gb_inv hx hg3)) (getI_ltI (gb_inv hx hg3) rfl))) ?_
  refine sgq 20 (B := (!(!r_2))) (v := .bool x) rfl rfl (wt_f (gd_of (t := 15) (by kernel_rfl) rfl)) (fun hg4 => (Y_load1 (B := B3) (i := k_.toNat * 1) (cs := (r_.done.flatMap encB)) (v := .bool x) k_sc_4 rfl (gv_of (B := (!(!r_2))) (v := pt B3 (k_.toNat * 1)) hg4) (hS2.rf (i := 3) rfl) (gi_at0 encB_len (gb_inv hx hg4) rfl))) ?_
  refine sq 21 rfl rfl (Y_or (b := (!r_2)) (z := x) rfl rfl rfl rfl) ?_
  refine rw_nil ?_
  refine cw_cond (b := ((!r_2) || x)) rfl (fun hb => ?_) (fun hb => ?_)
  · skip
    have hF1 := ct hF hb
    refine cw_seq ?_
    refine cw_region ?_
    refine sq 4 rfl rfl (Y_assign (v := .bool false) rfl rfl) ?_
    refine rw_nil ?_
    refine cw_ret ?_
    obtain rfl := some_inj hF1
    exact ret1 Try.results253 (v1 := .bool false) (resAt_tmp rfl) ⟨rfl, (ST.subR (R' := []) (hS2.sel [] rfl rfl) (fun _ h => by cases h))⟩
  · skip
    have hF2 := cf' hF hb
    refine cw_skip ?_
    refine cw_seq ?_
    refine cw_seq ?_
    refine cw_region ?_
    refine sq 22 rfl rfl (Y_fieldAddr (B := some ⟨b, 0, none⟩) (i := 0) (s := 1) k_fd_201_1_2_104 k_sz_104_2 rfl rfl) ?_
    refine sq 23 rfl rfl (Y_fieldAddr (B := some ⟨b, 0, none⟩) (i := 2) (s := 0) k_fd_104_1_1_102 k_sz_102_1 rfl rfl) ?_
    refine sq 24 rfl rfl (Y_load1 (B := some ⟨b, 0, none⟩) (i := 3) (cs := [.int .i64 r_.g.Nodes, .slice B r_.g.Edges.length c, .int .i64 r_.c.Qubits, .slice B1 r_.c.Gates.length c1, .slice B2 r_.place.length c2, .slice B3 r_.done.length c3]) (v := .slice B1 r_.c.Gates.length c1) k_sc_102 rfl rfl (hS2.cf (i := 0) rfl) rfl) ?_
    refine sq 25 rfl rfl (Y_move (v := .int .i64 k_) rfl rfl) ?_
    obtain ⟨hsl, hF2⟩ := chk_inv hF2
    have hcap : r_.c.Gates.length ≤ c1 := hq
    have hv : (List.take k_.toNat r_.c.Gates).length = k_.toNat := (take_len rfl (by omega))
    have hq1 : k_.toNat ≤ c1 := by omega
    have ho : Org w0 [] [⟨B, (r_.g.Edges.flatMap enc_Edge)⟩, ⟨B1, (r_.c.Gates.flatMap enc_Gate)⟩, ⟨B2, (r_.place.flatMap encI)⟩, ⟨B3, (r_.done.flatMap encB)⟩] [⟨B1, ((List.take k_.toNat r_.c.Gates).flatMap enc_Gate)⟩] := org_view enc_Gate_len (q := c1) (org_mem (i := 1) rfl) (sv_zero _ _ _).symm rfl
    have hS3 : ST w0 [] _ [⟨some ⟨b, 0, none⟩, 201, [.int .i64 r_.g.Nodes, .slice B r_.g.Edges.length c, .int .i64 r_.c.Qubits, .slice B1 r_.c.Gates.length c1, .slice B2 r_.place.length c2, .slice B3 r_.done.length c3], 6⟩] [⟨B1, ((List.take k_.toNat r_.c.Gates).flatMap enc_Gate)⟩, ⟨B, (r_.g.Edges.flatMap enc_Edge)⟩, ⟨B1, (r_.c.Gates.flatMap enc_Gate)⟩, ⟨B2, (r_.place.flatMap encI)⟩, ⟨B3, (r_.done.flatMap encB)⟩] := ST.view enc_Gate_len hS2 (i := 1) rfl (lo := 0) (h := k_.toNat) (q := c1) (by omega) (by omega) (sv_zero _ _ _).symm rfl
    refine sq 26 rfl rfl (Y_slice0 (B := B1) (m := r_.c.Gates.length) (c := c1) (h := k_.toNat) (s := 3) k_sl_102_213 k_sz_213_3 rfl rfl (bnd_some rfl (nn_toNat (by omega))) (by omega)) ?_
    refine sq 27 rfl rfl (Y_len (B := B1) (m := k_.toNat) (c := c1) k_sl_102_213 rfl rfl) ?_
    refine sq 28 rfl rfl (Y_move (v := .int .i64 0) rfl rfl) ?_
    refine rw_nil ?_
    obtain ⟨hN, hF2⟩ := chk_inv hF2
    obtain ⟨z, hz, hF3⟩ := bind_inv hF2
    refine cw_block ?_
    refine cw_loop (fun k f w => ∃ (i : Nat), FF f [(1, .int .i64 k_), (2, pt (some ⟨b, 0, none⟩) 0), (26, .slice B1 k_.toNat c1), (27, .int .i64 (k_.toNat : Int)), (28, .int .i64 (i : Int))] ∧ ST w0 [] w [⟨some ⟨b, 0, none⟩, 201, [.int .i64 r_.g.Nodes, .slice B r_.g.Edges.length c, .int .i64 r_.c.Qubits, .slice B1 r_.c.Gates.length c1, .slice B2 r_.place.length c2, .slice B3 r_.done.length c3], 6⟩] [⟨B1, ((List.take k_.toNat r_.c.Gates).flatMap enc_Gate)⟩, ⟨B, (r_.g.Edges.flatMap enc_Edge)⟩, ⟨B1, (r_.c.Gates.flatMap enc_Gate)⟩, ⟨B2, (r_.place.flatMap encI)⟩, ⟨B3, (r_.done.flatMap encB)⟩] ∧ i + k = k_.toNat ∧ forX (F_impl_routing_isReady_l1 k_ r_) k i () = some z) k_.toNat ⟨0, (FF.cons rfl (FF.cons rfl (FF.cons rfl (FF.cons rfl (FF.cons rfl FF.nil))))), (hS3.sel [0] rfl rfl), Nat.zero_add _, hz⟩ ?_
    rintro k_1 f w ⟨i, hf, hS4, hik, hL⟩
    refine cw_seq ?_
    refine cw_region ?_
    refine sq 29 rfl rfl (Y_lt (k := .i64) (a := (i : Int)) (b := (k_.toNat : Int)) rfl (hf.get 28 4 rfl) (hf.get 27 3 rfl)) ?_
    refine rw_nil ?_
    refine cw_seq ?_
    refine cw_cond (b := (decide ((i : Int) < (k_.toNat : Int)))) rfl (fun hlt => ?_) (fun hlt => ?_)
    · skip
      have hlt1 : i < k_.toNat := by have h := of_decide_eq_true hlt; omega
      obtain ⟨k_2, rfl⟩ : ∃ k2, k_1 = k2 + 1 := ⟨k_1 - 1, by omega⟩
      obtain ⟨y, hb1, hL1⟩ := forX_go hL
      unfold F_impl_routing_isReady_l1 at hb1
      refine cw_skip ?_
      refine cw_seq ?_
      refine cw_block ?_
      refine cw_seq ?_
      refine cw_region ?_
      refine sq 30 rfl rfl (Y_move (v := .int .i64 (i : Int)) rfl (hf.get 28 4 rfl)) ?_
      obtain ⟨x1, hx1, hb1⟩ := bind_inv hb1
      refine sq 31 rfl rfl (Y_index (B := B1) (m := k_.toNat) (c := c1) (k := .i64) (i := (i : Int)) k_sl_102_213 k_sz_213_3 rfl (hf.get 26 2 rfl) (hf.get 28 4 rfl) (gi_isSome enc_Gate_len rfl (hS4.rf (i := 0) rfl) hx1) (getI_nn hx1) (getI_ltI hx1 hv)) ?_
      refine sq 32 rfl rfl (Y_loadA (B := B1) (i := (i : Int).toNat * 3) (cs := ((List.take k_.toNat r_.c.Gates).flatMap enc_Gate)) (vs := [.int .i64 x1.Kind, .int .i64 x1.A, .int .i64 x1.B]) k_ag_213 k_sz_213_3 rfl rfl (hS4.rf (i := 0) rfl) (enc_Gate_len x1) (gi_seg enc_Gate_len hx1)) ?_
      refine ss 6 rfl rfl (Ys_alloc (T := 213) (cs := [.int .i64 0, .int .i64 0, .int .i64 0]) (m := 3) hS4 k_zero_213 rfl rfl rfl) ?_
      rintro _ w_2 ⟨b1, rfl, hS5⟩
      have hS5 : ST w0 [] _ [⟨some ⟨b, 0, none⟩, 201, [.int .i64 r_.g.Nodes, .slice B r_.g.Edges.length c, .int .i64 r_.c.Qubits, .slice B1 r_.c.Gates.length c1, .slice B2 r_.place.length c2, .slice B3 r_.done.length c3], 6⟩, ⟨some ⟨b1, 0, none⟩, 213, [.int .i64 0, .int .i64 0, .int .i64 0], 3⟩] [⟨B1, ((List.take k_.toNat r_.c.Gates).flatMap enc_Gate)⟩, ⟨B, (r_.g.Edges.flatMap enc_Edge)⟩, ⟨B1, (r_.c.Gates.flatMap enc_Gate)⟩, ⟨B2, (r_.place.flatMap encI)⟩, ⟨B3, (r_.done.flatMap encB)⟩] := hS5
      refine sq 5 rfl rfl (Y_assign (v := .int .i64 (i : Int)) rfl rfl) ?_
      refine ss0 rfl rfl (Ys_store (i := 1) (s := 3) (B := some ⟨b1, 0, none⟩) (T' := 213) (v := .agg #[.int .i64 x1.Kind, .int .i64 x1.A, .int .i64 x1.B]) (vs := [.int .i64 x1.Kind, .int .i64 x1.A, .int .i64 x1.B]) (k := 0) (cs' := [.int .i64 x1.Kind, .int .i64 x1.A, .int .i64 x1.B]) hS5 k_sz_213_3 rfl rfl rfl rfl rfl rfl rfl (Nat.le_of_ble_eq_true rfl) rfl rfl) ?_
      rintro _ w_3 ⟨rfl, hS6⟩
      have hS6 : ST w0 [] _ [⟨some ⟨b, 0, none⟩, 201, [.int .i64 r_.g.Nodes, .slice B r_.g.Edges.length c, .int .i64 r_.c.Qubits, .slice B1 r_.c.Gates.length c1, .slice B2 r_.place.length c2, .slice B3 r_.done.length c3], 6⟩, ⟨some ⟨b1, 0, none⟩, 213, [.int .i64 x1.Kind, .int .i64 x1.A, .int .i64 x1.B], 3⟩] [⟨B1, ((List.take k_.toNat r_.c.Gates).flatMap enc_Gate)⟩, ⟨B, (r_.g.Edges.flatMap enc_Edge)⟩, ⟨B1, (r_.c.Gates.flatMap enc_Gate)⟩, ⟨B2, (r_.place.flatMap encI)⟩, ⟨B3, (r_.done.flatMap encB)⟩] := hS6
      refine rw_nil ?_
      refine cw_seq ?_
      obtain ⟨x2, hx2, hb1⟩ := bind_inv hb1
      obtain ⟨x3, hx3, hb1⟩ := bind_inv hb1
      obtain ⟨r_3, hc1, hb1⟩ := bind_inv hb1
      refine ra_start (ST.sel hS6 [0, 1] rfl rfl).fn (by kernel_rfl) ?_
      have hS8 := hS6.drew
      refine ra_q 0 33 (v := pt (some ⟨b, 0, none⟩) 5) rfl rfl rfl (by kernel_rfl) (by kernel_rfl) (by kernel_rfl) (ST.sel hS8 [0, 1] rfl rfl) (fun w' hw' => (Y_fieldAddr (B := some ⟨b, 0, none⟩) (i := 0) (s := 0) k_fd_201_3_5_199 k_sz_199_1 rfl (hf.get 2 1 rfl))) ?_
      refine ra_q 1 34 (v := .slice B3 r_.done.length c3) rfl rfl rfl (by kernel_rfl) (by kernel_rfl) (by kernel_rfl) (ST.sel hS8 [0, 1] rfl rfl) (fun w' hw' => (Y_load1 (B := some ⟨b, 0, none⟩) (i := 5) (cs := [.int .i64 r_.g.Nodes, .slice B r_.g.Edges.length c, .int .i64 r_.c.Qubits, .slice B1 r_.c.Gates.length c1, .slice B2 r_.place.length c2, .slice B3 r_.done.length c3]) (v := .slice B3 r_.done.length c3) k_sc_199 rfl rfl (ST.cf hw' (i := 0) rfl) rfl)) ?_
      refine ra_q 2 35 (v := .int .i64 (i : Int)) rfl rfl rfl (by kernel_rfl) (by kernel_rfl) (by kernel_rfl) (ST.sel hS8 [0, 1] rfl rfl) (fun w' hw' => (Y_move (v := .int .i64 (i : Int)) rfl rfl)) ?_
      refine ra_q 3 36 (v := pt B3 ((i : Int).toNat * 1)) rfl rfl rfl (by kernel_rfl) (by kernel_rfl) (by kernel_rfl) (ST.sel hS8 [0, 1] rfl rfl) (fun w' hw' => (Y_index (B := B3) (m := r_.done.length) (c := c3) (k := .i64) (i := (i : Int)) k_sl_199_4 k_sz_4_1 rfl rfl rfl (gi_isSome encB_len rfl (ST.rf hw' (i := 4) rfl) hx2) (getI_nn hx2) (getI_ltI hx2 rfl))) ?_
      refine ra_q 4 37 (v := .bool x2) rfl rfl rfl (by kernel_rfl) (by kernel_rfl) (by kernel_rfl) (ST.sel hS8 [0, 1] rfl rfl) (fun w' hw' => (Y_load1 (B := B3) (i := (i : Int).toNat * 1) (cs := (r_.done.flatMap encB)) (v := .bool x2) k_sc_4 rfl rfl (ST.rf hw' (i := 4) rfl) (gi_at0 encB_len hx2 rfl))) ?_
      refine ra_q 5 38 (v := .bool (!x2)) rfl rfl rfl (by kernel_rfl) (by kernel_rfl) (by kernel_rfl) (ST.sel hS8 [0, 1] rfl rfl) (fun w' hw' => (Y_not (p := x2) rfl rfl)) ?_
      refine ra_q 6 39 (v := .bool (!x2)) rfl rfl rfl (by kernel_rfl) (by kernel_rfl) (by kernel_rfl) (ST.sel hS8 [0, 1] rfl rfl) (fun w' hw' => (Y_move (v := .bool (!x2)) rfl rfl)) ?_
      refine ra_gq 7 40 (B := (!x2)) (v := .agg #[.int .i64 x1.Kind, .int .i64 x1.A, .int .i64 x1.B]) rfl rfl rfl (wt_t (gd_of (t := 39) (by kernel_rfl) rfl)) (by kernel_rfl) (by kernel_rfl) (by kernel_rfl) (ST.sel hS8 [0, 1] rfl rfl) (fun hg5 w' hw' => (Y_loadA (B := some ⟨b1, 0, none⟩) (i := 0) (cs := [.int .i64 x1.Kind, .int .i64 x1.A, .int .i64 x1.B]) (vs := [.int .i64 x1.Kind, .int .i64 x1.A, .int .i64 x1.B]) k_ag_213 k_sz_213_3 rfl rfl (ST.cf hw' (i := 1) rfl) rfl rfl)) ?_
      refine ra_gq 8 41 (B := (!x2)) (v := pt (some ⟨b, 0, none⟩) 2) rfl rfl rfl (wt_t (gd_of (t := 39) (by kernel_rfl) rfl)) (by kernel_rfl) (by kernel_rfl) (by kernel_rfl) (ST.sel hS8 [0, 1] rfl rfl) (fun hg6 w' hw' => (Y_fieldAddr (B := some ⟨b, 0, none⟩) (i := 0) (s := 1) k_fd_201_1_2_104 k_sz_104_2 rfl (hf.get 2 1 rfl))) ?_
      refine ra_gq 9 42 (B := (!x2)) (v := pt (some ⟨b, 0, none⟩) 3) rfl rfl rfl (wt_t (gd_of (t := 39) (by kernel_rfl) rfl)) (by kernel_rfl) (by kernel_rfl) (by kernel_rfl) (ST.sel hS8 [0, 1] rfl rfl) (fun hg7 w' hw' => (Y_fieldAddr (B := some ⟨b, 0, none⟩) (i := 2) (s := 0) k_fd_104_1_1_102 k_sz_102_1 rfl (gv_of (B := (!x2)) (v := pt (some ⟨b, 0, none⟩) 2) hg7))) ?_
      refine ra_gq 10 43 (B := (!x2)) (v := .slice B1 r_.c.Gates.length c1) rfl rfl rfl (wt_t (gd_of (t := 39) (by kernel_rfl) rfl)) (by kernel_rfl) (by kernel_rfl) (by kernel_rfl) (ST.sel hS8 [0, 1] rfl rfl) (fun hg8 w' hw' => (Y_load1 (B := some ⟨b, 0, none⟩) (i := 3) (cs := [.int .i64 r_.g.Nodes, .slice B r_.g.Edges.length c, .int .i64 r_.c.Qubits, .slice B1 r_.c.Gates.length c1, .slice B2 r_.place.length c2, .slice B3 r_.done.length c3]) (v := .slice B1 r_.c.Gates.length c1) k_sc_102 rfl (gv_of (B := (!x2)) (v := pt (some ⟨b, 0, none⟩) 3) hg8) (ST.cf hw' (i := 0) rfl) rfl)) ?_
      refine ra_gq 11 44 (B := (!x2)) (v := .int .i64 k_) rfl rfl rfl (wt_t (gd_of (t := 39) (by kernel_rfl) rfl)) (by kernel_rfl) (by kernel_rfl) (by kernel_rfl) (ST.sel hS8 [0, 1] rfl rfl) (fun hg9 w' hw' => (Y_move (v := .int .i64 k_) rfl (hf.get 1 0 rfl))) ?_
      refine ra_gq 12 45 (B := (!x2)) (v := pt B1 (k_.toNat * 3)) rfl rfl rfl (wt_t (gd_of (t := 39) (by kernel_rfl) rfl)) (by kernel_rfl) (by kernel_rfl) (by kernel_rfl) (ST.sel hS8 [0, 1] rfl rfl) (fun hg10 w' hw' => (Y_index (B := B1) (m := r_.c.Gates.length) (c := c1) (k := .i64) (i := k_) k_sl_102_213 k_sz_213_3 rfl (gv_of (B := (!x2)) (v := .slice B1 r_.c.Gates.length c1) hg10) (gv_of (B := (!x2)) (v := .int .i64 k_) hg10) (gi_isSome enc_Gate_len rfl (ST.rf hw' (i := 2) rfl) (gb_inv hx3 hg10)) (getI_nn (gb_inv hx3 hg10)) (getI_ltI (gb_inv hx3 hg10) rfl))) ?_
      refine ra_gq 13 46 (B := (!x2)) (v := .agg #[.int .i64 x3.Kind, .int .i64 x3.A, .int .i64 x3.B]) rfl rfl rfl (wt_t (gd_of (t := 39) (by kernel_rfl) rfl)) (by kernel_rfl) (by kernel_rfl) (by kernel_rfl) (ST.sel hS8 [0, 1] rfl rfl) (fun hg11 w' hw' => (Y_loadA (B := B1) (i := k_.toNat * 3) (cs := (r_.c.Gates.flatMap enc_Gate)) (vs := [.int .i64 x3.Kind, .int .i64 x3.A, .int .i64 x3.B]) k_ag_213 k_sz_213_3 rfl (gv_of (B := (!x2)) (v := pt B1 (k_.toNat * 3)) hg11) (ST.rf hw' (i := 2) rfl) (enc_Gate_len x3) (gi_seg enc_Gate_len (gb_inv hx3 hg11)))) ?_
      refine ra_all (rs := [14]) (by kernel_rfl) rfl ?_
      refine ra_gc 47 (i := 14) (B := (!x2)) (v := .bool r_3) (F := hS8.fn) rfl rfl rfl (wt_t (gd_of (t := 39) (by kernel_rfl) rfl)) hS8 (fun hg12 => (Yc_func (g := 319) (vs := [.agg #[.int .i64 x1.Kind, .int .i64 x1.A, .int .i64 x1.B], .agg #[.int .i64 x3.Kind, .int .i64 x3.A, .int .i64 x3.B]]) k_call_319 rfl (mc (gv_of (B := (!x2)) (v := .agg #[.int .i64 x1.Kind, .int .i64 x1.A, .int .i64 x1.B]) hg12) (mc (gv_of (B := (!x2)) (v := .agg #[.int .i64 x3.Kind, .int .i64 x3.A, .int .i64 x3.B]) hg12) mn)) (CV.mono (c_impl_meet x1 x3 _  (hS8.inn0 [] rfl) (gb_inv hc1 hg12)) (by rintro _ _ ⟨rfl, h⟩; exact ⟨rfl, hS8.out00 h⟩)))) ?_ ?_
      · rintro w_4 hS9
        have hS9 : ST _ _ w_4 _ _ := hS9
        refine ⟨(ST.sel hS9 [0, 1] rfl rfl), ?_⟩
        refine ra_q 15 48 (v := .bool ((!x2) && r_3)) rfl rfl rfl (by kernel_rfl) (by kernel_rfl) (by kernel_rfl) (ST.sel hS9 [0, 1] rfl rfl) (fun w' hw' => (Y_and (b := (!x2)) (z := r_3) rfl rfl rfl rfl)) ?_
        refine ra_done (by kernel_rfl) ?_
        refine cw_cond (b := ((!x2) && r_3)) rfl (fun hb2 => ?_) (fun hb2 => ?_)
        · skip
          have hF4 := ct hb1 hb2
          refine cw_seq ?_
          refine cw_region ?_
          refine sq 4 rfl rfl (Y_assign (v := .bool false) rfl rfl) ?_
          refine rw_nil ?_
          refine cw_ret ?_
          obtain rfl := some_inj hF4
          obtain rfl := some_inj hL1
          obtain rfl := some_inj hF3
          exact ret1 Try.results253 (v1 := .bool false) (resAt_tmp rfl) ⟨rfl, (ST.subR (R' := []) (hS9.sel [] rfl rfl) (fun _ h => by cases h))⟩
        · skip
          have hF5 := cf' hb1 hb2
          refine cw_skip ?_
          refine cw_region ?_
          refine sq 49 rfl rfl (Y_add (k := .i64) (a := (i : Int)) (b := 1) rfl (hf.get 28 4 rfl) rfl) ?_
          refine sq 28 rfl rfl (Y_move (v := .int .i64 (IntKind.i64.wrap ((i : Int) + 1))) rfl rfl) ?_
          refine rw_nil ?_
          obtain rfl := some_inj hF5
          exact ⟨k_2, Nat.lt_succ_self _, i + 1, (FF.cons (hf.get 1 0 rfl) (FF.cons (hf.get 2 1 rfl) (FF.cons (hf.get 26 2 rfl) (FF.cons (hf.get 27 3 rfl) (FF.cons (congrArg (Value.int .i64) (wr_succ hlt1 hN)) FF.nil))))), (hS9.sel [0] rfl rfl), (by omega), hL1⟩
      exact allR_nil
    · skip
      obtain rfl : k_1 = 0 := by have h := of_decide_eq_false hlt; omega
      refine cw_exit rfl ?_
      obtain rfl := some_inj hL
      refine cw_seq ?_
      refine cw_region ?_
      refine sq 4 rfl rfl (Y_assign (v := .bool true) rfl rfl) ?_
      refine rw_nil ?_
      refine cw_ret ?_
      obtain rfl := some_inj hF3
      exact ret1 Try.results253 (v1 := .bool true) (resAt_tmp rfl) ⟨rfl, (ST.subR (R' := []) (hS4.sel [] rfl rfl) (fun _ h => by cases h))⟩

theorem c_impl_routing_fits (r_ : Trouting) (k_ : Int) (B : Option Addr) (c n : Nat) (B1 : Option Addr) (c1 n1 : Nat) (B2 : Option Addr) (c2 n2 : Nat) (B3 : Option Addr) (c3 n3 : Nat) (w0 : World) (hn : r_.g.Edges.length = n) (hn1 : r_.c.Gates.length = n1) (hn2 : r_.place.length = n2) (hn3 : r_.done.length = n3) (hS : ST w0 [] w0 [] [⟨B, (r_.g.Edges.flatMap enc_Edge)⟩, ⟨B1, (r_.c.Gates.flatMap enc_Gate)⟩, ⟨B2, (r_.place.flatMap encI)⟩, ⟨B3, (r_.done.flatMap encB)⟩]) {r_1 : Bool} (hF : F_impl_routing_fits r_ k_ = some r_1) :
    CV Try.prog 254 #[.agg #[.int .i64 r_.g.Nodes, .slice B n c, .int .i64 r_.c.Qubits, .slice B1 n1 c1, .slice B2 n2 c2, .slice B3 n3 c3], .int .i64 k_] w0 (fun v w' => v = .bool r_1 ∧ ST w0 [] w' [] []) := by
  subst hn
  subst hn1
  subst hn2
  subst hn3
  unfold F_impl_routing_fits at hF
  refine cv_of_cw 33 Try.func254 rfl Try.ntmps254 rfl ?_
  refine cw_seq ?_
  refine cw_region ?_
  refine ss 2 rfl rfl (Ys_box (T := 201) (v := .agg #[.int .i64 r_.g.Nodes, .slice B r_.g.Edges.length c, .int .i64 r_.c.Qubits, .slice B1 r_.c.Gates.length c1, .slice B2 r_.place.length c2, .slice B3 r_.done.length c3]) (cs := [.int .i64 r_.g.Nodes, .slice B r_.g.Edges.length c, .int .i64 r_.c.Qubits, .slice B1 r_.c.Gates.length c1, .slice B2 r_.place.length c2, .slice B3 r_.done.length c3]) (m := 6) hS rfl rfl rfl rfl) ?_
  rintro _ w_ ⟨b, rfl, hS1⟩
  refine sq 4 rfl rfl (Y_assign (v := .bool false) rfl rfl) ?_
  refine rw_nil ?_
  refine cw_seq ?_
  refine cw_region ?_
  refine sq 6 rfl rfl (Y_fieldAddr (B := some ⟨b, 0, none⟩) (i := 0) (s := 1) k_fd_201_1_2_104 k_sz_104_2 rfl rfl) ?_
  refine sq 7 rfl rfl (Y_fieldAddr (B := some ⟨b, 0, none⟩) (i := 2) (s := 0) k_fd_104_1_1_102 k_sz_102_1 rfl rfl) ?_
  refine sq 8 rfl rfl (Y_load1 (B := some ⟨b, 0, none⟩) (i := 3) (cs := [.int .i64 r_.g.Nodes, .slice B r_.g.Edges.length c, .int .i64 r_.c.Qubits, .slice B1 r_.c.Gates.length c1, .slice B2 r_.place.length c2, .slice B3 r_.done.length c3]) (v := .slice B1 r_.c.Gates.length c1) k_sc_102 rfl rfl (hS1.cf (i := 0) rfl) rfl) ?_
  refine sq 9 rfl rfl (Y_move (v := .int .i64 k_) rfl rfl) ?_
  obtain ⟨x, hx, hF⟩ := bind_inv hF
  refine sq 10 rfl rfl (Y_index (B := B1) (m := r_.c.Gates.length) (c := c1) (k := .i64) (i := k_) k_sl_102_213 k_sz_213_3 rfl rfl rfl (gi_isSome enc_Gate_len rfl (hS1.rf (i := 1) rfl) hx) (getI_nn hx) (getI_ltI hx rfl)) ?_
  refine sq 11 rfl rfl (Y_loadA (B := B1) (i := k_.toNat * 3) (cs := (r_.c.Gates.flatMap enc_Gate)) (vs := [.int .i64 x.Kind, .int .i64 x.A, .int .i64 x.B]) k_ag_213 k_sz_213_3 rfl rfl (hS1.rf (i := 1) rfl) (enc_Gate_len x) (gi_seg enc_Gate_len hx)) ?_
  refine ss 5 rfl rfl (Ys_alloc (T := 213) (cs := [.int .i64 0, .int .i64 0, .int .i64 0]) (m := 3) hS1 k_zero_213 rfl rfl rfl) ?_
  rintro _ w_1 ⟨b1, rfl, hS2⟩
  have hS2 : ST w0 [] _ [⟨some ⟨b, 0, none⟩, 201, [.int .i64 r_.g.Nodes, .slice B r_.g.Edges.length c, .int .i64 r_.c.Qubits, .slice B1 r_.c.Gates.length c1, .slice B2 r_.place.length c2, .slice B3 r_.done.length c3], 6⟩, ⟨some ⟨b1, 0, none⟩, 213, [.int .i64 0, .int .i64 0, .int .i64 0], 3⟩] [⟨B, (r_.g.Edges.flatMap enc_Edge)⟩, ⟨B1, (r_.c.Gates.flatMap enc_Gate)⟩, ⟨B2, (r_.place.flatMap encI)⟩, ⟨B3, (r_.done.flatMap encB)⟩] := hS2
  refine ss0 rfl rfl (Ys_store (i := 1) (s := 3) (B := some ⟨b1, 0, none⟩) (T' := 213) (v := .agg #[.int .i64 x.Kind, .int .i64 x.A, .int .i64 x.B]) (vs := [.int .i64 x.Kind, .int .i64 x.A, .int .i64 x.B]) (k := 0) (cs' := [.int .i64 x.Kind, .int .i64 x.A, .int .i64 x.B]) hS2 k_sz_213_3 rfl rfl rfl rfl rfl rfl rfl (Nat.le_of_ble_eq_true rfl) rfl rfl) ?_
  rintro _ w_2 ⟨rfl, hS3⟩
  have hS3 : ST w0 [] _ [⟨some ⟨b, 0, none⟩, 201, [.int .i64 r_.g.Nodes, .slice B r_.g.Edges.length c, .int .i64 r_.c.Qubits, .slice B1 r_.c.Gates.length c1, .slice B2 r_.place.length c2, .slice B3 r_.done.length c3], 6⟩, ⟨some ⟨b1, 0, none⟩, 213, [.int .i64 x.Kind, .int .i64 x.A, .int .i64 x.B], 3⟩] [⟨B, (r_.g.Edges.flatMap enc_Edge)⟩, ⟨B1, (r_.c.Gates.flatMap enc_Gate)⟩, ⟨B2, (r_.place.flatMap encI)⟩, ⟨B3, (r_.done.flatMap encB)⟩] := hS3
  refine rw_nil ?_
  refine cw_seq ?_
  obtain ⟨r_2, hc, hF⟩ := bind_inv hF
  obtain ⟨x1, hx1, hF⟩ := bind_inv hF
  obtain ⟨x2, hx2, hF⟩ := bind_inv hF
  obtain ⟨r_3, hc1, hF⟩ := bind_inv hF
  refine ra_start (ST.sel hS3 [0, 1] rfl rfl).fn (by kernel_rfl) ?_
  have hS6 := hS3.drew
  refine ra_q 0 12 (v := pt (some ⟨b1, 0, none⟩) 0) rfl rfl rfl (by kernel_rfl) (by kernel_rfl) (by kernel_rfl) (ST.sel hS6 [0, 1] rfl rfl) (fun w' hw' => (Y_fieldAddr (B := some ⟨b1, 0, none⟩) (i := 0) (s := 0) k_fd_213_0_0_3 k_sz_3_1 rfl rfl)) ?_
  refine ra_q 1 13 (v := .int .i64 x.Kind) rfl rfl rfl (by kernel_rfl) (by kernel_rfl) (by kernel_rfl) (ST.sel hS6 [0, 1] rfl rfl) (fun w' hw' => (Y_load1 (B := some ⟨b1, 0, none⟩) (i := 0) (cs := [.int .i64 x.Kind, .int .i64 x.A, .int .i64 x.B]) (v := .int .i64 x.Kind) k_sc_3 rfl rfl (ST.cf hw' (i := 1) rfl) rfl)) ?_
  refine ra_all (rs := [2]) (by kernel_rfl) rfl ?_
  refine ra_c 14 (i := 2) rfl rfl rfl (Yc_func (g := 250) (vs := [.int .i64 x.Kind]) k_call_250 rfl (mc rfl mn) (c_impl_isTwo x.Kind _  (hS6.inn0 [] rfl) hc)) ?_ ?_
  · rintro _ w_3 ⟨rfl, hd⟩
    have hS7 := hS6.out00 hd
    have hS7 : ST w0 [] _ [⟨some ⟨b, 0, none⟩, 201, [.int .i64 r_.g.Nodes, .slice B r_.g.Edges.length c, .int .i64 r_.c.Qubits, .slice B1 r_.c.Gates.length c1, .slice B2 r_.place.length c2, .slice B3 r_.done.length c3], 6⟩, ⟨some ⟨b1, 0, none⟩, 213, [.int .i64 x.Kind, .int .i64 x.A, .int .i64 x.B], 3⟩] [⟨B, (r_.g.Edges.flatMap enc_Edge)⟩, ⟨B1, (r_.c.Gates.flatMap enc_Gate)⟩, ⟨B2, (r_.place.flatMap encI)⟩, ⟨B3, (r_.done.flatMap encB)⟩] := hS7
    refine ⟨(ST.sel hS7 [0, 1] rfl rfl), ?_⟩
    refine ra_q 3 15 (v := .bool (!r_2)) rfl rfl rfl (by kernel_rfl) (by kernel_rfl) (by kernel_rfl) (ST.sel hS7 [0, 1] rfl rfl) (fun w' hw' => (Y_not (p := r_2) rfl rfl)) ?_
    refine ra_q 4 16 (v := .bool (!r_2)) rfl rfl rfl (by kernel_rfl) (by kernel_rfl) (by kernel_rfl) (ST.sel hS7 [0, 1] rfl rfl) (fun w' hw' => (Y_move (v := .bool (!r_2)) rfl rfl)) ?_
    refine ra_gq 5 17 (B := (!(!r_2))) (v := pt (some ⟨b, 0, none⟩) 0) rfl rfl rfl (wt_f (gd_of (t := 16) (by kernel_rfl) rfl)) (by kernel_rfl) (by kernel_rfl) (by kernel_rfl) (ST.sel hS7 [0, 1] rfl rfl) (fun hg w' hw' => (Y_fieldAddr (B := some ⟨b, 0, none⟩) (i := 0) (s := 1) k_fd_201_0_0_100 k_sz_100_2 rfl rfl)) ?_
    refine ra_gq 6 18 (B := (!(!r_2))) (v := .agg #[.int .i64 r_.g.Nodes, .slice B r_.g.Edges.length c]) rfl rfl rfl (wt_f (gd_of (t := 16) (by kernel_rfl) rfl)) (by kernel_rfl) (by kernel_rfl) (by kernel_rfl) (ST.sel hS7 [0, 1] rfl rfl) (fun hg1 w' hw' => (Y_loadA (B := some ⟨b, 0, none⟩) (i := 0) (cs := [.int .i64 r_.g.Nodes, .slice B r_.g.Edges.length c, .int .i64 r_.c.Qubits, .slice B1 r_.c.Gates.length c1, .slice B2 r_.place.length c2, .slice B3 r_.done.length c3]) (vs := [.int .i64 r_.g.Nodes, .slice B r_.g.Edges.length c]) k_ag_100 k_sz_100_2 rfl (gv_of (B := (!(!r_2))) (v := pt (some ⟨b, 0, none⟩) 0) hg1) (ST.cf hw' (i := 0) rfl) rfl rfl)) ?_
    refine ra_gq 7 19 (B := (!(!r_2))) (v := pt (some ⟨b, 0, none⟩) 4) rfl rfl rfl (wt_f (gd_of (t := 16) (by kernel_rfl) rfl)) (by kernel_rfl) (by kernel_rfl) (by kernel_rfl) (ST.sel hS7 [0, 1] rfl rfl) (fun hg2 w' hw' => (Y_fieldAddr (B := some ⟨b, 0, none⟩) (i := 0) (s := 0) k_fd_201_2_4_59 k_sz_59_1 rfl rfl)) ?_
    refine ra_gq 8 20 (B := (!(!r_2))) (v := .slice B2 r_.place.length c2) rfl rfl rfl (wt_f (gd_of (t := 16) (by kernel_rfl) rfl)) (by kernel_rfl) (by kernel_rfl) (by kernel_rfl) (ST.sel hS7 [0, 1] rfl rfl) (fun hg3 w' hw' => (Y_load1 (B := some ⟨b, 0, none⟩) (i := 4) (cs := [.int .i64 r_.g.Nodes, .slice B r_.g.Edges.length c, .int .i64 r_.c.Qubits, .slice B1 r_.c.Gates.length c1, .slice B2 r_.place.length c2, .slice B3 r_.done.length c3]) (v := .slice B2 r_.place.length c2) k_sc_59 rfl (gv_of (B := (!(!r_2))) (v := pt (some ⟨b, 0, none⟩) 4) hg3) (ST.cf hw' (i := 0) rfl) rfl)) ?_
    refine ra_gq 9 21 (B := (!(!r_2))) (v := pt (some ⟨b1, 0, none⟩) 1) rfl rfl rfl (wt_f (gd_of (t := 16) (by kernel_rfl) rfl)) (by kernel_rfl) (by kernel_rfl) (by kernel_rfl) (ST.sel hS7 [0, 1] rfl rfl) (fun hg4 w' hw' => (Y_fieldAddr (B := some ⟨b1, 0, none⟩) (i := 0) (s := 0) k_fd_213_1_1_3 k_sz_3_1 rfl rfl)) ?_
    refine ra_gq 10 22 (B := (!(!r_2))) (v := .int .i64 x.A) rfl rfl rfl (wt_f (gd_of (t := 16) (by kernel_rfl) rfl)) (by kernel_rfl) (by kernel_rfl) (by kernel_rfl) (ST.sel hS7 [0, 1] rfl rfl) (fun hg5 w' hw' => (Y_load1 (B := some ⟨b1, 0, none⟩) (i := 1) (cs := [.int .i64 x.Kind, .int .i64 x.A, .int .i64 x.B]) (v := .int .i64 x.A) k_sc_3 rfl (gv_of (B := (!(!r_2))) (v := pt (some ⟨b1, 0, none⟩) 1) hg5) (ST.cf hw' (i := 1) rfl) rfl)) ?_
    refine ra_gq 11 23 (B := (!(!r_2))) (v := pt B2 (x.A.toNat * 1)) rfl rfl rfl (wt_f (gd_of (t := 16) (by kernel_rfl) rfl)) (by kernel_rfl) (by kernel_rfl) (by kernel_rfl) (ST.sel hS7 [0, 1] rfl rfl) (fun hg6 w' hw' => (Y_index (B := B2) (m := r_.place.length) (c := c2) (k := .i64) (i := x.A) k_sl_59_3 k_sz_3_1 rfl (gv_of (B := (!(!r_2))) (v := .slice B2 r_.place.length c2) hg6) (gv_of (B := (!(!r_2))) (v := .int .i64 x.A) hg6) (gi_isSome encI_len rfl (ST.rf hw' (i := 2) rfl) (gb_inv hx1 hg6)) (getI_nn (gb_inv hx1 hg6)) (getI_ltI (gb_inv hx1 hg6) rfl))) ?_
    refine ra_gq 12 24 (B := (!(!r_2))) (v := .int .i64 x1) rfl rfl rfl (wt_f (gd_of (t := 16) (by kernel_rfl) rfl)) (by kernel_rfl) (by kernel_rfl) (by kernel_rfl) (ST.sel hS7 [0, 1] rfl rfl) (fun hg7 w' hw' => (Y_load1 (B := B2) (i := x.A.toNat * 1) (cs := (r_.place.flatMap encI)) (v := .int .i64 x1) k_sc_3 rfl (gv_of (B := (!(!r_2))) (v := pt B2 (x.A.toNat * 1)) hg7) (ST.rf hw' (i := 2) rfl) (gi_at0 encI_len (gb_inv hx1 hg7) rfl))) ?_
    refine ra_gq 13 25 (B := (!(!r_2))) (v := pt (some ⟨b, 0, none⟩) 4) rfl rfl rfl (wt_f (gd_of (t := 16) (by kernel_rfl) rfl)) (by kernel_rfl) (by kernel_rfl) (by kernel_rfl) (ST.sel hS7 [0, 1] rfl rfl) (fun hg8 w' hw' => (Y_fieldAddr (B := some ⟨b, 0, none⟩) (i := 0) (s := 0) k_fd_201_2_4_59 k_sz_59_1 rfl rfl)) ?_
    refine ra_gq 14 26 (B := (!(!r_2))) (v := .slice B2 r_.place.length c2) rfl rfl rfl (wt_f (gd_of (t := 16) (by kernel_rfl) rfl)) (by kernel_rfl) (by kernel_rfl) (by kernel_rfl) (ST.sel hS7 [0, 1] rfl rfl) (fun hg9 w' hw' => (Y_load1 (B := some ⟨b, 0, none⟩) (i := 4) (cs := [.int .i64 r_.g.Nodes, .slice B r_.g.Edges.length c, .int .i64 r_.c.Qubits, .slice B1 r_.c.Gates.length c1, .slice B2 r_.place.length c2, .slice B3 r_.done.length c3]) (v := .slice B2 r_.place.length c2) k_sc_59 rfl (gv_of (B := (!(!r_2))) (v := pt (some ⟨b, 0, none⟩) 4) hg9) (ST.cf hw' (i := 0) rfl) rfl)) ?_
    refine ra_gq 15 27 (B := (!(!r_2))) (v := pt (some ⟨b1, 0, none⟩) 2) rfl rfl rfl (wt_f (gd_of (t := 16) (by kernel_rfl) rfl)) (by kernel_rfl) (by kernel_rfl) (by kernel_rfl) (ST.sel hS7 [0, 1] rfl rfl) (fun hg10 w' hw' => (Y_fieldAddr (B := some ⟨b1, 0, none⟩) (i := 0) (s := 0) k_fd_213_2_2_3 k_sz_3_1 rfl rfl)) ?_
    refine ra_gq 16 28 (B := (!(!r_2))) (v := .int .i64 x.B) rfl rfl rfl (wt_f (gd_of (t := 16) (by kernel_rfl) rfl)) (by kernel_rfl) (by kernel_rfl) (by kernel_rfl) (ST.sel hS7 [0, 1] rfl rfl) (fun hg11 w' hw' => (Y_load1 (B := some ⟨b1, 0, none⟩) (i := 2) (cs := [.int .i64 x.Kind, .int .i64 x.A, .int .i64 x.B]) (v := .int .i64 x.B) k_sc_3 rfl (gv_of (B := (!(!r_2))) (v := pt (some ⟨b1, 0, none⟩) 2) hg11) (ST.cf hw' (i := 1) rfl) rfl)) ?_
    refine ra_gq 17 29 (B := (!(!r_2))) (v := pt B2 (x.B.toNat * 1)) rfl rfl rfl (wt_f (gd_of (t := 16) (by kernel_rfl) rfl)) (by kernel_rfl) (by kernel_rfl) (by kernel_rfl) (ST.sel hS7 [0, 1] rfl rfl) (fun hg12 w' hw' => (Y_index (B := B2) (m := r_.place.length) (c := c2) (k := .i64) (i := x.B) k_sl_59_3 k_sz_3_1 rfl (gv_of (B := (!(!r_2))) (v := .slice B2 r_.place.length c2) hg12) (gv_of (B := (!(!r_2))) (v := .int .i64 x.B) hg12) (gi_isSome encI_len rfl (ST.rf hw' (i := 2) rfl) (gb_inv hx2 hg12)) (getI_nn (gb_inv hx2 hg12)) (getI_ltI (gb_inv hx2 hg12) rfl))) ?_
    refine ra_gq 18 30 (B := (!(!r_2))) (v := .int .i64 x2) rfl rfl rfl (wt_f (gd_of (t := 16) (by kernel_rfl) rfl)) (by kernel_rfl) (by kernel_rfl) (by kernel_rfl) (ST.sel hS7 [0, 1] rfl rfl) (fun hg13 w' hw' => (Y_load1 (B := B2) (i := x.B.toNat * 1) (cs := (r_.place.flatMap encI)) (v := .int .i64 x2) k_sc_3 rfl (gv_of (B := (!(!r_2))) (v := pt B2 (x.B.toNat * 1)) hg13) (ST.rf hw' (i := 2) rfl) (gi_at0 encI_len (gb_inv hx2 hg13) rfl))) ?_
    refine ra_all (rs := [19]) (by kernel_rfl) rfl ?_
    refine ra_gc 31 (i := 19) (B := (!(!r_2))) (v := .bool r_3) (F := hS7.fn) rfl rfl rfl (wt_f (gd_of (t := 16) (by kernel_rfl) rfl)) hS7 (fun hg14 => (Yc_func (g := 251) (vs := [.agg #[.int .i64 r_.g.Nodes, .slice B r_.g.Edges.length c], .int .i64 x1, .int .i64 x2]) k_call_251 rfl (mc (gv_of (B := (!(!r_2))) (v := .agg #[.int .i64 r_.g.Nodes, .slice B r_.g.Edges.length c]) hg14) (mc (gv_of (B := (!(!r_2))) (v := .int .i64 x1) hg14) (mc (gv_of (B := (!(!r_2))) (v := .int .i64 x2) hg14) mn))) (CV.mono (c_impl_CouplingGraph_joins r_.g x1 x2 B c r_.g.Edges.length _ rfl (hS7.inn0 [(true, 0)] rfl) (gb_inv hc1 hg14)) (by rintro _ _ ⟨rfl, h⟩; exact ⟨rfl, hS7.out00 h⟩)))) ?_ ?_
    · rintro w_4 hS8
      have hS8 : ST _ _ w_4 _ _ := hS8
      refine ⟨(ST.sel hS8 [0, 1] rfl rfl), ?_⟩
      refine ra_q 20 32 (v := .bool ((!r_2) || r_3)) rfl rfl rfl (by kernel_rfl) (by kernel_rfl) (by kernel_rfl) (ST.sel hS8 [0, 1] rfl rfl) (fun w' hw' => (Y_or (b := (!r_2)) (z := r_3) rfl rfl rfl rfl)) ?_
      refine ra_q 21 4 (v := .bool ((!r_2) || r_3)) rfl rfl rfl (by kernel_rfl) (by kernel_rfl) (by kernel_rfl) (ST.sel hS8 [0, 1] rfl rfl) (fun w' hw' => (Y_assign (v := .bool ((!r_2) || r_3)) rfl rfl)) ?_
      refine ra_done (by kernel_rfl) ?_
      refine cw_ret ?_
      obtain rfl := some_inj hF
      exact ret1 Try.results254 (v1 := .bool ((!r_2) || r_3)) (resAt_tmp rfl) ⟨rfl, (ST.subR (R' := []) (hS8.sel [] rfl rfl) (fun _ h => by cases h))⟩
    exact allR_nil
  exact allR_nil

theorem c_impl_routing_step (r_ : Trouting) (s : TRouteStep) (B : Option Addr) (c n : Nat) (B1 : Option Addr) (c1 n1 : Nat) (B2 : Option Addr) (c2 n2 : Nat) (B3 : Option Addr) (c3 n3 : Nat) (w0 : World) (hn : r_.g.Edges.length = n) (hn1 : r_.c.Gates.length = n1) (hq : n1 ≤ c1) (hn2 : r_.place.length = n2) (hn3 : r_.done.length = n3) (hS : ST w0 (bl [⟨B2, 3, (r_.place.flatMap encI), c2 * 1⟩, ⟨B3, 4, (r_.done.flatMap encB), c3 * 1⟩]) w0 [⟨B2, 3, (r_.place.flatMap encI), c2 * 1⟩, ⟨B3, 4, (r_.done.flatMap encB), c3 * 1⟩] [⟨B, (r_.g.Edges.flatMap enc_Edge)⟩, ⟨B1, (r_.c.Gates.flatMap enc_Gate)⟩]) {r_1 : Int} {m : List Int} {m1 : List Bool} (hF : F_impl_routing_step r_ s = some (r_1, m, m1)) :
    CV Try.prog 166 #[.agg #[.int .i64 r_.g.Nodes, .slice B n c, .int .i64 r_.c.Qubits, .slice B1 n1 c1, .slice B2 n2 c2, .slice B3 n3 c3], .agg #[.int .i64 s.Gate, .int .i64 s.A, .int .i64 s.B]] w0 (fun v w' => v = .int .i64 r_1 ∧ m.length = n2 ∧ m1.length = n3 ∧ ST w0 (bl [⟨B2, 3, (r_.place.flatMap encI), c2 * 1⟩, ⟨B3, 4, (r_.done.flatMap encB), c3 * 1⟩]) w' [⟨B2, 3, (m.flatMap encI), c2 * 1⟩, ⟨B3, 4, (m1.flatMap encB), c3 * 1⟩] []) := by
  subst hn
  subst hn1
  subst hn2
  subst hn3
  unfold F_impl_routing_step at hF
  refine cv_of_cw 50 Try.func166 rfl Try.ntmps166 rfl ?_
  refine cw_seq ?_
  refine cw_region ?_
  refine ss 2 rfl rfl (Ys_box (T := 201) (v := .agg #[.int .i64 r_.g.Nodes, .slice B r_.g.Edges.length c, .int .i64 r_.c.Qubits, .slice B1 r_.c.Gates.length c1, .slice B2 r_.place.length c2, .slice B3 r_.done.length c3]) (cs := [.int .i64 r_.g.Nodes, .slice B r_.g.Edges.length c, .int .i64 r_.c.Qubits, .slice B1 r_.c.Gates.length c1, .slice B2 r_.place.length c2, .slice B3 r_.done.length c3]) (m := 6) hS rfl rfl rfl rfl) ?_
  rintro _ w_ ⟨b, rfl, hS1⟩
  have hS1 : ST w0 (bl [⟨B2, 3, (r_.place.flatMap encI), c2 * 1⟩, ⟨B3, 4, (r_.done.flatMap encB), c3 * 1⟩]) _ [⟨B2, 3, (r_.place.flatMap encI), c2 * 1⟩, ⟨B3, 4, (r_.done.flatMap encB), c3 * 1⟩, ⟨some ⟨b, 0, none⟩, 201, [.int .i64 r_.g.Nodes, .slice B r_.g.Edges.length c, .int .i64 r_.c.Qubits, .slice B1 r_.c.Gates.length c1, .slice B2 r_.place.length c2, .slice B3 r_.done.length c3], 6⟩] [⟨B, (r_.g.Edges.flatMap enc_Edge)⟩, ⟨B1, (r_.c.Gates.flatMap enc_Gate)⟩] := hS1
  refine ss 3 rfl rfl (Ys_box (T := 211) (v := .agg #[.int .i64 s.Gate, .int .i64 s.A, .int .i64 s.B]) (cs := [.int .i64 s.Gate, .int .i64 s.A, .int .i64 s.B]) (m := 3) hS1 rfl rfl rfl rfl) ?_
  rintro _ w_1 ⟨b1, rfl, hS2⟩
  have hS2 : ST w0 (bl [⟨B2, 3, (r_.place.flatMap encI), c2 * 1⟩, ⟨B3, 4, (r_.done.flatMap encB), c3 * 1⟩]) _ [⟨B2, 3, (r_.place.flatMap encI), c2 * 1⟩, ⟨B3, 4, (r_.done.flatMap encB), c3 * 1⟩, ⟨some ⟨b, 0, none⟩, 201, [.int .i64 r_.g.Nodes, .slice B r_.g.Edges.length c, .int .i64 r_.c.Qubits, .slice B1 r_.c.Gates.length c1, .slice B2 r_.place.length c2, .slice B3 r_.done.length c3], 6⟩, ⟨some ⟨b1, 0, none⟩, 211, [.int .i64 s.Gate, .int .i64 s.A, .int .i64 s.B], 3⟩] [⟨B, (r_.g.Edges.flatMap enc_Edge)⟩, ⟨B1, (r_.c.Gates.flatMap enc_Gate)⟩] := hS2
  refine sq 4 rfl rfl (Y_assign (v := .int .i64 0) rfl rfl) ?_
  refine rw_nil ?_
  refine cw_seq ?_
  refine cw_block ?_
  refine cw_seq ?_
  refine cw_region ?_
  refine sq 6 rfl rfl (Y_fieldAddr (B := some ⟨b1, 0, none⟩) (i := 0) (s := 0) k_fd_211_0_0_3 k_sz_3_1 rfl rfl) ?_
  refine sq 7 rfl rfl (Y_load1 (B := some ⟨b1, 0, none⟩) (i := 0) (cs := [.int .i64 s.Gate, .int .i64 s.A, .int .i64 s.B]) (v := .int .i64 s.Gate) k_sc_3 rfl rfl (hS2.cf (i := 3) rfl) rfl) ?_
  refine sq 8 rfl rfl (Y_eq (k := .i64) (a := s.Gate) (b := (-1)) rfl rfl rfl) ?_
  refine sq 5 rfl rfl (Y_assign (v := .bool (s.Gate == (-1))) rfl rfl) ?_
  refine rw_nil ?_
  refine cw_cond (b := (s.Gate == (-1))) rfl (fun hb => ?_) (fun hb => ?_)
  · skip
    have hF1 := ct hF hb
    refine cw_seq ?_
    refine cw_seq ?_
    refine cw_region ?_
    refine sq 9 rfl rfl (Y_fieldAddr (B := some ⟨b, 0, none⟩) (i := 0) (s := 1) k_fd_201_0_0_100 k_sz_100_2 rfl rfl) ?_
    refine sq 10 rfl rfl (Y_loadA (B := some ⟨b, 0, none⟩) (i := 0) (cs := [.int .i64 r_.g.Nodes, .slice B r_.g.Edges.length c, .int .i64 r_.c.Qubits, .slice B1 r_.c.Gates.length c1, .slice B2 r_.place.length c2, .slice B3 r_.done.length c3]) (vs := [.int .i64 r_.g.Nodes, .slice B r_.g.Edges.length c]) k_ag_100 k_sz_100_2 rfl rfl (hS2.cf (i := 2) rfl) rfl rfl) ?_
    refine sq 11 rfl rfl (Y_fieldAddr (B := some ⟨b1, 0, none⟩) (i := 0) (s := 0) k_fd_211_1_1_3 k_sz_3_1 rfl rfl) ?_
    refine sq 12 rfl rfl (Y_load1 (B := some ⟨b1, 0, none⟩) (i := 1) (cs := [.int .i64 s.Gate, .int .i64 s.A, .int .i64 s.B]) (v := .int .i64 s.A) k_sc_3 rfl rfl (hS2.cf (i := 3) rfl) rfl) ?_
    refine sq 13 rfl rfl (Y_fieldAddr (B := some ⟨b1, 0, none⟩) (i := 0) (s := 0) k_fd_211_2_2_3 k_sz_3_1 rfl rfl) ?_
    refine sq 14 rfl rfl (Y_load1 (B := some ⟨b1, 0, none⟩) (i := 2) (cs := [.int .i64 s.Gate, .int .i64 s.A, .int .i64 s.B]) (v := .int .i64 s.B) k_sc_3 rfl rfl (hS2.cf (i := 3) rfl) rfl) ?_
    obtain ⟨r_2, hc, hF1⟩ := bind_inv hF1
    refine sc 15 rfl rfl (Yc_func (g := 251) (vs := [.agg #[.int .i64 r_.g.Nodes, .slice B r_.g.Edges.length c], .int .i64 s.A, .int .i64 s.B]) k_call_251 rfl (mc rfl (mc rfl (mc rfl mn))) (c_impl_CouplingGraph_joins r_.g s.A s.B B c r_.g.Edges.length _ rfl (hS2.inn0 [(true, 0)] rfl) hc)) ?_
    rintro _ w_2 ⟨rfl, hd⟩
    have hS3 := hS2.out00 hd
    have hS3 : ST w0 (bl [⟨B2, 3, (r_.place.flatMap encI), c2 * 1⟩, ⟨B3, 4, (r_.done.flatMap encB), c3 * 1⟩]) _ [⟨B2, 3, (r_.place.flatMap encI), c2 * 1⟩, ⟨B3, 4, (r_.done.flatMap encB), c3 * 1⟩, ⟨some ⟨b, 0, none⟩, 201, [.int .i64 r_.g.Nodes, .slice B r_.g.Edges.length c, .int .i64 r_.c.Qubits, .slice B1 r_.c.Gates.length c1, .slice B2 r_.place.length c2, .slice B3 r_.done.length c3], 6⟩, ⟨some ⟨b1, 0, none⟩, 211, [.int .i64 s.Gate, .int .i64 s.A, .int .i64 s.B], 3⟩] [⟨B, (r_.g.Edges.flatMap enc_Edge)⟩, ⟨B1, (r_.c.Gates.flatMap enc_Gate)⟩] := hS3
    refine sq 16 rfl rfl (Y_not (p := r_2) rfl rfl) ?_
    refine rw_nil ?_
    refine cw_cond (b := (!r_2)) rfl (fun hb1 => ?_) (fun hb1 => ?_)
    · skip
      have hF2 := ct hF1 hb1
      refine cw_seq ?_
      refine cw_region ?_
      refine sq 4 rfl rfl (Y_assign (v := .int .i64 2) rfl rfl) ?_
      refine rw_nil ?_
      refine cw_ret ?_
      obtain ⟨rfl, rfl, rfl⟩ := pr3 (some_inj hF2)
      exact ret1 Try.results166 (v1 := .int .i64 2) (resAt_tmp rfl) ⟨rfl, rfl, rfl, (ST.subR (R' := []) (hS3.sel [0, 1] rfl rfl) (fun _ h => by cases h))⟩
    · skip
      have hF3 := cf' hF1 hb1
      refine cw_skip ?_
      refine cw_seq ?_
      refine cw_region ?_
      refine sq 17 rfl rfl (Y_loadA (B := some ⟨b, 0, none⟩) (i := 0) (cs := [.int .i64 r_.g.Nodes, .slice B r_.g.Edges.length c, .int .i64 r_.c.Qubits, .slice B1 r_.c.Gates.length c1, .slice B2 r_.place.length c2, .slice B3 r_.done.length c3]) (vs := [.int .i64 r_.g.Nodes, .slice B r_.g.Edges.length c, .int .i64 r_.c.Qubits, .slice B1 r_.c.Gates.length c1, .slice B2 r_.place.length c2, .slice B3 r_.done.length c3]) k_ag_201 k_sz_201_6 rfl rfl (hS3.cf (i := 2) rfl) rfl rfl) ?_
      refine sq 18 rfl rfl (Y_fieldAddr (B := some ⟨b1, 0, none⟩) (i := 0) (s := 0) k_fd_211_1_1_3 k_sz_3_1 rfl rfl) ?_
      refine sq 19 rfl rfl (Y_load1 (B := some ⟨b1, 0, none⟩) (i := 1) (cs := [.int .i64 s.Gate, .int .i64 s.A, .int .i64 s.B]) (v := .int .i64 s.A) k_sc_3 rfl rfl (hS3.cf (i := 3) rfl) rfl) ?_
      refine sq 20 rfl rfl (Y_fieldAddr (B := some ⟨b1, 0, none⟩) (i := 0) (s := 0) k_fd_211_2_2_3 k_sz_3_1 rfl rfl) ?_
      refine sq 21 rfl rfl (Y_load1 (B := some ⟨b1, 0, none⟩) (i := 2) (cs := [.int .i64 s.Gate, .int .i64 s.A, .int .i64 s.B]) (v := .int .i64 s.B) k_sc_3 rfl rfl (hS3.cf (i := 3) rfl) rfl) ?_
      obtain ⟨m2, hc1, hF3⟩ := bind_inv hF3
      refine sc 22 rfl rfl (Yc_func (g := 252) (vs := [.agg #[.int .i64 r_.g.Nodes, .slice B r_.g.Edges.length c, .int .i64 r_.c.Qubits, .slice B1 r_.c.Gates.length c1, .slice B2 r_.place.length c2, .slice B3 r_.done.length c3], .int .i64 s.A, .int .i64 s.B]) k_call_252 rfl (mc rfl (mc rfl (mc rfl mn))) (c_impl_routing_swap r_ s.A s.B B c r_.g.Edges.length B1 c1 r_.c.Gates.length B2 c2 r_.place.length B3 c3 r_.done.length _ rfl rfl rfl rfl (hS3.inn [true, false, false, false] rfl [(true, 0), (true, 1), (false, 0)] rfl) hc1)) ?_
      rintro _ w_3 ⟨rfl, hl, hd1⟩
      have hS4 := hS3.out [true, false, false, false] rfl hd1
      have hS4 : ST w0 (bl [⟨B2, 3, (r_.place.flatMap encI), c2 * 1⟩, ⟨B3, 4, (r_.done.flatMap encB), c3 * 1⟩]) _ [⟨B3, 4, (r_.done.flatMap encB), c3 * 1⟩, ⟨some ⟨b, 0, none⟩, 201, [.int .i64 r_.g.Nodes, .slice B r_.g.Edges.length c, .int .i64 r_.c.Qubits, .slice B1 r_.c.Gates.length c1, .slice B2 r_.place.length c2, .slice B3 r_.done.length c3], 6⟩, ⟨some ⟨b1, 0, none⟩, 211, [.int .i64 s.Gate, .int .i64 s.A, .int .i64 s.B], 3⟩, ⟨B2, 3, (m2.flatMap encI), c2 * 1⟩] [⟨B, (r_.g.Edges.flatMap enc_Edge)⟩, ⟨B1, (r_.c.Gates.flatMap enc_Gate)⟩] := hS4
      refine rw_nil ?_
      refine cw_seq ?_
      refine cw_region ?_
      refine sq 4 rfl rfl (Y_assign (v := .int .i64 0) rfl rfl) ?_
      refine rw_nil ?_
      refine cw_ret ?_
      obtain ⟨rfl, rfl, rfl⟩ := pr3 (some_inj hF3)
      exact ret1 Try.results166 (v1 := .int .i64 0) (resAt_tmp rfl) ⟨rfl, hl, rfl, (ST.subR (R' := []) (hS4.sel [3, 0] rfl rfl) (fun _ h => by cases h))⟩
  · skip
    have hF4 := cf' hF hb
    refine cw_seq ?_
    refine cw_region ?_
    refine sq 24 rfl rfl (Y_fieldAddr (B := some ⟨b1, 0, none⟩) (i := 0) (s := 0) k_fd_211_1_1_3 k_sz_3_1 rfl rfl) ?_
    refine sq 25 rfl rfl (Y_load1 (B := some ⟨b1, 0, none⟩) (i := 1) (cs := [.int .i64 s.Gate, .int .i64 s.A, .int .i64 s.B]) (v := .int .i64 s.A) k_sc_3 rfl rfl (hS2.cf (i := 3) rfl) rfl) ?_
    refine sq 26 rfl rfl (Y_ne (k := .i64) (a := s.A) (b := 0) rfl rfl rfl) ?_
    refine sq 27 rfl rfl (Y_move (v := .bool (s.A != 0)) rfl rfl) ?_
    refine sgq 28 (B := (!(s.A != 0))) (v := pt (some ⟨b1, 0, none⟩) 2) rfl rfl (wt_f (gd_of (t := 27) (by kernel_rfl) rfl)) (fun hg => (Y_fieldAddr (B := some ⟨b1, 0, none⟩) (i := 0) (s := 0) k_fd_211_2_2_3 k_sz_3_1 rfl rfl)) ?_
    refine sgq 29 (B := (!(s.A != 0))) (v := .int .i64 s.B) rfl rfl (wt_f (gd_of (t := 27) (by kernel_rfl) rfl)) (fun hg1 => (Y_load1 (B := some ⟨b1, 0, none⟩) (i := 2) (cs := [.int .i64 s.Gate, .int .i64 s.A, .int .i64 s.B]) (v := .int .i64 s.B) k_sc_3 rfl (gv_of (B := (!(s.A != 0))) (v := pt (some ⟨b1, 0, none⟩) 2) hg1) (hS2.cf (i := 3) rfl) rfl)) ?_
    refine sgq 30 (B := (!(s.A != 0))) (v := .bool (s.B != 0)) rfl rfl (wt_f (gd_of (t := 27) (by kernel_rfl) rfl)) (fun hg2 => (Y_ne (k := .i64) (a := s.B) (b := 0) rfl (gv_of (B := (!(s.A != 0))) (v := .int .i64 s.B) hg2) rfl)) ?_
    refine sq 31 rfl rfl (Y_or (b := (s.A != 0)) (z := (s.B != 0)) rfl rfl rfl rfl) ?_
    refine sq 32 rfl rfl (Y_move (v := .bool ((s.A != 0) || (s.B != 0))) rfl rfl) ?_
    refine sgq 33 (B := (!((s.A != 0) || (s.B != 0)))) (v := .agg #[.int .i64 r_.g.Nodes, .slice B r_.g.Edges.length c, .int .i64 r_.c.Qubits, .slice B1 r_.c.Gates.length c1, .slice B2 r_.place.length c2, .slice B3 r_.done.length c3]) rfl rfl (wt_f (gd_of (t := 32) (by kernel_rfl) rfl)) (fun hg3 => (Y_loadA (B := some ⟨b, 0, none⟩) (i := 0) (cs := [.int .i64 r_.g.Nodes, .slice B r_.g.Edges.length c, .int .i64 r_.c.Qubits, .slice B1 r_.c.Gates.length c1, .slice B2 r_.place.length c2, .slice B3 r_.done.length c3]) (vs := [.int .i64 r_.g.Nodes, .slice B r_.g.Edges.length c, .int .i64 r_.c.Qubits, .slice B1 r_.c.Gates.length c1, .slice B2 r_.place.length c2, .slice B3 r_.done.length c3]) k_ag_201 k_sz_201_6 rfl rfl (hS2.cf (i := 2) rfl) rfl rfl)) ?_
    refine sgq 34 (B := (!((s.A != 0) || (s.B != 0)))) (v := pt (some ⟨b1, 0, none⟩) 0) rfl rfl (wt_f (gd_of (t := 32) (by kernel_rfl) rfl)) (fun hg4 => (Y_fieldAddr (B := some ⟨b1, 0, none⟩) (i := 0) (s := 0) k_fd_211_0_0_3 k_sz_3_1 rfl rfl)) ?_
    refine sgq 35 (B := (!((s.A != 0) || (s.B != 0)))) (v := .int .i64 s.Gate) rfl rfl (wt_f (gd_of (t := 32) (by kernel_rfl) rfl)) (fun hg5 => (Y_load1 (B := some ⟨b1, 0, none⟩) (i := 0) (cs := [.int .i64 s.Gate, .int .i64 s.A, .int .i64 s.B]) (v := .int .i64 s.Gate) k_sc_3 rfl (gv_of (B := (!((s.A != 0) || (s.B != 0)))) (v := pt (some ⟨b1, 0, none⟩) 0) hg5) (hS2.cf (i := 3) rfl) rfl)) ?_
    obtain ⟨r_3, hc2, hF4⟩ := bind_inv hF4
    refine sgc 36 (B := (!((s.A != 0) || (s.B != 0)))) (v := .bool r_3) (F := hS2.fn) rfl rfl (wt_f (gd_of (t := 32) (by kernel_rfl) rfl)) hS2 (fun hg6 => (Yc_func (g := 253) (vs := [.agg #[.int .i64 r_.g.Nodes, .slice B r_.g.Edges.length c, .int .i64 r_.c.Qubits, .slice B1 r_.c.Gates.length c1, .slice B2 r_.place.length c2, .slice B3 r_.done.length c3], .int .i64 s.Gate]) k_call_253 rfl (mc (gv_of (B := (!((s.A != 0) || (s.B != 0)))) (v := .agg #[.int .i64 r_.g.Nodes, .slice B r_.g.Edges.length c, .int .i64 r_.c.Qubits, .slice B1 r_.c.Gates.length c1, .slice B2 r_.place.length c2, .slice B3 r_.done.length c3]) hg6) (mc (gv_of (B := (!((s.A != 0) || (s.B != 0)))) (v := .int .i64 s.Gate) hg6) mn)) (CV.mono (c_impl_routing_isReady r_ s.Gate B c r_.g.Edges.length B1 c1 r_.c.Gates.length B2 c2 r_.place.length B3 c3 r_.done.length _ rfl rfl hq rfl rfl (hS2.inn0 [(true, 0), (true, 1), (false, 0), (false, 1)] rfl) (gb_inv hc2 hg6)) (by rintro _ _ ⟨rfl, h⟩; exact ⟨rfl, hS2.out00 h⟩)))) ?_
    rintro w_4 hS5
    have hS5 : ST _ _ w_4 _ _ := hS5
    refine sgq 37 (B := (!((s.A != 0) || (s.B != 0)))) (v := .bool (!r_3)) rfl rfl (wt_f (gd_of (t := 32) (by kernel_rfl) rfl)) (fun hg7 => (Y_not (p := r_3) rfl (gv_of (B := (!((s.A != 0) || (s.B != 0)))) (v := .bool r_3) hg7))) ?_
    refine sq 38 rfl rfl (Y_or (b := ((s.A != 0) || (s.B != 0))) (z := (!r_3)) rfl rfl rfl rfl) ?_
    refine sq 23 rfl rfl (Y_assign (v := .bool (((s.A != 0) || (s.B != 0)) || (!r_3))) rfl rfl) ?_
    refine rw_nil ?_
    refine cw_cond (b := (((s.A != 0) || (s.B != 0)) || (!r_3))) rfl (fun hb2 => ?_) (fun hb2 => ?_)
    · skip
      have hF5 := ct hF4 hb2
      refine cw_seq ?_
      refine cw_region ?_
      refine sq 4 rfl rfl (Y_assign (v := .int .i64 3) rfl rfl) ?_
      refine rw_nil ?_
      refine cw_ret ?_
      obtain ⟨rfl, rfl, rfl⟩ := pr3 (some_inj hF5)
      exact ret1 Try.results166 (v1 := .int .i64 3) (resAt_tmp rfl) ⟨rfl, rfl, rfl, (ST.subR (R' := []) (hS5.sel [0, 1] rfl rfl) (fun _ h => by cases h))⟩
    · skip
      have hF6 := cf' hF4 hb2
      refine cw_seq ?_
      refine cw_region ?_
      refine sq 40 rfl rfl (Y_loadA (B := some ⟨b, 0, none⟩) (i := 0) (cs := [.int .i64 r_.g.Nodes, .slice B r_.g.Edges.length c, .int .i64 r_.c.Qubits, .slice B1 r_.c.Gates.length c1, .slice B2 r_.place.length c2, .slice B3 r_.done.length c3]) (vs := [.int .i64 r_.g.Nodes, .slice B r_.g.Edges.length c, .int .i64 r_.c.Qubits, .slice B1 r_.c.Gates.length c1, .slice B2 r_.place.length c2, .slice B3 r_.done.length c3]) k_ag_201 k_sz_201_6 rfl rfl (hS5.cf (i := 2) rfl) rfl rfl) ?_
      refine sq 41 rfl rfl (Y_fieldAddr (B := some ⟨b1, 0, none⟩) (i := 0) (s := 0) k_fd_211_0_0_3 k_sz_3_1 rfl rfl) ?_
      refine sq 42 rfl rfl (Y_load1 (B := some ⟨b1, 0, none⟩) (i := 0) (cs := [.int .i64 s.Gate, .int .i64 s.A, .int .i64 s.B]) (v := .int .i64 s.Gate) k_sc_3 rfl rfl (hS5.cf (i := 3) rfl) rfl) ?_
      obtain ⟨r_4, hc3, hF6⟩ := bind_inv hF6
      refine sc 43 rfl rfl (Yc_func (g := 254) (vs := [.agg #[.int .i64 r_.g.Nodes, .slice B r_.g.Edges.length c, .int .i64 r_.c.Qubits, .slice B1 r_.c.Gates.length c1, .slice B2 r_.place.length c2, .slice B3 r_.done.length c3], .int .i64 s.Gate]) k_call_254 rfl (mc rfl (mc rfl mn)) (c_impl_routing_fits r_ s.Gate B c r_.g.Edges.length B1 c1 r_.c.Gates.length B2 c2 r_.place.length B3 c3 r_.done.length _ rfl rfl rfl rfl (hS5.inn0 [(true, 0), (true, 1), (false, 0), (false, 1)] rfl) hc3)) ?_
      rintro _ w_5 ⟨rfl, hd2⟩
      have hS6 := hS5.out00 hd2
      have hS6 : ST w0 (bl [⟨B2, 3, (r_.place.flatMap encI), c2 * 1⟩, ⟨B3, 4, (r_.done.flatMap encB), c3 * 1⟩]) _ [⟨B2, 3, (r_.place.flatMap encI), c2 * 1⟩, ⟨B3, 4, (r_.done.flatMap encB), c3 * 1⟩, ⟨some ⟨b, 0, none⟩, 201, [.int .i64 r_.g.Nodes, .slice B r_.g.Edges.length c, .int .i64 r_.c.Qubits, .slice B1 r_.c.Gates.length c1, .slice B2 r_.place.length c2, .slice B3 r_.done.length c3], 6⟩, ⟨some ⟨b1, 0, none⟩, 211, [.int .i64 s.Gate, .int .i64 s.A, .int .i64 s.B], 3⟩] [⟨B, (r_.g.Edges.flatMap enc_Edge)⟩, ⟨B1, (r_.c.Gates.flatMap enc_Gate)⟩] := hS6
      refine sq 44 rfl rfl (Y_not (p := r_4) rfl rfl) ?_
      refine sq 39 rfl rfl (Y_assign (v := .bool (!r_4)) rfl rfl) ?_
      refine rw_nil ?_
      refine cw_cond (b := (!r_4)) rfl (fun hb3 => ?_) (fun hb3 => ?_)
      · skip
        have hF7 := ct hF6 hb3
        refine cw_seq ?_
        refine cw_region ?_
        refine sq 4 rfl rfl (Y_assign (v := .int .i64 4) rfl rfl) ?_
        refine rw_nil ?_
        refine cw_ret ?_
        obtain ⟨rfl, rfl, rfl⟩ := pr3 (some_inj hF7)
        exact ret1 Try.results166 (v1 := .int .i64 4) (resAt_tmp rfl) ⟨rfl, rfl, rfl, (ST.subR (R' := []) (hS6.sel [0, 1] rfl rfl) (fun _ h => by cases h))⟩
      · skip
        have hF8 := cf' hF6 hb3
        refine cw_skip ?_
        refine cw_seq ?_
        refine cw_region ?_
        refine sq 45 rfl rfl (Y_fieldAddr (B := some ⟨b, 0, none⟩) (i := 0) (s := 0) k_fd_201_3_5_199 k_sz_199_1 rfl rfl) ?_
        refine sq 46 rfl rfl (Y_load1 (B := some ⟨b, 0, none⟩) (i := 5) (cs := [.int .i64 r_.g.Nodes, .slice B r_.g.Edges.length c, .int .i64 r_.c.Qubits, .slice B1 r_.c.Gates.length c1, .slice B2 r_.place.length c2, .slice B3 r_.done.length c3]) (v := .slice B3 r_.done.length c3) k_sc_199 rfl rfl (hS6.cf (i := 2) rfl) rfl) ?_
        refine sq 47 rfl rfl (Y_fieldAddr (B := some ⟨b1, 0, none⟩) (i := 0) (s := 0) k_fd_211_0_0_3 k_sz_3_1 rfl rfl) ?_
        refine sq 48 rfl rfl (Y_load1 (B := some ⟨b1, 0, none⟩) (i := 0) (cs := [.int .i64 s.Gate, .int .i64 s.A, .int .i64 s.B]) (v := .int .i64 s.Gate) k_sc_3 rfl rfl (hS6.cf (i := 3) rfl) rfl) ?_
        obtain ⟨x, hx, hF8⟩ := bind_inv hF8
        refine sq 49 rfl rfl (Y_index (B := B3) (m := r_.done.length) (c := c3) (k := .i64) (i := s.Gate) k_sl_199_4 k_sz_4_1 rfl rfl rfl (gi_isSome encB_len rfl (hS6.cf (i := 1) rfl) hx) (getI_nn hx) (getI_ltI hx rfl)) ?_
        refine ss0 rfl rfl (Ys_store (i := 1) (s := 1) (B := B3) (T' := 4) (v := .bool true) (vs := [.bool true]) (k := s.Gate.toNat * 1) (cs' := ((r_.done.set s.Gate.toNat true).flatMap encB)) hS6 k_sz_4_1 rfl rfl rfl rfl rfl rfl rfl (gi_fit0 encB_len hx) (gi_set encB_len hx true rfl) rfl) ?_
        rintro _ w_6 ⟨rfl, hS7⟩
        have hS7 : ST w0 (bl [⟨B2, 3, (r_.place.flatMap encI), c2 * 1⟩, ⟨B3, 4, (r_.done.flatMap encB), c3 * 1⟩]) _ [⟨B2, 3, (r_.place.flatMap encI), c2 * 1⟩, ⟨B3, 4, ((r_.done.set s.Gate.toNat true).flatMap encB), c3 * 1⟩, ⟨some ⟨b, 0, none⟩, 201, [.int .i64 r_.g.Nodes, .slice B r_.g.Edges.length c, .int .i64 r_.c.Qubits, .slice B1 r_.c.Gates.length c1, .slice B2 r_.place.length c2, .slice B3 r_.done.length c3], 6⟩, ⟨some ⟨b1, 0, none⟩, 211, [.int .i64 s.Gate, .int .i64 s.A, .int .i64 s.B], 3⟩] [⟨B, (r_.g.Edges.flatMap enc_Edge)⟩, ⟨B1, (r_.c.Gates.flatMap enc_Gate)⟩] := hS7
        refine rw_nil ?_
        refine cw_seq ?_
        refine cw_region ?_
        refine sq 4 rfl rfl (Y_assign (v := .int .i64 0) rfl rfl) ?_
        refine rw_nil ?_
        refine cw_ret ?_
        obtain ⟨rfl, rfl, rfl⟩ := pr3 (some_inj hF8)
        exact ret1 Try.results166 (v1 := .int .i64 0) (resAt_tmp rfl) ⟨rfl, rfl, (set_len _ _ _ rfl), (ST.subR (R' := []) (hS7.sel [0, 1] rfl rfl) (fun _ h => by cases h))⟩

theorem c_impl_CouplingGraph_isPlacement (g : TCouplingGraph) (n1 : Int) (place : List Int) (B : Option Addr) (c n : Nat) (B1 : Option Addr) (c1 n2 : Nat) (w0 : World) (hn : g.Edges.length = n) (hn1 : place.length = n2) (hq : n2 ≤ c1) (hS : ST w0 [] w0 [] [⟨B, (g.Edges.flatMap enc_Edge)⟩, ⟨B1, (place.flatMap encI)⟩]) {r_ : Bool} (hF : F_impl_CouplingGraph_isPlacement g n1 place = some r_) :
    CV Try.prog 244 #[.agg #[.int .i64 g.Nodes, .slice B n c], .int .i64 n1, .slice B1 n2 c1] w0 (fun v w' => v = .bool r_ ∧ ST w0 [] w' [] []) := by
  subst hn
  subst hn1
  unfold F_impl_CouplingGraph_isPlacement at hF
  refine cv_of_cw 34 Try.func244 rfl Try.ntmps244 rfl ?_
  refine cw_seq ?_
  refine cw_region ?_
  refine ss 3 rfl rfl (Ys_box (T := 100) (v := .agg #[.int .i64 g.Nodes, .slice B g.Edges.length c]) (cs := [.int .i64 g.Nodes, .slice B g.Edges.length c]) (m := 2) hS rfl rfl rfl rfl) ?_
  rintro _ w_ ⟨b, rfl, hS1⟩
  refine sq 6 rfl rfl (Y_assign (v := .bool false) rfl rfl) ?_
  refine rw_nil ?_
  refine cw_seq ?_
  refine cw_seq ?_
  refine cw_region ?_
  refine sq 9 rfl rfl (Y_move (v := .slice B1 place.length c1) rfl rfl) ?_
  refine sq 10 rfl rfl (Y_len (B := B1) (m := place.length) (c := c1) k_sl_59_3 rfl rfl) ?_
  refine sq 11 rfl rfl (Y_move (v := .int .i64 0) rfl rfl) ?_
  refine rw_nil ?_
  obtain ⟨hN, hF⟩ := chk_inv hF
  obtain ⟨z, hz, hF1⟩ := bind_inv hF
  refine cw_block ?_
  refine cw_loop (fun k f w => ∃ (i : Nat), FF f [(1, .int .i64 n1), (2, .slice B1 place.length c1), (3, pt (some ⟨b, 0, none⟩) 0), (9, .slice B1 place.length c1), (10, .int .i64 (place.length : Int)), (11, .int .i64 (i : Int))] ∧ ST w0 [] w [⟨some ⟨b, 0, none⟩, 100, [.int .i64 g.Nodes, .slice B g.Edges.length c], 2⟩] [⟨B, (g.Edges.flatMap enc_Edge)⟩, ⟨B1, (place.flatMap encI)⟩] ∧ i + k = place.length ∧ forX (F_impl_CouplingGraph_isPlacement_l1 place g) k i () = some z) place.length ⟨0, (FF.cons rfl (FF.cons rfl (FF.cons rfl (FF.cons rfl (FF.cons rfl (FF.cons rfl FF.nil)))))), (hS1.sel [0] rfl rfl), Nat.zero_add _, hz⟩ ?_
  rintro k_ f w ⟨i, hf, hS2, hik, hL⟩
  refine cw_seq ?_
  refine cw_region ?_
  refine sq 12 rfl rfl (Y_lt (k := .i64) (a := (i : Int)) (b := (place.length : Int)) rfl (hf.get 11 5 rfl) (hf.get 10 4 rfl)) ?_
  refine rw_nil ?_
  refine cw_seq ?_
  refine cw_cond (b := (decide ((i : Int) < (place.length : Int)))) rfl (fun hlt => ?_) (fun hlt => ?_)
  · skip
    have hlt1 : i < place.length := by have h := of_decide_eq_true hlt; omega
    obtain ⟨k_1, rfl⟩ : ∃ k2, k_ = k2 + 1 := ⟨k_ - 1, by omega⟩
    obtain ⟨y, hb, hL1⟩ := forX_go hL
    unfold F_impl_CouplingGraph_isPlacement_l1 at hb
    refine cw_skip ?_
    refine cw_seq ?_
    refine cw_block ?_
    refine cw_seq ?_
    refine cw_region ?_
    refine sq 13 rfl rfl (Y_move (v := .int .i64 (i : Int)) rfl (hf.get 11 5 rfl)) ?_
    obtain ⟨x, hx, hb⟩ := bind_inv hb
    refine sq 14 rfl rfl (Y_index (B := B1) (m := place.length) (c := c1) (k := .i64) (i := (i : Int)) k_sl_59_3 k_sz_3_1 rfl (hf.get 9 3 rfl) (hf.get 11 5 rfl) (gi_isSome encI_len rfl (hS2.rf (i := 1) rfl) hx) (getI_nn hx) (getI_ltI hx rfl)) ?_
    refine sq 15 rfl rfl (Y_load1 (B := B1) (i := (i : Int).toNat * 1) (cs := (place.flatMap encI)) (v := .int .i64 x) k_sc_3 rfl rfl (hS2.rf (i := 1) rfl) (gi_at0 encI_len hx rfl)) ?_
    refine sq 7 rfl rfl (Y_assign (v := .int .i64 (i : Int)) rfl rfl) ?_
    refine sq 8 rfl rfl (Y_assign (v := .int .i64 x) rfl rfl) ?_
    refine rw_nil ?_
    refine cw_seq ?_
    refine cw_region ?_
    refine sq 16 rfl rfl (Y_move (v := .int .i64 x) rfl rfl) ?_
    refine sq 17 rfl rfl (Y_fieldAddr (B := some ⟨b, 0, none⟩) (i := 0) (s := 0) k_fd_100_0_0_3 k_sz_3_1 rfl (hf.get 3 2 rfl)) ?_
    refine sq 18 rfl rfl (Y_load1 (B := some ⟨b, 0, none⟩) (i := 0) (cs := [.int .i64 g.Nodes, .slice B g.Edges.length c]) (v := .int .i64 g.Nodes) k_sc_3 rfl rfl (hS2.cf (i := 0) rfl) rfl) ?_
    refine sq 19 rfl rfl (Y_sub (k := .i64) (a := g.Nodes) (b := 1) rfl rfl rfl) ?_
    obtain ⟨r_1, hc, hb⟩ := bind_inv hb
    refine sc 20 rfl rfl (Yc_func (g := 130) (vs := [.int .i64 x, .int .i64 0, .int .i64 (IntKind.i64.wrap (g.Nodes - 1))]) k_call_130 rfl (mc rfl (mc rfl (mc rfl mn))) (c_impl_within x 0 (IntKind.i64.wrap (g.Nodes - 1)) _  (hS2.inn0 [] rfl) hc)) ?_
    rintro _ w_1 ⟨rfl, hd⟩
    have hS3 := hS2.out00 hd
    refine sq 21 rfl rfl (Y_not (p := r_1) rfl rfl) ?_
    refine sq 22 rfl rfl (Y_move (v := .bool (!r_1)) rfl rfl) ?_
    refine sgq 23 (B := (!(!r_1))) (v := .slice B1 place.length c1) rfl rfl (wt_f (gd_of (t := 22) (by kernel_rfl) rfl)) (fun hg => (Y_move (v := .slice B1 place.length c1) rfl (hf.get 2 1 rfl))) ?_
    refine sgq 24 (B := (!(!r_1))) (v := .int .i64 (i : Int)) rfl rfl (wt_f (gd_of (t := 22) (by kernel_rfl) rfl)) (fun hg1 => (Y_move (v := .int .i64 (i : Int)) rfl rfl)) ?_
    refine rw_split (B := (!(!r_1))) (fun hb1 => ?_) (fun hb1 => ?_)
    · skip
      have hF2 := ct hb hb1
      obtain ⟨hsl, hF2⟩ := chk_inv hF2
      have hcap : place.length ≤ c1 := hq
      have hv : (List.take i place).length = i := (take_len rfl (by omega))
      have hq1 : i ≤ c1 := by omega
      have ho : Org w0 [] [⟨B, (g.Edges.flatMap enc_Edge)⟩, ⟨B1, (place.flatMap encI)⟩] [⟨B1, ((List.take i place).flatMap encI)⟩] := org_view encI_len (q := c1) (org_mem (i := 1) rfl) (sv_zero _ _ _).symm rfl
      have hS4 : ST w0 [] _ [⟨some ⟨b, 0, none⟩, 100, [.int .i64 g.Nodes, .slice B g.Edges.length c], 2⟩] [⟨B1, ((List.take i place).flatMap encI)⟩, ⟨B, (g.Edges.flatMap enc_Edge)⟩, ⟨B1, (place.flatMap encI)⟩] := ST.view encI_len hS3 (i := 1) rfl (lo := 0) (h := i) (q := c1) (by omega) (by omega) (sv_zero _ _ _).symm rfl
      refine sqg 25 rfl rfl (wt_f (gd_of (t := 22) (by kernel_rfl) rfl)) hb1 (Y_slice0 (B := B1) (m := place.length) (c := c1) (h := i) (s := 1) k_sl_59_3 k_sz_3_1 rfl (gv_of (B := (!(!r_1))) (v := .slice B1 place.length c1) hb1) (bnd_some (gv_of (B := (!(!r_1))) (v := .int .i64 (i : Int)) hb1) rfl) (by omega)) ?_
      refine sqg 26 rfl rfl (wt_f (gd_of (t := 22) (by kernel_rfl) rfl)) hb1 (Y_move (v := .int .i64 x) rfl rfl) ?_
      obtain ⟨r_2, hc1, hF2⟩ := bind_inv hF2
      refine scg 27 rfl rfl (wt_f (gd_of (t := 22) (by kernel_rfl) rfl)) hb1 (Yc_func (g := 316) (vs := [.slice B1 i c1, .int .i64 x]) k_call_316 rfl (mc rfl (mc rfl mn)) (c_slices_Contains_int_int (List.take i place) x B1 c1 i _ hv (hS4.inn0 [(true, 0)] rfl) hc1)) ?_
      rintro _ w_2 ⟨rfl, hd1⟩
      have hS5 := hS4.out00 hd1
      refine sq 28 rfl rfl (Y_pickF (b := (!r_1)) (v := .bool r_2) rfl rfl (nt hb1) rfl) ?_
      refine rw_nil ?_
      refine cw_cond (b := r_2) rfl (fun hb2 => ?_) (fun hb2 => ?_)
      · skip
        have hF3 := ct hF2 hb2
        refine cw_seq ?_
        refine cw_region ?_
        refine sq 6 rfl rfl (Y_assign (v := .bool false) rfl rfl) ?_
        refine rw_nil ?_
        refine cw_ret ?_
        obtain rfl := some_inj hF3
        obtain rfl := some_inj hL1
        obtain rfl := some_inj hF1
        exact ret1 Try.results244 (v1 := .bool false) (resAt_tmp rfl) ⟨rfl, (ST.subR (R' := []) (hS5.sel [] rfl rfl) (fun _ h => by cases h))⟩
      · skip
        have hF4 := cf' hF2 hb2
        refine cw_skip ?_
        refine cw_region ?_
        refine sq 29 rfl rfl (Y_add (k := .i64) (a := (i : Int)) (b := 1) rfl (hf.get 11 5 rfl) rfl) ?_
        refine sq 11 rfl rfl (Y_move (v := .int .i64 (IntKind.i64.wrap ((i : Int) + 1))) rfl rfl) ?_
        refine rw_nil ?_
        obtain rfl := some_inj hF4
        have hS6 : ST w0 [] _ [⟨some ⟨b, 0, none⟩, 100, [.int .i64 g.Nodes, .slice B g.Edges.length c], 2⟩] [⟨B, (g.Edges.flatMap enc_Edge)⟩, ⟨B1, (place.flatMap encI)⟩] := ST.subR hS5 (subc (mem_at (i := 1) rfl) (subc (mem_at (i := 2) rfl) (fun _ h => by cases h)))
        exact ⟨k_1, Nat.lt_succ_self _, i + 1, (FF.cons (hf.get 1 0 rfl) (FF.cons (hf.get 2 1 rfl) (FF.cons (hf.get 3 2 rfl) (FF.cons (hf.get 9 3 rfl) (FF.cons (hf.get 10 4 rfl) (FF.cons (congrArg (Value.int .i64) (wr_succ hlt1 hN)) FF.nil)))))), (hS6.sel [0] rfl rfl), (by omega), hL1⟩
    · skip
      have hF5 := cf' hb hb1
      refine sgn 25 rfl rfl (wt_f (gd_of (t := 22) (by kernel_rfl) rfl)) hb1 ?_
      refine sgn 26 rfl rfl (wt_f (gd_of (t := 22) (by kernel_rfl) rfl)) hb1 ?_
      refine sgn 27 rfl rfl (wt_f (gd_of (t := 22) (by kernel_rfl) rfl)) hb1 ?_
      refine sq 28 rfl rfl (Y_pickT (b := (!r_1)) (v := .bool true) rfl rfl (nf hb1) rfl) ?_
      refine rw_nil ?_
      refine cw_cond (b := true) rfl (fun _ => ?_) (fun h => by cases h)
      refine cw_seq ?_
      refine cw_region ?_
      refine sq 6 rfl rfl (Y_assign (v := .bool false) rfl rfl) ?_
      refine rw_nil ?_
      refine cw_ret ?_
      obtain rfl := some_inj hF5
      obtain rfl := some_inj hL1
      obtain rfl := some_inj hF1
      exact ret1 Try.results244 (v1 := .bool false) (resAt_tmp rfl) ⟨rfl, (ST.subR (R' := []) (hS3.sel [] rfl rfl) (fun _ h => by cases h))⟩
  · skip
    obtain rfl : k_ = 0 := by have h := of_decide_eq_false hlt; omega
    refine cw_exit rfl ?_
    obtain rfl := some_inj hL
    refine cw_seq ?_
    refine cw_region ?_
    refine sq 30 rfl rfl (Y_move (v := .slice B1 place.length c1) rfl (hf.get 2 1 rfl)) ?_
    refine sq 31 rfl rfl (Y_len (B := B1) (m := place.length) (c := c1) k_sl_59_3 rfl rfl) ?_
    refine sq 32 rfl rfl (Y_move (v := .int .i64 n1) rfl (hf.get 1 0 rfl)) ?_
    refine sq 33 rfl rfl (Y_eq (k := .i64) (a := (place.length : Int)) (b := n1) rfl rfl rfl) ?_
    refine sq 6 rfl rfl (Y_assign (v := .bool ((place.length : Int) == n1)) rfl rfl) ?_
    refine rw_nil ?_
    refine cw_ret ?_
    obtain rfl := some_inj hF1
    exact ret1 Try.results244 (v1 := .bool ((place.length : Int) == n1)) (resAt_tmp rfl) ⟨rfl, (ST.subR (R' := []) (hS2.sel [] rfl rfl) (fun _ h => by cases h))⟩

theorem c_slices_Index_bool_bool (s : List Bool) (v_ : Bool) (B : Option Addr) (c n : Nat) (w0 : World) (hn : s.length = n) (hS : ST w0 [] w0 [] [⟨B, (s.flatMap encB)⟩]) {r_ : Int} (hF : F_slices_Index_bool_bool s v_ = some r_) :
    CV Try.prog 317 #[.slice B n c, .bool v_] w0 (fun v w' => v = .int .i64 r_ ∧ ST w0 [] w' [] []) := by
  subst hn
  unfold F_slices_Index_bool_bool at hF
  refine cv_of_cw 19 Try.func317 rfl Try.ntmps317 rfl ?_
  refine cw_seq ?_
  refine cw_region ?_
  refine sq 4 rfl rfl (Y_assign (v := .int .i64 0) rfl rfl) ?_
  refine rw_nil ?_
  refine cw_seq ?_
  refine cw_seq ?_
  refine cw_region ?_
  refine sq 6 rfl rfl (Y_move (v := .slice B s.length c) rfl rfl) ?_
  refine sq 7 rfl rfl (Y_len (B := B) (m := s.length) (c := c) k_sl_199_4 rfl rfl) ?_
  refine sq 8 rfl rfl (Y_move (v := .int .i64 0) rfl rfl) ?_
  refine rw_nil ?_
  obtain ⟨hN, hF⟩ := chk_inv hF
  obtain ⟨z, hz, hF1⟩ := bind_inv hF
  refine cw_block ?_
  refine cw_loop (fun k f w => ∃ (i : Nat), FF f [(0, .slice B s.length c), (1, .bool v_), (7, .int .i64 (s.length : Int)), (8, .int .i64 (i : Int))] ∧ ST w0 [] w [] [⟨B, (s.flatMap encB)⟩] ∧ i + k = s.length ∧ forX (F_slices_Index_bool_bool_l1 s v_) k i () = some z) s.length ⟨0, (FF.cons rfl (FF.cons rfl (FF.cons rfl (FF.cons rfl FF.nil)))), (hS.sel [] rfl rfl), Nat.zero_add _, hz⟩ ?_
  rintro k_ f w ⟨i, hf, hS1, hik, hL⟩
  refine cw_seq ?_
  refine cw_region ?_
  refine sq 9 rfl rfl (Y_lt (k := .i64) (a := (i : Int)) (b := (s.length : Int)) rfl (hf.get 8 3 rfl) (hf.get 7 2 rfl)) ?_
  refine rw_nil ?_
  refine cw_seq ?_
  refine cw_cond (b := (decide ((i : Int) < (s.length : Int)))) rfl (fun hlt => ?_) (fun hlt => ?_)
  · skip
    have hlt1 : i < s.length := by have h := of_decide_eq_true hlt; omega
    obtain ⟨k_1, rfl⟩ : ∃ k2, k_ = k2 + 1 := ⟨k_ - 1, by omega⟩
    obtain ⟨y, hb, hL1⟩ := forX_go hL
    unfold F_slices_Index_bool_bool_l1 at hb
    refine cw_skip ?_
    refine cw_seq ?_
    refine cw_block ?_
    refine cw_seq ?_
    refine cw_region ?_
    refine sq 10 rfl rfl (Y_move (v := .int .i64 (i : Int)) rfl (hf.get 8 3 rfl)) ?_
    refine sq 5 rfl rfl (Y_assign (v := .int .i64 (i : Int)) rfl rfl) ?_
    refine rw_nil ?_
    refine cw_seq ?_
    refine cw_region ?_
    refine sq 11 rfl rfl (Y_move (v := .bool v_) rfl (hf.get 1 1 rfl)) ?_
    refine sq 12 rfl rfl (Y_move (v := .slice B s.length c) rfl (hf.get 0 0 rfl)) ?_
    refine sq 13 rfl rfl (Y_move (v := .int .i64 (i : Int)) rfl rfl) ?_
    obtain ⟨x, hx, hb⟩ := bind_inv hb
    refine sq 14 rfl rfl (Y_index (B := B) (m := s.length) (c := c) (k := .i64) (i := (i : Int)) k_sl_199_4 k_sz_4_1 rfl rfl rfl (gi_isSome encB_len rfl (hS1.rf (i := 0) rfl) hx) (getI_nn hx) (getI_ltI hx rfl)) ?_
    refine sq 15 rfl rfl (Y_load1 (B := B) (i := (i : Int).toNat * 1) (cs := (s.flatMap encB)) (v := .bool x) k_sc_4 rfl rfl (hS1.rf (i := 0) rfl) (gi_at0 encB_len hx rfl)) ?_
    refine sq 16 rfl rfl (Y_beq (p := v_) (q := x) k_und_4 rfl rfl rfl) ?_
    refine rw_nil ?_
    refine cw_cond (b := (v_ == x)) rfl (fun hb1 => ?_) (fun hb1 => ?_)
    · skip
      have hF2 := ct hb hb1
      refine cw_seq ?_
      refine cw_region ?_
      refine sq 17 rfl rfl (Y_move (v := .int .i64 (i : Int)) rfl rfl) ?_
      refine sq 4 rfl rfl (Y_assign (v := .int .i64 (i : Int)) rfl rfl) ?_
      refine rw_nil ?_
      refine cw_ret ?_
      obtain rfl := some_inj hF2
      obtain rfl := some_inj hL1
      obtain rfl := some_inj hF1
      exact ret1 Try.results317 (v1 := .int .i64 (i : Int)) (resAt_tmp rfl) ⟨rfl, (ST.subR (R' := []) (hS1.sel [] rfl rfl) (fun _ h => by cases h))⟩
    · skip
      have hF3 := cf' hb hb1
      refine cw_skip ?_
      refine cw_region ?_
      refine sq 18 rfl rfl (Y_add (k := .i64) (a := (i : Int)) (b := 1) rfl (hf.get 8 3 rfl) rfl) ?_
      refine sq 8 rfl rfl (Y_move (v := .int .i64 (IntKind.i64.wrap ((i : Int) + 1))) rfl rfl) ?_
      refine rw_nil ?_
      obtain rfl := some_inj hF3
      exact ⟨k_1, Nat.lt_succ_self _, i + 1, (FF.cons (hf.get 0 0 rfl) (FF.cons (hf.get 1 1 rfl) (FF.cons (hf.get 7 2 rfl) (FF.cons (congrArg (Value.int .i64) (wr_succ hlt1 hN)) FF.nil)))), (hS1.sel [] rfl rfl), (by omega), hL1⟩
  · skip
    obtain rfl : k_ = 0 := by have h := of_decide_eq_false hlt; omega
    refine cw_exit rfl ?_
    obtain rfl := some_inj hL
    refine cw_seq ?_
    refine cw_region ?_
    refine sq 4 rfl rfl (Y_assign (v := .int .i64 (-1)) rfl rfl) ?_
    refine rw_nil ?_
    refine cw_ret ?_
    obtain rfl := some_inj hF1
    exact ret1 Try.results317 (v1 := .int .i64 (-1)) (resAt_tmp rfl) ⟨rfl, (ST.subR (R' := []) (hS1.sel [] rfl rfl) (fun _ h => by cases h))⟩

theorem c_slices_Contains_bool_bool (s : List Bool) (v_ : Bool) (B : Option Addr) (c n : Nat) (w0 : World) (hn : s.length = n) (hS : ST w0 [] w0 [] [⟨B, (s.flatMap encB)⟩]) {r_ : Bool} (hF : F_slices_Contains_bool_bool s v_ = some r_) :
    CV Try.prog 245 #[.slice B n c, .bool v_] w0 (fun v w' => v = .bool r_ ∧ ST w0 [] w' [] []) := by
  subst hn
  unfold F_slices_Contains_bool_bool at hF
  refine cv_of_cw 9 Try.func245 rfl Try.ntmps245 rfl ?_
  refine cw_seq ?_
  refine cw_region ?_
  refine sq 4 rfl rfl (Y_assign (v := .bool false) rfl rfl) ?_
  refine rw_nil ?_
  refine cw_seq ?_
  refine cw_region ?_
  refine sq 5 rfl rfl (Y_move (v := .slice B s.length c) rfl rfl) ?_
  refine sq 6 rfl rfl (Y_move (v := .bool v_) rfl rfl) ?_
  obtain ⟨r_1, hc, hF⟩ := bind_inv hF
  refine sc 7 rfl rfl (Yc_func (g := 317) (vs := [.slice B s.length c, .bool v_]) k_call_317 rfl (mc rfl (mc rfl mn)) (c_slices_Index_bool_bool s v_ B c s.length _ rfl (hS.inn0 [(true, 0)] rfl) hc)) ?_
  rintro _ w_ ⟨rfl, hd⟩
  have hS1 := hS.out00 hd
  refine sq 8 rfl rfl (Y_ge (k := .i64) (a := r_1) (b := 0) rfl rfl rfl) ?_
  refine sq 4 rfl rfl (Y_assign (v := .bool (decide (0 ≤ r_1))) rfl rfl) ?_
  refine rw_nil ?_
  refine cw_ret ?_
  obtain rfl := some_inj hF
  exact ret1 Try.results245 (v1 := .bool (decide (0 ≤ r_1))) (resAt_tmp rfl) ⟨rfl, (ST.subR (R' := []) (hS1.sel [] rfl rfl) (fun _ h => by cases h))⟩

theorem c_impl_check (g : TCouplingGraph) (c1 : TCircuit) (route : TRoute) (B : Option Addr) (c n : Nat) (B1 : Option Addr) (c2 n1 : Nat) (B2 : Option Addr) (c3 n2 : Nat) (B3 : Option Addr) (c4 n3 : Nat) (w0 : World) (hn : g.Edges.length = n) (hq : n ≤ c) (hn1 : c1.Gates.length = n1) (hq1 : n1 ≤ c2) (hn2 : route.Start.length = n2) (hq2 : n2 ≤ c3) (hn3 : route.Steps.length = n3) (hS : ST w0 [] w0 [] [⟨B, (g.Edges.flatMap enc_Edge)⟩, ⟨B1, (c1.Gates.flatMap enc_Gate)⟩, ⟨B2, (route.Start.flatMap encI)⟩, ⟨B3, (route.Steps.flatMap enc_RouteStep)⟩]) {r_ : Int} {r_1 : Int} {r_2 : Trouting} (hF : F_impl_check g c1 route = some (r_, r_1, r_2)) :
    CV Try.prog 155 #[.agg #[.int .i64 g.Nodes, .slice B n c], .agg #[.int .i64 c1.Qubits, .slice B1 n1 c2], .agg #[.slice B2 n2 c3, .slice B3 n3 c4]] w0 (fun v w' => ∃ (B4 : Option Addr) (c5 : Nat) (B5 : Option Addr) (c6 : Nat) (B6 : Option Addr) (c7 : Nat) (B7 : Option Addr) (c8 : Nat), v = .tuple #[.int .i64 r_, .int .i64 r_1, .agg #[.int .i64 r_2.g.Nodes, .slice B4 r_2.g.Edges.length c5, .int .i64 r_2.c.Qubits, .slice B5 r_2.c.Gates.length c6, .slice B6 r_2.place.length c7, .slice B7 r_2.done.length c8]] ∧ r_2.g.Edges.length ≤ c5 ∧ r_2.c.Gates.length ≤ c6 ∧ Org w0 [] [⟨B, (g.Edges.flatMap enc_Edge)⟩, ⟨B1, (c1.Gates.flatMap enc_Gate)⟩, ⟨B2, (route.Start.flatMap encI)⟩, ⟨B3, (route.Steps.flatMap enc_RouteStep)⟩] [⟨B4, (r_2.g.Edges.flatMap enc_Edge)⟩, ⟨B5, (r_2.c.Gates.flatMap enc_Gate)⟩] ∧ ST w0 [] w' [⟨B6, 3, (r_2.place.flatMap encI), c7 * 1⟩, ⟨B7, 4, (r_2.done.flatMap encB), c8 * 1⟩] [⟨B4, (r_2.g.Edges.flatMap enc_Edge)⟩, ⟨B5, (r_2.c.Gates.flatMap enc_Gate)⟩]) := by
  subst hn
  subst hn1
  subst hn2
  subst hn3
  unfold F_impl_check at hF
  refine cv_of_cw 51 Try.func155 rfl Try.ntmps155 rfl ?_
  refine cw_seq ?_
  refine cw_region ?_
  refine ss 3 rfl rfl (Ys_box (T := 100) (v := .agg #[.int .i64 g.Nodes, .slice B g.Edges.length c]) (cs := [.int .i64 g.Nodes, .slice B g.Edges.length c]) (m := 2) hS rfl rfl rfl rfl) ?_
  rintro _ w_ ⟨b, rfl, hS1⟩
  refine ss 4 rfl rfl (Ys_box (T := 104) (v := .agg #[.int .i64 c1.Qubits, .slice B1 c1.Gates.length c2]) (cs := [.int .i64 c1.Qubits, .slice B1 c1.Gates.length c2]) (m := 2) hS1 rfl rfl rfl rfl) ?_
  rintro _ w_1 ⟨b1, rfl, hS2⟩
  have hS2 : ST w0 [] _ [⟨some ⟨b, 0, none⟩, 100, [.int .i64 g.Nodes, .slice B g.Edges.length c], 2⟩, ⟨some ⟨b1, 0, none⟩, 104, [.int .i64 c1.Qubits, .slice B1 c1.Gates.length c2], 2⟩] [⟨B, (g.Edges.flatMap enc_Edge)⟩, ⟨B1, (c1.Gates.flatMap enc_Gate)⟩, ⟨B2, (route.Start.flatMap encI)⟩, ⟨B3, (route.Steps.flatMap enc_RouteStep)⟩] := hS2
  refine ss 5 rfl rfl (Ys_box (T := 108) (v := .agg #[.slice B2 route.Start.length c3, .slice B3 route.Steps.length c4]) (cs := [.slice B2 route.Start.length c3, .slice B3 route.Steps.length c4]) (m := 2) hS2 rfl rfl rfl rfl) ?_
  rintro _ w_2 ⟨b2, rfl, hS3⟩
  have hS3 : ST w0 [] _ [⟨some ⟨b, 0, none⟩, 100, [.int .i64 g.Nodes, .slice B g.Edges.length c], 2⟩, ⟨some ⟨b1, 0, none⟩, 104, [.int .i64 c1.Qubits, .slice B1 c1.Gates.length c2], 2⟩, ⟨some ⟨b2, 0, none⟩, 108, [.slice B2 route.Start.length c3, .slice B3 route.Steps.length c4], 2⟩] [⟨B, (g.Edges.flatMap enc_Edge)⟩, ⟨B1, (c1.Gates.flatMap enc_Gate)⟩, ⟨B2, (route.Start.flatMap encI)⟩, ⟨B3, (route.Steps.flatMap enc_RouteStep)⟩] := hS3
  refine sq 6 rfl rfl (Y_assign (v := .int .i64 0) rfl rfl) ?_
  refine sq 7 rfl rfl (Y_assign (v := .int .i64 0) rfl rfl) ?_
  refine ss 8 rfl rfl (Ys_alloc (T := 201) (cs := [.int .i64 0, .slice none 0 0, .int .i64 0, .slice none 0 0, .slice none 0 0, .slice none 0 0]) (m := 6) hS3 k_zero_201 rfl rfl rfl) ?_
  rintro _ w_3 ⟨b3, rfl, hS4⟩
  have hS4 : ST w0 [] _ [⟨some ⟨b, 0, none⟩, 100, [.int .i64 g.Nodes, .slice B g.Edges.length c], 2⟩, ⟨some ⟨b1, 0, none⟩, 104, [.int .i64 c1.Qubits, .slice B1 c1.Gates.length c2], 2⟩, ⟨some ⟨b2, 0, none⟩, 108, [.slice B2 route.Start.length c3, .slice B3 route.Steps.length c4], 2⟩, ⟨some ⟨b3, 0, none⟩, 201, [.int .i64 0, .slice none 0 0, .int .i64 0, .slice none 0 0, .slice none 0 0, .slice none 0 0], 6⟩] [⟨B, (g.Edges.flatMap enc_Edge)⟩, ⟨B1, (c1.Gates.flatMap enc_Gate)⟩, ⟨B2, (route.Start.flatMap encI)⟩, ⟨B3, (route.Steps.flatMap enc_RouteStep)⟩] := hS4
  refine rw_nil ?_
  refine cw_seq ?_
  refine cw_seq ?_
  refine cw_region ?_
  refine sq 13 rfl rfl (Y_loadA (B := some ⟨b, 0, none⟩) (i := 0) (cs := [.int .i64 g.Nodes, .slice B g.Edges.length c]) (vs := [.int .i64 g.Nodes, .slice B g.Edges.length c]) k_ag_100 k_sz_100_2 rfl rfl (hS4.cf (i := 0) rfl) rfl rfl) ?_
  refine sq 14 rfl rfl (Y_fieldAddr (B := some ⟨b1, 0, none⟩) (i := 0) (s := 0) k_fd_104_0_0_3 k_sz_3_1 rfl rfl) ?_
  refine sq 15 rfl rfl (Y_load1 (B := some ⟨b1, 0, none⟩) (i := 0) (cs := [.int .i64 c1.Qubits, .slice B1 c1.Gates.length c2]) (v := .int .i64 c1.Qubits) k_sc_3 rfl rfl (hS4.cf (i := 1) rfl) rfl) ?_
  refine sq 16 rfl rfl (Y_fieldAddr (B := some ⟨b2, 0, none⟩) (i := 0) (s := 0) k_fd_108_0_0_59 k_sz_59_1 rfl rfl) ?_
  refine sq 17 rfl rfl (Y_load1 (B := some ⟨b2, 0, none⟩) (i := 0) (cs := [.slice B2 route.Start.length c3, .slice B3 route.Steps.length c4]) (v := .slice B2 route.Start.length c3) k_sc_59 rfl rfl (hS4.cf (i := 2) rfl) rfl) ?_
  obtain ⟨r_3, hc, hF⟩ := bind_inv hF
  refine sc 18 rfl rfl (Yc_func (g := 244) (vs := [.agg #[.int .i64 g.Nodes, .slice B g.Edges.length c], .int .i64 c1.Qubits, .slice B2 route.Start.length c3]) k_call_244 rfl (mc rfl (mc rfl (mc rfl mn))) (c_impl_CouplingGraph_isPlacement g c1.Qubits route.Start B c g.Edges.length B2 c3 route.Start.length _ rfl rfl hq2 (hS4.inn0 [(true, 0), (true, 2)] rfl) hc)) ?_
  rintro _ w_4 ⟨rfl, hd⟩
  have hS5 := hS4.out00 hd
  have hS5 : ST w0 [] _ [⟨some ⟨b, 0, none⟩, 100, [.int .i64 g.Nodes, .slice B g.Edges.length c], 2⟩, ⟨some ⟨b1, 0, none⟩, 104, [.int .i64 c1.Qubits, .slice B1 c1.Gates.length c2], 2⟩, ⟨some ⟨b2, 0, none⟩, 108, [.slice B2 route.Start.length c3, .slice B3 route.Steps.length c4], 2⟩, ⟨some ⟨b3, 0, none⟩, 201, [.int .i64 0, .slice none 0 0, .int .i64 0, .slice none 0 0, .slice none 0 0, .slice none 0 0], 6⟩] [⟨B, (g.Edges.flatMap enc_Edge)⟩, ⟨B1, (c1.Gates.flatMap enc_Gate)⟩, ⟨B2, (route.Start.flatMap encI)⟩, ⟨B3, (route.Steps.flatMap enc_RouteStep)⟩] := hS5
  refine sq 19 rfl rfl (Y_not (p := r_3) rfl rfl) ?_
  refine rw_nil ?_
  refine cw_cond (b := (!r_3)) rfl (fun hb => ?_) (fun hb => ?_)
  · skip
    have hF1 := ct hF hb
    refine cw_seq ?_
    refine cw_region ?_
    refine sq 20 rfl rfl (Y_buildS (zs := [.int .i64 0, .slice none 0 0, .int .i64 0, .slice none 0 0, .slice none 0 0, .slice none 0 0]) (vs := []) (cs := [.int .i64 0, .slice none 0 0, .int .i64 0, .slice none 0 0, .slice none 0 0, .slice none 0 0]) k_pl_201 k_zero_201 rfl mpn rfl) ?_
    refine sq 6 rfl rfl (Y_assign (v := .int .i64 1) rfl rfl) ?_
    refine sq 7 rfl rfl (Y_assign (v := .int .i64 0) rfl rfl) ?_
    refine ss0 rfl rfl (Ys_store (i := 3) (s := 6) (B := some ⟨b3, 0, none⟩) (T' := 201) (v := .agg #[.int .i64 0, .slice none 0 0, .int .i64 0, .slice none 0 0, .slice none 0 0, .slice none 0 0]) (vs := [.int .i64 0, .slice none 0 0, .int .i64 0, .slice none 0 0, .slice none 0 0, .slice none 0 0]) (k := 0) (cs' := [.int .i64 0, .slice none 0 0, .int .i64 0, .slice none 0 0, .slice none 0 0, .slice none 0 0]) hS5 k_sz_201_6 rfl rfl rfl rfl rfl rfl rfl (Nat.le_of_ble_eq_true rfl) rfl rfl) ?_
    rintro _ w_5 ⟨rfl, hS6⟩
    have hS6 : ST w0 [] _ [⟨some ⟨b, 0, none⟩, 100, [.int .i64 g.Nodes, .slice B g.Edges.length c], 2⟩, ⟨some ⟨b1, 0, none⟩, 104, [.int .i64 c1.Qubits, .slice B1 c1.Gates.length c2], 2⟩, ⟨some ⟨b2, 0, none⟩, 108, [.slice B2 route.Start.length c3, .slice B3 route.Steps.length c4], 2⟩, ⟨some ⟨b3, 0, none⟩, 201, [.int .i64 0, .slice none 0 0, .int .i64 0, .slice none 0 0, .slice none 0 0, .slice none 0 0], 6⟩] [⟨B, (g.Edges.flatMap enc_Edge)⟩, ⟨B1, (c1.Gates.flatMap enc_Gate)⟩, ⟨B2, (route.Start.flatMap encI)⟩, ⟨B3, (route.Steps.flatMap enc_RouteStep)⟩] := hS6
    refine rw_nil ?_
    refine cw_ret ?_
    have hS7 : ST w0 [] _ [⟨some ⟨b, 0, none⟩, 100, [.int .i64 g.Nodes, .slice B g.Edges.length c], 2⟩, ⟨some ⟨b1, 0, none⟩, 104, [.int .i64 c1.Qubits, .slice B1 c1.Gates.length c2], 2⟩, ⟨some ⟨b2, 0, none⟩, 108, [.slice B2 route.Start.length c3, .slice B3 route.Steps.length c4], 2⟩, ⟨some ⟨b3, 0, none⟩, 201, [.int .i64 0, .slice none 0 0, .int .i64 0, .slice none 0 0, .slice none 0 0, .slice none 0 0], 6⟩] [⟨none, ([].flatMap enc_Edge)⟩, ⟨B, (g.Edges.flatMap enc_Edge)⟩, ⟨B1, (c1.Gates.flatMap enc_Gate)⟩, ⟨B2, (route.Start.flatMap encI)⟩, ⟨B3, (route.Steps.flatMap enc_RouteStep)⟩] := ST.nilRo hS6
    have hS8 : ST w0 [] _ [⟨some ⟨b, 0, none⟩, 100, [.int .i64 g.Nodes, .slice B g.Edges.length c], 2⟩, ⟨some ⟨b1, 0, none⟩, 104, [.int .i64 c1.Qubits, .slice B1 c1.Gates.length c2], 2⟩, ⟨some ⟨b2, 0, none⟩, 108, [.slice B2 route.Start.length c3, .slice B3 route.Steps.length c4], 2⟩, ⟨some ⟨b3, 0, none⟩, 201, [.int .i64 0, .slice none 0 0, .int .i64 0, .slice none 0 0, .slice none 0 0, .slice none 0 0], 6⟩] [⟨none, ([].flatMap enc_Gate)⟩, ⟨none, ([].flatMap enc_Edge)⟩, ⟨B, (g.Edges.flatMap enc_Edge)⟩, ⟨B1, (c1.Gates.flatMap enc_Gate)⟩, ⟨B2, (route.Start.flatMap encI)⟩, ⟨B3, (route.Steps.flatMap enc_RouteStep)⟩] := ST.nilRo hS7
    have hS9 := hS8.addNil 3
    have hS10 := hS9.addNil 4
    obtain ⟨rfl, rfl, rfl⟩ := pr3 (some_inj hF1)
    exact ret3 Try.results155 (v1 := .int .i64 1) (resAt_tmp rfl) (v2 := .int .i64 0) (resAt_tmp rfl) (v3 := .agg #[.int .i64 0, .slice none 0 0, .int .i64 0, .slice none 0 0, .slice none 0 0, .slice none 0 0]) (resAt_cellA (B := some ⟨b3, 0, none⟩) (i := 0) (cs := [.int .i64 0, .slice none 0 0, .int .i64 0, .slice none 0 0, .slice none 0 0, .slice none 0 0]) (vs := [.int .i64 0, .slice none 0 0, .int .i64 0, .slice none 0 0, .slice none 0 0, .slice none 0 0]) rfl k_ag_201 k_sz_201_6 (hS10.cf (i := 3) rfl) rfl rfl) ⟨none, 0, none, 0, none, 0, none, 0, rfl, (len_le rfl (Nat.le_refl 0)), (len_le rfl (Nat.le_refl 0)), (org_cons org_none (org_cons org_none org_nil)), (ST.subR (R' := [⟨none, ([].flatMap enc_Edge)⟩, ⟨none, ([].flatMap enc_Gate)⟩]) (hS10.sel [4, 5] rfl rfl) (subc (mem_at (i := 1) rfl) (subc (mem_at (i := 0) rfl) (fun _ h => by cases h))))⟩
  · skip
    have hF2 := cf' hF hb
    refine cw_skip ?_
    refine cw_seq ?_
    refine cw_region ?_
    refine sq 21 rfl rfl (Y_loadA (B := some ⟨b, 0, none⟩) (i := 0) (cs := [.int .i64 g.Nodes, .slice B g.Edges.length c]) (vs := [.int .i64 g.Nodes, .slice B g.Edges.length c]) k_ag_100 k_sz_100_2 rfl rfl (hS5.cf (i := 0) rfl) rfl rfl) ?_
    refine sq 22 rfl rfl (Y_loadA (B := some ⟨b1, 0, none⟩) (i := 0) (cs := [.int .i64 c1.Qubits, .slice B1 c1.Gates.length c2]) (vs := [.int .i64 c1.Qubits, .slice B1 c1.Gates.length c2]) k_ag_104 k_sz_104_2 rfl rfl (hS5.cf (i := 1) rfl) rfl rfl) ?_
    refine sq 23 rfl rfl (Y_fieldAddr (B := some ⟨b2, 0, none⟩) (i := 0) (s := 0) k_fd_108_0_0_59 k_sz_59_1 rfl rfl) ?_
    refine sq 24 rfl rfl (Y_load1 (B := some ⟨b2, 0, none⟩) (i := 0) (cs := [.slice B2 route.Start.length c3, .slice B3 route.Steps.length c4]) (v := .slice B2 route.Start.length c3) k_sc_59 rfl rfl (hS5.cf (i := 2) rfl) rfl) ?_
    obtain ⟨r_4, hc1, hF2⟩ := bind_inv hF2
    refine sc 25 rfl rfl (Yc_func (g := 164) (vs := [.agg #[.int .i64 g.Nodes, .slice B g.Edges.length c], .agg #[.int .i64 c1.Qubits, .slice B1 c1.Gates.length c2], .slice B2 route.Start.length c3]) k_call_164 rfl (mc rfl (mc rfl (mc rfl mn))) (c_impl_newRouting g c1 route.Start B c g.Edges.length B1 c2 c1.Gates.length B2 c3 route.Start.length _ rfl hq rfl hq1 rfl (hS5.inn0 [(true, 0), (true, 1), (true, 2)] rfl) hc1)) ?_
    rintro _ w_6 ⟨B8, c9, B9, c10, B10, c11, B11, c12, rfl, hq3, hq4, ho, hd1⟩
    have hS11 := ST.outR0 hS5 hd1 ho (subc (mem_at (i := 0) rfl) (subc (mem_at (i := 1) rfl) (subc (mem_at (i := 2) rfl) (fun _ h => by cases h))))
    have ho1 : Org w0 [] [⟨B, (g.Edges.flatMap enc_Edge)⟩, ⟨B1, (c1.Gates.flatMap enc_Gate)⟩, ⟨B2, (route.Start.flatMap encI)⟩, ⟨B3, (route.Steps.flatMap enc_RouteStep)⟩] [⟨B8, (r_4.g.Edges.flatMap enc_Edge)⟩, ⟨B9, (r_4.c.Gates.flatMap enc_Gate)⟩] := org_trans0 hS5 ho (org_cons (org_mem (i := 0) rfl) (org_cons (org_mem (i := 1) rfl) (org_cons (org_mem (i := 2) rfl) org_nil)))
    have hS12 : ST w0 [] _ [⟨some ⟨b, 0, none⟩, 100, [.int .i64 g.Nodes, .slice B g.Edges.length c], 2⟩, ⟨some ⟨b1, 0, none⟩, 104, [.int .i64 c1.Qubits, .slice B1 c1.Gates.length c2], 2⟩, ⟨some ⟨b2, 0, none⟩, 108, [.slice B2 route.Start.length c3, .slice B3 route.Steps.length c4], 2⟩, ⟨some ⟨b3, 0, none⟩, 201, [.int .i64 0, .slice none 0 0, .int .i64 0, .slice none 0 0, .slice none 0 0, .slice none 0 0], 6⟩, ⟨B10, 3, (r_4.place.flatMap encI), c11 * 1⟩, ⟨B11, 4, (r_4.done.flatMap encB), c12 * 1⟩] [⟨B8, (r_4.g.Edges.flatMap enc_Edge)⟩, ⟨B9, (r_4.c.Gates.flatMap enc_Gate)⟩, ⟨B, (g.Edges.flatMap enc_Edge)⟩, ⟨B1, (c1.Gates.flatMap enc_Gate)⟩, ⟨B2, (route.Start.flatMap encI)⟩, ⟨B3, (route.Steps.flatMap enc_RouteStep)⟩] := hS11
    have hS12 : ST w0 [] _ [⟨some ⟨b, 0, none⟩, 100, [.int .i64 g.Nodes, .slice B g.Edges.length c], 2⟩, ⟨some ⟨b1, 0, none⟩, 104, [.int .i64 c1.Qubits, .slice B1 c1.Gates.length c2], 2⟩, ⟨some ⟨b2, 0, none⟩, 108, [.slice B2 route.Start.length c3, .slice B3 route.Steps.length c4], 2⟩, ⟨some ⟨b3, 0, none⟩, 201, [.int .i64 0, .slice none 0 0, .int .i64 0, .slice none 0 0, .slice none 0 0, .slice none 0 0], 6⟩, ⟨B10, 3, (r_4.place.flatMap encI), c11 * 1⟩, ⟨B11, 4, (r_4.done.flatMap encB), c12 * 1⟩] [⟨B8, (r_4.g.Edges.flatMap enc_Edge)⟩, ⟨B9, (r_4.c.Gates.flatMap enc_Gate)⟩, ⟨B, (g.Edges.flatMap enc_Edge)⟩, ⟨B1, (c1.Gates.flatMap enc_Gate)⟩, ⟨B2, (route.Start.flatMap encI)⟩, ⟨B3, (route.Steps.flatMap enc_RouteStep)⟩] := hS12
    refine ss 9 rfl rfl (Ys_alloc (T := 201) (cs := [.int .i64 0, .slice none 0 0, .int .i64 0, .slice none 0 0, .slice none 0 0, .slice none 0 0]) (m := 6) hS12 k_zero_201 rfl rfl rfl) ?_
    rintro _ w_7 ⟨b4, rfl, hS13⟩
    have hS13 : ST w0 [] _ [⟨some ⟨b, 0, none⟩, 100, [.int .i64 g.Nodes, .slice B g.Edges.length c], 2⟩, ⟨some ⟨b1, 0, none⟩, 104, [.int .i64 c1.Qubits, .slice B1 c1.Gates.length c2], 2⟩, ⟨some ⟨b2, 0, none⟩, 108, [.slice B2 route.Start.length c3, .slice B3 route.Steps.length c4], 2⟩, ⟨some ⟨b3, 0, none⟩, 201, [.int .i64 0, .slice none 0 0, .int .i64 0, .slice none 0 0, .slice none 0 0, .slice none 0 0], 6⟩, ⟨B10, 3, (r_4.place.flatMap encI), c11 * 1⟩, ⟨B11, 4, (r_4.done.flatMap encB), c12 * 1⟩, ⟨some ⟨b4, 0, none⟩, 201, [.int .i64 0, .slice none 0 0, .int .i64 0, .slice none 0 0, .slice none 0 0, .slice none 0 0], 6⟩] [⟨B8, (r_4.g.Edges.flatMap enc_Edge)⟩, ⟨B9, (r_4.c.Gates.flatMap enc_Gate)⟩, ⟨B, (g.Edges.flatMap enc_Edge)⟩, ⟨B1, (c1.Gates.flatMap enc_Gate)⟩, ⟨B2, (route.Start.flatMap encI)⟩, ⟨B3, (route.Steps.flatMap enc_RouteStep)⟩] := hS13
    refine ss0 rfl rfl (Ys_store (i := 6) (s := 6) (B := some ⟨b4, 0, none⟩) (T' := 201) (v := .agg #[.int .i64 r_4.g.Nodes, .slice B8 r_4.g.Edges.length c9, .int .i64 r_4.c.Qubits, .slice B9 r_4.c.Gates.length c10, .slice B10 r_4.place.length c11, .slice B11 r_4.done.length c12]) (vs := [.int .i64 r_4.g.Nodes, .slice B8 r_4.g.Edges.length c9, .int .i64 r_4.c.Qubits, .slice B9 r_4.c.Gates.length c10, .slice B10 r_4.place.length c11, .slice B11 r_4.done.length c12]) (k := 0) (cs' := [.int .i64 r_4.g.Nodes, .slice B8 r_4.g.Edges.length c9, .int .i64 r_4.c.Qubits, .slice B9 r_4.c.Gates.length c10, .slice B10 r_4.place.length c11, .slice B11 r_4.done.length c12]) hS13 k_sz_201_6 rfl rfl rfl rfl rfl rfl rfl (Nat.le_of_ble_eq_true rfl) rfl rfl) ?_
    rintro _ w_8 ⟨rfl, hS14⟩
    have hS14 : ST w0 [] _ [⟨some ⟨b, 0, none⟩, 100, [.int .i64 g.Nodes, .slice B g.Edges.length c], 2⟩, ⟨some ⟨b1, 0, none⟩, 104, [.int .i64 c1.Qubits, .slice B1 c1.Gates.length c2], 2⟩, ⟨some ⟨b2, 0, none⟩, 108, [.slice B2 route.Start.length c3, .slice B3 route.Steps.length c4], 2⟩, ⟨some ⟨b3, 0, none⟩, 201, [.int .i64 0, .slice none 0 0, .int .i64 0, .slice none 0 0, .slice none 0 0, .slice none 0 0], 6⟩, ⟨B10, 3, (r_4.place.flatMap encI), c11 * 1⟩, ⟨B11, 4, (r_4.done.flatMap encB), c12 * 1⟩, ⟨some ⟨b4, 0, none⟩, 201, [.int .i64 r_4.g.Nodes, .slice B8 r_4.g.Edges.length c9, .int .i64 r_4.c.Qubits, .slice B9 r_4.c.Gates.length c10, .slice B10 r_4.place.length c11, .slice B11 r_4.done.length c12], 6⟩] [⟨B8, (r_4.g.Edges.flatMap enc_Edge)⟩, ⟨B9, (r_4.c.Gates.flatMap enc_Gate)⟩, ⟨B, (g.Edges.flatMap enc_Edge)⟩, ⟨B1, (c1.Gates.flatMap enc_Gate)⟩, ⟨B2, (route.Start.flatMap encI)⟩, ⟨B3, (route.Steps.flatMap enc_RouteStep)⟩] := hS14
    refine rw_nil ?_
    refine cw_seq ?_
    refine cw_seq ?_
    refine cw_region ?_
    refine sq 26 rfl rfl (Y_fieldAddr (B := some ⟨b2, 0, none⟩) (i := 0) (s := 0) k_fd_108_1_1_106 k_sz_106_1 rfl rfl) ?_
    refine sq 27 rfl rfl (Y_load1 (B := some ⟨b2, 0, none⟩) (i := 1) (cs := [.slice B2 route.Start.length c3, .slice B3 route.Steps.length c4]) (v := .slice B3 route.Steps.length c4) k_sc_106 rfl rfl (hS14.cf (i := 2) rfl) rfl) ?_
    refine sq 28 rfl rfl (Y_len (B := B3) (m := route.Steps.length) (c := c4) k_sl_106_211 rfl rfl) ?_
    refine sq 29 rfl rfl (Y_move (v := .int .i64 0) rfl rfl) ?_
    refine rw_nil ?_
    obtain ⟨hN, hF2⟩ := chk_inv hF2
    obtain ⟨z, hz, hF3⟩ := bind_inv hF2
    refine cw_block ?_
    refine cw_loop (fun k f w => ∃ (i : Nat) (place : List Int) (done : List Bool), FF f [(5, pt (some ⟨b2, 0, none⟩) 0), (8, pt (some ⟨b3, 0, none⟩) 0), (9, pt (some ⟨b4, 0, none⟩) 0), (27, .slice B3 route.Steps.length c4), (28, .int .i64 (route.Steps.length : Int)), (29, .int .i64 (i : Int))] ∧ place.length = r_4.place.length ∧ done.length = r_4.done.length ∧ ST w0 [] w [⟨some ⟨b2, 0, none⟩, 108, [.slice B2 route.Start.length c3, .slice B3 route.Steps.length c4], 2⟩, ⟨some ⟨b3, 0, none⟩, 201, [.int .i64 0, .slice none 0 0, .int .i64 0, .slice none 0 0, .slice none 0 0, .slice none 0 0], 6⟩, ⟨some ⟨b4, 0, none⟩, 201, [.int .i64 r_4.g.Nodes, .slice B8 r_4.g.Edges.length c9, .int .i64 r_4.c.Qubits, .slice B9 r_4.c.Gates.length c10, .slice B10 r_4.place.length c11, .slice B11 r_4.done.length c12], 6⟩, ⟨B10, 3, (place.flatMap encI), c11 * 1⟩, ⟨B11, 4, (done.flatMap encB), c12 * 1⟩] [⟨B8, (r_4.g.Edges.flatMap enc_Edge)⟩, ⟨B9, (r_4.c.Gates.flatMap enc_Gate)⟩, ⟨B, (g.Edges.flatMap enc_Edge)⟩, ⟨B1, (c1.Gates.flatMap enc_Gate)⟩, ⟨B2, (route.Start.flatMap encI)⟩, ⟨B3, (route.Steps.flatMap enc_RouteStep)⟩] ∧ i + k = route.Steps.length ∧ forX (F_impl_check_l1 route r_4 g) k i (place, done) = some z) route.Steps.length ⟨0, r_4.place, r_4.done, (FF.cons rfl (FF.cons rfl (FF.cons rfl (FF.cons rfl (FF.cons rfl (FF.cons rfl FF.nil)))))), rfl, rfl, (hS14.sel [2, 3, 6, 4, 5] rfl rfl), Nat.zero_add _, hz⟩ ?_
    rintro k_ f w ⟨i, place, done, hf, hl, hl1, hS15, hik, hL⟩
    refine cw_seq ?_
    refine cw_region ?_
    refine sq 30 rfl rfl (Y_lt (k := .i64) (a := (i : Int)) (b := (route.Steps.length : Int)) rfl (hf.get 29 5 rfl) (hf.get 28 4 rfl)) ?_
    refine rw_nil ?_
    refine cw_seq ?_
    refine cw_cond (b := (decide ((i : Int) < (route.Steps.length : Int)))) rfl (fun hlt => ?_) (fun hlt => ?_)
    · skip
      have hlt1 : i < route.Steps.length := by have h := of_decide_eq_true hlt; omega
      obtain ⟨k_1, rfl⟩ : ∃ k2, k_ = k2 + 1 := ⟨k_ - 1, by omega⟩
      obtain ⟨y, hb1, hL1⟩ := forX_go hL
      unfold F_impl_check_l1 at hb1
      refine cw_skip ?_
      refine cw_seq ?_
      refine cw_block ?_
      refine cw_seq ?_
      refine cw_region ?_
      refine sq 31 rfl rfl (Y_move (v := .int .i64 (i : Int)) rfl (hf.get 29 5 rfl)) ?_
      obtain ⟨x, hx, hb1⟩ := bind_inv hb1
      refine sq 32 rfl rfl (Y_index (B := B3) (m := route.Steps.length) (c := c4) (k := .i64) (i := (i : Int)) k_sl_106_211 k_sz_211_3 rfl (hf.get 27 3 rfl) (hf.get 29 5 rfl) (gi_isSome enc_RouteStep_len rfl (hS15.rf (i := 5) rfl) hx) (getI_nn hx) (getI_ltI hx rfl)) ?_
      refine sq 33 rfl rfl (Y_loadA (B := B3) (i := (i : Int).toNat * 3) (cs := (route.Steps.flatMap enc_RouteStep)) (vs := [.int .i64 x.Gate, .int .i64 x.A, .int .i64 x.B]) k_ag_211 k_sz_211_3 rfl rfl (hS15.rf (i := 5) rfl) (enc_RouteStep_len x) (gi_seg enc_RouteStep_len hx)) ?_
      refine ss 11 rfl rfl (Ys_alloc (T := 211) (cs := [.int .i64 0, .int .i64 0, .int .i64 0]) (m := 3) hS15 k_zero_211 rfl rfl rfl) ?_
      rintro _ w_9 ⟨b5, rfl, hS16⟩
      have hS16 : ST w0 [] _ [⟨some ⟨b2, 0, none⟩, 108, [.slice B2 route.Start.length c3, .slice B3 route.Steps.length c4], 2⟩, ⟨some ⟨b3, 0, none⟩, 201, [.int .i64 0, .slice none 0 0, .int .i64 0, .slice none 0 0, .slice none 0 0, .slice none 0 0], 6⟩, ⟨some ⟨b4, 0, none⟩, 201, [.int .i64 r_4.g.Nodes, .slice B8 r_4.g.Edges.length c9, .int .i64 r_4.c.Qubits, .slice B9 r_4.c.Gates.length c10, .slice B10 r_4.place.length c11, .slice B11 r_4.done.length c12], 6⟩, ⟨B10, 3, (place.flatMap encI), c11 * 1⟩, ⟨B11, 4, (done.flatMap encB), c12 * 1⟩, ⟨some ⟨b5, 0, none⟩, 211, [.int .i64 0, .int .i64 0, .int .i64 0], 3⟩] [⟨B8, (r_4.g.Edges.flatMap enc_Edge)⟩, ⟨B9, (r_4.c.Gates.flatMap enc_Gate)⟩, ⟨B, (g.Edges.flatMap enc_Edge)⟩, ⟨B1, (c1.Gates.flatMap enc_Gate)⟩, ⟨B2, (route.Start.flatMap encI)⟩, ⟨B3, (route.Steps.flatMap enc_RouteStep)⟩] := hS16
      refine sq 10 rfl rfl (Y_assign (v := .int .i64 (i : Int)) rfl rfl) ?_
      refine ss0 rfl rfl (Ys_store (i := 5) (s := 3) (B := some ⟨b5, 0, none⟩) (T' := 211) (v := .agg #[.int .i64 x.Gate, .int .i64 x.A, .int .i64 x.B]) (vs := [.int .i64 x.Gate, .int .i64 x.A, .int .i64 x.B]) (k := 0) (cs' := [.int .i64 x.Gate, .int .i64 x.A, .int .i64 x.B]) hS16 k_sz_211_3 rfl rfl rfl rfl rfl rfl rfl (Nat.le_of_ble_eq_true rfl) rfl rfl) ?_
      rintro _ w_10 ⟨rfl, hS17⟩
      have hS17 : ST w0 [] _ [⟨some ⟨b2, 0, none⟩, 108, [.slice B2 route.Start.length c3, .slice B3 route.Steps.length c4], 2⟩, ⟨some ⟨b3, 0, none⟩, 201, [.int .i64 0, .slice none 0 0, .int .i64 0, .slice none 0 0, .slice none 0 0, .slice none 0 0], 6⟩, ⟨some ⟨b4, 0, none⟩, 201, [.int .i64 r_4.g.Nodes, .slice B8 r_4.g.Edges.length c9, .int .i64 r_4.c.Qubits, .slice B9 r_4.c.Gates.length c10, .slice B10 r_4.place.length c11, .slice B11 r_4.done.length c12], 6⟩, ⟨B10, 3, (place.flatMap encI), c11 * 1⟩, ⟨B11, 4, (done.flatMap encB), c12 * 1⟩, ⟨some ⟨b5, 0, none⟩, 211, [.int .i64 x.Gate, .int .i64 x.A, .int .i64 x.B], 3⟩] [⟨B8, (r_4.g.Edges.flatMap enc_Edge)⟩, ⟨B9, (r_4.c.Gates.flatMap enc_Gate)⟩, ⟨B, (g.Edges.flatMap enc_Edge)⟩, ⟨B1, (c1.Gates.flatMap enc_Gate)⟩, ⟨B2, (route.Start.flatMap encI)⟩, ⟨B3, (route.Steps.flatMap enc_RouteStep)⟩] := hS17
      refine rw_nil ?_
      refine cw_seq ?_
      refine cw_region ?_
      refine sq 34 rfl rfl (Y_loadA (B := some ⟨b4, 0, none⟩) (i := 0) (cs := [.int .i64 r_4.g.Nodes, .slice B8 r_4.g.Edges.length c9, .int .i64 r_4.c.Qubits, .slice B9 r_4.c.Gates.length c10, .slice B10 r_4.place.length c11, .slice B11 r_4.done.length c12]) (vs := [.int .i64 r_4.g.Nodes, .slice B8 r_4.g.Edges.length c9, .int .i64 r_4.c.Qubits, .slice B9 r_4.c.Gates.length c10, .slice B10 r_4.place.length c11, .slice B11 r_4.done.length c12]) k_ag_201 k_sz_201_6 rfl (hf.get 9 2 rfl) (hS17.cf (i := 2) rfl) rfl rfl) ?_
      refine sq 35 rfl rfl (Y_loadA (B := some ⟨b5, 0, none⟩) (i := 0) (cs := [.int .i64 x.Gate, .int .i64 x.A, .int .i64 x.B]) (vs := [.int .i64 x.Gate, .int .i64 x.A, .int .i64 x.B]) k_ag_211 k_sz_211_3 rfl rfl (hS17.cf (i := 5) rfl) rfl rfl) ?_
      obtain ⟨⟨r_5, m, m1⟩, hc2, hb1⟩ := bind_inv hb1
      refine sc 36 rfl rfl (Yc_func (g := 166) (vs := [.agg #[.int .i64 r_4.g.Nodes, .slice B8 r_4.g.Edges.length c9, .int .i64 r_4.c.Qubits, .slice B9 r_4.c.Gates.length c10, .slice B10 r_4.place.length c11, .slice B11 r_4.done.length c12], .agg #[.int .i64 x.Gate, .int .i64 x.A, .int .i64 x.B]]) k_call_166 rfl (mc rfl (mc rfl mn)) (c_impl_routing_step (Trouting.mk r_4.g r_4.c place done) x B8 c9 r_4.g.Edges.length B9 c10 r_4.c.Gates.length B10 c11 r_4.place.length B11 c12 r_4.done.length _ rfl rfl hq4 hl hl1 (hS17.inn [false, false, false, true, true, false] rfl [(true, 0), (true, 1)] rfl) hc2)) ?_
      rintro _ w_11 ⟨rfl, hl2, hl3, hd2⟩
      have hS18 := hS17.out [false, false, false, true, true, false] rfl hd2
      have hS18 : ST w0 [] _ [⟨some ⟨b2, 0, none⟩, 108, [.slice B2 route.Start.length c3, .slice B3 route.Steps.length c4], 2⟩, ⟨some ⟨b3, 0, none⟩, 201, [.int .i64 0, .slice none 0 0, .int .i64 0, .slice none 0 0, .slice none 0 0, .slice none 0 0], 6⟩, ⟨some ⟨b4, 0, none⟩, 201, [.int .i64 r_4.g.Nodes, .slice B8 r_4.g.Edges.length c9, .int .i64 r_4.c.Qubits, .slice B9 r_4.c.Gates.length c10, .slice B10 r_4.place.length c11, .slice B11 r_4.done.length c12], 6⟩, ⟨some ⟨b5, 0, none⟩, 211, [.int .i64 x.Gate, .int .i64 x.A, .int .i64 x.B], 3⟩, ⟨B10, 3, (m.flatMap encI), c11 * 1⟩, ⟨B11, 4, (m1.flatMap encB), c12 * 1⟩] [⟨B8, (r_4.g.Edges.flatMap enc_Edge)⟩, ⟨B9, (r_4.c.Gates.flatMap enc_Gate)⟩, ⟨B, (g.Edges.flatMap enc_Edge)⟩, ⟨B1, (c1.Gates.flatMap enc_Gate)⟩, ⟨B2, (route.Start.flatMap encI)⟩, ⟨B3, (route.Steps.flatMap enc_RouteStep)⟩] := hS18
      refine sq 12 rfl rfl (Y_assign (v := .int .i64 r_5) rfl rfl) ?_
      refine rw_nil ?_
      refine cw_seq ?_
      refine cw_region ?_
      refine sq 37 rfl rfl (Y_move (v := .int .i64 r_5) rfl rfl) ?_
      refine sq 38 rfl rfl (Y_ne (k := .i64) (a := r_5) (b := 0) rfl rfl rfl) ?_
      refine rw_nil ?_
      refine cw_cond (b := (r_5 != 0)) rfl (fun hb2 => ?_) (fun hb2 => ?_)
      · skip
        have hF4 := ct hb1 hb2
        refine cw_seq ?_
        refine ra_start (ST.sel hS18 [0, 2, 3, 4, 5] rfl rfl).fn (by kernel_rfl) ?_
        have hS19 := hS18.drew
        refine ra_q 0 39 (v := .int .i64 r_5) rfl rfl rfl (by kernel_rfl) (by kernel_rfl) (by kernel_rfl) (ST.sel hS19 [0, 2, 3, 4, 5] rfl rfl) (fun w' hw' => (Y_move (v := .int .i64 r_5) rfl rfl)) ?_
        refine ra_q 1 40 (v := .int .i64 (i : Int)) rfl rfl rfl (by kernel_rfl) (by kernel_rfl) (by kernel_rfl) (ST.sel hS19 [0, 2, 3, 4, 5] rfl rfl) (fun w' hw' => (Y_move (v := .int .i64 (i : Int)) rfl rfl)) ?_
        refine ra_q 2 41 (v := .agg #[.int .i64 r_4.g.Nodes, .slice B8 r_4.g.Edges.length c9, .int .i64 r_4.c.Qubits, .slice B9 r_4.c.Gates.length c10, .slice B10 r_4.place.length c11, .slice B11 r_4.done.length c12]) rfl rfl rfl (by kernel_rfl) (by kernel_rfl) (by kernel_rfl) (ST.sel hS19 [0, 2, 3, 4, 5] rfl rfl) (fun w' hw' => (Y_loadA (B := some ⟨b4, 0, none⟩) (i := 0) (cs := [.int .i64 r_4.g.Nodes, .slice B8 r_4.g.Edges.length c9, .int .i64 r_4.c.Qubits, .slice B9 r_4.c.Gates.length c10, .slice B10 r_4.place.length c11, .slice B11 r_4.done.length c12]) (vs := [.int .i64 r_4.g.Nodes, .slice B8 r_4.g.Edges.length c9, .int .i64 r_4.c.Qubits, .slice B9 r_4.c.Gates.length c10, .slice B10 r_4.place.length c11, .slice B11 r_4.done.length c12]) k_ag_201 k_sz_201_6 rfl (hf.get 9 2 rfl) (ST.cf hw' (i := 1) rfl) rfl rfl)) ?_
        refine ra_q 3 6 (v := .int .i64 r_5) rfl rfl rfl (by kernel_rfl) (by kernel_rfl) (by kernel_rfl) (ST.sel hS19 [0, 2, 3, 4, 5] rfl rfl) (fun w' hw' => (Y_assign (v := .int .i64 r_5) rfl rfl)) ?_
        refine ra_q 4 7 (v := .int .i64 (i : Int)) rfl rfl rfl (by kernel_rfl) (by kernel_rfl) (by kernel_rfl) (ST.sel hS19 [0, 2, 3, 4, 5] rfl rfl) (fun w' hw' => (Y_assign (v := .int .i64 (i : Int)) rfl rfl)) ?_
        refine ra_all (rs := [5]) (by kernel_rfl) rfl ?_
        refine ra_s0 (i := 5) rfl rfl rfl (Ys_store (i := 1) (s := 6) (B := some ⟨b3, 0, none⟩) (T' := 201) (v := .agg #[.int .i64 r_4.g.Nodes, .slice B8 r_4.g.Edges.length c9, .int .i64 r_4.c.Qubits, .slice B9 r_4.c.Gates.length c10, .slice B10 r_4.place.length c11, .slice B11 r_4.done.length c12]) (vs := [.int .i64 r_4.g.Nodes, .slice B8 r_4.g.Edges.length c9, .int .i64 r_4.c.Qubits, .slice B9 r_4.c.Gates.length c10, .slice B10 r_4.place.length c11, .slice B11 r_4.done.length c12]) (k := 0) (cs' := [.int .i64 r_4.g.Nodes, .slice B8 r_4.g.Edges.length c9, .int .i64 r_4.c.Qubits, .slice B9 r_4.c.Gates.length c10, .slice B10 r_4.place.length c11, .slice B11 r_4.done.length c12]) hS19 k_sz_201_6 rfl (hf.get 8 1 rfl) rfl rfl rfl rfl rfl (Nat.le_of_ble_eq_true rfl) rfl rfl) ?_ ?_
        · rintro _ w_12 ⟨rfl, hS20⟩
          have hS20 : ST w0 [] _ [⟨some ⟨b2, 0, none⟩, 108, [.slice B2 route.Start.length c3, .slice B3 route.Steps.length c4], 2⟩, ⟨some ⟨b3, 0, none⟩, 201, [.int .i64 r_4.g.Nodes, .slice B8 r_4.g.Edges.length c9, .int .i64 r_4.c.Qubits, .slice B9 r_4.c.Gates.length c10, .slice B10 r_4.place.length c11, .slice B11 r_4.done.length c12], 6⟩, ⟨some ⟨b4, 0, none⟩, 201, [.int .i64 r_4.g.Nodes, .slice B8 r_4.g.Edges.length c9, .int .i64 r_4.c.Qubits, .slice B9 r_4.c.Gates.length c10, .slice B10 r_4.place.length c11, .slice B11 r_4.done.length c12], 6⟩, ⟨some ⟨b5, 0, none⟩, 211, [.int .i64 x.Gate, .int .i64 x.A, .int .i64 x.B], 3⟩, ⟨B10, 3, (m.flatMap encI), c11 * 1⟩, ⟨B11, 4, (m1.flatMap encB), c12 * 1⟩] [⟨B8, (r_4.g.Edges.flatMap enc_Edge)⟩, ⟨B9, (r_4.c.Gates.flatMap enc_Gate)⟩, ⟨B, (g.Edges.flatMap enc_Edge)⟩, ⟨B1, (c1.Gates.flatMap enc_Gate)⟩, ⟨B2, (route.Start.flatMap encI)⟩, ⟨B3, (route.Steps.flatMap enc_RouteStep)⟩] := hS20
          refine ⟨(ST.sel hS20 [0, 2, 3, 4, 5] rfl rfl), ?_⟩
          refine ra_done (by kernel_rfl) ?_
          refine cw_ret ?_
          obtain rfl := some_inj hF4
          obtain rfl := some_inj hL1
          obtain ⟨rfl, rfl, rfl⟩ := pr3 (some_inj hF3)
          exact ret3 Try.results155 (v1 := .int .i64 r_5) (resAt_tmp rfl) (v2 := .int .i64 (i : Int)) (resAt_tmp rfl) (v3 := .agg #[.int .i64 r_4.g.Nodes, .slice B8 r_4.g.Edges.length c9, .int .i64 r_4.c.Qubits, .slice B9 r_4.c.Gates.length c10, .slice B10 r_4.place.length c11, .slice B11 r_4.done.length c12]) (resAt_cellA (B := some ⟨b3, 0, none⟩) (i := 0) (cs := [.int .i64 r_4.g.Nodes, .slice B8 r_4.g.Edges.length c9, .int .i64 r_4.c.Qubits, .slice B9 r_4.c.Gates.length c10, .slice B10 r_4.place.length c11, .slice B11 r_4.done.length c12]) (vs := [.int .i64 r_4.g.Nodes, .slice B8 r_4.g.Edges.length c9, .int .i64 r_4.c.Qubits, .slice B9 r_4.c.Gates.length c10, .slice B10 r_4.place.length c11, .slice B11 r_4.done.length c12]) (hf.get 8 1 rfl) k_ag_201 k_sz_201_6 (hS20.cf (i := 1) rfl) rfl rfl) ⟨B8, c9, B9, c10, B10, c11, B11, c12, (by simp [hl2, hl3]), (len_le rfl hq3), (len_le rfl hq4), (org_cons (org_sub ho1 (subc (mem_at (i := 0) rfl) (fun _ h => by cases h))) (org_cons (org_sub ho1 (subc (mem_at (i := 1) rfl) (fun _ h => by cases h))) org_nil)), (ST.subR (R' := [⟨B8, (r_4.g.Edges.flatMap enc_Edge)⟩, ⟨B9, (r_4.c.Gates.flatMap enc_Gate)⟩]) (hS20.sel [4, 5] rfl rfl) (subc (mem_at (i := 0) rfl) (subc (mem_at (i := 1) rfl) (fun _ h => by cases h))))⟩
        exact allR_nil
      · skip
        have hF5 := cf' hb1 hb2
        refine cw_skip ?_
        refine cw_region ?_
        refine sq 42 rfl rfl (Y_add (k := .i64) (a := (i : Int)) (b := 1) rfl (hf.get 29 5 rfl) rfl) ?_
        refine sq 29 rfl rfl (Y_move (v := .int .i64 (IntKind.i64.wrap ((i : Int) + 1))) rfl rfl) ?_
        refine rw_nil ?_
        obtain rfl := some_inj hF5
        exact ⟨k_1, Nat.lt_succ_self _, i + 1, m, m1, (FF.cons (hf.get 5 0 rfl) (FF.cons (hf.get 8 1 rfl) (FF.cons (hf.get 9 2 rfl) (FF.cons (hf.get 27 3 rfl) (FF.cons (hf.get 28 4 rfl) (FF.cons (congrArg (Value.int .i64) (wr_succ hlt1 hN)) FF.nil)))))), hl2, hl3, (hS18.sel [0, 1, 2, 4, 5] rfl rfl), (by omega), hL1⟩
    · skip
      obtain rfl : k_ = 0 := by have h := of_decide_eq_false hlt; omega
      refine cw_exit rfl ?_
      obtain rfl := some_inj hL
      refine cw_seq ?_
      refine cw_seq ?_
      refine cw_region ?_
      refine sq 43 rfl rfl (Y_fieldAddr (B := some ⟨b4, 0, none⟩) (i := 0) (s := 0) k_fd_201_3_5_199 k_sz_199_1 rfl (hf.get 9 2 rfl)) ?_
      refine sq 44 rfl rfl (Y_load1 (B := some ⟨b4, 0, none⟩) (i := 5) (cs := [.int .i64 r_4.g.Nodes, .slice B8 r_4.g.Edges.length c9, .int .i64 r_4.c.Qubits, .slice B9 r_4.c.Gates.length c10, .slice B10 r_4.place.length c11, .slice B11 r_4.done.length c12]) (v := .slice B11 r_4.done.length c12) k_sc_199 rfl rfl (hS15.cf (i := 2) rfl) rfl) ?_
      obtain ⟨r_6, hc3, hF3⟩ := bind_inv hF3
      refine sc 45 rfl rfl (Yc_func (g := 245) (vs := [.slice B11 r_4.done.length c12, .bool false]) k_call_245 rfl (mc rfl (mc rfl mn)) (c_slices_Contains_bool_bool done false B11 c12 r_4.done.length _ hl1 (hS15.inn0 [(false, 4)] rfl) hc3)) ?_
      rintro _ w_13 ⟨rfl, hd3⟩
      have hS21 := hS15.out00 hd3
      have hS21 : ST w0 [] _ [⟨some ⟨b2, 0, none⟩, 108, [.slice B2 route.Start.length c3, .slice B3 route.Steps.length c4], 2⟩, ⟨some ⟨b3, 0, none⟩, 201, [.int .i64 0, .slice none 0 0, .int .i64 0, .slice none 0 0, .slice none 0 0, .slice none 0 0], 6⟩, ⟨some ⟨b4, 0, none⟩, 201, [.int .i64 r_4.g.Nodes, .slice B8 r_4.g.Edges.length c9, .int .i64 r_4.c.Qubits, .slice B9 r_4.c.Gates.length c10, .slice B10 r_4.place.length c11, .slice B11 r_4.done.length c12], 6⟩, ⟨B10, 3, (place.flatMap encI), c11 * 1⟩, ⟨B11, 4, (done.flatMap encB), c12 * 1⟩] [⟨B8, (r_4.g.Edges.flatMap enc_Edge)⟩, ⟨B9, (r_4.c.Gates.flatMap enc_Gate)⟩, ⟨B, (g.Edges.flatMap enc_Edge)⟩, ⟨B1, (c1.Gates.flatMap enc_Gate)⟩, ⟨B2, (route.Start.flatMap encI)⟩, ⟨B3, (route.Steps.flatMap enc_RouteStep)⟩] := hS21
      refine rw_nil ?_
      refine cw_cond (b := r_6) rfl (fun hb3 => ?_) (fun hb3 => ?_)
      · skip
        have hF6 := ct hF3 hb3
        refine cw_seq ?_
        refine ra_start (ST.sel hS21 [0, 2, 3, 4] rfl rfl).fn (by kernel_rfl) ?_
        have hS22 := hS21.drew
        refine ra_q 0 46 (v := pt (some ⟨b2, 0, none⟩) 1) rfl rfl rfl (by kernel_rfl) (by kernel_rfl) (by kernel_rfl) (ST.sel hS22 [0, 2, 3, 4] rfl rfl) (fun w' hw' => (Y_fieldAddr (B := some ⟨b2, 0, none⟩) (i := 0) (s := 0) k_fd_108_1_1_106 k_sz_106_1 rfl (hf.get 5 0 rfl))) ?_
        refine ra_q 1 47 (v := .slice B3 route.Steps.length c4) rfl rfl rfl (by kernel_rfl) (by kernel_rfl) (by kernel_rfl) (ST.sel hS22 [0, 2, 3, 4] rfl rfl) (fun w' hw' => (Y_load1 (B := some ⟨b2, 0, none⟩) (i := 1) (cs := [.slice B2 route.Start.length c3, .slice B3 route.Steps.length c4]) (v := .slice B3 route.Steps.length c4) k_sc_106 rfl rfl (ST.cf hw' (i := 0) rfl) rfl)) ?_
        refine ra_q 2 48 (v := .int .i64 (route.Steps.length : Int)) rfl rfl rfl (by kernel_rfl) (by kernel_rfl) (by kernel_rfl) (ST.sel hS22 [0, 2, 3, 4] rfl rfl) (fun w' hw' => (Y_len (B := B3) (m := route.Steps.length) (c := c4) k_sl_106_211 rfl rfl)) ?_
        refine ra_q 3 49 (v := .agg #[.int .i64 r_4.g.Nodes, .slice B8 r_4.g.Edges.length c9, .int .i64 r_4.c.Qubits, .slice B9 r_4.c.Gates.length c10, .slice B10 r_4.place.length c11, .slice B11 r_4.done.length c12]) rfl rfl rfl (by kernel_rfl) (by kernel_rfl) (by kernel_rfl) (ST.sel hS22 [0, 2, 3, 4] rfl rfl) (fun w' hw' => (Y_loadA (B := some ⟨b4, 0, none⟩) (i := 0) (cs := [.int .i64 r_4.g.Nodes, .slice B8 r_4.g.Edges.length c9, .int .i64 r_4.c.Qubits, .slice B9 r_4.c.Gates.length c10, .slice B10 r_4.place.length c11, .slice B11 r_4.done.length c12]) (vs := [.int .i64 r_4.g.Nodes, .slice B8 r_4.g.Edges.length c9, .int .i64 r_4.c.Qubits, .slice B9 r_4.c.Gates.length c10, .slice B10 r_4.place.length c11, .slice B11 r_4.done.length c12]) k_ag_201 k_sz_201_6 rfl (hf.get 9 2 rfl) (ST.cf hw' (i := 1) rfl) rfl rfl)) ?_
        refine ra_q 4 6 (v := .int .i64 5) rfl rfl rfl (by kernel_rfl) (by kernel_rfl) (by kernel_rfl) (ST.sel hS22 [0, 2, 3, 4] rfl rfl) (fun w' hw' => (Y_assign (v := .int .i64 5) rfl rfl)) ?_
        refine ra_q 5 7 (v := .int .i64 (route.Steps.length : Int)) rfl rfl rfl (by kernel_rfl) (by kernel_rfl) (by kernel_rfl) (ST.sel hS22 [0, 2, 3, 4] rfl rfl) (fun w' hw' => (Y_assign (v := .int .i64 (route.Steps.length : Int)) rfl rfl)) ?_
        refine ra_all (rs := [6]) (by kernel_rfl) rfl ?_
        refine ra_s0 (i := 6) rfl rfl rfl (Ys_store (i := 1) (s := 6) (B := some ⟨b3, 0, none⟩) (T' := 201) (v := .agg #[.int .i64 r_4.g.Nodes, .slice B8 r_4.g.Edges.length c9, .int .i64 r_4.c.Qubits, .slice B9 r_4.c.Gates.length c10, .slice B10 r_4.place.length c11, .slice B11 r_4.done.length c12]) (vs := [.int .i64 r_4.g.Nodes, .slice B8 r_4.g.Edges.length c9, .int .i64 r_4.c.Qubits, .slice B9 r_4.c.Gates.length c10, .slice B10 r_4.place.length c11, .slice B11 r_4.done.length c12]) (k := 0) (cs' := [.int .i64 r_4.g.Nodes, .slice B8 r_4.g.Edges.length c9, .int .i64 r_4.c.Qubits, .slice B9 r_4.c.Gates.length c10, .slice B10 r_4.place.length c11, .slice B11 r_4.done.length c12]) hS22 k_sz_201_6 rfl (hf.get 8 1 rfl) rfl rfl rfl rfl rfl (Nat.le_of_ble_eq_true rfl) rfl rfl) ?_ ?_
        · rintro _ w_14 ⟨rfl, hS23⟩
          have hS23 : ST w0 [] _ [⟨some ⟨b2, 0, none⟩, 108, [.slice B2 route.Start.length c3, .slice B3 route.Steps.length c4], 2⟩, ⟨some ⟨b3, 0, none⟩, 201, [.int .i64 r_4.g.Nodes, .slice B8 r_4.g.Edges.length c9, .int .i64 r_4.c.Qubits, .slice B9 r_4.c.Gates.length c10, .slice B10 r_4.place.length c11, .slice B11 r_4.done.length c12], 6⟩, ⟨some ⟨b4, 0, none⟩, 201, [.int .i64 r_4.g.Nodes, .slice B8 r_4.g.Edges.length c9, .int .i64 r_4.c.Qubits, .slice B9 r_4.c.Gates.length c10, .slice B10 r_4.place.length c11, .slice B11 r_4.done.length c12], 6⟩, ⟨B10, 3, (place.flatMap encI), c11 * 1⟩, ⟨B11, 4, (done.flatMap encB), c12 * 1⟩] [⟨B8, (r_4.g.Edges.flatMap enc_Edge)⟩, ⟨B9, (r_4.c.Gates.flatMap enc_Gate)⟩, ⟨B, (g.Edges.flatMap enc_Edge)⟩, ⟨B1, (c1.Gates.flatMap enc_Gate)⟩, ⟨B2, (route.Start.flatMap encI)⟩, ⟨B3, (route.Steps.flatMap enc_RouteStep)⟩] := hS23
          refine ⟨(ST.sel hS23 [0, 2, 3, 4] rfl rfl), ?_⟩
          refine ra_done (by kernel_rfl) ?_
          refine cw_ret ?_
          obtain ⟨rfl, rfl, rfl⟩ := pr3 (some_inj hF6)
          exact ret3 Try.results155 (v1 := .int .i64 5) (resAt_tmp rfl) (v2 := .int .i64 (route.Steps.length : Int)) (resAt_tmp rfl) (v3 := .agg #[.int .i64 r_4.g.Nodes, .slice B8 r_4.g.Edges.length c9, .int .i64 r_4.c.Qubits, .slice B9 r_4.c.Gates.length c10, .slice B10 r_4.place.length c11, .slice B11 r_4.done.length c12]) (resAt_cellA (B := some ⟨b3, 0, none⟩) (i := 0) (cs := [.int .i64 r_4.g.Nodes, .slice B8 r_4.g.Edges.length c9, .int .i64 r_4.c.Qubits, .slice B9 r_4.c.Gates.length c10, .slice B10 r_4.place.length c11, .slice B11 r_4.done.length c12]) (vs := [.int .i64 r_4.g.Nodes, .slice B8 r_4.g.Edges.length c9, .int .i64 r_4.c.Qubits, .slice B9 r_4.c.Gates.length c10, .slice B10 r_4.place.length c11, .slice B11 r_4.done.length c12]) (hf.get 8 1 rfl) k_ag_201 k_sz_201_6 (hS23.cf (i := 1) rfl) rfl rfl) ⟨B8, c9, B9, c10, B10, c11, B11, c12, (by simp [hl, hl1]), (len_le rfl hq3), (len_le rfl hq4), (org_cons (org_sub ho1 (subc (mem_at (i := 0) rfl) (fun _ h => by cases h))) (org_cons (org_sub ho1 (subc (mem_at (i := 1) rfl) (fun _ h => by cases h))) org_nil)), (ST.subR (R' := [⟨B8, (r_4.g.Edges.flatMap enc_Edge)⟩, ⟨B9, (r_4.c.Gates.flatMap enc_Gate)⟩]) (hS23.sel [3, 4] rfl rfl) (subc (mem_at (i := 0) rfl) (subc (mem_at (i := 1) rfl) (fun _ h => by cases h))))⟩
        exact allR_nil
      · skip
        have hF7 := cf' hF3 hb3
        refine cw_skip ?_
        refine cw_seq ?_
        refine ra_start (ST.sel hS21 [0, 2, 3, 4] rfl rfl).fn (by kernel_rfl) ?_
        have hS24 := hS21.drew
        refine ra_q 0 50 (v := .agg #[.int .i64 r_4.g.Nodes, .slice B8 r_4.g.Edges.length c9, .int .i64 r_4.c.Qubits, .slice B9 r_4.c.Gates.length c10, .slice B10 r_4.place.length c11, .slice B11 r_4.done.length c12]) rfl rfl rfl (by kernel_rfl) (by kernel_rfl) (by kernel_rfl) (ST.sel hS24 [0, 2, 3, 4] rfl rfl) (fun w' hw' => (Y_loadA (B := some ⟨b4, 0, none⟩) (i := 0) (cs := [.int .i64 r_4.g.Nodes, .slice B8 r_4.g.Edges.length c9, .int .i64 r_4.c.Qubits, .slice B9 r_4.c.Gates.length c10, .slice B10 r_4.place.length c11, .slice B11 r_4.done.length c12]) (vs := [.int .i64 r_4.g.Nodes, .slice B8 r_4.g.Edges.length c9, .int .i64 r_4.c.Qubits, .slice B9 r_4.c.Gates.length c10, .slice B10 r_4.place.length c11, .slice B11 r_4.done.length c12]) k_ag_201 k_sz_201_6 rfl (hf.get 9 2 rfl) (ST.cf hw' (i := 1) rfl) rfl rfl)) ?_
        refine ra_q 1 6 (v := .int .i64 0) rfl rfl rfl (by kernel_rfl) (by kernel_rfl) (by kernel_rfl) (ST.sel hS24 [0, 2, 3, 4] rfl rfl) (fun w' hw' => (Y_assign (v := .int .i64 0) rfl rfl)) ?_
        refine ra_q 2 7 (v := .int .i64 0) rfl rfl rfl (by kernel_rfl) (by kernel_rfl) (by kernel_rfl) (ST.sel hS24 [0, 2, 3, 4] rfl rfl) (fun w' hw' => (Y_assign (v := .int .i64 0) rfl rfl)) ?_
        refine ra_all (rs := [3]) (by kernel_rfl) rfl ?_
        refine ra_s0 (i := 3) rfl rfl rfl (Ys_store (i := 1) (s := 6) (B := some ⟨b3, 0, none⟩) (T' := 201) (v := .agg #[.int .i64 r_4.g.Nodes, .slice B8 r_4.g.Edges.length c9, .int .i64 r_4.c.Qubits, .slice B9 r_4.c.Gates.length c10, .slice B10 r_4.place.length c11, .slice B11 r_4.done.length c12]) (vs := [.int .i64 r_4.g.Nodes, .slice B8 r_4.g.Edges.length c9, .int .i64 r_4.c.Qubits, .slice B9 r_4.c.Gates.length c10, .slice B10 r_4.place.length c11, .slice B11 r_4.done.length c12]) (k := 0) (cs' := [.int .i64 r_4.g.Nodes, .slice B8 r_4.g.Edges.length c9, .int .i64 r_4.c.Qubits, .slice B9 r_4.c.Gates.length c10, .slice B10 r_4.place.length c11, .slice B11 r_4.done.length c12]) hS24 k_sz_201_6 rfl (hf.get 8 1 rfl) rfl rfl rfl rfl rfl (Nat.le_of_ble_eq_true rfl) rfl rfl) ?_ ?_
        · rintro _ w_15 ⟨rfl, hS25⟩
          have hS25 : ST w0 [] _ [⟨some ⟨b2, 0, none⟩, 108, [.slice B2 route.Start.length c3, .slice B3 route.Steps.length c4], 2⟩, ⟨some ⟨b3, 0, none⟩, 201, [.int .i64 r_4.g.Nodes, .slice B8 r_4.g.Edges.length c9, .int .i64 r_4.c.Qubits, .slice B9 r_4.c.Gates.length c10, .slice B10 r_4.place.length c11, .slice B11 r_4.done.length c12], 6⟩, ⟨some ⟨b4, 0, none⟩, 201, [.int .i64 r_4.g.Nodes, .slice B8 r_4.g.Edges.length c9, .int .i64 r_4.c.Qubits, .slice B9 r_4.c.Gates.length c10, .slice B10 r_4.place.length c11, .slice B11 r_4.done.length c12], 6⟩, ⟨B10, 3, (place.flatMap encI), c11 * 1⟩, ⟨B11, 4, (done.flatMap encB), c12 * 1⟩] [⟨B8, (r_4.g.Edges.flatMap enc_Edge)⟩, ⟨B9, (r_4.c.Gates.flatMap enc_Gate)⟩, ⟨B, (g.Edges.flatMap enc_Edge)⟩, ⟨B1, (c1.Gates.flatMap enc_Gate)⟩, ⟨B2, (route.Start.flatMap encI)⟩, ⟨B3, (route.Steps.flatMap enc_RouteStep)⟩] := hS25
          refine ⟨(ST.sel hS25 [0, 2, 3, 4] rfl rfl), ?_⟩
          refine ra_done (by kernel_rfl) ?_
          refine cw_ret ?_
          obtain ⟨rfl, rfl, rfl⟩ := pr3 (some_inj hF7)
          exact ret3 Try.results155 (v1 := .int .i64 0) (resAt_tmp rfl) (v2 := .int .i64 0) (resAt_tmp rfl) (v3 := .agg #[.int .i64 r_4.g.Nodes, .slice B8 r_4.g.Edges.length c9, .int .i64 r_4.c.Qubits, .slice B9 r_4.c.Gates.length c10, .slice B10 r_4.place.length c11, .slice B11 r_4.done.length c12]) (resAt_cellA (B := some ⟨b3, 0, none⟩) (i := 0) (cs := [.int .i64 r_4.g.Nodes, .slice B8 r_4.g.Edges.length c9, .int .i64 r_4.c.Qubits, .slice B9 r_4.c.Gates.length c10, .slice B10 r_4.place.length c11, .slice B11 r_4.done.length c12]) (vs := [.int .i64 r_4.g.Nodes, .slice B8 r_4.g.Edges.length c9, .int .i64 r_4.c.Qubits, .slice B9 r_4.c.Gates.length c10, .slice B10 r_4.place.length c11, .slice B11 r_4.done.length c12]) (hf.get 8 1 rfl) k_ag_201 k_sz_201_6 (hS25.cf (i := 1) rfl) rfl rfl) ⟨B8, c9, B9, c10, B10, c11, B11, c12, (by simp [hl, hl1]), (len_le rfl hq3), (len_le rfl hq4), (org_cons (org_sub ho1 (subc (mem_at (i := 0) rfl) (fun _ h => by cases h))) (org_cons (org_sub ho1 (subc (mem_at (i := 1) rfl) (fun _ h => by cases h))) org_nil)), (ST.subR (R' := [⟨B8, (r_4.g.Edges.flatMap enc_Edge)⟩, ⟨B9, (r_4.c.Gates.flatMap enc_Gate)⟩]) (hS25.sel [3, 4] rfl rfl) (subc (mem_at (i := 0) rfl) (subc (mem_at (i := 1) rfl) (fun _ h => by cases h))))⟩
        exact allR_nil

theorem c_impl_CheckRoute (g : TCouplingGraph) (c1 : TCircuit) (r_ : TRoute) (B : Option Addr) (c n : Nat) (B1 : Option Addr) (c2 n1 : Nat) (B2 : Option Addr) (c3 n2 : Nat) (B3 : Option Addr) (c4 n3 : Nat) (w0 : World) (hn : g.Edges.length = n) (hq : n ≤ c) (hn1 : c1.Gates.length = n1) (hq1 : n1 ≤ c2) (hn2 : r_.Start.length = n2) (hq2 : n2 ≤ c3) (hn3 : r_.Steps.length = n3) (hS : ST w0 [] w0 [] [⟨B, (g.Edges.flatMap enc_Edge)⟩, ⟨B1, (c1.Gates.flatMap enc_Gate)⟩, ⟨B2, (r_.Start.flatMap encI)⟩, ⟨B3, (r_.Steps.flatMap enc_RouteStep)⟩]) {r_1 : Int} {r_2 : Int} {r_3 : Bool} (hF : F_impl_CheckRoute g c1 r_ = some (r_1, r_2, r_3)) :
    CV Try.prog 58 #[.agg #[.int .i64 g.Nodes, .slice B n c], .agg #[.int .i64 c1.Qubits, .slice B1 n1 c2], .agg #[.slice B2 n2 c3, .slice B3 n3 c4]] w0 (fun v w' => v = .tuple #[.int .i64 r_1, .int .i64 r_2, .bool r_3] ∧ ST w0 [] w' [] []) := by
  subst hn
  subst hn1
  subst hn2
  subst hn3
  unfold F_impl_CheckRoute at hF
  refine cv_of_cw 26 Try.func58 rfl Try.ntmps58 rfl ?_
  refine cw_seq ?_
  refine cw_region ?_
  refine ss 3 rfl rfl (Ys_box (T := 100) (v := .agg #[.int .i64 g.Nodes, .slice B g.Edges.length c]) (cs := [.int .i64 g.Nodes, .slice B g.Edges.length c]) (m := 2) hS rfl rfl rfl rfl) ?_
  rintro _ w_ ⟨b, rfl, hS1⟩
  refine ss 4 rfl rfl (Ys_box (T := 104) (v := .agg #[.int .i64 c1.Qubits, .slice B1 c1.Gates.length c2]) (cs := [.int .i64 c1.Qubits, .slice B1 c1.Gates.length c2]) (m := 2) hS1 rfl rfl rfl rfl) ?_
  rintro _ w_1 ⟨b1, rfl, hS2⟩
  have hS2 : ST w0 [] _ [⟨some ⟨b, 0, none⟩, 100, [.int .i64 g.Nodes, .slice B g.Edges.length c], 2⟩, ⟨some ⟨b1, 0, none⟩, 104, [.int .i64 c1.Qubits, .slice B1 c1.Gates.length c2], 2⟩] [⟨B, (g.Edges.flatMap enc_Edge)⟩, ⟨B1, (c1.Gates.flatMap enc_Gate)⟩, ⟨B2, (r_.Start.flatMap encI)⟩, ⟨B3, (r_.Steps.flatMap enc_RouteStep)⟩] := hS2
  refine ss 5 rfl rfl (Ys_box (T := 108) (v := .agg #[.slice B2 r_.Start.length c3, .slice B3 r_.Steps.length c4]) (cs := [.slice B2 r_.Start.length c3, .slice B3 r_.Steps.length c4]) (m := 2) hS2 rfl rfl rfl rfl) ?_
  rintro _ w_2 ⟨b2, rfl, hS3⟩
  have hS3 : ST w0 [] _ [⟨some ⟨b, 0, none⟩, 100, [.int .i64 g.Nodes, .slice B g.Edges.length c], 2⟩, ⟨some ⟨b1, 0, none⟩, 104, [.int .i64 c1.Qubits, .slice B1 c1.Gates.length c2], 2⟩, ⟨some ⟨b2, 0, none⟩, 108, [.slice B2 r_.Start.length c3, .slice B3 r_.Steps.length c4], 2⟩] [⟨B, (g.Edges.flatMap enc_Edge)⟩, ⟨B1, (c1.Gates.flatMap enc_Gate)⟩, ⟨B2, (r_.Start.flatMap encI)⟩, ⟨B3, (r_.Steps.flatMap enc_RouteStep)⟩] := hS3
  refine sq 6 rfl rfl (Y_assign (v := .int .i64 0) rfl rfl) ?_
  refine sq 7 rfl rfl (Y_assign (v := .int .i64 0) rfl rfl) ?_
  refine sq 8 rfl rfl (Y_assign (v := .bool false) rfl rfl) ?_
  refine rw_nil ?_
  refine cw_seq ?_
  refine cw_seq ?_
  refine cw_region ?_
  refine sq 12 rfl rfl (Y_loadA (B := some ⟨b, 0, none⟩) (i := 0) (cs := [.int .i64 g.Nodes, .slice B g.Edges.length c]) (vs := [.int .i64 g.Nodes, .slice B g.Edges.length c]) k_ag_100 k_sz_100_2 rfl rfl (hS3.cf (i := 0) rfl) rfl rfl) ?_
  refine sq 13 rfl rfl (Y_loadA (B := some ⟨b1, 0, none⟩) (i := 0) (cs := [.int .i64 c1.Qubits, .slice B1 c1.Gates.length c2]) (vs := [.int .i64 c1.Qubits, .slice B1 c1.Gates.length c2]) k_ag_104 k_sz_104_2 rfl rfl (hS3.cf (i := 1) rfl) rfl rfl) ?_
  obtain ⟨r_4, hc, hF⟩ := bind_inv hF
  refine sc 14 rfl rfl (Yc_func (g := 154) (vs := [.agg #[.int .i64 g.Nodes, .slice B g.Edges.length c], .agg #[.int .i64 c1.Qubits, .slice B1 c1.Gates.length c2]]) k_call_154 rfl (mc rfl (mc rfl mn)) (c_impl_canRoute g c1 B c g.Edges.length B1 c2 c1.Gates.length _ rfl rfl (hS3.inn0 [(true, 0), (true, 1)] rfl) hc)) ?_
  rintro _ w_3 ⟨rfl, hd⟩
  have hS4 := hS3.out00 hd
  have hS4 : ST w0 [] _ [⟨some ⟨b, 0, none⟩, 100, [.int .i64 g.Nodes, .slice B g.Edges.length c], 2⟩, ⟨some ⟨b1, 0, none⟩, 104, [.int .i64 c1.Qubits, .slice B1 c1.Gates.length c2], 2⟩, ⟨some ⟨b2, 0, none⟩, 108, [.slice B2 r_.Start.length c3, .slice B3 r_.Steps.length c4], 2⟩] [⟨B, (g.Edges.flatMap enc_Edge)⟩, ⟨B1, (c1.Gates.flatMap enc_Gate)⟩, ⟨B2, (r_.Start.flatMap encI)⟩, ⟨B3, (r_.Steps.flatMap enc_RouteStep)⟩] := hS4
  refine sq 15 rfl rfl (Y_not (p := r_4) rfl rfl) ?_
  refine rw_nil ?_
  refine cw_cond (b := (!r_4)) rfl (fun hb => ?_) (fun hb => ?_)
  · skip
    have hF1 := ct hF hb
    refine cw_seq ?_
    refine cw_region ?_
    refine sq 6 rfl rfl (Y_assign (v := .int .i64 0) rfl rfl) ?_
    refine sq 7 rfl rfl (Y_assign (v := .int .i64 0) rfl rfl) ?_
    refine sq 8 rfl rfl (Y_assign (v := .bool false) rfl rfl) ?_
    refine rw_nil ?_
    refine cw_ret ?_
    obtain ⟨rfl, rfl, rfl⟩ := pr3 (some_inj hF1)
    exact ret3 Try.results58 (v1 := .int .i64 0) (resAt_tmp rfl) (v2 := .int .i64 0) (resAt_tmp rfl) (v3 := .bool false) (resAt_tmp rfl) ⟨rfl, (ST.subR (R' := []) (hS4.sel [] rfl rfl) (fun _ h => by cases h))⟩
  · skip
    have hF2 := cf' hF hb
    refine cw_skip ?_
    refine cw_seq ?_
    refine cw_region ?_
    refine sq 17 rfl rfl (Y_loadA (B := some ⟨b, 0, none⟩) (i := 0) (cs := [.int .i64 g.Nodes, .slice B g.Edges.length c]) (vs := [.int .i64 g.Nodes, .slice B g.Edges.length c]) k_ag_100 k_sz_100_2 rfl rfl (hS4.cf (i := 0) rfl) rfl rfl) ?_
    refine sq 18 rfl rfl (Y_loadA (B := some ⟨b1, 0, none⟩) (i := 0) (cs := [.int .i64 c1.Qubits, .slice B1 c1.Gates.length c2]) (vs := [.int .i64 c1.Qubits, .slice B1 c1.Gates.length c2]) k_ag_104 k_sz_104_2 rfl rfl (hS4.cf (i := 1) rfl) rfl rfl) ?_
    refine sq 19 rfl rfl (Y_loadA (B := some ⟨b2, 0, none⟩) (i := 0) (cs := [.slice B2 r_.Start.length c3, .slice B3 r_.Steps.length c4]) (vs := [.slice B2 r_.Start.length c3, .slice B3 r_.Steps.length c4]) k_ag_108 k_sz_108_2 rfl rfl (hS4.cf (i := 2) rfl) rfl rfl) ?_
    obtain ⟨⟨r_5, r_6, r_7⟩, hc1, hF2⟩ := bind_inv hF2
    refine sc 20 rfl rfl (Yc_func (g := 155) (vs := [.agg #[.int .i64 g.Nodes, .slice B g.Edges.length c], .agg #[.int .i64 c1.Qubits, .slice B1 c1.Gates.length c2], .agg #[.slice B2 r_.Start.length c3, .slice B3 r_.Steps.length c4]]) k_call_155 rfl (mc rfl (mc rfl (mc rfl mn))) (c_impl_check g c1 r_ B c g.Edges.length B1 c2 c1.Gates.length B2 c3 r_.Start.length B3 c4 r_.Steps.length _ rfl hq rfl hq1 rfl hq2 rfl (hS4.inn0 [(true, 0), (true, 1), (true, 2), (true, 3)] rfl) hc1)) ?_
    rintro _ w_4 ⟨B4, c5, B5, c6, B6, c7, B7, c8, rfl, hq3, hq4, ho, hd1⟩
    have hS5 := ST.outR0 hS4 hd1 ho (subc (mem_at (i := 0) rfl) (subc (mem_at (i := 1) rfl) (subc (mem_at (i := 2) rfl) (subc (mem_at (i := 3) rfl) (fun _ h => by cases h)))))
    have ho1 : Org w0 [] [⟨B, (g.Edges.flatMap enc_Edge)⟩, ⟨B1, (c1.Gates.flatMap enc_Gate)⟩, ⟨B2, (r_.Start.flatMap encI)⟩, ⟨B3, (r_.Steps.flatMap enc_RouteStep)⟩] [⟨B4, (r_7.g.Edges.flatMap enc_Edge)⟩, ⟨B5, (r_7.c.Gates.flatMap enc_Gate)⟩] := org_trans0 hS4 ho (org_cons (org_mem (i := 0) rfl) (org_cons (org_mem (i := 1) rfl) (org_cons (org_mem (i := 2) rfl) (org_cons (org_mem (i := 3) rfl) org_nil))))
    have hS6 : ST w0 [] _ [⟨some ⟨b, 0, none⟩, 100, [.int .i64 g.Nodes, .slice B g.Edges.length c], 2⟩, ⟨some ⟨b1, 0, none⟩, 104, [.int .i64 c1.Qubits, .slice B1 c1.Gates.length c2], 2⟩, ⟨some ⟨b2, 0, none⟩, 108, [.slice B2 r_.Start.length c3, .slice B3 r_.Steps.length c4], 2⟩, ⟨B6, 3, (r_7.place.flatMap encI), c7 * 1⟩, ⟨B7, 4, (r_7.done.flatMap encB), c8 * 1⟩] [⟨B4, (r_7.g.Edges.flatMap enc_Edge)⟩, ⟨B5, (r_7.c.Gates.flatMap enc_Gate)⟩, ⟨B, (g.Edges.flatMap enc_Edge)⟩, ⟨B1, (c1.Gates.flatMap enc_Gate)⟩, ⟨B2, (r_.Start.flatMap encI)⟩, ⟨B3, (r_.Steps.flatMap enc_RouteStep)⟩] := hS5
    have hS6 : ST w0 [] _ [⟨some ⟨b, 0, none⟩, 100, [.int .i64 g.Nodes, .slice B g.Edges.length c], 2⟩, ⟨some ⟨b1, 0, none⟩, 104, [.int .i64 c1.Qubits, .slice B1 c1.Gates.length c2], 2⟩, ⟨some ⟨b2, 0, none⟩, 108, [.slice B2 r_.Start.length c3, .slice B3 r_.Steps.length c4], 2⟩, ⟨B6, 3, (r_7.place.flatMap encI), c7 * 1⟩, ⟨B7, 4, (r_7.done.flatMap encB), c8 * 1⟩] [⟨B4, (r_7.g.Edges.flatMap enc_Edge)⟩, ⟨B5, (r_7.c.Gates.flatMap enc_Gate)⟩, ⟨B, (g.Edges.flatMap enc_Edge)⟩, ⟨B1, (c1.Gates.flatMap enc_Gate)⟩, ⟨B2, (r_.Start.flatMap encI)⟩, ⟨B3, (r_.Steps.flatMap enc_RouteStep)⟩] := hS6
    refine sq 16 rfl rfl (Y_move (v := .tuple #[.int .i64 r_5, .int .i64 r_6, .agg #[.int .i64 r_7.g.Nodes, .slice B4 r_7.g.Edges.length c5, .int .i64 r_7.c.Qubits, .slice B5 r_7.c.Gates.length c6, .slice B6 r_7.place.length c7, .slice B7 r_7.done.length c8]]) rfl rfl) ?_
    refine sq 21 rfl rfl (Y_extract (v := .int .i64 r_5) rfl rfl rfl) ?_
    refine sq 22 rfl rfl (Y_extract (v := .int .i64 r_6) rfl rfl rfl) ?_
    refine sq 23 rfl rfl (Y_extract (v := .agg #[.int .i64 r_7.g.Nodes, .slice B4 r_7.g.Edges.length c5, .int .i64 r_7.c.Qubits, .slice B5 r_7.c.Gates.length c6, .slice B6 r_7.place.length c7, .slice B7 r_7.done.length c8]) rfl rfl rfl) ?_
    refine ss 11 rfl rfl (Ys_alloc (T := 201) (cs := [.int .i64 0, .slice none 0 0, .int .i64 0, .slice none 0 0, .slice none 0 0, .slice none 0 0]) (m := 6) hS6 k_zero_201 rfl rfl rfl) ?_
    rintro _ w_5 ⟨b3, rfl, hS7⟩
    have hS7 : ST w0 [] _ [⟨some ⟨b, 0, none⟩, 100, [.int .i64 g.Nodes, .slice B g.Edges.length c], 2⟩, ⟨some ⟨b1, 0, none⟩, 104, [.int .i64 c1.Qubits, .slice B1 c1.Gates.length c2], 2⟩, ⟨some ⟨b2, 0, none⟩, 108, [.slice B2 r_.Start.length c3, .slice B3 r_.Steps.length c4], 2⟩, ⟨B6, 3, (r_7.place.flatMap encI), c7 * 1⟩, ⟨B7, 4, (r_7.done.flatMap encB), c8 * 1⟩, ⟨some ⟨b3, 0, none⟩, 201, [.int .i64 0, .slice none 0 0, .int .i64 0, .slice none 0 0, .slice none 0 0, .slice none 0 0], 6⟩] [⟨B4, (r_7.g.Edges.flatMap enc_Edge)⟩, ⟨B5, (r_7.c.Gates.flatMap enc_Gate)⟩, ⟨B, (g.Edges.flatMap enc_Edge)⟩, ⟨B1, (c1.Gates.flatMap enc_Gate)⟩, ⟨B2, (r_.Start.flatMap encI)⟩, ⟨B3, (r_.Steps.flatMap enc_RouteStep)⟩] := hS7
    refine sq 9 rfl rfl (Y_assign (v := .int .i64 r_5) rfl rfl) ?_
    refine sq 10 rfl rfl (Y_assign (v := .int .i64 r_6) rfl rfl) ?_
    refine ss0 rfl rfl (Ys_store (i := 5) (s := 6) (B := some ⟨b3, 0, none⟩) (T' := 201) (v := .agg #[.int .i64 r_7.g.Nodes, .slice B4 r_7.g.Edges.length c5, .int .i64 r_7.c.Qubits, .slice B5 r_7.c.Gates.length c6, .slice B6 r_7.place.length c7, .slice B7 r_7.done.length c8]) (vs := [.int .i64 r_7.g.Nodes, .slice B4 r_7.g.Edges.length c5, .int .i64 r_7.c.Qubits, .slice B5 r_7.c.Gates.length c6, .slice B6 r_7.place.length c7, .slice B7 r_7.done.length c8]) (k := 0) (cs' := [.int .i64 r_7.g.Nodes, .slice B4 r_7.g.Edges.length c5, .int .i64 r_7.c.Qubits, .slice B5 r_7.c.Gates.length c6, .slice B6 r_7.place.length c7, .slice B7 r_7.done.length c8]) hS7 k_sz_201_6 rfl rfl rfl rfl rfl rfl rfl (Nat.le_of_ble_eq_true rfl) rfl rfl) ?_
    rintro _ w_6 ⟨rfl, hS8⟩
    have hS8 : ST w0 [] _ [⟨some ⟨b, 0, none⟩, 100, [.int .i64 g.Nodes, .slice B g.Edges.length c], 2⟩, ⟨some ⟨b1, 0, none⟩, 104, [.int .i64 c1.Qubits, .slice B1 c1.Gates.length c2], 2⟩, ⟨some ⟨b2, 0, none⟩, 108, [.slice B2 r_.Start.length c3, .slice B3 r_.Steps.length c4], 2⟩, ⟨B6, 3, (r_7.place.flatMap encI), c7 * 1⟩, ⟨B7, 4, (r_7.done.flatMap encB), c8 * 1⟩, ⟨some ⟨b3, 0, none⟩, 201, [.int .i64 r_7.g.Nodes, .slice B4 r_7.g.Edges.length c5, .int .i64 r_7.c.Qubits, .slice B5 r_7.c.Gates.length c6, .slice B6 r_7.place.length c7, .slice B7 r_7.done.length c8], 6⟩] [⟨B4, (r_7.g.Edges.flatMap enc_Edge)⟩, ⟨B5, (r_7.c.Gates.flatMap enc_Gate)⟩, ⟨B, (g.Edges.flatMap enc_Edge)⟩, ⟨B1, (c1.Gates.flatMap enc_Gate)⟩, ⟨B2, (r_.Start.flatMap encI)⟩, ⟨B3, (r_.Steps.flatMap enc_RouteStep)⟩] := hS8
    refine rw_nil ?_
    refine cw_seq ?_
    refine cw_region ?_
    refine sq 24 rfl rfl (Y_move (v := .int .i64 r_5) rfl rfl) ?_
    refine sq 25 rfl rfl (Y_move (v := .int .i64 r_6) rfl rfl) ?_
    refine sq 6 rfl rfl (Y_assign (v := .int .i64 r_5) rfl rfl) ?_
    refine sq 7 rfl rfl (Y_assign (v := .int .i64 r_6) rfl rfl) ?_
    refine sq 8 rfl rfl (Y_assign (v := .bool true) rfl rfl) ?_
    refine rw_nil ?_
    refine cw_ret ?_
    obtain ⟨rfl, rfl, rfl⟩ := pr3 (some_inj hF2)
    exact ret3 Try.results58 (v1 := .int .i64 r_5) (resAt_tmp rfl) (v2 := .int .i64 r_6) (resAt_tmp rfl) (v3 := .bool true) (resAt_tmp rfl) ⟨rfl, (ST.subR (R' := []) (hS8.sel [] rfl rfl) (fun _ h => by cases h))⟩

theorem c_impl_mapped (gates : List TGate) (to_ : List Int) (B : Option Addr) (c n : Nat) (B1 : Option Addr) (c1 n1 : Nat) (w0 : World) (hn : gates.length = n) (hn1 : to_.length = n1) (hS : ST w0 [] w0 [] [⟨B, (gates.flatMap enc_Gate)⟩, ⟨B1, (to_.flatMap encI)⟩]) {r_ : List TGate} (hF : F_impl_mapped gates to_ = some r_) :
    CV Try.prog 165 #[.slice B n c, .slice B1 n1 c1] w0 (fun v w' => ∃ (B2 : Option Addr) (c2 : Nat), v = .slice B2 r_.length c2 ∧ ST w0 [] w' [⟨B2, 213, (r_.flatMap enc_Gate), c2 * 3⟩] []) := by
  subst hn
  subst hn1
  unfold F_impl_mapped at hF
  refine cv_of_cw 39 Try.func165 rfl Try.ntmps165 rfl ?_
  refine cw_seq ?_
  refine cw_region ?_
  refine sq 4 rfl rfl (Y_assign (v := .slice none 0 0) rfl rfl) ?_
  refine rw_nil ?_
  refine cw_seq ?_
  refine cw_region ?_
  refine ss 8 rfl rfl (Ys_bslice0 (s := 3) (e := 213) hS k_sl_102_213 k_sz_213_3 rfl) ?_
  rintro _ w_ ⟨b, rfl, hS1⟩
  refine sq 5 rfl rfl (Y_assign (v := .slice (some ⟨b, 0, none⟩) 0 0) rfl rfl) ?_
  refine rw_nil ?_
  refine cw_seq ?_
  refine cw_seq ?_
  refine cw_region ?_
  refine sq 9 rfl rfl (Y_move (v := .slice B gates.length c) rfl rfl) ?_
  refine sq 10 rfl rfl (Y_len (B := B) (m := gates.length) (c := c) k_sl_102_213 rfl rfl) ?_
  refine sq 11 rfl rfl (Y_move (v := .int .i64 0) rfl rfl) ?_
  refine rw_nil ?_
  obtain ⟨hN, hF⟩ := chk_inv hF
  obtain ⟨z, hz, hF1⟩ := bind_inv hF
  refine cw_block ?_
  refine cw_loop (fun k f w => ∃ (i : Nat) (out : List TGate) (B3 : Option Addr) (c3 : Nat), FF f [(1, .slice B1 to_.length c1), (5, .slice B3 out.length c3), (9, .slice B gates.length c), (10, .int .i64 (gates.length : Int)), (11, .int .i64 (i : Int))] ∧ ST w0 [] w [⟨B3, 213, (out.flatMap enc_Gate), c3 * 3⟩] [⟨B, (gates.flatMap enc_Gate)⟩, ⟨B1, (to_.flatMap encI)⟩] ∧ i + k = gates.length ∧ forN (F_impl_mapped_l1 gates to_) k i out = some z) gates.length ⟨0, [], some ⟨b, 0, none⟩, 0, (FF.cons rfl (FF.cons rfl (FF.cons rfl (FF.cons rfl (FF.cons rfl FF.nil))))), (hS1.sel [0] rfl rfl), Nat.zero_add _, hz⟩ ?_
  rintro k_ f w ⟨i, out, B3, c3, hf, hS2, hik, hL⟩
  refine cw_seq ?_
  refine cw_region ?_
  refine sq 12 rfl rfl (Y_lt (k := .i64) (a := (i : Int)) (b := (gates.length : Int)) rfl (hf.get 11 4 rfl) (hf.get 10 3 rfl)) ?_
  refine rw_nil ?_
  refine cw_seq ?_
  refine cw_cond (b := (decide ((i : Int) < (gates.length : Int)))) rfl (fun hlt => ?_) (fun hlt => ?_)
  · skip
    have hlt1 : i < gates.length := by have h := of_decide_eq_true hlt; omega
    obtain ⟨k_1, rfl⟩ : ∃ k2, k_ = k2 + 1 := ⟨k_ - 1, by omega⟩
    obtain ⟨y, hb, hL1⟩ := forN_go hL
    unfold F_impl_mapped_l1 at hb
    refine cw_skip ?_
    refine cw_seq ?_
    refine cw_block ?_
    refine cw_seq ?_
    refine cw_region ?_
    obtain ⟨x, hx, hb⟩ := bind_inv hb
    refine sq 13 rfl rfl (Y_index (B := B) (m := gates.length) (c := c) (k := .i64) (i := (i : Int)) k_sl_102_213 k_sz_213_3 rfl (hf.get 9 2 rfl) (hf.get 11 4 rfl) (gi_isSome enc_Gate_len rfl (hS2.rf (i := 0) rfl) hx) (getI_nn hx) (getI_ltI hx rfl)) ?_
    refine sq 14 rfl rfl (Y_loadA (B := B) (i := (i : Int).toNat * 3) (cs := (gates.flatMap enc_Gate)) (vs := [.int .i64 x.Kind, .int .i64 x.A, .int .i64 x.B]) k_ag_213 k_sz_213_3 rfl rfl (hS2.rf (i := 0) rfl) (enc_Gate_len x) (gi_seg enc_Gate_len hx)) ?_
    refine ss 7 rfl rfl (Ys_alloc (T := 213) (cs := [.int .i64 0, .int .i64 0, .int .i64 0]) (m := 3) hS2 k_zero_213 rfl rfl rfl) ?_
    rintro _ w_1 ⟨b1, rfl, hS3⟩
    have hS3 : ST w0 [] _ [⟨B3, 213, (out.flatMap enc_Gate), c3 * 3⟩, ⟨some ⟨b1, 0, none⟩, 213, [.int .i64 0, .int .i64 0, .int .i64 0], 3⟩] [⟨B, (gates.flatMap enc_Gate)⟩, ⟨B1, (to_.flatMap encI)⟩] := hS3
    refine ss0 rfl rfl (Ys_store (i := 1) (s := 3) (B := some ⟨b1, 0, none⟩) (T' := 213) (v := .agg #[.int .i64 x.Kind, .int .i64 x.A, .int .i64 x.B]) (vs := [.int .i64 x.Kind, .int .i64 x.A, .int .i64 x.B]) (k := 0) (cs' := [.int .i64 x.Kind, .int .i64 x.A, .int .i64 x.B]) hS3 k_sz_213_3 rfl rfl rfl rfl rfl rfl rfl (Nat.le_of_ble_eq_true rfl) rfl rfl) ?_
    rintro _ w_2 ⟨rfl, hS4⟩
    have hS4 : ST w0 [] _ [⟨B3, 213, (out.flatMap enc_Gate), c3 * 3⟩, ⟨some ⟨b1, 0, none⟩, 213, [.int .i64 x.Kind, .int .i64 x.A, .int .i64 x.B], 3⟩] [⟨B, (gates.flatMap enc_Gate)⟩, ⟨B1, (to_.flatMap encI)⟩] := hS4
    refine rw_nil ?_
    refine cw_seq ?_
    obtain ⟨z1, hz1, hF2⟩ := bind_inv hb
    refine cw_mid (fun f w => ∃ (A : Int), A = z1 ∧ FF f [(1, .slice B1 to_.length c1), (5, .slice B3 out.length c3), (7, pt (some ⟨b1, 0, none⟩) 0), (9, .slice B gates.length c), (10, .int .i64 (gates.length : Int)), (11, .int .i64 (i : Int))] ∧ ST w0 [] w [⟨B3, 213, (out.flatMap enc_Gate), c3 * 3⟩, ⟨some ⟨b1, 0, none⟩, 213, [.int .i64 x.Kind, .int .i64 A, .int .i64 x.B], 3⟩] [⟨B, (gates.flatMap enc_Gate)⟩, ⟨B1, (to_.flatMap encI)⟩]) ?_ ?_
    · skip
      refine cw_seq ?_
      refine cw_region ?_
      refine sq 15 rfl rfl (Y_fieldAddr (B := some ⟨b1, 0, none⟩) (i := 0) (s := 0) k_fd_213_0_0_3 k_sz_3_1 rfl rfl) ?_
      refine sq 16 rfl rfl (Y_load1 (B := some ⟨b1, 0, none⟩) (i := 0) (cs := [.int .i64 x.Kind, .int .i64 x.A, .int .i64 x.B]) (v := .int .i64 x.Kind) k_sc_3 rfl rfl (hS4.cf (i := 1) rfl) rfl) ?_
      refine sq 17 rfl rfl (Y_ne (k := .i64) (a := x.Kind) (b := 12) rfl rfl rfl) ?_
      refine rw_nil ?_
      refine cw_cond (b := (x.Kind != 12)) rfl (fun hb1 => ?_) (fun hb1 => ?_)
      · skip
        have hF3 := ct hz1 hb1
        refine cw_region ?_
        refine sq 18 rfl rfl (Y_move (v := .slice B1 to_.length c1) rfl (hf.get 1 0 rfl)) ?_
        refine sq 19 rfl rfl (Y_fieldAddr (B := some ⟨b1, 0, none⟩) (i := 0) (s := 0) k_fd_213_1_1_3 k_sz_3_1 rfl rfl) ?_
        refine sq 20 rfl rfl (Y_load1 (B := some ⟨b1, 0, none⟩) (i := 1) (cs := [.int .i64 x.Kind, .int .i64 x.A, .int .i64 x.B]) (v := .int .i64 x.A) k_sc_3 rfl rfl (hS4.cf (i := 1) rfl) rfl) ?_
        obtain ⟨x1, hx1, hF3⟩ := bind_inv hF3
        refine sq 21 rfl rfl (Y_index (B := B1) (m := to_.length) (c := c1) (k := .i64) (i := x.A) k_sl_59_3 k_sz_3_1 rfl rfl rfl (gi_isSome encI_len rfl (hS4.rf (i := 1) rfl) hx1) (getI_nn hx1) (getI_ltI hx1 rfl)) ?_
        refine sq 22 rfl rfl (Y_load1 (B := B1) (i := x.A.toNat * 1) (cs := (to_.flatMap encI)) (v := .int .i64 x1) k_sc_3 rfl rfl (hS4.rf (i := 1) rfl) (gi_at0 encI_len hx1 rfl)) ?_
        refine sq 23 rfl rfl (Y_fieldAddr (B := some ⟨b1, 0, none⟩) (i := 0) (s := 0) k_fd_213_1_1_3 k_sz_3_1 rfl rfl) ?_
        refine ss0 rfl rfl (Ys_store (i := 1) (s := 1) (B := some ⟨b1, 0, none⟩) (T' := 213) (v := .int .i64 x1) (vs := [.int .i64 x1]) (k := 1) (cs' := [.int .i64 x.Kind, .int .i64 x1, .int .i64 x.B]) hS4 k_sz_3_1 rfl rfl rfl rfl rfl rfl rfl (Nat.le_of_ble_eq_true rfl) rfl rfl) ?_
        rintro _ w_3 ⟨rfl, hS6⟩
        have hS6 : ST w0 [] _ [⟨B3, 213, (out.flatMap enc_Gate), c3 * 3⟩, ⟨some ⟨b1, 0, none⟩, 213, [.int .i64 x.Kind, .int .i64 x1, .int .i64 x.B], 3⟩] [⟨B, (gates.flatMap enc_Gate)⟩, ⟨B1, (to_.flatMap encI)⟩] := hS6
        refine rw_nil ?_
        exact ⟨x1, (some_inj hF3), (FF.cons (hf.get 1 0 rfl) (FF.cons (hf.get 5 1 rfl) (FF.cons rfl (FF.cons (hf.get 9 2 rfl) (FF.cons (hf.get 10 3 rfl) (FF.cons (hf.get 11 4 rfl) FF.nil)))))), (hS6.sel [0, 1] rfl rfl)⟩
      · skip
        have hF4 := cf' hz1 hb1
        refine cw_skip ?_
        exact ⟨x.A, (some_inj hF4), (FF.cons (hf.get 1 0 rfl) (FF.cons (hf.get 5 1 rfl) (FF.cons rfl (FF.cons (hf.get 9 2 rfl) (FF.cons (hf.get 10 3 rfl) (FF.cons (hf.get 11 4 rfl) FF.nil)))))), (hS4.sel [0, 1] rfl rfl)⟩
    rintro f w ⟨A, rfl, hf1, hS5⟩
    refine cw_seq ?_
    obtain ⟨z2, hz2, hF5⟩ := bind_inv hF2
    refine cw_mid (fun f w => ∃ (B4 : Int), B4 = z2 ∧ FF f [(1, .slice B1 to_.length c1), (5, .slice B3 out.length c3), (7, pt (some ⟨b1, 0, none⟩) 0), (9, .slice B gates.length c), (10, .int .i64 (gates.length : Int)), (11, .int .i64 (i : Int))] ∧ ST w0 [] w [⟨B3, 213, (out.flatMap enc_Gate), c3 * 3⟩, ⟨some ⟨b1, 0, none⟩, 213, [.int .i64 x.Kind, .int .i64 A, .int .i64 B4], 3⟩] [⟨B, (gates.flatMap enc_Gate)⟩, ⟨B1, (to_.flatMap encI)⟩]) ?_ ?_
    · skip
      refine cw_seq ?_
      refine cw_region ?_
      refine sq 24 rfl rfl (Y_fieldAddr (B := some ⟨b1, 0, none⟩) (i := 0) (s := 0) k_fd_213_0_0_3 k_sz_3_1 rfl (hf1.get 7 2 rfl)) ?_
      refine sq 25 rfl rfl (Y_load1 (B := some ⟨b1, 0, none⟩) (i := 0) (cs := [.int .i64 x.Kind, .int .i64 A, .int .i64 x.B]) (v := .int .i64 x.Kind) k_sc_3 rfl rfl (hS5.cf (i := 1) rfl) rfl) ?_
      obtain ⟨r_1, hc, hz2⟩ := bind_inv hz2
      refine sc 26 rfl rfl (Yc_func (g := 250) (vs := [.int .i64 x.Kind]) k_call_250 rfl (mc rfl mn) (c_impl_isTwo x.Kind _  (hS5.inn0 [] rfl) hc)) ?_
      rintro _ w_4 ⟨rfl, hd⟩
      have hS8 := hS5.out00 hd
      have hS8 : ST w0 [] _ [⟨B3, 213, (out.flatMap enc_Gate), c3 * 3⟩, ⟨some ⟨b1, 0, none⟩, 213, [.int .i64 x.Kind, .int .i64 A, .int .i64 x.B], 3⟩] [⟨B, (gates.flatMap enc_Gate)⟩, ⟨B1, (to_.flatMap encI)⟩] := hS8
      refine rw_nil ?_
      refine cw_cond (b := r_1) rfl (fun hb2 => ?_) (fun hb2 => ?_)
      · skip
        have hF6 := ct hz2 hb2
        refine cw_region ?_
        refine sq 27 rfl rfl (Y_move (v := .slice B1 to_.length c1) rfl (hf1.get 1 0 rfl)) ?_
        refine sq 28 rfl rfl (Y_fieldAddr (B := some ⟨b1, 0, none⟩) (i := 0) (s := 0) k_fd_213_2_2_3 k_sz_3_1 rfl (hf1.get 7 2 rfl)) ?_
        refine sq 29 rfl rfl (Y_load1 (B := some ⟨b1, 0, none⟩) (i := 2) (cs := [.int .i64 x.Kind, .int .i64 A, .int .i64 x.B]) (v := .int .i64 x.B) k_sc_3 rfl rfl (hS8.cf (i := 1) rfl) rfl) ?_
        obtain ⟨x2, hx2, hF6⟩ := bind_inv hF6
        refine sq 30 rfl rfl (Y_index (B := B1) (m := to_.length) (c := c1) (k := .i64) (i := x.B) k_sl_59_3 k_sz_3_1 rfl rfl rfl (gi_isSome encI_len rfl (hS8.rf (i := 1) rfl) hx2) (getI_nn hx2) (getI_ltI hx2 rfl)) ?_
        refine sq 31 rfl rfl (Y_load1 (B := B1) (i := x.B.toNat * 1) (cs := (to_.flatMap encI)) (v := .int .i64 x2) k_sc_3 rfl rfl (hS8.rf (i := 1) rfl) (gi_at0 encI_len hx2 rfl)) ?_
        refine sq 32 rfl rfl (Y_fieldAddr (B := some ⟨b1, 0, none⟩) (i := 0) (s := 0) k_fd_213_2_2_3 k_sz_3_1 rfl (hf1.get 7 2 rfl)) ?_
        refine ss0 rfl rfl (Ys_store (i := 1) (s := 1) (B := some ⟨b1, 0, none⟩) (T' := 213) (v := .int .i64 x2) (vs := [.int .i64 x2]) (k := 2) (cs' := [.int .i64 x.Kind, .int .i64 A, .int .i64 x2]) hS8 k_sz_3_1 rfl rfl rfl rfl rfl rfl rfl (Nat.le_of_ble_eq_true rfl) rfl rfl) ?_
        rintro _ w_5 ⟨rfl, hS9⟩
        have hS9 : ST w0 [] _ [⟨B3, 213, (out.flatMap enc_Gate), c3 * 3⟩, ⟨some ⟨b1, 0, none⟩, 213, [.int .i64 x.Kind, .int .i64 A, .int .i64 x2], 3⟩] [⟨B, (gates.flatMap enc_Gate)⟩, ⟨B1, (to_.flatMap encI)⟩] := hS9
        refine rw_nil ?_
        exact ⟨x2, (some_inj hF6), (FF.cons (hf1.get 1 0 rfl) (FF.cons (hf1.get 5 1 rfl) (FF.cons (hf1.get 7 2 rfl) (FF.cons (hf1.get 9 3 rfl) (FF.cons (hf1.get 10 4 rfl) (FF.cons (hf1.get 11 5 rfl) FF.nil)))))), (hS9.sel [0, 1] rfl rfl)⟩
      · skip
        have hF7 := cf' hz2 hb2
        refine cw_skip ?_
        exact ⟨x.B, (some_inj hF7), (FF.cons (hf1.get 1 0 rfl) (FF.cons (hf1.get 5 1 rfl) (FF.cons (hf1.get 7 2 rfl) (FF.cons (hf1.get 9 3 rfl) (FF.cons (hf1.get 10 4 rfl) (FF.cons (hf1.get 11 5 rfl) FF.nil)))))), (hS8.sel [0, 1] rfl rfl)⟩
    rintro f w ⟨B4, rfl, hf2, hS7⟩
    refine cw_region ?_
    refine sq 33 rfl rfl (Y_move (v := .slice B3 out.length c3) rfl (hf2.get 5 1 rfl)) ?_
    refine sq 34 rfl rfl (Y_loadA (B := some ⟨b1, 0, none⟩) (i := 0) (cs := [.int .i64 x.Kind, .int .i64 A, .int .i64 B4]) (vs := [.int .i64 x.Kind, .int .i64 A, .int .i64 B4]) k_ag_213 k_sz_213_3 rfl (hf2.get 7 2 rfl) (hS7.cf (i := 1) rfl) rfl rfl) ?_
    refine ss 35 rfl rfl (Ys_bslice (s := 3) (len := 1) (vs := [(0, .agg #[.int .i64 x.Kind, .int .i64 A, .int .i64 B4])]) (cs := [.int .i64 x.Kind, .int .i64 A, .int .i64 B4]) (zs := [.int .i64 0, .int .i64 0, .int .i64 0]) (m := 3) hS7 k_sl_102_213 k_sz_213_3 k_zc_213 rfl (mpc rfl mpn) rfl rfl rfl (by kernel_rfl) (by kernel_rfl) rfl) ?_
    rintro _ w_6 ⟨b2, rfl, hS10⟩
    have hS10 : ST w0 [] _ [⟨B3, 213, (out.flatMap enc_Gate), c3 * 3⟩, ⟨some ⟨b1, 0, none⟩, 213, [.int .i64 x.Kind, .int .i64 A, .int .i64 B4], 3⟩, ⟨some ⟨b2, 0, none⟩, 213, ([(TGate.mk x.Kind A B4)].flatMap enc_Gate), 1 * 3⟩] [⟨B, (gates.flatMap enc_Gate)⟩, ⟨B1, (to_.flatMap encI)⟩] := hS10
    obtain ⟨hap, hF5⟩ := chk_inv hF5
    refine ss 36 rfl rfl (Ys_append (s := 3) (by' := 24) (i := 0) (nn := out.length) (c := c3) (k := 1) (len := (out ++ [(TGate.mk x.Kind A B4)]).length) (B := B3) (xs := ([(TGate.mk x.Kind A B4)].flatMap enc_Gate)) (cs' := ((out ++ [(TGate.mk x.Kind A B4)]).flatMap enc_Gate)) hS10 k_sl_102_213 k_sz_213_3 k_by_213_24 k_zero_213 rfl (by decide) rfl rfl rfl rfl (fm_lenn (l := out) enc_Gate_len rfl) rfl (hS10.cf (i := 2) rfl) (fm_lenn (l := [(TGate.mk x.Kind A B4)]) enc_Gate_len rfl) (fm_one' (enc := enc_Gate) enc_Gate_one [(TGate.mk x.Kind A B4)]) (by have := hap; omega) (by have := hap; simp only [maxLen]; omega) (fm_app _ _) (app_len (l := out) (l' := [(TGate.mk x.Kind A B4)]) rfl rfl)) ?_
    rintro _ w_7 ⟨B5, c4, rfl, hS11⟩
    have hS11 : ST w0 [] _ [⟨B5, 213, ((out ++ [(TGate.mk x.Kind A B4)]).flatMap enc_Gate), c4 * 3⟩, ⟨some ⟨b1, 0, none⟩, 213, [.int .i64 x.Kind, .int .i64 A, .int .i64 B4], 3⟩, ⟨some ⟨b2, 0, none⟩, 213, ([(TGate.mk x.Kind A B4)].flatMap enc_Gate), 1 * 3⟩] [⟨B, (gates.flatMap enc_Gate)⟩, ⟨B1, (to_.flatMap encI)⟩] := hS11
    refine sq 5 rfl rfl (Y_assign (v := .slice B5 ((out ++ [(TGate.mk x.Kind A B4)]).length) c4) rfl rfl) ?_
    refine rw_nil ?_
    refine cw_region ?_
    refine sq 37 rfl rfl (Y_add (k := .i64) (a := (i : Int)) (b := 1) rfl (hf2.get 11 5 rfl) rfl) ?_
    refine sq 11 rfl rfl (Y_move (v := .int .i64 (IntKind.i64.wrap ((i : Int) + 1))) rfl rfl) ?_
    refine rw_nil ?_
    obtain rfl := some_inj hF5
    exact ⟨k_1, Nat.lt_succ_self _, i + 1, (out ++ [(TGate.mk x.Kind A B4)]), B5, c4, (FF.cons (hf2.get 1 0 rfl) (FF.cons rfl (FF.cons (hf2.get 9 3 rfl) (FF.cons (hf2.get 10 4 rfl) (FF.cons (congrArg (Value.int .i64) (wr_succ hlt1 hN)) FF.nil))))), (hS11.sel [0] rfl rfl), (by omega), hL1⟩
  · skip
    obtain rfl : k_ = 0 := by have h := of_decide_eq_false hlt; omega
    refine cw_exit rfl ?_
    obtain rfl := some_inj hL
    refine cw_seq ?_
    refine cw_region ?_
    refine sq 38 rfl rfl (Y_move (v := .slice B3 out.length c3) rfl (hf.get 5 1 rfl)) ?_
    refine sq 4 rfl rfl (Y_assign (v := .slice B3 out.length c3) rfl rfl) ?_
    refine rw_nil ?_
    refine cw_ret ?_
    obtain rfl := some_inj hF1
    exact ret1 Try.results165 (v1 := .slice B3 out.length c3) (resAt_tmp rfl) ⟨B3, c3, rfl, (ST.subR (R' := []) (hS2.sel [0] rfl rfl) (fun _ h => by cases h))⟩
end Go.VK
